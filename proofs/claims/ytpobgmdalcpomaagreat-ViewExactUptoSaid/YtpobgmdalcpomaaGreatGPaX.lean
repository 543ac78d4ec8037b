/- Pairs: the algebra. -/
import Derived.Test.YtpobgmdalcpomaaGreatGPa2
import Derived.Test.YtpobgmdalcpomaaGreatGBitsE
import Derived.Test.YtpobgmdalcpomaaGreatGAr5
import Derived.Test.YtpobgmdalcpomaaGreatGVw6
import Derived.Test.YtpobgmdalcpomaaGreatGNode2

set_option linter.unusedSimpArgs false
set_option linter.unusedVariables false
namespace Go.Proofs.YtpobgmdalcpomaaGreat
section
open Go.RowKit Go.Ct
section
variable{l X:List Pr}{a:Option Addr}{c M:Nat}{k j:ByteArray}{v z:Int}{w:World}
theorem dt(X:List Pr)(k:ByteArray)(v:Int):(Mk X k v).length<=X.length+1:=by
 unfold Mk
 split
 ·next h=>rw[wK h];split<;>omega
 ·exact Nat.zero_le _
theorem bo(X:List Pr)(k:ByteArray):(rH X k).length<=X.length:=by
 unfold rH
 split
 ·exact Em X k
 ·exact Nat.zero_le _
end
end

/- C-nodes are maps: the plain laws. -/
end Go.Proofs.YtpobgmdalcpomaaGreat
namespace Go.Ct
section
open Go Go.RowKit
def rY(b:Nat)(xs:List Int)(k:Nat):Option Int:=if b.testBit k=true then some (xs.getD (hJ b k) 0) else none
def Al(m:Nat->Option Int):Nat->Nat
 | 0=>0
 | k+1=>if(m k).isSome=true then Al m k ||| 2^k else Al m k
def qI(m:Nat->Option Int):Nat->List Int
 | 0=>[]
 | k+1=>qI m k++(m k).toList
def Lh(m:Nat->Option Int)(i:Nat)(o:Option Int)(k:Nat):Option Int:=if k=i then o else m k
structure BV(b:Nat)(xs:List Int):Prop where
 lt:b<18446744073709551616
 len:xs.length=hJ b 64
 pos:∀i,i<xs.length->1<=xs.getD i 0
theorem T4(m:Nat->Option Int)(j:Nat):∀k,(Al m k).testBit j=(decide (j<k)&&(m j).isSome)
 | 0=>by simp[Al]
 | k+1=>by
  have ih:=T4 m j k
  simp only[Al]
  by_cases hjk:j=k
  ·subst hjk
   by_cases h:(m j).isSome=true
   ·rw[if_pos h,Nat.testBit_or,Nat.testBit_two_pow];simp[h]
   ·rw[if_neg h,ih];simp at h;simp[h]
  ·have h2:(2^k).testBit j=false:=by rw[Nat.testBit_two_pow];exact decide_eq_false (λ h=>hjk h.symm)
   split
   ·rw[Nat.testBit_or,ih,h2,Bool.or_false]
    congr 1
    exact decide_eq_decide.2 (by omega)
   ·rw[ih]
    congr 1
    exact decide_eq_decide.2 (by omega)
theorem Wm(m:Nat->Option Int):∀k,Al m k<2^k
 | 0=>by simp[Al]
 | k+1=>by
  have ih:=Wm m k
  have h2:2^(k+1)=2^k+2^k:=by rw[Nat.pow_succ];omega
  simp only[Al]
  split
  ·refine Nat.or_lt_two_pow (by omega) ?_
   have:=Nat.two_pow_pos k
   omega
  ·omega
theorem Bh{xs:List Int}{i:Nat}(h:i<xs.length):xs.getD i 0∈xs:=by
 rw[gdg,List.getElem?_eq_getElem h]
 exact List.getElem_mem h
theorem L3{m m':Nat->Option Int}:∀n,(∀k,k<n->m k=m' k)->Al m n=Al m' n/\qI m n=qI m' n
 | 0,_=>⟨rfl,rfl⟩
 | n+1,h=>by
  obtain⟨h1,h2⟩:=L3 n λ k hk=>h k (by omega)
  simp only[Al,qI,h1,h2,h n (by omega),and_self]
theorem vC(b:Nat)(k:Nat):∀d,hJ b k<=hJ b (k+d)
 | 0=>Nat.le_refl _
 | d+1=>by have:=vC b k d;rw[<- Nat.add_assoc];simp only[hJ];omega
theorem nV{b k n:Nat}(h:k<n)(hb:b.testBit k=true):hJ b k<hJ b n:=by
 obtain⟨d,rfl⟩:=Nat.exists_eq_add_of_le (Nat.succ_le_of_lt h)
 have:=vC b (k+1) d
 simp only[hJ,hb,if_true] at this
 exact this
theorem Tx{b:Nat}{xs:List Int}(h:xs.length=hJ b 64):∀k,k<=64->qI (rY b xs) k=xs.take (hJ b k)
 | 0,_=>by simp[qI,hJ]
 | k+1,hk=>by
  have ih:=Tx h k (by omega)
  simp only[qI,ih,rY,hJ]
  split
  ·rename_i hb
   have:=nV (n:=64) (by omega) hb
   rw[List.take_add_one,Option.toList,gdg,List.getElem?_eq_getElem (by omega)]
   rfl
  ·simp
theorem ao{b:Nat}{xs:List Int}(h:BV b xs):Al (rY b xs) 64=b/\qI (rY b xs) 64=xs:=by
 refine⟨Nat.eq_of_testBit_eq λ j=>?_,?_⟩
 ·rw[T4]
  by_cases hj:j<64
  ·rw[decide_eq_true hj,Bool.true_and]
   unfold rY
   cases hb:b.testBit j<;>simp
  ·rw[decide_eq_false hj,Bool.false_and]
   exact(Nat.testBit_lt_two_pow (Nat.lt_of_lt_of_le h.lt (Nat.pow_le_pow_right (n:=2) (by decide) (show 64<=j by omega)))).symm
 ·rw[Tx h.len 64 (Nat.le_refl _),<- h.len,List.take_length]
theorem Ah{b b' i:Nat}(h:b.testBit i=false)(hb:∀j,j<64->b'.testBit j=(b.testBit j||decide (j=i))):∀k,k<=64->hJ b' k=hJ b k+if i<k then 1 else 0
 | 0,_=>rfl
 | k+1,hk=>by
  have ih:=Ah h hb k (by omega)
  simp only[hJ,ih,hb k (by omega)]
  by_cases hki:k=i
  ·subst hki
   simp[h]
  ·have:decide (k=i)=false:=decide_eq_false hki
   rw[this,Bool.or_false]
   have e:(i<k+1)↔(i<k):=by omega
   simp only[e]
   omega
def vE(xs:List Int)(p:Nat)(r:Int):List Int:=xs.take p++r::xs.drop p
def xZ(xs:List Int)(p:Nat)(r:Int):List Int:=xs.take p++r::xs.drop (p+1)
def rG(xs:List Int)(p:Nat):List Int:=xs.take p++xs.drop (p+1)
theorem D2{xs:List Int}{p:Nat}(hp:p<=xs.length)(r:Int):(vE xs p r).length=xs.length+1:=by
 simp[vE];omega
theorem uD{xs:List Int}{p:Nat}(hp:p<xs.length)(r:Int):(xZ xs p r).length=xs.length:=by
 simp[xZ];omega
theorem El{xs:List Int}{p:Nat}(hp:p<xs.length):(rG xs p).length+1=xs.length:=by
 simp[rG];omega
theorem Su{xs:List Int}{p:Nat}(hp:p<=xs.length)(r:Int)(q:Nat):(vE xs p r).getD q 0=if q<p then xs.getD q 0 else if q=p then r else xs.getD (q-1) 0:=by
 simp only[vE,gdg]
 by_cases h1:q<p
 ·rw[if_pos h1,List.getElem?_append_left (by simp;omega),List.getElem?_take_of_lt h1]
 ·rw[if_neg h1,List.getElem?_append_right (by simp;omega)]
  have:(xs.take p).length=p:=by simp;omega
  rw[this]
  by_cases h2:q=p
  ·subst h2;simp
  ·obtain⟨d,hd⟩:∃d,q-p=d+1:=⟨q-p-1,by omega⟩
   rw[if_neg h2,hd,List.getElem?_cons_succ,List.getElem?_drop]
   congr 2
   omega
theorem Kb{xs:List Int}{p:Nat}(hp:p<xs.length)(r:Int)(q:Nat):(xZ xs p r).getD q 0=if q=p then r else xs.getD q 0:=by
 simp only[xZ,gdg]
 by_cases h1:q<p
 ·rw[if_neg (by omega),List.getElem?_append_left (by simp;omega),List.getElem?_take_of_lt h1]
 ·rw[List.getElem?_append_right (by simp;omega)]
  have:(xs.take p).length=p:=by simp;omega
  rw[this]
  by_cases h2:q=p
  ·subst h2;simp
  ·obtain⟨d,hd⟩:∃d,q-p=d+1:=⟨q-p-1,by omega⟩
   rw[if_neg h2,hd,List.getElem?_cons_succ,List.getElem?_drop]
   congr 2
   omega
theorem S6{xs:List Int}{p:Nat}(hp:p<xs.length)(q:Nat):(rG xs p).getD q 0=if q<p then xs.getD q 0 else xs.getD (q+1) 0:=by
 simp only[rG,gdg]
 by_cases h1:q<p
 ·rw[if_pos h1,List.getElem?_append_left (by simp;omega),List.getElem?_take_of_lt h1]
 ·rw[if_neg h1,List.getElem?_append_right (by simp;omega)]
  have:(xs.take p).length=p:=by simp;omega
  rw[this,List.getElem?_drop]
  congr 2
  omega
theorem Bl{xs ys:List Int}(h:∀i,i<xs.length->1<=xs.getD i 0)(hy:∀j,j<ys.length->1<=ys.getD j 0∨∃i,i<xs.length/\ys.getD j 0=xs.getD i 0):∀j,j<ys.length->1<=ys.getD j 0:=λ j hj=>by
 rcases hy j hj with h1|⟨i,hi,he⟩
 ·exact h1
 ·rw[he];exact h i hi
section
variable{b i:Nat}{xs:List Int}{r:Int}
theorem Ad(b i:Nat)(j:Nat):(b ||| 2^i).testBit j=(b.testBit j||decide (j=i)):=by
 rw[Nat.testBit_or,Nat.testBit_two_pow]
 congr 1
 exact decide_eq_decide.2 eq_comm
theorem vN(b i:Nat)(j:Nat):(b ^^^ (b &&& 2^i)).testBit j=(b.testBit j&&!decide (j=i)):=by
 rw[Nat.testBit_xor,Nat.testBit_and,Nat.testBit_two_pow]
 have:decide (i=j)=decide (j=i):=decide_eq_decide.2 eq_comm
 rw[this]
 cases b.testBit j<;>cases decide (j=i)<;>rfl
theorem D3(h:BV b xs)(hi:i<64)(hb:b.testBit i=false)(hr:1<=r):BV (b ||| 2^i) (vE xs (hJ b i) r)/\∀k,k<64->rY (b ||| 2^i) (vE xs (hJ b i) r) k=Lh (rY b xs) i (some r) k:=by
 have hc:=Ah hb (λ j _=>Ad b i j)
 have hp:hJ b i<=xs.length:=by
  obtain⟨d,hd⟩:=Nat.exists_eq_add_of_le (Nat.le_of_lt hi)
  rw[h.len,hd]
  exact vC b i d
 refine⟨⟨Nat.or_lt_two_pow (n:=64) h.lt (Nat.pow_lt_pow_right (a:=2) (by decide) hi),?_,Bl h.pos λ j hj=>?_⟩,λ k hk=>?_⟩
 ·rw[D2 hp,hc 64 (Nat.le_refl _),if_pos hi,h.len]
 ·rw[D2 hp] at hj
  rw[Su hp]
  by_cases h1:j<hJ b i
  ·rw[if_pos h1];exact .inr ⟨j,by omega,rfl⟩
  ·rw[if_neg h1]
   by_cases h2:j=hJ b i
   ·rw[if_pos h2];exact .inl hr
   ·rw[if_neg h2];exact .inr ⟨j-1,by omega,rfl⟩
 ·simp only[rY,Lh]
  rw[Ad,hc k (by omega),Su hp]
  by_cases hki:k=i
  ·subst hki;simp
  ·rw[if_neg hki,decide_eq_false hki,Bool.or_false]
   by_cases hbk:b.testBit k=true
   ·rw[if_pos hbk,if_pos hbk]
    congr 1
    by_cases hlt:k<i
    ·have:=nV hlt hbk
     rw[if_neg (show ¬i<k by omega),if_pos (by omega)]
     rfl
    ·have:hJ b i<=hJ b k:=by
      obtain⟨d,hd⟩:=Nat.exists_eq_add_of_le (show i<=k by omega)
      rw[hd];exact vC b i d
     rw[if_pos (show i<k by omega),if_neg (by omega),if_neg (by omega)]
     rfl
   ·rw[if_neg hbk,if_neg hbk]
theorem O9(h:BV b xs)(hi:i<64)(hb:b.testBit i=true)(hr:1<=r):BV b (xZ xs (hJ b i) r)/\∀k,k<64->rY b (xZ xs (hJ b i) r) k=Lh (rY b xs) i (some r) k:=by
 have hp:hJ b i<xs.length:=by rw[h.len];exact nV hi hb
 refine⟨⟨h.lt,by rw[uD hp,h.len],Bl h.pos λ j hj=>?_⟩,λ k hk=>?_⟩
 ·rw[uD hp] at hj
  rw[Kb hp]
  by_cases h2:j=hJ b i
  ·rw[if_pos h2];exact .inl hr
  ·rw[if_neg h2];exact .inr ⟨j,hj,rfl⟩
 ·simp only[rY,Lh]
  rw[Kb hp]
  by_cases hki:k=i
  ·subst hki;rw[if_pos hb,if_pos rfl,if_pos rfl]
  ·rw[if_neg hki]
   by_cases hbk:b.testBit k=true
   ·rw[if_pos hbk,if_pos hbk,if_neg]
    rcases Nat.lt_or_gt_of_ne hki with hlt|hlt
    ·have:=nV hlt hbk;omega
    ·have:=nV hlt hb;omega
   ·rw[if_neg hbk,if_neg hbk]
theorem Pj(h:BV b xs)(hi:i<64)(hb:b.testBit i=true):BV (b ^^^ (b &&& 2^i)) (rG xs (hJ b i))/\∀k,k<64->rY (b ^^^ (b &&& 2^i)) (rG xs (hJ b i)) k=Lh (rY b xs) i none k:=by
 have hp:hJ b i<xs.length:=by rw[h.len];exact nV hi hb
 have hb':(b ^^^ (b &&& 2^i)).testBit i=false:=by rw[vN];simp
 have hc:=Ah (b':=b) hb' (λ j _=>by
  rw[vN]
  by_cases hji:j=i
  ·subst hji;simp[hb]
  ·rw[decide_eq_false hji];simp)
 refine⟨⟨Nat.xor_lt_two_pow (n:=64) h.lt (Nat.lt_of_le_of_lt Nat.and_le_left h.lt),?_,Bl h.pos λ j hj=>?_⟩,λ k hk=>?_⟩
 ·have:=El hp
  have:=hc 64 (Nat.le_refl _)
  rw[if_pos hi] at this
  have:=h.len
  omega
 ·have:=El hp
  rw[S6 hp]
  by_cases h1:j<hJ b i
  ·rw[if_pos h1];exact .inr ⟨j,by omega,rfl⟩
  ·rw[if_neg h1];exact .inr ⟨j+1,by omega,rfl⟩
 ·simp only[rY,Lh]
  have hck:=hc k (by omega)
  rw[vN,S6 hp]
  by_cases hki:k=i
  ·subst hki;simp
  ·rw[if_neg hki,decide_eq_false hki,Bool.not_false,Bool.and_true]
   by_cases hbk:b.testBit k=true
   ·rw[if_pos hbk,if_pos hbk]
    congr 1
    by_cases hlt:k<i
    ·have:=nV hlt hbk
     rw[if_neg (show ¬i<k by omega)] at hck
     rw[if_pos (by omega),hck]
     rfl
    ·have:=nV (show i<k by omega) hb
     rw[if_pos (show i<k by omega)] at hck
     rw[if_neg (by omega),hck]
   ·rw[if_neg hbk,if_neg hbk]
end
end

/- Branches: what Lookup and Sole compute. -/
section
open Go Go.RowKit
end
end Go.Ct
namespace Go.Proofs.YtpobgmdalcpomaaGreat
section
open Go.RowKit Go.Ct
def CV(n:Nd)(xs:List Int)(ys:List Pr):Prop:=n.kind=3/\bL n xs ys
theorem CV.bv{n:Nd}{xs:List Int}{ys:List Pr}{b:Nat}(h:CV n xs ys)(hb:n.bm=(b:Int))(hb2:b<18446744073709551616):BV b xs:=by
 obtain⟨h1,h2⟩:=sB h.1 h.2
 rw[hb,qZ hb2] at h1
 exact⟨hb2,by omega,h2⟩
open Classical in
noncomputable def Kk (n:Nd) (xs:List Int) (ys:List Pr) (b:Nat) (i:Int):Option Int:=if CV n xs ys/\oW b i=true then some (xs.getD (qD b i) 0) else none
open Classical in
noncomputable def Zx (n:Nd) (xs:List Int) (ys:List Pr):Option Int:=if CV n xs ys/\xs.length=1 then some (xs.getD 0 0) else none
theorem rI{b:Nat}{i:Int}(h:oW b i=true):0<=i/\i<64/\b.testBit i.toNat=true/\qD b i=hJ b i.toNat:=by
 simp only[oW,Bool.and_eq_true,decide_eq_true_eq] at h
 exact⟨h.1,h.2.1,h.2.2,by unfold qD;congr 1;omega⟩
theorem xk{b:Nat}{xs:List Int}(h:BV b xs){i:Int}(hh:oW b i=true):qD b i<xs.length:=by
 obtain⟨h1,h2,h3,h4⟩:=rI hh
 rw[h4,h.len]
 exact nV (by omega) h3
section
variable{n:Nd}{xs:List Int}{ys:List Pr}{w:World}{b:Nat}
theorem Zi(hb:n.bm=(b:Int))(hb2:b<18446744073709551616)(hr:pQ w n xs ys):Calls Tryz.prog 134 #[n.v] w λ e w'=>∃r:Bool,e=.returned (.bool r)/\(r=true↔CV n xs ys)/\St w [] [] w':=by
 refine enter Tryz.func134 Tryz.ntmps134 rfl rfl (SF.s0 w) ?_
 simp only[dB]
 simp only[Nd.v,Nd.cells]
 all_goals (refine J0 ?_;refine bM (λ x1=>?_);refine J1 ?_;refine gR ?_;refine kV ?_;refine aA ?_)
 all_goals (first|refine aG ?_|(refine aC ?_;refine bJ ?_)|(refine dG 6 (λ g6=>?_) (λ g6=>?_)<;>(first|refine aG ?_|(refine aC ?_;refine bJ ?_))))
 all_goals (((first|refine aG ?_|(refine aC ?_;(refine aF (c0 (V:=.bool) (hc:=λ w1 hw=>yO (n:=n) hb hb2 (hr.gA hw.done))) (λ x8=>?_);try (refine aB (λ h8=>?_))))));refine cH ?_;refine J1 ?_)
 all_goals
 refine aR Tryz.results134 (λ w hw=>?_)
 refine⟨_,rfl,?_,hw.done⟩
 simp_all[CV]
theorem nI(i:Int)(hb:n.bm=(b:Int))(hb2:b<18446744073709551616)(hr:pQ w n xs ys):Calls Tryz.prog 110 #[n.v,.int .i64 i] w λ e w'=>e=.returned (.tuple #[.int .i64 ((Kk n xs ys b i).getD 0),.bool (Kk n xs ys b i).isSome])/\St w [] [] w':=by
 have e1:=hr.brN
 refine enter Tryz.func110 Tryz.ntmps110 rfl rfl (SF.s2 hr.br hr.pr) ?_
 simp only[dB]
 simp only[Nd.v,Nd.cells,hb,e1]
 all_goals (refine J0 ?_;refine bM (λ x2=>?_);refine J8 ?_;refine aT ?_;refine iU ?_;(refine aF (c0 (V:=.bool) (hc:=λ w1 hw=>by rw[<- e1,<- hb];exact Zi (n:=n) hb hb2 (hr.gA hw.done))) (λ x7=>?_);try (refine aB (λ h7=>?_)));refine As ?_)
 all_goals (first|refine aG ?_|(refine aC ?_;refine aE ?_)|(refine dG 9 (λ g9=>?_) (λ g9=>?_)<;>(first|refine aG ?_|(refine aC ?_;refine aE ?_))))
 all_goals (refine cq ?_;((first|refine aG ?_|(refine aC ?_;(refine aF (cV (hc:=λ w1 hw=>Df hb2 i w1)) (λ x13=>?_);try (refine aB (λ h13=>?_))))));refine Ju ?_;refine aN ?_)
 all_goals
 refine bF (λ c15=>?_) (λ c15=>?_)
 ·try exact nv c15
  all_goals refine qE ?_
  all_goals
   refine bH Tryz.results110 (λ w hw=>?_)
   rw[show Kk n xs ys b i=none from if_neg (by simp_all)];exact⟨rfl,hw.done⟩
 ·try exact nv c15
  all_goals
   have hcv:CV n xs ys:=h7.1 (by simpa using g9)
   have hpl:=xk (hcv.bv hb hb2) c15
  all_goals (refine iW ?_;refine dL [(0,[]),(1,[]),(2,[]),(3,[]),(4,[]),(5,[1]),(6,[]),(7,[]),(8,[]),(9,[])] ?_;refine jP ?_;refine jP ?_;refine aL ?_;((refine bA (i:=5) (hq:=(cV (hc:=λ w1 hw=>Ng hb2 i w1))) (h:=λ x21=>?_);try (refine aK (λ h21=>?_))));refine Cv ?_;refine Oi ?_)
  all_goals
   refine bH Tryz.results110 (λ w hw=>?_)
   rw[show Kk n xs ys b i=some (xs.getD (qD b i) 0) from if_pos ⟨hcv,c15⟩];exact⟨rfl,hw.done⟩
theorem Ho(hb:n.bm=(b:Int))(hb2:b<18446744073709551616)(hr:pQ w n xs ys):Calls Tryz.prog 136 #[n.v] w λ e w'=>e=.returned (.tuple #[.int .i64 ((Zx n xs ys).getD 0),.bool (Zx n xs ys).isSome])/\St w [] [] w':=by
 have e1:=hr.brN
 refine enter Tryz.func136 Tryz.ntmps136 rfl rfl (SF.s2 hr.br hr.pr) ?_
 simp only[dB]
 simp only[Nd.v,Nd.cells,e1]
 all_goals (refine J0 ?_;refine bM (λ x1=>?_);refine J8 ?_;refine aT ?_;refine iU ?_;(refine aF (c0 (V:=.bool) (hc:=λ w1 hw=>by rw[<- e1];exact Zi (n:=n) hb hb2 (hr.gA hw.done))) (λ x5=>?_);try (refine aB (λ h5=>?_)));refine As ?_)
 all_goals (first|refine aG ?_|(refine aC ?_;refine aE ?_)|(refine dG 7 (λ g7=>?_) (λ g7=>?_)<;>(first|refine aG ?_|(refine aC ?_;refine aE ?_))))
 all_goals ((first|refine aG ?_|(refine aC ?_;refine bJ ?_));(first|refine aG ?_|(refine aC ?_;refine dW ?_));refine U8 ?_;refine aN ?_)
 all_goals
 refine bF (λ c12=>?_) (λ c12=>?_)
 ·try exact nv c12
  all_goals refine qE ?_
  all_goals
   refine bH Tryz.results136 (λ w hw=>?_)
   rw[show Zx n xs ys=none from if_neg (by simp_all;try omega)];exact⟨rfl,hw.done⟩
 ·try exact nv c12
  all_goals
   have hcv:CV n xs ys:=h5.1 (by simpa using g7)
   have hl1:xs.length=1:=by omega
  all_goals (refine aZ ?_;refine gR ?_;refine aH (bW (k:=0) rf rf fG bU fin (by omega) (by omega)) rfl ?_;refine bJ ?_;refine J8 ?_)
  all_goals
   refine bH Tryz.results136 (λ w hw=>?_)
   rw[show Zx n xs ys=some (xs.getD 0 0) from if_pos ⟨hcv,hl1⟩];exact⟨rfl,hw.done⟩
end
end

/- Branches: a C-node of a bitmap and a list. -/
section
open Go.RowKit Go.Ct
def cn(b:Nat)(xs:List Int)(x:Option Addr×Nat):Nd:={Nd.zero with kind:=3,bm:=(b:Int),brA:=x.1,brN:=xs.length,brC:=x.2}
theorem vt{b:Nat}{xs:List Int}(h:BV b xs)(x:Option Addr×Nat){p:Int}(hp:0<=p):CV {cn b xs x with prev:=p} xs [] :=
 ⟨rfl,by simp[qQ,Nd.own,Nd.jY,Nd.jF,cn],by simp[cn,Nd.zero],hp,by simp[cn,Nd.zero],.inr (.inr (.inl ⟨rfl,by show(xs.length:Int)=xP (b:Int);rw[qZ h.lt,h.len],h.pos⟩))⟩
theorem o7{b:Nat}{xs:List Int}(h:BV b xs)(x:Option Addr×Nat):CV (cn b xs x) xs []:=vt h x (p:=0) (Int.le_refl _)
end

/- Tombs: Untombed, Contracted, Grown, Shrunk: both sides. -/
section
open Go.RowKit Go.Ct
def zv(s:Nd):Nd:={Nd.zero with kind:=5,hash:=s.hash,key:=s.key,val:=s.val}
def Fp(n:Nd):Nd:=if n.kind=5 then{Nd.zero with kind:=4,hash:=n.hash,key:=n.key,val:=n.val} else Nd.zero
theorem Gm(n:Nd)(w:World):Calls Tryz.prog 112 #[n.v] w λ e w'=>e=.returned (.tuple #[(Fp n).v,.bool (decide (n.kind=5))])/\St w [] [] w':=by
 refine enter Tryz.func112 Tryz.ntmps112 rfl rfl (SF.s0 w) ?_
 simp only[dB]
 simp only[Nd.v,Nd.cells]
 all_goals (refine J0 ?_;refine bM (λ x1=>?_);refine aY (λ x2=>?_);refine iI ?_;refine gR ?_;refine lY ?_;refine aN ?_)
 all_goals
 refine bF (λ c6=>?_) (λ c6=>?_)
 ·try exact nv c6
  all_goals (refine J0 ?_;refine bV ?_;refine Cw ?_)
  all_goals
   refine bH Tryz.results112 (λ w hw=>?_)
   exact⟨by rw[show Fp n=Nd.zero from if_neg (by assumption),decide_eq_false (by assumption)];rfl,hw.done⟩
 ·try exact nv c6
  all_goals (refine aZ ?_;refine gR ?_;refine J3 ?_;refine J3 ?_;refine bV ?_;refine Cw ?_)
  all_goals
   refine bH Tryz.results112 (λ w hw=>?_)
   exact⟨by rw[show Fp n={Nd.zero with kind:=4,hash:=n.hash,key:=n.key,val:=n.val} from if_pos (by omega),decide_eq_true (by omega)];rfl,hw.done⟩
section
variable{n s:Nd}{xs:List Int}{ys:List Pr}{w:World}{b:Nat}
def LV(n:Nd)(xs:List Int)(ys:List Pr):Prop:=n.kind=6/\bL n xs ys
theorem M6(hb:n.bm=(b:Int))(hb2:b<18446744073709551616)(hr:pQ w n xs ys):Calls Tryz.prog 148 #[n.v] w λ e w'=>∃r:Bool,e=.returned (.bool r)/\(r=true↔LV n xs ys)/\St w [] [] w':=by
 refine enter Tryz.func148 Tryz.ntmps148 rfl rfl (SF.s0 w) ?_
 simp only[dB]
 simp only[Nd.v,Nd.cells]
 all_goals (refine J0 ?_;refine bM (λ x1=>?_);refine J1 ?_;refine gR ?_;refine kV ?_;refine aA ?_)
 all_goals (first|refine aG ?_|(refine aC ?_;refine bJ ?_)|(refine dG 6 (λ g6=>?_) (λ g6=>?_)<;>(first|refine aG ?_|(refine aC ?_;refine bJ ?_))))
 all_goals (((first|refine aG ?_|(refine aC ?_;(refine aF (c0 (V:=.bool) (hc:=λ w1 hw=>yO (n:=n) hb hb2 (hr.gA hw.done))) (λ x8=>?_);try (refine aB (λ h8=>?_))))));refine cH ?_;refine J1 ?_)
 all_goals
 refine aR Tryz.results148 (λ w hw=>?_)
 refine⟨_,rfl,?_,hw.done⟩
 simp_all[LV]
open Classical in
noncomputable def Qy (n:Nd) (xs:List Int) (ys:List Pr) (level:Int) (s:Nd):Bool:=decide ((Zx n xs ys).isSome=true/\0<level/\s.kind=4)
def ld(t:Bool)(n s:Nd):Nd:=if t=true then zv s else n
def b9{α:Type}(t:Bool)(l:List α):List α:=if t=true then [] else l
theorem Cs(level:Int)(s:Nd)(hb:n.bm=(b:Int))(hb2:b<18446744073709551616)(hr:pQ w n xs ys):Calls Tryz.prog 114 #[n.v,.int .i64 level,s.v] w λ e w'=>e=.returned (ld (Qy n xs ys level s) n s).v/\St w [] [] w':=by
 refine enter Tryz.func114 Tryz.ntmps114 rfl rfl (SF.s0 w) ?_
 simp only[dB]
 simp only[Nd.v,Nd.cells]
 all_goals (refine J0 ?_;refine bM (λ x3=>?_);refine bM (λ x5=>?_);refine aY (λ x6=>?_);refine Iz ?_;refine iU ?_;(refine aF (cV (hc:=λ w1 hw=>Ho (n:=n) hb hb2 (hr.gA hw.done))) (λ x11=>?_);try (refine aB (λ h11=>?_)));refine aA ?_;refine aH (bX rf rfl) rfl ?_;refine aH (bX rf rfl) rfl ?_;refine J8 ?_;refine jE ?_)
 all_goals (first|refine aG ?_|(refine aC ?_;refine aA ?_)|(refine dG 15 (λ g15=>?_) (λ g15=>?_)<;>(first|refine aG ?_|(refine aC ?_;refine aA ?_))))
 all_goals (refine xV ?_;refine aA ?_)
 all_goals (first|refine aG ?_|(refine aC ?_;refine aE ?_)|(refine dG 19 (λ g19=>?_) (λ g19=>?_)<;>(first|refine aG ?_|(refine aC ?_;refine aE ?_))))
 all_goals (refine q9 ?_;refine aN ?_)
 all_goals
 refine bF (λ c23=>?_) (λ c23=>?_)
 ·try exact nv c23
  all_goals (refine gR ?_;refine J3 ?_;refine J3 ?_;refine zN ?_)
  all_goals
   refine bH Tryz.results114 (λ w hw=>?_)
   rw[show Qy n xs ys level s=true from decide_eq_true ⟨by assumption,by omega,by omega⟩];exact⟨rfl,hw.done⟩
 ·try exact nv c23
  all_goals (refine aZ ?_;refine iU ?_;refine J5 ?_)
  all_goals
   refine bH Tryz.results114 (λ w hw=>?_)
   rw[show Qy n xs ys level s=false from decide_eq_false (by rintro ⟨t1,t2,t3⟩;first|omega|(clear hw;simp_all;done))];exact⟨rfl,hw.done⟩
end
end

/- Tombs: Grown, Shrunk: both sides; agrees. -/
section
open Go.RowKit Go.Ct
def ap(o:Option (List Pr))(h:Int)(x:Option Addr×Nat):Nd:=match o with|some m=>{Nd.zero with kind:=6,hash:=h,prA:=x.1,prN:=m.length,dI:=x.2}|none=>Nd.zero
def Wg(o:Option (List Pr)):List Pr:=o.getD []
def Lg(o:Option (List Pr))(h:Int)(x:Option Addr×Nat):Nd:=match o with|some m=>if m.length=1 then{Nd.zero with kind:=5,hash:=h,key:=(m.getD 0 (⟨#[]⟩,0)).1,val:=(m.getD 0 (⟨#[]⟩,0)).2} else{Nd.zero with kind:=6,hash:=h,prA:=x.1,prN:=m.length,dI:=x.2}|none=>Nd.zero
def Gk(o:Option (List Pr)):List Pr:=match o with|some m=>if m.length=1 then [] else m|none=>[]
open Classical in
noncomputable def kS (n:Nd) (xs:List Int) (ys:List Pr) (k:ByteArray) (v:Int):Option (List Pr):=if LV n xs ys/\k.size<=64 then some (Mk ys k v) else none
open Classical in
noncomputable def oZ (n:Nd) (xs:List Int) (ys:List Pr) (k:ByteArray):Option (List Pr):=if LV n xs ys/\(eI ys k).isSome=true then some (rH ys k) else none
def xm(w:World)(o:Option (List Pr))(h:Int)(e:Ending)(w':World):Prop:=∃x:Option Addr×Nat,e=.returned (.tuple #[(ap o h x).v,.bool o.isSome])/\(Wg o).length<=x.2/\SF w [] [] [] [(x.1,dI (Wg o))] [] w'
def ui(w:World)(o:Option (List Pr))(h:Int)(e:Ending)(w':World):Prop:=∃x:Option Addr×Nat,e=.returned (.tuple #[(Lg o h x).v,.bool o.isSome])/\(Gk o).length<=x.2/\SF w [] [] [] [(x.1,dI (Gk o))] [] w'
section
variable{n s:Nd}{xs:List Int}{ys:List Pr}{w:World}{b:Nat}
theorem Qn(k:ByteArray)(v:Int)(hb:n.bm=(b:Int))(hb2:b<18446744073709551616)(hr:pQ w n xs ys)(hy:ys.length<=150000000000):Calls Tryz.prog 138 #[n.v,.string k,.int .u64 v] w (xm w (kS n xs ys k v) n.hash):=by
 have e2:=hr.prN
 refine enter Tryz.func138 Tryz.ntmps138 rfl rfl (SF.s1 hr.pr) ?_
 simp only[dB]
 simp only[Nd.v,Nd.cells,e2]
 all_goals (refine J0 ?_;refine bM (λ x3=>?_);refine aY (λ x6=>?_);refine iI ?_;refine iU ?_;(refine aF (c0 (V:=.bool) (hc:=λ w1 hw=>by rw[<- e2];exact M6 (n:=n) hb hb2 (hr.gA hw.done))) (λ x9=>?_);try (refine aB (λ h9=>?_)));refine As ?_)
 all_goals (first|refine aG ?_|(refine aC ?_;refine aA ?_)|(refine dG 11 (λ g11=>?_) (λ g11=>?_)<;>(first|refine aG ?_|(refine aC ?_;refine aA ?_))))
 all_goals ((first|refine aG ?_|(refine aC ?_;refine lR ?_));refine xV ?_;refine aN ?_)
 all_goals
 refine bF (λ c15=>?_) (λ c15=>?_)
 ·try exact nv c15
  all_goals (refine J0 ?_;refine bV ?_;refine Cw ?_)
  all_goals
   refine bH Tryz.results138 (λ w hw=>?_)
   rw[show kS n xs ys k v=none from if_neg (by rintro ⟨t1,t2⟩;have:=h9.2 t1;clear hw;first|omega|(simp_all;done)|(simp_all;omega))];exact⟨(none,0),rfl,Nat.le_refl _,(hw.Jn none).fin⟩
 ·try exact nv c15
  all_goals (refine iW ?_;refine dL [(0,[]),(1,[]),(2,[]),(3,[]),(4,[]),(5,[]),(6,[1]),(7,[]),(8,[]),(9,[])] ?_;refine jP ?_;refine jP ?_;refine gD ?_;((refine bA (i:=6) (hq:=(cF (hc:=λ w1 hw=>Wq (l:=ys) k v (hw.cl fin) (by omega)))) (h:=λ x23=>?_);try (refine aK (λ h23=>?_))));refine eT ?_;refine Bp ?_)
  all_goals
   refine bH Tryz.results138 (λ w hw=>?_)
   rw[show kS n xs ys k v=some (Mk ys k v) from if_pos ⟨h9.1 (by clear hw;simp_all),by omega⟩];exact⟨x23,rfl,h23,hw.fin⟩
theorem Lv(k:ByteArray)(hb:n.bm=(b:Int))(hb2:b<18446744073709551616)(hr:pQ w n xs ys)(hy:ys.length<=150000000000):Calls Tryz.prog 142 #[n.v,.string k] w (ui w (oZ n xs ys k) n.hash):=by
 have e2:=hr.prN
 refine enter Tryz.func142 Tryz.ntmps142 rfl rfl (SF.s1 hr.pr) ?_
 simp only[dB]
 simp only[Nd.v,Nd.cells,e2]
 all_goals (refine J0 ?_;refine bM (λ x2=>?_);refine aY (λ x4=>?_);refine iI ?_;refine gR ?_;refine aA ?_;(refine aF (cV (hc:=λ w1 hw=>Hd (l:=ys) k (hw.cl fin) (by omega))) (λ x13=>?_);try (refine aB (λ h13=>?_)));refine aA ?_;refine aH (bX rf rfl) rfl ?_;refine aH (bX rf rfl) rfl ?_;refine J8 ?_;refine iU ?_;(refine aF (c0 (V:=.bool) (hc:=λ w1 hw=>by rw[<- e2];exact M6 (n:=n) hb hb2 (hr.gA hw.done))) (λ x17=>?_);try (refine aB (λ h17=>?_)));refine As ?_)
 all_goals (first|refine aG ?_|(refine aC ?_;refine aA ?_)|(refine dG 19 (λ g19=>?_) (λ g19=>?_)<;>(first|refine aG ?_|(refine aC ?_;refine aA ?_))))
 all_goals (refine Ju ?_;refine aN ?_)
 all_goals
 refine bF (λ c22=>?_) (λ c22=>?_)
 ·try exact nv c22
  all_goals (refine J0 ?_;refine bV ?_;refine Cw ?_)
  all_goals
   refine bH Tryz.results142 (λ w hw=>?_)
   rw[show oZ n xs ys k=none from if_neg (by rintro ⟨t1,t2⟩;have:=h17.2 t1;clear hw;simp_all)];exact⟨(none,0),rfl,Nat.le_refl _,(hw.Jn none).fin⟩
 ·try exact nv c22
  all_goals (refine aZ ?_;refine gR ?_;refine aA ?_;(refine aF (cF (hc:=λ w1 hw=>Vo (l:=ys) k (hw.cl fin) (by omega))) (λ x27=>?_);try (refine aB (λ h27=>?_)));refine iI ?_;refine J2 ?_;refine dW ?_;refine tE ?_)
  all_goals
   refine bF (λ c30=>?_) (λ c30=>?_)
   ·try exact nv c30
    all_goals (refine aT ?_;refine eE [0,1,2,3,4,5,6,7,8,9,10,11,12] ?_;refine jP ?_;refine aL ?_;refine bP (i:=3) (hq:=(F6 (k:=0) rf rf fG dS fin (by omega) (by omega))) (h:=?_);refine jP ?_;refine aL ?_;refine bP (i:=7) (hq:=(F6 (k:=0) rf rf fG dS fin (by omega) (by omega))) (h:=?_);refine aX ?_;refine bP (i:=9) (hq:=(M9 (q:=0) (lst:=rH ys k) rf bU fin (by omega))) (h:=?_);refine eT ?_;refine Bp ?_)
    all_goals
    refine bH Tryz.results142 (λ w hw=>?_)
    have e1:(rH ys k).length=1:=by omega
    rw[show oZ n xs ys k=some (rH ys k) from if_pos ⟨h17.1 (by clear hw;simp_all),by clear hw;simp_all⟩];exact⟨(none,0),by simp only[Lg,if_pos e1];rfl,by simp only[Gk,if_pos e1];exact Nat.le_refl _,by simp only[Gk,if_pos e1];exact(hw.Jn none).fin⟩
   ·try exact nv c30
    all_goals (refine aZ ?_;refine gR ?_;refine aA ?_;refine bV ?_;refine Cw ?_)
    all_goals
    refine bH Tryz.results142 (λ w hw=>?_)
    have e1:¬(rH ys k).length=1:=by omega
    rw[show oZ n xs ys k=some (rH ys k) from if_pos ⟨h17.1 (by clear hw;simp_all),by clear hw;simp_all⟩];exact⟨x27,by simp only[Lg,if_neg e1];rfl,by simp only[Gk,if_neg e1];exact h27,by simp only[Gk,if_neg e1];exact hw.fin⟩
end
end

/- Branches: lists of lists, joined; the C-node of them. -/
end Go.Proofs.YtpobgmdalcpomaaGreat
namespace Go.Ct
section
open Go Go.RowKit
section
variable{P:Program}{n:Nat}{S:List (Nat×Value)}
variable{w0 w w':World}{M:List Nat}{H H':List (Nat×Obj)}{A F F':Fr}{O O':List Ow}{G:World->Prop}
variable{d:Nat}{ty:TypeId}{pos:String}{af:Array Edge}{gd:Option (Nat×Bool)}{dst:Option Nat}{x y z:Operand}{t t2 e:TypeId}{p a:Option Addr}{i m k c c2:Nat}
end
end
end Go.Ct
namespace Go.Proofs.YtpobgmdalcpomaaGreat
section
open Go Go.RowKit Go.Ct
end

/- Branches: Inserted, Updated, Removed. -/
section
open Go.RowKit Go.Ct
open Classical in
noncomputable def cm (n:Nd) (xs:List Int) (ys:List Pr) (b:Nat) (i r:Int):Option (Nat×List Int):=if CV n xs ys/\(0<=i/\i<64)/\1<=r/\oW b i=false then some (eA b i,vE xs (qD b i) r) else none
open Classical in
noncomputable def cr (n:Nd) (xs:List Int) (ys:List Pr) (b:Nat) (i r:Int):Option (Nat×List Int):=if CV n xs ys/\1<=r/\oW b i=true then some (b,xZ xs (qD b i) r) else none
open Classical in
noncomputable def cf (n:Nd) (xs:List Int) (ys:List Pr) (b:Nat) (i:Int):Option (Nat×List Int):=if CV n xs ys/\oW b i=true then some (vJ b i,rG xs (qD b i)) else none
def mF(o:Option (Nat×List Int))(x:Option Addr×Nat):Nd:=match o with|some q=>cn q.1 q.2 x|none=>Nd.zero
def lU(o:Option (Nat×List Int)):List Int:=match o with|some q=>q.2|none=>[]
def Vk(w:World)(o:Option (Nat×List Int))(e:Ending)(w':World):Prop:=∃x:Option Addr×Nat,e=.returned (.tuple #[(mF o x).v,.bool o.isSome])/\(lU o).length<=x.2/\SF w [] [] [] [(x.1,aJ (lU o))] [] w'
section
variable{n:Nd}{xs:List Int}{ys:List Pr}{w:World}{b:Nat}
end
end

end Go.Proofs.YtpobgmdalcpomaaGreat
