/- C-nodes are maps: the plain laws. -/
import Derived.Test.YtbajmaoegmbfgaaGreatGBitsE
import Derived.Test.YtbajmaoegmbfgaaGreatAuto

set_option linter.unusedSimpArgs false
set_option linter.unusedVariables false
namespace Go.Ct
section
open Go Go.RowKit
def qU(b:Nat)(xs:List Int)(k:Nat):Option Int:=if b.testBit k=true then some (xs.getD (gC b k) 0) else none
def Be(m:Nat->Option Int):Nat->Nat
 | 0=>0
 | k+1=>if(m k).isSome=true then Be m k ||| 2^k else Be m k
def pD(m:Nat->Option Int):Nat->List Int
 | 0=>[]
 | k+1=>pD m k++(m k).toList
def Nb(m:Nat->Option Int)(i:Nat)(o:Option Int)(k:Nat):Option Int:=if k=i then o else m k
structure BV(b:Nat)(xs:List Int):Prop where
 lt:b<18446744073709551616
 len:xs.length=gC b 64
 pos:∀i,i<xs.length->1<=xs.getD i 0
theorem T6(m:Nat->Option Int)(j:Nat):∀k,(Be m k).testBit j=(decide (j<k)&&(m j).isSome)
 | 0=>by simp[Be]
 | k+1=>by
  have ih:=T6 m j k
  simp only[Be]
  by_cases hjk:j=k
  ·subst hjk
   by_cases h:(m j).isSome=true
   ·rw[if_pos h,Nat.testBit_or,Nat.testBit_two_pow];simp[h]
   ·rw[if_neg h,ih];simp at h;simp[h]
  ·have h2:(2^k).testBit j=false:=by rw[Nat.testBit_two_pow];exact decide_eq_false (λ h=>hjk h.symm)
   split
   ·rw[Nat.testBit_or,ih,h2,Bool.or_false]
    congr 1
    exact decide_eq_decide.2 (by omega)
   ·rw[ih]
    congr 1
    exact decide_eq_decide.2 (by omega)
theorem dt(m:Nat->Option Int):∀k,Be m k<2^k
 | 0=>by simp[Be]
 | k+1=>by
  have ih:=dt m k
  have h2:2^(k+1)=2^k+2^k:=by rw[Nat.pow_succ];omega
  simp only[Be]
  split
  ·refine Nat.or_lt_two_pow (by omega) ?_
   have:=Nat.two_pow_pos k
   omega
  ·omega
theorem Bm{xs:List Int}{i:Nat}(h:i<xs.length):xs.getD i 0∈xs:=by
 rw[jH,List.getElem?_eq_getElem h]
 exact List.getElem_mem h
theorem Oq{m m':Nat->Option Int}:∀n,(∀k,k<n->m k=m' k)->Be m n=Be m' n/\pD m n=pD m' n
 | 0,_=>⟨rfl,rfl⟩
 | n+1,h=>by
  obtain⟨h1,h2⟩:=Oq n λ k hk=>h k (by omega)
  simp only[Be,pD,h1,h2,h n (by omega),and_self]
theorem wK(b:Nat)(k:Nat):∀d,gC b k<=gC b (k+d)
 | 0=>Nat.le_refl _
 | d+1=>by have:=wK b k d;rw[<- Nat.add_assoc];simp only[gC];omega
theorem oI{b k n:Nat}(h:k<n)(hb:b.testBit k=true):gC b k<gC b n:=by
 obtain⟨d,rfl⟩:=Nat.exists_eq_add_of_le (Nat.succ_le_of_lt h)
 have:=wK b (k+1) d
 simp only[gC,hb,if_true] at this
 exact this
theorem Vu{b:Nat}{xs:List Int}(h:xs.length=gC b 64):∀k,k<=64->pD (qU b xs) k=xs.take (gC b k)
 | 0,_=>by simp[pD,gC]
 | k+1,hk=>by
  have ih:=Vu h k (by omega)
  simp only[pD,ih,qU,gC]
  split
  ·rename_i hb
   have:=oI (n:=64) (by omega) hb
   rw[List.take_add_one,Option.toList,jH,List.getElem?_eq_getElem (by omega)]
   rfl
  ·simp
theorem Rh{b:Nat}{xs:List Int}(h:BV b xs):Be (qU b xs) 64=b/\pD (qU b xs) 64=xs:=by
 refine⟨Nat.eq_of_testBit_eq λ j=>?_,?_⟩
 ·rw[T6]
  by_cases hj:j<64
  ·rw[decide_eq_true hj,Bool.true_and]
   unfold qU
   cases hb:b.testBit j<;>simp
  ·rw[decide_eq_false hj,Bool.false_and]
   exact(Nat.testBit_lt_two_pow (Nat.lt_of_lt_of_le h.lt (Nat.pow_le_pow_right (n:=2) (by decide) (show 64<=j by omega)))).symm
 ·rw[Vu h.len 64 (Nat.le_refl _),<- h.len,List.take_length]
theorem zY{b b' i:Nat}(h:b.testBit i=false)(hb:∀j,j<64->b'.testBit j=(b.testBit j||decide (j=i))):∀k,k<=64->gC b' k=gC b k+if i<k then 1 else 0
 | 0,_=>rfl
 | k+1,hk=>by
  have ih:=zY h hb k (by omega)
  simp only[gC,ih,hb k (by omega)]
  by_cases hki:k=i
  ·subst hki
   simp[h]
  ·have:decide (k=i)=false:=decide_eq_false hki
   rw[this,Bool.or_false]
   have e:(i<k+1)↔(i<k):=by omega
   simp only[e]
   omega
def wM(xs:List Int)(p:Nat)(r:Int):List Int:=xs.take p++r::xs.drop p
def zR(xs:List Int)(p:Nat)(r:Int):List Int:=xs.take p++r::xs.drop (p+1)
def rP(xs:List Int)(p:Nat):List Int:=xs.take p++xs.drop (p+1)
theorem Gm{xs:List Int}{p:Nat}(hp:p<=xs.length)(r:Int):(wM xs p r).length=xs.length+1:=by
 simp[wM];omega
theorem vC{xs:List Int}{p:Nat}(hp:p<xs.length)(r:Int):(zR xs p r).length=xs.length:=by
 simp[zR];omega
theorem G4{xs:List Int}{p:Nat}(hp:p<xs.length):(rP xs p).length+1=xs.length:=by
 simp[rP];omega
theorem Vo{xs:List Int}{p:Nat}(hp:p<=xs.length)(r:Int)(q:Nat):(wM xs p r).getD q 0=if q<p then xs.getD q 0 else if q=p then r else xs.getD (q-1) 0:=by
 simp only[wM,jH]
 by_cases h1:q<p
 ·rw[if_pos h1,List.getElem?_append_left (by simp;omega),List.getElem?_take_of_lt h1]
 ·rw[if_neg h1,List.getElem?_append_right (by simp;omega)]
  have:(xs.take p).length=p:=by simp;omega
  rw[this]
  by_cases h2:q=p
  ·subst h2;simp
  ·obtain⟨d,hd⟩:∃d,q-p=d+1:=⟨q-p-1,by omega⟩
   rw[if_neg h2,hd,List.getElem?_cons_succ,List.getElem?_drop]
   congr 2
   omega
theorem L5{xs:List Int}{p:Nat}(hp:p<xs.length)(r:Int)(q:Nat):(zR xs p r).getD q 0=if q=p then r else xs.getD q 0:=by
 simp only[zR,jH]
 by_cases h1:q<p
 ·rw[if_neg (by omega),List.getElem?_append_left (by simp;omega),List.getElem?_take_of_lt h1]
 ·rw[List.getElem?_append_right (by simp;omega)]
  have:(xs.take p).length=p:=by simp;omega
  rw[this]
  by_cases h2:q=p
  ·subst h2;simp
  ·obtain⟨d,hd⟩:∃d,q-p=d+1:=⟨q-p-1,by omega⟩
   rw[if_neg h2,hd,List.getElem?_cons_succ,List.getElem?_drop]
   congr 2
   omega
theorem Wg{xs:List Int}{p:Nat}(hp:p<xs.length)(q:Nat):(rP xs p).getD q 0=if q<p then xs.getD q 0 else xs.getD (q+1) 0:=by
 simp only[rP,jH]
 by_cases h1:q<p
 ·rw[if_pos h1,List.getElem?_append_left (by simp;omega),List.getElem?_take_of_lt h1]
 ·rw[if_neg h1,List.getElem?_append_right (by simp;omega)]
  have:(xs.take p).length=p:=by simp;omega
  rw[this,List.getElem?_drop]
  congr 2
  omega
theorem B6{xs ys:List Int}(h:∀i,i<xs.length->1<=xs.getD i 0)(hy:∀j,j<ys.length->1<=ys.getD j 0∨∃i,i<xs.length/\ys.getD j 0=xs.getD i 0):∀j,j<ys.length->1<=ys.getD j 0:=λ j hj=>by
 rcases hy j hj with h1|⟨i,hi,he⟩
 ·exact h1
 ·rw[he];exact h i hi
section
variable{b i:Nat}{xs:List Int}{r:Int}
theorem Ad(b i:Nat)(j:Nat):(b ||| 2^i).testBit j=(b.testBit j||decide (j=i)):=by
 rw[Nat.testBit_or,Nat.testBit_two_pow]
 congr 1
 exact decide_eq_decide.2 eq_comm
theorem vE(b i:Nat)(j:Nat):(b ^^^ (b &&& 2^i)).testBit j=(b.testBit j&&!decide (j=i)):=by
 rw[Nat.testBit_xor,Nat.testBit_and,Nat.testBit_two_pow]
 have:decide (i=j)=decide (j=i):=decide_eq_decide.2 eq_comm
 rw[this]
 cases b.testBit j<;>cases decide (j=i)<;>rfl
theorem E7(h:BV b xs)(hi:i<64)(hb:b.testBit i=false)(hr:1<=r):BV (b ||| 2^i) (wM xs (gC b i) r)/\∀k,k<64->qU (b ||| 2^i) (wM xs (gC b i) r) k=Nb (qU b xs) i (some r) k:=by
 have hc:=zY hb (λ j _=>Ad b i j)
 have hp:gC b i<=xs.length:=by
  obtain⟨d,hd⟩:=Nat.exists_eq_add_of_le (Nat.le_of_lt hi)
  rw[h.len,hd]
  exact wK b i d
 refine⟨⟨Nat.or_lt_two_pow (n:=64) h.lt (Nat.pow_lt_pow_right (a:=2) (by decide) hi),?_,B6 h.pos λ j hj=>?_⟩,λ k hk=>?_⟩
 ·rw[Gm hp,hc 64 (Nat.le_refl _),if_pos hi,h.len]
 ·rw[Gm hp] at hj
  rw[Vo hp]
  by_cases h1:j<gC b i
  ·rw[if_pos h1];exact .inr ⟨j,by omega,rfl⟩
  ·rw[if_neg h1]
   by_cases h2:j=gC b i
   ·rw[if_pos h2];exact .inl hr
   ·rw[if_neg h2];exact .inr ⟨j-1,by omega,rfl⟩
 ·simp only[qU,Nb]
  rw[Ad,hc k (by omega),Vo hp]
  by_cases hki:k=i
  ·subst hki;simp
  ·rw[if_neg hki,decide_eq_false hki,Bool.or_false]
   by_cases hbk:b.testBit k=true
   ·rw[if_pos hbk,if_pos hbk]
    congr 1
    by_cases hlt:k<i
    ·have:=oI hlt hbk
     rw[if_neg (show ¬i<k by omega),if_pos (by omega)]
     rfl
    ·have:gC b i<=gC b k:=by
      obtain⟨d,hd⟩:=Nat.exists_eq_add_of_le (show i<=k by omega)
      rw[hd];exact wK b i d
     rw[if_pos (show i<k by omega),if_neg (by omega),if_neg (by omega)]
     rfl
   ·rw[if_neg hbk,if_neg hbk]
theorem Tx(h:BV b xs)(hi:i<64)(hb:b.testBit i=true)(hr:1<=r):BV b (zR xs (gC b i) r)/\∀k,k<64->qU b (zR xs (gC b i) r) k=Nb (qU b xs) i (some r) k:=by
 have hp:gC b i<xs.length:=by rw[h.len];exact oI hi hb
 refine⟨⟨h.lt,by rw[vC hp,h.len],B6 h.pos λ j hj=>?_⟩,λ k hk=>?_⟩
 ·rw[vC hp] at hj
  rw[L5 hp]
  by_cases h2:j=gC b i
  ·rw[if_pos h2];exact .inl hr
  ·rw[if_neg h2];exact .inr ⟨j,hj,rfl⟩
 ·simp only[qU,Nb]
  rw[L5 hp]
  by_cases hki:k=i
  ·subst hki;rw[if_pos hb,if_pos rfl,if_pos rfl]
  ·rw[if_neg hki]
   by_cases hbk:b.testBit k=true
   ·rw[if_pos hbk,if_pos hbk,if_neg]
    rcases Nat.lt_or_gt_of_ne hki with hlt|hlt
    ·have:=oI hlt hbk;omega
    ·have:=oI hlt hb;omega
   ·rw[if_neg hbk,if_neg hbk]
theorem Ts(h:BV b xs)(hi:i<64)(hb:b.testBit i=true):BV (b ^^^ (b &&& 2^i)) (rP xs (gC b i))/\∀k,k<64->qU (b ^^^ (b &&& 2^i)) (rP xs (gC b i)) k=Nb (qU b xs) i none k:=by
 have hp:gC b i<xs.length:=by rw[h.len];exact oI hi hb
 have hb':(b ^^^ (b &&& 2^i)).testBit i=false:=by rw[vE];simp
 have hc:=zY (b':=b) hb' (λ j _=>by
  rw[vE]
  by_cases hji:j=i
  ·subst hji;simp[hb]
  ·rw[decide_eq_false hji];simp)
 refine⟨⟨Nat.xor_lt_two_pow (n:=64) h.lt (Nat.lt_of_le_of_lt Nat.and_le_left h.lt),?_,B6 h.pos λ j hj=>?_⟩,λ k hk=>?_⟩
 ·have:=G4 hp
  have:=hc 64 (Nat.le_refl _)
  rw[if_pos hi] at this
  have:=h.len
  omega
 ·have:=G4 hp
  rw[Wg hp]
  by_cases h1:j<gC b i
  ·rw[if_pos h1];exact .inr ⟨j,by omega,rfl⟩
  ·rw[if_neg h1];exact .inr ⟨j+1,by omega,rfl⟩
 ·simp only[qU,Nb]
  have hck:=hc k (by omega)
  rw[vE,Wg hp]
  by_cases hki:k=i
  ·subst hki;simp
  ·rw[if_neg hki,decide_eq_false hki,Bool.not_false,Bool.and_true]
   by_cases hbk:b.testBit k=true
   ·rw[if_pos hbk,if_pos hbk]
    congr 1
    by_cases hlt:k<i
    ·have:=oI hlt hbk
     rw[if_neg (show ¬i<k by omega)] at hck
     rw[if_pos (by omega),hck]
     rfl
    ·have:=oI (show i<k by omega) hb
     rw[if_pos (show i<k by omega)] at hck
     rw[if_neg (by omega),hck]
   ·rw[if_neg hbk,if_neg hbk]
end
end

/- What is known of a list, in short. -/
section
open Go Go.RowKit
variable{w0 w:World}{M:List Nat}{H:List (Nat×Obj)}{A F:Fr}{O:List Ow}
end
end Go.Ct
namespace Go.Proofs.YtbajmaoegmbfgaaGreat
section
open Go.RowKit Go.Ct
theorem tP{n:Nd}{xs:List Int}{ys:List Pr}(h:n.kind=3)(hv:bY n xs ys):(xs.length:Int)=yC n.bm/\Pos xs:=by
 obtain⟨_,_,_,_,hv⟩:=hv
 rcases hv with h1|⟨h1,_⟩|⟨_,h2,h3⟩|⟨h1|h1,_⟩|⟨h1,_⟩|⟨h1,_⟩|⟨h1,_⟩
 all_goals first|exact⟨h2,h3⟩|(rw[h] at h1;exact absurd h1 (by decide))
end

/- The reference's Valid. -/
section
open Go.RowKit Go.Ct
theorem w9 (n : Nd) (h1 : 1 ≤ n.kind) (h8 : n.kind ≤ 8) (w : World) : Calls Tryz.prog 169 #[n.v] w fun e w' => e = .returned n.own.v ∧ St w [] [] w' := by
  refine enter Tryz.func169 Tryz.ntmps169 rfl rfl (SF.s0 w) ?_
  simp only [bX]
  refine J0 ?_; refine bI (fun x1 => ?_); refine aJ (fun x2 => ?_); refine aH ?_; refine Dc ?_; refine aH ?_; refine cR ?_; refine lH ?_
  refine bB (fun c5 => ?_) (fun c5 => ?_)
  · refine gY ?_; refine vS ?_
    refine bC Tryz.results169 (fun w hw => ?_)
    (exact ⟨by simp only [Nd.own, beq_iff_eq, *, if_true, if_false]; rfl, hw.done⟩)
  · refine lH ?_
    refine bB (fun c10 => ?_) (fun c10 => ?_)
    · refine gY ?_; refine J3 ?_; refine J3 ?_; refine vS ?_
      refine bC Tryz.results169 (fun w hw => ?_)
      (exact ⟨by simp only [Nd.own, beq_iff_eq, *, if_true, if_false]; rfl, hw.done⟩)
    · refine lH ?_
      refine bB (fun c19 => ?_) (fun c19 => ?_)
      · refine gY ?_; refine J3 ?_; refine J3 ?_; refine J3 ?_; refine vS ?_
        refine bC Tryz.results169 (fun w hw => ?_)
        (exact ⟨by simp only [Nd.own, beq_iff_eq, *, if_true, if_false]; rfl, hw.done⟩)
      · refine lH ?_
        refine bB (fun c30 => ?_) (fun c30 => ?_)
        · refine gY ?_; refine J3 ?_; refine J3 ?_; refine J3 ?_; refine vS ?_
          refine bC Tryz.results169 (fun w hw => ?_)
          (exact ⟨by simp only [Nd.own, beq_iff_eq, *, if_true, if_false]; rfl, hw.done⟩)
        · refine lH ?_
          refine bB (fun c41 => ?_) (fun c41 => ?_)
          · refine gY ?_; refine J3 ?_; refine J3 ?_; refine J3 ?_; refine J3 ?_; refine vS ?_
            refine bC Tryz.results169 (fun w hw => ?_)
            (exact ⟨by simp only [Nd.own, beq_iff_eq, *, if_true, if_false]; rfl, hw.done⟩)
          · refine lH ?_
            refine bB (fun c54 => ?_) (fun c54 => ?_)
            · refine gY ?_; refine J3 ?_; refine J3 ?_; refine J3 ?_; refine vS ?_
              refine bC Tryz.results169 (fun w hw => ?_)
              (exact ⟨by simp only [Nd.own, beq_iff_eq, *, if_true, if_false]; rfl, hw.done⟩)
            · refine lH ?_
              refine bB (fun c65 => ?_) (fun c65 => ?_)
              · refine gY ?_; refine J3 ?_; refine vS ?_
                refine bC Tryz.results169 (fun w hw => ?_)
                (exact ⟨by simp only [Nd.own, beq_iff_eq, *, if_true, if_false]; rfl, hw.done⟩)
              · refine lH ?_
                refine bB (fun c72 => ?_) (fun c72 => ?_)
                · refine gY ?_; refine J3 ?_; refine J3 ?_; refine J3 ?_; refine J3 ?_; refine vS ?_
                  refine bC Tryz.results169 (fun w hw => ?_)
                  (exact ⟨by simp only [Nd.own, beq_iff_eq, *, if_true, if_false]; rfl, hw.done⟩)
                · refine nN ?_; refine J0 ?_; refine vS ?_
                  refine bC Tryz.results169 (fun w hw => ?_)
                  (exfalso; omega)
theorem mj{n:Nd}{xs:List Int}{ys:List Pr}(h:n.kind=3){k:Nat}(hk:k<xs.length)(hx:xs.getD k 0<1):false=true↔bY n xs ys:=by
 simp only[Bool.false_eq_true,false_iff]
 intro hv
 have:=(tP h hv).2 k hk
 omega
theorem pz{n:Nd}{xs:List Int}{ys:List Pr}{c:Int}(h:n.kind=3)(he:rV n n.own xs (n.jP xs) ys (n.jA ys))(h1:0<=n.main)(h2:0<=n.prev)(h3:0<=n.status)(eo:yC n.bm=c)(hp:Pos xs):((xs.length:Int)==c)=true↔bY n xs ys:=by
 rw[beq_iff_eq,<- eo]
 exact⟨λ hl=>⟨he,h1,h2,h3,.inr (.inr (.inl ⟨h,hl,hp⟩))⟩,λ hv=>(tP h hv).1⟩
theorem zO{n:Nd}{xs:List Int}{ys:List Pr}{w:World}{b:Nat}(hb:n.bm=(b:Int))(hb2:b<18446744073709551616)(hr:rF w n xs ys) :
  Calls Tryz.prog 126 #[n.v] w λ e w'=>∃r:Bool,e=.returned (.bool r)/\(r=true↔bY n xs ys)/\St w [] [] w':=by
 have e1:=hr.brN;have e2:=hr.prN
 obtain⟨kind,gen,main,bm,brA,brN,brC,hash,key,val,prA,prN,prK,prev,bK,exp,new,status⟩:=n
 simp only at e1 e2 hb
 subst e1 e2 hb
 have eo:yC (b:Int)=((gC b 64:Nat):Int):=rM hb2
 have hxl:=hr.brS
 refine enter Tryz.func126 Tryz.ntmps126 rfl rfl (SF.s2 hr.br hr.pr) ?_
 simp only[bX]
 simp only[Nd.v,Nd.cells]
 refine J0 ?_;refine bI (λ x1=>?_);refine iE ?_;refine aV ?_;refine dK [(0,[]),(1,[]),(2,[]),(3,[]),(4,[]),(5,[]),(6,[]),(7,[]),(8,[]),(9,[]),(10,[]),(11,[9]),(12,[]),(13,[]),(14,[]),(15,[]),(16,[]),(17,[]),(18,[]),(19,[]),(20,[]),(21,[]),(22,[]),(23,[]),(24,[]),(25,[]),(26,[]),(27,[]),(28,[]),(29,[])] ?_;refine kX ?_;refine Ap ?_;refine aN ?_
 (refine Y9 7 (λ g7=>?_) (λ g7=>?_)<;>(first|refine cW ?_|(refine aR ?_)))
 all_goals ((first|refine cW ?_|(refine bG ?_));(first|refine cW ?_|(refine aAW ?_));refine eS ?_;refine aN ?_)
 all_goals (first|refine cW ?_|(refine Y9 12 (λ g12=>?_) (λ g12=>?_)<;>(first|refine cW ?_|(refine bG ?_))))
 all_goals ((first|refine cW ?_|(refine bG ?_));(first|refine cW ?_|(refine cH (i:=11) (hq:=(cV (hc:=λ w1 hw=>w9 (⟨kind,gen,main,(b:Int),brA,xs.length,brC,hash,key,val,prA,ys.length,prK,prev,bK,exp,new,status⟩:Nd) (show(1:Int)<=kind by omega) (show kind<=8 by omega) w1))) (h:=λ x15=>?_)));(first|refine cW ?_|(refine aZ (i:=12) (hq:=(c0 (V:=.bool) (hc:=λ w1 hw=>Uq (a:=(⟨kind,gen,main,(b:Int),brA,xs.length,brC,hash,key,val,prA,ys.length,prK,prev,bK,exp,new,status⟩:Nd)) (b:=((⟨kind,gen,main,(b:Int),brA,xs.length,brC,hash,key,val,prA,ys.length,prK,prev,bK,exp,new,status⟩:Nd)).own) (hr.gB hw.done) (hr.gB hw.done).own))) (h:=λ x16 h16=>?_)));(first|refine cW ?_|(refine Hw ?_));refine eS ?_;refine aN ?_)
 all_goals (first|refine cW ?_|(refine Y9 19 (λ g19=>?_) (λ g19=>?_)<;>(first|refine cW ?_|(refine aR ?_))))
 all_goals ((first|refine cW ?_|(refine bG ?_));(first|refine cW ?_|(refine Ap ?_));refine eS ?_;refine aN ?_)
 all_goals (first|refine cW ?_|(refine Y9 24 (λ g24=>?_) (λ g24=>?_)<;>(first|refine cW ?_|(refine aR ?_))))
 all_goals ((first|refine cW ?_|(refine bG ?_));(first|refine cW ?_|(refine Ap ?_));refine eS ?_;refine aN ?_)
 all_goals (first|refine cW ?_|(refine Y9 29 (λ g29=>?_) (λ g29=>?_)<;>(first|refine cW ?_|(refine aR ?_))))
 all_goals ((first|refine cW ?_|(refine bG ?_));(first|refine cW ?_|(refine Ap ?_));refine eS ?_;refine dY ?_)
 all_goals
 refine bB (λ c33=>?_) (λ c33=>?_)
 ·all_goals refine cO ?_
  all_goals
   refine aS Tryz.results126 (λ w hw=>?_)
   refine⟨_,rfl,?_,hw.done⟩
   first|(simp_all[bY];done)|(simp_all[bY];omega)
 ·try exact nv c33
  all_goals (refine jU ?_;refine gY ?_;refine aH ?_;refine cR ?_;refine lH ?_)
  all_goals
   refine bB (λ c36=>?_) (λ c36=>?_)
   ·refine gY ?_;refine nS ?_;refine J1 ?_
    refine aS Tryz.results126 (λ w hw=>?_)
    refine⟨_,rfl,?_,hw.done⟩
    (simp_all[bY];done)
   ·refine lH ?_
    refine bB (λ c41=>?_) (λ c41=>?_)
    ·refine aV ?_;refine C4 ?_
     refine fV [2,3,43,44,45,46,47,48,49,50,51,52,53,54,55] (λ k=>[(3,.int .i64 ((k:Nat):Int))]) (λ k=>k<=xs.length/\∀i,i<k->1<=xs.getD i 0) (λ k=>xs.length-k) (0) (⟨Nat.zero_le _,λ i hi=>absurd hi (Nat.not_lt_zero i)⟩) ?_ (λ k f hx=>?_)
     ·repeat (first|exact bD _|refine aW (by exact rfl) ?_)
     dsimp only[gX,List.map,List.cons_append,List.nil_append]
     refine kA ?_;refine Nc ?_;refine xJ ?_
     refine bB (λ c47=>?_) (λ c47=>?_)
     ·refine qA ?_;refine gY ?_;refine aA ?_;refine Q4 ?_;refine xJ ?_
      refine bB (λ c55=>?_) (λ c55=>?_)
      ·refine cO ?_
       refine aS Tryz.results126 (λ w hw=>?_)
       refine⟨_,rfl,?_,hw.done⟩
       exact mj c41 (k:=k) (by omega) (by assumption)
      ·refine nN ?_;refine uF ?_
       refine eL (k+1) ?_ ?_ ?_
       ·omega
       ·repeat' (first|exact bD _|refine aW ?_ ?_)
        exact rfl
       ·exact⟨by omega,λ i hi=>by rcases Nat.lt_succ_iff_lt_or_eq.1 hi with h|rfl;exact hx.2 i h;omega⟩
     ·refine bM rfl ?_;refine aV ?_;refine dK [(0,[]),(1,[]),(2,[]),(3,[]),(4,[]),(5,[1]),(6,[]),(7,[])] ?_;refine kX ?_;refine oD ?_;refine kX ?_;refine cH (i:=5) (hq:=(cV (hc:=λ w1 hw=>Rj hb2 w1))) (h:=λ x61=>?_);refine mL ?_;refine J7 ?_
      refine aS Tryz.results126 (λ w hw=>?_)
      refine⟨_,rfl,?_,hw.done⟩
      exact pz c41 (h16.1 (by simpa using g19)) (show 0<=main by omega) (show 0<=prev by omega) (show 0<=status by omega) eo (λ i hi=>hx.2 i (by omega))
    ·refine aV ?_;refine lH ?_
     refine bB (λ c63=>?_) (λ c63=>?_)
     ·refine aY ?_
      refine bB (λ c63=>?_) (λ c63=>?_)
      ·refine gY ?_;refine mJ ?_;refine Au ?_;refine J1 ?_
       refine aS Tryz.results126 (λ w hw=>?_)
       refine⟨_,rfl,?_,hw.done⟩
       (simp_all[bY];omega)
      ·refine lH ?_
       refine bB (λ c70=>?_) (λ c70=>?_)
       ·refine gY ?_;refine dA ?_;refine nS ?_;refine aA ?_
        (refine eD 76 (λ g76=>?_) (λ g76=>?_)<;>(first|refine aI ?_|(refine aF ?_;refine aE ?_)))
        all_goals ((first|refine aI ?_|(refine aF ?_;refine bP ?_));(first|refine aI ?_|(refine aF ?_;refine aD (c0 (V:=.bool) (hc:=λ w1 hw=>lU (hw.cl fin) hr.prS)) (λ x79 h79=>?_)));refine cE ?_;refine aA ?_)
        all_goals (first|refine aI ?_|(refine eD 81 (λ g81=>?_) (λ g81=>?_)<;>(first|refine aI ?_|(refine aF ?_;refine aE ?_))))
        all_goals ((first|refine aI ?_|(refine aF ?_;refine bP ?_));(first|refine aI ?_|(refine aF ?_;refine aD (c0 (V:=.bool) (hc:=λ w1 hw=>cg (hw.cl fin) hr.prS)) (λ x84 h84=>?_)));refine cE ?_;refine J1 ?_)
        all_goals
        refine aS Tryz.results126 (λ w hw=>?_)
        refine⟨_,rfl,?_,hw.done⟩
        (simp_all[bY];done)
       ·refine lH ?_
        refine bB (λ c86=>?_) (λ c86=>?_)
        ·refine gY ?_;refine nS ?_;refine J1 ?_
         refine aS Tryz.results126 (λ w hw=>?_)
         refine⟨_,rfl,?_,hw.done⟩
         (simp_all[bY];done)
        ·refine lH ?_
         refine bB (λ c91=>?_) (λ c91=>?_)
         ·refine gY ?_;refine nS ?_;refine aA ?_
          (refine eD 96 (λ g96=>?_) (λ g96=>?_)<;>(first|refine aI ?_|(refine aF ?_;refine aE ?_)))
          all_goals (refine J86 ?_;refine cE ?_;refine aA ?_)
          all_goals (first|refine aI ?_|(refine eD 101 (λ g101=>?_) (λ g101=>?_)<;>(first|refine aI ?_|(refine aF ?_;refine aE ?_))))
          all_goals (refine J86 ?_;refine cE ?_;refine J1 ?_)
          all_goals
          refine aS Tryz.results126 (λ w hw=>?_)
          refine⟨_,rfl,?_,hw.done⟩
          (simp_all[bY];done)
         ·refine nN ?_;refine cO ?_
          refine aS Tryz.results126 (λ w hw=>?_)
          refine⟨_,rfl,?_,hw.done⟩
          (simp_all[bY];done)
     ·refine dL ?_;refine Ra ?_
      refine bB (λ c63=>?_) (λ c63=>?_)
      ·refine gY ?_;refine mJ ?_;refine Au ?_;refine J1 ?_
       refine aS Tryz.results126 (λ w hw=>?_)
       refine⟨_,rfl,?_,hw.done⟩
       (simp_all[bY];omega)
      ·refine lH ?_
       refine bB (λ c70=>?_) (λ c70=>?_)
       ·refine gY ?_;refine dA ?_;refine nS ?_;refine aA ?_
        (refine eD 76 (λ g76=>?_) (λ g76=>?_)<;>(first|refine aI ?_|(refine aF ?_;refine aE ?_)))
        all_goals ((first|refine aI ?_|(refine aF ?_;refine bP ?_));(first|refine aI ?_|(refine aF ?_;refine aD (c0 (V:=.bool) (hc:=λ w1 hw=>lU (hw.cl fin) hr.prS)) (λ x79 h79=>?_)));refine cE ?_;refine aA ?_)
        all_goals (first|refine aI ?_|(refine eD 81 (λ g81=>?_) (λ g81=>?_)<;>(first|refine aI ?_|(refine aF ?_;refine aE ?_))))
        all_goals ((first|refine aI ?_|(refine aF ?_;refine bP ?_));(first|refine aI ?_|(refine aF ?_;refine aD (c0 (V:=.bool) (hc:=λ w1 hw=>cg (hw.cl fin) hr.prS)) (λ x84 h84=>?_)));refine cE ?_;refine J1 ?_)
        all_goals
        refine aS Tryz.results126 (λ w hw=>?_)
        refine⟨_,rfl,?_,hw.done⟩
        first|(simp_all[bY];done)|(simp_all[bY];omega)
       ·refine lH ?_
        refine bB (λ c86=>?_) (λ c86=>?_)
        ·refine gY ?_;refine nS ?_;refine J1 ?_
         refine aS Tryz.results126 (λ w hw=>?_)
         refine⟨_,rfl,?_,hw.done⟩
         (simp_all[bY];done)
        ·refine lH ?_
         refine bB (λ c91=>?_) (λ c91=>?_)
         ·refine gY ?_;refine nS ?_;refine aA ?_
          (refine eD 96 (λ g96=>?_) (λ g96=>?_)<;>(first|refine aI ?_|(refine aF ?_;refine aE ?_)))
          all_goals (refine J86 ?_;refine cE ?_;refine aA ?_)
          all_goals (first|refine aI ?_|(refine eD 101 (λ g101=>?_) (λ g101=>?_)<;>(first|refine aI ?_|(refine aF ?_;refine aE ?_))))
          all_goals (refine J86 ?_;refine cE ?_;refine J1 ?_)
          all_goals
          refine aS Tryz.results126 (λ w hw=>?_)
          refine⟨_,rfl,?_,hw.done⟩
          first|(simp_all[bY];done)|(simp_all[bY];omega)
         ·refine nN ?_;refine cO ?_
          refine aS Tryz.results126 (λ w hw=>?_)
          refine⟨_,rfl,?_,hw.done⟩
          (simp_all[bY];omega)
end

end Go.Proofs.YtbajmaoegmbfgaaGreat
