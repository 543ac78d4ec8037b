/- C-nodes are maps: the plain laws. -/
import Derived.Test.YtbajmaoegmbfgaaGreatGBits
import Derived.Test.YtbajmaoegmbfgaaGreatAuto
import Derived.Test.YtbajmaoegmbfgaaGreatGSlices

set_option linter.unusedSimpArgs false
set_option linter.unusedVariables false
namespace Go.Ct
section
open Go Go.RowKit
def rH(b:Nat)(xs:List Int)(k:Nat):Option Int:=if b.testBit k=true then some (xs.getD (gU b k) 0) else none
def Bs(m:Nat->Option Int):Nat->Nat
 | 0=>0
 | k+1=>if(m k).isSome=true then Bs m k ||| 2^k else Bs m k
def qC(m:Nat->Option Int):Nat->List Int
 | 0=>[]
 | k+1=>qC m k++(m k).toList
def Nu(m:Nat->Option Int)(i:Nat)(o:Option Int)(k:Nat):Option Int:=if k=i then o else m k
structure BV(b:Nat)(xs:List Int):Prop where
 lt:b<18446744073709551616
 len:xs.length=gU b 64
 pos:∀i,i<xs.length->1<=xs.getD i 0
theorem V3(m:Nat->Option Int)(j:Nat):∀k,(Bs m k).testBit j=(decide (j<k)&&(m j).isSome)
 | 0=>by simp[Bs]
 | k+1=>by
  have ih:=V3 m j k
  simp only[Bs]
  by_cases hjk:j=k
  ·subst hjk
   by_cases h:(m j).isSome=true
   ·rw[if_pos h,Nat.testBit_or,Nat.testBit_two_pow];simp[h]
   ·rw[if_neg h,ih];simp at h;simp[h]
  ·have h2:(2^k).testBit j=false:=by rw[Nat.testBit_two_pow];exact decide_eq_false (λ h=>hjk h.symm)
   split
   ·rw[Nat.testBit_or,ih,h2,Bool.or_false]
    congr 1
    exact decide_eq_decide.2 (by omega)
   ·rw[ih]
    congr 1
    exact decide_eq_decide.2 (by omega)
theorem lq(m:Nat->Option Int):∀k,Bs m k<2^k
 | 0=>by simp[Bs]
 | k+1=>by
  have ih:=lq m k
  have h2:2^(k+1)=2^k+2^k:=by rw[Nat.pow_succ];omega
  simp only[Bs]
  split
  ·refine Nat.or_lt_two_pow (by omega) ?_
   have:=Nat.two_pow_pos k
   omega
  ·omega
theorem Cu{xs:List Int}{i:Nat}(h:i<xs.length):xs.getD i 0∈xs:=by
 rw[jN,List.getElem?_eq_getElem h]
 exact List.getElem_mem h
theorem Rm{m m':Nat->Option Int}:∀n,(∀k,k<n->m k=m' k)->Bs m n=Bs m' n/\qC m n=qC m' n
 | 0,_=>⟨rfl,rfl⟩
 | n+1,h=>by
  obtain⟨h1,h2⟩:=Rm n λ k hk=>h k (by omega)
  simp only[Bs,qC,h1,h2,h n (by omega),and_self]
theorem wW(b:Nat)(k:Nat):∀d,gU b k<=gU b (k+d)
 | 0=>Nat.le_refl _
 | d+1=>by have:=wW b k d;rw[<- Nat.add_assoc];simp only[gU];omega
theorem oX{b k n:Nat}(h:k<n)(hb:b.testBit k=true):gU b k<gU b n:=by
 obtain⟨d,rfl⟩:=Nat.exists_eq_add_of_le (Nat.succ_le_of_lt h)
 have:=wW b (k+1) d
 simp only[gU,hb,if_true] at this
 exact this
theorem Us{b:Nat}{xs:List Int}(h:xs.length=gU b 64):∀k,k<=64->qC (rH b xs) k=xs.take (gU b k)
 | 0,_=>by simp[qC,gU]
 | k+1,hk=>by
  have ih:=Us h k (by omega)
  simp only[qC,ih,rH,gU]
  split
  ·rename_i hb
   have:=oX (n:=64) (by omega) hb
   rw[List.take_add_one,Option.toList,jN,List.getElem?_eq_getElem (by omega)]
   rfl
  ·simp
theorem Si{b:Nat}{xs:List Int}(h:BV b xs):Bs (rH b xs) 64=b/\qC (rH b xs) 64=xs:=by
 refine⟨Nat.eq_of_testBit_eq λ j=>?_,?_⟩
 ·rw[V3]
  by_cases hj:j<64
  ·rw[decide_eq_true hj,Bool.true_and]
   unfold rH
   cases hb:b.testBit j<;>simp
  ·rw[decide_eq_false hj,Bool.false_and]
   exact(Nat.testBit_lt_two_pow (Nat.lt_of_lt_of_le h.lt (Nat.pow_le_pow_right (n:=2) (by decide) (show 64<=j by omega)))).symm
 ·rw[Us h.len 64 (Nat.le_refl _),<- h.len,List.take_length]
theorem Be{b b' i:Nat}(h:b.testBit i=false)(hb:∀j,j<64->b'.testBit j=(b.testBit j||decide (j=i))):∀k,k<=64->gU b' k=gU b k+if i<k then 1 else 0
 | 0,_=>rfl
 | k+1,hk=>by
  have ih:=Be h hb k (by omega)
  simp only[gU,ih,hb k (by omega)]
  by_cases hki:k=i
  ·subst hki
   simp[h]
  ·have:decide (k=i)=false:=decide_eq_false hki
   rw[this,Bool.or_false]
   have e:(i<k+1)↔(i<k):=by omega
   simp only[e]
   omega
def wV(xs:List Int)(p:Nat)(r:Int):List Int:=xs.take p++r::xs.drop p
def zL(xs:List Int)(p:Nat)(r:Int):List Int:=xs.take p++r::xs.drop (p+1)
def sB(xs:List Int)(p:Nat):List Int:=xs.take p++xs.drop (p+1)
theorem Ip{xs:List Int}{p:Nat}(hp:p<=xs.length)(r:Int):(wV xs p r).length=xs.length+1:=by
 simp[wV];omega
theorem vW{xs:List Int}{p:Nat}(hp:p<xs.length)(r:Int):(zL xs p r).length=xs.length:=by
 simp[zL];omega
theorem Gg{xs:List Int}{p:Nat}(hp:p<xs.length):(sB xs p).length+1=xs.length:=by
 simp[sB];omega
theorem V7{xs:List Int}{p:Nat}(hp:p<=xs.length)(r:Int)(q:Nat):(wV xs p r).getD q 0=if q<p then xs.getD q 0 else if q=p then r else xs.getD (q-1) 0:=by
 simp only[wV,jN]
 by_cases h1:q<p
 ·rw[if_pos h1,List.getElem?_append_left (by simp;omega),List.getElem?_take_of_lt h1]
 ·rw[if_neg h1,List.getElem?_append_right (by simp;omega)]
  have:(xs.take p).length=p:=by simp;omega
  rw[this]
  by_cases h2:q=p
  ·subst h2;simp
  ·obtain⟨d,hd⟩:∃d,q-p=d+1:=⟨q-p-1,by omega⟩
   rw[if_neg h2,hd,List.getElem?_cons_succ,List.getElem?_drop]
   congr 2
   omega
theorem Mn{xs:List Int}{p:Nat}(hp:p<xs.length)(r:Int)(q:Nat):(zL xs p r).getD q 0=if q=p then r else xs.getD q 0:=by
 simp only[zL,jN]
 by_cases h1:q<p
 ·rw[if_neg (by omega),List.getElem?_append_left (by simp;omega),List.getElem?_take_of_lt h1]
 ·rw[List.getElem?_append_right (by simp;omega)]
  have:(xs.take p).length=p:=by simp;omega
  rw[this]
  by_cases h2:q=p
  ·subst h2;simp
  ·obtain⟨d,hd⟩:∃d,q-p=d+1:=⟨q-p-1,by omega⟩
   rw[if_neg h2,hd,List.getElem?_cons_succ,List.getElem?_drop]
   congr 2
   omega
theorem Xd{xs:List Int}{p:Nat}(hp:p<xs.length)(q:Nat):(sB xs p).getD q 0=if q<p then xs.getD q 0 else xs.getD (q+1) 0:=by
 simp only[sB,jN]
 by_cases h1:q<p
 ·rw[if_pos h1,List.getElem?_append_left (by simp;omega),List.getElem?_take_of_lt h1]
 ·rw[if_neg h1,List.getElem?_append_right (by simp;omega)]
  have:(xs.take p).length=p:=by simp;omega
  rw[this,List.getElem?_drop]
  congr 2
  omega
theorem C4{xs ys:List Int}(h:∀i,i<xs.length->1<=xs.getD i 0)(hy:∀j,j<ys.length->1<=ys.getD j 0∨∃i,i<xs.length/\ys.getD j 0=xs.getD i 0):∀j,j<ys.length->1<=ys.getD j 0:=λ j hj=>by
 rcases hy j hj with h1|⟨i,hi,he⟩
 ·exact h1
 ·rw[he];exact h i hi
section
variable{b i:Nat}{xs:List Int}{r:Int}
theorem As(b i:Nat)(j:Nat):(b ||| 2^i).testBit j=(b.testBit j||decide (j=i)):=by
 rw[Nat.testBit_or,Nat.testBit_two_pow]
 congr 1
 exact decide_eq_decide.2 eq_comm
theorem wG(b i:Nat)(j:Nat):(b ^^^ (b &&& 2^i)).testBit j=(b.testBit j&&!decide (j=i)):=by
 rw[Nat.testBit_xor,Nat.testBit_and,Nat.testBit_two_pow]
 have:decide (i=j)=decide (j=i):=decide_eq_decide.2 eq_comm
 rw[this]
 cases b.testBit j<;>cases decide (j=i)<;>rfl
theorem Ft(h:BV b xs)(hi:i<64)(hb:b.testBit i=false)(hr:1<=r):BV (b ||| 2^i) (wV xs (gU b i) r)/\∀k,k<64->rH (b ||| 2^i) (wV xs (gU b i) r) k=Nu (rH b xs) i (some r) k:=by
 have hc:=Be hb (λ j _=>As b i j)
 have hp:gU b i<=xs.length:=by
  obtain⟨d,hd⟩:=Nat.exists_eq_add_of_le (Nat.le_of_lt hi)
  rw[h.len,hd]
  exact wW b i d
 refine⟨⟨Nat.or_lt_two_pow (n:=64) h.lt (Nat.pow_lt_pow_right (a:=2) (by decide) hi),?_,C4 h.pos λ j hj=>?_⟩,λ k hk=>?_⟩
 ·rw[Ip hp,hc 64 (Nat.le_refl _),if_pos hi,h.len]
 ·rw[Ip hp] at hj
  rw[V7 hp]
  by_cases h1:j<gU b i
  ·rw[if_pos h1];exact .inr ⟨j,by omega,rfl⟩
  ·rw[if_neg h1]
   by_cases h2:j=gU b i
   ·rw[if_pos h2];exact .inl hr
   ·rw[if_neg h2];exact .inr ⟨j-1,by omega,rfl⟩
 ·simp only[rH,Nu]
  rw[As,hc k (by omega),V7 hp]
  by_cases hki:k=i
  ·subst hki;simp
  ·rw[if_neg hki,decide_eq_false hki,Bool.or_false]
   by_cases hbk:b.testBit k=true
   ·rw[if_pos hbk,if_pos hbk]
    congr 1
    by_cases hlt:k<i
    ·have:=oX hlt hbk
     rw[if_neg (show ¬i<k by omega),if_pos (by omega)]
     rfl
    ·have:gU b i<=gU b k:=by
      obtain⟨d,hd⟩:=Nat.exists_eq_add_of_le (show i<=k by omega)
      rw[hd];exact wW b i d
     rw[if_pos (show i<k by omega),if_neg (by omega),if_neg (by omega)]
     rfl
   ·rw[if_neg hbk,if_neg hbk]
theorem Tu(h:BV b xs)(hi:i<64)(hb:b.testBit i=true)(hr:1<=r):BV b (zL xs (gU b i) r)/\∀k,k<64->rH b (zL xs (gU b i) r) k=Nu (rH b xs) i (some r) k:=by
 have hp:gU b i<xs.length:=by rw[h.len];exact oX hi hb
 refine⟨⟨h.lt,by rw[vW hp,h.len],C4 h.pos λ j hj=>?_⟩,λ k hk=>?_⟩
 ·rw[vW hp] at hj
  rw[Mn hp]
  by_cases h2:j=gU b i
  ·rw[if_pos h2];exact .inl hr
  ·rw[if_neg h2];exact .inr ⟨j,hj,rfl⟩
 ·simp only[rH,Nu]
  rw[Mn hp]
  by_cases hki:k=i
  ·subst hki;rw[if_pos hb,if_pos rfl,if_pos rfl]
  ·rw[if_neg hki]
   by_cases hbk:b.testBit k=true
   ·rw[if_pos hbk,if_pos hbk,if_neg]
    rcases Nat.lt_or_gt_of_ne hki with hlt|hlt
    ·have:=oX hlt hbk;omega
    ·have:=oX hlt hb;omega
   ·rw[if_neg hbk,if_neg hbk]
theorem T4(h:BV b xs)(hi:i<64)(hb:b.testBit i=true):BV (b ^^^ (b &&& 2^i)) (sB xs (gU b i))/\∀k,k<64->rH (b ^^^ (b &&& 2^i)) (sB xs (gU b i)) k=Nu (rH b xs) i none k:=by
 have hp:gU b i<xs.length:=by rw[h.len];exact oX hi hb
 have hb':(b ^^^ (b &&& 2^i)).testBit i=false:=by rw[wG];simp
 have hc:=Be (b':=b) hb' (λ j _=>by
  rw[wG]
  by_cases hji:j=i
  ·subst hji;simp[hb]
  ·rw[decide_eq_false hji];simp)
 refine⟨⟨Nat.xor_lt_two_pow (n:=64) h.lt (Nat.lt_of_le_of_lt Nat.and_le_left h.lt),?_,C4 h.pos λ j hj=>?_⟩,λ k hk=>?_⟩
 ·have:=Gg hp
  have:=hc 64 (Nat.le_refl _)
  rw[if_pos hi] at this
  have:=h.len
  omega
 ·have:=Gg hp
  rw[Xd hp]
  by_cases h1:j<gU b i
  ·rw[if_pos h1];exact .inr ⟨j,by omega,rfl⟩
  ·rw[if_neg h1];exact .inr ⟨j+1,by omega,rfl⟩
 ·simp only[rH,Nu]
  have hck:=hc k (by omega)
  rw[wG,Xd hp]
  by_cases hki:k=i
  ·subst hki;simp
  ·rw[if_neg hki,decide_eq_false hki,Bool.not_false,Bool.and_true]
   by_cases hbk:b.testBit k=true
   ·rw[if_pos hbk,if_pos hbk]
    congr 1
    by_cases hlt:k<i
    ·have:=oX hlt hbk
     rw[if_neg (show ¬i<k by omega)] at hck
     rw[if_pos (by omega),hck]
     rfl
    ·have:=oX (show i<k by omega) hb
     rw[if_pos (show i<k by omega)] at hck
     rw[if_neg (by omega),hck]
   ·rw[if_neg hbk,if_neg hbk]
end
end

/- What is known of a list, in short. -/
section
open Go Go.RowKit
variable{w0 w:World}{M:List Nat}{H:List (Nat×Obj)}{A F:Fr}{O:List Ow}
end
end Go.Ct
namespace Go.Proofs.YtbajmaoegmbfgaaGreat
section
open Go.RowKit Go.Ct
theorem tB{n:Nd}{xs:List Int}{ys:List Pr}(h:n.kind=3)(hv:cE n xs ys):(xs.length:Int)=zG n.bm/\Pos xs:=by
 obtain⟨_,_,_,_,hv⟩:=hv
 rcases hv with h1|⟨h1,_⟩|⟨_,h2,h3⟩|⟨h1|h1,_⟩|⟨h1,_⟩|⟨h1,_⟩|⟨h1,_⟩
 all_goals first|exact⟨h2,h3⟩|(rw[h] at h1;exact absurd h1 (by decide))
end

/- The reference's Valid. -/
section
open Go.RowKit Go.Ct
theorem yi (n : Nd) (h1 : 1 ≤ n.kind) (h8 : n.kind ≤ 8) (w : World) : Calls Tryz.prog 169 #[n.v] w fun e w' => e = .returned n.own.v ∧ St w [] [] w' := by
  refine enter Tryz.func169 Tryz.ntmps169 rfl rfl (SF.s0 w) ?_
  simp only [cA]
  refine J0 ?_; refine bK (fun x1 => ?_); refine aJ (fun x2 => ?_); refine aG ?_; refine B7 ?_; refine aG ?_; refine dD ?_; refine lQ ?_
  refine bD (fun c5 => ?_) (fun c5 => ?_)
  · refine iB ?_; refine vK ?_
    refine aY Tryz.results169 (fun w hw => ?_)
    (exact ⟨by simp only [Nd.own, beq_iff_eq, *, if_true, if_false]; rfl, hw.done⟩)
  · refine lQ ?_
    refine bD (fun c10 => ?_) (fun c10 => ?_)
    · refine iB ?_; refine J3 ?_; refine J3 ?_; refine vK ?_
      refine aY Tryz.results169 (fun w hw => ?_)
      (exact ⟨by simp only [Nd.own, beq_iff_eq, *, if_true, if_false]; rfl, hw.done⟩)
    · refine lQ ?_
      refine bD (fun c19 => ?_) (fun c19 => ?_)
      · refine iB ?_; refine J3 ?_; refine J3 ?_; refine J3 ?_; refine vK ?_
        refine aY Tryz.results169 (fun w hw => ?_)
        (exact ⟨by simp only [Nd.own, beq_iff_eq, *, if_true, if_false]; rfl, hw.done⟩)
      · refine lQ ?_
        refine bD (fun c30 => ?_) (fun c30 => ?_)
        · refine iB ?_; refine J3 ?_; refine J3 ?_; refine J3 ?_; refine vK ?_
          refine aY Tryz.results169 (fun w hw => ?_)
          (exact ⟨by simp only [Nd.own, beq_iff_eq, *, if_true, if_false]; rfl, hw.done⟩)
        · refine lQ ?_
          refine bD (fun c41 => ?_) (fun c41 => ?_)
          · refine iB ?_; refine J3 ?_; refine J3 ?_; refine J3 ?_; refine J3 ?_; refine vK ?_
            refine aY Tryz.results169 (fun w hw => ?_)
            (exact ⟨by simp only [Nd.own, beq_iff_eq, *, if_true, if_false]; rfl, hw.done⟩)
          · refine lQ ?_
            refine bD (fun c54 => ?_) (fun c54 => ?_)
            · refine iB ?_; refine J3 ?_; refine J3 ?_; refine J3 ?_; refine vK ?_
              refine aY Tryz.results169 (fun w hw => ?_)
              (exact ⟨by simp only [Nd.own, beq_iff_eq, *, if_true, if_false]; rfl, hw.done⟩)
            · refine lQ ?_
              refine bD (fun c65 => ?_) (fun c65 => ?_)
              · refine iB ?_; refine J3 ?_; refine vK ?_
                refine aY Tryz.results169 (fun w hw => ?_)
                (exact ⟨by simp only [Nd.own, beq_iff_eq, *, if_true, if_false]; rfl, hw.done⟩)
              · refine lQ ?_
                refine bD (fun c72 => ?_) (fun c72 => ?_)
                · refine iB ?_; refine J3 ?_; refine J3 ?_; refine J3 ?_; refine J3 ?_; refine vK ?_
                  refine aY Tryz.results169 (fun w hw => ?_)
                  (exact ⟨by simp only [Nd.own, beq_iff_eq, *, if_true, if_false]; rfl, hw.done⟩)
                · refine pG ?_; refine J0 ?_; refine vK ?_
                  refine aY Tryz.results169 (fun w hw => ?_)
                  (exfalso; omega)
theorem mu{n:Nd}{xs:List Int}{ys:List Pr}(h:n.kind=3){k:Nat}(hk:k<xs.length)(hx:xs.getD k 0<1):false=true↔cE n xs ys:=by
 simp only[Bool.false_eq_true,false_iff]
 intro hv
 have:=(tB h hv).2 k hk
 omega
theorem tf{n:Nd}{xs:List Int}{ys:List Pr}{c:Int}(h:n.kind=3)(he:sG n n.own xs (n.jX xs) ys (n.jM ys))(h1:0<=n.main)(h2:0<=n.prev)(h3:0<=n.status)(eo:zG n.bm=c)(hp:Pos xs):((xs.length:Int)==c)=true↔cE n xs ys:=by
 rw[beq_iff_eq,<- eo]
 exact⟨λ hl=>⟨he,h1,h2,h3,.inr (.inr (.inl ⟨h,hl,hp⟩))⟩,λ hv=>(tB h hv).1⟩
theorem zP{n:Nd}{xs:List Int}{ys:List Pr}{w:World}{b:Nat}(hb:n.bm=(b:Int))(hb2:b<18446744073709551616)(hr:sE w n xs ys) :
  Calls Tryz.prog 126 #[n.v] w λ e w'=>∃r:Bool,e=.returned (.bool r)/\(r=true↔cE n xs ys)/\St w [] [] w':=by
 have e1:=hr.brN;have e2:=hr.prN
 obtain⟨kind,gen,main,bm,brA,brN,brC,hash,key,val,prA,prN,prK,prev,bA,exp,new,status⟩:=n
 simp only at e1 e2 hb
 subst e1 e2 hb
 have eo:zG (b:Int)=((gU b 64:Nat):Int):=sR hb2
 have hxl:=hr.brS
 refine enter Tryz.func126 Tryz.ntmps126 rfl rfl (SF.s2 hr.br hr.pr) ?_
 simp only[cA]
 simp only[Nd.v,Nd.cells]
 refine J0 ?_;refine bK (λ x1=>?_);refine iZ ?_;refine aS ?_;refine eG [(0,[]),(1,[]),(2,[]),(3,[]),(4,[]),(5,[]),(6,[]),(7,[]),(8,[]),(9,[]),(10,[]),(11,[9]),(12,[]),(13,[]),(14,[]),(15,[]),(16,[]),(17,[]),(18,[]),(19,[]),(20,[]),(21,[]),(22,[]),(23,[]),(24,[]),(25,[]),(26,[]),(27,[]),(28,[]),(29,[])] ?_;refine nA ?_;refine Df ?_;refine aT ?_
 (refine ra 7 (λ g7=>?_) (λ g7=>?_)<;>(first|refine gA ?_|(refine aU ?_)))
 all_goals ((first|refine gA ?_|(refine bO ?_));(first|refine gA ?_|(refine aBj ?_));refine mM ?_;refine aT ?_)
 all_goals (first|refine gA ?_|(refine ra 12 (λ g12=>?_) (λ g12=>?_)<;>(first|refine gA ?_|(refine bO ?_))))
 all_goals ((first|refine gA ?_|(refine bO ?_));(first|refine gA ?_|(refine cO (i:=11) (hq:=(cV (hc:=λ w1 hw=>yi (⟨kind,gen,main,(b:Int),brA,xs.length,brC,hash,key,val,prA,ys.length,prK,prev,bA,exp,new,status⟩:Nd) (show(1:Int)<=kind by omega) (show kind<=8 by omega) w1))) (h:=λ x15=>?_)));(first|refine gA ?_|(refine bC (i:=12) (hq:=(c0 (V:=.bool) (hc:=λ w1 hw=>r5 (a:=(⟨kind,gen,main,(b:Int),brA,xs.length,brC,hash,key,val,prA,ys.length,prK,prev,bA,exp,new,status⟩:Nd)) (b:=((⟨kind,gen,main,(b:Int),brA,xs.length,brC,hash,key,val,prA,ys.length,prK,prev,bA,exp,new,status⟩:Nd)).own) (hr.gF hw.done) (hr.gF hw.done).own))) (h:=λ x16 h16=>?_)));(first|refine gA ?_|(refine j4 ?_));refine mM ?_;refine aT ?_)
 all_goals (first|refine gA ?_|(refine ra 19 (λ g19=>?_) (λ g19=>?_)<;>(first|refine gA ?_|(refine aU ?_))))
 all_goals ((first|refine gA ?_|(refine bO ?_));(first|refine gA ?_|(refine Df ?_));refine mM ?_;refine aT ?_)
 all_goals (first|refine gA ?_|(refine ra 24 (λ g24=>?_) (λ g24=>?_)<;>(first|refine gA ?_|(refine aU ?_))))
 all_goals ((first|refine gA ?_|(refine bO ?_));(first|refine gA ?_|(refine Df ?_));refine mM ?_;refine aT ?_)
 all_goals (first|refine gA ?_|(refine ra 29 (λ g29=>?_) (λ g29=>?_)<;>(first|refine gA ?_|(refine aU ?_))))
 all_goals ((first|refine gA ?_|(refine bO ?_));(first|refine gA ?_|(refine Df ?_));refine mM ?_;refine eU ?_)
 all_goals
 refine bD (λ c33=>?_) (λ c33=>?_)
 ·all_goals refine cS ?_
  all_goals
   refine aQ Tryz.results126 (λ w hw=>?_)
   refine⟨_,rfl,?_,hw.done⟩
   first|(simp_all[cE];done)|(simp_all[cE];omega)
 ·try exact nv c33
  all_goals (refine kO ?_;refine iB ?_;refine aG ?_;refine dD ?_;refine lQ ?_)
  all_goals
   refine bD (λ c36=>?_) (λ c36=>?_)
   ·refine iB ?_;refine oG ?_;refine J1 ?_
    refine aQ Tryz.results126 (λ w hw=>?_)
    refine⟨_,rfl,?_,hw.done⟩
    (simp_all[cE];done)
   ·refine lQ ?_
    refine bD (λ c41=>?_) (λ c41=>?_)
    ·refine aS ?_;refine Ea ?_
     refine iL [2,3,43,44,45,46,47,48,49,50,51,52,53,54,55] (λ k=>[(3,.int .i64 ((k:Nat):Int))]) (λ k=>k<=xs.length/\∀i,i<k->1<=xs.getD i 0) (λ k=>xs.length-k) (0) (⟨Nat.zero_le _,λ i hi=>absurd hi (Nat.not_lt_zero i)⟩) ?_ (λ k f hx=>?_)
     ·repeat (first|exact bJ _|refine bF (by exact rfl) ?_)
     dsimp only[hX,List.map,List.cons_append,List.nil_append]
     refine kR ?_;refine R3 ?_;refine Bv ?_
     refine bD (λ c47=>?_) (λ c47=>?_)
     ·refine rR ?_;refine Kd0 ?_;refine Ru ?_;refine Bv ?_
      refine bD (λ c55=>?_) (λ c55=>?_)
      ·refine cS ?_
       refine aQ Tryz.results126 (λ w hw=>?_)
       refine⟨_,rfl,?_,hw.done⟩
       exact mu c41 (k:=k) (by omega) (by assumption)
      ·refine Kc2 ?_
       refine fL (k+1) ?_ ?_ ?_
       ·omega
       ·repeat' (first|exact bJ _|refine bF ?_ ?_)
        exact rfl
       ·exact⟨by omega,λ i hi=>by rcases Nat.lt_succ_iff_lt_or_eq.1 hi with h|rfl;exact hx.2 i h;omega⟩
     ·refine bR rfl ?_;refine aS ?_;refine eG [(0,[]),(1,[]),(2,[]),(3,[]),(4,[]),(5,[1]),(6,[]),(7,[])] ?_;refine nA ?_;refine oE ?_;refine nA ?_;refine cO (i:=5) (hq:=(cV (hc:=λ w1 hw=>Sg hb2 w1))) (h:=λ x61=>?_);refine nJ ?_;refine J7 ?_
      refine aQ Tryz.results126 (λ w hw=>?_)
      refine⟨_,rfl,?_,hw.done⟩
      exact tf c41 (h16.1 (by simpa using g19)) (show 0<=main by omega) (show 0<=prev by omega) (show 0<=status by omega) eo (λ i hi=>hx.2 i (by omega))
    ·refine aS ?_;refine lQ ?_
     refine bD (λ c63=>?_) (λ c63=>?_)
     ·refine aW ?_
      refine bD (λ c63=>?_) (λ c63=>?_)
      ·refine iB ?_;refine mS ?_;refine zJ ?_;refine J1 ?_
       refine aQ Tryz.results126 (λ w hw=>?_)
       refine⟨_,rfl,?_,hw.done⟩
       (simp_all[cE];omega)
      ·refine lQ ?_
       refine bD (λ c70=>?_) (λ c70=>?_)
       ·refine iB ?_;refine eA ?_;refine oG ?_;refine aA ?_
        (refine dZ 76 (λ g76=>?_) (λ g76=>?_)<;>refine Ka1 ?_)
        all_goals (refine Ka2 ?_;(first|refine aI ?_|(refine aE ?_;refine aD (c0 (V:=.bool) (hc:=λ w1 hw=>mX (hw.cl fin) hr.prS)) (λ x79 h79=>?_)));refine Ka6 ?_)
        all_goals (first|refine aI ?_|(refine dZ 81 (λ g81=>?_) (λ g81=>?_)<;>refine Ka1 ?_))
        all_goals (refine Ka2 ?_;(first|refine aI ?_|(refine aE ?_;refine aD (c0 (V:=.bool) (hc:=λ w1 hw=>mq (hw.cl fin) hr.prS)) (λ x84 h84=>?_)));refine Kb9 ?_)
        all_goals
        refine aQ Tryz.results126 (λ w hw=>?_)
        refine⟨_,rfl,?_,hw.done⟩
        (simp_all[cE];done)
       ·refine lQ ?_
        refine bD (λ c86=>?_) (λ c86=>?_)
        ·refine iB ?_;refine oG ?_;refine J1 ?_
         refine aQ Tryz.results126 (λ w hw=>?_)
         refine⟨_,rfl,?_,hw.done⟩
         (simp_all[cE];done)
        ·refine lQ ?_
         refine bD (λ c91=>?_) (λ c91=>?_)
         ·refine iB ?_;refine oG ?_;refine aA ?_
          (refine dZ 96 (λ g96=>?_) (λ g96=>?_)<;>refine Ka1 ?_)
          all_goals (refine J86 ?_;refine Ka6 ?_)
          all_goals (first|refine aI ?_|(refine dZ 101 (λ g101=>?_) (λ g101=>?_)<;>refine Ka1 ?_))
          all_goals (refine J86 ?_;refine Kb9 ?_)
          all_goals
          refine aQ Tryz.results126 (λ w hw=>?_)
          refine⟨_,rfl,?_,hw.done⟩
          (simp_all[cE];done)
         ·refine Kb0 ?_
          refine aQ Tryz.results126 (λ w hw=>?_)
          refine⟨_,rfl,?_,hw.done⟩
          (simp_all[cE];done)
     ·refine dG ?_;refine Rq ?_
      refine bD (λ c63=>?_) (λ c63=>?_)
      ·refine iB ?_;refine mS ?_;refine zJ ?_;refine J1 ?_
       refine aQ Tryz.results126 (λ w hw=>?_)
       refine⟨_,rfl,?_,hw.done⟩
       (simp_all[cE];omega)
      ·refine lQ ?_
       refine bD (λ c70=>?_) (λ c70=>?_)
       ·refine iB ?_;refine eA ?_;refine oG ?_;refine aA ?_
        (refine dZ 76 (λ g76=>?_) (λ g76=>?_)<;>refine Ka1 ?_)
        all_goals (refine Ka2 ?_;(first|refine aI ?_|(refine aE ?_;refine aD (c0 (V:=.bool) (hc:=λ w1 hw=>mX (hw.cl fin) hr.prS)) (λ x79 h79=>?_)));refine Ka6 ?_)
        all_goals (first|refine aI ?_|(refine dZ 81 (λ g81=>?_) (λ g81=>?_)<;>refine Ka1 ?_))
        all_goals (refine Ka2 ?_;(first|refine aI ?_|(refine aE ?_;refine aD (c0 (V:=.bool) (hc:=λ w1 hw=>mq (hw.cl fin) hr.prS)) (λ x84 h84=>?_)));refine Kb9 ?_)
        all_goals
        refine aQ Tryz.results126 (λ w hw=>?_)
        refine⟨_,rfl,?_,hw.done⟩
        first|(simp_all[cE];done)|(simp_all[cE];omega)
       ·refine lQ ?_
        refine bD (λ c86=>?_) (λ c86=>?_)
        ·refine iB ?_;refine oG ?_;refine J1 ?_
         refine aQ Tryz.results126 (λ w hw=>?_)
         refine⟨_,rfl,?_,hw.done⟩
         (simp_all[cE];done)
        ·refine lQ ?_
         refine bD (λ c91=>?_) (λ c91=>?_)
         ·refine iB ?_;refine oG ?_;refine aA ?_
          (refine dZ 96 (λ g96=>?_) (λ g96=>?_)<;>refine Ka1 ?_)
          all_goals (refine J86 ?_;refine Ka6 ?_)
          all_goals (first|refine aI ?_|(refine dZ 101 (λ g101=>?_) (λ g101=>?_)<;>refine Ka1 ?_))
          all_goals (refine J86 ?_;refine Kb9 ?_)
          all_goals
          refine aQ Tryz.results126 (λ w hw=>?_)
          refine⟨_,rfl,?_,hw.done⟩
          first|(simp_all[cE];done)|(simp_all[cE];omega)
         ·refine Kb0 ?_
          refine aQ Tryz.results126 (λ w hw=>?_)
          refine⟨_,rfl,?_,hw.done⟩
          (simp_all[cE];omega)
end

/- Branches: what Lookup and Sole compute. -/
end Go.Proofs.YtbajmaoegmbfgaaGreat
namespace Go.Ct
section
open Go Go.RowKit
end
end Go.Ct
namespace Go.Proofs.YtbajmaoegmbfgaaGreat
section
open Go.RowKit Go.Ct
def CV(n:Nd)(xs:List Int)(ys:List Pr):Prop:=n.kind=3/\cE n xs ys
theorem CV.bv{n:Nd}{xs:List Int}{ys:List Pr}{b:Nat}(h:CV n xs ys)(hb:n.bm=(b:Int))(hb2:b<18446744073709551616):BV b xs:=by
 obtain⟨h1,h2⟩:=tB h.1 h.2
 rw[hb,sR hb2] at h1
 exact⟨hb2,by omega,h2⟩
open Classical in
noncomputable def L7 (n:Nd) (xs:List Int) (ys:List Pr) (b:Nat) (i:Int):Option Int:=if CV n xs ys/\pZ b i=true then some (xs.getD (rE b i) 0) else none
open Classical in
noncomputable def gh (n:Nd) (xs:List Int) (ys:List Pr):Option Int:=if CV n xs ys/\xs.length=1 then some (xs.getD 0 0) else none
theorem sK{b:Nat}{i:Int}(h:pZ b i=true):0<=i/\i<64/\b.testBit i.toNat=true/\rE b i=gU b i.toNat:=by
 simp only[pZ,Bool.and_eq_true,decide_eq_true_eq] at h
 exact⟨h.1,h.2.1,h.2.2,by unfold rE;congr 1;omega⟩
theorem aBa{b:Nat}{xs:List Int}(h:BV b xs){i:Int}(hh:pZ b i=true):rE b i<xs.length:=by
 obtain⟨h1,h2,h3,h4⟩:=sK hh
 rw[h4,h.len]
 exact oX (by omega) h3
section
variable{n:Nd}{xs:List Int}{ys:List Pr}{w:World}{b:Nat}
theorem cu(hb:n.bm=(b:Int))(hb2:b<18446744073709551616)(hr:sE w n xs ys):Calls Tryz.prog 243 #[n.v] w λ e w'=>∃r:Bool,e=.returned (.bool r)/\(r=true↔CV n xs ys)/\St w [] [] w':=by
 refine enter Tryz.func243 Tryz.ntmps243 rfl rfl (SF.s0 w) ?_
 simp only[cA]
 simp only[Nd.v,Nd.cells]
 refine J0 ?_;refine bK (λ x1=>?_);refine J1 ?_;refine iB ?_;refine kW ?_;refine aA ?_
 (refine dZ 6 (λ g6=>?_) (λ g6=>?_)<;>refine Ka2 ?_)
 all_goals ((first|refine aI ?_|(refine aE ?_;refine aD (c0 (V:=.bool) (hc:=λ w1 hw=>zP (n:=n) hb hb2 (hr.gF hw.done))) (λ x8 h8=>?_)));refine Kb9 ?_)
 all_goals
 refine aQ Tryz.results243 (λ w hw=>?_)
 refine⟨_,rfl,?_,hw.done⟩
 simp_all[CV]
theorem oL(i:Int)(hb:n.bm=(b:Int))(hb2:b<18446744073709551616)(hr:sE w n xs ys):Calls Tryz.prog 216 #[n.v,.int .i64 i] w λ e w'=>e=.returned (.tuple #[.int .i64 ((L7 n xs ys b i).getD 0),.bool (L7 n xs ys b i).isSome])/\St w [] [] w':=by
 have e1:=hr.brN
 refine enter Tryz.func216 Tryz.ntmps216 rfl rfl (SF.s2 hr.br hr.pr) ?_
 simp only[cA]
 simp only[Nd.v,Nd.cells,hb,e1]
 refine J0 ?_;refine bK (λ x2=>?_);refine J8 ?_;refine aS ?_;refine nF ?_;refine aD (c0 (V:=.bool) (hc:=λ w1 hw=>by rw[<- e1,<- hb];exact cu (n:=n) hb hb2 (hr.gF hw.done))) (λ x7 h7=>?_);refine Bq ?_
 (refine dZ 9 (λ g9=>?_) (λ g9=>?_)<;>refine Ka1 ?_)
 all_goals (refine dp ?_;(first|refine aI ?_|(refine aE ?_;refine aN (cV (hc:=λ w1 hw=>Hr hb2 i w1)) (λ x13=>?_)));refine Kc1 ?_)
 all_goals
 refine bD (λ c15=>?_) (λ c15=>?_)
 ·all_goals refine Py ?_
  all_goals
   refine aY Tryz.results216 (λ w hw=>?_)
   rw[show L7 n xs ys b i=none from if_neg (by simp_all)];exact⟨rfl,hw.done⟩
 ·try exact nv c15
  all_goals
   have hcv:CV n xs ys:=h7.1 (by simpa using g9)
   have hpl:=aBa (hcv.bv hb hb2) c15
  all_goals (refine kO ?_;refine eG [(0,[]),(1,[]),(2,[]),(3,[]),(4,[]),(5,[1]),(6,[]),(7,[]),(8,[]),(9,[])] ?_;refine nA ?_;refine nA ?_;refine aT ?_;refine cO (i:=5) (hq:=(cV (hc:=λ w1 hw=>Ql hb2 i w1))) (h:=λ x21=>?_);refine S7 ?_;refine Tk ?_)
  all_goals
   refine aY Tryz.results216 (λ w hw=>?_)
   rw[show L7 n xs ys b i=some (xs.getD (rE b i) 0) from if_pos ⟨hcv,c15⟩];exact⟨rfl,hw.done⟩
theorem Kj(hb:n.bm=(b:Int))(hb2:b<18446744073709551616)(hr:sE w n xs ys):Calls Tryz.prog 245 #[n.v] w λ e w'=>e=.returned (.tuple #[.int .i64 ((gh n xs ys).getD 0),.bool (gh n xs ys).isSome])/\St w [] [] w':=by
 have e1:=hr.brN
 refine enter Tryz.func245 Tryz.ntmps245 rfl rfl (SF.s2 hr.br hr.pr) ?_
 simp only[cA]
 simp only[Nd.v,Nd.cells,e1]
 refine J0 ?_;refine bK (λ x1=>?_);refine J8 ?_;refine aS ?_;refine nF ?_;refine aD (c0 (V:=.bool) (hc:=λ w1 hw=>by rw[<- e1];exact cu (n:=n) hb hb2 (hr.gF hw.done))) (λ x5 h5=>?_);refine Bq ?_
 (refine dZ 7 (λ g7=>?_) (λ g7=>?_)<;>refine Ka1 ?_)
 all_goals (refine Ka2 ?_;(first|refine aI ?_|(refine aE ?_;refine eA ?_));refine Rx ?_;refine aG ?_)
 all_goals
 refine bD (λ c12=>?_) (λ c12=>?_)
 ·all_goals refine Py ?_
  all_goals
   refine aY Tryz.results245 (λ w hw=>?_)
   rw[show gh n xs ys=none from if_neg (by simp_all;try omega)];exact⟨rfl,hw.done⟩
 ·try exact nv c12
  all_goals
   have hcv:CV n xs ys:=h5.1 (by simpa using g7)
   have hl1:xs.length=1:=by omega
  all_goals (refine aW ?_;refine iB ?_;refine aC (dH (k:=0) rf rf gH fZ fin (by omega) (by omega)) rfl ?_;refine bM ?_;refine J8 ?_)
  all_goals
   refine aY Tryz.results245 (λ w hw=>?_)
   rw[show gh n xs ys=some (xs.getD 0 0) from if_pos ⟨hcv,hl1⟩];exact⟨rfl,hw.done⟩
end
end

/- Branches: a C-node of a bitmap and a list. -/
section
open Go.RowKit Go.Ct
def cn(b:Nat)(xs:List Int)(x:Option Addr×Nat):Nd:={Nd.zero with kind:=3,bm:=(b:Int),brA:=x.1,brN:=xs.length,brC:=x.2}
theorem aAH{b:Nat}{xs:List Int}(h:BV b xs)(x:Option Addr×Nat){p:Int}(hp:0<=p):CV {cn b xs x with prev:=p} xs [] :=
 ⟨rfl,by simp[sG,Nd.own,Nd.jX,Nd.jM,cn],by simp[cn,Nd.zero],hp,by simp[cn,Nd.zero],.inr (.inr (.inl ⟨rfl,by show(xs.length:Int)=zG (b:Int);rw[sR h.lt,h.len],h.pos⟩))⟩
theorem aAy{b:Nat}{xs:List Int}(h:BV b xs)(x:Option Addr×Nat):CV (cn b xs x) xs []:=aAH h x (p:=0) (Int.le_refl _)
end

/- Nodes are made; lists are copied. -/
section
open Go.RowKit Go.Ct
theorem iu(o:Int)(w:World):Calls Tryz.prog 202 #[.int .i64 o] w λ e w'=>e=.returned ({Nd.zero with kind:=7,bA:=o}:Nd).v/\St w [] [] w':=by
 refine enter Tryz.func202 Tryz.ntmps202 rfl rfl (SF.s0 w) ?_
 simp only[cA]
 refine J0 ?_;refine aJ (λ x2=>?_);refine aG ?_;refine J2 ?_;refine vK ?_
 refine aY Tryz.results202 (λ w hw=>?_)
 exact⟨rfl,hw.done⟩
theorem jv(o x n:Int)(w:World):Calls Tryz.prog 136 #[.int .i64 o,.int .i64 x,.int .i64 n] w λ e w'=>e=.returned ({Nd.zero with kind:=8,bA:=o,exp:=x,new:=n}:Nd).v/\St w [] [] w':=by
 refine enter Tryz.func136 Tryz.ntmps136 rfl rfl (SF.s0 w) ?_
 simp only[cA]
 refine J0 ?_;refine aJ (λ x6=>?_);refine aG ?_;refine Kb8 ?_;refine vK ?_
 refine aY Tryz.results136 (λ w hw=>?_)
 exact⟨rfl,hw.done⟩
theorem SF.frz{w w':World}{F:Fr}{o:Ow}(h:SF w [] [] [] F [o] w'):SF w [] [] [] ((o.p,o.cs)::F) [] w':=h.freeze .head (by simp)
theorem SF.aCm{w w':World}{F:Fr}{o o2:Ow}(h:SF w [] [] [] F [o,o2] w'):SF w [] [] [] ((o2.p,o2.cs)::(o.p,o.cs)::F) [] w':=(h.freeze .head (by simp)).freeze .head (by simp)
theorem Se:xJ Tryz.prog 164 24=true:=by kernel_rfl
theorem Xl:xJ Tryz.prog 37 8=true:=by kernel_rfl
theorem Zk{l:List Pr}{a:Option Addr}{c:Nat}{w:World}(ha:Cl w a (cZ l))(hl:l.length<=11728124029610):Calls Tryz.prog 124 #[.slice a l.length c] w λ e w' =>
  ∃p:Option Addr,e=.returned (.slice p l.length l.length)/\(l=[]->p=none)/\SF w [] [] [] [] [⟨p,cZ l,l.length,164,2⟩] w':=by
 refine enter Tryz.func124 Tryz.ntmps124 rfl rfl (SF.s1 ha) ?_
 simp only[cA]
 refine Kb3 ?_;refine eA ?_;refine sU ?_
 refine bD (λ c6=>?_) (λ c6=>?_)
 ·have hl0:l=[]:=List.eq_nil_of_length_eq_zero (by omega)
  subst hl0
  refine cS ?_
  refine aQ Tryz.results124 (λ w hw=>?_)
  exact⟨none,rfl,λ _=>rfl,(hw.kU 164 2).aX⟩
 ·refine aW ?_;refine J2 ?_;refine eA ?_;refine aN (lj rf rf vk Se om om) (λ x9=>?_);refine Ai ?_;refine jl (λ x12=>?_);refine aG ?_;refine Ka5 ?_
  refine aQ Tryz.results124 (λ w hw=>?_)
  exact⟨some ⟨x9,0,none⟩,rfl,λ h=>absurd (congrArg List.length h) (by simpa using c6),by simpa using hw.aX (H':=[]) (F':=[])⟩
theorem Y4{l:List Int}{a:Option Addr}{c:Nat}{w:World}(ha:Cl w a (aH l))(hl:l.length<=35184372088832):Calls Tryz.prog 123 #[.slice a l.length c] w λ e w' =>
  ∃p:Option Addr,e=.returned (.slice p l.length l.length)/\(l=[]->p=none)/\SF w [] [] [] [] [⟨p,aH l,l.length,37,1⟩] w':=by
 refine enter Tryz.func123 Tryz.ntmps123 rfl rfl (SF.s1 ha) ?_
 simp only[cA]
 refine Kb3 ?_;refine eA ?_;refine sU ?_
 refine bD (λ c6=>?_) (λ c6=>?_)
 ·have hl0:l=[]:=List.eq_nil_of_length_eq_zero (by omega)
  subst hl0
  refine cS ?_
  refine aQ Tryz.results123 (λ w hw=>?_)
  exact⟨none,rfl,λ _=>rfl,(hw.kU 37 1).aX⟩
 ·refine aW ?_;refine J2 ?_;refine eA ?_;refine aN (l8 rf rf Zr Xl om om) (λ x9=>?_);refine Ai ?_;refine jl (λ x12=>?_);refine aG ?_;refine Ka5 ?_
  refine aQ Tryz.results123 (λ w hw=>?_)
  exact⟨some ⟨x9,0,none⟩,rfl,λ h=>absurd (congrArg List.length h) (by simpa using c6),by simpa using hw.aX (H':=[]) (F':=[])⟩
theorem Vz{n:Nd}{xs:List Int}{ys:List Pr}{w:World}(hr:sE w n xs ys)(h1:xs.length<=35184372088832)(h2:ys.length<=11728124029610):Calls Tryz.prog 78 #[n.v] w λ e w' =>
  ∃p:Option Addr×Option Addr,e=.returned ({n with brA:=p.1,brC:=xs.length,prA:=p.2,cZ:=ys.length}:Nd).v/\((xs=[]->p.1=none)/\(ys=[]->p.2=none))/\SF w [] [] [] [] [⟨p.2,cZ ys,ys.length,164,2⟩,⟨p.1,aH xs,xs.length,37,1⟩] w':=by
 have e1:=hr.brN;have e2:=hr.prN
 refine enter Tryz.func78 Tryz.ntmps78 rfl rfl (SF.s2 hr.br hr.pr) ?_
 simp only[cA]
 simp only[Nd.v,Nd.cells]
 refine J0 ?_;refine bK (λ x1=>?_);refine aJ (λ x2=>?_);refine aG ?_;refine iB ?_;refine aD (Sv (Hc:=λ _=>[]) (Fc:=λ _=>[]) (hc:=λ w1 hw=>by rw[e1];exact Y4 (hw.cl fin) h1)) (λ x5 h5=>?_);refine vF ?_;refine iB ?_;refine aD (Sv (Hc:=λ _=>[]) (Fc:=λ _=>[]) (hc:=λ w1 hw=>by rw[e2];exact Zk (hw.cl fin) h2)) (λ x9 h9=>?_);refine vF ?_;refine nF ?_;refine J5 ?_
 refine aY Tryz.results78 (λ w hw=>?_)
 exact⟨(x5,x9),by rw[e1,e2];rfl,⟨h5,h9⟩,hw.aX⟩
theorem Ve{n:Nd}{xs:List Int}{ys:List Pr}{w:World}(hr:sE w n xs ys)(h1:xs.length<=35184372088832)(h2:ys.length<=11728124029610):Calls Tryz.prog 78 #[n.v] w λ e w' =>
  ∃p:Option Addr×Option Addr,e=.returned ({n with brA:=p.1,brC:=xs.length,prA:=p.2,cZ:=ys.length}:Nd).v/\((xs=[]->p.1=none)/\(ys=[]->p.2=none))/\SF w [] [] [] [(p.1,aH xs),(p.2,cZ ys)] [] w':=(Vz hr h1 h2).mono λ _ _ ⟨p,he,hp,hs⟩=>⟨p,he,hp,SF.aCm hs⟩
end

end Go.Proofs.YtbajmaoegmbfgaaGreat
