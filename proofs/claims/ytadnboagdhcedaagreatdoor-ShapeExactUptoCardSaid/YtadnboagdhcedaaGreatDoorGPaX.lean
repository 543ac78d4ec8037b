/- Pairs: the algebra. -/
import Derived.Test.YtadnboagdhcedaaGreatDoorGPa1
import Derived.Test.YtadnboagdhcedaaGreatDoorGBits
import Derived.Test.YtadnboagdhcedaaGreatDoorAuto

set_option linter.unusedSimpArgs false
set_option linter.unusedVariables false
namespace Go.Proofs.YtadnboagdhcedaaGreatDoor
section
open Go.RowKit Go.Ct
section
variable{l X:List Pr}{a:Option Addr}{c M:Nat}{k j:ByteArray}{v z:Int}{w:World}
theorem s5(X:List Pr)(k:ByteArray)(v:Int):(Qb X k v).length<=X.length+1:=by
 unfold Qb
 split
 ·next h=>rw[xY h];split<;>omega
 ·exact Nat.zero_le _
theorem jc(X:List Pr)(k:ByteArray):(sD X k).length<=X.length:=by
 unfold sD
 split
 ·exact G6 X k
 ·exact Nat.zero_le _
end
end

/- C-nodes are maps: the plain laws. -/
end Go.Proofs.YtadnboagdhcedaaGreatDoor
namespace Go.Ct
section
open Go Go.RowKit
def rA(b:Nat)(xs:List Int)(k:Nat):Option Int:=if b.testBit k=true then some (xs.getD (gB b k) 0) else none
def Ci(m:Nat->Option Int):Nat->Nat
 | 0=>0
 | k+1=>if(m k).isSome=true then Ci m k ||| 2^k else Ci m k
def pY(m:Nat->Option Int):Nat->List Int
 | 0=>[]
 | k+1=>pY m k++(m k).toList
def Nw(m:Nat->Option Int)(i:Nat)(o:Option Int)(k:Nat):Option Int:=if k=i then o else m k
structure BV(b:Nat)(xs:List Int):Prop where
 lt:b<18446744073709551616
 len:xs.length=gB b 64
 pos:∀i,i<xs.length->1<=xs.getD i 0
theorem Ut(m:Nat->Option Int)(j:Nat):∀k,(Ci m k).testBit j=(decide (j<k)&&(m j).isSome)
 | 0=>by simp[Ci]
 | k+1=>by
  have ih:=Ut m j k;simp only[Ci]
  by_cases hjk:j=k
  ·subst hjk
   by_cases h:(m j).isSome=true
   ·rw[if_pos h,Nat.testBit_or,Nat.testBit_two_pow];simp[h]
   ·rw[if_neg h,ih];simp at h;simp[h]
  ·have h2:(2^k).testBit j=false:=by rw[Nat.testBit_two_pow];exact decide_eq_false (λ h=>hjk h.symm)
   split
   ·rw[Nat.testBit_or,ih,h2,Bool.or_false]
    congr 1
    exact decide_eq_decide.2 (by omega)
   ·rw[ih]
    congr 1
    exact decide_eq_decide.2 (by omega)
theorem ll(m:Nat->Option Int):∀k,Ci m k<2^k
 | 0=>by simp[Ci]
 | k+1=>by
  have ih:=ll m k;have h2:2^(k+1)=2^k+2^k:=by rw[Nat.pow_succ];omega
  simp only[Ci]
  split
  ·refine Nat.or_lt_two_pow (by omega) ?_;have:=Nat.two_pow_pos k;omega
  ·omega
theorem Cu{xs:List Int}{i:Nat}(h:i<xs.length):xs.getD i 0∈xs:=by
 rw[gF,List.getElem?_eq_getElem h]
 exact List.getElem_mem h
theorem Rj{m m':Nat->Option Int}:∀n,(∀k,k<n->m k=m' k)->Ci m n=Ci m' n/\pY m n=pY m' n
 | 0,_=>⟨rfl,rfl⟩
 | n+1,h=>by
  obtain⟨h1,h2⟩:=Rj n λ k hk=>h k (by omega)
  simp only[Ci,pY,h1,h2,h n (by omega),and_self]
theorem vG(b:Nat)(k:Nat):∀d,gB b k<=gB b (k+d)
 | 0=>Nat.le_refl _
 | d+1=>by have:=vG b k d;rw[<- Nat.add_assoc];simp only[gB];omega
theorem oX{b k n:Nat}(h:k<n)(hb:b.testBit k=true):gB b k<gB b n:=by
 obtain⟨d,rfl⟩:=Nat.exists_eq_add_of_le (Nat.succ_le_of_lt h)
 have:=vG b (k+1) d;simp only[gB,hb,if_true] at this
 exact this
theorem Vl{b:Nat}{xs:List Int}(h:xs.length=gB b 64):∀k,k<=64->pY (rA b xs) k=xs.take (gB b k)
 | 0,_=>by simp[pY,gB]
 | k+1,hk=>by
  have ih:=Vl h k (by omega);simp only[pY,ih,rA,gB]
  split
  ·rename_i hb
   have:=oX (n:=64) (by omega) hb;rw[List.take_add_one,Option.toList,gF,List.getElem?_eq_getElem (by omega)];rfl
  ·simp
theorem Rx{b:Nat}{xs:List Int}(h:BV b xs):Ci (rA b xs) 64=b/\pY (rA b xs) 64=xs:=by
 refine⟨Nat.eq_of_testBit_eq λ j=>?_,?_⟩
 ·rw[Ut]
  by_cases hj:j<64
  ·rw[decide_eq_true hj,Bool.true_and]
   unfold rA
   cases hb:b.testBit j<;>simp
  ·rw[decide_eq_false hj,Bool.false_and]
   exact(Nat.testBit_lt_two_pow (Nat.lt_of_lt_of_le h.lt (Nat.pow_le_pow_right (n:=2) (by decide) (show 64<=j by omega)))).symm
 ·rw[Vl h.len 64 (Nat.le_refl _),<- h.len,List.take_length]
theorem Ax{b b' i:Nat}(h:b.testBit i=false)(hb:∀j,j<64->b'.testBit j=(b.testBit j||decide (j=i))):∀k,k<=64->gB b' k=gB b k+if i<k then 1 else 0
 | 0,_=>rfl
 | k+1,hk=>by
  have ih:=Ax h hb k (by omega);simp only[gB,ih,hb k (by omega)]
  by_cases hki:k=i
  ·subst hki
   simp[h]
  ·have:decide (k=i)=false:=decide_eq_false hki;rw[this,Bool.or_false];have e:(i<k+1)↔(i<k):=by omega
   simp only[e]
   omega
def vR(xs:List Int)(p:Nat)(r:Int):List Int:=xs.take p++r::xs.drop p
def Ae(xs:List Int)(p:Nat)(r:Int):List Int:=xs.take p++r::xs.drop (p+1)
def sF(xs:List Int)(p:Nat):List Int:=xs.take p++xs.drop (p+1)
theorem H9{xs:List Int}{p:Nat}(hp:p<=xs.length)(r:Int):(vR xs p r).length=xs.length+1:=by
 simp[vR];omega
theorem vT{xs:List Int}{p:Nat}(hp:p<xs.length)(r:Int):(Ae xs p r).length=xs.length:=by
 simp[Ae];omega
theorem H3{xs:List Int}{p:Nat}(hp:p<xs.length):(sF xs p).length+1=xs.length:=by
 simp[sF];omega
theorem U2{xs:List Int}{p:Nat}(hp:p<=xs.length)(r:Int)(q:Nat):(vR xs p r).getD q 0=if q<p then xs.getD q 0 else if q=p then r else xs.getD (q-1) 0:=by
 simp only[vR,gF]
 by_cases h1:q<p
 ·rw[if_pos h1,List.getElem?_append_left (by simp;omega),List.getElem?_take_of_lt h1]
 ·rw[if_neg h1,List.getElem?_append_right (by simp;omega)];have:(xs.take p).length=p:=by simp;omega
  rw[this]
  by_cases h2:q=p
  ·subst h2;simp
  ·obtain⟨d,hd⟩:∃d,q-p=d+1:=⟨q-p-1,by omega⟩
   rw[if_neg h2,hd,List.getElem?_cons_succ,List.getElem?_drop]
   congr 2
   omega
theorem Nl{xs:List Int}{p:Nat}(hp:p<xs.length)(r:Int)(q:Nat):(Ae xs p r).getD q 0=if q=p then r else xs.getD q 0:=by
 simp only[Ae,gF]
 by_cases h1:q<p
 ·rw[if_neg (by omega),List.getElem?_append_left (by simp;omega),List.getElem?_take_of_lt h1]
 ·rw[List.getElem?_append_right (by simp;omega)];have:(xs.take p).length=p:=by simp;omega
  rw[this]
  by_cases h2:q=p
  ·subst h2;simp
  ·obtain⟨d,hd⟩:∃d,q-p=d+1:=⟨q-p-1,by omega⟩
   rw[if_neg h2,hd,List.getElem?_cons_succ,List.getElem?_drop]
   congr 2
   omega
theorem V0{xs:List Int}{p:Nat}(hp:p<xs.length)(q:Nat):(sF xs p).getD q 0=if q<p then xs.getD q 0 else xs.getD (q+1) 0:=by
 simp only[sF,gF]
 by_cases h1:q<p
 ·rw[if_pos h1,List.getElem?_append_left (by simp;omega),List.getElem?_take_of_lt h1]
 ·rw[if_neg h1,List.getElem?_append_right (by simp;omega)];have:(xs.take p).length=p:=by simp;omega
  rw[this,List.getElem?_drop]
  congr 2
  omega
theorem Dd{xs ys:List Int}(h:∀i,i<xs.length->1<=xs.getD i 0)(hy:∀j,j<ys.length->1<=ys.getD j 0∨∃i,i<xs.length/\ys.getD j 0=xs.getD i 0):∀j,j<ys.length->1<=ys.getD j 0:=λ j hj=>by
 rcases hy j hj with h1|⟨i,hi,he⟩
 ·exact h1
 ·rw[he];exact h i hi
section
variable{b i:Nat}{xs:List Int}{r:Int}
theorem B1(b i:Nat)(j:Nat):(b ||| 2^i).testBit j=(b.testBit j||decide (j=i)):=by
 rw[Nat.testBit_or,Nat.testBit_two_pow]
 congr 1
 exact decide_eq_decide.2 eq_comm
theorem wT(b i:Nat)(j:Nat):(b ^^^ (b &&& 2^i)).testBit j=(b.testBit j&&!decide (j=i)):=by
 rw[Nat.testBit_xor,Nat.testBit_and,Nat.testBit_two_pow];have:decide (i=j)=decide (j=i):=decide_eq_decide.2 eq_comm;rw[this];cases b.testBit j<;>cases decide (j=i)<;>rfl
theorem Hn(h:BV b xs)(hi:i<64)(hb:b.testBit i=false)(hr:1<=r):BV (b ||| 2^i) (vR xs (gB b i) r)/\∀k,k<64->rA (b ||| 2^i) (vR xs (gB b i) r) k=Nw (rA b xs) i (some r) k:=by
 have hc:=Ax hb (λ j _=>B1 b i j)
 have hp:gB b i<=xs.length:=by
  obtain⟨d,hd⟩:=Nat.exists_eq_add_of_le (Nat.le_of_lt hi)
  rw[h.len,hd]
  exact vG b i d
 refine⟨⟨Nat.or_lt_two_pow (n:=64) h.lt (Nat.pow_lt_pow_right (a:=2) (by decide) hi),?_,Dd h.pos λ j hj=>?_⟩,λ k hk=>?_⟩
 ·rw[H9 hp,hc 64 (Nat.le_refl _),if_pos hi,h.len]
 ·rw[H9 hp] at hj
  rw[U2 hp]
  by_cases h1:j<gB b i
  ·rw[if_pos h1];exact .inr ⟨j,by omega,rfl⟩
  ·rw[if_neg h1]
   by_cases h2:j=gB b i
   ·rw[if_pos h2];exact .inl hr
   ·rw[if_neg h2];exact .inr ⟨j-1,by omega,rfl⟩
 ·simp only[rA,Nw]
  rw[B1,hc k (by omega),U2 hp]
  by_cases hki:k=i
  ·subst hki;simp
  ·rw[if_neg hki,decide_eq_false hki,Bool.or_false]
   by_cases hbk:b.testBit k=true
   ·rw[if_pos hbk,if_pos hbk]
    congr 1
    by_cases hlt:k<i
    ·have:=oX hlt hbk;rw[if_neg (show ¬i<k by omega),if_pos (by omega)];rfl
    ·have:gB b i<=gB b k:=by
      obtain⟨d,hd⟩:=Nat.exists_eq_add_of_le (show i<=k by omega)
      rw[hd];exact vG b i d
     rw[if_pos (show i<k by omega),if_neg (by omega),if_neg (by omega)]
     rfl
   ·rw[if_neg hbk,if_neg hbk]
theorem Tq(h:BV b xs)(hi:i<64)(hb:b.testBit i=true)(hr:1<=r):BV b (Ae xs (gB b i) r)/\∀k,k<64->rA b (Ae xs (gB b i) r) k=Nw (rA b xs) i (some r) k:=by
 have hp:gB b i<xs.length:=by rw[h.len];exact oX hi hb
 refine⟨⟨h.lt,by rw[vT hp,h.len],Dd h.pos λ j hj=>?_⟩,λ k hk=>?_⟩
 ·rw[vT hp] at hj
  rw[Nl hp]
  by_cases h2:j=gB b i
  ·rw[if_pos h2];exact .inl hr
  ·rw[if_neg h2];exact .inr ⟨j,hj,rfl⟩
 ·simp only[rA,Nw]
  rw[Nl hp]
  by_cases hki:k=i
  ·subst hki;rw[if_pos hb,if_pos rfl,if_pos rfl]
  ·rw[if_neg hki]
   by_cases hbk:b.testBit k=true
   ·rw[if_pos hbk,if_pos hbk,if_neg]
    rcases Nat.lt_or_gt_of_ne hki with hlt|hlt
    ·have:=oX hlt hbk;omega
    ·have:=oX hlt hb;omega
   ·rw[if_neg hbk,if_neg hbk]
theorem Sf(h:BV b xs)(hi:i<64)(hb:b.testBit i=true):BV (b ^^^ (b &&& 2^i)) (sF xs (gB b i))/\∀k,k<64->rA (b ^^^ (b &&& 2^i)) (sF xs (gB b i)) k=Nw (rA b xs) i none k:=by
 have hp:gB b i<xs.length:=by rw[h.len];exact oX hi hb
 have hb':(b ^^^ (b &&& 2^i)).testBit i=false:=by rw[wT];simp
 have hc:=Ax (b':=b) hb' (λ j _=>by
  rw[wT]
  by_cases hji:j=i
  ·subst hji;simp[hb]
  ·rw[decide_eq_false hji];simp)
 refine⟨⟨Nat.xor_lt_two_pow (n:=64) h.lt (Nat.lt_of_le_of_lt Nat.and_le_left h.lt),?_,Dd h.pos λ j hj=>?_⟩,λ k hk=>?_⟩
 ·have:=H3 hp;have:=hc 64 (Nat.le_refl _);rw[if_pos hi] at this;have:=h.len;omega
 ·have:=H3 hp;rw[V0 hp];by_cases h1:j<gB b i
  ·rw[if_pos h1];exact .inr ⟨j,by omega,rfl⟩
  ·rw[if_neg h1];exact .inr ⟨j+1,by omega,rfl⟩
 ·simp only[rA,Nw]
  have hck:=hc k (by omega);rw[wT,V0 hp];by_cases hki:k=i
  ·subst hki;simp
  ·rw[if_neg hki,decide_eq_false hki,Bool.not_false,Bool.and_true]
   by_cases hbk:b.testBit k=true
   ·rw[if_pos hbk,if_pos hbk]
    congr 1
    by_cases hlt:k<i
    ·have:=oX hlt hbk;rw[if_neg (show ¬i<k by omega)] at hck;rw[if_pos (by omega),hck];rfl
    ·have:=oX (show i<k by omega) hb;rw[if_pos (show i<k by omega)] at hck;rw[if_neg (by omega),hck]
   ·rw[if_neg hbk,if_neg hbk]
end
end

/- What is known of a list, in short. -/
section
open Go Go.RowKit
variable{w0 w:World}{M:List Nat}{H:List (Nat×Obj)}{A F:Fr}{O:List Ow}
end
end Go.Ct
namespace Go.Proofs.YtadnboagdhcedaaGreatDoor
section
open Go.RowKit Go.Ct
theorem nK{n:Nd}{xs:List Int}{ys:List Pr}(h:n.kind=3)(hv:cK n xs ys):(xs.length:Int)=zE n.bm/\Pos xs:=by
 obtain⟨_,_,_,_,hv⟩:=hv
 rcases hv with h1|⟨h1,_⟩|⟨_,h2,h3⟩|⟨h1|h1,_⟩|⟨h1,_⟩|⟨h1,_⟩|⟨h1,_⟩
 all_goals first|exact⟨h2,h3⟩|(rw[h] at h1;exact absurd h1 (by decide))
end

/- The reference's Valid. -/
section
open Go.RowKit Go.Ct
theorem aAj(n:Nd)(h1:1<=n.kind)(h8:n.kind<=8)(w:World):Calls Tryz.prog 137 #[n.v] w λ e w'=>e=.returned n.own.v/\St w [] [] w':=by
 refine enter Tryz.func137 Tryz.ntmps137 rfl rfl (SF.s0 w) ?_;simp only[cP]
 refine K1k ?_;intro x1;refine aT (λ x2=>?_);refine aK ?_;refine Ce ?_;refine Kd4 ?_;refine bA (λ c5=>?_) (λ c5=>?_)
 ·refine gH ?_;refine K1x ?_;intro w hw;(exact⟨by simp only[Nd.own,beq_iff_eq, *,if_true,if_false];rfl,hw.done⟩)
 ·refine jM ?_;refine bA (λ c10=>?_) (λ c10=>?_)
  ·refine gH ?_;refine Kd3 ?_;refine K1x ?_;intro w hw;(exact⟨by simp only[Nd.own,beq_iff_eq, *,if_true,if_false];rfl,hw.done⟩)
  ·refine jM ?_;refine bA (λ c19=>?_) (λ c19=>?_)
   ·refine gH ?_;refine Kd3 ?_;refine J3 ?_;refine K1x ?_;intro w hw;(exact⟨by simp only[Nd.own,beq_iff_eq, *,if_true,if_false];rfl,hw.done⟩)
   ·refine jM ?_;refine bA (λ c30=>?_) (λ c30=>?_)
    ·refine gH ?_;refine Kd3 ?_;refine J3 ?_;refine K1x ?_;intro w hw;(exact⟨by simp only[Nd.own,beq_iff_eq, *,if_true,if_false];rfl,hw.done⟩)
    ·refine jM ?_;refine bA (λ c41=>?_) (λ c41=>?_)
     ·refine gH ?_;refine Kd3 ?_;refine Kd3 ?_;refine K1x ?_;intro w hw;(exact⟨by simp only[Nd.own,beq_iff_eq, *,if_true,if_false];rfl,hw.done⟩)
     ·refine jM ?_;refine bA (λ c54=>?_) (λ c54=>?_)
      ·refine gH ?_;refine Kd3 ?_;refine J3 ?_;refine K1x ?_;intro w hw;(exact⟨by simp only[Nd.own,beq_iff_eq, *,if_true,if_false];rfl,hw.done⟩)
      ·refine jM ?_;refine bA (λ c65=>?_) (λ c65=>?_)
       ·refine gH ?_;refine J3 ?_;refine K1x ?_;intro w hw;(exact⟨by simp only[Nd.own,beq_iff_eq, *,if_true,if_false];rfl,hw.done⟩)
       ·refine jM ?_;refine bA (λ c72=>?_) (λ c72=>?_)
        ·refine gH ?_;refine Kd3 ?_;refine Kd3 ?_;refine K1x ?_;intro w hw;(exact⟨by simp only[Nd.own,beq_iff_eq, *,if_true,if_false];rfl,hw.done⟩)
        ·refine kN ?_;refine Ke0 ?_;refine bK Tryz.results137 (λ w hw=>?_);(exfalso;omega)
theorem db{n:Nd}{xs:List Int}{ys:List Pr}(h:n.kind=3){k:Nat}(hk:k<xs.length)(hx:xs.getD k 0<1):false=true↔cK n xs ys:=by
 simp only[Bool.false_eq_true,false_iff]
 intro hv
 have:=(nK h hv).2 k hk;omega
theorem ss{n:Nd}{xs:List Int}{ys:List Pr}{c:Int}(h:n.kind=3)(he:rG n n.own xs (n.iB xs) ys (n.gY ys))(h1:0<=n.main)(h2:0<=n.prev)(h3:0<=n.status)(eo:zE n.bm=c)(hp:Pos xs):((xs.length:Int)==c)=true↔cK n xs ys:=by
 rw[beq_iff_eq,<- eo]
 exact⟨λ hl=>⟨he,h1,h2,h3,.inr (.inr (.inl ⟨h,hl,hp⟩))⟩,λ hv=>(nK h hv).1⟩
theorem Af{n:Nd}{xs:List Int}{ys:List Pr}{w:World}{b:Nat}(hb:n.bm=(b:Int))(hb2:b<18446744073709551616)(hr:qR w n xs ys) :
  Calls Tryz.prog 102 #[n.v] w λ e w'=>∃r:Bool,e=.returned (.bool r)/\(r=true↔cK n xs ys)/\St w [] [] w':=by
 have e1:=hr.brN;have e2:=hr.prN;obtain⟨kind,gen,main,bm,brA,brN,brC,hash,key,val,prA,prN,prK,prev,bO,exp,new,status⟩:=n
 simp only at e1 e2 hb
 subst e1 e2 hb;have eo:zE (b:Int)=((gB b 64:Nat):Int):=nL hb2;have hxl:=hr.brS;refine enter Tryz.func102 Tryz.ntmps102 rfl rfl (SF.s2 hr.br hr.pr) ?_;simp only[cP]
 simp only[Nd.v,Nd.cells]
 refine K1k ?_;intro x1;refine gX ?_;refine aV ?_;refine dZ [(0,[]),(1,[]),(2,[]),(3,[]),(4,[]),(5,[]),(6,[]),(7,[]),(8,[]),(9,[]),(10,[]),(11,[9]),(12,[]),(13,[]),(14,[]),(15,[]),(16,[]),(17,[]),(18,[]),(19,[]),(20,[]),(21,[]),(22,[]),(23,[]),(24,[]),(25,[]),(26,[]),(27,[]),(28,[]),(29,[])] ?_;refine iT ?_;refine Dr ?_;refine aL ?_;(refine Eu 7 (λ g7=>?_) (λ g7=>?_)<;>(first|refine bX ?_|(refine aN ?_)));all_goals ((first|refine bX ?_|(refine aZ ?_));(first|refine bX ?_|(refine Qa ?_));refine Ke7 ?_)
 all_goals (first|refine bX ?_|(refine Eu 12 (λ g12=>?_) (λ g12=>?_)<;>(first|refine bX ?_|(refine aZ ?_))))
 all_goals ((first|refine bX ?_|(refine aZ ?_));(first|refine bX ?_|(refine cA (i:=11) (hq:=(cV (hc:=λ w1 hw=>aAj (⟨kind,gen,main,(b:Int),brA,xs.length,brC,hash,key,val,prA,ys.length,prK,prev,bO,exp,new,status⟩:Nd) (show(1:Int)<=kind by omega) (show kind<=8 by omega) w1))) (h:=λ x15=>?_)));(first|refine bX ?_|(refine bL (i:=12) (hq:=(c0 (V:=.bool) (hc:=λ w1 hw=>rv (a:=(⟨kind,gen,main,(b:Int),brA,xs.length,brC,hash,key,val,prA,ys.length,prK,prev,bO,exp,new,status⟩:Nd)) (b:=((⟨kind,gen,main,(b:Int),brA,xs.length,brC,hash,key,val,prA,ys.length,prK,prev,bO,exp,new,status⟩:Nd)).own) (hr.gU hw.done) (hr.gU hw.done).own))) (h:=λ x16 h16=>?_)));(first|refine bX ?_|(refine zJ ?_));refine Ke7 ?_)
 all_goals (first|refine bX ?_|(refine Eu 19 (λ g19=>?_) (λ g19=>?_)<;>(first|refine bX ?_|(refine aN ?_))))
 all_goals ((first|refine bX ?_|(refine aZ ?_));(first|refine bX ?_|(refine Dr ?_));refine Ke7 ?_)
 all_goals (first|refine bX ?_|(refine Eu 24 (λ g24=>?_) (λ g24=>?_)<;>(first|refine bX ?_|(refine aN ?_))))
 all_goals ((first|refine bX ?_|(refine aZ ?_));(first|refine bX ?_|(refine Dr ?_));refine Ke7 ?_)
 all_goals (first|refine bX ?_|(refine Eu 29 (λ g29=>?_) (λ g29=>?_)<;>(first|refine bX ?_|(refine aN ?_))))
 all_goals ((first|refine bX ?_|(refine aZ ?_));(first|refine bX ?_|(refine Dr ?_));refine eS ?_;refine dJ ?_)
 all_goals
 refine bA (λ c33=>?_) (λ c33=>?_)
 ·all_goals refine cR ?_
  all_goals
   refine K1y ?_;intro w hw;refine⟨_,rfl,?_,hw.done⟩;first|(simp_all[cK];done)|(simp_all[cK];omega)
 ·try exact nv c33
  all_goals (refine jH ?_;refine gH ?_;refine Kd4 ?_)
  all_goals
   refine bA (λ c36=>?_) (λ c36=>?_)
   ·refine gH ?_;refine oD ?_;refine J1 ?_;refine K1y ?_;intro w hw;refine⟨_,rfl,?_,hw.done⟩;(simp_all[cK];done)
   ·refine jM ?_;refine bA (λ c41=>?_) (λ c41=>?_)
    ·refine aV ?_;refine zR ?_;refine fK [2,3,43,44,45,46,47,48,49,50,51,52,53,54,55] (λ k=>[(3,.int .i64 ((k:Nat):Int))]) (λ k=>k<=xs.length/\∀i,i<k->1<=xs.getD i 0) (λ k=>xs.length-k) (0) (⟨Nat.zero_le _,λ i hi=>absurd hi (Nat.not_lt_zero i)⟩) ?_ (λ k f hx=>?_)
     ·repeat (first|exact bC _|refine aY (by exact rfl) ?_)
     refine K0a ?_;refine jL ?_;refine I3 ?_;refine rJ ?_;refine bA (λ c47=>?_) (λ c47=>?_)
     ·refine mZ ?_;refine Ka9 ?_;refine Pb ?_;refine rJ ?_;refine bA (λ c55=>?_) (λ c55=>?_)
      ·refine cR ?_;refine K1y ?_;intro w hw;refine⟨_,rfl,?_,hw.done⟩;exact db c41 (k:=k) (by omega) (by assumption)
      ·refine Kc1 ?_;refine dW (k+1) ?_ ?_ ?_
       ·omega
       ·repeat' (first|exact bC _|refine aY ?_ ?_)
        exact rfl
       ·exact⟨by omega,λ i hi=>by rcases Nat.lt_succ_iff_lt_or_eq.1 hi with h|rfl;exact hx.2 i h;omega⟩
     ·refine bM rfl ?_;refine aV ?_;refine dZ [(0,[]),(1,[]),(2,[]),(3,[]),(4,[]),(5,[1]),(6,[]),(7,[])] ?_;refine iT ?_;refine iW ?_;refine iT ?_;refine cA (i:=5) (hq:=(cV (hc:=λ w1 hw=>Sb hb2 w1))) (h:=λ x61=>?_);refine jQ ?_;refine J7 ?_;refine K1y ?_;intro w hw;refine⟨_,rfl,?_,hw.done⟩;exact ss c41 (h16.1 (by simpa using g19)) (show 0<=main by omega) (show 0<=prev by omega) (show 0<=status by omega) eo (λ i hi=>hx.2 i (by omega))
    ·refine aV ?_;refine jM ?_;refine bA (λ c63=>?_) (λ c63=>?_)
     ·refine bB ?_;refine bA (λ c63=>?_) (λ c63=>?_)
      ·refine gH ?_;refine lF ?_;refine zM ?_;refine J1 ?_;refine K1y ?_;intro w hw;refine⟨_,rfl,?_,hw.done⟩;(simp_all[cK];omega)
      ·refine jM ?_;refine bA (λ c70=>?_) (λ c70=>?_)
       ·refine gH ?_;refine dE ?_;refine oD ?_;refine aB ?_;(refine eM 76 (λ g76=>?_) (λ g76=>?_)<;>refine Ka1 ?_);all_goals (refine Ka2 ?_;(first|refine aJ ?_|(refine aF ?_;refine aD (c0 (V:=.bool) (hc:=λ w1 hw=>mY (hw.cl fin) hr.prS)) (λ x79 h79=>?_)));refine Kc4 ?_)
        all_goals (first|refine aJ ?_|(refine eM 81 (λ g81=>?_) (λ g81=>?_)<;>refine Ka1 ?_))
        all_goals (refine Ka2 ?_;(first|refine aJ ?_|(refine aF ?_;refine aD (c0 (V:=.bool) (hc:=λ w1 hw=>cf (hw.cl fin) hr.prS)) (λ x84 h84=>?_)));refine Kd0 ?_)
        all_goals
        refine K1y ?_;intro w hw;refine⟨_,rfl,?_,hw.done⟩;(simp_all[cK];done)
       ·refine jM ?_;refine bA (λ c86=>?_) (λ c86=>?_)
        ·refine gH ?_;refine oD ?_;refine J1 ?_;refine K1y ?_;intro w hw;refine⟨_,rfl,?_,hw.done⟩;(simp_all[cK];done)
        ·refine jM ?_;refine bA (λ c91=>?_) (λ c91=>?_)
         ·refine gH ?_;refine oD ?_;refine aB ?_;(refine eM 96 (λ g96=>?_) (λ g96=>?_)<;>refine Ka1 ?_);all_goals (refine J86 ?_;refine Kc4 ?_)
          all_goals (first|refine aJ ?_|(refine eM 101 (λ g101=>?_) (λ g101=>?_)<;>refine Ka1 ?_))
          all_goals (refine J86 ?_;refine Kd0 ?_)
          all_goals
          refine K1y ?_;intro w hw;refine⟨_,rfl,?_,hw.done⟩;(simp_all[cK];done)
         ·refine Kb6 ?_;refine K1y ?_;intro w hw;refine⟨_,rfl,?_,hw.done⟩;(simp_all[cK];done)
     ·refine dM ?_;refine Oa ?_;refine bA (λ c63=>?_) (λ c63=>?_)
      ·refine gH ?_;refine lF ?_;refine zM ?_;refine J1 ?_;refine K1y ?_;intro w hw;refine⟨_,rfl,?_,hw.done⟩;(simp_all[cK];omega)
      ·refine jM ?_;refine bA (λ c70=>?_) (λ c70=>?_)
       ·refine gH ?_;refine dE ?_;refine oD ?_;refine aB ?_;(refine eM 76 (λ g76=>?_) (λ g76=>?_)<;>refine Ka1 ?_);all_goals (refine Ka2 ?_;(first|refine aJ ?_|(refine aF ?_;refine aD (c0 (V:=.bool) (hc:=λ w1 hw=>mY (hw.cl fin) hr.prS)) (λ x79 h79=>?_)));refine Kc4 ?_)
        all_goals (first|refine aJ ?_|(refine eM 81 (λ g81=>?_) (λ g81=>?_)<;>refine Ka1 ?_))
        all_goals (refine Ka2 ?_;(first|refine aJ ?_|(refine aF ?_;refine aD (c0 (V:=.bool) (hc:=λ w1 hw=>cf (hw.cl fin) hr.prS)) (λ x84 h84=>?_)));refine Kd0 ?_)
        all_goals
        refine K1y ?_;intro w hw;refine⟨_,rfl,?_,hw.done⟩;first|(simp_all[cK];done)|(simp_all[cK];omega)
       ·refine jM ?_;refine bA (λ c86=>?_) (λ c86=>?_)
        ·refine gH ?_;refine oD ?_;refine J1 ?_;refine K1y ?_;intro w hw;refine⟨_,rfl,?_,hw.done⟩;(simp_all[cK];done)
        ·refine jM ?_;refine bA (λ c91=>?_) (λ c91=>?_)
         ·refine gH ?_;refine oD ?_;refine aB ?_;(refine eM 96 (λ g96=>?_) (λ g96=>?_)<;>refine Ka1 ?_);all_goals (refine J86 ?_;refine Kc4 ?_)
          all_goals (first|refine aJ ?_|(refine eM 101 (λ g101=>?_) (λ g101=>?_)<;>refine Ka1 ?_))
          all_goals (refine J86 ?_;refine Kd0 ?_)
          all_goals
          refine K1y ?_;intro w hw;refine⟨_,rfl,?_,hw.done⟩;first|(simp_all[cK];done)|(simp_all[cK];omega)
         ·refine Kb6 ?_;refine K1y ?_;intro w hw;refine⟨_,rfl,?_,hw.done⟩;(simp_all[cK];omega)
end

end Go.Proofs.YtadnboagdhcedaaGreatDoor
