/- Pairs: the algebra. -/
import Derived.Test.YtadnboagdhcedaaGreatDoorGPa1
import Derived.Test.YtadnboagdhcedaaGreatDoorGBits
import Derived.Test.YtadnboagdhcedaaGreatDoorAuto

set_option linter.unusedSimpArgs false
set_option linter.unusedVariables false
namespace Go.Proofs.YtadnboagdhcedaaGreatDoor
section
open Go.RowKit Go.Ct
section
variable{l X:List Pr}{a:Option Addr}{c M:Nat}{k j:ByteArray}{v z:Int}{w:World}
theorem dq(X:List Pr)(k:ByteArray)(v:Int):(Jm X k v).length<=X.length+1:=by
 unfold Jm
 split
 ·next h=>rw[uD h];split<;>omega
 ·exact Nat.zero_le _
theorem Wv(X:List Pr)(k:ByteArray):(pR X k).length<=X.length:=by
 unfold pR
 split
 ·exact Dw X k
 ·exact Nat.zero_le _
end
end

/- C-nodes are maps: the plain laws. -/
end Go.Proofs.YtadnboagdhcedaaGreatDoor
namespace Go.Ct
section
open Go Go.RowKit
def nT(b:Nat)(xs:List Int)(k:Nat):Option Int:=if b.testBit k=true then some (xs.getD (eE b k) 0) else none
def xZ(m:Nat->Option Int):Nat->Nat
 | 0=>0
 | k+1=>if(m k).isSome=true then xZ m k ||| 2^k else xZ m k
def oA(m:Nat->Option Int):Nat->List Int
 | 0=>[]
 | k+1=>oA m k++(m k).toList
def Ff(m:Nat->Option Int)(i:Nat)(o:Option Int)(k:Nat):Option Int:=if k=i then o else m k
structure BV(b:Nat)(xs:List Int):Prop where
 lt:b<18446744073709551616
 len:xs.length=eE b 64
 pos:∀i,i<xs.length->1<=xs.getD i 0
theorem Px(m:Nat->Option Int)(j:Nat):∀k,(xZ m k).testBit j=(decide (j<k)&&(m j).isSome)
 | 0=>by simp[xZ]
 | k+1=>by
  have ih:=Px m j k
  simp only[xZ]
  by_cases hjk:j=k
  ·subst hjk
   by_cases h:(m j).isSome=true
   ·rw[if_pos h,Nat.testBit_or,Nat.testBit_two_pow];simp[h]
   ·rw[if_neg h,ih];simp at h;simp[h]
  ·have h2:(2^k).testBit j=false:=by rw[Nat.testBit_two_pow];exact decide_eq_false (λ h=>hjk h.symm)
   split
   ·rw[Nat.testBit_or,ih,h2,Bool.or_false]
    congr 1
    exact decide_eq_decide.2 (by omega)
   ·rw[ih]
    congr 1
    exact decide_eq_decide.2 (by omega)
theorem Yl(m:Nat->Option Int):∀k,xZ m k<2^k
 | 0=>by simp[xZ]
 | k+1=>by
  have ih:=Yl m k
  have h2:2^(k+1)=2^k+2^k:=by rw[Nat.pow_succ];omega
  simp only[xZ]
  split
  ·refine Nat.or_lt_two_pow (by omega) ?_
   have:=Nat.two_pow_pos k
   omega
  ·omega
theorem yM{xs:List Int}{i:Nat}(h:i<xs.length):xs.getD i 0∈xs:=by
 rw[fQ,List.getElem?_eq_getElem h]
 exact List.getElem_mem h
theorem Kf{m m':Nat->Option Int}:∀n,(∀k,k<n->m k=m' k)->xZ m n=xZ m' n/\oA m n=oA m' n
 | 0,_=>⟨rfl,rfl⟩
 | n+1,h=>by
  obtain⟨h1,h2⟩:=Kf n λ k hk=>h k (by omega)
  simp only[xZ,oA,h1,h2,h n (by omega),and_self]
theorem sW(b:Nat)(k:Nat):∀d,eE b k<=eE b (k+d)
 | 0=>Nat.le_refl _
 | d+1=>by have:=sW b k d;rw[<- Nat.add_assoc];simp only[eE];omega
theorem mS{b k n:Nat}(h:k<n)(hb:b.testBit k=true):eE b k<eE b n:=by
 obtain⟨d,rfl⟩:=Nat.exists_eq_add_of_le (Nat.succ_le_of_lt h)
 have:=sW b (k+1) d
 simp only[eE,hb,if_true] at this
 exact this
theorem Q4{b:Nat}{xs:List Int}(h:xs.length=eE b 64):∀k,k<=64->oA (nT b xs) k=xs.take (eE b k)
 | 0,_=>by simp[oA,eE]
 | k+1,hk=>by
  have ih:=Q4 h k (by omega)
  simp only[oA,ih,nT,eE]
  split
  ·rename_i hb
   have:=mS (n:=64) (by omega) hb
   rw[List.take_add_one,Option.toList,fQ,List.getElem?_eq_getElem (by omega)]
   rfl
  ·simp
theorem Nk{b:Nat}{xs:List Int}(h:BV b xs):xZ (nT b xs) 64=b/\oA (nT b xs) 64=xs:=by
 refine⟨Nat.eq_of_testBit_eq λ j=>?_,?_⟩
 ·rw[Px]
  by_cases hj:j<64
  ·rw[decide_eq_true hj,Bool.true_and]
   unfold nT
   cases hb:b.testBit j<;>simp
  ·rw[decide_eq_false hj,Bool.false_and]
   exact(Nat.testBit_lt_two_pow (Nat.lt_of_lt_of_le h.lt (Nat.pow_le_pow_right (n:=2) (by decide) (show 64<=j by omega)))).symm
 ·rw[Q4 h.len 64 (Nat.le_refl _),<- h.len,List.take_length]
theorem wX{b b' i:Nat}(h:b.testBit i=false)(hb:∀j,j<64->b'.testBit j=(b.testBit j||decide (j=i))):∀k,k<=64->eE b' k=eE b k+if i<k then 1 else 0
 | 0,_=>rfl
 | k+1,hk=>by
  have ih:=wX h hb k (by omega)
  simp only[eE,ih,hb k (by omega)]
  by_cases hki:k=i
  ·subst hki
   simp[h]
  ·have:decide (k=i)=false:=decide_eq_false hki
   rw[this,Bool.or_false]
   have e:(i<k+1)↔(i<k):=by omega
   simp only[e]
   omega
def tX(xs:List Int)(p:Nat)(r:Int):List Int:=xs.take p++r::xs.drop p
def oG(xs:List Int)(p:Nat)(r:Int):List Int:=xs.take p++r::xs.drop (p+1)
def pL(xs:List Int)(p:Nat):List Int:=xs.take p++xs.drop (p+1)
theorem B8{xs:List Int}{p:Nat}(hp:p<=xs.length)(r:Int):(tX xs p r).length=xs.length+1:=by
 simp[tX];omega
theorem sJ{xs:List Int}{p:Nat}(hp:p<xs.length)(r:Int):(oG xs p r).length=xs.length:=by
 simp[oG];omega
theorem B2{xs:List Int}{p:Nat}(hp:p<xs.length):(pL xs p).length+1=xs.length:=by
 simp[pL];omega
theorem Qq{xs:List Int}{p:Nat}(hp:p<=xs.length)(r:Int)(q:Nat):(tX xs p r).getD q 0=if q<p then xs.getD q 0 else if q=p then r else xs.getD (q-1) 0:=by
 simp only[tX,fQ]
 by_cases h1:q<p
 ·rw[if_pos h1,List.getElem?_append_left (by simp;omega),List.getElem?_take_of_lt h1]
 ·rw[if_neg h1,List.getElem?_append_right (by simp;omega)]
  have:(xs.take p).length=p:=by simp;omega
  rw[this]
  by_cases h2:q=p
  ·subst h2;simp
  ·obtain⟨d,hd⟩:∃d,q-p=d+1:=⟨q-p-1,by omega⟩
   rw[if_neg h2,hd,List.getElem?_cons_succ,List.getElem?_drop]
   congr 2
   omega
theorem Iv{xs:List Int}{p:Nat}(hp:p<xs.length)(r:Int)(q:Nat):(oG xs p r).getD q 0=if q=p then r else xs.getD q 0:=by
 simp only[oG,fQ]
 by_cases h1:q<p
 ·rw[if_neg (by omega),List.getElem?_append_left (by simp;omega),List.getElem?_take_of_lt h1]
 ·rw[List.getElem?_append_right (by simp;omega)]
  have:(xs.take p).length=p:=by simp;omega
  rw[this]
  by_cases h2:q=p
  ·subst h2;simp
  ·obtain⟨d,hd⟩:∃d,q-p=d+1:=⟨q-p-1,by omega⟩
   rw[if_neg h2,hd,List.getElem?_cons_succ,List.getElem?_drop]
   congr 2
   omega
theorem Rq{xs:List Int}{p:Nat}(hp:p<xs.length)(q:Nat):(pL xs p).getD q 0=if q<p then xs.getD q 0 else xs.getD (q+1) 0:=by
 simp only[pL,fQ]
 by_cases h1:q<p
 ·rw[if_pos h1,List.getElem?_append_left (by simp;omega),List.getElem?_take_of_lt h1]
 ·rw[if_neg h1,List.getElem?_append_right (by simp;omega)]
  have:(xs.take p).length=p:=by simp;omega
  rw[this,List.getElem?_drop]
  congr 2
  omega
theorem yE{xs ys:List Int}(h:∀i,i<xs.length->1<=xs.getD i 0)(hy:∀j,j<ys.length->1<=ys.getD j 0∨∃i,i<xs.length/\ys.getD j 0=xs.getD i 0):∀j,j<ys.length->1<=ys.getD j 0:=λ j hj=>by
 rcases hy j hj with h1|⟨i,hi,he⟩
 ·exact h1
 ·rw[he];exact h i hi
section
variable{b i:Nat}{xs:List Int}{r:Int}
theorem wS(b i:Nat)(j:Nat):(b ||| 2^i).testBit j=(b.testBit j||decide (j=i)):=by
 rw[Nat.testBit_or,Nat.testBit_two_pow]
 congr 1
 exact decide_eq_decide.2 eq_comm
theorem tY(b i:Nat)(j:Nat):(b ^^^ (b &&& 2^i)).testBit j=(b.testBit j&&!decide (j=i)):=by
 rw[Nat.testBit_xor,Nat.testBit_and,Nat.testBit_two_pow]
 have:decide (i=j)=decide (j=i):=decide_eq_decide.2 eq_comm
 rw[this]
 cases b.testBit j<;>cases decide (j=i)<;>rfl
theorem Cn(h:BV b xs)(hi:i<64)(hb:b.testBit i=false)(hr:1<=r):BV (b ||| 2^i) (tX xs (eE b i) r)/\∀k,k<64->nT (b ||| 2^i) (tX xs (eE b i) r) k=Ff (nT b xs) i (some r) k:=by
 have hc:=wX hb (λ j _=>wS b i j)
 have hp:eE b i<=xs.length:=by
  obtain⟨d,hd⟩:=Nat.exists_eq_add_of_le (Nat.le_of_lt hi)
  rw[h.len,hd]
  exact sW b i d
 refine⟨⟨Nat.or_lt_two_pow (n:=64) h.lt (Nat.pow_lt_pow_right (a:=2) (by decide) hi),?_,yE h.pos λ j hj=>?_⟩,λ k hk=>?_⟩
 ·rw[B8 hp,hc 64 (Nat.le_refl _),if_pos hi,h.len]
 ·rw[B8 hp] at hj
  rw[Qq hp]
  by_cases h1:j<eE b i
  ·rw[if_pos h1];exact .inr ⟨j,by omega,rfl⟩
  ·rw[if_neg h1]
   by_cases h2:j=eE b i
   ·rw[if_pos h2];exact .inl hr
   ·rw[if_neg h2];exact .inr ⟨j-1,by omega,rfl⟩
 ·simp only[nT,Ff]
  rw[wS,hc k (by omega),Qq hp]
  by_cases hki:k=i
  ·subst hki;simp
  ·rw[if_neg hki,decide_eq_false hki,Bool.or_false]
   by_cases hbk:b.testBit k=true
   ·rw[if_pos hbk,if_pos hbk]
    congr 1
    by_cases hlt:k<i
    ·have:=mS hlt hbk
     rw[if_neg (show ¬i<k by omega),if_pos (by omega)]
     rfl
    ·have:eE b i<=eE b k:=by
      obtain⟨d,hd⟩:=Nat.exists_eq_add_of_le (show i<=k by omega)
      rw[hd];exact sW b i d
     rw[if_pos (show i<k by omega),if_neg (by omega),if_neg (by omega)]
     rfl
   ·rw[if_neg hbk,if_neg hbk]
theorem M3(h:BV b xs)(hi:i<64)(hb:b.testBit i=true)(hr:1<=r):BV b (oG xs (eE b i) r)/\∀k,k<64->nT b (oG xs (eE b i) r) k=Ff (nT b xs) i (some r) k:=by
 have hp:eE b i<xs.length:=by rw[h.len];exact mS hi hb
 refine⟨⟨h.lt,by rw[sJ hp,h.len],yE h.pos λ j hj=>?_⟩,λ k hk=>?_⟩
 ·rw[sJ hp] at hj
  rw[Iv hp]
  by_cases h2:j=eE b i
  ·rw[if_pos h2];exact .inl hr
  ·rw[if_neg h2];exact .inr ⟨j,hj,rfl⟩
 ·simp only[nT,Ff]
  rw[Iv hp]
  by_cases hki:k=i
  ·subst hki;rw[if_pos hb,if_pos rfl,if_pos rfl]
  ·rw[if_neg hki]
   by_cases hbk:b.testBit k=true
   ·rw[if_pos hbk,if_pos hbk,if_neg]
    rcases Nat.lt_or_gt_of_ne hki with hlt|hlt
    ·have:=mS hlt hbk;omega
    ·have:=mS hlt hb;omega
   ·rw[if_neg hbk,if_neg hbk]
theorem Nj(h:BV b xs)(hi:i<64)(hb:b.testBit i=true):BV (b ^^^ (b &&& 2^i)) (pL xs (eE b i))/\∀k,k<64->nT (b ^^^ (b &&& 2^i)) (pL xs (eE b i)) k=Ff (nT b xs) i none k:=by
 have hp:eE b i<xs.length:=by rw[h.len];exact mS hi hb
 have hb':(b ^^^ (b &&& 2^i)).testBit i=false:=by rw[tY];simp
 have hc:=wX (b':=b) hb' (λ j _=>by
  rw[tY]
  by_cases hji:j=i
  ·subst hji;simp[hb]
  ·rw[decide_eq_false hji];simp)
 refine⟨⟨Nat.xor_lt_two_pow (n:=64) h.lt (Nat.lt_of_le_of_lt Nat.and_le_left h.lt),?_,yE h.pos λ j hj=>?_⟩,λ k hk=>?_⟩
 ·have:=B2 hp
  have:=hc 64 (Nat.le_refl _)
  rw[if_pos hi] at this
  have:=h.len
  omega
 ·have:=B2 hp
  rw[Rq hp]
  by_cases h1:j<eE b i
  ·rw[if_pos h1];exact .inr ⟨j,by omega,rfl⟩
  ·rw[if_neg h1];exact .inr ⟨j+1,by omega,rfl⟩
 ·simp only[nT,Ff]
  have hck:=hc k (by omega)
  rw[tY,Rq hp]
  by_cases hki:k=i
  ·subst hki;simp
  ·rw[if_neg hki,decide_eq_false hki,Bool.not_false,Bool.and_true]
   by_cases hbk:b.testBit k=true
   ·rw[if_pos hbk,if_pos hbk]
    congr 1
    by_cases hlt:k<i
    ·have:=mS hlt hbk
     rw[if_neg (show ¬i<k by omega)] at hck
     rw[if_pos (by omega),hck]
     rfl
    ·have:=mS (show i<k by omega) hb
     rw[if_pos (show i<k by omega)] at hck
     rw[if_neg (by omega),hck]
   ·rw[if_neg hbk,if_neg hbk]
end
end

/- What is known of a list, in short. -/
section
open Go Go.RowKit
variable{w0 w:World}{M:List Nat}{H:List (Nat×Obj)}{A F:Fr}{O:List Ow}
end
end Go.Ct
namespace Go.Proofs.YtadnboagdhcedaaGreatDoor
section
open Go.RowKit Go.Ct
theorem nL{n:Nd}{xs:List Int}{ys:List Pr}(h:n.kind=3)(hv:bY n xs ys):(xs.length:Int)=vE n.bm/\Pos xs:=by
 obtain⟨_,_,_,_,hv⟩:=hv
 rcases hv with h1|⟨h1,_⟩|⟨_,h2,h3⟩|⟨h1|h1,_⟩|⟨h1,_⟩|⟨h1,_⟩|⟨h1,_⟩
 all_goals first|exact⟨h2,h3⟩|(rw[h] at h1;exact absurd h1 (by decide))
end

/- The reference's Valid. -/
section
open Go.RowKit Go.Ct
theorem od(n:Nd)(h1:1<=n.kind)(h8:n.kind<=8)(w:World):Calls Tryz.prog 137 #[n.v] w λ e w'=>e=.returned n.own.v/\St w [] [] w':=by
 refine enter Tryz.func137 Tryz.ntmps137 rfl rfl (SF.s0 w) ?_
 simp only[cR]
 refine J0 ?_;refine bP (λ x1=>?_);refine aP (λ x2=>?_);refine aI ?_;refine yU ?_;refine Kc2 ?_;refine iT ?_
 refine aZ (λ c5=>?_) (λ c5=>?_)
 ·refine gN ?_;refine yH ?_
  refine bJ Tryz.results137 (λ w hw=>?_)
  (exact⟨by simp only[Nd.own,beq_iff_eq, *,if_true,if_false];rfl,hw.done⟩)
 ·refine iT ?_
  refine aZ (λ c10=>?_) (λ c10=>?_)
  ·refine gN ?_;refine Kc5 ?_;refine yH ?_
   refine bJ Tryz.results137 (λ w hw=>?_)
   (exact⟨by simp only[Nd.own,beq_iff_eq, *,if_true,if_false];rfl,hw.done⟩)
  ·refine iT ?_
   refine aZ (λ c19=>?_) (λ c19=>?_)
   ·refine gN ?_;refine Kc5 ?_;refine J3 ?_;refine yH ?_
    refine bJ Tryz.results137 (λ w hw=>?_)
    (exact⟨by simp only[Nd.own,beq_iff_eq, *,if_true,if_false];rfl,hw.done⟩)
   ·refine iT ?_
    refine aZ (λ c30=>?_) (λ c30=>?_)
    ·refine gN ?_;refine Kc5 ?_;refine J3 ?_;refine yH ?_
     refine bJ Tryz.results137 (λ w hw=>?_)
     (exact⟨by simp only[Nd.own,beq_iff_eq, *,if_true,if_false];rfl,hw.done⟩)
    ·refine iT ?_
     refine aZ (λ c41=>?_) (λ c41=>?_)
     ·refine gN ?_;refine Kc5 ?_;refine Kc5 ?_;refine yH ?_
      refine bJ Tryz.results137 (λ w hw=>?_)
      (exact⟨by simp only[Nd.own,beq_iff_eq, *,if_true,if_false];rfl,hw.done⟩)
     ·refine iT ?_
      refine aZ (λ c54=>?_) (λ c54=>?_)
      ·refine gN ?_;refine Kc5 ?_;refine J3 ?_;refine yH ?_
       refine bJ Tryz.results137 (λ w hw=>?_)
       (exact⟨by simp only[Nd.own,beq_iff_eq, *,if_true,if_false];rfl,hw.done⟩)
      ·refine iT ?_
       refine aZ (λ c65=>?_) (λ c65=>?_)
       ·refine gN ?_;refine J3 ?_;refine yH ?_
        refine bJ Tryz.results137 (λ w hw=>?_)
        (exact⟨by simp only[Nd.own,beq_iff_eq, *,if_true,if_false];rfl,hw.done⟩)
       ·refine iT ?_
        refine aZ (λ c72=>?_) (λ c72=>?_)
        ·refine gN ?_;refine Kc5 ?_;refine Kc5 ?_;refine yH ?_
         refine bJ Tryz.results137 (λ w hw=>?_)
         (exact⟨by simp only[Nd.own,beq_iff_eq, *,if_true,if_false];rfl,hw.done⟩)
        ·refine lC ?_;refine J0 ?_;refine yH ?_
         refine bJ Tryz.results137 (λ w hw=>?_)
         (exfalso;omega)
theorem Yb{n:Nd}{xs:List Int}{ys:List Pr}(h:n.kind=3){k:Nat}(hk:k<xs.length)(hx:xs.getD k 0<1):false=true↔bY n xs ys:=by
 simp only[Bool.false_eq_true,false_iff]
 intro hv
 have:=(nL h hv).2 k hk
 omega
theorem ad{n:Nd}{xs:List Int}{ys:List Pr}{c:Int}(h:n.kind=3)(he:oU n n.own xs (n.fI xs) ys (n.eZ ys))(h1:0<=n.main)(h2:0<=n.prev)(h3:0<=n.status)(eo:vE n.bm=c)(hp:Pos xs):((xs.length:Int)==c)=true↔bY n xs ys:=by
 rw[beq_iff_eq,<- eo]
 exact⟨λ hl=>⟨he,h1,h2,h3,.inr (.inr (.inl ⟨h,hl,hp⟩))⟩,λ hv=>(nL h hv).1⟩
theorem Cp{n:Nd}{xs:List Int}{ys:List Pr}{w:World}{b:Nat}(hb:n.bm=(b:Int))(hb2:b<18446744073709551616)(hr:pT w n xs ys) :
  Calls Tryz.prog 102 #[n.v] w λ e w'=>∃r:Bool,e=.returned (.bool r)/\(r=true↔bY n xs ys)/\St w [] [] w':=by
 have e1:=hr.brN;have e2:=hr.prN
 obtain⟨kind,gen,main,bm,brA,brN,brC,hash,key,val,prA,prN,prK,prev,bL,exp,new,status⟩:=n
 simp only at e1 e2 hb
 subst e1 e2 hb
 have eo:vE (b:Int)=((eE b 64:Nat):Int):=nI hb2
 have hxl:=hr.brS
 refine enter Tryz.func102 Tryz.ntmps102 rfl rfl (SF.s2 hr.br hr.pr) ?_
 simp only[cR]
 simp only[Nd.v,Nd.cells]
 refine J0 ?_;refine bP (λ x1=>?_);refine gK ?_;refine aS ?_;refine eD [(0,[]),(1,[]),(2,[]),(3,[]),(4,[]),(5,[]),(6,[]),(7,[]),(8,[]),(9,[]),(10,[]),(11,[9]),(12,[]),(13,[]),(14,[]),(15,[]),(16,[]),(17,[]),(18,[]),(19,[]),(20,[]),(21,[]),(22,[]),(23,[]),(24,[]),(25,[]),(26,[]),(27,[]),(28,[]),(29,[])] ?_;refine lR ?_;refine Df ?_;refine aT ?_
 (refine ey 7 (λ g7=>?_) (λ g7=>?_)<;>(first|refine fL ?_|(refine aQ ?_)))
 all_goals ((first|refine fL ?_|(refine bN ?_));(first|refine fL ?_|(refine vp ?_));refine iZ ?_;refine aT ?_)
 all_goals (first|refine fL ?_|(refine ey 12 (λ g12=>?_) (λ g12=>?_)<;>(first|refine fL ?_|(refine bN ?_))))
 all_goals ((first|refine fL ?_|(refine bN ?_));(first|refine fL ?_|(refine dG (i:=11) (hq:=(cV (hc:=λ w1 hw=>od (⟨kind,gen,main,(b:Int),brA,xs.length,brC,hash,key,val,prA,ys.length,prK,prev,bL,exp,new,status⟩:Nd) (show(1:Int)<=kind by omega) (show kind<=8 by omega) w1))) (h:=λ x15=>?_)));(first|refine fL ?_|(refine bS (i:=12) (hq:=(c0 (V:=.bool) (hc:=λ w1 hw=>ak (a:=(⟨kind,gen,main,(b:Int),brA,xs.length,brC,hash,key,val,prA,ys.length,prK,prev,bL,exp,new,status⟩:Nd)) (b:=((⟨kind,gen,main,(b:Int),brA,xs.length,brC,hash,key,val,prA,ys.length,prK,prev,bL,exp,new,status⟩:Nd)).own) (hr.eW hw.done) (hr.eW hw.done).own))) (h:=λ x16 h16=>?_)));(first|refine fL ?_|(refine Ro ?_));refine iZ ?_;refine aT ?_)
 all_goals (first|refine fL ?_|(refine ey 19 (λ g19=>?_) (λ g19=>?_)<;>(first|refine fL ?_|(refine aQ ?_))))
 all_goals ((first|refine fL ?_|(refine bN ?_));(first|refine fL ?_|(refine Df ?_));refine iZ ?_;refine aT ?_)
 all_goals (first|refine fL ?_|(refine ey 24 (λ g24=>?_) (λ g24=>?_)<;>(first|refine fL ?_|(refine aQ ?_))))
 all_goals ((first|refine fL ?_|(refine bN ?_));(first|refine fL ?_|(refine Df ?_));refine iZ ?_;refine aT ?_)
 all_goals (first|refine fL ?_|(refine ey 29 (λ g29=>?_) (λ g29=>?_)<;>(first|refine fL ?_|(refine aQ ?_))))
 all_goals ((first|refine fL ?_|(refine bN ?_));(first|refine fL ?_|(refine Df ?_));refine iZ ?_;refine dV ?_)
 all_goals
 refine aZ (λ c33=>?_) (λ c33=>?_)
 ·all_goals refine cN ?_
  all_goals
   refine aN Tryz.results102 (λ w hw=>?_)
   refine⟨_,rfl,?_,hw.done⟩
   first|(simp_all[bY];done)|(simp_all[bY];omega)
 ·try exact nv c33
  all_goals (refine jD ?_;refine gN ?_;refine Kc2 ?_;refine iT ?_)
  all_goals
   refine aZ (λ c36=>?_) (λ c36=>?_)
   ·refine gN ?_;refine lU ?_;refine J1 ?_
    refine aN Tryz.results102 (λ w hw=>?_)
    refine⟨_,rfl,?_,hw.done⟩
    (simp_all[bY];done)
   ·refine iT ?_
    refine aZ (λ c41=>?_) (λ c41=>?_)
    ·refine aS ?_;refine K5 ?_
     refine eS [2,3,43,44,45,46,47,48,49,50,51,52,53,54,55] (λ k=>[(3,.int .i64 ((k:Nat):Int))]) (λ k=>k<=xs.length/\∀i,i<k->1<=xs.getD i 0) (λ k=>xs.length-k) (0) (⟨Nat.zero_le _,λ i hi=>absurd hi (Nat.not_lt_zero i)⟩) ?_ (λ k f hx=>?_)
     ·repeat (first|exact bB _|refine aW (by exact rfl) ?_)
     dsimp only[gG,List.map,List.cons_append,List.nil_append]
     refine kT ?_;refine Tt ?_;refine vR ?_
     refine aZ (λ c47=>?_) (λ c47=>?_)
     ·refine oW ?_;refine gN ?_;refine aB ?_;refine Ue ?_;refine vR ?_
      refine aZ (λ c55=>?_) (λ c55=>?_)
      ·refine cN ?_
       refine aN Tryz.results102 (λ w hw=>?_)
       refine⟨_,rfl,?_,hw.done⟩
       exact Yb c41 (k:=k) (by omega) (by assumption)
      ·refine lC ?_;refine Ba ?_
       refine dJ (k+1) ?_ ?_ ?_
       ·omega
       ·repeat' (first|exact bB _|refine aW ?_ ?_)
        exact rfl
       ·exact⟨by omega,λ i hi=>by rcases Nat.lt_succ_iff_lt_or_eq.1 hi with h|rfl;exact hx.2 i h;omega⟩
     ·refine bG rfl ?_;refine aS ?_;refine eD [(0,[]),(1,[]),(2,[]),(3,[]),(4,[]),(5,[1]),(6,[]),(7,[])] ?_;refine lR ?_;refine oI ?_;refine lR ?_;refine dG (i:=5) (hq:=(cV (hc:=λ w1 hw=>Mx hb2 w1))) (h:=λ x61=>?_);refine tG ?_;refine J7 ?_
      refine aN Tryz.results102 (λ w hw=>?_)
      refine⟨_,rfl,?_,hw.done⟩
      exact ad c41 (h16.1 (by simpa using g19)) (show 0<=main by omega) (show 0<=prev by omega) (show 0<=status by omega) eo (λ i hi=>hx.2 i (by omega))
    ·refine aS ?_;refine iT ?_
     refine aZ (λ c63=>?_) (λ c63=>?_)
     ·refine bA ?_
      refine aZ (λ c63=>?_) (λ c63=>?_)
      ·refine gN ?_;refine jJ ?_;refine Ao ?_;refine J1 ?_
       refine aN Tryz.results102 (λ w hw=>?_)
       refine⟨_,rfl,?_,hw.done⟩
       (simp_all[bY];omega)
      ·refine iT ?_
       refine aZ (λ c70=>?_) (λ c70=>?_)
       ·refine gN ?_;refine dF ?_;refine lU ?_;refine aB ?_
        (refine eR 76 (λ g76=>?_) (λ g76=>?_)<;>refine Ka0 ?_)
        all_goals (refine Ka2 ?_;(first|refine aH ?_|(refine aF ?_;refine aC (c0 (V:=.bool) (hc:=λ w1 hw=>kR (hw.cl fin) hr.prS)) (λ x79 h79=>?_)));refine cU ?_;refine aB ?_)
        all_goals (first|refine aH ?_|(refine eR 81 (λ g81=>?_) (λ g81=>?_)<;>refine Ka0 ?_))
        all_goals (refine Ka2 ?_;(first|refine aH ?_|(refine aF ?_;refine aC (c0 (V:=.bool) (hc:=λ w1 hw=>Wu (hw.cl fin) hr.prS)) (λ x84 h84=>?_)));refine Kc7 ?_)
        all_goals
        refine aN Tryz.results102 (λ w hw=>?_)
        refine⟨_,rfl,?_,hw.done⟩
        (simp_all[bY];done)
       ·refine iT ?_
        refine aZ (λ c86=>?_) (λ c86=>?_)
        ·refine gN ?_;refine lU ?_;refine J1 ?_
         refine aN Tryz.results102 (λ w hw=>?_)
         refine⟨_,rfl,?_,hw.done⟩
         (simp_all[bY];done)
        ·refine iT ?_
         refine aZ (λ c91=>?_) (λ c91=>?_)
         ·refine gN ?_;refine lU ?_;refine aB ?_
          (refine eR 96 (λ g96=>?_) (λ g96=>?_)<;>refine Ka0 ?_)
          all_goals (refine xy ?_;refine cU ?_;refine aB ?_)
          all_goals (first|refine aH ?_|(refine eR 101 (λ g101=>?_) (λ g101=>?_)<;>refine Ka0 ?_))
          all_goals (refine xy ?_;refine Kc7 ?_)
          all_goals
          refine aN Tryz.results102 (λ w hw=>?_)
          refine⟨_,rfl,?_,hw.done⟩
          (simp_all[bY];done)
         ·refine Kb0 ?_
          refine aN Tryz.results102 (λ w hw=>?_)
          refine⟨_,rfl,?_,hw.done⟩
          (simp_all[bY];done)
     ·refine dO ?_;refine M2 ?_
      refine aZ (λ c63=>?_) (λ c63=>?_)
      ·refine gN ?_;refine jJ ?_;refine Ao ?_;refine J1 ?_
       refine aN Tryz.results102 (λ w hw=>?_)
       refine⟨_,rfl,?_,hw.done⟩
       (simp_all[bY];omega)
      ·refine iT ?_
       refine aZ (λ c70=>?_) (λ c70=>?_)
       ·refine gN ?_;refine dF ?_;refine lU ?_;refine aB ?_
        (refine eR 76 (λ g76=>?_) (λ g76=>?_)<;>refine Ka0 ?_)
        all_goals (refine Ka2 ?_;(first|refine aH ?_|(refine aF ?_;refine aC (c0 (V:=.bool) (hc:=λ w1 hw=>kR (hw.cl fin) hr.prS)) (λ x79 h79=>?_)));refine cU ?_;refine aB ?_)
        all_goals (first|refine aH ?_|(refine eR 81 (λ g81=>?_) (λ g81=>?_)<;>refine Ka0 ?_))
        all_goals (refine Ka2 ?_;(first|refine aH ?_|(refine aF ?_;refine aC (c0 (V:=.bool) (hc:=λ w1 hw=>Wu (hw.cl fin) hr.prS)) (λ x84 h84=>?_)));refine Kc7 ?_)
        all_goals
        refine aN Tryz.results102 (λ w hw=>?_)
        refine⟨_,rfl,?_,hw.done⟩
        first|(simp_all[bY];done)|(simp_all[bY];omega)
       ·refine iT ?_
        refine aZ (λ c86=>?_) (λ c86=>?_)
        ·refine gN ?_;refine lU ?_;refine J1 ?_
         refine aN Tryz.results102 (λ w hw=>?_)
         refine⟨_,rfl,?_,hw.done⟩
         (simp_all[bY];done)
        ·refine iT ?_
         refine aZ (λ c91=>?_) (λ c91=>?_)
         ·refine gN ?_;refine lU ?_;refine aB ?_
          (refine eR 96 (λ g96=>?_) (λ g96=>?_)<;>refine Ka0 ?_)
          all_goals (refine xy ?_;refine cU ?_;refine aB ?_)
          all_goals (first|refine aH ?_|(refine eR 101 (λ g101=>?_) (λ g101=>?_)<;>refine Ka0 ?_))
          all_goals (refine xy ?_;refine Kc7 ?_)
          all_goals
          refine aN Tryz.results102 (λ w hw=>?_)
          refine⟨_,rfl,?_,hw.done⟩
          first|(simp_all[bY];done)|(simp_all[bY];omega)
         ·refine Kb0 ?_
          refine aN Tryz.results102 (λ w hw=>?_)
          refine⟨_,rfl,?_,hw.done⟩
          (simp_all[bY];omega)
end

end Go.Proofs.YtadnboagdhcedaaGreatDoor
