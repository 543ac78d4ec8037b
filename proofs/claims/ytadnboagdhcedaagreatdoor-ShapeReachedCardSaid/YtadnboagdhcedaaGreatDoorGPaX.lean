/- Pairs: the algebra. -/
import Derived.Test.YtadnboagdhcedaaGreatDoorGPa1
import Derived.Test.YtadnboagdhcedaaGreatDoorGBits
import Derived.Test.YtadnboagdhcedaaGreatDoorAuto

set_option linter.unusedSimpArgs false
set_option linter.unusedVariables false
namespace Go.Proofs.YtadnboagdhcedaaGreatDoor
section
open Go.RowKit Go.Ct
section
variable{l X:List Pr}{a:Option Addr}{c M:Nat}{k j:ByteArray}{v z:Int}{w:World}
theorem kf(X:List Pr)(k:ByteArray)(v:Int):(Ma X k v).length<=X.length+1:=by
 unfold Ma
 split
 ·next h=>rw[vL h];split<;>omega
 ·exact Nat.zero_le _
theorem Xd(X:List Pr)(k:ByteArray):(qD X k).length<=X.length:=by
 unfold qD
 split
 ·exact Fi X k
 ·exact Nat.zero_le _
end
end

/- C-nodes are maps: the plain laws. -/
end Go.Proofs.YtadnboagdhcedaaGreatDoor
namespace Go.Ct
section
open Go Go.RowKit
def oQ(b:Nat)(xs:List Int)(k:Nat):Option Int:=if b.testBit k=true then some (xs.getD (eM b k) 0) else none
def zM(m:Nat->Option Int):Nat->Nat
 | 0=>0
 | k+1=>if(m k).isSome=true then zM m k ||| 2^k else zM m k
def oE(m:Nat->Option Int):Nat->List Int
 | 0=>[]
 | k+1=>oE m k++(m k).toList
def Gq(m:Nat->Option Int)(i:Nat)(o:Option Int)(k:Nat):Option Int:=if k=i then o else m k
structure BV(b:Nat)(xs:List Int):Prop where
 lt:b<18446744073709551616
 len:xs.length=eM b 64
 pos:∀i,i<xs.length->1<=xs.getD i 0
theorem Sd(m:Nat->Option Int)(j:Nat):∀k,(zM m k).testBit j=(decide (j<k)&&(m j).isSome)
 | 0=>by simp[zM]
 | k+1=>by
  have ih:=Sd m j k
  simp only[zM]
  by_cases hjk:j=k
  ·subst hjk
   by_cases h:(m j).isSome=true
   ·rw[if_pos h,Nat.testBit_or,Nat.testBit_two_pow];simp[h]
   ·rw[if_neg h,ih];simp at h;simp[h]
  ·have h2:(2^k).testBit j=false:=by rw[Nat.testBit_two_pow];exact decide_eq_false (λ h=>hjk h.symm)
   split
   ·rw[Nat.testBit_or,ih,h2,Bool.or_false]
    congr 1
    exact decide_eq_decide.2 (by omega)
   ·rw[ih]
    congr 1
    exact decide_eq_decide.2 (by omega)
theorem Xn(m:Nat->Option Int):∀k,zM m k<2^k
 | 0=>by simp[zM]
 | k+1=>by
  have ih:=Xn m k
  have h2:2^(k+1)=2^k+2^k:=by rw[Nat.pow_succ];omega
  simp only[zM]
  split
  ·refine Nat.or_lt_two_pow (by omega) ?_
   have:=Nat.two_pow_pos k
   omega
  ·omega
theorem Af{xs:List Int}{i:Nat}(h:i<xs.length):xs.getD i 0∈xs:=by
 rw[fI,List.getElem?_eq_getElem h]
 exact List.getElem_mem h
theorem K9{m m':Nat->Option Int}:∀n,(∀k,k<n->m k=m' k)->zM m n=zM m' n/\oE m n=oE m' n
 | 0,_=>⟨rfl,rfl⟩
 | n+1,h=>by
  obtain⟨h1,h2⟩:=K9 n λ k hk=>h k (by omega)
  simp only[zM,oE,h1,h2,h n (by omega),and_self]
theorem uM(b:Nat)(k:Nat):∀d,eM b k<=eM b (k+d)
 | 0=>Nat.le_refl _
 | d+1=>by have:=uM b k d;rw[<- Nat.add_assoc];simp only[eM];omega
theorem nK{b k n:Nat}(h:k<n)(hb:b.testBit k=true):eM b k<eM b n:=by
 obtain⟨d,rfl⟩:=Nat.exists_eq_add_of_le (Nat.succ_le_of_lt h)
 have:=uM b (k+1) d
 simp only[eM,hb,if_true] at this
 exact this
theorem R7{b:Nat}{xs:List Int}(h:xs.length=eM b 64):∀k,k<=64->oE (oQ b xs) k=xs.take (eM b k)
 | 0,_=>by simp[oE,eM]
 | k+1,hk=>by
  have ih:=R7 h k (by omega)
  simp only[oE,ih,oQ,eM]
  split
  ·rename_i hb
   have:=nK (n:=64) (by omega) hb
   rw[List.take_add_one,Option.toList,fI,List.getElem?_eq_getElem (by omega)]
   rfl
  ·simp
theorem N0{b:Nat}{xs:List Int}(h:BV b xs):zM (oQ b xs) 64=b/\oE (oQ b xs) 64=xs:=by
 refine⟨Nat.eq_of_testBit_eq λ j=>?_,?_⟩
 ·rw[Sd]
  by_cases hj:j<64
  ·rw[decide_eq_true hj,Bool.true_and]
   unfold oQ
   cases hb:b.testBit j<;>simp
  ·rw[decide_eq_false hj,Bool.false_and]
   exact(Nat.testBit_lt_two_pow (Nat.lt_of_lt_of_le h.lt (Nat.pow_le_pow_right (n:=2) (by decide) (show 64<=j by omega)))).symm
 ·rw[R7 h.len 64 (Nat.le_refl _),<- h.len,List.take_length]
theorem yO{b b' i:Nat}(h:b.testBit i=false)(hb:∀j,j<64->b'.testBit j=(b.testBit j||decide (j=i))):∀k,k<=64->eM b' k=eM b k+if i<k then 1 else 0
 | 0,_=>rfl
 | k+1,hk=>by
  have ih:=yO h hb k (by omega)
  simp only[eM,ih,hb k (by omega)]
  by_cases hki:k=i
  ·subst hki
   simp[h]
  ·have:decide (k=i)=false:=decide_eq_false hki
   rw[this,Bool.or_false]
   have e:(i<k+1)↔(i<k):=by omega
   simp only[e]
   omega
def uL(xs:List Int)(p:Nat)(r:Int):List Int:=xs.take p++r::xs.drop p
def oZ(xs:List Int)(p:Nat)(r:Int):List Int:=xs.take p++r::xs.drop (p+1)
def qN(xs:List Int)(p:Nat):List Int:=xs.take p++xs.drop (p+1)
theorem Dy{xs:List Int}{p:Nat}(hp:p<=xs.length)(r:Int):(uL xs p r).length=xs.length+1:=by
 simp[uL];omega
theorem tB{xs:List Int}{p:Nat}(hp:p<xs.length)(r:Int):(oZ xs p r).length=xs.length:=by
 simp[oZ];omega
theorem D9{xs:List Int}{p:Nat}(hp:p<xs.length):(qN xs p).length+1=xs.length:=by
 simp[qN];omega
theorem Qv{xs:List Int}{p:Nat}(hp:p<=xs.length)(r:Int)(q:Nat):(uL xs p r).getD q 0=if q<p then xs.getD q 0 else if q=p then r else xs.getD (q-1) 0:=by
 simp only[uL,fI]
 by_cases h1:q<p
 ·rw[if_pos h1,List.getElem?_append_left (by simp;omega),List.getElem?_take_of_lt h1]
 ·rw[if_neg h1,List.getElem?_append_right (by simp;omega)]
  have:(xs.take p).length=p:=by simp;omega
  rw[this]
  by_cases h2:q=p
  ·subst h2;simp
  ·obtain⟨d,hd⟩:∃d,q-p=d+1:=⟨q-p-1,by omega⟩
   rw[if_neg h2,hd,List.getElem?_cons_succ,List.getElem?_drop]
   congr 2
   omega
theorem Jv{xs:List Int}{p:Nat}(hp:p<xs.length)(r:Int)(q:Nat):(oZ xs p r).getD q 0=if q=p then r else xs.getD q 0:=by
 simp only[oZ,fI]
 by_cases h1:q<p
 ·rw[if_neg (by omega),List.getElem?_append_left (by simp;omega),List.getElem?_take_of_lt h1]
 ·rw[List.getElem?_append_right (by simp;omega)]
  have:(xs.take p).length=p:=by simp;omega
  rw[this]
  by_cases h2:q=p
  ·subst h2;simp
  ·obtain⟨d,hd⟩:∃d,q-p=d+1:=⟨q-p-1,by omega⟩
   rw[if_neg h2,hd,List.getElem?_cons_succ,List.getElem?_drop]
   congr 2
   omega
theorem So{xs:List Int}{p:Nat}(hp:p<xs.length)(q:Nat):(qN xs p).getD q 0=if q<p then xs.getD q 0 else xs.getD (q+1) 0:=by
 simp only[qN,fI]
 by_cases h1:q<p
 ·rw[if_pos h1,List.getElem?_append_left (by simp;omega),List.getElem?_take_of_lt h1]
 ·rw[if_neg h1,List.getElem?_append_right (by simp;omega)]
  have:(xs.take p).length=p:=by simp;omega
  rw[this,List.getElem?_drop]
  congr 2
  omega
theorem Ae{xs ys:List Int}(h:∀i,i<xs.length->1<=xs.getD i 0)(hy:∀j,j<ys.length->1<=ys.getD j 0∨∃i,i<xs.length/\ys.getD j 0=xs.getD i 0):∀j,j<ys.length->1<=ys.getD j 0:=λ j hj=>by
 rcases hy j hj with h1|⟨i,hi,he⟩
 ·exact h1
 ·rw[he];exact h i hi
section
variable{b i:Nat}{xs:List Int}{r:Int}
theorem yI(b i:Nat)(j:Nat):(b ||| 2^i).testBit j=(b.testBit j||decide (j=i)):=by
 rw[Nat.testBit_or,Nat.testBit_two_pow]
 congr 1
 exact decide_eq_decide.2 eq_comm
theorem tQ(b i:Nat)(j:Nat):(b ^^^ (b &&& 2^i)).testBit j=(b.testBit j&&!decide (j=i)):=by
 rw[Nat.testBit_xor,Nat.testBit_and,Nat.testBit_two_pow]
 have:decide (i=j)=decide (j=i):=decide_eq_decide.2 eq_comm
 rw[this]
 cases b.testBit j<;>cases decide (j=i)<;>rfl
theorem Dn(h:BV b xs)(hi:i<64)(hb:b.testBit i=false)(hr:1<=r):BV (b ||| 2^i) (uL xs (eM b i) r)/\∀k,k<64->oQ (b ||| 2^i) (uL xs (eM b i) r) k=Gq (oQ b xs) i (some r) k:=by
 have hc:=yO hb (λ j _=>yI b i j)
 have hp:eM b i<=xs.length:=by
  obtain⟨d,hd⟩:=Nat.exists_eq_add_of_le (Nat.le_of_lt hi)
  rw[h.len,hd]
  exact uM b i d
 refine⟨⟨Nat.or_lt_two_pow (n:=64) h.lt (Nat.pow_lt_pow_right (a:=2) (by decide) hi),?_,Ae h.pos λ j hj=>?_⟩,λ k hk=>?_⟩
 ·rw[Dy hp,hc 64 (Nat.le_refl _),if_pos hi,h.len]
 ·rw[Dy hp] at hj
  rw[Qv hp]
  by_cases h1:j<eM b i
  ·rw[if_pos h1];exact .inr ⟨j,by omega,rfl⟩
  ·rw[if_neg h1]
   by_cases h2:j=eM b i
   ·rw[if_pos h2];exact .inl hr
   ·rw[if_neg h2];exact .inr ⟨j-1,by omega,rfl⟩
 ·simp only[oQ,Gq]
  rw[yI,hc k (by omega),Qv hp]
  by_cases hki:k=i
  ·subst hki;simp
  ·rw[if_neg hki,decide_eq_false hki,Bool.or_false]
   by_cases hbk:b.testBit k=true
   ·rw[if_pos hbk,if_pos hbk]
    congr 1
    by_cases hlt:k<i
    ·have:=nK hlt hbk
     rw[if_neg (show ¬i<k by omega),if_pos (by omega)]
     rfl
    ·have:eM b i<=eM b k:=by
      obtain⟨d,hd⟩:=Nat.exists_eq_add_of_le (show i<=k by omega)
      rw[hd];exact uM b i d
     rw[if_pos (show i<k by omega),if_neg (by omega),if_neg (by omega)]
     rfl
   ·rw[if_neg hbk,if_neg hbk]
theorem Oh(h:BV b xs)(hi:i<64)(hb:b.testBit i=true)(hr:1<=r):BV b (oZ xs (eM b i) r)/\∀k,k<64->oQ b (oZ xs (eM b i) r) k=Gq (oQ b xs) i (some r) k:=by
 have hp:eM b i<xs.length:=by rw[h.len];exact nK hi hb
 refine⟨⟨h.lt,by rw[tB hp,h.len],Ae h.pos λ j hj=>?_⟩,λ k hk=>?_⟩
 ·rw[tB hp] at hj
  rw[Jv hp]
  by_cases h2:j=eM b i
  ·rw[if_pos h2];exact .inl hr
  ·rw[if_neg h2];exact .inr ⟨j,hj,rfl⟩
 ·simp only[oQ,Gq]
  rw[Jv hp]
  by_cases hki:k=i
  ·subst hki;rw[if_pos hb,if_pos rfl,if_pos rfl]
  ·rw[if_neg hki]
   by_cases hbk:b.testBit k=true
   ·rw[if_pos hbk,if_pos hbk,if_neg]
    rcases Nat.lt_or_gt_of_ne hki with hlt|hlt
    ·have:=nK hlt hbk;omega
    ·have:=nK hlt hb;omega
   ·rw[if_neg hbk,if_neg hbk]
theorem Of(h:BV b xs)(hi:i<64)(hb:b.testBit i=true):BV (b ^^^ (b &&& 2^i)) (qN xs (eM b i))/\∀k,k<64->oQ (b ^^^ (b &&& 2^i)) (qN xs (eM b i)) k=Gq (oQ b xs) i none k:=by
 have hp:eM b i<xs.length:=by rw[h.len];exact nK hi hb
 have hb':(b ^^^ (b &&& 2^i)).testBit i=false:=by rw[tQ];simp
 have hc:=yO (b':=b) hb' (λ j _=>by
  rw[tQ]
  by_cases hji:j=i
  ·subst hji;simp[hb]
  ·rw[decide_eq_false hji];simp)
 refine⟨⟨Nat.xor_lt_two_pow (n:=64) h.lt (Nat.lt_of_le_of_lt Nat.and_le_left h.lt),?_,Ae h.pos λ j hj=>?_⟩,λ k hk=>?_⟩
 ·have:=D9 hp
  have:=hc 64 (Nat.le_refl _)
  rw[if_pos hi] at this
  have:=h.len
  omega
 ·have:=D9 hp
  rw[So hp]
  by_cases h1:j<eM b i
  ·rw[if_pos h1];exact .inr ⟨j,by omega,rfl⟩
  ·rw[if_neg h1];exact .inr ⟨j+1,by omega,rfl⟩
 ·simp only[oQ,Gq]
  have hck:=hc k (by omega)
  rw[tQ,So hp]
  by_cases hki:k=i
  ·subst hki;simp
  ·rw[if_neg hki,decide_eq_false hki,Bool.not_false,Bool.and_true]
   by_cases hbk:b.testBit k=true
   ·rw[if_pos hbk,if_pos hbk]
    congr 1
    by_cases hlt:k<i
    ·have:=nK hlt hbk
     rw[if_neg (show ¬i<k by omega)] at hck
     rw[if_pos (by omega),hck]
     rfl
    ·have:=nK (show i<k by omega) hb
     rw[if_pos (show i<k by omega)] at hck
     rw[if_neg (by omega),hck]
   ·rw[if_neg hbk,if_neg hbk]
end
end

/- What is known of a list, in short. -/
section
open Go Go.RowKit
variable{w0 w:World}{M:List Nat}{H:List (Nat×Obj)}{A F:Fr}{O:List Ow}
end
end Go.Ct
namespace Go.Proofs.YtadnboagdhcedaaGreatDoor
section
open Go.RowKit Go.Ct
theorem oL{n:Nd}{xs:List Int}{ys:List Pr}(h:n.kind=3)(hv:bY n xs ys):(xs.length:Int)=wD n.bm/\Pos xs:=by
 obtain⟨_,_,_,_,hv⟩:=hv
 rcases hv with h1|⟨h1,_⟩|⟨_,h2,h3⟩|⟨h1|h1,_⟩|⟨h1,_⟩|⟨h1,_⟩|⟨h1,_⟩
 all_goals first|exact⟨h2,h3⟩|(rw[h] at h1;exact absurd h1 (by decide))
end

/- The reference's Valid. -/
section
open Go.RowKit Go.Ct
theorem pz(n:Nd)(h1:1<=n.kind)(h8:n.kind<=8)(w:World):Calls Tryz.prog 137 #[n.v] w λ e w'=>e=.returned n.own.v/\St w [] [] w':=by
 refine enter Tryz.func137 Tryz.ntmps137 rfl rfl (SF.s0 w) ?_
 simp only[cO]
 refine J0 ?_;refine bQ (λ x1=>?_);refine aN (λ x2=>?_);refine aI ?_;refine Az ?_;refine Kc4 ?_;refine jE ?_
 refine aZ (λ c5=>?_) (λ c5=>?_)
 ·refine gU ?_;refine As ?_
  refine bK Tryz.results137 (λ w hw=>?_)
  (exact⟨by simp only[Nd.own,beq_iff_eq, *,if_true,if_false];rfl,hw.done⟩)
 ·refine jE ?_
  refine aZ (λ c10=>?_) (λ c10=>?_)
  ·refine gU ?_;refine Kc7 ?_;refine As ?_
   refine bK Tryz.results137 (λ w hw=>?_)
   (exact⟨by simp only[Nd.own,beq_iff_eq, *,if_true,if_false];rfl,hw.done⟩)
  ·refine jE ?_
   refine aZ (λ c19=>?_) (λ c19=>?_)
   ·refine gU ?_;refine Kc7 ?_;refine J3 ?_;refine As ?_
    refine bK Tryz.results137 (λ w hw=>?_)
    (exact⟨by simp only[Nd.own,beq_iff_eq, *,if_true,if_false];rfl,hw.done⟩)
   ·refine jE ?_
    refine aZ (λ c30=>?_) (λ c30=>?_)
    ·refine gU ?_;refine Kc7 ?_;refine J3 ?_;refine As ?_
     refine bK Tryz.results137 (λ w hw=>?_)
     (exact⟨by simp only[Nd.own,beq_iff_eq, *,if_true,if_false];rfl,hw.done⟩)
    ·refine jE ?_
     refine aZ (λ c41=>?_) (λ c41=>?_)
     ·refine gU ?_;refine Kc7 ?_;refine Kc7 ?_;refine As ?_
      refine bK Tryz.results137 (λ w hw=>?_)
      (exact⟨by simp only[Nd.own,beq_iff_eq, *,if_true,if_false];rfl,hw.done⟩)
     ·refine jE ?_
      refine aZ (λ c54=>?_) (λ c54=>?_)
      ·refine gU ?_;refine Kc7 ?_;refine J3 ?_;refine As ?_
       refine bK Tryz.results137 (λ w hw=>?_)
       (exact⟨by simp only[Nd.own,beq_iff_eq, *,if_true,if_false];rfl,hw.done⟩)
      ·refine jE ?_
       refine aZ (λ c65=>?_) (λ c65=>?_)
       ·refine gU ?_;refine J3 ?_;refine As ?_
        refine bK Tryz.results137 (λ w hw=>?_)
        (exact⟨by simp only[Nd.own,beq_iff_eq, *,if_true,if_false];rfl,hw.done⟩)
       ·refine jE ?_
        refine aZ (λ c72=>?_) (λ c72=>?_)
        ·refine gU ?_;refine Kc7 ?_;refine Kc7 ?_;refine As ?_
         refine bK Tryz.results137 (λ w hw=>?_)
         (exact⟨by simp only[Nd.own,beq_iff_eq, *,if_true,if_false];rfl,hw.done⟩)
        ·refine lG ?_;refine J0 ?_;refine As ?_
         refine bK Tryz.results137 (λ w hw=>?_)
         (exfalso;omega)
theorem Zk{n:Nd}{xs:List Int}{ys:List Pr}(h:n.kind=3){k:Nat}(hk:k<xs.length)(hx:xs.getD k 0<1):false=true↔bY n xs ys:=by
 simp only[Bool.false_eq_true,false_iff]
 intro hv
 have:=(oL h hv).2 k hk
 omega
theorem j3{n:Nd}{xs:List Int}{ys:List Pr}{c:Int}(h:n.kind=3)(he:pP n n.own xs (n.fO xs) ys (n.fG ys))(h1:0<=n.main)(h2:0<=n.prev)(h3:0<=n.status)(eo:wD n.bm=c)(hp:Pos xs):((xs.length:Int)==c)=true↔bY n xs ys:=by
 rw[beq_iff_eq,<- eo]
 exact⟨λ hl=>⟨he,h1,h2,h3,.inr (.inr (.inl ⟨h,hl,hp⟩))⟩,λ hv=>(oL h hv).1⟩
theorem Ei{n:Nd}{xs:List Int}{ys:List Pr}{w:World}{b:Nat}(hb:n.bm=(b:Int))(hb2:b<18446744073709551616)(hr:qQ w n xs ys) :
  Calls Tryz.prog 102 #[n.v] w λ e w'=>∃r:Bool,e=.returned (.bool r)/\(r=true↔bY n xs ys)/\St w [] [] w':=by
 have e1:=hr.brN;have e2:=hr.prN
 obtain⟨kind,gen,main,bm,brA,brN,brC,hash,key,val,prA,prN,prK,prev,bM,exp,new,status⟩:=n
 simp only at e1 e2 hb
 subst e1 e2 hb
 have eo:wD (b:Int)=((eM b 64:Nat):Int):=oC hb2
 have hxl:=hr.brS
 refine enter Tryz.func102 Tryz.ntmps102 rfl rfl (SF.s2 hr.br hr.pr) ?_
 simp only[cO]
 simp only[Nd.v,Nd.cells]
 refine J0 ?_;refine bQ (λ x1=>?_);refine gQ ?_;refine aR ?_;refine eG [(0,[]),(1,[]),(2,[]),(3,[]),(4,[]),(5,[]),(6,[]),(7,[]),(8,[]),(9,[]),(10,[]),(11,[9]),(12,[]),(13,[]),(14,[]),(15,[]),(16,[]),(17,[]),(18,[]),(19,[]),(20,[]),(21,[]),(22,[]),(23,[]),(24,[]),(25,[]),(26,[]),(27,[]),(28,[]),(29,[])] ?_;refine mF ?_;refine Bh ?_;refine aU ?_
 (refine ko 7 (λ g7=>?_) (λ g7=>?_)<;>(first|refine fT ?_|(refine aP ?_)))
 all_goals ((first|refine fT ?_|(refine bO ?_));(first|refine fT ?_|(refine w7 ?_));refine iW ?_;refine aU ?_)
 all_goals (first|refine fT ?_|(refine ko 12 (λ g12=>?_) (λ g12=>?_)<;>(first|refine fT ?_|(refine bO ?_))))
 all_goals ((first|refine fT ?_|(refine bO ?_));(first|refine fT ?_|(refine cY (i:=11) (hq:=(cV (hc:=λ w1 hw=>pz (⟨kind,gen,main,(b:Int),brA,xs.length,brC,hash,key,val,prA,ys.length,prK,prev,bM,exp,new,status⟩:Nd) (show(1:Int)<=kind by omega) (show kind<=8 by omega) w1))) (h:=λ x15=>?_)));(first|refine fT ?_|(refine bC (i:=12) (hq:=(c0 (V:=.bool) (hc:=λ w1 hw=>ib (a:=(⟨kind,gen,main,(b:Int),brA,xs.length,brC,hash,key,val,prA,ys.length,prK,prev,bM,exp,new,status⟩:Nd)) (b:=((⟨kind,gen,main,(b:Int),brA,xs.length,brC,hash,key,val,prA,ys.length,prK,prev,bM,exp,new,status⟩:Nd)).own) (hr.fE hw.done) (hr.fE hw.done).own))) (h:=λ x16 h16=>?_)));(first|refine fT ?_|(refine L3 ?_));refine iW ?_;refine aU ?_)
 all_goals (first|refine fT ?_|(refine ko 19 (λ g19=>?_) (λ g19=>?_)<;>(first|refine fT ?_|(refine aP ?_))))
 all_goals ((first|refine fT ?_|(refine bO ?_));(first|refine fT ?_|(refine Bh ?_));refine iW ?_;refine aU ?_)
 all_goals (first|refine fT ?_|(refine ko 24 (λ g24=>?_) (λ g24=>?_)<;>(first|refine fT ?_|(refine aP ?_))))
 all_goals ((first|refine fT ?_|(refine bO ?_));(first|refine fT ?_|(refine Bh ?_));refine iW ?_;refine aU ?_)
 all_goals (first|refine fT ?_|(refine ko 29 (λ g29=>?_) (λ g29=>?_)<;>(first|refine fT ?_|(refine aP ?_))))
 all_goals ((first|refine fT ?_|(refine bO ?_));(first|refine fT ?_|(refine Bh ?_));refine iW ?_;refine dS ?_)
 all_goals
 refine aZ (λ c33=>?_) (λ c33=>?_)
 ·all_goals refine cQ ?_
  all_goals
   refine aQ Tryz.results102 (λ w hw=>?_)
   refine⟨_,rfl,?_,hw.done⟩
   first|(simp_all[bY];done)|(simp_all[bY];omega)
 ·try exact nv c33
  all_goals (refine jM ?_;refine gU ?_;refine Kc4 ?_;refine jE ?_)
  all_goals
   refine aZ (λ c36=>?_) (λ c36=>?_)
   ·refine gU ?_;refine mM ?_;refine J1 ?_
    refine aQ Tryz.results102 (λ w hw=>?_)
    refine⟨_,rfl,?_,hw.done⟩
    (simp_all[bY];done)
   ·refine jE ?_
    refine aZ (λ c41=>?_) (λ c41=>?_)
    ·refine aR ?_;refine Gl ?_
     refine eY [2,3,43,44,45,46,47,48,49,50,51,52,53,54,55] (λ k=>[(3,.int .i64 ((k:Nat):Int))]) (λ k=>k<=xs.length/\∀i,i<k->1<=xs.getD i 0) (λ k=>xs.length-k) (0) (⟨Nat.zero_le _,λ i hi=>absurd hi (Nat.not_lt_zero i)⟩) ?_ (λ k f hx=>?_)
     ·repeat (first|exact bB _|refine aY (by exact rfl) ?_)
     dsimp only[fY,List.map,List.cons_append,List.nil_append]
     refine kT ?_;refine Li ?_;refine vI ?_
     refine aZ (λ c47=>?_) (λ c47=>?_)
     ·refine nZ ?_;refine gU ?_;refine aB ?_;refine Tl ?_;refine vI ?_
      refine aZ (λ c55=>?_) (λ c55=>?_)
      ·refine cQ ?_
       refine aQ Tryz.results102 (λ w hw=>?_)
       refine⟨_,rfl,?_,hw.done⟩
       exact Zk c41 (k:=k) (by omega) (by assumption)
      ·refine lG ?_;refine zW ?_
       refine dO (k+1) ?_ ?_ ?_
       ·omega
       ·repeat' (first|exact bB _|refine aY ?_ ?_)
        exact rfl
       ·exact⟨by omega,λ i hi=>by rcases Nat.lt_succ_iff_lt_or_eq.1 hi with h|rfl;exact hx.2 i h;omega⟩
     ·refine bF rfl ?_;refine aR ?_;refine eG [(0,[]),(1,[]),(2,[]),(3,[]),(4,[]),(5,[1]),(6,[]),(7,[])] ?_;refine mF ?_;refine lN ?_;refine mF ?_;refine cY (i:=5) (hq:=(cV (hc:=λ w1 hw=>Oj hb2 w1))) (h:=λ x61=>?_);refine mZ ?_;refine J7 ?_
      refine aQ Tryz.results102 (λ w hw=>?_)
      refine⟨_,rfl,?_,hw.done⟩
      exact j3 c41 (h16.1 (by simpa using g19)) (show 0<=main by omega) (show 0<=prev by omega) (show 0<=status by omega) eo (λ i hi=>hx.2 i (by omega))
    ·refine aR ?_;refine jE ?_
     refine aZ (λ c63=>?_) (λ c63=>?_)
     ·refine bA ?_
      refine aZ (λ c63=>?_) (λ c63=>?_)
      ·refine gU ?_;refine jR ?_;refine A9 ?_;refine J1 ?_
       refine aQ Tryz.results102 (λ w hw=>?_)
       refine⟨_,rfl,?_,hw.done⟩
       (simp_all[bY];omega)
      ·refine jE ?_
       refine aZ (λ c70=>?_) (λ c70=>?_)
       ·refine gU ?_;refine dE ?_;refine mM ?_;refine aB ?_
        (refine eF 76 (λ g76=>?_) (λ g76=>?_)<;>refine Ka1 ?_)
        all_goals (refine Ka2 ?_;(first|refine aH ?_|(refine aF ?_;refine aC (c0 (V:=.bool) (hc:=λ w1 hw=>kY (hw.cl fin) hr.prS)) (λ x79 h79=>?_)));refine Kc2 ?_)
        all_goals (first|refine aH ?_|(refine eF 81 (λ g81=>?_) (λ g81=>?_)<;>refine Ka1 ?_))
        all_goals (refine Ka2 ?_;(first|refine aH ?_|(refine aF ?_;refine aC (c0 (V:=.bool) (hc:=λ w1 hw=>bn (hw.cl fin) hr.prS)) (λ x84 h84=>?_)));refine Kc9 ?_)
        all_goals
        refine aQ Tryz.results102 (λ w hw=>?_)
        refine⟨_,rfl,?_,hw.done⟩
        (simp_all[bY];done)
       ·refine jE ?_
        refine aZ (λ c86=>?_) (λ c86=>?_)
        ·refine gU ?_;refine mM ?_;refine J1 ?_
         refine aQ Tryz.results102 (λ w hw=>?_)
         refine⟨_,rfl,?_,hw.done⟩
         (simp_all[bY];done)
        ·refine jE ?_
         refine aZ (λ c91=>?_) (λ c91=>?_)
         ·refine gU ?_;refine mM ?_;refine aB ?_
          (refine eF 96 (λ g96=>?_) (λ g96=>?_)<;>refine Ka1 ?_)
          all_goals (refine J86 ?_;refine Kc2 ?_)
          all_goals (first|refine aH ?_|(refine eF 101 (λ g101=>?_) (λ g101=>?_)<;>refine Ka1 ?_))
          all_goals (refine J86 ?_;refine Kc9 ?_)
          all_goals
          refine aQ Tryz.results102 (λ w hw=>?_)
          refine⟨_,rfl,?_,hw.done⟩
          (simp_all[bY];done)
         ·refine Kb0 ?_
          refine aQ Tryz.results102 (λ w hw=>?_)
          refine⟨_,rfl,?_,hw.done⟩
          (simp_all[bY];done)
     ·refine dL ?_;refine P5 ?_
      refine aZ (λ c63=>?_) (λ c63=>?_)
      ·refine gU ?_;refine jR ?_;refine A9 ?_;refine J1 ?_
       refine aQ Tryz.results102 (λ w hw=>?_)
       refine⟨_,rfl,?_,hw.done⟩
       (simp_all[bY];omega)
      ·refine jE ?_
       refine aZ (λ c70=>?_) (λ c70=>?_)
       ·refine gU ?_;refine dE ?_;refine mM ?_;refine aB ?_
        (refine eF 76 (λ g76=>?_) (λ g76=>?_)<;>refine Ka1 ?_)
        all_goals (refine Ka2 ?_;(first|refine aH ?_|(refine aF ?_;refine aC (c0 (V:=.bool) (hc:=λ w1 hw=>kY (hw.cl fin) hr.prS)) (λ x79 h79=>?_)));refine Kc2 ?_)
        all_goals (first|refine aH ?_|(refine eF 81 (λ g81=>?_) (λ g81=>?_)<;>refine Ka1 ?_))
        all_goals (refine Ka2 ?_;(first|refine aH ?_|(refine aF ?_;refine aC (c0 (V:=.bool) (hc:=λ w1 hw=>bn (hw.cl fin) hr.prS)) (λ x84 h84=>?_)));refine Kc9 ?_)
        all_goals
        refine aQ Tryz.results102 (λ w hw=>?_)
        refine⟨_,rfl,?_,hw.done⟩
        first|(simp_all[bY];done)|(simp_all[bY];omega)
       ·refine jE ?_
        refine aZ (λ c86=>?_) (λ c86=>?_)
        ·refine gU ?_;refine mM ?_;refine J1 ?_
         refine aQ Tryz.results102 (λ w hw=>?_)
         refine⟨_,rfl,?_,hw.done⟩
         (simp_all[bY];done)
        ·refine jE ?_
         refine aZ (λ c91=>?_) (λ c91=>?_)
         ·refine gU ?_;refine mM ?_;refine aB ?_
          (refine eF 96 (λ g96=>?_) (λ g96=>?_)<;>refine Ka1 ?_)
          all_goals (refine J86 ?_;refine Kc2 ?_)
          all_goals (first|refine aH ?_|(refine eF 101 (λ g101=>?_) (λ g101=>?_)<;>refine Ka1 ?_))
          all_goals (refine J86 ?_;refine Kc9 ?_)
          all_goals
          refine aQ Tryz.results102 (λ w hw=>?_)
          refine⟨_,rfl,?_,hw.done⟩
          first|(simp_all[bY];done)|(simp_all[bY];omega)
         ·refine Kb0 ?_
          refine aQ Tryz.results102 (λ w hw=>?_)
          refine⟨_,rfl,?_,hw.done⟩
          (simp_all[bY];omega)
end

end Go.Proofs.YtadnboagdhcedaaGreatDoor
