/- Pairs: the algebra. -/
import Derived.Test.YtadnboagdhcedaaGreatDoorGPa1
import Derived.Test.YtadnboagdhcedaaGreatDoorGAr9
import Derived.Test.YtadnboagdhcedaaGreatDoorAuto

set_option linter.unusedSimpArgs false
set_option linter.unusedVariables false
namespace Go.Proofs.YtadnboagdhcedaaGreatDoor
section
open Go.RowKit Go.Ct
section
variable{l X:List Pr}{a:Option Addr}{c M:Nat}{k j:ByteArray}{v z:Int}{w:World}
theorem ia(X:List Pr)(k:ByteArray)(v:Int):(Lr X k v).length<=X.length+1:=by
 unfold Lr
 split
 ·next h=>rw[vB h];split<;>omega
 ·exact Nat.zero_le _
theorem W2(X:List Pr)(k:ByteArray):(qN X k).length<=X.length:=by
 unfold qN
 split
 ·exact Cr X k
 ·exact Nat.zero_le _
end
end

/- C-nodes are maps: the plain laws. -/
end Go.Proofs.YtadnboagdhcedaaGreatDoor
namespace Go.Ct
section
open Go Go.RowKit
def oS(b:Nat)(xs:List Int)(k:Nat):Option Int:=if b.testBit k=true then some (xs.getD (eM b k) 0) else none
def zF(m:Nat->Option Int):Nat->Nat
 | 0=>0
 | k+1=>if(m k).isSome=true then zF m k ||| 2^k else zF m k
def oH(m:Nat->Option Int):Nat->List Int
 | 0=>[]
 | k+1=>oH m k++(m k).toList
def Gp(m:Nat->Option Int)(i:Nat)(o:Option Int)(k:Nat):Option Int:=if k=i then o else m k
structure BV(b:Nat)(xs:List Int):Prop where
 lt:b<18446744073709551616
 len:xs.length=eM b 64
 pos:∀i,i<xs.length->1<=xs.getD i 0
theorem Rr(m:Nat->Option Int)(j:Nat):∀k,(zF m k).testBit j=(decide (j<k)&&(m j).isSome)
 | 0=>by simp[zF]
 | k+1=>by
  have ih:=Rr m j k
  simp only[zF]
  by_cases hjk:j=k
  ·subst hjk
   by_cases h:(m j).isSome=true
   ·rw[if_pos h,Nat.testBit_or,Nat.testBit_two_pow];simp[h]
   ·rw[if_neg h,ih];simp at h;simp[h]
  ·have h2:(2^k).testBit j=false:=by rw[Nat.testBit_two_pow];exact decide_eq_false (λ h=>hjk h.symm)
   split
   ·rw[Nat.testBit_or,ih,h2,Bool.or_false]
    congr 1
    exact decide_eq_decide.2 (by omega)
   ·rw[ih]
    congr 1
    exact decide_eq_decide.2 (by omega)
theorem Z8(m:Nat->Option Int):∀k,zF m k<2^k
 | 0=>by simp[zF]
 | k+1=>by
  have ih:=Z8 m k
  have h2:2^(k+1)=2^k+2^k:=by rw[Nat.pow_succ];omega
  simp only[zF]
  split
  ·refine Nat.or_lt_two_pow (by omega) ?_
   have:=Nat.two_pow_pos k
   omega
  ·omega
theorem Ay{xs:List Int}{i:Nat}(h:i<xs.length):xs.getD i 0∈xs:=by
 rw[fM,List.getElem?_eq_getElem h]
 exact List.getElem_mem h
theorem K6{m m':Nat->Option Int}:∀n,(∀k,k<n->m k=m' k)->zF m n=zF m' n/\oH m n=oH m' n
 | 0,_=>⟨rfl,rfl⟩
 | n+1,h=>by
  obtain⟨h1,h2⟩:=K6 n λ k hk=>h k (by omega)
  simp only[zF,oH,h1,h2,h n (by omega),and_self]
theorem sZ(b:Nat)(k:Nat):∀d,eM b k<=eM b (k+d)
 | 0=>Nat.le_refl _
 | d+1=>by have:=sZ b k d;rw[<- Nat.add_assoc];simp only[eM];omega
theorem nC{b k n:Nat}(h:k<n)(hb:b.testBit k=true):eM b k<eM b n:=by
 obtain⟨d,rfl⟩:=Nat.exists_eq_add_of_le (Nat.succ_le_of_lt h)
 have:=sZ b (k+1) d
 simp only[eM,hb,if_true] at this
 exact this
theorem Tc{b:Nat}{xs:List Int}(h:xs.length=eM b 64):∀k,k<=64->oH (oS b xs) k=xs.take (eM b k)
 | 0,_=>by simp[oH,eM]
 | k+1,hk=>by
  have ih:=Tc h k (by omega)
  simp only[oH,ih,oS,eM]
  split
  ·rename_i hb
   have:=nC (n:=64) (by omega) hb
   rw[List.take_add_one,Option.toList,fM,List.getElem?_eq_getElem (by omega)]
   rfl
  ·simp
theorem Py{b:Nat}{xs:List Int}(h:BV b xs):zF (oS b xs) 64=b/\oH (oS b xs) 64=xs:=by
 refine⟨Nat.eq_of_testBit_eq λ j=>?_,?_⟩
 ·rw[Rr]
  by_cases hj:j<64
  ·rw[decide_eq_true hj,Bool.true_and]
   unfold oS
   cases hb:b.testBit j<;>simp
  ·rw[decide_eq_false hj,Bool.false_and]
   exact(Nat.testBit_lt_two_pow (Nat.lt_of_lt_of_le h.lt (Nat.pow_le_pow_right (n:=2) (by decide) (show 64<=j by omega)))).symm
 ·rw[Tc h.len 64 (Nat.le_refl _),<- h.len,List.take_length]
theorem zD{b b' i:Nat}(h:b.testBit i=false)(hb:∀j,j<64->b'.testBit j=(b.testBit j||decide (j=i))):∀k,k<=64->eM b' k=eM b k+if i<k then 1 else 0
 | 0,_=>rfl
 | k+1,hk=>by
  have ih:=zD h hb k (by omega)
  simp only[eM,ih,hb k (by omega)]
  by_cases hki:k=i
  ·subst hki
   simp[h]
  ·have:decide (k=i)=false:=decide_eq_false hki
   rw[this,Bool.or_false]
   have e:(i<k+1)↔(i<k):=by omega
   simp only[e]
   omega
def tA(xs:List Int)(p:Nat)(r:Int):List Int:=xs.take p++r::xs.drop p
def oY(xs:List Int)(p:Nat)(r:Int):List Int:=xs.take p++r::xs.drop (p+1)
def qG(xs:List Int)(p:Nat):List Int:=xs.take p++xs.drop (p+1)
theorem E7{xs:List Int}{p:Nat}(hp:p<=xs.length)(r:Int):(tA xs p r).length=xs.length+1:=by
 simp[tA];omega
theorem tZ{xs:List Int}{p:Nat}(hp:p<xs.length)(r:Int):(oY xs p r).length=xs.length:=by
 simp[oY];omega
theorem C9{xs:List Int}{p:Nat}(hp:p<xs.length):(qG xs p).length+1=xs.length:=by
 simp[qG];omega
theorem S2{xs:List Int}{p:Nat}(hp:p<=xs.length)(r:Int)(q:Nat):(tA xs p r).getD q 0=if q<p then xs.getD q 0 else if q=p then r else xs.getD (q-1) 0:=by
 simp only[tA,fM]
 by_cases h1:q<p
 ·rw[if_pos h1,List.getElem?_append_left (by simp;omega),List.getElem?_take_of_lt h1]
 ·rw[if_neg h1,List.getElem?_append_right (by simp;omega)]
  have:(xs.take p).length=p:=by simp;omega
  rw[this]
  by_cases h2:q=p
  ·subst h2;simp
  ·obtain⟨d,hd⟩:∃d,q-p=d+1:=⟨q-p-1,by omega⟩
   rw[if_neg h2,hd,List.getElem?_cons_succ,List.getElem?_drop]
   congr 2
   omega
theorem Js{xs:List Int}{p:Nat}(hp:p<xs.length)(r:Int)(q:Nat):(oY xs p r).getD q 0=if q=p then r else xs.getD q 0:=by
 simp only[oY,fM]
 by_cases h1:q<p
 ·rw[if_neg (by omega),List.getElem?_append_left (by simp;omega),List.getElem?_take_of_lt h1]
 ·rw[List.getElem?_append_right (by simp;omega)]
  have:(xs.take p).length=p:=by simp;omega
  rw[this]
  by_cases h2:q=p
  ·subst h2;simp
  ·obtain⟨d,hd⟩:∃d,q-p=d+1:=⟨q-p-1,by omega⟩
   rw[if_neg h2,hd,List.getElem?_cons_succ,List.getElem?_drop]
   congr 2
   omega
theorem Qo{xs:List Int}{p:Nat}(hp:p<xs.length)(q:Nat):(qG xs p).getD q 0=if q<p then xs.getD q 0 else xs.getD (q+1) 0:=by
 simp only[qG,fM]
 by_cases h1:q<p
 ·rw[if_pos h1,List.getElem?_append_left (by simp;omega),List.getElem?_take_of_lt h1]
 ·rw[if_neg h1,List.getElem?_append_right (by simp;omega)]
  have:(xs.take p).length=p:=by simp;omega
  rw[this,List.getElem?_drop]
  congr 2
  omega
theorem Al{xs ys:List Int}(h:∀i,i<xs.length->1<=xs.getD i 0)(hy:∀j,j<ys.length->1<=ys.getD j 0∨∃i,i<xs.length/\ys.getD j 0=xs.getD i 0):∀j,j<ys.length->1<=ys.getD j 0:=λ j hj=>by
 rcases hy j hj with h1|⟨i,hi,he⟩
 ·exact h1
 ·rw[he];exact h i hi
section
variable{b i:Nat}{xs:List Int}{r:Int}
theorem xY(b i:Nat)(j:Nat):(b ||| 2^i).testBit j=(b.testBit j||decide (j=i)):=by
 rw[Nat.testBit_or,Nat.testBit_two_pow]
 congr 1
 exact decide_eq_decide.2 eq_comm
theorem uJ(b i:Nat)(j:Nat):(b ^^^ (b &&& 2^i)).testBit j=(b.testBit j&&!decide (j=i)):=by
 rw[Nat.testBit_xor,Nat.testBit_and,Nat.testBit_two_pow]
 have:decide (i=j)=decide (j=i):=decide_eq_decide.2 eq_comm
 rw[this]
 cases b.testBit j<;>cases decide (j=i)<;>rfl
theorem Di(h:BV b xs)(hi:i<64)(hb:b.testBit i=false)(hr:1<=r):BV (b ||| 2^i) (tA xs (eM b i) r)/\∀k,k<64->oS (b ||| 2^i) (tA xs (eM b i) r) k=Gp (oS b xs) i (some r) k:=by
 have hc:=zD hb (λ j _=>xY b i j)
 have hp:eM b i<=xs.length:=by
  obtain⟨d,hd⟩:=Nat.exists_eq_add_of_le (Nat.le_of_lt hi)
  rw[h.len,hd]
  exact sZ b i d
 refine⟨⟨Nat.or_lt_two_pow (n:=64) h.lt (Nat.pow_lt_pow_right (a:=2) (by decide) hi),?_,Al h.pos λ j hj=>?_⟩,λ k hk=>?_⟩
 ·rw[E7 hp,hc 64 (Nat.le_refl _),if_pos hi,h.len]
 ·rw[E7 hp] at hj
  rw[S2 hp]
  by_cases h1:j<eM b i
  ·rw[if_pos h1];exact .inr ⟨j,by omega,rfl⟩
  ·rw[if_neg h1]
   by_cases h2:j=eM b i
   ·rw[if_pos h2];exact .inl hr
   ·rw[if_neg h2];exact .inr ⟨j-1,by omega,rfl⟩
 ·simp only[oS,Gp]
  rw[xY,hc k (by omega),S2 hp]
  by_cases hki:k=i
  ·subst hki;simp
  ·rw[if_neg hki,decide_eq_false hki,Bool.or_false]
   by_cases hbk:b.testBit k=true
   ·rw[if_pos hbk,if_pos hbk]
    congr 1
    by_cases hlt:k<i
    ·have:=nC hlt hbk
     rw[if_neg (show ¬i<k by omega),if_pos (by omega)]
     rfl
    ·have:eM b i<=eM b k:=by
      obtain⟨d,hd⟩:=Nat.exists_eq_add_of_le (show i<=k by omega)
      rw[hd];exact sZ b i d
     rw[if_pos (show i<k by omega),if_neg (by omega),if_neg (by omega)]
     rfl
   ·rw[if_neg hbk,if_neg hbk]
theorem Px(h:BV b xs)(hi:i<64)(hb:b.testBit i=true)(hr:1<=r):BV b (oY xs (eM b i) r)/\∀k,k<64->oS b (oY xs (eM b i) r) k=Gp (oS b xs) i (some r) k:=by
 have hp:eM b i<xs.length:=by rw[h.len];exact nC hi hb
 refine⟨⟨h.lt,by rw[tZ hp,h.len],Al h.pos λ j hj=>?_⟩,λ k hk=>?_⟩
 ·rw[tZ hp] at hj
  rw[Js hp]
  by_cases h2:j=eM b i
  ·rw[if_pos h2];exact .inl hr
  ·rw[if_neg h2];exact .inr ⟨j,hj,rfl⟩
 ·simp only[oS,Gp]
  rw[Js hp]
  by_cases hki:k=i
  ·subst hki;rw[if_pos hb,if_pos rfl,if_pos rfl]
  ·rw[if_neg hki]
   by_cases hbk:b.testBit k=true
   ·rw[if_pos hbk,if_pos hbk,if_neg]
    rcases Nat.lt_or_gt_of_ne hki with hlt|hlt
    ·have:=nC hlt hbk;omega
    ·have:=nC hlt hb;omega
   ·rw[if_neg hbk,if_neg hbk]
theorem N0(h:BV b xs)(hi:i<64)(hb:b.testBit i=true):BV (b ^^^ (b &&& 2^i)) (qG xs (eM b i))/\∀k,k<64->oS (b ^^^ (b &&& 2^i)) (qG xs (eM b i)) k=Gp (oS b xs) i none k:=by
 have hp:eM b i<xs.length:=by rw[h.len];exact nC hi hb
 have hb':(b ^^^ (b &&& 2^i)).testBit i=false:=by rw[uJ];simp
 have hc:=zD (b':=b) hb' (λ j _=>by
  rw[uJ]
  by_cases hji:j=i
  ·subst hji;simp[hb]
  ·rw[decide_eq_false hji];simp)
 refine⟨⟨Nat.xor_lt_two_pow (n:=64) h.lt (Nat.lt_of_le_of_lt Nat.and_le_left h.lt),?_,Al h.pos λ j hj=>?_⟩,λ k hk=>?_⟩
 ·have:=C9 hp
  have:=hc 64 (Nat.le_refl _)
  rw[if_pos hi] at this
  have:=h.len
  omega
 ·have:=C9 hp
  rw[Qo hp]
  by_cases h1:j<eM b i
  ·rw[if_pos h1];exact .inr ⟨j,by omega,rfl⟩
  ·rw[if_neg h1];exact .inr ⟨j+1,by omega,rfl⟩
 ·simp only[oS,Gp]
  have hck:=hc k (by omega)
  rw[uJ,Qo hp]
  by_cases hki:k=i
  ·subst hki;simp
  ·rw[if_neg hki,decide_eq_false hki,Bool.not_false,Bool.and_true]
   by_cases hbk:b.testBit k=true
   ·rw[if_pos hbk,if_pos hbk]
    congr 1
    by_cases hlt:k<i
    ·have:=nC hlt hbk
     rw[if_neg (show ¬i<k by omega)] at hck
     rw[if_pos (by omega),hck]
     rfl
    ·have:=nC (show i<k by omega) hb
     rw[if_pos (show i<k by omega)] at hck
     rw[if_neg (by omega),hck]
   ·rw[if_neg hbk,if_neg hbk]
end
end

/- What is known of a list, in short. -/
section
open Go Go.RowKit
variable{w0 w:World}{M:List Nat}{H:List (Nat×Obj)}{A F:Fr}{O:List Ow}
end
end Go.Ct
namespace Go.Proofs.YtadnboagdhcedaaGreatDoor
section
open Go.RowKit Go.Ct
theorem oT{n:Nd}{xs:List Int}{ys:List Pr}(h:n.kind=3)(hv:bY n xs ys):(xs.length:Int)=wI n.bm/\Pos xs:=by
 obtain⟨_,_,_,_,hv⟩:=hv
 rcases hv with h1|⟨h1,_⟩|⟨_,h2,h3⟩|⟨h1|h1,_⟩|⟨h1,_⟩|⟨h1,_⟩|⟨h1,_⟩
 all_goals first|exact⟨h2,h3⟩|(rw[h] at h1;exact absurd h1 (by decide))
end

/- The reference's Valid. -/
section
open Go.RowKit Go.Ct
theorem qj(n:Nd)(h1:1<=n.kind)(h8:n.kind<=8)(w:World):Calls Tryz.prog 137 #[n.v] w λ e w'=>e=.returned n.own.v/\St w [] [] w':=by
 refine enter Tryz.func137 Tryz.ntmps137 rfl rfl (SF.s0 w) ?_
 simp only[cP]
 refine J0 ?_;refine bP (λ x1=>?_);refine aP (λ x2=>?_);refine aI ?_;refine An ?_;refine Kc3 ?_;refine jC ?_
 refine aZ (λ c5=>?_) (λ c5=>?_)
 ·refine gU ?_;refine zO ?_
  refine bK Tryz.results137 (λ w hw=>?_)
  (exact⟨by simp only[Nd.own,beq_iff_eq, *,if_true,if_false];rfl,hw.done⟩)
 ·refine jC ?_
  refine aZ (λ c10=>?_) (λ c10=>?_)
  ·refine gU ?_;refine Kc6 ?_;refine zO ?_
   refine bK Tryz.results137 (λ w hw=>?_)
   (exact⟨by simp only[Nd.own,beq_iff_eq, *,if_true,if_false];rfl,hw.done⟩)
  ·refine jC ?_
   refine aZ (λ c19=>?_) (λ c19=>?_)
   ·refine gU ?_;refine Kc6 ?_;refine J3 ?_;refine zO ?_
    refine bK Tryz.results137 (λ w hw=>?_)
    (exact⟨by simp only[Nd.own,beq_iff_eq, *,if_true,if_false];rfl,hw.done⟩)
   ·refine jC ?_
    refine aZ (λ c30=>?_) (λ c30=>?_)
    ·refine gU ?_;refine Kc6 ?_;refine J3 ?_;refine zO ?_
     refine bK Tryz.results137 (λ w hw=>?_)
     (exact⟨by simp only[Nd.own,beq_iff_eq, *,if_true,if_false];rfl,hw.done⟩)
    ·refine jC ?_
     refine aZ (λ c41=>?_) (λ c41=>?_)
     ·refine gU ?_;refine Kc6 ?_;refine Kc6 ?_;refine zO ?_
      refine bK Tryz.results137 (λ w hw=>?_)
      (exact⟨by simp only[Nd.own,beq_iff_eq, *,if_true,if_false];rfl,hw.done⟩)
     ·refine jC ?_
      refine aZ (λ c54=>?_) (λ c54=>?_)
      ·refine gU ?_;refine Kc6 ?_;refine J3 ?_;refine zO ?_
       refine bK Tryz.results137 (λ w hw=>?_)
       (exact⟨by simp only[Nd.own,beq_iff_eq, *,if_true,if_false];rfl,hw.done⟩)
      ·refine jC ?_
       refine aZ (λ c65=>?_) (λ c65=>?_)
       ·refine gU ?_;refine J3 ?_;refine zO ?_
        refine bK Tryz.results137 (λ w hw=>?_)
        (exact⟨by simp only[Nd.own,beq_iff_eq, *,if_true,if_false];rfl,hw.done⟩)
       ·refine jC ?_
        refine aZ (λ c72=>?_) (λ c72=>?_)
        ·refine gU ?_;refine Kc6 ?_;refine Kc6 ?_;refine zO ?_
         refine bK Tryz.results137 (λ w hw=>?_)
         (exact⟨by simp only[Nd.own,beq_iff_eq, *,if_true,if_false];rfl,hw.done⟩)
        ·refine lM ?_;refine J0 ?_;refine zO ?_
         refine bK Tryz.results137 (λ w hw=>?_)
         (exfalso;omega)
theorem X2{n:Nd}{xs:List Int}{ys:List Pr}(h:n.kind=3){k:Nat}(hk:k<xs.length)(hx:xs.getD k 0<1):false=true↔bY n xs ys:=by
 simp only[Bool.false_eq_true,false_iff]
 intro hv
 have:=(oT h hv).2 k hk
 omega
theorem l8{n:Nd}{xs:List Int}{ys:List Pr}{c:Int}(h:n.kind=3)(he:pP n n.own xs (n.fQ xs) ys (n.fH ys))(h1:0<=n.main)(h2:0<=n.prev)(h3:0<=n.status)(eo:wI n.bm=c)(hp:Pos xs):((xs.length:Int)==c)=true↔bY n xs ys:=by
 rw[beq_iff_eq,<- eo]
 exact⟨λ hl=>⟨he,h1,h2,h3,.inr (.inr (.inl ⟨h,hl,hp⟩))⟩,λ hv=>(oT h hv).1⟩
theorem Dg{n:Nd}{xs:List Int}{ys:List Pr}{w:World}{b:Nat}(hb:n.bm=(b:Int))(hb2:b<18446744073709551616)(hr:qP w n xs ys) :
  Calls Tryz.prog 102 #[n.v] w λ e w'=>∃r:Bool,e=.returned (.bool r)/\(r=true↔bY n xs ys)/\St w [] [] w':=by
 have e1:=hr.brN;have e2:=hr.prN
 obtain⟨kind,gen,main,bm,brA,brN,brC,hash,key,val,prA,prN,prK,prev,bM,exp,new,status⟩:=n
 simp only at e1 e2 hb
 subst e1 e2 hb
 have eo:wI (b:Int)=((eM b 64:Nat):Int):=nW hb2
 have hxl:=hr.brS
 refine enter Tryz.func102 Tryz.ntmps102 rfl rfl (SF.s2 hr.br hr.pr) ?_
 simp only[cP]
 simp only[Nd.v,Nd.cells]
 refine J0 ?_;refine bP (λ x1=>?_);refine gP ?_;refine aR ?_;refine eG [(0,[]),(1,[]),(2,[]),(3,[]),(4,[]),(5,[]),(6,[]),(7,[]),(8,[]),(9,[]),(10,[]),(11,[9]),(12,[]),(13,[]),(14,[]),(15,[]),(16,[]),(17,[]),(18,[]),(19,[]),(20,[]),(21,[]),(22,[]),(23,[]),(24,[]),(25,[]),(26,[]),(27,[]),(28,[]),(29,[])] ?_;refine mB ?_;refine Ba ?_;refine aS ?_
 (refine j3 7 (λ g7=>?_) (λ g7=>?_)<;>(first|refine fU ?_|(refine aM ?_)))
 all_goals ((first|refine fU ?_|(refine bO ?_));(first|refine fU ?_|(refine xr ?_));refine iU ?_;refine aS ?_)
 all_goals (first|refine fU ?_|(refine j3 12 (λ g12=>?_) (λ g12=>?_)<;>(first|refine fU ?_|(refine bO ?_))))
 all_goals ((first|refine fU ?_|(refine bO ?_));(first|refine fU ?_|(refine cX (i:=11) (hq:=(cV (hc:=λ w1 hw=>qj (⟨kind,gen,main,(b:Int),brA,xs.length,brC,hash,key,val,prA,ys.length,prK,prev,bM,exp,new,status⟩:Nd) (show(1:Int)<=kind by omega) (show kind<=8 by omega) w1))) (h:=λ x15=>?_)));(first|refine fU ?_|(refine bC (i:=12) (hq:=(c0 (V:=.bool) (hc:=λ w1 hw=>kr (a:=(⟨kind,gen,main,(b:Int),brA,xs.length,brC,hash,key,val,prA,ys.length,prK,prev,bM,exp,new,status⟩:Nd)) (b:=((⟨kind,gen,main,(b:Int),brA,xs.length,brC,hash,key,val,prA,ys.length,prK,prev,bM,exp,new,status⟩:Nd)).own) (hr.fC hw.done) (hr.fC hw.done).own))) (h:=λ x16 h16=>?_)));(first|refine fU ?_|(refine R8 ?_));refine iU ?_;refine aS ?_)
 all_goals (first|refine fU ?_|(refine j3 19 (λ g19=>?_) (λ g19=>?_)<;>(first|refine fU ?_|(refine aM ?_))))
 all_goals ((first|refine fU ?_|(refine bO ?_));(first|refine fU ?_|(refine Ba ?_));refine iU ?_;refine aS ?_)
 all_goals (first|refine fU ?_|(refine j3 24 (λ g24=>?_) (λ g24=>?_)<;>(first|refine fU ?_|(refine aM ?_))))
 all_goals ((first|refine fU ?_|(refine bO ?_));(first|refine fU ?_|(refine Ba ?_));refine iU ?_;refine aS ?_)
 all_goals (first|refine fU ?_|(refine j3 29 (λ g29=>?_) (λ g29=>?_)<;>(first|refine fU ?_|(refine aM ?_))))
 all_goals ((first|refine fU ?_|(refine bO ?_));(first|refine fU ?_|(refine Ba ?_));refine iU ?_;refine dW ?_)
 all_goals
 refine aZ (λ c33=>?_) (λ c33=>?_)
 ·all_goals refine cQ ?_
  all_goals
   refine aQ Tryz.results102 (λ w hw=>?_)
   refine⟨_,rfl,?_,hw.done⟩
   first|(simp_all[bY];done)|(simp_all[bY];omega)
 ·try exact nv c33
  all_goals (refine jM ?_;refine gU ?_;refine Kc3 ?_;refine jC ?_)
  all_goals
   refine aZ (λ c36=>?_) (λ c36=>?_)
   ·refine gU ?_;refine mT ?_;refine J1 ?_
    refine aQ Tryz.results102 (λ w hw=>?_)
    refine⟨_,rfl,?_,hw.done⟩
    (simp_all[bY];done)
   ·refine jC ?_
    refine aZ (λ c41=>?_) (λ c41=>?_)
    ·refine aR ?_;refine Gh ?_
     refine eY [2,3,43,44,45,46,47,48,49,50,51,52,53,54,55] (λ k=>[(3,.int .i64 ((k:Nat):Int))]) (λ k=>k<=xs.length/\∀i,i<k->1<=xs.getD i 0) (λ k=>xs.length-k) (0) (⟨Nat.zero_le _,λ i hi=>absurd hi (Nat.not_lt_zero i)⟩) ?_ (λ k f hx=>?_)
     ·repeat (first|exact bB _|refine aY (by exact rfl) ?_)
     dsimp only[fY,List.map,List.cons_append,List.nil_append]
     refine kR ?_;refine Mx ?_;refine vV ?_
     refine aZ (λ c47=>?_) (λ c47=>?_)
     ·refine oE ?_;refine gU ?_;refine aB ?_;refine To ?_;refine vV ?_
      refine aZ (λ c55=>?_) (λ c55=>?_)
      ·refine cQ ?_
       refine aQ Tryz.results102 (λ w hw=>?_)
       refine⟨_,rfl,?_,hw.done⟩
       exact X2 c41 (k:=k) (by omega) (by assumption)
      ·refine lM ?_;refine Ab ?_
       refine dO (k+1) ?_ ?_ ?_
       ·omega
       ·repeat' (first|exact bB _|refine aY ?_ ?_)
        exact rfl
       ·exact⟨by omega,λ i hi=>by rcases Nat.lt_succ_iff_lt_or_eq.1 hi with h|rfl;exact hx.2 i h;omega⟩
     ·refine bI rfl ?_;refine aR ?_;refine eG [(0,[]),(1,[]),(2,[]),(3,[]),(4,[]),(5,[1]),(6,[]),(7,[])] ?_;refine mB ?_;refine lK ?_;refine mB ?_;refine cX (i:=5) (hq:=(cV (hc:=λ w1 hw=>Pa hb2 w1))) (h:=λ x61=>?_);refine mK ?_;refine J7 ?_
      refine aQ Tryz.results102 (λ w hw=>?_)
      refine⟨_,rfl,?_,hw.done⟩
      exact l8 c41 (h16.1 (by simpa using g19)) (show 0<=main by omega) (show 0<=prev by omega) (show 0<=status by omega) eo (λ i hi=>hx.2 i (by omega))
    ·refine aR ?_;refine jC ?_
     refine aZ (λ c63=>?_) (λ c63=>?_)
     ·refine bA ?_
      refine aZ (λ c63=>?_) (λ c63=>?_)
      ·refine gU ?_;refine jO ?_;refine Bs ?_;refine J1 ?_
       refine aQ Tryz.results102 (λ w hw=>?_)
       refine⟨_,rfl,?_,hw.done⟩
       (simp_all[bY];omega)
      ·refine jC ?_
       refine aZ (λ c70=>?_) (λ c70=>?_)
       ·refine gU ?_;refine dI ?_;refine mT ?_;refine aB ?_
        (refine eF 76 (λ g76=>?_) (λ g76=>?_)<;>refine Ka1 ?_)
        all_goals (refine Ka2 ?_;(first|refine aH ?_|(refine aF ?_;refine aC (c0 (V:=.bool) (hc:=λ w1 hw=>kW (hw.cl fin) hr.prS)) (λ x79 h79=>?_)));refine Kc1 ?_)
        all_goals (first|refine aH ?_|(refine eF 81 (λ g81=>?_) (λ g81=>?_)<;>refine Ka1 ?_))
        all_goals (refine Ka2 ?_;(first|refine aH ?_|(refine aF ?_;refine aC (c0 (V:=.bool) (hc:=λ w1 hw=>cj (hw.cl fin) hr.prS)) (λ x84 h84=>?_)));refine Kc8 ?_)
        all_goals
        refine aQ Tryz.results102 (λ w hw=>?_)
        refine⟨_,rfl,?_,hw.done⟩
        (simp_all[bY];done)
       ·refine jC ?_
        refine aZ (λ c86=>?_) (λ c86=>?_)
        ·refine gU ?_;refine mT ?_;refine J1 ?_
         refine aQ Tryz.results102 (λ w hw=>?_)
         refine⟨_,rfl,?_,hw.done⟩
         (simp_all[bY];done)
        ·refine jC ?_
         refine aZ (λ c91=>?_) (λ c91=>?_)
         ·refine gU ?_;refine mT ?_;refine aB ?_
          (refine eF 96 (λ g96=>?_) (λ g96=>?_)<;>refine Ka1 ?_)
          all_goals (refine J86 ?_;refine Kc1 ?_)
          all_goals (first|refine aH ?_|(refine eF 101 (λ g101=>?_) (λ g101=>?_)<;>refine Ka1 ?_))
          all_goals (refine J86 ?_;refine Kc8 ?_)
          all_goals
          refine aQ Tryz.results102 (λ w hw=>?_)
          refine⟨_,rfl,?_,hw.done⟩
          (simp_all[bY];done)
         ·refine Kb1 ?_
          refine aQ Tryz.results102 (λ w hw=>?_)
          refine⟨_,rfl,?_,hw.done⟩
          (simp_all[bY];done)
     ·refine dJ ?_;refine Qd ?_
      refine aZ (λ c63=>?_) (λ c63=>?_)
      ·refine gU ?_;refine jO ?_;refine Bs ?_;refine J1 ?_
       refine aQ Tryz.results102 (λ w hw=>?_)
       refine⟨_,rfl,?_,hw.done⟩
       (simp_all[bY];omega)
      ·refine jC ?_
       refine aZ (λ c70=>?_) (λ c70=>?_)
       ·refine gU ?_;refine dI ?_;refine mT ?_;refine aB ?_
        (refine eF 76 (λ g76=>?_) (λ g76=>?_)<;>refine Ka1 ?_)
        all_goals (refine Ka2 ?_;(first|refine aH ?_|(refine aF ?_;refine aC (c0 (V:=.bool) (hc:=λ w1 hw=>kW (hw.cl fin) hr.prS)) (λ x79 h79=>?_)));refine Kc1 ?_)
        all_goals (first|refine aH ?_|(refine eF 81 (λ g81=>?_) (λ g81=>?_)<;>refine Ka1 ?_))
        all_goals (refine Ka2 ?_;(first|refine aH ?_|(refine aF ?_;refine aC (c0 (V:=.bool) (hc:=λ w1 hw=>cj (hw.cl fin) hr.prS)) (λ x84 h84=>?_)));refine Kc8 ?_)
        all_goals
        refine aQ Tryz.results102 (λ w hw=>?_)
        refine⟨_,rfl,?_,hw.done⟩
        first|(simp_all[bY];done)|(simp_all[bY];omega)
       ·refine jC ?_
        refine aZ (λ c86=>?_) (λ c86=>?_)
        ·refine gU ?_;refine mT ?_;refine J1 ?_
         refine aQ Tryz.results102 (λ w hw=>?_)
         refine⟨_,rfl,?_,hw.done⟩
         (simp_all[bY];done)
        ·refine jC ?_
         refine aZ (λ c91=>?_) (λ c91=>?_)
         ·refine gU ?_;refine mT ?_;refine aB ?_
          (refine eF 96 (λ g96=>?_) (λ g96=>?_)<;>refine Ka1 ?_)
          all_goals (refine J86 ?_;refine Kc1 ?_)
          all_goals (first|refine aH ?_|(refine eF 101 (λ g101=>?_) (λ g101=>?_)<;>refine Ka1 ?_))
          all_goals (refine J86 ?_;refine Kc8 ?_)
          all_goals
          refine aQ Tryz.results102 (λ w hw=>?_)
          refine⟨_,rfl,?_,hw.done⟩
          first|(simp_all[bY];done)|(simp_all[bY];omega)
         ·refine Kb1 ?_
          refine aQ Tryz.results102 (λ w hw=>?_)
          refine⟨_,rfl,?_,hw.done⟩
          (simp_all[bY];omega)
end

end Go.Proofs.YtadnboagdhcedaaGreatDoor
