/- C-nodes are maps: the plain laws. -/
import Derived.Test.YtbajmaoegmbfgaaGreatGNode1
import Derived.Test.YtbajmaoegmbfgaaGreatAuto
import Derived.Test.YtbajmaoegmbfgaaGreatGSlices

set_option linter.unusedSimpArgs false
set_option linter.unusedVariables false
namespace Go.Ct
section
open Go Go.RowKit
def qS(b:Nat)(xs:List Int)(k:Nat):Option Int:=if b.testBit k=true then some (xs.getD (gJ b k) 0) else none
def A2(m:Nat->Option Int):Nat->Nat
 | 0=>0
 | k+1=>if(m k).isSome=true then A2 m k ||| 2^k else A2 m k
def pT(m:Nat->Option Int):Nat->List Int
 | 0=>[]
 | k+1=>pT m k++(m k).toList
def Mw(m:Nat->Option Int)(i:Nat)(o:Option Int)(k:Nat):Option Int:=if k=i then o else m k
structure BV(b:Nat)(xs:List Int):Prop where
 lt:b<18446744073709551616
 len:xs.length=gJ b 64
 pos:∀i,i<xs.length->1<=xs.getD i 0
theorem Vi(m:Nat->Option Int)(j:Nat):∀k,(A2 m k).testBit j=(decide (j<k)&&(m j).isSome)
 | 0=>by simp[A2]
 | k+1=>by
  have ih:=Vi m j k
  simp only[A2]
  by_cases hjk:j=k
  ·subst hjk
   by_cases h:(m j).isSome=true
   ·rw[if_pos h,Nat.testBit_or,Nat.testBit_two_pow];simp[h]
   ·rw[if_neg h,ih];simp at h;simp[h]
  ·have h2:(2^k).testBit j=false:=by rw[Nat.testBit_two_pow];exact decide_eq_false (λ h=>hjk h.symm)
   split
   ·rw[Nat.testBit_or,ih,h2,Bool.or_false]
    congr 1
    exact decide_eq_decide.2 (by omega)
   ·rw[ih]
    congr 1
    exact decide_eq_decide.2 (by omega)
theorem fl(m:Nat->Option Int):∀k,A2 m k<2^k
 | 0=>by simp[A2]
 | k+1=>by
  have ih:=fl m k
  have h2:2^(k+1)=2^k+2^k:=by rw[Nat.pow_succ];omega
  simp only[A2]
  split
  ·refine Nat.or_lt_two_pow (by omega) ?_
   have:=Nat.two_pow_pos k
   omega
  ·omega
theorem Ca{xs:List Int}{i:Nat}(h:i<xs.length):xs.getD i 0∈xs:=by
 rw[jC,List.getElem?_eq_getElem h]
 exact List.getElem_mem h
theorem Ob{m m':Nat->Option Int}:∀n,(∀k,k<n->m k=m' k)->A2 m n=A2 m' n/\pT m n=pT m' n
 | 0,_=>⟨rfl,rfl⟩
 | n+1,h=>by
  obtain⟨h1,h2⟩:=Ob n λ k hk=>h k (by omega)
  simp only[A2,pT,h1,h2,h n (by omega),and_self]
theorem wD(b:Nat)(k:Nat):∀d,gJ b k<=gJ b (k+d)
 | 0=>Nat.le_refl _
 | d+1=>by have:=wD b k d;rw[<- Nat.add_assoc];simp only[gJ];omega
theorem oH{b k n:Nat}(h:k<n)(hb:b.testBit k=true):gJ b k<gJ b n:=by
 obtain⟨d,rfl⟩:=Nat.exists_eq_add_of_le (Nat.succ_le_of_lt h)
 have:=wD b (k+1) d
 simp only[gJ,hb,if_true] at this
 exact this
theorem Uf{b:Nat}{xs:List Int}(h:xs.length=gJ b 64):∀k,k<=64->pT (qS b xs) k=xs.take (gJ b k)
 | 0,_=>by simp[pT,gJ]
 | k+1,hk=>by
  have ih:=Uf h k (by omega)
  simp only[pT,ih,qS,gJ]
  split
  ·rename_i hb
   have:=oH (n:=64) (by omega) hb
   rw[List.take_add_one,Option.toList,jC,List.getElem?_eq_getElem (by omega)]
   rfl
  ·simp
theorem R6{b:Nat}{xs:List Int}(h:BV b xs):A2 (qS b xs) 64=b/\pT (qS b xs) 64=xs:=by
 refine⟨Nat.eq_of_testBit_eq λ j=>?_,?_⟩
 ·rw[Vi]
  by_cases hj:j<64
  ·rw[decide_eq_true hj,Bool.true_and]
   unfold qS
   cases hb:b.testBit j<;>simp
  ·rw[decide_eq_false hj,Bool.false_and]
   exact(Nat.testBit_lt_two_pow (Nat.lt_of_lt_of_le h.lt (Nat.pow_le_pow_right (n:=2) (by decide) (show 64<=j by omega)))).symm
 ·rw[Uf h.len 64 (Nat.le_refl _),<- h.len,List.take_length]
theorem Aq{b b' i:Nat}(h:b.testBit i=false)(hb:∀j,j<64->b'.testBit j=(b.testBit j||decide (j=i))):∀k,k<=64->gJ b' k=gJ b k+if i<k then 1 else 0
 | 0,_=>rfl
 | k+1,hk=>by
  have ih:=Aq h hb k (by omega)
  simp only[gJ,ih,hb k (by omega)]
  by_cases hki:k=i
  ·subst hki
   simp[h]
  ·have:decide (k=i)=false:=decide_eq_false hki
   rw[this,Bool.or_false]
   have e:(i<k+1)↔(i<k):=by omega
   simp only[e]
   omega
def uY(xs:List Int)(p:Nat)(r:Int):List Int:=xs.take p++r::xs.drop p
def yN(xs:List Int)(p:Nat)(r:Int):List Int:=xs.take p++r::xs.drop (p+1)
def sC(xs:List Int)(p:Nat):List Int:=xs.take p++xs.drop (p+1)
theorem Fs{xs:List Int}{p:Nat}(hp:p<=xs.length)(r:Int):(uY xs p r).length=xs.length+1:=by
 simp[uY];omega
theorem uV{xs:List Int}{p:Nat}(hp:p<xs.length)(r:Int):(yN xs p r).length=xs.length:=by
 simp[yN];omega
theorem Es{xs:List Int}{p:Nat}(hp:p<xs.length):(sC xs p).length+1=xs.length:=by
 simp[sC];omega
theorem Uj{xs:List Int}{p:Nat}(hp:p<=xs.length)(r:Int)(q:Nat):(uY xs p r).getD q 0=if q<p then xs.getD q 0 else if q=p then r else xs.getD (q-1) 0:=by
 simp only[uY,jC]
 by_cases h1:q<p
 ·rw[if_pos h1,List.getElem?_append_left (by simp;omega),List.getElem?_take_of_lt h1]
 ·rw[if_neg h1,List.getElem?_append_right (by simp;omega)]
  have:(xs.take p).length=p:=by simp;omega
  rw[this]
  by_cases h2:q=p
  ·subst h2;simp
  ·obtain⟨d,hd⟩:∃d,q-p=d+1:=⟨q-p-1,by omega⟩
   rw[if_neg h2,hd,List.getElem?_cons_succ,List.getElem?_drop]
   congr 2
   omega
theorem K0{xs:List Int}{p:Nat}(hp:p<xs.length)(r:Int)(q:Nat):(yN xs p r).getD q 0=if q=p then r else xs.getD q 0:=by
 simp only[yN,jC]
 by_cases h1:q<p
 ·rw[if_neg (by omega),List.getElem?_append_left (by simp;omega),List.getElem?_take_of_lt h1]
 ·rw[List.getElem?_append_right (by simp;omega)]
  have:(xs.take p).length=p:=by simp;omega
  rw[this]
  by_cases h2:q=p
  ·subst h2;simp
  ·obtain⟨d,hd⟩:∃d,q-p=d+1:=⟨q-p-1,by omega⟩
   rw[if_neg h2,hd,List.getElem?_cons_succ,List.getElem?_drop]
   congr 2
   omega
theorem Uw{xs:List Int}{p:Nat}(hp:p<xs.length)(q:Nat):(sC xs p).getD q 0=if q<p then xs.getD q 0 else xs.getD (q+1) 0:=by
 simp only[sC,jC]
 by_cases h1:q<p
 ·rw[if_pos h1,List.getElem?_append_left (by simp;omega),List.getElem?_take_of_lt h1]
 ·rw[if_neg h1,List.getElem?_append_right (by simp;omega)]
  have:(xs.take p).length=p:=by simp;omega
  rw[this,List.getElem?_drop]
  congr 2
  omega
theorem Bw{xs ys:List Int}(h:∀i,i<xs.length->1<=xs.getD i 0)(hy:∀j,j<ys.length->1<=ys.getD j 0∨∃i,i<xs.length/\ys.getD j 0=xs.getD i 0):∀j,j<ys.length->1<=ys.getD j 0:=λ j hj=>by
 rcases hy j hj with h1|⟨i,hi,he⟩
 ·exact h1
 ·rw[he];exact h i hi
section
variable{b i:Nat}{xs:List Int}{r:Int}
theorem zX(b i:Nat)(j:Nat):(b ||| 2^i).testBit j=(b.testBit j||decide (j=i)):=by
 rw[Nat.testBit_or,Nat.testBit_two_pow]
 congr 1
 exact decide_eq_decide.2 eq_comm
theorem vG(b i:Nat)(j:Nat):(b ^^^ (b &&& 2^i)).testBit j=(b.testBit j&&!decide (j=i)):=by
 rw[Nat.testBit_xor,Nat.testBit_and,Nat.testBit_two_pow]
 have:decide (i=j)=decide (j=i):=decide_eq_decide.2 eq_comm
 rw[this]
 cases b.testBit j<;>cases decide (j=i)<;>rfl
theorem Hr(h:BV b xs)(hi:i<64)(hb:b.testBit i=false)(hr:1<=r):BV (b ||| 2^i) (uY xs (gJ b i) r)/\∀k,k<64->qS (b ||| 2^i) (uY xs (gJ b i) r) k=Mw (qS b xs) i (some r) k:=by
 have hc:=Aq hb (λ j _=>zX b i j)
 have hp:gJ b i<=xs.length:=by
  obtain⟨d,hd⟩:=Nat.exists_eq_add_of_le (Nat.le_of_lt hi)
  rw[h.len,hd]
  exact wD b i d
 refine⟨⟨Nat.or_lt_two_pow (n:=64) h.lt (Nat.pow_lt_pow_right (a:=2) (by decide) hi),?_,Bw h.pos λ j hj=>?_⟩,λ k hk=>?_⟩
 ·rw[Fs hp,hc 64 (Nat.le_refl _),if_pos hi,h.len]
 ·rw[Fs hp] at hj
  rw[Uj hp]
  by_cases h1:j<gJ b i
  ·rw[if_pos h1];exact .inr ⟨j,by omega,rfl⟩
  ·rw[if_neg h1]
   by_cases h2:j=gJ b i
   ·rw[if_pos h2];exact .inl hr
   ·rw[if_neg h2];exact .inr ⟨j-1,by omega,rfl⟩
 ·simp only[qS,Mw]
  rw[zX,hc k (by omega),Uj hp]
  by_cases hki:k=i
  ·subst hki;simp
  ·rw[if_neg hki,decide_eq_false hki,Bool.or_false]
   by_cases hbk:b.testBit k=true
   ·rw[if_pos hbk,if_pos hbk]
    congr 1
    by_cases hlt:k<i
    ·have:=oH hlt hbk
     rw[if_neg (show ¬i<k by omega),if_pos (by omega)]
     rfl
    ·have:gJ b i<=gJ b k:=by
      obtain⟨d,hd⟩:=Nat.exists_eq_add_of_le (show i<=k by omega)
      rw[hd];exact wD b i d
     rw[if_pos (show i<k by omega),if_neg (by omega),if_neg (by omega)]
     rfl
   ·rw[if_neg hbk,if_neg hbk]
theorem R5(h:BV b xs)(hi:i<64)(hb:b.testBit i=true)(hr:1<=r):BV b (yN xs (gJ b i) r)/\∀k,k<64->qS b (yN xs (gJ b i) r) k=Mw (qS b xs) i (some r) k:=by
 have hp:gJ b i<xs.length:=by rw[h.len];exact oH hi hb
 refine⟨⟨h.lt,by rw[uV hp,h.len],Bw h.pos λ j hj=>?_⟩,λ k hk=>?_⟩
 ·rw[uV hp] at hj
  rw[K0 hp]
  by_cases h2:j=gJ b i
  ·rw[if_pos h2];exact .inl hr
  ·rw[if_neg h2];exact .inr ⟨j,hj,rfl⟩
 ·simp only[qS,Mw]
  rw[K0 hp]
  by_cases hki:k=i
  ·subst hki;rw[if_pos hb,if_pos rfl,if_pos rfl]
  ·rw[if_neg hki]
   by_cases hbk:b.testBit k=true
   ·rw[if_pos hbk,if_pos hbk,if_neg]
    rcases Nat.lt_or_gt_of_ne hki with hlt|hlt
    ·have:=oH hlt hbk;omega
    ·have:=oH hlt hb;omega
   ·rw[if_neg hbk,if_neg hbk]
theorem Te(h:BV b xs)(hi:i<64)(hb:b.testBit i=true):BV (b ^^^ (b &&& 2^i)) (sC xs (gJ b i))/\∀k,k<64->qS (b ^^^ (b &&& 2^i)) (sC xs (gJ b i)) k=Mw (qS b xs) i none k:=by
 have hp:gJ b i<xs.length:=by rw[h.len];exact oH hi hb
 have hb':(b ^^^ (b &&& 2^i)).testBit i=false:=by rw[vG];simp
 have hc:=Aq (b':=b) hb' (λ j _=>by
  rw[vG]
  by_cases hji:j=i
  ·subst hji;simp[hb]
  ·rw[decide_eq_false hji];simp)
 refine⟨⟨Nat.xor_lt_two_pow (n:=64) h.lt (Nat.lt_of_le_of_lt Nat.and_le_left h.lt),?_,Bw h.pos λ j hj=>?_⟩,λ k hk=>?_⟩
 ·have:=Es hp
  have:=hc 64 (Nat.le_refl _)
  rw[if_pos hi] at this
  have:=h.len
  omega
 ·have:=Es hp
  rw[Uw hp]
  by_cases h1:j<gJ b i
  ·rw[if_pos h1];exact .inr ⟨j,by omega,rfl⟩
  ·rw[if_neg h1];exact .inr ⟨j+1,by omega,rfl⟩
 ·simp only[qS,Mw]
  have hck:=hc k (by omega)
  rw[vG,Uw hp]
  by_cases hki:k=i
  ·subst hki;simp
  ·rw[if_neg hki,decide_eq_false hki,Bool.not_false,Bool.and_true]
   by_cases hbk:b.testBit k=true
   ·rw[if_pos hbk,if_pos hbk]
    congr 1
    by_cases hlt:k<i
    ·have:=oH hlt hbk
     rw[if_neg (show ¬i<k by omega)] at hck
     rw[if_pos (by omega),hck]
     rfl
    ·have:=oH (show i<k by omega) hb
     rw[if_pos (show i<k by omega)] at hck
     rw[if_neg (by omega),hck]
   ·rw[if_neg hbk,if_neg hbk]
end
end

/- What is known of a list, in short. -/
section
open Go Go.RowKit
variable{w0 w:World}{M:List Nat}{H:List (Nat×Obj)}{A F:Fr}{O:List Ow}
end
end Go.Ct
namespace Go.Proofs.YtbajmaoegmbfgaaGreat
section
open Go.RowKit Go.Ct
theorem pY{n:Nd}{xs:List Int}{ys:List Pr}(h:n.kind=3)(hv:cC n xs ys):(xs.length:Int)=yH n.bm/\Pos xs:=by
 obtain⟨_,_,_,_,hv⟩:=hv
 rcases hv with h1|⟨h1,_⟩|⟨_,h2,h3⟩|⟨h1|h1,_⟩|⟨h1,_⟩|⟨h1,_⟩|⟨h1,_⟩
 all_goals first|exact⟨h2,h3⟩|(rw[h] at h1;exact absurd h1 (by decide))
end

/- The reference's Valid. -/
section
open Go.RowKit Go.Ct
theorem yu (n : Nd) (h1 : 1 ≤ n.kind) (h8 : n.kind ≤ 8) (w : World) : Calls Tryz.prog 169 #[n.v] w fun e w' => e = .returned n.own.v ∧ St w [] [] w' := by
  refine enter Tryz.func169 Tryz.ntmps169 rfl rfl (SF.s0 w) ?_
  simp only [cD]
  refine J0 ?_; refine bK (fun x1 => ?_); refine aJ (fun x2 => ?_); refine aH ?_; refine Cx ?_; refine aH ?_; refine cZ ?_; refine lP ?_
  refine aZ (fun c5 => ?_) (fun c5 => ?_)
  · refine hZ ?_; refine vL ?_
    refine aY Tryz.results169 (fun w hw => ?_)
    (exact ⟨by simp only [Nd.own, beq_iff_eq, *, if_true, if_false]; rfl, hw.done⟩)
  · refine lP ?_
    refine aZ (fun c10 => ?_) (fun c10 => ?_)
    · refine hZ ?_; refine J3 ?_; refine J3 ?_; refine vL ?_
      refine aY Tryz.results169 (fun w hw => ?_)
      (exact ⟨by simp only [Nd.own, beq_iff_eq, *, if_true, if_false]; rfl, hw.done⟩)
    · refine lP ?_
      refine aZ (fun c19 => ?_) (fun c19 => ?_)
      · refine hZ ?_; refine J3 ?_; refine J3 ?_; refine J3 ?_; refine vL ?_
        refine aY Tryz.results169 (fun w hw => ?_)
        (exact ⟨by simp only [Nd.own, beq_iff_eq, *, if_true, if_false]; rfl, hw.done⟩)
      · refine lP ?_
        refine aZ (fun c30 => ?_) (fun c30 => ?_)
        · refine hZ ?_; refine J3 ?_; refine J3 ?_; refine J3 ?_; refine vL ?_
          refine aY Tryz.results169 (fun w hw => ?_)
          (exact ⟨by simp only [Nd.own, beq_iff_eq, *, if_true, if_false]; rfl, hw.done⟩)
        · refine lP ?_
          refine aZ (fun c41 => ?_) (fun c41 => ?_)
          · refine hZ ?_; refine J3 ?_; refine J3 ?_; refine J3 ?_; refine J3 ?_; refine vL ?_
            refine aY Tryz.results169 (fun w hw => ?_)
            (exact ⟨by simp only [Nd.own, beq_iff_eq, *, if_true, if_false]; rfl, hw.done⟩)
          · refine lP ?_
            refine aZ (fun c54 => ?_) (fun c54 => ?_)
            · refine hZ ?_; refine J3 ?_; refine J3 ?_; refine J3 ?_; refine vL ?_
              refine aY Tryz.results169 (fun w hw => ?_)
              (exact ⟨by simp only [Nd.own, beq_iff_eq, *, if_true, if_false]; rfl, hw.done⟩)
            · refine lP ?_
              refine aZ (fun c65 => ?_) (fun c65 => ?_)
              · refine hZ ?_; refine J3 ?_; refine vL ?_
                refine aY Tryz.results169 (fun w hw => ?_)
                (exact ⟨by simp only [Nd.own, beq_iff_eq, *, if_true, if_false]; rfl, hw.done⟩)
              · refine lP ?_
                refine aZ (fun c72 => ?_) (fun c72 => ?_)
                · refine hZ ?_; refine J3 ?_; refine J3 ?_; refine J3 ?_; refine J3 ?_; refine vL ?_
                  refine aY Tryz.results169 (fun w hw => ?_)
                  (exact ⟨by simp only [Nd.own, beq_iff_eq, *, if_true, if_false]; rfl, hw.done⟩)
                · refine oP ?_; refine J0 ?_; refine vL ?_
                  refine aY Tryz.results169 (fun w hw => ?_)
                  (exfalso; omega)
theorem bs{n:Nd}{xs:List Int}{ys:List Pr}(h:n.kind=3){k:Nat}(hk:k<xs.length)(hx:xs.getD k 0<1):false=true↔cC n xs ys:=by
 simp only[Bool.false_eq_true,false_iff]
 intro hv
 have:=(pY h hv).2 k hk
 omega
theorem qf{n:Nd}{xs:List Int}{ys:List Pr}{c:Int}(h:n.kind=3)(he:rK n n.own xs (n.jX xs) ys (n.jB ys))(h1:0<=n.main)(h2:0<=n.prev)(h3:0<=n.status)(eo:yH n.bm=c)(hp:Pos xs):((xs.length:Int)==c)=true↔cC n xs ys:=by
 rw[beq_iff_eq,<- eo]
 exact⟨λ hl=>⟨he,h1,h2,h3,.inr (.inr (.inl ⟨h,hl,hp⟩))⟩,λ hv=>(pY h hv).1⟩
theorem zE{n:Nd}{xs:List Int}{ys:List Pr}{w:World}{b:Nat}(hb:n.bm=(b:Int))(hb2:b<18446744073709551616)(hr:rX w n xs ys) :
  Calls Tryz.prog 126 #[n.v] w λ e w'=>∃r:Bool,e=.returned (.bool r)/\(r=true↔cC n xs ys)/\St w [] [] w':=by
 have e1:=hr.brN;have e2:=hr.prN
 obtain⟨kind,gen,main,bm,brA,brN,brC,hash,key,val,prA,prN,prK,prev,bJ,exp,new,status⟩:=n
 simp only at e1 e2 hb
 subst e1 e2 hb
 have eo:yH (b:Int)=((gJ b 64:Nat):Int):=pC hb2
 have hxl:=hr.brS
 refine enter Tryz.func126 Tryz.ntmps126 rfl rfl (SF.s2 hr.br hr.pr) ?_
 simp only[cD]
 simp only[Nd.v,Nd.cells]
 refine J0 ?_;refine bK (λ x1=>?_);refine iO ?_;refine aS ?_;refine dZ [(0,[]),(1,[]),(2,[]),(3,[]),(4,[]),(5,[]),(6,[]),(7,[]),(8,[]),(9,[]),(10,[]),(11,[9]),(12,[]),(13,[]),(14,[]),(15,[]),(16,[]),(17,[]),(18,[]),(19,[]),(20,[]),(21,[]),(22,[]),(23,[]),(24,[]),(25,[]),(26,[]),(27,[]),(28,[]),(29,[])] ?_;refine mI ?_;refine C1 ?_;refine aT ?_
 (refine n6 7 (λ g7=>?_) (λ g7=>?_)<;>(first|refine fT ?_|(refine aU ?_)))
 all_goals ((first|refine fT ?_|(refine bN ?_));(first|refine fT ?_|(refine aAJ ?_));refine lH ?_;refine aT ?_)
 all_goals (first|refine fT ?_|(refine n6 12 (λ g12=>?_) (λ g12=>?_)<;>(first|refine fT ?_|(refine bN ?_))))
 all_goals ((first|refine fT ?_|(refine bN ?_));(first|refine fT ?_|(refine cL (i:=11) (hq:=(cV (hc:=λ w1 hw=>yu (⟨kind,gen,main,(b:Int),brA,xs.length,brC,hash,key,val,prA,ys.length,prK,prev,bJ,exp,new,status⟩:Nd) (show(1:Int)<=kind by omega) (show kind<=8 by omega) w1))) (h:=λ x15=>?_)));(first|refine fT ?_|(refine bB (i:=12) (hq:=(c0 (V:=.bool) (hc:=λ w1 hw=>kh (a:=(⟨kind,gen,main,(b:Int),brA,xs.length,brC,hash,key,val,prA,ys.length,prK,prev,bJ,exp,new,status⟩:Nd)) (b:=((⟨kind,gen,main,(b:Int),brA,xs.length,brC,hash,key,val,prA,ys.length,prK,prev,bJ,exp,new,status⟩:Nd)).own) (hr.fW hw.done) (hr.fW hw.done).own))) (h:=λ x16 h16=>?_)));(first|refine fT ?_|(refine Ym ?_));refine lH ?_;refine aT ?_)
 all_goals (first|refine fT ?_|(refine n6 19 (λ g19=>?_) (λ g19=>?_)<;>(first|refine fT ?_|(refine aU ?_))))
 all_goals ((first|refine fT ?_|(refine bN ?_));(first|refine fT ?_|(refine C1 ?_));refine lH ?_;refine aT ?_)
 all_goals (first|refine fT ?_|(refine n6 24 (λ g24=>?_) (λ g24=>?_)<;>(first|refine fT ?_|(refine aU ?_))))
 all_goals ((first|refine fT ?_|(refine bN ?_));(first|refine fT ?_|(refine C1 ?_));refine lH ?_;refine aT ?_)
 all_goals (first|refine fT ?_|(refine n6 29 (λ g29=>?_) (λ g29=>?_)<;>(first|refine fT ?_|(refine aU ?_))))
 all_goals ((first|refine fT ?_|(refine bN ?_));(first|refine fT ?_|(refine C1 ?_));refine lH ?_;refine eJ ?_)
 all_goals
 refine aZ (λ c33=>?_) (λ c33=>?_)
 ·all_goals refine cP ?_
  all_goals
   refine aQ Tryz.results126 (λ w hw=>?_)
   refine⟨_,rfl,?_,hw.done⟩
   first|(simp_all[cC];done)|(simp_all[cC];omega)
 ·try exact nv c33
  all_goals (refine kK ?_;refine hZ ?_;refine aH ?_;refine cZ ?_;refine lP ?_)
  all_goals
   refine aZ (λ c36=>?_) (λ c36=>?_)
   ·refine hZ ?_;refine nT ?_;refine J1 ?_
    refine aQ Tryz.results126 (λ w hw=>?_)
    refine⟨_,rfl,?_,hw.done⟩
    (simp_all[cC];done)
   ·refine lP ?_
    refine aZ (λ c41=>?_) (λ c41=>?_)
    ·refine aS ?_;refine Dn ?_
     refine hY [2,3,43,44,45,46,47,48,49,50,51,52,53,54,55] (λ k=>[(3,.int .i64 ((k:Nat):Int))]) (λ k=>k<=xs.length/\∀i,i<k->1<=xs.getD i 0) (λ k=>xs.length-k) (0) (⟨Nat.zero_le _,λ i hi=>absurd hi (Nat.not_lt_zero i)⟩) ?_ (λ k f hx=>?_)
     ·repeat (first|exact bG _|refine bA (by exact rfl) ?_)
     dsimp only[iA,List.map,List.cons_append,List.nil_append]
     refine kX ?_;refine Qt ?_;refine Cf ?_
     refine aZ (λ c47=>?_) (λ c47=>?_)
     ·refine rR ?_;refine hZ ?_;refine aA ?_;refine Qq ?_;refine Cf ?_
      refine aZ (λ c55=>?_) (λ c55=>?_)
      ·refine cP ?_
       refine aQ Tryz.results126 (λ w hw=>?_)
       refine⟨_,rfl,?_,hw.done⟩
       exact bs c41 (k:=k) (by omega) (by assumption)
      ·refine oP ?_;refine uT ?_
       refine fD (k+1) ?_ ?_ ?_
       ·omega
       ·repeat' (first|exact bG _|refine bA ?_ ?_)
        exact rfl
       ·exact⟨by omega,λ i hi=>by rcases Nat.lt_succ_iff_lt_or_eq.1 hi with h|rfl;exact hx.2 i h;omega⟩
     ·refine bR rfl ?_;refine aS ?_;refine dZ [(0,[]),(1,[]),(2,[]),(3,[]),(4,[]),(5,[1]),(6,[]),(7,[])] ?_;refine mI ?_;refine nV ?_;refine mI ?_;refine cL (i:=5) (hq:=(cV (hc:=λ w1 hw=>Tg hb2 w1))) (h:=λ x61=>?_);refine mR ?_;refine J7 ?_
      refine aQ Tryz.results126 (λ w hw=>?_)
      refine⟨_,rfl,?_,hw.done⟩
      exact qf c41 (h16.1 (by simpa using g19)) (show 0<=main by omega) (show 0<=prev by omega) (show 0<=status by omega) eo (λ i hi=>hx.2 i (by omega))
    ·refine aS ?_;refine lP ?_
     refine aZ (λ c63=>?_) (λ c63=>?_)
     ·refine aX ?_
      refine aZ (λ c63=>?_) (λ c63=>?_)
      ·refine hZ ?_;refine mD ?_;refine xY ?_;refine J1 ?_
       refine aQ Tryz.results126 (λ w hw=>?_)
       refine⟨_,rfl,?_,hw.done⟩
       (simp_all[cC];omega)
      ·refine lP ?_
       refine aZ (λ c70=>?_) (λ c70=>?_)
       ·refine hZ ?_;refine dJ ?_;refine nT ?_;refine aA ?_
        (refine dX 76 (λ g76=>?_) (λ g76=>?_)<;>(first|refine aI ?_|(refine aE ?_;refine aF ?_)))
        all_goals ((first|refine aI ?_|(refine aE ?_;refine bP ?_));(first|refine aI ?_|(refine aE ?_;refine aD (c0 (V:=.bool) (hc:=λ w1 hw=>mE (hw.cl fin) hr.prS)) (λ x79 h79=>?_)));refine bY ?_;refine aA ?_)
        all_goals (first|refine aI ?_|(refine dX 81 (λ g81=>?_) (λ g81=>?_)<;>(first|refine aI ?_|(refine aE ?_;refine aF ?_))))
        all_goals ((first|refine aI ?_|(refine aE ?_;refine bP ?_));(first|refine aI ?_|(refine aE ?_;refine aD (c0 (V:=.bool) (hc:=λ w1 hw=>Yg (hw.cl fin) hr.prS)) (λ x84 h84=>?_)));refine bY ?_;refine J1 ?_)
        all_goals
        refine aQ Tryz.results126 (λ w hw=>?_)
        refine⟨_,rfl,?_,hw.done⟩
        (simp_all[cC];done)
       ·refine lP ?_
        refine aZ (λ c86=>?_) (λ c86=>?_)
        ·refine hZ ?_;refine nT ?_;refine J1 ?_
         refine aQ Tryz.results126 (λ w hw=>?_)
         refine⟨_,rfl,?_,hw.done⟩
         (simp_all[cC];done)
        ·refine lP ?_
         refine aZ (λ c91=>?_) (λ c91=>?_)
         ·refine hZ ?_;refine nT ?_;refine aA ?_
          (refine dX 96 (λ g96=>?_) (λ g96=>?_)<;>(first|refine aI ?_|(refine aE ?_;refine aF ?_)))
          all_goals (refine J86 ?_;refine bY ?_;refine aA ?_)
          all_goals (first|refine aI ?_|(refine dX 101 (λ g101=>?_) (λ g101=>?_)<;>(first|refine aI ?_|(refine aE ?_;refine aF ?_))))
          all_goals (refine J86 ?_;refine bY ?_;refine J1 ?_)
          all_goals
          refine aQ Tryz.results126 (λ w hw=>?_)
          refine⟨_,rfl,?_,hw.done⟩
          (simp_all[cC];done)
         ·refine oP ?_;refine cP ?_
          refine aQ Tryz.results126 (λ w hw=>?_)
          refine⟨_,rfl,?_,hw.done⟩
          (simp_all[cC];done)
     ·refine dI ?_;refine Qs ?_
      refine aZ (λ c63=>?_) (λ c63=>?_)
      ·refine hZ ?_;refine mD ?_;refine xY ?_;refine J1 ?_
       refine aQ Tryz.results126 (λ w hw=>?_)
       refine⟨_,rfl,?_,hw.done⟩
       (simp_all[cC];omega)
      ·refine lP ?_
       refine aZ (λ c70=>?_) (λ c70=>?_)
       ·refine hZ ?_;refine dJ ?_;refine nT ?_;refine aA ?_
        (refine dX 76 (λ g76=>?_) (λ g76=>?_)<;>(first|refine aI ?_|(refine aE ?_;refine aF ?_)))
        all_goals ((first|refine aI ?_|(refine aE ?_;refine bP ?_));(first|refine aI ?_|(refine aE ?_;refine aD (c0 (V:=.bool) (hc:=λ w1 hw=>mE (hw.cl fin) hr.prS)) (λ x79 h79=>?_)));refine bY ?_;refine aA ?_)
        all_goals (first|refine aI ?_|(refine dX 81 (λ g81=>?_) (λ g81=>?_)<;>(first|refine aI ?_|(refine aE ?_;refine aF ?_))))
        all_goals ((first|refine aI ?_|(refine aE ?_;refine bP ?_));(first|refine aI ?_|(refine aE ?_;refine aD (c0 (V:=.bool) (hc:=λ w1 hw=>Yg (hw.cl fin) hr.prS)) (λ x84 h84=>?_)));refine bY ?_;refine J1 ?_)
        all_goals
        refine aQ Tryz.results126 (λ w hw=>?_)
        refine⟨_,rfl,?_,hw.done⟩
        first|(simp_all[cC];done)|(simp_all[cC];omega)
       ·refine lP ?_
        refine aZ (λ c86=>?_) (λ c86=>?_)
        ·refine hZ ?_;refine nT ?_;refine J1 ?_
         refine aQ Tryz.results126 (λ w hw=>?_)
         refine⟨_,rfl,?_,hw.done⟩
         (simp_all[cC];done)
        ·refine lP ?_
         refine aZ (λ c91=>?_) (λ c91=>?_)
         ·refine hZ ?_;refine nT ?_;refine aA ?_
          (refine dX 96 (λ g96=>?_) (λ g96=>?_)<;>(first|refine aI ?_|(refine aE ?_;refine aF ?_)))
          all_goals (refine J86 ?_;refine bY ?_;refine aA ?_)
          all_goals (first|refine aI ?_|(refine dX 101 (λ g101=>?_) (λ g101=>?_)<;>(first|refine aI ?_|(refine aE ?_;refine aF ?_))))
          all_goals (refine J86 ?_;refine bY ?_;refine J1 ?_)
          all_goals
          refine aQ Tryz.results126 (λ w hw=>?_)
          refine⟨_,rfl,?_,hw.done⟩
          first|(simp_all[cC];done)|(simp_all[cC];omega)
         ·refine oP ?_;refine cP ?_
          refine aQ Tryz.results126 (λ w hw=>?_)
          refine⟨_,rfl,?_,hw.done⟩
          (simp_all[cC];omega)
end

/- Branches: what Lookup and Sole compute. -/
end Go.Proofs.YtbajmaoegmbfgaaGreat
namespace Go.Ct
section
open Go Go.RowKit
end
end Go.Ct
namespace Go.Proofs.YtbajmaoegmbfgaaGreat
section
open Go.RowKit Go.Ct
def CV(n:Nd)(xs:List Int)(ys:List Pr):Prop:=n.kind=3/\cC n xs ys
theorem CV.bv{n:Nd}{xs:List Int}{ys:List Pr}{b:Nat}(h:CV n xs ys)(hb:n.bm=(b:Int))(hb2:b<18446744073709551616):BV b xs:=by
 obtain⟨h1,h2⟩:=pY h.1 h.2
 rw[hb,pC hb2] at h1
 exact⟨hb2,by omega,h2⟩
open Classical in
noncomputable def Kh (n:Nd) (xs:List Int) (ys:List Pr) (b:Nat) (i:Int):Option Int:=if CV n xs ys/\pP b i=true then some (xs.getD (rB b i) 0) else none
open Classical in
noncomputable def j1 (n:Nd) (xs:List Int) (ys:List Pr):Option Int:=if CV n xs ys/\xs.length=1 then some (xs.getD 0 0) else none
theorem rT{b:Nat}{i:Int}(h:pP b i=true):0<=i/\i<64/\b.testBit i.toNat=true/\rB b i=gJ b i.toNat:=by
 simp only[pP,Bool.and_eq_true,decide_eq_true_eq] at h
 exact⟨h.1,h.2.1,h.2.2,by unfold rB;congr 1;omega⟩
theorem zw{b:Nat}{xs:List Int}(h:BV b xs){i:Int}(hh:pP b i=true):rB b i<xs.length:=by
 obtain⟨h1,h2,h3,h4⟩:=rT hh
 rw[h4,h.len]
 exact oH (by omega) h3
section
variable{n:Nd}{xs:List Int}{ys:List Pr}{w:World}{b:Nat}
theorem fo(hb:n.bm=(b:Int))(hb2:b<18446744073709551616)(hr:rX w n xs ys):Calls Tryz.prog 243 #[n.v] w λ e w'=>∃r:Bool,e=.returned (.bool r)/\(r=true↔CV n xs ys)/\St w [] [] w':=by
 refine enter Tryz.func243 Tryz.ntmps243 rfl rfl (SF.s0 w) ?_
 simp only[cD]
 simp only[Nd.v,Nd.cells]
 refine J0 ?_;refine bK (λ x1=>?_);refine J1 ?_;refine hZ ?_;refine lK ?_;refine aA ?_
 (refine dX 6 (λ g6=>?_) (λ g6=>?_)<;>(first|refine aI ?_|(refine aE ?_;refine bP ?_)))
 all_goals ((first|refine aI ?_|(refine aE ?_;refine aD (c0 (V:=.bool) (hc:=λ w1 hw=>zE (n:=n) hb hb2 (hr.fW hw.done))) (λ x8 h8=>?_)));refine bY ?_;refine J1 ?_)
 all_goals
 refine aQ Tryz.results243 (λ w hw=>?_)
 refine⟨_,rfl,?_,hw.done⟩
 simp_all[CV]
theorem nZ(i:Int)(hb:n.bm=(b:Int))(hb2:b<18446744073709551616)(hr:rX w n xs ys):Calls Tryz.prog 216 #[n.v,.int .i64 i] w λ e w'=>e=.returned (.tuple #[.int .i64 ((Kh n xs ys b i).getD 0),.bool (Kh n xs ys b i).isSome])/\St w [] [] w':=by
 have e1:=hr.brN
 refine enter Tryz.func216 Tryz.ntmps216 rfl rfl (SF.s2 hr.br hr.pr) ?_
 simp only[cD]
 simp only[Nd.v,Nd.cells,hb,e1]
 refine J0 ?_;refine bK (λ x2=>?_);refine J8 ?_;refine aS ?_;refine oC ?_;refine aD (c0 (V:=.bool) (hc:=λ w1 hw=>by rw[<- e1,<- hb];exact fo (n:=n) hb hb2 (hr.fW hw.done))) (λ x7 h7=>?_);refine Cb ?_
 (refine dX 9 (λ g9=>?_) (λ g9=>?_)<;>(first|refine aI ?_|(refine aE ?_;refine aF ?_)))
 all_goals (refine fv ?_;(first|refine aI ?_|(refine aE ?_;refine aN (cV (hc:=λ w1 hw=>Et hb2 i w1)) (λ x13=>?_)));refine Mv ?_;refine aH ?_)
 all_goals
 refine aZ (λ c15=>?_) (λ c15=>?_)
 ·all_goals refine P2 ?_
  all_goals
   refine aY Tryz.results216 (λ w hw=>?_)
   rw[show Kh n xs ys b i=none from if_neg (by simp_all)];exact⟨rfl,hw.done⟩
 ·try exact nv c15
  all_goals
   have hcv:CV n xs ys:=h7.1 (by simpa using g9)
   have hpl:=zw (hcv.bv hb hb2) c15
  all_goals (refine kK ?_;refine dZ [(0,[]),(1,[]),(2,[]),(3,[]),(4,[]),(5,[1]),(6,[]),(7,[]),(8,[]),(9,[])] ?_;refine mI ?_;refine mI ?_;refine aT ?_;refine cL (i:=5) (hq:=(cV (hc:=λ w1 hw=>Pw hb2 i w1))) (h:=λ x21=>?_);refine Rr ?_;refine Qp ?_)
  all_goals
   refine aY Tryz.results216 (λ w hw=>?_)
   rw[show Kh n xs ys b i=some (xs.getD (rB b i) 0) from if_pos ⟨hcv,c15⟩];exact⟨rfl,hw.done⟩
theorem Io(hb:n.bm=(b:Int))(hb2:b<18446744073709551616)(hr:rX w n xs ys):Calls Tryz.prog 245 #[n.v] w λ e w'=>e=.returned (.tuple #[.int .i64 ((j1 n xs ys).getD 0),.bool (j1 n xs ys).isSome])/\St w [] [] w':=by
 have e1:=hr.brN
 refine enter Tryz.func245 Tryz.ntmps245 rfl rfl (SF.s2 hr.br hr.pr) ?_
 simp only[cD]
 simp only[Nd.v,Nd.cells,e1]
 refine J0 ?_;refine bK (λ x1=>?_);refine J8 ?_;refine aS ?_;refine oC ?_;refine aD (c0 (V:=.bool) (hc:=λ w1 hw=>by rw[<- e1];exact fo (n:=n) hb hb2 (hr.fW hw.done))) (λ x5 h5=>?_);refine Cb ?_
 (refine dX 7 (λ g7=>?_) (λ g7=>?_)<;>(first|refine aI ?_|(refine aE ?_;refine aF ?_)))
 all_goals ((first|refine aI ?_|(refine aE ?_;refine bP ?_));(first|refine aI ?_|(refine aE ?_;refine dJ ?_));refine Q9 ?_;refine aH ?_)
 all_goals
 refine aZ (λ c12=>?_) (λ c12=>?_)
 ·all_goals refine P2 ?_
  all_goals
   refine aY Tryz.results245 (λ w hw=>?_)
   rw[show j1 n xs ys=none from if_neg (by simp_all;try omega)];exact⟨rfl,hw.done⟩
 ·try exact nv c12
  all_goals
   have hcv:CV n xs ys:=h5.1 (by simpa using g7)
   have hl1:xs.length=1:=by omega
  all_goals (refine aX ?_;refine hZ ?_;refine aC (dE (k:=0) rf rf gA fR fin (by omega) (by omega)) rfl ?_;refine bP ?_;refine J8 ?_)
  all_goals
   refine aY Tryz.results245 (λ w hw=>?_)
   rw[show j1 n xs ys=some (xs.getD 0 0) from if_pos ⟨hcv,hl1⟩];exact⟨rfl,hw.done⟩
end
end

/- Branches: a C-node of a bitmap and a list. -/
section
open Go.RowKit Go.Ct
def cn(b:Nat)(xs:List Int)(x:Option Addr×Nat):Nd:={Nd.zero with kind:=3,bm:=(b:Int),brA:=x.1,brN:=xs.length,brC:=x.2}
theorem aAc{b:Nat}{xs:List Int}(h:BV b xs)(x:Option Addr×Nat){p:Int}(hp:0<=p):CV {cn b xs x with prev:=p} xs [] :=
 ⟨rfl,by simp[rK,Nd.own,Nd.jX,Nd.jB,cn],by simp[cn,Nd.zero],hp,by simp[cn,Nd.zero],.inr (.inr (.inl ⟨rfl,by show(xs.length:Int)=yH (b:Int);rw[pC h.lt,h.len],h.pos⟩))⟩
theorem uf{b:Nat}{xs:List Int}(h:BV b xs)(x:Option Addr×Nat):CV (cn b xs x) xs []:=aAc h x (p:=0) (Int.le_refl _)
end

/- Nodes are made; lists are copied. -/
section
open Go.RowKit Go.Ct
theorem jg(o:Int)(w:World):Calls Tryz.prog 202 #[.int .i64 o] w λ e w'=>e=.returned ({Nd.zero with kind:=7,bJ:=o}:Nd).v/\St w [] [] w':=by
 refine enter Tryz.func202 Tryz.ntmps202 rfl rfl (SF.s0 w) ?_
 simp only[cD]
 refine J0 ?_;refine aJ (λ x2=>?_);refine aH ?_;refine J2 ?_;refine vL ?_
 refine aY Tryz.results202 (λ w hw=>?_)
 exact⟨rfl,hw.done⟩
theorem SF.frz{w w':World}{F:Fr}{o:Ow}(h:SF w [] [] [] F [o] w'):SF w [] [] [] ((o.p,o.cs)::F) [] w':=h.freeze .head (by simp)
theorem SF.aBk{w w':World}{F:Fr}{o o2:Ow}(h:SF w [] [] [] F [o,o2] w'):SF w [] [] [] ((o2.p,o2.cs)::(o.p,o.cs)::F) [] w':=(h.freeze .head (by simp)).freeze .head (by simp)
theorem Rn:xI Tryz.prog 164 24=true:=by kernel_rfl
theorem Xt:xI Tryz.prog 37 8=true:=by kernel_rfl
theorem Xf{l:List Pr}{a:Option Addr}{c:Nat}{w:World}(ha:Cl w a (cR l))(hl:l.length<=11728124029610):Calls Tryz.prog 124 #[.slice a l.length c] w λ e w' =>
  ∃p:Option Addr,e=.returned (.slice p l.length l.length)/\(l=[]->p=none)/\SF w [] [] [] [] [⟨p,cR l,l.length,164,2⟩] w':=by
 refine enter Tryz.func124 Tryz.ntmps124 rfl rfl (SF.s1 ha) ?_
 simp only[cD]
 refine cP ?_;refine kX ?_;refine dJ ?_;refine sH ?_
 refine aZ (λ c6=>?_) (λ c6=>?_)
 ·have hl0:l=[]:=List.eq_nil_of_length_eq_zero (by omega)
  subst hl0
  refine cP ?_
  refine aQ Tryz.results124 (λ w hw=>?_)
  exact⟨none,rfl,λ _=>rfl,(hw.kH 164 2).aV⟩
 ·refine aX ?_;refine J2 ?_;refine dJ ?_;refine aN (bh rf rf sk Rn om om) (λ x9=>?_);refine zI ?_;refine ag (λ x12=>?_);refine aH ?_;refine J2 ?_;refine J1 ?_
  refine aQ Tryz.results124 (λ w hw=>?_)
  exact⟨some ⟨x9,0,none⟩,rfl,λ h=>absurd (congrArg List.length h) (by simpa using c6),by simpa using hw.aV (H':=[]) (F':=[])⟩
theorem Xm{l:List Int}{a:Option Addr}{c:Nat}{w:World}(ha:Cl w a (aG l))(hl:l.length<=35184372088832):Calls Tryz.prog 123 #[.slice a l.length c] w λ e w' =>
  ∃p:Option Addr,e=.returned (.slice p l.length l.length)/\(l=[]->p=none)/\SF w [] [] [] [] [⟨p,aG l,l.length,37,1⟩] w':=by
 refine enter Tryz.func123 Tryz.ntmps123 rfl rfl (SF.s1 ha) ?_
 simp only[cD]
 refine cP ?_;refine kX ?_;refine dJ ?_;refine sH ?_
 refine aZ (λ c6=>?_) (λ c6=>?_)
 ·have hl0:l=[]:=List.eq_nil_of_length_eq_zero (by omega)
  subst hl0
  refine cP ?_
  refine aQ Tryz.results123 (λ w hw=>?_)
  exact⟨none,rfl,λ _=>rfl,(hw.kH 37 1).aV⟩
 ·refine aX ?_;refine J2 ?_;refine dJ ?_;refine aN (dq rf rf Yd Xt om om) (λ x9=>?_);refine zI ?_;refine ag (λ x12=>?_);refine aH ?_;refine J2 ?_;refine J1 ?_
  refine aQ Tryz.results123 (λ w hw=>?_)
  exact⟨some ⟨x9,0,none⟩,rfl,λ h=>absurd (congrArg List.length h) (by simpa using c6),by simpa using hw.aV (H':=[]) (F':=[])⟩
theorem Vv{n:Nd}{xs:List Int}{ys:List Pr}{w:World}(hr:rX w n xs ys)(h1:xs.length<=35184372088832)(h2:ys.length<=11728124029610):Calls Tryz.prog 78 #[n.v] w λ e w' =>
  ∃p:Option Addr×Option Addr,e=.returned ({n with brA:=p.1,brC:=xs.length,prA:=p.2,cR:=ys.length}:Nd).v/\((xs=[]->p.1=none)/\(ys=[]->p.2=none))/\SF w [] [] [] [] [⟨p.2,cR ys,ys.length,164,2⟩,⟨p.1,aG xs,xs.length,37,1⟩] w':=by
 have e1:=hr.brN;have e2:=hr.prN
 refine enter Tryz.func78 Tryz.ntmps78 rfl rfl (SF.s2 hr.br hr.pr) ?_
 simp only[cD]
 simp only[Nd.v,Nd.cells]
 refine J0 ?_;refine bK (λ x1=>?_);refine aJ (λ x2=>?_);refine aH ?_;refine hZ ?_;refine aD (Rb (Hc:=λ _=>[]) (Fc:=λ _=>[]) (hc:=λ w1 hw=>by rw[e1];exact Xm (hw.cl fin) h1)) (λ x5 h5=>?_);refine uS ?_;refine hZ ?_;refine aD (Rb (Hc:=λ _=>[]) (Fc:=λ _=>[]) (hc:=λ w1 hw=>by rw[e2];exact Xf (hw.cl fin) h2)) (λ x9 h9=>?_);refine uS ?_;refine oC ?_;refine J5 ?_
 refine aY Tryz.results78 (λ w hw=>?_)
 exact⟨(x5,x9),by rw[e1,e2];rfl,⟨h5,h9⟩,hw.aV⟩
theorem U8{n:Nd}{xs:List Int}{ys:List Pr}{w:World}(hr:rX w n xs ys)(h1:xs.length<=35184372088832)(h2:ys.length<=11728124029610):Calls Tryz.prog 78 #[n.v] w λ e w' =>
  ∃p:Option Addr×Option Addr,e=.returned ({n with brA:=p.1,brC:=xs.length,prA:=p.2,cR:=ys.length}:Nd).v/\((xs=[]->p.1=none)/\(ys=[]->p.2=none))/\SF w [] [] [] [(p.1,aG xs),(p.2,cR ys)] [] w':=(Vv hr h1 h2).mono λ _ _ ⟨p,he,hp,hs⟩=>⟨p,he,hp,SF.aBk hs⟩
end

end Go.Proofs.YtbajmaoegmbfgaaGreat
