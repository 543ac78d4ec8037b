/- C-nodes are maps: the plain laws. -/
import Derived.Test.YtbajmaoegmbfgaaGreatGPaX
import Derived.Test.YtbajmaoegmbfgaaGreatAuto

set_option linter.unusedSimpArgs false
set_option linter.unusedVariables false
namespace Go.Ct
section
open Go Go.RowKit
def sX(b:Nat)(xs:List Int)(k:Nat):Option Int:=if b.testBit k=true then some (xs.getD (gW b k) 0) else none
def A7(m:Nat->Option Int):Nat->Nat
 | 0=>0
 | k+1=>if(m k).isSome=true then A7 m k ||| 2^k else A7 m k
def rG(m:Nat->Option Int):Nat->List Int
 | 0=>[]
 | k+1=>rG m k++(m k).toList
def Me(m:Nat->Option Int)(i:Nat)(o:Option Int)(k:Nat):Option Int:=if k=i then o else m k
structure BV(b:Nat)(xs:List Int):Prop where
 lt:b<18446744073709551616
 len:xs.length=gW b 64
 pos:∀i,i<xs.length->1<=xs.getD i 0
theorem Vd(m:Nat->Option Int)(j:Nat):∀k,(A7 m k).testBit j=(decide (j<k)&&(m j).isSome)
 | 0=>by simp[A7]
 | k+1=>by
  have ih:=Vd m j k
  simp only[A7]
  by_cases hjk:j=k
  ·subst hjk
   by_cases h:(m j).isSome=true
   ·rw[if_pos h,Nat.testBit_or,Nat.testBit_two_pow];simp[h]
   ·rw[if_neg h,ih];simp at h;simp[h]
  ·have h2:(2^k).testBit j=false:=by rw[Nat.testBit_two_pow];exact decide_eq_false (λ h=>hjk h.symm)
   split
   ·rw[Nat.testBit_or,ih,h2,Bool.or_false]
    congr 1
    exact decide_eq_decide.2 (by omega)
   ·rw[ih]
    congr 1
    exact decide_eq_decide.2 (by omega)
theorem gi(m:Nat->Option Int):∀k,A7 m k<2^k
 | 0=>by simp[A7]
 | k+1=>by
  have ih:=gi m k
  have h2:2^(k+1)=2^k+2^k:=by rw[Nat.pow_succ];omega
  simp only[A7]
  split
  ·refine Nat.or_lt_two_pow (by omega) ?_
   have:=Nat.two_pow_pos k
   omega
  ·omega
theorem B9{xs:List Int}{i:Nat}(h:i<xs.length):xs.getD i 0∈xs:=by
 rw[lB,List.getElem?_eq_getElem h]
 exact List.getElem_mem h
theorem N8{m m':Nat->Option Int}:∀n,(∀k,k<n->m k=m' k)->A7 m n=A7 m' n/\rG m n=rG m' n
 | 0,_=>⟨rfl,rfl⟩
 | n+1,h=>by
  obtain⟨h1,h2⟩:=N8 n λ k hk=>h k (by omega)
  simp only[A7,rG,h1,h2,h n (by omega),and_self]
theorem vO(b:Nat)(k:Nat):∀d,gW b k<=gW b (k+d)
 | 0=>Nat.le_refl _
 | d+1=>by have:=vO b k d;rw[<- Nat.add_assoc];simp only[gW];omega
theorem oG{b k n:Nat}(h:k<n)(hb:b.testBit k=true):gW b k<gW b n:=by
 obtain⟨d,rfl⟩:=Nat.exists_eq_add_of_le (Nat.succ_le_of_lt h)
 have:=vO b (k+1) d
 simp only[gW,hb,if_true] at this
 exact this
theorem Vb{b:Nat}{xs:List Int}(h:xs.length=gW b 64):∀k,k<=64->rG (sX b xs) k=xs.take (gW b k)
 | 0,_=>by simp[rG,gW]
 | k+1,hk=>by
  have ih:=Vb h k (by omega)
  simp only[rG,ih,sX,gW]
  split
  ·rename_i hb
   have:=oG (n:=64) (by omega) hb
   rw[List.take_add_one,Option.toList,lB,List.getElem?_eq_getElem (by omega)]
   rfl
  ·simp
theorem X0{b:Nat}{xs:List Int}(h:BV b xs):A7 (sX b xs) 64=b/\rG (sX b xs) 64=xs:=by
 refine⟨Nat.eq_of_testBit_eq λ j=>?_,?_⟩
 ·rw[Vd]
  by_cases hj:j<64
  ·rw[decide_eq_true hj,Bool.true_and]
   unfold sX
   cases hb:b.testBit j<;>simp
  ·rw[decide_eq_false hj,Bool.false_and]
   exact(Nat.testBit_lt_two_pow (Nat.lt_of_lt_of_le h.lt (Nat.pow_le_pow_right (n:=2) (by decide) (show 64<=j by omega)))).symm
 ·rw[Vb h.len 64 (Nat.le_refl _),<- h.len,List.take_length]
theorem Ay{b b' i:Nat}(h:b.testBit i=false)(hb:∀j,j<64->b'.testBit j=(b.testBit j||decide (j=i))):∀k,k<=64->gW b' k=gW b k+if i<k then 1 else 0
 | 0,_=>rfl
 | k+1,hk=>by
  have ih:=Ay h hb k (by omega)
  simp only[gW,ih,hb k (by omega)]
  by_cases hki:k=i
  ·subst hki
   simp[h]
  ·have:decide (k=i)=false:=decide_eq_false hki
   rw[this,Bool.or_false]
   have e:(i<k+1)↔(i<k):=by omega
   simp only[e]
   omega
def wC(xs:List Int)(p:Nat)(r:Int):List Int:=xs.take p++r::xs.drop p
def zA(xs:List Int)(p:Nat)(r:Int):List Int:=xs.take p++r::xs.drop (p+1)
def sD(xs:List Int)(p:Nat):List Int:=xs.take p++xs.drop (p+1)
theorem En{xs:List Int}{p:Nat}(hp:p<=xs.length)(r:Int):(wC xs p r).length=xs.length+1:=by
 simp[wC];omega
theorem vV{xs:List Int}{p:Nat}(hp:p<xs.length)(r:Int):(zA xs p r).length=xs.length:=by
 simp[zA];omega
theorem Ec{xs:List Int}{p:Nat}(hp:p<xs.length):(sD xs p).length+1=xs.length:=by
 simp[sD];omega
theorem Uc{xs:List Int}{p:Nat}(hp:p<=xs.length)(r:Int)(q:Nat):(wC xs p r).getD q 0=if q<p then xs.getD q 0 else if q=p then r else xs.getD (q-1) 0:=by
 simp only[wC,lB]
 by_cases h1:q<p
 ·rw[if_pos h1,List.getElem?_append_left (by simp;omega),List.getElem?_take_of_lt h1]
 ·rw[if_neg h1,List.getElem?_append_right (by simp;omega)]
  have:(xs.take p).length=p:=by simp;omega
  rw[this]
  by_cases h2:q=p
  ·subst h2;simp
  ·obtain⟨d,hd⟩:∃d,q-p=d+1:=⟨q-p-1,by omega⟩
   rw[if_neg h2,hd,List.getElem?_cons_succ,List.getElem?_drop]
   congr 2
   omega
theorem Kn{xs:List Int}{p:Nat}(hp:p<xs.length)(r:Int)(q:Nat):(zA xs p r).getD q 0=if q=p then r else xs.getD q 0:=by
 simp only[zA,lB]
 by_cases h1:q<p
 ·rw[if_neg (by omega),List.getElem?_append_left (by simp;omega),List.getElem?_take_of_lt h1]
 ·rw[List.getElem?_append_right (by simp;omega)]
  have:(xs.take p).length=p:=by simp;omega
  rw[this]
  by_cases h2:q=p
  ·subst h2;simp
  ·obtain⟨d,hd⟩:∃d,q-p=d+1:=⟨q-p-1,by omega⟩
   rw[if_neg h2,hd,List.getElem?_cons_succ,List.getElem?_drop]
   congr 2
   omega
theorem Uq{xs:List Int}{p:Nat}(hp:p<xs.length)(q:Nat):(sD xs p).getD q 0=if q<p then xs.getD q 0 else xs.getD (q+1) 0:=by
 simp only[sD,lB]
 by_cases h1:q<p
 ·rw[if_pos h1,List.getElem?_append_left (by simp;omega),List.getElem?_take_of_lt h1]
 ·rw[if_neg h1,List.getElem?_append_right (by simp;omega)]
  have:(xs.take p).length=p:=by simp;omega
  rw[this,List.getElem?_drop]
  congr 2
  omega
theorem Bd{xs ys:List Int}(h:∀i,i<xs.length->1<=xs.getD i 0)(hy:∀j,j<ys.length->1<=ys.getD j 0∨∃i,i<xs.length/\ys.getD j 0=xs.getD i 0):∀j,j<ys.length->1<=ys.getD j 0:=λ j hj=>by
 rcases hy j hj with h1|⟨i,hi,he⟩
 ·exact h1
 ·rw[he];exact h i hi
section
variable{b i:Nat}{xs:List Int}{r:Int}
theorem zT(b i:Nat)(j:Nat):(b ||| 2^i).testBit j=(b.testBit j||decide (j=i)):=by
 rw[Nat.testBit_or,Nat.testBit_two_pow]
 congr 1
 exact decide_eq_decide.2 eq_comm
theorem uX(b i:Nat)(j:Nat):(b ^^^ (b &&& 2^i)).testBit j=(b.testBit j&&!decide (j=i)):=by
 rw[Nat.testBit_xor,Nat.testBit_and,Nat.testBit_two_pow]
 have:decide (i=j)=decide (j=i):=decide_eq_decide.2 eq_comm
 rw[this]
 cases b.testBit j<;>cases decide (j=i)<;>rfl
theorem E0(h:BV b xs)(hi:i<64)(hb:b.testBit i=false)(hr:1<=r):BV (b ||| 2^i) (wC xs (gW b i) r)/\∀k,k<64->sX (b ||| 2^i) (wC xs (gW b i) r) k=Me (sX b xs) i (some r) k:=by
 have hc:=Ay hb (λ j _=>zT b i j)
 have hp:gW b i<=xs.length:=by
  obtain⟨d,hd⟩:=Nat.exists_eq_add_of_le (Nat.le_of_lt hi)
  rw[h.len,hd]
  exact vO b i d
 refine⟨⟨Nat.or_lt_two_pow (n:=64) h.lt (Nat.pow_lt_pow_right (a:=2) (by decide) hi),?_,Bd h.pos λ j hj=>?_⟩,λ k hk=>?_⟩
 ·rw[En hp,hc 64 (Nat.le_refl _),if_pos hi,h.len]
 ·rw[En hp] at hj
  rw[Uc hp]
  by_cases h1:j<gW b i
  ·rw[if_pos h1];exact .inr ⟨j,by omega,rfl⟩
  ·rw[if_neg h1]
   by_cases h2:j=gW b i
   ·rw[if_pos h2];exact .inl hr
   ·rw[if_neg h2];exact .inr ⟨j-1,by omega,rfl⟩
 ·simp only[sX,Me]
  rw[zT,hc k (by omega),Uc hp]
  by_cases hki:k=i
  ·subst hki;simp
  ·rw[if_neg hki,decide_eq_false hki,Bool.or_false]
   by_cases hbk:b.testBit k=true
   ·rw[if_pos hbk,if_pos hbk]
    congr 1
    by_cases hlt:k<i
    ·have:=oG hlt hbk
     rw[if_neg (show ¬i<k by omega),if_pos (by omega)]
     rfl
    ·have:gW b i<=gW b k:=by
      obtain⟨d,hd⟩:=Nat.exists_eq_add_of_le (show i<=k by omega)
      rw[hd];exact vO b i d
     rw[if_pos (show i<k by omega),if_neg (by omega),if_neg (by omega)]
     rfl
   ·rw[if_neg hbk,if_neg hbk]
theorem Sb(h:BV b xs)(hi:i<64)(hb:b.testBit i=true)(hr:1<=r):BV b (zA xs (gW b i) r)/\∀k,k<64->sX b (zA xs (gW b i) r) k=Me (sX b xs) i (some r) k:=by
 have hp:gW b i<xs.length:=by rw[h.len];exact oG hi hb
 refine⟨⟨h.lt,by rw[vV hp,h.len],Bd h.pos λ j hj=>?_⟩,λ k hk=>?_⟩
 ·rw[vV hp] at hj
  rw[Kn hp]
  by_cases h2:j=gW b i
  ·rw[if_pos h2];exact .inl hr
  ·rw[if_neg h2];exact .inr ⟨j,hj,rfl⟩
 ·simp only[sX,Me]
  rw[Kn hp]
  by_cases hki:k=i
  ·subst hki;rw[if_pos hb,if_pos rfl,if_pos rfl]
  ·rw[if_neg hki]
   by_cases hbk:b.testBit k=true
   ·rw[if_pos hbk,if_pos hbk,if_neg]
    rcases Nat.lt_or_gt_of_ne hki with hlt|hlt
    ·have:=oG hlt hbk;omega
    ·have:=oG hlt hb;omega
   ·rw[if_neg hbk,if_neg hbk]
theorem Qv(h:BV b xs)(hi:i<64)(hb:b.testBit i=true):BV (b ^^^ (b &&& 2^i)) (sD xs (gW b i))/\∀k,k<64->sX (b ^^^ (b &&& 2^i)) (sD xs (gW b i)) k=Me (sX b xs) i none k:=by
 have hp:gW b i<xs.length:=by rw[h.len];exact oG hi hb
 have hb':(b ^^^ (b &&& 2^i)).testBit i=false:=by rw[uX];simp
 have hc:=Ay (b':=b) hb' (λ j _=>by
  rw[uX]
  by_cases hji:j=i
  ·subst hji;simp[hb]
  ·rw[decide_eq_false hji];simp)
 refine⟨⟨Nat.xor_lt_two_pow (n:=64) h.lt (Nat.lt_of_le_of_lt Nat.and_le_left h.lt),?_,Bd h.pos λ j hj=>?_⟩,λ k hk=>?_⟩
 ·have:=Ec hp
  have:=hc 64 (Nat.le_refl _)
  rw[if_pos hi] at this
  have:=h.len
  omega
 ·have:=Ec hp
  rw[Uq hp]
  by_cases h1:j<gW b i
  ·rw[if_pos h1];exact .inr ⟨j,by omega,rfl⟩
  ·rw[if_neg h1];exact .inr ⟨j+1,by omega,rfl⟩
 ·simp only[sX,Me]
  have hck:=hc k (by omega)
  rw[uX,Uq hp]
  by_cases hki:k=i
  ·subst hki;simp
  ·rw[if_neg hki,decide_eq_false hki,Bool.not_false,Bool.and_true]
   by_cases hbk:b.testBit k=true
   ·rw[if_pos hbk,if_pos hbk]
    congr 1
    by_cases hlt:k<i
    ·have:=oG hlt hbk
     rw[if_neg (show ¬i<k by omega)] at hck
     rw[if_pos (by omega),hck]
     rfl
    ·have:=oG (show i<k by omega) hb
     rw[if_pos (show i<k by omega)] at hck
     rw[if_neg (by omega),hck]
   ·rw[if_neg hbk,if_neg hbk]
end
end

/- What is known of a list, in short. -/
section
open Go Go.RowKit
variable{w0 w:World}{M:List Nat}{H:List (Nat×Obj)}{A F:Fr}{O:List Ow}
end
end Go.Ct
namespace Go.Proofs.YtbajmaoegmbfgaaGreat
section
open Go.RowKit Go.Ct
theorem yP{n:Nd}{xs:List Int}{ys:List Pr}(h:n.kind=3)(hv:bI n xs ys):(xs.length:Int)=yI n.bm/\Pos xs:=by
 obtain⟨_,_,_,_,hv⟩:=hv
 rcases hv with h1|⟨h1,_⟩|⟨_,h2,h3⟩|⟨h1|h1,_⟩|⟨h1,_⟩|⟨h1,_⟩|⟨h1,_⟩
 all_goals first|exact⟨h2,h3⟩|(rw[h] at h1;exact absurd h1 (by decide))
end

/- The reference's Valid. -/
section
open Go.RowKit Go.Ct
theorem vc (n : Nd) (h1 : 1 ≤ n.kind) (h8 : n.kind ≤ 8) (w : World) : Calls Tryz.prog 169 #[n.v] w fun e w' => e = .returned n.own.v ∧ St w [] [] w' := by
  refine enter Tryz.func169 Tryz.ntmps169 rfl rfl (SF.s0 w) ?_
  simp only [cN]
  all_goals (refine J0 ?_; refine bW (fun x1 => ?_); refine aJ (fun x2 => ?_); refine aH ?_; refine Cs ?_; refine aH ?_; refine dE ?_; refine lR ?_)
  all_goals
   refine bG (fun c5 => ?_) (fun c5 => ?_)
   · all_goals (refine iZ ?_; refine wJ ?_)
     all_goals
      refine bE Tryz.results169 (fun w hw => ?_)
      first | (exfalso; omega) | exact ⟨by simp only [Nd.own, beq_iff_eq, *, if_true, if_false]; rfl, hw.done⟩
   · all_goals refine lR ?_
     all_goals
      refine bG (fun c10 => ?_) (fun c10 => ?_)
      · all_goals (refine iZ ?_; refine J3 ?_; refine J3 ?_; refine wJ ?_)
        all_goals
         refine bE Tryz.results169 (fun w hw => ?_)
         first | (exfalso; omega) | exact ⟨by simp only [Nd.own, beq_iff_eq, *, if_true, if_false]; rfl, hw.done⟩
      · all_goals refine lR ?_
        all_goals
         refine bG (fun c19 => ?_) (fun c19 => ?_)
         · all_goals (refine iZ ?_; refine J3 ?_; refine J3 ?_; refine J3 ?_; refine wJ ?_)
           all_goals
            refine bE Tryz.results169 (fun w hw => ?_)
            first | (exfalso; omega) | exact ⟨by simp only [Nd.own, beq_iff_eq, *, if_true, if_false]; rfl, hw.done⟩
         · all_goals refine lR ?_
           all_goals
            refine bG (fun c30 => ?_) (fun c30 => ?_)
            · all_goals (refine iZ ?_; refine J3 ?_; refine J3 ?_; refine J3 ?_; refine wJ ?_)
              all_goals
               refine bE Tryz.results169 (fun w hw => ?_)
               first | (exfalso; omega) | exact ⟨by simp only [Nd.own, beq_iff_eq, *, if_true, if_false]; rfl, hw.done⟩
            · all_goals refine lR ?_
              all_goals
               refine bG (fun c41 => ?_) (fun c41 => ?_)
               · all_goals (refine iZ ?_; refine J3 ?_; refine J3 ?_; refine J3 ?_; refine J3 ?_; refine wJ ?_)
                 all_goals
                  refine bE Tryz.results169 (fun w hw => ?_)
                  first | (exfalso; omega) | exact ⟨by simp only [Nd.own, beq_iff_eq, *, if_true, if_false]; rfl, hw.done⟩
               · all_goals refine lR ?_
                 all_goals
                  refine bG (fun c54 => ?_) (fun c54 => ?_)
                  · all_goals (refine iZ ?_; refine J3 ?_; refine J3 ?_; refine J3 ?_; refine wJ ?_)
                    all_goals
                     refine bE Tryz.results169 (fun w hw => ?_)
                     first | (exfalso; omega) | exact ⟨by simp only [Nd.own, beq_iff_eq, *, if_true, if_false]; rfl, hw.done⟩
                  · all_goals refine lR ?_
                    all_goals
                     refine bG (fun c65 => ?_) (fun c65 => ?_)
                     · all_goals (refine iZ ?_; refine J3 ?_; refine wJ ?_)
                       all_goals
                        refine bE Tryz.results169 (fun w hw => ?_)
                        first | (exfalso; omega) | exact ⟨by simp only [Nd.own, beq_iff_eq, *, if_true, if_false]; rfl, hw.done⟩
                     · all_goals refine lR ?_
                       all_goals
                        refine bG (fun c72 => ?_) (fun c72 => ?_)
                        · all_goals (refine iZ ?_; refine J3 ?_; refine J3 ?_; refine J3 ?_; refine J3 ?_; refine wJ ?_)
                          all_goals
                           refine bE Tryz.results169 (fun w hw => ?_)
                           first | (exfalso; omega) | exact ⟨by simp only [Nd.own, beq_iff_eq, *, if_true, if_false]; rfl, hw.done⟩
                        · all_goals (refine oD ?_; refine J0 ?_; refine wJ ?_)
                          all_goals
                           refine bE Tryz.results169 (fun w hw => ?_)
                           first | (exfalso; omega) | exact ⟨by simp only [Nd.own, beq_iff_eq, *, if_true, if_false]; rfl, hw.done⟩
theorem hZ{n:Nd}{xs:List Int}{ys:List Pr}(h:n.kind=3){k:Nat}(hk:k<xs.length)(hx:xs.getD k 0<1):false=true↔bI n xs ys:=by
 simp only[Bool.false_eq_true,false_iff]
 intro hv
 have:=(yP h hv).2 k hk
 omega
theorem jU{n:Nd}{xs:List Int}{ys:List Pr}{c:Int}(h:n.kind=3)(he:rP n n.own xs (n.kA xs) ys (n.jK ys))(h1:0<=n.main)(h2:0<=n.prev)(h3:0<=n.status)(eo:yI n.bm=c)(hp:Pos xs):((xs.length:Int)==c)=true↔bI n xs ys:=by
 rw[beq_iff_eq,<- eo]
 exact⟨λ hl=>⟨he,h1,h2,h3,.inr (.inr (.inl ⟨h,hl,hp⟩))⟩,λ hv=>(yP h hv).1⟩
theorem Gl{n:Nd}{xs:List Int}{ys:List Pr}{w:World}{b:Nat}(hb:n.bm=(b:Int))(hb2:b<18446744073709551616)(hr:rK w n xs ys) :
  Calls Tryz.prog 126 #[n.v] w λ e w'=>∃r:Bool,e=.returned (.bool r)/\(r=true↔bI n xs ys)/\St w [] [] w':=by
 have e1:=hr.brN;have e2:=hr.prN
 obtain⟨kind,gen,main,bm,brA,brN,brC,hash,key,val,prA,prN,prK,prev,bF,exp,new,status⟩:=n
 simp only at e1 e2 hb
 subst e1 e2 hb
 have eo:yI (b:Int)=((gW b 64:Nat):Int):=wV hb2
 have hxl:=hr.brS
 refine enter Tryz.func126 Tryz.ntmps126 rfl rfl (SF.s2 hr.br hr.pr) ?_
 simp only[cN]
 simp only[Nd.v,Nd.cells]
 all_goals (refine J0 ?_;refine bW (λ x1=>?_);refine jM ?_;refine aW ?_;refine dX [(0,[]),(1,[]),(2,[]),(3,[]),(4,[]),(5,[]),(6,[]),(7,[]),(8,[]),(9,[]),(10,[]),(11,[9]),(12,[]),(13,[]),(14,[]),(15,[]),(16,[]),(17,[]),(18,[]),(19,[]),(20,[]),(21,[]),(22,[]),(23,[]),(24,[]),(25,[]),(26,[]),(27,[]),(28,[]),(29,[])] ?_;refine nA ?_;refine Al ?_;refine aQ ?_)
 all_goals ((refine Xv 7 (λ g7=>?_) (λ g7=>?_)<;>(first|refine dL ?_|(refine aT ?_))))
 all_goals ((first|refine dL ?_|(refine bR ?_));(first|refine dL ?_|(refine aAk ?_));refine fK ?_;refine aQ ?_)
 all_goals (first|refine dL ?_|(refine Xv 12 (λ g12=>?_) (λ g12=>?_)<;>(first|refine dL ?_|(refine bR ?_))))
 all_goals ((first|refine dL ?_|(refine bR ?_));(first|refine dL ?_|(refine cL (i:=11) (hq:=(cV (hc:=λ w1 hw=>vc (⟨kind,gen,main,(b:Int),brA,xs.length,brC,hash,key,val,prA,ys.length,prK,prev,bF,exp,new,status⟩:Nd) (show(1:Int)<=kind by omega) (show kind<=8 by omega) w1))) (h:=λ x15=>?_)));(first|refine dL ?_|(refine bA (i:=12) (hq:=(c0 (V:=.bool) (hc:=λ w1 hw=>S7 (a:=(⟨kind,gen,main,(b:Int),brA,xs.length,brC,hash,key,val,prA,ys.length,prK,prev,bF,exp,new,status⟩:Nd)) (b:=((⟨kind,gen,main,(b:Int),brA,xs.length,brC,hash,key,val,prA,ys.length,prK,prev,bF,exp,new,status⟩:Nd)).own) (hr.gM hw.done) (hr.gM hw.done).own))) (h:=λ x16 h16=>?_)));(first|refine dL ?_|(refine G6 ?_));refine fK ?_;refine aQ ?_)
 all_goals (first|refine dL ?_|(refine Xv 19 (λ g19=>?_) (λ g19=>?_)<;>(first|refine dL ?_|(refine aT ?_))))
 all_goals ((first|refine dL ?_|(refine bR ?_));(first|refine dL ?_|(refine Al ?_));refine fK ?_;refine aQ ?_)
 all_goals (first|refine dL ?_|(refine Xv 24 (λ g24=>?_) (λ g24=>?_)<;>(first|refine dL ?_|(refine aT ?_))))
 all_goals ((first|refine dL ?_|(refine bR ?_));(first|refine dL ?_|(refine Al ?_));refine fK ?_;refine aQ ?_)
 all_goals (first|refine dL ?_|(refine Xv 29 (λ g29=>?_) (λ g29=>?_)<;>(first|refine dL ?_|(refine aT ?_))))
 all_goals ((first|refine dL ?_|(refine bR ?_));(first|refine dL ?_|(refine Al ?_));refine fK ?_;refine eC ?_)
 all_goals
 refine bG (λ c33=>?_) (λ c33=>?_)
 ·all_goals refine dC ?_
  all_goals
   refine aU Tryz.results126 (λ w hw=>?_)
   refine⟨_,rfl,?_,hw.done⟩
   first|(simp_all[bI];done)|exact hZ c41 (k:=k) (by omega) (by assumption)|exact jU c41 (h16.1 (by simpa using g19)) (show 0<=main by omega) (show 0<=prev by omega) (show 0<=status by omega) eo (λ i hi=>hx.2 i (by omega))|(simp_all[bI];omega)
 ·try exact nv c33
  all_goals (refine lG ?_;refine iZ ?_;refine aH ?_;refine dE ?_;refine lR ?_)
  all_goals
   refine bG (λ c36=>?_) (λ c36=>?_)
   ·all_goals (refine iZ ?_;refine nS ?_;refine J1 ?_)
    all_goals
    refine aU Tryz.results126 (λ w hw=>?_)
    refine⟨_,rfl,?_,hw.done⟩
    first|(simp_all[bI];done)|exact hZ c41 (k:=k) (by omega) (by assumption)|exact jU c41 (h16.1 (by simpa using g19)) (show 0<=main by omega) (show 0<=prev by omega) (show 0<=status by omega) eo (λ i hi=>hx.2 i (by omega))|(simp_all[bI];omega)
   ·all_goals refine lR ?_
    all_goals
    refine bG (λ c41=>?_) (λ c41=>?_)
    ·all_goals (refine aW ?_;refine Hu ?_)
     all_goals
      refine fZ [2,3,43,44,45,46,47,48,49,50,51,52,53,54,55] (λ k=>[(3,.int .i64 ((k:Nat):Int))]) (λ k=>k<=xs.length/\∀i,i<k->1<=xs.getD i 0) (λ k=>xs.length-k) (0) (⟨Nat.zero_le _,λ i hi=>absurd hi (Nat.not_lt_zero i)⟩) ?_ (λ k f hx=>?_)
      ·repeat (first|exact bK _|refine bC (by first|exact rfl|(conv=>{lhs;whnf};simp;done)) ?_)
      dsimp only[iL,List.map,List.cons_append,List.nil_append]
      all_goals (refine lW ?_;refine Hr ?_;refine yQ ?_)
      all_goals
      refine bG (λ c47=>?_) (λ c47=>?_)
      ·all_goals (refine qD ?_;refine iZ ?_;refine aA ?_;refine S9 ?_;refine yQ ?_)
       all_goals
        refine bG (λ c55=>?_) (λ c55=>?_)
        ·all_goals refine dC ?_
         all_goals
         refine aU Tryz.results126 (λ w hw=>?_)
         refine⟨_,rfl,?_,hw.done⟩
         first|(simp_all[bI];done)|exact hZ c41 (k:=k) (by omega) (by assumption)|exact jU c41 (h16.1 (by simpa using g19)) (show 0<=main by omega) (show 0<=prev by omega) (show 0<=status by omega) eo (λ i hi=>hx.2 i (by omega))|(simp_all[bI];omega)
        ·all_goals (refine oD ?_;refine zL ?_)
         all_goals
         refine eU (k+1) ?_ ?_ ?_
         ·first|omega|(simp only[];omega)
         ·repeat' (first|exact bK _|refine bC ?_ ?_)
          all_goals (first|exact rfl|(conv=>{lhs;whnf};simp;done)|(conv=>{lhs;whnf};congr 1;omega))
         ·exact⟨by omega,λ i hi=>by rcases Nat.lt_succ_iff_lt_or_eq.1 hi with h|rfl;exact hx.2 i h;omega⟩
      ·all_goals (refine bV rfl ?_;refine aW ?_;refine dX [(0,[]),(1,[]),(2,[]),(3,[]),(4,[]),(5,[1]),(6,[]),(7,[])] ?_;refine nA ?_;refine mP ?_;refine nA ?_;refine cL (i:=5) (hq:=(cV (hc:=λ w1 hw=>Qk hb2 w1))) (h:=λ x61=>?_);refine kQ ?_;refine J7 ?_)
       all_goals
        refine aU Tryz.results126 (λ w hw=>?_)
        refine⟨_,rfl,?_,hw.done⟩
        first|(simp_all[bI];done)|exact hZ c41 (k:=k) (by omega) (by assumption)|exact jU c41 (h16.1 (by simpa using g19)) (show 0<=main by omega) (show 0<=prev by omega) (show 0<=status by omega) eo (λ i hi=>hx.2 i (by omega))|(simp_all[bI];omega)
    ·all_goals (refine aW ?_;refine lR ?_)
     all_goals
      refine bG (λ c63=>?_) (λ c63=>?_)
      ·all_goals refine bD ?_
       all_goals
       refine bG (λ c63=>?_) (λ c63=>?_)
       ·all_goals (refine iZ ?_;refine mL ?_;refine zO ?_;refine J1 ?_)
        all_goals
         refine aU Tryz.results126 (λ w hw=>?_)
         refine⟨_,rfl,?_,hw.done⟩
         first|(simp_all[bI];done)|exact hZ c41 (k:=k) (by omega) (by assumption)|exact jU c41 (h16.1 (by simpa using g19)) (show 0<=main by omega) (show 0<=prev by omega) (show 0<=status by omega) eo (λ i hi=>hx.2 i (by omega))|(simp_all[bI];omega)
       ·all_goals refine lR ?_
        all_goals
         refine bG (λ c70=>?_) (λ c70=>?_)
         ·all_goals (refine iZ ?_;refine eH ?_;refine nS ?_;refine aA ?_)
          all_goals ((refine fS 76 (λ g76=>?_) (λ g76=>?_)<;>(first|refine aN ?_|(refine aF ?_;refine aE ?_))))
          all_goals ((first|refine aN ?_|(refine aF ?_;refine bX ?_));(first|refine aN ?_|(refine aF ?_;refine aC (c0 (V:=.bool) (hc:=λ w1 hw=>mK (hw.cl fin) hr.prS)) (λ x79 h79=>?_)));refine cX ?_;refine aA ?_)
          all_goals (first|refine aN ?_|(refine fS 81 (λ g81=>?_) (λ g81=>?_)<;>(first|refine aN ?_|(refine aF ?_;refine aE ?_))))
          all_goals ((first|refine aN ?_|(refine aF ?_;refine bX ?_));(first|refine aN ?_|(refine aF ?_;refine aC (c0 (V:=.bool) (hc:=λ w1 hw=>X6 (hw.cl fin) hr.prS)) (λ x84 h84=>?_)));refine cX ?_;refine J1 ?_)
          all_goals
          refine aU Tryz.results126 (λ w hw=>?_)
          refine⟨_,rfl,?_,hw.done⟩
          first|(simp_all[bI];done)|exact hZ c41 (k:=k) (by omega) (by assumption)|exact jU c41 (h16.1 (by simpa using g19)) (show 0<=main by omega) (show 0<=prev by omega) (show 0<=status by omega) eo (λ i hi=>hx.2 i (by omega))|(simp_all[bI];omega)
         ·all_goals refine lR ?_
          all_goals
          refine bG (λ c86=>?_) (λ c86=>?_)
          ·all_goals (refine iZ ?_;refine nS ?_;refine J1 ?_)
           all_goals
            refine aU Tryz.results126 (λ w hw=>?_)
            refine⟨_,rfl,?_,hw.done⟩
            first|(simp_all[bI];done)|exact hZ c41 (k:=k) (by omega) (by assumption)|exact jU c41 (h16.1 (by simpa using g19)) (show 0<=main by omega) (show 0<=prev by omega) (show 0<=status by omega) eo (λ i hi=>hx.2 i (by omega))|(simp_all[bI];omega)
          ·all_goals refine lR ?_
           all_goals
            refine bG (λ c91=>?_) (λ c91=>?_)
            ·all_goals (refine iZ ?_;refine nS ?_;refine aA ?_)
             all_goals ((refine fS 96 (λ g96=>?_) (λ g96=>?_)<;>(first|refine aN ?_|(refine aF ?_;refine aE ?_))))
             all_goals (refine J86 ?_;refine cX ?_;refine aA ?_)
             all_goals (first|refine aN ?_|(refine fS 101 (λ g101=>?_) (λ g101=>?_)<;>(first|refine aN ?_|(refine aF ?_;refine aE ?_))))
             all_goals (refine J86 ?_;refine cX ?_;refine J1 ?_)
             all_goals
             refine aU Tryz.results126 (λ w hw=>?_)
             refine⟨_,rfl,?_,hw.done⟩
             first|(simp_all[bI];done)|exact hZ c41 (k:=k) (by omega) (by assumption)|exact jU c41 (h16.1 (by simpa using g19)) (show 0<=main by omega) (show 0<=prev by omega) (show 0<=status by omega) eo (λ i hi=>hx.2 i (by omega))|(simp_all[bI];omega)
            ·all_goals (refine oD ?_;refine dC ?_)
             all_goals
             refine aU Tryz.results126 (λ w hw=>?_)
             refine⟨_,rfl,?_,hw.done⟩
             first|(simp_all[bI];done)|exact hZ c41 (k:=k) (by omega) (by assumption)|exact jU c41 (h16.1 (by simpa using g19)) (show 0<=main by omega) (show 0<=prev by omega) (show 0<=status by omega) eo (λ i hi=>hx.2 i (by omega))|(simp_all[bI];omega)
      ·all_goals (refine eR ?_;refine S2 ?_)
       all_goals
       refine bG (λ c63=>?_) (λ c63=>?_)
       ·all_goals (refine iZ ?_;refine mL ?_;refine zO ?_;refine J1 ?_)
        all_goals
         refine aU Tryz.results126 (λ w hw=>?_)
         refine⟨_,rfl,?_,hw.done⟩
         first|(simp_all[bI];done)|exact hZ c41 (k:=k) (by omega) (by assumption)|exact jU c41 (h16.1 (by simpa using g19)) (show 0<=main by omega) (show 0<=prev by omega) (show 0<=status by omega) eo (λ i hi=>hx.2 i (by omega))|(simp_all[bI];omega)
       ·all_goals refine lR ?_
        all_goals
         refine bG (λ c70=>?_) (λ c70=>?_)
         ·all_goals (refine iZ ?_;refine eH ?_;refine nS ?_;refine aA ?_)
          all_goals ((refine fS 76 (λ g76=>?_) (λ g76=>?_)<;>(first|refine aN ?_|(refine aF ?_;refine aE ?_))))
          all_goals ((first|refine aN ?_|(refine aF ?_;refine bX ?_));(first|refine aN ?_|(refine aF ?_;refine aC (c0 (V:=.bool) (hc:=λ w1 hw=>mK (hw.cl fin) hr.prS)) (λ x79 h79=>?_)));refine cX ?_;refine aA ?_)
          all_goals (first|refine aN ?_|(refine fS 81 (λ g81=>?_) (λ g81=>?_)<;>(first|refine aN ?_|(refine aF ?_;refine aE ?_))))
          all_goals ((first|refine aN ?_|(refine aF ?_;refine bX ?_));(first|refine aN ?_|(refine aF ?_;refine aC (c0 (V:=.bool) (hc:=λ w1 hw=>X6 (hw.cl fin) hr.prS)) (λ x84 h84=>?_)));refine cX ?_;refine J1 ?_)
          all_goals
          refine aU Tryz.results126 (λ w hw=>?_)
          refine⟨_,rfl,?_,hw.done⟩
          first|(simp_all[bI];done)|exact hZ c41 (k:=k) (by omega) (by assumption)|exact jU c41 (h16.1 (by simpa using g19)) (show 0<=main by omega) (show 0<=prev by omega) (show 0<=status by omega) eo (λ i hi=>hx.2 i (by omega))|(simp_all[bI];omega)
         ·all_goals refine lR ?_
          all_goals
          refine bG (λ c86=>?_) (λ c86=>?_)
          ·all_goals (refine iZ ?_;refine nS ?_;refine J1 ?_)
           all_goals
            refine aU Tryz.results126 (λ w hw=>?_)
            refine⟨_,rfl,?_,hw.done⟩
            first|(simp_all[bI];done)|exact hZ c41 (k:=k) (by omega) (by assumption)|exact jU c41 (h16.1 (by simpa using g19)) (show 0<=main by omega) (show 0<=prev by omega) (show 0<=status by omega) eo (λ i hi=>hx.2 i (by omega))|(simp_all[bI];omega)
          ·all_goals refine lR ?_
           all_goals
            refine bG (λ c91=>?_) (λ c91=>?_)
            ·all_goals (refine iZ ?_;refine nS ?_;refine aA ?_)
             all_goals ((refine fS 96 (λ g96=>?_) (λ g96=>?_)<;>(first|refine aN ?_|(refine aF ?_;refine aE ?_))))
             all_goals (refine J86 ?_;refine cX ?_;refine aA ?_)
             all_goals (first|refine aN ?_|(refine fS 101 (λ g101=>?_) (λ g101=>?_)<;>(first|refine aN ?_|(refine aF ?_;refine aE ?_))))
             all_goals (refine J86 ?_;refine cX ?_;refine J1 ?_)
             all_goals
             refine aU Tryz.results126 (λ w hw=>?_)
             refine⟨_,rfl,?_,hw.done⟩
             first|(simp_all[bI];done)|exact hZ c41 (k:=k) (by omega) (by assumption)|exact jU c41 (h16.1 (by simpa using g19)) (show 0<=main by omega) (show 0<=prev by omega) (show 0<=status by omega) eo (λ i hi=>hx.2 i (by omega))|(simp_all[bI];omega)
            ·all_goals (refine oD ?_;refine dC ?_)
             all_goals
             refine aU Tryz.results126 (λ w hw=>?_)
             refine⟨_,rfl,?_,hw.done⟩
             first|(simp_all[bI];done)|exact hZ c41 (k:=k) (by omega) (by assumption)|exact jU c41 (h16.1 (by simpa using g19)) (show 0<=main by omega) (show 0<=prev by omega) (show 0<=status by omega) eo (λ i hi=>hx.2 i (by omega))|(simp_all[bI];omega)
end

end Go.Proofs.YtbajmaoegmbfgaaGreat
