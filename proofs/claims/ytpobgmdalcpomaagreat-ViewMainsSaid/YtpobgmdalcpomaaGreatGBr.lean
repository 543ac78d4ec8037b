/- C-nodes are maps: the plain laws. -/
import Derived.Test.YtpobgmdalcpomaaGreatGPaX
import Derived.Test.YtpobgmdalcpomaaGreatAuto

set_option linter.unusedSimpArgs false
set_option linter.unusedVariables false
namespace Go.Ct
open Go Go.RowKit
def mOf(b:Nat)(xs:List Int)(k:Nat):Option Int:=if b.testBit k=true then some (xs.getD (cnt b k) 0) else none
def bOf(m:Nat->Option Int):Nat->Nat
 | 0=>0
 | k+1=>if(m k).isSome=true then bOf m k ||| 2^k else bOf m k
def lOf(m:Nat->Option Int):Nat->List Int
 | 0=>[]
 | k+1=>lOf m k++(m k).toList
def upd(m:Nat->Option Int)(i:Nat)(o:Option Int)(k:Nat):Option Int:=if k=i then o else m k
structure BV(b:Nat)(xs:List Int):Prop where
 lt:b<18446744073709551616
 len:xs.length=cnt b 64
 pos:∀i,i<xs.length->1<=xs.getD i 0
theorem bOf_bit(m:Nat->Option Int)(j:Nat):∀k,(bOf m k).testBit j=(decide (j<k)&&(m j).isSome)
 | 0=>by simp[bOf]
 | k+1=>by
  have ih:=bOf_bit m j k
  simp only[bOf]
  by_cases hjk:j=k
  ·subst hjk
   by_cases h:(m j).isSome=true
   ·rw[if_pos h,Nat.testBit_or,Nat.testBit_two_pow];simp[h]
   ·rw[if_neg h,ih];simp at h;simp[h]
  ·have h2:(2^k).testBit j=false:=by rw[Nat.testBit_two_pow];exact decide_eq_false (λ h=>hjk h.symm)
   split
   ·rw[Nat.testBit_or,ih,h2,Bool.or_false]
    congr 1
    exact decide_eq_decide.2 (by omega)
   ·rw[ih]
    congr 1
    exact decide_eq_decide.2 (by omega)
theorem bOf_lt(m:Nat->Option Int):∀k,bOf m k<2^k
 | 0=>by simp[bOf]
 | k+1=>by
  have ih:=bOf_lt m k
  have h2:2^(k+1)=2^k+2^k:=by rw[Nat.pow_succ];omega
  simp only[bOf]
  split
  ·refine Nat.or_lt_two_pow (by omega) ?_
   have:=Nat.two_pow_pos k
   omega
  ·omega
theorem getD_memI{xs:List Int}{i:Nat}(h:i<xs.length):xs.getD i 0∈xs:=by
 rw[List.getD_eq_getElem?_getD,List.getElem?_eq_getElem h]
 exact List.getElem_mem h
theorem of_congr{m m':Nat->Option Int}:∀n,(∀k,k<n->m k=m' k)->bOf m n=bOf m' n/\lOf m n=lOf m' n
 | 0,_=>⟨rfl,rfl⟩
 | n+1,h=>by
  obtain⟨h1,h2⟩:=of_congr n λ k hk=>h k (by omega)
  simp only[bOf,lOf,h1,h2,h n (by omega),and_self]
theorem cnt_mono(b:Nat)(k:Nat):∀d,cnt b k<=cnt b (k+d)
 | 0=>Nat.le_refl _
 | d+1=>by have:=cnt_mono b k d;rw[<- Nat.add_assoc];simp only[cnt];omega
theorem cnt_lt{b k n:Nat}(h:k<n)(hb:b.testBit k=true):cnt b k<cnt b n:=by
 obtain⟨d,rfl⟩:=Nat.exists_eq_add_of_le (Nat.succ_le_of_lt h)
 have:=cnt_mono b (k+1) d
 simp only[cnt,hb,if_true] at this
 exact this
theorem lOf_mOf{b:Nat}{xs:List Int}(h:xs.length=cnt b 64):∀k,k<=64->lOf (mOf b xs) k=xs.take (cnt b k)
 | 0,_=>by simp[lOf,cnt]
 | k+1,hk=>by
  have ih:=lOf_mOf h k (by omega)
  simp only[lOf,ih,mOf,cnt]
  split
  ·rename_i hb
   have:=cnt_lt (n:=64) (by omega) hb
   rw[List.take_add_one,Option.toList,List.getD_eq_getElem?_getD,List.getElem?_eq_getElem (by omega)]
   rfl
  ·simp
theorem of_mOf{b:Nat}{xs:List Int}(h:BV b xs):bOf (mOf b xs) 64=b/\lOf (mOf b xs) 64=xs:=by
 refine⟨Nat.eq_of_testBit_eq λ j=>?_,?_⟩
 ·rw[bOf_bit]
  by_cases hj:j<64
  ·rw[decide_eq_true hj,Bool.true_and]
   unfold mOf
   cases hb:b.testBit j<;>simp
  ·rw[decide_eq_false hj,Bool.false_and]
   exact(Nat.testBit_lt_two_pow (Nat.lt_of_lt_of_le h.lt (Nat.pow_le_pow_right (n:=2) (by decide) (show 64<=j by omega)))).symm
 ·rw[lOf_mOf h.len 64 (Nat.le_refl _),<- h.len,List.take_length]
theorem cnt_more{b b' i:Nat}(h:b.testBit i=false)(hb:∀j,j<64->b'.testBit j=(b.testBit j||decide (j=i))):∀k,k<=64->cnt b' k=cnt b k+if i<k then 1 else 0
 | 0,_=>rfl
 | k+1,hk=>by
  have ih:=cnt_more h hb k (by omega)
  simp only[cnt,ih,hb k (by omega)]
  by_cases hki:k=i
  ·subst hki
   simp[h]
  ·have:decide (k=i)=false:=decide_eq_false hki
   rw[this,Bool.or_false]
   have e:(i<k+1)↔(i<k):=by omega
   simp only[e]
   omega
def insL(xs:List Int)(p:Nat)(r:Int):List Int:=xs.take p++r::xs.drop p
def updL(xs:List Int)(p:Nat)(r:Int):List Int:=xs.take p++r::xs.drop (p+1)
def remL(xs:List Int)(p:Nat):List Int:=xs.take p++xs.drop (p+1)
theorem insL_len{xs:List Int}{p:Nat}(hp:p<=xs.length)(r:Int):(insL xs p r).length=xs.length+1:=by
 simp[insL];omega
theorem updL_len{xs:List Int}{p:Nat}(hp:p<xs.length)(r:Int):(updL xs p r).length=xs.length:=by
 simp[updL];omega
theorem remL_len{xs:List Int}{p:Nat}(hp:p<xs.length):(remL xs p).length+1=xs.length:=by
 simp[remL];omega
theorem insL_at{xs:List Int}{p:Nat}(hp:p<=xs.length)(r:Int)(q:Nat):(insL xs p r).getD q 0=if q<p then xs.getD q 0 else if q=p then r else xs.getD (q-1) 0:=by
 simp only[insL,List.getD_eq_getElem?_getD]
 by_cases h1:q<p
 ·rw[if_pos h1,List.getElem?_append_left (by simp;omega),List.getElem?_take_of_lt h1]
 ·rw[if_neg h1,List.getElem?_append_right (by simp;omega)]
  have:(xs.take p).length=p:=by simp;omega
  rw[this]
  by_cases h2:q=p
  ·subst h2;simp
  ·obtain⟨d,hd⟩:∃d,q-p=d+1:=⟨q-p-1,by omega⟩
   rw[if_neg h2,hd,List.getElem?_cons_succ,List.getElem?_drop]
   congr 2
   omega
theorem updL_at{xs:List Int}{p:Nat}(hp:p<xs.length)(r:Int)(q:Nat):(updL xs p r).getD q 0=if q=p then r else xs.getD q 0:=by
 simp only[updL,List.getD_eq_getElem?_getD]
 by_cases h1:q<p
 ·rw[if_neg (by omega),List.getElem?_append_left (by simp;omega),List.getElem?_take_of_lt h1]
 ·rw[List.getElem?_append_right (by simp;omega)]
  have:(xs.take p).length=p:=by simp;omega
  rw[this]
  by_cases h2:q=p
  ·subst h2;simp
  ·obtain⟨d,hd⟩:∃d,q-p=d+1:=⟨q-p-1,by omega⟩
   rw[if_neg h2,hd,List.getElem?_cons_succ,List.getElem?_drop]
   congr 2
   omega
theorem remL_at{xs:List Int}{p:Nat}(hp:p<xs.length)(q:Nat):(remL xs p).getD q 0=if q<p then xs.getD q 0 else xs.getD (q+1) 0:=by
 simp only[remL,List.getD_eq_getElem?_getD]
 by_cases h1:q<p
 ·rw[if_pos h1,List.getElem?_append_left (by simp;omega),List.getElem?_take_of_lt h1]
 ·rw[if_neg h1,List.getElem?_append_right (by simp;omega)]
  have:(xs.take p).length=p:=by simp;omega
  rw[this,List.getElem?_drop]
  congr 2
  omega
theorem pos_of_at{xs ys:List Int}(h:∀i,i<xs.length->1<=xs.getD i 0)(hy:∀j,j<ys.length->1<=ys.getD j 0∨∃i,i<xs.length/\ys.getD j 0=xs.getD i 0):∀j,j<ys.length->1<=ys.getD j 0:=λ j hj=>by
 rcases hy j hj with h1|⟨i,hi,he⟩
 ·exact h1
 ·rw[he];exact h i hi
section
variable{b i:Nat}{xs:List Int}{r:Int}
theorem with_bit(b i:Nat)(j:Nat):(b ||| 2^i).testBit j=(b.testBit j||decide (j=i)):=by
 rw[Nat.testBit_or,Nat.testBit_two_pow]
 congr 1
 exact decide_eq_decide.2 eq_comm
theorem without_bit(b i:Nat)(j:Nat):(b ^^^ (b &&& 2^i)).testBit j=(b.testBit j&&!decide (j=i)):=by
 rw[Nat.testBit_xor,Nat.testBit_and,Nat.testBit_two_pow]
 have:decide (i=j)=decide (j=i):=decide_eq_decide.2 eq_comm
 rw[this]
 cases b.testBit j<;>cases decide (j=i)<;>rfl
theorem ins_bv(h:BV b xs)(hi:i<64)(hb:b.testBit i=false)(hr:1<=r):BV (b ||| 2^i) (insL xs (cnt b i) r)/\∀k,k<64->mOf (b ||| 2^i) (insL xs (cnt b i) r) k=upd (mOf b xs) i (some r) k:=by
 have hc:=cnt_more hb (λ j _=>with_bit b i j)
 have hp:cnt b i<=xs.length:=by
  obtain⟨d,hd⟩:=Nat.exists_eq_add_of_le (Nat.le_of_lt hi)
  rw[h.len,hd]
  exact cnt_mono b i d
 refine⟨⟨Nat.or_lt_two_pow (n:=64) h.lt (Nat.pow_lt_pow_right (a:=2) (by decide) hi),?_,pos_of_at h.pos λ j hj=>?_⟩,λ k hk=>?_⟩
 ·rw[insL_len hp,hc 64 (Nat.le_refl _),if_pos hi,h.len]
 ·rw[insL_len hp] at hj
  rw[insL_at hp]
  by_cases h1:j<cnt b i
  ·rw[if_pos h1];exact .inr ⟨j,by omega,rfl⟩
  ·rw[if_neg h1]
   by_cases h2:j=cnt b i
   ·rw[if_pos h2];exact .inl hr
   ·rw[if_neg h2];exact .inr ⟨j-1,by omega,rfl⟩
 ·simp only[mOf,upd]
  rw[with_bit,hc k (by omega),insL_at hp]
  by_cases hki:k=i
  ·subst hki;simp
  ·rw[if_neg hki,decide_eq_false hki,Bool.or_false]
   by_cases hbk:b.testBit k=true
   ·rw[if_pos hbk,if_pos hbk]
    congr 1
    by_cases hlt:k<i
    ·have:=cnt_lt hlt hbk
     rw[if_neg (show ¬i<k by omega),if_pos (by omega)]
     rfl
    ·have:cnt b i<=cnt b k:=by
      obtain⟨d,hd⟩:=Nat.exists_eq_add_of_le (show i<=k by omega)
      rw[hd];exact cnt_mono b i d
     rw[if_pos (show i<k by omega),if_neg (by omega),if_neg (by omega)]
     rfl
   ·rw[if_neg hbk,if_neg hbk]
theorem upd_bv(h:BV b xs)(hi:i<64)(hb:b.testBit i=true)(hr:1<=r):BV b (updL xs (cnt b i) r)/\∀k,k<64->mOf b (updL xs (cnt b i) r) k=upd (mOf b xs) i (some r) k:=by
 have hp:cnt b i<xs.length:=by rw[h.len];exact cnt_lt hi hb
 refine⟨⟨h.lt,by rw[updL_len hp,h.len],pos_of_at h.pos λ j hj=>?_⟩,λ k hk=>?_⟩
 ·rw[updL_len hp] at hj
  rw[updL_at hp]
  by_cases h2:j=cnt b i
  ·rw[if_pos h2];exact .inl hr
  ·rw[if_neg h2];exact .inr ⟨j,hj,rfl⟩
 ·simp only[mOf,upd]
  rw[updL_at hp]
  by_cases hki:k=i
  ·subst hki;rw[if_pos hb,if_pos rfl,if_pos rfl]
  ·rw[if_neg hki]
   by_cases hbk:b.testBit k=true
   ·rw[if_pos hbk,if_pos hbk,if_neg]
    rcases Nat.lt_or_gt_of_ne hki with hlt|hlt
    ·have:=cnt_lt hlt hbk;omega
    ·have:=cnt_lt hlt hb;omega
   ·rw[if_neg hbk,if_neg hbk]
theorem rem_bv(h:BV b xs)(hi:i<64)(hb:b.testBit i=true):BV (b ^^^ (b &&& 2^i)) (remL xs (cnt b i))/\∀k,k<64->mOf (b ^^^ (b &&& 2^i)) (remL xs (cnt b i)) k=upd (mOf b xs) i none k:=by
 have hp:cnt b i<xs.length:=by rw[h.len];exact cnt_lt hi hb
 have hb':(b ^^^ (b &&& 2^i)).testBit i=false:=by rw[without_bit];simp
 have hc:=cnt_more (b':=b) hb' (λ j _=>by
  rw[without_bit]
  by_cases hji:j=i
  ·subst hji;simp[hb]
  ·rw[decide_eq_false hji];simp)
 refine⟨⟨Nat.xor_lt_two_pow (n:=64) h.lt (Nat.lt_of_le_of_lt Nat.and_le_left h.lt),?_,pos_of_at h.pos λ j hj=>?_⟩,λ k hk=>?_⟩
 ·have:=remL_len hp
  have:=hc 64 (Nat.le_refl _)
  rw[if_pos hi] at this
  have:=h.len
  omega
 ·have:=remL_len hp
  rw[remL_at hp]
  by_cases h1:j<cnt b i
  ·rw[if_pos h1];exact .inr ⟨j,by omega,rfl⟩
  ·rw[if_neg h1];exact .inr ⟨j+1,by omega,rfl⟩
 ·simp only[mOf,upd]
  have hck:=hc k (by omega)
  rw[without_bit,remL_at hp]
  by_cases hki:k=i
  ·subst hki;simp
  ·rw[if_neg hki,decide_eq_false hki,Bool.not_false,Bool.and_true]
   by_cases hbk:b.testBit k=true
   ·rw[if_pos hbk,if_pos hbk]
    congr 1
    by_cases hlt:k<i
    ·have:=cnt_lt hlt hbk
     rw[if_neg (show ¬i<k by omega)] at hck
     rw[if_pos (by omega),hck]
     rfl
    ·have:=cnt_lt (show i<k by omega) hb
     rw[if_pos (show i<k by omega)] at hck
     rw[if_neg (by omega),hck]
   ·rw[if_neg hbk,if_neg hbk]
end
end Go.Ct

/- What is known of a list, in short. -/
namespace Go.Ct
open Go Go.RowKit
variable{w0 w:World}{M:List Nat}{H:List (Nat×Obj)}{A F:Fr}{O:List Ow}
end Go.Ct
namespace Go.Proofs.YtpobgmdalcpomaaGreat
open Go.RowKit Go.Ct
theorem ndValid_c3{n:Nd}{xs:List Int}{ys:List Pr}(h:n.kind=3)(hv:NdValid n xs ys):(xs.length:Int)=rOnes n.bm/\Pos xs:=by
 obtain⟨_,_,_,_,hv⟩:=hv
 rcases hv with h1|⟨h1,_⟩|⟨_,h2,h3⟩|⟨h1|h1,_⟩|⟨h1,_⟩|⟨h1,_⟩|⟨h1,_⟩
 all_goals first|exact⟨h2,h3⟩|(rw[h] at h1;exact absurd h1 (by decide))
end Go.Proofs.YtpobgmdalcpomaaGreat

/- The reference's Valid. -/
namespace Go.Proofs.YtpobgmdalcpomaaGreat
open Go.RowKit Go.Ct
theorem only_c (n : Nd) (h1 : 1 ≤ n.kind) (h8 : n.kind ≤ 8) (w : World) : Calls Tryz.prog 98 #[n.v] w fun e w' => e = .returned n.own.v ∧ St w [] [] w' := by
  refine enter Tryz.func98 Tryz.ntmps98 rfl rfl (SF.s0 w) ?_
  simp only [mkS]
  all_goals (refine J0 ?_; refine j_box (fun x1 => ?_); refine j_alloc (fun x2 => ?_); refine l_nil ?_; refine J72 ?_; refine l_nil ?_; refine k_block ?_; refine J39 ?_)
  all_goals
   refine kif (fun c5 => ?_) (fun c5 => ?_)
   · try exact nv c5
     all_goals (refine J24 ?_; refine J52 ?_)
     all_goals
      refine k_rt Tryz.results98 (fun w hw => ?_)
      first | (exfalso; omega) | exact ⟨by simp only [Nd.own, beq_iff_eq, *, if_true, if_false]; rfl, hw.done⟩
   · try exact nv c5
     all_goals refine J39 ?_
     all_goals
      refine kif (fun c10 => ?_) (fun c10 => ?_)
      · try exact nv c10
        all_goals (refine J24 ?_; refine J3 ?_; refine J3 ?_; refine J52 ?_)
        all_goals
         refine k_rt Tryz.results98 (fun w hw => ?_)
         first | (exfalso; omega) | exact ⟨by simp only [Nd.own, beq_iff_eq, *, if_true, if_false]; rfl, hw.done⟩
      · try exact nv c10
        all_goals refine J39 ?_
        all_goals
         refine kif (fun c19 => ?_) (fun c19 => ?_)
         · try exact nv c19
           all_goals (refine J24 ?_; refine J3 ?_; refine J3 ?_; refine J3 ?_; refine J52 ?_)
           all_goals
            refine k_rt Tryz.results98 (fun w hw => ?_)
            first | (exfalso; omega) | exact ⟨by simp only [Nd.own, beq_iff_eq, *, if_true, if_false]; rfl, hw.done⟩
         · try exact nv c19
           all_goals refine J39 ?_
           all_goals
            refine kif (fun c30 => ?_) (fun c30 => ?_)
            · try exact nv c30
              all_goals (refine J24 ?_; refine J3 ?_; refine J3 ?_; refine J3 ?_; refine J52 ?_)
              all_goals
               refine k_rt Tryz.results98 (fun w hw => ?_)
               first | (exfalso; omega) | exact ⟨by simp only [Nd.own, beq_iff_eq, *, if_true, if_false]; rfl, hw.done⟩
            · try exact nv c30
              all_goals refine J39 ?_
              all_goals
               refine kif (fun c41 => ?_) (fun c41 => ?_)
               · try exact nv c41
                 all_goals (refine J24 ?_; refine J3 ?_; refine J3 ?_; refine J3 ?_; refine J3 ?_; refine J52 ?_)
                 all_goals
                  refine k_rt Tryz.results98 (fun w hw => ?_)
                  first | (exfalso; omega) | exact ⟨by simp only [Nd.own, beq_iff_eq, *, if_true, if_false]; rfl, hw.done⟩
               · try exact nv c41
                 all_goals refine J39 ?_
                 all_goals
                  refine kif (fun c54 => ?_) (fun c54 => ?_)
                  · try exact nv c54
                    all_goals (refine J24 ?_; refine J3 ?_; refine J3 ?_; refine J3 ?_; refine J52 ?_)
                    all_goals
                     refine k_rt Tryz.results98 (fun w hw => ?_)
                     first | (exfalso; omega) | exact ⟨by simp only [Nd.own, beq_iff_eq, *, if_true, if_false]; rfl, hw.done⟩
                  · try exact nv c54
                    all_goals refine J39 ?_
                    all_goals
                     refine kif (fun c65 => ?_) (fun c65 => ?_)
                     · try exact nv c65
                       all_goals (refine J24 ?_; refine J3 ?_; refine J52 ?_)
                       all_goals
                        refine k_rt Tryz.results98 (fun w hw => ?_)
                        first | (exfalso; omega) | exact ⟨by simp only [Nd.own, beq_iff_eq, *, if_true, if_false]; rfl, hw.done⟩
                     · try exact nv c65
                       all_goals refine J39 ?_
                       all_goals
                        refine kif (fun c72 => ?_) (fun c72 => ?_)
                        · try exact nv c72
                          all_goals (refine J24 ?_; refine J3 ?_; refine J3 ?_; refine J3 ?_; refine J3 ?_; refine J52 ?_)
                          all_goals
                           refine k_rt Tryz.results98 (fun w hw => ?_)
                           first | (exfalso; omega) | exact ⟨by simp only [Nd.own, beq_iff_eq, *, if_true, if_false]; rfl, hw.done⟩
                        · try exact nv c72
                          all_goals (refine J34 ?_; refine J0 ?_; refine J52 ?_)
                          all_goals
                           refine k_rt Tryz.results98 (fun w hw => ?_)
                           first | (exfalso; omega) | exact ⟨by simp only [Nd.own, beq_iff_eq, *, if_true, if_false]; rfl, hw.done⟩
theorem c3_false{n:Nd}{xs:List Int}{ys:List Pr}(h:n.kind=3){k:Nat}(hk:k<xs.length)(hx:xs.getD k 0<1):false=true↔NdValid n xs ys:=by
 simp only[Bool.false_eq_true,false_iff]
 intro hv
 have:=(ndValid_c3 h hv).2 k hk
 omega
theorem c3_true{n:Nd}{xs:List Int}{ys:List Pr}{c:Int}(h:n.kind=3)(he:NdEq n n.own xs (n.xsOwn xs) ys (n.ysOwn ys))(h1:0<=n.main)(h2:0<=n.prev)(h3:0<=n.status)(eo:rOnes n.bm=c)(hp:Pos xs):((xs.length:Int)==c)=true↔NdValid n xs ys:=by
 rw[beq_iff_eq,<- eo]
 exact⟨λ hl=>⟨he,h1,h2,h3,.inr (.inr (.inl ⟨h,hl,hp⟩))⟩,λ hv=>(ndValid_c3 h hv).1⟩
theorem refValid_c{n:Nd}{xs:List Int}{ys:List Pr}{w:World}{b:Nat}(hb:n.bm=(b:Int))(hb2:b<18446744073709551616)(hr:Rep w n xs ys) :
  Calls Tryz.prog 70 #[n.v] w λ e w'=>∃r:Bool,e=.returned (.bool r)/\(r=true↔NdValid n xs ys)/\St w [] [] w':=by
 have e1:=hr.brN;have e2:=hr.prN
 obtain⟨kind,gen,main,bm,brA,brN,brC,hash,key,val,prA,prN,prK,prev,old,exp,new,status⟩:=n
 simp only at e1 e2 hb
 subst e1 e2 hb
 have eo:rOnes (b:Int)=((cnt b 64:Nat):Int):=rOnes_cnt hb2
 have hxl:=hr.brS
 refine enter Tryz.func70 Tryz.ntmps70 rfl rfl (SF.s2 hr.br hr.pr) ?_
 simp only[mkS]
 simp only[Nd.v,Nd.cells]
 all_goals (refine J0 ?_;refine j_box (λ x1=>?_);refine J27 ?_;refine k_seq ?_;refine k_dp [(0,[]),(1,[]),(2,[]),(3,[]),(4,[]),(5,[]),(6,[]),(7,[]),(8,[]),(9,[]),(10,[]),(11,[9]),(12,[]),(13,[]),(14,[]),(15,[]),(16,[]),(17,[]),(18,[]),(19,[]),(20,[]),(21,[]),(22,[]),(23,[]),(24,[]),(25,[]),(26,[]),(27,[]),(28,[]),(29,[])] ?_;refine J15 ?_;refine r_lss ?_;refine r_move ?_)
 all_goals (first|refine r_un ?_|(refine r_fieldAddr ?_)|(refine rcs 7 (λ g7=>?_) (λ g7=>?_)<;>(first|refine r_un ?_|(refine r_fieldAddr ?_))))
 all_goals ((first|refine r_un ?_|(refine r_load ?_));(first|refine r_un ?_|(refine r_gtr ?_));refine r_pick ?_;refine r_move ?_)
 all_goals (first|refine r_un ?_|(refine r_load ?_)|(refine rcs 12 (λ g12=>?_) (λ g12=>?_)<;>(first|refine r_un ?_|(refine r_load ?_))))
 all_goals ((first|refine r_un ?_|(refine r_load ?_));((first|refine r_un ?_|((refine r_own (i:=11) (hq:=(cV (hc:=λ w1 hw=>only_c (⟨kind,gen,main,(b:Int),brA,xs.length,brC,hash,key,val,prA,ys.length,prK,prev,old,exp,new,status⟩:Nd) (show(1:Int)<=kind by omega) (show kind<=8 by omega) w1))) (h:=λ x15=>?_);try (refine r_fact (λ h15=>?_))))));((first|refine r_un ?_|((refine r_own (i:=12) (hq:=(c0 (V:=.bool) (hc:=λ w1 hw=>refEq_c (a:=(⟨kind,gen,main,(b:Int),brA,xs.length,brC,hash,key,val,prA,ys.length,prK,prev,old,exp,new,status⟩:Nd)) (b:=((⟨kind,gen,main,(b:Int),brA,xs.length,brC,hash,key,val,prA,ys.length,prK,prev,old,exp,new,status⟩:Nd)).own) (hr.keep0 hw.done) (hr.keep0 hw.done).own))) (h:=λ x16=>?_);try (refine r_fact (λ h16=>?_))))));(first|refine r_un ?_|(refine r_not ?_));refine r_pick ?_;refine r_move ?_)
 all_goals (first|refine r_un ?_|(refine r_fieldAddr ?_)|(refine rcs 19 (λ g19=>?_) (λ g19=>?_)<;>(first|refine r_un ?_|(refine r_fieldAddr ?_))))
 all_goals ((first|refine r_un ?_|(refine r_load ?_));(first|refine r_un ?_|(refine r_lss ?_));refine r_pick ?_;refine r_move ?_)
 all_goals (first|refine r_un ?_|(refine r_fieldAddr ?_)|(refine rcs 24 (λ g24=>?_) (λ g24=>?_)<;>(first|refine r_un ?_|(refine r_fieldAddr ?_))))
 all_goals ((first|refine r_un ?_|(refine r_load ?_));(first|refine r_un ?_|(refine r_lss ?_));refine r_pick ?_;refine r_move ?_)
 all_goals (first|refine r_un ?_|(refine r_fieldAddr ?_)|(refine rcs 29 (λ g29=>?_) (λ g29=>?_)<;>(first|refine r_un ?_|(refine r_fieldAddr ?_))))
 all_goals ((first|refine r_un ?_|(refine r_load ?_));(first|refine r_un ?_|(refine r_lss ?_));refine r_pick ?_;refine r_fin ?_)
 all_goals
 refine kif (λ c33=>?_) (λ c33=>?_)
 ·try exact nv c33
  all_goals refine J10 ?_
  all_goals
   refine k_rv Tryz.results70 (λ w hw=>?_)
   refine⟨_,rfl,?_,hw.done⟩
   first|(simp_all[NdValid];done)|exact c3_false c41 (k:=k) (by omega) (by assumption)|exact c3_true c41 (h16.1 (by simpa using g19)) (show 0<=main by omega) (show 0<=prev by omega) (show 0<=status by omega) eo (λ i hi=>hx.2 i (by omega))|(simp_all[NdValid];omega)
 ·try exact nv c33
  all_goals (refine J16 ?_;refine J24 ?_;refine l_nil ?_;refine k_block ?_;refine J39 ?_)
  all_goals
   refine kif (λ c36=>?_) (λ c36=>?_)
   ·try exact nv c36
    all_goals (refine J24 ?_;refine j_geq ?_;refine J1 ?_)
    all_goals
    refine k_rv Tryz.results70 (λ w hw=>?_)
    refine⟨_,rfl,?_,hw.done⟩
    first|(simp_all[NdValid];done)|exact c3_false c41 (k:=k) (by omega) (by assumption)|exact c3_true c41 (h16.1 (by simpa using g19)) (show 0<=main by omega) (show 0<=prev by omega) (show 0<=status by omega) eo (λ i hi=>hx.2 i (by omega))|(simp_all[NdValid];omega)
   ·try exact nv c36
    all_goals refine J39 ?_
    all_goals
    refine kif (λ c41=>?_) (λ c41=>?_)
    ·try exact nv c41
     all_goals (refine k_seq ?_;refine J69 ?_)
     all_goals
      refine k_loopC [2,3,43,44,45,46,47,48,49,50,51,52,53,54,55] (λ k=>[(3,.int .i64 ((k:Nat):Int))]) (λ k=>k<=xs.length/\∀i,i<k->1<=xs.getD i 0) (λ k=>xs.length-k) (0) (⟨Nat.zero_le _,λ i hi=>absurd hi (Nat.not_lt_zero i)⟩) ?_ (λ k f hx=>?_)
      ·repeat (first|exact knows_nil _|refine knows_cons (by first|exact rfl|(conv=>{lhs;whnf};simp;done)) ?_)
      dsimp only[mkU,List.map,List.cons_append,List.nil_append]
      all_goals (refine J32 ?_;refine J85 ?_;refine J47 ?_)
      all_goals
      refine kif (λ c47=>?_) (λ c47=>?_)
      ·try exact nv c47
       all_goals (refine J37 ?_;refine J24 ?_;refine j_move ?_;refine J53 ?_;refine J47 ?_)
       all_goals
        refine kif (λ c55=>?_) (λ c55=>?_)
        ·try exact nv c55
         all_goals refine J10 ?_
         all_goals
         refine k_rv Tryz.results70 (λ w hw=>?_)
         refine⟨_,rfl,?_,hw.done⟩
         first|(simp_all[NdValid];done)|exact c3_false c41 (k:=k) (by omega) (by assumption)|exact c3_true c41 (h16.1 (by simpa using g19)) (show 0<=main by omega) (show 0<=prev by omega) (show 0<=status by omega) eo (λ i hi=>hx.2 i (by omega))|(simp_all[NdValid];omega)
        ·try exact nv c55
         all_goals (refine J34 ?_;refine J70 ?_)
         all_goals
         refine k_roundC (k+1) ?_ ?_ ?_
         ·first|omega|(simp only[];omega)
         ·repeat' (first|exact knows_nil _|refine knows_cons ?_ ?_)
          all_goals (first|exact rfl|(conv=>{lhs;whnf};simp;done)|(conv=>{lhs;whnf};congr 1;omega))
         ·exact⟨by omega,λ i hi=>by rcases Nat.lt_succ_iff_lt_or_eq.1 hi with h|rfl;exact hx.2 i h;omega⟩
      ·try exact nv c47
       all_goals (refine k_exit rfl ?_;refine k_seq ?_;refine k_dp [(0,[]),(1,[]),(2,[]),(3,[]),(4,[]),(5,[1]),(6,[]),(7,[])] ?_;refine J15 ?_;refine r_len ?_;refine J15 ?_;((refine r_own (i:=5) (hq:=(cV (hc:=λ w1 hw=>refCount_c hb2 w1))) (h:=λ x61=>?_);try (refine r_fact (λ h61=>?_))));refine r_eql ?_;refine J7 ?_)
       all_goals
        refine k_rv Tryz.results70 (λ w hw=>?_)
        refine⟨_,rfl,?_,hw.done⟩
        first|(simp_all[NdValid];done)|exact c3_false c41 (k:=k) (by omega) (by assumption)|exact c3_true c41 (h16.1 (by simpa using g19)) (show 0<=main by omega) (show 0<=prev by omega) (show 0<=status by omega) eo (λ i hi=>hx.2 i (by omega))|(simp_all[NdValid];omega)
    ·try exact nv c41
     all_goals (refine k_seq ?_;refine J39 ?_)
     all_goals
      refine kif (λ c63=>?_) (λ c63=>?_)
      ·try exact nv c63
       all_goals refine k_skip ?_
       all_goals
       refine kif (λ c63=>?_) (λ c63=>?_)
       ·try exact nv c63
        all_goals (refine J24 ?_;refine j_lenStr ?_;refine j_leq ?_;refine J1 ?_)
        all_goals
         refine k_rv Tryz.results70 (λ w hw=>?_)
         refine⟨_,rfl,?_,hw.done⟩
         first|(simp_all[NdValid];done)|exact c3_false c41 (k:=k) (by omega) (by assumption)|exact c3_true c41 (h16.1 (by simpa using g19)) (show 0<=main by omega) (show 0<=prev by omega) (show 0<=status by omega) eo (λ i hi=>hx.2 i (by omega))|(simp_all[NdValid];omega)
       ·try exact nv c63
        all_goals refine J39 ?_
        all_goals
         refine kif (λ c70=>?_) (λ c70=>?_)
         ·try exact nv c70
          all_goals (refine J24 ?_;refine j_len ?_;refine j_geq ?_;refine j_move ?_)
          all_goals (first|refine j_un ?_|(refine j_yes ?_;refine j_fieldAddr ?_)|(refine lcs 76 (λ g76=>?_) (λ g76=>?_)<;>(first|refine j_un ?_|(refine j_yes ?_;refine j_fieldAddr ?_))))
          all_goals ((first|refine j_un ?_|(refine j_yes ?_;refine j_load ?_));((first|refine j_un ?_|(refine j_yes ?_;(refine j_own (c0 (V:=.bool) (hc:=λ w1 hw=>refPrValid_c (hw.cl fin) hr.prS)) (λ x79=>?_);try (refine l_fact (λ h79=>?_))))));refine j_pick ?_;refine j_move ?_)
          all_goals (first|refine j_un ?_|(refine j_yes ?_;refine j_fieldAddr ?_)|(refine lcs 81 (λ g81=>?_) (λ g81=>?_)<;>(first|refine j_un ?_|(refine j_yes ?_;refine j_fieldAddr ?_))))
          all_goals ((first|refine j_un ?_|(refine j_yes ?_;refine j_load ?_));((first|refine j_un ?_|(refine j_yes ?_;(refine j_own (c0 (V:=.bool) (hc:=λ w1 hw=>keys_c (hw.cl fin) hr.prS)) (λ x84=>?_);try (refine l_fact (λ h84=>?_))))));refine j_pick ?_;refine J1 ?_)
          all_goals
          refine k_rv Tryz.results70 (λ w hw=>?_)
          refine⟨_,rfl,?_,hw.done⟩
          first|(simp_all[NdValid];done)|exact c3_false c41 (k:=k) (by omega) (by assumption)|exact c3_true c41 (h16.1 (by simpa using g19)) (show 0<=main by omega) (show 0<=prev by omega) (show 0<=status by omega) eo (λ i hi=>hx.2 i (by omega))|(simp_all[NdValid];omega)
         ·try exact nv c70
          all_goals refine J39 ?_
          all_goals
          refine kif (λ c86=>?_) (λ c86=>?_)
          ·try exact nv c86
           all_goals (refine J24 ?_;refine j_geq ?_;refine J1 ?_)
           all_goals
            refine k_rv Tryz.results70 (λ w hw=>?_)
            refine⟨_,rfl,?_,hw.done⟩
            first|(simp_all[NdValid];done)|exact c3_false c41 (k:=k) (by omega) (by assumption)|exact c3_true c41 (h16.1 (by simpa using g19)) (show 0<=main by omega) (show 0<=prev by omega) (show 0<=status by omega) eo (λ i hi=>hx.2 i (by omega))|(simp_all[NdValid];omega)
          ·try exact nv c86
           all_goals refine J39 ?_
           all_goals
            refine kif (λ c91=>?_) (λ c91=>?_)
            ·try exact nv c91
             all_goals (refine J24 ?_;refine j_geq ?_;refine j_move ?_)
             all_goals (first|refine j_un ?_|(refine j_yes ?_;refine j_fieldAddr ?_)|(refine lcs 96 (λ g96=>?_) (λ g96=>?_)<;>(first|refine j_un ?_|(refine j_yes ?_;refine j_fieldAddr ?_))))
             all_goals (refine J86 ?_;refine j_pick ?_;refine j_move ?_)
             all_goals (first|refine j_un ?_|(refine j_yes ?_;refine j_fieldAddr ?_)|(refine lcs 101 (λ g101=>?_) (λ g101=>?_)<;>(first|refine j_un ?_|(refine j_yes ?_;refine j_fieldAddr ?_))))
             all_goals (refine J86 ?_;refine j_pick ?_;refine J1 ?_)
             all_goals
             refine k_rv Tryz.results70 (λ w hw=>?_)
             refine⟨_,rfl,?_,hw.done⟩
             first|(simp_all[NdValid];done)|exact c3_false c41 (k:=k) (by omega) (by assumption)|exact c3_true c41 (h16.1 (by simpa using g19)) (show 0<=main by omega) (show 0<=prev by omega) (show 0<=status by omega) eo (λ i hi=>hx.2 i (by omega))|(simp_all[NdValid];omega)
            ·try exact nv c91
             all_goals (refine J34 ?_;refine J10 ?_)
             all_goals
             refine k_rv Tryz.results70 (λ w hw=>?_)
             refine⟨_,rfl,?_,hw.done⟩
             first|(simp_all[NdValid];done)|exact c3_false c41 (k:=k) (by omega) (by assumption)|exact c3_true c41 (h16.1 (by simpa using g19)) (show 0<=main by omega) (show 0<=prev by omega) (show 0<=status by omega) eo (λ i hi=>hx.2 i (by omega))|(simp_all[NdValid];omega)
      ·try exact nv c63
       all_goals (refine k_region ?_;refine J28 ?_)
       all_goals
       refine kif (λ c63=>?_) (λ c63=>?_)
       ·try exact nv c63
        all_goals (refine J24 ?_;refine j_lenStr ?_;refine j_leq ?_;refine J1 ?_)
        all_goals
         refine k_rv Tryz.results70 (λ w hw=>?_)
         refine⟨_,rfl,?_,hw.done⟩
         first|(simp_all[NdValid];done)|exact c3_false c41 (k:=k) (by omega) (by assumption)|exact c3_true c41 (h16.1 (by simpa using g19)) (show 0<=main by omega) (show 0<=prev by omega) (show 0<=status by omega) eo (λ i hi=>hx.2 i (by omega))|(simp_all[NdValid];omega)
       ·try exact nv c63
        all_goals refine J39 ?_
        all_goals
         refine kif (λ c70=>?_) (λ c70=>?_)
         ·try exact nv c70
          all_goals (refine J24 ?_;refine j_len ?_;refine j_geq ?_;refine j_move ?_)
          all_goals (first|refine j_un ?_|(refine j_yes ?_;refine j_fieldAddr ?_)|(refine lcs 76 (λ g76=>?_) (λ g76=>?_)<;>(first|refine j_un ?_|(refine j_yes ?_;refine j_fieldAddr ?_))))
          all_goals ((first|refine j_un ?_|(refine j_yes ?_;refine j_load ?_));((first|refine j_un ?_|(refine j_yes ?_;(refine j_own (c0 (V:=.bool) (hc:=λ w1 hw=>refPrValid_c (hw.cl fin) hr.prS)) (λ x79=>?_);try (refine l_fact (λ h79=>?_))))));refine j_pick ?_;refine j_move ?_)
          all_goals (first|refine j_un ?_|(refine j_yes ?_;refine j_fieldAddr ?_)|(refine lcs 81 (λ g81=>?_) (λ g81=>?_)<;>(first|refine j_un ?_|(refine j_yes ?_;refine j_fieldAddr ?_))))
          all_goals ((first|refine j_un ?_|(refine j_yes ?_;refine j_load ?_));((first|refine j_un ?_|(refine j_yes ?_;(refine j_own (c0 (V:=.bool) (hc:=λ w1 hw=>keys_c (hw.cl fin) hr.prS)) (λ x84=>?_);try (refine l_fact (λ h84=>?_))))));refine j_pick ?_;refine J1 ?_)
          all_goals
          refine k_rv Tryz.results70 (λ w hw=>?_)
          refine⟨_,rfl,?_,hw.done⟩
          first|(simp_all[NdValid];done)|exact c3_false c41 (k:=k) (by omega) (by assumption)|exact c3_true c41 (h16.1 (by simpa using g19)) (show 0<=main by omega) (show 0<=prev by omega) (show 0<=status by omega) eo (λ i hi=>hx.2 i (by omega))|(simp_all[NdValid];omega)
         ·try exact nv c70
          all_goals refine J39 ?_
          all_goals
          refine kif (λ c86=>?_) (λ c86=>?_)
          ·try exact nv c86
           all_goals (refine J24 ?_;refine j_geq ?_;refine J1 ?_)
           all_goals
            refine k_rv Tryz.results70 (λ w hw=>?_)
            refine⟨_,rfl,?_,hw.done⟩
            first|(simp_all[NdValid];done)|exact c3_false c41 (k:=k) (by omega) (by assumption)|exact c3_true c41 (h16.1 (by simpa using g19)) (show 0<=main by omega) (show 0<=prev by omega) (show 0<=status by omega) eo (λ i hi=>hx.2 i (by omega))|(simp_all[NdValid];omega)
          ·try exact nv c86
           all_goals refine J39 ?_
           all_goals
            refine kif (λ c91=>?_) (λ c91=>?_)
            ·try exact nv c91
             all_goals (refine J24 ?_;refine j_geq ?_;refine j_move ?_)
             all_goals (first|refine j_un ?_|(refine j_yes ?_;refine j_fieldAddr ?_)|(refine lcs 96 (λ g96=>?_) (λ g96=>?_)<;>(first|refine j_un ?_|(refine j_yes ?_;refine j_fieldAddr ?_))))
             all_goals (refine J86 ?_;refine j_pick ?_;refine j_move ?_)
             all_goals (first|refine j_un ?_|(refine j_yes ?_;refine j_fieldAddr ?_)|(refine lcs 101 (λ g101=>?_) (λ g101=>?_)<;>(first|refine j_un ?_|(refine j_yes ?_;refine j_fieldAddr ?_))))
             all_goals (refine J86 ?_;refine j_pick ?_;refine J1 ?_)
             all_goals
             refine k_rv Tryz.results70 (λ w hw=>?_)
             refine⟨_,rfl,?_,hw.done⟩
             first|(simp_all[NdValid];done)|exact c3_false c41 (k:=k) (by omega) (by assumption)|exact c3_true c41 (h16.1 (by simpa using g19)) (show 0<=main by omega) (show 0<=prev by omega) (show 0<=status by omega) eo (λ i hi=>hx.2 i (by omega))|(simp_all[NdValid];omega)
            ·try exact nv c91
             all_goals (refine J34 ?_;refine J10 ?_)
             all_goals
             refine k_rv Tryz.results70 (λ w hw=>?_)
             refine⟨_,rfl,?_,hw.done⟩
             first|(simp_all[NdValid];done)|exact c3_false c41 (k:=k) (by omega) (by assumption)|exact c3_true c41 (h16.1 (by simpa using g19)) (show 0<=main by omega) (show 0<=prev by omega) (show 0<=status by omega) eo (λ i hi=>hx.2 i (by omega))|(simp_all[NdValid];omega)
end Go.Proofs.YtpobgmdalcpomaaGreat
