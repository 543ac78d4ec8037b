/- Pairs: the reference's Find, Put, Drop, Of, Equal. -/
import Derived.Test.YtbajmaoegmbfgaaGreatGAutoD
set_option linter.unusedSimpArgs false
set_option linter.unusedVariables false
namespace Go.Proofs.YtbajmaoegmbfgaaGreat
open Go.RowKit Go.Ct
section
variable{l:List Pr}{a:Option Addr}{c:Nat}{k:ByteArray}{v:Int}{w:World}
theorem su{l:List Pr}{k:ByteArray}:∀{i:Nat},i<l.length->(∀j,j<i->(l.getD j (⟨#[]⟩,0)).1≠k)->(l.getD i (⟨#[]⟩,0)).1=k->rJ l k=some (l.getD i (⟨#[]⟩,0)).2:=by
 induction l with
 | nil=>intro i h;simp at h
 | cons p l ih =>
  intro i h hn he
  cases i with
  | zero=>exact if_pos he
  | succ i =>
   refine(if_neg (hn 0 (by omega))).trans ?_
   exact ih (by simp at h;omega) (λ j hj=>hn (j+1) (by omega)) he
theorem kj{l:List Pr}{k:ByteArray}(h:∀j,j<l.length->(l.getD j (⟨#[]⟩,0)).1≠k):rJ l k=none:=pJ λ p hp=>by
 obtain⟨j,hj,rfl⟩:=List.getElem_of_mem hp
 have:=h j hj
 rwa [iX hj] at this
theorem Jm(k:ByteArray)(ha:Cl w a (dW l))(hlen:l.length<=1099511627775) :
  Calls Tryz.prog 60 #[.slice a l.length c,.string k] w λ e w'=>e=.returned (.tuple #[.int .u64 ((eN l k).getD 0),.bool (eN l k).isSome])/\St w [] [] w':=by
 refine enter Tryz.func60 Tryz.ntmps60 rfl rfl (SF.s1 ha) ?_
 simp only[cN]
 all_goals (refine dh ?_;refine aW ?_;refine Hu ?_)
 all_goals
 refine fZ [4,5,6,7,8,9,10,11,12,13,14,15,16,17,18,19,20,21,22,23,24,25,26,27,28] (λ k=>[(6,.int .i64 ((k:Nat):Int))]) (λ i=>i<=l.length/\(i≠0->SA l)/\∀j,j<i->(l.getD j (⟨#[]⟩,0)).1≠k) (λ k=>l.length-k) (0) (⟨Nat.zero_le _,λ h=>absurd rfl h,λ j hj=>absurd hj (Nat.not_lt_zero j)⟩) ?_ (λ i f hx=>?_)
 ·repeat (first|exact bK _|refine bC (by first|exact rfl|(conv=>{lhs;whnf};simp;done)) ?_)
 dsimp only[iL,List.map,List.cons_append,List.nil_append]
 all_goals (refine Dz ?_;refine eH ?_;refine Ju ?_)
 all_goals ((refine fS 11 (λ g11=>?_) (λ g11=>?_)<;>(first|refine aN ?_|(refine aF ?_;refine aA ?_))))
 all_goals ((first|refine aN ?_|(refine aF ?_;refine aC (c0 (V:=.bool) (hc:=λ w1 hw=>mK (hw.cl fin) (by omega))) (λ x13 h13=>?_)));refine cX ?_;refine aH ?_)
 all_goals
  refine bG (λ c14=>?_) (λ c14=>?_)
  ·try exact nv c14
   all_goals (refine qD ?_;refine jN ?_;refine hX ?_;refine J3 ?_;refine aA ?_;refine qz ?_;refine aH ?_)
   all_goals
   refine bG (λ c23=>?_) (λ c23=>?_)
   ·all_goals (refine jN ?_;refine hX ?_;refine J3 ?_;refine J8 ?_)
    all_goals
     refine bE Tryz.results60 (λ w hw=>?_)
     rw[show eN l k=some (l.getD i (⟨#[]⟩,0)).2 from(if_pos (pL.1 (h13.1 (by simp_all)))).trans (su (by omega) hx.2.2 c23)];exact⟨rfl,hw.done⟩
   ·all_goals (refine oD ?_;refine zL ?_)
    all_goals
     refine eU (i+1) ?_ ?_ ?_
     ·first|omega|(simp only[];omega)
     ·repeat' (first|exact bK _|refine bC ?_ ?_)
      all_goals (first|exact rfl|(conv=>{lhs;whnf};simp;done)|(conv=>{lhs;whnf};congr 1;omega))
     ·exact⟨by omega,λ _=>pL.1 (h13.1 (by simp_all)),λ j hj=>by rcases Nat.lt_succ_iff_lt_or_eq.1 hj with h|rfl;exact hx.2.2 j h;assumption⟩
  ·all_goals (refine bV rfl ?_;refine dh ?_)
   all_goals
   refine bE Tryz.results60 (λ w hw=>?_)
   first
   | (rw[show eN l k=none from if_neg λ hs=>by have:=h13.2 (pL.2 hs);simp_all];exact⟨rfl,hw.done⟩)
   | (rw[show eN l k=none by unfold eN;split;exact kj λ j hj=>hx.2.2 j (by omega);rfl];exact⟨rfl,hw.done⟩)
theorem L7{l:List Pr}{i:Nat}(hi:i<l.length)(k:ByteArray):(l.take (i+1)).filter (λ p=>decide (p.1≠k))=(l.take i).filter (λ p=>decide (p.1≠k))++(if(l.getD i (⟨#[]⟩,0)).1≠k then [l.getD i (⟨#[]⟩,0)] else []):=by
 rw[List.take_add_one,List.getElem?_eq_getElem hi,iX hi,List.filter_append]
 congr 1
 by_cases h:l[i].1=k<;>simp[h]
theorem Eo{l:List Pr}{i:Nat}(hi:i<l.length)(k:ByteArray):jC (l.take (i+1)) k=if(l.getD i (⟨#[]⟩,0)).1=k then jC (l.take i) k else jC (l.take i) k++[l.getD i (⟨#[]⟩,0)]:=by
 unfold jC
 rw[L7 hi k]
 by_cases h:(l.getD i (⟨#[]⟩,0)).1=k
 ·rw[if_neg λ hn=>hn h,if_pos h,List.append_nil]
 ·rw[if_pos h,if_neg h]
theorem N6(k:ByteArray)(ha:Cl w a (dW l))(hlen:l.length<=200000000000) :
  Calls Tryz.prog 111 #[.slice a l.length c,.string k] w (ph w (jC l k)):=by
 refine enter Tryz.func111 Tryz.ntmps111 rfl rfl (SF.s1 ha) ?_
 simp only[cN]
 all_goals (refine dC ?_;refine H5 ?_;refine Hu ?_)
 all_goals
 refine oR [5,6,7,8,9,10,11,12,13,14,15,16,17,18,19,20,21,22,23,24,25,26] (λ z:Nat×Option Addr×List Pr×Nat=>[(6,.int .i64 ((z.1:Nat):Int)),(5,.slice z.2.1 z.2.2.1.length z.2.2.2)]) (λ z=>z.1<=l.length/\z.2.2.1.length<=z.2.2.2/\z.2.2.1=jC (l.take z.1) k/\z.2.2.1.length<=z.1) (λ _=>_) (λ _=>_) (λ z=>[⟨z.2.1,dW z.2.2.1,z.2.2.2,164,2⟩]) (λ z=>l.length-z.1) ((0,none,[],0)) (⟨Nat.zero_le _,Nat.le_refl _,rfl,Nat.le_refl _⟩) (λ z f hx=>?_) (hw0:=λ w hw=>(hw.mQ 164 2).back)
 dsimp only[iL,List.map,List.cons_append,List.nil_append]
 all_goals (refine Dz ?_;refine eH ?_;refine yQ ?_)
 all_goals
  refine bG (λ c10=>?_) (λ c10=>?_)
  ·all_goals (refine qD ?_;refine jN ?_;refine hX ?_;refine J3 ?_;refine aA ?_;refine q9 ?_;refine aH ?_)
   all_goals
   refine bG (λ c19=>?_) (λ c19=>?_)
   ·all_goals (refine zK ?_;refine qA ?_;refine S9 ?_;refine iH (λ x25=>?_);(refine eD (λ x26=>?_);try (refine eA (λ h26=>?_)));refine J1 ?_;refine fT ?_;refine zL ?_)
    all_goals
     refine jJ ((by first|exact(z.1+1,x26.1,z.2.2.1++[l.getD z.1 (⟨#[]⟩,0)],x26.2)|exact(z.1+1,z.2.1,z.2.2.1,z.2.2.2))) ?_ (hw1:=λ w hw=>by first|exact hw.back (hO:=by exact List.Sublist.refl _)|(rw[show z.2.2.1.length+1=(z.2.2.1++[l.getD z.1 (⟨#[]⟩,0)]).length by simp] at hw;exact hw.back (hO:=by exact List.Sublist.refl _)))
     ·obtain⟨q1,q2,q3,q4⟩:=hx
      have hdt:=Eo (l:=l) (i:=z.1) (by omega) k
      first
      | exact⟨by show z.1+1<=l.length;omega,by simp only[List.length_append,List.length_cons,List.length_nil];omega,by rw[if_neg (by assumption),<- q3] at hdt;exact hdt.symm,by simp only[List.length_append,List.length_cons,List.length_nil];omega⟩
      | exact⟨by show z.1+1<=l.length;omega,q2,by rw[if_pos (by assumption),<- q3] at hdt;exact hdt.symm,by show z.2.2.1.length<=z.1+1;omega⟩
   ·all_goals (refine oD ?_;refine zL ?_)
    all_goals
     refine jJ ((by first|exact(z.1+1,x26.1,z.2.2.1++[l.getD z.1 (⟨#[]⟩,0)],x26.2)|exact(z.1+1,z.2.1,z.2.2.1,z.2.2.2))) ?_ (hw1:=λ w hw=>by first|exact hw.back (hO:=by exact List.Sublist.refl _)|(rw[show z.2.2.1.length+1=(z.2.2.1++[l.getD z.1 (⟨#[]⟩,0)]).length by simp] at hw;exact hw.back (hO:=by exact List.Sublist.refl _)))
     ·obtain⟨q1,q2,q3,q4⟩:=hx
      have hdt:=Eo (l:=l) (i:=z.1) (by omega) k
      first
      | exact⟨by show z.1+1<=l.length;omega,by simp only[List.length_append,List.length_cons,List.length_nil];omega,by rw[if_neg (by assumption),<- q3] at hdt;exact hdt.symm,by simp only[List.length_append,List.length_cons,List.length_nil];omega⟩
      | exact⟨by show z.1+1<=l.length;omega,q2,by rw[if_pos (by assumption),<- q3] at hdt;exact hdt.symm,by show z.2.2.1.length<=z.1+1;omega⟩
  ·all_goals (refine bV rfl ?_;refine J2 ?_;refine J1 ?_)
   all_goals
   refine aU Tryz.results111 (λ w hw=>?_)
   obtain⟨q1,q2,q3,q4⟩:=hx
   have e:z.2.2.1=jC l k:=by rw[q3,List.take_of_length_le (by omega)]
   rw[<- e]
   exact⟨(z.2.1,z.2.2.2),rfl,q2,hw.aS⟩
theorem lQ{l:List Pr}{i:Nat}(hi:i<l.length):l.take (i+1)=l.take i++[l.getD i (⟨#[]⟩,0)]:=by
 rw[List.take_add_one,List.getElem?_eq_getElem hi,iX hi];rfl
theorem Yh(p:Pr)(ha:Cl w a (dW l))(hc:l.length<=c)(hs:SA l)(hn:∀q∈l,q.1≠p.1)(hlen:l.length<=200000000000) :
    Calls Tryz.prog 110 #[.slice a l.length c,.agg ⟨[.string p.1,.int .u64 p.2]⟩] w (ph w (mG l p.1 p.2)):=by
  refine enter Tryz.func110 Tryz.ntmps110 rfl rfl (SF.s1 ha) ?_
  simp only[cN]
  all_goals (refine J0 ?_;refine bW (λ x3=>?_);refine J1 ?_;refine H5 ?_;refine Hu ?_)
  all_goals
   refine oR [5,6,8,9,10,11,12,13,14,15,16,17,18,19,20,21,22,23,24,25,26,27,28,29,30] (λ z:Nat×Option Addr×List Pr×Nat=>[(6,.int .i64 ((z.1:Nat):Int)),(5,.slice z.2.1 z.2.2.1.length z.2.2.2)]) (λ z=>z.1<=l.length/\z.2.2.1.length<=z.2.2.2/\z.2.2.1=l.take z.1/\z.2.2.1.length=z.1/\∀j,j<z.1->eG (l.getD j (⟨#[]⟩,0)).1 p.1=true) (λ z=>[(x3,.cells ⟨[.string p.1,.int .u64 p.2]⟩ 164 (0,0))]) (λ _=>_) (λ z=>[⟨z.2.1,dW z.2.2.1,z.2.2.2,164,2⟩]) (λ z=>l.length-z.1) ((0,none,[],0)) (⟨Nat.zero_le _,Nat.le_refl _,rfl,rfl,λ j hj=>absurd hj (Nat.not_lt_zero j)⟩) (λ z f hx=>?_) (hw0:=λ w hw=>(hw.mQ 164 2).back)
   dsimp only[iL,List.map,List.cons_append,List.nil_append]
   all_goals (refine aW ?_;refine aW ?_;refine fL [0,1,2,3,4,5,6,7,8,9,10,11,12,13] ?_;refine iP ?_;refine mP ?_;refine Al ?_;refine aQ ?_)
   all_goals ((refine Xv 12 (λ g12=>?_) (λ g12=>?_)<;>(first|refine dL ?_|(refine aQ ?_))))
   all_goals ((first|refine dL ?_|(refine aQ ?_));(first|refine dL ?_|(refine jB ?_));refine iu ?_;refine iu ?_;(first|refine dL ?_|(refine Zh ?_));refine fK ?_;refine eC ?_)
   all_goals
    refine bG (λ c21=>?_) (λ c21=>?_)
    · try exact nv c21
      all_goals (refine qD ?_;refine zK ?_;refine qA ?_;refine S9 ?_;refine iH (λ x29=>?_);(refine aY (by first|exact aM.eJ (D9 rf rf dV rfl fin (by exact kE rfl) gK (by omega)) (by intro x;simp only[kF];exact rfl)|exact aM.eJ (Gi (l2:=l.drop z.2.2.1.length) rf rf dV (by simp;done) fin (by rw[List.length_drop]) (by exact kE rfl) gK (by omega)) (by intro x;simp only[kF];exact rfl)) (λ x30=>?_);try (refine eA (λ h30=>?_)));refine J1 ?_;refine fT ?_;refine zL ?_)
      all_goals
       refine jJ ((z.1+1,x30.1,z.2.2.1++[l.getD z.1 (⟨#[]⟩,0)],x30.2)) ?_ (hw1:=λ w hw=>hw.back (hO:=by exact List.Sublist.refl _))
       · obtain⟨q1,q2,q3,q4,q5⟩:=hx
         refine⟨by show z.1+1<=l.length;omega,by simp only[List.length_append,List.length_cons,List.length_nil];omega,by rw[lQ (by omega),<- q3],by simp only[List.length_append,List.length_cons,List.length_nil];omega,λ j hj=>?_⟩
         rcases Nat.lt_succ_iff_lt_or_eq.1 hj with h|rfl
         · exact q5 j h
         · exact c21
    · all_goals
       refine Q6 (λ w hw=>hw.aAq (k:=z.2.2.1.length) (c:=c) fin hc) ?_
      all_goals (refine bV rfl ?_;refine J2 ?_;refine eH ?_;refine jM ?_;refine fL [0,1,4,5,6,2,3,7,8] ?_;refine aQ ?_;refine bR ?_;refine iP ?_;refine cH (i:=6) (hq:=(cr (k:=z.2.2.1.length) rf rf gK (by exact tV rfl) (by omega) (by omega))) (h:=?_);refine bL (h:=λ x35=>?_);((refine cL (i:=3) (hq:=(by first|exact aM.eJ (D9 rf rf dV rfl fin (by exact kE rfl) gK (by omega)) (by intro x;simp only[kF];exact rfl)|exact aM.eJ (Gi (l2:=l.drop z.2.2.1.length) rf rf dV (by simp;done) fin (by rw[List.length_drop]) (by exact kE rfl) gK (by omega)) (by intro x;simp only[kF];exact rfl))) (h:=λ x36=>?_);try (refine cW (λ h36=>?_))));((refine cL (i:=7) (hq:=(by first|exact aM.eJ (D9 rf rf dV rfl fin (by exact kE rfl) gK (by omega)) (by intro x;simp only[kF];exact rfl)|exact aM.eJ (Gi (l2:=l.drop z.2.2.1.length) rf rf dV (by simp;done) fin (by rw[List.length_drop]) (by exact kE rfl) gK (by omega)) (by intro x;simp only[kF];exact rfl))) (h:=λ x40=>?_);try (refine cW (λ h40=>?_))));refine J7 ?_)
      all_goals
       refine aU Tryz.results110 (λ w hw=>?_)
       obtain⟨q1,q2,q3,q4,q5⟩:=hx
       have hp:Oy l p.1 z.1:=⟨q1,q5,by first|exact zk hs c21|(intro j h1 h2;omega)⟩
       have e:mG l p.1 p.2=z.2.2.1++[(p.1,p.2)]++l.drop z.2.2.1.length:=by
        rw[Uz hp λ hh=>?_,q4,<- q3,List.append_assoc]
        · rfl
        · exact hn _ (by rw[iX hh.1];exact List.getElem_mem hh.1) hh.2
       have e2:(z.2.2.1++[(p.1,p.2)]++l.drop z.2.2.1.length).length=z.2.2.1.length+1+(l.length-z.2.2.1.length):=by rw[List.length_append,List.length_append,List.length_drop];rfl
       rw[e]
       exact⟨x40,by rw[e2];rfl,by rw[e2];exact h40,hw.aS⟩
theorem vB(k:ByteArray)(ha:Cl w a (dW l))(hlen:l.length<=200000000000) :
  Calls Tryz.prog 111 #[.slice a l.length c,.string k] w (Vr w (jC l k)):=(N6 k ha hlen).mono λ _ _ h=>h.R7
theorem Nw(p:Pr)(ha:Cl w a (dW l))(hc:l.length<=c)(hs:SA l)(hn:∀q∈l,q.1≠p.1)(hlen:l.length<=200000000000) :
  Calls Tryz.prog 110 #[.slice a l.length c,.agg ⟨[.string p.1,.int .u64 p.2]⟩] w (Vr w (mG l p.1 p.2)):=(Yh p ha hc hs hn hlen).mono λ _ _ h=>h.R7
theorem Ig{l:List Pr}{k:ByteArray}:∀q∈jC l k,q.1≠k:=λ q hq=>by simpa using(List.mem_filter.1 hq).2
theorem Gj(l:List Pr)(k:ByteArray):(jC l k).length<=l.length:=List.length_filter_le _ _
theorem fo(k:ByteArray)(v:Int)(ha:Cl w a (dW l))(hlen:l.length<=200000000000) :
  Calls Tryz.prog 256 #[.slice a l.length c,.string k,.int .u64 v] w (Vr w (Nu l k v)):=by
 have hdl:=Gj l k
 refine enter Tryz.func256 Tryz.ntmps256 rfl rfl (SF.s1 ha) ?_
 simp only[cN]
 all_goals (refine dC ?_;refine lW ?_;refine aC (c0 (V:=.bool) (hc:=λ w1 hw=>mK (hw.cl fin) (by omega))) (λ x8 h8=>?_);refine qT ?_)
 all_goals
 refine bG (λ c9=>?_) (λ c9=>?_)
 ·all_goals refine dC ?_
  all_goals
   refine aU Tryz.results256 (λ w hw=>?_)
   rw[show Nu l k v=[] from if_neg λ hs=>by rw[h8.2 (pL.2 hs)] at c9;cases c9];exact⟨(none,0),rfl,Nat.le_refl _,(hw.K1 none).fin⟩
 ·all_goals
   have hs:SA l:=pL.1 (h8.1 (by simpa using c9))
  all_goals (refine Ck ?_;refine aC (cF (hc:=λ w1 hw=>vB k (hw.cl fin) hlen)) (λ x12 h12=>?_);refine qA ?_;refine bO ?_;refine aC (cF (hc:=λ w1 hw=>Nw (k,v) (hw.cl fin) h12 (vY k hs) Ig (by omega))) (λ x16 h16=>?_);refine J1 ?_)
  all_goals
   refine aU Tryz.results256 (λ w hw=>?_)
   rw[show Nu l k v=mG (jC l k) k v from(if_pos hs).trans (Nz hs k v).symm];exact⟨x16,rfl,h16,hw.fin⟩
theorem W5(k:ByteArray)(ha:Cl w a (dW l))(hlen:l.length<=200000000000) :
  Calls Tryz.prog 258 #[.slice a l.length c,.string k] w (Vr w (rM l k)):=by
 refine enter Tryz.func258 Tryz.ntmps258 rfl rfl (SF.s1 ha) ?_
 simp only[cN]
 all_goals (refine dC ?_;refine lW ?_;refine aC (c0 (V:=.bool) (hc:=λ w1 hw=>mK (hw.cl fin) (by omega))) (λ x6 h6=>?_);refine qT ?_)
 all_goals
 refine bG (λ c7=>?_) (λ c7=>?_)
 ·all_goals refine dC ?_
  all_goals
   refine aU Tryz.results258 (λ w hw=>?_)
   rw[show rM l k=[] from if_neg λ hs=>by rw[h6.2 (pL.2 hs)] at c7;cases c7];exact⟨(none,0),rfl,Nat.le_refl _,(hw.K1 none).fin⟩
 ·all_goals
   have hs:SA l:=pL.1 (h6.1 (by simpa using c7))
  all_goals (refine Ck ?_;refine aC (cF (hc:=λ w1 hw=>vB k (hw.cl fin) hlen)) (λ x10 h10=>?_);refine J1 ?_)
  all_goals
   refine aU Tryz.results258 (λ w hw=>?_)
   rw[show rM l k=jC l k from if_pos hs];exact⟨x10,rfl,h10,hw.fin⟩
theorem kr(ha:Cl w a (dW l))(hlen:l.length<=200000000000) :
    Calls Tryz.prog 61 #[.slice a l.length c] w (Vr w (Dc l)):=by
  refine enter Tryz.func61 Tryz.ntmps61 rfl rfl (SF.s1 ha) ?_
  simp only[cN]
  all_goals (refine dC ?_;refine H5 ?_;refine Hu ?_)
  all_goals
   refine oR [3,4,5,6,7,8,9,10,11,12,13,14,15,16,17,18,19,20,21,22] (λ z:Nat×Option Addr×List Pr×Nat=>[(4,.int .i64 ((z.1:Nat):Int)),(3,.slice z.2.1 z.2.2.1.length z.2.2.2)]) (λ z=>z.1<=l.length/\z.2.2.1.length<=z.2.2.2/\z.2.2.1=Dc (l.take z.1)/\z.2.2.1.length<=z.1/\SA z.2.2.1) (λ _=>_) (λ z=>[(z.2.1,dW z.2.2.1)]) (λ _=>_) (λ z=>l.length-z.1) ((0,none,[],0)) (⟨Nat.zero_le _,Nat.le_refl _,rfl,Nat.le_refl _,List.Pairwise.nil⟩) (λ z f hx=>?_) (hw0:=λ w hw=>(hw.K1 none).back)
   dsimp only[iL,List.map,List.cons_append,List.nil_append]
   all_goals (refine Dz ?_;refine eH ?_;refine yQ ?_)
   all_goals
    refine bG (λ c8=>?_) (λ c8=>?_)
    · all_goals
       have hdl:=Gj z.2.2.1 (l.getD z.1 (⟨#[]⟩,0)).1
      all_goals (refine qD ?_;refine dX [(0,[]),(1,[]),(2,[]),(3,[]),(4,[]),(5,[]),(7,[]),(8,[]),(9,[]),(10,[]),(6,[9,10]),(11,[]),(12,[])] ?_;refine iP ?_;refine aQ ?_;refine jB ?_;refine nA ?_;refine iP ?_;refine Hq ?_;refine bA (i:=6) (hq:=(cF (hc:=λ w1 hw=>vB (l.getD z.1 (⟨#[]⟩,0)).1 (hw.cl fin) (by omega)))) (h:=λ x17 h17=>?_);refine bA (i:=11) (hq:=(cF (hc:=λ w1 hw=>Nw (l.getD z.1 (⟨#[]⟩,0)) (hw.cl fin) h17 (vY _ hx.2.2.2.2) Ig (by omega)))) (h:=λ x22 h22=>?_);refine J7 ?_;refine fT ?_;refine zL ?_)
      all_goals
       refine jJ ((z.1+1,x22.1,mG (jC z.2.2.1 (l.getD z.1 (⟨#[]⟩,0)).1) (l.getD z.1 (⟨#[]⟩,0)).1 (l.getD z.1 (⟨#[]⟩,0)).2,x22.2)) ?_
       · obtain⟨q1,q2,q3,q4,q5⟩:=hx
         have e:=Nz q5 (l.getD z.1 (⟨#[]⟩,0)).1 (l.getD z.1 (⟨#[]⟩,0)).2
         have hl:=wZ (k:=(l.getD z.1 (⟨#[]⟩,0)).1) (v:=(l.getD z.1 (⟨#[]⟩,0)).2) q5
         rw[e] at h22
         refine⟨by show z.1+1<=l.length;omega,by show(mG _ _ _).length<=_;rw[e];exact h22,?_,?_,?_⟩
         · show mG _ _ _=_
           rw[e,lQ (by omega),wA,<- q3]
         · show(mG _ _ _).length<=z.1+1
           rw[e,hl];split<;>omega
         · show SA (mG _ _ _)
           rw[e];exact xN q5
    · all_goals (refine bV rfl ?_;refine J2 ?_;refine J1 ?_)
      all_goals
       refine aU Tryz.results61 (λ w hw=>?_)
       obtain⟨q1,q2,q3,q4,q5⟩:=hx
       have e:z.2.2.1=Dc l:=by rw[q3,List.take_of_length_le (by omega)]
       rw[<- e]
       exact⟨(z.2.1,z.2.2.2),rfl,q2,hw.fin⟩
end
end Go.Proofs.YtbajmaoegmbfgaaGreat
