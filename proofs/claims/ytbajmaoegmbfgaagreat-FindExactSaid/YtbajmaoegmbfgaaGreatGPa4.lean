/- Pairs: the reference's Find, Put, Drop, Of, Equal. -/
import Derived.Test.YtbajmaoegmbfgaaGreatGPa1
import Derived.Test.YtbajmaoegmbfgaaGreatGMem

set_option linter.unusedSimpArgs false
set_option linter.unusedVariables false
namespace Go.Proofs.YtbajmaoegmbfgaaGreat
section
open Go.RowKit Go.Ct
section
variable{l:List Pr}{a:Option Addr}{c:Nat}{k:ByteArray}{v:Int}{w:World}
theorem wo{l:List Pr}{k:ByteArray}:∀{i:Nat},i<l.length->(∀j,j<i->(l.getD j (⟨#[]⟩,0)).1≠k)->(l.getD i (⟨#[]⟩,0)).1=k->qX l k=some (l.getD i (⟨#[]⟩,0)).2:=by
 induction l with
 | nil=>intro i h;simp at h
 | cons p l ih =>
  intro i h hn he
  cases i with
  | zero=>exact if_pos he
  | succ i =>
   refine(if_neg (hn 0 (by omega))).trans ?_
   exact ih (by simp at h;omega) (λ j hj=>hn (j+1) (by omega)) he
theorem rl{l:List Pr}{k:ByteArray}(h:∀j,j<l.length->(l.getD j (⟨#[]⟩,0)).1≠k):qX l k=none:=nI λ p hp=>by
 obtain⟨j,hj,rfl⟩:=List.getElem_of_mem hp
 have:=h j hj
 rwa [gG hj] at this
theorem I7(k:ByteArray)(ha:Cl w a (dE l))(hlen:l.length<=1099511627775) :
  Calls Tryz.prog 60 #[.slice a l.length c,.string k] w λ e w'=>e=.returned (.tuple #[.int .u64 ((cN l k).getD 0),.bool (cN l k).isSome])/\St w [] [] w':=by
 refine enter Tryz.func60 Tryz.ntmps60 rfl rfl (SF.s1 ha) ?_
 simp only[bY]
 refine Qa ?_;refine aV ?_;refine Hr ?_
 refine fG [4,5,6,7,8,9,10,11,12,13,14,15,16,17,18,19,20,21,22,23,24,25,26,27,28] (λ k=>[(6,.int .i64 ((k:Nat):Int))]) (λ i=>i<=l.length/\(i≠0->SA l)/\∀j,j<i->(l.getD j (⟨#[]⟩,0)).1≠k) (λ k=>l.length-k) (0) (⟨Nat.zero_le _,λ h=>absurd rfl h,λ j hj=>absurd hj (Nat.not_lt_zero j)⟩) ?_ (λ i f hx=>?_)
 ·repeat (first|exact bG _|refine bB (by exact rfl) ?_)
 dsimp only[gU,List.map,List.cons_append,List.nil_append]
 refine Dg ?_;refine dG ?_;refine G7 ?_
 (refine eM 11 (λ g11=>?_) (λ g11=>?_)<;>(first|refine aJ ?_|(refine aF ?_;refine aA ?_)))
 all_goals ((first|refine aJ ?_|(refine aF ?_;refine aC (c0 (V:=.bool) (hc:=λ w1 hw=>lU (hw.cl fin) (by omega))) (λ x13 h13=>?_)));refine cH ?_;refine aG ?_)
 all_goals
 refine bE (λ c14=>?_) (λ c14=>?_)
 ·try exact nv c14
  all_goals (refine qP ?_;refine iM ?_;refine fL ?_;refine J3 ?_;refine aA ?_;refine sj ?_;refine aG ?_)
  all_goals
   refine bE (λ c23=>?_) (λ c23=>?_)
   ·refine iM ?_;refine fL ?_;refine J3 ?_;refine J8 ?_
    refine bC Tryz.results60 (λ w hw=>?_)
    rw[show cN l k=some (l.getD i (⟨#[]⟩,0)).2 from(if_pos (nB.1 (h13.1 (by simp_all)))).trans (wo (by omega) hx.2.2 c23)];exact⟨rfl,hw.done⟩
   ·refine nY ?_;refine yU ?_
    refine dV (i+1) ?_ ?_ ?_
    ·omega
    ·repeat' (first|exact bG _|refine bB ?_ ?_)
     exact rfl
    ·exact⟨by omega,λ _=>nB.1 (h13.1 (by simp_all)),λ j hj=>by rcases Nat.lt_succ_iff_lt_or_eq.1 hj with h|rfl;exact hx.2.2 j h;assumption⟩
 ·all_goals (refine bM rfl ?_;refine Qa ?_)
  all_goals
   refine bC Tryz.results60 (λ w hw=>?_)
   first
   | (rw[show cN l k=none from if_neg λ hs=>by have:=h13.2 (nB.2 hs);simp_all];exact⟨rfl,hw.done⟩)
   | (rw[show cN l k=none by unfold cN;split;exact rl λ j hj=>hx.2.2 j (by omega);rfl];exact⟨rfl,hw.done⟩)
theorem Jy{l:List Pr}{i:Nat}(hi:i<l.length)(k:ByteArray):(l.take (i+1)).filter (λ p=>decide (p.1≠k))=(l.take i).filter (λ p=>decide (p.1≠k))++(if(l.getD i (⟨#[]⟩,0)).1≠k then [l.getD i (⟨#[]⟩,0)] else []):=by
 rw[List.take_add_one,List.getElem?_eq_getElem hi,gG hi,List.filter_append]
 congr 1
 by_cases h:l[i].1=k<;>simp[h]
theorem Hf{l:List Pr}{i:Nat}(hi:i<l.length)(k:ByteArray):iO (l.take (i+1)) k=if(l.getD i (⟨#[]⟩,0)).1=k then iO (l.take i) k else iO (l.take i) k++[l.getD i (⟨#[]⟩,0)]:=by
 unfold iO
 rw[Jy hi k]
 by_cases h:(l.getD i (⟨#[]⟩,0)).1=k
 ·rw[if_neg λ hn=>hn h,if_pos h,List.append_nil]
 ·rw[if_pos h,if_neg h]
theorem Pn(k:ByteArray)(ha:Cl w a (dE l))(hlen:l.length<=200000000000) :
  Calls Tryz.prog 111 #[.slice a l.length c,.string k] w (m9 w (iO l k)):=by
 refine enter Tryz.func111 Tryz.ntmps111 rfl rfl (SF.s1 ha) ?_
 simp only[bY]
 refine cQ ?_;refine Hz ?_;refine Hr ?_
 refine oB [5,6,7,8,9,10,11,12,13,14,15,16,17,18,19,20,21,22,23,24,25,26] (λ z:Nat×Option Addr×List Pr×Nat=>[(6,.int .i64 ((z.1:Nat):Int)),(5,.slice z.2.1 z.2.2.1.length z.2.2.2)]) (λ z=>z.1<=l.length/\z.2.2.1.length<=z.2.2.2/\z.2.2.1=iO (l.take z.1) k/\z.2.2.1.length<=z.1) (λ _=>_) (λ _=>_) (λ z=>[⟨z.2.1,dE z.2.2.1,z.2.2.2,164,2⟩]) (λ z=>l.length-z.1) ((0,none,[],0)) (⟨Nat.zero_le _,Nat.le_refl _,rfl,Nat.le_refl _⟩) (λ z f hx=>?_) (hw0:=λ w hw=>(hw.lZ 164 2).back)
 dsimp only[gU,List.map,List.cons_append,List.nil_append]
 refine Dg ?_;refine dG ?_;refine xD ?_
 refine bE (λ c10=>?_) (λ c10=>?_)
 ·refine qP ?_;refine iM ?_;refine fL ?_;refine J3 ?_;refine aA ?_;refine sq ?_;refine aG ?_
  refine bE (λ c19=>?_) (λ c19=>?_)
  ·refine wQ ?_;refine pV ?_;refine Yd ?_;refine gW (λ x25=>?_);(refine fO (λ x26=>?_);try (refine eX (λ h26=>?_)));refine J1 ?_;refine eU ?_;refine yU ?_
   refine iS ((by exact(z.1+1,x26.1,z.2.2.1++[l.getD z.1 (⟨#[]⟩,0)],x26.2))) ?_ (hw1:=λ w hw=>by exact hw.back (hO:=by exact List.Sublist.refl _))
   ·obtain⟨q1,q2,q3,q4⟩:=hx
    have hdt:=Hf (l:=l) (i:=z.1) (by omega) k
    first
    | exact⟨by show z.1+1<=l.length;omega,by simp only[List.length_append,List.length_cons,List.length_nil];omega,by rw[if_neg (by assumption),<- q3] at hdt;exact hdt.symm,by simp only[List.length_append,List.length_cons,List.length_nil];omega⟩
    | exact⟨by show z.1+1<=l.length;omega,q2,by rw[if_pos (by assumption),<- q3] at hdt;exact hdt.symm,by show z.2.2.1.length<=z.1+1;omega⟩
  ·refine nY ?_;refine yU ?_
   refine iS ((by exact(z.1+1,z.2.1,z.2.2.1,z.2.2.2))) ?_ (hw1:=λ w hw=>by exact hw.back (hO:=by exact List.Sublist.refl _))
   ·obtain⟨q1,q2,q3,q4⟩:=hx
    have hdt:=Hf (l:=l) (i:=z.1) (by omega) k
    first
    | exact⟨by show z.1+1<=l.length;omega,by simp only[List.length_append,List.length_cons,List.length_nil];omega,by rw[if_neg (by assumption),<- q3] at hdt;exact hdt.symm,by simp only[List.length_append,List.length_cons,List.length_nil];omega⟩
    | exact⟨by show z.1+1<=l.length;omega,q2,by rw[if_pos (by assumption),<- q3] at hdt;exact hdt.symm,by show z.2.2.1.length<=z.1+1;omega⟩
 ·refine bM rfl ?_;refine J2 ?_;refine J1 ?_
  refine aT Tryz.results111 (λ w hw=>?_)
  obtain⟨q1,q2,q3,q4⟩:=hx
  have e:z.2.2.1=iO l k:=by rw[q3,List.take_of_length_le (by omega)]
  rw[<- e]
  exact⟨(z.2.1,z.2.2.2),rfl,q2,hw.aU⟩
theorem lP{l:List Pr}{i:Nat}(hi:i<l.length):l.take (i+1)=l.take i++[l.getD i (⟨#[]⟩,0)]:=by
 rw[List.take_add_one,List.getElem?_eq_getElem hi,gG hi];rfl
theorem Z1(p:Pr)(ha:Cl w a (dE l))(hc:l.length<=c)(hs:SA l)(hn:∀q∈l,q.1≠p.1)(hlen:l.length<=200000000000) :
    Calls Tryz.prog 110 #[.slice a l.length c,.agg ⟨[.string p.1,.int .u64 p.2]⟩] w (m9 w (kQ l p.1 p.2)):=by
  refine enter Tryz.func110 Tryz.ntmps110 rfl rfl (SF.s1 ha) ?_
  simp only[bY]
  refine J0 ?_;refine bN (λ x3=>?_);refine J1 ?_;refine Hz ?_;refine Hr ?_
  refine oB [5,6,8,9,10,11,12,13,14,15,16,17,18,19,20,21,22,23,24,25,26,27,28,29,30] (λ z:Nat×Option Addr×List Pr×Nat=>[(6,.int .i64 ((z.1:Nat):Int)),(5,.slice z.2.1 z.2.2.1.length z.2.2.2)]) (λ z=>z.1<=l.length/\z.2.2.1.length<=z.2.2.2/\z.2.2.1=l.take z.1/\z.2.2.1.length=z.1/\∀j,j<z.1->cX (l.getD j (⟨#[]⟩,0)).1 p.1=true) (λ z=>[(x3,.cells ⟨[.string p.1,.int .u64 p.2]⟩ 164 (0,0))]) (λ _=>_) (λ z=>[⟨z.2.1,dE z.2.2.1,z.2.2.2,164,2⟩]) (λ z=>l.length-z.1) ((0,none,[],0)) (⟨Nat.zero_le _,Nat.le_refl _,rfl,rfl,λ j hj=>absurd hj (Nat.not_lt_zero j)⟩) (λ z f hx=>?_) (hw0:=λ w hw=>(hw.lZ 164 2).back)
  dsimp only[gU,List.map,List.cons_append,List.nil_append]
  refine aV ?_;refine aV ?_;refine gI [0,1,2,3,4,5,6,7,8,9,10,11,12,13] ?_;refine iD ?_;refine pE ?_;refine Ay ?_;refine aN ?_
  (refine Yq 12 (λ g12=>?_) (λ g12=>?_)<;>(first|refine dD ?_|(refine aN ?_)))
  all_goals ((first|refine dD ?_|(refine aN ?_));(first|refine dD ?_|(refine iN ?_));refine Yw ?_;refine Yw ?_;(first|refine dD ?_|(refine aq ?_));refine eO ?_;refine eA ?_)
  all_goals
   refine bE (λ c21=>?_) (λ c21=>?_)
   · try exact nv c21
     all_goals (refine qP ?_;refine wQ ?_;refine pV ?_;refine Yd ?_;refine gW (λ x29=>?_);(refine aQ (by(exact bF.eN (K0 rf rf zH rfl fin (by exact pK rfl) hY (by omega)) (by intro x;simp only[kS];exact rfl))) (λ x30=>?_);try (refine eX (λ h30=>?_)));refine J1 ?_;refine eU ?_;refine yU ?_)
     all_goals
      refine iS ((z.1+1,x30.1,z.2.2.1++[l.getD z.1 (⟨#[]⟩,0)],x30.2)) ?_ (hw1:=λ w hw=>hw.back (hO:=by exact List.Sublist.refl _))
      · obtain⟨q1,q2,q3,q4,q5⟩:=hx
        refine⟨by show z.1+1<=l.length;omega,by simp only[List.length_append,List.length_cons,List.length_nil];omega,by rw[lP (by omega),<- q3],by simp only[List.length_append,List.length_cons,List.length_nil];omega,λ j hj=>?_⟩
        rcases Nat.lt_succ_iff_lt_or_eq.1 hj with h|rfl
        · exact q5 j h
        · exact c21
   · all_goals
      refine Sq (λ w hw=>hw.aBi (k:=z.2.2.1.length) (c:=c) fin hc) ?_
     all_goals (refine bM rfl ?_;refine J2 ?_;refine dG ?_;refine iT ?_;refine gI [0,1,4,5,6,2,3,7,8] ?_;refine aN ?_;refine bP ?_;refine iD ?_;refine cG (i:=6) (hq:=(j5 (k:=z.2.2.1.length) rf rf hY (by exact tK rfl) (by omega) (by omega))) (h:=?_);refine cE (h:=λ x35=>?_);((refine cL (i:=3) (hq:=(by(exact bF.eN (K0 rf rf zH rfl fin (by exact pK rfl) hY (by omega)) (by intro x;simp only[kS];exact rfl)))) (h:=λ x36=>?_);try (refine eW (λ h36=>?_))));((refine cL (i:=7) (hq:=(by(exact bF.eN (Sv (l2:=l.drop z.2.2.1.length) rf rf zH (by simp;done) fin (by rw[List.length_drop]) (by exact pK rfl) hY (by omega)) (by intro x;simp only[kS];exact rfl)))) (h:=λ x40=>?_);try (refine eW (λ h40=>?_))));refine J7 ?_)
     all_goals
      refine aT Tryz.results110 (λ w hw=>?_)
      obtain⟨q1,q2,q3,q4,q5⟩:=hx
      have hp:xT l p.1 z.1:=⟨q1,q5,by first|exact cr hs c21|(intro j h1 h2;omega)⟩
      have e:kQ l p.1 p.2=z.2.2.1++[(p.1,p.2)]++l.drop z.2.2.1.length:=by
       rw[Tl hp λ hh=>?_,q4,<- q3,List.append_assoc]
       · rfl
       · exact hn _ (by rw[gG hh.1];exact List.getElem_mem hh.1) hh.2
      have e2:(z.2.2.1++[(p.1,p.2)]++l.drop z.2.2.1.length).length=z.2.2.1.length+1+(l.length-z.2.2.1.length):=by rw[List.length_append,List.length_append,List.length_drop];rfl
      rw[e]
      exact⟨x40,by rw[e2];rfl,by rw[e2];exact h40,hw.aU⟩
theorem vN(k:ByteArray)(ha:Cl w a (dE l))(hlen:l.length<=200000000000) :
  Calls Tryz.prog 111 #[.slice a l.length c,.string k] w (Wf w (iO l k)):=(Pn k ha hlen).mono λ _ _ h=>h.Lz
theorem No(p:Pr)(ha:Cl w a (dE l))(hc:l.length<=c)(hs:SA l)(hn:∀q∈l,q.1≠p.1)(hlen:l.length<=200000000000) :
  Calls Tryz.prog 110 #[.slice a l.length c,.agg ⟨[.string p.1,.int .u64 p.2]⟩] w (Wf w (kQ l p.1 p.2)):=(Z1 p ha hc hs hn hlen).mono λ _ _ h=>h.Lz
theorem I1{l:List Pr}{k:ByteArray}:∀q∈iO l k,q.1≠k:=λ q hq=>by simpa using(List.mem_filter.1 hq).2
theorem Gw(l:List Pr)(k:ByteArray):(iO l k).length<=l.length:=List.length_filter_le _ _
theorem jh(k:ByteArray)(v:Int)(ha:Cl w a (dE l))(hlen:l.length<=200000000000) :
  Calls Tryz.prog 256 #[.slice a l.length c,.string k,.int .u64 v] w (Wf w (N7 l k v)):=by
 have hdl:=Gw l k
 refine enter Tryz.func256 Tryz.ntmps256 rfl rfl (SF.s1 ha) ?_
 simp only[bY]
 refine cQ ?_;refine kK ?_;refine aC (c0 (V:=.bool) (hc:=λ w1 hw=>lU (hw.cl fin) (by omega))) (λ x8 h8=>?_);refine pA ?_
 refine bE (λ c9=>?_) (λ c9=>?_)
 ·refine cQ ?_
  refine aT Tryz.results256 (λ w hw=>?_)
  rw[show N7 l k v=[] from if_neg λ hs=>by rw[h8.2 (nB.2 hs)] at c9;cases c9];exact⟨(none,0),rfl,Nat.le_refl _,(hw.Kl none).fin⟩
 ·have hs:SA l:=nB.1 (h8.1 (by simpa using c9))
  refine yH ?_;refine aC (cF (hc:=λ w1 hw=>vN k (hw.cl fin) hlen)) (λ x12 h12=>?_);refine pV ?_;refine bJ ?_;refine aC (cF (hc:=λ w1 hw=>No (k,v) (hw.cl fin) h12 (vA k hs) I1 (by omega))) (λ x16 h16=>?_);refine J1 ?_
  refine aT Tryz.results256 (λ w hw=>?_)
  rw[show N7 l k v=kQ (iO l k) k v from(if_pos hs).trans (Pe hs k v).symm];exact⟨x16,rfl,h16,hw.fin⟩
theorem Xl(k:ByteArray)(ha:Cl w a (dE l))(hlen:l.length<=200000000000) :
  Calls Tryz.prog 258 #[.slice a l.length c,.string k] w (Wf w (rL l k)):=by
 refine enter Tryz.func258 Tryz.ntmps258 rfl rfl (SF.s1 ha) ?_
 simp only[bY]
 refine cQ ?_;refine kK ?_;refine aC (c0 (V:=.bool) (hc:=λ w1 hw=>lU (hw.cl fin) (by omega))) (λ x6 h6=>?_);refine pA ?_
 refine bE (λ c7=>?_) (λ c7=>?_)
 ·refine cQ ?_
  refine aT Tryz.results258 (λ w hw=>?_)
  rw[show rL l k=[] from if_neg λ hs=>by rw[h6.2 (nB.2 hs)] at c7;cases c7];exact⟨(none,0),rfl,Nat.le_refl _,(hw.Kl none).fin⟩
 ·have hs:SA l:=nB.1 (h6.1 (by simpa using c7))
  refine yH ?_;refine aC (cF (hc:=λ w1 hw=>vN k (hw.cl fin) hlen)) (λ x10 h10=>?_);refine J1 ?_
  refine aT Tryz.results258 (λ w hw=>?_)
  rw[show rL l k=iO l k from if_pos hs];exact⟨x10,rfl,h10,hw.fin⟩
theorem n9(ha:Cl w a (dE l))(hlen:l.length<=200000000000) :
  Calls Tryz.prog 61 #[.slice a l.length c] w (Wf w (Df l)):=by
 refine enter Tryz.func61 Tryz.ntmps61 rfl rfl (SF.s1 ha) ?_
 simp only[bY]
 refine cQ ?_;refine Hz ?_;refine Hr ?_
 refine oB [3,4,5,6,7,8,9,10,11,12,13,14,15,16,17,18,19,20,21,22] (λ z:Nat×Option Addr×List Pr×Nat=>[(4,.int .i64 ((z.1:Nat):Int)),(3,.slice z.2.1 z.2.2.1.length z.2.2.2)]) (λ z=>z.1<=l.length/\z.2.2.1.length<=z.2.2.2/\z.2.2.1=Df (l.take z.1)/\z.2.2.1.length<=z.1/\SA z.2.2.1) (λ _=>_) (λ z=>[(z.2.1,dE z.2.2.1)]) (λ _=>_) (λ z=>l.length-z.1) ((0,none,[],0)) (⟨Nat.zero_le _,Nat.le_refl _,rfl,Nat.le_refl _,List.Pairwise.nil⟩) (λ z f hx=>?_) (hw0:=λ w hw=>(hw.Kl none).back)
 dsimp only[gU,List.map,List.cons_append,List.nil_append]
 refine Dg ?_;refine dG ?_;refine xD ?_
 refine bE (λ c8=>?_) (λ c8=>?_)
 ·have hdl:=Gw z.2.2.1 (l.getD z.1 (⟨#[]⟩,0)).1
  refine qP ?_;refine dZ [(0,[]),(1,[]),(2,[]),(3,[]),(4,[]),(5,[]),(7,[]),(8,[]),(9,[]),(10,[]),(6,[9,10]),(11,[]),(12,[])] ?_;refine iD ?_;refine aN ?_;refine iN ?_;refine mL ?_;refine iD ?_;refine Ny ?_;refine bD (i:=6) (hq:=(cF (hc:=λ w1 hw=>vN (l.getD z.1 (⟨#[]⟩,0)).1 (hw.cl fin) (by omega)))) (h:=λ x17 h17=>?_);refine bD (i:=11) (hq:=(cF (hc:=λ w1 hw=>No (l.getD z.1 (⟨#[]⟩,0)) (hw.cl fin) h17 (vA _ hx.2.2.2.2) I1 (by omega)))) (h:=λ x22 h22=>?_);refine J7 ?_;refine eU ?_;refine yU ?_
  refine iS ((z.1+1,x22.1,kQ (iO z.2.2.1 (l.getD z.1 (⟨#[]⟩,0)).1) (l.getD z.1 (⟨#[]⟩,0)).1 (l.getD z.1 (⟨#[]⟩,0)).2,x22.2)) ?_
  ·obtain⟨q1,q2,q3,q4,q5⟩:=hx
   have e:=Pe q5 (l.getD z.1 (⟨#[]⟩,0)).1 (l.getD z.1 (⟨#[]⟩,0)).2
   have hl:=wV (k:=(l.getD z.1 (⟨#[]⟩,0)).1) (v:=(l.getD z.1 (⟨#[]⟩,0)).2) q5
   rw[e] at h22
   refine⟨by show z.1+1<=l.length;omega,by show(kQ _ _ _).length<=_;rw[e];exact h22,?_,?_,?_⟩
   ·show kQ _ _ _=_
    rw[e,lP (by omega),vT,<- q3]
   ·show(kQ _ _ _).length<=z.1+1
    rw[e,hl];split<;>omega
   ·show SA (kQ _ _ _)
    rw[e];exact wE q5
 ·refine bM rfl ?_;refine J2 ?_;refine J1 ?_
  refine aT Tryz.results61 (λ w hw=>?_)
  obtain⟨q1,q2,q3,q4,q5⟩:=hx
  have e:z.2.2.1=Df l:=by rw[q3,List.take_of_length_le (by omega)]
  rw[<- e]
  exact⟨(z.2.1,z.2.2.2),rfl,q2,hw.fin⟩
end
end

/- Pairs: the algebra. -/
section
open Go.RowKit Go.Ct
section
variable{l X:List Pr}{a:Option Addr}{c M:Nat}{k j:ByteArray}{v z:Int}{w:World}
theorem qq(X:List Pr)(k:ByteArray)(v:Int):(N7 X k v).length<=X.length+1:=by
 unfold N7
 split
 ·next h=>rw[wV h];split<;>omega
 ·exact Nat.zero_le _
theorem iq(X:List Pr)(k:ByteArray):(rL X k).length<=X.length:=by
 unfold rL
 split
 ·exact Gw X k
 ·exact Nat.zero_le _
end
end

/- Bits of 64 bit numbers: plain laws. -/
end Go.Proofs.YtbajmaoegmbfgaaGreat
namespace Go.Ct
section
open Go Go.RowKit
theorem lH{n:Nat}(h:n<18446744073709551616):IntKind.u64.wrap ((n:Nat):Int)=(n:Int):=by
 have h2:IntKind.u64.wrap (n:Int)=(n:Int)%18446744073709551616:=by simp[IntKind.wrap,IntKind.signed,IntKind.bits]
 omega
theorem A6(n:Nat)(h:n<18446744073709551616):(BitVec.ofInt IntKind.u64.bits (n:Int)).toNat=n:=by
 show(BitVec.ofInt 64 (n:Int)).toNat=n
 rw[BitVec.toNat_ofInt]
 omega
theorem nT{n m:Nat}(hn:n<18446744073709551616)(hm:m<18446744073709551616):nV .u64 (n:Int) (m:Int)=((n &&& m:Nat):Int):=by
 unfold nV
 rw[BitVec.toNat_and,A6 n hn,A6 m hm]
 exact lH (Nat.lt_of_le_of_lt Nat.and_le_left hn)
theorem n8{n m:Nat}(hn:n<18446744073709551616)(hm:m<18446744073709551616):rOr .u64 (n:Int) (m:Int)=((n ||| m:Nat):Int):=by
 unfold rOr
 rw[BitVec.toNat_or,A6 n hn,A6 m hm]
 exact lH (Nat.or_lt_two_pow (n:=64) hn hm)
theorem cq{n m:Nat}(hn:n<18446744073709551616)(hm:m<18446744073709551616):ob .u64 (n:Int) (m:Int)=((n ^^^ m:Nat):Int):=by
 unfold ob
 rw[BitVec.toNat_xor,A6 n hn,A6 m hm]
 exact lH (Nat.xor_lt_two_pow (n:=64) hn hm)
theorem nN{n i:Nat}(hi:i<=64):nW .u64 (n:Int) (i:Int)=((n >>> i:Nat):Int):=by
 unfold nW
 rw[Int.toNat_natCast,show min i IntKind.u64.bits=i from Nat.min_eq_left hi,Nat.shiftRight_eq_div_pow]
 have:(2:Int)^i=((2^i:Nat):Int):=by simp
 rw[this,Int.fdiv_eq_ediv_of_nonneg _ (bI _)]
 rfl
theorem Po{i:Nat}(hi:i<64):Q8 .u64 1 (i:Int)=((2^i:Nat):Int):=by
 unfold Q8
 rw[Int.toNat_natCast,show min i IntKind.u64.bits=i from Nat.min_eq_left (Nat.le_of_lt hi),Int.one_mul]
 have:(2:Int)^i=((2^i:Nat):Int):=by simp
 rw[this]
 refine lH ?_
 have:=Nat.pow_lt_pow_right (a:=2) (by decide) hi
 omega
def fX(n:Nat):Nat->Nat
 | 0=>0
 | k+1=>fX n k+if n.testBit k then 1 else 0
theorem Et(n:Nat):∀k,fX n k<=k
 | 0=>Nat.le_refl _
 | k+1=>by have:=Et n k;simp only[fX];split<;>omega
theorem Cb{n m:Nat}:∀{k:Nat},(∀i,i<k->n.testBit i=m.testBit i)->fX n k=fX m k
 | 0,_=>rfl
 | k+1,h=>by simp only[fX];rw[Cb λ i hi=>h i (Nat.lt_succ_of_lt hi),h k (Nat.lt_succ_self k)]
theorem Th(n:Nat)(a:Nat):∀k,fX n (a+k)=fX n a+fX (n >>> a) k
 | 0=>rfl
 | k+1=>by
  rw[<- Nat.add_assoc]
  simp only[fX,Th n a k,Nat.testBit_shiftRight]
  omega
theorem kU{h l i:Nat}(hl:l<256):(256*h+l).testBit i=if i<8 then l.testBit i else h.testBit (i-8):=Nat.testBit_two_pow_mul_add h (i:=8) hl i
theorem di{h l:Nat}(hl:l<256)(k:Nat):fX (256*h+l) (8+k)=fX l 8+fX h k:=by
 rw[Th]
 congr 1
 ·exact Cb λ i hi=>by rw[kU hl,if_pos hi]
 ·rw[Nat.shiftRight_eq_div_pow,show 2^8=256 from rfl]
  congr 1
  omega
theorem Cf{a b c d:Nat}(hb:b<256)(hd:d<256):(256*a+b) &&& (256*c+d)=256*(a &&& c)+(b &&& d):=by
 have hbd:b &&& d<256:=Nat.lt_of_le_of_lt Nat.and_le_left hb
 refine Nat.eq_of_testBit_eq λ i=>?_
 rw[Nat.testBit_and,kU hb,kU hd,kU hbd]
 split
 ·rw[Nat.testBit_and]
 ·rw[Nat.testBit_and]
theorem Iy{a b s:Nat}(hb:b<256)(hs:s<=8):(256*a+b) >>> s=256*(a >>> s)+((a%2^s)*2^(8-s)+b >>> s):=by
 simp only[Nat.shiftRight_eq_div_pow]
 have h1:256=2^s*2^(8-s):=by rw[<- Nat.pow_add];rw[show s+(8-s)=8 by omega]
 have h2:=Nat.div_add_mod a (2^s)
 have hp:0<2^s:=Nat.two_pow_pos s
 have h3:256*a+b=2^s*(2^(8-s)*a)+b:=by rw[h1,Nat.mul_assoc]
 rw[h3,Nat.mul_add_div hp]
 have h4:2^(8-s)*a=256*(a/2^s)+a%2^s*2^(8-s):=by
  conv=>lhs;rw[<- h2]
  rw[h1,Nat.mul_add,Nat.mul_comm (a%2^s),<- Nat.mul_assoc,Nat.mul_comm (2^(8-s)) (2^s)]
 omega
def kI(s:Nat)(m:Nat)(n:Nat):Nat:=((n >>> s) &&& m)+(n &&& m)
theorem qw{a b s d:Nat}(hb:b<256)(hs:s<=8)(hd:d<2^(8-s)):((a%2^s)*2^(8-s)+b >>> s) &&& d=(b >>> s) &&& d:=by
 have hbs:b >>> s<2^(8-s):=by
  rw[Nat.shiftRight_eq_div_pow]
  refine Nat.div_lt_of_lt_mul ?_
  rw[<- Nat.pow_add,show s+(8-s)=8 by omega]
  exact hb
 refine Nat.eq_of_testBit_eq λ i=>?_
 rw[Nat.testBit_and,Nat.testBit_and,Nat.mul_comm,Nat.testBit_two_pow_mul_add _ hbs]
 split
 ·rfl
 ·rename_i h
  have:d.testBit i=false:=Nat.testBit_lt_two_pow (Nat.lt_of_lt_of_le hd (Nat.pow_le_pow_right (by decide) (by omega)))
  rw[this];simp
theorem Fh{s m a b d:Nat}(hb:b<256)(hs:s<=8)(hs0:0<s)(hd:d<2^(8-s)):kI s (256*m+d) (256*a+b)=256*kI s m a+kI s d b:=by
 have hd':d<256:=Nat.lt_of_lt_of_le hd (Nat.pow_le_pow_right (n:=2) (by decide) (show 8-s<=8 by omega))
 have hL:(a%2^s)*2^(8-s)+b >>> s<256:=by
  have h1:256=2^s*2^(8-s):=by rw[<- Nat.pow_add];rw[show s+(8-s)=8 by omega]
  have h2:a%2^s<2^s:=Nat.mod_lt _ (Nat.two_pow_pos s)
  have h3:b >>> s<2^(8-s):=by
   rw[Nat.shiftRight_eq_div_pow]
   refine Nat.div_lt_of_lt_mul ?_
   rw[<- Nat.pow_add,show s+(8-s)=8 by omega]
   exact hb
  have h4:(a%2^s+1)*2^(8-s)<=2^s*2^(8-s):=Nat.mul_le_mul_right _ h2
  rw[Nat.add_mul,Nat.one_mul] at h4
  omega
 unfold kI
 rw[Iy hb hs,Cf hL hd',Cf hb hd',qw hb hs hd]
 omega
def u4(l:Nat):Nat:=(((kI 2 51 (kI 1 85 l)) >>> 4)+kI 2 51 (kI 1 85 l)) &&& 15
theorem nk:∀l,l<256->kI 1 85 l<256/\kI 2 51 (kI 1 85 l)<256/\kI 2 51 (kI 1 85 l)%16<=4/\kI 2 51 (kI 1 85 l)/16<=4/\u4 l=fX l 8:=by decide +kernel
def rA(d:Nat):Nat->Nat
 | 0=>0
 | k+1=>256*rA d k+d
theorem Ft:∀(k n:Nat),n<256^k ->
  ∃r,(∀q,q=(kI 2 (rA 51 k) (kI 1 (rA 85 k) n))->(((q >>> 4)+q) &&& rA 15 k)=r/\q<256^k/\q%16<=4)/\(∃ps:List Nat,ps.length=k/\(∀p∈ps,p<=8)/\r=ps.foldr (λ p acc=>p+256*acc) 0/\ps.sum=fX n (8*k))
 | 0,n,h=>⟨0,λ q hq=>by
   have h0:n=0:=by simpa using h
   subst h0
   subst hq
   simp[kI,rA],[],rfl,by simp,rfl,by simp[fX]⟩
 | k+1,n,h=>by
  have hl:n%256<256:=Nat.mod_lt _ (by decide)
  have hn:n=256*(n/256)+n%256:=(Nat.div_add_mod n 256).symm
  have hk:n/256<256^k:=by
   refine Nat.div_lt_of_lt_mul ?_
   rw[Nat.mul_comm,<- Nat.pow_succ];exact h
  obtain⟨r,h1,ps,h2,h3,h4,h5⟩:=Ft k (n/256) hk
  obtain⟨b1,b2,b3,b4,b5⟩:=nk (n%256) hl
  obtain⟨q1,q2,q3⟩:=h1 _ rfl
  generalize hQ:kI 2 (rA 51 k) (kI 1 (rA 85 k) (n/256))=Q at *
  refine⟨256*r+fX (n%256) 8,λ q hq=>?_,fX (n%256) 8::ps,by simp[h2],?_,?_,?_⟩
  ·have e:q=256*Q+kI 2 51 (kI 1 85 (n%256)):=by
    rw[hq]
    have e0:kI 1 (rA 85 (k+1)) n=256*kI 1 (rA 85 k) (n/256)+kI 1 85 (n%256):=by
     have:=Fh (s:=1) (m:=rA 85 k) (a:=n/256) hl (by decide) (by decide) (show 85<2^(8-1) by decide)
     rw[<- hn] at this
     exact this
    rw[e0,<- hQ]
    exact Fh (s:=2) (m:=rA 51 k) b1 (by decide) (by decide) (show 51<2^(8-2) by decide)
   generalize hB:kI 2 51 (kI 1 85 (n%256))=B at *
   have hones:((B >>> 4)+B) &&& 15=fX (n%256) 8:=by rw[<- b5,u4,hB]
   have e4:q >>> 4=256*(Q >>> 4)+((Q%16)*16+B >>> 4):=by rw[e];exact Iy (s:=4) b2 (by decide)
   have eB:B >>> 4=B/16:=by rw[Nat.shiftRight_eq_div_pow]
   have hlow:(Q%16)*16+B >>> 4+B<256:=by rw[eB];omega
   have hsum:q >>> 4+q=256*(Q >>> 4+Q)+((Q%16)*16+B >>> 4+B):=by rw[e4,e];omega
   refine⟨?_,?_,?_⟩
   ·rw[hsum]
    show(256*(Q >>> 4+Q)+_) &&& (256*rA 15 k+15)=_
    rw[Cf hlow (by decide),q1,<- hones]
    congr 1
    rw[Nat.and_two_pow_sub_one_eq_mod _ 4,Nat.and_two_pow_sub_one_eq_mod _ 4]
    omega
   ·rw[e,Nat.pow_succ];omega
   ·rw[e];omega
  ·intro p hp
   rcases List.mem_cons.1 hp with rfl|hp
   ·exact Et _ 8
   ·exact h3 p hp
  ·simp only[List.foldr_cons,<- h4];omega
  ·rw[List.sum_cons,h5]
   conv=>rhs;rw[hn]
   rw[show 8*(k+1)=8+8*k by omega,di hl]
end

/- The last step of OnesCount64: numbers alone. -/
section
theorem aB4{x a b:Nat}(ha:a<256)(h:x=a+256*b):x/256=b:=by omega
theorem aB2{x a b:Nat}(ha:a<65536)(h:x=a+65536*b):x/65536=b:=by omega
theorem aBK{x a b:Nat}(ha:a<4294967296)(h:x=a+4294967296*b):x/4294967296=b:=by omega
theorem yj{t p s B:Nat}(e:t=p+256*s)(hp:p<=8)(hs:s<=B):t<=8+256*B:=by omega
theorem fa{r t1 t2 t3 p0 p1 p2:Nat}(e0:r=p0+256*t1)(e1:t1=p1+256*t2)(e2:t2=p2+256*t3):r+t1=((p0+p1)+256*(p1+p2))+65536*(t2+t3):=by omega
theorem ca{p0 p1 p2:Nat}(g0:p0<=8)(g1:p1<=8)(g2:p2<=8):(p0+p1)+256*(p1+p2)<65536:=by omega
theorem fb0{t2 t3 t4 t5 t6 t7 p2 p3 p4 p5 p6:Nat}(e2:t2=p2+256*t3)(e3:t3=p3+256*t4)(e4:t4=p4+256*t5)(e5:t5=p5+256*t6)(e6:t6=p6+256*t7):t2+t3+t4+t5=(p2+p3+p4+p5)+256*(p3+p4+p5+p6)+65536*(t4+t5+t6+t7):=by
 subst e6
 omega
theorem fb{r t1 t2 t3 t4 t5 t6 t7 p0 p1 p2 p3 p4 p5 p6:Nat}(f4:r+t1=((p0+p1)+256*(p1+p2))+65536*(t2+t3))(e2:t2=p2+256*t3)(e3:t3=p3+256*t4)(e4:t4=p4+256*t5)(e5:t5=p5+256*t6)(e6:t6=p6+256*t7) :
  r+t1+(t2+t3)=((p0+p1+p2+p3)+256*(p1+p2+p3+p4)+65536*(p2+p3+p4+p5)+16777216*(p3+p4+p5+p6))+4294967296*(t4+t5+t6+t7):=by
 have h1:=fb0 e2 e3 e4 e5 e6
 have h2:t2+t3=(p2+p3)+256*(t3+t4):=by clear h1 f4 e4 e5 e6;omega
 have h3:t3+t4=(p3+p4)+256*(t4+t5):=by clear h1 h2 f4 e2 e5 e6;omega
 clear e2 e3 e4 e5 e6
 omega
theorem cb{p0 p1 p2 p3 p4 p5 p6:Nat}(g0:p0<=8)(g1:p1<=8)(g2:p2<=8)(g3:p3<=8)(g4:p4<=8)(g5:p5<=8)(g6:p6<=8):(p0+p1+p2+p3)+256*(p1+p2+p3+p4)+65536*(p2+p3+p4+p5)+16777216*(p3+p4+p5+p6)<4294967296:=by omega
theorem fc{r t1:Nat}(b0:r<=8+256*(8+256*(8+256*(8+256*(8+256*(8+256*(8+256*8)))))))(b1:t1<=8+256*(8+256*(8+256*(8+256*(8+256*(8+256*8)))))):r+t1<9223372036854775808:=by omega
theorem fd{r t1 t2 t3:Nat}(b0:r<=8+256*(8+256*(8+256*(8+256*(8+256*(8+256*(8+256*8)))))))(b1:t1<=8+256*(8+256*(8+256*(8+256*(8+256*(8+256*8))))))(b2:t2<=8+256*(8+256*(8+256*(8+256*(8+256*8)))))(b3:t3<=8+256*(8+256*(8+256*(8+256*8)))):r+t1+(t2+t3)<9223372036854775808:=by omega
theorem fe{p1 p2 p3 p4 p5 p6 t4 t5 t6 t7:Nat}(g1:p1<=8)(g2:p2<=8)(g3:p3<=8)(g4:p4<=8)(g5:p5<=8)(g6:p6<=8)(b4:t4<=8+256*(8+256*(8+256*8)))(b5:t5<=8+256*(8+256*8))(b6:t6<=8+256*8)(b7:t7<=8) :
  (p1+p2+p3+p4)+256*(p2+p3+p4+p5)+65536*(p3+p4+p5+p6)+16777216*(t4+t5+t6+t7)+(t5+t6+t7)<36028797018963968:=by omega
theorem ff{p0 p1 p2 p3 p4 p5 p6 p7 t4 t5 t6 t7:Nat}(e4:t4=p4+256*t5)(e5:t5=p5+256*t6)(e6:t6=p6+256*t7)(e7:t7=p7) :
  ((p0+p1+p2+p3)+256*(p1+p2+p3+p4)+65536*(p2+p3+p4+p5)+16777216*(p3+p4+p5+p6))+4294967296*(t4+t5+t6+t7)+(t4+t5+t6+t7) =
   (p0+p1+p2+p3+p4+p5+p6+p7)+256*((p1+p2+p3+p4)+256*(p2+p3+p4+p5)+65536*(p3+p4+p5+p6)+16777216*(t4+t5+t6+t7)+(t5+t6+t7)):=by
 have h:t4+t5+t6+t7=(p4+p5+p6+p7)+256*(t5+t6+t7):=by omega
 generalize t4+t5+t6+t7=s at *
 clear e4 e5 e6 e7
 omega
theorem Y4{p0 p1 p2 p3 p4 p5 p6 p7 r t1 t2 t3 t4 t5 t6 t7:Nat}(g0:p0<=8)(g1:p1<=8)(g2:p2<=8)(g3:p3<=8)(g4:p4<=8)(g5:p5<=8)(g6:p6<=8)(g7:p7<=8)
  (e0:r=p0+256*t1) (e1:t1=p1+256*t2) (e2:t2=p2+256*t3) (e3:t3=p3+256*t4) (e4:t4=p4+256*t5) (e5:t5=p5+256*t6) (e6:t6=p6+256*t7) (e7:t7=p7) :
  r+r/256<9223372036854775808/\(r+r/256)+(r+r/256)/65536<9223372036854775808/\∃K,K<36028797018963968/\((r+r/256)+(r+r/256)/65536)+((r+r/256)+(r+r/256)/65536)/4294967296=(p0+p1+p2+p3+p4+p5+p6+p7)+256*K:=by
 have b7:t7<=8:=by rw[e7];exact g7
 have b6:=yj e6 g6 b7
 have b5:=yj e5 g5 b6
 have b4:=yj e4 g4 b5
 have b3:=yj e3 g3 b4
 have b2:=yj e2 g2 b3
 have b1:=yj e1 g1 b2
 have b0:=yj e0 g0 b1
 have f4:r+t1=((p0+p1)+256*(p1+p2))+65536*(t2+t3):=fa e0 e1 e2
 have c4:(p0+p1)+256*(p1+p2)<65536:=ca g0 g1 g2
 have f5:r+t1+(t2+t3)=((p0+p1+p2+p3)+256*(p1+p2+p3+p4)+65536*(p2+p3+p4+p5)+16777216*(p3+p4+p5+p6))+4294967296*(t4+t5+t6+t7):=fb f4 e2 e3 e4 e5 e6
 have c5:=cb g0 g1 g2 g3 g4 g5 g6
 rw[aB4 (Nat.lt_of_le_of_lt g0 (by decide)) e0,aB2 c4 f4,aBK c5 f5]
 refine⟨fc b0 b1,fd b0 b1 b2 b3,(p1+p2+p3+p4)+256*(p2+p3+p4+p5)+65536*(p3+p4+p5+p6)+16777216*(t4+t5+t6+t7)+(t5+t6+t7),?_,?_⟩
 ·exact fe g1 g2 g3 g4 g5 g6 b4 b5 b6 b7
 ·rw[f5];exact ff e4 e5 e6 e7
end

/- Bits, the second part. -/
section
open Go Go.RowKit
theorem vy{c K:Nat}(hc:c<=64)(hK:K<36028797018963968):nV .i64 (IntKind.i64.wrap ((c+256*K:Nat):Int)) 127=(c:Int):=by
 rw[wrap_i64 (by omega) (by omega)]
 unfold nV
 have h1:(BitVec.ofInt IntKind.i64.bits ((c+256*K:Nat):Int)).toNat=c+256*K:=by
  show(BitVec.ofInt 64 ((c+256*K:Nat):Int)).toNat=_
  rw[BitVec.toNat_ofInt]
  omega
 have h2:(BitVec.ofInt IntKind.i64.bits 127).toNat=127:=by decide
 rw[BitVec.toNat_and,h1,h2,show(127:Nat)=2^7-1 from rfl,Nat.and_two_pow_sub_one_eq_mod]
 have h3:(c+256*K)%2^7=c:=by omega
 rw[h3]
 exact wrap_i64 (by omega) (by omega)
theorem oY{n:Nat}(hn:n<18446744073709551616):uQ (n:Int)=((fX n 64:Nat):Int):=by
 obtain⟨r,h1,ps,h2,h3,h4,h5⟩:=Ft 8 n hn
 obtain⟨q1,q2,_⟩:=h1 _ rfl
 match ps,h2 with
 | [p0,p1,p2,p3,p4,p5,p6,p7],_ =>
  simp only[List.mem_cons,List.not_mem_nil,or_false,forall_eq_or_imp,forall_eq] at h3
  simp only[List.foldr_cons,List.foldr_nil] at h4
  simp only[List.sum_cons,List.sum_nil] at h5
  obtain⟨g0,g1,g2,g3,g4,g5,g6,g7⟩:=h3
  have b5:kI 1 6148914691236517205 n<18446744073709551616:=by
   unfold kI
   have h1:(n >>> 1) &&& 6148914691236517205<=6148914691236517205:=Nat.and_le_right
   have h2:n &&& 6148914691236517205<=6148914691236517205:=Nat.and_le_right
   omega
  have e1:∀m:Nat,m<18446744073709551616->IntKind.u64.wrap (nV .u64 (nW .u64 (m:Int) 1) 6148914691236517205+nV .u64 (m:Int) 6148914691236517205)=((kI 1 6148914691236517205 m:Nat):Int):=λ m hm=>by
   have hs:m >>> 1<18446744073709551616:=Nat.lt_of_le_of_lt (Nat.shiftRight_le _ _) hm
   have r1:nW .u64 (m:Int) 1=((m >>> 1:Nat):Int):=nN (i:=1) (by decide)
   have a1:nV .u64 ((m >>> 1:Nat):Int) 6148914691236517205=(((m >>> 1) &&& 6148914691236517205:Nat):Int):=nT hs (m:=6148914691236517205) (by decide)
   have a2:nV .u64 (m:Int) 6148914691236517205=((m &&& 6148914691236517205:Nat):Int):=nT hm (m:=6148914691236517205) (by decide)
   rw[r1,a1,a2,<- Int.natCast_add]
   refine lH ?_
   have h1:(m >>> 1) &&& 6148914691236517205<=6148914691236517205:=Nat.and_le_right
   have h2:m &&& 6148914691236517205<=6148914691236517205:=Nat.and_le_right
   omega
  have e2:∀m:Nat,m<18446744073709551616->IntKind.u64.wrap (nV .u64 (nW .u64 (m:Int) 2) 3689348814741910323+nV .u64 (m:Int) 3689348814741910323)=((kI 2 3689348814741910323 m:Nat):Int):=λ m hm=>by
   have hs:m >>> 2<18446744073709551616:=Nat.lt_of_le_of_lt (Nat.shiftRight_le _ _) hm
   have r1:nW .u64 (m:Int) 2=((m >>> 2:Nat):Int):=nN (i:=2) (by decide)
   have a1:nV .u64 ((m >>> 2:Nat):Int) 3689348814741910323=(((m >>> 2) &&& 3689348814741910323:Nat):Int):=nT hs (m:=3689348814741910323) (by decide)
   have a2:nV .u64 (m:Int) 3689348814741910323=((m &&& 3689348814741910323:Nat):Int):=nT hm (m:=3689348814741910323) (by decide)
   rw[r1,a1,a2,<- Int.natCast_add]
   refine lH ?_
   have h1:(m >>> 2) &&& 3689348814741910323<=3689348814741910323:=Nat.and_le_right
   have h2:m &&& 3689348814741910323<=3689348814741910323:=Nat.and_le_right
   omega
  have m5:rA 85 8=6148914691236517205:=by decide
  have m3:rA 51 8=3689348814741910323:=by decide
  have mf:rA 15 8=1085102592571150095:=by decide
  rw[m5,m3] at q1 q2
  rw[mf] at q1
  unfold uQ
  simp only[]
  rw[e1 n hn,e2 _ b5]
  generalize kI 2 3689348814741910323 (kI 1 6148914691236517205 n)=Q at *
  have hQ:Q<18446744073709551616:=q2
  have hr:r<18446744073709551616:=by rw[<- q1];exact Nat.lt_of_le_of_lt Nat.and_le_right (by decide)
  have e3:nV .u64 (IntKind.u64.wrap (nW .u64 (Q:Int) 4+(Q:Int))) 1085102592571150095=(r:Int):=by
   have r1:nW .u64 (Q:Int) 4=((Q >>> 4:Nat):Int):=nN (i:=4) (by decide)
   rw[r1,<- Int.natCast_add]
   have h2:IntKind.u64.wrap ((Q >>> 4+Q:Nat):Int)=(((Q >>> 4+Q)%18446744073709551616:Nat):Int):=by
    have:IntKind.u64.wrap ((Q >>> 4+Q:Nat):Int)=((Q >>> 4+Q:Nat):Int)%18446744073709551616:=by simp[IntKind.wrap,IntKind.signed,IntKind.bits]
    rw[this];omega
   rw[h2]
   have a1:=nT (n:=(Q >>> 4+Q)%18446744073709551616) (m:=1085102592571150095) (Nat.mod_lt _ (by decide)) (by decide)
   refine a1.trans ?_
   rw[<- q1]
   congr 1
   refine Nat.eq_of_testBit_eq λ i=>?_
   rw[Nat.testBit_and,Nat.testBit_and,show(18446744073709551616:Nat)=2^64 from rfl,Nat.testBit_mod_two_pow]
   by_cases hi:i<64
   ·simp[hi]
   ·have:(1085102592571150095:Nat).testBit i=false:=Nat.testBit_lt_two_pow (Nat.lt_of_lt_of_le (by decide:(1085102592571150095:Nat)<2^64) (Nat.pow_le_pow_right (by decide) (by omega)))
    rw[this];simp
  rw[e3]
  have s1:∀m:Nat,nW .u64 (m:Int) 8=((m/256:Nat):Int):=λ m=>by
   have:nW .u64 (m:Int) 8=((m >>> 8:Nat):Int):=nN (i:=8) (by decide)
   rw[this,Nat.shiftRight_eq_div_pow]
  have s2:∀m:Nat,nW .u64 (m:Int) 16=((m/65536:Nat):Int):=λ m=>by
   have:nW .u64 (m:Int) 16=((m >>> 16:Nat):Int):=nN (i:=16) (by decide)
   rw[this,Nat.shiftRight_eq_div_pow]
  have s3:∀m:Nat,nW .u64 (m:Int) 32=((m/4294967296:Nat):Int):=λ m=>by
   have:nW .u64 (m:Int) 32=((m >>> 32:Nat):Int):=nN (i:=32) (by decide)
   rw[this,Nat.shiftRight_eq_div_pow]
  have w64:∀m:Nat,m<9223372036854775808->IntKind.u64.wrap ((m:Nat):Int)=(m:Int):=λ m hm=>lH (by omega)
  have hs:fX n 64=p0+p1+p2+p3+p4+p5+p6+p7:=by rw[show(64:Nat)=8*8 from rfl,<- h5];omega
  have hc:=Et n 64
  have hx:=Y4 (t7:=p7) (t6:=p6+256*p7) (t5:=p5+256*(p6+256*p7)) (t4:=p4+256*(p5+256*(p6+256*p7))) (t3:=p3+256*(p4+256*(p5+256*(p6+256*p7)))) (t2:=p2+256*(p3+256*(p4+256*(p5+256*(p6+256*p7))))) (t1:=p1+256*(p2+256*(p3+256*(p4+256*(p5+256*(p6+256*p7)))))) (r:=r) g0 g1 g2 g3 g4 g5 g6 g7 (by rw[h4];rfl) rfl rfl rfl rfl rfl rfl rfl
  clear h4 q1 q2 e3 e1 e2 b5 h1 hr hQ hn m5 m3 mf h5
  obtain⟨x4,x5,K,hK,x6⟩:=hx
  rw[s1,<- Int.natCast_add,w64 _ x4,s2,<- Int.natCast_add,w64 _ x5,s3,<- Int.natCast_add,x6,<- hs,w64 _ (by omega)]
  exact vy hc hK
end

end Go.Ct
