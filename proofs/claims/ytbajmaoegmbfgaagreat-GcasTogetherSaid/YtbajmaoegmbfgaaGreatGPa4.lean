/- Pairs: the reference's Find, Put, Drop, Of, Equal. -/
import Derived.Test.YtbajmaoegmbfgaaGreatGDfr
import Derived.Test.YtbajmaoegmbfgaaGreatGMem

set_option linter.unusedSimpArgs false
set_option linter.unusedVariables false
namespace Go.Proofs.YtbajmaoegmbfgaaGreat
section
open Go.RowKit Go.Ct
section
variable{l:List Pr}{a:Option Addr}{c:Nat}{k:ByteArray}{v:Int}{w:World}
theorem aAl{l:List Pr}{k:ByteArray}:∀{i:Nat},i<l.length->(∀j,j<i->(l.getD j (⟨#[]⟩,0)).1≠k)->(l.getD i (⟨#[]⟩,0)).1=k->rH l k=some (l.getD i (⟨#[]⟩,0)).2:=by
 induction l with
 | nil=>intro i h;simp at h
 | cons p l ih =>
  intro i h hn he
  cases i with
  | zero=>exact if_pos he
  | succ i =>
   refine(if_neg (hn 0 (by omega))).trans ?_
   exact ih (by simp at h;omega) (λ j hj=>hn (j+1) (by omega)) he
theorem tc{l:List Pr}{k:ByteArray}(h:∀j,j<l.length->(l.getD j (⟨#[]⟩,0)).1≠k):rH l k=none:=pX λ p hp=>by
 obtain⟨j,hj,rfl⟩:=List.getElem_of_mem hp
 have:=h j hj
 rwa [iL hj] at this
theorem Jr(k:ByteArray)(ha:Cl w a (cU l))(hlen:l.length<=1099511627775) :
  Calls Tryz.prog 60 #[.slice a l.length c,.string k] w λ e w'=>e=.returned (.tuple #[.int .u64 ((dS l k).getD 0),.bool (dS l k).isSome])/\St w [] [] w':=by
 refine enter Tryz.func60 Tryz.ntmps60 rfl rfl (SF.s1 ha) ?_
 simp only[bX]
 refine P7 ?_;refine aV ?_;refine Du ?_
 refine gB [4,5,6,7,8,9,10,11,12,13,14,15,16,17,18,19,20,21,22,23,24,25,26,27,28] (λ k=>[(6,.int .i64 ((k:Nat):Int))]) (λ i=>i<=l.length/\(i≠0->SA l)/\∀j,j<i->(l.getD j (⟨#[]⟩,0)).1≠k) (λ k=>l.length-k) (0) (⟨Nat.zero_le _,λ h=>absurd rfl h,λ j hj=>absurd hj (Nat.not_lt_zero j)⟩) ?_ (λ i f hx=>?_)
 ·repeat (first|exact bD _|refine aX (by exact rfl) ?_)
 dsimp only[gU,List.map,List.cons_append,List.nil_append]
 refine Ds ?_;refine dB ?_;refine Cq ?_
 (refine eE 11 (λ g11=>?_) (λ g11=>?_)<;>(first|refine aI ?_|(refine aF ?_;refine aA ?_)))
 all_goals ((first|refine aI ?_|(refine aF ?_;refine aD (c0 (V:=.bool) (hc:=λ w1 hw=>mA (hw.cl fin) (by omega))) (λ x13 h13=>?_)));refine cB ?_;refine aH ?_)
 all_goals
 refine bB (λ c14=>?_) (λ c14=>?_)
 ·try exact nv c14
  all_goals (refine qE ?_;refine iR ?_;refine gN ?_;refine J3 ?_;refine aA ?_;refine v9 ?_;refine aH ?_)
  all_goals
   refine bB (λ c23=>?_) (λ c23=>?_)
   ·refine iR ?_;refine gN ?_;refine J3 ?_;refine J8 ?_
    refine bC Tryz.results60 (λ w hw=>?_)
    rw[show dS l k=some (l.getD i (⟨#[]⟩,0)).2 from(if_pos (oK.1 (h13.1 (by simp_all)))).trans (aAl (by omega) hx.2.2 c23)];exact⟨rfl,hw.done⟩
   ·refine nZ ?_;refine uN ?_
    refine eK (i+1) ?_ ?_ ?_
    ·omega
    ·repeat' (first|exact bD _|refine aX ?_ ?_)
     exact rfl
    ·exact⟨by omega,λ _=>oK.1 (h13.1 (by simp_all)),λ j hj=>by rcases Nat.lt_succ_iff_lt_or_eq.1 hj with h|rfl;exact hx.2.2 j h;assumption⟩
 ·all_goals (refine bN rfl ?_;refine P7 ?_)
  all_goals
   refine bC Tryz.results60 (λ w hw=>?_)
   first
   | (rw[show dS l k=none from if_neg λ hs=>by have:=h13.2 (oK.2 hs);simp_all];exact⟨rfl,hw.done⟩)
   | (rw[show dS l k=none by unfold dS;split;exact tc λ j hj=>hx.2.2 j (by omega);rfl];exact⟨rfl,hw.done⟩)
theorem Ng{l:List Pr}{i:Nat}(hi:i<l.length)(k:ByteArray):(l.take (i+1)).filter (λ p=>decide (p.1≠k))=(l.take i).filter (λ p=>decide (p.1≠k))++(if(l.getD i (⟨#[]⟩,0)).1≠k then [l.getD i (⟨#[]⟩,0)] else []):=by
 rw[List.take_add_one,List.getElem?_eq_getElem hi,iL hi,List.filter_append]
 congr 1
 by_cases h:l[i].1=k<;>simp[h]
theorem Fm{l:List Pr}{i:Nat}(hi:i<l.length)(k:ByteArray):iU (l.take (i+1)) k=if(l.getD i (⟨#[]⟩,0)).1=k then iU (l.take i) k else iU (l.take i) k++[l.getD i (⟨#[]⟩,0)]:=by
 unfold iU
 rw[Ng hi k]
 by_cases h:(l.getD i (⟨#[]⟩,0)).1=k
 ·rw[if_neg λ hn=>hn h,if_pos h,List.append_nil]
 ·rw[if_pos h,if_neg h]
theorem Pm(k:ByteArray)(ha:Cl w a (cU l))(hlen:l.length<=200000000000) :
  Calls Tryz.prog 111 #[.slice a l.length c,.string k] w (r0 w (iU l k)):=by
 refine enter Tryz.func111 Tryz.ntmps111 rfl rfl (SF.s1 ha) ?_
 simp only[bX]
 refine cO ?_;refine G0 ?_;refine Du ?_
 refine mZ [5,6,7,8,9,10,11,12,13,14,15,16,17,18,19,20,21,22,23,24,25,26] (λ z:Nat×Option Addr×List Pr×Nat=>[(6,.int .i64 ((z.1:Nat):Int)),(5,.slice z.2.1 z.2.2.1.length z.2.2.2)]) (λ z=>z.1<=l.length/\z.2.2.1.length<=z.2.2.2/\z.2.2.1=iU (l.take z.1) k/\z.2.2.1.length<=z.1) (λ _=>_) (λ _=>_) (λ z=>[⟨z.2.1,cU z.2.2.1,z.2.2.2,164,2⟩]) (λ z=>l.length-z.1) ((0,none,[],0)) (⟨Nat.zero_le _,Nat.le_refl _,rfl,Nat.le_refl _⟩) (λ z f hx=>?_) (hw0:=λ w hw=>(hw.kL 164 2).back)
 dsimp only[gU,List.map,List.cons_append,List.nil_append]
 refine Ds ?_;refine dB ?_;refine xA ?_
 refine bB (λ c10=>?_) (λ c10=>?_)
 ·refine qE ?_;refine iR ?_;refine gN ?_;refine J3 ?_;refine aA ?_;refine vn ?_;refine aH ?_
  refine bB (λ c19=>?_) (λ c19=>?_)
  ·refine An ?_;refine pE ?_;refine Rl ?_;refine fE (λ x25=>?_);(refine fG (λ x26=>?_);try (refine eX (λ h26=>?_)));refine J1 ?_;refine fK ?_;refine uN ?_
   refine iP ((by exact(z.1+1,x26.1,z.2.2.1++[l.getD z.1 (⟨#[]⟩,0)],x26.2))) ?_ (hw1:=λ w hw=>by exact hw.back (hO:=by exact List.Sublist.refl _))
   ·obtain⟨q1,q2,q3,q4⟩:=hx
    have hdt:=Fm (l:=l) (i:=z.1) (by omega) k
    first
    | exact⟨by show z.1+1<=l.length;omega,by simp only[List.length_append,List.length_cons,List.length_nil];omega,by rw[if_neg (by assumption),<- q3] at hdt;exact hdt.symm,by simp only[List.length_append,List.length_cons,List.length_nil];omega⟩
    | exact⟨by show z.1+1<=l.length;omega,q2,by rw[if_pos (by assumption),<- q3] at hdt;exact hdt.symm,by show z.2.2.1.length<=z.1+1;omega⟩
  ·refine nZ ?_;refine uN ?_
   refine iP ((by exact(z.1+1,z.2.1,z.2.2.1,z.2.2.2))) ?_ (hw1:=λ w hw=>by exact hw.back (hO:=by exact List.Sublist.refl _))
   ·obtain⟨q1,q2,q3,q4⟩:=hx
    have hdt:=Fm (l:=l) (i:=z.1) (by omega) k
    first
    | exact⟨by show z.1+1<=l.length;omega,by simp only[List.length_append,List.length_cons,List.length_nil];omega,by rw[if_neg (by assumption),<- q3] at hdt;exact hdt.symm,by simp only[List.length_append,List.length_cons,List.length_nil];omega⟩
    | exact⟨by show z.1+1<=l.length;omega,q2,by rw[if_pos (by assumption),<- q3] at hdt;exact hdt.symm,by show z.2.2.1.length<=z.1+1;omega⟩
 ·refine bN rfl ?_;refine J2 ?_;refine J1 ?_
  refine aT Tryz.results111 (λ w hw=>?_)
  obtain⟨q1,q2,q3,q4⟩:=hx
  have e:z.2.2.1=iU l k:=by rw[q3,List.take_of_length_le (by omega)]
  rw[<- e]
  exact⟨(z.2.1,z.2.2.2),rfl,q2,hw.aU⟩
theorem lT{l:List Pr}{i:Nat}(hi:i<l.length):l.take (i+1)=l.take i++[l.getD i (⟨#[]⟩,0)]:=by
 rw[List.take_add_one,List.getElem?_eq_getElem hi,iL hi];rfl
theorem ig(p:Pr)(ha:Cl w a (cU l))(hc:l.length<=c)(hs:SA l)(hn:∀q∈l,q.1≠p.1)(hlen:l.length<=200000000000) :
    Calls Tryz.prog 110 #[.slice a l.length c,.agg ⟨[.string p.1,.int .u64 p.2]⟩] w (r0 w (mH l p.1 p.2)):=by
  refine enter Tryz.func110 Tryz.ntmps110 rfl rfl (SF.s1 ha) ?_
  simp only[bX]
  refine J0 ?_;refine bI (λ x3=>?_);refine J1 ?_;refine G0 ?_;refine Du ?_
  refine mZ [5,6,8,9,10,11,12,13,14,15,16,17,18,19,20,21,22,23,24,25,26,27,28,29,30] (λ z:Nat×Option Addr×List Pr×Nat=>[(6,.int .i64 ((z.1:Nat):Int)),(5,.slice z.2.1 z.2.2.1.length z.2.2.2)]) (λ z=>z.1<=l.length/\z.2.2.1.length<=z.2.2.2/\z.2.2.1=l.take z.1/\z.2.2.1.length=z.1/\∀j,j<z.1->dH (l.getD j (⟨#[]⟩,0)).1 p.1=true) (λ z=>[(x3,.cells ⟨[.string p.1,.int .u64 p.2]⟩ 164 (0,0))]) (λ _=>_) (λ z=>[⟨z.2.1,cU z.2.2.1,z.2.2.2,164,2⟩]) (λ z=>l.length-z.1) ((0,none,[],0)) (⟨Nat.zero_le _,Nat.le_refl _,rfl,rfl,λ j hj=>absurd hj (Nat.not_lt_zero j)⟩) (λ z f hx=>?_) (hw0:=λ w hw=>(hw.kL 164 2).back)
  dsimp only[gU,List.map,List.cons_append,List.nil_append]
  refine aV ?_;refine aV ?_;refine gJ [0,1,2,3,4,5,6,7,8,9,10,11,12,13] ?_;refine iH ?_;refine oC ?_;refine zZ ?_;refine aN ?_
  (refine Zy 12 (λ g12=>?_) (λ g12=>?_)<;>(first|refine cX ?_|(refine aN ?_)))
  all_goals ((first|refine cX ?_|(refine aN ?_));(first|refine cX ?_|(refine iT ?_));refine n7 ?_;refine n7 ?_;(first|refine cX ?_|(refine j2 ?_));refine eF ?_;refine dY ?_)
  all_goals
   refine bB (λ c21=>?_) (λ c21=>?_)
   · try exact nv c21
     all_goals (refine qE ?_;refine An ?_;refine pE ?_;refine Rl ?_;refine fE (λ x29=>?_);(refine aS (by(exact bE.eN (Lv rf rf zB rfl fin (by exact pM rfl) fZ (by omega)) (by intro x;simp only[kQ];exact rfl))) (λ x30=>?_);try (refine eX (λ h30=>?_)));refine J1 ?_;refine fK ?_;refine uN ?_)
     all_goals
      refine iP ((z.1+1,x30.1,z.2.2.1++[l.getD z.1 (⟨#[]⟩,0)],x30.2)) ?_ (hw1:=λ w hw=>hw.back (hO:=by exact List.Sublist.refl _))
      · obtain⟨q1,q2,q3,q4,q5⟩:=hx
        refine⟨by show z.1+1<=l.length;omega,by simp only[List.length_append,List.length_cons,List.length_nil];omega,by rw[lT (by omega),<- q3],by simp only[List.length_append,List.length_cons,List.length_nil];omega,λ j hj=>?_⟩
        rcases Nat.lt_succ_iff_lt_or_eq.1 hj with h|rfl
        · exact q5 j h
        · exact c21
   · all_goals
      refine Ud (λ w hw=>hw.aA0 (k:=z.2.2.1.length) (c:=c) fin hc) ?_
     all_goals (refine bN rfl ?_;refine J2 ?_;refine dB ?_;refine iB ?_;refine gJ [0,1,4,5,6,2,3,7,8] ?_;refine aN ?_;refine bG ?_;refine iH ?_;refine cA (i:=6) (hq:=(gg (k:=z.2.2.1.length) rf rf fZ (by exact tZ rfl) (by omega) (by omega))) (h:=?_);refine bV (h:=λ x35=>?_);((refine cH (i:=3) (hq:=(by(exact bE.eN (Lv rf rf zB rfl fin (by exact pM rfl) fZ (by omega)) (by intro x;simp only[kQ];exact rfl)))) (h:=λ x36=>?_);try (refine eC (λ h36=>?_))));((refine cH (i:=7) (hq:=(by(exact bE.eN (Mx (l2:=l.drop z.2.2.1.length) rf rf zB (by simp;done) fin (by rw[List.length_drop]) (by exact pM rfl) fZ (by omega)) (by intro x;simp only[kQ];exact rfl)))) (h:=λ x40=>?_);try (refine eC (λ h40=>?_))));refine J7 ?_)
     all_goals
      refine aT Tryz.results110 (λ w hw=>?_)
      obtain⟨q1,q2,q3,q4,q5⟩:=hx
      have hp:Q1 l p.1 z.1:=⟨q1,q5,by first|exact aBP hs c21|(intro j h1 h2;omega)⟩
      have e:mH l p.1 p.2=z.2.2.1++[(p.1,p.2)]++l.drop z.2.2.1.length:=by
       rw[Ut hp λ hh=>?_,q4,<- q3,List.append_assoc]
       · rfl
       · exact hn _ (by rw[iL hh.1];exact List.getElem_mem hh.1) hh.2
      have e2:(z.2.2.1++[(p.1,p.2)]++l.drop z.2.2.1.length).length=z.2.2.1.length+1+(l.length-z.2.2.1.length):=by rw[List.length_append,List.length_append,List.length_drop];rfl
      rw[e]
      exact⟨x40,by rw[e2];rfl,by rw[e2];exact h40,hw.aU⟩
theorem wT(k:ByteArray)(ha:Cl w a (cU l))(hlen:l.length<=200000000000) :
  Calls Tryz.prog 111 #[.slice a l.length c,.string k] w (Xx w (iU l k)):=(Pm k ha hlen).mono λ _ _ h=>h.Tn
theorem Ot(p:Pr)(ha:Cl w a (cU l))(hc:l.length<=c)(hs:SA l)(hn:∀q∈l,q.1≠p.1)(hlen:l.length<=200000000000) :
  Calls Tryz.prog 110 #[.slice a l.length c,.agg ⟨[.string p.1,.int .u64 p.2]⟩] w (Xx w (mH l p.1 p.2)):=(ig p ha hc hs hn hlen).mono λ _ _ h=>h.Tn
theorem Jo{l:List Pr}{k:ByteArray}:∀q∈iU l k,q.1≠k:=λ q hq=>by simpa using(List.mem_filter.1 hq).2
theorem Ir(l:List Pr)(k:ByteArray):(iU l k).length<=l.length:=List.length_filter_le _ _
theorem ma(k:ByteArray)(v:Int)(ha:Cl w a (cU l))(hlen:l.length<=200000000000) :
  Calls Tryz.prog 256 #[.slice a l.length c,.string k,.int .u64 v] w (Xx w (Q4 l k v)):=by
 have hdl:=Ir l k
 refine enter Tryz.func256 Tryz.ntmps256 rfl rfl (SF.s1 ha) ?_
 simp only[bX]
 refine cO ?_;refine kB ?_;refine aD (c0 (V:=.bool) (hc:=λ w1 hw=>mA (hw.cl fin) (by omega))) (λ x8 h8=>?_);refine oH ?_
 refine bB (λ c9=>?_) (λ c9=>?_)
 ·refine cO ?_
  refine aT Tryz.results256 (λ w hw=>?_)
  rw[show Q4 l k v=[] from if_neg λ hs=>by rw[h8.2 (oK.2 hs)] at c9;cases c9];exact⟨(none,0),rfl,Nat.le_refl _,(hw.Ls none).fin⟩
 ·have hs:SA l:=oK.1 (h8.1 (by simpa using c9))
  refine Bk ?_;refine aD (cF (hc:=λ w1 hw=>wT k (hw.cl fin) hlen)) (λ x12 h12=>?_);refine pE ?_;refine bJ ?_;refine aD (cF (hc:=λ w1 hw=>Ot (k,v) (hw.cl fin) h12 (vU k hs) Jo (by omega))) (λ x16 h16=>?_);refine J1 ?_
  refine aT Tryz.results256 (λ w hw=>?_)
  rw[show Q4 l k v=mH (iU l k) k v from(if_pos hs).trans (Qx hs k v).symm];exact⟨x16,rfl,h16,hw.fin⟩
theorem Y1(k:ByteArray)(ha:Cl w a (cU l))(hlen:l.length<=200000000000) :
  Calls Tryz.prog 258 #[.slice a l.length c,.string k] w (Xx w (rV l k)):=by
 refine enter Tryz.func258 Tryz.ntmps258 rfl rfl (SF.s1 ha) ?_
 simp only[bX]
 refine cO ?_;refine kB ?_;refine aD (c0 (V:=.bool) (hc:=λ w1 hw=>mA (hw.cl fin) (by omega))) (λ x6 h6=>?_);refine oH ?_
 refine bB (λ c7=>?_) (λ c7=>?_)
 ·refine cO ?_
  refine aT Tryz.results258 (λ w hw=>?_)
  rw[show rV l k=[] from if_neg λ hs=>by rw[h6.2 (oK.2 hs)] at c7;cases c7];exact⟨(none,0),rfl,Nat.le_refl _,(hw.Ls none).fin⟩
 ·have hs:SA l:=oK.1 (h6.1 (by simpa using c7))
  refine Bk ?_;refine aD (cF (hc:=λ w1 hw=>wT k (hw.cl fin) hlen)) (λ x10 h10=>?_);refine J1 ?_
  refine aT Tryz.results258 (λ w hw=>?_)
  rw[show rV l k=iU l k from if_pos hs];exact⟨x10,rfl,h10,hw.fin⟩
theorem sd(ha:Cl w a (cU l))(hlen:l.length<=200000000000) :
  Calls Tryz.prog 61 #[.slice a l.length c] w (Xx w (D1 l)):=by
 refine enter Tryz.func61 Tryz.ntmps61 rfl rfl (SF.s1 ha) ?_
 simp only[bX]
 refine cO ?_;refine G0 ?_;refine Du ?_
 refine mZ [3,4,5,6,7,8,9,10,11,12,13,14,15,16,17,18,19,20,21,22] (λ z:Nat×Option Addr×List Pr×Nat=>[(4,.int .i64 ((z.1:Nat):Int)),(3,.slice z.2.1 z.2.2.1.length z.2.2.2)]) (λ z=>z.1<=l.length/\z.2.2.1.length<=z.2.2.2/\z.2.2.1=D1 (l.take z.1)/\z.2.2.1.length<=z.1/\SA z.2.2.1) (λ _=>_) (λ z=>[(z.2.1,cU z.2.2.1)]) (λ _=>_) (λ z=>l.length-z.1) ((0,none,[],0)) (⟨Nat.zero_le _,Nat.le_refl _,rfl,Nat.le_refl _,List.Pairwise.nil⟩) (λ z f hx=>?_) (hw0:=λ w hw=>(hw.Ls none).back)
 dsimp only[gU,List.map,List.cons_append,List.nil_append]
 refine Ds ?_;refine dB ?_;refine xA ?_
 refine bB (λ c8=>?_) (λ c8=>?_)
 ·have hdl:=Ir z.2.2.1 (l.getD z.1 (⟨#[]⟩,0)).1
  refine qE ?_;refine dK [(0,[]),(1,[]),(2,[]),(3,[]),(4,[]),(5,[]),(7,[]),(8,[]),(9,[]),(10,[]),(6,[9,10]),(11,[]),(12,[])] ?_;refine iH ?_;refine aN ?_;refine iT ?_;refine kG ?_;refine iH ?_;refine Oe ?_;refine aZ (i:=6) (hq:=(cF (hc:=λ w1 hw=>wT (l.getD z.1 (⟨#[]⟩,0)).1 (hw.cl fin) (by omega)))) (h:=λ x17 h17=>?_);refine aZ (i:=11) (hq:=(cF (hc:=λ w1 hw=>Ot (l.getD z.1 (⟨#[]⟩,0)) (hw.cl fin) h17 (vU _ hx.2.2.2.2) Jo (by omega)))) (h:=λ x22 h22=>?_);refine J7 ?_;refine fK ?_;refine uN ?_
  refine iP ((z.1+1,x22.1,mH (iU z.2.2.1 (l.getD z.1 (⟨#[]⟩,0)).1) (l.getD z.1 (⟨#[]⟩,0)).1 (l.getD z.1 (⟨#[]⟩,0)).2,x22.2)) ?_
  ·obtain⟨q1,q2,q3,q4,q5⟩:=hx
   have e:=Qx q5 (l.getD z.1 (⟨#[]⟩,0)).1 (l.getD z.1 (⟨#[]⟩,0)).2
   have hl:=xN (k:=(l.getD z.1 (⟨#[]⟩,0)).1) (v:=(l.getD z.1 (⟨#[]⟩,0)).2) q5
   rw[e] at h22
   refine⟨by show z.1+1<=l.length;omega,by show(mH _ _ _).length<=_;rw[e];exact h22,?_,?_,?_⟩
   ·show mH _ _ _=_
    rw[e,lT (by omega),wP,<- q3]
   ·show(mH _ _ _).length<=z.1+1
    rw[e,hl];split<;>omega
   ·show SA (mH _ _ _)
    rw[e];exact xV q5
 ·refine bN rfl ?_;refine J2 ?_;refine J1 ?_
  refine aT Tryz.results61 (λ w hw=>?_)
  obtain⟨q1,q2,q3,q4,q5⟩:=hx
  have e:z.2.2.1=D1 l:=by rw[q3,List.take_of_length_le (by omega)]
  rw[<- e]
  exact⟨(z.2.1,z.2.2.2),rfl,q2,hw.fin⟩
end
end

/- Pairs: the algebra. -/
section
open Go.RowKit Go.Ct
section
variable{l X:List Pr}{a:Option Addr}{c M:Nat}{k j:ByteArray}{v z:Int}{w:World}
theorem px(X:List Pr)(k:ByteArray)(v:Int):(Q4 X k v).length<=X.length+1:=by
 unfold Q4
 split
 ·next h=>rw[xN h];split<;>omega
 ·exact Nat.zero_le _
theorem me(X:List Pr)(k:ByteArray):(rV X k).length<=X.length:=by
 unfold rV
 split
 ·exact Ir X k
 ·exact Nat.zero_le _
end
end

/- Bits of 64 bit numbers: plain laws. -/
end Go.Proofs.YtbajmaoegmbfgaaGreat
namespace Go.Ct
section
open Go Go.RowKit
theorem nM{n:Nat}(h:n<18446744073709551616):IntKind.u64.wrap ((n:Nat):Int)=(n:Int):=by
 have h2:IntKind.u64.wrap (n:Int)=(n:Int)%18446744073709551616:=by simp[IntKind.wrap,IntKind.signed,IntKind.bits]
 omega
theorem Cw(n:Nat)(h:n<18446744073709551616):(BitVec.ofInt IntKind.u64.bits (n:Int)).toNat=n:=by
 show(BitVec.ofInt 64 (n:Int)).toNat=n
 rw[BitVec.toNat_ofInt]
 omega
theorem pI{n m:Nat}(hn:n<18446744073709551616)(hm:m<18446744073709551616):qA .u64 (n:Int) (m:Int)=((n &&& m:Nat):Int):=by
 unfold qA
 rw[BitVec.toNat_and,Cw n hn,Cw m hm]
 exact nM (Nat.lt_of_le_of_lt Nat.and_le_left hn)
theorem ud{n m:Nat}(hn:n<18446744073709551616)(hm:m<18446744073709551616):rOr .u64 (n:Int) (m:Int)=((n ||| m:Nat):Int):=by
 unfold rOr
 rw[BitVec.toNat_or,Cw n hn,Cw m hm]
 exact nM (Nat.or_lt_two_pow (n:=64) hn hm)
theorem cz{n m:Nat}(hn:n<18446744073709551616)(hm:m<18446744073709551616):oj .u64 (n:Int) (m:Int)=((n ^^^ m:Nat):Int):=by
 unfold oj
 rw[BitVec.toNat_xor,Cw n hn,Cw m hm]
 exact nM (Nat.xor_lt_two_pow (n:=64) hn hm)
theorem pV{n i:Nat}(hi:i<=64):qC .u64 (n:Int) (i:Int)=((n >>> i:Nat):Int):=by
 unfold qC
 rw[Int.toNat_natCast,show min i IntKind.u64.bits=i from Nat.min_eq_left hi,Nat.shiftRight_eq_div_pow]
 have:(2:Int)^i=((2^i:Nat):Int):=by simp
 rw[this,Int.fdiv_eq_ediv_of_nonneg _ (bH _)]
 rfl
theorem fh{i:Nat}(hi:i<64):mx .u64 1 (i:Int)=((2^i:Nat):Int):=by
 unfold mx
 rw[Int.toNat_natCast,show min i IntKind.u64.bits=i from Nat.min_eq_left (Nat.le_of_lt hi),Int.one_mul]
 have:(2:Int)^i=((2^i:Nat):Int):=by simp
 rw[this]
 refine nM ?_
 have:=Nat.pow_lt_pow_right (a:=2) (by decide) hi
 omega
def gI(n:Nat):Nat->Nat
 | 0=>0
 | k+1=>gI n k+if n.testBit k then 1 else 0
theorem zQ(n:Nat):∀k,gI n k<=k
 | 0=>Nat.le_refl _
 | k+1=>by have:=zQ n k;simp only[gI];split<;>omega
theorem K8{n m:Nat}:∀{k:Nat},(∀i,i<k->n.testBit i=m.testBit i)->gI n k=gI m k
 | 0,_=>rfl
 | k+1,h=>by simp only[gI];rw[K8 λ i hi=>h i (Nat.lt_succ_of_lt hi),h k (Nat.lt_succ_self k)]
theorem Vp(n:Nat)(a:Nat):∀k,gI n (a+k)=gI n a+gI (n >>> a) k
 | 0=>rfl
 | k+1=>by
  rw[<- Nat.add_assoc]
  simp only[gI,Vp n a k,Nat.testBit_shiftRight]
  omega
theorem kX{h l i:Nat}(hl:l<256):(256*h+l).testBit i=if i<8 then l.testBit i else h.testBit (i-8):=Nat.testBit_two_pow_mul_add h (i:=8) hl i
theorem m9{h l:Nat}(hl:l<256)(k:Nat):gI (256*h+l) (8+k)=gI l 8+gI h k:=by
 rw[Vp]
 congr 1
 ·exact K8 λ i hi=>by rw[kX hl,if_pos hi]
 ·rw[Nat.shiftRight_eq_div_pow,show 2^8=256 from rfl]
  congr 1
  omega
theorem B7{a b c d:Nat}(hb:b<256)(hd:d<256):(256*a+b) &&& (256*c+d)=256*(a &&& c)+(b &&& d):=by
 have hbd:b &&& d<256:=Nat.lt_of_le_of_lt Nat.and_le_left hb
 refine Nat.eq_of_testBit_eq λ i=>?_
 rw[Nat.testBit_and,kX hb,kX hd,kX hbd]
 split
 ·rw[Nat.testBit_and]
 ·rw[Nat.testBit_and]
theorem Jp{a b s:Nat}(hb:b<256)(hs:s<=8):(256*a+b) >>> s=256*(a >>> s)+((a%2^s)*2^(8-s)+b >>> s):=by
 simp only[Nat.shiftRight_eq_div_pow]
 have h1:256=2^s*2^(8-s):=by rw[<- Nat.pow_add];rw[show s+(8-s)=8 by omega]
 have h2:=Nat.div_add_mod a (2^s)
 have hp:0<2^s:=Nat.two_pow_pos s
 have h3:256*a+b=2^s*(2^(8-s)*a)+b:=by rw[h1,Nat.mul_assoc]
 rw[h3,Nat.mul_add_div hp]
 have h4:2^(8-s)*a=256*(a/2^s)+a%2^s*2^(8-s):=by
  conv=>lhs;rw[<- h2]
  rw[h1,Nat.mul_add,Nat.mul_comm (a%2^s),<- Nat.mul_assoc,Nat.mul_comm (2^(8-s)) (2^s)]
 omega
def kM(s:Nat)(m:Nat)(n:Nat):Nat:=((n >>> s) &&& m)+(n &&& m)
theorem rq{a b s d:Nat}(hb:b<256)(hs:s<=8)(hd:d<2^(8-s)):((a%2^s)*2^(8-s)+b >>> s) &&& d=(b >>> s) &&& d:=by
 have hbs:b >>> s<2^(8-s):=by
  rw[Nat.shiftRight_eq_div_pow]
  refine Nat.div_lt_of_lt_mul ?_
  rw[<- Nat.pow_add,show s+(8-s)=8 by omega]
  exact hb
 refine Nat.eq_of_testBit_eq λ i=>?_
 rw[Nat.testBit_and,Nat.testBit_and,Nat.mul_comm,Nat.testBit_two_pow_mul_add _ hbs]
 split
 ·rfl
 ·rename_i h
  have:d.testBit i=false:=Nat.testBit_lt_two_pow (Nat.lt_of_lt_of_le hd (Nat.pow_le_pow_right (by decide) (by omega)))
  rw[this];simp
theorem Hy{s m a b d:Nat}(hb:b<256)(hs:s<=8)(hs0:0<s)(hd:d<2^(8-s)):kM s (256*m+d) (256*a+b)=256*kM s m a+kM s d b:=by
 have hd':d<256:=Nat.lt_of_lt_of_le hd (Nat.pow_le_pow_right (n:=2) (by decide) (show 8-s<=8 by omega))
 have hL:(a%2^s)*2^(8-s)+b >>> s<256:=by
  have h1:256=2^s*2^(8-s):=by rw[<- Nat.pow_add];rw[show s+(8-s)=8 by omega]
  have h2:a%2^s<2^s:=Nat.mod_lt _ (Nat.two_pow_pos s)
  have h3:b >>> s<2^(8-s):=by
   rw[Nat.shiftRight_eq_div_pow]
   refine Nat.div_lt_of_lt_mul ?_
   rw[<- Nat.pow_add,show s+(8-s)=8 by omega]
   exact hb
  have h4:(a%2^s+1)*2^(8-s)<=2^s*2^(8-s):=Nat.mul_le_mul_right _ h2
  rw[Nat.add_mul,Nat.one_mul] at h4
  omega
 unfold kM
 rw[Jp hb hs,B7 hL hd',B7 hb hd',rq hb hs hd]
 omega
def vj(l:Nat):Nat:=(((kM 2 51 (kM 1 85 l)) >>> 4)+kM 2 51 (kM 1 85 l)) &&& 15
theorem tx:∀l,l<256->kM 1 85 l<256/\kM 2 51 (kM 1 85 l)<256/\kM 2 51 (kM 1 85 l)%16<=4/\kM 2 51 (kM 1 85 l)/16<=4/\vj l=gI l 8:=by decide +kernel
def rW(d:Nat):Nat->Nat
 | 0=>0
 | k+1=>256*rW d k+d
theorem Hj:∀(k n:Nat),n<256^k ->
  ∃r,(∀q,q=(kM 2 (rW 51 k) (kM 1 (rW 85 k) n))->(((q >>> 4)+q) &&& rW 15 k)=r/\q<256^k/\q%16<=4)/\(∃ps:List Nat,ps.length=k/\(∀p∈ps,p<=8)/\r=ps.foldr (λ p acc=>p+256*acc) 0/\ps.sum=gI n (8*k))
 | 0,n,h=>⟨0,λ q hq=>by
   have h0:n=0:=by simpa using h
   subst h0
   subst hq
   simp[kM,rW],[],rfl,by simp,rfl,by simp[gI]⟩
 | k+1,n,h=>by
  have hl:n%256<256:=Nat.mod_lt _ (by decide)
  have hn:n=256*(n/256)+n%256:=(Nat.div_add_mod n 256).symm
  have hk:n/256<256^k:=by
   refine Nat.div_lt_of_lt_mul ?_
   rw[Nat.mul_comm,<- Nat.pow_succ];exact h
  obtain⟨r,h1,ps,h2,h3,h4,h5⟩:=Hj k (n/256) hk
  obtain⟨b1,b2,b3,b4,b5⟩:=tx (n%256) hl
  obtain⟨q1,q2,q3⟩:=h1 _ rfl
  generalize hQ:kM 2 (rW 51 k) (kM 1 (rW 85 k) (n/256))=Q at *
  refine⟨256*r+gI (n%256) 8,λ q hq=>?_,gI (n%256) 8::ps,by simp[h2],?_,?_,?_⟩
  ·have e:q=256*Q+kM 2 51 (kM 1 85 (n%256)):=by
    rw[hq]
    have e0:kM 1 (rW 85 (k+1)) n=256*kM 1 (rW 85 k) (n/256)+kM 1 85 (n%256):=by
     have:=Hy (s:=1) (m:=rW 85 k) (a:=n/256) hl (by decide) (by decide) (show 85<2^(8-1) by decide)
     rw[<- hn] at this
     exact this
    rw[e0,<- hQ]
    exact Hy (s:=2) (m:=rW 51 k) b1 (by decide) (by decide) (show 51<2^(8-2) by decide)
   generalize hB:kM 2 51 (kM 1 85 (n%256))=B at *
   have hones:((B >>> 4)+B) &&& 15=gI (n%256) 8:=by rw[<- b5,vj,hB]
   have e4:q >>> 4=256*(Q >>> 4)+((Q%16)*16+B >>> 4):=by rw[e];exact Jp (s:=4) b2 (by decide)
   have eB:B >>> 4=B/16:=by rw[Nat.shiftRight_eq_div_pow]
   have hlow:(Q%16)*16+B >>> 4+B<256:=by rw[eB];omega
   have hsum:q >>> 4+q=256*(Q >>> 4+Q)+((Q%16)*16+B >>> 4+B):=by rw[e4,e];omega
   refine⟨?_,?_,?_⟩
   ·rw[hsum]
    show(256*(Q >>> 4+Q)+_) &&& (256*rW 15 k+15)=_
    rw[B7 hlow (by decide),q1,<- hones]
    congr 1
    rw[Nat.and_two_pow_sub_one_eq_mod _ 4,Nat.and_two_pow_sub_one_eq_mod _ 4]
    omega
   ·rw[e,Nat.pow_succ];omega
   ·rw[e];omega
  ·intro p hp
   rcases List.mem_cons.1 hp with rfl|hp
   ·exact zQ _ 8
   ·exact h3 p hp
  ·simp only[List.foldr_cons,<- h4];omega
  ·rw[List.sum_cons,h5]
   conv=>rhs;rw[hn]
   rw[show 8*(k+1)=8+8*k by omega,m9 hl]
end

end Go.Ct
