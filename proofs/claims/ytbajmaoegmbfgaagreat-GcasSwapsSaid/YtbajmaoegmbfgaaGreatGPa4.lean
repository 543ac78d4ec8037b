/- Pairs: the reference's Find, Put, Drop, Of, Equal. -/
import Derived.Test.YtbajmaoegmbfgaaGreatGDfr
import Derived.Test.YtbajmaoegmbfgaaGreatGMem

set_option linter.unusedSimpArgs false
set_option linter.unusedVariables false
namespace Go.Proofs.YtbajmaoegmbfgaaGreat
section
open Go.RowKit Go.Ct
section
variable{l:List Pr}{a:Option Addr}{c:Nat}{k:ByteArray}{v:Int}{w:World}
theorem yw{l:List Pr}{k:ByteArray}:∀{i:Nat},i<l.length->(∀j,j<i->(l.getD j (⟨#[]⟩,0)).1≠k)->(l.getD i (⟨#[]⟩,0)).1=k->rD l k=some (l.getD i (⟨#[]⟩,0)).2:=by
 induction l with
 | nil=>intro i h;simp at h
 | cons p l ih =>
  intro i h hn he
  cases i with
  | zero=>exact if_pos he
  | succ i =>
   refine(if_neg (hn 0 (by omega))).trans ?_
   exact ih (by simp at h;omega) (λ j hj=>hn (j+1) (by omega)) he
theorem n7{l:List Pr}{k:ByteArray}(h:∀j,j<l.length->(l.getD j (⟨#[]⟩,0)).1≠k):rD l k=none:=pL λ p hp=>by
 obtain⟨j,hj,rfl⟩:=List.getElem_of_mem hp
 have:=h j hj
 rwa [iM hj] at this
theorem Jm(k:ByteArray)(ha:Cl w a (cR l))(hlen:l.length<=1099511627775) :
  Calls Tryz.prog 60 #[.slice a l.length c,.string k] w λ e w'=>e=.returned (.tuple #[.int .u64 ((dO l k).getD 0),.bool (dO l k).isSome])/\St w [] [] w':=by
 refine enter Tryz.func60 Tryz.ntmps60 rfl rfl (SF.s1 ha) ?_
 simp only[bX]
 refine Nm ?_;refine aV ?_;refine Dd ?_
 refine fV [4,5,6,7,8,9,10,11,12,13,14,15,16,17,18,19,20,21,22,23,24,25,26,27,28] (λ k=>[(6,.int .i64 ((k:Nat):Int))]) (λ i=>i<=l.length/\(i≠0->SA l)/\∀j,j<i->(l.getD j (⟨#[]⟩,0)).1≠k) (λ k=>l.length-k) (0) (⟨Nat.zero_le _,λ h=>absurd rfl h,λ j hj=>absurd hj (Nat.not_lt_zero j)⟩) ?_ (λ i f hx=>?_)
 ·repeat (first|exact bD _|refine aW (by exact rfl) ?_)
 dsimp only[gX,List.map,List.cons_append,List.nil_append]
 refine Cz ?_;refine dA ?_;refine Bq ?_
 (refine dZ 11 (λ g11=>?_) (λ g11=>?_)<;>(first|refine aI ?_|(refine aF ?_;refine aA ?_)))
 all_goals ((first|refine aI ?_|(refine aF ?_;refine aD (c0 (V:=.bool) (hc:=λ w1 hw=>mG (hw.cl fin) (by omega))) (λ x13 h13=>?_)));refine cA ?_;refine aH ?_)
 all_goals
 refine bB (λ c14=>?_) (λ c14=>?_)
 ·try exact nv c14
  all_goals (refine qB ?_;refine iU ?_;refine gN ?_;refine J3 ?_;refine aA ?_;refine uy ?_;refine aH ?_)
  all_goals
   refine bB (λ c23=>?_) (λ c23=>?_)
   ·refine iU ?_;refine gN ?_;refine J3 ?_;refine J8 ?_
    refine bC Tryz.results60 (λ w hw=>?_)
    rw[show dO l k=some (l.getD i (⟨#[]⟩,0)).2 from(if_pos (oG.1 (h13.1 (by simp_all)))).trans (yw (by omega) hx.2.2 c23)];exact⟨rfl,hw.done⟩
   ·refine nT ?_;refine uJ ?_
    refine eI (i+1) ?_ ?_ ?_
    ·omega
    ·repeat' (first|exact bD _|refine aW ?_ ?_)
     exact rfl
    ·exact⟨by omega,λ _=>oG.1 (h13.1 (by simp_all)),λ j hj=>by rcases Nat.lt_succ_iff_lt_or_eq.1 hj with h|rfl;exact hx.2.2 j h;assumption⟩
 ·all_goals (refine bM rfl ?_;refine Nm ?_)
  all_goals
   refine bC Tryz.results60 (λ w hw=>?_)
   first
   | (rw[show dO l k=none from if_neg λ hs=>by have:=h13.2 (oG.2 hs);simp_all];exact⟨rfl,hw.done⟩)
   | (rw[show dO l k=none by unfold dO;split;exact n7 λ j hj=>hx.2.2 j (by omega);rfl];exact⟨rfl,hw.done⟩)
theorem K8{l:List Pr}{i:Nat}(hi:i<l.length)(k:ByteArray):(l.take (i+1)).filter (λ p=>decide (p.1≠k))=(l.take i).filter (λ p=>decide (p.1≠k))++(if(l.getD i (⟨#[]⟩,0)).1≠k then [l.getD i (⟨#[]⟩,0)] else []):=by
 rw[List.take_add_one,List.getElem?_eq_getElem hi,iM hi,List.filter_append]
 congr 1
 by_cases h:l[i].1=k<;>simp[h]
theorem H6{l:List Pr}{i:Nat}(hi:i<l.length)(k:ByteArray):iS (l.take (i+1)) k=if(l.getD i (⟨#[]⟩,0)).1=k then iS (l.take i) k else iS (l.take i) k++[l.getD i (⟨#[]⟩,0)]:=by
 unfold iS
 rw[K8 hi k]
 by_cases h:(l.getD i (⟨#[]⟩,0)).1=k
 ·rw[if_neg λ hn=>hn h,if_pos h,List.append_nil]
 ·rw[if_pos h,if_neg h]
theorem P7(k:ByteArray)(ha:Cl w a (cR l))(hlen:l.length<=200000000000) :
  Calls Tryz.prog 111 #[.slice a l.length c,.string k] w (pz w (iS l k)):=by
 refine enter Tryz.func111 Tryz.ntmps111 rfl rfl (SF.s1 ha) ?_
 simp only[bX]
 refine cO ?_;refine Fu ?_;refine Dd ?_
 refine mV [5,6,7,8,9,10,11,12,13,14,15,16,17,18,19,20,21,22,23,24,25,26] (λ z:Nat×Option Addr×List Pr×Nat=>[(6,.int .i64 ((z.1:Nat):Int)),(5,.slice z.2.1 z.2.2.1.length z.2.2.2)]) (λ z=>z.1<=l.length/\z.2.2.1.length<=z.2.2.2/\z.2.2.1=iS (l.take z.1) k/\z.2.2.1.length<=z.1) (λ _=>_) (λ _=>_) (λ z=>[⟨z.2.1,cR z.2.2.1,z.2.2.2,164,2⟩]) (λ z=>l.length-z.1) ((0,none,[],0)) (⟨Nat.zero_le _,Nat.le_refl _,rfl,Nat.le_refl _⟩) (λ z f hx=>?_) (hw0:=λ w hw=>(hw.kI 164 2).back)
 dsimp only[gX,List.map,List.cons_append,List.nil_append]
 refine Cz ?_;refine dA ?_;refine wT ?_
 refine bB (λ c10=>?_) (λ c10=>?_)
 ·refine qB ?_;refine iU ?_;refine gN ?_;refine J3 ?_;refine aA ?_;refine uz ?_;refine aH ?_
  refine bB (λ c19=>?_) (λ c19=>?_)
  ·refine Ak ?_;refine oZ ?_;refine Rf ?_;refine fA (λ x25=>?_);(refine fF (λ x26=>?_);try (refine eZ (λ h26=>?_)));refine J1 ?_;refine fH ?_;refine uJ ?_
   refine iP ((by exact(z.1+1,x26.1,z.2.2.1++[l.getD z.1 (⟨#[]⟩,0)],x26.2))) ?_ (hw1:=λ w hw=>by exact hw.back (hO:=by exact List.Sublist.refl _))
   ·obtain⟨q1,q2,q3,q4⟩:=hx
    have hdt:=H6 (l:=l) (i:=z.1) (by omega) k
    first
    | exact⟨by show z.1+1<=l.length;omega,by simp only[List.length_append,List.length_cons,List.length_nil];omega,by rw[if_neg (by assumption),<- q3] at hdt;exact hdt.symm,by simp only[List.length_append,List.length_cons,List.length_nil];omega⟩
    | exact⟨by show z.1+1<=l.length;omega,q2,by rw[if_pos (by assumption),<- q3] at hdt;exact hdt.symm,by show z.2.2.1.length<=z.1+1;omega⟩
  ·refine nT ?_;refine uJ ?_
   refine iP ((by exact(z.1+1,z.2.1,z.2.2.1,z.2.2.2))) ?_ (hw1:=λ w hw=>by exact hw.back (hO:=by exact List.Sublist.refl _))
   ·obtain⟨q1,q2,q3,q4⟩:=hx
    have hdt:=H6 (l:=l) (i:=z.1) (by omega) k
    first
    | exact⟨by show z.1+1<=l.length;omega,by simp only[List.length_append,List.length_cons,List.length_nil];omega,by rw[if_neg (by assumption),<- q3] at hdt;exact hdt.symm,by simp only[List.length_append,List.length_cons,List.length_nil];omega⟩
    | exact⟨by show z.1+1<=l.length;omega,q2,by rw[if_pos (by assumption),<- q3] at hdt;exact hdt.symm,by show z.2.2.1.length<=z.1+1;omega⟩
 ·refine bM rfl ?_;refine J2 ?_;refine J1 ?_
  refine aS Tryz.results111 (λ w hw=>?_)
  obtain⟨q1,q2,q3,q4⟩:=hx
  have e:z.2.2.1=iS l k:=by rw[q3,List.take_of_length_le (by omega)]
  rw[<- e]
  exact⟨(z.2.1,z.2.2.2),rfl,q2,hw.aU⟩
theorem lN{l:List Pr}{i:Nat}(hi:i<l.length):l.take (i+1)=l.take i++[l.getD i (⟨#[]⟩,0)]:=by
 rw[List.take_add_one,List.getElem?_eq_getElem hi,iM hi];rfl
theorem Z8(p:Pr)(ha:Cl w a (cR l))(hc:l.length<=c)(hs:SA l)(hn:∀q∈l,q.1≠p.1)(hlen:l.length<=200000000000) :
    Calls Tryz.prog 110 #[.slice a l.length c,.agg ⟨[.string p.1,.int .u64 p.2]⟩] w (pz w (mE l p.1 p.2)):=by
  refine enter Tryz.func110 Tryz.ntmps110 rfl rfl (SF.s1 ha) ?_
  simp only[bX]
  refine J0 ?_;refine bK (λ x3=>?_);refine J1 ?_;refine Fu ?_;refine Dd ?_
  refine mV [5,6,8,9,10,11,12,13,14,15,16,17,18,19,20,21,22,23,24,25,26,27,28,29,30] (λ z:Nat×Option Addr×List Pr×Nat=>[(6,.int .i64 ((z.1:Nat):Int)),(5,.slice z.2.1 z.2.2.1.length z.2.2.2)]) (λ z=>z.1<=l.length/\z.2.2.1.length<=z.2.2.2/\z.2.2.1=l.take z.1/\z.2.2.1.length=z.1/\∀j,j<z.1->dF (l.getD j (⟨#[]⟩,0)).1 p.1=true) (λ z=>[(x3,.cells ⟨[.string p.1,.int .u64 p.2]⟩ 164 (0,0))]) (λ _=>_) (λ z=>[⟨z.2.1,cR z.2.2.1,z.2.2.2,164,2⟩]) (λ z=>l.length-z.1) ((0,none,[],0)) (⟨Nat.zero_le _,Nat.le_refl _,rfl,rfl,λ j hj=>absurd hj (Nat.not_lt_zero j)⟩) (λ z f hx=>?_) (hw0:=λ w hw=>(hw.kI 164 2).back)
  dsimp only[gX,List.map,List.cons_append,List.nil_append]
  refine aV ?_;refine aV ?_;refine gF [0,1,2,3,4,5,6,7,8,9,10,11,12,13] ?_;refine iH ?_;refine oA ?_;refine A1 ?_;refine aN ?_
  (refine Zc 12 (λ g12=>?_) (λ g12=>?_)<;>(first|refine cW ?_|(refine aN ?_)))
  all_goals ((first|refine cW ?_|(refine aN ?_));(first|refine cW ?_|(refine iR ?_));refine m4 ?_;refine m4 ?_;(first|refine cW ?_|(refine kx ?_));refine eK ?_;refine dW ?_)
  all_goals
   refine bB (λ c21=>?_) (λ c21=>?_)
   · try exact nv c21
     all_goals (refine qB ?_;refine Ak ?_;refine oZ ?_;refine Rf ?_;refine fA (λ x29=>?_);(refine aT (by(exact bE.eM (Lh rf rf yT rfl fin (by exact pU rfl) fU (by omega)) (by intro x;simp only[kL];exact rfl))) (λ x30=>?_);try (refine eZ (λ h30=>?_)));refine J1 ?_;refine fH ?_;refine uJ ?_)
     all_goals
      refine iP ((z.1+1,x30.1,z.2.2.1++[l.getD z.1 (⟨#[]⟩,0)],x30.2)) ?_ (hw1:=λ w hw=>hw.back (hO:=by exact List.Sublist.refl _))
      · obtain⟨q1,q2,q3,q4,q5⟩:=hx
        refine⟨by show z.1+1<=l.length;omega,by simp only[List.length_append,List.length_cons,List.length_nil];omega,by rw[lN (by omega),<- q3],by simp only[List.length_append,List.length_cons,List.length_nil];omega,λ j hj=>?_⟩
        rcases Nat.lt_succ_iff_lt_or_eq.1 hj with h|rfl
        · exact q5 j h
        · exact c21
   · all_goals
      refine Rr (λ w hw=>hw.aBs (k:=z.2.2.1.length) (c:=c) fin hc) ?_
     all_goals (refine bM rfl ?_;refine J2 ?_;refine dA ?_;refine hZ ?_;refine gF [0,1,4,5,6,2,3,7,8] ?_;refine aN ?_;refine bG ?_;refine iH ?_;refine cC (i:=6) (hq:=(eu (k:=z.2.2.1.length) rf rf fU (by exact tV rfl) (by omega) (by omega))) (h:=?_);refine bV (h:=λ x35=>?_);((refine cH (i:=3) (hq:=(by(exact bE.eM (Lh rf rf yT rfl fin (by exact pU rfl) fU (by omega)) (by intro x;simp only[kL];exact rfl)))) (h:=λ x36=>?_);try (refine dY (λ h36=>?_))));((refine cH (i:=7) (hq:=(by(exact bE.eM (Mp (l2:=l.drop z.2.2.1.length) rf rf yT (by simp;done) fin (by rw[List.length_drop]) (by exact pU rfl) fU (by omega)) (by intro x;simp only[kL];exact rfl)))) (h:=λ x40=>?_);try (refine dY (λ h40=>?_))));refine J7 ?_)
     all_goals
      refine aS Tryz.results110 (λ w hw=>?_)
      obtain⟨q1,q2,q3,q4,q5⟩:=hx
      have hp:Ol l p.1 z.1:=⟨q1,q5,by first|exact aAT hs c21|(intro j h1 h2;omega)⟩
      have e:mE l p.1 p.2=z.2.2.1++[(p.1,p.2)]++l.drop z.2.2.1.length:=by
       rw[Uy hp λ hh=>?_,q4,<- q3,List.append_assoc]
       · rfl
       · exact hn _ (by rw[iM hh.1];exact List.getElem_mem hh.1) hh.2
      have e2:(z.2.2.1++[(p.1,p.2)]++l.drop z.2.2.1.length).length=z.2.2.1.length+1+(l.length-z.2.2.1.length):=by rw[List.length_append,List.length_append,List.length_drop];rfl
      rw[e]
      exact⟨x40,by rw[e2];rfl,by rw[e2];exact h40,hw.aU⟩
theorem vX(k:ByteArray)(ha:Cl w a (cR l))(hlen:l.length<=200000000000) :
  Calls Tryz.prog 111 #[.slice a l.length c,.string k] w (Yj w (iS l k)):=(P7 k ha hlen).mono λ _ _ h=>h.Te
theorem Po(p:Pr)(ha:Cl w a (cR l))(hc:l.length<=c)(hs:SA l)(hn:∀q∈l,q.1≠p.1)(hlen:l.length<=200000000000) :
  Calls Tryz.prog 110 #[.slice a l.length c,.agg ⟨[.string p.1,.int .u64 p.2]⟩] w (Yj w (mE l p.1 p.2)):=(Z8 p ha hc hs hn hlen).mono λ _ _ h=>h.Te
theorem Ki{l:List Pr}{k:ByteArray}:∀q∈iS l k,q.1≠k:=λ q hq=>by simpa using(List.mem_filter.1 hq).2
theorem Hk(l:List Pr)(k:ByteArray):(iS l k).length<=l.length:=List.length_filter_le _ _
theorem ig(k:ByteArray)(v:Int)(ha:Cl w a (cR l))(hlen:l.length<=200000000000) :
  Calls Tryz.prog 256 #[.slice a l.length c,.string k,.int .u64 v] w (Yj w (Nt l k v)):=by
 have hdl:=Hk l k
 refine enter Tryz.func256 Tryz.ntmps256 rfl rfl (SF.s1 ha) ?_
 simp only[bX]
 refine cO ?_;refine jV ?_;refine aD (c0 (V:=.bool) (hc:=λ w1 hw=>mG (hw.cl fin) (by omega))) (λ x8 h8=>?_);refine oE ?_
 refine bB (λ c9=>?_) (λ c9=>?_)
 ·refine cO ?_
  refine aS Tryz.results256 (λ w hw=>?_)
  rw[show Nt l k v=[] from if_neg λ hs=>by rw[h8.2 (oG.2 hs)] at c9;cases c9];exact⟨(none,0),rfl,Nat.le_refl _,(hw.Md none).fin⟩
 ·have hs:SA l:=oG.1 (h8.1 (by simpa using c9))
  refine Af ?_;refine aD (cF (hc:=λ w1 hw=>vX k (hw.cl fin) hlen)) (λ x12 h12=>?_);refine oZ ?_;refine bJ ?_;refine aD (cF (hc:=λ w1 hw=>Po (k,v) (hw.cl fin) h12 (wQ k hs) Ki (by omega))) (λ x16 h16=>?_);refine J1 ?_
  refine aS Tryz.results256 (λ w hw=>?_)
  rw[show Nt l k v=mE (iS l k) k v from(if_pos hs).trans (Pf hs k v).symm];exact⟨x16,rfl,h16,hw.fin⟩
theorem Yb(k:ByteArray)(ha:Cl w a (cR l))(hlen:l.length<=200000000000) :
  Calls Tryz.prog 258 #[.slice a l.length c,.string k] w (Yj w (rT l k)):=by
 refine enter Tryz.func258 Tryz.ntmps258 rfl rfl (SF.s1 ha) ?_
 simp only[bX]
 refine cO ?_;refine jV ?_;refine aD (c0 (V:=.bool) (hc:=λ w1 hw=>mG (hw.cl fin) (by omega))) (λ x6 h6=>?_);refine oE ?_
 refine bB (λ c7=>?_) (λ c7=>?_)
 ·refine cO ?_
  refine aS Tryz.results258 (λ w hw=>?_)
  rw[show rT l k=[] from if_neg λ hs=>by rw[h6.2 (oG.2 hs)] at c7;cases c7];exact⟨(none,0),rfl,Nat.le_refl _,(hw.Md none).fin⟩
 ·have hs:SA l:=oG.1 (h6.1 (by simpa using c7))
  refine Af ?_;refine aD (cF (hc:=λ w1 hw=>vX k (hw.cl fin) hlen)) (λ x10 h10=>?_);refine J1 ?_
  refine aS Tryz.results258 (λ w hw=>?_)
  rw[show rT l k=iS l k from if_pos hs];exact⟨x10,rfl,h10,hw.fin⟩
theorem rn(ha:Cl w a (cR l))(hlen:l.length<=200000000000) :
  Calls Tryz.prog 61 #[.slice a l.length c] w (Yj w (D3 l)):=by
 refine enter Tryz.func61 Tryz.ntmps61 rfl rfl (SF.s1 ha) ?_
 simp only[bX]
 refine cO ?_;refine Fu ?_;refine Dd ?_
 refine mV [3,4,5,6,7,8,9,10,11,12,13,14,15,16,17,18,19,20,21,22] (λ z:Nat×Option Addr×List Pr×Nat=>[(4,.int .i64 ((z.1:Nat):Int)),(3,.slice z.2.1 z.2.2.1.length z.2.2.2)]) (λ z=>z.1<=l.length/\z.2.2.1.length<=z.2.2.2/\z.2.2.1=D3 (l.take z.1)/\z.2.2.1.length<=z.1/\SA z.2.2.1) (λ _=>_) (λ z=>[(z.2.1,cR z.2.2.1)]) (λ _=>_) (λ z=>l.length-z.1) ((0,none,[],0)) (⟨Nat.zero_le _,Nat.le_refl _,rfl,Nat.le_refl _,List.Pairwise.nil⟩) (λ z f hx=>?_) (hw0:=λ w hw=>(hw.Md none).back)
 dsimp only[gX,List.map,List.cons_append,List.nil_append]
 refine Cz ?_;refine dA ?_;refine wT ?_
 refine bB (λ c8=>?_) (λ c8=>?_)
 ·have hdl:=Hk z.2.2.1 (l.getD z.1 (⟨#[]⟩,0)).1
  refine qB ?_;refine dI [(0,[]),(1,[]),(2,[]),(3,[]),(4,[]),(5,[]),(7,[]),(8,[]),(9,[]),(10,[]),(6,[9,10]),(11,[]),(12,[])] ?_;refine iH ?_;refine aN ?_;refine iR ?_;refine kJ ?_;refine iH ?_;refine P8 ?_;refine aZ (i:=6) (hq:=(cF (hc:=λ w1 hw=>vX (l.getD z.1 (⟨#[]⟩,0)).1 (hw.cl fin) (by omega)))) (h:=λ x17 h17=>?_);refine aZ (i:=11) (hq:=(cF (hc:=λ w1 hw=>Po (l.getD z.1 (⟨#[]⟩,0)) (hw.cl fin) h17 (wQ _ hx.2.2.2.2) Ki (by omega)))) (h:=λ x22 h22=>?_);refine J7 ?_;refine fH ?_;refine uJ ?_
  refine iP ((z.1+1,x22.1,mE (iS z.2.2.1 (l.getD z.1 (⟨#[]⟩,0)).1) (l.getD z.1 (⟨#[]⟩,0)).1 (l.getD z.1 (⟨#[]⟩,0)).2,x22.2)) ?_
  ·obtain⟨q1,q2,q3,q4,q5⟩:=hx
   have e:=Pf q5 (l.getD z.1 (⟨#[]⟩,0)).1 (l.getD z.1 (⟨#[]⟩,0)).2
   have hl:=xG (k:=(l.getD z.1 (⟨#[]⟩,0)).1) (v:=(l.getD z.1 (⟨#[]⟩,0)).2) q5
   rw[e] at h22
   refine⟨by show z.1+1<=l.length;omega,by show(mE _ _ _).length<=_;rw[e];exact h22,?_,?_,?_⟩
   ·show mE _ _ _=_
    rw[e,lN (by omega),vJ,<- q3]
   ·show(mE _ _ _).length<=z.1+1
    rw[e,hl];split<;>omega
   ·show SA (mE _ _ _)
    rw[e];exact xP q5
 ·refine bM rfl ?_;refine J2 ?_;refine J1 ?_
  refine aS Tryz.results61 (λ w hw=>?_)
  obtain⟨q1,q2,q3,q4,q5⟩:=hx
  have e:z.2.2.1=D3 l:=by rw[q3,List.take_of_length_le (by omega)]
  rw[<- e]
  exact⟨(z.2.1,z.2.2.2),rfl,q2,hw.fin⟩
end
end

/- Pairs: the algebra. -/
section
open Go.RowKit Go.Ct
section
variable{l X:List Pr}{a:Option Addr}{c M:Nat}{k j:ByteArray}{v z:Int}{w:World}
theorem qf(X:List Pr)(k:ByteArray)(v:Int):(Nt X k v).length<=X.length+1:=by
 unfold Nt
 split
 ·next h=>rw[xG h];split<;>omega
 ·exact Nat.zero_le _
theorem aa(X:List Pr)(k:ByteArray):(rT X k).length<=X.length:=by
 unfold rT
 split
 ·exact Hk X k
 ·exact Nat.zero_le _
end
end

/- Bits of 64 bit numbers: plain laws. -/
end Go.Proofs.YtbajmaoegmbfgaaGreat
namespace Go.Ct
section
open Go Go.RowKit
theorem nF{n:Nat}(h:n<18446744073709551616):IntKind.u64.wrap ((n:Nat):Int)=(n:Int):=by
 have h2:IntKind.u64.wrap (n:Int)=(n:Int)%18446744073709551616:=by simp[IntKind.wrap,IntKind.signed,IntKind.bits]
 omega
theorem Bl(n:Nat)(h:n<18446744073709551616):(BitVec.ofInt IntKind.u64.bits (n:Int)).toNat=n:=by
 show(BitVec.ofInt 64 (n:Int)).toNat=n
 rw[BitVec.toNat_ofInt]
 omega
theorem pG{n m:Nat}(hn:n<18446744073709551616)(hm:m<18446744073709551616):qA .u64 (n:Int) (m:Int)=((n &&& m:Nat):Int):=by
 unfold qA
 rw[BitVec.toNat_and,Bl n hn,Bl m hm]
 exact nF (Nat.lt_of_le_of_lt Nat.and_le_left hn)
theorem sk{n m:Nat}(hn:n<18446744073709551616)(hm:m<18446744073709551616):rOr .u64 (n:Int) (m:Int)=((n ||| m:Nat):Int):=by
 unfold rOr
 rw[BitVec.toNat_or,Bl n hn,Bl m hm]
 exact nF (Nat.or_lt_two_pow (n:=64) hn hm)
theorem ax{n m:Nat}(hn:n<18446744073709551616)(hm:m<18446744073709551616):r0 .u64 (n:Int) (m:Int)=((n ^^^ m:Nat):Int):=by
 unfold r0
 rw[BitVec.toNat_xor,Bl n hn,Bl m hm]
 exact nF (Nat.xor_lt_two_pow (n:=64) hn hm)
theorem pY{n i:Nat}(hi:i<=64):pR .u64 (n:Int) (i:Int)=((n >>> i:Nat):Int):=by
 unfold pR
 rw[Int.toNat_natCast,show min i IntKind.u64.bits=i from Nat.min_eq_left hi,Nat.shiftRight_eq_div_pow]
 have:(2:Int)^i=((2^i:Nat):Int):=by simp
 rw[this,Int.fdiv_eq_ediv_of_nonneg _ (bH _)]
 rfl
theorem ll{i:Nat}(hi:i<64):fh .u64 1 (i:Int)=((2^i:Nat):Int):=by
 unfold fh
 rw[Int.toNat_natCast,show min i IntKind.u64.bits=i from Nat.min_eq_left (Nat.le_of_lt hi),Int.one_mul]
 have:(2:Int)^i=((2^i:Nat):Int):=by simp
 rw[this]
 refine nF ?_
 have:=Nat.pow_lt_pow_right (a:=2) (by decide) hi
 omega
def gE(n:Nat):Nat->Nat
 | 0=>0
 | k+1=>gE n k+if n.testBit k then 1 else 0
theorem zC(n:Nat):∀k,gE n k<=k
 | 0=>Nat.le_refl _
 | k+1=>by have:=zC n k;simp only[gE];split<;>omega
theorem Ja{n m:Nat}:∀{k:Nat},(∀i,i<k->n.testBit i=m.testBit i)->gE n k=gE m k
 | 0,_=>rfl
 | k+1,h=>by simp only[gE];rw[Ja λ i hi=>h i (Nat.lt_succ_of_lt hi),h k (Nat.lt_succ_self k)]
theorem Vj(n:Nat)(a:Nat):∀k,gE n (a+k)=gE n a+gE (n >>> a) k
 | 0=>rfl
 | k+1=>by
  rw[<- Nat.add_assoc]
  simp only[gE,Vj n a k,Nat.testBit_shiftRight]
  omega
theorem kT{h l i:Nat}(hl:l<256):(256*h+l).testBit i=if i<8 then l.testBit i else h.testBit (i-8):=Nat.testBit_two_pow_mul_add h (i:=8) hl i
theorem ao{h l:Nat}(hl:l<256)(k:Nat):gE (256*h+l) (8+k)=gE l 8+gE h k:=by
 rw[Vj]
 congr 1
 ·exact Ja λ i hi=>by rw[kT hl,if_pos hi]
 ·rw[Nat.shiftRight_eq_div_pow,show 2^8=256 from rfl]
  congr 1
  omega
theorem Ck{a b c d:Nat}(hb:b<256)(hd:d<256):(256*a+b) &&& (256*c+d)=256*(a &&& c)+(b &&& d):=by
 have hbd:b &&& d<256:=Nat.lt_of_le_of_lt Nat.and_le_left hb
 refine Nat.eq_of_testBit_eq λ i=>?_
 rw[Nat.testBit_and,kT hb,kT hd,kT hbd]
 split
 ·rw[Nat.testBit_and]
 ·rw[Nat.testBit_and]
theorem Ka{a b s:Nat}(hb:b<256)(hs:s<=8):(256*a+b) >>> s=256*(a >>> s)+((a%2^s)*2^(8-s)+b >>> s):=by
 simp only[Nat.shiftRight_eq_div_pow]
 have h1:256=2^s*2^(8-s):=by rw[<- Nat.pow_add];rw[show s+(8-s)=8 by omega]
 have h2:=Nat.div_add_mod a (2^s)
 have hp:0<2^s:=Nat.two_pow_pos s
 have h3:256*a+b=2^s*(2^(8-s)*a)+b:=by rw[h1,Nat.mul_assoc]
 rw[h3,Nat.mul_add_div hp]
 have h4:2^(8-s)*a=256*(a/2^s)+a%2^s*2^(8-s):=by
  conv=>lhs;rw[<- h2]
  rw[h1,Nat.mul_add,Nat.mul_comm (a%2^s),<- Nat.mul_assoc,Nat.mul_comm (2^(8-s)) (2^s)]
 omega
def kF(s:Nat)(m:Nat)(n:Nat):Nat:=((n >>> s) &&& m)+(n &&& m)
theorem nj{a b s d:Nat}(hb:b<256)(hs:s<=8)(hd:d<2^(8-s)):((a%2^s)*2^(8-s)+b >>> s) &&& d=(b >>> s) &&& d:=by
 have hbs:b >>> s<2^(8-s):=by
  rw[Nat.shiftRight_eq_div_pow]
  refine Nat.div_lt_of_lt_mul ?_
  rw[<- Nat.pow_add,show s+(8-s)=8 by omega]
  exact hb
 refine Nat.eq_of_testBit_eq λ i=>?_
 rw[Nat.testBit_and,Nat.testBit_and,Nat.mul_comm,Nat.testBit_two_pow_mul_add _ hbs]
 split
 ·rfl
 ·rename_i h
  have:d.testBit i=false:=Nat.testBit_lt_two_pow (Nat.lt_of_lt_of_le hd (Nat.pow_le_pow_right (by decide) (by omega)))
  rw[this];simp
theorem E8{s m a b d:Nat}(hb:b<256)(hs:s<=8)(hs0:0<s)(hd:d<2^(8-s)):kF s (256*m+d) (256*a+b)=256*kF s m a+kF s d b:=by
 have hd':d<256:=Nat.lt_of_lt_of_le hd (Nat.pow_le_pow_right (n:=2) (by decide) (show 8-s<=8 by omega))
 have hL:(a%2^s)*2^(8-s)+b >>> s<256:=by
  have h1:256=2^s*2^(8-s):=by rw[<- Nat.pow_add];rw[show s+(8-s)=8 by omega]
  have h2:a%2^s<2^s:=Nat.mod_lt _ (Nat.two_pow_pos s)
  have h3:b >>> s<2^(8-s):=by
   rw[Nat.shiftRight_eq_div_pow]
   refine Nat.div_lt_of_lt_mul ?_
   rw[<- Nat.pow_add,show s+(8-s)=8 by omega]
   exact hb
  have h4:(a%2^s+1)*2^(8-s)<=2^s*2^(8-s):=Nat.mul_le_mul_right _ h2
  rw[Nat.add_mul,Nat.one_mul] at h4
  omega
 unfold kF
 rw[Ka hb hs,Ck hL hd',Ck hb hd',nj hb hs hd]
 omega
def tz(l:Nat):Nat:=(((kF 2 51 (kF 1 85 l)) >>> 4)+kF 2 51 (kF 1 85 l)) &&& 15
theorem nh:∀l,l<256->kF 1 85 l<256/\kF 2 51 (kF 1 85 l)<256/\kF 2 51 (kF 1 85 l)%16<=4/\kF 2 51 (kF 1 85 l)/16<=4/\tz l=gE l 8:=by decide +kernel
def rZ(d:Nat):Nat->Nat
 | 0=>0
 | k+1=>256*rZ d k+d
theorem Gw:∀(k n:Nat),n<256^k ->
  ∃r,(∀q,q=(kF 2 (rZ 51 k) (kF 1 (rZ 85 k) n))->(((q >>> 4)+q) &&& rZ 15 k)=r/\q<256^k/\q%16<=4)/\(∃ps:List Nat,ps.length=k/\(∀p∈ps,p<=8)/\r=ps.foldr (λ p acc=>p+256*acc) 0/\ps.sum=gE n (8*k))
 | 0,n,h=>⟨0,λ q hq=>by
   have h0:n=0:=by simpa using h
   subst h0
   subst hq
   simp[kF,rZ],[],rfl,by simp,rfl,by simp[gE]⟩
 | k+1,n,h=>by
  have hl:n%256<256:=Nat.mod_lt _ (by decide)
  have hn:n=256*(n/256)+n%256:=(Nat.div_add_mod n 256).symm
  have hk:n/256<256^k:=by
   refine Nat.div_lt_of_lt_mul ?_
   rw[Nat.mul_comm,<- Nat.pow_succ];exact h
  obtain⟨r,h1,ps,h2,h3,h4,h5⟩:=Gw k (n/256) hk
  obtain⟨b1,b2,b3,b4,b5⟩:=nh (n%256) hl
  obtain⟨q1,q2,q3⟩:=h1 _ rfl
  generalize hQ:kF 2 (rZ 51 k) (kF 1 (rZ 85 k) (n/256))=Q at *
  refine⟨256*r+gE (n%256) 8,λ q hq=>?_,gE (n%256) 8::ps,by simp[h2],?_,?_,?_⟩
  ·have e:q=256*Q+kF 2 51 (kF 1 85 (n%256)):=by
    rw[hq]
    have e0:kF 1 (rZ 85 (k+1)) n=256*kF 1 (rZ 85 k) (n/256)+kF 1 85 (n%256):=by
     have:=E8 (s:=1) (m:=rZ 85 k) (a:=n/256) hl (by decide) (by decide) (show 85<2^(8-1) by decide)
     rw[<- hn] at this
     exact this
    rw[e0,<- hQ]
    exact E8 (s:=2) (m:=rZ 51 k) b1 (by decide) (by decide) (show 51<2^(8-2) by decide)
   generalize hB:kF 2 51 (kF 1 85 (n%256))=B at *
   have hones:((B >>> 4)+B) &&& 15=gE (n%256) 8:=by rw[<- b5,tz,hB]
   have e4:q >>> 4=256*(Q >>> 4)+((Q%16)*16+B >>> 4):=by rw[e];exact Ka (s:=4) b2 (by decide)
   have eB:B >>> 4=B/16:=by rw[Nat.shiftRight_eq_div_pow]
   have hlow:(Q%16)*16+B >>> 4+B<256:=by rw[eB];omega
   have hsum:q >>> 4+q=256*(Q >>> 4+Q)+((Q%16)*16+B >>> 4+B):=by rw[e4,e];omega
   refine⟨?_,?_,?_⟩
   ·rw[hsum]
    show(256*(Q >>> 4+Q)+_) &&& (256*rZ 15 k+15)=_
    rw[Ck hlow (by decide),q1,<- hones]
    congr 1
    rw[Nat.and_two_pow_sub_one_eq_mod _ 4,Nat.and_two_pow_sub_one_eq_mod _ 4]
    omega
   ·rw[e,Nat.pow_succ];omega
   ·rw[e];omega
  ·intro p hp
   rcases List.mem_cons.1 hp with rfl|hp
   ·exact zC _ 8
   ·exact h3 p hp
  ·simp only[List.foldr_cons,<- h4];omega
  ·rw[List.sum_cons,h5]
   conv=>rhs;rw[hn]
   rw[show 8*(k+1)=8+8*k by omega,ao hl]
end

end Go.Ct
