/- Pairs: the reference's Find, Put, Drop, Of, Equal. -/
import Derived.Test.YtbajmaoegmbfgaaGreatGPa1
import Derived.Test.YtbajmaoegmbfgaaGreatGMem

set_option linter.unusedSimpArgs false
set_option linter.unusedVariables false
namespace Go.Proofs.YtbajmaoegmbfgaaGreat
section
open Go.RowKit Go.Ct
section
variable{l:List Pr}{a:Option Addr}{c:Nat}{k:ByteArray}{v:Int}{w:World}
theorem aAr{l:List Pr}{k:ByteArray}:∀{i:Nat},i<l.length->(∀j,j<i->(l.getD j (⟨#[]⟩,0)).1≠k)->(l.getD i (⟨#[]⟩,0)).1=k->rE l k=some (l.getD i (⟨#[]⟩,0)).2:=by
 induction l with
 | nil=>intro i h;simp at h
 | cons p l ih =>
  intro i h hn he
  cases i with
  | zero=>exact if_pos he
  | succ i =>
   refine(if_neg (hn 0 (by omega))).trans ?_
   exact ih (by simp at h;omega) (λ j hj=>hn (j+1) (by omega)) he
theorem p9{l:List Pr}{k:ByteArray}(h:∀j,j<l.length->(l.getD j (⟨#[]⟩,0)).1≠k):rE l k=none:=nU λ p hp=>by
 obtain⟨j,hj,rfl⟩:=List.getElem_of_mem hp
 have:=h j hj
 rwa [gH hj] at this
theorem Kd(k:ByteArray)(ha:Cl w a (dH l))(hlen:l.length<=1099511627775) :
  Calls Tryz.prog 60 #[.slice a l.length c,.string k] w λ e w'=>e=.returned (.tuple #[.int .u64 ((cO l k).getD 0),.bool (cO l k).isSome])/\St w [] [] w':=by
 refine enter Tryz.func60 Tryz.ntmps60 rfl rfl (SF.s1 ha) ?_
 simp only[bY]
 refine Q5 ?_;refine aV ?_;refine Fs ?_
 refine fF [4,5,6,7,8,9,10,11,12,13,14,15,16,17,18,19,20,21,22,23,24,25,26,27,28] (λ k=>[(6,.int .i64 ((k:Nat):Int))]) (λ i=>i<=l.length/\(i≠0->SA l)/\∀j,j<i->(l.getD j (⟨#[]⟩,0)).1≠k) (λ k=>l.length-k) (0) (⟨Nat.zero_le _,λ h=>absurd rfl h,λ j hj=>absurd hj (Nat.not_lt_zero j)⟩) ?_ (λ i f hx=>?_)
 ·repeat (first|exact bG _|refine bA (by exact rfl) ?_)
 dsimp only[gR,List.map,List.cons_append,List.nil_append]
 refine Df ?_;refine dI ?_;refine Fv ?_
 (refine eM 11 (λ g11=>?_) (λ g11=>?_)<;>(first|refine aJ ?_|(refine aF ?_;refine aA ?_)))
 all_goals ((first|refine aJ ?_|(refine aF ?_;refine aC (c0 (V:=.bool) (hc:=λ w1 hw=>mD (hw.cl fin) (by omega))) (λ x13 h13=>?_)));refine cH ?_;refine aH ?_)
 all_goals
 refine bE (λ c14=>?_) (λ c14=>?_)
 ·try exact nv c14
  all_goals (refine qI ?_;refine iO ?_;refine fK ?_;refine J3 ?_;refine aA ?_;refine u6 ?_;refine aH ?_)
  all_goals
   refine bE (λ c23=>?_) (λ c23=>?_)
   ·refine iO ?_;refine fK ?_;refine J3 ?_;refine J8 ?_
    refine bD Tryz.results60 (λ w hw=>?_)
    rw[show cO l k=some (l.getD i (⟨#[]⟩,0)).2 from(if_pos (mZ.1 (h13.1 (by simp_all)))).trans (aAr (by omega) hx.2.2 c23)];exact⟨rfl,hw.done⟩
   ·refine oB ?_;refine yH ?_
    refine dY (i+1) ?_ ?_ ?_
    ·omega
    ·repeat' (first|exact bG _|refine bA ?_ ?_)
     exact rfl
    ·exact⟨by omega,λ _=>mZ.1 (h13.1 (by simp_all)),λ j hj=>by rcases Nat.lt_succ_iff_lt_or_eq.1 hj with h|rfl;exact hx.2.2 j h;assumption⟩
 ·all_goals (refine bM rfl ?_;refine Q5 ?_)
  all_goals
   refine bD Tryz.results60 (λ w hw=>?_)
   first
   | (rw[show cO l k=none from if_neg λ hs=>by have:=h13.2 (mZ.2 hs);simp_all];exact⟨rfl,hw.done⟩)
   | (rw[show cO l k=none by unfold cO;split;exact p9 λ j hj=>hx.2.2 j (by omega);rfl];exact⟨rfl,hw.done⟩)
theorem L0{l:List Pr}{i:Nat}(hi:i<l.length)(k:ByteArray):(l.take (i+1)).filter (λ p=>decide (p.1≠k))=(l.take i).filter (λ p=>decide (p.1≠k))++(if(l.getD i (⟨#[]⟩,0)).1≠k then [l.getD i (⟨#[]⟩,0)] else []):=by
 rw[List.take_add_one,List.getElem?_eq_getElem hi,gH hi,List.filter_append]
 congr 1
 by_cases h:l[i].1=k<;>simp[h]
theorem Fq{l:List Pr}{i:Nat}(hi:i<l.length)(k:ByteArray):iT (l.take (i+1)) k=if(l.getD i (⟨#[]⟩,0)).1=k then iT (l.take i) k else iT (l.take i) k++[l.getD i (⟨#[]⟩,0)]:=by
 unfold iT
 rw[L0 hi k]
 by_cases h:(l.getD i (⟨#[]⟩,0)).1=k
 ·rw[if_neg λ hn=>hn h,if_pos h,List.append_nil]
 ·rw[if_pos h,if_neg h]
theorem Qo(k:ByteArray)(ha:Cl w a (dH l))(hlen:l.length<=200000000000) :
  Calls Tryz.prog 111 #[.slice a l.length c,.string k] w (qv w (iT l k)):=by
 refine enter Tryz.func111 Tryz.ntmps111 rfl rfl (SF.s1 ha) ?_
 simp only[bY]
 refine cR ?_;refine Is ?_;refine Fs ?_
 refine nA [5,6,7,8,9,10,11,12,13,14,15,16,17,18,19,20,21,22,23,24,25,26] (λ z:Nat×Option Addr×List Pr×Nat=>[(6,.int .i64 ((z.1:Nat):Int)),(5,.slice z.2.1 z.2.2.1.length z.2.2.2)]) (λ z=>z.1<=l.length/\z.2.2.1.length<=z.2.2.2/\z.2.2.1=iT (l.take z.1) k/\z.2.2.1.length<=z.1) (λ _=>_) (λ _=>_) (λ z=>[⟨z.2.1,dH z.2.2.1,z.2.2.2,164,2⟩]) (λ z=>l.length-z.1) ((0,none,[],0)) (⟨Nat.zero_le _,Nat.le_refl _,rfl,Nat.le_refl _⟩) (λ z f hx=>?_) (hw0:=λ w hw=>(hw.lW 164 2).back)
 dsimp only[gR,List.map,List.cons_append,List.nil_append]
 refine Df ?_;refine dI ?_;refine vX ?_
 refine bE (λ c10=>?_) (λ c10=>?_)
 ·refine qI ?_;refine iO ?_;refine fK ?_;refine J3 ?_;refine aA ?_;refine u7 ?_;refine aH ?_
  refine bE (λ c19=>?_) (λ c19=>?_)
  ·refine xZ ?_;refine pY ?_;refine Yu ?_;refine gX (λ x25=>?_);(refine fQ (λ x26=>?_);try (refine eZ (λ h26=>?_)));refine J1 ?_;refine eP ?_;refine yH ?_
   refine iJ ((by exact(z.1+1,x26.1,z.2.2.1++[l.getD z.1 (⟨#[]⟩,0)],x26.2))) ?_ (hw1:=λ w hw=>by exact hw.back (hO:=by exact List.Sublist.refl _))
   ·obtain⟨q1,q2,q3,q4⟩:=hx
    have hdt:=Fq (l:=l) (i:=z.1) (by omega) k
    first
    | exact⟨by show z.1+1<=l.length;omega,by simp only[List.length_append,List.length_cons,List.length_nil];omega,by rw[if_neg (by assumption),<- q3] at hdt;exact hdt.symm,by simp only[List.length_append,List.length_cons,List.length_nil];omega⟩
    | exact⟨by show z.1+1<=l.length;omega,q2,by rw[if_pos (by assumption),<- q3] at hdt;exact hdt.symm,by show z.2.2.1.length<=z.1+1;omega⟩
  ·refine oB ?_;refine yH ?_
   refine iJ ((by exact(z.1+1,z.2.1,z.2.2.1,z.2.2.2))) ?_ (hw1:=λ w hw=>by exact hw.back (hO:=by exact List.Sublist.refl _))
   ·obtain⟨q1,q2,q3,q4⟩:=hx
    have hdt:=Fq (l:=l) (i:=z.1) (by omega) k
    first
    | exact⟨by show z.1+1<=l.length;omega,by simp only[List.length_append,List.length_cons,List.length_nil];omega,by rw[if_neg (by assumption),<- q3] at hdt;exact hdt.symm,by simp only[List.length_append,List.length_cons,List.length_nil];omega⟩
    | exact⟨by show z.1+1<=l.length;omega,q2,by rw[if_pos (by assumption),<- q3] at hdt;exact hdt.symm,by show z.2.2.1.length<=z.1+1;omega⟩
 ·refine bM rfl ?_;refine J2 ?_;refine J1 ?_
  refine aT Tryz.results111 (λ w hw=>?_)
  obtain⟨q1,q2,q3,q4⟩:=hx
  have e:z.2.2.1=iT l k:=by rw[q3,List.take_of_length_le (by omega)]
  rw[<- e]
  exact⟨(z.2.1,z.2.2.2),rfl,q2,hw.aU⟩
theorem lN{l:List Pr}{i:Nat}(hi:i<l.length):l.take (i+1)=l.take i++[l.getD i (⟨#[]⟩,0)]:=by
 rw[List.take_add_one,List.getElem?_eq_getElem hi,gH hi];rfl
theorem fy(p:Pr)(ha:Cl w a (dH l))(hc:l.length<=c)(hs:SA l)(hn:∀q∈l,q.1≠p.1)(hlen:l.length<=200000000000) :
    Calls Tryz.prog 110 #[.slice a l.length c,.agg ⟨[.string p.1,.int .u64 p.2]⟩] w (qv w (kV l p.1 p.2)):=by
  refine enter Tryz.func110 Tryz.ntmps110 rfl rfl (SF.s1 ha) ?_
  simp only[bY]
  refine J0 ?_;refine bO (λ x3=>?_);refine J1 ?_;refine Is ?_;refine Fs ?_
  refine nA [5,6,8,9,10,11,12,13,14,15,16,17,18,19,20,21,22,23,24,25,26,27,28,29,30] (λ z:Nat×Option Addr×List Pr×Nat=>[(6,.int .i64 ((z.1:Nat):Int)),(5,.slice z.2.1 z.2.2.1.length z.2.2.2)]) (λ z=>z.1<=l.length/\z.2.2.1.length<=z.2.2.2/\z.2.2.1=l.take z.1/\z.2.2.1.length=z.1/\∀j,j<z.1->dA (l.getD j (⟨#[]⟩,0)).1 p.1=true) (λ z=>[(x3,.cells ⟨[.string p.1,.int .u64 p.2]⟩ 164 (0,0))]) (λ _=>_) (λ z=>[⟨z.2.1,dH z.2.2.1,z.2.2.2,164,2⟩]) (λ z=>l.length-z.1) ((0,none,[],0)) (⟨Nat.zero_le _,Nat.le_refl _,rfl,rfl,λ j hj=>absurd hj (Nat.not_lt_zero j)⟩) (λ z f hx=>?_) (hw0:=λ w hw=>(hw.lW 164 2).back)
  dsimp only[gR,List.map,List.cons_append,List.nil_append]
  refine aV ?_;refine aV ?_;refine gJ [0,1,2,3,4,5,6,7,8,9,10,11,12,13] ?_;refine hZ ?_;refine pV ?_;refine zU ?_;refine aP ?_
  (refine Zk 12 (λ g12=>?_) (λ g12=>?_)<;>(first|refine dE ?_|(refine aP ?_)))
  all_goals ((first|refine dE ?_|(refine aP ?_));(first|refine dE ?_|(refine iQ ?_));refine nj ?_;refine nj ?_;(first|refine dE ?_|(refine fq ?_));refine eQ ?_;refine eC ?_)
  all_goals
   refine bE (λ c21=>?_) (λ c21=>?_)
   · try exact nv c21
     all_goals (refine qI ?_;refine xZ ?_;refine pY ?_;refine Yu ?_;refine gX (λ x29=>?_);(refine aR (by(exact bF.eK (Mf rf rf yS rfl fin (by exact pL rfl) hX (by omega)) (by intro x;simp only[kS];exact rfl))) (λ x30=>?_);try (refine eZ (λ h30=>?_)));refine J1 ?_;refine eP ?_;refine yH ?_)
     all_goals
      refine iJ ((z.1+1,x30.1,z.2.2.1++[l.getD z.1 (⟨#[]⟩,0)],x30.2)) ?_ (hw1:=λ w hw=>hw.back (hO:=by exact List.Sublist.refl _))
      · obtain⟨q1,q2,q3,q4,q5⟩:=hx
        refine⟨by show z.1+1<=l.length;omega,by simp only[List.length_append,List.length_cons,List.length_nil];omega,by rw[lN (by omega),<- q3],by simp only[List.length_append,List.length_cons,List.length_nil];omega,λ j hj=>?_⟩
        rcases Nat.lt_succ_iff_lt_or_eq.1 hj with h|rfl
        · exact q5 j h
        · exact c21
   · all_goals
      refine Rg (λ w hw=>hw.aBr (k:=z.2.2.1.length) (c:=c) fin hc) ?_
     all_goals (refine bM rfl ?_;refine J2 ?_;refine dI ?_;refine iZ ?_;refine gJ [0,1,4,5,6,2,3,7,8] ?_;refine aP ?_;refine bP ?_;refine hZ ?_;refine cE (i:=6) (hq:=(kz (k:=z.2.2.1.length) rf rf hX (by exact tR rfl) (by omega) (by omega))) (h:=?_);refine cG (h:=λ x35=>?_);((refine cN (i:=3) (hq:=(by(exact bF.eK (Mf rf rf yS rfl fin (by exact pL rfl) hX (by omega)) (by intro x;simp only[kS];exact rfl)))) (h:=λ x36=>?_);try (refine eY (λ h36=>?_))));((refine cN (i:=7) (hq:=(by(exact bF.eK (Sy (l2:=l.drop z.2.2.1.length) rf rf yS (by simp;done) fin (by rw[List.length_drop]) (by exact pL rfl) hX (by omega)) (by intro x;simp only[kS];exact rfl)))) (h:=λ x40=>?_);try (refine eY (λ h40=>?_))));refine J7 ?_)
     all_goals
      refine aT Tryz.results110 (λ w hw=>?_)
      obtain⟨q1,q2,q3,q4,q5⟩:=hx
      have hp:yP l p.1 z.1:=⟨q1,q5,by first|exact Zx hs c21|(intro j h1 h2;omega)⟩
      have e:kV l p.1 p.2=z.2.2.1++[(p.1,p.2)]++l.drop z.2.2.1.length:=by
       rw[Ud hp λ hh=>?_,q4,<- q3,List.append_assoc]
       · rfl
       · exact hn _ (by rw[gH hh.1];exact List.getElem_mem hh.1) hh.2
      have e2:(z.2.2.1++[(p.1,p.2)]++l.drop z.2.2.1.length).length=z.2.2.1.length+1+(l.length-z.2.2.1.length):=by rw[List.length_append,List.length_append,List.length_drop];rfl
      rw[e]
      exact⟨x40,by rw[e2];rfl,by rw[e2];exact h40,hw.aU⟩
theorem wE(k:ByteArray)(ha:Cl w a (dH l))(hlen:l.length<=200000000000) :
  Calls Tryz.prog 111 #[.slice a l.length c,.string k] w (Y0 w (iT l k)):=(Qo k ha hlen).mono λ _ _ h=>h.M2
theorem Qs(p:Pr)(ha:Cl w a (dH l))(hc:l.length<=c)(hs:SA l)(hn:∀q∈l,q.1≠p.1)(hlen:l.length<=200000000000) :
  Calls Tryz.prog 110 #[.slice a l.length c,.agg ⟨[.string p.1,.int .u64 p.2]⟩] w (Y0 w (kV l p.1 p.2)):=(fy p ha hc hs hn hlen).mono λ _ _ h=>h.M2
theorem Ki{l:List Pr}{k:ByteArray}:∀q∈iT l k,q.1≠k:=λ q hq=>by simpa using(List.mem_filter.1 hq).2
theorem Fb(l:List Pr)(k:ByteArray):(iT l k).length<=l.length:=List.length_filter_le _ _
theorem ki(k:ByteArray)(v:Int)(ha:Cl w a (dH l))(hlen:l.length<=200000000000) :
  Calls Tryz.prog 256 #[.slice a l.length c,.string k,.int .u64 v] w (Y0 w (Og l k v)):=by
 have hdl:=Fb l k
 refine enter Tryz.func256 Tryz.ntmps256 rfl rfl (SF.s1 ha) ?_
 simp only[bY]
 refine cR ?_;refine kM ?_;refine aC (c0 (V:=.bool) (hc:=λ w1 hw=>mD (hw.cl fin) (by omega))) (λ x8 h8=>?_);refine oX ?_
 refine bE (λ c9=>?_) (λ c9=>?_)
 ·refine cR ?_
  refine aT Tryz.results256 (λ w hw=>?_)
  rw[show Og l k v=[] from if_neg λ hs=>by rw[h8.2 (mZ.2 hs)] at c9;cases c9];exact⟨(none,0),rfl,Nat.le_refl _,(hw.Md none).fin⟩
 ·have hs:SA l:=mZ.1 (h8.1 (by simpa using c9))
  refine yV ?_;refine aC (cF (hc:=λ w1 hw=>wE k (hw.cl fin) hlen)) (λ x12 h12=>?_);refine pY ?_;refine bJ ?_;refine aC (cF (hc:=λ w1 hw=>Qs (k,v) (hw.cl fin) h12 (vA k hs) Ki (by omega))) (λ x16 h16=>?_);refine J1 ?_
  refine aT Tryz.results256 (λ w hw=>?_)
  rw[show Og l k v=kV (iT l k) k v from(if_pos hs).trans (Px hs k v).symm];exact⟨x16,rfl,h16,hw.fin⟩
theorem Zd(k:ByteArray)(ha:Cl w a (dH l))(hlen:l.length<=200000000000) :
  Calls Tryz.prog 258 #[.slice a l.length c,.string k] w (Y0 w (rH l k)):=by
 refine enter Tryz.func258 Tryz.ntmps258 rfl rfl (SF.s1 ha) ?_
 simp only[bY]
 refine cR ?_;refine kM ?_;refine aC (c0 (V:=.bool) (hc:=λ w1 hw=>mD (hw.cl fin) (by omega))) (λ x6 h6=>?_);refine oX ?_
 refine bE (λ c7=>?_) (λ c7=>?_)
 ·refine cR ?_
  refine aT Tryz.results258 (λ w hw=>?_)
  rw[show rH l k=[] from if_neg λ hs=>by rw[h6.2 (mZ.2 hs)] at c7;cases c7];exact⟨(none,0),rfl,Nat.le_refl _,(hw.Md none).fin⟩
 ·have hs:SA l:=mZ.1 (h6.1 (by simpa using c7))
  refine yV ?_;refine aC (cF (hc:=λ w1 hw=>wE k (hw.cl fin) hlen)) (λ x10 h10=>?_);refine J1 ?_
  refine aT Tryz.results258 (λ w hw=>?_)
  rw[show rH l k=iT l k from if_pos hs];exact⟨x10,rfl,h10,hw.fin⟩
theorem sq(ha:Cl w a (dH l))(hlen:l.length<=200000000000) :
  Calls Tryz.prog 61 #[.slice a l.length c] w (Y0 w (D7 l)):=by
 refine enter Tryz.func61 Tryz.ntmps61 rfl rfl (SF.s1 ha) ?_
 simp only[bY]
 refine cR ?_;refine Is ?_;refine Fs ?_
 refine nA [3,4,5,6,7,8,9,10,11,12,13,14,15,16,17,18,19,20,21,22] (λ z:Nat×Option Addr×List Pr×Nat=>[(4,.int .i64 ((z.1:Nat):Int)),(3,.slice z.2.1 z.2.2.1.length z.2.2.2)]) (λ z=>z.1<=l.length/\z.2.2.1.length<=z.2.2.2/\z.2.2.1=D7 (l.take z.1)/\z.2.2.1.length<=z.1/\SA z.2.2.1) (λ _=>_) (λ z=>[(z.2.1,dH z.2.2.1)]) (λ _=>_) (λ z=>l.length-z.1) ((0,none,[],0)) (⟨Nat.zero_le _,Nat.le_refl _,rfl,Nat.le_refl _,List.Pairwise.nil⟩) (λ z f hx=>?_) (hw0:=λ w hw=>(hw.Md none).back)
 dsimp only[gR,List.map,List.cons_append,List.nil_append]
 refine Df ?_;refine dI ?_;refine vX ?_
 refine bE (λ c8=>?_) (λ c8=>?_)
 ·have hdl:=Fb z.2.2.1 (l.getD z.1 (⟨#[]⟩,0)).1
  refine qI ?_;refine dX [(0,[]),(1,[]),(2,[]),(3,[]),(4,[]),(5,[]),(7,[]),(8,[]),(9,[]),(10,[]),(6,[9,10]),(11,[]),(12,[])] ?_;refine hZ ?_;refine aP ?_;refine iQ ?_;refine lV ?_;refine hZ ?_;refine Oa ?_;refine bC (i:=6) (hq:=(cF (hc:=λ w1 hw=>wE (l.getD z.1 (⟨#[]⟩,0)).1 (hw.cl fin) (by omega)))) (h:=λ x17 h17=>?_);refine bC (i:=11) (hq:=(cF (hc:=λ w1 hw=>Qs (l.getD z.1 (⟨#[]⟩,0)) (hw.cl fin) h17 (vA _ hx.2.2.2.2) Ki (by omega)))) (h:=λ x22 h22=>?_);refine J7 ?_;refine eP ?_;refine yH ?_
  refine iJ ((z.1+1,x22.1,kV (iT z.2.2.1 (l.getD z.1 (⟨#[]⟩,0)).1) (l.getD z.1 (⟨#[]⟩,0)).1 (l.getD z.1 (⟨#[]⟩,0)).2,x22.2)) ?_
  ·obtain⟨q1,q2,q3,q4,q5⟩:=hx
   have e:=Px q5 (l.getD z.1 (⟨#[]⟩,0)).1 (l.getD z.1 (⟨#[]⟩,0)).2
   have hl:=wQ (k:=(l.getD z.1 (⟨#[]⟩,0)).1) (v:=(l.getD z.1 (⟨#[]⟩,0)).2) q5
   rw[e] at h22
   refine⟨by show z.1+1<=l.length;omega,by show(kV _ _ _).length<=_;rw[e];exact h22,?_,?_,?_⟩
   ·show kV _ _ _=_
    rw[e,lN (by omega),vT,<- q3]
   ·show(kV _ _ _).length<=z.1+1
    rw[e,hl];split<;>omega
   ·show SA (kV _ _ _)
    rw[e];exact xQ q5
 ·refine bM rfl ?_;refine J2 ?_;refine J1 ?_
  refine aT Tryz.results61 (λ w hw=>?_)
  obtain⟨q1,q2,q3,q4,q5⟩:=hx
  have e:z.2.2.1=D7 l:=by rw[q3,List.take_of_length_le (by omega)]
  rw[<- e]
  exact⟨(z.2.1,z.2.2.2),rfl,q2,hw.fin⟩
end
end

/- Pairs: the algebra. -/
section
open Go.RowKit Go.Ct
section
variable{l X:List Pr}{a:Option Addr}{c M:Nat}{k j:ByteArray}{v z:Int}{w:World}
theorem pi(X:List Pr)(k:ByteArray)(v:Int):(Og X k v).length<=X.length+1:=by
 unfold Og
 split
 ·next h=>rw[wQ h];split<;>omega
 ·exact Nat.zero_le _
theorem Zv(X:List Pr)(k:ByteArray):(rH X k).length<=X.length:=by
 unfold rH
 split
 ·exact Fb X k
 ·exact Nat.zero_le _
end
end

/- Bits of 64 bit numbers: plain laws. -/
end Go.Proofs.YtbajmaoegmbfgaaGreat
namespace Go.Ct
section
open Go Go.RowKit
theorem lM{n:Nat}(h:n<18446744073709551616):IntKind.u64.wrap ((n:Nat):Int)=(n:Int):=by
 have h2:IntKind.u64.wrap (n:Int)=(n:Int)%18446744073709551616:=by simp[IntKind.wrap,IntKind.signed,IntKind.bits]
 omega
theorem Cy(n:Nat)(h:n<18446744073709551616):(BitVec.ofInt IntKind.u64.bits (n:Int)).toNat=n:=by
 show(BitVec.ofInt 64 (n:Int)).toNat=n
 rw[BitVec.toNat_ofInt]
 omega
theorem nS{n m:Nat}(hn:n<18446744073709551616)(hm:m<18446744073709551616):oI .u64 (n:Int) (m:Int)=((n &&& m:Nat):Int):=by
 unfold oI
 rw[BitVec.toNat_and,Cy n hn,Cy m hm]
 exact lM (Nat.lt_of_le_of_lt Nat.and_le_left hn)
theorem ra{n m:Nat}(hn:n<18446744073709551616)(hm:m<18446744073709551616):rOr .u64 (n:Int) (m:Int)=((n ||| m:Nat):Int):=by
 unfold rOr
 rw[BitVec.toNat_or,Cy n hn,Cy m hm]
 exact lM (Nat.or_lt_two_pow (n:=64) hn hm)
theorem bj{n m:Nat}(hn:n<18446744073709551616)(hm:m<18446744073709551616):s6 .u64 (n:Int) (m:Int)=((n ^^^ m:Nat):Int):=by
 unfold s6
 rw[BitVec.toNat_xor,Cy n hn,Cy m hm]
 exact lM (Nat.xor_lt_two_pow (n:=64) hn hm)
theorem nV{n i:Nat}(hi:i<=64):oH .u64 (n:Int) (i:Int)=((n >>> i:Nat):Int):=by
 unfold oH
 rw[Int.toNat_natCast,show min i IntKind.u64.bits=i from Nat.min_eq_left hi,Nat.shiftRight_eq_div_pow]
 have:(2:Int)^i=((2^i:Nat):Int):=by simp
 rw[this,Int.fdiv_eq_ediv_of_nonneg _ (bH _)]
 rfl
theorem Oh{i:Nat}(hi:i<64):To .u64 1 (i:Int)=((2^i:Nat):Int):=by
 unfold To
 rw[Int.toNat_natCast,show min i IntKind.u64.bits=i from Nat.min_eq_left (Nat.le_of_lt hi),Int.one_mul]
 have:(2:Int)^i=((2^i:Nat):Int):=by simp
 rw[this]
 refine lM ?_
 have:=Nat.pow_lt_pow_right (a:=2) (by decide) hi
 omega
def fZ(n:Nat):Nat->Nat
 | 0=>0
 | k+1=>fZ n k+if n.testBit k then 1 else 0
theorem F9(n:Nat):∀k,fZ n k<=k
 | 0=>Nat.le_refl _
 | k+1=>by have:=F9 n k;simp only[fZ];split<;>omega
theorem Cz{n m:Nat}:∀{k:Nat},(∀i,i<k->n.testBit i=m.testBit i)->fZ n k=fZ m k
 | 0,_=>rfl
 | k+1,h=>by simp only[fZ];rw[Cz λ i hi=>h i (Nat.lt_succ_of_lt hi),h k (Nat.lt_succ_self k)]
theorem V2(n:Nat)(a:Nat):∀k,fZ n (a+k)=fZ n a+fZ (n >>> a) k
 | 0=>rfl
 | k+1=>by
  rw[<- Nat.add_assoc]
  simp only[fZ,V2 n a k,Nat.testBit_shiftRight]
  omega
theorem kX{h l i:Nat}(hl:l<256):(256*h+l).testBit i=if i<8 then l.testBit i else h.testBit (i-8):=Nat.testBit_two_pow_mul_add h (i:=8) hl i
theorem ab{h l:Nat}(hl:l<256)(k:Nat):fZ (256*h+l) (8+k)=fZ l 8+fZ h k:=by
 rw[V2]
 congr 1
 ·exact Cz λ i hi=>by rw[kX hl,if_pos hi]
 ·rw[Nat.shiftRight_eq_div_pow,show 2^8=256 from rfl]
  congr 1
  omega
theorem Bm{a b c d:Nat}(hb:b<256)(hd:d<256):(256*a+b) &&& (256*c+d)=256*(a &&& c)+(b &&& d):=by
 have hbd:b &&& d<256:=Nat.lt_of_le_of_lt Nat.and_le_left hb
 refine Nat.eq_of_testBit_eq λ i=>?_
 rw[Nat.testBit_and,kX hb,kX hd,kX hbd]
 split
 ·rw[Nat.testBit_and]
 ·rw[Nat.testBit_and]
theorem Jv{a b s:Nat}(hb:b<256)(hs:s<=8):(256*a+b) >>> s=256*(a >>> s)+((a%2^s)*2^(8-s)+b >>> s):=by
 simp only[Nat.shiftRight_eq_div_pow]
 have h1:256=2^s*2^(8-s):=by rw[<- Nat.pow_add];rw[show s+(8-s)=8 by omega]
 have h2:=Nat.div_add_mod a (2^s)
 have hp:0<2^s:=Nat.two_pow_pos s
 have h3:256*a+b=2^s*(2^(8-s)*a)+b:=by rw[h1,Nat.mul_assoc]
 rw[h3,Nat.mul_add_div hp]
 have h4:2^(8-s)*a=256*(a/2^s)+a%2^s*2^(8-s):=by
  conv=>lhs;rw[<- h2]
  rw[h1,Nat.mul_add,Nat.mul_comm (a%2^s),<- Nat.mul_assoc,Nat.mul_comm (2^(8-s)) (2^s)]
 omega
def kO(s:Nat)(m:Nat)(n:Nat):Nat:=((n >>> s) &&& m)+(n &&& m)
theorem qz{a b s d:Nat}(hb:b<256)(hs:s<=8)(hd:d<2^(8-s)):((a%2^s)*2^(8-s)+b >>> s) &&& d=(b >>> s) &&& d:=by
 have hbs:b >>> s<2^(8-s):=by
  rw[Nat.shiftRight_eq_div_pow]
  refine Nat.div_lt_of_lt_mul ?_
  rw[<- Nat.pow_add,show s+(8-s)=8 by omega]
  exact hb
 refine Nat.eq_of_testBit_eq λ i=>?_
 rw[Nat.testBit_and,Nat.testBit_and,Nat.mul_comm,Nat.testBit_two_pow_mul_add _ hbs]
 split
 ·rfl
 ·rename_i h
  have:d.testBit i=false:=Nat.testBit_lt_two_pow (Nat.lt_of_lt_of_le hd (Nat.pow_le_pow_right (by decide) (by omega)))
  rw[this];simp
theorem Fz{s m a b d:Nat}(hb:b<256)(hs:s<=8)(hs0:0<s)(hd:d<2^(8-s)):kO s (256*m+d) (256*a+b)=256*kO s m a+kO s d b:=by
 have hd':d<256:=Nat.lt_of_lt_of_le hd (Nat.pow_le_pow_right (n:=2) (by decide) (show 8-s<=8 by omega))
 have hL:(a%2^s)*2^(8-s)+b >>> s<256:=by
  have h1:256=2^s*2^(8-s):=by rw[<- Nat.pow_add];rw[show s+(8-s)=8 by omega]
  have h2:a%2^s<2^s:=Nat.mod_lt _ (Nat.two_pow_pos s)
  have h3:b >>> s<2^(8-s):=by
   rw[Nat.shiftRight_eq_div_pow]
   refine Nat.div_lt_of_lt_mul ?_
   rw[<- Nat.pow_add,show s+(8-s)=8 by omega]
   exact hb
  have h4:(a%2^s+1)*2^(8-s)<=2^s*2^(8-s):=Nat.mul_le_mul_right _ h2
  rw[Nat.add_mul,Nat.one_mul] at h4
  omega
 unfold kO
 rw[Jv hb hs,Bm hL hd',Bm hb hd',qz hb hs hd]
 omega
def uu(l:Nat):Nat:=(((kO 2 51 (kO 1 85 l)) >>> 4)+kO 2 51 (kO 1 85 l)) &&& 15
theorem qs:∀l,l<256->kO 1 85 l<256/\kO 2 51 (kO 1 85 l)<256/\kO 2 51 (kO 1 85 l)%16<=4/\kO 2 51 (kO 1 85 l)/16<=4/\uu l=fZ l 8:=by decide +kernel
def rG(d:Nat):Nat->Nat
 | 0=>0
 | k+1=>256*rG d k+d
theorem Hk:∀(k n:Nat),n<256^k ->
  ∃r,(∀q,q=(kO 2 (rG 51 k) (kO 1 (rG 85 k) n))->(((q >>> 4)+q) &&& rG 15 k)=r/\q<256^k/\q%16<=4)/\(∃ps:List Nat,ps.length=k/\(∀p∈ps,p<=8)/\r=ps.foldr (λ p acc=>p+256*acc) 0/\ps.sum=fZ n (8*k))
 | 0,n,h=>⟨0,λ q hq=>by
   have h0:n=0:=by simpa using h
   subst h0
   subst hq
   simp[kO,rG],[],rfl,by simp,rfl,by simp[fZ]⟩
 | k+1,n,h=>by
  have hl:n%256<256:=Nat.mod_lt _ (by decide)
  have hn:n=256*(n/256)+n%256:=(Nat.div_add_mod n 256).symm
  have hk:n/256<256^k:=by
   refine Nat.div_lt_of_lt_mul ?_
   rw[Nat.mul_comm,<- Nat.pow_succ];exact h
  obtain⟨r,h1,ps,h2,h3,h4,h5⟩:=Hk k (n/256) hk
  obtain⟨b1,b2,b3,b4,b5⟩:=qs (n%256) hl
  obtain⟨q1,q2,q3⟩:=h1 _ rfl
  generalize hQ:kO 2 (rG 51 k) (kO 1 (rG 85 k) (n/256))=Q at *
  refine⟨256*r+fZ (n%256) 8,λ q hq=>?_,fZ (n%256) 8::ps,by simp[h2],?_,?_,?_⟩
  ·have e:q=256*Q+kO 2 51 (kO 1 85 (n%256)):=by
    rw[hq]
    have e0:kO 1 (rG 85 (k+1)) n=256*kO 1 (rG 85 k) (n/256)+kO 1 85 (n%256):=by
     have:=Fz (s:=1) (m:=rG 85 k) (a:=n/256) hl (by decide) (by decide) (show 85<2^(8-1) by decide)
     rw[<- hn] at this
     exact this
    rw[e0,<- hQ]
    exact Fz (s:=2) (m:=rG 51 k) b1 (by decide) (by decide) (show 51<2^(8-2) by decide)
   generalize hB:kO 2 51 (kO 1 85 (n%256))=B at *
   have hones:((B >>> 4)+B) &&& 15=fZ (n%256) 8:=by rw[<- b5,uu,hB]
   have e4:q >>> 4=256*(Q >>> 4)+((Q%16)*16+B >>> 4):=by rw[e];exact Jv (s:=4) b2 (by decide)
   have eB:B >>> 4=B/16:=by rw[Nat.shiftRight_eq_div_pow]
   have hlow:(Q%16)*16+B >>> 4+B<256:=by rw[eB];omega
   have hsum:q >>> 4+q=256*(Q >>> 4+Q)+((Q%16)*16+B >>> 4+B):=by rw[e4,e];omega
   refine⟨?_,?_,?_⟩
   ·rw[hsum]
    show(256*(Q >>> 4+Q)+_) &&& (256*rG 15 k+15)=_
    rw[Bm hlow (by decide),q1,<- hones]
    congr 1
    rw[Nat.and_two_pow_sub_one_eq_mod _ 4,Nat.and_two_pow_sub_one_eq_mod _ 4]
    omega
   ·rw[e,Nat.pow_succ];omega
   ·rw[e];omega
  ·intro p hp
   rcases List.mem_cons.1 hp with rfl|hp
   ·exact F9 _ 8
   ·exact h3 p hp
  ·simp only[List.foldr_cons,<- h4];omega
  ·rw[List.sum_cons,h5]
   conv=>rhs;rw[hn]
   rw[show 8*(k+1)=8+8*k by omega,ab hl]
end

/- The last step of OnesCount64: numbers alone. -/
section
theorem aCj{x a b:Nat}(ha:a<256)(h:x=a+256*b):x/256=b:=by omega
theorem aCy{x a b:Nat}(ha:a<65536)(h:x=a+65536*b):x/65536=b:=by omega
theorem aCA{x a b:Nat}(ha:a<4294967296)(h:x=a+4294967296*b):x/4294967296=b:=by omega
theorem bnd{t p s B:Nat}(e:t=p+256*s)(hp:p<=8)(hs:s<=B):t<=8+256*B:=by omega
theorem fa{r t1 t2 t3 p0 p1 p2:Nat}(e0:r=p0+256*t1)(e1:t1=p1+256*t2)(e2:t2=p2+256*t3):r+t1=((p0+p1)+256*(p1+p2))+65536*(t2+t3):=by omega
theorem ca{p0 p1 p2:Nat}(g0:p0<=8)(g1:p1<=8)(g2:p2<=8):(p0+p1)+256*(p1+p2)<65536:=by omega
theorem fb0{t2 t3 t4 t5 t6 t7 p2 p3 p4 p5 p6:Nat}(e2:t2=p2+256*t3)(e3:t3=p3+256*t4)(e4:t4=p4+256*t5)(e5:t5=p5+256*t6)(e6:t6=p6+256*t7):t2+t3+t4+t5=(p2+p3+p4+p5)+256*(p3+p4+p5+p6)+65536*(t4+t5+t6+t7):=by
 subst e6
 omega
theorem fb{r t1 t2 t3 t4 t5 t6 t7 p0 p1 p2 p3 p4 p5 p6:Nat}(f4:r+t1=((p0+p1)+256*(p1+p2))+65536*(t2+t3))(e2:t2=p2+256*t3)(e3:t3=p3+256*t4)(e4:t4=p4+256*t5)(e5:t5=p5+256*t6)(e6:t6=p6+256*t7) :
  r+t1+(t2+t3)=((p0+p1+p2+p3)+256*(p1+p2+p3+p4)+65536*(p2+p3+p4+p5)+16777216*(p3+p4+p5+p6))+4294967296*(t4+t5+t6+t7):=by
 have h1:=fb0 e2 e3 e4 e5 e6
 have h2:t2+t3=(p2+p3)+256*(t3+t4):=by clear h1 f4 e4 e5 e6;omega
 have h3:t3+t4=(p3+p4)+256*(t4+t5):=by clear h1 h2 f4 e2 e5 e6;omega
 clear e2 e3 e4 e5 e6
 omega
theorem cb{p0 p1 p2 p3 p4 p5 p6:Nat}(g0:p0<=8)(g1:p1<=8)(g2:p2<=8)(g3:p3<=8)(g4:p4<=8)(g5:p5<=8)(g6:p6<=8):(p0+p1+p2+p3)+256*(p1+p2+p3+p4)+65536*(p2+p3+p4+p5)+16777216*(p3+p4+p5+p6)<4294967296:=by omega
theorem fc{r t1:Nat}(b0:r<=8+256*(8+256*(8+256*(8+256*(8+256*(8+256*(8+256*8)))))))(b1:t1<=8+256*(8+256*(8+256*(8+256*(8+256*(8+256*8)))))):r+t1<9223372036854775808:=by omega
theorem fd{r t1 t2 t3:Nat}(b0:r<=8+256*(8+256*(8+256*(8+256*(8+256*(8+256*(8+256*8)))))))(b1:t1<=8+256*(8+256*(8+256*(8+256*(8+256*(8+256*8))))))(b2:t2<=8+256*(8+256*(8+256*(8+256*(8+256*8)))))(b3:t3<=8+256*(8+256*(8+256*(8+256*8)))):r+t1+(t2+t3)<9223372036854775808:=by omega
theorem fe{p1 p2 p3 p4 p5 p6 t4 t5 t6 t7:Nat}(g1:p1<=8)(g2:p2<=8)(g3:p3<=8)(g4:p4<=8)(g5:p5<=8)(g6:p6<=8)(b4:t4<=8+256*(8+256*(8+256*8)))(b5:t5<=8+256*(8+256*8))(b6:t6<=8+256*8)(b7:t7<=8) :
  (p1+p2+p3+p4)+256*(p2+p3+p4+p5)+65536*(p3+p4+p5+p6)+16777216*(t4+t5+t6+t7)+(t5+t6+t7)<36028797018963968:=by omega
theorem ff{p0 p1 p2 p3 p4 p5 p6 p7 t4 t5 t6 t7:Nat}(e4:t4=p4+256*t5)(e5:t5=p5+256*t6)(e6:t6=p6+256*t7)(e7:t7=p7) :
  ((p0+p1+p2+p3)+256*(p1+p2+p3+p4)+65536*(p2+p3+p4+p5)+16777216*(p3+p4+p5+p6))+4294967296*(t4+t5+t6+t7)+(t4+t5+t6+t7) =
   (p0+p1+p2+p3+p4+p5+p6+p7)+256*((p1+p2+p3+p4)+256*(p2+p3+p4+p5)+65536*(p3+p4+p5+p6)+16777216*(t4+t5+t6+t7)+(t5+t6+t7)):=by
 have h:t4+t5+t6+t7=(p4+p5+p6+p7)+256*(t5+t6+t7):=by omega
 generalize t4+t5+t6+t7=s at *
 clear e4 e5 e6 e7
 omega
theorem Z7{p0 p1 p2 p3 p4 p5 p6 p7 r t1 t2 t3 t4 t5 t6 t7:Nat}(g0:p0<=8)(g1:p1<=8)(g2:p2<=8)(g3:p3<=8)(g4:p4<=8)(g5:p5<=8)(g6:p6<=8)(g7:p7<=8)
  (e0:r=p0+256*t1) (e1:t1=p1+256*t2) (e2:t2=p2+256*t3) (e3:t3=p3+256*t4) (e4:t4=p4+256*t5) (e5:t5=p5+256*t6) (e6:t6=p6+256*t7) (e7:t7=p7) :
  r+r/256<9223372036854775808/\(r+r/256)+(r+r/256)/65536<9223372036854775808/\∃K,K<36028797018963968/\((r+r/256)+(r+r/256)/65536)+((r+r/256)+(r+r/256)/65536)/4294967296=(p0+p1+p2+p3+p4+p5+p6+p7)+256*K:=by
 have b7:t7<=8:=by rw[e7];exact g7
 have b6:=bnd e6 g6 b7
 have b5:=bnd e5 g5 b6
 have b4:=bnd e4 g4 b5
 have b3:=bnd e3 g3 b4
 have b2:=bnd e2 g2 b3
 have b1:=bnd e1 g1 b2
 have b0:=bnd e0 g0 b1
 have f4:r+t1=((p0+p1)+256*(p1+p2))+65536*(t2+t3):=fa e0 e1 e2
 have c4:(p0+p1)+256*(p1+p2)<65536:=ca g0 g1 g2
 have f5:r+t1+(t2+t3)=((p0+p1+p2+p3)+256*(p1+p2+p3+p4)+65536*(p2+p3+p4+p5)+16777216*(p3+p4+p5+p6))+4294967296*(t4+t5+t6+t7):=fb f4 e2 e3 e4 e5 e6
 have c5:=cb g0 g1 g2 g3 g4 g5 g6
 rw[aCj (Nat.lt_of_le_of_lt g0 (by decide)) e0,aCy c4 f4,aCA c5 f5]
 refine⟨fc b0 b1,fd b0 b1 b2 b3,(p1+p2+p3+p4)+256*(p2+p3+p4+p5)+65536*(p3+p4+p5+p6)+16777216*(t4+t5+t6+t7)+(t5+t6+t7),?_,?_⟩
 ·exact fe g1 g2 g3 g4 g5 g6 b4 b5 b6 b7
 ·rw[f5];exact ff e4 e5 e6 e7
end

/- Bits, the second part. -/
section
open Go Go.RowKit
theorem zq{c K:Nat}(hc:c<=64)(hK:K<36028797018963968):oI .i64 (IntKind.i64.wrap ((c+256*K:Nat):Int)) 127=(c:Int):=by
 rw[wrap_i64 (by omega) (by omega)]
 unfold oI
 have h1:(BitVec.ofInt IntKind.i64.bits ((c+256*K:Nat):Int)).toNat=c+256*K:=by
  show(BitVec.ofInt 64 ((c+256*K:Nat):Int)).toNat=_
  rw[BitVec.toNat_ofInt]
  omega
 have h2:(BitVec.ofInt IntKind.i64.bits 127).toNat=127:=by decide
 rw[BitVec.toNat_and,h1,h2,show(127:Nat)=2^7-1 from rfl,Nat.and_two_pow_sub_one_eq_mod]
 have h3:(c+256*K)%2^7=c:=by omega
 rw[h3]
 exact wrap_i64 (by omega) (by omega)
theorem pG{n:Nat}(hn:n<18446744073709551616):uW (n:Int)=((fZ n 64:Nat):Int):=by
 obtain⟨r,h1,ps,h2,h3,h4,h5⟩:=Hk 8 n hn
 obtain⟨q1,q2,_⟩:=h1 _ rfl
 match ps,h2 with
 | [p0,p1,p2,p3,p4,p5,p6,p7],_ =>
  simp only[List.mem_cons,List.not_mem_nil,or_false,forall_eq_or_imp,forall_eq] at h3
  simp only[List.foldr_cons,List.foldr_nil] at h4
  simp only[List.sum_cons,List.sum_nil] at h5
  obtain⟨g0,g1,g2,g3,g4,g5,g6,g7⟩:=h3
  have b5:kO 1 6148914691236517205 n<18446744073709551616:=by
   unfold kO
   have h1:(n >>> 1) &&& 6148914691236517205<=6148914691236517205:=Nat.and_le_right
   have h2:n &&& 6148914691236517205<=6148914691236517205:=Nat.and_le_right
   omega
  have e1:∀m:Nat,m<18446744073709551616->IntKind.u64.wrap (oI .u64 (oH .u64 (m:Int) 1) 6148914691236517205+oI .u64 (m:Int) 6148914691236517205)=((kO 1 6148914691236517205 m:Nat):Int):=λ m hm=>by
   have hs:m >>> 1<18446744073709551616:=Nat.lt_of_le_of_lt (Nat.shiftRight_le _ _) hm
   have r1:oH .u64 (m:Int) 1=((m >>> 1:Nat):Int):=nV (i:=1) (by decide)
   have a1:oI .u64 ((m >>> 1:Nat):Int) 6148914691236517205=(((m >>> 1) &&& 6148914691236517205:Nat):Int):=nS hs (m:=6148914691236517205) (by decide)
   have a2:oI .u64 (m:Int) 6148914691236517205=((m &&& 6148914691236517205:Nat):Int):=nS hm (m:=6148914691236517205) (by decide)
   rw[r1,a1,a2,<- Int.natCast_add]
   refine lM ?_
   have h1:(m >>> 1) &&& 6148914691236517205<=6148914691236517205:=Nat.and_le_right
   have h2:m &&& 6148914691236517205<=6148914691236517205:=Nat.and_le_right
   omega
  have e2:∀m:Nat,m<18446744073709551616->IntKind.u64.wrap (oI .u64 (oH .u64 (m:Int) 2) 3689348814741910323+oI .u64 (m:Int) 3689348814741910323)=((kO 2 3689348814741910323 m:Nat):Int):=λ m hm=>by
   have hs:m >>> 2<18446744073709551616:=Nat.lt_of_le_of_lt (Nat.shiftRight_le _ _) hm
   have r1:oH .u64 (m:Int) 2=((m >>> 2:Nat):Int):=nV (i:=2) (by decide)
   have a1:oI .u64 ((m >>> 2:Nat):Int) 3689348814741910323=(((m >>> 2) &&& 3689348814741910323:Nat):Int):=nS hs (m:=3689348814741910323) (by decide)
   have a2:oI .u64 (m:Int) 3689348814741910323=((m &&& 3689348814741910323:Nat):Int):=nS hm (m:=3689348814741910323) (by decide)
   rw[r1,a1,a2,<- Int.natCast_add]
   refine lM ?_
   have h1:(m >>> 2) &&& 3689348814741910323<=3689348814741910323:=Nat.and_le_right
   have h2:m &&& 3689348814741910323<=3689348814741910323:=Nat.and_le_right
   omega
  have m5:rG 85 8=6148914691236517205:=by decide
  have m3:rG 51 8=3689348814741910323:=by decide
  have mf:rG 15 8=1085102592571150095:=by decide
  rw[m5,m3] at q1 q2
  rw[mf] at q1
  unfold uW
  simp only[]
  rw[e1 n hn,e2 _ b5]
  generalize kO 2 3689348814741910323 (kO 1 6148914691236517205 n)=Q at *
  have hQ:Q<18446744073709551616:=q2
  have hr:r<18446744073709551616:=by rw[<- q1];exact Nat.lt_of_le_of_lt Nat.and_le_right (by decide)
  have e3:oI .u64 (IntKind.u64.wrap (oH .u64 (Q:Int) 4+(Q:Int))) 1085102592571150095=(r:Int):=by
   have r1:oH .u64 (Q:Int) 4=((Q >>> 4:Nat):Int):=nV (i:=4) (by decide)
   rw[r1,<- Int.natCast_add]
   have h2:IntKind.u64.wrap ((Q >>> 4+Q:Nat):Int)=(((Q >>> 4+Q)%18446744073709551616:Nat):Int):=by
    have:IntKind.u64.wrap ((Q >>> 4+Q:Nat):Int)=((Q >>> 4+Q:Nat):Int)%18446744073709551616:=by simp[IntKind.wrap,IntKind.signed,IntKind.bits]
    rw[this];omega
   rw[h2]
   have a1:=nS (n:=(Q >>> 4+Q)%18446744073709551616) (m:=1085102592571150095) (Nat.mod_lt _ (by decide)) (by decide)
   refine a1.trans ?_
   rw[<- q1]
   congr 1
   refine Nat.eq_of_testBit_eq λ i=>?_
   rw[Nat.testBit_and,Nat.testBit_and,show(18446744073709551616:Nat)=2^64 from rfl,Nat.testBit_mod_two_pow]
   by_cases hi:i<64
   ·simp[hi]
   ·have:(1085102592571150095:Nat).testBit i=false:=Nat.testBit_lt_two_pow (Nat.lt_of_lt_of_le (by decide:(1085102592571150095:Nat)<2^64) (Nat.pow_le_pow_right (by decide) (by omega)))
    rw[this];simp
  rw[e3]
  have s1:∀m:Nat,oH .u64 (m:Int) 8=((m/256:Nat):Int):=λ m=>by
   have:oH .u64 (m:Int) 8=((m >>> 8:Nat):Int):=nV (i:=8) (by decide)
   rw[this,Nat.shiftRight_eq_div_pow]
  have s2:∀m:Nat,oH .u64 (m:Int) 16=((m/65536:Nat):Int):=λ m=>by
   have:oH .u64 (m:Int) 16=((m >>> 16:Nat):Int):=nV (i:=16) (by decide)
   rw[this,Nat.shiftRight_eq_div_pow]
  have s3:∀m:Nat,oH .u64 (m:Int) 32=((m/4294967296:Nat):Int):=λ m=>by
   have:oH .u64 (m:Int) 32=((m >>> 32:Nat):Int):=nV (i:=32) (by decide)
   rw[this,Nat.shiftRight_eq_div_pow]
  have w64:∀m:Nat,m<9223372036854775808->IntKind.u64.wrap ((m:Nat):Int)=(m:Int):=λ m hm=>lM (by omega)
  have hs:fZ n 64=p0+p1+p2+p3+p4+p5+p6+p7:=by rw[show(64:Nat)=8*8 from rfl,<- h5];omega
  have hc:=F9 n 64
  have hx:=Z7 (t7:=p7) (t6:=p6+256*p7) (t5:=p5+256*(p6+256*p7)) (t4:=p4+256*(p5+256*(p6+256*p7))) (t3:=p3+256*(p4+256*(p5+256*(p6+256*p7)))) (t2:=p2+256*(p3+256*(p4+256*(p5+256*(p6+256*p7))))) (t1:=p1+256*(p2+256*(p3+256*(p4+256*(p5+256*(p6+256*p7)))))) (r:=r) g0 g1 g2 g3 g4 g5 g6 g7 (by rw[h4];rfl) rfl rfl rfl rfl rfl rfl rfl
  clear h4 q1 q2 e3 e1 e2 b5 h1 hr hQ hn m5 m3 mf h5
  obtain⟨x4,x5,K,hK,x6⟩:=hx
  rw[s1,<- Int.natCast_add,w64 _ x4,s2,<- Int.natCast_add,w64 _ x5,s3,<- Int.natCast_add,x6,<- hs,w64 _ (by omega)]
  exact zq hc hK
end

end Go.Ct
