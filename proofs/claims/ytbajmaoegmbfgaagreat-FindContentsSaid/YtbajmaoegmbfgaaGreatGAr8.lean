/- Merged. -/
import Derived.Test.YtbajmaoegmbfgaaGreatGNode2
import Derived.Test.YtbajmaoegmbfgaaGreatGJoin
import Derived.Test.YtbajmaoegmbfgaaGreatGFun
set_option linter.unusedSimpArgs false
set_option linter.unusedVariables false
namespace Go.Proofs.YtbajmaoegmbfgaaGreat
open Go.Proofs.Tryz
open Go.RowKit Go.Ct
section
set_option maxRecDepth 100000 in
theorem Sj{L:List aQ}{cs:List Int}{gen:Int}{pn pc:Option Addr}{cn cc:Nat}{w:World}(h:nM w L cs pn pc)(hL:L.length<=274877906944)(hC:cs.length<=274877906944) :
    Calls prog 117 #[.agg ⟨[.slice pn L.length cn,.slice pc cs.length cc,.int .i64 gen]⟩] w λ e w'=>∃r:Bool,e=.returned (.bool r)/\(r=true↔fS L cs gen)/\St w [] [] w':=by
     refine enter func117 ntmps117 rfl rfl h.start ?_;simp only[cC];refine K1q ?_;intro x1;refine jG ?_;refine iE ?_;refine dV ?_;refine A1 ?_;(refine eE 14 (λ g14=>?_) (λ g14=>?_)<;>refine Ka1 ?_);all_goals (refine J89 ?_;refine aG ?_)
     all_goals
      refine bD (λ c18=>?_) (λ c18=>?_)
      ·all_goals refine cU ?_
       all_goals refine aS results117 (λ w hw=>?_);exact⟨false,rfl,⟨(λ h=>nomatch h),λ hp=>by have h1:=hp.two;have h2:=hp.gen0;exfalso;omega⟩,hw.done⟩
      ·try exact nv c18
       all_goals (refine lB ?_;refine iE ?_;refine aC (tB (k:=0) rf rf gS eD fin (by omega) (by omega)) rfl ?_;refine aE ?_;refine aC (wE (q:=0) rf fW fin (by omega)) rfl ?_;refine lN ?_;refine aA ?_)
       all_goals ((refine eE 25 (λ g25=>?_) (λ g25=>?_)<;>refine Ka1 ?_))
       all_goals (refine Ka2 ?_;(first|refine aI ?_|(refine aF ?_;refine aC (tB (k:=1) rf rf gS eD fin (by omega) (by omega)) rfl ?_));refine Ka1 ?_;(first|refine aI ?_|(refine aF ?_;refine aC (wE (q:=1) rf fW fin (by omega)) rfl ?_));refine Q3 ?_;refine aG ?_)
       all_goals
        refine bD (λ c32=>?_) (λ c32=>?_)
        ·all_goals refine cU ?_
         all_goals refine aS results117 (λ w hw=>?_);exact⟨false,rfl,⟨(λ h=>nomatch h),λ hp=>by have h1:=hp.m0;have h2:=hp.m1;exfalso;omega⟩,hw.done⟩
        ·try exact nv c32
         all_goals (refine lB ?_;refine iE ?_;refine dV ?_;refine Kd5 ?_)
         all_goals
          refine gF [2,4,36,37,38,39,40,41,42,43,44,45,46] (λ k=>[(36,.int .i64 ((k:Nat):Int))]) (λ k=>k<=cs.length/\∀i,i<k->Fs (cs.getD i 0) L.length) (λ k=>cs.length-k) (0) (⟨Nat.zero_le _,λ i hi=>absurd hi (Nat.not_lt_zero i)⟩) ?_ (λ k f hx=>?_);·repeat (first|exact bF _|refine aX (by exact rfl) ?_)
          refine K0a ?_;refine Kd7 ?_;refine bD (λ c37=>?_) (λ c37=>?_)
          ·refine rT ?_;refine J0 ?_;refine Qv ?_;refine Ka5 ?_;refine Pb ?_;refine aP (cV (hc:=λ w1 hw=>xF _ _ w1)) (λ x44=>?_);refine oG ?_;refine bD (λ c45=>?_) (λ c45=>?_);·refine cU ?_;refine aS results117 (λ w hw=>?_);exact⟨false,rfl,⟨(λ h=>nomatch h),λ hp=>absurd (hp.cells k (by omega)) (by assumption)⟩,hw.done⟩
           ·refine pE ?_;refine Kc7 ?_;refine eG (k+1) ?_ ?_ ?_;·omega
            ·repeat' (first|exact bF _|refine aX ?_ ?_)
             exact rfl
            ·exact⟨by omega,λ i hi=>by rcases Nat.lt_succ_iff_lt_or_eq.1 hi with h|rfl;exact hx.2 i h;assumption⟩
          ·refine K1t ?_;refine iE ?_;refine dV ?_;refine sM (λ x50=>?_);refine jG ?_;refine iE ?_;refine dV ?_;refine Kd5 ?_;have hcells:∀i,i<cs.length->Fs (cs.getD i 0) L.length:=λ i hi=>hx.2 i (by omega);clear hx;refine mN [2,7,8,9,54,55,56,57,58,59,60,61,62,63,64,65,66,67,68,69,70,71,72,73,74,75,76,77,78,79,80,81,82,83,84,85,86,87,88,89,90,91,92,93,94,95,96,97,98,99,100,101,102,103] (λ y:Nat×List Bool=>[(54,.int .i64 ((y.1:Nat):Int))]) (λ y=>y.1<=L.length/\marks cs.length (L.take y.1)=some y.2/\∀i,i<y.1->nK gen L.length (L.getD i aQ.zero)) (λ _=>_) (λ _=>_) (λ y=>[⟨some ⟨x50,0,none⟩,jY y.2,cs.length,4,1⟩]) (λ y=>L.length-y.1) ((0,List.replicate cs.length false)) (⟨Nat.zero_le _,rfl,λ i hi=>absurd hi (Nat.not_lt_zero i)⟩) (λ y f hx=>?_);refine K0a ?_;have hu:=C5 hx.2.1;refine Kd7 ?_;refine bD (λ c55=>?_) (λ c55=>?_)
           ·refine rT ?_;refine J0 ?_;refine Qv ?_;refine aJ (λ x7=>?_);refine J5 ?_;refine aT ?_;refine nJ ?_;refine aD (c0 (V:=.bool) (hc:=λ w1 hw=>Li (hw.Rw h.fit (by omega)))) (λ x59 h59=>?_);refine Cr ?_;(refine eE 61 (λ g61=>?_) (λ g61=>?_)<;>refine Ka1 ?_);all_goals (refine B8 ?_;refine B7 ?_;refine aA ?_)
            all_goals (first|refine aI ?_|(refine eE 68 (λ g68=>?_) (λ g68=>?_)<;>refine Ka2 ?_))
            all_goals (refine Ts ?_;(first|refine aI ?_|(refine aF ?_;refine aD (c0 (V:=.bool) (hc:=λ w1 hw=>Ml (hw.Rw h.fit (by omega)).brN (hw.Rw h.fit (by omega)).br (hw.Rw h.fit (by omega)).brS)) (λ x73 h73=>?_)));refine Kc2 ?_)
            all_goals
             refine bD (λ c75=>?_) (λ c75=>?_)
             ·all_goals refine cU ?_
              all_goals refine aS results117 (λ w hw=>?_);refine⟨false,rfl,⟨(λ h=>nomatch h),λ hp=>?_⟩,hw.done⟩;obtain⟨q1,q2,q3⟩:=hp.nodes y.1 (by omega);first|(exfalso;omega)|(have:=h59.2 q1;simp_all;done) 
             ·try exact nv c75
              all_goals have hok:nK gen L.length (L.getD y.1 aQ.zero):=⟨h59.1 (by simp_all),by omega,h73.1 (by simp_all)⟩
              all_goals (refine aW ?_;refine nJ ?_;refine aP (cV (hc:=λ w1 hw=>jl (L.getD y.1 aQ.zero).nd w1)) (λ x78=>?_);refine Kb8 ?_;refine oG ?_)
              all_goals
               refine bD (λ c82=>?_) (λ c82=>?_)
               ·have hmk:eW (some y.2) (L.getD y.1 aQ.zero).nd=some y.2:=by
                 have e:gK (L.getD y.1 aQ.zero).nd=none:=by cases hq:gK (L.getD y.1 aQ.zero).nd<;>simp_all
                 simp only[eW,e]
                refine K1t ?_;refine Kc7 ?_;refine iS ((y.1+1,(eW (some y.2) (L.getD y.1 aQ.zero).nd).getD y.2)) ?_ (hw1:=λ w hw=>by rw[hmk];exact hw.back)
                ·refine⟨by omega,by rw[oD (by omega),hx.2.1,hmk];rfl,λ i hi=>?_⟩;rcases Nat.lt_succ_iff_lt_or_eq.1 hi with h|rfl;·exact hx.2.2 i h
                 ·exact hok
               ·obtain⟨c,hc⟩:∃c,gK (L.getD y.1 aQ.zero).nd=some c:=Option.isSome_iff_exists.1 c82;rw[hc,Option.getD_some];refine lB ?_;refine J2 ?_;refine A1 ?_;(refine eE 85 (λ g85=>?_) (λ g85=>?_)<;>refine Ka0 ?_);all_goals (refine Ts ?_;refine B7 ?_;refine aA ?_)
                all_goals (first|refine aI ?_|(refine eE 92 (λ g92=>?_) (λ g92=>?_)<;>refine Ka0 ?_))
                all_goals (refine Ka0 ?_;(first|refine aI ?_|(refine aF ?_;refine aC (Np rf rf (by omega) (by omega)) rfl ?_));(first|refine aI ?_|(refine aF ?_;refine aC (oT rf rf gS fW fin (by omega) (by omega)) rfl ?_));(first|refine aI ?_|(refine aF ?_;refine aC (Br rf fW fin (by omega)) rfl ?_));refine Kd8 ?_)
                all_goals
                 refine bD (λ c98=>?_) (λ c98=>?_)
                 ·all_goals refine cU ?_
                  all_goals
                   refine aS results117 (λ w hw=>?_);refine⟨false,rfl,⟨(λ h=>nomatch h),λ hp=>?_⟩,hw.done⟩;have hm:marks cs.length (L.take (y.1+1))=none:=by rw[oD (by omega),hx.2.1];simp only[eW,hc];refine if_neg λ hh=>?_;obtain⟨q1,q2,q3⟩:=hh;first|(exfalso;omega)|(exfalso;rw[q3] at c98;cases c98)
                   exact absurd (Gq hm) hp.marks
                 ·try exact nv c98
                  all_goals have hmk:eW (some y.2) (L.getD y.1 aQ.zero).nd=some (y.2.set (c-1).toNat true):=by simp only[eW,hc];rw[if_pos ⟨by omega,by omega,c98⟩]
                  all_goals (refine aW ?_;refine Km ?_;refine aC (Np rf rf (by omega) (by omega)) rfl ?_;refine aC (oT rf rf gS fW fin (by omega) (by omega)) rfl ?_;refine J5 ?_;refine eV ?_;refine Kc7 ?_)
                  all_goals
                   refine iS ((y.1+1,(eW (some y.2) (L.getD y.1 aQ.zero).nd).getD y.2)) ?_ (hw1:=λ w hw=>by rw[hmk];exact hw.back)
                   ·refine⟨by omega,by rw[oD (by omega),hx.2.1,hmk];rfl,λ i hi=>?_⟩;rcases Nat.lt_succ_iff_lt_or_eq.1 hi with h|rfl;·exact hx.2.2 i h
                    ·exact hok
           ·refine K2q ?_;refine aS results117 (λ w hw=>?_);have hy:y.1=L.length:=by omega
            have hmm:marks cs.length L=some y.2:=by have:=hx.2.1;rwa [hy,List.take_length] at this
            exact⟨true,rfl,⟨λ _=>⟨by omega,by omega,by omega,by omega,hcells,λ i hi=>hx.2.2 i (by omega),by rw[hmm];exact λ h=>nomatch h⟩,λ _=>rfl⟩,hw.done⟩
end
end Go.Proofs.YtbajmaoegmbfgaaGreat
namespace Go.Ct
section
theorem G4{n:Nd}{xs:List Int}{ys:List Pr}(h:cK n xs ys)(hk:n.kind=1):n.c xs ys=fG.c:=by have e:=rS.1 h.1;rw[e];simp[Nd.own,Nd.jV,Nd.jR,hk,Nd.c,aQ.c,fG,Nd.zero]
theorem fS.all{L L':List aQ}{cs:List Int}{gen:Int}(h:fS L cs gen)(h2:L'.map aQ.c=(L.drop 2).map aQ.c):(cI L').map aQ.c=L.map aQ.c:=by
 have h0:=h.nodes 0 (by have:=h.two;omega);have h1:=h.nodes 1 (by have:=h.two;omega);have e0:(L.getD 0 aQ.zero).c=fG.c:=G4 h0.1 h.m0;have e1:(L.getD 1 aQ.zero).c=fG.c:=G4 h1.1 h.m1;have h3:=h.two;match L,h3 with
 | a::b::r,_=>simp only[List.getD_cons_zero,List.getD_cons_succ] at e0 e1;simp only[List.drop_succ_cons,List.drop_zero] at h2;simp only[cI,List.map_cons,h2,e0,e1]
end
end Go.Ct
namespace Go.Proofs.YtbajmaoegmbfgaaGreat
open Go.Proofs.Tryz
open Go.RowKit Go.Ct
section
variable{cs:List Int}{gen:Int}{pn pc:Option Addr}{cn cc:Nat}{w:World}
theorem aEJ{L:List aQ}(h:nM w L cs pn pc)(hL:L.length<=274877906944)(hC:cs.length<=274877906944)(hp:¬fS L cs gen) :
  Calls prog 71 #[.agg ⟨[.slice pn L.length cn,.slice pc cs.length cc,.int .i64 gen]⟩] w λ e w'=>e=.returned (.tuple #[.pointer none,.int .i64 1])/\St w [] [] w':=by
 refine enter func71 ntmps71 rfl rfl h.start ?_;simp only[cC];refine K1h ?_;intro x1 x8 h8;refine bD (λ c9=>?_) (λ c9=>?_);·refine Hu ?_;refine aZ results71 (λ w hw=>?_);exact⟨rfl,hw.done⟩
 ·exact absurd (h8.1 c9) hp
theorem li{L:List aQ}(h:nM w L cs pn pc)(hL:L.length<=274877906944)(hC:cs.length<=274877906944)(hcn:L.length<=cn)(hp:fS L cs gen) :
  Calls prog 71 #[.agg ⟨[.slice pn L.length cn,.slice pc cs.length cc,.int .i64 gen]⟩] w λ e w'=>∃x:Nat×List aQ×(Option Addr×Nat)×(Option Addr×Nat),e=.returned (.tuple #[.pointer (some ⟨x.1,0,none⟩),.int .i64 0]) /\
   ((cI x.2.1).map aQ.c=L.map aQ.c/\Fits x.2.1)/\SF w [] [(x.1,aO x.2.1 cs gen 0 x.2.2.1.1 x.2.2.1.2 x.2.2.2.1 x.2.2.2.2)] [] (aN x.2.1) (mW x.2.1 cs x.2.2.1.1 x.2.2.1.2 x.2.2.2.1 x.2.2.2.2) w':=by
 have h2L:=hp.two;refine enter func71 ntmps71 rfl rfl h.start ?_;simp only[cC]
 refine K1h ?_;intro x1 x8 h8;refine bD (λ c9=>?_) (λ c9=>?_);·exact absurd hp (λ hp=>by rw[h8.2 hp] at c9;cases c9)
 ·refine lB ?_;refine eI [(0,[]),(1,[]),(3,[]),(4,[]),(2,[4]),(5,[]),(6,[]),(7,[])] ?_;refine mE ?_;refine mE ?_;refine bI (i:=2) (hq:=(Tg (Hc:=λ _=>[]) (Fc:=λ _=>[]) (hc:=λ w1 hw=>Ah (hw.cl fin) hC))) (h:=λ x12 h12=>?_);refine gM ?_;refine o8 (h:=λ x16=>?_);refine J7 ?_;refine J2 ?_;refine Pb ?_;refine aC (jZ (n:=2) rf rf (by omega) (by omega)) rfl ?_;refine sM (λ x22=>?_);refine Pd ?_;refine Cm ?_;(refine aP (th (k:=2) rf rf gS (by exact vB rfl) (by omega) fin hcn rfl) (λ x27=>?_));refine dV ?_;refine Kd5 ?_;refine mN [6,29,30,31,32,33,34,35,36,37,38,39,40,41,42,43,44] (λ y:List aQ×Option Addr×Nat=>[(29,.int .i64 ((y.1.length:Nat):Int))]) (λ y=>y.1.map aQ.c=((L.drop 2).take y.1.length).map aQ.c/\y.1.length<=L.length-2/\Fits y.1) (λ y=>[(x16,.cells ⟨[.slice y.2.1 y.1.length y.2.2,.slice x12.1 cs.length x12.2,.int .i64 gen,.int .i64 0]⟩ 139 (0,0)),(x1,.cells ⟨[.slice pn L.length cn,.slice pc cs.length cc,.int .i64 gen]⟩ 52 (0,0))]) (λ y=>aN y.1) (λ y=>[⟨y.2.1,iH y.1,y.2.2,47,14⟩,⟨x12.1,aH cs,x12.2,37,1⟩]) (λ y=>L.length-2-y.1.length) (([],some ⟨x22,0,none⟩,L.length-2)) (⟨rfl,Nat.zero_le _,λ _ h=>(List.not_mem_nil h).elim⟩) (λ y f hx=>?_) (hw0:=λ w hw=>hw.back);refine K0a ?_;refine Kd7 ?_;refine bD (λ c30=>?_) (λ c30=>?_)
  ·refine rT ?_;refine J0 ?_;refine aC (tB rf rf gS eD fin (by omega) E0o) rfl ?_;refine aC (Wn rf eD fin E0o) rfl ?_;refine aJ (λ x6=>?_);refine J5 ?_;refine eI [(0,[]),(1,[]),(2,[]),(3,[]),(4,[]),(5,[]),(6,[4]),(7,[4]),(8,[]),(9,[]),(10,[]),(11,[])] ?_;refine dj ?_;refine bV ?_;refine bI (i:=6) (hq:=(cF (V:=λ p:Option Addr×Option Addr=>.agg ⟨(((L.drop 2).getD y.1.length aQ.zero).at_ p.1 p.2).nd.cells⟩) (hc:=λ w1 hw=>Xi (hw.aA1 (L:=L) (λ f hf=>.inr (.inl (List.mem_cons_of_mem _ (List.mem_cons_of_mem _ (List.mem_cons_of_mem _ hf))))) h.fit (List.mem_of_mem_drop (fH E0o))) (h.fit _ (List.mem_of_mem_drop (fH E0o))).brS (h.fit _ (List.mem_of_mem_drop (fH E0o))).prS))) (h:=λ x39 h39=>?_);refine cE (h:=λ x40=>?_);((refine dB (i:=8) (hq:=(bG.eM (Ya (((L.drop 2).getD y.1.length aQ.zero).at_ x39.1 x39.2) rf rf zH rfl fin Pf rfl gS om) vS)) (h:=λ x41=>?_);try (refine eK (λ h41=>?_))));refine J88 ?_;refine eV ?_;refine Kc7 ?_
   refine iS ((y.1++[((L.drop 2).getD y.1.length aQ.zero).at_ x39.1 x39.2],x41.1,x41.2)) ?_ (hw1:=λ w hw=>by
    have h3:=hw.aAr (L:=y.1) (v:=((L.drop 2).getD y.1.length aQ.zero).at_ x39.1 x39.2) (F':=[]) (List.mem_cons_of_mem _ (List.mem_cons_self ..)) (List.mem_cons_of_mem _ (List.mem_cons_of_mem _ (List.mem_cons_self ..))) (λ f hf=>List.mem_cons_of_mem _ (List.mem_cons_of_mem _ (List.mem_cons_of_mem _ hf)));have h4:=h3.sub (H':=[_,_]) E0g bA.all (List.Sublist.refl _)
    simpa using h4) (hμ:=by simp only[List.length_append,List.length_cons,List.length_nil];omega)
   ·have hlt:y.1.length<(L.drop 2).length:=by rw[List.length_drop];omega
    refine⟨?_,by simp only[List.length_append,List.length_cons,List.length_nil];omega,λ v hv=>?_⟩;·rw[List.map_append,hx.1,List.length_append,List.length_singleton,List.take_succ_eq_append_getElem hlt,List.map_append,iX,List.getElem?_eq_getElem hlt];rfl
    ·rcases List.mem_append.1 hv with hv|hv;·exact hx.2.2 v hv
     ·simp only[List.mem_singleton] at hv;subst hv;exact aQ.V4 (h.fit _ (List.mem_of_mem_drop (fH hlt))) _ _
  ·refine K1t ?_;refine J2 ?_;refine J8 ?_;refine aZ results71 (λ w hw=>?_);have hlen:y.1.length=L.length-2:=by omega
   refine⟨(x16,y.1,(y.2.1,y.2.2),(x12.1,x12.2)),rfl,⟨hp.all (by rw[hx.1,hlen,List.take_of_length_le E0o]),hx.2.2⟩,?_⟩;exact hw.ret (by repeat (first|exact List.nil_sublist _|apply List.Sublist.cons_cons)) bA.all (List.Sublist.refl _)
end
end Go.Proofs.YtbajmaoegmbfgaaGreat
namespace Go.Ct
open Go Go.RowKit
section
theorem Ut{u u':List Bool}{n:Nd}(h:eW (some u) n=some u'):eW (some (u++[false])) n=some (u'++[false]):=by
 simp only[eW] at h ⊢;cases hc:gK n with
 | none=>rw[hc] at h;simp only[Option.some.injEq] at h;rw[h]
 | some c=>
  rw[hc] at h;simp only at h ⊢;split at h
  ·rename_i hh;simp only[Option.some.injEq] at h;have hlt:(c-1).toNat<u.length:=by omega
   rw[if_pos ⟨hh.1,by simp only[List.length_append,List.length_cons,List.length_nil];omega,by rw[iX,List.getElem?_append_left hlt,<- iX];exact hh.2.2⟩,List.set_append_left _ _ hlt,h]
  ·cases h
theorem Vl{m:Nat}:∀{L:List aQ} {u:List Bool},marks m L=some u->marks (m+1) L=some (u++[false]):=by
 have key:∀(l:List aQ) (u0:List Bool) (u:List Bool),l.foldl (λ u v=>eW u v.nd) (some u0)=some u->l.foldl (λ u v=>eW u v.nd) (some (u0++[false]))=some (u++[false]):=by
  intro l;induction l with
  | nil=>intro u0 u h;simp only[List.foldl_nil,Option.some.injEq] at h ⊢;rw[h]
  | cons v l ih=>
   intro u0 u h;simp only[List.foldl_cons] at h ⊢;cases hm:eW (some u0) v.nd with
   | none=>
    rw[hm] at h;exfalso;have:∀l:List aQ,l.foldl (λ u v=>eW u v.nd) none=none:=λ l=>by
     induction l with
     | nil=>rfl
     | cons v l ih=>exact ih
    rw[this] at h;cases h
   | some u1=>rw[hm] at h;rw[Ut hm];exact ih u1 u h
 intro L u h;have:=key L _ u h;rw[marks,List.replicate_succ',this]
theorem Gt{m:Nat}{L:List aQ}{v:aQ}:marks m (L++[v])=eW (marks m L) v.nd:=by rw[marks,List.foldl_append];rfl
theorem Cn{L:List aQ}{v:aQ}{i:Nat}(h:i<L.length+1):(L++[v]).getD i aQ.zero=if i<L.length then L.getD i aQ.zero else v:=by
 rw[iX];split;·rename_i hi;rw[List.getElem?_append_left hi,<- iX]
 ·rename_i hi;rw[List.getElem?_append_right (by omega),show i-L.length=0 by omega];rfl
theorem Fs.mono{r:Int}{n m:Nat}(h:Fs r n)(hm:n<=m):Fs r m:=⟨h.1,Int.le_trans h.2 (by omega)⟩
theorem nK.mono{gen:Int}{n m:Nat}{v:aQ}(h:nK gen n v)(hm:n<=m):nK gen m v:=⟨h.1,h.2.1,λ i hi=>(h.2.2.1 i hi).mono hm,h.2.2.2.1.mono hm,h.2.2.2.2.1.mono hm,h.2.2.2.2.2.mono hm⟩
theorem Qs{L:List aQ}{cs:List Int}{gen init:Int}{v:aQ}(h:fS L cs gen)(hv:nK gen (L.length+1) v)(hi:Fs init L.length){k:Int}(hk:(gK v.nd=none/\fL k cs init=cs)∨(gK v.nd=some ((cs.length+1:Nat):Int)/\fL k cs init=cs++[init])) :
  fS (L++[v]) (fL k cs init) gen:=by
 have hlen:(L++[v]).length=L.length+1:=by simp
 have h2:=h.two;have nodes:∀i,i<(L++[v]).length->nK gen (L++[v]).length ((L++[v]).getD i aQ.zero):=λ i hi=>by
  rw[hlen] at hi ⊢;rw[Cn hi];split;·exact(h.nodes i (by assumption)).mono (by omega)
  ·exact hv
 have k0:((L++[v]).getD 0 aQ.zero).nd.kind=1:=by rw[Cn (by omega),if_pos (by omega)];exact h.m0
 have k1:((L++[v]).getD 1 aQ.zero).nd.kind=1:=by rw[Cn (by omega),if_pos (by omega)];exact h.m1
 cases hm:marks cs.length L with
 | none=>exact absurd hm h.marks
 | some u=>
  have hu:=C5 hm;rcases hk with⟨e1,e2⟩|⟨e1,e2⟩
  ·rw[e2];refine⟨by omega,h.gen0,k0,k1,λ i hi=>(h.cells i hi).mono (by omega),nodes,?_⟩;rw[Gt,hm];simp only[eW,e1];exact λ h=>nomatch h
  ·rw[e2];refine⟨by omega,h.gen0,k0,k1,λ i hi'=>?_,nodes,?_⟩
   ·rw[iX];by_cases hlt:i<cs.length;·rw[List.getElem?_append_left hlt,<- iX];exact(h.cells i hlt).mono (by omega)
    ·simp only[List.length_append,List.length_cons,List.length_nil] at hi';rw[List.getElem?_append_right (by omega),show i-cs.length=0 by omega];exact hi.mono (by omega)
   ·rw[Gt,show(cs++[init]).length=cs.length+1 by simp,Vl hm];simp only[eW,e1];have e3:(((cs.length+1:Nat):Int)-1).toNat=cs.length:=by omega
    rw[e3,if_pos ⟨by omega,by simp only[List.length_append,List.length_cons,List.length_nil];omega,by rw[iX,List.getElem?_append_right (by omega),hu,Nat.sub_self];rfl⟩];exact λ h=>nomatch h
structure NdR(n:Nd):Prop where
 bm:∃b:Nat,n.bm=(b:Int)/\b<18446744073709551616
 main:n.main<=9223372036854775807
 prev:n.prev<=9223372036854775807
 status:n.status<=9223372036854775807
def Kn(L:List aQ):Prop:=∀v∈L,NdR v.nd
end
section
inductive Tr where
 | done (r:Rs)
 | load (c:Int) (k:Int->Tr)
 | kG (c o n:Int) (k:Bool->Tr)
 | alloc (n:Nv) (i:Int) (k:Int->Tr)
 | cell (i:Int) (k:Int->Tr)
 | gen (k:Int->Tr)
 | node (r:Int) (k:Nv->Tr)
 | stuck
structure Mm where
 nodes:List Nv
 cs:List Int
 gen:Int
def Nv.zero:Nv:=aQ.zero.c
def bE(L:List Nv)(r:Int):Nv:=if 1<=r/\r<=L.length then L.getD (r-1).toNat Nv.zero else Nv.zero
theorem Bg(L:List aQ)(r:Int):(aB L r).c=bE (L.map aQ.c) r:=by
 unfold aB bE;rw[List.length_map];split
 ·rename_i h;have h2:(r-1).toNat<L.length:=by omega
  simp only[iX,List.getElem?_map,List.getElem?_eq_getElem h2,Option.map_some,Option.getD_some]
 ·rfl
theorem Jb{L N:List Nv}{r:Int}(h:r<=L.length):bE (L++N) r=bE L r:=by
 unfold bE;by_cases h1:1<=r;·rw[if_pos ⟨h1,by simp;omega⟩,if_pos ⟨h1,h⟩,iX,iX,List.getElem?_append_left (by omega)]
 ·rw[if_neg (by omega),if_neg (by omega)]
def dI(n:Nv)(c:Nat):Nv:={n with main:=if n.kind=2 then((c+1:Nat):Int) else 0,prev:=if n.kind=3∨n.kind=5∨n.kind=6 then((c+1:Nat):Int) else 0,status:=if n.kind=8 then((c+1:Nat):Int) else 0}
def Mm.push(s:Mm)(n:Nv)(i:Int):Mm:=⟨s.nodes++[dI n s.cs.length],fL n.kind s.cs i,s.gen⟩
inductive Sp:Tr->Mm->Tr->Mm->Prop where
 | alloc (n i k s):Sp (.alloc n i k) s (k ((s.nodes.length+1:Nat):Int)) (s.push n i)
 | cell (i k s):Sp (.cell i k) s (k ((s.cs.length+1:Nat):Int)) ⟨s.nodes,s.cs++[i],s.gen⟩
 | gen (k s):Sp (.gen k) s (k (s.gen+1)) ⟨s.nodes,s.cs,s.gen+1⟩
 | node (r:Int) (k s) (h:r<=s.nodes.length):Sp (.node r k) s (k (bE s.nodes r)) s
inductive Lp:Tr->Mm->Tr->Mm->Prop where
 | load (c k s):Lp (.load c k) s (k (bK s.cs c)) s
 | kG (c o n k s) (b:Bool) (hb:b=true↔iQ s.cs c o):Lp (.kG c o n k) s (k b) ⟨s.nodes,eL s.cs c o n,s.gen⟩
inductive Rc:Nat->Tr->Mm->Tr->Mm->Prop where
 | refl (t s):Rc 0 t s t s
 | eF {j t s t1 s1 t2 s2}:Rc j t s t1 s1->Sp t1 s1 t2 s2->Rc j t s t2 s2
 | loud {j t s t1 s1 t2 s2}:Rc j t s t1 s1->Lp t1 s1 t2 s2->Rc (j+1) t s t2 s2
inductive Wk(L:List Nv):Tr->List Int->List Int->List Int->List Int->Tr->Prop where
 | nil (t):Wk L t [] [] [] [] t
 | load {c k v gs ms cl gn R}:Wk L (k v) gs ms cl gn R->Wk L (.load c k) (v::gs) ms cl gn R
 | kG {c o n k v gs ms cl gn R}:Wk L (k (v==1)) gs ms cl gn R->Wk L (.kG c o n k) (v::gs) ms cl gn R
 | alloc {n i k r gs ms cl gn R}:Wk L (k r) gs ms cl gn R->Wk L (.alloc n i k) gs (r::ms) cl gn R
 | cell {i k r gs ms cl gn R}:Wk L (k r) gs ms cl gn R->Wk L (.cell i k) gs ms (r::cl) gn R
 | gen {k r gs ms cl gn R}:Wk L (k r) gs ms cl gn R->Wk L (.gen k) gs ms cl (r::gn) R
 | node {r:Int} {k gs ms cl gn R}:r<=L.length->Wk L (k (bE L r)) gs ms cl gn R->Wk L (.node r k) gs ms cl gn R
theorem Wk.mono{L N:List Nv}{t R:Tr}{gs ms cl gn:List Int}(h:Wk L t gs ms cl gn R):Wk (L++N) t gs ms cl gn R:=by
 induction h with
 | nil t=>exact .nil t
 | load _ ih=>exact .load ih
 | kG _ ih=>exact .kG ih
 | alloc _ ih=>exact .alloc ih
 | cell _ ih=>exact .cell ih
 | gen _ ih=>exact .gen ih
 | node h _ ih=>exact .node (by simp;omega) (by rw[Jb h];exact ih)
theorem Wk.trans{L:List Nv}{t t1 R:Tr}{gs ms cl gn gs' ms' cl' gn':List Int}(h:Wk L t gs ms cl gn t1)(h2:Wk L t1 gs' ms' cl' gn' R):Wk L t (gs++gs') (ms++ms') (cl++cl') (gn++gn') R:=by
 induction h with
 | nil t=>exact h2
 | load _ ih=>exact .load (ih h2)
 | kG _ ih=>exact .kG (ih h2)
 | alloc _ ih=>exact .alloc (ih h2)
 | cell _ ih=>exact .cell (ih h2)
 | gen _ ih=>exact .gen (ih h2)
 | node h _ ih=>exact .node h (ih h2)
def bW:Tr->Nat->Nat->Prop
 | .done _,_,_=>True
 | .stuck,_,_=>False
 | .load _ _,0,_=>True
 | .load _ k,n+1,_=>∀v,bW (k v) n 64
 | .kG _ _ _ _,0,_=>True
 | .kG _ _ _ k,n+1,_=>∀v,bW (k v) n 64
 | .alloc _ _ _,_,0=>False
 | .alloc _ _ k,n,c+1=>∀v,bW (k v) n c
 | .cell _ _,_,0=>False
 | .cell _ k,n,c+1=>∀v,bW (k v) n c
 | .gen _,_,0=>False
 | .gen k,n,c+1=>∀v,bW (k v) n c
 | .node _ k,n,c=>∀v,bW (k v) n c
theorem Wk.wR{L:List Nv}{t R:Tr}{gs ms cl gn:List Int}(h:Wk L t gs ms cl gn R):∀{n c:Nat},c<=64->bW t n c->gs.length<=n->∃c',bW R (n-gs.length) c'/\c'<=64/\ms.length+cl.length+gn.length+c'<=c+64*gs.length:=by
 induction h with
 | nil t=>intro n c hc ht _;exact⟨c,ht,hc,by simp⟩
 | load _ ih=>
  intro n c hc ht hn;cases n with
  | zero=>simp at hn
  | succ n=>obtain⟨c',h1,h2,h3⟩:=ih (Nat.le_refl 64) (ht _) (by simpa using hn);exact⟨c',by simpa using h1,h2,by simp only[List.length_cons];omega⟩
 | kG _ ih=>
  intro n c hc ht hn;cases n with
  | zero=>simp at hn
  | succ n=>obtain⟨c',h1,h2,h3⟩:=ih (Nat.le_refl 64) (ht _) (by simpa using hn);exact⟨c',by simpa using h1,h2,by simp only[List.length_cons];omega⟩
 | alloc _ ih=>
  intro n c hc ht hn;cases c with
  | zero=>exact ht.elim
  | succ c=>obtain⟨c',h1,h2,h3⟩:=ih (by omega) (ht _) hn;exact⟨c',h1,h2,by simp only[List.length_cons];omega⟩
 | cell _ ih=>
  intro n c hc ht hn;cases c with
  | zero=>exact ht.elim
  | succ c=>obtain⟨c',h1,h2,h3⟩:=ih (by omega) (ht _) hn;exact⟨c',h1,h2,by simp only[List.length_cons];omega⟩
 | gen _ ih=>
  intro n c hc ht hn;cases c with
  | zero=>exact ht.elim
  | succ c=>obtain⟨c',h1,h2,h3⟩:=ih (by omega) (ht _) hn;exact⟨c',h1,h2,by simp only[List.length_cons];omega⟩
 | node _ _ ih=>intro n c hc ht hn;exact ih hc (ht _) hn
theorem Rc.wR{j:Nat}{t t':Tr}{s s':Mm}(h:Rc j t s t' s'):∀{n c:Nat},c<=64->bW t n c->j<=n->∃c',bW t' (n-j) c'/\c'<=64/\s.nodes.length<=s'.nodes.length/\s'.nodes.length+c'<=s.nodes.length+c+64*j/\s'.cs.length+c'<=s.cs.length+c+64*j/\s'.gen+c'<=s.gen+c+64*j:=by
 induction h with
 | refl t s=>intro n c hc ht _;exact⟨c,ht,hc,by omega,by omega,by omega,by omega⟩
 | @eF j t s t1 s1 t2 s2 _ hs ih=>
  intro n c hc ht hn;obtain⟨c',h1,h2,h3,h4,h5,h6⟩:=ih hc ht hn;cases hs with
  | alloc nn i k s=>
   cases c' with
   | zero=>exact h1.elim
   | succ c'=>have hl:=mH (k:=nn.kind) (cs:=s1.cs) (init:=i);exact⟨c',h1 _,by omega,by simp[Mm.push];omega,by simp[Mm.push];omega,by simp only[Mm.push];omega,by simp only[Mm.push];omega⟩
  | cell i k s=>
   cases c' with
   | zero=>exact h1.elim
   | succ c'=>exact⟨c',h1 _,by omega,by simpa using h3,by simp;omega,by simp;omega,by simp;omega⟩
  | gen k s=>
   cases c' with
   | zero=>exact h1.elim
   | succ c'=>exact⟨c',h1 _,by omega,by simpa using h3,by simp;omega,by simp;omega,by simp;omega⟩
  | node r k s h=>exact⟨c',h1 _,h2,h3,h4,h5,h6⟩
 | loud _ hs ih=>
  intro n c hc ht hn;obtain⟨c',h1,h2,h3,h4,h5,h6⟩:=ih hc ht (by omega);rename_i j _ _ _ _ _ _ _;obtain⟨d,hd⟩:∃d,n-j=d+1:=⟨n-j-1,by omega⟩;rw[hd] at h1;have e:n-(j+1)=d:=by omega
  rw[e];cases hs with
  | load c k s=>exact⟨64,h1 _,Nat.le_refl _,h3,by omega,by omega,by omega⟩
  | kG c o nn k s b hb=>exact⟨64,h1 _,Nat.le_refl _,h3,by simp only;omega,by simp only[gR];omega,by simp only;omega⟩
end
section
def cB(n:Nv):Prop:=n.kind=3∨n.kind=5∨n.kind=6
instance (n:Nv):Decidable (cB n):=by unfold cB;exact inferInstance
def sL(N:List Nv)(cs:List Int)(c:Int):Int:=if(bE N (bK cs c)).kind=8 then(if bK cs (bE N (bK cs c)).status=1 then(bE N (bK cs c)).new else(bE N (bK cs c)).bS) else bK cs c
def kT(N:List Nv)(cs:List Int)(c:Int):Option Int:=if(bE N (sL N cs c)).kind=2 then some (sL N cs c) else none
def wK(N:List Nv)(cs:List Int)(i:Int):Int:=bK cs (bE N i).main
def oP(N:List Nv)(cs:List Int)(i:Int):Int:=bK cs (bE N (wK N cs i)).prev
def zN(N:List Nv)(cs:List Int)(i:Int):Int:=if(bE N (oP N cs i)).kind=7 then(bE N (oP N cs i)).bS else oP N cs i
def gQ(N:List Nv)(cs:List Int)(i:Int):Option Int :=
 if(bE N i).kind=2/\cB (bE N (wK N cs i)) then
  if oP N cs i=0 then some (wK N cs i) else if cB (bE N (zN N cs i)) then some (zN N cs i) else none
 else none
def Kb(N:List Nv)(f:Int->List Int->Option (List Int)):List Int->List Int->Option (List Int)
 | [],l=>some l
 | b::r,l=>if(bE N b).kind=4 then Kb N f r l else if(bE N b).kind=2 then(f b l).bind (Kb N f r) else none
def vis(N:List Nv)(cs:List Int):Nat->Int->List Int->Option (List Int)
 | 0,_,_=>none
 | n+1,i,l=>if i∈l then none else(gQ N cs i).bind λ m=>Kb N (vis N cs n) (bE N m).xs (l++[i])
def qM(v:Nv):List Pr:=if v.kind=5 then [(v.key,v.val)] else if v.kind=6 then v.ys else []
def lK(N:List Nv)(f:Int->List Pr):List Int->List Pr
 | []=>[]
 | b::r=>(if(bE N b).kind=4 then [((bE N b).key,(bE N b).val)] else f b)++lK N f r
def Ds(N:List Nv)(cs:List Int):Nat->Int->List Pr
 | 0,_=>[]
 | n+1,i=>match gQ N cs i with
  | none=>[]
  | some m=>qM (bE N m)++lK N (Ds N cs n) (bE N m).xs
theorem Rp{N:List Nv}{f:Int->List Pr}:∀(a b:List Int),lK N f (a++b)=lK N f a++lK N f b
 | [],b=>rfl
 | x::a,b=>by simp only[List.cons_append,lK,Rp a b,List.append_assoc]
theorem K8{N:List Nv}{cs:List Int}{i m:Int}(h:gQ N cs i=some m):(bE N i).kind=2/\cB (bE N m):=by
 unfold gQ at h;split at h
 ·rename_i h1;split at h;·cases h;exact h1
  split at h;·cases h;exact⟨h1.1,by assumption⟩
  ·cases h
 ·cases h
theorem eU{N:List Nv}{i:Int}(h:(bE N i).kind≠0):1<=i/\i<=N.length:=by
 unfold bE at h;split at h;·assumption
 ·exact absurd rfl h
end
section
theorem nM.K6{L:List aQ}{cs:List Int}{pn pc:Option Addr}{w w0:World}{M:List Nat}{H:List (Nat×Obj)}{F:Fr}{O:List Ow}(h:nM w0 L cs pn pc)(hw:SF w0 M H ((pn,iH L)::(pc,aH cs)::aN L) F O w):nM w L cs pn pc:=hw.Fe (.inr (.inl (.head _))) (.inr (.inl (.tail _ (.head _)))) (λ f hf=>.inr (.inl (.tail _ (.tail _ hf)))) h.fit
theorem dH(L:List aQ)(r:Int):bE (L.map aQ.c) r=(aB L r).c:=(Bg L r).symm
end
end Go.Ct
namespace Go.Proofs.YtbajmaoegmbfgaaGreat
open Go.Proofs.Tryz
open Go Go.RowKit Go.Ct
section
section
variable{L:List aQ}{cs:List Int}{gen:Int}{pn pc:Option Addr}{cn cc:Nat}{w:World}
abbrev Mf(L:List aQ)(cs:List Int)(gen:Int)(pn:Option Addr)(cn:Nat)(pc:Option Addr)(cc:Nat):Value:=.agg ⟨[.slice pn L.length cn,.slice pc cs.length cc,.int .i64 gen]⟩
structure StB(L:List aQ)(cs:List Int):Prop where
 cs:∀c,bK cs c<=9223372036854775807
 bS:∀r,(aB L r).nd.bS<=9223372036854775807
 new:∀r,(aB L r).nd.new<=9223372036854775807
 main:∀r,(aB L r).nd.main<=9223372036854775807
 prev:∀r,(aB L r).nd.prev<=9223372036854775807
 status:∀r,(aB L r).nd.status<=9223372036854775807
 br:∀r,∀b∈(aB L r).xs,b<=9223372036854775807
end
end
section
section
variable{L:List aQ}{cs:List Int}{gen:Int}{pn pc:Option Addr}{cn cc:Nat}{w:World}
theorem aBw(h:nM w L cs pn pc)(r:Int)(hr:r<1):Calls prog 91 #[Mf L cs gen pn cn pc cc,.int .i64 r] w λ e w'=>e=.returned (aB L r).nd.v/\St w [] [] w':=by
 refine enter func91 ntmps91 rfl rfl h.start ?_;simp only[cC];refine J0 ?_;refine bJ (λ x2=>?_);refine aJ (λ x4=>?_);refine aG ?_;refine jS ?_;refine A1 ?_;(refine eE 7 (λ g7=>?_) (λ g7=>?_)<;>(try (exfalso;omega))<;>(refine aI ?_));refine Ts ?_;refine Ka8 ?_;refine bD (λ c13=>?_) (λ c13=>?_)
 ·try (exfalso;omega)
  refine Kc0 ?_;refine aZ results91 (λ w hw=>?_);exact⟨by rw[qY (by omega)];rfl,hw.done⟩
 ·exact nv c13
theorem aBp(h:nM w L cs pn pc){k:Nat}(hk:(k:Int)<9223372036854775807)(hl:L.length<=274877906944):Calls prog 91 #[Mf L cs gen pn cn pc cc,.int .i64 ((k+1:Nat):Int)] w λ e w'=>e=.returned (aB L ((k+1:Nat):Int)).nd.v/\St w [] [] w':=by
 refine enter func91 ntmps91 rfl rfl h.start ?_;simp only[cC];refine J0 ?_;refine bJ (λ x2=>?_);refine aJ (λ x4=>?_);refine aG ?_;refine jS ?_;refine A1 ?_;(refine Ka3 ?_);refine Ts ?_;refine Ka8 ?_;refine bD (λ c13=>?_) (λ c13=>?_)
 ·try (exfalso;omega)
  refine Kc0 ?_;refine aZ results91 (λ w hw=>?_);(exact⟨by rw[qY (by omega)];rfl,hw.done⟩)
 ·try (exfalso;omega)
  refine aW ?_;refine Kc8 ?_;refine sV ?_;refine Qv ?_;refine J5 ?_;refine aZ results91 (λ w hw=>?_);(exact⟨by rw[tC (by omega)];rfl,hw.done⟩)
theorem rK(h:nM w L cs pn pc)(r:Int)(hr:r<=9223372036854775807)(hl:L.length<=274877906944):Calls prog 91 #[Mf L cs gen pn cn pc cc,.int .i64 r] w λ e w'=>e=.returned (aB L r).nd.v/\St w [] [] w':=by
 rcases Int.lt_or_le r 1 with h1|h1;·exact aBw h r h1
 ·obtain⟨k,rfl⟩:∃k:Nat,r=((k+1:Nat):Int):=⟨(r-1).toNat,by omega⟩;exact aBp h (by omega) hl
theorem gu(h:nM w L cs pn pc)(r:Int)(hr:r<1):Calls prog 90 #[Mf L cs gen pn cn pc cc,.int .i64 r] w λ e w'=>e=.returned (.int .i64 (bK cs r))/\St w [] [] w':=by
 refine enter func90 ntmps90 rfl rfl h.start ?_;simp only[cC];refine J0 ?_;refine bJ (λ x2=>?_);refine Kd9 ?_;refine A1 ?_;(refine eE 7 (λ g7=>?_) (λ g7=>?_)<;>(try (exfalso;omega))<;>(refine aI ?_));refine Ts ?_;refine Ka8 ?_;refine bD (λ c13=>?_) (λ c13=>?_)
 ·try (exfalso;omega)
  refine cU ?_;refine aS results90 (λ w hw=>?_);exact⟨by rw[tF (by omega)];rfl,hw.done⟩
 ·exact nv c13
theorem j9(h:nM w L cs pn pc){k:Nat}(hk:(k:Int)<9223372036854775807)(hl:cs.length<=274877906944):Calls prog 90 #[Mf L cs gen pn cn pc cc,.int .i64 ((k+1:Nat):Int)] w λ e w'=>e=.returned (.int .i64 (bK cs ((k+1:Nat):Int)))/\St w [] [] w':=by
 refine enter func90 ntmps90 rfl rfl h.start ?_;simp only[cC];refine J0 ?_;refine bJ (λ x2=>?_);refine Kd9 ?_;refine A1 ?_;(refine Ka3 ?_);refine Ts ?_;refine Ka8 ?_;refine bD (λ c13=>?_) (λ c13=>?_)
 ·try (exfalso;omega)
  refine cU ?_;refine aS results90 (λ w hw=>?_);(exact⟨by rw[tF (by omega)];rfl,hw.done⟩)
 ·try (exfalso;omega)
  refine aW ?_;refine Kc8 ?_;refine sV ?_;refine Qv ?_;refine J1 ?_;refine aS results90 (λ w hw=>?_);(exact⟨by rw[Ji (by omega)];rfl,hw.done⟩)
theorem Fu(h:nM w L cs pn pc)(r:Int)(hr:r<=9223372036854775807)(hl:cs.length<=274877906944):Calls prog 90 #[Mf L cs gen pn cn pc cc,.int .i64 r] w λ e w'=>e=.returned (.int .i64 (bK cs r))/\St w [] [] w':=by
 rcases Int.lt_or_le r 1 with h1|h1;·exact gu h r h1
 ·obtain⟨k,rfl⟩:∃k:Nat,r=((k+1:Nat):Int):=⟨(r-1).toNat,by omega⟩;exact j9 h (by omega) hl
theorem Wq(h:nM w L cs pn pc)(hb:StB L cs)(hl:L.length<=274877906944)(hc:cs.length<=274877906944)(i:Int)(hi:i<=9223372036854775807):Calls prog 83 #[Mf L cs gen pn cn pc cc,.int .i64 i] w λ e w'=>e=.returned (.tuple #[.int .i64 ((gQ (L.map aQ.c) cs i).getD 0),.bool (gQ (L.map aQ.c) cs i).isSome])/\St w [] [] w':=by
 refine enter func83 ntmps83 rfl rfl h.start ?_;simp only[cC];simp only[Mf];refine J0 ?_;refine bJ (λ x2=>?_);refine J8 ?_;refine aT ?_;refine E4 ?_;refine aP (cV (hc:=λ w1 hw=>rK (h.K6 hw) i hi hl)) (λ x10=>?_);refine cP ?_;refine Kc5 ?_;refine bD (λ c12=>?_) (λ c12=>?_);·refine Hu ?_;refine aZ results83 (λ w hw=>?_);refine⟨?_,hw.done⟩;unfold gQ zN oP wK;simp only[dH,cB,aQ.c,Nd.c];simp_all;rfl
 ·refine lB ?_;refine eI [(0,[]),(1,[]),(2,[]),(3,[0]),(4,[]),(5,[]),(6,[])] ?_;refine bV ?_;refine bV ?_;refine aV ?_;refine dB (i:=3) (hq:=(cV (hc:=λ w1 hw=>rK (h.K6 hw) i hi hl))) (h:=λ x16=>?_);refine sF ?_;refine dB (i:=5) (hq:=(cV (hc:=λ w1 hw=>Fu (h.K6 hw) (aB L i).nd.main (hb.main i) hc))) (h:=λ x18=>?_);refine J7 ?_;refine aT ?_;refine E4 ?_;refine aP (cV (hc:=λ w1 hw=>rK (h.K6 hw) (bK cs (aB L i).nd.main) (hb.cs _) hl)) (λ x21=>?_);refine aD (c0 (V:=.bool) (hc:=λ w1 hw=>yI _ w1)) (λ x22 h22=>?_);refine oG ?_;refine bD (λ c23=>?_) (λ c23=>?_);·refine Hu ?_;refine aZ results83 (λ w hw=>?_);refine⟨?_,hw.done⟩;unfold gQ zN oP wK;simp only[dH,cB,aQ.c,Nd.c];simp_all;rfl
  ·refine lB ?_;refine eI [(0,[]),(1,[]),(2,[]),(3,[0]),(4,[]),(5,[]),(6,[])] ?_;refine bV ?_;refine bV ?_;refine aV ?_;refine dB (i:=3) (hq:=(cV (hc:=λ w1 hw=>rK (h.K6 hw) (bK cs (aB L i).nd.main) (hb.cs _) hl))) (h:=λ x27=>?_);refine sF ?_;refine dB (i:=5) (hq:=(cV (hc:=λ w1 hw=>Fu (h.K6 hw) (aB L (bK cs (aB L i).nd.main)).nd.prev (hb.prev _) hc))) (h:=λ x29=>?_);refine J7 ?_;refine Dj ?_;refine J2 ?_;refine Ti ?_;refine bD (λ c30=>?_) (λ c30=>?_);·refine J2 ?_;refine J8 ?_;refine aZ results83 (λ w hw=>?_);refine⟨?_,hw.done⟩;unfold gQ zN oP wK;simp only[dH,cB,aQ.c,Nd.c];simp_all;rfl
   ·refine E4 ?_;refine aP (cV (hc:=λ w1 hw=>rK (h.K6 hw) (bK cs (aB L (bK cs (aB L i).nd.main)).nd.prev) (hb.cs _) hl)) (λ x37=>?_);refine cP ?_;refine Ti ?_;refine bD (λ c34=>?_) (λ c34=>?_)
    ·refine dS ?_;refine Kd0 ?_;refine aP (cV (hc:=λ w1 hw=>rK (h.K6 hw) (bK cs (aB L (bK cs (aB L i).nd.main)).nd.prev) (hb.cs _) hl)) (λ x42=>?_);refine cP ?_;refine J1 ?_;refine eV ?_;refine aT ?_;refine E4 ?_;refine aP (cV (hc:=λ w1 hw=>rK (h.K6 hw) _ (by exact hb.bS _) hl)) (λ x46=>?_);refine aD (c0 (V:=.bool) (hc:=λ w1 hw=>yI _ w1)) (λ x47 h47=>?_);refine oG ?_;refine bD (λ c48=>?_) (λ c48=>?_);·refine Hu ?_;refine aZ results83 (λ w hw=>?_);refine⟨?_,hw.done⟩;unfold gQ zN oP wK;simp only[dH,cB,aQ.c,Nd.c];simp_all;rfl
     ·refine Kb3 ?_;refine J8 ?_;refine aZ results83 (λ w hw=>?_);refine⟨?_,hw.done⟩;unfold gQ zN oP wK;simp only[dH,cB,aQ.c,Nd.c];simp_all;rfl
    ·refine pE ?_;refine aT ?_;refine E4 ?_;refine aP (cV (hc:=λ w1 hw=>rK (h.K6 hw) _ (by exact hb.cs _) hl)) (λ x46=>?_);refine aD (c0 (V:=.bool) (hc:=λ w1 hw=>yI _ w1)) (λ x47 h47=>?_);refine oG ?_;refine bD (λ c48=>?_) (λ c48=>?_);·refine Hu ?_;refine aZ results83 (λ w hw=>?_);refine⟨?_,hw.done⟩;unfold gQ zN oP wK;simp only[dH,cB,aQ.c,Nd.c];simp_all;rfl
     ·refine Kb3 ?_;refine J8 ?_;refine aZ results83 (λ w hw=>?_);refine⟨?_,hw.done⟩;unfold gQ zN oP wK;simp only[dH,cB,aQ.c,Nd.c];simp_all;rfl
theorem wz(h:nM w L cs pn pc)(hb:StB L cs)(hl:L.length<=274877906944)(hc:cs.length<=274877906944)(c:Int)(ro:Bool)(hi:c<=9223372036854775807):Calls prog 95 #[Mf L cs gen pn cn pc cc,.agg ⟨[.int .i64 c,.bool ro]⟩] w λ e w'=>e=.returned (.tuple #[.int .i64 ((kT (L.map aQ.c) cs c).getD 0),.bool (kT (L.map aQ.c) cs c).isSome])/\St w [] [] w':=by
 refine enter func95 ntmps95 rfl rfl h.start ?_;simp only[cC];simp only[Mf];refine K1i ?_;intro x2 x3;refine J8 ?_;refine nJ ?_;refine J3 ?_;refine aP (cV (hc:=λ w1 hw=>Fu (h.K6 hw) c hi hc)) (λ x11=>?_);refine jG ?_;refine E4 ?_;refine aP (cV (hc:=λ w1 hw=>rK (h.K6 hw) (bK cs c) (hb.cs _) hl)) (λ x14=>?_);refine aJ (λ x7=>?_);refine J5 ?_;refine iE ?_;refine tG ?_;refine bD (λ c17=>?_) (λ c17=>?_)
 ·refine iE ?_;refine J1 ?_;refine nJ ?_;refine J3 ?_;refine aP (cV (hc:=λ w1 hw=>Fu (h.K6 hw) (aB L (bK cs c)).nd.status (hb.status _) hc)) (λ x23=>?_);refine tG ?_;refine bD (λ c24=>?_) (λ c24=>?_)
  ·refine dS ?_;refine J3 ?_;refine jG ?_;refine E4 ?_;refine aP (cV (hc:=λ w1 hw=>rK (h.K6 hw) _ (by exact hb.new _) hl)) (λ x29=>?_);refine cP ?_;refine Kc5 ?_;refine bD (λ c31=>?_) (λ c31=>?_);·refine Hu ?_;refine aZ results95 (λ w hw=>?_);refine⟨?_,hw.done⟩;unfold kT sL;simp only[dH,cB,aQ.c,Nd.c];simp_all;rfl
   ·refine Kb3 ?_;refine J8 ?_;refine aZ results95 (λ w hw=>?_);refine⟨?_,hw.done⟩;unfold kT sL;simp only[dH,cB,aQ.c,Nd.c];simp_all;rfl
  ·refine lB ?_;refine E4 ?_;refine aP (cV (hc:=λ w1 hw=>rK (h.K6 hw) _ (by exact hb.bS _) hl)) (λ x29=>?_);refine cP ?_;refine Kc5 ?_;refine bD (λ c31=>?_) (λ c31=>?_);·refine Hu ?_;refine aZ results95 (λ w hw=>?_);refine⟨?_,hw.done⟩;unfold kT sL;simp only[dH,cB,aQ.c,Nd.c];simp_all;rfl
   ·refine Kb3 ?_;refine J8 ?_;refine aZ results95 (λ w hw=>?_);refine⟨?_,hw.done⟩;unfold kT sL;simp only[dH,cB,aQ.c,Nd.c];simp_all;rfl
 ·refine lB ?_;refine E4 ?_;refine aP (cV (hc:=λ w1 hw=>rK (h.K6 hw) _ (by exact hb.cs _) hl)) (λ x29=>?_);refine cP ?_;refine Kc5 ?_;refine bD (λ c31=>?_) (λ c31=>?_);·refine Hu ?_;refine aZ results95 (λ w hw=>?_);refine⟨?_,hw.done⟩;unfold kT sL;simp only[dH,cB,aQ.c,Nd.c];simp_all;rfl
  ·refine Kb3 ?_;refine J8 ?_;refine aZ results95 (λ w hw=>?_);refine⟨?_,hw.done⟩;unfold kT sL;simp only[dH,cB,aQ.c,Nd.c];simp_all;rfl
end
end
end Go.Proofs.YtbajmaoegmbfgaaGreat
namespace Go.Ct
open Go Go.RowKit
section
def dq(n:Nat)(vs:List Bool)(l:List Int):Prop:=vs.length=n/\(∀k,k<n->(vs.getD k false=true↔((k+1:Nat):Int)∈l))/\l.length+vs.count false=n
theorem dq.zero(n:Nat):dq n (List.replicate n false) []:=⟨by simp,λ k hk=>by simp[iX,hk],by simp⟩
theorem count_set:∀(vs:List Bool) (k:Nat),k<vs.length->vs.getD k false=false->(vs.set k true).count false+1=vs.count false
 | [],_,h,_=>by simp at h
 | b::vs,0,_,h=>by
  have e:b=false:=by simpa using h
  subst e
  simp
 | b::vs,k+1,h,h2=>by
  have:=count_set vs k (by simpa using h) (by simpa using h2);rw[List.set_cons_succ,List.count_cons,List.count_cons];omega
theorem dq.set{n k:Nat}{vs:List Bool}{l:List Int}(h:dq n vs l)(hk:k<n)(hf:vs.getD k false=false):dq n (vs.set k true) (l++[((k+1:Nat):Int)]):=by
 have h1:=h.1;refine⟨by simp[h.1],λ j hj=>?_,?_⟩
 ·have h2:=h.2.1 j hj;rw[iX] at h2;rw[iX,List.getElem?_set];by_cases e:k=j;·subst e;simp[show k<vs.length by omega]
  ·rw[if_neg e,h2];simp only[List.mem_append,List.mem_singleton];constructor;·exact .inl
   ·rintro (h3|h3);·exact h3
    ·omega
 ·have:=count_set vs k (by omega) hf;have:=h.2.2;simp only[List.length_append,List.length_cons,List.length_nil]
  omega
theorem dq.len{n:Nat}{vs:List Bool}{l:List Int}(h:dq n vs l):l.length<=n:=by have:=h.2.2;omega
theorem az{N:List Nv}{r:Int}(h:cB (bE N r)):1<=r/\r<=N.length:=eU (by unfold cB at h;omega)
theorem w8{L:List aQ}{r:Int}(h:1<=r/\r<=L.length):((aB L r).nd.brA,aH (aB L r).xs)∈aN L:=by unfold aB;rw[if_pos h];exact Fv (by omega)
theorem tz{L:List aQ}{r:Int}(h:1<=r/\r<=L.length):((aB L r).nd.prA,dF (aB L r).ys)∈aN L:=by unfold aB;rw[if_pos h];exact Ge (by omega)
theorem qo(L:List aQ)(r:Int):(bE (L.map aQ.c) r).xs=(aB L r).xs:=by rw[dH];rfl
theorem yt{L:List aQ}{cs:List Int}{c r:Int}(h:kT (L.map aQ.c) cs c=some r):∃k:Nat,r=((k+1:Nat):Int)/\k<L.length:=by
 unfold kT at h;split at h;·rename_i hk;cases h;have:=eU (N:=L.map aQ.c) (i:=sL (L.map aQ.c) cs c) (by omega);rw[List.length_map] at this;exact⟨(sL (L.map aQ.c) cs c-1).toNat,by omega,by omega⟩
 ·cases h
end
section
structure Pl where
 i:Int
 m:Int
 a:Int
 lv:Nat
 way:List Int
def rY(b:Nat):Nat->List Int
 | 0=>[]
 | k+1=>rY b k++(if b.testBit k then [(k:Int)] else [])
def uY(N:List Nv)(f:Int->List Int->List Int->Option (List Pl×List Pr))(way idx:List Int):List Int->Nat->List Int->Option (List Pl×List Pr)
 | [],_,_=>some ([],[])
 | b::r,j,s=>if(bE N b).kind=4 then(uY N f way idx r (j+1) s).map λ q=>(q.1,((bE N b).key,(bE N b).val)::q.2)
  else if(bE N b).kind=2 then(f b (way++[idx.getD j 0]) s).bind λ p=>(uY N f way idx r (j+1) (s++p.1.map Pl.i)).map λ q=>(p.1++q.1,p.2++q.2)
  else none
def Bb(N:List Nv)(cs:List Int):Nat->Int->Nat->Int->List Int->List Int->Option (List Pl×List Pr)
 | 0,_,_,_,_,_=>none
 | n+1,a,lv,i,way,s=>if i∈s then none else(gQ N cs i).bind λ m =>
  if(bE N m).kind=5∨(bE N m).kind=6 then some ([⟨i,m,a,lv,way⟩],qM (bE N m))
  else(uY N (λ b w s=>Bb N cs n i (lv+1) b w s) way (rY (bE N m).bm.toNat 64) (bE N m).xs 0 (s++[i])).map λ q=>(⟨i,m,a,lv,way⟩::q.1,q.2)
end
section
variable{n m i:Nat}
theorem mL(h:n<18446744073709551616):IntKind.u64.wrap ((n:Nat):Int)=(n:Int):=by
 have h2:IntKind.u64.wrap (n:Int)=(n:Int)%18446744073709551616:=by simp[IntKind.wrap,IntKind.signed,IntKind.bits]
 omega
theorem Dc(n:Nat)(h:n<18446744073709551616):(BitVec.ofInt IntKind.u64.bits (n:Int)).toNat=n:=by show(BitVec.ofInt 64 (n:Int)).toNat=n;rw[BitVec.toNat_ofInt];omega
theorem pC(hn:n<18446744073709551616)(hm:m<18446744073709551616):pV .u64 (n:Int) (m:Int)=((n &&& m:Nat):Int):=by unfold pV;rw[BitVec.toNat_and,Dc n hn,Dc m hm];exact mL (Nat.lt_of_le_of_lt Nat.and_le_left hn)
theorem ti(hn:n<18446744073709551616)(hm:m<18446744073709551616):rOr .u64 (n:Int) (m:Int)=((n ||| m:Nat):Int):=by unfold rOr;rw[BitVec.toNat_or,Dc n hn,Dc m hm];exact mL (Nat.or_lt_two_pow (n:=64) hn hm)
theorem rl(hn:n<18446744073709551616)(hm:m<18446744073709551616):wh .u64 (n:Int) (m:Int)=((n ^^^ m:Nat):Int):=by unfold wh;rw[BitVec.toNat_xor,Dc n hn,Dc m hm];exact mL (Nat.xor_lt_two_pow (n:=64) hn hm)
theorem pA(hi:i<=64):pU .u64 (n:Int) (i:Int)=((n >>> i:Nat):Int):=by
 unfold pU;rw[Int.toNat_natCast,show min i IntKind.u64.bits=i from Nat.min_eq_left hi,Nat.shiftRight_eq_div_pow];have:(2:Int)^i=((2^i:Nat):Int):=by simp
 rw[this,Int.fdiv_eq_ediv_of_nonneg _ (bN _)];rfl
theorem Rt(hi:i<64):Vz .u64 1 (i:Int)=((2^i:Nat):Int):=by
 unfold Vz;rw[Int.toNat_natCast,show min i IntKind.u64.bits=i from Nat.min_eq_left (Nat.le_of_lt hi),Int.one_mul];have:(2:Int)^i=((2^i:Nat):Int):=by simp
 rw[this];refine mL ?_;have:=Nat.pow_lt_pow_right (a:=2) (by decide) hi;omega
def fQ(n:Nat):Nat->Nat
 | 0=>0
 | k+1=>fQ n k+if n.testBit k then 1 else 0
theorem As(n:Nat):∀k,fQ n k<=k
 | 0=>Nat.le_refl _
 | k+1=>by have:=As n k;simp only[fQ];split<;>omega
theorem Dd{n m:Nat}:∀{k:Nat},(∀i,i<k->n.testBit i=m.testBit i)->fQ n k=fQ m k
 | 0,_=>rfl
 | k+1,h=>by simp only[fQ];rw[Dd λ i hi=>h i (Nat.lt_succ_of_lt hi),h k (Nat.lt_succ_self k)]
theorem Yf(n:Nat)(a:Nat):∀k,fQ n (a+k)=fQ n a+fQ (n >>> a) k
 | 0=>rfl
 | k+1=>by rw[<- Nat.add_assoc];simp only[fQ,Yf n a k,Nat.testBit_shiftRight];omega
theorem lV{h l i:Nat}(hl:l<256):(256*h+l).testBit i=if i<8 then l.testBit i else h.testBit (i-8):=Nat.testBit_two_pow_mul_add h (i:=8) hl i
theorem pj{h l:Nat}(hl:l<256)(k:Nat):fQ (256*h+l) (8+k)=fQ l 8+fQ h k:=by
 rw[Yf];congr 1;·exact Dd λ i hi=>by rw[lV hl,if_pos hi]
 ·rw[Nat.shiftRight_eq_div_pow,show 2^8=256 from rfl];congr 1;omega
theorem Dv{a b c d:Nat}(hb:b<256)(hd:d<256):(256*a+b) &&& (256*c+d)=256*(a &&& c)+(b &&& d):=by
 have hbd:b &&& d<256:=Nat.lt_of_le_of_lt Nat.and_le_left hb;refine Nat.eq_of_testBit_eq λ i=>?_;rw[Nat.testBit_and,lV hb,lV hd,lV hbd];split;·rw[Nat.testBit_and]
 ·rw[Nat.testBit_and]
theorem Ll{a b s:Nat}(hb:b<256)(hs:s<=8):(256*a+b) >>> s=256*(a >>> s)+((a%2^s)*2^(8-s)+b >>> s):=by
 simp only[Nat.shiftRight_eq_div_pow];have h1:256=2^s*2^(8-s):=by rw[<- Nat.pow_add];rw[show s+(8-s)=8 by omega]
 have h2:=Nat.div_add_mod a (2^s);have hp:0<2^s:=Nat.two_pow_pos s;have h3:256*a+b=2^s*(2^(8-s)*a)+b:=by rw[h1,Nat.mul_assoc]
 rw[h3,Nat.mul_add_div hp];have h4:2^(8-s)*a=256*(a/2^s)+a%2^s*2^(8-s):=by
  conv=>lhs;rw[<- h2]
  rw[h1,Nat.mul_add,Nat.mul_comm (a%2^s),<- Nat.mul_assoc,Nat.mul_comm (2^(8-s)) (2^s)]
 omega
def lI(s:Nat)(m:Nat)(n:Nat):Nat:=((n >>> s) &&& m)+(n &&& m)
theorem yc{a b s d:Nat}(hb:b<256)(hs:s<=8)(hd:d<2^(8-s)):((a%2^s)*2^(8-s)+b >>> s) &&& d=(b >>> s) &&& d:=by
 have hbs:b >>> s<2^(8-s):=by rw[Nat.shiftRight_eq_div_pow];refine Nat.div_lt_of_lt_mul ?_;rw[<- Nat.pow_add,show s+(8-s)=8 by omega];exact hb
 refine Nat.eq_of_testBit_eq λ i=>?_;rw[Nat.testBit_and,Nat.testBit_and,Nat.mul_comm,Nat.testBit_two_pow_mul_add _ hbs];split;·rfl
 ·rename_i h;have:d.testBit i=false:=Nat.testBit_lt_two_pow (Nat.lt_of_lt_of_le hd (Nat.pow_le_pow_right (by decide) (by omega)));rw[this];simp
theorem Hg{s m a b d:Nat}(hb:b<256)(hs:s<=8)(hs0:0<s)(hd:d<2^(8-s)):lI s (256*m+d) (256*a+b)=256*lI s m a+lI s d b:=by
 have hd':d<256:=Nat.lt_of_lt_of_le hd (Nat.pow_le_pow_right (n:=2) (by decide) (show 8-s<=8 by omega));have hL:(a%2^s)*2^(8-s)+b >>> s<256:=by
  have h1:256=2^s*2^(8-s):=by rw[<- Nat.pow_add];rw[show s+(8-s)=8 by omega]
  have h2:a%2^s<2^s:=Nat.mod_lt _ (Nat.two_pow_pos s);have h3:b >>> s<2^(8-s):=by rw[Nat.shiftRight_eq_div_pow];refine Nat.div_lt_of_lt_mul ?_;rw[<- Nat.pow_add,show s+(8-s)=8 by omega];exact hb
  have h4:(a%2^s+1)*2^(8-s)<=2^s*2^(8-s):=Nat.mul_le_mul_right _ h2;rw[Nat.add_mul,Nat.one_mul] at h4;omega
 unfold lI;rw[Ll hb hs,Dv hL hd',Dv hb hd',yc hb hs hd];omega
def aAs(l:Nat):Nat:=(((lI 2 51 (lI 1 85 l)) >>> 4)+lI 2 51 (lI 1 85 l)) &&& 15
theorem um:∀l,l<256->lI 1 85 l<256/\lI 2 51 (lI 1 85 l)<256/\lI 2 51 (lI 1 85 l)%16<=4/\lI 2 51 (lI 1 85 l)/16<=4/\aAs l=fQ l 8:=by decide +kernel
def sU(d:Nat):Nat->Nat
 | 0=>0
 | k+1=>256*sU d k+d
theorem Ha:∀(k n:Nat),n<256^k ->
  ∃r,(∀q,q=(lI 2 (sU 51 k) (lI 1 (sU 85 k) n))->(((q >>> 4)+q) &&& sU 15 k)=r/\q<256^k/\q%16<=4)/\(∃ps:List Nat,ps.length=k/\(∀p∈ps,p<=8)/\r=ps.foldr (λ p acc=>p+256*acc) 0/\ps.sum=fQ n (8*k))
 | 0,n,h=>⟨0,λ q hq=>by
   have h0:n=0:=by simpa using h
   subst h0
   subst hq
   simp[lI,sU],[],rfl,by simp,rfl,by simp[fQ]⟩
 | k+1,n,h=>by
  have hl:n%256<256:=Nat.mod_lt _ (by decide)
  have hn:n=256*(n/256)+n%256:=(Nat.div_add_mod n 256).symm
  have hk:n/256<256^k:=by
   refine Nat.div_lt_of_lt_mul ?_
   rw[Nat.mul_comm,<- Nat.pow_succ];exact h
  obtain⟨r,h1,ps,h2,h3,h4,h5⟩:=Ha k (n/256) hk
  obtain⟨b1,b2,b3,b4,b5⟩:=um (n%256) hl
  obtain⟨q1,q2,q3⟩:=h1 _ rfl
  generalize hQ:lI 2 (sU 51 k) (lI 1 (sU 85 k) (n/256))=Q at *
  refine⟨256*r+fQ (n%256) 8,λ q hq=>?_,fQ (n%256) 8::ps,by simp[h2],?_,?_,?_⟩
  ·have e:q=256*Q+lI 2 51 (lI 1 85 (n%256)):=by
    rw[hq]
    have e0:lI 1 (sU 85 (k+1)) n=256*lI 1 (sU 85 k) (n/256)+lI 1 85 (n%256):=by
     have:=Hg (s:=1) (m:=sU 85 k) (a:=n/256) hl (by decide) (by decide) (show 85<2^(8-1) by decide)
     rw[<- hn] at this
     exact this
    rw[e0,<- hQ]
    exact Hg (s:=2) (m:=sU 51 k) b1 (by decide) (by decide) (show 51<2^(8-2) by decide)
   generalize hB:lI 2 51 (lI 1 85 (n%256))=B at *
   have hones:((B >>> 4)+B) &&& 15=fQ (n%256) 8:=by rw[<- b5,aAs,hB]
   have e4:q >>> 4=256*(Q >>> 4)+((Q%16)*16+B >>> 4):=by rw[e];exact Ll (s:=4) b2 (by decide)
   have eB:B >>> 4=B/16:=by rw[Nat.shiftRight_eq_div_pow]
   have hlow:(Q%16)*16+B >>> 4+B<256:=by rw[eB];omega
   have hsum:q >>> 4+q=256*(Q >>> 4+Q)+((Q%16)*16+B >>> 4+B):=by rw[e4,e];omega
   refine⟨?_,?_,?_⟩
   ·rw[hsum]
    show(256*(Q >>> 4+Q)+_) &&& (256*sU 15 k+15)=_
    rw[Dv hlow (by decide),q1,<- hones]
    congr 1
    rw[Nat.and_two_pow_sub_one_eq_mod _ 4,Nat.and_two_pow_sub_one_eq_mod _ 4]
    omega
   ·rw[e,Nat.pow_succ];omega
   ·rw[e];omega
  ·intro p hp
   rcases List.mem_cons.1 hp with rfl|hp
   ·exact As _ 8
   ·exact h3 p hp
  ·simp only[List.foldr_cons,<- h4];omega
  ·rw[List.sum_cons,h5]
   conv=>rhs;rw[hn]
   rw[show 8*(k+1)=8+8*k by omega,pj hl]
end
section
variable{x a b r t1 t2 t3 p0 p1 p2 t4 t5 t6 t7 p3 p4 p5 p6 p7:Nat}
theorem aEt(ha:a<256)(h:x=a+256*b):x/256=b:=by omega
theorem aEM(ha:a<65536)(h:x=a+65536*b):x/65536=b:=by omega
theorem aEr(ha:a<4294967296)(h:x=a+4294967296*b):x/4294967296=b:=by omega
theorem bnd{t p s B:Nat}(e:t=p+256*s)(hp:p<=8)(hs:s<=B):t<=8+256*B:=by omega
theorem fa(e0:r=p0+256*t1)(e1:t1=p1+256*t2)(e2:t2=p2+256*t3):r+t1=((p0+p1)+256*(p1+p2))+65536*(t2+t3):=by omega
theorem ca(g0:p0<=8)(g1:p1<=8)(g2:p2<=8):(p0+p1)+256*(p1+p2)<65536:=by omega
theorem fb0(e2:t2=p2+256*t3)(e3:t3=p3+256*t4)(e4:t4=p4+256*t5)(e5:t5=p5+256*t6)(e6:t6=p6+256*t7):t2+t3+t4+t5=(p2+p3+p4+p5)+256*(p3+p4+p5+p6)+65536*(t4+t5+t6+t7):=by subst e6;omega
theorem fb(f4:r+t1=((p0+p1)+256*(p1+p2))+65536*(t2+t3))(e2:t2=p2+256*t3)(e3:t3=p3+256*t4)(e4:t4=p4+256*t5)(e5:t5=p5+256*t6)(e6:t6=p6+256*t7) :
  r+t1+(t2+t3)=((p0+p1+p2+p3)+256*(p1+p2+p3+p4)+65536*(p2+p3+p4+p5)+16777216*(p3+p4+p5+p6))+4294967296*(t4+t5+t6+t7):=by
 have h1:=fb0 e2 e3 e4 e5 e6;have h2:t2+t3=(p2+p3)+256*(t3+t4):=by clear h1 f4 e4 e5 e6;omega
 have h3:t3+t4=(p3+p4)+256*(t4+t5):=by clear h1 h2 f4 e2 e5 e6;omega
 clear e2 e3 e4 e5 e6;omega
theorem cb(g0:p0<=8)(g1:p1<=8)(g2:p2<=8)(g3:p3<=8)(g4:p4<=8)(g5:p5<=8)(g6:p6<=8):(p0+p1+p2+p3)+256*(p1+p2+p3+p4)+65536*(p2+p3+p4+p5)+16777216*(p3+p4+p5+p6)<4294967296:=by omega
theorem fc(b0:r<=8+256*(8+256*(8+256*(8+256*(8+256*(8+256*(8+256*8)))))))(b1:t1<=8+256*(8+256*(8+256*(8+256*(8+256*(8+256*8)))))):r+t1<9223372036854775808:=by omega
theorem fd(b0:r<=8+256*(8+256*(8+256*(8+256*(8+256*(8+256*(8+256*8)))))))(b1:t1<=8+256*(8+256*(8+256*(8+256*(8+256*(8+256*8))))))(b2:t2<=8+256*(8+256*(8+256*(8+256*(8+256*8)))))(b3:t3<=8+256*(8+256*(8+256*(8+256*8)))):r+t1+(t2+t3)<9223372036854775808:=by omega
theorem fe(g1:p1<=8)(g2:p2<=8)(g3:p3<=8)(g4:p4<=8)(g5:p5<=8)(g6:p6<=8)(b4:t4<=8+256*(8+256*(8+256*8)))(b5:t5<=8+256*(8+256*8))(b6:t6<=8+256*8)(b7:t7<=8) :
  (p1+p2+p3+p4)+256*(p2+p3+p4+p5)+65536*(p3+p4+p5+p6)+16777216*(t4+t5+t6+t7)+(t5+t6+t7)<36028797018963968:=by omega
theorem ff(e4:t4=p4+256*t5)(e5:t5=p5+256*t6)(e6:t6=p6+256*t7)(e7:t7=p7) :
  ((p0+p1+p2+p3)+256*(p1+p2+p3+p4)+65536*(p2+p3+p4+p5)+16777216*(p3+p4+p5+p6))+4294967296*(t4+t5+t6+t7)+(t4+t5+t6+t7) =
   (p0+p1+p2+p3+p4+p5+p6+p7)+256*((p1+p2+p3+p4)+256*(p2+p3+p4+p5)+65536*(p3+p4+p5+p6)+16777216*(t4+t5+t6+t7)+(t5+t6+t7)):=by
 have h:t4+t5+t6+t7=(p4+p5+p6+p7)+256*(t5+t6+t7):=by omega
 generalize t4+t5+t6+t7=s at *;clear e4 e5 e6 e7;omega
theorem qs(g0:p0<=8)(g1:p1<=8)(g2:p2<=8)(g3:p3<=8)(g4:p4<=8)(g5:p5<=8)(g6:p6<=8)(g7:p7<=8)(e0:r=p0+256*t1)(e1:t1=p1+256*t2)(e2:t2=p2+256*t3)(e3:t3=p3+256*t4)(e4:t4=p4+256*t5)(e5:t5=p5+256*t6)(e6:t6=p6+256*t7)(e7:t7=p7) :
  r+r/256<9223372036854775808/\(r+r/256)+(r+r/256)/65536<9223372036854775808/\∃K,K<36028797018963968/\((r+r/256)+(r+r/256)/65536)+((r+r/256)+(r+r/256)/65536)/4294967296=(p0+p1+p2+p3+p4+p5+p6+p7)+256*K:=by
 have b7:t7<=8:=by rw[e7];exact g7
 have b6:=bnd e6 g6 b7;have b5:=bnd e5 g5 b6;have b4:=bnd e4 g4 b5;have b3:=bnd e3 g3 b4;have b2:=bnd e2 g2 b3;have b1:=bnd e1 g1 b2;have b0:=bnd e0 g0 b1;have f4:r+t1=((p0+p1)+256*(p1+p2))+65536*(t2+t3):=fa e0 e1 e2;have c4:(p0+p1)+256*(p1+p2)<65536:=ca g0 g1 g2;have f5:r+t1+(t2+t3)=((p0+p1+p2+p3)+256*(p1+p2+p3+p4)+65536*(p2+p3+p4+p5)+16777216*(p3+p4+p5+p6))+4294967296*(t4+t5+t6+t7):=fb f4 e2 e3 e4 e5 e6;have c5:=cb g0 g1 g2 g3 g4 g5 g6;rw[aEt (Nat.lt_of_le_of_lt g0 (by decide)) e0,aEM c4 f4,aEr c5 f5];refine⟨fc b0 b1,fd b0 b1 b2 b3,(p1+p2+p3+p4)+256*(p2+p3+p4+p5)+65536*(p3+p4+p5+p6)+16777216*(t4+t5+t6+t7)+(t5+t6+t7),?_,?_⟩;·exact fe g1 g2 g3 g4 g5 g6 b4 b5 b6 b7
 ·rw[f5];exact ff e4 e5 e6 e7
end
section
theorem aBD{c K:Nat}(hc:c<=64)(hK:K<36028797018963968):pV .i64 (IntKind.i64.wrap ((c+256*K:Nat):Int)) 127=(c:Int):=by
 rw[wrap_i64 (by omega) (by omega)];unfold pV;have h1:(BitVec.ofInt IntKind.i64.bits ((c+256*K:Nat):Int)).toNat=c+256*K:=by show(BitVec.ofInt 64 ((c+256*K:Nat):Int)).toNat=_;rw[BitVec.toNat_ofInt];omega
 have h2:(BitVec.ofInt IntKind.i64.bits 127).toNat=127:=by decide
 rw[BitVec.toNat_and,h1,h2,show(127:Nat)=2^7-1 from rfl,Nat.and_two_pow_sub_one_eq_mod];have h3:(c+256*K)%2^7=c:=by omega
 rw[h3];exact wrap_i64 (by omega) (by omega)
theorem nT{n:Nat}(hn:n<18446744073709551616):wG (n:Int)=((fQ n 64:Nat):Int):=by
 obtain⟨r,h1,ps,h2,h3,h4,h5⟩:=Ha 8 n hn;obtain⟨q1,q2,_⟩:=h1 _ rfl;match ps,h2 with
 | [p0,p1,p2,p3,p4,p5,p6,p7],_=>
  simp only[List.mem_cons,List.not_mem_nil,or_false,forall_eq_or_imp,forall_eq] at h3;simp only[List.foldr_cons,List.foldr_nil] at h4;simp only[List.sum_cons,List.sum_nil] at h5;obtain⟨g0,g1,g2,g3,g4,g5,g6,g7⟩:=h3;have b5:lI 1 6148914691236517205 n<18446744073709551616:=by unfold lI;have h1:(n >>> 1) &&& 6148914691236517205<=6148914691236517205:=Nat.and_le_right;have h2:n &&& 6148914691236517205<=6148914691236517205:=Nat.and_le_right;omega
  have e1:∀m:Nat,m<18446744073709551616->IntKind.u64.wrap (pV .u64 (pU .u64 (m:Int) 1) 6148914691236517205+pV .u64 (m:Int) 6148914691236517205)=((lI 1 6148914691236517205 m:Nat):Int):=λ m hm=>by have hs:m >>> 1<18446744073709551616:=Nat.lt_of_le_of_lt (Nat.shiftRight_le _ _) hm;have r1:pU .u64 (m:Int) 1=((m >>> 1:Nat):Int):=pA (i:=1) (by decide);have a1:pV .u64 ((m >>> 1:Nat):Int) 6148914691236517205=(((m >>> 1) &&& 6148914691236517205:Nat):Int):=pC hs (m:=6148914691236517205) (by decide);have a2:pV .u64 (m:Int) 6148914691236517205=((m &&& 6148914691236517205:Nat):Int):=pC hm (m:=6148914691236517205) (by decide);rw[r1,a1,a2,<- Int.natCast_add];refine mL ?_;have h1:(m >>> 1) &&& 6148914691236517205<=6148914691236517205:=Nat.and_le_right;have h2:m &&& 6148914691236517205<=6148914691236517205:=Nat.and_le_right;omega
  have e2:∀m:Nat,m<18446744073709551616->IntKind.u64.wrap (pV .u64 (pU .u64 (m:Int) 2) 3689348814741910323+pV .u64 (m:Int) 3689348814741910323)=((lI 2 3689348814741910323 m:Nat):Int):=λ m hm=>by have hs:m >>> 2<18446744073709551616:=Nat.lt_of_le_of_lt (Nat.shiftRight_le _ _) hm;have r1:pU .u64 (m:Int) 2=((m >>> 2:Nat):Int):=pA (i:=2) (by decide);have a1:pV .u64 ((m >>> 2:Nat):Int) 3689348814741910323=(((m >>> 2) &&& 3689348814741910323:Nat):Int):=pC hs (m:=3689348814741910323) (by decide);have a2:pV .u64 (m:Int) 3689348814741910323=((m &&& 3689348814741910323:Nat):Int):=pC hm (m:=3689348814741910323) (by decide);rw[r1,a1,a2,<- Int.natCast_add];refine mL ?_;have h1:(m >>> 2) &&& 3689348814741910323<=3689348814741910323:=Nat.and_le_right;have h2:m &&& 3689348814741910323<=3689348814741910323:=Nat.and_le_right;omega
  have m5:sU 85 8=6148914691236517205:=by decide
  have m3:sU 51 8=3689348814741910323:=by decide
  have mf:sU 15 8=1085102592571150095:=by decide
  rw[m5,m3] at q1 q2;rw[mf] at q1;unfold wG;simp only[];rw[e1 n hn,e2 _ b5];generalize lI 2 3689348814741910323 (lI 1 6148914691236517205 n)=Q at *;have hQ:Q<18446744073709551616:=q2;have hr:r<18446744073709551616:=by rw[<- q1];exact Nat.lt_of_le_of_lt Nat.and_le_right (by decide)
  have e3:pV .u64 (IntKind.u64.wrap (pU .u64 (Q:Int) 4+(Q:Int))) 1085102592571150095=(r:Int):=by
   have r1:pU .u64 (Q:Int) 4=((Q >>> 4:Nat):Int):=pA (i:=4) (by decide);rw[r1,<- Int.natCast_add];have h2:IntKind.u64.wrap ((Q >>> 4+Q:Nat):Int)=(((Q >>> 4+Q)%18446744073709551616:Nat):Int):=by
    have:IntKind.u64.wrap ((Q >>> 4+Q:Nat):Int)=((Q >>> 4+Q:Nat):Int)%18446744073709551616:=by simp[IntKind.wrap,IntKind.signed,IntKind.bits]
    rw[this];omega
   rw[h2];have a1:=pC (n:=(Q >>> 4+Q)%18446744073709551616) (m:=1085102592571150095) (Nat.mod_lt _ (by decide)) (by decide);refine a1.trans ?_;rw[<- q1];congr 1;refine Nat.eq_of_testBit_eq λ i=>?_;rw[Nat.testBit_and,Nat.testBit_and,show(18446744073709551616:Nat)=2^64 from rfl,Nat.testBit_mod_two_pow];by_cases hi:i<64;·simp[hi]
   ·have:(1085102592571150095:Nat).testBit i=false:=Nat.testBit_lt_two_pow (Nat.lt_of_lt_of_le (by decide:(1085102592571150095:Nat)<2^64) (Nat.pow_le_pow_right (by decide) (by omega)));rw[this];simp
  rw[e3];have s1:∀m:Nat,pU .u64 (m:Int) 8=((m/256:Nat):Int):=λ m=>by have:pU .u64 (m:Int) 8=((m >>> 8:Nat):Int):=pA (i:=8) (by decide);rw[this,Nat.shiftRight_eq_div_pow]
  have s2:∀m:Nat,pU .u64 (m:Int) 16=((m/65536:Nat):Int):=λ m=>by have:pU .u64 (m:Int) 16=((m >>> 16:Nat):Int):=pA (i:=16) (by decide);rw[this,Nat.shiftRight_eq_div_pow]
  have s3:∀m:Nat,pU .u64 (m:Int) 32=((m/4294967296:Nat):Int):=λ m=>by have:pU .u64 (m:Int) 32=((m >>> 32:Nat):Int):=pA (i:=32) (by decide);rw[this,Nat.shiftRight_eq_div_pow]
  have w64:∀m:Nat,m<9223372036854775808->IntKind.u64.wrap ((m:Nat):Int)=(m:Int):=λ m hm=>mL (by omega)
  have hs:fQ n 64=p0+p1+p2+p3+p4+p5+p6+p7:=by rw[show(64:Nat)=8*8 from rfl,<- h5];omega
  have hc:=As n 64;have hx:=qs (t7:=p7) (t6:=p6+256*p7) (t5:=p5+256*(p6+256*p7)) (t4:=p4+256*(p5+256*(p6+256*p7))) (t3:=p3+256*(p4+256*(p5+256*(p6+256*p7)))) (t2:=p2+256*(p3+256*(p4+256*(p5+256*(p6+256*p7))))) (t1:=p1+256*(p2+256*(p3+256*(p4+256*(p5+256*(p6+256*p7)))))) (r:=r) g0 g1 g2 g3 g4 g5 g6 g7 (by rw[h4];rfl) rfl rfl rfl rfl rfl rfl rfl;clear h4 q1 q2 e3 e1 e2 b5 h1 hr hQ hn m5 m3 mf h5;obtain⟨x4,x5,K,hK,x6⟩:=hx;rw[s1,<- Int.natCast_add,w64 _ x4,s2,<- Int.natCast_add,w64 _ x5,s3,<- Int.natCast_add,x6,<- hs,w64 _ (by omega)];exact aBD hc hK
end
section
def oZ(n:Nat)(i:Int):Bool:=decide (0<=i)&&(decide (i<64)&&n.testBit i.toNat)
theorem tq(n:Nat){i:Int}(h:i<0):oZ n i=false:=by simp[oZ];omega
theorem Yj(n:Nat){i:Int}(h:64<=i):oZ n i=false:=by simp[oZ];omega
theorem uJ(n:Nat){i:Int}(h0:0<=i)(h1:i<64):oZ n i=n.testBit i.toNat:=by simp[oZ,h0,h1]
theorem Yx{n:Nat}(hn:n<18446744073709551616){i:Int}(h0:0<=i)(h1:i<64):(pV .u64 (pU .u64 (n:Int) i) 1==1)=oZ n i:=by
 obtain⟨k,rfl⟩:=Int.eq_ofNat_of_zero_le h0;rw[uJ n h0 h1,pA (by omega)];have h2:pV .u64 ((n >>> k:Nat):Int) 1=(((n >>> k) &&& 1:Nat):Int):=pC (Nat.lt_of_le_of_lt (Nat.shiftRight_le _ _) hn) (m:=1) (by decide);rw[h2];simp only[Int.toNat_natCast,Nat.testBit,Nat.and_comm 1]
 rw[Nat.and_one_is_mod];rcases Nat.mod_two_eq_zero_or_one (n >>> k) with h|h<;>rw[h]<;>rfl
def mM(n:Nat)(i:Int):Nat:=fQ n (min i.toNat 64)
theorem j8(n:Nat){i:Nat}:∀k,i<=k->fQ (n &&& (2^i-1)) k=fQ n i:=by
 intro k hk;obtain⟨d,rfl⟩:=Nat.exists_eq_add_of_le hk;clear hk;induction d with
 | zero=>exact Dd λ j hj=>by rw[Nat.testBit_and,Nat.testBit_two_pow_sub_one];simp;intro _;omega
 | succ d ih=>rw[<- Nat.add_assoc];simp only[fQ,ih,Nat.testBit_and,Nat.testBit_two_pow_sub_one];simp
theorem w5{n:Nat}(hn:n<18446744073709551616){i:Int}(h0:0<i)(h1:i<64):wG (pV .u64 (n:Int) (IntKind.u64.wrap (Vz .u64 1 i-1)))=((mM n i:Nat):Int):=by
 obtain⟨k,rfl⟩:=Int.eq_ofNat_of_zero_le (Int.le_of_lt h0);have hp:=Nat.pow_lt_pow_right (a:=2) (by decide) (show k<64 by omega);have hp0:=Nat.two_pow_pos k;rw[Rt (by omega)];have e:((2^k:Nat):Int)-1=((2^k-1:Nat):Int):=by omega
 rw[e,mL (by omega),pC hn (by omega),nT (Nat.lt_of_le_of_lt Nat.and_le_left hn),j8 n 64 (by omega)];unfold mM;rw[Int.toNat_natCast,Nat.min_eq_left (by omega)]
def dY(n:Nat)(i:Int):Nat:=if 0<=i/\i<64 then n ||| 2^i.toNat else n
def wB(n:Nat)(i:Int):Nat:=if 0<=i/\i<64 then n ^^^ (n &&& 2^i.toNat) else n
theorem px{n:Nat}(hn:n<18446744073709551616){i:Int}(h0:0<=i)(h1:i<64):rOr .u64 (n:Int) (Vz .u64 1 i)=((dY n i:Nat):Int):=by obtain⟨k,rfl⟩:=Int.eq_ofNat_of_zero_le h0;have hp:=Nat.pow_lt_pow_right (a:=2) (by decide) (show k<64 by omega);rw[Rt (by omega),ti hn (by omega),dY,if_pos ⟨h0,h1⟩];rfl
theorem A9{n:Nat}(hn:n<18446744073709551616)(i:Int):dY n i<18446744073709551616:=by
 unfold dY;split;·rename_i h;have hp:=Nat.pow_lt_pow_right (a:=2) (by decide) (show i.toNat<64 by omega);exact Nat.or_lt_two_pow (n:=64) hn hp
 ·exact hn
end
end Go.Ct
namespace Go.Proofs.YtbajmaoegmbfgaaGreat
open Go.Proofs.Tryz
open Go.RowKit Go.Ct
section
variable{n:Nat}
theorem H3(hn:n<18446744073709551616)(i:Int)(w:World):Calls prog 195 #[.int .u64 (n:Int),.int .i64 i] w λ e w'=>e=.returned (.bool (oZ n i))/\St w [] [] w':=by
 refine enter func195 ntmps195 rfl rfl (SF.s0 w) ?_;simp only[cC];refine Kb5 ?_;refine lQ ?_;refine aA ?_;(refine eE 7 (λ g7=>?_) (λ g7=>?_)<;>refine Ka0 ?_);all_goals (refine xz ?_;refine aA ?_)
 all_goals (first|refine aI ?_|(refine eE 11 (λ g11=>?_) (λ g11=>?_)<;>refine Ka0 ?_))
 all_goals (refine Ka0 ?_;(first|refine aI ?_|(refine aF ?_;refine gX ?_));(first|refine aI ?_|(refine aF ?_;refine Ei ?_));(first|refine aI ?_|(refine aF ?_;refine Cf ?_));refine vY ?_;refine J1 ?_)
 all_goals
 refine aS results195 (λ w hw=>?_);first|(rw[tq n (by omega)];exact⟨rfl,hw.done⟩)|(rw[Yj n (by omega)];exact⟨rfl,hw.done⟩)|(rw[<- Yx hn (by omega) (by omega)];exact⟨rfl,hw.done⟩)
theorem Y7(i:Int)(w:World):Calls prog 232 #[.int .i64 i] w λ e w'=>e=.returned (.bool (decide (0<=i/\i<64)))/\St w [] [] w':=by
 refine enter func232 ntmps232 rfl rfl (SF.s0 w) ?_;simp only[cC];refine Kb5 ?_;refine lQ ?_;refine aA ?_;(refine eE 5 (λ g5=>?_) (λ g5=>?_)<;>refine Ka0 ?_);all_goals (refine xz ?_;refine J1 ?_)
 all_goals
 refine aS results232 (λ w hw=>?_);first|(rw[decide_eq_false (by omega)];exact⟨rfl,hw.done⟩)|(rw[show decide (0<=i/\i<64)=decide (i<64) by simp;omega];exact⟨rfl,hw.done⟩)
theorem aC5(hn:n<18446744073709551616)(i:Int)(w:World):Calls prog 191 #[.int .u64 (n:Int),.int .i64 i] w λ e w'=>e=.returned (.bool (oZ n i))/\St w [] [] w':=by
 refine enter func191 ntmps191 rfl rfl (SF.s0 w) ?_;simp only[cC];refine Kb5 ?_;refine aP (cV (hc:=λ w1 hw=>Y7 i w1)) (λ x6=>?_);refine aA ?_;(refine eE 7 (λ g7=>?_) (λ g7=>?_)<;>refine Ka0 ?_);all_goals (refine Ka0 ?_;(first|refine aI ?_|(refine aF ?_;refine gX ?_));(first|refine aI ?_|(refine aF ?_;refine Ei ?_));(first|refine aI ?_|(refine aF ?_;refine Cf ?_));refine vY ?_;refine J1 ?_)
 all_goals
 refine aS results191 (λ w hw=>?_);first|(rw[<- Yx hn (by omega) (by omega)];exact⟨rfl,hw.done⟩)|(rw[show oZ n i=false by simp[oZ];omega];exact⟨rfl,hw.done⟩)
theorem Sw(hn:n<18446744073709551616)(i:Int)(w:World):Calls prog 207 #[.int .u64 (n:Int),.int .i64 i] w λ e w'=>e=.returned (.int .i64 ((mM n i:Nat):Int))/\St w [] [] w':=by
 refine enter func207 ntmps207 rfl rfl (SF.s0 w) ?_;simp only[cC];refine cU ?_;refine Je ?_;refine Fq ?_;refine gF [5,6,7,8,9,10,11,12,13,14,15,16,17,18,19,20] (λ k=>[(5,.int .i64 ((fQ n k:Nat):Int)),(6,.int .i64 ((k:Nat):Int))]) (λ k=>k<=64/\(k:Int)<=max i 0) (λ k=>64-k) (0) (⟨by decide,by omega⟩) ?_ (λ k f hx=>?_);·repeat (first|exact bF _|refine aX (by exact rfl) ?_)
 refine K0a ?_;have hcl:=As n k;refine jS ?_;refine A1 ?_;(refine eE 9 (λ g9=>?_) (λ g9=>?_)<;>refine Ka0 ?_);all_goals (refine Ka0 ?_;refine xz ?_;refine aG ?_)
 all_goals
 refine bD (λ c13=>?_) (λ c13=>?_)
 ·try exact nv c13
  all_goals (refine rT ?_;refine jD ?_;refine aP (cV (hc:=λ w1 hw=>H3 hn (k:Int) w1)) (λ x18=>?_);refine aG ?_)
  all_goals
   refine bD (λ c18=>?_) (λ c18=>?_)
   ·refine vF ?_;refine Kb6 ?_;refine eG (k+1) ?_ ?_ ?_;·omega
    ·repeat' (first|exact bF _|refine aX ?_ ?_)
     all_goals (first|exact rfl|(rw[uJ n (by omega) (by omega),Int.toNat_natCast] at *;conv=>{lhs;whnf};congr 2;simp only[fQ];simp_all;done))
    ·omega
   ·refine Kc3 ?_;refine eG (k+1) ?_ ?_ ?_;·omega
    ·repeat' (first|exact bF _|refine aX ?_ ?_)
     all_goals (first|exact rfl|(rw[uJ n (by omega) (by omega),Int.toNat_natCast] at *;conv=>{lhs;whnf};congr 2;simp only[fQ];simp_all;done))
    ·omega
 ·all_goals (refine bR rfl ?_;refine Ka4 ?_)
  all_goals
   refine aS results207 (λ w hw=>?_);have:mM n i=fQ n k:=by unfold mM;congr 1;omega
   rw[this];exact⟨rfl,hw.done⟩
theorem Vk(hn:n<18446744073709551616)(w:World):Calls prog 170 #[.int .u64 (n:Int)] w λ e w'=>e=.returned (.int .i64 ((fQ n 64:Nat):Int))/\St w [] [] w':=by refine enter func170 ntmps170 rfl rfl (SF.s0 w) ?_;simp only[cC];refine Kb5 ?_;refine aP (cV (hc:=λ w1 hw=>Sw hn 64 w1)) (λ x4=>?_);refine J1 ?_;refine aS results170 (λ w hw=>?_);exact⟨rfl,hw.done⟩
theorem lh(hn:n<18446744073709551616)(w:World):Calls prog 198 #[.int .u64 (n:Int)] w λ e w'=>e=.returned (.int .i64 ((fQ n 64:Nat):Int))/\St w [] [] w':=by rw[<- nT hn];exact Ng _ w
theorem aDo(hn:n<18446744073709551616)(i:Int)(w:World):Calls prog 192 #[.int .u64 (n:Int),.int .i64 i] w λ e w'=>e=.returned (.int .i64 ((mM n i:Nat):Int))/\St w [] [] w':=by
 refine enter func192 ntmps192 rfl rfl (SF.s0 w) ?_;simp only[cC];refine Ka7 ?_;refine xR ?_;refine aG ?_;refine bD (λ c6=>?_) (λ c6=>?_);·refine cU ?_;refine aS results192 (λ w hw=>?_);(rw[show mM n i=0 by unfold mM;rw[show min i.toNat 64=0 by omega];rfl];exact⟨rfl,hw.done⟩)
 ·refine lB ?_;refine J2 ?_;refine lQ ?_;refine aG ?_;refine bD (λ c8=>?_) (λ c8=>?_);·refine J2 ?_;(refine aP (by exact cV (hc:=λ w1 hw=>lh hn w1)) (λ x10=>?_));refine J1 ?_;refine aS results192 (λ w hw=>?_);(rw[show mM n i=fQ n 64 by unfold mM;congr 1;omega];exact⟨rfl,hw.done⟩)
  ·refine Bo ?_;refine gX ?_;refine aAi ?_;refine aCX ?_;refine Cf ?_;(refine aP (by exact cV (hc:=λ w1 hw=>Ng (pV .u64 (n:Int) (IntKind.u64.wrap (Vz .u64 1 i-1))) w1)) (λ x17=>?_));refine J1 ?_;refine aS results192 (λ w hw=>?_);(rw[<- w5 hn (by omega) (by omega)];exact⟨rfl,hw.done⟩)
theorem nU(hn:n<18446744073709551616)(i:Int)(w:World):Calls prog 254 #[.int .u64 (n:Int),.int .i64 i] w λ e w'=>e=.returned (.int .u64 ((dY n i:Nat):Int))/\St w [] [] w':=by
 refine enter func254 ntmps254 rfl rfl (SF.s0 w) ?_;simp only[cC];refine Ka7 ?_;refine A1 ?_;(refine eE 7 (λ g7=>?_) (λ g7=>?_)<;>refine Ka0 ?_);all_goals (refine Ka8 ?_)
 all_goals
 refine bD (λ c10=>?_) (λ c10=>?_)
 ·all_goals (refine Ka4 ?_)
  all_goals refine aS results254 (λ w hw=>?_);(rw[show dY n i=n by unfold dY;rw[if_neg (by omega)]];exact⟨rfl,hw.done⟩)
 ·try exact nv c10
  all_goals (refine Bo ?_;refine gX ?_;refine aAi ?_;refine aEA ?_;refine J1 ?_)
  all_goals refine aS results254 (λ w hw=>?_);(rw[<- px hn (by omega) (by omega)];exact⟨rfl,hw.done⟩)
end
end Go.Proofs.YtbajmaoegmbfgaaGreat
namespace Go.Ct
section
theorem G9(b:Nat):∀k,(rY b k).length=fQ b k
 | 0=>rfl
 | k+1=>by simp only[rY,List.length_append,G9 b k,fQ];split<;>simp_all
end
end Go.Ct
namespace Go.Proofs.YtbajmaoegmbfgaaGreat
open Go Go.RowKit Go.Ct
section
theorem Mi{n:Nat}(hn:n<18446744073709551616)(w:World):Calls Tryz.prog 156 #[.int .u64 (n:Int)] w λ e w'=>∃x:Option Addr×Nat,e=.returned (.slice x.1 (rY n 64).length x.2)/\True/\SF w [] [] [] [(x.1,aH (rY n 64))] [] w':=by
 refine enter Tryz.func156 Tryz.ntmps156 rfl rfl ((SF.s0 w).kQ 3 1) ?_;simp only[cC];refine cU ?_;refine Je ?_;refine Fq ?_;refine mN [3,4,5,6,7,8,9,10,11,12,13,14,15] (λ y:Nat×Option Addr×Nat=>[(3,.slice y.2.1 (rY n y.1).length y.2.2),(4,.int .i64 ((y.1:Nat):Int))]) (λ y=>y.1<=64) (λ _=>_) (λ _=>_) (λ y=>[⟨y.2.1,aH (rY n y.1),y.2.2,3,1⟩]) (λ y=>64-y.1) ((0,none,0)) (by decide) (λ y f hx=>?_);refine K0a ?_;have hcl:=As n y.1;have hil:=G9 n y.1;refine jS ?_;refine wF ?_;refine bD (λ c6=>?_) (λ c6=>?_)
 ·refine rT ?_;refine jD ?_;refine aP (cV (hc:=λ w1 hw=>H3 hn (y.1:Int) w1)) (λ x11=>?_);refine aG ?_;refine bD (λ c11=>?_) (λ c11=>?_)
  ·have e1:rY n (y.1+1)=rY n y.1++[(y.1:Int)]:=by rw[uJ n (by omega) (by omega),Int.toNat_natCast] at c11;simp only[rY,c11,if_true]
   refine Km ?_;refine fJ (λ x14=>?_);(refine fF (λ x15=>?_);try (refine eP (λ h15=>?_)));refine J1 ?_;refine Kb6 ?_;refine lR ((by exact(y.1+1,x15))) ?_ ?_ E0d ?_ (λ w hw=>by simp only[e1];exact hw.back);·omega
   ·repeat' (first|exact bF _|refine aX ?_ ?_)
    all_goals (first|exact rfl|(simp only[e1];(conv=>{lhs;whnf};simp;done)))
   ·(show y.1+1<=64;omega)
  ·have e1:rY n (y.1+1)=rY n y.1:=by rw[uJ n (by omega) (by omega),Int.toNat_natCast] at c11;simp only[rY,c11];simp
   refine Kc3 ?_;refine lR ((by exact(y.1+1,y.2))) ?_ ?_ E0d ?_ (λ w hw=>by simp only[e1];exact hw.back);·omega
   ·repeat' (first|exact bF _|refine aX ?_ ?_)
    all_goals (first|exact rfl|(simp only[e1];exact rfl))
   ·(show y.1+1<=64;omega)
 ·refine K1t ?_;refine Ka4 ?_;refine aS Tryz.results156 (λ w hw=>?_);have e2:y.1=64:=by omega
  rw[e2] at hw ⊢;generalize rY n 64=B at hw ⊢;exact⟨y.2,rfl,trivial,SF.frz hw.bB⟩
theorem Jz{n:Nat}{b:Int}{ix:List Int}(hi:ix=rY n 64)(hn:n<18446744073709551616)(e:b=(n:Int))(w:World):Calls Tryz.prog 156 #[.int .u64 b] w λ e w'=>∃x:Option Addr×Nat,e=.returned (.slice x.1 ix.length x.2)/\True/\SF w [] [] [] [(x.1,aH ix)] [] w':=by rw[hi,e];with_reducible exact Mi hn w
end
end Go.Proofs.YtbajmaoegmbfgaaGreat
namespace Go.Ct
open Go Go.RowKit
section
structure A2 where
 p:Pl
 wp:Option Addr
 wc:Nat
def A2.cells(v:A2):List Value:=[.int .i64 v.p.i,.int .i64 v.p.m,.int .i64 v.p.a,.int .i64 ((v.p.lv:Nat):Int),.slice v.wp v.p.way.length v.wc]
def rX(l:List A2):List Value:=l.flatMap A2.cells
def Kl(l:List A2):Fr:=l.map λ v=>(v.wp,aH v.p.way)
theorem xZ:∀l:List A2,(rX l).length=l.length*5
 | []=>rfl
 | v::l=>by simp only[rX,List.flatMap_cons,List.length_append] at *;rw[show(List.flatMap A2.cells l).length=l.length*5 from xZ l];simp[A2.cells];omega
theorem Q4(l l2:List A2):rX (l++l2)=rX l++rX l2:=by simp[rX]
theorem Ca:∀l:List A2,(rX l).all (·.oneCell')=true
 | []=>rfl
 | v::l=>by simp only[rX,List.flatMap_cons,List.all_append];rw[show(List.flatMap A2.cells l).all (·.oneCell')=true from Ca l];rfl
section
variable{N:List Nv}{f:Int->List Int->List Int->Option (List Pl×List Pr)}{way idx xs s s2:List Int}{j:Nat}{r:List Pl×List Pr}
def Bu(N:List Nv)(f:Int->List Int->List Int->Option (List Pl×List Pr))(way idx xs s:List Int)(j:Nat)(tl:List Pl)(ps:List Pr):Prop :=
 uY N f way idx xs 0 s=(uY N f way idx (xs.drop j) j (s++tl.map Pl.i)).map λ q=>(tl++q.1,ps++q.2)
variable{tl:List Pl}{ps:List Pr}
theorem Bu.zero:Bu N f way idx xs s 0 [] []:=by unfold Bu;simp only[List.drop_zero,List.map_nil,List.append_nil,List.nil_append];cases uY N f way idx xs 0 s<;>rfl
theorem F6{xs:List Int}{j:Nat}(h:j<xs.length):xs.drop j=xs.getD j 0::xs.drop (j+1):=by rw[List.drop_eq_getElem_cons h,iX,List.getElem?_eq_getElem h];rfl
theorem Bu.single(h:Bu N f way idx xs s j tl ps)(hj:j<xs.length)(hk:(bE N (xs.getD j 0)).kind=4):Bu N f way idx xs s (j+1) tl (ps++[((bE N (xs.getD j 0)).key,(bE N (xs.getD j 0)).val)]):=by unfold Bu at h ⊢;rw[h,F6 hj];simp only[uY,hk,if_true];cases uY N f way idx (xs.drop (j+1)) (j+1) (s++tl.map Pl.i)<;>simp
theorem Bu.inner(h:Bu N f way idx xs s j tl ps)(hj:j<xs.length)(hk:(bE N (xs.getD j 0)).kind=2)(hf:f (xs.getD j 0) (way++[idx.getD j 0]) (s++tl.map Pl.i)=some r):Bu N f way idx xs s (j+1) (tl++r.1) (ps++r.2):=by
 unfold Bu at h ⊢;rw[h,F6 hj];have h4:¬(bE N (xs.getD j 0)).kind=4:=by omega
 simp only[uY,h4,hk,if_true,if_false,hf,Option.bind_some,List.map_append,List.append_assoc];cases uY N f way idx (xs.drop (j+1)) (j+1) (s++(tl.map Pl.i++r.1.map Pl.i))<;>simp
theorem Bu.fail(h:Bu N f way idx xs s j tl ps)(hj:j<xs.length)(hk:(bE N (xs.getD j 0)).kind=2)(hf:f (xs.getD j 0) (way++[idx.getD j 0]) (s++tl.map Pl.i)=none):uY N f way idx xs 0 s=none:=by
 unfold Bu at h;rw[h,F6 hj];have h4:¬(bE N (xs.getD j 0)).kind=4:=by omega
 simp only[uY,h4,hk,if_true,if_false,hf,Option.bind_none,Option.map_none,reduceCtorEq,show ¬((2:Int)=4) by decide]
theorem Bu.bad(h:Bu N f way idx xs s j tl ps)(hj:j<xs.length)(hk:(bE N (xs.getD j 0)).kind≠4)(hk2:(bE N (xs.getD j 0)).kind≠2):uY N f way idx xs 0 s=none:=by unfold Bu at h;rw[h,F6 hj];simp only[uY,hk,hk2,if_false,Option.map_none]
theorem Bu.done(h:Bu N f way idx xs s j tl ps)(hj:xs.length<=j):uY N f way idx xs 0 s=some (tl,ps):=by unfold Bu at h;rw[h,List.drop_eq_nil_of_le hj];simp[uY]
end
section
variable{N:List Nv}{cs:List Int}{a i m:Int}{lv n:Nat}{way s:List Int}
theorem Bw(h:i∈s):∀{n:Nat},Bb N cs n a lv i way s=none
 | 0=>rfl
 | _+1=>if_pos h
theorem S4(h:(gQ N cs i).isSome=false):∀{n:Nat},Bb N cs n a lv i way s=none
 | 0=>rfl
 | n+1=>by
  unfold Bb;cases hb:gQ N cs i with
  | none=>split<;>rfl
  | some m=>rw[hb] at h;cases h
theorem B3(h:¬i∈s)(h2:gQ N cs i=some m)(h3:(bE N m).kind=5∨(bE N m).kind=6):Bb N cs (n+1) a lv i way s=some ([⟨i,m,a,lv,way⟩],qM (bE N m)):=by unfold Bb;rw[if_neg h,h2,Option.bind_some,if_pos h3]
theorem Qk(h:¬i∈s)(h2:gQ N cs i=some m)(h3:¬((bE N m).kind=5∨(bE N m).kind=6)):Bb N cs (n+1) a lv i way s=(uY N (λ b w s=>Bb N cs n i (lv+1) b w s) way (rY (bE N m).bm.toNat 64) (bE N m).xs 0 (s++[i])).map λ q=>(⟨i,m,a,lv,way⟩::q.1,q.2):=by rw[Bb];rw[if_neg h,h2,Option.bind_some,if_neg h3]
end
end
end Go.Ct
