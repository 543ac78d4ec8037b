/- Proper states: the walk through the program's check. -/
import Derived.Test.YtbajmaoegmbfgaaGreatGAr5
import Derived.Test.YtbajmaoegmbfgaaGreatAuto
import Derived.Test.YtbajmaoegmbfgaaGreatGLst3
import Derived.Test.YtbajmaoegmbfgaaGreatGJoin

set_option linter.unusedSimpArgs false
set_option linter.unusedVariables false
namespace Go.Proofs.YtbajmaoegmbfgaaGreat
section
open Go.RowKit Go.Ct
set_option maxRecDepth 100000 in
theorem O2{L:List aY}{cs:List Int}{gen:Int}{pn pc:Option Addr}{cn cc:Nat}{w:World}(h:Bh w L cs pn pc)(hL:L.length<=274877906944)(hC:cs.length<=274877906944) :
    Calls Tryz.prog 117 #[.agg ⟨[.slice pn L.length cn,.slice pc cs.length cc,.int .i64 gen]⟩] w λ e w'=>∃r:Bool,e=.returned (.bool r)/\(r=true↔kJ L cs gen)/\St w [] [] w':=by
  refine enter Tryz.func117 Tryz.ntmps117 rfl rfl h.start ?_
  simp only[bY]
  refine J0 ?_;refine bN (λ x1=>?_);refine iT ?_;refine hJ ?_;refine dG ?_;refine G7 ?_
  (refine eM 14 (λ g14=>?_) (λ g14=>?_)<;>(first|refine aJ ?_|(refine aF ?_;refine aE ?_)))
  all_goals (refine zu ?_;refine aG ?_)
  all_goals
   refine bE (λ c18=>?_) (λ c18=>?_)
   · all_goals refine cQ ?_
     all_goals
      refine aT Tryz.results117 (λ w hw=>?_)
      exact⟨false,rfl,⟨(λ h=>nomatch h),λ hp=>by have h1:=hp.two;have h2:=hp.gen0;exfalso;omega⟩,hw.done⟩
   · try exact nv c18
     all_goals (refine lK ?_;refine hJ ?_;refine aB (Aq (k:=0) rf rf hY dH fin (by omega) (by omega)) rfl ?_;refine aE ?_;refine aB (F0 (q:=0) rf iA fin (by omega)) rfl ?_;refine pJ ?_;refine aA ?_)
     all_goals ((refine eM 25 (λ g25=>?_) (λ g25=>?_)<;>(first|refine aJ ?_|(refine aF ?_;refine aE ?_))))
     all_goals ((first|refine aJ ?_|(refine aF ?_;refine bR ?_));(first|refine aJ ?_|(refine aF ?_;refine aB (Aq (k:=1) rf rf hY dH fin (by omega) (by omega)) rfl ?_));(first|refine aJ ?_|(refine aF ?_;refine aE ?_));(first|refine aJ ?_|(refine aF ?_;refine aB (F0 (q:=1) rf iA fin (by omega)) rfl ?_));refine Q2 ?_;refine aG ?_)
     all_goals
      refine bE (λ c32=>?_) (λ c32=>?_)
      · all_goals refine cQ ?_
        all_goals
         refine aT Tryz.results117 (λ w hw=>?_)
         exact⟨false,rfl,⟨(λ h=>nomatch h),λ hp=>by have h1:=hp.m0;have h2:=hp.m1;exfalso;omega⟩,hw.done⟩
      · try exact nv c32
        all_goals (refine lK ?_;refine hJ ?_;refine dG ?_;refine A4 ?_;refine cO ?_)
        all_goals
         refine fG [2,4,36,37,38,39,40,41,42,43,44,45,46] (λ k=>[(36,.int .i64 ((k:Nat):Int))]) (λ k=>k<=cs.length/\∀i,i<k->Hn (cs.getD i 0) L.length) (λ k=>cs.length-k) (0) (⟨Nat.zero_le _,λ i hi=>absurd hi (Nat.not_lt_zero i)⟩) ?_ (λ k f hx=>?_)
         · repeat (first|exact bG _|refine bB (by exact rfl) ?_)
         dsimp only[gU,List.map,List.cons_append,List.nil_append]
         refine J0 ?_;refine xD ?_;refine aV ?_
         refine bE (λ c37=>?_) (λ c37=>?_)
         · refine qP ?_;refine J0 ?_;refine Yd ?_;refine J1 ?_;refine J2 ?_;refine My ?_;refine aQ (cV (hc:=λ w1 hw=>uM _ _ w1)) (λ x44=>?_);refine pA ?_
           refine bE (λ c45=>?_) (λ c45=>?_)
           · refine cQ ?_
             refine aT Tryz.results117 (λ w hw=>?_)
             exact⟨false,rfl,⟨(λ h=>nomatch h),λ hp=>absurd (hp.cells k (by omega)) (by assumption)⟩,hw.done⟩
           · refine nY ?_;refine Tb ?_;refine A4 ?_
             refine dV (k+1) ?_ ?_ ?_
             · omega
             · repeat' (first|exact bG _|refine bB ?_ ?_)
               exact rfl
             · exact⟨by omega,λ i hi=>by rcases Nat.lt_succ_iff_lt_or_eq.1 hi with h|rfl;exact hx.2 i h;assumption⟩
         · refine bM rfl ?_;refine hJ ?_;refine dG ?_;refine vW (λ x50=>?_);refine iT ?_;refine hJ ?_;refine dG ?_;refine A4 ?_;refine cO ?_
           have hcells:∀i,i<cs.length->Hn (cs.getD i 0) L.length:=λ i hi=>hx.2 i (by omega)
           clear hx
           refine oB [2,7,8,9,54,55,56,57,58,59,60,61,62,63,64,65,66,67,68,69,70,71,72,73,74,75,76,77,78,79,80,81,82,83,84,85,86,87,88,89,90,91,92,93,94,95,96,97,98,99,100,101,102,103] (λ y:Nat×List Bool=>[(54,.int .i64 ((y.1:Nat):Int))]) (λ y=>y.1<=L.length/\marks cs.length (L.take y.1)=some y.2/\∀i,i<y.1->nU gen L.length (L.getD i aY.zero)) (λ _=>_) (λ _=>_) (λ y=>[⟨some ⟨x50,0,none⟩,kN y.2,cs.length,4,1⟩]) (λ y=>L.length-y.1) ((0,List.replicate cs.length false)) (⟨Nat.zero_le _,rfl,λ i hi=>absurd hi (Nat.not_lt_zero i)⟩) (λ y f hx=>?_)
           dsimp only[gU,List.map,List.cons_append,List.nil_append]
           have hu:=I0 hx.2.1
           refine J0 ?_;refine xD ?_;refine aV ?_
           refine bE (λ c55=>?_) (λ c55=>?_)
           · refine qP ?_;refine J0 ?_;refine Yd ?_;refine aI (λ x7=>?_);refine J5 ?_;refine aV ?_;refine oV ?_;refine aC (c0 (V:=.bool) (hc:=λ w1 hw=>Jg (hw.mw h.fit (by omega)))) (λ x59 h59=>?_);refine Gh ?_
             (refine eM 61 (λ g61=>?_) (λ g61=>?_)<;>(first|refine aJ ?_|(refine aF ?_;refine aE ?_)))
             all_goals (refine A1 ?_;refine Iz ?_;refine aA ?_)
             all_goals (first|refine aJ ?_|(refine eM 68 (λ g68=>?_) (λ g68=>?_)<;>(first|refine aJ ?_|(refine aF ?_;refine bR ?_))))
             all_goals (refine l8 ?_;(first|refine aJ ?_|(refine aF ?_;refine aC (c0 (V:=.bool) (hc:=λ w1 hw=>K7 (hw.mw h.fit (by omega)).brN (hw.mw h.fit (by omega)).br (hw.mw h.fit (by omega)).brS)) (λ x73 h73=>?_)));refine Qg ?_;refine aG ?_)
             all_goals
              refine bE (λ c75=>?_) (λ c75=>?_)
              · all_goals refine cQ ?_
                all_goals
                 refine aT Tryz.results117 (λ w hw=>?_)
                 refine⟨false,rfl,⟨(λ h=>nomatch h),λ hp=>?_⟩,hw.done⟩
                 obtain⟨q1,q2,q3⟩:=hp.nodes y.1 (by omega)
                 first|(exfalso;omega)|(have:=h59.2 q1;simp_all;done) 
              · try exact nv c75
                all_goals
                 have hok:nU gen L.length (L.getD y.1 aY.zero):=⟨h59.1 (by simp_all),by omega,h73.1 (by simp_all)⟩
                all_goals (refine aZ ?_;refine oV ?_;refine aQ (cV (hc:=λ w1 hw=>ik (L.getD y.1 aY.zero).nd w1)) (λ x78=>?_);refine N6 ?_;refine J8 ?_;refine kK ?_;refine pA ?_)
                all_goals
                 refine bE (λ c82=>?_) (λ c82=>?_)
                 · have hmk:fM (some y.2) (L.getD y.1 aY.zero).nd=some y.2:=by
                    have e:jJ (L.getD y.1 aY.zero).nd=none:=by cases hq:jJ (L.getD y.1 aY.zero).nd<;>simp_all
                    simp only[fM,e]
                   refine bM rfl ?_;refine Tb ?_;refine A4 ?_
                   refine iS ((y.1+1,(fM (some y.2) (L.getD y.1 aY.zero).nd).getD y.2)) ?_ (hw1:=λ w hw=>by rw[hmk];exact hw.back)
                   · refine⟨by omega,by rw[yY (by omega),hx.2.1,hmk];rfl,λ i hi=>?_⟩
                     rcases Nat.lt_succ_iff_lt_or_eq.1 hi with h|rfl
                     · exact hx.2.2 i h
                     · exact hok
                 · obtain⟨c,hc⟩:∃c,jJ (L.getD y.1 aY.zero).nd=some c:=Option.isSome_iff_exists.1 c82
                   rw[hc,Option.getD_some]
                   refine lK ?_;refine J2 ?_;refine G7 ?_
                   (refine eM 85 (λ g85=>?_) (λ g85=>?_)<;>(first|refine aJ ?_|(refine aF ?_;refine aA ?_)))
                   all_goals (refine l8 ?_;refine Iz ?_;refine aA ?_)
                   all_goals (first|refine aJ ?_|(refine eM 92 (λ g92=>?_) (λ g92=>?_)<;>(first|refine aJ ?_|(refine aF ?_;refine aA ?_))))
                   all_goals ((first|refine aJ ?_|(refine aF ?_;refine aA ?_));(first|refine aJ ?_|(refine aF ?_;refine aB (dk rf rf (by omega) (by omega)) rfl ?_));(first|refine aJ ?_|(refine aF ?_;refine aB (Gb rf rf hY iA fin (by omega) (by omega)) rfl ?_));(first|refine aJ ?_|(refine aF ?_;refine aB (S8 rf iA fin (by omega)) rfl ?_));refine cH ?_;refine aG ?_)
                   all_goals
                    refine bE (λ c98=>?_) (λ c98=>?_)
                    · all_goals refine cQ ?_
                      all_goals
                       refine aT Tryz.results117 (λ w hw=>?_)
                       refine⟨false,rfl,⟨(λ h=>nomatch h),λ hp=>?_⟩,hw.done⟩
                       have hm:marks cs.length (L.take (y.1+1))=none:=by
                        rw[yY (by omega),hx.2.1]
                        simp only[fM,hc]
                        refine if_neg λ hh=>?_
                        obtain⟨q1,q2,q3⟩:=hh
                        first|(exfalso;omega)|(exfalso;rw[q3] at c98;cases c98)
                       exact absurd (Qk hm) hp.marks
                    · try exact nv c98
                      all_goals
                       have hmk:fM (some y.2) (L.getD y.1 aY.zero).nd=some (y.2.set (c-1).toNat true):=by
                        simp only[fM,hc]
                        rw[if_pos ⟨by omega,by omega,c98⟩]
                      all_goals (refine aZ ?_;refine Lq ?_;refine aB (dk rf rf (by omega) (by omega)) rfl ?_;refine aB (Gb rf rf hY iA fin (by omega) (by omega)) rfl ?_;refine J5 ?_;refine eU ?_;refine Tb ?_;refine A4 ?_)
                      all_goals
                       refine iS ((y.1+1,(fM (some y.2) (L.getD y.1 aY.zero).nd).getD y.2)) ?_ (hw1:=λ w hw=>by rw[hmk];exact hw.back)
                       · refine⟨by omega,by rw[yY (by omega),hx.2.1,hmk];rfl,λ i hi=>?_⟩
                         rcases Nat.lt_succ_iff_lt_or_eq.1 hi with h|rfl
                         · exact hx.2.2 i h
                         · exact hok
           · refine bM rfl ?_;refine cQ ?_
             refine aT Tryz.results117 (λ w hw=>?_)
             have hy:y.1=L.length:=by omega
             have hmm:marks cs.length L=some y.2:=by have:=hx.2.1;rwa [hy,List.take_length] at this
             exact⟨true,rfl,⟨λ _=>⟨by omega,by omega,by omega,by omega,hcells,λ i hi=>hx.2.2 i (by omega),by rw[hmm];exact λ h=>nomatch h⟩,λ _=>rfl⟩,hw.done⟩
end

/- An arena with a state. -/
end Go.Proofs.YtbajmaoegmbfgaaGreat
namespace Go.Ct
section
theorem G8{n:Nd}{xs:List Int}{ys:List Pr}(h:cD n xs ys)(hk:n.kind=1):n.c xs ys=eY.c:=by
 have e:=uZ.1 h.1
 rw[e]
 simp[Nd.own,Nd.jQ,Nd.iZ,hk,Nd.c,aY.c,eY,Nd.zero]
theorem kJ.all{L L':List aY}{cs:List Int}{gen:Int}(h:kJ L cs gen)(h2:L'.map aY.c=(L.drop 2).map aY.c):(cB L').map aY.c=L.map aY.c:=by
 have h0:=h.nodes 0 (by have:=h.two;omega)
 have h1:=h.nodes 1 (by have:=h.two;omega)
 have e0:(L.getD 0 aY.zero).c=eY.c:=G8 h0.1 h.m0
 have e1:(L.getD 1 aY.zero).c=eY.c:=G8 h1.1 h.m1
 have h3:=h.two
 match L,h3 with
 | a::b::r,_ =>
  simp only[List.getD_cons_zero,List.getD_cons_succ] at e0 e1
  simp only[List.drop_succ_cons,List.drop_zero] at h2
  simp only[cB,List.map_cons,h2,e0,e1]
end
end Go.Ct
namespace Go.Proofs.YtbajmaoegmbfgaaGreat
section
open Go.RowKit Go.Ct
theorem aB5{L:List aY}{cs:List Int}{gen:Int}{pn pc:Option Addr}{cn cc:Nat}{w:World}(h:Bh w L cs pn pc)(hL:L.length<=274877906944)(hC:cs.length<=274877906944)(hp:¬kJ L cs gen) :
  Calls Tryz.prog 71 #[.agg ⟨[.slice pn L.length cn,.slice pc cs.length cc,.int .i64 gen]⟩] w λ e w'=>e=.returned (.tuple #[.pointer none,.int .i64 1])/\St w [] [] w':=by
 refine enter Tryz.func71 Tryz.ntmps71 rfl rfl h.start ?_
 simp only[bY]
 refine J0 ?_;refine bN (λ x1=>?_);refine J8 ?_;refine aV ?_;refine oV ?_;refine aC (c0 (V:=.bool) (hc:=λ w1 hw=>O2 ⟨hw.cl (.bO .head),hw.cl (.bO (.tail .head)),λ f hf=>(hw.bO f (List.mem_cons_of_mem _ (List.mem_cons_of_mem _ hf))).1,h.fit⟩ hL hC)) (λ x8 h8=>?_);refine pA ?_
 refine bE (λ c9=>?_) (λ c9=>?_)
 ·refine Qa ?_
  refine bC Tryz.results71 (λ w hw=>?_)
  exact⟨rfl,hw.done⟩
 ·exact absurd (h8.1 c9) hp
theorem ew{L:List aY}{cs:List Int}{gen:Int}{pn pc:Option Addr}{cn cc:Nat}{w:World}(h:Bh w L cs pn pc)(hL:L.length<=274877906944)(hC:cs.length<=274877906944)(hcn:L.length<=cn)(hp:kJ L cs gen) :
  Calls Tryz.prog 71 #[.agg ⟨[.slice pn L.length cn,.slice pc cs.length cc,.int .i64 gen]⟩] w λ e w'=>∃x:Nat×List aY×(Option Addr×Nat)×(Option Addr×Nat),e=.returned (.tuple #[.pointer (some ⟨x.1,0,none⟩),.int .i64 0]) /\
   ((cB x.2.1).map aY.c=L.map aY.c/\Fits x.2.1)/\SF w [] [(x.1,aO x.2.1 cs gen 0 x.2.2.1.1 x.2.2.1.2 x.2.2.2.1 x.2.2.2.2)] [] (aM x.2.1) (mW x.2.1 cs x.2.2.1.1 x.2.2.1.2 x.2.2.2.1 x.2.2.2.2) w':=by
 have h2L:=hp.two
 refine enter Tryz.func71 Tryz.ntmps71 rfl rfl h.start ?_
 simp only[bY]
 refine J0 ?_;refine bN (λ x1=>?_);refine J8 ?_;refine aV ?_;refine oV ?_;refine aC (c0 (V:=.bool) (hc:=λ w1 hw=>O2 ⟨hw.cl (.bO .head),hw.cl (.bO (.tail .head)),λ f hf=>(hw.bO f (List.mem_cons_of_mem _ (List.mem_cons_of_mem _ hf))).1,h.fit⟩ hL hC)) (λ x8 h8=>?_);refine pA ?_
 refine bE (λ c9=>?_) (λ c9=>?_)
 ·exact absurd hp (λ hp=>by rw[h8.2 hp] at c9;cases c9)
 ·refine lK ?_;refine dZ [(0,[]),(1,[]),(3,[]),(4,[]),(2,[4]),(5,[]),(6,[]),(7,[])] ?_;refine mL ?_;refine mL ?_;refine bD (i:=2) (hq:=(Ra (Hc:=λ _=>[]) (Fc:=λ _=>[]) (hc:=λ w1 hw=>yI (hw.cl fin) hC))) (h:=λ x12 h12=>?_);refine gN ?_;refine gm (h:=λ x16=>?_);refine J7 ?_;refine J2 ?_;refine My ?_;refine aB (jF (n:=2) rf rf (by omega) (by omega)) rfl ?_;refine vW (λ x22=>?_);refine N0 ?_;refine Ci ?_;(refine aQ (r4 (k:=2) rf rf hY (by exact tK rfl) (by omega) fin hcn rfl) (λ x27=>?_));refine dG ?_;refine A4 ?_;refine cO ?_
  refine oB [6,29,30,31,32,33,34,35,36,37,38,39,40,41,42,43,44] (λ y:List aY×Option Addr×Nat=>[(29,.int .i64 ((y.1.length:Nat):Int))]) (λ y=>y.1.map aY.c=((L.drop 2).take y.1.length).map aY.c/\y.1.length<=L.length-2/\Fits y.1) (λ y=>[(x16,.cells ⟨[.slice y.2.1 y.1.length y.2.2,.slice x12.1 cs.length x12.2,.int .i64 gen,.int .i64 0]⟩ 139 (0,0)),(x1,.cells ⟨[.slice pn L.length cn,.slice pc cs.length cc,.int .i64 gen]⟩ 52 (0,0))]) (λ y=>aM y.1) (λ y=>[⟨y.2.1,gY y.1,y.2.2,47,14⟩,⟨x12.1,aH cs,x12.2,37,1⟩]) (λ y=>L.length-2-y.1.length) (([],some ⟨x22,0,none⟩,L.length-2)) (⟨rfl,Nat.zero_le _,λ _ h=>(List.not_mem_nil h).elim⟩) (λ y f hx=>?_) (hw0:=λ w hw=>hw.back)
  dsimp only[gU,List.map,List.cons_append,List.nil_append]
  refine J0 ?_;refine xD ?_;refine aV ?_
  refine bE (λ c30=>?_) (λ c30=>?_)
  ·refine qP ?_;refine J0 ?_;refine aB (Aq rf rf hY dH fin (by omega) (by rw[List.length_drop];omega)) rfl ?_;refine aB (Tp rf dH fin (by rw[List.length_drop];omega)) rfl ?_;refine aI (λ x6=>?_);refine J5 ?_;refine dZ [(0,[]),(1,[]),(2,[]),(3,[]),(4,[]),(5,[]),(6,[4]),(7,[4]),(8,[]),(9,[]),(10,[]),(11,[])] ?_;refine Yu ?_;refine bP ?_;refine bD (i:=6) (hq:=(cF (V:=λ p:Option Addr×Option Addr=>.agg ⟨(((L.drop 2).getD y.1.length aY.zero).at_ p.1 p.2).nd.cells⟩) (hc:=λ w1 hw=>Vc (hw.xj (L:=L) (λ f hf=>.inr (.inl (List.mem_cons_of_mem _ (List.mem_cons_of_mem _ (List.mem_cons_of_mem _ hf))))) h.fit (List.mem_of_mem_drop (iJ (by rw[List.length_drop];omega)))) (h.fit _ (List.mem_of_mem_drop (iJ (by rw[List.length_drop];omega)))).brS (h.fit _ (List.mem_of_mem_drop (iJ (by rw[List.length_drop];omega)))).prS))) (h:=λ x39 h39=>?_);refine cE (h:=λ x40=>?_);((refine cL (i:=8) (hq:=(bF.eN (Vx (((L.drop 2).getD y.1.length aY.zero).at_ x39.1 x39.2) rf rf zH rfl fin Qd rfl hY om) vJ)) (h:=λ x41=>?_);try (refine eW (λ h41=>?_))));refine z0 ?_;refine eU ?_;refine Tb ?_;refine A4 ?_
   refine iS ((y.1++[((L.drop 2).getD y.1.length aY.zero).at_ x39.1 x39.2],x41.1,x41.2)) ?_ (hw1:=λ w hw=>by
    have h3:=hw.ur (L:=y.1) (v:=((L.drop 2).getD y.1.length aY.zero).at_ x39.1 x39.2) (F':=[]) (List.mem_cons_of_mem _ (List.mem_cons_self ..)) (List.mem_cons_of_mem _ (List.mem_cons_of_mem _ (List.mem_cons_self ..))) (λ f hf=>List.mem_cons_of_mem _ (List.mem_cons_of_mem _ (List.mem_cons_of_mem _ hf)))
    have h4:=h3.sub (H':=[_,_]) (by repeat (first|exact List.Sublist.refl _|apply List.Sublist.cons)) aX.all (List.Sublist.refl _)
    simpa using h4) (hμ:=by simp only[List.length_append,List.length_cons,List.length_nil];omega)
   ·have hlt:y.1.length<(L.drop 2).length:=by rw[List.length_drop];omega
    refine⟨?_,by simp only[List.length_append,List.length_cons,List.length_nil];omega,λ v hv=>?_⟩
    ·rw[List.map_append,hx.1,List.length_append,List.length_singleton,List.take_succ_eq_append_getElem hlt,List.map_append,kP,List.getElem?_eq_getElem hlt]
     rfl
    ·rcases List.mem_append.1 hv with hv|hv
     ·exact hx.2.2 v hv
     ·simp only[List.mem_singleton] at hv
      subst hv
      exact aY.Sc (h.fit _ (List.mem_of_mem_drop (iJ hlt))) _ _
  ·refine bM rfl ?_;refine J2 ?_;refine J8 ?_
   refine bC Tryz.results71 (λ w hw=>?_)
   have hlen:y.1.length=L.length-2:=by omega
   refine⟨(x16,y.1,(y.2.1,y.2.2),(x12.1,x12.2)),rfl,⟨hp.all (by rw[hx.1,hlen,List.take_of_length_le (by rw[List.length_drop];omega)]),hx.2.2⟩,?_⟩
   exact hw.ret (by repeat (first|exact List.nil_sublist _|apply List.Sublist.cons_cons)) aX.all (List.Sublist.refl _)
end

/- Tapes: choices out of a list of numbers. -/
section
open Go.RowKit Go.Ct
abbrev Dv:=jf 114
abbrev mg(w:World):=Ly w 114
theorem aAa(v n:Int)(w:World)(hn:IntKind.u64.wrap n≠0):Calls Tryz.prog 46 #[.int .i64 v,.int .i64 n] w λ e w'=>e=.returned (.int .i64 (X2 v n))/\St w [] [] w':=by
 refine enter Tryz.func46 Tryz.ntmps46 rfl rfl (SF.s0 w) ?_
 simp only[bY]
 refine cQ ?_;refine J2 ?_;refine gC ?_;refine aA ?_;refine gC ?_;refine aAp ?_;refine gC ?_;refine J1 ?_
 refine aT Tryz.results46 (λ w hw=>?_)
 exact⟨rfl,hw.done⟩
theorem jx{l:List Int}{a:Option Addr}{c:Nat}{w:World}:Calls Tryz.prog 21 #[.slice a l.length c] w λ e w' =>
  ∃b:Nat,e=.returned (.pointer (some ⟨b,0,none⟩))/\True/\SF w [] [(b,Dv a l c 0)] [] [] [] w':=by
 refine enter Tryz.func21 Tryz.ntmps21 rfl rfl (SF.s0 w) ?_
 simp only[bY]
 refine cQ ?_;refine J2 ?_;refine bJ ?_;refine bN (λ x5=>?_);refine J1 ?_
 refine aT Tryz.results21 (λ w hw=>?_)
 exact⟨x5,rfl,trivial,hw.aU⟩
theorem eQ{l:List Int}{a:Option Addr}{b c k:Nat}{w:World}(n:Int)(ht:mg w b a l c k)(h0:0<n)(h1:n<=9223372036854775807) :
  Calls Tryz.prog 22 #[.pointer (some ⟨b,0,none⟩),.int .i64 n] w λ e w' =>
  ∃v:Nat,e=.returned (.int .i64 ((v:Nat):Int))/\((v:Int)<n/\v=tvN l k n)/\SF w [b] ((b,Dv a l c (lJ l k))::[]) [] [] [] w':=by
 have hl:=ht.len
 have hu:IntKind.u64.wrap n≠0:=by rw[wrap_u64];omega
 refine enter Tryz.func22 Tryz.ntmps22 rfl rfl ht.start ?_
 simp only[bY]
 refine Hz ?_;refine aV ?_;refine gI [0,1,2,3,4,5,6,7,8,9] ?_;refine Dx ?_;refine pE ?_;refine aAX ?_;refine eA ?_
 refine bE (λ c14=>?_) (λ c14=>?_)
 ·refine cQ ?_
  refine aT Tryz.results22 (λ w hw=>?_)
  exact⟨0,rfl,⟨by omega,by simp only[tvN];rw[if_neg (by omega)]⟩,by simp only[lJ];rw[if_neg (by omega)];exact hw.aU⟩
 ·refine tm ?_;refine C1 ?_;refine N0 ?_;refine aV ?_;refine gI [0,1,2,3,4,5,6,7,8,9,10,11,12,13] ?_;refine Dx ?_;refine O5 ?_;refine Ny ?_;refine aN ?_;refine cL (i:=12) (hq:=(cV (hc:=λ w1 hw=>aAa (l.getD (k+1-1) 0) n w1 hu))) (h:=λ x34=>?_);refine J7 ?_
  refine aT Tryz.results22 (λ w hw=>?_)
  have hb:=Qq (v:=l.getD k 0) h0 h1
  exact⟨(X2 (l.getD k 0) n).toNat,by rw[Int.toNat_of_nonneg hb.1];rfl,⟨by omega,by simp only[tvN];rw[if_pos (by omega)]⟩,by simp only[lJ];rw[if_pos (by omega)];exact hw.aU⟩
def lN:List ByteArray:=[⟨#[97]⟩,⟨#[98]⟩,⟨#[99]⟩,⟨#[100]⟩,⟨#[97,98]⟩,⟨#[]⟩,⟨#[98,48]⟩,⟨#[107,101,121]⟩]
theorem uk{l:List Int}{a:Option Addr}{b c k:Nat}{w:World}(ht:mg w b a l c k) :
  Calls Tryz.prog 59 #[.pointer (some ⟨b,0,none⟩)] w λ e w' =>
  ∃v:Nat,e=.returned (.string (lN.getD v ⟨#[]⟩))/\(v<8/\v=tvN l k 8)/\SF w [b] ((b,Dv a l c (lJ l k))::[]) [] [] [] w':=by
 refine enter Tryz.func59 Tryz.ntmps59 rfl rfl ht.start ?_
 simp only[bY]
 refine cQ ?_;refine J0 ?_;refine gW (λ x3=>?_);refine aA ?_;refine aC (wN (hc:=λ w1 hw=>eQ 8 (hw.tape cK fin ht.len) (by decide) (by decide))) (λ x5 h5=>?_);refine aB (bc (lst:=lN) rf rf hY iA fin (by omega) (by simp only[lN,List.length_cons,List.length_nil];omega)) rfl ?_;refine aB (qt (lst:=lN) rf iA fin (by simp only[lN,List.length_cons,List.length_nil];omega)) rfl ?_;refine J1 ?_
 refine aT Tryz.results59 (λ w hw=>?_)
 exact⟨x5,rfl,⟨by omega,h5.2⟩,hw.aU⟩
end

/- States are compared. -/
end Go.Proofs.YtbajmaoegmbfgaaGreat
namespace Go.Ct
section
theorem Yy{L1 L2:List aY}(h:L1.length=L2.length):L1.map aY.c=L2.map aY.c↔∀i,i<L1.length->(L1.getD i aY.zero).c=(L2.getD i aY.zero).c:=by
 constructor
 ·intro e i hi
  have h1:(L1.map aY.c)[i]?=(L2.map aY.c)[i]?:=by rw[e]
  rw[List.getElem?_map,List.getElem?_map,List.getElem?_eq_getElem hi,List.getElem?_eq_getElem (h▸hi)] at h1
  rw[kP,kP,List.getElem?_eq_getElem hi,List.getElem?_eq_getElem (h▸hi)]
  simpa using h1
 ·intro e
  refine List.ext_getElem? λ i=>?_
  rw[List.getElem?_map,List.getElem?_map]
  by_cases hi:i<L1.length
  ·have h1:=e i hi
   rw[kP,kP,List.getElem?_eq_getElem hi,List.getElem?_eq_getElem (h▸hi)] at h1
   rw[List.getElem?_eq_getElem hi,List.getElem?_eq_getElem (h▸hi)]
   simpa using h1
  ·rw[List.getElem?_eq_none (by omega),List.getElem?_eq_none (by omega)]
def R8(L1 L2:List aY)(c1 c2:List Int)(g1 g2:Int):Prop:=L1.map aY.c=L2.map aY.c/\g1=g2/\c1=c2
end
end Go.Ct
namespace Go.Proofs.YtbajmaoegmbfgaaGreat
section
open Go.RowKit Go.Ct
theorem Rg{L1 L2:List aY}{cs1 cs2:List Int}{pn1 pc1 pn2 pc2:Option Addr}{w:World}(h1:Bh w L1 cs1 pn1 pc1)(h2:Bh w L2 cs2 pn2 pc2) :
  SF w [] [] ((pn1,gY L1)::(pc1,aH cs1)::(pn2,gY L2)::(pc2,aH cs2)::(aM L1++aM L2)) [] [] w:=SF.begin λ f hf=>by
 rcases List.mem_cons.1 hf with rfl|hf
 ·exact h1.nds
 rcases List.mem_cons.1 hf with rfl|hf
 ·exact h1.cls
 rcases List.mem_cons.1 hf with rfl|hf
 ·exact h2.nds
 rcases List.mem_cons.1 hf with rfl|hf
 ·exact h2.cls
 rcases List.mem_append.1 hf with hf|hf
 ·exact h1.fam f hf
 ·exact h2.fam f hf
theorem tz{f1 f2 f3 f4 f:Option Addr×List Value}{F:Fr}(h:f∈F):f∈f1::f2::f3::f4::F:=List.mem_cons_of_mem _ (List.mem_cons_of_mem _ (List.mem_cons_of_mem _ (List.mem_cons_of_mem _ h)))
theorem yg{L1 L2:List aY}{cs1 cs2:List Int}{g1 g2:Int}{pn1 pc1 pn2 pc2:Option Addr}{n1 n2 c1 c2:Nat}{w:World}(h1:Bh w L1 cs1 pn1 pc1)(h2:Bh w L2 cs2 pn2 pc2)(hL1:L1.length<=274877906944)(hL2:L2.length<=274877906944)(hc1:cs1.length<=274877906944) :
  Calls Tryz.prog 62 #[.agg ⟨[.slice pn1 L1.length n1,.slice pc1 cs1.length c1,.int .i64 g1]⟩,.agg ⟨[.slice pn2 L2.length n2,.slice pc2 cs2.length c2,.int .i64 g2]⟩] w λ e w'=>∃r:Bool,e=.returned (.bool r)/\(r=true↔R8 L1 L2 cs1 cs2 g1 g2)/\St w [] [] w':=by
 refine enter Tryz.func62 Tryz.ntmps62 rfl rfl (Rg h1 h2) ?_
 simp only[bY]
 refine J0 ?_;refine bN (λ x2=>?_);refine bN (λ x3=>?_);refine iT ?_;refine hJ ?_;refine dG ?_;refine My ?_;refine pJ ?_;refine aA ?_
 (refine eM 13 (λ g13=>?_) (λ g13=>?_)<;>(first|refine aJ ?_|(refine aF ?_;refine aE ?_)))
 all_goals (refine A1 ?_;refine Q2 ?_;refine aA ?_)
 all_goals (first|refine aJ ?_|(refine eM 20 (λ g20=>?_) (λ g20=>?_)<;>(first|refine aJ ?_|(refine aF ?_;refine aE ?_))))
 all_goals (refine A1 ?_;(first|refine aJ ?_|(refine aF ?_;refine aQ (cV (hc:=λ w1 hw=>Z0 (hw.cl (.bO (.tail .head))) (hw.cl (.bO (.tail (.tail (.tail .head))))) (by omega))) (λ x25=>?_)));refine Qg ?_;refine aG ?_)
 all_goals
 refine bE (λ c27=>?_) (λ c27=>?_)
 ·all_goals refine cQ ?_
  all_goals
   refine aT Tryz.results62 (λ w hw=>?_)
   exact⟨false,rfl,⟨(λ h=>nomatch h),λ hs=>by
   have e1:=congrArg List.length hs.1
   simp only[List.length_map] at e1
   have e2:=hs.2.1
   have e3:=hs.2.2
   first|omega|(subst e3;simp at c27)⟩,hw.done⟩
 ·try exact nv c27
  all_goals (refine lK ?_;refine Hr ?_)
  all_goals
   have hlen:L1.length=L2.length:=by omega
   refine fG [4,5,28,29,30,31,32,33,34,35,36,37,38,39,40,41,42,43,44,45,46] (λ k=>[(5,.int .i64 ((k:Nat):Int))]) (λ k=>k<=L1.length/\∀i,i<k->(L1.getD i aY.zero).c=(L2.getD i aY.zero).c) (λ k=>L1.length-k) (0) (⟨Nat.zero_le _,λ i hi=>absurd hi (Nat.not_lt_zero i)⟩) ?_ (λ k f hx=>?_)
   ·repeat (first|exact bG _|refine bB (by exact rfl) ?_)
   dsimp only[gU,List.map,List.cons_append,List.nil_append]
   refine kK ?_;refine My ?_;refine xD ?_
   refine bE (λ c32=>?_) (λ c32=>?_)
   ·refine qP ?_;refine aV ?_;refine gI [0,1,2,3,4,5,6,7,8,9,10,11] ?_;refine mL ?_;refine aN ?_;refine Ny ?_;refine mL ?_;refine aN ?_;refine Ny ?_;refine bD (i:=10) (hq:=(c0 (V:=.bool) (hc:=λ w1 hw=>V7 (hw.xj (L:=L1) (λ f hf=>.inr (.inl (tz (List.mem_append_left _ hf)))) h1.fit (iJ (k:=k) (by omega))) (hw.xj (L:=L2) (λ f hf=>.inr (.inl (tz (List.mem_append_right _ hf)))) h2.fit (iJ (k:=k) (by omega)))))) (h:=λ x45 h45=>?_);refine Gp ?_;refine eA ?_
    refine bE (λ c46=>?_) (λ c46=>?_)
    ·refine cQ ?_
     refine aT Tryz.results62 (λ w hw=>?_)
     exact⟨false,rfl,⟨(λ h=>nomatch h),λ hs=>by
     have h1:=(Yy hlen).1 hs.1 k (by omega)
     rw[h45.2 (uZ.2 h1)] at c46
     cases c46⟩,hw.done⟩
    ·refine nY ?_;refine yU ?_
     refine dV (k+1) ?_ ?_ ?_
     ·omega
     ·repeat' (first|exact bG _|refine bB ?_ ?_)
      exact rfl
     ·exact⟨by omega,λ i hi=>by rcases Nat.lt_succ_iff_lt_or_eq.1 hi with h|rfl;exact hx.2 i h;exact uZ.1 (h45.1 c46)⟩
   ·refine bM rfl ?_;refine cQ ?_
    refine aT Tryz.results62 (λ w hw=>?_)
    exact⟨true,rfl,⟨λ _=>⟨(Yy hlen).2 λ i hi=>hx.2 i (by omega),by omega,by simpa using c27⟩,λ _=>rfl⟩,hw.done⟩
theorem L5{L1 L2:List aY}{cs1 cs2:List Int}{g1 g2:Int}{pn1 pc1 pn2 pc2:Option Addr}{n1 n2 c1 c2:Nat}{w:World}(h1:Bh w L1 cs1 pn1 pc1)(h2:Bh w L2 cs2 pn2 pc2)(hL1:L1.length<=274877906944)(hL2:L2.length<=274877906944)(hc1:cs1.length<=274877906944)(h:R8 L1 L2 cs1 cs2 g1 g2) :
  Calls Tryz.prog 62 #[.agg ⟨[.slice pn1 L1.length n1,.slice pc1 cs1.length c1,.int .i64 g1]⟩,.agg ⟨[.slice pn2 L2.length n2,.slice pc2 cs2.length c2,.int .i64 g2]⟩] w λ e w'=>e=.returned (.bool true)/\St w [] [] w' :=
 (yg h1 h2 hL1 hL2 hc1).mono λ e w' ⟨r,he,hr,hst⟩=>⟨by rw[he,hr.2 h],hst⟩
end

/- Nodes of arenas, written out. -/
end Go.Proofs.YtbajmaoegmbfgaaGreat
namespace Go.Ct
section
open Go Go.RowKit
end
end Go.Ct
namespace Go.Proofs.YtbajmaoegmbfgaaGreat
section
open Go.RowKit Go.Ct
section
variable{w:World}{D:List Nat}{b:Nat}{L:List aY}{cs:List Int}{gen acc:Int}{pn pc:Option Addr}{cn cc:Nat}{A:Fr}
end
end

/- Calls through interfaces. -/
end Go.Proofs.YtbajmaoegmbfgaaGreat
namespace Go.Ct
section
open Go Go.RowKit
section
variable{P:Program}{S:List (Nat×Value)}{G:World->Prop}{d:Nat}{ty t t2:TypeId}{pos:String}{af:Array Edge}{gd:Option (Nat×Bool)}{x y:Operand}{dst:Option Nat}{v:Value}
theorem Tm{f:FuncId}{xs:List Operand}{at_:Array TypeId}{vs:List Value}{t:TypeId}{pv:Value}{name:String}(hx:ev S x=.iface t pv)(ha:oW S xs=vs)(hm:∀w,(callMethod (.iface t pv) name ⟨vs⟩).run P w=.ok (.enter f ⟨pv::vs⟩) w)(w:World) :
  (execOp (ev S) ⟨dst,.call {callee:=.invoke x name,args:=⟨xs⟩,argTypes:=at_},ty,pos,af,gd⟩).run P w=.ok (.enter f ⟨pv::vs⟩) w:=by
 subst ha
 have hm':(xs.map (ev S)).toArray=⟨oW S xs⟩:=by rw[Ao]
 have:=hm w
 simp only[execOp,resolve,hx]
 simp[invoke,hm',this]
theorem Zy(hx:ev S x=v)(h:∀w,(Instr.makeInterface t v).run P w=.ok (.iface t v) w):aL P S G ⟨some d,.makeInterface t x,ty,pos,af,gd⟩ (.iface t v):=⟨λ w _=>by
 simp[execOp,hx,h w]⟩
theorem Nk{b off:Nat}(hx:ev S x=.iface t (.pointer (some ⟨b,off,none⟩))):aL P S G ⟨some d,.nilCheck x,ty,pos,af,gd⟩ (.iface t (.pointer (some ⟨b,off,none⟩))):=⟨λ w _=>by
 simp[execOp,hx]⟩
end
end
end Go.Ct
namespace Go.Proofs.YtbajmaoegmbfgaaGreat
section
open Go Go.RowKit Go.Ct
theorem lb(p:Option Addr)(a:Value)(w:World):(callMethod (.iface 42 (.pointer p)) "Node" #[a]).run Tryz.prog w=.ok (.enter 36 #[.pointer p,a]) w:=by kernel_rfl
theorem Xz(p:Option Addr)(a b:Value)(w:World):(callMethod (.iface 42 (.pointer p)) "Alloc" #[a,b]).run Tryz.prog w=.ok (.enter 29 #[.pointer p,a,b]) w:=by kernel_rfl
theorem Bw(p:Option Addr)(w:World):(Instr.makeInterface 42 (.pointer p)).run Tryz.prog w=.ok (.iface 42 (.pointer p)) w:=by kernel_rfl
section
variable{S:List (Nat×Value)}{w0 w:World}{M:List Nat}{H:List (Nat×Obj)}{A F:Fr}{O:List Ow}{ty:TypeId}{pos:String}{af:Array Edge}{gd:Option (Nat×Bool)}{X:Type}{V:X->Value}
theorem cMI{φ:X->Prop}{hs H':List (Nat×Obj)}{os O':List Ow}{hs' H1:X->List (Nat×Obj)}{os' O1:X->List Ow}{Fc F1:X->Fr}{A0:Fr}{is js:List Nat}{f:FuncId}{recv:Operand}{t:TypeId}{pv:Value}{name:String}{xs:List Operand}{at_:Array TypeId}{vs:List Value}{dst:Option Nat}
  (hx:ev S recv=.iface t pv:=by(conv=>{lhs;whnf}))
  (ha:oW S xs=vs:=by(repeat (first|exact cC _|(apply bU;focus ((conv=>{lhs;whnf});try exact rfl))));first|done|fail) (hm:∀w,(callMethod (.iface t pv) name ⟨vs⟩).run Tryz.prog w=.ok (.enter f ⟨pv::vs⟩) w)
  (hc:∀w,SF w (Ks hs os) hs A0 [] os w->Calls Tryz.prog f ⟨pv::vs⟩ w λ e w'=>∃x,e=.returned (V x)/\φ x/\SF w (Ks hs os) (hs' x) [] (Fc x) (os' x) w')
  (hH:lT H is hs H':=by(repeat (first|exact lT.nil|(apply lT.cons;(focus ((repeat (first|exact yD.head|apply yD.tail));done));simp only[pX])));first|done|fail)
  (hO:lT O js os O':=by(repeat (first|exact lT.nil|(apply lT.cons;(focus ((repeat (first|exact yD.head|apply yD.tail));done));simp only[pX])));first|done|fail)
  (hA:bA A F O' A0:=by(repeat (first|exact bA.of (λ _ h=>Or.inr (Or.inl h))|exact bA.nil|(refine bA.cons (by first|exact Or.inl rfl|exact Or.inr (Or.inr (Or.inl (by simp)))|exact Or.inr (Or.inl (by simp))|exact Or.inr (Or.inr (Or.inr (by simp)))) ?_)));first|done|fail)
  (hl1:∀x,is.length=(hs' x).length:=by intro x;exact rfl) (hl2:∀x,js.length=(os' x).length:=by intro x;exact rfl)
  (hH1:∀x,iL is (hs' x) H'=H1 x:=by intro x;first|(simp only[iL,qV];exact rfl)|exact rfl) (hF1:∀x,Fc x++F=F1 x:=by intro x;first|(simp only[List.nil_append,List.cons_append];exact rfl)|exact rfl) (hO1:∀x,iL js (os' x) O'=O1 x:=by intro x;simp only[iL,qV,mW];exact rfl) :
  bF Tryz.prog S (SF w0 M H A F O) ⟨dst,.call {callee:=.invoke recv name,args:=⟨xs⟩,argTypes:=at_},ty,pos,af,gd⟩ X V (λ x w=>φ x/\SF w0 M (H1 x) A (F1 x) (O1 x) w) :=
 gB (Tm hx ha hm) λ w hw=>(hc w (hw.pR hH hO hA)).mono λ _ _ ⟨x,he,hx,hs⟩=>⟨x,he,hx,by
  have:=hw.vZ (hs':=hs' x) (Hc:=[]) (os':=os' x) (Oc:=[]) hH hO (by simpa using hs) (hl1 x) (hl2 x)
  rw[<- hH1 x,<- hF1 x,<- hO1 x]
  simpa using this⟩
theorem aBY{φ:X->Prop}{hs H':List (Nat×Obj)}{os O':List Ow}{hs' H1:X->List (Nat×Obj)}{os' Oc O1:X->List Ow}{Fc F1:X->Fr}{A0:Fr}{is js:List Nat}{f:FuncId}{recv:Operand}{t:TypeId}{pv:Value}{name:String}{xs:List Operand}{at_:Array TypeId}{vs:List Value}{dst:Option Nat}
  (hx:ev S recv=.iface t pv:=by(conv=>{lhs;whnf}))
  (ha:oW S xs=vs:=by(repeat (first|exact cC _|(apply bU;focus ((conv=>{lhs;whnf});try exact rfl))));first|done|fail) (hm:∀w,(callMethod (.iface t pv) name ⟨vs⟩).run Tryz.prog w=.ok (.enter f ⟨pv::vs⟩) w)
  (hc:∀w,SF w (Ks hs os) hs A0 [] os w->Calls Tryz.prog f ⟨pv::vs⟩ w λ e w'=>∃x,e=.returned (V x)/\φ x/\SF w (Ks hs os) (hs' x) [] (Fc x) (os' x++Oc x) w')
  (hH:lT H is hs H':=by(repeat (first|exact lT.nil|(apply lT.cons;(focus ((repeat (first|exact yD.head|apply yD.tail));done));simp only[pX])));first|done|fail)
  (hO:lT O js os O':=by(repeat (first|exact lT.nil|(apply lT.cons;(focus ((repeat (first|exact yD.head|apply yD.tail));done));simp only[pX])));first|done|fail)
  (hA:bA A F O' A0:=by(repeat (first|exact bA.of (λ _ h=>Or.inr (Or.inl h))|exact bA.nil|(refine bA.cons (by first|exact Or.inl rfl|exact Or.inr (Or.inr (Or.inl (by simp)))|exact Or.inr (Or.inl (by simp))|exact Or.inr (Or.inr (Or.inr (by simp)))) ?_)));first|done|fail)
  (hl1:∀x,is.length=(hs' x).length:=by intro x;exact rfl) (hl2:∀x,js.length=(os' x).length:=by intro x;exact rfl)
  (hH1:∀x,iL is (hs' x) H'=H1 x:=by intro x;first|(simp only[iL,qV];exact rfl)|exact rfl) (hF1:∀x,Fc x++F=F1 x:=by intro x;first|(simp only[List.nil_append,List.cons_append];exact rfl)|exact rfl) (hO1:∀x,Oc x++iL js (os' x) O'=O1 x:=by intro x;simp only[iL,qV,mW,List.nil_append,List.cons_append];exact rfl) :
  bF Tryz.prog S (SF w0 M H A F O) ⟨dst,.call {callee:=.invoke recv name,args:=⟨xs⟩,argTypes:=at_},ty,pos,af,gd⟩ X V (λ x w=>φ x/\SF w0 M (H1 x) A (F1 x) (O1 x) w) :=
 gB (Tm hx ha hm) λ w hw=>(hc w (hw.pR hH hO hA)).mono λ _ _ ⟨x,he,hx,hs⟩=>⟨x,he,hx,by
  have:=hw.vZ (hs':=hs' x) (Hc:=[]) (os':=os' x) (Oc:=Oc x) hH hO (by simpa using hs) (hl1 x) (hl2 x)
  rw[<- hH1 x,<- hF1 x,<- hO1 x]
  simpa using this⟩
end
end

/- A store of several cells into a known block. -/
end Go.Proofs.YtbajmaoegmbfgaaGreat
namespace Go.Ct
section
open Go Go.RowKit
section
variable{P:Program}{n:Nat}{ds:List Deferred}{Q:Exit->Act->World->Prop}{ks:List CK}{S:List (Nat×Value)}{G:World->Prop}{ops:Array Oper}{l:List Oper}
variable{w0:World}{M:List Nat}{H:List (Nat×Obj)}{A F:Fr}{O:List Ow}
variable{d:Nat}{ty t:TypeId}{pos:String}{af:Array Edge}{gd:Option (Nat×Bool)}{dst:Option Nat}{x y:Operand}{v:Value}{w w':World}
theorem lO{b off i:Nat}{vs bO cs:List Value}{T:TypeId}{H':List (Nat×Obj)}(hx:ev S x=.pointer (some ⟨b,off,none⟩))(ha:At H i b (.cells ⟨bO⟩ T (0,0)))(hy:ev S y=.agg ⟨vs⟩)(h1:vs.all (·.oneCell')=true)
  (ht:jL P t vs.length=true) (hl:off+vs.length<=bO.length) (hcs:bO.take off++vs++bO.drop (off+vs.length)=cs) (hH:setAt H i (.cells ⟨cs⟩ T (0,0))=H') :
  bF P S (St w0 M H) ⟨none,.store t x y,ty,pos,af,gd⟩ Unit (λ _=>undef) (λ _=>St w0 M H') :=
 wY (λ w hw=>by
  subst hH hcs
  have hb:=hw.at ha
  obtain⟨dd,hu,hm,hi⟩:=iK ht
  have hst:=run_storeCells_at (P:=P) b off T vs 0 ⟨bO⟩ w hb (by simpa using hl) (by simpa using h1)
  simp only[Nat.add_zero] at hst
  refine⟨w.setRow b ⟨bO.take off++vs++bO.drop (off+vs.length)⟩,?_,hw.write ha rfl rfl rfl (by simp) (λ k hk=>setRow_other w b k _ hk) (setRow_heap w b ⟨bO⟩ _ T (0,0) hb)⟩
  cases hq':P.info? t with
  | none=>rw[hq'] at hi;simp at hi
  | some inf =>
   have hs:inf.size=vs.length:=by rw[hq'] at hi;simpa using hi
   simp[execOp,hx,hy,Instr.storeAt,Instr.sureAddr,storeVar,sizeOf,typeInfo,hq',hs,Value.cells,hst])
end
end

/- Loads out of lists that are known. -/
section
open Go Go.RowKit
section
variable{P:Program}{S:List (Nat×Value)}{w0 w w':World}{M:List Nat}{H:List (Nat×Obj)}{A F:Fr}{O:List Ow}{d:Nat}{ty t:TypeId}{pos:String}{af:Array Edge}{gd:Option (Nat×Bool)}{x y:Operand}{v:Value}
theorem Gf{a:Option Addr}{cs vs:List Value}{q k:Nat}(hx:ev S x=.pointer (some ⟨dB a,eH a+q,none⟩))(ht:jL P t k=true)(hf:qN A F O a cs)(hv:(cs.drop q).take k=vs)(hl:vs.length=k) :
  aL P S (SF w0 M H A F O) ⟨some d,.load t x,ty,pos,af,gd⟩ (.agg ⟨vs⟩):=⟨λ w hw=>by
 have hcl:=hw.cl hf
 obtain⟨dd,hu,hm,hi⟩:=iK ht
 have hagg:(isAgg t).run P w=.ok true w:=by
  unfold isAgg
  rw[Sem.run_bind,run_underlying hu w]
  cases dd<;>simp_all
 have hc:(loadCells ⟨dB a,eH a+q,none⟩ k).run P w=.ok ⟨vs⟩ w:=by
  have:=run_loadCells_list (P:=P) w ⟨dB a,eH a+q,none⟩ vs (λ j z hz=>by
   subst hv
   have hj:=(List.getElem?_eq_some_iff.1 hz).1
   have h2:cs[q+j]?=some z:=by
    rw[List.getElem?_take_of_lt (by simp at hj;omega),List.getElem?_drop] at hz
    exact hz
   rw[Addr.add_lit,show eH a+q+j=eH a+(q+j) by omega]
   exact(hcl.at_ _ _ h2).2)
  rw[hl] at this
  simpa using this
 cases hq':P.info? t with
 | none=>rw[hq'] at hi;simp at hi
 | some i =>
  have hs:i.size=k:=by rw[hq'] at hi;simpa using hi
  simp[execOp,hx,Instr.loadAt,Instr.sureAddr,loadVar,hagg,Go.sizeOf,typeInfo,hq',hs,hc]⟩
theorem dm{a:Option Addr}{cs:List Value}{q:Nat}{v:Value}(hx:ev S x=.pointer (some ⟨dB a,eH a+q,none⟩))(ht:one P t=true)(hf:qN A F O a cs)(hq:cs[q]?=some v) :
  aL P S (SF w0 M H A F O) ⟨some d,.load t x,ty,pos,af,gd⟩ v:=qF hx ht (λ w hw=>hw.cl hf) hq
end
end

end Go.Ct
