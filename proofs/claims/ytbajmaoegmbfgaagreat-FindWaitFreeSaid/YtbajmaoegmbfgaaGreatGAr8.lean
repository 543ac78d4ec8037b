/- Proper states: the walk through the program's check. -/
import Derived.Test.YtbajmaoegmbfgaaGreatGAr5
import Derived.Test.YtbajmaoegmbfgaaGreatAuto
import Derived.Test.YtbajmaoegmbfgaaGreatGLst3
import Derived.Test.YtbajmaoegmbfgaaGreatGJoin

set_option linter.unusedSimpArgs false
set_option linter.unusedVariables false
namespace Go.Proofs.YtbajmaoegmbfgaaGreat
section
open Go.RowKit Go.Ct
set_option maxRecDepth 100000 in
theorem Qr{L:List aZ}{cs:List Int}{gen:Int}{pn pc:Option Addr}{cn cc:Nat}{w:World}(h:Bl w L cs pn pc)(hL:L.length<=274877906944)(hC:cs.length<=274877906944) :
    Calls Tryz.prog 117 #[.agg ⟨[.slice pn L.length cn,.slice pc cs.length cc,.int .i64 gen]⟩] w λ e w'=>∃r:Bool,e=.returned (.bool r)/\(r=true↔jW L cs gen)/\St w [] [] w':=by
  refine enter Tryz.func117 Tryz.ntmps117 rfl rfl h.start ?_
  simp only[bY]
  refine J0 ?_;refine bO (λ x1=>?_);refine iZ ?_;refine gZ ?_;refine dI ?_;refine Fv ?_
  (refine eM 14 (λ g14=>?_) (λ g14=>?_)<;>(first|refine aJ ?_|(refine aF ?_;refine aE ?_)))
  all_goals (refine J89 ?_;refine aH ?_)
  all_goals
   refine bE (λ c18=>?_) (λ c18=>?_)
   · all_goals refine cR ?_
     all_goals
      refine aT Tryz.results117 (λ w hw=>?_)
      exact⟨false,rfl,⟨(λ h=>nomatch h),λ hp=>by have h1:=hp.two;have h2:=hp.gen0;exfalso;omega⟩,hw.done⟩
   · try exact nv c18
     all_goals (refine lA ?_;refine gZ ?_;refine aB (Bg (k:=0) rf rf hX dJ fin (by omega) (by omega)) rfl ?_;refine aE ?_;refine aB (Hl (q:=0) rf iA fin (by omega)) rfl ?_;refine qA ?_;refine aA ?_)
     all_goals ((refine eM 25 (λ g25=>?_) (λ g25=>?_)<;>(first|refine aJ ?_|(refine aF ?_;refine aE ?_))))
     all_goals ((first|refine aJ ?_|(refine aF ?_;refine bR ?_));(first|refine aJ ?_|(refine aF ?_;refine aB (Bg (k:=1) rf rf hX dJ fin (by omega) (by omega)) rfl ?_));(first|refine aJ ?_|(refine aF ?_;refine aE ?_));(first|refine aJ ?_|(refine aF ?_;refine aB (Hl (q:=1) rf iA fin (by omega)) rfl ?_));refine Ru ?_;refine aH ?_)
     all_goals
      refine bE (λ c32=>?_) (λ c32=>?_)
      · all_goals refine cR ?_
        all_goals
         refine aT Tryz.results117 (λ w hw=>?_)
         exact⟨false,rfl,⟨(λ h=>nomatch h),λ hp=>by have h1:=hp.m0;have h2:=hp.m1;exfalso;omega⟩,hw.done⟩
      · try exact nv c32
        all_goals (refine lA ?_;refine gZ ?_;refine dI ?_;refine Af ?_;refine cI ?_)
        all_goals
         refine fF [2,4,36,37,38,39,40,41,42,43,44,45,46] (λ k=>[(36,.int .i64 ((k:Nat):Int))]) (λ k=>k<=cs.length/\∀i,i<k->Ip (cs.getD i 0) L.length) (λ k=>cs.length-k) (0) (⟨Nat.zero_le _,λ i hi=>absurd hi (Nat.not_lt_zero i)⟩) ?_ (λ k f hx=>?_)
         · repeat (first|exact bG _|refine bA (by exact rfl) ?_)
         dsimp only[gR,List.map,List.cons_append,List.nil_append]
         refine J0 ?_;refine vX ?_;refine aV ?_
         refine bE (λ c37=>?_) (λ c37=>?_)
         · refine qI ?_;refine J0 ?_;refine Yu ?_;refine J1 ?_;refine J2 ?_;refine P4 ?_;refine aR (cV (hc:=λ w1 hw=>vI _ _ w1)) (λ x44=>?_);refine oX ?_
           refine bE (λ c45=>?_) (λ c45=>?_)
           · refine cR ?_
             refine aT Tryz.results117 (λ w hw=>?_)
             exact⟨false,rfl,⟨(λ h=>nomatch h),λ hp=>absurd (hp.cells k (by omega)) (by assumption)⟩,hw.done⟩
           · refine oB ?_;refine Rt ?_;refine Af ?_
             refine dY (k+1) ?_ ?_ ?_
             · omega
             · repeat' (first|exact bG _|refine bA ?_ ?_)
               exact rfl
             · exact⟨by omega,λ i hi=>by rcases Nat.lt_succ_iff_lt_or_eq.1 hi with h|rfl;exact hx.2 i h;assumption⟩
         · refine bM rfl ?_;refine gZ ?_;refine dI ?_;refine vK (λ x50=>?_);refine iZ ?_;refine gZ ?_;refine dI ?_;refine Af ?_;refine cI ?_
           have hcells:∀i,i<cs.length->Ip (cs.getD i 0) L.length:=λ i hi=>hx.2 i (by omega)
           clear hx
           refine nA [2,7,8,9,54,55,56,57,58,59,60,61,62,63,64,65,66,67,68,69,70,71,72,73,74,75,76,77,78,79,80,81,82,83,84,85,86,87,88,89,90,91,92,93,94,95,96,97,98,99,100,101,102,103] (λ y:Nat×List Bool=>[(54,.int .i64 ((y.1:Nat):Int))]) (λ y=>y.1<=L.length/\marks cs.length (L.take y.1)=some y.2/\∀i,i<y.1->nT gen L.length (L.getD i aZ.zero)) (λ _=>_) (λ _=>_) (λ y=>[⟨some ⟨x50,0,none⟩,kP y.2,cs.length,4,1⟩]) (λ y=>L.length-y.1) ((0,List.replicate cs.length false)) (⟨Nat.zero_le _,rfl,λ i hi=>absurd hi (Nat.not_lt_zero i)⟩) (λ y f hx=>?_)
           dsimp only[gR,List.map,List.cons_append,List.nil_append]
           have hu:=Je hx.2.1
           refine J0 ?_;refine vX ?_;refine aV ?_
           refine bE (λ c55=>?_) (λ c55=>?_)
           · refine qI ?_;refine J0 ?_;refine Yu ?_;refine aI (λ x7=>?_);refine J5 ?_;refine aV ?_;refine pK ?_;refine aC (c0 (V:=.bool) (hc:=λ w1 hw=>I5 (hw.sm h.fit (by omega)))) (λ x59 h59=>?_);refine En ?_
             (refine eM 61 (λ g61=>?_) (λ g61=>?_)<;>(first|refine aJ ?_|(refine aF ?_;refine aE ?_)))
             all_goals (refine Bj ?_;refine Iw ?_;refine aA ?_)
             all_goals (first|refine aJ ?_|(refine eM 68 (λ g68=>?_) (λ g68=>?_)<;>(first|refine aJ ?_|(refine aF ?_;refine bR ?_))))
             all_goals (refine nq ?_;(first|refine aJ ?_|(refine aF ?_;refine aC (c0 (V:=.bool) (hc:=λ w1 hw=>Lc (hw.sm h.fit (by omega)).brN (hw.sm h.fit (by omega)).br (hw.sm h.fit (by omega)).brS)) (λ x73 h73=>?_)));refine Q6 ?_;refine aH ?_)
             all_goals
              refine bE (λ c75=>?_) (λ c75=>?_)
              · all_goals refine cR ?_
                all_goals
                 refine aT Tryz.results117 (λ w hw=>?_)
                 refine⟨false,rfl,⟨(λ h=>nomatch h),λ hp=>?_⟩,hw.done⟩
                 obtain⟨q1,q2,q3⟩:=hp.nodes y.1 (by omega)
                 first|(exfalso;omega)|(have:=h59.2 q1;simp_all;done) 
              · try exact nv c75
                all_goals
                 have hok:nT gen L.length (L.getD y.1 aZ.zero):=⟨h59.1 (by simp_all),by omega,h73.1 (by simp_all)⟩
                all_goals (refine bB ?_;refine pK ?_;refine aR (cV (hc:=λ w1 hw=>gv (L.getD y.1 aZ.zero).nd w1)) (λ x78=>?_);refine No ?_;refine J8 ?_;refine kM ?_;refine oX ?_)
                all_goals
                 refine bE (λ c82=>?_) (λ c82=>?_)
                 · have hmk:fN (some y.2) (L.getD y.1 aZ.zero).nd=some y.2:=by
                    have e:jO (L.getD y.1 aZ.zero).nd=none:=by cases hq:jO (L.getD y.1 aZ.zero).nd<;>simp_all
                    simp only[fN,e]
                   refine bM rfl ?_;refine Rt ?_;refine Af ?_
                   refine iJ ((y.1+1,(fN (some y.2) (L.getD y.1 aZ.zero).nd).getD y.2)) ?_ (hw1:=λ w hw=>by rw[hmk];exact hw.back)
                   · refine⟨by omega,by rw[zQ (by omega),hx.2.1,hmk];rfl,λ i hi=>?_⟩
                     rcases Nat.lt_succ_iff_lt_or_eq.1 hi with h|rfl
                     · exact hx.2.2 i h
                     · exact hok
                 · obtain⟨c,hc⟩:∃c,jO (L.getD y.1 aZ.zero).nd=some c:=Option.isSome_iff_exists.1 c82
                   rw[hc,Option.getD_some]
                   refine lA ?_;refine J2 ?_;refine Fv ?_
                   (refine eM 85 (λ g85=>?_) (λ g85=>?_)<;>(first|refine aJ ?_|(refine aF ?_;refine aA ?_)))
                   all_goals (refine nq ?_;refine Iw ?_;refine aA ?_)
                   all_goals (first|refine aJ ?_|(refine eM 92 (λ g92=>?_) (λ g92=>?_)<;>(first|refine aJ ?_|(refine aF ?_;refine aA ?_))))
                   all_goals ((first|refine aJ ?_|(refine aF ?_;refine aA ?_));(first|refine aJ ?_|(refine aF ?_;refine aB (du rf rf (by omega) (by omega)) rfl ?_));(first|refine aJ ?_|(refine aF ?_;refine aB (Ie rf rf hX iA fin (by omega) (by omega)) rfl ?_));(first|refine aJ ?_|(refine aF ?_;refine aB (Ve rf iA fin (by omega)) rfl ?_));refine cH ?_;refine aH ?_)
                   all_goals
                    refine bE (λ c98=>?_) (λ c98=>?_)
                    · all_goals refine cR ?_
                      all_goals
                       refine aT Tryz.results117 (λ w hw=>?_)
                       refine⟨false,rfl,⟨(λ h=>nomatch h),λ hp=>?_⟩,hw.done⟩
                       have hm:marks cs.length (L.take (y.1+1))=none:=by
                        rw[zQ (by omega),hx.2.1]
                        simp only[fN,hc]
                        refine if_neg λ hh=>?_
                        obtain⟨q1,q2,q3⟩:=hh
                        first|(exfalso;omega)|(exfalso;rw[q3] at c98;cases c98)
                       exact absurd (Sw hm) hp.marks
                    · try exact nv c98
                      all_goals
                       have hmk:fN (some y.2) (L.getD y.1 aZ.zero).nd=some (y.2.set (c-1).toNat true):=by
                        simp only[fN,hc]
                        rw[if_pos ⟨by omega,by omega,c98⟩]
                      all_goals (refine bB ?_;refine Me ?_;refine aB (du rf rf (by omega) (by omega)) rfl ?_;refine aB (Ie rf rf hX iA fin (by omega) (by omega)) rfl ?_;refine J5 ?_;refine eP ?_;refine Rt ?_;refine Af ?_)
                      all_goals
                       refine iJ ((y.1+1,(fN (some y.2) (L.getD y.1 aZ.zero).nd).getD y.2)) ?_ (hw1:=λ w hw=>by rw[hmk];exact hw.back)
                       · refine⟨by omega,by rw[zQ (by omega),hx.2.1,hmk];rfl,λ i hi=>?_⟩
                         rcases Nat.lt_succ_iff_lt_or_eq.1 hi with h|rfl
                         · exact hx.2.2 i h
                         · exact hok
           · refine bM rfl ?_;refine cR ?_
             refine aT Tryz.results117 (λ w hw=>?_)
             have hy:y.1=L.length:=by omega
             have hmm:marks cs.length L=some y.2:=by have:=hx.2.1;rwa [hy,List.take_length] at this
             exact⟨true,rfl,⟨λ _=>⟨by omega,by omega,by omega,by omega,hcells,λ i hi=>hx.2.2 i (by omega),by rw[hmm];exact λ h=>nomatch h⟩,λ _=>rfl⟩,hw.done⟩
end

/- An arena with a state. -/
end Go.Proofs.YtbajmaoegmbfgaaGreat
namespace Go.Ct
section
theorem H6{n:Nd}{xs:List Int}{ys:List Pr}(h:cC n xs ys)(hk:n.kind=1):n.c xs ys=fA.c:=by
 have e:=uZ.1 h.1
 rw[e]
 simp[Nd.own,Nd.kC,Nd.jD,hk,Nd.c,aZ.c,fA,Nd.zero]
theorem jW.all{L L':List aZ}{cs:List Int}{gen:Int}(h:jW L cs gen)(h2:L'.map aZ.c=(L.drop 2).map aZ.c):(cB L').map aZ.c=L.map aZ.c:=by
 have h0:=h.nodes 0 (by have:=h.two;omega)
 have h1:=h.nodes 1 (by have:=h.two;omega)
 have e0:(L.getD 0 aZ.zero).c=fA.c:=H6 h0.1 h.m0
 have e1:(L.getD 1 aZ.zero).c=fA.c:=H6 h1.1 h.m1
 have h3:=h.two
 match L,h3 with
 | a::b::r,_ =>
  simp only[List.getD_cons_zero,List.getD_cons_succ] at e0 e1
  simp only[List.drop_succ_cons,List.drop_zero] at h2
  simp only[cB,List.map_cons,h2,e0,e1]
end
end Go.Ct
namespace Go.Proofs.YtbajmaoegmbfgaaGreat
section
open Go.RowKit Go.Ct
theorem aCx{L:List aZ}{cs:List Int}{gen:Int}{pn pc:Option Addr}{cn cc:Nat}{w:World}(h:Bl w L cs pn pc)(hL:L.length<=274877906944)(hC:cs.length<=274877906944)(hp:¬jW L cs gen) :
  Calls Tryz.prog 71 #[.agg ⟨[.slice pn L.length cn,.slice pc cs.length cc,.int .i64 gen]⟩] w λ e w'=>e=.returned (.tuple #[.pointer none,.int .i64 1])/\St w [] [] w':=by
 refine enter Tryz.func71 Tryz.ntmps71 rfl rfl h.start ?_
 simp only[bY]
 refine J0 ?_;refine bO (λ x1=>?_);refine J8 ?_;refine aV ?_;refine pK ?_;refine aC (c0 (V:=.bool) (hc:=λ w1 hw=>Qr ⟨hw.cl (.bN .head),hw.cl (.bN (.tail .head)),λ f hf=>(hw.bN f (List.mem_cons_of_mem _ (List.mem_cons_of_mem _ hf))).1,h.fit⟩ hL hC)) (λ x8 h8=>?_);refine oX ?_
 refine bE (λ c9=>?_) (λ c9=>?_)
 ·refine Q5 ?_
  refine bD Tryz.results71 (λ w hw=>?_)
  exact⟨rfl,hw.done⟩
 ·exact absurd (h8.1 c9) hp
theorem Z0{L:List aZ}{cs:List Int}{gen:Int}{pn pc:Option Addr}{cn cc:Nat}{w:World}(h:Bl w L cs pn pc)(hL:L.length<=274877906944)(hC:cs.length<=274877906944)(hcn:L.length<=cn)(hp:jW L cs gen) :
  Calls Tryz.prog 71 #[.agg ⟨[.slice pn L.length cn,.slice pc cs.length cc,.int .i64 gen]⟩] w λ e w'=>∃x:Nat×List aZ×(Option Addr×Nat)×(Option Addr×Nat),e=.returned (.tuple #[.pointer (some ⟨x.1,0,none⟩),.int .i64 0]) /\
   ((cB x.2.1).map aZ.c=L.map aZ.c/\Fits x.2.1)/\SF w [] [(x.1,aO x.2.1 cs gen 0 x.2.2.1.1 x.2.2.1.2 x.2.2.2.1 x.2.2.2.2)] [] (aM x.2.1) (mW x.2.1 cs x.2.2.1.1 x.2.2.1.2 x.2.2.2.1 x.2.2.2.2) w':=by
 have h2L:=hp.two
 refine enter Tryz.func71 Tryz.ntmps71 rfl rfl h.start ?_
 simp only[bY]
 refine J0 ?_;refine bO (λ x1=>?_);refine J8 ?_;refine aV ?_;refine pK ?_;refine aC (c0 (V:=.bool) (hc:=λ w1 hw=>Qr ⟨hw.cl (.bN .head),hw.cl (.bN (.tail .head)),λ f hf=>(hw.bN f (List.mem_cons_of_mem _ (List.mem_cons_of_mem _ hf))).1,h.fit⟩ hL hC)) (λ x8 h8=>?_);refine oX ?_
 refine bE (λ c9=>?_) (λ c9=>?_)
 ·exact absurd hp (λ hp=>by rw[h8.2 hp] at c9;cases c9)
 ·refine lA ?_;refine dX [(0,[]),(1,[]),(3,[]),(4,[]),(2,[4]),(5,[]),(6,[]),(7,[])] ?_;refine lV ?_;refine lV ?_;refine bC (i:=2) (hq:=(Rx (Hc:=λ _=>[]) (Fc:=λ _=>[]) (hc:=λ w1 hw=>yY (hw.cl fin) hC))) (h:=λ x12 h12=>?_);refine gC ?_;refine ig (h:=λ x16=>?_);refine J7 ?_;refine J2 ?_;refine P4 ?_;refine aB (jJ (n:=2) rf rf (by omega) (by omega)) rfl ?_;refine vK (λ x22=>?_);refine O7 ?_;refine Du ?_;(refine aR (ti (k:=2) rf rf hX (by exact tR rfl) (by omega) fin hcn rfl) (λ x27=>?_));refine dI ?_;refine Af ?_;refine cI ?_
  refine nA [6,29,30,31,32,33,34,35,36,37,38,39,40,41,42,43,44] (λ y:List aZ×Option Addr×Nat=>[(29,.int .i64 ((y.1.length:Nat):Int))]) (λ y=>y.1.map aZ.c=((L.drop 2).take y.1.length).map aZ.c/\y.1.length<=L.length-2/\Fits y.1) (λ y=>[(x16,.cells ⟨[.slice y.2.1 y.1.length y.2.2,.slice x12.1 cs.length x12.2,.int .i64 gen,.int .i64 0]⟩ 139 (0,0)),(x1,.cells ⟨[.slice pn L.length cn,.slice pc cs.length cc,.int .i64 gen]⟩ 52 (0,0))]) (λ y=>aM y.1) (λ y=>[⟨y.2.1,gN y.1,y.2.2,47,14⟩,⟨x12.1,aG cs,x12.2,37,1⟩]) (λ y=>L.length-2-y.1.length) (([],some ⟨x22,0,none⟩,L.length-2)) (⟨rfl,Nat.zero_le _,λ _ h=>(List.not_mem_nil h).elim⟩) (λ y f hx=>?_) (hw0:=λ w hw=>hw.back)
  dsimp only[gR,List.map,List.cons_append,List.nil_append]
  refine J0 ?_;refine vX ?_;refine aV ?_
  refine bE (λ c30=>?_) (λ c30=>?_)
  ·refine qI ?_;refine J0 ?_;refine aB (Bg rf rf hX dJ fin (by omega) (by rw[List.length_drop];omega)) rfl ?_;refine aB (Tz rf dJ fin (by rw[List.length_drop];omega)) rfl ?_;refine aI (λ x6=>?_);refine J5 ?_;refine dX [(0,[]),(1,[]),(2,[]),(3,[]),(4,[]),(5,[]),(6,[4]),(7,[4]),(8,[]),(9,[]),(10,[]),(11,[])] ?_;refine Zi ?_;refine bP ?_;refine bC (i:=6) (hq:=(cF (V:=λ p:Option Addr×Option Addr=>.agg ⟨(((L.drop 2).getD y.1.length aZ.zero).at_ p.1 p.2).nd.cells⟩) (hc:=λ w1 hw=>W3 (hw.ze (L:=L) (λ f hf=>.inr (.inl (List.mem_cons_of_mem _ (List.mem_cons_of_mem _ (List.mem_cons_of_mem _ hf))))) h.fit (List.mem_of_mem_drop (iL (by rw[List.length_drop];omega)))) (h.fit _ (List.mem_of_mem_drop (iL (by rw[List.length_drop];omega)))).brS (h.fit _ (List.mem_of_mem_drop (iL (by rw[List.length_drop];omega)))).prS))) (h:=λ x39 h39=>?_);refine cG (h:=λ x40=>?_);((refine cN (i:=8) (hq:=(bF.eK (V3 (((L.drop 2).getD y.1.length aZ.zero).at_ x39.1 x39.2) rf rf yS rfl fin Q7 rfl hX om) uO)) (h:=λ x41=>?_);try (refine eY (λ h41=>?_))));refine J88 ?_;refine eP ?_;refine Rt ?_;refine Af ?_
   refine iJ ((y.1++[((L.drop 2).getD y.1.length aZ.zero).at_ x39.1 x39.2],x41.1,x41.2)) ?_ (hw1:=λ w hw=>by
    have h3:=hw.v9 (L:=y.1) (v:=((L.drop 2).getD y.1.length aZ.zero).at_ x39.1 x39.2) (F':=[]) (List.mem_cons_of_mem _ (List.mem_cons_self ..)) (List.mem_cons_of_mem _ (List.mem_cons_of_mem _ (List.mem_cons_self ..))) (λ f hf=>List.mem_cons_of_mem _ (List.mem_cons_of_mem _ (List.mem_cons_of_mem _ hf)))
    have h4:=h3.sub (H':=[_,_]) (by repeat (first|exact List.Sublist.refl _|apply List.Sublist.cons)) aY.all (List.Sublist.refl _)
    simpa using h4) (hμ:=by simp only[List.length_append,List.length_cons,List.length_nil];omega)
   ·have hlt:y.1.length<(L.drop 2).length:=by rw[List.length_drop];omega
    refine⟨?_,by simp only[List.length_append,List.length_cons,List.length_nil];omega,λ v hv=>?_⟩
    ·rw[List.map_append,hx.1,List.length_append,List.length_singleton,List.take_succ_eq_append_getElem hlt,List.map_append,kQ,List.getElem?_eq_getElem hlt]
     rfl
    ·rcases List.mem_append.1 hv with hv|hv
     ·exact hx.2.2 v hv
     ·simp only[List.mem_singleton] at hv
      subst hv
      exact aZ.Tx (h.fit _ (List.mem_of_mem_drop (iL hlt))) _ _
  ·refine bM rfl ?_;refine J2 ?_;refine J8 ?_
   refine bD Tryz.results71 (λ w hw=>?_)
   have hlen:y.1.length=L.length-2:=by omega
   refine⟨(x16,y.1,(y.2.1,y.2.2),(x12.1,x12.2)),rfl,⟨hp.all (by rw[hx.1,hlen,List.take_of_length_le (by rw[List.length_drop];omega)]),hx.2.2⟩,?_⟩
   exact hw.ret (by repeat (first|exact List.nil_sublist _|apply List.Sublist.cons_cons)) aY.all (List.Sublist.refl _)
end

/- Tapes: choices out of a list of numbers. -/
section
open Go.RowKit Go.Ct
abbrev Bh:=cu 114
abbrev si(w:World):=L6 w 114
theorem aBx(v n:Int)(w:World)(hn:IntKind.u64.wrap n≠0):Calls Tryz.prog 46 #[.int .i64 v,.int .i64 n] w λ e w'=>e=.returned (.int .i64 (W4 v n))/\St w [] [] w':=by
 refine enter Tryz.func46 Tryz.ntmps46 rfl rfl (SF.s0 w) ?_
 simp only[bY]
 refine cR ?_;refine J2 ?_;refine gF ?_;refine aA ?_;refine gF ?_;refine aAZ ?_;refine gF ?_;refine J1 ?_
 refine aT Tryz.results46 (λ w hw=>?_)
 exact⟨rfl,hw.done⟩
theorem lq{l:List Int}{a:Option Addr}{c:Nat}{w:World}:Calls Tryz.prog 21 #[.slice a l.length c] w λ e w' =>
  ∃b:Nat,e=.returned (.pointer (some ⟨b,0,none⟩))/\True/\SF w [] [(b,Bh a l c 0)] [] [] [] w':=by
 refine enter Tryz.func21 Tryz.ntmps21 rfl rfl (SF.s0 w) ?_
 simp only[bY]
 refine cR ?_;refine J2 ?_;refine bJ ?_;refine bO (λ x5=>?_);refine J1 ?_
 refine aT Tryz.results21 (λ w hw=>?_)
 exact⟨x5,rfl,trivial,hw.aU⟩
theorem eT{l:List Int}{a:Option Addr}{b c k:Nat}{w:World}(n:Int)(ht:si w b a l c k)(h0:0<n)(h1:n<=9223372036854775807) :
  Calls Tryz.prog 22 #[.pointer (some ⟨b,0,none⟩),.int .i64 n] w λ e w' =>
  ∃v:Nat,e=.returned (.int .i64 ((v:Nat):Int))/\((v:Int)<n/\v=tvN l k n)/\SF w [b] ((b,Bh a l c (lQ l k))::[]) [] [] [] w':=by
 have hl:=ht.len
 have hu:IntKind.u64.wrap n≠0:=by rw[wrap_u64];omega
 refine enter Tryz.func22 Tryz.ntmps22 rfl rfl ht.start ?_
 simp only[bY]
 refine Is ?_;refine aV ?_;refine gJ [0,1,2,3,4,5,6,7,8,9] ?_;refine D2 ?_;refine pV ?_;refine aAB ?_;refine eC ?_
 refine bE (λ c14=>?_) (λ c14=>?_)
 ·refine cR ?_
  refine aT Tryz.results22 (λ w hw=>?_)
  exact⟨0,rfl,⟨by omega,by simp only[tvN];rw[if_neg (by omega)]⟩,by simp only[lQ];rw[if_neg (by omega)];exact hw.aU⟩
 ·refine vi ?_;refine Dw ?_;refine O7 ?_;refine aV ?_;refine gJ [0,1,2,3,4,5,6,7,8,9,10,11,12,13] ?_;refine D2 ?_;refine On ?_;refine Oa ?_;refine aP ?_;refine cN (i:=12) (hq:=(cV (hc:=λ w1 hw=>aBx (l.getD (k+1-1) 0) n w1 hu))) (h:=λ x34=>?_);refine J7 ?_
  refine aT Tryz.results22 (λ w hw=>?_)
  have hb:=Sc (v:=l.getD k 0) h0 h1
  exact⟨(W4 (l.getD k 0) n).toNat,by rw[Int.toNat_of_nonneg hb.1];rfl,⟨by omega,by simp only[tvN];rw[if_pos (by omega)]⟩,by simp only[lQ];rw[if_pos (by omega)];exact hw.aU⟩
def lO:List ByteArray:=[⟨#[97]⟩,⟨#[98]⟩,⟨#[99]⟩,⟨#[100]⟩,⟨#[97,98]⟩,⟨#[]⟩,⟨#[98,48]⟩,⟨#[107,101,121]⟩]
theorem vo{l:List Int}{a:Option Addr}{b c k:Nat}{w:World}(ht:si w b a l c k) :
  Calls Tryz.prog 59 #[.pointer (some ⟨b,0,none⟩)] w λ e w' =>
  ∃v:Nat,e=.returned (.string (lO.getD v ⟨#[]⟩))/\(v<8/\v=tvN l k 8)/\SF w [b] ((b,Bh a l c (lQ l k))::[]) [] [] [] w':=by
 refine enter Tryz.func59 Tryz.ntmps59 rfl rfl ht.start ?_
 simp only[bY]
 refine cR ?_;refine J0 ?_;refine gX (λ x3=>?_);refine aA ?_;refine aC (xK (hc:=λ w1 hw=>eT 8 (hw.tape cL fin ht.len) (by decide) (by decide))) (λ x5 h5=>?_);refine aB (jo (lst:=lO) rf rf hX iA fin (by omega) (by simp only[lO,List.length_cons,List.length_nil];omega)) rfl ?_;refine aB (rb (lst:=lO) rf iA fin (by simp only[lO,List.length_cons,List.length_nil];omega)) rfl ?_;refine J1 ?_
 refine aT Tryz.results59 (λ w hw=>?_)
 exact⟨x5,rfl,⟨by omega,h5.2⟩,hw.aU⟩
end

/- States are compared. -/
end Go.Proofs.YtbajmaoegmbfgaaGreat
namespace Go.Ct
section
theorem ji{L1 L2:List aZ}(h:L1.length=L2.length):L1.map aZ.c=L2.map aZ.c↔∀i,i<L1.length->(L1.getD i aZ.zero).c=(L2.getD i aZ.zero).c:=by
 constructor
 ·intro e i hi
  have h1:(L1.map aZ.c)[i]?=(L2.map aZ.c)[i]?:=by rw[e]
  rw[List.getElem?_map,List.getElem?_map,List.getElem?_eq_getElem hi,List.getElem?_eq_getElem (h▸hi)] at h1
  rw[kQ,kQ,List.getElem?_eq_getElem hi,List.getElem?_eq_getElem (h▸hi)]
  simpa using h1
 ·intro e
  refine List.ext_getElem? λ i=>?_
  rw[List.getElem?_map,List.getElem?_map]
  by_cases hi:i<L1.length
  ·have h1:=e i hi
   rw[kQ,kQ,List.getElem?_eq_getElem hi,List.getElem?_eq_getElem (h▸hi)] at h1
   rw[List.getElem?_eq_getElem hi,List.getElem?_eq_getElem (h▸hi)]
   simpa using h1
  ·rw[List.getElem?_eq_none (by omega),List.getElem?_eq_none (by omega)]
def Tj(L1 L2:List aZ)(c1 c2:List Int)(g1 g2:Int):Prop:=L1.map aZ.c=L2.map aZ.c/\g1=g2/\c1=c2
end
end Go.Ct
namespace Go.Proofs.YtbajmaoegmbfgaaGreat
section
open Go.RowKit Go.Ct
theorem R9{L1 L2:List aZ}{cs1 cs2:List Int}{pn1 pc1 pn2 pc2:Option Addr}{w:World}(h1:Bl w L1 cs1 pn1 pc1)(h2:Bl w L2 cs2 pn2 pc2) :
  SF w [] [] ((pn1,gN L1)::(pc1,aG cs1)::(pn2,gN L2)::(pc2,aG cs2)::(aM L1++aM L2)) [] [] w:=SF.begin λ f hf=>by
 rcases List.mem_cons.1 hf with rfl|hf
 ·exact h1.nds
 rcases List.mem_cons.1 hf with rfl|hf
 ·exact h1.cls
 rcases List.mem_cons.1 hf with rfl|hf
 ·exact h2.nds
 rcases List.mem_cons.1 hf with rfl|hf
 ·exact h2.cls
 rcases List.mem_append.1 hf with hf|hf
 ·exact h1.fam f hf
 ·exact h2.fam f hf
theorem um{f1 f2 f3 f4 f:Option Addr×List Value}{F:Fr}(h:f∈F):f∈f1::f2::f3::f4::F:=List.mem_cons_of_mem _ (List.mem_cons_of_mem _ (List.mem_cons_of_mem _ (List.mem_cons_of_mem _ h)))
theorem wj{L1 L2:List aZ}{cs1 cs2:List Int}{g1 g2:Int}{pn1 pc1 pn2 pc2:Option Addr}{n1 n2 c1 c2:Nat}{w:World}(h1:Bl w L1 cs1 pn1 pc1)(h2:Bl w L2 cs2 pn2 pc2)(hL1:L1.length<=274877906944)(hL2:L2.length<=274877906944)(hc1:cs1.length<=274877906944) :
  Calls Tryz.prog 62 #[.agg ⟨[.slice pn1 L1.length n1,.slice pc1 cs1.length c1,.int .i64 g1]⟩,.agg ⟨[.slice pn2 L2.length n2,.slice pc2 cs2.length c2,.int .i64 g2]⟩] w λ e w'=>∃r:Bool,e=.returned (.bool r)/\(r=true↔Tj L1 L2 cs1 cs2 g1 g2)/\St w [] [] w':=by
 refine enter Tryz.func62 Tryz.ntmps62 rfl rfl (R9 h1 h2) ?_
 simp only[bY]
 refine J0 ?_;refine bO (λ x2=>?_);refine bO (λ x3=>?_);refine iZ ?_;refine gZ ?_;refine dI ?_;refine P4 ?_;refine qA ?_;refine aA ?_
 (refine eM 13 (λ g13=>?_) (λ g13=>?_)<;>(first|refine aJ ?_|(refine aF ?_;refine aE ?_)))
 all_goals (refine Bj ?_;refine Ru ?_;refine aA ?_)
 all_goals (first|refine aJ ?_|(refine eM 20 (λ g20=>?_) (λ g20=>?_)<;>(first|refine aJ ?_|(refine aF ?_;refine aE ?_))))
 all_goals (refine Bj ?_;(first|refine aJ ?_|(refine aF ?_;refine aR (cV (hc:=λ w1 hw=>ng (hw.cl (.bN (.tail .head))) (hw.cl (.bN (.tail (.tail (.tail .head))))) (by omega))) (λ x25=>?_)));refine Q6 ?_;refine aH ?_)
 all_goals
 refine bE (λ c27=>?_) (λ c27=>?_)
 ·all_goals refine cR ?_
  all_goals
   refine aT Tryz.results62 (λ w hw=>?_)
   exact⟨false,rfl,⟨(λ h=>nomatch h),λ hs=>by
   have e1:=congrArg List.length hs.1
   simp only[List.length_map] at e1
   have e2:=hs.2.1
   have e3:=hs.2.2
   first|omega|(subst e3;simp at c27)⟩,hw.done⟩
 ·try exact nv c27
  all_goals (refine lA ?_;refine Fs ?_)
  all_goals
   have hlen:L1.length=L2.length:=by omega
   refine fF [4,5,28,29,30,31,32,33,34,35,36,37,38,39,40,41,42,43,44,45,46] (λ k=>[(5,.int .i64 ((k:Nat):Int))]) (λ k=>k<=L1.length/\∀i,i<k->(L1.getD i aZ.zero).c=(L2.getD i aZ.zero).c) (λ k=>L1.length-k) (0) (⟨Nat.zero_le _,λ i hi=>absurd hi (Nat.not_lt_zero i)⟩) ?_ (λ k f hx=>?_)
   ·repeat (first|exact bG _|refine bA (by exact rfl) ?_)
   dsimp only[gR,List.map,List.cons_append,List.nil_append]
   refine kM ?_;refine P4 ?_;refine vX ?_
   refine bE (λ c32=>?_) (λ c32=>?_)
   ·refine qI ?_;refine aV ?_;refine gJ [0,1,2,3,4,5,6,7,8,9,10,11] ?_;refine lV ?_;refine aP ?_;refine Oa ?_;refine lV ?_;refine aP ?_;refine Oa ?_;refine bC (i:=10) (hq:=(c0 (V:=.bool) (hc:=λ w1 hw=>Wy (hw.ze (L:=L1) (λ f hf=>.inr (.inl (um (List.mem_append_left _ hf)))) h1.fit (iL (k:=k) (by omega))) (hw.ze (L:=L2) (λ f hf=>.inr (.inl (um (List.mem_append_right _ hf)))) h2.fit (iL (k:=k) (by omega)))))) (h:=λ x45 h45=>?_);refine F3 ?_;refine eC ?_
    refine bE (λ c46=>?_) (λ c46=>?_)
    ·refine cR ?_
     refine aT Tryz.results62 (λ w hw=>?_)
     exact⟨false,rfl,⟨(λ h=>nomatch h),λ hs=>by
     have h1:=(ji hlen).1 hs.1 k (by omega)
     rw[h45.2 (uZ.2 h1)] at c46
     cases c46⟩,hw.done⟩
    ·refine oB ?_;refine yH ?_
     refine dY (k+1) ?_ ?_ ?_
     ·omega
     ·repeat' (first|exact bG _|refine bA ?_ ?_)
      exact rfl
     ·exact⟨by omega,λ i hi=>by rcases Nat.lt_succ_iff_lt_or_eq.1 hi with h|rfl;exact hx.2 i h;exact uZ.1 (h45.1 c46)⟩
   ·refine bM rfl ?_;refine cR ?_
    refine aT Tryz.results62 (λ w hw=>?_)
    exact⟨true,rfl,⟨λ _=>⟨(ji hlen).2 λ i hi=>hx.2 i (by omega),by omega,by simpa using c27⟩,λ _=>rfl⟩,hw.done⟩
theorem Ll{L1 L2:List aZ}{cs1 cs2:List Int}{g1 g2:Int}{pn1 pc1 pn2 pc2:Option Addr}{n1 n2 c1 c2:Nat}{w:World}(h1:Bl w L1 cs1 pn1 pc1)(h2:Bl w L2 cs2 pn2 pc2)(hL1:L1.length<=274877906944)(hL2:L2.length<=274877906944)(hc1:cs1.length<=274877906944)(h:Tj L1 L2 cs1 cs2 g1 g2) :
  Calls Tryz.prog 62 #[.agg ⟨[.slice pn1 L1.length n1,.slice pc1 cs1.length c1,.int .i64 g1]⟩,.agg ⟨[.slice pn2 L2.length n2,.slice pc2 cs2.length c2,.int .i64 g2]⟩] w λ e w'=>e=.returned (.bool true)/\St w [] [] w' :=
 (wj h1 h2 hL1 hL2 hc1).mono λ e w' ⟨r,he,hr,hst⟩=>⟨by rw[he,hr.2 h],hst⟩
end

/- Nodes of arenas, written out. -/
end Go.Proofs.YtbajmaoegmbfgaaGreat
namespace Go.Ct
section
open Go Go.RowKit
end
end Go.Ct
namespace Go.Proofs.YtbajmaoegmbfgaaGreat
section
open Go.RowKit Go.Ct
section
variable{w:World}{D:List Nat}{b:Nat}{L:List aZ}{cs:List Int}{gen acc:Int}{pn pc:Option Addr}{cn cc:Nat}{A:Fr}
end
end

/- Calls through interfaces. -/
end Go.Proofs.YtbajmaoegmbfgaaGreat
namespace Go.Ct
section
open Go Go.RowKit
section
variable{P:Program}{S:List (Nat×Value)}{G:World->Prop}{d:Nat}{ty t t2:TypeId}{pos:String}{af:Array Edge}{gd:Option (Nat×Bool)}{x y:Operand}{dst:Option Nat}{v:Value}
theorem Vb{f:FuncId}{xs:List Operand}{at_:Array TypeId}{vs:List Value}{t:TypeId}{pv:Value}{name:String}(hx:ev S x=.iface t pv)(ha:pI S xs=vs)(hm:∀w,(callMethod (.iface t pv) name ⟨vs⟩).run P w=.ok (.enter f ⟨pv::vs⟩) w)(w:World) :
  (execOp (ev S) ⟨dst,.call {callee:=.invoke x name,args:=⟨xs⟩,argTypes:=at_},ty,pos,af,gd⟩).run P w=.ok (.enter f ⟨pv::vs⟩) w:=by
 subst ha
 have hm':(xs.map (ev S)).toArray=⟨pI S xs⟩:=by rw[Az]
 have:=hm w
 simp only[execOp,resolve,hx]
 simp[invoke,hm',this]
theorem U9(hx:ev S x=v)(h:∀w,(Instr.makeInterface t v).run P w=.ok (.iface t v) w):aL P S G ⟨some d,.makeInterface t x,ty,pos,af,gd⟩ (.iface t v):=⟨λ w _=>by
 simp[execOp,hx,h w]⟩
theorem P2{b off:Nat}(hx:ev S x=.iface t (.pointer (some ⟨b,off,none⟩))):aL P S G ⟨some d,.nilCheck x,ty,pos,af,gd⟩ (.iface t (.pointer (some ⟨b,off,none⟩))):=⟨λ w _=>by
 simp[execOp,hx]⟩
end
end
end Go.Ct
namespace Go.Proofs.YtbajmaoegmbfgaaGreat
section
open Go Go.RowKit Go.Ct
theorem de(p:Option Addr)(a:Value)(w:World):(callMethod (.iface 42 (.pointer p)) "Node" #[a]).run Tryz.prog w=.ok (.enter 36 #[.pointer p,a]) w:=by kernel_rfl
theorem Yr(p:Option Addr)(a b:Value)(w:World):(callMethod (.iface 42 (.pointer p)) "Alloc" #[a,b]).run Tryz.prog w=.ok (.enter 29 #[.pointer p,a,b]) w:=by kernel_rfl
theorem xC(p:Option Addr)(w:World):(Instr.makeInterface 42 (.pointer p)).run Tryz.prog w=.ok (.iface 42 (.pointer p)) w:=by kernel_rfl
section
variable{S:List (Nat×Value)}{w0 w:World}{M:List Nat}{H:List (Nat×Obj)}{A F:Fr}{O:List Ow}{ty:TypeId}{pos:String}{af:Array Edge}{gd:Option (Nat×Bool)}{X:Type}{V:X->Value}
theorem cMI{φ:X->Prop}{hs H':List (Nat×Obj)}{os O':List Ow}{hs' H1:X->List (Nat×Obj)}{os' O1:X->List Ow}{Fc F1:X->Fr}{A0:Fr}{is js:List Nat}{f:FuncId}{recv:Operand}{t:TypeId}{pv:Value}{name:String}{xs:List Operand}{at_:Array TypeId}{vs:List Value}{dst:Option Nat}
  (hx:ev S recv=.iface t pv:=by(conv=>{lhs;whnf}))
  (ha:pI S xs=vs:=by(repeat (first|exact cD _|(apply bU;focus ((conv=>{lhs;whnf});try exact rfl))));first|done|fail) (hm:∀w,(callMethod (.iface t pv) name ⟨vs⟩).run Tryz.prog w=.ok (.enter f ⟨pv::vs⟩) w)
  (hc:∀w,SF w (Ks hs os) hs A0 [] os w->Calls Tryz.prog f ⟨pv::vs⟩ w λ e w'=>∃x,e=.returned (V x)/\φ x/\SF w (Ks hs os) (hs' x) [] (Fc x) (os' x) w')
  (hH:lU H is hs H':=by(repeat (first|exact lU.nil|(apply lU.cons;(focus ((repeat (first|exact yN.head|apply yN.tail));done));simp only[qG])));first|done|fail)
  (hO:lU O js os O':=by(repeat (first|exact lU.nil|(apply lU.cons;(focus ((repeat (first|exact yN.head|apply yN.tail));done));simp only[qG])));first|done|fail)
  (hA:aX A F O' A0:=by(repeat (first|exact aX.of (λ _ h=>Or.inr (Or.inl h))|exact aX.nil|(refine aX.cons (by first|exact Or.inl rfl|exact Or.inr (Or.inr (Or.inl (by simp)))|exact Or.inr (Or.inl (by simp))|exact Or.inr (Or.inr (Or.inr (by simp)))) ?_)));first|done|fail)
  (hl1:∀x,is.length=(hs' x).length:=by intro x;exact rfl) (hl2:∀x,js.length=(os' x).length:=by intro x;exact rfl)
  (hH1:∀x,iN is (hs' x) H'=H1 x:=by intro x;first|(simp only[iN,rD];exact rfl)|exact rfl) (hF1:∀x,Fc x++F=F1 x:=by intro x;first|(simp only[List.nil_append,List.cons_append];exact rfl)|exact rfl) (hO1:∀x,iN js (os' x) O'=O1 x:=by intro x;simp only[iN,rD,mW];exact rfl) :
  bF Tryz.prog S (SF w0 M H A F O) ⟨dst,.call {callee:=.invoke recv name,args:=⟨xs⟩,argTypes:=at_},ty,pos,af,gd⟩ X V (λ x w=>φ x/\SF w0 M (H1 x) A (F1 x) (O1 x) w) :=
 gD (Vb hx ha hm) λ w hw=>(hc w (hw.pQ hH hO hA)).mono λ _ _ ⟨x,he,hx,hs⟩=>⟨x,he,hx,by
  have:=hw.wX (hs':=hs' x) (Hc:=[]) (os':=os' x) (Oc:=[]) hH hO (by simpa using hs) (hl1 x) (hl2 x)
  rw[<- hH1 x,<- hF1 x,<- hO1 x]
  simpa using this⟩
theorem aCc{φ:X->Prop}{hs H':List (Nat×Obj)}{os O':List Ow}{hs' H1:X->List (Nat×Obj)}{os' Oc O1:X->List Ow}{Fc F1:X->Fr}{A0:Fr}{is js:List Nat}{f:FuncId}{recv:Operand}{t:TypeId}{pv:Value}{name:String}{xs:List Operand}{at_:Array TypeId}{vs:List Value}{dst:Option Nat}
  (hx:ev S recv=.iface t pv:=by(conv=>{lhs;whnf}))
  (ha:pI S xs=vs:=by(repeat (first|exact cD _|(apply bU;focus ((conv=>{lhs;whnf});try exact rfl))));first|done|fail) (hm:∀w,(callMethod (.iface t pv) name ⟨vs⟩).run Tryz.prog w=.ok (.enter f ⟨pv::vs⟩) w)
  (hc:∀w,SF w (Ks hs os) hs A0 [] os w->Calls Tryz.prog f ⟨pv::vs⟩ w λ e w'=>∃x,e=.returned (V x)/\φ x/\SF w (Ks hs os) (hs' x) [] (Fc x) (os' x++Oc x) w')
  (hH:lU H is hs H':=by(repeat (first|exact lU.nil|(apply lU.cons;(focus ((repeat (first|exact yN.head|apply yN.tail));done));simp only[qG])));first|done|fail)
  (hO:lU O js os O':=by(repeat (first|exact lU.nil|(apply lU.cons;(focus ((repeat (first|exact yN.head|apply yN.tail));done));simp only[qG])));first|done|fail)
  (hA:aX A F O' A0:=by(repeat (first|exact aX.of (λ _ h=>Or.inr (Or.inl h))|exact aX.nil|(refine aX.cons (by first|exact Or.inl rfl|exact Or.inr (Or.inr (Or.inl (by simp)))|exact Or.inr (Or.inl (by simp))|exact Or.inr (Or.inr (Or.inr (by simp)))) ?_)));first|done|fail)
  (hl1:∀x,is.length=(hs' x).length:=by intro x;exact rfl) (hl2:∀x,js.length=(os' x).length:=by intro x;exact rfl)
  (hH1:∀x,iN is (hs' x) H'=H1 x:=by intro x;first|(simp only[iN,rD];exact rfl)|exact rfl) (hF1:∀x,Fc x++F=F1 x:=by intro x;first|(simp only[List.nil_append,List.cons_append];exact rfl)|exact rfl) (hO1:∀x,Oc x++iN js (os' x) O'=O1 x:=by intro x;simp only[iN,rD,mW,List.nil_append,List.cons_append];exact rfl) :
  bF Tryz.prog S (SF w0 M H A F O) ⟨dst,.call {callee:=.invoke recv name,args:=⟨xs⟩,argTypes:=at_},ty,pos,af,gd⟩ X V (λ x w=>φ x/\SF w0 M (H1 x) A (F1 x) (O1 x) w) :=
 gD (Vb hx ha hm) λ w hw=>(hc w (hw.pQ hH hO hA)).mono λ _ _ ⟨x,he,hx,hs⟩=>⟨x,he,hx,by
  have:=hw.wX (hs':=hs' x) (Hc:=[]) (os':=os' x) (Oc:=Oc x) hH hO (by simpa using hs) (hl1 x) (hl2 x)
  rw[<- hH1 x,<- hF1 x,<- hO1 x]
  simpa using this⟩
end
end

/- A store of several cells into a known block. -/
end Go.Proofs.YtbajmaoegmbfgaaGreat
namespace Go.Ct
section
open Go Go.RowKit
section
variable{P:Program}{n:Nat}{ds:List Deferred}{Q:Exit->Act->World->Prop}{ks:List CK}{S:List (Nat×Value)}{G:World->Prop}{ops:Array Oper}{l:List Oper}
variable{w0:World}{M:List Nat}{H:List (Nat×Obj)}{A F:Fr}{O:List Ow}
variable{d:Nat}{ty t:TypeId}{pos:String}{af:Array Edge}{gd:Option (Nat×Bool)}{dst:Option Nat}{x y:Operand}{v:Value}{w w':World}
theorem lK{b off i:Nat}{vs bN cs:List Value}{T:TypeId}{H':List (Nat×Obj)}(hx:ev S x=.pointer (some ⟨b,off,none⟩))(ha:At H i b (.cells ⟨bN⟩ T (0,0)))(hy:ev S y=.agg ⟨vs⟩)(h1:vs.all (·.oneCell')=true)
  (ht:jQ P t vs.length=true) (hl:off+vs.length<=bN.length) (hcs:bN.take off++vs++bN.drop (off+vs.length)=cs) (hH:setAt H i (.cells ⟨cs⟩ T (0,0))=H') :
  bF P S (St w0 M H) ⟨none,.store t x y,ty,pos,af,gd⟩ Unit (λ _=>undef) (λ _=>St w0 M H') :=
 wU (λ w hw=>by
  subst hH hcs
  have hb:=hw.at ha
  obtain⟨dd,hu,hm,hi⟩:=iG ht
  have hst:=run_storeCells_at (P:=P) b off T vs 0 ⟨bN⟩ w hb (by simpa using hl) (by simpa using h1)
  simp only[Nat.add_zero] at hst
  refine⟨w.setRow b ⟨bN.take off++vs++bN.drop (off+vs.length)⟩,?_,hw.write ha rfl rfl rfl (by simp) (λ k hk=>setRow_other w b k _ hk) (setRow_heap w b ⟨bN⟩ _ T (0,0) hb)⟩
  cases hq':P.info? t with
  | none=>rw[hq'] at hi;simp at hi
  | some inf =>
   have hs:inf.size=vs.length:=by rw[hq'] at hi;simpa using hi
   simp[execOp,hx,hy,Instr.storeAt,Instr.sureAddr,storeVar,sizeOf,typeInfo,hq',hs,Value.cells,hst])
end
end

/- Loads out of lists that are known. -/
section
open Go Go.RowKit
section
variable{P:Program}{S:List (Nat×Value)}{w0 w w':World}{M:List Nat}{H:List (Nat×Obj)}{A F:Fr}{O:List Ow}{d:Nat}{ty t:TypeId}{pos:String}{af:Array Edge}{gd:Option (Nat×Bool)}{x y:Operand}{v:Value}
theorem Ap{a:Option Addr}{cs vs:List Value}{q k:Nat}(hx:ev S x=.pointer (some ⟨dC a,eH a+q,none⟩))(ht:jQ P t k=true)(hf:qZ A F O a cs)(hv:(cs.drop q).take k=vs)(hl:vs.length=k) :
  aL P S (SF w0 M H A F O) ⟨some d,.load t x,ty,pos,af,gd⟩ (.agg ⟨vs⟩):=⟨λ w hw=>by
 have hcl:=hw.cl hf
 obtain⟨dd,hu,hm,hi⟩:=iG ht
 have hagg:(isAgg t).run P w=.ok true w:=by
  unfold isAgg
  rw[Sem.run_bind,run_underlying hu w]
  cases dd<;>simp_all
 have hc:(loadCells ⟨dC a,eH a+q,none⟩ k).run P w=.ok ⟨vs⟩ w:=by
  have:=run_loadCells_list (P:=P) w ⟨dC a,eH a+q,none⟩ vs (λ j z hz=>by
   subst hv
   have hj:=(List.getElem?_eq_some_iff.1 hz).1
   have h2:cs[q+j]?=some z:=by
    rw[List.getElem?_take_of_lt (by simp at hj;omega),List.getElem?_drop] at hz
    exact hz
   rw[Addr.add_lit,show eH a+q+j=eH a+(q+j) by omega]
   exact(hcl.at_ _ _ h2).2)
  rw[hl] at this
  simpa using this
 cases hq':P.info? t with
 | none=>rw[hq'] at hi;simp at hi
 | some i =>
  have hs:i.size=k:=by rw[hq'] at hi;simpa using hi
  simp[execOp,hx,Instr.loadAt,Instr.sureAddr,loadVar,hagg,Go.sizeOf,typeInfo,hq',hs,hc]⟩
theorem jm{a:Option Addr}{cs:List Value}{q:Nat}{v:Value}(hx:ev S x=.pointer (some ⟨dC a,eH a+q,none⟩))(ht:one P t=true)(hf:qZ A F O a cs)(hq:cs[q]?=some v) :
  aL P S (SF w0 M H A F O) ⟨some d,.load t x,ty,pos,af,gd⟩ v:=qT hx ht (λ w hw=>hw.cl hf) hq
end
end

end Go.Ct
