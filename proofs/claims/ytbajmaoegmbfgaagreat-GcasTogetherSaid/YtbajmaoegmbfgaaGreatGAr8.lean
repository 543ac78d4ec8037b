/- Proper states: the walk through the program's check. -/
import Derived.Test.YtbajmaoegmbfgaaGreatGAr5
import Derived.Test.YtbajmaoegmbfgaaGreatAuto
import Derived.Test.YtbajmaoegmbfgaaGreatGLst3
import Derived.Test.YtbajmaoegmbfgaaGreatGJoin

set_option linter.unusedSimpArgs false
set_option linter.unusedVariables false
namespace Go.Proofs.YtbajmaoegmbfgaaGreat
section
open Go.RowKit Go.Ct
set_option maxRecDepth 100000 in
theorem Oy{L:List aP}{cs:List Int}{gen:Int}{pn pc:Option Addr}{cn cc:Nat}{w:World}(h:oF w L cs pn pc)(hL:L.length<=274877906944)(hC:cs.length<=274877906944) :
    Calls Tryz.prog 117 #[.agg ⟨[.slice pn L.length cn,.slice pc cs.length cc,.int .i64 gen]⟩] w λ e w'=>∃r:Bool,e=.returned (.bool r)/\(r=true↔gV L cs gen)/\St w [] [] w':=by
  refine enter Tryz.func117 Tryz.ntmps117 rfl rfl h.start ?_
  simp only[bX]
  refine J0 ?_;refine bI (λ x1=>?_);refine iB ?_;refine gZ ?_;refine dB ?_;refine Cq ?_
  (refine eE 14 (λ g14=>?_) (λ g14=>?_)<;>(first|refine aI ?_|(refine aF ?_;refine aE ?_)))
  all_goals (refine zo ?_;refine aH ?_)
  all_goals
   refine bB (λ c18=>?_) (λ c18=>?_)
   · all_goals refine cO ?_
     all_goals
      refine aT Tryz.results117 (λ w hw=>?_)
      exact⟨false,rfl,⟨(λ h=>nomatch h),λ hp=>by have h1:=hp.two;have h2:=hp.gen0;exfalso;omega⟩,hw.done⟩
   · try exact nv c18
     all_goals (refine jV ?_;refine gZ ?_;refine aC (rY (k:=0) rf rf fZ eD fin (by omega) (by omega)) rfl ?_;refine aE ?_;refine aC (vO (q:=0) rf fQ fin (by omega)) rfl ?_;refine lS ?_;refine aA ?_)
     all_goals ((refine eE 25 (λ g25=>?_) (λ g25=>?_)<;>(first|refine aI ?_|(refine aF ?_;refine aE ?_))))
     all_goals ((first|refine aI ?_|(refine aF ?_;refine bL ?_));(first|refine aI ?_|(refine aF ?_;refine aC (rY (k:=1) rf rf fZ eD fin (by omega) (by omega)) rfl ?_));(first|refine aI ?_|(refine aF ?_;refine aE ?_));(first|refine aI ?_|(refine aF ?_;refine aC (vO (q:=1) rf fQ fin (by omega)) rfl ?_));refine Rq ?_;refine aH ?_)
     all_goals
      refine bB (λ c32=>?_) (λ c32=>?_)
      · all_goals refine cO ?_
        all_goals
         refine aT Tryz.results117 (λ w hw=>?_)
         exact⟨false,rfl,⟨(λ h=>nomatch h),λ hp=>by have h1:=hp.m0;have h2:=hp.m1;exfalso;omega⟩,hw.done⟩
      · try exact nv c32
        all_goals (refine jV ?_;refine gZ ?_;refine dB ?_;refine Ee ?_;refine cR ?_)
        all_goals
         refine gB [2,4,36,37,38,39,40,41,42,43,44,45,46] (λ k=>[(36,.int .i64 ((k:Nat):Int))]) (λ k=>k<=cs.length/\∀i,i<k->Ed (cs.getD i 0) L.length) (λ k=>cs.length-k) (0) (⟨Nat.zero_le _,λ i hi=>absurd hi (Nat.not_lt_zero i)⟩) ?_ (λ k f hx=>?_)
         · repeat (first|exact bD _|refine aX (by exact rfl) ?_)
         dsimp only[gU,List.map,List.cons_append,List.nil_append]
         refine J0 ?_;refine xA ?_;refine aV ?_
         refine bB (λ c37=>?_) (λ c37=>?_)
         · refine qE ?_;refine J0 ?_;refine Rl ?_;refine J1 ?_;refine J2 ?_;refine Nw ?_;refine aS (cV (hc:=λ w1 hw=>vR _ _ w1)) (λ x44=>?_);refine oH ?_
           refine bB (λ c45=>?_) (λ c45=>?_)
           · refine cO ?_
             refine aT Tryz.results117 (λ w hw=>?_)
             exact⟨false,rfl,⟨(λ h=>nomatch h),λ hp=>absurd (hp.cells k (by omega)) (by assumption)⟩,hw.done⟩
           · refine nZ ?_;refine Zn ?_;refine Ee ?_
             refine eK (k+1) ?_ ?_ ?_
             · omega
             · repeat' (first|exact bD _|refine aX ?_ ?_)
               exact rfl
             · exact⟨by omega,λ i hi=>by rcases Nat.lt_succ_iff_lt_or_eq.1 hi with h|rfl;exact hx.2 i h;assumption⟩
         · refine bN rfl ?_;refine gZ ?_;refine dB ?_;refine qU (λ x50=>?_);refine iB ?_;refine gZ ?_;refine dB ?_;refine Ee ?_;refine cR ?_
           have hcells:∀i,i<cs.length->Ed (cs.getD i 0) L.length:=λ i hi=>hx.2 i (by omega)
           clear hx
           refine mZ [2,7,8,9,54,55,56,57,58,59,60,61,62,63,64,65,66,67,68,69,70,71,72,73,74,75,76,77,78,79,80,81,82,83,84,85,86,87,88,89,90,91,92,93,94,95,96,97,98,99,100,101,102,103] (λ y:Nat×List Bool=>[(54,.int .i64 ((y.1:Nat):Int))]) (λ y=>y.1<=L.length/\marks cs.length (L.take y.1)=some y.2/\∀i,i<y.1->mR gen L.length (L.getD i aP.zero)) (λ _=>_) (λ _=>_) (λ y=>[⟨some ⟨x50,0,none⟩,jD y.2,cs.length,4,1⟩]) (λ y=>L.length-y.1) ((0,List.replicate cs.length false)) (⟨Nat.zero_le _,rfl,λ i hi=>absurd hi (Nat.not_lt_zero i)⟩) (λ y f hx=>?_)
           dsimp only[gU,List.map,List.cons_append,List.nil_append]
           have hu:=Ce hx.2.1
           refine J0 ?_;refine xA ?_;refine aV ?_
           refine bB (λ c55=>?_) (λ c55=>?_)
           · refine qE ?_;refine J0 ?_;refine Rl ?_;refine aJ (λ x7=>?_);refine J5 ?_;refine aV ?_;refine nQ ?_;refine aD (c0 (V:=.bool) (hc:=λ w1 hw=>Yp (hw.Pv h.fit (by omega)))) (λ x59 h59=>?_);refine Bt ?_
             (refine eE 61 (λ g61=>?_) (λ g61=>?_)<;>(first|refine aI ?_|(refine aF ?_;refine aE ?_)))
             all_goals (refine Aa ?_;refine Bh ?_;refine aA ?_)
             all_goals (first|refine aI ?_|(refine eE 68 (λ g68=>?_) (λ g68=>?_)<;>(first|refine aI ?_|(refine aF ?_;refine bL ?_))))
             all_goals (refine S4 ?_;(first|refine aI ?_|(refine aF ?_;refine aD (c0 (V:=.bool) (hc:=λ w1 hw=>Md (hw.Pv h.fit (by omega)).brN (hw.Pv h.fit (by omega)).br (hw.Pv h.fit (by omega)).brS)) (λ x73 h73=>?_)));refine Qn ?_;refine aH ?_)
             all_goals
              refine bB (λ c75=>?_) (λ c75=>?_)
              · all_goals refine cO ?_
                all_goals
                 refine aT Tryz.results117 (λ w hw=>?_)
                 refine⟨false,rfl,⟨(λ h=>nomatch h),λ hp=>?_⟩,hw.done⟩
                 obtain⟨q1,q2,q3⟩:=hp.nodes y.1 (by omega)
                 first|(exfalso;omega)|(have:=h59.2 q1;simp_all;done) 
              · try exact nv c75
                all_goals
                 have hok:mR gen L.length (L.getD y.1 aP.zero):=⟨h59.1 (by simp_all),by omega,h73.1 (by simp_all)⟩
                all_goals (refine bA ?_;refine nQ ?_;refine aS (cV (hc:=λ w1 hw=>ae (L.getD y.1 aP.zero).nd w1)) (λ x78=>?_);refine Ev ?_;refine J8 ?_;refine kB ?_;refine oH ?_)
                all_goals
                 refine bB (λ c82=>?_) (λ c82=>?_)
                 · have hmk:eT (some y.2) (L.getD y.1 aP.zero).nd=some y.2:=by
                    have e:gE (L.getD y.1 aP.zero).nd=none:=by cases hq:gE (L.getD y.1 aP.zero).nd<;>simp_all
                    simp only[eT,e]
                   refine bN rfl ?_;refine Zn ?_;refine Ee ?_
                   refine iP ((y.1+1,(eT (some y.2) (L.getD y.1 aP.zero).nd).getD y.2)) ?_ (hw1:=λ w hw=>by rw[hmk];exact hw.back)
                   · refine⟨by omega,by rw[nL (by omega),hx.2.1,hmk];rfl,λ i hi=>?_⟩
                     rcases Nat.lt_succ_iff_lt_or_eq.1 hi with h|rfl
                     · exact hx.2.2 i h
                     · exact hok
                 · obtain⟨c,hc⟩:∃c,gE (L.getD y.1 aP.zero).nd=some c:=Option.isSome_iff_exists.1 c82
                   rw[hc,Option.getD_some]
                   refine jV ?_;refine J2 ?_;refine Cq ?_
                   (refine eE 85 (λ g85=>?_) (λ g85=>?_)<;>(first|refine aI ?_|(refine aF ?_;refine aA ?_)))
                   all_goals (refine S4 ?_;refine Bh ?_;refine aA ?_)
                   all_goals (first|refine aI ?_|(refine eE 92 (λ g92=>?_) (λ g92=>?_)<;>(first|refine aI ?_|(refine aF ?_;refine aA ?_))))
                   all_goals ((first|refine aI ?_|(refine aF ?_;refine aA ?_));(first|refine aI ?_|(refine aF ?_;refine aC (Lj rf rf (by omega) (by omega)) rfl ?_));(first|refine aI ?_|(refine aF ?_;refine aC (oA rf rf fZ fQ fin (by omega) (by omega)) rfl ?_));(first|refine aI ?_|(refine aF ?_;refine aC (A2 rf fQ fin (by omega)) rfl ?_));refine cB ?_;refine aH ?_)
                   all_goals
                    refine bB (λ c98=>?_) (λ c98=>?_)
                    · all_goals refine cO ?_
                      all_goals
                       refine aT Tryz.results117 (λ w hw=>?_)
                       refine⟨false,rfl,⟨(λ h=>nomatch h),λ hp=>?_⟩,hw.done⟩
                       have hm:marks cs.length (L.take (y.1+1))=none:=by
                        rw[nL (by omega),hx.2.1]
                        simp only[eT,hc]
                        refine if_neg λ hh=>?_
                        obtain⟨q1,q2,q3⟩:=hh
                        first|(exfalso;omega)|(exfalso;rw[q3] at c98;cases c98)
                       exact absurd (F6 hm) hp.marks
                    · try exact nv c98
                      all_goals
                       have hmk:eT (some y.2) (L.getD y.1 aP.zero).nd=some (y.2.set (c-1).toNat true):=by
                        simp only[eT,hc]
                        rw[if_pos ⟨by omega,by omega,c98⟩]
                      all_goals (refine bA ?_;refine I2 ?_;refine aC (Lj rf rf (by omega) (by omega)) rfl ?_;refine aC (oA rf rf fZ fQ fin (by omega) (by omega)) rfl ?_;refine J5 ?_;refine fK ?_;refine Zn ?_;refine Ee ?_)
                      all_goals
                       refine iP ((y.1+1,(eT (some y.2) (L.getD y.1 aP.zero).nd).getD y.2)) ?_ (hw1:=λ w hw=>by rw[hmk];exact hw.back)
                       · refine⟨by omega,by rw[nL (by omega),hx.2.1,hmk];rfl,λ i hi=>?_⟩
                         rcases Nat.lt_succ_iff_lt_or_eq.1 hi with h|rfl
                         · exact hx.2.2 i h
                         · exact hok
           · refine bN rfl ?_;refine cO ?_
             refine aT Tryz.results117 (λ w hw=>?_)
             have hy:y.1=L.length:=by omega
             have hmm:marks cs.length L=some y.2:=by have:=hx.2.1;rwa [hy,List.take_length] at this
             exact⟨true,rfl,⟨λ _=>⟨by omega,by omega,by omega,by omega,hcells,λ i hi=>hx.2.2 i (by omega),by rw[hmm];exact λ h=>nomatch h⟩,λ _=>rfl⟩,hw.done⟩
end

/- An arena with a state. -/
end Go.Proofs.YtbajmaoegmbfgaaGreat
namespace Go.Ct
section
theorem Gz{n:Nd}{xs:List Int}{ys:List Pr}(h:bY n xs ys)(hk:n.kind=1):n.c xs ys=fL.c:=by
 have e:=rR.1 h.1
 rw[e]
 simp[Nd.own,Nd.jT,Nd.jB,hk,Nd.c,aP.c,fL,Nd.zero]
theorem gV.all{L L':List aP}{cs:List Int}{gen:Int}(h:gV L cs gen)(h2:L'.map aP.c=(L.drop 2).map aP.c):(cZ L').map aP.c=L.map aP.c:=by
 have h0:=h.nodes 0 (by have:=h.two;omega)
 have h1:=h.nodes 1 (by have:=h.two;omega)
 have e0:(L.getD 0 aP.zero).c=fL.c:=Gz h0.1 h.m0
 have e1:(L.getD 1 aP.zero).c=fL.c:=Gz h1.1 h.m1
 have h3:=h.two
 match L,h3 with
 | a::b::r,_ =>
  simp only[List.getD_cons_zero,List.getD_cons_succ] at e0 e1
  simp only[List.drop_succ_cons,List.drop_zero] at h2
  simp only[cZ,List.map_cons,h2,e0,e1]
end
end Go.Ct
namespace Go.Proofs.YtbajmaoegmbfgaaGreat
section
open Go.RowKit Go.Ct
theorem aB9{L:List aP}{cs:List Int}{gen:Int}{pn pc:Option Addr}{cn cc:Nat}{w:World}(h:oF w L cs pn pc)(hL:L.length<=274877906944)(hC:cs.length<=274877906944)(hp:¬gV L cs gen) :
  Calls Tryz.prog 71 #[.agg ⟨[.slice pn L.length cn,.slice pc cs.length cc,.int .i64 gen]⟩] w λ e w'=>e=.returned (.tuple #[.pointer none,.int .i64 1])/\St w [] [] w':=by
 refine enter Tryz.func71 Tryz.ntmps71 rfl rfl h.start ?_
 simp only[bX]
 refine J0 ?_;refine bI (λ x1=>?_);refine J8 ?_;refine aV ?_;refine nQ ?_;refine aD (c0 (V:=.bool) (hc:=λ w1 hw=>Oy ⟨hw.cl (.bK .head),hw.cl (.bK (.tail .head)),λ f hf=>(hw.bK f (List.mem_cons_of_mem _ (List.mem_cons_of_mem _ hf))).1,h.fit⟩ hL hC)) (λ x8 h8=>?_);refine oH ?_
 refine bB (λ c9=>?_) (λ c9=>?_)
 ·refine P7 ?_
  refine bC Tryz.results71 (λ w hw=>?_)
  exact⟨rfl,hw.done⟩
 ·exact absurd (h8.1 c9) hp
theorem j5{L:List aP}{cs:List Int}{gen:Int}{pn pc:Option Addr}{cn cc:Nat}{w:World}(h:oF w L cs pn pc)(hL:L.length<=274877906944)(hC:cs.length<=274877906944)(hcn:L.length<=cn)(hp:gV L cs gen) :
  Calls Tryz.prog 71 #[.agg ⟨[.slice pn L.length cn,.slice pc cs.length cc,.int .i64 gen]⟩] w λ e w'=>∃x:Nat×List aP×(Option Addr×Nat)×(Option Addr×Nat),e=.returned (.tuple #[.pointer (some ⟨x.1,0,none⟩),.int .i64 0]) /\
   ((cZ x.2.1).map aP.c=L.map aP.c/\Fits x.2.1)/\SF w [] [(x.1,aO x.2.1 cs gen 0 x.2.2.1.1 x.2.2.1.2 x.2.2.2.1 x.2.2.2.2)] [] (aK x.2.1) (mW x.2.1 cs x.2.2.1.1 x.2.2.1.2 x.2.2.2.1 x.2.2.2.2) w':=by
 have h2L:=hp.two
 refine enter Tryz.func71 Tryz.ntmps71 rfl rfl h.start ?_
 simp only[bX]
 refine J0 ?_;refine bI (λ x1=>?_);refine J8 ?_;refine aV ?_;refine nQ ?_;refine aD (c0 (V:=.bool) (hc:=λ w1 hw=>Oy ⟨hw.cl (.bK .head),hw.cl (.bK (.tail .head)),λ f hf=>(hw.bK f (List.mem_cons_of_mem _ (List.mem_cons_of_mem _ hf))).1,h.fit⟩ hL hC)) (λ x8 h8=>?_);refine oH ?_
 refine bB (λ c9=>?_) (λ c9=>?_)
 ·exact absurd hp (λ hp=>by rw[h8.2 hp] at c9;cases c9)
 ·refine jV ?_;refine dK [(0,[]),(1,[]),(3,[]),(4,[]),(2,[4]),(5,[]),(6,[]),(7,[])] ?_;refine kG ?_;refine kG ?_;refine aZ (i:=2) (hq:=(Pn (Hc:=λ _=>[]) (Fc:=λ _=>[]) (hc:=λ w1 hw=>zH (hw.cl fin) hC))) (h:=λ x12 h12=>?_);refine fA ?_;refine aBY (h:=λ x16=>?_);refine J7 ?_;refine J2 ?_;refine Nw ?_;refine aC (jG (n:=2) rf rf (by omega) (by omega)) rfl ?_;refine qU (λ x22=>?_);refine Qj ?_;refine Dk ?_;(refine aS (q7 (k:=2) rf rf fZ (by exact tZ rfl) (by omega) fin hcn rfl) (λ x27=>?_));refine dB ?_;refine Ee ?_;refine cR ?_
  refine mZ [6,29,30,31,32,33,34,35,36,37,38,39,40,41,42,43,44] (λ y:List aP×Option Addr×Nat=>[(29,.int .i64 ((y.1.length:Nat):Int))]) (λ y=>y.1.map aP.c=((L.drop 2).take y.1.length).map aP.c/\y.1.length<=L.length-2/\Fits y.1) (λ y=>[(x16,.cells ⟨[.slice y.2.1 y.1.length y.2.2,.slice x12.1 cs.length x12.2,.int .i64 gen,.int .i64 0]⟩ 139 (0,0)),(x1,.cells ⟨[.slice pn L.length cn,.slice pc cs.length cc,.int .i64 gen]⟩ 52 (0,0))]) (λ y=>aK y.1) (λ y=>[⟨y.2.1,hU y.1,y.2.2,47,14⟩,⟨x12.1,aG cs,x12.2,37,1⟩]) (λ y=>L.length-2-y.1.length) (([],some ⟨x22,0,none⟩,L.length-2)) (⟨rfl,Nat.zero_le _,λ _ h=>(List.not_mem_nil h).elim⟩) (λ y f hx=>?_) (hw0:=λ w hw=>hw.back)
  dsimp only[gU,List.map,List.cons_append,List.nil_append]
  refine J0 ?_;refine xA ?_;refine aV ?_
  refine bB (λ c30=>?_) (λ c30=>?_)
  ·refine qE ?_;refine J0 ?_;refine aC (rY rf rf fZ eD fin (by omega) (by rw[List.length_drop];omega)) rfl ?_;refine aC (Vu rf eD fin (by rw[List.length_drop];omega)) rfl ?_;refine aJ (λ x6=>?_);refine J5 ?_;refine dK [(0,[]),(1,[]),(2,[]),(3,[]),(4,[]),(5,[]),(6,[4]),(7,[4]),(8,[]),(9,[]),(10,[]),(11,[])] ?_;refine Y0 ?_;refine bG ?_;refine aZ (i:=6) (hq:=(cF (V:=λ p:Option Addr×Option Addr=>.agg ⟨(((L.drop 2).getD y.1.length aP.zero).at_ p.1 p.2).nd.cells⟩) (hc:=λ w1 hw=>U5 (hw.zx (L:=L) (λ f hf=>.inr (.inl (List.mem_cons_of_mem _ (List.mem_cons_of_mem _ (List.mem_cons_of_mem _ hf))))) h.fit (List.mem_of_mem_drop (eV (by rw[List.length_drop];omega)))) (h.fit _ (List.mem_of_mem_drop (eV (by rw[List.length_drop];omega)))).brS (h.fit _ (List.mem_of_mem_drop (eV (by rw[List.length_drop];omega)))).prS))) (h:=λ x39 h39=>?_);refine bV (h:=λ x40=>?_);((refine cH (i:=8) (hq:=(bE.eN (Vq (((L.drop 2).getD y.1.length aP.zero).at_ x39.1 x39.2) rf rf zB rfl fin Nn rfl fZ om) uD)) (h:=λ x41=>?_);try (refine eC (λ h41=>?_))));refine J88 ?_;refine fK ?_;refine Zn ?_;refine Ee ?_
   refine iP ((y.1++[((L.drop 2).getD y.1.length aP.zero).at_ x39.1 x39.2],x41.1,x41.2)) ?_ (hw1:=λ w hw=>by
    have h3:=hw.vc (L:=y.1) (v:=((L.drop 2).getD y.1.length aP.zero).at_ x39.1 x39.2) (F':=[]) (List.mem_cons_of_mem _ (List.mem_cons_self ..)) (List.mem_cons_of_mem _ (List.mem_cons_of_mem _ (List.mem_cons_self ..))) (λ f hf=>List.mem_cons_of_mem _ (List.mem_cons_of_mem _ (List.mem_cons_of_mem _ hf)))
    have h4:=h3.sub (H':=[_,_]) (by repeat (first|exact List.Sublist.refl _|apply List.Sublist.cons)) aY.all (List.Sublist.refl _)
    simpa using h4) (hμ:=by simp only[List.length_append,List.length_cons,List.length_nil];omega)
   ·have hlt:y.1.length<(L.drop 2).length:=by rw[List.length_drop];omega
    refine⟨?_,by simp only[List.length_append,List.length_cons,List.length_nil];omega,λ v hv=>?_⟩
    ·rw[List.map_append,hx.1,List.length_append,List.length_singleton,List.take_succ_eq_append_getElem hlt,List.map_append,jH,List.getElem?_eq_getElem hlt]
     rfl
    ·rcases List.mem_append.1 hv with hv|hv
     ·exact hx.2.2 v hv
     ·simp only[List.mem_singleton] at hv
      subst hv
      exact aP.de (h.fit _ (List.mem_of_mem_drop (eV hlt))) _ _
  ·refine bN rfl ?_;refine J2 ?_;refine J8 ?_
   refine bC Tryz.results71 (λ w hw=>?_)
   have hlen:y.1.length=L.length-2:=by omega
   refine⟨(x16,y.1,(y.2.1,y.2.2),(x12.1,x12.2)),rfl,⟨hp.all (by rw[hx.1,hlen,List.take_of_length_le (by rw[List.length_drop];omega)]),hx.2.2⟩,?_⟩
   exact hw.ret (by repeat (first|exact List.nil_sublist _|apply List.Sublist.cons_cons)) aY.all (List.Sublist.refl _)
end

/- Tapes: choices out of a list of numbers. -/
section
open Go.RowKit Go.Ct
abbrev Bj:=je 114
abbrev oo(w:World):=Mc w 114
theorem aBf(v n:Int)(w:World)(hn:IntKind.u64.wrap n≠0):Calls Tryz.prog 46 #[.int .i64 v,.int .i64 n] w λ e w'=>e=.returned (.int .i64 (Yu v n))/\St w [] [] w':=by
 refine enter Tryz.func46 Tryz.ntmps46 rfl rfl (SF.s0 w) ?_
 simp only[bX]
 refine cO ?_;refine J2 ?_;refine nK ?_;refine aA ?_;refine nK ?_;refine aBe ?_;refine nK ?_;refine J1 ?_
 refine aT Tryz.results46 (λ w hw=>?_)
 exact⟨rfl,hw.done⟩
theorem j9{l:List Int}{a:Option Addr}{c:Nat}{w:World}:Calls Tryz.prog 21 #[.slice a l.length c] w λ e w' =>
  ∃b:Nat,e=.returned (.pointer (some ⟨b,0,none⟩))/\True/\SF w [] [(b,Bj a l c 0)] [] [] [] w':=by
 refine enter Tryz.func21 Tryz.ntmps21 rfl rfl (SF.s0 w) ?_
 simp only[bX]
 refine cO ?_;refine J2 ?_;refine bJ ?_;refine bI (λ x5=>?_);refine J1 ?_
 refine aT Tryz.results21 (λ w hw=>?_)
 exact⟨x5,rfl,trivial,hw.aU⟩
theorem eL{l:List Int}{a:Option Addr}{b c k:Nat}{w:World}(n:Int)(ht:oo w b a l c k)(h0:0<n)(h1:n<=9223372036854775807) :
  Calls Tryz.prog 22 #[.pointer (some ⟨b,0,none⟩),.int .i64 n] w λ e w' =>
  ∃v:Nat,e=.returned (.int .i64 ((v:Nat):Int))/\((v:Int)<n/\v=tvN l k n)/\SF w [b] ((b,Bj a l c (kH l k))::[]) [] [] [] w':=by
 have hl:=ht.len
 have hu:IntKind.u64.wrap n≠0:=by rw[wrap_u64];omega
 refine enter Tryz.func22 Tryz.ntmps22 rfl rfl ht.start ?_
 simp only[bX]
 refine G0 ?_;refine aV ?_;refine gJ [0,1,2,3,4,5,6,7,8,9] ?_;refine D6 ?_;refine oC ?_;refine aBp ?_;refine dY ?_
 refine bB (λ c14=>?_) (λ c14=>?_)
 ·refine cO ?_
  refine aT Tryz.results22 (λ w hw=>?_)
  exact⟨0,rfl,⟨by omega,by simp only[tvN];rw[if_neg (by omega)]⟩,by simp only[kH];rw[if_neg (by omega)];exact hw.aU⟩
 ·refine uk ?_;refine G6 ?_;refine Qj ?_;refine aV ?_;refine gJ [0,1,2,3,4,5,6,7,8,9,10,11,12,13] ?_;refine D6 ?_;refine Qv ?_;refine Oe ?_;refine aN ?_;refine cH (i:=12) (hq:=(cV (hc:=λ w1 hw=>aBf (l.getD (k+1-1) 0) n w1 hu))) (h:=λ x34=>?_);refine J7 ?_
  refine aT Tryz.results22 (λ w hw=>?_)
  have hb:=T6 (v:=l.getD k 0) h0 h1
  exact⟨(Yu (l.getD k 0) n).toNat,by rw[Int.toNat_of_nonneg hb.1];rfl,⟨by omega,by simp only[tvN];rw[if_pos (by omega)]⟩,by simp only[kH];rw[if_pos (by omega)];exact hw.aU⟩
def lU:List ByteArray:=[⟨#[97]⟩,⟨#[98]⟩,⟨#[99]⟩,⟨#[100]⟩,⟨#[97,98]⟩,⟨#[]⟩,⟨#[98,48]⟩,⟨#[107,101,121]⟩]
theorem vg{l:List Int}{a:Option Addr}{b c k:Nat}{w:World}(ht:oo w b a l c k) :
  Calls Tryz.prog 59 #[.pointer (some ⟨b,0,none⟩)] w λ e w' =>
  ∃v:Nat,e=.returned (.string (lU.getD v ⟨#[]⟩))/\(v<8/\v=tvN l k 8)/\SF w [b] ((b,Bj a l c (kH l k))::[]) [] [] [] w':=by
 refine enter Tryz.func59 Tryz.ntmps59 rfl rfl ht.start ?_
 simp only[bX]
 refine cO ?_;refine J0 ?_;refine fE (λ x3=>?_);refine aA ?_;refine aD (uS (hc:=λ w1 hw=>eL 8 (hw.tape cQ fin ht.len) (by decide) (by decide))) (λ x5 h5=>?_);refine aC (fj (lst:=lU) rf rf fZ fQ fin (by omega) (by simp only[lU,List.length_cons,List.length_nil];omega)) rfl ?_;refine aC (q0 (lst:=lU) rf fQ fin (by simp only[lU,List.length_cons,List.length_nil];omega)) rfl ?_;refine J1 ?_
 refine aT Tryz.results59 (λ w hw=>?_)
 exact⟨x5,rfl,⟨by omega,h5.2⟩,hw.aU⟩
end

/- States are compared. -/
end Go.Proofs.YtbajmaoegmbfgaaGreat
namespace Go.Ct
section
theorem ls{L1 L2:List aP}(h:L1.length=L2.length):L1.map aP.c=L2.map aP.c↔∀i,i<L1.length->(L1.getD i aP.zero).c=(L2.getD i aP.zero).c:=by
 constructor
 ·intro e i hi
  have h1:(L1.map aP.c)[i]?=(L2.map aP.c)[i]?:=by rw[e]
  rw[List.getElem?_map,List.getElem?_map,List.getElem?_eq_getElem hi,List.getElem?_eq_getElem (h▸hi)] at h1
  rw[jH,jH,List.getElem?_eq_getElem hi,List.getElem?_eq_getElem (h▸hi)]
  simpa using h1
 ·intro e
  refine List.ext_getElem? λ i=>?_
  rw[List.getElem?_map,List.getElem?_map]
  by_cases hi:i<L1.length
  ·have h1:=e i hi
   rw[jH,jH,List.getElem?_eq_getElem hi,List.getElem?_eq_getElem (h▸hi)] at h1
   rw[List.getElem?_eq_getElem hi,List.getElem?_eq_getElem (h▸hi)]
   simpa using h1
  ·rw[List.getElem?_eq_none (by omega),List.getElem?_eq_none (by omega)]
def Sk(L1 L2:List aP)(c1 c2:List Int)(g1 g2:Int):Prop:=L1.map aP.c=L2.map aP.c/\g1=g2/\c1=c2
end
end Go.Ct
namespace Go.Proofs.YtbajmaoegmbfgaaGreat
section
open Go.RowKit Go.Ct
theorem Uk{L1 L2:List aP}{cs1 cs2:List Int}{pn1 pc1 pn2 pc2:Option Addr}{w:World}(h1:oF w L1 cs1 pn1 pc1)(h2:oF w L2 cs2 pn2 pc2) :
  SF w [] [] ((pn1,hU L1)::(pc1,aG cs1)::(pn2,hU L2)::(pc2,aG cs2)::(aK L1++aK L2)) [] [] w:=SF.begin λ f hf=>by
 rcases List.mem_cons.1 hf with rfl|hf
 ·exact h1.nds
 rcases List.mem_cons.1 hf with rfl|hf
 ·exact h1.cls
 rcases List.mem_cons.1 hf with rfl|hf
 ·exact h2.nds
 rcases List.mem_cons.1 hf with rfl|hf
 ·exact h2.cls
 rcases List.mem_append.1 hf with hf|hf
 ·exact h1.fam f hf
 ·exact h2.fam f hf
theorem u9{f1 f2 f3 f4 f:Option Addr×List Value}{F:Fr}(h:f∈F):f∈f1::f2::f3::f4::F:=List.mem_cons_of_mem _ (List.mem_cons_of_mem _ (List.mem_cons_of_mem _ (List.mem_cons_of_mem _ h)))
theorem wa{L1 L2:List aP}{cs1 cs2:List Int}{g1 g2:Int}{pn1 pc1 pn2 pc2:Option Addr}{n1 n2 c1 c2:Nat}{w:World}(h1:oF w L1 cs1 pn1 pc1)(h2:oF w L2 cs2 pn2 pc2)(hL1:L1.length<=274877906944)(hL2:L2.length<=274877906944)(hc1:cs1.length<=274877906944) :
  Calls Tryz.prog 62 #[.agg ⟨[.slice pn1 L1.length n1,.slice pc1 cs1.length c1,.int .i64 g1]⟩,.agg ⟨[.slice pn2 L2.length n2,.slice pc2 cs2.length c2,.int .i64 g2]⟩] w λ e w'=>∃r:Bool,e=.returned (.bool r)/\(r=true↔Sk L1 L2 cs1 cs2 g1 g2)/\St w [] [] w':=by
 refine enter Tryz.func62 Tryz.ntmps62 rfl rfl (Uk h1 h2) ?_
 simp only[bX]
 refine J0 ?_;refine bI (λ x2=>?_);refine bI (λ x3=>?_);refine iB ?_;refine gZ ?_;refine dB ?_;refine Nw ?_;refine lS ?_;refine aA ?_
 (refine eE 13 (λ g13=>?_) (λ g13=>?_)<;>(first|refine aI ?_|(refine aF ?_;refine aE ?_)))
 all_goals (refine Aa ?_;refine Rq ?_;refine aA ?_)
 all_goals (first|refine aI ?_|(refine eE 20 (λ g20=>?_) (λ g20=>?_)<;>(first|refine aI ?_|(refine aF ?_;refine aE ?_))))
 all_goals (refine Aa ?_;(first|refine aI ?_|(refine aF ?_;refine aS (cV (hc:=λ w1 hw=>cr (hw.cl (.bK (.tail .head))) (hw.cl (.bK (.tail (.tail (.tail .head))))) (by omega))) (λ x25=>?_)));refine Qn ?_;refine aH ?_)
 all_goals
 refine bB (λ c27=>?_) (λ c27=>?_)
 ·all_goals refine cO ?_
  all_goals
   refine aT Tryz.results62 (λ w hw=>?_)
   exact⟨false,rfl,⟨(λ h=>nomatch h),λ hs=>by
   have e1:=congrArg List.length hs.1
   simp only[List.length_map] at e1
   have e2:=hs.2.1
   have e3:=hs.2.2
   first|omega|(subst e3;simp at c27)⟩,hw.done⟩
 ·try exact nv c27
  all_goals (refine jV ?_;refine Du ?_)
  all_goals
   have hlen:L1.length=L2.length:=by omega
   refine gB [4,5,28,29,30,31,32,33,34,35,36,37,38,39,40,41,42,43,44,45,46] (λ k=>[(5,.int .i64 ((k:Nat):Int))]) (λ k=>k<=L1.length/\∀i,i<k->(L1.getD i aP.zero).c=(L2.getD i aP.zero).c) (λ k=>L1.length-k) (0) (⟨Nat.zero_le _,λ i hi=>absurd hi (Nat.not_lt_zero i)⟩) ?_ (λ k f hx=>?_)
   ·repeat (first|exact bD _|refine aX (by exact rfl) ?_)
   dsimp only[gU,List.map,List.cons_append,List.nil_append]
   refine kB ?_;refine Nw ?_;refine xA ?_
   refine bB (λ c32=>?_) (λ c32=>?_)
   ·refine qE ?_;refine aV ?_;refine gJ [0,1,2,3,4,5,6,7,8,9,10,11] ?_;refine kG ?_;refine aN ?_;refine Oe ?_;refine kG ?_;refine aN ?_;refine Oe ?_;refine aZ (i:=10) (hq:=(c0 (V:=.bool) (hc:=λ w1 hw=>Xa (hw.zx (L:=L1) (λ f hf=>.inr (.inl (u9 (List.mem_append_left _ hf)))) h1.fit (eV (k:=k) (by omega))) (hw.zx (L:=L2) (λ f hf=>.inr (.inl (u9 (List.mem_append_right _ hf)))) h2.fit (eV (k:=k) (by omega)))))) (h:=λ x45 h45=>?_);refine Hg ?_;refine dY ?_
    refine bB (λ c46=>?_) (λ c46=>?_)
    ·refine cO ?_
     refine aT Tryz.results62 (λ w hw=>?_)
     exact⟨false,rfl,⟨(λ h=>nomatch h),λ hs=>by
     have h1:=(ls hlen).1 hs.1 k (by omega)
     rw[h45.2 (rR.2 h1)] at c46
     cases c46⟩,hw.done⟩
    ·refine nZ ?_;refine uN ?_
     refine eK (k+1) ?_ ?_ ?_
     ·omega
     ·repeat' (first|exact bD _|refine aX ?_ ?_)
      exact rfl
     ·exact⟨by omega,λ i hi=>by rcases Nat.lt_succ_iff_lt_or_eq.1 hi with h|rfl;exact hx.2 i h;exact rR.1 (h45.1 c46)⟩
   ·refine bN rfl ?_;refine cO ?_
    refine aT Tryz.results62 (λ w hw=>?_)
    exact⟨true,rfl,⟨λ _=>⟨(ls hlen).2 λ i hi=>hx.2 i (by omega),by omega,by simpa using c27⟩,λ _=>rfl⟩,hw.done⟩
theorem Lm{L1 L2:List aP}{cs1 cs2:List Int}{g1 g2:Int}{pn1 pc1 pn2 pc2:Option Addr}{n1 n2 c1 c2:Nat}{w:World}(h1:oF w L1 cs1 pn1 pc1)(h2:oF w L2 cs2 pn2 pc2)(hL1:L1.length<=274877906944)(hL2:L2.length<=274877906944)(hc1:cs1.length<=274877906944)(h:Sk L1 L2 cs1 cs2 g1 g2) :
  Calls Tryz.prog 62 #[.agg ⟨[.slice pn1 L1.length n1,.slice pc1 cs1.length c1,.int .i64 g1]⟩,.agg ⟨[.slice pn2 L2.length n2,.slice pc2 cs2.length c2,.int .i64 g2]⟩] w λ e w'=>e=.returned (.bool true)/\St w [] [] w' :=
 (wa h1 h2 hL1 hL2 hc1).mono λ e w' ⟨r,he,hr,hst⟩=>⟨by rw[he,hr.2 h],hst⟩
end

/- Nodes of arenas, written out. -/
end Go.Proofs.YtbajmaoegmbfgaaGreat
namespace Go.Ct
section
open Go Go.RowKit
end
end Go.Ct
namespace Go.Proofs.YtbajmaoegmbfgaaGreat
section
open Go.RowKit Go.Ct
section
variable{w:World}{D:List Nat}{b:Nat}{L:List aP}{cs:List Int}{gen acc:Int}{pn pc:Option Addr}{cn cc:Nat}{A:Fr}
end
end

/- Calls through interfaces. -/
end Go.Proofs.YtbajmaoegmbfgaaGreat
namespace Go.Ct
section
open Go Go.RowKit
section
variable{P:Program}{S:List (Nat×Value)}{G:World->Prop}{d:Nat}{ty t t2:TypeId}{pos:String}{af:Array Edge}{gd:Option (Nat×Bool)}{x y:Operand}{dst:Option Nat}{v:Value}
theorem Vv{f:FuncId}{xs:List Operand}{at_:Array TypeId}{vs:List Value}{t:TypeId}{pv:Value}{name:String}(hx:ev S x=.iface t pv)(ha:qS S xs=vs)(hm:∀w,(callMethod (.iface t pv) name ⟨vs⟩).run P w=.ok (.enter f ⟨pv::vs⟩) w)(w:World) :
  (execOp (ev S) ⟨dst,.call {callee:=.invoke x name,args:=⟨xs⟩,argTypes:=at_},ty,pos,af,gd⟩).run P w=.ok (.enter f ⟨pv::vs⟩) w:=by
 subst ha
 have hm':(xs.map (ev S)).toArray=⟨qS S xs⟩:=by rw[E5]
 have:=hm w
 simp only[execOp,resolve,hx]
 simp[invoke,hm',this]
theorem bh(hx:ev S x=v)(h:∀w,(Instr.makeInterface t v).run P w=.ok (.iface t v) w):aM P S G ⟨some d,.makeInterface t x,ty,pos,af,gd⟩ (.iface t v):=⟨λ w _=>by
 simp[execOp,hx,h w]⟩
theorem Nz{b off:Nat}(hx:ev S x=.iface t (.pointer (some ⟨b,off,none⟩))):aM P S G ⟨some d,.nilCheck x,ty,pos,af,gd⟩ (.iface t (.pointer (some ⟨b,off,none⟩))):=⟨λ w _=>by
 simp[execOp,hx]⟩
end
end
end Go.Ct
namespace Go.Proofs.YtbajmaoegmbfgaaGreat
section
open Go Go.RowKit Go.Ct
theorem gu(p:Option Addr)(a:Value)(w:World):(callMethod (.iface 42 (.pointer p)) "Node" #[a]).run Tryz.prog w=.ok (.enter 36 #[.pointer p,a]) w:=by kernel_rfl
theorem Xu(p:Option Addr)(a b:Value)(w:World):(callMethod (.iface 42 (.pointer p)) "Alloc" #[a,b]).run Tryz.prog w=.ok (.enter 29 #[.pointer p,a,b]) w:=by kernel_rfl
theorem Cn(p:Option Addr)(w:World):(Instr.makeInterface 42 (.pointer p)).run Tryz.prog w=.ok (.iface 42 (.pointer p)) w:=by kernel_rfl
section
variable{S:List (Nat×Value)}{w0 w:World}{M:List Nat}{H:List (Nat×Obj)}{A F:Fr}{O:List Ow}{ty:TypeId}{pos:String}{af:Array Edge}{gd:Option (Nat×Bool)}{X:Type}{V:X->Value}
theorem cMI{φ:X->Prop}{hs H':List (Nat×Obj)}{os O':List Ow}{hs' H1:X->List (Nat×Obj)}{os' O1:X->List Ow}{Fc F1:X->Fr}{A0:Fr}{is js:List Nat}{f:FuncId}{recv:Operand}{t:TypeId}{pv:Value}{name:String}{xs:List Operand}{at_:Array TypeId}{vs:List Value}{dst:Option Nat}
  (hx:ev S recv=.iface t pv:=by(conv=>{lhs;whnf}))
  (ha:qS S xs=vs:=by(repeat (first|exact dC _|(apply cI;focus ((conv=>{lhs;whnf});try exact rfl))));first|done|fail) (hm:∀w,(callMethod (.iface t pv) name ⟨vs⟩).run Tryz.prog w=.ok (.enter f ⟨pv::vs⟩) w)
  (hc:∀w,SF w (Ks hs os) hs A0 [] os w->Calls Tryz.prog f ⟨pv::vs⟩ w λ e w'=>∃x,e=.returned (V x)/\φ x/\SF w (Ks hs os) (hs' x) [] (Fc x) (os' x) w')
  (hH:lX H is hs H':=by(repeat (first|exact lX.nil|(apply lX.cons;(focus ((repeat (first|exact yN.head|apply yN.tail));done));simp only[qF])));first|done|fail)
  (hO:lX O js os O':=by(repeat (first|exact lX.nil|(apply lX.cons;(focus ((repeat (first|exact yN.head|apply yN.tail));done));simp only[qF])));first|done|fail)
  (hA:aW A F O' A0:=by(repeat (first|exact aW.of (λ _ h=>Or.inr (Or.inl h))|exact aW.nil|(refine aW.cons (by first|exact Or.inl rfl|exact Or.inr (Or.inr (Or.inl (by simp)))|exact Or.inr (Or.inl (by simp))|exact Or.inr (Or.inr (Or.inr (by simp)))) ?_)));first|done|fail)
  (hl1:∀x,is.length=(hs' x).length:=by intro x;exact rfl) (hl2:∀x,js.length=(os' x).length:=by intro x;exact rfl)
  (hH1:∀x,iQ is (hs' x) H'=H1 x:=by intro x;first|(simp only[iQ,qW];exact rfl)|exact rfl) (hF1:∀x,Fc x++F=F1 x:=by intro x;first|(simp only[List.nil_append,List.cons_append];exact rfl)|exact rfl) (hO1:∀x,iQ js (os' x) O'=O1 x:=by intro x;simp only[iQ,qW,mW];exact rfl) :
  bE Tryz.prog S (SF w0 M H A F O) ⟨dst,.call {callee:=.invoke recv name,args:=⟨xs⟩,argTypes:=at_},ty,pos,af,gd⟩ X V (λ x w=>φ x/\SF w0 M (H1 x) A (F1 x) (O1 x) w) :=
 hZ (Vv hx ha hm) λ w hw=>(hc w (hw.pP hH hO hA)).mono λ _ _ ⟨x,he,hx,hs⟩=>⟨x,he,hx,by
  have:=hw.xL (hs':=hs' x) (Hc:=[]) (os':=os' x) (Oc:=[]) hH hO (by simpa using hs) (hl1 x) (hl2 x)
  rw[<- hH1 x,<- hF1 x,<- hO1 x]
  simpa using this⟩
theorem aCr{φ:X->Prop}{hs H':List (Nat×Obj)}{os O':List Ow}{hs' H1:X->List (Nat×Obj)}{os' Oc O1:X->List Ow}{Fc F1:X->Fr}{A0:Fr}{is js:List Nat}{f:FuncId}{recv:Operand}{t:TypeId}{pv:Value}{name:String}{xs:List Operand}{at_:Array TypeId}{vs:List Value}{dst:Option Nat}
  (hx:ev S recv=.iface t pv:=by(conv=>{lhs;whnf}))
  (ha:qS S xs=vs:=by(repeat (first|exact dC _|(apply cI;focus ((conv=>{lhs;whnf});try exact rfl))));first|done|fail) (hm:∀w,(callMethod (.iface t pv) name ⟨vs⟩).run Tryz.prog w=.ok (.enter f ⟨pv::vs⟩) w)
  (hc:∀w,SF w (Ks hs os) hs A0 [] os w->Calls Tryz.prog f ⟨pv::vs⟩ w λ e w'=>∃x,e=.returned (V x)/\φ x/\SF w (Ks hs os) (hs' x) [] (Fc x) (os' x++Oc x) w')
  (hH:lX H is hs H':=by(repeat (first|exact lX.nil|(apply lX.cons;(focus ((repeat (first|exact yN.head|apply yN.tail));done));simp only[qF])));first|done|fail)
  (hO:lX O js os O':=by(repeat (first|exact lX.nil|(apply lX.cons;(focus ((repeat (first|exact yN.head|apply yN.tail));done));simp only[qF])));first|done|fail)
  (hA:aW A F O' A0:=by(repeat (first|exact aW.of (λ _ h=>Or.inr (Or.inl h))|exact aW.nil|(refine aW.cons (by first|exact Or.inl rfl|exact Or.inr (Or.inr (Or.inl (by simp)))|exact Or.inr (Or.inl (by simp))|exact Or.inr (Or.inr (Or.inr (by simp)))) ?_)));first|done|fail)
  (hl1:∀x,is.length=(hs' x).length:=by intro x;exact rfl) (hl2:∀x,js.length=(os' x).length:=by intro x;exact rfl)
  (hH1:∀x,iQ is (hs' x) H'=H1 x:=by intro x;first|(simp only[iQ,qW];exact rfl)|exact rfl) (hF1:∀x,Fc x++F=F1 x:=by intro x;first|(simp only[List.nil_append,List.cons_append];exact rfl)|exact rfl) (hO1:∀x,Oc x++iQ js (os' x) O'=O1 x:=by intro x;simp only[iQ,qW,mW,List.nil_append,List.cons_append];exact rfl) :
  bE Tryz.prog S (SF w0 M H A F O) ⟨dst,.call {callee:=.invoke recv name,args:=⟨xs⟩,argTypes:=at_},ty,pos,af,gd⟩ X V (λ x w=>φ x/\SF w0 M (H1 x) A (F1 x) (O1 x) w) :=
 hZ (Vv hx ha hm) λ w hw=>(hc w (hw.pP hH hO hA)).mono λ _ _ ⟨x,he,hx,hs⟩=>⟨x,he,hx,by
  have:=hw.xL (hs':=hs' x) (Hc:=[]) (os':=os' x) (Oc:=Oc x) hH hO (by simpa using hs) (hl1 x) (hl2 x)
  rw[<- hH1 x,<- hF1 x,<- hO1 x]
  simpa using this⟩
end
end

/- A store of several cells into a known block. -/
end Go.Proofs.YtbajmaoegmbfgaaGreat
namespace Go.Ct
section
open Go Go.RowKit
section
variable{P:Program}{n:Nat}{ds:List Deferred}{Q:Exit->Act->World->Prop}{ks:List CK}{S:List (Nat×Value)}{G:World->Prop}{ops:Array Oper}{l:List Oper}
variable{w0:World}{M:List Nat}{H:List (Nat×Obj)}{A F:Fr}{O:List Ow}
variable{d:Nat}{ty t:TypeId}{pos:String}{af:Array Edge}{gd:Option (Nat×Bool)}{dst:Option Nat}{x y:Operand}{v:Value}{w w':World}
theorem lR{b off i:Nat}{vs bK cs:List Value}{T:TypeId}{H':List (Nat×Obj)}(hx:ev S x=.pointer (some ⟨b,off,none⟩))(ha:At H i b (.cells ⟨bK⟩ T (0,0)))(hy:ev S y=.agg ⟨vs⟩)(h1:vs.all (·.oneCell')=true)
  (ht:iS P t vs.length=true) (hl:off+vs.length<=bK.length) (hcs:bK.take off++vs++bK.drop (off+vs.length)=cs) (hH:setAt H i (.cells ⟨cs⟩ T (0,0))=H') :
  bE P S (St w0 M H) ⟨none,.store t x y,ty,pos,af,gd⟩ Unit (λ _=>undef) (λ _=>St w0 M H') :=
 xX (λ w hw=>by
  subst hH hcs
  have hb:=hw.at ha
  obtain⟨dd,hu,hm,hi⟩:=gP ht
  have hst:=run_storeCells_at (P:=P) b off T vs 0 ⟨bK⟩ w hb (by simpa using hl) (by simpa using h1)
  simp only[Nat.add_zero] at hst
  refine⟨w.setRow b ⟨bK.take off++vs++bK.drop (off+vs.length)⟩,?_,hw.write ha rfl rfl rfl (by simp) (λ k hk=>setRow_other w b k _ hk) (setRow_heap w b ⟨bK⟩ _ T (0,0) hb)⟩
  cases hq':P.info? t with
  | none=>rw[hq'] at hi;simp at hi
  | some inf =>
   have hs:inf.size=vs.length:=by rw[hq'] at hi;simpa using hi
   simp[execOp,hx,hy,Instr.storeAt,Instr.sureAddr,storeVar,sizeOf,typeInfo,hq',hs,Value.cells,hst])
end
end

/- Loads out of lists that are known. -/
section
open Go Go.RowKit
section
variable{P:Program}{S:List (Nat×Value)}{w0 w w':World}{M:List Nat}{H:List (Nat×Obj)}{A F:Fr}{O:List Ow}{d:Nat}{ty t:TypeId}{pos:String}{af:Array Edge}{gd:Option (Nat×Bool)}{x y:Operand}{v:Value}
theorem F7{a:Option Addr}{cs vs:List Value}{q k:Nat}(hx:ev S x=.pointer (some ⟨cK a,dZ a+q,none⟩))(ht:iS P t k=true)(hf:qD A F O a cs)(hv:(cs.drop q).take k=vs)(hl:vs.length=k) :
  aM P S (SF w0 M H A F O) ⟨some d,.load t x,ty,pos,af,gd⟩ (.agg ⟨vs⟩):=⟨λ w hw=>by
 have hcl:=hw.cl hf
 obtain⟨dd,hu,hm,hi⟩:=gP ht
 have hagg:(isAgg t).run P w=.ok true w:=by
  unfold isAgg
  rw[Sem.run_bind,run_underlying hu w]
  cases dd<;>simp_all
 have hc:(loadCells ⟨cK a,dZ a+q,none⟩ k).run P w=.ok ⟨vs⟩ w:=by
  have:=run_loadCells_list (P:=P) w ⟨cK a,dZ a+q,none⟩ vs (λ j z hz=>by
   subst hv
   have hj:=(List.getElem?_eq_some_iff.1 hz).1
   have h2:cs[q+j]?=some z:=by
    rw[List.getElem?_take_of_lt (by simp at hj;omega),List.getElem?_drop] at hz
    exact hz
   rw[Addr.add_lit,show dZ a+q+j=dZ a+(q+j) by omega]
   exact(hcl.at_ _ _ h2).2)
  rw[hl] at this
  simpa using this
 cases hq':P.info? t with
 | none=>rw[hq'] at hi;simp at hi
 | some i =>
  have hs:i.size=k:=by rw[hq'] at hi;simpa using hi
  simp[execOp,hx,Instr.loadAt,Instr.sureAddr,loadVar,hagg,Go.sizeOf,typeInfo,hq',hs,hc]⟩
theorem dj{a:Option Addr}{cs:List Value}{q:Nat}{v:Value}(hx:ev S x=.pointer (some ⟨cK a,dZ a+q,none⟩))(ht:one P t=true)(hf:qD A F O a cs)(hq:cs[q]?=some v) :
  aM P S (SF w0 M H A F O) ⟨some d,.load t x,ty,pos,af,gd⟩ v:=oY hx ht (λ w hw=>hw.cl hf) hq
end
end

end Go.Ct
