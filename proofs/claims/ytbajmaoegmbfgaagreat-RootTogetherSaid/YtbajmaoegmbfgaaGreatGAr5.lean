/- Nodes of the program's arena are read; lists are cloned; the state is read. -/
import Derived.Test.YtbajmaoegmbfgaaGreatGNode3
import Derived.Test.YtbajmaoegmbfgaaGreatGMem
import Derived.Test.YtbajmaoegmbfgaaGreatAuto
import Derived.Test.YtbajmaoegmbfgaaGreatGNode2

set_option linter.unusedSimpArgs false
set_option linter.unusedVariables false
namespace Go.Ct
section
theorem Cl.kj{w:Go.World}{cs:List Go.Value}(h:Cl w none cs):cs=[]:=by
 cases cs with
 | nil=>rfl
 | cons v r=>exact absurd (h.ptr (by simp)) (by simp)
theorem Xj{l:List Int}(h:aH l=[]):l=[]:=by simpa[aH] using h
theorem E9{L:List aS}{k:Nat}(h:k<2):aD (cW L) ((k+1:Nat):Int)=eZ:=by
 rw[vS (by rw[fI];omega)]
 rcases(show k=0∨k=1 by omega) with rfl|rfl<;>rfl
theorem Kb{L:List aS}{k:Nat}(h:2<=k)(h2:k<L.length+2):aD (cW L) ((k+1:Nat):Int)=L.getD (k+1-2-1) aS.zero:=by
 rw[vS (by rw[fI];omega)]
 obtain⟨j,rfl⟩:∃j,k=j+2:=⟨k-2,by omega⟩
 rw[show j+2+1-2-1=j by omega]
 rfl
end
end Go.Ct
namespace Go.Proofs.YtbajmaoegmbfgaaGreat
section
open Go.RowKit Go.Ct
variable{w:World}{D:List Nat}{b:Nat}{L:List aS}{cs:List Int}{gen acc:Int}{pn pc:Option Addr}{cn cc:Nat}{A:Fr}
theorem zH{l:List Int}{a:Option Addr}{c:Nat}{w:World}(ha:Cl w a (aH l))(hl:l.length<=274877906944):Calls Tryz.prog 84 #[.slice a l.length c] w λ e w' =>
  ∃x:Option Addr×Nat,e=.returned (.slice x.1 l.length x.2)/\True/\SF w [] [] [] [] [⟨x.1,aH l,x.2,37,1⟩] w':=by
 refine enter Tryz.func84 Tryz.ntmps84 rfl rfl (SF.s1 ha) ?_
 simp only[bX]
 refine cR ?_;refine kY ?_;refine uB ?_
 refine bC (λ c4=>?_) (λ c4=>?_)
 ·have e0:a=none:=by cases a with|none=>rfl|some _=>cases c4
  subst e0
  obtain rfl:=Xj ha.kj
  refine cR ?_
  refine aR Tryz.results84 (λ w hw=>?_)
  exact⟨(none,0),rfl,trivial,(hw.lS 37 1).aU⟩
 ·refine aX ?_;refine J0 ?_;refine iL (λ x5=>?_);refine aA ?_;(refine fL (λ x7=>?_);try (refine eW (λ h7=>?_)));refine J1 ?_
  refine aR Tryz.results84 (λ w hw=>?_)
  exact⟨x7,by simp only[Nat.zero_add];rfl,trivial,by simpa using hw.aU (F':=[]) (H':=[])⟩
theorem iz(hs:SF w D [(b,aO L cs gen acc pn cn pc cc)] A [] (mW L cs pn cn pc cc) w)(r:Int)(hr:r<1)(hl:L.length<=274877906944) :
  Calls Tryz.prog 36 #[.pointer (some ⟨b,0,none⟩),.int .i64 r] w λ e w'=>∃q:Option Addr×Option Addr,e=.returned ((aD (cW L) r).at_ q.1 q.2).nd.v/\True /\
  SF w D [(b,aO L cs gen acc pn cn pc cc)] [] [] (mW L cs pn cn pc cc++[⟨q.2,dC (aD (cW L) r).ys,(aD (cW L) r).ys.length,164,2⟩,⟨q.1,aH (aD (cW L) r).xs,(aD (cW L) r).xs.length,37,1⟩]) w':=by
 rw[pC (by omega)]
 refine enter Tryz.func36 Tryz.ntmps36 rfl rfl (vJ hs) ?_
 simp only[bX]
 refine J0 ?_;refine aI (λ x4=>?_);refine aG ?_;refine kY ?_;refine Ce ?_
 (refine eI 7 (λ g7=>?_) (λ g7=>?_)<;>(try (exfalso;omega))<;>(refine aJ ?_))
 (refine aJ ?_);(refine aJ ?_);refine B7 ?_;refine aG ?_
 refine bC (λ c12=>?_) (λ c12=>?_)
 ·try (exfalso;omega)
  refine J0 ?_;refine uO ?_
  refine bB Tryz.results36 (λ w hw=>?_)
  exact⟨(none,none),rfl,trivial,(hw.xm 164 2 37 1).aU⟩
 ·exact nv c12
theorem az(hs:SF w D [(b,aO L cs gen acc pn cn pc cc)] (aK L) [] (mW L cs pn cn pc cc) w)(hf:Fits L){k:Nat}(hk:(k:Int)<9223372036854775807)(hl:L.length<=274877906944) :
  Calls Tryz.prog 36 #[.pointer (some ⟨b,0,none⟩),.int .i64 ((k+1:Nat):Int)] w λ e w'=>∃q:Option Addr×Option Addr,e=.returned ((aD (cW L) ((k+1:Nat):Int)).at_ q.1 q.2).nd.v/\True /\
  SF w D [(b,aO L cs gen acc pn cn pc cc)] [] [] (mW L cs pn cn pc cc++[⟨q.2,dC (aD (cW L) ((k+1:Nat):Int)).ys,(aD (cW L) ((k+1:Nat):Int)).ys.length,164,2⟩,⟨q.1,aH (aD (cW L) ((k+1:Nat):Int)).xs,(aD (cW L) ((k+1:Nat):Int)).xs.length,37,1⟩]) w':=by
 refine enter Tryz.func36 Tryz.ntmps36 rfl rfl (vJ hs) ?_
 simp only[bX]
 refine J0 ?_;refine aI (λ x4=>?_);refine aG ?_;refine kY ?_;refine Ce ?_
 (refine aF ?_;refine aA ?_)
 ((refine aF ?_;refine aA ?_));((refine aF ?_;refine aC (cM (hc:=λ w hs=>mX (m:=L.length) hs (by omega))) (λ x10 h10=>?_)));refine B7 ?_;refine aG ?_
 refine bC (λ c12=>?_) (λ c12=>?_)
 ·try (exfalso;omega)
  refine J0 ?_;refine uO ?_
  refine bB Tryz.results36 (λ w hw=>?_)
  exact⟨(none,none),by rw[pC (by rw[fI];omega)];rfl,trivial,by rw[pC (by rw[fI];omega)];exact(hw.xm 164 2 37 1).aU⟩
 ·try (exfalso;omega)
  refine kG ?_;refine J2 ?_;refine Ba ?_;refine aG ?_
  refine bC (λ c15=>?_) (λ c15=>?_)
  ·try (exfalso;omega)
   refine J0 ?_;refine uO ?_
   refine bB Tryz.results36 (λ w hw=>?_)
   exact⟨(none,none),by rw[E9 (by omega)];rfl,trivial,by rw[E9 (by omega)];exact(hw.xm 164 2 37 1).aU⟩
  ·try (exfalso;omega)
   refine oa ?_;refine aA ?_;refine aB (by exact jE (n:=2) rf rf (by omega) (by omega)) rfl ?_;refine aB (by exact ap rf rf (by omega) (by omega)) rfl ?_;refine Qp ?_;refine aC (Sl (Hc:=λ _=>[]) (Fc:=λ _=>[]) (V:=λ p:Option Addr×Option Addr=>((L.getD (k+1-2-1) aS.zero).at_ p.1 p.2).nd.v) (hc:=λ w1 hw=>Us (hw.aBh hf (by omega)) (hf.at (by omega)).brS (hf.at (by omega)).prS)) (λ x26 h26=>?_);refine J5 ?_
   refine bB Tryz.results36 (λ w hw=>?_)
   exact⟨x26,by rw[Kb (by omega) (by omega)];rfl,trivial,by rw[Kb (by omega) (by omega)];exact hw.toEnd.aU⟩
end

/- The arena's state is read. -/
section
open Go.RowKit Go.Ct
variable{w:World}{D:List Nat}{b:Nat}{L:List aS}{cs:List Int}{gen acc:Int}{pn pc:Option Addr}{cn cc:Nat}{A:Fr}
theorem Ls(hs:SF w D [(b,aO L cs gen acc pn cn pc cc)] (aK L) [] (mW L cs pn cn pc cc) w)(hf:Fits L)(r:Int)(hr:r<=9223372036854775807)(hl:L.length<=274877906944) :
  Calls Tryz.prog 36 #[.pointer (some ⟨b,0,none⟩),.int .i64 r] w λ e w'=>∃q:Option Addr×Option Addr,e=.returned (.agg ⟨((aD (cW L) r).at_ q.1 q.2).nd.cells⟩)/\True /\
  SF w D [(b,aO L cs gen acc pn cn pc cc)] [] [] (mW L cs pn cn pc cc++[⟨q.2,dC (aD (cW L) r).ys,(aD (cW L) r).ys.length,164,2⟩,⟨q.1,aH (aD (cW L) r).xs,(aD (cW L) r).xs.length,37,1⟩]) w':=by
 rcases Int.lt_or_le r 1 with h|h
 ·exact iz hs r h hl
 ·obtain⟨k,rfl⟩:∃k:Nat,r=((k+1:Nat):Int):=⟨(r-1).toNat,by omega⟩
  exact az hs hf (by omega) hl
theorem Hu(hs:SF w D [(b,aO L cs gen acc pn cn pc cc)] (aK L) [] (mW L cs pn cn pc cc) w)(hf:Fits L)(hl:L.length<=274877906944)(hc:cs.length<=274877906944) :
  Calls Tryz.prog 32 #[.pointer (some ⟨b,0,none⟩)] w λ e w'=>∃x:List aS×(Option Addr×Nat)×(Option Addr×Nat),e=.returned (.agg ⟨[.slice x.2.1.1 x.1.length x.2.1.2,.slice x.2.2.1 cs.length x.2.2.2,.int .i64 gen]⟩) /\
   (x.1.map aS.c=(cW L).map aS.c/\Fits x.1) /\
  SF w D [(b,aO L cs gen acc pn cn pc cc)] [] (aK x.1) (mW L cs pn cn pc cc++[⟨x.2.1.1,gS x.1,x.2.1.2,47,14⟩,⟨x.2.2.1,aH cs,x.2.2.2,37,1⟩]) w':=by
 refine enter Tryz.func32 Tryz.ntmps32 rfl rfl (vJ hs) ?_
 simp only[bX]
 refine J0 ?_;refine aI (λ x2=>?_);refine Ql ?_
 refine dJ [3,5,6,7,8,9,10,11,12,13,14] (λ j:Nat×Option Addr×Nat=>[(3,.pointer (some ⟨j.1,0,none⟩))]) (λ _=>True) (λ j=>[(j.1,.cells ⟨[.slice none 0 0,.slice j.2.1 cs.length j.2.2,.int .i64 gen]⟩ 52 (0,0)),(x2,.cells ⟨[.slice none 0 0,.slice none 0 0,.int .i64 0]⟩ 52 (0,0)),(b,aO L cs gen acc pn cn pc cc)]) (λ _=>[]) (λ j=>[⟨j.2.1,aH cs,j.2.2,37,1⟩,⟨pn,gS L,cn,47,14⟩,⟨pc,aH cs,cc,37,1⟩]) (by decide) (λ _=>by exact rfl) ?_ (λ j f hx=>?_)
 ·refine fP (.one 0 [] (.one 1 [] (.one 2 [] (.one 3 [] (.one 5 [] (.one 6 [] (.one 7 [] (.one 8 [] (.two 4 [8] (.one 9 [] (.one 10 [3,8] (.one 11 [] .nil))) 0 [] (.two 10 [3,8] (.one 4 [8] (.one 9 [] (.one 11 [] .nil))) 0 [] .nil)))))))))) ?_
  refine Dt ?_
  refine fF (E:=[4,10]) (by decide +kernel) ((.cons ?_ (.cons ?_ .nil)))
  ·refine jG (i:=4) (hq:=(Sl (Hc:=λ _=>[]) (Fc:=λ _=>[]) (hc:=λ w1 hw=>zH (hw.cl fin) hc))) (h:=λ x9 h9=>?_)
   refine fX ?_;refine fO (h:=λ x3=>?_);refine wU ?_
   refine eC ((x3,x9.1,x9.2)) ?_
   ·trivial
  ·refine eX (i:=10) (h:=λ x3=>?_)
   refine aZ (i:=4) (hq:=(Sl (Hc:=λ _=>[]) (Fc:=λ _=>[]) (hc:=λ w1 hw=>zH (hw.cl fin) hc))) (h:=λ x9 h9=>?_);refine fX ?_;refine wU ?_
   refine eC ((x3,x9.1,x9.2)) ?_
   ·trivial
 dsimp only[gP,List.map,List.cons_append,List.nil_append]
 refine J2 ?_;refine aC (cM (hc:=λ w hs=>mX (m:=L.length) hs (by omega))) (λ x16 h16=>?_);refine qN (λ x17=>?_);refine uP ?_;refine kY ?_;refine aC (cM (hc:=λ w hs=>mX (m:=L.length) hs (by omega))) (λ x20 h20=>?_);refine Ds ?_;refine cZ ?_
 refine oD [4,21,22,23,24,25,26,27,28,29,30,31,32,33] (λ y:List aS×Option Addr×Nat=>[(21,.int .i64 ((y.1.length:Nat):Int))]) (λ y=>y.1.map aS.c=((cW L).take y.1.length).map aS.c/\y.1.length<=L.length+2/\Fits y.1) (λ y=>[(j.1,.cells ⟨[.slice y.2.1 y.1.length y.2.2,.slice j.2.1 cs.length j.2.2,.int .i64 gen]⟩ 52 (0,0)),(x2,.cells ⟨[.slice none 0 0,.slice none 0 0,.int .i64 0]⟩ 52 (0,0)),(b,aO L cs gen acc pn cn pc cc)]) (λ y=>aK y.1) (λ y=>[⟨y.2.1,gS y.1,y.2.2,47,14⟩,⟨j.2.1,aH cs,j.2.2,37,1⟩,⟨pn,gS L,cn,47,14⟩,⟨pc,aH cs,cc,37,1⟩]) (λ y=>L.length+2-y.1.length) (([],some ⟨x17,0,none⟩,L.length+2)) (⟨rfl,Nat.zero_le _,λ _ h=>(List.not_mem_nil h).elim⟩) (λ y f hx=>?_) (hw0:=λ w hw=>hw.back)
 dsimp only[gP,List.map,List.cons_append,List.nil_append]
 refine J0 ?_;refine yU ?_;refine aT ?_
 refine bC (λ c22=>?_) (λ c22=>?_)
 ·refine qG ?_;refine J2 ?_;refine J1 ?_;refine dV [(0,[]),(1,[]),(2,[]),(3,[]),(4,[]),(5,[1]),(6,[1]),(7,[]),(8,[]),(9,[])] ?_;refine nS ?_;refine gT ?_;refine aAp ?_;refine aZ (i:=5) (hq:=(cMO (hc:=λ w hs=>Ls hs hf ((y.1.length+1:Nat):Int) (by omega) hl))) (h:=λ x29 h29=>?_);refine cG (h:=λ x30=>?_);((refine cB (i:=7) (hq:=(bF.eR (Vv ((aD (cW L) ((y.1.length+1:Nat):Int)).at_ x29.1 x29.2) rf rf zR rfl fin Qj rfl gN om) vM)) (h:=λ x31=>?_);try (refine eF (λ h31=>?_))));refine aQ ?_;refine wU ?_;refine fC ?_;refine W5 ?_;refine Ds ?_
  refine iQ ((y.1++[(aD (cW L) ((y.1.length+1:Nat):Int)).at_ x29.1 x29.2],x31.1,x31.2)) ?_ (hw1:=λ w hw=>by
   have h2:=(hw.freeze .head).freeze .head
   simp only[qY] at h2
   have h3:=h2.ub (L:=y.1) (v:=(aD (cW L) ((y.1.length+1:Nat):Int)).at_ x29.1 x29.2) (F':=[]) (List.mem_cons_self ..) (List.mem_cons_of_mem _ (List.mem_cons_self ..)) (λ f hf=>List.mem_cons_of_mem _ (List.mem_cons_of_mem _ (List.mem_cons_of_mem _ hf)))
   simpa using h3) (hμ:=by simp only[List.length_append,List.length_cons,List.length_nil];omega)
  ·have hlt:y.1.length<(cW L).length:=by rw[fI];omega
   refine⟨?_,by simp only[List.length_append,List.length_cons,List.length_nil];omega,λ v hv=>?_⟩
   ·rw[List.map_append,hx.1,List.length_append,List.length_singleton,List.take_succ_eq_append_getElem hlt,List.map_append,vS hlt,kH,List.getElem?_eq_getElem hlt]
    rfl
   ·rcases List.mem_append.1 hv with hv|hv
    ·exact hx.2.2 v hv
    ·simp only[List.mem_singleton] at hv
     subst hv
     exact aS.dq (Xn hf.all _) _ _
 ·refine bO rfl ?_;refine nX ?_;refine J5 ?_
  refine bB Tryz.results32 (λ w hw=>?_)
  have hlen:y.1.length=L.length+2:=by omega
  refine⟨(y.1,(y.2.1,y.2.2),(j.2.1,j.2.2)),rfl,⟨by rw[hx.1,hlen,List.take_of_length_le (by rw[fI];omega)],hx.2.2⟩,?_⟩
  exact(SF.toEnd hw).ret (by repeat (first|exact List.Sublist.refl _|apply List.Sublist.cons)) aY.all (List.Sublist.refl _)
end

/- Lists and the smallest functions of nodes. -/
section
open Go.RowKit Go.Ct
theorem aBk (n : Nd) (w : World) : Calls Tryz.prog 197 #[n.v] w fun e w' => e = .returned n.own.v ∧ St w [] [] w' := by
  refine enter Tryz.func197 Tryz.ntmps197 rfl rfl (SF.s0 w) ?_
  simp only [bX]
  refine J0 ?_; refine bL (fun x1 => ?_); refine aI (fun x2 => ?_); refine aG ?_; refine gM ?_; refine bG ?_; refine aI (fun x3 => ?_); refine J5 ?_; refine D7 ?_; refine aG ?_; refine cZ ?_; refine Cp ?_; refine Cp ?_; refine Cp ?_; refine Cp ?_; refine Cp ?_; refine Cp ?_; refine Cp ?_; refine aT ?_; refine aT ?_; refine lM ?_
  refine bC (fun c9 => ?_) (fun c9 => ?_)
  · refine bO rfl ?_; refine aT ?_; refine dV [(0, []), (1, []), (2, []), (3, []), (4, []), (5, [3]), (6, []), (7, [])] ?_; refine nS ?_; refine nS ?_; refine aQ ?_; refine Rj ?_; refine wU ?_; refine bO rfl ?_; refine nX ?_; refine J5 ?_
    refine bB Tryz.results197 (fun w hw => ?_)
    exact ⟨by simp only [Nd.own, beq_iff_eq, *, if_true, if_false]; rfl, hw.done⟩
  · refine kG ?_; refine lM ?_
    refine bC (fun c11 => ?_) (fun c11 => ?_)
    · refine bO rfl ?_; refine aT ?_; refine dV [(0, []), (1, []), (2, []), (3, []), (4, []), (5, []), (6, []), (7, [3, 5]), (8, []), (9, [5]), (10, []), (11, [])] ?_; refine nS ?_; refine nS ?_; refine nS ?_; refine aQ ?_; refine Rj ?_; refine Rj ?_; refine wU ?_; refine bO rfl ?_; refine nX ?_; refine J5 ?_
      refine bB Tryz.results197 (fun w hw => ?_)
      exact ⟨by simp only [Nd.own, beq_iff_eq, *, if_true, if_false]; rfl, hw.done⟩
    · refine kG ?_; refine lM ?_
      refine bC (fun c13 => ?_) (fun c13 => ?_)
      · refine bO rfl ?_; refine dG ?_; refine J3 ?_; refine uP ?_; refine fC ?_; refine aT ?_; refine dV [(0, []), (1, []), (2, []), (3, []), (4, []), (5, []), (6, []), (7, [3, 5]), (8, []), (9, [5]), (10, []), (11, [])] ?_; refine nS ?_; refine nS ?_; refine nS ?_; refine aQ ?_; refine Rj ?_; refine Rj ?_; refine wU ?_; refine bO rfl ?_; refine nX ?_; refine J5 ?_
        refine bB Tryz.results197 (fun w hw => ?_)
        exact ⟨by simp only [Nd.own, beq_iff_eq, *, if_true, if_false]; rfl, hw.done⟩
      · refine kG ?_; refine lM ?_
        refine bC (fun c15 => ?_) (fun c15 => ?_)
        · refine bO rfl ?_; refine aT ?_; refine dV [(0, []), (1, []), (2, []), (3, []), (4, []), (5, []), (6, []), (7, [3, 5]), (8, []), (9, [5]), (10, []), (11, [])] ?_; refine nS ?_; refine nS ?_; refine nS ?_; refine aQ ?_; refine Rj ?_; refine Rj ?_; refine wU ?_; refine bO rfl ?_; refine nX ?_; refine J5 ?_
          refine bB Tryz.results197 (fun w hw => ?_)
          exact ⟨by simp only [Nd.own, beq_iff_eq, *, if_true, if_false]; rfl, hw.done⟩
        · refine kG ?_; refine lM ?_
          refine bC (fun c17 => ?_) (fun c17 => ?_)
          · refine bO rfl ?_; refine aT ?_; refine dV [(0, []), (1, []), (2, []), (3, []), (4, []), (5, []), (6, []), (7, [3, 5]), (8, []), (9, [5]), (10, []), (11, [])] ?_; refine nS ?_; refine nS ?_; refine nS ?_; refine aQ ?_; refine Rj ?_; refine Rj ?_; refine wU ?_; refine bO rfl ?_; refine nX ?_; refine J5 ?_
            refine bB Tryz.results197 (fun w hw => ?_)
            exact ⟨by simp only [Nd.own, beq_iff_eq, *, if_true, if_false]; rfl, hw.done⟩
          · refine kG ?_; refine lM ?_
            refine bC (fun c19 => ?_) (fun c19 => ?_)
            · refine bO rfl ?_; refine dV [(0, []), (1, []), (2, []), (3, []), (4, []), (5, []), (6, []), (7, [3, 5]), (8, []), (9, [5]), (10, []), (11, [])] ?_; refine nS ?_; refine nS ?_; refine nS ?_; refine aQ ?_; refine Rj ?_; refine Rj ?_; refine wU ?_; refine fC ?_; refine gM ?_; refine uP ?_; refine bO rfl ?_; refine nX ?_; refine J5 ?_
              refine bB Tryz.results197 (fun w hw => ?_)
              exact ⟨by simp only [Nd.own, beq_iff_eq, *, if_true, if_false]; rfl, hw.done⟩
            · refine aX ?_; refine lM ?_
              refine bC (fun c21 => ?_) (fun c21 => ?_)
              · refine bO rfl ?_; refine gM ?_; refine uP ?_; refine bO rfl ?_; refine nX ?_; refine J5 ?_
                refine bB Tryz.results197 (fun w hw => ?_)
                exact ⟨by simp only [Nd.own, beq_iff_eq, *, if_true, if_false]; rfl, hw.done⟩
              · refine aX ?_; refine bO rfl ?_; refine nX ?_; refine J5 ?_
                refine bB Tryz.results197 (fun w hw => ?_)
                exact ⟨by simp only [Nd.own, beq_iff_eq, *, if_true, if_false]; rfl, hw.done⟩
end

/- node.Valid. -/
section
open Go.RowKit Go.Ct
theorem xg(b:Int)(w:World):Calls Tryz.prog 238 #[.int .u64 b] w λ e w'=>e=.returned (.int .i64 (yN b))/\St w [] [] w':=by
 refine enter Tryz.func238 Tryz.ntmps238 rfl rfl (SF.s0 w) ?_
 simp only[bX]
 refine cR ?_;refine J2 ?_;refine E6 ?_;refine Gz ?_;refine aA ?_;refine Gz ?_;refine Ie ?_;refine J1 ?_;refine J2 ?_;refine E6 ?_;refine Gz ?_;refine aA ?_;refine Gz ?_;refine Ie ?_;refine J1 ?_;refine J2 ?_;refine E6 ?_;refine aA ?_;refine Ie ?_;refine Gz ?_;refine xZ ?_;refine E6 ?_;refine Ie ?_;refine xZ ?_;refine E6 ?_;refine Ie ?_;refine xZ ?_;refine E6 ?_;refine Ie ?_;refine J1 ?_;refine J2 ?_;refine mT ?_;refine Gz ?_;refine J1 ?_
 refine aR Tryz.results238 (λ w hw=>?_)
 exact⟨rfl,hw.done⟩
theorem rn(b:Int)(w:World):Calls Tryz.prog 198 #[.int .u64 b] w λ e w'=>e=.returned (.int .i64 (yN b))/\St w [] [] w':=by
 refine enter Tryz.func198 Tryz.ntmps198 rfl rfl (SF.s0 w) ?_
 simp only[bX]
 refine cR ?_;refine J2 ?_;refine aP (cV (hc:=λ w1 hw=>xg b w1)) (λ x4=>?_);refine J1 ?_
 refine aR Tryz.results198 (λ w hw=>?_)
 exact⟨rfl,hw.done⟩
theorem Xt{n:Nd}{xs:List Int}{ys:List Pr}{w:World}(hr:rK w n xs ys) :
  Calls Tryz.prog 158 #[n.v] w λ e w'=>∃r:Bool,e=.returned (.bool r)/\(r=true↔cA n xs ys)/\St w [] [] w':=by
 have e1:=hr.brN;have e2:=hr.prN
 refine enter Tryz.func158 Tryz.ntmps158 rfl rfl (SF.s0 w) ?_
 simp only[bX]
 refine J0 ?_;refine bL (λ x1=>?_);refine hZ ?_;refine aT ?_;refine dV [(0,[]),(1,[]),(2,[0]),(3,[]),(4,[])] ?_;refine bK ?_;refine bK ?_;refine cB (i:=2) (hq:=(cV (hc:=λ w1 hw=>aBk n w1))) (h:=λ x5=>?_);refine aZ (i:=3) (hq:=(c0 (V:=.bool) (hc:=λ w1 hw=>yd (hr.fT hw.st) (hr.fT hw.st).own))) (h:=λ x6 h6=>?_);refine Fl ?_;refine eA ?_
 refine bC (λ c7=>?_) (λ c7=>?_)
 ·refine cR ?_
  refine aR Tryz.results158 (λ w hw=>?_)
  refine⟨_,rfl,?_,hw.done⟩
  (simp_all[cA];done)
 ·refine kG ?_;refine gM ?_;refine Ce ?_
  (refine eI 11 (λ g11=>?_) (λ g11=>?_)<;>(first|refine aJ ?_|(refine aF ?_;refine aE ?_)))
  all_goals (refine ym ?_;refine aA ?_)
  all_goals (first|refine aJ ?_|(refine eI 16 (λ g16=>?_) (λ g16=>?_)<;>(first|refine aJ ?_|(refine aF ?_;refine aE ?_))))
  all_goals (refine ym ?_;refine aG ?_)
  all_goals
  refine bC (λ c20=>?_) (λ c20=>?_)
  ·all_goals refine cR ?_
   all_goals
    refine aR Tryz.results158 (λ w hw=>?_)
    refine⟨_,rfl,?_,hw.done⟩
    (simp_all[cA];omega)
  ·try exact nv c20
   all_goals (refine kG ?_;refine gM ?_;refine aG ?_;refine cZ ?_;refine Cp ?_;refine Cp ?_;refine Cp ?_;refine Cp ?_;refine cZ ?_;refine Cp ?_;refine Cp ?_;refine Cp ?_;refine aT ?_;refine aT ?_;refine lM ?_)
   all_goals
    refine bC (λ c23=>?_) (λ c23=>?_)
    ·refine bO rfl ?_;refine aT ?_;refine cR ?_
     refine aR Tryz.results158 (λ w hw=>?_)
     refine⟨_,rfl,?_,hw.done⟩
     (simp_all[cA];done)
    ·refine kG ?_;refine lM ?_
     refine bC (λ c25=>?_) (λ c25=>?_)
     ·refine bO rfl ?_;refine D7 ?_;refine nI ?_;refine J1 ?_
      refine aR Tryz.results158 (λ w hw=>?_)
      refine⟨_,rfl,?_,hw.done⟩
      (simp_all[cA];done)
     ·refine kG ?_;refine lM ?_
      refine bC (λ c27=>?_) (λ c27=>?_)
      ·refine bO rfl ?_;refine aT ?_;refine aT ?_;refine dV [(0,[]),(1,[]),(2,[]),(3,[]),(4,[]),(5,[1]),(6,[]),(7,[]),(8,[]),(9,[]),(10,[]),(11,[]),(12,[])] ?_;refine nS ?_;refine oG ?_;refine nS ?_;refine cB (i:=5) (hq:=(cV (hc:=λ w1 hw=>rn n.bm w1))) (h:=λ x47=>?_);refine lT ?_;refine aM ?_
       (refine Y0 49 (λ g49=>?_) (λ g49=>?_)<;>(first|refine cU ?_|(refine aQ ?_)))
       all_goals ((first|refine cU ?_|(refine bK ?_));(first|refine cU ?_|(refine aZ (i:=10) (hq:=(c0 (V:=.bool) (hc:=λ w1 hw=>by rw[e1];exact Rn (hr.br.fT hw.st) hr.brS))) (h:=λ x52 h52=>?_)));refine eD ?_;refine J7 ?_)
       all_goals
       refine aR Tryz.results158 (λ w hw=>?_)
       refine⟨_,rfl,?_,hw.done⟩
       (simp_all[cA];done)
      ·refine kG ?_;refine lM ?_
       refine bC (λ c29=>?_) (λ c29=>?_)
       ·refine Yu ?_;refine D7 ?_;refine lX ?_;refine Ba ?_;refine J1 ?_
        refine aR Tryz.results158 (λ w hw=>?_)
        refine⟨_,rfl,?_,hw.done⟩
        (simp_all[cA];omega)
       ·refine kG ?_;refine lM ?_
        refine bC (λ c31=>?_) (λ c31=>?_)
        ·refine bO rfl ?_;refine D7 ?_;refine lX ?_;refine Ba ?_;refine J1 ?_
         refine aR Tryz.results158 (λ w hw=>?_)
         refine⟨_,rfl,?_,hw.done⟩
         (simp_all[cA];omega)
        ·refine kG ?_;refine lM ?_
         refine bC (λ c33=>?_) (λ c33=>?_)
         ·refine bO rfl ?_;refine D7 ?_;refine dE ?_;refine nI ?_;refine aA ?_
          (refine eI 62 (λ g62=>?_) (λ g62=>?_)<;>(first|refine aJ ?_|(refine aF ?_;refine aE ?_)))
          all_goals ((first|refine aJ ?_|(refine aF ?_;refine bN ?_));(first|refine aJ ?_|(refine aF ?_;refine aC (c0 (V:=.bool) (hc:=λ w1 hw=>by rw[e2];exact Yh (hr.pr.fT hw.st) hr.prS)) (λ x65 h65=>?_)));refine cJ ?_;refine aA ?_)
          all_goals (first|refine aJ ?_|(refine eI 67 (λ g67=>?_) (λ g67=>?_)<;>(first|refine aJ ?_|(refine aF ?_;refine aE ?_))))
          all_goals ((first|refine aJ ?_|(refine aF ?_;refine bN ?_));(first|refine aJ ?_|(refine aF ?_;refine aC (c0 (V:=.bool) (hc:=λ w1 hw=>by rw[e2];exact O5 (hr.pr.fT hw.st) hr.prS)) (λ x70 h70=>?_)));refine cJ ?_;refine J1 ?_)
          all_goals
          refine aR Tryz.results158 (λ w hw=>?_)
          refine⟨_,rfl,?_,hw.done⟩
          first|(simp_all[cA];done)|(simp_all[cA];omega)
         ·refine kG ?_;refine lM ?_
          refine bC (λ c35=>?_) (λ c35=>?_)
          ·refine bO rfl ?_;refine gM ?_;refine Ce ?_
           (refine eI 75 (λ g75=>?_) (λ g75=>?_)<;>(first|refine aJ ?_|(refine aF ?_;refine aE ?_)))
           all_goals (refine ym ?_;refine aG ?_)
           all_goals
           refine bC (λ c79=>?_) (λ c79=>?_)
           ·all_goals refine cR ?_
            all_goals
             refine aR Tryz.results158 (λ w hw=>?_)
             refine⟨_,rfl,?_,hw.done⟩
             (simp_all[cA];omega)
           ·try exact nv c79
            all_goals (refine oF ?_;refine D7 ?_;refine nI ?_;refine J1 ?_)
            all_goals
             refine aR Tryz.results158 (λ w hw=>?_)
             refine⟨_,rfl,?_,hw.done⟩
             (simp_all[cA];done)
          ·refine aX ?_;refine lM ?_
           refine bC (λ c37=>?_) (λ c37=>?_)
           ·refine bO rfl ?_;refine D7 ?_;refine nI ?_;refine J1 ?_
            refine aR Tryz.results158 (λ w hw=>?_)
            refine⟨_,rfl,?_,hw.done⟩
            (simp_all[cA];done)
           ·refine aX ?_;refine bO rfl ?_;refine cR ?_
            refine aR Tryz.results158 (λ w hw=>?_)
            refine⟨_,rfl,?_,hw.done⟩
            (simp_all[cA];done)
end

/- Proper states: the program's check. -/
end Go.Proofs.YtbajmaoegmbfgaaGreat
namespace Go.Ct
section
def fW(n:Nd):Option Int:=if n.kind=2 then some n.main else if n.kind=3∨n.kind=5∨n.kind=6 then some n.prev else if n.kind=8 then some n.status else none
def eN(u:Option (List Bool))(n:Nd):Option (List Bool) :=
 match u with
 | none=>none
 | some u=>match fW n with
  | none=>some u
  | some c=>if 1<=c/\c<=u.length/\u.getD (c-1).toNat false=false then some (u.set (c-1).toNat true) else none
def marks(m:Nat)(L:List aS):Option (List Bool):=L.foldl (λ u v=>eN u v.nd) (some (List.replicate m false))
theorem nA{m:Nat}{L:List aS}{k:Nat}(h:k<L.length):marks m (L.take (k+1))=eN (marks m (L.take k)) (L.getD k aS.zero).nd:=by
 rw[marks,List.take_succ_eq_append_getElem h,List.foldl_append,kH,List.getElem?_eq_getElem h]
 rfl
theorem Gy{m:Nat}{L:List aS}{k:Nat}(h:marks m (L.take k)=none):marks m L=none:=by
 have e:L=L.take k++L.drop k:=(List.take_append_drop k L).symm
 rw[e,marks,List.foldl_append]
 rw[marks] at h
 rw[h]
 generalize L.drop k=l
 induction l with
 | nil=>rfl
 | cons v l ih=>exact ih
theorem Bx{m:Nat}:∀{L:List aS} {u:List Bool},marks m L=some u->u.length=m:=by
 intro L
 have key:∀(l:List aS) (u0:Option (List Bool)),(∀u,u0=some u->u.length=m)->∀u,l.foldl (λ u v=>eN u v.nd) u0=some u->u.length=m:=by
  intro l
  induction l with
  | nil=>intro u0 h u hu;exact h u hu
  | cons v l ih =>
   intro u0 h u hu
   refine ih (eN u0 v.nd) (λ u1 h1=>?_) u hu
   cases u0 with
   | none=>simp[eN] at h1
   | some u2 =>
    have:=h u2 rfl
    simp only[eN] at h1
    cases hc:fW v.nd with
    | none=>rw[hc] at h1;simp only[Option.some.injEq] at h1;rw[<- h1];exact this
    | some c =>
     rw[hc] at h1
     simp only at h1
     split at h1
     ·simp only[Option.some.injEq] at h1;rw[<- h1,List.length_set];exact this
     ·cases h1
 intro u hu
 exact key L _ (λ u h=>by simp only[Option.some.injEq] at h;rw[<- h];simp) u hu
def D1(r:Int)(n:Nat):Prop:=0<=r/\r<=(n:Int)
instance (r:Int) (n:Nat):Decidable (D1 r n):=inferInstanceAs (Decidable (0<=r/\r<=(n:Int)))
theorem uq{r:Int}{n:Nat}(h:0<=r):decide (D1 r n)=decide (r<=(n:Int)):=by
 by_cases h2:r<=(n:Int)
 ·rw[decide_eq_true h2,decide_eq_true ⟨h,h2⟩]
 ·rw[decide_eq_false h2,decide_eq_false λ h3=>h2 h3.2]
def Ss(n:Nd)(xs:List Int)(N:Nat):Prop:=(∀i,i<xs.length->D1 (xs.getD i 0) N)/\D1 n.bD N/\D1 n.exp N/\D1 n.new N
def mE(gen:Int)(N:Nat)(v:aS):Prop:=cA v.nd v.xs v.ys/\v.nd.gen<=gen/\Ss v.nd v.xs N
structure hY(L:List aS)(cs:List Int)(gen:Int):Prop where
 two:2<=L.length
 gen0:0<=gen
 m0:(L.getD 0 aS.zero).nd.kind=1
 m1:(L.getD 1 aS.zero).nd.kind=1
 cells:∀i,i<cs.length->D1 (cs.getD i 0) L.length
 nodes:∀i,i<L.length->mE gen L.length (L.getD i aS.zero)
 marks:marks cs.length L≠none
end
end Go.Ct
namespace Go.Proofs.YtbajmaoegmbfgaaGreat
section
open Go.RowKit Go.Ct
theorem uR(r:Int)(n:Nat)(w:World):Calls Tryz.prog 157 #[.int .i64 r,.int .i64 ((n:Nat):Int)] w λ e w'=>e=.returned (.bool (decide (D1 r n)))/\St w [] [] w':=by
 refine enter Tryz.func157 Tryz.ntmps157 rfl rfl (SF.s0 w) ?_
 simp only[bX]
 refine cR ?_;refine J2 ?_;refine nI ?_;refine aA ?_
 (refine eI 7 (λ g7=>?_) (λ g7=>?_)<;>(first|refine aJ ?_|(refine aF ?_;refine aA ?_)))
 all_goals ((first|refine aJ ?_|(refine aF ?_;refine aA ?_));(first|refine aJ ?_|(refine aF ?_;refine Ba ?_));refine cJ ?_;refine J1 ?_)
 all_goals
 refine aR Tryz.results157 (λ w hw=>?_)
 refine⟨?_,hw.done⟩
 first|(rw[decide_eq_false (show ¬D1 r n from λ h=>by have:=h.1;have:=h.2;omega)];rfl)|(rw[uq (by omega)];rfl)
theorem Ku{n:Nd}{xs:List Int}{N:Nat}{w:World}(e1:n.brN=xs.length)(ha:Cl w n.brA (aH xs))(hx:xs.length<4611686018427387904) :
  Calls Tryz.prog 159 #[n.v,.int .i64 ((N:Nat):Int)] w λ e w'=>∃r:Bool,e=.returned (.bool r)/\(r=true↔Ss n xs N)/\St w [] [] w':=by
 refine enter Tryz.func159 Tryz.ntmps159 rfl rfl (SF.s1 ha) ?_
 simp only[bX]
 simp only[Nd.v,Nd.cells,e1]
 refine J0 ?_;refine bL (λ x2=>?_);refine hZ ?_;refine gM ?_;refine dE ?_;refine Ds ?_;refine cZ ?_
 refine oD [4,6,10,11,12,13,14,15,16,17,18] (λ k=>[(10,.int .i64 ((k:Nat):Int))]) (λ k=>k<=xs.length/\∀i,i<k->D1 (xs.getD i 0) N) (λ k=>_) (λ _=>_) (λ _=>_) (λ k=>xs.length-k) (0) (⟨Nat.zero_le _,λ i hi=>absurd hi (Nat.not_lt_zero i)⟩) (λ k f hx=>?_)
 dsimp only[gP,List.map,List.cons_append,List.nil_append]
 refine J0 ?_;refine yU ?_;refine aT ?_
 refine bC (λ c11=>?_) (λ c11=>?_)
 ·refine qG ?_;refine J0 ?_;refine Qp ?_;refine xZ ?_;refine aP (cV (hc:=λ w1 hw=>uR _ N w1)) (λ x16=>?_);refine oK ?_
  refine bC (λ c17=>?_) (λ c17=>?_)
  ·refine cR ?_
   refine aR Tryz.results159 (λ w hw=>?_)
   exact⟨false,rfl,⟨(λ h=>nomatch h),λ h=>absurd (h.1 k (by omega)) (by assumption)⟩,hw.done⟩
  ·refine oF ?_;refine W5 ?_;refine Ds ?_
   refine iQ (k+1) ?_
   ·exact⟨by omega,λ i hi=>by rcases Nat.lt_succ_iff_lt_or_eq.1 hi with h|rfl;exact hx.2 i h;assumption⟩
 ·refine bO rfl ?_;refine gM ?_;refine aA ?_;refine aP (cV (hc:=λ w1 hw=>uR _ N w1)) (λ x22=>?_);refine aA ?_
  (refine eI 23 (λ g23=>?_) (λ g23=>?_)<;>(first|refine aJ ?_|(refine aF ?_;refine aE ?_)))
  all_goals (refine Zy ?_;(first|refine aJ ?_|(refine aF ?_;refine aP (cV (hc:=λ w1 hw=>uR _ N w1)) (λ x27=>?_)));refine cJ ?_;refine aA ?_)
  all_goals (first|refine aJ ?_|(refine eI 29 (λ g29=>?_) (λ g29=>?_)<;>(first|refine aJ ?_|(refine aF ?_;refine aE ?_))))
  all_goals (refine Zy ?_;(first|refine aJ ?_|(refine aF ?_;refine aP (cV (hc:=λ w1 hw=>uR _ N w1)) (λ x33=>?_)));refine cJ ?_;refine J1 ?_)
  all_goals
  refine aR Tryz.results159 (λ w hw=>?_)
  have hall:∀i,i<xs.length->D1 (xs.getD i 0) N:=λ i hi=>hx.2 i (by omega)
  first|exact⟨_,rfl,by simp_all[Ss],hw.done⟩
theorem Z3(n:Nd)(w:World):Calls Tryz.prog 160 #[n.v] w λ e w'=>e=.returned (.tuple #[.int .i64 ((fW n).getD 0),.bool (fW n).isSome])/\St w [] [] w':=by
 refine enter Tryz.func160 Tryz.ntmps160 rfl rfl (SF.s0 w) ?_
 simp only[bX]
 simp only[Nd.v,Nd.cells]
 refine J0 ?_;refine bL (λ x1=>?_);refine J8 ?_;refine Cp ?_;refine gM ?_;refine Qq ?_
 refine bC (λ c4=>?_) (λ c4=>?_)
 ·refine gM ?_;refine J8 ?_
  refine bB Tryz.results160 (λ w hw=>?_)
  refine⟨?_,hw.done⟩
  (rw[show fW n=some n.main by simp[fW,c4]];rfl)
 ·refine nX ?_;refine aC (c0 (V:=.bool) (hc:=λ w1 hw=>Si n w1)) (λ x12 h12=>?_);refine J1 ?_
  refine bC (λ c10=>?_) (λ c10=>?_)
  ·have k22:n.kind=3∨n.kind=5∨n.kind=6:=h12.1 c10
   refine gM ?_;refine J8 ?_
   refine bB Tryz.results160 (λ w hw=>?_)
   refine⟨?_,hw.done⟩
   (rw[show fW n=some n.prev by simp only[fW];rw[if_neg c4,if_pos k22]];rfl)
  ·have k22:¬(n.kind=3∨n.kind=5∨n.kind=6):=λ k=>by rw[h12.2 k] at c10;cases c10
   refine gM ?_;refine Qq ?_
   refine bC (λ c15=>?_) (λ c15=>?_)
   ·refine gM ?_;refine J8 ?_
    refine bB Tryz.results160 (λ w hw=>?_)
    refine⟨?_,hw.done⟩
    (rw[show fW n=some n.status by simp only[fW];rw[if_neg c4,if_neg k22,if_pos c15]];rfl)
   ·refine oF ?_;refine O9 ?_
    refine bB Tryz.results160 (λ w hw=>?_)
    refine⟨?_,hw.done⟩
    (rw[show fW n=none by simp only[fW];rw[if_neg c4,if_neg k22,if_neg c15]];rfl)
end

end Go.Proofs.YtbajmaoegmbfgaaGreat
