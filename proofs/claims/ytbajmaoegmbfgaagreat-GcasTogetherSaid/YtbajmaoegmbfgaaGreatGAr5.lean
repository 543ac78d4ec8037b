/- Nodes of the program's arena are read; lists are cloned; the state is read. -/
import Derived.Test.YtbajmaoegmbfgaaGreatGNode3
import Derived.Test.YtbajmaoegmbfgaaGreatGMem
import Derived.Test.YtbajmaoegmbfgaaGreatAuto
import Derived.Test.YtbajmaoegmbfgaaGreatGNode2

set_option linter.unusedSimpArgs false
set_option linter.unusedVariables false
namespace Go.Ct
section
theorem Cl.gy{w:Go.World}{cs:List Go.Value}(h:Cl w none cs):cs=[]:=by
 cases cs with
 | nil=>rfl
 | cons v r=>exact absurd (h.ptr (by simp)) (by simp)
theorem Yd{l:List Int}(h:aG l=[]):l=[]:=by simpa[aG] using h
theorem Hs{L:List aP}{k:Nat}(h:k<2):aB (cZ L) ((k+1:Nat):Int)=fL:=by
 rw[sC (by rw[fS];omega)]
 rcases(show k=0∨k=1 by omega) with rfl|rfl<;>rfl
theorem Kl{L:List aP}{k:Nat}(h:2<=k)(h2:k<L.length+2):aB (cZ L) ((k+1:Nat):Int)=L.getD (k+1-2-1) aP.zero:=by
 rw[sC (by rw[fS];omega)]
 obtain⟨j,rfl⟩:∃j,k=j+2:=⟨k-2,by omega⟩
 rw[show j+2+1-2-1=j by omega]
 rfl
end
end Go.Ct
namespace Go.Proofs.YtbajmaoegmbfgaaGreat
section
open Go.RowKit Go.Ct
variable{w:World}{D:List Nat}{b:Nat}{L:List aP}{cs:List Int}{gen acc:Int}{pn pc:Option Addr}{cn cc:Nat}{A:Fr}
theorem zH{l:List Int}{a:Option Addr}{c:Nat}{w:World}(ha:Cl w a (aG l))(hl:l.length<=274877906944):Calls Tryz.prog 84 #[.slice a l.length c] w λ e w' =>
  ∃x:Option Addr×Nat,e=.returned (.slice x.1 l.length x.2)/\True/\SF w [] [] [] [] [⟨x.1,aG l,x.2,37,1⟩] w':=by
 refine enter Tryz.func84 Tryz.ntmps84 rfl rfl (SF.s1 ha) ?_
 simp only[bX]
 refine cO ?_;refine kB ?_;refine uG ?_
 refine bB (λ c4=>?_) (λ c4=>?_)
 ·have e0:a=none:=by cases a with|none=>rfl|some _=>cases c4
  subst e0
  obtain rfl:=Yd ha.gy
  refine cO ?_
  refine aT Tryz.results84 (λ w hw=>?_)
  exact⟨(none,0),rfl,trivial,(hw.kL 37 1).aU⟩
 ·refine bA ?_;refine J0 ?_;refine iM (λ x5=>?_);refine aA ?_;(refine fG (λ x7=>?_);try (refine eX (λ h7=>?_)));refine J1 ?_
  refine aT Tryz.results84 (λ w hw=>?_)
  exact⟨x7,by simp only[Nat.zero_add];rfl,trivial,by simpa using hw.aU (F':=[]) (H':=[])⟩
theorem my(hs:SF w D [(b,aO L cs gen acc pn cn pc cc)] A [] (mW L cs pn cn pc cc) w)(r:Int)(hr:r<1)(hl:L.length<=274877906944) :
  Calls Tryz.prog 36 #[.pointer (some ⟨b,0,none⟩),.int .i64 r] w λ e w'=>∃q:Option Addr×Option Addr,e=.returned ((aB (cZ L) r).at_ q.1 q.2).nd.v/\True /\
  SF w D [(b,aO L cs gen acc pn cn pc cc)] [] [] (mW L cs pn cn pc cc++[⟨q.2,cU (aB (cZ L) r).ys,(aB (cZ L) r).ys.length,164,2⟩,⟨q.1,aG (aB (cZ L) r).xs,(aB (cZ L) r).xs.length,37,1⟩]) w':=by
 rw[pL (by omega)]
 refine enter Tryz.func36 Tryz.ntmps36 rfl rfl (yY hs) ?_
 simp only[bX]
 refine J0 ?_;refine aJ (λ x4=>?_);refine aH ?_;refine kB ?_;refine Cq ?_
 (refine eE 7 (λ g7=>?_) (λ g7=>?_)<;>(try (exfalso;omega))<;>(refine aI ?_))
 (refine aI ?_);(refine aI ?_);refine Bh ?_;refine aH ?_
 refine bB (λ c12=>?_) (λ c12=>?_)
 ·try (exfalso;omega)
  refine J0 ?_;refine vB ?_
  refine bC Tryz.results36 (λ w hw=>?_)
  exact⟨(none,none),rfl,trivial,(hw.xq 164 2 37 1).aU⟩
 ·exact nv c12
theorem df(hs:SF w D [(b,aO L cs gen acc pn cn pc cc)] (aK L) [] (mW L cs pn cn pc cc) w)(hf:Fits L){k:Nat}(hk:(k:Int)<9223372036854775807)(hl:L.length<=274877906944) :
  Calls Tryz.prog 36 #[.pointer (some ⟨b,0,none⟩),.int .i64 ((k+1:Nat):Int)] w λ e w'=>∃q:Option Addr×Option Addr,e=.returned ((aB (cZ L) ((k+1:Nat):Int)).at_ q.1 q.2).nd.v/\True /\
  SF w D [(b,aO L cs gen acc pn cn pc cc)] [] [] (mW L cs pn cn pc cc++[⟨q.2,cU (aB (cZ L) ((k+1:Nat):Int)).ys,(aB (cZ L) ((k+1:Nat):Int)).ys.length,164,2⟩,⟨q.1,aG (aB (cZ L) ((k+1:Nat):Int)).xs,(aB (cZ L) ((k+1:Nat):Int)).xs.length,37,1⟩]) w':=by
 refine enter Tryz.func36 Tryz.ntmps36 rfl rfl (yY hs) ?_
 simp only[bX]
 refine J0 ?_;refine aJ (λ x4=>?_);refine aH ?_;refine kB ?_;refine Cq ?_
 (refine aF ?_;refine aA ?_)
 ((refine aF ?_;refine aA ?_));((refine aF ?_;refine aD (cM (hc:=λ w hs=>nI (m:=L.length) hs (by omega))) (λ x10 h10=>?_)));refine Bh ?_;refine aH ?_
 refine bB (λ c12=>?_) (λ c12=>?_)
 ·try (exfalso;omega)
  refine J0 ?_;refine vB ?_
  refine bC Tryz.results36 (λ w hw=>?_)
  exact⟨(none,none),by rw[pL (by rw[fS];omega)];rfl,trivial,by rw[pL (by rw[fS];omega)];exact(hw.xq 164 2 37 1).aU⟩
 ·try (exfalso;omega)
  refine jV ?_;refine J2 ?_;refine Be ?_;refine aH ?_
  refine bB (λ c15=>?_) (λ c15=>?_)
  ·try (exfalso;omega)
   refine J0 ?_;refine vB ?_
   refine bC Tryz.results36 (λ w hw=>?_)
   exact⟨(none,none),by rw[Hs (by omega)];rfl,trivial,by rw[Hs (by omega)];exact(hw.xq 164 2 37 1).aU⟩
  ·try (exfalso;omega)
   refine uk ?_;refine aA ?_;refine aC (by exact jG (n:=2) rf rf (by omega) (by omega)) rfl ?_;refine aC (by exact aa rf rf (by omega) (by omega)) rfl ?_;refine Rl ?_;refine aD (Pn (Hc:=λ _=>[]) (Fc:=λ _=>[]) (V:=λ p:Option Addr×Option Addr=>((L.getD (k+1-2-1) aP.zero).at_ p.1 p.2).nd.v) (hc:=λ w1 hw=>Ul (hw.aAx hf (by omega)) (hf.at (by omega)).brS (hf.at (by omega)).prS)) (λ x26 h26=>?_);refine J5 ?_
   refine bC Tryz.results36 (λ w hw=>?_)
   exact⟨x26,by rw[Kl (by omega) (by omega)];rfl,trivial,by rw[Kl (by omega) (by omega)];exact hw.toEnd.aU⟩
end

/- The arena's state is read. -/
section
open Go.RowKit Go.Ct
variable{w:World}{D:List Nat}{b:Nat}{L:List aP}{cs:List Int}{gen acc:Int}{pn pc:Option Addr}{cn cc:Nat}{A:Fr}
theorem Vg(hs:SF w D [(b,aO L cs gen acc pn cn pc cc)] (aK L) [] (mW L cs pn cn pc cc) w)(hf:Fits L)(r:Int)(hr:r<=9223372036854775807)(hl:L.length<=274877906944) :
  Calls Tryz.prog 36 #[.pointer (some ⟨b,0,none⟩),.int .i64 r] w λ e w'=>∃q:Option Addr×Option Addr,e=.returned (.agg ⟨((aB (cZ L) r).at_ q.1 q.2).nd.cells⟩)/\True /\
  SF w D [(b,aO L cs gen acc pn cn pc cc)] [] [] (mW L cs pn cn pc cc++[⟨q.2,cU (aB (cZ L) r).ys,(aB (cZ L) r).ys.length,164,2⟩,⟨q.1,aG (aB (cZ L) r).xs,(aB (cZ L) r).xs.length,37,1⟩]) w':=by
 rcases Int.lt_or_le r 1 with h|h
 ·exact my hs r h hl
 ·obtain⟨k,rfl⟩:∃k:Nat,r=((k+1:Nat):Int):=⟨(r-1).toNat,by omega⟩
  exact df hs hf (by omega) hl
theorem Gs(hs:SF w D [(b,aO L cs gen acc pn cn pc cc)] (aK L) [] (mW L cs pn cn pc cc) w)(hf:Fits L)(hl:L.length<=274877906944)(hc:cs.length<=274877906944) :
  Calls Tryz.prog 32 #[.pointer (some ⟨b,0,none⟩)] w λ e w'=>∃x:List aP×(Option Addr×Nat)×(Option Addr×Nat),e=.returned (.agg ⟨[.slice x.2.1.1 x.1.length x.2.1.2,.slice x.2.2.1 cs.length x.2.2.2,.int .i64 gen]⟩) /\
   (x.1.map aP.c=(cZ L).map aP.c/\Fits x.1) /\
  SF w D [(b,aO L cs gen acc pn cn pc cc)] [] (aK x.1) (mW L cs pn cn pc cc++[⟨x.2.1.1,hU x.1,x.2.1.2,47,14⟩,⟨x.2.2.1,aG cs,x.2.2.2,37,1⟩]) w':=by
 refine enter Tryz.func32 Tryz.ntmps32 rfl rfl (yY hs) ?_
 simp only[bX]
 refine J0 ?_;refine aJ (λ x2=>?_);refine Rt ?_
 refine eA [3,5,6,7,8,9,10,11,12,13,14] (λ j:Nat×Option Addr×Nat=>[(3,.pointer (some ⟨j.1,0,none⟩))]) (λ _=>True) (λ j=>[(j.1,.cells ⟨[.slice none 0 0,.slice j.2.1 cs.length j.2.2,.int .i64 gen]⟩ 52 (0,0)),(x2,.cells ⟨[.slice none 0 0,.slice none 0 0,.int .i64 0]⟩ 52 (0,0)),(b,aO L cs gen acc pn cn pc cc)]) (λ _=>[]) (λ j=>[⟨j.2.1,aG cs,j.2.2,37,1⟩,⟨pn,hU L,cn,47,14⟩,⟨pc,aG cs,cc,37,1⟩]) (by decide) (λ _=>by exact rfl) ?_ (λ j f hx=>?_)
 ·refine fP (.one 0 [] (.one 1 [] (.one 2 [] (.one 3 [] (.one 5 [] (.one 6 [] (.one 7 [] (.one 8 [] (.two 4 [8] (.one 9 [] (.one 10 [3,8] (.one 11 [] .nil))) 0 [] (.two 10 [3,8] (.one 4 [8] (.one 9 [] (.one 11 [] .nil))) 0 [] .nil)))))))))) ?_
  refine D6 ?_
  refine fV (E:=[4,10]) (by decide +kernel) ((.cons ?_ (.cons ?_ .nil)))
  ·refine jS (i:=4) (hq:=(Pn (Hc:=λ _=>[]) (Fc:=λ _=>[]) (hc:=λ w1 hw=>zH (hw.cl fin) hc))) (h:=λ x9 h9=>?_)
   refine fA ?_;refine gA (h:=λ x3=>?_);refine vZ ?_
   refine eQ ((x3,x9.1,x9.2)) ?_
   ·trivial
  ·refine fO (i:=10) (h:=λ x3=>?_)
   refine aZ (i:=4) (hq:=(Pn (Hc:=λ _=>[]) (Fc:=λ _=>[]) (hc:=λ w1 hw=>zH (hw.cl fin) hc))) (h:=λ x9 h9=>?_);refine fA ?_;refine vZ ?_
   refine eQ ((x3,x9.1,x9.2)) ?_
   ·trivial
 dsimp only[gU,List.map,List.cons_append,List.nil_append]
 refine J2 ?_;refine aD (cM (hc:=λ w hs=>nI (m:=L.length) hs (by omega))) (λ x16 h16=>?_);refine qU (λ x17=>?_);refine uK ?_;refine kB ?_;refine aD (cM (hc:=λ w hs=>nI (m:=L.length) hs (by omega))) (λ x20 h20=>?_);refine Ee ?_;refine cR ?_
 refine mZ [4,21,22,23,24,25,26,27,28,29,30,31,32,33] (λ y:List aP×Option Addr×Nat=>[(21,.int .i64 ((y.1.length:Nat):Int))]) (λ y=>y.1.map aP.c=((cZ L).take y.1.length).map aP.c/\y.1.length<=L.length+2/\Fits y.1) (λ y=>[(j.1,.cells ⟨[.slice y.2.1 y.1.length y.2.2,.slice j.2.1 cs.length j.2.2,.int .i64 gen]⟩ 52 (0,0)),(x2,.cells ⟨[.slice none 0 0,.slice none 0 0,.int .i64 0]⟩ 52 (0,0)),(b,aO L cs gen acc pn cn pc cc)]) (λ y=>aK y.1) (λ y=>[⟨y.2.1,hU y.1,y.2.2,47,14⟩,⟨j.2.1,aG cs,j.2.2,37,1⟩,⟨pn,hU L,cn,47,14⟩,⟨pc,aG cs,cc,37,1⟩]) (λ y=>L.length+2-y.1.length) (([],some ⟨x17,0,none⟩,L.length+2)) (⟨rfl,Nat.zero_le _,λ _ h=>(List.not_mem_nil h).elim⟩) (λ y f hx=>?_) (hw0:=λ w hw=>hw.back)
 dsimp only[gU,List.map,List.cons_append,List.nil_append]
 refine J0 ?_;refine xA ?_;refine aV ?_
 refine bB (λ c22=>?_) (λ c22=>?_)
 ·refine qE ?_;refine J2 ?_;refine J1 ?_;refine dK [(0,[]),(1,[]),(2,[]),(3,[]),(4,[]),(5,[1]),(6,[1]),(7,[]),(8,[]),(9,[])] ?_;refine kG ?_;refine iH ?_;refine ax ?_;refine aZ (i:=5) (hq:=(cMO (hc:=λ w hs=>Vg hs hf ((y.1.length+1:Nat):Int) (by omega) hl))) (h:=λ x29 h29=>?_);refine bV (h:=λ x30=>?_);((refine cH (i:=7) (hq:=(bE.eN (Vq ((aB (cZ L) ((y.1.length+1:Nat):Int)).at_ x29.1 x29.2) rf rf zB rfl fin Nn rfl fZ om) uD)) (h:=λ x31=>?_);try (refine eC (λ h31=>?_))));refine aR ?_;refine vZ ?_;refine fK ?_;refine Zn ?_;refine Ee ?_
  refine iP ((y.1++[(aB (cZ L) ((y.1.length+1:Nat):Int)).at_ x29.1 x29.2],x31.1,x31.2)) ?_ (hw1:=λ w hw=>by
   have h2:=(hw.freeze .head).freeze .head
   simp only[rF] at h2
   have h3:=h2.vc (L:=y.1) (v:=(aB (cZ L) ((y.1.length+1:Nat):Int)).at_ x29.1 x29.2) (F':=[]) (List.mem_cons_self ..) (List.mem_cons_of_mem _ (List.mem_cons_self ..)) (λ f hf=>List.mem_cons_of_mem _ (List.mem_cons_of_mem _ (List.mem_cons_of_mem _ hf)))
   simpa using h3) (hμ:=by simp only[List.length_append,List.length_cons,List.length_nil];omega)
  ·have hlt:y.1.length<(cZ L).length:=by rw[fS];omega
   refine⟨?_,by simp only[List.length_append,List.length_cons,List.length_nil];omega,λ v hv=>?_⟩
   ·rw[List.map_append,hx.1,List.length_append,List.length_singleton,List.take_succ_eq_append_getElem hlt,List.map_append,sC hlt,jH,List.getElem?_eq_getElem hlt]
    rfl
   ·rcases List.mem_append.1 hv with hv|hv
    ·exact hx.2.2 v hv
    ·simp only[List.mem_singleton] at hv
     subst hv
     exact aP.de (Ke hf.all _) _ _
 ·refine bN rfl ?_;refine nQ ?_;refine J5 ?_
  refine bC Tryz.results32 (λ w hw=>?_)
  have hlen:y.1.length=L.length+2:=by omega
  refine⟨(y.1,(y.2.1,y.2.2),(j.2.1,j.2.2)),rfl,⟨by rw[hx.1,hlen,List.take_of_length_le (by rw[fS];omega)],hx.2.2⟩,?_⟩
  exact(SF.toEnd hw).ret (by repeat (first|exact List.Sublist.refl _|apply List.Sublist.cons)) aY.all (List.Sublist.refl _)
end

/- Lists and the smallest functions of nodes. -/
section
open Go.RowKit Go.Ct
theorem aBM (n : Nd) (w : World) : Calls Tryz.prog 197 #[n.v] w fun e w' => e = .returned n.own.v ∧ St w [] [] w' := by
  refine enter Tryz.func197 Tryz.ntmps197 rfl rfl (SF.s0 w) ?_
  simp only [bX]
  refine J0 ?_; refine bI (fun x1 => ?_); refine aJ (fun x2 => ?_); refine aH ?_; refine gZ ?_; refine bJ ?_; refine aJ (fun x3 => ?_); refine J5 ?_; refine Dk ?_; refine aH ?_; refine cR ?_; refine Dg ?_; refine Dg ?_; refine Dg ?_; refine Dg ?_; refine Dg ?_; refine Dg ?_; refine Dg ?_; refine aV ?_; refine aV ?_; refine lN ?_
  refine bB (fun c9 => ?_) (fun c9 => ?_)
  · refine bN rfl ?_; refine aV ?_; refine dK [(0, []), (1, []), (2, []), (3, []), (4, []), (5, [3]), (6, []), (7, [])] ?_; refine kG ?_; refine kG ?_; refine aR ?_; refine Se ?_; refine vZ ?_; refine bN rfl ?_; refine nQ ?_; refine J5 ?_
    refine bC Tryz.results197 (fun w hw => ?_)
    exact ⟨by simp only [Nd.own, beq_iff_eq, *, if_true, if_false]; rfl, hw.done⟩
  · refine jV ?_; refine lN ?_
    refine bB (fun c11 => ?_) (fun c11 => ?_)
    · refine bN rfl ?_; refine aV ?_; refine dK [(0, []), (1, []), (2, []), (3, []), (4, []), (5, []), (6, []), (7, [3, 5]), (8, []), (9, [5]), (10, []), (11, [])] ?_; refine kG ?_; refine kG ?_; refine kG ?_; refine aR ?_; refine Se ?_; refine Se ?_; refine vZ ?_; refine bN rfl ?_; refine nQ ?_; refine J5 ?_
      refine bC Tryz.results197 (fun w hw => ?_)
      exact ⟨by simp only [Nd.own, beq_iff_eq, *, if_true, if_false]; rfl, hw.done⟩
    · refine jV ?_; refine lN ?_
      refine bB (fun c13 => ?_) (fun c13 => ?_)
      · refine bN rfl ?_; refine dL ?_; refine J3 ?_; refine uK ?_; refine fK ?_; refine aV ?_; refine dK [(0, []), (1, []), (2, []), (3, []), (4, []), (5, []), (6, []), (7, [3, 5]), (8, []), (9, [5]), (10, []), (11, [])] ?_; refine kG ?_; refine kG ?_; refine kG ?_; refine aR ?_; refine Se ?_; refine Se ?_; refine vZ ?_; refine bN rfl ?_; refine nQ ?_; refine J5 ?_
        refine bC Tryz.results197 (fun w hw => ?_)
        exact ⟨by simp only [Nd.own, beq_iff_eq, *, if_true, if_false]; rfl, hw.done⟩
      · refine jV ?_; refine lN ?_
        refine bB (fun c15 => ?_) (fun c15 => ?_)
        · refine bN rfl ?_; refine aV ?_; refine dK [(0, []), (1, []), (2, []), (3, []), (4, []), (5, []), (6, []), (7, [3, 5]), (8, []), (9, [5]), (10, []), (11, [])] ?_; refine kG ?_; refine kG ?_; refine kG ?_; refine aR ?_; refine Se ?_; refine Se ?_; refine vZ ?_; refine bN rfl ?_; refine nQ ?_; refine J5 ?_
          refine bC Tryz.results197 (fun w hw => ?_)
          exact ⟨by simp only [Nd.own, beq_iff_eq, *, if_true, if_false]; rfl, hw.done⟩
        · refine jV ?_; refine lN ?_
          refine bB (fun c17 => ?_) (fun c17 => ?_)
          · refine bN rfl ?_; refine aV ?_; refine dK [(0, []), (1, []), (2, []), (3, []), (4, []), (5, []), (6, []), (7, [3, 5]), (8, []), (9, [5]), (10, []), (11, [])] ?_; refine kG ?_; refine kG ?_; refine kG ?_; refine aR ?_; refine Se ?_; refine Se ?_; refine vZ ?_; refine bN rfl ?_; refine nQ ?_; refine J5 ?_
            refine bC Tryz.results197 (fun w hw => ?_)
            exact ⟨by simp only [Nd.own, beq_iff_eq, *, if_true, if_false]; rfl, hw.done⟩
          · refine jV ?_; refine lN ?_
            refine bB (fun c19 => ?_) (fun c19 => ?_)
            · refine bN rfl ?_; refine dK [(0, []), (1, []), (2, []), (3, []), (4, []), (5, []), (6, []), (7, [3, 5]), (8, []), (9, [5]), (10, []), (11, [])] ?_; refine kG ?_; refine kG ?_; refine kG ?_; refine aR ?_; refine Se ?_; refine Se ?_; refine vZ ?_; refine fK ?_; refine gZ ?_; refine uK ?_; refine bN rfl ?_; refine nQ ?_; refine J5 ?_
              refine bC Tryz.results197 (fun w hw => ?_)
              exact ⟨by simp only [Nd.own, beq_iff_eq, *, if_true, if_false]; rfl, hw.done⟩
            · refine bA ?_; refine lN ?_
              refine bB (fun c21 => ?_) (fun c21 => ?_)
              · refine bN rfl ?_; refine gZ ?_; refine uK ?_; refine bN rfl ?_; refine nQ ?_; refine J5 ?_
                refine bC Tryz.results197 (fun w hw => ?_)
                exact ⟨by simp only [Nd.own, beq_iff_eq, *, if_true, if_false]; rfl, hw.done⟩
              · refine bA ?_; refine bN rfl ?_; refine nQ ?_; refine J5 ?_
                refine bC Tryz.results197 (fun w hw => ?_)
                exact ⟨by simp only [Nd.own, beq_iff_eq, *, if_true, if_false]; rfl, hw.done⟩
end

/- node.Valid. -/
section
open Go.RowKit Go.Ct
theorem y9(b:Int)(w:World):Calls Tryz.prog 238 #[.int .u64 b] w λ e w'=>e=.returned (.int .i64 (yR b))/\St w [] [] w':=by
 refine enter Tryz.func238 Tryz.ntmps238 rfl rfl (SF.s0 w) ?_
 simp only[bX]
 refine cO ?_;refine J2 ?_;refine Hz ?_;refine Ic ?_;refine aA ?_;refine Ic ?_;refine Gb ?_;refine J1 ?_;refine J2 ?_;refine Hz ?_;refine Ic ?_;refine aA ?_;refine Ic ?_;refine Gb ?_;refine J1 ?_;refine J2 ?_;refine Hz ?_;refine aA ?_;refine Gb ?_;refine Ic ?_;refine yE ?_;refine Hz ?_;refine Gb ?_;refine yE ?_;refine Hz ?_;refine Gb ?_;refine yE ?_;refine Hz ?_;refine Gb ?_;refine J1 ?_;refine J2 ?_;refine nK ?_;refine Ic ?_;refine J1 ?_
 refine aT Tryz.results238 (λ w hw=>?_)
 exact⟨rfl,hw.done⟩
theorem rl(b:Int)(w:World):Calls Tryz.prog 198 #[.int .u64 b] w λ e w'=>e=.returned (.int .i64 (yR b))/\St w [] [] w':=by
 refine enter Tryz.func198 Tryz.ntmps198 rfl rfl (SF.s0 w) ?_
 simp only[bX]
 refine cO ?_;refine J2 ?_;refine aS (cV (hc:=λ w1 hw=>y9 b w1)) (λ x4=>?_);refine J1 ?_
 refine aT Tryz.results198 (λ w hw=>?_)
 exact⟨rfl,hw.done⟩
theorem Yp{n:Nd}{xs:List Int}{ys:List Pr}{w:World}(hr:rO w n xs ys) :
  Calls Tryz.prog 158 #[n.v] w λ e w'=>∃r:Bool,e=.returned (.bool r)/\(r=true↔bY n xs ys)/\St w [] [] w':=by
 have e1:=hr.brN;have e2:=hr.prN
 refine enter Tryz.func158 Tryz.ntmps158 rfl rfl (SF.s0 w) ?_
 simp only[bX]
 refine J0 ?_;refine bI (λ x1=>?_);refine iB ?_;refine aV ?_;refine dK [(0,[]),(1,[]),(2,[0]),(3,[]),(4,[])] ?_;refine bG ?_;refine bG ?_;refine cH (i:=2) (hq:=(cV (hc:=λ w1 hw=>aBM n w1))) (h:=λ x5=>?_);refine aZ (i:=3) (hq:=(c0 (V:=.bool) (hc:=λ w1 hw=>w9 (hr.gH hw.st) (hr.gH hw.st).own))) (h:=λ x6 h6=>?_);refine Hg ?_;refine dY ?_
 refine bB (λ c7=>?_) (λ c7=>?_)
 ·refine cO ?_
  refine aT Tryz.results158 (λ w hw=>?_)
  refine⟨_,rfl,?_,hw.done⟩
  (simp_all[bY];done)
 ·refine jV ?_;refine gZ ?_;refine Cq ?_
  (refine eE 11 (λ g11=>?_) (λ g11=>?_)<;>(first|refine aI ?_|(refine aF ?_;refine aE ?_)))
  all_goals (refine zo ?_;refine aA ?_)
  all_goals (first|refine aI ?_|(refine eE 16 (λ g16=>?_) (λ g16=>?_)<;>(first|refine aI ?_|(refine aF ?_;refine aE ?_))))
  all_goals (refine zo ?_;refine aH ?_)
  all_goals
  refine bB (λ c20=>?_) (λ c20=>?_)
  ·all_goals refine cO ?_
   all_goals
    refine aT Tryz.results158 (λ w hw=>?_)
    refine⟨_,rfl,?_,hw.done⟩
    (simp_all[bY];omega)
  ·try exact nv c20
   all_goals (refine jV ?_;refine gZ ?_;refine aH ?_;refine cR ?_;refine Dg ?_;refine Dg ?_;refine Dg ?_;refine Dg ?_;refine cR ?_;refine Dg ?_;refine Dg ?_;refine Dg ?_;refine aV ?_;refine aV ?_;refine lN ?_)
   all_goals
    refine bB (λ c23=>?_) (λ c23=>?_)
    ·refine bN rfl ?_;refine aV ?_;refine cO ?_
     refine aT Tryz.results158 (λ w hw=>?_)
     refine⟨_,rfl,?_,hw.done⟩
     (simp_all[bY];done)
    ·refine jV ?_;refine lN ?_
     refine bB (λ c25=>?_) (λ c25=>?_)
     ·refine bN rfl ?_;refine Dk ?_;refine oG ?_;refine J1 ?_
      refine aT Tryz.results158 (λ w hw=>?_)
      refine⟨_,rfl,?_,hw.done⟩
      (simp_all[bY];done)
     ·refine jV ?_;refine lN ?_
      refine bB (λ c27=>?_) (λ c27=>?_)
      ·refine bN rfl ?_;refine aV ?_;refine aV ?_;refine dK [(0,[]),(1,[]),(2,[]),(3,[]),(4,[]),(5,[1]),(6,[]),(7,[]),(8,[]),(9,[]),(10,[]),(11,[]),(12,[])] ?_;refine kG ?_;refine oC ?_;refine kG ?_;refine cH (i:=5) (hq:=(cV (hc:=λ w1 hw=>rl n.bm w1))) (h:=λ x47=>?_);refine mJ ?_;refine aN ?_
       (refine Zy 49 (λ g49=>?_) (λ g49=>?_)<;>(first|refine cX ?_|(refine aR ?_)))
       all_goals ((first|refine cX ?_|(refine bG ?_));(first|refine cX ?_|(refine aZ (i:=10) (hq:=(c0 (V:=.bool) (hc:=λ w1 hw=>by rw[e1];exact Ta (hr.br.gH hw.st) hr.brS))) (h:=λ x52 h52=>?_)));refine eF ?_;refine J7 ?_)
       all_goals
       refine aT Tryz.results158 (λ w hw=>?_)
       refine⟨_,rfl,?_,hw.done⟩
       (simp_all[bY];done)
      ·refine jV ?_;refine lN ?_
       refine bB (λ c29=>?_) (λ c29=>?_)
       ·refine Zw ?_;refine Dk ?_;refine lY ?_;refine Be ?_;refine J1 ?_
        refine aT Tryz.results158 (λ w hw=>?_)
        refine⟨_,rfl,?_,hw.done⟩
        (simp_all[bY];omega)
       ·refine jV ?_;refine lN ?_
        refine bB (λ c31=>?_) (λ c31=>?_)
        ·refine bN rfl ?_;refine Dk ?_;refine lY ?_;refine Be ?_;refine J1 ?_
         refine aT Tryz.results158 (λ w hw=>?_)
         refine⟨_,rfl,?_,hw.done⟩
         (simp_all[bY];omega)
        ·refine jV ?_;refine lN ?_
         refine bB (λ c33=>?_) (λ c33=>?_)
         ·refine bN rfl ?_;refine Dk ?_;refine dB ?_;refine oG ?_;refine aA ?_
          (refine eE 62 (λ g62=>?_) (λ g62=>?_)<;>(first|refine aI ?_|(refine aF ?_;refine aE ?_)))
          all_goals ((first|refine aI ?_|(refine aF ?_;refine bL ?_));(first|refine aI ?_|(refine aF ?_;refine aD (c0 (V:=.bool) (hc:=λ w1 hw=>by rw[e2];exact Ze (hr.pr.gH hw.st) hr.prS)) (λ x65 h65=>?_)));refine cB ?_;refine aA ?_)
          all_goals (first|refine aI ?_|(refine eE 67 (λ g67=>?_) (λ g67=>?_)<;>(first|refine aI ?_|(refine aF ?_;refine aE ?_))))
          all_goals ((first|refine aI ?_|(refine aF ?_;refine bL ?_));(first|refine aI ?_|(refine aF ?_;refine aD (c0 (V:=.bool) (hc:=λ w1 hw=>by rw[e2];exact Ob (hr.pr.gH hw.st) hr.prS)) (λ x70 h70=>?_)));refine cB ?_;refine J1 ?_)
          all_goals
          refine aT Tryz.results158 (λ w hw=>?_)
          refine⟨_,rfl,?_,hw.done⟩
          first|(simp_all[bY];done)|(simp_all[bY];omega)
         ·refine jV ?_;refine lN ?_
          refine bB (λ c35=>?_) (λ c35=>?_)
          ·refine bN rfl ?_;refine gZ ?_;refine Cq ?_
           (refine eE 75 (λ g75=>?_) (λ g75=>?_)<;>(first|refine aI ?_|(refine aF ?_;refine aE ?_)))
           all_goals (refine zo ?_;refine aH ?_)
           all_goals
           refine bB (λ c79=>?_) (λ c79=>?_)
           ·all_goals refine cO ?_
            all_goals
             refine aT Tryz.results158 (λ w hw=>?_)
             refine⟨_,rfl,?_,hw.done⟩
             (simp_all[bY];omega)
           ·try exact nv c79
            all_goals (refine nZ ?_;refine Dk ?_;refine oG ?_;refine J1 ?_)
            all_goals
             refine aT Tryz.results158 (λ w hw=>?_)
             refine⟨_,rfl,?_,hw.done⟩
             (simp_all[bY];done)
          ·refine bA ?_;refine lN ?_
           refine bB (λ c37=>?_) (λ c37=>?_)
           ·refine bN rfl ?_;refine Dk ?_;refine oG ?_;refine J1 ?_
            refine aT Tryz.results158 (λ w hw=>?_)
            refine⟨_,rfl,?_,hw.done⟩
            (simp_all[bY];done)
           ·refine bA ?_;refine bN rfl ?_;refine cO ?_
            refine aT Tryz.results158 (λ w hw=>?_)
            refine⟨_,rfl,?_,hw.done⟩
            (simp_all[bY];done)
end

/- Proper states: the program's check. -/
end Go.Proofs.YtbajmaoegmbfgaaGreat
namespace Go.Ct
section
def gE(n:Nd):Option Int:=if n.kind=2 then some n.main else if n.kind=3∨n.kind=5∨n.kind=6 then some n.prev else if n.kind=8 then some n.status else none
def eT(u:Option (List Bool))(n:Nd):Option (List Bool) :=
 match u with
 | none=>none
 | some u=>match gE n with
  | none=>some u
  | some c=>if 1<=c/\c<=u.length/\u.getD (c-1).toNat false=false then some (u.set (c-1).toNat true) else none
def marks(m:Nat)(L:List aP):Option (List Bool):=L.foldl (λ u v=>eT u v.nd) (some (List.replicate m false))
theorem nL{m:Nat}{L:List aP}{k:Nat}(h:k<L.length):marks m (L.take (k+1))=eT (marks m (L.take k)) (L.getD k aP.zero).nd:=by
 rw[marks,List.take_succ_eq_append_getElem h,List.foldl_append,jH,List.getElem?_eq_getElem h]
 rfl
theorem F6{m:Nat}{L:List aP}{k:Nat}(h:marks m (L.take k)=none):marks m L=none:=by
 have e:L=L.take k++L.drop k:=(List.take_append_drop k L).symm
 rw[e,marks,List.foldl_append]
 rw[marks] at h
 rw[h]
 generalize L.drop k=l
 induction l with
 | nil=>rfl
 | cons v l ih=>exact ih
theorem Ce{m:Nat}:∀{L:List aP} {u:List Bool},marks m L=some u->u.length=m:=by
 intro L
 have key:∀(l:List aP) (u0:Option (List Bool)),(∀u,u0=some u->u.length=m)->∀u,l.foldl (λ u v=>eT u v.nd) u0=some u->u.length=m:=by
  intro l
  induction l with
  | nil=>intro u0 h u hu;exact h u hu
  | cons v l ih =>
   intro u0 h u hu
   refine ih (eT u0 v.nd) (λ u1 h1=>?_) u hu
   cases u0 with
   | none=>simp[eT] at h1
   | some u2 =>
    have:=h u2 rfl
    simp only[eT] at h1
    cases hc:gE v.nd with
    | none=>rw[hc] at h1;simp only[Option.some.injEq] at h1;rw[<- h1];exact this
    | some c =>
     rw[hc] at h1
     simp only at h1
     split at h1
     ·simp only[Option.some.injEq] at h1;rw[<- h1,List.length_set];exact this
     ·cases h1
 intro u hu
 exact key L _ (λ u h=>by simp only[Option.some.injEq] at h;rw[<- h];simp) u hu
def Ed(r:Int)(n:Nat):Prop:=0<=r/\r<=(n:Int)
instance (r:Int) (n:Nat):Decidable (Ed r n):=inferInstanceAs (Decidable (0<=r/\r<=(n:Int)))
theorem z5{r:Int}{n:Nat}(h:0<=r):decide (Ed r n)=decide (r<=(n:Int)):=by
 by_cases h2:r<=(n:Int)
 ·rw[decide_eq_true h2,decide_eq_true ⟨h,h2⟩]
 ·rw[decide_eq_false h2,decide_eq_false λ h3=>h2 h3.2]
def Sr(n:Nd)(xs:List Int)(N:Nat):Prop:=(∀i,i<xs.length->Ed (xs.getD i 0) N)/\Ed n.bK N/\Ed n.exp N/\Ed n.new N
def mR(gen:Int)(N:Nat)(v:aP):Prop:=bY v.nd v.xs v.ys/\v.nd.gen<=gen/\Sr v.nd v.xs N
structure gV(L:List aP)(cs:List Int)(gen:Int):Prop where
 two:2<=L.length
 gen0:0<=gen
 m0:(L.getD 0 aP.zero).nd.kind=1
 m1:(L.getD 1 aP.zero).nd.kind=1
 cells:∀i,i<cs.length->Ed (cs.getD i 0) L.length
 nodes:∀i,i<L.length->mR gen L.length (L.getD i aP.zero)
 marks:marks cs.length L≠none
end
end Go.Ct
namespace Go.Proofs.YtbajmaoegmbfgaaGreat
section
open Go.RowKit Go.Ct
theorem vR(r:Int)(n:Nat)(w:World):Calls Tryz.prog 157 #[.int .i64 r,.int .i64 ((n:Nat):Int)] w λ e w'=>e=.returned (.bool (decide (Ed r n)))/\St w [] [] w':=by
 refine enter Tryz.func157 Tryz.ntmps157 rfl rfl (SF.s0 w) ?_
 simp only[bX]
 refine cO ?_;refine J2 ?_;refine oG ?_;refine aA ?_
 (refine eE 7 (λ g7=>?_) (λ g7=>?_)<;>(first|refine aI ?_|(refine aF ?_;refine aA ?_)))
 all_goals ((first|refine aI ?_|(refine aF ?_;refine aA ?_));(first|refine aI ?_|(refine aF ?_;refine Be ?_));refine cB ?_;refine J1 ?_)
 all_goals
 refine aT Tryz.results157 (λ w hw=>?_)
 refine⟨?_,hw.done⟩
 first|(rw[decide_eq_false (show ¬Ed r n from λ h=>by have:=h.1;have:=h.2;omega)];rfl)|(rw[z5 (by omega)];rfl)
theorem Md{n:Nd}{xs:List Int}{N:Nat}{w:World}(e1:n.brN=xs.length)(ha:Cl w n.brA (aG xs))(hx:xs.length<4611686018427387904) :
  Calls Tryz.prog 159 #[n.v,.int .i64 ((N:Nat):Int)] w λ e w'=>∃r:Bool,e=.returned (.bool r)/\(r=true↔Sr n xs N)/\St w [] [] w':=by
 refine enter Tryz.func159 Tryz.ntmps159 rfl rfl (SF.s1 ha) ?_
 simp only[bX]
 simp only[Nd.v,Nd.cells,e1]
 refine J0 ?_;refine bI (λ x2=>?_);refine iB ?_;refine gZ ?_;refine dB ?_;refine Ee ?_;refine cR ?_
 refine mZ [4,6,10,11,12,13,14,15,16,17,18] (λ k=>[(10,.int .i64 ((k:Nat):Int))]) (λ k=>k<=xs.length/\∀i,i<k->Ed (xs.getD i 0) N) (λ k=>_) (λ _=>_) (λ _=>_) (λ k=>xs.length-k) (0) (⟨Nat.zero_le _,λ i hi=>absurd hi (Nat.not_lt_zero i)⟩) (λ k f hx=>?_)
 dsimp only[gU,List.map,List.cons_append,List.nil_append]
 refine J0 ?_;refine xA ?_;refine aV ?_
 refine bB (λ c11=>?_) (λ c11=>?_)
 ·refine qE ?_;refine J0 ?_;refine Rl ?_;refine yE ?_;refine aS (cV (hc:=λ w1 hw=>vR _ N w1)) (λ x16=>?_);refine oH ?_
  refine bB (λ c17=>?_) (λ c17=>?_)
  ·refine cO ?_
   refine aT Tryz.results159 (λ w hw=>?_)
   exact⟨false,rfl,⟨(λ h=>nomatch h),λ h=>absurd (h.1 k (by omega)) (by assumption)⟩,hw.done⟩
  ·refine nZ ?_;refine Zn ?_;refine Ee ?_
   refine iP (k+1) ?_
   ·exact⟨by omega,λ i hi=>by rcases Nat.lt_succ_iff_lt_or_eq.1 hi with h|rfl;exact hx.2 i h;assumption⟩
 ·refine bN rfl ?_;refine gZ ?_;refine aA ?_;refine aS (cV (hc:=λ w1 hw=>vR _ N w1)) (λ x22=>?_);refine aA ?_
  (refine eE 23 (λ g23=>?_) (λ g23=>?_)<;>(first|refine aI ?_|(refine aF ?_;refine aE ?_)))
  all_goals (refine kf ?_;(first|refine aI ?_|(refine aF ?_;refine aS (cV (hc:=λ w1 hw=>vR _ N w1)) (λ x27=>?_)));refine cB ?_;refine aA ?_)
  all_goals (first|refine aI ?_|(refine eE 29 (λ g29=>?_) (λ g29=>?_)<;>(first|refine aI ?_|(refine aF ?_;refine aE ?_))))
  all_goals (refine kf ?_;(first|refine aI ?_|(refine aF ?_;refine aS (cV (hc:=λ w1 hw=>vR _ N w1)) (λ x33=>?_)));refine cB ?_;refine J1 ?_)
  all_goals
  refine aT Tryz.results159 (λ w hw=>?_)
  have hall:∀i,i<xs.length->Ed (xs.getD i 0) N:=λ i hi=>hx.2 i (by omega)
  first|exact⟨_,rfl,by simp_all[Sr],hw.done⟩
theorem ae(n:Nd)(w:World):Calls Tryz.prog 160 #[n.v] w λ e w'=>e=.returned (.tuple #[.int .i64 ((gE n).getD 0),.bool (gE n).isSome])/\St w [] [] w':=by
 refine enter Tryz.func160 Tryz.ntmps160 rfl rfl (SF.s0 w) ?_
 simp only[bX]
 simp only[Nd.v,Nd.cells]
 refine J0 ?_;refine bI (λ x1=>?_);refine J8 ?_;refine Dg ?_;refine gZ ?_;refine Ro ?_
 refine bB (λ c4=>?_) (λ c4=>?_)
 ·refine gZ ?_;refine J8 ?_
  refine bC Tryz.results160 (λ w hw=>?_)
  refine⟨?_,hw.done⟩
  (rw[show gE n=some n.main by simp[gE,c4]];rfl)
 ·refine nQ ?_;refine aD (c0 (V:=.bool) (hc:=λ w1 hw=>Sw n w1)) (λ x12 h12=>?_);refine J1 ?_
  refine bB (λ c10=>?_) (λ c10=>?_)
  ·have k22:n.kind=3∨n.kind=5∨n.kind=6:=h12.1 c10
   refine gZ ?_;refine J8 ?_
   refine bC Tryz.results160 (λ w hw=>?_)
   refine⟨?_,hw.done⟩
   (rw[show gE n=some n.prev by simp only[gE];rw[if_neg c4,if_pos k22]];rfl)
  ·have k22:¬(n.kind=3∨n.kind=5∨n.kind=6):=λ k=>by rw[h12.2 k] at c10;cases c10
   refine gZ ?_;refine Ro ?_
   refine bB (λ c15=>?_) (λ c15=>?_)
   ·refine gZ ?_;refine J8 ?_
    refine bC Tryz.results160 (λ w hw=>?_)
    refine⟨?_,hw.done⟩
    (rw[show gE n=some n.status by simp only[gE];rw[if_neg c4,if_neg k22,if_pos c15]];rfl)
   ·refine nZ ?_;refine P7 ?_
    refine bC Tryz.results160 (λ w hw=>?_)
    refine⟨?_,hw.done⟩
    (rw[show gE n=none by simp only[gE];rw[if_neg c4,if_neg k22,if_neg c15]];rfl)
end

end Go.Proofs.YtbajmaoegmbfgaaGreat
