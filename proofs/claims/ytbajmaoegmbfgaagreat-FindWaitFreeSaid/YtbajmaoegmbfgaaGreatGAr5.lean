/- Nodes of the program's arena are read; lists are cloned; the state is read. -/
import Derived.Test.YtbajmaoegmbfgaaGreatGNode3
import Derived.Test.YtbajmaoegmbfgaaGreatGMem
import Derived.Test.YtbajmaoegmbfgaaGreatAuto
import Derived.Test.YtbajmaoegmbfgaaGreatGSlices

set_option linter.unusedSimpArgs false
set_option linter.unusedVariables false
namespace Go.Ct
section
theorem Cl.dy{w:Go.World}{cs:List Go.Value}(h:Cl w none cs):cs=[]:=by
 cases cs with
 | nil=>rfl
 | cons v r=>exact absurd (h.ptr (by simp)) (by simp)
theorem Y5{l:List Int}(h:aG l=[]):l=[]:=by simpa[aG] using h
theorem Hy{L:List aZ}{k:Nat}(h:k<2):aD (cB L) ((k+1:Nat):Int)=fA:=by
 rw[A1 (by rw[fI];omega)]
 rcases(show k=0∨k=1 by omega) with rfl|rfl<;>rfl
theorem Kb{L:List aZ}{k:Nat}(h:2<=k)(h2:k<L.length+2):aD (cB L) ((k+1:Nat):Int)=L.getD (k+1-2-1) aZ.zero:=by
 rw[A1 (by rw[fI];omega)]
 obtain⟨j,rfl⟩:∃j,k=j+2:=⟨k-2,by omega⟩
 rw[show j+2+1-2-1=j by omega]
 rfl
end
end Go.Ct
namespace Go.Proofs.YtbajmaoegmbfgaaGreat
section
open Go.RowKit Go.Ct
variable{w:World}{D:List Nat}{b:Nat}{L:List aZ}{cs:List Int}{gen acc:Int}{pn pc:Option Addr}{cn cc:Nat}{A:Fr}
theorem yY{l:List Int}{a:Option Addr}{c:Nat}{w:World}(ha:Cl w a (aG l))(hl:l.length<=274877906944):Calls Tryz.prog 84 #[.slice a l.length c] w λ e w' =>
  ∃x:Option Addr×Nat,e=.returned (.slice x.1 l.length x.2)/\True/\SF w [] [] [] [] [⟨x.1,aG l,x.2,37,1⟩] w':=by
 refine enter Tryz.func84 Tryz.ntmps84 rfl rfl (SF.s1 ha) ?_
 simp only[bY]
 refine cR ?_;refine kM ?_;refine uI ?_
 refine bE (λ c4=>?_) (λ c4=>?_)
 ·have e0:a=none:=by cases a with|none=>rfl|some _=>cases c4
  subst e0
  obtain rfl:=Y5 ha.dy
  refine cR ?_
  refine aT Tryz.results84 (λ w hw=>?_)
  exact⟨(none,0),rfl,trivial,(hw.lW 37 1).aU⟩
 ·refine bB ?_;refine J0 ?_;refine iM (λ x5=>?_);refine aA ?_;(refine fQ (λ x7=>?_);try (refine eZ (λ h7=>?_)));refine J1 ?_
  refine aT Tryz.results84 (λ w hw=>?_)
  exact⟨x7,by simp only[Nat.zero_add];rfl,trivial,by simpa using hw.aU (F':=[]) (H':=[])⟩
theorem dx(hs:SF w D [(b,aO L cs gen acc pn cn pc cc)] A [] (mW L cs pn cn pc cc) w)(r:Int)(hr:r<1)(hl:L.length<=274877906944) :
  Calls Tryz.prog 36 #[.pointer (some ⟨b,0,none⟩),.int .i64 r] w λ e w'=>∃q:Option Addr×Option Addr,e=.returned ((aD (cB L) r).at_ q.1 q.2).nd.v/\True /\
  SF w D [(b,aO L cs gen acc pn cn pc cc)] [] [] (mW L cs pn cn pc cc++[⟨q.2,dH (aD (cB L) r).ys,(aD (cB L) r).ys.length,164,2⟩,⟨q.1,aG (aD (cB L) r).xs,(aD (cB L) r).xs.length,37,1⟩]) w':=by
 rw[wI (by omega)]
 refine enter Tryz.func36 Tryz.ntmps36 rfl rfl (yA hs) ?_
 simp only[bY]
 refine J0 ?_;refine aI (λ x4=>?_);refine aH ?_;refine kM ?_;refine Fv ?_
 (refine eM 7 (λ g7=>?_) (λ g7=>?_)<;>(try (exfalso;omega))<;>(refine aJ ?_))
 (refine aJ ?_);(refine aJ ?_);refine Iw ?_;refine aH ?_
 refine bE (λ c12=>?_) (λ c12=>?_)
 ·try (exfalso;omega)
  refine J0 ?_;refine xS ?_
  refine bD Tryz.results36 (λ w hw=>?_)
  exact⟨(none,none),rfl,trivial,(hw.yz 164 2 37 1).aU⟩
 ·exact nv c12
theorem ad(hs:SF w D [(b,aO L cs gen acc pn cn pc cc)] (aM L) [] (mW L cs pn cn pc cc) w)(hf:Fits L){k:Nat}(hk:(k:Int)<9223372036854775807)(hl:L.length<=274877906944) :
  Calls Tryz.prog 36 #[.pointer (some ⟨b,0,none⟩),.int .i64 ((k+1:Nat):Int)] w λ e w'=>∃q:Option Addr×Option Addr,e=.returned ((aD (cB L) ((k+1:Nat):Int)).at_ q.1 q.2).nd.v/\True /\
  SF w D [(b,aO L cs gen acc pn cn pc cc)] [] [] (mW L cs pn cn pc cc++[⟨q.2,dH (aD (cB L) ((k+1:Nat):Int)).ys,(aD (cB L) ((k+1:Nat):Int)).ys.length,164,2⟩,⟨q.1,aG (aD (cB L) ((k+1:Nat):Int)).xs,(aD (cB L) ((k+1:Nat):Int)).xs.length,37,1⟩]) w':=by
 refine enter Tryz.func36 Tryz.ntmps36 rfl rfl (yA hs) ?_
 simp only[bY]
 refine J0 ?_;refine aI (λ x4=>?_);refine aH ?_;refine kM ?_;refine Fv ?_
 (refine aF ?_;refine aA ?_)
 ((refine aF ?_;refine aA ?_));((refine aF ?_;refine aC (cM (hc:=λ w hs=>mU (m:=L.length) hs (by omega))) (λ x10 h10=>?_)));refine Iw ?_;refine aH ?_
 refine bE (λ c12=>?_) (λ c12=>?_)
 ·try (exfalso;omega)
  refine J0 ?_;refine xS ?_
  refine bD Tryz.results36 (λ w hw=>?_)
  exact⟨(none,none),by rw[wI (by rw[fI];omega)];rfl,trivial,by rw[wI (by rw[fI];omega)];exact(hw.yz 164 2 37 1).aU⟩
 ·try (exfalso;omega)
  refine lA ?_;refine J2 ?_;refine vN ?_;refine aH ?_
  refine bE (λ c15=>?_) (λ c15=>?_)
  ·try (exfalso;omega)
   refine J0 ?_;refine xS ?_
   refine bD Tryz.results36 (λ w hw=>?_)
   exact⟨(none,none),by rw[Hy (by omega)];rfl,trivial,by rw[Hy (by omega)];exact(hw.yz 164 2 37 1).aU⟩
  ·try (exfalso;omega)
   refine vi ?_;refine aA ?_;refine aB (by exact jJ (n:=2) rf rf (by omega) (by omega)) rfl ?_;refine aB (by exact bk rf rf (by omega) (by omega)) rfl ?_;refine Yu ?_;refine aC (Rx (Hc:=λ _=>[]) (Fc:=λ _=>[]) (V:=λ p:Option Addr×Option Addr=>((L.getD (k+1-2-1) aZ.zero).at_ p.1 p.2).nd.v) (hc:=λ w1 hw=>Un (hw.aAF hf (by omega)) (hf.at (by omega)).brS (hf.at (by omega)).prS)) (λ x26 h26=>?_);refine J5 ?_
   refine bD Tryz.results36 (λ w hw=>?_)
   exact⟨x26,by rw[Kb (by omega) (by omega)];rfl,trivial,by rw[Kb (by omega) (by omega)];exact hw.toEnd.aU⟩
end

/- The arena's state is read. -/
section
open Go.RowKit Go.Ct
variable{w:World}{D:List Nat}{b:Nat}{L:List aZ}{cs:List Int}{gen acc:Int}{pn pc:Option Addr}{cn cc:Nat}{A:Fr}
theorem Wn(hs:SF w D [(b,aO L cs gen acc pn cn pc cc)] (aM L) [] (mW L cs pn cn pc cc) w)(hf:Fits L)(r:Int)(hr:r<=9223372036854775807)(hl:L.length<=274877906944) :
  Calls Tryz.prog 36 #[.pointer (some ⟨b,0,none⟩),.int .i64 r] w λ e w'=>∃q:Option Addr×Option Addr,e=.returned (.agg ⟨((aD (cB L) r).at_ q.1 q.2).nd.cells⟩)/\True /\
  SF w D [(b,aO L cs gen acc pn cn pc cc)] [] [] (mW L cs pn cn pc cc++[⟨q.2,dH (aD (cB L) r).ys,(aD (cB L) r).ys.length,164,2⟩,⟨q.1,aG (aD (cB L) r).xs,(aD (cB L) r).xs.length,37,1⟩]) w':=by
 rcases Int.lt_or_le r 1 with h|h
 ·exact dx hs r h hl
 ·obtain⟨k,rfl⟩:∃k:Nat,r=((k+1:Nat):Int):=⟨(r-1).toNat,by omega⟩
  exact ad hs hf (by omega) hl
theorem F4(hs:SF w D [(b,aO L cs gen acc pn cn pc cc)] (aM L) [] (mW L cs pn cn pc cc) w)(hf:Fits L)(hl:L.length<=274877906944)(hc:cs.length<=274877906944) :
  Calls Tryz.prog 32 #[.pointer (some ⟨b,0,none⟩)] w λ e w'=>∃x:List aZ×(Option Addr×Nat)×(Option Addr×Nat),e=.returned (.agg ⟨[.slice x.2.1.1 x.1.length x.2.1.2,.slice x.2.2.1 cs.length x.2.2.2,.int .i64 gen]⟩) /\
   (x.1.map aZ.c=(cB L).map aZ.c/\Fits x.1) /\
  SF w D [(b,aO L cs gen acc pn cn pc cc)] [] (aM x.1) (mW L cs pn cn pc cc++[⟨x.2.1.1,gN x.1,x.2.1.2,47,14⟩,⟨x.2.2.1,aG cs,x.2.2.2,37,1⟩]) w':=by
 refine enter Tryz.func32 Tryz.ntmps32 rfl rfl (yA hs) ?_
 simp only[bY]
 refine J0 ?_;refine aI (λ x2=>?_);refine Oq ?_
 refine eI [3,5,6,7,8,9,10,11,12,13,14] (λ j:Nat×Option Addr×Nat=>[(3,.pointer (some ⟨j.1,0,none⟩))]) (λ _=>True) (λ j=>[(j.1,.cells ⟨[.slice none 0 0,.slice j.2.1 cs.length j.2.2,.int .i64 gen]⟩ 52 (0,0)),(x2,.cells ⟨[.slice none 0 0,.slice none 0 0,.int .i64 0]⟩ 52 (0,0)),(b,aO L cs gen acc pn cn pc cc)]) (λ _=>[]) (λ j=>[⟨j.2.1,aG cs,j.2.2,37,1⟩,⟨pn,gN L,cn,47,14⟩,⟨pc,aG cs,cc,37,1⟩]) (by decide) (λ _=>by exact rfl) ?_ (λ j f hx=>?_)
 ·refine iD (.one 0 [] (.one 1 [] (.one 2 [] (.one 3 [] (.one 5 [] (.one 6 [] (.one 7 [] (.one 8 [] (.two 4 [8] (.one 9 [] (.one 10 [3,8] (.one 11 [] .nil))) 0 [] (.two 10 [3,8] (.one 4 [8] (.one 9 [] (.one 11 [] .nil))) 0 [] .nil)))))))))) ?_
  refine D2 ?_
  refine iK (E:=[4,10]) (by decide +kernel) ((.cons ?_ (.cons ?_ .nil)))
  ·refine mX (i:=4) (hq:=(Rx (Hc:=λ _=>[]) (Fc:=λ _=>[]) (hc:=λ w1 hw=>yY (hw.cl fin) hc))) (h:=λ x9 h9=>?_)
   refine gC ?_;refine iE (h:=λ x3=>?_);refine Ar ?_
   refine fC ((x3,x9.1,x9.2)) ?_
   ·trivial
  ·refine iC (i:=10) (h:=λ x3=>?_)
   refine bC (i:=4) (hq:=(Rx (Hc:=λ _=>[]) (Fc:=λ _=>[]) (hc:=λ w1 hw=>yY (hw.cl fin) hc))) (h:=λ x9 h9=>?_);refine gC ?_;refine Ar ?_
   refine fC ((x3,x9.1,x9.2)) ?_
   ·trivial
 dsimp only[gR,List.map,List.cons_append,List.nil_append]
 refine J2 ?_;refine aC (cM (hc:=λ w hs=>mU (m:=L.length) hs (by omega))) (λ x16 h16=>?_);refine vK (λ x17=>?_);refine uN ?_;refine kM ?_;refine aC (cM (hc:=λ w hs=>mU (m:=L.length) hs (by omega))) (λ x20 h20=>?_);refine Af ?_;refine cI ?_
 refine nA [4,21,22,23,24,25,26,27,28,29,30,31,32,33] (λ y:List aZ×Option Addr×Nat=>[(21,.int .i64 ((y.1.length:Nat):Int))]) (λ y=>y.1.map aZ.c=((cB L).take y.1.length).map aZ.c/\y.1.length<=L.length+2/\Fits y.1) (λ y=>[(j.1,.cells ⟨[.slice y.2.1 y.1.length y.2.2,.slice j.2.1 cs.length j.2.2,.int .i64 gen]⟩ 52 (0,0)),(x2,.cells ⟨[.slice none 0 0,.slice none 0 0,.int .i64 0]⟩ 52 (0,0)),(b,aO L cs gen acc pn cn pc cc)]) (λ y=>aM y.1) (λ y=>[⟨y.2.1,gN y.1,y.2.2,47,14⟩,⟨j.2.1,aG cs,j.2.2,37,1⟩,⟨pn,gN L,cn,47,14⟩,⟨pc,aG cs,cc,37,1⟩]) (λ y=>L.length+2-y.1.length) (([],some ⟨x17,0,none⟩,L.length+2)) (⟨rfl,Nat.zero_le _,λ _ h=>(List.not_mem_nil h).elim⟩) (λ y f hx=>?_) (hw0:=λ w hw=>hw.back)
 dsimp only[gR,List.map,List.cons_append,List.nil_append]
 refine J0 ?_;refine vX ?_;refine aV ?_
 refine bE (λ c22=>?_) (λ c22=>?_)
 ·refine qI ?_;refine J2 ?_;refine J1 ?_;refine dX [(0,[]),(1,[]),(2,[]),(3,[]),(4,[]),(5,[1]),(6,[1]),(7,[]),(8,[]),(9,[])] ?_;refine lV ?_;refine hZ ?_;refine aAJ ?_;refine bC (i:=5) (hq:=(cMO (hc:=λ w hs=>Wn hs hf ((y.1.length+1:Nat):Int) (by omega) hl))) (h:=λ x29 h29=>?_);refine cG (h:=λ x30=>?_);((refine cN (i:=7) (hq:=(bF.eK (V3 ((aD (cB L) ((y.1.length+1:Nat):Int)).at_ x29.1 x29.2) rf rf yS rfl fin Q7 rfl hX om) uO)) (h:=λ x31=>?_);try (refine eY (λ h31=>?_))));refine aQ ?_;refine Ar ?_;refine eP ?_;refine Rt ?_;refine Af ?_
  refine iJ ((y.1++[(aD (cB L) ((y.1.length+1:Nat):Int)).at_ x29.1 x29.2],x31.1,x31.2)) ?_ (hw1:=λ w hw=>by
   have h2:=(hw.freeze .head).freeze .head
   simp only[rC] at h2
   have h3:=h2.v9 (L:=y.1) (v:=(aD (cB L) ((y.1.length+1:Nat):Int)).at_ x29.1 x29.2) (F':=[]) (List.mem_cons_self ..) (List.mem_cons_of_mem _ (List.mem_cons_self ..)) (λ f hf=>List.mem_cons_of_mem _ (List.mem_cons_of_mem _ (List.mem_cons_of_mem _ hf)))
   simpa using h3) (hμ:=by simp only[List.length_append,List.length_cons,List.length_nil];omega)
  ·have hlt:y.1.length<(cB L).length:=by rw[fI];omega
   refine⟨?_,by simp only[List.length_append,List.length_cons,List.length_nil];omega,λ v hv=>?_⟩
   ·rw[List.map_append,hx.1,List.length_append,List.length_singleton,List.take_succ_eq_append_getElem hlt,List.map_append,A1 hlt,kQ,List.getElem?_eq_getElem hlt]
    rfl
   ·rcases List.mem_append.1 hv with hv|hv
    ·exact hx.2.2 v hv
    ·simp only[List.mem_singleton] at hv
     subst hv
     exact aZ.Tx (Bq hf.all _) _ _
 ·refine bM rfl ?_;refine pK ?_;refine J5 ?_
  refine bD Tryz.results32 (λ w hw=>?_)
  have hlen:y.1.length=L.length+2:=by omega
  refine⟨(y.1,(y.2.1,y.2.2),(j.2.1,j.2.2)),rfl,⟨by rw[hx.1,hlen,List.take_of_length_le (by rw[fI];omega)],hx.2.2⟩,?_⟩
  exact(SF.toEnd hw).ret (by repeat (first|exact List.Sublist.refl _|apply List.Sublist.cons)) aY.all (List.Sublist.refl _)
end

/- Lists and the smallest functions of nodes. -/
section
open Go.RowKit Go.Ct
theorem aAD (n : Nd) (w : World) : Calls Tryz.prog 197 #[n.v] w fun e w' => e = .returned n.own.v ∧ St w [] [] w' := by
  refine enter Tryz.func197 Tryz.ntmps197 rfl rfl (SF.s0 w) ?_
  simp only [bY]
  refine J0 ?_; refine bO (fun x1 => ?_); refine aI (fun x2 => ?_); refine aH ?_; refine gZ ?_; refine bJ ?_; refine aI (fun x3 => ?_); refine J5 ?_; refine Du ?_; refine aH ?_; refine cI ?_; refine Dk ?_; refine Dk ?_; refine Dk ?_; refine Dk ?_; refine Dk ?_; refine Dk ?_; refine Dk ?_; refine aV ?_; refine aV ?_; refine lF ?_
  refine bE (fun c9 => ?_) (fun c9 => ?_)
  · refine bM rfl ?_; refine aV ?_; refine dX [(0, []), (1, []), (2, []), (3, []), (4, []), (5, [3]), (6, []), (7, [])] ?_; refine lV ?_; refine lV ?_; refine aQ ?_; refine Ro ?_; refine Ar ?_; refine bM rfl ?_; refine pK ?_; refine J5 ?_
    refine bD Tryz.results197 (fun w hw => ?_)
    exact ⟨by simp only [Nd.own, beq_iff_eq, *, if_true, if_false]; rfl, hw.done⟩
  · refine lA ?_; refine lF ?_
    refine bE (fun c11 => ?_) (fun c11 => ?_)
    · refine bM rfl ?_; refine aV ?_; refine dX [(0, []), (1, []), (2, []), (3, []), (4, []), (5, []), (6, []), (7, [3, 5]), (8, []), (9, [5]), (10, []), (11, [])] ?_; refine lV ?_; refine lV ?_; refine lV ?_; refine aQ ?_; refine Ro ?_; refine Ro ?_; refine Ar ?_; refine bM rfl ?_; refine pK ?_; refine J5 ?_
      refine bD Tryz.results197 (fun w hw => ?_)
      exact ⟨by simp only [Nd.own, beq_iff_eq, *, if_true, if_false]; rfl, hw.done⟩
    · refine lA ?_; refine lF ?_
      refine bE (fun c13 => ?_) (fun c13 => ?_)
      · refine bM rfl ?_; refine dW ?_; refine J3 ?_; refine uN ?_; refine eP ?_; refine aV ?_; refine dX [(0, []), (1, []), (2, []), (3, []), (4, []), (5, []), (6, []), (7, [3, 5]), (8, []), (9, [5]), (10, []), (11, [])] ?_; refine lV ?_; refine lV ?_; refine lV ?_; refine aQ ?_; refine Ro ?_; refine Ro ?_; refine Ar ?_; refine bM rfl ?_; refine pK ?_; refine J5 ?_
        refine bD Tryz.results197 (fun w hw => ?_)
        exact ⟨by simp only [Nd.own, beq_iff_eq, *, if_true, if_false]; rfl, hw.done⟩
      · refine lA ?_; refine lF ?_
        refine bE (fun c15 => ?_) (fun c15 => ?_)
        · refine bM rfl ?_; refine aV ?_; refine dX [(0, []), (1, []), (2, []), (3, []), (4, []), (5, []), (6, []), (7, [3, 5]), (8, []), (9, [5]), (10, []), (11, [])] ?_; refine lV ?_; refine lV ?_; refine lV ?_; refine aQ ?_; refine Ro ?_; refine Ro ?_; refine Ar ?_; refine bM rfl ?_; refine pK ?_; refine J5 ?_
          refine bD Tryz.results197 (fun w hw => ?_)
          exact ⟨by simp only [Nd.own, beq_iff_eq, *, if_true, if_false]; rfl, hw.done⟩
        · refine lA ?_; refine lF ?_
          refine bE (fun c17 => ?_) (fun c17 => ?_)
          · refine bM rfl ?_; refine aV ?_; refine dX [(0, []), (1, []), (2, []), (3, []), (4, []), (5, []), (6, []), (7, [3, 5]), (8, []), (9, [5]), (10, []), (11, [])] ?_; refine lV ?_; refine lV ?_; refine lV ?_; refine aQ ?_; refine Ro ?_; refine Ro ?_; refine Ar ?_; refine bM rfl ?_; refine pK ?_; refine J5 ?_
            refine bD Tryz.results197 (fun w hw => ?_)
            exact ⟨by simp only [Nd.own, beq_iff_eq, *, if_true, if_false]; rfl, hw.done⟩
          · refine lA ?_; refine lF ?_
            refine bE (fun c19 => ?_) (fun c19 => ?_)
            · refine bM rfl ?_; refine dX [(0, []), (1, []), (2, []), (3, []), (4, []), (5, []), (6, []), (7, [3, 5]), (8, []), (9, [5]), (10, []), (11, [])] ?_; refine lV ?_; refine lV ?_; refine lV ?_; refine aQ ?_; refine Ro ?_; refine Ro ?_; refine Ar ?_; refine eP ?_; refine gZ ?_; refine uN ?_; refine bM rfl ?_; refine pK ?_; refine J5 ?_
              refine bD Tryz.results197 (fun w hw => ?_)
              exact ⟨by simp only [Nd.own, beq_iff_eq, *, if_true, if_false]; rfl, hw.done⟩
            · refine bB ?_; refine lF ?_
              refine bE (fun c21 => ?_) (fun c21 => ?_)
              · refine bM rfl ?_; refine gZ ?_; refine uN ?_; refine bM rfl ?_; refine pK ?_; refine J5 ?_
                refine bD Tryz.results197 (fun w hw => ?_)
                exact ⟨by simp only [Nd.own, beq_iff_eq, *, if_true, if_false]; rfl, hw.done⟩
              · refine bB ?_; refine bM rfl ?_; refine pK ?_; refine J5 ?_
                refine bD Tryz.results197 (fun w hw => ?_)
                exact ⟨by simp only [Nd.own, beq_iff_eq, *, if_true, if_false]; rfl, hw.done⟩
end

/- node.Valid. -/
section
open Go.RowKit Go.Ct
theorem zs(b:Int)(w:World):Calls Tryz.prog 238 #[.int .u64 b] w λ e w'=>e=.returned (.int .i64 (uW b))/\St w [] [] w':=by
 refine enter Tryz.func238 Tryz.ntmps238 rfl rfl (SF.s0 w) ?_
 simp only[bY]
 refine cR ?_;refine J2 ?_;refine Dv ?_;refine Ao ?_;refine aA ?_;refine Ao ?_;refine Dd ?_;refine J1 ?_;refine J2 ?_;refine Dv ?_;refine Ao ?_;refine aA ?_;refine Ao ?_;refine Dd ?_;refine J1 ?_;refine J2 ?_;refine Dv ?_;refine aA ?_;refine Dd ?_;refine Ao ?_;refine wJ ?_;refine Dv ?_;refine Dd ?_;refine wJ ?_;refine Dv ?_;refine Dd ?_;refine wJ ?_;refine Dv ?_;refine Dd ?_;refine J1 ?_;refine J2 ?_;refine gF ?_;refine Ao ?_;refine J1 ?_
 refine aT Tryz.results238 (λ w hw=>?_)
 exact⟨rfl,hw.done⟩
theorem Lm(b:Int)(w:World):Calls Tryz.prog 198 #[.int .u64 b] w λ e w'=>e=.returned (.int .i64 (uW b))/\St w [] [] w':=by
 refine enter Tryz.func198 Tryz.ntmps198 rfl rfl (SF.s0 w) ?_
 simp only[bY]
 refine cR ?_;refine J2 ?_;refine aR (cV (hc:=λ w1 hw=>zs b w1)) (λ x4=>?_);refine J1 ?_
 refine aT Tryz.results198 (λ w hw=>?_)
 exact⟨rfl,hw.done⟩
theorem I5{n:Nd}{xs:List Int}{ys:List Pr}{w:World}(hr:qS w n xs ys) :
  Calls Tryz.prog 158 #[n.v] w λ e w'=>∃r:Bool,e=.returned (.bool r)/\(r=true↔cC n xs ys)/\St w [] [] w':=by
 have e1:=hr.brN;have e2:=hr.prN
 refine enter Tryz.func158 Tryz.ntmps158 rfl rfl (SF.s0 w) ?_
 simp only[bY]
 refine J0 ?_;refine bO (λ x1=>?_);refine iZ ?_;refine aV ?_;refine dX [(0,[]),(1,[]),(2,[0]),(3,[]),(4,[])] ?_;refine bP ?_;refine bP ?_;refine cN (i:=2) (hq:=(cV (hc:=λ w1 hw=>aAD n w1))) (h:=λ x5=>?_);refine bC (i:=3) (hq:=(c0 (V:=.bool) (hc:=λ w1 hw=>z6 (hr.fP hw.st) (hr.fP hw.st).own))) (h:=λ x6 h6=>?_);refine F3 ?_;refine eC ?_
 refine bE (λ c7=>?_) (λ c7=>?_)
 ·refine cR ?_
  refine aT Tryz.results158 (λ w hw=>?_)
  refine⟨_,rfl,?_,hw.done⟩
  (simp_all[cC];done)
 ·refine lA ?_;refine gZ ?_;refine Fv ?_
  (refine eM 11 (λ g11=>?_) (λ g11=>?_)<;>(first|refine aJ ?_|(refine aF ?_;refine aE ?_)))
  all_goals (refine J89 ?_;refine aA ?_)
  all_goals (first|refine aJ ?_|(refine eM 16 (λ g16=>?_) (λ g16=>?_)<;>(first|refine aJ ?_|(refine aF ?_;refine aE ?_))))
  all_goals (refine J89 ?_;refine aH ?_)
  all_goals
  refine bE (λ c20=>?_) (λ c20=>?_)
  ·all_goals refine cR ?_
   all_goals
    refine aT Tryz.results158 (λ w hw=>?_)
    refine⟨_,rfl,?_,hw.done⟩
    (simp_all[cC];omega)
  ·try exact nv c20
   all_goals (refine lA ?_;refine gZ ?_;refine aH ?_;refine cI ?_;refine Dk ?_;refine Dk ?_;refine Dk ?_;refine Dk ?_;refine cI ?_;refine Dk ?_;refine Dk ?_;refine Dk ?_;refine aV ?_;refine aV ?_;refine lF ?_)
   all_goals
    refine bE (λ c23=>?_) (λ c23=>?_)
    ·refine bM rfl ?_;refine aV ?_;refine cR ?_
     refine aT Tryz.results158 (λ w hw=>?_)
     refine⟨_,rfl,?_,hw.done⟩
     (simp_all[cC];done)
    ·refine lA ?_;refine lF ?_
     refine bE (λ c25=>?_) (λ c25=>?_)
     ·refine bM rfl ?_;refine Du ?_;refine kR ?_;refine J1 ?_
      refine aT Tryz.results158 (λ w hw=>?_)
      refine⟨_,rfl,?_,hw.done⟩
      (simp_all[cC];done)
     ·refine lA ?_;refine lF ?_
      refine bE (λ c27=>?_) (λ c27=>?_)
      ·refine bM rfl ?_;refine aV ?_;refine aV ?_;refine dX [(0,[]),(1,[]),(2,[]),(3,[]),(4,[]),(5,[1]),(6,[]),(7,[]),(8,[]),(9,[]),(10,[]),(11,[]),(12,[])] ?_;refine lV ?_;refine pV ?_;refine lV ?_;refine cN (i:=5) (hq:=(cV (hc:=λ w1 hw=>Lm n.bm w1))) (h:=λ x47=>?_);refine mG ?_;refine aP ?_
       (refine Zk 49 (λ g49=>?_) (λ g49=>?_)<;>(first|refine dE ?_|(refine aQ ?_)))
       all_goals ((first|refine dE ?_|(refine bP ?_));(first|refine dE ?_|(refine bC (i:=10) (hq:=(c0 (V:=.bool) (hc:=λ w1 hw=>by rw[e1];exact So (hr.br.fP hw.st) hr.brS))) (h:=λ x52 h52=>?_)));refine eQ ?_;refine J7 ?_)
       all_goals
       refine aT Tryz.results158 (λ w hw=>?_)
       refine⟨_,rfl,?_,hw.done⟩
       (simp_all[cC];done)
      ·refine lA ?_;refine lF ?_
       refine bE (λ c29=>?_) (λ c29=>?_)
       ·refine Zo ?_;refine Du ?_;refine jX ?_;refine vN ?_;refine J1 ?_
        refine aT Tryz.results158 (λ w hw=>?_)
        refine⟨_,rfl,?_,hw.done⟩
        (simp_all[cC];omega)
       ·refine lA ?_;refine lF ?_
        refine bE (λ c31=>?_) (λ c31=>?_)
        ·refine bM rfl ?_;refine Du ?_;refine jX ?_;refine vN ?_;refine J1 ?_
         refine aT Tryz.results158 (λ w hw=>?_)
         refine⟨_,rfl,?_,hw.done⟩
         (simp_all[cC];omega)
        ·refine lA ?_;refine lF ?_
         refine bE (λ c33=>?_) (λ c33=>?_)
         ·refine bM rfl ?_;refine Du ?_;refine dI ?_;refine kR ?_;refine aA ?_
          (refine eM 62 (λ g62=>?_) (λ g62=>?_)<;>(first|refine aJ ?_|(refine aF ?_;refine aE ?_)))
          all_goals ((first|refine aJ ?_|(refine aF ?_;refine bR ?_));(first|refine aJ ?_|(refine aF ?_;refine aC (c0 (V:=.bool) (hc:=λ w1 hw=>by rw[e2];exact Jg (hr.pr.fP hw.st) hr.prS)) (λ x65 h65=>?_)));refine cH ?_;refine aA ?_)
          all_goals (first|refine aJ ?_|(refine eM 67 (λ g67=>?_) (λ g67=>?_)<;>(first|refine aJ ?_|(refine aF ?_;refine aE ?_))))
          all_goals ((first|refine aJ ?_|(refine aF ?_;refine bR ?_));(first|refine aJ ?_|(refine aF ?_;refine aC (c0 (V:=.bool) (hc:=λ w1 hw=>by rw[e2];exact O0 (hr.pr.fP hw.st) hr.prS)) (λ x70 h70=>?_)));refine cH ?_;refine J1 ?_)
          all_goals
          refine aT Tryz.results158 (λ w hw=>?_)
          refine⟨_,rfl,?_,hw.done⟩
          first|(simp_all[cC];done)|(simp_all[cC];omega)
         ·refine lA ?_;refine lF ?_
          refine bE (λ c35=>?_) (λ c35=>?_)
          ·refine bM rfl ?_;refine gZ ?_;refine Fv ?_
           (refine eM 75 (λ g75=>?_) (λ g75=>?_)<;>(first|refine aJ ?_|(refine aF ?_;refine aE ?_)))
           all_goals (refine J89 ?_;refine aH ?_)
           all_goals
           refine bE (λ c79=>?_) (λ c79=>?_)
           ·all_goals refine cR ?_
            all_goals
             refine aT Tryz.results158 (λ w hw=>?_)
             refine⟨_,rfl,?_,hw.done⟩
             (simp_all[cC];omega)
           ·try exact nv c79
            all_goals (refine oB ?_;refine Du ?_;refine kR ?_;refine J1 ?_)
            all_goals
             refine aT Tryz.results158 (λ w hw=>?_)
             refine⟨_,rfl,?_,hw.done⟩
             (simp_all[cC];done)
          ·refine bB ?_;refine lF ?_
           refine bE (λ c37=>?_) (λ c37=>?_)
           ·refine bM rfl ?_;refine Du ?_;refine kR ?_;refine J1 ?_
            refine aT Tryz.results158 (λ w hw=>?_)
            refine⟨_,rfl,?_,hw.done⟩
            (simp_all[cC];done)
           ·refine bB ?_;refine bM rfl ?_;refine cR ?_
            refine aT Tryz.results158 (λ w hw=>?_)
            refine⟨_,rfl,?_,hw.done⟩
            (simp_all[cC];done)
end

/- Proper states: the program's check. -/
end Go.Proofs.YtbajmaoegmbfgaaGreat
namespace Go.Ct
section
def jO(n:Nd):Option Int:=if n.kind=2 then some n.main else if n.kind=3∨n.kind=5∨n.kind=6 then some n.prev else if n.kind=8 then some n.status else none
def fN(u:Option (List Bool))(n:Nd):Option (List Bool) :=
 match u with
 | none=>none
 | some u=>match jO n with
  | none=>some u
  | some c=>if 1<=c/\c<=u.length/\u.getD (c-1).toNat false=false then some (u.set (c-1).toNat true) else none
def marks(m:Nat)(L:List aZ):Option (List Bool):=L.foldl (λ u v=>fN u v.nd) (some (List.replicate m false))
theorem zQ{m:Nat}{L:List aZ}{k:Nat}(h:k<L.length):marks m (L.take (k+1))=fN (marks m (L.take k)) (L.getD k aZ.zero).nd:=by
 rw[marks,List.take_succ_eq_append_getElem h,List.foldl_append,kQ,List.getElem?_eq_getElem h]
 rfl
theorem Sw{m:Nat}{L:List aZ}{k:Nat}(h:marks m (L.take k)=none):marks m L=none:=by
 have e:L=L.take k++L.drop k:=(List.take_append_drop k L).symm
 rw[e,marks,List.foldl_append]
 rw[marks] at h
 rw[h]
 generalize L.drop k=l
 induction l with
 | nil=>rfl
 | cons v l ih=>exact ih
theorem Je{m:Nat}:∀{L:List aZ} {u:List Bool},marks m L=some u->u.length=m:=by
 intro L
 have key:∀(l:List aZ) (u0:Option (List Bool)),(∀u,u0=some u->u.length=m)->∀u,l.foldl (λ u v=>fN u v.nd) u0=some u->u.length=m:=by
  intro l
  induction l with
  | nil=>intro u0 h u hu;exact h u hu
  | cons v l ih =>
   intro u0 h u hu
   refine ih (fN u0 v.nd) (λ u1 h1=>?_) u hu
   cases u0 with
   | none=>simp[fN] at h1
   | some u2 =>
    have:=h u2 rfl
    simp only[fN] at h1
    cases hc:jO v.nd with
    | none=>rw[hc] at h1;simp only[Option.some.injEq] at h1;rw[<- h1];exact this
    | some c =>
     rw[hc] at h1
     simp only at h1
     split at h1
     ·simp only[Option.some.injEq] at h1;rw[<- h1,List.length_set];exact this
     ·cases h1
 intro u hu
 exact key L _ (λ u h=>by simp only[Option.some.injEq] at h;rw[<- h];simp) u hu
def Ip(r:Int)(n:Nat):Prop:=0<=r/\r<=(n:Int)
instance (r:Int) (n:Nat):Decidable (Ip r n):=inferInstanceAs (Decidable (0<=r/\r<=(n:Int)))
theorem wv{r:Int}{n:Nat}(h:0<=r):decide (Ip r n)=decide (r<=(n:Int)):=by
 by_cases h2:r<=(n:Int)
 ·rw[decide_eq_true h2,decide_eq_true ⟨h,h2⟩]
 ·rw[decide_eq_false h2,decide_eq_false λ h3=>h2 h3.2]
def S2(n:Nd)(xs:List Int)(N:Nat):Prop:=(∀i,i<xs.length->Ip (xs.getD i 0) N)/\Ip n.bN N/\Ip n.exp N/\Ip n.new N
def nT(gen:Int)(N:Nat)(v:aZ):Prop:=cC v.nd v.xs v.ys/\v.nd.gen<=gen/\S2 v.nd v.xs N
structure jW(L:List aZ)(cs:List Int)(gen:Int):Prop where
 two:2<=L.length
 gen0:0<=gen
 m0:(L.getD 0 aZ.zero).nd.kind=1
 m1:(L.getD 1 aZ.zero).nd.kind=1
 cells:∀i,i<cs.length->Ip (cs.getD i 0) L.length
 nodes:∀i,i<L.length->nT gen L.length (L.getD i aZ.zero)
 marks:marks cs.length L≠none
end
end Go.Ct
namespace Go.Proofs.YtbajmaoegmbfgaaGreat
section
open Go.RowKit Go.Ct
theorem vI(r:Int)(n:Nat)(w:World):Calls Tryz.prog 157 #[.int .i64 r,.int .i64 ((n:Nat):Int)] w λ e w'=>e=.returned (.bool (decide (Ip r n)))/\St w [] [] w':=by
 refine enter Tryz.func157 Tryz.ntmps157 rfl rfl (SF.s0 w) ?_
 simp only[bY]
 refine cR ?_;refine J2 ?_;refine kR ?_;refine aA ?_
 (refine eM 7 (λ g7=>?_) (λ g7=>?_)<;>(first|refine aJ ?_|(refine aF ?_;refine aA ?_)))
 all_goals ((first|refine aJ ?_|(refine aF ?_;refine aA ?_));(first|refine aJ ?_|(refine aF ?_;refine vN ?_));refine cH ?_;refine J1 ?_)
 all_goals
 refine aT Tryz.results157 (λ w hw=>?_)
 refine⟨?_,hw.done⟩
 first|(rw[decide_eq_false (show ¬Ip r n from λ h=>by have:=h.1;have:=h.2;omega)];rfl)|(rw[wv (by omega)];rfl)
theorem Lc{n:Nd}{xs:List Int}{N:Nat}{w:World}(e1:n.brN=xs.length)(ha:Cl w n.brA (aG xs))(hx:xs.length<4611686018427387904) :
  Calls Tryz.prog 159 #[n.v,.int .i64 ((N:Nat):Int)] w λ e w'=>∃r:Bool,e=.returned (.bool r)/\(r=true↔S2 n xs N)/\St w [] [] w':=by
 refine enter Tryz.func159 Tryz.ntmps159 rfl rfl (SF.s1 ha) ?_
 simp only[bY]
 simp only[Nd.v,Nd.cells,e1]
 refine J0 ?_;refine bO (λ x2=>?_);refine iZ ?_;refine gZ ?_;refine dI ?_;refine Af ?_;refine cI ?_
 refine nA [4,6,10,11,12,13,14,15,16,17,18] (λ k=>[(10,.int .i64 ((k:Nat):Int))]) (λ k=>k<=xs.length/\∀i,i<k->Ip (xs.getD i 0) N) (λ k=>_) (λ _=>_) (λ _=>_) (λ k=>xs.length-k) (0) (⟨Nat.zero_le _,λ i hi=>absurd hi (Nat.not_lt_zero i)⟩) (λ k f hx=>?_)
 dsimp only[gR,List.map,List.cons_append,List.nil_append]
 refine J0 ?_;refine vX ?_;refine aV ?_
 refine bE (λ c11=>?_) (λ c11=>?_)
 ·refine qI ?_;refine J0 ?_;refine Yu ?_;refine wJ ?_;refine aR (cV (hc:=λ w1 hw=>vI _ N w1)) (λ x16=>?_);refine oX ?_
  refine bE (λ c17=>?_) (λ c17=>?_)
  ·refine cR ?_
   refine aT Tryz.results159 (λ w hw=>?_)
   exact⟨false,rfl,⟨(λ h=>nomatch h),λ h=>absurd (h.1 k (by omega)) (by assumption)⟩,hw.done⟩
  ·refine oB ?_;refine Rt ?_;refine Af ?_
   refine iJ (k+1) ?_
   ·exact⟨by omega,λ i hi=>by rcases Nat.lt_succ_iff_lt_or_eq.1 hi with h|rfl;exact hx.2 i h;assumption⟩
 ·refine bM rfl ?_;refine gZ ?_;refine aA ?_;refine aR (cV (hc:=λ w1 hw=>vI _ N w1)) (λ x22=>?_);refine aA ?_
  (refine eM 23 (λ g23=>?_) (λ g23=>?_)<;>(first|refine aJ ?_|(refine aF ?_;refine aE ?_)))
  all_goals (refine Zl ?_;(first|refine aJ ?_|(refine aF ?_;refine aR (cV (hc:=λ w1 hw=>vI _ N w1)) (λ x27=>?_)));refine cH ?_;refine aA ?_)
  all_goals (first|refine aJ ?_|(refine eM 29 (λ g29=>?_) (λ g29=>?_)<;>(first|refine aJ ?_|(refine aF ?_;refine aE ?_))))
  all_goals (refine Zl ?_;(first|refine aJ ?_|(refine aF ?_;refine aR (cV (hc:=λ w1 hw=>vI _ N w1)) (λ x33=>?_)));refine cH ?_;refine J1 ?_)
  all_goals
  refine aT Tryz.results159 (λ w hw=>?_)
  have hall:∀i,i<xs.length->Ip (xs.getD i 0) N:=λ i hi=>hx.2 i (by omega)
  first|exact⟨_,rfl,by simp_all[S2],hw.done⟩
theorem gv(n:Nd)(w:World):Calls Tryz.prog 160 #[n.v] w λ e w'=>e=.returned (.tuple #[.int .i64 ((jO n).getD 0),.bool (jO n).isSome])/\St w [] [] w':=by
 refine enter Tryz.func160 Tryz.ntmps160 rfl rfl (SF.s0 w) ?_
 simp only[bY]
 simp only[Nd.v,Nd.cells]
 refine J0 ?_;refine bO (λ x1=>?_);refine J8 ?_;refine Dk ?_;refine gZ ?_;refine Wb ?_
 refine bE (λ c4=>?_) (λ c4=>?_)
 ·refine gZ ?_;refine J8 ?_
  refine bD Tryz.results160 (λ w hw=>?_)
  refine⟨?_,hw.done⟩
  (rw[show jO n=some n.main by simp[jO,c4]];rfl)
 ·refine pK ?_;refine aC (c0 (V:=.bool) (hc:=λ w1 hw=>R6 n w1)) (λ x12 h12=>?_);refine J1 ?_
  refine bE (λ c10=>?_) (λ c10=>?_)
  ·have k22:n.kind=3∨n.kind=5∨n.kind=6:=h12.1 c10
   refine gZ ?_;refine J8 ?_
   refine bD Tryz.results160 (λ w hw=>?_)
   refine⟨?_,hw.done⟩
   (rw[show jO n=some n.prev by simp only[jO];rw[if_neg c4,if_pos k22]];rfl)
  ·have k22:¬(n.kind=3∨n.kind=5∨n.kind=6):=λ k=>by rw[h12.2 k] at c10;cases c10
   refine gZ ?_;refine Wb ?_
   refine bE (λ c15=>?_) (λ c15=>?_)
   ·refine gZ ?_;refine J8 ?_
    refine bD Tryz.results160 (λ w hw=>?_)
    refine⟨?_,hw.done⟩
    (rw[show jO n=some n.status by simp only[jO];rw[if_neg c4,if_neg k22,if_pos c15]];rfl)
   ·refine oB ?_;refine Q5 ?_
    refine bD Tryz.results160 (λ w hw=>?_)
    refine⟨?_,hw.done⟩
    (rw[show jO n=none by simp only[jO];rw[if_neg c4,if_neg k22,if_neg c15]];rfl)
end

end Go.Proofs.YtbajmaoegmbfgaaGreat
