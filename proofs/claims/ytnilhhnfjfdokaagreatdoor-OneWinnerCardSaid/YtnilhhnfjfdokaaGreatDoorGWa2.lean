/- awake28: the walk. -/
import Derived.Test.YtnilhhnfjfdokaaGreatDoorGWa1
import Derived.Test.YtnilhhnfjfdokaaGreatDoorLzg

set_option linter.unusedSimpArgs false
set_option linter.unusedVariables false
namespace Go.Proofs.YtnilhhnfjfdokaaGreatDoor
section
open Go Go.RowKit Go.Ct
def N1:Prop:=∀(w:World) (p p0 p1 pl:Option Addr) (c c0 c1 cl:Nat),Go.Ct.Cl w p (gQ [⟨p0,c0,[⟨1,0,fB,1,0⟩]⟩,⟨p1,c1,[⟨1,0,fB,2,0⟩,⟨7,0,fB,0,0⟩]⟩])->Go.Ct.Cl w p0 (gG [⟨1,0,fB,1,0⟩])->Go.Ct.Cl w p1 (gG [⟨1,0,fB,2,0⟩,⟨7,0,fB,0,0⟩])->Go.Ct.Cl w pl (Bs F8) ->
 Calls Tryz.prog 12 #[.int .u64 63,.slice p 2 c,.slice pl 6 cl] w λ e w'=>∃x:Option Addr×Nat,e=.returned (.tuple #[.slice x.1 3 x.2,.bool true,.int .i64 0])/\True/\St w [] [] w'
theorem It(k:ByteArray)(v:Int)(w:World):Calls Tryz.prog 8 #[.string k,.int .u64 v] w λ e w'=>e=.returned (.agg ⟨lO.cells ⟨1,0,k,v,0⟩⟩)/\St w [] [] w':=by
 refine enter Tryz.func8 Tryz.ntmps8 rfl rfl (SF.s0 w) ?_
 simp only[cP]
 refine J0 ?_;refine aI (λ x4=>?_);refine aD ?_;refine mL ?_;refine Na ?_
 refine bV Tryz.results8 (λ w hw=>?_)
 exact⟨rfl,hw.done⟩
theorem qi:∀s∈lp,s.length<=16/\∀o∈s,F9 o:=by
 intro s hs
 have k1:ByteArray.size fB<=64:=by decide
 simp only[lp,List.mem_cons,List.not_mem_nil,or_false] at hs
 rcases hs with rfl|rfl
 ·refine⟨by decide,λ o ho=>?_⟩
  simp only[List.mem_cons,List.not_mem_nil,or_false] at ho
  subst ho
  exact⟨.inl rfl,rfl,k1⟩
 ·refine⟨by decide,λ o ho=>?_⟩
  simp only[List.mem_cons,List.not_mem_nil,or_false] at ho
  rcases ho with rfl|rfl
  ·exact⟨.inl rfl,rfl,k1⟩
  ·exact⟨.inr (.inr (.inr (.inr rfl))),rfl,k1⟩
theorem Zn{w0 w:World}{M:List Nat}{A F F0:Fr}{V:MV}{L:List (Nat×Obj)}{q:Nat×Obj}(h:SF w0 M (L++[q]) A (F++F0) (jB V++[]) w):SF w0 M (q::L) A (F++F0) (jB V) w:=by
 rw[List.append_nil] at h
 exact h.perm (List.perm_append_comm (l₁:=[q]) (l₂:=L)) (List.Perm.refl _)
theorem D4{w:World}{D:List Nat}{A:Fr}{b bm bT:Nat}{pk:Option Addr×Nat×Nat}{V:MV}(hh:V.hi=F8)(hs:SF w D [(bm,yE b bT pk V)] A [] (jB V) w) :
  Calls Tryz.prog 7 #[pt bm] w λ e w'=>∃x:Option Addr×Nat,e=.returned (.slice x.1 6 x.2)/\True/\SF w D [(bm,yE b bT pk V)] [] [(x.1,Bs F8)] (jB V) w' :=
 (qX (by rw[hh];decide) hs).mono λ e w' ⟨x,e1,h,hw⟩=>⟨x,by rw[e1,hh];rfl,h,by rw[<- hh];exact hw⟩
abbrev a9(p0 p1:Nat):List kT:=[⟨some ⟨p0,0,none⟩,1,[⟨1,0,fB,1,0⟩]⟩,⟨some ⟨p1,0,none⟩,2,[⟨1,0,fB,2,0⟩,⟨7,0,fB,0,0⟩]⟩]
theorem iq(p0 p1:Nat):∀s∈a9 p0 p1,s.l.length<=16/\∀o∈s.l,F9 o:=λ s hs=>qi s.l (by
 have:s.l∈(a9 p0 p1).map kT.l:=List.mem_map.2 ⟨s,hs,rfl⟩
 exact this)
theorem jc{w:World}{p0 p1:Nat}(h0:Go.Ct.Cl w (some ⟨p0,0,none⟩) (gG [⟨1,0,fB,1,0⟩]))(h1:Go.Ct.Cl w (some ⟨p1,0,none⟩) (gG [⟨1,0,fB,2,0⟩,⟨7,0,fB,0,0⟩])):∀s∈a9 p0 p1,Go.Ct.Cl w s.p (gG s.l):=λ s hs=>by
 simp only[List.mem_cons,List.not_mem_nil,or_false] at hs
 rcases hs with rfl|rfl
 ·exact h0
 ·exact h1
theorem Ro:∀k∈Wx,k<2:=by decide
set_option maxRecDepth 100000 in
set_option maxHeartbeats 1000000 in
theorem P8(hD:N1)(w:World):Calls Tryz.prog 4 #[] w λ e w'=>e=.returned (.bool true)/\St w [] [] w':=by
 refine enter Tryz.func4 Tryz.ntmps4 rfl rfl (SF.s0 w) ?_
 simp only[cP]
 refine dW ?_;refine J0 ?_;refine aF (cV (hc:=λ w1 hw=>It fB 1 w1)) (λ x7=>?_);refine aF (by exact gD λ _=>aP qM mH rf rf rf rf (by simp only[dQ,cI,List.cons_append,List.nil_append,List.append_nil];exact rfl)) (λ x8=>?_);refine aF (cV (hc:=λ w1 hw=>It fB 2 w1)) (λ x9=>?_);refine cK ?_;refine aF (by exact gD λ _=>aP qM mH rf rf rf rf (by simp only[dQ,cI,List.cons_append,List.nil_append,List.append_nil];exact rfl)) (λ x11=>?_);refine aF (by exact gD λ _=>aP B0 mH rf rf rf rf (by simp only[dQ,cI,List.cons_append,List.nil_append,List.append_nil];exact rfl)) (λ x12=>?_);refine vN (λ x13=>?_);refine cK ?_;refine aI (λ x1=>?_);refine J5 ?_;refine pV ?_;(refine aF (aQ.conv (Ws (V:=λ x:NW=>.tuple #[pt x.bm,.int .i64 0]) (φ:=gz 63 (a9 x8 x11) Wx) (Hc:=λ x=>NW.L 63 x x.V) (Fc:=λ x=>x.V.B) (Oc:=λ x=>jB x.V) (hc:=λ w1 hw=>Mn (m:=63) (ls:=a9 x8 x11) (pk:=Wx) (p:=some ⟨x12,0,none⟩) (p2:=some ⟨x13,0,none⟩) (c:=2) (c2:=12) (Nat.le_of_ble_eq_true rfl) (iq _ _) (by decide) Ro (hw.cl (.new (.tail .head))) (hw.cl (.new .head)) (jc (hw.cl (.new (.tail (.tail (.tail .head))))) (hw.cl (.new (.tail (.tail .head))))))) (λ x w h=>And.intro h.1 (show SF _ _ ((x1,.cells ⟨[.int .u64 63,.slice (some ⟨x12,0,none⟩) 2 2,.slice (some ⟨x13,0,none⟩) 12 12]⟩ 27 (0,0))::NW.L 63 x x.V) [] (x.V.B++[(some ⟨x13,0,none⟩,aW (zP Wx)),(some ⟨x12,0,none⟩,gQ (a9 x8 x11)),(some ⟨x11,0,none⟩,gG [⟨1,0,fB,2,0⟩,⟨7,0,fB,0,0⟩]),(some ⟨x8,0,none⟩,gG [⟨1,0,fB,1,0⟩])]) (jB x.V) _ from Zn h.2))) (λ x17=>?_);try (refine eH (λ h17=>?_)));refine C9 ?_;refine J8 ?_;refine gS ?_;refine iP ?_;refine aB ?_
 (refine Ka2 ?_)
 refine zM ?_;refine aD ?_
 refine aU (λ c25=>?_) (λ c25=>?_)
 ·try (contradiction)
 ·try (first|contradiction|(exfalso;omega))
  refine Kd3 ?_;refine aH (cT 1 0 (hs:=NW.L 63 x17 x17.V) (os:=jB x17.V) (A0:=dV x17.V.a.L++x17.V.B) (V:=λ x:MV×Fr=>.tuple #[]) (F1:=λ x:MV×Fr=>x.1.B++[(some ⟨x13,0,none⟩,aW (zP Wx)),(some ⟨x12,0,none⟩,gQ (a9 x8 x11)),(some ⟨x11,0,none⟩,gG [⟨1,0,fB,2,0⟩,⟨7,0,fB,0,0⟩]),(some ⟨x8,0,none⟩,gG [⟨1,0,fB,1,0⟩])]) (hc:=λ w1 hw=>Xg (m:=63) (n:=2) (l:=Wx) h17.mi rfl Ro (Oz (eg x17.V.a.pv)) h17.pkm h17.pl (by decide) (by decide) (λ f hf=>List.mem_append_right _ hf) hw) (hA:=Mq h17.mi (λ f hf=>List.mem_append_left _ hf)) (hF1:=λ x hx f hf=>.inr (by rw[hx.2,List.append_assoc] at hf;exact hf))) (λ x27 h27=>?_)
  obtain⟨hd1,hd2⟩:=Od (T7 x17.V.a.pv)
  refine Kc8 ?_;refine aH (cT 1 0 (hs:=NW.L 63 x17 x27.1) (os:=jB x27.1) (A0:=dV x27.1.a.L++x27.1.B) (V:=λ x:MV×Fr=>.bool true) (F1:=λ x:MV×Fr=>x.1.B++[(some ⟨x13,0,none⟩,aW (zP Wx)),(some ⟨x12,0,none⟩,gQ (a9 x8 x11)),(some ⟨x11,0,none⟩,gG [⟨1,0,fB,2,0⟩,⟨7,0,fB,0,0⟩]),(some ⟨x8,0,none⟩,gG [⟨1,0,fB,1,0⟩])]) (hc:=λ w1 hw=>D2 (m:=63) (n:=2) (K:=22) (most:=1000) h27.1 (by rw[Cj];rfl) (by decide) hd1 hd2 (by decide) (by decide) (by decide) (by decide) (λ f hf=>List.mem_append_right _ hf) hw) (hA:=Mq h27.1 (λ f hf=>List.mem_append_left _ hf)) (hF1:=λ x hx f hf=>.inr (by rw[hx.2,List.append_assoc] at hf;exact hf))) (λ x29 h29=>?_)
  have hhi:x29.1.hi=F8:=h29.1.hist.trans (X8 x17.V.a.pv)
  clear hd1 hd2
  refine Wy ?_
  (refine Ka2 ?_)
  ((refine aE ?_;refine aH (cM (V:=λ x:Option Addr×Nat=>.slice x.1 6 x.2) (hs:=[(x17.bm,yE x17.b x17.bT x17.pk x29.1)]) (os:=jB x29.1) (A0:=[]) (hs':=λ _=>[(x17.bm,yE x17.b x17.bT x17.pk x29.1)]) (os':=λ _=>jB x29.1) (Fc:=λ x=>[(x.1,Bs F8)]) (hc:=λ w1 hw=>D4 hhi hw)) (λ x33 h33=>?_)));((refine aE ?_;refine cO ?_));refine X4 ?_;refine aD ?_
  refine aU (λ c36=>?_) (λ c36=>?_)
  ·exact nv c36
  ·try (first|contradiction|(exfalso;omega))
   refine lS ?_;refine eG [(0,[]),(1,[]),(2,[]),(3,[]),(4,[]),(5,[1,3]),(6,[]),(7,[]),(8,[]),(9,[]),(10,[]),(11,[]),(12,[]),(13,[])] ?_;refine Kc4 ?_;refine aR ?_;refine bS (i:=5) (hq:=(cM (V:=λ x:Option Addr×Nat=>.slice x.1 6 x.2) (hs:=[(x17.bm,yE x17.b x17.bT x17.pk x29.1)]) (os:=jB x29.1) (A0:=[]) (hs':=λ _=>[(x17.bm,yE x17.b x17.bT x17.pk x29.1)]) (os':=λ _=>jB x29.1) (Fc:=λ x=>[(x.1,Bs F8)]) (hc:=λ w1 hw=>D4 hhi hw))) (h:=λ x43 h43=>?_);refine bS (i:=6) (hq:=(c0 (V:=λ x:Option Addr×Nat=>.tuple #[.slice x.1 3 x.2,.bool true,.int .i64 0]) (hc:=λ w1 hw=>hD w1 (some ⟨x12,0,none⟩) (some ⟨x8,0,none⟩) (some ⟨x11,0,none⟩) x43.1 2 1 2 x43.2 (hw.cl (.new (mV.gE (by simp)))) (hw.cl (.new (mV.gE (by simp)))) (hw.cl (.new (mV.gE (by simp)))) (hw.cl (.new .head))))) (h:=λ x44 h44=>?_);refine aR ?_;refine eP ?_;refine eP ?_;refine eP ?_;refine nU (h:=λ _=>?_);refine dg ?_;refine mL ?_
   (refine Ka2 ?_)
   refine Kd6 ?_
   (refine Ka2 ?_)
   ((refine aE ?_;refine cO ?_));refine zM ?_;refine J1 ?_
   refine bE Tryz.results4 (λ w hw=>?_)
   exact⟨rfl,hw.done⟩
end

/- linz.Decide on the history of awake28; awake28 without a premise. -/
section
open Go Go.RowKit Go.Ct
theorem Th{x:Gu}{p p0 p1 pl:Option Addr}{c0 c1:Nat}{F:Fr}{O:List Ow}(h:∀f∈x.fr,f∈F):cA [(p,gQ (G5 p0 c0 p1 c1)),(p0,gG [⟨1,0,fB,1,0⟩]),(p1,gG [⟨1,0,fB,2,0⟩,⟨7,0,fB,0,0⟩]),(pl,Bs F8)] F O (lT x p p0 c0 p1 c1):=cA.of λ f hf=>by
 have hf2:f∈x.fr++[(p,gQ (G5 p0 c0 p1 c1)),(p0,gG [⟨1,0,fB,1,0⟩]),(p1,gG [⟨1,0,fB,2,0⟩,⟨7,0,fB,0,0⟩])]:=hf
 rcases List.mem_append.1 hf2 with h1|h1
 ·exact .inr (.inr (.inl (h f h1)))
 ·exact .inr (.inl (List.mem_append_left [(pl,Bs F8)] h1))
theorem j7{x:Gu}{y:L0}{p p0 p1 pl:Option Addr}{c0 c1:Nat}{F:Fr}{O:List Ow}(hy:∀f∈y.fr,f∈F)(h:∀f∈x.fr,f∈F):cA [(p,gQ (G5 p0 c0 p1 c1)),(p0,gG [⟨1,0,fB,1,0⟩]),(p1,gG [⟨1,0,fB,2,0⟩,⟨7,0,fB,0,0⟩]),(pl,Bs F8)] F O (Ul x y p p0 c0 p1 c1):=cA.of λ f hf=>by
 have hf2:f∈y.fr++(x.fr++[(p,gQ (G5 p0 c0 p1 c1)),(p0,gG [⟨1,0,fB,1,0⟩]),(p1,gG [⟨1,0,fB,2,0⟩,⟨7,0,fB,0,0⟩])]):=hf
 rcases List.mem_append.1 hf2 with h1|h1
 ·exact .inr (.inr (.inl (hy f h1)))
 ·rcases List.mem_append.1 h1 with h1|h1
  ·exact .inr (.inr (.inl (h f h1)))
  ·exact .inr (.inl (List.mem_append_left [(pl,Bs F8)] h1))
theorem F3{w:World}{D:List Nat}{x:Gu}{p p0 p1:Option Addr}{c c0 c1:Nat}(hs:SF w D [(x.b,gB p c x)] (lT x p p0 c0 p1 c1) [] [] w):Calls Tryz.prog 28 #[pt x.b] w λ e w'=>∃y:L0,e=.returned (pt y.b)/\True/\SF w D ([(x.b,gB p c x)]++[(y.b,G4 x.b y),(y.mf,bW [] 0)]) [] y.fr ([]++[]) w' :=
 (Iu hs).mono λ _ _ ⟨y,e,t,h⟩=>⟨y,e,t,h.perm (List.perm_append_comm (l₁:=[(x.b,gB p c x)]) (l₂:=[(y.b,G4 x.b y),(y.mf,bW [] 0)])) (List.Perm.refl _)⟩
set_option maxRecDepth 100000 in
theorem Te{w:World}{p p0 p1 pl:Option Addr}{c d0 d1 cl:Nat}(h:jd w p p0 d0 p1 d1 pl):Calls Tryz.prog 12 #[.int .u64 63,.slice p 2 c,.slice pl 6 cl] w λ e w'=>∃x:Option Addr×Nat,e=.returned (.tuple #[.slice x.1 3 x.2,.bool true,.int .i64 0])/\True/\St w [] [] w':=by
 refine enter Tryz.func12 Tryz.ntmps12 rfl rfl h.start ?_
 simp only[cP]
 refine J0 ?_;refine bX (λ _=>?_);refine Kc2 ?_;refine aF (cV (hc:=λ w1 hw=>P9 ⟨hw.cl (.old .head),hw.cl (.old (.tail .head)),hw.cl (.old (.tail (.tail .head))),hw.cl (.old (.tail (.tail (.tail .head))))⟩)) (λ x14=>?_);refine Kb7 ?_;refine Kc9 ?_
 refine aU (λ c16=>?_) (λ c16=>?_)
 ·exact nv c16
 ·try (first|contradiction|(exfalso;omega))
  refine lS ?_;refine J2 ?_;refine aH (c0 (V:=λ x:Option Addr×Nat=>.slice x.1 3 x.2) (hc:=λ w1 hw=>Ha ⟨hw.cl (.old .head),hw.cl (.old (.tail .head)),hw.cl (.old (.tail (.tail .head))),hw.cl (.old (.tail (.tail (.tail .head))))⟩)) (λ x19 h19=>?_);refine cO ?_;refine wD ?_;refine aD ?_
  refine aU (λ c21=>?_) (λ c21=>?_)
  ·exact nv c21
  ·try (first|contradiction|(exfalso;omega))
   refine C5 ?_;refine aH (Ws (V:=λ x:Gu=>pt x.b) (Hc:=λ x=>[(x.b,gB p c x)]) (Fc:=λ x=>x.fr) (Oc:=λ _=>[]) (hc:=λ w1 hw=>I8 ⟨hw.cl (.old .head),hw.cl (.old (.tail .head)),hw.cl (.old (.tail (.tail .head))),hw.cl (.old (.tail (.tail (.tail .head))))⟩)) (λ x24 h24=>?_);refine Kc7 ?_;refine aH (cM (φ:=λ _=>True) (V:=λ _:Unit=>.bool true) (hs:=[(x24.b,gB p c x24)]) (os:=[]) (A0:=lT x24 p p0 d0 p1 d1) (hs':=λ _=>[(x24.b,gB p c x24)]) (os':=λ _=>[]) (Fc:=λ _=>[]) (hc:=λ w1 hw=>(T5 hw).mono λ _ _ ⟨e,h⟩=>⟨(),e,trivial,h⟩) (hA:=Th (λ f hf=>hf))) (λ x26 h26=>?_);refine wO ?_
   refine aU (λ c27=>?_) (λ c27=>?_)
   ·exact nv c27
   ·try (first|contradiction|(exfalso;omega))
    refine Kd3 ?_;refine aH (Jh (V:=λ y:L0=>pt y.b) (hs:=[(x24.b,gB p c x24)]) (os:=[]) (hs':=λ _=>[(x24.b,gB p c x24)]) (Hc:=λ y=>[(y.b,G4 x24.b y),(y.mf,bW [] 0)]) (os':=λ _=>[]) (Oc:=λ _=>[]) (Fc:=λ y=>y.fr) (A0:=lT x24 p p0 d0 p1 d1) (hc:=λ w1 hw=>F3 hw) (hA:=Th (λ f hf=>hf))) (λ x29 h29=>?_);refine kZ ?_
    refine tX (λ w hw=>hw.gU 45 2) ?_
    refine Cw ?_;refine aH (Ws (V:=λ f:Js=>pt f.b) (Hc:=λ f=>iX f (gF 0) (gL 0)) (Fc:=λ _=>[]) (Oc:=λ _=>[]) (hc:=λ w1 hw=>Yk w1)) (λ x33 h33=>?_);refine aH (cM (V:=λ q:(Option Addr×Nat)×Option Addr×Nat=>.tuple #[.slice q.1.1 3 q.1.2,.bool true]) (hs:=Ew p c x24 x29 x33 (gF 0) (gL 0)) (os:=[⟨none,dR gZ [],0,45,2⟩]) (A0:=Ul x24 x29 p p0 d0 p1 d1) (hs':=λ _=>Ew p c x24 x29 x33 (gF 0) (gL 0)) (os':=λ q=>[⟨q.2.1,dR gZ mJ,q.2.2,45,2⟩]) (Fc:=λ _=>[]) (hc:=λ w1 hw=>Za hw) (hA:=j7 (λ f hf=>List.mem_append_left _ hf) (λ f hf=>List.mem_append_right x29.fr hf))) (λ x34 h34=>?_);refine C9 ?_;refine J8 ?_;refine mL ?_;refine bX (λ _=>?_);refine J8 ?_
    refine bV Tryz.results12 (λ w hw=>?_)
    exact⟨x34.1,rfl,trivial,hw.done⟩
theorem Yo:N1:=λ w p p0 p1 pl c c0 c1 cl hp h0 h1 hl=>Te ⟨hp,h0,h1,hl⟩
end

end Go.Proofs.YtnilhhnfjfdokaaGreatDoor
