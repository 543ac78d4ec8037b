/- families: refusal, set, Apply. -/
import Derived.Test.YtnilhhnfjfdokaaGreatDoorGLz7

set_option linter.unusedSimpArgs false
set_option linter.unusedVariables false
namespace Go.Proofs.YtnilhhnfjfdokaaGreatDoor
section
open Go Go.RowKit Go.Ct
section
variable{w:World}{D:List Nat}{A:Fr}{vc bv:Nat}{ve:List MapEntry}{u:Js}{o:lO}{a:Nat×Nat}
theorem pp(a:Nat×Nat)(ha:kg a):a.1<8/\a.2<16:=by rcases ha with rfl|rfl|rfl<;>decide
theorem ma(a:Nat×Nat)(ha:kg a):((wM a).kind=1∨(wM a).kind=7)/\(wM a).handle=0/\(wM a).key=fB:=by rcases ha with rfl|rfl|rfl<;>exact⟨by decide,rfl,rfl⟩
theorem n9(a:Nat×Nat)(bv:Nat):Instr.findNow (.int .i64) (.int .i64 ((1+a.1*16+a.2:Nat):Int)) (Jt bv) 0=some none:=by
 have hne:((((1+a.1*16+a.2:Nat):Int))==(0:Int))=false:=by simp;omega
 show(match(if IntKind.i64=IntKind.i64 then some ((((1+a.1*16+a.2:Nat):Int))==(0:Int)) else none) with|some true=>_|some false=>Instr.findNow (.int .i64) _ [] 1|none=>_)=_
 rw[if_pos rfl,hne]
 rfl
theorem rG(ha:kg a)(hs:SF w D (iX u ve vc) A [] [] w):Calls Tryz.prog 65 #[pt u.b,.int .i64 (a.1:Int),.int .i64 (a.2:Int),.agg ⟨(wM a).cells⟩] w λ e w'=>e=.returned (.int .i64 0)/\SF w D (iX u ve vc) [] [] [] w':=by
 obtain⟨hn1,hn2⟩:=pp a ha
 obtain⟨hk1,hk2,hk3⟩:=ma a ha
 have hfa:=n9 a u.bv
 refine enter Tryz.func65 Tryz.ntmps65 rfl rfl hs ?_
 simp only[cP]
 simp only[lO.cells]
 refine J0 ?_;refine bF (λ x7=>?_);refine Ni ?_;refine aF (cV (hc:=λ w1 hw=>iC hn1 hn2 w1)) (λ x19=>?_);refine Kc7 ?_;refine Kb ?_
 (refine aE ?_;refine aK ?_)
 refine o6 ?_;refine aB ?_
 (refine lN 27 (λ g27=>?_) (λ g27=>?_)<;>(try ((exfalso;omega)))<;>((refine aE ?_;refine aK ?_)))
 ((refine Kb6 ?_));refine kf ?_;refine aD ?_
 refine aU (λ c31=>?_) (λ c31=>?_)
 ·try ((exfalso;omega))
 ·try (first|contradiction|(exfalso;omega))
  refine lS ?_;refine jA ?_;refine D0 ?_
  refine aU (λ c34=>?_) (λ c34=>?_)
  ·try ((exfalso;omega))
  ·try (first|contradiction|(exfalso;omega))
   refine J2 ?_;refine bP ?_;refine aH (cM (φ:=λ _=>True) (V:=λ _:Unit=>.int .i64 0) (hs:=iX u ve vc) (os:=[]) (A0:=[]) (hs':=λ _=>iX u ve vc) (os':=λ _=>[]) (Fc:=λ _=>[]) (hc:=λ w1 hw=>(P6 hk1 hk2 hk3 hw).mono λ _ _ ⟨e,h⟩=>⟨(),e,trivial,h⟩)) (λ x55 h55=>?_);refine Kb7 ?_;refine Kc9 ?_
   refine aU (λ c57=>?_) (λ c57=>?_)
   ·exact nv c57
   ·try (first|contradiction|(exfalso;omega))
    refine Vz ?_;refine aB ?_;refine aA (fR (iE (K:=3) (E:=131) (dK:=.int .i64) (ze:=.agg ⟨[.map none,.bool false]⟩) (k:=.int .i64 ((1+a.1*16+a.2:Nat):Int)) (es:=Jt u.bv) (c:=1) (r:=none) rf rf bD (by kernel_rfl) (by kernel_rfl) rfl (by kernel_rfl) hfa)) rfl ?_;refine C9 ?_;refine aI (λ x13=>?_);refine Wv ?_;refine oJ ?_;refine aB ?_;refine aA (fR (iE (K:=3) (E:=169) (dK:=.int .i64) (ze:=.agg ⟨[.int .i64 0,.int .i64 0,.int .i64 0]⟩) (k:=.int .i64 ((1+a.1*16+a.2:Nat):Int)) (es:=[]) (c:=0) (r:=none) rf rf bD (by kernel_rfl) (by kernel_rfl) rfl (by kernel_rfl) rfl)) rfl ?_;refine C9 ?_;refine aI (λ x15=>?_);refine mX (λ _=>?_);refine kZ ?_;refine mL ?_
    (refine Ka2 ?_)
    refine Kb0 ?_
    refine aU (λ c80=>?_) (λ c80=>?_)
    ·exact nv c80
    ·try (first|contradiction|(exfalso;omega))
     refine bB ?_;refine dW ?_
     refine bE Tryz.results65 (λ w hw=>?_)
     exact⟨rfl,hw.ret (by repeat (first|exact List.Sublist.refl _|apply List.Sublist.cons)) bL.nil (List.Sublist.refl _)⟩
theorem T8(hs:SF w D [(bv,bW (gF 0) (gL 0))] A [] [] w):Calls Tryz.prog 66 #[.agg ⟨[.map (some bv),.bool false]⟩,.agg ⟨(wM (0,0)).cells⟩] w λ e w'=>e=.returned (.agg ⟨(fL false 0).cells⟩)/\SF w D [(bv,bW (gF 1) (gL 1))] [] [] [] w':=by
 refine enter Tryz.func66 Tryz.ntmps66 rfl rfl hs ?_
 simp only[cP]
 simp only[lO.cells,wM]
 refine J0 ?_;refine bF (λ x2=>?_);refine bF (λ x3=>?_);refine aI (λ x4=>?_);refine aD ?_;refine jA ?_;refine J3 ?_;refine aA (fR (iE (K:=9) (E:=23) (dK:=.string) (ze:=.int .u64 0) (k:=.string fB) (es:=[]) (c:=0) (r:=none) rf rf bD (by kernel_rfl) (by kernel_rfl) trivial (by kernel_rfl) rfl)) rfl ?_;refine C9 ?_;refine J8 ?_;refine mL ?_;refine cK ?_;refine aI (λ x7=>?_);refine J5 ?_;refine dW ?_;refine C3 ?_;refine Kb9 ?_;refine jN ?_
 refine aU (λ c22=>?_) (λ c22=>?_)
 ·exact nv c22
 ·try (first|contradiction|(exfalso;omega))
  refine jN ?_
  refine aU (λ c26=>?_) (λ c26=>?_)
  ·exact nv c26
  ·try (first|contradiction|(exfalso;omega))
   refine jN ?_
   refine aU (λ c29=>?_) (λ c29=>?_)
   ·exact nv c29
   ·try (first|contradiction|(exfalso;omega))
    refine oC ?_;refine gS ?_;refine aD ?_
    refine aU (λ c38=>?_) (λ c38=>?_)
    ·try (first|contradiction|(exfalso;omega))
     refine jA ?_;refine J3 ?_;refine J3 ?_;refine aL (cE λ _=>Et (K:=9) (E:=23) (dK:=.string) (k:=.string fB) (v:=.int .u64 1) (es:=[]) (c:=0) rf rf rf bD (by kernel_rfl) (by kernel_rfl) trivial rfl dI) (λ _=>?_);refine aD ?_;refine dD ?_;refine Jm ?_;refine Kd5 ?_
     refine bV Tryz.results66 (λ w hw=>?_)
     exact⟨rfl,hw.ret (by repeat (first|exact List.Sublist.refl _|apply List.Sublist.cons)) bL.nil (List.Sublist.refl _)⟩
    ·exact nv c38
theorem S9(hs:SF w D [(bv,bW (gF 1) (gL 1))] A [] [] w):Calls Tryz.prog 66 #[.agg ⟨[.map (some bv),.bool false]⟩,.agg ⟨(wM (1,0)).cells⟩] w λ e w'=>e=.returned (.agg ⟨(fL true 1).cells⟩)/\SF w D [(bv,bW (gF 2) (gL 2))] [] [] [] w':=by
 refine enter Tryz.func66 Tryz.ntmps66 rfl rfl hs ?_
 simp only[cP]
 simp only[lO.cells,wM]
 refine J0 ?_;refine bF (λ x2=>?_);refine bF (λ x3=>?_);refine aI (λ x4=>?_);refine aD ?_;refine jA ?_;refine J3 ?_;refine aA (fR (iE (K:=9) (E:=23) (dK:=.string) (ze:=.int .u64 0) (k:=.string fB) (es:=gF 1) (c:=1) (r:=some (0,.int .u64 1)) rf rf bD (by kernel_rfl) (by kernel_rfl) trivial (by kernel_rfl) (by kernel_rfl))) rfl ?_;refine C9 ?_;refine J8 ?_;refine mL ?_;refine cK ?_;refine aI (λ x7=>?_);refine J5 ?_;refine dW ?_;refine C3 ?_;refine Kb9 ?_;refine jN ?_
 refine aU (λ c22=>?_) (λ c22=>?_)
 ·exact nv c22
 ·try (first|contradiction|(exfalso;omega))
  refine jN ?_
  refine aU (λ c26=>?_) (λ c26=>?_)
  ·exact nv c26
  ·try (first|contradiction|(exfalso;omega))
   refine jN ?_
   refine aU (λ c29=>?_) (λ c29=>?_)
   ·exact nv c29
   ·try (first|contradiction|(exfalso;omega))
    refine oC ?_;refine gS ?_;refine aD ?_
    refine aU (λ c38=>?_) (λ c38=>?_)
    ·try (first|contradiction|(exfalso;omega))
     refine jA ?_;refine J3 ?_;refine J3 ?_;refine aL (cE λ _=>Wc (K:=9) (E:=23) (dK:=.string) (k:=.string fB) (v:=.int .u64 2) (es:=gF 1) (c:=1) (j:=0) (u:=.int .u64 1) (e:=⟨.string fB,.int .u64 1,0⟩) rf rf rf bD (by kernel_rfl) (by kernel_rfl) trivial (by kernel_rfl) rfl rfl dI) (λ _=>?_);refine aD ?_;refine dD ?_;refine Jm ?_;refine Kd5 ?_
     refine bV Tryz.results66 (λ w hw=>?_)
     exact⟨rfl,hw.ret (by repeat (first|exact List.Sublist.refl _|apply List.Sublist.cons)) bL.nil (List.Sublist.refl _)⟩
    ·exact nv c38
theorem tT(hs:SF w D (iX u (gF 0) (gL 0)) A [] [] w):Calls Tryz.prog 50 #[pt u.b,.int .i64 0,.int .i64 0,.agg ⟨(wM (0,0)).cells⟩] w λ e w'=>e=.returned (.agg ⟨(fL false 0).cells⟩)/\SF w D (iX u (gF 1) (gL 1)) [] [] [] w':=by
 refine enter Tryz.func50 Tryz.ntmps50 rfl rfl hs ?_
 simp only[cP]
 simp only[lO.cells,wM]
 refine J0 ?_;refine bF (λ x7=>?_);refine aI (λ x8=>?_);refine aD ?_;refine pF ?_;refine aB ?_;refine bP ?_;refine aH (cM (φ:=λ _=>True) (V:=λ _:Unit=>.int .i64 0) (hs:=iX u (gF 0) (gL 0)) (os:=[]) (A0:=[]) (hs':=λ _=>iX u (gF 0) (gL 0)) (os':=λ _=>[]) (Fc:=λ _=>[]) (hc:=λ w1 hw=>(rG (a:=(0,0)) (.inl rfl) hw).mono λ _ _ ⟨e,h⟩=>⟨(),e,trivial,h⟩)) (λ x18 h18=>?_);refine Kb7 ?_;refine Kc9 ?_
 refine aU (λ c20=>?_) (λ c20=>?_)
 ·exact nv c20
 ·try (first|contradiction|(exfalso;omega))
  refine C5 ?_;refine aF (cV (v:=.int .i64 1) (hc:=λ w1 hw=>iC (k:=0) (i:=0) (by decide) (by decide) w1)) (λ x25=>?_);refine kZ ?_;refine eG [(0,[]),(1,[]),(2,[]),(3,[]),(4,[]),(5,[]),(6,[]),(7,[3,5,6]),(8,[])] ?_;refine mG ?_;refine gY ?_;refine aS (i:=6) (hq:=(fR (mD (v:=.agg ⟨[.map (some u.bv),.bool false]⟩) (K:=3) (E:=131) (dK:=.int .i64) (ze:=.agg ⟨[.map none,.bool false]⟩) (k:=.int .i64 0) (es:=Jt u.bv) (c:=1) (r:=some (0,.agg ⟨[.map (some u.bv),.bool false]⟩)) rf rf bD (by kernel_rfl) (by kernel_rfl) rfl (by kernel_rfl) rfl rfl))) (h:=?_);refine sB (hfire:=(λ _=>by((repeat (first|exact aM.nil|refine aM.cons (by first|exact eE|exact cX (hq:=fR (mD (v:=.agg ⟨[.map (some u.bv),.bool false]⟩) (K:=3) (E:=131) (dK:=.int .i64) (ze:=.agg ⟨[.map none,.bool false]⟩) (k:=.int .i64 0) (es:=Jt u.bv) (c:=1) (r:=some (0,.agg ⟨[.map (some u.bv),.bool false]⟩)) rf rf bD (by kernel_rfl) (by kernel_rfl) rfl (by kernel_rfl) rfl rfl))) ?_));done))) (h:=λ x11=>?_);refine fE (i:=8) (hq:=(cE λ _=>aC (cs:=[.map (some u.bv),.bool false]) rf bD rf rfl (by kernel_rfl) rf dI)) (h:=λ _=>?_);refine dC ?_;refine C3 ?_;refine Kb9 ?_;refine Kd0 ?_
  refine aU (λ c35=>?_) (λ c35=>?_)
  ·try (first|contradiction|(exfalso;omega))
   refine bB ?_
   refine aU (λ c35=>?_) (λ c35=>?_)
   ·try (first|contradiction|(exfalso;omega))
    refine pV ?_;refine bP ?_;refine aH (cM (φ:=λ _=>True) (V:=λ _:Unit=>.agg ⟨(fL false 0).cells⟩) (hs:=[(u.bv,bW (gF 0) (gL 0))]) (os:=[]) (A0:=[]) (hs':=λ _=>[(u.bv,bW (gF 1) (gL 1))]) (os':=λ _=>[]) (Fc:=λ _=>[]) (hc:=λ w1 hw=>(T8 hw).mono λ _ _ ⟨e,h⟩=>⟨(),e,trivial,h⟩)) (λ x42 h42=>?_);refine J5 ?_
    refine bV Tryz.results50 (λ w hw=>?_)
    exact⟨rfl,hw.ret (by repeat (first|exact List.Sublist.refl _|apply List.Sublist.cons)) bL.nil (List.Sublist.refl _)⟩
   ·exact nv c35
  ·exact nv c35
theorem tR(hs:SF w D (iX u (gF 1) (gL 1)) A [] [] w):Calls Tryz.prog 50 #[pt u.b,.int .i64 1,.int .i64 0,.agg ⟨(wM (1,0)).cells⟩] w λ e w'=>e=.returned (.agg ⟨(fL true 1).cells⟩)/\SF w D (iX u (gF 2) (gL 2)) [] [] [] w':=by
 refine enter Tryz.func50 Tryz.ntmps50 rfl rfl hs ?_
 simp only[cP]
 simp only[lO.cells,wM]
 refine J0 ?_;refine bF (λ x7=>?_);refine aI (λ x8=>?_);refine aD ?_;refine pF ?_;refine aB ?_;refine bP ?_;refine aH (cM (φ:=λ _=>True) (V:=λ _:Unit=>.int .i64 0) (hs:=iX u (gF 1) (gL 1)) (os:=[]) (A0:=[]) (hs':=λ _=>iX u (gF 1) (gL 1)) (os':=λ _=>[]) (Fc:=λ _=>[]) (hc:=λ w1 hw=>(rG (a:=(1,0)) (.inr (.inl rfl)) hw).mono λ _ _ ⟨e,h⟩=>⟨(),e,trivial,h⟩)) (λ x18 h18=>?_);refine Kb7 ?_;refine Kc9 ?_
 refine aU (λ c20=>?_) (λ c20=>?_)
 ·exact nv c20
 ·try (first|contradiction|(exfalso;omega))
  refine C5 ?_;refine aF (cV (v:=.int .i64 17) (hc:=λ w1 hw=>iC (k:=1) (i:=0) (by decide) (by decide) w1)) (λ x25=>?_);refine kZ ?_;refine eG [(0,[]),(1,[]),(2,[]),(3,[]),(4,[]),(5,[]),(6,[]),(7,[3,5,6]),(8,[])] ?_;refine mG ?_;refine gY ?_;refine aS (i:=6) (hq:=(fR (mD (v:=.agg ⟨[.map (some u.bv),.bool false]⟩) (K:=3) (E:=131) (dK:=.int .i64) (ze:=.agg ⟨[.map none,.bool false]⟩) (k:=.int .i64 0) (es:=Jt u.bv) (c:=1) (r:=some (0,.agg ⟨[.map (some u.bv),.bool false]⟩)) rf rf bD (by kernel_rfl) (by kernel_rfl) rfl (by kernel_rfl) rfl rfl))) (h:=?_);refine sB (hfire:=(λ _=>by((repeat (first|exact aM.nil|refine aM.cons (by first|exact eE|exact cX (hq:=fR (mD (v:=.agg ⟨[.map (some u.bv),.bool false]⟩) (K:=3) (E:=131) (dK:=.int .i64) (ze:=.agg ⟨[.map none,.bool false]⟩) (k:=.int .i64 0) (es:=Jt u.bv) (c:=1) (r:=some (0,.agg ⟨[.map (some u.bv),.bool false]⟩)) rf rf bD (by kernel_rfl) (by kernel_rfl) rfl (by kernel_rfl) rfl rfl))) ?_));done))) (h:=λ x11=>?_);refine fE (i:=8) (hq:=(cE λ _=>aC (cs:=[.map (some u.bv),.bool false]) rf bD rf rfl (by kernel_rfl) rf dI)) (h:=λ _=>?_);refine dC ?_;refine C3 ?_;refine Kb9 ?_;refine Kd0 ?_
  refine aU (λ c35=>?_) (λ c35=>?_)
  ·try (first|contradiction|(exfalso;omega))
   refine bB ?_
   refine aU (λ c35=>?_) (λ c35=>?_)
   ·try (first|contradiction|(exfalso;omega))
    refine pV ?_;refine bP ?_;refine aH (cM (φ:=λ _=>True) (V:=λ _:Unit=>.agg ⟨(fL true 1).cells⟩) (hs:=[(u.bv,bW (gF 1) (gL 1))]) (os:=[]) (A0:=[]) (hs':=λ _=>[(u.bv,bW (gF 2) (gL 2))]) (os':=λ _=>[]) (Fc:=λ _=>[]) (hc:=λ w1 hw=>(S9 hw).mono λ _ _ ⟨e,h⟩=>⟨(),e,trivial,h⟩)) (λ x42 h42=>?_);refine J5 ?_
    refine bV Tryz.results50 (λ w hw=>?_)
    exact⟨rfl,hw.ret (by repeat (first|exact List.Sublist.refl _|apply List.Sublist.cons)) bL.nil (List.Sublist.refl _)⟩
   ·exact nv c35
  ·exact nv c35
theorem tS(hs:SF w D (iX u (gF 2) (gL 2)) A [] [] w):Calls Tryz.prog 50 #[pt u.b,.int .i64 1,.int .i64 1,.agg ⟨(wM (1,1)).cells⟩] w λ e w'=>e=.returned (.agg ⟨(dG true 2).cells⟩)/\SF w D (iX u (gF 2) (gL 2)) [] [] [] w':=by
 refine enter Tryz.func50 Tryz.ntmps50 rfl rfl hs ?_
 simp only[cP]
 simp only[lO.cells,wM]
 refine J0 ?_;refine bF (λ x7=>?_);refine aI (λ x8=>?_);refine aD ?_;refine pF ?_;refine aB ?_;refine bP ?_;refine aH (cM (φ:=λ _=>True) (V:=λ _:Unit=>.int .i64 0) (hs:=iX u (gF 2) (gL 2)) (os:=[]) (A0:=[]) (hs':=λ _=>iX u (gF 2) (gL 2)) (os':=λ _=>[]) (Fc:=λ _=>[]) (hc:=λ w1 hw=>(rG (a:=(1,1)) (.inr (.inr rfl)) hw).mono λ _ _ ⟨e,h⟩=>⟨(),e,trivial,h⟩)) (λ x18 h18=>?_);refine Kb7 ?_;refine Kc9 ?_
 refine aU (λ c20=>?_) (λ c20=>?_)
 ·exact nv c20
 ·try (first|contradiction|(exfalso;omega))
  refine C5 ?_;refine aF (cV (v:=.int .i64 18) (hc:=λ w1 hw=>iC (k:=1) (i:=1) (by decide) (by decide) w1)) (λ x25=>?_);refine kZ ?_;refine eG [(0,[]),(1,[]),(2,[]),(3,[]),(4,[]),(5,[]),(6,[]),(7,[3,5,6]),(8,[])] ?_;refine mG ?_;refine gY ?_;refine aS (i:=6) (hq:=(fR (mD (v:=.agg ⟨[.map (some u.bv),.bool false]⟩) (K:=3) (E:=131) (dK:=.int .i64) (ze:=.agg ⟨[.map none,.bool false]⟩) (k:=.int .i64 0) (es:=Jt u.bv) (c:=1) (r:=some (0,.agg ⟨[.map (some u.bv),.bool false]⟩)) rf rf bD (by kernel_rfl) (by kernel_rfl) rfl (by kernel_rfl) rfl rfl))) (h:=?_);refine sB (hfire:=(λ _=>by((repeat (first|exact aM.nil|refine aM.cons (by first|exact eE|exact cX (hq:=fR (mD (v:=.agg ⟨[.map (some u.bv),.bool false]⟩) (K:=3) (E:=131) (dK:=.int .i64) (ze:=.agg ⟨[.map none,.bool false]⟩) (k:=.int .i64 0) (es:=Jt u.bv) (c:=1) (r:=some (0,.agg ⟨[.map (some u.bv),.bool false]⟩)) rf rf bD (by kernel_rfl) (by kernel_rfl) rfl (by kernel_rfl) rfl rfl))) ?_));done))) (h:=λ x11=>?_);refine fE (i:=8) (hq:=(cE λ _=>aC (cs:=[.map (some u.bv),.bool false]) rf bD rf rfl (by kernel_rfl) rf dI)) (h:=λ _=>?_);refine dC ?_;refine C3 ?_;refine Kb9 ?_;refine Kd0 ?_
  refine aU (λ c35=>?_) (λ c35=>?_)
  ·exact nv c35
  ·try (first|contradiction|(exfalso;omega))
   refine jN ?_
   refine aU (λ c35=>?_) (λ c35=>?_)
   ·exact nv c35
   ·try (first|contradiction|(exfalso;omega))
    refine jN ?_
    refine aU (λ c35=>?_) (λ c35=>?_)
    ·exact nv c35
    ·try (first|contradiction|(exfalso;omega))
     refine dD ?_;refine K1 ?_
     refine aU (λ c35=>?_) (λ c35=>?_)
     ·exact nv c35
     ·try (first|contradiction|(exfalso;omega))
      refine Kd0 ?_
      refine aU (λ c43=>?_) (λ c43=>?_)
      ·exact nv c43
      ·try (first|contradiction|(exfalso;omega))
       refine dD ?_;refine K1 ?_
       refine aU (λ c43=>?_) (λ c43=>?_)
       ·exact nv c43
       ·try (first|contradiction|(exfalso;omega))
        refine jN ?_
        refine aU (λ c49=>?_) (λ c49=>?_)
        ·try (first|contradiction|(exfalso;omega))
         refine jA ?_;refine J3 ?_;refine aA (fR (iE (K:=9) (E:=23) (dK:=.string) (ze:=.int .u64 0) (k:=.string fB) (es:=gF 2) (c:=1) (r:=some (0,.int .u64 2)) rf rf bD (by kernel_rfl) (by kernel_rfl) trivial (by kernel_rfl) (by kernel_rfl))) rfl ?_;refine C9 ?_;refine J8 ?_;refine mL ?_;refine Na ?_
         refine bV Tryz.results50 (λ w hw=>?_)
         exact⟨rfl,hw.ret (by repeat (first|exact List.Sublist.refl _|apply List.Sublist.cons)) bL.nil (List.Sublist.refl _)⟩
        ·exact nv c49
end
end

/- Sorting at most one element. -/
section
open Go Go.RowKit Go.Ct
section
variable{w:World}{p:Option Addr}{c n:Nat}
theorem Q7(hn:n<=1)(fv:Value)(w:World):Calls Tryz.prog 207 #[.slice p n c,.int .i64 0,.int .i64 (n:Int),fv] w λ e w'=>e=.returned (.tuple #[])/\St w [] [] w':=by
 refine enter Tryz.func207 Tryz.ntmps207 rfl rfl (SF.s0 w) ?_
 simp only[cP]
 refine J2 ?_;refine rD ?_;refine J1 ?_;refine aV ?_;refine cJ ?_;refine pF ?_;refine fF ?_
 refine aU (λ c14=>?_) (λ c14=>?_)
 ·try ((exfalso;omega))
 ·try (first|contradiction|(exfalso;omega))
  refine aX rfl ?_
  refine Ru Tryz.results207 (λ w hw=>?_)
  exact⟨rfl,hw.done⟩
theorem Yi(hn:n=0∨n=1)(w:World):Calls Tryz.prog 171 #[.int .u64 (n:Int)] w λ e w'=>e=.returned (.int .i64 (n:Int))/\St w [] [] w':=by
 have hn1:n<=1:=by omega
 rcases hn with h|h
 all_goals
 refine enter Tryz.func171 Tryz.ntmps171 rfl rfl (SF.s0 w) ?_
 simp only[cP]
 all_goals (refine Kb1 ?_;refine fS ?_;refine aD ?_)
 all_goals
 refine aU (λ c4=>?_) (λ c4=>?_)
 ·all_goals try ((exfalso;omega))
 ·all_goals try (first|contradiction|(exfalso;omega))
  all_goals (refine lS ?_;refine J2 ?_;refine fS ?_;refine aD ?_)
  all_goals
   refine aU (λ c8=>?_) (λ c8=>?_)
   ·all_goals try ((exfalso;omega))
   ·all_goals try (first|contradiction|(exfalso;omega))
    all_goals (refine lS ?_;refine J2 ?_;refine fS ?_;refine aD ?_)
    all_goals
    refine aU (λ c14=>?_) (λ c14=>?_)
    ·all_goals try ((exfalso;omega))
    ·all_goals try (first|contradiction|(exfalso;omega))
     all_goals (refine C5 ?_;refine aA (nX (k:=.u8) (k2:=.u64) rf (by kernel_rfl) (by kernel_rfl)) rfl ?_;refine aA (da (v:=.int .u8 (n:Int)) (by intro w;subst h;kernel_rfl)) rfl ?_;refine aA (Nr (k2:=.u8) rf (by kernel_rfl) (by kernel_rfl) (by omega)) rfl ?_;refine oA ?_;refine J1 ?_)
     all_goals
      refine bE Tryz.results171 (λ w hw=>?_)
      exact⟨by rw[Int.zero_add];rfl,hw.done⟩
theorem nj(hn:n=0∨n=1)(w:World):Calls Tryz.prog 167 #[.int .u64 (n:Int)] w λ e w'=>e=.returned (.int .i64 (n:Int))/\St w [] [] w':=by
 refine enter Tryz.func167 Tryz.ntmps167 rfl rfl (SF.s0 w) ?_
 simp only[cP]
 refine Lf ?_
 refine aU (λ c0=>?_) (λ c0=>?_)
 ·exact nv c0
 ·refine Kd3 ?_;refine aF (cV (hc:=λ w1 hw=>Yi hn w1)) (λ x7=>?_);refine J1 ?_
  refine bE Tryz.results167 (λ w hw=>?_)
  exact⟨rfl,hw.done⟩
theorem kz(hn:n=0∨n=1)(fv:Value)(q:Int)(w:World):Calls Tryz.prog 166 #[.slice p n c,.int .i64 0,.int .i64 (n:Int),.int .i64 q,fv] w λ e w'=>e=.returned (.tuple #[])/\St w [] [] w':=by
 have h1:n<=1:=by omega
 refine enter Tryz.func166 Tryz.ntmps166 rfl rfl (SF.s0 w) ?_
 simp only[cP]
 refine dW ?_;refine W0 ?_;refine cJ ?_;refine aV ?_;refine mL ?_;refine aw ?_;refine Kc7 ?_;refine vI ?_;refine aD ?_
 refine aU (λ c25=>?_) (λ c25=>?_)
 ·try (first|contradiction|(exfalso;omega))
  refine mL ?_;refine G3 ?_;refine aF (cV (hc:=λ w1 hw=>Q7 h1 fv w1)) (λ x30=>?_);refine aD ?_
  refine bV Tryz.results166 (λ w hw=>?_)
  exact⟨rfl,hw.done⟩
 ·try ((exfalso;omega))
theorem O5(hn:n=0∨n=1)(fv:Value)(w:World):Calls Tryz.prog 128 #[.slice p n c,fv] w λ e w'=>e=.returned (.tuple #[])/\St w [] [] w':=by
 have h1:n<=1:=by omega
 refine enter Tryz.func128 Tryz.ntmps128 rfl rfl (SF.s0 w) ?_
 simp only[cP]
 refine J2 ?_;refine cO ?_;refine J1 ?_;refine Gt ?_;refine G3 ?_;refine aA (Ft (k2:=.i64) rf (by kernel_rfl) (by kernel_rfl) (by omega)) rfl ?_;refine aF (cV (hc:=λ w1 hw=>nj hn w1)) (λ x11=>?_);refine aB ?_;refine aF (cV (hc:=λ w1 hw=>kz hn fv _ w1)) (λ x13=>?_);refine aD ?_
 refine Ru Tryz.results128 (λ w hw=>?_)
 exact⟨rfl,hw.done⟩
end
end

/- families: ordered, Contents. -/
section
open Go Go.RowKit Go.Ct
abbrev B3(q:ByteArray×Int):List Value:=[.string q.1,.int .u64 q.2]
abbrev kb(q:Int×ByteArray×Int):List Value:=[.int .u64 q.1,.string q.2.1,.int .u64 q.2.2]
theorem rQ(q:ByteArray×Int):(B3 q).length=2:=rfl
theorem Of(q:Int×ByteArray×Int):(kb q).length=3:=rfl
theorem Aa:dL Tryz.prog 233 235 (kb (0,⟨#[]⟩,0)):=fZ (z:=.agg ⟨kb (0,⟨#[]⟩,0)⟩) (by kernel_rfl) (by kernel_rfl) rfl
theorem Ol:dL Tryz.prog 159 165 (B3 (⟨#[]⟩,0)):=fZ (z:=.agg ⟨B3 (⟨#[]⟩,0)⟩) (by kernel_rfl) (by kernel_rfl) rfl
section
variable{w:World}{D:List Nat}{A:Fr}{u:Js}{v:Int}
set_option maxRecDepth 100000 in
theorem Sg(hs:SF w D (iX u [] 0) A [] [] w):Calls Tryz.prog 90 #[pt u.b,.agg ⟨[.map (some u.bv),.bool false]⟩] w λ e w'=>∃x:Option Addr×Nat,e=.returned (.slice x.1 0 x.2)/\True/\SF w D (iX u [] 0) [] [(x.1,[])] [] w':=by
 refine enter Tryz.func90 Tryz.ntmps90 rfl rfl hs ?_
 simp only[cP]
 refine J0 ?_;refine bF (λ x3=>?_);refine J1 ?_;refine jA ?_;refine aA (fR (Kw (K:=9) (E:=23) rf bD (by kernel_rfl))) rfl ?_;refine aF (nG (m:=0) (k:=0) (cs:=[]) rf rf Aa (by decide) (by decide) (by kernel_rfl)) (λ x14=>?_);refine kZ ?_;refine jA ?_;refine aF (cE λ _=>A4 (K:=9) (E:=23) rf bD (by kernel_rfl)) (λ x17=>?_);refine Kb9 ?_;refine cJ ?_;refine J0 ?_;refine aA (fR (Aw rf bD bD (by simp) (by decide) (by kernel_rfl))) rfl ?_;refine iI ?_;refine pT ?_
 refine aU (λ c19=>?_) (λ c19=>?_)
 ·exact nv c19
 ·try (first|contradiction|(exfalso;omega))
  refine aX rfl ?_;refine J2 ?_;refine aF (cV (hc:=λ w1 hw=>O5 (n:=0) (.inl rfl) _ w1)) (λ x37=>?_);refine Kb8 ?_;refine cO ?_;refine aF (nG (m:=0) (k:=0) (cs:=[]) rf rf Ol (by decide) (by decide) (by kernel_rfl)) (λ x40=>?_);refine Kc7 ?_;refine Ka8 ?_;refine cJ ?_;refine Ka1 ?_
  refine aU (λ c44=>?_) (λ c44=>?_)
  ·exact nv c44
  ·try (first|contradiction|(exfalso;omega))
   refine aX rfl ?_;refine J2 ?_;refine J1 ?_
   refine bE Tryz.results90 (λ w hw=>?_)
   exact⟨(some ⟨x40,0,none⟩,0),rfl,trivial,(hw.freeze .head).ret (by repeat (first|exact List.Sublist.refl _|apply List.Sublist.cons)) (by exact bL.all) (List.nil_sublist _)⟩
set_option maxRecDepth 100000 in
theorem Wi(hs:SF w D (iX u [⟨.string fB,.int .u64 v,0⟩] 1) A [] [] w):Calls Tryz.prog 90 #[pt u.b,.agg ⟨[.map (some u.bv),.bool false]⟩] w λ e w'=>∃x:Option Addr×Nat,e=.returned (.slice x.1 1 x.2)/\True/\SF w D (iX u [⟨.string fB,.int .u64 v,0⟩] 1) [] [(x.1,dR B3 [(fB,v)])] [] w':=by
 refine enter Tryz.func90 Tryz.ntmps90 rfl rfl hs ?_
 simp only[cP]
 refine J0 ?_;refine bF (λ x3=>?_);refine J1 ?_;refine jA ?_;refine aA (fR (Kw (K:=9) (E:=23) rf bD (by kernel_rfl))) rfl ?_;refine aF (nG (m:=0) (k:=1) (cs:=[]) rf rf Aa (by decide) (by decide) (by kernel_rfl)) (λ x14=>?_);refine kZ ?_;refine jA ?_;refine aF (cE λ _=>A4 (K:=9) (E:=23) rf bD (by kernel_rfl)) (λ x17=>?_);refine Kb9 ?_;refine cJ ?_;refine J0 ?_;refine aF (cE λ _=>Ik (e:=⟨.string fB,.int .u64 v,0⟩) rf bD bD (by simp) (by decide) (by kernel_rfl) dI) (λ x18=>?_);refine iI ?_;refine pT ?_
 refine aU (λ c19=>?_) (λ c19=>?_)
 ·try (first|contradiction|(exfalso;omega))
  refine bB ?_;refine aV ?_;refine J0 ?_;refine aA (fR (Nu (e:=⟨.string fB,.int .u64 v,0⟩) rf bD bD (by simp) (by simp))) rfl ?_;refine ql ?_;refine J8 ?_;refine Gt ?_;refine G3 ?_;refine bC ?_;refine J3 ?_;refine aF (cV (v:=.int .u64 ((lU fB 63:Nat):Int)) (hc:=λ w1 hw=>rH (m:=63) fB (by decide) (by decide) w1)) (λ x29=>?_);refine G3 ?_;refine cK ?_;refine cK ?_;refine aF (by exact gD λ _=>aP Aa mH rf rf rf rf (by simp only[dQ,cI,List.cons_append,List.nil_append,List.append_nil];exact rfl)) (λ x34=>?_);(refine aF (aQ.cL (cQ (sz:=3) (m:=0) rf rf .head rfl (.new .head) rfl rfl Aa rfl (by decide) dJ (by decide)) hP) (λ x35=>?_);try (refine eH (λ h35=>?_)));refine J1 ?_;refine dZ ?_;refine bH ?_;refine J0 ?_;refine aA (fR (Aw rf bD bD (by simp) (by decide) (by kernel_rfl))) rfl ?_;refine iI ?_;refine pT ?_
  refine aU (λ c19=>?_) (λ c19=>?_)
  ·exact nv c19
  ·try (first|contradiction|(exfalso;omega))
   refine aX rfl ?_;refine J2 ?_;refine aF (cV (hc:=λ w1 hw=>O5 (n:=1) (.inr rfl) _ w1)) (λ x37=>?_);refine Kb8 ?_;refine cO ?_;refine aF (nG (m:=1) (k:=1) (cs:=dR B3 [(⟨#[]⟩,0)]) rf rf Ol (by decide) (by decide) (by kernel_rfl)) (λ x40=>?_);refine Kc7 ?_;refine Ka8 ?_;refine cJ ?_;refine Ka1 ?_
   refine aU (λ c44=>?_) (λ c44=>?_)
   ·try (first|contradiction|(exfalso;omega))
    refine Ka6 ?_;refine aA (aY (f:=kb) (l:=[(((lU fB 63:Nat):Int),fB,v)]) (k:=0) Of (by decide) rf rf dJ (by kernel_rfl) (.own (.tail .head)) (Nat.le_of_ble_eq_true rfl) (Nat.le_of_ble_eq_true rfl)) rfl ?_;refine aA (cH (f:=kb) (l:=[(((lU fB 63:Nat):Int),fB,v)]) (k:=0) Of rf (by kernel_rfl) (.own (.tail .head)) rfl) rfl ?_;refine aF (cE λ _=>cG (z:=kb (0,⟨#[]⟩,0)) (by kernel_rfl)) (λ x10=>?_);refine bX (λ _=>?_);refine aL (cE λ _=>aC rf bD rf rfl (by kernel_rfl) rf dI) (λ _=>?_);refine aD ?_;refine Cw ?_;refine aK ?_;refine aA (dE (k:=2) (vs:=[.string fB,.int .u64 v]) rf bD (by kernel_rfl) rfl rfl) rfl ?_;refine aA (aY (f:=B3) (l:=[(⟨#[]⟩,0)]) (k:=0) rQ (by decide) rf rf dJ (by kernel_rfl) (.own .head) (by decide) (by decide)) rfl ?_;refine aL (aQ.hJ (sE (f:=B3) (l:=[(⟨#[]⟩,0)]) (k:=0) (v1:=(fB,v)) rQ rf rf rfl (by kernel_rfl) .head rfl (by decide)) hP) (λ _=>?_);refine aD ?_;refine Ka9 ?_;refine bH ?_;refine Ka1 ?_
    refine aU (λ c44=>?_) (λ c44=>?_)
    ·exact nv c44
    ·try (first|contradiction|(exfalso;omega))
     refine aX rfl ?_;refine J2 ?_;refine J1 ?_
     refine bE Tryz.results90 (λ w hw=>?_)
     exact⟨(some ⟨x40,0,none⟩,1),rfl,trivial,(hw.freeze .head).ret (by repeat (first|exact List.Sublist.refl _|apply List.Sublist.cons)) (bL.dH λ f hf=>by simp at hf;simp[hf]) (List.nil_sublist _)⟩
   ·exact nv c44
 ·exact nv c19
end
end

end Go.Proofs.YtnilhhnfjfdokaaGreatDoor
