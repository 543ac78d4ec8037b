/- Merged. -/
import Derived.Test.YtbajmaoegmbfgaaGreatGNode2
import Derived.Test.YtbajmaoegmbfgaaGreatGMem
import Derived.Test.YtbajmaoegmbfgaaGreatAuto
set_option linter.unusedSimpArgs false
set_option linter.unusedVariables false
namespace Go.Proofs.YtbajmaoegmbfgaaGreat
open Go.RowKit Go.Ct
section
variable{w:World}{D:List Nat}{b:Nat}{L:List aP}{cs:List Int}{gen acc:Int}{pn pc:Option Addr}{cn cc:Nat}{A:Fr}
theorem F7 {n : Nd} {xs : List Int} {ys : List Pr} (init : Int) (hs : SF w D [(b, mO L cs gen acc pn cn pc cc)] [(n.brA, aG xs), (n.prA, cY ys)] [] (mW L cs pn cn pc cc) w) (e1 : n.brN = xs.length) (e2 : n.prN = ys.length) (h1 : xs.length ≤ 274877906944) (h2 : ys.length ≤ 274877906944)
    (hl : L.length ≤ 274877906944) (hc : cs.length ≤ 274877906944) :
    Calls Tryz.prog 92 #[.pointer (some ⟨b, 0, none⟩), n.v, .int .i64 init] w fun e w' => ∃ x : AX, e = .returned (.int .i64 ((L.length + 1 : Nat) : Int)) ∧ True ∧
      SF w D [(b, mO (L ++ [nM n xs ys cs.length x]) (eU n.kind cs init) gen acc x.pn x.cn x.pc x.cc)] [] (nM n xs ys cs.length x).fr (mW (L ++ [nM n xs ys cs.length x]) (eU n.kind cs init) x.pn x.cn x.pc x.cc) w' := by
  refine enter Tryz.func92 Tryz.ntmps92 rfl rfl (yX hs) ?_
  simp only [cC]
  simp only [Nd.v, Nd.cells]
  refine J0 ?_; refine bM (fun x4 => ?_); refine J1 ?_; refine J0 ?_; refine aF ?_; refine kQ (fun _ => ?_); refine aF ?_; refine kQ (fun _ => ?_); refine uM ?_; refine Du ?_; refine aH ?_; refine cS ?_; refine lQ ?_
  refine bC (fun c12 => ?_) (fun c12 => ?_)
  · try (exfalso; omega)
    refine Iz ?_; refine aD (cM (hc := fun w hs => lI init hs hc)) (fun x16 h16 => ?_); refine uM ?_; refine fK ?_; refine J0 ?_; refine iN (fun x32 => ?_); refine J3 ?_; (refine fG (fun x35 => ?_); try (refine fD (fun h35 => ?_))); refine uM ?_; refine J0 ?_; refine iN (fun x37 => ?_); refine J3 ?_; (refine fG (fun x40 => ?_); try (refine fD (fun h40 => ?_))); refine uM ?_; refine aV ?_; refine eC [(0, []), (1, []), (2, []), (3, []), (4, []), (5, []), (6, []), (7, [5]), (8, []), (9, []), (10, []), (11, []), (12, [])] ?_; refine aN ?_; refine yD ?_; refine bT ?_; refine bZ (h := fun x49 => ?_); ((refine cR (i := 8) (hq := (bF.eK (fS (sz := 14) rf rf yR (by rw [eA]) fin rfl rfl Nt rfl (by decide) gE om) uV)) (h := fun x50 => ?_); try (refine eH (fun h50 => ?_)))); refine J4 ?_; refine aU ?_; refine zT ?_; refine I1 ?_; refine Rr ?_; refine J1 ?_
    refine aR Tryz.results92 (fun w hw => ?_)
    have h2 := (hw.freeze .head).freeze .head
    simp only [rL, List.nil_append] at h2
    have h3 := h2.aX (H' := [(b, _)]) (F' := [(x35.1, aG xs), (x40.1, cY ys)]) (O' := [_, _])
    exact ⟨⟨x50.1, x50.2, x16.1, x16.2, x35.1, x35.2, x40.1, x40.2⟩, rfl, trivial, by simpa [mO, aO, mW, nM, aP.fr, eU, kK, Nd.cells, *] using h3⟩
  · try (exfalso; omega)
    refine aV ?_; refine lQ ?_
    refine bC (fun c18 => ?_) (fun c18 => ?_)
    · try (exfalso; omega)
      refine aZ ?_
      refine bC (fun c18 => ?_) (fun c18 => ?_)
      · try (exfalso; omega)
        refine Iz ?_; refine aD (cM (hc := fun w hs => lI init hs hc)) (fun x24 h24 => ?_); refine uM ?_; refine fK ?_; refine J0 ?_; refine iN (fun x32 => ?_); refine J3 ?_; (refine fG (fun x35 => ?_); try (refine fD (fun h35 => ?_))); refine uM ?_; refine J0 ?_; refine iN (fun x37 => ?_); refine J3 ?_; (refine fG (fun x40 => ?_); try (refine fD (fun h40 => ?_))); refine uM ?_; refine aV ?_; refine eC [(0, []), (1, []), (2, []), (3, []), (4, []), (5, []), (6, []), (7, [5]), (8, []), (9, []), (10, []), (11, []), (12, [])] ?_; refine aN ?_; refine yD ?_; refine bT ?_; refine bZ (h := fun x49 => ?_); ((refine cR (i := 8) (hq := (bF.eK (fS (sz := 14) rf rf yR (by rw [eA]) fin rfl rfl Nt rfl (by decide) gE om) uV)) (h := fun x50 => ?_); try (refine eH (fun h50 => ?_)))); refine J4 ?_; refine aU ?_; refine zT ?_; refine I1 ?_; refine Rr ?_; refine J1 ?_
        refine aR Tryz.results92 (fun w hw => ?_)
        have h2 := (hw.freeze .head).freeze .head
        simp only [rL, List.nil_append] at h2
        have h3 := h2.aX (H' := [(b, _)]) (F' := [(x35.1, aG xs), (x40.1, cY ys)]) (O' := [_, _])
        exact ⟨⟨x50.1, x50.2, x24.1, x24.2, x35.1, x35.2, x40.1, x40.2⟩, rfl, trivial, by simpa [mO, aO, mW, nM, aP.fr, eU, kK, Nd.cells, *] using h3⟩
      · try (exfalso; omega)
    · try (exfalso; omega)
      refine lQ ?_
      refine bC (fun c18 => ?_) (fun c18 => ?_)
      · try (exfalso; omega)
        refine aZ ?_
        refine bC (fun c18 => ?_) (fun c18 => ?_)
        · try (exfalso; omega)
          refine Iz ?_; refine aD (cM (hc := fun w hs => lI init hs hc)) (fun x24 h24 => ?_); refine uM ?_; refine fK ?_; refine J0 ?_; refine iN (fun x32 => ?_); refine J3 ?_; (refine fG (fun x35 => ?_); try (refine fD (fun h35 => ?_))); refine uM ?_; refine J0 ?_; refine iN (fun x37 => ?_); refine J3 ?_; (refine fG (fun x40 => ?_); try (refine fD (fun h40 => ?_))); refine uM ?_; refine aV ?_; refine eC [(0, []), (1, []), (2, []), (3, []), (4, []), (5, []), (6, []), (7, [5]), (8, []), (9, []), (10, []), (11, []), (12, [])] ?_; refine aN ?_; refine yD ?_; refine bT ?_; refine bZ (h := fun x49 => ?_); ((refine cR (i := 8) (hq := (bF.eK (fS (sz := 14) rf rf yR (by rw [eA]) fin rfl rfl Nt rfl (by decide) gE om) uV)) (h := fun x50 => ?_); try (refine eH (fun h50 => ?_)))); refine J4 ?_; refine aU ?_; refine zT ?_; refine I1 ?_; refine Rr ?_; refine J1 ?_
          refine aR Tryz.results92 (fun w hw => ?_)
          have h2 := (hw.freeze .head).freeze .head
          simp only [rL, List.nil_append] at h2
          have h3 := h2.aX (H' := [(b, _)]) (F' := [(x35.1, aG xs), (x40.1, cY ys)]) (O' := [_, _])
          exact ⟨⟨x50.1, x50.2, x24.1, x24.2, x35.1, x35.2, x40.1, x40.2⟩, rfl, trivial, by simpa [mO, aO, mW, nM, aP.fr, eU, kK, Nd.cells, *] using h3⟩
        · try (exfalso; omega)
      · try (exfalso; omega)
        refine dM ?_; refine Ro ?_
        refine bC (fun c18 => ?_) (fun c18 => ?_)
        · try (exfalso; omega)
          refine Iz ?_; refine aD (cM (hc := fun w hs => lI init hs hc)) (fun x24 h24 => ?_); refine uM ?_; refine fK ?_; refine J0 ?_; refine iN (fun x32 => ?_); refine J3 ?_; (refine fG (fun x35 => ?_); try (refine fD (fun h35 => ?_))); refine uM ?_; refine J0 ?_; refine iN (fun x37 => ?_); refine J3 ?_; (refine fG (fun x40 => ?_); try (refine fD (fun h40 => ?_))); refine uM ?_; refine aV ?_; refine eC [(0, []), (1, []), (2, []), (3, []), (4, []), (5, []), (6, []), (7, [5]), (8, []), (9, []), (10, []), (11, []), (12, [])] ?_; refine aN ?_; refine yD ?_; refine bT ?_; refine bZ (h := fun x49 => ?_); ((refine cR (i := 8) (hq := (bF.eK (fS (sz := 14) rf rf yR (by rw [eA]) fin rfl rfl Nt rfl (by decide) gE om) uV)) (h := fun x50 => ?_); try (refine eH (fun h50 => ?_)))); refine J4 ?_; refine aU ?_; refine zT ?_; refine I1 ?_; refine Rr ?_; refine J1 ?_
          refine aR Tryz.results92 (fun w hw => ?_)
          have h2 := (hw.freeze .head).freeze .head
          simp only [rL, List.nil_append] at h2
          have h3 := h2.aX (H' := [(b, _)]) (F' := [(x35.1, aG xs), (x40.1, cY ys)]) (O' := [_, _])
          exact ⟨⟨x50.1, x50.2, x24.1, x24.2, x35.1, x35.2, x40.1, x40.2⟩, rfl, trivial, by simpa [mO, aO, mW, nM, aP.fr, eU, kK, Nd.cells, *] using h3⟩
        · try (exfalso; omega)
          refine lQ ?_
          refine bC (fun c26 => ?_) (fun c26 => ?_)
          · try (exfalso; omega)
            refine Iz ?_; refine aD (cM (hc := fun w hs => lI init hs hc)) (fun x30 h30 => ?_); refine uM ?_; refine fK ?_; refine J0 ?_; refine iN (fun x32 => ?_); refine J3 ?_; (refine fG (fun x35 => ?_); try (refine fD (fun h35 => ?_))); refine uM ?_; refine J0 ?_; refine iN (fun x37 => ?_); refine J3 ?_; (refine fG (fun x40 => ?_); try (refine fD (fun h40 => ?_))); refine uM ?_; refine aV ?_; refine eC [(0, []), (1, []), (2, []), (3, []), (4, []), (5, []), (6, []), (7, [5]), (8, []), (9, []), (10, []), (11, []), (12, [])] ?_; refine aN ?_; refine yD ?_; refine bT ?_; refine bZ (h := fun x49 => ?_); ((refine cR (i := 8) (hq := (bF.eK (fS (sz := 14) rf rf yR (by rw [eA]) fin rfl rfl Nt rfl (by decide) gE om) uV)) (h := fun x50 => ?_); try (refine eH (fun h50 => ?_)))); refine J4 ?_; refine aU ?_; refine zT ?_; refine I1 ?_; refine Rr ?_; refine J1 ?_
            refine aR Tryz.results92 (fun w hw => ?_)
            have h2 := (hw.freeze .head).freeze .head
            simp only [rL, List.nil_append] at h2
            have h3 := h2.aX (H' := [(b, _)]) (F' := [(x35.1, aG xs), (x40.1, cY ys)]) (O' := [_, _])
            exact ⟨⟨x50.1, x50.2, x30.1, x30.2, x35.1, x35.2, x40.1, x40.2⟩, rfl, trivial, by simpa [mO, aO, mW, nM, aP.fr, eU, kK, Nd.cells, *] using h3⟩
          · try (exfalso; omega)
            refine pI ?_; refine J0 ?_; refine iN (fun x32 => ?_); refine J3 ?_; (refine fG (fun x35 => ?_); try (refine fD (fun h35 => ?_))); refine uM ?_; refine J0 ?_; refine iN (fun x37 => ?_); refine J3 ?_; (refine fG (fun x40 => ?_); try (refine fD (fun h40 => ?_))); refine uM ?_; refine aV ?_; refine eC [(0, []), (1, []), (2, []), (3, []), (4, []), (5, []), (6, []), (7, [5]), (8, []), (9, []), (10, []), (11, []), (12, [])] ?_; refine aN ?_; refine yD ?_; refine bT ?_; refine bZ (h := fun x49 => ?_); ((refine cR (i := 8) (hq := (bF.eK (fS (sz := 14) rf rf yR (by rw [eA]) fin rfl rfl Nt rfl (by decide) gE om) uV)) (h := fun x50 => ?_); try (refine eH (fun h50 => ?_)))); refine J4 ?_; refine aU ?_; refine zT ?_; refine I1 ?_; refine Rr ?_; refine J1 ?_
            refine aR Tryz.results92 (fun w hw => ?_)
            have h2 := (hw.freeze .head).freeze .head
            simp only [rL, List.nil_append] at h2
            have h3 := h2.aX (H' := [(b, _)]) (F' := [(x35.1, aG xs), (x40.1, cY ys)]) (O' := [_, _])
            exact ⟨⟨x50.1, x50.2, pc, cc, x35.1, x35.2, x40.1, x40.2⟩, rfl, trivial, by simpa [mO, aO, mW, nM, aP.fr, eU, kK, Nd.cells, *] using h3⟩
theorem nP{m c:Nat}{p:Option Addr}{v1 v2 v3:Value}(hs:SF w D [(b,.cells ⟨[.slice p m c,v1,v2,v3]⟩ 139 (0,0))] A [] [] w)(hl:m<=274877906945):Calls Tryz.prog 81 #[.pointer (some ⟨b,0,none⟩)] w λ e w'=>∃q:Unit,e=.returned (.int .i64 ((m+2:Nat):Int))/\True /\
  SF w D [(b,.cells ⟨[.slice p m c,v1,v2,v3]⟩ 139 (0,0))] [] [] [] w':=by
 refine enter Tryz.func81 Tryz.ntmps81 rfl rfl hs ?_
 simp only[cC]
 refine cX ?_;refine mD ?_;refine dR ?_;refine Ic ?_;refine J1 ?_
 refine aR Tryz.results81 (λ w hw=>?_)
 exact⟨(),by rw[show(2:Int)+(m:Int)=((m+2:Nat):Int) by omega];rfl,trivial,hw.aX⟩
theorem kx {n : Nd} {xs : List Int} {ys : List Pr} (init : Int) (hs : SF w D [(b, aO L cs gen acc pn cn pc cc)] [(n.brA, aG xs), (n.prA, cY ys)] [] (mW L cs pn cn pc cc) w) (e1 : n.brN = xs.length) (e2 : n.prN = ys.length) (h1 : xs.length ≤ 274877906944) (h2 : ys.length ≤ 274877906944)
    (hl : L.length ≤ 274877906944) (hc : cs.length ≤ 274877906944) :
    Calls Tryz.prog 29 #[.pointer (some ⟨b, 0, none⟩), n.v, .int .i64 init] w fun e w' => ∃ x : AX, e = .returned (.int .i64 ((L.length + 3 : Nat) : Int)) ∧ True ∧
      SF w D [(b, aO (L ++ [nM n xs ys cs.length x]) (eU n.kind cs init) gen acc x.pn x.cn x.pc x.cc)] [] (nM n xs ys cs.length x).fr (mW (L ++ [nM n xs ys cs.length x]) (eU n.kind cs init) x.pn x.cn x.pc x.cc) w' := by
  refine enter Tryz.func29 Tryz.ntmps29 rfl rfl (yL hs) ?_
  simp only [cC]
  simp only [Nd.v, Nd.cells]
  refine J0 ?_; refine bM (fun x4 => ?_); refine J1 ?_; refine nI ?_; refine aD (cF (V := fun p : Option Addr × Option Addr => .agg ⟨[.int .i64 n.kind, .int .i64 n.gen, .int .i64 n.main, .int .u64 n.bm, .slice p.1 n.brN xs.length, .int .u64 n.hash, .string n.key, .int .u64 n.val, .slice p.2 n.prN ys.length, .int .i64 n.prev, .int .i64 n.bJ, .int .i64 n.exp, .int .i64 n.new, .int .i64 n.status]⟩) (hc := fun w1 hw => Vp (n := n) ⟨e1, e2, hw.cl (.bJ .head), hw.cl (.bJ (.tail .head)), by omega, by omega⟩ (by omega) (by omega))) (fun x8 h8 => ?_); refine J5 ?_; refine J0 ?_; refine aF ?_; refine kQ (fun _ => ?_); refine aF ?_; refine kQ (fun _ => ?_); refine uM ?_; refine Cw ?_; refine iI ?_; refine Ro ?_
  refine bC (fun c12 => ?_) (fun c12 => ?_)
  · try (exfalso; omega)
    refine Iz ?_; refine aD (cM (hc := fun w hs => zP init hs hc)) (fun x18 h18 => ?_); refine uM ?_; refine fK ?_; refine aV ?_; refine eC [(0, []), (1, []), (2, []), (3, []), (4, []), (5, []), (6, [4]), (7, []), (8, []), (9, []), (10, [])] ?_; refine Wf ?_; refine bT ?_; refine bZ (h := fun x41 => ?_); ((refine cR (i := 7) (hq := (bF.eK (fS (sz := 14) rf rf yR (by rw [eA]) fin rfl rfl Nt rfl (by decide) gE om) uV)) (h := fun x42 => ?_); try (refine eH (fun h42 => ?_)))); refine J88 ?_; refine J2 ?_; refine aD (cM (hc := fun w hs => nP (m := L.length + 1) hs (by omega))) (fun x46 h46 => ?_); refine J1 ?_
    refine aR Tryz.results29 (fun w hw => ?_)
    have h3 := hw.aX (H' := [(b, _)]) (F' := [(x8.1, aG xs), (x8.2, cY ys)]) (O' := [_, _])
    exact ⟨⟨x42.1, x42.2, x18.1, x18.2, x8.1, xs.length, x8.2, ys.length⟩, rfl, trivial, by simpa [mO, aO, mW, nM, aP.fr, eU, kK, Nd.cells, *] using h3⟩
  · try (exfalso; omega)
    refine nI ?_; refine aD (c0 (V := .bool) (hc := fun w1 hw => T8 ({ n with main := 0, prev := 0, status := 0, brA := x8.1, brC := xs.length, prA := x8.2, cY := ys.length } : Nd) w1)) (fun x22 h22 => ?_); refine J1 ?_
    refine bC (fun c20 => ?_) (fun c20 => ?_)
    · try (exfalso; omega)
      have k22 : n.kind = 3 ∨ n.kind = 5 ∨ n.kind = 6 := h22.1 c20
      rcases k22 with k22 | k22 | k22
      all_goals (refine Iz ?_; refine aD (cM (hc := fun w hs => zP init hs hc)) (fun x25 h25 => ?_); refine uM ?_; refine fK ?_; refine aV ?_; refine eC [(0, []), (1, []), (2, []), (3, []), (4, []), (5, []), (6, [4]), (7, []), (8, []), (9, []), (10, [])] ?_; refine Wf ?_; refine bT ?_; refine bZ (h := fun x41 => ?_); ((refine cR (i := 7) (hq := (bF.eK (fS (sz := 14) rf rf yR (by rw [eA]) fin rfl rfl Nt rfl (by decide) gE om) uV)) (h := fun x42 => ?_); try (refine eH (fun h42 => ?_)))); refine J88 ?_; refine J2 ?_; refine aD (cM (hc := fun w hs => nP (m := L.length + 1) hs (by omega))) (fun x46 h46 => ?_); refine J1 ?_)
      all_goals
       refine aR Tryz.results29 (fun w hw => ?_)
       have h3 := hw.aX (H' := [(b, _)]) (F' := [(x8.1, aG xs), (x8.2, cY ys)]) (O' := [_, _])
       exact ⟨⟨x42.1, x42.2, x25.1, x25.2, x8.1, xs.length, x8.2, ys.length⟩, rfl, trivial, by simpa [mO, aO, mW, nM, aP.fr, eU, kK, Nd.cells, *] using h3⟩
    · try (exfalso; omega)
      have k22 : ¬ (n.kind = 3 ∨ n.kind = 5 ∨ n.kind = 6) := fun k => by rw [h22.2 k] at c20; cases c20
      obtain ⟨k3, k56⟩ := not_or.1 k22
      obtain ⟨k5, k6⟩ := not_or.1 k56
      refine iI ?_; refine Ro ?_
      refine bC (fun c27 => ?_) (fun c27 => ?_)
      · try (exfalso; omega)
        refine Iz ?_; refine aD (cM (hc := fun w hs => zP init hs hc)) (fun x33 h33 => ?_); refine uM ?_; refine fK ?_; refine aV ?_; refine eC [(0, []), (1, []), (2, []), (3, []), (4, []), (5, []), (6, [4]), (7, []), (8, []), (9, []), (10, [])] ?_; refine Wf ?_; refine bT ?_; refine bZ (h := fun x41 => ?_); ((refine cR (i := 7) (hq := (bF.eK (fS (sz := 14) rf rf yR (by rw [eA]) fin rfl rfl Nt rfl (by decide) gE om) uV)) (h := fun x42 => ?_); try (refine eH (fun h42 => ?_)))); refine J88 ?_; refine J2 ?_; refine aD (cM (hc := fun w hs => nP (m := L.length + 1) hs (by omega))) (fun x46 h46 => ?_); refine J1 ?_
        refine aR Tryz.results29 (fun w hw => ?_)
        have h3 := hw.aX (H' := [(b, _)]) (F' := [(x8.1, aG xs), (x8.2, cY ys)]) (O' := [_, _])
        exact ⟨⟨x42.1, x42.2, x33.1, x33.2, x8.1, xs.length, x8.2, ys.length⟩, rfl, trivial, by simpa [mO, aO, mW, nM, aP.fr, eU, kK, Nd.cells, *] using h3⟩
      · try (exfalso; omega)
        refine pI ?_; refine aV ?_; refine eC [(0, []), (1, []), (2, []), (3, []), (4, []), (5, []), (6, [4]), (7, []), (8, []), (9, []), (10, [])] ?_; refine Wf ?_; refine bT ?_; refine bZ (h := fun x41 => ?_); ((refine cR (i := 7) (hq := (bF.eK (fS (sz := 14) rf rf yR (by rw [eA]) fin rfl rfl Nt rfl (by decide) gE om) uV)) (h := fun x42 => ?_); try (refine eH (fun h42 => ?_)))); refine J88 ?_; refine J2 ?_; refine aD (cM (hc := fun w hs => nP (m := L.length + 1) hs (by omega))) (fun x46 h46 => ?_); refine J1 ?_
        refine aR Tryz.results29 (fun w hw => ?_)
        have h3 := hw.aX (H' := [(b, _)]) (F' := [(x8.1, aG xs), (x8.2, cY ys)]) (O' := [_, _])
        exact ⟨⟨x42.1, x42.2, pc, cc, x8.1, xs.length, x8.2, ys.length⟩, rfl, trivial, by simpa [mO, aO, mW, nM, aP.fr, eU, kK, Nd.cells, *] using h3⟩
end
end Go.Proofs.YtbajmaoegmbfgaaGreat
namespace Go.Ct
section
theorem Cl.dx{w:Go.World}{cs:List Go.Value}(h:Cl w none cs):cs=[]:=by
 cases cs with
 | nil=>rfl
 | cons v r=>exact absurd (h.ptr (by simp)) (by simp)
theorem Ym{l:List Int}(h:aG l=[]):l=[]:=by simpa[aG] using h
theorem Ia{L:List aP}{k:Nat}(h:k<2):aB (cP L) ((k+1:Nat):Int)=fF:=by
 rw[pR (by rw[kB];omega)]
 rcases(show k=0∨k=1 by omega) with rfl|rfl<;>rfl
theorem Kp{L:List aP}{k:Nat}(h:2<=k)(h2:k<L.length+2):aB (cP L) ((k+1:Nat):Int)=L.getD (k+1-2-1) aP.zero:=by
 rw[pR (by rw[kB];omega)]
 obtain⟨j,rfl⟩:∃j,k=j+2:=⟨k-2,by omega⟩
 rw[show j+2+1-2-1=j by omega]
 rfl
end
end Go.Ct
namespace Go.Proofs.YtbajmaoegmbfgaaGreat
open Go.Proofs.Tryz (prog)
open Go.RowKit Go.Ct
section
variable{w:World}{D:List Nat}{b:Nat}{L:List aP}{cs:List Int}{gen acc:Int}{pn pc:Option Addr}{cn cc:Nat}{A:Fr}
theorem yY{l:List Int}{a:Option Addr}{c:Nat}{w:World}(ha:Cl w a (aG l))(hl:l.length<=274877906944):Calls prog 84 #[.slice a l.length c] w λ e w' =>
  ∃x:Option Addr×Nat,e=.returned (.slice x.1 l.length x.2)/\True/\SF w [] [] [] [] [⟨x.1,aG l,x.2,37,1⟩] w':=by
 refine enter Tryz.func84 Tryz.ntmps84 rfl rfl (SF.s1 ha) ?_
 simp only[cC]
 refine cX ?_;refine kT ?_;refine uI ?_
 refine bC (λ c4=>?_) (λ c4=>?_)
 ·have e0:a=none:=by cases a with|none=>rfl|some _=>cases c4
  subst e0
  obtain rfl:=Ym ha.dx
  refine cX ?_
  refine aR Tryz.results84 (λ w hw=>?_)
  exact⟨(none,0),rfl,trivial,(hw.jX 37 1).aX⟩
 ·refine aZ ?_;refine J0 ?_;refine iN (λ x5=>?_);refine aA ?_;(refine fG (λ x7=>?_);try (refine fD (λ h7=>?_)));refine J1 ?_
  refine aR Tryz.results84 (λ w hw=>?_)
  exact⟨x7,by simp only[Nat.zero_add];rfl,trivial,by simpa using hw.aX (F':=[]) (H':=[])⟩
theorem fy(hs:SF w D [(b,aO L cs gen acc pn cn pc cc)] A [] (mW L cs pn cn pc cc) w)(r:Int)(hr:r<1)(hl:L.length<=274877906944) :
  Calls prog 36 #[.pointer (some ⟨b,0,none⟩),.int .i64 r] w λ e w'=>∃q:Option Addr×Option Addr,e=.returned ((aB (cP L) r).at_ q.1 q.2).nd.v/\True /\
  SF w D [(b,aO L cs gen acc pn cn pc cc)] [] [] (mW L cs pn cn pc cc++[⟨q.2,cY (aB (cP L) r).ys,(aB (cP L) r).ys.length,164,2⟩,⟨q.1,aG (aB (cP L) r).xs,(aB (cP L) r).xs.length,37,1⟩]) w':=by
 rw[pT (by omega)]
 refine enter Tryz.func36 Tryz.ntmps36 rfl rfl (yL hs) ?_
 simp only[cC]
 refine J0 ?_;refine aK (λ x4=>?_);refine aH ?_;refine Kb6 ?_
 (refine eJ 7 (λ g7=>?_) (λ g7=>?_)<;>(try (exfalso;omega))<;>(refine aI ?_))
 (refine aI ?_);(refine aI ?_);refine Ka6 ?_
 refine bC (λ c12=>?_) (λ c12=>?_)
 ·try (exfalso;omega)
  refine Kb8 ?_
  refine bE Tryz.results36 (λ w hw=>?_)
  exact⟨(none,none),rfl,trivial,(hw.aAx 164 2 37 1).aX⟩
 ·exact nv c12
theorem ln(hs:SF w D [(b,aO L cs gen acc pn cn pc cc)] (aM L) [] (mW L cs pn cn pc cc) w)(hf:Fits L){k:Nat}(hk:(k:Int)<9223372036854775807)(hl:L.length<=274877906944) :
  Calls prog 36 #[.pointer (some ⟨b,0,none⟩),.int .i64 ((k+1:Nat):Int)] w λ e w'=>∃q:Option Addr×Option Addr,e=.returned ((aB (cP L) ((k+1:Nat):Int)).at_ q.1 q.2).nd.v/\True /\
  SF w D [(b,aO L cs gen acc pn cn pc cc)] [] [] (mW L cs pn cn pc cc++[⟨q.2,cY (aB (cP L) ((k+1:Nat):Int)).ys,(aB (cP L) ((k+1:Nat):Int)).ys.length,164,2⟩,⟨q.1,aG (aB (cP L) ((k+1:Nat):Int)).xs,(aB (cP L) ((k+1:Nat):Int)).xs.length,37,1⟩]) w':=by
 refine enter Tryz.func36 Tryz.ntmps36 rfl rfl (yL hs) ?_
 simp only[cC]
 refine J0 ?_;refine aK (λ x4=>?_);refine aH ?_;refine Kb6 ?_
 (refine Ka3 ?_)
 ((refine Ka3 ?_));((refine aE ?_;refine aD (cM (hc:=λ w hs=>nP (m:=L.length) hs (by omega))) (λ x10 h10=>?_)));refine Ka6 ?_
 refine bC (λ c12=>?_) (λ c12=>?_)
 ·try (exfalso;omega)
  refine Kb8 ?_
  refine bE Tryz.results36 (λ w hw=>?_)
  exact⟨(none,none),by rw[pT (by rw[kB];omega)];rfl,trivial,by rw[pT (by rw[kB];omega)];exact(hw.aAx 164 2 37 1).aX⟩
 ·try (exfalso;omega)
  refine kW ?_;refine J2 ?_;refine Bb ?_;refine aH ?_
  refine bC (λ c15=>?_) (λ c15=>?_)
  ·try (exfalso;omega)
   refine Kb8 ?_
   refine bE Tryz.results36 (λ w hw=>?_)
   exact⟨(none,none),by rw[Ia (by omega)];rfl,trivial,by rw[Ia (by omega)];exact(hw.aAx 164 2 37 1).aX⟩
  ·try (exfalso;omega)
   refine v9 ?_;refine aA ?_;refine aC (by exact jK (n:=2) rf rf (by omega) (by omega)) rfl ?_;refine aC (by exact cf rf rf (by omega) (by omega)) rfl ?_;refine Rp ?_;refine aD (Ul (Hc:=λ _=>[]) (Fc:=λ _=>[]) (V:=λ p:Option Addr×Option Addr=>((L.getD (k+1-2-1) aP.zero).at_ p.1 p.2).nd.v) (hc:=λ w1 hw=>V5 (hw.aBZ hf (by omega)) (hf.at (by omega)).brS (hf.at (by omega)).prS)) (λ x26 h26=>?_);refine J5 ?_
   refine bE Tryz.results36 (λ w hw=>?_)
   exact⟨x26,by rw[Kp (by omega) (by omega)];rfl,trivial,by rw[Kp (by omega) (by omega)];exact hw.toEnd.aX⟩
end
section
variable{w:World}{D:List Nat}{b:Nat}{L:List aP}{cs:List Int}{gen acc:Int}{pn pc:Option Addr}{cn cc:Nat}{A:Fr}
theorem Vg(hs:SF w D [(b,aO L cs gen acc pn cn pc cc)] (aM L) [] (mW L cs pn cn pc cc) w)(hf:Fits L)(r:Int)(hr:r<=9223372036854775807)(hl:L.length<=274877906944) :
  Calls prog 36 #[.pointer (some ⟨b,0,none⟩),.int .i64 r] w λ e w'=>∃q:Option Addr×Option Addr,e=.returned (.agg ⟨((aB (cP L) r).at_ q.1 q.2).nd.cells⟩)/\True /\
  SF w D [(b,aO L cs gen acc pn cn pc cc)] [] [] (mW L cs pn cn pc cc++[⟨q.2,cY (aB (cP L) r).ys,(aB (cP L) r).ys.length,164,2⟩,⟨q.1,aG (aB (cP L) r).xs,(aB (cP L) r).xs.length,37,1⟩]) w':=by
 rcases Int.lt_or_le r 1 with h|h
 ·exact fy hs r h hl
 ·obtain⟨k,rfl⟩:∃k:Nat,r=((k+1:Nat):Int):=⟨(r-1).toNat,by omega⟩
  exact ln hs hf (by omega) hl
theorem lh(hs:SF w D [(b,aO L cs gen acc pn cn pc cc)] (aM L) [] (mW L cs pn cn pc cc) w)(hf:Fits L)(hl:L.length<=274877906944)(hc:cs.length<=274877906944) :
  Calls prog 32 #[.pointer (some ⟨b,0,none⟩)] w λ e w'=>∃x:List aP×(Option Addr×Nat)×(Option Addr×Nat),e=.returned (.agg ⟨[.slice x.2.1.1 x.1.length x.2.1.2,.slice x.2.2.1 cs.length x.2.2.2,.int .i64 gen]⟩) /\
   (x.1.map aP.c=(cP L).map aP.c/\Fits x.1) /\
  SF w D [(b,aO L cs gen acc pn cn pc cc)] [] (aM x.1) (mW L cs pn cn pc cc++[⟨x.2.1.1,iJ x.1,x.2.1.2,47,14⟩,⟨x.2.2.1,aG cs,x.2.2.2,37,1⟩]) w':=by
 refine enter Tryz.func32 Tryz.ntmps32 rfl rfl (yL hs) ?_
 simp only[cC]
 refine J0 ?_;refine aK (λ x2=>?_);refine Qo ?_
 refine eO [3,5,6,7,8,9,10,11,12,13,14] (λ j:Nat×Option Addr×Nat=>[(3,.pointer (some ⟨j.1,0,none⟩))]) (λ _=>True) (λ j=>[(j.1,.cells ⟨[.slice none 0 0,.slice j.2.1 cs.length j.2.2,.int .i64 gen]⟩ 52 (0,0)),(x2,.cells ⟨[.slice none 0 0,.slice none 0 0,.int .i64 0]⟩ 52 (0,0)),(b,aO L cs gen acc pn cn pc cc)]) (λ _=>[]) (λ j=>[⟨j.2.1,aG cs,j.2.2,37,1⟩,⟨pn,iJ L,cn,47,14⟩,⟨pc,aG cs,cc,37,1⟩]) (by decide) (λ _=>by exact rfl) ?_ (λ j f hx=>?_)
 ·refine gI (.one 0 [] (.one 1 [] (.one 2 [] (.one 3 [] (.one 5 [] (.one 6 [] (.one 7 [] (.one 8 [] (.two 4 [8] (.one 9 [] (.one 10 [3,8] (.one 11 [] .nil))) 0 [] (.two 10 [3,8] (.one 4 [8] (.one 9 [] (.one 11 [] .nil))) 0 [] .nil)))))))))) ?_
  refine Ee ?_
  refine gR (E:=[4,10]) (by decide +kernel) ((.cons ?_ (.cons ?_ .nil)))
  ·refine mN (i:=4) (hq:=(Ul (Hc:=λ _=>[]) (Fc:=λ _=>[]) (hc:=λ w1 hw=>yY (hw.cl fin) hc))) (h:=λ x9 h9=>?_)
   refine iH ?_;refine gU (h:=λ x3=>?_);refine zT ?_
   refine fH ((x3,x9.1,x9.2)) ?_
   ·trivial
  ·refine gW (i:=10) (h:=λ x3=>?_)
   refine bB (i:=4) (hq:=(Ul (Hc:=λ _=>[]) (Fc:=λ _=>[]) (hc:=λ w1 hw=>yY (hw.cl fin) hc))) (h:=λ x9 h9=>?_);refine iH ?_;refine zT ?_
   refine fH ((x3,x9.1,x9.2)) ?_
   ·trivial
 dsimp only[hY,List.map,List.cons_append,List.nil_append]
 refine J2 ?_;refine aD (cM (hc:=λ w hs=>nP (m:=L.length) hs (by omega))) (λ x16 h16=>?_);refine qZ (λ x17=>?_);refine uM ?_;refine kT ?_;refine aD (cM (hc:=λ w hs=>nP (m:=L.length) hs (by omega))) (λ x20 h20=>?_);refine Ip ?_;refine cS ?_
 refine nT [4,21,22,23,24,25,26,27,28,29,30,31,32,33] (λ y:List aP×Option Addr×Nat=>[(21,.int .i64 ((y.1.length:Nat):Int))]) (λ y=>y.1.map aP.c=((cP L).take y.1.length).map aP.c/\y.1.length<=L.length+2/\Fits y.1) (λ y=>[(j.1,.cells ⟨[.slice y.2.1 y.1.length y.2.2,.slice j.2.1 cs.length j.2.2,.int .i64 gen]⟩ 52 (0,0)),(x2,.cells ⟨[.slice none 0 0,.slice none 0 0,.int .i64 0]⟩ 52 (0,0)),(b,aO L cs gen acc pn cn pc cc)]) (λ y=>aM y.1) (λ y=>[⟨y.2.1,iJ y.1,y.2.2,47,14⟩,⟨j.2.1,aG cs,j.2.2,37,1⟩,⟨pn,iJ L,cn,47,14⟩,⟨pc,aG cs,cc,37,1⟩]) (λ y=>L.length+2-y.1.length) (([],some ⟨x17,0,none⟩,L.length+2)) (⟨rfl,Nat.zero_le _,λ _ h=>(List.not_mem_nil h).elim⟩) (λ y f hx=>?_) (hw0:=λ w hw=>hw.back)
 dsimp only[hY,List.map,List.cons_append,List.nil_append]
 refine J0 ?_;refine Aj ?_;refine aV ?_
 refine bC (λ c22=>?_) (λ c22=>?_)
 ·refine rX ?_;refine Ka4 ?_;refine eC [(0,[]),(1,[]),(2,[]),(3,[]),(4,[]),(5,[1]),(6,[1]),(7,[]),(8,[]),(9,[])] ?_;refine lH ?_;refine iL ?_;refine jm ?_;refine bB (i:=5) (hq:=(cMO (hc:=λ w hs=>Vg hs hf ((y.1.length+1:Nat):Int) (by omega) hl))) (h:=λ x29 h29=>?_);refine bZ (h:=λ x30=>?_);((refine cR (i:=7) (hq:=(bF.eK (Wr ((aB (cP L) ((y.1.length+1:Nat):Int)).at_ x29.1 x29.2) rf rf yR rfl fin Nt rfl gE om) uV)) (h:=λ x31=>?_);try (refine eH (λ h31=>?_))));refine aU ?_;refine zT ?_;refine fK ?_;refine a8 ?_;refine Ip ?_
  refine iS ((y.1++[(aB (cP L) ((y.1.length+1:Nat):Int)).at_ x29.1 x29.2],x31.1,x31.2)) ?_ (hw1:=λ w hw=>by
   have h2:=(hw.freeze .head).freeze .head
   simp only[rL] at h2
   have h3:=h2.v7 (L:=y.1) (v:=(aB (cP L) ((y.1.length+1:Nat):Int)).at_ x29.1 x29.2) (F':=[]) (List.mem_cons_self ..) (List.mem_cons_of_mem _ (List.mem_cons_self ..)) (λ f hf=>List.mem_cons_of_mem _ (List.mem_cons_of_mem _ (List.mem_cons_of_mem _ hf)))
   simpa using h3) (hμ:=by simp only[List.length_append,List.length_cons,List.length_nil];omega)
  ·have hlt:y.1.length<(cP L).length:=by rw[kB];omega
   refine⟨?_,by simp only[List.length_append,List.length_cons,List.length_nil];omega,λ v hv=>?_⟩
   ·rw[List.map_append,hx.1,List.length_append,List.length_singleton,List.take_succ_eq_append_getElem hlt,List.map_append,pR hlt,iM,List.getElem?_eq_getElem hlt]
    rfl
   ·rcases List.mem_append.1 hv with hv|hv
    ·exact hx.2.2 v hv
    ·simp only[List.mem_singleton] at hv
     subst hv
     exact aP.ei (Km hf.all _) _ _
 ·refine bP rfl ?_;refine nI ?_;refine J5 ?_
  refine bE Tryz.results32 (λ w hw=>?_)
  have hlen:y.1.length=L.length+2:=by omega
  refine⟨(y.1,(y.2.1,y.2.2),(j.2.1,j.2.2)),rfl,⟨by rw[hx.1,hlen,List.take_of_length_le (by rw[kB];omega)],hx.2.2⟩,?_⟩
  exact(SF.toEnd hw).ret (by repeat (first|exact List.Sublist.refl _|apply List.Sublist.cons)) aY.all (List.Sublist.refl _)
end
section
theorem aBV (n : Nd) (w : World) : Calls prog 197 #[n.v] w fun e w' => e = .returned n.own.v ∧ St w [] [] w' := by
  refine enter Tryz.func197 Tryz.ntmps197 rfl rfl (SF.s0 w) ?_
  simp only [cC]
  refine J0 ?_; refine bM (fun x1 => ?_); refine aK (fun x2 => ?_); refine aH ?_; refine iI ?_; refine bN ?_; refine aK (fun x3 => ?_); refine J5 ?_; refine Du ?_; refine aH ?_; refine cS ?_; refine Cw ?_; refine Cw ?_; refine Cw ?_; refine Cw ?_; refine Cw ?_; refine Cw ?_; refine Cw ?_; refine aV ?_; refine aV ?_; refine lQ ?_
  refine bC (fun c9 => ?_) (fun c9 => ?_)
  · refine bP rfl ?_; refine aV ?_; refine eC [(0, []), (1, []), (2, []), (3, []), (4, []), (5, [3]), (6, []), (7, [])] ?_; refine lH ?_; refine lH ?_; refine aU ?_; refine Tb ?_; refine zT ?_; refine bP rfl ?_; refine nI ?_; refine J5 ?_
    refine bE Tryz.results197 (fun w hw => ?_)
    exact ⟨by simp only [Nd.own, beq_iff_eq, *, if_true, if_false]; rfl, hw.done⟩
  · refine kW ?_; refine lQ ?_
    refine bC (fun c11 => ?_) (fun c11 => ?_)
    · refine bP rfl ?_; refine aV ?_; refine eC [(0, []), (1, []), (2, []), (3, []), (4, []), (5, []), (6, []), (7, [3, 5]), (8, []), (9, [5]), (10, []), (11, [])] ?_; refine lH ?_; refine lH ?_; refine lH ?_; refine aU ?_; refine Tb ?_; refine Tb ?_; refine zT ?_; refine bP rfl ?_; refine nI ?_; refine J5 ?_
      refine bE Tryz.results197 (fun w hw => ?_)
      exact ⟨by simp only [Nd.own, beq_iff_eq, *, if_true, if_false]; rfl, hw.done⟩
    · refine kW ?_; refine lQ ?_
      refine bC (fun c13 => ?_) (fun c13 => ?_)
      · refine bP rfl ?_; refine dM ?_; refine J3 ?_; refine uM ?_; refine fK ?_; refine aV ?_; refine eC [(0, []), (1, []), (2, []), (3, []), (4, []), (5, []), (6, []), (7, [3, 5]), (8, []), (9, [5]), (10, []), (11, [])] ?_; refine lH ?_; refine lH ?_; refine lH ?_; refine aU ?_; refine Tb ?_; refine Tb ?_; refine zT ?_; refine bP rfl ?_; refine nI ?_; refine J5 ?_
        refine bE Tryz.results197 (fun w hw => ?_)
        exact ⟨by simp only [Nd.own, beq_iff_eq, *, if_true, if_false]; rfl, hw.done⟩
      · refine kW ?_; refine lQ ?_
        refine bC (fun c15 => ?_) (fun c15 => ?_)
        · refine bP rfl ?_; refine aV ?_; refine eC [(0, []), (1, []), (2, []), (3, []), (4, []), (5, []), (6, []), (7, [3, 5]), (8, []), (9, [5]), (10, []), (11, [])] ?_; refine lH ?_; refine lH ?_; refine lH ?_; refine aU ?_; refine Tb ?_; refine Tb ?_; refine zT ?_; refine bP rfl ?_; refine nI ?_; refine J5 ?_
          refine bE Tryz.results197 (fun w hw => ?_)
          exact ⟨by simp only [Nd.own, beq_iff_eq, *, if_true, if_false]; rfl, hw.done⟩
        · refine kW ?_; refine lQ ?_
          refine bC (fun c17 => ?_) (fun c17 => ?_)
          · refine bP rfl ?_; refine aV ?_; refine eC [(0, []), (1, []), (2, []), (3, []), (4, []), (5, []), (6, []), (7, [3, 5]), (8, []), (9, [5]), (10, []), (11, [])] ?_; refine lH ?_; refine lH ?_; refine lH ?_; refine aU ?_; refine Tb ?_; refine Tb ?_; refine zT ?_; refine bP rfl ?_; refine nI ?_; refine J5 ?_
            refine bE Tryz.results197 (fun w hw => ?_)
            exact ⟨by simp only [Nd.own, beq_iff_eq, *, if_true, if_false]; rfl, hw.done⟩
          · refine kW ?_; refine lQ ?_
            refine bC (fun c19 => ?_) (fun c19 => ?_)
            · refine bP rfl ?_; refine eC [(0, []), (1, []), (2, []), (3, []), (4, []), (5, []), (6, []), (7, [3, 5]), (8, []), (9, [5]), (10, []), (11, [])] ?_; refine lH ?_; refine lH ?_; refine lH ?_; refine aU ?_; refine Tb ?_; refine Tb ?_; refine zT ?_; refine fK ?_; refine iI ?_; refine uM ?_; refine bP rfl ?_; refine nI ?_; refine J5 ?_
              refine bE Tryz.results197 (fun w hw => ?_)
              exact ⟨by simp only [Nd.own, beq_iff_eq, *, if_true, if_false]; rfl, hw.done⟩
            · refine aZ ?_; refine lQ ?_
              refine bC (fun c21 => ?_) (fun c21 => ?_)
              · refine bP rfl ?_; refine iI ?_; refine uM ?_; refine bP rfl ?_; refine nI ?_; refine J5 ?_
                refine bE Tryz.results197 (fun w hw => ?_)
                exact ⟨by simp only [Nd.own, beq_iff_eq, *, if_true, if_false]; rfl, hw.done⟩
              · refine aZ ?_; refine bP rfl ?_; refine nI ?_; refine J5 ?_
                refine bE Tryz.results197 (fun w hw => ?_)
                exact ⟨by simp only [Nd.own, beq_iff_eq, *, if_true, if_false]; rfl, hw.done⟩
end
end Go.Proofs.YtbajmaoegmbfgaaGreat
