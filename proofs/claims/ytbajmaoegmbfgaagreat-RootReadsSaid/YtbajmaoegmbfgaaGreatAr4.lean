/- Alloc of the two memories. -/
import Derived.Test.YtbajmaoegmbfgaaGreatGNode2
set_option linter.unusedSimpArgs false
set_option linter.unusedVariables false
namespace Go.Proofs.YtbajmaoegmbfgaaGreat
open Go.RowKit Go.Ct
variable{w:World}{D:List Nat}{b:Nat}{L:List aX}{cs:List Int}{gen acc:Int}{pn pc:Option Addr}{cn cc:Nat}{A:Fr}
theorem Ex {n : Nd} {xs : List Int} {ys : List Pr} (init : Int) (hs : SF w D [(b, mO L cs gen acc pn cn pc cc)] [(n.brA, aG xs), (n.prA, dW ys)] [] (mW L cs pn cn pc cc) w) (e1 : n.brN = xs.length) (e2 : n.prN = ys.length) (h1 : xs.length ≤ 274877906944) (h2 : ys.length ≤ 274877906944)
    (hl : L.length ≤ 274877906944) (hc : cs.length ≤ 274877906944) :
    Calls Tryz.prog 92 #[.pointer (some ⟨b, 0, none⟩), n.v, .int .i64 init] w fun e w' => ∃ x : AX, e = .returned (.int .i64 ((L.length + 1 : Nat) : Int)) ∧ True ∧
      SF w D [(b, mO (L ++ [gI n xs ys cs.length x]) (cY n.kind cs init) gen acc x.pn x.cn x.pc x.cc)] [] (gI n xs ys cs.length x).fr (mW (L ++ [gI n xs ys cs.length x]) (cY n.kind cs init) x.pn x.cn x.pc x.cc) w' := by
  refine enter Tryz.func92 Tryz.ntmps92 rfl rfl (yE hs) ?_
  simp only [cN]
  simp only [Nd.v, Nd.cells]
  all_goals (refine J0 ?_; refine bW (fun x4 => ?_); refine J1 ?_; refine J0 ?_; refine aE ?_; refine jD (fun _ => ?_); refine aE ?_; refine jD (fun _ => ?_); refine qB ?_; refine Cs ?_; refine aH ?_; refine dE ?_; refine lR ?_)
  all_goals
   refine bG (fun c12 => ?_) (fun c12 => ?_)
   · all_goals try (exfalso; omega)
     all_goals (refine Ic ?_; refine aC (cM (hc := fun w hs => jE init hs hc)) (fun x16 h16 => ?_); refine qB ?_; refine fT ?_; refine J0 ?_; refine fD (fun x32 => ?_); refine J3 ?_; (refine eD (fun x35 => ?_); try (refine eA (fun h35 => ?_))); refine qB ?_; refine J0 ?_; refine fD (fun x37 => ?_); refine J3 ?_; (refine eD (fun x40 => ?_); try (refine eA (fun h40 => ?_))); refine qB ?_; refine aW ?_; refine dX [(0, []), (1, []), (2, []), (3, []), (4, []), (5, []), (6, []), (7, [5]), (8, []), (9, []), (10, []), (11, []), (12, [])] ?_; refine aQ ?_; refine uD ?_; refine bR ?_; refine bL (h := fun x49 => ?_); ((refine cL (i := 8) (hq := (aM.eJ (fJ (sz := 14) rf rf dV (by rw [dJ]) fin rfl rfl Iu rfl (by decide) gK om) dU)) (h := fun x50 => ?_); try (refine cW (fun h50 => ?_)))); refine J4 ?_; refine aT ?_; refine wB ?_; refine Bt ?_; refine Hr ?_; refine J1 ?_)
     all_goals
      refine aU Tryz.results92 (fun w hw => ?_)
      have h2 := (hw.freeze .head).freeze .head
      simp only [oE, List.nil_append] at h2
      have h3 := h2.aS (H' := [(b, _)]) (F' := [(x35.1, aG xs), (x40.1, dW ys)]) (O' := [_, _])
      first | exact ⟨⟨x50.1, x50.2, x16.1, x16.2, x35.1, x35.2, x40.1, x40.2⟩, rfl, trivial, by simpa [mO, aO, mW, gI, aX.fr, cY, bH, Nd.cells, *] using h3⟩ | exact ⟨⟨x50.1, x50.2, x24.1, x24.2, x35.1, x35.2, x40.1, x40.2⟩, rfl, trivial, by simpa [mO, aO, mW, gI, aX.fr, cY, bH, Nd.cells, *] using h3⟩ | exact ⟨⟨x50.1, x50.2, x30.1, x30.2, x35.1, x35.2, x40.1, x40.2⟩, rfl, trivial, by simpa [mO, aO, mW, gI, aX.fr, cY, bH, Nd.cells, *] using h3⟩ | exact ⟨⟨x50.1, x50.2, pc, cc, x35.1, x35.2, x40.1, x40.2⟩, rfl, trivial, by simpa [mO, aO, mW, gI, aX.fr, cY, bH, Nd.cells, *] using h3⟩
   · all_goals try (exfalso; omega)
     all_goals (refine aW ?_; refine lR ?_)
     all_goals
      refine bG (fun c18 => ?_) (fun c18 => ?_)
      · all_goals try (exfalso; omega)
        all_goals refine bD ?_
        all_goals
         refine bG (fun c18 => ?_) (fun c18 => ?_)
         · all_goals try (exfalso; omega)
           all_goals (refine Ic ?_; refine aC (cM (hc := fun w hs => jE init hs hc)) (fun x24 h24 => ?_); refine qB ?_; refine fT ?_; refine J0 ?_; refine fD (fun x32 => ?_); refine J3 ?_; (refine eD (fun x35 => ?_); try (refine eA (fun h35 => ?_))); refine qB ?_; refine J0 ?_; refine fD (fun x37 => ?_); refine J3 ?_; (refine eD (fun x40 => ?_); try (refine eA (fun h40 => ?_))); refine qB ?_; refine aW ?_; refine dX [(0, []), (1, []), (2, []), (3, []), (4, []), (5, []), (6, []), (7, [5]), (8, []), (9, []), (10, []), (11, []), (12, [])] ?_; refine aQ ?_; refine uD ?_; refine bR ?_; refine bL (h := fun x49 => ?_); ((refine cL (i := 8) (hq := (aM.eJ (fJ (sz := 14) rf rf dV (by rw [dJ]) fin rfl rfl Iu rfl (by decide) gK om) dU)) (h := fun x50 => ?_); try (refine cW (fun h50 => ?_)))); refine J4 ?_; refine aT ?_; refine wB ?_; refine Bt ?_; refine Hr ?_; refine J1 ?_)
           all_goals
            refine aU Tryz.results92 (fun w hw => ?_)
            have h2 := (hw.freeze .head).freeze .head
            simp only [oE, List.nil_append] at h2
            have h3 := h2.aS (H' := [(b, _)]) (F' := [(x35.1, aG xs), (x40.1, dW ys)]) (O' := [_, _])
            first | exact ⟨⟨x50.1, x50.2, x16.1, x16.2, x35.1, x35.2, x40.1, x40.2⟩, rfl, trivial, by simpa [mO, aO, mW, gI, aX.fr, cY, bH, Nd.cells, *] using h3⟩ | exact ⟨⟨x50.1, x50.2, x24.1, x24.2, x35.1, x35.2, x40.1, x40.2⟩, rfl, trivial, by simpa [mO, aO, mW, gI, aX.fr, cY, bH, Nd.cells, *] using h3⟩ | exact ⟨⟨x50.1, x50.2, x30.1, x30.2, x35.1, x35.2, x40.1, x40.2⟩, rfl, trivial, by simpa [mO, aO, mW, gI, aX.fr, cY, bH, Nd.cells, *] using h3⟩ | exact ⟨⟨x50.1, x50.2, pc, cc, x35.1, x35.2, x40.1, x40.2⟩, rfl, trivial, by simpa [mO, aO, mW, gI, aX.fr, cY, bH, Nd.cells, *] using h3⟩
         · all_goals try (exfalso; omega)
           all_goals refine lR ?_
           all_goals
            refine bG (fun c26 => ?_) (fun c26 => ?_)
            · try exact nv c26
              all_goals try (exfalso; omega)
              all_goals (refine Ic ?_; refine aC (cM (hc := fun w hs => jE init hs hc)) (fun x30 h30 => ?_); refine qB ?_; refine fT ?_; refine J0 ?_; refine fD (fun x32 => ?_); refine J3 ?_; (refine eD (fun x35 => ?_); try (refine eA (fun h35 => ?_))); refine qB ?_; refine J0 ?_; refine fD (fun x37 => ?_); refine J3 ?_; (refine eD (fun x40 => ?_); try (refine eA (fun h40 => ?_))); refine qB ?_; refine aW ?_; refine dX [(0, []), (1, []), (2, []), (3, []), (4, []), (5, []), (6, []), (7, [5]), (8, []), (9, []), (10, []), (11, []), (12, [])] ?_; refine aQ ?_; refine uD ?_; refine bR ?_; refine bL (h := fun x49 => ?_); ((refine cL (i := 8) (hq := (aM.eJ (fJ (sz := 14) rf rf dV (by rw [dJ]) fin rfl rfl Iu rfl (by decide) gK om) dU)) (h := fun x50 => ?_); try (refine cW (fun h50 => ?_)))); refine J4 ?_; refine aT ?_; refine wB ?_; refine Bt ?_; refine Hr ?_; refine J1 ?_)
              all_goals
               refine aU Tryz.results92 (fun w hw => ?_)
               have h2 := (hw.freeze .head).freeze .head
               simp only [oE, List.nil_append] at h2
               have h3 := h2.aS (H' := [(b, _)]) (F' := [(x35.1, aG xs), (x40.1, dW ys)]) (O' := [_, _])
               first | exact ⟨⟨x50.1, x50.2, x16.1, x16.2, x35.1, x35.2, x40.1, x40.2⟩, rfl, trivial, by simpa [mO, aO, mW, gI, aX.fr, cY, bH, Nd.cells, *] using h3⟩ | exact ⟨⟨x50.1, x50.2, x24.1, x24.2, x35.1, x35.2, x40.1, x40.2⟩, rfl, trivial, by simpa [mO, aO, mW, gI, aX.fr, cY, bH, Nd.cells, *] using h3⟩ | exact ⟨⟨x50.1, x50.2, x30.1, x30.2, x35.1, x35.2, x40.1, x40.2⟩, rfl, trivial, by simpa [mO, aO, mW, gI, aX.fr, cY, bH, Nd.cells, *] using h3⟩ | exact ⟨⟨x50.1, x50.2, pc, cc, x35.1, x35.2, x40.1, x40.2⟩, rfl, trivial, by simpa [mO, aO, mW, gI, aX.fr, cY, bH, Nd.cells, *] using h3⟩
            · try exact nv c26
              all_goals try (exfalso; omega)
              all_goals (refine oD ?_; refine J0 ?_; refine fD (fun x32 => ?_); refine J3 ?_; (refine eD (fun x35 => ?_); try (refine eA (fun h35 => ?_))); refine qB ?_; refine J0 ?_; refine fD (fun x37 => ?_); refine J3 ?_; (refine eD (fun x40 => ?_); try (refine eA (fun h40 => ?_))); refine qB ?_; refine aW ?_; refine dX [(0, []), (1, []), (2, []), (3, []), (4, []), (5, []), (6, []), (7, [5]), (8, []), (9, []), (10, []), (11, []), (12, [])] ?_; refine aQ ?_; refine uD ?_; refine bR ?_; refine bL (h := fun x49 => ?_); ((refine cL (i := 8) (hq := (aM.eJ (fJ (sz := 14) rf rf dV (by rw [dJ]) fin rfl rfl Iu rfl (by decide) gK om) dU)) (h := fun x50 => ?_); try (refine cW (fun h50 => ?_)))); refine J4 ?_; refine aT ?_; refine wB ?_; refine Bt ?_; refine Hr ?_; refine J1 ?_)
              all_goals
               refine aU Tryz.results92 (fun w hw => ?_)
               have h2 := (hw.freeze .head).freeze .head
               simp only [oE, List.nil_append] at h2
               have h3 := h2.aS (H' := [(b, _)]) (F' := [(x35.1, aG xs), (x40.1, dW ys)]) (O' := [_, _])
               first | exact ⟨⟨x50.1, x50.2, x16.1, x16.2, x35.1, x35.2, x40.1, x40.2⟩, rfl, trivial, by simpa [mO, aO, mW, gI, aX.fr, cY, bH, Nd.cells, *] using h3⟩ | exact ⟨⟨x50.1, x50.2, x24.1, x24.2, x35.1, x35.2, x40.1, x40.2⟩, rfl, trivial, by simpa [mO, aO, mW, gI, aX.fr, cY, bH, Nd.cells, *] using h3⟩ | exact ⟨⟨x50.1, x50.2, x30.1, x30.2, x35.1, x35.2, x40.1, x40.2⟩, rfl, trivial, by simpa [mO, aO, mW, gI, aX.fr, cY, bH, Nd.cells, *] using h3⟩ | exact ⟨⟨x50.1, x50.2, pc, cc, x35.1, x35.2, x40.1, x40.2⟩, rfl, trivial, by simpa [mO, aO, mW, gI, aX.fr, cY, bH, Nd.cells, *] using h3⟩
      · all_goals try (exfalso; omega)
        all_goals refine lR ?_
        all_goals
         refine bG (fun c18 => ?_) (fun c18 => ?_)
         · all_goals try (exfalso; omega)
           all_goals refine bD ?_
           all_goals
            refine bG (fun c18 => ?_) (fun c18 => ?_)
            · all_goals try (exfalso; omega)
              all_goals (refine Ic ?_; refine aC (cM (hc := fun w hs => jE init hs hc)) (fun x24 h24 => ?_); refine qB ?_; refine fT ?_; refine J0 ?_; refine fD (fun x32 => ?_); refine J3 ?_; (refine eD (fun x35 => ?_); try (refine eA (fun h35 => ?_))); refine qB ?_; refine J0 ?_; refine fD (fun x37 => ?_); refine J3 ?_; (refine eD (fun x40 => ?_); try (refine eA (fun h40 => ?_))); refine qB ?_; refine aW ?_; refine dX [(0, []), (1, []), (2, []), (3, []), (4, []), (5, []), (6, []), (7, [5]), (8, []), (9, []), (10, []), (11, []), (12, [])] ?_; refine aQ ?_; refine uD ?_; refine bR ?_; refine bL (h := fun x49 => ?_); ((refine cL (i := 8) (hq := (aM.eJ (fJ (sz := 14) rf rf dV (by rw [dJ]) fin rfl rfl Iu rfl (by decide) gK om) dU)) (h := fun x50 => ?_); try (refine cW (fun h50 => ?_)))); refine J4 ?_; refine aT ?_; refine wB ?_; refine Bt ?_; refine Hr ?_; refine J1 ?_)
              all_goals
               refine aU Tryz.results92 (fun w hw => ?_)
               have h2 := (hw.freeze .head).freeze .head
               simp only [oE, List.nil_append] at h2
               have h3 := h2.aS (H' := [(b, _)]) (F' := [(x35.1, aG xs), (x40.1, dW ys)]) (O' := [_, _])
               first | exact ⟨⟨x50.1, x50.2, x16.1, x16.2, x35.1, x35.2, x40.1, x40.2⟩, rfl, trivial, by simpa [mO, aO, mW, gI, aX.fr, cY, bH, Nd.cells, *] using h3⟩ | exact ⟨⟨x50.1, x50.2, x24.1, x24.2, x35.1, x35.2, x40.1, x40.2⟩, rfl, trivial, by simpa [mO, aO, mW, gI, aX.fr, cY, bH, Nd.cells, *] using h3⟩ | exact ⟨⟨x50.1, x50.2, x30.1, x30.2, x35.1, x35.2, x40.1, x40.2⟩, rfl, trivial, by simpa [mO, aO, mW, gI, aX.fr, cY, bH, Nd.cells, *] using h3⟩ | exact ⟨⟨x50.1, x50.2, pc, cc, x35.1, x35.2, x40.1, x40.2⟩, rfl, trivial, by simpa [mO, aO, mW, gI, aX.fr, cY, bH, Nd.cells, *] using h3⟩
            · all_goals try (exfalso; omega)
              all_goals refine lR ?_
              all_goals
               refine bG (fun c26 => ?_) (fun c26 => ?_)
               · try exact nv c26
                 all_goals try (exfalso; omega)
                 all_goals (refine Ic ?_; refine aC (cM (hc := fun w hs => jE init hs hc)) (fun x30 h30 => ?_); refine qB ?_; refine fT ?_; refine J0 ?_; refine fD (fun x32 => ?_); refine J3 ?_; (refine eD (fun x35 => ?_); try (refine eA (fun h35 => ?_))); refine qB ?_; refine J0 ?_; refine fD (fun x37 => ?_); refine J3 ?_; (refine eD (fun x40 => ?_); try (refine eA (fun h40 => ?_))); refine qB ?_; refine aW ?_; refine dX [(0, []), (1, []), (2, []), (3, []), (4, []), (5, []), (6, []), (7, [5]), (8, []), (9, []), (10, []), (11, []), (12, [])] ?_; refine aQ ?_; refine uD ?_; refine bR ?_; refine bL (h := fun x49 => ?_); ((refine cL (i := 8) (hq := (aM.eJ (fJ (sz := 14) rf rf dV (by rw [dJ]) fin rfl rfl Iu rfl (by decide) gK om) dU)) (h := fun x50 => ?_); try (refine cW (fun h50 => ?_)))); refine J4 ?_; refine aT ?_; refine wB ?_; refine Bt ?_; refine Hr ?_; refine J1 ?_)
                 all_goals
                  refine aU Tryz.results92 (fun w hw => ?_)
                  have h2 := (hw.freeze .head).freeze .head
                  simp only [oE, List.nil_append] at h2
                  have h3 := h2.aS (H' := [(b, _)]) (F' := [(x35.1, aG xs), (x40.1, dW ys)]) (O' := [_, _])
                  first | exact ⟨⟨x50.1, x50.2, x16.1, x16.2, x35.1, x35.2, x40.1, x40.2⟩, rfl, trivial, by simpa [mO, aO, mW, gI, aX.fr, cY, bH, Nd.cells, *] using h3⟩ | exact ⟨⟨x50.1, x50.2, x24.1, x24.2, x35.1, x35.2, x40.1, x40.2⟩, rfl, trivial, by simpa [mO, aO, mW, gI, aX.fr, cY, bH, Nd.cells, *] using h3⟩ | exact ⟨⟨x50.1, x50.2, x30.1, x30.2, x35.1, x35.2, x40.1, x40.2⟩, rfl, trivial, by simpa [mO, aO, mW, gI, aX.fr, cY, bH, Nd.cells, *] using h3⟩ | exact ⟨⟨x50.1, x50.2, pc, cc, x35.1, x35.2, x40.1, x40.2⟩, rfl, trivial, by simpa [mO, aO, mW, gI, aX.fr, cY, bH, Nd.cells, *] using h3⟩
               · try exact nv c26
                 all_goals try (exfalso; omega)
                 all_goals (refine oD ?_; refine J0 ?_; refine fD (fun x32 => ?_); refine J3 ?_; (refine eD (fun x35 => ?_); try (refine eA (fun h35 => ?_))); refine qB ?_; refine J0 ?_; refine fD (fun x37 => ?_); refine J3 ?_; (refine eD (fun x40 => ?_); try (refine eA (fun h40 => ?_))); refine qB ?_; refine aW ?_; refine dX [(0, []), (1, []), (2, []), (3, []), (4, []), (5, []), (6, []), (7, [5]), (8, []), (9, []), (10, []), (11, []), (12, [])] ?_; refine aQ ?_; refine uD ?_; refine bR ?_; refine bL (h := fun x49 => ?_); ((refine cL (i := 8) (hq := (aM.eJ (fJ (sz := 14) rf rf dV (by rw [dJ]) fin rfl rfl Iu rfl (by decide) gK om) dU)) (h := fun x50 => ?_); try (refine cW (fun h50 => ?_)))); refine J4 ?_; refine aT ?_; refine wB ?_; refine Bt ?_; refine Hr ?_; refine J1 ?_)
                 all_goals
                  refine aU Tryz.results92 (fun w hw => ?_)
                  have h2 := (hw.freeze .head).freeze .head
                  simp only [oE, List.nil_append] at h2
                  have h3 := h2.aS (H' := [(b, _)]) (F' := [(x35.1, aG xs), (x40.1, dW ys)]) (O' := [_, _])
                  first | exact ⟨⟨x50.1, x50.2, x16.1, x16.2, x35.1, x35.2, x40.1, x40.2⟩, rfl, trivial, by simpa [mO, aO, mW, gI, aX.fr, cY, bH, Nd.cells, *] using h3⟩ | exact ⟨⟨x50.1, x50.2, x24.1, x24.2, x35.1, x35.2, x40.1, x40.2⟩, rfl, trivial, by simpa [mO, aO, mW, gI, aX.fr, cY, bH, Nd.cells, *] using h3⟩ | exact ⟨⟨x50.1, x50.2, x30.1, x30.2, x35.1, x35.2, x40.1, x40.2⟩, rfl, trivial, by simpa [mO, aO, mW, gI, aX.fr, cY, bH, Nd.cells, *] using h3⟩ | exact ⟨⟨x50.1, x50.2, pc, cc, x35.1, x35.2, x40.1, x40.2⟩, rfl, trivial, by simpa [mO, aO, mW, gI, aX.fr, cY, bH, Nd.cells, *] using h3⟩
         · all_goals try (exfalso; omega)
           all_goals (refine eR ?_; refine S2 ?_)
           all_goals
            refine bG (fun c18 => ?_) (fun c18 => ?_)
            · all_goals try (exfalso; omega)
              all_goals (refine Ic ?_; refine aC (cM (hc := fun w hs => jE init hs hc)) (fun x24 h24 => ?_); refine qB ?_; refine fT ?_; refine J0 ?_; refine fD (fun x32 => ?_); refine J3 ?_; (refine eD (fun x35 => ?_); try (refine eA (fun h35 => ?_))); refine qB ?_; refine J0 ?_; refine fD (fun x37 => ?_); refine J3 ?_; (refine eD (fun x40 => ?_); try (refine eA (fun h40 => ?_))); refine qB ?_; refine aW ?_; refine dX [(0, []), (1, []), (2, []), (3, []), (4, []), (5, []), (6, []), (7, [5]), (8, []), (9, []), (10, []), (11, []), (12, [])] ?_; refine aQ ?_; refine uD ?_; refine bR ?_; refine bL (h := fun x49 => ?_); ((refine cL (i := 8) (hq := (aM.eJ (fJ (sz := 14) rf rf dV (by rw [dJ]) fin rfl rfl Iu rfl (by decide) gK om) dU)) (h := fun x50 => ?_); try (refine cW (fun h50 => ?_)))); refine J4 ?_; refine aT ?_; refine wB ?_; refine Bt ?_; refine Hr ?_; refine J1 ?_)
              all_goals
               refine aU Tryz.results92 (fun w hw => ?_)
               have h2 := (hw.freeze .head).freeze .head
               simp only [oE, List.nil_append] at h2
               have h3 := h2.aS (H' := [(b, _)]) (F' := [(x35.1, aG xs), (x40.1, dW ys)]) (O' := [_, _])
               first | exact ⟨⟨x50.1, x50.2, x16.1, x16.2, x35.1, x35.2, x40.1, x40.2⟩, rfl, trivial, by simpa [mO, aO, mW, gI, aX.fr, cY, bH, Nd.cells, *] using h3⟩ | exact ⟨⟨x50.1, x50.2, x24.1, x24.2, x35.1, x35.2, x40.1, x40.2⟩, rfl, trivial, by simpa [mO, aO, mW, gI, aX.fr, cY, bH, Nd.cells, *] using h3⟩ | exact ⟨⟨x50.1, x50.2, x30.1, x30.2, x35.1, x35.2, x40.1, x40.2⟩, rfl, trivial, by simpa [mO, aO, mW, gI, aX.fr, cY, bH, Nd.cells, *] using h3⟩ | exact ⟨⟨x50.1, x50.2, pc, cc, x35.1, x35.2, x40.1, x40.2⟩, rfl, trivial, by simpa [mO, aO, mW, gI, aX.fr, cY, bH, Nd.cells, *] using h3⟩
            · all_goals try (exfalso; omega)
              all_goals refine lR ?_
              all_goals
               refine bG (fun c26 => ?_) (fun c26 => ?_)
               · all_goals try (exfalso; omega)
                 all_goals (refine Ic ?_; refine aC (cM (hc := fun w hs => jE init hs hc)) (fun x30 h30 => ?_); refine qB ?_; refine fT ?_; refine J0 ?_; refine fD (fun x32 => ?_); refine J3 ?_; (refine eD (fun x35 => ?_); try (refine eA (fun h35 => ?_))); refine qB ?_; refine J0 ?_; refine fD (fun x37 => ?_); refine J3 ?_; (refine eD (fun x40 => ?_); try (refine eA (fun h40 => ?_))); refine qB ?_; refine aW ?_; refine dX [(0, []), (1, []), (2, []), (3, []), (4, []), (5, []), (6, []), (7, [5]), (8, []), (9, []), (10, []), (11, []), (12, [])] ?_; refine aQ ?_; refine uD ?_; refine bR ?_; refine bL (h := fun x49 => ?_); ((refine cL (i := 8) (hq := (aM.eJ (fJ (sz := 14) rf rf dV (by rw [dJ]) fin rfl rfl Iu rfl (by decide) gK om) dU)) (h := fun x50 => ?_); try (refine cW (fun h50 => ?_)))); refine J4 ?_; refine aT ?_; refine wB ?_; refine Bt ?_; refine Hr ?_; refine J1 ?_)
                 all_goals
                  refine aU Tryz.results92 (fun w hw => ?_)
                  have h2 := (hw.freeze .head).freeze .head
                  simp only [oE, List.nil_append] at h2
                  have h3 := h2.aS (H' := [(b, _)]) (F' := [(x35.1, aG xs), (x40.1, dW ys)]) (O' := [_, _])
                  first | exact ⟨⟨x50.1, x50.2, x16.1, x16.2, x35.1, x35.2, x40.1, x40.2⟩, rfl, trivial, by simpa [mO, aO, mW, gI, aX.fr, cY, bH, Nd.cells, *] using h3⟩ | exact ⟨⟨x50.1, x50.2, x24.1, x24.2, x35.1, x35.2, x40.1, x40.2⟩, rfl, trivial, by simpa [mO, aO, mW, gI, aX.fr, cY, bH, Nd.cells, *] using h3⟩ | exact ⟨⟨x50.1, x50.2, x30.1, x30.2, x35.1, x35.2, x40.1, x40.2⟩, rfl, trivial, by simpa [mO, aO, mW, gI, aX.fr, cY, bH, Nd.cells, *] using h3⟩ | exact ⟨⟨x50.1, x50.2, pc, cc, x35.1, x35.2, x40.1, x40.2⟩, rfl, trivial, by simpa [mO, aO, mW, gI, aX.fr, cY, bH, Nd.cells, *] using h3⟩
               · all_goals try (exfalso; omega)
                 all_goals (refine oD ?_; refine J0 ?_; refine fD (fun x32 => ?_); refine J3 ?_; (refine eD (fun x35 => ?_); try (refine eA (fun h35 => ?_))); refine qB ?_; refine J0 ?_; refine fD (fun x37 => ?_); refine J3 ?_; (refine eD (fun x40 => ?_); try (refine eA (fun h40 => ?_))); refine qB ?_; refine aW ?_; refine dX [(0, []), (1, []), (2, []), (3, []), (4, []), (5, []), (6, []), (7, [5]), (8, []), (9, []), (10, []), (11, []), (12, [])] ?_; refine aQ ?_; refine uD ?_; refine bR ?_; refine bL (h := fun x49 => ?_); ((refine cL (i := 8) (hq := (aM.eJ (fJ (sz := 14) rf rf dV (by rw [dJ]) fin rfl rfl Iu rfl (by decide) gK om) dU)) (h := fun x50 => ?_); try (refine cW (fun h50 => ?_)))); refine J4 ?_; refine aT ?_; refine wB ?_; refine Bt ?_; refine Hr ?_; refine J1 ?_)
                 all_goals
                  refine aU Tryz.results92 (fun w hw => ?_)
                  have h2 := (hw.freeze .head).freeze .head
                  simp only [oE, List.nil_append] at h2
                  have h3 := h2.aS (H' := [(b, _)]) (F' := [(x35.1, aG xs), (x40.1, dW ys)]) (O' := [_, _])
                  first | exact ⟨⟨x50.1, x50.2, x16.1, x16.2, x35.1, x35.2, x40.1, x40.2⟩, rfl, trivial, by simpa [mO, aO, mW, gI, aX.fr, cY, bH, Nd.cells, *] using h3⟩ | exact ⟨⟨x50.1, x50.2, x24.1, x24.2, x35.1, x35.2, x40.1, x40.2⟩, rfl, trivial, by simpa [mO, aO, mW, gI, aX.fr, cY, bH, Nd.cells, *] using h3⟩ | exact ⟨⟨x50.1, x50.2, x30.1, x30.2, x35.1, x35.2, x40.1, x40.2⟩, rfl, trivial, by simpa [mO, aO, mW, gI, aX.fr, cY, bH, Nd.cells, *] using h3⟩ | exact ⟨⟨x50.1, x50.2, pc, cc, x35.1, x35.2, x40.1, x40.2⟩, rfl, trivial, by simpa [mO, aO, mW, gI, aX.fr, cY, bH, Nd.cells, *] using h3⟩
theorem nI{m c:Nat}{p:Option Addr}{v1 v2 v3:Value}(hs:SF w D [(b,.cells ⟨[.slice p m c,v1,v2,v3]⟩ 139 (0,0))] A [] [] w)(hl:m<=274877906945):Calls Tryz.prog 81 #[.pointer (some ⟨b,0,none⟩)] w λ e w'=>∃q:Unit,e=.returned (.int .i64 ((m+2:Nat):Int))/\True /\
  SF w D [(b,.cells ⟨[.slice p m c,v1,v2,v3]⟩ 139 (0,0))] [] [] [] w':=by
 refine enter Tryz.func81 Tryz.ntmps81 rfl rfl hs ?_
 simp only[cN]
 all_goals (refine dC ?_;refine kY ?_;refine eH ?_;refine Gk ?_;refine J1 ?_)
 all_goals
 refine aU Tryz.results81 (λ w hw=>?_)
 exact⟨(),by rw[show(2:Int)+(m:Int)=((m+2:Nat):Int) by omega];rfl,trivial,hw.aS⟩
theorem Yx {n : Nd} {xs : List Int} {ys : List Pr} (init : Int) (hs : SF w D [(b, aO L cs gen acc pn cn pc cc)] [(n.brA, aG xs), (n.prA, dW ys)] [] (mW L cs pn cn pc cc) w) (e1 : n.brN = xs.length) (e2 : n.prN = ys.length) (h1 : xs.length ≤ 274877906944) (h2 : ys.length ≤ 274877906944)
    (hl : L.length ≤ 274877906944) (hc : cs.length ≤ 274877906944) :
    Calls Tryz.prog 29 #[.pointer (some ⟨b, 0, none⟩), n.v, .int .i64 init] w fun e w' => ∃ x : AX, e = .returned (.int .i64 ((L.length + 3 : Nat) : Int)) ∧ True ∧
      SF w D [(b, aO (L ++ [gI n xs ys cs.length x]) (cY n.kind cs init) gen acc x.pn x.cn x.pc x.cc)] [] (gI n xs ys cs.length x).fr (mW (L ++ [gI n xs ys cs.length x]) (cY n.kind cs init) x.pn x.cn x.pc x.cc) w' := by
  refine enter Tryz.func29 Tryz.ntmps29 rfl rfl (yB hs) ?_
  simp only [cN]
  simp only [Nd.v, Nd.cells]
  all_goals (refine J0 ?_; refine bW (fun x4 => ?_); refine J1 ?_; refine qF ?_; refine aC (cF (V := fun p : Option Addr × Option Addr => .agg ⟨[.int .i64 n.kind, .int .i64 n.gen, .int .i64 n.main, .int .u64 n.bm, .slice p.1 n.brN xs.length, .int .u64 n.hash, .string n.key, .int .u64 n.val, .slice p.2 n.prN ys.length, .int .i64 n.prev, .int .i64 n.bF, .int .i64 n.exp, .int .i64 n.new, .int .i64 n.status]⟩) (hc := fun w1 hw => U8 (n := n) ⟨e1, e2, hw.cl (.bF .head), hw.cl (.bF (.tail .head)), by omega, by omega⟩ (by omega) (by omega))) (fun x8 h8 => ?_); refine J5 ?_; refine J0 ?_; refine aE ?_; refine jD (fun _ => ?_); refine aE ?_; refine jD (fun _ => ?_); refine qB ?_; refine Da ?_; refine iZ ?_; refine S2 ?_)
  all_goals
   refine bG (fun c12 => ?_) (fun c12 => ?_)
   · all_goals try (exfalso; omega)
     all_goals (refine Ic ?_; refine aC (cM (hc := fun w hs => yY init hs hc)) (fun x18 h18 => ?_); refine qB ?_; refine fT ?_; refine aW ?_; refine dX [(0, []), (1, []), (2, []), (3, []), (4, []), (5, []), (6, [4]), (7, []), (8, []), (9, []), (10, [])] ?_; refine Qh ?_; refine bR ?_; refine bL (h := fun x41 => ?_); ((refine cL (i := 7) (hq := (aM.eJ (fJ (sz := 14) rf rf dV (by rw [dJ]) fin rfl rfl Iu rfl (by decide) gK om) dU)) (h := fun x42 => ?_); try (refine cW (fun h42 => ?_)))); refine iy ?_; refine J2 ?_; refine aC (cM (hc := fun w hs => nI (m := L.length + 1) hs (by omega))) (fun x46 h46 => ?_); refine J1 ?_)
     all_goals
      refine aU Tryz.results29 (fun w hw => ?_)
      have h3 := hw.aS (H' := [(b, _)]) (F' := [(x8.1, aG xs), (x8.2, dW ys)]) (O' := [_, _])
      first | exact ⟨⟨x42.1, x42.2, x18.1, x18.2, x8.1, xs.length, x8.2, ys.length⟩, rfl, trivial, by simpa [mO, aO, mW, gI, aX.fr, cY, bH, Nd.cells, *] using h3⟩ | exact ⟨⟨x42.1, x42.2, x25.1, x25.2, x8.1, xs.length, x8.2, ys.length⟩, rfl, trivial, by simpa [mO, aO, mW, gI, aX.fr, cY, bH, Nd.cells, *] using h3⟩ | exact ⟨⟨x42.1, x42.2, x33.1, x33.2, x8.1, xs.length, x8.2, ys.length⟩, rfl, trivial, by simpa [mO, aO, mW, gI, aX.fr, cY, bH, Nd.cells, *] using h3⟩ | exact ⟨⟨x42.1, x42.2, pc, cc, x8.1, xs.length, x8.2, ys.length⟩, rfl, trivial, by simpa [mO, aO, mW, gI, aX.fr, cY, bH, Nd.cells, *] using h3⟩
   · all_goals try (exfalso; omega)
     all_goals (refine qF ?_; refine aC (c0 (V := .bool) (hc := fun w1 hw => Q1 ({ n with main := 0, prev := 0, status := 0, brA := x8.1, brC := xs.length, prA := x8.2, dW := ys.length } : Nd) w1)) (fun x22 h22 => ?_); refine J1 ?_)
     all_goals
      refine bG (fun c20 => ?_) (fun c20 => ?_)
      · all_goals try (exfalso; omega)
        all_goals
         have k22 : n.kind = 3 ∨ n.kind = 5 ∨ n.kind = 6 := h22.1 c20
         rcases k22 with k22 | k22 | k22
        all_goals (refine Ic ?_; refine aC (cM (hc := fun w hs => yY init hs hc)) (fun x25 h25 => ?_); refine qB ?_; refine fT ?_; refine aW ?_; refine dX [(0, []), (1, []), (2, []), (3, []), (4, []), (5, []), (6, [4]), (7, []), (8, []), (9, []), (10, [])] ?_; refine Qh ?_; refine bR ?_; refine bL (h := fun x41 => ?_); ((refine cL (i := 7) (hq := (aM.eJ (fJ (sz := 14) rf rf dV (by rw [dJ]) fin rfl rfl Iu rfl (by decide) gK om) dU)) (h := fun x42 => ?_); try (refine cW (fun h42 => ?_)))); refine iy ?_; refine J2 ?_; refine aC (cM (hc := fun w hs => nI (m := L.length + 1) hs (by omega))) (fun x46 h46 => ?_); refine J1 ?_)
        all_goals
         refine aU Tryz.results29 (fun w hw => ?_)
         have h3 := hw.aS (H' := [(b, _)]) (F' := [(x8.1, aG xs), (x8.2, dW ys)]) (O' := [_, _])
         first | exact ⟨⟨x42.1, x42.2, x18.1, x18.2, x8.1, xs.length, x8.2, ys.length⟩, rfl, trivial, by simpa [mO, aO, mW, gI, aX.fr, cY, bH, Nd.cells, *] using h3⟩ | exact ⟨⟨x42.1, x42.2, x25.1, x25.2, x8.1, xs.length, x8.2, ys.length⟩, rfl, trivial, by simpa [mO, aO, mW, gI, aX.fr, cY, bH, Nd.cells, *] using h3⟩ | exact ⟨⟨x42.1, x42.2, x33.1, x33.2, x8.1, xs.length, x8.2, ys.length⟩, rfl, trivial, by simpa [mO, aO, mW, gI, aX.fr, cY, bH, Nd.cells, *] using h3⟩ | exact ⟨⟨x42.1, x42.2, pc, cc, x8.1, xs.length, x8.2, ys.length⟩, rfl, trivial, by simpa [mO, aO, mW, gI, aX.fr, cY, bH, Nd.cells, *] using h3⟩
      · all_goals try (exfalso; omega)
        all_goals
         have k22 : ¬ (n.kind = 3 ∨ n.kind = 5 ∨ n.kind = 6) := fun k => by rw [h22.2 k] at c20; cases c20
         obtain ⟨k3, k56⟩ := not_or.1 k22
         obtain ⟨k5, k6⟩ := not_or.1 k56
        all_goals (refine iZ ?_; refine S2 ?_)
        all_goals
         refine bG (fun c27 => ?_) (fun c27 => ?_)
         · all_goals try (exfalso; omega)
           all_goals (refine Ic ?_; refine aC (cM (hc := fun w hs => yY init hs hc)) (fun x33 h33 => ?_); refine qB ?_; refine fT ?_; refine aW ?_; refine dX [(0, []), (1, []), (2, []), (3, []), (4, []), (5, []), (6, [4]), (7, []), (8, []), (9, []), (10, [])] ?_; refine Qh ?_; refine bR ?_; refine bL (h := fun x41 => ?_); ((refine cL (i := 7) (hq := (aM.eJ (fJ (sz := 14) rf rf dV (by rw [dJ]) fin rfl rfl Iu rfl (by decide) gK om) dU)) (h := fun x42 => ?_); try (refine cW (fun h42 => ?_)))); refine iy ?_; refine J2 ?_; refine aC (cM (hc := fun w hs => nI (m := L.length + 1) hs (by omega))) (fun x46 h46 => ?_); refine J1 ?_)
           all_goals
            refine aU Tryz.results29 (fun w hw => ?_)
            have h3 := hw.aS (H' := [(b, _)]) (F' := [(x8.1, aG xs), (x8.2, dW ys)]) (O' := [_, _])
            first | exact ⟨⟨x42.1, x42.2, x18.1, x18.2, x8.1, xs.length, x8.2, ys.length⟩, rfl, trivial, by simpa [mO, aO, mW, gI, aX.fr, cY, bH, Nd.cells, *] using h3⟩ | exact ⟨⟨x42.1, x42.2, x25.1, x25.2, x8.1, xs.length, x8.2, ys.length⟩, rfl, trivial, by simpa [mO, aO, mW, gI, aX.fr, cY, bH, Nd.cells, *] using h3⟩ | exact ⟨⟨x42.1, x42.2, x33.1, x33.2, x8.1, xs.length, x8.2, ys.length⟩, rfl, trivial, by simpa [mO, aO, mW, gI, aX.fr, cY, bH, Nd.cells, *] using h3⟩ | exact ⟨⟨x42.1, x42.2, pc, cc, x8.1, xs.length, x8.2, ys.length⟩, rfl, trivial, by simpa [mO, aO, mW, gI, aX.fr, cY, bH, Nd.cells, *] using h3⟩
         · all_goals try (exfalso; omega)
           all_goals (refine oD ?_; refine aW ?_; refine dX [(0, []), (1, []), (2, []), (3, []), (4, []), (5, []), (6, [4]), (7, []), (8, []), (9, []), (10, [])] ?_; refine Qh ?_; refine bR ?_; refine bL (h := fun x41 => ?_); ((refine cL (i := 7) (hq := (aM.eJ (fJ (sz := 14) rf rf dV (by rw [dJ]) fin rfl rfl Iu rfl (by decide) gK om) dU)) (h := fun x42 => ?_); try (refine cW (fun h42 => ?_)))); refine iy ?_; refine J2 ?_; refine aC (cM (hc := fun w hs => nI (m := L.length + 1) hs (by omega))) (fun x46 h46 => ?_); refine J1 ?_)
           all_goals
            refine aU Tryz.results29 (fun w hw => ?_)
            have h3 := hw.aS (H' := [(b, _)]) (F' := [(x8.1, aG xs), (x8.2, dW ys)]) (O' := [_, _])
            first | exact ⟨⟨x42.1, x42.2, x18.1, x18.2, x8.1, xs.length, x8.2, ys.length⟩, rfl, trivial, by simpa [mO, aO, mW, gI, aX.fr, cY, bH, Nd.cells, *] using h3⟩ | exact ⟨⟨x42.1, x42.2, x25.1, x25.2, x8.1, xs.length, x8.2, ys.length⟩, rfl, trivial, by simpa [mO, aO, mW, gI, aX.fr, cY, bH, Nd.cells, *] using h3⟩ | exact ⟨⟨x42.1, x42.2, x33.1, x33.2, x8.1, xs.length, x8.2, ys.length⟩, rfl, trivial, by simpa [mO, aO, mW, gI, aX.fr, cY, bH, Nd.cells, *] using h3⟩ | exact ⟨⟨x42.1, x42.2, pc, cc, x8.1, xs.length, x8.2, ys.length⟩, rfl, trivial, by simpa [mO, aO, mW, gI, aX.fr, cY, bH, Nd.cells, *] using h3⟩
end Go.Proofs.YtbajmaoegmbfgaaGreat
