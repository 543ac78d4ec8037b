/- Alloc of the two memories. -/
import Derived.Test.YtpobgmdalcpomaaGreatGNode2
set_option linter.unusedSimpArgs false
set_option linter.unusedVariables false
namespace Go.Proofs.YtpobgmdalcpomaaGreat
open Go.RowKit Go.Ct
variable{w:World}{D:List Nat}{b:Nat}{L:List aQ}{cs:List Int}{gen acc:Int}{pn pc:Option Addr}{cn cc:Nat}{A:Fr}
theorem qT {n : Nd} {xs : List Int} {ys : List Pr} (init : Int) (hs : SF w D [(b, mO L cs gen acc pn cn pc cc)] [(n.brA, aJ xs), (n.prA, dI ys)] [] (mW L cs pn cn pc cc) w) (e1 : n.brN = xs.length) (e2 : n.prN = ys.length) (h1 : xs.length ≤ 274877906944) (h2 : ys.length ≤ 274877906944)
    (hl : L.length ≤ 274877906944) (hc : cs.length ≤ 274877906944) :
    Calls Tryz.prog 17 #[.pointer (some ⟨b, 0, none⟩), n.v, .int .i64 init] w fun e w' => ∃ x : AX, e = .returned (.int .i64 ((L.length + 1 : Nat) : Int)) ∧ True ∧
      SF w D [(b, mO (L ++ [gK n xs ys cs.length x]) (eQ n.kind cs init) gen acc x.pn x.cn x.pc x.cc)] [] (gK n xs ys cs.length x).fr (mW (L ++ [gK n xs ys cs.length x]) (eQ n.kind cs init) x.pn x.cn x.pc x.cc) w' := by
  refine enter Tryz.func17 Tryz.ntmps17 rfl rfl (xQ hs) ?_
  simp only [dB]
  simp only [Nd.v, Nd.cells]
  all_goals (refine J0 ?_; refine bM (fun x4 => ?_); refine J1 ?_; refine J0 ?_; refine aE ?_; refine nA (fun _ => ?_); refine aE ?_; refine nA (fun _ => ?_); refine qS ?_; refine Aj ?_; refine aN ?_; refine cZ ?_; refine kK ?_)
  all_goals
   refine bF (fun c12 => ?_) (fun c12 => ?_)
   · try exact nv c12
     all_goals try (exfalso; omega)
     all_goals (refine Fk ?_; (refine aF (cM (hc := fun w hs => iH init hs hc)) (fun x16 => ?_); try (refine aB (fun h16 => ?_))); refine qS ?_; refine eV ?_; refine J0 ?_; refine eY (fun x32 => ?_); refine J3 ?_; (refine dM (fun x35 => ?_); try (refine aB (fun h35 => ?_))); refine qS ?_; refine J0 ?_; refine eY (fun x37 => ?_); refine J3 ?_; (refine dM (fun x40 => ?_); try (refine aB (fun h40 => ?_))); refine qS ?_; refine aT ?_; refine dL [(0, []), (1, []), (2, []), (3, []), (4, []), (5, []), (6, []), (7, [5]), (8, []), (9, []), (10, []), (11, []), (12, [])] ?_; refine aL ?_; refine tO ?_; refine bT ?_; refine bB (h := fun x49 => ?_); ((refine bA (i := 8) (hq := (aP.eL (fT (sz := 14) rf rf dZ (by rw [eM]) fin rfl rfl Lo rfl (by decide) fG om) dV)) (h := fun x50 => ?_); try (refine aK (fun h50 => ?_)))); refine J4 ?_; refine aX ?_; refine wW ?_; refine wV ?_; refine Gh ?_; refine J1 ?_)
     all_goals
      refine aR Tryz.results17 (fun w hw => ?_)
      have h2 := (hw.freeze .head).freeze .head
      simp only [oO, List.nil_append] at h2
      have h3 := h2.aV (H' := [(b, _)]) (F' := [(x35.1, aJ xs), (x40.1, dI ys)]) (O' := [_, _])
      first | exact ⟨⟨x50.1, x50.2, x16.1, x16.2, x35.1, x35.2, x40.1, x40.2⟩, rfl, trivial, by simpa [mO, aO, mW, gK, aQ.fr, eQ, cD, Nd.cells, *] using h3⟩ | exact ⟨⟨x50.1, x50.2, x24.1, x24.2, x35.1, x35.2, x40.1, x40.2⟩, rfl, trivial, by simpa [mO, aO, mW, gK, aQ.fr, eQ, cD, Nd.cells, *] using h3⟩ | exact ⟨⟨x50.1, x50.2, x30.1, x30.2, x35.1, x35.2, x40.1, x40.2⟩, rfl, trivial, by simpa [mO, aO, mW, gK, aQ.fr, eQ, cD, Nd.cells, *] using h3⟩ | exact ⟨⟨x50.1, x50.2, pc, cc, x35.1, x35.2, x40.1, x40.2⟩, rfl, trivial, by simpa [mO, aO, mW, gK, aQ.fr, eQ, cD, Nd.cells, *] using h3⟩
   · try exact nv c12
     all_goals try (exfalso; omega)
     all_goals (refine aT ?_; refine kK ?_)
     all_goals
      refine bF (fun c18 => ?_) (fun c18 => ?_)
      · try exact nv c18
        all_goals try (exfalso; omega)
        all_goals refine aZ ?_
        all_goals
         refine bF (fun c18 => ?_) (fun c18 => ?_)
         · try exact nv c18
           all_goals try (exfalso; omega)
           all_goals (refine Fk ?_; (refine aF (cM (hc := fun w hs => iH init hs hc)) (fun x24 => ?_); try (refine aB (fun h24 => ?_))); refine qS ?_; refine eV ?_; refine J0 ?_; refine eY (fun x32 => ?_); refine J3 ?_; (refine dM (fun x35 => ?_); try (refine aB (fun h35 => ?_))); refine qS ?_; refine J0 ?_; refine eY (fun x37 => ?_); refine J3 ?_; (refine dM (fun x40 => ?_); try (refine aB (fun h40 => ?_))); refine qS ?_; refine aT ?_; refine dL [(0, []), (1, []), (2, []), (3, []), (4, []), (5, []), (6, []), (7, [5]), (8, []), (9, []), (10, []), (11, []), (12, [])] ?_; refine aL ?_; refine tO ?_; refine bT ?_; refine bB (h := fun x49 => ?_); ((refine bA (i := 8) (hq := (aP.eL (fT (sz := 14) rf rf dZ (by rw [eM]) fin rfl rfl Lo rfl (by decide) fG om) dV)) (h := fun x50 => ?_); try (refine aK (fun h50 => ?_)))); refine J4 ?_; refine aX ?_; refine wW ?_; refine wV ?_; refine Gh ?_; refine J1 ?_)
           all_goals
            refine aR Tryz.results17 (fun w hw => ?_)
            have h2 := (hw.freeze .head).freeze .head
            simp only [oO, List.nil_append] at h2
            have h3 := h2.aV (H' := [(b, _)]) (F' := [(x35.1, aJ xs), (x40.1, dI ys)]) (O' := [_, _])
            first | exact ⟨⟨x50.1, x50.2, x16.1, x16.2, x35.1, x35.2, x40.1, x40.2⟩, rfl, trivial, by simpa [mO, aO, mW, gK, aQ.fr, eQ, cD, Nd.cells, *] using h3⟩ | exact ⟨⟨x50.1, x50.2, x24.1, x24.2, x35.1, x35.2, x40.1, x40.2⟩, rfl, trivial, by simpa [mO, aO, mW, gK, aQ.fr, eQ, cD, Nd.cells, *] using h3⟩ | exact ⟨⟨x50.1, x50.2, x30.1, x30.2, x35.1, x35.2, x40.1, x40.2⟩, rfl, trivial, by simpa [mO, aO, mW, gK, aQ.fr, eQ, cD, Nd.cells, *] using h3⟩ | exact ⟨⟨x50.1, x50.2, pc, cc, x35.1, x35.2, x40.1, x40.2⟩, rfl, trivial, by simpa [mO, aO, mW, gK, aQ.fr, eQ, cD, Nd.cells, *] using h3⟩
         · try exact nv c18
           all_goals try (exfalso; omega)
           all_goals refine kK ?_
           all_goals
            refine bF (fun c26 => ?_) (fun c26 => ?_)
            · try exact nv c26
              all_goals try (exfalso; omega)
              all_goals (refine Fk ?_; (refine aF (cM (hc := fun w hs => iH init hs hc)) (fun x30 => ?_); try (refine aB (fun h30 => ?_))); refine qS ?_; refine eV ?_; refine J0 ?_; refine eY (fun x32 => ?_); refine J3 ?_; (refine dM (fun x35 => ?_); try (refine aB (fun h35 => ?_))); refine qS ?_; refine J0 ?_; refine eY (fun x37 => ?_); refine J3 ?_; (refine dM (fun x40 => ?_); try (refine aB (fun h40 => ?_))); refine qS ?_; refine aT ?_; refine dL [(0, []), (1, []), (2, []), (3, []), (4, []), (5, []), (6, []), (7, [5]), (8, []), (9, []), (10, []), (11, []), (12, [])] ?_; refine aL ?_; refine tO ?_; refine bT ?_; refine bB (h := fun x49 => ?_); ((refine bA (i := 8) (hq := (aP.eL (fT (sz := 14) rf rf dZ (by rw [eM]) fin rfl rfl Lo rfl (by decide) fG om) dV)) (h := fun x50 => ?_); try (refine aK (fun h50 => ?_)))); refine J4 ?_; refine aX ?_; refine wW ?_; refine wV ?_; refine Gh ?_; refine J1 ?_)
              all_goals
               refine aR Tryz.results17 (fun w hw => ?_)
               have h2 := (hw.freeze .head).freeze .head
               simp only [oO, List.nil_append] at h2
               have h3 := h2.aV (H' := [(b, _)]) (F' := [(x35.1, aJ xs), (x40.1, dI ys)]) (O' := [_, _])
               first | exact ⟨⟨x50.1, x50.2, x16.1, x16.2, x35.1, x35.2, x40.1, x40.2⟩, rfl, trivial, by simpa [mO, aO, mW, gK, aQ.fr, eQ, cD, Nd.cells, *] using h3⟩ | exact ⟨⟨x50.1, x50.2, x24.1, x24.2, x35.1, x35.2, x40.1, x40.2⟩, rfl, trivial, by simpa [mO, aO, mW, gK, aQ.fr, eQ, cD, Nd.cells, *] using h3⟩ | exact ⟨⟨x50.1, x50.2, x30.1, x30.2, x35.1, x35.2, x40.1, x40.2⟩, rfl, trivial, by simpa [mO, aO, mW, gK, aQ.fr, eQ, cD, Nd.cells, *] using h3⟩ | exact ⟨⟨x50.1, x50.2, pc, cc, x35.1, x35.2, x40.1, x40.2⟩, rfl, trivial, by simpa [mO, aO, mW, gK, aQ.fr, eQ, cD, Nd.cells, *] using h3⟩
            · try exact nv c26
              all_goals try (exfalso; omega)
              all_goals (refine mN ?_; refine J0 ?_; refine eY (fun x32 => ?_); refine J3 ?_; (refine dM (fun x35 => ?_); try (refine aB (fun h35 => ?_))); refine qS ?_; refine J0 ?_; refine eY (fun x37 => ?_); refine J3 ?_; (refine dM (fun x40 => ?_); try (refine aB (fun h40 => ?_))); refine qS ?_; refine aT ?_; refine dL [(0, []), (1, []), (2, []), (3, []), (4, []), (5, []), (6, []), (7, [5]), (8, []), (9, []), (10, []), (11, []), (12, [])] ?_; refine aL ?_; refine tO ?_; refine bT ?_; refine bB (h := fun x49 => ?_); ((refine bA (i := 8) (hq := (aP.eL (fT (sz := 14) rf rf dZ (by rw [eM]) fin rfl rfl Lo rfl (by decide) fG om) dV)) (h := fun x50 => ?_); try (refine aK (fun h50 => ?_)))); refine J4 ?_; refine aX ?_; refine wW ?_; refine wV ?_; refine Gh ?_; refine J1 ?_)
              all_goals
               refine aR Tryz.results17 (fun w hw => ?_)
               have h2 := (hw.freeze .head).freeze .head
               simp only [oO, List.nil_append] at h2
               have h3 := h2.aV (H' := [(b, _)]) (F' := [(x35.1, aJ xs), (x40.1, dI ys)]) (O' := [_, _])
               first | exact ⟨⟨x50.1, x50.2, x16.1, x16.2, x35.1, x35.2, x40.1, x40.2⟩, rfl, trivial, by simpa [mO, aO, mW, gK, aQ.fr, eQ, cD, Nd.cells, *] using h3⟩ | exact ⟨⟨x50.1, x50.2, x24.1, x24.2, x35.1, x35.2, x40.1, x40.2⟩, rfl, trivial, by simpa [mO, aO, mW, gK, aQ.fr, eQ, cD, Nd.cells, *] using h3⟩ | exact ⟨⟨x50.1, x50.2, x30.1, x30.2, x35.1, x35.2, x40.1, x40.2⟩, rfl, trivial, by simpa [mO, aO, mW, gK, aQ.fr, eQ, cD, Nd.cells, *] using h3⟩ | exact ⟨⟨x50.1, x50.2, pc, cc, x35.1, x35.2, x40.1, x40.2⟩, rfl, trivial, by simpa [mO, aO, mW, gK, aQ.fr, eQ, cD, Nd.cells, *] using h3⟩
      · try exact nv c18
        all_goals try (exfalso; omega)
        all_goals refine kK ?_
        all_goals
         refine bF (fun c18 => ?_) (fun c18 => ?_)
         · try exact nv c18
           all_goals try (exfalso; omega)
           all_goals refine aZ ?_
           all_goals
            refine bF (fun c18 => ?_) (fun c18 => ?_)
            · try exact nv c18
              all_goals try (exfalso; omega)
              all_goals (refine Fk ?_; (refine aF (cM (hc := fun w hs => iH init hs hc)) (fun x24 => ?_); try (refine aB (fun h24 => ?_))); refine qS ?_; refine eV ?_; refine J0 ?_; refine eY (fun x32 => ?_); refine J3 ?_; (refine dM (fun x35 => ?_); try (refine aB (fun h35 => ?_))); refine qS ?_; refine J0 ?_; refine eY (fun x37 => ?_); refine J3 ?_; (refine dM (fun x40 => ?_); try (refine aB (fun h40 => ?_))); refine qS ?_; refine aT ?_; refine dL [(0, []), (1, []), (2, []), (3, []), (4, []), (5, []), (6, []), (7, [5]), (8, []), (9, []), (10, []), (11, []), (12, [])] ?_; refine aL ?_; refine tO ?_; refine bT ?_; refine bB (h := fun x49 => ?_); ((refine bA (i := 8) (hq := (aP.eL (fT (sz := 14) rf rf dZ (by rw [eM]) fin rfl rfl Lo rfl (by decide) fG om) dV)) (h := fun x50 => ?_); try (refine aK (fun h50 => ?_)))); refine J4 ?_; refine aX ?_; refine wW ?_; refine wV ?_; refine Gh ?_; refine J1 ?_)
              all_goals
               refine aR Tryz.results17 (fun w hw => ?_)
               have h2 := (hw.freeze .head).freeze .head
               simp only [oO, List.nil_append] at h2
               have h3 := h2.aV (H' := [(b, _)]) (F' := [(x35.1, aJ xs), (x40.1, dI ys)]) (O' := [_, _])
               first | exact ⟨⟨x50.1, x50.2, x16.1, x16.2, x35.1, x35.2, x40.1, x40.2⟩, rfl, trivial, by simpa [mO, aO, mW, gK, aQ.fr, eQ, cD, Nd.cells, *] using h3⟩ | exact ⟨⟨x50.1, x50.2, x24.1, x24.2, x35.1, x35.2, x40.1, x40.2⟩, rfl, trivial, by simpa [mO, aO, mW, gK, aQ.fr, eQ, cD, Nd.cells, *] using h3⟩ | exact ⟨⟨x50.1, x50.2, x30.1, x30.2, x35.1, x35.2, x40.1, x40.2⟩, rfl, trivial, by simpa [mO, aO, mW, gK, aQ.fr, eQ, cD, Nd.cells, *] using h3⟩ | exact ⟨⟨x50.1, x50.2, pc, cc, x35.1, x35.2, x40.1, x40.2⟩, rfl, trivial, by simpa [mO, aO, mW, gK, aQ.fr, eQ, cD, Nd.cells, *] using h3⟩
            · try exact nv c18
              all_goals try (exfalso; omega)
              all_goals refine kK ?_
              all_goals
               refine bF (fun c26 => ?_) (fun c26 => ?_)
               · try exact nv c26
                 all_goals try (exfalso; omega)
                 all_goals (refine Fk ?_; (refine aF (cM (hc := fun w hs => iH init hs hc)) (fun x30 => ?_); try (refine aB (fun h30 => ?_))); refine qS ?_; refine eV ?_; refine J0 ?_; refine eY (fun x32 => ?_); refine J3 ?_; (refine dM (fun x35 => ?_); try (refine aB (fun h35 => ?_))); refine qS ?_; refine J0 ?_; refine eY (fun x37 => ?_); refine J3 ?_; (refine dM (fun x40 => ?_); try (refine aB (fun h40 => ?_))); refine qS ?_; refine aT ?_; refine dL [(0, []), (1, []), (2, []), (3, []), (4, []), (5, []), (6, []), (7, [5]), (8, []), (9, []), (10, []), (11, []), (12, [])] ?_; refine aL ?_; refine tO ?_; refine bT ?_; refine bB (h := fun x49 => ?_); ((refine bA (i := 8) (hq := (aP.eL (fT (sz := 14) rf rf dZ (by rw [eM]) fin rfl rfl Lo rfl (by decide) fG om) dV)) (h := fun x50 => ?_); try (refine aK (fun h50 => ?_)))); refine J4 ?_; refine aX ?_; refine wW ?_; refine wV ?_; refine Gh ?_; refine J1 ?_)
                 all_goals
                  refine aR Tryz.results17 (fun w hw => ?_)
                  have h2 := (hw.freeze .head).freeze .head
                  simp only [oO, List.nil_append] at h2
                  have h3 := h2.aV (H' := [(b, _)]) (F' := [(x35.1, aJ xs), (x40.1, dI ys)]) (O' := [_, _])
                  first | exact ⟨⟨x50.1, x50.2, x16.1, x16.2, x35.1, x35.2, x40.1, x40.2⟩, rfl, trivial, by simpa [mO, aO, mW, gK, aQ.fr, eQ, cD, Nd.cells, *] using h3⟩ | exact ⟨⟨x50.1, x50.2, x24.1, x24.2, x35.1, x35.2, x40.1, x40.2⟩, rfl, trivial, by simpa [mO, aO, mW, gK, aQ.fr, eQ, cD, Nd.cells, *] using h3⟩ | exact ⟨⟨x50.1, x50.2, x30.1, x30.2, x35.1, x35.2, x40.1, x40.2⟩, rfl, trivial, by simpa [mO, aO, mW, gK, aQ.fr, eQ, cD, Nd.cells, *] using h3⟩ | exact ⟨⟨x50.1, x50.2, pc, cc, x35.1, x35.2, x40.1, x40.2⟩, rfl, trivial, by simpa [mO, aO, mW, gK, aQ.fr, eQ, cD, Nd.cells, *] using h3⟩
               · try exact nv c26
                 all_goals try (exfalso; omega)
                 all_goals (refine mN ?_; refine J0 ?_; refine eY (fun x32 => ?_); refine J3 ?_; (refine dM (fun x35 => ?_); try (refine aB (fun h35 => ?_))); refine qS ?_; refine J0 ?_; refine eY (fun x37 => ?_); refine J3 ?_; (refine dM (fun x40 => ?_); try (refine aB (fun h40 => ?_))); refine qS ?_; refine aT ?_; refine dL [(0, []), (1, []), (2, []), (3, []), (4, []), (5, []), (6, []), (7, [5]), (8, []), (9, []), (10, []), (11, []), (12, [])] ?_; refine aL ?_; refine tO ?_; refine bT ?_; refine bB (h := fun x49 => ?_); ((refine bA (i := 8) (hq := (aP.eL (fT (sz := 14) rf rf dZ (by rw [eM]) fin rfl rfl Lo rfl (by decide) fG om) dV)) (h := fun x50 => ?_); try (refine aK (fun h50 => ?_)))); refine J4 ?_; refine aX ?_; refine wW ?_; refine wV ?_; refine Gh ?_; refine J1 ?_)
                 all_goals
                  refine aR Tryz.results17 (fun w hw => ?_)
                  have h2 := (hw.freeze .head).freeze .head
                  simp only [oO, List.nil_append] at h2
                  have h3 := h2.aV (H' := [(b, _)]) (F' := [(x35.1, aJ xs), (x40.1, dI ys)]) (O' := [_, _])
                  first | exact ⟨⟨x50.1, x50.2, x16.1, x16.2, x35.1, x35.2, x40.1, x40.2⟩, rfl, trivial, by simpa [mO, aO, mW, gK, aQ.fr, eQ, cD, Nd.cells, *] using h3⟩ | exact ⟨⟨x50.1, x50.2, x24.1, x24.2, x35.1, x35.2, x40.1, x40.2⟩, rfl, trivial, by simpa [mO, aO, mW, gK, aQ.fr, eQ, cD, Nd.cells, *] using h3⟩ | exact ⟨⟨x50.1, x50.2, x30.1, x30.2, x35.1, x35.2, x40.1, x40.2⟩, rfl, trivial, by simpa [mO, aO, mW, gK, aQ.fr, eQ, cD, Nd.cells, *] using h3⟩ | exact ⟨⟨x50.1, x50.2, pc, cc, x35.1, x35.2, x40.1, x40.2⟩, rfl, trivial, by simpa [mO, aO, mW, gK, aQ.fr, eQ, cD, Nd.cells, *] using h3⟩
         · try exact nv c18
           all_goals try (exfalso; omega)
           all_goals (refine dD ?_; refine P0 ?_)
           all_goals
            refine bF (fun c18 => ?_) (fun c18 => ?_)
            · try exact nv c18
              all_goals try (exfalso; omega)
              all_goals (refine Fk ?_; (refine aF (cM (hc := fun w hs => iH init hs hc)) (fun x24 => ?_); try (refine aB (fun h24 => ?_))); refine qS ?_; refine eV ?_; refine J0 ?_; refine eY (fun x32 => ?_); refine J3 ?_; (refine dM (fun x35 => ?_); try (refine aB (fun h35 => ?_))); refine qS ?_; refine J0 ?_; refine eY (fun x37 => ?_); refine J3 ?_; (refine dM (fun x40 => ?_); try (refine aB (fun h40 => ?_))); refine qS ?_; refine aT ?_; refine dL [(0, []), (1, []), (2, []), (3, []), (4, []), (5, []), (6, []), (7, [5]), (8, []), (9, []), (10, []), (11, []), (12, [])] ?_; refine aL ?_; refine tO ?_; refine bT ?_; refine bB (h := fun x49 => ?_); ((refine bA (i := 8) (hq := (aP.eL (fT (sz := 14) rf rf dZ (by rw [eM]) fin rfl rfl Lo rfl (by decide) fG om) dV)) (h := fun x50 => ?_); try (refine aK (fun h50 => ?_)))); refine J4 ?_; refine aX ?_; refine wW ?_; refine wV ?_; refine Gh ?_; refine J1 ?_)
              all_goals
               refine aR Tryz.results17 (fun w hw => ?_)
               have h2 := (hw.freeze .head).freeze .head
               simp only [oO, List.nil_append] at h2
               have h3 := h2.aV (H' := [(b, _)]) (F' := [(x35.1, aJ xs), (x40.1, dI ys)]) (O' := [_, _])
               first | exact ⟨⟨x50.1, x50.2, x16.1, x16.2, x35.1, x35.2, x40.1, x40.2⟩, rfl, trivial, by simpa [mO, aO, mW, gK, aQ.fr, eQ, cD, Nd.cells, *] using h3⟩ | exact ⟨⟨x50.1, x50.2, x24.1, x24.2, x35.1, x35.2, x40.1, x40.2⟩, rfl, trivial, by simpa [mO, aO, mW, gK, aQ.fr, eQ, cD, Nd.cells, *] using h3⟩ | exact ⟨⟨x50.1, x50.2, x30.1, x30.2, x35.1, x35.2, x40.1, x40.2⟩, rfl, trivial, by simpa [mO, aO, mW, gK, aQ.fr, eQ, cD, Nd.cells, *] using h3⟩ | exact ⟨⟨x50.1, x50.2, pc, cc, x35.1, x35.2, x40.1, x40.2⟩, rfl, trivial, by simpa [mO, aO, mW, gK, aQ.fr, eQ, cD, Nd.cells, *] using h3⟩
            · try exact nv c18
              all_goals try (exfalso; omega)
              all_goals refine kK ?_
              all_goals
               refine bF (fun c26 => ?_) (fun c26 => ?_)
               · try exact nv c26
                 all_goals try (exfalso; omega)
                 all_goals (refine Fk ?_; (refine aF (cM (hc := fun w hs => iH init hs hc)) (fun x30 => ?_); try (refine aB (fun h30 => ?_))); refine qS ?_; refine eV ?_; refine J0 ?_; refine eY (fun x32 => ?_); refine J3 ?_; (refine dM (fun x35 => ?_); try (refine aB (fun h35 => ?_))); refine qS ?_; refine J0 ?_; refine eY (fun x37 => ?_); refine J3 ?_; (refine dM (fun x40 => ?_); try (refine aB (fun h40 => ?_))); refine qS ?_; refine aT ?_; refine dL [(0, []), (1, []), (2, []), (3, []), (4, []), (5, []), (6, []), (7, [5]), (8, []), (9, []), (10, []), (11, []), (12, [])] ?_; refine aL ?_; refine tO ?_; refine bT ?_; refine bB (h := fun x49 => ?_); ((refine bA (i := 8) (hq := (aP.eL (fT (sz := 14) rf rf dZ (by rw [eM]) fin rfl rfl Lo rfl (by decide) fG om) dV)) (h := fun x50 => ?_); try (refine aK (fun h50 => ?_)))); refine J4 ?_; refine aX ?_; refine wW ?_; refine wV ?_; refine Gh ?_; refine J1 ?_)
                 all_goals
                  refine aR Tryz.results17 (fun w hw => ?_)
                  have h2 := (hw.freeze .head).freeze .head
                  simp only [oO, List.nil_append] at h2
                  have h3 := h2.aV (H' := [(b, _)]) (F' := [(x35.1, aJ xs), (x40.1, dI ys)]) (O' := [_, _])
                  first | exact ⟨⟨x50.1, x50.2, x16.1, x16.2, x35.1, x35.2, x40.1, x40.2⟩, rfl, trivial, by simpa [mO, aO, mW, gK, aQ.fr, eQ, cD, Nd.cells, *] using h3⟩ | exact ⟨⟨x50.1, x50.2, x24.1, x24.2, x35.1, x35.2, x40.1, x40.2⟩, rfl, trivial, by simpa [mO, aO, mW, gK, aQ.fr, eQ, cD, Nd.cells, *] using h3⟩ | exact ⟨⟨x50.1, x50.2, x30.1, x30.2, x35.1, x35.2, x40.1, x40.2⟩, rfl, trivial, by simpa [mO, aO, mW, gK, aQ.fr, eQ, cD, Nd.cells, *] using h3⟩ | exact ⟨⟨x50.1, x50.2, pc, cc, x35.1, x35.2, x40.1, x40.2⟩, rfl, trivial, by simpa [mO, aO, mW, gK, aQ.fr, eQ, cD, Nd.cells, *] using h3⟩
               · try exact nv c26
                 all_goals try (exfalso; omega)
                 all_goals (refine mN ?_; refine J0 ?_; refine eY (fun x32 => ?_); refine J3 ?_; (refine dM (fun x35 => ?_); try (refine aB (fun h35 => ?_))); refine qS ?_; refine J0 ?_; refine eY (fun x37 => ?_); refine J3 ?_; (refine dM (fun x40 => ?_); try (refine aB (fun h40 => ?_))); refine qS ?_; refine aT ?_; refine dL [(0, []), (1, []), (2, []), (3, []), (4, []), (5, []), (6, []), (7, [5]), (8, []), (9, []), (10, []), (11, []), (12, [])] ?_; refine aL ?_; refine tO ?_; refine bT ?_; refine bB (h := fun x49 => ?_); ((refine bA (i := 8) (hq := (aP.eL (fT (sz := 14) rf rf dZ (by rw [eM]) fin rfl rfl Lo rfl (by decide) fG om) dV)) (h := fun x50 => ?_); try (refine aK (fun h50 => ?_)))); refine J4 ?_; refine aX ?_; refine wW ?_; refine wV ?_; refine Gh ?_; refine J1 ?_)
                 all_goals
                  refine aR Tryz.results17 (fun w hw => ?_)
                  have h2 := (hw.freeze .head).freeze .head
                  simp only [oO, List.nil_append] at h2
                  have h3 := h2.aV (H' := [(b, _)]) (F' := [(x35.1, aJ xs), (x40.1, dI ys)]) (O' := [_, _])
                  first | exact ⟨⟨x50.1, x50.2, x16.1, x16.2, x35.1, x35.2, x40.1, x40.2⟩, rfl, trivial, by simpa [mO, aO, mW, gK, aQ.fr, eQ, cD, Nd.cells, *] using h3⟩ | exact ⟨⟨x50.1, x50.2, x24.1, x24.2, x35.1, x35.2, x40.1, x40.2⟩, rfl, trivial, by simpa [mO, aO, mW, gK, aQ.fr, eQ, cD, Nd.cells, *] using h3⟩ | exact ⟨⟨x50.1, x50.2, x30.1, x30.2, x35.1, x35.2, x40.1, x40.2⟩, rfl, trivial, by simpa [mO, aO, mW, gK, aQ.fr, eQ, cD, Nd.cells, *] using h3⟩ | exact ⟨⟨x50.1, x50.2, pc, cc, x35.1, x35.2, x40.1, x40.2⟩, rfl, trivial, by simpa [mO, aO, mW, gK, aQ.fr, eQ, cD, Nd.cells, *] using h3⟩
end Go.Proofs.YtpobgmdalcpomaaGreat
