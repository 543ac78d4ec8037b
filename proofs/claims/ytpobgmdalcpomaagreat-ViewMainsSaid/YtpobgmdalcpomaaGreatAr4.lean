/- Alloc of the two memories. -/
import Derived.Test.YtpobgmdalcpomaaGreatGSlices2
set_option linter.unusedSimpArgs false
set_option linter.unusedVariables false
namespace Go.Proofs.YtpobgmdalcpomaaGreat
open Go.RowKit Go.Ct
variable{w:World}{D:List Nat}{b:Nat}{L:List NdV}{cs:List Int}{gen acc:Int}{pn pc:Option Addr}{cn cc:Nat}{A:Fr}
theorem mAlloc_c {n : Nd} {xs : List Int} {ys : List Pr} (init : Int) (hs : SF w D [(b, mO L cs gen acc pn cn pc cc)] [(n.brA, refsC xs), (n.prA, prC ys)] [] (mW L cs pn cn pc cc) w) (e1 : n.brN = xs.length) (e2 : n.prN = ys.length) (h1 : xs.length ≤ 274877906944) (h2 : ys.length ≤ 274877906944)
    (hl : L.length ≤ 274877906944) (hc : cs.length ≤ 274877906944) :
    Calls Tryz.prog 17 #[.pointer (some ⟨b, 0, none⟩), n.v, .int .i64 init] w fun e w' => ∃ x : AX, e = .returned (.int .i64 ((L.length + 1 : Nat) : Int)) ∧ True ∧
      SF w D [(b, mO (L ++ [alV n xs ys cs.length x]) (alCs n.kind cs init) gen acc x.pn x.cn x.pc x.cc)] [] (alV n xs ys cs.length x).fr (mW (L ++ [alV n xs ys cs.length x]) (alCs n.kind cs init) x.pn x.cn x.pc x.cc) w' := by
  refine enter Tryz.func17 Tryz.ntmps17 rfl rfl (mOpen hs) ?_
  simp only [mkS]
  simp only [Nd.v, Nd.cells]
  all_goals (refine J0 ?_; refine j_box (fun x4 => ?_); refine J1 ?_; refine J0 ?_; refine j_fieldAddr ?_; refine j_store (fun _ => ?_); refine j_fieldAddr ?_; refine j_store (fun _ => ?_); refine J23 ?_; refine J72 ?_; refine l_nil ?_; refine k_block ?_; refine J39 ?_)
  all_goals
   refine kif (fun c12 => ?_) (fun c12 => ?_)
   · try exact nv c12
     all_goals try (exfalso; omega)
     all_goals (refine J76 ?_; (refine j_own (cM (hc := fun w hs => mNewCell_c init hs hc)) (fun x16 => ?_); try (refine l_fact (fun h16 => ?_))); refine J23 ?_; refine k_blk ?_; refine J0 ?_; refine j_build0 (fun x32 => ?_); refine J3 ?_; (refine j_append (fun x35 => ?_); try (refine l_fact (fun h35 => ?_))); refine J23 ?_; refine J0 ?_; refine j_build0 (fun x37 => ?_); refine J3 ?_; (refine j_append (fun x40 => ?_); try (refine l_fact (fun h40 => ?_))); refine J23 ?_; refine k_seq ?_; refine k_dp [(0, []), (1, []), (2, []), (3, []), (4, []), (5, []), (6, []), (7, [5]), (8, []), (9, []), (10, []), (11, []), (12, [])] ?_; refine r_move ?_; refine J63 ?_; refine r_load ?_; refine r_buildSlice (h := fun x49 => ?_); ((refine r_own (i := 8) (hq := (Loud.convOF (o_append (sz := 14) rf rf oaT (by rw [nvC_length]) fin rfl rfl en1 rfl (by decide) sl1 om) co1)) (h := fun x50 => ?_); try (refine r_fact (fun h50 => ?_)))); refine J4 ?_; refine r_fieldAddr ?_; refine J19 ?_; refine J45 ?_; refine J85 ?_; refine J1 ?_)
     all_goals
      refine k_rv Tryz.results17 (fun w hw => ?_)
      have h2 := (hw.freeze .head).freeze .head
      simp only [delO, List.nil_append] at h2
      have h3 := h2.finH (H' := [(b, _)]) (F' := [(x35.1, refsC xs), (x40.1, prC ys)]) (O' := [_, _])
      first | exact ⟨⟨x50.1, x50.2, x16.1, x16.2, x35.1, x35.2, x40.1, x40.2⟩, rfl, trivial, by simpa [mO, aO, mW, alV, NdV.fr, alCs, nvC_push, Nd.cells, *] using h3⟩ | exact ⟨⟨x50.1, x50.2, x24.1, x24.2, x35.1, x35.2, x40.1, x40.2⟩, rfl, trivial, by simpa [mO, aO, mW, alV, NdV.fr, alCs, nvC_push, Nd.cells, *] using h3⟩ | exact ⟨⟨x50.1, x50.2, x30.1, x30.2, x35.1, x35.2, x40.1, x40.2⟩, rfl, trivial, by simpa [mO, aO, mW, alV, NdV.fr, alCs, nvC_push, Nd.cells, *] using h3⟩ | exact ⟨⟨x50.1, x50.2, pc, cc, x35.1, x35.2, x40.1, x40.2⟩, rfl, trivial, by simpa [mO, aO, mW, alV, NdV.fr, alCs, nvC_push, Nd.cells, *] using h3⟩
   · try exact nv c12
     all_goals try (exfalso; omega)
     all_goals (refine k_seq ?_; refine J39 ?_)
     all_goals
      refine kif (fun c18 => ?_) (fun c18 => ?_)
      · try exact nv c18
        all_goals try (exfalso; omega)
        all_goals refine k_skip ?_
        all_goals
         refine kif (fun c18 => ?_) (fun c18 => ?_)
         · try exact nv c18
           all_goals try (exfalso; omega)
           all_goals (refine J76 ?_; (refine j_own (cM (hc := fun w hs => mNewCell_c init hs hc)) (fun x24 => ?_); try (refine l_fact (fun h24 => ?_))); refine J23 ?_; refine k_blk ?_; refine J0 ?_; refine j_build0 (fun x32 => ?_); refine J3 ?_; (refine j_append (fun x35 => ?_); try (refine l_fact (fun h35 => ?_))); refine J23 ?_; refine J0 ?_; refine j_build0 (fun x37 => ?_); refine J3 ?_; (refine j_append (fun x40 => ?_); try (refine l_fact (fun h40 => ?_))); refine J23 ?_; refine k_seq ?_; refine k_dp [(0, []), (1, []), (2, []), (3, []), (4, []), (5, []), (6, []), (7, [5]), (8, []), (9, []), (10, []), (11, []), (12, [])] ?_; refine r_move ?_; refine J63 ?_; refine r_load ?_; refine r_buildSlice (h := fun x49 => ?_); ((refine r_own (i := 8) (hq := (Loud.convOF (o_append (sz := 14) rf rf oaT (by rw [nvC_length]) fin rfl rfl en1 rfl (by decide) sl1 om) co1)) (h := fun x50 => ?_); try (refine r_fact (fun h50 => ?_)))); refine J4 ?_; refine r_fieldAddr ?_; refine J19 ?_; refine J45 ?_; refine J85 ?_; refine J1 ?_)
           all_goals
            refine k_rv Tryz.results17 (fun w hw => ?_)
            have h2 := (hw.freeze .head).freeze .head
            simp only [delO, List.nil_append] at h2
            have h3 := h2.finH (H' := [(b, _)]) (F' := [(x35.1, refsC xs), (x40.1, prC ys)]) (O' := [_, _])
            first | exact ⟨⟨x50.1, x50.2, x16.1, x16.2, x35.1, x35.2, x40.1, x40.2⟩, rfl, trivial, by simpa [mO, aO, mW, alV, NdV.fr, alCs, nvC_push, Nd.cells, *] using h3⟩ | exact ⟨⟨x50.1, x50.2, x24.1, x24.2, x35.1, x35.2, x40.1, x40.2⟩, rfl, trivial, by simpa [mO, aO, mW, alV, NdV.fr, alCs, nvC_push, Nd.cells, *] using h3⟩ | exact ⟨⟨x50.1, x50.2, x30.1, x30.2, x35.1, x35.2, x40.1, x40.2⟩, rfl, trivial, by simpa [mO, aO, mW, alV, NdV.fr, alCs, nvC_push, Nd.cells, *] using h3⟩ | exact ⟨⟨x50.1, x50.2, pc, cc, x35.1, x35.2, x40.1, x40.2⟩, rfl, trivial, by simpa [mO, aO, mW, alV, NdV.fr, alCs, nvC_push, Nd.cells, *] using h3⟩
         · try exact nv c18
           all_goals try (exfalso; omega)
           all_goals refine J39 ?_
           all_goals
            refine kif (fun c26 => ?_) (fun c26 => ?_)
            · try exact nv c26
              all_goals try (exfalso; omega)
              all_goals (refine J76 ?_; (refine j_own (cM (hc := fun w hs => mNewCell_c init hs hc)) (fun x30 => ?_); try (refine l_fact (fun h30 => ?_))); refine J23 ?_; refine k_blk ?_; refine J0 ?_; refine j_build0 (fun x32 => ?_); refine J3 ?_; (refine j_append (fun x35 => ?_); try (refine l_fact (fun h35 => ?_))); refine J23 ?_; refine J0 ?_; refine j_build0 (fun x37 => ?_); refine J3 ?_; (refine j_append (fun x40 => ?_); try (refine l_fact (fun h40 => ?_))); refine J23 ?_; refine k_seq ?_; refine k_dp [(0, []), (1, []), (2, []), (3, []), (4, []), (5, []), (6, []), (7, [5]), (8, []), (9, []), (10, []), (11, []), (12, [])] ?_; refine r_move ?_; refine J63 ?_; refine r_load ?_; refine r_buildSlice (h := fun x49 => ?_); ((refine r_own (i := 8) (hq := (Loud.convOF (o_append (sz := 14) rf rf oaT (by rw [nvC_length]) fin rfl rfl en1 rfl (by decide) sl1 om) co1)) (h := fun x50 => ?_); try (refine r_fact (fun h50 => ?_)))); refine J4 ?_; refine r_fieldAddr ?_; refine J19 ?_; refine J45 ?_; refine J85 ?_; refine J1 ?_)
              all_goals
               refine k_rv Tryz.results17 (fun w hw => ?_)
               have h2 := (hw.freeze .head).freeze .head
               simp only [delO, List.nil_append] at h2
               have h3 := h2.finH (H' := [(b, _)]) (F' := [(x35.1, refsC xs), (x40.1, prC ys)]) (O' := [_, _])
               first | exact ⟨⟨x50.1, x50.2, x16.1, x16.2, x35.1, x35.2, x40.1, x40.2⟩, rfl, trivial, by simpa [mO, aO, mW, alV, NdV.fr, alCs, nvC_push, Nd.cells, *] using h3⟩ | exact ⟨⟨x50.1, x50.2, x24.1, x24.2, x35.1, x35.2, x40.1, x40.2⟩, rfl, trivial, by simpa [mO, aO, mW, alV, NdV.fr, alCs, nvC_push, Nd.cells, *] using h3⟩ | exact ⟨⟨x50.1, x50.2, x30.1, x30.2, x35.1, x35.2, x40.1, x40.2⟩, rfl, trivial, by simpa [mO, aO, mW, alV, NdV.fr, alCs, nvC_push, Nd.cells, *] using h3⟩ | exact ⟨⟨x50.1, x50.2, pc, cc, x35.1, x35.2, x40.1, x40.2⟩, rfl, trivial, by simpa [mO, aO, mW, alV, NdV.fr, alCs, nvC_push, Nd.cells, *] using h3⟩
            · try exact nv c26
              all_goals try (exfalso; omega)
              all_goals (refine J34 ?_; refine J0 ?_; refine j_build0 (fun x32 => ?_); refine J3 ?_; (refine j_append (fun x35 => ?_); try (refine l_fact (fun h35 => ?_))); refine J23 ?_; refine J0 ?_; refine j_build0 (fun x37 => ?_); refine J3 ?_; (refine j_append (fun x40 => ?_); try (refine l_fact (fun h40 => ?_))); refine J23 ?_; refine k_seq ?_; refine k_dp [(0, []), (1, []), (2, []), (3, []), (4, []), (5, []), (6, []), (7, [5]), (8, []), (9, []), (10, []), (11, []), (12, [])] ?_; refine r_move ?_; refine J63 ?_; refine r_load ?_; refine r_buildSlice (h := fun x49 => ?_); ((refine r_own (i := 8) (hq := (Loud.convOF (o_append (sz := 14) rf rf oaT (by rw [nvC_length]) fin rfl rfl en1 rfl (by decide) sl1 om) co1)) (h := fun x50 => ?_); try (refine r_fact (fun h50 => ?_)))); refine J4 ?_; refine r_fieldAddr ?_; refine J19 ?_; refine J45 ?_; refine J85 ?_; refine J1 ?_)
              all_goals
               refine k_rv Tryz.results17 (fun w hw => ?_)
               have h2 := (hw.freeze .head).freeze .head
               simp only [delO, List.nil_append] at h2
               have h3 := h2.finH (H' := [(b, _)]) (F' := [(x35.1, refsC xs), (x40.1, prC ys)]) (O' := [_, _])
               first | exact ⟨⟨x50.1, x50.2, x16.1, x16.2, x35.1, x35.2, x40.1, x40.2⟩, rfl, trivial, by simpa [mO, aO, mW, alV, NdV.fr, alCs, nvC_push, Nd.cells, *] using h3⟩ | exact ⟨⟨x50.1, x50.2, x24.1, x24.2, x35.1, x35.2, x40.1, x40.2⟩, rfl, trivial, by simpa [mO, aO, mW, alV, NdV.fr, alCs, nvC_push, Nd.cells, *] using h3⟩ | exact ⟨⟨x50.1, x50.2, x30.1, x30.2, x35.1, x35.2, x40.1, x40.2⟩, rfl, trivial, by simpa [mO, aO, mW, alV, NdV.fr, alCs, nvC_push, Nd.cells, *] using h3⟩ | exact ⟨⟨x50.1, x50.2, pc, cc, x35.1, x35.2, x40.1, x40.2⟩, rfl, trivial, by simpa [mO, aO, mW, alV, NdV.fr, alCs, nvC_push, Nd.cells, *] using h3⟩
      · try exact nv c18
        all_goals try (exfalso; omega)
        all_goals refine J39 ?_
        all_goals
         refine kif (fun c18 => ?_) (fun c18 => ?_)
         · try exact nv c18
           all_goals try (exfalso; omega)
           all_goals refine k_skip ?_
           all_goals
            refine kif (fun c18 => ?_) (fun c18 => ?_)
            · try exact nv c18
              all_goals try (exfalso; omega)
              all_goals (refine J76 ?_; (refine j_own (cM (hc := fun w hs => mNewCell_c init hs hc)) (fun x24 => ?_); try (refine l_fact (fun h24 => ?_))); refine J23 ?_; refine k_blk ?_; refine J0 ?_; refine j_build0 (fun x32 => ?_); refine J3 ?_; (refine j_append (fun x35 => ?_); try (refine l_fact (fun h35 => ?_))); refine J23 ?_; refine J0 ?_; refine j_build0 (fun x37 => ?_); refine J3 ?_; (refine j_append (fun x40 => ?_); try (refine l_fact (fun h40 => ?_))); refine J23 ?_; refine k_seq ?_; refine k_dp [(0, []), (1, []), (2, []), (3, []), (4, []), (5, []), (6, []), (7, [5]), (8, []), (9, []), (10, []), (11, []), (12, [])] ?_; refine r_move ?_; refine J63 ?_; refine r_load ?_; refine r_buildSlice (h := fun x49 => ?_); ((refine r_own (i := 8) (hq := (Loud.convOF (o_append (sz := 14) rf rf oaT (by rw [nvC_length]) fin rfl rfl en1 rfl (by decide) sl1 om) co1)) (h := fun x50 => ?_); try (refine r_fact (fun h50 => ?_)))); refine J4 ?_; refine r_fieldAddr ?_; refine J19 ?_; refine J45 ?_; refine J85 ?_; refine J1 ?_)
              all_goals
               refine k_rv Tryz.results17 (fun w hw => ?_)
               have h2 := (hw.freeze .head).freeze .head
               simp only [delO, List.nil_append] at h2
               have h3 := h2.finH (H' := [(b, _)]) (F' := [(x35.1, refsC xs), (x40.1, prC ys)]) (O' := [_, _])
               first | exact ⟨⟨x50.1, x50.2, x16.1, x16.2, x35.1, x35.2, x40.1, x40.2⟩, rfl, trivial, by simpa [mO, aO, mW, alV, NdV.fr, alCs, nvC_push, Nd.cells, *] using h3⟩ | exact ⟨⟨x50.1, x50.2, x24.1, x24.2, x35.1, x35.2, x40.1, x40.2⟩, rfl, trivial, by simpa [mO, aO, mW, alV, NdV.fr, alCs, nvC_push, Nd.cells, *] using h3⟩ | exact ⟨⟨x50.1, x50.2, x30.1, x30.2, x35.1, x35.2, x40.1, x40.2⟩, rfl, trivial, by simpa [mO, aO, mW, alV, NdV.fr, alCs, nvC_push, Nd.cells, *] using h3⟩ | exact ⟨⟨x50.1, x50.2, pc, cc, x35.1, x35.2, x40.1, x40.2⟩, rfl, trivial, by simpa [mO, aO, mW, alV, NdV.fr, alCs, nvC_push, Nd.cells, *] using h3⟩
            · try exact nv c18
              all_goals try (exfalso; omega)
              all_goals refine J39 ?_
              all_goals
               refine kif (fun c26 => ?_) (fun c26 => ?_)
               · try exact nv c26
                 all_goals try (exfalso; omega)
                 all_goals (refine J76 ?_; (refine j_own (cM (hc := fun w hs => mNewCell_c init hs hc)) (fun x30 => ?_); try (refine l_fact (fun h30 => ?_))); refine J23 ?_; refine k_blk ?_; refine J0 ?_; refine j_build0 (fun x32 => ?_); refine J3 ?_; (refine j_append (fun x35 => ?_); try (refine l_fact (fun h35 => ?_))); refine J23 ?_; refine J0 ?_; refine j_build0 (fun x37 => ?_); refine J3 ?_; (refine j_append (fun x40 => ?_); try (refine l_fact (fun h40 => ?_))); refine J23 ?_; refine k_seq ?_; refine k_dp [(0, []), (1, []), (2, []), (3, []), (4, []), (5, []), (6, []), (7, [5]), (8, []), (9, []), (10, []), (11, []), (12, [])] ?_; refine r_move ?_; refine J63 ?_; refine r_load ?_; refine r_buildSlice (h := fun x49 => ?_); ((refine r_own (i := 8) (hq := (Loud.convOF (o_append (sz := 14) rf rf oaT (by rw [nvC_length]) fin rfl rfl en1 rfl (by decide) sl1 om) co1)) (h := fun x50 => ?_); try (refine r_fact (fun h50 => ?_)))); refine J4 ?_; refine r_fieldAddr ?_; refine J19 ?_; refine J45 ?_; refine J85 ?_; refine J1 ?_)
                 all_goals
                  refine k_rv Tryz.results17 (fun w hw => ?_)
                  have h2 := (hw.freeze .head).freeze .head
                  simp only [delO, List.nil_append] at h2
                  have h3 := h2.finH (H' := [(b, _)]) (F' := [(x35.1, refsC xs), (x40.1, prC ys)]) (O' := [_, _])
                  first | exact ⟨⟨x50.1, x50.2, x16.1, x16.2, x35.1, x35.2, x40.1, x40.2⟩, rfl, trivial, by simpa [mO, aO, mW, alV, NdV.fr, alCs, nvC_push, Nd.cells, *] using h3⟩ | exact ⟨⟨x50.1, x50.2, x24.1, x24.2, x35.1, x35.2, x40.1, x40.2⟩, rfl, trivial, by simpa [mO, aO, mW, alV, NdV.fr, alCs, nvC_push, Nd.cells, *] using h3⟩ | exact ⟨⟨x50.1, x50.2, x30.1, x30.2, x35.1, x35.2, x40.1, x40.2⟩, rfl, trivial, by simpa [mO, aO, mW, alV, NdV.fr, alCs, nvC_push, Nd.cells, *] using h3⟩ | exact ⟨⟨x50.1, x50.2, pc, cc, x35.1, x35.2, x40.1, x40.2⟩, rfl, trivial, by simpa [mO, aO, mW, alV, NdV.fr, alCs, nvC_push, Nd.cells, *] using h3⟩
               · try exact nv c26
                 all_goals try (exfalso; omega)
                 all_goals (refine J34 ?_; refine J0 ?_; refine j_build0 (fun x32 => ?_); refine J3 ?_; (refine j_append (fun x35 => ?_); try (refine l_fact (fun h35 => ?_))); refine J23 ?_; refine J0 ?_; refine j_build0 (fun x37 => ?_); refine J3 ?_; (refine j_append (fun x40 => ?_); try (refine l_fact (fun h40 => ?_))); refine J23 ?_; refine k_seq ?_; refine k_dp [(0, []), (1, []), (2, []), (3, []), (4, []), (5, []), (6, []), (7, [5]), (8, []), (9, []), (10, []), (11, []), (12, [])] ?_; refine r_move ?_; refine J63 ?_; refine r_load ?_; refine r_buildSlice (h := fun x49 => ?_); ((refine r_own (i := 8) (hq := (Loud.convOF (o_append (sz := 14) rf rf oaT (by rw [nvC_length]) fin rfl rfl en1 rfl (by decide) sl1 om) co1)) (h := fun x50 => ?_); try (refine r_fact (fun h50 => ?_)))); refine J4 ?_; refine r_fieldAddr ?_; refine J19 ?_; refine J45 ?_; refine J85 ?_; refine J1 ?_)
                 all_goals
                  refine k_rv Tryz.results17 (fun w hw => ?_)
                  have h2 := (hw.freeze .head).freeze .head
                  simp only [delO, List.nil_append] at h2
                  have h3 := h2.finH (H' := [(b, _)]) (F' := [(x35.1, refsC xs), (x40.1, prC ys)]) (O' := [_, _])
                  first | exact ⟨⟨x50.1, x50.2, x16.1, x16.2, x35.1, x35.2, x40.1, x40.2⟩, rfl, trivial, by simpa [mO, aO, mW, alV, NdV.fr, alCs, nvC_push, Nd.cells, *] using h3⟩ | exact ⟨⟨x50.1, x50.2, x24.1, x24.2, x35.1, x35.2, x40.1, x40.2⟩, rfl, trivial, by simpa [mO, aO, mW, alV, NdV.fr, alCs, nvC_push, Nd.cells, *] using h3⟩ | exact ⟨⟨x50.1, x50.2, x30.1, x30.2, x35.1, x35.2, x40.1, x40.2⟩, rfl, trivial, by simpa [mO, aO, mW, alV, NdV.fr, alCs, nvC_push, Nd.cells, *] using h3⟩ | exact ⟨⟨x50.1, x50.2, pc, cc, x35.1, x35.2, x40.1, x40.2⟩, rfl, trivial, by simpa [mO, aO, mW, alV, NdV.fr, alCs, nvC_push, Nd.cells, *] using h3⟩
         · try exact nv c18
           all_goals try (exfalso; omega)
           all_goals (refine k_region ?_; refine J28 ?_)
           all_goals
            refine kif (fun c18 => ?_) (fun c18 => ?_)
            · try exact nv c18
              all_goals try (exfalso; omega)
              all_goals (refine J76 ?_; (refine j_own (cM (hc := fun w hs => mNewCell_c init hs hc)) (fun x24 => ?_); try (refine l_fact (fun h24 => ?_))); refine J23 ?_; refine k_blk ?_; refine J0 ?_; refine j_build0 (fun x32 => ?_); refine J3 ?_; (refine j_append (fun x35 => ?_); try (refine l_fact (fun h35 => ?_))); refine J23 ?_; refine J0 ?_; refine j_build0 (fun x37 => ?_); refine J3 ?_; (refine j_append (fun x40 => ?_); try (refine l_fact (fun h40 => ?_))); refine J23 ?_; refine k_seq ?_; refine k_dp [(0, []), (1, []), (2, []), (3, []), (4, []), (5, []), (6, []), (7, [5]), (8, []), (9, []), (10, []), (11, []), (12, [])] ?_; refine r_move ?_; refine J63 ?_; refine r_load ?_; refine r_buildSlice (h := fun x49 => ?_); ((refine r_own (i := 8) (hq := (Loud.convOF (o_append (sz := 14) rf rf oaT (by rw [nvC_length]) fin rfl rfl en1 rfl (by decide) sl1 om) co1)) (h := fun x50 => ?_); try (refine r_fact (fun h50 => ?_)))); refine J4 ?_; refine r_fieldAddr ?_; refine J19 ?_; refine J45 ?_; refine J85 ?_; refine J1 ?_)
              all_goals
               refine k_rv Tryz.results17 (fun w hw => ?_)
               have h2 := (hw.freeze .head).freeze .head
               simp only [delO, List.nil_append] at h2
               have h3 := h2.finH (H' := [(b, _)]) (F' := [(x35.1, refsC xs), (x40.1, prC ys)]) (O' := [_, _])
               first | exact ⟨⟨x50.1, x50.2, x16.1, x16.2, x35.1, x35.2, x40.1, x40.2⟩, rfl, trivial, by simpa [mO, aO, mW, alV, NdV.fr, alCs, nvC_push, Nd.cells, *] using h3⟩ | exact ⟨⟨x50.1, x50.2, x24.1, x24.2, x35.1, x35.2, x40.1, x40.2⟩, rfl, trivial, by simpa [mO, aO, mW, alV, NdV.fr, alCs, nvC_push, Nd.cells, *] using h3⟩ | exact ⟨⟨x50.1, x50.2, x30.1, x30.2, x35.1, x35.2, x40.1, x40.2⟩, rfl, trivial, by simpa [mO, aO, mW, alV, NdV.fr, alCs, nvC_push, Nd.cells, *] using h3⟩ | exact ⟨⟨x50.1, x50.2, pc, cc, x35.1, x35.2, x40.1, x40.2⟩, rfl, trivial, by simpa [mO, aO, mW, alV, NdV.fr, alCs, nvC_push, Nd.cells, *] using h3⟩
            · try exact nv c18
              all_goals try (exfalso; omega)
              all_goals refine J39 ?_
              all_goals
               refine kif (fun c26 => ?_) (fun c26 => ?_)
               · try exact nv c26
                 all_goals try (exfalso; omega)
                 all_goals (refine J76 ?_; (refine j_own (cM (hc := fun w hs => mNewCell_c init hs hc)) (fun x30 => ?_); try (refine l_fact (fun h30 => ?_))); refine J23 ?_; refine k_blk ?_; refine J0 ?_; refine j_build0 (fun x32 => ?_); refine J3 ?_; (refine j_append (fun x35 => ?_); try (refine l_fact (fun h35 => ?_))); refine J23 ?_; refine J0 ?_; refine j_build0 (fun x37 => ?_); refine J3 ?_; (refine j_append (fun x40 => ?_); try (refine l_fact (fun h40 => ?_))); refine J23 ?_; refine k_seq ?_; refine k_dp [(0, []), (1, []), (2, []), (3, []), (4, []), (5, []), (6, []), (7, [5]), (8, []), (9, []), (10, []), (11, []), (12, [])] ?_; refine r_move ?_; refine J63 ?_; refine r_load ?_; refine r_buildSlice (h := fun x49 => ?_); ((refine r_own (i := 8) (hq := (Loud.convOF (o_append (sz := 14) rf rf oaT (by rw [nvC_length]) fin rfl rfl en1 rfl (by decide) sl1 om) co1)) (h := fun x50 => ?_); try (refine r_fact (fun h50 => ?_)))); refine J4 ?_; refine r_fieldAddr ?_; refine J19 ?_; refine J45 ?_; refine J85 ?_; refine J1 ?_)
                 all_goals
                  refine k_rv Tryz.results17 (fun w hw => ?_)
                  have h2 := (hw.freeze .head).freeze .head
                  simp only [delO, List.nil_append] at h2
                  have h3 := h2.finH (H' := [(b, _)]) (F' := [(x35.1, refsC xs), (x40.1, prC ys)]) (O' := [_, _])
                  first | exact ⟨⟨x50.1, x50.2, x16.1, x16.2, x35.1, x35.2, x40.1, x40.2⟩, rfl, trivial, by simpa [mO, aO, mW, alV, NdV.fr, alCs, nvC_push, Nd.cells, *] using h3⟩ | exact ⟨⟨x50.1, x50.2, x24.1, x24.2, x35.1, x35.2, x40.1, x40.2⟩, rfl, trivial, by simpa [mO, aO, mW, alV, NdV.fr, alCs, nvC_push, Nd.cells, *] using h3⟩ | exact ⟨⟨x50.1, x50.2, x30.1, x30.2, x35.1, x35.2, x40.1, x40.2⟩, rfl, trivial, by simpa [mO, aO, mW, alV, NdV.fr, alCs, nvC_push, Nd.cells, *] using h3⟩ | exact ⟨⟨x50.1, x50.2, pc, cc, x35.1, x35.2, x40.1, x40.2⟩, rfl, trivial, by simpa [mO, aO, mW, alV, NdV.fr, alCs, nvC_push, Nd.cells, *] using h3⟩
               · try exact nv c26
                 all_goals try (exfalso; omega)
                 all_goals (refine J34 ?_; refine J0 ?_; refine j_build0 (fun x32 => ?_); refine J3 ?_; (refine j_append (fun x35 => ?_); try (refine l_fact (fun h35 => ?_))); refine J23 ?_; refine J0 ?_; refine j_build0 (fun x37 => ?_); refine J3 ?_; (refine j_append (fun x40 => ?_); try (refine l_fact (fun h40 => ?_))); refine J23 ?_; refine k_seq ?_; refine k_dp [(0, []), (1, []), (2, []), (3, []), (4, []), (5, []), (6, []), (7, [5]), (8, []), (9, []), (10, []), (11, []), (12, [])] ?_; refine r_move ?_; refine J63 ?_; refine r_load ?_; refine r_buildSlice (h := fun x49 => ?_); ((refine r_own (i := 8) (hq := (Loud.convOF (o_append (sz := 14) rf rf oaT (by rw [nvC_length]) fin rfl rfl en1 rfl (by decide) sl1 om) co1)) (h := fun x50 => ?_); try (refine r_fact (fun h50 => ?_)))); refine J4 ?_; refine r_fieldAddr ?_; refine J19 ?_; refine J45 ?_; refine J85 ?_; refine J1 ?_)
                 all_goals
                  refine k_rv Tryz.results17 (fun w hw => ?_)
                  have h2 := (hw.freeze .head).freeze .head
                  simp only [delO, List.nil_append] at h2
                  have h3 := h2.finH (H' := [(b, _)]) (F' := [(x35.1, refsC xs), (x40.1, prC ys)]) (O' := [_, _])
                  first | exact ⟨⟨x50.1, x50.2, x16.1, x16.2, x35.1, x35.2, x40.1, x40.2⟩, rfl, trivial, by simpa [mO, aO, mW, alV, NdV.fr, alCs, nvC_push, Nd.cells, *] using h3⟩ | exact ⟨⟨x50.1, x50.2, x24.1, x24.2, x35.1, x35.2, x40.1, x40.2⟩, rfl, trivial, by simpa [mO, aO, mW, alV, NdV.fr, alCs, nvC_push, Nd.cells, *] using h3⟩ | exact ⟨⟨x50.1, x50.2, x30.1, x30.2, x35.1, x35.2, x40.1, x40.2⟩, rfl, trivial, by simpa [mO, aO, mW, alV, NdV.fr, alCs, nvC_push, Nd.cells, *] using h3⟩ | exact ⟨⟨x50.1, x50.2, pc, cc, x35.1, x35.2, x40.1, x40.2⟩, rfl, trivial, by simpa [mO, aO, mW, alV, NdV.fr, alCs, nvC_push, Nd.cells, *] using h3⟩
end Go.Proofs.YtpobgmdalcpomaaGreat
