/- Alloc of the two memories. -/
import Derived.Test.YtmogngagpphnhaaAr3
set_option linter.unusedSimpArgs false
set_option linter.unusedVariables false
namespace Go.Proofs.Ytmogngagpphnhaa
open Go.RowKit Go.Ct
variable {w : World} {D : List Nat} {b : Nat} {L : List NdV} {cs : List Int} {gen acc : Int} {pn pc : Option Addr} {cn cc : Nat} {A : Fr}
theorem mAlloc_c {n : Nd} {xs : List Int} {ys : List Pr} (init : Int) (hs : SF w D [(b, mO L cs gen acc pn cn pc cc)] [(n.brA, refsC xs), (n.prA, prC ys)] [] (mW L cs pn cn pc cc) w) (e1 : n.brN = xs.length) (e2 : n.prN = ys.length) (h1 : xs.length ≤ 274877906944) (h2 : ys.length ≤ 274877906944)
    (hl : L.length ≤ 274877906944) (hc : cs.length ≤ 274877906944) :
    Calls Try.prog 67 #[.pointer (some ⟨b, 0, none⟩), n.v, .int .i64 init] w fun e w' => ∃ x : AX, e = .returned (.int .i64 ((L.length + 1 : Nat) : Int)) ∧ True ∧
      SF w D [(b, mO (L ++ [alV n xs ys cs.length x]) (alCs n.kind cs init) gen acc x.pn x.cn x.pc x.cc)] [] (alV n xs ys cs.length x).fr (mW (L ++ [alV n xs ys cs.length x]) (alCs n.kind cs init) x.pn x.cn x.pc x.cc) w' := by
  refine enter Try.func67 Try.ntmps67 rfl rfl (mOpen hs) ?_
  simp only [mkS]
  simp only [Nd.v, Nd.cells]
  all_goals (refine k_seq ?_)
  all_goals refine k_region ?_
  all_goals refine j_box (fun x4 => ?_)
  all_goals refine j_assignL (fun _ => ?_)
  all_goals refine l_nil ?_
  all_goals (refine k_seq ?_)
  all_goals refine k_region ?_
  all_goals refine j_fieldAddr ?_
  all_goals refine j_store (fun _ => ?_)
  all_goals refine j_fieldAddr ?_
  all_goals refine j_store (fun _ => ?_)
  all_goals refine j_fieldAddr ?_
  all_goals refine j_store (fun _ => ?_)
  all_goals refine l_nil ?_
  all_goals (refine k_seq ?_)
  all_goals (refine k_seq ?_)
  all_goals refine k_region ?_
  all_goals refine j_fieldAddr ?_
  all_goals refine j_load ?_
  all_goals refine l_nil ?_
  all_goals (refine k_block ?_)
  all_goals (refine k_seq ?_)
  all_goals refine k_region ?_
  all_goals refine j_eql ?_
  all_goals refine j_assignL (fun _ => ?_)
  all_goals refine l_nil ?_
  all_goals
    refine k_cond (by exact rfl) (fun c12 => ?_) (fun c12 => ?_)
    · try (exact absurd c12 (by decide))
      all_goals (revert c12; (first | refine cv1 ?_ | refine cv3 ?_ | refine cv5 ?_ | refine cv7 ?_ | refine cv9 ?_ | refine cvb ?_ | refine cvd ?_ | skip); intro c12)
      all_goals try (exfalso; omega)
      all_goals refine k_region ?_
      all_goals refine j_move ?_
      all_goals refine j_move ?_
      all_goals (refine j_own (cM (hc := fun w hs => mNewCell_c init hs hc)) (fun x16 => ?_); try (refine l_fact (fun h16 => ?_)))
      all_goals refine j_fieldAddr ?_
      all_goals refine j_store (fun _ => ?_)
      all_goals refine l_nil ?_
      all_goals (refine k_blk ?_)
      all_goals (refine k_seq ?_)
      all_goals refine k_region ?_
      all_goals refine j_build0 (fun x32 => ?_)
      all_goals refine j_fieldAddr ?_
      all_goals refine j_load ?_
      all_goals (refine j_append (fun x35 => ?_); try (refine l_fact (fun h35 => ?_)))
      all_goals refine j_fieldAddr ?_
      all_goals refine j_store (fun _ => ?_)
      all_goals refine l_nil ?_
      all_goals (refine k_seq ?_)
      all_goals refine k_region ?_
      all_goals refine j_build0 (fun x37 => ?_)
      all_goals refine j_fieldAddr ?_
      all_goals refine j_load ?_
      all_goals (refine j_append (fun x40 => ?_); try (refine l_fact (fun h40 => ?_)))
      all_goals refine j_fieldAddr ?_
      all_goals refine j_store (fun _ => ?_)
      all_goals refine l_nil ?_
      all_goals (refine k_seq ?_)
      all_goals refine k_drawF (.one 0 [] (.one 1 [] (.one 2 [] (.one 3 [] (.one 4 [] (.one 5 [] (.one 6 [] (.one 7 [5] (.one 8 [] (.one 9 [] (.one 10 [] (.one 11 [] (.one 12 [] .nil))))))))))))) ?_
      all_goals (refine r_move (i := 0) ?_)
      all_goals (refine r_move (i := 1) ?_)
      all_goals (refine r_nilCheck (i := 2) ?_)
      all_goals (refine r_fieldAddr (i := 3) ?_)
      all_goals (refine r_fieldAddr (i := 4) ?_)
      all_goals (refine r_load (i := 5) ?_)
      all_goals (refine r_load (i := 6) ?_)
      all_goals (refine r_buildSlice (i := 7) (hfire := (fun _ => by first | (refine FireAll.cons (by first | exact a_load | exact a_un) ?_; exact FireAll.nil) | (refine fireall_fact ?_; refine FireAll.cons (by first | exact a_load | exact a_un) ?_; exact FireAll.nil))) (h := fun x49 => ?_))
      all_goals ((refine r_own (i := 8) (hq := (Loud.convOF (o_append (sz := 14) (by exact rfl) (by exact rfl) (by repeat (first | exact OAt.head | apply OAt.tail)) (by rw [nvC_length]) (by first | exact .new .head | exact .new (.tail .head) | exact .new (.tail (.tail .head)) | exact .new (.tail (.tail (.tail .head))) | exact .new (.tail (.tail (.tail (.tail .head)))) | exact .new (.tail (.tail (.tail (.tail (.tail .head))))) | exact .new (.tail (.tail (.tail (.tail (.tail (.tail .head)))))) | exact .new (.tail (.tail (.tail (.tail (.tail (.tail (.tail .head))))))) | exact .new (.tail (.tail (.tail (.tail (.tail (.tail (.tail (.tail .head)))))))) | exact .new (.tail (.tail (.tail (.tail (.tail (.tail (.tail (.tail (.tail .head))))))))) | exact .old .head | exact .old (.tail .head) | exact .old (.tail (.tail .head)) | exact .old (.tail (.tail (.tail .head))) | exact .old (.tail (.tail (.tail (.tail .head)))) | exact .old (.tail (.tail (.tail (.tail (.tail .head))))) | exact .own .head | exact .own (.tail .head) | exact .own (.tail (.tail .head)) | exact .own (.tail (.tail (.tail .head))) | exact .own (.tail (.tail (.tail (.tail .head)))) | exact .own (.tail (.tail (.tail (.tail (.tail .head))))) | exact .own (.tail (.tail (.tail (.tail (.tail (.tail .head)))))) | exact .own (.tail (.tail (.tail (.tail (.tail (.tail (.tail .head)))))))) rfl rfl (by exact elem_nodeT rfl) rfl (by decide) (by exact sl_of rfl) (by omega)) (by intro x; simp only [setO]; exact rfl))) (hfire := (fun _ => .nil)) (h := fun x50 => ?_); try (refine r_fact (fun h50 => ?_))))
      all_goals (refine r_nilCheck (i := 9) ?_)
      all_goals (refine r_fieldAddr (i := 10) ?_)
      all_goals (refine r_fieldAddr (i := 11) ?_)
      all_goals (refine r_store (i := 12) (hfire := (fun _ => .nil)) (h := fun _ => ?_))
      all_goals refine r_fin ?_
      all_goals (refine k_seq ?_)
      all_goals refine k_region ?_
      all_goals refine j_move ?_
      all_goals refine j_nilCheck ?_
      all_goals refine j_fieldAddr ?_
      all_goals refine j_fieldAddr ?_
      all_goals refine j_load ?_
      all_goals refine j_len ?_
      all_goals refine j_assignL (fun _ => ?_)
      all_goals refine l_nil ?_
      all_goals
        refine k_retvF Try.results67 (.tmp (by conv => { lhs; whnf }) .nil) (fun w hw => ?_)
        have h2 := (hw.freeze .head).freeze .head
        simp only [delO, List.nil_append] at h2
        have h3 := h2.finH (H' := [(b, _)]) (F' := [(x35.1, refsC xs), (x40.1, prC ys)]) (O' := [_, _])
        first | exact ⟨⟨x50.1, x50.2, x16.1, x16.2, x35.1, x35.2, x40.1, x40.2⟩, rfl, trivial, by simpa [mO, aO, mW, alV, NdV.fr, alCs, nvC_push, Nd.cells, *] using h3⟩ | exact ⟨⟨x50.1, x50.2, x24.1, x24.2, x35.1, x35.2, x40.1, x40.2⟩, rfl, trivial, by simpa [mO, aO, mW, alV, NdV.fr, alCs, nvC_push, Nd.cells, *] using h3⟩ | exact ⟨⟨x50.1, x50.2, x30.1, x30.2, x35.1, x35.2, x40.1, x40.2⟩, rfl, trivial, by simpa [mO, aO, mW, alV, NdV.fr, alCs, nvC_push, Nd.cells, *] using h3⟩ | exact ⟨⟨x50.1, x50.2, pc, cc, x35.1, x35.2, x40.1, x40.2⟩, rfl, trivial, by simpa [mO, aO, mW, alV, NdV.fr, alCs, nvC_push, Nd.cells, *] using h3⟩
    · try (exact absurd c12 (by decide))
      all_goals (revert c12; (first | refine cv2 ?_ | refine cv4 ?_ | refine cv6 ?_ | refine cv8 ?_ | refine cva ?_ | refine cvc ?_ | refine cve ?_ | skip); intro c12)
      all_goals try (exfalso; omega)
      all_goals (refine k_seq ?_)
      all_goals (refine k_seq ?_)
      all_goals refine k_region ?_
      all_goals refine j_eql ?_
      all_goals refine j_assignL (fun _ => ?_)
      all_goals refine l_nil ?_
      all_goals
        refine k_cond (by exact rfl) (fun c18 => ?_) (fun c18 => ?_)
        · try (exact absurd c18 (by decide))
          all_goals (revert c18; (first | refine cv1 ?_ | refine cv3 ?_ | refine cv5 ?_ | refine cv7 ?_ | refine cv9 ?_ | refine cvb ?_ | refine cvd ?_ | skip); intro c18)
          all_goals try (exfalso; omega)
          all_goals (refine k_skip ?_)
          all_goals
            refine k_cond (by exact rfl) (fun c18 => ?_) (fun c18 => ?_)
            · try (exact absurd c18 (by decide))
              all_goals (revert c18; (first | refine cv1 ?_ | refine cv3 ?_ | refine cv5 ?_ | refine cv7 ?_ | refine cv9 ?_ | refine cvb ?_ | refine cvd ?_ | skip); intro c18)
              all_goals try (exfalso; omega)
              all_goals refine k_region ?_
              all_goals refine j_move ?_
              all_goals refine j_move ?_
              all_goals (refine j_own (cM (hc := fun w hs => mNewCell_c init hs hc)) (fun x24 => ?_); try (refine l_fact (fun h24 => ?_)))
              all_goals refine j_fieldAddr ?_
              all_goals refine j_store (fun _ => ?_)
              all_goals refine l_nil ?_
              all_goals (refine k_blk ?_)
              all_goals (refine k_seq ?_)
              all_goals refine k_region ?_
              all_goals refine j_build0 (fun x32 => ?_)
              all_goals refine j_fieldAddr ?_
              all_goals refine j_load ?_
              all_goals (refine j_append (fun x35 => ?_); try (refine l_fact (fun h35 => ?_)))
              all_goals refine j_fieldAddr ?_
              all_goals refine j_store (fun _ => ?_)
              all_goals refine l_nil ?_
              all_goals (refine k_seq ?_)
              all_goals refine k_region ?_
              all_goals refine j_build0 (fun x37 => ?_)
              all_goals refine j_fieldAddr ?_
              all_goals refine j_load ?_
              all_goals (refine j_append (fun x40 => ?_); try (refine l_fact (fun h40 => ?_)))
              all_goals refine j_fieldAddr ?_
              all_goals refine j_store (fun _ => ?_)
              all_goals refine l_nil ?_
              all_goals (refine k_seq ?_)
              all_goals refine k_drawF (.one 0 [] (.one 1 [] (.one 2 [] (.one 3 [] (.one 4 [] (.one 5 [] (.one 6 [] (.one 7 [5] (.one 8 [] (.one 9 [] (.one 10 [] (.one 11 [] (.one 12 [] .nil))))))))))))) ?_
              all_goals (refine r_move (i := 0) ?_)
              all_goals (refine r_move (i := 1) ?_)
              all_goals (refine r_nilCheck (i := 2) ?_)
              all_goals (refine r_fieldAddr (i := 3) ?_)
              all_goals (refine r_fieldAddr (i := 4) ?_)
              all_goals (refine r_load (i := 5) ?_)
              all_goals (refine r_load (i := 6) ?_)
              all_goals (refine r_buildSlice (i := 7) (hfire := (fun _ => by first | (refine FireAll.cons (by first | exact a_load | exact a_un) ?_; exact FireAll.nil) | (refine fireall_fact ?_; refine FireAll.cons (by first | exact a_load | exact a_un) ?_; exact FireAll.nil))) (h := fun x49 => ?_))
              all_goals ((refine r_own (i := 8) (hq := (Loud.convOF (o_append (sz := 14) (by exact rfl) (by exact rfl) (by repeat (first | exact OAt.head | apply OAt.tail)) (by rw [nvC_length]) (by first | exact .new .head | exact .new (.tail .head) | exact .new (.tail (.tail .head)) | exact .new (.tail (.tail (.tail .head))) | exact .new (.tail (.tail (.tail (.tail .head)))) | exact .new (.tail (.tail (.tail (.tail (.tail .head))))) | exact .new (.tail (.tail (.tail (.tail (.tail (.tail .head)))))) | exact .new (.tail (.tail (.tail (.tail (.tail (.tail (.tail .head))))))) | exact .new (.tail (.tail (.tail (.tail (.tail (.tail (.tail (.tail .head)))))))) | exact .new (.tail (.tail (.tail (.tail (.tail (.tail (.tail (.tail (.tail .head))))))))) | exact .old .head | exact .old (.tail .head) | exact .old (.tail (.tail .head)) | exact .old (.tail (.tail (.tail .head))) | exact .old (.tail (.tail (.tail (.tail .head)))) | exact .old (.tail (.tail (.tail (.tail (.tail .head))))) | exact .own .head | exact .own (.tail .head) | exact .own (.tail (.tail .head)) | exact .own (.tail (.tail (.tail .head))) | exact .own (.tail (.tail (.tail (.tail .head)))) | exact .own (.tail (.tail (.tail (.tail (.tail .head))))) | exact .own (.tail (.tail (.tail (.tail (.tail (.tail .head)))))) | exact .own (.tail (.tail (.tail (.tail (.tail (.tail (.tail .head)))))))) rfl rfl (by exact elem_nodeT rfl) rfl (by decide) (by exact sl_of rfl) (by omega)) (by intro x; simp only [setO]; exact rfl))) (hfire := (fun _ => .nil)) (h := fun x50 => ?_); try (refine r_fact (fun h50 => ?_))))
              all_goals (refine r_nilCheck (i := 9) ?_)
              all_goals (refine r_fieldAddr (i := 10) ?_)
              all_goals (refine r_fieldAddr (i := 11) ?_)
              all_goals (refine r_store (i := 12) (hfire := (fun _ => .nil)) (h := fun _ => ?_))
              all_goals refine r_fin ?_
              all_goals (refine k_seq ?_)
              all_goals refine k_region ?_
              all_goals refine j_move ?_
              all_goals refine j_nilCheck ?_
              all_goals refine j_fieldAddr ?_
              all_goals refine j_fieldAddr ?_
              all_goals refine j_load ?_
              all_goals refine j_len ?_
              all_goals refine j_assignL (fun _ => ?_)
              all_goals refine l_nil ?_
              all_goals
                refine k_retvF Try.results67 (.tmp (by conv => { lhs; whnf }) .nil) (fun w hw => ?_)
                have h2 := (hw.freeze .head).freeze .head
                simp only [delO, List.nil_append] at h2
                have h3 := h2.finH (H' := [(b, _)]) (F' := [(x35.1, refsC xs), (x40.1, prC ys)]) (O' := [_, _])
                first | exact ⟨⟨x50.1, x50.2, x16.1, x16.2, x35.1, x35.2, x40.1, x40.2⟩, rfl, trivial, by simpa [mO, aO, mW, alV, NdV.fr, alCs, nvC_push, Nd.cells, *] using h3⟩ | exact ⟨⟨x50.1, x50.2, x24.1, x24.2, x35.1, x35.2, x40.1, x40.2⟩, rfl, trivial, by simpa [mO, aO, mW, alV, NdV.fr, alCs, nvC_push, Nd.cells, *] using h3⟩ | exact ⟨⟨x50.1, x50.2, x30.1, x30.2, x35.1, x35.2, x40.1, x40.2⟩, rfl, trivial, by simpa [mO, aO, mW, alV, NdV.fr, alCs, nvC_push, Nd.cells, *] using h3⟩ | exact ⟨⟨x50.1, x50.2, pc, cc, x35.1, x35.2, x40.1, x40.2⟩, rfl, trivial, by simpa [mO, aO, mW, alV, NdV.fr, alCs, nvC_push, Nd.cells, *] using h3⟩
            · try (exact absurd c18 (by decide))
              all_goals (revert c18; (first | refine cv2 ?_ | refine cv4 ?_ | refine cv6 ?_ | refine cv8 ?_ | refine cva ?_ | refine cvc ?_ | refine cve ?_ | skip); intro c18)
              all_goals try (exfalso; omega)
              all_goals (refine k_seq ?_)
              all_goals refine k_region ?_
              all_goals refine j_eql ?_
              all_goals refine j_assignL (fun _ => ?_)
              all_goals refine l_nil ?_
              all_goals
                refine k_cond (by exact rfl) (fun c26 => ?_) (fun c26 => ?_)
                · try (exact absurd c26 (by decide))
                  all_goals (revert c26; (first | refine cv1 ?_ | refine cv3 ?_ | refine cv5 ?_ | refine cv7 ?_ | refine cv9 ?_ | refine cvb ?_ | refine cvd ?_ | skip); intro c26)
                  all_goals try (exfalso; omega)
                  all_goals refine k_region ?_
                  all_goals refine j_move ?_
                  all_goals refine j_move ?_
                  all_goals (refine j_own (cM (hc := fun w hs => mNewCell_c init hs hc)) (fun x30 => ?_); try (refine l_fact (fun h30 => ?_)))
                  all_goals refine j_fieldAddr ?_
                  all_goals refine j_store (fun _ => ?_)
                  all_goals refine l_nil ?_
                  all_goals (refine k_blk ?_)
                  all_goals (refine k_seq ?_)
                  all_goals refine k_region ?_
                  all_goals refine j_build0 (fun x32 => ?_)
                  all_goals refine j_fieldAddr ?_
                  all_goals refine j_load ?_
                  all_goals (refine j_append (fun x35 => ?_); try (refine l_fact (fun h35 => ?_)))
                  all_goals refine j_fieldAddr ?_
                  all_goals refine j_store (fun _ => ?_)
                  all_goals refine l_nil ?_
                  all_goals (refine k_seq ?_)
                  all_goals refine k_region ?_
                  all_goals refine j_build0 (fun x37 => ?_)
                  all_goals refine j_fieldAddr ?_
                  all_goals refine j_load ?_
                  all_goals (refine j_append (fun x40 => ?_); try (refine l_fact (fun h40 => ?_)))
                  all_goals refine j_fieldAddr ?_
                  all_goals refine j_store (fun _ => ?_)
                  all_goals refine l_nil ?_
                  all_goals (refine k_seq ?_)
                  all_goals refine k_drawF (.one 0 [] (.one 1 [] (.one 2 [] (.one 3 [] (.one 4 [] (.one 5 [] (.one 6 [] (.one 7 [5] (.one 8 [] (.one 9 [] (.one 10 [] (.one 11 [] (.one 12 [] .nil))))))))))))) ?_
                  all_goals (refine r_move (i := 0) ?_)
                  all_goals (refine r_move (i := 1) ?_)
                  all_goals (refine r_nilCheck (i := 2) ?_)
                  all_goals (refine r_fieldAddr (i := 3) ?_)
                  all_goals (refine r_fieldAddr (i := 4) ?_)
                  all_goals (refine r_load (i := 5) ?_)
                  all_goals (refine r_load (i := 6) ?_)
                  all_goals (refine r_buildSlice (i := 7) (hfire := (fun _ => by first | (refine FireAll.cons (by first | exact a_load | exact a_un) ?_; exact FireAll.nil) | (refine fireall_fact ?_; refine FireAll.cons (by first | exact a_load | exact a_un) ?_; exact FireAll.nil))) (h := fun x49 => ?_))
                  all_goals ((refine r_own (i := 8) (hq := (Loud.convOF (o_append (sz := 14) (by exact rfl) (by exact rfl) (by repeat (first | exact OAt.head | apply OAt.tail)) (by rw [nvC_length]) (by first | exact .new .head | exact .new (.tail .head) | exact .new (.tail (.tail .head)) | exact .new (.tail (.tail (.tail .head))) | exact .new (.tail (.tail (.tail (.tail .head)))) | exact .new (.tail (.tail (.tail (.tail (.tail .head))))) | exact .new (.tail (.tail (.tail (.tail (.tail (.tail .head)))))) | exact .new (.tail (.tail (.tail (.tail (.tail (.tail (.tail .head))))))) | exact .new (.tail (.tail (.tail (.tail (.tail (.tail (.tail (.tail .head)))))))) | exact .new (.tail (.tail (.tail (.tail (.tail (.tail (.tail (.tail (.tail .head))))))))) | exact .old .head | exact .old (.tail .head) | exact .old (.tail (.tail .head)) | exact .old (.tail (.tail (.tail .head))) | exact .old (.tail (.tail (.tail (.tail .head)))) | exact .old (.tail (.tail (.tail (.tail (.tail .head))))) | exact .own .head | exact .own (.tail .head) | exact .own (.tail (.tail .head)) | exact .own (.tail (.tail (.tail .head))) | exact .own (.tail (.tail (.tail (.tail .head)))) | exact .own (.tail (.tail (.tail (.tail (.tail .head))))) | exact .own (.tail (.tail (.tail (.tail (.tail (.tail .head)))))) | exact .own (.tail (.tail (.tail (.tail (.tail (.tail (.tail .head)))))))) rfl rfl (by exact elem_nodeT rfl) rfl (by decide) (by exact sl_of rfl) (by omega)) (by intro x; simp only [setO]; exact rfl))) (hfire := (fun _ => .nil)) (h := fun x50 => ?_); try (refine r_fact (fun h50 => ?_))))
                  all_goals (refine r_nilCheck (i := 9) ?_)
                  all_goals (refine r_fieldAddr (i := 10) ?_)
                  all_goals (refine r_fieldAddr (i := 11) ?_)
                  all_goals (refine r_store (i := 12) (hfire := (fun _ => .nil)) (h := fun _ => ?_))
                  all_goals refine r_fin ?_
                  all_goals (refine k_seq ?_)
                  all_goals refine k_region ?_
                  all_goals refine j_move ?_
                  all_goals refine j_nilCheck ?_
                  all_goals refine j_fieldAddr ?_
                  all_goals refine j_fieldAddr ?_
                  all_goals refine j_load ?_
                  all_goals refine j_len ?_
                  all_goals refine j_assignL (fun _ => ?_)
                  all_goals refine l_nil ?_
                  all_goals
                    refine k_retvF Try.results67 (.tmp (by conv => { lhs; whnf }) .nil) (fun w hw => ?_)
                    have h2 := (hw.freeze .head).freeze .head
                    simp only [delO, List.nil_append] at h2
                    have h3 := h2.finH (H' := [(b, _)]) (F' := [(x35.1, refsC xs), (x40.1, prC ys)]) (O' := [_, _])
                    first | exact ⟨⟨x50.1, x50.2, x16.1, x16.2, x35.1, x35.2, x40.1, x40.2⟩, rfl, trivial, by simpa [mO, aO, mW, alV, NdV.fr, alCs, nvC_push, Nd.cells, *] using h3⟩ | exact ⟨⟨x50.1, x50.2, x24.1, x24.2, x35.1, x35.2, x40.1, x40.2⟩, rfl, trivial, by simpa [mO, aO, mW, alV, NdV.fr, alCs, nvC_push, Nd.cells, *] using h3⟩ | exact ⟨⟨x50.1, x50.2, x30.1, x30.2, x35.1, x35.2, x40.1, x40.2⟩, rfl, trivial, by simpa [mO, aO, mW, alV, NdV.fr, alCs, nvC_push, Nd.cells, *] using h3⟩ | exact ⟨⟨x50.1, x50.2, pc, cc, x35.1, x35.2, x40.1, x40.2⟩, rfl, trivial, by simpa [mO, aO, mW, alV, NdV.fr, alCs, nvC_push, Nd.cells, *] using h3⟩
                · try (exact absurd c26 (by decide))
                  all_goals (revert c26; (first | refine cv2 ?_ | refine cv4 ?_ | refine cv6 ?_ | refine cv8 ?_ | refine cva ?_ | refine cvc ?_ | refine cve ?_ | skip); intro c26)
                  all_goals try (exfalso; omega)
                  all_goals (refine k_skip ?_)
                  all_goals (refine k_blk ?_)
                  all_goals (refine k_seq ?_)
                  all_goals refine k_region ?_
                  all_goals refine j_build0 (fun x32 => ?_)
                  all_goals refine j_fieldAddr ?_
                  all_goals refine j_load ?_
                  all_goals (refine j_append (fun x35 => ?_); try (refine l_fact (fun h35 => ?_)))
                  all_goals refine j_fieldAddr ?_
                  all_goals refine j_store (fun _ => ?_)
                  all_goals refine l_nil ?_
                  all_goals (refine k_seq ?_)
                  all_goals refine k_region ?_
                  all_goals refine j_build0 (fun x37 => ?_)
                  all_goals refine j_fieldAddr ?_
                  all_goals refine j_load ?_
                  all_goals (refine j_append (fun x40 => ?_); try (refine l_fact (fun h40 => ?_)))
                  all_goals refine j_fieldAddr ?_
                  all_goals refine j_store (fun _ => ?_)
                  all_goals refine l_nil ?_
                  all_goals (refine k_seq ?_)
                  all_goals refine k_drawF (.one 0 [] (.one 1 [] (.one 2 [] (.one 3 [] (.one 4 [] (.one 5 [] (.one 6 [] (.one 7 [5] (.one 8 [] (.one 9 [] (.one 10 [] (.one 11 [] (.one 12 [] .nil))))))))))))) ?_
                  all_goals (refine r_move (i := 0) ?_)
                  all_goals (refine r_move (i := 1) ?_)
                  all_goals (refine r_nilCheck (i := 2) ?_)
                  all_goals (refine r_fieldAddr (i := 3) ?_)
                  all_goals (refine r_fieldAddr (i := 4) ?_)
                  all_goals (refine r_load (i := 5) ?_)
                  all_goals (refine r_load (i := 6) ?_)
                  all_goals (refine r_buildSlice (i := 7) (hfire := (fun _ => by first | (refine FireAll.cons (by first | exact a_load | exact a_un) ?_; exact FireAll.nil) | (refine fireall_fact ?_; refine FireAll.cons (by first | exact a_load | exact a_un) ?_; exact FireAll.nil))) (h := fun x49 => ?_))
                  all_goals ((refine r_own (i := 8) (hq := (Loud.convOF (o_append (sz := 14) (by exact rfl) (by exact rfl) (by repeat (first | exact OAt.head | apply OAt.tail)) (by rw [nvC_length]) (by first | exact .new .head | exact .new (.tail .head) | exact .new (.tail (.tail .head)) | exact .new (.tail (.tail (.tail .head))) | exact .new (.tail (.tail (.tail (.tail .head)))) | exact .new (.tail (.tail (.tail (.tail (.tail .head))))) | exact .new (.tail (.tail (.tail (.tail (.tail (.tail .head)))))) | exact .new (.tail (.tail (.tail (.tail (.tail (.tail (.tail .head))))))) | exact .new (.tail (.tail (.tail (.tail (.tail (.tail (.tail (.tail .head)))))))) | exact .new (.tail (.tail (.tail (.tail (.tail (.tail (.tail (.tail (.tail .head))))))))) | exact .old .head | exact .old (.tail .head) | exact .old (.tail (.tail .head)) | exact .old (.tail (.tail (.tail .head))) | exact .old (.tail (.tail (.tail (.tail .head)))) | exact .old (.tail (.tail (.tail (.tail (.tail .head))))) | exact .own .head | exact .own (.tail .head) | exact .own (.tail (.tail .head)) | exact .own (.tail (.tail (.tail .head))) | exact .own (.tail (.tail (.tail (.tail .head)))) | exact .own (.tail (.tail (.tail (.tail (.tail .head))))) | exact .own (.tail (.tail (.tail (.tail (.tail (.tail .head)))))) | exact .own (.tail (.tail (.tail (.tail (.tail (.tail (.tail .head)))))))) rfl rfl (by exact elem_nodeT rfl) rfl (by decide) (by exact sl_of rfl) (by omega)) (by intro x; simp only [setO]; exact rfl))) (hfire := (fun _ => .nil)) (h := fun x50 => ?_); try (refine r_fact (fun h50 => ?_))))
                  all_goals (refine r_nilCheck (i := 9) ?_)
                  all_goals (refine r_fieldAddr (i := 10) ?_)
                  all_goals (refine r_fieldAddr (i := 11) ?_)
                  all_goals (refine r_store (i := 12) (hfire := (fun _ => .nil)) (h := fun _ => ?_))
                  all_goals refine r_fin ?_
                  all_goals (refine k_seq ?_)
                  all_goals refine k_region ?_
                  all_goals refine j_move ?_
                  all_goals refine j_nilCheck ?_
                  all_goals refine j_fieldAddr ?_
                  all_goals refine j_fieldAddr ?_
                  all_goals refine j_load ?_
                  all_goals refine j_len ?_
                  all_goals refine j_assignL (fun _ => ?_)
                  all_goals refine l_nil ?_
                  all_goals
                    refine k_retvF Try.results67 (.tmp (by conv => { lhs; whnf }) .nil) (fun w hw => ?_)
                    have h2 := (hw.freeze .head).freeze .head
                    simp only [delO, List.nil_append] at h2
                    have h3 := h2.finH (H' := [(b, _)]) (F' := [(x35.1, refsC xs), (x40.1, prC ys)]) (O' := [_, _])
                    first | exact ⟨⟨x50.1, x50.2, x16.1, x16.2, x35.1, x35.2, x40.1, x40.2⟩, rfl, trivial, by simpa [mO, aO, mW, alV, NdV.fr, alCs, nvC_push, Nd.cells, *] using h3⟩ | exact ⟨⟨x50.1, x50.2, x24.1, x24.2, x35.1, x35.2, x40.1, x40.2⟩, rfl, trivial, by simpa [mO, aO, mW, alV, NdV.fr, alCs, nvC_push, Nd.cells, *] using h3⟩ | exact ⟨⟨x50.1, x50.2, x30.1, x30.2, x35.1, x35.2, x40.1, x40.2⟩, rfl, trivial, by simpa [mO, aO, mW, alV, NdV.fr, alCs, nvC_push, Nd.cells, *] using h3⟩ | exact ⟨⟨x50.1, x50.2, pc, cc, x35.1, x35.2, x40.1, x40.2⟩, rfl, trivial, by simpa [mO, aO, mW, alV, NdV.fr, alCs, nvC_push, Nd.cells, *] using h3⟩
        · try (exact absurd c18 (by decide))
          all_goals (revert c18; (first | refine cv2 ?_ | refine cv4 ?_ | refine cv6 ?_ | refine cv8 ?_ | refine cva ?_ | refine cvc ?_ | refine cve ?_ | skip); intro c18)
          all_goals try (exfalso; omega)
          all_goals (refine k_seq ?_)
          all_goals refine k_region ?_
          all_goals refine j_eql ?_
          all_goals refine j_assignL (fun _ => ?_)
          all_goals refine l_nil ?_
          all_goals
            refine k_cond (by exact rfl) (fun c18 => ?_) (fun c18 => ?_)
            · try (exact absurd c18 (by decide))
              all_goals (revert c18; (first | refine cv1 ?_ | refine cv3 ?_ | refine cv5 ?_ | refine cv7 ?_ | refine cv9 ?_ | refine cvb ?_ | refine cvd ?_ | skip); intro c18)
              all_goals try (exfalso; omega)
              all_goals (refine k_skip ?_)
              all_goals
                refine k_cond (by exact rfl) (fun c18 => ?_) (fun c18 => ?_)
                · try (exact absurd c18 (by decide))
                  all_goals (revert c18; (first | refine cv1 ?_ | refine cv3 ?_ | refine cv5 ?_ | refine cv7 ?_ | refine cv9 ?_ | refine cvb ?_ | refine cvd ?_ | skip); intro c18)
                  all_goals try (exfalso; omega)
                  all_goals refine k_region ?_
                  all_goals refine j_move ?_
                  all_goals refine j_move ?_
                  all_goals (refine j_own (cM (hc := fun w hs => mNewCell_c init hs hc)) (fun x24 => ?_); try (refine l_fact (fun h24 => ?_)))
                  all_goals refine j_fieldAddr ?_
                  all_goals refine j_store (fun _ => ?_)
                  all_goals refine l_nil ?_
                  all_goals (refine k_blk ?_)
                  all_goals (refine k_seq ?_)
                  all_goals refine k_region ?_
                  all_goals refine j_build0 (fun x32 => ?_)
                  all_goals refine j_fieldAddr ?_
                  all_goals refine j_load ?_
                  all_goals (refine j_append (fun x35 => ?_); try (refine l_fact (fun h35 => ?_)))
                  all_goals refine j_fieldAddr ?_
                  all_goals refine j_store (fun _ => ?_)
                  all_goals refine l_nil ?_
                  all_goals (refine k_seq ?_)
                  all_goals refine k_region ?_
                  all_goals refine j_build0 (fun x37 => ?_)
                  all_goals refine j_fieldAddr ?_
                  all_goals refine j_load ?_
                  all_goals (refine j_append (fun x40 => ?_); try (refine l_fact (fun h40 => ?_)))
                  all_goals refine j_fieldAddr ?_
                  all_goals refine j_store (fun _ => ?_)
                  all_goals refine l_nil ?_
                  all_goals (refine k_seq ?_)
                  all_goals refine k_drawF (.one 0 [] (.one 1 [] (.one 2 [] (.one 3 [] (.one 4 [] (.one 5 [] (.one 6 [] (.one 7 [5] (.one 8 [] (.one 9 [] (.one 10 [] (.one 11 [] (.one 12 [] .nil))))))))))))) ?_
                  all_goals (refine r_move (i := 0) ?_)
                  all_goals (refine r_move (i := 1) ?_)
                  all_goals (refine r_nilCheck (i := 2) ?_)
                  all_goals (refine r_fieldAddr (i := 3) ?_)
                  all_goals (refine r_fieldAddr (i := 4) ?_)
                  all_goals (refine r_load (i := 5) ?_)
                  all_goals (refine r_load (i := 6) ?_)
                  all_goals (refine r_buildSlice (i := 7) (hfire := (fun _ => by first | (refine FireAll.cons (by first | exact a_load | exact a_un) ?_; exact FireAll.nil) | (refine fireall_fact ?_; refine FireAll.cons (by first | exact a_load | exact a_un) ?_; exact FireAll.nil))) (h := fun x49 => ?_))
                  all_goals ((refine r_own (i := 8) (hq := (Loud.convOF (o_append (sz := 14) (by exact rfl) (by exact rfl) (by repeat (first | exact OAt.head | apply OAt.tail)) (by rw [nvC_length]) (by first | exact .new .head | exact .new (.tail .head) | exact .new (.tail (.tail .head)) | exact .new (.tail (.tail (.tail .head))) | exact .new (.tail (.tail (.tail (.tail .head)))) | exact .new (.tail (.tail (.tail (.tail (.tail .head))))) | exact .new (.tail (.tail (.tail (.tail (.tail (.tail .head)))))) | exact .new (.tail (.tail (.tail (.tail (.tail (.tail (.tail .head))))))) | exact .new (.tail (.tail (.tail (.tail (.tail (.tail (.tail (.tail .head)))))))) | exact .new (.tail (.tail (.tail (.tail (.tail (.tail (.tail (.tail (.tail .head))))))))) | exact .old .head | exact .old (.tail .head) | exact .old (.tail (.tail .head)) | exact .old (.tail (.tail (.tail .head))) | exact .old (.tail (.tail (.tail (.tail .head)))) | exact .old (.tail (.tail (.tail (.tail (.tail .head))))) | exact .own .head | exact .own (.tail .head) | exact .own (.tail (.tail .head)) | exact .own (.tail (.tail (.tail .head))) | exact .own (.tail (.tail (.tail (.tail .head)))) | exact .own (.tail (.tail (.tail (.tail (.tail .head))))) | exact .own (.tail (.tail (.tail (.tail (.tail (.tail .head)))))) | exact .own (.tail (.tail (.tail (.tail (.tail (.tail (.tail .head)))))))) rfl rfl (by exact elem_nodeT rfl) rfl (by decide) (by exact sl_of rfl) (by omega)) (by intro x; simp only [setO]; exact rfl))) (hfire := (fun _ => .nil)) (h := fun x50 => ?_); try (refine r_fact (fun h50 => ?_))))
                  all_goals (refine r_nilCheck (i := 9) ?_)
                  all_goals (refine r_fieldAddr (i := 10) ?_)
                  all_goals (refine r_fieldAddr (i := 11) ?_)
                  all_goals (refine r_store (i := 12) (hfire := (fun _ => .nil)) (h := fun _ => ?_))
                  all_goals refine r_fin ?_
                  all_goals (refine k_seq ?_)
                  all_goals refine k_region ?_
                  all_goals refine j_move ?_
                  all_goals refine j_nilCheck ?_
                  all_goals refine j_fieldAddr ?_
                  all_goals refine j_fieldAddr ?_
                  all_goals refine j_load ?_
                  all_goals refine j_len ?_
                  all_goals refine j_assignL (fun _ => ?_)
                  all_goals refine l_nil ?_
                  all_goals
                    refine k_retvF Try.results67 (.tmp (by conv => { lhs; whnf }) .nil) (fun w hw => ?_)
                    have h2 := (hw.freeze .head).freeze .head
                    simp only [delO, List.nil_append] at h2
                    have h3 := h2.finH (H' := [(b, _)]) (F' := [(x35.1, refsC xs), (x40.1, prC ys)]) (O' := [_, _])
                    first | exact ⟨⟨x50.1, x50.2, x16.1, x16.2, x35.1, x35.2, x40.1, x40.2⟩, rfl, trivial, by simpa [mO, aO, mW, alV, NdV.fr, alCs, nvC_push, Nd.cells, *] using h3⟩ | exact ⟨⟨x50.1, x50.2, x24.1, x24.2, x35.1, x35.2, x40.1, x40.2⟩, rfl, trivial, by simpa [mO, aO, mW, alV, NdV.fr, alCs, nvC_push, Nd.cells, *] using h3⟩ | exact ⟨⟨x50.1, x50.2, x30.1, x30.2, x35.1, x35.2, x40.1, x40.2⟩, rfl, trivial, by simpa [mO, aO, mW, alV, NdV.fr, alCs, nvC_push, Nd.cells, *] using h3⟩ | exact ⟨⟨x50.1, x50.2, pc, cc, x35.1, x35.2, x40.1, x40.2⟩, rfl, trivial, by simpa [mO, aO, mW, alV, NdV.fr, alCs, nvC_push, Nd.cells, *] using h3⟩
                · try (exact absurd c18 (by decide))
                  all_goals (revert c18; (first | refine cv2 ?_ | refine cv4 ?_ | refine cv6 ?_ | refine cv8 ?_ | refine cva ?_ | refine cvc ?_ | refine cve ?_ | skip); intro c18)
                  all_goals try (exfalso; omega)
                  all_goals (refine k_seq ?_)
                  all_goals refine k_region ?_
                  all_goals refine j_eql ?_
                  all_goals refine j_assignL (fun _ => ?_)
                  all_goals refine l_nil ?_
                  all_goals
                    refine k_cond (by exact rfl) (fun c26 => ?_) (fun c26 => ?_)
                    · try (exact absurd c26 (by decide))
                      all_goals (revert c26; (first | refine cv1 ?_ | refine cv3 ?_ | refine cv5 ?_ | refine cv7 ?_ | refine cv9 ?_ | refine cvb ?_ | refine cvd ?_ | skip); intro c26)
                      all_goals try (exfalso; omega)
                      all_goals refine k_region ?_
                      all_goals refine j_move ?_
                      all_goals refine j_move ?_
                      all_goals (refine j_own (cM (hc := fun w hs => mNewCell_c init hs hc)) (fun x30 => ?_); try (refine l_fact (fun h30 => ?_)))
                      all_goals refine j_fieldAddr ?_
                      all_goals refine j_store (fun _ => ?_)
                      all_goals refine l_nil ?_
                      all_goals (refine k_blk ?_)
                      all_goals (refine k_seq ?_)
                      all_goals refine k_region ?_
                      all_goals refine j_build0 (fun x32 => ?_)
                      all_goals refine j_fieldAddr ?_
                      all_goals refine j_load ?_
                      all_goals (refine j_append (fun x35 => ?_); try (refine l_fact (fun h35 => ?_)))
                      all_goals refine j_fieldAddr ?_
                      all_goals refine j_store (fun _ => ?_)
                      all_goals refine l_nil ?_
                      all_goals (refine k_seq ?_)
                      all_goals refine k_region ?_
                      all_goals refine j_build0 (fun x37 => ?_)
                      all_goals refine j_fieldAddr ?_
                      all_goals refine j_load ?_
                      all_goals (refine j_append (fun x40 => ?_); try (refine l_fact (fun h40 => ?_)))
                      all_goals refine j_fieldAddr ?_
                      all_goals refine j_store (fun _ => ?_)
                      all_goals refine l_nil ?_
                      all_goals (refine k_seq ?_)
                      all_goals refine k_drawF (.one 0 [] (.one 1 [] (.one 2 [] (.one 3 [] (.one 4 [] (.one 5 [] (.one 6 [] (.one 7 [5] (.one 8 [] (.one 9 [] (.one 10 [] (.one 11 [] (.one 12 [] .nil))))))))))))) ?_
                      all_goals (refine r_move (i := 0) ?_)
                      all_goals (refine r_move (i := 1) ?_)
                      all_goals (refine r_nilCheck (i := 2) ?_)
                      all_goals (refine r_fieldAddr (i := 3) ?_)
                      all_goals (refine r_fieldAddr (i := 4) ?_)
                      all_goals (refine r_load (i := 5) ?_)
                      all_goals (refine r_load (i := 6) ?_)
                      all_goals (refine r_buildSlice (i := 7) (hfire := (fun _ => by first | (refine FireAll.cons (by first | exact a_load | exact a_un) ?_; exact FireAll.nil) | (refine fireall_fact ?_; refine FireAll.cons (by first | exact a_load | exact a_un) ?_; exact FireAll.nil))) (h := fun x49 => ?_))
                      all_goals ((refine r_own (i := 8) (hq := (Loud.convOF (o_append (sz := 14) (by exact rfl) (by exact rfl) (by repeat (first | exact OAt.head | apply OAt.tail)) (by rw [nvC_length]) (by first | exact .new .head | exact .new (.tail .head) | exact .new (.tail (.tail .head)) | exact .new (.tail (.tail (.tail .head))) | exact .new (.tail (.tail (.tail (.tail .head)))) | exact .new (.tail (.tail (.tail (.tail (.tail .head))))) | exact .new (.tail (.tail (.tail (.tail (.tail (.tail .head)))))) | exact .new (.tail (.tail (.tail (.tail (.tail (.tail (.tail .head))))))) | exact .new (.tail (.tail (.tail (.tail (.tail (.tail (.tail (.tail .head)))))))) | exact .new (.tail (.tail (.tail (.tail (.tail (.tail (.tail (.tail (.tail .head))))))))) | exact .old .head | exact .old (.tail .head) | exact .old (.tail (.tail .head)) | exact .old (.tail (.tail (.tail .head))) | exact .old (.tail (.tail (.tail (.tail .head)))) | exact .old (.tail (.tail (.tail (.tail (.tail .head))))) | exact .own .head | exact .own (.tail .head) | exact .own (.tail (.tail .head)) | exact .own (.tail (.tail (.tail .head))) | exact .own (.tail (.tail (.tail (.tail .head)))) | exact .own (.tail (.tail (.tail (.tail (.tail .head))))) | exact .own (.tail (.tail (.tail (.tail (.tail (.tail .head)))))) | exact .own (.tail (.tail (.tail (.tail (.tail (.tail (.tail .head)))))))) rfl rfl (by exact elem_nodeT rfl) rfl (by decide) (by exact sl_of rfl) (by omega)) (by intro x; simp only [setO]; exact rfl))) (hfire := (fun _ => .nil)) (h := fun x50 => ?_); try (refine r_fact (fun h50 => ?_))))
                      all_goals (refine r_nilCheck (i := 9) ?_)
                      all_goals (refine r_fieldAddr (i := 10) ?_)
                      all_goals (refine r_fieldAddr (i := 11) ?_)
                      all_goals (refine r_store (i := 12) (hfire := (fun _ => .nil)) (h := fun _ => ?_))
                      all_goals refine r_fin ?_
                      all_goals (refine k_seq ?_)
                      all_goals refine k_region ?_
                      all_goals refine j_move ?_
                      all_goals refine j_nilCheck ?_
                      all_goals refine j_fieldAddr ?_
                      all_goals refine j_fieldAddr ?_
                      all_goals refine j_load ?_
                      all_goals refine j_len ?_
                      all_goals refine j_assignL (fun _ => ?_)
                      all_goals refine l_nil ?_
                      all_goals
                        refine k_retvF Try.results67 (.tmp (by conv => { lhs; whnf }) .nil) (fun w hw => ?_)
                        have h2 := (hw.freeze .head).freeze .head
                        simp only [delO, List.nil_append] at h2
                        have h3 := h2.finH (H' := [(b, _)]) (F' := [(x35.1, refsC xs), (x40.1, prC ys)]) (O' := [_, _])
                        first | exact ⟨⟨x50.1, x50.2, x16.1, x16.2, x35.1, x35.2, x40.1, x40.2⟩, rfl, trivial, by simpa [mO, aO, mW, alV, NdV.fr, alCs, nvC_push, Nd.cells, *] using h3⟩ | exact ⟨⟨x50.1, x50.2, x24.1, x24.2, x35.1, x35.2, x40.1, x40.2⟩, rfl, trivial, by simpa [mO, aO, mW, alV, NdV.fr, alCs, nvC_push, Nd.cells, *] using h3⟩ | exact ⟨⟨x50.1, x50.2, x30.1, x30.2, x35.1, x35.2, x40.1, x40.2⟩, rfl, trivial, by simpa [mO, aO, mW, alV, NdV.fr, alCs, nvC_push, Nd.cells, *] using h3⟩ | exact ⟨⟨x50.1, x50.2, pc, cc, x35.1, x35.2, x40.1, x40.2⟩, rfl, trivial, by simpa [mO, aO, mW, alV, NdV.fr, alCs, nvC_push, Nd.cells, *] using h3⟩
                    · try (exact absurd c26 (by decide))
                      all_goals (revert c26; (first | refine cv2 ?_ | refine cv4 ?_ | refine cv6 ?_ | refine cv8 ?_ | refine cva ?_ | refine cvc ?_ | refine cve ?_ | skip); intro c26)
                      all_goals try (exfalso; omega)
                      all_goals (refine k_skip ?_)
                      all_goals (refine k_blk ?_)
                      all_goals (refine k_seq ?_)
                      all_goals refine k_region ?_
                      all_goals refine j_build0 (fun x32 => ?_)
                      all_goals refine j_fieldAddr ?_
                      all_goals refine j_load ?_
                      all_goals (refine j_append (fun x35 => ?_); try (refine l_fact (fun h35 => ?_)))
                      all_goals refine j_fieldAddr ?_
                      all_goals refine j_store (fun _ => ?_)
                      all_goals refine l_nil ?_
                      all_goals (refine k_seq ?_)
                      all_goals refine k_region ?_
                      all_goals refine j_build0 (fun x37 => ?_)
                      all_goals refine j_fieldAddr ?_
                      all_goals refine j_load ?_
                      all_goals (refine j_append (fun x40 => ?_); try (refine l_fact (fun h40 => ?_)))
                      all_goals refine j_fieldAddr ?_
                      all_goals refine j_store (fun _ => ?_)
                      all_goals refine l_nil ?_
                      all_goals (refine k_seq ?_)
                      all_goals refine k_drawF (.one 0 [] (.one 1 [] (.one 2 [] (.one 3 [] (.one 4 [] (.one 5 [] (.one 6 [] (.one 7 [5] (.one 8 [] (.one 9 [] (.one 10 [] (.one 11 [] (.one 12 [] .nil))))))))))))) ?_
                      all_goals (refine r_move (i := 0) ?_)
                      all_goals (refine r_move (i := 1) ?_)
                      all_goals (refine r_nilCheck (i := 2) ?_)
                      all_goals (refine r_fieldAddr (i := 3) ?_)
                      all_goals (refine r_fieldAddr (i := 4) ?_)
                      all_goals (refine r_load (i := 5) ?_)
                      all_goals (refine r_load (i := 6) ?_)
                      all_goals (refine r_buildSlice (i := 7) (hfire := (fun _ => by first | (refine FireAll.cons (by first | exact a_load | exact a_un) ?_; exact FireAll.nil) | (refine fireall_fact ?_; refine FireAll.cons (by first | exact a_load | exact a_un) ?_; exact FireAll.nil))) (h := fun x49 => ?_))
                      all_goals ((refine r_own (i := 8) (hq := (Loud.convOF (o_append (sz := 14) (by exact rfl) (by exact rfl) (by repeat (first | exact OAt.head | apply OAt.tail)) (by rw [nvC_length]) (by first | exact .new .head | exact .new (.tail .head) | exact .new (.tail (.tail .head)) | exact .new (.tail (.tail (.tail .head))) | exact .new (.tail (.tail (.tail (.tail .head)))) | exact .new (.tail (.tail (.tail (.tail (.tail .head))))) | exact .new (.tail (.tail (.tail (.tail (.tail (.tail .head)))))) | exact .new (.tail (.tail (.tail (.tail (.tail (.tail (.tail .head))))))) | exact .new (.tail (.tail (.tail (.tail (.tail (.tail (.tail (.tail .head)))))))) | exact .new (.tail (.tail (.tail (.tail (.tail (.tail (.tail (.tail (.tail .head))))))))) | exact .old .head | exact .old (.tail .head) | exact .old (.tail (.tail .head)) | exact .old (.tail (.tail (.tail .head))) | exact .old (.tail (.tail (.tail (.tail .head)))) | exact .old (.tail (.tail (.tail (.tail (.tail .head))))) | exact .own .head | exact .own (.tail .head) | exact .own (.tail (.tail .head)) | exact .own (.tail (.tail (.tail .head))) | exact .own (.tail (.tail (.tail (.tail .head)))) | exact .own (.tail (.tail (.tail (.tail (.tail .head))))) | exact .own (.tail (.tail (.tail (.tail (.tail (.tail .head)))))) | exact .own (.tail (.tail (.tail (.tail (.tail (.tail (.tail .head)))))))) rfl rfl (by exact elem_nodeT rfl) rfl (by decide) (by exact sl_of rfl) (by omega)) (by intro x; simp only [setO]; exact rfl))) (hfire := (fun _ => .nil)) (h := fun x50 => ?_); try (refine r_fact (fun h50 => ?_))))
                      all_goals (refine r_nilCheck (i := 9) ?_)
                      all_goals (refine r_fieldAddr (i := 10) ?_)
                      all_goals (refine r_fieldAddr (i := 11) ?_)
                      all_goals (refine r_store (i := 12) (hfire := (fun _ => .nil)) (h := fun _ => ?_))
                      all_goals refine r_fin ?_
                      all_goals (refine k_seq ?_)
                      all_goals refine k_region ?_
                      all_goals refine j_move ?_
                      all_goals refine j_nilCheck ?_
                      all_goals refine j_fieldAddr ?_
                      all_goals refine j_fieldAddr ?_
                      all_goals refine j_load ?_
                      all_goals refine j_len ?_
                      all_goals refine j_assignL (fun _ => ?_)
                      all_goals refine l_nil ?_
                      all_goals
                        refine k_retvF Try.results67 (.tmp (by conv => { lhs; whnf }) .nil) (fun w hw => ?_)
                        have h2 := (hw.freeze .head).freeze .head
                        simp only [delO, List.nil_append] at h2
                        have h3 := h2.finH (H' := [(b, _)]) (F' := [(x35.1, refsC xs), (x40.1, prC ys)]) (O' := [_, _])
                        first | exact ⟨⟨x50.1, x50.2, x16.1, x16.2, x35.1, x35.2, x40.1, x40.2⟩, rfl, trivial, by simpa [mO, aO, mW, alV, NdV.fr, alCs, nvC_push, Nd.cells, *] using h3⟩ | exact ⟨⟨x50.1, x50.2, x24.1, x24.2, x35.1, x35.2, x40.1, x40.2⟩, rfl, trivial, by simpa [mO, aO, mW, alV, NdV.fr, alCs, nvC_push, Nd.cells, *] using h3⟩ | exact ⟨⟨x50.1, x50.2, x30.1, x30.2, x35.1, x35.2, x40.1, x40.2⟩, rfl, trivial, by simpa [mO, aO, mW, alV, NdV.fr, alCs, nvC_push, Nd.cells, *] using h3⟩ | exact ⟨⟨x50.1, x50.2, pc, cc, x35.1, x35.2, x40.1, x40.2⟩, rfl, trivial, by simpa [mO, aO, mW, alV, NdV.fr, alCs, nvC_push, Nd.cells, *] using h3⟩
            · try (exact absurd c18 (by decide))
              all_goals (revert c18; (first | refine cv2 ?_ | refine cv4 ?_ | refine cv6 ?_ | refine cv8 ?_ | refine cva ?_ | refine cvc ?_ | refine cve ?_ | skip); intro c18)
              all_goals try (exfalso; omega)
              all_goals refine k_region ?_
              all_goals refine j_eql ?_
              all_goals refine j_assignL (fun _ => ?_)
              all_goals refine l_nil ?_
              all_goals
                refine k_cond (by exact rfl) (fun c18 => ?_) (fun c18 => ?_)
                · try (exact absurd c18 (by decide))
                  all_goals (revert c18; (first | refine cv1 ?_ | refine cv3 ?_ | refine cv5 ?_ | refine cv7 ?_ | refine cv9 ?_ | refine cvb ?_ | refine cvd ?_ | skip); intro c18)
                  all_goals try (exfalso; omega)
                  all_goals refine k_region ?_
                  all_goals refine j_move ?_
                  all_goals refine j_move ?_
                  all_goals (refine j_own (cM (hc := fun w hs => mNewCell_c init hs hc)) (fun x24 => ?_); try (refine l_fact (fun h24 => ?_)))
                  all_goals refine j_fieldAddr ?_
                  all_goals refine j_store (fun _ => ?_)
                  all_goals refine l_nil ?_
                  all_goals (refine k_blk ?_)
                  all_goals (refine k_seq ?_)
                  all_goals refine k_region ?_
                  all_goals refine j_build0 (fun x32 => ?_)
                  all_goals refine j_fieldAddr ?_
                  all_goals refine j_load ?_
                  all_goals (refine j_append (fun x35 => ?_); try (refine l_fact (fun h35 => ?_)))
                  all_goals refine j_fieldAddr ?_
                  all_goals refine j_store (fun _ => ?_)
                  all_goals refine l_nil ?_
                  all_goals (refine k_seq ?_)
                  all_goals refine k_region ?_
                  all_goals refine j_build0 (fun x37 => ?_)
                  all_goals refine j_fieldAddr ?_
                  all_goals refine j_load ?_
                  all_goals (refine j_append (fun x40 => ?_); try (refine l_fact (fun h40 => ?_)))
                  all_goals refine j_fieldAddr ?_
                  all_goals refine j_store (fun _ => ?_)
                  all_goals refine l_nil ?_
                  all_goals (refine k_seq ?_)
                  all_goals refine k_drawF (.one 0 [] (.one 1 [] (.one 2 [] (.one 3 [] (.one 4 [] (.one 5 [] (.one 6 [] (.one 7 [5] (.one 8 [] (.one 9 [] (.one 10 [] (.one 11 [] (.one 12 [] .nil))))))))))))) ?_
                  all_goals (refine r_move (i := 0) ?_)
                  all_goals (refine r_move (i := 1) ?_)
                  all_goals (refine r_nilCheck (i := 2) ?_)
                  all_goals (refine r_fieldAddr (i := 3) ?_)
                  all_goals (refine r_fieldAddr (i := 4) ?_)
                  all_goals (refine r_load (i := 5) ?_)
                  all_goals (refine r_load (i := 6) ?_)
                  all_goals (refine r_buildSlice (i := 7) (hfire := (fun _ => by first | (refine FireAll.cons (by first | exact a_load | exact a_un) ?_; exact FireAll.nil) | (refine fireall_fact ?_; refine FireAll.cons (by first | exact a_load | exact a_un) ?_; exact FireAll.nil))) (h := fun x49 => ?_))
                  all_goals ((refine r_own (i := 8) (hq := (Loud.convOF (o_append (sz := 14) (by exact rfl) (by exact rfl) (by repeat (first | exact OAt.head | apply OAt.tail)) (by rw [nvC_length]) (by first | exact .new .head | exact .new (.tail .head) | exact .new (.tail (.tail .head)) | exact .new (.tail (.tail (.tail .head))) | exact .new (.tail (.tail (.tail (.tail .head)))) | exact .new (.tail (.tail (.tail (.tail (.tail .head))))) | exact .new (.tail (.tail (.tail (.tail (.tail (.tail .head)))))) | exact .new (.tail (.tail (.tail (.tail (.tail (.tail (.tail .head))))))) | exact .new (.tail (.tail (.tail (.tail (.tail (.tail (.tail (.tail .head)))))))) | exact .new (.tail (.tail (.tail (.tail (.tail (.tail (.tail (.tail (.tail .head))))))))) | exact .old .head | exact .old (.tail .head) | exact .old (.tail (.tail .head)) | exact .old (.tail (.tail (.tail .head))) | exact .old (.tail (.tail (.tail (.tail .head)))) | exact .old (.tail (.tail (.tail (.tail (.tail .head))))) | exact .own .head | exact .own (.tail .head) | exact .own (.tail (.tail .head)) | exact .own (.tail (.tail (.tail .head))) | exact .own (.tail (.tail (.tail (.tail .head)))) | exact .own (.tail (.tail (.tail (.tail (.tail .head))))) | exact .own (.tail (.tail (.tail (.tail (.tail (.tail .head)))))) | exact .own (.tail (.tail (.tail (.tail (.tail (.tail (.tail .head)))))))) rfl rfl (by exact elem_nodeT rfl) rfl (by decide) (by exact sl_of rfl) (by omega)) (by intro x; simp only [setO]; exact rfl))) (hfire := (fun _ => .nil)) (h := fun x50 => ?_); try (refine r_fact (fun h50 => ?_))))
                  all_goals (refine r_nilCheck (i := 9) ?_)
                  all_goals (refine r_fieldAddr (i := 10) ?_)
                  all_goals (refine r_fieldAddr (i := 11) ?_)
                  all_goals (refine r_store (i := 12) (hfire := (fun _ => .nil)) (h := fun _ => ?_))
                  all_goals refine r_fin ?_
                  all_goals (refine k_seq ?_)
                  all_goals refine k_region ?_
                  all_goals refine j_move ?_
                  all_goals refine j_nilCheck ?_
                  all_goals refine j_fieldAddr ?_
                  all_goals refine j_fieldAddr ?_
                  all_goals refine j_load ?_
                  all_goals refine j_len ?_
                  all_goals refine j_assignL (fun _ => ?_)
                  all_goals refine l_nil ?_
                  all_goals
                    refine k_retvF Try.results67 (.tmp (by conv => { lhs; whnf }) .nil) (fun w hw => ?_)
                    have h2 := (hw.freeze .head).freeze .head
                    simp only [delO, List.nil_append] at h2
                    have h3 := h2.finH (H' := [(b, _)]) (F' := [(x35.1, refsC xs), (x40.1, prC ys)]) (O' := [_, _])
                    first | exact ⟨⟨x50.1, x50.2, x16.1, x16.2, x35.1, x35.2, x40.1, x40.2⟩, rfl, trivial, by simpa [mO, aO, mW, alV, NdV.fr, alCs, nvC_push, Nd.cells, *] using h3⟩ | exact ⟨⟨x50.1, x50.2, x24.1, x24.2, x35.1, x35.2, x40.1, x40.2⟩, rfl, trivial, by simpa [mO, aO, mW, alV, NdV.fr, alCs, nvC_push, Nd.cells, *] using h3⟩ | exact ⟨⟨x50.1, x50.2, x30.1, x30.2, x35.1, x35.2, x40.1, x40.2⟩, rfl, trivial, by simpa [mO, aO, mW, alV, NdV.fr, alCs, nvC_push, Nd.cells, *] using h3⟩ | exact ⟨⟨x50.1, x50.2, pc, cc, x35.1, x35.2, x40.1, x40.2⟩, rfl, trivial, by simpa [mO, aO, mW, alV, NdV.fr, alCs, nvC_push, Nd.cells, *] using h3⟩
                · try (exact absurd c18 (by decide))
                  all_goals (revert c18; (first | refine cv2 ?_ | refine cv4 ?_ | refine cv6 ?_ | refine cv8 ?_ | refine cva ?_ | refine cvc ?_ | refine cve ?_ | skip); intro c18)
                  all_goals try (exfalso; omega)
                  all_goals (refine k_seq ?_)
                  all_goals refine k_region ?_
                  all_goals refine j_eql ?_
                  all_goals refine j_assignL (fun _ => ?_)
                  all_goals refine l_nil ?_
                  all_goals
                    refine k_cond (by exact rfl) (fun c26 => ?_) (fun c26 => ?_)
                    · try (exact absurd c26 (by decide))
                      all_goals (revert c26; (first | refine cv1 ?_ | refine cv3 ?_ | refine cv5 ?_ | refine cv7 ?_ | refine cv9 ?_ | refine cvb ?_ | refine cvd ?_ | skip); intro c26)
                      all_goals try (exfalso; omega)
                      all_goals refine k_region ?_
                      all_goals refine j_move ?_
                      all_goals refine j_move ?_
                      all_goals (refine j_own (cM (hc := fun w hs => mNewCell_c init hs hc)) (fun x30 => ?_); try (refine l_fact (fun h30 => ?_)))
                      all_goals refine j_fieldAddr ?_
                      all_goals refine j_store (fun _ => ?_)
                      all_goals refine l_nil ?_
                      all_goals (refine k_blk ?_)
                      all_goals (refine k_seq ?_)
                      all_goals refine k_region ?_
                      all_goals refine j_build0 (fun x32 => ?_)
                      all_goals refine j_fieldAddr ?_
                      all_goals refine j_load ?_
                      all_goals (refine j_append (fun x35 => ?_); try (refine l_fact (fun h35 => ?_)))
                      all_goals refine j_fieldAddr ?_
                      all_goals refine j_store (fun _ => ?_)
                      all_goals refine l_nil ?_
                      all_goals (refine k_seq ?_)
                      all_goals refine k_region ?_
                      all_goals refine j_build0 (fun x37 => ?_)
                      all_goals refine j_fieldAddr ?_
                      all_goals refine j_load ?_
                      all_goals (refine j_append (fun x40 => ?_); try (refine l_fact (fun h40 => ?_)))
                      all_goals refine j_fieldAddr ?_
                      all_goals refine j_store (fun _ => ?_)
                      all_goals refine l_nil ?_
                      all_goals (refine k_seq ?_)
                      all_goals refine k_drawF (.one 0 [] (.one 1 [] (.one 2 [] (.one 3 [] (.one 4 [] (.one 5 [] (.one 6 [] (.one 7 [5] (.one 8 [] (.one 9 [] (.one 10 [] (.one 11 [] (.one 12 [] .nil))))))))))))) ?_
                      all_goals (refine r_move (i := 0) ?_)
                      all_goals (refine r_move (i := 1) ?_)
                      all_goals (refine r_nilCheck (i := 2) ?_)
                      all_goals (refine r_fieldAddr (i := 3) ?_)
                      all_goals (refine r_fieldAddr (i := 4) ?_)
                      all_goals (refine r_load (i := 5) ?_)
                      all_goals (refine r_load (i := 6) ?_)
                      all_goals (refine r_buildSlice (i := 7) (hfire := (fun _ => by first | (refine FireAll.cons (by first | exact a_load | exact a_un) ?_; exact FireAll.nil) | (refine fireall_fact ?_; refine FireAll.cons (by first | exact a_load | exact a_un) ?_; exact FireAll.nil))) (h := fun x49 => ?_))
                      all_goals ((refine r_own (i := 8) (hq := (Loud.convOF (o_append (sz := 14) (by exact rfl) (by exact rfl) (by repeat (first | exact OAt.head | apply OAt.tail)) (by rw [nvC_length]) (by first | exact .new .head | exact .new (.tail .head) | exact .new (.tail (.tail .head)) | exact .new (.tail (.tail (.tail .head))) | exact .new (.tail (.tail (.tail (.tail .head)))) | exact .new (.tail (.tail (.tail (.tail (.tail .head))))) | exact .new (.tail (.tail (.tail (.tail (.tail (.tail .head)))))) | exact .new (.tail (.tail (.tail (.tail (.tail (.tail (.tail .head))))))) | exact .new (.tail (.tail (.tail (.tail (.tail (.tail (.tail (.tail .head)))))))) | exact .new (.tail (.tail (.tail (.tail (.tail (.tail (.tail (.tail (.tail .head))))))))) | exact .old .head | exact .old (.tail .head) | exact .old (.tail (.tail .head)) | exact .old (.tail (.tail (.tail .head))) | exact .old (.tail (.tail (.tail (.tail .head)))) | exact .old (.tail (.tail (.tail (.tail (.tail .head))))) | exact .own .head | exact .own (.tail .head) | exact .own (.tail (.tail .head)) | exact .own (.tail (.tail (.tail .head))) | exact .own (.tail (.tail (.tail (.tail .head)))) | exact .own (.tail (.tail (.tail (.tail (.tail .head))))) | exact .own (.tail (.tail (.tail (.tail (.tail (.tail .head)))))) | exact .own (.tail (.tail (.tail (.tail (.tail (.tail (.tail .head)))))))) rfl rfl (by exact elem_nodeT rfl) rfl (by decide) (by exact sl_of rfl) (by omega)) (by intro x; simp only [setO]; exact rfl))) (hfire := (fun _ => .nil)) (h := fun x50 => ?_); try (refine r_fact (fun h50 => ?_))))
                      all_goals (refine r_nilCheck (i := 9) ?_)
                      all_goals (refine r_fieldAddr (i := 10) ?_)
                      all_goals (refine r_fieldAddr (i := 11) ?_)
                      all_goals (refine r_store (i := 12) (hfire := (fun _ => .nil)) (h := fun _ => ?_))
                      all_goals refine r_fin ?_
                      all_goals (refine k_seq ?_)
                      all_goals refine k_region ?_
                      all_goals refine j_move ?_
                      all_goals refine j_nilCheck ?_
                      all_goals refine j_fieldAddr ?_
                      all_goals refine j_fieldAddr ?_
                      all_goals refine j_load ?_
                      all_goals refine j_len ?_
                      all_goals refine j_assignL (fun _ => ?_)
                      all_goals refine l_nil ?_
                      all_goals
                        refine k_retvF Try.results67 (.tmp (by conv => { lhs; whnf }) .nil) (fun w hw => ?_)
                        have h2 := (hw.freeze .head).freeze .head
                        simp only [delO, List.nil_append] at h2
                        have h3 := h2.finH (H' := [(b, _)]) (F' := [(x35.1, refsC xs), (x40.1, prC ys)]) (O' := [_, _])
                        first | exact ⟨⟨x50.1, x50.2, x16.1, x16.2, x35.1, x35.2, x40.1, x40.2⟩, rfl, trivial, by simpa [mO, aO, mW, alV, NdV.fr, alCs, nvC_push, Nd.cells, *] using h3⟩ | exact ⟨⟨x50.1, x50.2, x24.1, x24.2, x35.1, x35.2, x40.1, x40.2⟩, rfl, trivial, by simpa [mO, aO, mW, alV, NdV.fr, alCs, nvC_push, Nd.cells, *] using h3⟩ | exact ⟨⟨x50.1, x50.2, x30.1, x30.2, x35.1, x35.2, x40.1, x40.2⟩, rfl, trivial, by simpa [mO, aO, mW, alV, NdV.fr, alCs, nvC_push, Nd.cells, *] using h3⟩ | exact ⟨⟨x50.1, x50.2, pc, cc, x35.1, x35.2, x40.1, x40.2⟩, rfl, trivial, by simpa [mO, aO, mW, alV, NdV.fr, alCs, nvC_push, Nd.cells, *] using h3⟩
                    · try (exact absurd c26 (by decide))
                      all_goals (revert c26; (first | refine cv2 ?_ | refine cv4 ?_ | refine cv6 ?_ | refine cv8 ?_ | refine cva ?_ | refine cvc ?_ | refine cve ?_ | skip); intro c26)
                      all_goals try (exfalso; omega)
                      all_goals (refine k_skip ?_)
                      all_goals (refine k_blk ?_)
                      all_goals (refine k_seq ?_)
                      all_goals refine k_region ?_
                      all_goals refine j_build0 (fun x32 => ?_)
                      all_goals refine j_fieldAddr ?_
                      all_goals refine j_load ?_
                      all_goals (refine j_append (fun x35 => ?_); try (refine l_fact (fun h35 => ?_)))
                      all_goals refine j_fieldAddr ?_
                      all_goals refine j_store (fun _ => ?_)
                      all_goals refine l_nil ?_
                      all_goals (refine k_seq ?_)
                      all_goals refine k_region ?_
                      all_goals refine j_build0 (fun x37 => ?_)
                      all_goals refine j_fieldAddr ?_
                      all_goals refine j_load ?_
                      all_goals (refine j_append (fun x40 => ?_); try (refine l_fact (fun h40 => ?_)))
                      all_goals refine j_fieldAddr ?_
                      all_goals refine j_store (fun _ => ?_)
                      all_goals refine l_nil ?_
                      all_goals (refine k_seq ?_)
                      all_goals refine k_drawF (.one 0 [] (.one 1 [] (.one 2 [] (.one 3 [] (.one 4 [] (.one 5 [] (.one 6 [] (.one 7 [5] (.one 8 [] (.one 9 [] (.one 10 [] (.one 11 [] (.one 12 [] .nil))))))))))))) ?_
                      all_goals (refine r_move (i := 0) ?_)
                      all_goals (refine r_move (i := 1) ?_)
                      all_goals (refine r_nilCheck (i := 2) ?_)
                      all_goals (refine r_fieldAddr (i := 3) ?_)
                      all_goals (refine r_fieldAddr (i := 4) ?_)
                      all_goals (refine r_load (i := 5) ?_)
                      all_goals (refine r_load (i := 6) ?_)
                      all_goals (refine r_buildSlice (i := 7) (hfire := (fun _ => by first | (refine FireAll.cons (by first | exact a_load | exact a_un) ?_; exact FireAll.nil) | (refine fireall_fact ?_; refine FireAll.cons (by first | exact a_load | exact a_un) ?_; exact FireAll.nil))) (h := fun x49 => ?_))
                      all_goals ((refine r_own (i := 8) (hq := (Loud.convOF (o_append (sz := 14) (by exact rfl) (by exact rfl) (by repeat (first | exact OAt.head | apply OAt.tail)) (by rw [nvC_length]) (by first | exact .new .head | exact .new (.tail .head) | exact .new (.tail (.tail .head)) | exact .new (.tail (.tail (.tail .head))) | exact .new (.tail (.tail (.tail (.tail .head)))) | exact .new (.tail (.tail (.tail (.tail (.tail .head))))) | exact .new (.tail (.tail (.tail (.tail (.tail (.tail .head)))))) | exact .new (.tail (.tail (.tail (.tail (.tail (.tail (.tail .head))))))) | exact .new (.tail (.tail (.tail (.tail (.tail (.tail (.tail (.tail .head)))))))) | exact .new (.tail (.tail (.tail (.tail (.tail (.tail (.tail (.tail (.tail .head))))))))) | exact .old .head | exact .old (.tail .head) | exact .old (.tail (.tail .head)) | exact .old (.tail (.tail (.tail .head))) | exact .old (.tail (.tail (.tail (.tail .head)))) | exact .old (.tail (.tail (.tail (.tail (.tail .head))))) | exact .own .head | exact .own (.tail .head) | exact .own (.tail (.tail .head)) | exact .own (.tail (.tail (.tail .head))) | exact .own (.tail (.tail (.tail (.tail .head)))) | exact .own (.tail (.tail (.tail (.tail (.tail .head))))) | exact .own (.tail (.tail (.tail (.tail (.tail (.tail .head)))))) | exact .own (.tail (.tail (.tail (.tail (.tail (.tail (.tail .head)))))))) rfl rfl (by exact elem_nodeT rfl) rfl (by decide) (by exact sl_of rfl) (by omega)) (by intro x; simp only [setO]; exact rfl))) (hfire := (fun _ => .nil)) (h := fun x50 => ?_); try (refine r_fact (fun h50 => ?_))))
                      all_goals (refine r_nilCheck (i := 9) ?_)
                      all_goals (refine r_fieldAddr (i := 10) ?_)
                      all_goals (refine r_fieldAddr (i := 11) ?_)
                      all_goals (refine r_store (i := 12) (hfire := (fun _ => .nil)) (h := fun _ => ?_))
                      all_goals refine r_fin ?_
                      all_goals (refine k_seq ?_)
                      all_goals refine k_region ?_
                      all_goals refine j_move ?_
                      all_goals refine j_nilCheck ?_
                      all_goals refine j_fieldAddr ?_
                      all_goals refine j_fieldAddr ?_
                      all_goals refine j_load ?_
                      all_goals refine j_len ?_
                      all_goals refine j_assignL (fun _ => ?_)
                      all_goals refine l_nil ?_
                      all_goals
                        refine k_retvF Try.results67 (.tmp (by conv => { lhs; whnf }) .nil) (fun w hw => ?_)
                        have h2 := (hw.freeze .head).freeze .head
                        simp only [delO, List.nil_append] at h2
                        have h3 := h2.finH (H' := [(b, _)]) (F' := [(x35.1, refsC xs), (x40.1, prC ys)]) (O' := [_, _])
                        first | exact ⟨⟨x50.1, x50.2, x16.1, x16.2, x35.1, x35.2, x40.1, x40.2⟩, rfl, trivial, by simpa [mO, aO, mW, alV, NdV.fr, alCs, nvC_push, Nd.cells, *] using h3⟩ | exact ⟨⟨x50.1, x50.2, x24.1, x24.2, x35.1, x35.2, x40.1, x40.2⟩, rfl, trivial, by simpa [mO, aO, mW, alV, NdV.fr, alCs, nvC_push, Nd.cells, *] using h3⟩ | exact ⟨⟨x50.1, x50.2, x30.1, x30.2, x35.1, x35.2, x40.1, x40.2⟩, rfl, trivial, by simpa [mO, aO, mW, alV, NdV.fr, alCs, nvC_push, Nd.cells, *] using h3⟩ | exact ⟨⟨x50.1, x50.2, pc, cc, x35.1, x35.2, x40.1, x40.2⟩, rfl, trivial, by simpa [mO, aO, mW, alV, NdV.fr, alCs, nvC_push, Nd.cells, *] using h3⟩
theorem aNodesR_c {m c : Nat} {p : Option Addr} {v1 v2 v3 : Value} (hs : SF w D [(b, .cells ⟨[.slice p m c, v1, v2, v3]⟩ 123 (0, 0))] A [] [] w) (hl : m ≤ 274877906945) : Calls Try.prog 78 #[.pointer (some ⟨b, 0, none⟩)] w fun e w' => ∃ q : Unit, e = .returned (.int .i64 ((m + 2 : Nat) : Int)) ∧ True ∧
    SF w D [(b, .cells ⟨[.slice p m c, v1, v2, v3]⟩ 123 (0, 0))] [] [] [] w' := by
  refine enter Try.func78 Try.ntmps78 rfl rfl hs ?_
  simp only [mkS]
  all_goals (refine k_seq ?_)
  all_goals refine k_region ?_
  all_goals refine j_assignL (fun _ => ?_)
  all_goals refine l_nil ?_
  all_goals (refine k_seq ?_)
  all_goals refine k_region ?_
  all_goals refine j_move ?_
  all_goals refine j_nilCheck ?_
  all_goals refine j_fieldAddr ?_
  all_goals refine j_load ?_
  all_goals refine j_len ?_
  all_goals refine j_add ?_
  all_goals refine j_assignL (fun _ => ?_)
  all_goals refine l_nil ?_
  all_goals
    refine k_retvF Try.results78 (.tmp (by conv => { lhs; whnf }) .nil) (fun w hw => ?_)
    exact ⟨(), by rw [show (2 : Int) + (m : Int) = ((m + 2 : Nat) : Int) by omega]; rfl, trivial, hw.finH⟩
theorem aAlloc_c {n : Nd} {xs : List Int} {ys : List Pr} (init : Int) (hs : SF w D [(b, aO L cs gen acc pn cn pc cc)] [(n.brA, refsC xs), (n.prA, prC ys)] [] (mW L cs pn cn pc cc) w) (e1 : n.brN = xs.length) (e2 : n.prN = ys.length) (h1 : xs.length ≤ 274877906944) (h2 : ys.length ≤ 274877906944)
    (hl : L.length ≤ 274877906944) (hc : cs.length ≤ 274877906944) :
    Calls Try.prog 33 #[.pointer (some ⟨b, 0, none⟩), n.v, .int .i64 init] w fun e w' => ∃ x : AX, e = .returned (.int .i64 ((L.length + 3 : Nat) : Int)) ∧ True ∧
      SF w D [(b, aO (L ++ [alV n xs ys cs.length x]) (alCs n.kind cs init) gen acc x.pn x.cn x.pc x.cc)] [] (alV n xs ys cs.length x).fr (mW (L ++ [alV n xs ys cs.length x]) (alCs n.kind cs init) x.pn x.cn x.pc x.cc) w' := by
  refine enter Try.func33 Try.ntmps33 rfl rfl (aOpen hs) ?_
  simp only [mkS]
  simp only [Nd.v, Nd.cells]
  all_goals (refine k_seq ?_)
  all_goals refine k_region ?_
  all_goals refine j_box (fun x4 => ?_)
  all_goals refine j_assignL (fun _ => ?_)
  all_goals refine l_nil ?_
  all_goals (refine k_seq ?_)
  all_goals refine k_region ?_
  all_goals refine j_load ?_
  all_goals (refine j_own (cF (V := fun p : Option Addr × Option Addr => .agg ⟨[.int .i64 n.kind, .int .i64 n.gen, .int .i64 n.main, .int .u64 n.bm, .slice p.1 n.brN xs.length, .int .u64 n.hash, .string n.key, .int .u64 n.val, .slice p.2 n.prN ys.length, .int .i64 n.prev, .int .i64 n.old, .int .i64 n.exp, .int .i64 n.new, .int .i64 n.status]⟩) (hc := fun w1 hw => clone_c (n := n) ⟨e1, e2, hw.cl (.old .head), hw.cl (.old (.tail .head)), by omega, by omega⟩ (by omega) (by omega))) (fun x8 => ?_); try (refine l_fact (fun h8 => ?_)))
  all_goals refine j_store (fun _ => ?_)
  all_goals refine l_nil ?_
  all_goals (refine k_seq ?_)
  all_goals refine k_region ?_
  all_goals refine j_fieldAddr ?_
  all_goals refine j_store (fun _ => ?_)
  all_goals refine j_fieldAddr ?_
  all_goals refine j_store (fun _ => ?_)
  all_goals refine j_fieldAddr ?_
  all_goals refine j_store (fun _ => ?_)
  all_goals refine l_nil ?_
  all_goals (refine k_seq ?_)
  all_goals (refine k_block ?_)
  all_goals (refine k_seq ?_)
  all_goals refine k_region ?_
  all_goals refine j_fieldAddr ?_
  all_goals refine j_load ?_
  all_goals refine j_eql ?_
  all_goals refine j_assignL (fun _ => ?_)
  all_goals refine l_nil ?_
  all_goals
    refine k_cond (by exact rfl) (fun c12 => ?_) (fun c12 => ?_)
    · try (exact absurd c12 (by decide))
      all_goals (revert c12; (first | refine cv1 ?_ | refine cv3 ?_ | refine cv5 ?_ | refine cv7 ?_ | refine cv9 ?_ | refine cvb ?_ | refine cvd ?_ | skip); intro c12)
      all_goals try (exfalso; omega)
      all_goals refine k_region ?_
      all_goals refine j_move ?_
      all_goals refine j_move ?_
      all_goals (refine j_own (cM (hc := fun w hs => aNewCell_c init hs hc)) (fun x18 => ?_); try (refine l_fact (fun h18 => ?_)))
      all_goals refine j_fieldAddr ?_
      all_goals refine j_store (fun _ => ?_)
      all_goals refine l_nil ?_
      all_goals (refine k_blk ?_)
      all_goals (refine k_seq ?_)
      all_goals refine k_drawF (.one 0 [] (.one 1 [] (.one 2 [] (.one 3 [] (.one 4 [] (.one 5 [] (.one 6 [4] (.one 7 [] (.one 8 [] (.one 9 [] (.one 10 [] .nil))))))))))) ?_
      all_goals (refine r_move (i := 0) ?_)
      all_goals (refine r_move (i := 1) ?_)
      all_goals (refine r_nilCheck (i := 2) ?_)
      all_goals (refine r_fieldAddr (i := 3) ?_)
      all_goals (refine r_load (i := 4) ?_)
      all_goals (refine r_load (i := 5) ?_)
      all_goals (refine r_buildSlice (i := 6) (hfire := (fun _ => by first | (refine FireAll.cons (by first | exact a_load | exact a_un) ?_; exact FireAll.nil) | (refine fireall_fact ?_; refine FireAll.cons (by first | exact a_load | exact a_un) ?_; exact FireAll.nil))) (h := fun x41 => ?_))
      all_goals ((refine r_own (i := 7) (hq := (Loud.convOF (o_append (sz := 14) (by exact rfl) (by exact rfl) (by repeat (first | exact OAt.head | apply OAt.tail)) (by rw [nvC_length]) (by first | exact .new .head | exact .new (.tail .head) | exact .new (.tail (.tail .head)) | exact .new (.tail (.tail (.tail .head))) | exact .new (.tail (.tail (.tail (.tail .head)))) | exact .new (.tail (.tail (.tail (.tail (.tail .head))))) | exact .new (.tail (.tail (.tail (.tail (.tail (.tail .head)))))) | exact .new (.tail (.tail (.tail (.tail (.tail (.tail (.tail .head))))))) | exact .new (.tail (.tail (.tail (.tail (.tail (.tail (.tail (.tail .head)))))))) | exact .new (.tail (.tail (.tail (.tail (.tail (.tail (.tail (.tail (.tail .head))))))))) | exact .old .head | exact .old (.tail .head) | exact .old (.tail (.tail .head)) | exact .old (.tail (.tail (.tail .head))) | exact .old (.tail (.tail (.tail (.tail .head)))) | exact .old (.tail (.tail (.tail (.tail (.tail .head))))) | exact .own .head | exact .own (.tail .head) | exact .own (.tail (.tail .head)) | exact .own (.tail (.tail (.tail .head))) | exact .own (.tail (.tail (.tail (.tail .head)))) | exact .own (.tail (.tail (.tail (.tail (.tail .head))))) | exact .own (.tail (.tail (.tail (.tail (.tail (.tail .head)))))) | exact .own (.tail (.tail (.tail (.tail (.tail (.tail (.tail .head)))))))) rfl rfl (by exact elem_nodeT rfl) rfl (by decide) (by exact sl_of rfl) (by omega)) (by intro x; simp only [setO]; exact rfl))) (hfire := (fun _ => .nil)) (h := fun x42 => ?_); try (refine r_fact (fun h42 => ?_))))
      all_goals (refine r_nilCheck (i := 8) ?_)
      all_goals (refine r_fieldAddr (i := 9) ?_)
      all_goals (refine r_store (i := 10) (hfire := (fun _ => .nil)) (h := fun _ => ?_))
      all_goals refine r_fin ?_
      all_goals (refine k_seq ?_)
      all_goals refine k_region ?_
      all_goals refine j_move ?_
      all_goals (refine j_own (cM (hc := fun w hs => aNodesR_c (m := L.length + 1) hs (by omega))) (fun x46 => ?_); try (refine l_fact (fun h46 => ?_)))
      all_goals refine j_assignL (fun _ => ?_)
      all_goals refine l_nil ?_
      all_goals
        refine k_retvF Try.results33 (.tmp (by conv => { lhs; whnf }) .nil) (fun w hw => ?_)
        have h3 := hw.finH (H' := [(b, _)]) (F' := [(x8.1, refsC xs), (x8.2, prC ys)]) (O' := [_, _])
        first | exact ⟨⟨x42.1, x42.2, x18.1, x18.2, x8.1, xs.length, x8.2, ys.length⟩, rfl, trivial, by simpa [mO, aO, mW, alV, NdV.fr, alCs, nvC_push, Nd.cells, *] using h3⟩ | exact ⟨⟨x42.1, x42.2, x25.1, x25.2, x8.1, xs.length, x8.2, ys.length⟩, rfl, trivial, by simpa [mO, aO, mW, alV, NdV.fr, alCs, nvC_push, Nd.cells, *] using h3⟩ | exact ⟨⟨x42.1, x42.2, x33.1, x33.2, x8.1, xs.length, x8.2, ys.length⟩, rfl, trivial, by simpa [mO, aO, mW, alV, NdV.fr, alCs, nvC_push, Nd.cells, *] using h3⟩ | exact ⟨⟨x42.1, x42.2, pc, cc, x8.1, xs.length, x8.2, ys.length⟩, rfl, trivial, by simpa [mO, aO, mW, alV, NdV.fr, alCs, nvC_push, Nd.cells, *] using h3⟩
    · try (exact absurd c12 (by decide))
      all_goals (revert c12; (first | refine cv2 ?_ | refine cv4 ?_ | refine cv6 ?_ | refine cv8 ?_ | refine cva ?_ | refine cvc ?_ | refine cve ?_ | skip); intro c12)
      all_goals try (exfalso; omega)
      all_goals (refine k_seq ?_)
      all_goals refine k_region ?_
      all_goals refine j_load ?_
      all_goals (refine j_own (c0 (V := .bool) (hc := fun w1 hw => main_c ({ n with main := 0, prev := 0, status := 0, brA := x8.1, brC := xs.length, prA := x8.2, prC := ys.length } : Nd) w1)) (fun x22 => ?_); try (refine l_fact (fun h22 => ?_)))
      all_goals refine j_assignL (fun _ => ?_)
      all_goals refine l_nil ?_
      all_goals
        refine k_cond (by exact rfl) (fun c20 => ?_) (fun c20 => ?_)
        · try (exact absurd c20 (by decide))
          all_goals (revert c20; (first | refine cv1 ?_ | refine cv3 ?_ | refine cv5 ?_ | refine cv7 ?_ | refine cv9 ?_ | refine cvb ?_ | refine cvd ?_ | skip); intro c20)
          all_goals try (exfalso; omega)
          all_goals
            have k22 : n.kind = 3 ∨ n.kind = 5 ∨ n.kind = 6 := h22.1 c20
            rcases k22 with k22 | k22 | k22
          all_goals refine k_region ?_
          all_goals refine j_move ?_
          all_goals refine j_move ?_
          all_goals (refine j_own (cM (hc := fun w hs => aNewCell_c init hs hc)) (fun x25 => ?_); try (refine l_fact (fun h25 => ?_)))
          all_goals refine j_fieldAddr ?_
          all_goals refine j_store (fun _ => ?_)
          all_goals refine l_nil ?_
          all_goals (refine k_blk ?_)
          all_goals (refine k_seq ?_)
          all_goals refine k_drawF (.one 0 [] (.one 1 [] (.one 2 [] (.one 3 [] (.one 4 [] (.one 5 [] (.one 6 [4] (.one 7 [] (.one 8 [] (.one 9 [] (.one 10 [] .nil))))))))))) ?_
          all_goals (refine r_move (i := 0) ?_)
          all_goals (refine r_move (i := 1) ?_)
          all_goals (refine r_nilCheck (i := 2) ?_)
          all_goals (refine r_fieldAddr (i := 3) ?_)
          all_goals (refine r_load (i := 4) ?_)
          all_goals (refine r_load (i := 5) ?_)
          all_goals (refine r_buildSlice (i := 6) (hfire := (fun _ => by first | (refine FireAll.cons (by first | exact a_load | exact a_un) ?_; exact FireAll.nil) | (refine fireall_fact ?_; refine FireAll.cons (by first | exact a_load | exact a_un) ?_; exact FireAll.nil))) (h := fun x41 => ?_))
          all_goals ((refine r_own (i := 7) (hq := (Loud.convOF (o_append (sz := 14) (by exact rfl) (by exact rfl) (by repeat (first | exact OAt.head | apply OAt.tail)) (by rw [nvC_length]) (by first | exact .new .head | exact .new (.tail .head) | exact .new (.tail (.tail .head)) | exact .new (.tail (.tail (.tail .head))) | exact .new (.tail (.tail (.tail (.tail .head)))) | exact .new (.tail (.tail (.tail (.tail (.tail .head))))) | exact .new (.tail (.tail (.tail (.tail (.tail (.tail .head)))))) | exact .new (.tail (.tail (.tail (.tail (.tail (.tail (.tail .head))))))) | exact .new (.tail (.tail (.tail (.tail (.tail (.tail (.tail (.tail .head)))))))) | exact .new (.tail (.tail (.tail (.tail (.tail (.tail (.tail (.tail (.tail .head))))))))) | exact .old .head | exact .old (.tail .head) | exact .old (.tail (.tail .head)) | exact .old (.tail (.tail (.tail .head))) | exact .old (.tail (.tail (.tail (.tail .head)))) | exact .old (.tail (.tail (.tail (.tail (.tail .head))))) | exact .own .head | exact .own (.tail .head) | exact .own (.tail (.tail .head)) | exact .own (.tail (.tail (.tail .head))) | exact .own (.tail (.tail (.tail (.tail .head)))) | exact .own (.tail (.tail (.tail (.tail (.tail .head))))) | exact .own (.tail (.tail (.tail (.tail (.tail (.tail .head)))))) | exact .own (.tail (.tail (.tail (.tail (.tail (.tail (.tail .head)))))))) rfl rfl (by exact elem_nodeT rfl) rfl (by decide) (by exact sl_of rfl) (by omega)) (by intro x; simp only [setO]; exact rfl))) (hfire := (fun _ => .nil)) (h := fun x42 => ?_); try (refine r_fact (fun h42 => ?_))))
          all_goals (refine r_nilCheck (i := 8) ?_)
          all_goals (refine r_fieldAddr (i := 9) ?_)
          all_goals (refine r_store (i := 10) (hfire := (fun _ => .nil)) (h := fun _ => ?_))
          all_goals refine r_fin ?_
          all_goals (refine k_seq ?_)
          all_goals refine k_region ?_
          all_goals refine j_move ?_
          all_goals (refine j_own (cM (hc := fun w hs => aNodesR_c (m := L.length + 1) hs (by omega))) (fun x46 => ?_); try (refine l_fact (fun h46 => ?_)))
          all_goals refine j_assignL (fun _ => ?_)
          all_goals refine l_nil ?_
          all_goals
            refine k_retvF Try.results33 (.tmp (by conv => { lhs; whnf }) .nil) (fun w hw => ?_)
            have h3 := hw.finH (H' := [(b, _)]) (F' := [(x8.1, refsC xs), (x8.2, prC ys)]) (O' := [_, _])
            first | exact ⟨⟨x42.1, x42.2, x18.1, x18.2, x8.1, xs.length, x8.2, ys.length⟩, rfl, trivial, by simpa [mO, aO, mW, alV, NdV.fr, alCs, nvC_push, Nd.cells, *] using h3⟩ | exact ⟨⟨x42.1, x42.2, x25.1, x25.2, x8.1, xs.length, x8.2, ys.length⟩, rfl, trivial, by simpa [mO, aO, mW, alV, NdV.fr, alCs, nvC_push, Nd.cells, *] using h3⟩ | exact ⟨⟨x42.1, x42.2, x33.1, x33.2, x8.1, xs.length, x8.2, ys.length⟩, rfl, trivial, by simpa [mO, aO, mW, alV, NdV.fr, alCs, nvC_push, Nd.cells, *] using h3⟩ | exact ⟨⟨x42.1, x42.2, pc, cc, x8.1, xs.length, x8.2, ys.length⟩, rfl, trivial, by simpa [mO, aO, mW, alV, NdV.fr, alCs, nvC_push, Nd.cells, *] using h3⟩
        · try (exact absurd c20 (by decide))
          all_goals (revert c20; (first | refine cv2 ?_ | refine cv4 ?_ | refine cv6 ?_ | refine cv8 ?_ | refine cva ?_ | refine cvc ?_ | refine cve ?_ | skip); intro c20)
          all_goals try (exfalso; omega)
          all_goals
            have k22 : ¬ (n.kind = 3 ∨ n.kind = 5 ∨ n.kind = 6) := fun k => by rw [h22.2 k] at c20; cases c20
            obtain ⟨k3, k56⟩ := not_or.1 k22
            obtain ⟨k5, k6⟩ := not_or.1 k56
          all_goals (refine k_seq ?_)
          all_goals refine k_region ?_
          all_goals refine j_fieldAddr ?_
          all_goals refine j_load ?_
          all_goals refine j_eql ?_
          all_goals refine j_assignL (fun _ => ?_)
          all_goals refine l_nil ?_
          all_goals
            refine k_cond (by exact rfl) (fun c27 => ?_) (fun c27 => ?_)
            · try (exact absurd c27 (by decide))
              all_goals (revert c27; (first | refine cv1 ?_ | refine cv3 ?_ | refine cv5 ?_ | refine cv7 ?_ | refine cv9 ?_ | refine cvb ?_ | refine cvd ?_ | skip); intro c27)
              all_goals try (exfalso; omega)
              all_goals refine k_region ?_
              all_goals refine j_move ?_
              all_goals refine j_move ?_
              all_goals (refine j_own (cM (hc := fun w hs => aNewCell_c init hs hc)) (fun x33 => ?_); try (refine l_fact (fun h33 => ?_)))
              all_goals refine j_fieldAddr ?_
              all_goals refine j_store (fun _ => ?_)
              all_goals refine l_nil ?_
              all_goals (refine k_blk ?_)
              all_goals (refine k_seq ?_)
              all_goals refine k_drawF (.one 0 [] (.one 1 [] (.one 2 [] (.one 3 [] (.one 4 [] (.one 5 [] (.one 6 [4] (.one 7 [] (.one 8 [] (.one 9 [] (.one 10 [] .nil))))))))))) ?_
              all_goals (refine r_move (i := 0) ?_)
              all_goals (refine r_move (i := 1) ?_)
              all_goals (refine r_nilCheck (i := 2) ?_)
              all_goals (refine r_fieldAddr (i := 3) ?_)
              all_goals (refine r_load (i := 4) ?_)
              all_goals (refine r_load (i := 5) ?_)
              all_goals (refine r_buildSlice (i := 6) (hfire := (fun _ => by first | (refine FireAll.cons (by first | exact a_load | exact a_un) ?_; exact FireAll.nil) | (refine fireall_fact ?_; refine FireAll.cons (by first | exact a_load | exact a_un) ?_; exact FireAll.nil))) (h := fun x41 => ?_))
              all_goals ((refine r_own (i := 7) (hq := (Loud.convOF (o_append (sz := 14) (by exact rfl) (by exact rfl) (by repeat (first | exact OAt.head | apply OAt.tail)) (by rw [nvC_length]) (by first | exact .new .head | exact .new (.tail .head) | exact .new (.tail (.tail .head)) | exact .new (.tail (.tail (.tail .head))) | exact .new (.tail (.tail (.tail (.tail .head)))) | exact .new (.tail (.tail (.tail (.tail (.tail .head))))) | exact .new (.tail (.tail (.tail (.tail (.tail (.tail .head)))))) | exact .new (.tail (.tail (.tail (.tail (.tail (.tail (.tail .head))))))) | exact .new (.tail (.tail (.tail (.tail (.tail (.tail (.tail (.tail .head)))))))) | exact .new (.tail (.tail (.tail (.tail (.tail (.tail (.tail (.tail (.tail .head))))))))) | exact .old .head | exact .old (.tail .head) | exact .old (.tail (.tail .head)) | exact .old (.tail (.tail (.tail .head))) | exact .old (.tail (.tail (.tail (.tail .head)))) | exact .old (.tail (.tail (.tail (.tail (.tail .head))))) | exact .own .head | exact .own (.tail .head) | exact .own (.tail (.tail .head)) | exact .own (.tail (.tail (.tail .head))) | exact .own (.tail (.tail (.tail (.tail .head)))) | exact .own (.tail (.tail (.tail (.tail (.tail .head))))) | exact .own (.tail (.tail (.tail (.tail (.tail (.tail .head)))))) | exact .own (.tail (.tail (.tail (.tail (.tail (.tail (.tail .head)))))))) rfl rfl (by exact elem_nodeT rfl) rfl (by decide) (by exact sl_of rfl) (by omega)) (by intro x; simp only [setO]; exact rfl))) (hfire := (fun _ => .nil)) (h := fun x42 => ?_); try (refine r_fact (fun h42 => ?_))))
              all_goals (refine r_nilCheck (i := 8) ?_)
              all_goals (refine r_fieldAddr (i := 9) ?_)
              all_goals (refine r_store (i := 10) (hfire := (fun _ => .nil)) (h := fun _ => ?_))
              all_goals refine r_fin ?_
              all_goals (refine k_seq ?_)
              all_goals refine k_region ?_
              all_goals refine j_move ?_
              all_goals (refine j_own (cM (hc := fun w hs => aNodesR_c (m := L.length + 1) hs (by omega))) (fun x46 => ?_); try (refine l_fact (fun h46 => ?_)))
              all_goals refine j_assignL (fun _ => ?_)
              all_goals refine l_nil ?_
              all_goals
                refine k_retvF Try.results33 (.tmp (by conv => { lhs; whnf }) .nil) (fun w hw => ?_)
                have h3 := hw.finH (H' := [(b, _)]) (F' := [(x8.1, refsC xs), (x8.2, prC ys)]) (O' := [_, _])
                first | exact ⟨⟨x42.1, x42.2, x18.1, x18.2, x8.1, xs.length, x8.2, ys.length⟩, rfl, trivial, by simpa [mO, aO, mW, alV, NdV.fr, alCs, nvC_push, Nd.cells, *] using h3⟩ | exact ⟨⟨x42.1, x42.2, x25.1, x25.2, x8.1, xs.length, x8.2, ys.length⟩, rfl, trivial, by simpa [mO, aO, mW, alV, NdV.fr, alCs, nvC_push, Nd.cells, *] using h3⟩ | exact ⟨⟨x42.1, x42.2, x33.1, x33.2, x8.1, xs.length, x8.2, ys.length⟩, rfl, trivial, by simpa [mO, aO, mW, alV, NdV.fr, alCs, nvC_push, Nd.cells, *] using h3⟩ | exact ⟨⟨x42.1, x42.2, pc, cc, x8.1, xs.length, x8.2, ys.length⟩, rfl, trivial, by simpa [mO, aO, mW, alV, NdV.fr, alCs, nvC_push, Nd.cells, *] using h3⟩
            · try (exact absurd c27 (by decide))
              all_goals (revert c27; (first | refine cv2 ?_ | refine cv4 ?_ | refine cv6 ?_ | refine cv8 ?_ | refine cva ?_ | refine cvc ?_ | refine cve ?_ | skip); intro c27)
              all_goals try (exfalso; omega)
              all_goals (refine k_skip ?_)
              all_goals (refine k_blk ?_)
              all_goals (refine k_seq ?_)
              all_goals refine k_drawF (.one 0 [] (.one 1 [] (.one 2 [] (.one 3 [] (.one 4 [] (.one 5 [] (.one 6 [4] (.one 7 [] (.one 8 [] (.one 9 [] (.one 10 [] .nil))))))))))) ?_
              all_goals (refine r_move (i := 0) ?_)
              all_goals (refine r_move (i := 1) ?_)
              all_goals (refine r_nilCheck (i := 2) ?_)
              all_goals (refine r_fieldAddr (i := 3) ?_)
              all_goals (refine r_load (i := 4) ?_)
              all_goals (refine r_load (i := 5) ?_)
              all_goals (refine r_buildSlice (i := 6) (hfire := (fun _ => by first | (refine FireAll.cons (by first | exact a_load | exact a_un) ?_; exact FireAll.nil) | (refine fireall_fact ?_; refine FireAll.cons (by first | exact a_load | exact a_un) ?_; exact FireAll.nil))) (h := fun x41 => ?_))
              all_goals ((refine r_own (i := 7) (hq := (Loud.convOF (o_append (sz := 14) (by exact rfl) (by exact rfl) (by repeat (first | exact OAt.head | apply OAt.tail)) (by rw [nvC_length]) (by first | exact .new .head | exact .new (.tail .head) | exact .new (.tail (.tail .head)) | exact .new (.tail (.tail (.tail .head))) | exact .new (.tail (.tail (.tail (.tail .head)))) | exact .new (.tail (.tail (.tail (.tail (.tail .head))))) | exact .new (.tail (.tail (.tail (.tail (.tail (.tail .head)))))) | exact .new (.tail (.tail (.tail (.tail (.tail (.tail (.tail .head))))))) | exact .new (.tail (.tail (.tail (.tail (.tail (.tail (.tail (.tail .head)))))))) | exact .new (.tail (.tail (.tail (.tail (.tail (.tail (.tail (.tail (.tail .head))))))))) | exact .old .head | exact .old (.tail .head) | exact .old (.tail (.tail .head)) | exact .old (.tail (.tail (.tail .head))) | exact .old (.tail (.tail (.tail (.tail .head)))) | exact .old (.tail (.tail (.tail (.tail (.tail .head))))) | exact .own .head | exact .own (.tail .head) | exact .own (.tail (.tail .head)) | exact .own (.tail (.tail (.tail .head))) | exact .own (.tail (.tail (.tail (.tail .head)))) | exact .own (.tail (.tail (.tail (.tail (.tail .head))))) | exact .own (.tail (.tail (.tail (.tail (.tail (.tail .head)))))) | exact .own (.tail (.tail (.tail (.tail (.tail (.tail (.tail .head)))))))) rfl rfl (by exact elem_nodeT rfl) rfl (by decide) (by exact sl_of rfl) (by omega)) (by intro x; simp only [setO]; exact rfl))) (hfire := (fun _ => .nil)) (h := fun x42 => ?_); try (refine r_fact (fun h42 => ?_))))
              all_goals (refine r_nilCheck (i := 8) ?_)
              all_goals (refine r_fieldAddr (i := 9) ?_)
              all_goals (refine r_store (i := 10) (hfire := (fun _ => .nil)) (h := fun _ => ?_))
              all_goals refine r_fin ?_
              all_goals (refine k_seq ?_)
              all_goals refine k_region ?_
              all_goals refine j_move ?_
              all_goals (refine j_own (cM (hc := fun w hs => aNodesR_c (m := L.length + 1) hs (by omega))) (fun x46 => ?_); try (refine l_fact (fun h46 => ?_)))
              all_goals refine j_assignL (fun _ => ?_)
              all_goals refine l_nil ?_
              all_goals
                refine k_retvF Try.results33 (.tmp (by conv => { lhs; whnf }) .nil) (fun w hw => ?_)
                have h3 := hw.finH (H' := [(b, _)]) (F' := [(x8.1, refsC xs), (x8.2, prC ys)]) (O' := [_, _])
                first | exact ⟨⟨x42.1, x42.2, x18.1, x18.2, x8.1, xs.length, x8.2, ys.length⟩, rfl, trivial, by simpa [mO, aO, mW, alV, NdV.fr, alCs, nvC_push, Nd.cells, *] using h3⟩ | exact ⟨⟨x42.1, x42.2, x25.1, x25.2, x8.1, xs.length, x8.2, ys.length⟩, rfl, trivial, by simpa [mO, aO, mW, alV, NdV.fr, alCs, nvC_push, Nd.cells, *] using h3⟩ | exact ⟨⟨x42.1, x42.2, x33.1, x33.2, x8.1, xs.length, x8.2, ys.length⟩, rfl, trivial, by simpa [mO, aO, mW, alV, NdV.fr, alCs, nvC_push, Nd.cells, *] using h3⟩ | exact ⟨⟨x42.1, x42.2, pc, cc, x8.1, xs.length, x8.2, ys.length⟩, rfl, trivial, by simpa [mO, aO, mW, alV, NdV.fr, alCs, nvC_push, Nd.cells, *] using h3⟩
end Go.Proofs.Ytmogngagpphnhaa
