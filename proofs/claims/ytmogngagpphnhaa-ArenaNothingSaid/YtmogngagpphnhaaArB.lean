/- ArenaAtomic: the walk. -/
import Derived.Test.YtmogngagpphnhaaArA
set_option linter.unusedSimpArgs false
set_option linter.unusedVariables false
namespace Go.Ct
open Go Go.RowKit
theorem SF.stAt {w0 w : World} {M : List Nat} {H : List (Nat × Obj)} {A F : Fr} {O : List Ow} (h : SF w0 M H A F O w) {L : List NdV} {cs : List Int} {pn pc : Option Addr} (h1 : Has A F O (pn, nvC L)) (h2 : Has A F O (pc, refsC cs)) (h3 : ∀ f ∈ famF L, Has A F O f) (hf : Fits L) : StAt w L cs pn pc :=
  ⟨h.clH h1, h.clH h2, fun f hm => h.clH (h3 f hm), hf⟩
theorem cell_le {L : List NdV} {cs : List Int} {gen : Int} (h : Proper L cs gen) (hL : L.length ≤ 10) {c : Int} (h1 : 1 ≤ c) (h2 : c ≤ cs.length + 1) : CasOk (cs ++ [1]) c (cellV (cs ++ [1]) c) ∧ cellV (cs ++ [1]) c ≤ 10 := by
  obtain ⟨k, rfl⟩ : ∃ k : Nat, c = ((k + 1 : Nat) : Int) := ⟨(c - 1).toNat, by omega⟩
  have hk : k < (cs ++ [1]).length := by simp only [List.length_append, List.length_cons, List.length_nil]; omega
  rw [cellV_at hk]
  refine ⟨(cas_eq hk rfl).1 rfl, ?_⟩
  rw [List.getD_eq_getElem?_getD]
  by_cases hlt : k < cs.length
  · rw [List.getElem?_append_left hlt, ← List.getD_eq_getElem?_getD]
    have := (h.cells k hlt).2
    omega
  · simp only [List.length_append, List.length_cons, List.length_nil] at hk
    rw [List.getElem?_append_right (by omega), show k - cs.length = 0 by omega]
    decide
theorem cellV_cas {cs : List Int} {c old new : Int} (h : CasOk cs c old) : cellV (casL cs c old new) c = new := by
  unfold cellV casL
  have h' := h
  obtain ⟨h1, h2, h3⟩ := h'
  rw [if_pos (c := 1 ≤ c ∧ c ≤ (cs.length : Int) ∧ cs.getD (c - 1).toNat 0 = old) ⟨h1, h2, h3⟩, if_pos ⟨h1, by rw [List.length_set]; exact h2⟩, List.getD_eq_getElem?_getD, List.getElem?_set_self (by omega)]
  rfl
theorem cas_twice {cs : List Int} {c old new : Int} (h : CasOk cs c old) (h0 : old ≠ new) : ¬ CasOk (casL cs c old new) c old := by
  intro h2
  have e := cellV_cas (new := new) h
  obtain ⟨g1, g2, g3⟩ := h2
  unfold cellV at e
  rw [if_pos (And.intro g1 g2), g3] at e
  exact h0 e
end Go.Ct
namespace Go.Proofs.Ytmogngagpphnhaa
open Go.RowKit Go.Ct
theorem arenaAtomic_c {l : List Int} {p : Option Addr} {c : Nat} (i1 i2 : Int) {w : World} (hc : Cl w p (refsC l)) (hl : l.length ≤ 17592186043904) (r1 : 0 ≤ i1 ∧ i1 ≤ 255) (r2 : 0 ≤ i2 ∧ i2 ≤ 255) :
    Calls Try.prog 3 #[.slice p l.length c, .int .u8 i1, .int .u8 i2] w fun e w' => e = .returned (.bool true) ∧ St w [] [] w' := by
  refine enter Try.func3 Try.ntmps3 rfl rfl (SF.s1 hc) ?_
  simp only [mkS]
  all_goals (refine k_seq ?_)
  all_goals refine k_region ?_
  all_goals refine j_assignL (fun _ => ?_)
  all_goals refine l_nil ?_
  all_goals (refine k_seq ?_)
  all_goals refine k_region ?_
  all_goals refine j_move ?_
  all_goals (refine j_own (cFH (Fc := fun _ => []) (Oc := fun _ => []) (hc := fun w1 hw => new_c)) (fun x15 => ?_); try (refine l_fact (fun h15 => ?_)))
  all_goals (refine j_own (cF1 (hc := fun w1 hw => mMem_c (hw.tape (by repeat (first | exact At.head | apply At.tail)) (by first | exact .new .head | exact .new (.tail .head) | exact .new (.tail (.tail .head)) | exact .new (.tail (.tail (.tail .head))) | exact .new (.tail (.tail (.tail (.tail .head)))) | exact .new (.tail (.tail (.tail (.tail (.tail .head))))) | exact .new (.tail (.tail (.tail (.tail (.tail (.tail .head)))))) | exact .new (.tail (.tail (.tail (.tail (.tail (.tail (.tail .head))))))) | exact .new (.tail (.tail (.tail (.tail (.tail (.tail (.tail (.tail .head)))))))) | exact .new (.tail (.tail (.tail (.tail (.tail (.tail (.tail (.tail (.tail .head))))))))) | exact .old .head | exact .old (.tail .head) | exact .old (.tail (.tail .head)) | exact .old (.tail (.tail (.tail .head))) | exact .old (.tail (.tail (.tail (.tail .head)))) | exact .old (.tail (.tail (.tail (.tail (.tail .head))))) | exact .own .head | exact .own (.tail .head) | exact .own (.tail (.tail .head)) | exact .own (.tail (.tail (.tail .head))) | exact .own (.tail (.tail (.tail (.tail .head)))) | exact .own (.tail (.tail (.tail (.tail (.tail .head))))) | exact .own (.tail (.tail (.tail (.tail (.tail (.tail .head)))))) | exact .own (.tail (.tail (.tail (.tail (.tail (.tail (.tail .head)))))))) hl))) (fun x16 => ?_); try (refine l_fact (fun h16 => ?_)))
  all_goals refine j_assignL (fun _ => ?_)
  all_goals refine l_nil ?_
  all_goals (refine k_seq ?_)
  all_goals refine k_region ?_
  all_goals refine j_move ?_
  all_goals refine j_nilCheck ?_
  all_goals refine j_fieldAddr ?_
  all_goals refine l_quiet (o_loadPart (k := 3) (by exact rfl) (by repeat (first | exact At.head | apply At.tail)) (by exact agg_of rfl) (by simp only [List.drop_zero, List.take_succ_cons, List.take_zero]; exact rfl) rfl) rfl ?_
  all_goals (refine j_own (cFH (hc := fun w1 hw => ofOk_c (hw.stAt (.inr (.inr (.inr ⟨_, List.mem_cons_self .., rfl, rfl⟩))) (.inr (.inr (.inr ⟨_, List.mem_cons_of_mem _ (List.mem_cons_self ..), rfl, rfl⟩))) (fun f hf => .inr (.inr (.inl (List.mem_append_left _ hf)))) h16.fit) (by have := h16.hL; omega) (by have := h16.hc; omega) (hw.capV .head) h16.proper)) (fun x22 => ?_); try (refine l_fact (fun h22 => ?_)))
  all_goals refine j_move ?_
  all_goals refine j_extract ?_
  all_goals refine j_extract ?_
  all_goals refine j_assignL (fun _ => ?_)
  all_goals refine j_assignL (fun _ => ?_)
  all_goals refine l_nil ?_
  all_goals (refine k_seq ?_)
  all_goals (refine k_seq ?_)
  all_goals refine k_region ?_
  all_goals refine j_move ?_
  all_goals refine j_neq ?_
  all_goals refine j_move ?_
  all_goals (first | refine j_un ?_ | (refine j_yes ?_; refine j_move ?_) | (refine l_case (g := 27) (by exact rfl) (fun g27 => ?_) (fun g27 => ?_) <;> (first | replace g27 := of_decide_eq_true g27 | replace g27 := of_decide_eq_false g27 | replace g27 := ndec_t g27 | replace g27 := ndec_f g27 | replace g27 := ibne_t g27 | replace g27 := ibne_f g27 | replace g27 := ibeq_t g27 | replace g27 := ibeq_f g27 | replace g27 := not_t g27 | replace g27 := not_f g27 | skip) <;> (try (exfalso; omega)) <;> (first | refine j_un ?_ | (refine j_yes ?_; refine j_move ?_))))
  all_goals (first | refine j_un ?_ | (refine j_yes ?_; refine j_eql ?_))
  all_goals refine j_pick ?_
  all_goals refine l_nil ?_
  all_goals
    refine k_cond (by exact rfl) (fun c30 => ?_) (fun c30 => ?_)
    · try (exact absurd c30 (by decide))
      all_goals (first | replace c30 := of_decide_eq_true c30 | replace c30 := sbeq_t c30 | replace c30 := sbne_t c30 | replace c30 := ibeq_t c30 | replace c30 := ibne_t c30 | replace c30 := ndec_t c30 | replace c30 := not_t c30 | skip)
      all_goals try (exfalso; omega)
      all_goals
        cases c30
      all_goals (refine k_seq ?_)
      all_goals refine k_region ?_
      all_goals refine j_assignL (fun _ => ?_)
      all_goals refine l_nil ?_
      all_goals
        refine k_retvF Try.results3 (.tmp (by conv => { lhs; whnf }) .nil) (fun w hw => ?_)
        exact ⟨by rw [hv]; rfl, hw.done⟩
    · try (exact absurd c30 (by decide))
      all_goals (first | replace c30 := of_decide_eq_false c30 | replace c30 := sbeq_f c30 | replace c30 := sbne_f c30 | replace c30 := ibeq_f c30 | replace c30 := ibne_f c30 | replace c30 := ndec_f c30 | replace c30 := not_f c30 | skip)
      all_goals try (exfalso; omega)
      all_goals (refine k_skip ?_)
      all_goals (refine k_seq ?_)
      all_goals refine k_region ?_
      all_goals refine j_move ?_
      all_goals (refine j_own (cM (hc := fun w hs => aNewCell_c (L := x22.2.1) (cs := x16.2.1.2) 1 hs (by have := h16.hc; omega))) (fun x32 => ?_); try (refine l_fact (fun h32 => ?_)))
      all_goals refine j_assignL (fun _ => ?_)
      all_goals refine l_nil ?_
      all_goals (refine k_seq ?_)
      all_goals (refine k_seq ?_)
      all_goals refine k_region ?_
      all_goals refine j_move ?_
      all_goals refine j_nilCheck ?_
      all_goals refine j_fieldAddr ?_
      all_goals refine j_fieldAddr ?_
      all_goals refine j_load ?_
      all_goals refine j_len ?_
      all_goals refine j_gtr ?_
      all_goals refine j_move ?_
      all_goals (first | refine j_un ?_ | (refine j_yes ?_; refine j_move ?_) | (refine l_case (g := 40) (by exact rfl) (fun g40 => ?_) (fun g40 => ?_) <;> (first | replace g40 := of_decide_eq_true g40 | replace g40 := of_decide_eq_false g40 | replace g40 := ndec_t g40 | replace g40 := ndec_f g40 | replace g40 := ibne_t g40 | replace g40 := ibne_f g40 | replace g40 := ibeq_t g40 | replace g40 := ibeq_f g40 | replace g40 := not_t g40 | replace g40 := not_f g40 | skip) <;> (try (exfalso; omega)) <;> (first | refine j_un ?_ | (refine j_yes ?_; refine j_move ?_))))
      all_goals (first | refine j_un ?_ | (refine j_yes ?_; refine j_rem ?_))
      all_goals (first | refine j_un ?_ | (refine j_yes ?_; refine j_eql ?_))
      all_goals refine j_pick ?_
      all_goals refine l_nil ?_
      all_goals
        refine k_cond (by exact rfl) (fun c44 => ?_) (fun c44 => ?_)
        · try (exact absurd c44 (by decide))
          all_goals (first | replace c44 := of_decide_eq_true c44 | replace c44 := sbeq_t c44 | replace c44 := sbne_t c44 | replace c44 := ibeq_t c44 | replace c44 := ibne_t c44 | replace c44 := ndec_t c44 | replace c44 := not_t c44 | skip)
          all_goals try (exfalso; omega)
          all_goals
            have hm := modv_bound (v := i1) (n := (x16.2.1.2.length : Int)) (by omega) (by have := h16.hc; omega)
          all_goals refine k_region ?_
          all_goals refine j_move ?_
          all_goals refine j_convert ?_
          all_goals refine j_move ?_
          all_goals refine j_nilCheck ?_
          all_goals refine j_fieldAddr ?_
          all_goals refine j_fieldAddr ?_
          all_goals refine j_load ?_
          all_goals refine j_len ?_
          all_goals (refine j_own (cV (hc := fun w1 hw => mod_c i1 (x16.2.1.2.length : Int) w1 (by have := h16.hc; rw [wrap_u64]; omega))) (fun x53 => ?_); try (refine l_fact (fun h53 => ?_)))
          all_goals refine l_quiet (o_addR (by exact rfl) (by exact rfl) (by have := h16.hc; omega)) rfl ?_
          all_goals refine j_assignL (fun _ => ?_)
          all_goals refine l_nil ?_
          all_goals (refine k_seq ?_)
          all_goals refine k_region ?_
          all_goals refine j_move ?_
          all_goals refine j_move ?_
          all_goals (refine j_own (cM (hc := fun w hs => aLoad_c (L := x22.2.1) (cs := x16.2.1.2 ++ [1]) hs _ (by have := h16.hc; omega) (by have := h16.hc; simp only [List.length_append, List.length_cons, List.length_nil]; omega))) (fun x57 => ?_); try (refine l_fact (fun h57 => ?_)))
          all_goals refine j_assignL (fun _ => ?_)
          all_goals refine l_nil ?_
          all_goals (refine k_seq ?_)
          all_goals refine k_region ?_
          all_goals refine j_assignL (fun _ => ?_)
          all_goals refine l_nil ?_
          all_goals (refine k_seq ?_)
          all_goals (refine k_seq ?_)
          all_goals refine k_region ?_
          all_goals refine j_assignL (fun _ => ?_)
          all_goals refine l_nil ?_
          all_goals (refine k_block ?_)
          all_goals
            have hB : IntKind.i64.wrap (2 + IntKind.i64.wrap (i2.tmod 5)) = 2 + i2 % 5 := by rw [Int.tmod_eq_emod_of_nonneg r2.1, wrap_i64 (i := i2 % 5) (by omega) (by omega), wrap_i64 (by omega) (by omega)]
            have hcl := h16.hc
            first
              | (have hm2 := hm; generalize hq : (1 : Int) + modv i1 (x16.2.1.2.length : Int) = cell)
              | generalize hq : ((x16.2.1.2.length + 1 : Nat) : Int) = cell
            obtain ⟨hcell1, hcell2⟩ : 1 ≤ cell ∧ cell ≤ x16.2.1.2.length + 1 := by omega
            obtain ⟨hok, hold⟩ := cell_le h16.proper h16.hL hcell1 hcell2
            generalize hq2 : cellV (x16.2.1.2 ++ [1]) cell = old at hok hold ⊢
            refine k_loopF [6, 12, 13, 58, 59, 60, 61, 62, 63, 64, 65, 66, 67, 68, 69, 70, 71, 72, 73, 74, 75, 76, 77, 78, 79, 80, 81] (fun y : Nat × Nat × List Int × Int => [(13, .int .i64 ((y.1 : Nat) : Int)), (12, .int .i64 ((y.2.1 : Nat) : Int))]) (fun y => y.1 ≤ 6 ∧ y.2.2.1.length = x16.2.1.2.length + 1 ∧ ((y.1 = 0 ∧ y.2.1 = 0 ∧ y.2.2.1 = x16.2.1.2 ++ [1]) ∨ (1 ≤ y.1 ∧ y.2.1 = 1 ∧ y.2.2.1 = casL (x16.2.1.2 ++ [1]) cell old 500))) (fun y => [(x22.1, aO x22.2.1 y.2.2.1 3 y.2.2.2 x22.2.2.1.1 x22.2.2.1.2 x32.1 x32.2), (x16.1, mO x16.2.1.1 x16.2.1.2 3 0 x16.2.2.1.1 x16.2.2.1.2 x16.2.2.2.1.1 x16.2.2.2.1.2), (x15, tpO p l c x16.2.2.2.2)]) (fun y => famF x22.2.1 ++ (famF x16.2.1.1 ++ [])) (fun y => mW x22.2.1 y.2.2.1 x22.2.2.1.1 x22.2.2.1.2 x32.1 x32.2 ++ mW x16.2.1.1 x16.2.1.2 x16.2.2.1.1 x16.2.2.1.2 x16.2.2.2.1.1 x16.2.2.2.1.2) (fun y => 7 - y.1) ((0, 0, x16.2.1.2 ++ [1], up 0)) (by decide) (fun _ => by exact rfl) ?_ (⟨Nat.zero_le _, by simp only [List.length_append, List.length_cons, List.length_nil], .inl ⟨rfl, rfl, rfl⟩⟩) (fun w hw => hw.back (hF := FSub.all)) (fun y f hx => ?_)
            · repeat (first | exact knows_nil _ | refine knows_cons (by first | exact rfl | (conv => { lhs; whnf }; simp; done)) ?_)
            dsimp only [mkU, List.map, List.cons_append, List.nil_append]
            all_goals (refine k_seq ?_)
            all_goals (refine k_seq ?_)
            all_goals refine k_region ?_
            all_goals refine j_move ?_
            all_goals refine j_move ?_
            all_goals refine j_rem ?_
            all_goals refine j_convert ?_
            all_goals refine j_add ?_
            all_goals refine j_lss ?_
            all_goals refine l_nil ?_
            all_goals
              refine k_cond (by exact rfl) (fun c63 => ?_) (fun c63 => ?_)
              · try (exact absurd c63 (by decide))
                all_goals (first | replace c63 := of_decide_eq_true c63 | replace c63 := sbeq_t c63 | replace c63 := sbne_t c63 | replace c63 := ibeq_t c63 | replace c63 := ibne_t c63 | replace c63 := ndec_t c63 | replace c63 := not_t c63 | skip)
                all_goals try (exfalso; omega)
                all_goals
                  rw [hB] at c63
                all_goals (refine k_skip ?_)
                all_goals (refine k_seq ?_)
                all_goals (refine k_block ?_)
                all_goals (refine k_seq ?_)
                all_goals refine k_region ?_
                all_goals refine j_move ?_
                all_goals refine j_move ?_
                all_goals refine j_move ?_
                all_goals refine j_move ?_
                all_goals refine j_add ?_
                all_goals (refine j_own (cM (hc := fun w hs => aCAS_c (L := x22.2.1) (cs := y.2.2.1) hs cell old (500 + (y.1 : Int)) (by omega) (by have h1 := hx.2.1; have h2 := h16.hc; omega))) (fun x71 => ?_); try (refine l_fact (fun h71 => ?_)))
                all_goals refine l_nil ?_
                all_goals
                  refine k_cond (by exact rfl) (fun c71 => ?_) (fun c71 => ?_)
                  · try (exact absurd c71 (by decide))
                    all_goals (first | replace c71 := of_decide_eq_true c71 | replace c71 := sbeq_t c71 | replace c71 := sbne_t c71 | replace c71 := ibeq_t c71 | replace c71 := ibne_t c71 | replace c71 := ndec_t c71 | replace c71 := not_t c71 | skip)
                    all_goals try (exfalso; omega)
                    all_goals
                      have hx3 : y.1 = 0 ∧ y.2.1 = 0 ∧ y.2.2.1 = x16.2.1.2 ++ [1] := by
                        rcases hx.2.2 with h | h
                        · exact h
                        · rw [h.2.2] at h71
                          exact absurd (h71.1 c71) (cas_twice hok (by omega))
                      obtain ⟨acc2, hacc2⟩ : ∃ z, z = up (up y.2.2.2) := ⟨_, rfl⟩
                      have hL : casL y.2.2.1 cell old (500 + (y.1 : Int)) = casL (x16.2.1.2 ++ [1]) cell old 500 := by rw [hx3.1, hx3.2.2]; rfl
                      have hv : cellV (casL y.2.2.1 cell old (500 + (y.1 : Int))) cell = 500 + (y.1 : Int) := cellV_cas (h71.1 c71)
                    all_goals (refine k_seq ?_)
                    all_goals refine k_region ?_
                    all_goals refine j_move ?_
                    all_goals refine j_inc ?_
                    all_goals refine j_assignL (fun _ => ?_)
                    all_goals refine l_nil ?_
                    all_goals (refine k_seq ?_)
                    all_goals refine k_region ?_
                    all_goals refine j_move ?_
                    all_goals refine j_neq ?_
                    all_goals refine j_move ?_
                    all_goals (first | refine j_un ?_ | (refine j_yes ?_; refine j_move ?_) | (refine l_case (g := 76) (by exact rfl) (fun g76 => ?_) (fun g76 => ?_) <;> (first | replace g76 := of_decide_eq_true g76 | replace g76 := of_decide_eq_false g76 | replace g76 := ndec_t g76 | replace g76 := ndec_f g76 | replace g76 := ibne_t g76 | replace g76 := ibne_f g76 | replace g76 := ibeq_t g76 | replace g76 := ibeq_f g76 | replace g76 := not_t g76 | replace g76 := not_f g76 | skip) <;> (try (exfalso; omega)) <;> (first | refine j_un ?_ | (refine j_yes ?_; refine j_move ?_))))
                    all_goals (first | refine j_un ?_ | (refine j_yes ?_; refine j_move ?_))
                    all_goals (first | refine j_un ?_ | (refine j_yes ?_; (refine j_own (cM (hc := fun w hs => aLoad_c (L := x22.2.1) (cs := casL y.2.2.1 cell old (500 + (y.1 : Int))) hs cell (by omega) (by rw [casL_length]; have := hx.2.1; omega))) (fun x79 => ?_); try (refine l_fact (fun h79 => ?_)))))
                    all_goals (first | refine j_un ?_ | (refine j_yes ?_; refine j_neq ?_))
                    all_goals refine j_pick ?_
                    all_goals refine l_nil ?_
                    all_goals
                      refine k_cond (by exact rfl) (fun c81 => ?_) (fun c81 => ?_)
                      · try (exact absurd c81 (by decide))
                        all_goals (first | replace c81 := of_decide_eq_true c81 | replace c81 := sbeq_t c81 | replace c81 := sbne_t c81 | replace c81 := ibeq_t c81 | replace c81 := ibne_t c81 | replace c81 := ndec_t c81 | replace c81 := not_t c81 | skip)
                        all_goals try (exfalso; omega)
                        all_goals
                          exfalso; omega
                        all_goals (refine k_seq ?_)
                        all_goals refine k_region ?_
                        all_goals refine j_assignL (fun _ => ?_)
                        all_goals refine l_nil ?_
                        all_goals
                          refine k_retvF Try.results3 (.tmp (by conv => { lhs; whnf }) .nil) (fun w hw => ?_)
                          exact ⟨by rw [hv]; rfl, hw.done⟩
                      · try (exact absurd c81 (by decide))
                        all_goals (first | replace c81 := of_decide_eq_false c81 | replace c81 := sbeq_f c81 | replace c81 := sbne_f c81 | replace c81 := ibeq_f c81 | replace c81 := ibne_f c81 | replace c81 := ndec_f c81 | replace c81 := not_f c81 | skip)
                        all_goals try (exfalso; omega)
                        all_goals (refine k_skip ?_)
                        all_goals (refine k_blk ?_)
                        all_goals refine k_region ?_
                        all_goals refine j_move ?_
                        all_goals refine j_inc ?_
                        all_goals refine j_assignL (fun _ => ?_)
                        all_goals refine l_nil ?_
                        all_goals
                          refine k_roundF ((y.1 + 1, 1, casL (x16.2.1.2 ++ [1]) cell old 500, acc2)) ?_ ?_ (by repeat (first | (with_reducible exact Pre.refl) | refine Pre.cons (by exact rfl) ?_)) ?_ (fun w hw => by
subst hacc2
rw [hL] at hw
exact hw.back (hF := FSub.all))
                          · simp only []; omega
                          · repeat' (first | exact knows_nil _ | refine knows_cons ?_ ?_)
                            all_goals (first | exact rfl | (conv => { lhs; whnf }; simp; done) | (conv => { lhs; whnf }; congr 1; dsimp only; omega))
                          · exact ⟨by simp only []; omega, by simp only [casL_length, List.length_append, List.length_cons, List.length_nil], .inr ⟨Nat.le_add_left _ _, rfl, rfl⟩⟩
                  · try (exact absurd c71 (by decide))
                    all_goals (first | replace c71 := of_decide_eq_false c71 | replace c71 := sbeq_f c71 | replace c71 := sbne_f c71 | replace c71 := ibeq_f c71 | replace c71 := ibne_f c71 | replace c71 := ndec_f c71 | replace c71 := not_f c71 | skip)
                    all_goals try (exfalso; omega)
                    all_goals
                      have hx3 : 1 ≤ y.1 ∧ y.2.1 = 1 ∧ y.2.2.1 = casL (x16.2.1.2 ++ [1]) cell old 500 := by
                        rcases hx.2.2 with h | h
                        · rw [h.2.2] at h71
                          rw [h71.2 hok] at c71
                          cases c71
                        · exact h
                      obtain ⟨acc2, hacc2⟩ : ∃ z, z = up y.2.2.2 := ⟨_, rfl⟩
                      have hL : casL y.2.2.1 cell old (500 + (y.1 : Int)) = casL (x16.2.1.2 ++ [1]) cell old 500 := by
                        rw [hx3.2.2]
                        exact casL_no (cas_twice hok (by omega))
                    all_goals (refine k_skip ?_)
                    all_goals (refine k_blk ?_)
                    all_goals refine k_region ?_
                    all_goals refine j_move ?_
                    all_goals refine j_inc ?_
                    all_goals refine j_assignL (fun _ => ?_)
                    all_goals refine l_nil ?_
                    all_goals
                      refine k_roundF ((y.1 + 1, 1, casL (x16.2.1.2 ++ [1]) cell old 500, acc2)) ?_ ?_ (by repeat (first | (with_reducible exact Pre.refl) | refine Pre.cons (by exact rfl) ?_)) ?_ (fun w hw => by
subst hacc2
rw [hL] at hw
exact hw.back (hF := FSub.all))
                      · simp only []; omega
                      · repeat' (first | exact knows_nil _ | refine knows_cons ?_ ?_)
                        all_goals (first | exact rfl | (conv => { lhs; whnf }; simp; done) | (conv => { lhs; whnf }; congr 1; dsimp only; omega))
                      · exact ⟨by simp only []; omega, by simp only [casL_length, List.length_append, List.length_cons, List.length_nil], .inr ⟨Nat.le_add_left _ _, rfl, rfl⟩⟩
              · try (exact absurd c63 (by decide))
                all_goals (first | replace c63 := of_decide_eq_false c63 | replace c63 := sbeq_f c63 | replace c63 := sbne_f c63 | replace c63 := ibeq_f c63 | replace c63 := ibne_f c63 | replace c63 := ndec_f c63 | replace c63 := not_f c63 | skip)
                all_goals try (exfalso; omega)
                all_goals
                  rw [hB] at c63
                  have hx3 : y.2.1 = 1 ∧ y.2.2.1 = casL (x16.2.1.2 ++ [1]) cell old 500 := by
                    rcases hx.2.2 with h | h
                    · exfalso; omega
                    · exact h.2
                  have hv : cellV y.2.2.1 cell = 500 := by rw [hx3.2]; exact cellV_cas hok
                all_goals (refine k_exit rfl ?_)
                all_goals (refine k_seq ?_)
                all_goals refine k_region ?_
                all_goals (refine j_own (cV (hc := fun w1 hw => awake5_c w1)) (fun x82 => ?_); try (refine l_fact (fun h82 => ?_)))
                all_goals refine j_move ?_
                all_goals (first | refine j_un ?_ | (refine j_yes ?_; refine j_move ?_) | (refine l_case (g := 83) (by exact rfl) (fun g83 => ?_) (fun g83 => ?_) <;> (first | replace g83 := of_decide_eq_true g83 | replace g83 := of_decide_eq_false g83 | replace g83 := ndec_t g83 | replace g83 := ndec_f g83 | replace g83 := ibne_t g83 | replace g83 := ibne_f g83 | replace g83 := ibeq_t g83 | replace g83 := ibeq_f g83 | replace g83 := not_t g83 | replace g83 := not_f g83 | skip) <;> (try (exfalso; omega)) <;> (first | refine j_un ?_ | (refine j_yes ?_; refine j_move ?_))))
                all_goals (first | refine j_un ?_ | (refine j_yes ?_; refine j_eql ?_))
                all_goals refine j_pick ?_
                all_goals refine j_move ?_
                all_goals (first | refine j_un ?_ | (refine j_yes ?_; refine j_move ?_) | (refine l_case (g := 87) (by exact rfl) (fun g87 => ?_) (fun g87 => ?_) <;> (first | replace g87 := of_decide_eq_true g87 | replace g87 := of_decide_eq_false g87 | replace g87 := ndec_t g87 | replace g87 := ndec_f g87 | replace g87 := ibne_t g87 | replace g87 := ibne_f g87 | replace g87 := ibeq_t g87 | replace g87 := ibeq_f g87 | replace g87 := not_t g87 | replace g87 := not_f g87 | skip) <;> (try (exfalso; omega)) <;> (first | refine j_un ?_ | (refine j_yes ?_; refine j_move ?_))))
                all_goals (first | refine j_un ?_ | (refine j_yes ?_; refine j_move ?_))
                all_goals (first | refine j_un ?_ | (refine j_yes ?_; (refine j_own (cM (hc := fun w hs => aLoad_c (L := x22.2.1) (cs := y.2.2.1) hs cell (by omega) (by have := hx.2.1; omega))) (fun x90 => ?_); try (refine l_fact (fun h90 => ?_)))))
                all_goals (first | refine j_un ?_ | (refine j_yes ?_; refine j_eql ?_))
                all_goals refine j_pick ?_
                all_goals refine j_assignL (fun _ => ?_)
                all_goals refine l_nil ?_
                all_goals
                  refine k_retvF Try.results3 (.tmp (by conv => { lhs; whnf }) .nil) (fun w hw => ?_)
                  exact ⟨by rw [hv]; rfl, hw.done⟩
        · try (exact absurd c44 (by decide))
          all_goals (first | replace c44 := of_decide_eq_false c44 | replace c44 := sbeq_f c44 | replace c44 := sbne_f c44 | replace c44 := ibeq_f c44 | replace c44 := ibne_f c44 | replace c44 := ndec_f c44 | replace c44 := not_f c44 | skip)
          all_goals try (exfalso; omega)
          all_goals (refine k_skip ?_)
          all_goals (refine k_seq ?_)
          all_goals refine k_region ?_
          all_goals refine j_move ?_
          all_goals refine j_move ?_
          all_goals (refine j_own (cM (hc := fun w hs => aLoad_c (L := x22.2.1) (cs := x16.2.1.2 ++ [1]) hs _ (by have := h16.hc; omega) (by have := h16.hc; simp only [List.length_append, List.length_cons, List.length_nil]; omega))) (fun x57 => ?_); try (refine l_fact (fun h57 => ?_)))
          all_goals refine j_assignL (fun _ => ?_)
          all_goals refine l_nil ?_
          all_goals (refine k_seq ?_)
          all_goals refine k_region ?_
          all_goals refine j_assignL (fun _ => ?_)
          all_goals refine l_nil ?_
          all_goals (refine k_seq ?_)
          all_goals (refine k_seq ?_)
          all_goals refine k_region ?_
          all_goals refine j_assignL (fun _ => ?_)
          all_goals refine l_nil ?_
          all_goals (refine k_block ?_)
          all_goals
            have hB : IntKind.i64.wrap (2 + IntKind.i64.wrap (i2.tmod 5)) = 2 + i2 % 5 := by rw [Int.tmod_eq_emod_of_nonneg r2.1, wrap_i64 (i := i2 % 5) (by omega) (by omega), wrap_i64 (by omega) (by omega)]
            have hcl := h16.hc
            first
              | (have hm2 := hm; generalize hq : (1 : Int) + modv i1 (x16.2.1.2.length : Int) = cell)
              | generalize hq : ((x16.2.1.2.length + 1 : Nat) : Int) = cell
            obtain ⟨hcell1, hcell2⟩ : 1 ≤ cell ∧ cell ≤ x16.2.1.2.length + 1 := by omega
            obtain ⟨hok, hold⟩ := cell_le h16.proper h16.hL hcell1 hcell2
            generalize hq2 : cellV (x16.2.1.2 ++ [1]) cell = old at hok hold ⊢
            refine k_loopF [6, 12, 13, 58, 59, 60, 61, 62, 63, 64, 65, 66, 67, 68, 69, 70, 71, 72, 73, 74, 75, 76, 77, 78, 79, 80, 81] (fun y : Nat × Nat × List Int × Int => [(13, .int .i64 ((y.1 : Nat) : Int)), (12, .int .i64 ((y.2.1 : Nat) : Int))]) (fun y => y.1 ≤ 6 ∧ y.2.2.1.length = x16.2.1.2.length + 1 ∧ ((y.1 = 0 ∧ y.2.1 = 0 ∧ y.2.2.1 = x16.2.1.2 ++ [1]) ∨ (1 ≤ y.1 ∧ y.2.1 = 1 ∧ y.2.2.1 = casL (x16.2.1.2 ++ [1]) cell old 500))) (fun y => [(x22.1, aO x22.2.1 y.2.2.1 3 y.2.2.2 x22.2.2.1.1 x22.2.2.1.2 x32.1 x32.2), (x16.1, mO x16.2.1.1 x16.2.1.2 3 0 x16.2.2.1.1 x16.2.2.1.2 x16.2.2.2.1.1 x16.2.2.2.1.2), (x15, tpO p l c x16.2.2.2.2)]) (fun y => famF x22.2.1 ++ (famF x16.2.1.1 ++ [])) (fun y => mW x22.2.1 y.2.2.1 x22.2.2.1.1 x22.2.2.1.2 x32.1 x32.2 ++ mW x16.2.1.1 x16.2.1.2 x16.2.2.1.1 x16.2.2.1.2 x16.2.2.2.1.1 x16.2.2.2.1.2) (fun y => 7 - y.1) ((0, 0, x16.2.1.2 ++ [1], up 0)) (by decide) (fun _ => by exact rfl) ?_ (⟨Nat.zero_le _, by simp only [List.length_append, List.length_cons, List.length_nil], .inl ⟨rfl, rfl, rfl⟩⟩) (fun w hw => hw.back (hF := FSub.all)) (fun y f hx => ?_)
            · repeat (first | exact knows_nil _ | refine knows_cons (by first | exact rfl | (conv => { lhs; whnf }; simp; done)) ?_)
            dsimp only [mkU, List.map, List.cons_append, List.nil_append]
            all_goals (refine k_seq ?_)
            all_goals (refine k_seq ?_)
            all_goals refine k_region ?_
            all_goals refine j_move ?_
            all_goals refine j_move ?_
            all_goals refine j_rem ?_
            all_goals refine j_convert ?_
            all_goals refine j_add ?_
            all_goals refine j_lss ?_
            all_goals refine l_nil ?_
            all_goals
              refine k_cond (by exact rfl) (fun c63 => ?_) (fun c63 => ?_)
              · try (exact absurd c63 (by decide))
                all_goals (first | replace c63 := of_decide_eq_true c63 | replace c63 := sbeq_t c63 | replace c63 := sbne_t c63 | replace c63 := ibeq_t c63 | replace c63 := ibne_t c63 | replace c63 := ndec_t c63 | replace c63 := not_t c63 | skip)
                all_goals try (exfalso; omega)
                all_goals
                  rw [hB] at c63
                all_goals (refine k_skip ?_)
                all_goals (refine k_seq ?_)
                all_goals (refine k_block ?_)
                all_goals (refine k_seq ?_)
                all_goals refine k_region ?_
                all_goals refine j_move ?_
                all_goals refine j_move ?_
                all_goals refine j_move ?_
                all_goals refine j_move ?_
                all_goals refine j_add ?_
                all_goals (refine j_own (cM (hc := fun w hs => aCAS_c (L := x22.2.1) (cs := y.2.2.1) hs cell old (500 + (y.1 : Int)) (by omega) (by have h1 := hx.2.1; have h2 := h16.hc; omega))) (fun x71 => ?_); try (refine l_fact (fun h71 => ?_)))
                all_goals refine l_nil ?_
                all_goals
                  refine k_cond (by exact rfl) (fun c71 => ?_) (fun c71 => ?_)
                  · try (exact absurd c71 (by decide))
                    all_goals (first | replace c71 := of_decide_eq_true c71 | replace c71 := sbeq_t c71 | replace c71 := sbne_t c71 | replace c71 := ibeq_t c71 | replace c71 := ibne_t c71 | replace c71 := ndec_t c71 | replace c71 := not_t c71 | skip)
                    all_goals try (exfalso; omega)
                    all_goals
                      have hx3 : y.1 = 0 ∧ y.2.1 = 0 ∧ y.2.2.1 = x16.2.1.2 ++ [1] := by
                        rcases hx.2.2 with h | h
                        · exact h
                        · rw [h.2.2] at h71
                          exact absurd (h71.1 c71) (cas_twice hok (by omega))
                      obtain ⟨acc2, hacc2⟩ : ∃ z, z = up (up y.2.2.2) := ⟨_, rfl⟩
                      have hL : casL y.2.2.1 cell old (500 + (y.1 : Int)) = casL (x16.2.1.2 ++ [1]) cell old 500 := by rw [hx3.1, hx3.2.2]; rfl
                      have hv : cellV (casL y.2.2.1 cell old (500 + (y.1 : Int))) cell = 500 + (y.1 : Int) := cellV_cas (h71.1 c71)
                    all_goals (refine k_seq ?_)
                    all_goals refine k_region ?_
                    all_goals refine j_move ?_
                    all_goals refine j_inc ?_
                    all_goals refine j_assignL (fun _ => ?_)
                    all_goals refine l_nil ?_
                    all_goals (refine k_seq ?_)
                    all_goals refine k_region ?_
                    all_goals refine j_move ?_
                    all_goals refine j_neq ?_
                    all_goals refine j_move ?_
                    all_goals (first | refine j_un ?_ | (refine j_yes ?_; refine j_move ?_) | (refine l_case (g := 76) (by exact rfl) (fun g76 => ?_) (fun g76 => ?_) <;> (first | replace g76 := of_decide_eq_true g76 | replace g76 := of_decide_eq_false g76 | replace g76 := ndec_t g76 | replace g76 := ndec_f g76 | replace g76 := ibne_t g76 | replace g76 := ibne_f g76 | replace g76 := ibeq_t g76 | replace g76 := ibeq_f g76 | replace g76 := not_t g76 | replace g76 := not_f g76 | skip) <;> (try (exfalso; omega)) <;> (first | refine j_un ?_ | (refine j_yes ?_; refine j_move ?_))))
                    all_goals (first | refine j_un ?_ | (refine j_yes ?_; refine j_move ?_))
                    all_goals (first | refine j_un ?_ | (refine j_yes ?_; (refine j_own (cM (hc := fun w hs => aLoad_c (L := x22.2.1) (cs := casL y.2.2.1 cell old (500 + (y.1 : Int))) hs cell (by omega) (by rw [casL_length]; have := hx.2.1; omega))) (fun x79 => ?_); try (refine l_fact (fun h79 => ?_)))))
                    all_goals (first | refine j_un ?_ | (refine j_yes ?_; refine j_neq ?_))
                    all_goals refine j_pick ?_
                    all_goals refine l_nil ?_
                    all_goals
                      refine k_cond (by exact rfl) (fun c81 => ?_) (fun c81 => ?_)
                      · try (exact absurd c81 (by decide))
                        all_goals (first | replace c81 := of_decide_eq_true c81 | replace c81 := sbeq_t c81 | replace c81 := sbne_t c81 | replace c81 := ibeq_t c81 | replace c81 := ibne_t c81 | replace c81 := ndec_t c81 | replace c81 := not_t c81 | skip)
                        all_goals try (exfalso; omega)
                        all_goals
                          exfalso; omega
                        all_goals (refine k_seq ?_)
                        all_goals refine k_region ?_
                        all_goals refine j_assignL (fun _ => ?_)
                        all_goals refine l_nil ?_
                        all_goals
                          refine k_retvF Try.results3 (.tmp (by conv => { lhs; whnf }) .nil) (fun w hw => ?_)
                          exact ⟨by rw [hv]; rfl, hw.done⟩
                      · try (exact absurd c81 (by decide))
                        all_goals (first | replace c81 := of_decide_eq_false c81 | replace c81 := sbeq_f c81 | replace c81 := sbne_f c81 | replace c81 := ibeq_f c81 | replace c81 := ibne_f c81 | replace c81 := ndec_f c81 | replace c81 := not_f c81 | skip)
                        all_goals try (exfalso; omega)
                        all_goals (refine k_skip ?_)
                        all_goals (refine k_blk ?_)
                        all_goals refine k_region ?_
                        all_goals refine j_move ?_
                        all_goals refine j_inc ?_
                        all_goals refine j_assignL (fun _ => ?_)
                        all_goals refine l_nil ?_
                        all_goals
                          refine k_roundF ((y.1 + 1, 1, casL (x16.2.1.2 ++ [1]) cell old 500, acc2)) ?_ ?_ (by repeat (first | (with_reducible exact Pre.refl) | refine Pre.cons (by exact rfl) ?_)) ?_ (fun w hw => by
subst hacc2
rw [hL] at hw
exact hw.back (hF := FSub.all))
                          · simp only []; omega
                          · repeat' (first | exact knows_nil _ | refine knows_cons ?_ ?_)
                            all_goals (first | exact rfl | (conv => { lhs; whnf }; simp; done) | (conv => { lhs; whnf }; congr 1; dsimp only; omega))
                          · exact ⟨by simp only []; omega, by simp only [casL_length, List.length_append, List.length_cons, List.length_nil], .inr ⟨Nat.le_add_left _ _, rfl, rfl⟩⟩
                  · try (exact absurd c71 (by decide))
                    all_goals (first | replace c71 := of_decide_eq_false c71 | replace c71 := sbeq_f c71 | replace c71 := sbne_f c71 | replace c71 := ibeq_f c71 | replace c71 := ibne_f c71 | replace c71 := ndec_f c71 | replace c71 := not_f c71 | skip)
                    all_goals try (exfalso; omega)
                    all_goals
                      have hx3 : 1 ≤ y.1 ∧ y.2.1 = 1 ∧ y.2.2.1 = casL (x16.2.1.2 ++ [1]) cell old 500 := by
                        rcases hx.2.2 with h | h
                        · rw [h.2.2] at h71
                          rw [h71.2 hok] at c71
                          cases c71
                        · exact h
                      obtain ⟨acc2, hacc2⟩ : ∃ z, z = up y.2.2.2 := ⟨_, rfl⟩
                      have hL : casL y.2.2.1 cell old (500 + (y.1 : Int)) = casL (x16.2.1.2 ++ [1]) cell old 500 := by
                        rw [hx3.2.2]
                        exact casL_no (cas_twice hok (by omega))
                    all_goals (refine k_skip ?_)
                    all_goals (refine k_blk ?_)
                    all_goals refine k_region ?_
                    all_goals refine j_move ?_
                    all_goals refine j_inc ?_
                    all_goals refine j_assignL (fun _ => ?_)
                    all_goals refine l_nil ?_
                    all_goals
                      refine k_roundF ((y.1 + 1, 1, casL (x16.2.1.2 ++ [1]) cell old 500, acc2)) ?_ ?_ (by repeat (first | (with_reducible exact Pre.refl) | refine Pre.cons (by exact rfl) ?_)) ?_ (fun w hw => by
subst hacc2
rw [hL] at hw
exact hw.back (hF := FSub.all))
                      · simp only []; omega
                      · repeat' (first | exact knows_nil _ | refine knows_cons ?_ ?_)
                        all_goals (first | exact rfl | (conv => { lhs; whnf }; simp; done) | (conv => { lhs; whnf }; congr 1; dsimp only; omega))
                      · exact ⟨by simp only []; omega, by simp only [casL_length, List.length_append, List.length_cons, List.length_nil], .inr ⟨Nat.le_add_left _ _, rfl, rfl⟩⟩
              · try (exact absurd c63 (by decide))
                all_goals (first | replace c63 := of_decide_eq_false c63 | replace c63 := sbeq_f c63 | replace c63 := sbne_f c63 | replace c63 := ibeq_f c63 | replace c63 := ibne_f c63 | replace c63 := ndec_f c63 | replace c63 := not_f c63 | skip)
                all_goals try (exfalso; omega)
                all_goals
                  rw [hB] at c63
                  have hx3 : y.2.1 = 1 ∧ y.2.2.1 = casL (x16.2.1.2 ++ [1]) cell old 500 := by
                    rcases hx.2.2 with h | h
                    · exfalso; omega
                    · exact h.2
                  have hv : cellV y.2.2.1 cell = 500 := by rw [hx3.2]; exact cellV_cas hok
                all_goals (refine k_exit rfl ?_)
                all_goals (refine k_seq ?_)
                all_goals refine k_region ?_
                all_goals (refine j_own (cV (hc := fun w1 hw => awake5_c w1)) (fun x82 => ?_); try (refine l_fact (fun h82 => ?_)))
                all_goals refine j_move ?_
                all_goals (first | refine j_un ?_ | (refine j_yes ?_; refine j_move ?_) | (refine l_case (g := 83) (by exact rfl) (fun g83 => ?_) (fun g83 => ?_) <;> (first | replace g83 := of_decide_eq_true g83 | replace g83 := of_decide_eq_false g83 | replace g83 := ndec_t g83 | replace g83 := ndec_f g83 | replace g83 := ibne_t g83 | replace g83 := ibne_f g83 | replace g83 := ibeq_t g83 | replace g83 := ibeq_f g83 | replace g83 := not_t g83 | replace g83 := not_f g83 | skip) <;> (try (exfalso; omega)) <;> (first | refine j_un ?_ | (refine j_yes ?_; refine j_move ?_))))
                all_goals (first | refine j_un ?_ | (refine j_yes ?_; refine j_eql ?_))
                all_goals refine j_pick ?_
                all_goals refine j_move ?_
                all_goals (first | refine j_un ?_ | (refine j_yes ?_; refine j_move ?_) | (refine l_case (g := 87) (by exact rfl) (fun g87 => ?_) (fun g87 => ?_) <;> (first | replace g87 := of_decide_eq_true g87 | replace g87 := of_decide_eq_false g87 | replace g87 := ndec_t g87 | replace g87 := ndec_f g87 | replace g87 := ibne_t g87 | replace g87 := ibne_f g87 | replace g87 := ibeq_t g87 | replace g87 := ibeq_f g87 | replace g87 := not_t g87 | replace g87 := not_f g87 | skip) <;> (try (exfalso; omega)) <;> (first | refine j_un ?_ | (refine j_yes ?_; refine j_move ?_))))
                all_goals (first | refine j_un ?_ | (refine j_yes ?_; refine j_move ?_))
                all_goals (first | refine j_un ?_ | (refine j_yes ?_; (refine j_own (cM (hc := fun w hs => aLoad_c (L := x22.2.1) (cs := y.2.2.1) hs cell (by omega) (by have := hx.2.1; omega))) (fun x90 => ?_); try (refine l_fact (fun h90 => ?_)))))
                all_goals (first | refine j_un ?_ | (refine j_yes ?_; refine j_eql ?_))
                all_goals refine j_pick ?_
                all_goals refine j_assignL (fun _ => ?_)
                all_goals refine l_nil ?_
                all_goals
                  refine k_retvF Try.results3 (.tmp (by conv => { lhs; whnf }) .nil) (fun w hw => ?_)
                  exact ⟨by rw [hv]; rfl, hw.done⟩
end Go.Proofs.Ytmogngagpphnhaa
