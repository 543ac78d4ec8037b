/- Branches: what Lookup and Sole compute. -/
import Derived.Test.YthmagkjcangnfaaBr
import Derived.Test.YthmagkjcangnfaaNode8
import Derived.Test.YthmagkjcangnfaaShort
set_option linter.unusedSimpArgs false
set_option linter.unusedVariables false
namespace Go.Ct
open Go Go.RowKit
theorem o_extract {P : Program} {S : List (Nat × Value)} {G : World → Prop} {d : Nat} {ty : TypeId} {pos : String} {af : Array Edge} {gd : Option (Nat × Bool)} {x : Operand} {vs : List Value} {k : Nat} {v : Value} (hx : ev S x = .tuple ⟨vs⟩) (hk : vs[k]? = some v) : Quiet P S G ⟨some d, .extract x k, ty, pos, af, gd⟩ v := ⟨fun w _ => by
  simp [execOp, hx, Instr.extract, hk]⟩
end Go.Ct
namespace Go.Proofs.Ythmagkjcangnfaa
open Go.RowKit Go.Ct
/-- A valid C-node. -/
def CV (n : Nd) (xs : List Int) (ys : List Pr) : Prop := n.kind = 3 ∧ NdValid n xs ys
theorem CV.bv {n : Nd} {xs : List Int} {ys : List Pr} {b : Nat} (h : CV n xs ys) (hb : n.bm = (b : Int)) (hb2 : b < 18446744073709551616) : BV b xs := by
  obtain ⟨h1, h2⟩ := ndValid_c3 h.1 h.2
  rw [hb, rOnes_cnt hb2] at h1
  exact ⟨hb2, by omega, h2⟩
open Classical in
noncomputable def lkO (n : Nd) (xs : List Int) (ys : List Pr) (b : Nat) (i : Int) : Option Int := if CV n xs ys ∧ hasI b i = true then some (xs.getD (posN b i) 0) else none
open Classical in
noncomputable def soO (n : Nd) (xs : List Int) (ys : List Pr) : Option Int := if CV n xs ys ∧ xs.length = 1 then some (xs.getD 0 0) else none
theorem hasI_elim {b : Nat} {i : Int} (h : hasI b i = true) : 0 ≤ i ∧ i < 64 ∧ b.testBit i.toNat = true ∧ posN b i = cnt b i.toNat := by
  simp only [hasI, Bool.and_eq_true, decide_eq_true_eq] at h
  exact ⟨h.1, h.2.1, h.2.2, by unfold posN; congr 1; omega⟩
theorem bv_lt {b : Nat} {xs : List Int} (h : BV b xs) {i : Int} (hh : hasI b i = true) : posN b i < xs.length := by
  obtain ⟨h1, h2, h3, h4⟩ := hasI_elim hh
  rw [h4, h.len]
  exact cnt_lt (by omega) h3
section
variable {n : Nd} {xs : List Int} {ys : List Pr} {w : World} {b : Nat}
theorem cvalid_c (hr : Rep w n xs ys) : Calls Try.prog 97 #[n.v] w fun e w' => ∃ r : Bool, e = .returned (.bool r) ∧ (r = true ↔ CV n xs ys) ∧ St w [] [] w' := by
  refine enter Try.func97 Try.ntmps97 rfl rfl (SF.s0 w) ?_
  simp only [mkS]
  simp only [Nd.v, Nd.cells]
  all_goals (refine k_seq ?_)
  all_goals refine k_region ?_
  all_goals refine j_box (fun x1 => ?_)
  all_goals refine j_assignL (fun _ => ?_)
  all_goals refine l_nil ?_
  all_goals (refine k_seq ?_)
  all_goals refine k_region ?_
  all_goals refine j_fieldAddr ?_
  all_goals refine j_load ?_
  all_goals refine j_eql ?_
  all_goals refine j_move ?_
  all_goals (first | refine j_un ?_ | (refine j_yes ?_; refine j_load ?_) | (refine l_case (g := 6) (by exact rfl) (fun g6 => ?_) (fun g6 => ?_) <;> (first | replace g6 := of_decide_eq_true g6 | replace g6 := of_decide_eq_false g6 | skip) <;> (first | refine j_un ?_ | (refine j_yes ?_; refine j_load ?_))))
  all_goals (first | refine j_un ?_ | (refine j_yes ?_; (refine j_own (c0 (V := .bool) (hc := fun w1 hw => ndValid_c (n := n) (hr.keep0 hw.done))) (fun x8 => ?_); try (refine l_fact (fun h8 => ?_)))) | (refine l_case (g := 6) (by exact rfl) (fun g6 => ?_) (fun g6 => ?_) <;> (first | replace g6 := of_decide_eq_true g6 | replace g6 := of_decide_eq_false g6 | skip) <;> (first | refine j_un ?_ | (refine j_yes ?_; (refine j_own (c0 (V := .bool) (hc := fun w1 hw => ndValid_c (n := n) (hr.keep0 hw.done))) (fun x8 => ?_); try (refine l_fact (fun h8 => ?_)))))))
  all_goals refine j_pick ?_
  all_goals refine j_assignL (fun _ => ?_)
  all_goals refine l_nil ?_
  all_goals
    refine k_retvF Try.results97 (.tmp (by conv => { lhs; whnf }) .nil) (fun w hw => ?_)
    refine ⟨_, rfl, ?_, hw.done⟩
    simp_all [CV]
theorem cis_c (hb : n.bm = (b : Int)) (hb2 : b < 18446744073709551616) (hr : Rep w n xs ys) : Calls Try.prog 120 #[n.v] w fun e w' => ∃ r : Bool, e = .returned (.bool r) ∧ (r = true ↔ CV n xs ys) ∧ St w [] [] w' := by
  refine enter Try.func120 Try.ntmps120 rfl rfl (SF.s0 w) ?_
  simp only [mkS]
  simp only [Nd.v, Nd.cells]
  all_goals (refine k_seq ?_)
  all_goals refine k_region ?_
  all_goals refine j_box (fun x1 => ?_)
  all_goals refine j_assignL (fun _ => ?_)
  all_goals refine l_nil ?_
  all_goals (refine k_seq ?_)
  all_goals refine k_region ?_
  all_goals refine j_fieldAddr ?_
  all_goals refine j_load ?_
  all_goals refine j_eql ?_
  all_goals refine j_move ?_
  all_goals (first | refine j_un ?_ | (refine j_yes ?_; refine j_load ?_) | (refine l_case (g := 6) (by exact rfl) (fun g6 => ?_) (fun g6 => ?_) <;> (first | replace g6 := of_decide_eq_true g6 | replace g6 := of_decide_eq_false g6 | skip) <;> (first | refine j_un ?_ | (refine j_yes ?_; refine j_load ?_))))
  all_goals (first | refine j_un ?_ | (refine j_yes ?_; (refine j_own (c0 (V := .bool) (hc := fun w1 hw => refValid_c (n := n) hb hb2 (hr.keep0 hw.done))) (fun x8 => ?_); try (refine l_fact (fun h8 => ?_)))) | (refine l_case (g := 6) (by exact rfl) (fun g6 => ?_) (fun g6 => ?_) <;> (first | replace g6 := of_decide_eq_true g6 | replace g6 := of_decide_eq_false g6 | skip) <;> (first | refine j_un ?_ | (refine j_yes ?_; (refine j_own (c0 (V := .bool) (hc := fun w1 hw => refValid_c (n := n) hb hb2 (hr.keep0 hw.done))) (fun x8 => ?_); try (refine l_fact (fun h8 => ?_)))))))
  all_goals refine j_pick ?_
  all_goals refine j_assignL (fun _ => ?_)
  all_goals refine l_nil ?_
  all_goals
    refine k_retvF Try.results120 (.tmp (by conv => { lhs; whnf }) .nil) (fun w hw => ?_)
    refine ⟨_, rfl, ?_, hw.done⟩
    simp_all [CV]
theorem lookup_c (i : Int) (hb : n.bm = (b : Int)) (hb2 : b < 18446744073709551616) (hr : Rep w n xs ys) : Calls Try.prog 49 #[n.v, .int .i64 i] w fun e w' => e = .returned (.tuple #[.int .i64 ((lkO n xs ys b i).getD 0), .bool (lkO n xs ys b i).isSome]) ∧ St w [] [] w' := by
  have e1 := hr.brN
  refine enter Try.func49 Try.ntmps49 rfl rfl (SF.s2 hr.br hr.pr) ?_
  simp only [mkS]
  simp only [Nd.v, Nd.cells, hb, e1]
  all_goals (refine k_seq ?_)
  all_goals refine k_region ?_
  all_goals refine j_box (fun x2 => ?_)
  all_goals refine j_assignL (fun _ => ?_)
  all_goals refine j_assignL (fun _ => ?_)
  all_goals refine l_nil ?_
  all_goals (refine k_seq ?_)
  all_goals (refine k_seq ?_)
  all_goals refine k_region ?_
  all_goals refine j_load ?_
  all_goals (refine j_own (c0 (V := .bool) (hc := fun w1 hw => by rw [← e1, ← hb]; exact cvalid_c (n := n) (hr.keep0 hw.done))) (fun x7 => ?_); try (refine l_fact (fun h7 => ?_)))
  all_goals refine j_not ?_
  all_goals refine j_move ?_
  all_goals (first | refine j_un ?_ | (refine j_yes ?_; refine j_fieldAddr ?_) | (refine l_case (g := 9) (by exact rfl) (fun g9 => ?_) (fun g9 => ?_) <;> (first | replace g9 := of_decide_eq_true g9 | replace g9 := of_decide_eq_false g9 | skip) <;> (first | refine j_un ?_ | (refine j_yes ?_; refine j_fieldAddr ?_))))
  all_goals (first | refine j_un ?_ | (refine j_yes ?_; refine j_load ?_) | (refine l_case (g := 9) (by exact rfl) (fun g9 => ?_) (fun g9 => ?_) <;> (first | replace g9 := of_decide_eq_true g9 | replace g9 := of_decide_eq_false g9 | skip) <;> (first | refine j_un ?_ | (refine j_yes ?_; refine j_load ?_))))
  all_goals (first | refine j_un ?_ | (refine j_yes ?_; refine j_move ?_) | (refine l_case (g := 9) (by exact rfl) (fun g9 => ?_) (fun g9 => ?_) <;> (first | replace g9 := of_decide_eq_true g9 | replace g9 := of_decide_eq_false g9 | skip) <;> (first | refine j_un ?_ | (refine j_yes ?_; refine j_move ?_))))
  all_goals (first | refine j_un ?_ | (refine j_yes ?_; (refine j_own (cV (hc := fun w1 hw => has_c hb2 i w1)) (fun x13 => ?_); try (refine l_fact (fun h13 => ?_)))) | (refine l_case (g := 9) (by exact rfl) (fun g9 => ?_) (fun g9 => ?_) <;> (first | replace g9 := of_decide_eq_true g9 | replace g9 := of_decide_eq_false g9 | skip) <;> (first | refine j_un ?_ | (refine j_yes ?_; (refine j_own (cV (hc := fun w1 hw => has_c hb2 i w1)) (fun x13 => ?_); try (refine l_fact (fun h13 => ?_)))))))
  all_goals (first | refine j_un ?_ | (refine j_yes ?_; refine j_not ?_) | (refine l_case (g := 9) (by exact rfl) (fun g9 => ?_) (fun g9 => ?_) <;> (first | replace g9 := of_decide_eq_true g9 | replace g9 := of_decide_eq_false g9 | skip) <;> (first | refine j_un ?_ | (refine j_yes ?_; refine j_not ?_))))
  all_goals refine j_pick ?_
  all_goals refine l_nil ?_
  all_goals
    refine k_cond (by exact rfl) (fun c15 => ?_) (fun c15 => ?_)
    · try (exact absurd c15 (by decide))
      all_goals (first | replace c15 := of_decide_eq_true c15 | replace c15 := sbeq_t c15 | replace c15 := sbne_t c15 | replace c15 := ibeq_t c15 | replace c15 := ibne_t c15 | replace c15 := ndec_t c15 | replace c15 := not_t c15 | skip)
      all_goals (refine k_seq ?_)
      all_goals refine k_region ?_
      all_goals refine j_assignL (fun _ => ?_)
      all_goals refine j_assignL (fun _ => ?_)
      all_goals refine l_nil ?_
      all_goals
        refine k_retvF Try.results49 (.tmp (by conv => { lhs; whnf }) (.tmp (by conv => { lhs; whnf }) .nil)) (fun w hw => ?_)
        rw [show lkO n xs ys b i = none from if_neg (by simp_all)]; exact ⟨rfl, hw.done⟩
    · try (exact absurd c15 (by decide))
      all_goals (first | replace c15 := of_decide_eq_false c15 | replace c15 := sbeq_f c15 | replace c15 := sbne_f c15 | replace c15 := ibeq_f c15 | replace c15 := ibne_f c15 | replace c15 := ndec_f c15 | replace c15 := not_f c15 | skip)
      all_goals
        have hcv : CV n xs ys := h7.1 (by simpa using g9)
        have hpl := bv_lt (hcv.bv hb hb2) c15
      all_goals (refine k_skip ?_)
      all_goals (refine k_seq ?_)
      all_goals refine k_drawF (.one 0 [] (.one 1 [] (.one 2 [] (.one 3 [] (.one 4 [] (.one 5 [1] (.one 6 [] (.one 7 [] (.one 8 [] (.one 9 [] .nil)))))))))) ?_
      all_goals (refine r_fieldAddr (i := 0) ?_)
      all_goals (refine r_load (i := 1) ?_)
      all_goals (refine r_fieldAddr (i := 2) ?_)
      all_goals (refine r_load (i := 3) ?_)
      all_goals (refine r_move (i := 4) ?_)
      all_goals ((refine r_own (i := 5) (hq := (cV (hc := fun w1 hw => pos_c hb2 i w1))) (hfire := (fun _ => by first | (refine FireAll.cons (by first | exact a_load | exact a_un) ?_; exact FireAll.nil) | (refine fireall_fact ?_; refine FireAll.cons (by first | exact a_load | exact a_un) ?_; exact FireAll.nil))) (h := fun x21 => ?_); try (refine r_fact (fun h21 => ?_))))
      all_goals (refine r_indexAddr (i := 6) ?_)
      all_goals (refine r_load (i := 7) ?_)
      all_goals (refine r_assignL (i := 8) (hfire := (fun _ => .nil)) (h := fun _ => ?_))
      all_goals (refine r_assignL (i := 9) (hfire := (fun _ => .nil)) (h := fun _ => ?_))
      all_goals refine r_fin ?_
      all_goals
        refine k_retvF Try.results49 (.tmp (by conv => { lhs; whnf }) (.tmp (by conv => { lhs; whnf }) .nil)) (fun w hw => ?_)
        rw [show lkO n xs ys b i = some (xs.getD (posN b i) 0) from if_pos ⟨hcv, c15⟩]; exact ⟨rfl, hw.done⟩
theorem refLookup_c (i : Int) (hb : n.bm = (b : Int)) (hb2 : b < 18446744073709551616) (hr : Rep w n xs ys) : Calls Try.prog 92 #[n.v, .int .i64 i] w fun e w' => e = .returned (.tuple #[.int .i64 ((lkO n xs ys b i).getD 0), .bool (lkO n xs ys b i).isSome]) ∧ St w [] [] w' := by
  have e1 := hr.brN
  refine enter Try.func92 Try.ntmps92 rfl rfl (SF.s2 hr.br hr.pr) ?_
  simp only [mkS]
  simp only [Nd.v, Nd.cells, hb, e1]
  all_goals (refine k_seq ?_)
  all_goals refine k_region ?_
  all_goals refine j_box (fun x2 => ?_)
  all_goals refine j_assignL (fun _ => ?_)
  all_goals refine j_assignL (fun _ => ?_)
  all_goals refine l_nil ?_
  all_goals (refine k_seq ?_)
  all_goals (refine k_seq ?_)
  all_goals refine k_region ?_
  all_goals refine j_load ?_
  all_goals (refine j_own (c0 (V := .bool) (hc := fun w1 hw => by rw [← e1, ← hb]; exact cis_c (n := n) hb hb2 (hr.keep0 hw.done))) (fun x7 => ?_); try (refine l_fact (fun h7 => ?_)))
  all_goals refine j_not ?_
  all_goals refine j_move ?_
  all_goals (first | refine j_un ?_ | (refine j_yes ?_; refine j_fieldAddr ?_) | (refine l_case (g := 9) (by exact rfl) (fun g9 => ?_) (fun g9 => ?_) <;> (first | replace g9 := of_decide_eq_true g9 | replace g9 := of_decide_eq_false g9 | skip) <;> (first | refine j_un ?_ | (refine j_yes ?_; refine j_fieldAddr ?_))))
  all_goals (first | refine j_un ?_ | (refine j_yes ?_; refine j_load ?_) | (refine l_case (g := 9) (by exact rfl) (fun g9 => ?_) (fun g9 => ?_) <;> (first | replace g9 := of_decide_eq_true g9 | replace g9 := of_decide_eq_false g9 | skip) <;> (first | refine j_un ?_ | (refine j_yes ?_; refine j_load ?_))))
  all_goals (first | refine j_un ?_ | (refine j_yes ?_; refine j_move ?_) | (refine l_case (g := 9) (by exact rfl) (fun g9 => ?_) (fun g9 => ?_) <;> (first | replace g9 := of_decide_eq_true g9 | replace g9 := of_decide_eq_false g9 | skip) <;> (first | refine j_un ?_ | (refine j_yes ?_; refine j_move ?_))))
  all_goals (first | refine j_un ?_ | (refine j_yes ?_; (refine j_own (cV (hc := fun w1 hw => refHas_c hb2 i w1)) (fun x13 => ?_); try (refine l_fact (fun h13 => ?_)))) | (refine l_case (g := 9) (by exact rfl) (fun g9 => ?_) (fun g9 => ?_) <;> (first | replace g9 := of_decide_eq_true g9 | replace g9 := of_decide_eq_false g9 | skip) <;> (first | refine j_un ?_ | (refine j_yes ?_; (refine j_own (cV (hc := fun w1 hw => refHas_c hb2 i w1)) (fun x13 => ?_); try (refine l_fact (fun h13 => ?_)))))))
  all_goals (first | refine j_un ?_ | (refine j_yes ?_; refine j_not ?_) | (refine l_case (g := 9) (by exact rfl) (fun g9 => ?_) (fun g9 => ?_) <;> (first | replace g9 := of_decide_eq_true g9 | replace g9 := of_decide_eq_false g9 | skip) <;> (first | refine j_un ?_ | (refine j_yes ?_; refine j_not ?_))))
  all_goals refine j_pick ?_
  all_goals refine l_nil ?_
  all_goals
    refine k_cond (by exact rfl) (fun c15 => ?_) (fun c15 => ?_)
    · try (exact absurd c15 (by decide))
      all_goals (first | replace c15 := of_decide_eq_true c15 | replace c15 := sbeq_t c15 | replace c15 := sbne_t c15 | replace c15 := ibeq_t c15 | replace c15 := ibne_t c15 | replace c15 := ndec_t c15 | replace c15 := not_t c15 | skip)
      all_goals (refine k_seq ?_)
      all_goals refine k_region ?_
      all_goals refine j_assignL (fun _ => ?_)
      all_goals refine j_assignL (fun _ => ?_)
      all_goals refine l_nil ?_
      all_goals
        refine k_retvF Try.results92 (.tmp (by conv => { lhs; whnf }) (.tmp (by conv => { lhs; whnf }) .nil)) (fun w hw => ?_)
        rw [show lkO n xs ys b i = none from if_neg (by simp_all)]; exact ⟨rfl, hw.done⟩
    · try (exact absurd c15 (by decide))
      all_goals (first | replace c15 := of_decide_eq_false c15 | replace c15 := sbeq_f c15 | replace c15 := sbne_f c15 | replace c15 := ibeq_f c15 | replace c15 := ibne_f c15 | replace c15 := ndec_f c15 | replace c15 := not_f c15 | skip)
      all_goals
        have hcv : CV n xs ys := h7.1 (by simpa using g9)
        have hpl := bv_lt (hcv.bv hb hb2) c15
      all_goals (refine k_skip ?_)
      all_goals (refine k_seq ?_)
      all_goals refine k_drawF (.one 0 [] (.one 1 [] (.one 2 [] (.one 3 [] (.one 4 [] (.one 5 [1] (.one 6 [] (.one 7 [] (.one 8 [] (.one 9 [] .nil)))))))))) ?_
      all_goals (refine r_fieldAddr (i := 0) ?_)
      all_goals (refine r_load (i := 1) ?_)
      all_goals (refine r_fieldAddr (i := 2) ?_)
      all_goals (refine r_load (i := 3) ?_)
      all_goals (refine r_move (i := 4) ?_)
      all_goals ((refine r_own (i := 5) (hq := (cV (hc := fun w1 hw => refPos_c hb2 i w1))) (hfire := (fun _ => by first | (refine FireAll.cons (by first | exact a_load | exact a_un) ?_; exact FireAll.nil) | (refine fireall_fact ?_; refine FireAll.cons (by first | exact a_load | exact a_un) ?_; exact FireAll.nil))) (h := fun x21 => ?_); try (refine r_fact (fun h21 => ?_))))
      all_goals (refine r_indexAddr (i := 6) ?_)
      all_goals (refine r_load (i := 7) ?_)
      all_goals (refine r_assignL (i := 8) (hfire := (fun _ => .nil)) (h := fun _ => ?_))
      all_goals (refine r_assignL (i := 9) (hfire := (fun _ => .nil)) (h := fun _ => ?_))
      all_goals refine r_fin ?_
      all_goals
        refine k_retvF Try.results92 (.tmp (by conv => { lhs; whnf }) (.tmp (by conv => { lhs; whnf }) .nil)) (fun w hw => ?_)
        rw [show lkO n xs ys b i = some (xs.getD (posN b i) 0) from if_pos ⟨hcv, c15⟩]; exact ⟨rfl, hw.done⟩
theorem sole_c (hr : Rep w n xs ys) : Calls Try.prog 91 #[n.v] w fun e w' => e = .returned (.tuple #[.int .i64 ((soO n xs ys).getD 0), .bool (soO n xs ys).isSome]) ∧ St w [] [] w' := by
  have e1 := hr.brN
  refine enter Try.func91 Try.ntmps91 rfl rfl (SF.s2 hr.br hr.pr) ?_
  simp only [mkS]
  simp only [Nd.v, Nd.cells, e1]
  all_goals (refine k_seq ?_)
  all_goals refine k_region ?_
  all_goals refine j_box (fun x1 => ?_)
  all_goals refine j_assignL (fun _ => ?_)
  all_goals refine j_assignL (fun _ => ?_)
  all_goals refine l_nil ?_
  all_goals (refine k_seq ?_)
  all_goals (refine k_seq ?_)
  all_goals refine k_region ?_
  all_goals refine j_load ?_
  all_goals (refine j_own (c0 (V := .bool) (hc := fun w1 hw => by rw [← e1]; exact cvalid_c (n := n) (hr.keep0 hw.done))) (fun x5 => ?_); try (refine l_fact (fun h5 => ?_)))
  all_goals refine j_not ?_
  all_goals refine j_move ?_
  all_goals (first | refine j_un ?_ | (refine j_yes ?_; refine j_fieldAddr ?_) | (refine l_case (g := 7) (by exact rfl) (fun g7 => ?_) (fun g7 => ?_) <;> (first | replace g7 := of_decide_eq_true g7 | replace g7 := of_decide_eq_false g7 | skip) <;> (first | refine j_un ?_ | (refine j_yes ?_; refine j_fieldAddr ?_))))
  all_goals (first | refine j_un ?_ | (refine j_yes ?_; refine j_load ?_) | (refine l_case (g := 7) (by exact rfl) (fun g7 => ?_) (fun g7 => ?_) <;> (first | replace g7 := of_decide_eq_true g7 | replace g7 := of_decide_eq_false g7 | skip) <;> (first | refine j_un ?_ | (refine j_yes ?_; refine j_load ?_))))
  all_goals (first | refine j_un ?_ | (refine j_yes ?_; refine j_len ?_) | (refine l_case (g := 7) (by exact rfl) (fun g7 => ?_) (fun g7 => ?_) <;> (first | replace g7 := of_decide_eq_true g7 | replace g7 := of_decide_eq_false g7 | skip) <;> (first | refine j_un ?_ | (refine j_yes ?_; refine j_len ?_))))
  all_goals (first | refine j_un ?_ | (refine j_yes ?_; refine j_neq ?_) | (refine l_case (g := 7) (by exact rfl) (fun g7 => ?_) (fun g7 => ?_) <;> (first | replace g7 := of_decide_eq_true g7 | replace g7 := of_decide_eq_false g7 | skip) <;> (first | refine j_un ?_ | (refine j_yes ?_; refine j_neq ?_))))
  all_goals refine j_pick ?_
  all_goals refine l_nil ?_
  all_goals
    refine k_cond (by exact rfl) (fun c12 => ?_) (fun c12 => ?_)
    · try (exact absurd c12 (by decide))
      all_goals (first | replace c12 := of_decide_eq_true c12 | replace c12 := sbeq_t c12 | replace c12 := sbne_t c12 | replace c12 := ibeq_t c12 | replace c12 := ibne_t c12 | replace c12 := ndec_t c12 | replace c12 := not_t c12 | skip)
      all_goals (refine k_seq ?_)
      all_goals refine k_region ?_
      all_goals refine j_assignL (fun _ => ?_)
      all_goals refine j_assignL (fun _ => ?_)
      all_goals refine l_nil ?_
      all_goals
        refine k_retvF Try.results91 (.tmp (by conv => { lhs; whnf }) (.tmp (by conv => { lhs; whnf }) .nil)) (fun w hw => ?_)
        rw [show soO n xs ys = none from if_neg (by simp_all; try omega)]; exact ⟨rfl, hw.done⟩
    · try (exact absurd c12 (by decide))
      all_goals (first | replace c12 := of_decide_eq_false c12 | replace c12 := sbeq_f c12 | replace c12 := sbne_f c12 | replace c12 := ibeq_f c12 | replace c12 := ibne_f c12 | replace c12 := ndec_f c12 | replace c12 := not_f c12 | skip)
      all_goals
        have hcv : CV n xs ys := h5.1 (by simpa using g7)
        have hl1 : xs.length = 1 := by omega
      all_goals (refine k_skip ?_)
      all_goals (refine k_seq ?_)
      all_goals refine k_region ?_
      all_goals refine j_fieldAddr ?_
      all_goals refine j_load ?_
      all_goals refine l_quiet (o_indexR (k := 0) (by exact rfl) (by exact rfl) (by exact sl_of rfl) (by exact one_of rfl) (by first | exact .new .head | exact .new (.tail .head) | exact .new (.tail (.tail .head)) | exact .new (.tail (.tail (.tail .head))) | exact .new (.tail (.tail (.tail (.tail .head)))) | exact .new (.tail (.tail (.tail (.tail (.tail .head))))) | exact .new (.tail (.tail (.tail (.tail (.tail (.tail .head)))))) | exact .new (.tail (.tail (.tail (.tail (.tail (.tail (.tail .head))))))) | exact .new (.tail (.tail (.tail (.tail (.tail (.tail (.tail (.tail .head)))))))) | exact .new (.tail (.tail (.tail (.tail (.tail (.tail (.tail (.tail (.tail .head))))))))) | exact .old .head | exact .old (.tail .head) | exact .old (.tail (.tail .head)) | exact .old (.tail (.tail (.tail .head))) | exact .old (.tail (.tail (.tail (.tail .head)))) | exact .old (.tail (.tail (.tail (.tail (.tail .head))))) | exact .own .head | exact .own (.tail .head) | exact .own (.tail (.tail .head)) | exact .own (.tail (.tail (.tail .head))) | exact .own (.tail (.tail (.tail (.tail .head)))) | exact .own (.tail (.tail (.tail (.tail (.tail .head))))) | exact .own (.tail (.tail (.tail (.tail (.tail (.tail .head)))))) | exact .own (.tail (.tail (.tail (.tail (.tail (.tail (.tail .head)))))))) (by omega) (by omega)) rfl ?_
      all_goals refine j_load ?_
      all_goals refine j_assignL (fun _ => ?_)
      all_goals refine j_assignL (fun _ => ?_)
      all_goals refine l_nil ?_
      all_goals
        refine k_retvF Try.results91 (.tmp (by conv => { lhs; whnf }) (.tmp (by conv => { lhs; whnf }) .nil)) (fun w hw => ?_)
        rw [show soO n xs ys = some (xs.getD 0 0) from if_pos ⟨hcv, hl1⟩]; exact ⟨rfl, hw.done⟩
theorem refSole_c (hb : n.bm = (b : Int)) (hb2 : b < 18446744073709551616) (hr : Rep w n xs ys) : Calls Try.prog 93 #[n.v] w fun e w' => e = .returned (.tuple #[.int .i64 ((soO n xs ys).getD 0), .bool (soO n xs ys).isSome]) ∧ St w [] [] w' := by
  have e1 := hr.brN
  refine enter Try.func93 Try.ntmps93 rfl rfl (SF.s2 hr.br hr.pr) ?_
  simp only [mkS]
  simp only [Nd.v, Nd.cells, e1]
  all_goals (refine k_seq ?_)
  all_goals refine k_region ?_
  all_goals refine j_box (fun x1 => ?_)
  all_goals refine j_assignL (fun _ => ?_)
  all_goals refine j_assignL (fun _ => ?_)
  all_goals refine l_nil ?_
  all_goals (refine k_seq ?_)
  all_goals (refine k_seq ?_)
  all_goals refine k_region ?_
  all_goals refine j_load ?_
  all_goals (refine j_own (c0 (V := .bool) (hc := fun w1 hw => by rw [← e1]; exact cis_c (n := n) hb hb2 (hr.keep0 hw.done))) (fun x5 => ?_); try (refine l_fact (fun h5 => ?_)))
  all_goals refine j_not ?_
  all_goals refine j_move ?_
  all_goals (first | refine j_un ?_ | (refine j_yes ?_; refine j_fieldAddr ?_) | (refine l_case (g := 7) (by exact rfl) (fun g7 => ?_) (fun g7 => ?_) <;> (first | replace g7 := of_decide_eq_true g7 | replace g7 := of_decide_eq_false g7 | skip) <;> (first | refine j_un ?_ | (refine j_yes ?_; refine j_fieldAddr ?_))))
  all_goals (first | refine j_un ?_ | (refine j_yes ?_; refine j_load ?_) | (refine l_case (g := 7) (by exact rfl) (fun g7 => ?_) (fun g7 => ?_) <;> (first | replace g7 := of_decide_eq_true g7 | replace g7 := of_decide_eq_false g7 | skip) <;> (first | refine j_un ?_ | (refine j_yes ?_; refine j_load ?_))))
  all_goals (first | refine j_un ?_ | (refine j_yes ?_; refine j_len ?_) | (refine l_case (g := 7) (by exact rfl) (fun g7 => ?_) (fun g7 => ?_) <;> (first | replace g7 := of_decide_eq_true g7 | replace g7 := of_decide_eq_false g7 | skip) <;> (first | refine j_un ?_ | (refine j_yes ?_; refine j_len ?_))))
  all_goals (first | refine j_un ?_ | (refine j_yes ?_; refine j_neq ?_) | (refine l_case (g := 7) (by exact rfl) (fun g7 => ?_) (fun g7 => ?_) <;> (first | replace g7 := of_decide_eq_true g7 | replace g7 := of_decide_eq_false g7 | skip) <;> (first | refine j_un ?_ | (refine j_yes ?_; refine j_neq ?_))))
  all_goals refine j_pick ?_
  all_goals refine l_nil ?_
  all_goals
    refine k_cond (by exact rfl) (fun c12 => ?_) (fun c12 => ?_)
    · try (exact absurd c12 (by decide))
      all_goals (first | replace c12 := of_decide_eq_true c12 | replace c12 := sbeq_t c12 | replace c12 := sbne_t c12 | replace c12 := ibeq_t c12 | replace c12 := ibne_t c12 | replace c12 := ndec_t c12 | replace c12 := not_t c12 | skip)
      all_goals (refine k_seq ?_)
      all_goals refine k_region ?_
      all_goals refine j_assignL (fun _ => ?_)
      all_goals refine j_assignL (fun _ => ?_)
      all_goals refine l_nil ?_
      all_goals
        refine k_retvF Try.results93 (.tmp (by conv => { lhs; whnf }) (.tmp (by conv => { lhs; whnf }) .nil)) (fun w hw => ?_)
        rw [show soO n xs ys = none from if_neg (by simp_all; try omega)]; exact ⟨rfl, hw.done⟩
    · try (exact absurd c12 (by decide))
      all_goals (first | replace c12 := of_decide_eq_false c12 | replace c12 := sbeq_f c12 | replace c12 := sbne_f c12 | replace c12 := ibeq_f c12 | replace c12 := ibne_f c12 | replace c12 := ndec_f c12 | replace c12 := not_f c12 | skip)
      all_goals
        have hcv : CV n xs ys := h5.1 (by simpa using g7)
        have hl1 : xs.length = 1 := by omega
      all_goals (refine k_skip ?_)
      all_goals (refine k_seq ?_)
      all_goals refine k_region ?_
      all_goals refine j_fieldAddr ?_
      all_goals refine j_load ?_
      all_goals refine l_quiet (o_indexR (k := 0) (by exact rfl) (by exact rfl) (by exact sl_of rfl) (by exact one_of rfl) (by first | exact .new .head | exact .new (.tail .head) | exact .new (.tail (.tail .head)) | exact .new (.tail (.tail (.tail .head))) | exact .new (.tail (.tail (.tail (.tail .head)))) | exact .new (.tail (.tail (.tail (.tail (.tail .head))))) | exact .new (.tail (.tail (.tail (.tail (.tail (.tail .head)))))) | exact .new (.tail (.tail (.tail (.tail (.tail (.tail (.tail .head))))))) | exact .new (.tail (.tail (.tail (.tail (.tail (.tail (.tail (.tail .head)))))))) | exact .new (.tail (.tail (.tail (.tail (.tail (.tail (.tail (.tail (.tail .head))))))))) | exact .old .head | exact .old (.tail .head) | exact .old (.tail (.tail .head)) | exact .old (.tail (.tail (.tail .head))) | exact .old (.tail (.tail (.tail (.tail .head)))) | exact .old (.tail (.tail (.tail (.tail (.tail .head))))) | exact .own .head | exact .own (.tail .head) | exact .own (.tail (.tail .head)) | exact .own (.tail (.tail (.tail .head))) | exact .own (.tail (.tail (.tail (.tail .head)))) | exact .own (.tail (.tail (.tail (.tail (.tail .head))))) | exact .own (.tail (.tail (.tail (.tail (.tail (.tail .head)))))) | exact .own (.tail (.tail (.tail (.tail (.tail (.tail (.tail .head)))))))) (by omega) (by omega)) rfl ?_
      all_goals refine j_load ?_
      all_goals refine j_assignL (fun _ => ?_)
      all_goals refine j_assignL (fun _ => ?_)
      all_goals refine l_nil ?_
      all_goals
        refine k_retvF Try.results93 (.tmp (by conv => { lhs; whnf }) (.tmp (by conv => { lhs; whnf }) .nil)) (fun w hw => ?_)
        rw [show soO n xs ys = some (xs.getD 0 0) from if_pos ⟨hcv, hl1⟩]; exact ⟨rfl, hw.done⟩
end
end Go.Proofs.Ythmagkjcangnfaa
