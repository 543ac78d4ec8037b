/- Branches: the reference's Inserted, Updated, Removed. -/
import Derived.Test.YthmagkjcangnfaaBr5
set_option linter.unusedSimpArgs false
set_option linter.unusedVariables false
namespace Go.Proofs.Ythmagkjcangnfaa
open Go.RowKit Go.Ct
theorem of_eq {m : Nat → Option Int} {b : Nat} {xs : List Int} (h : BV b xs ∧ ∀ k, k < 64 → mOf b xs k = m k) : bOf m 64 = b ∧ lOf m 64 = xs := by
  obtain ⟨h1, h2⟩ := of_congr 64 fun k hk => (h.2 k hk).symm
  obtain ⟨h3, h4⟩ := of_mOf h.1
  exact ⟨h1.trans h3, h2.trans h4⟩
theorem withI_nat {k : Nat} (b : Nat) (hk : k < 64) : withI b (k : Int) = b ||| 2 ^ k := by
  unfold withI; rw [if_pos (by omega), Int.toNat_natCast]
theorem withoutI_nat {k : Nat} (b : Nat) (hk : k < 64) : withoutI b (k : Int) = b ^^^ (b &&& 2 ^ k) := by
  unfold withoutI; rw [if_pos (by omega), Int.toNat_natCast]
theorem posN_nat {k : Nat} (b : Nat) (hk : k < 64) : posN b (k : Int) = cnt b k := by
  unfold posN; rw [Int.toNat_natCast, Nat.min_eq_left (by omega)]
theorem hasI_nat {k : Nat} (b : Nat) (hk : k < 64) : hasI b (k : Int) = b.testBit k := by
  rw [hasI_in b (by omega) (by omega), Int.toNat_natCast]
theorem build_ins {b k : Nat} {xs : List Int} {r : Int} (h : BV b xs) (hk : k < 64) (hb : hasI b (k : Int) = false) (hr : 1 ≤ r) : bOf (updR b xs k r) 64 = withI b (k : Int) ∧ lOf (updR b xs k r) 64 = insL xs (posN b (k : Int)) r := by
  rw [hasI_nat b hk] at hb
  rw [withI_nat b hk, posN_nat b hk]
  unfold updR
  rw [if_pos (by omega)]
  exact of_eq (ins_bv h hk hb hr)
theorem build_upd {b k : Nat} {xs : List Int} {r : Int} (h : BV b xs) (hk : k < 64) (hb : hasI b (k : Int) = true) (hr : 1 ≤ r) : bOf (updR b xs k r) 64 = b ∧ lOf (updR b xs k r) 64 = updL xs (posN b (k : Int)) r := by
  rw [hasI_nat b hk] at hb
  rw [posN_nat b hk]
  unfold updR
  rw [if_pos (by omega)]
  exact of_eq (upd_bv h hk hb hr)
theorem build_rem {b k : Nat} {xs : List Int} (h : BV b xs) (hk : k < 64) (hb : hasI b (k : Int) = true) : bOf (updR b xs k 0) 64 = withoutI b (k : Int) ∧ lOf (updR b xs k 0) 64 = remL xs (posN b (k : Int)) := by
  rw [hasI_nat b hk] at hb
  rw [withoutI_nat b hk, posN_nat b hk]
  unfold updR
  rw [if_neg (by omega)]
  exact of_eq (rem_bv h hk hb)
section
variable {n : Nd} {xs : List Int} {ys : List Pr} {w : World} {b : Nat}
theorem lkO_some {i : Int} (h : (lkO n xs ys b i).isSome = true) : CV n xs ys ∧ hasI b i = true := by
  unfold lkO at h
  split at h
  · assumption
  · cases h
theorem lkO_none {i : Int} (h : (lkO n xs ys b i).isSome = false) (hcv : CV n xs ys) : hasI b i = false := by
  unfold lkO at h
  split at h
  · cases h
  · rename_i hn
    cases hh : hasI b i with
    | false => rfl
    | true => exact absurd ⟨hcv, hh⟩ hn
theorem refInserted_c (i r : Int) (hb : n.bm = (b : Int)) (hb2 : b < 18446744073709551616) (hr : Rep w n xs ys) : Calls Try.prog 94 #[n.v, .int .i64 i, .int .i64 r] w (CRes w (inO n xs ys b i r)) := by
  refine enter Try.func94 Try.ntmps94 rfl rfl (SF.s2 hr.br hr.pr) ?_
  simp only [mkS]
  simp only [Nd.v, Nd.cells]
  all_goals (refine k_seq ?_)
  all_goals refine k_region ?_
  all_goals refine j_box (fun x3 => ?_)
  all_goals refine j_alloc (fun x6 => ?_)
  all_goals refine j_assignL (fun _ => ?_)
  all_goals refine l_nil ?_
  all_goals (refine k_seq ?_)
  all_goals (refine k_seq ?_)
  all_goals refine k_region ?_
  all_goals refine j_load ?_
  all_goals refine j_move ?_
  all_goals (refine j_own (cV (hc := fun w1 hw => refLookup_c (n := n) i hb hb2 (hr.keep0 hw.done))) (fun x13 => ?_); try (refine l_fact (fun h13 => ?_)))
  all_goals refine j_move ?_
  all_goals refine l_quiet (o_extract (by exact rfl) rfl) rfl ?_
  all_goals refine l_quiet (o_extract (by exact rfl) rfl) rfl ?_
  all_goals refine j_assignL (fun _ => ?_)
  all_goals refine j_assignL (fun _ => ?_)
  all_goals refine l_nil ?_
  all_goals (refine k_seq ?_)
  all_goals refine k_region ?_
  all_goals refine j_load ?_
  all_goals (refine j_own (c0 (V := .bool) (hc := fun w1 hw => cis_c (n := n) hb hb2 (hr.keep0 hw.done))) (fun x17 => ?_); try (refine l_fact (fun h17 => ?_)))
  all_goals refine j_not ?_
  all_goals refine j_move ?_
  all_goals (first | refine j_un ?_ | (refine j_yes ?_; refine j_move ?_) | (refine l_case (g := 19) (by exact rfl) (fun g19 => ?_) (fun g19 => ?_) <;> (first | replace g19 := of_decide_eq_true g19 | replace g19 := of_decide_eq_false g19 | skip) <;> (first | refine j_un ?_ | (refine j_yes ?_; refine j_move ?_))))
  all_goals refine j_pick ?_
  all_goals refine j_move ?_
  all_goals (first | refine j_un ?_ | (refine j_yes ?_; refine j_move ?_) | (refine l_case (g := 22) (by exact rfl) (fun g22 => ?_) (fun g22 => ?_) <;> (first | replace g22 := of_decide_eq_true g22 | replace g22 := of_decide_eq_false g22 | skip) <;> (first | refine j_un ?_ | (refine j_yes ?_; refine j_move ?_))))
  all_goals (first | refine j_un ?_ | (refine j_yes ?_; refine j_lss ?_) | (refine l_case (g := 22) (by exact rfl) (fun g22 => ?_) (fun g22 => ?_) <;> (first | replace g22 := of_decide_eq_true g22 | replace g22 := of_decide_eq_false g22 | skip) <;> (first | refine j_un ?_ | (refine j_yes ?_; refine j_lss ?_))))
  all_goals refine j_pick ?_
  all_goals refine j_move ?_
  all_goals (first | refine j_un ?_ | (refine j_yes ?_; refine j_move ?_) | (refine l_case (g := 26) (by exact rfl) (fun g26 => ?_) (fun g26 => ?_) <;> (first | replace g26 := of_decide_eq_true g26 | replace g26 := of_decide_eq_false g26 | skip) <;> (first | refine j_un ?_ | (refine j_yes ?_; refine j_move ?_))))
  all_goals (first | refine j_un ?_ | (refine j_yes ?_; refine j_gtr ?_) | (refine l_case (g := 26) (by exact rfl) (fun g26 => ?_) (fun g26 => ?_) <;> (first | replace g26 := of_decide_eq_true g26 | replace g26 := of_decide_eq_false g26 | skip) <;> (first | refine j_un ?_ | (refine j_yes ?_; refine j_gtr ?_))))
  all_goals refine j_pick ?_
  all_goals refine j_move ?_
  all_goals (first | refine j_un ?_ | (refine j_yes ?_; refine j_move ?_) | (refine l_case (g := 30) (by exact rfl) (fun g30 => ?_) (fun g30 => ?_) <;> (first | replace g30 := of_decide_eq_true g30 | replace g30 := of_decide_eq_false g30 | skip) <;> (first | refine j_un ?_ | (refine j_yes ?_; refine j_move ?_))))
  all_goals (first | refine j_un ?_ | (refine j_yes ?_; refine j_lss ?_) | (refine l_case (g := 30) (by exact rfl) (fun g30 => ?_) (fun g30 => ?_) <;> (first | replace g30 := of_decide_eq_true g30 | replace g30 := of_decide_eq_false g30 | skip) <;> (first | refine j_un ?_ | (refine j_yes ?_; refine j_lss ?_))))
  all_goals refine j_pick ?_
  all_goals refine l_nil ?_
  all_goals
    refine k_cond (by exact rfl) (fun c33 => ?_) (fun c33 => ?_)
    · try (exact absurd c33 (by decide))
      all_goals (first | replace c33 := of_decide_eq_true c33 | replace c33 := sbeq_t c33 | replace c33 := sbne_t c33 | replace c33 := ibeq_t c33 | replace c33 := ibne_t c33 | replace c33 := ndec_t c33 | replace c33 := not_t c33 | skip)
      all_goals (refine k_seq ?_)
      all_goals refine k_region ?_
      all_goals refine j_build ?_
      all_goals refine j_store (fun _ => ?_)
      all_goals refine j_assignL (fun _ => ?_)
      all_goals refine l_nil ?_
      all_goals
        refine k_retvF Try.results94 (.cell (by exact rfl) (by repeat (first | exact At.head | apply At.tail)) (by exact agg_of rfl) (.tmp (by conv => { lhs; whnf }) .nil)) (fun w hw => ?_)
        rw [show inO n xs ys b i r = none from if_neg (by rintro ⟨k1, ⟨k2, k3⟩, k4, k5⟩; clear hw; first | omega | exact absurd (lkO_some g22).2 (by simp [k5]) | exact absurd (h17.2 k1) (by simp_all))]; exact ⟨(none, 0), rfl, Nat.le_refl _, (hw.fnil none).fin⟩
    · try (exact absurd c33 (by decide))
      all_goals (first | replace c33 := of_decide_eq_false c33 | replace c33 := sbeq_f c33 | replace c33 := sbne_f c33 | replace c33 := ibeq_f c33 | replace c33 := ibne_f c33 | replace c33 := ndec_f c33 | replace c33 := not_f c33 | skip)
      all_goals
        have hcv := h17.1 (by simpa using g19)
        have hh := lkO_none g22 hcv
        obtain ⟨k, rfl⟩ := Int.eq_ofNat_of_zero_le (show 0 ≤ i by omega)
        have hk := build_ins (hcv.bv hb hb2) (k := k) (by omega) hh (r := r) (by omega)
      all_goals (refine k_skip ?_)
      all_goals (refine k_seq ?_)
      all_goals refine k_region ?_
      all_goals refine j_load ?_
      all_goals refine j_move ?_
      all_goals refine j_move ?_
      all_goals (refine j_own (cF (hc := fun w1 hw => by have := build_c (w := w1) k r (by omega) hcv hb hb2 (hr.keep0 hw.done); rw [hk.1, hk.2] at this; exact this)) (fun x38 => ?_); try (refine l_fact (fun h38 => ?_)))
      all_goals refine j_store (fun _ => ?_)
      all_goals refine j_assignL (fun _ => ?_)
      all_goals refine l_nil ?_
      all_goals
        refine k_retvF Try.results94 (.cell (by exact rfl) (by repeat (first | exact At.head | apply At.tail)) (by exact agg_of rfl) (.tmp (by conv => { lhs; whnf }) .nil)) (fun w hw => ?_)
        rw [show inO n xs ys b (k : Int) r = some (withI b (k : Int), insL xs (posN b (k : Int)) r) from if_pos ⟨hcv, ⟨by omega, by omega⟩, by omega, hh⟩]; exact ⟨x38, rfl, h38, hw.fin⟩
theorem refUpdated_c (i r : Int) (hb : n.bm = (b : Int)) (hb2 : b < 18446744073709551616) (hr : Rep w n xs ys) : Calls Try.prog 95 #[n.v, .int .i64 i, .int .i64 r] w (CRes w (upO n xs ys b i r)) := by
  refine enter Try.func95 Try.ntmps95 rfl rfl (SF.s2 hr.br hr.pr) ?_
  simp only [mkS]
  simp only [Nd.v, Nd.cells]
  all_goals (refine k_seq ?_)
  all_goals refine k_region ?_
  all_goals refine j_box (fun x3 => ?_)
  all_goals refine j_alloc (fun x6 => ?_)
  all_goals refine j_assignL (fun _ => ?_)
  all_goals refine l_nil ?_
  all_goals (refine k_seq ?_)
  all_goals (refine k_seq ?_)
  all_goals refine k_region ?_
  all_goals refine j_load ?_
  all_goals refine j_move ?_
  all_goals (refine j_own (cV (hc := fun w1 hw => refLookup_c (n := n) i hb hb2 (hr.keep0 hw.done))) (fun x13 => ?_); try (refine l_fact (fun h13 => ?_)))
  all_goals refine j_move ?_
  all_goals refine l_quiet (o_extract (by exact rfl) rfl) rfl ?_
  all_goals refine l_quiet (o_extract (by exact rfl) rfl) rfl ?_
  all_goals refine j_assignL (fun _ => ?_)
  all_goals refine j_assignL (fun _ => ?_)
  all_goals refine l_nil ?_
  all_goals (refine k_seq ?_)
  all_goals refine k_region ?_
  all_goals refine j_move ?_
  all_goals refine j_not ?_
  all_goals refine j_move ?_
  all_goals (first | refine j_un ?_ | (refine j_yes ?_; refine j_move ?_) | (refine l_case (g := 18) (by exact rfl) (fun g18 => ?_) (fun g18 => ?_) <;> (first | replace g18 := of_decide_eq_true g18 | replace g18 := of_decide_eq_false g18 | skip) <;> (first | refine j_un ?_ | (refine j_yes ?_; refine j_move ?_))))
  all_goals (first | refine j_un ?_ | (refine j_yes ?_; refine j_lss ?_) | (refine l_case (g := 18) (by exact rfl) (fun g18 => ?_) (fun g18 => ?_) <;> (first | replace g18 := of_decide_eq_true g18 | replace g18 := of_decide_eq_false g18 | skip) <;> (first | refine j_un ?_ | (refine j_yes ?_; refine j_lss ?_))))
  all_goals refine j_pick ?_
  all_goals refine l_nil ?_
  all_goals
    refine k_cond (by exact rfl) (fun c21 => ?_) (fun c21 => ?_)
    · try (exact absurd c21 (by decide))
      all_goals (first | replace c21 := of_decide_eq_true c21 | replace c21 := sbeq_t c21 | replace c21 := sbne_t c21 | replace c21 := ibeq_t c21 | replace c21 := ibne_t c21 | replace c21 := ndec_t c21 | replace c21 := not_t c21 | skip)
      all_goals (refine k_seq ?_)
      all_goals refine k_region ?_
      all_goals refine j_build ?_
      all_goals refine j_store (fun _ => ?_)
      all_goals refine j_assignL (fun _ => ?_)
      all_goals refine l_nil ?_
      all_goals
        refine k_retvF Try.results95 (.cell (by exact rfl) (by repeat (first | exact At.head | apply At.tail)) (by exact agg_of rfl) (.tmp (by conv => { lhs; whnf }) .nil)) (fun w hw => ?_)
        rw [show upO n xs ys b i r = none from if_neg (by rintro ⟨k1, k4, k5⟩; clear hw; first | omega | exact absurd (lkO_none (by simpa using g18) k1) (by simp [k5]))]; exact ⟨(none, 0), rfl, Nat.le_refl _, (hw.fnil none).fin⟩
    · try (exact absurd c21 (by decide))
      all_goals (first | replace c21 := of_decide_eq_false c21 | replace c21 := sbeq_f c21 | replace c21 := sbne_f c21 | replace c21 := ibeq_f c21 | replace c21 := ibne_f c21 | replace c21 := ndec_f c21 | replace c21 := not_f c21 | skip)
      all_goals
        have hc := lkO_some (by simpa using g18)
        have hcv := hc.1
        have hh := hc.2
        obtain ⟨q1, q2, _, _⟩ := hasI_elim hh
        obtain ⟨k, rfl⟩ := Int.eq_ofNat_of_zero_le q1
        have hk := build_upd (hcv.bv hb hb2) (k := k) (by omega) hh (r := r) (by omega)
      all_goals (refine k_skip ?_)
      all_goals (refine k_seq ?_)
      all_goals refine k_region ?_
      all_goals refine j_load ?_
      all_goals refine j_move ?_
      all_goals refine j_move ?_
      all_goals (refine j_own (cF (hc := fun w1 hw => by have := build_c (w := w1) k r (by omega) hcv hb hb2 (hr.keep0 hw.done); rw [hk.1, hk.2] at this; exact this)) (fun x26 => ?_); try (refine l_fact (fun h26 => ?_)))
      all_goals refine j_store (fun _ => ?_)
      all_goals refine j_assignL (fun _ => ?_)
      all_goals refine l_nil ?_
      all_goals
        refine k_retvF Try.results95 (.cell (by exact rfl) (by repeat (first | exact At.head | apply At.tail)) (by exact agg_of rfl) (.tmp (by conv => { lhs; whnf }) .nil)) (fun w hw => ?_)
        rw [show upO n xs ys b (k : Int) r = some (b, updL xs (posN b (k : Int)) r) from if_pos ⟨hcv, by omega, hh⟩]; exact ⟨x26, rfl, h26, hw.fin⟩
theorem refRemoved_c (i : Int) (hb : n.bm = (b : Int)) (hb2 : b < 18446744073709551616) (hr : Rep w n xs ys) : Calls Try.prog 96 #[n.v, .int .i64 i] w (CRes w (reO n xs ys b i)) := by
  refine enter Try.func96 Try.ntmps96 rfl rfl (SF.s2 hr.br hr.pr) ?_
  simp only [mkS]
  simp only [Nd.v, Nd.cells]
  all_goals (refine k_seq ?_)
  all_goals refine k_region ?_
  all_goals refine j_box (fun x2 => ?_)
  all_goals refine j_alloc (fun x4 => ?_)
  all_goals refine j_assignL (fun _ => ?_)
  all_goals refine l_nil ?_
  all_goals (refine k_seq ?_)
  all_goals (refine k_seq ?_)
  all_goals refine k_region ?_
  all_goals refine j_load ?_
  all_goals refine j_move ?_
  all_goals (refine j_own (cV (hc := fun w1 hw => refLookup_c (n := n) i hb hb2 (hr.keep0 hw.done))) (fun x11 => ?_); try (refine l_fact (fun h11 => ?_)))
  all_goals refine j_move ?_
  all_goals refine l_quiet (o_extract (by exact rfl) rfl) rfl ?_
  all_goals refine l_quiet (o_extract (by exact rfl) rfl) rfl ?_
  all_goals refine j_assignL (fun _ => ?_)
  all_goals refine j_assignL (fun _ => ?_)
  all_goals refine l_nil ?_
  all_goals (refine k_seq ?_)
  all_goals refine k_region ?_
  all_goals refine j_move ?_
  all_goals refine j_not ?_
  all_goals refine l_nil ?_
  all_goals
    refine k_cond (by exact rfl) (fun c15 => ?_) (fun c15 => ?_)
    · try (exact absurd c15 (by decide))
      all_goals (first | replace c15 := of_decide_eq_true c15 | replace c15 := sbeq_t c15 | replace c15 := sbne_t c15 | replace c15 := ibeq_t c15 | replace c15 := ibne_t c15 | replace c15 := ndec_t c15 | replace c15 := not_t c15 | skip)
      all_goals (refine k_seq ?_)
      all_goals refine k_region ?_
      all_goals refine j_build ?_
      all_goals refine j_store (fun _ => ?_)
      all_goals refine j_assignL (fun _ => ?_)
      all_goals refine l_nil ?_
      all_goals
        refine k_retvF Try.results96 (.cell (by exact rfl) (by repeat (first | exact At.head | apply At.tail)) (by exact agg_of rfl) (.tmp (by conv => { lhs; whnf }) .nil)) (fun w hw => ?_)
        rw [show reO n xs ys b i = none from if_neg (by rintro ⟨k1, k5⟩; clear hw; exact absurd (lkO_none c15 k1) (by simp [k5]))]; exact ⟨(none, 0), rfl, Nat.le_refl _, (hw.fnil none).fin⟩
    · try (exact absurd c15 (by decide))
      all_goals (first | replace c15 := of_decide_eq_false c15 | replace c15 := sbeq_f c15 | replace c15 := sbne_f c15 | replace c15 := ibeq_f c15 | replace c15 := ibne_f c15 | replace c15 := ndec_f c15 | replace c15 := not_f c15 | skip)
      all_goals
        have hc := lkO_some c15
        have hcv := hc.1
        have hh := hc.2
        obtain ⟨q1, q2, _, _⟩ := hasI_elim hh
        obtain ⟨k, rfl⟩ := Int.eq_ofNat_of_zero_le q1
        have hk := build_rem (hcv.bv hb hb2) (k := k) (by omega) hh
      all_goals (refine k_skip ?_)
      all_goals (refine k_seq ?_)
      all_goals refine k_region ?_
      all_goals refine j_load ?_
      all_goals refine j_move ?_
      all_goals (refine j_own (cF (hc := fun w1 hw => by have := build_c (w := w1) k 0 (by omega) hcv hb hb2 (hr.keep0 hw.done); rw [hk.1, hk.2] at this; exact this)) (fun x19 => ?_); try (refine l_fact (fun h19 => ?_)))
      all_goals refine j_store (fun _ => ?_)
      all_goals refine j_assignL (fun _ => ?_)
      all_goals refine l_nil ?_
      all_goals
        refine k_retvF Try.results96 (.cell (by exact rfl) (by repeat (first | exact At.head | apply At.tail)) (by exact agg_of rfl) (.tmp (by conv => { lhs; whnf }) .nil)) (fun w hw => ?_)
        rw [show reO n xs ys b (k : Int) = some (withoutI b (k : Int), remL xs (posN b (k : Int))) from if_pos ⟨hcv, hh⟩]; exact ⟨x19, rfl, h19, hw.fin⟩
end
end Go.Proofs.Ythmagkjcangnfaa
