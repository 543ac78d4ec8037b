/- Nodes are made; lists are copied. -/
import Derived.Test.YthmagkjcangnfaaSlices2
set_option linter.unusedSimpArgs false
set_option linter.unusedVariables false
namespace Go.Proofs.Ythmagkjcangnfaa
open Go.RowKit Go.Ct

theorem inner_c (g : Int) (w : World) : Calls Try.prog 37 #[.int .i64 g] w fun e w' => e = .returned ({ Nd.zero with kind := 2, gen := g } : Nd).v ∧ St w [] [] w' := by
  refine enter Try.func37 Try.ntmps37 rfl rfl (SF.s0 w) ?_
  simp only [mkS]
  all_goals (refine k_seq ?_)
  all_goals refine k_region ?_
  all_goals refine j_alloc (fun x2 => ?_)
  all_goals refine l_nil ?_
  all_goals (refine k_seq ?_)
  all_goals refine k_region ?_
  all_goals refine j_move ?_
  all_goals refine j_build ?_
  all_goals refine j_store (fun _ => ?_)
  all_goals refine l_nil ?_
  all_goals
    refine k_retvF Try.results37 (.cell (by exact rfl) (by repeat (first | exact At.head | apply At.tail)) (by exact agg_of rfl) .nil) (fun w hw => ?_)
    exact ⟨rfl, hw.done⟩
theorem empty_c (w : World) : Calls Try.prog 38 #[] w fun e w' => e = .returned ({ Nd.zero with kind := 3 } : Nd).v ∧ St w [] [] w' := by
  refine enter Try.func38 Try.ntmps38 rfl rfl (SF.s0 w) ?_
  simp only [mkS]
  all_goals (refine k_seq ?_)
  all_goals refine k_region ?_
  all_goals refine j_alloc (fun x0 => ?_)
  all_goals refine l_nil ?_
  all_goals (refine k_seq ?_)
  all_goals refine k_region ?_
  all_goals refine j_build ?_
  all_goals refine j_store (fun _ => ?_)
  all_goals refine l_nil ?_
  all_goals
    refine k_retvF Try.results38 (.cell (by exact rfl) (by repeat (first | exact At.head | apply At.tail)) (by exact agg_of rfl) .nil) (fun w hw => ?_)
    exact ⟨rfl, hw.done⟩
theorem single_c (h : Int) (k : ByteArray) (v : Int) (w : World) : Calls Try.prog 39 #[.int .u64 h, .string k, .int .u64 v] w fun e w' => e = .returned ({ Nd.zero with kind := 4, hash := h, key := k, val := v } : Nd).v ∧ St w [] [] w' := by
  refine enter Try.func39 Try.ntmps39 rfl rfl (SF.s0 w) ?_
  simp only [mkS]
  all_goals (refine k_seq ?_)
  all_goals refine k_region ?_
  all_goals refine j_alloc (fun x6 => ?_)
  all_goals refine l_nil ?_
  all_goals (refine k_seq ?_)
  all_goals refine k_region ?_
  all_goals refine j_move ?_
  all_goals refine j_move ?_
  all_goals refine j_move ?_
  all_goals refine j_build ?_
  all_goals refine j_store (fun _ => ?_)
  all_goals refine l_nil ?_
  all_goals
    refine k_retvF Try.results39 (.cell (by exact rfl) (by repeat (first | exact At.head | apply At.tail)) (by exact agg_of rfl) .nil) (fun w hw => ?_)
    exact ⟨rfl, hw.done⟩
theorem tomb_c (h : Int) (k : ByteArray) (v : Int) (w : World) : Calls Try.prog 40 #[.int .u64 h, .string k, .int .u64 v] w fun e w' => e = .returned ({ Nd.zero with kind := 5, hash := h, key := k, val := v } : Nd).v ∧ St w [] [] w' := by
  refine enter Try.func40 Try.ntmps40 rfl rfl (SF.s0 w) ?_
  simp only [mkS]
  all_goals (refine k_seq ?_)
  all_goals refine k_region ?_
  all_goals refine j_alloc (fun x6 => ?_)
  all_goals refine l_nil ?_
  all_goals (refine k_seq ?_)
  all_goals refine k_region ?_
  all_goals refine j_move ?_
  all_goals refine j_move ?_
  all_goals refine j_move ?_
  all_goals refine j_build ?_
  all_goals refine j_store (fun _ => ?_)
  all_goals refine l_nil ?_
  all_goals
    refine k_retvF Try.results40 (.cell (by exact rfl) (by repeat (first | exact At.head | apply At.tail)) (by exact agg_of rfl) .nil) (fun w hw => ?_)
    exact ⟨rfl, hw.done⟩
theorem failed_c (o : Int) (w : World) : Calls Try.prog 41 #[.int .i64 o] w fun e w' => e = .returned ({ Nd.zero with kind := 7, old := o } : Nd).v ∧ St w [] [] w' := by
  refine enter Try.func41 Try.ntmps41 rfl rfl (SF.s0 w) ?_
  simp only [mkS]
  all_goals (refine k_seq ?_)
  all_goals refine k_region ?_
  all_goals refine j_alloc (fun x2 => ?_)
  all_goals refine l_nil ?_
  all_goals (refine k_seq ?_)
  all_goals refine k_region ?_
  all_goals refine j_move ?_
  all_goals refine j_build ?_
  all_goals refine j_store (fun _ => ?_)
  all_goals refine l_nil ?_
  all_goals
    refine k_retvF Try.results41 (.cell (by exact rfl) (by repeat (first | exact At.head | apply At.tail)) (by exact agg_of rfl) .nil) (fun w hw => ?_)
    exact ⟨rfl, hw.done⟩
theorem desc_c (o x n : Int) (w : World) : Calls Try.prog 42 #[.int .i64 o, .int .i64 x, .int .i64 n] w fun e w' => e = .returned ({ Nd.zero with kind := 8, old := o, exp := x, new := n } : Nd).v ∧ St w [] [] w' := by
  refine enter Try.func42 Try.ntmps42 rfl rfl (SF.s0 w) ?_
  simp only [mkS]
  all_goals (refine k_seq ?_)
  all_goals refine k_region ?_
  all_goals refine j_alloc (fun x6 => ?_)
  all_goals refine l_nil ?_
  all_goals (refine k_seq ?_)
  all_goals refine k_region ?_
  all_goals refine j_move ?_
  all_goals refine j_move ?_
  all_goals refine j_move ?_
  all_goals refine j_build ?_
  all_goals refine j_store (fun _ => ?_)
  all_goals refine l_nil ?_
  all_goals
    refine k_retvF Try.results42 (.cell (by exact rfl) (by repeat (first | exact At.head | apply At.tail)) (by exact agg_of rfl) .nil) (fun w hw => ?_)
    exact ⟨rfl, hw.done⟩
theorem firstP_c {a : Option Addr} {m c : Nat} (k : Nat) (w : World) (hc : m ≤ c) : Calls Try.prog 24 #[.slice a m c, .int .i64 (k : Int)] w fun e w' => e = .returned (.slice a (min m k) c) ∧ St w [] [] w' := by
  refine enter Try.func24 Try.ntmps24 rfl rfl (SF.s0 w) ?_
  simp only [mkS]
  all_goals (refine k_seq ?_)
  all_goals refine k_region ?_
  all_goals refine j_assignL (fun _ => ?_)
  all_goals refine l_nil ?_
  all_goals (refine k_seq ?_)
  all_goals (refine k_seq ?_)
  all_goals refine k_region ?_
  all_goals refine j_move ?_
  all_goals refine j_len ?_
  all_goals refine j_move ?_
  all_goals refine j_gtr ?_
  all_goals refine l_nil ?_
  all_goals
    refine k_cond (by exact rfl) (fun c8 => ?_) (fun c8 => ?_)
    · try (exact absurd c8 (by decide))
      all_goals (first | replace c8 := of_decide_eq_true c8 | replace c8 := sbeq_t c8 | replace c8 := sbne_t c8 | replace c8 := ibeq_t c8 | replace c8 := ibne_t c8 | replace c8 := ndec_t c8 | replace c8 := not_t c8 | skip)
      all_goals (refine k_seq ?_)
      all_goals refine k_region ?_
      all_goals refine j_move ?_
      all_goals refine j_move ?_
      all_goals refine j_sliceH (fun x11 => ?_)
      all_goals refine j_assignL (fun _ => ?_)
      all_goals refine l_nil ?_
      all_goals
        refine k_retvF Try.results24 (.tmp (by conv => { lhs; whnf }) .nil) (fun w hw => ?_)
        exact ⟨by rw [Nat.min_eq_right (by omega)]; rfl, hw.done⟩
    · try (exact absurd c8 (by decide))
      all_goals (first | replace c8 := of_decide_eq_false c8 | replace c8 := sbeq_f c8 | replace c8 := sbne_f c8 | replace c8 := ibeq_f c8 | replace c8 := ibne_f c8 | replace c8 := ndec_f c8 | replace c8 := not_f c8 | skip)
      all_goals (refine k_skip ?_)
      all_goals (refine k_seq ?_)
      all_goals refine k_region ?_
      all_goals refine j_move ?_
      all_goals refine j_assignL (fun _ => ?_)
      all_goals refine l_nil ?_
      all_goals
        refine k_retvF Try.results24 (.tmp (by conv => { lhs; whnf }) .nil) (fun w hw => ?_)
        exact ⟨by rw [Nat.min_eq_left (by omega)]; rfl, hw.done⟩
theorem firstR_c {a : Option Addr} {m c : Nat} (k : Nat) (w : World) (hc : m ≤ c) : Calls Try.prog 23 #[.slice a m c, .int .i64 (k : Int)] w fun e w' => e = .returned (.slice a (min m k) c) ∧ St w [] [] w' := by
  refine enter Try.func23 Try.ntmps23 rfl rfl (SF.s0 w) ?_
  simp only [mkS]
  all_goals (refine k_seq ?_)
  all_goals refine k_region ?_
  all_goals refine j_assignL (fun _ => ?_)
  all_goals refine l_nil ?_
  all_goals (refine k_seq ?_)
  all_goals (refine k_seq ?_)
  all_goals refine k_region ?_
  all_goals refine j_move ?_
  all_goals refine j_len ?_
  all_goals refine j_move ?_
  all_goals refine j_gtr ?_
  all_goals refine l_nil ?_
  all_goals
    refine k_cond (by exact rfl) (fun c8 => ?_) (fun c8 => ?_)
    · try (exact absurd c8 (by decide))
      all_goals (first | replace c8 := of_decide_eq_true c8 | replace c8 := sbeq_t c8 | replace c8 := sbne_t c8 | replace c8 := ibeq_t c8 | replace c8 := ibne_t c8 | replace c8 := ndec_t c8 | replace c8 := not_t c8 | skip)
      all_goals (refine k_seq ?_)
      all_goals refine k_region ?_
      all_goals refine j_move ?_
      all_goals refine j_move ?_
      all_goals refine j_sliceH (fun x11 => ?_)
      all_goals refine j_assignL (fun _ => ?_)
      all_goals refine l_nil ?_
      all_goals
        refine k_retvF Try.results23 (.tmp (by conv => { lhs; whnf }) .nil) (fun w hw => ?_)
        exact ⟨by rw [Nat.min_eq_right (by omega)]; rfl, hw.done⟩
    · try (exact absurd c8 (by decide))
      all_goals (first | replace c8 := of_decide_eq_false c8 | replace c8 := sbeq_f c8 | replace c8 := sbne_f c8 | replace c8 := ibeq_f c8 | replace c8 := ibne_f c8 | replace c8 := ndec_f c8 | replace c8 := not_f c8 | skip)
      all_goals (refine k_skip ?_)
      all_goals (refine k_seq ?_)
      all_goals refine k_region ?_
      all_goals refine j_move ?_
      all_goals refine j_assignL (fun _ => ?_)
      all_goals refine l_nil ?_
      all_goals
        refine k_retvF Try.results23 (.tmp (by conv => { lhs; whnf }) .nil) (fun w hw => ?_)
        exact ⟨by rw [Nat.min_eq_left (by omega)]; rfl, hw.done⟩
theorem SF.frz {w w' : World} {F : Fr} {o : Ow} (h : SF w [] [] [] F [o] w') : SF w [] [] [] ((o.p, o.cs) :: F) [] w' := h.freeze .head (by simp)
theorem SF.frz2 {w w' : World} {F : Fr} {o o2 : Ow} (h : SF w [] [] [] F [o, o2] w') : SF w [] [] [] ((o2.p, o2.cs) :: (o.p, o.cs) :: F) [] w' := (h.freeze .head (by simp)).freeze .head (by simp)
theorem copiedP_o {l : List Pr} {a : Option Addr} {c : Nat} {w : World} (ha : Cl w a (prC l)) (hl : l.length ≤ 1099511627776) : Calls Try.prog 78 #[.slice a l.length c] w fun e w' =>
    ∃ p : Option Addr, e = .returned (.slice p l.length l.length) ∧ (l = [] → p = none) ∧ SF w [] [] [] [] [⟨p, prC l, l.length, 37, 2⟩] w' := by
  refine enter Try.func78 Try.ntmps78 rfl rfl (SF.s1 ha) ?_
  simp only [mkS]
  all_goals (refine k_seq ?_)
  all_goals refine k_region ?_
  all_goals refine j_assignL (fun _ => ?_)
  all_goals refine l_nil ?_
  all_goals (refine k_seq ?_)
  all_goals (refine k_seq ?_)
  all_goals refine k_region ?_
  all_goals refine j_move ?_
  all_goals refine j_len ?_
  all_goals refine j_eql ?_
  all_goals refine l_nil ?_
  all_goals
    refine k_cond (by exact rfl) (fun c6 => ?_) (fun c6 => ?_)
    · try (exact absurd c6 (by decide))
      all_goals (first | replace c6 := of_decide_eq_true c6 | replace c6 := sbeq_t c6 | replace c6 := sbne_t c6 | replace c6 := ibeq_t c6 | replace c6 := ibne_t c6 | replace c6 := ndec_t c6 | replace c6 := not_t c6 | skip)
      all_goals
        have hl0 : l = [] := List.eq_nil_of_length_eq_zero (by omega)
        subst hl0
      all_goals (refine k_seq ?_)
      all_goals refine k_region ?_
      all_goals refine j_assignL (fun _ => ?_)
      all_goals refine l_nil ?_
      all_goals
        refine k_retvF Try.results78 (.tmp (by conv => { lhs; whnf }) .nil) (fun w hw => ?_)
        exact ⟨none, rfl, fun _ => rfl, (hw.nilOwn 37 2).finH⟩
    · try (exact absurd c6 (by decide))
      all_goals (first | replace c6 := of_decide_eq_false c6 | replace c6 := sbeq_f c6 | replace c6 := sbne_f c6 | replace c6 := ibeq_f c6 | replace c6 := ibne_f c6 | replace c6 := ndec_f c6 | replace c6 := not_f c6 | skip)
      all_goals (refine k_skip ?_)
      all_goals (refine k_seq ?_)
      all_goals refine k_region ?_
      all_goals refine j_move ?_
      all_goals refine j_len ?_
      all_goals refine j_makeSlice (fun x9 => ?_)
      all_goals refine j_assignL (fun _ => ?_)
      all_goals refine l_nil ?_
      all_goals (refine k_seq ?_)
      all_goals refine k_region ?_
      all_goals refine j_move ?_
      all_goals refine j_move ?_
      all_goals refine j_copy (fun x12 => ?_)
      all_goals refine l_nil ?_
      all_goals (refine k_seq ?_)
      all_goals refine k_region ?_
      all_goals refine j_move ?_
      all_goals refine j_assignL (fun _ => ?_)
      all_goals refine l_nil ?_
      all_goals
        refine k_retvF Try.results78 (.tmp (by conv => { lhs; whnf }) .nil) (fun w hw => ?_)
        exact ⟨some ⟨x9, 0, none⟩, rfl, fun h => absurd (congrArg List.length h) (by simpa using c6), by simpa using hw.finH (H' := []) (F' := [])⟩
theorem copiedR_o {l : List Int} {a : Option Addr} {c : Nat} {w : World} (ha : Cl w a (refsC l)) (hl : l.length ≤ 1099511627776) : Calls Try.prog 77 #[.slice a l.length c] w fun e w' =>
    ∃ p : Option Addr, e = .returned (.slice p l.length l.length) ∧ (l = [] → p = none) ∧ SF w [] [] [] [] [⟨p, refsC l, l.length, 26, 1⟩] w' := by
  refine enter Try.func77 Try.ntmps77 rfl rfl (SF.s1 ha) ?_
  simp only [mkS]
  all_goals (refine k_seq ?_)
  all_goals refine k_region ?_
  all_goals refine j_assignL (fun _ => ?_)
  all_goals refine l_nil ?_
  all_goals (refine k_seq ?_)
  all_goals (refine k_seq ?_)
  all_goals refine k_region ?_
  all_goals refine j_move ?_
  all_goals refine j_len ?_
  all_goals refine j_eql ?_
  all_goals refine l_nil ?_
  all_goals
    refine k_cond (by exact rfl) (fun c6 => ?_) (fun c6 => ?_)
    · try (exact absurd c6 (by decide))
      all_goals (first | replace c6 := of_decide_eq_true c6 | replace c6 := sbeq_t c6 | replace c6 := sbne_t c6 | replace c6 := ibeq_t c6 | replace c6 := ibne_t c6 | replace c6 := ndec_t c6 | replace c6 := not_t c6 | skip)
      all_goals
        have hl0 : l = [] := List.eq_nil_of_length_eq_zero (by omega)
        subst hl0
      all_goals (refine k_seq ?_)
      all_goals refine k_region ?_
      all_goals refine j_assignL (fun _ => ?_)
      all_goals refine l_nil ?_
      all_goals
        refine k_retvF Try.results77 (.tmp (by conv => { lhs; whnf }) .nil) (fun w hw => ?_)
        exact ⟨none, rfl, fun _ => rfl, (hw.nilOwn 26 1).finH⟩
    · try (exact absurd c6 (by decide))
      all_goals (first | replace c6 := of_decide_eq_false c6 | replace c6 := sbeq_f c6 | replace c6 := sbne_f c6 | replace c6 := ibeq_f c6 | replace c6 := ibne_f c6 | replace c6 := ndec_f c6 | replace c6 := not_f c6 | skip)
      all_goals (refine k_skip ?_)
      all_goals (refine k_seq ?_)
      all_goals refine k_region ?_
      all_goals refine j_move ?_
      all_goals refine j_len ?_
      all_goals refine j_makeSlice (fun x9 => ?_)
      all_goals refine j_assignL (fun _ => ?_)
      all_goals refine l_nil ?_
      all_goals (refine k_seq ?_)
      all_goals refine k_region ?_
      all_goals refine j_move ?_
      all_goals refine j_move ?_
      all_goals refine j_copy (fun x12 => ?_)
      all_goals refine l_nil ?_
      all_goals (refine k_seq ?_)
      all_goals refine k_region ?_
      all_goals refine j_move ?_
      all_goals refine j_assignL (fun _ => ?_)
      all_goals refine l_nil ?_
      all_goals
        refine k_retvF Try.results77 (.tmp (by conv => { lhs; whnf }) .nil) (fun w hw => ?_)
        exact ⟨some ⟨x9, 0, none⟩, rfl, fun h => absurd (congrArg List.length h) (by simpa using c6), by simpa using hw.finH (H' := []) (F' := [])⟩
theorem list_o {h : Int} {l : List Pr} {a : Option Addr} {c : Nat} {w : World} (ha : Cl w a (prC l)) (hl : l.length ≤ 1099511627776) : Calls Try.prog 27 #[.int .u64 h, .slice a l.length c] w fun e w' =>
    ∃ p : Option Addr, e = .returned ({ Nd.zero with kind := 6, hash := h, prA := p, prN := l.length, prC := l.length } : Nd).v ∧ (l = [] → p = none) ∧ SF w [] [] [] [] [⟨p, prC l, l.length, 37, 2⟩] w' := by
  refine enter Try.func27 Try.ntmps27 rfl rfl (SF.s1 ha) ?_
  simp only [mkS]
  all_goals (refine k_seq ?_)
  all_goals refine k_region ?_
  all_goals refine j_alloc (fun x4 => ?_)
  all_goals refine l_nil ?_
  all_goals (refine k_seq ?_)
  all_goals refine k_region ?_
  all_goals refine j_move ?_
  all_goals refine j_move ?_
  all_goals (refine j_own (cFH (Hc := fun _ => []) (Fc := fun _ => []) (hc := fun w1 hw => copiedP_o (hw.cl (by first | exact .new .head | exact .new (.tail .head) | exact .new (.tail (.tail .head)) | exact .new (.tail (.tail (.tail .head))) | exact .new (.tail (.tail (.tail (.tail .head)))) | exact .new (.tail (.tail (.tail (.tail (.tail .head))))) | exact .new (.tail (.tail (.tail (.tail (.tail (.tail .head)))))) | exact .new (.tail (.tail (.tail (.tail (.tail (.tail (.tail .head))))))) | exact .new (.tail (.tail (.tail (.tail (.tail (.tail (.tail (.tail .head)))))))) | exact .new (.tail (.tail (.tail (.tail (.tail (.tail (.tail (.tail (.tail .head))))))))) | exact .old .head | exact .old (.tail .head) | exact .old (.tail (.tail .head)) | exact .old (.tail (.tail (.tail .head))) | exact .old (.tail (.tail (.tail (.tail .head)))) | exact .old (.tail (.tail (.tail (.tail (.tail .head))))) | exact .own .head | exact .own (.tail .head) | exact .own (.tail (.tail .head)) | exact .own (.tail (.tail (.tail .head))) | exact .own (.tail (.tail (.tail (.tail .head)))) | exact .own (.tail (.tail (.tail (.tail (.tail .head))))) | exact .own (.tail (.tail (.tail (.tail (.tail (.tail .head)))))) | exact .own (.tail (.tail (.tail (.tail (.tail (.tail (.tail .head))))))))) hl)) (fun x7 => ?_); try (refine l_fact (fun h7 => ?_)))
  all_goals refine j_build ?_
  all_goals refine j_store (fun _ => ?_)
  all_goals refine l_nil ?_
  all_goals
    refine k_retvF Try.results27 (.cell (by exact rfl) (by repeat (first | exact At.head | apply At.tail)) (by exact agg_of rfl) .nil) (fun w hw => ?_)
    exact ⟨x7, rfl, h7, hw.finH⟩
theorem clone_o {n : Nd} {xs : List Int} {ys : List Pr} {w : World} (hr : Rep w n xs ys) (h1 : xs.length ≤ 1099511627776) (h2 : ys.length ≤ 1099511627776) : Calls Try.prog 25 #[n.v] w fun e w' =>
    ∃ p : Option Addr × Option Addr, e = .returned ({ n with brA := p.1, brC := xs.length, prA := p.2, prC := ys.length } : Nd).v ∧ ((xs = [] → p.1 = none) ∧ (ys = [] → p.2 = none)) ∧ SF w [] [] [] [] [⟨p.2, prC ys, ys.length, 37, 2⟩, ⟨p.1, refsC xs, xs.length, 26, 1⟩] w' := by
  have e1 := hr.brN; have e2 := hr.prN
  refine enter Try.func25 Try.ntmps25 rfl rfl (SF.s2 hr.br hr.pr) ?_
  simp only [mkS]
  simp only [Nd.v, Nd.cells]
  all_goals (refine k_seq ?_)
  all_goals refine k_region ?_
  all_goals refine j_box (fun x1 => ?_)
  all_goals refine j_alloc (fun x2 => ?_)
  all_goals refine l_nil ?_
  all_goals (refine k_seq ?_)
  all_goals refine k_region ?_
  all_goals refine j_fieldAddr ?_
  all_goals refine j_load ?_
  all_goals (refine j_own (cFH (Hc := fun _ => []) (Fc := fun _ => []) (hc := fun w1 hw => by rw [e1]; exact copiedR_o (hw.cl (by first | exact .new .head | exact .new (.tail .head) | exact .new (.tail (.tail .head)) | exact .new (.tail (.tail (.tail .head))) | exact .new (.tail (.tail (.tail (.tail .head)))) | exact .new (.tail (.tail (.tail (.tail (.tail .head))))) | exact .new (.tail (.tail (.tail (.tail (.tail (.tail .head)))))) | exact .new (.tail (.tail (.tail (.tail (.tail (.tail (.tail .head))))))) | exact .new (.tail (.tail (.tail (.tail (.tail (.tail (.tail (.tail .head)))))))) | exact .new (.tail (.tail (.tail (.tail (.tail (.tail (.tail (.tail (.tail .head))))))))) | exact .old .head | exact .old (.tail .head) | exact .old (.tail (.tail .head)) | exact .old (.tail (.tail (.tail .head))) | exact .old (.tail (.tail (.tail (.tail .head)))) | exact .old (.tail (.tail (.tail (.tail (.tail .head))))) | exact .own .head | exact .own (.tail .head) | exact .own (.tail (.tail .head)) | exact .own (.tail (.tail (.tail .head))) | exact .own (.tail (.tail (.tail (.tail .head)))) | exact .own (.tail (.tail (.tail (.tail (.tail .head))))) | exact .own (.tail (.tail (.tail (.tail (.tail (.tail .head)))))) | exact .own (.tail (.tail (.tail (.tail (.tail (.tail (.tail .head))))))))) h1)) (fun x5 => ?_); try (refine l_fact (fun h5 => ?_)))
  all_goals refine j_fieldAddr ?_
  all_goals refine j_store (fun _ => ?_)
  all_goals refine l_nil ?_
  all_goals (refine k_seq ?_)
  all_goals refine k_region ?_
  all_goals refine j_fieldAddr ?_
  all_goals refine j_load ?_
  all_goals (refine j_own (cFH (Hc := fun _ => []) (Fc := fun _ => []) (hc := fun w1 hw => by rw [e2]; exact copiedP_o (hw.cl (by first | exact .new .head | exact .new (.tail .head) | exact .new (.tail (.tail .head)) | exact .new (.tail (.tail (.tail .head))) | exact .new (.tail (.tail (.tail (.tail .head)))) | exact .new (.tail (.tail (.tail (.tail (.tail .head))))) | exact .new (.tail (.tail (.tail (.tail (.tail (.tail .head)))))) | exact .new (.tail (.tail (.tail (.tail (.tail (.tail (.tail .head))))))) | exact .new (.tail (.tail (.tail (.tail (.tail (.tail (.tail (.tail .head)))))))) | exact .new (.tail (.tail (.tail (.tail (.tail (.tail (.tail (.tail (.tail .head))))))))) | exact .old .head | exact .old (.tail .head) | exact .old (.tail (.tail .head)) | exact .old (.tail (.tail (.tail .head))) | exact .old (.tail (.tail (.tail (.tail .head)))) | exact .old (.tail (.tail (.tail (.tail (.tail .head))))) | exact .own .head | exact .own (.tail .head) | exact .own (.tail (.tail .head)) | exact .own (.tail (.tail (.tail .head))) | exact .own (.tail (.tail (.tail (.tail .head)))) | exact .own (.tail (.tail (.tail (.tail (.tail .head))))) | exact .own (.tail (.tail (.tail (.tail (.tail (.tail .head)))))) | exact .own (.tail (.tail (.tail (.tail (.tail (.tail (.tail .head))))))))) h2)) (fun x9 => ?_); try (refine l_fact (fun h9 => ?_)))
  all_goals refine j_fieldAddr ?_
  all_goals refine j_store (fun _ => ?_)
  all_goals refine l_nil ?_
  all_goals (refine k_seq ?_)
  all_goals refine k_region ?_
  all_goals refine j_load ?_
  all_goals refine j_store (fun _ => ?_)
  all_goals refine l_nil ?_
  all_goals
    refine k_retvF Try.results25 (.cell (by exact rfl) (by repeat (first | exact At.head | apply At.tail)) (by exact agg_of rfl) .nil) (fun w hw => ?_)
    exact ⟨(x5, x9), by rw [e1, e2]; rfl, ⟨h5, h9⟩, hw.finH⟩
/- The same, what is new is frozen. -/
theorem copiedP_c {l : List Pr} {a : Option Addr} {c : Nat} {w : World} (ha : Cl w a (prC l)) (hl : l.length ≤ 1099511627776) : Calls Try.prog 78 #[.slice a l.length c] w fun e w' =>
    ∃ p : Option Addr, e = .returned (.slice p l.length l.length) ∧ (l = [] → p = none) ∧ SF w [] [] [] [(p, prC l)] [] w' := (copiedP_o ha hl).mono fun _ _ ⟨p, he, hp, hs⟩ => ⟨p, he, hp, SF.frz hs⟩
theorem list_c {h : Int} {l : List Pr} {a : Option Addr} {c : Nat} {w : World} (ha : Cl w a (prC l)) (hl : l.length ≤ 1099511627776) : Calls Try.prog 27 #[.int .u64 h, .slice a l.length c] w fun e w' =>
    ∃ p : Option Addr, e = .returned ({ Nd.zero with kind := 6, hash := h, prA := p, prN := l.length, prC := l.length } : Nd).v ∧ (l = [] → p = none) ∧ SF w [] [] [] [(p, prC l)] [] w' := (list_o ha hl).mono fun _ _ ⟨p, he, hp, hs⟩ => ⟨p, he, hp, SF.frz hs⟩
theorem clone_c {n : Nd} {xs : List Int} {ys : List Pr} {w : World} (hr : Rep w n xs ys) (h1 : xs.length ≤ 1099511627776) (h2 : ys.length ≤ 1099511627776) : Calls Try.prog 25 #[n.v] w fun e w' =>
    ∃ p : Option Addr × Option Addr, e = .returned ({ n with brA := p.1, brC := xs.length, prA := p.2, prC := ys.length } : Nd).v ∧ ((xs = [] → p.1 = none) ∧ (ys = [] → p.2 = none)) ∧ SF w [] [] [] [(p.1, refsC xs), (p.2, prC ys)] [] w' := (clone_o hr h1 h2).mono fun _ _ ⟨p, he, hp, hs⟩ => ⟨p, he, hp, SF.frz2 hs⟩
end Go.Proofs.Ythmagkjcangnfaa
