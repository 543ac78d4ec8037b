/- Branches: the example; put. -/
import Derived.Test.YthmagkjcangnfaaBr8
set_option linter.unusedSimpArgs false
set_option linter.unusedVariables false
namespace Go.Proofs.Ythmagkjcangnfaa
open Go.RowKit Go.Ct
theorem cv_cn {b : Nat} {xs : List Int} (h : BV b xs) (x : Option Addr × Nat) {p : Int} (hp : 0 ≤ p) : CV { cn b xs x with prev := p } xs [] :=
  ⟨rfl, by simp [NdEq, Nd.own, Nd.xsOwn, Nd.ysOwn, cn], by simp [cn, Nd.zero], hp, by simp [cn, Nd.zero], .inr (.inr (.inl ⟨rfl, by show (xs.length : Int) = rOnes (b : Int); rw [rOnes_cnt h.lt, h.len], h.pos⟩))⟩
theorem cv_cn0 {b : Nat} {xs : List Int} (h : BV b xs) (x : Option Addr × Nat) : CV (cn b xs x) xs [] := cv_cn h x (p := 0) (Int.le_refl _)
theorem cnode_c (b : Int) (a : Option Addr) (m c : Nat) (w : World) : Calls Try.prog 53 #[.int .u64 b, .slice a m c] w fun e w' => e = .returned ({ Nd.zero with kind := 3, bm := b, brA := a, brN := m, brC := c } : Nd).v ∧ St w [] [] w' := by
  refine enter Try.func53 Try.ntmps53 rfl rfl (SF.s0 w) ?_
  simp only [mkS]
  all_goals (refine k_seq ?_)
  all_goals refine k_region ?_
  all_goals refine j_alloc (fun x4 => ?_)
  all_goals refine l_nil ?_
  all_goals (refine k_seq ?_)
  all_goals refine k_region ?_
  all_goals refine j_move ?_
  all_goals refine j_move ?_
  all_goals refine j_build ?_
  all_goals refine j_store (fun _ => ?_)
  all_goals refine l_nil ?_
  all_goals
    refine k_retvF Try.results53 (.cell (by exact rfl) (by repeat (first | exact At.head | apply At.tail)) (by exact agg_of rfl) .nil) (fun w hw => ?_)
    exact ⟨rfl, hw.done⟩
theorem bv17 : BV 17 [5, 6] := ⟨by decide, by decide, fun i hi => by
  have : i = 0 ∨ i = 1 := by simp at hi; omega
  rcases this with rfl | rfl <;> decide⟩
theorem bv2 : BV 2 [7] := ⟨by decide, by decide, fun i hi => by
  have : i = 0 := by simp at hi; omega
  subst this; decide⟩
theorem bv25 : BV 25 [5, 9, 6] := ⟨by decide, by decide, fun i hi => by
  have : i = 0 ∨ i = 1 ∨ i = 2 := by simp at hi; omega
  rcases this with rfl | rfl | rfl <;> decide⟩
theorem in17 (x : Option Addr × Nat) : inO (cn 17 [5, 6] x) [5, 6] [] 17 3 9 = some (25, [5, 9, 6]) := by
  unfold inO
  rw [if_pos ⟨cv_cn0 bv17 x, by decide, by decide, by decide⟩]
  decide
theorem lk25 (x : Option Addr × Nat) : lkO (cn 25 [5, 9, 6] x) [5, 9, 6] [] 25 3 = some 9 := by
  unfold lkO
  rw [if_pos ⟨cv_cn0 bv25 x, by decide⟩]
  decide
theorem so2 (x : Option Addr × Nat) : soO (cn 2 [7] x) [7] [] = some 7 := by
  unfold soO
  rw [if_pos ⟨cv_cn0 bv2 x, rfl⟩]
  rfl
theorem bawake_c (w : World) : Calls Try.prog 45 #[] w fun e w' => e = .returned (.bool true) ∧ St w [] [] w' := by
  refine enter Try.func45 Try.ntmps45 rfl rfl (SF.s0 w) ?_
  simp only [mkS]
  all_goals (refine k_seq ?_)
  all_goals refine k_region ?_
  all_goals refine j_assignL (fun _ => ?_)
  all_goals refine l_nil ?_
  all_goals (refine k_seq ?_)
  all_goals refine k_region ?_
  all_goals refine j_buildSlice (fun x8 => ?_)
  all_goals (refine j_own (by first | exact cV (v := (cn 17 [5, 6] (some ⟨x8, 0, none⟩, 2)).v) (hc := fun w1 hw => cnode_c 17 _ 2 2 w1) | exact cV (v := (cn 25 [5, 9, 6] (some ⟨x27, 0, none⟩, 3)).v) (hc := fun w1 hw => cnode_c 25 _ 3 3 w1) | exact cV (v := (cn 2 [7] (some ⟨x19, 0, none⟩, 1)).v) (hc := fun w1 hw => cnode_c 2 _ 1 1 w1)) (fun x9 => ?_); try (refine l_fact (fun h9 => ?_)))
  all_goals (refine j_own (cF (V := fun x => .tuple #[(cn 25 [5, 9, 6] x).v, .bool true]) (φ := fun x => 3 ≤ x.2) (Fc := fun x => [(x.1, refsC [5, 9, 6])]) (hc := fun w1 hw => by have := inserted_c (n := cn 17 [5, 6] (some ⟨x8, 0, none⟩, 2)) (xs := [5, 6]) (ys := []) (b := 17) (w := w1) 3 9 rfl (by decide) ⟨rfl, rfl, hw.cl (cs := refsC [5, 6]) (by first | exact .new .head | exact .new (.tail .head) | exact .new (.tail (.tail .head)) | exact .new (.tail (.tail (.tail .head))) | exact .new (.tail (.tail (.tail (.tail .head)))) | exact .new (.tail (.tail (.tail (.tail (.tail .head))))) | exact .new (.tail (.tail (.tail (.tail (.tail (.tail .head)))))) | exact .new (.tail (.tail (.tail (.tail (.tail (.tail (.tail .head))))))) | exact .new (.tail (.tail (.tail (.tail (.tail (.tail (.tail (.tail .head)))))))) | exact .new (.tail (.tail (.tail (.tail (.tail (.tail (.tail (.tail (.tail .head))))))))) | exact .old .head | exact .old (.tail .head) | exact .old (.tail (.tail .head)) | exact .old (.tail (.tail (.tail .head))) | exact .old (.tail (.tail (.tail (.tail .head)))) | exact .old (.tail (.tail (.tail (.tail (.tail .head))))) | exact .own .head | exact .own (.tail .head) | exact .own (.tail (.tail .head)) | exact .own (.tail (.tail (.tail .head))) | exact .own (.tail (.tail (.tail (.tail .head)))) | exact .own (.tail (.tail (.tail (.tail (.tail .head))))) | exact .own (.tail (.tail (.tail (.tail (.tail (.tail .head)))))) | exact .own (.tail (.tail (.tail (.tail (.tail (.tail (.tail .head)))))))), Cl.nil _ _, by decide, by decide⟩ (Nat.le_refl 2) (by decide); rw [in17] at this; exact this)) (fun x10 => ?_); try (refine l_fact (fun h10 => ?_)))
  all_goals refine j_move ?_
  all_goals refine l_quiet (o_extract (by exact rfl) rfl) rfl ?_
  all_goals refine l_quiet (o_extract (by exact rfl) rfl) rfl ?_
  all_goals refine j_alloc (fun x1 => ?_)
  all_goals refine j_store (fun _ => ?_)
  all_goals refine j_assignL (fun _ => ?_)
  all_goals refine l_nil ?_
  all_goals (refine k_seq ?_)
  all_goals refine k_region ?_
  all_goals refine j_load ?_
  all_goals (refine j_own (cV (v := .tuple #[.int .i64 9, .bool true]) (hc := fun w1 hw => by have := lookup_c (n := cn 25 [5, 9, 6] x10) (xs := [5, 9, 6]) (ys := []) (b := 25) (w := w1) 3 rfl (by decide) ⟨rfl, rfl, hw.cl (cs := refsC [5, 9, 6]) (by first | exact .new .head | exact .new (.tail .head) | exact .new (.tail (.tail .head)) | exact .new (.tail (.tail (.tail .head))) | exact .new (.tail (.tail (.tail (.tail .head)))) | exact .new (.tail (.tail (.tail (.tail (.tail .head))))) | exact .new (.tail (.tail (.tail (.tail (.tail (.tail .head)))))) | exact .new (.tail (.tail (.tail (.tail (.tail (.tail (.tail .head))))))) | exact .new (.tail (.tail (.tail (.tail (.tail (.tail (.tail (.tail .head)))))))) | exact .new (.tail (.tail (.tail (.tail (.tail (.tail (.tail (.tail (.tail .head))))))))) | exact .old .head | exact .old (.tail .head) | exact .old (.tail (.tail .head)) | exact .old (.tail (.tail (.tail .head))) | exact .old (.tail (.tail (.tail (.tail .head)))) | exact .old (.tail (.tail (.tail (.tail (.tail .head))))) | exact .own .head | exact .own (.tail .head) | exact .own (.tail (.tail .head)) | exact .own (.tail (.tail (.tail .head))) | exact .own (.tail (.tail (.tail (.tail .head)))) | exact .own (.tail (.tail (.tail (.tail (.tail .head))))) | exact .own (.tail (.tail (.tail (.tail (.tail (.tail .head)))))) | exact .own (.tail (.tail (.tail (.tail (.tail (.tail (.tail .head)))))))), Cl.nil _ _, by decide, by decide⟩; rw [lk25] at this; exact this)) (fun x15 => ?_); try (refine l_fact (fun h15 => ?_)))
  all_goals refine j_move ?_
  all_goals refine l_quiet (o_extract (by exact rfl) rfl) rfl ?_
  all_goals refine l_quiet (o_extract (by exact rfl) rfl) rfl ?_
  all_goals refine j_assignL (fun _ => ?_)
  all_goals refine j_assignL (fun _ => ?_)
  all_goals refine l_nil ?_
  all_goals (refine k_seq ?_)
  all_goals refine k_region ?_
  all_goals refine j_buildSlice (fun x19 => ?_)
  all_goals (refine j_own (by first | exact cV (v := (cn 17 [5, 6] (some ⟨x8, 0, none⟩, 2)).v) (hc := fun w1 hw => cnode_c 17 _ 2 2 w1) | exact cV (v := (cn 25 [5, 9, 6] (some ⟨x27, 0, none⟩, 3)).v) (hc := fun w1 hw => cnode_c 25 _ 3 3 w1) | exact cV (v := (cn 2 [7] (some ⟨x19, 0, none⟩, 1)).v) (hc := fun w1 hw => cnode_c 2 _ 1 1 w1)) (fun x20 => ?_); try (refine l_fact (fun h20 => ?_)))
  all_goals (refine j_own (cV (v := .tuple #[.int .i64 7, .bool true]) (hc := fun w1 hw => by have := sole_c (n := cn 2 [7] (some ⟨x19, 0, none⟩, 1)) (xs := [7]) (ys := []) (w := w1) ⟨rfl, rfl, hw.cl (cs := refsC [7]) (by first | exact .new .head | exact .new (.tail .head) | exact .new (.tail (.tail .head)) | exact .new (.tail (.tail (.tail .head))) | exact .new (.tail (.tail (.tail (.tail .head)))) | exact .new (.tail (.tail (.tail (.tail (.tail .head))))) | exact .new (.tail (.tail (.tail (.tail (.tail (.tail .head)))))) | exact .new (.tail (.tail (.tail (.tail (.tail (.tail (.tail .head))))))) | exact .new (.tail (.tail (.tail (.tail (.tail (.tail (.tail (.tail .head)))))))) | exact .new (.tail (.tail (.tail (.tail (.tail (.tail (.tail (.tail (.tail .head))))))))) | exact .old .head | exact .old (.tail .head) | exact .old (.tail (.tail .head)) | exact .old (.tail (.tail (.tail .head))) | exact .old (.tail (.tail (.tail (.tail .head)))) | exact .old (.tail (.tail (.tail (.tail (.tail .head))))) | exact .own .head | exact .own (.tail .head) | exact .own (.tail (.tail .head)) | exact .own (.tail (.tail (.tail .head))) | exact .own (.tail (.tail (.tail (.tail .head)))) | exact .own (.tail (.tail (.tail (.tail (.tail .head))))) | exact .own (.tail (.tail (.tail (.tail (.tail (.tail .head)))))) | exact .own (.tail (.tail (.tail (.tail (.tail (.tail (.tail .head)))))))), Cl.nil _ _, by decide, by decide⟩; rw [so2] at this; exact this)) (fun x21 => ?_); try (refine l_fact (fun h21 => ?_)))
  all_goals refine j_move ?_
  all_goals refine l_quiet (o_extract (by exact rfl) rfl) rfl ?_
  all_goals refine l_quiet (o_extract (by exact rfl) rfl) rfl ?_
  all_goals refine j_assignL (fun _ => ?_)
  all_goals refine j_assignL (fun _ => ?_)
  all_goals refine l_nil ?_
  all_goals (refine k_seq ?_)
  all_goals refine k_drawF (.one 0 [] (.one 1 [] (.one 2 [] (.one 3 [2] (.one 4 [2] (.one 5 [] (.one 6 [] (.one 7 [] (.one 8 [] (.one 9 [] (.one 10 [] (.one 11 [] (.one 12 [] (.one 13 [] (.one 14 [] (.one 15 [] (.one 16 [] (.one 17 [] (.one 18 [] (.one 19 [] (.one 20 [] (.one 21 [] .nil)))))))))))))))))))))) ?_
  all_goals (refine r_move (i := 0) ?_)
  all_goals (refine r_move (i := 1) ?_)
  all_goals (first | refine r_un (i := 2) ?_ | (refine r_load (i := 2) ?_) | (refine r_case (g := 25) (by exact rfl) (fun g25 => ?_) (fun g25 => ?_) <;> (first | replace g25 := of_decide_eq_true g25 | replace g25 := of_decide_eq_false g25 | skip) <;> (first | refine r_un (i := 2) ?_ | (refine r_load (i := 2) ?_))))
  all_goals (first | refine r_un (i := 3) ?_ | (refine r_buildSlice (i := 3) (hfire := (fun _ => by first | (refine FireAll.cons (by first | exact a_load | exact a_un) ?_; exact FireAll.nil) | (refine fireall_fact ?_; refine FireAll.cons (by first | exact a_load | exact a_un) ?_; exact FireAll.nil))) (h := fun x27 => ?_)) | (refine r_case (g := 25) (by exact rfl) (fun g25 => ?_) (fun g25 => ?_) <;> (first | replace g25 := of_decide_eq_true g25 | replace g25 := of_decide_eq_false g25 | skip) <;> (first | refine r_un (i := 3) ?_ | (refine r_buildSlice (i := 3) (hfire := (fun _ => by first | (refine FireAll.cons (by first | exact a_load | exact a_un) ?_; exact FireAll.nil) | (refine fireall_fact ?_; refine FireAll.cons (by first | exact a_load | exact a_un) ?_; exact FireAll.nil))) (h := fun x27 => ?_)))))
  all_goals (first | refine r_un (i := 4) ?_ | ((refine r_own (i := 4) (hq := (by first | exact cV (v := (cn 17 [5, 6] (some ⟨x8, 0, none⟩, 2)).v) (hc := fun w1 hw => cnode_c 17 _ 2 2 w1) | exact cV (v := (cn 25 [5, 9, 6] (some ⟨x27, 0, none⟩, 3)).v) (hc := fun w1 hw => cnode_c 25 _ 3 3 w1) | exact cV (v := (cn 2 [7] (some ⟨x19, 0, none⟩, 1)).v) (hc := fun w1 hw => cnode_c 2 _ 1 1 w1))) (hfire := (fun _ => by first | (refine FireAll.cons (by first | exact a_load | exact a_un) ?_; exact FireAll.nil) | (refine fireall_fact ?_; refine FireAll.cons (by first | exact a_load | exact a_un) ?_; exact FireAll.nil))) (h := fun x28 => ?_); try (refine r_fact (fun h28 => ?_)))) | (refine r_case (g := 25) (by exact rfl) (fun g25 => ?_) (fun g25 => ?_) <;> (first | replace g25 := of_decide_eq_true g25 | replace g25 := of_decide_eq_false g25 | skip) <;> (first | refine r_un (i := 4) ?_ | ((refine r_own (i := 4) (hq := (by first | exact cV (v := (cn 17 [5, 6] (some ⟨x8, 0, none⟩, 2)).v) (hc := fun w1 hw => cnode_c 17 _ 2 2 w1) | exact cV (v := (cn 25 [5, 9, 6] (some ⟨x27, 0, none⟩, 3)).v) (hc := fun w1 hw => cnode_c 25 _ 3 3 w1) | exact cV (v := (cn 2 [7] (some ⟨x19, 0, none⟩, 1)).v) (hc := fun w1 hw => cnode_c 2 _ 1 1 w1))) (hfire := (fun _ => by first | (refine FireAll.cons (by first | exact a_load | exact a_un) ?_; exact FireAll.nil) | (refine fireall_fact ?_; refine FireAll.cons (by first | exact a_load | exact a_un) ?_; exact FireAll.nil))) (h := fun x28 => ?_); try (refine r_fact (fun h28 => ?_)))))))
  all_goals (first | refine r_un (i := 5) ?_ | ((refine r_own (i := 5) (hq := (cV (hc := fun w1 hw => resEq_c (o := some (25, [5, 9, 6])) (x := x10) (y := (some ⟨x27, 0, none⟩, 3)) (hw.cl (by first | exact .new .head | exact .new (.tail .head) | exact .new (.tail (.tail .head)) | exact .new (.tail (.tail (.tail .head))) | exact .new (.tail (.tail (.tail (.tail .head)))) | exact .new (.tail (.tail (.tail (.tail (.tail .head))))) | exact .new (.tail (.tail (.tail (.tail (.tail (.tail .head)))))) | exact .new (.tail (.tail (.tail (.tail (.tail (.tail (.tail .head))))))) | exact .new (.tail (.tail (.tail (.tail (.tail (.tail (.tail (.tail .head)))))))) | exact .new (.tail (.tail (.tail (.tail (.tail (.tail (.tail (.tail (.tail .head))))))))) | exact .old .head | exact .old (.tail .head) | exact .old (.tail (.tail .head)) | exact .old (.tail (.tail (.tail .head))) | exact .old (.tail (.tail (.tail (.tail .head)))) | exact .old (.tail (.tail (.tail (.tail (.tail .head))))) | exact .own .head | exact .own (.tail .head) | exact .own (.tail (.tail .head)) | exact .own (.tail (.tail (.tail .head))) | exact .own (.tail (.tail (.tail (.tail .head)))) | exact .own (.tail (.tail (.tail (.tail (.tail .head))))) | exact .own (.tail (.tail (.tail (.tail (.tail (.tail .head)))))) | exact .own (.tail (.tail (.tail (.tail (.tail (.tail (.tail .head))))))))) (hw.cl (by first | exact .new .head | exact .new (.tail .head) | exact .new (.tail (.tail .head)) | exact .new (.tail (.tail (.tail .head))) | exact .new (.tail (.tail (.tail (.tail .head)))) | exact .new (.tail (.tail (.tail (.tail (.tail .head))))) | exact .new (.tail (.tail (.tail (.tail (.tail (.tail .head)))))) | exact .new (.tail (.tail (.tail (.tail (.tail (.tail (.tail .head))))))) | exact .new (.tail (.tail (.tail (.tail (.tail (.tail (.tail (.tail .head)))))))) | exact .new (.tail (.tail (.tail (.tail (.tail (.tail (.tail (.tail (.tail .head))))))))) | exact .old .head | exact .old (.tail .head) | exact .old (.tail (.tail .head)) | exact .old (.tail (.tail (.tail .head))) | exact .old (.tail (.tail (.tail (.tail .head)))) | exact .old (.tail (.tail (.tail (.tail (.tail .head))))) | exact .own .head | exact .own (.tail .head) | exact .own (.tail (.tail .head)) | exact .own (.tail (.tail (.tail .head))) | exact .own (.tail (.tail (.tail (.tail .head)))) | exact .own (.tail (.tail (.tail (.tail (.tail .head))))) | exact .own (.tail (.tail (.tail (.tail (.tail (.tail .head)))))) | exact .own (.tail (.tail (.tail (.tail (.tail (.tail (.tail .head))))))))) (by decide)))) (hfire := (fun _ => .nil)) (h := fun x29 => ?_); try (refine r_fact (fun h29 => ?_)))) | (refine r_case (g := 25) (by exact rfl) (fun g25 => ?_) (fun g25 => ?_) <;> (first | replace g25 := of_decide_eq_true g25 | replace g25 := of_decide_eq_false g25 | skip) <;> (first | refine r_un (i := 5) ?_ | ((refine r_own (i := 5) (hq := (cV (hc := fun w1 hw => resEq_c (o := some (25, [5, 9, 6])) (x := x10) (y := (some ⟨x27, 0, none⟩, 3)) (hw.cl (by first | exact .new .head | exact .new (.tail .head) | exact .new (.tail (.tail .head)) | exact .new (.tail (.tail (.tail .head))) | exact .new (.tail (.tail (.tail (.tail .head)))) | exact .new (.tail (.tail (.tail (.tail (.tail .head))))) | exact .new (.tail (.tail (.tail (.tail (.tail (.tail .head)))))) | exact .new (.tail (.tail (.tail (.tail (.tail (.tail (.tail .head))))))) | exact .new (.tail (.tail (.tail (.tail (.tail (.tail (.tail (.tail .head)))))))) | exact .new (.tail (.tail (.tail (.tail (.tail (.tail (.tail (.tail (.tail .head))))))))) | exact .old .head | exact .old (.tail .head) | exact .old (.tail (.tail .head)) | exact .old (.tail (.tail (.tail .head))) | exact .old (.tail (.tail (.tail (.tail .head)))) | exact .old (.tail (.tail (.tail (.tail (.tail .head))))) | exact .own .head | exact .own (.tail .head) | exact .own (.tail (.tail .head)) | exact .own (.tail (.tail (.tail .head))) | exact .own (.tail (.tail (.tail (.tail .head)))) | exact .own (.tail (.tail (.tail (.tail (.tail .head))))) | exact .own (.tail (.tail (.tail (.tail (.tail (.tail .head)))))) | exact .own (.tail (.tail (.tail (.tail (.tail (.tail (.tail .head))))))))) (hw.cl (by first | exact .new .head | exact .new (.tail .head) | exact .new (.tail (.tail .head)) | exact .new (.tail (.tail (.tail .head))) | exact .new (.tail (.tail (.tail (.tail .head)))) | exact .new (.tail (.tail (.tail (.tail (.tail .head))))) | exact .new (.tail (.tail (.tail (.tail (.tail (.tail .head)))))) | exact .new (.tail (.tail (.tail (.tail (.tail (.tail (.tail .head))))))) | exact .new (.tail (.tail (.tail (.tail (.tail (.tail (.tail (.tail .head)))))))) | exact .new (.tail (.tail (.tail (.tail (.tail (.tail (.tail (.tail (.tail .head))))))))) | exact .old .head | exact .old (.tail .head) | exact .old (.tail (.tail .head)) | exact .old (.tail (.tail (.tail .head))) | exact .old (.tail (.tail (.tail (.tail .head)))) | exact .old (.tail (.tail (.tail (.tail (.tail .head))))) | exact .own .head | exact .own (.tail .head) | exact .own (.tail (.tail .head)) | exact .own (.tail (.tail (.tail .head))) | exact .own (.tail (.tail (.tail (.tail .head)))) | exact .own (.tail (.tail (.tail (.tail (.tail .head))))) | exact .own (.tail (.tail (.tail (.tail (.tail (.tail .head)))))) | exact .own (.tail (.tail (.tail (.tail (.tail (.tail (.tail .head))))))))) (by decide)))) (hfire := (fun _ => .nil)) (h := fun x29 => ?_); try (refine r_fact (fun h29 => ?_)))))))
  all_goals (refine r_pick (i := 6) ?_)
  all_goals (refine r_move (i := 7) ?_)
  all_goals (first | refine r_un (i := 8) ?_ | (refine r_move (i := 8) ?_) | (refine r_case (g := 31) (by exact rfl) (fun g31 => ?_) (fun g31 => ?_) <;> (first | replace g31 := of_decide_eq_true g31 | replace g31 := of_decide_eq_false g31 | skip) <;> (first | refine r_un (i := 8) ?_ | (refine r_move (i := 8) ?_))))
  all_goals (refine r_pick (i := 9) ?_)
  all_goals (refine r_move (i := 10) ?_)
  all_goals (first | refine r_un (i := 11) ?_ | (refine r_move (i := 11) ?_) | (refine r_case (g := 34) (by exact rfl) (fun g34 => ?_) (fun g34 => ?_) <;> (first | replace g34 := of_decide_eq_true g34 | replace g34 := of_decide_eq_false g34 | skip) <;> (first | refine r_un (i := 11) ?_ | (refine r_move (i := 11) ?_))))
  all_goals (first | refine r_un (i := 12) ?_ | (refine r_eql (i := 12) ?_) | (refine r_case (g := 34) (by exact rfl) (fun g34 => ?_) (fun g34 => ?_) <;> (first | replace g34 := of_decide_eq_true g34 | replace g34 := of_decide_eq_false g34 | skip) <;> (first | refine r_un (i := 12) ?_ | (refine r_eql (i := 12) ?_))))
  all_goals (refine r_pick (i := 13) ?_)
  all_goals (refine r_move (i := 14) ?_)
  all_goals (first | refine r_un (i := 15) ?_ | (refine r_move (i := 15) ?_) | (refine r_case (g := 38) (by exact rfl) (fun g38 => ?_) (fun g38 => ?_) <;> (first | replace g38 := of_decide_eq_true g38 | replace g38 := of_decide_eq_false g38 | skip) <;> (first | refine r_un (i := 15) ?_ | (refine r_move (i := 15) ?_))))
  all_goals (refine r_pick (i := 16) ?_)
  all_goals (refine r_move (i := 17) ?_)
  all_goals (first | refine r_un (i := 18) ?_ | (refine r_move (i := 18) ?_) | (refine r_case (g := 41) (by exact rfl) (fun g41 => ?_) (fun g41 => ?_) <;> (first | replace g41 := of_decide_eq_true g41 | replace g41 := of_decide_eq_false g41 | skip) <;> (first | refine r_un (i := 18) ?_ | (refine r_move (i := 18) ?_))))
  all_goals (first | refine r_un (i := 19) ?_ | (refine r_eql (i := 19) ?_) | (refine r_case (g := 41) (by exact rfl) (fun g41 => ?_) (fun g41 => ?_) <;> (first | replace g41 := of_decide_eq_true g41 | replace g41 := of_decide_eq_false g41 | skip) <;> (first | refine r_un (i := 19) ?_ | (refine r_eql (i := 19) ?_))))
  all_goals (refine r_pick (i := 20) ?_)
  all_goals (refine r_assignL (i := 21) (hfire := (fun _ => .nil)) (h := fun _ => ?_))
  all_goals refine r_fin ?_
  all_goals
    refine k_retvF Try.results45 (.tmp (by conv => { lhs; whnf }) .nil) (fun w hw => ?_)
    exact ⟨rfl, hw.done⟩
end Go.Proofs.Ythmagkjcangnfaa
