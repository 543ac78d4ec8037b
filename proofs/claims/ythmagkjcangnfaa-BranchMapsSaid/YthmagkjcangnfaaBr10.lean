/- BranchExact: the walk. -/
import Derived.Test.YthmagkjcangnfaaBr9
import Derived.Test.YthmagkjcangnfaaOpen2
set_option linter.unusedSimpArgs false
set_option linter.unusedVariables false
namespace Go.Proofs.Ythmagkjcangnfaa
open Go.RowKit Go.Ct
theorem o_rem8 {P : Program} {S : List (Nat × Value)} {G : World → Prop} {d : Nat} {ty t t' : TypeId} {pos : String} {af : Array Edge} {gd : Option (Nat × Bool)} {x y : Operand} {a b : Int} (hx : ev S x = .int .u8 a) (hy : ev S y = .int .u8 b) (h0 : b ≠ 0) : Quiet P S G ⟨some d, .binOp .rem t x y t', ty, pos, af, gd⟩ (.int .u8 (a.tmod b)) := ⟨fun w _ => by
  simp [execOp, hx, hy, eqGuard_at_int, binOp, Op.intDiv, h0]⟩
theorem small_b {s : Int} (h : 0 ≤ s ∧ s ≤ 255) : 0 ≤ s.tmod 68 ∧ s.tmod 68 ≤ 67 := by
  rw [Int.tmod_eq_emod_of_nonneg h.1]; omega
theorem branchExact_c {n : Nd} {xs : List Int} {ys : List Pr} {l : List Int} {p : Option Addr} {c : Nat} {i r small : Int} {b : Nat} {w : World} (hb : n.bm = (b : Int)) (hb2 : b < 18446744073709551616) (hr : Rep w n xs ys) (hc : xs.length ≤ n.brC) (hs : 0 ≤ small ∧ small ≤ 255) (hl : Cl w p (refsC l)) (hlen : l.length ≤ 17592186043904) :
    Calls Try.prog 8 #[n.v, .slice p l.length c, .int .i64 i, .int .i64 r, .int .u8 small] w fun e w' => e = .returned (.bool true) ∧ St w [] [] w' := by
  have hsm := small_b hs
  have e1 := hr.brN; have e2 := hr.prN
  refine enter Try.func8 Try.ntmps8 rfl rfl (SF.s3 hr.br hr.pr hl) ?_
  simp only [mkS]
  all_goals (refine k_seq ?_)
  all_goals refine k_region ?_
  all_goals refine j_box (fun x5 => ?_)
  all_goals refine j_assignL (fun _ => ?_)
  all_goals refine l_nil ?_
  all_goals (refine k_seq ?_)
  all_goals refine k_region ?_
  all_goals refine j_move ?_
  all_goals (refine j_own (cF (hc := fun w1 hw => bnode_c (hw.cl (by first | exact .new .head | exact .new (.tail .head) | exact .new (.tail (.tail .head)) | exact .new (.tail (.tail (.tail .head))) | exact .new (.tail (.tail (.tail (.tail .head)))) | exact .new (.tail (.tail (.tail (.tail (.tail .head))))) | exact .new (.tail (.tail (.tail (.tail (.tail (.tail .head)))))) | exact .new (.tail (.tail (.tail (.tail (.tail (.tail (.tail .head))))))) | exact .new (.tail (.tail (.tail (.tail (.tail (.tail (.tail (.tail .head)))))))) | exact .new (.tail (.tail (.tail (.tail (.tail (.tail (.tail (.tail (.tail .head))))))))) | exact .old .head | exact .old (.tail .head) | exact .old (.tail (.tail .head)) | exact .old (.tail (.tail (.tail .head))) | exact .old (.tail (.tail (.tail (.tail .head)))) | exact .old (.tail (.tail (.tail (.tail (.tail .head))))) | exact .own .head | exact .own (.tail .head) | exact .own (.tail (.tail .head)) | exact .own (.tail (.tail (.tail .head))) | exact .own (.tail (.tail (.tail (.tail .head)))) | exact .own (.tail (.tail (.tail (.tail (.tail .head))))) | exact .own (.tail (.tail (.tail (.tail (.tail (.tail .head)))))) | exact .own (.tail (.tail (.tail (.tail (.tail (.tail (.tail .head))))))))) hlen)) (fun x15 => ?_); try (refine l_fact (fun h15 => ?_)))
  all_goals refine j_alloc (fun x11 => ?_)
  all_goals refine j_store (fun _ => ?_)
  all_goals refine l_nil ?_
  all_goals (refine k_seq ?_)
  all_goals (refine k_seq ?_)
  all_goals refine k_region ?_
  all_goals refine j_move ?_
  all_goals refine j_move ?_
  all_goals refine l_quiet (o_rem8 (by exact rfl) (by exact rfl) (by decide)) rfl ?_
  all_goals refine j_convert ?_
  all_goals refine j_sub ?_
  all_goals refine j_buildSlice (fun x21 => ?_)
  all_goals refine j_len ?_
  all_goals refine j_move ?_
  all_goals refine l_nil ?_
  all_goals (refine k_block ?_)
  all_goals
    refine k_loopC [10, 13, 23, 24, 25, 26, 27, 28, 29, 30, 31, 32, 33, 34, 35, 36, 37, 38, 39, 40, 41, 42, 43, 44, 45, 46, 47, 48, 49, 50, 51, 52, 53, 54, 55, 56, 57, 58] (fun k => [(23, .int .i64 ((k : Nat) : Int))]) (fun k => k ≤ 2) (fun k => 2 - k) (0) (by decide) ?_ (fun k f hx => ?_)
    · repeat (first | exact knows_nil _ | refine knows_cons (by first | exact rfl | (conv => { lhs; whnf }; simp; done)) ?_)
    dsimp only [mkU, List.map, List.cons_append, List.nil_append]
    all_goals (refine k_seq ?_)
    all_goals refine k_region ?_
    all_goals refine j_lss ?_
    all_goals refine l_nil ?_
    all_goals (refine k_seq ?_)
    all_goals
      refine k_cond (by exact rfl) (fun c24 => ?_) (fun c24 => ?_)
      · try (exact absurd c24 (by decide))
        all_goals (first | replace c24 := of_decide_eq_true c24 | replace c24 := sbeq_t c24 | replace c24 := sbne_t c24 | replace c24 := ibeq_t c24 | replace c24 := ibne_t c24 | replace c24 := ndec_t c24 | replace c24 := not_t c24 | skip)
        all_goals
          have h64 := cnt_le x15.1 64
          have hln := h15.1.len
        all_goals (refine k_skip ?_)
        all_goals (refine k_seq ?_)
        all_goals (refine k_block ?_)
        all_goals (refine k_seq ?_)
        all_goals refine k_region ?_
        all_goals refine l_quiet (o_indexR (lst := [i, small.tmod 68 - 2]) (by exact rfl) (by exact rfl) (by exact sl_of rfl) (by exact one_of rfl) (by first | exact .new .head | exact .new (.tail .head) | exact .new (.tail (.tail .head)) | exact .new (.tail (.tail (.tail .head))) | exact .new (.tail (.tail (.tail (.tail .head)))) | exact .new (.tail (.tail (.tail (.tail (.tail .head))))) | exact .new (.tail (.tail (.tail (.tail (.tail (.tail .head)))))) | exact .new (.tail (.tail (.tail (.tail (.tail (.tail (.tail .head))))))) | exact .new (.tail (.tail (.tail (.tail (.tail (.tail (.tail (.tail .head)))))))) | exact .new (.tail (.tail (.tail (.tail (.tail (.tail (.tail (.tail (.tail .head))))))))) | exact .old .head | exact .old (.tail .head) | exact .old (.tail (.tail .head)) | exact .old (.tail (.tail (.tail .head))) | exact .old (.tail (.tail (.tail (.tail .head)))) | exact .old (.tail (.tail (.tail (.tail (.tail .head))))) | exact .own .head | exact .own (.tail .head) | exact .own (.tail (.tail .head)) | exact .own (.tail (.tail (.tail .head))) | exact .own (.tail (.tail (.tail (.tail .head)))) | exact .own (.tail (.tail (.tail (.tail (.tail .head))))) | exact .own (.tail (.tail (.tail (.tail (.tail (.tail .head)))))) | exact .own (.tail (.tail (.tail (.tail (.tail (.tail (.tail .head)))))))) (by omega) (by simp only [List.length_cons, List.length_nil]; omega)) rfl ?_
        all_goals refine l_quiet (o_loadR (lst := [i, small.tmod 68 - 2]) (by exact rfl) (by exact one_of rfl) (by first | exact .new .head | exact .new (.tail .head) | exact .new (.tail (.tail .head)) | exact .new (.tail (.tail (.tail .head))) | exact .new (.tail (.tail (.tail (.tail .head)))) | exact .new (.tail (.tail (.tail (.tail (.tail .head))))) | exact .new (.tail (.tail (.tail (.tail (.tail (.tail .head)))))) | exact .new (.tail (.tail (.tail (.tail (.tail (.tail (.tail .head))))))) | exact .new (.tail (.tail (.tail (.tail (.tail (.tail (.tail (.tail .head)))))))) | exact .new (.tail (.tail (.tail (.tail (.tail (.tail (.tail (.tail (.tail .head))))))))) | exact .old .head | exact .old (.tail .head) | exact .old (.tail (.tail .head)) | exact .old (.tail (.tail (.tail .head))) | exact .old (.tail (.tail (.tail (.tail .head)))) | exact .old (.tail (.tail (.tail (.tail (.tail .head))))) | exact .own .head | exact .own (.tail .head) | exact .own (.tail (.tail .head)) | exact .own (.tail (.tail (.tail .head))) | exact .own (.tail (.tail (.tail (.tail .head)))) | exact .own (.tail (.tail (.tail (.tail (.tail .head))))) | exact .own (.tail (.tail (.tail (.tail (.tail (.tail .head)))))) | exact .own (.tail (.tail (.tail (.tail (.tail (.tail (.tail .head)))))))) (by simp only [List.length_cons, List.length_nil]; omega)) rfl ?_
        all_goals refine j_assignL (fun _ => ?_)
        all_goals refine l_nil ?_
        all_goals (refine k_seq ?_)
        all_goals (refine k_seq ?_)
        all_goals refine k_region ?_
        all_goals refine j_fieldAddr ?_
        all_goals refine j_load ?_
        all_goals refine j_len ?_
        all_goals refine j_lss ?_
        all_goals refine j_move ?_
        all_goals (first | refine j_un ?_ | (refine j_yes ?_; refine j_fieldAddr ?_) | (refine l_case (g := 31) (by exact rfl) (fun g31 => ?_) (fun g31 => ?_) <;> (first | replace g31 := of_decide_eq_true g31 | replace g31 := of_decide_eq_false g31 | skip) <;> (first | refine j_un ?_ | (refine j_yes ?_; refine j_fieldAddr ?_))))
        all_goals (first | refine j_un ?_ | (refine j_yes ?_; refine j_load ?_) | (refine l_case (g := 31) (by exact rfl) (fun g31 => ?_) (fun g31 => ?_) <;> (first | replace g31 := of_decide_eq_true g31 | replace g31 := of_decide_eq_false g31 | skip) <;> (first | refine j_un ?_ | (refine j_yes ?_; refine j_load ?_))))
        all_goals (first | refine j_un ?_ | (refine j_yes ?_; refine j_len ?_) | (refine l_case (g := 31) (by exact rfl) (fun g31 => ?_) (fun g31 => ?_) <;> (first | replace g31 := of_decide_eq_true g31 | replace g31 := of_decide_eq_false g31 | skip) <;> (first | refine j_un ?_ | (refine j_yes ?_; refine j_len ?_))))
        all_goals (first | refine j_un ?_ | (refine j_yes ?_; refine j_lss ?_) | (refine l_case (g := 31) (by exact rfl) (fun g31 => ?_) (fun g31 => ?_) <;> (first | replace g31 := of_decide_eq_true g31 | replace g31 := of_decide_eq_false g31 | skip) <;> (first | refine j_un ?_ | (refine j_yes ?_; refine j_lss ?_))))
        all_goals refine j_pick ?_
        all_goals refine j_move ?_
        all_goals (first | refine j_un ?_ | (refine j_yes ?_; refine j_load ?_) | (refine l_case (g := 37) (by exact rfl) (fun g37 => ?_) (fun g37 => ?_) <;> (first | replace g37 := of_decide_eq_true g37 | replace g37 := of_decide_eq_false g37 | skip) <;> (first | refine j_un ?_ | (refine j_yes ?_; refine j_load ?_))))
        all_goals (first | refine j_un ?_ | (refine j_yes ?_; refine j_move ?_) | (refine l_case (g := 37) (by exact rfl) (fun g37 => ?_) (fun g37 => ?_) <;> (first | replace g37 := of_decide_eq_true g37 | replace g37 := of_decide_eq_false g37 | skip) <;> (first | refine j_un ?_ | (refine j_yes ?_; refine j_move ?_))))
        all_goals (first | refine j_un ?_ | (refine j_yes ?_; refine j_move ?_) | (refine l_case (g := 37) (by exact rfl) (fun g37 => ?_) (fun g37 => ?_) <;> (first | replace g37 := of_decide_eq_true g37 | replace g37 := of_decide_eq_false g37 | skip) <;> (first | refine j_un ?_ | (refine j_yes ?_; refine j_move ?_))))
        all_goals (first | refine j_un ?_ | (refine j_yes ?_; (refine j_own (by first | exact cV (hc := fun w1 hw => agrees_c (n := n) _ _ hb hb2 (hr.keep0 hw.done) hc (by omega)) | exact cV (hc := fun w1 hw => agrees_c (n := { cn x15.1 x15.2.1 (x15.2.2.1, x15.2.2.2.1) with prev := (x15.2.2.2.2 : Int) }) (xs := x15.2.1) (ys := []) (b := x15.1) _ _ rfl h15.1.lt ⟨rfl, rfl, hw.cl (by first | exact .new .head | exact .new (.tail .head) | exact .new (.tail (.tail .head)) | exact .new (.tail (.tail (.tail .head))) | exact .new (.tail (.tail (.tail (.tail .head)))) | exact .new (.tail (.tail (.tail (.tail (.tail .head))))) | exact .new (.tail (.tail (.tail (.tail (.tail (.tail .head)))))) | exact .new (.tail (.tail (.tail (.tail (.tail (.tail (.tail .head))))))) | exact .new (.tail (.tail (.tail (.tail (.tail (.tail (.tail (.tail .head)))))))) | exact .new (.tail (.tail (.tail (.tail (.tail (.tail (.tail (.tail (.tail .head))))))))) | exact .old .head | exact .old (.tail .head) | exact .old (.tail (.tail .head)) | exact .old (.tail (.tail (.tail .head))) | exact .old (.tail (.tail (.tail (.tail .head)))) | exact .old (.tail (.tail (.tail (.tail (.tail .head))))) | exact .own .head | exact .own (.tail .head) | exact .own (.tail (.tail .head)) | exact .own (.tail (.tail (.tail .head))) | exact .own (.tail (.tail (.tail (.tail .head)))) | exact .own (.tail (.tail (.tail (.tail (.tail .head))))) | exact .own (.tail (.tail (.tail (.tail (.tail (.tail .head)))))) | exact .own (.tail (.tail (.tail (.tail (.tail (.tail (.tail .head)))))))), Cl.nil _ _, by omega, by decide⟩ h15.2.1 (by omega))) (fun x41 => ?_); try (refine l_fact (fun h41 => ?_)))) | (refine l_case (g := 37) (by exact rfl) (fun g37 => ?_) (fun g37 => ?_) <;> (first | replace g37 := of_decide_eq_true g37 | replace g37 := of_decide_eq_false g37 | skip) <;> (first | refine j_un ?_ | (refine j_yes ?_; (refine j_own (by first | exact cV (hc := fun w1 hw => agrees_c (n := n) _ _ hb hb2 (hr.keep0 hw.done) hc (by omega)) | exact cV (hc := fun w1 hw => agrees_c (n := { cn x15.1 x15.2.1 (x15.2.2.1, x15.2.2.2.1) with prev := (x15.2.2.2.2 : Int) }) (xs := x15.2.1) (ys := []) (b := x15.1) _ _ rfl h15.1.lt ⟨rfl, rfl, hw.cl (by first | exact .new .head | exact .new (.tail .head) | exact .new (.tail (.tail .head)) | exact .new (.tail (.tail (.tail .head))) | exact .new (.tail (.tail (.tail (.tail .head)))) | exact .new (.tail (.tail (.tail (.tail (.tail .head))))) | exact .new (.tail (.tail (.tail (.tail (.tail (.tail .head)))))) | exact .new (.tail (.tail (.tail (.tail (.tail (.tail (.tail .head))))))) | exact .new (.tail (.tail (.tail (.tail (.tail (.tail (.tail (.tail .head)))))))) | exact .new (.tail (.tail (.tail (.tail (.tail (.tail (.tail (.tail (.tail .head))))))))) | exact .old .head | exact .old (.tail .head) | exact .old (.tail (.tail .head)) | exact .old (.tail (.tail (.tail .head))) | exact .old (.tail (.tail (.tail (.tail .head)))) | exact .old (.tail (.tail (.tail (.tail (.tail .head))))) | exact .own .head | exact .own (.tail .head) | exact .own (.tail (.tail .head)) | exact .own (.tail (.tail (.tail .head))) | exact .own (.tail (.tail (.tail (.tail .head)))) | exact .own (.tail (.tail (.tail (.tail (.tail .head))))) | exact .own (.tail (.tail (.tail (.tail (.tail (.tail .head)))))) | exact .own (.tail (.tail (.tail (.tail (.tail (.tail (.tail .head)))))))), Cl.nil _ _, by omega, by decide⟩ h15.2.1 (by omega))) (fun x41 => ?_); try (refine l_fact (fun h41 => ?_)))))))
        all_goals (first | refine j_un ?_ | (refine j_yes ?_; refine j_not ?_) | (refine l_case (g := 37) (by exact rfl) (fun g37 => ?_) (fun g37 => ?_) <;> (first | replace g37 := of_decide_eq_true g37 | replace g37 := of_decide_eq_false g37 | skip) <;> (first | refine j_un ?_ | (refine j_yes ?_; refine j_not ?_))))
        all_goals refine j_pick ?_
        all_goals refine l_nil ?_
        all_goals
          refine k_cond (by exact rfl) (fun c43 => ?_) (fun c43 => ?_)
          · try (exact absurd c43 (by decide))
            all_goals (first | replace c43 := of_decide_eq_true c43 | replace c43 := sbeq_t c43 | replace c43 := sbne_t c43 | replace c43 := ibeq_t c43 | replace c43 := ibne_t c43 | replace c43 := ndec_t c43 | replace c43 := not_t c43 | skip)
            all_goals (refine k_seq ?_)
            all_goals refine k_region ?_
            all_goals refine j_assignL (fun _ => ?_)
            all_goals refine l_nil ?_
            all_goals
              refine k_retvF Try.results8 (.tmp (by conv => { lhs; whnf }) .nil) (fun w hw => ?_)
              first | exact ⟨rfl, hw.done⟩ | (exfalso; clear hw; simp_all; done)
          · try (exact absurd c43 (by decide))
            all_goals (first | replace c43 := of_decide_eq_false c43 | replace c43 := sbeq_f c43 | replace c43 := sbne_f c43 | replace c43 := ibeq_f c43 | replace c43 := ibne_f c43 | replace c43 := ndec_f c43 | replace c43 := not_f c43 | skip)
            all_goals (refine k_skip ?_)
            all_goals (refine k_seq ?_)
            all_goals refine k_drawF (.one 0 [] (.one 1 [] (.one 2 [] (.one 3 [] (.one 4 [] (.one 5 [] (.one 6 [] (.one 7 [] (.one 8 [] (.one 9 [0, 6] (.one 10 [] (.one 11 [0] (.one 12 [] (.one 13 [] .nil)))))))))))))) ?_
            all_goals (refine r_load (i := 0) ?_)
            all_goals (refine r_move (i := 1) ?_)
            all_goals (refine r_move (i := 2) ?_)
            all_goals ((refine r_own (i := 3) (hq := (by first | exact cV (hc := fun w1 hw => agrees_c (n := n) _ _ hb hb2 (hr.keep0 hw.done) hc (by omega)) | exact cV (hc := fun w1 hw => agrees_c (n := { cn x15.1 x15.2.1 (x15.2.2.1, x15.2.2.2.1) with prev := (x15.2.2.2.2 : Int) }) (xs := x15.2.1) (ys := []) (b := x15.1) _ _ rfl h15.1.lt ⟨rfl, rfl, hw.cl (by first | exact .new .head | exact .new (.tail .head) | exact .new (.tail (.tail .head)) | exact .new (.tail (.tail (.tail .head))) | exact .new (.tail (.tail (.tail (.tail .head)))) | exact .new (.tail (.tail (.tail (.tail (.tail .head))))) | exact .new (.tail (.tail (.tail (.tail (.tail (.tail .head)))))) | exact .new (.tail (.tail (.tail (.tail (.tail (.tail (.tail .head))))))) | exact .new (.tail (.tail (.tail (.tail (.tail (.tail (.tail (.tail .head)))))))) | exact .new (.tail (.tail (.tail (.tail (.tail (.tail (.tail (.tail (.tail .head))))))))) | exact .old .head | exact .old (.tail .head) | exact .old (.tail (.tail .head)) | exact .old (.tail (.tail (.tail .head))) | exact .old (.tail (.tail (.tail (.tail .head)))) | exact .old (.tail (.tail (.tail (.tail (.tail .head))))) | exact .own .head | exact .own (.tail .head) | exact .own (.tail (.tail .head)) | exact .own (.tail (.tail (.tail .head))) | exact .own (.tail (.tail (.tail (.tail .head)))) | exact .own (.tail (.tail (.tail (.tail (.tail .head))))) | exact .own (.tail (.tail (.tail (.tail (.tail (.tail .head)))))) | exact .own (.tail (.tail (.tail (.tail (.tail (.tail (.tail .head)))))))), Cl.nil _ _, by omega, by decide⟩ h15.2.1 (by omega)))) (hfire := (fun _ => .nil)) (h := fun x47 => ?_); try (refine r_fact (fun h47 => ?_))))
            all_goals (refine r_not (i := 4) ?_)
            all_goals (refine r_move (i := 5) ?_)
            all_goals (first | refine r_un (i := 6) ?_ | (refine r_load (i := 6) ?_) | (refine r_case (g := 49) (by exact rfl) (fun g49 => ?_) (fun g49 => ?_) <;> (first | replace g49 := of_decide_eq_true g49 | replace g49 := of_decide_eq_false g49 | skip) <;> (first | refine r_un (i := 6) ?_ | (refine r_load (i := 6) ?_))))
            all_goals (first | refine r_un (i := 7) ?_ | (refine r_move (i := 7) ?_) | (refine r_case (g := 49) (by exact rfl) (fun g49 => ?_) (fun g49 => ?_) <;> (first | replace g49 := of_decide_eq_true g49 | replace g49 := of_decide_eq_false g49 | skip) <;> (first | refine r_un (i := 7) ?_ | (refine r_move (i := 7) ?_))))
            all_goals (first | refine r_un (i := 8) ?_ | (refine r_move (i := 8) ?_) | (refine r_case (g := 49) (by exact rfl) (fun g49 => ?_) (fun g49 => ?_) <;> (first | replace g49 := of_decide_eq_true g49 | replace g49 := of_decide_eq_false g49 | skip) <;> (first | refine r_un (i := 8) ?_ | (refine r_move (i := 8) ?_))))
            all_goals (first | refine r_un (i := 9) ?_ | ((refine r_own (i := 9) (hq := (cV (hc := fun w1 hw => mod_c r 90 w1 (by rw [wrap_u64]; decide)))) (hfire := (fun _ => by first | (refine FireAll.cons (by first | exact a_load | exact a_un) ?_; refine FireAll.cons (by first | exact a_load | exact a_un) ?_; exact FireAll.nil) | (refine fireall_fact ?_; refine FireAll.cons (by first | exact a_load | exact a_un) ?_; refine FireAll.cons (by first | exact a_load | exact a_un) ?_; exact FireAll.nil))) (h := fun x53 => ?_); try (refine r_fact (fun h53 => ?_)))) | (refine r_case (g := 49) (by exact rfl) (fun g49 => ?_) (fun g49 => ?_) <;> (first | replace g49 := of_decide_eq_true g49 | replace g49 := of_decide_eq_false g49 | skip) <;> (first | refine r_un (i := 9) ?_ | ((refine r_own (i := 9) (hq := (cV (hc := fun w1 hw => mod_c r 90 w1 (by rw [wrap_u64]; decide)))) (hfire := (fun _ => by first | (refine FireAll.cons (by first | exact a_load | exact a_un) ?_; refine FireAll.cons (by first | exact a_load | exact a_un) ?_; exact FireAll.nil) | (refine fireall_fact ?_; refine FireAll.cons (by first | exact a_load | exact a_un) ?_; refine FireAll.cons (by first | exact a_load | exact a_un) ?_; exact FireAll.nil))) (h := fun x53 => ?_); try (refine r_fact (fun h53 => ?_)))))))
            all_goals (first | refine r_un (i := 10) ?_ | (refine r_add (i := 10) ?_) | (refine r_case (g := 49) (by exact rfl) (fun g49 => ?_) (fun g49 => ?_) <;> (first | replace g49 := of_decide_eq_true g49 | replace g49 := of_decide_eq_false g49 | skip) <;> (first | refine r_un (i := 10) ?_ | (refine r_add (i := 10) ?_))))
            all_goals (first | refine r_un (i := 11) ?_ | ((refine r_own (i := 11) (hq := (by first | exact cV (hc := fun w1 hw => agrees_c (n := n) _ _ hb hb2 (hr.keep0 hw.done) hc (by omega)) | exact cV (hc := fun w1 hw => agrees_c (n := { cn x15.1 x15.2.1 (x15.2.2.1, x15.2.2.2.1) with prev := (x15.2.2.2.2 : Int) }) (xs := x15.2.1) (ys := []) (b := x15.1) _ _ rfl h15.1.lt ⟨rfl, rfl, hw.cl (by first | exact .new .head | exact .new (.tail .head) | exact .new (.tail (.tail .head)) | exact .new (.tail (.tail (.tail .head))) | exact .new (.tail (.tail (.tail (.tail .head)))) | exact .new (.tail (.tail (.tail (.tail (.tail .head))))) | exact .new (.tail (.tail (.tail (.tail (.tail (.tail .head)))))) | exact .new (.tail (.tail (.tail (.tail (.tail (.tail (.tail .head))))))) | exact .new (.tail (.tail (.tail (.tail (.tail (.tail (.tail (.tail .head)))))))) | exact .new (.tail (.tail (.tail (.tail (.tail (.tail (.tail (.tail (.tail .head))))))))) | exact .old .head | exact .old (.tail .head) | exact .old (.tail (.tail .head)) | exact .old (.tail (.tail (.tail .head))) | exact .old (.tail (.tail (.tail (.tail .head)))) | exact .old (.tail (.tail (.tail (.tail (.tail .head))))) | exact .own .head | exact .own (.tail .head) | exact .own (.tail (.tail .head)) | exact .own (.tail (.tail (.tail .head))) | exact .own (.tail (.tail (.tail (.tail .head)))) | exact .own (.tail (.tail (.tail (.tail (.tail .head))))) | exact .own (.tail (.tail (.tail (.tail (.tail (.tail .head)))))) | exact .own (.tail (.tail (.tail (.tail (.tail (.tail (.tail .head)))))))), Cl.nil _ _, by omega, by decide⟩ h15.2.1 (by omega)))) (hfire := (fun _ => by first | (refine FireAll.cons (by first | exact a_load | exact a_un) ?_; exact FireAll.nil) | (refine fireall_fact ?_; refine FireAll.cons (by first | exact a_load | exact a_un) ?_; exact FireAll.nil))) (h := fun x55 => ?_); try (refine r_fact (fun h55 => ?_)))) | (refine r_case (g := 49) (by exact rfl) (fun g49 => ?_) (fun g49 => ?_) <;> (first | replace g49 := of_decide_eq_true g49 | replace g49 := of_decide_eq_false g49 | skip) <;> (first | refine r_un (i := 11) ?_ | ((refine r_own (i := 11) (hq := (by first | exact cV (hc := fun w1 hw => agrees_c (n := n) _ _ hb hb2 (hr.keep0 hw.done) hc (by omega)) | exact cV (hc := fun w1 hw => agrees_c (n := { cn x15.1 x15.2.1 (x15.2.2.1, x15.2.2.2.1) with prev := (x15.2.2.2.2 : Int) }) (xs := x15.2.1) (ys := []) (b := x15.1) _ _ rfl h15.1.lt ⟨rfl, rfl, hw.cl (by first | exact .new .head | exact .new (.tail .head) | exact .new (.tail (.tail .head)) | exact .new (.tail (.tail (.tail .head))) | exact .new (.tail (.tail (.tail (.tail .head)))) | exact .new (.tail (.tail (.tail (.tail (.tail .head))))) | exact .new (.tail (.tail (.tail (.tail (.tail (.tail .head)))))) | exact .new (.tail (.tail (.tail (.tail (.tail (.tail (.tail .head))))))) | exact .new (.tail (.tail (.tail (.tail (.tail (.tail (.tail (.tail .head)))))))) | exact .new (.tail (.tail (.tail (.tail (.tail (.tail (.tail (.tail (.tail .head))))))))) | exact .old .head | exact .old (.tail .head) | exact .old (.tail (.tail .head)) | exact .old (.tail (.tail (.tail .head))) | exact .old (.tail (.tail (.tail (.tail .head)))) | exact .old (.tail (.tail (.tail (.tail (.tail .head))))) | exact .own .head | exact .own (.tail .head) | exact .own (.tail (.tail .head)) | exact .own (.tail (.tail (.tail .head))) | exact .own (.tail (.tail (.tail (.tail .head)))) | exact .own (.tail (.tail (.tail (.tail (.tail .head))))) | exact .own (.tail (.tail (.tail (.tail (.tail (.tail .head)))))) | exact .own (.tail (.tail (.tail (.tail (.tail (.tail (.tail .head)))))))), Cl.nil _ _, by omega, by decide⟩ h15.2.1 (by omega)))) (hfire := (fun _ => by first | (refine FireAll.cons (by first | exact a_load | exact a_un) ?_; exact FireAll.nil) | (refine fireall_fact ?_; refine FireAll.cons (by first | exact a_load | exact a_un) ?_; exact FireAll.nil))) (h := fun x55 => ?_); try (refine r_fact (fun h55 => ?_)))))))
            all_goals (first | refine r_un (i := 12) ?_ | (refine r_not (i := 12) ?_) | (refine r_case (g := 49) (by exact rfl) (fun g49 => ?_) (fun g49 => ?_) <;> (first | replace g49 := of_decide_eq_true g49 | replace g49 := of_decide_eq_false g49 | skip) <;> (first | refine r_un (i := 12) ?_ | (refine r_not (i := 12) ?_))))
            all_goals (refine r_pick (i := 13) ?_)
            all_goals refine r_fin ?_
            all_goals
              refine k_cond (by exact rfl) (fun c57 => ?_) (fun c57 => ?_)
              · try (exact absurd c57 (by decide))
                all_goals (first | replace c57 := of_decide_eq_true c57 | replace c57 := sbeq_t c57 | replace c57 := sbne_t c57 | replace c57 := ibeq_t c57 | replace c57 := ibne_t c57 | replace c57 := ndec_t c57 | replace c57 := not_t c57 | skip)
                all_goals (refine k_seq ?_)
                all_goals refine k_region ?_
                all_goals refine j_assignL (fun _ => ?_)
                all_goals refine l_nil ?_
                all_goals
                  refine k_retvF Try.results8 (.tmp (by conv => { lhs; whnf }) .nil) (fun w hw => ?_)
                  first | exact ⟨rfl, hw.done⟩ | (exfalso; clear hw; simp_all; done)
              · try (exact absurd c57 (by decide))
                all_goals (first | replace c57 := of_decide_eq_false c57 | replace c57 := sbeq_f c57 | replace c57 := sbne_f c57 | replace c57 := ibeq_f c57 | replace c57 := ibne_f c57 | replace c57 := ndec_f c57 | replace c57 := not_f c57 | skip)
                all_goals (refine k_skip ?_)
                all_goals (refine k_blk ?_)
                all_goals refine k_region ?_
                all_goals refine j_inc ?_
                all_goals refine j_move ?_
                all_goals refine l_nil ?_
                all_goals
                  refine k_roundC (k + 1) ?_ ?_ ?_
                  · first | omega | (simp only []; omega)
                  · repeat' (first | exact knows_nil _ | refine knows_cons ?_ ?_)
                    all_goals (first | exact rfl | (conv => { lhs; whnf }; simp; done) | (conv => { lhs; whnf }; congr 1; omega))
                  · omega
      · try (exact absurd c24 (by decide))
        all_goals (first | replace c24 := of_decide_eq_false c24 | replace c24 := sbeq_f c24 | replace c24 := sbne_f c24 | replace c24 := ibeq_f c24 | replace c24 := ibne_f c24 | replace c24 := ndec_f c24 | replace c24 := not_f c24 | skip)
        all_goals (refine k_exit rfl ?_)
        all_goals (refine k_seq ?_)
        all_goals refine k_region ?_
        all_goals (refine j_own (cV (hc := fun w1 hw => bawake_c w1)) (fun x59 => ?_); try (refine l_fact (fun h59 => ?_)))
        all_goals refine j_assignL (fun _ => ?_)
        all_goals refine l_nil ?_
        all_goals
          refine k_retvF Try.results8 (.tmp (by conv => { lhs; whnf }) .nil) (fun w hw => ?_)
          first | exact ⟨rfl, hw.done⟩ | (exfalso; clear hw; simp_all; done)
end Go.Proofs.Ythmagkjcangnfaa
