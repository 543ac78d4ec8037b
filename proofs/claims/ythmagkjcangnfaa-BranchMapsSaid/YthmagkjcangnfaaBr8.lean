/- Branches: a C-node out of a tape. -/
import Derived.Test.YthmagkjcangnfaaBr7
import Derived.Test.YthmagkjcangnfaaTape3
set_option linter.unusedSimpArgs false
set_option linter.unusedVariables false
namespace Go.Proofs.Ythmagkjcangnfaa
open Go.RowKit Go.Ct
theorem bnode_c {l : List Int} {a : Option Addr} {c : Nat} {w : World} (hl : Cl w a (refsC l)) (hlen : l.length ≤ 17592186043904) :
    Calls Try.prog 44 #[.slice a l.length c] w fun e w' => ∃ x : Nat × List Int × Option Addr × Nat × Nat, e = .returned ({ cn x.1 x.2.1 (x.2.2.1, x.2.2.2.1) with prev := (x.2.2.2.2 : Int) } : Nd).v ∧ (BV x.1 x.2.1 ∧ x.2.1.length ≤ x.2.2.2.1 ∧ x.2.2.2.2 ≤ 2) ∧ SF w [] [] [] [(x.2.2.1, refsC x.2.1)] [] w' := by
  refine enter Try.func44 Try.ntmps44 rfl rfl (SF.s1 hl) ?_
  simp only [mkS]
  all_goals (refine k_seq ?_)
  all_goals refine k_region ?_
  all_goals refine j_alloc (fun x2 => ?_)
  all_goals refine l_nil ?_
  all_goals (refine k_seq ?_)
  all_goals refine k_region ?_
  all_goals refine j_move ?_
  all_goals (refine j_own (cFH (Fc := fun _ => []) (Oc := fun _ => []) (hc := fun w1 hw => new_c)) (fun x8 => ?_); try (refine l_fact (fun h8 => ?_)))
  all_goals refine j_assignL (fun _ => ?_)
  all_goals refine l_nil ?_
  all_goals (refine k_seq ?_)
  all_goals refine k_region ?_
  all_goals refine j_move ?_
  all_goals (refine j_own (cF1 (hc := fun w1 hw => next_c _ (hw.tape (by repeat (first | exact At.head | apply At.tail)) (by first | exact .new .head | exact .new (.tail .head) | exact .new (.tail (.tail .head)) | exact .new (.tail (.tail (.tail .head))) | exact .new (.tail (.tail (.tail (.tail .head)))) | exact .new (.tail (.tail (.tail (.tail (.tail .head))))) | exact .new (.tail (.tail (.tail (.tail (.tail (.tail .head)))))) | exact .new (.tail (.tail (.tail (.tail (.tail (.tail (.tail .head))))))) | exact .new (.tail (.tail (.tail (.tail (.tail (.tail (.tail (.tail .head)))))))) | exact .new (.tail (.tail (.tail (.tail (.tail (.tail (.tail (.tail (.tail .head))))))))) | exact .old .head | exact .old (.tail .head) | exact .old (.tail (.tail .head)) | exact .old (.tail (.tail (.tail .head))) | exact .old (.tail (.tail (.tail (.tail .head)))) | exact .old (.tail (.tail (.tail (.tail (.tail .head))))) | exact .own .head | exact .own (.tail .head) | exact .own (.tail (.tail .head)) | exact .own (.tail (.tail (.tail .head))) | exact .own (.tail (.tail (.tail (.tail .head)))) | exact .own (.tail (.tail (.tail (.tail (.tail .head))))) | exact .own (.tail (.tail (.tail (.tail (.tail (.tail .head)))))) | exact .own (.tail (.tail (.tail (.tail (.tail (.tail (.tail .head)))))))) hlen) (by first | decide | omega) (by first | decide | omega))) (fun x10 => ?_); try (refine l_fact (fun h10 => ?_)))
  all_goals refine j_build ?_
  all_goals refine j_alloc (fun x4 => ?_)
  all_goals refine j_store (fun _ => ?_)
  all_goals refine l_nil ?_
  all_goals (refine k_seq ?_)
  all_goals (refine k_seq ?_)
  all_goals refine k_region ?_
  all_goals refine j_move ?_
  all_goals (refine j_own (cF1 (hc := fun w1 hw => next_c _ (hw.tape (by repeat (first | exact At.head | apply At.tail)) (by first | exact .new .head | exact .new (.tail .head) | exact .new (.tail (.tail .head)) | exact .new (.tail (.tail (.tail .head))) | exact .new (.tail (.tail (.tail (.tail .head)))) | exact .new (.tail (.tail (.tail (.tail (.tail .head))))) | exact .new (.tail (.tail (.tail (.tail (.tail (.tail .head)))))) | exact .new (.tail (.tail (.tail (.tail (.tail (.tail (.tail .head))))))) | exact .new (.tail (.tail (.tail (.tail (.tail (.tail (.tail (.tail .head)))))))) | exact .new (.tail (.tail (.tail (.tail (.tail (.tail (.tail (.tail (.tail .head))))))))) | exact .old .head | exact .old (.tail .head) | exact .old (.tail (.tail .head)) | exact .old (.tail (.tail (.tail .head))) | exact .old (.tail (.tail (.tail (.tail .head)))) | exact .old (.tail (.tail (.tail (.tail (.tail .head))))) | exact .own .head | exact .own (.tail .head) | exact .own (.tail (.tail .head)) | exact .own (.tail (.tail (.tail .head))) | exact .own (.tail (.tail (.tail (.tail .head)))) | exact .own (.tail (.tail (.tail (.tail (.tail .head))))) | exact .own (.tail (.tail (.tail (.tail (.tail (.tail .head)))))) | exact .own (.tail (.tail (.tail (.tail (.tail (.tail (.tail .head)))))))) hlen) (by first | decide | omega) (by first | decide | omega))) (fun x13 => ?_); try (refine l_fact (fun h13 => ?_)))
  all_goals refine j_assignL (fun _ => ?_)
  all_goals refine l_nil ?_
  all_goals (refine k_block ?_)
  all_goals
    refine k_loopF [5, 14, 15, 16, 17, 18, 19, 20, 21, 22, 23] (fun x : Nat × Nat × Nat => [(5, .int .i64 ((x.1 : Nat) : Int))]) (fun x => x.2.1 < 18446744073709551616 ∧ x.1 ≤ 9) (fun x => [(x4, .cells ⟨[.int .i64 3, .int .i64 0, .int .i64 0, .int .u64 ((x.2.1 : Nat) : Int), .slice none 0 0, .int .u64 0, .string ⟨#[]⟩, .int .u64 0, .slice none 0 0, .int .i64 ((x10 : Nat) : Int), .int .i64 0, .int .i64 0, .int .i64 0, .int .i64 0]⟩ 28 (0, 0)), (x8, tpO a l c x.2.2), (x2, .cells ⟨zNode⟩ 28 (0, 0))]) (fun _ => _) (fun _ => _) (fun x => x.1) ((x13, 0, tiN l (tiN l 0))) (by decide) (fun _ => by exact rfl) ?_ (⟨by show (0 : Nat) < 18446744073709551616; decide, by show x13 ≤ 9; omega⟩) (fun w hw => hw.back) (fun x f hx => ?_)
    · repeat (first | exact knows_nil _ | refine knows_cons (by first | exact rfl | (conv => { lhs; whnf }; simp; done)) ?_)
    dsimp only [mkU, List.map, List.cons_append, List.nil_append]
    all_goals (refine k_seq ?_)
    all_goals (refine k_seq ?_)
    all_goals refine k_region ?_
    all_goals refine j_move ?_
    all_goals refine j_gtr ?_
    all_goals refine l_nil ?_
    all_goals
      refine k_cond (by exact rfl) (fun c15 => ?_) (fun c15 => ?_)
      · try (exact absurd c15 (by decide))
        all_goals (first | replace c15 := of_decide_eq_true c15 | replace c15 := sbeq_t c15 | replace c15 := sbne_t c15 | replace c15 := ibeq_t c15 | replace c15 := ibne_t c15 | replace c15 := ndec_t c15 | replace c15 := not_t c15 | skip)
        all_goals (refine k_skip ?_)
        all_goals (refine k_seq ?_)
        all_goals (refine k_block ?_)
        all_goals refine k_drawF (.one 0 [] (.one 1 [] (.one 2 [] (.one 3 [1] (.one 4 [] (.one 5 [] (.one 6 [] .nil))))))) ?_
        all_goals (refine r_fieldAddr (i := 0) ?_)
        all_goals (refine r_load (i := 1) ?_)
        all_goals (refine r_move (i := 2) ?_)
        all_goals ((refine r_own (i := 3) (hq := (cF1 (hc := fun w1 hw => next_c _ (hw.tape (by repeat (first | exact At.head | apply At.tail)) (by first | exact .new .head | exact .new (.tail .head) | exact .new (.tail (.tail .head)) | exact .new (.tail (.tail (.tail .head))) | exact .new (.tail (.tail (.tail (.tail .head)))) | exact .new (.tail (.tail (.tail (.tail (.tail .head))))) | exact .new (.tail (.tail (.tail (.tail (.tail (.tail .head)))))) | exact .new (.tail (.tail (.tail (.tail (.tail (.tail (.tail .head))))))) | exact .new (.tail (.tail (.tail (.tail (.tail (.tail (.tail (.tail .head)))))))) | exact .new (.tail (.tail (.tail (.tail (.tail (.tail (.tail (.tail (.tail .head))))))))) | exact .old .head | exact .old (.tail .head) | exact .old (.tail (.tail .head)) | exact .old (.tail (.tail (.tail .head))) | exact .old (.tail (.tail (.tail (.tail .head)))) | exact .old (.tail (.tail (.tail (.tail (.tail .head))))) | exact .own .head | exact .own (.tail .head) | exact .own (.tail (.tail .head)) | exact .own (.tail (.tail (.tail .head))) | exact .own (.tail (.tail (.tail (.tail .head)))) | exact .own (.tail (.tail (.tail (.tail (.tail .head))))) | exact .own (.tail (.tail (.tail (.tail (.tail (.tail .head)))))) | exact .own (.tail (.tail (.tail (.tail (.tail (.tail (.tail .head)))))))) hlen) (by first | decide | omega) (by first | decide | omega)))) (hfire := (fun _ => by first | (refine FireAll.cons (by first | exact a_load | exact a_un) ?_; exact FireAll.nil) | (refine fireall_fact ?_; refine FireAll.cons (by first | exact a_load | exact a_un) ?_; exact FireAll.nil))) (h := fun x21 => ?_); try (refine r_fact (fun h21 => ?_))))
        all_goals ((refine r_own (i := 4) (hq := (cV (hc := fun w1 hw => refWith_c hx.1 (x21 : Int) w1))) (hfire := (fun _ => .nil)) (h := fun x22 => ?_); try (refine r_fact (fun h22 => ?_))))
        all_goals (refine r_fieldAddr (i := 5) ?_)
        all_goals (refine r_store (i := 6) (hfire := (fun _ => .nil)) (h := fun _ => ?_))
        all_goals refine r_fin ?_
        all_goals (refine k_blk ?_)
        all_goals refine k_region ?_
        all_goals refine j_move ?_
        all_goals refine j_dec ?_
        all_goals refine j_assignL (fun _ => ?_)
        all_goals refine l_nil ?_
        all_goals
          refine k_roundF ((x.1 - 1, withI x.2.1 (x21 : Int), tiN l x.2.2)) ?_ ?_ (by repeat (first | (with_reducible exact Pre.refl) | refine Pre.cons (by exact rfl) ?_)) ?_ (fun w hw => hw.back)
          · first | omega | (simp only []; omega)
          · repeat' (first | exact knows_nil _ | refine knows_cons ?_ ?_)
            all_goals (first | exact rfl | (conv => { lhs; whnf }; simp; done) | (conv => { lhs; whnf }; congr 1; omega))
          · exact ⟨withI_lt hx.1 _, by show x.1 - 1 ≤ 9; omega⟩
      · try (exact absurd c15 (by decide))
        all_goals (first | replace c15 := of_decide_eq_false c15 | replace c15 := sbeq_f c15 | replace c15 := sbne_f c15 | replace c15 := ibeq_f c15 | replace c15 := ibne_f c15 | replace c15 := ndec_f c15 | replace c15 := not_f c15 | skip)
        all_goals (refine k_exit rfl ?_)
        all_goals (refine k_seq ?_)
        all_goals (refine k_seq ?_)
        all_goals refine k_region ?_
        all_goals refine j_fieldAddr ?_
        all_goals refine j_load ?_
        all_goals (refine j_own (cV (hc := fun w1 hw => refCount_c hx.1 w1)) (fun x26 => ?_); try (refine l_fact (fun h26 => ?_)))
        all_goals refine j_assignL (fun _ => ?_)
        all_goals refine l_nil ?_
        all_goals (refine k_block ?_)
        all_goals
          have hxb := hx.1
          refine k_loopF [6, 27, 28, 29, 30, 31, 32, 33, 34, 35, 36, 37, 38] (fun y : Nat × Option Addr × List Int × Nat × Nat => [(6, .int .i64 ((y.1 : Nat) : Int))]) (fun y => y.2.2.1.length + y.1 = cnt x.2.1 64 ∧ y.2.2.1.length ≤ y.2.2.2.1 ∧ ∀ r ∈ y.2.2.1, 1 ≤ r) (fun y => [(x4, .cells ⟨[.int .i64 3, .int .i64 0, .int .i64 0, .int .u64 ((x.2.1 : Nat) : Int), .slice y.2.1 y.2.2.1.length y.2.2.2.1, .int .u64 0, .string ⟨#[]⟩, .int .u64 0, .slice none 0 0, .int .i64 ((x10 : Nat) : Int), .int .i64 0, .int .i64 0, .int .i64 0, .int .i64 0]⟩ 28 (0, 0)), (x8, tpO a l c y.2.2.2.2), (x2, .cells ⟨zNode⟩ 28 (0, 0))]) (fun y => []) (fun y => [⟨y.2.1, refsC y.2.2.1, y.2.2.2.1, 26, 1⟩]) (fun y => y.1) ((cnt x.2.1 64, none, [], 0, x.2.2)) (by decide) (fun _ => by exact rfl) ?_ (⟨by simp, Nat.le_refl _, by simp⟩) (fun w hw => (hw.nilOwn 26 1).back) (fun y f hx => ?_)
          · repeat (first | exact knows_nil _ | refine knows_cons (by first | exact rfl | (conv => { lhs; whnf }; simp; done)) ?_)
          dsimp only [mkU, List.map, List.cons_append, List.nil_append]
          have hcl64 := cnt_le x.2.1 64
          obtain ⟨hy2, hy3, hy4⟩ := hx
          all_goals (refine k_seq ?_)
          all_goals (refine k_seq ?_)
          all_goals refine k_region ?_
          all_goals refine j_move ?_
          all_goals refine j_gtr ?_
          all_goals refine l_nil ?_
          all_goals
            refine k_cond (by exact rfl) (fun c28 => ?_) (fun c28 => ?_)
            · try (exact absurd c28 (by decide))
              all_goals (first | replace c28 := of_decide_eq_true c28 | replace c28 := sbeq_t c28 | replace c28 := sbne_t c28 | replace c28 := ibeq_t c28 | replace c28 := ibne_t c28 | replace c28 := ndec_t c28 | replace c28 := not_t c28 | skip)
              all_goals (refine k_skip ?_)
              all_goals (refine k_seq ?_)
              all_goals (refine k_block ?_)
              all_goals refine k_drawF (.one 0 [] (.one 1 [] (.one 2 [] (.one 3 [1] (.one 4 [] (.one 5 [1] (.one 6 [] (.one 7 [] (.one 8 [] .nil))))))))) ?_
              all_goals (refine r_fieldAddr (i := 0) ?_)
              all_goals (refine r_load (i := 1) ?_)
              all_goals (refine r_move (i := 2) ?_)
              all_goals ((refine r_own (i := 3) (hq := (cF1 (hc := fun w1 hw => next_c _ (hw.tape (by repeat (first | exact At.head | apply At.tail)) (by first | exact .new .head | exact .new (.tail .head) | exact .new (.tail (.tail .head)) | exact .new (.tail (.tail (.tail .head))) | exact .new (.tail (.tail (.tail (.tail .head)))) | exact .new (.tail (.tail (.tail (.tail (.tail .head))))) | exact .new (.tail (.tail (.tail (.tail (.tail (.tail .head)))))) | exact .new (.tail (.tail (.tail (.tail (.tail (.tail (.tail .head))))))) | exact .new (.tail (.tail (.tail (.tail (.tail (.tail (.tail (.tail .head)))))))) | exact .new (.tail (.tail (.tail (.tail (.tail (.tail (.tail (.tail (.tail .head))))))))) | exact .old .head | exact .old (.tail .head) | exact .old (.tail (.tail .head)) | exact .old (.tail (.tail (.tail .head))) | exact .old (.tail (.tail (.tail (.tail .head)))) | exact .old (.tail (.tail (.tail (.tail (.tail .head))))) | exact .own .head | exact .own (.tail .head) | exact .own (.tail (.tail .head)) | exact .own (.tail (.tail (.tail .head))) | exact .own (.tail (.tail (.tail (.tail .head)))) | exact .own (.tail (.tail (.tail (.tail (.tail .head))))) | exact .own (.tail (.tail (.tail (.tail (.tail (.tail .head)))))) | exact .own (.tail (.tail (.tail (.tail (.tail (.tail (.tail .head)))))))) hlen) (by first | decide | omega) (by first | decide | omega)))) (hfire := (fun _ => by first | (refine FireAll.cons (by first | exact a_load | exact a_un) ?_; exact FireAll.nil) | (refine fireall_fact ?_; refine FireAll.cons (by first | exact a_load | exact a_un) ?_; exact FireAll.nil))) (h := fun x34 => ?_); try (refine r_fact (fun h34 => ?_))))
              all_goals (refine r_add (i := 4) ?_)
              all_goals (refine r_buildSlice (i := 5) (hfire := (fun _ => by first | (refine FireAll.cons (by first | exact a_load | exact a_un) ?_; exact FireAll.nil) | (refine fireall_fact ?_; refine FireAll.cons (by first | exact a_load | exact a_un) ?_; exact FireAll.nil))) (h := fun x36 => ?_))
              all_goals ((refine r_append (i := 6) (hfire := (fun _ => .nil)) (h := fun x37 => ?_); try (refine r_fact (fun h37 => ?_))))
              all_goals (refine r_fieldAddr (i := 7) ?_)
              all_goals (refine r_store (i := 8) (hfire := (fun _ => .nil)) (h := fun _ => ?_))
              all_goals refine r_fin ?_
              all_goals (refine k_blk ?_)
              all_goals refine k_region ?_
              all_goals refine j_move ?_
              all_goals refine j_dec ?_
              all_goals refine j_assignL (fun _ => ?_)
              all_goals refine l_nil ?_
              all_goals
                refine k_roundF ((y.1 - 1, x37.1, y.2.2.1 ++ [1 + (x34 : Int)], x37.2, tiN l y.2.2.2.2)) ?_ ?_ (by repeat (first | (with_reducible exact Pre.refl) | refine Pre.cons (by exact rfl) ?_)) ?_ (fun w hw => by rw [show y.2.2.1.length + 1 = (y.2.2.1 ++ [1 + (x34 : Int)]).length by simp] at hw; exact hw.back)
                · first | omega | (simp only []; omega)
                · repeat' (first | exact knows_nil _ | refine knows_cons ?_ ?_)
                  all_goals (first | exact rfl | (conv => { lhs; whnf }; simp; done) | (conv => { lhs; whnf }; congr 1; omega))
                · refine ⟨by simp only [List.length_append, List.length_cons, List.length_nil]; omega, by simp only [List.length_append, List.length_cons, List.length_nil]; omega, fun r hr => ?_⟩
                  rcases List.mem_append.1 hr with hr | hr
                  · exact hy4 r hr
                  · simp only [List.mem_singleton] at hr; subst hr; omega
            · try (exact absurd c28 (by decide))
              all_goals (first | replace c28 := of_decide_eq_false c28 | replace c28 := sbeq_f c28 | replace c28 := sbne_f c28 | replace c28 := ibeq_f c28 | replace c28 := ibne_f c28 | replace c28 := ndec_f c28 | replace c28 := not_f c28 | skip)
              all_goals (refine k_exit rfl ?_)
              all_goals (refine k_seq ?_)
              all_goals refine k_region ?_
              all_goals refine j_load ?_
              all_goals refine j_store (fun _ => ?_)
              all_goals refine l_nil ?_
              all_goals
                refine k_retvF Try.results44 (.cell (by exact rfl) (by repeat (first | exact At.head | apply At.tail)) (by exact agg_of rfl) .nil) (fun w hw => ?_)
                exact ⟨(x.2.1, y.2.2.1, y.2.1, y.2.2.2.1, x10), rfl, ⟨⟨hxb, show y.2.2.1.length = cnt x.2.1 64 by omega, fun i hi => hy4 _ (getD_mem hi)⟩, hy3, show x10 ≤ 2 by omega⟩, (hw.freeze .head (by simp)).finH⟩
end Go.Proofs.Ythmagkjcangnfaa
