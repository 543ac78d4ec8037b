/- Sorting: the whole; Of. -/
import Derived.Test.YthmagkjcangnfaaPa8
import Derived.Test.YthmagkjcangnfaaPa4
set_option linter.unusedSimpArgs false
set_option linter.unusedVariables false
namespace Go.Proofs.Ythmagkjcangnfaa
open Go.RowKit Go.Ct
section
variable {ys l : List Pr} {p a : Option Addr} {c N : Nat} {w : World}
theorem SR.nil {ys : List Pr} {a : Nat} : SR ys a (a + 1) := fun i j h1 h2 h3 => by omega
/-- Insertion sort of a segment. -/
theorem ins_ms {ys : List Pr} {a b : Nat} (hab : a ≤ b) (hb : b ≤ ys.length) : MS ys a b (insI a (a + 1) (b - (a + 1)) ys) := by
  by_cases h : a < b
  · have := insI_said (a := a) (n := b - (a + 1)) (i := a + 1) (ys := ys) (by omega) (by omega) SR.nil
    rw [show a + 1 + (b - (a + 1)) = b by omega] at this
    exact this
  · rw [show b - (a + 1) = 0 by omega]
    exact ⟨fun i j h1 h2 h3 => by omega, Sg.rfl⟩
theorem o_mulN {S : List (Nat × Value)} {G : World → Prop} {d : Nat} {ty t t' : TypeId} {pos : String} {af : Array Edge} {gd : Option (Nat × Bool)} {x y : Operand} {u v : Int} {m n : Nat} (hx : ev S x = .int .i64 u) (hy : ev S y = .int .i64 v) (hu : u = (m : Int)) (hv : v = (n : Int)) (h : m * n ≤ 9223372036854775807) :
    Quiet Try.prog S G ⟨some d, .binOp .mul t x y t', ty, pos, af, gd⟩ (.int .i64 ((m * n : Nat) : Int)) := by
  have := o_mul (P := Try.prog) (G := G) (d := d) (ty := ty) (pos := pos) (af := af) (gd := gd) (t := t) (t' := t') hx hy
  rw [hu, hv, ← Int.natCast_mul, wrap_i64 (by omega) (by omega)] at this
  exact this
/-- What the blocks' sorting leaves. -/
def Blk (ys : List Pr) (N : Nat) (x : List Pr) : Prop := x.length = N ∧ (N ≤ 20 → MS ys 0 N x) ∧ (20 < N → SR x 0 20 ∧ SR x 20 N ∧ Sg 0 N x ys)
theorem blk_first {ys x : List Pr} {N k : Nat} (hN : ys.length = N) (h : (k = 0 ∧ x = ys) ∨ (k = 20 ∧ 20 ≤ N ∧ MS ys 0 20 x)) (hk : ¬ k + 20 ≤ N) : Blk ys N (insI k (k + 1) (N - (k + 1)) x) := by
  rcases h with ⟨rfl, rfl⟩ | ⟨rfl, h20, hms⟩
  · have := ins_ms (ys := x) (a := 0) (b := N) (Nat.zero_le _) (by omega)
    exact ⟨by rw [insI_len]; exact hN, fun _ => this, fun h => by omega⟩
  · have hx := hms.2.len
    have := ins_ms (ys := x) (a := 20) (b := N) h20 (by omega)
    refine ⟨by rw [insI_len]; omega, fun h => ?_, fun h => ⟨fun i j h1 h2 h3 => ?_, this.1, (this.2.wide (Nat.zero_le _) (Nat.le_refl _)).trans (hms.2.wide (Nat.le_refl _) (by omega))⟩⟩
    · have e : N = 20 := by omega
      subst e
      rw [show (20 : Nat) - (20 + 1) = 0 by decide]
      exact hms
    · rw [this.2.get_lo (by omega), this.2.get_lo (by omega)]
      exact hms.1 i j h1 h2 h3
/-- At most 39: the sorted blocks, then the merged list. -/
theorem stable_c (ho : OwOk w ⟨p, prC ys, c, 37, 2⟩) (hN : ys.length = N) (hl : N ≤ 39) :
    Calls Try.prog 125 #[.slice p N c, .int .i64 (N : Int), fOf] w fun e w' => ∃ x : List Pr, e = .returned (.tuple #[]) ∧ MS ys 0 N x ∧ SF w (oblk p) [] [] [] [⟨p, prC x, c, 37, 2⟩] w' := by
  refine enter Try.func125 Try.ntmps125 rfl rfl (SF.o1 ho) ?_
  simp only [mkS]
  all_goals (refine k_seq ?_)
  all_goals refine k_region ?_
  all_goals refine j_assignL (fun _ => ?_)
  all_goals refine l_nil ?_
  all_goals (refine k_seq ?_)
  all_goals refine k_region ?_
  all_goals refine j_move ?_
  all_goals refine j_assignL (fun _ => ?_)
  all_goals refine j_assignL (fun _ => ?_)
  all_goals refine l_nil ?_
  all_goals (refine k_seq ?_)
  all_goals (refine k_block ?_)
  all_goals
    refine k_loopF [7, 8, 11, 12, 13, 14, 15, 16, 17, 18, 19, 20, 21, 22] (fun z : Nat × List Pr => [(7, .int .i64 ((z.1 : Nat) : Int)), (8, .int .i64 ((z.1 + 20 : Nat) : Int))]) (fun z => ((z.1 = 0 ∧ z.2 = ys) ∨ (z.1 = 20 ∧ 20 ≤ N ∧ MS ys 0 20 z.2)) ∧ z.2.length = N) (fun _ => _) (fun _ => _) (fun z => [⟨p, prC z.2, c, 37, 2⟩]) (fun z => 40 - z.1) ((0, ys)) (by decide) (fun _ => by exact rfl) ?_ (⟨.inl ⟨rfl, rfl⟩, hN⟩) (fun w hw => hw.back) (fun z f hx => ?_)
    · repeat (first | exact knows_nil _ | refine knows_cons (by first | exact rfl | (conv => { lhs; whnf }; simp; done)) ?_)
    dsimp only [mkU, List.map, List.cons_append, List.nil_append]
    obtain ⟨q1, q2⟩ := hx
    have q3 : z.1 = 0 ∨ (z.1 = 20 ∧ 20 ≤ N) := q1.imp (fun h => h.1) (fun h => ⟨h.1, h.2.1⟩)
    all_goals (refine k_seq ?_)
    all_goals (refine k_seq ?_)
    all_goals refine k_region ?_
    all_goals refine j_move ?_
    all_goals refine j_move ?_
    all_goals refine j_leq ?_
    all_goals refine l_nil ?_
    all_goals
      refine k_cond (by exact rfl) (fun c13 => ?_) (fun c13 => ?_)
      · try (exact absurd c13 (by decide))
        all_goals (first | replace c13 := of_decide_eq_true c13 | replace c13 := sbeq_t c13 | replace c13 := sbne_t c13 | replace c13 := ibeq_t c13 | replace c13 := ibne_t c13 | replace c13 := ndec_t c13 | replace c13 := not_t c13 | skip)
        all_goals (refine k_skip ?_)
        all_goals (refine k_block ?_)
        all_goals (refine k_seq ?_)
        all_goals refine k_region ?_
        all_goals refine j_move ?_
        all_goals refine j_move ?_
        all_goals refine j_move ?_
        all_goals refine j_move ?_
        all_goals (refine j_own (by first | exact cFO (ho := (by repeat (first | exact OAt.head | apply OAt.tail))) (hc := fun w1 hw => insertion_c z.1 (z.1 + 20) (hw.ow (by repeat (first | exact OAt.head | apply OAt.tail))) q2 (by omega) (by omega) (by omega)) | exact cFO (ho := (by repeat (first | exact OAt.head | apply OAt.tail))) (hc := fun w1 hw => insertion_c z.1 N (hw.ow (by repeat (first | exact OAt.head | apply OAt.tail))) q2 (by omega) (Nat.le_refl _) (by omega))) (fun x18 => ?_); try (refine l_fact (fun h18 => ?_)))
        all_goals refine l_nil ?_
        all_goals (refine k_seq ?_)
        all_goals refine k_region ?_
        all_goals refine j_move ?_
        all_goals refine j_assignL (fun _ => ?_)
        all_goals refine l_nil ?_
        all_goals refine k_region ?_
        all_goals refine j_move ?_
        all_goals refine j_move ?_
        all_goals refine l_quiet (o_addN (n := 20) (by exact rfl) (by exact rfl) (by omega)) rfl ?_
        all_goals refine j_assignL (fun _ => ?_)
        all_goals refine l_nil ?_
        all_goals (refine k_blk ?_)
        all_goals
          refine k_roundF ((z.1 + 20, insI z.1 (z.1 + 1) (z.1 + 20 - (z.1 + 1)) z.2)) ?_ ?_ (by repeat (first | (with_reducible exact Pre.refl) | refine Pre.cons (by exact rfl) ?_)) ?_ (fun w hw => hw.back)
          · first | omega | (simp only []; omega)
          · repeat' (first | exact knows_nil _ | refine knows_cons ?_ ?_)
            all_goals (first | exact rfl | (conv => { lhs; whnf }; simp; done) | (conv => { lhs; whnf }; congr 1; omega))
          · have hz : z.1 = 0 := by omega
            have e : z.2 = ys := by rcases q1 with h | h; exact h.2; omega
            refine ⟨.inr ⟨by show z.1 + 20 = 20; omega, by omega, ?_⟩, by show (insI _ _ _ _).length = N; rw [insI_len]; exact q2⟩
            show MS ys 0 20 (insI z.1 (z.1 + 1) (z.1 + 20 - (z.1 + 1)) z.2)
            rw [hz, e]
            exact ins_ms (a := 0) (b := 20) (by omega) (by omega)
      · try (exact absurd c13 (by decide))
        all_goals (first | replace c13 := of_decide_eq_false c13 | replace c13 := sbeq_f c13 | replace c13 := sbne_f c13 | replace c13 := ibeq_f c13 | replace c13 := ibne_f c13 | replace c13 := ndec_f c13 | replace c13 := not_f c13 | skip)
        all_goals (refine k_exit rfl ?_)
        all_goals (refine k_seq ?_)
        all_goals refine k_region ?_
        all_goals refine j_move ?_
        all_goals refine j_move ?_
        all_goals refine j_move ?_
        all_goals refine j_move ?_
        all_goals (refine j_own (by first | exact cFO (ho := (by repeat (first | exact OAt.head | apply OAt.tail))) (hc := fun w1 hw => insertion_c z.1 (z.1 + 20) (hw.ow (by repeat (first | exact OAt.head | apply OAt.tail))) q2 (by omega) (by omega) (by omega)) | exact cFO (ho := (by repeat (first | exact OAt.head | apply OAt.tail))) (hc := fun w1 hw => insertion_c z.1 N (hw.ow (by repeat (first | exact OAt.head | apply OAt.tail))) q2 (by omega) (Nat.le_refl _) (by omega))) (fun x27 => ?_); try (refine l_fact (fun h27 => ?_)))
        all_goals refine l_nil ?_
        all_goals (refine k_block ?_)
        all_goals
          refine k_loopF [6, 7, 8, 9, 28, 29, 30, 31, 32, 33, 34, 35, 36, 37, 38, 39, 40, 41, 42, 43, 44, 45, 46, 47, 48, 49, 50, 51, 52, 53, 54, 55, 56, 57, 58, 59, 60, 61, 62] (fun x : Nat × List Pr => [(6, .int .i64 ((x.1 : Nat) : Int))]) (fun x => (x.1 = 20 ∧ Blk ys N x.2) ∨ (x.1 = 40 ∧ MS ys 0 N x.2)) (fun _ => _) (fun _ => _) (fun x => [⟨p, prC x.2, c, 37, 2⟩]) (fun x => 41 - x.1) ((20, insI z.1 (z.1 + 1) (N - (z.1 + 1)) z.2)) (by decide) (fun _ => by exact rfl) ?_ (.inl ⟨rfl, blk_first hN q1 (by omega)⟩) (fun w hw => hw.back) (fun x f hx => ?_)
          · repeat (first | exact knows_nil _ | refine knows_cons (by first | exact rfl | (conv => { lhs; whnf }; simp; done)) ?_)
          dsimp only [mkU, List.map, List.cons_append, List.nil_append]
          all_goals (refine k_seq ?_)
          all_goals (refine k_seq ?_)
          all_goals refine k_region ?_
          all_goals refine j_move ?_
          all_goals refine j_move ?_
          all_goals refine j_lss ?_
          all_goals refine l_nil ?_
          all_goals
            refine k_cond (by exact rfl) (fun c30 => ?_) (fun c30 => ?_)
            · try (exact absurd c30 (by decide))
              all_goals (first | replace c30 := of_decide_eq_true c30 | replace c30 := sbeq_t c30 | replace c30 := sbne_t c30 | replace c30 := ibeq_t c30 | replace c30 := ibne_t c30 | replace c30 := ndec_t c30 | replace c30 := not_t c30 | skip)
              all_goals
                have r4 : x.1 = 20 := by rcases hx with h | h <;> omega
                have r2 : Blk ys N x.2 := by rcases hx with h | h; exact h.2; omega
                have r3 := r2.1
              all_goals (refine k_skip ?_)
              all_goals (refine k_block ?_)
              all_goals (refine k_seq ?_)
              all_goals refine k_region ?_
              all_goals refine j_move ?_
              all_goals refine l_quiet (o_mulN (m := 2) (n := x.1) (by exact rfl) (by exact rfl) rfl rfl (by omega)) rfl ?_
              all_goals refine j_assignL (fun _ => ?_)
              all_goals refine j_assignL (fun _ => ?_)
              all_goals refine l_nil ?_
              all_goals (refine k_seq ?_)
              all_goals (refine k_block ?_)
              all_goals
                refine k_loopF [7, 8, 33, 34, 35, 36, 37, 38, 39, 40, 41, 42, 43, 44, 45, 46, 47, 48] (fun _ : Unit => [(7, .int .i64 ((0 : Nat) : Int)), (8, .int .i64 ((2 * x.1 : Nat) : Int))]) (fun _ => True) (fun _ => _) (fun _ => _) (fun _ => [⟨p, prC x.2, c, 37, 2⟩]) (fun _ => 0) (()) (by decide) (fun _ => by exact rfl) ?_ (trivial) (fun w hw => hw.back) (fun y f hx => ?_)
                · repeat (first | exact knows_nil _ | refine knows_cons (by first | exact rfl | (conv => { lhs; whnf }; simp; done)) ?_)
                dsimp only [mkU, List.map, List.cons_append, List.nil_append]
                all_goals (refine k_seq ?_)
                all_goals (refine k_seq ?_)
                all_goals refine k_region ?_
                all_goals refine j_move ?_
                all_goals refine j_move ?_
                all_goals refine j_leq ?_
                all_goals refine l_nil ?_
                all_goals
                  refine k_cond (by exact rfl) (fun c35 => ?_) (fun c35 => ?_)
                  · try (exact absurd c35 (by decide))
                    all_goals (first | replace c35 := of_decide_eq_true c35 | replace c35 := sbeq_t c35 | replace c35 := sbne_t c35 | replace c35 := ibeq_t c35 | replace c35 := ibne_t c35 | replace c35 := ndec_t c35 | replace c35 := not_t c35 | skip)
                    all_goals
                      exfalso
                      omega
                    all_goals (refine k_skip ?_)
                    all_goals (refine k_block ?_)
                    all_goals (refine k_seq ?_)
                    all_goals refine k_region ?_
                    all_goals refine j_move ?_
                    all_goals refine j_move ?_
                    all_goals refine j_move ?_
                    all_goals refine j_move ?_
                    all_goals refine l_quiet (o_addN (by exact rfl) (by exact rfl) (by omega)) rfl ?_
                    all_goals refine j_move ?_
                    all_goals refine j_move ?_
                    all_goals (refine j_own (cFO (ho := (by repeat (first | exact OAt.head | apply OAt.tail))) (hc := fun w1 hw => symM_c N (ys := x.2) (a := 0) (m := 0 + x.1) (b := N) (by omega) (hw.ow (by repeat (first | exact OAt.head | apply OAt.tail))) (by omega) (by omega) (by omega) (by omega) (Nat.le_refl _) (by rw [Nat.zero_add, r4]; exact (r2.2.2 (by omega)).1) (by rw [Nat.zero_add, r4]; exact (r2.2.2 (by omega)).2.1))) (fun x43 => ?_); try (refine l_fact (fun h43 => ?_)))
                    all_goals refine l_nil ?_
                    all_goals (refine k_seq ?_)
                    all_goals refine k_region ?_
                    all_goals refine j_move ?_
                    all_goals refine j_assignL (fun _ => ?_)
                    all_goals refine l_nil ?_
                    all_goals refine k_region ?_
                    all_goals refine j_move ?_
                    all_goals refine j_move ?_
                    all_goals refine l_quiet (o_mulN (m := 2) (n := x.1) (by exact rfl) (by exact rfl) rfl rfl (by omega)) rfl ?_
                    all_goals refine l_quiet (o_addN (by exact rfl) (by exact rfl) (by omega)) rfl ?_
                    all_goals refine j_assignL (fun _ => ?_)
                    all_goals refine l_nil ?_
                    all_goals (refine k_blk ?_)
                    all_goals
                      refine k_roundF (()) ?_ ?_ (by repeat (first | (with_reducible exact Pre.refl) | refine Pre.cons (by exact rfl) ?_)) ?_ (fun w hw => hw.back)
                      · first | omega | (simp only []; omega)
                      · repeat' (first | exact knows_nil _ | refine knows_cons ?_ ?_)
                        all_goals (first | exact rfl | (conv => { lhs; whnf }; simp; done) | (conv => { lhs; whnf }; congr 1; omega))
                      · trivial
                  · try (exact absurd c35 (by decide))
                    all_goals (first | replace c35 := of_decide_eq_false c35 | replace c35 := sbeq_f c35 | replace c35 := sbne_f c35 | replace c35 := ibeq_f c35 | replace c35 := ibne_f c35 | replace c35 := ndec_f c35 | replace c35 := not_f c35 | skip)
                    all_goals (refine k_exit rfl ?_)
                    all_goals (refine k_seq ?_)
                    all_goals (refine k_seq ?_)
                    all_goals refine k_region ?_
                    all_goals refine j_move ?_
                    all_goals refine j_move ?_
                    all_goals refine l_quiet (o_addN (m := 0) (n := x.1) (by exact rfl) (by exact rfl) (by omega)) rfl ?_
                    all_goals refine j_assignL (fun _ => ?_)
                    all_goals refine l_nil ?_
                    all_goals (refine k_seq ?_)
                    all_goals refine k_region ?_
                    all_goals refine j_move ?_
                    all_goals refine j_move ?_
                    all_goals refine j_lss ?_
                    all_goals refine l_nil ?_
                    all_goals
                      refine k_cond (by exact rfl) (fun c54 => ?_) (fun c54 => ?_)
                      · try (exact absurd c54 (by decide))
                        all_goals (first | replace c54 := of_decide_eq_true c54 | replace c54 := sbeq_t c54 | replace c54 := sbne_t c54 | replace c54 := ibeq_t c54 | replace c54 := ibne_t c54 | replace c54 := ndec_t c54 | replace c54 := not_t c54 | skip)
                        all_goals refine k_region ?_
                        all_goals refine j_move ?_
                        all_goals refine j_move ?_
                        all_goals refine j_move ?_
                        all_goals refine j_move ?_
                        all_goals refine j_move ?_
                        all_goals (refine j_own (cFO (ho := (by repeat (first | exact OAt.head | apply OAt.tail))) (hc := fun w1 hw => symM_c N (ys := x.2) (a := 0) (m := 0 + x.1) (b := N) (by omega) (hw.ow (by repeat (first | exact OAt.head | apply OAt.tail))) (by omega) (by omega) (by omega) (by omega) (Nat.le_refl _) (by rw [Nat.zero_add, r4]; exact (r2.2.2 (by omega)).1) (by rw [Nat.zero_add, r4]; exact (r2.2.2 (by omega)).2.1))) (fun x60 => ?_); try (refine l_fact (fun h60 => ?_)))
                        all_goals refine l_nil ?_
                        all_goals refine k_region ?_
                        all_goals refine j_move ?_
                        all_goals refine l_quiet (o_mulN (m := x.1) (n := 2) (by exact rfl) (by exact rfl) rfl rfl (by omega)) rfl ?_
                        all_goals refine j_assignL (fun _ => ?_)
                        all_goals refine l_nil ?_
                        all_goals (refine k_blk ?_)
                        all_goals
                          refine k_roundF ((by first | exact (x.1 * 2, x60) | exact (x.1 * 2, x.2))) ?_ ?_ (by repeat (first | (with_reducible exact Pre.refl) | refine Pre.cons (by exact rfl) ?_)) ?_ (fun w hw => hw.back)
                          · first | omega | (simp only []; omega)
                          · repeat' (first | exact knows_nil _ | refine knows_cons ?_ ?_)
                            all_goals (first | exact rfl | (conv => { lhs; whnf }; simp; done) | (conv => { lhs; whnf }; congr 1; omega))
                          · first
                            | exact .inr ⟨by show x.1 * 2 = 40; omega, h60.1, h60.2.trans (r2.2.2 (by omega)).2.2⟩
                            | (exfalso; omega)
                      · try (exact absurd c54 (by decide))
                        all_goals (first | replace c54 := of_decide_eq_false c54 | replace c54 := sbeq_f c54 | replace c54 := sbne_f c54 | replace c54 := ibeq_f c54 | replace c54 := ibne_f c54 | replace c54 := ndec_f c54 | replace c54 := not_f c54 | skip)
                        all_goals (refine k_skip ?_)
                        all_goals refine k_region ?_
                        all_goals refine j_move ?_
                        all_goals refine l_quiet (o_mulN (m := x.1) (n := 2) (by exact rfl) (by exact rfl) rfl rfl (by omega)) rfl ?_
                        all_goals refine j_assignL (fun _ => ?_)
                        all_goals refine l_nil ?_
                        all_goals (refine k_blk ?_)
                        all_goals
                          refine k_roundF ((by first | exact (x.1 * 2, x60) | exact (x.1 * 2, x.2))) ?_ ?_ (by repeat (first | (with_reducible exact Pre.refl) | refine Pre.cons (by exact rfl) ?_)) ?_ (fun w hw => hw.back)
                          · first | omega | (simp only []; omega)
                          · repeat' (first | exact knows_nil _ | refine knows_cons ?_ ?_)
                            all_goals (first | exact rfl | (conv => { lhs; whnf }; simp; done) | (conv => { lhs; whnf }; congr 1; omega))
                          · first
                            | exact .inr ⟨by show x.1 * 2 = 40; omega, h60.1, h60.2.trans (r2.2.2 (by omega)).2.2⟩
                            | (exfalso; omega)
            · try (exact absurd c30 (by decide))
              all_goals (first | replace c30 := of_decide_eq_false c30 | replace c30 := sbeq_f c30 | replace c30 := sbne_f c30 | replace c30 := ibeq_f c30 | replace c30 := ibne_f c30 | replace c30 := ndec_f c30 | replace c30 := not_f c30 | skip)
              all_goals (refine k_exit rfl ?_)
              all_goals
                refine k_endvF Try.results125 .nil (fun w hw => ?_)
                rcases hx with ⟨s1, s2⟩ | ⟨s1, s2⟩
                · exact ⟨_, rfl, s2.2.1 (by omega), hw.finH⟩
                · exact ⟨_, rfl, s2, hw.finH⟩
theorem sortStable_c (ho : OwOk w ⟨p, prC ys, c, 37, 2⟩) (hN : ys.length = N) (hl : N ≤ 39) :
    Calls Try.prog 104 #[.slice p N c, fOf] w fun e w' => ∃ x : List Pr, e = .returned (.tuple #[]) ∧ MS ys 0 N x ∧ SF w (oblk p) [] [] [] [⟨p, prC x, c, 37, 2⟩] w' := by
  refine enter Try.func104 Try.ntmps104 rfl rfl (SF.o1 ho) ?_
  simp only [mkS]
  all_goals refine k_region ?_
  all_goals refine j_move ?_
  all_goals refine j_move ?_
  all_goals refine j_len ?_
  all_goals refine j_move ?_
  all_goals (refine j_own (cFO (ho := (by repeat (first | exact OAt.head | apply OAt.tail))) (hc := fun w1 hw => stable_c (hw.ow (by repeat (first | exact OAt.head | apply OAt.tail))) hN hl)) (fun x8 => ?_); try (refine l_fact (fun h8 => ?_)))
  all_goals refine l_nil ?_
  all_goals
    refine k_endvF Try.results104 .nil (fun w hw => ?_)
    exact ⟨x8, rfl, h8, hw.finH⟩
end
end Go.Proofs.Ythmagkjcangnfaa
