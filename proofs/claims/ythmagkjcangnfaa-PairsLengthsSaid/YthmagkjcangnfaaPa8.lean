/- Merging: the walk. -/
import Derived.Test.YthmagkjcangnfaaPa6
import Derived.Test.YthmagkjcangnfaaPa7
set_option linter.unusedSimpArgs false
set_option linter.unusedVariables false
namespace Go.Ct
open Go Go.RowKit
theorem SF.castP {w0 w : World} {M : List Nat} {H : List (Nat × Obj)} {A F : Fr} {p : Option Addr} {c : Nat} {T : TypeId} {l l' : List Pr} (h : SF w0 M H A F [⟨p, prC l, c, T, 2⟩] w) (e : l = l') : SF w0 M H A F [⟨p, prC l', c, T, 2⟩] w := e ▸ h
end Go.Ct
namespace Go.Proofs.Ythmagkjcangnfaa
open Go.RowKit Go.Ct
structure Srch1 (ys : List Pr) (a m b i j : Nat) : Prop where
  i1 : m ≤ i
  ij : i ≤ j
  jb : j ≤ b
  lo : m < i → sless (ys.getD (i - 1) (⟨#[]⟩, 0)).1 (ys.getD a (⟨#[]⟩, 0)).1 = true
  hi : j < b → sless (ys.getD j (⟨#[]⟩, 0)).1 (ys.getD a (⟨#[]⟩, 0)).1 = false
structure Srch2 (ys : List Pr) (a m i j : Nat) : Prop where
  i1 : a ≤ i
  ij : i ≤ j
  jb : j ≤ m
  lo : a < i → sless (ys.getD m (⟨#[]⟩, 0)).1 (ys.getD (i - 1) (⟨#[]⟩, 0)).1 = false
  hi : j < m → sless (ys.getD m (⟨#[]⟩, 0)).1 (ys.getD j (⟨#[]⟩, 0)).1 = true
structure Srch (ys : List Pr) (a m b mid s r : Nat) : Prop where
  s1 : a ≤ s
  s2 : mid + m ≤ s + b
  sr : s ≤ r
  r1 : r ≤ m
  r2 : r ≤ mid
  lo : a < s → mid + m < s + b → sless (ys.getD (mid + m - s) (⟨#[]⟩, 0)).1 (ys.getD (s - 1) (⟨#[]⟩, 0)).1 = false
  hi : r < m → r < mid → sless (ys.getD (mid + m - r - 1) (⟨#[]⟩, 0)).1 (ys.getD r (⟨#[]⟩, 0)).1 = true
section
variable {ys : List Pr} {a b m mid i s : Nat}
theorem Srch1.ms (h : Srch1 ys a (a + 1) b i i) (hb : b ≤ ys.length) (h2 : SR ys (a + 1) b) : MS ys a b (rotL ys a (a + 1) i) :=
  merge_one h.i1 h.jb hb h2 (fun t t1 t2 => by
    by_cases ht : t = i - 1
    · subst ht; exact h.lo (by omega)
    · exact sle_lt (h2 t (i - 1) t1 (by omega) (by have := h.jb; omega)) (h.lo (by omega)))
    (fun t t1 t2 => by
    by_cases ht : t = i
    · subst ht; exact h.hi t2
    · exact sle_le (h.hi (by omega)) (h2 i t (by have := h.i1; omega) (by omega) t2))
theorem Srch2.ms (h : Srch2 ys a m i i) (hb : m + 1 ≤ ys.length) (h1 : SR ys a m) : MS ys a (m + 1) (rotL ys i m (m + 1)) :=
  merge_end h.i1 h.jb hb h1 (fun t t1 t2 => by
    by_cases ht : t = i - 1
    · subst ht; exact h.lo (by omega)
    · exact sle_le (h1 t (i - 1) t1 (by omega) (by have := h.jb; omega)) (h.lo (by omega)))
    (fun t t1 t2 => by
    by_cases ht : t = i
    · subst ht; exact h.hi t2
    · exact slt_le (h.hi (by omega)) (h1 i t (by have := h.i1; omega) (by omega) t2))
theorem Srch.cut (h : Srch ys a m b mid s s) (am : a < m) (mb : m < b) (bl : b ≤ ys.length) (md : mid = (a + b) / 2) : Cut ys a m b mid s := ⟨am, mb, bl, md, h.s1, h.r1, h.r2, h.s2, h.lo, h.hi⟩
end
set_option maxHeartbeats 16000000 in
theorem symM_c : ∀ (K : Nat) {ys : List Pr} {p : Option Addr} {c a m b N : Nat} {w : World}, b - a ≤ K → OwOk w ⟨p, prC ys, c, 37, 2⟩ → ys.length = N → N ≤ 1000000 → a < m → m < b → b ≤ N → SR ys a m → SR ys m b →
    Calls Try.prog 131 #[.slice p N c, .int .i64 (a : Int), .int .i64 (m : Int), .int .i64 (b : Int), fOf] w fun e w' => ∃ x : List Pr, e = .returned (.tuple #[]) ∧ MS ys a b x ∧ SF w (oblk p) [] [] [] [⟨p, prC x, c, 37, 2⟩] w' := by
  intro K
  induction K with
  | zero => intros; omega
  | succ K ih =>
  intro ys p c a m b N w hK ho hN hl h1 h2 h3 hs1 hs2
  obtain ⟨mid, hmid⟩ : ∃ mid, mid = (a + b) / 2 := ⟨_, rfl⟩
  refine enter Try.func131 Try.ntmps131 rfl rfl (SF.o1 ho) ?_
  simp only [mkS]
  all_goals (refine k_seq ?_)
  all_goals (refine k_seq ?_)
  all_goals refine k_region ?_
  all_goals refine j_move ?_
  all_goals refine j_move ?_
  all_goals refine l_quiet (by first | exact o_dec (by exact rfl) (by exact rfl) (by omega) (by omega) | exact o_subN (by exact rfl) (by exact rfl) (by omega) (by omega)) rfl ?_
  all_goals refine j_eql ?_
  all_goals refine l_nil ?_
  all_goals
    refine k_cond (by exact rfl) (fun c28 => ?_) (fun c28 => ?_)
    · try (exact absurd c28 (by decide))
      all_goals (first | replace c28 := of_decide_eq_true c28 | replace c28 := sbeq_t c28 | replace c28 := sbne_t c28 | replace c28 := ibeq_t c28 | replace c28 := ibne_t c28 | replace c28 := ndec_t c28 | replace c28 := not_t c28 | skip)
      all_goals
        have hm1 : m = a + 1 := by omega
        subst hm1
      all_goals (refine k_seq ?_)
      all_goals refine k_region ?_
      all_goals refine j_move ?_
      all_goals refine j_assignL (fun _ => ?_)
      all_goals refine l_nil ?_
      all_goals (refine k_seq ?_)
      all_goals refine k_region ?_
      all_goals refine j_move ?_
      all_goals refine j_assignL (fun _ => ?_)
      all_goals refine l_nil ?_
      all_goals (refine k_seq ?_)
      all_goals (refine k_block ?_)
      all_goals
        refine k_loopF [10, 11, 12, 31, 32, 33, 34, 35, 36, 37, 38, 39, 40, 41, 42, 43, 44, 45, 46, 47, 48, 49, 50, 51, 52, 53] (fun z : Nat × Nat => [(10, .int .i64 ((z.1 : Nat) : Int)), (11, .int .i64 ((z.2 : Nat) : Int))]) (fun z => Srch1 ys a (a + 1) b z.1 z.2) (fun _ => _) (fun _ => _) (fun z => [⟨p, prC ys, c, 37, 2⟩]) (fun z => z.2 - z.1) ((a + 1, b)) (by decide) (fun _ => by exact rfl) ?_ (⟨Nat.le_refl _, by show a + 1 ≤ b; omega, Nat.le_refl _, fun h => absurd h (Nat.lt_irrefl _), fun h => absurd h (Nat.lt_irrefl _)⟩) (fun w hw => hw.back) (fun z f hx => ?_)
        · repeat (first | exact knows_nil _ | refine knows_cons (by first | exact rfl | (conv => { lhs; whnf }; simp; done)) ?_)
        dsimp only [mkU, List.map, List.cons_append, List.nil_append]
        have q1 := hx.i1
        have q2 := hx.ij
        have q3 := hx.jb
        all_goals (refine k_seq ?_)
        all_goals (refine k_seq ?_)
        all_goals refine k_region ?_
        all_goals refine j_move ?_
        all_goals refine j_move ?_
        all_goals refine j_lss ?_
        all_goals refine l_nil ?_
        all_goals
          refine k_cond (by exact rfl) (fun c33 => ?_) (fun c33 => ?_)
          · try (exact absurd c33 (by decide))
            all_goals (first | replace c33 := of_decide_eq_true c33 | replace c33 := sbeq_t c33 | replace c33 := sbne_t c33 | replace c33 := ibeq_t c33 | replace c33 := ibne_t c33 | replace c33 := ndec_t c33 | replace c33 := not_t c33 | skip)
            all_goals (refine k_skip ?_)
            all_goals (refine k_block ?_)
            all_goals (refine k_seq ?_)
            all_goals refine k_region ?_
            all_goals refine j_move ?_
            all_goals refine j_move ?_
            all_goals refine l_quiet (by first | exact o_inc (by exact rfl) (by exact rfl) (by omega) | exact o_addN (by exact rfl) (by exact rfl) (by omega)) rfl ?_
            all_goals refine j_convert ?_
            all_goals refine l_quiet (o_half (n := z.1 + z.2) (by exact rfl) (by exact rfl) (by omega)) rfl ?_
            all_goals refine j_convert ?_
            all_goals refine j_assignL (fun _ => ?_)
            all_goals refine l_nil ?_
            all_goals (refine k_seq ?_)
            all_goals refine k_drawF (.one 0 [] (.one 1 [] (.one 2 [] (.one 3 [] (.one 4 [] (.one 5 [] (.one 6 [] (.one 7 [] (.one 8 [] (.one 9 [3, 7] (.one 10 [] .nil))))))))))) ?_
            all_goals (refine r_move (i := 0) ?_)
            all_goals (refine r_move (i := 1) ?_)
            all_goals (refine r_move (i := 2) ?_)
            all_goals (refine r_indexAddr (i := 3) ?_)
            all_goals (refine r_load (i := 4) ?_)
            all_goals (refine r_move (i := 5) ?_)
            all_goals (refine r_move (i := 6) ?_)
            all_goals (refine r_indexAddr (i := 7) ?_)
            all_goals (refine r_load (i := 8) ?_)
            all_goals ((refine r_own (i := 9) (hq := (by first | exact cVd (by exact rfl) (by (repeat (first | exact evL_nil _ | (apply evL_cons; focus ((conv => { lhs; whnf }); try exact rfl)))); first | done | fail) (by kernel_rfl) (fun w1 hw => of1_c (ys.getD ((z.1 + z.2) / 2) (⟨#[]⟩, 0)) (ys.getD a (⟨#[]⟩, 0)) w1) | exact cVd (by exact rfl) (by (repeat (first | exact evL_nil _ | (apply evL_cons; focus ((conv => { lhs; whnf }); try exact rfl)))); first | done | fail) (by kernel_rfl) (fun w1 hw => of1_c (ys.getD m (⟨#[]⟩, 0)) (ys.getD ((z.1 + z.2) / 2) (⟨#[]⟩, 0)) w1) | exact cVd (by exact rfl) (by (repeat (first | exact evL_nil _ | (apply evL_cons; focus ((conv => { lhs; whnf }); try exact rfl)))); first | done | fail) (by kernel_rfl) (fun w1 hw => of1_c (ys.getD (mid + m - 1 - (z.1 + z.2) / 2) (⟨#[]⟩, 0)) (ys.getD ((z.1 + z.2) / 2) (⟨#[]⟩, 0)) w1))) (hfire := (fun _ => by first | (refine FireAll.cons (by first | exact a_indexAddr | exact a_un) ?_; refine FireAll.cons (by first | exact a_indexAddr | exact a_un) ?_; exact FireAll.nil) | (refine fireall_fact ?_; refine FireAll.cons (by first | exact a_indexAddr | exact a_un) ?_; refine FireAll.cons (by first | exact a_indexAddr | exact a_un) ?_; exact FireAll.nil))) (h := fun x49 => ?_); try (refine r_fact (fun h49 => ?_))))
            all_goals (refine r_lss (i := 10) ?_)
            all_goals refine r_fin ?_
            all_goals
              refine k_cond (by exact rfl) (fun c50 => ?_) (fun c50 => ?_)
              · try (exact absurd c50 (by decide))
                all_goals (first | replace c50 := of_decide_eq_true c50 | replace c50 := sbeq_t c50 | replace c50 := sbne_t c50 | replace c50 := ibeq_t c50 | replace c50 := ibne_t c50 | replace c50 := ndec_t c50 | replace c50 := not_t c50 | skip)
                all_goals refine k_region ?_
                all_goals refine j_move ?_
                all_goals refine l_quiet (by first | exact o_inc (by exact rfl) (by exact rfl) (by omega) | exact o_addN (by exact rfl) (by exact rfl) (by omega)) rfl ?_
                all_goals refine j_assignL (fun _ => ?_)
                all_goals refine l_nil ?_
                all_goals (refine k_blk ?_)
                all_goals
                  refine k_roundF ((by first | exact lfst (p := cmpS _ _ < 0) c50 ((z.1 + z.2) / 2 + 1, z.2) | exact (z.1, (z.1 + z.2) / 2))) ?_ ?_ (by repeat (first | (with_reducible exact Pre.refl) | refine Pre.cons (by exact rfl) ?_)) ?_ (fun w hw => hw.back)
                  · first | omega | (simp only []; omega)
                  · repeat' (first | exact knows_nil _ | refine knows_cons ?_ ?_)
                    all_goals (first | exact rfl | (conv => { lhs; whnf }; simp; done) | (conv => { lhs; whnf }; congr 1; omega))
                  · first
                    | exact ⟨by show a + 1 ≤ (z.1 + z.2) / 2 + 1; omega, by show (z.1 + z.2) / 2 + 1 ≤ z.2; omega, q3, fun _ => cmpS_lt.1 c50, hx.hi⟩
                    | exact ⟨q1, by show z.1 ≤ (z.1 + z.2) / 2; omega, by show (z.1 + z.2) / 2 ≤ b; omega, hx.lo, fun _ => cmpS_ge.1 c50⟩
              · try (exact absurd c50 (by decide))
                all_goals (first | replace c50 := of_decide_eq_false c50 | replace c50 := sbeq_f c50 | replace c50 := sbne_f c50 | replace c50 := ibeq_f c50 | replace c50 := ibne_f c50 | replace c50 := ndec_f c50 | replace c50 := not_f c50 | skip)
                all_goals refine k_region ?_
                all_goals refine j_move ?_
                all_goals refine j_assignL (fun _ => ?_)
                all_goals refine l_nil ?_
                all_goals (refine k_blk ?_)
                all_goals
                  refine k_roundF ((by first | exact lfst (p := cmpS _ _ < 0) c50 ((z.1 + z.2) / 2 + 1, z.2) | exact (z.1, (z.1 + z.2) / 2))) ?_ ?_ (by repeat (first | (with_reducible exact Pre.refl) | refine Pre.cons (by exact rfl) ?_)) ?_ (fun w hw => hw.back)
                  · first | omega | (simp only []; omega)
                  · repeat' (first | exact knows_nil _ | refine knows_cons ?_ ?_)
                    all_goals (first | exact rfl | (conv => { lhs; whnf }; simp; done) | (conv => { lhs; whnf }; congr 1; omega))
                  · first
                    | exact ⟨by show a + 1 ≤ (z.1 + z.2) / 2 + 1; omega, by show (z.1 + z.2) / 2 + 1 ≤ z.2; omega, q3, fun _ => cmpS_lt.1 c50, hx.hi⟩
                    | exact ⟨q1, by show z.1 ≤ (z.1 + z.2) / 2; omega, by show (z.1 + z.2) / 2 ≤ b; omega, hx.lo, fun _ => cmpS_ge.1 c50⟩
          · try (exact absurd c33 (by decide))
            all_goals (first | replace c33 := of_decide_eq_false c33 | replace c33 := sbeq_f c33 | replace c33 := sbne_f c33 | replace c33 := ibeq_f c33 | replace c33 := ibne_f c33 | replace c33 := ndec_f c33 | replace c33 := not_f c33 | skip)
            all_goals
              have hsr : Srch1 ys a (a + 1) b z.1 z.1 := by
                have e : z.1 = z.2 := by omega
                have h := hx
                rw [← e] at h
                exact h
            all_goals (refine k_exit rfl ?_)
            all_goals (refine k_seq ?_)
            all_goals (refine k_seq ?_)
            all_goals refine k_region ?_
            all_goals refine j_move ?_
            all_goals refine j_assignL (fun _ => ?_)
            all_goals refine l_nil ?_
            all_goals (refine k_block ?_)
            all_goals
              refine k_loopF [13, 55, 56, 57, 58, 59, 60, 61, 62, 63, 64, 65, 66, 67, 68, 69, 70, 71, 72, 73, 74, 75, 76] (fun k => [(13, .int .i64 ((k : Nat) : Int))]) (fun k => a ≤ k ∧ k ≤ z.1 - 1) (fun _ => _) (fun _ => _) (fun k => [⟨p, prC (rotL ys a (a + 1) (k + 1)), c, 37, 2⟩]) (fun k => z.1 - k) (a) (by decide) (fun _ => by exact rfl) ?_ (⟨Nat.le_refl _, by omega⟩) (fun w hw => by rw [rotL_same (by omega)]; exact hw.back) (fun k f hx => ?_)
              · repeat (first | exact knows_nil _ | refine knows_cons (by first | exact rfl | (conv => { lhs; whnf }; simp; done)) ?_)
              dsimp only [mkU, List.map, List.cons_append, List.nil_append]
              have r1 := rotL_len (ys := ys) (a := a) (m := a + 1) (b := k + 1) (by omega) (by omega) (by omega)
              have r2 : ((rotL ys a (a + 1) (k + 1)).set k ((rotL ys a (a + 1) (k + 1)).getD (k + 1) (⟨#[]⟩, 0))).length = ys.length := by rw [List.length_set]; exact r1
              all_goals (refine k_seq ?_)
              all_goals (refine k_seq ?_)
              all_goals refine k_region ?_
              all_goals refine j_move ?_
              all_goals refine j_move ?_
              all_goals refine l_quiet (by first | exact o_dec (by exact rfl) (by exact rfl) (by omega) (by omega) | exact o_subN (by exact rfl) (by exact rfl) (by omega) (by omega)) rfl ?_
              all_goals refine j_lss ?_
              all_goals refine l_nil ?_
              all_goals
                refine k_cond (by exact rfl) (fun c58 => ?_) (fun c58 => ?_)
                · try (exact absurd c58 (by decide))
                  all_goals (first | replace c58 := of_decide_eq_true c58 | replace c58 := sbeq_t c58 | replace c58 := sbne_t c58 | replace c58 := ibeq_t c58 | replace c58 := ibne_t c58 | replace c58 := ndec_t c58 | replace c58 := not_t c58 | skip)
                  all_goals (refine k_skip ?_)
                  all_goals (refine k_seq ?_)
                  all_goals (refine k_block ?_)
                  all_goals refine k_drawF (.one 0 [] (.one 1 [] (.one 2 [] (.one 3 [] (.one 4 [] (.one 5 [] (.one 6 [] (.one 7 [] (.one 8 [] (.one 9 [] (.one 10 [] (.one 11 [] (.one 12 [] (.one 13 [] (.one 14 [] (.one 15 [12] (.one 16 [] (.one 17 [] .nil)))))))))))))))))) ?_
                  all_goals (refine r_move (i := 0) ?_)
                  all_goals (refine r_move (i := 1) ?_)
                  all_goals (refine r_move (i := 2) ?_)
                  all_goals (refine r_move (i := 3) ?_)
                  all_goals (refine r_ownP (i := 4) (hq := (by first | exact o_inc (by exact rfl) (by exact rfl) (by omega) | exact o_addN (by exact rfl) (by exact rfl) (by omega))) (h := ?_))
                  all_goals (refine r_move (i := 5) ?_)
                  all_goals (refine r_move (i := 6) ?_)
                  all_goals (refine r_ownP (i := 7) (hq := (by first | exact o_inc (by exact rfl) (by exact rfl) (by omega) | exact o_addN (by exact rfl) (by exact rfl) (by omega))) (h := ?_))
                  all_goals (refine r_indexAddr (i := 8) ?_)
                  all_goals (refine r_load (i := 9) ?_)
                  all_goals (refine r_move (i := 10) ?_)
                  all_goals (refine r_move (i := 11) ?_)
                  all_goals (refine r_indexAddr (i := 12) ?_)
                  all_goals (refine r_load (i := 13) ?_)
                  all_goals (refine r_indexAddr (i := 14) ?_)
                  all_goals (refine r_own0 (i := 15) (hq := (Loud.convO (o_storeQ (by exact rfl) (by exact rfl) (by exact agg_of rfl) (by repeat (first | exact OAt.head | apply OAt.tail)) (by omega)) (by intro x; simp only [setO]; exact rfl))) (hfire := (fun _ => by first | (refine FireAll.cons (by first | exact a_indexAddr | exact a_un) ?_; exact FireAll.nil) | (refine fireall_fact ?_; refine FireAll.cons (by first | exact a_indexAddr | exact a_un) ?_; exact FireAll.nil))) (h := fun _ => ?_))
                  all_goals (refine r_indexAddr (i := 16) ?_)
                  all_goals (refine r_own0 (i := 17) (hq := (Loud.convO (o_storeQ (by exact rfl) (by exact rfl) (by exact agg_of rfl) (by repeat (first | exact OAt.head | apply OAt.tail)) (by omega)) (by intro x; simp only [setO]; exact rfl))) (hfire := (fun _ => .nil)) (h := fun _ => ?_))
                  all_goals refine r_fin ?_
                  all_goals (refine k_blk ?_)
                  all_goals refine k_region ?_
                  all_goals refine j_move ?_
                  all_goals refine l_quiet (by first | exact o_inc (by exact rfl) (by exact rfl) (by omega) | exact o_addN (by exact rfl) (by exact rfl) (by omega)) rfl ?_
                  all_goals refine j_assignL (fun _ => ?_)
                  all_goals refine l_nil ?_
                  all_goals
                    refine k_roundF (k + 1) ?_ ?_ (by repeat (first | (with_reducible exact Pre.refl) | refine Pre.cons (by exact rfl) ?_)) ?_ (fun w hw => by rw [← mu_step (by omega) (by omega)]; exact hw.back)
                    · first | omega | (simp only []; omega)
                    · repeat' (first | exact knows_nil _ | refine knows_cons ?_ ?_)
                      all_goals (first | exact rfl | (conv => { lhs; whnf }; simp; done) | (conv => { lhs; whnf }; congr 1; omega))
                    · omega
                · try (exact absurd c58 (by decide))
                  all_goals (first | replace c58 := of_decide_eq_false c58 | replace c58 := sbeq_f c58 | replace c58 := sbne_f c58 | replace c58 := ibeq_f c58 | replace c58 := ibne_f c58 | replace c58 := ndec_f c58 | replace c58 := not_f c58 | skip)
                  all_goals (refine k_exit rfl ?_)
                  all_goals
                    refine k_retvF Try.results131 .nil (fun w hw => ?_)
                    have hk2 : k + 1 = z.1 := by omega
                    rw [hk2] at hw
                    exact ⟨_, rfl, hsr.ms (by omega) hs2, hw.finH⟩
    · try (exact absurd c28 (by decide))
      all_goals (first | replace c28 := of_decide_eq_false c28 | replace c28 := sbeq_f c28 | replace c28 := sbne_f c28 | replace c28 := ibeq_f c28 | replace c28 := ibne_f c28 | replace c28 := ndec_f c28 | replace c28 := not_f c28 | skip)
      all_goals (refine k_skip ?_)
      all_goals (refine k_seq ?_)
      all_goals (refine k_seq ?_)
      all_goals refine k_region ?_
      all_goals refine j_move ?_
      all_goals refine j_move ?_
      all_goals refine l_quiet (by first | exact o_dec (by exact rfl) (by exact rfl) (by omega) (by omega) | exact o_subN (by exact rfl) (by exact rfl) (by omega) (by omega)) rfl ?_
      all_goals refine j_eql ?_
      all_goals refine l_nil ?_
      all_goals
        refine k_cond (by exact rfl) (fun c80 => ?_) (fun c80 => ?_)
        · try (exact absurd c80 (by decide))
          all_goals (first | replace c80 := of_decide_eq_true c80 | replace c80 := sbeq_t c80 | replace c80 := sbne_t c80 | replace c80 := ibeq_t c80 | replace c80 := ibne_t c80 | replace c80 := ndec_t c80 | replace c80 := not_t c80 | skip)
          all_goals
            have hb1 : b = m + 1 := by omega
            subst hb1
          all_goals (refine k_seq ?_)
          all_goals refine k_region ?_
          all_goals refine j_move ?_
          all_goals refine j_assignL (fun _ => ?_)
          all_goals refine l_nil ?_
          all_goals (refine k_seq ?_)
          all_goals refine k_region ?_
          all_goals refine j_move ?_
          all_goals refine j_assignL (fun _ => ?_)
          all_goals refine l_nil ?_
          all_goals (refine k_seq ?_)
          all_goals (refine k_block ?_)
          all_goals
            refine k_loopF [14, 15, 16, 83, 84, 85, 86, 87, 88, 89, 90, 91, 92, 93, 94, 95, 96, 97, 98, 99, 100, 101, 102, 103, 104, 105, 106] (fun z : Nat × Nat => [(14, .int .i64 ((z.1 : Nat) : Int)), (15, .int .i64 ((z.2 : Nat) : Int))]) (fun z => Srch2 ys a m z.1 z.2) (fun _ => _) (fun _ => _) (fun z => [⟨p, prC ys, c, 37, 2⟩]) (fun z => z.2 - z.1) ((a, m)) (by decide) (fun _ => by exact rfl) ?_ (⟨Nat.le_refl _, by show a ≤ m; omega, Nat.le_refl _, fun h => absurd h (Nat.lt_irrefl _), fun h => absurd h (Nat.lt_irrefl _)⟩) (fun w hw => hw.back) (fun z f hx => ?_)
            · repeat (first | exact knows_nil _ | refine knows_cons (by first | exact rfl | (conv => { lhs; whnf }; simp; done)) ?_)
            dsimp only [mkU, List.map, List.cons_append, List.nil_append]
            have q1 := hx.i1
            have q2 := hx.ij
            have q3 := hx.jb
            all_goals (refine k_seq ?_)
            all_goals (refine k_seq ?_)
            all_goals refine k_region ?_
            all_goals refine j_move ?_
            all_goals refine j_move ?_
            all_goals refine j_lss ?_
            all_goals refine l_nil ?_
            all_goals
              refine k_cond (by exact rfl) (fun c85 => ?_) (fun c85 => ?_)
              · try (exact absurd c85 (by decide))
                all_goals (first | replace c85 := of_decide_eq_true c85 | replace c85 := sbeq_t c85 | replace c85 := sbne_t c85 | replace c85 := ibeq_t c85 | replace c85 := ibne_t c85 | replace c85 := ndec_t c85 | replace c85 := not_t c85 | skip)
                all_goals (refine k_skip ?_)
                all_goals (refine k_block ?_)
                all_goals (refine k_seq ?_)
                all_goals refine k_region ?_
                all_goals refine j_move ?_
                all_goals refine j_move ?_
                all_goals refine l_quiet (by first | exact o_inc (by exact rfl) (by exact rfl) (by omega) | exact o_addN (by exact rfl) (by exact rfl) (by omega)) rfl ?_
                all_goals refine j_convert ?_
                all_goals refine l_quiet (o_half (n := z.1 + z.2) (by exact rfl) (by exact rfl) (by omega)) rfl ?_
                all_goals refine j_convert ?_
                all_goals refine j_assignL (fun _ => ?_)
                all_goals refine l_nil ?_
                all_goals (refine k_seq ?_)
                all_goals refine k_drawF (.one 0 [] (.one 1 [] (.one 2 [] (.one 3 [] (.one 4 [] (.one 5 [] (.one 6 [] (.one 7 [] (.one 8 [] (.one 9 [3, 7] (.one 10 [] (.one 11 [] .nil)))))))))))) ?_
                all_goals (refine r_move (i := 0) ?_)
                all_goals (refine r_move (i := 1) ?_)
                all_goals (refine r_move (i := 2) ?_)
                all_goals (refine r_indexAddr (i := 3) ?_)
                all_goals (refine r_load (i := 4) ?_)
                all_goals (refine r_move (i := 5) ?_)
                all_goals (refine r_move (i := 6) ?_)
                all_goals (refine r_indexAddr (i := 7) ?_)
                all_goals (refine r_load (i := 8) ?_)
                all_goals ((refine r_own (i := 9) (hq := (by first | exact cVd (by exact rfl) (by (repeat (first | exact evL_nil _ | (apply evL_cons; focus ((conv => { lhs; whnf }); try exact rfl)))); first | done | fail) (by kernel_rfl) (fun w1 hw => of1_c (ys.getD ((z.1 + z.2) / 2) (⟨#[]⟩, 0)) (ys.getD a (⟨#[]⟩, 0)) w1) | exact cVd (by exact rfl) (by (repeat (first | exact evL_nil _ | (apply evL_cons; focus ((conv => { lhs; whnf }); try exact rfl)))); first | done | fail) (by kernel_rfl) (fun w1 hw => of1_c (ys.getD m (⟨#[]⟩, 0)) (ys.getD ((z.1 + z.2) / 2) (⟨#[]⟩, 0)) w1) | exact cVd (by exact rfl) (by (repeat (first | exact evL_nil _ | (apply evL_cons; focus ((conv => { lhs; whnf }); try exact rfl)))); first | done | fail) (by kernel_rfl) (fun w1 hw => of1_c (ys.getD (mid + m - 1 - (z.1 + z.2) / 2) (⟨#[]⟩, 0)) (ys.getD ((z.1 + z.2) / 2) (⟨#[]⟩, 0)) w1))) (hfire := (fun _ => by first | (refine FireAll.cons (by first | exact a_indexAddr | exact a_un) ?_; refine FireAll.cons (by first | exact a_indexAddr | exact a_un) ?_; exact FireAll.nil) | (refine fireall_fact ?_; refine FireAll.cons (by first | exact a_indexAddr | exact a_un) ?_; refine FireAll.cons (by first | exact a_indexAddr | exact a_un) ?_; exact FireAll.nil))) (h := fun x101 => ?_); try (refine r_fact (fun h101 => ?_))))
                all_goals (refine r_lss (i := 10) ?_)
                all_goals (refine r_not (i := 11) ?_)
                all_goals refine r_fin ?_
                all_goals
                  refine k_cond (by exact rfl) (fun c103 => ?_) (fun c103 => ?_)
                  · try (exact absurd c103 (by decide))
                    all_goals (first | replace c103 := of_decide_eq_true c103 | replace c103 := sbeq_t c103 | replace c103 := sbne_t c103 | replace c103 := ibeq_t c103 | replace c103 := ibne_t c103 | replace c103 := ndec_t c103 | replace c103 := not_t c103 | skip)
                    all_goals refine k_region ?_
                    all_goals refine j_move ?_
                    all_goals refine l_quiet (by first | exact o_inc (by exact rfl) (by exact rfl) (by omega) | exact o_addN (by exact rfl) (by exact rfl) (by omega)) rfl ?_
                    all_goals refine j_assignL (fun _ => ?_)
                    all_goals refine l_nil ?_
                    all_goals (refine k_blk ?_)
                    all_goals
                      refine k_roundF ((by first | exact lfst (p := ¬ cmpS _ _ < 0) c103 ((z.1 + z.2) / 2 + 1, z.2) | exact (z.1, (z.1 + z.2) / 2))) ?_ ?_ (by repeat (first | (with_reducible exact Pre.refl) | refine Pre.cons (by exact rfl) ?_)) ?_ (fun w hw => hw.back)
                      · first | omega | (simp only []; omega)
                      · repeat' (first | exact knows_nil _ | refine knows_cons ?_ ?_)
                        all_goals (first | exact rfl | (conv => { lhs; whnf }; simp; done) | (conv => { lhs; whnf }; congr 1; omega))
                      · first
                        | exact ⟨by show a ≤ (z.1 + z.2) / 2 + 1; omega, by show (z.1 + z.2) / 2 + 1 ≤ z.2; omega, q3, fun _ => cmpS_ge.1 c103, hx.hi⟩
                        | exact ⟨q1, by show z.1 ≤ (z.1 + z.2) / 2; omega, by show (z.1 + z.2) / 2 ≤ m; omega, hx.lo, fun _ => cmpS_lt.1 (by simpa using c103)⟩
                  · try (exact absurd c103 (by decide))
                    all_goals (first | replace c103 := of_decide_eq_false c103 | replace c103 := sbeq_f c103 | replace c103 := sbne_f c103 | replace c103 := ibeq_f c103 | replace c103 := ibne_f c103 | replace c103 := ndec_f c103 | replace c103 := not_f c103 | skip)
                    all_goals refine k_region ?_
                    all_goals refine j_move ?_
                    all_goals refine j_assignL (fun _ => ?_)
                    all_goals refine l_nil ?_
                    all_goals (refine k_blk ?_)
                    all_goals
                      refine k_roundF ((by first | exact lfst (p := ¬ cmpS _ _ < 0) c103 ((z.1 + z.2) / 2 + 1, z.2) | exact (z.1, (z.1 + z.2) / 2))) ?_ ?_ (by repeat (first | (with_reducible exact Pre.refl) | refine Pre.cons (by exact rfl) ?_)) ?_ (fun w hw => hw.back)
                      · first | omega | (simp only []; omega)
                      · repeat' (first | exact knows_nil _ | refine knows_cons ?_ ?_)
                        all_goals (first | exact rfl | (conv => { lhs; whnf }; simp; done) | (conv => { lhs; whnf }; congr 1; omega))
                      · first
                        | exact ⟨by show a ≤ (z.1 + z.2) / 2 + 1; omega, by show (z.1 + z.2) / 2 + 1 ≤ z.2; omega, q3, fun _ => cmpS_ge.1 c103, hx.hi⟩
                        | exact ⟨q1, by show z.1 ≤ (z.1 + z.2) / 2; omega, by show (z.1 + z.2) / 2 ≤ m; omega, hx.lo, fun _ => cmpS_lt.1 (by simpa using c103)⟩
              · try (exact absurd c85 (by decide))
                all_goals (first | replace c85 := of_decide_eq_false c85 | replace c85 := sbeq_f c85 | replace c85 := sbne_f c85 | replace c85 := ibeq_f c85 | replace c85 := ibne_f c85 | replace c85 := ndec_f c85 | replace c85 := not_f c85 | skip)
                all_goals
                  have hsr : Srch2 ys a m z.1 z.1 := by
                    have e : z.1 = z.2 := by omega
                    have h := hx
                    rw [← e] at h
                    exact h
                all_goals (refine k_exit rfl ?_)
                all_goals (refine k_seq ?_)
                all_goals (refine k_seq ?_)
                all_goals refine k_region ?_
                all_goals refine j_move ?_
                all_goals refine j_assignL (fun _ => ?_)
                all_goals refine l_nil ?_
                all_goals (refine k_block ?_)
                all_goals
                  refine k_loopF [17, 108, 109, 110, 111, 112, 113, 114, 115, 116, 117, 118, 119, 120, 121, 122, 123, 124, 125, 126, 127, 128] (fun k => [(17, .int .i64 ((k : Nat) : Int))]) (fun k => z.1 ≤ k ∧ k ≤ m) (fun _ => _) (fun _ => _) (fun k => [⟨p, prC (rotL ys k m (m + 1)), c, 37, 2⟩]) (fun k => k) (m) (by decide) (fun _ => by exact rfl) ?_ (⟨by show z.1 ≤ m; omega, Nat.le_refl _⟩) (fun w hw => by rw [rotL_same0 (by omega)]; exact hw.back) (fun k f hx => ?_)
                  · repeat (first | exact knows_nil _ | refine knows_cons (by first | exact rfl | (conv => { lhs; whnf }; simp; done)) ?_)
                  dsimp only [mkU, List.map, List.cons_append, List.nil_append]
                  have r1 := rotL_len (ys := ys) (a := k) (m := m) (b := m + 1) (by omega) (by omega) (by omega)
                  have r2 : ((rotL ys k m (m + 1)).set k ((rotL ys k m (m + 1)).getD (k - 1) (⟨#[]⟩, 0))).length = ys.length := by rw [List.length_set]; exact r1
                  all_goals (refine k_seq ?_)
                  all_goals (refine k_seq ?_)
                  all_goals refine k_region ?_
                  all_goals refine j_move ?_
                  all_goals refine j_move ?_
                  all_goals refine j_gtr ?_
                  all_goals refine l_nil ?_
                  all_goals
                    refine k_cond (by exact rfl) (fun c110 => ?_) (fun c110 => ?_)
                    · try (exact absurd c110 (by decide))
                      all_goals (first | replace c110 := of_decide_eq_true c110 | replace c110 := sbeq_t c110 | replace c110 := sbne_t c110 | replace c110 := ibeq_t c110 | replace c110 := ibne_t c110 | replace c110 := ndec_t c110 | replace c110 := not_t c110 | skip)
                      all_goals (refine k_skip ?_)
                      all_goals (refine k_seq ?_)
                      all_goals (refine k_block ?_)
                      all_goals refine k_drawF (.one 0 [] (.one 1 [] (.one 2 [] (.one 3 [] (.one 4 [] (.one 5 [] (.one 6 [] (.one 7 [] (.one 8 [] (.one 9 [] (.one 10 [] (.one 11 [] (.one 12 [] (.one 13 [] (.one 14 [] (.one 15 [12] (.one 16 [] (.one 17 [] .nil)))))))))))))))))) ?_
                      all_goals (refine r_move (i := 0) ?_)
                      all_goals (refine r_move (i := 1) ?_)
                      all_goals (refine r_move (i := 2) ?_)
                      all_goals (refine r_move (i := 3) ?_)
                      all_goals (refine r_ownP (i := 4) (hq := (by first | exact o_dec (by exact rfl) (by exact rfl) (by omega) (by omega) | exact o_subN (by exact rfl) (by exact rfl) (by omega) (by omega))) (h := ?_))
                      all_goals (refine r_move (i := 5) ?_)
                      all_goals (refine r_move (i := 6) ?_)
                      all_goals (refine r_ownP (i := 7) (hq := (by first | exact o_dec (by exact rfl) (by exact rfl) (by omega) (by omega) | exact o_subN (by exact rfl) (by exact rfl) (by omega) (by omega))) (h := ?_))
                      all_goals (refine r_indexAddr (i := 8) ?_)
                      all_goals (refine r_load (i := 9) ?_)
                      all_goals (refine r_move (i := 10) ?_)
                      all_goals (refine r_move (i := 11) ?_)
                      all_goals (refine r_indexAddr (i := 12) ?_)
                      all_goals (refine r_load (i := 13) ?_)
                      all_goals (refine r_indexAddr (i := 14) ?_)
                      all_goals (refine r_own0 (i := 15) (hq := (Loud.convO (o_storeQ (by exact rfl) (by exact rfl) (by exact agg_of rfl) (by repeat (first | exact OAt.head | apply OAt.tail)) (by omega)) (by intro x; simp only [setO]; exact rfl))) (hfire := (fun _ => by first | (refine FireAll.cons (by first | exact a_indexAddr | exact a_un) ?_; exact FireAll.nil) | (refine fireall_fact ?_; refine FireAll.cons (by first | exact a_indexAddr | exact a_un) ?_; exact FireAll.nil))) (h := fun _ => ?_))
                      all_goals (refine r_indexAddr (i := 16) ?_)
                      all_goals (refine r_own0 (i := 17) (hq := (Loud.convO (o_storeQ (by exact rfl) (by exact rfl) (by exact agg_of rfl) (by repeat (first | exact OAt.head | apply OAt.tail)) (by omega)) (by intro x; simp only [setO]; exact rfl))) (hfire := (fun _ => .nil)) (h := fun _ => ?_))
                      all_goals refine r_fin ?_
                      all_goals (refine k_blk ?_)
                      all_goals refine k_region ?_
                      all_goals refine j_move ?_
                      all_goals refine l_quiet (by first | exact o_dec (by exact rfl) (by exact rfl) (by omega) (by omega) | exact o_subN (by exact rfl) (by exact rfl) (by omega) (by omega)) rfl ?_
                      all_goals refine j_assignL (fun _ => ?_)
                      all_goals refine l_nil ?_
                      all_goals
                        refine k_roundF (k - 1) ?_ ?_ (by repeat (first | (with_reducible exact Pre.refl) | refine Pre.cons (by exact rfl) ?_)) ?_ (fun w hw => by
have hms := mv_step (ys := ys) (k := k - 1) (m := m) (by omega) (by omega)
rw [show k - 1 + 1 = k by omega] at hms
rw [← hms]; exact hw.back)
                        · first | omega | (simp only []; omega)
                        · repeat' (first | exact knows_nil _ | refine knows_cons ?_ ?_)
                          all_goals (first | exact rfl | (conv => { lhs; whnf }; simp; done) | (conv => { lhs; whnf }; congr 1; omega))
                        · omega
                    · try (exact absurd c110 (by decide))
                      all_goals (first | replace c110 := of_decide_eq_false c110 | replace c110 := sbeq_f c110 | replace c110 := sbne_f c110 | replace c110 := ibeq_f c110 | replace c110 := ibne_f c110 | replace c110 := ndec_f c110 | replace c110 := not_f c110 | skip)
                      all_goals (refine k_exit rfl ?_)
                      all_goals
                        refine k_retvF Try.results131 .nil (fun w hw => ?_)
                        have hk : k = z.1 := by omega
                        rw [hk] at hw
                        exact ⟨_, rfl, hsr.ms (by omega) hs1, hw.finH⟩
        · try (exact absurd c80 (by decide))
          all_goals (first | replace c80 := of_decide_eq_false c80 | replace c80 := sbeq_f c80 | replace c80 := sbne_f c80 | replace c80 := ibeq_f c80 | replace c80 := ibne_f c80 | replace c80 := ndec_f c80 | replace c80 := not_f c80 | skip)
          all_goals (refine k_skip ?_)
          all_goals (refine k_seq ?_)
          all_goals refine k_region ?_
          all_goals refine j_move ?_
          all_goals refine j_move ?_
          all_goals refine l_quiet (by first | exact o_inc (by exact rfl) (by exact rfl) (by omega) | exact o_addN (by exact rfl) (by exact rfl) (by omega)) rfl ?_
          all_goals refine j_convert ?_
          all_goals refine l_quiet ((hmid ▸ o_half (n := a + b) (by exact rfl) (by exact rfl) (by omega))) rfl ?_
          all_goals refine j_convert ?_
          all_goals refine j_assignL (fun _ => ?_)
          all_goals refine l_nil ?_
          all_goals (refine k_seq ?_)
          all_goals refine k_region ?_
          all_goals refine j_move ?_
          all_goals refine j_move ?_
          all_goals refine l_quiet (by first | exact o_inc (by exact rfl) (by exact rfl) (by omega) | exact o_addN (by exact rfl) (by exact rfl) (by omega)) rfl ?_
          all_goals refine j_assignL (fun _ => ?_)
          all_goals refine l_nil ?_
          all_goals (refine k_seq ?_)
          all_goals refine k_region ?_
          all_goals refine j_assignL (fun _ => ?_)
          all_goals refine j_assignL (fun _ => ?_)
          all_goals refine l_nil ?_
          all_goals (refine k_seq ?_)
          all_goals (refine k_seq ?_)
          all_goals refine k_region ?_
          all_goals refine j_move ?_
          all_goals refine j_move ?_
          all_goals refine j_gtr ?_
          all_goals refine l_nil ?_
          all_goals
            refine k_cond (by exact rfl) (fun c140 => ?_) (fun c140 => ?_)
            · try (exact absurd c140 (by decide))
              all_goals (first | replace c140 := of_decide_eq_true c140 | replace c140 := sbeq_t c140 | replace c140 := sbne_t c140 | replace c140 := ibeq_t c140 | replace c140 := ibne_t c140 | replace c140 := ndec_t c140 | replace c140 := not_t c140 | skip)
              all_goals (refine k_seq ?_)
              all_goals refine k_region ?_
              all_goals refine j_move ?_
              all_goals refine j_move ?_
              all_goals refine l_quiet (by first | exact o_dec (by exact rfl) (by exact rfl) (by omega) (by omega) | exact o_subN (by exact rfl) (by exact rfl) (by omega) (by omega)) rfl ?_
              all_goals refine j_assignL (fun _ => ?_)
              all_goals refine l_nil ?_
              all_goals refine k_region ?_
              all_goals refine j_move ?_
              all_goals refine j_assignL (fun _ => ?_)
              all_goals refine l_nil ?_
              all_goals (refine k_seq ?_)
              all_goals refine k_region ?_
              all_goals refine j_move ?_
              all_goals refine l_quiet (by first | exact o_dec (by exact rfl) (by exact rfl) (by omega) (by omega) | exact o_subN (by exact rfl) (by exact rfl) (by omega) (by omega)) rfl ?_
              all_goals refine j_assignL (fun _ => ?_)
              all_goals refine l_nil ?_
              all_goals (refine k_seq ?_)
              all_goals (refine k_block ?_)
              all_goals
                refine k_loopF [20, 21, 23, 149, 150, 151, 152, 153, 154, 155, 156, 157, 158, 159, 160, 161, 162, 163, 164, 165, 166, 167, 168, 169, 170, 171, 172, 173, 174] (fun z : Nat × Nat => [(20, .int .i64 ((z.1 : Nat) : Int)), (21, .int .i64 ((z.2 : Nat) : Int))]) (fun z => Srch ys a m b mid z.1 z.2) (fun _ => _) (fun _ => _) (fun z => [⟨p, prC ys, c, 37, 2⟩]) (fun z => z.2 - z.1) ((by first | exact lfst (p := ((m : Nat) : Int) > ((mid : Nat) : Int)) c140 (mid + m - b, mid) | exact (a, m))) (by decide) (fun _ => by exact rfl) ?_ ((by first | exact ⟨by show a ≤ mid + m - b; omega, by show mid + m ≤ mid + m - b + b; omega, by show mid + m - b ≤ mid; omega, by show mid ≤ m; omega, Nat.le_refl _, fun _ h => by exfalso; have h : mid + m < mid + m - b + b := h; omega, fun _ h => absurd h (Nat.lt_irrefl _)⟩ | exact ⟨Nat.le_refl _, by show mid + m ≤ a + b; omega, by show a ≤ m; omega, Nat.le_refl _, by show m ≤ mid; omega, fun h => absurd h (Nat.lt_irrefl _), fun h => absurd h (Nat.lt_irrefl _)⟩)) (fun w hw => hw.back) (fun z f hx => ?_)
                · repeat (first | exact knows_nil _ | refine knows_cons (by first | exact rfl | (conv => { lhs; whnf }; simp; done)) ?_)
                dsimp only [mkU, List.map, List.cons_append, List.nil_append]
                have q1 := hx.s1
                have q2 := hx.s2
                have q3 := hx.sr
                have q4 := hx.r1
                have q5 := hx.r2
                all_goals (refine k_seq ?_)
                all_goals (refine k_seq ?_)
                all_goals refine k_region ?_
                all_goals refine j_move ?_
                all_goals refine j_move ?_
                all_goals refine j_lss ?_
                all_goals refine l_nil ?_
                all_goals
                  refine k_cond (by exact rfl) (fun c151 => ?_) (fun c151 => ?_)
                  · try (exact absurd c151 (by decide))
                    all_goals (first | replace c151 := of_decide_eq_true c151 | replace c151 := sbeq_t c151 | replace c151 := sbne_t c151 | replace c151 := ibeq_t c151 | replace c151 := ibne_t c151 | replace c151 := ndec_t c151 | replace c151 := not_t c151 | skip)
                    all_goals (refine k_skip ?_)
                    all_goals (refine k_block ?_)
                    all_goals (refine k_seq ?_)
                    all_goals refine k_region ?_
                    all_goals refine j_move ?_
                    all_goals refine j_move ?_
                    all_goals refine l_quiet (by first | exact o_inc (by exact rfl) (by exact rfl) (by omega) | exact o_addN (by exact rfl) (by exact rfl) (by omega)) rfl ?_
                    all_goals refine j_convert ?_
                    all_goals refine l_quiet (o_half (n := z.1 + z.2) (by exact rfl) (by exact rfl) (by omega)) rfl ?_
                    all_goals refine j_convert ?_
                    all_goals refine j_assignL (fun _ => ?_)
                    all_goals refine l_nil ?_
                    all_goals (refine k_seq ?_)
                    all_goals refine k_drawF (.one 0 [] (.one 1 [] (.one 2 [] (.one 3 [] (.one 4 [] (.one 5 [] (.one 6 [] (.one 7 [] (.one 8 [] (.one 9 [] (.one 10 [] (.one 11 [5, 9] (.one 12 [] (.one 13 [] .nil)))))))))))))) ?_
                    all_goals (refine r_move (i := 0) ?_)
                    all_goals (refine r_move (i := 1) ?_)
                    all_goals (refine r_move (i := 2) ?_)
                    all_goals (refine r_move (i := 3) ?_)
                    all_goals (refine r_ownP (i := 4) (hq := (by first | exact o_dec (by exact rfl) (by exact rfl) (by omega) (by omega) | exact o_subN (by exact rfl) (by exact rfl) (by omega) (by omega))) (h := ?_))
                    all_goals (refine r_indexAddr (i := 5) ?_)
                    all_goals (refine r_load (i := 6) ?_)
                    all_goals (refine r_move (i := 7) ?_)
                    all_goals (refine r_move (i := 8) ?_)
                    all_goals (refine r_indexAddr (i := 9) ?_)
                    all_goals (refine r_load (i := 10) ?_)
                    all_goals ((refine r_own (i := 11) (hq := (by first | exact cVd (by exact rfl) (by (repeat (first | exact evL_nil _ | (apply evL_cons; focus ((conv => { lhs; whnf }); try exact rfl)))); first | done | fail) (by kernel_rfl) (fun w1 hw => of1_c (ys.getD ((z.1 + z.2) / 2) (⟨#[]⟩, 0)) (ys.getD a (⟨#[]⟩, 0)) w1) | exact cVd (by exact rfl) (by (repeat (first | exact evL_nil _ | (apply evL_cons; focus ((conv => { lhs; whnf }); try exact rfl)))); first | done | fail) (by kernel_rfl) (fun w1 hw => of1_c (ys.getD m (⟨#[]⟩, 0)) (ys.getD ((z.1 + z.2) / 2) (⟨#[]⟩, 0)) w1) | exact cVd (by exact rfl) (by (repeat (first | exact evL_nil _ | (apply evL_cons; focus ((conv => { lhs; whnf }); try exact rfl)))); first | done | fail) (by kernel_rfl) (fun w1 hw => of1_c (ys.getD (mid + m - 1 - (z.1 + z.2) / 2) (⟨#[]⟩, 0)) (ys.getD ((z.1 + z.2) / 2) (⟨#[]⟩, 0)) w1))) (hfire := (fun _ => by first | (refine FireAll.cons (by first | exact a_indexAddr | exact a_un) ?_; refine FireAll.cons (by first | exact a_indexAddr | exact a_un) ?_; exact FireAll.nil) | (refine fireall_fact ?_; refine FireAll.cons (by first | exact a_indexAddr | exact a_un) ?_; refine FireAll.cons (by first | exact a_indexAddr | exact a_un) ?_; exact FireAll.nil))) (h := fun x169 => ?_); try (refine r_fact (fun h169 => ?_))))
                    all_goals (refine r_lss (i := 12) ?_)
                    all_goals (refine r_not (i := 13) ?_)
                    all_goals refine r_fin ?_
                    all_goals
                      refine k_cond (by exact rfl) (fun c171 => ?_) (fun c171 => ?_)
                      · try (exact absurd c171 (by decide))
                        all_goals (first | replace c171 := of_decide_eq_true c171 | replace c171 := sbeq_t c171 | replace c171 := sbne_t c171 | replace c171 := ibeq_t c171 | replace c171 := ibne_t c171 | replace c171 := ndec_t c171 | replace c171 := not_t c171 | skip)
                        all_goals refine k_region ?_
                        all_goals refine j_move ?_
                        all_goals refine l_quiet (by first | exact o_inc (by exact rfl) (by exact rfl) (by omega) | exact o_addN (by exact rfl) (by exact rfl) (by omega)) rfl ?_
                        all_goals refine j_assignL (fun _ => ?_)
                        all_goals refine l_nil ?_
                        all_goals (refine k_blk ?_)
                        all_goals
                          refine k_roundF ((by first | exact lfst (p := ¬ cmpS _ _ < 0) c171 ((z.1 + z.2) / 2 + 1, z.2) | exact (z.1, (z.1 + z.2) / 2))) ?_ ?_ (by repeat (first | (with_reducible exact Pre.refl) | refine Pre.cons (by exact rfl) ?_)) ?_ (fun w hw => hw.back)
                          · first | omega | (simp only []; omega)
                          · repeat' (first | exact knows_nil _ | refine knows_cons ?_ ?_)
                            all_goals (first | exact rfl | (conv => { lhs; whnf }; simp; done) | (conv => { lhs; whnf }; congr 1; omega))
                          · first
                            | exact ⟨by show a ≤ (z.1 + z.2) / 2 + 1; omega, by show mid + m ≤ (z.1 + z.2) / 2 + 1 + b; omega, by show (z.1 + z.2) / 2 + 1 ≤ z.2; omega, q4, q5, fun _ _ => by show sless (ys.getD (mid + m - ((z.1 + z.2) / 2 + 1)) (⟨#[]⟩, 0)).1 (ys.getD ((z.1 + z.2) / 2 + 1 - 1) (⟨#[]⟩, 0)).1 = false; rw [Nat.add_sub_cancel, show mid + m - ((z.1 + z.2) / 2 + 1) = mid + m - 1 - (z.1 + z.2) / 2 by omega]; exact cmpS_ge.1 c171, hx.hi⟩
                            | exact ⟨q1, q2, by show z.1 ≤ (z.1 + z.2) / 2; omega, by show (z.1 + z.2) / 2 ≤ m; omega, by show (z.1 + z.2) / 2 ≤ mid; omega, hx.lo, fun _ _ => by show sless (ys.getD (mid + m - (z.1 + z.2) / 2 - 1) (⟨#[]⟩, 0)).1 (ys.getD ((z.1 + z.2) / 2) (⟨#[]⟩, 0)).1 = true; rw [show mid + m - (z.1 + z.2) / 2 - 1 = mid + m - 1 - (z.1 + z.2) / 2 by omega]; exact cmpS_lt.1 (by simpa using c171)⟩
                      · try (exact absurd c171 (by decide))
                        all_goals (first | replace c171 := of_decide_eq_false c171 | replace c171 := sbeq_f c171 | replace c171 := sbne_f c171 | replace c171 := ibeq_f c171 | replace c171 := ibne_f c171 | replace c171 := ndec_f c171 | replace c171 := not_f c171 | skip)
                        all_goals refine k_region ?_
                        all_goals refine j_move ?_
                        all_goals refine j_assignL (fun _ => ?_)
                        all_goals refine l_nil ?_
                        all_goals (refine k_blk ?_)
                        all_goals
                          refine k_roundF ((by first | exact lfst (p := ¬ cmpS _ _ < 0) c171 ((z.1 + z.2) / 2 + 1, z.2) | exact (z.1, (z.1 + z.2) / 2))) ?_ ?_ (by repeat (first | (with_reducible exact Pre.refl) | refine Pre.cons (by exact rfl) ?_)) ?_ (fun w hw => hw.back)
                          · first | omega | (simp only []; omega)
                          · repeat' (first | exact knows_nil _ | refine knows_cons ?_ ?_)
                            all_goals (first | exact rfl | (conv => { lhs; whnf }; simp; done) | (conv => { lhs; whnf }; congr 1; omega))
                          · first
                            | exact ⟨by show a ≤ (z.1 + z.2) / 2 + 1; omega, by show mid + m ≤ (z.1 + z.2) / 2 + 1 + b; omega, by show (z.1 + z.2) / 2 + 1 ≤ z.2; omega, q4, q5, fun _ _ => by show sless (ys.getD (mid + m - ((z.1 + z.2) / 2 + 1)) (⟨#[]⟩, 0)).1 (ys.getD ((z.1 + z.2) / 2 + 1 - 1) (⟨#[]⟩, 0)).1 = false; rw [Nat.add_sub_cancel, show mid + m - ((z.1 + z.2) / 2 + 1) = mid + m - 1 - (z.1 + z.2) / 2 by omega]; exact cmpS_ge.1 c171, hx.hi⟩
                            | exact ⟨q1, q2, by show z.1 ≤ (z.1 + z.2) / 2; omega, by show (z.1 + z.2) / 2 ≤ m; omega, by show (z.1 + z.2) / 2 ≤ mid; omega, hx.lo, fun _ _ => by show sless (ys.getD (mid + m - (z.1 + z.2) / 2 - 1) (⟨#[]⟩, 0)).1 (ys.getD ((z.1 + z.2) / 2) (⟨#[]⟩, 0)).1 = true; rw [show mid + m - (z.1 + z.2) / 2 - 1 = mid + m - 1 - (z.1 + z.2) / 2 by omega]; exact cmpS_lt.1 (by simpa using c171)⟩
                  · try (exact absurd c151 (by decide))
                    all_goals (first | replace c151 := of_decide_eq_false c151 | replace c151 := sbeq_f c151 | replace c151 := sbne_f c151 | replace c151 := ibeq_f c151 | replace c151 := ibne_f c151 | replace c151 := ndec_f c151 | replace c151 := not_f c151 | skip)
                    all_goals
                      have cut : Cut ys a m b mid z.1 := by
                        have e : z.1 = z.2 := by omega
                        have h := hx
                        rw [← e] at h
                        exact h.cut h1 h2 (by omega) hmid
                      have e1 := cut.e1
                      have e2 := cut.s3
                      have e3 := cut.len
                    all_goals (refine k_exit rfl ?_)
                    all_goals (refine k_seq ?_)
                    all_goals refine k_region ?_
                    all_goals refine j_move ?_
                    all_goals refine j_move ?_
                    all_goals refine l_quiet (by first | exact o_dec (by exact rfl) (by exact rfl) (by omega) (by omega) | exact o_subN (by exact rfl) (by exact rfl) (by omega) (by omega)) rfl ?_
                    all_goals refine j_assignL (fun _ => ?_)
                    all_goals refine l_nil ?_
                    all_goals (refine k_seq ?_)
                    all_goals (refine k_seq ?_)
                    all_goals refine k_region ?_
                    all_goals refine j_move ?_
                    all_goals refine j_move ?_
                    all_goals refine j_lss ?_
                    all_goals refine j_move ?_
                    all_goals (first | refine j_un ?_ | (refine j_yes ?_; refine j_move ?_) | (refine l_case (g := 181) (by exact rfl) (fun g181 => ?_) (fun g181 => ?_) <;> (first | replace g181 := of_decide_eq_true g181 | replace g181 := of_decide_eq_false g181 | skip) <;> (first | refine j_un ?_ | (refine j_yes ?_; refine j_move ?_))))
                    all_goals (first | refine j_un ?_ | (refine j_yes ?_; refine j_move ?_) | (refine l_case (g := 181) (by exact rfl) (fun g181 => ?_) (fun g181 => ?_) <;> (first | replace g181 := of_decide_eq_true g181 | replace g181 := of_decide_eq_false g181 | skip) <;> (first | refine j_un ?_ | (refine j_yes ?_; refine j_move ?_))))
                    all_goals (first | refine j_un ?_ | (refine j_yes ?_; refine j_lss ?_) | (refine l_case (g := 181) (by exact rfl) (fun g181 => ?_) (fun g181 => ?_) <;> (first | replace g181 := of_decide_eq_true g181 | replace g181 := of_decide_eq_false g181 | skip) <;> (first | refine j_un ?_ | (refine j_yes ?_; refine j_lss ?_))))
                    all_goals refine j_pick ?_
                    all_goals refine l_nil ?_
                    all_goals
                      refine k_cond (by exact rfl) (fun c185 => ?_) (fun c185 => ?_)
                      · try (exact absurd c185 (by decide))
                        all_goals (first | replace c185 := of_decide_eq_true c185 | replace c185 := sbeq_t c185 | replace c185 := sbne_t c185 | replace c185 := ibeq_t c185 | replace c185 := ibne_t c185 | replace c185 := ndec_t c185 | replace c185 := not_t c185 | skip)
                        all_goals refine k_region ?_
                        all_goals refine j_move ?_
                        all_goals refine j_move ?_
                        all_goals refine j_move ?_
                        all_goals refine j_move ?_
                        all_goals refine j_move ?_
                        all_goals (refine j_own (cFO (ho := (by repeat (first | exact OAt.head | apply OAt.tail))) (hc := fun w1 hw => rotate_c (a := z.1) (m := m) (b := mid + m - z.1) (hw.ow (by repeat (first | exact OAt.head | apply OAt.tail))) hN hl (by omega) (by omega) (by omega))) (fun x191 => ?_); try (refine l_fact (fun h191 => ?_)))
                        all_goals refine l_nil ?_
                        all_goals (refine k_seq ?_)
                        all_goals (refine k_seq ?_)
                        all_goals refine k_region ?_
                        all_goals refine j_move ?_
                        all_goals refine j_move ?_
                        all_goals refine j_lss ?_
                        all_goals refine j_move ?_
                        all_goals (first | refine j_un ?_ | (refine j_yes ?_; refine j_move ?_) | (refine l_case (g := 195) (by exact rfl) (fun g195 => ?_) (fun g195 => ?_) <;> (first | replace g195 := of_decide_eq_true g195 | replace g195 := of_decide_eq_false g195 | skip) <;> (first | refine j_un ?_ | (refine j_yes ?_; refine j_move ?_))))
                        all_goals (first | refine j_un ?_ | (refine j_yes ?_; refine j_move ?_) | (refine l_case (g := 195) (by exact rfl) (fun g195 => ?_) (fun g195 => ?_) <;> (first | replace g195 := of_decide_eq_true g195 | replace g195 := of_decide_eq_false g195 | skip) <;> (first | refine j_un ?_ | (refine j_yes ?_; refine j_move ?_))))
                        all_goals (first | refine j_un ?_ | (refine j_yes ?_; refine j_lss ?_) | (refine l_case (g := 195) (by exact rfl) (fun g195 => ?_) (fun g195 => ?_) <;> (first | replace g195 := of_decide_eq_true g195 | replace g195 := of_decide_eq_false g195 | skip) <;> (first | refine j_un ?_ | (refine j_yes ?_; refine j_lss ?_))))
                        all_goals refine j_pick ?_
                        all_goals refine l_nil ?_
                        all_goals
                          refine k_cond (by exact rfl) (fun c199 => ?_) (fun c199 => ?_)
                          · try (exact absurd c199 (by decide))
                            all_goals (first | replace c199 := of_decide_eq_true c199 | replace c199 := sbeq_t c199 | replace c199 := sbne_t c199 | replace c199 := ibeq_t c199 | replace c199 := ibne_t c199 | replace c199 := ndec_t c199 | replace c199 := not_t c199 | skip)
                            all_goals refine k_region ?_
                            all_goals refine j_move ?_
                            all_goals refine j_move ?_
                            all_goals refine j_move ?_
                            all_goals refine j_move ?_
                            all_goals refine j_move ?_
                            all_goals (refine j_own (by first | exact cFO (ho := (by repeat (first | exact OAt.head | apply OAt.tail))) (hc := fun w1 hw => ih (ys := rotL ys z.1 m (mid + m - z.1)) (a := a) (m := z.1) (b := mid) (by omega) (hw.ow (by repeat (first | exact OAt.head | apply OAt.tail))) (e3.trans hN) hl (by omega) (by omega) (by omega) (cut.p1 hs1) (cut.p2 hs2)) | exact cFO (ho := (by repeat (first | exact OAt.head | apply OAt.tail))) (hc := fun w1 hw => ih (ys := x205) (a := mid) (m := mid + m - z.1) (b := b) (by omega) (hw.ow (by repeat (first | exact OAt.head | apply OAt.tail))) (h205.2.len.trans (e3.trans hN)) hl (by omega) (by omega) (by omega) (SR.keep_hi h205.2 (Nat.le_refl _) (cut.p3 hs1)) (SR.keep_hi h205.2 (by omega) (cut.p4 hs2))) | exact cFO (ho := (by repeat (first | exact OAt.head | apply OAt.tail))) (hc := fun w1 hw => ih (ys := rotL ys z.1 m (mid + m - z.1)) (a := mid) (m := mid + m - z.1) (b := b) (by omega) (hw.ow (by repeat (first | exact OAt.head | apply OAt.tail))) (e3.trans hN) hl (by omega) (by omega) (by omega) (cut.p3 hs1) (cut.p4 hs2))) (fun x205 => ?_); try (refine l_fact (fun h205 => ?_)))
                            all_goals refine l_nil ?_
                            all_goals (refine k_seq ?_)
                            all_goals refine k_region ?_
                            all_goals refine j_move ?_
                            all_goals refine j_move ?_
                            all_goals refine j_lss ?_
                            all_goals refine j_move ?_
                            all_goals (first | refine j_un ?_ | (refine j_yes ?_; refine j_move ?_) | (refine l_case (g := 209) (by exact rfl) (fun g209 => ?_) (fun g209 => ?_) <;> (first | replace g209 := of_decide_eq_true g209 | replace g209 := of_decide_eq_false g209 | skip) <;> (first | refine j_un ?_ | (refine j_yes ?_; refine j_move ?_))))
                            all_goals (first | refine j_un ?_ | (refine j_yes ?_; refine j_move ?_) | (refine l_case (g := 209) (by exact rfl) (fun g209 => ?_) (fun g209 => ?_) <;> (first | replace g209 := of_decide_eq_true g209 | replace g209 := of_decide_eq_false g209 | skip) <;> (first | refine j_un ?_ | (refine j_yes ?_; refine j_move ?_))))
                            all_goals (first | refine j_un ?_ | (refine j_yes ?_; refine j_lss ?_) | (refine l_case (g := 209) (by exact rfl) (fun g209 => ?_) (fun g209 => ?_) <;> (first | replace g209 := of_decide_eq_true g209 | replace g209 := of_decide_eq_false g209 | skip) <;> (first | refine j_un ?_ | (refine j_yes ?_; refine j_lss ?_))))
                            all_goals refine j_pick ?_
                            all_goals refine l_nil ?_
                            all_goals
                              refine k_cond (by exact rfl) (fun c213 => ?_) (fun c213 => ?_)
                              · try (exact absurd c213 (by decide))
                                all_goals (first | replace c213 := of_decide_eq_true c213 | replace c213 := sbeq_t c213 | replace c213 := sbne_t c213 | replace c213 := ibeq_t c213 | replace c213 := ibne_t c213 | replace c213 := ndec_t c213 | replace c213 := not_t c213 | skip)
                                all_goals refine k_region ?_
                                all_goals refine j_move ?_
                                all_goals refine j_move ?_
                                all_goals refine j_move ?_
                                all_goals refine j_move ?_
                                all_goals refine j_move ?_
                                all_goals (refine j_own (by first | exact cFO (ho := (by repeat (first | exact OAt.head | apply OAt.tail))) (hc := fun w1 hw => ih (ys := rotL ys z.1 m (mid + m - z.1)) (a := a) (m := z.1) (b := mid) (by omega) (hw.ow (by repeat (first | exact OAt.head | apply OAt.tail))) (e3.trans hN) hl (by omega) (by omega) (by omega) (cut.p1 hs1) (cut.p2 hs2)) | exact cFO (ho := (by repeat (first | exact OAt.head | apply OAt.tail))) (hc := fun w1 hw => ih (ys := x205) (a := mid) (m := mid + m - z.1) (b := b) (by omega) (hw.ow (by repeat (first | exact OAt.head | apply OAt.tail))) (h205.2.len.trans (e3.trans hN)) hl (by omega) (by omega) (by omega) (SR.keep_hi h205.2 (Nat.le_refl _) (cut.p3 hs1)) (SR.keep_hi h205.2 (by omega) (cut.p4 hs2))) | exact cFO (ho := (by repeat (first | exact OAt.head | apply OAt.tail))) (hc := fun w1 hw => ih (ys := rotL ys z.1 m (mid + m - z.1)) (a := mid) (m := mid + m - z.1) (b := b) (by omega) (hw.ow (by repeat (first | exact OAt.head | apply OAt.tail))) (e3.trans hN) hl (by omega) (by omega) (by omega) (cut.p3 hs1) (cut.p4 hs2))) (fun x219 => ?_); try (refine l_fact (fun h219 => ?_)))
                                all_goals refine l_nil ?_
                                all_goals
                                  refine k_endvF Try.results131 .nil (fun w hw => ?_)
                                  first
                                  | exact ⟨x219, rfl, cut.join hs1 hs2 h205 h219, hw.finH⟩
                                  | exact ⟨x205, rfl, cut.join hs1 hs2 h205 ⟨SR.cat (SR.keep_hi h205.2 (Nat.le_refl _) (cut.p3 hs1)) (SR.keep_hi h205.2 (by omega) (cut.p4 hs2)) (by omega), Sg.rfl⟩, hw.finH⟩
                                  | exact ⟨x219, rfl, cut.join hs1 hs2 ⟨SR.cat (cut.p1 hs1) (cut.p2 hs2) (by omega), Sg.rfl⟩ h219, hw.finH⟩
                                  | exact ⟨_, rfl, cut.join hs1 hs2 ⟨SR.cat (cut.p1 hs1) (cut.p2 hs2) (by omega), Sg.rfl⟩ ⟨SR.cat (cut.p3 hs1) (cut.p4 hs2) (by omega), Sg.rfl⟩, hw.finH⟩
                              · try (exact absurd c213 (by decide))
                                all_goals (first | replace c213 := of_decide_eq_false c213 | replace c213 := sbeq_f c213 | replace c213 := sbne_f c213 | replace c213 := ibeq_f c213 | replace c213 := ibne_f c213 | replace c213 := ndec_f c213 | replace c213 := not_f c213 | skip)
                                all_goals (refine k_skip ?_)
                                all_goals
                                  refine k_endvF Try.results131 .nil (fun w hw => ?_)
                                  first
                                  | exact ⟨x219, rfl, cut.join hs1 hs2 h205 h219, hw.finH⟩
                                  | exact ⟨x205, rfl, cut.join hs1 hs2 h205 ⟨SR.cat (SR.keep_hi h205.2 (Nat.le_refl _) (cut.p3 hs1)) (SR.keep_hi h205.2 (by omega) (cut.p4 hs2)) (by omega), Sg.rfl⟩, hw.finH⟩
                                  | exact ⟨x219, rfl, cut.join hs1 hs2 ⟨SR.cat (cut.p1 hs1) (cut.p2 hs2) (by omega), Sg.rfl⟩ h219, hw.finH⟩
                                  | exact ⟨_, rfl, cut.join hs1 hs2 ⟨SR.cat (cut.p1 hs1) (cut.p2 hs2) (by omega), Sg.rfl⟩ ⟨SR.cat (cut.p3 hs1) (cut.p4 hs2) (by omega), Sg.rfl⟩, hw.finH⟩
                          · try (exact absurd c199 (by decide))
                            all_goals (first | replace c199 := of_decide_eq_false c199 | replace c199 := sbeq_f c199 | replace c199 := sbne_f c199 | replace c199 := ibeq_f c199 | replace c199 := ibne_f c199 | replace c199 := ndec_f c199 | replace c199 := not_f c199 | skip)
                            all_goals (refine k_skip ?_)
                            all_goals (refine k_seq ?_)
                            all_goals refine k_region ?_
                            all_goals refine j_move ?_
                            all_goals refine j_move ?_
                            all_goals refine j_lss ?_
                            all_goals refine j_move ?_
                            all_goals (first | refine j_un ?_ | (refine j_yes ?_; refine j_move ?_) | (refine l_case (g := 209) (by exact rfl) (fun g209 => ?_) (fun g209 => ?_) <;> (first | replace g209 := of_decide_eq_true g209 | replace g209 := of_decide_eq_false g209 | skip) <;> (first | refine j_un ?_ | (refine j_yes ?_; refine j_move ?_))))
                            all_goals (first | refine j_un ?_ | (refine j_yes ?_; refine j_move ?_) | (refine l_case (g := 209) (by exact rfl) (fun g209 => ?_) (fun g209 => ?_) <;> (first | replace g209 := of_decide_eq_true g209 | replace g209 := of_decide_eq_false g209 | skip) <;> (first | refine j_un ?_ | (refine j_yes ?_; refine j_move ?_))))
                            all_goals (first | refine j_un ?_ | (refine j_yes ?_; refine j_lss ?_) | (refine l_case (g := 209) (by exact rfl) (fun g209 => ?_) (fun g209 => ?_) <;> (first | replace g209 := of_decide_eq_true g209 | replace g209 := of_decide_eq_false g209 | skip) <;> (first | refine j_un ?_ | (refine j_yes ?_; refine j_lss ?_))))
                            all_goals refine j_pick ?_
                            all_goals refine l_nil ?_
                            all_goals
                              refine k_cond (by exact rfl) (fun c213 => ?_) (fun c213 => ?_)
                              · try (exact absurd c213 (by decide))
                                all_goals (first | replace c213 := of_decide_eq_true c213 | replace c213 := sbeq_t c213 | replace c213 := sbne_t c213 | replace c213 := ibeq_t c213 | replace c213 := ibne_t c213 | replace c213 := ndec_t c213 | replace c213 := not_t c213 | skip)
                                all_goals refine k_region ?_
                                all_goals refine j_move ?_
                                all_goals refine j_move ?_
                                all_goals refine j_move ?_
                                all_goals refine j_move ?_
                                all_goals refine j_move ?_
                                all_goals (refine j_own (by first | exact cFO (ho := (by repeat (first | exact OAt.head | apply OAt.tail))) (hc := fun w1 hw => ih (ys := rotL ys z.1 m (mid + m - z.1)) (a := a) (m := z.1) (b := mid) (by omega) (hw.ow (by repeat (first | exact OAt.head | apply OAt.tail))) (e3.trans hN) hl (by omega) (by omega) (by omega) (cut.p1 hs1) (cut.p2 hs2)) | exact cFO (ho := (by repeat (first | exact OAt.head | apply OAt.tail))) (hc := fun w1 hw => ih (ys := x205) (a := mid) (m := mid + m - z.1) (b := b) (by omega) (hw.ow (by repeat (first | exact OAt.head | apply OAt.tail))) (h205.2.len.trans (e3.trans hN)) hl (by omega) (by omega) (by omega) (SR.keep_hi h205.2 (Nat.le_refl _) (cut.p3 hs1)) (SR.keep_hi h205.2 (by omega) (cut.p4 hs2))) | exact cFO (ho := (by repeat (first | exact OAt.head | apply OAt.tail))) (hc := fun w1 hw => ih (ys := rotL ys z.1 m (mid + m - z.1)) (a := mid) (m := mid + m - z.1) (b := b) (by omega) (hw.ow (by repeat (first | exact OAt.head | apply OAt.tail))) (e3.trans hN) hl (by omega) (by omega) (by omega) (cut.p3 hs1) (cut.p4 hs2))) (fun x219 => ?_); try (refine l_fact (fun h219 => ?_)))
                                all_goals refine l_nil ?_
                                all_goals
                                  refine k_endvF Try.results131 .nil (fun w hw => ?_)
                                  first
                                  | exact ⟨x219, rfl, cut.join hs1 hs2 h205 h219, hw.finH⟩
                                  | exact ⟨x205, rfl, cut.join hs1 hs2 h205 ⟨SR.cat (SR.keep_hi h205.2 (Nat.le_refl _) (cut.p3 hs1)) (SR.keep_hi h205.2 (by omega) (cut.p4 hs2)) (by omega), Sg.rfl⟩, hw.finH⟩
                                  | exact ⟨x219, rfl, cut.join hs1 hs2 ⟨SR.cat (cut.p1 hs1) (cut.p2 hs2) (by omega), Sg.rfl⟩ h219, hw.finH⟩
                                  | exact ⟨_, rfl, cut.join hs1 hs2 ⟨SR.cat (cut.p1 hs1) (cut.p2 hs2) (by omega), Sg.rfl⟩ ⟨SR.cat (cut.p3 hs1) (cut.p4 hs2) (by omega), Sg.rfl⟩, hw.finH⟩
                              · try (exact absurd c213 (by decide))
                                all_goals (first | replace c213 := of_decide_eq_false c213 | replace c213 := sbeq_f c213 | replace c213 := sbne_f c213 | replace c213 := ibeq_f c213 | replace c213 := ibne_f c213 | replace c213 := ndec_f c213 | replace c213 := not_f c213 | skip)
                                all_goals (refine k_skip ?_)
                                all_goals
                                  refine k_endvF Try.results131 .nil (fun w hw => ?_)
                                  first
                                  | exact ⟨x219, rfl, cut.join hs1 hs2 h205 h219, hw.finH⟩
                                  | exact ⟨x205, rfl, cut.join hs1 hs2 h205 ⟨SR.cat (SR.keep_hi h205.2 (Nat.le_refl _) (cut.p3 hs1)) (SR.keep_hi h205.2 (by omega) (cut.p4 hs2)) (by omega), Sg.rfl⟩, hw.finH⟩
                                  | exact ⟨x219, rfl, cut.join hs1 hs2 ⟨SR.cat (cut.p1 hs1) (cut.p2 hs2) (by omega), Sg.rfl⟩ h219, hw.finH⟩
                                  | exact ⟨_, rfl, cut.join hs1 hs2 ⟨SR.cat (cut.p1 hs1) (cut.p2 hs2) (by omega), Sg.rfl⟩ ⟨SR.cat (cut.p3 hs1) (cut.p4 hs2) (by omega), Sg.rfl⟩, hw.finH⟩
                      · try (exact absurd c185 (by decide))
                        all_goals (first | replace c185 := of_decide_eq_false c185 | replace c185 := sbeq_f c185 | replace c185 := sbne_f c185 | replace c185 := ibeq_f c185 | replace c185 := ibne_f c185 | replace c185 := ndec_f c185 | replace c185 := not_f c185 | skip)
                        all_goals
                          have hrt : ys = rotL ys z.1 m (mid + m - z.1) := by
                            rcases (by omega : z.1 = m ∨ mid + m - z.1 = m) with h | h
                            · rw [h]; exact (rotL_same0 (by omega)).symm
                            · rw [h]; exact (rotL_same (by omega)).symm
                          refine k_mono (fun w hw => hw.castP hrt) ?_
                        all_goals (refine k_skip ?_)
                        all_goals (refine k_seq ?_)
                        all_goals (refine k_seq ?_)
                        all_goals refine k_region ?_
                        all_goals refine j_move ?_
                        all_goals refine j_move ?_
                        all_goals refine j_lss ?_
                        all_goals refine j_move ?_
                        all_goals (first | refine j_un ?_ | (refine j_yes ?_; refine j_move ?_) | (refine l_case (g := 195) (by exact rfl) (fun g195 => ?_) (fun g195 => ?_) <;> (first | replace g195 := of_decide_eq_true g195 | replace g195 := of_decide_eq_false g195 | skip) <;> (first | refine j_un ?_ | (refine j_yes ?_; refine j_move ?_))))
                        all_goals (first | refine j_un ?_ | (refine j_yes ?_; refine j_move ?_) | (refine l_case (g := 195) (by exact rfl) (fun g195 => ?_) (fun g195 => ?_) <;> (first | replace g195 := of_decide_eq_true g195 | replace g195 := of_decide_eq_false g195 | skip) <;> (first | refine j_un ?_ | (refine j_yes ?_; refine j_move ?_))))
                        all_goals (first | refine j_un ?_ | (refine j_yes ?_; refine j_lss ?_) | (refine l_case (g := 195) (by exact rfl) (fun g195 => ?_) (fun g195 => ?_) <;> (first | replace g195 := of_decide_eq_true g195 | replace g195 := of_decide_eq_false g195 | skip) <;> (first | refine j_un ?_ | (refine j_yes ?_; refine j_lss ?_))))
                        all_goals refine j_pick ?_
                        all_goals refine l_nil ?_
                        all_goals
                          refine k_cond (by exact rfl) (fun c199 => ?_) (fun c199 => ?_)
                          · try (exact absurd c199 (by decide))
                            all_goals (first | replace c199 := of_decide_eq_true c199 | replace c199 := sbeq_t c199 | replace c199 := sbne_t c199 | replace c199 := ibeq_t c199 | replace c199 := ibne_t c199 | replace c199 := ndec_t c199 | replace c199 := not_t c199 | skip)
                            all_goals refine k_region ?_
                            all_goals refine j_move ?_
                            all_goals refine j_move ?_
                            all_goals refine j_move ?_
                            all_goals refine j_move ?_
                            all_goals refine j_move ?_
                            all_goals (refine j_own (by first | exact cFO (ho := (by repeat (first | exact OAt.head | apply OAt.tail))) (hc := fun w1 hw => ih (ys := rotL ys z.1 m (mid + m - z.1)) (a := a) (m := z.1) (b := mid) (by omega) (hw.ow (by repeat (first | exact OAt.head | apply OAt.tail))) (e3.trans hN) hl (by omega) (by omega) (by omega) (cut.p1 hs1) (cut.p2 hs2)) | exact cFO (ho := (by repeat (first | exact OAt.head | apply OAt.tail))) (hc := fun w1 hw => ih (ys := x205) (a := mid) (m := mid + m - z.1) (b := b) (by omega) (hw.ow (by repeat (first | exact OAt.head | apply OAt.tail))) (h205.2.len.trans (e3.trans hN)) hl (by omega) (by omega) (by omega) (SR.keep_hi h205.2 (Nat.le_refl _) (cut.p3 hs1)) (SR.keep_hi h205.2 (by omega) (cut.p4 hs2))) | exact cFO (ho := (by repeat (first | exact OAt.head | apply OAt.tail))) (hc := fun w1 hw => ih (ys := rotL ys z.1 m (mid + m - z.1)) (a := mid) (m := mid + m - z.1) (b := b) (by omega) (hw.ow (by repeat (first | exact OAt.head | apply OAt.tail))) (e3.trans hN) hl (by omega) (by omega) (by omega) (cut.p3 hs1) (cut.p4 hs2))) (fun x205 => ?_); try (refine l_fact (fun h205 => ?_)))
                            all_goals refine l_nil ?_
                            all_goals (refine k_seq ?_)
                            all_goals refine k_region ?_
                            all_goals refine j_move ?_
                            all_goals refine j_move ?_
                            all_goals refine j_lss ?_
                            all_goals refine j_move ?_
                            all_goals (first | refine j_un ?_ | (refine j_yes ?_; refine j_move ?_) | (refine l_case (g := 209) (by exact rfl) (fun g209 => ?_) (fun g209 => ?_) <;> (first | replace g209 := of_decide_eq_true g209 | replace g209 := of_decide_eq_false g209 | skip) <;> (first | refine j_un ?_ | (refine j_yes ?_; refine j_move ?_))))
                            all_goals (first | refine j_un ?_ | (refine j_yes ?_; refine j_move ?_) | (refine l_case (g := 209) (by exact rfl) (fun g209 => ?_) (fun g209 => ?_) <;> (first | replace g209 := of_decide_eq_true g209 | replace g209 := of_decide_eq_false g209 | skip) <;> (first | refine j_un ?_ | (refine j_yes ?_; refine j_move ?_))))
                            all_goals (first | refine j_un ?_ | (refine j_yes ?_; refine j_lss ?_) | (refine l_case (g := 209) (by exact rfl) (fun g209 => ?_) (fun g209 => ?_) <;> (first | replace g209 := of_decide_eq_true g209 | replace g209 := of_decide_eq_false g209 | skip) <;> (first | refine j_un ?_ | (refine j_yes ?_; refine j_lss ?_))))
                            all_goals refine j_pick ?_
                            all_goals refine l_nil ?_
                            all_goals
                              refine k_cond (by exact rfl) (fun c213 => ?_) (fun c213 => ?_)
                              · try (exact absurd c213 (by decide))
                                all_goals (first | replace c213 := of_decide_eq_true c213 | replace c213 := sbeq_t c213 | replace c213 := sbne_t c213 | replace c213 := ibeq_t c213 | replace c213 := ibne_t c213 | replace c213 := ndec_t c213 | replace c213 := not_t c213 | skip)
                                all_goals refine k_region ?_
                                all_goals refine j_move ?_
                                all_goals refine j_move ?_
                                all_goals refine j_move ?_
                                all_goals refine j_move ?_
                                all_goals refine j_move ?_
                                all_goals (refine j_own (by first | exact cFO (ho := (by repeat (first | exact OAt.head | apply OAt.tail))) (hc := fun w1 hw => ih (ys := rotL ys z.1 m (mid + m - z.1)) (a := a) (m := z.1) (b := mid) (by omega) (hw.ow (by repeat (first | exact OAt.head | apply OAt.tail))) (e3.trans hN) hl (by omega) (by omega) (by omega) (cut.p1 hs1) (cut.p2 hs2)) | exact cFO (ho := (by repeat (first | exact OAt.head | apply OAt.tail))) (hc := fun w1 hw => ih (ys := x205) (a := mid) (m := mid + m - z.1) (b := b) (by omega) (hw.ow (by repeat (first | exact OAt.head | apply OAt.tail))) (h205.2.len.trans (e3.trans hN)) hl (by omega) (by omega) (by omega) (SR.keep_hi h205.2 (Nat.le_refl _) (cut.p3 hs1)) (SR.keep_hi h205.2 (by omega) (cut.p4 hs2))) | exact cFO (ho := (by repeat (first | exact OAt.head | apply OAt.tail))) (hc := fun w1 hw => ih (ys := rotL ys z.1 m (mid + m - z.1)) (a := mid) (m := mid + m - z.1) (b := b) (by omega) (hw.ow (by repeat (first | exact OAt.head | apply OAt.tail))) (e3.trans hN) hl (by omega) (by omega) (by omega) (cut.p3 hs1) (cut.p4 hs2))) (fun x219 => ?_); try (refine l_fact (fun h219 => ?_)))
                                all_goals refine l_nil ?_
                                all_goals
                                  refine k_endvF Try.results131 .nil (fun w hw => ?_)
                                  first
                                  | exact ⟨x219, rfl, cut.join hs1 hs2 h205 h219, hw.finH⟩
                                  | exact ⟨x205, rfl, cut.join hs1 hs2 h205 ⟨SR.cat (SR.keep_hi h205.2 (Nat.le_refl _) (cut.p3 hs1)) (SR.keep_hi h205.2 (by omega) (cut.p4 hs2)) (by omega), Sg.rfl⟩, hw.finH⟩
                                  | exact ⟨x219, rfl, cut.join hs1 hs2 ⟨SR.cat (cut.p1 hs1) (cut.p2 hs2) (by omega), Sg.rfl⟩ h219, hw.finH⟩
                                  | exact ⟨_, rfl, cut.join hs1 hs2 ⟨SR.cat (cut.p1 hs1) (cut.p2 hs2) (by omega), Sg.rfl⟩ ⟨SR.cat (cut.p3 hs1) (cut.p4 hs2) (by omega), Sg.rfl⟩, hw.finH⟩
                              · try (exact absurd c213 (by decide))
                                all_goals (first | replace c213 := of_decide_eq_false c213 | replace c213 := sbeq_f c213 | replace c213 := sbne_f c213 | replace c213 := ibeq_f c213 | replace c213 := ibne_f c213 | replace c213 := ndec_f c213 | replace c213 := not_f c213 | skip)
                                all_goals (refine k_skip ?_)
                                all_goals
                                  refine k_endvF Try.results131 .nil (fun w hw => ?_)
                                  first
                                  | exact ⟨x219, rfl, cut.join hs1 hs2 h205 h219, hw.finH⟩
                                  | exact ⟨x205, rfl, cut.join hs1 hs2 h205 ⟨SR.cat (SR.keep_hi h205.2 (Nat.le_refl _) (cut.p3 hs1)) (SR.keep_hi h205.2 (by omega) (cut.p4 hs2)) (by omega), Sg.rfl⟩, hw.finH⟩
                                  | exact ⟨x219, rfl, cut.join hs1 hs2 ⟨SR.cat (cut.p1 hs1) (cut.p2 hs2) (by omega), Sg.rfl⟩ h219, hw.finH⟩
                                  | exact ⟨_, rfl, cut.join hs1 hs2 ⟨SR.cat (cut.p1 hs1) (cut.p2 hs2) (by omega), Sg.rfl⟩ ⟨SR.cat (cut.p3 hs1) (cut.p4 hs2) (by omega), Sg.rfl⟩, hw.finH⟩
                          · try (exact absurd c199 (by decide))
                            all_goals (first | replace c199 := of_decide_eq_false c199 | replace c199 := sbeq_f c199 | replace c199 := sbne_f c199 | replace c199 := ibeq_f c199 | replace c199 := ibne_f c199 | replace c199 := ndec_f c199 | replace c199 := not_f c199 | skip)
                            all_goals (refine k_skip ?_)
                            all_goals (refine k_seq ?_)
                            all_goals refine k_region ?_
                            all_goals refine j_move ?_
                            all_goals refine j_move ?_
                            all_goals refine j_lss ?_
                            all_goals refine j_move ?_
                            all_goals (first | refine j_un ?_ | (refine j_yes ?_; refine j_move ?_) | (refine l_case (g := 209) (by exact rfl) (fun g209 => ?_) (fun g209 => ?_) <;> (first | replace g209 := of_decide_eq_true g209 | replace g209 := of_decide_eq_false g209 | skip) <;> (first | refine j_un ?_ | (refine j_yes ?_; refine j_move ?_))))
                            all_goals (first | refine j_un ?_ | (refine j_yes ?_; refine j_move ?_) | (refine l_case (g := 209) (by exact rfl) (fun g209 => ?_) (fun g209 => ?_) <;> (first | replace g209 := of_decide_eq_true g209 | replace g209 := of_decide_eq_false g209 | skip) <;> (first | refine j_un ?_ | (refine j_yes ?_; refine j_move ?_))))
                            all_goals (first | refine j_un ?_ | (refine j_yes ?_; refine j_lss ?_) | (refine l_case (g := 209) (by exact rfl) (fun g209 => ?_) (fun g209 => ?_) <;> (first | replace g209 := of_decide_eq_true g209 | replace g209 := of_decide_eq_false g209 | skip) <;> (first | refine j_un ?_ | (refine j_yes ?_; refine j_lss ?_))))
                            all_goals refine j_pick ?_
                            all_goals refine l_nil ?_
                            all_goals
                              refine k_cond (by exact rfl) (fun c213 => ?_) (fun c213 => ?_)
                              · try (exact absurd c213 (by decide))
                                all_goals (first | replace c213 := of_decide_eq_true c213 | replace c213 := sbeq_t c213 | replace c213 := sbne_t c213 | replace c213 := ibeq_t c213 | replace c213 := ibne_t c213 | replace c213 := ndec_t c213 | replace c213 := not_t c213 | skip)
                                all_goals refine k_region ?_
                                all_goals refine j_move ?_
                                all_goals refine j_move ?_
                                all_goals refine j_move ?_
                                all_goals refine j_move ?_
                                all_goals refine j_move ?_
                                all_goals (refine j_own (by first | exact cFO (ho := (by repeat (first | exact OAt.head | apply OAt.tail))) (hc := fun w1 hw => ih (ys := rotL ys z.1 m (mid + m - z.1)) (a := a) (m := z.1) (b := mid) (by omega) (hw.ow (by repeat (first | exact OAt.head | apply OAt.tail))) (e3.trans hN) hl (by omega) (by omega) (by omega) (cut.p1 hs1) (cut.p2 hs2)) | exact cFO (ho := (by repeat (first | exact OAt.head | apply OAt.tail))) (hc := fun w1 hw => ih (ys := x205) (a := mid) (m := mid + m - z.1) (b := b) (by omega) (hw.ow (by repeat (first | exact OAt.head | apply OAt.tail))) (h205.2.len.trans (e3.trans hN)) hl (by omega) (by omega) (by omega) (SR.keep_hi h205.2 (Nat.le_refl _) (cut.p3 hs1)) (SR.keep_hi h205.2 (by omega) (cut.p4 hs2))) | exact cFO (ho := (by repeat (first | exact OAt.head | apply OAt.tail))) (hc := fun w1 hw => ih (ys := rotL ys z.1 m (mid + m - z.1)) (a := mid) (m := mid + m - z.1) (b := b) (by omega) (hw.ow (by repeat (first | exact OAt.head | apply OAt.tail))) (e3.trans hN) hl (by omega) (by omega) (by omega) (cut.p3 hs1) (cut.p4 hs2))) (fun x219 => ?_); try (refine l_fact (fun h219 => ?_)))
                                all_goals refine l_nil ?_
                                all_goals
                                  refine k_endvF Try.results131 .nil (fun w hw => ?_)
                                  first
                                  | exact ⟨x219, rfl, cut.join hs1 hs2 h205 h219, hw.finH⟩
                                  | exact ⟨x205, rfl, cut.join hs1 hs2 h205 ⟨SR.cat (SR.keep_hi h205.2 (Nat.le_refl _) (cut.p3 hs1)) (SR.keep_hi h205.2 (by omega) (cut.p4 hs2)) (by omega), Sg.rfl⟩, hw.finH⟩
                                  | exact ⟨x219, rfl, cut.join hs1 hs2 ⟨SR.cat (cut.p1 hs1) (cut.p2 hs2) (by omega), Sg.rfl⟩ h219, hw.finH⟩
                                  | exact ⟨_, rfl, cut.join hs1 hs2 ⟨SR.cat (cut.p1 hs1) (cut.p2 hs2) (by omega), Sg.rfl⟩ ⟨SR.cat (cut.p3 hs1) (cut.p4 hs2) (by omega), Sg.rfl⟩, hw.finH⟩
                              · try (exact absurd c213 (by decide))
                                all_goals (first | replace c213 := of_decide_eq_false c213 | replace c213 := sbeq_f c213 | replace c213 := sbne_f c213 | replace c213 := ibeq_f c213 | replace c213 := ibne_f c213 | replace c213 := ndec_f c213 | replace c213 := not_f c213 | skip)
                                all_goals (refine k_skip ?_)
                                all_goals
                                  refine k_endvF Try.results131 .nil (fun w hw => ?_)
                                  first
                                  | exact ⟨x219, rfl, cut.join hs1 hs2 h205 h219, hw.finH⟩
                                  | exact ⟨x205, rfl, cut.join hs1 hs2 h205 ⟨SR.cat (SR.keep_hi h205.2 (Nat.le_refl _) (cut.p3 hs1)) (SR.keep_hi h205.2 (by omega) (cut.p4 hs2)) (by omega), Sg.rfl⟩, hw.finH⟩
                                  | exact ⟨x219, rfl, cut.join hs1 hs2 ⟨SR.cat (cut.p1 hs1) (cut.p2 hs2) (by omega), Sg.rfl⟩ h219, hw.finH⟩
                                  | exact ⟨_, rfl, cut.join hs1 hs2 ⟨SR.cat (cut.p1 hs1) (cut.p2 hs2) (by omega), Sg.rfl⟩ ⟨SR.cat (cut.p3 hs1) (cut.p4 hs2) (by omega), Sg.rfl⟩, hw.finH⟩
            · try (exact absurd c140 (by decide))
              all_goals (first | replace c140 := of_decide_eq_false c140 | replace c140 := sbeq_f c140 | replace c140 := sbne_f c140 | replace c140 := ibeq_f c140 | replace c140 := ibne_f c140 | replace c140 := ndec_f c140 | replace c140 := not_f c140 | skip)
              all_goals (refine k_seq ?_)
              all_goals refine k_region ?_
              all_goals refine j_move ?_
              all_goals refine j_assignL (fun _ => ?_)
              all_goals refine l_nil ?_
              all_goals refine k_region ?_
              all_goals refine j_move ?_
              all_goals refine j_assignL (fun _ => ?_)
              all_goals refine l_nil ?_
              all_goals (refine k_seq ?_)
              all_goals refine k_region ?_
              all_goals refine j_move ?_
              all_goals refine l_quiet (by first | exact o_dec (by exact rfl) (by exact rfl) (by omega) (by omega) | exact o_subN (by exact rfl) (by exact rfl) (by omega) (by omega)) rfl ?_
              all_goals refine j_assignL (fun _ => ?_)
              all_goals refine l_nil ?_
              all_goals (refine k_seq ?_)
              all_goals (refine k_block ?_)
              all_goals
                refine k_loopF [20, 21, 23, 149, 150, 151, 152, 153, 154, 155, 156, 157, 158, 159, 160, 161, 162, 163, 164, 165, 166, 167, 168, 169, 170, 171, 172, 173, 174] (fun z : Nat × Nat => [(20, .int .i64 ((z.1 : Nat) : Int)), (21, .int .i64 ((z.2 : Nat) : Int))]) (fun z => Srch ys a m b mid z.1 z.2) (fun _ => _) (fun _ => _) (fun z => [⟨p, prC ys, c, 37, 2⟩]) (fun z => z.2 - z.1) ((by first | exact lfst (p := ((m : Nat) : Int) > ((mid : Nat) : Int)) c140 (mid + m - b, mid) | exact (a, m))) (by decide) (fun _ => by exact rfl) ?_ ((by first | exact ⟨by show a ≤ mid + m - b; omega, by show mid + m ≤ mid + m - b + b; omega, by show mid + m - b ≤ mid; omega, by show mid ≤ m; omega, Nat.le_refl _, fun _ h => by exfalso; have h : mid + m < mid + m - b + b := h; omega, fun _ h => absurd h (Nat.lt_irrefl _)⟩ | exact ⟨Nat.le_refl _, by show mid + m ≤ a + b; omega, by show a ≤ m; omega, Nat.le_refl _, by show m ≤ mid; omega, fun h => absurd h (Nat.lt_irrefl _), fun h => absurd h (Nat.lt_irrefl _)⟩)) (fun w hw => hw.back) (fun z f hx => ?_)
                · repeat (first | exact knows_nil _ | refine knows_cons (by first | exact rfl | (conv => { lhs; whnf }; simp; done)) ?_)
                dsimp only [mkU, List.map, List.cons_append, List.nil_append]
                have q1 := hx.s1
                have q2 := hx.s2
                have q3 := hx.sr
                have q4 := hx.r1
                have q5 := hx.r2
                all_goals (refine k_seq ?_)
                all_goals (refine k_seq ?_)
                all_goals refine k_region ?_
                all_goals refine j_move ?_
                all_goals refine j_move ?_
                all_goals refine j_lss ?_
                all_goals refine l_nil ?_
                all_goals
                  refine k_cond (by exact rfl) (fun c151 => ?_) (fun c151 => ?_)
                  · try (exact absurd c151 (by decide))
                    all_goals (first | replace c151 := of_decide_eq_true c151 | replace c151 := sbeq_t c151 | replace c151 := sbne_t c151 | replace c151 := ibeq_t c151 | replace c151 := ibne_t c151 | replace c151 := ndec_t c151 | replace c151 := not_t c151 | skip)
                    all_goals (refine k_skip ?_)
                    all_goals (refine k_block ?_)
                    all_goals (refine k_seq ?_)
                    all_goals refine k_region ?_
                    all_goals refine j_move ?_
                    all_goals refine j_move ?_
                    all_goals refine l_quiet (by first | exact o_inc (by exact rfl) (by exact rfl) (by omega) | exact o_addN (by exact rfl) (by exact rfl) (by omega)) rfl ?_
                    all_goals refine j_convert ?_
                    all_goals refine l_quiet (o_half (n := z.1 + z.2) (by exact rfl) (by exact rfl) (by omega)) rfl ?_
                    all_goals refine j_convert ?_
                    all_goals refine j_assignL (fun _ => ?_)
                    all_goals refine l_nil ?_
                    all_goals (refine k_seq ?_)
                    all_goals refine k_drawF (.one 0 [] (.one 1 [] (.one 2 [] (.one 3 [] (.one 4 [] (.one 5 [] (.one 6 [] (.one 7 [] (.one 8 [] (.one 9 [] (.one 10 [] (.one 11 [5, 9] (.one 12 [] (.one 13 [] .nil)))))))))))))) ?_
                    all_goals (refine r_move (i := 0) ?_)
                    all_goals (refine r_move (i := 1) ?_)
                    all_goals (refine r_move (i := 2) ?_)
                    all_goals (refine r_move (i := 3) ?_)
                    all_goals (refine r_ownP (i := 4) (hq := (by first | exact o_dec (by exact rfl) (by exact rfl) (by omega) (by omega) | exact o_subN (by exact rfl) (by exact rfl) (by omega) (by omega))) (h := ?_))
                    all_goals (refine r_indexAddr (i := 5) ?_)
                    all_goals (refine r_load (i := 6) ?_)
                    all_goals (refine r_move (i := 7) ?_)
                    all_goals (refine r_move (i := 8) ?_)
                    all_goals (refine r_indexAddr (i := 9) ?_)
                    all_goals (refine r_load (i := 10) ?_)
                    all_goals ((refine r_own (i := 11) (hq := (by first | exact cVd (by exact rfl) (by (repeat (first | exact evL_nil _ | (apply evL_cons; focus ((conv => { lhs; whnf }); try exact rfl)))); first | done | fail) (by kernel_rfl) (fun w1 hw => of1_c (ys.getD ((z.1 + z.2) / 2) (⟨#[]⟩, 0)) (ys.getD a (⟨#[]⟩, 0)) w1) | exact cVd (by exact rfl) (by (repeat (first | exact evL_nil _ | (apply evL_cons; focus ((conv => { lhs; whnf }); try exact rfl)))); first | done | fail) (by kernel_rfl) (fun w1 hw => of1_c (ys.getD m (⟨#[]⟩, 0)) (ys.getD ((z.1 + z.2) / 2) (⟨#[]⟩, 0)) w1) | exact cVd (by exact rfl) (by (repeat (first | exact evL_nil _ | (apply evL_cons; focus ((conv => { lhs; whnf }); try exact rfl)))); first | done | fail) (by kernel_rfl) (fun w1 hw => of1_c (ys.getD (mid + m - 1 - (z.1 + z.2) / 2) (⟨#[]⟩, 0)) (ys.getD ((z.1 + z.2) / 2) (⟨#[]⟩, 0)) w1))) (hfire := (fun _ => by first | (refine FireAll.cons (by first | exact a_indexAddr | exact a_un) ?_; refine FireAll.cons (by first | exact a_indexAddr | exact a_un) ?_; exact FireAll.nil) | (refine fireall_fact ?_; refine FireAll.cons (by first | exact a_indexAddr | exact a_un) ?_; refine FireAll.cons (by first | exact a_indexAddr | exact a_un) ?_; exact FireAll.nil))) (h := fun x169 => ?_); try (refine r_fact (fun h169 => ?_))))
                    all_goals (refine r_lss (i := 12) ?_)
                    all_goals (refine r_not (i := 13) ?_)
                    all_goals refine r_fin ?_
                    all_goals
                      refine k_cond (by exact rfl) (fun c171 => ?_) (fun c171 => ?_)
                      · try (exact absurd c171 (by decide))
                        all_goals (first | replace c171 := of_decide_eq_true c171 | replace c171 := sbeq_t c171 | replace c171 := sbne_t c171 | replace c171 := ibeq_t c171 | replace c171 := ibne_t c171 | replace c171 := ndec_t c171 | replace c171 := not_t c171 | skip)
                        all_goals refine k_region ?_
                        all_goals refine j_move ?_
                        all_goals refine l_quiet (by first | exact o_inc (by exact rfl) (by exact rfl) (by omega) | exact o_addN (by exact rfl) (by exact rfl) (by omega)) rfl ?_
                        all_goals refine j_assignL (fun _ => ?_)
                        all_goals refine l_nil ?_
                        all_goals (refine k_blk ?_)
                        all_goals
                          refine k_roundF ((by first | exact lfst (p := ¬ cmpS _ _ < 0) c171 ((z.1 + z.2) / 2 + 1, z.2) | exact (z.1, (z.1 + z.2) / 2))) ?_ ?_ (by repeat (first | (with_reducible exact Pre.refl) | refine Pre.cons (by exact rfl) ?_)) ?_ (fun w hw => hw.back)
                          · first | omega | (simp only []; omega)
                          · repeat' (first | exact knows_nil _ | refine knows_cons ?_ ?_)
                            all_goals (first | exact rfl | (conv => { lhs; whnf }; simp; done) | (conv => { lhs; whnf }; congr 1; omega))
                          · first
                            | exact ⟨by show a ≤ (z.1 + z.2) / 2 + 1; omega, by show mid + m ≤ (z.1 + z.2) / 2 + 1 + b; omega, by show (z.1 + z.2) / 2 + 1 ≤ z.2; omega, q4, q5, fun _ _ => by show sless (ys.getD (mid + m - ((z.1 + z.2) / 2 + 1)) (⟨#[]⟩, 0)).1 (ys.getD ((z.1 + z.2) / 2 + 1 - 1) (⟨#[]⟩, 0)).1 = false; rw [Nat.add_sub_cancel, show mid + m - ((z.1 + z.2) / 2 + 1) = mid + m - 1 - (z.1 + z.2) / 2 by omega]; exact cmpS_ge.1 c171, hx.hi⟩
                            | exact ⟨q1, q2, by show z.1 ≤ (z.1 + z.2) / 2; omega, by show (z.1 + z.2) / 2 ≤ m; omega, by show (z.1 + z.2) / 2 ≤ mid; omega, hx.lo, fun _ _ => by show sless (ys.getD (mid + m - (z.1 + z.2) / 2 - 1) (⟨#[]⟩, 0)).1 (ys.getD ((z.1 + z.2) / 2) (⟨#[]⟩, 0)).1 = true; rw [show mid + m - (z.1 + z.2) / 2 - 1 = mid + m - 1 - (z.1 + z.2) / 2 by omega]; exact cmpS_lt.1 (by simpa using c171)⟩
                      · try (exact absurd c171 (by decide))
                        all_goals (first | replace c171 := of_decide_eq_false c171 | replace c171 := sbeq_f c171 | replace c171 := sbne_f c171 | replace c171 := ibeq_f c171 | replace c171 := ibne_f c171 | replace c171 := ndec_f c171 | replace c171 := not_f c171 | skip)
                        all_goals refine k_region ?_
                        all_goals refine j_move ?_
                        all_goals refine j_assignL (fun _ => ?_)
                        all_goals refine l_nil ?_
                        all_goals (refine k_blk ?_)
                        all_goals
                          refine k_roundF ((by first | exact lfst (p := ¬ cmpS _ _ < 0) c171 ((z.1 + z.2) / 2 + 1, z.2) | exact (z.1, (z.1 + z.2) / 2))) ?_ ?_ (by repeat (first | (with_reducible exact Pre.refl) | refine Pre.cons (by exact rfl) ?_)) ?_ (fun w hw => hw.back)
                          · first | omega | (simp only []; omega)
                          · repeat' (first | exact knows_nil _ | refine knows_cons ?_ ?_)
                            all_goals (first | exact rfl | (conv => { lhs; whnf }; simp; done) | (conv => { lhs; whnf }; congr 1; omega))
                          · first
                            | exact ⟨by show a ≤ (z.1 + z.2) / 2 + 1; omega, by show mid + m ≤ (z.1 + z.2) / 2 + 1 + b; omega, by show (z.1 + z.2) / 2 + 1 ≤ z.2; omega, q4, q5, fun _ _ => by show sless (ys.getD (mid + m - ((z.1 + z.2) / 2 + 1)) (⟨#[]⟩, 0)).1 (ys.getD ((z.1 + z.2) / 2 + 1 - 1) (⟨#[]⟩, 0)).1 = false; rw [Nat.add_sub_cancel, show mid + m - ((z.1 + z.2) / 2 + 1) = mid + m - 1 - (z.1 + z.2) / 2 by omega]; exact cmpS_ge.1 c171, hx.hi⟩
                            | exact ⟨q1, q2, by show z.1 ≤ (z.1 + z.2) / 2; omega, by show (z.1 + z.2) / 2 ≤ m; omega, by show (z.1 + z.2) / 2 ≤ mid; omega, hx.lo, fun _ _ => by show sless (ys.getD (mid + m - (z.1 + z.2) / 2 - 1) (⟨#[]⟩, 0)).1 (ys.getD ((z.1 + z.2) / 2) (⟨#[]⟩, 0)).1 = true; rw [show mid + m - (z.1 + z.2) / 2 - 1 = mid + m - 1 - (z.1 + z.2) / 2 by omega]; exact cmpS_lt.1 (by simpa using c171)⟩
                  · try (exact absurd c151 (by decide))
                    all_goals (first | replace c151 := of_decide_eq_false c151 | replace c151 := sbeq_f c151 | replace c151 := sbne_f c151 | replace c151 := ibeq_f c151 | replace c151 := ibne_f c151 | replace c151 := ndec_f c151 | replace c151 := not_f c151 | skip)
                    all_goals
                      have cut : Cut ys a m b mid z.1 := by
                        have e : z.1 = z.2 := by omega
                        have h := hx
                        rw [← e] at h
                        exact h.cut h1 h2 (by omega) hmid
                      have e1 := cut.e1
                      have e2 := cut.s3
                      have e3 := cut.len
                    all_goals (refine k_exit rfl ?_)
                    all_goals (refine k_seq ?_)
                    all_goals refine k_region ?_
                    all_goals refine j_move ?_
                    all_goals refine j_move ?_
                    all_goals refine l_quiet (by first | exact o_dec (by exact rfl) (by exact rfl) (by omega) (by omega) | exact o_subN (by exact rfl) (by exact rfl) (by omega) (by omega)) rfl ?_
                    all_goals refine j_assignL (fun _ => ?_)
                    all_goals refine l_nil ?_
                    all_goals (refine k_seq ?_)
                    all_goals (refine k_seq ?_)
                    all_goals refine k_region ?_
                    all_goals refine j_move ?_
                    all_goals refine j_move ?_
                    all_goals refine j_lss ?_
                    all_goals refine j_move ?_
                    all_goals (first | refine j_un ?_ | (refine j_yes ?_; refine j_move ?_) | (refine l_case (g := 181) (by exact rfl) (fun g181 => ?_) (fun g181 => ?_) <;> (first | replace g181 := of_decide_eq_true g181 | replace g181 := of_decide_eq_false g181 | skip) <;> (first | refine j_un ?_ | (refine j_yes ?_; refine j_move ?_))))
                    all_goals (first | refine j_un ?_ | (refine j_yes ?_; refine j_move ?_) | (refine l_case (g := 181) (by exact rfl) (fun g181 => ?_) (fun g181 => ?_) <;> (first | replace g181 := of_decide_eq_true g181 | replace g181 := of_decide_eq_false g181 | skip) <;> (first | refine j_un ?_ | (refine j_yes ?_; refine j_move ?_))))
                    all_goals (first | refine j_un ?_ | (refine j_yes ?_; refine j_lss ?_) | (refine l_case (g := 181) (by exact rfl) (fun g181 => ?_) (fun g181 => ?_) <;> (first | replace g181 := of_decide_eq_true g181 | replace g181 := of_decide_eq_false g181 | skip) <;> (first | refine j_un ?_ | (refine j_yes ?_; refine j_lss ?_))))
                    all_goals refine j_pick ?_
                    all_goals refine l_nil ?_
                    all_goals
                      refine k_cond (by exact rfl) (fun c185 => ?_) (fun c185 => ?_)
                      · try (exact absurd c185 (by decide))
                        all_goals (first | replace c185 := of_decide_eq_true c185 | replace c185 := sbeq_t c185 | replace c185 := sbne_t c185 | replace c185 := ibeq_t c185 | replace c185 := ibne_t c185 | replace c185 := ndec_t c185 | replace c185 := not_t c185 | skip)
                        all_goals refine k_region ?_
                        all_goals refine j_move ?_
                        all_goals refine j_move ?_
                        all_goals refine j_move ?_
                        all_goals refine j_move ?_
                        all_goals refine j_move ?_
                        all_goals (refine j_own (cFO (ho := (by repeat (first | exact OAt.head | apply OAt.tail))) (hc := fun w1 hw => rotate_c (a := z.1) (m := m) (b := mid + m - z.1) (hw.ow (by repeat (first | exact OAt.head | apply OAt.tail))) hN hl (by omega) (by omega) (by omega))) (fun x191 => ?_); try (refine l_fact (fun h191 => ?_)))
                        all_goals refine l_nil ?_
                        all_goals (refine k_seq ?_)
                        all_goals (refine k_seq ?_)
                        all_goals refine k_region ?_
                        all_goals refine j_move ?_
                        all_goals refine j_move ?_
                        all_goals refine j_lss ?_
                        all_goals refine j_move ?_
                        all_goals (first | refine j_un ?_ | (refine j_yes ?_; refine j_move ?_) | (refine l_case (g := 195) (by exact rfl) (fun g195 => ?_) (fun g195 => ?_) <;> (first | replace g195 := of_decide_eq_true g195 | replace g195 := of_decide_eq_false g195 | skip) <;> (first | refine j_un ?_ | (refine j_yes ?_; refine j_move ?_))))
                        all_goals (first | refine j_un ?_ | (refine j_yes ?_; refine j_move ?_) | (refine l_case (g := 195) (by exact rfl) (fun g195 => ?_) (fun g195 => ?_) <;> (first | replace g195 := of_decide_eq_true g195 | replace g195 := of_decide_eq_false g195 | skip) <;> (first | refine j_un ?_ | (refine j_yes ?_; refine j_move ?_))))
                        all_goals (first | refine j_un ?_ | (refine j_yes ?_; refine j_lss ?_) | (refine l_case (g := 195) (by exact rfl) (fun g195 => ?_) (fun g195 => ?_) <;> (first | replace g195 := of_decide_eq_true g195 | replace g195 := of_decide_eq_false g195 | skip) <;> (first | refine j_un ?_ | (refine j_yes ?_; refine j_lss ?_))))
                        all_goals refine j_pick ?_
                        all_goals refine l_nil ?_
                        all_goals
                          refine k_cond (by exact rfl) (fun c199 => ?_) (fun c199 => ?_)
                          · try (exact absurd c199 (by decide))
                            all_goals (first | replace c199 := of_decide_eq_true c199 | replace c199 := sbeq_t c199 | replace c199 := sbne_t c199 | replace c199 := ibeq_t c199 | replace c199 := ibne_t c199 | replace c199 := ndec_t c199 | replace c199 := not_t c199 | skip)
                            all_goals refine k_region ?_
                            all_goals refine j_move ?_
                            all_goals refine j_move ?_
                            all_goals refine j_move ?_
                            all_goals refine j_move ?_
                            all_goals refine j_move ?_
                            all_goals (refine j_own (by first | exact cFO (ho := (by repeat (first | exact OAt.head | apply OAt.tail))) (hc := fun w1 hw => ih (ys := rotL ys z.1 m (mid + m - z.1)) (a := a) (m := z.1) (b := mid) (by omega) (hw.ow (by repeat (first | exact OAt.head | apply OAt.tail))) (e3.trans hN) hl (by omega) (by omega) (by omega) (cut.p1 hs1) (cut.p2 hs2)) | exact cFO (ho := (by repeat (first | exact OAt.head | apply OAt.tail))) (hc := fun w1 hw => ih (ys := x205) (a := mid) (m := mid + m - z.1) (b := b) (by omega) (hw.ow (by repeat (first | exact OAt.head | apply OAt.tail))) (h205.2.len.trans (e3.trans hN)) hl (by omega) (by omega) (by omega) (SR.keep_hi h205.2 (Nat.le_refl _) (cut.p3 hs1)) (SR.keep_hi h205.2 (by omega) (cut.p4 hs2))) | exact cFO (ho := (by repeat (first | exact OAt.head | apply OAt.tail))) (hc := fun w1 hw => ih (ys := rotL ys z.1 m (mid + m - z.1)) (a := mid) (m := mid + m - z.1) (b := b) (by omega) (hw.ow (by repeat (first | exact OAt.head | apply OAt.tail))) (e3.trans hN) hl (by omega) (by omega) (by omega) (cut.p3 hs1) (cut.p4 hs2))) (fun x205 => ?_); try (refine l_fact (fun h205 => ?_)))
                            all_goals refine l_nil ?_
                            all_goals (refine k_seq ?_)
                            all_goals refine k_region ?_
                            all_goals refine j_move ?_
                            all_goals refine j_move ?_
                            all_goals refine j_lss ?_
                            all_goals refine j_move ?_
                            all_goals (first | refine j_un ?_ | (refine j_yes ?_; refine j_move ?_) | (refine l_case (g := 209) (by exact rfl) (fun g209 => ?_) (fun g209 => ?_) <;> (first | replace g209 := of_decide_eq_true g209 | replace g209 := of_decide_eq_false g209 | skip) <;> (first | refine j_un ?_ | (refine j_yes ?_; refine j_move ?_))))
                            all_goals (first | refine j_un ?_ | (refine j_yes ?_; refine j_move ?_) | (refine l_case (g := 209) (by exact rfl) (fun g209 => ?_) (fun g209 => ?_) <;> (first | replace g209 := of_decide_eq_true g209 | replace g209 := of_decide_eq_false g209 | skip) <;> (first | refine j_un ?_ | (refine j_yes ?_; refine j_move ?_))))
                            all_goals (first | refine j_un ?_ | (refine j_yes ?_; refine j_lss ?_) | (refine l_case (g := 209) (by exact rfl) (fun g209 => ?_) (fun g209 => ?_) <;> (first | replace g209 := of_decide_eq_true g209 | replace g209 := of_decide_eq_false g209 | skip) <;> (first | refine j_un ?_ | (refine j_yes ?_; refine j_lss ?_))))
                            all_goals refine j_pick ?_
                            all_goals refine l_nil ?_
                            all_goals
                              refine k_cond (by exact rfl) (fun c213 => ?_) (fun c213 => ?_)
                              · try (exact absurd c213 (by decide))
                                all_goals (first | replace c213 := of_decide_eq_true c213 | replace c213 := sbeq_t c213 | replace c213 := sbne_t c213 | replace c213 := ibeq_t c213 | replace c213 := ibne_t c213 | replace c213 := ndec_t c213 | replace c213 := not_t c213 | skip)
                                all_goals refine k_region ?_
                                all_goals refine j_move ?_
                                all_goals refine j_move ?_
                                all_goals refine j_move ?_
                                all_goals refine j_move ?_
                                all_goals refine j_move ?_
                                all_goals (refine j_own (by first | exact cFO (ho := (by repeat (first | exact OAt.head | apply OAt.tail))) (hc := fun w1 hw => ih (ys := rotL ys z.1 m (mid + m - z.1)) (a := a) (m := z.1) (b := mid) (by omega) (hw.ow (by repeat (first | exact OAt.head | apply OAt.tail))) (e3.trans hN) hl (by omega) (by omega) (by omega) (cut.p1 hs1) (cut.p2 hs2)) | exact cFO (ho := (by repeat (first | exact OAt.head | apply OAt.tail))) (hc := fun w1 hw => ih (ys := x205) (a := mid) (m := mid + m - z.1) (b := b) (by omega) (hw.ow (by repeat (first | exact OAt.head | apply OAt.tail))) (h205.2.len.trans (e3.trans hN)) hl (by omega) (by omega) (by omega) (SR.keep_hi h205.2 (Nat.le_refl _) (cut.p3 hs1)) (SR.keep_hi h205.2 (by omega) (cut.p4 hs2))) | exact cFO (ho := (by repeat (first | exact OAt.head | apply OAt.tail))) (hc := fun w1 hw => ih (ys := rotL ys z.1 m (mid + m - z.1)) (a := mid) (m := mid + m - z.1) (b := b) (by omega) (hw.ow (by repeat (first | exact OAt.head | apply OAt.tail))) (e3.trans hN) hl (by omega) (by omega) (by omega) (cut.p3 hs1) (cut.p4 hs2))) (fun x219 => ?_); try (refine l_fact (fun h219 => ?_)))
                                all_goals refine l_nil ?_
                                all_goals
                                  refine k_endvF Try.results131 .nil (fun w hw => ?_)
                                  first
                                  | exact ⟨x219, rfl, cut.join hs1 hs2 h205 h219, hw.finH⟩
                                  | exact ⟨x205, rfl, cut.join hs1 hs2 h205 ⟨SR.cat (SR.keep_hi h205.2 (Nat.le_refl _) (cut.p3 hs1)) (SR.keep_hi h205.2 (by omega) (cut.p4 hs2)) (by omega), Sg.rfl⟩, hw.finH⟩
                                  | exact ⟨x219, rfl, cut.join hs1 hs2 ⟨SR.cat (cut.p1 hs1) (cut.p2 hs2) (by omega), Sg.rfl⟩ h219, hw.finH⟩
                                  | exact ⟨_, rfl, cut.join hs1 hs2 ⟨SR.cat (cut.p1 hs1) (cut.p2 hs2) (by omega), Sg.rfl⟩ ⟨SR.cat (cut.p3 hs1) (cut.p4 hs2) (by omega), Sg.rfl⟩, hw.finH⟩
                              · try (exact absurd c213 (by decide))
                                all_goals (first | replace c213 := of_decide_eq_false c213 | replace c213 := sbeq_f c213 | replace c213 := sbne_f c213 | replace c213 := ibeq_f c213 | replace c213 := ibne_f c213 | replace c213 := ndec_f c213 | replace c213 := not_f c213 | skip)
                                all_goals (refine k_skip ?_)
                                all_goals
                                  refine k_endvF Try.results131 .nil (fun w hw => ?_)
                                  first
                                  | exact ⟨x219, rfl, cut.join hs1 hs2 h205 h219, hw.finH⟩
                                  | exact ⟨x205, rfl, cut.join hs1 hs2 h205 ⟨SR.cat (SR.keep_hi h205.2 (Nat.le_refl _) (cut.p3 hs1)) (SR.keep_hi h205.2 (by omega) (cut.p4 hs2)) (by omega), Sg.rfl⟩, hw.finH⟩
                                  | exact ⟨x219, rfl, cut.join hs1 hs2 ⟨SR.cat (cut.p1 hs1) (cut.p2 hs2) (by omega), Sg.rfl⟩ h219, hw.finH⟩
                                  | exact ⟨_, rfl, cut.join hs1 hs2 ⟨SR.cat (cut.p1 hs1) (cut.p2 hs2) (by omega), Sg.rfl⟩ ⟨SR.cat (cut.p3 hs1) (cut.p4 hs2) (by omega), Sg.rfl⟩, hw.finH⟩
                          · try (exact absurd c199 (by decide))
                            all_goals (first | replace c199 := of_decide_eq_false c199 | replace c199 := sbeq_f c199 | replace c199 := sbne_f c199 | replace c199 := ibeq_f c199 | replace c199 := ibne_f c199 | replace c199 := ndec_f c199 | replace c199 := not_f c199 | skip)
                            all_goals (refine k_skip ?_)
                            all_goals (refine k_seq ?_)
                            all_goals refine k_region ?_
                            all_goals refine j_move ?_
                            all_goals refine j_move ?_
                            all_goals refine j_lss ?_
                            all_goals refine j_move ?_
                            all_goals (first | refine j_un ?_ | (refine j_yes ?_; refine j_move ?_) | (refine l_case (g := 209) (by exact rfl) (fun g209 => ?_) (fun g209 => ?_) <;> (first | replace g209 := of_decide_eq_true g209 | replace g209 := of_decide_eq_false g209 | skip) <;> (first | refine j_un ?_ | (refine j_yes ?_; refine j_move ?_))))
                            all_goals (first | refine j_un ?_ | (refine j_yes ?_; refine j_move ?_) | (refine l_case (g := 209) (by exact rfl) (fun g209 => ?_) (fun g209 => ?_) <;> (first | replace g209 := of_decide_eq_true g209 | replace g209 := of_decide_eq_false g209 | skip) <;> (first | refine j_un ?_ | (refine j_yes ?_; refine j_move ?_))))
                            all_goals (first | refine j_un ?_ | (refine j_yes ?_; refine j_lss ?_) | (refine l_case (g := 209) (by exact rfl) (fun g209 => ?_) (fun g209 => ?_) <;> (first | replace g209 := of_decide_eq_true g209 | replace g209 := of_decide_eq_false g209 | skip) <;> (first | refine j_un ?_ | (refine j_yes ?_; refine j_lss ?_))))
                            all_goals refine j_pick ?_
                            all_goals refine l_nil ?_
                            all_goals
                              refine k_cond (by exact rfl) (fun c213 => ?_) (fun c213 => ?_)
                              · try (exact absurd c213 (by decide))
                                all_goals (first | replace c213 := of_decide_eq_true c213 | replace c213 := sbeq_t c213 | replace c213 := sbne_t c213 | replace c213 := ibeq_t c213 | replace c213 := ibne_t c213 | replace c213 := ndec_t c213 | replace c213 := not_t c213 | skip)
                                all_goals refine k_region ?_
                                all_goals refine j_move ?_
                                all_goals refine j_move ?_
                                all_goals refine j_move ?_
                                all_goals refine j_move ?_
                                all_goals refine j_move ?_
                                all_goals (refine j_own (by first | exact cFO (ho := (by repeat (first | exact OAt.head | apply OAt.tail))) (hc := fun w1 hw => ih (ys := rotL ys z.1 m (mid + m - z.1)) (a := a) (m := z.1) (b := mid) (by omega) (hw.ow (by repeat (first | exact OAt.head | apply OAt.tail))) (e3.trans hN) hl (by omega) (by omega) (by omega) (cut.p1 hs1) (cut.p2 hs2)) | exact cFO (ho := (by repeat (first | exact OAt.head | apply OAt.tail))) (hc := fun w1 hw => ih (ys := x205) (a := mid) (m := mid + m - z.1) (b := b) (by omega) (hw.ow (by repeat (first | exact OAt.head | apply OAt.tail))) (h205.2.len.trans (e3.trans hN)) hl (by omega) (by omega) (by omega) (SR.keep_hi h205.2 (Nat.le_refl _) (cut.p3 hs1)) (SR.keep_hi h205.2 (by omega) (cut.p4 hs2))) | exact cFO (ho := (by repeat (first | exact OAt.head | apply OAt.tail))) (hc := fun w1 hw => ih (ys := rotL ys z.1 m (mid + m - z.1)) (a := mid) (m := mid + m - z.1) (b := b) (by omega) (hw.ow (by repeat (first | exact OAt.head | apply OAt.tail))) (e3.trans hN) hl (by omega) (by omega) (by omega) (cut.p3 hs1) (cut.p4 hs2))) (fun x219 => ?_); try (refine l_fact (fun h219 => ?_)))
                                all_goals refine l_nil ?_
                                all_goals
                                  refine k_endvF Try.results131 .nil (fun w hw => ?_)
                                  first
                                  | exact ⟨x219, rfl, cut.join hs1 hs2 h205 h219, hw.finH⟩
                                  | exact ⟨x205, rfl, cut.join hs1 hs2 h205 ⟨SR.cat (SR.keep_hi h205.2 (Nat.le_refl _) (cut.p3 hs1)) (SR.keep_hi h205.2 (by omega) (cut.p4 hs2)) (by omega), Sg.rfl⟩, hw.finH⟩
                                  | exact ⟨x219, rfl, cut.join hs1 hs2 ⟨SR.cat (cut.p1 hs1) (cut.p2 hs2) (by omega), Sg.rfl⟩ h219, hw.finH⟩
                                  | exact ⟨_, rfl, cut.join hs1 hs2 ⟨SR.cat (cut.p1 hs1) (cut.p2 hs2) (by omega), Sg.rfl⟩ ⟨SR.cat (cut.p3 hs1) (cut.p4 hs2) (by omega), Sg.rfl⟩, hw.finH⟩
                              · try (exact absurd c213 (by decide))
                                all_goals (first | replace c213 := of_decide_eq_false c213 | replace c213 := sbeq_f c213 | replace c213 := sbne_f c213 | replace c213 := ibeq_f c213 | replace c213 := ibne_f c213 | replace c213 := ndec_f c213 | replace c213 := not_f c213 | skip)
                                all_goals (refine k_skip ?_)
                                all_goals
                                  refine k_endvF Try.results131 .nil (fun w hw => ?_)
                                  first
                                  | exact ⟨x219, rfl, cut.join hs1 hs2 h205 h219, hw.finH⟩
                                  | exact ⟨x205, rfl, cut.join hs1 hs2 h205 ⟨SR.cat (SR.keep_hi h205.2 (Nat.le_refl _) (cut.p3 hs1)) (SR.keep_hi h205.2 (by omega) (cut.p4 hs2)) (by omega), Sg.rfl⟩, hw.finH⟩
                                  | exact ⟨x219, rfl, cut.join hs1 hs2 ⟨SR.cat (cut.p1 hs1) (cut.p2 hs2) (by omega), Sg.rfl⟩ h219, hw.finH⟩
                                  | exact ⟨_, rfl, cut.join hs1 hs2 ⟨SR.cat (cut.p1 hs1) (cut.p2 hs2) (by omega), Sg.rfl⟩ ⟨SR.cat (cut.p3 hs1) (cut.p4 hs2) (by omega), Sg.rfl⟩, hw.finH⟩
                      · try (exact absurd c185 (by decide))
                        all_goals (first | replace c185 := of_decide_eq_false c185 | replace c185 := sbeq_f c185 | replace c185 := sbne_f c185 | replace c185 := ibeq_f c185 | replace c185 := ibne_f c185 | replace c185 := ndec_f c185 | replace c185 := not_f c185 | skip)
                        all_goals
                          have hrt : ys = rotL ys z.1 m (mid + m - z.1) := by
                            rcases (by omega : z.1 = m ∨ mid + m - z.1 = m) with h | h
                            · rw [h]; exact (rotL_same0 (by omega)).symm
                            · rw [h]; exact (rotL_same (by omega)).symm
                          refine k_mono (fun w hw => hw.castP hrt) ?_
                        all_goals (refine k_skip ?_)
                        all_goals (refine k_seq ?_)
                        all_goals (refine k_seq ?_)
                        all_goals refine k_region ?_
                        all_goals refine j_move ?_
                        all_goals refine j_move ?_
                        all_goals refine j_lss ?_
                        all_goals refine j_move ?_
                        all_goals (first | refine j_un ?_ | (refine j_yes ?_; refine j_move ?_) | (refine l_case (g := 195) (by exact rfl) (fun g195 => ?_) (fun g195 => ?_) <;> (first | replace g195 := of_decide_eq_true g195 | replace g195 := of_decide_eq_false g195 | skip) <;> (first | refine j_un ?_ | (refine j_yes ?_; refine j_move ?_))))
                        all_goals (first | refine j_un ?_ | (refine j_yes ?_; refine j_move ?_) | (refine l_case (g := 195) (by exact rfl) (fun g195 => ?_) (fun g195 => ?_) <;> (first | replace g195 := of_decide_eq_true g195 | replace g195 := of_decide_eq_false g195 | skip) <;> (first | refine j_un ?_ | (refine j_yes ?_; refine j_move ?_))))
                        all_goals (first | refine j_un ?_ | (refine j_yes ?_; refine j_lss ?_) | (refine l_case (g := 195) (by exact rfl) (fun g195 => ?_) (fun g195 => ?_) <;> (first | replace g195 := of_decide_eq_true g195 | replace g195 := of_decide_eq_false g195 | skip) <;> (first | refine j_un ?_ | (refine j_yes ?_; refine j_lss ?_))))
                        all_goals refine j_pick ?_
                        all_goals refine l_nil ?_
                        all_goals
                          refine k_cond (by exact rfl) (fun c199 => ?_) (fun c199 => ?_)
                          · try (exact absurd c199 (by decide))
                            all_goals (first | replace c199 := of_decide_eq_true c199 | replace c199 := sbeq_t c199 | replace c199 := sbne_t c199 | replace c199 := ibeq_t c199 | replace c199 := ibne_t c199 | replace c199 := ndec_t c199 | replace c199 := not_t c199 | skip)
                            all_goals refine k_region ?_
                            all_goals refine j_move ?_
                            all_goals refine j_move ?_
                            all_goals refine j_move ?_
                            all_goals refine j_move ?_
                            all_goals refine j_move ?_
                            all_goals (refine j_own (by first | exact cFO (ho := (by repeat (first | exact OAt.head | apply OAt.tail))) (hc := fun w1 hw => ih (ys := rotL ys z.1 m (mid + m - z.1)) (a := a) (m := z.1) (b := mid) (by omega) (hw.ow (by repeat (first | exact OAt.head | apply OAt.tail))) (e3.trans hN) hl (by omega) (by omega) (by omega) (cut.p1 hs1) (cut.p2 hs2)) | exact cFO (ho := (by repeat (first | exact OAt.head | apply OAt.tail))) (hc := fun w1 hw => ih (ys := x205) (a := mid) (m := mid + m - z.1) (b := b) (by omega) (hw.ow (by repeat (first | exact OAt.head | apply OAt.tail))) (h205.2.len.trans (e3.trans hN)) hl (by omega) (by omega) (by omega) (SR.keep_hi h205.2 (Nat.le_refl _) (cut.p3 hs1)) (SR.keep_hi h205.2 (by omega) (cut.p4 hs2))) | exact cFO (ho := (by repeat (first | exact OAt.head | apply OAt.tail))) (hc := fun w1 hw => ih (ys := rotL ys z.1 m (mid + m - z.1)) (a := mid) (m := mid + m - z.1) (b := b) (by omega) (hw.ow (by repeat (first | exact OAt.head | apply OAt.tail))) (e3.trans hN) hl (by omega) (by omega) (by omega) (cut.p3 hs1) (cut.p4 hs2))) (fun x205 => ?_); try (refine l_fact (fun h205 => ?_)))
                            all_goals refine l_nil ?_
                            all_goals (refine k_seq ?_)
                            all_goals refine k_region ?_
                            all_goals refine j_move ?_
                            all_goals refine j_move ?_
                            all_goals refine j_lss ?_
                            all_goals refine j_move ?_
                            all_goals (first | refine j_un ?_ | (refine j_yes ?_; refine j_move ?_) | (refine l_case (g := 209) (by exact rfl) (fun g209 => ?_) (fun g209 => ?_) <;> (first | replace g209 := of_decide_eq_true g209 | replace g209 := of_decide_eq_false g209 | skip) <;> (first | refine j_un ?_ | (refine j_yes ?_; refine j_move ?_))))
                            all_goals (first | refine j_un ?_ | (refine j_yes ?_; refine j_move ?_) | (refine l_case (g := 209) (by exact rfl) (fun g209 => ?_) (fun g209 => ?_) <;> (first | replace g209 := of_decide_eq_true g209 | replace g209 := of_decide_eq_false g209 | skip) <;> (first | refine j_un ?_ | (refine j_yes ?_; refine j_move ?_))))
                            all_goals (first | refine j_un ?_ | (refine j_yes ?_; refine j_lss ?_) | (refine l_case (g := 209) (by exact rfl) (fun g209 => ?_) (fun g209 => ?_) <;> (first | replace g209 := of_decide_eq_true g209 | replace g209 := of_decide_eq_false g209 | skip) <;> (first | refine j_un ?_ | (refine j_yes ?_; refine j_lss ?_))))
                            all_goals refine j_pick ?_
                            all_goals refine l_nil ?_
                            all_goals
                              refine k_cond (by exact rfl) (fun c213 => ?_) (fun c213 => ?_)
                              · try (exact absurd c213 (by decide))
                                all_goals (first | replace c213 := of_decide_eq_true c213 | replace c213 := sbeq_t c213 | replace c213 := sbne_t c213 | replace c213 := ibeq_t c213 | replace c213 := ibne_t c213 | replace c213 := ndec_t c213 | replace c213 := not_t c213 | skip)
                                all_goals refine k_region ?_
                                all_goals refine j_move ?_
                                all_goals refine j_move ?_
                                all_goals refine j_move ?_
                                all_goals refine j_move ?_
                                all_goals refine j_move ?_
                                all_goals (refine j_own (by first | exact cFO (ho := (by repeat (first | exact OAt.head | apply OAt.tail))) (hc := fun w1 hw => ih (ys := rotL ys z.1 m (mid + m - z.1)) (a := a) (m := z.1) (b := mid) (by omega) (hw.ow (by repeat (first | exact OAt.head | apply OAt.tail))) (e3.trans hN) hl (by omega) (by omega) (by omega) (cut.p1 hs1) (cut.p2 hs2)) | exact cFO (ho := (by repeat (first | exact OAt.head | apply OAt.tail))) (hc := fun w1 hw => ih (ys := x205) (a := mid) (m := mid + m - z.1) (b := b) (by omega) (hw.ow (by repeat (first | exact OAt.head | apply OAt.tail))) (h205.2.len.trans (e3.trans hN)) hl (by omega) (by omega) (by omega) (SR.keep_hi h205.2 (Nat.le_refl _) (cut.p3 hs1)) (SR.keep_hi h205.2 (by omega) (cut.p4 hs2))) | exact cFO (ho := (by repeat (first | exact OAt.head | apply OAt.tail))) (hc := fun w1 hw => ih (ys := rotL ys z.1 m (mid + m - z.1)) (a := mid) (m := mid + m - z.1) (b := b) (by omega) (hw.ow (by repeat (first | exact OAt.head | apply OAt.tail))) (e3.trans hN) hl (by omega) (by omega) (by omega) (cut.p3 hs1) (cut.p4 hs2))) (fun x219 => ?_); try (refine l_fact (fun h219 => ?_)))
                                all_goals refine l_nil ?_
                                all_goals
                                  refine k_endvF Try.results131 .nil (fun w hw => ?_)
                                  first
                                  | exact ⟨x219, rfl, cut.join hs1 hs2 h205 h219, hw.finH⟩
                                  | exact ⟨x205, rfl, cut.join hs1 hs2 h205 ⟨SR.cat (SR.keep_hi h205.2 (Nat.le_refl _) (cut.p3 hs1)) (SR.keep_hi h205.2 (by omega) (cut.p4 hs2)) (by omega), Sg.rfl⟩, hw.finH⟩
                                  | exact ⟨x219, rfl, cut.join hs1 hs2 ⟨SR.cat (cut.p1 hs1) (cut.p2 hs2) (by omega), Sg.rfl⟩ h219, hw.finH⟩
                                  | exact ⟨_, rfl, cut.join hs1 hs2 ⟨SR.cat (cut.p1 hs1) (cut.p2 hs2) (by omega), Sg.rfl⟩ ⟨SR.cat (cut.p3 hs1) (cut.p4 hs2) (by omega), Sg.rfl⟩, hw.finH⟩
                              · try (exact absurd c213 (by decide))
                                all_goals (first | replace c213 := of_decide_eq_false c213 | replace c213 := sbeq_f c213 | replace c213 := sbne_f c213 | replace c213 := ibeq_f c213 | replace c213 := ibne_f c213 | replace c213 := ndec_f c213 | replace c213 := not_f c213 | skip)
                                all_goals (refine k_skip ?_)
                                all_goals
                                  refine k_endvF Try.results131 .nil (fun w hw => ?_)
                                  first
                                  | exact ⟨x219, rfl, cut.join hs1 hs2 h205 h219, hw.finH⟩
                                  | exact ⟨x205, rfl, cut.join hs1 hs2 h205 ⟨SR.cat (SR.keep_hi h205.2 (Nat.le_refl _) (cut.p3 hs1)) (SR.keep_hi h205.2 (by omega) (cut.p4 hs2)) (by omega), Sg.rfl⟩, hw.finH⟩
                                  | exact ⟨x219, rfl, cut.join hs1 hs2 ⟨SR.cat (cut.p1 hs1) (cut.p2 hs2) (by omega), Sg.rfl⟩ h219, hw.finH⟩
                                  | exact ⟨_, rfl, cut.join hs1 hs2 ⟨SR.cat (cut.p1 hs1) (cut.p2 hs2) (by omega), Sg.rfl⟩ ⟨SR.cat (cut.p3 hs1) (cut.p4 hs2) (by omega), Sg.rfl⟩, hw.finH⟩
                          · try (exact absurd c199 (by decide))
                            all_goals (first | replace c199 := of_decide_eq_false c199 | replace c199 := sbeq_f c199 | replace c199 := sbne_f c199 | replace c199 := ibeq_f c199 | replace c199 := ibne_f c199 | replace c199 := ndec_f c199 | replace c199 := not_f c199 | skip)
                            all_goals (refine k_skip ?_)
                            all_goals (refine k_seq ?_)
                            all_goals refine k_region ?_
                            all_goals refine j_move ?_
                            all_goals refine j_move ?_
                            all_goals refine j_lss ?_
                            all_goals refine j_move ?_
                            all_goals (first | refine j_un ?_ | (refine j_yes ?_; refine j_move ?_) | (refine l_case (g := 209) (by exact rfl) (fun g209 => ?_) (fun g209 => ?_) <;> (first | replace g209 := of_decide_eq_true g209 | replace g209 := of_decide_eq_false g209 | skip) <;> (first | refine j_un ?_ | (refine j_yes ?_; refine j_move ?_))))
                            all_goals (first | refine j_un ?_ | (refine j_yes ?_; refine j_move ?_) | (refine l_case (g := 209) (by exact rfl) (fun g209 => ?_) (fun g209 => ?_) <;> (first | replace g209 := of_decide_eq_true g209 | replace g209 := of_decide_eq_false g209 | skip) <;> (first | refine j_un ?_ | (refine j_yes ?_; refine j_move ?_))))
                            all_goals (first | refine j_un ?_ | (refine j_yes ?_; refine j_lss ?_) | (refine l_case (g := 209) (by exact rfl) (fun g209 => ?_) (fun g209 => ?_) <;> (first | replace g209 := of_decide_eq_true g209 | replace g209 := of_decide_eq_false g209 | skip) <;> (first | refine j_un ?_ | (refine j_yes ?_; refine j_lss ?_))))
                            all_goals refine j_pick ?_
                            all_goals refine l_nil ?_
                            all_goals
                              refine k_cond (by exact rfl) (fun c213 => ?_) (fun c213 => ?_)
                              · try (exact absurd c213 (by decide))
                                all_goals (first | replace c213 := of_decide_eq_true c213 | replace c213 := sbeq_t c213 | replace c213 := sbne_t c213 | replace c213 := ibeq_t c213 | replace c213 := ibne_t c213 | replace c213 := ndec_t c213 | replace c213 := not_t c213 | skip)
                                all_goals refine k_region ?_
                                all_goals refine j_move ?_
                                all_goals refine j_move ?_
                                all_goals refine j_move ?_
                                all_goals refine j_move ?_
                                all_goals refine j_move ?_
                                all_goals (refine j_own (by first | exact cFO (ho := (by repeat (first | exact OAt.head | apply OAt.tail))) (hc := fun w1 hw => ih (ys := rotL ys z.1 m (mid + m - z.1)) (a := a) (m := z.1) (b := mid) (by omega) (hw.ow (by repeat (first | exact OAt.head | apply OAt.tail))) (e3.trans hN) hl (by omega) (by omega) (by omega) (cut.p1 hs1) (cut.p2 hs2)) | exact cFO (ho := (by repeat (first | exact OAt.head | apply OAt.tail))) (hc := fun w1 hw => ih (ys := x205) (a := mid) (m := mid + m - z.1) (b := b) (by omega) (hw.ow (by repeat (first | exact OAt.head | apply OAt.tail))) (h205.2.len.trans (e3.trans hN)) hl (by omega) (by omega) (by omega) (SR.keep_hi h205.2 (Nat.le_refl _) (cut.p3 hs1)) (SR.keep_hi h205.2 (by omega) (cut.p4 hs2))) | exact cFO (ho := (by repeat (first | exact OAt.head | apply OAt.tail))) (hc := fun w1 hw => ih (ys := rotL ys z.1 m (mid + m - z.1)) (a := mid) (m := mid + m - z.1) (b := b) (by omega) (hw.ow (by repeat (first | exact OAt.head | apply OAt.tail))) (e3.trans hN) hl (by omega) (by omega) (by omega) (cut.p3 hs1) (cut.p4 hs2))) (fun x219 => ?_); try (refine l_fact (fun h219 => ?_)))
                                all_goals refine l_nil ?_
                                all_goals
                                  refine k_endvF Try.results131 .nil (fun w hw => ?_)
                                  first
                                  | exact ⟨x219, rfl, cut.join hs1 hs2 h205 h219, hw.finH⟩
                                  | exact ⟨x205, rfl, cut.join hs1 hs2 h205 ⟨SR.cat (SR.keep_hi h205.2 (Nat.le_refl _) (cut.p3 hs1)) (SR.keep_hi h205.2 (by omega) (cut.p4 hs2)) (by omega), Sg.rfl⟩, hw.finH⟩
                                  | exact ⟨x219, rfl, cut.join hs1 hs2 ⟨SR.cat (cut.p1 hs1) (cut.p2 hs2) (by omega), Sg.rfl⟩ h219, hw.finH⟩
                                  | exact ⟨_, rfl, cut.join hs1 hs2 ⟨SR.cat (cut.p1 hs1) (cut.p2 hs2) (by omega), Sg.rfl⟩ ⟨SR.cat (cut.p3 hs1) (cut.p4 hs2) (by omega), Sg.rfl⟩, hw.finH⟩
                              · try (exact absurd c213 (by decide))
                                all_goals (first | replace c213 := of_decide_eq_false c213 | replace c213 := sbeq_f c213 | replace c213 := sbne_f c213 | replace c213 := ibeq_f c213 | replace c213 := ibne_f c213 | replace c213 := ndec_f c213 | replace c213 := not_f c213 | skip)
                                all_goals (refine k_skip ?_)
                                all_goals
                                  refine k_endvF Try.results131 .nil (fun w hw => ?_)
                                  first
                                  | exact ⟨x219, rfl, cut.join hs1 hs2 h205 h219, hw.finH⟩
                                  | exact ⟨x205, rfl, cut.join hs1 hs2 h205 ⟨SR.cat (SR.keep_hi h205.2 (Nat.le_refl _) (cut.p3 hs1)) (SR.keep_hi h205.2 (by omega) (cut.p4 hs2)) (by omega), Sg.rfl⟩, hw.finH⟩
                                  | exact ⟨x219, rfl, cut.join hs1 hs2 ⟨SR.cat (cut.p1 hs1) (cut.p2 hs2) (by omega), Sg.rfl⟩ h219, hw.finH⟩
                                  | exact ⟨_, rfl, cut.join hs1 hs2 ⟨SR.cat (cut.p1 hs1) (cut.p2 hs2) (by omega), Sg.rfl⟩ ⟨SR.cat (cut.p3 hs1) (cut.p4 hs2) (by omega), Sg.rfl⟩, hw.finH⟩
end Go.Proofs.Ythmagkjcangnfaa
