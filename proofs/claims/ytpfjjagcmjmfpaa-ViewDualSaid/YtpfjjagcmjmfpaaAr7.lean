/- Proper states: the program's check. -/
import Derived.Test.YtpfjjagcmjmfpaaAr6
import Derived.Test.YtpfjjagcmjmfpaaNode4
set_option linter.unusedSimpArgs false
set_option linter.unusedVariables false
namespace Go.Ct
/-- What a node names as its cell. -/
def cellK (n : Nd) : Option Int := if n.kind = 2 then some n.main else if n.kind = 3 ∨ n.kind = 5 ∨ n.kind = 6 then some n.prev else if n.kind = 8 then some n.status else none
def markS (u : Option (List Bool)) (n : Nd) : Option (List Bool) :=
  match u with
  | none => none
  | some u => match cellK n with
    | none => some u
    | some c => if 1 ≤ c ∧ c ≤ u.length ∧ u.getD (c - 1).toNat false = false then some (u.set (c - 1).toNat true) else none
def marks (m : Nat) (L : List NdV) : Option (List Bool) := L.foldl (fun u v => markS u v.nd) (some (List.replicate m false))
theorem marks_take {m : Nat} {L : List NdV} {k : Nat} (h : k < L.length) : marks m (L.take (k + 1)) = markS (marks m (L.take k)) (L.getD k NdV.zero).nd := by
  rw [marks, List.take_succ_eq_append_getElem h, List.foldl_append, List.getD_eq_getElem?_getD, List.getElem?_eq_getElem h]
  rfl
theorem marks_none {m : Nat} {L : List NdV} {k : Nat} (h : marks m (L.take k) = none) : marks m L = none := by
  have e : L = L.take k ++ L.drop k := (List.take_append_drop k L).symm
  rw [e, marks, List.foldl_append]
  rw [marks] at h
  rw [h]
  generalize L.drop k = l
  induction l with
  | nil => rfl
  | cons v l ih => exact ih
theorem marks_len {m : Nat} : ∀ {L : List NdV} {u : List Bool}, marks m L = some u → u.length = m := by
  intro L
  have key : ∀ (l : List NdV) (u0 : Option (List Bool)), (∀ u, u0 = some u → u.length = m) → ∀ u, l.foldl (fun u v => markS u v.nd) u0 = some u → u.length = m := by
    intro l
    induction l with
    | nil => intro u0 h u hu; exact h u hu
    | cons v l ih =>
      intro u0 h u hu
      refine ih (markS u0 v.nd) (fun u1 h1 => ?_) u hu
      cases u0 with
      | none => simp [markS] at h1
      | some u2 =>
        have := h u2 rfl
        simp only [markS] at h1
        cases hc : cellK v.nd with
        | none => rw [hc] at h1; simp only [Option.some.injEq] at h1; rw [← h1]; exact this
        | some c =>
          rw [hc] at h1
          simp only at h1
          split at h1
          · simp only [Option.some.injEq] at h1; rw [← h1, List.length_set]; exact this
          · cases h1
  intro u hu
  exact key L _ (fun u h => by simp only [Option.some.injEq] at h; rw [← h]; simp) u hu
def Ins (r : Int) (n : Nat) : Prop := 0 ≤ r ∧ r ≤ (n : Int)
instance (r : Int) (n : Nat) : Decidable (Ins r n) := inferInstanceAs (Decidable (0 ≤ r ∧ r ≤ (n : Int)))
theorem ins_le {r : Int} {n : Nat} (h : 0 ≤ r) : decide (Ins r n) = decide (r ≤ (n : Int)) := by
  by_cases h2 : r ≤ (n : Int)
  · rw [decide_eq_true h2, decide_eq_true ⟨h, h2⟩]
  · rw [decide_eq_false h2, decide_eq_false fun h3 => h2 h3.2]
def RefsIn (n : Nd) (xs : List Int) (N : Nat) : Prop := (∀ i, i < xs.length → Ins (xs.getD i 0) N) ∧ Ins n.old N ∧ Ins n.exp N ∧ Ins n.new N
def NdOk (gen : Int) (N : Nat) (v : NdV) : Prop := NdValid v.nd v.xs v.ys ∧ v.nd.gen ≤ gen ∧ RefsIn v.nd v.xs N
structure Proper (L : List NdV) (cs : List Int) (gen : Int) : Prop where
  two : 2 ≤ L.length
  gen0 : 0 ≤ gen
  m0 : (L.getD 0 NdV.zero).nd.kind = 1
  m1 : (L.getD 1 NdV.zero).nd.kind = 1
  cells : ∀ i, i < cs.length → Ins (cs.getD i 0) L.length
  nodes : ∀ i, i < L.length → NdOk gen L.length (L.getD i NdV.zero)
  marks : marks cs.length L ≠ none
end Go.Ct
namespace Go.Proofs.Ytpfjjagcmjmfpaa
open Go.RowKit Go.Ct
theorem inside_c (r : Int) (n : Nat) (w : World) : Calls Try.prog 34 #[.int .i64 r, .int .i64 ((n : Nat) : Int)] w fun e w' => e = .returned (.bool (decide (Ins r n))) ∧ St w [] [] w' := by
  refine enter Try.func34 Try.ntmps34 rfl rfl (SF.s0 w) ?_
  simp only [mkS]
  all_goals (refine k_seq ?_; refine k_region ?_; refine j_assignL (fun _ => ?_); refine l_nil ?_; refine k_seq ?_; refine k_region ?_; refine j_move ?_; refine j_geq ?_; refine j_move ?_)
  all_goals (first | refine j_un ?_ | (refine j_yes ?_; refine j_move ?_) | (refine l_case (g := 7) (by exact rfl) (fun g7 => ?_) (fun g7 => ?_) <;> (revert g7; (first | refine cv1 ?_ | refine cv2 ?_ | refine cvb ?_ | refine cvc ?_ | refine cv9 ?_ | refine cva ?_ | refine cv7 ?_ | refine cv8 ?_ | refine cvd ?_ | refine cve ?_ | skip); intro g7) <;> (first | refine j_un ?_ | (refine j_yes ?_; refine j_move ?_))))
  all_goals ((first | refine j_un ?_ | (refine j_yes ?_; refine j_move ?_)); (first | refine j_un ?_ | (refine j_yes ?_; refine j_leq ?_)); refine j_pick ?_; refine j_assignL (fun _ => ?_); refine l_nil ?_)
  all_goals
   refine k_rv Try.results34 (fun w hw => ?_)
   refine ⟨?_, hw.done⟩
   first | (rw [decide_eq_true (show Ins r n from ⟨by omega, by omega⟩)]; first | rfl | (rw [decide_eq_true (by omega)]; rfl)) | (rw [decide_eq_false (show ¬ Ins r n from fun h => by have := h.1; have := h.2; omega)]; first | rfl | (rw [decide_eq_false (by omega)]; rfl)) | (rw [ins_le (by omega)]; rfl)
theorem properRefs_c {n : Nd} {xs : List Int} {N : Nat} {w : World} (e1 : n.brN = xs.length) (ha : Cl w n.brA (refsC xs)) (hx : xs.length < 4611686018427387904) :
    Calls Try.prog 36 #[n.v, .int .i64 ((N : Nat) : Int)] w fun e w' => ∃ r : Bool, e = .returned (.bool r) ∧ (r = true ↔ RefsIn n xs N) ∧ St w [] [] w' := by
  refine enter Try.func36 Try.ntmps36 rfl rfl (SF.s1 ha) ?_
  simp only [mkS]
  simp only [Nd.v, Nd.cells, e1]
  all_goals (refine k_seq ?_; refine k_region ?_; refine j_box (fun x2 => ?_); refine j_assignL (fun _ => ?_); refine l_nil ?_; refine k_seq ?_; refine k_seq ?_; refine k_region ?_; refine j_fieldAddr ?_; refine j_load ?_; refine j_len ?_; refine j_move ?_; refine l_nil ?_; refine k_block ?_)
  all_goals
   refine k_loopF [4, 6, 10, 11, 12, 13, 14, 15, 16, 17, 18] (fun k => [(10, .int .i64 ((k : Nat) : Int))]) (fun k => k ≤ xs.length ∧ ∀ i, i < k → Ins (xs.getD i 0) N) (fun k => _) (fun _ => _) (fun _ => _) (fun k => xs.length - k) (0) (by decide) (fun _ => by exact rfl) ?_ (⟨Nat.zero_le _, fun i hi => absurd hi (Nat.not_lt_zero i)⟩) (fun w hw => hw.back) (fun k f hx => ?_)
   · repeat (first | exact knows_nil _ | refine knows_cons (by first | exact rfl | (conv => { lhs; whnf }; simp; done)) ?_)
   dsimp only [mkU, List.map, List.cons_append, List.nil_append]
   all_goals (refine k_seq ?_; refine k_region ?_; refine j_lss ?_; refine l_nil ?_; refine k_seq ?_)
   all_goals
    refine k_if (fun c11 => ?_) (fun c11 => ?_)
    · try (exact absurd c11 (by decide))
      all_goals (revert c11; (first | refine cv1 ?_ | refine cv3 ?_ | refine cv5 ?_ | refine cv7 ?_ | refine cv9 ?_ | refine cvb ?_ | refine cvd ?_ | skip); intro c11)
      all_goals (refine k_skip ?_; refine k_seq ?_; refine k_block ?_; refine k_seq ?_; refine k_region ?_; refine j_indexAddr ?_; refine j_load ?_; refine j_assignL (fun _ => ?_); refine l_nil ?_; refine k_seq ?_; refine k_region ?_; refine j_move ?_; refine j_move ?_; (refine j_own (cV (hc := fun w1 hw => inside_c _ N w1)) (fun x16 => ?_); try (refine l_fact (fun h16 => ?_))); refine j_not ?_; refine l_nil ?_)
      all_goals
       refine k_if (fun c17 => ?_) (fun c17 => ?_)
       · try (exact absurd c17 (by decide))
         all_goals (revert c17; (first | refine cv1 ?_ | refine cv3 ?_ | refine cv5 ?_ | refine cv7 ?_ | refine cv9 ?_ | refine cvb ?_ | refine cvd ?_ | skip); intro c17)
         all_goals (refine k_seq ?_; refine k_region ?_; refine j_assignL (fun _ => ?_); refine l_nil ?_)
         all_goals
          refine k_rv Try.results36 (fun w hw => ?_)
          exact ⟨false, rfl, ⟨(fun h => nomatch h), fun h => absurd (h.1 k (by omega)) (by assumption)⟩, hw.done⟩
       · try (exact absurd c17 (by decide))
         all_goals (revert c17; (first | refine cv2 ?_ | refine cv4 ?_ | refine cv6 ?_ | refine cv8 ?_ | refine cva ?_ | refine cvc ?_ | refine cve ?_ | skip); intro c17)
         all_goals (refine k_skip ?_; refine k_blk ?_; refine k_region ?_; refine j_inc ?_; refine j_move ?_; refine l_nil ?_)
         all_goals
          refine k_roundF (k + 1) ?_ ?_ (by repeat (first | (with_reducible exact Pre.refl) | refine Pre.cons (by exact rfl) ?_)) ?_ (fun w hw => hw.back)
          · first | omega | (simp only []; omega)
          · repeat' (first | exact knows_nil _ | refine knows_cons ?_ ?_)
            all_goals (first | exact rfl | (conv => { lhs; whnf }; simp; done) | (conv => { lhs; whnf }; congr 1; omega))
          · exact ⟨by omega, fun i hi => by rcases Nat.lt_succ_iff_lt_or_eq.1 hi with h | rfl; exact hx.2 i h; assumption⟩
    · try (exact absurd c11 (by decide))
      all_goals (revert c11; (first | refine cv2 ?_ | refine cv4 ?_ | refine cv6 ?_ | refine cv8 ?_ | refine cva ?_ | refine cvc ?_ | refine cve ?_ | skip); intro c11)
      all_goals (refine k_exit rfl ?_; refine k_seq ?_; refine k_region ?_; refine j_fieldAddr ?_; refine j_load ?_; refine j_move ?_; (refine j_own (cV (hc := fun w1 hw => inside_c _ N w1)) (fun x22 => ?_); try (refine l_fact (fun h22 => ?_))); refine j_move ?_)
      all_goals (first | refine j_un ?_ | (refine j_yes ?_; refine j_fieldAddr ?_) | (refine l_case (g := 23) (by exact rfl) (fun g23 => ?_) (fun g23 => ?_) <;> (revert g23; (first | refine cv1 ?_ | refine cv2 ?_ | refine cvb ?_ | refine cvc ?_ | refine cv9 ?_ | refine cva ?_ | refine cv7 ?_ | refine cv8 ?_ | refine cvd ?_ | refine cve ?_ | skip); intro g23) <;> (first | refine j_un ?_ | (refine j_yes ?_; refine j_fieldAddr ?_))))
      all_goals ((first | refine j_un ?_ | (refine j_yes ?_; refine j_load ?_)); (first | refine j_un ?_ | (refine j_yes ?_; refine j_move ?_)); ((first | refine j_un ?_ | (refine j_yes ?_; (refine j_own (cV (hc := fun w1 hw => inside_c _ N w1)) (fun x27 => ?_); try (refine l_fact (fun h27 => ?_)))))); refine j_pick ?_; refine j_move ?_)
      all_goals (first | refine j_un ?_ | (refine j_yes ?_; refine j_fieldAddr ?_) | (refine l_case (g := 29) (by exact rfl) (fun g29 => ?_) (fun g29 => ?_) <;> (revert g29; (first | refine cv1 ?_ | refine cv2 ?_ | refine cvb ?_ | refine cvc ?_ | refine cv9 ?_ | refine cva ?_ | refine cv7 ?_ | refine cv8 ?_ | refine cvd ?_ | refine cve ?_ | skip); intro g29) <;> (first | refine j_un ?_ | (refine j_yes ?_; refine j_fieldAddr ?_))))
      all_goals ((first | refine j_un ?_ | (refine j_yes ?_; refine j_load ?_)); (first | refine j_un ?_ | (refine j_yes ?_; refine j_move ?_)); ((first | refine j_un ?_ | (refine j_yes ?_; (refine j_own (cV (hc := fun w1 hw => inside_c _ N w1)) (fun x33 => ?_); try (refine l_fact (fun h33 => ?_)))))); refine j_pick ?_; refine j_assignL (fun _ => ?_); refine l_nil ?_)
      all_goals
       refine k_rv Try.results36 (fun w hw => ?_)
       have hall : ∀ i, i < xs.length → Ins (xs.getD i 0) N := fun i hi => hx.2 i (by omega)
       first | exact ⟨_, rfl, by simp_all [RefsIn], hw.done⟩
theorem cellOf_c (n : Nd) (w : World) : Calls Try.prog 37 #[n.v] w fun e w' => e = .returned (.tuple #[.int .i64 ((cellK n).getD 0), .bool (cellK n).isSome]) ∧ St w [] [] w' := by
  refine enter Try.func37 Try.ntmps37 rfl rfl (SF.s0 w) ?_
  simp only [mkS]
  simp only [Nd.v, Nd.cells]
  all_goals (refine k_seq ?_; refine k_region ?_; refine j_box (fun x1 => ?_); refine j_assignL (fun _ => ?_); refine j_assignL (fun _ => ?_); refine l_nil ?_; refine k_seq ?_; refine k_block ?_; refine k_seq ?_; refine k_region ?_; refine j_fieldAddr ?_; refine j_load ?_; refine j_eql ?_; refine j_assignL (fun _ => ?_); refine l_nil ?_)
  all_goals
   refine k_if (fun c4 => ?_) (fun c4 => ?_)
   · try (exact absurd c4 (by decide))
     all_goals (revert c4; (first | refine cv1 ?_ | refine cv3 ?_ | refine cv5 ?_ | refine cv7 ?_ | refine cv9 ?_ | refine cvb ?_ | refine cvd ?_ | skip); intro c4)
     all_goals (refine k_seq ?_; refine k_region ?_; refine j_fieldAddr ?_; refine j_load ?_; refine j_assignL (fun _ => ?_); refine j_assignL (fun _ => ?_); refine l_nil ?_)
     all_goals
      refine k_retvF Try.results37 (.tmp (by conv => { lhs; whnf }) (.tmp (by conv => { lhs; whnf }) .nil)) (fun w hw => ?_)
      refine ⟨?_, hw.done⟩
      first | (rw [show cellK n = some n.main by simp [cellK, c4]]; rfl) | (rw [show cellK n = some n.prev by simp only [cellK]; rw [if_neg c4, if_pos k22]]; rfl) | (rw [show cellK n = some n.status by simp only [cellK]; rw [if_neg c4, if_neg k22, if_pos c15]]; rfl) | (rw [show cellK n = none by simp only [cellK]; rw [if_neg c4, if_neg k22, if_neg c15]]; rfl)
   · try (exact absurd c4 (by decide))
     all_goals (revert c4; (first | refine cv2 ?_ | refine cv4 ?_ | refine cv6 ?_ | refine cv8 ?_ | refine cva ?_ | refine cvc ?_ | refine cve ?_ | skip); intro c4)
     all_goals (refine k_seq ?_; refine k_region ?_; refine j_load ?_; (refine j_own (c0 (V := .bool) (hc := fun w1 hw => main_c n w1)) (fun x12 => ?_); try (refine l_fact (fun h12 => ?_))); refine j_assignL (fun _ => ?_); refine l_nil ?_)
     all_goals
      refine k_if (fun c10 => ?_) (fun c10 => ?_)
      · try (exact absurd c10 (by decide))
        all_goals (revert c10; (first | refine cv1 ?_ | refine cv3 ?_ | refine cv5 ?_ | refine cv7 ?_ | refine cv9 ?_ | refine cvb ?_ | refine cvd ?_ | skip); intro c10)
        all_goals
         have k22 : n.kind = 3 ∨ n.kind = 5 ∨ n.kind = 6 := h12.1 c10
        all_goals (refine k_seq ?_; refine k_region ?_; refine j_fieldAddr ?_; refine j_load ?_; refine j_assignL (fun _ => ?_); refine j_assignL (fun _ => ?_); refine l_nil ?_)
        all_goals
         refine k_retvF Try.results37 (.tmp (by conv => { lhs; whnf }) (.tmp (by conv => { lhs; whnf }) .nil)) (fun w hw => ?_)
         refine ⟨?_, hw.done⟩
         first | (rw [show cellK n = some n.main by simp [cellK, c4]]; rfl) | (rw [show cellK n = some n.prev by simp only [cellK]; rw [if_neg c4, if_pos k22]]; rfl) | (rw [show cellK n = some n.status by simp only [cellK]; rw [if_neg c4, if_neg k22, if_pos c15]]; rfl) | (rw [show cellK n = none by simp only [cellK]; rw [if_neg c4, if_neg k22, if_neg c15]]; rfl)
      · try (exact absurd c10 (by decide))
        all_goals (revert c10; (first | refine cv2 ?_ | refine cv4 ?_ | refine cv6 ?_ | refine cv8 ?_ | refine cva ?_ | refine cvc ?_ | refine cve ?_ | skip); intro c10)
        all_goals
         have k22 : ¬ (n.kind = 3 ∨ n.kind = 5 ∨ n.kind = 6) := fun k => by rw [h12.2 k] at c10; cases c10
        all_goals (refine k_seq ?_; refine k_region ?_; refine j_fieldAddr ?_; refine j_load ?_; refine j_eql ?_; refine j_assignL (fun _ => ?_); refine l_nil ?_)
        all_goals
         refine k_if (fun c15 => ?_) (fun c15 => ?_)
         · try (exact absurd c15 (by decide))
           all_goals (revert c15; (first | refine cv1 ?_ | refine cv3 ?_ | refine cv5 ?_ | refine cv7 ?_ | refine cv9 ?_ | refine cvb ?_ | refine cvd ?_ | skip); intro c15)
           all_goals (refine k_seq ?_; refine k_region ?_; refine j_fieldAddr ?_; refine j_load ?_; refine j_assignL (fun _ => ?_); refine j_assignL (fun _ => ?_); refine l_nil ?_)
           all_goals
            refine k_retvF Try.results37 (.tmp (by conv => { lhs; whnf }) (.tmp (by conv => { lhs; whnf }) .nil)) (fun w hw => ?_)
            refine ⟨?_, hw.done⟩
            first | (rw [show cellK n = some n.main by simp [cellK, c4]]; rfl) | (rw [show cellK n = some n.prev by simp only [cellK]; rw [if_neg c4, if_pos k22]]; rfl) | (rw [show cellK n = some n.status by simp only [cellK]; rw [if_neg c4, if_neg k22, if_pos c15]]; rfl) | (rw [show cellK n = none by simp only [cellK]; rw [if_neg c4, if_neg k22, if_neg c15]]; rfl)
         · try (exact absurd c15 (by decide))
           all_goals (revert c15; (first | refine cv2 ?_ | refine cv4 ?_ | refine cv6 ?_ | refine cv8 ?_ | refine cva ?_ | refine cvc ?_ | refine cve ?_ | skip); intro c15)
           all_goals (refine k_skip ?_; refine k_blk ?_; refine k_seq ?_; refine k_region ?_; refine j_assignL (fun _ => ?_); refine j_assignL (fun _ => ?_); refine l_nil ?_)
           all_goals
            refine k_retvF Try.results37 (.tmp (by conv => { lhs; whnf }) (.tmp (by conv => { lhs; whnf }) .nil)) (fun w hw => ?_)
            refine ⟨?_, hw.done⟩
            first | (rw [show cellK n = some n.main by simp [cellK, c4]]; rfl) | (rw [show cellK n = some n.prev by simp only [cellK]; rw [if_neg c4, if_pos k22]]; rfl) | (rw [show cellK n = some n.status by simp only [cellK]; rw [if_neg c4, if_neg k22, if_pos c15]]; rfl) | (rw [show cellK n = none by simp only [cellK]; rw [if_neg c4, if_neg k22, if_neg c15]]; rfl)
end Go.Proofs.Ytpfjjagcmjmfpaa
