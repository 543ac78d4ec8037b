/- Loops over slices that are read: contracts, the second part. -/
import Derived.Test.YtpfjjagcmjmfpaaSlices
set_option linter.unusedSimpArgs false
set_option linter.unusedVariables false
namespace Go.Proofs.Ytpfjjagcmjmfpaa
open Go.RowKit Go.Ct

theorem copy_all (l : List Pr) : (made zPair l.length).take 0 ++ prC l ++ (made zPair l.length).drop (0 + (prC l).length) = prC l := by
  rw [List.drop_eq_nil_of_le (by rw [made_length, prC_length]; simp [zPair]; omega)]
  simp
theorem copy_allR (l : List Int) : (made [.int .i64 0] l.length).take 0 ++ refsC l ++ (made [.int .i64 0] l.length).drop (0 + (refsC l).length) = refsC l := by
  rw [List.drop_eq_nil_of_le (by rw [made_length]; simp [refsC])]
  simp
theorem allNodes_c {xs : List Int} {a : Option Addr} {ca : Nat} {w : World} (ha : Cl w a (refsC xs)) (hx : xs.length < 4611686018427387904) :
    Calls Try.prog 55 #[.slice a xs.length ca] w fun e w' => ∃ r : Bool, e = .returned (.bool r) ∧ (r = true ↔ Pos xs) ∧ St w [] [] w' := by
  refine enter Try.func55 Try.ntmps55 rfl rfl (SF.s1 ha) ?_
  simp only [mkS]
  all_goals (refine k_seq ?_; refine k_region ?_; refine j_assignL (fun _ => ?_); refine l_nil ?_; refine k_seq ?_; refine k_seq ?_; refine k_region ?_; refine j_move ?_; refine j_len ?_; refine j_move ?_; refine l_nil ?_; refine k_block ?_)
  all_goals
   refine k_loopC [2, 4, 7, 8, 9, 10, 11, 12, 13] (fun k => [(7, .int .i64 ((k : Nat) : Int))]) (fun k => k ≤ xs.length ∧ ∀ i, i < k → 1 ≤ xs.getD i 0) (fun k => xs.length - k) (0) (⟨Nat.zero_le _, fun i hi => absurd hi (Nat.not_lt_zero i)⟩) ?_ (fun k f hx => ?_)
   · repeat (first | exact knows_nil _ | refine knows_cons (by first | exact rfl | (conv => { lhs; whnf }; simp; done)) ?_)
   dsimp only [mkU, List.map, List.cons_append, List.nil_append]
   all_goals (refine k_seq ?_; refine k_region ?_; refine j_lss ?_; refine l_nil ?_; refine k_seq ?_)
   all_goals
    refine k_if (fun c8 => ?_) (fun c8 => ?_)
    · try (exact absurd c8 (by decide))
      all_goals (revert c8; (first | refine cv1 ?_ | refine cv3 ?_ | refine cv5 ?_ | refine cv7 ?_ | refine cv9 ?_ | refine cvb ?_ | refine cvd ?_ | skip); intro c8)
      all_goals (refine k_skip ?_; refine k_seq ?_; refine k_block ?_; refine k_seq ?_; refine k_region ?_; refine j_indexAddr ?_; refine j_load ?_; refine j_assignL (fun _ => ?_); refine l_nil ?_; refine k_seq ?_; refine k_region ?_; refine j_move ?_; refine j_lss ?_; refine l_nil ?_)
      all_goals
       refine k_if (fun c12 => ?_) (fun c12 => ?_)
       · try (exact absurd c12 (by decide))
         all_goals (revert c12; (first | refine cv1 ?_ | refine cv3 ?_ | refine cv5 ?_ | refine cv7 ?_ | refine cv9 ?_ | refine cvb ?_ | refine cvd ?_ | skip); intro c12)
         all_goals (refine k_seq ?_; refine k_region ?_; refine j_assignL (fun _ => ?_); refine l_nil ?_)
         all_goals
          refine k_rv Try.results55 (fun w hw => ?_)
          exact ⟨_, rfl, by simp only [Bool.false_eq_true, false_iff]; intro h; have := h k (by omega); omega, hw.done⟩
       · try (exact absurd c12 (by decide))
         all_goals (revert c12; (first | refine cv2 ?_ | refine cv4 ?_ | refine cv6 ?_ | refine cv8 ?_ | refine cva ?_ | refine cvc ?_ | refine cve ?_ | skip); intro c12)
         all_goals (refine k_skip ?_; refine k_blk ?_; refine k_region ?_; refine j_inc ?_; refine j_move ?_; refine l_nil ?_)
         all_goals
          refine k_roundC (k + 1) ?_ ?_ ?_
          · first | omega | (simp only []; omega)
          · repeat' (first | exact knows_nil _ | refine knows_cons ?_ ?_)
            all_goals (first | exact rfl | (conv => { lhs; whnf }; simp; done) | (conv => { lhs; whnf }; congr 1; omega))
          · exact ⟨by omega, fun i hi => by rcases Nat.lt_succ_iff_lt_or_eq.1 hi with h | rfl; exact hx.2 i h; omega⟩
    · try (exact absurd c8 (by decide))
      all_goals (revert c8; (first | refine cv2 ?_ | refine cv4 ?_ | refine cv6 ?_ | refine cv8 ?_ | refine cva ?_ | refine cvc ?_ | refine cve ?_ | skip); intro c8)
      all_goals (refine k_exit rfl ?_; refine k_seq ?_; refine k_region ?_; refine j_assignL (fun _ => ?_); refine l_nil ?_)
      all_goals
       refine k_rv Try.results55 (fun w hw => ?_)
       exact ⟨_, rfl, by simp only [true_iff]; intro i hi; exact hx.2 i (by omega), hw.done⟩
theorem shortKeys_c {l : List Pr} {a : Option Addr} {ca : Nat} {w : World} (ha : Cl w a (prC l)) (hx : l.length < 4611686018427387904) :
    Calls Try.prog 57 #[.slice a l.length ca] w fun e w' => ∃ r : Bool, e = .returned (.bool r) ∧ (r = true ↔ Short l) ∧ St w [] [] w' := by
  refine enter Try.func57 Try.ntmps57 rfl rfl (SF.s1 ha) ?_
  simp only [mkS]
  all_goals (refine k_seq ?_; refine k_region ?_; refine j_assignL (fun _ => ?_); refine l_nil ?_; refine k_seq ?_; refine k_seq ?_; refine k_region ?_; refine j_move ?_; refine j_len ?_; refine j_move ?_; refine l_nil ?_; refine k_block ?_)
  all_goals
   refine k_loopC [2, 4, 7, 8, 9, 10, 11, 12, 13, 14, 15] (fun k => [(7, .int .i64 ((k : Nat) : Int))]) (fun k => k ≤ l.length ∧ ∀ i, i < k → (l.getD i (⟨#[]⟩, 0)).1.size ≤ 64) (fun k => l.length - k) (0) (⟨Nat.zero_le _, fun i hi => absurd hi (Nat.not_lt_zero i)⟩) ?_ (fun k f hx => ?_)
   · repeat (first | exact knows_nil _ | refine knows_cons (by first | exact rfl | (conv => { lhs; whnf }; simp; done)) ?_)
   dsimp only [mkU, List.map, List.cons_append, List.nil_append]
   all_goals (refine k_seq ?_; refine k_region ?_; refine j_lss ?_; refine l_nil ?_; refine k_seq ?_)
   all_goals
    refine k_if (fun c8 => ?_) (fun c8 => ?_)
    · try (exact absurd c8 (by decide))
      all_goals (revert c8; (first | refine cv1 ?_ | refine cv3 ?_ | refine cv5 ?_ | refine cv7 ?_ | refine cv9 ?_ | refine cvb ?_ | refine cvd ?_ | skip); intro c8)
      all_goals (refine k_skip ?_; refine k_seq ?_; refine k_block ?_; refine k_seq ?_; refine k_region ?_; refine j_indexAddr ?_; refine j_load ?_; refine j_alloc (fun x4 => ?_); refine j_store (fun _ => ?_); refine l_nil ?_; refine k_seq ?_; refine k_region ?_; refine j_fieldAddr ?_; refine j_load ?_; refine j_lenStr ?_; refine j_gtr ?_; refine l_nil ?_)
      all_goals
       refine k_if (fun c14 => ?_) (fun c14 => ?_)
       · try (exact absurd c14 (by decide))
         all_goals (revert c14; (first | refine cv1 ?_ | refine cv3 ?_ | refine cv5 ?_ | refine cv7 ?_ | refine cv9 ?_ | refine cvb ?_ | refine cvd ?_ | skip); intro c14)
         all_goals (refine k_seq ?_; refine k_region ?_; refine j_assignL (fun _ => ?_); refine l_nil ?_)
         all_goals
          refine k_rv Try.results57 (fun w hw => ?_)
          exact ⟨_, rfl, by simp only [Bool.false_eq_true, false_iff]; intro h; have := h k (by omega); omega, hw.done⟩
       · try (exact absurd c14 (by decide))
         all_goals (revert c14; (first | refine cv2 ?_ | refine cv4 ?_ | refine cv6 ?_ | refine cv8 ?_ | refine cva ?_ | refine cvc ?_ | refine cve ?_ | skip); intro c14)
         all_goals (refine k_skip ?_; refine k_blk ?_; refine k_region ?_; refine j_inc ?_; refine j_move ?_; refine l_nil ?_)
         all_goals
          refine k_roundC (k + 1) ?_ ?_ ?_
          · first | omega | (simp only []; omega)
          · repeat' (first | exact knows_nil _ | refine knows_cons ?_ ?_)
            all_goals (first | exact rfl | (conv => { lhs; whnf }; simp; done) | (conv => { lhs; whnf }; congr 1; omega))
          · exact ⟨by omega, fun i hi => by rcases Nat.lt_succ_iff_lt_or_eq.1 hi with h | rfl; exact hx.2 i h; omega⟩
    · try (exact absurd c8 (by decide))
      all_goals (revert c8; (first | refine cv2 ?_ | refine cv4 ?_ | refine cv6 ?_ | refine cv8 ?_ | refine cva ?_ | refine cvc ?_ | refine cve ?_ | skip); intro c8)
      all_goals (refine k_exit rfl ?_; refine k_seq ?_; refine k_region ?_; refine j_assignL (fun _ => ?_); refine l_nil ?_)
      all_goals
       refine k_rv Try.results57 (fun w hw => ?_)
       exact ⟨_, rfl, by simp only [true_iff]; intro i hi; exact hx.2 i (by omega), hw.done⟩
theorem prValid_c {l : List Pr} {a : Option Addr} {ca : Nat} {w : World} (ha : Cl w a (prC l)) (hx : l.length < 4611686018427387904) :
    Calls Try.prog 56 #[.slice a l.length ca] w fun e w' => ∃ r : Bool, e = .returned (.bool r) ∧ (r = true ↔ Asc l) ∧ St w [] [] w' := by
  refine enter Try.func56 Try.ntmps56 rfl rfl (SF.s1 ha) ?_
  simp only [mkS]
  all_goals (refine k_seq ?_; refine k_region ?_; refine j_assignL (fun _ => ?_); refine l_nil ?_; refine k_seq ?_; refine k_seq ?_; refine k_region ?_; refine j_assignL (fun _ => ?_); refine l_nil ?_; refine k_block ?_)
  all_goals
   refine k_loopC [2, 3, 4, 5, 6, 7, 8, 9, 10, 11, 12, 13, 14, 15, 16, 17, 18, 19, 20, 21] (fun k => [(3, .int .i64 ((k : Nat) : Int))]) (fun k => 1 ≤ k ∧ k ≤ l.length + 1 ∧ ∀ i, 1 ≤ i → i < k → sless (l.getD (i - 1) (⟨#[]⟩, 0)).1 (l.getD i (⟨#[]⟩, 0)).1 = true) (fun k => l.length - k) (1) (⟨Nat.le_refl _, by omega, fun i h1 hi => by omega⟩) ?_ (fun k f hx => ?_)
   · repeat (first | exact knows_nil _ | refine knows_cons (by first | exact rfl | (conv => { lhs; whnf }; simp; done)) ?_)
   dsimp only [mkU, List.map, List.cons_append, List.nil_append]
   all_goals (refine k_seq ?_; refine k_seq ?_; refine k_region ?_; refine j_move ?_; refine j_move ?_; refine j_len ?_; refine j_lss ?_; refine l_nil ?_)
   all_goals
    refine k_if (fun c7 => ?_) (fun c7 => ?_)
    · try (exact absurd c7 (by decide))
      all_goals (revert c7; (first | refine cv1 ?_ | refine cv3 ?_ | refine cv5 ?_ | refine cv7 ?_ | refine cv9 ?_ | refine cvb ?_ | refine cvd ?_ | skip); intro c7)
      all_goals (refine k_skip ?_; refine k_seq ?_; refine k_block ?_; refine k_seq ?_; refine k_drawF (.one 0 [] (.one 1 [] (.one 2 [] (.one 3 [] (.one 4 [] (.one 5 [] (.one 6 [] (.one 7 [] (.one 8 [] (.one 9 [] (.one 10 [] (.one 11 [] .nil)))))))))))) ?_; refine r_move (i := 0) ?_; refine r_move (i := 1) ?_; refine r_dec (i := 2) ?_; refine r_indexAddr (i := 3) ?_; refine r_fieldAddr (i := 4) ?_; refine r_load (i := 5) ?_; refine r_move (i := 6) ?_; refine r_move (i := 7) ?_; refine r_indexAddr (i := 8) ?_; refine r_fieldAddr (i := 9) ?_; refine r_load (i := 10) ?_; refine r_geqStr (i := 11) ?_; refine r_fin ?_)
      all_goals
       refine k_if (fun c21 => ?_) (fun c21 => ?_)
       · try (exact absurd c21 (by decide))
         all_goals (revert c21; (first | refine cv1 ?_ | refine cv3 ?_ | refine cv5 ?_ | refine cv7 ?_ | refine cv9 ?_ | refine cvb ?_ | refine cvd ?_ | skip); intro c21)
         all_goals (refine k_seq ?_; refine k_region ?_; refine j_assignL (fun _ => ?_); refine l_nil ?_)
         all_goals
          refine k_rv Try.results56 (fun w hw => ?_)
          exact ⟨_, rfl, by simp only [Bool.false_eq_true, false_iff]; intro h; have := h k (by omega) (by omega); rw [c21] at this; exact Bool.noConfusion this, hw.done⟩
       · try (exact absurd c21 (by decide))
         all_goals (revert c21; (first | refine cv2 ?_ | refine cv4 ?_ | refine cv6 ?_ | refine cv8 ?_ | refine cva ?_ | refine cvc ?_ | refine cve ?_ | skip); intro c21)
         all_goals (refine k_skip ?_; refine k_blk ?_; refine k_region ?_; refine j_move ?_; refine j_inc ?_; refine j_assignL (fun _ => ?_); refine l_nil ?_)
         all_goals
          refine k_roundC (k + 1) ?_ ?_ ?_
          · first | omega | (simp only []; omega)
          · repeat' (first | exact knows_nil _ | refine knows_cons ?_ ?_)
            all_goals (first | exact rfl | (conv => { lhs; whnf }; simp; done) | (conv => { lhs; whnf }; congr 1; omega))
          · exact ⟨by omega, by omega, fun i h1 hi => by rcases Nat.lt_succ_iff_lt_or_eq.1 hi with h | rfl; exact hx.2.2 i h1 h; exact c21⟩
    · try (exact absurd c7 (by decide))
      all_goals (revert c7; (first | refine cv2 ?_ | refine cv4 ?_ | refine cv6 ?_ | refine cv8 ?_ | refine cva ?_ | refine cvc ?_ | refine cve ?_ | skip); intro c7)
      all_goals (refine k_exit rfl ?_; refine k_seq ?_; refine k_region ?_; refine j_assignL (fun _ => ?_); refine l_nil ?_)
      all_goals
       refine k_rv Try.results56 (fun w hw => ?_)
       exact ⟨_, rfl, by simp only [true_iff]; intro i h1 hi; exact hx.2.2 i h1 (by omega), hw.done⟩
end Go.Proofs.Ytpfjjagcmjmfpaa
