/- Loops over slices that are read: contracts. -/
import Derived.Test.YtpfjjagcmjmfpaaSpec
import Derived.Test.YtpfjjagcmjmfpaaAuto
set_option linter.unusedSimpArgs false
set_option linter.unusedVariables false
namespace Go.Proofs.Ytpfjjagcmjmfpaa
open Go.RowKit Go.Ct

theorem beq_of_take {α} [BEq α] [LawfulBEq α] {xs ys : List α} {k : Nat} (h : xs.length = ys.length) (hk : ¬ k < xs.length) (ht : xs.take k = ys.take k) : (xs == ys) = true := by
  rw [List.take_of_length_le (by omega), List.take_of_length_le (by omega)] at ht
  simp [ht]
theorem beq_of_len {α} [BEq α] [LawfulBEq α] {xs ys : List α} (h : xs.length ≠ ys.length) : (xs == ys) = false := by
  simp only [beq_eq_false_iff_ne, ne_eq]
  intro e; rw [e] at h; exact h rfl
theorem beq_of_get {α} [BEq α] [LawfulBEq α] {xs ys : List α} {k : Nat} {d : α} (h : xs.getD k d ≠ ys.getD k d) : (xs == ys) = false := by
  simp only [beq_eq_false_iff_ne, ne_eq]
  intro e; rw [e] at h; exact h rfl
theorem dec_of_take {α} [DecidableEq α] {xs ys : List α} {k : Nat} (h : xs.length = ys.length) (hk : ¬ k < xs.length) (ht : xs.take k = ys.take k) : decide (xs = ys) = true := by
  rw [List.take_of_length_le (by omega), List.take_of_length_le (by omega)] at ht
  simp [ht]
theorem dec_of_len {α} [DecidableEq α] {xs ys : List α} (h : xs.length ≠ ys.length) : decide (xs = ys) = false := decide_eq_false fun e => h (by rw [e])
theorem dec_of_get {α} [DecidableEq α] {xs ys : List α} {k : Nat} {d : α} (h : xs.getD k d ≠ ys.getD k d) : decide (xs = ys) = false := decide_eq_false fun e => h (by rw [e])
theorem take_next {α} {xs ys : List α} {k : Nat} {d : α} (h : xs.take k = ys.take k) (hk : k < xs.length) (hl : xs.length = ys.length) (he : xs.getD k d = ys.getD k d) : xs.take (k + 1) = ys.take (k + 1) := by
  rw [List.take_add_one, List.take_add_one, h, List.getElem?_eq_getElem hk, List.getElem?_eq_getElem (hl ▸ hk)]
  simp only [List.getD, List.getElem?_eq_getElem hk, List.getElem?_eq_getElem (hl ▸ hk : k < ys.length), Option.getD_some] at he
  rw [he]

theorem refs_c {xs ys : List Int} {a b : Option Addr} {ca cb : Nat} {w : World} (ha : Cl w a (refsC xs)) (hb : Cl w b (refsC ys)) (hx : xs.length < 4611686018427387904) :
    Calls Try.prog 32 #[.slice a xs.length ca, .slice b ys.length cb] w fun e w' => e = .returned (.bool (xs == ys)) ∧ St w [] [] w' := by
  refine enter Try.func32 Try.ntmps32 rfl rfl (SF.s2 ha hb) ?_
  simp only [mkS]
  all_goals (refine k_seq ?_; refine k_region ?_; refine j_assignL (fun _ => ?_); refine l_nil ?_; refine k_seq ?_; refine k_seq ?_; refine k_region ?_; refine j_move ?_; refine j_len ?_; refine j_move ?_; refine j_len ?_; refine j_neq ?_; refine l_nil ?_)
  all_goals
   refine k_if (fun c10 => ?_) (fun c10 => ?_)
   · try (exact absurd c10 (by decide))
     all_goals (revert c10; (first | refine cv1 ?_ | refine cv3 ?_ | refine cv5 ?_ | refine cv7 ?_ | refine cv9 ?_ | refine cvb ?_ | refine cvd ?_ | skip); intro c10)
     all_goals (refine k_seq ?_; refine k_region ?_; refine j_assignL (fun _ => ?_); refine l_nil ?_)
     all_goals
      refine k_rv Try.results32 (fun w hw => ?_)
      exact ⟨by rw [beq_of_len (by omega)]; rfl, hw.done⟩
   · try (exact absurd c10 (by decide))
     all_goals (revert c10; (first | refine cv2 ?_ | refine cv4 ?_ | refine cv6 ?_ | refine cv8 ?_ | refine cva ?_ | refine cvc ?_ | refine cve ?_ | skip); intro c10)
     all_goals (refine k_skip ?_; refine k_seq ?_; refine k_seq ?_; refine k_region ?_; refine j_assignL (fun _ => ?_); refine l_nil ?_; refine k_block ?_)
     all_goals
      refine k_loopC [4, 5, 11, 12, 13, 14, 15, 16, 17, 18, 19, 20, 21, 22, 23, 24, 25] (fun k => [(5, .int .i64 ((k : Nat) : Int))]) (fun k => k ≤ xs.length ∧ xs.take k = ys.take k) (fun k => xs.length - k) (0) (⟨Nat.zero_le _, by simp⟩) ?_ (fun k f hx => ?_)
      · repeat (first | exact knows_nil _ | refine knows_cons (by first | exact rfl | (conv => { lhs; whnf }; simp; done)) ?_)
      dsimp only [mkU, List.map, List.cons_append, List.nil_append]
      all_goals (refine k_seq ?_; refine k_seq ?_; refine k_region ?_; refine j_move ?_; refine j_move ?_; refine j_len ?_; refine j_lss ?_; refine l_nil ?_)
      all_goals
       refine k_if (fun c14 => ?_) (fun c14 => ?_)
       · try (exact absurd c14 (by decide))
         all_goals (revert c14; (first | refine cv1 ?_ | refine cv3 ?_ | refine cv5 ?_ | refine cv7 ?_ | refine cv9 ?_ | refine cvb ?_ | refine cvd ?_ | skip); intro c14)
         all_goals (refine k_skip ?_; refine k_seq ?_; refine k_block ?_; refine k_seq ?_; refine k_drawF (.one 0 [] (.one 1 [] (.one 2 [] (.one 3 [] (.one 4 [] (.one 5 [] (.one 6 [] (.one 7 [] (.one 8 [] .nil))))))))) ?_; refine r_move (i := 0) ?_; refine r_move (i := 1) ?_; refine r_indexAddr (i := 2) ?_; refine r_load (i := 3) ?_; refine r_move (i := 4) ?_; refine r_move (i := 5) ?_; refine r_indexAddr (i := 6) ?_; refine r_load (i := 7) ?_; refine r_neq (i := 8) ?_; refine r_fin ?_)
         all_goals
          refine k_if (fun c25 => ?_) (fun c25 => ?_)
          · try (exact absurd c25 (by decide))
            all_goals (revert c25; (first | refine cv1 ?_ | refine cv3 ?_ | refine cv5 ?_ | refine cv7 ?_ | refine cv9 ?_ | refine cvb ?_ | refine cvd ?_ | skip); intro c25)
            all_goals (refine k_seq ?_; refine k_region ?_; refine j_assignL (fun _ => ?_); refine l_nil ?_)
            all_goals
             refine k_rv Try.results32 (fun w hw => ?_)
             exact ⟨by rw [beq_of_get c25]; rfl, hw.done⟩
          · try (exact absurd c25 (by decide))
            all_goals (revert c25; (first | refine cv2 ?_ | refine cv4 ?_ | refine cv6 ?_ | refine cv8 ?_ | refine cva ?_ | refine cvc ?_ | refine cve ?_ | skip); intro c25)
            all_goals (refine k_skip ?_; refine k_blk ?_; refine k_region ?_; refine j_move ?_; refine j_inc ?_; refine j_assignL (fun _ => ?_); refine l_nil ?_)
            all_goals
             refine k_roundC (k + 1) ?_ ?_ ?_
             · first | omega | (simp only []; omega)
             · repeat' (first | exact knows_nil _ | refine knows_cons ?_ ?_)
               all_goals (first | exact rfl | (conv => { lhs; whnf }; simp; done) | (conv => { lhs; whnf }; congr 1; omega))
             · exact ⟨by omega, take_next hx.2 (by omega) (by omega) c25⟩
       · try (exact absurd c14 (by decide))
         all_goals (revert c14; (first | refine cv2 ?_ | refine cv4 ?_ | refine cv6 ?_ | refine cv8 ?_ | refine cva ?_ | refine cvc ?_ | refine cve ?_ | skip); intro c14)
         all_goals (refine k_exit rfl ?_; refine k_seq ?_; refine k_region ?_; refine j_assignL (fun _ => ?_); refine l_nil ?_)
         all_goals
          refine k_rv Try.results32 (fun w hw => ?_)
          exact ⟨by rw [beq_of_take (k := k) (by omega) (by omega) hx.2]; rfl, hw.done⟩

theorem prs_c {xs ys : List Pr} {a b : Option Addr} {ca cb : Nat} {w : World} (ha : Cl w a (prC xs)) (hb : Cl w b (prC ys)) (hx : xs.length < 4611686018427387904) :
    Calls Try.prog 18 #[.slice a xs.length ca, .slice b ys.length cb] w fun e w' => e = .returned (.bool (decide (xs = ys))) ∧ St w [] [] w' := by
  refine enter Try.func18 Try.ntmps18 rfl rfl (SF.s2 ha hb) ?_
  simp only [mkS]
  all_goals (refine k_seq ?_; refine k_region ?_; refine j_assignL (fun _ => ?_); refine l_nil ?_; refine k_seq ?_; refine k_seq ?_; refine k_region ?_; refine j_move ?_; refine j_len ?_; refine j_move ?_; refine j_len ?_; refine j_neq ?_; refine l_nil ?_)
  all_goals
   refine k_if (fun c10 => ?_) (fun c10 => ?_)
   · try (exact absurd c10 (by decide))
     all_goals (revert c10; (first | refine cv1 ?_ | refine cv3 ?_ | refine cv5 ?_ | refine cv7 ?_ | refine cv9 ?_ | refine cvb ?_ | refine cvd ?_ | skip); intro c10)
     all_goals (refine k_seq ?_; refine k_region ?_; refine j_assignL (fun _ => ?_); refine l_nil ?_)
     all_goals
      refine k_rv Try.results18 (fun w hw => ?_)
      exact ⟨by rw [dec_of_len (by omega)]; rfl, hw.done⟩
   · try (exact absurd c10 (by decide))
     all_goals (revert c10; (first | refine cv2 ?_ | refine cv4 ?_ | refine cv6 ?_ | refine cv8 ?_ | refine cva ?_ | refine cvc ?_ | refine cve ?_ | skip); intro c10)
     all_goals (refine k_skip ?_; refine k_seq ?_; refine k_seq ?_; refine k_region ?_; refine j_assignL (fun _ => ?_); refine l_nil ?_; refine k_block ?_)
     all_goals
      refine k_loopC [4, 5, 11, 12, 13, 14, 15, 16, 17, 18, 19, 20, 21, 22, 23, 24, 25] (fun k => [(5, .int .i64 ((k : Nat) : Int))]) (fun k => k ≤ xs.length ∧ xs.take k = ys.take k) (fun k => xs.length - k) (0) (⟨Nat.zero_le _, by simp⟩) ?_ (fun k f hx => ?_)
      · repeat (first | exact knows_nil _ | refine knows_cons (by first | exact rfl | (conv => { lhs; whnf }; simp; done)) ?_)
      dsimp only [mkU, List.map, List.cons_append, List.nil_append]
      all_goals (refine k_seq ?_; refine k_seq ?_; refine k_region ?_; refine j_move ?_; refine j_move ?_; refine j_len ?_; refine j_lss ?_; refine l_nil ?_)
      all_goals
       refine k_if (fun c14 => ?_) (fun c14 => ?_)
       · try (exact absurd c14 (by decide))
         all_goals (revert c14; (first | refine cv1 ?_ | refine cv3 ?_ | refine cv5 ?_ | refine cv7 ?_ | refine cv9 ?_ | refine cvb ?_ | refine cvd ?_ | skip); intro c14)
         all_goals (refine k_skip ?_; refine k_seq ?_; refine k_block ?_; refine k_seq ?_; refine k_drawF (.one 0 [] (.one 1 [] (.one 2 [] (.one 3 [] (.one 4 [] (.one 5 [] (.one 6 [] (.one 7 [] (.one 8 [] .nil))))))))) ?_; refine r_move (i := 0) ?_; refine r_move (i := 1) ?_; refine r_indexAddr (i := 2) ?_; refine r_load (i := 3) ?_; refine r_move (i := 4) ?_; refine r_move (i := 5) ?_; refine r_indexAddr (i := 6) ?_; refine r_load (i := 7) ?_; refine r_neqPr (i := 8) ?_; refine r_fin ?_)
         all_goals
          refine k_if (fun c25 => ?_) (fun c25 => ?_)
          · try (exact absurd c25 (by decide))
            all_goals (revert c25; (first | refine cv1 ?_ | refine cv3 ?_ | refine cv5 ?_ | refine cv7 ?_ | refine cv9 ?_ | refine cvb ?_ | refine cvd ?_ | skip); intro c25)
            all_goals (refine k_seq ?_; refine k_region ?_; refine j_assignL (fun _ => ?_); refine l_nil ?_)
            all_goals
             refine k_rv Try.results18 (fun w hw => ?_)
             exact ⟨by rw [dec_of_get fun h => c25 ⟨congrArg Prod.fst h, congrArg Prod.snd h⟩]; rfl, hw.done⟩
          · try (exact absurd c25 (by decide))
            all_goals (revert c25; (first | refine cv2 ?_ | refine cv4 ?_ | refine cv6 ?_ | refine cv8 ?_ | refine cva ?_ | refine cvc ?_ | refine cve ?_ | skip); intro c25)
            all_goals (refine k_skip ?_; refine k_blk ?_; refine k_region ?_; refine j_move ?_; refine j_inc ?_; refine j_assignL (fun _ => ?_); refine l_nil ?_)
            all_goals
             refine k_roundC (k + 1) ?_ ?_ ?_
             · first | omega | (simp only []; omega)
             · repeat' (first | exact knows_nil _ | refine knows_cons ?_ ?_)
               all_goals (first | exact rfl | (conv => { lhs; whnf }; simp; done) | (conv => { lhs; whnf }; congr 1; omega))
             · exact ⟨by omega, take_next hx.2 (by omega) (by omega) (Prod.ext c25.1 c25.2)⟩
       · try (exact absurd c14 (by decide))
         all_goals (revert c14; (first | refine cv2 ?_ | refine cv4 ?_ | refine cv6 ?_ | refine cv8 ?_ | refine cva ?_ | refine cvc ?_ | refine cve ?_ | skip); intro c14)
         all_goals (refine k_exit rfl ?_; refine k_seq ?_; refine k_region ?_; refine j_assignL (fun _ => ?_); refine l_nil ?_)
         all_goals
          refine k_rv Try.results18 (fun w hw => ?_)
          exact ⟨by rw [dec_of_take (k := k) (by omega) (by omega) hx.2]; rfl, hw.done⟩
theorem slRef_c {xs ys : List Int} {a b : Option Addr} {ca cb : Nat} {w : World} (ha : Cl w a (refsC xs)) (hb : Cl w b (refsC ys)) (hx : xs.length < 4611686018427387904) :
    Calls Try.prog 67 #[.slice a xs.length ca, .slice b ys.length cb] w fun e w' => e = .returned (.bool (xs == ys)) ∧ St w [] [] w' := by
  refine enter Try.func67 Try.ntmps67 rfl rfl (SF.s2 ha hb) ?_
  simp only [mkS]
  all_goals (refine k_seq ?_; refine k_region ?_; refine j_assignL (fun _ => ?_); refine l_nil ?_; refine k_seq ?_; refine k_seq ?_; refine k_region ?_; refine j_move ?_; refine j_len ?_; refine j_move ?_; refine j_len ?_; refine j_neq ?_; refine l_nil ?_)
  all_goals
   refine k_if (fun c10 => ?_) (fun c10 => ?_)
   · try (exact absurd c10 (by decide))
     all_goals (revert c10; (first | refine cv1 ?_ | refine cv3 ?_ | refine cv5 ?_ | refine cv7 ?_ | refine cv9 ?_ | refine cvb ?_ | refine cvd ?_ | skip); intro c10)
     all_goals (refine k_seq ?_; refine k_region ?_; refine j_assignL (fun _ => ?_); refine l_nil ?_)
     all_goals
      refine k_rv Try.results67 (fun w hw => ?_)
      exact ⟨by rw [beq_of_len (by omega)]; rfl, hw.done⟩
   · try (exact absurd c10 (by decide))
     all_goals (revert c10; (first | refine cv2 ?_ | refine cv4 ?_ | refine cv6 ?_ | refine cv8 ?_ | refine cva ?_ | refine cvc ?_ | refine cve ?_ | skip); intro c10)
     all_goals (refine k_skip ?_; refine k_seq ?_; refine k_seq ?_; refine k_region ?_; refine j_move ?_; refine j_len ?_; refine j_move ?_; refine l_nil ?_; refine k_block ?_)
     all_goals
      refine k_loopC [4, 5, 13, 14, 15, 16, 17, 18, 19, 20, 21, 22, 23, 24, 25] (fun k => [(13, .int .i64 ((k : Nat) : Int))]) (fun k => k ≤ xs.length ∧ xs.take k = ys.take k) (fun k => xs.length - k) (0) (⟨Nat.zero_le _, by simp⟩) ?_ (fun k f hx => ?_)
      · repeat (first | exact knows_nil _ | refine knows_cons (by first | exact rfl | (conv => { lhs; whnf }; simp; done)) ?_)
      dsimp only [mkU, List.map, List.cons_append, List.nil_append]
      all_goals (refine k_seq ?_; refine k_region ?_; refine j_lss ?_; refine l_nil ?_; refine k_seq ?_)
      all_goals
       refine k_if (fun c14 => ?_) (fun c14 => ?_)
       · try (exact absurd c14 (by decide))
         all_goals (revert c14; (first | refine cv1 ?_ | refine cv3 ?_ | refine cv5 ?_ | refine cv7 ?_ | refine cv9 ?_ | refine cvb ?_ | refine cvd ?_ | skip); intro c14)
         all_goals (refine k_skip ?_; refine k_seq ?_; refine k_block ?_; refine k_seq ?_; refine k_region ?_; refine j_move ?_; refine j_assignL (fun _ => ?_); refine l_nil ?_; refine k_seq ?_; refine k_drawF (.one 0 [] (.one 1 [] (.one 2 [] (.one 3 [] (.one 4 [] (.one 5 [] (.one 6 [] (.one 7 [] (.one 8 [] .nil))))))))) ?_; refine r_move (i := 0) ?_; refine r_move (i := 1) ?_; refine r_indexAddr (i := 2) ?_; refine r_load (i := 3) ?_; refine r_move (i := 4) ?_; refine r_move (i := 5) ?_; refine r_indexAddr (i := 6) ?_; refine r_load (i := 7) ?_; refine r_neq (i := 8) ?_; refine r_fin ?_)
         all_goals
          refine k_if (fun c24 => ?_) (fun c24 => ?_)
          · try (exact absurd c24 (by decide))
            all_goals (revert c24; (first | refine cv1 ?_ | refine cv3 ?_ | refine cv5 ?_ | refine cv7 ?_ | refine cv9 ?_ | refine cvb ?_ | refine cvd ?_ | skip); intro c24)
            all_goals (refine k_seq ?_; refine k_region ?_; refine j_assignL (fun _ => ?_); refine l_nil ?_)
            all_goals
             refine k_rv Try.results67 (fun w hw => ?_)
             exact ⟨by rw [beq_of_get c24]; rfl, hw.done⟩
          · try (exact absurd c24 (by decide))
            all_goals (revert c24; (first | refine cv2 ?_ | refine cv4 ?_ | refine cv6 ?_ | refine cv8 ?_ | refine cva ?_ | refine cvc ?_ | refine cve ?_ | skip); intro c24)
            all_goals (refine k_skip ?_; refine k_blk ?_; refine k_region ?_; refine j_inc ?_; refine j_move ?_; refine l_nil ?_)
            all_goals
             refine k_roundC (k + 1) ?_ ?_ ?_
             · first | omega | (simp only []; omega)
             · repeat' (first | exact knows_nil _ | refine knows_cons ?_ ?_)
               all_goals (first | exact rfl | (conv => { lhs; whnf }; simp; done) | (conv => { lhs; whnf }; congr 1; omega))
             · exact ⟨by omega, take_next hx.2 (by omega) (by omega) c24⟩
       · try (exact absurd c14 (by decide))
         all_goals (revert c14; (first | refine cv2 ?_ | refine cv4 ?_ | refine cv6 ?_ | refine cv8 ?_ | refine cva ?_ | refine cvc ?_ | refine cve ?_ | skip); intro c14)
         all_goals (refine k_exit rfl ?_; refine k_seq ?_; refine k_region ?_; refine j_assignL (fun _ => ?_); refine l_nil ?_)
         all_goals
          refine k_rv Try.results67 (fun w hw => ?_)
          exact ⟨by rw [beq_of_take (k := k) (by omega) (by omega) hx.2]; rfl, hw.done⟩
theorem slPr_c {xs ys : List Pr} {a b : Option Addr} {ca cb : Nat} {w : World} (ha : Cl w a (prC xs)) (hb : Cl w b (prC ys)) (hx : xs.length < 4611686018427387904) :
    Calls Try.prog 68 #[.slice a xs.length ca, .slice b ys.length cb] w fun e w' => e = .returned (.bool (decide (xs = ys))) ∧ St w [] [] w' := by
  refine enter Try.func68 Try.ntmps68 rfl rfl (SF.s2 ha hb) ?_
  simp only [mkS]
  all_goals (refine k_seq ?_; refine k_region ?_; refine j_assignL (fun _ => ?_); refine l_nil ?_; refine k_seq ?_; refine k_seq ?_; refine k_region ?_; refine j_move ?_; refine j_len ?_; refine j_move ?_; refine j_len ?_; refine j_neq ?_; refine l_nil ?_)
  all_goals
   refine k_if (fun c10 => ?_) (fun c10 => ?_)
   · try (exact absurd c10 (by decide))
     all_goals (revert c10; (first | refine cv1 ?_ | refine cv3 ?_ | refine cv5 ?_ | refine cv7 ?_ | refine cv9 ?_ | refine cvb ?_ | refine cvd ?_ | skip); intro c10)
     all_goals (refine k_seq ?_; refine k_region ?_; refine j_assignL (fun _ => ?_); refine l_nil ?_)
     all_goals
      refine k_rv Try.results68 (fun w hw => ?_)
      exact ⟨by rw [dec_of_len (by omega)]; rfl, hw.done⟩
   · try (exact absurd c10 (by decide))
     all_goals (revert c10; (first | refine cv2 ?_ | refine cv4 ?_ | refine cv6 ?_ | refine cv8 ?_ | refine cva ?_ | refine cvc ?_ | refine cve ?_ | skip); intro c10)
     all_goals (refine k_skip ?_; refine k_seq ?_; refine k_seq ?_; refine k_region ?_; refine j_move ?_; refine j_len ?_; refine j_move ?_; refine l_nil ?_; refine k_block ?_)
     all_goals
      refine k_loopC [4, 5, 13, 14, 15, 16, 17, 18, 19, 20, 21, 22, 23, 24, 25] (fun k => [(13, .int .i64 ((k : Nat) : Int))]) (fun k => k ≤ xs.length ∧ xs.take k = ys.take k) (fun k => xs.length - k) (0) (⟨Nat.zero_le _, by simp⟩) ?_ (fun k f hx => ?_)
      · repeat (first | exact knows_nil _ | refine knows_cons (by first | exact rfl | (conv => { lhs; whnf }; simp; done)) ?_)
      dsimp only [mkU, List.map, List.cons_append, List.nil_append]
      all_goals (refine k_seq ?_; refine k_region ?_; refine j_lss ?_; refine l_nil ?_; refine k_seq ?_)
      all_goals
       refine k_if (fun c14 => ?_) (fun c14 => ?_)
       · try (exact absurd c14 (by decide))
         all_goals (revert c14; (first | refine cv1 ?_ | refine cv3 ?_ | refine cv5 ?_ | refine cv7 ?_ | refine cv9 ?_ | refine cvb ?_ | refine cvd ?_ | skip); intro c14)
         all_goals (refine k_skip ?_; refine k_seq ?_; refine k_block ?_; refine k_seq ?_; refine k_region ?_; refine j_move ?_; refine j_assignL (fun _ => ?_); refine l_nil ?_; refine k_seq ?_; refine k_drawF (.one 0 [] (.one 1 [] (.one 2 [] (.one 3 [] (.one 4 [] (.one 5 [] (.one 6 [] (.one 7 [] (.one 8 [] .nil))))))))) ?_; refine r_move (i := 0) ?_; refine r_move (i := 1) ?_; refine r_indexAddr (i := 2) ?_; refine r_load (i := 3) ?_; refine r_move (i := 4) ?_; refine r_move (i := 5) ?_; refine r_indexAddr (i := 6) ?_; refine r_load (i := 7) ?_; refine r_neqPr (i := 8) ?_; refine r_fin ?_)
         all_goals
          refine k_if (fun c24 => ?_) (fun c24 => ?_)
          · try (exact absurd c24 (by decide))
            all_goals (revert c24; (first | refine cv1 ?_ | refine cv3 ?_ | refine cv5 ?_ | refine cv7 ?_ | refine cv9 ?_ | refine cvb ?_ | refine cvd ?_ | skip); intro c24)
            all_goals (refine k_seq ?_; refine k_region ?_; refine j_assignL (fun _ => ?_); refine l_nil ?_)
            all_goals
             refine k_rv Try.results68 (fun w hw => ?_)
             exact ⟨by rw [dec_of_get fun h => c24 ⟨congrArg Prod.fst h, congrArg Prod.snd h⟩]; rfl, hw.done⟩
          · try (exact absurd c24 (by decide))
            all_goals (revert c24; (first | refine cv2 ?_ | refine cv4 ?_ | refine cv6 ?_ | refine cv8 ?_ | refine cva ?_ | refine cvc ?_ | refine cve ?_ | skip); intro c24)
            all_goals (refine k_skip ?_; refine k_blk ?_; refine k_region ?_; refine j_inc ?_; refine j_move ?_; refine l_nil ?_)
            all_goals
             refine k_roundC (k + 1) ?_ ?_ ?_
             · first | omega | (simp only []; omega)
             · repeat' (first | exact knows_nil _ | refine knows_cons ?_ ?_)
               all_goals (first | exact rfl | (conv => { lhs; whnf }; simp; done) | (conv => { lhs; whnf }; congr 1; omega))
             · exact ⟨by omega, take_next hx.2 (by omega) (by omega) (Prod.ext c24.1 c24.2)⟩
       · try (exact absurd c14 (by decide))
         all_goals (revert c14; (first | refine cv2 ?_ | refine cv4 ?_ | refine cv6 ?_ | refine cv8 ?_ | refine cva ?_ | refine cvc ?_ | refine cve ?_ | skip); intro c14)
         all_goals (refine k_exit rfl ?_; refine k_seq ?_; refine k_region ?_; refine j_assignL (fun _ => ?_); refine l_nil ?_)
         all_goals
          refine k_rv Try.results68 (fun w hw => ?_)
          exact ⟨by rw [dec_of_take (k := k) (by omega) (by omega) hx.2]; rfl, hw.done⟩
end Go.Proofs.Ytpfjjagcmjmfpaa
