/- Tapes: choices out of a list of numbers. -/
import Derived.Test.YtpfjjagcmjmfpaaAuto
set_option linter.unusedSimpArgs false
set_option linter.unusedVariables false
namespace Go.Proofs.Ytpfjjagcmjmfpaa
open Go.RowKit Go.Ct

abbrev tpO := tapeO 63
abbrev TpAt (w : World) := TapeAt w 63
theorem mod_c (v n : Int) (w : World) (hn : IntKind.u64.wrap n ≠ 0) : Calls Try.prog 33 #[.int .i64 v, .int .i64 n] w fun e w' => e = .returned (.int .i64 (modv v n)) ∧ St w [] [] w' := by
  refine enter Try.func33 Try.ntmps33 rfl rfl (SF.s0 w) ?_
  simp only [mkS]
  all_goals (refine k_seq ?_; refine k_region ?_; refine j_assignL (fun _ => ?_); refine l_nil ?_; refine k_seq ?_; refine k_region ?_; refine j_move ?_; refine j_convert ?_; refine j_move ?_; refine j_convert ?_; refine j_rem ?_; refine j_convert ?_; refine j_assignL (fun _ => ?_); refine l_nil ?_)
  all_goals
   refine k_rv Try.results33 (fun w hw => ?_)
   exact ⟨rfl, hw.done⟩
theorem new_c {l : List Int} {a : Option Addr} {c : Nat} {w : World} : Calls Try.prog 4 #[.slice a l.length c] w fun e w' =>
    ∃ b : Nat, e = .returned (.pointer (some ⟨b, 0, none⟩)) ∧ True ∧ SF w [] [(b, tpO a l c 0)] [] [] [] w' := by
  refine enter Try.func4 Try.ntmps4 rfl rfl (SF.s0 w) ?_
  simp only [mkS]
  all_goals (refine k_seq ?_; refine k_region ?_; refine j_assignL (fun _ => ?_); refine l_nil ?_; refine k_seq ?_; refine k_region ?_; refine j_move ?_; refine j_build ?_; refine j_box (fun x5 => ?_); refine j_assignL (fun _ => ?_); refine l_nil ?_)
  all_goals
   refine k_rv Try.results4 (fun w hw => ?_)
   exact ⟨x5, rfl, trivial, hw.finH⟩
theorem next_c {l : List Int} {a : Option Addr} {b c k : Nat} {w : World} (n : Int) (ht : TpAt w b a l c k) (h0 : 0 < n) (h1 : n ≤ 9223372036854775807) :
    Calls Try.prog 19 #[.pointer (some ⟨b, 0, none⟩), .int .i64 n] w fun e w' =>
    ∃ v : Nat, e = .returned (.int .i64 ((v : Nat) : Int)) ∧ ((v : Int) < n ∧ v = tvN l k n) ∧ SF w [b] ((b, tpO a l c (tiN l k)) :: []) [] [] [] w' := by
  have hl := ht.len
  have hu : IntKind.u64.wrap n ≠ 0 := by rw [wrap_u64]; omega
  refine enter Try.func19 Try.ntmps19 rfl rfl ht.start ?_
  simp only [mkS]
  all_goals (refine k_seq ?_; refine k_region ?_; refine j_assignL (fun _ => ?_); refine l_nil ?_; refine k_seq ?_; refine k_seq ?_; refine k_drawF (.one 0 [] (.one 1 [] (.one 2 [] (.one 3 [] (.one 4 [] (.one 5 [] (.one 6 [] (.one 7 [] (.one 8 [] (.one 9 [] .nil)))))))))) ?_; refine r_move (i := 0) ?_; refine r_nilCheck (i := 1) ?_; refine r_fieldAddr (i := 2) ?_; refine r_load (i := 3) ?_; refine r_move (i := 4) ?_; refine r_nilCheck (i := 5) ?_; refine r_fieldAddr (i := 6) ?_; refine r_load (i := 7) ?_; refine r_len (i := 8) ?_; refine r_geq (i := 9) ?_; refine r_fin ?_)
  all_goals
   refine k_if (fun c14 => ?_) (fun c14 => ?_)
   · try (exact absurd c14 (by decide))
     all_goals (revert c14; (first | refine cv1 ?_ | refine cv3 ?_ | refine cv5 ?_ | refine cv7 ?_ | refine cv9 ?_ | refine cvb ?_ | refine cvd ?_ | skip); intro c14)
     all_goals (refine k_seq ?_; refine k_region ?_; refine j_assignL (fun _ => ?_); refine l_nil ?_)
     all_goals
      refine k_rv Try.results19 (fun w hw => ?_)
      exact ⟨0, rfl, ⟨by omega, by simp only [tvN]; rw [if_neg (by omega)]⟩, by simp only [tiN]; rw [if_neg (by omega)]; exact hw.finH⟩
   · try (exact absurd c14 (by decide))
     all_goals (revert c14; (first | refine cv2 ?_ | refine cv4 ?_ | refine cv6 ?_ | refine cv8 ?_ | refine cva ?_ | refine cvc ?_ | refine cve ?_ | skip); intro c14)
     all_goals (refine k_skip ?_; refine k_seq ?_; refine k_region ?_; refine j_move ?_; refine j_nilCheck ?_; refine j_fieldAddr ?_; refine j_load ?_; refine j_inc ?_; refine j_nilCheck ?_; refine j_fieldAddr ?_; refine j_store (fun _ => ?_); refine l_nil ?_; refine k_seq ?_; refine k_drawF (.one 0 [] (.one 1 [] (.one 2 [] (.one 3 [] (.one 4 [] (.one 5 [] (.one 6 [] (.one 7 [] (.one 8 [] (.one 9 [] (.one 10 [] (.one 11 [] (.one 12 [] (.one 13 [] .nil)))))))))))))) ?_; refine r_move (i := 0) ?_; refine r_nilCheck (i := 1) ?_; refine r_fieldAddr (i := 2) ?_; refine r_load (i := 3) ?_; refine r_move (i := 4) ?_; refine r_nilCheck (i := 5) ?_; refine r_fieldAddr (i := 6) ?_; refine r_load (i := 7) ?_; refine r_dec (i := 8) ?_; refine r_indexAddr (i := 9) ?_; refine r_load (i := 10) ?_; refine r_move (i := 11) ?_; ((refine r_own (i := 12) (hq := (cV (hc := fun w1 hw => mod_c (l.getD (k + 1 - 1) 0) n w1 hu))) (hfire := (fun _ => .nil)) (h := fun x34 => ?_); try (refine r_fact (fun h34 => ?_)))); refine r_assignL (i := 13) (hfire := (fun _ => .nil)) (h := fun _ => ?_); refine r_fin ?_)
     all_goals
      refine k_rv Try.results19 (fun w hw => ?_)
      have hb := modv_bound (v := l.getD k 0) h0 h1
      exact ⟨(modv (l.getD k 0) n).toNat, by rw [Int.toNat_of_nonneg hb.1]; rfl, ⟨by omega, by simp only [tvN]; rw [if_pos (by omega)]⟩, by simp only [tiN]; rw [if_pos (by omega)]; exact hw.finH⟩
theorem ref_c {l : List Int} {a : Option Addr} {b c k : Nat} {w : World} (n : Int) (ht : TpAt w b a l c k) (h0 : 0 < n) (h1 : n ≤ 1099511627776) :
    Calls Try.prog 96 #[.pointer (some ⟨b, 0, none⟩), .int .i64 n] w fun e w' =>
    ∃ v : Nat, e = .returned (.int .i64 (1 + (v : Nat) : Int)) ∧ ((v : Int) < n ∧ v = tvN l k n) ∧ SF w [b] ((b, tpO a l c (tiN l k)) :: []) [] [] [] w' := by
  refine enter Try.func96 Try.ntmps96 rfl rfl ht.start ?_
  simp only [mkS]
  all_goals (refine k_seq ?_; refine k_region ?_; refine j_assignL (fun _ => ?_); refine l_nil ?_; refine k_seq ?_; refine k_region ?_; refine j_move ?_; refine j_move ?_; (refine j_own (cF1 (hc := fun w1 hw => next_c n (hw.tape (by repeat (first | exact At.head | apply At.tail)) (by first | exact .new .head | exact .new (.tail .head) | exact .new (.tail (.tail .head)) | exact .new (.tail (.tail (.tail .head))) | exact .new (.tail (.tail (.tail (.tail .head)))) | exact .new (.tail (.tail (.tail (.tail (.tail .head))))) | exact .new (.tail (.tail (.tail (.tail (.tail (.tail .head)))))) | exact .new (.tail (.tail (.tail (.tail (.tail (.tail (.tail .head))))))) | exact .new (.tail (.tail (.tail (.tail (.tail (.tail (.tail (.tail .head)))))))) | exact .new (.tail (.tail (.tail (.tail (.tail (.tail (.tail (.tail (.tail .head))))))))) | exact .old .head | exact .old (.tail .head) | exact .old (.tail (.tail .head)) | exact .old (.tail (.tail (.tail .head))) | exact .old (.tail (.tail (.tail (.tail .head)))) | exact .old (.tail (.tail (.tail (.tail (.tail .head))))) | exact .own .head | exact .own (.tail .head) | exact .own (.tail (.tail .head)) | exact .own (.tail (.tail (.tail .head))) | exact .own (.tail (.tail (.tail (.tail .head)))) | exact .own (.tail (.tail (.tail (.tail (.tail .head))))) | exact .own (.tail (.tail (.tail (.tail (.tail (.tail .head)))))) | exact .own (.tail (.tail (.tail (.tail (.tail (.tail (.tail .head)))))))) ht.len) h0 (by omega))) (fun x7 => ?_); try (refine l_fact (fun h7 => ?_))); refine j_add ?_; refine j_assignL (fun _ => ?_); refine l_nil ?_)
  all_goals
   refine k_rv Try.results96 (fun w hw => ?_)
   exact ⟨x7, rfl, h7, hw.finH⟩
def keys8 : List ByteArray := [⟨#[97]⟩, ⟨#[98]⟩, ⟨#[99]⟩, ⟨#[100]⟩, ⟨#[97, 98]⟩, ⟨#[]⟩, ⟨#[98, 48]⟩, ⟨#[107, 101, 121]⟩]
theorem key_c {l : List Int} {a : Option Addr} {b c k : Nat} {w : World} (ht : TpAt w b a l c k) :
    Calls Try.prog 5 #[.pointer (some ⟨b, 0, none⟩)] w fun e w' =>
    ∃ v : Nat, e = .returned (.string (keys8.getD v ⟨#[]⟩)) ∧ (v < 8 ∧ v = tvN l k 8) ∧ SF w [b] ((b, tpO a l c (tiN l k)) :: []) [] [] [] w' := by
  refine enter Try.func5 Try.ntmps5 rfl rfl ht.start ?_
  simp only [mkS]
  all_goals (refine k_seq ?_; refine k_region ?_; refine j_assignL (fun _ => ?_); refine l_nil ?_; refine k_seq ?_; refine k_region ?_; refine j_buildSlice (fun x3 => ?_); refine j_move ?_; (refine j_own (cF1 (hc := fun w1 hw => next_c 8 (hw.tape (by repeat (first | exact At.head | apply At.tail)) (by first | exact .new .head | exact .new (.tail .head) | exact .new (.tail (.tail .head)) | exact .new (.tail (.tail (.tail .head))) | exact .new (.tail (.tail (.tail (.tail .head)))) | exact .new (.tail (.tail (.tail (.tail (.tail .head))))) | exact .new (.tail (.tail (.tail (.tail (.tail (.tail .head)))))) | exact .new (.tail (.tail (.tail (.tail (.tail (.tail (.tail .head))))))) | exact .new (.tail (.tail (.tail (.tail (.tail (.tail (.tail (.tail .head)))))))) | exact .new (.tail (.tail (.tail (.tail (.tail (.tail (.tail (.tail (.tail .head))))))))) | exact .old .head | exact .old (.tail .head) | exact .old (.tail (.tail .head)) | exact .old (.tail (.tail (.tail .head))) | exact .old (.tail (.tail (.tail (.tail .head)))) | exact .old (.tail (.tail (.tail (.tail (.tail .head))))) | exact .own .head | exact .own (.tail .head) | exact .own (.tail (.tail .head)) | exact .own (.tail (.tail (.tail .head))) | exact .own (.tail (.tail (.tail (.tail .head)))) | exact .own (.tail (.tail (.tail (.tail (.tail .head))))) | exact .own (.tail (.tail (.tail (.tail (.tail (.tail .head)))))) | exact .own (.tail (.tail (.tail (.tail (.tail (.tail (.tail .head)))))))) ht.len) (by decide) (by decide))) (fun x5 => ?_); try (refine l_fact (fun h5 => ?_))); refine l_quiet (o_indexS (lst := keys8) (by exact rfl) (by exact rfl) (by exact sl_of rfl) (by exact one_of rfl) (by first | exact .new .head | exact .new (.tail .head) | exact .new (.tail (.tail .head)) | exact .new (.tail (.tail (.tail .head))) | exact .new (.tail (.tail (.tail (.tail .head)))) | exact .new (.tail (.tail (.tail (.tail (.tail .head))))) | exact .new (.tail (.tail (.tail (.tail (.tail (.tail .head)))))) | exact .new (.tail (.tail (.tail (.tail (.tail (.tail (.tail .head))))))) | exact .new (.tail (.tail (.tail (.tail (.tail (.tail (.tail (.tail .head)))))))) | exact .new (.tail (.tail (.tail (.tail (.tail (.tail (.tail (.tail (.tail .head))))))))) | exact .old .head | exact .old (.tail .head) | exact .old (.tail (.tail .head)) | exact .old (.tail (.tail (.tail .head))) | exact .old (.tail (.tail (.tail (.tail .head)))) | exact .old (.tail (.tail (.tail (.tail (.tail .head))))) | exact .own .head | exact .own (.tail .head) | exact .own (.tail (.tail .head)) | exact .own (.tail (.tail (.tail .head))) | exact .own (.tail (.tail (.tail (.tail .head)))) | exact .own (.tail (.tail (.tail (.tail (.tail .head))))) | exact .own (.tail (.tail (.tail (.tail (.tail (.tail .head)))))) | exact .own (.tail (.tail (.tail (.tail (.tail (.tail (.tail .head)))))))) (by omega) (by simp only [keys8, List.length_cons, List.length_nil]; omega)) rfl ?_; refine l_quiet (o_loadS (lst := keys8) (by exact rfl) (by exact one_of rfl) (by first | exact .new .head | exact .new (.tail .head) | exact .new (.tail (.tail .head)) | exact .new (.tail (.tail (.tail .head))) | exact .new (.tail (.tail (.tail (.tail .head)))) | exact .new (.tail (.tail (.tail (.tail (.tail .head))))) | exact .new (.tail (.tail (.tail (.tail (.tail (.tail .head)))))) | exact .new (.tail (.tail (.tail (.tail (.tail (.tail (.tail .head))))))) | exact .new (.tail (.tail (.tail (.tail (.tail (.tail (.tail (.tail .head)))))))) | exact .new (.tail (.tail (.tail (.tail (.tail (.tail (.tail (.tail (.tail .head))))))))) | exact .old .head | exact .old (.tail .head) | exact .old (.tail (.tail .head)) | exact .old (.tail (.tail (.tail .head))) | exact .old (.tail (.tail (.tail (.tail .head)))) | exact .old (.tail (.tail (.tail (.tail (.tail .head))))) | exact .own .head | exact .own (.tail .head) | exact .own (.tail (.tail .head)) | exact .own (.tail (.tail (.tail .head))) | exact .own (.tail (.tail (.tail (.tail .head)))) | exact .own (.tail (.tail (.tail (.tail (.tail .head))))) | exact .own (.tail (.tail (.tail (.tail (.tail (.tail .head)))))) | exact .own (.tail (.tail (.tail (.tail (.tail (.tail (.tail .head)))))))) (by simp only [keys8, List.length_cons, List.length_nil]; omega)) rfl ?_; refine j_assignL (fun _ => ?_); refine l_nil ?_)
  all_goals
   refine k_rv Try.results5 (fun w hw => ?_)
   exact ⟨x5, rfl, ⟨by omega, h5.2⟩, hw.finH⟩
theorem keys8_size (v : Nat) : (keys8.getD v ⟨#[]⟩).size ≤ 3 := by
  by_cases h : v < 8
  · have : v = 0 ∨ v = 1 ∨ v = 2 ∨ v = 3 ∨ v = 4 ∨ v = 5 ∨ v = 6 ∨ v = 7 := by omega
    rcases this with rfl | rfl | rfl | rfl | rfl | rfl | rfl | rfl <;> decide
  · rw [List.getD, List.getElem?_eq_none (by simp only [keys8, List.length_cons, List.length_nil]; omega)]
    decide
end Go.Proofs.Ytpfjjagcmjmfpaa
