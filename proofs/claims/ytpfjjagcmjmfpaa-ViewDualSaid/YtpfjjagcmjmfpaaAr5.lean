/- Nodes of the program's arena are read; lists are cloned; the state is read. -/
import Derived.Test.YtpfjjagcmjmfpaaAr4
set_option linter.unusedSimpArgs false
set_option linter.unusedVariables false
namespace Go.Ct
theorem Cl.none_nil {w : Go.World} {cs : List Go.Value} (h : Cl w none cs) : cs = [] := by
  cases cs with
  | nil => rfl
  | cons v r => exact absurd (h.ptr (by simp)) (by simp)
theorem refsC_nil {l : List Int} (h : refsC l = []) : l = [] := by simpa [refsC] using h
theorem nvC_nil0 {L : List NdV} (h : nvC L = []) : L = [] := by
  cases L with
  | nil => rfl
  | cons v r => simp [nvC, Nd.cells] at h
theorem nodeV_mark {L : List NdV} {k : Nat} (h : k < 2) : nodeV (allV L) ((k + 1 : Nat) : Int) = markV := by
  rw [nodeV_at (by rw [allV_length]; omega)]
  rcases (show k = 0 ∨ k = 1 by omega) with rfl | rfl <;> rfl
theorem nodeV_all {L : List NdV} {k : Nat} (h : 2 ≤ k) (h2 : k < L.length + 2) : nodeV (allV L) ((k + 1 : Nat) : Int) = L.getD (k + 1 - 2 - 1) NdV.zero := by
  rw [nodeV_at (by rw [allV_length]; omega)]
  obtain ⟨j, rfl⟩ : ∃ j, k = j + 2 := ⟨k - 2, by omega⟩
  rw [show j + 2 + 1 - 2 - 1 = j by omega]
  rfl
end Go.Ct
namespace Go.Proofs.Ytpfjjagcmjmfpaa
open Go.RowKit Go.Ct
variable {w : World} {D : List Nat} {b : Nat} {L : List NdV} {cs : List Int} {gen acc : Int} {pn pc : Option Addr} {cn cc : Nat} {A : Fr}
theorem slCloneR_c {l : List Int} {a : Option Addr} {c : Nat} {w : World} (ha : Cl w a (refsC l)) (hl : l.length ≤ 274877906944) : Calls Try.prog 22 #[.slice a l.length c] w fun e w' =>
    ∃ x : Option Addr × Nat, e = .returned (.slice x.1 l.length x.2) ∧ True ∧ SF w [] [] [] [] [⟨x.1, refsC l, x.2, 29, 1⟩] w' := by
  refine enter Try.func22 Try.ntmps22 rfl rfl (SF.s1 ha) ?_
  simp only [mkS]
  all_goals (refine k_seq ?_; refine k_region ?_; refine j_assignL (fun _ => ?_); refine l_nil ?_; refine k_seq ?_; refine k_seq ?_; refine k_region ?_; refine j_move ?_; refine j_eql ?_; refine l_nil ?_)
  all_goals
   refine k_if (fun c4 => ?_) (fun c4 => ?_)
   · try (exact absurd c4 (by decide))
     all_goals (revert c4; (first | refine cv1 ?_ | refine cv3 ?_ | refine cv5 ?_ | refine cv7 ?_ | refine cv9 ?_ | refine cvb ?_ | refine cvd ?_ | skip); intro c4)
     all_goals
      have e0 : a = none := by cases a with | none => rfl | some _ => cases c4
      subst e0
      obtain rfl := refsC_nil ha.none_nil
     all_goals (refine k_seq ?_; refine k_region ?_; refine j_assignL (fun _ => ?_); refine l_nil ?_)
     all_goals
      refine k_rv Try.results22 (fun w hw => ?_)
      exact ⟨(none, 0), rfl, trivial, (hw.nilOwn 29 1).finH⟩
   · try (exact absurd c4 (by decide))
     all_goals (revert c4; (first | refine cv2 ?_ | refine cv4 ?_ | refine cv6 ?_ | refine cv8 ?_ | refine cva ?_ | refine cvc ?_ | refine cve ?_ | skip); intro c4)
     all_goals (refine k_skip ?_; refine k_seq ?_; refine k_region ?_; refine j_build0 (fun x5 => ?_); refine j_move ?_; (refine j_append (fun x7 => ?_); try (refine l_fact (fun h7 => ?_))); refine j_assignL (fun _ => ?_); refine l_nil ?_)
     all_goals
      refine k_rv Try.results22 (fun w hw => ?_)
      exact ⟨x7, by simp only [Nat.zero_add]; rfl, trivial, by simpa using hw.finH (F' := []) (H' := [])⟩
theorem aNode_no (hs : SF w D [(b, aO L cs gen acc pn cn pc cc)] A [] (mW L cs pn cn pc cc) w) (r : Int) (hr : r < 1) (hl : L.length ≤ 274877906944) :
    Calls Try.prog 30 #[.pointer (some ⟨b, 0, none⟩), .int .i64 r] w fun e w' => ∃ q : Option Addr × Option Addr, e = .returned ((nodeV (allV L) r).at_ q.1 q.2).nd.v ∧ True ∧
    SF w D [(b, aO L cs gen acc pn cn pc cc)] [] [] (mW L cs pn cn pc cc ++ [⟨q.2, prC (nodeV (allV L) r).ys, (nodeV (allV L) r).ys.length, 56, 2⟩, ⟨q.1, refsC (nodeV (allV L) r).xs, (nodeV (allV L) r).xs.length, 29, 1⟩]) w' := by
  rw [nodeV_no (by omega)]
  refine enter Try.func30 Try.ntmps30 rfl rfl (aOpen hs) ?_
  simp only [mkS]
  all_goals (refine k_seq ?_; refine k_region ?_; refine j_alloc (fun x4 => ?_); refine l_nil ?_; refine k_seq ?_; refine k_seq ?_; refine k_region ?_; refine j_move ?_; refine j_lss ?_; refine j_move ?_)
  all_goals (first | refine j_un ?_ | (refine j_yes ?_; refine j_move ?_) | (refine l_case (g := 7) (by exact rfl) (fun g7 => ?_) (fun g7 => ?_) <;> (revert g7; (first | refine cv1 ?_ | refine cv2 ?_ | refine cvb ?_ | refine cvc ?_ | refine cv9 ?_ | refine cva ?_ | refine cv7 ?_ | refine cv8 ?_ | refine cvd ?_ | refine cve ?_ | skip); intro g7) <;> (try (exfalso; omega)) <;> (first | refine j_un ?_ | (refine j_yes ?_; refine j_move ?_))))
  all_goals ((first | refine j_un ?_ | (refine j_yes ?_; refine j_move ?_)); ((first | refine j_un ?_ | (refine j_yes ?_; (refine j_own (cM (hc := fun w hs => aNodesR_c (m := L.length) hs (by omega))) (fun x10 => ?_); try (refine l_fact (fun h10 => ?_)))))); (first | refine j_un ?_ | (refine j_yes ?_; refine j_gtr ?_)); refine j_pick ?_; refine l_nil ?_)
  all_goals
   refine k_if (fun c12 => ?_) (fun c12 => ?_)
   · try (exact absurd c12 (by decide))
     all_goals (revert c12; (first | refine cv1 ?_ | refine cv3 ?_ | refine cv5 ?_ | refine cv7 ?_ | refine cv9 ?_ | refine cvb ?_ | refine cvd ?_ | skip); intro c12)
     all_goals try (exfalso; omega)
     all_goals (refine k_seq ?_; refine k_region ?_; refine j_build ?_; refine j_store (fun _ => ?_); refine l_nil ?_)
     all_goals
      refine k_retvF Try.results30 (.cell (by exact rfl) (by repeat (first | exact At.head | apply At.tail)) (by exact agg_of rfl) .nil) (fun w hw => ?_)
      exact ⟨(none, none), rfl, trivial, (hw.nil2 56 2 29 1).finH⟩
   · try (exact absurd c12 (by decide))
     all_goals (revert c12; (first | refine cv2 ?_ | refine cv4 ?_ | refine cv6 ?_ | refine cv8 ?_ | refine cva ?_ | refine cvc ?_ | refine cve ?_ | skip); intro c12)
     all_goals try (exfalso; omega)
     all_goals (refine k_skip ?_; refine k_seq ?_; refine k_seq ?_; refine k_region ?_; refine j_move ?_; refine j_leq ?_; refine l_nil ?_)
     all_goals
      refine k_if (fun c15 => ?_) (fun c15 => ?_)
      · try (exact absurd c15 (by decide))
        all_goals (revert c15; (first | refine cv1 ?_ | refine cv3 ?_ | refine cv5 ?_ | refine cv7 ?_ | refine cv9 ?_ | refine cvb ?_ | refine cvd ?_ | skip); intro c15)
        all_goals try (exfalso; omega)
        all_goals (refine k_seq ?_; refine k_region ?_; refine j_build ?_; refine j_store (fun _ => ?_); refine l_nil ?_)
        all_goals
         refine k_retvF Try.results30 (.cell (by exact rfl) (by repeat (first | exact At.head | apply At.tail)) (by exact agg_of rfl) .nil) (fun w hw => ?_)
         exact ⟨(none, none), rfl, trivial, (hw.nil2 56 2 29 1).finH⟩
      · try (exact absurd c15 (by decide))
        all_goals (revert c15; (first | refine cv2 ?_ | refine cv4 ?_ | refine cv6 ?_ | refine cv8 ?_ | refine cva ?_ | refine cvc ?_ | refine cve ?_ | skip); intro c15)
        all_goals try (exfalso; omega)
        all_goals (refine k_skip ?_; refine k_seq ?_; refine k_region ?_; refine j_move ?_; refine j_nilCheck ?_; refine j_fieldAddr ?_; refine j_load ?_; refine j_move ?_; refine j_sub ?_; refine j_dec ?_; refine j_indexAddr ?_; refine j_load ?_; (refine j_own (NO) (fun x26 => ?_); try (refine l_fact (fun h26 => ?_))); refine j_store (fun _ => ?_); refine l_nil ?_)
        all_goals
         refine k_retvF Try.results30 (.cell (by exact rfl) (by repeat (first | exact At.head | apply At.tail)) (by exact agg_of rfl) .nil) (fun w hw => ?_)
         exact ⟨(none, none), rfl, trivial, (hw.nil2 56 2 29 1).finH⟩
theorem aNode_at (hs : SF w D [(b, aO L cs gen acc pn cn pc cc)] (famF L) [] (mW L cs pn cn pc cc) w) (hf : Fits L) {k : Nat} (hk : (k : Int) < 9223372036854775807) (hl : L.length ≤ 274877906944) :
    Calls Try.prog 30 #[.pointer (some ⟨b, 0, none⟩), .int .i64 ((k + 1 : Nat) : Int)] w fun e w' => ∃ q : Option Addr × Option Addr, e = .returned ((nodeV (allV L) ((k + 1 : Nat) : Int)).at_ q.1 q.2).nd.v ∧ True ∧
    SF w D [(b, aO L cs gen acc pn cn pc cc)] [] [] (mW L cs pn cn pc cc ++ [⟨q.2, prC (nodeV (allV L) ((k + 1 : Nat) : Int)).ys, (nodeV (allV L) ((k + 1 : Nat) : Int)).ys.length, 56, 2⟩, ⟨q.1, refsC (nodeV (allV L) ((k + 1 : Nat) : Int)).xs, (nodeV (allV L) ((k + 1 : Nat) : Int)).xs.length, 29, 1⟩]) w' := by
  refine enter Try.func30 Try.ntmps30 rfl rfl (aOpen hs) ?_
  simp only [mkS]
  all_goals (refine k_seq ?_; refine k_region ?_; refine j_alloc (fun x4 => ?_); refine l_nil ?_; refine k_seq ?_; refine k_seq ?_; refine k_region ?_; refine j_move ?_; refine j_lss ?_; refine j_move ?_)
  all_goals (first | refine j_un ?_ | (refine j_yes ?_; refine j_move ?_) | (refine l_case (g := 7) (by exact rfl) (fun g7 => ?_) (fun g7 => ?_) <;> (revert g7; (first | refine cv1 ?_ | refine cv2 ?_ | refine cvb ?_ | refine cvc ?_ | refine cv9 ?_ | refine cva ?_ | refine cv7 ?_ | refine cv8 ?_ | refine cvd ?_ | refine cve ?_ | skip); intro g7) <;> (try (exfalso; omega)) <;> (first | refine j_un ?_ | (refine j_yes ?_; refine j_move ?_))))
  all_goals ((first | refine j_un ?_ | (refine j_yes ?_; refine j_move ?_)); ((first | refine j_un ?_ | (refine j_yes ?_; (refine j_own (cM (hc := fun w hs => aNodesR_c (m := L.length) hs (by omega))) (fun x10 => ?_); try (refine l_fact (fun h10 => ?_)))))); (first | refine j_un ?_ | (refine j_yes ?_; refine j_gtr ?_)); refine j_pick ?_; refine l_nil ?_)
  all_goals
   refine k_if (fun c12 => ?_) (fun c12 => ?_)
   · try (exact absurd c12 (by decide))
     all_goals (revert c12; (first | refine cv1 ?_ | refine cv3 ?_ | refine cv5 ?_ | refine cv7 ?_ | refine cv9 ?_ | refine cvb ?_ | refine cvd ?_ | skip); intro c12)
     all_goals try (exfalso; omega)
     all_goals (refine k_seq ?_; refine k_region ?_; refine j_build ?_; refine j_store (fun _ => ?_); refine l_nil ?_)
     all_goals
      refine k_retvF Try.results30 (.cell (by exact rfl) (by repeat (first | exact At.head | apply At.tail)) (by exact agg_of rfl) .nil) (fun w hw => ?_)
      exact ⟨(none, none), by rw [nodeV_no (by rw [allV_length]; omega)]; rfl, trivial, by rw [nodeV_no (by rw [allV_length]; omega)]; exact (hw.nil2 56 2 29 1).finH⟩
   · try (exact absurd c12 (by decide))
     all_goals (revert c12; (first | refine cv2 ?_ | refine cv4 ?_ | refine cv6 ?_ | refine cv8 ?_ | refine cva ?_ | refine cvc ?_ | refine cve ?_ | skip); intro c12)
     all_goals try (exfalso; omega)
     all_goals (refine k_skip ?_; refine k_seq ?_; refine k_seq ?_; refine k_region ?_; refine j_move ?_; refine j_leq ?_; refine l_nil ?_)
     all_goals
      refine k_if (fun c15 => ?_) (fun c15 => ?_)
      · try (exact absurd c15 (by decide))
        all_goals (revert c15; (first | refine cv1 ?_ | refine cv3 ?_ | refine cv5 ?_ | refine cv7 ?_ | refine cv9 ?_ | refine cvb ?_ | refine cvd ?_ | skip); intro c15)
        all_goals try (exfalso; omega)
        all_goals (refine k_seq ?_; refine k_region ?_; refine j_build ?_; refine j_store (fun _ => ?_); refine l_nil ?_)
        all_goals
         refine k_retvF Try.results30 (.cell (by exact rfl) (by repeat (first | exact At.head | apply At.tail)) (by exact agg_of rfl) .nil) (fun w hw => ?_)
         exact ⟨(none, none), by rw [nodeV_mark (by omega)]; rfl, trivial, by rw [nodeV_mark (by omega)]; exact (hw.nil2 56 2 29 1).finH⟩
      · try (exact absurd c15 (by decide))
        all_goals (revert c15; (first | refine cv2 ?_ | refine cv4 ?_ | refine cv6 ?_ | refine cv8 ?_ | refine cva ?_ | refine cvc ?_ | refine cve ?_ | skip); intro c15)
        all_goals try (exfalso; omega)
        all_goals (refine k_skip ?_; refine k_seq ?_; refine k_region ?_; refine j_move ?_; refine j_nilCheck ?_; refine j_fieldAddr ?_; refine j_load ?_; refine j_move ?_; refine l_quiet (by first | exact o_subN (n := 2) (by exact rfl) (by exact rfl) (by omega) (by omega) | exact o_dec (by exact rfl) (by exact rfl) (by omega) (by omega)) rfl ?_; refine l_quiet (by first | exact o_subN (n := 2) (by exact rfl) (by exact rfl) (by omega) (by omega) | exact o_dec (by exact rfl) (by exact rfl) (by omega) (by omega)) rfl ?_; refine j_indexAddr ?_; refine j_load ?_; (refine j_own (cFH (Hc := fun _ => []) (Fc := fun _ => []) (V := fun p : Option Addr × Option Addr => ((L.getD (k + 1 - 2 - 1) NdV.zero).at_ p.1 p.2).nd.v) (hc := fun w1 hw => clone_o (hw.repA0 hf (by omega)) (hf.at (by omega)).brS (hf.at (by omega)).prS)) (fun x26 => ?_); try (refine l_fact (fun h26 => ?_))); refine j_store (fun _ => ?_); refine l_nil ?_)
        all_goals
         refine k_retvF Try.results30 (.cell (by exact rfl) (by repeat (first | exact At.head | apply At.tail)) (by exact agg_of rfl) .nil) (fun w hw => ?_)
         exact ⟨x26, by rw [nodeV_all (by omega) (by omega)]; rfl, trivial, by rw [nodeV_all (by omega) (by omega)]; exact hw.toEnd.finH⟩
end Go.Proofs.Ytpfjjagcmjmfpaa
