/- The example of the chapter. -/
import Derived.Test.YtmogngagpphnhaaArS
set_option linter.unusedSimpArgs false
set_option linter.unusedVariables false
namespace Go.Proofs.Ytmogngagpphnhaa
open Go.RowKit Go.Ct
variable {w : World} {D : List Nat} {b : Nat} {L : List NdV} {cs : List Int} {gen acc : Int} {pn pc : Option Addr} {cn cc : Nat} {A : Fr}
theorem aCAS_to {cs' : List Int} (hs : SF w D [(b, aO L cs gen acc pn cn pc cc)] A [] (mW L cs pn cn pc cc) w) (c old new : Int) (hc : c ≤ 9223372036854775807) (hl : cs.length ≤ 274877906944) (r : Bool) (hr : r = true ↔ CasOk cs c old) (h' : casL cs c old new = cs') :
    Calls Try.prog 22 #[.pointer (some ⟨b, 0, none⟩), .int .i64 c, .int .i64 old, .int .i64 new] w fun e w' => ∃ q : Unit, e = .returned (.bool r) ∧ True ∧ SF w D [(b, aO L cs' gen (up acc) pn cn pc cc)] [] [] (mW L cs' pn cn pc cc) w' :=
  (aCAS_c hs c old new hc hl).mono fun e w' ⟨r', he, h1, h2⟩ => ⟨(), by rw [he, Bool.eq_iff_iff.2 (h1.trans hr.symm)], trivial, by rw [← h']; exact h2⟩
theorem aNode1_c {v : NdV} (hs : SF w D [(b, aO [v] cs gen acc pn cn pc cc)] v.fr [] (mW [v] cs pn cn pc cc) w) (hf : v.Fit) :
    Calls Try.prog 31 #[.pointer (some ⟨b, 0, none⟩), .int .i64 3] w fun e w' => ∃ q : Option Addr × Option Addr, e = .returned (.agg ⟨(v.at_ q.1 q.2).nd.cells⟩) ∧ True ∧
    SF w D [(b, aO [v] cs gen acc pn cn pc cc)] [] [] (mW [v] cs pn cn pc cc ++ [⟨q.2, prC v.ys, v.ys.length, 67, 2⟩, ⟨q.1, refsC v.xs, v.xs.length, 39, 1⟩]) w' :=
  aNode_c (L := [v]) (by simpa [famF] using hs) (fun u hu => by simp only [List.mem_singleton] at hu; rw [hu]; exact hf) 3 (by decide) (by simp)
theorem aAlloc1_c (hs : SF w D [(b, aO [] [] gen acc pn cn pc cc)] [(none, refsC []), (none, prC [])] [] (mW [] [] pn cn pc cc) w) :
    Calls Try.prog 33 #[.pointer (some ⟨b, 0, none⟩), ({ Nd.zero with kind := 2, gen := 1 } : Nd).v, .int .i64 0] w fun e w' => ∃ x : NdV × AX, e = .returned (.int .i64 3) ∧ (x.1.Fit ∧ x.1.nd.main = 1) ∧
      SF w D [(b, aO [x.1] [0] gen acc x.2.pn x.2.cn x.2.pc x.2.cc)] [] x.1.fr (mW [x.1] [0] x.2.pn x.2.cn x.2.pc x.2.cc) w' :=
  (aAlloc_c (n := { Nd.zero with kind := 2, gen := 1 }) (xs := []) (ys := []) 0 hs rfl rfl (by decide) (by decide) (by decide) (by decide)).mono fun e w' ⟨x, he, _, h2⟩ => ⟨(alV { Nd.zero with kind := 2, gen := 1 } [] [] 0 x, x), he, ⟨fit_al (by decide) (by decide), rfl⟩, h2⟩
theorem awake5_c (w : World) : Calls Try.prog 23 #[] w fun e w' => e = .returned (.bool true) ∧ St w [] [] w' := by
  refine enter Try.func23 Try.ntmps23 rfl rfl (SF.s0 w) ?_
  simp only [mkS]
  all_goals (refine k_seq ?_)
  all_goals refine k_region ?_
  all_goals refine j_assignL (fun _ => ?_)
  all_goals refine l_nil ?_
  all_goals (refine k_seq ?_)
  all_goals refine k_region ?_
  all_goals (refine j_own (cFH (Fc := fun _ => []) (hc := fun w1 hw => aNew_c w1)) (fun x3 => ?_); try (refine l_fact (fun h3 => ?_)))
  all_goals refine j_assignL (fun _ => ?_)
  all_goals refine l_nil ?_
  all_goals (refine k_seq ?_)
  all_goals (refine k_seq ?_)
  all_goals refine k_region ?_
  all_goals refine j_move ?_
  all_goals refine j_eql ?_
  all_goals refine l_nil ?_
  all_goals
    refine k_cond (by exact rfl) (fun c5 => ?_) (fun c5 => ?_)
    · try (exact absurd c5 (by decide))
      all_goals (revert c5; (first | refine cv1 ?_ | refine cv3 ?_ | refine cv5 ?_ | refine cv7 ?_ | refine cv9 ?_ | refine cvb ?_ | refine cvd ?_ | skip); intro c5)
      all_goals try (exfalso; first | omega | exact g17 h8.2)
      all_goals
        cases c5
      all_goals (refine k_seq ?_)
      all_goals refine k_region ?_
      all_goals refine j_assignL (fun _ => ?_)
      all_goals refine l_nil ?_
      all_goals
        refine k_retvF Try.results23 (.tmp (by conv => { lhs; whnf }) .nil) (fun w hw => ?_)
        exact ⟨rfl, hw.done⟩
    · try (exact absurd c5 (by decide))
      all_goals (revert c5; (first | refine cv2 ?_ | refine cv4 ?_ | refine cv6 ?_ | refine cv8 ?_ | refine cva ?_ | refine cvc ?_ | refine cve ?_ | skip); intro c5)
      all_goals try (exfalso; first | omega | exact g17 h8.2)
      all_goals (refine k_skip ?_)
      all_goals (refine k_seq ?_)
      all_goals refine k_region ?_
      all_goals refine j_move ?_
      all_goals refine j_build ?_
      all_goals (refine j_own (cM (φ := fun x : NdV × AX => x.1.Fit ∧ x.1.nd.main = 1) (hc := fun w hs => aAlloc1_c hs)) (fun x8 => ?_); try (refine l_fact (fun h8 => ?_)))
      all_goals refine j_assignL (fun _ => ?_)
      all_goals refine l_nil ?_
      all_goals (refine k_seq ?_)
      all_goals refine k_region ?_
      all_goals refine j_move ?_
      all_goals refine j_eql ?_
      all_goals refine j_move ?_
      all_goals (first | refine j_un ?_ | (refine j_yes ?_; refine j_move ?_) | (refine l_case (g := 11) (by exact rfl) (fun g11 => ?_) (fun g11 => ?_) <;> (revert g11; (first | refine cv1 ?_ | refine cv2 ?_ | refine cvb ?_ | refine cvc ?_ | refine cv9 ?_ | refine cva ?_ | refine cv7 ?_ | refine cv8 ?_ | refine cvd ?_ | refine cve ?_ | skip); intro g11) <;> (try (exfalso; first | omega | exact g17 h8.2)) <;> (first | refine j_un ?_ | (refine j_yes ?_; refine j_move ?_))))
      all_goals (first | refine j_un ?_ | (refine j_yes ?_; (refine j_own (cMO (A0 := x8.1.fr) (hA := HasAll.of fun f hf => .inr (.inr (.inl (List.mem_append_left _ hf)))) (hc := fun w hs => aNode1_c hs h8.1)) (fun x13 => ?_); try (refine l_fact (fun h13 => ?_)))))
      all_goals (first | refine j_un ?_ | (refine j_yes ?_; refine j_field ?_))
      all_goals (first | refine j_un ?_ | (refine j_yes ?_; refine j_eql ?_))
      all_goals refine j_pick ?_
      all_goals refine j_move ?_
      all_goals (first | refine j_un ?_ | (refine j_yes ?_; refine j_move ?_) | (refine l_case (g := 17) (by exact rfl) (fun g17 => ?_) (fun g17 => ?_) <;> (revert g17; (first | refine cv1 ?_ | refine cv2 ?_ | refine cvb ?_ | refine cvc ?_ | refine cv9 ?_ | refine cva ?_ | refine cv7 ?_ | refine cv8 ?_ | refine cvd ?_ | refine cve ?_ | skip); intro g17) <;> (try (exfalso; first | omega | exact g17 h8.2)) <;> (first | refine j_un ?_ | (refine j_yes ?_; refine j_move ?_))))
      all_goals (first | refine j_un ?_ | (refine j_yes ?_; (refine j_own (cM (hc := fun w hs => aCAS_to (L := [x8.1]) (cs := [0]) (cs' := [2]) hs 1 0 2 (by decide) (by decide) true (by unfold CasOk; decide) (by decide))) (fun x19 => ?_); try (refine l_fact (fun h19 => ?_)))))
      all_goals refine j_pick ?_
      all_goals refine j_move ?_
      all_goals (first | refine j_un ?_ | (refine j_yes ?_; refine j_move ?_) | (refine l_case (g := 21) (by exact rfl) (fun g21 => ?_) (fun g21 => ?_) <;> (revert g21; (first | refine cv1 ?_ | refine cv2 ?_ | refine cvb ?_ | refine cvc ?_ | refine cv9 ?_ | refine cva ?_ | refine cv7 ?_ | refine cv8 ?_ | refine cvd ?_ | refine cve ?_ | skip); intro g21) <;> (try (exfalso; first | omega | exact g17 h8.2)) <;> (first | refine j_un ?_ | (refine j_yes ?_; refine j_move ?_))))
      all_goals (first | refine j_un ?_ | (refine j_yes ?_; (refine j_own (cM (hc := fun w hs => aCAS_to (L := [x8.1]) (cs := [2]) (cs' := [2]) hs 1 0 2 (by decide) (by decide) false (by unfold CasOk; decide) (by decide))) (fun x23 => ?_); try (refine l_fact (fun h23 => ?_)))))
      all_goals (first | refine j_un ?_ | (refine j_yes ?_; refine j_not ?_))
      all_goals refine j_pick ?_
      all_goals refine j_move ?_
      all_goals (first | refine j_un ?_ | (refine j_yes ?_; refine j_move ?_) | (refine l_case (g := 26) (by exact rfl) (fun g26 => ?_) (fun g26 => ?_) <;> (revert g26; (first | refine cv1 ?_ | refine cv2 ?_ | refine cvb ?_ | refine cvc ?_ | refine cv9 ?_ | refine cva ?_ | refine cv7 ?_ | refine cv8 ?_ | refine cvd ?_ | refine cve ?_ | skip); intro g26) <;> (try (exfalso; first | omega | exact g17 h8.2)) <;> (first | refine j_un ?_ | (refine j_yes ?_; refine j_move ?_))))
      all_goals (first | refine j_un ?_ | (refine j_yes ?_; (refine j_own (cM (hc := fun w hs => aLoad_c (L := [x8.1]) (cs := [2]) hs 1 (by decide) (by decide))) (fun x28 => ?_); try (refine l_fact (fun h28 => ?_)))))
      all_goals (first | refine j_un ?_ | (refine j_yes ?_; refine j_eql ?_))
      all_goals refine j_pick ?_
      all_goals refine j_assignL (fun _ => ?_)
      all_goals refine l_nil ?_
      all_goals
        refine k_retvF Try.results23 (.tmp (by conv => { lhs; whnf }) .nil) (fun w hw => ?_)
        exact ⟨rfl, hw.done⟩
end Go.Proofs.Ytmogngagpphnhaa
