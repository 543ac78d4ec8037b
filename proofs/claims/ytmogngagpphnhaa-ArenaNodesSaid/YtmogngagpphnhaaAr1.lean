/- The small methods of the two memories: cells, generations, loads, compare-and-swaps. -/
import Derived.Test.YtmogngagpphnhaaMs1
set_option linter.unusedSimpArgs false
set_option linter.unusedVariables false
namespace Go.Proofs.Ytmogngagpphnhaa
open Go.RowKit Go.Ct
variable {w : World} {D : List Nat} {b : Nat} {L : List NdV} {cs : List Int} {gen acc : Int} {pn pc : Option Addr} {cn cc : Nat} {A : Fr}
theorem mNewCell_c (v : Int) (hs : SF w D [(b, mO L cs gen acc pn cn pc cc)] A [] (mW L cs pn cn pc cc) w) (hl : cs.length ≤ 274877906944) :
    Calls Try.prog 40 #[.pointer (some ⟨b, 0, none⟩), .int .i64 v] w fun e w' => ∃ q : Option Addr × Nat, e = .returned (.int .i64 ((cs.length + 1 : Nat) : Int)) ∧ True ∧
      SF w D [(b, mO L (cs ++ [v]) gen acc pn cn q.1 q.2)] [] [] (mW L (cs ++ [v]) pn cn q.1 q.2) w' := by
  refine enter Try.func40 Try.ntmps40 rfl rfl (mOpen hs) ?_
  simp only [mkS]
  all_goals (refine k_seq ?_)
  all_goals refine k_region ?_
  all_goals refine j_assignL (fun _ => ?_)
  all_goals refine l_nil ?_
  all_goals (refine k_seq ?_)
  all_goals refine k_region ?_
  all_goals refine j_move ?_
  all_goals refine j_move ?_
  all_goals refine j_nilCheck ?_
  all_goals refine j_fieldAddr ?_
  all_goals refine j_fieldAddr ?_
  all_goals refine j_load ?_
  all_goals refine j_move ?_
  all_goals refine j_buildSlice (fun x12 => ?_)
  all_goals (refine j_append (fun x13 => ?_); try (refine l_fact (fun h13 => ?_)))
  all_goals refine j_nilCheck ?_
  all_goals refine j_fieldAddr ?_
  all_goals refine j_fieldAddr ?_
  all_goals refine j_store (fun _ => ?_)
  all_goals refine l_nil ?_
  all_goals (refine k_seq ?_)
  all_goals refine k_region ?_
  all_goals refine j_move ?_
  all_goals refine j_nilCheck ?_
  all_goals refine j_fieldAddr ?_
  all_goals refine j_fieldAddr ?_
  all_goals refine j_load ?_
  all_goals refine j_len ?_
  all_goals refine j_assignL (fun _ => ?_)
  all_goals refine l_nil ?_
  all_goals
    refine k_retvF Try.results40 (.tmp (by conv => { lhs; whnf }) .nil) (fun w hw => ?_)
    exact ⟨x13, rfl, trivial, by simpa [mO, mW] using hw.finH (F' := [])⟩
theorem aNewCell_c (v : Int) (hs : SF w D [(b, aO L cs gen acc pn cn pc cc)] A [] (mW L cs pn cn pc cc) w) (hl : cs.length ≤ 274877906944) :
    Calls Try.prog 19 #[.pointer (some ⟨b, 0, none⟩), .int .i64 v] w fun e w' => ∃ q : Option Addr × Nat, e = .returned (.int .i64 ((cs.length + 1 : Nat) : Int)) ∧ True ∧
      SF w D [(b, aO L (cs ++ [v]) gen acc pn cn q.1 q.2)] [] [] (mW L (cs ++ [v]) pn cn q.1 q.2) w' := by
  refine enter Try.func19 Try.ntmps19 rfl rfl (aOpen hs) ?_
  simp only [mkS]
  all_goals (refine k_seq ?_)
  all_goals refine k_region ?_
  all_goals refine j_assignL (fun _ => ?_)
  all_goals refine l_nil ?_
  all_goals (refine k_seq ?_)
  all_goals refine k_region ?_
  all_goals refine j_move ?_
  all_goals refine j_move ?_
  all_goals refine j_nilCheck ?_
  all_goals refine j_fieldAddr ?_
  all_goals refine j_load ?_
  all_goals refine j_move ?_
  all_goals refine j_buildSlice (fun x11 => ?_)
  all_goals (refine j_append (fun x12 => ?_); try (refine l_fact (fun h12 => ?_)))
  all_goals refine j_nilCheck ?_
  all_goals refine j_fieldAddr ?_
  all_goals refine j_store (fun _ => ?_)
  all_goals refine l_nil ?_
  all_goals (refine k_seq ?_)
  all_goals refine k_region ?_
  all_goals refine j_move ?_
  all_goals refine j_nilCheck ?_
  all_goals refine j_fieldAddr ?_
  all_goals refine j_load ?_
  all_goals refine j_len ?_
  all_goals refine j_assignL (fun _ => ?_)
  all_goals refine l_nil ?_
  all_goals
    refine k_retvF Try.results19 (.tmp (by conv => { lhs; whnf }) .nil) (fun w hw => ?_)
    exact ⟨x12, rfl, trivial, by simpa [aO, mW] using hw.finH (F' := [])⟩
end Go.Proofs.Ytmogngagpphnhaa
