/- The small methods of the two memories: cells, generations, loads, compare-and-swaps. -/
import Derived.Test.YtpfjjagcmjmfpaaMs1

set_option linter.unusedSimpArgs false
set_option linter.unusedVariables false
namespace Go.Proofs.Ytpfjjagcmjmfpaa
open Go.RowKit Go.Ct
variable {w : World} {D : List Nat} {b : Nat} {L : List NdV} {cs : List Int} {gen acc : Int} {pn pc : Option Addr} {cn cc : Nat} {A : Fr}
theorem mNewCell_c (v : Int) (hs : SF w D [(b, mO L cs gen acc pn cn pc cc)] A [] (mW L cs pn cn pc cc) w) (hl : cs.length ≤ 274877906944) :
    Calls Try.prog 20 #[.pointer (some ⟨b, 0, none⟩), .int .i64 v] w fun e w' => ∃ q : Option Addr × Nat, e = .returned (.int .i64 ((cs.length + 1 : Nat) : Int)) ∧ True ∧
      SF w D [(b, mO L (cs ++ [v]) gen acc pn cn q.1 q.2)] [] [] (mW L (cs ++ [v]) pn cn q.1 q.2) w' := by
  refine enter Try.func20 Try.ntmps20 rfl rfl (mOpen hs) ?_
  simp only [mkS]
  all_goals (refine k_seq ?_; refine k_region ?_; refine j_assignL (fun _ => ?_); refine l_nil ?_; refine k_seq ?_; refine k_region ?_; refine j_move ?_; refine j_move ?_; refine j_nilCheck ?_; refine j_fieldAddr ?_; refine j_fieldAddr ?_; refine j_load ?_; refine j_move ?_; refine j_buildSlice (fun x12 => ?_); (refine j_append (fun x13 => ?_); try (refine l_fact (fun h13 => ?_))); refine j_nilCheck ?_; refine j_fieldAddr ?_; refine j_fieldAddr ?_; refine j_store (fun _ => ?_); refine l_nil ?_; refine k_seq ?_; refine k_region ?_; refine j_move ?_; refine j_nilCheck ?_; refine j_fieldAddr ?_; refine j_fieldAddr ?_; refine j_load ?_; refine j_len ?_; refine j_assignL (fun _ => ?_); refine l_nil ?_)
  all_goals
   refine k_rv Try.results20 (fun w hw => ?_)
   exact ⟨x13, rfl, trivial, by simpa [mO, mW] using hw.finH (F' := [])⟩
theorem aNewCell_c (v : Int) (hs : SF w D [(b, aO L cs gen acc pn cn pc cc)] A [] (mW L cs pn cn pc cc) w) (hl : cs.length ≤ 274877906944) :
    Calls Try.prog 10 #[.pointer (some ⟨b, 0, none⟩), .int .i64 v] w fun e w' => ∃ q : Option Addr × Nat, e = .returned (.int .i64 ((cs.length + 1 : Nat) : Int)) ∧ True ∧
      SF w D [(b, aO L (cs ++ [v]) gen acc pn cn q.1 q.2)] [] [] (mW L (cs ++ [v]) pn cn q.1 q.2) w' := by
  refine enter Try.func10 Try.ntmps10 rfl rfl (aOpen hs) ?_
  simp only [mkS]
  all_goals (refine k_seq ?_; refine k_region ?_; refine j_assignL (fun _ => ?_); refine l_nil ?_; refine k_seq ?_; refine k_region ?_; refine j_move ?_; refine j_move ?_; refine j_nilCheck ?_; refine j_fieldAddr ?_; refine j_load ?_; refine j_move ?_; refine j_buildSlice (fun x11 => ?_); (refine j_append (fun x12 => ?_); try (refine l_fact (fun h12 => ?_))); refine j_nilCheck ?_; refine j_fieldAddr ?_; refine j_store (fun _ => ?_); refine l_nil ?_; refine k_seq ?_; refine k_region ?_; refine j_move ?_; refine j_nilCheck ?_; refine j_fieldAddr ?_; refine j_load ?_; refine j_len ?_; refine j_assignL (fun _ => ?_); refine l_nil ?_)
  all_goals
   refine k_rv Try.results10 (fun w hw => ?_)
   exact ⟨x12, rfl, trivial, by simpa [aO, mW] using hw.finH (F' := [])⟩
end Go.Proofs.Ytpfjjagcmjmfpaa

/- The small methods of the two memories: generations, loads, compare-and-swaps. -/
set_option linter.unusedSimpArgs false
set_option linter.unusedVariables false
namespace Go.Ct
/-- What a load of a cell returns; whether a compare-and-swap succeeds, and what it leaves. -/
def cellV (cs : List Int) (c : Int) : Int := if 1 ≤ c ∧ c ≤ cs.length then cs.getD (c - 1).toNat 0 else 0
def CasOk (cs : List Int) (c old : Int) : Prop := 1 ≤ c ∧ c ≤ cs.length ∧ cs.getD (c - 1).toNat 0 = old
def casL (cs : List Int) (c old new : Int) : List Int := if 1 ≤ c ∧ c ≤ cs.length ∧ cs.getD (c - 1).toNat 0 = old then cs.set (c - 1).toNat new else cs
def up (i : Int) : Int := Go.IntKind.i64.wrap (i + 1)
theorem cellV_no {cs : List Int} {c : Int} (h : ¬ (1 ≤ c ∧ c ≤ cs.length)) : cellV cs c = 0 := if_neg h
theorem cellV_at {cs : List Int} {k : Nat} (h : k < cs.length) : cellV cs ((k + 1 : Nat) : Int) = cs.getD k 0 := by
  unfold cellV
  rw [if_pos (by omega), show (((k + 1 : Nat) : Int) - 1).toNat = k by omega]
theorem casL_no {cs : List Int} {c old new : Int} (h : ¬ (1 ≤ c ∧ c ≤ cs.length ∧ cs.getD (c - 1).toNat 0 = old)) : casL cs c old new = cs := if_neg h
theorem casL_at {cs : List Int} {k : Nat} {old new : Int} (h : k < cs.length) (ho : cs.getD k 0 = old) : casL cs ((k + 1 : Nat) : Int) old new = cs.set k new := by
  have e : (((k + 1 : Nat) : Int) - 1).toNat = k := by omega
  unfold casL
  rw [e, if_pos ⟨by omega, by omega, ho⟩]
theorem cas_lt {cs : List Int} {c old : Int} (h : c < 1) : (false = true ↔ CasOk cs c old) := ⟨(fun h => nomatch h), fun h2 => absurd h2.1 (by omega)⟩
theorem casL_lt {cs : List Int} {c old new : Int} (h : c < 1) : casL cs c old new = cs := casL_no (by omega)
theorem cas_ge {cs : List Int} {c old : Int} (h : (cs.length : Int) < c) : (false = true ↔ CasOk cs c old) := ⟨(fun h => nomatch h), fun h2 => absurd h2.2.1 (by omega)⟩
theorem casL_ge {cs : List Int} {c old new : Int} (h : (cs.length : Int) < c) : casL cs c old new = cs := casL_no (by omega)
theorem cas_ne {cs : List Int} {k : Nat} {old : Int} (h : cs.getD k 0 ≠ old) : (false = true ↔ CasOk cs ((k + 1 : Nat) : Int) old) := ⟨(fun h => nomatch h), fun h2 => absurd (by have := h2.2.2; rwa [show (((k + 1 : Nat) : Int) - 1).toNat = k by omega] at this) h⟩
theorem casL_ne {cs : List Int} {k : Nat} {old new : Int} (h : cs.getD k 0 ≠ old) : casL cs ((k + 1 : Nat) : Int) old new = cs := casL_no fun h2 => absurd (by have := h2.2.2; rwa [show (((k + 1 : Nat) : Int) - 1).toNat = k by omega] at this) h
theorem cas_eq {cs : List Int} {k : Nat} {old : Int} (hk : k < cs.length) (h : cs.getD k 0 = old) : (true = true ↔ CasOk cs ((k + 1 : Nat) : Int) old) := ⟨fun _ => ⟨by omega, by omega, by rw [show (((k + 1 : Nat) : Int) - 1).toNat = k by omega]; exact h⟩, fun _ => rfl⟩
theorem casL_length {cs : List Int} {c old new : Int} : (casL cs c old new).length = cs.length := by unfold casL; split <;> simp
end Go.Ct
namespace Go.Proofs.Ytpfjjagcmjmfpaa
open Go.RowKit Go.Ct
variable {w : World} {D : List Nat} {b : Nat} {L : List NdV} {cs : List Int} {gen acc : Int} {pn pc : Option Addr} {cn cc : Nat} {A : Fr}

theorem aNodes_c (hs : SF w D [(b, aO L cs gen acc pn cn pc cc)] A [] (mW L cs pn cn pc cc) w) (hl : L.length ≤ 274877906944) : Calls Try.prog 27 #[.pointer (some ⟨b, 0, none⟩)] w fun e w' => ∃ q : Unit, e = .returned (.int .i64 ((L.length + 2 : Nat) : Int)) ∧ True ∧ SF w D [(b, aO L cs gen acc pn cn pc cc)] [] [] (mW L cs pn cn pc cc) w' := by
  refine enter Try.func27 Try.ntmps27 rfl rfl (aOpen hs) ?_
  simp only [mkS]
  all_goals (refine k_seq ?_; refine k_region ?_; refine j_assignL (fun _ => ?_); refine l_nil ?_; refine k_seq ?_; refine k_region ?_; refine j_move ?_; refine j_nilCheck ?_; refine j_fieldAddr ?_; refine j_load ?_; refine j_len ?_; refine j_add ?_; refine j_assignL (fun _ => ?_); refine l_nil ?_)
  all_goals
   refine k_rv Try.results27 (fun w hw => ?_)
   exact ⟨(), by rw [show (2 : Int) + (L.length : Int) = ((L.length + 2 : Nat) : Int) by omega]; rfl, trivial, hw.finH⟩
end Go.Proofs.Ytpfjjagcmjmfpaa
