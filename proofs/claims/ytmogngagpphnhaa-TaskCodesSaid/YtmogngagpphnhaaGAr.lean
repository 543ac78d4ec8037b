/- The small methods of the two memories: cells, generations, loads, compare-and-swaps. -/
import Derived.Test.YtmogngagpphnhaaMs1

set_option linter.unusedSimpArgs false
set_option linter.unusedVariables false
namespace Go.Proofs.Ytmogngagpphnhaa
open Go.RowKit Go.Ct
variable {w : World} {D : List Nat} {b : Nat} {L : List NdV} {cs : List Int} {gen acc : Int} {pn pc : Option Addr} {cn cc : Nat} {A : Fr}
theorem mNewCell_c (v : Int) (hs : SF w D [(b, mO L cs gen acc pn cn pc cc)] A [] (mW L cs pn cn pc cc) w) (hl : cs.length ≤ 274877906944) :
    Calls Try.prog 40 #[.pointer (some ⟨b, 0, none⟩), .int .i64 v] w fun e w' => ∃ q : Option Addr × Nat, e = .returned (.int .i64 ((cs.length + 1 : Nat) : Int)) ∧ True ∧
      SF w D [(b, mO L (cs ++ [v]) gen acc pn cn q.1 q.2)] [] [] (mW L (cs ++ [v]) pn cn q.1 q.2) w' := by
  refine enter Try.func40 Try.ntmps40 rfl rfl (mOpen hs) ?_
  simp only [mkS]
  all_goals (refine k_seq ?_; refine k_region ?_; refine j_assignL (fun _ => ?_); refine l_nil ?_; refine k_seq ?_; refine k_region ?_; refine j_move ?_; refine j_move ?_; refine j_nilCheck ?_; refine j_fieldAddr ?_; refine j_fieldAddr ?_; refine j_load ?_; refine j_move ?_; refine j_buildSlice (fun x12 => ?_); (refine j_append (fun x13 => ?_); try (refine l_fact (fun h13 => ?_))); refine j_nilCheck ?_; refine j_fieldAddr ?_; refine j_fieldAddr ?_; refine j_store (fun _ => ?_); refine l_nil ?_; refine k_seq ?_; refine k_region ?_; refine j_move ?_; refine j_nilCheck ?_; refine j_fieldAddr ?_; refine j_fieldAddr ?_; refine j_load ?_; refine j_len ?_; refine j_assignL (fun _ => ?_); refine l_nil ?_)
  all_goals
   refine k_rv Try.results40 (fun w hw => ?_)
   exact ⟨x13, rfl, trivial, by simpa [mO, mW] using hw.finH (F' := [])⟩
theorem aNewCell_c (v : Int) (hs : SF w D [(b, aO L cs gen acc pn cn pc cc)] A [] (mW L cs pn cn pc cc) w) (hl : cs.length ≤ 274877906944) :
    Calls Try.prog 19 #[.pointer (some ⟨b, 0, none⟩), .int .i64 v] w fun e w' => ∃ q : Option Addr × Nat, e = .returned (.int .i64 ((cs.length + 1 : Nat) : Int)) ∧ True ∧
      SF w D [(b, aO L (cs ++ [v]) gen acc pn cn q.1 q.2)] [] [] (mW L (cs ++ [v]) pn cn q.1 q.2) w' := by
  refine enter Try.func19 Try.ntmps19 rfl rfl (aOpen hs) ?_
  simp only [mkS]
  all_goals (refine k_seq ?_; refine k_region ?_; refine j_assignL (fun _ => ?_); refine l_nil ?_; refine k_seq ?_; refine k_region ?_; refine j_move ?_; refine j_move ?_; refine j_nilCheck ?_; refine j_fieldAddr ?_; refine j_load ?_; refine j_move ?_; refine j_buildSlice (fun x11 => ?_); (refine j_append (fun x12 => ?_); try (refine l_fact (fun h12 => ?_))); refine j_nilCheck ?_; refine j_fieldAddr ?_; refine j_store (fun _ => ?_); refine l_nil ?_; refine k_seq ?_; refine k_region ?_; refine j_move ?_; refine j_nilCheck ?_; refine j_fieldAddr ?_; refine j_load ?_; refine j_len ?_; refine j_assignL (fun _ => ?_); refine l_nil ?_)
  all_goals
   refine k_rv Try.results19 (fun w hw => ?_)
   exact ⟨x12, rfl, trivial, by simpa [aO, mW] using hw.finH (F' := [])⟩
end Go.Proofs.Ytmogngagpphnhaa

/- The small methods of the two memories: generations, loads, compare-and-swaps. -/
set_option linter.unusedSimpArgs false
set_option linter.unusedVariables false
namespace Go.Ct
/-- What a load of a cell returns; whether a compare-and-swap succeeds, and what it leaves. -/
def cellV (cs : List Int) (c : Int) : Int := if 1 ≤ c ∧ c ≤ cs.length then cs.getD (c - 1).toNat 0 else 0
def CasOk (cs : List Int) (c old : Int) : Prop := 1 ≤ c ∧ c ≤ cs.length ∧ cs.getD (c - 1).toNat 0 = old
def casL (cs : List Int) (c old new : Int) : List Int := if 1 ≤ c ∧ c ≤ cs.length ∧ cs.getD (c - 1).toNat 0 = old then cs.set (c - 1).toNat new else cs
def up (i : Int) : Int := Go.IntKind.i64.wrap (i + 1)
theorem cellV_no {cs : List Int} {c : Int} (h : ¬ (1 ≤ c ∧ c ≤ cs.length)) : cellV cs c = 0 := if_neg h
theorem cellV_at {cs : List Int} {k : Nat} (h : k < cs.length) : cellV cs ((k + 1 : Nat) : Int) = cs.getD k 0 := by
  unfold cellV
  rw [if_pos (by omega), show (((k + 1 : Nat) : Int) - 1).toNat = k by omega]
theorem casL_no {cs : List Int} {c old new : Int} (h : ¬ (1 ≤ c ∧ c ≤ cs.length ∧ cs.getD (c - 1).toNat 0 = old)) : casL cs c old new = cs := if_neg h
theorem casL_at {cs : List Int} {k : Nat} {old new : Int} (h : k < cs.length) (ho : cs.getD k 0 = old) : casL cs ((k + 1 : Nat) : Int) old new = cs.set k new := by
  have e : (((k + 1 : Nat) : Int) - 1).toNat = k := by omega
  unfold casL
  rw [e, if_pos ⟨by omega, by omega, ho⟩]
theorem cas_lt {cs : List Int} {c old : Int} (h : c < 1) : (false = true ↔ CasOk cs c old) := ⟨(fun h => nomatch h), fun h2 => absurd h2.1 (by omega)⟩
theorem casL_lt {cs : List Int} {c old new : Int} (h : c < 1) : casL cs c old new = cs := casL_no (by omega)
theorem cas_ge {cs : List Int} {c old : Int} (h : (cs.length : Int) < c) : (false = true ↔ CasOk cs c old) := ⟨(fun h => nomatch h), fun h2 => absurd h2.2.1 (by omega)⟩
theorem casL_ge {cs : List Int} {c old new : Int} (h : (cs.length : Int) < c) : casL cs c old new = cs := casL_no (by omega)
theorem cas_ne {cs : List Int} {k : Nat} {old : Int} (h : cs.getD k 0 ≠ old) : (false = true ↔ CasOk cs ((k + 1 : Nat) : Int) old) := ⟨(fun h => nomatch h), fun h2 => absurd (by have := h2.2.2; rwa [show (((k + 1 : Nat) : Int) - 1).toNat = k by omega] at this) h⟩
theorem casL_ne {cs : List Int} {k : Nat} {old new : Int} (h : cs.getD k 0 ≠ old) : casL cs ((k + 1 : Nat) : Int) old new = cs := casL_no fun h2 => absurd (by have := h2.2.2; rwa [show (((k + 1 : Nat) : Int) - 1).toNat = k by omega] at this) h
theorem cas_eq {cs : List Int} {k : Nat} {old : Int} (hk : k < cs.length) (h : cs.getD k 0 = old) : (true = true ↔ CasOk cs ((k + 1 : Nat) : Int) old) := ⟨fun _ => ⟨by omega, by omega, by rw [show (((k + 1 : Nat) : Int) - 1).toNat = k by omega]; exact h⟩, fun _ => rfl⟩
theorem casL_length {cs : List Int} {c old new : Int} : (casL cs c old new).length = cs.length := by unfold casL; split <;> simp
end Go.Ct
namespace Go.Proofs.Ytmogngagpphnhaa
open Go.RowKit Go.Ct
variable {w : World} {D : List Nat} {b : Nat} {L : List NdV} {cs : List Int} {gen acc : Int} {pn pc : Option Addr} {cn cc : Nat} {A : Fr}

theorem mNewGen_c (hs : SF w D [(b, mO L cs gen acc pn cn pc cc)] A [] (mW L cs pn cn pc cc) w) : Calls Try.prog 83 #[.pointer (some ⟨b, 0, none⟩)] w fun e w' => ∃ q : Unit, e = .returned (.int .i64 (up gen)) ∧ True ∧ SF w D [(b, mO L cs (up gen) acc pn cn pc cc)] [] [] (mW L cs pn cn pc cc) w' := by
  refine enter Try.func83 Try.ntmps83 rfl rfl (mOpen hs) ?_
  simp only [mkS]
  all_goals (refine k_seq ?_; refine k_region ?_; refine j_assignL (fun _ => ?_); refine l_nil ?_; refine k_seq ?_; refine k_region ?_; refine j_move ?_; refine j_nilCheck ?_; refine j_fieldAddr ?_; refine j_fieldAddr ?_; refine j_load ?_; refine l_quiet (o_add (by exact rfl) (by exact rfl)) rfl ?_; refine j_nilCheck ?_; refine j_fieldAddr ?_; refine j_fieldAddr ?_; refine j_store (fun _ => ?_); refine l_nil ?_; refine k_seq ?_; refine k_region ?_; refine j_move ?_; refine j_nilCheck ?_; refine j_fieldAddr ?_; refine j_fieldAddr ?_; refine j_load ?_; refine j_assignL (fun _ => ?_); refine l_nil ?_)
  all_goals
   refine k_rv Try.results83 (fun w hw => ?_)
   exact ⟨(), rfl, trivial, by simpa [mO, mW] using hw.finH (F' := [])⟩
theorem mLoad_no (hs : SF w D [(b, mO L cs gen acc pn cn pc cc)] A [] (mW L cs pn cn pc cc) w) (c : Int) (hc : c < 1) : Calls Try.prog 46 #[.pointer (some ⟨b, 0, none⟩), .int .i64 c] w fun e w' => ∃ q : Unit, e = .returned (.int .i64 (cellV cs c)) ∧ True ∧ SF w D [(b, mO L cs gen (up acc) pn cn pc cc)] [] [] (mW L cs pn cn pc cc) w' := by
  refine enter Try.func46 Try.ntmps46 rfl rfl (mOpen hs) ?_
  simp only [mkS]
  all_goals (refine k_seq ?_; refine k_region ?_; refine j_assignL (fun _ => ?_); refine l_nil ?_; refine k_seq ?_; refine k_region ?_; refine j_move ?_; refine j_nilCheck ?_; refine j_fieldAddr ?_; refine j_load ?_; refine l_quiet (o_add (by exact rfl) (by exact rfl)) rfl ?_; refine j_nilCheck ?_; refine j_fieldAddr ?_; refine j_store (fun _ => ?_); refine l_nil ?_; refine k_seq ?_; refine k_seq ?_; refine k_region ?_; refine j_move ?_; refine j_lss ?_; refine j_move ?_)
  all_goals (first | refine j_un ?_ | (refine j_yes ?_; refine j_move ?_) | (refine l_case (g := 14) (by exact rfl) (fun g14 => ?_) (fun g14 => ?_) <;> (revert g14; (first | refine cv1 ?_ | refine cv2 ?_ | refine cvb ?_ | refine cvc ?_ | refine cv9 ?_ | refine cva ?_ | refine cv7 ?_ | refine cv8 ?_ | refine cvd ?_ | refine cve ?_ | skip); intro g14) <;> (try (exfalso; omega)) <;> (first | refine j_un ?_ | (refine j_yes ?_; refine j_move ?_))))
  all_goals ((first | refine j_un ?_ | (refine j_yes ?_; refine j_move ?_)); (first | refine j_un ?_ | (refine j_yes ?_; refine j_nilCheck ?_)); (first | refine j_un ?_ | (refine j_yes ?_; refine j_fieldAddr ?_)); (first | refine j_un ?_ | (refine j_yes ?_; refine j_fieldAddr ?_)); (first | refine j_un ?_ | (refine j_yes ?_; refine j_load ?_)); (first | refine j_un ?_ | (refine j_yes ?_; refine j_len ?_)); (first | refine j_un ?_ | (refine j_yes ?_; refine j_gtr ?_)); refine j_pick ?_; refine l_nil ?_)
  all_goals
   refine k_if (fun c23 => ?_) (fun c23 => ?_)
   · try (exact absurd c23 (by decide))
     all_goals (revert c23; (first | refine cv1 ?_ | refine cv3 ?_ | refine cv5 ?_ | refine cv7 ?_ | refine cv9 ?_ | refine cvb ?_ | refine cvd ?_ | skip); intro c23)
     all_goals try (exfalso; omega)
     all_goals (refine k_seq ?_; refine k_region ?_; refine j_assignL (fun _ => ?_); refine l_nil ?_)
     all_goals
      refine k_rv Try.results46 (fun w hw => ?_)
      first | (exfalso; omega) | exact ⟨(), by rw [cellV_no (by omega)]; rfl, trivial, hw.finH⟩ | exact ⟨(), by rw [cellV_at (by omega)]; rfl, trivial, hw.finH⟩
   · try (exact absurd c23 (by decide))
     all_goals (revert c23; (first | refine cv2 ?_ | refine cv4 ?_ | refine cv6 ?_ | refine cv8 ?_ | refine cva ?_ | refine cvc ?_ | refine cve ?_ | skip); intro c23)
     all_goals try (exfalso; omega)
     all_goals (refine k_skip ?_; refine k_seq ?_; refine k_region ?_; refine j_move ?_; refine j_nilCheck ?_; refine j_fieldAddr ?_; refine j_fieldAddr ?_; refine j_load ?_; refine j_move ?_; refine j_dec ?_; refine j_indexAddr ?_; refine j_load ?_; refine j_assignL (fun _ => ?_); refine l_nil ?_)
     all_goals
      refine k_rv Try.results46 (fun w hw => ?_)
      first | (exfalso; omega) | exact ⟨(), by rw [cellV_no (by omega)]; rfl, trivial, hw.finH⟩ | exact ⟨(), by rw [cellV_at (by omega)]; rfl, trivial, hw.finH⟩
theorem mCAS_no (hs : SF w D [(b, mO L cs gen acc pn cn pc cc)] A [] (mW L cs pn cn pc cc) w) (c : Int) (old new : Int) (hc : c < 1) : Calls Try.prog 47 #[.pointer (some ⟨b, 0, none⟩), .int .i64 c, .int .i64 old, .int .i64 new] w fun e w' => ∃ r : Bool, e = .returned (.bool r) ∧ (r = true ↔ CasOk cs c old) ∧ SF w D [(b, mO L (casL cs c old new) gen (up acc) pn cn pc cc)] [] [] (mW L (casL cs c old new) pn cn pc cc) w' := by
  refine enter Try.func47 Try.ntmps47 rfl rfl (mOpen hs) ?_
  simp only [mkS]
  all_goals (refine k_seq ?_; refine k_region ?_; refine j_assignL (fun _ => ?_); refine l_nil ?_; refine k_seq ?_; refine k_region ?_; refine j_move ?_; refine j_nilCheck ?_; refine j_fieldAddr ?_; refine j_load ?_; refine l_quiet (o_add (by exact rfl) (by exact rfl)) rfl ?_; refine j_nilCheck ?_; refine j_fieldAddr ?_; refine j_store (fun _ => ?_); refine l_nil ?_; refine k_seq ?_; refine k_seq ?_; refine k_region ?_; refine j_move ?_; refine j_lss ?_; refine j_move ?_)
  all_goals (first | refine j_un ?_ | (refine j_yes ?_; refine j_move ?_) | (refine l_case (g := 18) (by exact rfl) (fun g18 => ?_) (fun g18 => ?_) <;> (revert g18; (first | refine cv1 ?_ | refine cv2 ?_ | refine cvb ?_ | refine cvc ?_ | refine cv9 ?_ | refine cva ?_ | refine cv7 ?_ | refine cv8 ?_ | refine cvd ?_ | refine cve ?_ | skip); intro g18) <;> (try (exfalso; omega)) <;> (first | refine j_un ?_ | (refine j_yes ?_; refine j_move ?_))))
  all_goals ((first | refine j_un ?_ | (refine j_yes ?_; refine j_move ?_)); (first | refine j_un ?_ | (refine j_yes ?_; refine j_nilCheck ?_)); (first | refine j_un ?_ | (refine j_yes ?_; refine j_fieldAddr ?_)); (first | refine j_un ?_ | (refine j_yes ?_; refine j_fieldAddr ?_)); (first | refine j_un ?_ | (refine j_yes ?_; refine j_load ?_)); (first | refine j_un ?_ | (refine j_yes ?_; refine j_len ?_)); (first | refine j_un ?_ | (refine j_yes ?_; refine j_gtr ?_)); refine j_pick ?_; refine j_move ?_)
  all_goals (first | refine j_un ?_ | (refine j_yes ?_; refine j_move ?_) | (refine l_case (g := 28) (by exact rfl) (fun g28 => ?_) (fun g28 => ?_) <;> (revert g28; (first | refine cv1 ?_ | refine cv2 ?_ | refine cvb ?_ | refine cvc ?_ | refine cv9 ?_ | refine cva ?_ | refine cv7 ?_ | refine cv8 ?_ | refine cvd ?_ | refine cve ?_ | skip); intro g28) <;> (try (exfalso; omega)) <;> (first | refine j_un ?_ | (refine j_yes ?_; refine j_move ?_))))
  all_goals ((first | refine j_un ?_ | (refine j_yes ?_; refine j_nilCheck ?_)); (first | refine j_un ?_ | (refine j_yes ?_; refine j_fieldAddr ?_)); (first | refine j_un ?_ | (refine j_yes ?_; refine j_fieldAddr ?_)); (first | refine j_un ?_ | (refine j_yes ?_; refine j_load ?_)); (first | refine j_un ?_ | (refine j_yes ?_; refine j_move ?_)); (first | refine j_un ?_ | (refine j_yes ?_; refine j_dec ?_)); (first | refine j_un ?_ | (refine j_yes ?_; refine j_indexAddr ?_)); (first | refine j_un ?_ | (refine j_yes ?_; refine j_load ?_)); (first | refine j_un ?_ | (refine j_yes ?_; refine j_move ?_)); (first | refine j_un ?_ | (refine j_yes ?_; refine j_neq ?_)); refine j_pick ?_; refine l_nil ?_)
  all_goals
   refine k_if (fun c40 => ?_) (fun c40 => ?_)
   · try (exact absurd c40 (by decide))
     all_goals (revert c40; (first | refine cv1 ?_ | refine cv3 ?_ | refine cv5 ?_ | refine cv7 ?_ | refine cv9 ?_ | refine cvb ?_ | refine cvd ?_ | skip); intro c40)
     all_goals try (exfalso; omega)
     all_goals (refine k_seq ?_; refine k_region ?_; refine j_assignL (fun _ => ?_); refine l_nil ?_)
     all_goals
      refine k_rv Try.results47 (fun w hw => ?_)
      first | (exfalso; omega) | exact ⟨false, rfl, cas_lt hc, by rw [casL_lt hc]; exact hw.finH⟩
   · try (exact absurd c40 (by decide))
     all_goals (revert c40; (first | refine cv2 ?_ | refine cv4 ?_ | refine cv6 ?_ | refine cv8 ?_ | refine cva ?_ | refine cvc ?_ | refine cve ?_ | skip); intro c40)
     all_goals try (exfalso; omega)
     all_goals (refine k_skip ?_; refine k_seq ?_; refine k_region ?_; refine j_move ?_; refine j_nilCheck ?_; refine j_fieldAddr ?_; refine j_fieldAddr ?_; refine j_load ?_; refine j_move ?_; refine j_dec ?_; refine j_move ?_; refine j_indexAddr ?_; refine j_store (fun _ => ?_); refine l_nil ?_; refine k_seq ?_; refine k_region ?_; refine j_assignL (fun _ => ?_); refine l_nil ?_)
     all_goals
      refine k_rv Try.results47 (fun w hw => ?_)
      first | (exfalso; omega) | exact ⟨false, rfl, cas_lt hc, by rw [casL_lt hc]; exact hw.finH⟩
theorem mLoad_at (hs : SF w D [(b, mO L cs gen acc pn cn pc cc)] A [] (mW L cs pn cn pc cc) w) {k : Nat} (hk : (k : Int) < 9223372036854775807) (hl : cs.length ≤ 274877906944) : Calls Try.prog 46 #[.pointer (some ⟨b, 0, none⟩), .int .i64 ((k + 1 : Nat) : Int)] w fun e w' => ∃ q : Unit, e = .returned (.int .i64 (cellV cs ((k + 1 : Nat) : Int))) ∧ True ∧ SF w D [(b, mO L cs gen (up acc) pn cn pc cc)] [] [] (mW L cs pn cn pc cc) w' := by
  refine enter Try.func46 Try.ntmps46 rfl rfl (mOpen hs) ?_
  simp only [mkS]
  all_goals (refine k_seq ?_; refine k_region ?_; refine j_assignL (fun _ => ?_); refine l_nil ?_; refine k_seq ?_; refine k_region ?_; refine j_move ?_; refine j_nilCheck ?_; refine j_fieldAddr ?_; refine j_load ?_; refine l_quiet (o_add (by exact rfl) (by exact rfl)) rfl ?_; refine j_nilCheck ?_; refine j_fieldAddr ?_; refine j_store (fun _ => ?_); refine l_nil ?_; refine k_seq ?_; refine k_seq ?_; refine k_region ?_; refine j_move ?_; refine j_lss ?_; refine j_move ?_)
  all_goals (first | refine j_un ?_ | (refine j_yes ?_; refine j_move ?_) | (refine l_case (g := 14) (by exact rfl) (fun g14 => ?_) (fun g14 => ?_) <;> (revert g14; (first | refine cv1 ?_ | refine cv2 ?_ | refine cvb ?_ | refine cvc ?_ | refine cv9 ?_ | refine cva ?_ | refine cv7 ?_ | refine cv8 ?_ | refine cvd ?_ | refine cve ?_ | skip); intro g14) <;> (try (exfalso; omega)) <;> (first | refine j_un ?_ | (refine j_yes ?_; refine j_move ?_))))
  all_goals ((first | refine j_un ?_ | (refine j_yes ?_; refine j_move ?_)); (first | refine j_un ?_ | (refine j_yes ?_; refine j_nilCheck ?_)); (first | refine j_un ?_ | (refine j_yes ?_; refine j_fieldAddr ?_)); (first | refine j_un ?_ | (refine j_yes ?_; refine j_fieldAddr ?_)); (first | refine j_un ?_ | (refine j_yes ?_; refine j_load ?_)); (first | refine j_un ?_ | (refine j_yes ?_; refine j_len ?_)); (first | refine j_un ?_ | (refine j_yes ?_; refine j_gtr ?_)); refine j_pick ?_; refine l_nil ?_)
  all_goals
   refine k_if (fun c23 => ?_) (fun c23 => ?_)
   · try (exact absurd c23 (by decide))
     all_goals (revert c23; (first | refine cv1 ?_ | refine cv3 ?_ | refine cv5 ?_ | refine cv7 ?_ | refine cv9 ?_ | refine cvb ?_ | refine cvd ?_ | skip); intro c23)
     all_goals try (exfalso; omega)
     all_goals (refine k_seq ?_; refine k_region ?_; refine j_assignL (fun _ => ?_); refine l_nil ?_)
     all_goals
      refine k_rv Try.results46 (fun w hw => ?_)
      first | (exfalso; omega) | exact ⟨(), by rw [cellV_no (by omega)]; rfl, trivial, hw.finH⟩ | exact ⟨(), by rw [cellV_at (by omega)]; rfl, trivial, hw.finH⟩
   · try (exact absurd c23 (by decide))
     all_goals (revert c23; (first | refine cv2 ?_ | refine cv4 ?_ | refine cv6 ?_ | refine cv8 ?_ | refine cva ?_ | refine cvc ?_ | refine cve ?_ | skip); intro c23)
     all_goals try (exfalso; omega)
     all_goals (refine k_skip ?_; refine k_seq ?_; refine k_region ?_; refine j_move ?_; refine j_nilCheck ?_; refine j_fieldAddr ?_; refine j_fieldAddr ?_; refine j_load ?_; refine j_move ?_; refine j_dec ?_; refine j_indexAddr ?_; refine j_load ?_; refine j_assignL (fun _ => ?_); refine l_nil ?_)
     all_goals
      refine k_rv Try.results46 (fun w hw => ?_)
      first | (exfalso; omega) | exact ⟨(), by rw [cellV_no (by omega)]; rfl, trivial, hw.finH⟩ | exact ⟨(), by rw [cellV_at (by omega)]; rfl, trivial, hw.finH⟩
theorem mCAS_at (hs : SF w D [(b, mO L cs gen acc pn cn pc cc)] A [] (mW L cs pn cn pc cc) w) {k : Nat} (hk : (k : Int) < 9223372036854775807) (old new : Int) (hl : cs.length ≤ 274877906944) : Calls Try.prog 47 #[.pointer (some ⟨b, 0, none⟩), .int .i64 ((k + 1 : Nat) : Int), .int .i64 old, .int .i64 new] w fun e w' => ∃ r : Bool, e = .returned (.bool r) ∧ (r = true ↔ CasOk cs ((k + 1 : Nat) : Int) old) ∧ SF w D [(b, mO L (casL cs ((k + 1 : Nat) : Int) old new) gen (up acc) pn cn pc cc)] [] [] (mW L (casL cs ((k + 1 : Nat) : Int) old new) pn cn pc cc) w' := by
  refine enter Try.func47 Try.ntmps47 rfl rfl (mOpen hs) ?_
  simp only [mkS]
  all_goals (refine k_seq ?_; refine k_region ?_; refine j_assignL (fun _ => ?_); refine l_nil ?_; refine k_seq ?_; refine k_region ?_; refine j_move ?_; refine j_nilCheck ?_; refine j_fieldAddr ?_; refine j_load ?_; refine l_quiet (o_add (by exact rfl) (by exact rfl)) rfl ?_; refine j_nilCheck ?_; refine j_fieldAddr ?_; refine j_store (fun _ => ?_); refine l_nil ?_; refine k_seq ?_; refine k_seq ?_; refine k_region ?_; refine j_move ?_; refine j_lss ?_; refine j_move ?_)
  all_goals (first | refine j_un ?_ | (refine j_yes ?_; refine j_move ?_) | (refine l_case (g := 18) (by exact rfl) (fun g18 => ?_) (fun g18 => ?_) <;> (revert g18; (first | refine cv1 ?_ | refine cv2 ?_ | refine cvb ?_ | refine cvc ?_ | refine cv9 ?_ | refine cva ?_ | refine cv7 ?_ | refine cv8 ?_ | refine cvd ?_ | refine cve ?_ | skip); intro g18) <;> (try (exfalso; omega)) <;> (first | refine j_un ?_ | (refine j_yes ?_; refine j_move ?_))))
  all_goals ((first | refine j_un ?_ | (refine j_yes ?_; refine j_move ?_)); (first | refine j_un ?_ | (refine j_yes ?_; refine j_nilCheck ?_)); (first | refine j_un ?_ | (refine j_yes ?_; refine j_fieldAddr ?_)); (first | refine j_un ?_ | (refine j_yes ?_; refine j_fieldAddr ?_)); (first | refine j_un ?_ | (refine j_yes ?_; refine j_load ?_)); (first | refine j_un ?_ | (refine j_yes ?_; refine j_len ?_)); (first | refine j_un ?_ | (refine j_yes ?_; refine j_gtr ?_)); refine j_pick ?_; refine j_move ?_)
  all_goals (first | refine j_un ?_ | (refine j_yes ?_; refine j_move ?_) | (refine l_case (g := 28) (by exact rfl) (fun g28 => ?_) (fun g28 => ?_) <;> (revert g28; (first | refine cv1 ?_ | refine cv2 ?_ | refine cvb ?_ | refine cvc ?_ | refine cv9 ?_ | refine cva ?_ | refine cv7 ?_ | refine cv8 ?_ | refine cvd ?_ | refine cve ?_ | skip); intro g28) <;> (try (exfalso; omega)) <;> (first | refine j_un ?_ | (refine j_yes ?_; refine j_move ?_))))
  all_goals ((first | refine j_un ?_ | (refine j_yes ?_; refine j_nilCheck ?_)); (first | refine j_un ?_ | (refine j_yes ?_; refine j_fieldAddr ?_)); (first | refine j_un ?_ | (refine j_yes ?_; refine j_fieldAddr ?_)); (first | refine j_un ?_ | (refine j_yes ?_; refine j_load ?_)); (first | refine j_un ?_ | (refine j_yes ?_; refine j_move ?_)); (first | refine j_un ?_ | (refine j_yes ?_; refine j_dec ?_)); (first | refine j_un ?_ | (refine j_yes ?_; refine j_indexAddr ?_)); (first | refine j_un ?_ | (refine j_yes ?_; refine j_load ?_)); (first | refine j_un ?_ | (refine j_yes ?_; refine j_move ?_)); (first | refine j_un ?_ | (refine j_yes ?_; refine j_neq ?_)); refine j_pick ?_; refine l_nil ?_)
  all_goals
   refine k_if (fun c40 => ?_) (fun c40 => ?_)
   · try (exact absurd c40 (by decide))
     all_goals (revert c40; (first | refine cv1 ?_ | refine cv3 ?_ | refine cv5 ?_ | refine cv7 ?_ | refine cv9 ?_ | refine cvb ?_ | refine cvd ?_ | skip); intro c40)
     all_goals try (exfalso; omega)
     all_goals (refine k_seq ?_; refine k_region ?_; refine j_assignL (fun _ => ?_); refine l_nil ?_)
     all_goals
      refine k_rv Try.results47 (fun w hw => ?_)
      first | (exfalso; omega) | exact ⟨false, rfl, cas_ge (by omega), by rw [casL_ge (by omega)]; exact hw.finH⟩ | exact ⟨false, rfl, cas_ne (by simpa using c40), by rw [casL_ne (by simpa using c40)]; exact hw.finH⟩ | exact ⟨true, rfl, cas_eq (by omega) (by simpa using c40), by rw [casL_at (by omega) (by simpa using c40)]; simpa [mW, aO, mO] using hw.finH (F' := [])⟩
   · try (exact absurd c40 (by decide))
     all_goals (revert c40; (first | refine cv2 ?_ | refine cv4 ?_ | refine cv6 ?_ | refine cv8 ?_ | refine cva ?_ | refine cvc ?_ | refine cve ?_ | skip); intro c40)
     all_goals try (exfalso; omega)
     all_goals (refine k_skip ?_; refine k_seq ?_; refine k_region ?_; refine j_move ?_; refine j_nilCheck ?_; refine j_fieldAddr ?_; refine j_fieldAddr ?_; refine j_load ?_; refine j_move ?_; refine j_dec ?_; refine j_move ?_; refine j_indexAddr ?_; refine j_store (fun _ => ?_); refine l_nil ?_; refine k_seq ?_; refine k_region ?_; refine j_assignL (fun _ => ?_); refine l_nil ?_)
     all_goals
      refine k_rv Try.results47 (fun w hw => ?_)
      first | (exfalso; omega) | exact ⟨false, rfl, cas_ge (by omega), by rw [casL_ge (by omega)]; exact hw.finH⟩ | exact ⟨false, rfl, cas_ne (by simpa using c40), by rw [casL_ne (by simpa using c40)]; exact hw.finH⟩ | exact ⟨true, rfl, cas_eq (by omega) (by simpa using c40), by rw [casL_at (by omega) (by simpa using c40)]; simpa [mW, aO, mO] using hw.finH (F' := [])⟩
theorem mLoad_c (hs : SF w D [(b, mO L cs gen acc pn cn pc cc)] A [] (mW L cs pn cn pc cc) w) (c : Int) (hc : c ≤ 9223372036854775807) (hl : cs.length ≤ 274877906944) : Calls Try.prog 46 #[.pointer (some ⟨b, 0, none⟩), .int .i64 c] w fun e w' => ∃ q : Unit, e = .returned (.int .i64 (cellV cs c)) ∧ True ∧ SF w D [(b, mO L cs gen (up acc) pn cn pc cc)] [] [] (mW L cs pn cn pc cc) w' := by
  rcases Int.lt_or_le c 1 with h | h
  · exact mLoad_no hs c h
  · obtain ⟨k, rfl⟩ : ∃ k : Nat, c = ((k + 1 : Nat) : Int) := ⟨(c - 1).toNat, by omega⟩
    exact mLoad_at hs (by omega) hl
theorem mCAS_c (hs : SF w D [(b, mO L cs gen acc pn cn pc cc)] A [] (mW L cs pn cn pc cc) w) (c old new : Int) (hc : c ≤ 9223372036854775807) (hl : cs.length ≤ 274877906944) : Calls Try.prog 47 #[.pointer (some ⟨b, 0, none⟩), .int .i64 c, .int .i64 old, .int .i64 new] w fun e w' => ∃ r : Bool, e = .returned (.bool r) ∧ (r = true ↔ CasOk cs c old) ∧ SF w D [(b, mO L (casL cs c old new) gen (up acc) pn cn pc cc)] [] [] (mW L (casL cs c old new) pn cn pc cc) w' := by
  rcases Int.lt_or_le c 1 with h | h
  · exact mCAS_no hs c old new h
  · obtain ⟨k, rfl⟩ : ∃ k : Nat, c = ((k + 1 : Nat) : Int) := ⟨(c - 1).toNat, by omega⟩
    exact mCAS_at hs (by omega) old new hl
theorem aNewGen_c (hs : SF w D [(b, aO L cs gen acc pn cn pc cc)] A [] (mW L cs pn cn pc cc) w) : Calls Try.prog 37 #[.pointer (some ⟨b, 0, none⟩)] w fun e w' => ∃ q : Unit, e = .returned (.int .i64 (up gen)) ∧ True ∧ SF w D [(b, aO L cs (up gen) acc pn cn pc cc)] [] [] (mW L cs pn cn pc cc) w' := by
  refine enter Try.func37 Try.ntmps37 rfl rfl (aOpen hs) ?_
  simp only [mkS]
  all_goals (refine k_seq ?_; refine k_region ?_; refine j_assignL (fun _ => ?_); refine l_nil ?_; refine k_seq ?_; refine k_region ?_; refine j_move ?_; refine j_nilCheck ?_; refine j_fieldAddr ?_; refine j_load ?_; refine l_quiet (o_add (by exact rfl) (by exact rfl)) rfl ?_; refine j_nilCheck ?_; refine j_fieldAddr ?_; refine j_store (fun _ => ?_); refine l_nil ?_; refine k_seq ?_; refine k_region ?_; refine j_move ?_; refine j_nilCheck ?_; refine j_fieldAddr ?_; refine j_load ?_; refine j_assignL (fun _ => ?_); refine l_nil ?_)
  all_goals
   refine k_rv Try.results37 (fun w hw => ?_)
   exact ⟨(), rfl, trivial, by simpa [aO, mW] using hw.finH (F' := [])⟩
theorem aHas_c (hs : SF w D [(b, aO L cs gen acc pn cn pc cc)] A [] (mW L cs pn cn pc cc) w) (c : Int) : Calls Try.prog 71 #[.pointer (some ⟨b, 0, none⟩), .int .i64 c] w fun e w' => ∃ q : Unit, e = .returned (.bool (decide (1 ≤ c ∧ c ≤ (cs.length : Int)))) ∧ True ∧ SF w D [(b, aO L cs gen acc pn cn pc cc)] [] [] (mW L cs pn cn pc cc) w' := by
  refine enter Try.func71 Try.ntmps71 rfl rfl (aOpen hs) ?_
  simp only [mkS]
  all_goals (refine k_seq ?_; refine k_region ?_; refine j_assignL (fun _ => ?_); refine l_nil ?_; refine k_seq ?_; refine k_region ?_; refine j_move ?_; refine j_geq ?_; refine j_move ?_)
  all_goals (first | refine j_un ?_ | (refine j_yes ?_; refine j_move ?_) | (refine l_case (g := 7) (by exact rfl) (fun g7 => ?_) (fun g7 => ?_) <;> (revert g7; (first | refine cv1 ?_ | refine cv2 ?_ | refine cvb ?_ | refine cvc ?_ | refine cv9 ?_ | refine cva ?_ | refine cv7 ?_ | refine cv8 ?_ | refine cvd ?_ | refine cve ?_ | skip); intro g7) <;> (first | refine j_un ?_ | (refine j_yes ?_; refine j_move ?_))))
  all_goals ((first | refine j_un ?_ | (refine j_yes ?_; refine j_move ?_)); (first | refine j_un ?_ | (refine j_yes ?_; refine j_nilCheck ?_)); (first | refine j_un ?_ | (refine j_yes ?_; refine j_fieldAddr ?_)); (first | refine j_un ?_ | (refine j_yes ?_; refine j_load ?_)); (first | refine j_un ?_ | (refine j_yes ?_; refine j_len ?_)); (first | refine j_un ?_ | (refine j_yes ?_; refine j_leq ?_)); refine j_pick ?_; refine j_assignL (fun _ => ?_); refine l_nil ?_)
  all_goals
   refine k_rv Try.results71 (fun w hw => ?_)
   first | exact ⟨(), by rw [decide_eq_true (show 1 ≤ c ∧ c ≤ (cs.length : Int) by omega)]; first | rfl | (rw [decide_eq_true (by omega)]; rfl), trivial, hw.finH⟩ | exact ⟨(), by rw [decide_eq_false (show ¬ (1 ≤ c ∧ c ≤ (cs.length : Int)) by omega)]; first | rfl | (rw [decide_eq_false (by omega)]; rfl), trivial, hw.finH⟩ | exact ⟨(), by rw [show decide (1 ≤ c ∧ c ≤ (cs.length : Int)) = decide (c ≤ (cs.length : Int)) by simp; omega]; rfl, trivial, hw.finH⟩
theorem aNodes_c (hs : SF w D [(b, aO L cs gen acc pn cn pc cc)] A [] (mW L cs pn cn pc cc) w) (hl : L.length ≤ 274877906944) : Calls Try.prog 78 #[.pointer (some ⟨b, 0, none⟩)] w fun e w' => ∃ q : Unit, e = .returned (.int .i64 ((L.length + 2 : Nat) : Int)) ∧ True ∧ SF w D [(b, aO L cs gen acc pn cn pc cc)] [] [] (mW L cs pn cn pc cc) w' := by
  refine enter Try.func78 Try.ntmps78 rfl rfl (aOpen hs) ?_
  simp only [mkS]
  all_goals (refine k_seq ?_; refine k_region ?_; refine j_assignL (fun _ => ?_); refine l_nil ?_; refine k_seq ?_; refine k_region ?_; refine j_move ?_; refine j_nilCheck ?_; refine j_fieldAddr ?_; refine j_load ?_; refine j_len ?_; refine j_add ?_; refine j_assignL (fun _ => ?_); refine l_nil ?_)
  all_goals
   refine k_rv Try.results78 (fun w hw => ?_)
   exact ⟨(), by rw [show (2 : Int) + (L.length : Int) = ((L.length + 2 : Nat) : Int) by omega]; rfl, trivial, hw.finH⟩
theorem aCounts_c (hs : SF w D [(b, aO L cs gen acc pn cn pc cc)] A [] (mW L cs pn cn pc cc) w) (hl : L.length ≤ 274877906944) : Calls Try.prog 59 #[.pointer (some ⟨b, 0, none⟩)] w fun e w' => ∃ q : Unit, e = .returned (.tuple #[.int .i64 ((L.length + 2 : Nat) : Int), .int .i64 ((cs.length : Nat) : Int), .int .i64 acc]) ∧ True ∧ SF w D [(b, aO L cs gen acc pn cn pc cc)] [] [] (mW L cs pn cn pc cc) w' := by
  refine enter Try.func59 Try.ntmps59 rfl rfl (aOpen hs) ?_
  simp only [mkS]
  all_goals (refine k_seq ?_; refine k_region ?_; refine j_assignL (fun _ => ?_); refine j_assignL (fun _ => ?_); refine j_assignL (fun _ => ?_); refine l_nil ?_; refine k_seq ?_; refine k_drawF (.one 0 [] (.one 2 [] (.one 3 [] (.one 4 [] (.one 5 [] (.one 6 [] (.one 7 [] (.one 8 [] (.one 9 [] (.one 10 [] (.one 1 [5, 10] (.one 11 [5, 10] (.one 12 [10] (.one 13 [] .nil)))))))))))))) ?_; refine r_move (i := 0) ?_; refine r_move (i := 2) ?_; refine r_nilCheck (i := 3) ?_; refine r_fieldAddr (i := 4) ?_; refine r_load (i := 5) ?_; refine r_len (i := 6) ?_; refine r_move (i := 7) ?_; refine r_nilCheck (i := 8) ?_; refine r_fieldAddr (i := 9) ?_; refine r_load (i := 10) ?_; ((refine r_own (i := 1) (hq := (cM (hc := fun w hs => aNodes_c hs hl))) (hfire := (fun _ => by first | ((repeat (first | exact FireAll.nil | refine FireAll.cons (by first | exact a_load | exact a_un) ?_)); done) | (refine fireall_fact ?_; (repeat (first | exact FireAll.nil | refine FireAll.cons (by first | exact a_load | exact a_un) ?_)); done))) (h := fun x6 => ?_); try (refine r_fact (fun h6 => ?_)))); refine r_assignL (i := 11) (hfire := (fun _ => by first | ((repeat (first | exact FireAll.nil | refine FireAll.cons (by first | exact a_load | exact a_un) ?_)); done) | (refine fireall_fact ?_; (repeat (first | exact FireAll.nil | refine FireAll.cons (by first | exact a_load | exact a_un) ?_)); done))) (h := fun _ => ?_); refine r_assignL (i := 12) (hfire := (fun _ => by first | (refine FireAll.cons (by first | exact a_load | exact a_un) ?_; exact FireAll.nil) | (refine fireall_fact ?_; refine FireAll.cons (by first | exact a_load | exact a_un) ?_; exact FireAll.nil))) (h := fun _ => ?_); refine r_assignL (i := 13) (hfire := (fun _ => .nil)) (h := fun _ => ?_); refine r_fin ?_)
  all_goals
   refine k_retvF Try.results59 (.tmp (by conv => { lhs; whnf }) (.tmp (by conv => { lhs; whnf }) (.tmp (by conv => { lhs; whnf }) .nil))) (fun w hw => ?_)
   exact ⟨(), rfl, trivial, hw.finH⟩
theorem aLoad_no (hs : SF w D [(b, aO L cs gen acc pn cn pc cc)] A [] (mW L cs pn cn pc cc) w) (c : Int) (hc : c < 1) : Calls Try.prog 21 #[.pointer (some ⟨b, 0, none⟩), .int .i64 c] w fun e w' => ∃ q : Unit, e = .returned (.int .i64 (cellV cs c)) ∧ True ∧ SF w D [(b, aO L cs gen (up acc) pn cn pc cc)] [] [] (mW L cs pn cn pc cc) w' := by
  refine enter Try.func21 Try.ntmps21 rfl rfl (aOpen hs) ?_
  simp only [mkS]
  all_goals (refine k_seq ?_; refine k_region ?_; refine j_assignL (fun _ => ?_); refine l_nil ?_; refine k_seq ?_; refine k_region ?_; refine j_move ?_; refine j_nilCheck ?_; refine j_fieldAddr ?_; refine j_load ?_; refine l_quiet (o_add (by exact rfl) (by exact rfl)) rfl ?_; refine j_nilCheck ?_; refine j_fieldAddr ?_; refine j_store (fun _ => ?_); refine l_nil ?_; refine k_seq ?_; refine k_seq ?_; refine k_region ?_; refine j_move ?_; refine j_move ?_; (refine j_own (cM (hc := fun w hs => aHas_c hs c)) (fun x14 => ?_); try (refine l_fact (fun h14 => ?_))); refine j_not ?_; refine l_nil ?_)
  all_goals
   refine k_if (fun c15 => ?_) (fun c15 => ?_)
   · try (exact absurd c15 (by decide))
     all_goals (revert c15; (first | refine cv1 ?_ | refine cv3 ?_ | refine cv5 ?_ | refine cv7 ?_ | refine cv9 ?_ | refine cvb ?_ | refine cvd ?_ | skip); intro c15)
     all_goals try (exfalso; omega)
     all_goals (refine k_seq ?_; refine k_region ?_; refine j_assignL (fun _ => ?_); refine l_nil ?_)
     all_goals
      refine k_rv Try.results21 (fun w hw => ?_)
      first | (exfalso; omega) | exact ⟨(), by rw [cellV_no (by omega)]; rfl, trivial, hw.finH⟩ | exact ⟨(), by rw [cellV_at (by omega)]; rfl, trivial, hw.finH⟩
   · try (exact absurd c15 (by decide))
     all_goals (revert c15; (first | refine cv2 ?_ | refine cv4 ?_ | refine cv6 ?_ | refine cv8 ?_ | refine cva ?_ | refine cvc ?_ | refine cve ?_ | skip); intro c15)
     all_goals try (exfalso; omega)
     all_goals (refine k_skip ?_; refine k_seq ?_; refine k_region ?_; refine j_move ?_; refine j_nilCheck ?_; refine j_fieldAddr ?_; refine j_load ?_; refine j_move ?_; refine j_dec ?_; refine j_indexAddr ?_; refine j_load ?_; refine j_assignL (fun _ => ?_); refine l_nil ?_)
     all_goals
      refine k_rv Try.results21 (fun w hw => ?_)
      first | (exfalso; omega) | exact ⟨(), by rw [cellV_no (by omega)]; rfl, trivial, hw.finH⟩ | exact ⟨(), by rw [cellV_at (by omega)]; rfl, trivial, hw.finH⟩
theorem aCAS_no (hs : SF w D [(b, aO L cs gen acc pn cn pc cc)] A [] (mW L cs pn cn pc cc) w) (c : Int) (old new : Int) (hc : c < 1) : Calls Try.prog 22 #[.pointer (some ⟨b, 0, none⟩), .int .i64 c, .int .i64 old, .int .i64 new] w fun e w' => ∃ r : Bool, e = .returned (.bool r) ∧ (r = true ↔ CasOk cs c old) ∧ SF w D [(b, aO L (casL cs c old new) gen (up acc) pn cn pc cc)] [] [] (mW L (casL cs c old new) pn cn pc cc) w' := by
  refine enter Try.func22 Try.ntmps22 rfl rfl (aOpen hs) ?_
  simp only [mkS]
  all_goals (refine k_seq ?_; refine k_region ?_; refine j_assignL (fun _ => ?_); refine l_nil ?_; refine k_seq ?_; refine k_region ?_; refine j_move ?_; refine j_nilCheck ?_; refine j_fieldAddr ?_; refine j_load ?_; refine l_quiet (o_add (by exact rfl) (by exact rfl)) rfl ?_; refine j_nilCheck ?_; refine j_fieldAddr ?_; refine j_store (fun _ => ?_); refine l_nil ?_; refine k_seq ?_; refine k_seq ?_; refine k_region ?_; refine j_move ?_; refine j_move ?_; (refine j_own (cM (hc := fun w hs => aHas_c hs c)) (fun x18 => ?_); try (refine l_fact (fun h18 => ?_))); refine j_not ?_; refine j_move ?_)
  all_goals (first | refine j_un ?_ | (refine j_yes ?_; refine j_move ?_) | (refine l_case (g := 20) (by exact rfl) (fun g20 => ?_) (fun g20 => ?_) <;> (revert g20; (first | refine cv1 ?_ | refine cv2 ?_ | refine cvb ?_ | refine cvc ?_ | refine cv9 ?_ | refine cva ?_ | refine cv7 ?_ | refine cv8 ?_ | refine cvd ?_ | refine cve ?_ | skip); intro g20) <;> (try (exfalso; omega)) <;> (first | refine j_un ?_ | (refine j_yes ?_; refine j_move ?_))))
  all_goals ((first | refine j_un ?_ | (refine j_yes ?_; refine j_nilCheck ?_)); (first | refine j_un ?_ | (refine j_yes ?_; refine j_fieldAddr ?_)); (first | refine j_un ?_ | (refine j_yes ?_; refine j_load ?_)); (first | refine j_un ?_ | (refine j_yes ?_; refine j_move ?_)); (first | refine j_un ?_ | (refine j_yes ?_; refine j_dec ?_)); (first | refine j_un ?_ | (refine j_yes ?_; refine j_indexAddr ?_)); (first | refine j_un ?_ | (refine j_yes ?_; refine j_load ?_)); (first | refine j_un ?_ | (refine j_yes ?_; refine j_move ?_)); (first | refine j_un ?_ | (refine j_yes ?_; refine j_neq ?_)); refine j_pick ?_; refine l_nil ?_)
  all_goals
   refine k_if (fun c31 => ?_) (fun c31 => ?_)
   · try (exact absurd c31 (by decide))
     all_goals (revert c31; (first | refine cv1 ?_ | refine cv3 ?_ | refine cv5 ?_ | refine cv7 ?_ | refine cv9 ?_ | refine cvb ?_ | refine cvd ?_ | skip); intro c31)
     all_goals try (exfalso; omega)
     all_goals (refine k_seq ?_; refine k_region ?_; refine j_assignL (fun _ => ?_); refine l_nil ?_)
     all_goals
      refine k_rv Try.results22 (fun w hw => ?_)
      first | (exfalso; omega) | exact ⟨false, rfl, cas_lt hc, by rw [casL_lt hc]; exact hw.finH⟩
   · try (exact absurd c31 (by decide))
     all_goals (revert c31; (first | refine cv2 ?_ | refine cv4 ?_ | refine cv6 ?_ | refine cv8 ?_ | refine cva ?_ | refine cvc ?_ | refine cve ?_ | skip); intro c31)
     all_goals try (exfalso; omega)
     all_goals (refine k_skip ?_; refine k_seq ?_; refine k_region ?_; refine j_move ?_; refine j_nilCheck ?_; refine j_fieldAddr ?_; refine j_load ?_; refine j_move ?_; refine j_dec ?_; refine j_move ?_; refine j_indexAddr ?_; refine j_store (fun _ => ?_); refine l_nil ?_; refine k_seq ?_; refine k_region ?_; refine j_assignL (fun _ => ?_); refine l_nil ?_)
     all_goals
      refine k_rv Try.results22 (fun w hw => ?_)
      first | (exfalso; omega) | exact ⟨false, rfl, cas_lt hc, by rw [casL_lt hc]; exact hw.finH⟩
theorem aLoad_at (hs : SF w D [(b, aO L cs gen acc pn cn pc cc)] A [] (mW L cs pn cn pc cc) w) {k : Nat} (hk : (k : Int) < 9223372036854775807) (hl : cs.length ≤ 274877906944) : Calls Try.prog 21 #[.pointer (some ⟨b, 0, none⟩), .int .i64 ((k + 1 : Nat) : Int)] w fun e w' => ∃ q : Unit, e = .returned (.int .i64 (cellV cs ((k + 1 : Nat) : Int))) ∧ True ∧ SF w D [(b, aO L cs gen (up acc) pn cn pc cc)] [] [] (mW L cs pn cn pc cc) w' := by
  refine enter Try.func21 Try.ntmps21 rfl rfl (aOpen hs) ?_
  simp only [mkS]
  all_goals (refine k_seq ?_; refine k_region ?_; refine j_assignL (fun _ => ?_); refine l_nil ?_; refine k_seq ?_; refine k_region ?_; refine j_move ?_; refine j_nilCheck ?_; refine j_fieldAddr ?_; refine j_load ?_; refine l_quiet (o_add (by exact rfl) (by exact rfl)) rfl ?_; refine j_nilCheck ?_; refine j_fieldAddr ?_; refine j_store (fun _ => ?_); refine l_nil ?_; refine k_seq ?_; refine k_seq ?_; refine k_region ?_; refine j_move ?_; refine j_move ?_; (refine j_own (cM (hc := fun w hs => aHas_c hs ((k + 1 : Nat) : Int))) (fun x14 => ?_); try (refine l_fact (fun h14 => ?_))); refine j_not ?_; refine l_nil ?_)
  all_goals
   refine k_if (fun c15 => ?_) (fun c15 => ?_)
   · try (exact absurd c15 (by decide))
     all_goals (revert c15; (first | refine cv1 ?_ | refine cv3 ?_ | refine cv5 ?_ | refine cv7 ?_ | refine cv9 ?_ | refine cvb ?_ | refine cvd ?_ | skip); intro c15)
     all_goals try (exfalso; omega)
     all_goals (refine k_seq ?_; refine k_region ?_; refine j_assignL (fun _ => ?_); refine l_nil ?_)
     all_goals
      refine k_rv Try.results21 (fun w hw => ?_)
      first | (exfalso; omega) | exact ⟨(), by rw [cellV_no (by omega)]; rfl, trivial, hw.finH⟩ | exact ⟨(), by rw [cellV_at (by omega)]; rfl, trivial, hw.finH⟩
   · try (exact absurd c15 (by decide))
     all_goals (revert c15; (first | refine cv2 ?_ | refine cv4 ?_ | refine cv6 ?_ | refine cv8 ?_ | refine cva ?_ | refine cvc ?_ | refine cve ?_ | skip); intro c15)
     all_goals try (exfalso; omega)
     all_goals (refine k_skip ?_; refine k_seq ?_; refine k_region ?_; refine j_move ?_; refine j_nilCheck ?_; refine j_fieldAddr ?_; refine j_load ?_; refine j_move ?_; refine j_dec ?_; refine j_indexAddr ?_; refine j_load ?_; refine j_assignL (fun _ => ?_); refine l_nil ?_)
     all_goals
      refine k_rv Try.results21 (fun w hw => ?_)
      first | (exfalso; omega) | exact ⟨(), by rw [cellV_no (by omega)]; rfl, trivial, hw.finH⟩ | exact ⟨(), by rw [cellV_at (by omega)]; rfl, trivial, hw.finH⟩
theorem aCAS_at (hs : SF w D [(b, aO L cs gen acc pn cn pc cc)] A [] (mW L cs pn cn pc cc) w) {k : Nat} (hk : (k : Int) < 9223372036854775807) (old new : Int) (hl : cs.length ≤ 274877906944) : Calls Try.prog 22 #[.pointer (some ⟨b, 0, none⟩), .int .i64 ((k + 1 : Nat) : Int), .int .i64 old, .int .i64 new] w fun e w' => ∃ r : Bool, e = .returned (.bool r) ∧ (r = true ↔ CasOk cs ((k + 1 : Nat) : Int) old) ∧ SF w D [(b, aO L (casL cs ((k + 1 : Nat) : Int) old new) gen (up acc) pn cn pc cc)] [] [] (mW L (casL cs ((k + 1 : Nat) : Int) old new) pn cn pc cc) w' := by
  refine enter Try.func22 Try.ntmps22 rfl rfl (aOpen hs) ?_
  simp only [mkS]
  all_goals (refine k_seq ?_; refine k_region ?_; refine j_assignL (fun _ => ?_); refine l_nil ?_; refine k_seq ?_; refine k_region ?_; refine j_move ?_; refine j_nilCheck ?_; refine j_fieldAddr ?_; refine j_load ?_; refine l_quiet (o_add (by exact rfl) (by exact rfl)) rfl ?_; refine j_nilCheck ?_; refine j_fieldAddr ?_; refine j_store (fun _ => ?_); refine l_nil ?_; refine k_seq ?_; refine k_seq ?_; refine k_region ?_; refine j_move ?_; refine j_move ?_; (refine j_own (cM (hc := fun w hs => aHas_c hs ((k + 1 : Nat) : Int))) (fun x18 => ?_); try (refine l_fact (fun h18 => ?_))); refine j_not ?_; refine j_move ?_)
  all_goals (first | refine j_un ?_ | (refine j_yes ?_; refine j_move ?_) | (refine l_case (g := 20) (by exact rfl) (fun g20 => ?_) (fun g20 => ?_) <;> (revert g20; (first | refine cv1 ?_ | refine cv2 ?_ | refine cvb ?_ | refine cvc ?_ | refine cv9 ?_ | refine cva ?_ | refine cv7 ?_ | refine cv8 ?_ | refine cvd ?_ | refine cve ?_ | skip); intro g20) <;> (try (exfalso; omega)) <;> (first | refine j_un ?_ | (refine j_yes ?_; refine j_move ?_))))
  all_goals ((first | refine j_un ?_ | (refine j_yes ?_; refine j_nilCheck ?_)); (first | refine j_un ?_ | (refine j_yes ?_; refine j_fieldAddr ?_)); (first | refine j_un ?_ | (refine j_yes ?_; refine j_load ?_)); (first | refine j_un ?_ | (refine j_yes ?_; refine j_move ?_)); (first | refine j_un ?_ | (refine j_yes ?_; refine j_dec ?_)); (first | refine j_un ?_ | (refine j_yes ?_; refine j_indexAddr ?_)); (first | refine j_un ?_ | (refine j_yes ?_; refine j_load ?_)); (first | refine j_un ?_ | (refine j_yes ?_; refine j_move ?_)); (first | refine j_un ?_ | (refine j_yes ?_; refine j_neq ?_)); refine j_pick ?_; refine l_nil ?_)
  all_goals
   refine k_if (fun c31 => ?_) (fun c31 => ?_)
   · try (exact absurd c31 (by decide))
     all_goals (revert c31; (first | refine cv1 ?_ | refine cv3 ?_ | refine cv5 ?_ | refine cv7 ?_ | refine cv9 ?_ | refine cvb ?_ | refine cvd ?_ | skip); intro c31)
     all_goals try (exfalso; omega)
     all_goals (refine k_seq ?_; refine k_region ?_; refine j_assignL (fun _ => ?_); refine l_nil ?_)
     all_goals
      refine k_rv Try.results22 (fun w hw => ?_)
      first | (exfalso; omega) | exact ⟨false, rfl, cas_ge (by omega), by rw [casL_ge (by omega)]; exact hw.finH⟩ | exact ⟨false, rfl, cas_ne (by simpa using c31), by rw [casL_ne (by simpa using c31)]; exact hw.finH⟩ | exact ⟨true, rfl, cas_eq (by omega) (by simpa using c31), by rw [casL_at (by omega) (by simpa using c31)]; simpa [mW, aO, mO] using hw.finH (F' := [])⟩
   · try (exact absurd c31 (by decide))
     all_goals (revert c31; (first | refine cv2 ?_ | refine cv4 ?_ | refine cv6 ?_ | refine cv8 ?_ | refine cva ?_ | refine cvc ?_ | refine cve ?_ | skip); intro c31)
     all_goals try (exfalso; omega)
     all_goals (refine k_skip ?_; refine k_seq ?_; refine k_region ?_; refine j_move ?_; refine j_nilCheck ?_; refine j_fieldAddr ?_; refine j_load ?_; refine j_move ?_; refine j_dec ?_; refine j_move ?_; refine j_indexAddr ?_; refine j_store (fun _ => ?_); refine l_nil ?_; refine k_seq ?_; refine k_region ?_; refine j_assignL (fun _ => ?_); refine l_nil ?_)
     all_goals
      refine k_rv Try.results22 (fun w hw => ?_)
      first | (exfalso; omega) | exact ⟨false, rfl, cas_ge (by omega), by rw [casL_ge (by omega)]; exact hw.finH⟩ | exact ⟨false, rfl, cas_ne (by simpa using c31), by rw [casL_ne (by simpa using c31)]; exact hw.finH⟩ | exact ⟨true, rfl, cas_eq (by omega) (by simpa using c31), by rw [casL_at (by omega) (by simpa using c31)]; simpa [mW, aO, mO] using hw.finH (F' := [])⟩
theorem aLoad_c (hs : SF w D [(b, aO L cs gen acc pn cn pc cc)] A [] (mW L cs pn cn pc cc) w) (c : Int) (hc : c ≤ 9223372036854775807) (hl : cs.length ≤ 274877906944) : Calls Try.prog 21 #[.pointer (some ⟨b, 0, none⟩), .int .i64 c] w fun e w' => ∃ q : Unit, e = .returned (.int .i64 (cellV cs c)) ∧ True ∧ SF w D [(b, aO L cs gen (up acc) pn cn pc cc)] [] [] (mW L cs pn cn pc cc) w' := by
  rcases Int.lt_or_le c 1 with h | h
  · exact aLoad_no hs c h
  · obtain ⟨k, rfl⟩ : ∃ k : Nat, c = ((k + 1 : Nat) : Int) := ⟨(c - 1).toNat, by omega⟩
    exact aLoad_at hs (by omega) hl
theorem aCAS_c (hs : SF w D [(b, aO L cs gen acc pn cn pc cc)] A [] (mW L cs pn cn pc cc) w) (c old new : Int) (hc : c ≤ 9223372036854775807) (hl : cs.length ≤ 274877906944) : Calls Try.prog 22 #[.pointer (some ⟨b, 0, none⟩), .int .i64 c, .int .i64 old, .int .i64 new] w fun e w' => ∃ r : Bool, e = .returned (.bool r) ∧ (r = true ↔ CasOk cs c old) ∧ SF w D [(b, aO L (casL cs c old new) gen (up acc) pn cn pc cc)] [] [] (mW L (casL cs c old new) pn cn pc cc) w' := by
  rcases Int.lt_or_le c 1 with h | h
  · exact aCAS_no hs c old new h
  · obtain ⟨k, rfl⟩ : ∃ k : Nat, c = ((k + 1 : Nat) : Int) := ⟨(c - 1).toNat, by omega⟩
    exact aCAS_at hs (by omega) old new hl
end Go.Proofs.Ytmogngagpphnhaa
