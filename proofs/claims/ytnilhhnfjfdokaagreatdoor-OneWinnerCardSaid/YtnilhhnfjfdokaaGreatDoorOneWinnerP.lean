/- The law OneWinner holds: of three threads that put under one absent key exactly one finds it absent; the tables of math/bits and strconv read as the program's text lays them. -/
import Derived.Test.YtnilhhnfjfdokaaGreatDoorGOpen
import Derived.Test.YtnilhhnfjfdokaaGreatDoorGEqs
import Derived.Test.YtnilhhnfjfdokaaGreatDoorGWa2
set_option linter.unusedSimpArgs false
set_option linter.unusedVariables false
namespace Go.Proofs.YtnilhhnfjfdokaaGreatDoor
open Go Go.RowKit Go.Ct Go.ChangeShapes Go.WideShapes Go.ChangeAt

set_option maxRecDepth 100000 in
theorem xL (os : Os) (started : os.Started) (H : Type) (enc : TypeId × Value → H) (F : Stop.Interp) :
    ReturnsInHanded {} Tryz.checked os 3 .any ((OpenSpec.ofChange Rows.oneWinnerSpec).preRow enc Tryz.prog Tryz.f3 Rows.oneWinnerRow.domain false Rows.oneWinnerRow.laid) (((OpenSpec.ofChange Rows.oneWinnerSpec).at F).post enc Tryz.prog Tryz.f3 false true false false) := by
  refine returnsInHanded_of_row (C := Tryz.checked) (s := (OpenSpec.ofChange Rows.oneWinnerSpec)) ph started (by kernel_rfl) Tryz.func3
    (witness_row_at (enc := enc) (C := Tryz.checked) false (Ec os) #[.slice none 0 0, .int .u64 0, .string ⟨#[]⟩, .int .u64 0] rfl (by kernel_rfl) (by kernel_rfl) (by kernel_rfl)
      (OpenSpec.preRow_of_cond (x := ([.nil, .lit (.int .u64 0), .lit (.string []), .lit (.int .u64 0)], [], [])) 8 (by kernel_rfl) (by kernel_rfl) (fun k hk => by cases hk) (by kernel_rfl) (Vh os _))) ?_
  intro W base args ds gs before hval hW _ _ hwt hL _ _
  have hT := jb hL
  refine Db (s := Rows.oneWinnerSpec) mv (by kernel_rfl) rfl nu rfl (fun ds hd => ?_) hval hW hwt ?_
  · match ds, hd with
    | [d1, d2, d3, d4], _ => exact ⟨rfl, rfl, rfl⟩
  · intro args hc
    have hps : Tryz.f3.params.toList = [22, 23, 9, 23] := by kernel_rfl
    have ha := hc.split
    rw [hps] at ha
    obtain ⟨v0, _, _, rfl, a0, ha⟩ := ha.next
    obtain ⟨v1, _, _, rfl, a1, ha⟩ := ha.next
    obtain ⟨v2, _, _, rfl, a2, ha⟩ := ha.next
    obtain ⟨v3, _, _, rfl, a3, ha⟩ := ha.next
    obtain rfl := ha.done
    obtain ⟨p0, l0, c0, rfl, hlc0, hc0, hcl0, hv0⟩ := U5 a0
    obtain ⟨i1, rfl, r1⟩ := Mt a1 ar
    obtain ⟨s2, rfl, r2⟩ := a2.str m9
    obtain ⟨i3, rfl, r3⟩ := Mt a3 ar
    have r1' : 0 ≤ i1 ∧ i1 ≤ 18446744073709551615 := r1
    obtain ⟨m, rfl⟩ := Int.eq_ofNat_of_zero_le r1'.1
    exact H2 (fun w => P8 Yo w) (by omega) hcl0 (by omega)
theorem Fl : (Rows.oneWinnerRow.inPlace == Tryz.prog.inPlace 3) = true := by kernel_rfl
theorem E0 : (Rows.oneWinnerRow.unfollowed == Tryz.prog.unfollowed 3) = true := by kernel_rfl
theorem E9 : (Rows.oneWinnerRow.recurses == Tryz.prog.recurses 3) = true := by kernel_rfl
theorem F6 : (Rows.oneWinnerRow.named == Tryz.prog.varsNamed 3) = true := by kernel_rfl
theorem Fa : (Rows.oneWinnerRow.lifted == Tryz.prog.liftsFinal) = true := Sn
theorem xP : joinedFacts Tryz.prog 3 Tryz.f3 (OpenSpec.ofChange Rows.oneWinnerSpec).bare Rows.oneWinnerRow = true := by
  unfold joinedFacts
  repeat' (with_reducible refine qc ?_ ?_)
  all_goals first | with_reducible exact ag | with_reducible exact Xl | with_reducible exact R0 | with_reducible exact gu | with_reducible exact Fa | with_reducible exact Fl | with_reducible exact E0 | with_reducible exact E9 | with_reducible exact F6 | kernel_rfl
theorem Ce : Rows.OneWinnerSaid :=
  OpenClaim.holds_of_cond 3 Tryz.f3 rfl rfl rfl rfl rfl rfl rfl ⟨rfl, rfl, rfl, rfl, rfl⟩ rfl rfl rfl rfl rfl (by kernel_rfl) Tryz.func3 xP
    (of_decide_eq_true (by kernel_rfl)) (by unfold Func.isWrapper; first | (rw [if_pos (by decide +kernel)]; kernel_rfl) | (rw [if_neg (by decide +kernel)]; exact ⟨rfl, rfl⟩))
    (fun os started H enc _ F => by rw [OpenClaim.pre_eq_preRow]; exact xL os started H enc F)
theorem zB (f : FuncId) (fn : Func) (hf : Tryz.pinned.checked.prog.funcNamed "ctrie/ctrietop.OneWinner" = some f) (hfn : Tryz.pinned.checked.prog.funcs[f]? = some fn) :
    true = Tryz.pinned.checked.prog.looks [] ∧ ∀ (j : Nat) t, fn.params[j]? = some t → Tryz.pinned.checked.prog.wantsStandIn t = false := by
  obtain rfl : f = 3 := Option.some.inj ((show Tryz.prog.funcNamed "ctrie/ctrietop.OneWinner" = some 3 by kernel_rfl).symm.trans hf) |>.symm
  obtain rfl : fn = Tryz.f3 := (Option.some.inj (Tryz.func3.symm.trans hfn)).symm
  refine ⟨by kernel_rfl, fun j t ht => ?_⟩
  have hm : t ∈ [22, 23, 9, 23] := by
    have h1 := Array.mem_of_getElem? ht
    rwa [← Array.mem_toList_iff, show Tryz.f3.params.toList = [22, 23, 9, 23] by kernel_rfl] at h1
  have hall : ([22, 23, 9, 23].all fun u => !Tryz.prog.wantsStandIn u) = true := by kernel_rfl
  exact (show Tryz.prog.wantsStandIn t = false by simpa using List.all_eq_true.1 hall t hm)
theorem oneWinnerCard_holds : Rows.OneWinnerCardSaid :=
  Claim7.holds_tied_plain_at .later [] _ _ _ _ Ce (fun _ h => by cases h) (by kernel_rfl) (fun _ h => by cases h) oneWinner_row_tie rfl ⟨rfl, rfl⟩ (by kernel_rfl) rfl zB (by kernel_rfl)
#print axioms oneWinnerCard_holds
end Go.Proofs.YtnilhhnfjfdokaaGreatDoor
