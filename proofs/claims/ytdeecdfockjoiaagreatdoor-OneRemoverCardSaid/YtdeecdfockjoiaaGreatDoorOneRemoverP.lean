/- The law OneRemover holds: a key that has been set once is removed once; the tables of math/bits and strconv read as the program's text lays them. -/
import Derived.Test.YtdeecdfockjoiaaGreatDoorGOpen
import Derived.Test.YtdeecdfockjoiaaGreatDoorWn5
import Derived.Test.YtdeecdfockjoiaaGreatDoorGLzg
set_option linter.unusedSimpArgs false
set_option linter.unusedVariables false
namespace Go.Proofs.YtdeecdfockjoiaaGreatDoor
open Go.Proofs.Tryz
open Go Go.RowKit Go.Ct Go.ChangeShapes Go.WideShapes Go.ChangeAt
set_option maxRecDepth 100000 in
theorem B9 (os : Os) (started : os.Started) (H : Type) (enc : TypeId × Value → H) (F : Stop.Interp) :
    ReturnsInHanded {} Tryz.checked os 3 .any ((OpenSpec.ofChange Rows.oneRemoverSpec).preRow enc prog Tryz.f3 Rows.oneRemoverRow.domain false Rows.oneRemoverRow.laid) (((OpenSpec.ofChange Rows.oneRemoverSpec).at F).post enc prog Tryz.f3 false true false false) := by
     refine returnsInHanded_of_row (C := Tryz.checked) (s := (OpenSpec.ofChange Rows.oneRemoverSpec)) aDS started (by kernel_rfl) func3
       (witness_row_at (enc := enc) (C := Tryz.checked) false (L9 os) #[.slice none 0 0, .slice none 0 0, .int .u64 0, .int .u64 0] rfl (by kernel_rfl) (by kernel_rfl) (by kernel_rfl)
         (OpenSpec.preRow_of_cond (x := ([.nil, .nil, .lit (.int .u64 0), .lit (.int .u64 0)], [], [])) 8 (by kernel_rfl) (by kernel_rfl) (fun k hk => by cases hk) (by kernel_rfl) (lr os _))) ?_
     intro W base args ds gs before hval hW _ _ hwt hL _ _;have hT := aAF hL;refine Js (s := Rows.oneRemoverSpec) aCC (by kernel_rfl) rfl aCo rfl (fun ds hd => ?_) hval hW hwt ?_
     ·match ds, hd with
      | [d1, d2, d3, d4], _=> exact ⟨rfl, rfl, rfl⟩
     ·intro args hc;have hps : Tryz.f3.params.toList = [22, 22, 23, 23] := by kernel_rfl
      have ha := hc.split;rw [hps] at ha;obtain ⟨v0, _, _, rfl, a0, ha⟩ := ha.next;obtain ⟨v1, _, _, rfl, a1, ha⟩ := ha.next;obtain ⟨v2, _, _, rfl, a2, ha⟩ := ha.next;obtain ⟨v3, _, _, rfl, a3, ha⟩ := ha.next;obtain rfl := ha.done;obtain ⟨p0, l0, c0, rfl, hlc0, hc0, hcl0, hv0⟩ := Ra a0;obtain ⟨p1, l1, c1, rfl, hlc1, hc1, hcl1, hv1⟩ := Ra a1;obtain ⟨i2, rfl, r2⟩ := Vu a2 xi;obtain ⟨i3, rfl, r3⟩ := Vu a3 xi;have r2' : 0 ≤ i2 ∧ i2 ≤ 18446744073709551615 := r2;obtain ⟨m, rfl⟩ := Int.eq_ofNat_of_zero_le r2'.1;exact M3 (fun w => Yu ue w) (by omega) hcl0 hcl1 (by omega) (by omega)
theorem Jq : (Rows.oneRemoverRow.inPlace == prog.inPlace 3) = true := by kernel_rfl
theorem Ka : (Rows.oneRemoverRow.unfollowed == prog.unfollowed 3) = true := by kernel_rfl
theorem Kg : (Rows.oneRemoverRow.recurses == prog.recurses 3) = true := by kernel_rfl
theorem Kb : (Rows.oneRemoverRow.named == prog.varsNamed 3) = true := by kernel_rfl
theorem Jt : (Rows.oneRemoverRow.lifted == prog.liftsFinal) = true := ng
theorem Br : joinedFacts prog 3 Tryz.f3 (OpenSpec.ofChange Rows.oneRemoverSpec).bare Rows.oneRemoverRow = true := by
 unfold joinedFacts;repeat' (with_reducible refine aDF ?_ ?_)
 all_goals first | with_reducible exact vg | with_reducible exact sy | with_reducible exact m8 | with_reducible exact aBJ | with_reducible exact Jt | with_reducible exact Jq | with_reducible exact Ka | with_reducible exact Kg | with_reducible exact Kb | kernel_rfl
theorem E1 : Rows.OneRemoverSaid :=
  OpenClaim.holds_of_cond 3 Tryz.f3 rfl rfl rfl rfl rfl rfl rfl ⟨rfl, rfl, rfl, rfl, rfl⟩ rfl rfl rfl rfl rfl (by kernel_rfl) func3 Br
    (of_decide_eq_true (by kernel_rfl)) (by unfold Func.isWrapper; first | (rw [if_pos (by decide +kernel)]; kernel_rfl) | (rw [if_neg (by decide +kernel)]; exact ⟨rfl, rfl⟩))
    (fun os started H enc _ F => by rw [OpenClaim.pre_eq_preRow]; exact B9 os started H enc F)
theorem C9 (f : FuncId) (fn : Func) (hf : Tryz.pinned.checked.prog.funcNamed "ctrie/ctrietop.OneRemover" = some f) (hfn : Tryz.pinned.checked.prog.funcs[f]? = some fn) :
    true = Tryz.pinned.checked.prog.looks [] ∧ ∀ (j : Nat) t, fn.params[j]? = some t → Tryz.pinned.checked.prog.wantsStandIn t = false := by
  obtain rfl : f = 3 := Option.some.inj ((show prog.funcNamed "ctrie/ctrietop.OneRemover" = some 3 by kernel_rfl).symm.trans hf) |>.symm;obtain rfl : fn = Tryz.f3 := (Option.some.inj (func3.symm.trans hfn)).symm;refine ⟨by kernel_rfl, fun j t ht => ?_⟩;have hm : t ∈ [22, 22, 23, 23] := by have h1 := Array.mem_of_getElem? ht;rwa [← Array.mem_toList_iff, show Tryz.f3.params.toList = [22, 22, 23, 23] by kernel_rfl] at h1
  have hall : ([22, 22, 23, 23].all fun u => !prog.wantsStandIn u) = true := by kernel_rfl
  exact (show prog.wantsStandIn t = false by simpa using List.all_eq_true.1 hall t hm)
theorem oneRemoverCard_holds : Rows.OneRemoverCardSaid :=
  Claim7.holds_tied_plain_at .later [] _ _ _ _ E1 (fun _ h => by cases h) (by kernel_rfl) (fun _ h => by cases h) oneRemover_row_tie rfl ⟨rfl, rfl⟩ (by kernel_rfl) rfl C9 (by kernel_rfl)
#print axioms oneRemoverCard_holds
end Go.Proofs.YtdeecdfockjoiaaGreatDoor
