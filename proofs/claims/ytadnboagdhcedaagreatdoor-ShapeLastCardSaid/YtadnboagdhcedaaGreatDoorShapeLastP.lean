/- The law ShapeLast holds: two keys with equal hash values share an I-node of the greatest level, and removing one of them brings the other one back to the root; the table of math/bits reads as the program's text lays it. -/
import Derived.Test.YtadnboagdhcedaaGreatDoorGOpen
import Derived.Test.YtadnboagdhcedaaGreatDoorGArT
import Derived.Test.YtadnboagdhcedaaGreatDoorGSh6
import Derived.Test.YtadnboagdhcedaaGreatDoorGSh23
set_option linter.unusedSimpArgs false
set_option linter.unusedVariables false
namespace Go.Proofs.YtadnboagdhcedaaGreatDoor
open Go Go.RowKit Go.Ct Go.ChangeShapes Go.WideShapes Go.ChangeAt

set_option maxRecDepth 100000 in
theorem zG (os : Os) (started : os.Started) (H : Type) (enc : TypeId × Value → H) (F : Stop.Interp) :
    ReturnsInHanded {} Tryz.checked os 6 .any ((OpenSpec.ofChange Rows.shapeLastSpec).preRow enc Tryz.prog Tryz.f6 Rows.shapeLastRow.domain false Rows.shapeLastRow.laid) (((OpenSpec.ofChange Rows.shapeLastSpec).at F).post enc Tryz.prog Tryz.f6 false true false false) := by
  refine returnsInHanded_of_row (C := Tryz.checked) (s := (OpenSpec.ofChange Rows.shapeLastSpec)) zt started (by kernel_rfl) Tryz.func6
    (witness_row_at (enc := enc) (C := Tryz.checked) false (Gf os) #[.int .u64 0] rfl (by kernel_rfl) (by kernel_rfl) (by kernel_rfl)
      (OpenSpec.preRow_of_cond (x := ([.lit (.int .u64 0)], [], [])) 8 (by kernel_rfl) (by kernel_rfl) (fun k hk => by cases hk) (by kernel_rfl) (Wz os _))) ?_
  intro W base args ds gs before hval hW _ _ hwt hL _ _
  have hT := sf hL
  refine Et (s := Rows.shapeLastSpec) ul (by kernel_rfl) rfl tv rfl (fun ds hd => ?_) hval hW hwt ?_
  · match ds, hd with
    | [d1], _ => exact ⟨rfl, rfl, rfl⟩
  · intro args hc
    have hps : Tryz.f6.params.toList = [30] := by kernel_rfl
    have ha := hc.split
    rw [hps] at ha
    obtain ⟨v0, _, _, rfl, a0, ha⟩ := ha.next
    obtain rfl := ha.done
    obtain ⟨i0, rfl, r0⟩ := gp a0 uq
    exact Kk hT
theorem Il : (Rows.shapeLastRow.inPlace == Tryz.prog.inPlace 6) = true := by kernel_rfl
theorem Im : (Rows.shapeLastRow.unfollowed == Tryz.prog.unfollowed 6) = true := by kernel_rfl
theorem I2 : (Rows.shapeLastRow.recurses == Tryz.prog.recurses 6) = true := by kernel_rfl
theorem G0 : (Rows.shapeLastRow.named == Tryz.prog.varsNamed 6) = true := by kernel_rfl
theorem G4 : (Rows.shapeLastRow.lifted == Tryz.prog.liftsFinal) = true := W9
theorem yI : joinedFacts Tryz.prog 6 Tryz.f6 (OpenSpec.ofChange Rows.shapeLastSpec).bare Rows.shapeLastRow = true := by
  unfold joinedFacts
  repeat' (with_reducible refine zl ?_ ?_)
  all_goals first | with_reducible exact gy | with_reducible exact gi | with_reducible exact Y5 | with_reducible exact sb | with_reducible exact G4 | with_reducible exact Il | with_reducible exact Im | with_reducible exact I2 | with_reducible exact G0 | kernel_rfl
theorem D1 : Rows.ShapeLastSaid :=
  OpenClaim.holds_of_cond 6 Tryz.f6 rfl rfl rfl rfl rfl rfl rfl ⟨rfl, rfl, rfl, rfl, rfl⟩ rfl rfl rfl rfl rfl (by kernel_rfl) Tryz.func6 yI
    (of_decide_eq_true (by kernel_rfl)) (by unfold Func.isWrapper; first | (rw [if_pos (by decide +kernel)]; kernel_rfl) | (rw [if_neg (by decide +kernel)]; exact ⟨rfl, rfl⟩))
    (fun os started H enc _ F => by rw [OpenClaim.pre_eq_preRow]; exact zG os started H enc F)
theorem A2 (f : FuncId) (fn : Func) (hf : Tryz.pinned.checked.prog.funcNamed "ctrie/ctrielaw10.ShapeLast" = some f) (hfn : Tryz.pinned.checked.prog.funcs[f]? = some fn) :
    false = Tryz.pinned.checked.prog.looks [] ∧ ∀ (j : Nat) t, fn.params[j]? = some t → Tryz.pinned.checked.prog.wantsStandIn t = false := by
  obtain rfl : f = 6 := Option.some.inj ((show Tryz.prog.funcNamed "ctrie/ctrielaw10.ShapeLast" = some 6 by kernel_rfl).symm.trans hf) |>.symm
  obtain rfl : fn = Tryz.f6 := (Option.some.inj (Tryz.func6.symm.trans hfn)).symm
  refine ⟨by kernel_rfl, fun j t ht => ?_⟩
  have hm : t ∈ [30] := by
    have h1 := Array.mem_of_getElem? ht
    rwa [← Array.mem_toList_iff, show Tryz.f6.params.toList = [30] by kernel_rfl] at h1
  have hall : ([30].all fun u => !Tryz.prog.wantsStandIn u) = true := by kernel_rfl
  exact (show Tryz.prog.wantsStandIn t = false by simpa using List.all_eq_true.1 hall t hm)
theorem shapeLastCard_holds : Rows.ShapeLastCardSaid :=
  Claim7.holds_tied_plain_at .later [] _ _ _ _ D1 (fun _ h => by cases h) (by kernel_rfl) (fun _ h => by cases h) shapeLast_row_tie rfl ⟨rfl, rfl⟩ (by kernel_rfl) rfl A2 (by kernel_rfl)
#print axioms shapeLastCard_holds
end Go.Proofs.YtadnboagdhcedaaGreatDoor
