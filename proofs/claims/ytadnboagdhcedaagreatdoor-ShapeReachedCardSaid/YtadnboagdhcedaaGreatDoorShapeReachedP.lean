/- The law ShapeReached holds: all tries that result from operations of the reference, finished or not, are well-formed, and they are quiet after all operations have finished; the table of math/bits reads as the program's text lays it. -/
import Derived.Test.YtadnboagdhcedaaGreatDoorGOpen
import Derived.Test.YtadnboagdhcedaaGreatDoorGIxg
import Derived.Test.YtadnboagdhcedaaGreatDoorGSh6
import Derived.Test.YtadnboagdhcedaaGreatDoorGWo7
import Derived.Test.YtadnboagdhcedaaGreatDoorGSh20
set_option linter.unusedSimpArgs false
set_option linter.unusedVariables false
namespace Go.Proofs.YtadnboagdhcedaaGreatDoor
open Go Go.RowKit Go.Ct Go.ChangeShapes Go.WideShapes Go.ChangeAt

set_option maxRecDepth 100000 in
theorem vU (os : Os) (started : os.Started) (H : Type) (enc : TypeId × Value → H) (F : Stop.Interp) :
    ReturnsInHanded {} Tryz.checked os 4 .any ((OpenSpec.ofChange Rows.shapeReachedSpec).preRow enc Tryz.prog Tryz.f4 Rows.shapeReachedRow.domain false Rows.shapeReachedRow.laid) (((OpenSpec.ofChange Rows.shapeReachedSpec).at F).post enc Tryz.prog Tryz.f4 false true false false) := by
  refine returnsInHanded_of_row (C := Tryz.checked) (s := (OpenSpec.ofChange Rows.shapeReachedSpec)) aAx started (by kernel_rfl) Tryz.func4
    (witness_row_at (enc := enc) (C := Tryz.checked) false (Hh os) #[.slice none 0 0] rfl (by kernel_rfl) (by kernel_rfl) (by kernel_rfl)
      (OpenSpec.preRow_of_cond (x := ([.nil], [], [])) 8 (by kernel_rfl) (by kernel_rfl) (fun k hk => by cases hk) (by kernel_rfl) (V3 os _))) ?_
  intro W base args ds gs before hval hW _ _ hwt hL _ _
  have hT := rh hL
  refine F9 (s := Rows.shapeReachedSpec) zr (by kernel_rfl) rfl yq rfl (fun ds hd => ?_) hval hW hwt ?_
  · match ds, hd with
    | [d1], _ => exact ⟨rfl, rfl, rfl⟩
  · intro args hc
    have hps : Tryz.f4.params.toList = [26] := by kernel_rfl
    have ha := hc.split
    rw [hps] at ha
    obtain ⟨v0, _, _, rfl, a0, ha⟩ := ha.next
    obtain rfl := ha.done
    obtain ⟨p0, l0, c0, rfl, hlc0, hc0, hcl0, hv0⟩ := av a0
    exact Fe (fun w h => Uo h) hcl0 (by omega) hT
theorem Cb : (Rows.shapeReachedRow.inPlace == Tryz.prog.inPlace 4) = true := by kernel_rfl
theorem B7 : (Rows.shapeReachedRow.unfollowed == Tryz.prog.unfollowed 4) = true := by kernel_rfl
theorem Ca : (Rows.shapeReachedRow.recurses == Tryz.prog.recurses 4) = true := by kernel_rfl
theorem B2 : (Rows.shapeReachedRow.named == Tryz.prog.varsNamed 4) = true := by kernel_rfl
theorem B3 : (Rows.shapeReachedRow.lifted == Tryz.prog.liftsFinal) = true := aa
theorem vQ : joinedFacts Tryz.prog 4 Tryz.f4 (OpenSpec.ofChange Rows.shapeReachedSpec).bare Rows.shapeReachedRow = true := by
  unfold joinedFacts
  repeat' (with_reducible refine aAz ?_ ?_)
  all_goals first | with_reducible exact dt | with_reducible exact kj | with_reducible exact V7 | with_reducible exact uh | with_reducible exact B3 | with_reducible exact Cb | with_reducible exact B7 | with_reducible exact Ca | with_reducible exact B2 | kernel_rfl
theorem yX : Rows.ShapeReachedSaid :=
  OpenClaim.holds_of_cond 4 Tryz.f4 rfl rfl rfl rfl rfl rfl rfl ⟨rfl, rfl, rfl, rfl, rfl⟩ rfl rfl rfl rfl rfl (by kernel_rfl) Tryz.func4 vQ
    (of_decide_eq_true (by kernel_rfl)) (by unfold Func.isWrapper; first | (rw [if_pos (by decide +kernel)]; kernel_rfl) | (rw [if_neg (by decide +kernel)]; exact ⟨rfl, rfl⟩))
    (fun os started H enc _ F => by rw [OpenClaim.pre_eq_preRow]; exact vU os started H enc F)
theorem xD (f : FuncId) (fn : Func) (hf : Tryz.pinned.checked.prog.funcNamed "ctrie/ctrielaw10.ShapeReached" = some f) (hfn : Tryz.pinned.checked.prog.funcs[f]? = some fn) :
    false = Tryz.pinned.checked.prog.looks [] ∧ ∀ (j : Nat) t, fn.params[j]? = some t → Tryz.pinned.checked.prog.wantsStandIn t = false := by
  obtain rfl : f = 4 := Option.some.inj ((show Tryz.prog.funcNamed "ctrie/ctrielaw10.ShapeReached" = some 4 by kernel_rfl).symm.trans hf) |>.symm
  obtain rfl : fn = Tryz.f4 := (Option.some.inj (Tryz.func4.symm.trans hfn)).symm
  refine ⟨by kernel_rfl, fun j t ht => ?_⟩
  have hm : t ∈ [26] := by
    have h1 := Array.mem_of_getElem? ht
    rwa [← Array.mem_toList_iff, show Tryz.f4.params.toList = [26] by kernel_rfl] at h1
  have hall : ([26].all fun u => !Tryz.prog.wantsStandIn u) = true := by kernel_rfl
  exact (show Tryz.prog.wantsStandIn t = false by simpa using List.all_eq_true.1 hall t hm)
theorem shapeReachedCard_holds : Rows.ShapeReachedCardSaid :=
  Claim7.holds_tied_plain_at .later [] _ _ _ _ yX (fun _ h => by cases h) (by kernel_rfl) (fun _ h => by cases h) shapeReached_row_tie rfl ⟨rfl, rfl⟩ (by kernel_rfl) rfl xD (by kernel_rfl)
#print axioms shapeReachedCard_holds
end Go.Proofs.YtadnboagdhcedaaGreatDoor
