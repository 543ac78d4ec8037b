/- The law ShapeDepth holds: the depth of a well-formed trie is at most MaxLevel, and 0 for a trie whose keys differ in the first slice; the table of math/bits reads as the program's text lays it. -/
import Derived.Test.YtadnboagdhcedaaGreatDoorGOpen
import Derived.Test.YtadnboagdhcedaaGreatDoorGIxg
import Derived.Test.YtadnboagdhcedaaGreatDoorGSh6
import Derived.Test.YtadnboagdhcedaaGreatDoorGSh23
set_option linter.unusedSimpArgs false
set_option linter.unusedVariables false
namespace Go.Proofs.YtadnboagdhcedaaGreatDoor
open Go Go.RowKit Go.Ct Go.ChangeShapes Go.WideShapes Go.ChangeAt

set_option maxRecDepth 100000 in
theorem yA (os : Os) (started : os.Started) (H : Type) (enc : TypeId × Value → H) (F : Stop.Interp) :
    ReturnsInHanded {} Tryz.checked os 5 .any ((OpenSpec.ofChange Rows.shapeDepthSpec).preRow enc Tryz.prog Tryz.f5 Rows.shapeDepthRow.domain false Rows.shapeDepthRow.laid) (((OpenSpec.ofChange Rows.shapeDepthSpec).at F).post enc Tryz.prog Tryz.f5 false true false false) := by
  refine returnsInHanded_of_row (C := Tryz.checked) (s := (OpenSpec.ofChange Rows.shapeDepthSpec)) aAv started (by kernel_rfl) Tryz.func5
    (witness_row_at (enc := enc) (C := Tryz.checked) false (Ha os) #[.slice none 0 0, .int .u64 0] rfl (by kernel_rfl) (by kernel_rfl) (by kernel_rfl)
      (OpenSpec.preRow_of_cond (x := ([.nil, .lit (.int .u64 0)], [], [])) 8 (by kernel_rfl) (by kernel_rfl) (fun k hk => by cases hk) (by kernel_rfl) (Yk os _))) ?_
  intro W base args ds gs before hval hW _ _ hwt hL _ _
  have hT := r9 hL
  refine Gc (s := Rows.shapeDepthSpec) yk (by kernel_rfl) rfl xc rfl (fun ds hd => ?_) hval hW hwt ?_
  · match ds, hd with
    | [d1, d2], _ => exact ⟨rfl, rfl, rfl⟩
  · intro args hc
    have hps : Tryz.f5.params.toList = [26, 30] := by kernel_rfl
    have ha := hc.split
    rw [hps] at ha
    obtain ⟨v0, _, _, rfl, a0, ha⟩ := ha.next
    obtain ⟨v1, _, _, rfl, a1, ha⟩ := ha.next
    obtain rfl := ha.done
    obtain ⟨p0, l0, c0, rfl, hlc0, hc0, hcl0, hv0⟩ := Z0 a0
    obtain ⟨i1, rfl, r1⟩ := ls a1 zs
    exact Jv hcl0 (by omega) hT
theorem F6 : (Rows.shapeDepthRow.inPlace == Tryz.prog.inPlace 5) = true := by kernel_rfl
theorem Fu : (Rows.shapeDepthRow.unfollowed == Tryz.prog.unfollowed 5) = true := by kernel_rfl
theorem Gb : (Rows.shapeDepthRow.recurses == Tryz.prog.recurses 5) = true := by kernel_rfl
theorem F3 : (Rows.shapeDepthRow.named == Tryz.prog.varsNamed 5) = true := by kernel_rfl
theorem Ft : (Rows.shapeDepthRow.lifted == Tryz.prog.liftsFinal) = true := Yi
theorem xN : joinedFacts Tryz.prog 5 Tryz.f5 (OpenSpec.ofChange Rows.shapeDepthSpec).bare Rows.shapeDepthRow = true := by
  unfold joinedFacts
  repeat' (with_reducible refine aAy ?_ ?_)
  all_goals first | with_reducible exact ef | with_reducible exact jw | with_reducible exact Ze | with_reducible exact ui | with_reducible exact Ft | with_reducible exact F6 | with_reducible exact Fu | with_reducible exact Gb | with_reducible exact F3 | kernel_rfl
theorem B3 : Rows.ShapeDepthSaid :=
  OpenClaim.holds_of_cond 5 Tryz.f5 rfl rfl rfl rfl rfl rfl rfl ⟨rfl, rfl, rfl, rfl, rfl⟩ rfl rfl rfl rfl rfl (by kernel_rfl) Tryz.func5 xN
    (of_decide_eq_true (by kernel_rfl)) (by unfold Func.isWrapper; first | (rw [if_pos (by decide +kernel)]; kernel_rfl) | (rw [if_neg (by decide +kernel)]; exact ⟨rfl, rfl⟩))
    (fun os started H enc _ F => by rw [OpenClaim.pre_eq_preRow]; exact yA os started H enc F)
theorem zX (f : FuncId) (fn : Func) (hf : Tryz.pinned.checked.prog.funcNamed "ctrie/ctrielaw10.ShapeDepth" = some f) (hfn : Tryz.pinned.checked.prog.funcs[f]? = some fn) :
    false = Tryz.pinned.checked.prog.looks [] ∧ ∀ (j : Nat) t, fn.params[j]? = some t → Tryz.pinned.checked.prog.wantsStandIn t = false := by
  obtain rfl : f = 5 := Option.some.inj ((show Tryz.prog.funcNamed "ctrie/ctrielaw10.ShapeDepth" = some 5 by kernel_rfl).symm.trans hf) |>.symm
  obtain rfl : fn = Tryz.f5 := (Option.some.inj (Tryz.func5.symm.trans hfn)).symm
  refine ⟨by kernel_rfl, fun j t ht => ?_⟩
  have hm : t ∈ [26, 30] := by
    have h1 := Array.mem_of_getElem? ht
    rwa [← Array.mem_toList_iff, show Tryz.f5.params.toList = [26, 30] by kernel_rfl] at h1
  have hall : ([26, 30].all fun u => !Tryz.prog.wantsStandIn u) = true := by kernel_rfl
  exact (show Tryz.prog.wantsStandIn t = false by simpa using List.all_eq_true.1 hall t hm)
theorem shapeDepthCard_holds : Rows.ShapeDepthCardSaid :=
  Claim7.holds_tied_plain_at .later [] _ _ _ _ B3 (fun _ h => by cases h) (by kernel_rfl) (fun _ h => by cases h) shapeDepth_row_tie rfl ⟨rfl, rfl⟩ (by kernel_rfl) rfl zX (by kernel_rfl)
#print axioms shapeDepthCard_holds
end Go.Proofs.YtadnboagdhcedaaGreatDoor
