/- The law ShapeExact holds: all functions return the specified results, for arbitrary states, for states that result from operations, and for such states of which a cell or a node has been changed; for every input of bulk at most 1048576; the table of math/bits reads as the program's text lays it. -/
import Derived.Test.YtadnboagdhcedaaGreatDoorGOpen
import Derived.Test.YtadnboagdhcedaaGreatDoorGArT
import Derived.Test.YtadnboagdhcedaaGreatDoorGSh6
import Derived.Test.YtadnboagdhcedaaGreatDoorGWo7
set_option linter.unusedSimpArgs false
set_option linter.unusedVariables false
namespace Go.Proofs.YtadnboagdhcedaaGreatDoor
open Go Go.RowKit Go.Ct Go.ChangeShapes Go.WideShapes Go.ChangeAt

set_option maxRecDepth 100000 in
theorem uY (os : Os) (started : os.Started) (H : Type) (enc : TypeId × Value → H) (F : Stop.Interp) :
    ReturnsInHanded {} Tryz.checked os 3 .any ((Rows.OpenSpec.upto Rows.shapeExactSpec).preRow enc Tryz.prog Tryz.f3 Rows.shapeExactUptoRow.domain false Rows.shapeExactUptoRow.laid) (((Rows.OpenSpec.upto Rows.shapeExactSpec).at F).post enc Tryz.prog Tryz.f3 false true false false) := by
  refine returnsInHanded_of_row (C := Tryz.checked) (s := (Rows.OpenSpec.upto Rows.shapeExactSpec)) aCH started (by kernel_rfl) Tryz.func3
    (witness_row_at (enc := enc) (C := Tryz.checked) false (Kl os) #[.agg ⟨[.slice none 0 0, .slice none 0 0, .int .i64 0]⟩, .slice none 0 0, .agg ⟨[.int .i64 0, .bool false]⟩, .int .u64 0, .int .i64 0, .int .i64 0, .int .i64 0] rfl (by kernel_rfl) (by kernel_rfl) (by kernel_rfl)
      (OpenSpec.preRow_of_cond (x := ([.agg [.nil, .nil, .lit (.int .i64 0)], .nil, .agg [.lit (.int .i64 0), .lit (.bool false)], .lit (.int .u64 0), .lit (.int .i64 0), .lit (.int .i64 0), .lit (.int .i64 0)], [], [])) 8 (by kernel_rfl) (by kernel_rfl) (fun k hk => by cases hk; kernel_rfl) (by kernel_rfl) (dg os _))) ?_
  intro W base args ds gs before hval hW _ hkU hwt hL _ _
  have hbk : Rows.uptoBulkAll (ds ++ gs) ≤ 1048576 := of_decide_eq_true (hkU _ rfl)
  refine Ip (s := Rows.shapeExactSpec) aBy (by kernel_rfl) rfl vr rfl (fun ds hd => ?_) hval hW hwt ?_
  · match ds, hd with
    | [d1, d2, d3, d4, d5, d6, d7], _ => exact ⟨rfl, rfl, rfl⟩
  · intro args hc
    have hT := aAL hL
    have hbk := aw hbk
    have hps : Tryz.f3.params.toList = [25, 26, 29, 30, 3, 3, 3] := by kernel_rfl
    obtain ⟨vU, vsU, dU, dsU, rfl, rfl, aU⟩ := Tg hc hps
    have hbU : Rows.uptoBulk dU ≤ 1048576 := Nat.le_trans (xT (List.mem_cons_self ..)) hbk
    have ha := hc.split
    rw [hps] at ha
    obtain ⟨v0, _, _, eU, a0, ha⟩ := ha.next
    injection eU with eU1 eU2
    subst eU1 eU2
    obtain ⟨v1, _, _, rfl, a1, ha⟩ := ha.next
    obtain ⟨v2, _, _, rfl, a2, ha⟩ := ha.next
    obtain ⟨v3, _, _, rfl, a3, ha⟩ := ha.next
    obtain ⟨v4, _, _, rfl, a4, ha⟩ := ha.next
    obtain ⟨v5, _, _, rfl, a5, ha⟩ := ha.next
    obtain ⟨v6, _, _, rfl, a6, ha⟩ := ha.next
    obtain rfl := ha.done
    obtain ⟨s0, rfl, ha0, hok0, hL0, hC0, r0, hy0⟩ := Ss aU
    obtain ⟨p1, l1, c1, rfl, hlc1, hc1, hcl1, hv1⟩ := bp a1
    obtain ⟨i2, b2, rfl, r2⟩ := Z3 a2
    obtain ⟨i3, rfl, r3⟩ := qb a3 Rf
    obtain ⟨i4, rfl, r4⟩ := Mt a4 Fj
    obtain ⟨i5, rfl, r5⟩ := Mt a5 Fj
    obtain ⟨i6, rfl, r6⟩ := Mt a6 Fj
    have r3' : 0 ≤ i3 ∧ i3 ≤ 18446744073709551615 := r3
    obtain ⟨m3, rfl⟩ : ∃ m3 : Nat, i3 = ((m3 : Nat) : Int) := ⟨i3.toNat, by omega⟩
    exact M3 i2 b2 i4 i5 i6 ha0 hok0 hy0.2 (fun v hv => Nat.le_trans (hy0.1 v hv) hbU) hcl1 (by omega) r2.2 (by omega) hT
theorem Bv : (Rows.shapeExactUptoRow.inPlace == Tryz.prog.inPlace 3) = true := by kernel_rfl
theorem Bl : (Rows.shapeExactUptoRow.unfollowed == Tryz.prog.unfollowed 3) = true := by kernel_rfl
theorem Bk : (Rows.shapeExactUptoRow.recurses == Tryz.prog.recurses 3) = true := by kernel_rfl
theorem A3 : (Rows.shapeExactUptoRow.named == Tryz.prog.varsNamed 3) = true := by kernel_rfl
theorem A2 : (Rows.shapeExactUptoRow.lifted == Tryz.prog.liftsFinal) = true := an
theorem uU : joinedFacts Tryz.prog 3 Tryz.f3 (Rows.OpenSpec.upto Rows.shapeExactSpec).bare Rows.shapeExactUptoRow = true := by
  unfold joinedFacts
  repeat' (with_reducible refine aCT ?_ ?_)
  all_goals first | with_reducible exact oy | with_reducible exact te | with_reducible exact jh | with_reducible exact aAJ | with_reducible exact A2 | with_reducible exact Bv | with_reducible exact Bl | with_reducible exact Bk | with_reducible exact A3 | kernel_rfl
theorem yW : Rows.ShapeExactUptoSaid :=
  OpenClaim.holds_of_cond 3 Tryz.f3 rfl rfl rfl rfl rfl rfl rfl ⟨rfl, rfl, rfl, rfl, rfl⟩ rfl rfl rfl rfl rfl (by kernel_rfl) Tryz.func3 uU
    (of_decide_eq_true (by kernel_rfl)) (by unfold Func.isWrapper; first | (rw [if_pos (by decide +kernel)]; kernel_rfl) | (rw [if_neg (by decide +kernel)]; exact ⟨rfl, rfl⟩))
    (fun os started H enc _ F => by rw [OpenClaim.pre_eq_preRow]; exact uY os started H enc F)
theorem vO (f : FuncId) (fn : Func) (hf : Tryz.pinned.checked.prog.funcNamed "ctrie/ctrielaw10.ShapeExact" = some f) (hfn : Tryz.pinned.checked.prog.funcs[f]? = some fn) :
    false = Tryz.pinned.checked.prog.looks [] ∧ ∀ (j : Nat) t, fn.params[j]? = some t → Tryz.pinned.checked.prog.wantsStandIn t = false := by
  obtain rfl : f = 3 := Option.some.inj ((show Tryz.prog.funcNamed "ctrie/ctrielaw10.ShapeExact" = some 3 by kernel_rfl).symm.trans hf) |>.symm
  obtain rfl : fn = Tryz.f3 := (Option.some.inj (Tryz.func3.symm.trans hfn)).symm
  refine ⟨by kernel_rfl, fun j t ht => ?_⟩
  have hm : t ∈ [25, 26, 29, 30, 3, 3, 3] := by
    have h1 := Array.mem_of_getElem? ht
    rwa [← Array.mem_toList_iff, show Tryz.f3.params.toList = [25, 26, 29, 30, 3, 3, 3] by kernel_rfl] at h1
  have hall : ([25, 26, 29, 30, 3, 3, 3].all fun u => !Tryz.prog.wantsStandIn u) = true := by kernel_rfl
  exact (show Tryz.prog.wantsStandIn t = false by simpa using List.all_eq_true.1 hall t hm)
theorem shapeExactUptoCard_holds : Rows.ShapeExactUptoCardSaid :=
  Claim7.holds_tied_plain_at .later [] _ _ _ _ yW (fun _ h => by cases h) (by kernel_rfl) (fun _ h => by cases h) shapeExactUpto_row_tie rfl ⟨rfl, rfl⟩ (by kernel_rfl) rfl vO (by kernel_rfl)
#print axioms shapeExactUptoCard_holds
end Go.Proofs.YtadnboagdhcedaaGreatDoor
