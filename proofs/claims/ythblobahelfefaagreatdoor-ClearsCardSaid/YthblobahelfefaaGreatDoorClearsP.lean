/- The law Clears holds: while one thread clears a map, another one looks up a key that was there, inserts a key and looks it up, and the clear is never seen to happen twice; the tables of math/bits and strconv read as the text of the program lays them. -/
import Derived.Test.YthblobahelfefaaGreatDoorGTab
import Derived.Test.YthblobahelfefaaGreatDoorGDe4
set_option linter.unusedSimpArgs false
set_option linter.unusedVariables false
namespace Go.Proofs.YthblobahelfefaaGreatDoor
open Go.Proofs.Tryz
open Go Go.RowKit Go.Ct Go.ChangeShapes Go.WideShapes Go.ChangeAt
set_option maxRecDepth 100000 in
theorem Kf (os : Os) (started : os.Started) (H : Type) (enc : TypeId × Value → H) (F : Stop.Interp) :
    ReturnsInHanded {} Tryz.checked os 3 .any ((OpenSpec.ofChange Rows.clearsSpec).preRow enc prog Tryz.f3 Rows.clearsRow.domain false Rows.clearsRow.laid) (((OpenSpec.ofChange Rows.clearsSpec).at F).post enc prog Tryz.f3 false true false false) := by
     refine returnsInHanded_of_row (C := Tryz.checked) (s := (OpenSpec.ofChange Rows.clearsSpec)) aFO started (by kernel_rfl) func3
       (witness_row_at (enc := enc) (C := Tryz.checked) false (Kk os) #[.slice none 0 0, .int .u64 0, .string ⟨#[]⟩, .string ⟨#[]⟩] rfl (by kernel_rfl) (by kernel_rfl) (by kernel_rfl)
         (OpenSpec.preRow_of_cond (x := ([.nil, .lit (.int .u64 0), .lit (.string []), .lit (.string [])], [], [])) 8 (by kernel_rfl) (by kernel_rfl) (fun k hk => by cases hk) (by kernel_rfl) (oq os _))) ?_
     intro W base args ds gs before hval hW _ _ hwt hL _ _;have hT := aCO hL;refine Jj (s := Rows.clearsSpec) aEd (by kernel_rfl) rfl aFg rfl (fun ds hd => ?_) hval hW hwt ?_
     ·match ds, hd with
      | [d1, d2, d3, d4], _=> exact ⟨rfl, rfl, rfl⟩
     ·intro args hc;have hps : Tryz.f3.params.toList = [22, 23, 9, 9] := by kernel_rfl
      have ha := hc.split;rw [hps] at ha;obtain ⟨v0, _, _, rfl, a0, ha⟩ := ha.next;obtain ⟨v1, _, _, rfl, a1, ha⟩ := ha.next;obtain ⟨v2, _, _, rfl, a2, ha⟩ := ha.next;obtain ⟨v3, _, _, rfl, a3, ha⟩ := ha.next;obtain rfl := ha.done;obtain ⟨p0, l0, c0, rfl, hlc0, hc0, hcl0, hv0⟩ := ub a0;obtain ⟨i1, rfl, r1⟩ := v7 a1 aES;obtain ⟨s2, rfl, r2⟩ := a2.str aBJ;obtain ⟨s3, rfl, r3⟩ := a3.str aBJ;have r1' : 0 ≤ i1 ∧ i1 ≤ 18446744073709551615 := r1;obtain ⟨m, rfl⟩ := Int.eq_ofNat_of_zero_le r1'.1;exact rc (by omega) hcl0 (by omega)
theorem cq : (Rows.clearsRow.inPlace == prog.inPlace 3) = true := by kernel_rfl
theorem ax : (Rows.clearsRow.unfollowed == prog.unfollowed 3) = true := by kernel_rfl
theorem ad : (Rows.clearsRow.recurses == prog.recurses 3) = true := by kernel_rfl
theorem da : (Rows.clearsRow.named == prog.varsNamed 3) = true := by kernel_rfl
theorem cf : (Rows.clearsRow.lifted == prog.liftsFinal) = true := ix
theorem Jz : joinedFacts prog 3 Tryz.f3 (OpenSpec.ofChange Rows.clearsSpec).bare Rows.clearsRow = true := by
 unfold joinedFacts;repeat' (with_reducible refine aGa ?_ ?_)
 all_goals first | with_reducible exact xo | with_reducible exact xp | with_reducible exact rp | with_reducible exact aCQ | with_reducible exact cf | with_reducible exact cq | with_reducible exact ax | with_reducible exact ad | with_reducible exact da | kernel_rfl
theorem Sk : Rows.ClearsSaid :=
  OpenClaim.holds_of_cond 3 Tryz.f3 rfl rfl rfl rfl rfl rfl rfl ⟨rfl, rfl, rfl, rfl, rfl⟩ rfl rfl rfl rfl rfl (by kernel_rfl) func3 Jz
    (of_decide_eq_true (by kernel_rfl)) (by unfold Func.isWrapper; first | (rw [if_pos (by decide +kernel)]; kernel_rfl) | (rw [if_neg (by decide +kernel)]; exact ⟨rfl, rfl⟩))
    (fun os started H enc _ F => by rw [OpenClaim.pre_eq_preRow]; exact Kf os started H enc F)
theorem Mx (f : FuncId) (fn : Func) (hf : Tryz.pinned.checked.prog.funcNamed "ctrie/ctrietop.Clears" = some f) (hfn : Tryz.pinned.checked.prog.funcs[f]? = some fn) :
    true = Tryz.pinned.checked.prog.looks [] ∧ ∀ (j : Nat) t, fn.params[j]? = some t → Tryz.pinned.checked.prog.wantsStandIn t = false := by
  obtain rfl : f = 3 := Option.some.inj ((show prog.funcNamed "ctrie/ctrietop.Clears" = some 3 by kernel_rfl).symm.trans hf) |>.symm;obtain rfl : fn = Tryz.f3 := (Option.some.inj (func3.symm.trans hfn)).symm;refine ⟨by kernel_rfl, fun j t ht => ?_⟩;have hm : t ∈ [22, 23, 9, 9] := by have h1 := Array.mem_of_getElem? ht;rwa [← Array.mem_toList_iff, show Tryz.f3.params.toList = [22, 23, 9, 9] by kernel_rfl] at h1
  have hall : ([22, 23, 9, 9].all fun u => !prog.wantsStandIn u) = true := by kernel_rfl
  exact (show prog.wantsStandIn t = false by simpa using List.all_eq_true.1 hall t hm)
theorem clearsCard_holds : Rows.ClearsCardSaid :=
  Claim7.holds_tied_plain_at .later [] _ _ _ _ Sk (fun _ h => by cases h) (by kernel_rfl) (fun _ h => by cases h) clears_row_tie rfl ⟨rfl, rfl⟩ (by kernel_rfl) rfl Mx (by kernel_rfl)
#print axioms clearsCard_holds
end Go.Proofs.YthblobahelfefaaGreatDoor
