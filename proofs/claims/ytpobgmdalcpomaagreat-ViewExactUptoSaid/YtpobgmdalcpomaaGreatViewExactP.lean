/- The law ViewExact holds: all functions return the specified results, for arbitrary states, for states that result from operations, and for such states of which a cell has been changed; for every input of bulk at most 1048576. -/
import Derived.Test.YtpobgmdalcpomaaGreatGOpen
import Derived.Test.YtpobgmdalcpomaaGreatGOpen3
import Derived.Test.YtpobgmdalcpomaaGreatGLe1
set_option linter.unusedSimpArgs false
set_option linter.unusedVariables false
namespace Go.Proofs.YtpobgmdalcpomaaGreat
open Go.RowKit Go.Ct Go.ChangeShapes Go.WideShapes Go.ChangeAt

set_option maxRecDepth 100000 in
theorem zD (os : Os) (started : os.Started) (H : Type) (enc : TypeId × Value → H) (F : Stop.Interp) :
    ReturnsInHanded {} Tryz.checked os 5 .any ((Rows.OpenSpec.upto Rows.viewExactSpec).pre6 enc Tryz.prog Tryz.f5 [] false) (((Rows.OpenSpec.upto Rows.viewExactSpec).at F).post enc Tryz.prog Tryz.f5 false true false false) := by
  refine N7 (C := Tryz.checked) started zj vy (by kernel_rfl) Tryz.func5 (by kernel_rfl) rfl lb rfl ?_
    (OpenSpec.witness (enc := enc) (C := Tryz.checked) (s := Rows.OpenSpec.upto Rows.viewExactSpec) (k := Rows.uptoSmall) rfl false ⟨#[], #[.agg ⟨[.slice none 0 0, .slice none 0 0, .int .i64 0]⟩, .slice none 0 0, .agg ⟨[.int .i64 0, .bool false]⟩, .int .i64 0, .int .i64 0, .int .i64 0], []⟩ 8 (by kernel_rfl) (by kernel_rfl) (by kernel_rfl)
      (x := ([.agg [.nil, .nil, .lit (.int .i64 0)], .nil, .agg [.lit (.int .i64 0), .lit (.bool false)], .lit (.int .i64 0), .lit (.int .i64 0), .lit (.int .i64 0)], [], [])) (by kernel_rfl) rfl (by kernel_rfl)) ?_
  · intro ds hd
    match ds, hd with
    | [d1, d2, d3, d4, d5, d6], _ => exact ⟨rfl, rfl, rfl⟩
  · intro W args ds hc hbk
    have hps : Tryz.f5.params.toList = [41, 22, 33, 52, 3, 3] := by kernel_rfl
    obtain ⟨vU, vsU, dU, dsU, rfl, rfl, aU⟩ := Qx hc hps
    have hbU : Rows.uptoBulk dU ≤ 1048576 := Nat.le_trans (wE (List.mem_cons_self ..)) hbk
    have ha := hc.split
    rw [hps] at ha
    obtain ⟨v0, _, _, eU, a0, ha⟩ := ha.next
    injection eU with eU1 eU2
    subst eU1 eU2
    obtain ⟨v1, _, _, rfl, a1, ha⟩ := ha.next
    obtain ⟨v2, _, _, rfl, a2, ha⟩ := ha.next
    obtain ⟨v3, _, _, rfl, a3, ha⟩ := ha.next
    obtain ⟨v4, _, _, rfl, a4, ha⟩ := ha.next
    obtain ⟨v5, _, _, rfl, a5, ha⟩ := ha.next
    obtain rfl := ha.done
    obtain ⟨s0, rfl, ha0, hok0, hL0, hC0, r0, hy0⟩ := P9 aU
    obtain ⟨p1, l1, c1, rfl, hlc1, hc1, hcl1, hv1⟩ := Zy a1
    obtain ⟨i2, b2, rfl, r2⟩ := bz a2
    obtain ⟨i3, rfl, r3⟩ := Jc a3 Ha
    obtain ⟨i4, rfl, r4⟩ := Jc a4 Ie
    obtain ⟨i5, rfl, r5⟩ := Jc a5 Ie
    exact Nq i2 b2 i3 i4 i5 ha0 hok0 (fun v hv => Nat.le_trans (hy0 v hv) hbU) hcl1 (by omega) r2.2 r3.2
theorem Gn : (Rows.viewExactUptoRow.inPlace == Tryz.prog.inPlace 5) = true := by kernel_rfl
theorem Gr : (Rows.viewExactUptoRow.unfollowed == Tryz.prog.unfollowed 5) = true := by kernel_rfl
theorem Gw : (Rows.viewExactUptoRow.recurses == Tryz.prog.recurses 5) = true := by kernel_rfl
theorem Gv : (Rows.viewExactUptoRow.named == Tryz.prog.varsNamed 5) = true := by kernel_rfl
theorem Gq : (Rows.viewExactUptoRow.lifted == Tryz.prog.liftsFinal) = true := al
theorem Ag : joinedFacts Tryz.prog 5 Tryz.f5 (Rows.OpenSpec.upto Rows.viewExactSpec).bare Rows.viewExactUptoRow = true := by
  unfold joinedFacts
  repeat' (with_reducible refine zs ?_ ?_)
  all_goals first | with_reducible exact dw | with_reducible exact jh | with_reducible exact Wn | with_reducible exact o0 | with_reducible exact Gq | with_reducible exact Gn | with_reducible exact Gr | with_reducible exact Gw | with_reducible exact Gv | kernel_rfl
theorem viewExactUpto_holds : Rows.ViewExactUptoSaid :=
  OpenClaim.holds_of_cond 5 Tryz.f5 rfl rfl rfl rfl rfl rfl rfl ⟨rfl, rfl, rfl, rfl, rfl⟩ rfl rfl rfl rfl rfl (by kernel_rfl) Tryz.func5 Ag
    (of_decide_eq_true (by kernel_rfl)) (by unfold Func.isWrapper; first | (rw [if_pos (by decide +kernel)]; kernel_rfl) | (rw [if_neg (by decide +kernel)]; exact ⟨rfl, rfl⟩))
    (fun os started H enc _ F => zD os started H enc F)
#print axioms viewExactUpto_holds
end Go.Proofs.YtpobgmdalcpomaaGreat
