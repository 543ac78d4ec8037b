/- Guards that are not wanted themselves. -/
import Derived.Test.YthmagkjcangnfaaAuto
set_option linter.unusedSimpArgs false
set_option linter.unusedVariables false
namespace Go.Ct
open Go Go.RowKit
variable {P : Program} {n : Nat} {Q : Exit → Act → World → Prop} {ks : List CK} {ops : Array Oper} {l : List Oper} {S : List (Nat × Value)} {G : World → Prop}
/-- A guard that was not wanted itself. -/
theorem l_unwantedU {d : Nat} {op : Op} {ty : TypeId} {pos : String} {af : Array Edge} {j : Nat} {want : Bool} {g : Nat} (hd : Nat.blt d n = true)
    (hj : (ops[j]?).bind (·.dst) = some g) (hg : look S g = undef)
    (h : JL P n Q ks ops l ((d, undef) :: S) G) : JL P n Q ks ops (⟨some d, op, ty, pos, af, some (j, want)⟩ :: l) S G := ⟨fun hS w hw => by
  have hy : yielded ops (tmArr n S) j = none := by
    have e := congrFun (eval_tm (ds := []) hS) (.tmp g)
    simp only [Act.eval, ev, hg] at e
    unfold yielded
    rw [hj]
    simp only [Option.bind_some]
    rw [Array.getD_eq_getD_getElem?] at e
    cases h2 : (tmArr n S)[g]? with
    | none => rfl
    | some u => rw [h2] at e; simp [undef] at e; subst e; rfl
  refine wpList_step fun K hK => ?_
  have hw' : Region.wanted ⟨some d, op, ty, pos, af, some (j, want)⟩ (yielded ops (tmArr n S)) = false := by
    simp only [Region.wanted, hy]
    rfl
  simp only [hw', Bool.false_eq_true, if_false, put_tm]
  exact hK _ _ (h.run (hS.cons hd) w hw)⟩
end Go.Ct
namespace Go.Proofs.Ythmagkjcangnfaa
open Go.RowKit Go.Ct
theorem j_unu {n : Nat} {Q : Exit → Act → World → Prop} {ks : List CK} {ops : Array Oper} {l : List Oper} {S : List (Nat × Value)} {G : World → Prop} {d j g : Nat} {op : Op} {ty : TypeId} {pos : String} {af : Array Edge} {want : Bool} (h : JL Try.prog n Q ks ops l ((d, undef) :: S) G) (hd : Nat.blt d n = true := by exact rfl) (hj : (ops[j]?).bind (·.dst) = some g := by exact rfl) (hg : Ct.look S g = undef := by exact rfl) : JL Try.prog n Q ks ops (⟨some d, op, ty, pos, af, some (j, want)⟩ :: l) S G := l_unwantedU hd hj hg h
end Go.Proofs.Ythmagkjcangnfaa
