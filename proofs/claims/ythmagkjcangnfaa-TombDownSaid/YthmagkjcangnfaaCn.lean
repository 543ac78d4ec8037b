/- Branches: a C-node of a bitmap and a list. -/
import Derived.Test.YthmagkjcangnfaaBr2
set_option linter.unusedSimpArgs false
set_option linter.unusedVariables false
namespace Go.Proofs.Ythmagkjcangnfaa
open Go.RowKit Go.Ct
/-- A C-node of a bitmap and a list that lies at x.1. -/
def cn (b : Nat) (xs : List Int) (x : Option Addr × Nat) : Nd := { Nd.zero with kind := 3, bm := (b : Int), brA := x.1, brN := xs.length, brC := x.2 }
theorem cv_cn {b : Nat} {xs : List Int} (h : BV b xs) (x : Option Addr × Nat) {p : Int} (hp : 0 ≤ p) : CV { cn b xs x with prev := p } xs [] :=
  ⟨rfl, by simp [NdEq, Nd.own, Nd.xsOwn, Nd.ysOwn, cn], by simp [cn, Nd.zero], hp, by simp [cn, Nd.zero], .inr (.inr (.inl ⟨rfl, by show (xs.length : Int) = rOnes (b : Int); rw [rOnes_cnt h.lt, h.len], h.pos⟩))⟩
theorem cv_cn0 {b : Nat} {xs : List Int} (h : BV b xs) (x : Option Addr × Nat) : CV (cn b xs x) xs [] := cv_cn h x (p := 0) (Int.le_refl _)
end Go.Proofs.Ythmagkjcangnfaa
