/- The arguments are opened: small numbers, accesses. -/
import Derived.Test.YtmogngagpphnhaaGOp
import Derived.Test.YtmogngagpphnhaaGTk
set_option linter.unusedSimpArgs false
set_option linter.unusedVariables false
namespace Go.Proofs.Ytmogngagpphnhaa
open Go.RowKit Go.Ct Go.ChangeShapes Go.WideShapes
theorem u_i8 : Try.prog.underlying 93 = some (.int .i8) := by kernel_rfl
section
variable {H : Type} {enc : TypeId × Value → H} {W : World} {d : DataW H} {v : Value}
theorem arg_i8 {t : Nat} (h : Arg enc Try.prog W t v d) (ht : Try.prog.underlying t = some (.int .i8)) : ∃ i, v = .int .i8 i ∧ -128 ≤ i ∧ i ≤ 127 := by
  obtain ⟨i, e, hi⟩ := h.int ht
  simp [Lit.wf, IntKind.min, IntKind.max, IntKind.signed, IntKind.bits] at hi
  exact ⟨i, e, hi⟩
end
end Go.Proofs.Ytmogngagpphnhaa
