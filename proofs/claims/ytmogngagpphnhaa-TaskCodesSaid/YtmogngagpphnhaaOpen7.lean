/- The arguments are opened: lists of bytes. -/
import Derived.Test.YtmogngagpphnhaaGOp
import Derived.Test.YtmogngagpphnhaaTc3
set_option linter.unusedSimpArgs false
set_option linter.unusedVariables false
namespace Go.Proofs.Ytmogngagpphnhaa
open Go.RowKit Go.Ct Go.ChangeShapes Go.WideShapes
theorem u_u8s : Try.prog.underlying 72 = some (.slice 5) := by kernel_rfl
theorem c_u8 : Try.prog.cellsOf 5 = 1 := by kernel_rfl
section
variable {H : Type} {enc : TypeId × Value → H} {W : World} {d : DataW H} {v : Value}
theorem arg_u8s (h : Arg enc Try.prog W 72 v d) : ∃ (a : Option Addr) (l : List Int) (c : Nat), v = .slice a l.length c ∧ l.length ≤ c ∧ Cl W a (u8C l) ∧ True := by
  obtain ⟨a, m, c, C, D, e, hm, hw, hel⟩ := (h.slv u_u8s).slice u_u8s (by rw [c_u8]; decide)
  have hV : ∃ V : Nat → Int, ∀ i, i < m → C i = [Value.int .u8 (V i)] ∧ True := Deep.choose_lt (α := Int) (p := fun i (t : Int) => C i = [Value.int .u8 t] ∧ True) fun i hi => by
    obtain ⟨x, hx, _⟩ := (hel i hi).2.2.int u_u8
    exact ⟨x, hx, trivial⟩
  obtain ⟨V, hV⟩ := hV
  simp only [List.cons.injEq, and_true] at e
  refine ⟨a, (List.range m).map V, c, by simpa using e, by simpa using hm, ?_, trivial⟩
  refine ⟨fun q u hq => ?_⟩
  have := cl_elems (W := W) (a := a) (f := fun t : Int => [Value.int .u8 t]) (sz := 1) (by decide) (fun t => rfl) ((List.range m).map V) 0 (fun i x hx j v hj => by
    have hi : i < m := by simpa using (List.getElem?_eq_some_iff.1 hx).1
    have hxv : x = V i := by simpa [hi] using hx.symm
    subst hxv
    rw [← (hV i hi).1] at hj
    have := (hel i hi).2.1 j v hj
    rw [c_u8] at this
    simpa using this) q u hq
  simpa using this
end
end Go.Proofs.Ytmogngagpphnhaa
