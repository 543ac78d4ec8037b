/- The arguments are opened: lists of accesses. -/
import Derived.Test.YtmogngagpphnhaaOpen5
import Derived.Test.YtmogngagpphnhaaGTl
set_option linter.unusedSimpArgs false
set_option linter.unusedVariables false
namespace Go.Proofs.Ytmogngagpphnhaa
open Go.RowKit Go.Ct Go.ChangeShapes Go.WideShapes
theorem u_acs : Try.prog.underlying 94 = some (.slice 78) := by kernel_rfl
theorem f_ac : fieldsL Try.prog 78 = [(0, 3), (1, 37), (2, 39), (3, 39)] := by kernel_rfl
theorem c_ac : Try.prog.cellsOf 78 = 4 := by kernel_rfl
theorem b_ac : Nat.ble 1 (Try.prog.bytesOf 78) = true := by kernel_rfl
section
variable {H : Type} {enc : TypeId × Value → H} {W : World} {cs : List Value} {d : DataW H} {v : Value}
instance : Inhabited Ac := ⟨Ac.zero⟩
theorem ext4 {cs : List Value} {x0 x1 x2 x3 : Value} (hl : cs.length = 4) (e0 : cs[0]? = some x0) (e1 : cs[1]? = some x1) (e2 : cs[2]? = some x2) (e3 : cs[3]? = some x3) : cs = [x0, x1, x2, x3] := by
  match cs, hl with
  | [a, b, c, d], _ =>
    simp at e0 e1 e2 e3
    rw [e0, e1, e2, e3]
theorem rd_ac (h : Rd enc Try.prog W 78 cs d) : ∃ t : Ac, cs = t.cells ∧ t.c ≤ 9223372036854775807 := by
  obtain ⟨hl, hf⟩ := h.struct f_ac (by simp)
  rw [c_ac] at hl
  have fint : ∀ {o ty : Nat}, Try.prog.cellsOf ty = 1 → Try.prog.underlying ty = some (.int .i64) → (∃ d', Rd enc Try.prog W ty ((cs.drop o).take (Try.prog.cellsOf ty)) d') → ∃ i, cs[o]? = some (.int .i64 i) ∧ i64ok i := by
    rintro o ty h1 h2 ⟨d', hr⟩
    rw [h1] at hr
    obtain ⟨i, e, hi⟩ := hr.int h2
    exact ⟨i, one_take e, i64_of hi⟩
  obtain ⟨i0, e0, r0⟩ := fint (c1_of rfl) u_int (hf 0 _ _ rfl)
  obtain ⟨i1, e1, r1⟩ := fint (c1_of rfl) u_cell (hf 1 _ _ rfl)
  obtain ⟨i2, e2, r2⟩ := fint (c1_of rfl) u_ref (hf 2 _ _ rfl)
  obtain ⟨i3, e3, r3⟩ := fint (c1_of rfl) u_ref (hf 3 _ _ rfl)
  exact ⟨⟨i0, i1, i2, i3⟩, ext4 hl e0 e1 e2 e3, r1.2⟩
theorem arg_acs (h : Arg enc Try.prog W 94 v d) : ∃ (a : Option Addr) (l : List Ac) (c : Nat), v = .slice a l.length c ∧ (l.length ≤ c ∧ l.length ≤ 4611686018427387904) ∧ Cl W a (acC l) ∧ AcsR l := by
  obtain ⟨a, m, c, C, D, e, hm, hw, hel⟩ := (h.slv u_acs).slice u_acs (by rw [c_ac]; decide)
  have hV : ∃ V : Nat → Ac, ∀ i, i < m → C i = (V i).cells ∧ (V i).c ≤ 9223372036854775807 := Deep.choose_lt (α := Ac) (p := fun i (t : Ac) => C i = t.cells ∧ t.c ≤ 9223372036854775807) fun i hi => rd_ac (hel i hi).2.2
  obtain ⟨V, hV⟩ := hV
  simp only [List.cons.injEq, and_true] at e
  refine ⟨a, (List.range m).map V, c, by simpa using e, ⟨by simpa using hm, ?_⟩, ?_, fun t ht => ?_⟩
  · have hb := Nat.le_of_ble_eq_true b_ac
    have h2 : c * 1 ≤ c * Try.prog.bytesOf 78 := Nat.mul_le_mul_left _ hb
    rw [reachBytes] at hw
    simp only [List.length_map, List.length_range]
    omega
  · refine ⟨fun q u hq => ?_⟩
    have := cl_elems (W := W) (a := a) (f := fun t : Ac => t.cells) (sz := 4) (by decide) (fun t => ac_len t) ((List.range m).map V) 0 (fun i x hx j v hj => by
      have hi : i < m := by simpa using (List.getElem?_eq_some_iff.1 hx).1
      have hxv : x = V i := by simpa [hi] using hx.symm
      subst hxv
      rw [← (hV i hi).1] at hj
      have := (hel i hi).2.1 j v hj
      rw [c_ac] at this
      simpa using this) q u hq
    simpa using this
  · obtain ⟨i, hi, rfl⟩ := List.mem_map.1 ht
    exact (hV i (List.mem_range.1 hi)).2
end
end Go.Proofs.Ytmogngagpphnhaa
