/- The arguments are opened: steps of a play. -/
import Derived.Test.YtmogngagpphnhaaOpen3
import Derived.Test.YtmogngagpphnhaaArQ
set_option linter.unusedSimpArgs false
set_option linter.unusedVariables false
namespace Go.Proofs.Ytmogngagpphnhaa
open Go.RowKit Go.Ct Go.ChangeShapes Go.WideShapes
theorem u_steps : Try.prog.underlying 59 = some (.slice 65) := by kernel_rfl
theorem f_step : fieldsL Try.prog 65 = [(0, 3), (1, 3), (2, 3), (3, 3), (4, 22), (5, 48)] := by kernel_rfl
theorem c_step : Try.prog.cellsOf 65 = 19 := by kernel_rfl
theorem c_ints : Try.prog.cellsOf 22 = 1 := by kernel_rfl
theorem b_step : Nat.ble 1 (Try.prog.bytesOf 65) = true := by kernel_rfl
section
variable {H : Type} {enc : TypeId × Value → H} {W : World} {cs : List Value} {d : DataW H} {v : Value}
instance : Inhabited StepV := ⟨StepV.zero⟩
theorem ext5 {cs l : List Value} {x0 x1 x2 x3 x4 : Value} (hl : cs.length = 5 + l.length) (e0 : cs[0]? = some x0) (e1 : cs[1]? = some x1) (e2 : cs[2]? = some x2) (e3 : cs[3]? = some x3) (e4 : cs[4]? = some x4) (e : cs.drop 5 = l) : cs = x0 :: x1 :: x2 :: x3 :: x4 :: l := by
  match cs, hl with
  | a :: b :: c :: d :: f :: r, _ =>
    simp at e0 e1 e2 e3 e4 e
    rw [e0, e1, e2, e3, e4, e]
set_option maxRecDepth 100000
theorem rd_step (h : Rd enc Try.prog W 65 cs d) : ∃ t : StepV, cs = t.L ∧ t.Ok ∧ ∀ f ∈ t.fr, Cl W f.1 f.2 := by
  obtain ⟨hl, hf⟩ := h.struct f_step (by simp)
  rw [c_step] at hl
  have fint : ∀ {o : Nat}, (∃ d', Rd enc Try.prog W 3 ((cs.drop o).take (Try.prog.cellsOf 3)) d') → ∃ i, cs[o]? = some (.int .i64 i) ∧ i64ok i := by
    rintro o ⟨d', hr⟩
    rw [c1_of rfl] at hr
    obtain ⟨i, e, hi⟩ := hr.int u_int
    exact ⟨i, one_take e, i64_of hi⟩
  obtain ⟨i0, e0, r0⟩ := fint (hf 0 _ _ rfl)
  obtain ⟨i1, e1, r1⟩ := fint (hf 1 _ _ rfl)
  obtain ⟨i2, e2, r2⟩ := fint (hf 2 _ _ rfl)
  obtain ⟨i3, e3, r3⟩ := fint (hf 3 _ _ rfl)
  obtain ⟨d4, h4⟩ := hf 4 _ _ rfl
  obtain ⟨d5, h5⟩ := hf 5 _ _ rfl
  rw [c_ints] at h4
  rw [c_node] at h5
  obtain ⟨a4, l4, c4, e4, r4, k4, cl4, o4⟩ := h4.refs u_ints u_int (c1_of rfl) b_int
  obtain ⟨n, xs, ys, e5, hr, ok⟩ := rd_node h5
  replace e4 := one_take e4
  have e6 : cs.drop 5 = n.cells := by
    rw [← e5, List.take_of_length_le (by rw [List.length_drop, hl]; decide)]
  refine ⟨⟨i0, i1, i2, i3, a4, l4, c4, ⟨n, xs, ys⟩⟩, ext5 (l := n.cells) (by rw [hl, cells_length]) e0 e1 e2 e3 e4 e6, ⟨r1, ok_fit ok hr, by show l4.length ≤ _; omega⟩, fun f hf => ?_⟩
  simp only [StepV.fr, NdV.fr, List.mem_cons, List.not_mem_nil, or_false] at hf
  rcases hf with rfl | rfl | rfl
  · exact cl4
  · exact hr.br
  · exact hr.pr
theorem arg_steps (h : Arg enc Try.prog W 59 v d) : ∃ (a : Option Addr) (l : List StepV) (c : Nat), v = .slice a l.length c ∧ l.length ≤ 4611686018427387904 ∧ Cl W a (stepsC l) ∧ (∀ t ∈ l, ∀ f ∈ t.fr, Cl W f.1 f.2) ∧ ∀ t ∈ l, t.Ok := by
  obtain ⟨a, m, c, C, D, e, hm, hw, hel⟩ := (h.slv u_steps).slice u_steps (by rw [c_step]; decide)
  have hV : ∃ V : Nat → StepV, ∀ i, i < m → C i = (V i).L ∧ (V i).Ok ∧ ∀ f ∈ (V i).fr, Cl W f.1 f.2 := Deep.choose_lt (α := StepV) (p := fun i (t : StepV) => C i = t.L ∧ t.Ok ∧ ∀ f ∈ t.fr, Cl W f.1 f.2) fun i hi => rd_step (hel i hi).2.2
  obtain ⟨V, hV⟩ := hV
  have hmem : ∀ v ∈ (List.range m).map V, ∃ i, i < m ∧ V i = v := fun v hv => by
    obtain ⟨i, hi, e⟩ := List.mem_map.1 hv
    exact ⟨i, List.mem_range.1 hi, e⟩
  simp only [List.cons.injEq, and_true] at e
  refine ⟨a, (List.range m).map V, c, by simpa using e, ?_, ?_, fun t ht => ?_, fun t ht => ?_⟩
  · have hb := Nat.le_of_ble_eq_true b_step
    have h2 : c * 1 ≤ c * Try.prog.bytesOf 65 := Nat.mul_le_mul_left _ hb
    rw [reachBytes] at hw
    simp only [List.length_map, List.length_range]
    omega
  · refine ⟨fun q u hq => ?_⟩
    have := cl_elems (W := W) (a := a) (f := fun t : StepV => t.L) (sz := 19) (by decide) (fun t => t.len) ((List.range m).map V) 0 (fun i x hx j v hj => by
      have hi : i < m := by simpa using (List.getElem?_eq_some_iff.1 hx).1
      have hxv : x = V i := by simpa [hi] using hx.symm
      subst hxv
      rw [← (hV i hi).1] at hj
      have := (hel i hi).2.1 j v hj
      rw [c_step] at this
      simpa using this) q u hq
    simpa using this
  · obtain ⟨i, hi, rfl⟩ := hmem t ht
    exact (hV i hi).2.2
  · obtain ⟨i, hi, rfl⟩ := hmem t ht
    exact (hV i hi).2.1
end
end Go.Proofs.Ytmogngagpphnhaa
