/- The arguments are opened: states. -/
import Derived.Test.YtmogngagpphnhaaOpen2
import Derived.Test.YtmogngagpphnhaaArT
set_option linter.unusedSimpArgs false
set_option linter.unusedVariables false
namespace Go.Proofs.Ytmogngagpphnhaa
open Go.RowKit Go.Ct Go.ChangeShapes Go.WideShapes
theorem u_nodes : Try.prog.underlying 31 = some (.slice 48) := by kernel_rfl
theorem f_state : fieldsL Try.prog 34 = [(0, 31), (1, 32), (2, 3)] := by kernel_rfl
theorem c_state : Try.prog.cellsOf 34 = 3 := by kernel_rfl
theorem c_nodes : Try.prog.cellsOf 31 = 1 := by kernel_rfl
theorem b_node : Nat.ble 1 (Try.prog.bytesOf 48) = true := by kernel_rfl
theorem struct_u {t : Nat} {l : List (Nat × Nat)} (h : fieldsL Try.prog t = l) (h0 : l ≠ []) : ∃ fs, Try.prog.underlying t = some (.struct fs) := by
  unfold fieldsL at h
  cases hu : Try.prog.underlying t with
  | none => rw [hu] at h; exact absurd h.symm h0
  | some dd =>
    rw [hu] at h
    cases dd <;> first | exact ⟨_, rfl⟩ | exact absurd h.symm h0
theorem ok_ndR {n : Nd} {xs : List Int} {ys : List Pr} (h : NdOk n xs ys) : NdR n := by
  obtain ⟨h1, h2⟩ := h.bm
  exact ⟨⟨n.bm.toNat, by omega, by omega⟩, h.main.2, h.prev.2, h.status.2⟩
theorem ok_fit {n : Nd} {xs : List Int} {ys : List Pr} {W : World} (h : NdOk n xs ys) (hr : Rep W n xs ys) : NdV.Fit ⟨n, xs, ys⟩ := by
  have h1 := h.brc
  have h2 := h.brk
  have h3 := h.prc
  have h4 := h.prk
  exact ⟨hr.brN, hr.prN, by show xs.length ≤ _; omega, by show ys.length ≤ _; omega⟩
section
variable {H : Type} {enc : TypeId × Value → H} {W : World} {cs : List Value} {d : DataW H} {v : Value}
instance : Inhabited NdV := ⟨NdV.zero⟩
set_option maxRecDepth 100000
theorem rd_nodes (h : Rd enc Try.prog W 31 cs d) : ∃ (a : Option Addr) (L : List NdV) (c : Nat), cs = [.slice a L.length c] ∧ L.length ≤ c ∧ c ≤ 140737488351232 ∧ Cl W a (nvC L) ∧ (∀ f ∈ famF L, Cl W f.1 f.2) ∧ Fits L ∧ Rngs L := by
  obtain ⟨a, m, c, C, D, rfl, hm, hw, hel⟩ := h.slice u_nodes (by rw [c_node]; decide)
  have hV : ∃ V : Nat → NdV, ∀ i, i < m → C i = (V i).nd.cells ∧ Rep W (V i).nd (V i).xs (V i).ys ∧ NdOk (V i).nd (V i).xs (V i).ys := Deep.choose_lt (α := NdV) (p := fun i (v : NdV) => C i = v.nd.cells ∧ Rep W v.nd v.xs v.ys ∧ NdOk v.nd v.xs v.ys) fun i hi => by
    obtain ⟨n, xs, ys, h1, h2, h3⟩ := rd_node (hel i hi).2.2
    exact ⟨⟨n, xs, ys⟩, h1, h2, h3⟩
  obtain ⟨V, hV⟩ := hV
  have hmem : ∀ v ∈ (List.range m).map V, ∃ i, i < m ∧ V i = v := fun v hv => by
    obtain ⟨i, hi, e⟩ := List.mem_map.1 hv
    exact ⟨i, List.mem_range.1 hi, e⟩
  refine ⟨a, (List.range m).map V, c, by simp, by simpa using hm, ?_, ?_, fun f hf => ?_, fun v hv => ?_, fun v hv => ?_⟩
  · have hb := Nat.le_of_ble_eq_true b_node
    have h2 : c * 1 ≤ c * Try.prog.bytesOf 48 := Nat.mul_le_mul_left _ hb
    rw [reachBytes] at hw
    omega
  · refine ⟨fun q u hq => ?_⟩
    have := cl_elems (W := W) (a := a) (f := fun v : NdV => v.nd.cells) (sz := 14) (by decide) (fun v => cells_length v.nd) ((List.range m).map V) 0 (fun i x hx j v hj => by
      have hi : i < m := by simpa using (List.getElem?_eq_some_iff.1 hx).1
      have hxv : x = V i := by simpa [hi] using hx.symm
      subst hxv
      rw [← (hV i hi).1] at hj
      have := (hel i hi).2.1 j v hj
      rw [c_node] at this
      simpa using this) q u hq
    simpa using this
  · obtain ⟨v, hv, hf⟩ := mem_famF.1 hf
    obtain ⟨i, hi, rfl⟩ := hmem v hv
    have hr := (hV i hi).2.1
    simp only [NdV.fr, List.mem_cons, List.not_mem_nil, or_false] at hf
    rcases hf with rfl | rfl
    · exact hr.br
    · exact hr.pr
  · obtain ⟨i, hi, rfl⟩ := hmem v hv
    exact ok_fit (hV i hi).2.2 (hV i hi).2.1
  · obtain ⟨i, hi, rfl⟩ := hmem v hv
    exact ok_ndR (hV i hi).2.2
theorem arg_state (h : Arg enc Try.prog W 34 v d) : ∃ s : StV, v = .agg ⟨[.slice s.pn s.L.length s.cn, .slice s.pc s.cs.length s.cc, .int .i64 s.gen]⟩ ∧ StAt W s.L s.cs s.pn s.pc ∧ s.Ok ∧ s.L.length ≤ 4611686018427387904 ∧ s.cs.length ≤ 4611686018427387904 ∧ i64ok s.gen := by
  obtain ⟨⟨base, hv⟩, hr⟩ := h
  obtain ⟨fs, hu⟩ := struct_u f_state (by simp)
  unfold Value.okWide at hv
  rw [hu] at hv
  obtain ⟨⟨cs⟩, rfl, _⟩ := hv
  simp only [Value.cells] at hr
  obtain ⟨hl, hf⟩ := hr.struct f_state (by simp)
  rw [c_state] at hl
  obtain ⟨d0, h0⟩ := hf 0 _ _ rfl
  obtain ⟨d1, h1⟩ := hf 1 _ _ rfl
  obtain ⟨d2, h2⟩ := hf 2 _ _ rfl
  rw [c_nodes] at h0
  rw [c1_of rfl] at h1 h2
  obtain ⟨a0, L, c0, e0, k0, k0', cl0, fam, fit, rng⟩ := rd_nodes h0
  obtain ⟨a1, l1, c1, e1, k1, k1', cl1, _⟩ := h1.refs u_refs u_ref (c1_of rfl) b_ref
  obtain ⟨g, e2, r2⟩ := h2.int u_int
  replace e0 := one_take e0
  replace e1 := one_take e1
  replace e2 := one_take e2
  refine ⟨⟨L, l1, g, a0, c0, a1, c1⟩, ?_, ⟨cl0, cl1, fam, fit⟩, ⟨fit, rng, k0⟩, by show L.length ≤ _; omega, by show l1.length ≤ _; omega, i64_of r2⟩
  match cs, hl with
  | [x, y, z], _ =>
    simp at e0 e1 e2
    rw [e0, e1, e2]
end
end Go.Proofs.Ytmogngagpphnhaa
