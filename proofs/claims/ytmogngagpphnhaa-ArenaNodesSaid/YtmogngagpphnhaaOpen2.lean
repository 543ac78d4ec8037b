/- The arguments are opened: the types of the program. -/
import Derived.Test.YtmogngagpphnhaaOpen
set_option linter.unusedSimpArgs false
set_option linter.unusedVariables false
namespace Go.Proofs.Ytmogngagpphnhaa
open Go.RowKit Go.Ct Go.ChangeShapes Go.WideShapes

theorem f_node : fieldsL Try.prog 48 = [(0, 3), (1, 3), (2, 37), (3, 45), (4, 32), (5, 45), (6, 9), (7, 45), (8, 46), (9, 37), (10, 39), (11, 39), (12, 39), (13, 37)] := by kernel_rfl
theorem f_pair : fieldsL Try.prog 67 = [(0, 9), (1, 45)] := by kernel_rfl
theorem c1_ok : ([3, 37, 45, 32, 9, 46, 39].all fun t => Nat.beq (Try.prog.cellsOf t) 1) = true := by kernel_rfl
theorem c1_of {t : Nat} (h : [3, 37, 45, 32, 9, 46, 39].elem t = true) : Try.prog.cellsOf t = 1 := Nat.eq_of_beq_eq_true (List.all_eq_true.1 c1_ok t (List.mem_of_elem_eq_true h))
theorem c_pair : Try.prog.cellsOf 67 = 2 := by kernel_rfl
theorem c_node : Try.prog.cellsOf 48 = 14 := by kernel_rfl
theorem b_pair : Try.prog.bytesOf 67 = 24 := by kernel_rfl
theorem b_ref : Try.prog.bytesOf 39 = 8 := by kernel_rfl
theorem b_int : Try.prog.bytesOf 3 = 8 := by kernel_rfl
theorem u_int : Try.prog.underlying 3 = some (.int .i64) := by kernel_rfl
theorem u_cell : Try.prog.underlying 37 = some (.int .i64) := by kernel_rfl
theorem u_ref : Try.prog.underlying 39 = some (.int .i64) := by kernel_rfl
theorem u_u64 : Try.prog.underlying 45 = some (.int .u64) := by kernel_rfl
theorem u_u8 : Try.prog.underlying 5 = some (.int .u8) := by kernel_rfl
theorem u_str : Try.prog.underlying 9 = some .string := by kernel_rfl
theorem u_refs : Try.prog.underlying 32 = some (.slice 39) := by kernel_rfl
theorem u_prs : Try.prog.underlying 46 = some (.slice 67) := by kernel_rfl
theorem u_ints : Try.prog.underlying 22 = some (.slice 3) := by kernel_rfl
theorem u_node : ∃ fs, Try.prog.underlying 48 = some (.struct fs) := by
  have h := f_node
  unfold fieldsL at h
  cases hu : Try.prog.underlying 48 with
  | none => rw [hu] at h; simp at h
  | some dd =>
    rw [hu] at h
    cases dd <;> first | exact ⟨_, rfl⟩ | (simp at h)

structure NdOk (n : Nd) (xs : List Int) (ys : List Pr) : Prop where
  kind : i64ok n.kind
  gen : i64ok n.gen
  main : i64ok n.main
  bm : u64ok n.bm
  hash : u64ok n.hash
  val : u64ok n.val
  prev : i64ok n.prev
  old : i64ok n.old
  exp : i64ok n.exp
  new : i64ok n.new
  status : i64ok n.status
  key : n.key.size ≤ 140737488351232
  brc : xs.length ≤ n.brC
  prc : ys.length ≤ n.prC
  brk : n.brC ≤ 17592186043904
  prk : n.prC ≤ 5864062014634
  xs : ∀ i ∈ xs, i64ok i
  ys : ∀ p ∈ ys, p.1.size ≤ 140737488351232 ∧ u64ok p.2
section
variable {H : Type} {enc : TypeId × Value → H} {W : World} {cs : List Value} {d : DataW H} {v : Value}
theorem ext14 {cs : List Value} {x0 x1 x2 x3 x4 x5 x6 x7 x8 x9 x10 x11 x12 x13 : Value} {l : List Value} (hl : cs.length = 14) (he : l = [x0, x1, x2, x3, x4, x5, x6, x7, x8, x9, x10, x11, x12, x13])
    (e0 : cs[0]? = some x0) (e1 : cs[1]? = some x1) (e2 : cs[2]? = some x2) (e3 : cs[3]? = some x3) (e4 : cs[4]? = some x4) (e5 : cs[5]? = some x5) (e6 : cs[6]? = some x6) (e7 : cs[7]? = some x7) (e8 : cs[8]? = some x8) (e9 : cs[9]? = some x9) (e10 : cs[10]? = some x10) (e11 : cs[11]? = some x11) (e12 : cs[12]? = some x12) (e13 : cs[13]? = some x13) : cs = l := by
  subst he
  refine List.ext_getElem? fun i => ?_
  match i with
  | 0 => exact e0
  | 1 => exact e1
  | 2 => exact e2
  | 3 => exact e3
  | 4 => exact e4
  | 5 => exact e5
  | 6 => exact e6
  | 7 => exact e7
  | 8 => exact e8
  | 9 => exact e9
  | 10 => exact e10
  | 11 => exact e11
  | 12 => exact e12
  | 13 => exact e13
  | k + 14 => rw [List.getElem?_eq_none (by omega), List.getElem?_eq_none (by simp)]
set_option maxRecDepth 100000
theorem rd_node (h : Rd enc Try.prog W 48 cs d) : ∃ (n : Nd) (xs : List Int) (ys : List Pr), cs = n.cells ∧ Rep W n xs ys ∧ NdOk n xs ys := by
  obtain ⟨hl, hf⟩ := h.struct f_node (by simp)
  rw [c_node] at hl
  have fint : ∀ {o ty : Nat}, Try.prog.cellsOf ty = 1 → Try.prog.underlying ty = some (.int .i64) → (∃ d', Rd enc Try.prog W ty ((cs.drop o).take (Try.prog.cellsOf ty)) d') → ∃ i, cs[o]? = some (.int .i64 i) ∧ i64ok i := by
    rintro o ty h1 h2 ⟨d', hr⟩
    rw [h1] at hr
    obtain ⟨i, e, hi⟩ := hr.int h2
    exact ⟨i, one_take e, i64_of hi⟩
  have fu : ∀ {o ty : Nat}, Try.prog.cellsOf ty = 1 → Try.prog.underlying ty = some (.int .u64) → (∃ d', Rd enc Try.prog W ty ((cs.drop o).take (Try.prog.cellsOf ty)) d') → ∃ i, cs[o]? = some (.int .u64 i) ∧ u64ok i := by
    rintro o ty h1 h2 ⟨d', hr⟩
    rw [h1] at hr
    obtain ⟨i, e, hi⟩ := hr.int h2
    exact ⟨i, one_take e, u64_of hi⟩
  obtain ⟨i0, e0, r0⟩ := fint (c1_of rfl) u_int (hf 0 _ _ rfl)
  obtain ⟨i1, e1, r1⟩ := fint (c1_of rfl) u_int (hf 1 _ _ rfl)
  obtain ⟨i2, e2, r2⟩ := fint (c1_of rfl) u_cell (hf 2 _ _ rfl)
  obtain ⟨i3, e3, r3⟩ := fu (c1_of rfl) u_u64 (hf 3 _ _ rfl)
  obtain ⟨i5, e5, r5⟩ := fu (c1_of rfl) u_u64 (hf 5 _ _ rfl)
  obtain ⟨i7, e7, r7⟩ := fu (c1_of rfl) u_u64 (hf 7 _ _ rfl)
  obtain ⟨i9, e9, r9⟩ := fint (c1_of rfl) u_cell (hf 9 _ _ rfl)
  obtain ⟨i10, e10, r10⟩ := fint (c1_of rfl) u_ref (hf 10 _ _ rfl)
  obtain ⟨i11, e11, r11⟩ := fint (c1_of rfl) u_ref (hf 11 _ _ rfl)
  obtain ⟨i12, e12, r12⟩ := fint (c1_of rfl) u_ref (hf 12 _ _ rfl)
  obtain ⟨i13, e13, r13⟩ := fint (c1_of rfl) u_cell (hf 13 _ _ rfl)
  obtain ⟨d4, h4⟩ := hf 4 _ _ rfl
  obtain ⟨d6, h6⟩ := hf 6 _ _ rfl
  obtain ⟨d8, h8⟩ := hf 8 _ _ rfl
  rw [c1_of rfl] at h4 h6 h8
  obtain ⟨a4, l4, c4, e4, r4, k4, cl4, o4⟩ := h4.refs u_refs u_ref (c1_of rfl) b_ref
  obtain ⟨s6, e6, k6⟩ := h6.str u_str
  obtain ⟨a8, l8, c8, e8, r8, k8, cl8, o8⟩ := h8.prs u_prs f_pair u_str u_u64 c_pair (c1_of rfl) (c1_of rfl) b_pair
  replace e4 := one_take e4
  replace e6 := one_take e6
  replace e8 := one_take e8
  refine ⟨⟨i0, i1, i2, i3, a4, l4.length, c4, i5, s6, i7, a8, l8.length, c8, i9, i10, i11, i12, i13⟩, l4, l8, ?_, ⟨rfl, rfl, cl4, cl8, by omega, by omega⟩, ⟨r0, r1, r2, r3, r5, r7, r9, r10, r11, r12, r13, by rw [reachBytes] at k6; exact k6, r4, r8, k4, k8, o4, o8⟩⟩
  exact ext14 hl rfl e0 e1 e2 e3 e4 e5 e6 e7 e8 e9 e10 e11 e12 e13
theorem arg_node (h : Arg enc Try.prog W 48 v d) : ∃ (n : Nd) (xs : List Int) (ys : List Pr), v = n.v ∧ Rep W n xs ys ∧ NdOk n xs ys := by
  obtain ⟨⟨base, hv⟩, hr⟩ := h
  obtain ⟨fs, hu⟩ := u_node
  unfold Value.okWide at hv
  rw [hu] at hv
  obtain ⟨⟨cs⟩, rfl, _⟩ := hv
  obtain ⟨n, xs, ys, hc, h1, h2⟩ := rd_node hr
  refine ⟨n, xs, ys, ?_, h1, h2⟩
  simp only [Value.cells] at hc
  rw [Nd.v, ← hc]
theorem arg_i64 {t : Nat} (h : Arg enc Try.prog W t v d) (ht : Try.prog.underlying t = some (.int .i64)) : ∃ i, v = .int .i64 i ∧ i64ok i := by
  obtain ⟨i, e, hi⟩ := h.int ht
  exact ⟨i, e, i64_of hi⟩
theorem arg_u64 {t : Nat} (h : Arg enc Try.prog W t v d) (ht : Try.prog.underlying t = some (.int .u64)) : ∃ i, v = .int .u64 i ∧ u64ok i := by
  obtain ⟨i, e, hi⟩ := h.int ht
  exact ⟨i, e, u64_of hi⟩
theorem arg_u8 {t : Nat} (h : Arg enc Try.prog W t v d) (ht : Try.prog.underlying t = some (.int .u8)) : ∃ i, v = .int .u8 i ∧ 0 ≤ i ∧ i ≤ 255 := by
  obtain ⟨i, e, hi⟩ := h.int ht
  simp [Lit.wf, IntKind.min, IntKind.max, IntKind.signed, IntKind.bits] at hi
  exact ⟨i, e, hi⟩
theorem arg_u16 {t : Nat} (h : Arg enc Try.prog W t v d) (ht : Try.prog.underlying t = some (.int .u16)) : ∃ i, v = .int .u16 i ∧ 0 ≤ i ∧ i ≤ 65535 := by
  obtain ⟨i, e, hi⟩ := h.int ht
  simp [Lit.wf, IntKind.min, IntKind.max, IntKind.signed, IntKind.bits] at hi
  exact ⟨i, e, hi⟩
theorem arg_prs (h : Arg enc Try.prog W 46 v d) : ∃ (a : Option Addr) (l : List Pr) (c : Nat), v = .slice a l.length c ∧ l.length ≤ c ∧ c ≤ 5864062014634 ∧ Cl W a (prC l) ∧ ∀ p ∈ l, p.1.size ≤ 140737488351232 ∧ u64ok p.2 := by
  obtain ⟨a, l, c, e, r⟩ := (h.slv u_prs).prs u_prs f_pair u_str u_u64 c_pair (c1_of rfl) (c1_of rfl) b_pair
  simp only [List.cons.injEq, and_true] at e
  exact ⟨a, l, c, e, r⟩
theorem arg_ints (h : Arg enc Try.prog W 22 v d) : ∃ (a : Option Addr) (l : List Int) (c : Nat), v = .slice a l.length c ∧ l.length ≤ c ∧ c ≤ 17592186043904 ∧ Cl W a (refsC l) ∧ ∀ i ∈ l, i64ok i := by
  obtain ⟨a, l, c, e, r⟩ := (h.slv u_ints).refs u_ints u_int (c1_of rfl) b_int
  simp only [List.cons.injEq, and_true] at e
  exact ⟨a, l, c, e, r⟩
end
end Go.Proofs.Ytmogngagpphnhaa
