/- What the program's table says of the types that are used: closed facts. -/
import Derived.Test.YthmagkjcangnfaaMem
import Derived.Test.YthmagkjcangnfaaProg
set_option linter.unusedSimpArgs false
set_option linter.unusedVariables false
namespace Go.Proofs.Ythmagkjcangnfaa
open Go.RowKit Go.Ct

def tab1 : List Nat := [2, 3, 4, 5, 9, 22, 23, 24, 25, 26, 29, 30, 55, 87, 33]
theorem one_ok : (tab1.all fun t => one Try.prog t) = true := by kernel_rfl
theorem one_of {t : Nat} (h : tab1.elem t = true) : one Try.prog t = true := List.all_eq_true.1 one_ok t (List.mem_of_elem_eq_true h)

/-- The structs: the number, its zero cells. -/
def zNode : List Value := [.int .i64 0, .int .i64 0, .int .i64 0, .int .u64 0, .slice none 0 0, .int .u64 0, .string ⟨#[]⟩, .int .u64 0, .slice none 0 0, .int .i64 0, .int .i64 0, .int .i64 0, .int .i64 0, .int .i64 0]
def zPair : List Value := [.string ⟨#[]⟩, .int .u64 0]
def zTape : List Value := [.slice none 0 0, .int .i64 0]
def tabZ (t : Nat) : List Value := bif Nat.beq t 28 then zNode else bif Nat.beq t 37 then zPair else zTape
def tabS : List Nat := [28, 37, 96]
theorem agg_ok : (tabS.all fun t => aggOf Try.prog t (tabZ t).length) = true := by kernel_rfl
theorem agg_of {t k : Nat} (h : (tabS.elem t && Nat.beq k (tabZ t).length) = true) : aggOf Try.prog t k = true := by
  simp only [Bool.and_eq_true] at h
  rw [Nat.eq_of_beq_eq_true h.2]
  exact List.all_eq_true.1 agg_ok t (List.mem_of_elem_eq_true h.1)
theorem zero_node : zeroIs Try.prog 28 = some (.agg ⟨zNode⟩) := by kernel_rfl
theorem zero_pair : zeroIs Try.prog 37 = some (.agg ⟨zPair⟩) := by kernel_rfl
theorem zero_tape : zeroIs Try.prog 96 = some (.agg ⟨zTape⟩) := by kernel_rfl
theorem zero_ofS {t : Nat} (h : tabS.elem t = true) : zeroIs Try.prog t = some (.agg ⟨tabZ t⟩) := by
  have hm := List.mem_of_elem_eq_true h
  simp only [tabS, List.mem_cons, List.not_mem_nil, or_false] at hm
  rcases hm with rfl | rfl | rfl
  · exact zero_node
  · exact zero_pair
  · exact zero_tape
theorem zero_of {t : Nat} {z : List Value} (h : tabS.elem t = true) (hz : tabZ t = z) : zeroIs Try.prog t = some (.agg ⟨z⟩) := hz ▸ zero_ofS h
theorem struct_ok : (tabS.all fun t => structIs Try.prog t (tabZ t).length) = true := by kernel_rfl
theorem struct_of {t : Nat} {z : List Value} (h : tabS.elem t = true) (hz : tabZ t = z) : structOf Try.prog t z := by
  subst hz
  exact structOf_mk (List.all_eq_true.1 struct_ok t (List.mem_of_elem_eq_true h)) (zero_ofS h)
theorem zero_nodeT {t : Nat} (h : Nat.beq t 28 = true) : zeroIs Try.prog t = some (.agg ⟨[.int .i64 0, .int .i64 0, .int .i64 0, .int .u64 0, .slice none 0 0, .int .u64 0, .string ⟨#[]⟩, .int .u64 0, .slice none 0 0, .int .i64 0, .int .i64 0, .int .i64 0, .int .i64 0, .int .i64 0]⟩) := by
  rw [Nat.eq_of_beq_eq_true h]; exact zero_node
theorem zero_pairT {t : Nat} (h : Nat.beq t 37 = true) : zeroIs Try.prog t = some (.agg ⟨[.string ⟨#[]⟩, .int .u64 0]⟩) := by
  rw [Nat.eq_of_beq_eq_true h]; exact zero_pair
theorem zero_tapeT {t : Nat} (h : Nat.beq t 96 = true) : zeroIs Try.prog t = some (.agg ⟨[.slice none 0 0, .int .i64 0]⟩) := by
  rw [Nat.eq_of_beq_eq_true h]; exact zero_tape
theorem struct_nodeT {t : Nat} (h : Nat.beq t 28 = true) : structOf Try.prog t [.int .i64 0, .int .i64 0, .int .i64 0, .int .u64 0, .slice none 0 0, .int .u64 0, .string ⟨#[]⟩, .int .u64 0, .slice none 0 0, .int .i64 0, .int .i64 0, .int .i64 0, .int .i64 0, .int .i64 0] := by
  rw [Nat.eq_of_beq_eq_true h]; exact struct_of (t := 28) rfl rfl
theorem struct_pairT {t : Nat} (h : Nat.beq t 37 = true) : structOf Try.prog t [.string ⟨#[]⟩, .int .u64 0] := by
  rw [Nat.eq_of_beq_eq_true h]; exact struct_of (t := 37) rfl rfl
theorem struct_tapeT {t : Nat} (h : Nat.beq t 96 = true) : structOf Try.prog t [.slice none 0 0, .int .i64 0] := by
  rw [Nat.eq_of_beq_eq_true h]; exact struct_of (t := 96) rfl rfl
theorem fld_ok : (tabS.all fun t => (List.range (tabZ t).length).all fun k => fieldIs Try.prog t k == some k) = true := by kernel_rfl
theorem fld_of {t k : Nat} (h : (tabS.elem t && Nat.blt k (tabZ t).length) = true) : fieldIs Try.prog t k = some k := by
  simp only [Bool.and_eq_true] at h
  have h1 := List.all_eq_true.1 fld_ok t (List.mem_of_elem_eq_true h.1)
  exact eq_of_beq (List.all_eq_true.1 h1 k (List.mem_range.2 (Nat.le_of_ble_eq_true h.2)))
def tabSl : List (Nat × Nat) := [(102, 9), (24, 26), (25, 37), (29, 3), (33, 28)]
def elemT (t : Nat) : Nat := (tabSl.lookup t).getD 0
theorem sl_ok : (tabSl.all fun p => (match Try.prog.underlying p.1 with | some (.slice e) => Nat.beq e p.2 && Nat.beq (elemT p.1) p.2 | _ => false)) = true := by kernel_rfl
theorem sl_of {t : Nat} (h : (tabSl.any fun p => Nat.beq p.1 t) = true) : Try.prog.underlying t = some (.slice (elemT t)) := by
  obtain ⟨p, hp, ht⟩ := List.any_eq_true.1 h
  have h2 := List.all_eq_true.1 sl_ok p hp
  rw [← Nat.eq_of_beq_eq_true ht]
  cases hu : Try.prog.underlying p.1 with
  | none => rw [hu] at h2; simp at h2
  | some d =>
    rw [hu] at h2
    cases d <;> simp only [Bool.false_eq_true] at h2
    simp only [Bool.and_eq_true] at h2
    rw [Nat.eq_of_beq_eq_true h2.1, Nat.eq_of_beq_eq_true h2.2]
def szT (t : Nat) : Nat := bif Nat.beq (elemT t) 37 then 2 else bif Nat.beq (elemT t) 28 then 14 else 1
theorem sz_ok : (tabSl.all fun p => (Try.prog.info? (elemT p.1)).map (·.size) == some (szT p.1)) = true := by kernel_rfl
theorem sz_any {t : Nat} (h : (tabSl.any fun p => Nat.beq p.1 t) = true) : (Try.prog.info? (elemT t)).map (·.size) = some (szT t) := by
  obtain ⟨p, hp, ht⟩ := List.any_eq_true.1 h
  have h2 := List.all_eq_true.1 sz_ok p hp
  rw [← Nat.eq_of_beq_eq_true ht]
  exact eq_of_beq h2
def tabE : List (Nat × Nat) := [(9, 1), (37, 2), (26, 1), (3, 1), (28, 14)]
theorem szE_ok : (tabE.all fun p => (Try.prog.info? p.1).map (·.size) == some p.2) = true := by kernel_rfl
theorem sz_of {e s : Nat} (h : (tabE.any fun p => Nat.beq p.1 e && Nat.beq p.2 s) = true) : (Try.prog.info? e).map (·.size) = some s := by
  obtain ⟨p, hp, ht⟩ := List.any_eq_true.1 h
  simp only [Bool.and_eq_true] at ht
  have h2 := List.all_eq_true.1 szE_ok p hp
  rw [← Nat.eq_of_beq_eq_true ht.1, ← Nat.eq_of_beq_eq_true ht.2]
  exact eq_of_beq h2
theorem bool_of {t : Nat} (h : Nat.beq t 4 = true) : Try.prog.underlying t = some .bool := by
  rw [Nat.eq_of_beq_eq_true h]; kernel_rfl
theorem str_of {t : Nat} (h : Nat.beq t 9 = true) : Try.prog.underlying t = some .string := by
  rw [Nat.eq_of_beq_eq_true h]; kernel_rfl

theorem pair_of {t : Nat} (h : Nat.beq t 37 = true) : pairIs Try.prog t = true := by
  rw [Nat.eq_of_beq_eq_true h]; kernel_rfl
def tabI : List (Nat × IntKind) := [(3, .i64), (23, .u64), (87, .u64), (5, .u8), (55, .u16), (26, .i64), (22, .i64)]
theorem int_ok : (tabI.all fun p => intIs Try.prog p.1 p.2) = true := by kernel_rfl
theorem int_of {t : Nat} {k : IntKind} (h : (tabI.any fun p => Nat.beq p.1 t && p.2 == k) = true) : intIs Try.prog t k = true := by
  obtain ⟨p, hp, ht⟩ := List.any_eq_true.1 h
  simp only [Bool.and_eq_true] at ht
  have h2 := List.all_eq_true.1 int_ok p hp
  rw [Nat.eq_of_beq_eq_true ht.1, eq_of_beq ht.2] at h2
  exact h2
/-- The elements. -/
def elemB (P : Program) (t e s : Nat) : Bool :=
  (match P.underlying t with | some (.slice e') => Nat.beq e' e | _ => false) && (match P.info? e with
    | some i => Nat.beq i.size s && Nat.ble i.bytes 256
    | none => false)
theorem elem_mk {P : Program} {t e : Nat} {z : Value} {zc : List Value} (h : elemB P t e zc.length = true) (hz : zeroIs P e = some z) (hzc : z.cells = ⟨zc⟩) : ElemIs P t e zc := by
  unfold elemB at h
  simp only [Bool.and_eq_true] at h
  refine ⟨?_, ?_⟩
  · cases hu : P.underlying t with
    | none => simp [hu] at h
    | some d =>
      rw [hu] at h
      cases d <;> simp only [Bool.false_eq_true, false_and] at h
      rw [Nat.eq_of_beq_eq_true h.1]
  · cases hi : P.info? e with
    | none => simp [hi] at h
    | some i =>
      rw [hi] at h
      simp only [Bool.and_eq_true] at h
      exact ⟨i, z, rfl, by simpa [zeroIs, hi] using hz, hzc, Nat.eq_of_beq_eq_true h.2.1, Nat.le_of_ble_eq_true h.2.2⟩
theorem zero_ref : zeroIs Try.prog 26 = some (.int .i64 0) := by kernel_rfl
theorem zero_int : zeroIs Try.prog 3 = some (.int .i64 0) := by kernel_rfl
theorem elem_pair : ElemIs Try.prog 25 37 zPair := elem_mk (by kernel_rfl) zero_pair rfl
theorem elem_ref : ElemIs Try.prog 24 26 [.int .i64 0] := elem_mk (by kernel_rfl) zero_ref rfl
theorem elem_int : ElemIs Try.prog 29 3 [.int .i64 0] := elem_mk (by kernel_rfl) zero_int rfl
theorem elem_node : ElemIs Try.prog 33 28 zNode := elem_mk (by kernel_rfl) zero_node rfl
theorem elem_size {P : Program} {t e : Nat} {zc : List Value} (h : ElemIs P t e zc) : (P.info? e).map (·.size) = some zc.length := by
  obtain ⟨i, z, hi, _, _, hs, _⟩ := h.z
  simp [hi, hs]
theorem elem_refT {t : Nat} (h : Nat.beq t 24 = true) : ElemIs Try.prog t 26 [.int .i64 0] := by rw [Nat.eq_of_beq_eq_true h]; exact elem_ref
theorem elem_intT {t : Nat} (h : Nat.beq t 29 = true) : ElemIs Try.prog t 3 [.int .i64 0] := by rw [Nat.eq_of_beq_eq_true h]; exact elem_int
theorem elem_pairT {t : Nat} (h : Nat.beq t 25 = true) : ElemIs Try.prog t 37 [.string ⟨#[]⟩, .int .u64 0] := by rw [Nat.eq_of_beq_eq_true h]; exact elem_pair
theorem elem_nodeT {t : Nat} (h : Nat.beq t 33 = true) : ElemIs Try.prog t 28 zNode := by rw [Nat.eq_of_beq_eq_true h]; exact elem_node
theorem zero_str : zeroIs Try.prog 9 = some (.string ⟨#[]⟩) := by kernel_rfl
theorem elem_strT {t : Nat} (h : Nat.beq t 102 = true) : ElemIs Try.prog t 9 [.string ⟨#[]⟩] := by rw [Nat.eq_of_beq_eq_true h]; exact elem_mk (by kernel_rfl) zero_str rfl
def under_some (P : Program) (t : Nat) : Bool := (P.underlying t).isSome
end Go.Proofs.Ythmagkjcangnfaa
