/- What the program's table says of the types that are used: closed facts. Written by a program. -/
import Derived.Test.YtpfjjagcmjmfpaaNv
import Derived.Test.YtpfjjagcmjmfpaaProg
set_option linter.unusedSimpArgs false
set_option linter.unusedVariables false
namespace Go.Proofs.Ytpfjjagcmjmfpaa
open Go.RowKit Go.Ct

def tab1 : List Nat := [2, 3, 4, 5, 9, 12, 15, 16, 17, 20, 21, 22, 23, 24, 27, 29, 31, 32, 33, 36, 41, 42, 64, 71, 72, 79, 83, 94, 109, 119, 128, 132]
theorem one_ok : (tab1.all fun t => one Try.prog t) = true := by kernel_rfl
theorem one_of {t : Nat} (h : tab1.elem t = true) : one Try.prog t = true := List.all_eq_true.1 one_ok t (List.mem_of_elem_eq_true h)
/-- The structs: number, cells. -/
def tabS : List (Nat × Nat) := [(35, 14), (38, 3), (40, 4), (49, 2), (56, 2), (63, 2), (69, 4), (75, 20), (85, 6)]
theorem agg_ok : (tabS.all fun p => aggOf Try.prog p.1 p.2) = true := by kernel_rfl
theorem agg_of {t k : Nat} (h : (tabS.any fun p => Nat.beq p.1 t && Nat.beq p.2 k) = true) : aggOf Try.prog t k = true := by
  obtain ⟨p, hp, ht⟩ := List.any_eq_true.1 h
  simp only [Bool.and_eq_true] at ht
  have h2 := List.all_eq_true.1 agg_ok p hp
  rwa [Nat.eq_of_beq_eq_true ht.1, Nat.eq_of_beq_eq_true ht.2] at h2
theorem zero_api_Node : zeroIs Try.prog 35 = some (.agg ⟨[.int .i64 0, .int .i64 0, .int .i64 0, .int .u64 0, .slice none 0 0, .int .u64 0, .string ⟨#[]⟩, .int .u64 0, .slice none 0 0, .int .i64 0, .int .i64 0, .int .i64 0, .int .i64 0, .int .i64 0]⟩) := by kernel_rfl
theorem zero_api_NodeT {t : Nat} (h : Nat.beq t 35 = true) : zeroIs Try.prog t = some (.agg ⟨[.int .i64 0, .int .i64 0, .int .i64 0, .int .u64 0, .slice none 0 0, .int .u64 0, .string ⟨#[]⟩, .int .u64 0, .slice none 0 0, .int .i64 0, .int .i64 0, .int .i64 0, .int .i64 0, .int .i64 0]⟩) := by rw [Nat.eq_of_beq_eq_true h]; exact zero_api_Node
theorem struct_api_NodeT {t : Nat} (h : Nat.beq t 35 = true) : structOf Try.prog t [.int .i64 0, .int .i64 0, .int .i64 0, .int .u64 0, .slice none 0 0, .int .u64 0, .string ⟨#[]⟩, .int .u64 0, .slice none 0 0, .int .i64 0, .int .i64 0, .int .i64 0, .int .i64 0, .int .i64 0] := by rw [Nat.eq_of_beq_eq_true h]; exact structOf_mk (by kernel_rfl) zero_api_Node
theorem place_api_NodeT {t : Nat} (h : Nat.beq t 35 = true) : placeOf Try.prog t [(0, 1), (1, 1), (2, 1), (3, 1), (4, 1), (5, 1), (6, 1), (7, 1), (8, 1), (9, 1), (10, 1), (11, 1), (12, 1), (13, 1)] [.int .i64 0, .int .i64 0, .int .i64 0, .int .u64 0, .slice none 0 0, .int .u64 0, .string ⟨#[]⟩, .int .u64 0, .slice none 0 0, .int .i64 0, .int .i64 0, .int .i64 0, .int .i64 0, .int .i64 0] := by rw [Nat.eq_of_beq_eq_true h]; exact placeOf_mk (by kernel_rfl) zero_api_Node
theorem zero_api_State : zeroIs Try.prog 38 = some (.agg ⟨[.slice none 0 0, .slice none 0 0, .int .i64 0]⟩) := by kernel_rfl
theorem zero_api_StateT {t : Nat} (h : Nat.beq t 38 = true) : zeroIs Try.prog t = some (.agg ⟨[.slice none 0 0, .slice none 0 0, .int .i64 0]⟩) := by rw [Nat.eq_of_beq_eq_true h]; exact zero_api_State
theorem struct_api_StateT {t : Nat} (h : Nat.beq t 38 = true) : structOf Try.prog t [.slice none 0 0, .slice none 0 0, .int .i64 0] := by rw [Nat.eq_of_beq_eq_true h]; exact structOf_mk (by kernel_rfl) zero_api_State
theorem place_api_StateT {t : Nat} (h : Nat.beq t 38 = true) : placeOf Try.prog t [(0, 1), (1, 1), (2, 1)] [.slice none 0 0, .slice none 0 0, .int .i64 0] := by rw [Nat.eq_of_beq_eq_true h]; exact placeOf_mk (by kernel_rfl) zero_api_State
theorem zero_ctrieref05_Mem : zeroIs Try.prog 40 = some (.agg ⟨[.slice none 0 0, .slice none 0 0, .int .i64 0, .int .i64 0]⟩) := by kernel_rfl
theorem zero_ctrieref05_MemT {t : Nat} (h : Nat.beq t 40 = true) : zeroIs Try.prog t = some (.agg ⟨[.slice none 0 0, .slice none 0 0, .int .i64 0, .int .i64 0]⟩) := by rw [Nat.eq_of_beq_eq_true h]; exact zero_ctrieref05_Mem
theorem place_ctrieref05_MemT {t : Nat} (h : Nat.beq t 40 = true) : placeOf Try.prog t [(0, 3), (3, 1)] [.slice none 0 0, .slice none 0 0, .int .i64 0, .int .i64 0] := by rw [Nat.eq_of_beq_eq_true h]; exact placeOf_mk (by kernel_rfl) zero_ctrieref05_Mem
theorem zero_api_Trie : zeroIs Try.prog 49 = some (.agg ⟨[.int .i64 0, .bool false]⟩) := by kernel_rfl
theorem zero_api_TrieT {t : Nat} (h : Nat.beq t 49 = true) : zeroIs Try.prog t = some (.agg ⟨[.int .i64 0, .bool false]⟩) := by rw [Nat.eq_of_beq_eq_true h]; exact zero_api_Trie
theorem struct_api_TrieT {t : Nat} (h : Nat.beq t 49 = true) : structOf Try.prog t [.int .i64 0, .bool false] := by rw [Nat.eq_of_beq_eq_true h]; exact structOf_mk (by kernel_rfl) zero_api_Trie
theorem place_api_TrieT {t : Nat} (h : Nat.beq t 49 = true) : placeOf Try.prog t [(0, 1), (1, 1)] [.int .i64 0, .bool false] := by rw [Nat.eq_of_beq_eq_true h]; exact placeOf_mk (by kernel_rfl) zero_api_Trie
theorem zero_api_Pair : zeroIs Try.prog 56 = some (.agg ⟨[.string ⟨#[]⟩, .int .u64 0]⟩) := by kernel_rfl
theorem zero_api_PairT {t : Nat} (h : Nat.beq t 56 = true) : zeroIs Try.prog t = some (.agg ⟨[.string ⟨#[]⟩, .int .u64 0]⟩) := by rw [Nat.eq_of_beq_eq_true h]; exact zero_api_Pair
theorem struct_api_PairT {t : Nat} (h : Nat.beq t 56 = true) : structOf Try.prog t [.string ⟨#[]⟩, .int .u64 0] := by rw [Nat.eq_of_beq_eq_true h]; exact structOf_mk (by kernel_rfl) zero_api_Pair
theorem place_api_PairT {t : Nat} (h : Nat.beq t 56 = true) : placeOf Try.prog t [(0, 1), (1, 1)] [.string ⟨#[]⟩, .int .u64 0] := by rw [Nat.eq_of_beq_eq_true h]; exact placeOf_mk (by kernel_rfl) zero_api_Pair
theorem zero_ctriemake_Tape : zeroIs Try.prog 63 = some (.agg ⟨[.slice none 0 0, .int .i64 0]⟩) := by kernel_rfl
theorem zero_ctriemake_TapeT {t : Nat} (h : Nat.beq t 63 = true) : zeroIs Try.prog t = some (.agg ⟨[.slice none 0 0, .int .i64 0]⟩) := by rw [Nat.eq_of_beq_eq_true h]; exact zero_ctriemake_Tape
theorem struct_ctriemake_TapeT {t : Nat} (h : Nat.beq t 63 = true) : structOf Try.prog t [.slice none 0 0, .int .i64 0] := by rw [Nat.eq_of_beq_eq_true h]; exact structOf_mk (by kernel_rfl) zero_ctriemake_Tape
theorem place_ctriemake_TapeT {t : Nat} (h : Nat.beq t 63 = true) : placeOf Try.prog t [(0, 1), (1, 1)] [.slice none 0 0, .int .i64 0] := by rw [Nat.eq_of_beq_eq_true h]; exact placeOf_mk (by kernel_rfl) zero_ctriemake_Tape
theorem zero_arena_Arena : zeroIs Try.prog 69 = some (.agg ⟨[.slice none 0 0, .slice none 0 0, .int .i64 0, .int .i64 0]⟩) := by kernel_rfl
theorem zero_arena_ArenaT {t : Nat} (h : Nat.beq t 69 = true) : zeroIs Try.prog t = some (.agg ⟨[.slice none 0 0, .slice none 0 0, .int .i64 0, .int .i64 0]⟩) := by rw [Nat.eq_of_beq_eq_true h]; exact zero_arena_Arena
theorem struct_arena_ArenaT {t : Nat} (h : Nat.beq t 69 = true) : structOf Try.prog t [.slice none 0 0, .slice none 0 0, .int .i64 0, .int .i64 0] := by rw [Nat.eq_of_beq_eq_true h]; exact structOf_mk (by kernel_rfl) zero_arena_Arena
theorem place_arena_ArenaT {t : Nat} (h : Nat.beq t 69 = true) : placeOf Try.prog t [(0, 1), (1, 1), (2, 1), (3, 1)] [.slice none 0 0, .slice none 0 0, .int .i64 0, .int .i64 0] := by rw [Nat.eq_of_beq_eq_true h]; exact placeOf_mk (by kernel_rfl) zero_arena_Arena
theorem zero_dual_builder : zeroIs Try.prog 75 = some (.agg ⟨[.nilIface, .int .i64 0, .int .i64 0, .int .i64 0, .int .i64 0, .int .u64 0, .slice none 0 0, .int .u64 0, .string ⟨#[]⟩, .int .u64 0, .slice none 0 0, .int .i64 0, .int .i64 0, .int .i64 0, .int .i64 0, .int .i64 0, .int .u64 0, .string ⟨#[]⟩, .int .u64 0, .int .i64 0]⟩) := by kernel_rfl
theorem zero_dual_builderT {t : Nat} (h : Nat.beq t 75 = true) : zeroIs Try.prog t = some (.agg ⟨[.nilIface, .int .i64 0, .int .i64 0, .int .i64 0, .int .i64 0, .int .u64 0, .slice none 0 0, .int .u64 0, .string ⟨#[]⟩, .int .u64 0, .slice none 0 0, .int .i64 0, .int .i64 0, .int .i64 0, .int .i64 0, .int .i64 0, .int .u64 0, .string ⟨#[]⟩, .int .u64 0, .int .i64 0]⟩) := by rw [Nat.eq_of_beq_eq_true h]; exact zero_dual_builder
theorem place_dual_builderT {t : Nat} (h : Nat.beq t 75 = true) : placeOf Try.prog t [(0, 1), (1, 1), (2, 14), (16, 1), (17, 2), (19, 1)] [.nilIface, .int .i64 0, .int .i64 0, .int .i64 0, .int .i64 0, .int .u64 0, .slice none 0 0, .int .u64 0, .string ⟨#[]⟩, .int .u64 0, .slice none 0 0, .int .i64 0, .int .i64 0, .int .i64 0, .int .i64 0, .int .i64 0, .int .u64 0, .string ⟨#[]⟩, .int .u64 0, .int .i64 0] := by rw [Nat.eq_of_beq_eq_true h]; exact placeOf_mk (by kernel_rfl) zero_dual_builder
theorem zero_view_traversal : zeroIs Try.prog 85 = some (.agg ⟨[.slice none 0 0, .slice none 0 0, .int .i64 0, .slice none 0 0, .slice none 0 0, .slice none 0 0]⟩) := by kernel_rfl
theorem zero_view_traversalT {t : Nat} (h : Nat.beq t 85 = true) : zeroIs Try.prog t = some (.agg ⟨[.slice none 0 0, .slice none 0 0, .int .i64 0, .slice none 0 0, .slice none 0 0, .slice none 0 0]⟩) := by rw [Nat.eq_of_beq_eq_true h]; exact zero_view_traversal
theorem place_view_traversalT {t : Nat} (h : Nat.beq t 85 = true) : placeOf Try.prog t [(0, 3), (3, 1), (4, 1), (5, 1)] [.slice none 0 0, .slice none 0 0, .int .i64 0, .slice none 0 0, .slice none 0 0, .slice none 0 0] := by rw [Nat.eq_of_beq_eq_true h]; exact placeOf_mk (by kernel_rfl) zero_view_traversal
def tabF : List (Nat × Nat) := [(35, 0), (35, 1), (35, 2), (35, 3), (35, 4), (35, 5), (35, 6), (35, 7), (35, 8), (35, 9), (35, 10), (35, 11), (35, 12), (35, 13), (38, 0), (38, 1), (38, 2), (40, 0), (49, 0), (49, 1), (56, 0), (56, 1), (63, 0), (63, 1), (69, 0), (69, 1), (69, 2), (69, 3), (75, 0), (75, 1), (75, 2), (85, 0)]
theorem fld_ok : (tabF.all fun p => fieldIs Try.prog p.1 p.2 == some p.2) = true := by kernel_rfl
theorem fld_of {t k : Nat} (h : (tabF.any fun p => Nat.beq p.1 t && Nat.beq p.2 k) = true) : fieldIs Try.prog t k = some k := by
  obtain ⟨p, hp, ht⟩ := List.any_eq_true.1 h
  simp only [Bool.and_eq_true] at ht
  have h2 := eq_of_beq (List.all_eq_true.1 fld_ok p hp)
  rwa [Nat.eq_of_beq_eq_true ht.1, Nat.eq_of_beq_eq_true ht.2] at h2
def tabF1 : List (Nat × Nat) := [(35, 0), (35, 1), (35, 2), (35, 3), (35, 4), (35, 5), (35, 6), (35, 7), (35, 8), (35, 9), (35, 10), (35, 11), (35, 12), (35, 13), (38, 0), (38, 1), (38, 2), (49, 0), (49, 1), (56, 0), (56, 1), (63, 0), (63, 1), (69, 0), (69, 1), (69, 2), (69, 3), (75, 0), (75, 1)]
theorem fld1_ok : (tabF1.all fun p => fieldOne Try.prog p.1 p.2 == some p.2) = true := by kernel_rfl
theorem fld1_of {t k : Nat} (h : (tabF1.any fun p => Nat.beq p.1 t && Nat.beq p.2 k) = true) : fieldOne Try.prog t k = some k := by
  obtain ⟨p, hp, ht⟩ := List.any_eq_true.1 h
  simp only [Bool.and_eq_true] at ht
  have h2 := eq_of_beq (List.all_eq_true.1 fld1_ok p hp)
  rwa [Nat.eq_of_beq_eq_true ht.1, Nat.eq_of_beq_eq_true ht.2] at h2
theorem fld_ctrieref05_Mem_1 {t k : Nat} (h : (Nat.beq t 40 && Nat.beq k 1) = true) : fieldIs Try.prog t k = some 3 := by simp only [Bool.and_eq_true] at h; rw [Nat.eq_of_beq_eq_true h.1, Nat.eq_of_beq_eq_true h.2]; kernel_rfl
theorem fld_dual_builder_3 {t k : Nat} (h : (Nat.beq t 75 && Nat.beq k 3) = true) : fieldIs Try.prog t k = some 16 := by simp only [Bool.and_eq_true] at h; rw [Nat.eq_of_beq_eq_true h.1, Nat.eq_of_beq_eq_true h.2]; kernel_rfl
theorem fld_dual_builder_4 {t k : Nat} (h : (Nat.beq t 75 && Nat.beq k 4) = true) : fieldIs Try.prog t k = some 17 := by simp only [Bool.and_eq_true] at h; rw [Nat.eq_of_beq_eq_true h.1, Nat.eq_of_beq_eq_true h.2]; kernel_rfl
theorem fld_dual_builder_5 {t k : Nat} (h : (Nat.beq t 75 && Nat.beq k 5) = true) : fieldIs Try.prog t k = some 19 := by simp only [Bool.and_eq_true] at h; rw [Nat.eq_of_beq_eq_true h.1, Nat.eq_of_beq_eq_true h.2]; kernel_rfl
theorem fld_view_traversal_1 {t k : Nat} (h : (Nat.beq t 85 && Nat.beq k 1) = true) : fieldIs Try.prog t k = some 3 := by simp only [Bool.and_eq_true] at h; rw [Nat.eq_of_beq_eq_true h.1, Nat.eq_of_beq_eq_true h.2]; kernel_rfl
theorem fld_view_traversal_2 {t k : Nat} (h : (Nat.beq t 85 && Nat.beq k 2) = true) : fieldIs Try.prog t k = some 4 := by simp only [Bool.and_eq_true] at h; rw [Nat.eq_of_beq_eq_true h.1, Nat.eq_of_beq_eq_true h.2]; kernel_rfl
theorem fld_view_traversal_3 {t k : Nat} (h : (Nat.beq t 85 && Nat.beq k 3) = true) : fieldIs Try.prog t k = some 5 := by simp only [Bool.and_eq_true] at h; rw [Nat.eq_of_beq_eq_true h.1, Nat.eq_of_beq_eq_true h.2]; kernel_rfl
def tabP : List Nat := [15, 16, 17, 24, 27, 41, 79, 94, 132]
theorem ptr_ok : (tabP.all fun t => ptrIs Try.prog t) = true := by kernel_rfl
theorem ptr_of {t : Nat} (h : tabP.elem t = true) : ptrIs Try.prog t = true := List.all_eq_true.1 ptr_ok t (List.mem_of_elem_eq_true h)
def tabSl : List (Nat × Nat) := [(23, 3), (32, 29), (33, 56), (36, 35), (64, 9), (83, 4), (119, 32)]
def elemT (t : Nat) : Nat := (tabSl.lookup t).getD 0
theorem sl_ok : (tabSl.all fun p => (match Try.prog.underlying p.1 with | some (.slice e) => Nat.beq e p.2 && Nat.beq (elemT p.1) p.2 | _ => false)) = true := by kernel_rfl
theorem sl_of {t : Nat} (h : (tabSl.any fun p => Nat.beq p.1 t) = true) : Try.prog.underlying t = some (.slice (elemT t)) := by
  obtain ⟨p, hp, ht⟩ := List.any_eq_true.1 h
  have h2 := List.all_eq_true.1 sl_ok p hp
  rw [← Nat.eq_of_beq_eq_true ht]
  cases hu : Try.prog.underlying p.1 with
  | none => rw [hu] at h2; simp at h2
  | some d =>
    rw [hu] at h2
    cases d <;> simp only [Bool.false_eq_true] at h2
    simp only [Bool.and_eq_true] at h2
    rw [Nat.eq_of_beq_eq_true h2.1, Nat.eq_of_beq_eq_true h2.2]
def szT (t : Nat) : Nat := bif Nat.beq (elemT t) 35 then 14 else bif Nat.beq (elemT t) 56 then 2 else 1
theorem sz_ok : (tabSl.all fun p => (Try.prog.info? (elemT p.1)).map (·.size) == some (szT p.1)) = true := by kernel_rfl
theorem sz_any {t : Nat} (h : (tabSl.any fun p => Nat.beq p.1 t) = true) : (Try.prog.info? (elemT t)).map (·.size) = some (szT t) := by
  obtain ⟨p, hp, ht⟩ := List.any_eq_true.1 h
  have h2 := List.all_eq_true.1 sz_ok p hp
  rw [← Nat.eq_of_beq_eq_true ht]
  exact eq_of_beq h2
def tabE : List (Nat × Nat) := [(3, 1), (4, 1), (9, 1), (29, 1), (32, 1), (35, 14), (56, 2)]
theorem szE_ok : (tabE.all fun p => (Try.prog.info? p.1).map (·.size) == some p.2) = true := by kernel_rfl
theorem sz_of {e s : Nat} (h : (tabE.any fun p => Nat.beq p.1 e && Nat.beq p.2 s) = true) : (Try.prog.info? e).map (·.size) = some s := by
  obtain ⟨p, hp, ht⟩ := List.any_eq_true.1 h
  simp only [Bool.and_eq_true] at ht
  have h2 := List.all_eq_true.1 szE_ok p hp
  rw [← Nat.eq_of_beq_eq_true ht.1, ← Nat.eq_of_beq_eq_true ht.2]
  exact eq_of_beq h2
theorem bool_of {t : Nat} (h : Nat.beq t 4 = true) : Try.prog.underlying t = some .bool := by
  rw [Nat.eq_of_beq_eq_true h]; kernel_rfl
theorem str_of {t : Nat} (h : Nat.beq t 9 = true) : Try.prog.underlying t = some .string := by
  rw [Nat.eq_of_beq_eq_true h]; kernel_rfl
theorem pair_of {t : Nat} (h : Nat.beq t 56 = true) : pairIs Try.prog t = true := by
  rw [Nat.eq_of_beq_eq_true h]; kernel_rfl
def tabI : List (Nat × IntKind) := [(2, .i64), (3, .i64), (5, .u8), (12, .u64), (21, .i32), (22, .u64), (29, .i64), (31, .i64), (42, .i64), (109, .u64), (128, .u32)]
theorem int_ok : (tabI.all fun p => intIs Try.prog p.1 p.2) = true := by kernel_rfl
theorem int_of {t : Nat} {k : IntKind} (h : (tabI.any fun p => Nat.beq p.1 t && p.2 == k) = true) : intIs Try.prog t k = true := by
  obtain ⟨p, hp, ht⟩ := List.any_eq_true.1 h
  simp only [Bool.and_eq_true] at ht
  have h2 := List.all_eq_true.1 int_ok p hp
  rw [Nat.eq_of_beq_eq_true ht.1, eq_of_beq ht.2] at h2
  exact h2
/-- The elements. -/
def elemB (P : Program) (t e s : Nat) : Bool :=
  (match P.underlying t with | some (.slice e') => Nat.beq e' e | _ => false) && (match P.info? e with
    | some i => Nat.beq i.size s && Nat.ble i.bytes 256
    | none => false)
theorem elem_mk {P : Program} {t e : Nat} {z : Value} {zc : List Value} (h : elemB P t e zc.length = true) (hz : zeroIs P e = some z) (hzc : z.cells = ⟨zc⟩) : ElemIs P t e zc := by
  unfold elemB at h
  simp only [Bool.and_eq_true] at h
  refine ⟨?_, ?_⟩
  · cases hu : P.underlying t with
    | none => simp [hu] at h
    | some d =>
      rw [hu] at h
      cases d <;> simp only [Bool.false_eq_true, false_and] at h
      rw [Nat.eq_of_beq_eq_true h.1]
  · cases hi : P.info? e with
    | none => simp [hi] at h
    | some i =>
      rw [hi] at h
      simp only [Bool.and_eq_true] at h
      exact ⟨i, z, rfl, by simpa [zeroIs, hi] using hz, hzc, Nat.eq_of_beq_eq_true h.2.1, Nat.le_of_ble_eq_true h.2.2⟩
theorem elem_size {P : Program} {t e : Nat} {zc : List Value} (h : ElemIs P t e zc) : (P.info? e).map (·.size) = some zc.length := by
  obtain ⟨i, z, hi, _, _, hs, _⟩ := h.z
  simp [hi, hs]
theorem zeroE_int : zeroIs Try.prog 3 = some (.int .i64 0) := by kernel_rfl
theorem elem_int : ElemIs Try.prog 23 3 [.int .i64 0] := elem_mk (by kernel_rfl) zeroE_int rfl
theorem elem_intT {t : Nat} (h : Nat.beq t 23 = true) : ElemIs Try.prog t 3 [.int .i64 0] := by rw [Nat.eq_of_beq_eq_true h]; exact elem_int
theorem zeroE_ref : zeroIs Try.prog 29 = some (.int .i64 0) := by kernel_rfl
theorem elem_ref : ElemIs Try.prog 32 29 [.int .i64 0] := elem_mk (by kernel_rfl) zeroE_ref rfl
theorem elem_refT {t : Nat} (h : Nat.beq t 32 = true) : ElemIs Try.prog t 29 [.int .i64 0] := by rw [Nat.eq_of_beq_eq_true h]; exact elem_ref
theorem zeroE_pair : zeroIs Try.prog 56 = some (.agg ⟨[.string ⟨#[]⟩, .int .u64 0]⟩) := by kernel_rfl
theorem elem_pair : ElemIs Try.prog 33 56 [.string ⟨#[]⟩, .int .u64 0] := elem_mk (by kernel_rfl) zeroE_pair rfl
theorem elem_pairT {t : Nat} (h : Nat.beq t 33 = true) : ElemIs Try.prog t 56 [.string ⟨#[]⟩, .int .u64 0] := by rw [Nat.eq_of_beq_eq_true h]; exact elem_pair
def zNode : List Value := [.int .i64 0, .int .i64 0, .int .i64 0, .int .u64 0, .slice none 0 0, .int .u64 0, .string ⟨#[]⟩, .int .u64 0, .slice none 0 0, .int .i64 0, .int .i64 0, .int .i64 0, .int .i64 0, .int .i64 0]
theorem zeroE_node : zeroIs Try.prog 35 = some (.agg ⟨[.int .i64 0, .int .i64 0, .int .i64 0, .int .u64 0, .slice none 0 0, .int .u64 0, .string ⟨#[]⟩, .int .u64 0, .slice none 0 0, .int .i64 0, .int .i64 0, .int .i64 0, .int .i64 0, .int .i64 0]⟩) := by kernel_rfl
theorem elem_node : ElemIs Try.prog 36 35 zNode := elem_mk (by kernel_rfl) zeroE_node rfl
theorem elem_nodeT {t : Nat} (h : Nat.beq t 36 = true) : ElemIs Try.prog t 35 zNode := by rw [Nat.eq_of_beq_eq_true h]; exact elem_node
theorem zeroE_str : zeroIs Try.prog 9 = some (.string ⟨#[]⟩) := by kernel_rfl
theorem elem_str : ElemIs Try.prog 64 9 [.string ⟨#[]⟩] := elem_mk (by kernel_rfl) zeroE_str rfl
theorem elem_strT {t : Nat} (h : Nat.beq t 64 = true) : ElemIs Try.prog t 9 [.string ⟨#[]⟩] := by rw [Nat.eq_of_beq_eq_true h]; exact elem_str
theorem zeroE_bool : zeroIs Try.prog 4 = some (.bool false) := by kernel_rfl
theorem elem_bool : ElemIs Try.prog 83 4 [.bool false] := elem_mk (by kernel_rfl) zeroE_bool rfl
theorem elem_boolT {t : Nat} (h : Nat.beq t 83 = true) : ElemIs Try.prog t 4 [.bool false] := by rw [Nat.eq_of_beq_eq_true h]; exact elem_bool
theorem zero_pairT {t : Nat} (h : Nat.beq t 56 = true) : zeroIs Try.prog t = some (.agg ⟨[.string ⟨#[]⟩, .int .u64 0]⟩) := zero_api_PairT h
theorem struct_pairT {t : Nat} (h : Nat.beq t 56 = true) : structOf Try.prog t [.string ⟨#[]⟩, .int .u64 0] := struct_api_PairT h
theorem zero_nodeT {t : Nat} (h : Nat.beq t 35 = true) : zeroIs Try.prog t = some (.agg ⟨[.int .i64 0, .int .i64 0, .int .i64 0, .int .u64 0, .slice none 0 0, .int .u64 0, .string ⟨#[]⟩, .int .u64 0, .slice none 0 0, .int .i64 0, .int .i64 0, .int .i64 0, .int .i64 0, .int .i64 0]⟩) := zero_api_NodeT h
theorem struct_nodeT {t : Nat} (h : Nat.beq t 35 = true) : structOf Try.prog t [.int .i64 0, .int .i64 0, .int .i64 0, .int .u64 0, .slice none 0 0, .int .u64 0, .string ⟨#[]⟩, .int .u64 0, .slice none 0 0, .int .i64 0, .int .i64 0, .int .i64 0, .int .i64 0, .int .i64 0] := struct_api_NodeT h
theorem zero_tapeT {t : Nat} (h : Nat.beq t 63 = true) : zeroIs Try.prog t = some (.agg ⟨[.slice none 0 0, .int .i64 0]⟩) := zero_ctriemake_TapeT h
theorem struct_tapeT {t : Nat} (h : Nat.beq t 63 = true) : structOf Try.prog t [.slice none 0 0, .int .i64 0] := struct_ctriemake_TapeT h
def zPair : List Value := [.string ⟨#[]⟩, .int .u64 0]
def zTape : List Value := [.slice none 0 0, .int .i64 0]
end Go.Proofs.Ytpfjjagcmjmfpaa
