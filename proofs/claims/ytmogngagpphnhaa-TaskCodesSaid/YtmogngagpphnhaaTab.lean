/- What the program's table says of the types that are used: closed facts. Written by a program. -/
import Derived.Test.YtmogngagpphnhaaNv
import Derived.Test.YtmogngagpphnhaaProg
set_option linter.unusedSimpArgs false
set_option linter.unusedVariables false
namespace Go.Proofs.Ytmogngagpphnhaa
open Go.RowKit Go.Ct

def tab1 : List Nat := [2, 3, 4, 5, 9, 12, 15, 16, 17, 20, 21, 22, 23, 24, 27, 28, 31, 32, 37, 39, 45, 46, 50, 59, 72, 75, 79, 80, 93, 94, 101, 102, 103, 128, 134, 138, 139, 160, 161, 178, 187, 191]
theorem one_ok : (tab1.all fun t => one Try.prog t) = true := by kernel_rfl
theorem one_of {t : Nat} (h : tab1.elem t = true) : one Try.prog t = true := List.all_eq_true.1 one_ok t (List.mem_of_elem_eq_true h)
/-- The structs: number, cells. -/
def tabS : List (Nat × Nat) := [(34, 3), (36, 4), (48, 14), (65, 19), (67, 2), (78, 4), (82, 2), (84, 8), (86, 14), (120, 2), (123, 4), (141, 17), (150, 20)]
theorem agg_ok : (tabS.all fun p => aggOf Try.prog p.1 p.2) = true := by kernel_rfl
theorem agg_of {t k : Nat} (h : (tabS.any fun p => Nat.beq p.1 t && Nat.beq p.2 k) = true) : aggOf Try.prog t k = true := by
  obtain ⟨p, hp, ht⟩ := List.any_eq_true.1 h
  simp only [Bool.and_eq_true] at ht
  have h2 := List.all_eq_true.1 agg_ok p hp
  rwa [Nat.eq_of_beq_eq_true ht.1, Nat.eq_of_beq_eq_true ht.2] at h2
theorem zero_api_State : zeroIs Try.prog 34 = some (.agg ⟨[.slice none 0 0, .slice none 0 0, .int .i64 0]⟩) := by kernel_rfl
theorem zero_api_StateT {t : Nat} (h : Nat.beq t 34 = true) : zeroIs Try.prog t = some (.agg ⟨[.slice none 0 0, .slice none 0 0, .int .i64 0]⟩) := by rw [Nat.eq_of_beq_eq_true h]; exact zero_api_State
theorem struct_api_StateT {t : Nat} (h : Nat.beq t 34 = true) : structOf Try.prog t [.slice none 0 0, .slice none 0 0, .int .i64 0] := by rw [Nat.eq_of_beq_eq_true h]; exact structOf_mk (by kernel_rfl) zero_api_State
theorem place_api_StateT {t : Nat} (h : Nat.beq t 34 = true) : placeOf Try.prog t [(0, 1), (1, 1), (2, 1)] [.slice none 0 0, .slice none 0 0, .int .i64 0] := by rw [Nat.eq_of_beq_eq_true h]; exact placeOf_mk (by kernel_rfl) zero_api_State
theorem zero_ctrieref05_Mem : zeroIs Try.prog 36 = some (.agg ⟨[.slice none 0 0, .slice none 0 0, .int .i64 0, .int .i64 0]⟩) := by kernel_rfl
theorem zero_ctrieref05_MemT {t : Nat} (h : Nat.beq t 36 = true) : zeroIs Try.prog t = some (.agg ⟨[.slice none 0 0, .slice none 0 0, .int .i64 0, .int .i64 0]⟩) := by rw [Nat.eq_of_beq_eq_true h]; exact zero_ctrieref05_Mem
theorem place_ctrieref05_MemT {t : Nat} (h : Nat.beq t 36 = true) : placeOf Try.prog t [(0, 3), (3, 1)] [.slice none 0 0, .slice none 0 0, .int .i64 0, .int .i64 0] := by rw [Nat.eq_of_beq_eq_true h]; exact placeOf_mk (by kernel_rfl) zero_ctrieref05_Mem
theorem zero_api_Node : zeroIs Try.prog 48 = some (.agg ⟨[.int .i64 0, .int .i64 0, .int .i64 0, .int .u64 0, .slice none 0 0, .int .u64 0, .string ⟨#[]⟩, .int .u64 0, .slice none 0 0, .int .i64 0, .int .i64 0, .int .i64 0, .int .i64 0, .int .i64 0]⟩) := by kernel_rfl
theorem zero_api_NodeT {t : Nat} (h : Nat.beq t 48 = true) : zeroIs Try.prog t = some (.agg ⟨[.int .i64 0, .int .i64 0, .int .i64 0, .int .u64 0, .slice none 0 0, .int .u64 0, .string ⟨#[]⟩, .int .u64 0, .slice none 0 0, .int .i64 0, .int .i64 0, .int .i64 0, .int .i64 0, .int .i64 0]⟩) := by rw [Nat.eq_of_beq_eq_true h]; exact zero_api_Node
theorem struct_api_NodeT {t : Nat} (h : Nat.beq t 48 = true) : structOf Try.prog t [.int .i64 0, .int .i64 0, .int .i64 0, .int .u64 0, .slice none 0 0, .int .u64 0, .string ⟨#[]⟩, .int .u64 0, .slice none 0 0, .int .i64 0, .int .i64 0, .int .i64 0, .int .i64 0, .int .i64 0] := by rw [Nat.eq_of_beq_eq_true h]; exact structOf_mk (by kernel_rfl) zero_api_Node
theorem place_api_NodeT {t : Nat} (h : Nat.beq t 48 = true) : placeOf Try.prog t [(0, 1), (1, 1), (2, 1), (3, 1), (4, 1), (5, 1), (6, 1), (7, 1), (8, 1), (9, 1), (10, 1), (11, 1), (12, 1), (13, 1)] [.int .i64 0, .int .i64 0, .int .i64 0, .int .u64 0, .slice none 0 0, .int .u64 0, .string ⟨#[]⟩, .int .u64 0, .slice none 0 0, .int .i64 0, .int .i64 0, .int .i64 0, .int .i64 0, .int .i64 0] := by rw [Nat.eq_of_beq_eq_true h]; exact placeOf_mk (by kernel_rfl) zero_api_Node
theorem zero_ctrielaw05_Step : zeroIs Try.prog 65 = some (.agg ⟨[.int .i64 0, .int .i64 0, .int .i64 0, .int .i64 0, .slice none 0 0, .int .i64 0, .int .i64 0, .int .i64 0, .int .u64 0, .slice none 0 0, .int .u64 0, .string ⟨#[]⟩, .int .u64 0, .slice none 0 0, .int .i64 0, .int .i64 0, .int .i64 0, .int .i64 0, .int .i64 0]⟩) := by kernel_rfl
theorem zero_ctrielaw05_StepT {t : Nat} (h : Nat.beq t 65 = true) : zeroIs Try.prog t = some (.agg ⟨[.int .i64 0, .int .i64 0, .int .i64 0, .int .i64 0, .slice none 0 0, .int .i64 0, .int .i64 0, .int .i64 0, .int .u64 0, .slice none 0 0, .int .u64 0, .string ⟨#[]⟩, .int .u64 0, .slice none 0 0, .int .i64 0, .int .i64 0, .int .i64 0, .int .i64 0, .int .i64 0]⟩) := by rw [Nat.eq_of_beq_eq_true h]; exact zero_ctrielaw05_Step
theorem place_ctrielaw05_StepT {t : Nat} (h : Nat.beq t 65 = true) : placeOf Try.prog t [(0, 1), (1, 1), (2, 1), (3, 1), (4, 1), (5, 14)] [.int .i64 0, .int .i64 0, .int .i64 0, .int .i64 0, .slice none 0 0, .int .i64 0, .int .i64 0, .int .i64 0, .int .u64 0, .slice none 0 0, .int .u64 0, .string ⟨#[]⟩, .int .u64 0, .slice none 0 0, .int .i64 0, .int .i64 0, .int .i64 0, .int .i64 0, .int .i64 0] := by rw [Nat.eq_of_beq_eq_true h]; exact placeOf_mk (by kernel_rfl) zero_ctrielaw05_Step
theorem zero_api_Pair : zeroIs Try.prog 67 = some (.agg ⟨[.string ⟨#[]⟩, .int .u64 0]⟩) := by kernel_rfl
theorem zero_api_PairT {t : Nat} (h : Nat.beq t 67 = true) : zeroIs Try.prog t = some (.agg ⟨[.string ⟨#[]⟩, .int .u64 0]⟩) := by rw [Nat.eq_of_beq_eq_true h]; exact zero_api_Pair
theorem struct_api_PairT {t : Nat} (h : Nat.beq t 67 = true) : structOf Try.prog t [.string ⟨#[]⟩, .int .u64 0] := by rw [Nat.eq_of_beq_eq_true h]; exact structOf_mk (by kernel_rfl) zero_api_Pair
theorem place_api_PairT {t : Nat} (h : Nat.beq t 67 = true) : placeOf Try.prog t [(0, 1), (1, 1)] [.string ⟨#[]⟩, .int .u64 0] := by rw [Nat.eq_of_beq_eq_true h]; exact placeOf_mk (by kernel_rfl) zero_api_Pair
theorem zero_api_Access : zeroIs Try.prog 78 = some (.agg ⟨[.int .i64 0, .int .i64 0, .int .i64 0, .int .i64 0]⟩) := by kernel_rfl
theorem zero_api_AccessT {t : Nat} (h : Nat.beq t 78 = true) : zeroIs Try.prog t = some (.agg ⟨[.int .i64 0, .int .i64 0, .int .i64 0, .int .i64 0]⟩) := by rw [Nat.eq_of_beq_eq_true h]; exact zero_api_Access
theorem struct_api_AccessT {t : Nat} (h : Nat.beq t 78 = true) : structOf Try.prog t [.int .i64 0, .int .i64 0, .int .i64 0, .int .i64 0] := by rw [Nat.eq_of_beq_eq_true h]; exact structOf_mk (by kernel_rfl) zero_api_Access
theorem place_api_AccessT {t : Nat} (h : Nat.beq t 78 = true) : placeOf Try.prog t [(0, 1), (1, 1), (2, 1), (3, 1)] [.int .i64 0, .int .i64 0, .int .i64 0, .int .i64 0] := by rw [Nat.eq_of_beq_eq_true h]; exact placeOf_mk (by kernel_rfl) zero_api_Access
theorem zero_api_Trie : zeroIs Try.prog 82 = some (.agg ⟨[.int .i64 0, .bool false]⟩) := by kernel_rfl
theorem zero_api_TrieT {t : Nat} (h : Nat.beq t 82 = true) : zeroIs Try.prog t = some (.agg ⟨[.int .i64 0, .bool false]⟩) := by rw [Nat.eq_of_beq_eq_true h]; exact zero_api_Trie
theorem struct_api_TrieT {t : Nat} (h : Nat.beq t 82 = true) : structOf Try.prog t [.int .i64 0, .bool false] := by rw [Nat.eq_of_beq_eq_true h]; exact structOf_mk (by kernel_rfl) zero_api_Trie
theorem place_api_TrieT {t : Nat} (h : Nat.beq t 82 = true) : placeOf Try.prog t [(0, 1), (1, 1)] [.int .i64 0, .bool false] := by rw [Nat.eq_of_beq_eq_true h]; exact placeOf_mk (by kernel_rfl) zero_api_Trie
theorem zero_api_Result : zeroIs Try.prog 84 = some (.agg ⟨[.int .i64 0, .bool false, .int .u64 0, .string ⟨#[]⟩, .int .i64 0, .int .i64 0, .int .i64 0, .bool false]⟩) := by kernel_rfl
theorem zero_api_ResultT {t : Nat} (h : Nat.beq t 84 = true) : zeroIs Try.prog t = some (.agg ⟨[.int .i64 0, .bool false, .int .u64 0, .string ⟨#[]⟩, .int .i64 0, .int .i64 0, .int .i64 0, .bool false]⟩) := by rw [Nat.eq_of_beq_eq_true h]; exact zero_api_Result
theorem place_api_ResultT {t : Nat} (h : Nat.beq t 84 = true) : placeOf Try.prog t [(0, 1), (1, 1), (2, 1), (3, 1), (4, 1), (5, 1), (6, 2)] [.int .i64 0, .bool false, .int .u64 0, .string ⟨#[]⟩, .int .i64 0, .int .i64 0, .int .i64 0, .bool false] := by rw [Nat.eq_of_beq_eq_true h]; exact placeOf_mk (by kernel_rfl) zero_api_Result
theorem zero_task_Code : zeroIs Try.prog 86 = some (.agg ⟨[.int .i64 0, .int .i64 0, .int .i64 0, .int .i64 0, .nilFunc, .nilFunc, .int .i64 0, .bool false, .int .u64 0, .string ⟨#[]⟩, .int .i64 0, .int .i64 0, .int .i64 0, .bool false]⟩) := by kernel_rfl
theorem zero_task_CodeT {t : Nat} (h : Nat.beq t 86 = true) : zeroIs Try.prog t = some (.agg ⟨[.int .i64 0, .int .i64 0, .int .i64 0, .int .i64 0, .nilFunc, .nilFunc, .int .i64 0, .bool false, .int .u64 0, .string ⟨#[]⟩, .int .i64 0, .int .i64 0, .int .i64 0, .bool false]⟩) := by rw [Nat.eq_of_beq_eq_true h]; exact zero_task_Code
theorem place_task_CodeT {t : Nat} (h : Nat.beq t 86 = true) : placeOf Try.prog t [(0, 4), (4, 1), (5, 1), (6, 8)] [.int .i64 0, .int .i64 0, .int .i64 0, .int .i64 0, .nilFunc, .nilFunc, .int .i64 0, .bool false, .int .u64 0, .string ⟨#[]⟩, .int .i64 0, .int .i64 0, .int .i64 0, .bool false] := by rw [Nat.eq_of_beq_eq_true h]; exact placeOf_mk (by kernel_rfl) zero_task_Code
theorem zero_ctriemake_Tape : zeroIs Try.prog 120 = some (.agg ⟨[.slice none 0 0, .int .i64 0]⟩) := by kernel_rfl
theorem zero_ctriemake_TapeT {t : Nat} (h : Nat.beq t 120 = true) : zeroIs Try.prog t = some (.agg ⟨[.slice none 0 0, .int .i64 0]⟩) := by rw [Nat.eq_of_beq_eq_true h]; exact zero_ctriemake_Tape
theorem struct_ctriemake_TapeT {t : Nat} (h : Nat.beq t 120 = true) : structOf Try.prog t [.slice none 0 0, .int .i64 0] := by rw [Nat.eq_of_beq_eq_true h]; exact structOf_mk (by kernel_rfl) zero_ctriemake_Tape
theorem place_ctriemake_TapeT {t : Nat} (h : Nat.beq t 120 = true) : placeOf Try.prog t [(0, 1), (1, 1)] [.slice none 0 0, .int .i64 0] := by rw [Nat.eq_of_beq_eq_true h]; exact placeOf_mk (by kernel_rfl) zero_ctriemake_Tape
theorem zero_arena_Arena : zeroIs Try.prog 123 = some (.agg ⟨[.slice none 0 0, .slice none 0 0, .int .i64 0, .int .i64 0]⟩) := by kernel_rfl
theorem zero_arena_ArenaT {t : Nat} (h : Nat.beq t 123 = true) : zeroIs Try.prog t = some (.agg ⟨[.slice none 0 0, .slice none 0 0, .int .i64 0, .int .i64 0]⟩) := by rw [Nat.eq_of_beq_eq_true h]; exact zero_arena_Arena
theorem struct_arena_ArenaT {t : Nat} (h : Nat.beq t 123 = true) : structOf Try.prog t [.slice none 0 0, .slice none 0 0, .int .i64 0, .int .i64 0] := by rw [Nat.eq_of_beq_eq_true h]; exact structOf_mk (by kernel_rfl) zero_arena_Arena
theorem place_arena_ArenaT {t : Nat} (h : Nat.beq t 123 = true) : placeOf Try.prog t [(0, 1), (1, 1), (2, 1), (3, 1)] [.slice none 0 0, .slice none 0 0, .int .i64 0, .int .i64 0] := by rw [Nat.eq_of_beq_eq_true h]; exact placeOf_mk (by kernel_rfl) zero_arena_Arena
theorem zero_task_Task : zeroIs Try.prog 141 = some (.agg ⟨[.nilIface, .int .i64 0, .int .i64 0, .int .i64 0, .int .i64 0, .nilFunc, .nilFunc, .int .i64 0, .bool false, .int .u64 0, .string ⟨#[]⟩, .int .i64 0, .int .i64 0, .int .i64 0, .bool false, .int .i64 0, .bool false]⟩) := by kernel_rfl
theorem zero_task_TaskT {t : Nat} (h : Nat.beq t 141 = true) : zeroIs Try.prog t = some (.agg ⟨[.nilIface, .int .i64 0, .int .i64 0, .int .i64 0, .int .i64 0, .nilFunc, .nilFunc, .int .i64 0, .bool false, .int .u64 0, .string ⟨#[]⟩, .int .i64 0, .int .i64 0, .int .i64 0, .bool false, .int .i64 0, .bool false]⟩) := by rw [Nat.eq_of_beq_eq_true h]; exact zero_task_Task
theorem place_task_TaskT {t : Nat} (h : Nat.beq t 141 = true) : placeOf Try.prog t [(0, 1), (1, 14), (15, 1), (16, 1)] [.nilIface, .int .i64 0, .int .i64 0, .int .i64 0, .int .i64 0, .nilFunc, .nilFunc, .int .i64 0, .bool false, .int .u64 0, .string ⟨#[]⟩, .int .i64 0, .int .i64 0, .int .i64 0, .bool false, .int .i64 0, .bool false] := by rw [Nat.eq_of_beq_eq_true h]; exact placeOf_mk (by kernel_rfl) zero_task_Task
theorem zero_dual_builder : zeroIs Try.prog 150 = some (.agg ⟨[.nilIface, .int .i64 0, .int .i64 0, .int .i64 0, .int .i64 0, .int .u64 0, .slice none 0 0, .int .u64 0, .string ⟨#[]⟩, .int .u64 0, .slice none 0 0, .int .i64 0, .int .i64 0, .int .i64 0, .int .i64 0, .int .i64 0, .int .u64 0, .string ⟨#[]⟩, .int .u64 0, .int .i64 0]⟩) := by kernel_rfl
theorem zero_dual_builderT {t : Nat} (h : Nat.beq t 150 = true) : zeroIs Try.prog t = some (.agg ⟨[.nilIface, .int .i64 0, .int .i64 0, .int .i64 0, .int .i64 0, .int .u64 0, .slice none 0 0, .int .u64 0, .string ⟨#[]⟩, .int .u64 0, .slice none 0 0, .int .i64 0, .int .i64 0, .int .i64 0, .int .i64 0, .int .i64 0, .int .u64 0, .string ⟨#[]⟩, .int .u64 0, .int .i64 0]⟩) := by rw [Nat.eq_of_beq_eq_true h]; exact zero_dual_builder
theorem place_dual_builderT {t : Nat} (h : Nat.beq t 150 = true) : placeOf Try.prog t [(0, 1), (1, 1), (2, 14), (16, 1), (17, 2), (19, 1)] [.nilIface, .int .i64 0, .int .i64 0, .int .i64 0, .int .i64 0, .int .u64 0, .slice none 0 0, .int .u64 0, .string ⟨#[]⟩, .int .u64 0, .slice none 0 0, .int .i64 0, .int .i64 0, .int .i64 0, .int .i64 0, .int .i64 0, .int .u64 0, .string ⟨#[]⟩, .int .u64 0, .int .i64 0] := by rw [Nat.eq_of_beq_eq_true h]; exact placeOf_mk (by kernel_rfl) zero_dual_builder
def tabF : List (Nat × Nat) := [(34, 0), (34, 1), (34, 2), (36, 0), (48, 0), (48, 1), (48, 2), (48, 3), (48, 4), (48, 5), (48, 6), (48, 7), (48, 8), (48, 9), (48, 10), (48, 11), (48, 12), (48, 13), (65, 0), (65, 1), (65, 2), (65, 3), (65, 4), (65, 5), (67, 0), (67, 1), (78, 0), (78, 1), (78, 2), (78, 3), (82, 0), (82, 1), (84, 0), (84, 1), (84, 2), (84, 3), (84, 4), (84, 5), (84, 6), (86, 0), (120, 0), (120, 1), (123, 0), (123, 1), (123, 2), (123, 3), (141, 0), (141, 1), (150, 0), (150, 1), (150, 2)]
theorem fld_ok : (tabF.all fun p => fieldIs Try.prog p.1 p.2 == some p.2) = true := by kernel_rfl
theorem fld_of {t k : Nat} (h : (tabF.any fun p => Nat.beq p.1 t && Nat.beq p.2 k) = true) : fieldIs Try.prog t k = some k := by
  obtain ⟨p, hp, ht⟩ := List.any_eq_true.1 h
  simp only [Bool.and_eq_true] at ht
  have h2 := eq_of_beq (List.all_eq_true.1 fld_ok p hp)
  rwa [Nat.eq_of_beq_eq_true ht.1, Nat.eq_of_beq_eq_true ht.2] at h2
def tabF1 : List (Nat × Nat) := [(34, 0), (34, 1), (34, 2), (48, 0), (48, 1), (48, 2), (48, 3), (48, 4), (48, 5), (48, 6), (48, 7), (48, 8), (48, 9), (48, 10), (48, 11), (48, 12), (48, 13), (65, 0), (65, 1), (65, 2), (65, 3), (65, 4), (67, 0), (67, 1), (78, 0), (78, 1), (78, 2), (78, 3), (82, 0), (82, 1), (84, 0), (84, 1), (84, 2), (84, 3), (84, 4), (84, 5), (120, 0), (120, 1), (123, 0), (123, 1), (123, 2), (123, 3), (141, 0), (150, 0), (150, 1)]
theorem fld1_ok : (tabF1.all fun p => fieldOne Try.prog p.1 p.2 == some p.2) = true := by kernel_rfl
theorem fld1_of {t k : Nat} (h : (tabF1.any fun p => Nat.beq p.1 t && Nat.beq p.2 k) = true) : fieldOne Try.prog t k = some k := by
  obtain ⟨p, hp, ht⟩ := List.any_eq_true.1 h
  simp only [Bool.and_eq_true] at ht
  have h2 := eq_of_beq (List.all_eq_true.1 fld1_ok p hp)
  rwa [Nat.eq_of_beq_eq_true ht.1, Nat.eq_of_beq_eq_true ht.2] at h2
theorem fld_ctrieref05_Mem_1 {t k : Nat} (h : (Nat.beq t 36 && Nat.beq k 1) = true) : fieldIs Try.prog t k = some 3 := by simp only [Bool.and_eq_true] at h; rw [Nat.eq_of_beq_eq_true h.1, Nat.eq_of_beq_eq_true h.2]; kernel_rfl
theorem fld_task_Code_1 {t k : Nat} (h : (Nat.beq t 86 && Nat.beq k 1) = true) : fieldIs Try.prog t k = some 4 := by simp only [Bool.and_eq_true] at h; rw [Nat.eq_of_beq_eq_true h.1, Nat.eq_of_beq_eq_true h.2]; kernel_rfl
theorem fld_task_Code_2 {t k : Nat} (h : (Nat.beq t 86 && Nat.beq k 2) = true) : fieldIs Try.prog t k = some 5 := by simp only [Bool.and_eq_true] at h; rw [Nat.eq_of_beq_eq_true h.1, Nat.eq_of_beq_eq_true h.2]; kernel_rfl
theorem fld_task_Code_3 {t k : Nat} (h : (Nat.beq t 86 && Nat.beq k 3) = true) : fieldIs Try.prog t k = some 6 := by simp only [Bool.and_eq_true] at h; rw [Nat.eq_of_beq_eq_true h.1, Nat.eq_of_beq_eq_true h.2]; kernel_rfl
theorem fld_task_Task_2 {t k : Nat} (h : (Nat.beq t 141 && Nat.beq k 2) = true) : fieldIs Try.prog t k = some 15 := by simp only [Bool.and_eq_true] at h; rw [Nat.eq_of_beq_eq_true h.1, Nat.eq_of_beq_eq_true h.2]; kernel_rfl
theorem fld_task_Task_3 {t k : Nat} (h : (Nat.beq t 141 && Nat.beq k 3) = true) : fieldIs Try.prog t k = some 16 := by simp only [Bool.and_eq_true] at h; rw [Nat.eq_of_beq_eq_true h.1, Nat.eq_of_beq_eq_true h.2]; kernel_rfl
theorem fld_dual_builder_3 {t k : Nat} (h : (Nat.beq t 150 && Nat.beq k 3) = true) : fieldIs Try.prog t k = some 16 := by simp only [Bool.and_eq_true] at h; rw [Nat.eq_of_beq_eq_true h.1, Nat.eq_of_beq_eq_true h.2]; kernel_rfl
theorem fld_dual_builder_4 {t k : Nat} (h : (Nat.beq t 150 && Nat.beq k 4) = true) : fieldIs Try.prog t k = some 17 := by simp only [Bool.and_eq_true] at h; rw [Nat.eq_of_beq_eq_true h.1, Nat.eq_of_beq_eq_true h.2]; kernel_rfl
theorem fld_dual_builder_5 {t k : Nat} (h : (Nat.beq t 150 && Nat.beq k 5) = true) : fieldIs Try.prog t k = some 19 := by simp only [Bool.and_eq_true] at h; rw [Nat.eq_of_beq_eq_true h.1, Nat.eq_of_beq_eq_true h.2]; kernel_rfl
def tabP : List Nat := [15, 16, 17, 23, 24, 27, 75, 161, 191]
theorem ptr_ok : (tabP.all fun t => ptrIs Try.prog t) = true := by kernel_rfl
theorem ptr_of {t : Nat} (h : tabP.elem t = true) : ptrIs Try.prog t = true := List.all_eq_true.1 ptr_ok t (List.mem_of_elem_eq_true h)
def tabSl : List (Nat × Nat) := [(22, 3), (31, 48), (32, 39), (46, 67), (50, 34), (59, 65), (72, 5), (94, 78), (101, 94), (102, 75), (103, 84), (128, 4), (160, 9), (178, 32)]
def elemT (t : Nat) : Nat := (tabSl.lookup t).getD 0
theorem sl_ok : (tabSl.all fun p => (match Try.prog.underlying p.1 with | some (.slice e) => Nat.beq e p.2 && Nat.beq (elemT p.1) p.2 | _ => false)) = true := by kernel_rfl
theorem sl_of {t : Nat} (h : (tabSl.any fun p => Nat.beq p.1 t) = true) : Try.prog.underlying t = some (.slice (elemT t)) := by
  obtain ⟨p, hp, ht⟩ := List.any_eq_true.1 h
  have h2 := List.all_eq_true.1 sl_ok p hp
  rw [← Nat.eq_of_beq_eq_true ht]
  cases hu : Try.prog.underlying p.1 with
  | none => rw [hu] at h2; simp at h2
  | some d =>
    rw [hu] at h2
    cases d <;> simp only [Bool.false_eq_true] at h2
    simp only [Bool.and_eq_true] at h2
    rw [Nat.eq_of_beq_eq_true h2.1, Nat.eq_of_beq_eq_true h2.2]
def szT (t : Nat) : Nat := bif Nat.beq (elemT t) 65 then 19 else bif Nat.beq (elemT t) 48 then 14 else bif Nat.beq (elemT t) 84 then 8 else bif Nat.beq (elemT t) 78 then 4 else bif Nat.beq (elemT t) 34 then 3 else bif Nat.beq (elemT t) 67 then 2 else 1
theorem sz_ok : (tabSl.all fun p => (Try.prog.info? (elemT p.1)).map (·.size) == some (szT p.1)) = true := by kernel_rfl
theorem sz_any {t : Nat} (h : (tabSl.any fun p => Nat.beq p.1 t) = true) : (Try.prog.info? (elemT t)).map (·.size) = some (szT t) := by
  obtain ⟨p, hp, ht⟩ := List.any_eq_true.1 h
  have h2 := List.all_eq_true.1 sz_ok p hp
  rw [← Nat.eq_of_beq_eq_true ht]
  exact eq_of_beq h2
def tabE : List (Nat × Nat) := [(3, 1), (4, 1), (5, 1), (9, 1), (32, 1), (34, 3), (39, 1), (48, 14), (65, 19), (67, 2), (75, 1), (78, 4), (84, 8), (94, 1)]
theorem szE_ok : (tabE.all fun p => (Try.prog.info? p.1).map (·.size) == some p.2) = true := by kernel_rfl
theorem sz_of {e s : Nat} (h : (tabE.any fun p => Nat.beq p.1 e && Nat.beq p.2 s) = true) : (Try.prog.info? e).map (·.size) = some s := by
  obtain ⟨p, hp, ht⟩ := List.any_eq_true.1 h
  simp only [Bool.and_eq_true] at ht
  have h2 := List.all_eq_true.1 szE_ok p hp
  rw [← Nat.eq_of_beq_eq_true ht.1, ← Nat.eq_of_beq_eq_true ht.2]
  exact eq_of_beq h2
theorem bool_of {t : Nat} (h : Nat.beq t 4 = true) : Try.prog.underlying t = some .bool := by
  rw [Nat.eq_of_beq_eq_true h]; kernel_rfl
theorem str_of {t : Nat} (h : Nat.beq t 9 = true) : Try.prog.underlying t = some .string := by
  rw [Nat.eq_of_beq_eq_true h]; kernel_rfl
theorem pair_of {t : Nat} (h : Nat.beq t 67 = true) : pairIs Try.prog t = true := by
  rw [Nat.eq_of_beq_eq_true h]; kernel_rfl
def tabI : List (Nat × IntKind) := [(2, .i64), (3, .i64), (5, .u8), (12, .u64), (21, .i32), (28, .i64), (37, .i64), (39, .i64), (45, .u64), (93, .i8), (134, .u64), (187, .u32)]
theorem int_ok : (tabI.all fun p => intIs Try.prog p.1 p.2) = true := by kernel_rfl
theorem int_of {t : Nat} {k : IntKind} (h : (tabI.any fun p => Nat.beq p.1 t && p.2 == k) = true) : intIs Try.prog t k = true := by
  obtain ⟨p, hp, ht⟩ := List.any_eq_true.1 h
  simp only [Bool.and_eq_true] at ht
  have h2 := List.all_eq_true.1 int_ok p hp
  rw [Nat.eq_of_beq_eq_true ht.1, eq_of_beq ht.2] at h2
  exact h2
/-- The elements. -/
def elemB (P : Program) (t e s : Nat) : Bool :=
  (match P.underlying t with | some (.slice e') => Nat.beq e' e | _ => false) && (match P.info? e with
    | some i => Nat.beq i.size s && Nat.ble i.bytes 256
    | none => false)
theorem elem_mk {P : Program} {t e : Nat} {z : Value} {zc : List Value} (h : elemB P t e zc.length = true) (hz : zeroIs P e = some z) (hzc : z.cells = ⟨zc⟩) : ElemIs P t e zc := by
  unfold elemB at h
  simp only [Bool.and_eq_true] at h
  refine ⟨?_, ?_⟩
  · cases hu : P.underlying t with
    | none => simp [hu] at h
    | some d =>
      rw [hu] at h
      cases d <;> simp only [Bool.false_eq_true, false_and] at h
      rw [Nat.eq_of_beq_eq_true h.1]
  · cases hi : P.info? e with
    | none => simp [hi] at h
    | some i =>
      rw [hi] at h
      simp only [Bool.and_eq_true] at h
      exact ⟨i, z, rfl, by simpa [zeroIs, hi] using hz, hzc, Nat.eq_of_beq_eq_true h.2.1, Nat.le_of_ble_eq_true h.2.2⟩
theorem elem_size {P : Program} {t e : Nat} {zc : List Value} (h : ElemIs P t e zc) : (P.info? e).map (·.size) = some zc.length := by
  obtain ⟨i, z, hi, _, _, hs, _⟩ := h.z
  simp [hi, hs]
theorem zeroE_int : zeroIs Try.prog 3 = some (.int .i64 0) := by kernel_rfl
theorem elem_int : ElemIs Try.prog 22 3 [.int .i64 0] := elem_mk (by kernel_rfl) zeroE_int rfl
theorem elem_intT {t : Nat} (h : Nat.beq t 22 = true) : ElemIs Try.prog t 3 [.int .i64 0] := by rw [Nat.eq_of_beq_eq_true h]; exact elem_int
def zNode : List Value := [.int .i64 0, .int .i64 0, .int .i64 0, .int .u64 0, .slice none 0 0, .int .u64 0, .string ⟨#[]⟩, .int .u64 0, .slice none 0 0, .int .i64 0, .int .i64 0, .int .i64 0, .int .i64 0, .int .i64 0]
theorem zeroE_node : zeroIs Try.prog 48 = some (.agg ⟨[.int .i64 0, .int .i64 0, .int .i64 0, .int .u64 0, .slice none 0 0, .int .u64 0, .string ⟨#[]⟩, .int .u64 0, .slice none 0 0, .int .i64 0, .int .i64 0, .int .i64 0, .int .i64 0, .int .i64 0]⟩) := by kernel_rfl
theorem elem_node : ElemIs Try.prog 31 48 zNode := elem_mk (by kernel_rfl) zeroE_node rfl
theorem elem_nodeT {t : Nat} (h : Nat.beq t 31 = true) : ElemIs Try.prog t 48 zNode := by rw [Nat.eq_of_beq_eq_true h]; exact elem_node
theorem zeroE_ref : zeroIs Try.prog 39 = some (.int .i64 0) := by kernel_rfl
theorem elem_ref : ElemIs Try.prog 32 39 [.int .i64 0] := elem_mk (by kernel_rfl) zeroE_ref rfl
theorem elem_refT {t : Nat} (h : Nat.beq t 32 = true) : ElemIs Try.prog t 39 [.int .i64 0] := by rw [Nat.eq_of_beq_eq_true h]; exact elem_ref
theorem zeroE_pair : zeroIs Try.prog 67 = some (.agg ⟨[.string ⟨#[]⟩, .int .u64 0]⟩) := by kernel_rfl
theorem elem_pair : ElemIs Try.prog 46 67 [.string ⟨#[]⟩, .int .u64 0] := elem_mk (by kernel_rfl) zeroE_pair rfl
theorem elem_pairT {t : Nat} (h : Nat.beq t 46 = true) : ElemIs Try.prog t 67 [.string ⟨#[]⟩, .int .u64 0] := by rw [Nat.eq_of_beq_eq_true h]; exact elem_pair
theorem zeroE_state : zeroIs Try.prog 34 = some (.agg ⟨[.slice none 0 0, .slice none 0 0, .int .i64 0]⟩) := by kernel_rfl
theorem elem_state : ElemIs Try.prog 50 34 [.slice none 0 0, .slice none 0 0, .int .i64 0] := elem_mk (by kernel_rfl) zeroE_state rfl
theorem elem_stateT {t : Nat} (h : Nat.beq t 50 = true) : ElemIs Try.prog t 34 [.slice none 0 0, .slice none 0 0, .int .i64 0] := by rw [Nat.eq_of_beq_eq_true h]; exact elem_state
theorem zeroE_u8 : zeroIs Try.prog 5 = some (.int .u8 0) := by kernel_rfl
theorem elem_u8 : ElemIs Try.prog 72 5 [.int .u8 0] := elem_mk (by kernel_rfl) zeroE_u8 rfl
theorem elem_u8T {t : Nat} (h : Nat.beq t 72 = true) : ElemIs Try.prog t 5 [.int .u8 0] := by rw [Nat.eq_of_beq_eq_true h]; exact elem_u8
theorem zeroE_access : zeroIs Try.prog 78 = some (.agg ⟨[.int .i64 0, .int .i64 0, .int .i64 0, .int .i64 0]⟩) := by kernel_rfl
theorem elem_access : ElemIs Try.prog 94 78 [.int .i64 0, .int .i64 0, .int .i64 0, .int .i64 0] := elem_mk (by kernel_rfl) zeroE_access rfl
theorem elem_accessT {t : Nat} (h : Nat.beq t 94 = true) : ElemIs Try.prog t 78 [.int .i64 0, .int .i64 0, .int .i64 0, .int .i64 0] := by rw [Nat.eq_of_beq_eq_true h]; exact elem_access
theorem zeroE_result : zeroIs Try.prog 84 = some (.agg ⟨[.int .i64 0, .bool false, .int .u64 0, .string ⟨#[]⟩, .int .i64 0, .int .i64 0, .int .i64 0, .bool false]⟩) := by kernel_rfl
theorem elem_result : ElemIs Try.prog 103 84 [.int .i64 0, .bool false, .int .u64 0, .string ⟨#[]⟩, .int .i64 0, .int .i64 0, .int .i64 0, .bool false] := elem_mk (by kernel_rfl) zeroE_result rfl
theorem elem_resultT {t : Nat} (h : Nat.beq t 103 = true) : ElemIs Try.prog t 84 [.int .i64 0, .bool false, .int .u64 0, .string ⟨#[]⟩, .int .i64 0, .int .i64 0, .int .i64 0, .bool false] := by rw [Nat.eq_of_beq_eq_true h]; exact elem_result
theorem zeroE_bool : zeroIs Try.prog 4 = some (.bool false) := by kernel_rfl
theorem elem_bool : ElemIs Try.prog 128 4 [.bool false] := elem_mk (by kernel_rfl) zeroE_bool rfl
theorem elem_boolT {t : Nat} (h : Nat.beq t 128 = true) : ElemIs Try.prog t 4 [.bool false] := by rw [Nat.eq_of_beq_eq_true h]; exact elem_bool
theorem zeroE_str : zeroIs Try.prog 9 = some (.string ⟨#[]⟩) := by kernel_rfl
theorem elem_str : ElemIs Try.prog 160 9 [.string ⟨#[]⟩] := elem_mk (by kernel_rfl) zeroE_str rfl
theorem elem_strT {t : Nat} (h : Nat.beq t 160 = true) : ElemIs Try.prog t 9 [.string ⟨#[]⟩] := by rw [Nat.eq_of_beq_eq_true h]; exact elem_str
theorem zero_pairT {t : Nat} (h : Nat.beq t 67 = true) : zeroIs Try.prog t = some (.agg ⟨[.string ⟨#[]⟩, .int .u64 0]⟩) := zero_api_PairT h
theorem struct_pairT {t : Nat} (h : Nat.beq t 67 = true) : structOf Try.prog t [.string ⟨#[]⟩, .int .u64 0] := struct_api_PairT h
theorem zero_nodeT {t : Nat} (h : Nat.beq t 48 = true) : zeroIs Try.prog t = some (.agg ⟨[.int .i64 0, .int .i64 0, .int .i64 0, .int .u64 0, .slice none 0 0, .int .u64 0, .string ⟨#[]⟩, .int .u64 0, .slice none 0 0, .int .i64 0, .int .i64 0, .int .i64 0, .int .i64 0, .int .i64 0]⟩) := zero_api_NodeT h
theorem struct_nodeT {t : Nat} (h : Nat.beq t 48 = true) : structOf Try.prog t [.int .i64 0, .int .i64 0, .int .i64 0, .int .u64 0, .slice none 0 0, .int .u64 0, .string ⟨#[]⟩, .int .u64 0, .slice none 0 0, .int .i64 0, .int .i64 0, .int .i64 0, .int .i64 0, .int .i64 0] := struct_api_NodeT h
theorem zero_tapeT {t : Nat} (h : Nat.beq t 120 = true) : zeroIs Try.prog t = some (.agg ⟨[.slice none 0 0, .int .i64 0]⟩) := zero_ctriemake_TapeT h
theorem struct_tapeT {t : Nat} (h : Nat.beq t 120 = true) : structOf Try.prog t [.slice none 0 0, .int .i64 0] := struct_ctriemake_TapeT h
def zPair : List Value := [.string ⟨#[]⟩, .int .u64 0]
def zTape : List Value := [.slice none 0 0, .int .i64 0]
end Go.Proofs.Ytmogngagpphnhaa
