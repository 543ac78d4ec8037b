/- What the program's table says of the types that are used: closed facts. Written by a program. -/
import Derived.Test.YtpobgmdalcpomaaGreatGLst3
import Derived.Test.YtpobgmdalcpomaaGreatProg
set_option linter.unusedSimpArgs false
set_option linter.unusedVariables false
namespace Go.Proofs.YtpobgmdalcpomaaGreat
open Go.RowKit Go.Ct
def tab1:List Nat:=[2,3,4,5,9,12,15,16,17,20,21,22,23,25,26,27,28,31,34,35,38,39,50,52,77,86,87,91,100,104,109,118,123,173,198,202]
theorem one_ok:(tab1.all λ t=>one Tryz.prog t)=true:=by kernel_rfl
theorem one_of{t:Nat}(h:tab1.elem t=true):one Tryz.prog t=true:=List.all_eq_true.1 one_ok t (List.mem_of_elem_eq_true h)
def tabS:List (Nat×Nat):=[(30,4),(33,2),(41,3),(43,4),(47,2),(54,5),(59,14),(79,3),(81,8),(83,25),(93,6),(99,2),(111,4),(113,52),(128,4),(172,2)]
theorem agg_ok:(tabS.all λ p=>aggOf Tryz.prog p.1 p.2)=true:=by kernel_rfl
theorem agg_of{t k:Nat}(h:(tabS.any λ p=>Nat.beq p.1 t&&Nat.beq p.2 k)=true):aggOf Tryz.prog t k=true:=by
 obtain⟨p,hp,ht⟩:=List.any_eq_true.1 h
 simp only[Bool.and_eq_true] at ht
 have h2:=List.all_eq_true.1 agg_ok p hp
 rwa [Nat.eq_of_beq_eq_true ht.1,Nat.eq_of_beq_eq_true ht.2] at h2
theorem zero_ctriemake_World:zeroIs Tryz.prog 30=some (.agg ⟨[.pointer none,.int .u64 0,.slice none 0 0,.slice none 0 0]⟩):=by kernel_rfl
theorem struct_ctriemake_WorldT{t:Nat}(h:Nat.beq t 30=true):structOf Tryz.prog t [.pointer none,.int .u64 0,.slice none 0 0,.slice none 0 0]:=by rw[Nat.eq_of_beq_eq_true h];exact structOf_mk (by kernel_rfl) zero_ctriemake_World
theorem zero_api_Trie:zeroIs Tryz.prog 33=some (.agg ⟨[.int .i64 0,.bool false]⟩):=by kernel_rfl
theorem zero_api_TrieT{t:Nat}(h:Nat.beq t 33=true):zeroIs Tryz.prog t=some (.agg ⟨[.int .i64 0,.bool false]⟩):=by rw[Nat.eq_of_beq_eq_true h];exact zero_api_Trie
theorem struct_api_TrieT{t:Nat}(h:Nat.beq t 33=true):structOf Tryz.prog t [.int .i64 0,.bool false]:=by rw[Nat.eq_of_beq_eq_true h];exact structOf_mk (by kernel_rfl) zero_api_Trie
theorem zero_api_State:zeroIs Tryz.prog 41=some (.agg ⟨[.slice none 0 0,.slice none 0 0,.int .i64 0]⟩):=by kernel_rfl
theorem struct_api_StateT{t:Nat}(h:Nat.beq t 41=true):structOf Tryz.prog t [.slice none 0 0,.slice none 0 0,.int .i64 0]:=by rw[Nat.eq_of_beq_eq_true h];exact structOf_mk (by kernel_rfl) zero_api_State
theorem zero_ctrieref05_Mem:zeroIs Tryz.prog 43=some (.agg ⟨[.slice none 0 0,.slice none 0 0,.int .i64 0,.int .i64 0]⟩):=by kernel_rfl
theorem place_ctrieref05_MemT{t:Nat}(h:Nat.beq t 43=true):placeOf Tryz.prog t [(0,3),(3,1)] [.slice none 0 0,.slice none 0 0,.int .i64 0,.int .i64 0]:=by rw[Nat.eq_of_beq_eq_true h];exact placeOf_mk (by kernel_rfl) zero_ctrieref05_Mem
theorem zero_api_Pair:zeroIs Tryz.prog 47=some (.agg ⟨[.string ⟨#[]⟩,.int .u64 0]⟩):=by kernel_rfl
theorem zero_api_PairT{t:Nat}(h:Nat.beq t 47=true):zeroIs Tryz.prog t=some (.agg ⟨[.string ⟨#[]⟩,.int .u64 0]⟩):=by rw[Nat.eq_of_beq_eq_true h];exact zero_api_Pair
theorem struct_api_PairT{t:Nat}(h:Nat.beq t 47=true):structOf Tryz.prog t [.string ⟨#[]⟩,.int .u64 0]:=by rw[Nat.eq_of_beq_eq_true h];exact structOf_mk (by kernel_rfl) zero_api_Pair
theorem zero_api_Node:zeroIs Tryz.prog 59=some (.agg ⟨[.int .i64 0,.int .i64 0,.int .i64 0,.int .u64 0,.slice none 0 0,.int .u64 0,.string ⟨#[]⟩,.int .u64 0,.slice none 0 0,.int .i64 0,.int .i64 0,.int .i64 0,.int .i64 0,.int .i64 0]⟩):=by kernel_rfl
theorem zero_api_NodeT{t:Nat}(h:Nat.beq t 59=true):zeroIs Tryz.prog t=some (.agg ⟨[.int .i64 0,.int .i64 0,.int .i64 0,.int .u64 0,.slice none 0 0,.int .u64 0,.string ⟨#[]⟩,.int .u64 0,.slice none 0 0,.int .i64 0,.int .i64 0,.int .i64 0,.int .i64 0,.int .i64 0]⟩):=by rw[Nat.eq_of_beq_eq_true h];exact zero_api_Node
theorem struct_api_NodeT{t:Nat}(h:Nat.beq t 59=true):structOf Tryz.prog t [.int .i64 0,.int .i64 0,.int .i64 0,.int .u64 0,.slice none 0 0,.int .u64 0,.string ⟨#[]⟩,.int .u64 0,.slice none 0 0,.int .i64 0,.int .i64 0,.int .i64 0,.int .i64 0,.int .i64 0]:=by rw[Nat.eq_of_beq_eq_true h];exact structOf_mk (by kernel_rfl) zero_api_Node
theorem zero_api_Result:zeroIs Tryz.prog 81=some (.agg ⟨[.int .i64 0,.bool false,.int .u64 0,.string ⟨#[]⟩,.int .i64 0,.int .i64 0,.int .i64 0,.bool false]⟩):=by kernel_rfl
theorem zero_api_ResultT{t:Nat}(h:Nat.beq t 81=true):zeroIs Tryz.prog t=some (.agg ⟨[.int .i64 0,.bool false,.int .u64 0,.string ⟨#[]⟩,.int .i64 0,.int .i64 0,.int .i64 0,.bool false]⟩):=by rw[Nat.eq_of_beq_eq_true h];exact zero_api_Result
theorem place_api_ResultT{t:Nat}(h:Nat.beq t 81=true):placeOf Tryz.prog t [(0,1),(1,1),(2,1),(3,1),(4,1),(5,1),(6,2)] [.int .i64 0,.bool false,.int .u64 0,.string ⟨#[]⟩,.int .i64 0,.int .i64 0,.int .i64 0,.bool false]:=by rw[Nat.eq_of_beq_eq_true h];exact placeOf_mk (by kernel_rfl) zero_api_Result
theorem zero_ctrieref12_Call:zeroIs Tryz.prog 83=some (.agg ⟨[.int .i64 0,.int .i64 0,.bool false,.int .i64 0,.int .i64 0,.int .i64 0,.int .i64 0,.int .u64 0,.int .u64 0,.string ⟨#[]⟩,.int .u64 0,.int .u64 0,.int .i64 0,.bool false,.bool false,.slice none 0 0,.slice none 0 0,.int .i64 0,.bool false,.int .u64 0,.string ⟨#[]⟩,.int .i64 0,.int .i64 0,.int .i64 0,.bool false]⟩):=by kernel_rfl
theorem zero_ctrieref12_CallT{t:Nat}(h:Nat.beq t 83=true):zeroIs Tryz.prog t=some (.agg ⟨[.int .i64 0,.int .i64 0,.bool false,.int .i64 0,.int .i64 0,.int .i64 0,.int .i64 0,.int .u64 0,.int .u64 0,.string ⟨#[]⟩,.int .u64 0,.int .u64 0,.int .i64 0,.bool false,.bool false,.slice none 0 0,.slice none 0 0,.int .i64 0,.bool false,.int .u64 0,.string ⟨#[]⟩,.int .i64 0,.int .i64 0,.int .i64 0,.bool false]⟩):=by rw[Nat.eq_of_beq_eq_true h];exact zero_ctrieref12_Call
theorem place_ctrieref12_CallT{t:Nat}(h:Nat.beq t 83=true):placeOf Tryz.prog t [(0,1),(1,2),(3,1),(4,1),(5,1),(6,1),(7,1),(8,1),(9,1),(10,1),(11,1),(12,1),(13,1),(14,3),(17,8)] [.int .i64 0,.int .i64 0,.bool false,.int .i64 0,.int .i64 0,.int .i64 0,.int .i64 0,.int .u64 0,.int .u64 0,.string ⟨#[]⟩,.int .u64 0,.int .u64 0,.int .i64 0,.bool false,.bool false,.slice none 0 0,.slice none 0 0,.int .i64 0,.bool false,.int .u64 0,.string ⟨#[]⟩,.int .i64 0,.int .i64 0,.int .i64 0,.bool false]:=by rw[Nat.eq_of_beq_eq_true h];exact placeOf_mk (by kernel_rfl) zero_ctrieref12_Call
theorem zero_view_traversal:zeroIs Tryz.prog 93=some (.agg ⟨[.slice none 0 0,.slice none 0 0,.int .i64 0,.slice none 0 0,.slice none 0 0,.slice none 0 0]⟩):=by kernel_rfl
theorem place_view_traversalT{t:Nat}(h:Nat.beq t 93=true):placeOf Tryz.prog t [(0,3),(3,1),(4,1),(5,1)] [.slice none 0 0,.slice none 0 0,.int .i64 0,.slice none 0 0,.slice none 0 0,.slice none 0 0]:=by rw[Nat.eq_of_beq_eq_true h];exact placeOf_mk (by kernel_rfl) zero_view_traversal
theorem zero_ctriemake_Tape:zeroIs Tryz.prog 99=some (.agg ⟨[.slice none 0 0,.int .i64 0]⟩):=by kernel_rfl
theorem struct_ctriemake_TapeT{t:Nat}(h:Nat.beq t 99=true):structOf Tryz.prog t [.slice none 0 0,.int .i64 0]:=by rw[Nat.eq_of_beq_eq_true h];exact structOf_mk (by kernel_rfl) zero_ctriemake_Tape
theorem zero_api_Access:zeroIs Tryz.prog 111=some (.agg ⟨[.int .i64 0,.int .i64 0,.int .i64 0,.int .i64 0]⟩):=by kernel_rfl
theorem struct_api_AccessT{t:Nat}(h:Nat.beq t 111=true):structOf Tryz.prog t [.int .i64 0,.int .i64 0,.int .i64 0,.int .i64 0]:=by rw[Nat.eq_of_beq_eq_true h];exact structOf_mk (by kernel_rfl) zero_api_Access
theorem zero_ctrieref12_Exec:zeroIs Tryz.prog 113=some (.agg ⟨[.pointer none,.int .i64 0,.int .i64 0,.bool false,.int .i64 0,.int .i64 0,.int .i64 0,.int .i64 0,.int .u64 0,.int .u64 0,.string ⟨#[]⟩,.int .u64 0,.int .u64 0,.int .i64 0,.bool false,.bool false,.slice none 0 0,.slice none 0 0,.int .i64 0,.bool false,.int .u64 0,.string ⟨#[]⟩,.int .i64 0,.int .i64 0,.int .i64 0,.bool false,.slice none 0 0,.slice none 0 0,.slice none 0 0,.slice none 0 0,.int .i64 0,.int .i64 0,.int .i64 0,.int .i64 0,.int .i64 0,.bool false,.int .i64 0,.int .i64 0,.int .i64 0,.int .i64 0,.bool false,.int .i64 0,.bool false,.int .u64 0,.string ⟨#[]⟩,.int .i64 0,.int .i64 0,.int .i64 0,.bool false,.bool false,.slice none 0 0,.slice none 0 0]⟩):=by kernel_rfl
theorem place_ctrieref12_ExecT{t:Nat}(h:Nat.beq t 113=true):placeOf Tryz.prog t [(0,1),(1,25),(26,1),(27,1),(28,1),(29,1),(30,1),(31,1),(32,1),(33,1),(34,1),(35,1),(36,4),(40,1),(41,8),(49,3)] [.pointer none,.int .i64 0,.int .i64 0,.bool false,.int .i64 0,.int .i64 0,.int .i64 0,.int .i64 0,.int .u64 0,.int .u64 0,.string ⟨#[]⟩,.int .u64 0,.int .u64 0,.int .i64 0,.bool false,.bool false,.slice none 0 0,.slice none 0 0,.int .i64 0,.bool false,.int .u64 0,.string ⟨#[]⟩,.int .i64 0,.int .i64 0,.int .i64 0,.bool false,.slice none 0 0,.slice none 0 0,.slice none 0 0,.slice none 0 0,.int .i64 0,.int .i64 0,.int .i64 0,.int .i64 0,.int .i64 0,.bool false,.int .i64 0,.int .i64 0,.int .i64 0,.int .i64 0,.bool false,.int .i64 0,.bool false,.int .u64 0,.string ⟨#[]⟩,.int .i64 0,.int .i64 0,.int .i64 0,.bool false,.bool false,.slice none 0 0,.slice none 0 0]:=by rw[Nat.eq_of_beq_eq_true h];exact placeOf_mk (by kernel_rfl) zero_ctrieref12_Exec
theorem zero_arena_Arena:zeroIs Tryz.prog 128=some (.agg ⟨[.slice none 0 0,.slice none 0 0,.int .i64 0,.int .i64 0]⟩):=by kernel_rfl
theorem struct_arena_ArenaT{t:Nat}(h:Nat.beq t 128=true):structOf Tryz.prog t [.slice none 0 0,.slice none 0 0,.int .i64 0,.int .i64 0]:=by rw[Nat.eq_of_beq_eq_true h];exact structOf_mk (by kernel_rfl) zero_arena_Arena
def tabF:List (Nat×Nat):=[(30,0),(30,1),(30,2),(30,3),(33,0),(33,1),(41,0),(41,1),(41,2),(43,0),(47,0),(47,1),(54,0),(54,1),(54,2),(54,3),(54,4),(59,0),(59,1),(59,2),(59,3),(59,4),(59,5),(59,6),(59,7),(59,8),(59,9),(59,10),(59,11),(59,12),(59,13),(79,0),(79,1),(79,2),(81,0),(81,1),(81,2),(81,3),(81,4),(81,5),(81,6),(83,0),(83,1),(93,0),(99,0),(99,1),(111,0),(111,1),(111,2),(111,3),(113,0),(113,1),(128,0),(128,1),(128,2),(128,3),(172,0),(172,1)]
theorem fld_ok:(tabF.all λ p=>fieldIs Tryz.prog p.1 p.2==some p.2)=true:=by kernel_rfl
theorem fld_of{t k:Nat}(h:(tabF.any λ p=>Nat.beq p.1 t&&Nat.beq p.2 k)=true):fieldIs Tryz.prog t k=some k:=by
 obtain⟨p,hp,ht⟩:=List.any_eq_true.1 h
 simp only[Bool.and_eq_true] at ht
 have h2:=eq_of_beq (List.all_eq_true.1 fld_ok p hp)
 rwa [Nat.eq_of_beq_eq_true ht.1,Nat.eq_of_beq_eq_true ht.2] at h2
def tabF1:List (Nat×Nat):=[(30,0),(30,1),(30,2),(30,3),(33,0),(33,1),(41,0),(41,1),(41,2),(47,0),(47,1),(54,0),(54,1),(54,2),(54,3),(54,4),(59,0),(59,1),(59,2),(59,3),(59,4),(59,5),(59,6),(59,7),(59,8),(59,9),(59,10),(59,11),(59,12),(59,13),(79,0),(79,1),(79,2),(81,0),(81,1),(81,2),(81,3),(81,4),(81,5),(83,0),(99,0),(99,1),(111,0),(111,1),(111,2),(111,3),(113,0),(128,0),(128,1),(128,2),(128,3),(172,0),(172,1)]
theorem fld1_ok:(tabF1.all λ p=>fieldOne Tryz.prog p.1 p.2==some p.2)=true:=by kernel_rfl
theorem fld1_of{t k:Nat}(h:(tabF1.any λ p=>Nat.beq p.1 t&&Nat.beq p.2 k)=true):fieldOne Tryz.prog t k=some k:=by
 obtain⟨p,hp,ht⟩:=List.any_eq_true.1 h
 simp only[Bool.and_eq_true] at ht
 have h2:=eq_of_beq (List.all_eq_true.1 fld1_ok p hp)
 rwa [Nat.eq_of_beq_eq_true ht.1,Nat.eq_of_beq_eq_true ht.2] at h2
theorem fld_ctrieref05_Mem_1{t k:Nat}(h:(Nat.beq t 43&&Nat.beq k 1)=true):fieldIs Tryz.prog t k=some 3:=by simp only[Bool.and_eq_true] at h;rw[Nat.eq_of_beq_eq_true h.1,Nat.eq_of_beq_eq_true h.2];kernel_rfl
theorem fld_ctrieref12_Call_2{t k:Nat}(h:(Nat.beq t 83&&Nat.beq k 2)=true):fieldIs Tryz.prog t k=some 3:=by simp only[Bool.and_eq_true] at h;rw[Nat.eq_of_beq_eq_true h.1,Nat.eq_of_beq_eq_true h.2];kernel_rfl
theorem fld_ctrieref12_Call_3{t k:Nat}(h:(Nat.beq t 83&&Nat.beq k 3)=true):fieldIs Tryz.prog t k=some 4:=by simp only[Bool.and_eq_true] at h;rw[Nat.eq_of_beq_eq_true h.1,Nat.eq_of_beq_eq_true h.2];kernel_rfl
theorem fld_ctrieref12_Call_4{t k:Nat}(h:(Nat.beq t 83&&Nat.beq k 4)=true):fieldIs Tryz.prog t k=some 5:=by simp only[Bool.and_eq_true] at h;rw[Nat.eq_of_beq_eq_true h.1,Nat.eq_of_beq_eq_true h.2];kernel_rfl
theorem fld_ctrieref12_Call_7{t k:Nat}(h:(Nat.beq t 83&&Nat.beq k 7)=true):fieldIs Tryz.prog t k=some 8:=by simp only[Bool.and_eq_true] at h;rw[Nat.eq_of_beq_eq_true h.1,Nat.eq_of_beq_eq_true h.2];kernel_rfl
theorem fld_ctrieref12_Call_8{t k:Nat}(h:(Nat.beq t 83&&Nat.beq k 8)=true):fieldIs Tryz.prog t k=some 9:=by simp only[Bool.and_eq_true] at h;rw[Nat.eq_of_beq_eq_true h.1,Nat.eq_of_beq_eq_true h.2];kernel_rfl
theorem fld_ctrieref12_Call_9{t k:Nat}(h:(Nat.beq t 83&&Nat.beq k 9)=true):fieldIs Tryz.prog t k=some 10:=by simp only[Bool.and_eq_true] at h;rw[Nat.eq_of_beq_eq_true h.1,Nat.eq_of_beq_eq_true h.2];kernel_rfl
theorem fld_ctrieref12_Call_10{t k:Nat}(h:(Nat.beq t 83&&Nat.beq k 10)=true):fieldIs Tryz.prog t k=some 11:=by simp only[Bool.and_eq_true] at h;rw[Nat.eq_of_beq_eq_true h.1,Nat.eq_of_beq_eq_true h.2];kernel_rfl
theorem fld_ctrieref12_Call_11{t k:Nat}(h:(Nat.beq t 83&&Nat.beq k 11)=true):fieldIs Tryz.prog t k=some 12:=by simp only[Bool.and_eq_true] at h;rw[Nat.eq_of_beq_eq_true h.1,Nat.eq_of_beq_eq_true h.2];kernel_rfl
theorem fld_ctrieref12_Call_12{t k:Nat}(h:(Nat.beq t 83&&Nat.beq k 12)=true):fieldIs Tryz.prog t k=some 13:=by simp only[Bool.and_eq_true] at h;rw[Nat.eq_of_beq_eq_true h.1,Nat.eq_of_beq_eq_true h.2];kernel_rfl
theorem fld_view_traversal_1{t k:Nat}(h:(Nat.beq t 93&&Nat.beq k 1)=true):fieldIs Tryz.prog t k=some 3:=by simp only[Bool.and_eq_true] at h;rw[Nat.eq_of_beq_eq_true h.1,Nat.eq_of_beq_eq_true h.2];kernel_rfl
theorem fld_view_traversal_2{t k:Nat}(h:(Nat.beq t 93&&Nat.beq k 2)=true):fieldIs Tryz.prog t k=some 4:=by simp only[Bool.and_eq_true] at h;rw[Nat.eq_of_beq_eq_true h.1,Nat.eq_of_beq_eq_true h.2];kernel_rfl
theorem fld_view_traversal_3{t k:Nat}(h:(Nat.beq t 93&&Nat.beq k 3)=true):fieldIs Tryz.prog t k=some 5:=by simp only[Bool.and_eq_true] at h;rw[Nat.eq_of_beq_eq_true h.1,Nat.eq_of_beq_eq_true h.2];kernel_rfl
theorem fld_ctrieref12_Exec_2{t k:Nat}(h:(Nat.beq t 113&&Nat.beq k 2)=true):fieldIs Tryz.prog t k=some 26:=by simp only[Bool.and_eq_true] at h;rw[Nat.eq_of_beq_eq_true h.1,Nat.eq_of_beq_eq_true h.2];kernel_rfl
theorem fld_ctrieref12_Exec_3{t k:Nat}(h:(Nat.beq t 113&&Nat.beq k 3)=true):fieldIs Tryz.prog t k=some 27:=by simp only[Bool.and_eq_true] at h;rw[Nat.eq_of_beq_eq_true h.1,Nat.eq_of_beq_eq_true h.2];kernel_rfl
theorem fld_ctrieref12_Exec_4{t k:Nat}(h:(Nat.beq t 113&&Nat.beq k 4)=true):fieldIs Tryz.prog t k=some 28:=by simp only[Bool.and_eq_true] at h;rw[Nat.eq_of_beq_eq_true h.1,Nat.eq_of_beq_eq_true h.2];kernel_rfl
theorem fld_ctrieref12_Exec_5{t k:Nat}(h:(Nat.beq t 113&&Nat.beq k 5)=true):fieldIs Tryz.prog t k=some 29:=by simp only[Bool.and_eq_true] at h;rw[Nat.eq_of_beq_eq_true h.1,Nat.eq_of_beq_eq_true h.2];kernel_rfl
theorem fld_ctrieref12_Exec_6{t k:Nat}(h:(Nat.beq t 113&&Nat.beq k 6)=true):fieldIs Tryz.prog t k=some 30:=by simp only[Bool.and_eq_true] at h;rw[Nat.eq_of_beq_eq_true h.1,Nat.eq_of_beq_eq_true h.2];kernel_rfl
theorem fld_ctrieref12_Exec_7{t k:Nat}(h:(Nat.beq t 113&&Nat.beq k 7)=true):fieldIs Tryz.prog t k=some 31:=by simp only[Bool.and_eq_true] at h;rw[Nat.eq_of_beq_eq_true h.1,Nat.eq_of_beq_eq_true h.2];kernel_rfl
theorem fld_ctrieref12_Exec_8{t k:Nat}(h:(Nat.beq t 113&&Nat.beq k 8)=true):fieldIs Tryz.prog t k=some 32:=by simp only[Bool.and_eq_true] at h;rw[Nat.eq_of_beq_eq_true h.1,Nat.eq_of_beq_eq_true h.2];kernel_rfl
theorem fld_ctrieref12_Exec_9{t k:Nat}(h:(Nat.beq t 113&&Nat.beq k 9)=true):fieldIs Tryz.prog t k=some 33:=by simp only[Bool.and_eq_true] at h;rw[Nat.eq_of_beq_eq_true h.1,Nat.eq_of_beq_eq_true h.2];kernel_rfl
theorem fld_ctrieref12_Exec_10{t k:Nat}(h:(Nat.beq t 113&&Nat.beq k 10)=true):fieldIs Tryz.prog t k=some 34:=by simp only[Bool.and_eq_true] at h;rw[Nat.eq_of_beq_eq_true h.1,Nat.eq_of_beq_eq_true h.2];kernel_rfl
theorem fld_ctrieref12_Exec_11{t k:Nat}(h:(Nat.beq t 113&&Nat.beq k 11)=true):fieldIs Tryz.prog t k=some 35:=by simp only[Bool.and_eq_true] at h;rw[Nat.eq_of_beq_eq_true h.1,Nat.eq_of_beq_eq_true h.2];kernel_rfl
theorem fld_ctrieref12_Exec_12{t k:Nat}(h:(Nat.beq t 113&&Nat.beq k 12)=true):fieldIs Tryz.prog t k=some 36:=by simp only[Bool.and_eq_true] at h;rw[Nat.eq_of_beq_eq_true h.1,Nat.eq_of_beq_eq_true h.2];kernel_rfl
theorem fld_ctrieref12_Exec_13{t k:Nat}(h:(Nat.beq t 113&&Nat.beq k 13)=true):fieldIs Tryz.prog t k=some 40:=by simp only[Bool.and_eq_true] at h;rw[Nat.eq_of_beq_eq_true h.1,Nat.eq_of_beq_eq_true h.2];kernel_rfl
theorem fld_ctrieref12_Exec_14{t k:Nat}(h:(Nat.beq t 113&&Nat.beq k 14)=true):fieldIs Tryz.prog t k=some 41:=by simp only[Bool.and_eq_true] at h;rw[Nat.eq_of_beq_eq_true h.1,Nat.eq_of_beq_eq_true h.2];kernel_rfl
def tabSl:List (Nat×Nat):=[(22,3),(27,33),(28,86),(34,47),(38,59),(39,52),(77,172),(91,4),(100,54),(104,26),(109,31),(123,9)]
def elemT(t:Nat):Nat:=(tabSl.lookup t).getD 0
theorem sl_ok:(tabSl.all λ p=>(match Tryz.prog.underlying p.1 with|some (.slice e)=>Nat.beq e p.2&&Nat.beq (elemT p.1) p.2|_=>false))=true:=by kernel_rfl
theorem sl_of{t:Nat}(h:(tabSl.any λ p=>Nat.beq p.1 t)=true):Tryz.prog.underlying t=some (.slice (elemT t)):=by
 obtain⟨p,hp,ht⟩:=List.any_eq_true.1 h
 have h2:=List.all_eq_true.1 sl_ok p hp
 rw[<- Nat.eq_of_beq_eq_true ht]
 cases hu:Tryz.prog.underlying p.1 with
 | none=>rw[hu] at h2;simp at h2
 | some d =>
  rw[hu] at h2
  cases d<;>simp only[Bool.false_eq_true] at h2
  simp only[Bool.and_eq_true] at h2
  rw[Nat.eq_of_beq_eq_true h2.1,Nat.eq_of_beq_eq_true h2.2]
def tabE:List (Nat×Nat):=[(3,1),(4,1),(9,1),(26,1),(31,1),(33,2),(47,2),(52,1),(54,5),(59,14),(86,1),(172,2)]
theorem szE_ok:(tabE.all λ p=>(Tryz.prog.info? p.1).map (·.size)==some p.2)=true:=by kernel_rfl
theorem sz_of{e s:Nat}(h:(tabE.any λ p=>Nat.beq p.1 e&&Nat.beq p.2 s)=true):(Tryz.prog.info? e).map (·.size)=some s:=by
 obtain⟨p,hp,ht⟩:=List.any_eq_true.1 h
 simp only[Bool.and_eq_true] at ht
 have h2:=List.all_eq_true.1 szE_ok p hp
 rw[<- Nat.eq_of_beq_eq_true ht.1,<- Nat.eq_of_beq_eq_true ht.2]
 exact eq_of_beq h2
theorem str_of{t:Nat}(h:Nat.beq t 9=true):Tryz.prog.underlying t=some .string:=by
 rw[Nat.eq_of_beq_eq_true h];kernel_rfl
theorem pair_of{t:Nat}(h:Nat.beq t 47=true):pairIs Tryz.prog t=true:=by
 rw[Nat.eq_of_beq_eq_true h];kernel_rfl
def tabI:List (Nat×IntKind):=[(2,.i64),(3,.i64),(5,.u8),(12,.u64),(21,.i32),(26,.u64),(31,.i64),(35,.i64),(52,.i64),(173,.u64),(198,.u32)]
theorem int_ok:(tabI.all λ p=>intIs Tryz.prog p.1 p.2)=true:=by kernel_rfl
theorem int_of{t:Nat}{k:IntKind}(h:(tabI.any λ p=>Nat.beq p.1 t&&p.2==k)=true):intIs Tryz.prog t k=true:=by
 obtain⟨p,hp,ht⟩:=List.any_eq_true.1 h
 simp only[Bool.and_eq_true] at ht
 have h2:=List.all_eq_true.1 int_ok p hp
 rw[Nat.eq_of_beq_eq_true ht.1,eq_of_beq ht.2] at h2
 exact h2
def elemB(P:Program)(t e s:Nat):Bool :=
 (match P.underlying t with|some (.slice e')=>Nat.beq e' e|_=>false)&&(match P.info? e with
  | some i=>Nat.beq i.size s&&Nat.ble i.bytes 256
  | none=>false)
theorem elem_mk{P:Program}{t e:Nat}{z:Value}{zc:List Value}(h:elemB P t e zc.length=true)(hz:zeroIs P e=some z)(hzc:z.cells=⟨zc⟩):ElemIs P t e zc:=by
 unfold elemB at h
 simp only[Bool.and_eq_true] at h
 refine⟨?_,?_⟩
 ·cases hu:P.underlying t with
  | none=>simp[hu] at h
  | some d =>
   rw[hu] at h
   cases d<;>simp only[Bool.false_eq_true,false_and] at h
   rw[Nat.eq_of_beq_eq_true h.1]
 ·cases hi:P.info? e with
  | none=>simp[hi] at h
  | some i =>
   rw[hi] at h
   simp only[Bool.and_eq_true] at h
   exact⟨i,z,rfl,by simpa[zeroIs,hi] using hz,hzc,Nat.eq_of_beq_eq_true h.2.1,Nat.le_of_ble_eq_true h.2.2⟩
theorem zeroE_int:zeroIs Tryz.prog 3=some (.int .i64 0):=by kernel_rfl
theorem elem_int:ElemIs Tryz.prog 22 3 [.int .i64 0]:=elem_mk (by kernel_rfl) zeroE_int rfl
theorem elem_intT{t:Nat}(h:Nat.beq t 22=true):ElemIs Tryz.prog t 3 [.int .i64 0]:=by rw[Nat.eq_of_beq_eq_true h];exact elem_int
theorem zeroE_pair:zeroIs Tryz.prog 47=some (.agg ⟨[.string ⟨#[]⟩,.int .u64 0]⟩):=by kernel_rfl
theorem elem_pair:ElemIs Tryz.prog 34 47 [.string ⟨#[]⟩,.int .u64 0]:=elem_mk (by kernel_rfl) zeroE_pair rfl
theorem elem_pairT{t:Nat}(h:Nat.beq t 34=true):ElemIs Tryz.prog t 47 [.string ⟨#[]⟩,.int .u64 0]:=by rw[Nat.eq_of_beq_eq_true h];exact elem_pair
def zNode:List Value:=[.int .i64 0,.int .i64 0,.int .i64 0,.int .u64 0,.slice none 0 0,.int .u64 0,.string ⟨#[]⟩,.int .u64 0,.slice none 0 0,.int .i64 0,.int .i64 0,.int .i64 0,.int .i64 0,.int .i64 0]
theorem zeroE_node:zeroIs Tryz.prog 59=some (.agg ⟨[.int .i64 0,.int .i64 0,.int .i64 0,.int .u64 0,.slice none 0 0,.int .u64 0,.string ⟨#[]⟩,.int .u64 0,.slice none 0 0,.int .i64 0,.int .i64 0,.int .i64 0,.int .i64 0,.int .i64 0]⟩):=by kernel_rfl
theorem elem_node:ElemIs Tryz.prog 38 59 zNode:=elem_mk (by kernel_rfl) zeroE_node rfl
theorem elem_nodeT{t:Nat}(h:Nat.beq t 38=true):ElemIs Tryz.prog t 59 zNode:=by rw[Nat.eq_of_beq_eq_true h];exact elem_node
theorem zeroE_ref:zeroIs Tryz.prog 52=some (.int .i64 0):=by kernel_rfl
theorem elem_ref:ElemIs Tryz.prog 39 52 [.int .i64 0]:=elem_mk (by kernel_rfl) zeroE_ref rfl
theorem elem_refT{t:Nat}(h:Nat.beq t 39=true):ElemIs Tryz.prog t 52 [.int .i64 0]:=by rw[Nat.eq_of_beq_eq_true h];exact elem_ref
theorem zeroE_bool:zeroIs Tryz.prog 4=some (.bool false):=by kernel_rfl
theorem elem_bool:ElemIs Tryz.prog 91 4 [.bool false]:=elem_mk (by kernel_rfl) zeroE_bool rfl
theorem elem_boolT{t:Nat}(h:Nat.beq t 91=true):ElemIs Tryz.prog t 4 [.bool false]:=by rw[Nat.eq_of_beq_eq_true h];exact elem_bool
theorem zeroE_str:zeroIs Tryz.prog 9=some (.string ⟨#[]⟩):=by kernel_rfl
theorem elem_str:ElemIs Tryz.prog 123 9 [.string ⟨#[]⟩]:=elem_mk (by kernel_rfl) zeroE_str rfl
theorem elem_strT{t:Nat}(h:Nat.beq t 123=true):ElemIs Tryz.prog t 9 [.string ⟨#[]⟩]:=by rw[Nat.eq_of_beq_eq_true h];exact elem_str
end Go.Proofs.YtpobgmdalcpomaaGreat
