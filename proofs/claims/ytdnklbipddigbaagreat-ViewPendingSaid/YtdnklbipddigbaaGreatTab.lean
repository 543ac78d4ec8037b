/- Merged. -/
import Derived.Test.YtdnklbipddigbaaGreatGLst3
import Derived.Test.YtdnklbipddigbaaGreatProg
set_option linter.unusedSimpArgs false
set_option linter.unusedVariables false
namespace Go.Proofs.YtdnklbipddigbaaGreat
open Go.Proofs.Tryz (prog)
open Go.RowKit Go.Ct
def tab1:List Nat:=[2,3,4,5,9,12,15,16,17,20,21,22,23,24,26,28,33,36,37,38,42,43,50,60,63,66,74,76,84,95,112,113,119,120,138,141,147,151,156,172,194,252,256]
theorem one_ok:(tab1.all λ t=>one prog t)=true:=by kernel_rfl
theorem one_of{t:Nat}(h:tab1.elem t=true):one prog t=true:=List.all_eq_true.1 one_ok t (List.mem_of_elem_eq_true h)
def tabS:List (Nat×Nat):=[(30,5),(35,2),(40,4),(45,14),(52,3),(54,4),(68,8),(78,3),(80,25),(87,2),(94,2),(106,2),(115,3),(118,4),(122,14),(129,4),(131,17),(144,5),(149,52),(161,6),(228,2)]
theorem agg_ok:(tabS.all λ p=>aggOf prog p.1 p.2)=true:=by kernel_rfl
theorem agg_of{t k:Nat}(h:(tabS.any λ p=>Nat.beq p.1 t&&Nat.beq p.2 k)=true):aggOf prog t k=true:=by obtain⟨p,hp,ht⟩:=List.any_eq_true.1 h;simp only[Bool.and_eq_true] at ht;have h2:=List.all_eq_true.1 agg_ok p hp;rwa [nbe ht.1,nbe ht.2] at h2
theorem zero_ctrieref09_Place:zeroIs prog 30=some (.agg ⟨[.int .i64 0,.int .i64 0,.int .i64 0,.int .i64 0,.slice none 0 0]⟩):=by kernel_rfl
theorem zero_ctrieref09_PlaceT{t:Nat}(h:Nat.beq t 30=true):zeroIs prog t=some (.agg ⟨[.int .i64 0,.int .i64 0,.int .i64 0,.int .i64 0,.slice none 0 0]⟩):=by rw[nbe h];exact zero_ctrieref09_Place
theorem struct_ctrieref09_PlaceT{t:Nat}(h:Nat.beq t 30=true):structOf prog t [.int .i64 0,.int .i64 0,.int .i64 0,.int .i64 0,.slice none 0 0]:=by rw[nbe h];exact structOf_mk (by kernel_rfl) zero_ctrieref09_Place
theorem zero_api_Trie:zeroIs prog 35=some (.agg ⟨[.int .i64 0,.bool false]⟩):=by kernel_rfl
theorem zero_api_TrieT{t:Nat}(h:Nat.beq t 35=true):zeroIs prog t=some (.agg ⟨[.int .i64 0,.bool false]⟩):=by rw[nbe h];exact zero_api_Trie
theorem struct_api_TrieT{t:Nat}(h:Nat.beq t 35=true):structOf prog t [.int .i64 0,.bool false]:=by rw[nbe h];exact structOf_mk (by kernel_rfl) zero_api_Trie
theorem zero_ctriemake_World:zeroIs prog 40=some (.agg ⟨[.pointer none,.int .u64 0,.slice none 0 0,.slice none 0 0]⟩):=by kernel_rfl
theorem struct_ctriemake_WorldT{t:Nat}(h:Nat.beq t 40=true):structOf prog t [.pointer none,.int .u64 0,.slice none 0 0,.slice none 0 0]:=by rw[nbe h];exact structOf_mk (by kernel_rfl) zero_ctriemake_World
theorem zero_api_Node:zeroIs prog 45=some (.agg ⟨[.int .i64 0,.int .i64 0,.int .i64 0,.int .u64 0,.slice none 0 0,.int .u64 0,.string ⟨#[]⟩,.int .u64 0,.slice none 0 0,.int .i64 0,.int .i64 0,.int .i64 0,.int .i64 0,.int .i64 0]⟩):=by kernel_rfl
theorem zero_api_NodeT{t:Nat}(h:Nat.beq t 45=true):zeroIs prog t=some (.agg ⟨[.int .i64 0,.int .i64 0,.int .i64 0,.int .u64 0,.slice none 0 0,.int .u64 0,.string ⟨#[]⟩,.int .u64 0,.slice none 0 0,.int .i64 0,.int .i64 0,.int .i64 0,.int .i64 0,.int .i64 0]⟩):=by rw[nbe h];exact zero_api_Node
theorem struct_api_NodeT{t:Nat}(h:Nat.beq t 45=true):structOf prog t [.int .i64 0,.int .i64 0,.int .i64 0,.int .u64 0,.slice none 0 0,.int .u64 0,.string ⟨#[]⟩,.int .u64 0,.slice none 0 0,.int .i64 0,.int .i64 0,.int .i64 0,.int .i64 0,.int .i64 0]:=by rw[nbe h];exact structOf_mk (by kernel_rfl) zero_api_Node
theorem zero_api_State:zeroIs prog 52=some (.agg ⟨[.slice none 0 0,.slice none 0 0,.int .i64 0]⟩):=by kernel_rfl
theorem struct_api_StateT{t:Nat}(h:Nat.beq t 52=true):structOf prog t [.slice none 0 0,.slice none 0 0,.int .i64 0]:=by rw[nbe h];exact structOf_mk (by kernel_rfl) zero_api_State
theorem zero_ctrieref05_Mem:zeroIs prog 54=some (.agg ⟨[.slice none 0 0,.slice none 0 0,.int .i64 0,.int .i64 0]⟩):=by kernel_rfl
theorem place_ctrieref05_MemT{t:Nat}(h:Nat.beq t 54=true):placeOf prog t [(0,3),(3,1)] [.slice none 0 0,.slice none 0 0,.int .i64 0,.int .i64 0]:=by rw[nbe h];exact placeOf_mk (by kernel_rfl) zero_ctrieref05_Mem
theorem zero_api_Result:zeroIs prog 68=some (.agg ⟨[.int .i64 0,.bool false,.int .u64 0,.string ⟨#[]⟩,.int .i64 0,.int .i64 0,.int .i64 0,.bool false]⟩):=by kernel_rfl
theorem zero_api_ResultT{t:Nat}(h:Nat.beq t 68=true):zeroIs prog t=some (.agg ⟨[.int .i64 0,.bool false,.int .u64 0,.string ⟨#[]⟩,.int .i64 0,.int .i64 0,.int .i64 0,.bool false]⟩):=by rw[nbe h];exact zero_api_Result
theorem place_api_ResultT{t:Nat}(h:Nat.beq t 68=true):placeOf prog t [(0,1),(1,1),(2,1),(3,1),(4,1),(5,1),(6,2)] [.int .i64 0,.bool false,.int .u64 0,.string ⟨#[]⟩,.int .i64 0,.int .i64 0,.int .i64 0,.bool false]:=by rw[nbe h];exact placeOf_mk (by kernel_rfl) zero_api_Result
theorem zero_ctrieref12_Call:zeroIs prog 80=some (.agg ⟨[.int .i64 0,.int .i64 0,.bool false,.int .i64 0,.int .i64 0,.int .i64 0,.int .i64 0,.int .u64 0,.int .u64 0,.string ⟨#[]⟩,.int .u64 0,.int .u64 0,.int .i64 0,.bool false,.bool false,.slice none 0 0,.slice none 0 0,.int .i64 0,.bool false,.int .u64 0,.string ⟨#[]⟩,.int .i64 0,.int .i64 0,.int .i64 0,.bool false]⟩):=by kernel_rfl
theorem zero_ctrieref12_CallT{t:Nat}(h:Nat.beq t 80=true):zeroIs prog t=some (.agg ⟨[.int .i64 0,.int .i64 0,.bool false,.int .i64 0,.int .i64 0,.int .i64 0,.int .i64 0,.int .u64 0,.int .u64 0,.string ⟨#[]⟩,.int .u64 0,.int .u64 0,.int .i64 0,.bool false,.bool false,.slice none 0 0,.slice none 0 0,.int .i64 0,.bool false,.int .u64 0,.string ⟨#[]⟩,.int .i64 0,.int .i64 0,.int .i64 0,.bool false]⟩):=by rw[nbe h];exact zero_ctrieref12_Call
theorem place_ctrieref12_CallT{t:Nat}(h:Nat.beq t 80=true):placeOf prog t [(0,1),(1,2),(3,1),(4,1),(5,1),(6,1),(7,1),(8,1),(9,1),(10,1),(11,1),(12,1),(13,1),(14,3),(17,8)] [.int .i64 0,.int .i64 0,.bool false,.int .i64 0,.int .i64 0,.int .i64 0,.int .i64 0,.int .u64 0,.int .u64 0,.string ⟨#[]⟩,.int .u64 0,.int .u64 0,.int .i64 0,.bool false,.bool false,.slice none 0 0,.slice none 0 0,.int .i64 0,.bool false,.int .u64 0,.string ⟨#[]⟩,.int .i64 0,.int .i64 0,.int .i64 0,.bool false]:=by rw[nbe h];exact placeOf_mk (by kernel_rfl) zero_ctrieref12_Call
theorem zero_ctriemake_Tape:zeroIs prog 94=some (.agg ⟨[.slice none 0 0,.int .i64 0]⟩):=by kernel_rfl
theorem struct_ctriemake_TapeT{t:Nat}(h:Nat.beq t 94=true):structOf prog t [.slice none 0 0,.int .i64 0]:=by rw[nbe h];exact structOf_mk (by kernel_rfl) zero_ctriemake_Tape
theorem zero_api_Pair:zeroIs prog 106=some (.agg ⟨[.string ⟨#[]⟩,.int .u64 0]⟩):=by kernel_rfl
theorem zero_api_PairT{t:Nat}(h:Nat.beq t 106=true):zeroIs prog t=some (.agg ⟨[.string ⟨#[]⟩,.int .u64 0]⟩):=by rw[nbe h];exact zero_api_Pair
theorem struct_api_PairT{t:Nat}(h:Nat.beq t 106=true):structOf prog t [.string ⟨#[]⟩,.int .u64 0]:=by rw[nbe h];exact structOf_mk (by kernel_rfl) zero_api_Pair
theorem zero_api_Access:zeroIs prog 118=some (.agg ⟨[.int .i64 0,.int .i64 0,.int .i64 0,.int .i64 0]⟩):=by kernel_rfl
theorem struct_api_AccessT{t:Nat}(h:Nat.beq t 118=true):structOf prog t [.int .i64 0,.int .i64 0,.int .i64 0,.int .i64 0]:=by rw[nbe h];exact structOf_mk (by kernel_rfl) zero_api_Access
theorem zero_arena_Arena:zeroIs prog 129=some (.agg ⟨[.slice none 0 0,.slice none 0 0,.int .i64 0,.int .i64 0]⟩):=by kernel_rfl
theorem struct_arena_ArenaT{t:Nat}(h:Nat.beq t 129=true):structOf prog t [.slice none 0 0,.slice none 0 0,.int .i64 0,.int .i64 0]:=by rw[nbe h];exact structOf_mk (by kernel_rfl) zero_arena_Arena
theorem zero_ctrieref12_Exec:zeroIs prog 149=some (.agg ⟨[.pointer none,.int .i64 0,.int .i64 0,.bool false,.int .i64 0,.int .i64 0,.int .i64 0,.int .i64 0,.int .u64 0,.int .u64 0,.string ⟨#[]⟩,.int .u64 0,.int .u64 0,.int .i64 0,.bool false,.bool false,.slice none 0 0,.slice none 0 0,.int .i64 0,.bool false,.int .u64 0,.string ⟨#[]⟩,.int .i64 0,.int .i64 0,.int .i64 0,.bool false,.slice none 0 0,.slice none 0 0,.slice none 0 0,.slice none 0 0,.int .i64 0,.int .i64 0,.int .i64 0,.int .i64 0,.int .i64 0,.bool false,.int .i64 0,.int .i64 0,.int .i64 0,.int .i64 0,.bool false,.int .i64 0,.bool false,.int .u64 0,.string ⟨#[]⟩,.int .i64 0,.int .i64 0,.int .i64 0,.bool false,.bool false,.slice none 0 0,.slice none 0 0]⟩):=by kernel_rfl
theorem place_ctrieref12_ExecT{t:Nat}(h:Nat.beq t 149=true):placeOf prog t [(0,1),(1,25),(26,1),(27,1),(28,1),(29,1),(30,1),(31,1),(32,1),(33,1),(34,1),(35,1),(36,4),(40,1),(41,8),(49,3)] [.pointer none,.int .i64 0,.int .i64 0,.bool false,.int .i64 0,.int .i64 0,.int .i64 0,.int .i64 0,.int .u64 0,.int .u64 0,.string ⟨#[]⟩,.int .u64 0,.int .u64 0,.int .i64 0,.bool false,.bool false,.slice none 0 0,.slice none 0 0,.int .i64 0,.bool false,.int .u64 0,.string ⟨#[]⟩,.int .i64 0,.int .i64 0,.int .i64 0,.bool false,.slice none 0 0,.slice none 0 0,.slice none 0 0,.slice none 0 0,.int .i64 0,.int .i64 0,.int .i64 0,.int .i64 0,.int .i64 0,.bool false,.int .i64 0,.int .i64 0,.int .i64 0,.int .i64 0,.bool false,.int .i64 0,.bool false,.int .u64 0,.string ⟨#[]⟩,.int .i64 0,.int .i64 0,.int .i64 0,.bool false,.bool false,.slice none 0 0,.slice none 0 0]:=by rw[nbe h];exact placeOf_mk (by kernel_rfl) zero_ctrieref12_Exec
theorem zero_view_traversal:zeroIs prog 161=some (.agg ⟨[.slice none 0 0,.slice none 0 0,.int .i64 0,.slice none 0 0,.slice none 0 0,.slice none 0 0]⟩):=by kernel_rfl
theorem place_view_traversalT{t:Nat}(h:Nat.beq t 161=true):placeOf prog t [(0,3),(3,1),(4,1),(5,1)] [.slice none 0 0,.slice none 0 0,.int .i64 0,.slice none 0 0,.slice none 0 0,.slice none 0 0]:=by rw[nbe h];exact placeOf_mk (by kernel_rfl) zero_view_traversal
def tabF:List (Nat×Nat):=[(30,0),(30,1),(30,2),(30,3),(30,4),(35,0),(35,1),(40,0),(40,1),(40,2),(40,3),(45,0),(45,1),(45,2),(45,3),(45,4),(45,5),(45,6),(45,7),(45,8),(45,9),(45,10),(45,11),(45,12),(45,13),(52,0),(52,1),(52,2),(54,0),(68,0),(68,1),(68,2),(68,3),(68,4),(68,5),(68,6),(78,0),(78,1),(78,2),(80,0),(80,1),(87,0),(87,1),(94,0),(94,1),(106,0),(106,1),(115,0),(115,1),(118,0),(118,1),(118,2),(118,3),(122,0),(129,0),(129,1),(129,2),(129,3),(131,0),(131,1),(144,0),(149,0),(149,1),(161,0),(228,0),(228,1)]
theorem fld_ok:(tabF.all λ p=>fieldIs prog p.1 p.2==some p.2)=true:=by kernel_rfl
theorem fld_of{t k:Nat}(h:(tabF.any λ p=>Nat.beq p.1 t&&Nat.beq p.2 k)=true):fieldIs prog t k=some k:=by obtain⟨p,hp,ht⟩:=List.any_eq_true.1 h;simp only[Bool.and_eq_true] at ht;have h2:=eq_of_beq (List.all_eq_true.1 fld_ok p hp);rwa [nbe ht.1,nbe ht.2] at h2
def tabF1:List (Nat×Nat):=[(30,0),(30,1),(30,2),(30,3),(30,4),(35,0),(35,1),(40,0),(40,1),(40,2),(40,3),(45,0),(45,1),(45,2),(45,3),(45,4),(45,5),(45,6),(45,7),(45,8),(45,9),(45,10),(45,11),(45,12),(45,13),(52,0),(52,1),(52,2),(68,0),(68,1),(68,2),(68,3),(68,4),(68,5),(78,0),(78,1),(78,2),(80,0),(87,0),(87,1),(94,0),(94,1),(106,0),(106,1),(115,0),(118,0),(118,1),(118,2),(118,3),(129,0),(129,1),(129,2),(129,3),(131,0),(149,0),(228,0),(228,1)]
theorem fld1_ok:(tabF1.all λ p=>fieldOne prog p.1 p.2==some p.2)=true:=by kernel_rfl
theorem fld1_of{t k:Nat}(h:(tabF1.any λ p=>Nat.beq p.1 t&&Nat.beq p.2 k)=true):fieldOne prog t k=some k:=by obtain⟨p,hp,ht⟩:=List.any_eq_true.1 h;simp only[Bool.and_eq_true] at ht;have h2:=eq_of_beq (List.all_eq_true.1 fld1_ok p hp);rwa [nbe ht.1,nbe ht.2] at h2
theorem fld_ctrieref05_Mem_1{t k:Nat}(h:(Nat.beq t 54&&Nat.beq k 1)=true):fieldIs prog t k=some 3:=by simp only[Bool.and_eq_true] at h;rw[nbe h.1,nbe h.2];kernel_rfl
theorem fld_ctrieref12_Call_2{t k:Nat}(h:(Nat.beq t 80&&Nat.beq k 2)=true):fieldIs prog t k=some 3:=by simp only[Bool.and_eq_true] at h;rw[nbe h.1,nbe h.2];kernel_rfl
theorem fld_ctrieref12_Call_3{t k:Nat}(h:(Nat.beq t 80&&Nat.beq k 3)=true):fieldIs prog t k=some 4:=by simp only[Bool.and_eq_true] at h;rw[nbe h.1,nbe h.2];kernel_rfl
theorem fld_ctrieref12_Call_4{t k:Nat}(h:(Nat.beq t 80&&Nat.beq k 4)=true):fieldIs prog t k=some 5:=by simp only[Bool.and_eq_true] at h;rw[nbe h.1,nbe h.2];kernel_rfl
theorem fld_ctrieref12_Call_7{t k:Nat}(h:(Nat.beq t 80&&Nat.beq k 7)=true):fieldIs prog t k=some 8:=by simp only[Bool.and_eq_true] at h;rw[nbe h.1,nbe h.2];kernel_rfl
theorem fld_ctrieref12_Call_8{t k:Nat}(h:(Nat.beq t 80&&Nat.beq k 8)=true):fieldIs prog t k=some 9:=by simp only[Bool.and_eq_true] at h;rw[nbe h.1,nbe h.2];kernel_rfl
theorem fld_ctrieref12_Call_9{t k:Nat}(h:(Nat.beq t 80&&Nat.beq k 9)=true):fieldIs prog t k=some 10:=by simp only[Bool.and_eq_true] at h;rw[nbe h.1,nbe h.2];kernel_rfl
theorem fld_ctrieref12_Call_10{t k:Nat}(h:(Nat.beq t 80&&Nat.beq k 10)=true):fieldIs prog t k=some 11:=by simp only[Bool.and_eq_true] at h;rw[nbe h.1,nbe h.2];kernel_rfl
theorem fld_ctrieref12_Call_11{t k:Nat}(h:(Nat.beq t 80&&Nat.beq k 11)=true):fieldIs prog t k=some 12:=by simp only[Bool.and_eq_true] at h;rw[nbe h.1,nbe h.2];kernel_rfl
theorem fld_ctrieref12_Call_12{t k:Nat}(h:(Nat.beq t 80&&Nat.beq k 12)=true):fieldIs prog t k=some 13:=by simp only[Bool.and_eq_true] at h;rw[nbe h.1,nbe h.2];kernel_rfl
theorem fld_ctrieref12_Exec_2{t k:Nat}(h:(Nat.beq t 149&&Nat.beq k 2)=true):fieldIs prog t k=some 26:=by simp only[Bool.and_eq_true] at h;rw[nbe h.1,nbe h.2];kernel_rfl
theorem fld_ctrieref12_Exec_3{t k:Nat}(h:(Nat.beq t 149&&Nat.beq k 3)=true):fieldIs prog t k=some 27:=by simp only[Bool.and_eq_true] at h;rw[nbe h.1,nbe h.2];kernel_rfl
theorem fld_ctrieref12_Exec_4{t k:Nat}(h:(Nat.beq t 149&&Nat.beq k 4)=true):fieldIs prog t k=some 28:=by simp only[Bool.and_eq_true] at h;rw[nbe h.1,nbe h.2];kernel_rfl
theorem fld_ctrieref12_Exec_5{t k:Nat}(h:(Nat.beq t 149&&Nat.beq k 5)=true):fieldIs prog t k=some 29:=by simp only[Bool.and_eq_true] at h;rw[nbe h.1,nbe h.2];kernel_rfl
theorem fld_ctrieref12_Exec_6{t k:Nat}(h:(Nat.beq t 149&&Nat.beq k 6)=true):fieldIs prog t k=some 30:=by simp only[Bool.and_eq_true] at h;rw[nbe h.1,nbe h.2];kernel_rfl
theorem fld_ctrieref12_Exec_7{t k:Nat}(h:(Nat.beq t 149&&Nat.beq k 7)=true):fieldIs prog t k=some 31:=by simp only[Bool.and_eq_true] at h;rw[nbe h.1,nbe h.2];kernel_rfl
theorem fld_ctrieref12_Exec_8{t k:Nat}(h:(Nat.beq t 149&&Nat.beq k 8)=true):fieldIs prog t k=some 32:=by simp only[Bool.and_eq_true] at h;rw[nbe h.1,nbe h.2];kernel_rfl
theorem fld_ctrieref12_Exec_9{t k:Nat}(h:(Nat.beq t 149&&Nat.beq k 9)=true):fieldIs prog t k=some 33:=by simp only[Bool.and_eq_true] at h;rw[nbe h.1,nbe h.2];kernel_rfl
theorem fld_ctrieref12_Exec_10{t k:Nat}(h:(Nat.beq t 149&&Nat.beq k 10)=true):fieldIs prog t k=some 34:=by simp only[Bool.and_eq_true] at h;rw[nbe h.1,nbe h.2];kernel_rfl
theorem fld_ctrieref12_Exec_11{t k:Nat}(h:(Nat.beq t 149&&Nat.beq k 11)=true):fieldIs prog t k=some 35:=by simp only[Bool.and_eq_true] at h;rw[nbe h.1,nbe h.2];kernel_rfl
theorem fld_ctrieref12_Exec_12{t k:Nat}(h:(Nat.beq t 149&&Nat.beq k 12)=true):fieldIs prog t k=some 36:=by simp only[Bool.and_eq_true] at h;rw[nbe h.1,nbe h.2];kernel_rfl
theorem fld_ctrieref12_Exec_13{t k:Nat}(h:(Nat.beq t 149&&Nat.beq k 13)=true):fieldIs prog t k=some 40:=by simp only[Bool.and_eq_true] at h;rw[nbe h.1,nbe h.2];kernel_rfl
theorem fld_ctrieref12_Exec_14{t k:Nat}(h:(Nat.beq t 149&&Nat.beq k 14)=true):fieldIs prog t k=some 41:=by simp only[Bool.and_eq_true] at h;rw[nbe h.1,nbe h.2];kernel_rfl
theorem fld_view_traversal_1{t k:Nat}(h:(Nat.beq t 161&&Nat.beq k 1)=true):fieldIs prog t k=some 3:=by simp only[Bool.and_eq_true] at h;rw[nbe h.1,nbe h.2];kernel_rfl
theorem fld_view_traversal_2{t k:Nat}(h:(Nat.beq t 161&&Nat.beq k 2)=true):fieldIs prog t k=some 4:=by simp only[Bool.and_eq_true] at h;rw[nbe h.1,nbe h.2];kernel_rfl
theorem fld_view_traversal_3{t k:Nat}(h:(Nat.beq t 161&&Nat.beq k 3)=true):fieldIs prog t k=some 5:=by simp only[Bool.and_eq_true] at h;rw[nbe h.1,nbe h.2];kernel_rfl
def tabSl:List (Nat×Nat):=[(22,3),(37,35),(38,84),(42,28),(43,106),(50,45),(74,4),(76,228),(95,30),(138,87),(147,33),(151,23),(172,9)]
def elemT(t:Nat):Nat:=(tabSl.lookup t).getD 0
theorem sl_ok:(tabSl.all λ p=>(match prog.underlying p.1 with|some (.slice e)=>Nat.beq e p.2&&Nat.beq (elemT p.1) p.2|_=>false))=true:=by kernel_rfl
theorem sl_of{t:Nat}(h:(tabSl.any λ p=>Nat.beq p.1 t)=true):prog.underlying t=some (.slice (elemT t)):=by
 obtain⟨p,hp,ht⟩:=List.any_eq_true.1 h;have h2:=List.all_eq_true.1 sl_ok p hp;rw[<- nbe ht];cases hu:prog.underlying p.1 with
 | none=>rw[hu] at h2;simp at h2
 | some d=>rw[hu] at h2;cases d<;>simp only[Bool.false_eq_true] at h2;simp only[Bool.and_eq_true] at h2;rw[nbe h2.1,nbe h2.2]
def tabE:List (Nat×Nat):=[(3,1),(4,1),(9,1),(23,1),(28,1),(30,5),(33,1),(35,2),(45,14),(84,1),(87,2),(106,2),(228,2)]
theorem szE_ok:(tabE.all λ p=>(prog.info? p.1).map (·.size)==some p.2)=true:=by kernel_rfl
theorem sz_of{e s:Nat}(h:(tabE.any λ p=>Nat.beq p.1 e&&Nat.beq p.2 s)=true):(prog.info? e).map (·.size)=some s:=by obtain⟨p,hp,ht⟩:=List.any_eq_true.1 h;simp only[Bool.and_eq_true] at ht;have h2:=List.all_eq_true.1 szE_ok p hp;rw[<- nbe ht.1,<- nbe ht.2];exact eq_of_beq h2
theorem str_of{t:Nat}(h:Nat.beq t 9=true):prog.underlying t=some .string:=by rw[nbe h];kernel_rfl
theorem pair_of{t:Nat}(h:Nat.beq t 106=true):pairIs prog t=true:=by rw[nbe h];kernel_rfl
def tabI:List (Nat×IntKind):=[(2,.i64),(3,.i64),(5,.u8),(12,.u64),(21,.i32),(23,.u64),(28,.i64),(33,.i64),(66,.i64),(194,.u64),(252,.u32)]
theorem int_ok:(tabI.all λ p=>intIs prog p.1 p.2)=true:=by kernel_rfl
theorem int_of{t:Nat}{k:IntKind}(h:(tabI.any λ p=>Nat.beq p.1 t&&p.2==k)=true):intIs prog t k=true:=by obtain⟨p,hp,ht⟩:=List.any_eq_true.1 h;simp only[Bool.and_eq_true] at ht;have h2:=List.all_eq_true.1 int_ok p hp;rw[nbe ht.1,eq_of_beq ht.2] at h2;exact h2
def elemB(P:Program)(t e s:Nat):Bool :=
 (match P.underlying t with|some (.slice e')=>Nat.beq e' e|_=>false)&&(match P.info? e with
  | some i=>Nat.beq i.size s&&Nat.ble i.bytes 256
  | none=>false)
theorem elem_mk{P:Program}{t e:Nat}{z:Value}{zc:List Value}(h:elemB P t e zc.length=true)(hz:zeroIs P e=some z)(hzc:z.cells=⟨zc⟩):ElemIs P t e zc:=by
 unfold elemB at h;simp only[Bool.and_eq_true] at h;refine⟨?_,?_⟩
 ·cases hu:P.underlying t with
  | none=>simp[hu] at h
  | some d=>rw[hu] at h;cases d<;>simp only[Bool.false_eq_true,false_and] at h;rw[nbe h.1]
 ·cases hi:P.info? e with
  | none=>simp[hi] at h
  | some i=>rw[hi] at h;simp only[Bool.and_eq_true] at h;exact⟨i,z,rfl,by simpa[zeroIs,hi] using hz,hzc,nbe h.2.1,Nat.le_of_ble_eq_true h.2.2⟩
theorem zeroE_int:zeroIs prog 3=some (.int .i64 0):=by kernel_rfl
theorem elem_int:ElemIs prog 22 3 [.int .i64 0]:=elem_mk (by kernel_rfl) zeroE_int rfl
theorem elem_intT{t:Nat}(h:Nat.beq t 22=true):ElemIs prog t 3 [.int .i64 0]:=by rw[nbe h];exact elem_int
theorem zeroE_ref:zeroIs prog 28=some (.int .i64 0):=by kernel_rfl
theorem elem_ref:ElemIs prog 42 28 [.int .i64 0]:=elem_mk (by kernel_rfl) zeroE_ref rfl
theorem elem_refT{t:Nat}(h:Nat.beq t 42=true):ElemIs prog t 28 [.int .i64 0]:=by rw[nbe h];exact elem_ref
theorem zeroE_pair:zeroIs prog 106=some (.agg ⟨[.string ⟨#[]⟩,.int .u64 0]⟩):=by kernel_rfl
theorem elem_pair:ElemIs prog 43 106 [.string ⟨#[]⟩,.int .u64 0]:=elem_mk (by kernel_rfl) zeroE_pair rfl
theorem elem_pairT{t:Nat}(h:Nat.beq t 43=true):ElemIs prog t 106 [.string ⟨#[]⟩,.int .u64 0]:=by rw[nbe h];exact elem_pair
def zNode:List Value:=[.int .i64 0,.int .i64 0,.int .i64 0,.int .u64 0,.slice none 0 0,.int .u64 0,.string ⟨#[]⟩,.int .u64 0,.slice none 0 0,.int .i64 0,.int .i64 0,.int .i64 0,.int .i64 0,.int .i64 0]
theorem zeroE_node:zeroIs prog 45=some (.agg ⟨[.int .i64 0,.int .i64 0,.int .i64 0,.int .u64 0,.slice none 0 0,.int .u64 0,.string ⟨#[]⟩,.int .u64 0,.slice none 0 0,.int .i64 0,.int .i64 0,.int .i64 0,.int .i64 0,.int .i64 0]⟩):=by kernel_rfl
theorem elem_node:ElemIs prog 50 45 zNode:=elem_mk (by kernel_rfl) zeroE_node rfl
theorem elem_nodeT{t:Nat}(h:Nat.beq t 50=true):ElemIs prog t 45 zNode:=by rw[nbe h];exact elem_node
theorem zeroE_bool:zeroIs prog 4=some (.bool false):=by kernel_rfl
theorem elem_bool:ElemIs prog 74 4 [.bool false]:=elem_mk (by kernel_rfl) zeroE_bool rfl
theorem elem_boolT{t:Nat}(h:Nat.beq t 74=true):ElemIs prog t 4 [.bool false]:=by rw[nbe h];exact elem_bool
theorem zeroE_str:zeroIs prog 9=some (.string ⟨#[]⟩):=by kernel_rfl
theorem elem_str:ElemIs prog 172 9 [.string ⟨#[]⟩]:=elem_mk (by kernel_rfl) zeroE_str rfl
theorem elem_strT{t:Nat}(h:Nat.beq t 172=true):ElemIs prog t 9 [.string ⟨#[]⟩]:=by rw[nbe h];exact elem_str
end Go.Proofs.YtdnklbipddigbaaGreat
