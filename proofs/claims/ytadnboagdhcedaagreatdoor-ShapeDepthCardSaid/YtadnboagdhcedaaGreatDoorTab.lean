/- What the program's table says of the types that are used: closed facts. Written by a program. -/
import Derived.Test.YtadnboagdhcedaaGreatDoorGLst3
import Derived.Test.YtadnboagdhcedaaGreatDoorProg
set_option linter.unusedSimpArgs false
set_option linter.unusedVariables false
namespace Go.Proofs.YtadnboagdhcedaaGreatDoor
open Go.RowKit Go.Ct
def xw:List Nat:=[2,3,4,5,9,12,15,16,17,20,21,22,23,26,27,30,32,36,37,38,44,51,56,62,63,64,73,78,85,97,107,111,117,120,132,215,219]
theorem qt:(xw.all λ t=>one Tryz.prog t)=true:=by kernel_rfl
theorem O5{t:Nat}(h:xw.elem t=true):one Tryz.prog t=true:=List.all_eq_true.1 qt t (List.mem_of_elem_eq_true h)
def zw:List (Nat×Nat):=[(25,3),(29,2),(35,4),(40,4),(66,3),(68,8),(70,25),(77,14),(87,4),(93,54),(102,5),(106,2),(113,4),(115,52),(122,6),(137,2),(153,4),(182,2)]
theorem uv:(zw.all λ p=>jP Tryz.prog p.1 p.2)=true:=by kernel_rfl
theorem Oj{t k:Nat}(h:(zw.any λ p=>Nat.beq p.1 t&&Nat.beq p.2 k)=true):jP Tryz.prog t k=true:=by
 obtain⟨p,hp,ht⟩:=List.any_eq_true.1 h
 simp only[Bool.and_eq_true] at ht
 have h2:=List.all_eq_true.1 uv p hp
 rwa [eC ht.1,eC ht.2] at h2
theorem Dn:dC Tryz.prog 25=some (.agg ⟨[.slice none 0 0,.slice none 0 0,.int .i64 0]⟩):=by kernel_rfl
theorem zA{t:Nat}(h:Nat.beq t 25=true):structOf Tryz.prog t [.slice none 0 0,.slice none 0 0,.int .i64 0]:=by rw[eC h];exact gV (by kernel_rfl) Dn
theorem wC:dC Tryz.prog 29=some (.agg ⟨[.int .i64 0,.bool false]⟩):=by kernel_rfl
theorem D7{t:Nat}(h:Nat.beq t 29=true):dC Tryz.prog t=some (.agg ⟨[.int .i64 0,.bool false]⟩):=by rw[eC h];exact wC
theorem zT{t:Nat}(h:Nat.beq t 29=true):structOf Tryz.prog t [.int .i64 0,.bool false]:=by rw[eC h];exact gV (by kernel_rfl) wC
theorem vT:dC Tryz.prog 35=some (.agg ⟨[.slice none 0 0,.slice none 0 0,.int .i64 0,.int .i64 0]⟩):=by kernel_rfl
theorem sF{t:Nat}(h:Nat.beq t 35=true):placeOf Tryz.prog t [(0,3),(3,1)] [.slice none 0 0,.slice none 0 0,.int .i64 0,.int .i64 0]:=by rw[eC h];exact jY (by kernel_rfl) vT
theorem tJ:dC Tryz.prog 40=some (.agg ⟨[.pointer none,.int .u64 0,.slice none 0 0,.slice none 0 0]⟩):=by kernel_rfl
theorem qD{t:Nat}(h:Nat.beq t 40=true):structOf Tryz.prog t [.pointer none,.int .u64 0,.slice none 0 0,.slice none 0 0]:=by rw[eC h];exact gV (by kernel_rfl) tJ
theorem rZ:dC Tryz.prog 68=some (.agg ⟨[.int .i64 0,.bool false,.int .u64 0,.string ⟨#[]⟩,.int .i64 0,.int .i64 0,.int .i64 0,.bool false]⟩):=by kernel_rfl
theorem Ax{t:Nat}(h:Nat.beq t 68=true):dC Tryz.prog t=some (.agg ⟨[.int .i64 0,.bool false,.int .u64 0,.string ⟨#[]⟩,.int .i64 0,.int .i64 0,.int .i64 0,.bool false]⟩):=by rw[eC h];exact rZ
theorem yT{t:Nat}(h:Nat.beq t 68=true):placeOf Tryz.prog t [(0,1),(1,1),(2,1),(3,1),(4,1),(5,1),(6,2)] [.int .i64 0,.bool false,.int .u64 0,.string ⟨#[]⟩,.int .i64 0,.int .i64 0,.int .i64 0,.bool false]:=by rw[eC h];exact jY (by kernel_rfl) rZ
theorem mN:dC Tryz.prog 70=some (.agg ⟨[.int .i64 0,.int .i64 0,.bool false,.int .i64 0,.int .i64 0,.int .i64 0,.int .i64 0,.int .u64 0,.int .u64 0,.string ⟨#[]⟩,.int .u64 0,.int .u64 0,.int .i64 0,.bool false,.bool false,.slice none 0 0,.slice none 0 0,.int .i64 0,.bool false,.int .u64 0,.string ⟨#[]⟩,.int .i64 0,.int .i64 0,.int .i64 0,.bool false]⟩):=by kernel_rfl
theorem sD{t:Nat}(h:Nat.beq t 70=true):dC Tryz.prog t=some (.agg ⟨[.int .i64 0,.int .i64 0,.bool false,.int .i64 0,.int .i64 0,.int .i64 0,.int .i64 0,.int .u64 0,.int .u64 0,.string ⟨#[]⟩,.int .u64 0,.int .u64 0,.int .i64 0,.bool false,.bool false,.slice none 0 0,.slice none 0 0,.int .i64 0,.bool false,.int .u64 0,.string ⟨#[]⟩,.int .i64 0,.int .i64 0,.int .i64 0,.bool false]⟩):=by rw[eC h];exact mN
theorem rA{t:Nat}(h:Nat.beq t 70=true):placeOf Tryz.prog t [(0,1),(1,2),(3,1),(4,1),(5,1),(6,1),(7,1),(8,1),(9,1),(10,1),(11,1),(12,1),(13,1),(14,3),(17,8)] [.int .i64 0,.int .i64 0,.bool false,.int .i64 0,.int .i64 0,.int .i64 0,.int .i64 0,.int .u64 0,.int .u64 0,.string ⟨#[]⟩,.int .u64 0,.int .u64 0,.int .i64 0,.bool false,.bool false,.slice none 0 0,.slice none 0 0,.int .i64 0,.bool false,.int .u64 0,.string ⟨#[]⟩,.int .i64 0,.int .i64 0,.int .i64 0,.bool false]:=by rw[eC h];exact jY (by kernel_rfl) mN
theorem wA:dC Tryz.prog 77=some (.agg ⟨[.int .i64 0,.int .i64 0,.int .i64 0,.int .u64 0,.slice none 0 0,.int .u64 0,.string ⟨#[]⟩,.int .u64 0,.slice none 0 0,.int .i64 0,.int .i64 0,.int .i64 0,.int .i64 0,.int .i64 0]⟩):=by kernel_rfl
theorem Fg{t:Nat}(h:Nat.beq t 77=true):dC Tryz.prog t=some (.agg ⟨[.int .i64 0,.int .i64 0,.int .i64 0,.int .u64 0,.slice none 0 0,.int .u64 0,.string ⟨#[]⟩,.int .u64 0,.slice none 0 0,.int .i64 0,.int .i64 0,.int .i64 0,.int .i64 0,.int .i64 0]⟩):=by rw[eC h];exact wA
theorem zL{t:Nat}(h:Nat.beq t 77=true):structOf Tryz.prog t [.int .i64 0,.int .i64 0,.int .i64 0,.int .u64 0,.slice none 0 0,.int .u64 0,.string ⟨#[]⟩,.int .u64 0,.slice none 0 0,.int .i64 0,.int .i64 0,.int .i64 0,.int .i64 0,.int .i64 0]:=by rw[eC h];exact gV (by kernel_rfl) wA
theorem wM:dC Tryz.prog 87=some (.agg ⟨[.slice none 0 0,.slice none 0 0,.int .i64 0,.int .u64 0]⟩):=by kernel_rfl
theorem uK{t:Nat}(h:Nat.beq t 87=true):placeOf Tryz.prog t [(0,3),(3,1)] [.slice none 0 0,.slice none 0 0,.int .i64 0,.int .u64 0]:=by rw[eC h];exact jY (by kernel_rfl) wM
theorem qA:dC Tryz.prog 93=some (.agg ⟨[.int .i64 0,.int .i64 0,.int .i64 0,.int .i64 0,.int .i64 0,.int .i64 0,.int .i64 0,.int .i64 0,.int .i64 0,.int .i64 0,.int .i64 0,.int .i64 0,.int .i64 0,.int .i64 0,.int .i64 0,.int .u64 0,.slice none 0 0,.int .u64 0,.string ⟨#[]⟩,.int .u64 0,.slice none 0 0,.int .i64 0,.int .i64 0,.int .i64 0,.int .i64 0,.int .i64 0,.int .i64 0,.int .i64 0,.int .i64 0,.int .u64 0,.slice none 0 0,.int .u64 0,.string ⟨#[]⟩,.int .u64 0,.slice none 0 0,.int .i64 0,.int .i64 0,.int .i64 0,.int .i64 0,.int .i64 0,.int .i64 0,.int .i64 0,.int .i64 0,.int .u64 0,.slice none 0 0,.int .u64 0,.string ⟨#[]⟩,.int .u64 0,.slice none 0 0,.int .i64 0,.int .i64 0,.int .i64 0,.int .i64 0,.int .i64 0]⟩):=by kernel_rfl
theorem yX{t:Nat}(h:Nat.beq t 93=true):dC Tryz.prog t=some (.agg ⟨[.int .i64 0,.int .i64 0,.int .i64 0,.int .i64 0,.int .i64 0,.int .i64 0,.int .i64 0,.int .i64 0,.int .i64 0,.int .i64 0,.int .i64 0,.int .i64 0,.int .i64 0,.int .i64 0,.int .i64 0,.int .u64 0,.slice none 0 0,.int .u64 0,.string ⟨#[]⟩,.int .u64 0,.slice none 0 0,.int .i64 0,.int .i64 0,.int .i64 0,.int .i64 0,.int .i64 0,.int .i64 0,.int .i64 0,.int .i64 0,.int .u64 0,.slice none 0 0,.int .u64 0,.string ⟨#[]⟩,.int .u64 0,.slice none 0 0,.int .i64 0,.int .i64 0,.int .i64 0,.int .i64 0,.int .i64 0,.int .i64 0,.int .i64 0,.int .i64 0,.int .u64 0,.slice none 0 0,.int .u64 0,.string ⟨#[]⟩,.int .u64 0,.slice none 0 0,.int .i64 0,.int .i64 0,.int .i64 0,.int .i64 0,.int .i64 0]⟩):=by rw[eC h];exact qA
theorem gZ{t:Nat}(h:Nat.beq t 93=true):placeOf Tryz.prog t [(0,1),(1,11),(12,14),(26,14),(40,14)] [.int .i64 0,.int .i64 0,.int .i64 0,.int .i64 0,.int .i64 0,.int .i64 0,.int .i64 0,.int .i64 0,.int .i64 0,.int .i64 0,.int .i64 0,.int .i64 0,.int .i64 0,.int .i64 0,.int .i64 0,.int .u64 0,.slice none 0 0,.int .u64 0,.string ⟨#[]⟩,.int .u64 0,.slice none 0 0,.int .i64 0,.int .i64 0,.int .i64 0,.int .i64 0,.int .i64 0,.int .i64 0,.int .i64 0,.int .i64 0,.int .u64 0,.slice none 0 0,.int .u64 0,.string ⟨#[]⟩,.int .u64 0,.slice none 0 0,.int .i64 0,.int .i64 0,.int .i64 0,.int .i64 0,.int .i64 0,.int .i64 0,.int .i64 0,.int .i64 0,.int .u64 0,.slice none 0 0,.int .u64 0,.string ⟨#[]⟩,.int .u64 0,.slice none 0 0,.int .i64 0,.int .i64 0,.int .i64 0,.int .i64 0,.int .i64 0]:=by rw[eC h];exact jY (by kernel_rfl) qA
theorem vO:dC Tryz.prog 106=some (.agg ⟨[.slice none 0 0,.int .i64 0]⟩):=by kernel_rfl
theorem rN{t:Nat}(h:Nat.beq t 106=true):structOf Tryz.prog t [.slice none 0 0,.int .i64 0]:=by rw[eC h];exact gV (by kernel_rfl) vO
theorem B1:dC Tryz.prog 113=some (.agg ⟨[.int .i64 0,.int .i64 0,.int .i64 0,.int .i64 0]⟩):=by kernel_rfl
theorem wR{t:Nat}(h:Nat.beq t 113=true):structOf Tryz.prog t [.int .i64 0,.int .i64 0,.int .i64 0,.int .i64 0]:=by rw[eC h];exact gV (by kernel_rfl) B1
theorem tL:dC Tryz.prog 115=some (.agg ⟨[.pointer none,.int .i64 0,.int .i64 0,.bool false,.int .i64 0,.int .i64 0,.int .i64 0,.int .i64 0,.int .u64 0,.int .u64 0,.string ⟨#[]⟩,.int .u64 0,.int .u64 0,.int .i64 0,.bool false,.bool false,.slice none 0 0,.slice none 0 0,.int .i64 0,.bool false,.int .u64 0,.string ⟨#[]⟩,.int .i64 0,.int .i64 0,.int .i64 0,.bool false,.slice none 0 0,.slice none 0 0,.slice none 0 0,.slice none 0 0,.int .i64 0,.int .i64 0,.int .i64 0,.int .i64 0,.int .i64 0,.bool false,.int .i64 0,.int .i64 0,.int .i64 0,.int .i64 0,.bool false,.int .i64 0,.bool false,.int .u64 0,.string ⟨#[]⟩,.int .i64 0,.int .i64 0,.int .i64 0,.bool false,.bool false,.slice none 0 0,.slice none 0 0]⟩):=by kernel_rfl
theorem rS{t:Nat}(h:Nat.beq t 115=true):placeOf Tryz.prog t [(0,1),(1,25),(26,1),(27,1),(28,1),(29,1),(30,1),(31,1),(32,1),(33,1),(34,1),(35,1),(36,4),(40,1),(41,8),(49,3)] [.pointer none,.int .i64 0,.int .i64 0,.bool false,.int .i64 0,.int .i64 0,.int .i64 0,.int .i64 0,.int .u64 0,.int .u64 0,.string ⟨#[]⟩,.int .u64 0,.int .u64 0,.int .i64 0,.bool false,.bool false,.slice none 0 0,.slice none 0 0,.int .i64 0,.bool false,.int .u64 0,.string ⟨#[]⟩,.int .i64 0,.int .i64 0,.int .i64 0,.bool false,.slice none 0 0,.slice none 0 0,.slice none 0 0,.slice none 0 0,.int .i64 0,.int .i64 0,.int .i64 0,.int .i64 0,.int .i64 0,.bool false,.int .i64 0,.int .i64 0,.int .i64 0,.int .i64 0,.bool false,.int .i64 0,.bool false,.int .u64 0,.string ⟨#[]⟩,.int .i64 0,.int .i64 0,.int .i64 0,.bool false,.bool false,.slice none 0 0,.slice none 0 0]:=by rw[eC h];exact jY (by kernel_rfl) tL
theorem vR:dC Tryz.prog 122=some (.agg ⟨[.slice none 0 0,.slice none 0 0,.int .i64 0,.slice none 0 0,.slice none 0 0,.slice none 0 0]⟩):=by kernel_rfl
theorem sO{t:Nat}(h:Nat.beq t 122=true):placeOf Tryz.prog t [(0,3),(3,1),(4,1),(5,1)] [.slice none 0 0,.slice none 0 0,.int .i64 0,.slice none 0 0,.slice none 0 0,.slice none 0 0]:=by rw[eC h];exact jY (by kernel_rfl) vR
theorem vX:dC Tryz.prog 137=some (.agg ⟨[.string ⟨#[]⟩,.int .u64 0]⟩):=by kernel_rfl
theorem Et{t:Nat}(h:Nat.beq t 137=true):dC Tryz.prog t=some (.agg ⟨[.string ⟨#[]⟩,.int .u64 0]⟩):=by rw[eC h];exact vX
theorem zW{t:Nat}(h:Nat.beq t 137=true):structOf Tryz.prog t [.string ⟨#[]⟩,.int .u64 0]:=by rw[eC h];exact gV (by kernel_rfl) vX
theorem Am:dC Tryz.prog 153=some (.agg ⟨[.slice none 0 0,.slice none 0 0,.int .i64 0,.int .i64 0]⟩):=by kernel_rfl
theorem vS{t:Nat}(h:Nat.beq t 153=true):structOf Tryz.prog t [.slice none 0 0,.slice none 0 0,.int .i64 0,.int .i64 0]:=by rw[eC h];exact gV (by kernel_rfl) Am
def xh:List (Nat×Nat):=[(25,0),(25,1),(25,2),(29,0),(29,1),(35,0),(40,0),(40,1),(40,2),(40,3),(66,0),(66,1),(66,2),(68,0),(68,1),(68,2),(68,3),(68,4),(68,5),(68,6),(70,0),(70,1),(77,0),(77,1),(77,2),(77,3),(77,4),(77,5),(77,6),(77,7),(77,8),(77,9),(77,10),(77,11),(77,12),(77,13),(87,0),(93,0),(93,1),(102,0),(102,1),(102,2),(102,3),(102,4),(106,0),(106,1),(113,0),(113,1),(113,2),(113,3),(115,0),(115,1),(122,0),(137,0),(137,1),(153,0),(153,1),(153,2),(153,3),(182,0),(182,1)]
theorem qg:(xh.all λ p=>cO Tryz.prog p.1 p.2==some p.2)=true:=by kernel_rfl
theorem rm{t k:Nat}(h:(xh.any λ p=>Nat.beq p.1 t&&Nat.beq p.2 k)=true):cO Tryz.prog t k=some k:=by
 obtain⟨p,hp,ht⟩:=List.any_eq_true.1 h
 simp only[Bool.and_eq_true] at ht
 have h2:=eq_of_beq (List.all_eq_true.1 qg p hp)
 rwa [eC ht.1,eC ht.2] at h2
def ot:List (Nat×Nat):=[(25,0),(25,1),(25,2),(29,0),(29,1),(40,0),(40,1),(40,2),(40,3),(66,0),(66,1),(66,2),(68,0),(68,1),(68,2),(68,3),(68,4),(68,5),(70,0),(77,0),(77,1),(77,2),(77,3),(77,4),(77,5),(77,6),(77,7),(77,8),(77,9),(77,10),(77,11),(77,12),(77,13),(93,0),(102,0),(102,1),(102,2),(102,3),(102,4),(106,0),(106,1),(113,0),(113,1),(113,2),(113,3),(115,0),(137,0),(137,1),(153,0),(153,1),(153,2),(153,3),(182,0),(182,1)]
theorem ei:(ot.all λ p=>yV Tryz.prog p.1 p.2==some p.2)=true:=by kernel_rfl
theorem Q2{t k:Nat}(h:(ot.any λ p=>Nat.beq p.1 t&&Nat.beq p.2 k)=true):yV Tryz.prog t k=some k:=by
 obtain⟨p,hp,ht⟩:=List.any_eq_true.1 h
 simp only[Bool.and_eq_true] at ht
 have h2:=eq_of_beq (List.all_eq_true.1 ei p hp)
 rwa [eC ht.1,eC ht.2] at h2
theorem tN{t k:Nat}(h:(Nat.beq t 35&&Nat.beq k 1)=true):cO Tryz.prog t k=some 3:=by simp only[Bool.and_eq_true] at h;rw[eC h.1,eC h.2];kernel_rfl
theorem sS{t k:Nat}(h:(Nat.beq t 70&&Nat.beq k 2)=true):cO Tryz.prog t k=some 3:=by simp only[Bool.and_eq_true] at h;rw[eC h.1,eC h.2];kernel_rfl
theorem sK{t k:Nat}(h:(Nat.beq t 70&&Nat.beq k 3)=true):cO Tryz.prog t k=some 4:=by simp only[Bool.and_eq_true] at h;rw[eC h.1,eC h.2];kernel_rfl
theorem sC{t k:Nat}(h:(Nat.beq t 70&&Nat.beq k 4)=true):cO Tryz.prog t k=some 5:=by simp only[Bool.and_eq_true] at h;rw[eC h.1,eC h.2];kernel_rfl
theorem sE{t k:Nat}(h:(Nat.beq t 70&&Nat.beq k 7)=true):cO Tryz.prog t k=some 8:=by simp only[Bool.and_eq_true] at h;rw[eC h.1,eC h.2];kernel_rfl
theorem sM{t k:Nat}(h:(Nat.beq t 70&&Nat.beq k 8)=true):cO Tryz.prog t k=some 9:=by simp only[Bool.and_eq_true] at h;rw[eC h.1,eC h.2];kernel_rfl
theorem sQ{t k:Nat}(h:(Nat.beq t 70&&Nat.beq k 9)=true):cO Tryz.prog t k=some 10:=by simp only[Bool.and_eq_true] at h;rw[eC h.1,eC h.2];kernel_rfl
theorem qS{t k:Nat}(h:(Nat.beq t 70&&Nat.beq k 10)=true):cO Tryz.prog t k=some 11:=by simp only[Bool.and_eq_true] at h;rw[eC h.1,eC h.2];kernel_rfl
theorem rF{t k:Nat}(h:(Nat.beq t 70&&Nat.beq k 11)=true):cO Tryz.prog t k=some 12:=by simp only[Bool.and_eq_true] at h;rw[eC h.1,eC h.2];kernel_rfl
theorem qZ{t k:Nat}(h:(Nat.beq t 70&&Nat.beq k 12)=true):cO Tryz.prog t k=some 13:=by simp only[Bool.and_eq_true] at h;rw[eC h.1,eC h.2];kernel_rfl
theorem vU{t k:Nat}(h:(Nat.beq t 87&&Nat.beq k 1)=true):cO Tryz.prog t k=some 3:=by simp only[Bool.and_eq_true] at h;rw[eC h.1,eC h.2];kernel_rfl
theorem zC{t k:Nat}(h:(Nat.beq t 93&&Nat.beq k 2)=true):cO Tryz.prog t k=some 12:=by simp only[Bool.and_eq_true] at h;rw[eC h.1,eC h.2];kernel_rfl
theorem yZ{t k:Nat}(h:(Nat.beq t 93&&Nat.beq k 3)=true):cO Tryz.prog t k=some 26:=by simp only[Bool.and_eq_true] at h;rw[eC h.1,eC h.2];kernel_rfl
theorem yL{t k:Nat}(h:(Nat.beq t 93&&Nat.beq k 4)=true):cO Tryz.prog t k=some 40:=by simp only[Bool.and_eq_true] at h;rw[eC h.1,eC h.2];kernel_rfl
theorem sG{t k:Nat}(h:(Nat.beq t 115&&Nat.beq k 2)=true):cO Tryz.prog t k=some 26:=by simp only[Bool.and_eq_true] at h;rw[eC h.1,eC h.2];kernel_rfl
theorem sH{t k:Nat}(h:(Nat.beq t 115&&Nat.beq k 3)=true):cO Tryz.prog t k=some 27:=by simp only[Bool.and_eq_true] at h;rw[eC h.1,eC h.2];kernel_rfl
theorem sI{t k:Nat}(h:(Nat.beq t 115&&Nat.beq k 4)=true):cO Tryz.prog t k=some 28:=by simp only[Bool.and_eq_true] at h;rw[eC h.1,eC h.2];kernel_rfl
theorem sL{t k:Nat}(h:(Nat.beq t 115&&Nat.beq k 5)=true):cO Tryz.prog t k=some 29:=by simp only[Bool.and_eq_true] at h;rw[eC h.1,eC h.2];kernel_rfl
theorem sU{t k:Nat}(h:(Nat.beq t 115&&Nat.beq k 6)=true):cO Tryz.prog t k=some 30:=by simp only[Bool.and_eq_true] at h;rw[eC h.1,eC h.2];kernel_rfl
theorem sP{t k:Nat}(h:(Nat.beq t 115&&Nat.beq k 7)=true):cO Tryz.prog t k=some 31:=by simp only[Bool.and_eq_true] at h;rw[eC h.1,eC h.2];kernel_rfl
theorem sJ{t k:Nat}(h:(Nat.beq t 115&&Nat.beq k 8)=true):cO Tryz.prog t k=some 32:=by simp only[Bool.and_eq_true] at h;rw[eC h.1,eC h.2];kernel_rfl
theorem sR{t k:Nat}(h:(Nat.beq t 115&&Nat.beq k 9)=true):cO Tryz.prog t k=some 33:=by simp only[Bool.and_eq_true] at h;rw[eC h.1,eC h.2];kernel_rfl
theorem rD{t k:Nat}(h:(Nat.beq t 115&&Nat.beq k 10)=true):cO Tryz.prog t k=some 34:=by simp only[Bool.and_eq_true] at h;rw[eC h.1,eC h.2];kernel_rfl
theorem rO{t k:Nat}(h:(Nat.beq t 115&&Nat.beq k 11)=true):cO Tryz.prog t k=some 35:=by simp only[Bool.and_eq_true] at h;rw[eC h.1,eC h.2];kernel_rfl
theorem rP{t k:Nat}(h:(Nat.beq t 115&&Nat.beq k 12)=true):cO Tryz.prog t k=some 36:=by simp only[Bool.and_eq_true] at h;rw[eC h.1,eC h.2];kernel_rfl
theorem qU{t k:Nat}(h:(Nat.beq t 115&&Nat.beq k 13)=true):cO Tryz.prog t k=some 40:=by simp only[Bool.and_eq_true] at h;rw[eC h.1,eC h.2];kernel_rfl
theorem rV{t k:Nat}(h:(Nat.beq t 115&&Nat.beq k 14)=true):cO Tryz.prog t k=some 41:=by simp only[Bool.and_eq_true] at h;rw[eC h.1,eC h.2];kernel_rfl
theorem tR{t k:Nat}(h:(Nat.beq t 122&&Nat.beq k 1)=true):cO Tryz.prog t k=some 3:=by simp only[Bool.and_eq_true] at h;rw[eC h.1,eC h.2];kernel_rfl
theorem uS{t k:Nat}(h:(Nat.beq t 122&&Nat.beq k 2)=true):cO Tryz.prog t k=some 4:=by simp only[Bool.and_eq_true] at h;rw[eC h.1,eC h.2];kernel_rfl
def cf:List (Nat×Nat):=[(22,77),(23,62),(26,3),(37,29),(38,73),(51,9),(63,182),(64,137),(97,102),(107,30),(111,27),(120,4)]
def oy(t:Nat):Nat:=(cf.lookup t).getD 0
theorem ya:(cf.all λ p=>(match Tryz.prog.underlying p.1 with|some (.slice e)=>Nat.beq e p.2&&Nat.beq (oy p.1) p.2|_=>false))=true:=by kernel_rfl
theorem xx{t:Nat}(h:(cf.any λ p=>Nat.beq p.1 t)=true):Tryz.prog.underlying t=some (.slice (oy t)):=by
 obtain⟨p,hp,ht⟩:=List.any_eq_true.1 h
 have h2:=List.all_eq_true.1 ya p hp
 rw[<- eC ht]
 cases hu:Tryz.prog.underlying p.1 with
 | none=>rw[hu] at h2;simp at h2
 | some d =>
  rw[hu] at h2
  cases d<;>simp only[Bool.false_eq_true] at h2
  simp only[Bool.and_eq_true] at h2
  rw[eC h2.1,eC h2.2]
def wo:List (Nat×Nat):=[(3,1),(4,1),(9,1),(27,1),(29,2),(30,1),(62,1),(73,1),(77,14),(102,5),(137,2),(182,2)]
theorem s5:(wo.all λ p=>(Tryz.prog.info? p.1).map (·.size)==some p.2)=true:=by kernel_rfl
theorem sB{e s:Nat}(h:(wo.any λ p=>Nat.beq p.1 e&&Nat.beq p.2 s)=true):(Tryz.prog.info? e).map (·.size)=some s:=by
 obtain⟨p,hp,ht⟩:=List.any_eq_true.1 h
 simp only[Bool.and_eq_true] at ht
 have h2:=List.all_eq_true.1 s5 p hp
 rw[<- eC ht.1,<- eC ht.2]
 exact eq_of_beq h2
theorem qs{t:Nat}(h:Nat.beq t 9=true):Tryz.prog.underlying t=some .string:=by
 rw[eC h];kernel_rfl
theorem kw{t:Nat}(h:Nat.beq t 137=true):Jg Tryz.prog t=true:=by
 rw[eC h];kernel_rfl
def za:List (Nat×IntKind):=[(2,.i64),(3,.i64),(5,.u8),(12,.u64),(21,.i32),(27,.i64),(30,.u64),(44,.i64),(62,.i64),(78,.u64),(215,.u32)]
theorem vd:(za.all λ p=>wD Tryz.prog p.1 p.2)=true:=by kernel_rfl
theorem rC{t:Nat}{k:IntKind}(h:(za.any λ p=>Nat.beq p.1 t&&p.2==k)=true):wD Tryz.prog t k=true:=by
 obtain⟨p,hp,ht⟩:=List.any_eq_true.1 h
 simp only[Bool.and_eq_true] at ht
 have h2:=List.all_eq_true.1 vd p hp
 rw[eC ht.1,eq_of_beq ht.2] at h2
 exact h2
def o4(P:Program)(t e s:Nat):Bool :=
 (match P.underlying t with|some (.slice e')=>Nat.beq e' e|_=>false)&&(match P.info? e with
  | some i=>Nat.beq i.size s&&Nat.ble i.bytes 256
  | none=>false)
theorem mC{P:Program}{t e:Nat}{z:Value}{zc:List Value}(h:o4 P t e zc.length=true)(hz:dC P e=some z)(hzc:z.cells=⟨zc⟩):dE P t e zc:=by
 unfold o4 at h
 simp only[Bool.and_eq_true] at h
 refine⟨?_,?_⟩
 ·cases hu:P.underlying t with
  | none=>simp[hu] at h
  | some d =>
   rw[hu] at h
   cases d<;>simp only[Bool.false_eq_true,false_and] at h
   rw[eC h.1]
 ·cases hi:P.info? e with
  | none=>simp[hi] at h
  | some i =>
   rw[hi] at h
   simp only[Bool.and_eq_true] at h
   exact⟨i,z,rfl,by simpa[dC,hi] using hz,hzc,eC h.2.1,Nat.le_of_ble_eq_true h.2.2⟩
def pi:List Value:=[.int .i64 0,.int .i64 0,.int .i64 0,.int .u64 0,.slice none 0 0,.int .u64 0,.string ⟨#[]⟩,.int .u64 0,.slice none 0 0,.int .i64 0,.int .i64 0,.int .i64 0,.int .i64 0,.int .i64 0]
theorem Og:dC Tryz.prog 77=some (.agg ⟨[.int .i64 0,.int .i64 0,.int .i64 0,.int .u64 0,.slice none 0 0,.int .u64 0,.string ⟨#[]⟩,.int .u64 0,.slice none 0 0,.int .i64 0,.int .i64 0,.int .i64 0,.int .i64 0,.int .i64 0]⟩):=by kernel_rfl
theorem qF:dE Tryz.prog 22 77 pi:=mC (by kernel_rfl) Og rfl
theorem Cn{t:Nat}(h:Nat.beq t 22=true):dE Tryz.prog t 77 pi:=by rw[eC h];exact qF
theorem Vq:dC Tryz.prog 62=some (.int .i64 0):=by kernel_rfl
theorem lB:dE Tryz.prog 23 62 [.int .i64 0]:=mC (by kernel_rfl) Vq rfl
theorem Hv{t:Nat}(h:Nat.beq t 23=true):dE Tryz.prog t 62 [.int .i64 0]:=by rw[eC h];exact lB
theorem T2:dC Tryz.prog 3=some (.int .i64 0):=by kernel_rfl
theorem Dh:dE Tryz.prog 26 3 [.int .i64 0]:=mC (by kernel_rfl) T2 rfl
theorem Gv{t:Nat}(h:Nat.beq t 26=true):dE Tryz.prog t 3 [.int .i64 0]:=by rw[eC h];exact Dh
theorem Uf:dC Tryz.prog 9=some (.string ⟨#[]⟩):=by kernel_rfl
theorem L5:dE Tryz.prog 51 9 [.string ⟨#[]⟩]:=mC (by kernel_rfl) Uf rfl
theorem T3{t:Nat}(h:Nat.beq t 51=true):dE Tryz.prog t 9 [.string ⟨#[]⟩]:=by rw[eC h];exact L5
theorem N7:dC Tryz.prog 137=some (.agg ⟨[.string ⟨#[]⟩,.int .u64 0]⟩):=by kernel_rfl
theorem Tt:dE Tryz.prog 64 137 [.string ⟨#[]⟩,.int .u64 0]:=mC (by kernel_rfl) N7 rfl
theorem oX{t:Nat}(h:Nat.beq t 64=true):dE Tryz.prog t 137 [.string ⟨#[]⟩,.int .u64 0]:=by rw[eC h];exact Tt
theorem N5:dC Tryz.prog 4=some (.bool false):=by kernel_rfl
theorem Ty:dE Tryz.prog 120 4 [.bool false]:=mC (by kernel_rfl) N5 rfl
theorem C1{t:Nat}(h:Nat.beq t 120=true):dE Tryz.prog t 4 [.bool false]:=by rw[eC h];exact Ty
end Go.Proofs.YtadnboagdhcedaaGreatDoor
