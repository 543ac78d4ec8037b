/- What the program's table says of the types that are used: closed facts. Written by a program. -/
import Derived.Test.YtadnboagdhcedaaGreatDoorGLst3
import Derived.Test.YtadnboagdhcedaaGreatDoorProg
set_option linter.unusedSimpArgs false
set_option linter.unusedVariables false
namespace Go.Proofs.YtadnboagdhcedaaGreatDoor
open Go.RowKit Go.Ct
def ux:List Nat:=[2,3,4,5,9,12,15,16,17,20,21,22,23,26,27,30,32,36,37,38,44,51,56,62,63,64,73,78,85,97,107,111,117,120,132,215,219]
theorem r7:(ux.all λ t=>one Tryz.prog t)=true:=by kernel_rfl
theorem Nb{t:Nat}(h:ux.elem t=true):one Tryz.prog t=true:=List.all_eq_true.1 r7 t (List.mem_of_elem_eq_true h)
def vg:List (Nat×Nat):=[(25,3),(29,2),(35,4),(40,4),(66,3),(68,8),(70,25),(77,14),(87,4),(93,54),(102,5),(106,2),(113,4),(115,52),(122,6),(137,2),(153,4),(182,2)]
theorem m8:(vg.all λ p=>kZ Tryz.prog p.1 p.2)=true:=by kernel_rfl
theorem Ni{t k:Nat}(h:(vg.any λ p=>Nat.beq p.1 t&&Nat.beq p.2 k)=true):kZ Tryz.prog t k=true:=by
 obtain⟨p,hp,ht⟩:=List.any_eq_true.1 h
 simp only[Bool.and_eq_true] at ht
 have h2:=List.all_eq_true.1 m8 p hp
 rwa [dY ht.1,dY ht.2] at h2
theorem Bu:dE Tryz.prog 25=some (.agg ⟨[.slice none 0 0,.slice none 0 0,.int .i64 0]⟩):=by kernel_rfl
theorem xE{t:Nat}(h:Nat.beq t 25=true):structOf Tryz.prog t [.slice none 0 0,.slice none 0 0,.int .i64 0]:=by rw[dY h];exact kA (by kernel_rfl) Bu
theorem vN:dE Tryz.prog 29=some (.agg ⟨[.int .i64 0,.bool false]⟩):=by kernel_rfl
theorem Cb{t:Nat}(h:Nat.beq t 29=true):dE Tryz.prog t=some (.agg ⟨[.int .i64 0,.bool false]⟩):=by rw[dY h];exact vN
theorem yL{t:Nat}(h:Nat.beq t 29=true):structOf Tryz.prog t [.int .i64 0,.bool false]:=by rw[dY h];exact kA (by kernel_rfl) vN
theorem vA:dE Tryz.prog 35=some (.agg ⟨[.slice none 0 0,.slice none 0 0,.int .i64 0,.int .i64 0]⟩):=by kernel_rfl
theorem rU{t:Nat}(h:Nat.beq t 35=true):placeOf Tryz.prog t [(0,3),(3,1)] [.slice none 0 0,.slice none 0 0,.int .i64 0,.int .i64 0]:=by rw[dY h];exact jU (by kernel_rfl) vA
theorem rJ:dE Tryz.prog 68=some (.agg ⟨[.int .i64 0,.bool false,.int .u64 0,.string ⟨#[]⟩,.int .i64 0,.int .i64 0,.int .i64 0,.bool false]⟩):=by kernel_rfl
theorem yW{t:Nat}(h:Nat.beq t 68=true):dE Tryz.prog t=some (.agg ⟨[.int .i64 0,.bool false,.int .u64 0,.string ⟨#[]⟩,.int .i64 0,.int .i64 0,.int .i64 0,.bool false]⟩):=by rw[dY h];exact rJ
theorem wV{t:Nat}(h:Nat.beq t 68=true):placeOf Tryz.prog t [(0,1),(1,1),(2,1),(3,1),(4,1),(5,1),(6,2)] [.int .i64 0,.bool false,.int .u64 0,.string ⟨#[]⟩,.int .i64 0,.int .i64 0,.int .i64 0,.bool false]:=by rw[dY h];exact jU (by kernel_rfl) rJ
theorem mG:dE Tryz.prog 70=some (.agg ⟨[.int .i64 0,.int .i64 0,.bool false,.int .i64 0,.int .i64 0,.int .i64 0,.int .i64 0,.int .u64 0,.int .u64 0,.string ⟨#[]⟩,.int .u64 0,.int .u64 0,.int .i64 0,.bool false,.bool false,.slice none 0 0,.slice none 0 0,.int .i64 0,.bool false,.int .u64 0,.string ⟨#[]⟩,.int .i64 0,.int .i64 0,.int .i64 0,.bool false]⟩):=by kernel_rfl
theorem rT{t:Nat}(h:Nat.beq t 70=true):dE Tryz.prog t=some (.agg ⟨[.int .i64 0,.int .i64 0,.bool false,.int .i64 0,.int .i64 0,.int .i64 0,.int .i64 0,.int .u64 0,.int .u64 0,.string ⟨#[]⟩,.int .u64 0,.int .u64 0,.int .i64 0,.bool false,.bool false,.slice none 0 0,.slice none 0 0,.int .i64 0,.bool false,.int .u64 0,.string ⟨#[]⟩,.int .i64 0,.int .i64 0,.int .i64 0,.bool false]⟩):=by rw[dY h];exact mG
theorem qN{t:Nat}(h:Nat.beq t 70=true):placeOf Tryz.prog t [(0,1),(1,2),(3,1),(4,1),(5,1),(6,1),(7,1),(8,1),(9,1),(10,1),(11,1),(12,1),(13,1),(14,3),(17,8)] [.int .i64 0,.int .i64 0,.bool false,.int .i64 0,.int .i64 0,.int .i64 0,.int .i64 0,.int .u64 0,.int .u64 0,.string ⟨#[]⟩,.int .u64 0,.int .u64 0,.int .i64 0,.bool false,.bool false,.slice none 0 0,.slice none 0 0,.int .i64 0,.bool false,.int .u64 0,.string ⟨#[]⟩,.int .i64 0,.int .i64 0,.int .i64 0,.bool false]:=by rw[dY h];exact jU (by kernel_rfl) mG
theorem vJ:dE Tryz.prog 77=some (.agg ⟨[.int .i64 0,.int .i64 0,.int .i64 0,.int .u64 0,.slice none 0 0,.int .u64 0,.string ⟨#[]⟩,.int .u64 0,.slice none 0 0,.int .i64 0,.int .i64 0,.int .i64 0,.int .i64 0,.int .i64 0]⟩):=by kernel_rfl
theorem Dy{t:Nat}(h:Nat.beq t 77=true):dE Tryz.prog t=some (.agg ⟨[.int .i64 0,.int .i64 0,.int .i64 0,.int .u64 0,.slice none 0 0,.int .u64 0,.string ⟨#[]⟩,.int .u64 0,.slice none 0 0,.int .i64 0,.int .i64 0,.int .i64 0,.int .i64 0,.int .i64 0]⟩):=by rw[dY h];exact vJ
theorem zK{t:Nat}(h:Nat.beq t 77=true):structOf Tryz.prog t [.int .i64 0,.int .i64 0,.int .i64 0,.int .u64 0,.slice none 0 0,.int .u64 0,.string ⟨#[]⟩,.int .u64 0,.slice none 0 0,.int .i64 0,.int .i64 0,.int .i64 0,.int .i64 0,.int .i64 0]:=by rw[dY h];exact kA (by kernel_rfl) vJ
theorem vX:dE Tryz.prog 87=some (.agg ⟨[.slice none 0 0,.slice none 0 0,.int .i64 0,.int .u64 0]⟩):=by kernel_rfl
theorem tI{t:Nat}(h:Nat.beq t 87=true):placeOf Tryz.prog t [(0,3),(3,1)] [.slice none 0 0,.slice none 0 0,.int .i64 0,.int .u64 0]:=by rw[dY h];exact jU (by kernel_rfl) vX
theorem pK:dE Tryz.prog 93=some (.agg ⟨[.int .i64 0,.int .i64 0,.int .i64 0,.int .i64 0,.int .i64 0,.int .i64 0,.int .i64 0,.int .i64 0,.int .i64 0,.int .i64 0,.int .i64 0,.int .i64 0,.int .i64 0,.int .i64 0,.int .i64 0,.int .u64 0,.slice none 0 0,.int .u64 0,.string ⟨#[]⟩,.int .u64 0,.slice none 0 0,.int .i64 0,.int .i64 0,.int .i64 0,.int .i64 0,.int .i64 0,.int .i64 0,.int .i64 0,.int .i64 0,.int .u64 0,.slice none 0 0,.int .u64 0,.string ⟨#[]⟩,.int .u64 0,.slice none 0 0,.int .i64 0,.int .i64 0,.int .i64 0,.int .i64 0,.int .i64 0,.int .i64 0,.int .i64 0,.int .i64 0,.int .u64 0,.slice none 0 0,.int .u64 0,.string ⟨#[]⟩,.int .u64 0,.slice none 0 0,.int .i64 0,.int .i64 0,.int .i64 0,.int .i64 0,.int .i64 0]⟩):=by kernel_rfl
theorem wC{t:Nat}(h:Nat.beq t 93=true):dE Tryz.prog t=some (.agg ⟨[.int .i64 0,.int .i64 0,.int .i64 0,.int .i64 0,.int .i64 0,.int .i64 0,.int .i64 0,.int .i64 0,.int .i64 0,.int .i64 0,.int .i64 0,.int .i64 0,.int .i64 0,.int .i64 0,.int .i64 0,.int .u64 0,.slice none 0 0,.int .u64 0,.string ⟨#[]⟩,.int .u64 0,.slice none 0 0,.int .i64 0,.int .i64 0,.int .i64 0,.int .i64 0,.int .i64 0,.int .i64 0,.int .i64 0,.int .i64 0,.int .u64 0,.slice none 0 0,.int .u64 0,.string ⟨#[]⟩,.int .u64 0,.slice none 0 0,.int .i64 0,.int .i64 0,.int .i64 0,.int .i64 0,.int .i64 0,.int .i64 0,.int .i64 0,.int .i64 0,.int .u64 0,.slice none 0 0,.int .u64 0,.string ⟨#[]⟩,.int .u64 0,.slice none 0 0,.int .i64 0,.int .i64 0,.int .i64 0,.int .i64 0,.int .i64 0]⟩):=by rw[dY h];exact pK
theorem gQ{t:Nat}(h:Nat.beq t 93=true):placeOf Tryz.prog t [(0,1),(1,11),(12,14),(26,14),(40,14)] [.int .i64 0,.int .i64 0,.int .i64 0,.int .i64 0,.int .i64 0,.int .i64 0,.int .i64 0,.int .i64 0,.int .i64 0,.int .i64 0,.int .i64 0,.int .i64 0,.int .i64 0,.int .i64 0,.int .i64 0,.int .u64 0,.slice none 0 0,.int .u64 0,.string ⟨#[]⟩,.int .u64 0,.slice none 0 0,.int .i64 0,.int .i64 0,.int .i64 0,.int .i64 0,.int .i64 0,.int .i64 0,.int .i64 0,.int .i64 0,.int .u64 0,.slice none 0 0,.int .u64 0,.string ⟨#[]⟩,.int .u64 0,.slice none 0 0,.int .i64 0,.int .i64 0,.int .i64 0,.int .i64 0,.int .i64 0,.int .i64 0,.int .i64 0,.int .i64 0,.int .u64 0,.slice none 0 0,.int .u64 0,.string ⟨#[]⟩,.int .u64 0,.slice none 0 0,.int .i64 0,.int .i64 0,.int .i64 0,.int .i64 0,.int .i64 0]:=by rw[dY h];exact jU (by kernel_rfl) pK
theorem Ay:dE Tryz.prog 113=some (.agg ⟨[.int .i64 0,.int .i64 0,.int .i64 0,.int .i64 0]⟩):=by kernel_rfl
theorem vU{t:Nat}(h:Nat.beq t 113=true):structOf Tryz.prog t [.int .i64 0,.int .i64 0,.int .i64 0,.int .i64 0]:=by rw[dY h];exact kA (by kernel_rfl) Ay
theorem tV:dE Tryz.prog 115=some (.agg ⟨[.pointer none,.int .i64 0,.int .i64 0,.bool false,.int .i64 0,.int .i64 0,.int .i64 0,.int .i64 0,.int .u64 0,.int .u64 0,.string ⟨#[]⟩,.int .u64 0,.int .u64 0,.int .i64 0,.bool false,.bool false,.slice none 0 0,.slice none 0 0,.int .i64 0,.bool false,.int .u64 0,.string ⟨#[]⟩,.int .i64 0,.int .i64 0,.int .i64 0,.bool false,.slice none 0 0,.slice none 0 0,.slice none 0 0,.slice none 0 0,.int .i64 0,.int .i64 0,.int .i64 0,.int .i64 0,.int .i64 0,.bool false,.int .i64 0,.int .i64 0,.int .i64 0,.int .i64 0,.bool false,.int .i64 0,.bool false,.int .u64 0,.string ⟨#[]⟩,.int .i64 0,.int .i64 0,.int .i64 0,.bool false,.bool false,.slice none 0 0,.slice none 0 0]⟩):=by kernel_rfl
theorem qS{t:Nat}(h:Nat.beq t 115=true):placeOf Tryz.prog t [(0,1),(1,25),(26,1),(27,1),(28,1),(29,1),(30,1),(31,1),(32,1),(33,1),(34,1),(35,1),(36,4),(40,1),(41,8),(49,3)] [.pointer none,.int .i64 0,.int .i64 0,.bool false,.int .i64 0,.int .i64 0,.int .i64 0,.int .i64 0,.int .u64 0,.int .u64 0,.string ⟨#[]⟩,.int .u64 0,.int .u64 0,.int .i64 0,.bool false,.bool false,.slice none 0 0,.slice none 0 0,.int .i64 0,.bool false,.int .u64 0,.string ⟨#[]⟩,.int .i64 0,.int .i64 0,.int .i64 0,.bool false,.slice none 0 0,.slice none 0 0,.slice none 0 0,.slice none 0 0,.int .i64 0,.int .i64 0,.int .i64 0,.int .i64 0,.int .i64 0,.bool false,.int .i64 0,.int .i64 0,.int .i64 0,.int .i64 0,.bool false,.int .i64 0,.bool false,.int .u64 0,.string ⟨#[]⟩,.int .i64 0,.int .i64 0,.int .i64 0,.bool false,.bool false,.slice none 0 0,.slice none 0 0]:=by rw[dY h];exact jU (by kernel_rfl) tV
theorem uZ:dE Tryz.prog 122=some (.agg ⟨[.slice none 0 0,.slice none 0 0,.int .i64 0,.slice none 0 0,.slice none 0 0,.slice none 0 0]⟩):=by kernel_rfl
theorem rX{t:Nat}(h:Nat.beq t 122=true):placeOf Tryz.prog t [(0,3),(3,1),(4,1),(5,1)] [.slice none 0 0,.slice none 0 0,.int .i64 0,.slice none 0 0,.slice none 0 0,.slice none 0 0]:=by rw[dY h];exact jU (by kernel_rfl) uZ
theorem vF:dE Tryz.prog 137=some (.agg ⟨[.string ⟨#[]⟩,.int .u64 0]⟩):=by kernel_rfl
theorem Ci{t:Nat}(h:Nat.beq t 137=true):dE Tryz.prog t=some (.agg ⟨[.string ⟨#[]⟩,.int .u64 0]⟩):=by rw[dY h];exact vF
theorem yY{t:Nat}(h:Nat.beq t 137=true):structOf Tryz.prog t [.string ⟨#[]⟩,.int .u64 0]:=by rw[dY h];exact kA (by kernel_rfl) vF
theorem zO:dE Tryz.prog 153=some (.agg ⟨[.slice none 0 0,.slice none 0 0,.int .i64 0,.int .i64 0]⟩):=by kernel_rfl
theorem uY{t:Nat}(h:Nat.beq t 153=true):structOf Tryz.prog t [.slice none 0 0,.slice none 0 0,.int .i64 0,.int .i64 0]:=by rw[dY h];exact kA (by kernel_rfl) zO
def ta:List (Nat×Nat):=[(25,0),(25,1),(25,2),(29,0),(29,1),(35,0),(40,0),(40,1),(40,2),(40,3),(66,0),(66,1),(66,2),(68,0),(68,1),(68,2),(68,3),(68,4),(68,5),(68,6),(70,0),(70,1),(77,0),(77,1),(77,2),(77,3),(77,4),(77,5),(77,6),(77,7),(77,8),(77,9),(77,10),(77,11),(77,12),(77,13),(87,0),(93,0),(93,1),(102,0),(102,1),(102,2),(102,3),(102,4),(106,0),(106,1),(113,0),(113,1),(113,2),(113,3),(115,0),(115,1),(122,0),(137,0),(137,1),(153,0),(153,1),(153,2),(153,3),(182,0),(182,1)]
theorem qi:(ta.all λ p=>cL Tryz.prog p.1 p.2==some p.2)=true:=by kernel_rfl
theorem si{t k:Nat}(h:(ta.any λ p=>Nat.beq p.1 t&&Nat.beq p.2 k)=true):cL Tryz.prog t k=some k:=by
 obtain⟨p,hp,ht⟩:=List.any_eq_true.1 h
 simp only[Bool.and_eq_true] at ht
 have h2:=eq_of_beq (List.all_eq_true.1 qi p hp)
 rwa [dY ht.1,dY ht.2] at h2
def j8:List (Nat×Nat):=[(25,0),(25,1),(25,2),(29,0),(29,1),(40,0),(40,1),(40,2),(40,3),(66,0),(66,1),(66,2),(68,0),(68,1),(68,2),(68,3),(68,4),(68,5),(70,0),(77,0),(77,1),(77,2),(77,3),(77,4),(77,5),(77,6),(77,7),(77,8),(77,9),(77,10),(77,11),(77,12),(77,13),(93,0),(102,0),(102,1),(102,2),(102,3),(102,4),(106,0),(106,1),(113,0),(113,1),(113,2),(113,3),(115,0),(137,0),(137,1),(153,0),(153,1),(153,2),(153,3),(182,0),(182,1)]
theorem dg:(j8.all λ p=>wU Tryz.prog p.1 p.2==some p.2)=true:=by kernel_rfl
theorem Qe{t k:Nat}(h:(j8.any λ p=>Nat.beq p.1 t&&Nat.beq p.2 k)=true):wU Tryz.prog t k=some k:=by
 obtain⟨p,hp,ht⟩:=List.any_eq_true.1 h
 simp only[Bool.and_eq_true] at ht
 have h2:=eq_of_beq (List.all_eq_true.1 dg p hp)
 rwa [dY ht.1,dY ht.2] at h2
theorem tW{t k:Nat}(h:(Nat.beq t 35&&Nat.beq k 1)=true):cL Tryz.prog t k=some 3:=by simp only[Bool.and_eq_true] at h;rw[dY h.1,dY h.2];kernel_rfl
theorem sD{t k:Nat}(h:(Nat.beq t 70&&Nat.beq k 2)=true):cL Tryz.prog t k=some 3:=by simp only[Bool.and_eq_true] at h;rw[dY h.1,dY h.2];kernel_rfl
theorem rV{t k:Nat}(h:(Nat.beq t 70&&Nat.beq k 3)=true):cL Tryz.prog t k=some 4:=by simp only[Bool.and_eq_true] at h;rw[dY h.1,dY h.2];kernel_rfl
theorem sC{t k:Nat}(h:(Nat.beq t 70&&Nat.beq k 4)=true):cL Tryz.prog t k=some 5:=by simp only[Bool.and_eq_true] at h;rw[dY h.1,dY h.2];kernel_rfl
theorem rW{t k:Nat}(h:(Nat.beq t 70&&Nat.beq k 7)=true):cL Tryz.prog t k=some 8:=by simp only[Bool.and_eq_true] at h;rw[dY h.1,dY h.2];kernel_rfl
theorem rQ{t k:Nat}(h:(Nat.beq t 70&&Nat.beq k 8)=true):cL Tryz.prog t k=some 9:=by simp only[Bool.and_eq_true] at h;rw[dY h.1,dY h.2];kernel_rfl
theorem rO{t k:Nat}(h:(Nat.beq t 70&&Nat.beq k 9)=true):cL Tryz.prog t k=some 10:=by simp only[Bool.and_eq_true] at h;rw[dY h.1,dY h.2];kernel_rfl
theorem qF{t k:Nat}(h:(Nat.beq t 70&&Nat.beq k 10)=true):cL Tryz.prog t k=some 11:=by simp only[Bool.and_eq_true] at h;rw[dY h.1,dY h.2];kernel_rfl
theorem qJ{t k:Nat}(h:(Nat.beq t 70&&Nat.beq k 11)=true):cL Tryz.prog t k=some 12:=by simp only[Bool.and_eq_true] at h;rw[dY h.1,dY h.2];kernel_rfl
theorem qI{t k:Nat}(h:(Nat.beq t 70&&Nat.beq k 12)=true):cL Tryz.prog t k=some 13:=by simp only[Bool.and_eq_true] at h;rw[dY h.1,dY h.2];kernel_rfl
theorem uW{t k:Nat}(h:(Nat.beq t 87&&Nat.beq k 1)=true):cL Tryz.prog t k=some 3:=by simp only[Bool.and_eq_true] at h;rw[dY h.1,dY h.2];kernel_rfl
theorem xI{t k:Nat}(h:(Nat.beq t 93&&Nat.beq k 2)=true):cL Tryz.prog t k=some 12:=by simp only[Bool.and_eq_true] at h;rw[dY h.1,dY h.2];kernel_rfl
theorem wR{t k:Nat}(h:(Nat.beq t 93&&Nat.beq k 3)=true):cL Tryz.prog t k=some 26:=by simp only[Bool.and_eq_true] at h;rw[dY h.1,dY h.2];kernel_rfl
theorem xL{t k:Nat}(h:(Nat.beq t 93&&Nat.beq k 4)=true):cL Tryz.prog t k=some 40:=by simp only[Bool.and_eq_true] at h;rw[dY h.1,dY h.2];kernel_rfl
theorem sA{t k:Nat}(h:(Nat.beq t 115&&Nat.beq k 2)=true):cL Tryz.prog t k=some 26:=by simp only[Bool.and_eq_true] at h;rw[dY h.1,dY h.2];kernel_rfl
theorem sB{t k:Nat}(h:(Nat.beq t 115&&Nat.beq k 3)=true):cL Tryz.prog t k=some 27:=by simp only[Bool.and_eq_true] at h;rw[dY h.1,dY h.2];kernel_rfl
theorem rY{t k:Nat}(h:(Nat.beq t 115&&Nat.beq k 4)=true):cL Tryz.prog t k=some 28:=by simp only[Bool.and_eq_true] at h;rw[dY h.1,dY h.2];kernel_rfl
theorem rZ{t k:Nat}(h:(Nat.beq t 115&&Nat.beq k 5)=true):cL Tryz.prog t k=some 29:=by simp only[Bool.and_eq_true] at h;rw[dY h.1,dY h.2];kernel_rfl
theorem rS{t k:Nat}(h:(Nat.beq t 115&&Nat.beq k 6)=true):cL Tryz.prog t k=some 30:=by simp only[Bool.and_eq_true] at h;rw[dY h.1,dY h.2];kernel_rfl
theorem sF{t k:Nat}(h:(Nat.beq t 115&&Nat.beq k 7)=true):cL Tryz.prog t k=some 31:=by simp only[Bool.and_eq_true] at h;rw[dY h.1,dY h.2];kernel_rfl
theorem sE{t k:Nat}(h:(Nat.beq t 115&&Nat.beq k 8)=true):cL Tryz.prog t k=some 32:=by simp only[Bool.and_eq_true] at h;rw[dY h.1,dY h.2];kernel_rfl
theorem rP{t k:Nat}(h:(Nat.beq t 115&&Nat.beq k 9)=true):cL Tryz.prog t k=some 33:=by simp only[Bool.and_eq_true] at h;rw[dY h.1,dY h.2];kernel_rfl
theorem pX{t k:Nat}(h:(Nat.beq t 115&&Nat.beq k 10)=true):cL Tryz.prog t k=some 34:=by simp only[Bool.and_eq_true] at h;rw[dY h.1,dY h.2];kernel_rfl
theorem qQ{t k:Nat}(h:(Nat.beq t 115&&Nat.beq k 11)=true):cL Tryz.prog t k=some 35:=by simp only[Bool.and_eq_true] at h;rw[dY h.1,dY h.2];kernel_rfl
theorem qK{t k:Nat}(h:(Nat.beq t 115&&Nat.beq k 12)=true):cL Tryz.prog t k=some 36:=by simp only[Bool.and_eq_true] at h;rw[dY h.1,dY h.2];kernel_rfl
theorem qY{t k:Nat}(h:(Nat.beq t 115&&Nat.beq k 13)=true):cL Tryz.prog t k=some 40:=by simp only[Bool.and_eq_true] at h;rw[dY h.1,dY h.2];kernel_rfl
theorem rB{t k:Nat}(h:(Nat.beq t 115&&Nat.beq k 14)=true):cL Tryz.prog t k=some 41:=by simp only[Bool.and_eq_true] at h;rw[dY h.1,dY h.2];kernel_rfl
theorem sH{t k:Nat}(h:(Nat.beq t 122&&Nat.beq k 1)=true):cL Tryz.prog t k=some 3:=by simp only[Bool.and_eq_true] at h;rw[dY h.1,dY h.2];kernel_rfl
theorem tK{t k:Nat}(h:(Nat.beq t 122&&Nat.beq k 2)=true):cL Tryz.prog t k=some 4:=by simp only[Bool.and_eq_true] at h;rw[dY h.1,dY h.2];kernel_rfl
def Zs:List (Nat×Nat):=[(22,77),(23,62),(26,3),(37,29),(38,73),(51,9),(63,182),(64,137),(97,102),(107,30),(111,27),(120,4)]
def kh(t:Nat):Nat:=(Zs.lookup t).getD 0
theorem ub:(Zs.all λ p=>(match Tryz.prog.underlying p.1 with|some (.slice e)=>Nat.beq e p.2&&Nat.beq (kh p.1) p.2|_=>false))=true:=by kernel_rfl
theorem s9{t:Nat}(h:(Zs.any λ p=>Nat.beq p.1 t)=true):Tryz.prog.underlying t=some (.slice (kh t)):=by
 obtain⟨p,hp,ht⟩:=List.any_eq_true.1 h
 have h2:=List.all_eq_true.1 ub p hp
 rw[<- dY ht]
 cases hu:Tryz.prog.underlying p.1 with
 | none=>rw[hu] at h2;simp at h2
 | some d =>
  rw[hu] at h2
  cases d<;>simp only[Bool.false_eq_true] at h2
  simp only[Bool.and_eq_true] at h2
  rw[dY h2.1,dY h2.2]
def tc:List (Nat×Nat):=[(3,1),(4,1),(9,1),(27,1),(29,2),(30,1),(62,1),(73,1),(77,14),(102,5),(137,2),(182,2)]
theorem ot:(tc.all λ p=>(Tryz.prog.info? p.1).map (·.size)==some p.2)=true:=by kernel_rfl
theorem rM{e s:Nat}(h:(tc.any λ p=>Nat.beq p.1 e&&Nat.beq p.2 s)=true):(Tryz.prog.info? e).map (·.size)=some s:=by
 obtain⟨p,hp,ht⟩:=List.any_eq_true.1 h
 simp only[Bool.and_eq_true] at ht
 have h2:=List.all_eq_true.1 ot p hp
 rw[<- dY ht.1,<- dY ht.2]
 exact eq_of_beq h2
theorem ny{t:Nat}(h:Nat.beq t 9=true):Tryz.prog.underlying t=some .string:=by
 rw[dY h];kernel_rfl
theorem im{t:Nat}(h:Nat.beq t 137=true):H5 Tryz.prog t=true:=by
 rw[dY h];kernel_rfl
def tf:List (Nat×IntKind):=[(2,.i64),(3,.i64),(5,.u8),(12,.u64),(21,.i32),(27,.i64),(30,.u64),(44,.i64),(62,.i64),(78,.u64),(215,.u32)]
theorem oz:(tf.all λ p=>vC Tryz.prog p.1 p.2)=true:=by kernel_rfl
theorem qC{t:Nat}{k:IntKind}(h:(tf.any λ p=>Nat.beq p.1 t&&p.2==k)=true):vC Tryz.prog t k=true:=by
 obtain⟨p,hp,ht⟩:=List.any_eq_true.1 h
 simp only[Bool.and_eq_true] at ht
 have h2:=List.all_eq_true.1 oz p hp
 rw[dY ht.1,eq_of_beq ht.2] at h2
 exact h2
def jz(P:Program)(t e s:Nat):Bool :=
 (match P.underlying t with|some (.slice e')=>Nat.beq e' e|_=>false)&&(match P.info? e with
  | some i=>Nat.beq i.size s&&Nat.ble i.bytes 256
  | none=>false)
theorem pW{P:Program}{t e:Nat}{z:Value}{zc:List Value}(h:jz P t e zc.length=true)(hz:dE P e=some z)(hzc:z.cells=⟨zc⟩):dR P t e zc:=by
 unfold jz at h
 simp only[Bool.and_eq_true] at h
 refine⟨?_,?_⟩
 ·cases hu:P.underlying t with
  | none=>simp[hu] at h
  | some d =>
   rw[hu] at h
   cases d<;>simp only[Bool.false_eq_true,false_and] at h
   rw[dY h.1]
 ·cases hi:P.info? e with
  | none=>simp[hi] at h
  | some i =>
   rw[hi] at h
   simp only[Bool.and_eq_true] at h
   exact⟨i,z,rfl,by simpa[dE,hi] using hz,hzc,dY h.2.1,Nat.le_of_ble_eq_true h.2.2⟩
def jq:List Value:=[.int .i64 0,.int .i64 0,.int .i64 0,.int .u64 0,.slice none 0 0,.int .u64 0,.string ⟨#[]⟩,.int .u64 0,.slice none 0 0,.int .i64 0,.int .i64 0,.int .i64 0,.int .i64 0,.int .i64 0]
theorem Mp:dE Tryz.prog 77=some (.agg ⟨[.int .i64 0,.int .i64 0,.int .i64 0,.int .u64 0,.slice none 0 0,.int .u64 0,.string ⟨#[]⟩,.int .u64 0,.slice none 0 0,.int .i64 0,.int .i64 0,.int .i64 0,.int .i64 0,.int .i64 0]⟩):=by kernel_rfl
theorem pS:dR Tryz.prog 22 77 jq:=pW (by kernel_rfl) Mp rfl
theorem Dz{t:Nat}(h:Nat.beq t 22=true):dR Tryz.prog t 77 jq:=by rw[dY h];exact pS
theorem Sr:dE Tryz.prog 62=some (.int .i64 0):=by kernel_rfl
theorem kM:dR Tryz.prog 23 62 [.int .i64 0]:=pW (by kernel_rfl) Sr rfl
theorem Gl{t:Nat}(h:Nat.beq t 23=true):dR Tryz.prog t 62 [.int .i64 0]:=by rw[dY h];exact kM
theorem Rz:dE Tryz.prog 3=some (.int .i64 0):=by kernel_rfl
theorem B1:dR Tryz.prog 26 3 [.int .i64 0]:=pW (by kernel_rfl) Rz rfl
theorem E6{t:Nat}(h:Nat.beq t 26=true):dR Tryz.prog t 3 [.int .i64 0]:=by rw[dY h];exact B1
theorem Su:dE Tryz.prog 9=some (.string ⟨#[]⟩):=by kernel_rfl
theorem W8:dR Tryz.prog 51 9 [.string ⟨#[]⟩]:=pW (by kernel_rfl) Su rfl
theorem Oo:dE Tryz.prog 137=some (.agg ⟨[.string ⟨#[]⟩,.int .u64 0]⟩):=by kernel_rfl
theorem To:dR Tryz.prog 64 137 [.string ⟨#[]⟩,.int .u64 0]:=pW (by kernel_rfl) Oo rfl
theorem nQ{t:Nat}(h:Nat.beq t 64=true):dR Tryz.prog t 137 [.string ⟨#[]⟩,.int .u64 0]:=by rw[dY h];exact To
theorem Oq:dE Tryz.prog 4=some (.bool false):=by kernel_rfl
theorem Tv:dR Tryz.prog 120 4 [.bool false]:=pW (by kernel_rfl) Oq rfl
theorem C7{t:Nat}(h:Nat.beq t 120=true):dR Tryz.prog t 4 [.bool false]:=by rw[dY h];exact Tv
end Go.Proofs.YtadnboagdhcedaaGreatDoor
