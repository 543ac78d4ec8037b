/- What the program's table says of the types that are used: closed facts. Written by a program. -/
import Derived.Test.YtadnboagdhcedaaGreatDoorGLst3
import Derived.Test.YtadnboagdhcedaaGreatDoorProg
set_option linter.unusedSimpArgs false
set_option linter.unusedVariables false
namespace Go.Proofs.YtadnboagdhcedaaGreatDoor
open Go.RowKit Go.Ct
def aA1:List Nat:=[2,3,4,5,9,12,15,16,17,20,21,22,23,26,27,30,32,36,37,38,44,51,56,62,63,64,73,78,85,97,107,111,117,120,132,215,219]
theorem aAr:(aA1.all λ t=>one Tryz.prog t)=true:=by kernel_rfl
theorem Hh{t:Nat}(h:aA1.elem t=true):one Tryz.prog t=true:=List.all_eq_true.1 aAr t (List.mem_of_elem_eq_true h)
def aBN:List (Nat×Nat):=[(25,3),(29,2),(35,4),(40,4),(66,3),(68,8),(70,25),(77,14),(87,4),(93,54),(102,5),(106,2),(113,4),(115,52),(122,6),(137,2),(153,4),(182,2)]
theorem xr:(aBN.all λ p=>jK Tryz.prog p.1 p.2)=true:=by kernel_rfl
theorem Tp{t k:Nat}(h:(aBN.any λ p=>Nat.beq p.1 t&&Nat.beq p.2 k)=true):jK Tryz.prog t k=true:=by
 obtain⟨p,hp,ht⟩:=List.any_eq_true.1 h
 simp only[Bool.and_eq_true] at ht
 have h2:=List.all_eq_true.1 xr p hp
 rwa [fJ ht.1,fJ ht.2] at h2
theorem xA:dS Tryz.prog 25=some (.agg ⟨[.slice none 0 0,.slice none 0 0,.int .i64 0]⟩):=by kernel_rfl
theorem Em{t:Nat}(h:Nat.beq t 25=true):dS Tryz.prog t=some (.agg ⟨[.slice none 0 0,.slice none 0 0,.int .i64 0]⟩):=by rw[fJ h];exact xA
theorem Bd{t:Nat}(h:Nat.beq t 25=true):structOf Tryz.prog t [.slice none 0 0,.slice none 0 0,.int .i64 0]:=by rw[fJ h];exact iP (by kernel_rfl) xA
theorem zH:dS Tryz.prog 29=some (.agg ⟨[.int .i64 0,.bool false]⟩):=by kernel_rfl
theorem Gp{t:Nat}(h:Nat.beq t 29=true):dS Tryz.prog t=some (.agg ⟨[.int .i64 0,.bool false]⟩):=by rw[fJ h];exact zH
theorem Cm{t:Nat}(h:Nat.beq t 29=true):structOf Tryz.prog t [.int .i64 0,.bool false]:=by rw[fJ h];exact iP (by kernel_rfl) zH
theorem yT:dS Tryz.prog 35=some (.agg ⟨[.slice none 0 0,.slice none 0 0,.int .i64 0,.int .i64 0]⟩):=by kernel_rfl
theorem uW{t:Nat}(h:Nat.beq t 35=true):placeOf Tryz.prog t [(0,3),(3,1)] [.slice none 0 0,.slice none 0 0,.int .i64 0,.int .i64 0]:=by rw[fJ h];exact lQ (by kernel_rfl) yT
theorem vV:dS Tryz.prog 40=some (.agg ⟨[.pointer none,.int .u64 0,.slice none 0 0,.slice none 0 0]⟩):=by kernel_rfl
theorem sL{t:Nat}(h:Nat.beq t 40=true):structOf Tryz.prog t [.pointer none,.int .u64 0,.slice none 0 0,.slice none 0 0]:=by rw[fJ h];exact iP (by kernel_rfl) vV
theorem uE:dS Tryz.prog 68=some (.agg ⟨[.int .i64 0,.bool false,.int .u64 0,.string ⟨#[]⟩,.int .i64 0,.int .i64 0,.int .i64 0,.bool false]⟩):=by kernel_rfl
theorem Db{t:Nat}(h:Nat.beq t 68=true):dS Tryz.prog t=some (.agg ⟨[.int .i64 0,.bool false,.int .u64 0,.string ⟨#[]⟩,.int .i64 0,.int .i64 0,.int .i64 0,.bool false]⟩):=by rw[fJ h];exact uE
theorem Bn{t:Nat}(h:Nat.beq t 68=true):placeOf Tryz.prog t [(0,1),(1,1),(2,1),(3,1),(4,1),(5,1),(6,2)] [.int .i64 0,.bool false,.int .u64 0,.string ⟨#[]⟩,.int .i64 0,.int .i64 0,.int .i64 0,.bool false]:=by rw[fJ h];exact lQ (by kernel_rfl) uE
theorem oB:dS Tryz.prog 70=some (.agg ⟨[.int .i64 0,.int .i64 0,.bool false,.int .i64 0,.int .i64 0,.int .i64 0,.int .i64 0,.int .u64 0,.int .u64 0,.string ⟨#[]⟩,.int .u64 0,.int .u64 0,.int .i64 0,.bool false,.bool false,.slice none 0 0,.slice none 0 0,.int .i64 0,.bool false,.int .u64 0,.string ⟨#[]⟩,.int .i64 0,.int .i64 0,.int .i64 0,.bool false]⟩):=by kernel_rfl
theorem uO{t:Nat}(h:Nat.beq t 70=true):dS Tryz.prog t=some (.agg ⟨[.int .i64 0,.int .i64 0,.bool false,.int .i64 0,.int .i64 0,.int .i64 0,.int .i64 0,.int .u64 0,.int .u64 0,.string ⟨#[]⟩,.int .u64 0,.int .u64 0,.int .i64 0,.bool false,.bool false,.slice none 0 0,.slice none 0 0,.int .i64 0,.bool false,.int .u64 0,.string ⟨#[]⟩,.int .i64 0,.int .i64 0,.int .i64 0,.bool false]⟩):=by rw[fJ h];exact oB
theorem tO{t:Nat}(h:Nat.beq t 70=true):placeOf Tryz.prog t [(0,1),(1,2),(3,1),(4,1),(5,1),(6,1),(7,1),(8,1),(9,1),(10,1),(11,1),(12,1),(13,1),(14,3),(17,8)] [.int .i64 0,.int .i64 0,.bool false,.int .i64 0,.int .i64 0,.int .i64 0,.int .i64 0,.int .u64 0,.int .u64 0,.string ⟨#[]⟩,.int .u64 0,.int .u64 0,.int .i64 0,.bool false,.bool false,.slice none 0 0,.slice none 0 0,.int .i64 0,.bool false,.int .u64 0,.string ⟨#[]⟩,.int .i64 0,.int .i64 0,.int .i64 0,.bool false]:=by rw[fJ h];exact lQ (by kernel_rfl) oB
theorem zI:dS Tryz.prog 77=some (.agg ⟨[.int .i64 0,.int .i64 0,.int .i64 0,.int .u64 0,.slice none 0 0,.int .u64 0,.string ⟨#[]⟩,.int .u64 0,.slice none 0 0,.int .i64 0,.int .i64 0,.int .i64 0,.int .i64 0,.int .i64 0]⟩):=by kernel_rfl
theorem Gy{t:Nat}(h:Nat.beq t 77=true):dS Tryz.prog t=some (.agg ⟨[.int .i64 0,.int .i64 0,.int .i64 0,.int .u64 0,.slice none 0 0,.int .u64 0,.string ⟨#[]⟩,.int .u64 0,.slice none 0 0,.int .i64 0,.int .i64 0,.int .i64 0,.int .i64 0,.int .i64 0]⟩):=by rw[fJ h];exact zI
theorem Cx{t:Nat}(h:Nat.beq t 77=true):structOf Tryz.prog t [.int .i64 0,.int .i64 0,.int .i64 0,.int .u64 0,.slice none 0 0,.int .u64 0,.string ⟨#[]⟩,.int .u64 0,.slice none 0 0,.int .i64 0,.int .i64 0,.int .i64 0,.int .i64 0,.int .i64 0]:=by rw[fJ h];exact iP (by kernel_rfl) zI
theorem Ah:dS Tryz.prog 87=some (.agg ⟨[.slice none 0 0,.slice none 0 0,.int .i64 0,.int .u64 0]⟩):=by kernel_rfl
theorem wU{t:Nat}(h:Nat.beq t 87=true):placeOf Tryz.prog t [(0,3),(3,1)] [.slice none 0 0,.slice none 0 0,.int .i64 0,.int .u64 0]:=by rw[fJ h];exact lQ (by kernel_rfl) Ah
theorem sE:dS Tryz.prog 93=some (.agg ⟨[.int .i64 0,.int .i64 0,.int .i64 0,.int .i64 0,.int .i64 0,.int .i64 0,.int .i64 0,.int .i64 0,.int .i64 0,.int .i64 0,.int .i64 0,.int .i64 0,.int .i64 0,.int .i64 0,.int .i64 0,.int .u64 0,.slice none 0 0,.int .u64 0,.string ⟨#[]⟩,.int .u64 0,.slice none 0 0,.int .i64 0,.int .i64 0,.int .i64 0,.int .i64 0,.int .i64 0,.int .i64 0,.int .i64 0,.int .i64 0,.int .u64 0,.slice none 0 0,.int .u64 0,.string ⟨#[]⟩,.int .u64 0,.slice none 0 0,.int .i64 0,.int .i64 0,.int .i64 0,.int .i64 0,.int .i64 0,.int .i64 0,.int .i64 0,.int .i64 0,.int .u64 0,.slice none 0 0,.int .u64 0,.string ⟨#[]⟩,.int .u64 0,.slice none 0 0,.int .i64 0,.int .i64 0,.int .i64 0,.int .i64 0,.int .i64 0]⟩):=by kernel_rfl
theorem B2{t:Nat}(h:Nat.beq t 93=true):dS Tryz.prog t=some (.agg ⟨[.int .i64 0,.int .i64 0,.int .i64 0,.int .i64 0,.int .i64 0,.int .i64 0,.int .i64 0,.int .i64 0,.int .i64 0,.int .i64 0,.int .i64 0,.int .i64 0,.int .i64 0,.int .i64 0,.int .i64 0,.int .u64 0,.slice none 0 0,.int .u64 0,.string ⟨#[]⟩,.int .u64 0,.slice none 0 0,.int .i64 0,.int .i64 0,.int .i64 0,.int .i64 0,.int .i64 0,.int .i64 0,.int .i64 0,.int .i64 0,.int .u64 0,.slice none 0 0,.int .u64 0,.string ⟨#[]⟩,.int .u64 0,.slice none 0 0,.int .i64 0,.int .i64 0,.int .i64 0,.int .i64 0,.int .i64 0,.int .i64 0,.int .i64 0,.int .i64 0,.int .u64 0,.slice none 0 0,.int .u64 0,.string ⟨#[]⟩,.int .u64 0,.slice none 0 0,.int .i64 0,.int .i64 0,.int .i64 0,.int .i64 0,.int .i64 0]⟩):=by rw[fJ h];exact sE
theorem jG{t:Nat}(h:Nat.beq t 93=true):placeOf Tryz.prog t [(0,1),(1,11),(12,14),(26,14),(40,14)] [.int .i64 0,.int .i64 0,.int .i64 0,.int .i64 0,.int .i64 0,.int .i64 0,.int .i64 0,.int .i64 0,.int .i64 0,.int .i64 0,.int .i64 0,.int .i64 0,.int .i64 0,.int .i64 0,.int .i64 0,.int .u64 0,.slice none 0 0,.int .u64 0,.string ⟨#[]⟩,.int .u64 0,.slice none 0 0,.int .i64 0,.int .i64 0,.int .i64 0,.int .i64 0,.int .i64 0,.int .i64 0,.int .i64 0,.int .i64 0,.int .u64 0,.slice none 0 0,.int .u64 0,.string ⟨#[]⟩,.int .u64 0,.slice none 0 0,.int .i64 0,.int .i64 0,.int .i64 0,.int .i64 0,.int .i64 0,.int .i64 0,.int .i64 0,.int .i64 0,.int .u64 0,.slice none 0 0,.int .u64 0,.string ⟨#[]⟩,.int .u64 0,.slice none 0 0,.int .i64 0,.int .i64 0,.int .i64 0,.int .i64 0,.int .i64 0]:=by rw[fJ h];exact lQ (by kernel_rfl) sE
theorem uS:dS Tryz.prog 102=some (.agg ⟨[.int .i64 0,.int .i64 0,.int .i64 0,.int .i64 0,.slice none 0 0]⟩):=by kernel_rfl
theorem rL{t:Nat}(h:Nat.beq t 102=true):structOf Tryz.prog t [.int .i64 0,.int .i64 0,.int .i64 0,.int .i64 0,.slice none 0 0]:=by rw[fJ h];exact iP (by kernel_rfl) uS
theorem yP:dS Tryz.prog 106=some (.agg ⟨[.slice none 0 0,.int .i64 0]⟩):=by kernel_rfl
theorem tZ{t:Nat}(h:Nat.beq t 106=true):structOf Tryz.prog t [.slice none 0 0,.int .i64 0]:=by rw[fJ h];exact iP (by kernel_rfl) yP
theorem Ek:dS Tryz.prog 113=some (.agg ⟨[.int .i64 0,.int .i64 0,.int .i64 0,.int .i64 0]⟩):=by kernel_rfl
theorem Ag{t:Nat}(h:Nat.beq t 113=true):structOf Tryz.prog t [.int .i64 0,.int .i64 0,.int .i64 0,.int .i64 0]:=by rw[fJ h];exact iP (by kernel_rfl) Ek
theorem vW:dS Tryz.prog 115=some (.agg ⟨[.pointer none,.int .i64 0,.int .i64 0,.bool false,.int .i64 0,.int .i64 0,.int .i64 0,.int .i64 0,.int .u64 0,.int .u64 0,.string ⟨#[]⟩,.int .u64 0,.int .u64 0,.int .i64 0,.bool false,.bool false,.slice none 0 0,.slice none 0 0,.int .i64 0,.bool false,.int .u64 0,.string ⟨#[]⟩,.int .i64 0,.int .i64 0,.int .i64 0,.bool false,.slice none 0 0,.slice none 0 0,.slice none 0 0,.slice none 0 0,.int .i64 0,.int .i64 0,.int .i64 0,.int .i64 0,.int .i64 0,.bool false,.int .i64 0,.int .i64 0,.int .i64 0,.int .i64 0,.bool false,.int .i64 0,.bool false,.int .u64 0,.string ⟨#[]⟩,.int .i64 0,.int .i64 0,.int .i64 0,.bool false,.bool false,.slice none 0 0,.slice none 0 0]⟩):=by kernel_rfl
theorem tW{t:Nat}(h:Nat.beq t 115=true):placeOf Tryz.prog t [(0,1),(1,25),(26,1),(27,1),(28,1),(29,1),(30,1),(31,1),(32,1),(33,1),(34,1),(35,1),(36,4),(40,1),(41,8),(49,3)] [.pointer none,.int .i64 0,.int .i64 0,.bool false,.int .i64 0,.int .i64 0,.int .i64 0,.int .i64 0,.int .u64 0,.int .u64 0,.string ⟨#[]⟩,.int .u64 0,.int .u64 0,.int .i64 0,.bool false,.bool false,.slice none 0 0,.slice none 0 0,.int .i64 0,.bool false,.int .u64 0,.string ⟨#[]⟩,.int .i64 0,.int .i64 0,.int .i64 0,.bool false,.slice none 0 0,.slice none 0 0,.slice none 0 0,.slice none 0 0,.int .i64 0,.int .i64 0,.int .i64 0,.int .i64 0,.int .i64 0,.bool false,.int .i64 0,.int .i64 0,.int .i64 0,.int .i64 0,.bool false,.int .i64 0,.bool false,.int .u64 0,.string ⟨#[]⟩,.int .i64 0,.int .i64 0,.int .i64 0,.bool false,.bool false,.slice none 0 0,.slice none 0 0]:=by rw[fJ h];exact lQ (by kernel_rfl) vW
theorem yS:dS Tryz.prog 122=some (.agg ⟨[.slice none 0 0,.slice none 0 0,.int .i64 0,.slice none 0 0,.slice none 0 0,.slice none 0 0]⟩):=by kernel_rfl
theorem uX{t:Nat}(h:Nat.beq t 122=true):placeOf Tryz.prog t [(0,3),(3,1),(4,1),(5,1)] [.slice none 0 0,.slice none 0 0,.int .i64 0,.slice none 0 0,.slice none 0 0,.slice none 0 0]:=by rw[fJ h];exact lQ (by kernel_rfl) yS
theorem yZ:dS Tryz.prog 137=some (.agg ⟨[.string ⟨#[]⟩,.int .u64 0]⟩):=by kernel_rfl
theorem Ff{t:Nat}(h:Nat.beq t 137=true):dS Tryz.prog t=some (.agg ⟨[.string ⟨#[]⟩,.int .u64 0]⟩):=by rw[fJ h];exact yZ
theorem Df{t:Nat}(h:Nat.beq t 137=true):structOf Tryz.prog t [.string ⟨#[]⟩,.int .u64 0]:=by rw[fJ h];exact iP (by kernel_rfl) yZ
theorem Cq:dS Tryz.prog 153=some (.agg ⟨[.slice none 0 0,.slice none 0 0,.int .i64 0,.int .i64 0]⟩):=by kernel_rfl
theorem yU{t:Nat}(h:Nat.beq t 153=true):structOf Tryz.prog t [.slice none 0 0,.slice none 0 0,.int .i64 0,.int .i64 0]:=by rw[fJ h];exact iP (by kernel_rfl) Cq
def aA9:List (Nat×Nat):=[(25,0),(25,1),(25,2),(29,0),(29,1),(35,0),(40,0),(40,1),(40,2),(40,3),(66,0),(66,1),(66,2),(68,0),(68,1),(68,2),(68,3),(68,4),(68,5),(68,6),(70,0),(70,1),(77,0),(77,1),(77,2),(77,3),(77,4),(77,5),(77,6),(77,7),(77,8),(77,9),(77,10),(77,11),(77,12),(77,13),(87,0),(93,0),(93,1),(102,0),(102,1),(102,2),(102,3),(102,4),(106,0),(106,1),(113,0),(113,1),(113,2),(113,3),(115,0),(115,1),(122,0),(137,0),(137,1),(153,0),(153,1),(153,2),(153,3),(182,0),(182,1)]
theorem aAs:(aA9.all λ p=>dG Tryz.prog p.1 p.2==some p.2)=true:=by kernel_rfl
theorem xz{t k:Nat}(h:(aA9.any λ p=>Nat.beq p.1 t&&Nat.beq p.2 k)=true):dG Tryz.prog t k=some k:=by
 obtain⟨p,hp,ht⟩:=List.any_eq_true.1 h
 simp only[Bool.and_eq_true] at ht
 have h2:=eq_of_beq (List.all_eq_true.1 aAs p hp)
 rwa [fJ ht.1,fJ ht.2] at h2
def vf:List (Nat×Nat):=[(25,0),(25,1),(25,2),(29,0),(29,1),(40,0),(40,1),(40,2),(40,3),(66,0),(66,1),(66,2),(68,0),(68,1),(68,2),(68,3),(68,4),(68,5),(70,0),(77,0),(77,1),(77,2),(77,3),(77,4),(77,5),(77,6),(77,7),(77,8),(77,9),(77,10),(77,11),(77,12),(77,13),(93,0),(102,0),(102,1),(102,2),(102,3),(102,4),(106,0),(106,1),(113,0),(113,1),(113,2),(113,3),(115,0),(137,0),(137,1),(153,0),(153,1),(153,2),(153,3),(182,0),(182,1)]
theorem sg:(vf.all λ p=>Bs Tryz.prog p.1 p.2==some p.2)=true:=by kernel_rfl
theorem V3{t k:Nat}(h:(vf.any λ p=>Nat.beq p.1 t&&Nat.beq p.2 k)=true):Bs Tryz.prog t k=some k:=by
 obtain⟨p,hp,ht⟩:=List.any_eq_true.1 h
 simp only[Bool.and_eq_true] at ht
 have h2:=eq_of_beq (List.all_eq_true.1 sg p hp)
 rwa [fJ ht.1,fJ ht.2] at h2
theorem vI{t k:Nat}(h:(Nat.beq t 35&&Nat.beq k 1)=true):dG Tryz.prog t k=some 3:=by simp only[Bool.and_eq_true] at h;rw[fJ h.1,fJ h.2];kernel_rfl
theorem uJ{t k:Nat}(h:(Nat.beq t 70&&Nat.beq k 2)=true):dG Tryz.prog t k=some 3:=by simp only[Bool.and_eq_true] at h;rw[fJ h.1,fJ h.2];kernel_rfl
theorem uM{t k:Nat}(h:(Nat.beq t 70&&Nat.beq k 3)=true):dG Tryz.prog t k=some 4:=by simp only[Bool.and_eq_true] at h;rw[fJ h.1,fJ h.2];kernel_rfl
theorem vB{t k:Nat}(h:(Nat.beq t 70&&Nat.beq k 4)=true):dG Tryz.prog t k=some 5:=by simp only[Bool.and_eq_true] at h;rw[fJ h.1,fJ h.2];kernel_rfl
theorem vD{t k:Nat}(h:(Nat.beq t 70&&Nat.beq k 7)=true):dG Tryz.prog t k=some 8:=by simp only[Bool.and_eq_true] at h;rw[fJ h.1,fJ h.2];kernel_rfl
theorem uT{t k:Nat}(h:(Nat.beq t 70&&Nat.beq k 8)=true):dG Tryz.prog t k=some 9:=by simp only[Bool.and_eq_true] at h;rw[fJ h.1,fJ h.2];kernel_rfl
theorem uP{t k:Nat}(h:(Nat.beq t 70&&Nat.beq k 9)=true):dG Tryz.prog t k=some 10:=by simp only[Bool.and_eq_true] at h;rw[fJ h.1,fJ h.2];kernel_rfl
theorem tL{t k:Nat}(h:(Nat.beq t 70&&Nat.beq k 10)=true):dG Tryz.prog t k=some 11:=by simp only[Bool.and_eq_true] at h;rw[fJ h.1,fJ h.2];kernel_rfl
theorem sS{t k:Nat}(h:(Nat.beq t 70&&Nat.beq k 11)=true):dG Tryz.prog t k=some 12:=by simp only[Bool.and_eq_true] at h;rw[fJ h.1,fJ h.2];kernel_rfl
theorem sZ{t k:Nat}(h:(Nat.beq t 70&&Nat.beq k 12)=true):dG Tryz.prog t k=some 13:=by simp only[Bool.and_eq_true] at h;rw[fJ h.1,fJ h.2];kernel_rfl
theorem yY{t k:Nat}(h:(Nat.beq t 87&&Nat.beq k 1)=true):dG Tryz.prog t k=some 3:=by simp only[Bool.and_eq_true] at h;rw[fJ h.1,fJ h.2];kernel_rfl
theorem B7{t k:Nat}(h:(Nat.beq t 93&&Nat.beq k 2)=true):dG Tryz.prog t k=some 12:=by simp only[Bool.and_eq_true] at h;rw[fJ h.1,fJ h.2];kernel_rfl
theorem Bo{t k:Nat}(h:(Nat.beq t 93&&Nat.beq k 3)=true):dG Tryz.prog t k=some 26:=by simp only[Bool.and_eq_true] at h;rw[fJ h.1,fJ h.2];kernel_rfl
theorem Cb{t k:Nat}(h:(Nat.beq t 93&&Nat.beq k 4)=true):dG Tryz.prog t k=some 40:=by simp only[Bool.and_eq_true] at h;rw[fJ h.1,fJ h.2];kernel_rfl
theorem uZ{t k:Nat}(h:(Nat.beq t 115&&Nat.beq k 2)=true):dG Tryz.prog t k=some 26:=by simp only[Bool.and_eq_true] at h;rw[fJ h.1,fJ h.2];kernel_rfl
theorem uR{t k:Nat}(h:(Nat.beq t 115&&Nat.beq k 3)=true):dG Tryz.prog t k=some 27:=by simp only[Bool.and_eq_true] at h;rw[fJ h.1,fJ h.2];kernel_rfl
theorem vA{t k:Nat}(h:(Nat.beq t 115&&Nat.beq k 4)=true):dG Tryz.prog t k=some 28:=by simp only[Bool.and_eq_true] at h;rw[fJ h.1,fJ h.2];kernel_rfl
theorem uK{t k:Nat}(h:(Nat.beq t 115&&Nat.beq k 5)=true):dG Tryz.prog t k=some 29:=by simp only[Bool.and_eq_true] at h;rw[fJ h.1,fJ h.2];kernel_rfl
theorem uI{t k:Nat}(h:(Nat.beq t 115&&Nat.beq k 6)=true):dG Tryz.prog t k=some 30:=by simp only[Bool.and_eq_true] at h;rw[fJ h.1,fJ h.2];kernel_rfl
theorem uL{t k:Nat}(h:(Nat.beq t 115&&Nat.beq k 7)=true):dG Tryz.prog t k=some 31:=by simp only[Bool.and_eq_true] at h;rw[fJ h.1,fJ h.2];kernel_rfl
theorem uQ{t k:Nat}(h:(Nat.beq t 115&&Nat.beq k 8)=true):dG Tryz.prog t k=some 32:=by simp only[Bool.and_eq_true] at h;rw[fJ h.1,fJ h.2];kernel_rfl
theorem vC{t k:Nat}(h:(Nat.beq t 115&&Nat.beq k 9)=true):dG Tryz.prog t k=some 33:=by simp only[Bool.and_eq_true] at h;rw[fJ h.1,fJ h.2];kernel_rfl
theorem tH{t k:Nat}(h:(Nat.beq t 115&&Nat.beq k 10)=true):dG Tryz.prog t k=some 34:=by simp only[Bool.and_eq_true] at h;rw[fJ h.1,fJ h.2];kernel_rfl
theorem tY{t k:Nat}(h:(Nat.beq t 115&&Nat.beq k 11)=true):dG Tryz.prog t k=some 35:=by simp only[Bool.and_eq_true] at h;rw[fJ h.1,fJ h.2];kernel_rfl
theorem uC{t k:Nat}(h:(Nat.beq t 115&&Nat.beq k 12)=true):dG Tryz.prog t k=some 36:=by simp only[Bool.and_eq_true] at h;rw[fJ h.1,fJ h.2];kernel_rfl
theorem tQ{t k:Nat}(h:(Nat.beq t 115&&Nat.beq k 13)=true):dG Tryz.prog t k=some 40:=by simp only[Bool.and_eq_true] at h;rw[fJ h.1,fJ h.2];kernel_rfl
theorem tJ{t k:Nat}(h:(Nat.beq t 115&&Nat.beq k 14)=true):dG Tryz.prog t k=some 41:=by simp only[Bool.and_eq_true] at h;rw[fJ h.1,fJ h.2];kernel_rfl
theorem vZ{t k:Nat}(h:(Nat.beq t 122&&Nat.beq k 1)=true):dG Tryz.prog t k=some 3:=by simp only[Bool.and_eq_true] at h;rw[fJ h.1,fJ h.2];kernel_rfl
theorem xC{t k:Nat}(h:(Nat.beq t 122&&Nat.beq k 2)=true):dG Tryz.prog t k=some 4:=by simp only[Bool.and_eq_true] at h;rw[fJ h.1,fJ h.2];kernel_rfl
def Z0:List (Nat×Nat):=[(22,77),(23,62),(26,3),(37,29),(38,73),(51,9),(63,182),(64,137),(97,102),(107,30),(111,27),(120,4)]
def vm(t:Nat):Nat:=(Z0.lookup t).getD 0
theorem aBd:(Z0.all λ p=>(match Tryz.prog.underlying p.1 with|some (.slice e)=>Nat.beq e p.2&&Nat.beq (vm p.1) p.2|_=>false))=true:=by kernel_rfl
theorem aB4{t:Nat}(h:(Z0.any λ p=>Nat.beq p.1 t)=true):Tryz.prog.underlying t=some (.slice (vm t)):=by
 obtain⟨p,hp,ht⟩:=List.any_eq_true.1 h
 have h2:=List.all_eq_true.1 aBd p hp
 rw[<- fJ ht]
 cases hu:Tryz.prog.underlying p.1 with
 | none=>rw[hu] at h2;simp at h2
 | some d =>
  rw[hu] at h2
  cases d<;>simp only[Bool.false_eq_true] at h2
  simp only[Bool.and_eq_true] at h2
  rw[fJ h2.1,fJ h2.2]
def aAS:List (Nat×Nat):=[(3,1),(4,1),(9,1),(27,1),(29,2),(30,1),(62,1),(73,1),(77,14),(102,5),(137,2),(182,2)]
theorem xo:(aAS.all λ p=>(Tryz.prog.info? p.1).map (·.size)==some p.2)=true:=by kernel_rfl
theorem uH{e s:Nat}(h:(aAS.any λ p=>Nat.beq p.1 e&&Nat.beq p.2 s)=true):(Tryz.prog.info? e).map (·.size)=some s:=by
 obtain⟨p,hp,ht⟩:=List.any_eq_true.1 h
 simp only[Bool.and_eq_true] at ht
 have h2:=List.all_eq_true.1 xo p hp
 rw[<- fJ ht.1,<- fJ ht.2]
 exact eq_of_beq h2
theorem rz{t:Nat}(h:Nat.beq t 4=true):Tryz.prog.underlying t=some .bool:=by
 rw[fJ h];kernel_rfl
theorem w3{t:Nat}(h:Nat.beq t 9=true):Tryz.prog.underlying t=some .string:=by
 rw[fJ h];kernel_rfl
theorem nh{t:Nat}(h:Nat.beq t 137=true):Mp Tryz.prog t=true:=by
 rw[fJ h];kernel_rfl
def aBI:List (Nat×IntKind):=[(2,.i64),(3,.i64),(5,.u8),(12,.u64),(21,.i32),(27,.i64),(30,.u64),(44,.i64),(62,.i64),(78,.u64),(215,.u32)]
theorem aAq:(aBI.all λ p=>zO Tryz.prog p.1 p.2)=true:=by kernel_rfl
theorem tN{t:Nat}{k:IntKind}(h:(aBI.any λ p=>Nat.beq p.1 t&&p.2==k)=true):zO Tryz.prog t k=true:=by
 obtain⟨p,hp,ht⟩:=List.any_eq_true.1 h
 simp only[Bool.and_eq_true] at ht
 have h2:=List.all_eq_true.1 aAq p hp
 rw[fJ ht.1,eq_of_beq ht.2] at h2
 exact h2
def wo(P:Program)(t e s:Nat):Bool :=
 (match P.underlying t with|some (.slice e')=>Nat.beq e' e|_=>false)&&(match P.info? e with
  | some i=>Nat.beq i.size s&&Nat.ble i.bytes 256
  | none=>false)
theorem mS{P:Program}{t e:Nat}{z:Value}{zc:List Value}(h:wo P t e zc.length=true)(hz:dS P e=some z)(hzc:z.cells=⟨zc⟩):dY P t e zc:=by
 unfold wo at h
 simp only[Bool.and_eq_true] at h
 refine⟨?_,?_⟩
 ·cases hu:P.underlying t with
  | none=>simp[hu] at h
  | some d =>
   rw[hu] at h
   cases d<;>simp only[Bool.false_eq_true,false_and] at h
   rw[fJ h.1]
 ·cases hi:P.info? e with
  | none=>simp[hi] at h
  | some i =>
   rw[hi] at h
   simp only[Bool.and_eq_true] at h
   exact⟨i,z,rfl,by simpa[dS,hi] using hz,hzc,fJ h.2.1,Nat.le_of_ble_eq_true h.2.2⟩
def vw:List Value:=[.int .i64 0,.int .i64 0,.int .i64 0,.int .u64 0,.slice none 0 0,.int .u64 0,.string ⟨#[]⟩,.int .u64 0,.slice none 0 0,.int .i64 0,.int .i64 0,.int .i64 0,.int .i64 0,.int .i64 0]
theorem Tu:dS Tryz.prog 77=some (.agg ⟨[.int .i64 0,.int .i64 0,.int .i64 0,.int .u64 0,.slice none 0 0,.int .u64 0,.string ⟨#[]⟩,.int .u64 0,.slice none 0 0,.int .i64 0,.int .i64 0,.int .i64 0,.int .i64 0,.int .i64 0]⟩):=by kernel_rfl
theorem rZ:dY Tryz.prog 22 77 vw:=mS (by kernel_rfl) Tu rfl
theorem Gm{t:Nat}(h:Nat.beq t 22=true):dY Tryz.prog t 77 vw:=by rw[fJ h];exact rZ
theorem Yx:dS Tryz.prog 62=some (.int .i64 0):=by kernel_rfl
theorem mV:dY Tryz.prog 23 62 [.int .i64 0]:=mS (by kernel_rfl) Yx rfl
theorem Jm{t:Nat}(h:Nat.beq t 23=true):dY Tryz.prog t 62 [.int .i64 0]:=by rw[fJ h];exact mV
theorem Xz:dS Tryz.prog 3=some (.int .i64 0):=by kernel_rfl
theorem Hj:dY Tryz.prog 26 3 [.int .i64 0]:=mS (by kernel_rfl) Xz rfl
theorem Jk{t:Nat}(h:Nat.beq t 26=true):dY Tryz.prog t 3 [.int .i64 0]:=by rw[fJ h];exact Hj
theorem Yy:dS Tryz.prog 9=some (.string ⟨#[]⟩):=by kernel_rfl
theorem jv:dY Tryz.prog 51 9 [.string ⟨#[]⟩]:=mS (by kernel_rfl) Yy rfl
theorem Xg{t:Nat}(h:Nat.beq t 51=true):dY Tryz.prog t 9 [.string ⟨#[]⟩]:=by rw[fJ h];exact jv
theorem Td:dS Tryz.prog 137=some (.agg ⟨[.string ⟨#[]⟩,.int .u64 0]⟩):=by kernel_rfl
theorem Yh:dY Tryz.prog 64 137 [.string ⟨#[]⟩,.int .u64 0]:=mS (by kernel_rfl) Td rfl
theorem pW{t:Nat}(h:Nat.beq t 64=true):dY Tryz.prog t 137 [.string ⟨#[]⟩,.int .u64 0]:=by rw[fJ h];exact Yh
theorem Uf:dS Tryz.prog 4=some (.bool false):=by kernel_rfl
theorem Yu:dY Tryz.prog 120 4 [.bool false]:=mS (by kernel_rfl) Uf rfl
theorem Gh{t:Nat}(h:Nat.beq t 120=true):dY Tryz.prog t 4 [.bool false]:=by rw[fJ h];exact Yu
end Go.Proofs.YtadnboagdhcedaaGreatDoor
