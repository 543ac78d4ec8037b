/- What the program's table says of the types that are used: closed facts. Written by a program. -/
import Derived.Test.YtbajmaoegmbfgaaGreatGLst3
import Derived.Test.YtbajmaoegmbfgaaGreatProg
set_option linter.unusedSimpArgs false
set_option linter.unusedVariables false
namespace Go.Proofs.YtbajmaoegmbfgaaGreat
open Go.RowKit Go.Ct
def aAw:List Nat:=[2,3,4,5,9,12,15,16,17,20,21,22,23,25,27,30,31,32,33,37,42,44,45,50,56,62,74,85,95,102,108,115,122,123,129,130,151,156,169,209,255,259]
theorem yu:(aAw.all λ t=>one Tryz.prog t)=true:=by kernel_rfl
theorem M4{t:Nat}(h:aAw.elem t=true):one Tryz.prog t=true:=List.all_eq_true.1 yu t (List.mem_of_elem_eq_true h)
def aAQ:List (Nat×Nat):=[(29,2),(35,4),(39,5),(47,14),(52,3),(54,4),(64,8),(76,2),(87,3),(89,25),(114,2),(125,3),(128,4),(132,14),(139,4),(141,17),(153,52),(159,5),(164,2),(230,2)]
theorem vm:(aAQ.all λ p=>iS Tryz.prog p.1 p.2)=true:=by kernel_rfl
theorem Th{t k:Nat}(h:(aAQ.any λ p=>Nat.beq p.1 t&&Nat.beq p.2 k)=true):iS Tryz.prog t k=true:=by
 obtain⟨p,hp,ht⟩:=List.any_eq_true.1 h
 simp only[Bool.and_eq_true] at ht
 have h2:=List.all_eq_true.1 vm p hp
 rwa [eN ht.1,eN ht.2] at h2
theorem yG:cK Tryz.prog 29=some (.agg ⟨[.int .i64 0,.bool false]⟩):=by kernel_rfl
theorem Gt{t:Nat}(h:Nat.beq t 29=true):cK Tryz.prog t=some (.agg ⟨[.int .i64 0,.bool false]⟩):=by rw[eN h];exact yG
theorem Ce{t:Nat}(h:Nat.beq t 29=true):structOf Tryz.prog t [.int .i64 0,.bool false]:=by rw[eN h];exact gG (by kernel_rfl) yG
theorem vF:cK Tryz.prog 35=some (.agg ⟨[.pointer none,.int .u64 0,.slice none 0 0,.slice none 0 0]⟩):=by kernel_rfl
theorem sA{t:Nat}(h:Nat.beq t 35=true):structOf Tryz.prog t [.pointer none,.int .u64 0,.slice none 0 0,.slice none 0 0]:=by rw[eN h];exact gG (by kernel_rfl) vF
theorem mT:cK Tryz.prog 39=some (.agg ⟨[.int .i64 0,.int .i64 0,.int .i64 0,.int .i64 0,.slice none 0 0]⟩):=by kernel_rfl
theorem sK{t:Nat}(h:Nat.beq t 39=true):cK Tryz.prog t=some (.agg ⟨[.int .i64 0,.int .i64 0,.int .i64 0,.int .i64 0,.slice none 0 0]⟩):=by rw[eN h];exact mT
theorem qY{t:Nat}(h:Nat.beq t 39=true):structOf Tryz.prog t [.int .i64 0,.int .i64 0,.int .i64 0,.int .i64 0,.slice none 0 0]:=by rw[eN h];exact gG (by kernel_rfl) mT
theorem yJ:cK Tryz.prog 47=some (.agg ⟨[.int .i64 0,.int .i64 0,.int .i64 0,.int .u64 0,.slice none 0 0,.int .u64 0,.string ⟨#[]⟩,.int .u64 0,.slice none 0 0,.int .i64 0,.int .i64 0,.int .i64 0,.int .i64 0,.int .i64 0]⟩):=by kernel_rfl
theorem H0{t:Nat}(h:Nat.beq t 47=true):cK Tryz.prog t=some (.agg ⟨[.int .i64 0,.int .i64 0,.int .i64 0,.int .u64 0,.slice none 0 0,.int .u64 0,.string ⟨#[]⟩,.int .u64 0,.slice none 0 0,.int .i64 0,.int .i64 0,.int .i64 0,.int .i64 0,.int .i64 0]⟩):=by rw[eN h];exact yJ
theorem Cf{t:Nat}(h:Nat.beq t 47=true):structOf Tryz.prog t [.int .i64 0,.int .i64 0,.int .i64 0,.int .u64 0,.slice none 0 0,.int .u64 0,.string ⟨#[]⟩,.int .u64 0,.slice none 0 0,.int .i64 0,.int .i64 0,.int .i64 0,.int .i64 0,.int .i64 0]:=by rw[eN h];exact gG (by kernel_rfl) yJ
theorem vW:cK Tryz.prog 52=some (.agg ⟨[.slice none 0 0,.slice none 0 0,.int .i64 0]⟩):=by kernel_rfl
theorem D7{t:Nat}(h:Nat.beq t 52=true):cK Tryz.prog t=some (.agg ⟨[.slice none 0 0,.slice none 0 0,.int .i64 0]⟩):=by rw[eN h];exact vW
theorem zW{t:Nat}(h:Nat.beq t 52=true):structOf Tryz.prog t [.slice none 0 0,.slice none 0 0,.int .i64 0]:=by rw[eN h];exact gG (by kernel_rfl) vW
theorem yA:cK Tryz.prog 54=some (.agg ⟨[.slice none 0 0,.slice none 0 0,.int .i64 0,.int .i64 0]⟩):=by kernel_rfl
theorem uQ{t:Nat}(h:Nat.beq t 54=true):placeOf Tryz.prog t [(0,3),(3,1)] [.slice none 0 0,.slice none 0 0,.int .i64 0,.int .i64 0]:=by rw[eN h];exact lC (by kernel_rfl) yA
theorem tX:cK Tryz.prog 64=some (.agg ⟨[.int .i64 0,.bool false,.int .u64 0,.string ⟨#[]⟩,.int .i64 0,.int .i64 0,.int .i64 0,.bool false]⟩):=by kernel_rfl
theorem Bx{t:Nat}(h:Nat.beq t 64=true):cK Tryz.prog t=some (.agg ⟨[.int .i64 0,.bool false,.int .u64 0,.string ⟨#[]⟩,.int .i64 0,.int .i64 0,.int .i64 0,.bool false]⟩):=by rw[eN h];exact tX
theorem A6{t:Nat}(h:Nat.beq t 64=true):placeOf Tryz.prog t [(0,1),(1,1),(2,1),(3,1),(4,1),(5,1),(6,2)] [.int .i64 0,.bool false,.int .u64 0,.string ⟨#[]⟩,.int .i64 0,.int .i64 0,.int .i64 0,.bool false]:=by rw[eN h];exact lC (by kernel_rfl) tX
theorem oM:cK Tryz.prog 76=some (.agg ⟨[.pointer none,.pointer none]⟩):=by kernel_rfl
theorem vH{t:Nat}(h:Nat.beq t 76=true):cK Tryz.prog t=some (.agg ⟨[.pointer none,.pointer none]⟩):=by rw[eN h];exact oM
theorem sJ{t:Nat}(h:Nat.beq t 76=true):structOf Tryz.prog t [.pointer none,.pointer none]:=by rw[eN h];exact gG (by kernel_rfl) oM
theorem nY:cK Tryz.prog 89=some (.agg ⟨[.int .i64 0,.int .i64 0,.bool false,.int .i64 0,.int .i64 0,.int .i64 0,.int .i64 0,.int .u64 0,.int .u64 0,.string ⟨#[]⟩,.int .u64 0,.int .u64 0,.int .i64 0,.bool false,.bool false,.slice none 0 0,.slice none 0 0,.int .i64 0,.bool false,.int .u64 0,.string ⟨#[]⟩,.int .i64 0,.int .i64 0,.int .i64 0,.bool false]⟩):=by kernel_rfl
theorem uD{t:Nat}(h:Nat.beq t 89=true):cK Tryz.prog t=some (.agg ⟨[.int .i64 0,.int .i64 0,.bool false,.int .i64 0,.int .i64 0,.int .i64 0,.int .i64 0,.int .u64 0,.int .u64 0,.string ⟨#[]⟩,.int .u64 0,.int .u64 0,.int .i64 0,.bool false,.bool false,.slice none 0 0,.slice none 0 0,.int .i64 0,.bool false,.int .u64 0,.string ⟨#[]⟩,.int .i64 0,.int .i64 0,.int .i64 0,.bool false]⟩):=by rw[eN h];exact nY
theorem sI{t:Nat}(h:Nat.beq t 89=true):placeOf Tryz.prog t [(0,1),(1,2),(3,1),(4,1),(5,1),(6,1),(7,1),(8,1),(9,1),(10,1),(11,1),(12,1),(13,1),(14,3),(17,8)] [.int .i64 0,.int .i64 0,.bool false,.int .i64 0,.int .i64 0,.int .i64 0,.int .i64 0,.int .u64 0,.int .u64 0,.string ⟨#[]⟩,.int .u64 0,.int .u64 0,.int .i64 0,.bool false,.bool false,.slice none 0 0,.slice none 0 0,.int .i64 0,.bool false,.int .u64 0,.string ⟨#[]⟩,.int .i64 0,.int .i64 0,.int .i64 0,.bool false]:=by rw[eN h];exact lC (by kernel_rfl) nY
theorem xZ:cK Tryz.prog 114=some (.agg ⟨[.slice none 0 0,.int .i64 0]⟩):=by kernel_rfl
theorem sL{t:Nat}(h:Nat.beq t 114=true):structOf Tryz.prog t [.slice none 0 0,.int .i64 0]:=by rw[eN h];exact gG (by kernel_rfl) xZ
theorem zZ:cK Tryz.prog 125=some (.agg ⟨[.nilIface,.int .i64 0,.bool false]⟩):=by kernel_rfl
theorem Iu{t:Nat}(h:Nat.beq t 125=true):cK Tryz.prog t=some (.agg ⟨[.nilIface,.int .i64 0,.bool false]⟩):=by rw[eN h];exact zZ
theorem Fw{t:Nat}(h:Nat.beq t 125=true):placeOf Tryz.prog t [(0,1),(1,2)] [.nilIface,.int .i64 0,.bool false]:=by rw[eN h];exact lC (by kernel_rfl) zZ
theorem tU:cK Tryz.prog 128=some (.agg ⟨[.int .i64 0,.int .i64 0,.int .i64 0,.int .i64 0]⟩):=by kernel_rfl
theorem Bu{t:Nat}(h:Nat.beq t 128=true):cK Tryz.prog t=some (.agg ⟨[.int .i64 0,.int .i64 0,.int .i64 0,.int .i64 0]⟩):=by rw[eN h];exact tU
theorem zA{t:Nat}(h:Nat.beq t 128=true):structOf Tryz.prog t [.int .i64 0,.int .i64 0,.int .i64 0,.int .i64 0]:=by rw[eN h];exact gG (by kernel_rfl) tU
theorem vA:cK Tryz.prog 132=some (.agg ⟨[.int .i64 0,.int .i64 0,.int .i64 0,.int .i64 0,.nilFunc,.nilFunc,.int .i64 0,.bool false,.int .u64 0,.string ⟨#[]⟩,.int .i64 0,.int .i64 0,.int .i64 0,.bool false]⟩):=by kernel_rfl
theorem Dv{t:Nat}(h:Nat.beq t 132=true):cK Tryz.prog t=some (.agg ⟨[.int .i64 0,.int .i64 0,.int .i64 0,.int .i64 0,.nilFunc,.nilFunc,.int .i64 0,.bool false,.int .u64 0,.string ⟨#[]⟩,.int .i64 0,.int .i64 0,.int .i64 0,.bool false]⟩):=by rw[eN h];exact vA
theorem Bi{t:Nat}(h:Nat.beq t 132=true):placeOf Tryz.prog t [(0,4),(4,1),(5,1),(6,8)] [.int .i64 0,.int .i64 0,.int .i64 0,.int .i64 0,.nilFunc,.nilFunc,.int .i64 0,.bool false,.int .u64 0,.string ⟨#[]⟩,.int .i64 0,.int .i64 0,.int .i64 0,.bool false]:=by rw[eN h];exact lC (by kernel_rfl) vA
theorem Ci:cK Tryz.prog 139=some (.agg ⟨[.slice none 0 0,.slice none 0 0,.int .i64 0,.int .i64 0]⟩):=by kernel_rfl
theorem yB{t:Nat}(h:Nat.beq t 139=true):structOf Tryz.prog t [.slice none 0 0,.slice none 0 0,.int .i64 0,.int .i64 0]:=by rw[eN h];exact gG (by kernel_rfl) Ci
theorem Ga:cK Tryz.prog 141=some (.agg ⟨[.nilIface,.int .i64 0,.int .i64 0,.int .i64 0,.int .i64 0,.nilFunc,.nilFunc,.int .i64 0,.bool false,.int .u64 0,.string ⟨#[]⟩,.int .i64 0,.int .i64 0,.int .i64 0,.bool false,.int .i64 0,.bool false]⟩):=by kernel_rfl
theorem Cn{t:Nat}(h:Nat.beq t 141=true):placeOf Tryz.prog t [(0,1),(1,14),(15,1),(16,1)] [.nilIface,.int .i64 0,.int .i64 0,.int .i64 0,.int .i64 0,.nilFunc,.nilFunc,.int .i64 0,.bool false,.int .u64 0,.string ⟨#[]⟩,.int .i64 0,.int .i64 0,.int .i64 0,.bool false,.int .i64 0,.bool false]:=by rw[eN h];exact lC (by kernel_rfl) Ga
theorem vX:cK Tryz.prog 153=some (.agg ⟨[.pointer none,.int .i64 0,.int .i64 0,.bool false,.int .i64 0,.int .i64 0,.int .i64 0,.int .i64 0,.int .u64 0,.int .u64 0,.string ⟨#[]⟩,.int .u64 0,.int .u64 0,.int .i64 0,.bool false,.bool false,.slice none 0 0,.slice none 0 0,.int .i64 0,.bool false,.int .u64 0,.string ⟨#[]⟩,.int .i64 0,.int .i64 0,.int .i64 0,.bool false,.slice none 0 0,.slice none 0 0,.slice none 0 0,.slice none 0 0,.int .i64 0,.int .i64 0,.int .i64 0,.int .i64 0,.int .i64 0,.bool false,.int .i64 0,.int .i64 0,.int .i64 0,.int .i64 0,.bool false,.int .i64 0,.bool false,.int .u64 0,.string ⟨#[]⟩,.int .i64 0,.int .i64 0,.int .i64 0,.bool false,.bool false,.slice none 0 0,.slice none 0 0]⟩):=by kernel_rfl
theorem tA{t:Nat}(h:Nat.beq t 153=true):placeOf Tryz.prog t [(0,1),(1,25),(26,1),(27,1),(28,1),(29,1),(30,1),(31,1),(32,1),(33,1),(34,1),(35,1),(36,4),(40,1),(41,8),(49,3)] [.pointer none,.int .i64 0,.int .i64 0,.bool false,.int .i64 0,.int .i64 0,.int .i64 0,.int .i64 0,.int .u64 0,.int .u64 0,.string ⟨#[]⟩,.int .u64 0,.int .u64 0,.int .i64 0,.bool false,.bool false,.slice none 0 0,.slice none 0 0,.int .i64 0,.bool false,.int .u64 0,.string ⟨#[]⟩,.int .i64 0,.int .i64 0,.int .i64 0,.bool false,.slice none 0 0,.slice none 0 0,.slice none 0 0,.slice none 0 0,.int .i64 0,.int .i64 0,.int .i64 0,.int .i64 0,.int .i64 0,.bool false,.int .i64 0,.int .i64 0,.int .i64 0,.int .i64 0,.bool false,.int .i64 0,.bool false,.int .u64 0,.string ⟨#[]⟩,.int .i64 0,.int .i64 0,.int .i64 0,.bool false,.bool false,.slice none 0 0,.slice none 0 0]:=by rw[eN h];exact lC (by kernel_rfl) vX
theorem yT:cK Tryz.prog 164=some (.agg ⟨[.string ⟨#[]⟩,.int .u64 0]⟩):=by kernel_rfl
theorem Fi{t:Nat}(h:Nat.beq t 164=true):cK Tryz.prog t=some (.agg ⟨[.string ⟨#[]⟩,.int .u64 0]⟩):=by rw[eN h];exact yT
theorem B8{t:Nat}(h:Nat.beq t 164=true):structOf Tryz.prog t [.string ⟨#[]⟩,.int .u64 0]:=by rw[eN h];exact gG (by kernel_rfl) yT
def aBl:List (Nat×Nat):=[(29,0),(29,1),(35,0),(35,1),(35,2),(35,3),(39,0),(39,1),(39,2),(39,3),(39,4),(47,0),(47,1),(47,2),(47,3),(47,4),(47,5),(47,6),(47,7),(47,8),(47,9),(47,10),(47,11),(47,12),(47,13),(52,0),(52,1),(52,2),(54,0),(64,0),(64,1),(64,2),(64,3),(64,4),(64,5),(64,6),(76,0),(76,1),(87,0),(87,1),(87,2),(89,0),(89,1),(114,0),(114,1),(125,0),(125,1),(128,0),(128,1),(128,2),(128,3),(132,0),(139,0),(139,1),(139,2),(139,3),(141,0),(141,1),(153,0),(153,1),(159,0),(164,0),(164,1),(230,0),(230,1)]
theorem yz:(aBl.all λ p=>cS Tryz.prog p.1 p.2==some p.2)=true:=by kernel_rfl
theorem y8{t k:Nat}(h:(aBl.any λ p=>Nat.beq p.1 t&&Nat.beq p.2 k)=true):cS Tryz.prog t k=some k:=by
 obtain⟨p,hp,ht⟩:=List.any_eq_true.1 h
 simp only[Bool.and_eq_true] at ht
 have h2:=eq_of_beq (List.all_eq_true.1 yz p hp)
 rwa [eN ht.1,eN ht.2] at h2
def um:List (Nat×Nat):=[(29,0),(29,1),(35,0),(35,1),(35,2),(35,3),(39,0),(39,1),(39,2),(39,3),(39,4),(47,0),(47,1),(47,2),(47,3),(47,4),(47,5),(47,6),(47,7),(47,8),(47,9),(47,10),(47,11),(47,12),(47,13),(52,0),(52,1),(52,2),(64,0),(64,1),(64,2),(64,3),(64,4),(64,5),(76,0),(76,1),(87,0),(87,1),(87,2),(89,0),(114,0),(114,1),(125,0),(128,0),(128,1),(128,2),(128,3),(139,0),(139,1),(139,2),(139,3),(141,0),(153,0),(164,0),(164,1),(230,0),(230,1)]
theorem sv:(um.all λ p=>A3 Tryz.prog p.1 p.2==some p.2)=true:=by kernel_rfl
theorem Mr{t k:Nat}(h:(um.any λ p=>Nat.beq p.1 t&&Nat.beq p.2 k)=true):A3 Tryz.prog t k=some k:=by
 obtain⟨p,hp,ht⟩:=List.any_eq_true.1 h
 simp only[Bool.and_eq_true] at ht
 have h2:=eq_of_beq (List.all_eq_true.1 sv p hp)
 rwa [eN ht.1,eN ht.2] at h2
theorem vT{t k:Nat}(h:(Nat.beq t 54&&Nat.beq k 1)=true):cS Tryz.prog t k=some 3:=by simp only[Bool.and_eq_true] at h;rw[eN h.1,eN h.2];kernel_rfl
theorem uJ{t k:Nat}(h:(Nat.beq t 89&&Nat.beq k 2)=true):cS Tryz.prog t k=some 3:=by simp only[Bool.and_eq_true] at h;rw[eN h.1,eN h.2];kernel_rfl
theorem uE{t k:Nat}(h:(Nat.beq t 89&&Nat.beq k 3)=true):cS Tryz.prog t k=some 4:=by simp only[Bool.and_eq_true] at h;rw[eN h.1,eN h.2];kernel_rfl
theorem uP{t k:Nat}(h:(Nat.beq t 89&&Nat.beq k 4)=true):cS Tryz.prog t k=some 5:=by simp only[Bool.and_eq_true] at h;rw[eN h.1,eN h.2];kernel_rfl
theorem uM{t k:Nat}(h:(Nat.beq t 89&&Nat.beq k 7)=true):cS Tryz.prog t k=some 8:=by simp only[Bool.and_eq_true] at h;rw[eN h.1,eN h.2];kernel_rfl
theorem uO{t k:Nat}(h:(Nat.beq t 89&&Nat.beq k 8)=true):cS Tryz.prog t k=some 9:=by simp only[Bool.and_eq_true] at h;rw[eN h.1,eN h.2];kernel_rfl
theorem uA{t k:Nat}(h:(Nat.beq t 89&&Nat.beq k 9)=true):cS Tryz.prog t k=some 10:=by simp only[Bool.and_eq_true] at h;rw[eN h.1,eN h.2];kernel_rfl
theorem tL{t k:Nat}(h:(Nat.beq t 89&&Nat.beq k 10)=true):cS Tryz.prog t k=some 11:=by simp only[Bool.and_eq_true] at h;rw[eN h.1,eN h.2];kernel_rfl
theorem tM{t k:Nat}(h:(Nat.beq t 89&&Nat.beq k 11)=true):cS Tryz.prog t k=some 12:=by simp only[Bool.and_eq_true] at h;rw[eN h.1,eN h.2];kernel_rfl
theorem sO{t k:Nat}(h:(Nat.beq t 89&&Nat.beq k 12)=true):cS Tryz.prog t k=some 13:=by simp only[Bool.and_eq_true] at h;rw[eN h.1,eN h.2];kernel_rfl
theorem Dt{t k:Nat}(h:(Nat.beq t 132&&Nat.beq k 1)=true):cS Tryz.prog t k=some 4:=by simp only[Bool.and_eq_true] at h;rw[eN h.1,eN h.2];kernel_rfl
theorem D2{t k:Nat}(h:(Nat.beq t 132&&Nat.beq k 2)=true):cS Tryz.prog t k=some 5:=by simp only[Bool.and_eq_true] at h;rw[eN h.1,eN h.2];kernel_rfl
theorem D4{t k:Nat}(h:(Nat.beq t 132&&Nat.beq k 3)=true):cS Tryz.prog t k=some 6:=by simp only[Bool.and_eq_true] at h;rw[eN h.1,eN h.2];kernel_rfl
theorem D5{t k:Nat}(h:(Nat.beq t 141&&Nat.beq k 2)=true):cS Tryz.prog t k=some 15:=by simp only[Bool.and_eq_true] at h;rw[eN h.1,eN h.2];kernel_rfl
theorem D1{t k:Nat}(h:(Nat.beq t 141&&Nat.beq k 3)=true):cS Tryz.prog t k=some 16:=by simp only[Bool.and_eq_true] at h;rw[eN h.1,eN h.2];kernel_rfl
theorem uN{t k:Nat}(h:(Nat.beq t 153&&Nat.beq k 2)=true):cS Tryz.prog t k=some 26:=by simp only[Bool.and_eq_true] at h;rw[eN h.1,eN h.2];kernel_rfl
theorem uB{t k:Nat}(h:(Nat.beq t 153&&Nat.beq k 3)=true):cS Tryz.prog t k=some 27:=by simp only[Bool.and_eq_true] at h;rw[eN h.1,eN h.2];kernel_rfl
theorem uL{t k:Nat}(h:(Nat.beq t 153&&Nat.beq k 4)=true):cS Tryz.prog t k=some 28:=by simp only[Bool.and_eq_true] at h;rw[eN h.1,eN h.2];kernel_rfl
theorem uS{t k:Nat}(h:(Nat.beq t 153&&Nat.beq k 5)=true):cS Tryz.prog t k=some 29:=by simp only[Bool.and_eq_true] at h;rw[eN h.1,eN h.2];kernel_rfl
theorem uU{t k:Nat}(h:(Nat.beq t 153&&Nat.beq k 6)=true):cS Tryz.prog t k=some 30:=by simp only[Bool.and_eq_true] at h;rw[eN h.1,eN h.2];kernel_rfl
theorem uH{t k:Nat}(h:(Nat.beq t 153&&Nat.beq k 7)=true):cS Tryz.prog t k=some 31:=by simp only[Bool.and_eq_true] at h;rw[eN h.1,eN h.2];kernel_rfl
theorem uT{t k:Nat}(h:(Nat.beq t 153&&Nat.beq k 8)=true):cS Tryz.prog t k=some 32:=by simp only[Bool.and_eq_true] at h;rw[eN h.1,eN h.2];kernel_rfl
theorem tZ{t k:Nat}(h:(Nat.beq t 153&&Nat.beq k 9)=true):cS Tryz.prog t k=some 33:=by simp only[Bool.and_eq_true] at h;rw[eN h.1,eN h.2];kernel_rfl
theorem sS{t k:Nat}(h:(Nat.beq t 153&&Nat.beq k 10)=true):cS Tryz.prog t k=some 34:=by simp only[Bool.and_eq_true] at h;rw[eN h.1,eN h.2];kernel_rfl
theorem tB{t k:Nat}(h:(Nat.beq t 153&&Nat.beq k 11)=true):cS Tryz.prog t k=some 35:=by simp only[Bool.and_eq_true] at h;rw[eN h.1,eN h.2];kernel_rfl
theorem sW{t k:Nat}(h:(Nat.beq t 153&&Nat.beq k 12)=true):cS Tryz.prog t k=some 36:=by simp only[Bool.and_eq_true] at h;rw[eN h.1,eN h.2];kernel_rfl
theorem sR{t k:Nat}(h:(Nat.beq t 153&&Nat.beq k 13)=true):cS Tryz.prog t k=some 40:=by simp only[Bool.and_eq_true] at h;rw[eN h.1,eN h.2];kernel_rfl
theorem sP{t k:Nat}(h:(Nat.beq t 153&&Nat.beq k 14)=true):cS Tryz.prog t k=some 41:=by simp only[Bool.and_eq_true] at h;rw[eN h.1,eN h.2];kernel_rfl
def aBs:List Nat:=[15,16,17,23,25,30,42,56,74,156,259]
theorem zt:(aBs.all λ t=>I8 Tryz.prog t)=true:=by kernel_rfl
theorem Sq{t:Nat}(h:aBs.elem t=true):I8 Tryz.prog t=true:=List.all_eq_true.1 zt t (List.mem_of_elem_eq_true h)
def au:List (Nat×Nat):=[(22,3),(32,29),(33,74),(44,37),(45,164),(50,47),(85,230),(95,4),(102,9),(108,76),(115,39),(151,27),(169,31)]
def th(t:Nat):Nat:=(au.lookup t).getD 0
theorem aBB:(au.all λ p=>(match Tryz.prog.underlying p.1 with|some (.slice e)=>Nat.beq e p.2&&Nat.beq (th p.1) p.2|_=>false))=true:=by kernel_rfl
theorem aAu{t:Nat}(h:(au.any λ p=>Nat.beq p.1 t)=true):Tryz.prog.underlying t=some (.slice (th t)):=by
 obtain⟨p,hp,ht⟩:=List.any_eq_true.1 h
 have h2:=List.all_eq_true.1 aBB p hp
 rw[<- eN ht]
 cases hu:Tryz.prog.underlying p.1 with
 | none=>rw[hu] at h2;simp at h2
 | some d =>
  rw[hu] at h2
  cases d<;>simp only[Bool.false_eq_true] at h2
  simp only[Bool.and_eq_true] at h2
  rw[eN h2.1,eN h2.2]
def aAK:List (Nat×Nat):=[(3,1),(4,1),(9,1),(27,1),(29,2),(31,1),(37,1),(39,5),(47,14),(74,1),(76,2),(164,2),(230,2)]
theorem w5:(aAK.all λ p=>(Tryz.prog.info? p.1).map (·.size)==some p.2)=true:=by kernel_rfl
theorem tV{e s:Nat}(h:(aAK.any λ p=>Nat.beq p.1 e&&Nat.beq p.2 s)=true):(Tryz.prog.info? e).map (·.size)=some s:=by
 obtain⟨p,hp,ht⟩:=List.any_eq_true.1 h
 simp only[Bool.and_eq_true] at ht
 have h2:=List.all_eq_true.1 w5 p hp
 rw[<- eN ht.1,<- eN ht.2]
 exact eq_of_beq h2
theorem U5{t:Nat}(h:Nat.beq t 4=true):Tryz.prog.underlying t=some .bool:=by
 rw[eN h];kernel_rfl
theorem xr{t:Nat}(h:Nat.beq t 9=true):Tryz.prog.underlying t=some .string:=by
 rw[eN h];kernel_rfl
theorem se{t:Nat}(h:Nat.beq t 164=true):Lv Tryz.prog t=true:=by
 rw[eN h];kernel_rfl
def aAY:List (Nat×IntKind):=[(2,.i64),(3,.i64),(5,.u8),(12,.u64),(21,.i32),(27,.i64),(31,.u64),(37,.i64),(62,.i64),(209,.u64),(255,.u32)]
theorem vl:(aAY.all λ p=>yO Tryz.prog p.1 p.2)=true:=by kernel_rfl
theorem wI{t:Nat}{k:IntKind}(h:(aAY.any λ p=>Nat.beq p.1 t&&p.2==k)=true):yO Tryz.prog t k=true:=by
 obtain⟨p,hp,ht⟩:=List.any_eq_true.1 h
 simp only[Bool.and_eq_true] at ht
 have h2:=List.all_eq_true.1 vl p hp
 rw[eN ht.1,eq_of_beq ht.2] at h2
 exact h2
def ud(P:Program)(t e s:Nat):Bool :=
 (match P.underlying t with|some (.slice e')=>Nat.beq e' e|_=>false)&&(match P.info? e with
  | some i=>Nat.beq i.size s&&Nat.ble i.bytes 256
  | none=>false)
theorem kT{P:Program}{t e:Nat}{z:Value}{zc:List Value}(h:ud P t e zc.length=true)(hz:cK P e=some z)(hzc:z.cells=⟨zc⟩):dJ P t e zc:=by
 unfold ud at h
 simp only[Bool.and_eq_true] at h
 refine⟨?_,?_⟩
 ·cases hu:P.underlying t with
  | none=>simp[hu] at h
  | some d =>
   rw[hu] at h
   cases d<;>simp only[Bool.false_eq_true,false_and] at h
   rw[eN h.1]
 ·cases hi:P.info? e with
  | none=>simp[hi] at h
  | some i =>
   rw[hi] at h
   simp only[Bool.and_eq_true] at h
   exact⟨i,z,rfl,by simpa[cK,hi] using hz,hzc,eN h.2.1,Nat.le_of_ble_eq_true h.2.2⟩
theorem Xs:cK Tryz.prog 3=some (.int .i64 0):=by kernel_rfl
theorem Ft:dJ Tryz.prog 22 3 [.int .i64 0]:=kT (by kernel_rfl) Xs rfl
theorem Jc{t:Nat}(h:Nat.beq t 22=true):dJ Tryz.prog t 3 [.int .i64 0]:=by rw[eN h];exact Ft
theorem Y1:cK Tryz.prog 37=some (.int .i64 0):=by kernel_rfl
theorem pY:dJ Tryz.prog 44 37 [.int .i64 0]:=kT (by kernel_rfl) Y1 rfl
theorem Ku{t:Nat}(h:Nat.beq t 44=true):dJ Tryz.prog t 37 [.int .i64 0]:=by rw[eN h];exact pY
theorem Sa:cK Tryz.prog 164=some (.agg ⟨[.string ⟨#[]⟩,.int .u64 0]⟩):=by kernel_rfl
theorem W3:dJ Tryz.prog 45 164 [.string ⟨#[]⟩,.int .u64 0]:=kT (by kernel_rfl) Sa rfl
theorem pN{t:Nat}(h:Nat.beq t 45=true):dJ Tryz.prog t 164 [.string ⟨#[]⟩,.int .u64 0]:=by rw[eN h];exact W3
def vk:List Value:=[.int .i64 0,.int .i64 0,.int .i64 0,.int .u64 0,.slice none 0 0,.int .u64 0,.string ⟨#[]⟩,.int .u64 0,.slice none 0 0,.int .i64 0,.int .i64 0,.int .i64 0,.int .i64 0,.int .i64 0]
theorem Rk:cK Tryz.prog 47=some (.agg ⟨[.int .i64 0,.int .i64 0,.int .i64 0,.int .u64 0,.slice none 0 0,.int .u64 0,.string ⟨#[]⟩,.int .u64 0,.slice none 0 0,.int .i64 0,.int .i64 0,.int .i64 0,.int .i64 0,.int .i64 0]⟩):=by kernel_rfl
theorem rZ:dJ Tryz.prog 50 47 vk:=kT (by kernel_rfl) Rk rfl
theorem Gw{t:Nat}(h:Nat.beq t 50=true):dJ Tryz.prog t 47 vk:=by rw[eN h];exact rZ
theorem Sk:cK Tryz.prog 4=some (.bool false):=by kernel_rfl
theorem X2:dJ Tryz.prog 95 4 [.bool false]:=kT (by kernel_rfl) Sk rfl
theorem Ib{t:Nat}(h:Nat.beq t 95=true):dJ Tryz.prog t 4 [.bool false]:=by rw[eN h];exact X2
theorem Ys:cK Tryz.prog 9=some (.string ⟨#[]⟩):=by kernel_rfl
theorem bk:dJ Tryz.prog 102 9 [.string ⟨#[]⟩]:=kT (by kernel_rfl) Ys rfl
theorem W5{t:Nat}(h:Nat.beq t 102=true):dJ Tryz.prog t 9 [.string ⟨#[]⟩]:=by rw[eN h];exact bk
end Go.Proofs.YtbajmaoegmbfgaaGreat
