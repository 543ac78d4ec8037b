/- What the program's table says of the types that are used: closed facts. Written by a program. -/
import Derived.Test.YtbajmaoegmbfgaaGreatGLst3
import Derived.Test.YtbajmaoegmbfgaaGreatProg
set_option linter.unusedSimpArgs false
set_option linter.unusedVariables false
namespace Go.Proofs.YtbajmaoegmbfgaaGreat
open Go.RowKit Go.Ct
def aAq:List Nat:=[2,3,4,5,9,12,15,16,17,20,21,22,23,25,27,30,31,32,33,37,42,44,45,50,56,62,74,85,95,102,108,115,122,123,129,130,151,156,169,209,255,259]
theorem xr:(aAq.all λ t=>one Tryz.prog t)=true:=by kernel_rfl
theorem El{t:Nat}(h:aAq.elem t=true):one Tryz.prog t=true:=List.all_eq_true.1 xr t (List.mem_of_elem_eq_true h)
def aBd:List (Nat×Nat):=[(29,2),(35,4),(39,5),(47,14),(52,3),(54,4),(64,8),(76,2),(87,3),(89,25),(114,2),(125,3),(128,4),(132,14),(139,4),(141,17),(153,52),(159,5),(164,2),(230,2)]
theorem uv:(aBd.all λ p=>jM Tryz.prog p.1 p.2)=true:=by kernel_rfl
theorem Rj{t k:Nat}(h:(aBd.any λ p=>Nat.beq p.1 t&&Nat.beq p.2 k)=true):jM Tryz.prog t k=true:=by
 obtain⟨p,hp,ht⟩:=List.any_eq_true.1 h
 simp only[Bool.and_eq_true] at ht
 have h2:=List.all_eq_true.1 uv p hp
 rwa [eS ht.1,eS ht.2] at h2
theorem yM:cW Tryz.prog 29=some (.agg ⟨[.int .i64 0,.bool false]⟩):=by kernel_rfl
theorem Fw{t:Nat}(h:Nat.beq t 29=true):cW Tryz.prog t=some (.agg ⟨[.int .i64 0,.bool false]⟩):=by rw[eS h];exact yM
theorem Ce{t:Nat}(h:Nat.beq t 29=true):structOf Tryz.prog t [.int .i64 0,.bool false]:=by rw[eS h];exact hU (by kernel_rfl) yM
theorem vO:cW Tryz.prog 35=some (.agg ⟨[.pointer none,.int .u64 0,.slice none 0 0,.slice none 0 0]⟩):=by kernel_rfl
theorem rP{t:Nat}(h:Nat.beq t 35=true):structOf Tryz.prog t [.pointer none,.int .u64 0,.slice none 0 0,.slice none 0 0]:=by rw[eS h];exact hU (by kernel_rfl) vO
theorem mU:cW Tryz.prog 39=some (.agg ⟨[.int .i64 0,.int .i64 0,.int .i64 0,.int .i64 0,.slice none 0 0]⟩):=by kernel_rfl
theorem tD{t:Nat}(h:Nat.beq t 39=true):cW Tryz.prog t=some (.agg ⟨[.int .i64 0,.int .i64 0,.int .i64 0,.int .i64 0,.slice none 0 0]⟩):=by rw[eS h];exact mU
theorem qV{t:Nat}(h:Nat.beq t 39=true):structOf Tryz.prog t [.int .i64 0,.int .i64 0,.int .i64 0,.int .i64 0,.slice none 0 0]:=by rw[eS h];exact hU (by kernel_rfl) mU
theorem xV:cW Tryz.prog 47=some (.agg ⟨[.int .i64 0,.int .i64 0,.int .i64 0,.int .u64 0,.slice none 0 0,.int .u64 0,.string ⟨#[]⟩,.int .u64 0,.slice none 0 0,.int .i64 0,.int .i64 0,.int .i64 0,.int .i64 0,.int .i64 0]⟩):=by kernel_rfl
theorem Gn{t:Nat}(h:Nat.beq t 47=true):cW Tryz.prog t=some (.agg ⟨[.int .i64 0,.int .i64 0,.int .i64 0,.int .u64 0,.slice none 0 0,.int .u64 0,.string ⟨#[]⟩,.int .u64 0,.slice none 0 0,.int .i64 0,.int .i64 0,.int .i64 0,.int .i64 0,.int .i64 0]⟩):=by rw[eS h];exact xV
theorem By{t:Nat}(h:Nat.beq t 47=true):structOf Tryz.prog t [.int .i64 0,.int .i64 0,.int .i64 0,.int .u64 0,.slice none 0 0,.int .u64 0,.string ⟨#[]⟩,.int .u64 0,.slice none 0 0,.int .i64 0,.int .i64 0,.int .i64 0,.int .i64 0,.int .i64 0]:=by rw[eS h];exact hU (by kernel_rfl) xV
theorem E5:cW Tryz.prog 52=some (.agg ⟨[.slice none 0 0,.slice none 0 0,.int .i64 0]⟩):=by kernel_rfl
theorem Aw{t:Nat}(h:Nat.beq t 52=true):structOf Tryz.prog t [.slice none 0 0,.slice none 0 0,.int .i64 0]:=by rw[eS h];exact hU (by kernel_rfl) E5
theorem xT:cW Tryz.prog 54=some (.agg ⟨[.slice none 0 0,.slice none 0 0,.int .i64 0,.int .i64 0]⟩):=by kernel_rfl
theorem uK{t:Nat}(h:Nat.beq t 54=true):placeOf Tryz.prog t [(0,3),(3,1)] [.slice none 0 0,.slice none 0 0,.int .i64 0,.int .i64 0]:=by rw[eS h];exact lF (by kernel_rfl) xT
theorem tW:cW Tryz.prog 64=some (.agg ⟨[.int .i64 0,.bool false,.int .u64 0,.string ⟨#[]⟩,.int .i64 0,.int .i64 0,.int .i64 0,.bool false]⟩):=by kernel_rfl
theorem Ba{t:Nat}(h:Nat.beq t 64=true):cW Tryz.prog t=some (.agg ⟨[.int .i64 0,.bool false,.int .u64 0,.string ⟨#[]⟩,.int .i64 0,.int .i64 0,.int .i64 0,.bool false]⟩):=by rw[eS h];exact tW
theorem zR{t:Nat}(h:Nat.beq t 64=true):placeOf Tryz.prog t [(0,1),(1,1),(2,1),(3,1),(4,1),(5,1),(6,2)] [.int .i64 0,.bool false,.int .u64 0,.string ⟨#[]⟩,.int .i64 0,.int .i64 0,.int .i64 0,.bool false]:=by rw[eS h];exact lF (by kernel_rfl) tW
theorem oB:cW Tryz.prog 89=some (.agg ⟨[.int .i64 0,.int .i64 0,.bool false,.int .i64 0,.int .i64 0,.int .i64 0,.int .i64 0,.int .u64 0,.int .u64 0,.string ⟨#[]⟩,.int .u64 0,.int .u64 0,.int .i64 0,.bool false,.bool false,.slice none 0 0,.slice none 0 0,.int .i64 0,.bool false,.int .u64 0,.string ⟨#[]⟩,.int .i64 0,.int .i64 0,.int .i64 0,.bool false]⟩):=by kernel_rfl
theorem uG{t:Nat}(h:Nat.beq t 89=true):cW Tryz.prog t=some (.agg ⟨[.int .i64 0,.int .i64 0,.bool false,.int .i64 0,.int .i64 0,.int .i64 0,.int .i64 0,.int .u64 0,.int .u64 0,.string ⟨#[]⟩,.int .u64 0,.int .u64 0,.int .i64 0,.bool false,.bool false,.slice none 0 0,.slice none 0 0,.int .i64 0,.bool false,.int .u64 0,.string ⟨#[]⟩,.int .i64 0,.int .i64 0,.int .i64 0,.bool false]⟩):=by rw[eS h];exact oB
theorem sK{t:Nat}(h:Nat.beq t 89=true):placeOf Tryz.prog t [(0,1),(1,2),(3,1),(4,1),(5,1),(6,1),(7,1),(8,1),(9,1),(10,1),(11,1),(12,1),(13,1),(14,3),(17,8)] [.int .i64 0,.int .i64 0,.bool false,.int .i64 0,.int .i64 0,.int .i64 0,.int .i64 0,.int .u64 0,.int .u64 0,.string ⟨#[]⟩,.int .u64 0,.int .u64 0,.int .i64 0,.bool false,.bool false,.slice none 0 0,.slice none 0 0,.int .i64 0,.bool false,.int .u64 0,.string ⟨#[]⟩,.int .i64 0,.int .i64 0,.int .i64 0,.bool false]:=by rw[eS h];exact lF (by kernel_rfl) oB
theorem xS:cW Tryz.prog 114=some (.agg ⟨[.slice none 0 0,.int .i64 0]⟩):=by kernel_rfl
theorem tP{t:Nat}(h:Nat.beq t 114=true):structOf Tryz.prog t [.slice none 0 0,.int .i64 0]:=by rw[eS h];exact hU (by kernel_rfl) xS
theorem Af:cW Tryz.prog 125=some (.agg ⟨[.nilIface,.int .i64 0,.bool false]⟩):=by kernel_rfl
theorem Ic{t:Nat}(h:Nat.beq t 125=true):cW Tryz.prog t=some (.agg ⟨[.nilIface,.int .i64 0,.bool false]⟩):=by rw[eS h];exact Af
theorem Gk{t:Nat}(h:Nat.beq t 125=true):placeOf Tryz.prog t [(0,1),(1,2)] [.nilIface,.int .i64 0,.bool false]:=by rw[eS h];exact lF (by kernel_rfl) Af
theorem tX:cW Tryz.prog 128=some (.agg ⟨[.int .i64 0,.int .i64 0,.int .i64 0,.int .i64 0]⟩):=by kernel_rfl
theorem Bf{t:Nat}(h:Nat.beq t 128=true):cW Tryz.prog t=some (.agg ⟨[.int .i64 0,.int .i64 0,.int .i64 0,.int .i64 0]⟩):=by rw[eS h];exact tX
theorem yU{t:Nat}(h:Nat.beq t 128=true):structOf Tryz.prog t [.int .i64 0,.int .i64 0,.int .i64 0,.int .i64 0]:=by rw[eS h];exact hU (by kernel_rfl) tX
theorem vK:cW Tryz.prog 132=some (.agg ⟨[.int .i64 0,.int .i64 0,.int .i64 0,.int .i64 0,.nilFunc,.nilFunc,.int .i64 0,.bool false,.int .u64 0,.string ⟨#[]⟩,.int .i64 0,.int .i64 0,.int .i64 0,.bool false]⟩):=by kernel_rfl
theorem Dv{t:Nat}(h:Nat.beq t 132=true):cW Tryz.prog t=some (.agg ⟨[.int .i64 0,.int .i64 0,.int .i64 0,.int .i64 0,.nilFunc,.nilFunc,.int .i64 0,.bool false,.int .u64 0,.string ⟨#[]⟩,.int .i64 0,.int .i64 0,.int .i64 0,.bool false]⟩):=by rw[eS h];exact vK
theorem A8{t:Nat}(h:Nat.beq t 132=true):placeOf Tryz.prog t [(0,4),(4,1),(5,1),(6,8)] [.int .i64 0,.int .i64 0,.int .i64 0,.int .i64 0,.nilFunc,.nilFunc,.int .i64 0,.bool false,.int .u64 0,.string ⟨#[]⟩,.int .i64 0,.int .i64 0,.int .i64 0,.bool false]:=by rw[eS h];exact lF (by kernel_rfl) vK
theorem Bb:cW Tryz.prog 139=some (.agg ⟨[.slice none 0 0,.slice none 0 0,.int .i64 0,.int .i64 0]⟩):=by kernel_rfl
theorem xR{t:Nat}(h:Nat.beq t 139=true):structOf Tryz.prog t [.slice none 0 0,.slice none 0 0,.int .i64 0,.int .i64 0]:=by rw[eS h];exact hU (by kernel_rfl) Bb
theorem Ez:cW Tryz.prog 141=some (.agg ⟨[.nilIface,.int .i64 0,.int .i64 0,.int .i64 0,.int .i64 0,.nilFunc,.nilFunc,.int .i64 0,.bool false,.int .u64 0,.string ⟨#[]⟩,.int .i64 0,.int .i64 0,.int .i64 0,.bool false,.int .i64 0,.bool false]⟩):=by kernel_rfl
theorem B4{t:Nat}(h:Nat.beq t 141=true):placeOf Tryz.prog t [(0,1),(1,14),(15,1),(16,1)] [.nilIface,.int .i64 0,.int .i64 0,.int .i64 0,.int .i64 0,.nilFunc,.nilFunc,.int .i64 0,.bool false,.int .u64 0,.string ⟨#[]⟩,.int .i64 0,.int .i64 0,.int .i64 0,.bool false,.int .i64 0,.bool false]:=by rw[eS h];exact lF (by kernel_rfl) Ez
theorem vA:cW Tryz.prog 153=some (.agg ⟨[.pointer none,.int .i64 0,.int .i64 0,.bool false,.int .i64 0,.int .i64 0,.int .i64 0,.int .i64 0,.int .u64 0,.int .u64 0,.string ⟨#[]⟩,.int .u64 0,.int .u64 0,.int .i64 0,.bool false,.bool false,.slice none 0 0,.slice none 0 0,.int .i64 0,.bool false,.int .u64 0,.string ⟨#[]⟩,.int .i64 0,.int .i64 0,.int .i64 0,.bool false,.slice none 0 0,.slice none 0 0,.slice none 0 0,.slice none 0 0,.int .i64 0,.int .i64 0,.int .i64 0,.int .i64 0,.int .i64 0,.bool false,.int .i64 0,.int .i64 0,.int .i64 0,.int .i64 0,.bool false,.int .i64 0,.bool false,.int .u64 0,.string ⟨#[]⟩,.int .i64 0,.int .i64 0,.int .i64 0,.bool false,.bool false,.slice none 0 0,.slice none 0 0]⟩):=by kernel_rfl
theorem sY{t:Nat}(h:Nat.beq t 153=true):placeOf Tryz.prog t [(0,1),(1,25),(26,1),(27,1),(28,1),(29,1),(30,1),(31,1),(32,1),(33,1),(34,1),(35,1),(36,4),(40,1),(41,8),(49,3)] [.pointer none,.int .i64 0,.int .i64 0,.bool false,.int .i64 0,.int .i64 0,.int .i64 0,.int .i64 0,.int .u64 0,.int .u64 0,.string ⟨#[]⟩,.int .u64 0,.int .u64 0,.int .i64 0,.bool false,.bool false,.slice none 0 0,.slice none 0 0,.int .i64 0,.bool false,.int .u64 0,.string ⟨#[]⟩,.int .i64 0,.int .i64 0,.int .i64 0,.bool false,.slice none 0 0,.slice none 0 0,.slice none 0 0,.slice none 0 0,.int .i64 0,.int .i64 0,.int .i64 0,.int .i64 0,.int .i64 0,.bool false,.int .i64 0,.int .i64 0,.int .i64 0,.int .i64 0,.bool false,.int .i64 0,.bool false,.int .u64 0,.string ⟨#[]⟩,.int .i64 0,.int .i64 0,.int .i64 0,.bool false,.bool false,.slice none 0 0,.slice none 0 0]:=by rw[eS h];exact lF (by kernel_rfl) vA
theorem yB:cW Tryz.prog 164=some (.agg ⟨[.string ⟨#[]⟩,.int .u64 0]⟩):=by kernel_rfl
theorem Fh{t:Nat}(h:Nat.beq t 164=true):cW Tryz.prog t=some (.agg ⟨[.string ⟨#[]⟩,.int .u64 0]⟩):=by rw[eS h];exact yB
theorem Br{t:Nat}(h:Nat.beq t 164=true):structOf Tryz.prog t [.string ⟨#[]⟩,.int .u64 0]:=by rw[eS h];exact hU (by kernel_rfl) yB
def aAU:List (Nat×Nat):=[(29,0),(29,1),(35,0),(35,1),(35,2),(35,3),(39,0),(39,1),(39,2),(39,3),(39,4),(47,0),(47,1),(47,2),(47,3),(47,4),(47,5),(47,6),(47,7),(47,8),(47,9),(47,10),(47,11),(47,12),(47,13),(52,0),(52,1),(52,2),(54,0),(64,0),(64,1),(64,2),(64,3),(64,4),(64,5),(64,6),(76,0),(76,1),(87,0),(87,1),(87,2),(89,0),(89,1),(114,0),(114,1),(125,0),(125,1),(128,0),(128,1),(128,2),(128,3),(132,0),(139,0),(139,1),(139,2),(139,3),(141,0),(141,1),(153,0),(153,1),(159,0),(164,0),(164,1),(230,0),(230,1)]
theorem xw:(aAU.all λ p=>cQ Tryz.prog p.1 p.2==some p.2)=true:=by kernel_rfl
theorem yv{t k:Nat}(h:(aAU.any λ p=>Nat.beq p.1 t&&Nat.beq p.2 k)=true):cQ Tryz.prog t k=some k:=by
 obtain⟨p,hp,ht⟩:=List.any_eq_true.1 h
 simp only[Bool.and_eq_true] at ht
 have h2:=eq_of_beq (List.all_eq_true.1 xw p hp)
 rwa [eS ht.1,eS ht.2] at h2
def td:List (Nat×Nat):=[(29,0),(29,1),(35,0),(35,1),(35,2),(35,3),(39,0),(39,1),(39,2),(39,3),(39,4),(47,0),(47,1),(47,2),(47,3),(47,4),(47,5),(47,6),(47,7),(47,8),(47,9),(47,10),(47,11),(47,12),(47,13),(52,0),(52,1),(52,2),(64,0),(64,1),(64,2),(64,3),(64,4),(64,5),(76,0),(76,1),(87,0),(87,1),(87,2),(89,0),(114,0),(114,1),(125,0),(128,0),(128,1),(128,2),(128,3),(139,0),(139,1),(139,2),(139,3),(141,0),(153,0),(164,0),(164,1),(230,0),(230,1)]
theorem qx:(td.all λ p=>zS Tryz.prog p.1 p.2==some p.2)=true:=by kernel_rfl
theorem Lt{t k:Nat}(h:(td.any λ p=>Nat.beq p.1 t&&Nat.beq p.2 k)=true):zS Tryz.prog t k=some k:=by
 obtain⟨p,hp,ht⟩:=List.any_eq_true.1 h
 simp only[Bool.and_eq_true] at ht
 have h2:=eq_of_beq (List.all_eq_true.1 qx p hp)
 rwa [eS ht.1,eS ht.2] at h2
theorem uW{t k:Nat}(h:(Nat.beq t 54&&Nat.beq k 1)=true):cQ Tryz.prog t k=some 3:=by simp only[Bool.and_eq_true] at h;rw[eS h.1,eS h.2];kernel_rfl
theorem uD{t k:Nat}(h:(Nat.beq t 89&&Nat.beq k 2)=true):cQ Tryz.prog t k=some 3:=by simp only[Bool.and_eq_true] at h;rw[eS h.1,eS h.2];kernel_rfl
theorem uN{t k:Nat}(h:(Nat.beq t 89&&Nat.beq k 3)=true):cQ Tryz.prog t k=some 4:=by simp only[Bool.and_eq_true] at h;rw[eS h.1,eS h.2];kernel_rfl
theorem uL{t k:Nat}(h:(Nat.beq t 89&&Nat.beq k 4)=true):cQ Tryz.prog t k=some 5:=by simp only[Bool.and_eq_true] at h;rw[eS h.1,eS h.2];kernel_rfl
theorem uA{t k:Nat}(h:(Nat.beq t 89&&Nat.beq k 7)=true):cQ Tryz.prog t k=some 8:=by simp only[Bool.and_eq_true] at h;rw[eS h.1,eS h.2];kernel_rfl
theorem uM{t k:Nat}(h:(Nat.beq t 89&&Nat.beq k 8)=true):cQ Tryz.prog t k=some 9:=by simp only[Bool.and_eq_true] at h;rw[eS h.1,eS h.2];kernel_rfl
theorem tZ{t k:Nat}(h:(Nat.beq t 89&&Nat.beq k 9)=true):cQ Tryz.prog t k=some 10:=by simp only[Bool.and_eq_true] at h;rw[eS h.1,eS h.2];kernel_rfl
theorem tG{t k:Nat}(h:(Nat.beq t 89&&Nat.beq k 10)=true):cQ Tryz.prog t k=some 11:=by simp only[Bool.and_eq_true] at h;rw[eS h.1,eS h.2];kernel_rfl
theorem tK{t k:Nat}(h:(Nat.beq t 89&&Nat.beq k 11)=true):cQ Tryz.prog t k=some 12:=by simp only[Bool.and_eq_true] at h;rw[eS h.1,eS h.2];kernel_rfl
theorem sW{t k:Nat}(h:(Nat.beq t 89&&Nat.beq k 12)=true):cQ Tryz.prog t k=some 13:=by simp only[Bool.and_eq_true] at h;rw[eS h.1,eS h.2];kernel_rfl
theorem Dw{t k:Nat}(h:(Nat.beq t 132&&Nat.beq k 1)=true):cQ Tryz.prog t k=some 4:=by simp only[Bool.and_eq_true] at h;rw[eS h.1,eS h.2];kernel_rfl
theorem Dr{t k:Nat}(h:(Nat.beq t 132&&Nat.beq k 2)=true):cQ Tryz.prog t k=some 5:=by simp only[Bool.and_eq_true] at h;rw[eS h.1,eS h.2];kernel_rfl
theorem Di{t k:Nat}(h:(Nat.beq t 132&&Nat.beq k 3)=true):cQ Tryz.prog t k=some 6:=by simp only[Bool.and_eq_true] at h;rw[eS h.1,eS h.2];kernel_rfl
theorem Dm{t k:Nat}(h:(Nat.beq t 141&&Nat.beq k 2)=true):cQ Tryz.prog t k=some 15:=by simp only[Bool.and_eq_true] at h;rw[eS h.1,eS h.2];kernel_rfl
theorem Dx{t k:Nat}(h:(Nat.beq t 141&&Nat.beq k 3)=true):cQ Tryz.prog t k=some 16:=by simp only[Bool.and_eq_true] at h;rw[eS h.1,eS h.2];kernel_rfl
theorem uI{t k:Nat}(h:(Nat.beq t 153&&Nat.beq k 2)=true):cQ Tryz.prog t k=some 26:=by simp only[Bool.and_eq_true] at h;rw[eS h.1,eS h.2];kernel_rfl
theorem uH{t k:Nat}(h:(Nat.beq t 153&&Nat.beq k 3)=true):cQ Tryz.prog t k=some 27:=by simp only[Bool.and_eq_true] at h;rw[eS h.1,eS h.2];kernel_rfl
theorem uE{t k:Nat}(h:(Nat.beq t 153&&Nat.beq k 4)=true):cQ Tryz.prog t k=some 28:=by simp only[Bool.and_eq_true] at h;rw[eS h.1,eS h.2];kernel_rfl
theorem uO{t k:Nat}(h:(Nat.beq t 153&&Nat.beq k 5)=true):cQ Tryz.prog t k=some 29:=by simp only[Bool.and_eq_true] at h;rw[eS h.1,eS h.2];kernel_rfl
theorem uQ{t k:Nat}(h:(Nat.beq t 153&&Nat.beq k 6)=true):cQ Tryz.prog t k=some 30:=by simp only[Bool.and_eq_true] at h;rw[eS h.1,eS h.2];kernel_rfl
theorem uJ{t k:Nat}(h:(Nat.beq t 153&&Nat.beq k 7)=true):cQ Tryz.prog t k=some 31:=by simp only[Bool.and_eq_true] at h;rw[eS h.1,eS h.2];kernel_rfl
theorem uP{t k:Nat}(h:(Nat.beq t 153&&Nat.beq k 8)=true):cQ Tryz.prog t k=some 32:=by simp only[Bool.and_eq_true] at h;rw[eS h.1,eS h.2];kernel_rfl
theorem uC{t k:Nat}(h:(Nat.beq t 153&&Nat.beq k 9)=true):cQ Tryz.prog t k=some 33:=by simp only[Bool.and_eq_true] at h;rw[eS h.1,eS h.2];kernel_rfl
theorem sV{t k:Nat}(h:(Nat.beq t 153&&Nat.beq k 10)=true):cQ Tryz.prog t k=some 34:=by simp only[Bool.and_eq_true] at h;rw[eS h.1,eS h.2];kernel_rfl
theorem sG{t k:Nat}(h:(Nat.beq t 153&&Nat.beq k 11)=true):cQ Tryz.prog t k=some 35:=by simp only[Bool.and_eq_true] at h;rw[eS h.1,eS h.2];kernel_rfl
theorem sJ{t k:Nat}(h:(Nat.beq t 153&&Nat.beq k 12)=true):cQ Tryz.prog t k=some 36:=by simp only[Bool.and_eq_true] at h;rw[eS h.1,eS h.2];kernel_rfl
theorem tN{t k:Nat}(h:(Nat.beq t 153&&Nat.beq k 13)=true):cQ Tryz.prog t k=some 40:=by simp only[Bool.and_eq_true] at h;rw[eS h.1,eS h.2];kernel_rfl
theorem sM{t k:Nat}(h:(Nat.beq t 153&&Nat.beq k 14)=true):cQ Tryz.prog t k=some 41:=by simp only[Bool.and_eq_true] at h;rw[eS h.1,eS h.2];kernel_rfl
def aAP:List Nat:=[15,16,17,23,25,30,42,56,74,156,259]
theorem uu:(aAP.all λ t=>I3 Tryz.prog t)=true:=by kernel_rfl
theorem S9{t:Nat}(h:aAP.elem t=true):I3 Tryz.prog t=true:=List.all_eq_true.1 uu t (List.mem_of_elem_eq_true h)
def Z6:List (Nat×Nat):=[(22,3),(32,29),(33,74),(44,37),(45,164),(50,47),(85,230),(95,4),(102,9),(108,76),(115,39),(151,27),(169,31)]
def tm(t:Nat):Nat:=(Z6.lookup t).getD 0
theorem aAL:(Z6.all λ p=>(match Tryz.prog.underlying p.1 with|some (.slice e)=>Nat.beq e p.2&&Nat.beq (tm p.1) p.2|_=>false))=true:=by kernel_rfl
theorem aAx{t:Nat}(h:(Z6.any λ p=>Nat.beq p.1 t)=true):Tryz.prog.underlying t=some (.slice (tm t)):=by
 obtain⟨p,hp,ht⟩:=List.any_eq_true.1 h
 have h2:=List.all_eq_true.1 aAL p hp
 rw[<- eS ht]
 cases hu:Tryz.prog.underlying p.1 with
 | none=>rw[hu] at h2;simp at h2
 | some d =>
  rw[hu] at h2
  cases d<;>simp only[Bool.false_eq_true] at h2
  simp only[Bool.and_eq_true] at h2
  rw[eS h2.1,eS h2.2]
def aA8:List (Nat×Nat):=[(3,1),(4,1),(9,1),(27,1),(29,2),(31,1),(37,1),(39,5),(47,14),(74,1),(76,2),(164,2),(230,2)]
theorem u5:(aA8.all λ p=>(Tryz.prog.info? p.1).map (·.size)==some p.2)=true:=by kernel_rfl
theorem tU{e s:Nat}(h:(aA8.any λ p=>Nat.beq p.1 e&&Nat.beq p.2 s)=true):(Tryz.prog.info? e).map (·.size)=some s:=by
 obtain⟨p,hp,ht⟩:=List.any_eq_true.1 h
 simp only[Bool.and_eq_true] at ht
 have h2:=List.all_eq_true.1 u5 p hp
 rw[<- eS ht.1,<- eS ht.2]
 exact eq_of_beq h2
theorem va{t:Nat}(h:Nat.beq t 9=true):Tryz.prog.underlying t=some .string:=by
 rw[eS h];kernel_rfl
theorem py{t:Nat}(h:Nat.beq t 164=true):Ki Tryz.prog t=true:=by
 rw[eS h];kernel_rfl
def zx:List (Nat×IntKind):=[(2,.i64),(3,.i64),(5,.u8),(12,.u64),(21,.i32),(27,.i64),(31,.u64),(37,.i64),(62,.i64),(209,.u64),(255,.u32)]
theorem uq:(zx.all λ p=>yI Tryz.prog p.1 p.2)=true:=by kernel_rfl
theorem wF{t:Nat}{k:IntKind}(h:(zx.any λ p=>Nat.beq p.1 t&&p.2==k)=true):yI Tryz.prog t k=true:=by
 obtain⟨p,hp,ht⟩:=List.any_eq_true.1 h
 simp only[Bool.and_eq_true] at ht
 have h2:=List.all_eq_true.1 uq p hp
 rw[eS ht.1,eq_of_beq ht.2] at h2
 exact h2
def s6(P:Program)(t e s:Nat):Bool :=
 (match P.underlying t with|some (.slice e')=>Nat.beq e' e|_=>false)&&(match P.info? e with
  | some i=>Nat.beq i.size s&&Nat.ble i.bytes 256
  | none=>false)
theorem mG{P:Program}{t e:Nat}{z:Value}{zc:List Value}(h:s6 P t e zc.length=true)(hz:cW P e=some z)(hzc:z.cells=⟨zc⟩):dL P t e zc:=by
 unfold s6 at h
 simp only[Bool.and_eq_true] at h
 refine⟨?_,?_⟩
 ·cases hu:P.underlying t with
  | none=>simp[hu] at h
  | some d =>
   rw[hu] at h
   cases d<;>simp only[Bool.false_eq_true,false_and] at h
   rw[eS h.1]
 ·cases hi:P.info? e with
  | none=>simp[hi] at h
  | some i =>
   rw[hi] at h
   simp only[Bool.and_eq_true] at h
   exact⟨i,z,rfl,by simpa[cW,hi] using hz,hzc,eS h.2.1,Nat.le_of_ble_eq_true h.2.2⟩
theorem Wz:cW Tryz.prog 3=some (.int .i64 0):=by kernel_rfl
theorem Hl:dL Tryz.prog 22 3 [.int .i64 0]:=mG (by kernel_rfl) Wz rfl
theorem Jk{t:Nat}(h:Nat.beq t 22=true):dL Tryz.prog t 3 [.int .i64 0]:=by rw[eS h];exact Hl
theorem X6:cW Tryz.prog 37=some (.int .i64 0):=by kernel_rfl
theorem pR:dL Tryz.prog 44 37 [.int .i64 0]:=mG (by kernel_rfl) X6 rfl
theorem Kb{t:Nat}(h:Nat.beq t 44=true):dL Tryz.prog t 37 [.int .i64 0]:=by rw[eS h];exact pR
theorem Sm:cW Tryz.prog 164=some (.agg ⟨[.string ⟨#[]⟩,.int .u64 0]⟩):=by kernel_rfl
theorem Xn:dL Tryz.prog 45 164 [.string ⟨#[]⟩,.int .u64 0]:=mG (by kernel_rfl) Sm rfl
theorem pL{t:Nat}(h:Nat.beq t 45=true):dL Tryz.prog t 164 [.string ⟨#[]⟩,.int .u64 0]:=by rw[eS h];exact Xn
def r4:List Value:=[.int .i64 0,.int .i64 0,.int .i64 0,.int .u64 0,.slice none 0 0,.int .u64 0,.string ⟨#[]⟩,.int .u64 0,.slice none 0 0,.int .i64 0,.int .i64 0,.int .i64 0,.int .i64 0,.int .i64 0]
theorem Si:cW Tryz.prog 47=some (.agg ⟨[.int .i64 0,.int .i64 0,.int .i64 0,.int .u64 0,.slice none 0 0,.int .u64 0,.string ⟨#[]⟩,.int .u64 0,.slice none 0 0,.int .i64 0,.int .i64 0,.int .i64 0,.int .i64 0,.int .i64 0]⟩):=by kernel_rfl
theorem rE:dL Tryz.prog 50 47 r4:=mG (by kernel_rfl) Si rfl
theorem Gb{t:Nat}(h:Nat.beq t 50=true):dL Tryz.prog t 47 r4:=by rw[eS h];exact rE
theorem Ta:cW Tryz.prog 4=some (.bool false):=by kernel_rfl
theorem Wt:dL Tryz.prog 95 4 [.bool false]:=mG (by kernel_rfl) Ta rfl
theorem Gg{t:Nat}(h:Nat.beq t 95=true):dL Tryz.prog t 4 [.bool false]:=by rw[eS h];exact Wt
theorem Xc:cW Tryz.prog 9=some (.string ⟨#[]⟩):=by kernel_rfl
theorem az:dL Tryz.prog 102 9 [.string ⟨#[]⟩]:=mG (by kernel_rfl) Xc rfl
theorem Xu{t:Nat}(h:Nat.beq t 102=true):dL Tryz.prog t 9 [.string ⟨#[]⟩]:=by rw[eS h];exact az
end Go.Proofs.YtbajmaoegmbfgaaGreat
