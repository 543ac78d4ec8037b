/- What the program's table says of the types that are used: closed facts. Written by a program. -/
import Derived.Test.YtbajmaoegmbfgaaGreatGLst3
import Derived.Test.YtbajmaoegmbfgaaGreatProg
set_option linter.unusedSimpArgs false
set_option linter.unusedVariables false
namespace Go.Proofs.YtbajmaoegmbfgaaGreat
open Go.RowKit Go.Ct
def aBv:List Nat:=[2,3,4,5,9,12,15,16,17,20,21,22,23,25,27,30,31,32,33,37,42,44,45,50,56,62,74,85,95,102,108,115,122,123,129,130,151,156,169,209,255,259]
theorem aAb:(aBv.all λ t=>one Tryz.prog t)=true:=by kernel_rfl
theorem L8{t:Nat}(h:aBv.elem t=true):one Tryz.prog t=true:=List.all_eq_true.1 aAb t (List.mem_of_elem_eq_true h)
def aAA:List (Nat×Nat):=[(29,2),(35,4),(39,5),(47,14),(52,3),(54,4),(64,8),(76,2),(87,3),(89,25),(114,2),(125,3),(128,4),(132,14),(139,4),(141,17),(153,52),(159,5),(164,2),(230,2)]
theorem xp:(aAA.all λ p=>jQ Tryz.prog p.1 p.2)=true:=by kernel_rfl
theorem Rp{t k:Nat}(h:(aAA.any λ p=>Nat.beq p.1 t&&Nat.beq p.2 k)=true):jQ Tryz.prog t k=true:=by
 obtain⟨p,hp,ht⟩:=List.any_eq_true.1 h
 simp only[Bool.and_eq_true] at ht
 have h2:=List.all_eq_true.1 xp p hp
 rwa [eG ht.1,eG ht.2] at h2
theorem yM:dB Tryz.prog 29=some (.agg ⟨[.int .i64 0,.bool false]⟩):=by kernel_rfl
theorem Hs{t:Nat}(h:Nat.beq t 29=true):dB Tryz.prog t=some (.agg ⟨[.int .i64 0,.bool false]⟩):=by rw[eG h];exact yM
theorem Cs{t:Nat}(h:Nat.beq t 29=true):structOf Tryz.prog t [.int .i64 0,.bool false]:=by rw[eG h];exact gY (by kernel_rfl) yM
theorem vD:dB Tryz.prog 35=some (.agg ⟨[.pointer none,.int .u64 0,.slice none 0 0,.slice none 0 0]⟩):=by kernel_rfl
theorem rQ{t:Nat}(h:Nat.beq t 35=true):structOf Tryz.prog t [.pointer none,.int .u64 0,.slice none 0 0,.slice none 0 0]:=by rw[eG h];exact gY (by kernel_rfl) vD
theorem yI:dB Tryz.prog 47=some (.agg ⟨[.int .i64 0,.int .i64 0,.int .i64 0,.int .u64 0,.slice none 0 0,.int .u64 0,.string ⟨#[]⟩,.int .u64 0,.slice none 0 0,.int .i64 0,.int .i64 0,.int .i64 0,.int .i64 0,.int .i64 0]⟩):=by kernel_rfl
theorem Hr{t:Nat}(h:Nat.beq t 47=true):dB Tryz.prog t=some (.agg ⟨[.int .i64 0,.int .i64 0,.int .i64 0,.int .u64 0,.slice none 0 0,.int .u64 0,.string ⟨#[]⟩,.int .u64 0,.slice none 0 0,.int .i64 0,.int .i64 0,.int .i64 0,.int .i64 0,.int .i64 0]⟩):=by rw[eG h];exact yI
theorem B7{t:Nat}(h:Nat.beq t 47=true):structOf Tryz.prog t [.int .i64 0,.int .i64 0,.int .i64 0,.int .u64 0,.slice none 0 0,.int .u64 0,.string ⟨#[]⟩,.int .u64 0,.slice none 0 0,.int .i64 0,.int .i64 0,.int .i64 0,.int .i64 0,.int .i64 0]:=by rw[eG h];exact gY (by kernel_rfl) yI
theorem wK:dB Tryz.prog 52=some (.agg ⟨[.slice none 0 0,.slice none 0 0,.int .i64 0]⟩):=by kernel_rfl
theorem Ea{t:Nat}(h:Nat.beq t 52=true):dB Tryz.prog t=some (.agg ⟨[.slice none 0 0,.slice none 0 0,.int .i64 0]⟩):=by rw[eG h];exact wK
theorem zY{t:Nat}(h:Nat.beq t 52=true):structOf Tryz.prog t [.slice none 0 0,.slice none 0 0,.int .i64 0]:=by rw[eG h];exact gY (by kernel_rfl) wK
theorem xX:dB Tryz.prog 54=some (.agg ⟨[.slice none 0 0,.slice none 0 0,.int .i64 0,.int .i64 0]⟩):=by kernel_rfl
theorem tW{t:Nat}(h:Nat.beq t 54=true):placeOf Tryz.prog t [(0,3),(3,1)] [.slice none 0 0,.slice none 0 0,.int .i64 0,.int .i64 0]:=by rw[eG h];exact jZ (by kernel_rfl) xX
theorem tT:dB Tryz.prog 64=some (.agg ⟨[.int .i64 0,.bool false,.int .u64 0,.string ⟨#[]⟩,.int .i64 0,.int .i64 0,.int .i64 0,.bool false]⟩):=by kernel_rfl
theorem Cr{t:Nat}(h:Nat.beq t 64=true):dB Tryz.prog t=some (.agg ⟨[.int .i64 0,.bool false,.int .u64 0,.string ⟨#[]⟩,.int .i64 0,.int .i64 0,.int .i64 0,.bool false]⟩):=by rw[eG h];exact tT
theorem Ab{t:Nat}(h:Nat.beq t 64=true):placeOf Tryz.prog t [(0,1),(1,1),(2,1),(3,1),(4,1),(5,1),(6,2)] [.int .i64 0,.bool false,.int .u64 0,.string ⟨#[]⟩,.int .i64 0,.int .i64 0,.int .i64 0,.bool false]:=by rw[eG h];exact jZ (by kernel_rfl) tT
theorem oQ:dB Tryz.prog 76=some (.agg ⟨[.pointer none,.pointer none]⟩):=by kernel_rfl
theorem vZ{t:Nat}(h:Nat.beq t 76=true):dB Tryz.prog t=some (.agg ⟨[.pointer none,.pointer none]⟩):=by rw[eG h];exact oQ
theorem tM{t:Nat}(h:Nat.beq t 76=true):structOf Tryz.prog t [.pointer none,.pointer none]:=by rw[eG h];exact gY (by kernel_rfl) oQ
theorem nW:dB Tryz.prog 89=some (.agg ⟨[.int .i64 0,.int .i64 0,.bool false,.int .i64 0,.int .i64 0,.int .i64 0,.int .i64 0,.int .u64 0,.int .u64 0,.string ⟨#[]⟩,.int .u64 0,.int .u64 0,.int .i64 0,.bool false,.bool false,.slice none 0 0,.slice none 0 0,.int .i64 0,.bool false,.int .u64 0,.string ⟨#[]⟩,.int .i64 0,.int .i64 0,.int .i64 0,.bool false]⟩):=by kernel_rfl
theorem tV{t:Nat}(h:Nat.beq t 89=true):dB Tryz.prog t=some (.agg ⟨[.int .i64 0,.int .i64 0,.bool false,.int .i64 0,.int .i64 0,.int .i64 0,.int .i64 0,.int .u64 0,.int .u64 0,.string ⟨#[]⟩,.int .u64 0,.int .u64 0,.int .i64 0,.bool false,.bool false,.slice none 0 0,.slice none 0 0,.int .i64 0,.bool false,.int .u64 0,.string ⟨#[]⟩,.int .i64 0,.int .i64 0,.int .i64 0,.bool false]⟩):=by rw[eG h];exact nW
theorem sW{t:Nat}(h:Nat.beq t 89=true):placeOf Tryz.prog t [(0,1),(1,2),(3,1),(4,1),(5,1),(6,1),(7,1),(8,1),(9,1),(10,1),(11,1),(12,1),(13,1),(14,3),(17,8)] [.int .i64 0,.int .i64 0,.bool false,.int .i64 0,.int .i64 0,.int .i64 0,.int .i64 0,.int .u64 0,.int .u64 0,.string ⟨#[]⟩,.int .u64 0,.int .u64 0,.int .i64 0,.bool false,.bool false,.slice none 0 0,.slice none 0 0,.int .i64 0,.bool false,.int .u64 0,.string ⟨#[]⟩,.int .i64 0,.int .i64 0,.int .i64 0,.bool false]:=by rw[eG h];exact jZ (by kernel_rfl) nW
theorem xV:dB Tryz.prog 114=some (.agg ⟨[.slice none 0 0,.int .i64 0]⟩):=by kernel_rfl
theorem tI{t:Nat}(h:Nat.beq t 114=true):structOf Tryz.prog t [.slice none 0 0,.int .i64 0]:=by rw[eG h];exact gY (by kernel_rfl) xV
theorem Mh:dB Tryz.prog 125=some (.agg ⟨[.nilIface,.int .i64 0,.bool false]⟩):=by kernel_rfl
theorem Fm{t:Nat}(h:Nat.beq t 125=true):placeOf Tryz.prog t [(0,1),(1,2)] [.nilIface,.int .i64 0,.bool false]:=by rw[eG h];exact jZ (by kernel_rfl) Mh
theorem tP:dB Tryz.prog 128=some (.agg ⟨[.int .i64 0,.int .i64 0,.int .i64 0,.int .i64 0]⟩):=by kernel_rfl
theorem Bx{t:Nat}(h:Nat.beq t 128=true):dB Tryz.prog t=some (.agg ⟨[.int .i64 0,.int .i64 0,.int .i64 0,.int .i64 0]⟩):=by rw[eG h];exact tP
theorem zA{t:Nat}(h:Nat.beq t 128=true):structOf Tryz.prog t [.int .i64 0,.int .i64 0,.int .i64 0,.int .i64 0]:=by rw[eG h];exact gY (by kernel_rfl) tP
theorem uQ:dB Tryz.prog 132=some (.agg ⟨[.int .i64 0,.int .i64 0,.int .i64 0,.int .i64 0,.nilFunc,.nilFunc,.int .i64 0,.bool false,.int .u64 0,.string ⟨#[]⟩,.int .i64 0,.int .i64 0,.int .i64 0,.bool false]⟩):=by kernel_rfl
theorem Eh{t:Nat}(h:Nat.beq t 132=true):dB Tryz.prog t=some (.agg ⟨[.int .i64 0,.int .i64 0,.int .i64 0,.int .i64 0,.nilFunc,.nilFunc,.int .i64 0,.bool false,.int .u64 0,.string ⟨#[]⟩,.int .i64 0,.int .i64 0,.int .i64 0,.bool false]⟩):=by rw[eG h];exact uQ
theorem Bv{t:Nat}(h:Nat.beq t 132=true):placeOf Tryz.prog t [(0,4),(4,1),(5,1),(6,8)] [.int .i64 0,.int .i64 0,.int .i64 0,.int .i64 0,.nilFunc,.nilFunc,.int .i64 0,.bool false,.int .u64 0,.string ⟨#[]⟩,.int .i64 0,.int .i64 0,.int .i64 0,.bool false]:=by rw[eG h];exact jZ (by kernel_rfl) uQ
theorem Cq:dB Tryz.prog 139=some (.agg ⟨[.slice none 0 0,.slice none 0 0,.int .i64 0,.int .i64 0]⟩):=by kernel_rfl
theorem xT{t:Nat}(h:Nat.beq t 139=true):structOf Tryz.prog t [.slice none 0 0,.slice none 0 0,.int .i64 0,.int .i64 0]:=by rw[eG h];exact gY (by kernel_rfl) Cq
theorem H7:dB Tryz.prog 141=some (.agg ⟨[.nilIface,.int .i64 0,.int .i64 0,.int .i64 0,.int .i64 0,.nilFunc,.nilFunc,.int .i64 0,.bool false,.int .u64 0,.string ⟨#[]⟩,.int .i64 0,.int .i64 0,.int .i64 0,.bool false,.int .i64 0,.bool false]⟩):=by kernel_rfl
theorem Cj{t:Nat}(h:Nat.beq t 141=true):placeOf Tryz.prog t [(0,1),(1,14),(15,1),(16,1)] [.nilIface,.int .i64 0,.int .i64 0,.int .i64 0,.int .i64 0,.nilFunc,.nilFunc,.int .i64 0,.bool false,.int .u64 0,.string ⟨#[]⟩,.int .i64 0,.int .i64 0,.int .i64 0,.bool false,.int .i64 0,.bool false]:=by rw[eG h];exact jZ (by kernel_rfl) H7
theorem vE:dB Tryz.prog 153=some (.agg ⟨[.pointer none,.int .i64 0,.int .i64 0,.bool false,.int .i64 0,.int .i64 0,.int .i64 0,.int .i64 0,.int .u64 0,.int .u64 0,.string ⟨#[]⟩,.int .u64 0,.int .u64 0,.int .i64 0,.bool false,.bool false,.slice none 0 0,.slice none 0 0,.int .i64 0,.bool false,.int .u64 0,.string ⟨#[]⟩,.int .i64 0,.int .i64 0,.int .i64 0,.bool false,.slice none 0 0,.slice none 0 0,.slice none 0 0,.slice none 0 0,.int .i64 0,.int .i64 0,.int .i64 0,.int .i64 0,.int .i64 0,.bool false,.int .i64 0,.int .i64 0,.int .i64 0,.int .i64 0,.bool false,.int .i64 0,.bool false,.int .u64 0,.string ⟨#[]⟩,.int .i64 0,.int .i64 0,.int .i64 0,.bool false,.bool false,.slice none 0 0,.slice none 0 0]⟩):=by kernel_rfl
theorem tF{t:Nat}(h:Nat.beq t 153=true):placeOf Tryz.prog t [(0,1),(1,25),(26,1),(27,1),(28,1),(29,1),(30,1),(31,1),(32,1),(33,1),(34,1),(35,1),(36,4),(40,1),(41,8),(49,3)] [.pointer none,.int .i64 0,.int .i64 0,.bool false,.int .i64 0,.int .i64 0,.int .i64 0,.int .i64 0,.int .u64 0,.int .u64 0,.string ⟨#[]⟩,.int .u64 0,.int .u64 0,.int .i64 0,.bool false,.bool false,.slice none 0 0,.slice none 0 0,.int .i64 0,.bool false,.int .u64 0,.string ⟨#[]⟩,.int .i64 0,.int .i64 0,.int .i64 0,.bool false,.slice none 0 0,.slice none 0 0,.slice none 0 0,.slice none 0 0,.int .i64 0,.int .i64 0,.int .i64 0,.int .i64 0,.int .i64 0,.bool false,.int .i64 0,.int .i64 0,.int .i64 0,.int .i64 0,.bool false,.int .i64 0,.bool false,.int .u64 0,.string ⟨#[]⟩,.int .i64 0,.int .i64 0,.int .i64 0,.bool false,.bool false,.slice none 0 0,.slice none 0 0]:=by rw[eG h];exact jZ (by kernel_rfl) vE
theorem C3:dB Tryz.prog 159=some (.agg ⟨[.nilIface,.int .i64 0,.bool false,.string ⟨#[]⟩,.int .u64 0]⟩):=by kernel_rfl
theorem yX{t:Nat}(h:Nat.beq t 159=true):placeOf Tryz.prog t [(0,3),(3,1),(4,1)] [.nilIface,.int .i64 0,.bool false,.string ⟨#[]⟩,.int .u64 0]:=by rw[eG h];exact jZ (by kernel_rfl) C3
theorem yL:dB Tryz.prog 164=some (.agg ⟨[.string ⟨#[]⟩,.int .u64 0]⟩):=by kernel_rfl
theorem Fp{t:Nat}(h:Nat.beq t 164=true):dB Tryz.prog t=some (.agg ⟨[.string ⟨#[]⟩,.int .u64 0]⟩):=by rw[eG h];exact yL
theorem Bu{t:Nat}(h:Nat.beq t 164=true):structOf Tryz.prog t [.string ⟨#[]⟩,.int .u64 0]:=by rw[eG h];exact gY (by kernel_rfl) yL
def aA5:List (Nat×Nat):=[(29,0),(29,1),(35,0),(35,1),(35,2),(35,3),(39,0),(39,1),(39,2),(39,3),(39,4),(47,0),(47,1),(47,2),(47,3),(47,4),(47,5),(47,6),(47,7),(47,8),(47,9),(47,10),(47,11),(47,12),(47,13),(52,0),(52,1),(52,2),(54,0),(64,0),(64,1),(64,2),(64,3),(64,4),(64,5),(64,6),(76,0),(76,1),(87,0),(87,1),(87,2),(89,0),(89,1),(114,0),(114,1),(125,0),(125,1),(128,0),(128,1),(128,2),(128,3),(132,0),(139,0),(139,1),(139,2),(139,3),(141,0),(141,1),(153,0),(153,1),(159,0),(164,0),(164,1),(230,0),(230,1)]
theorem wu:(aA5.all λ p=>cU Tryz.prog p.1 p.2==some p.2)=true:=by kernel_rfl
theorem aAm{t k:Nat}(h:(aA5.any λ p=>Nat.beq p.1 t&&Nat.beq p.2 k)=true):cU Tryz.prog t k=some k:=by
 obtain⟨p,hp,ht⟩:=List.any_eq_true.1 h
 simp only[Bool.and_eq_true] at ht
 have h2:=eq_of_beq (List.all_eq_true.1 wu p hp)
 rwa [eG ht.1,eG ht.2] at h2
def uf:List (Nat×Nat):=[(29,0),(29,1),(35,0),(35,1),(35,2),(35,3),(39,0),(39,1),(39,2),(39,3),(39,4),(47,0),(47,1),(47,2),(47,3),(47,4),(47,5),(47,6),(47,7),(47,8),(47,9),(47,10),(47,11),(47,12),(47,13),(52,0),(52,1),(52,2),(64,0),(64,1),(64,2),(64,3),(64,4),(64,5),(76,0),(76,1),(87,0),(87,1),(87,2),(89,0),(114,0),(114,1),(125,0),(128,0),(128,1),(128,2),(128,3),(139,0),(139,1),(139,2),(139,3),(141,0),(153,0),(164,0),(164,1),(230,0),(230,1)]
theorem tz:(uf.all λ p=>A4 Tryz.prog p.1 p.2==some p.2)=true:=by kernel_rfl
theorem Um{t k:Nat}(h:(uf.any λ p=>Nat.beq p.1 t&&Nat.beq p.2 k)=true):A4 Tryz.prog t k=some k:=by
 obtain⟨p,hp,ht⟩:=List.any_eq_true.1 h
 simp only[Bool.and_eq_true] at ht
 have h2:=eq_of_beq (List.all_eq_true.1 tz p hp)
 rwa [eG ht.1,eG ht.2] at h2
theorem vP{t k:Nat}(h:(Nat.beq t 54&&Nat.beq k 1)=true):cU Tryz.prog t k=some 3:=by simp only[Bool.and_eq_true] at h;rw[eG h.1,eG h.2];kernel_rfl
theorem uJ{t k:Nat}(h:(Nat.beq t 89&&Nat.beq k 2)=true):cU Tryz.prog t k=some 3:=by simp only[Bool.and_eq_true] at h;rw[eG h.1,eG h.2];kernel_rfl
theorem uH{t k:Nat}(h:(Nat.beq t 89&&Nat.beq k 3)=true):cU Tryz.prog t k=some 4:=by simp only[Bool.and_eq_true] at h;rw[eG h.1,eG h.2];kernel_rfl
theorem tY{t k:Nat}(h:(Nat.beq t 89&&Nat.beq k 4)=true):cU Tryz.prog t k=some 5:=by simp only[Bool.and_eq_true] at h;rw[eG h.1,eG h.2];kernel_rfl
theorem uM{t k:Nat}(h:(Nat.beq t 89&&Nat.beq k 7)=true):cU Tryz.prog t k=some 8:=by simp only[Bool.and_eq_true] at h;rw[eG h.1,eG h.2];kernel_rfl
theorem uA{t k:Nat}(h:(Nat.beq t 89&&Nat.beq k 8)=true):cU Tryz.prog t k=some 9:=by simp only[Bool.and_eq_true] at h;rw[eG h.1,eG h.2];kernel_rfl
theorem uD{t k:Nat}(h:(Nat.beq t 89&&Nat.beq k 9)=true):cU Tryz.prog t k=some 10:=by simp only[Bool.and_eq_true] at h;rw[eG h.1,eG h.2];kernel_rfl
theorem sI{t k:Nat}(h:(Nat.beq t 89&&Nat.beq k 10)=true):cU Tryz.prog t k=some 11:=by simp only[Bool.and_eq_true] at h;rw[eG h.1,eG h.2];kernel_rfl
theorem sL{t k:Nat}(h:(Nat.beq t 89&&Nat.beq k 11)=true):cU Tryz.prog t k=some 12:=by simp only[Bool.and_eq_true] at h;rw[eG h.1,eG h.2];kernel_rfl
theorem tJ{t k:Nat}(h:(Nat.beq t 89&&Nat.beq k 12)=true):cU Tryz.prog t k=some 13:=by simp only[Bool.and_eq_true] at h;rw[eG h.1,eG h.2];kernel_rfl
theorem D5{t k:Nat}(h:(Nat.beq t 132&&Nat.beq k 1)=true):cU Tryz.prog t k=some 4:=by simp only[Bool.and_eq_true] at h;rw[eG h.1,eG h.2];kernel_rfl
theorem D1{t k:Nat}(h:(Nat.beq t 132&&Nat.beq k 2)=true):cU Tryz.prog t k=some 5:=by simp only[Bool.and_eq_true] at h;rw[eG h.1,eG h.2];kernel_rfl
theorem D3{t k:Nat}(h:(Nat.beq t 132&&Nat.beq k 3)=true):cU Tryz.prog t k=some 6:=by simp only[Bool.and_eq_true] at h;rw[eG h.1,eG h.2];kernel_rfl
theorem Ee{t k:Nat}(h:(Nat.beq t 141&&Nat.beq k 2)=true):cU Tryz.prog t k=some 15:=by simp only[Bool.and_eq_true] at h;rw[eG h.1,eG h.2];kernel_rfl
theorem D6{t k:Nat}(h:(Nat.beq t 141&&Nat.beq k 3)=true):cU Tryz.prog t k=some 16:=by simp only[Bool.and_eq_true] at h;rw[eG h.1,eG h.2];kernel_rfl
theorem uC{t k:Nat}(h:(Nat.beq t 153&&Nat.beq k 2)=true):cU Tryz.prog t k=some 26:=by simp only[Bool.and_eq_true] at h;rw[eG h.1,eG h.2];kernel_rfl
theorem uF{t k:Nat}(h:(Nat.beq t 153&&Nat.beq k 3)=true):cU Tryz.prog t k=some 27:=by simp only[Bool.and_eq_true] at h;rw[eG h.1,eG h.2];kernel_rfl
theorem uG{t k:Nat}(h:(Nat.beq t 153&&Nat.beq k 4)=true):cU Tryz.prog t k=some 28:=by simp only[Bool.and_eq_true] at h;rw[eG h.1,eG h.2];kernel_rfl
theorem tX{t k:Nat}(h:(Nat.beq t 153&&Nat.beq k 5)=true):cU Tryz.prog t k=some 29:=by simp only[Bool.and_eq_true] at h;rw[eG h.1,eG h.2];kernel_rfl
theorem uB{t k:Nat}(h:(Nat.beq t 153&&Nat.beq k 6)=true):cU Tryz.prog t k=some 30:=by simp only[Bool.and_eq_true] at h;rw[eG h.1,eG h.2];kernel_rfl
theorem uE{t k:Nat}(h:(Nat.beq t 153&&Nat.beq k 7)=true):cU Tryz.prog t k=some 31:=by simp only[Bool.and_eq_true] at h;rw[eG h.1,eG h.2];kernel_rfl
theorem tZ{t k:Nat}(h:(Nat.beq t 153&&Nat.beq k 8)=true):cU Tryz.prog t k=some 32:=by simp only[Bool.and_eq_true] at h;rw[eG h.1,eG h.2];kernel_rfl
theorem uK{t k:Nat}(h:(Nat.beq t 153&&Nat.beq k 9)=true):cU Tryz.prog t k=some 33:=by simp only[Bool.and_eq_true] at h;rw[eG h.1,eG h.2];kernel_rfl
theorem sD{t k:Nat}(h:(Nat.beq t 153&&Nat.beq k 10)=true):cU Tryz.prog t k=some 34:=by simp only[Bool.and_eq_true] at h;rw[eG h.1,eG h.2];kernel_rfl
theorem sV{t k:Nat}(h:(Nat.beq t 153&&Nat.beq k 11)=true):cU Tryz.prog t k=some 35:=by simp only[Bool.and_eq_true] at h;rw[eG h.1,eG h.2];kernel_rfl
theorem sE{t k:Nat}(h:(Nat.beq t 153&&Nat.beq k 12)=true):cU Tryz.prog t k=some 36:=by simp only[Bool.and_eq_true] at h;rw[eG h.1,eG h.2];kernel_rfl
theorem sQ{t k:Nat}(h:(Nat.beq t 153&&Nat.beq k 13)=true):cU Tryz.prog t k=some 40:=by simp only[Bool.and_eq_true] at h;rw[eG h.1,eG h.2];kernel_rfl
theorem tE{t k:Nat}(h:(Nat.beq t 153&&Nat.beq k 14)=true):cU Tryz.prog t k=some 41:=by simp only[Bool.and_eq_true] at h;rw[eG h.1,eG h.2];kernel_rfl
theorem Aj{t k:Nat}(h:(Nat.beq t 159&&Nat.beq k 1)=true):cU Tryz.prog t k=some 3:=by simp only[Bool.and_eq_true] at h;rw[eG h.1,eG h.2];kernel_rfl
theorem zT{t k:Nat}(h:(Nat.beq t 159&&Nat.beq k 2)=true):cU Tryz.prog t k=some 4:=by simp only[Bool.and_eq_true] at h;rw[eG h.1,eG h.2];kernel_rfl
def aBT:List Nat:=[15,16,17,23,25,30,42,56,74,156,259]
theorem w4:(aBT.all λ t=>Jt Tryz.prog t)=true:=by kernel_rfl
theorem Ry{t:Nat}(h:aBT.elem t=true):Jt Tryz.prog t=true:=List.all_eq_true.1 w4 t (List.mem_of_elem_eq_true h)
def ly:List (Nat×Nat):=[(22,3),(32,29),(33,74),(44,37),(45,164),(50,47),(85,230),(95,4),(102,9),(108,76),(115,39),(151,27),(169,31)]
def vk(t:Nat):Nat:=(ly.lookup t).getD 0
theorem aBU:(ly.all λ p=>(match Tryz.prog.underlying p.1 with|some (.slice e)=>Nat.beq e p.2&&Nat.beq (vk p.1) p.2|_=>false))=true:=by kernel_rfl
theorem aBj{t:Nat}(h:(ly.any λ p=>Nat.beq p.1 t)=true):Tryz.prog.underlying t=some (.slice (vk t)):=by
 obtain⟨p,hp,ht⟩:=List.any_eq_true.1 h
 have h2:=List.all_eq_true.1 aBU p hp
 rw[<- eG ht]
 cases hu:Tryz.prog.underlying p.1 with
 | none=>rw[hu] at h2;simp at h2
 | some d =>
  rw[hu] at h2
  cases d<;>simp only[Bool.false_eq_true] at h2
  simp only[Bool.and_eq_true] at h2
  rw[eG h2.1,eG h2.2]
def aBd:List (Nat×Nat):=[(3,1),(4,1),(9,1),(27,1),(29,2),(31,1),(37,1),(39,5),(47,14),(74,1),(76,2),(164,2),(230,2)]
theorem yw:(aBd.all λ p=>(Tryz.prog.info? p.1).map (·.size)==some p.2)=true:=by kernel_rfl
theorem tR{e s:Nat}(h:(aBd.any λ p=>Nat.beq p.1 e&&Nat.beq p.2 s)=true):(Tryz.prog.info? e).map (·.size)=some s:=by
 obtain⟨p,hp,ht⟩:=List.any_eq_true.1 h
 simp only[Bool.and_eq_true] at ht
 have h2:=List.all_eq_true.1 yw p hp
 rw[<- eG ht.1,<- eG ht.2]
 exact eq_of_beq h2
theorem Uz{t:Nat}(h:Nat.beq t 4=true):Tryz.prog.underlying t=some .bool:=by
 rw[eG h];kernel_rfl
theorem yo{t:Nat}(h:Nat.beq t 9=true):Tryz.prog.underlying t=some .string:=by
 rw[eG h];kernel_rfl
theorem s8{t:Nat}(h:Nat.beq t 164=true):K7 Tryz.prog t=true:=by
 rw[eG h];kernel_rfl
def aAL:List (Nat×IntKind):=[(2,.i64),(3,.i64),(5,.u8),(12,.u64),(21,.i32),(27,.i64),(31,.u64),(37,.i64),(62,.i64),(209,.u64),(255,.u32)]
theorem aAi:(aAL.all λ p=>yB Tryz.prog p.1 p.2)=true:=by kernel_rfl
theorem sJ{t:Nat}{k:IntKind}(h:(aAL.any λ p=>Nat.beq p.1 t&&p.2==k)=true):yB Tryz.prog t k=true:=by
 obtain⟨p,hp,ht⟩:=List.any_eq_true.1 h
 simp only[Bool.and_eq_true] at ht
 have h2:=List.all_eq_true.1 aAi p hp
 rw[eG ht.1,eq_of_beq ht.2] at h2
 exact h2
def vt(P:Program)(t e s:Nat):Bool :=
 (match P.underlying t with|some (.slice e')=>Nat.beq e' e|_=>false)&&(match P.info? e with
  | some i=>Nat.beq i.size s&&Nat.ble i.bytes 256
  | none=>false)
theorem lZ{P:Program}{t e:Nat}{z:Value}{zc:List Value}(h:vt P t e zc.length=true)(hz:dB P e=some z)(hzc:z.cells=⟨zc⟩):dM P t e zc:=by
 unfold vt at h
 simp only[Bool.and_eq_true] at h
 refine⟨?_,?_⟩
 ·cases hu:P.underlying t with
  | none=>simp[hu] at h
  | some d =>
   rw[hu] at h
   cases d<;>simp only[Bool.false_eq_true,false_and] at h
   rw[eG h.1]
 ·cases hi:P.info? e with
  | none=>simp[hi] at h
  | some i =>
   rw[hi] at h
   simp only[Bool.and_eq_true] at h
   exact⟨i,z,rfl,by simpa[dB,hi] using hz,hzc,eG h.2.1,Nat.le_of_ble_eq_true h.2.2⟩
theorem Yv:dB Tryz.prog 3=some (.int .i64 0):=by kernel_rfl
theorem F2:dM Tryz.prog 22 3 [.int .i64 0]:=lZ (by kernel_rfl) Yv rfl
theorem Jj{t:Nat}(h:Nat.beq t 22=true):dM Tryz.prog t 3 [.int .i64 0]:=by rw[eG h];exact F2
theorem Yx:dB Tryz.prog 37=some (.int .i64 0):=by kernel_rfl
theorem pT:dM Tryz.prog 44 37 [.int .i64 0]:=lZ (by kernel_rfl) Yx rfl
theorem Jz{t:Nat}(h:Nat.beq t 44=true):dM Tryz.prog t 37 [.int .i64 0]:=by rw[eG h];exact pT
theorem Rz:dB Tryz.prog 164=some (.agg ⟨[.string ⟨#[]⟩,.int .u64 0]⟩):=by kernel_rfl
theorem Xx:dM Tryz.prog 45 164 [.string ⟨#[]⟩,.int .u64 0]:=lZ (by kernel_rfl) Rz rfl
theorem pL{t:Nat}(h:Nat.beq t 45=true):dM Tryz.prog t 164 [.string ⟨#[]⟩,.int .u64 0]:=by rw[eG h];exact Xx
def uk:List Value:=[.int .i64 0,.int .i64 0,.int .i64 0,.int .u64 0,.slice none 0 0,.int .u64 0,.string ⟨#[]⟩,.int .u64 0,.slice none 0 0,.int .i64 0,.int .i64 0,.int .i64 0,.int .i64 0,.int .i64 0]
theorem Sv:dB Tryz.prog 47=some (.agg ⟨[.int .i64 0,.int .i64 0,.int .i64 0,.int .u64 0,.slice none 0 0,.int .u64 0,.string ⟨#[]⟩,.int .u64 0,.slice none 0 0,.int .i64 0,.int .i64 0,.int .i64 0,.int .i64 0,.int .i64 0]⟩):=by kernel_rfl
theorem rT:dM Tryz.prog 50 47 uk:=lZ (by kernel_rfl) Sv rfl
theorem Gr{t:Nat}(h:Nat.beq t 50=true):dM Tryz.prog t 47 uk:=by rw[eG h];exact rT
theorem Tt:dB Tryz.prog 4=some (.bool false):=by kernel_rfl
theorem X1:dM Tryz.prog 95 4 [.bool false]:=lZ (by kernel_rfl) Tt rfl
theorem Hh{t:Nat}(h:Nat.beq t 95=true):dM Tryz.prog t 4 [.bool false]:=by rw[eG h];exact X1
theorem Y4:dB Tryz.prog 9=some (.string ⟨#[]⟩):=by kernel_rfl
theorem k9:dM Tryz.prog 102 9 [.string ⟨#[]⟩]:=lZ (by kernel_rfl) Y4 rfl
theorem Xc{t:Nat}(h:Nat.beq t 102=true):dM Tryz.prog t 9 [.string ⟨#[]⟩]:=by rw[eG h];exact k9
end Go.Proofs.YtbajmaoegmbfgaaGreat
