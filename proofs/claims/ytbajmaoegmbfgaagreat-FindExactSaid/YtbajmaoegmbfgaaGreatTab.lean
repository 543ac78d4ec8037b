/- What the program's table says of the types that are used: closed facts. Written by a program. -/
import Derived.Test.YtbajmaoegmbfgaaGreatGLst3
import Derived.Test.YtbajmaoegmbfgaaGreatProg
set_option linter.unusedSimpArgs false
set_option linter.unusedVariables false
namespace Go.Proofs.YtbajmaoegmbfgaaGreat
open Go.RowKit Go.Ct
def aBa:List Nat:=[2,3,4,5,9,12,15,16,17,20,21,22,23,25,27,30,31,32,33,37,42,44,45,50,56,62,74,85,95,102,108,115,122,123,129,130,151,156,169,209,255,259]
theorem va:(aBa.all λ t=>one Tryz.prog t)=true:=by kernel_rfl
theorem L8{t:Nat}(h:aBa.elem t=true):one Tryz.prog t=true:=List.all_eq_true.1 va t (List.mem_of_elem_eq_true h)
def aAq:List (Nat×Nat):=[(29,2),(35,4),(39,5),(47,14),(52,3),(54,4),(64,8),(76,2),(87,3),(89,25),(114,2),(125,3),(128,4),(132,14),(139,4),(141,17),(153,52),(159,5),(164,2),(230,2)]
theorem xa:(aAq.all λ p=>jL Tryz.prog p.1 p.2)=true:=by kernel_rfl
theorem Qp{t k:Nat}(h:(aAq.any λ p=>Nat.beq p.1 t&&Nat.beq p.2 k)=true):jL Tryz.prog t k=true:=by
 obtain⟨p,hp,ht⟩:=List.any_eq_true.1 h
 simp only[Bool.and_eq_true] at ht
 have h2:=List.all_eq_true.1 xa p hp
 rwa [eF ht.1,eF ht.2] at h2
theorem xX:dA Tryz.prog 29=some (.agg ⟨[.int .i64 0,.bool false]⟩):=by kernel_rfl
theorem Hb{t:Nat}(h:Nat.beq t 29=true):dA Tryz.prog t=some (.agg ⟨[.int .i64 0,.bool false]⟩):=by rw[eF h];exact xX
theorem Bd{t:Nat}(h:Nat.beq t 29=true):structOf Tryz.prog t [.int .i64 0,.bool false]:=by rw[eF h];exact gV (by kernel_rfl) xX
theorem uJ:dA Tryz.prog 35=some (.agg ⟨[.pointer none,.int .u64 0,.slice none 0 0,.slice none 0 0]⟩):=by kernel_rfl
theorem rR{t:Nat}(h:Nat.beq t 35=true):structOf Tryz.prog t [.pointer none,.int .u64 0,.slice none 0 0,.slice none 0 0]:=by rw[eF h];exact gV (by kernel_rfl) uJ
theorem yC:dA Tryz.prog 47=some (.agg ⟨[.int .i64 0,.int .i64 0,.int .i64 0,.int .u64 0,.slice none 0 0,.int .u64 0,.string ⟨#[]⟩,.int .u64 0,.slice none 0 0,.int .i64 0,.int .i64 0,.int .i64 0,.int .i64 0,.int .i64 0]⟩):=by kernel_rfl
theorem F6{t:Nat}(h:Nat.beq t 47=true):dA Tryz.prog t=some (.agg ⟨[.int .i64 0,.int .i64 0,.int .i64 0,.int .u64 0,.slice none 0 0,.int .u64 0,.string ⟨#[]⟩,.int .u64 0,.slice none 0 0,.int .i64 0,.int .i64 0,.int .i64 0,.int .i64 0,.int .i64 0]⟩):=by rw[eF h];exact yC
theorem Cc{t:Nat}(h:Nat.beq t 47=true):structOf Tryz.prog t [.int .i64 0,.int .i64 0,.int .i64 0,.int .u64 0,.slice none 0 0,.int .u64 0,.string ⟨#[]⟩,.int .u64 0,.slice none 0 0,.int .i64 0,.int .i64 0,.int .i64 0,.int .i64 0,.int .i64 0]:=by rw[eF h];exact gV (by kernel_rfl) yC
theorem vX:dA Tryz.prog 52=some (.agg ⟨[.slice none 0 0,.slice none 0 0,.int .i64 0]⟩):=by kernel_rfl
theorem Dn{t:Nat}(h:Nat.beq t 52=true):dA Tryz.prog t=some (.agg ⟨[.slice none 0 0,.slice none 0 0,.int .i64 0]⟩):=by rw[eF h];exact vX
theorem Af{t:Nat}(h:Nat.beq t 52=true):structOf Tryz.prog t [.slice none 0 0,.slice none 0 0,.int .i64 0]:=by rw[eF h];exact gV (by kernel_rfl) vX
theorem xG:dA Tryz.prog 54=some (.agg ⟨[.slice none 0 0,.slice none 0 0,.int .i64 0,.int .i64 0]⟩):=by kernel_rfl
theorem tV{t:Nat}(h:Nat.beq t 54=true):placeOf Tryz.prog t [(0,3),(3,1)] [.slice none 0 0,.slice none 0 0,.int .i64 0,.int .i64 0]:=by rw[eF h];exact jX (by kernel_rfl) xG
theorem tI:dA Tryz.prog 64=some (.agg ⟨[.int .i64 0,.bool false,.int .u64 0,.string ⟨#[]⟩,.int .i64 0,.int .i64 0,.int .i64 0,.bool false]⟩):=by kernel_rfl
theorem B4{t:Nat}(h:Nat.beq t 64=true):dA Tryz.prog t=some (.agg ⟨[.int .i64 0,.bool false,.int .u64 0,.string ⟨#[]⟩,.int .i64 0,.int .i64 0,.int .i64 0,.bool false]⟩):=by rw[eF h];exact tI
theorem Ab{t:Nat}(h:Nat.beq t 64=true):placeOf Tryz.prog t [(0,1),(1,1),(2,1),(3,1),(4,1),(5,1),(6,2)] [.int .i64 0,.bool false,.int .u64 0,.string ⟨#[]⟩,.int .i64 0,.int .i64 0,.int .i64 0,.bool false]:=by rw[eF h];exact jX (by kernel_rfl) tI
theorem oI:dA Tryz.prog 76=some (.agg ⟨[.pointer none,.pointer none]⟩):=by kernel_rfl
theorem uV{t:Nat}(h:Nat.beq t 76=true):dA Tryz.prog t=some (.agg ⟨[.pointer none,.pointer none]⟩):=by rw[eF h];exact oI
theorem sG{t:Nat}(h:Nat.beq t 76=true):structOf Tryz.prog t [.pointer none,.pointer none]:=by rw[eF h];exact gV (by kernel_rfl) oI
theorem nM:dA Tryz.prog 89=some (.agg ⟨[.int .i64 0,.int .i64 0,.bool false,.int .i64 0,.int .i64 0,.int .i64 0,.int .i64 0,.int .u64 0,.int .u64 0,.string ⟨#[]⟩,.int .u64 0,.int .u64 0,.int .i64 0,.bool false,.bool false,.slice none 0 0,.slice none 0 0,.int .i64 0,.bool false,.int .u64 0,.string ⟨#[]⟩,.int .i64 0,.int .i64 0,.int .i64 0,.bool false]⟩):=by kernel_rfl
theorem uA{t:Nat}(h:Nat.beq t 89=true):dA Tryz.prog t=some (.agg ⟨[.int .i64 0,.int .i64 0,.bool false,.int .i64 0,.int .i64 0,.int .i64 0,.int .i64 0,.int .u64 0,.int .u64 0,.string ⟨#[]⟩,.int .u64 0,.int .u64 0,.int .i64 0,.bool false,.bool false,.slice none 0 0,.slice none 0 0,.int .i64 0,.bool false,.int .u64 0,.string ⟨#[]⟩,.int .i64 0,.int .i64 0,.int .i64 0,.bool false]⟩):=by rw[eF h];exact nM
theorem sM{t:Nat}(h:Nat.beq t 89=true):placeOf Tryz.prog t [(0,1),(1,2),(3,1),(4,1),(5,1),(6,1),(7,1),(8,1),(9,1),(10,1),(11,1),(12,1),(13,1),(14,3),(17,8)] [.int .i64 0,.int .i64 0,.bool false,.int .i64 0,.int .i64 0,.int .i64 0,.int .i64 0,.int .u64 0,.int .u64 0,.string ⟨#[]⟩,.int .u64 0,.int .u64 0,.int .i64 0,.bool false,.bool false,.slice none 0 0,.slice none 0 0,.int .i64 0,.bool false,.int .u64 0,.string ⟨#[]⟩,.int .i64 0,.int .i64 0,.int .i64 0,.bool false]:=by rw[eF h];exact jX (by kernel_rfl) nM
theorem xK:dA Tryz.prog 114=some (.agg ⟨[.slice none 0 0,.int .i64 0]⟩):=by kernel_rfl
theorem rY{t:Nat}(h:Nat.beq t 114=true):structOf Tryz.prog t [.slice none 0 0,.int .i64 0]:=by rw[eF h];exact gV (by kernel_rfl) xK
theorem L3:dA Tryz.prog 125=some (.agg ⟨[.nilIface,.int .i64 0,.bool false]⟩):=by kernel_rfl
theorem Gl{t:Nat}(h:Nat.beq t 125=true):placeOf Tryz.prog t [(0,1),(1,2)] [.nilIface,.int .i64 0,.bool false]:=by rw[eF h];exact jX (by kernel_rfl) L3
theorem tJ:dA Tryz.prog 128=some (.agg ⟨[.int .i64 0,.int .i64 0,.int .i64 0,.int .i64 0]⟩):=by kernel_rfl
theorem Bk{t:Nat}(h:Nat.beq t 128=true):dA Tryz.prog t=some (.agg ⟨[.int .i64 0,.int .i64 0,.int .i64 0,.int .i64 0]⟩):=by rw[eF h];exact tJ
theorem yV{t:Nat}(h:Nat.beq t 128=true):structOf Tryz.prog t [.int .i64 0,.int .i64 0,.int .i64 0,.int .i64 0]:=by rw[eF h];exact gV (by kernel_rfl) tJ
theorem uN:dA Tryz.prog 132=some (.agg ⟨[.int .i64 0,.int .i64 0,.int .i64 0,.int .i64 0,.nilFunc,.nilFunc,.int .i64 0,.bool false,.int .u64 0,.string ⟨#[]⟩,.int .i64 0,.int .i64 0,.int .i64 0,.bool false]⟩):=by kernel_rfl
theorem Du{t:Nat}(h:Nat.beq t 132=true):dA Tryz.prog t=some (.agg ⟨[.int .i64 0,.int .i64 0,.int .i64 0,.int .i64 0,.nilFunc,.nilFunc,.int .i64 0,.bool false,.int .u64 0,.string ⟨#[]⟩,.int .i64 0,.int .i64 0,.int .i64 0,.bool false]⟩):=by rw[eF h];exact uN
theorem A3{t:Nat}(h:Nat.beq t 132=true):placeOf Tryz.prog t [(0,4),(4,1),(5,1),(6,8)] [.int .i64 0,.int .i64 0,.int .i64 0,.int .i64 0,.nilFunc,.nilFunc,.int .i64 0,.bool false,.int .u64 0,.string ⟨#[]⟩,.int .i64 0,.int .i64 0,.int .i64 0,.bool false]:=by rw[eF h];exact jX (by kernel_rfl) uN
theorem Be:dA Tryz.prog 139=some (.agg ⟨[.slice none 0 0,.slice none 0 0,.int .i64 0,.int .i64 0]⟩):=by kernel_rfl
theorem xL{t:Nat}(h:Nat.beq t 139=true):structOf Tryz.prog t [.slice none 0 0,.slice none 0 0,.int .i64 0,.int .i64 0]:=by rw[eF h];exact gV (by kernel_rfl) Be
theorem E3:dA Tryz.prog 141=some (.agg ⟨[.nilIface,.int .i64 0,.int .i64 0,.int .i64 0,.int .i64 0,.nilFunc,.nilFunc,.int .i64 0,.bool false,.int .u64 0,.string ⟨#[]⟩,.int .i64 0,.int .i64 0,.int .i64 0,.bool false,.int .i64 0,.bool false]⟩):=by kernel_rfl
theorem B7{t:Nat}(h:Nat.beq t 141=true):placeOf Tryz.prog t [(0,1),(1,14),(15,1),(16,1)] [.nilIface,.int .i64 0,.int .i64 0,.int .i64 0,.int .i64 0,.nilFunc,.nilFunc,.int .i64 0,.bool false,.int .u64 0,.string ⟨#[]⟩,.int .i64 0,.int .i64 0,.int .i64 0,.bool false,.int .i64 0,.bool false]:=by rw[eF h];exact jX (by kernel_rfl) E3
theorem uX:dA Tryz.prog 153=some (.agg ⟨[.pointer none,.int .i64 0,.int .i64 0,.bool false,.int .i64 0,.int .i64 0,.int .i64 0,.int .i64 0,.int .u64 0,.int .u64 0,.string ⟨#[]⟩,.int .u64 0,.int .u64 0,.int .i64 0,.bool false,.bool false,.slice none 0 0,.slice none 0 0,.int .i64 0,.bool false,.int .u64 0,.string ⟨#[]⟩,.int .i64 0,.int .i64 0,.int .i64 0,.bool false,.slice none 0 0,.slice none 0 0,.slice none 0 0,.slice none 0 0,.int .i64 0,.int .i64 0,.int .i64 0,.int .i64 0,.int .i64 0,.bool false,.int .i64 0,.int .i64 0,.int .i64 0,.int .i64 0,.bool false,.int .i64 0,.bool false,.int .u64 0,.string ⟨#[]⟩,.int .i64 0,.int .i64 0,.int .i64 0,.bool false,.bool false,.slice none 0 0,.slice none 0 0]⟩):=by kernel_rfl
theorem sF{t:Nat}(h:Nat.beq t 153=true):placeOf Tryz.prog t [(0,1),(1,25),(26,1),(27,1),(28,1),(29,1),(30,1),(31,1),(32,1),(33,1),(34,1),(35,1),(36,4),(40,1),(41,8),(49,3)] [.pointer none,.int .i64 0,.int .i64 0,.bool false,.int .i64 0,.int .i64 0,.int .i64 0,.int .i64 0,.int .u64 0,.int .u64 0,.string ⟨#[]⟩,.int .u64 0,.int .u64 0,.int .i64 0,.bool false,.bool false,.slice none 0 0,.slice none 0 0,.int .i64 0,.bool false,.int .u64 0,.string ⟨#[]⟩,.int .i64 0,.int .i64 0,.int .i64 0,.bool false,.slice none 0 0,.slice none 0 0,.slice none 0 0,.slice none 0 0,.int .i64 0,.int .i64 0,.int .i64 0,.int .i64 0,.int .i64 0,.bool false,.int .i64 0,.int .i64 0,.int .i64 0,.int .i64 0,.bool false,.int .i64 0,.bool false,.int .u64 0,.string ⟨#[]⟩,.int .i64 0,.int .i64 0,.int .i64 0,.bool false,.bool false,.slice none 0 0,.slice none 0 0]:=by rw[eF h];exact jX (by kernel_rfl) uX
theorem Bn:dA Tryz.prog 159=some (.agg ⟨[.nilIface,.int .i64 0,.bool false,.string ⟨#[]⟩,.int .u64 0]⟩):=by kernel_rfl
theorem yM{t:Nat}(h:Nat.beq t 159=true):placeOf Tryz.prog t [(0,3),(3,1),(4,1)] [.nilIface,.int .i64 0,.bool false,.string ⟨#[]⟩,.int .u64 0]:=by rw[eF h];exact jX (by kernel_rfl) Bn
theorem xR:dA Tryz.prog 164=some (.agg ⟨[.string ⟨#[]⟩,.int .u64 0]⟩):=by kernel_rfl
theorem El{t:Nat}(h:Nat.beq t 164=true):dA Tryz.prog t=some (.agg ⟨[.string ⟨#[]⟩,.int .u64 0]⟩):=by rw[eF h];exact xR
theorem Bi{t:Nat}(h:Nat.beq t 164=true):structOf Tryz.prog t [.string ⟨#[]⟩,.int .u64 0]:=by rw[eF h];exact gV (by kernel_rfl) xR
def aBe:List (Nat×Nat):=[(29,0),(29,1),(35,0),(35,1),(35,2),(35,3),(39,0),(39,1),(39,2),(39,3),(39,4),(47,0),(47,1),(47,2),(47,3),(47,4),(47,5),(47,6),(47,7),(47,8),(47,9),(47,10),(47,11),(47,12),(47,13),(52,0),(52,1),(52,2),(54,0),(64,0),(64,1),(64,2),(64,3),(64,4),(64,5),(64,6),(76,0),(76,1),(87,0),(87,1),(87,2),(89,0),(89,1),(114,0),(114,1),(125,0),(125,1),(128,0),(128,1),(128,2),(128,3),(132,0),(139,0),(139,1),(139,2),(139,3),(141,0),(141,1),(153,0),(153,1),(159,0),(164,0),(164,1),(230,0),(230,1)]
theorem zh:(aBe.all λ p=>cS Tryz.prog p.1 p.2==some p.2)=true:=by kernel_rfl
theorem xc{t k:Nat}(h:(aBe.any λ p=>Nat.beq p.1 t&&Nat.beq p.2 k)=true):cS Tryz.prog t k=some k:=by
 obtain⟨p,hp,ht⟩:=List.any_eq_true.1 h
 simp only[Bool.and_eq_true] at ht
 have h2:=eq_of_beq (List.all_eq_true.1 zh p hp)
 rwa [eF ht.1,eF ht.2] at h2
def ta:List (Nat×Nat):=[(29,0),(29,1),(35,0),(35,1),(35,2),(35,3),(39,0),(39,1),(39,2),(39,3),(39,4),(47,0),(47,1),(47,2),(47,3),(47,4),(47,5),(47,6),(47,7),(47,8),(47,9),(47,10),(47,11),(47,12),(47,13),(52,0),(52,1),(52,2),(64,0),(64,1),(64,2),(64,3),(64,4),(64,5),(76,0),(76,1),(87,0),(87,1),(87,2),(89,0),(114,0),(114,1),(125,0),(128,0),(128,1),(128,2),(128,3),(139,0),(139,1),(139,2),(139,3),(141,0),(153,0),(164,0),(164,1),(230,0),(230,1)]
theorem qc:(ta.all λ p=>Aa Tryz.prog p.1 p.2==some p.2)=true:=by kernel_rfl
theorem Tj{t k:Nat}(h:(ta.any λ p=>Nat.beq p.1 t&&Nat.beq p.2 k)=true):Aa Tryz.prog t k=some k:=by
 obtain⟨p,hp,ht⟩:=List.any_eq_true.1 h
 simp only[Bool.and_eq_true] at ht
 have h2:=eq_of_beq (List.all_eq_true.1 qc p hp)
 rwa [eF ht.1,eF ht.2] at h2
theorem uP{t k:Nat}(h:(Nat.beq t 54&&Nat.beq k 1)=true):cS Tryz.prog t k=some 3:=by simp only[Bool.and_eq_true] at h;rw[eF h.1,eF h.2];kernel_rfl
theorem tS{t k:Nat}(h:(Nat.beq t 89&&Nat.beq k 2)=true):cS Tryz.prog t k=some 3:=by simp only[Bool.and_eq_true] at h;rw[eF h.1,eF h.2];kernel_rfl
theorem tW{t k:Nat}(h:(Nat.beq t 89&&Nat.beq k 3)=true):cS Tryz.prog t k=some 4:=by simp only[Bool.and_eq_true] at h;rw[eF h.1,eF h.2];kernel_rfl
theorem uF{t k:Nat}(h:(Nat.beq t 89&&Nat.beq k 4)=true):cS Tryz.prog t k=some 5:=by simp only[Bool.and_eq_true] at h;rw[eF h.1,eF h.2];kernel_rfl
theorem tZ{t k:Nat}(h:(Nat.beq t 89&&Nat.beq k 7)=true):cS Tryz.prog t k=some 8:=by simp only[Bool.and_eq_true] at h;rw[eF h.1,eF h.2];kernel_rfl
theorem tU{t k:Nat}(h:(Nat.beq t 89&&Nat.beq k 8)=true):cS Tryz.prog t k=some 9:=by simp only[Bool.and_eq_true] at h;rw[eF h.1,eF h.2];kernel_rfl
theorem tQ{t k:Nat}(h:(Nat.beq t 89&&Nat.beq k 9)=true):cS Tryz.prog t k=some 10:=by simp only[Bool.and_eq_true] at h;rw[eF h.1,eF h.2];kernel_rfl
theorem tB{t k:Nat}(h:(Nat.beq t 89&&Nat.beq k 10)=true):cS Tryz.prog t k=some 11:=by simp only[Bool.and_eq_true] at h;rw[eF h.1,eF h.2];kernel_rfl
theorem sU{t k:Nat}(h:(Nat.beq t 89&&Nat.beq k 11)=true):cS Tryz.prog t k=some 12:=by simp only[Bool.and_eq_true] at h;rw[eF h.1,eF h.2];kernel_rfl
theorem sV{t k:Nat}(h:(Nat.beq t 89&&Nat.beq k 12)=true):cS Tryz.prog t k=some 13:=by simp only[Bool.and_eq_true] at h;rw[eF h.1,eF h.2];kernel_rfl
theorem Ds{t k:Nat}(h:(Nat.beq t 132&&Nat.beq k 1)=true):cS Tryz.prog t k=some 4:=by simp only[Bool.and_eq_true] at h;rw[eF h.1,eF h.2];kernel_rfl
theorem Dr{t k:Nat}(h:(Nat.beq t 132&&Nat.beq k 2)=true):cS Tryz.prog t k=some 5:=by simp only[Bool.and_eq_true] at h;rw[eF h.1,eF h.2];kernel_rfl
theorem De{t k:Nat}(h:(Nat.beq t 132&&Nat.beq k 3)=true):cS Tryz.prog t k=some 6:=by simp only[Bool.and_eq_true] at h;rw[eF h.1,eF h.2];kernel_rfl
theorem Di{t k:Nat}(h:(Nat.beq t 141&&Nat.beq k 2)=true):cS Tryz.prog t k=some 15:=by simp only[Bool.and_eq_true] at h;rw[eF h.1,eF h.2];kernel_rfl
theorem Dj{t k:Nat}(h:(Nat.beq t 141&&Nat.beq k 3)=true):cS Tryz.prog t k=some 16:=by simp only[Bool.and_eq_true] at h;rw[eF h.1,eF h.2];kernel_rfl
theorem tX{t k:Nat}(h:(Nat.beq t 153&&Nat.beq k 2)=true):cS Tryz.prog t k=some 26:=by simp only[Bool.and_eq_true] at h;rw[eF h.1,eF h.2];kernel_rfl
theorem tM{t k:Nat}(h:(Nat.beq t 153&&Nat.beq k 3)=true):cS Tryz.prog t k=some 27:=by simp only[Bool.and_eq_true] at h;rw[eF h.1,eF h.2];kernel_rfl
theorem tP{t k:Nat}(h:(Nat.beq t 153&&Nat.beq k 4)=true):cS Tryz.prog t k=some 28:=by simp only[Bool.and_eq_true] at h;rw[eF h.1,eF h.2];kernel_rfl
theorem uB{t k:Nat}(h:(Nat.beq t 153&&Nat.beq k 5)=true):cS Tryz.prog t k=some 29:=by simp only[Bool.and_eq_true] at h;rw[eF h.1,eF h.2];kernel_rfl
theorem uC{t k:Nat}(h:(Nat.beq t 153&&Nat.beq k 6)=true):cS Tryz.prog t k=some 30:=by simp only[Bool.and_eq_true] at h;rw[eF h.1,eF h.2];kernel_rfl
theorem tY{t k:Nat}(h:(Nat.beq t 153&&Nat.beq k 7)=true):cS Tryz.prog t k=some 31:=by simp only[Bool.and_eq_true] at h;rw[eF h.1,eF h.2];kernel_rfl
theorem tT{t k:Nat}(h:(Nat.beq t 153&&Nat.beq k 8)=true):cS Tryz.prog t k=some 32:=by simp only[Bool.and_eq_true] at h;rw[eF h.1,eF h.2];kernel_rfl
theorem uD{t k:Nat}(h:(Nat.beq t 153&&Nat.beq k 9)=true):cS Tryz.prog t k=some 33:=by simp only[Bool.and_eq_true] at h;rw[eF h.1,eF h.2];kernel_rfl
theorem tC{t k:Nat}(h:(Nat.beq t 153&&Nat.beq k 10)=true):cS Tryz.prog t k=some 34:=by simp only[Bool.and_eq_true] at h;rw[eF h.1,eF h.2];kernel_rfl
theorem tE{t k:Nat}(h:(Nat.beq t 153&&Nat.beq k 11)=true):cS Tryz.prog t k=some 35:=by simp only[Bool.and_eq_true] at h;rw[eF h.1,eF h.2];kernel_rfl
theorem tG{t k:Nat}(h:(Nat.beq t 153&&Nat.beq k 12)=true):cS Tryz.prog t k=some 36:=by simp only[Bool.and_eq_true] at h;rw[eF h.1,eF h.2];kernel_rfl
theorem rV{t k:Nat}(h:(Nat.beq t 153&&Nat.beq k 13)=true):cS Tryz.prog t k=some 40:=by simp only[Bool.and_eq_true] at h;rw[eF h.1,eF h.2];kernel_rfl
theorem sI{t k:Nat}(h:(Nat.beq t 153&&Nat.beq k 14)=true):cS Tryz.prog t k=some 41:=by simp only[Bool.and_eq_true] at h;rw[eF h.1,eF h.2];kernel_rfl
theorem Aw{t k:Nat}(h:(Nat.beq t 159&&Nat.beq k 1)=true):cS Tryz.prog t k=some 3:=by simp only[Bool.and_eq_true] at h;rw[eF h.1,eF h.2];kernel_rfl
theorem zZ{t k:Nat}(h:(Nat.beq t 159&&Nat.beq k 2)=true):cS Tryz.prog t k=some 4:=by simp only[Bool.and_eq_true] at h;rw[eF h.1,eF h.2];kernel_rfl
def aAn:List Nat:=[15,16,17,23,25,30,42,56,74,156,259]
theorem wg:(aAn.all λ t=>Ij Tryz.prog t)=true:=by kernel_rfl
theorem Rb{t:Nat}(h:aAn.elem t=true):Ij Tryz.prog t=true:=List.all_eq_true.1 wg t (List.mem_of_elem_eq_true h)
def Zo:List (Nat×Nat):=[(22,3),(32,29),(33,74),(44,37),(45,164),(50,47),(85,230),(95,4),(102,9),(108,76),(115,39),(151,27),(169,31)]
def sv(t:Nat):Nat:=(Zo.lookup t).getD 0
theorem aBd:(Zo.all λ p=>(match Tryz.prog.underlying p.1 with|some (.slice e)=>Nat.beq e p.2&&Nat.beq (sv p.1) p.2|_=>false))=true:=by kernel_rfl
theorem aAt{t:Nat}(h:(Zo.any λ p=>Nat.beq p.1 t)=true):Tryz.prog.underlying t=some (.slice (sv t)):=by
 obtain⟨p,hp,ht⟩:=List.any_eq_true.1 h
 have h2:=List.all_eq_true.1 aBd p hp
 rw[<- eF ht]
 cases hu:Tryz.prog.underlying p.1 with
 | none=>rw[hu] at h2;simp at h2
 | some d =>
  rw[hu] at h2
  cases d<;>simp only[Bool.false_eq_true] at h2
  simp only[Bool.and_eq_true] at h2
  rw[eF h2.1,eF h2.2]
def aAB:List (Nat×Nat):=[(3,1),(4,1),(9,1),(27,1),(29,2),(31,1),(37,1),(39,5),(47,14),(74,1),(76,2),(164,2),(230,2)]
theorem vw:(aAB.all λ p=>(Tryz.prog.info? p.1).map (·.size)==some p.2)=true:=by kernel_rfl
theorem tK{e s:Nat}(h:(aAB.any λ p=>Nat.beq p.1 e&&Nat.beq p.2 s)=true):(Tryz.prog.info? e).map (·.size)=some s:=by
 obtain⟨p,hp,ht⟩:=List.any_eq_true.1 h
 simp only[Bool.and_eq_true] at ht
 have h2:=List.all_eq_true.1 vw p hp
 rw[<- eF ht.1,<- eF ht.2]
 exact eq_of_beq h2
theorem S7{t:Nat}(h:Nat.beq t 4=true):Tryz.prog.underlying t=some .bool:=by
 rw[eF h];kernel_rfl
theorem yz{t:Nat}(h:Nat.beq t 9=true):Tryz.prog.underlying t=some .string:=by
 rw[eF h];kernel_rfl
theorem ra{t:Nat}(h:Nat.beq t 164=true):Lc Tryz.prog t=true:=by
 rw[eF h];kernel_rfl
def aAT:List (Nat×IntKind):=[(2,.i64),(3,.i64),(5,.u8),(12,.u64),(21,.i32),(27,.i64),(31,.u64),(37,.i64),(62,.i64),(209,.u64),(255,.u32)]
theorem wu:(aAT.all λ p=>xQ Tryz.prog p.1 p.2)=true:=by kernel_rfl
theorem sN{t:Nat}{k:IntKind}(h:(aAT.any λ p=>Nat.beq p.1 t&&p.2==k)=true):xQ Tryz.prog t k=true:=by
 obtain⟨p,hp,ht⟩:=List.any_eq_true.1 h
 simp only[Bool.and_eq_true] at ht
 have h2:=List.all_eq_true.1 wu p hp
 rw[eF ht.1,eq_of_beq ht.2] at h2
 exact h2
def sn(P:Program)(t e s:Nat):Bool :=
 (match P.underlying t with|some (.slice e')=>Nat.beq e' e|_=>false)&&(match P.info? e with
  | some i=>Nat.beq i.size s&&Nat.ble i.bytes 256
  | none=>false)
theorem mA{P:Program}{t e:Nat}{z:Value}{zc:List Value}(h:sn P t e zc.length=true)(hz:dA P e=some z)(hzc:z.cells=⟨zc⟩):dK P t e zc:=by
 unfold sn at h
 simp only[Bool.and_eq_true] at h
 refine⟨?_,?_⟩
 ·cases hu:P.underlying t with
  | none=>simp[hu] at h
  | some d =>
   rw[hu] at h
   cases d<;>simp only[Bool.false_eq_true,false_and] at h
   rw[eF h.1]
 ·cases hi:P.info? e with
  | none=>simp[hi] at h
  | some i =>
   rw[hi] at h
   simp only[Bool.and_eq_true] at h
   exact⟨i,z,rfl,by simpa[dA,hi] using hz,hzc,eF h.2.1,Nat.le_of_ble_eq_true h.2.2⟩
theorem Ye:dA Tryz.prog 3=some (.int .i64 0):=by kernel_rfl
theorem Eu:dK Tryz.prog 22 3 [.int .i64 0]:=mA (by kernel_rfl) Ye rfl
theorem Jk{t:Nat}(h:Nat.beq t 22=true):dK Tryz.prog t 3 [.int .i64 0]:=by rw[eF h];exact Eu
theorem Xf:dA Tryz.prog 37=some (.int .i64 0):=by kernel_rfl
theorem pQ:dK Tryz.prog 44 37 [.int .i64 0]:=mA (by kernel_rfl) Xf rfl
theorem I4{t:Nat}(h:Nat.beq t 44=true):dK Tryz.prog t 37 [.int .i64 0]:=by rw[eF h];exact pQ
theorem S3:dA Tryz.prog 164=some (.agg ⟨[.string ⟨#[]⟩,.int .u64 0]⟩):=by kernel_rfl
theorem Xd:dK Tryz.prog 45 164 [.string ⟨#[]⟩,.int .u64 0]:=mA (by kernel_rfl) S3 rfl
theorem pK{t:Nat}(h:Nat.beq t 45=true):dK Tryz.prog t 164 [.string ⟨#[]⟩,.int .u64 0]:=by rw[eF h];exact Xd
def ti:List Value:=[.int .i64 0,.int .i64 0,.int .i64 0,.int .u64 0,.slice none 0 0,.int .u64 0,.string ⟨#[]⟩,.int .u64 0,.slice none 0 0,.int .i64 0,.int .i64 0,.int .i64 0,.int .i64 0,.int .i64 0]
theorem Se:dA Tryz.prog 47=some (.agg ⟨[.int .i64 0,.int .i64 0,.int .i64 0,.int .u64 0,.slice none 0 0,.int .u64 0,.string ⟨#[]⟩,.int .u64 0,.slice none 0 0,.int .i64 0,.int .i64 0,.int .i64 0,.int .i64 0,.int .i64 0]⟩):=by kernel_rfl
theorem rF:dK Tryz.prog 50 47 ti:=mA (by kernel_rfl) Se rfl
theorem Fo{t:Nat}(h:Nat.beq t 50=true):dK Tryz.prog t 47 ti:=by rw[eF h];exact rF
theorem Qy:dA Tryz.prog 4=some (.bool false):=by kernel_rfl
theorem Yg:dK Tryz.prog 95 4 [.bool false]:=mA (by kernel_rfl) Qy rfl
theorem Fp{t:Nat}(h:Nat.beq t 95=true):dK Tryz.prog t 4 [.bool false]:=by rw[eF h];exact Yg
theorem Wa:dA Tryz.prog 9=some (.string ⟨#[]⟩):=by kernel_rfl
theorem Zb:dK Tryz.prog 102 9 [.string ⟨#[]⟩]:=mA (by kernel_rfl) Wa rfl
theorem Wc{t:Nat}(h:Nat.beq t 102=true):dK Tryz.prog t 9 [.string ⟨#[]⟩]:=by rw[eF h];exact Zb
end Go.Proofs.YtbajmaoegmbfgaaGreat
