/- What the program's table says of the types that are used: closed facts. Written by a program. -/
import Derived.Test.YtbajmaoegmbfgaaGreatGLst3
import Derived.Test.YtbajmaoegmbfgaaGreatProg
set_option linter.unusedSimpArgs false
set_option linter.unusedVariables false
namespace Go.Proofs.YtbajmaoegmbfgaaGreat
open Go.RowKit Go.Ct
def aBD:List Nat:=[2,3,4,5,9,12,15,16,17,20,21,22,23,25,27,30,31,32,33,37,42,44,45,50,56,62,74,85,95,102,108,115,122,123,129,130,151,156,169,209,255,259]
theorem yz:(aBD.all λ t=>one Tryz.prog t)=true:=by kernel_rfl
theorem L0{t:Nat}(h:aBD.elem t=true):one Tryz.prog t=true:=List.all_eq_true.1 yz t (List.mem_of_elem_eq_true h)
def aAy:List (Nat×Nat):=[(29,2),(35,4),(39,5),(47,14),(52,3),(54,4),(64,8),(76,2),(87,3),(89,25),(114,2),(125,3),(128,4),(132,14),(139,4),(141,17),(153,52),(159,5),(164,2),(230,2)]
theorem aAr:(aAy.all λ p=>iS Tryz.prog p.1 p.2)=true:=by kernel_rfl
theorem Sy{t k:Nat}(h:(aAy.any λ p=>Nat.beq p.1 t&&Nat.beq p.2 k)=true):iS Tryz.prog t k=true:=by
 obtain⟨p,hp,ht⟩:=List.any_eq_true.1 h
 simp only[Bool.and_eq_true] at ht
 have h2:=List.all_eq_true.1 aAr p hp
 rwa [eR ht.1,eR ht.2] at h2
theorem yS:cL Tryz.prog 29=some (.agg ⟨[.int .i64 0,.bool false]⟩):=by kernel_rfl
theorem Is{t:Nat}(h:Nat.beq t 29=true):cL Tryz.prog t=some (.agg ⟨[.int .i64 0,.bool false]⟩):=by rw[eR h];exact yS
theorem Cs{t:Nat}(h:Nat.beq t 29=true):structOf Tryz.prog t [.int .i64 0,.bool false]:=by rw[eR h];exact gO (by kernel_rfl) yS
theorem vM:cL Tryz.prog 35=some (.agg ⟨[.pointer none,.int .u64 0,.slice none 0 0,.slice none 0 0]⟩):=by kernel_rfl
theorem rX{t:Nat}(h:Nat.beq t 35=true):structOf Tryz.prog t [.pointer none,.int .u64 0,.slice none 0 0,.slice none 0 0]:=by rw[eR h];exact gO (by kernel_rfl) vM
theorem mY:cL Tryz.prog 39=some (.agg ⟨[.int .i64 0,.int .i64 0,.int .i64 0,.int .i64 0,.slice none 0 0]⟩):=by kernel_rfl
theorem sX{t:Nat}(h:Nat.beq t 39=true):cL Tryz.prog t=some (.agg ⟨[.int .i64 0,.int .i64 0,.int .i64 0,.int .i64 0,.slice none 0 0]⟩):=by rw[eR h];exact mY
theorem qZ{t:Nat}(h:Nat.beq t 39=true):structOf Tryz.prog t [.int .i64 0,.int .i64 0,.int .i64 0,.int .i64 0,.slice none 0 0]:=by rw[eR h];exact gO (by kernel_rfl) mY
theorem zA:cL Tryz.prog 47=some (.agg ⟨[.int .i64 0,.int .i64 0,.int .i64 0,.int .u64 0,.slice none 0 0,.int .u64 0,.string ⟨#[]⟩,.int .u64 0,.slice none 0 0,.int .i64 0,.int .i64 0,.int .i64 0,.int .i64 0,.int .i64 0]⟩):=by kernel_rfl
theorem Ih{t:Nat}(h:Nat.beq t 47=true):cL Tryz.prog t=some (.agg ⟨[.int .i64 0,.int .i64 0,.int .i64 0,.int .u64 0,.slice none 0 0,.int .u64 0,.string ⟨#[]⟩,.int .u64 0,.slice none 0 0,.int .i64 0,.int .i64 0,.int .i64 0,.int .i64 0,.int .i64 0]⟩):=by rw[eR h];exact zA
theorem Bu{t:Nat}(h:Nat.beq t 47=true):structOf Tryz.prog t [.int .i64 0,.int .i64 0,.int .i64 0,.int .u64 0,.slice none 0 0,.int .u64 0,.string ⟨#[]⟩,.int .u64 0,.slice none 0 0,.int .i64 0,.int .i64 0,.int .i64 0,.int .i64 0,.int .i64 0]:=by rw[eR h];exact gO (by kernel_rfl) zA
theorem vH:cL Tryz.prog 52=some (.agg ⟨[.slice none 0 0,.slice none 0 0,.int .i64 0]⟩):=by kernel_rfl
theorem D9{t:Nat}(h:Nat.beq t 52=true):cL Tryz.prog t=some (.agg ⟨[.slice none 0 0,.slice none 0 0,.int .i64 0]⟩):=by rw[eR h];exact vH
theorem Ao{t:Nat}(h:Nat.beq t 52=true):structOf Tryz.prog t [.slice none 0 0,.slice none 0 0,.int .i64 0]:=by rw[eR h];exact gO (by kernel_rfl) vH
theorem yD:cL Tryz.prog 54=some (.agg ⟨[.slice none 0 0,.slice none 0 0,.int .i64 0,.int .i64 0]⟩):=by kernel_rfl
theorem uV{t:Nat}(h:Nat.beq t 54=true):placeOf Tryz.prog t [(0,3),(3,1)] [.slice none 0 0,.slice none 0 0,.int .i64 0,.int .i64 0]:=by rw[eR h];exact lE (by kernel_rfl) yD
theorem tX:cL Tryz.prog 64=some (.agg ⟨[.int .i64 0,.bool false,.int .u64 0,.string ⟨#[]⟩,.int .i64 0,.int .i64 0,.int .i64 0,.bool false]⟩):=by kernel_rfl
theorem B9{t:Nat}(h:Nat.beq t 64=true):cL Tryz.prog t=some (.agg ⟨[.int .i64 0,.bool false,.int .u64 0,.string ⟨#[]⟩,.int .i64 0,.int .i64 0,.int .i64 0,.bool false]⟩):=by rw[eR h];exact tX
theorem A1{t:Nat}(h:Nat.beq t 64=true):placeOf Tryz.prog t [(0,1),(1,1),(2,1),(3,1),(4,1),(5,1),(6,2)] [.int .i64 0,.bool false,.int .u64 0,.string ⟨#[]⟩,.int .i64 0,.int .i64 0,.int .i64 0,.bool false]:=by rw[eR h];exact lE (by kernel_rfl) tX
theorem oP:cL Tryz.prog 76=some (.agg ⟨[.pointer none,.pointer none]⟩):=by kernel_rfl
theorem vX{t:Nat}(h:Nat.beq t 76=true):cL Tryz.prog t=some (.agg ⟨[.pointer none,.pointer none]⟩):=by rw[eR h];exact oP
theorem tQ{t:Nat}(h:Nat.beq t 76=true):structOf Tryz.prog t [.pointer none,.pointer none]:=by rw[eR h];exact gO (by kernel_rfl) oP
theorem nX:cL Tryz.prog 89=some (.agg ⟨[.int .i64 0,.int .i64 0,.bool false,.int .i64 0,.int .i64 0,.int .i64 0,.int .i64 0,.int .u64 0,.int .u64 0,.string ⟨#[]⟩,.int .u64 0,.int .u64 0,.int .i64 0,.bool false,.bool false,.slice none 0 0,.slice none 0 0,.int .i64 0,.bool false,.int .u64 0,.string ⟨#[]⟩,.int .i64 0,.int .i64 0,.int .i64 0,.bool false]⟩):=by kernel_rfl
theorem uQ{t:Nat}(h:Nat.beq t 89=true):cL Tryz.prog t=some (.agg ⟨[.int .i64 0,.int .i64 0,.bool false,.int .i64 0,.int .i64 0,.int .i64 0,.int .i64 0,.int .u64 0,.int .u64 0,.string ⟨#[]⟩,.int .u64 0,.int .u64 0,.int .i64 0,.bool false,.bool false,.slice none 0 0,.slice none 0 0,.int .i64 0,.bool false,.int .u64 0,.string ⟨#[]⟩,.int .i64 0,.int .i64 0,.int .i64 0,.bool false]⟩):=by rw[eR h];exact nX
theorem tI{t:Nat}(h:Nat.beq t 89=true):placeOf Tryz.prog t [(0,1),(1,2),(3,1),(4,1),(5,1),(6,1),(7,1),(8,1),(9,1),(10,1),(11,1),(12,1),(13,1),(14,3),(17,8)] [.int .i64 0,.int .i64 0,.bool false,.int .i64 0,.int .i64 0,.int .i64 0,.int .i64 0,.int .u64 0,.int .u64 0,.string ⟨#[]⟩,.int .u64 0,.int .u64 0,.int .i64 0,.bool false,.bool false,.slice none 0 0,.slice none 0 0,.int .i64 0,.bool false,.int .u64 0,.string ⟨#[]⟩,.int .i64 0,.int .i64 0,.int .i64 0,.bool false]:=by rw[eR h];exact lE (by kernel_rfl) nX
theorem yG:cL Tryz.prog 114=some (.agg ⟨[.slice none 0 0,.int .i64 0]⟩):=by kernel_rfl
theorem tC{t:Nat}(h:Nat.beq t 114=true):structOf Tryz.prog t [.slice none 0 0,.int .i64 0]:=by rw[eR h];exact gO (by kernel_rfl) yG
theorem Au:cL Tryz.prog 125=some (.agg ⟨[.nilIface,.int .i64 0,.bool false]⟩):=by kernel_rfl
theorem Ja{t:Nat}(h:Nat.beq t 125=true):cL Tryz.prog t=some (.agg ⟨[.nilIface,.int .i64 0,.bool false]⟩):=by rw[eR h];exact Au
theorem H9{t:Nat}(h:Nat.beq t 125=true):placeOf Tryz.prog t [(0,1),(1,2)] [.nilIface,.int .i64 0,.bool false]:=by rw[eR h];exact lE (by kernel_rfl) Au
theorem tU:cL Tryz.prog 128=some (.agg ⟨[.int .i64 0,.int .i64 0,.int .i64 0,.int .i64 0]⟩):=by kernel_rfl
theorem Ck{t:Nat}(h:Nat.beq t 128=true):cL Tryz.prog t=some (.agg ⟨[.int .i64 0,.int .i64 0,.int .i64 0,.int .i64 0]⟩):=by rw[eR h];exact tU
theorem zG{t:Nat}(h:Nat.beq t 128=true):structOf Tryz.prog t [.int .i64 0,.int .i64 0,.int .i64 0,.int .i64 0]:=by rw[eR h];exact gO (by kernel_rfl) tU
theorem vF:cL Tryz.prog 132=some (.agg ⟨[.int .i64 0,.int .i64 0,.int .i64 0,.int .i64 0,.nilFunc,.nilFunc,.int .i64 0,.bool false,.int .u64 0,.string ⟨#[]⟩,.int .i64 0,.int .i64 0,.int .i64 0,.bool false]⟩):=by kernel_rfl
theorem D8{t:Nat}(h:Nat.beq t 132=true):cL Tryz.prog t=some (.agg ⟨[.int .i64 0,.int .i64 0,.int .i64 0,.int .i64 0,.nilFunc,.nilFunc,.int .i64 0,.bool false,.int .u64 0,.string ⟨#[]⟩,.int .i64 0,.int .i64 0,.int .i64 0,.bool false]⟩):=by rw[eR h];exact vF
theorem Cu{t:Nat}(h:Nat.beq t 132=true):placeOf Tryz.prog t [(0,4),(4,1),(5,1),(6,8)] [.int .i64 0,.int .i64 0,.int .i64 0,.int .i64 0,.nilFunc,.nilFunc,.int .i64 0,.bool false,.int .u64 0,.string ⟨#[]⟩,.int .i64 0,.int .i64 0,.int .i64 0,.bool false]:=by rw[eR h];exact lE (by kernel_rfl) vF
theorem By:cL Tryz.prog 139=some (.agg ⟨[.slice none 0 0,.slice none 0 0,.int .i64 0,.int .i64 0]⟩):=by kernel_rfl
theorem yF{t:Nat}(h:Nat.beq t 139=true):structOf Tryz.prog t [.slice none 0 0,.slice none 0 0,.int .i64 0,.int .i64 0]:=by rw[eR h];exact gO (by kernel_rfl) By
theorem Gl:cL Tryz.prog 141=some (.agg ⟨[.nilIface,.int .i64 0,.int .i64 0,.int .i64 0,.int .i64 0,.nilFunc,.nilFunc,.int .i64 0,.bool false,.int .u64 0,.string ⟨#[]⟩,.int .i64 0,.int .i64 0,.int .i64 0,.bool false,.int .i64 0,.bool false]⟩):=by kernel_rfl
theorem B8{t:Nat}(h:Nat.beq t 141=true):placeOf Tryz.prog t [(0,1),(1,14),(15,1),(16,1)] [.nilIface,.int .i64 0,.int .i64 0,.int .i64 0,.int .i64 0,.nilFunc,.nilFunc,.int .i64 0,.bool false,.int .u64 0,.string ⟨#[]⟩,.int .i64 0,.int .i64 0,.int .i64 0,.bool false,.int .i64 0,.bool false]:=by rw[eR h];exact lE (by kernel_rfl) Gl
theorem wA:cL Tryz.prog 153=some (.agg ⟨[.pointer none,.int .i64 0,.int .i64 0,.bool false,.int .i64 0,.int .i64 0,.int .i64 0,.int .i64 0,.int .u64 0,.int .u64 0,.string ⟨#[]⟩,.int .u64 0,.int .u64 0,.int .i64 0,.bool false,.bool false,.slice none 0 0,.slice none 0 0,.int .i64 0,.bool false,.int .u64 0,.string ⟨#[]⟩,.int .i64 0,.int .i64 0,.int .i64 0,.bool false,.slice none 0 0,.slice none 0 0,.slice none 0 0,.slice none 0 0,.int .i64 0,.int .i64 0,.int .i64 0,.int .i64 0,.int .i64 0,.bool false,.int .i64 0,.int .i64 0,.int .i64 0,.int .i64 0,.bool false,.int .i64 0,.bool false,.int .u64 0,.string ⟨#[]⟩,.int .i64 0,.int .i64 0,.int .i64 0,.bool false,.bool false,.slice none 0 0,.slice none 0 0]⟩):=by kernel_rfl
theorem sW{t:Nat}(h:Nat.beq t 153=true):placeOf Tryz.prog t [(0,1),(1,25),(26,1),(27,1),(28,1),(29,1),(30,1),(31,1),(32,1),(33,1),(34,1),(35,1),(36,4),(40,1),(41,8),(49,3)] [.pointer none,.int .i64 0,.int .i64 0,.bool false,.int .i64 0,.int .i64 0,.int .i64 0,.int .i64 0,.int .u64 0,.int .u64 0,.string ⟨#[]⟩,.int .u64 0,.int .u64 0,.int .i64 0,.bool false,.bool false,.slice none 0 0,.slice none 0 0,.int .i64 0,.bool false,.int .u64 0,.string ⟨#[]⟩,.int .i64 0,.int .i64 0,.int .i64 0,.bool false,.slice none 0 0,.slice none 0 0,.slice none 0 0,.slice none 0 0,.int .i64 0,.int .i64 0,.int .i64 0,.int .i64 0,.int .i64 0,.bool false,.int .i64 0,.int .i64 0,.int .i64 0,.int .i64 0,.bool false,.int .i64 0,.bool false,.int .u64 0,.string ⟨#[]⟩,.int .i64 0,.int .i64 0,.int .i64 0,.bool false,.bool false,.slice none 0 0,.slice none 0 0]:=by rw[eR h];exact lE (by kernel_rfl) wA
theorem yZ:cL Tryz.prog 164=some (.agg ⟨[.string ⟨#[]⟩,.int .u64 0]⟩):=by kernel_rfl
theorem Ff{t:Nat}(h:Nat.beq t 164=true):cL Tryz.prog t=some (.agg ⟨[.string ⟨#[]⟩,.int .u64 0]⟩):=by rw[eR h];exact yZ
theorem Cj{t:Nat}(h:Nat.beq t 164=true):structOf Tryz.prog t [.string ⟨#[]⟩,.int .u64 0]:=by rw[eR h];exact gO (by kernel_rfl) yZ
def aAX:List (Nat×Nat):=[(29,0),(29,1),(35,0),(35,1),(35,2),(35,3),(39,0),(39,1),(39,2),(39,3),(39,4),(47,0),(47,1),(47,2),(47,3),(47,4),(47,5),(47,6),(47,7),(47,8),(47,9),(47,10),(47,11),(47,12),(47,13),(52,0),(52,1),(52,2),(54,0),(64,0),(64,1),(64,2),(64,3),(64,4),(64,5),(64,6),(76,0),(76,1),(87,0),(87,1),(87,2),(89,0),(89,1),(114,0),(114,1),(125,0),(125,1),(128,0),(128,1),(128,2),(128,3),(132,0),(139,0),(139,1),(139,2),(139,3),(141,0),(141,1),(153,0),(153,1),(159,0),(164,0),(164,1),(230,0),(230,1)]
theorem aAp:(aAX.all λ p=>cW Tryz.prog p.1 p.2==some p.2)=true:=by kernel_rfl
theorem aAe{t k:Nat}(h:(aAX.any λ p=>Nat.beq p.1 t&&Nat.beq p.2 k)=true):cW Tryz.prog t k=some k:=by
 obtain⟨p,hp,ht⟩:=List.any_eq_true.1 h
 simp only[Bool.and_eq_true] at ht
 have h2:=eq_of_beq (List.all_eq_true.1 aAp p hp)
 rwa [eR ht.1,eR ht.2] at h2
def vq:List (Nat×Nat):=[(29,0),(29,1),(35,0),(35,1),(35,2),(35,3),(39,0),(39,1),(39,2),(39,3),(39,4),(47,0),(47,1),(47,2),(47,3),(47,4),(47,5),(47,6),(47,7),(47,8),(47,9),(47,10),(47,11),(47,12),(47,13),(52,0),(52,1),(52,2),(64,0),(64,1),(64,2),(64,3),(64,4),(64,5),(76,0),(76,1),(87,0),(87,1),(87,2),(89,0),(114,0),(114,1),(125,0),(128,0),(128,1),(128,2),(128,3),(139,0),(139,1),(139,2),(139,3),(141,0),(153,0),(164,0),(164,1),(230,0),(230,1)]
theorem qi:(vq.all λ p=>Al Tryz.prog p.1 p.2==some p.2)=true:=by kernel_rfl
theorem Ln{t k:Nat}(h:(vq.any λ p=>Nat.beq p.1 t&&Nat.beq p.2 k)=true):Al Tryz.prog t k=some k:=by
 obtain⟨p,hp,ht⟩:=List.any_eq_true.1 h
 simp only[Bool.and_eq_true] at ht
 have h2:=eq_of_beq (List.all_eq_true.1 qi p hp)
 rwa [eR ht.1,eR ht.2] at h2
theorem vQ{t k:Nat}(h:(Nat.beq t 54&&Nat.beq k 1)=true):cW Tryz.prog t k=some 3:=by simp only[Bool.and_eq_true] at h;rw[eR h.1,eR h.2];kernel_rfl
theorem uL{t k:Nat}(h:(Nat.beq t 89&&Nat.beq k 2)=true):cW Tryz.prog t k=some 3:=by simp only[Bool.and_eq_true] at h;rw[eR h.1,eR h.2];kernel_rfl
theorem uB{t k:Nat}(h:(Nat.beq t 89&&Nat.beq k 3)=true):cW Tryz.prog t k=some 4:=by simp only[Bool.and_eq_true] at h;rw[eR h.1,eR h.2];kernel_rfl
theorem uO{t k:Nat}(h:(Nat.beq t 89&&Nat.beq k 4)=true):cW Tryz.prog t k=some 5:=by simp only[Bool.and_eq_true] at h;rw[eR h.1,eR h.2];kernel_rfl
theorem uF{t k:Nat}(h:(Nat.beq t 89&&Nat.beq k 7)=true):cW Tryz.prog t k=some 8:=by simp only[Bool.and_eq_true] at h;rw[eR h.1,eR h.2];kernel_rfl
theorem uI{t k:Nat}(h:(Nat.beq t 89&&Nat.beq k 8)=true):cW Tryz.prog t k=some 9:=by simp only[Bool.and_eq_true] at h;rw[eR h.1,eR h.2];kernel_rfl
theorem uU{t k:Nat}(h:(Nat.beq t 89&&Nat.beq k 9)=true):cW Tryz.prog t k=some 10:=by simp only[Bool.and_eq_true] at h;rw[eR h.1,eR h.2];kernel_rfl
theorem tM{t k:Nat}(h:(Nat.beq t 89&&Nat.beq k 10)=true):cW Tryz.prog t k=some 11:=by simp only[Bool.and_eq_true] at h;rw[eR h.1,eR h.2];kernel_rfl
theorem tK{t k:Nat}(h:(Nat.beq t 89&&Nat.beq k 11)=true):cW Tryz.prog t k=some 12:=by simp only[Bool.and_eq_true] at h;rw[eR h.1,eR h.2];kernel_rfl
theorem tR{t k:Nat}(h:(Nat.beq t 89&&Nat.beq k 12)=true):cW Tryz.prog t k=some 13:=by simp only[Bool.and_eq_true] at h;rw[eR h.1,eR h.2];kernel_rfl
theorem Ef{t k:Nat}(h:(Nat.beq t 132&&Nat.beq k 1)=true):cW Tryz.prog t k=some 4:=by simp only[Bool.and_eq_true] at h;rw[eR h.1,eR h.2];kernel_rfl
theorem Ej{t k:Nat}(h:(Nat.beq t 132&&Nat.beq k 2)=true):cW Tryz.prog t k=some 5:=by simp only[Bool.and_eq_true] at h;rw[eR h.1,eR h.2];kernel_rfl
theorem D0{t k:Nat}(h:(Nat.beq t 132&&Nat.beq k 3)=true):cW Tryz.prog t k=some 6:=by simp only[Bool.and_eq_true] at h;rw[eR h.1,eR h.2];kernel_rfl
theorem D7{t k:Nat}(h:(Nat.beq t 141&&Nat.beq k 2)=true):cW Tryz.prog t k=some 15:=by simp only[Bool.and_eq_true] at h;rw[eR h.1,eR h.2];kernel_rfl
theorem Ei{t k:Nat}(h:(Nat.beq t 141&&Nat.beq k 3)=true):cW Tryz.prog t k=some 16:=by simp only[Bool.and_eq_true] at h;rw[eR h.1,eR h.2];kernel_rfl
theorem uP{t k:Nat}(h:(Nat.beq t 153&&Nat.beq k 2)=true):cW Tryz.prog t k=some 26:=by simp only[Bool.and_eq_true] at h;rw[eR h.1,eR h.2];kernel_rfl
theorem uJ{t k:Nat}(h:(Nat.beq t 153&&Nat.beq k 3)=true):cW Tryz.prog t k=some 27:=by simp only[Bool.and_eq_true] at h;rw[eR h.1,eR h.2];kernel_rfl
theorem uT{t k:Nat}(h:(Nat.beq t 153&&Nat.beq k 4)=true):cW Tryz.prog t k=some 28:=by simp only[Bool.and_eq_true] at h;rw[eR h.1,eR h.2];kernel_rfl
theorem uW{t k:Nat}(h:(Nat.beq t 153&&Nat.beq k 5)=true):cW Tryz.prog t k=some 29:=by simp only[Bool.and_eq_true] at h;rw[eR h.1,eR h.2];kernel_rfl
theorem uE{t k:Nat}(h:(Nat.beq t 153&&Nat.beq k 6)=true):cW Tryz.prog t k=some 30:=by simp only[Bool.and_eq_true] at h;rw[eR h.1,eR h.2];kernel_rfl
theorem uC{t k:Nat}(h:(Nat.beq t 153&&Nat.beq k 7)=true):cW Tryz.prog t k=some 31:=by simp only[Bool.and_eq_true] at h;rw[eR h.1,eR h.2];kernel_rfl
theorem uA{t k:Nat}(h:(Nat.beq t 153&&Nat.beq k 8)=true):cW Tryz.prog t k=some 32:=by simp only[Bool.and_eq_true] at h;rw[eR h.1,eR h.2];kernel_rfl
theorem uR{t k:Nat}(h:(Nat.beq t 153&&Nat.beq k 9)=true):cW Tryz.prog t k=some 33:=by simp only[Bool.and_eq_true] at h;rw[eR h.1,eR h.2];kernel_rfl
theorem sY{t k:Nat}(h:(Nat.beq t 153&&Nat.beq k 10)=true):cW Tryz.prog t k=some 34:=by simp only[Bool.and_eq_true] at h;rw[eR h.1,eR h.2];kernel_rfl
theorem tT{t k:Nat}(h:(Nat.beq t 153&&Nat.beq k 11)=true):cW Tryz.prog t k=some 35:=by simp only[Bool.and_eq_true] at h;rw[eR h.1,eR h.2];kernel_rfl
theorem sR{t k:Nat}(h:(Nat.beq t 153&&Nat.beq k 12)=true):cW Tryz.prog t k=some 36:=by simp only[Bool.and_eq_true] at h;rw[eR h.1,eR h.2];kernel_rfl
theorem sP{t k:Nat}(h:(Nat.beq t 153&&Nat.beq k 13)=true):cW Tryz.prog t k=some 40:=by simp only[Bool.and_eq_true] at h;rw[eR h.1,eR h.2];kernel_rfl
theorem tA{t k:Nat}(h:(Nat.beq t 153&&Nat.beq k 14)=true):cW Tryz.prog t k=some 41:=by simp only[Bool.and_eq_true] at h;rw[eR h.1,eR h.2];kernel_rfl
def aBS:List Nat:=[15,16,17,23,25,30,42,56,74,156,259]
theorem zp:(aBS.all λ t=>Kb Tryz.prog t)=true:=by kernel_rfl
theorem Sv{t:Nat}(h:aBS.elem t=true):Kb Tryz.prog t=true:=List.all_eq_true.1 zp t (List.mem_of_elem_eq_true h)
def m7:List (Nat×Nat):=[(22,3),(32,29),(33,74),(44,37),(45,164),(50,47),(85,230),(95,4),(102,9),(108,76),(115,39),(151,27),(169,31)]
def vw(t:Nat):Nat:=(m7.lookup t).getD 0
theorem aAF:(m7.all λ p=>(match Tryz.prog.underlying p.1 with|some (.slice e)=>Nat.beq e p.2&&Nat.beq (vw p.1) p.2|_=>false))=true:=by kernel_rfl
theorem aA2{t:Nat}(h:(m7.any λ p=>Nat.beq p.1 t)=true):Tryz.prog.underlying t=some (.slice (vw t)):=by
 obtain⟨p,hp,ht⟩:=List.any_eq_true.1 h
 have h2:=List.all_eq_true.1 aAF p hp
 rw[<- eR ht]
 cases hu:Tryz.prog.underlying p.1 with
 | none=>rw[hu] at h2;simp at h2
 | some d =>
  rw[hu] at h2
  cases d<;>simp only[Bool.false_eq_true] at h2
  simp only[Bool.and_eq_true] at h2
  rw[eR h2.1,eR h2.2]
def aBv:List (Nat×Nat):=[(3,1),(4,1),(9,1),(27,1),(29,2),(31,1),(37,1),(39,5),(47,14),(74,1),(76,2),(164,2),(230,2)]
theorem xe:(aBv.all λ p=>(Tryz.prog.info? p.1).map (·.size)==some p.2)=true:=by kernel_rfl
theorem tZ{e s:Nat}(h:(aBv.any λ p=>Nat.beq p.1 e&&Nat.beq p.2 s)=true):(Tryz.prog.info? e).map (·.size)=some s:=by
 obtain⟨p,hp,ht⟩:=List.any_eq_true.1 h
 simp only[Bool.and_eq_true] at ht
 have h2:=List.all_eq_true.1 xe p hp
 rw[<- eR ht.1,<- eR ht.2]
 exact eq_of_beq h2
theorem V0{t:Nat}(h:Nat.beq t 4=true):Tryz.prog.underlying t=some .bool:=by
 rw[eR h];kernel_rfl
theorem y5{t:Nat}(h:Nat.beq t 9=true):Tryz.prog.underlying t=some .string:=by
 rw[eR h];kernel_rfl
theorem qv{t:Nat}(h:Nat.beq t 164=true):Ly Tryz.prog t=true:=by
 rw[eR h];kernel_rfl
def aBl:List (Nat×IntKind):=[(2,.i64),(3,.i64),(5,.u8),(12,.u64),(21,.i32),(27,.i64),(31,.u64),(37,.i64),(62,.i64),(209,.u64),(255,.u32)]
theorem yg:(aBl.all λ p=>yO Tryz.prog p.1 p.2)=true:=by kernel_rfl
theorem vN{t:Nat}{k:IntKind}(h:(aBl.any λ p=>Nat.beq p.1 t&&p.2==k)=true):yO Tryz.prog t k=true:=by
 obtain⟨p,hp,ht⟩:=List.any_eq_true.1 h
 simp only[Bool.and_eq_true] at ht
 have h2:=List.all_eq_true.1 yg p hp
 rw[eR ht.1,eq_of_beq ht.2] at h2
 exact h2
def vp(P:Program)(t e s:Nat):Bool :=
 (match P.underlying t with|some (.slice e')=>Nat.beq e' e|_=>false)&&(match P.info? e with
  | some i=>Nat.beq i.size s&&Nat.ble i.bytes 256
  | none=>false)
theorem lB{P:Program}{t e:Nat}{z:Value}{zc:List Value}(h:vp P t e zc.length=true)(hz:cL P e=some z)(hzc:z.cells=⟨zc⟩):dJ P t e zc:=by
 unfold vp at h
 simp only[Bool.and_eq_true] at h
 refine⟨?_,?_⟩
 ·cases hu:P.underlying t with
  | none=>simp[hu] at h
  | some d =>
   rw[hu] at h
   cases d<;>simp only[Bool.false_eq_true,false_and] at h
   rw[eR h.1]
 ·cases hi:P.info? e with
  | none=>simp[hi] at h
  | some i =>
   rw[hi] at h
   simp only[Bool.and_eq_true] at h
   exact⟨i,z,rfl,by simpa[cL,hi] using hz,hzc,eR h.2.1,Nat.le_of_ble_eq_true h.2.2⟩
theorem Yr:cL Tryz.prog 3=some (.int .i64 0):=by kernel_rfl
theorem G7:dJ Tryz.prog 22 3 [.int .i64 0]:=lB (by kernel_rfl) Yr rfl
theorem Kz{t:Nat}(h:Nat.beq t 22=true):dJ Tryz.prog t 3 [.int .i64 0]:=by rw[eR h];exact G7
theorem Zj:cL Tryz.prog 37=some (.int .i64 0):=by kernel_rfl
theorem pN:dJ Tryz.prog 44 37 [.int .i64 0]:=lB (by kernel_rfl) Zj rfl
theorem Ka{t:Nat}(h:Nat.beq t 44=true):dJ Tryz.prog t 37 [.int .i64 0]:=by rw[eR h];exact pN
theorem S7:cL Tryz.prog 164=some (.agg ⟨[.string ⟨#[]⟩,.int .u64 0]⟩):=by kernel_rfl
theorem Zb:dJ Tryz.prog 45 164 [.string ⟨#[]⟩,.int .u64 0]:=lB (by kernel_rfl) S7 rfl
theorem pM{t:Nat}(h:Nat.beq t 45=true):dJ Tryz.prog t 164 [.string ⟨#[]⟩,.int .u64 0]:=by rw[eR h];exact Zb
def vi:List Value:=[.int .i64 0,.int .i64 0,.int .i64 0,.int .u64 0,.slice none 0 0,.int .u64 0,.string ⟨#[]⟩,.int .u64 0,.slice none 0 0,.int .i64 0,.int .i64 0,.int .i64 0,.int .i64 0,.int .i64 0]
theorem S8:cL Tryz.prog 47=some (.agg ⟨[.int .i64 0,.int .i64 0,.int .i64 0,.int .u64 0,.slice none 0 0,.int .u64 0,.string ⟨#[]⟩,.int .u64 0,.slice none 0 0,.int .i64 0,.int .i64 0,.int .i64 0,.int .i64 0,.int .i64 0]⟩):=by kernel_rfl
theorem rM:dJ Tryz.prog 50 47 vi:=lB (by kernel_rfl) S8 rfl
theorem F5{t:Nat}(h:Nat.beq t 50=true):dJ Tryz.prog t 47 vi:=by rw[eR h];exact rM
theorem T4:cL Tryz.prog 4=some (.bool false):=by kernel_rfl
theorem Xm:dJ Tryz.prog 95 4 [.bool false]:=lB (by kernel_rfl) T4 rfl
theorem Ga{t:Nat}(h:Nat.beq t 95=true):dJ Tryz.prog t 4 [.bool false]:=by rw[eR h];exact Xm
theorem Yf:cL Tryz.prog 9=some (.string ⟨#[]⟩):=by kernel_rfl
theorem iz:dJ Tryz.prog 102 9 [.string ⟨#[]⟩]:=lB (by kernel_rfl) Yf rfl
theorem X2{t:Nat}(h:Nat.beq t 102=true):dJ Tryz.prog t 9 [.string ⟨#[]⟩]:=by rw[eR h];exact iz
end Go.Proofs.YtbajmaoegmbfgaaGreat
