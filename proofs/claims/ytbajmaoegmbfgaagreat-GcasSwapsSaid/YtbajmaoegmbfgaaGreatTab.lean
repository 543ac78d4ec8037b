/- What the program's table says of the types that are used: closed facts. Written by a program. -/
import Derived.Test.YtbajmaoegmbfgaaGreatGLst3
import Derived.Test.YtbajmaoegmbfgaaGreatProg
set_option linter.unusedSimpArgs false
set_option linter.unusedVariables false
namespace Go.Proofs.YtbajmaoegmbfgaaGreat
open Go.RowKit Go.Ct
def aBB:List Nat:=[2,3,4,5,9,12,15,16,17,20,21,22,23,25,27,30,31,32,33,37,42,44,45,50,56,62,74,85,95,102,108,115,122,123,129,130,151,156,169,209,255,259]
theorem yx:(aBB.all λ t=>one Tryz.prog t)=true:=by kernel_rfl
theorem Ma{t:Nat}(h:aBB.elem t=true):one Tryz.prog t=true:=List.all_eq_true.1 yx t (List.mem_of_elem_eq_true h)
def aAL:List (Nat×Nat):=[(29,2),(35,4),(39,5),(47,14),(52,3),(54,4),(64,8),(76,2),(87,3),(89,25),(114,2),(125,3),(128,4),(132,14),(139,4),(141,17),(153,52),(159,5),(164,2),(230,2)]
theorem zq:(aAL.all λ p=>iQ Tryz.prog p.1 p.2)=true:=by kernel_rfl
theorem Rt{t k:Nat}(h:(aAL.any λ p=>Nat.beq p.1 t&&Nat.beq p.2 k)=true):iQ Tryz.prog t k=true:=by
 obtain⟨p,hp,ht⟩:=List.any_eq_true.1 h
 simp only[Bool.and_eq_true] at ht
 have h2:=List.all_eq_true.1 zq p hp
 rwa [eO ht.1,eO ht.2] at h2
theorem yI:cL Tryz.prog 29=some (.agg ⟨[.int .i64 0,.bool false]⟩):=by kernel_rfl
theorem Hn{t:Nat}(h:Nat.beq t 29=true):cL Tryz.prog t=some (.agg ⟨[.int .i64 0,.bool false]⟩):=by rw[eO h];exact yI
theorem Bx{t:Nat}(h:Nat.beq t 29=true):structOf Tryz.prog t [.int .i64 0,.bool false]:=by rw[eO h];exact gL (by kernel_rfl) yI
theorem vD:cL Tryz.prog 35=some (.agg ⟨[.pointer none,.int .u64 0,.slice none 0 0,.slice none 0 0]⟩):=by kernel_rfl
theorem rU{t:Nat}(h:Nat.beq t 35=true):structOf Tryz.prog t [.pointer none,.int .u64 0,.slice none 0 0,.slice none 0 0]:=by rw[eO h];exact gL (by kernel_rfl) vD
theorem mQ:cL Tryz.prog 39=some (.agg ⟨[.int .i64 0,.int .i64 0,.int .i64 0,.int .i64 0,.slice none 0 0]⟩):=by kernel_rfl
theorem sK{t:Nat}(h:Nat.beq t 39=true):cL Tryz.prog t=some (.agg ⟨[.int .i64 0,.int .i64 0,.int .i64 0,.int .i64 0,.slice none 0 0]⟩):=by rw[eO h];exact mQ
theorem rA{t:Nat}(h:Nat.beq t 39=true):structOf Tryz.prog t [.int .i64 0,.int .i64 0,.int .i64 0,.int .i64 0,.slice none 0 0]:=by rw[eO h];exact gL (by kernel_rfl) mQ
theorem yC:cL Tryz.prog 47=some (.agg ⟨[.int .i64 0,.int .i64 0,.int .i64 0,.int .u64 0,.slice none 0 0,.int .u64 0,.string ⟨#[]⟩,.int .u64 0,.slice none 0 0,.int .i64 0,.int .i64 0,.int .i64 0,.int .i64 0,.int .i64 0]⟩):=by kernel_rfl
theorem F9{t:Nat}(h:Nat.beq t 47=true):cL Tryz.prog t=some (.agg ⟨[.int .i64 0,.int .i64 0,.int .i64 0,.int .u64 0,.slice none 0 0,.int .u64 0,.string ⟨#[]⟩,.int .u64 0,.slice none 0 0,.int .i64 0,.int .i64 0,.int .i64 0,.int .i64 0,.int .i64 0]⟩):=by rw[eO h];exact yC
theorem B7{t:Nat}(h:Nat.beq t 47=true):structOf Tryz.prog t [.int .i64 0,.int .i64 0,.int .i64 0,.int .u64 0,.slice none 0 0,.int .u64 0,.string ⟨#[]⟩,.int .u64 0,.slice none 0 0,.int .i64 0,.int .i64 0,.int .i64 0,.int .i64 0,.int .i64 0]:=by rw[eO h];exact gL (by kernel_rfl) yC
theorem vT:cL Tryz.prog 52=some (.agg ⟨[.slice none 0 0,.slice none 0 0,.int .i64 0]⟩):=by kernel_rfl
theorem Dy{t:Nat}(h:Nat.beq t 52=true):cL Tryz.prog t=some (.agg ⟨[.slice none 0 0,.slice none 0 0,.int .i64 0]⟩):=by rw[eO h];exact vT
theorem A6{t:Nat}(h:Nat.beq t 52=true):structOf Tryz.prog t [.slice none 0 0,.slice none 0 0,.int .i64 0]:=by rw[eO h];exact gL (by kernel_rfl) vT
theorem xZ:cL Tryz.prog 54=some (.agg ⟨[.slice none 0 0,.slice none 0 0,.int .i64 0,.int .i64 0]⟩):=by kernel_rfl
theorem uD{t:Nat}(h:Nat.beq t 54=true):placeOf Tryz.prog t [(0,3),(3,1)] [.slice none 0 0,.slice none 0 0,.int .i64 0,.int .i64 0]:=by rw[eO h];exact lD (by kernel_rfl) xZ
theorem tY:cL Tryz.prog 64=some (.agg ⟨[.int .i64 0,.bool false,.int .u64 0,.string ⟨#[]⟩,.int .i64 0,.int .i64 0,.int .i64 0,.bool false]⟩):=by kernel_rfl
theorem Bn{t:Nat}(h:Nat.beq t 64=true):cL Tryz.prog t=some (.agg ⟨[.int .i64 0,.bool false,.int .u64 0,.string ⟨#[]⟩,.int .i64 0,.int .i64 0,.int .i64 0,.bool false]⟩):=by rw[eO h];exact tY
theorem A4{t:Nat}(h:Nat.beq t 64=true):placeOf Tryz.prog t [(0,1),(1,1),(2,1),(3,1),(4,1),(5,1),(6,2)] [.int .i64 0,.bool false,.int .u64 0,.string ⟨#[]⟩,.int .i64 0,.int .i64 0,.int .i64 0,.bool false]:=by rw[eO h];exact lD (by kernel_rfl) tY
theorem oM:cL Tryz.prog 76=some (.agg ⟨[.pointer none,.pointer none]⟩):=by kernel_rfl
theorem vM{t:Nat}(h:Nat.beq t 76=true):cL Tryz.prog t=some (.agg ⟨[.pointer none,.pointer none]⟩):=by rw[eO h];exact oM
theorem sV{t:Nat}(h:Nat.beq t 76=true):structOf Tryz.prog t [.pointer none,.pointer none]:=by rw[eO h];exact gL (by kernel_rfl) oM
theorem nR:cL Tryz.prog 89=some (.agg ⟨[.int .i64 0,.int .i64 0,.bool false,.int .i64 0,.int .i64 0,.int .i64 0,.int .i64 0,.int .u64 0,.int .u64 0,.string ⟨#[]⟩,.int .u64 0,.int .u64 0,.int .i64 0,.bool false,.bool false,.slice none 0 0,.slice none 0 0,.int .i64 0,.bool false,.int .u64 0,.string ⟨#[]⟩,.int .i64 0,.int .i64 0,.int .i64 0,.bool false]⟩):=by kernel_rfl
theorem uI{t:Nat}(h:Nat.beq t 89=true):cL Tryz.prog t=some (.agg ⟨[.int .i64 0,.int .i64 0,.bool false,.int .i64 0,.int .i64 0,.int .i64 0,.int .i64 0,.int .u64 0,.int .u64 0,.string ⟨#[]⟩,.int .u64 0,.int .u64 0,.int .i64 0,.bool false,.bool false,.slice none 0 0,.slice none 0 0,.int .i64 0,.bool false,.int .u64 0,.string ⟨#[]⟩,.int .i64 0,.int .i64 0,.int .i64 0,.bool false]⟩):=by rw[eO h];exact nR
theorem tT{t:Nat}(h:Nat.beq t 89=true):placeOf Tryz.prog t [(0,1),(1,2),(3,1),(4,1),(5,1),(6,1),(7,1),(8,1),(9,1),(10,1),(11,1),(12,1),(13,1),(14,3),(17,8)] [.int .i64 0,.int .i64 0,.bool false,.int .i64 0,.int .i64 0,.int .i64 0,.int .i64 0,.int .u64 0,.int .u64 0,.string ⟨#[]⟩,.int .u64 0,.int .u64 0,.int .i64 0,.bool false,.bool false,.slice none 0 0,.slice none 0 0,.int .i64 0,.bool false,.int .u64 0,.string ⟨#[]⟩,.int .i64 0,.int .i64 0,.int .i64 0,.bool false]:=by rw[eO h];exact lD (by kernel_rfl) nR
theorem xY:cL Tryz.prog 114=some (.agg ⟨[.slice none 0 0,.int .i64 0]⟩):=by kernel_rfl
theorem tA{t:Nat}(h:Nat.beq t 114=true):structOf Tryz.prog t [.slice none 0 0,.int .i64 0]:=by rw[eO h];exact gL (by kernel_rfl) xY
theorem A9:cL Tryz.prog 125=some (.agg ⟨[.nilIface,.int .i64 0,.bool false]⟩):=by kernel_rfl
theorem Ir{t:Nat}(h:Nat.beq t 125=true):cL Tryz.prog t=some (.agg ⟨[.nilIface,.int .i64 0,.bool false]⟩):=by rw[eO h];exact A9
theorem Hv{t:Nat}(h:Nat.beq t 125=true):placeOf Tryz.prog t [(0,1),(1,2)] [.nilIface,.int .i64 0,.bool false]:=by rw[eO h];exact lD (by kernel_rfl) A9
theorem tW:cL Tryz.prog 128=some (.agg ⟨[.int .i64 0,.int .i64 0,.int .i64 0,.int .i64 0]⟩):=by kernel_rfl
theorem By{t:Nat}(h:Nat.beq t 128=true):cL Tryz.prog t=some (.agg ⟨[.int .i64 0,.int .i64 0,.int .i64 0,.int .i64 0]⟩):=by rw[eO h];exact tW
theorem zR{t:Nat}(h:Nat.beq t 128=true):structOf Tryz.prog t [.int .i64 0,.int .i64 0,.int .i64 0,.int .i64 0]:=by rw[eO h];exact gL (by kernel_rfl) tW
theorem wJ:cL Tryz.prog 132=some (.agg ⟨[.int .i64 0,.int .i64 0,.int .i64 0,.int .i64 0,.nilFunc,.nilFunc,.int .i64 0,.bool false,.int .u64 0,.string ⟨#[]⟩,.int .i64 0,.int .i64 0,.int .i64 0,.bool false]⟩):=by kernel_rfl
theorem D0{t:Nat}(h:Nat.beq t 132=true):cL Tryz.prog t=some (.agg ⟨[.int .i64 0,.int .i64 0,.int .i64 0,.int .i64 0,.nilFunc,.nilFunc,.int .i64 0,.bool false,.int .u64 0,.string ⟨#[]⟩,.int .i64 0,.int .i64 0,.int .i64 0,.bool false]⟩):=by rw[eO h];exact wJ
theorem Cr{t:Nat}(h:Nat.beq t 132=true):placeOf Tryz.prog t [(0,4),(4,1),(5,1),(6,8)] [.int .i64 0,.int .i64 0,.int .i64 0,.int .i64 0,.nilFunc,.nilFunc,.int .i64 0,.bool false,.int .u64 0,.string ⟨#[]⟩,.int .i64 0,.int .i64 0,.int .i64 0,.bool false]:=by rw[eO h];exact lD (by kernel_rfl) wJ
theorem Cq:cL Tryz.prog 139=some (.agg ⟨[.slice none 0 0,.slice none 0 0,.int .i64 0,.int .i64 0]⟩):=by kernel_rfl
theorem xV{t:Nat}(h:Nat.beq t 139=true):structOf Tryz.prog t [.slice none 0 0,.slice none 0 0,.int .i64 0,.int .i64 0]:=by rw[eO h];exact gL (by kernel_rfl) Cq
theorem Hs:cL Tryz.prog 141=some (.agg ⟨[.nilIface,.int .i64 0,.int .i64 0,.int .i64 0,.int .i64 0,.nilFunc,.nilFunc,.int .i64 0,.bool false,.int .u64 0,.string ⟨#[]⟩,.int .i64 0,.int .i64 0,.int .i64 0,.bool false,.int .i64 0,.bool false]⟩):=by kernel_rfl
theorem B6{t:Nat}(h:Nat.beq t 141=true):placeOf Tryz.prog t [(0,1),(1,14),(15,1),(16,1)] [.nilIface,.int .i64 0,.int .i64 0,.int .i64 0,.int .i64 0,.nilFunc,.nilFunc,.int .i64 0,.bool false,.int .u64 0,.string ⟨#[]⟩,.int .i64 0,.int .i64 0,.int .i64 0,.bool false,.int .i64 0,.bool false]:=by rw[eO h];exact lD (by kernel_rfl) Hs
theorem wM:cL Tryz.prog 153=some (.agg ⟨[.pointer none,.int .i64 0,.int .i64 0,.bool false,.int .i64 0,.int .i64 0,.int .i64 0,.int .i64 0,.int .u64 0,.int .u64 0,.string ⟨#[]⟩,.int .u64 0,.int .u64 0,.int .i64 0,.bool false,.bool false,.slice none 0 0,.slice none 0 0,.int .i64 0,.bool false,.int .u64 0,.string ⟨#[]⟩,.int .i64 0,.int .i64 0,.int .i64 0,.bool false,.slice none 0 0,.slice none 0 0,.slice none 0 0,.slice none 0 0,.int .i64 0,.int .i64 0,.int .i64 0,.int .i64 0,.int .i64 0,.bool false,.int .i64 0,.int .i64 0,.int .i64 0,.int .i64 0,.bool false,.int .i64 0,.bool false,.int .u64 0,.string ⟨#[]⟩,.int .i64 0,.int .i64 0,.int .i64 0,.bool false,.bool false,.slice none 0 0,.slice none 0 0]⟩):=by kernel_rfl
theorem tM{t:Nat}(h:Nat.beq t 153=true):placeOf Tryz.prog t [(0,1),(1,25),(26,1),(27,1),(28,1),(29,1),(30,1),(31,1),(32,1),(33,1),(34,1),(35,1),(36,4),(40,1),(41,8),(49,3)] [.pointer none,.int .i64 0,.int .i64 0,.bool false,.int .i64 0,.int .i64 0,.int .i64 0,.int .i64 0,.int .u64 0,.int .u64 0,.string ⟨#[]⟩,.int .u64 0,.int .u64 0,.int .i64 0,.bool false,.bool false,.slice none 0 0,.slice none 0 0,.int .i64 0,.bool false,.int .u64 0,.string ⟨#[]⟩,.int .i64 0,.int .i64 0,.int .i64 0,.bool false,.slice none 0 0,.slice none 0 0,.slice none 0 0,.slice none 0 0,.int .i64 0,.int .i64 0,.int .i64 0,.int .i64 0,.int .i64 0,.bool false,.int .i64 0,.int .i64 0,.int .i64 0,.int .i64 0,.bool false,.int .i64 0,.bool false,.int .u64 0,.string ⟨#[]⟩,.int .i64 0,.int .i64 0,.int .i64 0,.bool false,.bool false,.slice none 0 0,.slice none 0 0]:=by rw[eO h];exact lD (by kernel_rfl) wM
theorem yW:cL Tryz.prog 164=some (.agg ⟨[.string ⟨#[]⟩,.int .u64 0]⟩):=by kernel_rfl
theorem Ii{t:Nat}(h:Nat.beq t 164=true):cL Tryz.prog t=some (.agg ⟨[.string ⟨#[]⟩,.int .u64 0]⟩):=by rw[eO h];exact yW
theorem Bk{t:Nat}(h:Nat.beq t 164=true):structOf Tryz.prog t [.string ⟨#[]⟩,.int .u64 0]:=by rw[eO h];exact gL (by kernel_rfl) yW
def aAh:List (Nat×Nat):=[(29,0),(29,1),(35,0),(35,1),(35,2),(35,3),(39,0),(39,1),(39,2),(39,3),(39,4),(47,0),(47,1),(47,2),(47,3),(47,4),(47,5),(47,6),(47,7),(47,8),(47,9),(47,10),(47,11),(47,12),(47,13),(52,0),(52,1),(52,2),(54,0),(64,0),(64,1),(64,2),(64,3),(64,4),(64,5),(64,6),(76,0),(76,1),(87,0),(87,1),(87,2),(89,0),(89,1),(114,0),(114,1),(125,0),(125,1),(128,0),(128,1),(128,2),(128,3),(132,0),(139,0),(139,1),(139,2),(139,3),(141,0),(141,1),(153,0),(153,1),(159,0),(164,0),(164,1),(230,0),(230,1)]
theorem z9:(aAh.all λ p=>cS Tryz.prog p.1 p.2==some p.2)=true:=by kernel_rfl
theorem wq{t k:Nat}(h:(aAh.any λ p=>Nat.beq p.1 t&&Nat.beq p.2 k)=true):cS Tryz.prog t k=some k:=by
 obtain⟨p,hp,ht⟩:=List.any_eq_true.1 h
 simp only[Bool.and_eq_true] at ht
 have h2:=eq_of_beq (List.all_eq_true.1 z9 p hp)
 rwa [eO ht.1,eO ht.2] at h2
def u5:List (Nat×Nat):=[(29,0),(29,1),(35,0),(35,1),(35,2),(35,3),(39,0),(39,1),(39,2),(39,3),(39,4),(47,0),(47,1),(47,2),(47,3),(47,4),(47,5),(47,6),(47,7),(47,8),(47,9),(47,10),(47,11),(47,12),(47,13),(52,0),(52,1),(52,2),(64,0),(64,1),(64,2),(64,3),(64,4),(64,5),(76,0),(76,1),(87,0),(87,1),(87,2),(89,0),(114,0),(114,1),(125,0),(128,0),(128,1),(128,2),(128,3),(139,0),(139,1),(139,2),(139,3),(141,0),(153,0),(164,0),(164,1),(230,0),(230,1)]
theorem oa:(u5.all λ p=>Ai Tryz.prog p.1 p.2==some p.2)=true:=by kernel_rfl
theorem Mf{t k:Nat}(h:(u5.any λ p=>Nat.beq p.1 t&&Nat.beq p.2 k)=true):Ai Tryz.prog t k=some k:=by
 obtain⟨p,hp,ht⟩:=List.any_eq_true.1 h
 simp only[Bool.and_eq_true] at ht
 have h2:=eq_of_beq (List.all_eq_true.1 oa p hp)
 rwa [eO ht.1,eO ht.2] at h2
theorem vP{t k:Nat}(h:(Nat.beq t 54&&Nat.beq k 1)=true):cS Tryz.prog t k=some 3:=by simp only[Bool.and_eq_true] at h;rw[eO h.1,eO h.2];kernel_rfl
theorem uL{t k:Nat}(h:(Nat.beq t 89&&Nat.beq k 2)=true):cS Tryz.prog t k=some 3:=by simp only[Bool.and_eq_true] at h;rw[eO h.1,eO h.2];kernel_rfl
theorem uR{t k:Nat}(h:(Nat.beq t 89&&Nat.beq k 3)=true):cS Tryz.prog t k=some 4:=by simp only[Bool.and_eq_true] at h;rw[eO h.1,eO h.2];kernel_rfl
theorem uO{t k:Nat}(h:(Nat.beq t 89&&Nat.beq k 4)=true):cS Tryz.prog t k=some 5:=by simp only[Bool.and_eq_true] at h;rw[eO h.1,eO h.2];kernel_rfl
theorem uA{t k:Nat}(h:(Nat.beq t 89&&Nat.beq k 7)=true):cS Tryz.prog t k=some 8:=by simp only[Bool.and_eq_true] at h;rw[eO h.1,eO h.2];kernel_rfl
theorem uV{t k:Nat}(h:(Nat.beq t 89&&Nat.beq k 8)=true):cS Tryz.prog t k=some 9:=by simp only[Bool.and_eq_true] at h;rw[eO h.1,eO h.2];kernel_rfl
theorem uS{t k:Nat}(h:(Nat.beq t 89&&Nat.beq k 9)=true):cS Tryz.prog t k=some 10:=by simp only[Bool.and_eq_true] at h;rw[eO h.1,eO h.2];kernel_rfl
theorem sD{t k:Nat}(h:(Nat.beq t 89&&Nat.beq k 10)=true):cS Tryz.prog t k=some 11:=by simp only[Bool.and_eq_true] at h;rw[eO h.1,eO h.2];kernel_rfl
theorem sU{t k:Nat}(h:(Nat.beq t 89&&Nat.beq k 11)=true):cS Tryz.prog t k=some 12:=by simp only[Bool.and_eq_true] at h;rw[eO h.1,eO h.2];kernel_rfl
theorem tJ{t k:Nat}(h:(Nat.beq t 89&&Nat.beq k 12)=true):cS Tryz.prog t k=some 13:=by simp only[Bool.and_eq_true] at h;rw[eO h.1,eO h.2];kernel_rfl
theorem D6{t k:Nat}(h:(Nat.beq t 132&&Nat.beq k 1)=true):cS Tryz.prog t k=some 4:=by simp only[Bool.and_eq_true] at h;rw[eO h.1,eO h.2];kernel_rfl
theorem D5{t k:Nat}(h:(Nat.beq t 132&&Nat.beq k 2)=true):cS Tryz.prog t k=some 5:=by simp only[Bool.and_eq_true] at h;rw[eO h.1,eO h.2];kernel_rfl
theorem D4{t k:Nat}(h:(Nat.beq t 132&&Nat.beq k 3)=true):cS Tryz.prog t k=some 6:=by simp only[Bool.and_eq_true] at h;rw[eO h.1,eO h.2];kernel_rfl
theorem Dz{t k:Nat}(h:(Nat.beq t 141&&Nat.beq k 2)=true):cS Tryz.prog t k=some 15:=by simp only[Bool.and_eq_true] at h;rw[eO h.1,eO h.2];kernel_rfl
theorem Dw{t k:Nat}(h:(Nat.beq t 141&&Nat.beq k 3)=true):cS Tryz.prog t k=some 16:=by simp only[Bool.and_eq_true] at h;rw[eO h.1,eO h.2];kernel_rfl
theorem uF{t k:Nat}(h:(Nat.beq t 153&&Nat.beq k 2)=true):cS Tryz.prog t k=some 26:=by simp only[Bool.and_eq_true] at h;rw[eO h.1,eO h.2];kernel_rfl
theorem uU{t k:Nat}(h:(Nat.beq t 153&&Nat.beq k 3)=true):cS Tryz.prog t k=some 27:=by simp only[Bool.and_eq_true] at h;rw[eO h.1,eO h.2];kernel_rfl
theorem uK{t k:Nat}(h:(Nat.beq t 153&&Nat.beq k 4)=true):cS Tryz.prog t k=some 28:=by simp only[Bool.and_eq_true] at h;rw[eO h.1,eO h.2];kernel_rfl
theorem tZ{t k:Nat}(h:(Nat.beq t 153&&Nat.beq k 5)=true):cS Tryz.prog t k=some 29:=by simp only[Bool.and_eq_true] at h;rw[eO h.1,eO h.2];kernel_rfl
theorem uC{t k:Nat}(h:(Nat.beq t 153&&Nat.beq k 6)=true):cS Tryz.prog t k=some 30:=by simp only[Bool.and_eq_true] at h;rw[eO h.1,eO h.2];kernel_rfl
theorem uM{t k:Nat}(h:(Nat.beq t 153&&Nat.beq k 7)=true):cS Tryz.prog t k=some 31:=by simp only[Bool.and_eq_true] at h;rw[eO h.1,eO h.2];kernel_rfl
theorem uQ{t k:Nat}(h:(Nat.beq t 153&&Nat.beq k 8)=true):cS Tryz.prog t k=some 32:=by simp only[Bool.and_eq_true] at h;rw[eO h.1,eO h.2];kernel_rfl
theorem uH{t k:Nat}(h:(Nat.beq t 153&&Nat.beq k 9)=true):cS Tryz.prog t k=some 33:=by simp only[Bool.and_eq_true] at h;rw[eO h.1,eO h.2];kernel_rfl
theorem sP{t k:Nat}(h:(Nat.beq t 153&&Nat.beq k 10)=true):cS Tryz.prog t k=some 34:=by simp only[Bool.and_eq_true] at h;rw[eO h.1,eO h.2];kernel_rfl
theorem sG{t k:Nat}(h:(Nat.beq t 153&&Nat.beq k 11)=true):cS Tryz.prog t k=some 35:=by simp only[Bool.and_eq_true] at h;rw[eO h.1,eO h.2];kernel_rfl
theorem sZ{t k:Nat}(h:(Nat.beq t 153&&Nat.beq k 12)=true):cS Tryz.prog t k=some 36:=by simp only[Bool.and_eq_true] at h;rw[eO h.1,eO h.2];kernel_rfl
theorem tS{t k:Nat}(h:(Nat.beq t 153&&Nat.beq k 13)=true):cS Tryz.prog t k=some 40:=by simp only[Bool.and_eq_true] at h;rw[eO h.1,eO h.2];kernel_rfl
theorem sY{t k:Nat}(h:(Nat.beq t 153&&Nat.beq k 14)=true):cS Tryz.prog t k=some 41:=by simp only[Bool.and_eq_true] at h;rw[eO h.1,eO h.2];kernel_rfl
def aBi:List Nat:=[15,16,17,23,25,30,42,56,74,156,259]
theorem z5:(aBi.all λ t=>Jc Tryz.prog t)=true:=by kernel_rfl
theorem Sw{t:Nat}(h:aBi.elem t=true):Jc Tryz.prog t=true:=List.all_eq_true.1 z5 t (List.mem_of_elem_eq_true h)
def j7:List (Nat×Nat):=[(22,3),(32,29),(33,74),(44,37),(45,164),(50,47),(85,230),(95,4),(102,9),(108,76),(115,39),(151,27),(169,31)]
def ta(t:Nat):Nat:=(j7.lookup t).getD 0
theorem aAp:(j7.all λ p=>(match Tryz.prog.underlying p.1 with|some (.slice e)=>Nat.beq e p.2&&Nat.beq (ta p.1) p.2|_=>false))=true:=by kernel_rfl
theorem aBe{t:Nat}(h:(j7.any λ p=>Nat.beq p.1 t)=true):Tryz.prog.underlying t=some (.slice (ta t)):=by
 obtain⟨p,hp,ht⟩:=List.any_eq_true.1 h
 have h2:=List.all_eq_true.1 aAp p hp
 rw[<- eO ht]
 cases hu:Tryz.prog.underlying p.1 with
 | none=>rw[hu] at h2;simp at h2
 | some d =>
  rw[hu] at h2
  cases d<;>simp only[Bool.false_eq_true] at h2
  simp only[Bool.and_eq_true] at h2
  rw[eO h2.1,eO h2.2]
def aAQ:List (Nat×Nat):=[(3,1),(4,1),(9,1),(27,1),(29,2),(31,1),(37,1),(39,5),(47,14),(74,1),(76,2),(164,2),(230,2)]
theorem v8:(aAQ.all λ p=>(Tryz.prog.info? p.1).map (·.size)==some p.2)=true:=by kernel_rfl
theorem tV{e s:Nat}(h:(aAQ.any λ p=>Nat.beq p.1 e&&Nat.beq p.2 s)=true):(Tryz.prog.info? e).map (·.size)=some s:=by
 obtain⟨p,hp,ht⟩:=List.any_eq_true.1 h
 simp only[Bool.and_eq_true] at ht
 have h2:=List.all_eq_true.1 v8 p hp
 rw[<- eO ht.1,<- eO ht.2]
 exact eq_of_beq h2
theorem Ud{t:Nat}(h:Nat.beq t 4=true):Tryz.prog.underlying t=some .bool:=by
 rw[eO h];kernel_rfl
theorem zw{t:Nat}(h:Nat.beq t 9=true):Tryz.prog.underlying t=some .string:=by
 rw[eO h];kernel_rfl
theorem qk{t:Nat}(h:Nat.beq t 164=true):Lz Tryz.prog t=true:=by
 rw[eO h];kernel_rfl
def aBg:List (Nat×IntKind):=[(2,.i64),(3,.i64),(5,.u8),(12,.u64),(21,.i32),(27,.i64),(31,.u64),(37,.i64),(62,.i64),(209,.u64),(255,.u32)]
theorem z7:(aBg.all λ p=>yL Tryz.prog p.1 p.2)=true:=by kernel_rfl
theorem wA{t:Nat}{k:IntKind}(h:(aBg.any λ p=>Nat.beq p.1 t&&p.2==k)=true):yL Tryz.prog t k=true:=by
 obtain⟨p,hp,ht⟩:=List.any_eq_true.1 h
 simp only[Bool.and_eq_true] at ht
 have h2:=List.all_eq_true.1 z7 p hp
 rw[eO ht.1,eq_of_beq ht.2] at h2
 exact h2
def vb(P:Program)(t e s:Nat):Bool :=
 (match P.underlying t with|some (.slice e')=>Nat.beq e' e|_=>false)&&(match P.info? e with
  | some i=>Nat.beq i.size s&&Nat.ble i.bytes 256
  | none=>false)
theorem kV{P:Program}{t e:Nat}{z:Value}{zc:List Value}(h:vb P t e zc.length=true)(hz:cL P e=some z)(hzc:z.cells=⟨zc⟩):dH P t e zc:=by
 unfold vb at h
 simp only[Bool.and_eq_true] at h
 refine⟨?_,?_⟩
 ·cases hu:P.underlying t with
  | none=>simp[hu] at h
  | some d =>
   rw[hu] at h
   cases d<;>simp only[Bool.false_eq_true,false_and] at h
   rw[eO h.1]
 ·cases hi:P.info? e with
  | none=>simp[hi] at h
  | some i =>
   rw[hi] at h
   simp only[Bool.and_eq_true] at h
   exact⟨i,z,rfl,by simpa[cL,hi] using hz,hzc,eO h.2.1,Nat.le_of_ble_eq_true h.2.2⟩
theorem Xh:cL Tryz.prog 3=some (.int .i64 0):=by kernel_rfl
theorem Ev:dH Tryz.prog 22 3 [.int .i64 0]:=kV (by kernel_rfl) Xh rfl
theorem Jz{t:Nat}(h:Nat.beq t 22=true):dH Tryz.prog t 3 [.int .i64 0]:=by rw[eO h];exact Ev
theorem Y2:cL Tryz.prog 37=some (.int .i64 0):=by kernel_rfl
theorem pF:dH Tryz.prog 44 37 [.int .i64 0]:=kV (by kernel_rfl) Y2 rfl
theorem Ku{t:Nat}(h:Nat.beq t 44=true):dH Tryz.prog t 37 [.int .i64 0]:=by rw[eO h];exact pF
theorem Sy:cL Tryz.prog 164=some (.agg ⟨[.string ⟨#[]⟩,.int .u64 0]⟩):=by kernel_rfl
theorem Yp:dH Tryz.prog 45 164 [.string ⟨#[]⟩,.int .u64 0]:=kV (by kernel_rfl) Sy rfl
theorem pU{t:Nat}(h:Nat.beq t 45=true):dH Tryz.prog t 164 [.string ⟨#[]⟩,.int .u64 0]:=by rw[eO h];exact Yp
def um:List Value:=[.int .i64 0,.int .i64 0,.int .i64 0,.int .u64 0,.slice none 0 0,.int .u64 0,.string ⟨#[]⟩,.int .u64 0,.slice none 0 0,.int .i64 0,.int .i64 0,.int .i64 0,.int .i64 0,.int .i64 0]
theorem Tl:cL Tryz.prog 47=some (.agg ⟨[.int .i64 0,.int .i64 0,.int .i64 0,.int .u64 0,.slice none 0 0,.int .u64 0,.string ⟨#[]⟩,.int .u64 0,.slice none 0 0,.int .i64 0,.int .i64 0,.int .i64 0,.int .i64 0,.int .i64 0]⟩):=by kernel_rfl
theorem rJ:dH Tryz.prog 50 47 um:=kV (by kernel_rfl) Tl rfl
theorem Fm{t:Nat}(h:Nat.beq t 50=true):dH Tryz.prog t 47 um:=by rw[eO h];exact rJ
theorem Rw:cL Tryz.prog 4=some (.bool false):=by kernel_rfl
theorem W3:dH Tryz.prog 95 4 [.bool false]:=kV (by kernel_rfl) Rw rfl
theorem Fl{t:Nat}(h:Nat.beq t 95=true):dH Tryz.prog t 4 [.bool false]:=by rw[eO h];exact W3
theorem Xo:cL Tryz.prog 9=some (.string ⟨#[]⟩):=by kernel_rfl
theorem cr:dH Tryz.prog 102 9 [.string ⟨#[]⟩]:=kV (by kernel_rfl) Xo rfl
theorem Y0{t:Nat}(h:Nat.beq t 102=true):dH Tryz.prog t 9 [.string ⟨#[]⟩]:=by rw[eO h];exact cr
end Go.Proofs.YtbajmaoegmbfgaaGreat
