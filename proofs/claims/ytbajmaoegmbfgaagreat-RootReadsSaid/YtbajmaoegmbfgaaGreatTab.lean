/- What the program's table says of the types that are used: closed facts. Written by a program. -/
import Derived.Test.YtbajmaoegmbfgaaGreatGLst3
import Derived.Test.YtbajmaoegmbfgaaGreatProg
set_option linter.unusedSimpArgs false
set_option linter.unusedVariables false
namespace Go.Proofs.YtbajmaoegmbfgaaGreat
open Go.RowKit Go.Ct
def yx:List Nat:=[2,3,4,5,9,12,15,16,17,20,21,22,23,25,27,30,31,32,33,37,42,44,45,50,56,62,74,85,95,102,108,115,122,123,129,130,151,156,169,209,255,259]
theorem wv:(yx.all λ t=>one Tryz.prog t)=true:=by kernel_rfl
theorem Lm{t:Nat}(h:yx.elem t=true):one Tryz.prog t=true:=List.all_eq_true.1 wv t (List.mem_of_elem_eq_true h)
def zj:List (Nat×Nat):=[(29,2),(35,4),(39,5),(47,14),(52,3),(54,4),(64,8),(76,2),(87,3),(89,25),(114,2),(125,3),(128,4),(132,14),(139,4),(141,17),(153,52),(159,5),(164,2),(230,2)]
theorem ub:(zj.all λ p=>jT Tryz.prog p.1 p.2)=true:=by kernel_rfl
theorem Se{t k:Nat}(h:(zj.any λ p=>Nat.beq p.1 t&&Nat.beq p.2 k)=true):jT Tryz.prog t k=true:=by
 obtain⟨p,hp,ht⟩:=List.any_eq_true.1 h
 simp only[Bool.and_eq_true] at ht
 have h2:=List.all_eq_true.1 ub p hp
 rwa [fE ht.1,fE ht.2] at h2
theorem yK:dH Tryz.prog 29=some (.agg ⟨[.int .i64 0,.bool false]⟩):=by kernel_rfl
theorem Eu{t:Nat}(h:Nat.beq t 29=true):dH Tryz.prog t=some (.agg ⟨[.int .i64 0,.bool false]⟩):=by rw[fE h];exact yK
theorem B7{t:Nat}(h:Nat.beq t 29=true):structOf Tryz.prog t [.int .i64 0,.bool false]:=by rw[fE h];exact iJ (by kernel_rfl) yK
theorem wG:dH Tryz.prog 35=some (.agg ⟨[.pointer none,.int .u64 0,.slice none 0 0,.slice none 0 0]⟩):=by kernel_rfl
theorem rX{t:Nat}(h:Nat.beq t 35=true):structOf Tryz.prog t [.pointer none,.int .u64 0,.slice none 0 0,.slice none 0 0]:=by rw[fE h];exact iJ (by kernel_rfl) wG
theorem yH:dH Tryz.prog 47=some (.agg ⟨[.int .i64 0,.int .i64 0,.int .i64 0,.int .u64 0,.slice none 0 0,.int .u64 0,.string ⟨#[]⟩,.int .u64 0,.slice none 0 0,.int .i64 0,.int .i64 0,.int .i64 0,.int .i64 0,.int .i64 0]⟩):=by kernel_rfl
theorem E5{t:Nat}(h:Nat.beq t 47=true):dH Tryz.prog t=some (.agg ⟨[.int .i64 0,.int .i64 0,.int .i64 0,.int .u64 0,.slice none 0 0,.int .u64 0,.string ⟨#[]⟩,.int .u64 0,.slice none 0 0,.int .i64 0,.int .i64 0,.int .i64 0,.int .i64 0,.int .i64 0]⟩):=by rw[fE h];exact yH
theorem Bs{t:Nat}(h:Nat.beq t 47=true):structOf Tryz.prog t [.int .i64 0,.int .i64 0,.int .i64 0,.int .u64 0,.slice none 0 0,.int .u64 0,.string ⟨#[]⟩,.int .u64 0,.slice none 0 0,.int .i64 0,.int .i64 0,.int .i64 0,.int .i64 0,.int .i64 0]:=by rw[fE h];exact iJ (by kernel_rfl) yH
theorem vU:dH Tryz.prog 52=some (.agg ⟨[.slice none 0 0,.slice none 0 0,.int .i64 0]⟩):=by kernel_rfl
theorem Dj{t:Nat}(h:Nat.beq t 52=true):dH Tryz.prog t=some (.agg ⟨[.slice none 0 0,.slice none 0 0,.int .i64 0]⟩):=by rw[fE h];exact vU
theorem zS{t:Nat}(h:Nat.beq t 52=true):structOf Tryz.prog t [.slice none 0 0,.slice none 0 0,.int .i64 0]:=by rw[fE h];exact iJ (by kernel_rfl) vU
theorem xU:dH Tryz.prog 54=some (.agg ⟨[.slice none 0 0,.slice none 0 0,.int .i64 0,.int .i64 0]⟩):=by kernel_rfl
theorem uJ{t:Nat}(h:Nat.beq t 54=true):placeOf Tryz.prog t [(0,3),(3,1)] [.slice none 0 0,.slice none 0 0,.int .i64 0,.int .i64 0]:=by rw[fE h];exact lI (by kernel_rfl) xU
theorem tW:dH Tryz.prog 64=some (.agg ⟨[.int .i64 0,.bool false,.int .u64 0,.string ⟨#[]⟩,.int .i64 0,.int .i64 0,.int .i64 0,.bool false]⟩):=by kernel_rfl
theorem By{t:Nat}(h:Nat.beq t 64=true):dH Tryz.prog t=some (.agg ⟨[.int .i64 0,.bool false,.int .u64 0,.string ⟨#[]⟩,.int .i64 0,.int .i64 0,.int .i64 0,.bool false]⟩):=by rw[fE h];exact tW
theorem zU{t:Nat}(h:Nat.beq t 64=true):placeOf Tryz.prog t [(0,1),(1,1),(2,1),(3,1),(4,1),(5,1),(6,2)] [.int .i64 0,.bool false,.int .u64 0,.string ⟨#[]⟩,.int .i64 0,.int .i64 0,.int .i64 0,.bool false]:=by rw[fE h];exact lI (by kernel_rfl) tW
theorem oM:dH Tryz.prog 76=some (.agg ⟨[.pointer none,.pointer none]⟩):=by kernel_rfl
theorem vQ{t:Nat}(h:Nat.beq t 76=true):dH Tryz.prog t=some (.agg ⟨[.pointer none,.pointer none]⟩):=by rw[fE h];exact oM
theorem tB{t:Nat}(h:Nat.beq t 76=true):structOf Tryz.prog t [.pointer none,.pointer none]:=by rw[fE h];exact iJ (by kernel_rfl) oM
theorem nT:dH Tryz.prog 89=some (.agg ⟨[.int .i64 0,.int .i64 0,.bool false,.int .i64 0,.int .i64 0,.int .i64 0,.int .i64 0,.int .u64 0,.int .u64 0,.string ⟨#[]⟩,.int .u64 0,.int .u64 0,.int .i64 0,.bool false,.bool false,.slice none 0 0,.slice none 0 0,.int .i64 0,.bool false,.int .u64 0,.string ⟨#[]⟩,.int .i64 0,.int .i64 0,.int .i64 0,.bool false]⟩):=by kernel_rfl
theorem uN{t:Nat}(h:Nat.beq t 89=true):dH Tryz.prog t=some (.agg ⟨[.int .i64 0,.int .i64 0,.bool false,.int .i64 0,.int .i64 0,.int .i64 0,.int .i64 0,.int .u64 0,.int .u64 0,.string ⟨#[]⟩,.int .u64 0,.int .u64 0,.int .i64 0,.bool false,.bool false,.slice none 0 0,.slice none 0 0,.int .i64 0,.bool false,.int .u64 0,.string ⟨#[]⟩,.int .i64 0,.int .i64 0,.int .i64 0,.bool false]⟩):=by rw[fE h];exact nT
theorem tI{t:Nat}(h:Nat.beq t 89=true):placeOf Tryz.prog t [(0,1),(1,2),(3,1),(4,1),(5,1),(6,1),(7,1),(8,1),(9,1),(10,1),(11,1),(12,1),(13,1),(14,3),(17,8)] [.int .i64 0,.int .i64 0,.bool false,.int .i64 0,.int .i64 0,.int .i64 0,.int .i64 0,.int .u64 0,.int .u64 0,.string ⟨#[]⟩,.int .u64 0,.int .u64 0,.int .i64 0,.bool false,.bool false,.slice none 0 0,.slice none 0 0,.int .i64 0,.bool false,.int .u64 0,.string ⟨#[]⟩,.int .i64 0,.int .i64 0,.int .i64 0,.bool false]:=by rw[fE h];exact lI (by kernel_rfl) nT
theorem xV:dH Tryz.prog 114=some (.agg ⟨[.slice none 0 0,.int .i64 0]⟩):=by kernel_rfl
theorem tJ{t:Nat}(h:Nat.beq t 114=true):structOf Tryz.prog t [.slice none 0 0,.int .i64 0]:=by rw[fE h];exact iJ (by kernel_rfl) xV
theorem A2:dH Tryz.prog 125=some (.agg ⟨[.nilIface,.int .i64 0,.bool false]⟩):=by kernel_rfl
theorem Ia{t:Nat}(h:Nat.beq t 125=true):dH Tryz.prog t=some (.agg ⟨[.nilIface,.int .i64 0,.bool false]⟩):=by rw[fE h];exact A2
theorem Fq{t:Nat}(h:Nat.beq t 125=true):placeOf Tryz.prog t [(0,1),(1,2)] [.nilIface,.int .i64 0,.bool false]:=by rw[fE h];exact lI (by kernel_rfl) A2
theorem tX:dH Tryz.prog 128=some (.agg ⟨[.int .i64 0,.int .i64 0,.int .i64 0,.int .i64 0]⟩):=by kernel_rfl
theorem B4{t:Nat}(h:Nat.beq t 128=true):dH Tryz.prog t=some (.agg ⟨[.int .i64 0,.int .i64 0,.int .i64 0,.int .i64 0]⟩):=by rw[fE h];exact tX
theorem zH{t:Nat}(h:Nat.beq t 128=true):structOf Tryz.prog t [.int .i64 0,.int .i64 0,.int .i64 0,.int .i64 0]:=by rw[fE h];exact iJ (by kernel_rfl) tX
theorem wE:dH Tryz.prog 132=some (.agg ⟨[.int .i64 0,.int .i64 0,.int .i64 0,.int .i64 0,.nilFunc,.nilFunc,.int .i64 0,.bool false,.int .u64 0,.string ⟨#[]⟩,.int .i64 0,.int .i64 0,.int .i64 0,.bool false]⟩):=by kernel_rfl
theorem Db{t:Nat}(h:Nat.beq t 132=true):dH Tryz.prog t=some (.agg ⟨[.int .i64 0,.int .i64 0,.int .i64 0,.int .i64 0,.nilFunc,.nilFunc,.int .i64 0,.bool false,.int .u64 0,.string ⟨#[]⟩,.int .i64 0,.int .i64 0,.int .i64 0,.bool false]⟩):=by rw[fE h];exact wE
theorem Bf{t:Nat}(h:Nat.beq t 132=true):placeOf Tryz.prog t [(0,4),(4,1),(5,1),(6,8)] [.int .i64 0,.int .i64 0,.int .i64 0,.int .i64 0,.nilFunc,.nilFunc,.int .i64 0,.bool false,.int .u64 0,.string ⟨#[]⟩,.int .i64 0,.int .i64 0,.int .i64 0,.bool false]:=by rw[fE h];exact lI (by kernel_rfl) wE
theorem Bl:dH Tryz.prog 139=some (.agg ⟨[.slice none 0 0,.slice none 0 0,.int .i64 0,.int .i64 0]⟩):=by kernel_rfl
theorem xS{t:Nat}(h:Nat.beq t 139=true):structOf Tryz.prog t [.slice none 0 0,.slice none 0 0,.int .i64 0,.int .i64 0]:=by rw[fE h];exact iJ (by kernel_rfl) Bl
theorem Ha:dH Tryz.prog 141=some (.agg ⟨[.nilIface,.int .i64 0,.int .i64 0,.int .i64 0,.int .i64 0,.nilFunc,.nilFunc,.int .i64 0,.bool false,.int .u64 0,.string ⟨#[]⟩,.int .i64 0,.int .i64 0,.int .i64 0,.bool false,.int .i64 0,.bool false]⟩):=by kernel_rfl
theorem Bn{t:Nat}(h:Nat.beq t 141=true):placeOf Tryz.prog t [(0,1),(1,14),(15,1),(16,1)] [.nilIface,.int .i64 0,.int .i64 0,.int .i64 0,.int .i64 0,.nilFunc,.nilFunc,.int .i64 0,.bool false,.int .u64 0,.string ⟨#[]⟩,.int .i64 0,.int .i64 0,.int .i64 0,.bool false,.int .i64 0,.bool false]:=by rw[fE h];exact lI (by kernel_rfl) Ha
theorem wF:dH Tryz.prog 153=some (.agg ⟨[.pointer none,.int .i64 0,.int .i64 0,.bool false,.int .i64 0,.int .i64 0,.int .i64 0,.int .i64 0,.int .u64 0,.int .u64 0,.string ⟨#[]⟩,.int .u64 0,.int .u64 0,.int .i64 0,.bool false,.bool false,.slice none 0 0,.slice none 0 0,.int .i64 0,.bool false,.int .u64 0,.string ⟨#[]⟩,.int .i64 0,.int .i64 0,.int .i64 0,.bool false,.slice none 0 0,.slice none 0 0,.slice none 0 0,.slice none 0 0,.int .i64 0,.int .i64 0,.int .i64 0,.int .i64 0,.int .i64 0,.bool false,.int .i64 0,.int .i64 0,.int .i64 0,.int .i64 0,.bool false,.int .i64 0,.bool false,.int .u64 0,.string ⟨#[]⟩,.int .i64 0,.int .i64 0,.int .i64 0,.bool false,.bool false,.slice none 0 0,.slice none 0 0]⟩):=by kernel_rfl
theorem tR{t:Nat}(h:Nat.beq t 153=true):placeOf Tryz.prog t [(0,1),(1,25),(26,1),(27,1),(28,1),(29,1),(30,1),(31,1),(32,1),(33,1),(34,1),(35,1),(36,4),(40,1),(41,8),(49,3)] [.pointer none,.int .i64 0,.int .i64 0,.bool false,.int .i64 0,.int .i64 0,.int .i64 0,.int .i64 0,.int .u64 0,.int .u64 0,.string ⟨#[]⟩,.int .u64 0,.int .u64 0,.int .i64 0,.bool false,.bool false,.slice none 0 0,.slice none 0 0,.int .i64 0,.bool false,.int .u64 0,.string ⟨#[]⟩,.int .i64 0,.int .i64 0,.int .i64 0,.bool false,.slice none 0 0,.slice none 0 0,.slice none 0 0,.slice none 0 0,.int .i64 0,.int .i64 0,.int .i64 0,.int .i64 0,.int .i64 0,.bool false,.int .i64 0,.int .i64 0,.int .i64 0,.int .i64 0,.bool false,.int .i64 0,.bool false,.int .u64 0,.string ⟨#[]⟩,.int .i64 0,.int .i64 0,.int .i64 0,.bool false,.bool false,.slice none 0 0,.slice none 0 0]:=by rw[fE h];exact lI (by kernel_rfl) wF
theorem xZ:dH Tryz.prog 164=some (.agg ⟨[.string ⟨#[]⟩,.int .u64 0]⟩):=by kernel_rfl
theorem Ek{t:Nat}(h:Nat.beq t 164=true):dH Tryz.prog t=some (.agg ⟨[.string ⟨#[]⟩,.int .u64 0]⟩):=by rw[fE h];exact xZ
theorem Bu{t:Nat}(h:Nat.beq t 164=true):structOf Tryz.prog t [.string ⟨#[]⟩,.int .u64 0]:=by rw[fE h];exact iJ (by kernel_rfl) xZ
def yu:List (Nat×Nat):=[(29,0),(29,1),(35,0),(35,1),(35,2),(35,3),(39,0),(39,1),(39,2),(39,3),(39,4),(47,0),(47,1),(47,2),(47,3),(47,4),(47,5),(47,6),(47,7),(47,8),(47,9),(47,10),(47,11),(47,12),(47,13),(52,0),(52,1),(52,2),(54,0),(64,0),(64,1),(64,2),(64,3),(64,4),(64,5),(64,6),(76,0),(76,1),(87,0),(87,1),(87,2),(89,0),(89,1),(114,0),(114,1),(125,0),(125,1),(128,0),(128,1),(128,2),(128,3),(132,0),(139,0),(139,1),(139,2),(139,3),(141,0),(141,1),(153,0),(153,1),(159,0),(164,0),(164,1),(230,0),(230,1)]
theorem uu:(yu.all λ p=>dK Tryz.prog p.1 p.2==some p.2)=true:=by kernel_rfl
theorem vb{t k:Nat}(h:(yu.any λ p=>Nat.beq p.1 t&&Nat.beq p.2 k)=true):dK Tryz.prog t k=some k:=by
 obtain⟨p,hp,ht⟩:=List.any_eq_true.1 h
 simp only[Bool.and_eq_true] at ht
 have h2:=eq_of_beq (List.all_eq_true.1 uu p hp)
 rwa [fE ht.1,fE ht.2] at h2
def qy:List (Nat×Nat):=[(29,0),(29,1),(35,0),(35,1),(35,2),(35,3),(39,0),(39,1),(39,2),(39,3),(39,4),(47,0),(47,1),(47,2),(47,3),(47,4),(47,5),(47,6),(47,7),(47,8),(47,9),(47,10),(47,11),(47,12),(47,13),(52,0),(52,1),(52,2),(64,0),(64,1),(64,2),(64,3),(64,4),(64,5),(76,0),(76,1),(87,0),(87,1),(87,2),(89,0),(114,0),(114,1),(125,0),(128,0),(128,1),(128,2),(128,3),(139,0),(139,1),(139,2),(139,3),(141,0),(153,0),(164,0),(164,1),(230,0),(230,1)]
theorem k9:(qy.all λ p=>zR Tryz.prog p.1 p.2==some p.2)=true:=by kernel_rfl
theorem Sy{t k:Nat}(h:(qy.any λ p=>Nat.beq p.1 t&&Nat.beq p.2 k)=true):zR Tryz.prog t k=some k:=by
 obtain⟨p,hp,ht⟩:=List.any_eq_true.1 h
 simp only[Bool.and_eq_true] at ht
 have h2:=eq_of_beq (List.all_eq_true.1 k9 p hp)
 rwa [fE ht.1,fE ht.2] at h2
theorem vS{t k:Nat}(h:(Nat.beq t 54&&Nat.beq k 1)=true):dK Tryz.prog t k=some 3:=by simp only[Bool.and_eq_true] at h;rw[fE h.1,fE h.2];kernel_rfl
theorem uI{t k:Nat}(h:(Nat.beq t 89&&Nat.beq k 2)=true):dK Tryz.prog t k=some 3:=by simp only[Bool.and_eq_true] at h;rw[fE h.1,fE h.2];kernel_rfl
theorem uL{t k:Nat}(h:(Nat.beq t 89&&Nat.beq k 3)=true):dK Tryz.prog t k=some 4:=by simp only[Bool.and_eq_true] at h;rw[fE h.1,fE h.2];kernel_rfl
theorem uF{t k:Nat}(h:(Nat.beq t 89&&Nat.beq k 4)=true):dK Tryz.prog t k=some 5:=by simp only[Bool.and_eq_true] at h;rw[fE h.1,fE h.2];kernel_rfl
theorem uC{t k:Nat}(h:(Nat.beq t 89&&Nat.beq k 7)=true):dK Tryz.prog t k=some 8:=by simp only[Bool.and_eq_true] at h;rw[fE h.1,fE h.2];kernel_rfl
theorem uH{t k:Nat}(h:(Nat.beq t 89&&Nat.beq k 8)=true):dK Tryz.prog t k=some 9:=by simp only[Bool.and_eq_true] at h;rw[fE h.1,fE h.2];kernel_rfl
theorem uG{t k:Nat}(h:(Nat.beq t 89&&Nat.beq k 9)=true):dK Tryz.prog t k=some 10:=by simp only[Bool.and_eq_true] at h;rw[fE h.1,fE h.2];kernel_rfl
theorem sQ{t k:Nat}(h:(Nat.beq t 89&&Nat.beq k 10)=true):dK Tryz.prog t k=some 11:=by simp only[Bool.and_eq_true] at h;rw[fE h.1,fE h.2];kernel_rfl
theorem tD{t k:Nat}(h:(Nat.beq t 89&&Nat.beq k 11)=true):dK Tryz.prog t k=some 12:=by simp only[Bool.and_eq_true] at h;rw[fE h.1,fE h.2];kernel_rfl
theorem tF{t k:Nat}(h:(Nat.beq t 89&&Nat.beq k 12)=true):dK Tryz.prog t k=some 13:=by simp only[Bool.and_eq_true] at h;rw[fE h.1,fE h.2];kernel_rfl
theorem C9{t k:Nat}(h:(Nat.beq t 132&&Nat.beq k 1)=true):dK Tryz.prog t k=some 4:=by simp only[Bool.and_eq_true] at h;rw[fE h.1,fE h.2];kernel_rfl
theorem C7{t k:Nat}(h:(Nat.beq t 132&&Nat.beq k 2)=true):dK Tryz.prog t k=some 5:=by simp only[Bool.and_eq_true] at h;rw[fE h.1,fE h.2];kernel_rfl
theorem Dh{t k:Nat}(h:(Nat.beq t 132&&Nat.beq k 3)=true):dK Tryz.prog t k=some 6:=by simp only[Bool.and_eq_true] at h;rw[fE h.1,fE h.2];kernel_rfl
theorem Dg{t k:Nat}(h:(Nat.beq t 141&&Nat.beq k 2)=true):dK Tryz.prog t k=some 15:=by simp only[Bool.and_eq_true] at h;rw[fE h.1,fE h.2];kernel_rfl
theorem Dk{t k:Nat}(h:(Nat.beq t 141&&Nat.beq k 3)=true):dK Tryz.prog t k=some 16:=by simp only[Bool.and_eq_true] at h;rw[fE h.1,fE h.2];kernel_rfl
theorem uA{t k:Nat}(h:(Nat.beq t 153&&Nat.beq k 2)=true):dK Tryz.prog t k=some 26:=by simp only[Bool.and_eq_true] at h;rw[fE h.1,fE h.2];kernel_rfl
theorem uE{t k:Nat}(h:(Nat.beq t 153&&Nat.beq k 3)=true):dK Tryz.prog t k=some 27:=by simp only[Bool.and_eq_true] at h;rw[fE h.1,fE h.2];kernel_rfl
theorem uK{t k:Nat}(h:(Nat.beq t 153&&Nat.beq k 4)=true):dK Tryz.prog t k=some 28:=by simp only[Bool.and_eq_true] at h;rw[fE h.1,fE h.2];kernel_rfl
theorem uO{t k:Nat}(h:(Nat.beq t 153&&Nat.beq k 5)=true):dK Tryz.prog t k=some 29:=by simp only[Bool.and_eq_true] at h;rw[fE h.1,fE h.2];kernel_rfl
theorem uB{t k:Nat}(h:(Nat.beq t 153&&Nat.beq k 6)=true):dK Tryz.prog t k=some 30:=by simp only[Bool.and_eq_true] at h;rw[fE h.1,fE h.2];kernel_rfl
theorem uQ{t k:Nat}(h:(Nat.beq t 153&&Nat.beq k 7)=true):dK Tryz.prog t k=some 31:=by simp only[Bool.and_eq_true] at h;rw[fE h.1,fE h.2];kernel_rfl
theorem uM{t k:Nat}(h:(Nat.beq t 153&&Nat.beq k 8)=true):dK Tryz.prog t k=some 32:=by simp only[Bool.and_eq_true] at h;rw[fE h.1,fE h.2];kernel_rfl
theorem uP{t k:Nat}(h:(Nat.beq t 153&&Nat.beq k 9)=true):dK Tryz.prog t k=some 33:=by simp only[Bool.and_eq_true] at h;rw[fE h.1,fE h.2];kernel_rfl
theorem sM{t k:Nat}(h:(Nat.beq t 153&&Nat.beq k 10)=true):dK Tryz.prog t k=some 34:=by simp only[Bool.and_eq_true] at h;rw[fE h.1,fE h.2];kernel_rfl
theorem sZ{t k:Nat}(h:(Nat.beq t 153&&Nat.beq k 11)=true):dK Tryz.prog t k=some 35:=by simp only[Bool.and_eq_true] at h;rw[fE h.1,fE h.2];kernel_rfl
theorem sP{t k:Nat}(h:(Nat.beq t 153&&Nat.beq k 12)=true):dK Tryz.prog t k=some 36:=by simp only[Bool.and_eq_true] at h;rw[fE h.1,fE h.2];kernel_rfl
theorem tH{t k:Nat}(h:(Nat.beq t 153&&Nat.beq k 13)=true):dK Tryz.prog t k=some 40:=by simp only[Bool.and_eq_true] at h;rw[fE h.1,fE h.2];kernel_rfl
theorem sR{t k:Nat}(h:(Nat.beq t 153&&Nat.beq k 14)=true):dK Tryz.prog t k=some 41:=by simp only[Bool.and_eq_true] at h;rw[fE h.1,fE h.2];kernel_rfl
def xz:List Nat:=[15,16,17,23,25,30,42,56,74,156,259]
theorem sq:(xz.all λ t=>I8 Tryz.prog t)=true:=by kernel_rfl
theorem Sc{t:Nat}(h:xz.elem t=true):I8 Tryz.prog t=true:=List.all_eq_true.1 sq t (List.mem_of_elem_eq_true h)
def fw:List (Nat×Nat):=[(22,3),(32,29),(33,74),(44,37),(45,164),(50,47),(85,230),(95,4),(102,9),(108,76),(115,39),(151,27),(169,31)]
def qe(t:Nat):Nat:=(fw.lookup t).getD 0
theorem xy:(fw.all λ p=>(match Tryz.prog.underlying p.1 with|some (.slice e)=>Nat.beq e p.2&&Nat.beq (qe p.1) p.2|_=>false))=true:=by kernel_rfl
theorem z6{t:Nat}(h:(fw.any λ p=>Nat.beq p.1 t)=true):Tryz.prog.underlying t=some (.slice (qe t)):=by
 obtain⟨p,hp,ht⟩:=List.any_eq_true.1 h
 have h2:=List.all_eq_true.1 xy p hp
 rw[<- fE ht]
 cases hu:Tryz.prog.underlying p.1 with
 | none=>rw[hu] at h2;simp at h2
 | some d =>
  rw[hu] at h2
  cases d<;>simp only[Bool.false_eq_true] at h2
  simp only[Bool.and_eq_true] at h2
  rw[fE h2.1,fE h2.2]
def xo:List (Nat×Nat):=[(3,1),(4,1),(9,1),(27,1),(29,2),(31,1),(37,1),(39,5),(47,14),(74,1),(76,2),(164,2),(230,2)]
theorem v8:(xo.all λ p=>(Tryz.prog.info? p.1).map (·.size)==some p.2)=true:=by kernel_rfl
theorem tV{e s:Nat}(h:(xo.any λ p=>Nat.beq p.1 e&&Nat.beq p.2 s)=true):(Tryz.prog.info? e).map (·.size)=some s:=by
 obtain⟨p,hp,ht⟩:=List.any_eq_true.1 h
 simp only[Bool.and_eq_true] at ht
 have h2:=List.all_eq_true.1 v8 p hp
 rw[<- fE ht.1,<- fE ht.2]
 exact eq_of_beq h2
theorem Tw{t:Nat}(h:Nat.beq t 4=true):Tryz.prog.underlying t=some .bool:=by
 rw[fE h];kernel_rfl
theorem ux{t:Nat}(h:Nat.beq t 9=true):Tryz.prog.underlying t=some .string:=by
 rw[fE h];kernel_rfl
theorem jv{t:Nat}(h:Nat.beq t 164=true):La Tryz.prog t=true:=by
 rw[fE h];kernel_rfl
def aAd:List (Nat×IntKind):=[(2,.i64),(3,.i64),(5,.u8),(12,.u64),(21,.i32),(27,.i64),(31,.u64),(37,.i64),(62,.i64),(209,.u64),(255,.u32)]
theorem te:(aAd.all λ p=>yJ Tryz.prog p.1 p.2)=true:=by kernel_rfl
theorem vR{t:Nat}{k:IntKind}(h:(aAd.any λ p=>Nat.beq p.1 t&&p.2==k)=true):yJ Tryz.prog t k=true:=by
 obtain⟨p,hp,ht⟩:=List.any_eq_true.1 h
 simp only[Bool.and_eq_true] at ht
 have h2:=List.all_eq_true.1 te p hp
 rw[fE ht.1,eq_of_beq ht.2] at h2
 exact h2
def ql(P:Program)(t e s:Nat):Bool :=
 (match P.underlying t with|some (.slice e')=>Nat.beq e' e|_=>false)&&(match P.info? e with
  | some i=>Nat.beq i.size s&&Nat.ble i.bytes 256
  | none=>false)
theorem mH{P:Program}{t e:Nat}{z:Value}{zc:List Value}(h:ql P t e zc.length=true)(hz:dH P e=some z)(hzc:z.cells=⟨zc⟩):eM P t e zc:=by
 unfold ql at h
 simp only[Bool.and_eq_true] at h
 refine⟨?_,?_⟩
 ·cases hu:P.underlying t with
  | none=>simp[hu] at h
  | some d =>
   rw[hu] at h
   cases d<;>simp only[Bool.false_eq_true,false_and] at h
   rw[fE h.1]
 ·cases hi:P.info? e with
  | none=>simp[hi] at h
  | some i =>
   rw[hi] at h
   simp only[Bool.and_eq_true] at h
   exact⟨i,z,rfl,by simpa[dH,hi] using hz,hzc,fE h.2.1,Nat.le_of_ble_eq_true h.2.2⟩
theorem Wf:dH Tryz.prog 3=some (.int .i64 0):=by kernel_rfl
theorem G4:eM Tryz.prog 22 3 [.int .i64 0]:=mH (by kernel_rfl) Wf rfl
theorem I1{t:Nat}(h:Nat.beq t 22=true):eM Tryz.prog t 3 [.int .i64 0]:=by rw[fE h];exact G4
theorem V0:dH Tryz.prog 37=some (.int .i64 0):=by kernel_rfl
theorem pF:eM Tryz.prog 44 37 [.int .i64 0]:=mH (by kernel_rfl) V0 rfl
theorem Iz{t:Nat}(h:Nat.beq t 44=true):eM Tryz.prog t 37 [.int .i64 0]:=by rw[fE h];exact pF
theorem P6:dH Tryz.prog 164=some (.agg ⟨[.string ⟨#[]⟩,.int .u64 0]⟩):=by kernel_rfl
theorem Xh:eM Tryz.prog 45 164 [.string ⟨#[]⟩,.int .u64 0]:=mH (by kernel_rfl) P6 rfl
theorem kE{t:Nat}(h:Nat.beq t 45=true):eM Tryz.prog t 164 [.string ⟨#[]⟩,.int .u64 0]:=by rw[fE h];exact Xh
def pz:List Value:=[.int .i64 0,.int .i64 0,.int .i64 0,.int .u64 0,.slice none 0 0,.int .u64 0,.string ⟨#[]⟩,.int .u64 0,.slice none 0 0,.int .i64 0,.int .i64 0,.int .i64 0,.int .i64 0,.int .i64 0]
theorem Rt:dH Tryz.prog 47=some (.agg ⟨[.int .i64 0,.int .i64 0,.int .i64 0,.int .u64 0,.slice none 0 0,.int .u64 0,.string ⟨#[]⟩,.int .u64 0,.slice none 0 0,.int .i64 0,.int .i64 0,.int .i64 0,.int .i64 0,.int .i64 0]⟩):=by kernel_rfl
theorem rV:eM Tryz.prog 50 47 pz:=mH (by kernel_rfl) Rt rfl
theorem El{t:Nat}(h:Nat.beq t 50=true):eM Tryz.prog t 47 pz:=by rw[fE h];exact rV
theorem Rn:dH Tryz.prog 4=some (.bool false):=by kernel_rfl
theorem V3:eM Tryz.prog 95 4 [.bool false]:=mH (by kernel_rfl) Rn rfl
theorem G0{t:Nat}(h:Nat.beq t 95=true):eM Tryz.prog t 4 [.bool false]:=by rw[fE h];exact V3
theorem W0:dH Tryz.prog 9=some (.string ⟨#[]⟩):=by kernel_rfl
theorem fl:eM Tryz.prog 102 9 [.string ⟨#[]⟩]:=mH (by kernel_rfl) W0 rfl
theorem Wb{t:Nat}(h:Nat.beq t 102=true):eM Tryz.prog t 9 [.string ⟨#[]⟩]:=by rw[fE h];exact fl
end Go.Proofs.YtbajmaoegmbfgaaGreat
