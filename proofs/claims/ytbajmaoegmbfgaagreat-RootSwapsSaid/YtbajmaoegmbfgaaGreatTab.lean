/- What the program's table says of the types that are used: closed facts. Written by a program. -/
import Derived.Test.YtbajmaoegmbfgaaGreatGLst3
import Derived.Test.YtbajmaoegmbfgaaGreatProg
set_option linter.unusedSimpArgs false
set_option linter.unusedVariables false
namespace Go.Proofs.YtbajmaoegmbfgaaGreat
open Go.RowKit Go.Ct
def aAR:List Nat:=[2,3,4,5,9,12,15,16,17,20,21,22,23,25,27,30,31,32,33,37,42,44,45,50,56,62,74,85,95,102,108,115,122,123,129,130,151,156,169,209,255,259]
theorem yd:(aAR.all λ t=>one Tryz.prog t)=true:=by kernel_rfl
theorem La{t:Nat}(h:aAR.elem t=true):one Tryz.prog t=true:=List.all_eq_true.1 yd t (List.mem_of_elem_eq_true h)
def z5:List (Nat×Nat):=[(29,2),(35,4),(39,5),(47,14),(52,3),(54,4),(64,8),(76,2),(87,3),(89,25),(114,2),(125,3),(128,4),(132,14),(139,4),(141,17),(153,52),(159,5),(164,2),(230,2)]
theorem ye:(z5.all λ p=>jA Tryz.prog p.1 p.2)=true:=by kernel_rfl
theorem Qt{t k:Nat}(h:(z5.any λ p=>Nat.beq p.1 t&&Nat.beq p.2 k)=true):jA Tryz.prog t k=true:=by
 obtain⟨p,hp,ht⟩:=List.any_eq_true.1 h
 simp only[Bool.and_eq_true] at ht
 have h2:=List.all_eq_true.1 ye p hp
 rwa [eL ht.1,eL ht.2] at h2
theorem yJ:cR Tryz.prog 29=some (.agg ⟨[.int .i64 0,.bool false]⟩):=by kernel_rfl
theorem E6{t:Nat}(h:Nat.beq t 29=true):cR Tryz.prog t=some (.agg ⟨[.int .i64 0,.bool false]⟩):=by rw[eL h];exact yJ
theorem Bu{t:Nat}(h:Nat.beq t 29=true):structOf Tryz.prog t [.int .i64 0,.bool false]:=by rw[eL h];exact gT (by kernel_rfl) yJ
theorem vY:cR Tryz.prog 35=some (.agg ⟨[.pointer none,.int .u64 0,.slice none 0 0,.slice none 0 0]⟩):=by kernel_rfl
theorem rK{t:Nat}(h:Nat.beq t 35=true):structOf Tryz.prog t [.pointer none,.int .u64 0,.slice none 0 0,.slice none 0 0]:=by rw[eL h];exact gT (by kernel_rfl) vY
theorem xZ:cR Tryz.prog 47=some (.agg ⟨[.int .i64 0,.int .i64 0,.int .i64 0,.int .u64 0,.slice none 0 0,.int .u64 0,.string ⟨#[]⟩,.int .u64 0,.slice none 0 0,.int .i64 0,.int .i64 0,.int .i64 0,.int .i64 0,.int .i64 0]⟩):=by kernel_rfl
theorem Gi{t:Nat}(h:Nat.beq t 47=true):cR Tryz.prog t=some (.agg ⟨[.int .i64 0,.int .i64 0,.int .i64 0,.int .u64 0,.slice none 0 0,.int .u64 0,.string ⟨#[]⟩,.int .u64 0,.slice none 0 0,.int .i64 0,.int .i64 0,.int .i64 0,.int .i64 0,.int .i64 0]⟩):=by rw[eL h];exact xZ
theorem Bk{t:Nat}(h:Nat.beq t 47=true):structOf Tryz.prog t [.int .i64 0,.int .i64 0,.int .i64 0,.int .u64 0,.slice none 0 0,.int .u64 0,.string ⟨#[]⟩,.int .u64 0,.slice none 0 0,.int .i64 0,.int .i64 0,.int .i64 0,.int .i64 0,.int .i64 0]:=by rw[eL h];exact gT (by kernel_rfl) xZ
theorem uZ:cR Tryz.prog 52=some (.agg ⟨[.slice none 0 0,.slice none 0 0,.int .i64 0]⟩):=by kernel_rfl
theorem Da{t:Nat}(h:Nat.beq t 52=true):cR Tryz.prog t=some (.agg ⟨[.slice none 0 0,.slice none 0 0,.int .i64 0]⟩):=by rw[eL h];exact uZ
theorem zV{t:Nat}(h:Nat.beq t 52=true):structOf Tryz.prog t [.slice none 0 0,.slice none 0 0,.int .i64 0]:=by rw[eL h];exact gT (by kernel_rfl) uZ
theorem xK:cR Tryz.prog 54=some (.agg ⟨[.slice none 0 0,.slice none 0 0,.int .i64 0,.int .i64 0]⟩):=by kernel_rfl
theorem tR{t:Nat}(h:Nat.beq t 54=true):placeOf Tryz.prog t [(0,3),(3,1)] [.slice none 0 0,.slice none 0 0,.int .i64 0,.int .i64 0]:=by rw[eL h];exact kT (by kernel_rfl) xK
theorem tP:cR Tryz.prog 64=some (.agg ⟨[.int .i64 0,.bool false,.int .u64 0,.string ⟨#[]⟩,.int .i64 0,.int .i64 0,.int .i64 0,.bool false]⟩):=by kernel_rfl
theorem Bf{t:Nat}(h:Nat.beq t 64=true):cR Tryz.prog t=some (.agg ⟨[.int .i64 0,.bool false,.int .u64 0,.string ⟨#[]⟩,.int .i64 0,.int .i64 0,.int .i64 0,.bool false]⟩):=by rw[eL h];exact tP
theorem Ao{t:Nat}(h:Nat.beq t 64=true):placeOf Tryz.prog t [(0,1),(1,1),(2,1),(3,1),(4,1),(5,1),(6,2)] [.int .i64 0,.bool false,.int .u64 0,.string ⟨#[]⟩,.int .i64 0,.int .i64 0,.int .i64 0,.bool false]:=by rw[eL h];exact kT (by kernel_rfl) tP
theorem nX:cR Tryz.prog 76=some (.agg ⟨[.pointer none,.pointer none]⟩):=by kernel_rfl
theorem vJ{t:Nat}(h:Nat.beq t 76=true):cR Tryz.prog t=some (.agg ⟨[.pointer none,.pointer none]⟩):=by rw[eL h];exact nX
theorem rY{t:Nat}(h:Nat.beq t 76=true):structOf Tryz.prog t [.pointer none,.pointer none]:=by rw[eL h];exact gT (by kernel_rfl) nX
theorem nB:cR Tryz.prog 89=some (.agg ⟨[.int .i64 0,.int .i64 0,.bool false,.int .i64 0,.int .i64 0,.int .i64 0,.int .i64 0,.int .u64 0,.int .u64 0,.string ⟨#[]⟩,.int .u64 0,.int .u64 0,.int .i64 0,.bool false,.bool false,.slice none 0 0,.slice none 0 0,.int .i64 0,.bool false,.int .u64 0,.string ⟨#[]⟩,.int .i64 0,.int .i64 0,.int .i64 0,.bool false]⟩):=by kernel_rfl
theorem tU{t:Nat}(h:Nat.beq t 89=true):cR Tryz.prog t=some (.agg ⟨[.int .i64 0,.int .i64 0,.bool false,.int .i64 0,.int .i64 0,.int .i64 0,.int .i64 0,.int .u64 0,.int .u64 0,.string ⟨#[]⟩,.int .u64 0,.int .u64 0,.int .i64 0,.bool false,.bool false,.slice none 0 0,.slice none 0 0,.int .i64 0,.bool false,.int .u64 0,.string ⟨#[]⟩,.int .i64 0,.int .i64 0,.int .i64 0,.bool false]⟩):=by rw[eL h];exact nB
theorem rW{t:Nat}(h:Nat.beq t 89=true):placeOf Tryz.prog t [(0,1),(1,2),(3,1),(4,1),(5,1),(6,1),(7,1),(8,1),(9,1),(10,1),(11,1),(12,1),(13,1),(14,3),(17,8)] [.int .i64 0,.int .i64 0,.bool false,.int .i64 0,.int .i64 0,.int .i64 0,.int .i64 0,.int .u64 0,.int .u64 0,.string ⟨#[]⟩,.int .u64 0,.int .u64 0,.int .i64 0,.bool false,.bool false,.slice none 0 0,.slice none 0 0,.int .i64 0,.bool false,.int .u64 0,.string ⟨#[]⟩,.int .i64 0,.int .i64 0,.int .i64 0,.bool false]:=by rw[eL h];exact kT (by kernel_rfl) nB
theorem xQ:cR Tryz.prog 114=some (.agg ⟨[.slice none 0 0,.int .i64 0]⟩):=by kernel_rfl
theorem sL{t:Nat}(h:Nat.beq t 114=true):structOf Tryz.prog t [.slice none 0 0,.int .i64 0]:=by rw[eL h];exact gT (by kernel_rfl) xQ
theorem zW:cR Tryz.prog 125=some (.agg ⟨[.nilIface,.int .i64 0,.bool false]⟩):=by kernel_rfl
theorem H2{t:Nat}(h:Nat.beq t 125=true):cR Tryz.prog t=some (.agg ⟨[.nilIface,.int .i64 0,.bool false]⟩):=by rw[eL h];exact zW
theorem Gw{t:Nat}(h:Nat.beq t 125=true):placeOf Tryz.prog t [(0,1),(1,2)] [.nilIface,.int .i64 0,.bool false]:=by rw[eL h];exact kT (by kernel_rfl) zW
theorem tK:cR Tryz.prog 128=some (.agg ⟨[.int .i64 0,.int .i64 0,.int .i64 0,.int .i64 0]⟩):=by kernel_rfl
theorem Bj{t:Nat}(h:Nat.beq t 128=true):cR Tryz.prog t=some (.agg ⟨[.int .i64 0,.int .i64 0,.int .i64 0,.int .i64 0]⟩):=by rw[eL h];exact tK
theorem yZ{t:Nat}(h:Nat.beq t 128=true):structOf Tryz.prog t [.int .i64 0,.int .i64 0,.int .i64 0,.int .i64 0]:=by rw[eL h];exact gT (by kernel_rfl) tK
theorem vW:cR Tryz.prog 132=some (.agg ⟨[.int .i64 0,.int .i64 0,.int .i64 0,.int .i64 0,.nilFunc,.nilFunc,.int .i64 0,.bool false,.int .u64 0,.string ⟨#[]⟩,.int .i64 0,.int .i64 0,.int .i64 0,.bool false]⟩):=by kernel_rfl
theorem De{t:Nat}(h:Nat.beq t 132=true):cR Tryz.prog t=some (.agg ⟨[.int .i64 0,.int .i64 0,.int .i64 0,.int .i64 0,.nilFunc,.nilFunc,.int .i64 0,.bool false,.int .u64 0,.string ⟨#[]⟩,.int .i64 0,.int .i64 0,.int .i64 0,.bool false]⟩):=by rw[eL h];exact vW
theorem Bt{t:Nat}(h:Nat.beq t 132=true):placeOf Tryz.prog t [(0,4),(4,1),(5,1),(6,8)] [.int .i64 0,.int .i64 0,.int .i64 0,.int .i64 0,.nilFunc,.nilFunc,.int .i64 0,.bool false,.int .u64 0,.string ⟨#[]⟩,.int .i64 0,.int .i64 0,.int .i64 0,.bool false]:=by rw[eL h];exact kT (by kernel_rfl) vW
theorem Bv:cR Tryz.prog 139=some (.agg ⟨[.slice none 0 0,.slice none 0 0,.int .i64 0,.int .i64 0]⟩):=by kernel_rfl
theorem xR{t:Nat}(h:Nat.beq t 139=true):structOf Tryz.prog t [.slice none 0 0,.slice none 0 0,.int .i64 0,.int .i64 0]:=by rw[eL h];exact gT (by kernel_rfl) Bv
theorem Ep:cR Tryz.prog 141=some (.agg ⟨[.nilIface,.int .i64 0,.int .i64 0,.int .i64 0,.int .i64 0,.nilFunc,.nilFunc,.int .i64 0,.bool false,.int .u64 0,.string ⟨#[]⟩,.int .i64 0,.int .i64 0,.int .i64 0,.bool false,.int .i64 0,.bool false]⟩):=by kernel_rfl
theorem Bx{t:Nat}(h:Nat.beq t 141=true):placeOf Tryz.prog t [(0,1),(1,14),(15,1),(16,1)] [.nilIface,.int .i64 0,.int .i64 0,.int .i64 0,.int .i64 0,.nilFunc,.nilFunc,.int .i64 0,.bool false,.int .u64 0,.string ⟨#[]⟩,.int .i64 0,.int .i64 0,.int .i64 0,.bool false,.int .i64 0,.bool false]:=by rw[eL h];exact kT (by kernel_rfl) Ep
theorem vQ:cR Tryz.prog 153=some (.agg ⟨[.pointer none,.int .i64 0,.int .i64 0,.bool false,.int .i64 0,.int .i64 0,.int .i64 0,.int .i64 0,.int .u64 0,.int .u64 0,.string ⟨#[]⟩,.int .u64 0,.int .u64 0,.int .i64 0,.bool false,.bool false,.slice none 0 0,.slice none 0 0,.int .i64 0,.bool false,.int .u64 0,.string ⟨#[]⟩,.int .i64 0,.int .i64 0,.int .i64 0,.bool false,.slice none 0 0,.slice none 0 0,.slice none 0 0,.slice none 0 0,.int .i64 0,.int .i64 0,.int .i64 0,.int .i64 0,.int .i64 0,.bool false,.int .i64 0,.int .i64 0,.int .i64 0,.int .i64 0,.bool false,.int .i64 0,.bool false,.int .u64 0,.string ⟨#[]⟩,.int .i64 0,.int .i64 0,.int .i64 0,.bool false,.bool false,.slice none 0 0,.slice none 0 0]⟩):=by kernel_rfl
theorem sJ{t:Nat}(h:Nat.beq t 153=true):placeOf Tryz.prog t [(0,1),(1,25),(26,1),(27,1),(28,1),(29,1),(30,1),(31,1),(32,1),(33,1),(34,1),(35,1),(36,4),(40,1),(41,8),(49,3)] [.pointer none,.int .i64 0,.int .i64 0,.bool false,.int .i64 0,.int .i64 0,.int .i64 0,.int .i64 0,.int .u64 0,.int .u64 0,.string ⟨#[]⟩,.int .u64 0,.int .u64 0,.int .i64 0,.bool false,.bool false,.slice none 0 0,.slice none 0 0,.int .i64 0,.bool false,.int .u64 0,.string ⟨#[]⟩,.int .i64 0,.int .i64 0,.int .i64 0,.bool false,.slice none 0 0,.slice none 0 0,.slice none 0 0,.slice none 0 0,.int .i64 0,.int .i64 0,.int .i64 0,.int .i64 0,.int .i64 0,.bool false,.int .i64 0,.int .i64 0,.int .i64 0,.int .i64 0,.bool false,.int .i64 0,.bool false,.int .u64 0,.string ⟨#[]⟩,.int .i64 0,.int .i64 0,.int .i64 0,.bool false,.bool false,.slice none 0 0,.slice none 0 0]:=by rw[eL h];exact kT (by kernel_rfl) vQ
theorem yL:cR Tryz.prog 164=some (.agg ⟨[.string ⟨#[]⟩,.int .u64 0]⟩):=by kernel_rfl
theorem En{t:Nat}(h:Nat.beq t 164=true):cR Tryz.prog t=some (.agg ⟨[.string ⟨#[]⟩,.int .u64 0]⟩):=by rw[eL h];exact yL
theorem A2{t:Nat}(h:Nat.beq t 164=true):structOf Tryz.prog t [.string ⟨#[]⟩,.int .u64 0]:=by rw[eL h];exact gT (by kernel_rfl) yL
def zr:List (Nat×Nat):=[(29,0),(29,1),(35,0),(35,1),(35,2),(35,3),(39,0),(39,1),(39,2),(39,3),(39,4),(47,0),(47,1),(47,2),(47,3),(47,4),(47,5),(47,6),(47,7),(47,8),(47,9),(47,10),(47,11),(47,12),(47,13),(52,0),(52,1),(52,2),(54,0),(64,0),(64,1),(64,2),(64,3),(64,4),(64,5),(64,6),(76,0),(76,1),(87,0),(87,1),(87,2),(89,0),(89,1),(114,0),(114,1),(125,0),(125,1),(128,0),(128,1),(128,2),(128,3),(132,0),(139,0),(139,1),(139,2),(139,3),(141,0),(141,1),(153,0),(153,1),(159,0),(164,0),(164,1),(230,0),(230,1)]
theorem va:(zr.all λ p=>cS Tryz.prog p.1 p.2==some p.2)=true:=by kernel_rfl
theorem ve{t k:Nat}(h:(zr.any λ p=>Nat.beq p.1 t&&Nat.beq p.2 k)=true):cS Tryz.prog t k=some k:=by
 obtain⟨p,hp,ht⟩:=List.any_eq_true.1 h
 simp only[Bool.and_eq_true] at ht
 have h2:=eq_of_beq (List.all_eq_true.1 va p hp)
 rwa [eL ht.1,eL ht.2] at h2
def s9:List (Nat×Nat):=[(29,0),(29,1),(35,0),(35,1),(35,2),(35,3),(39,0),(39,1),(39,2),(39,3),(39,4),(47,0),(47,1),(47,2),(47,3),(47,4),(47,5),(47,6),(47,7),(47,8),(47,9),(47,10),(47,11),(47,12),(47,13),(52,0),(52,1),(52,2),(64,0),(64,1),(64,2),(64,3),(64,4),(64,5),(76,0),(76,1),(87,0),(87,1),(87,2),(89,0),(114,0),(114,1),(125,0),(128,0),(128,1),(128,2),(128,3),(139,0),(139,1),(139,2),(139,3),(141,0),(153,0),(164,0),(164,1),(230,0),(230,1)]
theorem mb:(s9.all λ p=>zL Tryz.prog p.1 p.2==some p.2)=true:=by kernel_rfl
theorem U1{t k:Nat}(h:(s9.any λ p=>Nat.beq p.1 t&&Nat.beq p.2 k)=true):zL Tryz.prog t k=some k:=by
 obtain⟨p,hp,ht⟩:=List.any_eq_true.1 h
 simp only[Bool.and_eq_true] at ht
 have h2:=eq_of_beq (List.all_eq_true.1 mb p hp)
 rwa [eL ht.1,eL ht.2] at h2
theorem vR{t k:Nat}(h:(Nat.beq t 54&&Nat.beq k 1)=true):cS Tryz.prog t k=some 3:=by simp only[Bool.and_eq_true] at h;rw[eL h.1,eL h.2];kernel_rfl
theorem uH{t k:Nat}(h:(Nat.beq t 89&&Nat.beq k 2)=true):cS Tryz.prog t k=some 3:=by simp only[Bool.and_eq_true] at h;rw[eL h.1,eL h.2];kernel_rfl
theorem uA{t k:Nat}(h:(Nat.beq t 89&&Nat.beq k 3)=true):cS Tryz.prog t k=some 4:=by simp only[Bool.and_eq_true] at h;rw[eL h.1,eL h.2];kernel_rfl
theorem uD{t k:Nat}(h:(Nat.beq t 89&&Nat.beq k 4)=true):cS Tryz.prog t k=some 5:=by simp only[Bool.and_eq_true] at h;rw[eL h.1,eL h.2];kernel_rfl
theorem uC{t k:Nat}(h:(Nat.beq t 89&&Nat.beq k 7)=true):cS Tryz.prog t k=some 8:=by simp only[Bool.and_eq_true] at h;rw[eL h.1,eL h.2];kernel_rfl
theorem uF{t k:Nat}(h:(Nat.beq t 89&&Nat.beq k 8)=true):cS Tryz.prog t k=some 9:=by simp only[Bool.and_eq_true] at h;rw[eL h.1,eL h.2];kernel_rfl
theorem uB{t k:Nat}(h:(Nat.beq t 89&&Nat.beq k 9)=true):cS Tryz.prog t k=some 10:=by simp only[Bool.and_eq_true] at h;rw[eL h.1,eL h.2];kernel_rfl
theorem sE{t k:Nat}(h:(Nat.beq t 89&&Nat.beq k 10)=true):cS Tryz.prog t k=some 11:=by simp only[Bool.and_eq_true] at h;rw[eL h.1,eL h.2];kernel_rfl
theorem sM{t k:Nat}(h:(Nat.beq t 89&&Nat.beq k 11)=true):cS Tryz.prog t k=some 12:=by simp only[Bool.and_eq_true] at h;rw[eL h.1,eL h.2];kernel_rfl
theorem sR{t k:Nat}(h:(Nat.beq t 89&&Nat.beq k 12)=true):cS Tryz.prog t k=some 13:=by simp only[Bool.and_eq_true] at h;rw[eL h.1,eL h.2];kernel_rfl
theorem Dj{t k:Nat}(h:(Nat.beq t 132&&Nat.beq k 1)=true):cS Tryz.prog t k=some 4:=by simp only[Bool.and_eq_true] at h;rw[eL h.1,eL h.2];kernel_rfl
theorem Df{t k:Nat}(h:(Nat.beq t 132&&Nat.beq k 2)=true):cS Tryz.prog t k=some 5:=by simp only[Bool.and_eq_true] at h;rw[eL h.1,eL h.2];kernel_rfl
theorem Db{t k:Nat}(h:(Nat.beq t 132&&Nat.beq k 3)=true):cS Tryz.prog t k=some 6:=by simp only[Bool.and_eq_true] at h;rw[eL h.1,eL h.2];kernel_rfl
theorem Dg{t k:Nat}(h:(Nat.beq t 141&&Nat.beq k 2)=true):cS Tryz.prog t k=some 15:=by simp only[Bool.and_eq_true] at h;rw[eL h.1,eL h.2];kernel_rfl
theorem Dc{t k:Nat}(h:(Nat.beq t 141&&Nat.beq k 3)=true):cS Tryz.prog t k=some 16:=by simp only[Bool.and_eq_true] at h;rw[eL h.1,eL h.2];kernel_rfl
theorem tS{t k:Nat}(h:(Nat.beq t 153&&Nat.beq k 2)=true):cS Tryz.prog t k=some 26:=by simp only[Bool.and_eq_true] at h;rw[eL h.1,eL h.2];kernel_rfl
theorem tW{t k:Nat}(h:(Nat.beq t 153&&Nat.beq k 3)=true):cS Tryz.prog t k=some 27:=by simp only[Bool.and_eq_true] at h;rw[eL h.1,eL h.2];kernel_rfl
theorem uG{t k:Nat}(h:(Nat.beq t 153&&Nat.beq k 4)=true):cS Tryz.prog t k=some 28:=by simp only[Bool.and_eq_true] at h;rw[eL h.1,eL h.2];kernel_rfl
theorem tT{t k:Nat}(h:(Nat.beq t 153&&Nat.beq k 5)=true):cS Tryz.prog t k=some 29:=by simp only[Bool.and_eq_true] at h;rw[eL h.1,eL h.2];kernel_rfl
theorem tX{t k:Nat}(h:(Nat.beq t 153&&Nat.beq k 6)=true):cS Tryz.prog t k=some 30:=by simp only[Bool.and_eq_true] at h;rw[eL h.1,eL h.2];kernel_rfl
theorem tZ{t k:Nat}(h:(Nat.beq t 153&&Nat.beq k 7)=true):cS Tryz.prog t k=some 31:=by simp only[Bool.and_eq_true] at h;rw[eL h.1,eL h.2];kernel_rfl
theorem tV{t k:Nat}(h:(Nat.beq t 153&&Nat.beq k 8)=true):cS Tryz.prog t k=some 32:=by simp only[Bool.and_eq_true] at h;rw[eL h.1,eL h.2];kernel_rfl
theorem tY{t k:Nat}(h:(Nat.beq t 153&&Nat.beq k 9)=true):cS Tryz.prog t k=some 33:=by simp only[Bool.and_eq_true] at h;rw[eL h.1,eL h.2];kernel_rfl
theorem rZ{t k:Nat}(h:(Nat.beq t 153&&Nat.beq k 10)=true):cS Tryz.prog t k=some 34:=by simp only[Bool.and_eq_true] at h;rw[eL h.1,eL h.2];kernel_rfl
theorem tJ{t k:Nat}(h:(Nat.beq t 153&&Nat.beq k 11)=true):cS Tryz.prog t k=some 35:=by simp only[Bool.and_eq_true] at h;rw[eL h.1,eL h.2];kernel_rfl
theorem sD{t k:Nat}(h:(Nat.beq t 153&&Nat.beq k 12)=true):cS Tryz.prog t k=some 36:=by simp only[Bool.and_eq_true] at h;rw[eL h.1,eL h.2];kernel_rfl
theorem tH{t k:Nat}(h:(Nat.beq t 153&&Nat.beq k 13)=true):cS Tryz.prog t k=some 40:=by simp only[Bool.and_eq_true] at h;rw[eL h.1,eL h.2];kernel_rfl
theorem sI{t k:Nat}(h:(Nat.beq t 153&&Nat.beq k 14)=true):cS Tryz.prog t k=some 41:=by simp only[Bool.and_eq_true] at h;rw[eL h.1,eL h.2];kernel_rfl
def aAr:List Nat:=[15,16,17,23,25,30,42,56,74,156,259]
theorem uc:(aAr.all λ t=>Im Tryz.prog t)=true:=by kernel_rfl
theorem Rk{t:Nat}(h:aAr.elem t=true):Im Tryz.prog t=true:=List.all_eq_true.1 uc t (List.mem_of_elem_eq_true h)
def ay:List (Nat×Nat):=[(22,3),(32,29),(33,74),(44,37),(45,164),(50,47),(85,230),(95,4),(102,9),(108,76),(115,39),(151,27),(169,31)]
def q7(t:Nat):Nat:=(ay.lookup t).getD 0
theorem aAT:(ay.all λ p=>(match Tryz.prog.underlying p.1 with|some (.slice e)=>Nat.beq e p.2&&Nat.beq (q7 p.1) p.2|_=>false))=true:=by kernel_rfl
theorem aAM{t:Nat}(h:(ay.any λ p=>Nat.beq p.1 t)=true):Tryz.prog.underlying t=some (.slice (q7 t)):=by
 obtain⟨p,hp,ht⟩:=List.any_eq_true.1 h
 have h2:=List.all_eq_true.1 aAT p hp
 rw[<- eL ht]
 cases hu:Tryz.prog.underlying p.1 with
 | none=>rw[hu] at h2;simp at h2
 | some d =>
  rw[hu] at h2
  cases d<;>simp only[Bool.false_eq_true] at h2
  simp only[Bool.and_eq_true] at h2
  rw[eL h2.1,eL h2.2]
def yz:List (Nat×Nat):=[(3,1),(4,1),(9,1),(27,1),(29,2),(31,1),(37,1),(39,5),(47,14),(74,1),(76,2),(164,2),(230,2)]
theorem w4:(yz.all λ p=>(Tryz.prog.info? p.1).map (·.size)==some p.2)=true:=by kernel_rfl
theorem tL{e s:Nat}(h:(yz.any λ p=>Nat.beq p.1 e&&Nat.beq p.2 s)=true):(Tryz.prog.info? e).map (·.size)=some s:=by
 obtain⟨p,hp,ht⟩:=List.any_eq_true.1 h
 simp only[Bool.and_eq_true] at ht
 have h2:=List.all_eq_true.1 w4 p hp
 rw[<- eL ht.1,<- eL ht.2]
 exact eq_of_beq h2
theorem Tb{t:Nat}(h:Nat.beq t 4=true):Tryz.prog.underlying t=some .bool:=by
 rw[eL h];kernel_rfl
theorem wj{t:Nat}(h:Nat.beq t 9=true):Tryz.prog.underlying t=some .string:=by
 rw[eL h];kernel_rfl
theorem qo{t:Nat}(h:Nat.beq t 164=true):Kk Tryz.prog t=true:=by
 rw[eL h];kernel_rfl
def zl:List (Nat×IntKind):=[(2,.i64),(3,.i64),(5,.u8),(12,.u64),(21,.i32),(27,.i64),(31,.u64),(37,.i64),(62,.i64),(209,.u64),(255,.u32)]
theorem uj:(zl.all λ p=>xV Tryz.prog p.1 p.2)=true:=by kernel_rfl
theorem vX{t:Nat}{k:IntKind}(h:(zl.any λ p=>Nat.beq p.1 t&&p.2==k)=true):xV Tryz.prog t k=true:=by
 obtain⟨p,hp,ht⟩:=List.any_eq_true.1 h
 simp only[Bool.and_eq_true] at ht
 have h2:=List.all_eq_true.1 uj p hp
 rw[eL ht.1,eq_of_beq ht.2] at h2
 exact h2
def tc(P:Program)(t e s:Nat):Bool :=
 (match P.underlying t with|some (.slice e')=>Nat.beq e' e|_=>false)&&(match P.info? e with
  | some i=>Nat.beq i.size s&&Nat.ble i.bytes 256
  | none=>false)
theorem lI{P:Program}{t e:Nat}{z:Value}{zc:List Value}(h:tc P t e zc.length=true)(hz:cR P e=some z)(hzc:z.cells=⟨zc⟩):dI P t e zc:=by
 unfold tc at h
 simp only[Bool.and_eq_true] at h
 refine⟨?_,?_⟩
 ·cases hu:P.underlying t with
  | none=>simp[hu] at h
  | some d =>
   rw[hu] at h
   cases d<;>simp only[Bool.false_eq_true,false_and] at h
   rw[eL h.1]
 ·cases hi:P.info? e with
  | none=>simp[hi] at h
  | some i =>
   rw[hi] at h
   simp only[Bool.and_eq_true] at h
   exact⟨i,z,rfl,by simpa[cR,hi] using hz,hzc,eL h.2.1,Nat.le_of_ble_eq_true h.2.2⟩
theorem Ws:cR Tryz.prog 3=some (.int .i64 0):=by kernel_rfl
theorem Hh:dI Tryz.prog 22 3 [.int .i64 0]:=lI (by kernel_rfl) Ws rfl
theorem Jp{t:Nat}(h:Nat.beq t 22=true):dI Tryz.prog t 3 [.int .i64 0]:=by rw[eL h];exact Hh
theorem Wc:cR Tryz.prog 37=some (.int .i64 0):=by kernel_rfl
theorem oQ:dI Tryz.prog 44 37 [.int .i64 0]:=lI (by kernel_rfl) Wc rfl
theorem I5{t:Nat}(h:Nat.beq t 44=true):dI Tryz.prog t 37 [.int .i64 0]:=by rw[eL h];exact oQ
theorem Qn:cR Tryz.prog 164=some (.agg ⟨[.string ⟨#[]⟩,.int .u64 0]⟩):=by kernel_rfl
theorem Xh:dI Tryz.prog 45 164 [.string ⟨#[]⟩,.int .u64 0]:=lI (by kernel_rfl) Qn rfl
theorem pI{t:Nat}(h:Nat.beq t 45=true):dI Tryz.prog t 164 [.string ⟨#[]⟩,.int .u64 0]:=by rw[eL h];exact Xh
def sw:List Value:=[.int .i64 0,.int .i64 0,.int .i64 0,.int .u64 0,.slice none 0 0,.int .u64 0,.string ⟨#[]⟩,.int .u64 0,.slice none 0 0,.int .i64 0,.int .i64 0,.int .i64 0,.int .i64 0,.int .i64 0]
theorem Si:cR Tryz.prog 47=some (.agg ⟨[.int .i64 0,.int .i64 0,.int .i64 0,.int .u64 0,.slice none 0 0,.int .u64 0,.string ⟨#[]⟩,.int .u64 0,.slice none 0 0,.int .i64 0,.int .i64 0,.int .i64 0,.int .i64 0,.int .i64 0]⟩):=by kernel_rfl
theorem rT:dI Tryz.prog 50 47 sw:=lI (by kernel_rfl) Si rfl
theorem Eh{t:Nat}(h:Nat.beq t 50=true):dI Tryz.prog t 47 sw:=by rw[eL h];exact rT
theorem Sv:cR Tryz.prog 4=some (.bool false):=by kernel_rfl
theorem Xj:dI Tryz.prog 95 4 [.bool false]:=lI (by kernel_rfl) Sv rfl
theorem Fg{t:Nat}(h:Nat.beq t 95=true):dI Tryz.prog t 4 [.bool false]:=by rw[eL h];exact Xj
theorem V5:cR Tryz.prog 9=some (.string ⟨#[]⟩):=by kernel_rfl
theorem ix:dI Tryz.prog 102 9 [.string ⟨#[]⟩]:=lI (by kernel_rfl) V5 rfl
theorem W5{t:Nat}(h:Nat.beq t 102=true):dI Tryz.prog t 9 [.string ⟨#[]⟩]:=by rw[eL h];exact ix
end Go.Proofs.YtbajmaoegmbfgaaGreat
