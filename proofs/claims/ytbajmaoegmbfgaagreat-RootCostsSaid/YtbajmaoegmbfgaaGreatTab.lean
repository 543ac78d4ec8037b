/- What the program's table says of the types that are used: closed facts. Written by a program. -/
import Derived.Test.YtbajmaoegmbfgaaGreatGLst3
import Derived.Test.YtbajmaoegmbfgaaGreatProg
set_option linter.unusedSimpArgs false
set_option linter.unusedVariables false
namespace Go.Proofs.YtbajmaoegmbfgaaGreat
open Go.RowKit Go.Ct
def aBk:List Nat:=[2,3,4,5,9,12,15,16,17,20,21,22,23,25,27,30,31,32,33,37,42,44,45,50,56,62,74,85,95,102,108,115,122,123,129,130,151,156,169,209,255,259]
theorem zh:(aBk.all λ t=>one Tryz.prog t)=true:=by kernel_rfl
theorem Hl{t:Nat}(h:aBk.elem t=true):one Tryz.prog t=true:=List.all_eq_true.1 zh t (List.mem_of_elem_eq_true h)
def aBu:List (Nat×Nat):=[(29,2),(35,4),(39,5),(47,14),(52,3),(54,4),(64,8),(76,2),(87,3),(89,25),(114,2),(125,3),(128,4),(132,14),(139,4),(141,17),(153,52),(159,5),(164,2),(230,2)]
theorem aAe:(aBu.all λ p=>kH Tryz.prog p.1 p.2)=true:=by kernel_rfl
theorem Uk{t k:Nat}(h:(aBu.any λ p=>Nat.beq p.1 t&&Nat.beq p.2 k)=true):kH Tryz.prog t k=true:=by
 obtain⟨p,hp,ht⟩:=List.any_eq_true.1 h
 simp only[Bool.and_eq_true] at ht
 have h2:=List.all_eq_true.1 aAe p hp
 rwa [eV ht.1,eV ht.2] at h2
theorem yZ:cX Tryz.prog 29=some (.agg ⟨[.int .i64 0,.bool false]⟩):=by kernel_rfl
theorem Gb{t:Nat}(h:Nat.beq t 29=true):cX Tryz.prog t=some (.agg ⟨[.int .i64 0,.bool false]⟩):=by rw[eV h];exact yZ
theorem Cp{t:Nat}(h:Nat.beq t 29=true):structOf Tryz.prog t [.int .i64 0,.bool false]:=by rw[eV h];exact gL (by kernel_rfl) yZ
theorem wJ:cX Tryz.prog 35=some (.agg ⟨[.pointer none,.int .u64 0,.slice none 0 0,.slice none 0 0]⟩):=by kernel_rfl
theorem sD{t:Nat}(h:Nat.beq t 35=true):structOf Tryz.prog t [.pointer none,.int .u64 0,.slice none 0 0,.slice none 0 0]:=by rw[eV h];exact gL (by kernel_rfl) wJ
theorem vB:cX Tryz.prog 39=some (.agg ⟨[.int .i64 0,.int .i64 0,.int .i64 0,.int .i64 0,.slice none 0 0]⟩):=by kernel_rfl
theorem rQ{t:Nat}(h:Nat.beq t 39=true):structOf Tryz.prog t [.int .i64 0,.int .i64 0,.int .i64 0,.int .i64 0,.slice none 0 0]:=by rw[eV h];exact gL (by kernel_rfl) vB
theorem yS:cX Tryz.prog 47=some (.agg ⟨[.int .i64 0,.int .i64 0,.int .i64 0,.int .u64 0,.slice none 0 0,.int .u64 0,.string ⟨#[]⟩,.int .u64 0,.slice none 0 0,.int .i64 0,.int .i64 0,.int .i64 0,.int .i64 0,.int .i64 0]⟩):=by kernel_rfl
theorem Gk{t:Nat}(h:Nat.beq t 47=true):cX Tryz.prog t=some (.agg ⟨[.int .i64 0,.int .i64 0,.int .i64 0,.int .u64 0,.slice none 0 0,.int .u64 0,.string ⟨#[]⟩,.int .u64 0,.slice none 0 0,.int .i64 0,.int .i64 0,.int .i64 0,.int .i64 0,.int .i64 0]⟩):=by rw[eV h];exact yS
theorem Cg{t:Nat}(h:Nat.beq t 47=true):structOf Tryz.prog t [.int .i64 0,.int .i64 0,.int .i64 0,.int .u64 0,.slice none 0 0,.int .u64 0,.string ⟨#[]⟩,.int .u64 0,.slice none 0 0,.int .i64 0,.int .i64 0,.int .i64 0,.int .i64 0,.int .i64 0]:=by rw[eV h];exact gL (by kernel_rfl) yS
theorem vY:cX Tryz.prog 52=some (.agg ⟨[.slice none 0 0,.slice none 0 0,.int .i64 0]⟩):=by kernel_rfl
theorem Ec{t:Nat}(h:Nat.beq t 52=true):cX Tryz.prog t=some (.agg ⟨[.slice none 0 0,.slice none 0 0,.int .i64 0]⟩):=by rw[eV h];exact vY
theorem Bi{t:Nat}(h:Nat.beq t 52=true):structOf Tryz.prog t [.slice none 0 0,.slice none 0 0,.int .i64 0]:=by rw[eV h];exact gL (by kernel_rfl) vY
theorem yL:cX Tryz.prog 54=some (.agg ⟨[.slice none 0 0,.slice none 0 0,.int .i64 0,.int .i64 0]⟩):=by kernel_rfl
theorem vG{t:Nat}(h:Nat.beq t 54=true):placeOf Tryz.prog t [(0,3),(3,1)] [.slice none 0 0,.slice none 0 0,.int .i64 0,.int .i64 0]:=by rw[eV h];exact lH (by kernel_rfl) yL
theorem uN:cX Tryz.prog 64=some (.agg ⟨[.int .i64 0,.bool false,.int .u64 0,.string ⟨#[]⟩,.int .i64 0,.int .i64 0,.int .i64 0,.bool false]⟩):=by kernel_rfl
theorem Cy{t:Nat}(h:Nat.beq t 64=true):cX Tryz.prog t=some (.agg ⟨[.int .i64 0,.bool false,.int .u64 0,.string ⟨#[]⟩,.int .i64 0,.int .i64 0,.int .i64 0,.bool false]⟩):=by rw[eV h];exact uN
theorem Bl{t:Nat}(h:Nat.beq t 64=true):placeOf Tryz.prog t [(0,1),(1,1),(2,1),(3,1),(4,1),(5,1),(6,2)] [.int .i64 0,.bool false,.int .u64 0,.string ⟨#[]⟩,.int .i64 0,.int .i64 0,.int .i64 0,.bool false]:=by rw[eV h];exact lH (by kernel_rfl) uN
theorem pD:cX Tryz.prog 76=some (.agg ⟨[.pointer none,.pointer none]⟩):=by kernel_rfl
theorem wM{t:Nat}(h:Nat.beq t 76=true):cX Tryz.prog t=some (.agg ⟨[.pointer none,.pointer none]⟩):=by rw[eV h];exact pD
theorem tZ{t:Nat}(h:Nat.beq t 76=true):structOf Tryz.prog t [.pointer none,.pointer none]:=by rw[eV h];exact gL (by kernel_rfl) pD
theorem oQ:cX Tryz.prog 89=some (.agg ⟨[.int .i64 0,.int .i64 0,.bool false,.int .i64 0,.int .i64 0,.int .i64 0,.int .i64 0,.int .u64 0,.int .u64 0,.string ⟨#[]⟩,.int .u64 0,.int .u64 0,.int .i64 0,.bool false,.bool false,.slice none 0 0,.slice none 0 0,.int .i64 0,.bool false,.int .u64 0,.string ⟨#[]⟩,.int .i64 0,.int .i64 0,.int .i64 0,.bool false]⟩):=by kernel_rfl
theorem uX{t:Nat}(h:Nat.beq t 89=true):cX Tryz.prog t=some (.agg ⟨[.int .i64 0,.int .i64 0,.bool false,.int .i64 0,.int .i64 0,.int .i64 0,.int .i64 0,.int .u64 0,.int .u64 0,.string ⟨#[]⟩,.int .u64 0,.int .u64 0,.int .i64 0,.bool false,.bool false,.slice none 0 0,.slice none 0 0,.int .i64 0,.bool false,.int .u64 0,.string ⟨#[]⟩,.int .i64 0,.int .i64 0,.int .i64 0,.bool false]⟩):=by rw[eV h];exact oQ
theorem uJ{t:Nat}(h:Nat.beq t 89=true):placeOf Tryz.prog t [(0,1),(1,2),(3,1),(4,1),(5,1),(6,1),(7,1),(8,1),(9,1),(10,1),(11,1),(12,1),(13,1),(14,3),(17,8)] [.int .i64 0,.int .i64 0,.bool false,.int .i64 0,.int .i64 0,.int .i64 0,.int .i64 0,.int .u64 0,.int .u64 0,.string ⟨#[]⟩,.int .u64 0,.int .u64 0,.int .i64 0,.bool false,.bool false,.slice none 0 0,.slice none 0 0,.int .i64 0,.bool false,.int .u64 0,.string ⟨#[]⟩,.int .i64 0,.int .i64 0,.int .i64 0,.bool false]:=by rw[eV h];exact lH (by kernel_rfl) oQ
theorem yP:cX Tryz.prog 114=some (.agg ⟨[.slice none 0 0,.int .i64 0]⟩):=by kernel_rfl
theorem uA{t:Nat}(h:Nat.beq t 114=true):structOf Tryz.prog t [.slice none 0 0,.int .i64 0]:=by rw[eV h];exact gL (by kernel_rfl) yP
theorem A9:cX Tryz.prog 125=some (.agg ⟨[.nilIface,.int .i64 0,.bool false]⟩):=by kernel_rfl
theorem I2{t:Nat}(h:Nat.beq t 125=true):cX Tryz.prog t=some (.agg ⟨[.nilIface,.int .i64 0,.bool false]⟩):=by rw[eV h];exact A9
theorem Hk{t:Nat}(h:Nat.beq t 125=true):placeOf Tryz.prog t [(0,1),(1,2)] [.nilIface,.int .i64 0,.bool false]:=by rw[eV h];exact lH (by kernel_rfl) A9
theorem uO:cX Tryz.prog 128=some (.agg ⟨[.int .i64 0,.int .i64 0,.int .i64 0,.int .i64 0]⟩):=by kernel_rfl
theorem B3{t:Nat}(h:Nat.beq t 128=true):cX Tryz.prog t=some (.agg ⟨[.int .i64 0,.int .i64 0,.int .i64 0,.int .i64 0]⟩):=by rw[eV h];exact uO
theorem zN{t:Nat}(h:Nat.beq t 128=true):structOf Tryz.prog t [.int .i64 0,.int .i64 0,.int .i64 0,.int .i64 0]:=by rw[eV h];exact gL (by kernel_rfl) uO
theorem wS:cX Tryz.prog 132=some (.agg ⟨[.int .i64 0,.int .i64 0,.int .i64 0,.int .i64 0,.nilFunc,.nilFunc,.int .i64 0,.bool false,.int .u64 0,.string ⟨#[]⟩,.int .i64 0,.int .i64 0,.int .i64 0,.bool false]⟩):=by kernel_rfl
theorem D9{t:Nat}(h:Nat.beq t 132=true):cX Tryz.prog t=some (.agg ⟨[.int .i64 0,.int .i64 0,.int .i64 0,.int .i64 0,.nilFunc,.nilFunc,.int .i64 0,.bool false,.int .u64 0,.string ⟨#[]⟩,.int .i64 0,.int .i64 0,.int .i64 0,.bool false]⟩):=by rw[eV h];exact wS
theorem Cw{t:Nat}(h:Nat.beq t 132=true):placeOf Tryz.prog t [(0,4),(4,1),(5,1),(6,8)] [.int .i64 0,.int .i64 0,.int .i64 0,.int .i64 0,.nilFunc,.nilFunc,.int .i64 0,.bool false,.int .u64 0,.string ⟨#[]⟩,.int .i64 0,.int .i64 0,.int .i64 0,.bool false]:=by rw[eV h];exact lH (by kernel_rfl) wS
theorem Bw:cX Tryz.prog 139=some (.agg ⟨[.slice none 0 0,.slice none 0 0,.int .i64 0,.int .i64 0]⟩):=by kernel_rfl
theorem yM{t:Nat}(h:Nat.beq t 139=true):structOf Tryz.prog t [.slice none 0 0,.slice none 0 0,.int .i64 0,.int .i64 0]:=by rw[eV h];exact gL (by kernel_rfl) Bw
theorem H0:cX Tryz.prog 141=some (.agg ⟨[.nilIface,.int .i64 0,.int .i64 0,.int .i64 0,.int .i64 0,.nilFunc,.nilFunc,.int .i64 0,.bool false,.int .u64 0,.string ⟨#[]⟩,.int .i64 0,.int .i64 0,.int .i64 0,.bool false,.int .i64 0,.bool false]⟩):=by kernel_rfl
theorem B6{t:Nat}(h:Nat.beq t 141=true):placeOf Tryz.prog t [(0,1),(1,14),(15,1),(16,1)] [.nilIface,.int .i64 0,.int .i64 0,.int .i64 0,.int .i64 0,.nilFunc,.nilFunc,.int .i64 0,.bool false,.int .u64 0,.string ⟨#[]⟩,.int .i64 0,.int .i64 0,.int .i64 0,.bool false,.int .i64 0,.bool false]:=by rw[eV h];exact lH (by kernel_rfl) H0
theorem xF:cX Tryz.prog 153=some (.agg ⟨[.pointer none,.int .i64 0,.int .i64 0,.bool false,.int .i64 0,.int .i64 0,.int .i64 0,.int .i64 0,.int .u64 0,.int .u64 0,.string ⟨#[]⟩,.int .u64 0,.int .u64 0,.int .i64 0,.bool false,.bool false,.slice none 0 0,.slice none 0 0,.int .i64 0,.bool false,.int .u64 0,.string ⟨#[]⟩,.int .i64 0,.int .i64 0,.int .i64 0,.bool false,.slice none 0 0,.slice none 0 0,.slice none 0 0,.slice none 0 0,.int .i64 0,.int .i64 0,.int .i64 0,.int .i64 0,.int .i64 0,.bool false,.int .i64 0,.int .i64 0,.int .i64 0,.int .i64 0,.bool false,.int .i64 0,.bool false,.int .u64 0,.string ⟨#[]⟩,.int .i64 0,.int .i64 0,.int .i64 0,.bool false,.bool false,.slice none 0 0,.slice none 0 0]⟩):=by kernel_rfl
theorem uE{t:Nat}(h:Nat.beq t 153=true):placeOf Tryz.prog t [(0,1),(1,25),(26,1),(27,1),(28,1),(29,1),(30,1),(31,1),(32,1),(33,1),(34,1),(35,1),(36,4),(40,1),(41,8),(49,3)] [.pointer none,.int .i64 0,.int .i64 0,.bool false,.int .i64 0,.int .i64 0,.int .i64 0,.int .i64 0,.int .u64 0,.int .u64 0,.string ⟨#[]⟩,.int .u64 0,.int .u64 0,.int .i64 0,.bool false,.bool false,.slice none 0 0,.slice none 0 0,.int .i64 0,.bool false,.int .u64 0,.string ⟨#[]⟩,.int .i64 0,.int .i64 0,.int .i64 0,.bool false,.slice none 0 0,.slice none 0 0,.slice none 0 0,.slice none 0 0,.int .i64 0,.int .i64 0,.int .i64 0,.int .i64 0,.int .i64 0,.bool false,.int .i64 0,.int .i64 0,.int .i64 0,.int .i64 0,.bool false,.int .i64 0,.bool false,.int .u64 0,.string ⟨#[]⟩,.int .i64 0,.int .i64 0,.int .i64 0,.bool false,.bool false,.slice none 0 0,.slice none 0 0]:=by rw[eV h];exact lH (by kernel_rfl) xF
theorem yU:cX Tryz.prog 164=some (.agg ⟨[.string ⟨#[]⟩,.int .u64 0]⟩):=by kernel_rfl
theorem Ge{t:Nat}(h:Nat.beq t 164=true):cX Tryz.prog t=some (.agg ⟨[.string ⟨#[]⟩,.int .u64 0]⟩):=by rw[eV h];exact yU
theorem Cz{t:Nat}(h:Nat.beq t 164=true):structOf Tryz.prog t [.string ⟨#[]⟩,.int .u64 0]:=by rw[eV h];exact gL (by kernel_rfl) yU
def aB4:List (Nat×Nat):=[(29,0),(29,1),(35,0),(35,1),(35,2),(35,3),(39,0),(39,1),(39,2),(39,3),(39,4),(47,0),(47,1),(47,2),(47,3),(47,4),(47,5),(47,6),(47,7),(47,8),(47,9),(47,10),(47,11),(47,12),(47,13),(52,0),(52,1),(52,2),(54,0),(64,0),(64,1),(64,2),(64,3),(64,4),(64,5),(64,6),(76,0),(76,1),(87,0),(87,1),(87,2),(89,0),(89,1),(114,0),(114,1),(125,0),(125,1),(128,0),(128,1),(128,2),(128,3),(132,0),(139,0),(139,1),(139,2),(139,3),(141,0),(141,1),(153,0),(153,1),(159,0),(164,0),(164,1),(230,0),(230,1)]
theorem z9:(aB4.all λ p=>dA Tryz.prog p.1 p.2==some p.2)=true:=by kernel_rfl
theorem y7{t k:Nat}(h:(aB4.any λ p=>Nat.beq p.1 t&&Nat.beq p.2 k)=true):dA Tryz.prog t k=some k:=by
 obtain⟨p,hp,ht⟩:=List.any_eq_true.1 h
 simp only[Bool.and_eq_true] at ht
 have h2:=eq_of_beq (List.all_eq_true.1 z9 p hp)
 rwa [eV ht.1,eV ht.2] at h2
def w6:List (Nat×Nat):=[(29,0),(29,1),(35,0),(35,1),(35,2),(35,3),(39,0),(39,1),(39,2),(39,3),(39,4),(47,0),(47,1),(47,2),(47,3),(47,4),(47,5),(47,6),(47,7),(47,8),(47,9),(47,10),(47,11),(47,12),(47,13),(52,0),(52,1),(52,2),(64,0),(64,1),(64,2),(64,3),(64,4),(64,5),(76,0),(76,1),(87,0),(87,1),(87,2),(89,0),(114,0),(114,1),(125,0),(128,0),(128,1),(128,2),(128,3),(139,0),(139,1),(139,2),(139,3),(141,0),(153,0),(164,0),(164,1),(230,0),(230,1)]
theorem sk:(w6.all λ p=>Bn Tryz.prog p.1 p.2==some p.2)=true:=by kernel_rfl
theorem Ut{t k:Nat}(h:(w6.any λ p=>Nat.beq p.1 t&&Nat.beq p.2 k)=true):Bn Tryz.prog t k=some k:=by
 obtain⟨p,hp,ht⟩:=List.any_eq_true.1 h
 simp only[Bool.and_eq_true] at ht
 have h2:=eq_of_beq (List.all_eq_true.1 sk p hp)
 rwa [eV ht.1,eV ht.2] at h2
theorem xB{t k:Nat}(h:(Nat.beq t 54&&Nat.beq k 1)=true):dA Tryz.prog t k=some 3:=by simp only[Bool.and_eq_true] at h;rw[eV h.1,eV h.2];kernel_rfl
theorem uT{t k:Nat}(h:(Nat.beq t 89&&Nat.beq k 2)=true):dA Tryz.prog t k=some 3:=by simp only[Bool.and_eq_true] at h;rw[eV h.1,eV h.2];kernel_rfl
theorem vC{t k:Nat}(h:(Nat.beq t 89&&Nat.beq k 3)=true):dA Tryz.prog t k=some 4:=by simp only[Bool.and_eq_true] at h;rw[eV h.1,eV h.2];kernel_rfl
theorem vI{t k:Nat}(h:(Nat.beq t 89&&Nat.beq k 4)=true):dA Tryz.prog t k=some 5:=by simp only[Bool.and_eq_true] at h;rw[eV h.1,eV h.2];kernel_rfl
theorem uW{t k:Nat}(h:(Nat.beq t 89&&Nat.beq k 7)=true):dA Tryz.prog t k=some 8:=by simp only[Bool.and_eq_true] at h;rw[eV h.1,eV h.2];kernel_rfl
theorem uR{t k:Nat}(h:(Nat.beq t 89&&Nat.beq k 8)=true):dA Tryz.prog t k=some 9:=by simp only[Bool.and_eq_true] at h;rw[eV h.1,eV h.2];kernel_rfl
theorem vH{t k:Nat}(h:(Nat.beq t 89&&Nat.beq k 9)=true):dA Tryz.prog t k=some 10:=by simp only[Bool.and_eq_true] at h;rw[eV h.1,eV h.2];kernel_rfl
theorem tM{t k:Nat}(h:(Nat.beq t 89&&Nat.beq k 10)=true):dA Tryz.prog t k=some 11:=by simp only[Bool.and_eq_true] at h;rw[eV h.1,eV h.2];kernel_rfl
theorem uB{t k:Nat}(h:(Nat.beq t 89&&Nat.beq k 11)=true):dA Tryz.prog t k=some 12:=by simp only[Bool.and_eq_true] at h;rw[eV h.1,eV h.2];kernel_rfl
theorem tX{t k:Nat}(h:(Nat.beq t 89&&Nat.beq k 12)=true):dA Tryz.prog t k=some 13:=by simp only[Bool.and_eq_true] at h;rw[eV h.1,eV h.2];kernel_rfl
theorem En{t k:Nat}(h:(Nat.beq t 132&&Nat.beq k 1)=true):dA Tryz.prog t k=some 4:=by simp only[Bool.and_eq_true] at h;rw[eV h.1,eV h.2];kernel_rfl
theorem Ed{t k:Nat}(h:(Nat.beq t 132&&Nat.beq k 2)=true):dA Tryz.prog t k=some 5:=by simp only[Bool.and_eq_true] at h;rw[eV h.1,eV h.2];kernel_rfl
theorem Eh{t k:Nat}(h:(Nat.beq t 132&&Nat.beq k 3)=true):dA Tryz.prog t k=some 6:=by simp only[Bool.and_eq_true] at h;rw[eV h.1,eV h.2];kernel_rfl
theorem Ej{t k:Nat}(h:(Nat.beq t 141&&Nat.beq k 2)=true):dA Tryz.prog t k=some 15:=by simp only[Bool.and_eq_true] at h;rw[eV h.1,eV h.2];kernel_rfl
theorem Em{t k:Nat}(h:(Nat.beq t 141&&Nat.beq k 3)=true):dA Tryz.prog t k=some 16:=by simp only[Bool.and_eq_true] at h;rw[eV h.1,eV h.2];kernel_rfl
theorem vD{t k:Nat}(h:(Nat.beq t 153&&Nat.beq k 2)=true):dA Tryz.prog t k=some 26:=by simp only[Bool.and_eq_true] at h;rw[eV h.1,eV h.2];kernel_rfl
theorem uS{t k:Nat}(h:(Nat.beq t 153&&Nat.beq k 3)=true):dA Tryz.prog t k=some 27:=by simp only[Bool.and_eq_true] at h;rw[eV h.1,eV h.2];kernel_rfl
theorem uV{t k:Nat}(h:(Nat.beq t 153&&Nat.beq k 4)=true):dA Tryz.prog t k=some 28:=by simp only[Bool.and_eq_true] at h;rw[eV h.1,eV h.2];kernel_rfl
theorem uU{t k:Nat}(h:(Nat.beq t 153&&Nat.beq k 5)=true):dA Tryz.prog t k=some 29:=by simp only[Bool.and_eq_true] at h;rw[eV h.1,eV h.2];kernel_rfl
theorem uY{t k:Nat}(h:(Nat.beq t 153&&Nat.beq k 6)=true):dA Tryz.prog t k=some 30:=by simp only[Bool.and_eq_true] at h;rw[eV h.1,eV h.2];kernel_rfl
theorem vE{t k:Nat}(h:(Nat.beq t 153&&Nat.beq k 7)=true):dA Tryz.prog t k=some 31:=by simp only[Bool.and_eq_true] at h;rw[eV h.1,eV h.2];kernel_rfl
theorem uZ{t k:Nat}(h:(Nat.beq t 153&&Nat.beq k 8)=true):dA Tryz.prog t k=some 32:=by simp only[Bool.and_eq_true] at h;rw[eV h.1,eV h.2];kernel_rfl
theorem vA{t k:Nat}(h:(Nat.beq t 153&&Nat.beq k 9)=true):dA Tryz.prog t k=some 33:=by simp only[Bool.and_eq_true] at h;rw[eV h.1,eV h.2];kernel_rfl
theorem tD{t k:Nat}(h:(Nat.beq t 153&&Nat.beq k 10)=true):dA Tryz.prog t k=some 34:=by simp only[Bool.and_eq_true] at h;rw[eV h.1,eV h.2];kernel_rfl
theorem tJ{t k:Nat}(h:(Nat.beq t 153&&Nat.beq k 11)=true):dA Tryz.prog t k=some 35:=by simp only[Bool.and_eq_true] at h;rw[eV h.1,eV h.2];kernel_rfl
theorem tF{t k:Nat}(h:(Nat.beq t 153&&Nat.beq k 12)=true):dA Tryz.prog t k=some 36:=by simp only[Bool.and_eq_true] at h;rw[eV h.1,eV h.2];kernel_rfl
theorem uI{t k:Nat}(h:(Nat.beq t 153&&Nat.beq k 13)=true):dA Tryz.prog t k=some 40:=by simp only[Bool.and_eq_true] at h;rw[eV h.1,eV h.2];kernel_rfl
theorem tU{t k:Nat}(h:(Nat.beq t 153&&Nat.beq k 14)=true):dA Tryz.prog t k=some 41:=by simp only[Bool.and_eq_true] at h;rw[eV h.1,eV h.2];kernel_rfl
def aA9:List Nat:=[15,16,17,23,25,30,42,56,74,156,259]
theorem zg:(aA9.all λ t=>Kr Tryz.prog t)=true:=by kernel_rfl
theorem R7{t:Nat}(h:aA9.elem t=true):Kr Tryz.prog t=true:=List.all_eq_true.1 zg t (List.mem_of_elem_eq_true h)
def aw:List (Nat×Nat):=[(22,3),(32,29),(33,74),(44,37),(45,164),(50,47),(85,230),(95,4),(102,9),(108,76),(115,39),(151,27),(169,31)]
def vf(t:Nat):Nat:=(aw.lookup t).getD 0
theorem aBG:(aw.all λ p=>(match Tryz.prog.underlying p.1 with|some (.slice e)=>Nat.beq e p.2&&Nat.beq (vf p.1) p.2|_=>false))=true:=by kernel_rfl
theorem aAJ{t:Nat}(h:(aw.any λ p=>Nat.beq p.1 t)=true):Tryz.prog.underlying t=some (.slice (vf t)):=by
 obtain⟨p,hp,ht⟩:=List.any_eq_true.1 h
 have h2:=List.all_eq_true.1 aBG p hp
 rw[<- eV ht]
 cases hu:Tryz.prog.underlying p.1 with
 | none=>rw[hu] at h2;simp at h2
 | some d =>
  rw[hu] at h2
  cases d<;>simp only[Bool.false_eq_true] at h2
  simp only[Bool.and_eq_true] at h2
  rw[eV h2.1,eV h2.2]
def aBU:List (Nat×Nat):=[(3,1),(4,1),(9,1),(27,1),(29,2),(31,1),(37,1),(39,5),(47,14),(74,1),(76,2),(164,2),(230,2)]
theorem ym:(aBU.all λ p=>(Tryz.prog.info? p.1).map (·.size)==some p.2)=true:=by kernel_rfl
theorem uL{e s:Nat}(h:(aBU.any λ p=>Nat.beq p.1 e&&Nat.beq p.2 s)=true):(Tryz.prog.info? e).map (·.size)=some s:=by
 obtain⟨p,hp,ht⟩:=List.any_eq_true.1 h
 simp only[Bool.and_eq_true] at ht
 have h2:=List.all_eq_true.1 ym p hp
 rw[<- eV ht.1,<- eV ht.2]
 exact eq_of_beq h2
theorem aAE{t:Nat}(h:Nat.beq t 9=true):Tryz.prog.underlying t=some .string:=by
 rw[eV h];kernel_rfl
theorem su{t:Nat}(h:Nat.beq t 164=true):K7 Tryz.prog t=true:=by
 rw[eV h];kernel_rfl
def aB8:List (Nat×IntKind):=[(2,.i64),(3,.i64),(5,.u8),(12,.u64),(21,.i32),(27,.i64),(31,.u64),(37,.i64),(62,.i64),(209,.u64),(255,.u32)]
theorem xg:(aB8.all λ p=>zE Tryz.prog p.1 p.2)=true:=by kernel_rfl
theorem xC{t:Nat}{k:IntKind}(h:(aB8.any λ p=>Nat.beq p.1 t&&p.2==k)=true):zE Tryz.prog t k=true:=by
 obtain⟨p,hp,ht⟩:=List.any_eq_true.1 h
 simp only[Bool.and_eq_true] at ht
 have h2:=List.all_eq_true.1 xg p hp
 rw[eV ht.1,eq_of_beq ht.2] at h2
 exact h2
def w3(P:Program)(t e s:Nat):Bool :=
 (match P.underlying t with|some (.slice e')=>Nat.beq e' e|_=>false)&&(match P.info? e with
  | some i=>Nat.beq i.size s&&Nat.ble i.bytes 256
  | none=>false)
theorem mP{P:Program}{t e:Nat}{z:Value}{zc:List Value}(h:w3 P t e zc.length=true)(hz:cX P e=some z)(hzc:z.cells=⟨zc⟩):dM P t e zc:=by
 unfold w3 at h
 simp only[Bool.and_eq_true] at h
 refine⟨?_,?_⟩
 ·cases hu:P.underlying t with
  | none=>simp[hu] at h
  | some d =>
   rw[hu] at h
   cases d<;>simp only[Bool.false_eq_true,false_and] at h
   rw[eV h.1]
 ·cases hi:P.info? e with
  | none=>simp[hi] at h
  | some i =>
   rw[hi] at h
   simp only[Bool.and_eq_true] at h
   exact⟨i,z,rfl,by simpa[cX,hi] using hz,hzc,eV h.2.1,Nat.le_of_ble_eq_true h.2.2⟩
theorem Yd:cX Tryz.prog 3=some (.int .i64 0):=by kernel_rfl
theorem Ic:dM Tryz.prog 22 3 [.int .i64 0]:=mP (by kernel_rfl) Yd rfl
theorem K1{t:Nat}(h:Nat.beq t 22=true):dM Tryz.prog t 3 [.int .i64 0]:=by rw[eV h];exact Ic
theorem Yk:cX Tryz.prog 37=some (.int .i64 0):=by kernel_rfl
theorem qS:dM Tryz.prog 44 37 [.int .i64 0]:=mP (by kernel_rfl) Yk rfl
theorem K4{t:Nat}(h:Nat.beq t 44=true):dM Tryz.prog t 37 [.int .i64 0]:=by rw[eV h];exact qS
theorem Ua:cX Tryz.prog 164=some (.agg ⟨[.string ⟨#[]⟩,.int .u64 0]⟩):=by kernel_rfl
theorem Zn:dM Tryz.prog 45 164 [.string ⟨#[]⟩,.int .u64 0]:=mP (by kernel_rfl) Ua rfl
theorem qL{t:Nat}(h:Nat.beq t 45=true):dM Tryz.prog t 164 [.string ⟨#[]⟩,.int .u64 0]:=by rw[eV h];exact Zn
def vo:List Value:=[.int .i64 0,.int .i64 0,.int .i64 0,.int .u64 0,.slice none 0 0,.int .u64 0,.string ⟨#[]⟩,.int .u64 0,.slice none 0 0,.int .i64 0,.int .i64 0,.int .i64 0,.int .i64 0,.int .i64 0]
theorem Tc:cX Tryz.prog 47=some (.agg ⟨[.int .i64 0,.int .i64 0,.int .i64 0,.int .u64 0,.slice none 0 0,.int .u64 0,.string ⟨#[]⟩,.int .u64 0,.slice none 0 0,.int .i64 0,.int .i64 0,.int .i64 0,.int .i64 0,.int .i64 0]⟩):=by kernel_rfl
theorem rU:dM Tryz.prog 50 47 vo:=mP (by kernel_rfl) Tc rfl
theorem G6{t:Nat}(h:Nat.beq t 50=true):dM Tryz.prog t 47 vo:=by rw[eV h];exact rU
theorem S4:cX Tryz.prog 4=some (.bool false):=by kernel_rfl
theorem Yi:dM Tryz.prog 95 4 [.bool false]:=mP (by kernel_rfl) S4 rfl
theorem Fg{t:Nat}(h:Nat.beq t 95=true):dM Tryz.prog t 4 [.bool false]:=by rw[eV h];exact Yi
theorem Xs:cX Tryz.prog 9=some (.string ⟨#[]⟩):=by kernel_rfl
theorem ji:dM Tryz.prog 102 9 [.string ⟨#[]⟩]:=mP (by kernel_rfl) Xs rfl
theorem Y1{t:Nat}(h:Nat.beq t 102=true):dM Tryz.prog t 9 [.string ⟨#[]⟩]:=by rw[eV h];exact ji
end Go.Proofs.YtbajmaoegmbfgaaGreat
