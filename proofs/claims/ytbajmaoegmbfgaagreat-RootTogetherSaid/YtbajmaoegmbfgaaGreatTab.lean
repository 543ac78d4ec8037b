/- What the program's table says of the types that are used: closed facts. Written by a program. -/
import Derived.Test.YtbajmaoegmbfgaaGreatGLst3
import Derived.Test.YtbajmaoegmbfgaaGreatProg
set_option linter.unusedSimpArgs false
set_option linter.unusedVariables false
namespace Go.Proofs.YtbajmaoegmbfgaaGreat
open Go.RowKit Go.Ct
def aBb:List Nat:=[2,3,4,5,9,12,15,16,17,20,21,22,23,25,27,30,31,32,33,37,42,44,45,50,56,62,74,85,95,102,108,115,122,123,129,130,151,156,169,209,255,259]
theorem vo:(aBb.all λ t=>one Tryz.prog t)=true:=by kernel_rfl
theorem Mu{t:Nat}(h:aBb.elem t=true):one Tryz.prog t=true:=List.all_eq_true.1 vo t (List.mem_of_elem_eq_true h)
def aAa:List (Nat×Nat):=[(29,2),(35,4),(39,5),(47,14),(52,3),(54,4),(64,8),(76,2),(87,3),(89,25),(114,2),(125,3),(128,4),(132,14),(139,4),(141,17),(153,52),(159,5),(164,2),(230,2)]
theorem wc:(aAa.all λ p=>jI Tryz.prog p.1 p.2)=true:=by kernel_rfl
theorem Qx{t k:Nat}(h:(aAa.any λ p=>Nat.beq p.1 t&&Nat.beq p.2 k)=true):jI Tryz.prog t k=true:=by
 obtain⟨p,hp,ht⟩:=List.any_eq_true.1 h
 simp only[Bool.and_eq_true] at ht
 have h2:=List.all_eq_true.1 wc p hp
 rwa [eP ht.1,eP ht.2] at h2
theorem yM:cX Tryz.prog 29=some (.agg ⟨[.int .i64 0,.bool false]⟩):=by kernel_rfl
theorem Fk{t:Nat}(h:Nat.beq t 29=true):cX Tryz.prog t=some (.agg ⟨[.int .i64 0,.bool false]⟩):=by rw[eP h];exact yM
theorem Bk{t:Nat}(h:Nat.beq t 29=true):structOf Tryz.prog t [.int .i64 0,.bool false]:=by rw[eP h];exact hX (by kernel_rfl) yM
theorem uQ:cX Tryz.prog 35=some (.agg ⟨[.pointer none,.int .u64 0,.slice none 0 0,.slice none 0 0]⟩):=by kernel_rfl
theorem rP{t:Nat}(h:Nat.beq t 35=true):structOf Tryz.prog t [.pointer none,.int .u64 0,.slice none 0 0,.slice none 0 0]:=by rw[eP h];exact hX (by kernel_rfl) uQ
theorem yR:cX Tryz.prog 47=some (.agg ⟨[.int .i64 0,.int .i64 0,.int .i64 0,.int .u64 0,.slice none 0 0,.int .u64 0,.string ⟨#[]⟩,.int .u64 0,.slice none 0 0,.int .i64 0,.int .i64 0,.int .i64 0,.int .i64 0,.int .i64 0]⟩):=by kernel_rfl
theorem Hp{t:Nat}(h:Nat.beq t 47=true):cX Tryz.prog t=some (.agg ⟨[.int .i64 0,.int .i64 0,.int .i64 0,.int .u64 0,.slice none 0 0,.int .u64 0,.string ⟨#[]⟩,.int .u64 0,.slice none 0 0,.int .i64 0,.int .i64 0,.int .i64 0,.int .i64 0,.int .i64 0]⟩):=by rw[eP h];exact yR
theorem Bt{t:Nat}(h:Nat.beq t 47=true):structOf Tryz.prog t [.int .i64 0,.int .i64 0,.int .i64 0,.int .u64 0,.slice none 0 0,.int .u64 0,.string ⟨#[]⟩,.int .u64 0,.slice none 0 0,.int .i64 0,.int .i64 0,.int .i64 0,.int .i64 0,.int .i64 0]:=by rw[eP h];exact hX (by kernel_rfl) yR
theorem uT:cX Tryz.prog 52=some (.agg ⟨[.slice none 0 0,.slice none 0 0,.int .i64 0]⟩):=by kernel_rfl
theorem D9{t:Nat}(h:Nat.beq t 52=true):cX Tryz.prog t=some (.agg ⟨[.slice none 0 0,.slice none 0 0,.int .i64 0]⟩):=by rw[eP h];exact uT
theorem zW{t:Nat}(h:Nat.beq t 52=true):structOf Tryz.prog t [.slice none 0 0,.slice none 0 0,.int .i64 0]:=by rw[eP h];exact hX (by kernel_rfl) uT
theorem xY:cX Tryz.prog 54=some (.agg ⟨[.slice none 0 0,.slice none 0 0,.int .i64 0,.int .i64 0]⟩):=by kernel_rfl
theorem uH{t:Nat}(h:Nat.beq t 54=true):placeOf Tryz.prog t [(0,3),(3,1)] [.slice none 0 0,.slice none 0 0,.int .i64 0,.int .i64 0]:=by rw[eP h];exact lA (by kernel_rfl) xY
theorem tR:cX Tryz.prog 64=some (.agg ⟨[.int .i64 0,.bool false,.int .u64 0,.string ⟨#[]⟩,.int .i64 0,.int .i64 0,.int .i64 0,.bool false]⟩):=by kernel_rfl
theorem Cj{t:Nat}(h:Nat.beq t 64=true):cX Tryz.prog t=some (.agg ⟨[.int .i64 0,.bool false,.int .u64 0,.string ⟨#[]⟩,.int .i64 0,.int .i64 0,.int .i64 0,.bool false]⟩):=by rw[eP h];exact tR
theorem Ak{t:Nat}(h:Nat.beq t 64=true):placeOf Tryz.prog t [(0,1),(1,1),(2,1),(3,1),(4,1),(5,1),(6,2)] [.int .i64 0,.bool false,.int .u64 0,.string ⟨#[]⟩,.int .i64 0,.int .i64 0,.int .i64 0,.bool false]:=by rw[eP h];exact lA (by kernel_rfl) tR
theorem oH:cX Tryz.prog 76=some (.agg ⟨[.pointer none,.pointer none]⟩):=by kernel_rfl
theorem vC{t:Nat}(h:Nat.beq t 76=true):cX Tryz.prog t=some (.agg ⟨[.pointer none,.pointer none]⟩):=by rw[eP h];exact oH
theorem sD{t:Nat}(h:Nat.beq t 76=true):structOf Tryz.prog t [.pointer none,.pointer none]:=by rw[eP h];exact hX (by kernel_rfl) oH
theorem nU:cX Tryz.prog 89=some (.agg ⟨[.int .i64 0,.int .i64 0,.bool false,.int .i64 0,.int .i64 0,.int .i64 0,.int .i64 0,.int .u64 0,.int .u64 0,.string ⟨#[]⟩,.int .u64 0,.int .u64 0,.int .i64 0,.bool false,.bool false,.slice none 0 0,.slice none 0 0,.int .i64 0,.bool false,.int .u64 0,.string ⟨#[]⟩,.int .i64 0,.int .i64 0,.int .i64 0,.bool false]⟩):=by kernel_rfl
theorem tY{t:Nat}(h:Nat.beq t 89=true):cX Tryz.prog t=some (.agg ⟨[.int .i64 0,.int .i64 0,.bool false,.int .i64 0,.int .i64 0,.int .i64 0,.int .i64 0,.int .u64 0,.int .u64 0,.string ⟨#[]⟩,.int .u64 0,.int .u64 0,.int .i64 0,.bool false,.bool false,.slice none 0 0,.slice none 0 0,.int .i64 0,.bool false,.int .u64 0,.string ⟨#[]⟩,.int .i64 0,.int .i64 0,.int .i64 0,.bool false]⟩):=by rw[eP h];exact nU
theorem tN{t:Nat}(h:Nat.beq t 89=true):placeOf Tryz.prog t [(0,1),(1,2),(3,1),(4,1),(5,1),(6,1),(7,1),(8,1),(9,1),(10,1),(11,1),(12,1),(13,1),(14,3),(17,8)] [.int .i64 0,.int .i64 0,.bool false,.int .i64 0,.int .i64 0,.int .i64 0,.int .i64 0,.int .u64 0,.int .u64 0,.string ⟨#[]⟩,.int .u64 0,.int .u64 0,.int .i64 0,.bool false,.bool false,.slice none 0 0,.slice none 0 0,.int .i64 0,.bool false,.int .u64 0,.string ⟨#[]⟩,.int .i64 0,.int .i64 0,.int .i64 0,.bool false]:=by rw[eP h];exact lA (by kernel_rfl) nU
theorem xX:cX Tryz.prog 114=some (.agg ⟨[.slice none 0 0,.int .i64 0]⟩):=by kernel_rfl
theorem tH{t:Nat}(h:Nat.beq t 114=true):structOf Tryz.prog t [.slice none 0 0,.int .i64 0]:=by rw[eP h];exact hX (by kernel_rfl) xX
theorem As:cX Tryz.prog 125=some (.agg ⟨[.nilIface,.int .i64 0,.bool false]⟩):=by kernel_rfl
theorem Iv{t:Nat}(h:Nat.beq t 125=true):cX Tryz.prog t=some (.agg ⟨[.nilIface,.int .i64 0,.bool false]⟩):=by rw[eP h];exact As
theorem H5{t:Nat}(h:Nat.beq t 125=true):placeOf Tryz.prog t [(0,1),(1,2)] [.nilIface,.int .i64 0,.bool false]:=by rw[eP h];exact lA (by kernel_rfl) As
theorem tQ:cX Tryz.prog 128=some (.agg ⟨[.int .i64 0,.int .i64 0,.int .i64 0,.int .i64 0]⟩):=by kernel_rfl
theorem Bq{t:Nat}(h:Nat.beq t 128=true):cX Tryz.prog t=some (.agg ⟨[.int .i64 0,.int .i64 0,.int .i64 0,.int .i64 0]⟩):=by rw[eP h];exact tQ
theorem yW{t:Nat}(h:Nat.beq t 128=true):structOf Tryz.prog t [.int .i64 0,.int .i64 0,.int .i64 0,.int .i64 0]:=by rw[eP h];exact hX (by kernel_rfl) tQ
theorem vE:cX Tryz.prog 132=some (.agg ⟨[.int .i64 0,.int .i64 0,.int .i64 0,.int .i64 0,.nilFunc,.nilFunc,.int .i64 0,.bool false,.int .u64 0,.string ⟨#[]⟩,.int .i64 0,.int .i64 0,.int .i64 0,.bool false]⟩):=by kernel_rfl
theorem Dr{t:Nat}(h:Nat.beq t 132=true):cX Tryz.prog t=some (.agg ⟨[.int .i64 0,.int .i64 0,.int .i64 0,.int .i64 0,.nilFunc,.nilFunc,.int .i64 0,.bool false,.int .u64 0,.string ⟨#[]⟩,.int .i64 0,.int .i64 0,.int .i64 0,.bool false]⟩):=by rw[eP h];exact vE
theorem Bl{t:Nat}(h:Nat.beq t 132=true):placeOf Tryz.prog t [(0,4),(4,1),(5,1),(6,8)] [.int .i64 0,.int .i64 0,.int .i64 0,.int .i64 0,.nilFunc,.nilFunc,.int .i64 0,.bool false,.int .u64 0,.string ⟨#[]⟩,.int .i64 0,.int .i64 0,.int .i64 0,.bool false]:=by rw[eP h];exact lA (by kernel_rfl) vE
theorem Bi:cX Tryz.prog 139=some (.agg ⟨[.slice none 0 0,.slice none 0 0,.int .i64 0,.int .i64 0]⟩):=by kernel_rfl
theorem xT{t:Nat}(h:Nat.beq t 139=true):structOf Tryz.prog t [.slice none 0 0,.slice none 0 0,.int .i64 0,.int .i64 0]:=by rw[eP h];exact hX (by kernel_rfl) Bi
theorem H3:cX Tryz.prog 141=some (.agg ⟨[.nilIface,.int .i64 0,.int .i64 0,.int .i64 0,.int .i64 0,.nilFunc,.nilFunc,.int .i64 0,.bool false,.int .u64 0,.string ⟨#[]⟩,.int .i64 0,.int .i64 0,.int .i64 0,.bool false,.int .i64 0,.bool false]⟩):=by kernel_rfl
theorem B6{t:Nat}(h:Nat.beq t 141=true):placeOf Tryz.prog t [(0,1),(1,14),(15,1),(16,1)] [.nilIface,.int .i64 0,.int .i64 0,.int .i64 0,.int .i64 0,.nilFunc,.nilFunc,.int .i64 0,.bool false,.int .u64 0,.string ⟨#[]⟩,.int .i64 0,.int .i64 0,.int .i64 0,.bool false,.int .i64 0,.bool false]:=by rw[eP h];exact lA (by kernel_rfl) H3
theorem vQ:cX Tryz.prog 153=some (.agg ⟨[.pointer none,.int .i64 0,.int .i64 0,.bool false,.int .i64 0,.int .i64 0,.int .i64 0,.int .i64 0,.int .u64 0,.int .u64 0,.string ⟨#[]⟩,.int .u64 0,.int .u64 0,.int .i64 0,.bool false,.bool false,.slice none 0 0,.slice none 0 0,.int .i64 0,.bool false,.int .u64 0,.string ⟨#[]⟩,.int .i64 0,.int .i64 0,.int .i64 0,.bool false,.slice none 0 0,.slice none 0 0,.slice none 0 0,.slice none 0 0,.int .i64 0,.int .i64 0,.int .i64 0,.int .i64 0,.int .i64 0,.bool false,.int .i64 0,.int .i64 0,.int .i64 0,.int .i64 0,.bool false,.int .i64 0,.bool false,.int .u64 0,.string ⟨#[]⟩,.int .i64 0,.int .i64 0,.int .i64 0,.bool false,.bool false,.slice none 0 0,.slice none 0 0]⟩):=by kernel_rfl
theorem sP{t:Nat}(h:Nat.beq t 153=true):placeOf Tryz.prog t [(0,1),(1,25),(26,1),(27,1),(28,1),(29,1),(30,1),(31,1),(32,1),(33,1),(34,1),(35,1),(36,4),(40,1),(41,8),(49,3)] [.pointer none,.int .i64 0,.int .i64 0,.bool false,.int .i64 0,.int .i64 0,.int .i64 0,.int .i64 0,.int .u64 0,.int .u64 0,.string ⟨#[]⟩,.int .u64 0,.int .u64 0,.int .i64 0,.bool false,.bool false,.slice none 0 0,.slice none 0 0,.int .i64 0,.bool false,.int .u64 0,.string ⟨#[]⟩,.int .i64 0,.int .i64 0,.int .i64 0,.bool false,.slice none 0 0,.slice none 0 0,.slice none 0 0,.slice none 0 0,.int .i64 0,.int .i64 0,.int .i64 0,.int .i64 0,.int .i64 0,.bool false,.int .i64 0,.int .i64 0,.int .i64 0,.int .i64 0,.bool false,.int .i64 0,.bool false,.int .u64 0,.string ⟨#[]⟩,.int .i64 0,.int .i64 0,.int .i64 0,.bool false,.bool false,.slice none 0 0,.slice none 0 0]:=by rw[eP h];exact lA (by kernel_rfl) vQ
theorem yQ:cX Tryz.prog 164=some (.agg ⟨[.string ⟨#[]⟩,.int .u64 0]⟩):=by kernel_rfl
theorem Gm{t:Nat}(h:Nat.beq t 164=true):cX Tryz.prog t=some (.agg ⟨[.string ⟨#[]⟩,.int .u64 0]⟩):=by rw[eP h];exact yQ
theorem B4{t:Nat}(h:Nat.beq t 164=true):structOf Tryz.prog t [.string ⟨#[]⟩,.int .u64 0]:=by rw[eP h];exact hX (by kernel_rfl) yQ
def zx:List (Nat×Nat):=[(29,0),(29,1),(35,0),(35,1),(35,2),(35,3),(39,0),(39,1),(39,2),(39,3),(39,4),(47,0),(47,1),(47,2),(47,3),(47,4),(47,5),(47,6),(47,7),(47,8),(47,9),(47,10),(47,11),(47,12),(47,13),(52,0),(52,1),(52,2),(54,0),(64,0),(64,1),(64,2),(64,3),(64,4),(64,5),(64,6),(76,0),(76,1),(87,0),(87,1),(87,2),(89,0),(89,1),(114,0),(114,1),(125,0),(125,1),(128,0),(128,1),(128,2),(128,3),(132,0),(139,0),(139,1),(139,2),(139,3),(141,0),(141,1),(153,0),(153,1),(159,0),(164,0),(164,1),(230,0),(230,1)]
theorem yp:(zx.all λ p=>dA Tryz.prog p.1 p.2==some p.2)=true:=by kernel_rfl
theorem xl{t k:Nat}(h:(zx.any λ p=>Nat.beq p.1 t&&Nat.beq p.2 k)=true):dA Tryz.prog t k=some k:=by
 obtain⟨p,hp,ht⟩:=List.any_eq_true.1 h
 simp only[Bool.and_eq_true] at ht
 have h2:=eq_of_beq (List.all_eq_true.1 yp p hp)
 rwa [eP ht.1,eP ht.2] at h2
def sk:List (Nat×Nat):=[(29,0),(29,1),(35,0),(35,1),(35,2),(35,3),(39,0),(39,1),(39,2),(39,3),(39,4),(47,0),(47,1),(47,2),(47,3),(47,4),(47,5),(47,6),(47,7),(47,8),(47,9),(47,10),(47,11),(47,12),(47,13),(52,0),(52,1),(52,2),(64,0),(64,1),(64,2),(64,3),(64,4),(64,5),(76,0),(76,1),(87,0),(87,1),(87,2),(89,0),(114,0),(114,1),(125,0),(128,0),(128,1),(128,2),(128,3),(139,0),(139,1),(139,2),(139,3),(141,0),(153,0),(164,0),(164,1),(230,0),(230,1)]
theorem rj:(sk.all λ p=>zU Tryz.prog p.1 p.2==some p.2)=true:=by kernel_rfl
theorem U4{t k:Nat}(h:(sk.any λ p=>Nat.beq p.1 t&&Nat.beq p.2 k)=true):zU Tryz.prog t k=some k:=by
 obtain⟨p,hp,ht⟩:=List.any_eq_true.1 h
 simp only[Bool.and_eq_true] at ht
 have h2:=eq_of_beq (List.all_eq_true.1 rj p hp)
 rwa [eP ht.1,eP ht.2] at h2
theorem vO{t k:Nat}(h:(Nat.beq t 54&&Nat.beq k 1)=true):dA Tryz.prog t k=some 3:=by simp only[Bool.and_eq_true] at h;rw[eP h.1,eP h.2];kernel_rfl
theorem uF{t k:Nat}(h:(Nat.beq t 89&&Nat.beq k 2)=true):dA Tryz.prog t k=some 3:=by simp only[Bool.and_eq_true] at h;rw[eP h.1,eP h.2];kernel_rfl
theorem uM{t k:Nat}(h:(Nat.beq t 89&&Nat.beq k 3)=true):dA Tryz.prog t k=some 4:=by simp only[Bool.and_eq_true] at h;rw[eP h.1,eP h.2];kernel_rfl
theorem tZ{t k:Nat}(h:(Nat.beq t 89&&Nat.beq k 4)=true):dA Tryz.prog t k=some 5:=by simp only[Bool.and_eq_true] at h;rw[eP h.1,eP h.2];kernel_rfl
theorem uD{t k:Nat}(h:(Nat.beq t 89&&Nat.beq k 7)=true):dA Tryz.prog t k=some 8:=by simp only[Bool.and_eq_true] at h;rw[eP h.1,eP h.2];kernel_rfl
theorem uJ{t k:Nat}(h:(Nat.beq t 89&&Nat.beq k 8)=true):dA Tryz.prog t k=some 9:=by simp only[Bool.and_eq_true] at h;rw[eP h.1,eP h.2];kernel_rfl
theorem tX{t k:Nat}(h:(Nat.beq t 89&&Nat.beq k 9)=true):dA Tryz.prog t k=some 10:=by simp only[Bool.and_eq_true] at h;rw[eP h.1,eP h.2];kernel_rfl
theorem tF{t k:Nat}(h:(Nat.beq t 89&&Nat.beq k 10)=true):dA Tryz.prog t k=some 11:=by simp only[Bool.and_eq_true] at h;rw[eP h.1,eP h.2];kernel_rfl
theorem sS{t k:Nat}(h:(Nat.beq t 89&&Nat.beq k 11)=true):dA Tryz.prog t k=some 12:=by simp only[Bool.and_eq_true] at h;rw[eP h.1,eP h.2];kernel_rfl
theorem sX{t k:Nat}(h:(Nat.beq t 89&&Nat.beq k 12)=true):dA Tryz.prog t k=some 13:=by simp only[Bool.and_eq_true] at h;rw[eP h.1,eP h.2];kernel_rfl
theorem D4{t k:Nat}(h:(Nat.beq t 132&&Nat.beq k 1)=true):dA Tryz.prog t k=some 4:=by simp only[Bool.and_eq_true] at h;rw[eP h.1,eP h.2];kernel_rfl
theorem D8{t k:Nat}(h:(Nat.beq t 132&&Nat.beq k 2)=true):dA Tryz.prog t k=some 5:=by simp only[Bool.and_eq_true] at h;rw[eP h.1,eP h.2];kernel_rfl
theorem D5{t k:Nat}(h:(Nat.beq t 132&&Nat.beq k 3)=true):dA Tryz.prog t k=some 6:=by simp only[Bool.and_eq_true] at h;rw[eP h.1,eP h.2];kernel_rfl
theorem Du{t k:Nat}(h:(Nat.beq t 141&&Nat.beq k 2)=true):dA Tryz.prog t k=some 15:=by simp only[Bool.and_eq_true] at h;rw[eP h.1,eP h.2];kernel_rfl
theorem D2{t k:Nat}(h:(Nat.beq t 141&&Nat.beq k 3)=true):dA Tryz.prog t k=some 16:=by simp only[Bool.and_eq_true] at h;rw[eP h.1,eP h.2];kernel_rfl
theorem uI{t k:Nat}(h:(Nat.beq t 153&&Nat.beq k 2)=true):dA Tryz.prog t k=some 26:=by simp only[Bool.and_eq_true] at h;rw[eP h.1,eP h.2];kernel_rfl
theorem uL{t k:Nat}(h:(Nat.beq t 153&&Nat.beq k 3)=true):dA Tryz.prog t k=some 27:=by simp only[Bool.and_eq_true] at h;rw[eP h.1,eP h.2];kernel_rfl
theorem uN{t k:Nat}(h:(Nat.beq t 153&&Nat.beq k 4)=true):dA Tryz.prog t k=some 28:=by simp only[Bool.and_eq_true] at h;rw[eP h.1,eP h.2];kernel_rfl
theorem uK{t k:Nat}(h:(Nat.beq t 153&&Nat.beq k 5)=true):dA Tryz.prog t k=some 29:=by simp only[Bool.and_eq_true] at h;rw[eP h.1,eP h.2];kernel_rfl
theorem uC{t k:Nat}(h:(Nat.beq t 153&&Nat.beq k 6)=true):dA Tryz.prog t k=some 30:=by simp only[Bool.and_eq_true] at h;rw[eP h.1,eP h.2];kernel_rfl
theorem uG{t k:Nat}(h:(Nat.beq t 153&&Nat.beq k 7)=true):dA Tryz.prog t k=some 31:=by simp only[Bool.and_eq_true] at h;rw[eP h.1,eP h.2];kernel_rfl
theorem uE{t k:Nat}(h:(Nat.beq t 153&&Nat.beq k 8)=true):dA Tryz.prog t k=some 32:=by simp only[Bool.and_eq_true] at h;rw[eP h.1,eP h.2];kernel_rfl
theorem uA{t k:Nat}(h:(Nat.beq t 153&&Nat.beq k 9)=true):dA Tryz.prog t k=some 33:=by simp only[Bool.and_eq_true] at h;rw[eP h.1,eP h.2];kernel_rfl
theorem sI{t k:Nat}(h:(Nat.beq t 153&&Nat.beq k 10)=true):dA Tryz.prog t k=some 34:=by simp only[Bool.and_eq_true] at h;rw[eP h.1,eP h.2];kernel_rfl
theorem tJ{t k:Nat}(h:(Nat.beq t 153&&Nat.beq k 11)=true):dA Tryz.prog t k=some 35:=by simp only[Bool.and_eq_true] at h;rw[eP h.1,eP h.2];kernel_rfl
theorem sW{t k:Nat}(h:(Nat.beq t 153&&Nat.beq k 12)=true):dA Tryz.prog t k=some 36:=by simp only[Bool.and_eq_true] at h;rw[eP h.1,eP h.2];kernel_rfl
theorem tL{t k:Nat}(h:(Nat.beq t 153&&Nat.beq k 13)=true):dA Tryz.prog t k=some 40:=by simp only[Bool.and_eq_true] at h;rw[eP h.1,eP h.2];kernel_rfl
theorem tB{t k:Nat}(h:(Nat.beq t 153&&Nat.beq k 14)=true):dA Tryz.prog t k=some 41:=by simp only[Bool.and_eq_true] at h;rw[eP h.1,eP h.2];kernel_rfl
def aAT:List Nat:=[15,16,17,23,25,30,42,56,74,156,259]
theorem vg:(aAT.all λ t=>Ka Tryz.prog t)=true:=by kernel_rfl
theorem Sm{t:Nat}(h:aAT.elem t=true):Ka Tryz.prog t=true:=List.all_eq_true.1 vg t (List.mem_of_elem_eq_true h)
def ki:List (Nat×Nat):=[(22,3),(32,29),(33,74),(44,37),(45,164),(50,47),(85,230),(95,4),(102,9),(108,76),(115,39),(151,27),(169,31)]
def sc(t:Nat):Nat:=(ki.lookup t).getD 0
theorem aAj:(ki.all λ p=>(match Tryz.prog.underlying p.1 with|some (.slice e)=>Nat.beq e p.2&&Nat.beq (sc p.1) p.2|_=>false))=true:=by kernel_rfl
theorem aAw{t:Nat}(h:(ki.any λ p=>Nat.beq p.1 t)=true):Tryz.prog.underlying t=some (.slice (sc t)):=by
 obtain⟨p,hp,ht⟩:=List.any_eq_true.1 h
 have h2:=List.all_eq_true.1 aAj p hp
 rw[<- eP ht]
 cases hu:Tryz.prog.underlying p.1 with
 | none=>rw[hu] at h2;simp at h2
 | some d =>
  rw[hu] at h2
  cases d<;>simp only[Bool.false_eq_true] at h2
  simp only[Bool.and_eq_true] at h2
  rw[eP h2.1,eP h2.2]
def aAV:List (Nat×Nat):=[(3,1),(4,1),(9,1),(27,1),(29,2),(31,1),(37,1),(39,5),(47,14),(74,1),(76,2),(164,2),(230,2)]
theorem we:(aAV.all λ p=>(Tryz.prog.info? p.1).map (·.size)==some p.2)=true:=by kernel_rfl
theorem tP{e s:Nat}(h:(aAV.any λ p=>Nat.beq p.1 e&&Nat.beq p.2 s)=true):(Tryz.prog.info? e).map (·.size)=some s:=by
 obtain⟨p,hp,ht⟩:=List.any_eq_true.1 h
 simp only[Bool.and_eq_true] at ht
 have h2:=List.all_eq_true.1 we p hp
 rw[<- eP ht.1,<- eP ht.2]
 exact eq_of_beq h2
theorem V3{t:Nat}(h:Nat.beq t 4=true):Tryz.prog.underlying t=some .bool:=by
 rw[eP h];kernel_rfl
theorem yl{t:Nat}(h:Nat.beq t 9=true):Tryz.prog.underlying t=some .string:=by
 rw[eP h];kernel_rfl
theorem m6{t:Nat}(h:Nat.beq t 164=true):Mn Tryz.prog t=true:=by
 rw[eP h];kernel_rfl
def aAq:List (Nat×IntKind):=[(2,.i64),(3,.i64),(5,.u8),(12,.u64),(21,.i32),(27,.i64),(31,.u64),(37,.i64),(62,.i64),(209,.u64),(255,.u32)]
theorem yv:(aAq.all λ p=>yD Tryz.prog p.1 p.2)=true:=by kernel_rfl
theorem vI{t:Nat}{k:IntKind}(h:(aAq.any λ p=>Nat.beq p.1 t&&p.2==k)=true):yD Tryz.prog t k=true:=by
 obtain⟨p,hp,ht⟩:=List.any_eq_true.1 h
 simp only[Bool.and_eq_true] at ht
 have h2:=List.all_eq_true.1 yv p hp
 rw[eP ht.1,eq_of_beq ht.2] at h2
 exact h2
def sd(P:Program)(t e s:Nat):Bool :=
 (match P.underlying t with|some (.slice e')=>Nat.beq e' e|_=>false)&&(match P.info? e with
  | some i=>Nat.beq i.size s&&Nat.ble i.bytes 256
  | none=>false)
theorem lU{P:Program}{t e:Nat}{z:Value}{zc:List Value}(h:sd P t e zc.length=true)(hz:cX P e=some z)(hzc:z.cells=⟨zc⟩):dK P t e zc:=by
 unfold sd at h
 simp only[Bool.and_eq_true] at h
 refine⟨?_,?_⟩
 ·cases hu:P.underlying t with
  | none=>simp[hu] at h
  | some d =>
   rw[hu] at h
   cases d<;>simp only[Bool.false_eq_true,false_and] at h
   rw[eP h.1]
 ·cases hi:P.info? e with
  | none=>simp[hi] at h
  | some i =>
   rw[hi] at h
   simp only[Bool.and_eq_true] at h
   exact⟨i,z,rfl,by simpa[cX,hi] using hz,hzc,eP h.2.1,Nat.le_of_ble_eq_true h.2.2⟩
theorem Ym:cX Tryz.prog 3=some (.int .i64 0):=by kernel_rfl
theorem Gq:dK Tryz.prog 22 3 [.int .i64 0]:=lU (by kernel_rfl) Ym rfl
theorem I3{t:Nat}(h:Nat.beq t 22=true):dK Tryz.prog t 3 [.int .i64 0]:=by rw[eP h];exact Gq
theorem X0:cX Tryz.prog 37=some (.int .i64 0):=by kernel_rfl
theorem qB:dK Tryz.prog 44 37 [.int .i64 0]:=lU (by kernel_rfl) X0 rfl
theorem Jf{t:Nat}(h:Nat.beq t 44=true):dK Tryz.prog t 37 [.int .i64 0]:=by rw[eP h];exact qB
theorem Rh:cX Tryz.prog 164=some (.agg ⟨[.string ⟨#[]⟩,.int .u64 0]⟩):=by kernel_rfl
theorem Wq:dK Tryz.prog 45 164 [.string ⟨#[]⟩,.int .u64 0]:=lU (by kernel_rfl) Rh rfl
theorem qA{t:Nat}(h:Nat.beq t 45=true):dK Tryz.prog t 164 [.string ⟨#[]⟩,.int .u64 0]:=by rw[eP h];exact Wq
def tu:List Value:=[.int .i64 0,.int .i64 0,.int .i64 0,.int .u64 0,.slice none 0 0,.int .u64 0,.string ⟨#[]⟩,.int .u64 0,.slice none 0 0,.int .i64 0,.int .i64 0,.int .i64 0,.int .i64 0,.int .i64 0]
theorem Ri:cX Tryz.prog 47=some (.agg ⟨[.int .i64 0,.int .i64 0,.int .i64 0,.int .u64 0,.slice none 0 0,.int .u64 0,.string ⟨#[]⟩,.int .u64 0,.slice none 0 0,.int .i64 0,.int .i64 0,.int .i64 0,.int .i64 0,.int .i64 0]⟩):=by kernel_rfl
theorem rM:dK Tryz.prog 50 47 tu:=lU (by kernel_rfl) Ri rfl
theorem Fs{t:Nat}(h:Nat.beq t 50=true):dK Tryz.prog t 47 tu:=by rw[eP h];exact rM
theorem Ro:cX Tryz.prog 4=some (.bool false):=by kernel_rfl
theorem Xl:dK Tryz.prog 95 4 [.bool false]:=lU (by kernel_rfl) Ro rfl
theorem Ex{t:Nat}(h:Nat.beq t 95=true):dK Tryz.prog t 4 [.bool false]:=by rw[eP h];exact Xl
theorem Wr:cX Tryz.prog 9=some (.string ⟨#[]⟩):=by kernel_rfl
theorem cr:dK Tryz.prog 102 9 [.string ⟨#[]⟩]:=lU (by kernel_rfl) Wr rfl
theorem Xr{t:Nat}(h:Nat.beq t 102=true):dK Tryz.prog t 9 [.string ⟨#[]⟩]:=by rw[eP h];exact cr
end Go.Proofs.YtbajmaoegmbfgaaGreat
