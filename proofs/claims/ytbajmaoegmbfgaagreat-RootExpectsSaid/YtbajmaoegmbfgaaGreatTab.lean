/- What the program's table says of the types that are used: closed facts. Written by a program. -/
import Derived.Test.YtbajmaoegmbfgaaGreatGLst3
import Derived.Test.YtbajmaoegmbfgaaGreatProg
set_option linter.unusedSimpArgs false
set_option linter.unusedVariables false
namespace Go.Proofs.YtbajmaoegmbfgaaGreat
open Go.RowKit Go.Ct
def aBx:List Nat:=[2,3,4,5,9,12,15,16,17,20,21,22,23,25,27,30,31,32,33,37,42,44,45,50,56,62,74,85,95,102,108,115,122,123,129,130,151,156,169,209,255,259]
theorem zb:(aBx.all λ t=>one Tryz.prog t)=true:=by kernel_rfl
theorem Ko{t:Nat}(h:aBx.elem t=true):one Tryz.prog t=true:=List.all_eq_true.1 zb t (List.mem_of_elem_eq_true h)
def aAv:List (Nat×Nat):=[(29,2),(35,4),(39,5),(47,14),(52,3),(54,4),(64,8),(76,2),(87,3),(89,25),(114,2),(125,3),(128,4),(132,14),(139,4),(141,17),(153,52),(159,5),(164,2),(230,2)]
theorem y5:(aAv.all λ p=>kC Tryz.prog p.1 p.2)=true:=by kernel_rfl
theorem Ra{t k:Nat}(h:(aAv.any λ p=>Nat.beq p.1 t&&Nat.beq p.2 k)=true):kC Tryz.prog t k=true:=by
 obtain⟨p,hp,ht⟩:=List.any_eq_true.1 h
 simp only[Bool.and_eq_true] at ht
 have h2:=List.all_eq_true.1 y5 p hp
 rwa [eO ht.1,eO ht.2] at h2
theorem yF:dC Tryz.prog 29=some (.agg ⟨[.int .i64 0,.bool false]⟩):=by kernel_rfl
theorem Gm{t:Nat}(h:Nat.beq t 29=true):dC Tryz.prog t=some (.agg ⟨[.int .i64 0,.bool false]⟩):=by rw[eO h];exact yF
theorem B6{t:Nat}(h:Nat.beq t 29=true):structOf Tryz.prog t [.int .i64 0,.bool false]:=by rw[eO h];exact iG (by kernel_rfl) yF
theorem vF:dC Tryz.prog 35=some (.agg ⟨[.pointer none,.int .u64 0,.slice none 0 0,.slice none 0 0]⟩):=by kernel_rfl
theorem sA{t:Nat}(h:Nat.beq t 35=true):structOf Tryz.prog t [.pointer none,.int .u64 0,.slice none 0 0,.slice none 0 0]:=by rw[eO h];exact iG (by kernel_rfl) vF
theorem yB:dC Tryz.prog 47=some (.agg ⟨[.int .i64 0,.int .i64 0,.int .i64 0,.int .u64 0,.slice none 0 0,.int .u64 0,.string ⟨#[]⟩,.int .u64 0,.slice none 0 0,.int .i64 0,.int .i64 0,.int .i64 0,.int .i64 0,.int .i64 0]⟩):=by kernel_rfl
theorem Fl{t:Nat}(h:Nat.beq t 47=true):dC Tryz.prog t=some (.agg ⟨[.int .i64 0,.int .i64 0,.int .i64 0,.int .u64 0,.slice none 0 0,.int .u64 0,.string ⟨#[]⟩,.int .u64 0,.slice none 0 0,.int .i64 0,.int .i64 0,.int .i64 0,.int .i64 0,.int .i64 0]⟩):=by rw[eO h];exact yB
theorem Bg{t:Nat}(h:Nat.beq t 47=true):structOf Tryz.prog t [.int .i64 0,.int .i64 0,.int .i64 0,.int .u64 0,.slice none 0 0,.int .u64 0,.string ⟨#[]⟩,.int .u64 0,.slice none 0 0,.int .i64 0,.int .i64 0,.int .i64 0,.int .i64 0,.int .i64 0]:=by rw[eO h];exact iG (by kernel_rfl) yB
theorem Ev:dC Tryz.prog 52=some (.agg ⟨[.slice none 0 0,.slice none 0 0,.int .i64 0]⟩):=by kernel_rfl
theorem zX{t:Nat}(h:Nat.beq t 52=true):structOf Tryz.prog t [.slice none 0 0,.slice none 0 0,.int .i64 0]:=by rw[eO h];exact iG (by kernel_rfl) Ev
theorem xN:dC Tryz.prog 54=some (.agg ⟨[.slice none 0 0,.slice none 0 0,.int .i64 0,.int .i64 0]⟩):=by kernel_rfl
theorem uN{t:Nat}(h:Nat.beq t 54=true):placeOf Tryz.prog t [(0,3),(3,1)] [.slice none 0 0,.slice none 0 0,.int .i64 0,.int .i64 0]:=by rw[eO h];exact kY (by kernel_rfl) xN
theorem tW:dC Tryz.prog 64=some (.agg ⟨[.int .i64 0,.bool false,.int .u64 0,.string ⟨#[]⟩,.int .i64 0,.int .i64 0,.int .i64 0,.bool false]⟩):=by kernel_rfl
theorem Bh{t:Nat}(h:Nat.beq t 64=true):dC Tryz.prog t=some (.agg ⟨[.int .i64 0,.bool false,.int .u64 0,.string ⟨#[]⟩,.int .i64 0,.int .i64 0,.int .i64 0,.bool false]⟩):=by rw[eO h];exact tW
theorem zH{t:Nat}(h:Nat.beq t 64=true):placeOf Tryz.prog t [(0,1),(1,1),(2,1),(3,1),(4,1),(5,1),(6,2)] [.int .i64 0,.bool false,.int .u64 0,.string ⟨#[]⟩,.int .i64 0,.int .i64 0,.int .i64 0,.bool false]:=by rw[eO h];exact kY (by kernel_rfl) tW
theorem nF:dC Tryz.prog 89=some (.agg ⟨[.int .i64 0,.int .i64 0,.bool false,.int .i64 0,.int .i64 0,.int .i64 0,.int .i64 0,.int .u64 0,.int .u64 0,.string ⟨#[]⟩,.int .u64 0,.int .u64 0,.int .i64 0,.bool false,.bool false,.slice none 0 0,.slice none 0 0,.int .i64 0,.bool false,.int .u64 0,.string ⟨#[]⟩,.int .i64 0,.int .i64 0,.int .i64 0,.bool false]⟩):=by kernel_rfl
theorem uP{t:Nat}(h:Nat.beq t 89=true):dC Tryz.prog t=some (.agg ⟨[.int .i64 0,.int .i64 0,.bool false,.int .i64 0,.int .i64 0,.int .i64 0,.int .i64 0,.int .u64 0,.int .u64 0,.string ⟨#[]⟩,.int .u64 0,.int .u64 0,.int .i64 0,.bool false,.bool false,.slice none 0 0,.slice none 0 0,.int .i64 0,.bool false,.int .u64 0,.string ⟨#[]⟩,.int .i64 0,.int .i64 0,.int .i64 0,.bool false]⟩):=by rw[eO h];exact nF
theorem sW{t:Nat}(h:Nat.beq t 89=true):placeOf Tryz.prog t [(0,1),(1,2),(3,1),(4,1),(5,1),(6,1),(7,1),(8,1),(9,1),(10,1),(11,1),(12,1),(13,1),(14,3),(17,8)] [.int .i64 0,.int .i64 0,.bool false,.int .i64 0,.int .i64 0,.int .i64 0,.int .i64 0,.int .u64 0,.int .u64 0,.string ⟨#[]⟩,.int .u64 0,.int .u64 0,.int .i64 0,.bool false,.bool false,.slice none 0 0,.slice none 0 0,.int .i64 0,.bool false,.int .u64 0,.string ⟨#[]⟩,.int .i64 0,.int .i64 0,.int .i64 0,.bool false]:=by rw[eO h];exact kY (by kernel_rfl) nF
theorem xQ:dC Tryz.prog 114=some (.agg ⟨[.slice none 0 0,.int .i64 0]⟩):=by kernel_rfl
theorem sV{t:Nat}(h:Nat.beq t 114=true):structOf Tryz.prog t [.slice none 0 0,.int .i64 0]:=by rw[eO h];exact iG (by kernel_rfl) xQ
theorem zQ:dC Tryz.prog 125=some (.agg ⟨[.nilIface,.int .i64 0,.bool false]⟩):=by kernel_rfl
theorem Hz{t:Nat}(h:Nat.beq t 125=true):dC Tryz.prog t=some (.agg ⟨[.nilIface,.int .i64 0,.bool false]⟩):=by rw[eO h];exact zQ
theorem G4{t:Nat}(h:Nat.beq t 125=true):placeOf Tryz.prog t [(0,1),(1,2)] [.nilIface,.int .i64 0,.bool false]:=by rw[eO h];exact kY (by kernel_rfl) zQ
theorem tZ:dC Tryz.prog 128=some (.agg ⟨[.int .i64 0,.int .i64 0,.int .i64 0,.int .i64 0]⟩):=by kernel_rfl
theorem Ba{t:Nat}(h:Nat.beq t 128=true):dC Tryz.prog t=some (.agg ⟨[.int .i64 0,.int .i64 0,.int .i64 0,.int .i64 0]⟩):=by rw[eO h];exact tZ
theorem zC{t:Nat}(h:Nat.beq t 128=true):structOf Tryz.prog t [.int .i64 0,.int .i64 0,.int .i64 0,.int .i64 0]:=by rw[eO h];exact iG (by kernel_rfl) tZ
theorem wE:dC Tryz.prog 132=some (.agg ⟨[.int .i64 0,.int .i64 0,.int .i64 0,.int .i64 0,.nilFunc,.nilFunc,.int .i64 0,.bool false,.int .u64 0,.string ⟨#[]⟩,.int .i64 0,.int .i64 0,.int .i64 0,.bool false]⟩):=by kernel_rfl
theorem Dk{t:Nat}(h:Nat.beq t 132=true):dC Tryz.prog t=some (.agg ⟨[.int .i64 0,.int .i64 0,.int .i64 0,.int .i64 0,.nilFunc,.nilFunc,.int .i64 0,.bool false,.int .u64 0,.string ⟨#[]⟩,.int .i64 0,.int .i64 0,.int .i64 0,.bool false]⟩):=by rw[eO h];exact wE
theorem A6{t:Nat}(h:Nat.beq t 132=true):placeOf Tryz.prog t [(0,4),(4,1),(5,1),(6,8)] [.int .i64 0,.int .i64 0,.int .i64 0,.int .i64 0,.nilFunc,.nilFunc,.int .i64 0,.bool false,.int .u64 0,.string ⟨#[]⟩,.int .i64 0,.int .i64 0,.int .i64 0,.bool false]:=by rw[eO h];exact kY (by kernel_rfl) wE
theorem B5:dC Tryz.prog 139=some (.agg ⟨[.slice none 0 0,.slice none 0 0,.int .i64 0,.int .i64 0]⟩):=by kernel_rfl
theorem xR{t:Nat}(h:Nat.beq t 139=true):structOf Tryz.prog t [.slice none 0 0,.slice none 0 0,.int .i64 0,.int .i64 0]:=by rw[eO h];exact iG (by kernel_rfl) B5
theorem Fj:dC Tryz.prog 141=some (.agg ⟨[.nilIface,.int .i64 0,.int .i64 0,.int .i64 0,.int .i64 0,.nilFunc,.nilFunc,.int .i64 0,.bool false,.int .u64 0,.string ⟨#[]⟩,.int .i64 0,.int .i64 0,.int .i64 0,.bool false,.int .i64 0,.bool false]⟩):=by kernel_rfl
theorem Bj{t:Nat}(h:Nat.beq t 141=true):placeOf Tryz.prog t [(0,1),(1,14),(15,1),(16,1)] [.nilIface,.int .i64 0,.int .i64 0,.int .i64 0,.int .i64 0,.nilFunc,.nilFunc,.int .i64 0,.bool false,.int .u64 0,.string ⟨#[]⟩,.int .i64 0,.int .i64 0,.int .i64 0,.bool false,.int .i64 0,.bool false]:=by rw[eO h];exact kY (by kernel_rfl) Fj
theorem vJ:dC Tryz.prog 153=some (.agg ⟨[.pointer none,.int .i64 0,.int .i64 0,.bool false,.int .i64 0,.int .i64 0,.int .i64 0,.int .i64 0,.int .u64 0,.int .u64 0,.string ⟨#[]⟩,.int .u64 0,.int .u64 0,.int .i64 0,.bool false,.bool false,.slice none 0 0,.slice none 0 0,.int .i64 0,.bool false,.int .u64 0,.string ⟨#[]⟩,.int .i64 0,.int .i64 0,.int .i64 0,.bool false,.slice none 0 0,.slice none 0 0,.slice none 0 0,.slice none 0 0,.int .i64 0,.int .i64 0,.int .i64 0,.int .i64 0,.int .i64 0,.bool false,.int .i64 0,.int .i64 0,.int .i64 0,.int .i64 0,.bool false,.int .i64 0,.bool false,.int .u64 0,.string ⟨#[]⟩,.int .i64 0,.int .i64 0,.int .i64 0,.bool false,.bool false,.slice none 0 0,.slice none 0 0]⟩):=by kernel_rfl
theorem tC{t:Nat}(h:Nat.beq t 153=true):placeOf Tryz.prog t [(0,1),(1,25),(26,1),(27,1),(28,1),(29,1),(30,1),(31,1),(32,1),(33,1),(34,1),(35,1),(36,4),(40,1),(41,8),(49,3)] [.pointer none,.int .i64 0,.int .i64 0,.bool false,.int .i64 0,.int .i64 0,.int .i64 0,.int .i64 0,.int .u64 0,.int .u64 0,.string ⟨#[]⟩,.int .u64 0,.int .u64 0,.int .i64 0,.bool false,.bool false,.slice none 0 0,.slice none 0 0,.int .i64 0,.bool false,.int .u64 0,.string ⟨#[]⟩,.int .i64 0,.int .i64 0,.int .i64 0,.bool false,.slice none 0 0,.slice none 0 0,.slice none 0 0,.slice none 0 0,.int .i64 0,.int .i64 0,.int .i64 0,.int .i64 0,.int .i64 0,.bool false,.int .i64 0,.int .i64 0,.int .i64 0,.int .i64 0,.bool false,.int .i64 0,.bool false,.int .u64 0,.string ⟨#[]⟩,.int .i64 0,.int .i64 0,.int .i64 0,.bool false,.bool false,.slice none 0 0,.slice none 0 0]:=by rw[eO h];exact kY (by kernel_rfl) vJ
theorem yH:dC Tryz.prog 164=some (.agg ⟨[.string ⟨#[]⟩,.int .u64 0]⟩):=by kernel_rfl
theorem Gz{t:Nat}(h:Nat.beq t 164=true):dC Tryz.prog t=some (.agg ⟨[.string ⟨#[]⟩,.int .u64 0]⟩):=by rw[eO h];exact yH
theorem B7{t:Nat}(h:Nat.beq t 164=true):structOf Tryz.prog t [.string ⟨#[]⟩,.int .u64 0]:=by rw[eO h];exact iG (by kernel_rfl) yH
def aA8:List (Nat×Nat):=[(29,0),(29,1),(35,0),(35,1),(35,2),(35,3),(39,0),(39,1),(39,2),(39,3),(39,4),(47,0),(47,1),(47,2),(47,3),(47,4),(47,5),(47,6),(47,7),(47,8),(47,9),(47,10),(47,11),(47,12),(47,13),(52,0),(52,1),(52,2),(54,0),(64,0),(64,1),(64,2),(64,3),(64,4),(64,5),(64,6),(76,0),(76,1),(87,0),(87,1),(87,2),(89,0),(89,1),(114,0),(114,1),(125,0),(125,1),(128,0),(128,1),(128,2),(128,3),(132,0),(139,0),(139,1),(139,2),(139,3),(141,0),(141,1),(153,0),(153,1),(159,0),(164,0),(164,1),(230,0),(230,1)]
theorem xl:(aA8.all λ p=>cS Tryz.prog p.1 p.2==some p.2)=true:=by kernel_rfl
theorem xx{t k:Nat}(h:(aA8.any λ p=>Nat.beq p.1 t&&Nat.beq p.2 k)=true):cS Tryz.prog t k=some k:=by
 obtain⟨p,hp,ht⟩:=List.any_eq_true.1 h
 simp only[Bool.and_eq_true] at ht
 have h2:=eq_of_beq (List.all_eq_true.1 xl p hp)
 rwa [eO ht.1,eO ht.2] at h2
def uq:List (Nat×Nat):=[(29,0),(29,1),(35,0),(35,1),(35,2),(35,3),(39,0),(39,1),(39,2),(39,3),(39,4),(47,0),(47,1),(47,2),(47,3),(47,4),(47,5),(47,6),(47,7),(47,8),(47,9),(47,10),(47,11),(47,12),(47,13),(52,0),(52,1),(52,2),(64,0),(64,1),(64,2),(64,3),(64,4),(64,5),(76,0),(76,1),(87,0),(87,1),(87,2),(89,0),(114,0),(114,1),(125,0),(128,0),(128,1),(128,2),(128,3),(139,0),(139,1),(139,2),(139,3),(141,0),(153,0),(164,0),(164,1),(230,0),(230,1)]
theorem oj:(uq.all λ p=>Al Tryz.prog p.1 p.2==some p.2)=true:=by kernel_rfl
theorem T4{t k:Nat}(h:(uq.any λ p=>Nat.beq p.1 t&&Nat.beq p.2 k)=true):Al Tryz.prog t k=some k:=by
 obtain⟨p,hp,ht⟩:=List.any_eq_true.1 h
 simp only[Bool.and_eq_true] at ht
 have h2:=eq_of_beq (List.all_eq_true.1 oj p hp)
 rwa [eO ht.1,eO ht.2] at h2
theorem wD{t k:Nat}(h:(Nat.beq t 54&&Nat.beq k 1)=true):cS Tryz.prog t k=some 3:=by simp only[Bool.and_eq_true] at h;rw[eO h.1,eO h.2];kernel_rfl
theorem uM{t k:Nat}(h:(Nat.beq t 89&&Nat.beq k 2)=true):cS Tryz.prog t k=some 3:=by simp only[Bool.and_eq_true] at h;rw[eO h.1,eO h.2];kernel_rfl
theorem uC{t k:Nat}(h:(Nat.beq t 89&&Nat.beq k 3)=true):cS Tryz.prog t k=some 4:=by simp only[Bool.and_eq_true] at h;rw[eO h.1,eO h.2];kernel_rfl
theorem uR{t k:Nat}(h:(Nat.beq t 89&&Nat.beq k 4)=true):cS Tryz.prog t k=some 5:=by simp only[Bool.and_eq_true] at h;rw[eO h.1,eO h.2];kernel_rfl
theorem uB{t k:Nat}(h:(Nat.beq t 89&&Nat.beq k 7)=true):cS Tryz.prog t k=some 8:=by simp only[Bool.and_eq_true] at h;rw[eO h.1,eO h.2];kernel_rfl
theorem uJ{t k:Nat}(h:(Nat.beq t 89&&Nat.beq k 8)=true):cS Tryz.prog t k=some 9:=by simp only[Bool.and_eq_true] at h;rw[eO h.1,eO h.2];kernel_rfl
theorem uI{t k:Nat}(h:(Nat.beq t 89&&Nat.beq k 9)=true):cS Tryz.prog t k=some 10:=by simp only[Bool.and_eq_true] at h;rw[eO h.1,eO h.2];kernel_rfl
theorem sM{t k:Nat}(h:(Nat.beq t 89&&Nat.beq k 10)=true):cS Tryz.prog t k=some 11:=by simp only[Bool.and_eq_true] at h;rw[eO h.1,eO h.2];kernel_rfl
theorem sG{t k:Nat}(h:(Nat.beq t 89&&Nat.beq k 11)=true):cS Tryz.prog t k=some 12:=by simp only[Bool.and_eq_true] at h;rw[eO h.1,eO h.2];kernel_rfl
theorem tF{t k:Nat}(h:(Nat.beq t 89&&Nat.beq k 12)=true):cS Tryz.prog t k=some 13:=by simp only[Bool.and_eq_true] at h;rw[eO h.1,eO h.2];kernel_rfl
theorem Dg{t k:Nat}(h:(Nat.beq t 132&&Nat.beq k 1)=true):cS Tryz.prog t k=some 4:=by simp only[Bool.and_eq_true] at h;rw[eO h.1,eO h.2];kernel_rfl
theorem Df{t k:Nat}(h:(Nat.beq t 132&&Nat.beq k 2)=true):cS Tryz.prog t k=some 5:=by simp only[Bool.and_eq_true] at h;rw[eO h.1,eO h.2];kernel_rfl
theorem De{t k:Nat}(h:(Nat.beq t 132&&Nat.beq k 3)=true):cS Tryz.prog t k=some 6:=by simp only[Bool.and_eq_true] at h;rw[eO h.1,eO h.2];kernel_rfl
theorem Dc{t k:Nat}(h:(Nat.beq t 141&&Nat.beq k 2)=true):cS Tryz.prog t k=some 15:=by simp only[Bool.and_eq_true] at h;rw[eO h.1,eO h.2];kernel_rfl
theorem Dn{t k:Nat}(h:(Nat.beq t 141&&Nat.beq k 3)=true):cS Tryz.prog t k=some 16:=by simp only[Bool.and_eq_true] at h;rw[eO h.1,eO h.2];kernel_rfl
theorem uF{t k:Nat}(h:(Nat.beq t 153&&Nat.beq k 2)=true):cS Tryz.prog t k=some 26:=by simp only[Bool.and_eq_true] at h;rw[eO h.1,eO h.2];kernel_rfl
theorem uO{t k:Nat}(h:(Nat.beq t 153&&Nat.beq k 3)=true):cS Tryz.prog t k=some 27:=by simp only[Bool.and_eq_true] at h;rw[eO h.1,eO h.2];kernel_rfl
theorem uD{t k:Nat}(h:(Nat.beq t 153&&Nat.beq k 4)=true):cS Tryz.prog t k=some 28:=by simp only[Bool.and_eq_true] at h;rw[eO h.1,eO h.2];kernel_rfl
theorem uH{t k:Nat}(h:(Nat.beq t 153&&Nat.beq k 5)=true):cS Tryz.prog t k=some 29:=by simp only[Bool.and_eq_true] at h;rw[eO h.1,eO h.2];kernel_rfl
theorem uQ{t k:Nat}(h:(Nat.beq t 153&&Nat.beq k 6)=true):cS Tryz.prog t k=some 30:=by simp only[Bool.and_eq_true] at h;rw[eO h.1,eO h.2];kernel_rfl
theorem uK{t k:Nat}(h:(Nat.beq t 153&&Nat.beq k 7)=true):cS Tryz.prog t k=some 31:=by simp only[Bool.and_eq_true] at h;rw[eO h.1,eO h.2];kernel_rfl
theorem uS{t k:Nat}(h:(Nat.beq t 153&&Nat.beq k 8)=true):cS Tryz.prog t k=some 32:=by simp only[Bool.and_eq_true] at h;rw[eO h.1,eO h.2];kernel_rfl
theorem uL{t k:Nat}(h:(Nat.beq t 153&&Nat.beq k 9)=true):cS Tryz.prog t k=some 33:=by simp only[Bool.and_eq_true] at h;rw[eO h.1,eO h.2];kernel_rfl
theorem tE{t k:Nat}(h:(Nat.beq t 153&&Nat.beq k 10)=true):cS Tryz.prog t k=some 34:=by simp only[Bool.and_eq_true] at h;rw[eO h.1,eO h.2];kernel_rfl
theorem sP{t k:Nat}(h:(Nat.beq t 153&&Nat.beq k 11)=true):cS Tryz.prog t k=some 35:=by simp only[Bool.and_eq_true] at h;rw[eO h.1,eO h.2];kernel_rfl
theorem sO{t k:Nat}(h:(Nat.beq t 153&&Nat.beq k 12)=true):cS Tryz.prog t k=some 36:=by simp only[Bool.and_eq_true] at h;rw[eO h.1,eO h.2];kernel_rfl
theorem sN{t k:Nat}(h:(Nat.beq t 153&&Nat.beq k 13)=true):cS Tryz.prog t k=some 40:=by simp only[Bool.and_eq_true] at h;rw[eO h.1,eO h.2];kernel_rfl
theorem tD{t k:Nat}(h:(Nat.beq t 153&&Nat.beq k 14)=true):cS Tryz.prog t k=some 41:=by simp only[Bool.and_eq_true] at h;rw[eO h.1,eO h.2];kernel_rfl
def aAb:List Nat:=[15,16,17,23,25,30,42,56,74,156,259]
theorem vd:(aAb.all λ t=>I4 Tryz.prog t)=true:=by kernel_rfl
theorem S4{t:Nat}(h:aAb.elem t=true):I4 Tryz.prog t=true:=List.all_eq_true.1 vd t (List.mem_of_elem_eq_true h)
def Yv:List (Nat×Nat):=[(22,3),(32,29),(33,74),(44,37),(45,164),(50,47),(85,230),(95,4),(102,9),(108,76),(115,39),(151,27),(169,31)]
def sg(t:Nat):Nat:=(Yv.lookup t).getD 0
theorem aBa:(Yv.all λ p=>(match Tryz.prog.underlying p.1 with|some (.slice e)=>Nat.beq e p.2&&Nat.beq (sg p.1) p.2|_=>false))=true:=by kernel_rfl
theorem aBi{t:Nat}(h:(Yv.any λ p=>Nat.beq p.1 t)=true):Tryz.prog.underlying t=some (.slice (sg t)):=by
 obtain⟨p,hp,ht⟩:=List.any_eq_true.1 h
 have h2:=List.all_eq_true.1 aBa p hp
 rw[<- eO ht]
 cases hu:Tryz.prog.underlying p.1 with
 | none=>rw[hu] at h2;simp at h2
 | some d =>
  rw[hu] at h2
  cases d<;>simp only[Bool.false_eq_true] at h2
  simp only[Bool.and_eq_true] at h2
  rw[eO h2.1,eO h2.2]
def aAj:List (Nat×Nat):=[(3,1),(4,1),(9,1),(27,1),(29,2),(31,1),(37,1),(39,5),(47,14),(74,1),(76,2),(164,2),(230,2)]
theorem y4:(aAj.all λ p=>(Tryz.prog.info? p.1).map (·.size)==some p.2)=true:=by kernel_rfl
theorem uA{e s:Nat}(h:(aAj.any λ p=>Nat.beq p.1 e&&Nat.beq p.2 s)=true):(Tryz.prog.info? e).map (·.size)=some s:=by
 obtain⟨p,hp,ht⟩:=List.any_eq_true.1 h
 simp only[Bool.and_eq_true] at ht
 have h2:=List.all_eq_true.1 y4 p hp
 rw[<- eO ht.1,<- eO ht.2]
 exact eq_of_beq h2
theorem po{t:Nat}(h:Nat.beq t 4=true):Tryz.prog.underlying t=some .bool:=by
 rw[eO h];kernel_rfl
theorem zm{t:Nat}(h:Nat.beq t 9=true):Tryz.prog.underlying t=some .string:=by
 rw[eO h];kernel_rfl
theorem n8{t:Nat}(h:Nat.beq t 164=true):Ke Tryz.prog t=true:=by
 rw[eO h];kernel_rfl
def aAS:List (Nat×IntKind):=[(2,.i64),(3,.i64),(5,.u8),(12,.u64),(21,.i32),(27,.i64),(31,.u64),(37,.i64),(62,.i64),(209,.u64),(255,.u32)]
theorem yt:(aAS.all λ p=>yG Tryz.prog p.1 p.2)=true:=by kernel_rfl
theorem vN{t:Nat}{k:IntKind}(h:(aAS.any λ p=>Nat.beq p.1 t&&p.2==k)=true):yG Tryz.prog t k=true:=by
 obtain⟨p,hp,ht⟩:=List.any_eq_true.1 h
 simp only[Bool.and_eq_true] at ht
 have h2:=List.all_eq_true.1 yt p hp
 rw[eO ht.1,eq_of_beq ht.2] at h2
 exact h2
def ue(P:Program)(t e s:Nat):Bool :=
 (match P.underlying t with|some (.slice e')=>Nat.beq e' e|_=>false)&&(match P.info? e with
  | some i=>Nat.beq i.size s&&Nat.ble i.bytes 256
  | none=>false)
theorem mV{P:Program}{t e:Nat}{z:Value}{zc:List Value}(h:ue P t e zc.length=true)(hz:dC P e=some z)(hzc:z.cells=⟨zc⟩):dW P t e zc:=by
 unfold ue at h
 simp only[Bool.and_eq_true] at h
 refine⟨?_,?_⟩
 ·cases hu:P.underlying t with
  | none=>simp[hu] at h
  | some d =>
   rw[hu] at h
   cases d<;>simp only[Bool.false_eq_true,false_and] at h
   rw[eO h.1]
 ·cases hi:P.info? e with
  | none=>simp[hi] at h
  | some i =>
   rw[hi] at h
   simp only[Bool.and_eq_true] at h
   exact⟨i,z,rfl,by simpa[dC,hi] using hz,hzc,eO h.2.1,Nat.le_of_ble_eq_true h.2.2⟩
theorem Vr:dC Tryz.prog 3=some (.int .i64 0):=by kernel_rfl
theorem Ey:dW Tryz.prog 22 3 [.int .i64 0]:=mV (by kernel_rfl) Vr rfl
theorem Jk{t:Nat}(h:Nat.beq t 22=true):dW Tryz.prog t 3 [.int .i64 0]:=by rw[eO h];exact Ey
theorem Vw:dC Tryz.prog 37=some (.int .i64 0):=by kernel_rfl
theorem pC:dW Tryz.prog 44 37 [.int .i64 0]:=mV (by kernel_rfl) Vw rfl
theorem I6{t:Nat}(h:Nat.beq t 44=true):dW Tryz.prog t 37 [.int .i64 0]:=by rw[eO h];exact pC
theorem Ss:dC Tryz.prog 164=some (.agg ⟨[.string ⟨#[]⟩,.int .u64 0]⟩):=by kernel_rfl
theorem Xi:dW Tryz.prog 45 164 [.string ⟨#[]⟩,.int .u64 0]:=mV (by kernel_rfl) Ss rfl
theorem pK{t:Nat}(h:Nat.beq t 45=true):dW Tryz.prog t 164 [.string ⟨#[]⟩,.int .u64 0]:=by rw[eO h];exact Xi
def ur:List Value:=[.int .i64 0,.int .i64 0,.int .i64 0,.int .u64 0,.slice none 0 0,.int .u64 0,.string ⟨#[]⟩,.int .u64 0,.slice none 0 0,.int .i64 0,.int .i64 0,.int .i64 0,.int .i64 0,.int .i64 0]
theorem Rl:dC Tryz.prog 47=some (.agg ⟨[.int .i64 0,.int .i64 0,.int .i64 0,.int .u64 0,.slice none 0 0,.int .u64 0,.string ⟨#[]⟩,.int .u64 0,.slice none 0 0,.int .i64 0,.int .i64 0,.int .i64 0,.int .i64 0,.int .i64 0]⟩):=by kernel_rfl
theorem rJ:dW Tryz.prog 50 47 ur:=mV (by kernel_rfl) Rl rfl
theorem F8{t:Nat}(h:Nat.beq t 50=true):dW Tryz.prog t 47 ur:=by rw[eO h];exact rJ
theorem Qx:dC Tryz.prog 4=some (.bool false):=by kernel_rfl
theorem Vs:dW Tryz.prog 95 4 [.bool false]:=mV (by kernel_rfl) Qx rfl
theorem Fy{t:Nat}(h:Nat.beq t 95=true):dW Tryz.prog t 4 [.bool false]:=by rw[eO h];exact Vs
theorem Xe:dC Tryz.prog 9=some (.string ⟨#[]⟩):=by kernel_rfl
theorem ia:dW Tryz.prog 102 9 [.string ⟨#[]⟩]:=mV (by kernel_rfl) Xe rfl
theorem W1{t:Nat}(h:Nat.beq t 102=true):dW Tryz.prog t 9 [.string ⟨#[]⟩]:=by rw[eO h];exact ia
end Go.Proofs.YtbajmaoegmbfgaaGreat
