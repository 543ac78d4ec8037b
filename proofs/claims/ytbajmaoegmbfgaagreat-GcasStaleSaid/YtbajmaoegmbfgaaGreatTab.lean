/- Merged. -/
import Derived.Test.YtbajmaoegmbfgaaGreatGLst3
import Derived.Test.YtbajmaoegmbfgaaGreatProg
set_option linter.unusedSimpArgs false
set_option linter.unusedVariables false
namespace Go.Proofs.YtbajmaoegmbfgaaGreat
open Go.Proofs.Tryz (prog)
open Go.RowKit Go.Ct
def aA4:List Nat:=[2,3,4,5,9,12,15,16,17,20,21,22,23,25,27,30,31,32,33,37,42,44,45,50,56,62,74,85,95,102,108,115,122,123,129,130,151,156,169,209,255,259]
theorem yv:(aA4.all λ t=>one prog t)=true:=by kernel_rfl
theorem M1{t:Nat}(h:aA4.elem t=true):one prog t=true:=List.all_eq_true.1 yv t (List.mem_of_elem_eq_true h)
def aAM:List (Nat×Nat):=[(29,2),(35,4),(39,5),(47,14),(52,3),(54,4),(64,8),(76,2),(87,3),(89,25),(114,2),(125,3),(128,4),(132,14),(139,4),(141,17),(153,52),(159,5),(164,2),(230,2)]
theorem yp:(aAM.all λ p=>jU prog p.1 p.2)=true:=by kernel_rfl
theorem Sb{t k:Nat}(h:(aAM.any λ p=>Nat.beq p.1 t&&Nat.beq p.2 k)=true):jU prog t k=true:=by
 obtain⟨p,hp,ht⟩:=List.any_eq_true.1 h
 simp only[Bool.and_eq_true] at ht
 have h2:=List.all_eq_true.1 yp p hp
 rwa [eV ht.1,eV ht.2] at h2
theorem yS:cU prog 29=some (.agg ⟨[.int .i64 0,.bool false]⟩):=by kernel_rfl
theorem Gl{t:Nat}(h:Nat.beq t 29=true):cU prog t=some (.agg ⟨[.int .i64 0,.bool false]⟩):=by rw[eV h];exact yS
theorem Bx{t:Nat}(h:Nat.beq t 29=true):structOf prog t [.int .i64 0,.bool false]:=by rw[eV h];exact iF (by kernel_rfl) yS
theorem wU:cU prog 35=some (.agg ⟨[.pointer none,.int .u64 0,.slice none 0 0,.slice none 0 0]⟩):=by kernel_rfl
theorem sE{t:Nat}(h:Nat.beq t 35=true):structOf prog t [.pointer none,.int .u64 0,.slice none 0 0,.slice none 0 0]:=by rw[eV h];exact iF (by kernel_rfl) wU
theorem nA:cU prog 39=some (.agg ⟨[.int .i64 0,.int .i64 0,.int .i64 0,.int .i64 0,.slice none 0 0]⟩):=by kernel_rfl
theorem sX{t:Nat}(h:Nat.beq t 39=true):cU prog t=some (.agg ⟨[.int .i64 0,.int .i64 0,.int .i64 0,.int .i64 0,.slice none 0 0]⟩):=by rw[eV h];exact nA
theorem rP{t:Nat}(h:Nat.beq t 39=true):structOf prog t [.int .i64 0,.int .i64 0,.int .i64 0,.int .i64 0,.slice none 0 0]:=by rw[eV h];exact iF (by kernel_rfl) nA
theorem yF:cU prog 47=some (.agg ⟨[.int .i64 0,.int .i64 0,.int .i64 0,.int .u64 0,.slice none 0 0,.int .u64 0,.string ⟨#[]⟩,.int .u64 0,.slice none 0 0,.int .i64 0,.int .i64 0,.int .i64 0,.int .i64 0,.int .i64 0]⟩):=by kernel_rfl
theorem Hj{t:Nat}(h:Nat.beq t 47=true):cU prog t=some (.agg ⟨[.int .i64 0,.int .i64 0,.int .i64 0,.int .u64 0,.slice none 0 0,.int .u64 0,.string ⟨#[]⟩,.int .u64 0,.slice none 0 0,.int .i64 0,.int .i64 0,.int .i64 0,.int .i64 0,.int .i64 0]⟩):=by rw[eV h];exact yF
theorem Bl{t:Nat}(h:Nat.beq t 47=true):structOf prog t [.int .i64 0,.int .i64 0,.int .i64 0,.int .u64 0,.slice none 0 0,.int .u64 0,.string ⟨#[]⟩,.int .u64 0,.slice none 0 0,.int .i64 0,.int .i64 0,.int .i64 0,.int .i64 0,.int .i64 0]:=by rw[eV h];exact iF (by kernel_rfl) yF
theorem vN:cU prog 52=some (.agg ⟨[.slice none 0 0,.slice none 0 0,.int .i64 0]⟩):=by kernel_rfl
theorem Eb{t:Nat}(h:Nat.beq t 52=true):cU prog t=some (.agg ⟨[.slice none 0 0,.slice none 0 0,.int .i64 0]⟩):=by rw[eV h];exact vN
theorem Ba{t:Nat}(h:Nat.beq t 52=true):structOf prog t [.slice none 0 0,.slice none 0 0,.int .i64 0]:=by rw[eV h];exact iF (by kernel_rfl) vN
theorem yA:cU prog 54=some (.agg ⟨[.slice none 0 0,.slice none 0 0,.int .i64 0,.int .i64 0]⟩):=by kernel_rfl
theorem uS{t:Nat}(h:Nat.beq t 54=true):placeOf prog t [(0,3),(3,1)] [.slice none 0 0,.slice none 0 0,.int .i64 0,.int .i64 0]:=by rw[eV h];exact lJ (by kernel_rfl) yA
theorem uE:cU prog 64=some (.agg ⟨[.int .i64 0,.bool false,.int .u64 0,.string ⟨#[]⟩,.int .i64 0,.int .i64 0,.int .i64 0,.bool false]⟩):=by kernel_rfl
theorem Cc{t:Nat}(h:Nat.beq t 64=true):cU prog t=some (.agg ⟨[.int .i64 0,.bool false,.int .u64 0,.string ⟨#[]⟩,.int .i64 0,.int .i64 0,.int .i64 0,.bool false]⟩):=by rw[eV h];exact uE
theorem Ay{t:Nat}(h:Nat.beq t 64=true):placeOf prog t [(0,1),(1,1),(2,1),(3,1),(4,1),(5,1),(6,2)] [.int .i64 0,.bool false,.int .u64 0,.string ⟨#[]⟩,.int .i64 0,.int .i64 0,.int .i64 0,.bool false]:=by rw[eV h];exact lJ (by kernel_rfl) uE
theorem oP:cU prog 89=some (.agg ⟨[.int .i64 0,.int .i64 0,.bool false,.int .i64 0,.int .i64 0,.int .i64 0,.int .i64 0,.int .u64 0,.int .u64 0,.string ⟨#[]⟩,.int .u64 0,.int .u64 0,.int .i64 0,.bool false,.bool false,.slice none 0 0,.slice none 0 0,.int .i64 0,.bool false,.int .u64 0,.string ⟨#[]⟩,.int .i64 0,.int .i64 0,.int .i64 0,.bool false]⟩):=by kernel_rfl
theorem uP{t:Nat}(h:Nat.beq t 89=true):cU prog t=some (.agg ⟨[.int .i64 0,.int .i64 0,.bool false,.int .i64 0,.int .i64 0,.int .i64 0,.int .i64 0,.int .u64 0,.int .u64 0,.string ⟨#[]⟩,.int .u64 0,.int .u64 0,.int .i64 0,.bool false,.bool false,.slice none 0 0,.slice none 0 0,.int .i64 0,.bool false,.int .u64 0,.string ⟨#[]⟩,.int .i64 0,.int .i64 0,.int .i64 0,.bool false]⟩):=by rw[eV h];exact oP
theorem tW{t:Nat}(h:Nat.beq t 89=true):placeOf prog t [(0,1),(1,2),(3,1),(4,1),(5,1),(6,1),(7,1),(8,1),(9,1),(10,1),(11,1),(12,1),(13,1),(14,3),(17,8)] [.int .i64 0,.int .i64 0,.bool false,.int .i64 0,.int .i64 0,.int .i64 0,.int .i64 0,.int .u64 0,.int .u64 0,.string ⟨#[]⟩,.int .u64 0,.int .u64 0,.int .i64 0,.bool false,.bool false,.slice none 0 0,.slice none 0 0,.int .i64 0,.bool false,.int .u64 0,.string ⟨#[]⟩,.int .i64 0,.int .i64 0,.int .i64 0,.bool false]:=by rw[eV h];exact lJ (by kernel_rfl) oP
theorem yC:cU prog 114=some (.agg ⟨[.slice none 0 0,.int .i64 0]⟩):=by kernel_rfl
theorem sV{t:Nat}(h:Nat.beq t 114=true):structOf prog t [.slice none 0 0,.int .i64 0]:=by rw[eV h];exact iF (by kernel_rfl) yC
theorem Aa:cU prog 125=some (.agg ⟨[.nilIface,.int .i64 0,.bool false]⟩):=by kernel_rfl
theorem Im{t:Nat}(h:Nat.beq t 125=true):cU prog t=some (.agg ⟨[.nilIface,.int .i64 0,.bool false]⟩):=by rw[eV h];exact Aa
theorem G6{t:Nat}(h:Nat.beq t 125=true):placeOf prog t [(0,1),(1,2)] [.nilIface,.int .i64 0,.bool false]:=by rw[eV h];exact lJ (by kernel_rfl) Aa
theorem uG:cU prog 128=some (.agg ⟨[.int .i64 0,.int .i64 0,.int .i64 0,.int .i64 0]⟩):=by kernel_rfl
theorem Cm{t:Nat}(h:Nat.beq t 128=true):cU prog t=some (.agg ⟨[.int .i64 0,.int .i64 0,.int .i64 0,.int .i64 0]⟩):=by rw[eV h];exact uG
theorem zH{t:Nat}(h:Nat.beq t 128=true):structOf prog t [.int .i64 0,.int .i64 0,.int .i64 0,.int .i64 0]:=by rw[eV h];exact iF (by kernel_rfl) uG
theorem vS:cU prog 132=some (.agg ⟨[.int .i64 0,.int .i64 0,.int .i64 0,.int .i64 0,.nilFunc,.nilFunc,.int .i64 0,.bool false,.int .u64 0,.string ⟨#[]⟩,.int .i64 0,.int .i64 0,.int .i64 0,.bool false]⟩):=by kernel_rfl
theorem Eg{t:Nat}(h:Nat.beq t 132=true):cU prog t=some (.agg ⟨[.int .i64 0,.int .i64 0,.int .i64 0,.int .i64 0,.nilFunc,.nilFunc,.int .i64 0,.bool false,.int .u64 0,.string ⟨#[]⟩,.int .i64 0,.int .i64 0,.int .i64 0,.bool false]⟩):=by rw[eV h];exact vS
theorem Cp{t:Nat}(h:Nat.beq t 132=true):placeOf prog t [(0,4),(4,1),(5,1),(6,8)] [.int .i64 0,.int .i64 0,.int .i64 0,.int .i64 0,.nilFunc,.nilFunc,.int .i64 0,.bool false,.int .u64 0,.string ⟨#[]⟩,.int .i64 0,.int .i64 0,.int .i64 0,.bool false]:=by rw[eV h];exact lJ (by kernel_rfl) vS
theorem Bm:cU prog 139=some (.agg ⟨[.slice none 0 0,.slice none 0 0,.int .i64 0,.int .i64 0]⟩):=by kernel_rfl
theorem yB{t:Nat}(h:Nat.beq t 139=true):structOf prog t [.slice none 0 0,.slice none 0 0,.int .i64 0,.int .i64 0]:=by rw[eV h];exact iF (by kernel_rfl) Bm
theorem Gj:cU prog 141=some (.agg ⟨[.nilIface,.int .i64 0,.int .i64 0,.int .i64 0,.int .i64 0,.nilFunc,.nilFunc,.int .i64 0,.bool false,.int .u64 0,.string ⟨#[]⟩,.int .i64 0,.int .i64 0,.int .i64 0,.bool false,.int .i64 0,.bool false]⟩):=by kernel_rfl
theorem Cu{t:Nat}(h:Nat.beq t 141=true):placeOf prog t [(0,1),(1,14),(15,1),(16,1)] [.nilIface,.int .i64 0,.int .i64 0,.int .i64 0,.int .i64 0,.nilFunc,.nilFunc,.int .i64 0,.bool false,.int .u64 0,.string ⟨#[]⟩,.int .i64 0,.int .i64 0,.int .i64 0,.bool false,.int .i64 0,.bool false]:=by rw[eV h];exact lJ (by kernel_rfl) Gj
theorem wD:cU prog 153=some (.agg ⟨[.pointer none,.int .i64 0,.int .i64 0,.bool false,.int .i64 0,.int .i64 0,.int .i64 0,.int .i64 0,.int .u64 0,.int .u64 0,.string ⟨#[]⟩,.int .u64 0,.int .u64 0,.int .i64 0,.bool false,.bool false,.slice none 0 0,.slice none 0 0,.int .i64 0,.bool false,.int .u64 0,.string ⟨#[]⟩,.int .i64 0,.int .i64 0,.int .i64 0,.bool false,.slice none 0 0,.slice none 0 0,.slice none 0 0,.slice none 0 0,.int .i64 0,.int .i64 0,.int .i64 0,.int .i64 0,.int .i64 0,.bool false,.int .i64 0,.int .i64 0,.int .i64 0,.int .i64 0,.bool false,.int .i64 0,.bool false,.int .u64 0,.string ⟨#[]⟩,.int .i64 0,.int .i64 0,.int .i64 0,.bool false,.bool false,.slice none 0 0,.slice none 0 0]⟩):=by kernel_rfl
theorem tF{t:Nat}(h:Nat.beq t 153=true):placeOf prog t [(0,1),(1,25),(26,1),(27,1),(28,1),(29,1),(30,1),(31,1),(32,1),(33,1),(34,1),(35,1),(36,4),(40,1),(41,8),(49,3)] [.pointer none,.int .i64 0,.int .i64 0,.bool false,.int .i64 0,.int .i64 0,.int .i64 0,.int .i64 0,.int .u64 0,.int .u64 0,.string ⟨#[]⟩,.int .u64 0,.int .u64 0,.int .i64 0,.bool false,.bool false,.slice none 0 0,.slice none 0 0,.int .i64 0,.bool false,.int .u64 0,.string ⟨#[]⟩,.int .i64 0,.int .i64 0,.int .i64 0,.bool false,.slice none 0 0,.slice none 0 0,.slice none 0 0,.slice none 0 0,.int .i64 0,.int .i64 0,.int .i64 0,.int .i64 0,.int .i64 0,.bool false,.int .i64 0,.int .i64 0,.int .i64 0,.int .i64 0,.bool false,.int .i64 0,.bool false,.int .u64 0,.string ⟨#[]⟩,.int .i64 0,.int .i64 0,.int .i64 0,.bool false,.bool false,.slice none 0 0,.slice none 0 0]:=by rw[eV h];exact lJ (by kernel_rfl) wD
theorem yN:cU prog 164=some (.agg ⟨[.string ⟨#[]⟩,.int .u64 0]⟩):=by kernel_rfl
theorem Gi{t:Nat}(h:Nat.beq t 164=true):cU prog t=some (.agg ⟨[.string ⟨#[]⟩,.int .u64 0]⟩):=by rw[eV h];exact yN
theorem B6{t:Nat}(h:Nat.beq t 164=true):structOf prog t [.string ⟨#[]⟩,.int .u64 0]:=by rw[eV h];exact iF (by kernel_rfl) yN
def aBU:List (Nat×Nat):=[(29,0),(29,1),(35,0),(35,1),(35,2),(35,3),(39,0),(39,1),(39,2),(39,3),(39,4),(47,0),(47,1),(47,2),(47,3),(47,4),(47,5),(47,6),(47,7),(47,8),(47,9),(47,10),(47,11),(47,12),(47,13),(52,0),(52,1),(52,2),(54,0),(64,0),(64,1),(64,2),(64,3),(64,4),(64,5),(64,6),(76,0),(76,1),(87,0),(87,1),(87,2),(89,0),(89,1),(114,0),(114,1),(125,0),(125,1),(128,0),(128,1),(128,2),(128,3),(132,0),(139,0),(139,1),(139,2),(139,3),(141,0),(141,1),(153,0),(153,1),(159,0),(164,0),(164,1),(230,0),(230,1)]
theorem xm:(aBU.all λ p=>cW prog p.1 p.2==some p.2)=true:=by kernel_rfl
theorem zu{t k:Nat}(h:(aBU.any λ p=>Nat.beq p.1 t&&Nat.beq p.2 k)=true):cW prog t k=some k:=by
 obtain⟨p,hp,ht⟩:=List.any_eq_true.1 h
 simp only[Bool.and_eq_true] at ht
 have h2:=eq_of_beq (List.all_eq_true.1 xm p hp)
 rwa [eV ht.1,eV ht.2] at h2
def wb:List (Nat×Nat):=[(29,0),(29,1),(35,0),(35,1),(35,2),(35,3),(39,0),(39,1),(39,2),(39,3),(39,4),(47,0),(47,1),(47,2),(47,3),(47,4),(47,5),(47,6),(47,7),(47,8),(47,9),(47,10),(47,11),(47,12),(47,13),(52,0),(52,1),(52,2),(64,0),(64,1),(64,2),(64,3),(64,4),(64,5),(76,0),(76,1),(87,0),(87,1),(87,2),(89,0),(114,0),(114,1),(125,0),(128,0),(128,1),(128,2),(128,3),(139,0),(139,1),(139,2),(139,3),(141,0),(153,0),(164,0),(164,1),(230,0),(230,1)]
theorem ti:(wb.all λ p=>Az prog p.1 p.2==some p.2)=true:=by kernel_rfl
theorem Mt{t k:Nat}(h:(wb.any λ p=>Nat.beq p.1 t&&Nat.beq p.2 k)=true):Az prog t k=some k:=by
 obtain⟨p,hp,ht⟩:=List.any_eq_true.1 h
 simp only[Bool.and_eq_true] at ht
 have h2:=eq_of_beq (List.all_eq_true.1 ti p hp)
 rwa [eV ht.1,eV ht.2] at h2
theorem vT{t k:Nat}(h:(Nat.beq t 54&&Nat.beq k 1)=true):cW prog t k=some 3:=by simp only[Bool.and_eq_true] at h;rw[eV h.1,eV h.2];kernel_rfl
theorem uT{t k:Nat}(h:(Nat.beq t 89&&Nat.beq k 2)=true):cW prog t k=some 3:=by simp only[Bool.and_eq_true] at h;rw[eV h.1,eV h.2];kernel_rfl
theorem uO{t k:Nat}(h:(Nat.beq t 89&&Nat.beq k 3)=true):cW prog t k=some 4:=by simp only[Bool.and_eq_true] at h;rw[eV h.1,eV h.2];kernel_rfl
theorem uQ{t k:Nat}(h:(Nat.beq t 89&&Nat.beq k 4)=true):cW prog t k=some 5:=by simp only[Bool.and_eq_true] at h;rw[eV h.1,eV h.2];kernel_rfl
theorem vD{t k:Nat}(h:(Nat.beq t 89&&Nat.beq k 7)=true):cW prog t k=some 8:=by simp only[Bool.and_eq_true] at h;rw[eV h.1,eV h.2];kernel_rfl
theorem uY{t k:Nat}(h:(Nat.beq t 89&&Nat.beq k 8)=true):cW prog t k=some 9:=by simp only[Bool.and_eq_true] at h;rw[eV h.1,eV h.2];kernel_rfl
theorem uX{t k:Nat}(h:(Nat.beq t 89&&Nat.beq k 9)=true):cW prog t k=some 10:=by simp only[Bool.and_eq_true] at h;rw[eV h.1,eV h.2];kernel_rfl
theorem tU{t k:Nat}(h:(Nat.beq t 89&&Nat.beq k 10)=true):cW prog t k=some 11:=by simp only[Bool.and_eq_true] at h;rw[eV h.1,eV h.2];kernel_rfl
theorem tH{t k:Nat}(h:(Nat.beq t 89&&Nat.beq k 11)=true):cW prog t k=some 12:=by simp only[Bool.and_eq_true] at h;rw[eV h.1,eV h.2];kernel_rfl
theorem sW{t k:Nat}(h:(Nat.beq t 89&&Nat.beq k 12)=true):cW prog t k=some 13:=by simp only[Bool.and_eq_true] at h;rw[eV h.1,eV h.2];kernel_rfl
theorem Ef{t k:Nat}(h:(Nat.beq t 132&&Nat.beq k 1)=true):cW prog t k=some 4:=by simp only[Bool.and_eq_true] at h;rw[eV h.1,eV h.2];kernel_rfl
theorem D5{t k:Nat}(h:(Nat.beq t 132&&Nat.beq k 2)=true):cW prog t k=some 5:=by simp only[Bool.and_eq_true] at h;rw[eV h.1,eV h.2];kernel_rfl
theorem D4{t k:Nat}(h:(Nat.beq t 132&&Nat.beq k 3)=true):cW prog t k=some 6:=by simp only[Bool.and_eq_true] at h;rw[eV h.1,eV h.2];kernel_rfl
theorem D9{t k:Nat}(h:(Nat.beq t 141&&Nat.beq k 2)=true):cW prog t k=some 15:=by simp only[Bool.and_eq_true] at h;rw[eV h.1,eV h.2];kernel_rfl
theorem D6{t k:Nat}(h:(Nat.beq t 141&&Nat.beq k 3)=true):cW prog t k=some 16:=by simp only[Bool.and_eq_true] at h;rw[eV h.1,eV h.2];kernel_rfl
theorem uN{t k:Nat}(h:(Nat.beq t 153&&Nat.beq k 2)=true):cW prog t k=some 26:=by simp only[Bool.and_eq_true] at h;rw[eV h.1,eV h.2];kernel_rfl
theorem vA{t k:Nat}(h:(Nat.beq t 153&&Nat.beq k 3)=true):cW prog t k=some 27:=by simp only[Bool.and_eq_true] at h;rw[eV h.1,eV h.2];kernel_rfl
theorem uZ{t k:Nat}(h:(Nat.beq t 153&&Nat.beq k 4)=true):cW prog t k=some 28:=by simp only[Bool.and_eq_true] at h;rw[eV h.1,eV h.2];kernel_rfl
theorem vE{t k:Nat}(h:(Nat.beq t 153&&Nat.beq k 5)=true):cW prog t k=some 29:=by simp only[Bool.and_eq_true] at h;rw[eV h.1,eV h.2];kernel_rfl
theorem vC{t k:Nat}(h:(Nat.beq t 153&&Nat.beq k 6)=true):cW prog t k=some 30:=by simp only[Bool.and_eq_true] at h;rw[eV h.1,eV h.2];kernel_rfl
theorem uW{t k:Nat}(h:(Nat.beq t 153&&Nat.beq k 7)=true):cW prog t k=some 31:=by simp only[Bool.and_eq_true] at h;rw[eV h.1,eV h.2];kernel_rfl
theorem uR{t k:Nat}(h:(Nat.beq t 153&&Nat.beq k 8)=true):cW prog t k=some 32:=by simp only[Bool.and_eq_true] at h;rw[eV h.1,eV h.2];kernel_rfl
theorem uU{t k:Nat}(h:(Nat.beq t 153&&Nat.beq k 9)=true):cW prog t k=some 33:=by simp only[Bool.and_eq_true] at h;rw[eV h.1,eV h.2];kernel_rfl
theorem tC{t k:Nat}(h:(Nat.beq t 153&&Nat.beq k 10)=true):cW prog t k=some 34:=by simp only[Bool.and_eq_true] at h;rw[eV h.1,eV h.2];kernel_rfl
theorem sQ{t k:Nat}(h:(Nat.beq t 153&&Nat.beq k 11)=true):cW prog t k=some 35:=by simp only[Bool.and_eq_true] at h;rw[eV h.1,eV h.2];kernel_rfl
theorem tD{t k:Nat}(h:(Nat.beq t 153&&Nat.beq k 12)=true):cW prog t k=some 36:=by simp only[Bool.and_eq_true] at h;rw[eV h.1,eV h.2];kernel_rfl
theorem tA{t k:Nat}(h:(Nat.beq t 153&&Nat.beq k 13)=true):cW prog t k=some 40:=by simp only[Bool.and_eq_true] at h;rw[eV h.1,eV h.2];kernel_rfl
theorem sP{t k:Nat}(h:(Nat.beq t 153&&Nat.beq k 14)=true):cW prog t k=some 41:=by simp only[Bool.and_eq_true] at h;rw[eV h.1,eV h.2];kernel_rfl
def aBd:List Nat:=[15,16,17,23,25,30,42,56,74,156,259]
theorem aAh:(aBd.all λ t=>Kj prog t)=true:=by kernel_rfl
theorem S9{t:Nat}(h:aBd.elem t=true):Kj prog t=true:=List.all_eq_true.1 aAh t (List.mem_of_elem_eq_true h)
def fv:List (Nat×Nat):=[(22,3),(32,29),(33,74),(44,37),(45,164),(50,47),(85,230),(95,4),(102,9),(108,76),(115,39),(151,27),(169,31)]
def uy(t:Nat):Nat:=(fv.lookup t).getD 0
theorem aA1:(fv.all λ p=>(match prog.underlying p.1 with|some (.slice e)=>Nat.beq e p.2&&Nat.beq (uy p.1) p.2|_=>false))=true:=by kernel_rfl
theorem aBO{t:Nat}(h:(fv.any λ p=>Nat.beq p.1 t)=true):prog.underlying t=some (.slice (uy t)):=by
 obtain⟨p,hp,ht⟩:=List.any_eq_true.1 h
 have h2:=List.all_eq_true.1 aA1 p hp
 rw[<- eV ht]
 cases hu:prog.underlying p.1 with
 | none=>rw[hu] at h2;simp at h2
 | some d =>
  rw[hu] at h2
  cases d<;>simp only[Bool.false_eq_true] at h2
  simp only[Bool.and_eq_true] at h2
  rw[eV h2.1,eV h2.2]
def aBW:List (Nat×Nat):=[(3,1),(4,1),(9,1),(27,1),(29,2),(31,1),(37,1),(39,5),(47,14),(74,1),(76,2),(164,2),(230,2)]
theorem ym:(aBW.all λ p=>(prog.info? p.1).map (·.size)==some p.2)=true:=by kernel_rfl
theorem uH{e s:Nat}(h:(aBW.any λ p=>Nat.beq p.1 e&&Nat.beq p.2 s)=true):(prog.info? e).map (·.size)=some s:=by
 obtain⟨p,hp,ht⟩:=List.any_eq_true.1 h
 simp only[Bool.and_eq_true] at ht
 have h2:=List.all_eq_true.1 ym p hp
 rw[<- eV ht.1,<- eV ht.2]
 exact eq_of_beq h2
theorem xh{t:Nat}(h:Nat.beq t 9=true):prog.underlying t=some .string:=by
 rw[eV h];kernel_rfl
theorem qp{t:Nat}(h:Nat.beq t 164=true):Me prog t=true:=by
 rw[eV h];kernel_rfl
def aBy:List (Nat×IntKind):=[(2,.i64),(3,.i64),(5,.u8),(12,.u64),(21,.i32),(27,.i64),(31,.u64),(37,.i64),(62,.i64),(209,.u64),(255,.u32)]
theorem aAB:(aBy.all λ p=>yH prog p.1 p.2)=true:=by kernel_rfl
theorem wM{t:Nat}{k:IntKind}(h:(aBy.any λ p=>Nat.beq p.1 t&&p.2==k)=true):yH prog t k=true:=by
 obtain⟨p,hp,ht⟩:=List.any_eq_true.1 h
 simp only[Bool.and_eq_true] at ht
 have h2:=List.all_eq_true.1 aAB p hp
 rw[eV ht.1,eq_of_beq ht.2] at h2
 exact h2
def vv(P:Program)(t e s:Nat):Bool :=
 (match P.underlying t with|some (.slice e')=>Nat.beq e' e|_=>false)&&(match P.info? e with
  | some i=>Nat.beq i.size s&&Nat.ble i.bytes 256
  | none=>false)
theorem mQ{P:Program}{t e:Nat}{z:Value}{zc:List Value}(h:vv P t e zc.length=true)(hz:cU P e=some z)(hzc:z.cells=⟨zc⟩):dS P t e zc:=by
 unfold vv at h
 simp only[Bool.and_eq_true] at h
 refine⟨?_,?_⟩
 ·cases hu:P.underlying t with
  | none=>simp[hu] at h
  | some d =>
   rw[hu] at h
   cases d<;>simp only[Bool.false_eq_true,false_and] at h
   rw[eV h.1]
 ·cases hi:P.info? e with
  | none=>simp[hi] at h
  | some i =>
   rw[hi] at h
   simp only[Bool.and_eq_true] at h
   exact⟨i,z,rfl,by simpa[cU,hi] using hz,hzc,eV h.2.1,Nat.le_of_ble_eq_true h.2.2⟩
theorem Za:cU prog 3=some (.int .i64 0):=by kernel_rfl
theorem Hv:dS prog 22 3 [.int .i64 0]:=mQ (by kernel_rfl) Za rfl
theorem Kl{t:Nat}(h:Nat.beq t 22=true):dS prog t 3 [.int .i64 0]:=by rw[eV h];exact Hv
theorem Yq:cU prog 37=some (.int .i64 0):=by kernel_rfl
theorem qM:dS prog 44 37 [.int .i64 0]:=mQ (by kernel_rfl) Yq rfl
theorem Kv{t:Nat}(h:Nat.beq t 44=true):dS prog t 37 [.int .i64 0]:=by rw[eV h];exact qM
theorem Ue:cU prog 164=some (.agg ⟨[.string ⟨#[]⟩,.int .u64 0]⟩):=by kernel_rfl
theorem Xc:dS prog 45 164 [.string ⟨#[]⟩,.int .u64 0]:=mQ (by kernel_rfl) Ue rfl
theorem qG{t:Nat}(h:Nat.beq t 45=true):dS prog t 164 [.string ⟨#[]⟩,.int .u64 0]:=by rw[eV h];exact Xc
def wi:List Value:=[.int .i64 0,.int .i64 0,.int .i64 0,.int .u64 0,.slice none 0 0,.int .u64 0,.string ⟨#[]⟩,.int .u64 0,.slice none 0 0,.int .i64 0,.int .i64 0,.int .i64 0,.int .i64 0,.int .i64 0]
theorem R3:cU prog 47=some (.agg ⟨[.int .i64 0,.int .i64 0,.int .i64 0,.int .u64 0,.slice none 0 0,.int .u64 0,.string ⟨#[]⟩,.int .u64 0,.slice none 0 0,.int .i64 0,.int .i64 0,.int .i64 0,.int .i64 0,.int .i64 0]⟩):=by kernel_rfl
theorem sK:dS prog 50 47 wi:=mQ (by kernel_rfl) R3 rfl
theorem Gv{t:Nat}(h:Nat.beq t 50=true):dS prog t 47 wi:=by rw[eV h];exact sK
theorem Sj:cU prog 4=some (.bool false):=by kernel_rfl
theorem Yl:dS prog 95 4 [.bool false]:=mQ (by kernel_rfl) Sj rfl
theorem Fp{t:Nat}(h:Nat.beq t 95=true):dS prog t 4 [.bool false]:=by rw[eV h];exact Yl
theorem Yt:cU prog 9=some (.string ⟨#[]⟩):=by kernel_rfl
theorem ji:dS prog 102 9 [.string ⟨#[]⟩]:=mQ (by kernel_rfl) Yt rfl
theorem Xd{t:Nat}(h:Nat.beq t 102=true):dS prog t 9 [.string ⟨#[]⟩]:=by rw[eV h];exact ji
end Go.Proofs.YtbajmaoegmbfgaaGreat
