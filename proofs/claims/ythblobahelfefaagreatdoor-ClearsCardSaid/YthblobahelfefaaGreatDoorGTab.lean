/- Merged. -/
import Derived.Test.YthblobahelfefaaGreatDoorGLst2
import Derived.Test.YthblobahelfefaaGreatDoorProg
import Derived.Test.YthblobahelfefaaGreatDoorGFun
import Derived.Deep.Slices
import Derived.Test.YthblobahelfefaaGreatDoorCards
import Derived.Test.YthblobahelfefaaGreatDoorTie
import Derived.Deep.DeepHandedRow
import Derived.Lib.LaidTab
set_option linter.unusedSimpArgs false
set_option linter.unusedVariables false
namespace Go.Proofs.YthblobahelfefaaGreatDoor
open Go.Proofs.Tryz
open Go.RowKit Go.Ct
section
def aFc:List Nat:=[2,3,4,5,9,12,15,16,17,20,21,22,23,28,29,32,35,39,40,43,51,52,53,54,59,61,65,66,69,70,81,84,85,90,93,96,99,101,102,114,117,118,121,122,125,126,127,128,129,141,142,155,156,175,199,205,208,219,223,227,228,253,259,295,303,323,334,344,353,368,373]
theorem aCi:(aFc.all λ t=>one prog t)=true:=by kernel_rfl
theorem Oo{t:Nat}(h:aFc.elem t=true):one prog t=true:=List.all_eq_true.1 aCi t (List.mem_of_elem_eq_true h)
def aEL:List (Nat×Nat):=[(26,5),(31,3),(49,2),(56,6),(72,2),(74,8),(76,11),(83,3),(95,2),(98,10),(104,8),(111,2),(116,2),(120,3),(124,4),(131,5),(135,4),(140,4),(144,14),(146,17),(162,2),(166,3),(194,14),(201,3),(204,12),(207,9),(210,5),(222,3),(225,5),(230,3),(255,3),(297,15),(336,7),(348,20)]
variable{t:Nat}
theorem aDK:(aEL.all λ p=>gX prog p.1 p.2)=true:=by kernel_rfl
theorem Ty{k:Nat}(h:(aEL.any λ p=>Nat.beq p.1 t&&Nat.beq p.2 k)=true):gX prog t k=true:=by obtain⟨p,hp,ht⟩:=List.any_eq_true.1 h;simp only[Bool.and_eq_true] at ht;have h2:=List.all_eq_true.1 aDK p hp;rwa [eJ ht.1,eJ ht.2] at h2
theorem D5:bR prog 26=some (.agg ⟨[.int .i64 0,.int .i64 0,.string ⟨#[]⟩,.int .u64 0,.int .u64 0]⟩):=by kernel_rfl
theorem O3(h:Nat.beq t 26=true):bR prog t=some (.agg ⟨[.int .i64 0,.int .i64 0,.string ⟨#[]⟩,.int .u64 0,.int .u64 0]⟩):=by rw[eJ h];exact D5
theorem G0(h:Nat.beq t 26=true):structOf prog t [.int .i64 0,.int .i64 0,.string ⟨#[]⟩,.int .u64 0,.int .u64 0]:=by rw[eJ h];exact dR (by kernel_rfl) D5
theorem tJ:bR prog 31=some (.agg ⟨[.int .u64 0,.slice none 0 0,.slice none 0 0]⟩):=by kernel_rfl
theorem C6(h:Nat.beq t 31=true):bR prog t=some (.agg ⟨[.int .u64 0,.slice none 0 0,.slice none 0 0]⟩):=by rw[eJ h];exact tJ
theorem zD(h:Nat.beq t 31=true):structOf prog t [.int .u64 0,.slice none 0 0,.slice none 0 0]:=by rw[eJ h];exact dR (by kernel_rfl) tJ
theorem xC:bR prog 49=some (.agg ⟨[.slice none 0 0,.int .i64 0]⟩):=by kernel_rfl
theorem rV(h:Nat.beq t 49=true):structOf prog t [.slice none 0 0,.int .i64 0]:=by rw[eJ h];exact dR (by kernel_rfl) xC
theorem zM:bR prog 56=some (.agg ⟨[.pointer none,.pointer none,.slice none 0 0,.slice none 0 0,.slice none 0 0,.int .i64 0]⟩):=by kernel_rfl
theorem tY(h:Nat.beq t 56=true):structOf prog t [.pointer none,.pointer none,.slice none 0 0,.slice none 0 0,.slice none 0 0,.int .i64 0]:=by rw[eJ h];exact dR (by kernel_rfl) zM
theorem xP:bR prog 72=some (.agg ⟨[.int .i64 0,.bool false]⟩):=by kernel_rfl
theorem G5(h:Nat.beq t 72=true):bR prog t=some (.agg ⟨[.int .i64 0,.bool false]⟩):=by rw[eJ h];exact xP
theorem De(h:Nat.beq t 72=true):structOf prog t [.int .i64 0,.bool false]:=by rw[eJ h];exact dR (by kernel_rfl) xP
theorem tE:bR prog 74=some (.agg ⟨[.int .i64 0,.bool false,.int .u64 0,.string ⟨#[]⟩,.int .i64 0,.int .i64 0,.int .i64 0,.bool false]⟩):=by kernel_rfl
theorem C7(h:Nat.beq t 74=true):bR prog t=some (.agg ⟨[.int .i64 0,.bool false,.int .u64 0,.string ⟨#[]⟩,.int .i64 0,.int .i64 0,.int .i64 0,.bool false]⟩):=by rw[eJ h];exact tE
theorem zT(h:Nat.beq t 74=true):placeOf prog t [(0,1),(1,1),(2,1),(3,1),(4,1),(5,1),(6,2)] [.int .i64 0,.bool false,.int .u64 0,.string ⟨#[]⟩,.int .i64 0,.int .i64 0,.int .i64 0,.bool false]:=by rw[eJ h];exact gH (by kernel_rfl) tE
theorem uU:bR prog 76=some (.agg ⟨[.int .i64 0,.int .i64 0,.bool false,.int .i64 0,.bool false,.int .u64 0,.string ⟨#[]⟩,.int .i64 0,.int .i64 0,.int .i64 0,.bool false]⟩):=by kernel_rfl
theorem Eo(h:Nat.beq t 76=true):bR prog t=some (.agg ⟨[.int .i64 0,.int .i64 0,.bool false,.int .i64 0,.bool false,.int .u64 0,.string ⟨#[]⟩,.int .i64 0,.int .i64 0,.int .i64 0,.bool false]⟩):=by rw[eJ h];exact uU
theorem C4(h:Nat.beq t 76=true):placeOf prog t [(0,1),(1,1),(2,1),(3,8)] [.int .i64 0,.int .i64 0,.bool false,.int .i64 0,.bool false,.int .u64 0,.string ⟨#[]⟩,.int .i64 0,.int .i64 0,.int .i64 0,.bool false]:=by rw[eJ h];exact gH (by kernel_rfl) uU
theorem Ao:bR prog 83=some (.agg ⟨[.slice none 0 0,.int .i64 0,.pointer none]⟩):=by kernel_rfl
theorem vI(h:Nat.beq t 83=true):structOf prog t [.slice none 0 0,.int .i64 0,.pointer none]:=by rw[eJ h];exact dR (by kernel_rfl) Ao
theorem Cn:bR prog 95=some (.agg ⟨[.slice none 0 0,.slice none 0 0]⟩):=by kernel_rfl
theorem xM(h:Nat.beq t 95=true):structOf prog t [.slice none 0 0,.slice none 0 0]:=by rw[eJ h];exact dR (by kernel_rfl) Cn
theorem vB:bR prog 98=some (.agg ⟨[.int .i64 0,.int .i64 0,.int .i64 0,.bool false,.int .u64 0,.string ⟨#[]⟩,.int .i64 0,.int .i64 0,.int .i64 0,.bool false]⟩):=by kernel_rfl
theorem Ep(h:Nat.beq t 98=true):bR prog t=some (.agg ⟨[.int .i64 0,.int .i64 0,.int .i64 0,.bool false,.int .u64 0,.string ⟨#[]⟩,.int .i64 0,.int .i64 0,.int .i64 0,.bool false]⟩):=by rw[eJ h];exact vB
theorem Da(h:Nat.beq t 98=true):placeOf prog t [(0,1),(1,1),(2,8)] [.int .i64 0,.int .i64 0,.int .i64 0,.bool false,.int .u64 0,.string ⟨#[]⟩,.int .i64 0,.int .i64 0,.int .i64 0,.bool false]:=by rw[eJ h];exact gH (by kernel_rfl) vB
theorem Cu:bR prog 104=some (.agg ⟨[.pointer none,.slice none 0 0,.int .u32 0,.slice none 0 0,.slice none 0 0,.slice none 0 0,.slice none 0 0,.map none]⟩):=by kernel_rfl
theorem xL(h:Nat.beq t 104=true):structOf prog t [.pointer none,.slice none 0 0,.int .u32 0,.slice none 0 0,.slice none 0 0,.slice none 0 0,.slice none 0 0,.map none]:=by rw[eJ h];exact dR (by kernel_rfl) Cu
theorem Cy:bR prog 111=some (.agg ⟨[.int .u32 0,.string ⟨#[]⟩]⟩):=by kernel_rfl
theorem xG(h:Nat.beq t 111=true):structOf prog t [.int .u32 0,.string ⟨#[]⟩]:=by rw[eJ h];exact dR (by kernel_rfl) Cy
theorem oN:bR prog 116=some (.agg ⟨[.map none,.bool false]⟩):=by kernel_rfl
theorem xA(h:Nat.beq t 116=true):bR prog t=some (.agg ⟨[.map none,.bool false]⟩):=by rw[eJ h];exact oN
theorem tX(h:Nat.beq t 116=true):structOf prog t [.map none,.bool false]:=by rw[eJ h];exact dR (by kernel_rfl) oN
theorem Ag:bR prog 120=some (.agg ⟨[.int .u64 0,.map none,.map none]⟩):=by kernel_rfl
theorem uJ(h:Nat.beq t 120=true):structOf prog t [.int .u64 0,.map none,.map none]:=by rw[eJ h];exact dR (by kernel_rfl) Ag
theorem B6:bR prog 124=some (.agg ⟨[.slice none 0 0,.slice none 0 0,.int .i64 0,.int .i64 0]⟩):=by kernel_rfl
theorem xF(h:Nat.beq t 124=true):structOf prog t [.slice none 0 0,.slice none 0 0,.int .i64 0,.int .i64 0]:=by rw[eJ h];exact dR (by kernel_rfl) B6
theorem zS:bR prog 131=some (.agg ⟨[.nilIface,.int .u64 0,.map none,.map none,.map none]⟩):=by kernel_rfl
theorem vC(h:Nat.beq t 131=true):structOf prog t [.nilIface,.int .u64 0,.map none,.map none,.map none]:=by rw[eJ h];exact dR (by kernel_rfl) zS
theorem pI:bR prog 135=some (.agg ⟨[.int .i64 0,.int .i64 0,.bool false,.bool false]⟩):=by kernel_rfl
theorem yS(h:Nat.beq t 135=true):bR prog t=some (.agg ⟨[.int .i64 0,.int .i64 0,.bool false,.bool false]⟩):=by rw[eJ h];exact pI
theorem xI(h:Nat.beq t 135=true):placeOf prog t [(0,1),(1,2),(3,1)] [.int .i64 0,.int .i64 0,.bool false,.bool false]:=by rw[eJ h];exact gH (by kernel_rfl) pI
theorem tA:bR prog 140=some (.agg ⟨[.int .i64 0,.int .i64 0,.int .i64 0,.int .i64 0]⟩):=by kernel_rfl
theorem Dv(h:Nat.beq t 140=true):bR prog t=some (.agg ⟨[.int .i64 0,.int .i64 0,.int .i64 0,.int .i64 0]⟩):=by rw[eJ h];exact tA
theorem zF(h:Nat.beq t 140=true):structOf prog t [.int .i64 0,.int .i64 0,.int .i64 0,.int .i64 0]:=by rw[eJ h];exact dR (by kernel_rfl) tA
theorem vA:bR prog 144=some (.agg ⟨[.int .i64 0,.int .i64 0,.int .i64 0,.int .i64 0,.nilFunc,.nilFunc,.int .i64 0,.bool false,.int .u64 0,.string ⟨#[]⟩,.int .i64 0,.int .i64 0,.int .i64 0,.bool false]⟩):=by kernel_rfl
theorem Eh(h:Nat.beq t 144=true):bR prog t=some (.agg ⟨[.int .i64 0,.int .i64 0,.int .i64 0,.int .i64 0,.nilFunc,.nilFunc,.int .i64 0,.bool false,.int .u64 0,.string ⟨#[]⟩,.int .i64 0,.int .i64 0,.int .i64 0,.bool false]⟩):=by rw[eJ h];exact vA
theorem Dd(h:Nat.beq t 144=true):placeOf prog t [(0,4),(4,1),(5,1),(6,8)] [.int .i64 0,.int .i64 0,.int .i64 0,.int .i64 0,.nilFunc,.nilFunc,.int .i64 0,.bool false,.int .u64 0,.string ⟨#[]⟩,.int .i64 0,.int .i64 0,.int .i64 0,.bool false]:=by rw[eJ h];exact gH (by kernel_rfl) vA
theorem H0:bR prog 146=some (.agg ⟨[.nilIface,.int .i64 0,.int .i64 0,.int .i64 0,.int .i64 0,.nilFunc,.nilFunc,.int .i64 0,.bool false,.int .u64 0,.string ⟨#[]⟩,.int .i64 0,.int .i64 0,.int .i64 0,.bool false,.int .i64 0,.bool false]⟩):=by kernel_rfl
theorem Cr(h:Nat.beq t 146=true):placeOf prog t [(0,1),(1,14),(15,1),(16,1)] [.nilIface,.int .i64 0,.int .i64 0,.int .i64 0,.int .i64 0,.nilFunc,.nilFunc,.int .i64 0,.bool false,.int .u64 0,.string ⟨#[]⟩,.int .i64 0,.int .i64 0,.int .i64 0,.bool false,.int .i64 0,.bool false]:=by rw[eJ h];exact gH (by kernel_rfl) H0
theorem yB:bR prog 162=some (.agg ⟨[.string ⟨#[]⟩,.int .u64 0]⟩):=by kernel_rfl
theorem Ii(h:Nat.beq t 162=true):bR prog t=some (.agg ⟨[.string ⟨#[]⟩,.int .u64 0]⟩):=by rw[eJ h];exact yB
theorem Dj(h:Nat.beq t 162=true):structOf prog t [.string ⟨#[]⟩,.int .u64 0]:=by rw[eJ h];exact dR (by kernel_rfl) yB
theorem wZ:bR prog 166=some (.agg ⟨[.int .i64 0,.int .i64 0,.int .i64 0]⟩):=by kernel_rfl
theorem vL(h:Nat.beq t 166=true):bR prog t=some (.agg ⟨[.int .i64 0,.int .i64 0,.int .i64 0]⟩):=by rw[eJ h];exact wZ
theorem xY:bR prog 194=some (.agg ⟨[.int .i64 0,.int .i64 0,.int .i64 0,.int .u64 0,.slice none 0 0,.int .u64 0,.string ⟨#[]⟩,.int .u64 0,.slice none 0 0,.int .i64 0,.int .i64 0,.int .i64 0,.int .i64 0,.int .i64 0]⟩):=by kernel_rfl
theorem Gn(h:Nat.beq t 194=true):bR prog t=some (.agg ⟨[.int .i64 0,.int .i64 0,.int .i64 0,.int .u64 0,.slice none 0 0,.int .u64 0,.string ⟨#[]⟩,.int .u64 0,.slice none 0 0,.int .i64 0,.int .i64 0,.int .i64 0,.int .i64 0,.int .i64 0]⟩):=by rw[eJ h];exact xY
theorem Cc(h:Nat.beq t 194=true):structOf prog t [.int .i64 0,.int .i64 0,.int .i64 0,.int .u64 0,.slice none 0 0,.int .u64 0,.string ⟨#[]⟩,.int .u64 0,.slice none 0 0,.int .i64 0,.int .i64 0,.int .i64 0,.int .i64 0,.int .i64 0]:=by rw[eJ h];exact dR (by kernel_rfl) xY
theorem A1:bR prog 201=some (.agg ⟨[.nilIface,.int .i64 0,.bool false]⟩):=by kernel_rfl
theorem Jw(h:Nat.beq t 201=true):bR prog t=some (.agg ⟨[.nilIface,.int .i64 0,.bool false]⟩):=by rw[eJ h];exact A1
theorem Fz(h:Nat.beq t 201=true):placeOf prog t [(0,1),(1,2)] [.nilIface,.int .i64 0,.bool false]:=by rw[eJ h];exact gH (by kernel_rfl) A1
theorem Df:bR prog 204=some (.agg ⟨[.nilIface,.int .i64 0,.bool false,.string ⟨#[]⟩,.int .u64 0,.int .u64 0,.int .i64 0,.int .u64 0,.int .i64 0,.int .i64 0,.int .i64 0,.int .i64 0]⟩):=by kernel_rfl
theorem yK(h:Nat.beq t 204=true):placeOf prog t [(0,3),(3,1),(4,1),(5,1),(6,1),(7,1),(8,1),(9,1),(10,1),(11,1)] [.nilIface,.int .i64 0,.bool false,.string ⟨#[]⟩,.int .u64 0,.int .u64 0,.int .i64 0,.int .u64 0,.int .i64 0,.int .i64 0,.int .i64 0,.int .i64 0]:=by rw[eJ h];exact gH (by kernel_rfl) Df
theorem Cx:bR prog 210=some (.agg ⟨[.nilIface,.int .i64 0,.bool false,.string ⟨#[]⟩,.int .u64 0]⟩):=by kernel_rfl
theorem zK(h:Nat.beq t 210=true):placeOf prog t [(0,3),(3,1),(4,1)] [.nilIface,.int .i64 0,.bool false,.string ⟨#[]⟩,.int .u64 0]:=by rw[eJ h];exact gH (by kernel_rfl) Cx
theorem Ba:bR prog 230=some (.agg ⟨[.int .u64 0,.string ⟨#[]⟩,.int .u64 0]⟩):=by kernel_rfl
theorem xH(h:Nat.beq t 230=true):placeOf prog t [(0,1),(1,2)] [.int .u64 0,.string ⟨#[]⟩,.int .u64 0]:=by rw[eJ h];exact gH (by kernel_rfl) Ba
theorem pN:bR prog 348=some (.agg ⟨[.nilIface,.int .i64 0,.int .i64 0,.int .i64 0,.int .i64 0,.int .u64 0,.slice none 0 0,.int .u64 0,.string ⟨#[]⟩,.int .u64 0,.slice none 0 0,.int .i64 0,.int .i64 0,.int .i64 0,.int .i64 0,.int .i64 0,.int .u64 0,.string ⟨#[]⟩,.int .u64 0,.int .i64 0]⟩):=by kernel_rfl
theorem yQ(h:Nat.beq t 348=true):bR prog t=some (.agg ⟨[.nilIface,.int .i64 0,.int .i64 0,.int .i64 0,.int .i64 0,.int .u64 0,.slice none 0 0,.int .u64 0,.string ⟨#[]⟩,.int .u64 0,.slice none 0 0,.int .i64 0,.int .i64 0,.int .i64 0,.int .i64 0,.int .i64 0,.int .u64 0,.string ⟨#[]⟩,.int .u64 0,.int .i64 0]⟩):=by rw[eJ h];exact pN
theorem xJ(h:Nat.beq t 348=true):placeOf prog t [(0,1),(1,1),(2,14),(16,1),(17,2),(19,1)] [.nilIface,.int .i64 0,.int .i64 0,.int .i64 0,.int .i64 0,.int .u64 0,.slice none 0 0,.int .u64 0,.string ⟨#[]⟩,.int .u64 0,.slice none 0 0,.int .i64 0,.int .i64 0,.int .i64 0,.int .i64 0,.int .i64 0,.int .u64 0,.string ⟨#[]⟩,.int .u64 0,.int .i64 0]:=by rw[eJ h];exact gH (by kernel_rfl) pN
def aEU:List (Nat×Nat):=[(26,0),(26,1),(26,2),(26,3),(26,4),(31,0),(31,1),(31,2),(49,0),(49,1),(56,0),(56,1),(56,2),(56,3),(56,4),(56,5),(72,0),(72,1),(74,0),(74,1),(74,2),(74,3),(74,4),(74,5),(74,6),(76,0),(76,1),(76,2),(76,3),(83,0),(83,1),(83,2),(95,0),(95,1),(98,0),(98,1),(98,2),(104,0),(104,1),(104,2),(104,3),(104,4),(104,5),(104,6),(104,7),(111,0),(111,1),(116,0),(116,1),(120,0),(120,1),(120,2),(124,0),(124,1),(124,2),(124,3),(131,0),(131,1),(131,2),(131,3),(131,4),(135,0),(135,1),(140,0),(140,1),(140,2),(140,3),(144,0),(146,0),(146,1),(162,0),(162,1),(166,0),(166,1),(166,2),(194,0),(194,1),(194,2),(194,3),(194,4),(194,5),(194,6),(194,7),(194,8),(194,9),(194,10),(194,11),(194,12),(194,13),(201,0),(201,1),(204,0),(207,0),(210,0),(222,0),(222,1),(222,2),(225,0),(230,0),(230,1),(255,0),(255,1),(255,2),(297,0),(336,0),(348,0),(348,1),(348,2)]
theorem aB9:(aEU.all λ p=>eD prog p.1 p.2==some p.2)=true:=by kernel_rfl
theorem aC5{t k:Nat}(h:(aEU.any λ p=>Nat.beq p.1 t&&Nat.beq p.2 k)=true):eD prog t k=some k:=by obtain⟨p,hp,ht⟩:=List.any_eq_true.1 h;simp only[Bool.and_eq_true] at ht;have h2:=eq_of_beq (List.all_eq_true.1 aB9 p hp);rwa [eJ ht.1,eJ ht.2] at h2
def aA9:List (Nat×Nat):=[(26,0),(26,1),(26,2),(26,3),(26,4),(31,0),(31,1),(31,2),(49,0),(49,1),(56,0),(56,1),(56,2),(56,3),(56,4),(56,5),(72,0),(72,1),(74,0),(74,1),(74,2),(74,3),(74,4),(74,5),(76,0),(76,1),(76,2),(83,0),(83,1),(83,2),(95,0),(95,1),(98,0),(98,1),(104,0),(104,1),(104,2),(104,3),(104,4),(104,5),(104,6),(104,7),(111,0),(111,1),(116,0),(116,1),(120,0),(120,1),(120,2),(124,0),(124,1),(124,2),(124,3),(131,0),(131,1),(131,2),(131,3),(131,4),(135,0),(140,0),(140,1),(140,2),(140,3),(146,0),(162,0),(162,1),(166,0),(166,1),(166,2),(194,0),(194,1),(194,2),(194,3),(194,4),(194,5),(194,6),(194,7),(194,8),(194,9),(194,10),(194,11),(194,12),(194,13),(201,0),(222,0),(222,1),(222,2),(230,0),(255,0),(255,1),(255,2),(348,0),(348,1)]
variable{k:Nat}
theorem wk:(aA9.all λ p=>Ai prog p.1 p.2==some p.2)=true:=by kernel_rfl
theorem Yo{t:Nat}(h:(aA9.any λ p=>Nat.beq p.1 t&&Nat.beq p.2 k)=true):Ai prog t k=some k:=by obtain⟨p,hp,ht⟩:=List.any_eq_true.1 h;simp only[Bool.and_eq_true] at ht;have h2:=eq_of_beq (List.all_eq_true.1 wk p hp);rwa [eJ ht.1,eJ ht.2] at h2
theorem yO{t:Nat}(h:(Nat.beq t 135&&Nat.beq k 2)=true):eD prog t k=some 3:=by simp only[Bool.and_eq_true] at h;rw[eJ h.1,eJ h.2];kernel_rfl
theorem Es{t:Nat}(h:(Nat.beq t 144&&Nat.beq k 1)=true):eD prog t k=some 4:=by simp only[Bool.and_eq_true] at h;rw[eJ h.1,eJ h.2];kernel_rfl
theorem Eu{t:Nat}(h:(Nat.beq t 144&&Nat.beq k 2)=true):eD prog t k=some 5:=by simp only[Bool.and_eq_true] at h;rw[eJ h.1,eJ h.2];kernel_rfl
theorem Ej{t:Nat}(h:(Nat.beq t 144&&Nat.beq k 3)=true):eD prog t k=some 6:=by simp only[Bool.and_eq_true] at h;rw[eJ h.1,eJ h.2];kernel_rfl
theorem Ei{t:Nat}(h:(Nat.beq t 146&&Nat.beq k 2)=true):eD prog t k=some 15:=by simp only[Bool.and_eq_true] at h;rw[eJ h.1,eJ h.2];kernel_rfl
theorem Ek{t:Nat}(h:(Nat.beq t 146&&Nat.beq k 3)=true):eD prog t k=some 16:=by simp only[Bool.and_eq_true] at h;rw[eJ h.1,eJ h.2];kernel_rfl
theorem Az{t:Nat}(h:(Nat.beq t 204&&Nat.beq k 1)=true):eD prog t k=some 3:=by simp only[Bool.and_eq_true] at h;rw[eJ h.1,eJ h.2];kernel_rfl
theorem Aj{t:Nat}(h:(Nat.beq t 204&&Nat.beq k 2)=true):eD prog t k=some 4:=by simp only[Bool.and_eq_true] at h;rw[eJ h.1,eJ h.2];kernel_rfl
theorem zP{t:Nat}(h:(Nat.beq t 204&&Nat.beq k 3)=true):eD prog t k=some 5:=by simp only[Bool.and_eq_true] at h;rw[eJ h.1,eJ h.2];kernel_rfl
theorem Ak{t:Nat}(h:(Nat.beq t 204&&Nat.beq k 4)=true):eD prog t k=some 6:=by simp only[Bool.and_eq_true] at h;rw[eJ h.1,eJ h.2];kernel_rfl
theorem zQ{t:Nat}(h:(Nat.beq t 204&&Nat.beq k 5)=true):eD prog t k=some 7:=by simp only[Bool.and_eq_true] at h;rw[eJ h.1,eJ h.2];kernel_rfl
theorem Bb{t:Nat}(h:(Nat.beq t 204&&Nat.beq k 6)=true):eD prog t k=some 8:=by simp only[Bool.and_eq_true] at h;rw[eJ h.1,eJ h.2];kernel_rfl
theorem Af{t:Nat}(h:(Nat.beq t 204&&Nat.beq k 7)=true):eD prog t k=some 9:=by simp only[Bool.and_eq_true] at h;rw[eJ h.1,eJ h.2];kernel_rfl
theorem zW{t:Nat}(h:(Nat.beq t 204&&Nat.beq k 8)=true):eD prog t k=some 10:=by simp only[Bool.and_eq_true] at h;rw[eJ h.1,eJ h.2];kernel_rfl
theorem Au{t:Nat}(h:(Nat.beq t 204&&Nat.beq k 9)=true):eD prog t k=some 11:=by simp only[Bool.and_eq_true] at h;rw[eJ h.1,eJ h.2];kernel_rfl
theorem A5{t:Nat}(h:(Nat.beq t 210&&Nat.beq k 1)=true):eD prog t k=some 3:=by simp only[Bool.and_eq_true] at h;rw[eJ h.1,eJ h.2];kernel_rfl
theorem Bm{t:Nat}(h:(Nat.beq t 210&&Nat.beq k 2)=true):eD prog t k=some 4:=by simp only[Bool.and_eq_true] at h;rw[eJ h.1,eJ h.2];kernel_rfl
theorem yJ{t:Nat}(h:(Nat.beq t 348&&Nat.beq k 3)=true):eD prog t k=some 16:=by simp only[Bool.and_eq_true] at h;rw[eJ h.1,eJ h.2];kernel_rfl
theorem yV{t:Nat}(h:(Nat.beq t 348&&Nat.beq k 4)=true):eD prog t k=some 17:=by simp only[Bool.and_eq_true] at h;rw[eJ h.1,eJ h.2];kernel_rfl
theorem zH{t:Nat}(h:(Nat.beq t 348&&Nat.beq k 5)=true):eD prog t k=some 19:=by simp only[Bool.and_eq_true] at h;rw[eJ h.1,eJ h.2];kernel_rfl
def aEa:List Nat:=[15,16,17,32,35,51,52,59,61,66,81,85,99,175,199,205,208,219,227,253,295,303,323,334,353,368]
theorem aCA:(aEa.all λ t=>Sc prog t)=true:=by kernel_rfl
theorem Vu{t:Nat}(h:aEa.elem t=true):Sc prog t=true:=List.all_eq_true.1 aCA t (List.mem_of_elem_eq_true h)
def Rt:List (Nat×Nat):=[(22,3),(28,26),(29,28),(39,91),(43,76),(53,83),(54,84),(93,96),(96,98),(102,65),(121,194),(122,69),(155,5),(156,162),(223,297),(228,230),(344,122),(373,9)]
def rG(t:Nat):Nat:=(Rt.lookup t).getD 0
theorem aEE:(Rt.all λ p=>(match prog.underlying p.1 with|some (.slice e)=>Nat.beq e p.2&&Nat.beq (rG p.1) p.2|_=>false))=true:=by kernel_rfl
theorem aE4{t:Nat}(h:(Rt.any λ p=>Nat.beq p.1 t)=true):prog.underlying t=some (.slice (rG t)):=by
 obtain⟨p,hp,ht⟩:=List.any_eq_true.1 h;have h2:=List.all_eq_true.1 aEE p hp;rw[<- eJ ht];cases hu:prog.underlying p.1 with
 | none=>rw[hu] at h2;simp at h2
 | some d=>rw[hu] at h2;cases d<;>simp only[Bool.false_eq_true] at h2;simp only[Bool.and_eq_true] at h2;rw[eJ h2.1,eJ h2.2]
def szT(t:Nat):Nat:=bif Nat.beq (rG t) 297 then 15 else bif Nat.beq (rG t) 194 then 14 else bif Nat.beq (rG t) 76 then 11 else bif Nat.beq (rG t) 98 then 10 else bif Nat.beq (rG t) 26 then 5 else bif Nat.beq (rG t) 230 then 3 else bif Nat.beq (rG t) 83 then 3 else bif Nat.beq (rG t) 162 then 2 else bif Nat.beq (rG t) 91 then 2 else 1
theorem aFm:(Rt.all λ p=>(prog.info? (rG p.1)).map (·.size)==some (szT p.1))=true:=by kernel_rfl
theorem Og{t:Nat}(h:(Rt.any λ p=>Nat.beq p.1 t)=true):(prog.info? (rG t)).map (·.size)=some (szT t):=by obtain⟨p,hp,ht⟩:=List.any_eq_true.1 h;have h2:=List.all_eq_true.1 aFm p hp;rw[<- eJ ht];exact eq_of_beq h2
def aED:List (Nat×Nat):=[(3,1),(5,1),(9,1),(26,5),(28,1),(65,1),(69,1),(76,11),(83,3),(84,1),(91,2),(96,1),(98,10),(122,1),(162,2),(194,14),(230,3),(297,15)]
theorem aDi:(aED.all λ p=>(prog.info? p.1).map (·.size)==some p.2)=true:=by kernel_rfl
theorem mX{e s:Nat}(h:(aED.any λ p=>Nat.beq p.1 e&&Nat.beq p.2 s)=true):(prog.info? e).map (·.size)=some s:=by obtain⟨p,hp,ht⟩:=List.any_eq_true.1 h;simp only[Bool.and_eq_true] at ht;have h2:=List.all_eq_true.1 aDi p hp;rw[<- eJ ht.1,<- eJ ht.2];exact eq_of_beq h2
theorem yj{t:Nat}(h:Nat.beq t 4=true):prog.underlying t=some .bool:=by rw[eJ h];kernel_rfl
theorem jz{t:Nat}(h:Nat.beq t 9=true):prog.underlying t=some .string:=by rw[eJ h];kernel_rfl
theorem y8{t:Nat}(h:Nat.beq t 162=true):O2 prog t=true:=by rw[eJ h];kernel_rfl
def aFB:List (Nat×IntKind):=[(2,.i64),(3,.i64),(5,.u8),(12,.u64),(21,.i32),(23,.u64),(40,.i64),(65,.u32),(69,.i64),(70,.i64),(84,.i8),(259,.u64)]
theorem aDt:(aFB.all λ p=>xR prog p.1 p.2)=true:=by kernel_rfl
theorem qD{t:Nat}{k:IntKind}(h:(aFB.any λ p=>Nat.beq p.1 t&&p.2==k)=true):xR prog t k=true:=by obtain⟨p,hp,ht⟩:=List.any_eq_true.1 h;simp only[Bool.and_eq_true] at ht;have h2:=List.all_eq_true.1 aDt p hp;rw[eJ ht.1,eq_of_beq ht.2] at h2;exact h2
def aBD(P:Program)(t e s:Nat):Bool :=
 (match P.underlying t with|some (.slice e')=>Nat.beq e' e|_=>false)&&(match P.info? e with
  | some i=>Nat.beq i.size s&&Nat.ble i.bytes 256
  | none=>false)
theorem fX{P:Program}{t e:Nat}{z:Value}{zc:List Value}(h:aBD P t e zc.length=true)(hz:bR P e=some z)(hzc:z.cells=⟨zc⟩):cS P t e zc:=by
 unfold aBD at h;simp only[Bool.and_eq_true] at h;refine⟨?_,?_⟩
 ·cases hu:P.underlying t with
  | none=>simp[hu] at h
  | some d=>rw[hu] at h;cases d<;>simp only[Bool.false_eq_true,false_and] at h;rw[eJ h.1]
 ·cases hi:P.info? e with
  | none=>simp[hi] at h
  | some i=>rw[hi] at h;simp only[Bool.and_eq_true] at h;exact⟨i,z,rfl,by simpa[bR,hi] using hz,hzc,eJ h.2.1,Nat.le_of_ble_eq_true h.2.2⟩
theorem ag:bR prog 3=some (.int .i64 0):=by kernel_rfl
theorem gy:cS prog 22 3 [.int .i64 0]:=fX (by kernel_rfl) ag rfl
theorem Lx{t:Nat}(h:Nat.beq t 22=true):cS prog t 3 [.int .i64 0]:=by rw[eJ h];exact gy
def aBi:List Value:=[.int .i64 0,.int .i64 0,.int .i64 0,.int .u64 0,.slice none 0 0,.int .u64 0,.string ⟨#[]⟩,.int .u64 0,.slice none 0 0,.int .i64 0,.int .i64 0,.int .i64 0,.int .i64 0,.int .i64 0]
theorem Tv:bR prog 194=some (.agg ⟨[.int .i64 0,.int .i64 0,.int .i64 0,.int .u64 0,.slice none 0 0,.int .u64 0,.string ⟨#[]⟩,.int .u64 0,.slice none 0 0,.int .i64 0,.int .i64 0,.int .i64 0,.int .i64 0,.int .i64 0]⟩):=by kernel_rfl
theorem Zw:cS prog 121 194 aBi:=fX (by kernel_rfl) Tv rfl
theorem Gq{t:Nat}(h:Nat.beq t 121=true):cS prog t 194 aBi:=by rw[eJ h];exact Zw
theorem dz:bR prog 69=some (.int .i64 0):=by kernel_rfl
theorem Qh:cS prog 122 69 [.int .i64 0]:=fX (by kernel_rfl) dz rfl
theorem K6{t:Nat}(h:Nat.beq t 122=true):cS prog t 69 [.int .i64 0]:=by rw[eJ h];exact Qh
theorem Tz:bR prog 162=some (.agg ⟨[.string ⟨#[]⟩,.int .u64 0]⟩):=by kernel_rfl
theorem dm:cS prog 156 162 [.string ⟨#[]⟩,.int .u64 0]:=fX (by kernel_rfl) Tz rfl
theorem zJ{t:Nat}(h:Nat.beq t 156=true):cS prog t 162 [.string ⟨#[]⟩,.int .u64 0]:=by rw[eJ h];exact dm
end
end Go.Proofs.YthblobahelfefaaGreatDoor
namespace Go.Ct
open Go Go.RowKit Go.ChangeShapes Go.WideShapes Go.ChangeAt
section
structure Rd{H:Type}(enc:TypeId×Value->H)(P:Program)(W:World)(t:TypeId)(cs:List Value)(d:DataW H):Prop where
 rd:∃n p,DataW.trod enc P W 0 (λ _=>true) true n t cs=some (d,p)
 wt:∀k∈d.weights P t,k<=reachBytes
section
variable{H:Type}{enc:TypeId×Value->H}{P:Program}{W:World}{t e:TypeId}{cs:List Value}{d:DataW H}
theorem Rd.int{k:IntKind}(h:Rd enc P W t cs d)(ht:P.underlying t=some (.int k)):∃i,cs=[.int k i]/\(Lit.int k i).wf=true:=by obtain⟨n,p,hr⟩:=h.rd;obtain⟨i,h1,_,h2⟩:=DataW.trod_int ht hr;exact⟨i,h1,h2⟩
theorem Rd.str(h:Rd enc P W t cs d)(ht:P.underlying t=some .string):∃s:ByteArray,cs=[.string s]/\s.size<=reachBytes:=by obtain⟨n,p,hr⟩:=h.rd;obtain⟨s,h1,h2,_⟩:=DataW.trod_string ht hr;refine⟨s,h1,?_⟩;have hw:=h.wt;cases h2;have:=hw s.data.toList.length (by simp[DataW.weights]);simpa using this
theorem tZ{k:Nat}{d:DataW H}:∀{l:List (DataW H)},d∈l->k∈d.weights P e->k∈DataW.weightsAll P e l
 | x::r,hd,hk=>by
  simp only[DataW.weightsAll,List.mem_append];rcases List.mem_cons.1 hd with rfl|hd;·exact .inl hk
  ·exact .inr (tZ hd hk)
theorem Rd.slice(h:Rd enc P W t cs d)(ht:P.underlying t=some (.slice e))(h0:0<P.cellsOf e) :
  ∃(a:Option Addr) (m c:Nat) (C:Nat->List Value) (D:Nat->DataW H),cs=[.slice a m c]/\m<=c/\c*P.bytesOf e<=reachBytes /\
   ∀i,i<m->(C i).length=P.cellsOf e/\(∀j u,(C i)[j]?=some u->a=some ⟨cI a,dH a,none⟩/\W.cell? ⟨cI a,dH a+(i*P.cellsOf e+j),none⟩=some u)/\Rd enc P W e (C i) (D i):=by
 obtain⟨n,p,hr⟩:=h.rd;rcases Deep.open_slice ht hr with⟨rfl,_⟩|⟨a,len,cap,m,n',D,Pl,rfl,hb,hl,hm,hmm,hx,hel⟩;·exact⟨none,0,0,λ _=>[],λ _=>.nil,rfl,Nat.le_refl _,by simp,λ i hi=>absurd hi (Nat.not_lt_zero i)⟩
 ·simp only[if_true] at hmm;subst hmm;simp only[Prod.mk.injEq] at hx;obtain⟨hd,_⟩:=hx;have hw:=h.wt;subst hd;have hwt:∀i,i<len->∀k∈(D i).weights P e,k<=reachBytes:=λ i hi k hk=>hw k (by simp only[DataW.weights,ht,List.mem_cons,List.mem_append];exact .inr (.inl (tZ (List.mem_map.2 ⟨i,List.mem_range.2 hi,rfl⟩) hk)))
  obtain⟨C,hC⟩:=Deep.choose_lt (α:=List Value) (n:=len) (p:=λ i cs'=>W.cells? 0 (a.add (i*P.cellsOf e)) (P.cellsOf e)=some cs'/\DataW.trod enc P W 0 (λ _=>true) true n' e cs'=some (D i,Pl i)) (λ i hi=>hel i (by omega));refine⟨some a,len,m,C,D,rfl,hl,?_,λ i hi=>?_⟩
  ·have:=hw ((((List.range len).map D).length+((List.range (m-len)).map λ j=>D (len+j)).length)*P.bytesOf e) (by simp[DataW.weights,ht])
   simp only[List.length_map,List.length_range] at this;rwa [show len+(m-len)=m by omega] at this
  ·obtain⟨h1,h2⟩:=hC i hi;obtain⟨_,hlen,hcell⟩:=World.cells?_some h1;refine⟨hlen,λ j u hj=>?_,⟨n',Pl i,h2⟩,hwt i hi⟩;have hjl:j<P.cellsOf e:=by rw[<- hlen];exact(List.getElem?_eq_some_iff.1 hj).1
   have hc:=(hcell j hjl).trans hj;obtain⟨b,o,s⟩:=a;have hs:s=none:=by
    obtain⟨g1,_⟩:=hC 0 (by omega);obtain⟨_,glen,gcell⟩:=World.cells?_some g1;have g:=gcell 0 h0;rw[List.getElem?_eq_getElem (by rw[glen];exact h0)] at g;simp only[Nat.zero_mul,Addr.add,if_true] at g;unfold World.cell? at g;cases s with
    | none=>rfl
    | some z=>split at g<;>simp at g
   subst hs;refine⟨rfl,?_⟩;have e1:(((⟨b,o,none⟩:Addr).add (i*P.cellsOf e)).add j)=⟨b,o+(i*P.cellsOf e+j),none⟩:=by rw[Addr.add_lit,Addr.add_lit];congr 1;omega
   rw[e1] at hc;exact hc
theorem Ra{α:Type}{a:Option Addr}{f:α->List Value}{sz:Nat}(h0:0<sz)(hf:∀x,(f x).length=sz):∀(xs:List α) (i0:Nat),
  (∀i x,xs[i]?=some x->∀j u,(f x)[j]?=some u->a=some ⟨cI a,dH a,none⟩/\W.cell? ⟨cI a,dH a+((i0+i)*sz+j),none⟩=some u) ->
  ∀q u,(xs.flatMap f)[q]?=some u->a=some ⟨cI a,dH a,none⟩/\W.cell? ⟨cI a,dH a+(i0*sz+q),none⟩=some u
 | [],_,_,q,u,h=>by simp at h
 | x::xs,i0,h,q,u,hq=>by
  simp only[List.flatMap_cons] at hq;by_cases hlt:q<sz;·rw[List.getElem?_append_left (by rw[hf];exact hlt)] at hq;have:=h 0 x rfl q u hq;simpa using this
  ·rw[List.getElem?_append_right (by rw[hf];omega),hf] at hq;have:=Ra h0 hf xs (i0+1) (λ i y hy j v hj=>by have:=h (i+1) y (by simpa using hy) j v hj;rwa [show i0+(i+1)=i0+1+i by omega] at this) (q-sz) u hq
   rwa [show(i0+1)*sz+(q-sz)=i0*sz+q by rw[Nat.add_mul];omega] at this
theorem Hy:∀l:List Int,aN l=l.flatMap λ i=>[.int .i64 i]
 | []=>rfl
 | p::r=>by simp[aN,<- Hy r]
def tF(i:Int):Prop := -9223372036854775808<=i/\i<=9223372036854775807
def Lk(i:Int):Prop:=0<=i/\i<=18446744073709551615
theorem aDA{n:Int}(h:(Lit.int .i64 n).wf=true):tF n:=by simp[Lit.wf,IntKind.min,IntKind.max,IntKind.signed,IntKind.bits] at h;exact h
theorem aCz{n:Int}(h:(Lit.int .u64 n).wf=true):Lk n:=by simp[Lit.wf,IntKind.min,IntKind.max,IntKind.signed,IntKind.bits] at h;exact h
theorem Rd.refs(h:Rd enc P W t cs d)(ht:P.underlying t=some (.slice e))(he:P.underlying e=some (.int .i64))(hc:P.cellsOf e=1)(hb:P.bytesOf e=8) :
  ∃(a:Option Addr) (l:List Int) (c:Nat),cs=[.slice a l.length c]/\l.length<=c/\c<=17592186043904/\Cl W a (aN l)/\∀i∈l,tF i:=by
 obtain⟨a,m,c,C,D,rfl,hm,hw,hel⟩:=h.slice ht (by omega);have hV:∃V:Nat->Int,∀i,i<m->C i=[.int .i64 (V i)]/\(Lit.int .i64 (V i)).wf=true:=Deep.choose_lt λ i hi=>(hel i hi).2.2.int he
 obtain⟨V,hV⟩:=hV;refine⟨a,(List.range m).map V,c,by simp,by simpa using hm,by rw[hb,reachBytes] at hw;omega,?_,λ i hi=>?_⟩
 ·refine⟨λ q u hq=>?_⟩;rw[Hy] at hq
  have:=Ra (W:=W) (a:=a) (f:=λ i=>[.int .i64 i]) (sz:=1) (by decide) (λ _=>rfl) ((List.range m).map V) 0 (λ i x hx j v hj=>by
   have hi:i<m:=by simpa using(List.getElem?_eq_some_iff.1 hx).1
   have hxv:x=V i:=by simpa[hi] using hx.symm
   subst hxv;rw[<- (hV i hi).1] at hj;have:=(hel i hi).2.1 j v hj;rw[hc] at this;simpa using this) q u hq
  simpa using this
 ·obtain⟨k,hk,rfl⟩:=List.mem_map.1 hi;exact aDA (hV k (List.mem_range.1 hk)).2
structure Arg{H:Type}(enc:TypeId×Value->H)(P:Program)(W:World)(t:TypeId)(v:Value)(d:DataW H):Prop where
 val:∃base,Value.okWide P W .any base t v
 rd:Rd enc P W t v.cells.toList d
inductive xX{H:Type}(enc:TypeId×Value->H)(P:Program)(W:World):List TypeId->List Value->Prop where
 | nil:xX enc P W [] []
 | cons {t:TypeId} {ts:List TypeId} {v:Value} {vs:List Value} {d:DataW H} (hv:∃base,Value.okWide P W .any base t v) (hr:Rd enc P W t v.cells.toList d) (h:xX enc P W ts vs):xX enc P W (t::ts) (v::vs)
variable{ts:List TypeId}{vs args:List Value}
theorem xX.next(h:xX enc P W (t::ts) vs):∃v vs' d,vs=v::vs'/\Arg enc P W t v d/\xX enc P W ts vs':=by
 cases h with
 | @cons _ _ v vs d hv hr h=>exact⟨v,vs,d,rfl,⟨hv,hr⟩,h⟩
theorem xX.done(h:xX enc P W [] vs):vs=[]:=by cases h;rfl
theorem ir{base:Nat}{ds:List (DataW H)}{p:List MemPlace}(hv:∀(j:Nat) t v,ts[j]?=some t->args[j]?=some v->Value.okWide P W .any base t v)(ht:DataW.TrodAll enc P W 0 (λ _=>true) true ts args ds p)(hw:∀k∈DataW.weightsEach P ts ds,k<=reachBytes):xX enc P W ts args:=by
 induction ts generalizing args ds p with
 | nil=>obtain⟨rfl,_,_⟩:=trodAll_nil ht;exact .nil
 | cons t ts ih=>obtain⟨v,vs,d,ds',a,b,rfl,rfl,rfl,h1,h2⟩:=trodAll_cons ht;refine .cons (d:=d) ⟨base,hv 0 t v rfl rfl⟩ ?_ (ih (λ j t' v' hj hj'=>hv (j+1) t' v' (by simpa using hj) (by simpa using hj')) h2 (λ k hk=>hw k (by simp only[DataW.weightsEach,List.mem_append];exact .inr hk)));obtain⟨n,hn⟩:=h1;exact⟨⟨n,a,hn⟩,λ k hk=>hw k (by simp only[DataW.weightsEach,List.mem_append];exact .inl hk)⟩
theorem aDx.split{fn:Func}{ds:List (DataW H)}(h:aDx enc P fn W args ds):xX enc P W fn.params.toList args:=by
 obtain⟨⟨base,hv⟩,⟨p,ht,_⟩,hw⟩:=h
 exact ir hv ht hw
variable{v:Value}
theorem Arg.int{k:IntKind}(h:Arg enc P W t v d)(ht:P.underlying t=some (.int k)):∃i,v=.int k i/\(Lit.int k i).wf=true:=by obtain⟨⟨base,hv⟩,hr⟩:=h;obtain⟨i,hi⟩:=okWide_int ht hv;subst hi;obtain⟨j,hj,hw⟩:=hr.int ht;simp[Value.cells] at hj;subst hj;exact⟨_,rfl,hw⟩
theorem Arg.str(h:Arg enc P W t v d)(ht:P.underlying t=some .string):∃s:ByteArray,v=.string s/\s.size<=140737488351232:=by obtain⟨⟨base,hv⟩,hr⟩:=h;obtain⟨s,rfl⟩:=okWide_string ht hv;obtain⟨j,hj,hw⟩:=hr.str ht;simp[Value.cells] at hj;subst hj;exact⟨_,rfl,hw⟩
theorem Arg.slv(h:Arg enc P W t v d)(ht:P.underlying t=some (.slice e)):Rd enc P W t [v] d:=by obtain⟨⟨base,hv⟩,hr⟩:=h;obtain⟨a,m,c,rfl⟩:=okWide_slice ht hv;simpa[Value.cells] using hr
end
end
end Go.Ct
namespace Go.Proofs.YthblobahelfefaaGreatDoor
open Go.Proofs.Tryz
section
open Go.RowKit Go.Ct Go.ChangeShapes Go.WideShapes
theorem aEI:([3,70,23,122,9,156,69].all λ t=>Nat.beq (prog.cellsOf t) 1)=true:=by kernel_rfl
theorem aD8{t:Nat}(h:[3,70,23,122,9,156,69].elem t=true):prog.cellsOf t=1:=eJ (List.all_eq_true.1 aEI t (List.mem_of_elem_eq_true h))
theorem aEq:prog.bytesOf 3=8:=by kernel_rfl
theorem aFv:prog.underlying 3=some (.int .i64):=by kernel_rfl
theorem aES:prog.underlying 23=some (.int .u64):=by kernel_rfl
theorem aBJ:prog.underlying 9=some .string:=by kernel_rfl
theorem tx:prog.underlying 22=some (.slice 3):=by kernel_rfl
section
variable{H:Type}{enc:TypeId×Value->H}{W:World}{cs:List Value}{d:DataW H}{v:Value}
set_option maxRecDepth 100000
theorem v7{t:Nat}(h:Arg enc prog W t v d)(ht:prog.underlying t=some (.int .u64)):∃i,v=.int .u64 i/\Lk i:=by obtain⟨i,e,hi⟩:=h.int ht;exact⟨i,e,aCz hi⟩
theorem ub(h:Arg enc prog W 22 v d):∃(a:Option Addr) (l:List Int) (c:Nat),v=.slice a l.length c/\l.length<=c/\c<=17592186043904/\Cl W a (aN l)/\∀i∈l,tF i:=by obtain⟨a,l,c,e,r⟩:=(h.slv tx).refs tx aFv (aD8 rfl) aEq;simp only[List.cons.injEq,and_true] at e;exact⟨a,l,c,e,r⟩
end
end
section
open Go.RowKit Go.Ct Go.ChangeShapes Go.WideShapes Go.ChangeAt
theorem ix:(false==prog.liftsFinal)=true:=by kernel_rfl
end
section
open Go.RowKit Go.Ct Go.ChangeShapes Go.WideShapes Go.ChangeAt
theorem aCQ:prog.mayEnter=true:=by kernel_rfl
end
section
open Go.RowKit Go.Ct Go.ChangeShapes Go.WideShapes Go.ChangeAt
theorem xo:laidOutB prog=true:=by kernel_rfl
theorem xp:mapsRowed prog=true:=by kernel_rfl
theorem rp:prog.stopsHeard=true:=by kernel_rfl
theorem aGa{a b:Bool}(h1:a=true)(h2:b=true):(a&&b)=true:=by rw[h1,h2];rfl
end
end Go.Proofs.YthblobahelfefaaGreatDoor
namespace Go.Ct
open Go Go.RowKit Go.ChangeShapes Go.WideShapes Go.ChangeAt
section
theorem Jj{P:Program}{f:FuncId}{fn:Func}{s:ChangeSpec}{H:Type}{enc:TypeId×Value->H}{tb:TypeId}
  (hl:laidOutB P=true) (hrd:(fn.params.toList.all λ t=>P.readableRec t&&Nat.blt t P.types.size)=true) (hrt:fn.resultTypes = #[tb]) (hb:P.underlying tb=some .bool) (hv:s.vars=[])
  (hs:∀ds:List (DataW H),ds.length=fn.params.size->(s.fn H ds).results=[.lit (.bool true)]/\(s.fn H ds).args=ds/\(s.fn H ds).vars=[])
  {W:World} {base:Nat} {args:Array Value} {ds gs:List (DataW H)} {before:List MemPlace}
  (hval:∀(j:Nat) t v,fn.params[j]?=some t->args[j]?=some v->Value.okWide P W .any base t v)
  (hW:DataW.Whole enc P fn.params.toList s.vars false W args.toList ds gs before)
  (hwt:(DataW.weightsEach P (fn.params.toList++s.plain.varTypes P) (ds++gs)).all (· <= reachBytes)=true)
  (walk:∀args:List Value,aDx enc P fn W args ds->Calls P f ⟨args⟩ W λ e W'=>e=.returned (.bool true)/\St W [] [] W') :
  Calls P f args W λ e W'=>∃v,e=.returned v/\s.post enc P fn false true false false W args v W':=by
 have hlt:=λ x hx=>hW.lt x hx
 have hW':=hW;obtain⟨p,q,hA,hV,rfl,_,_⟩:=hW;have hlen:ds.length=fn.params.size:=by
  have:∀{ts:List TypeId} {vs:List Value} {ds:List (DataW H)} {ps:List MemPlace},DataW.TrodAll enc P W 0 (λ _=>true) true ts vs ds ps->ds.length=ts.length:=by
   intro ts;induction ts with
   | nil=>intro vs ds ps h;obtain⟨_,rfl,_⟩:=trodAll_nil h;rfl
   | cons t ts ih=>intro vs ds ps h;obtain⟨v,vs,d,ds,a,b,rfl,rfl,rfl,_,h2⟩:=trodAll_cons h;simp[ih h2]
  simpa using this hA
 obtain⟨args⟩:=args;have hwt':∀k∈DataW.weightsEach P fn.params.toList ds,k<=reachBytes:=λ k hk=>by
  have h1:=List.all_eq_true.1 hwt k (by
   have:∀{ts ts':List TypeId} {l l':List (DataW H)},k∈DataW.weightsEach P ts l->k∈DataW.weightsEach P (ts++ts') (l++l'):=by
    intro ts;induction ts with
    | nil=>intro ts' l l' h;simp[DataW.weightsEach] at h
    | cons t ts ih=>
     intro ts' l l' h;cases l with
     | nil=>simp[DataW.weightsEach] at h
     | cons x l=>simp only[DataW.weightsEach,List.cons_append,List.mem_append] at h ⊢;exact h.imp id ih
   exact this hk)
  simpa using h1
 refine(walk args ⟨⟨base,λ j t v h1 h2=>hval j t v (by simpa using h1) (by simpa using h2)⟩,⟨p,hA,λ x hx=>hlt x (List.mem_append_left _ hx)⟩,hwt'⟩).mono ?_;rintro e W' ⟨rfl,hst⟩;exact⟨_,rfl,r7 hl hrd hrt hb hv (hs ds hlen) hW' hst⟩
end
end Go.Ct
namespace Go.Proofs.YthblobahelfefaaGreatDoor
open Go Go.RowKit Go.Ct Go.ChangeShapes Go.WideShapes Go.ChangeAt
section
def aDF:List Value:=List.map (Value.int .u8) [0,1,28,2,29,14,24,3,30,22,20,15,25,17,4,8,31,27,13,23,21,19,16,7,26,12,18,6,11,5,10,9]
def aDr:List Value:=List.map (Value.int .u8) [0,1,56,2,57,49,28,3,61,58,42,50,38,29,17,4,62,47,59,36,45,43,51,22,53,39,33,30,24,18,12,5,63,55,48,27,60,41,37,16,46,35,44,21,52,32,23,11,54,26,40,15,34,20,31,10,25,14,19,9,13,8,7,6]
def aDS:List Value:=List.map (Value.int .u64) [1,10,100,1000,10000,100000,1000000,10000000,100000000,1000000000,10000000000,100000000000,1000000000000,10000000000000,100000000000000,1000000000000000,10000000000000000,100000000000000000,1000000000000000000,10000000000000000000]
abbrev aFs:List (String×DataW Unit):=[("math/bits.deBruijn32tab",Rows.laid_math_bits_deBruijn32tab),("math/bits.deBruijn64tab",Rows.laid_math_bits_deBruijn64tab),("internal/strconv.uint64pow10",Rows.laid_internal_strconv_uint64pow10)]
theorem aCO{W:World}(h:laidMetH Tryz.prog aFs W):True:=trivial
def Uy(cs:List Value):Obj->Obj
 | .cells _ t frozen=>.cells cs.toArray t frozen
 | o=>o
noncomputable def Kk (os:Os):World :={World.holding Tryz.prog os ⟨#[],#[],[]⟩ with heap:=(((World.holding Tryz.prog os ⟨#[],#[],[]⟩).heap.modify 0 (Uy aDS)).modify 1 (Uy aDF)).modify 2 (Uy aDr)}
theorem oq(os:Os)(args:Array Value):laidMet Tryz.prog aFs ((Kk os).forCall (λ _ _=>0) ⟨#[],args,[]⟩).memory :=laidMet_of_run' 8 (by kernel_rfl) (by kernel_rfl)
end
end Go.Proofs.YthblobahelfefaaGreatDoor
