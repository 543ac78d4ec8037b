/- What the program's table says of the types that are used: closed facts. Written by a program. -/
import Derived.Test.YtnilhhnfjfdokaaGreatDoorGLst2
import Derived.Test.YtnilhhnfjfdokaaGreatDoorProg
set_option linter.unusedSimpArgs false
set_option linter.unusedVariables false
namespace Go.Proofs.YtnilhhnfjfdokaaGreatDoor
open Go.RowKit Go.Ct
def l6:List Nat:=[2,3,4,5,9,12,15,16,17,20,21,22,23,25,30,31,34,35,36,43,51,54,61,62,63,64,71,74,77,79,83,84,86,93,94,97,98,99,100,101,106,108,111,114,116,117,129,132,133,144,145,158,159,178,202,208,211,222,226,232,233,256,262,298,306,326,337,347,356,371,376]
theorem j6:(l6.all λ t=>one Tryz.prog t)=true:=by kernel_rfl
theorem Es{t:Nat}(h:l6.elem t=true):one Tryz.prog t=true:=List.all_eq_true.1 j6 t (List.mem_of_elem_eq_true h)
def nq:List (Nat×Nat):=[(27,3),(29,5),(38,2),(40,8),(59,11),(66,6),(73,3),(91,2),(96,4),(103,5),(110,2),(113,10),(119,8),(126,2),(131,2),(135,3),(138,4),(143,4),(147,14),(149,17),(165,2),(169,3),(192,14),(204,3),(207,12),(210,9),(213,5),(225,3),(228,5),(235,3),(258,3),(300,15),(339,7),(351,20)]
theorem j4:(nq.all λ p=>gX Tryz.prog p.1 p.2)=true:=by kernel_rfl
theorem Ku{t k:Nat}(h:(nq.any λ p=>Nat.beq p.1 t&&Nat.beq p.2 k)=true):gX Tryz.prog t k=true:=by
 obtain⟨p,hp,ht⟩:=List.any_eq_true.1 h
 simp only[Bool.and_eq_true] at ht
 have h2:=List.all_eq_true.1 j4 p hp
 rwa [eX ht.1,eX ht.2] at h2
theorem pE:bY Tryz.prog 27=some (.agg ⟨[.int .u64 0,.slice none 0 0,.slice none 0 0]⟩):=by kernel_rfl
theorem yD{t:Nat}(h:Nat.beq t 27=true):bY Tryz.prog t=some (.agg ⟨[.int .u64 0,.slice none 0 0,.slice none 0 0]⟩):=by rw[eX h];exact pE
theorem tZ{t:Nat}(h:Nat.beq t 27=true):structOf Tryz.prog t [.int .u64 0,.slice none 0 0,.slice none 0 0]:=by rw[eX h];exact dP (by kernel_rfl) pE
theorem yY:bY Tryz.prog 29=some (.agg ⟨[.int .i64 0,.int .i64 0,.string ⟨#[]⟩,.int .u64 0,.int .u64 0]⟩):=by kernel_rfl
theorem Fy{t:Nat}(h:Nat.beq t 29=true):bY Tryz.prog t=some (.agg ⟨[.int .i64 0,.int .i64 0,.string ⟨#[]⟩,.int .u64 0,.int .u64 0]⟩):=by rw[eX h];exact yY
theorem A9{t:Nat}(h:Nat.beq t 29=true):structOf Tryz.prog t [.int .i64 0,.int .i64 0,.string ⟨#[]⟩,.int .u64 0,.int .u64 0]:=by rw[eX h];exact dP (by kernel_rfl) yY
theorem tF:bY Tryz.prog 38=some (.agg ⟨[.int .i64 0,.bool false]⟩):=by kernel_rfl
theorem Bq{t:Nat}(h:Nat.beq t 38=true):bY Tryz.prog t=some (.agg ⟨[.int .i64 0,.bool false]⟩):=by rw[eX h];exact tF
theorem xU{t:Nat}(h:Nat.beq t 38=true):structOf Tryz.prog t [.int .i64 0,.bool false]:=by rw[eX h];exact dP (by kernel_rfl) tF
theorem pM:bY Tryz.prog 40=some (.agg ⟨[.int .i64 0,.bool false,.int .u64 0,.string ⟨#[]⟩,.int .i64 0,.int .i64 0,.int .i64 0,.bool false]⟩):=by kernel_rfl
theorem xE{t:Nat}(h:Nat.beq t 40=true):bY Tryz.prog t=some (.agg ⟨[.int .i64 0,.bool false,.int .u64 0,.string ⟨#[]⟩,.int .i64 0,.int .i64 0,.int .i64 0,.bool false]⟩):=by rw[eX h];exact pM
theorem vZ{t:Nat}(h:Nat.beq t 40=true):placeOf Tryz.prog t [(0,1),(1,1),(2,1),(3,1),(4,1),(5,1),(6,2)] [.int .i64 0,.bool false,.int .u64 0,.string ⟨#[]⟩,.int .i64 0,.int .i64 0,.int .i64 0,.bool false]:=by rw[eX h];exact gO (by kernel_rfl) pM
theorem rF:bY Tryz.prog 59=some (.agg ⟨[.int .i64 0,.int .i64 0,.bool false,.int .i64 0,.bool false,.int .u64 0,.string ⟨#[]⟩,.int .i64 0,.int .i64 0,.int .i64 0,.bool false]⟩):=by kernel_rfl
theorem zE{t:Nat}(h:Nat.beq t 59=true):bY Tryz.prog t=some (.agg ⟨[.int .i64 0,.int .i64 0,.bool false,.int .i64 0,.bool false,.int .u64 0,.string ⟨#[]⟩,.int .i64 0,.int .i64 0,.int .i64 0,.bool false]⟩):=by rw[eX h];exact rF
theorem wZ{t:Nat}(h:Nat.beq t 59=true):placeOf Tryz.prog t [(0,1),(1,1),(2,1),(3,8)] [.int .i64 0,.int .i64 0,.bool false,.int .i64 0,.bool false,.int .u64 0,.string ⟨#[]⟩,.int .i64 0,.int .i64 0,.int .i64 0,.bool false]:=by rw[eX h];exact gO (by kernel_rfl) rF
theorem tU:bY Tryz.prog 66=some (.agg ⟨[.pointer none,.pointer none,.slice none 0 0,.slice none 0 0,.slice none 0 0,.int .i64 0]⟩):=by kernel_rfl
theorem pP{t:Nat}(h:Nat.beq t 66=true):structOf Tryz.prog t [.pointer none,.pointer none,.slice none 0 0,.slice none 0 0,.slice none 0 0,.int .i64 0]:=by rw[eX h];exact dP (by kernel_rfl) tU
theorem vE:bY Tryz.prog 73=some (.agg ⟨[.slice none 0 0,.int .i64 0,.pointer none]⟩):=by kernel_rfl
theorem rJ{t:Nat}(h:Nat.beq t 73=true):structOf Tryz.prog t [.slice none 0 0,.int .i64 0,.pointer none]:=by rw[eX h];exact dP (by kernel_rfl) vE
theorem sN:bY Tryz.prog 91=some (.agg ⟨[.slice none 0 0,.int .i64 0]⟩):=by kernel_rfl
theorem pA{t:Nat}(h:Nat.beq t 91=true):structOf Tryz.prog t [.slice none 0 0,.int .i64 0]:=by rw[eX h];exact dP (by kernel_rfl) sN
theorem wW:bY Tryz.prog 96=some (.agg ⟨[.slice none 0 0,.slice none 0 0,.int .i64 0,.int .i64 0]⟩):=by kernel_rfl
theorem sQ{t:Nat}(h:Nat.beq t 96=true):structOf Tryz.prog t [.slice none 0 0,.slice none 0 0,.int .i64 0,.int .i64 0]:=by rw[eX h];exact dP (by kernel_rfl) wW
theorem vC:bY Tryz.prog 103=some (.agg ⟨[.nilIface,.int .u64 0,.map none,.map none,.map none]⟩):=by kernel_rfl
theorem pZ{t:Nat}(h:Nat.beq t 103=true):structOf Tryz.prog t [.nilIface,.int .u64 0,.map none,.map none,.map none]:=by rw[eX h];exact dP (by kernel_rfl) vC
theorem xV:bY Tryz.prog 110=some (.agg ⟨[.slice none 0 0,.slice none 0 0]⟩):=by kernel_rfl
theorem sO{t:Nat}(h:Nat.beq t 110=true):structOf Tryz.prog t [.slice none 0 0,.slice none 0 0]:=by rw[eX h];exact dP (by kernel_rfl) xV
theorem rB:bY Tryz.prog 113=some (.agg ⟨[.int .i64 0,.int .i64 0,.int .i64 0,.bool false,.int .u64 0,.string ⟨#[]⟩,.int .i64 0,.int .i64 0,.int .i64 0,.bool false]⟩):=by kernel_rfl
theorem zO{t:Nat}(h:Nat.beq t 113=true):bY Tryz.prog t=some (.agg ⟨[.int .i64 0,.int .i64 0,.int .i64 0,.bool false,.int .u64 0,.string ⟨#[]⟩,.int .i64 0,.int .i64 0,.int .i64 0,.bool false]⟩):=by rw[eX h];exact rB
theorem wT{t:Nat}(h:Nat.beq t 113=true):placeOf Tryz.prog t [(0,1),(1,1),(2,8)] [.int .i64 0,.int .i64 0,.int .i64 0,.bool false,.int .u64 0,.string ⟨#[]⟩,.int .i64 0,.int .i64 0,.int .i64 0,.bool false]:=by rw[eX h];exact gO (by kernel_rfl) rB
theorem wR:bY Tryz.prog 119=some (.agg ⟨[.pointer none,.slice none 0 0,.int .u32 0,.slice none 0 0,.slice none 0 0,.slice none 0 0,.slice none 0 0,.map none]⟩):=by kernel_rfl
theorem sJ{t:Nat}(h:Nat.beq t 119=true):structOf Tryz.prog t [.pointer none,.slice none 0 0,.int .u32 0,.slice none 0 0,.slice none 0 0,.slice none 0 0,.slice none 0 0,.map none]:=by rw[eX h];exact dP (by kernel_rfl) wR
theorem xX:bY Tryz.prog 126=some (.agg ⟨[.int .u32 0,.string ⟨#[]⟩]⟩):=by kernel_rfl
theorem sM{t:Nat}(h:Nat.beq t 126=true):structOf Tryz.prog t [.int .u32 0,.string ⟨#[]⟩]:=by rw[eX h];exact dP (by kernel_rfl) xX
theorem mI:bY Tryz.prog 131=some (.agg ⟨[.map none,.bool false]⟩):=by kernel_rfl
theorem sI{t:Nat}(h:Nat.beq t 131=true):bY Tryz.prog t=some (.agg ⟨[.map none,.bool false]⟩):=by rw[eX h];exact mI
theorem pU{t:Nat}(h:Nat.beq t 131=true):structOf Tryz.prog t [.map none,.bool false]:=by rw[eX h];exact dP (by kernel_rfl) mI
theorem vB:bY Tryz.prog 135=some (.agg ⟨[.int .u64 0,.map none,.map none]⟩):=by kernel_rfl
theorem qN{t:Nat}(h:Nat.beq t 135=true):structOf Tryz.prog t [.int .u64 0,.map none,.map none]:=by rw[eX h];exact dP (by kernel_rfl) vB
theorem mY:bY Tryz.prog 138=some (.agg ⟨[.int .i64 0,.int .i64 0,.bool false,.bool false]⟩):=by kernel_rfl
theorem tL{t:Nat}(h:Nat.beq t 138=true):bY Tryz.prog t=some (.agg ⟨[.int .i64 0,.int .i64 0,.bool false,.bool false]⟩):=by rw[eX h];exact mY
theorem sR{t:Nat}(h:Nat.beq t 138=true):placeOf Tryz.prog t [(0,1),(1,2),(3,1)] [.int .i64 0,.int .i64 0,.bool false,.bool false]:=by rw[eX h];exact gO (by kernel_rfl) mY
theorem pB:bY Tryz.prog 143=some (.agg ⟨[.int .i64 0,.int .i64 0,.int .i64 0,.int .i64 0]⟩):=by kernel_rfl
theorem xD{t:Nat}(h:Nat.beq t 143=true):bY Tryz.prog t=some (.agg ⟨[.int .i64 0,.int .i64 0,.int .i64 0,.int .i64 0]⟩):=by rw[eX h];exact pB
theorem uB{t:Nat}(h:Nat.beq t 143=true):structOf Tryz.prog t [.int .i64 0,.int .i64 0,.int .i64 0,.int .i64 0]:=by rw[eX h];exact dP (by kernel_rfl) pB
theorem qV:bY Tryz.prog 147=some (.agg ⟨[.int .i64 0,.int .i64 0,.int .i64 0,.int .i64 0,.nilFunc,.nilFunc,.int .i64 0,.bool false,.int .u64 0,.string ⟨#[]⟩,.int .i64 0,.int .i64 0,.int .i64 0,.bool false]⟩):=by kernel_rfl
theorem zC{t:Nat}(h:Nat.beq t 147=true):bY Tryz.prog t=some (.agg ⟨[.int .i64 0,.int .i64 0,.int .i64 0,.int .i64 0,.nilFunc,.nilFunc,.int .i64 0,.bool false,.int .u64 0,.string ⟨#[]⟩,.int .i64 0,.int .i64 0,.int .i64 0,.bool false]⟩):=by rw[eX h];exact qV
theorem wQ{t:Nat}(h:Nat.beq t 147=true):placeOf Tryz.prog t [(0,4),(4,1),(5,1),(6,8)] [.int .i64 0,.int .i64 0,.int .i64 0,.int .i64 0,.nilFunc,.nilFunc,.int .i64 0,.bool false,.int .u64 0,.string ⟨#[]⟩,.int .i64 0,.int .i64 0,.int .i64 0,.bool false]:=by rw[eX h];exact gO (by kernel_rfl) qV
theorem Ck:bY Tryz.prog 149=some (.agg ⟨[.nilIface,.int .i64 0,.int .i64 0,.int .i64 0,.int .i64 0,.nilFunc,.nilFunc,.int .i64 0,.bool false,.int .u64 0,.string ⟨#[]⟩,.int .i64 0,.int .i64 0,.int .i64 0,.bool false,.int .i64 0,.bool false]⟩):=by kernel_rfl
theorem yG{t:Nat}(h:Nat.beq t 149=true):placeOf Tryz.prog t [(0,1),(1,14),(15,1),(16,1)] [.nilIface,.int .i64 0,.int .i64 0,.int .i64 0,.int .i64 0,.nilFunc,.nilFunc,.int .i64 0,.bool false,.int .u64 0,.string ⟨#[]⟩,.int .i64 0,.int .i64 0,.int .i64 0,.bool false,.int .i64 0,.bool false]:=by rw[eX h];exact gO (by kernel_rfl) Ck
theorem sY:bY Tryz.prog 165=some (.agg ⟨[.string ⟨#[]⟩,.int .u64 0]⟩):=by kernel_rfl
theorem Be{t:Nat}(h:Nat.beq t 165=true):bY Tryz.prog t=some (.agg ⟨[.string ⟨#[]⟩,.int .u64 0]⟩):=by rw[eX h];exact sY
theorem xC{t:Nat}(h:Nat.beq t 165=true):structOf Tryz.prog t [.string ⟨#[]⟩,.int .u64 0]:=by rw[eX h];exact dP (by kernel_rfl) sY
theorem sL:bY Tryz.prog 169=some (.agg ⟨[.int .i64 0,.int .i64 0,.int .i64 0]⟩):=by kernel_rfl
theorem qD{t:Nat}(h:Nat.beq t 169=true):bY Tryz.prog t=some (.agg ⟨[.int .i64 0,.int .i64 0,.int .i64 0]⟩):=by rw[eX h];exact sL
theorem tI:bY Tryz.prog 192=some (.agg ⟨[.int .i64 0,.int .i64 0,.int .i64 0,.int .u64 0,.slice none 0 0,.int .u64 0,.string ⟨#[]⟩,.int .u64 0,.slice none 0 0,.int .i64 0,.int .i64 0,.int .i64 0,.int .i64 0,.int .i64 0]⟩):=by kernel_rfl
theorem Cp{t:Nat}(h:Nat.beq t 192=true):bY Tryz.prog t=some (.agg ⟨[.int .i64 0,.int .i64 0,.int .i64 0,.int .u64 0,.slice none 0 0,.int .u64 0,.string ⟨#[]⟩,.int .u64 0,.slice none 0 0,.int .i64 0,.int .i64 0,.int .i64 0,.int .i64 0,.int .i64 0]⟩):=by rw[eX h];exact tI
theorem xF{t:Nat}(h:Nat.beq t 192=true):structOf Tryz.prog t [.int .i64 0,.int .i64 0,.int .i64 0,.int .u64 0,.slice none 0 0,.int .u64 0,.string ⟨#[]⟩,.int .u64 0,.slice none 0 0,.int .i64 0,.int .i64 0,.int .i64 0,.int .i64 0,.int .i64 0]:=by rw[eX h];exact dP (by kernel_rfl) tI
theorem Gv:bY Tryz.prog 204=some (.agg ⟨[.nilIface,.int .i64 0,.bool false]⟩):=by kernel_rfl
theorem Cv{t:Nat}(h:Nat.beq t 204=true):placeOf Tryz.prog t [(0,1),(1,2)] [.nilIface,.int .i64 0,.bool false]:=by rw[eX h];exact gO (by kernel_rfl) Gv
theorem xZ:bY Tryz.prog 207=some (.agg ⟨[.nilIface,.int .i64 0,.bool false,.string ⟨#[]⟩,.int .u64 0,.int .u64 0,.int .i64 0,.int .u64 0,.int .i64 0,.int .i64 0,.int .i64 0,.int .i64 0]⟩):=by kernel_rfl
theorem uA{t:Nat}(h:Nat.beq t 207=true):placeOf Tryz.prog t [(0,3),(3,1),(4,1),(5,1),(6,1),(7,1),(8,1),(9,1),(10,1),(11,1)] [.nilIface,.int .i64 0,.bool false,.string ⟨#[]⟩,.int .u64 0,.int .u64 0,.int .i64 0,.int .u64 0,.int .i64 0,.int .i64 0,.int .i64 0,.int .i64 0]:=by rw[eX h];exact gO (by kernel_rfl) xZ
theorem xA:bY Tryz.prog 213=some (.agg ⟨[.nilIface,.int .i64 0,.bool false,.string ⟨#[]⟩,.int .u64 0]⟩):=by kernel_rfl
theorem tQ{t:Nat}(h:Nat.beq t 213=true):placeOf Tryz.prog t [(0,3),(3,1),(4,1)] [.nilIface,.int .i64 0,.bool false,.string ⟨#[]⟩,.int .u64 0]:=by rw[eX h];exact gO (by kernel_rfl) xA
theorem uO:bY Tryz.prog 235=some (.agg ⟨[.int .u64 0,.string ⟨#[]⟩,.int .u64 0]⟩):=by kernel_rfl
theorem sK{t:Nat}(h:Nat.beq t 235=true):placeOf Tryz.prog t [(0,1),(1,2)] [.int .u64 0,.string ⟨#[]⟩,.int .u64 0]:=by rw[eX h];exact gO (by kernel_rfl) uO
def lr:List (Nat×Nat):=[(27,0),(27,1),(27,2),(29,0),(29,1),(29,2),(29,3),(29,4),(38,0),(38,1),(40,0),(40,1),(40,2),(40,3),(40,4),(40,5),(40,6),(59,0),(59,1),(59,2),(59,3),(66,0),(66,1),(66,2),(66,3),(66,4),(66,5),(73,0),(73,1),(73,2),(91,0),(91,1),(96,0),(96,1),(96,2),(96,3),(103,0),(103,1),(103,2),(103,3),(103,4),(110,0),(110,1),(113,0),(113,1),(113,2),(119,0),(119,1),(119,2),(119,3),(119,4),(119,5),(119,6),(119,7),(126,0),(126,1),(131,0),(131,1),(135,0),(135,1),(135,2),(138,0),(138,1),(143,0),(143,1),(143,2),(143,3),(147,0),(149,0),(149,1),(165,0),(165,1),(169,0),(169,1),(169,2),(192,0),(192,1),(192,2),(192,3),(192,4),(192,5),(192,6),(192,7),(192,8),(192,9),(192,10),(192,11),(192,12),(192,13),(204,0),(204,1),(207,0),(210,0),(213,0),(225,0),(225,1),(225,2),(228,0),(235,0),(235,1),(258,0),(258,1),(258,2),(300,0),(339,0),(351,0),(351,1),(351,2)]
theorem ez:(lr.all λ p=>eV Tryz.prog p.1 p.2==some p.2)=true:=by kernel_rfl
theorem eo{t k:Nat}(h:(lr.any λ p=>Nat.beq p.1 t&&Nat.beq p.2 k)=true):eV Tryz.prog t k=some k:=by
 obtain⟨p,hp,ht⟩:=List.any_eq_true.1 h
 simp only[Bool.and_eq_true] at ht
 have h2:=eq_of_beq (List.all_eq_true.1 ez p hp)
 rwa [eX ht.1,eX ht.2] at h2
def cw:List (Nat×Nat):=[(27,0),(27,1),(27,2),(29,0),(29,1),(29,2),(29,3),(29,4),(38,0),(38,1),(40,0),(40,1),(40,2),(40,3),(40,4),(40,5),(59,0),(59,1),(59,2),(66,0),(66,1),(66,2),(66,3),(66,4),(66,5),(73,0),(73,1),(73,2),(91,0),(91,1),(96,0),(96,1),(96,2),(96,3),(103,0),(103,1),(103,2),(103,3),(103,4),(110,0),(110,1),(113,0),(113,1),(119,0),(119,1),(119,2),(119,3),(119,4),(119,5),(119,6),(119,7),(126,0),(126,1),(131,0),(131,1),(135,0),(135,1),(135,2),(138,0),(143,0),(143,1),(143,2),(143,3),(149,0),(165,0),(165,1),(169,0),(169,1),(169,2),(192,0),(192,1),(192,2),(192,3),(192,4),(192,5),(192,6),(192,7),(192,8),(192,9),(192,10),(192,11),(192,12),(192,13),(204,0),(225,0),(225,1),(225,2),(235,0),(258,0),(258,1),(258,2),(351,0),(351,1)]
theorem Zq:(cw.all λ p=>uX Tryz.prog p.1 p.2==some p.2)=true:=by kernel_rfl
theorem Mp{t k:Nat}(h:(cw.any λ p=>Nat.beq p.1 t&&Nat.beq p.2 k)=true):uX Tryz.prog t k=some k:=by
 obtain⟨p,hp,ht⟩:=List.any_eq_true.1 h
 simp only[Bool.and_eq_true] at ht
 have h2:=eq_of_beq (List.all_eq_true.1 Zq p hp)
 rwa [eX ht.1,eX ht.2] at h2
theorem tV{t k:Nat}(h:(Nat.beq t 138&&Nat.beq k 2)=true):eV Tryz.prog t k=some 3:=by simp only[Bool.and_eq_true] at h;rw[eX h.1,eX h.2];kernel_rfl
theorem zL{t k:Nat}(h:(Nat.beq t 147&&Nat.beq k 1)=true):eV Tryz.prog t k=some 4:=by simp only[Bool.and_eq_true] at h;rw[eX h.1,eX h.2];kernel_rfl
theorem zD{t k:Nat}(h:(Nat.beq t 147&&Nat.beq k 2)=true):eV Tryz.prog t k=some 5:=by simp only[Bool.and_eq_true] at h;rw[eX h.1,eX h.2];kernel_rfl
theorem zK{t k:Nat}(h:(Nat.beq t 147&&Nat.beq k 3)=true):eV Tryz.prog t k=some 6:=by simp only[Bool.and_eq_true] at h;rw[eX h.1,eX h.2];kernel_rfl
theorem zH{t k:Nat}(h:(Nat.beq t 149&&Nat.beq k 2)=true):eV Tryz.prog t k=some 15:=by simp only[Bool.and_eq_true] at h;rw[eX h.1,eX h.2];kernel_rfl
theorem zF{t k:Nat}(h:(Nat.beq t 149&&Nat.beq k 3)=true):eV Tryz.prog t k=some 16:=by simp only[Bool.and_eq_true] at h;rw[eX h.1,eX h.2];kernel_rfl
theorem uQ{t k:Nat}(h:(Nat.beq t 207&&Nat.beq k 1)=true):eV Tryz.prog t k=some 3:=by simp only[Bool.and_eq_true] at h;rw[eX h.1,eX h.2];kernel_rfl
theorem vO{t k:Nat}(h:(Nat.beq t 207&&Nat.beq k 2)=true):eV Tryz.prog t k=some 4:=by simp only[Bool.and_eq_true] at h;rw[eX h.1,eX h.2];kernel_rfl
theorem vG{t k:Nat}(h:(Nat.beq t 207&&Nat.beq k 3)=true):eV Tryz.prog t k=some 5:=by simp only[Bool.and_eq_true] at h;rw[eX h.1,eX h.2];kernel_rfl
theorem uY{t k:Nat}(h:(Nat.beq t 207&&Nat.beq k 4)=true):eV Tryz.prog t k=some 6:=by simp only[Bool.and_eq_true] at h;rw[eX h.1,eX h.2];kernel_rfl
theorem wB{t k:Nat}(h:(Nat.beq t 207&&Nat.beq k 5)=true):eV Tryz.prog t k=some 7:=by simp only[Bool.and_eq_true] at h;rw[eX h.1,eX h.2];kernel_rfl
theorem vX{t k:Nat}(h:(Nat.beq t 207&&Nat.beq k 6)=true):eV Tryz.prog t k=some 8:=by simp only[Bool.and_eq_true] at h;rw[eX h.1,eX h.2];kernel_rfl
theorem wH{t k:Nat}(h:(Nat.beq t 207&&Nat.beq k 7)=true):eV Tryz.prog t k=some 9:=by simp only[Bool.and_eq_true] at h;rw[eX h.1,eX h.2];kernel_rfl
theorem vF{t k:Nat}(h:(Nat.beq t 207&&Nat.beq k 8)=true):eV Tryz.prog t k=some 10:=by simp only[Bool.and_eq_true] at h;rw[eX h.1,eX h.2];kernel_rfl
theorem uS{t k:Nat}(h:(Nat.beq t 207&&Nat.beq k 9)=true):eV Tryz.prog t k=some 11:=by simp only[Bool.and_eq_true] at h;rw[eX h.1,eX h.2];kernel_rfl
theorem vW{t k:Nat}(h:(Nat.beq t 213&&Nat.beq k 1)=true):eV Tryz.prog t k=some 3:=by simp only[Bool.and_eq_true] at h;rw[eX h.1,eX h.2];kernel_rfl
theorem vU{t k:Nat}(h:(Nat.beq t 213&&Nat.beq k 2)=true):eV Tryz.prog t k=some 4:=by simp only[Bool.and_eq_true] at h;rw[eX h.1,eX h.2];kernel_rfl
def mn:List Nat:=[15,16,17,31,54,61,62,71,77,79,84,86,114,178,202,208,211,222,232,256,298,306,326,337,356,371]
theorem im:(mn.all λ t=>Ji Tryz.prog t)=true:=by kernel_rfl
theorem Ls{t:Nat}(h:mn.elem t=true):Ji Tryz.prog t=true:=List.all_eq_true.1 im t (List.mem_of_elem_eq_true h)
def H8:List (Nat×Nat):=[(22,3),(25,30),(30,29),(43,59),(51,45),(63,73),(64,74),(93,192),(94,35),(108,111),(111,113),(117,83),(158,5),(159,165),(226,300),(233,235),(347,94),(376,9)]
def nT(t:Nat):Nat:=(H8.lookup t).getD 0
theorem ld:(H8.all λ p=>(match Tryz.prog.underlying p.1 with|some (.slice e)=>Nat.beq e p.2&&Nat.beq (nT p.1) p.2|_=>false))=true:=by kernel_rfl
theorem nk{t:Nat}(h:(H8.any λ p=>Nat.beq p.1 t)=true):Tryz.prog.underlying t=some (.slice (nT t)):=by
 obtain⟨p,hp,ht⟩:=List.any_eq_true.1 h
 have h2:=List.all_eq_true.1 ld p hp
 rw[<- eX ht]
 cases hu:Tryz.prog.underlying p.1 with
 | none=>rw[hu] at h2;simp at h2
 | some d =>
  rw[hu] at h2
  cases d<;>simp only[Bool.false_eq_true] at h2
  simp only[Bool.and_eq_true] at h2
  rw[eX h2.1,eX h2.2]
def q7(t:Nat):Nat:=bif Nat.beq (nT t) 300 then 15 else bif Nat.beq (nT t) 192 then 14 else bif Nat.beq (nT t) 59 then 11 else bif Nat.beq (nT t) 113 then 10 else bif Nat.beq (nT t) 29 then 5 else bif Nat.beq (nT t) 235 then 3 else bif Nat.beq (nT t) 73 then 3 else bif Nat.beq (nT t) 165 then 2 else bif Nat.beq (nT t) 45 then 2 else 1
theorem ku:(H8.all λ p=>(Tryz.prog.info? (nT p.1)).map (·.size)==some (q7 p.1))=true:=by kernel_rfl
theorem K5{t:Nat}(h:(H8.any λ p=>Nat.beq p.1 t)=true):(Tryz.prog.info? (nT t)).map (·.size)=some (q7 t):=by
 obtain⟨p,hp,ht⟩:=List.any_eq_true.1 h
 have h2:=List.all_eq_true.1 ku p hp
 rw[<- eX ht]
 exact eq_of_beq h2
def lu:List (Nat×Nat):=[(3,1),(5,1),(9,1),(29,5),(30,1),(35,1),(45,2),(59,11),(73,3),(74,1),(83,1),(94,1),(111,1),(113,10),(165,2),(192,14),(235,3),(300,15)]
theorem gr:(lu.all λ p=>(Tryz.prog.info? p.1).map (·.size)==some p.2)=true:=by kernel_rfl
theorem pJ{e s:Nat}(h:(lu.any λ p=>Nat.beq p.1 e&&Nat.beq p.2 s)=true):(Tryz.prog.info? e).map (·.size)=some s:=by
 obtain⟨p,hp,ht⟩:=List.any_eq_true.1 h
 simp only[Bool.and_eq_true] at ht
 have h2:=List.all_eq_true.1 gr p hp
 rw[<- eX ht.1,<- eX ht.2]
 exact eq_of_beq h2
theorem Mu{t:Nat}(h:Nat.beq t 4=true):Tryz.prog.underlying t=some .bool:=by
 rw[eX h];kernel_rfl
theorem V2{t:Nat}(h:Nat.beq t 9=true):Tryz.prog.underlying t=some .string:=by
 rw[eX h];kernel_rfl
theorem Yj{t:Nat}(h:Nat.beq t 165=true):Fw Tryz.prog t=true:=by
 rw[eX h];kernel_rfl
def lm:List (Nat×IntKind):=[(2,.i64),(3,.i64),(5,.u8),(12,.u64),(21,.i32),(23,.u64),(34,.i64),(35,.i64),(36,.i64),(74,.i8),(83,.u32),(262,.u64)]
theorem ij:(lm.all λ p=>tA Tryz.prog p.1 p.2)=true:=by kernel_rfl
theorem nQ{t:Nat}{k:IntKind}(h:(lm.any λ p=>Nat.beq p.1 t&&p.2==k)=true):tA Tryz.prog t k=true:=by
 obtain⟨p,hp,ht⟩:=List.any_eq_true.1 h
 simp only[Bool.and_eq_true] at ht
 have h2:=List.all_eq_true.1 ij p hp
 rw[eX ht.1,eq_of_beq ht.2] at h2
 exact h2
def de(P:Program)(t e s:Nat):Bool :=
 (match P.underlying t with|some (.slice e')=>Nat.beq e' e|_=>false)&&(match P.info? e with
  | some i=>Nat.beq i.size s&&Nat.ble i.bytes 256
  | none=>false)
theorem fZ{P:Program}{t e:Nat}{z:Value}{zc:List Value}(h:de P t e zc.length=true)(hz:bY P e=some z)(hzc:z.cells=⟨zc⟩):dL P t e zc:=by
 unfold de at h
 simp only[Bool.and_eq_true] at h
 refine⟨?_,?_⟩
 ·cases hu:P.underlying t with
  | none=>simp[hu] at h
  | some d =>
   rw[hu] at h
   cases d<;>simp only[Bool.false_eq_true,false_and] at h
   rw[eX h.1]
 ·cases hi:P.info? e with
  | none=>simp[hi] at h
  | some i =>
   rw[hi] at h
   simp only[Bool.and_eq_true] at h
   exact⟨i,z,rfl,by simpa[bY,hi] using hz,hzc,eX h.2.1,Nat.le_of_ble_eq_true h.2.2⟩
theorem Qa:bY Tryz.prog 3=some (.int .i64 0):=by kernel_rfl
theorem S7:dL Tryz.prog 22 3 [.int .i64 0]:=fZ (by kernel_rfl) Qa rfl
theorem D5{t:Nat}(h:Nat.beq t 22=true):dL Tryz.prog t 3 [.int .i64 0]:=by rw[eX h];exact S7
def cu:List Value:=[.int .i64 0,.int .i64 0,.int .i64 0,.int .u64 0,.slice none 0 0,.int .u64 0,.string ⟨#[]⟩,.int .u64 0,.slice none 0 0,.int .i64 0,.int .i64 0,.int .i64 0,.int .i64 0,.int .i64 0]
theorem Lz:bY Tryz.prog 192=some (.agg ⟨[.int .i64 0,.int .i64 0,.int .i64 0,.int .u64 0,.slice none 0 0,.int .u64 0,.string ⟨#[]⟩,.int .u64 0,.slice none 0 0,.int .i64 0,.int .i64 0,.int .i64 0,.int .i64 0,.int .i64 0]⟩):=by kernel_rfl
theorem Qc:dL Tryz.prog 93 192 cu:=fZ (by kernel_rfl) Lz rfl
theorem Cc{t:Nat}(h:Nat.beq t 93=true):dL Tryz.prog t 192 cu:=by rw[eX h];exact Qc
theorem Qi:bY Tryz.prog 35=some (.int .i64 0):=by kernel_rfl
theorem Jb:dL Tryz.prog 94 35 [.int .i64 0]:=fZ (by kernel_rfl) Qi rfl
theorem Df{t:Nat}(h:Nat.beq t 94=true):dL Tryz.prog t 35 [.int .i64 0]:=by rw[eX h];exact Jb
theorem Mh:bY Tryz.prog 165=some (.agg ⟨[.string ⟨#[]⟩,.int .u64 0]⟩):=by kernel_rfl
theorem Qd:dL Tryz.prog 159 165 [.string ⟨#[]⟩,.int .u64 0]:=fZ (by kernel_rfl) Mh rfl
theorem Br{t:Nat}(h:Nat.beq t 159=true):dL Tryz.prog t 165 [.string ⟨#[]⟩,.int .u64 0]:=by rw[eX h];exact Qd
end Go.Proofs.YtnilhhnfjfdokaaGreatDoor
