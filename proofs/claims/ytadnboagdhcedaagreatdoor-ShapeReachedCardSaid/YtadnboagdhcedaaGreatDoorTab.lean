/- What the program's table says of the types that are used: closed facts. Written by a program. -/
import Derived.Test.YtadnboagdhcedaaGreatDoorGLst3
import Derived.Test.YtadnboagdhcedaaGreatDoorProg
set_option linter.unusedSimpArgs false
set_option linter.unusedVariables false
namespace Go.Proofs.YtadnboagdhcedaaGreatDoor
open Go.RowKit Go.Ct
def y4:List Nat:=[2,3,4,5,9,12,15,16,17,20,21,22,23,26,27,30,32,36,37,38,44,51,56,62,63,64,73,78,85,97,107,111,117,120,132,215,219]
theorem u4:(y4.all λ t=>one Tryz.prog t)=true:=by kernel_rfl
theorem P3{t:Nat}(h:y4.elem t=true):one Tryz.prog t=true:=List.all_eq_true.1 u4 t (List.mem_of_elem_eq_true h)
def zd:List (Nat×Nat):=[(25,3),(29,2),(35,4),(40,4),(66,3),(68,8),(70,25),(77,14),(87,4),(93,54),(102,5),(106,2),(113,4),(115,52),(122,6),(137,2),(153,4),(182,2)]
theorem ru:(zd.all λ p=>jO Tryz.prog p.1 p.2)=true:=by kernel_rfl
theorem Pu{t k:Nat}(h:(zd.any λ p=>Nat.beq p.1 t&&Nat.beq p.2 k)=true):jO Tryz.prog t k=true:=by
 obtain⟨p,hp,ht⟩:=List.any_eq_true.1 h
 simp only[Bool.and_eq_true] at ht
 have h2:=List.all_eq_true.1 ru p hp
 rwa [eC ht.1,eC ht.2] at h2
theorem Df:dC Tryz.prog 25=some (.agg ⟨[.slice none 0 0,.slice none 0 0,.int .i64 0]⟩):=by kernel_rfl
theorem yG{t:Nat}(h:Nat.beq t 25=true):structOf Tryz.prog t [.slice none 0 0,.slice none 0 0,.int .i64 0]:=by rw[eC h];exact gV (by kernel_rfl) Df
theorem wK:dC Tryz.prog 29=some (.agg ⟨[.int .i64 0,.bool false]⟩):=by kernel_rfl
theorem C4{t:Nat}(h:Nat.beq t 29=true):dC Tryz.prog t=some (.agg ⟨[.int .i64 0,.bool false]⟩):=by rw[eC h];exact wK
theorem Ai{t:Nat}(h:Nat.beq t 29=true):structOf Tryz.prog t [.int .i64 0,.bool false]:=by rw[eC h];exact gV (by kernel_rfl) wK
theorem vW:dC Tryz.prog 35=some (.agg ⟨[.slice none 0 0,.slice none 0 0,.int .i64 0,.int .i64 0]⟩):=by kernel_rfl
theorem sF{t:Nat}(h:Nat.beq t 35=true):placeOf Tryz.prog t [(0,3),(3,1)] [.slice none 0 0,.slice none 0 0,.int .i64 0,.int .i64 0]:=by rw[eC h];exact kC (by kernel_rfl) vW
theorem tJ:dC Tryz.prog 40=some (.agg ⟨[.pointer none,.int .u64 0,.slice none 0 0,.slice none 0 0]⟩):=by kernel_rfl
theorem qA{t:Nat}(h:Nat.beq t 40=true):structOf Tryz.prog t [.pointer none,.int .u64 0,.slice none 0 0,.slice none 0 0]:=by rw[eC h];exact gV (by kernel_rfl) tJ
theorem rZ:dC Tryz.prog 68=some (.agg ⟨[.int .i64 0,.bool false,.int .u64 0,.string ⟨#[]⟩,.int .i64 0,.int .i64 0,.int .i64 0,.bool false]⟩):=by kernel_rfl
theorem zR{t:Nat}(h:Nat.beq t 68=true):dC Tryz.prog t=some (.agg ⟨[.int .i64 0,.bool false,.int .u64 0,.string ⟨#[]⟩,.int .i64 0,.int .i64 0,.int .i64 0,.bool false]⟩):=by rw[eC h];exact rZ
theorem yT{t:Nat}(h:Nat.beq t 68=true):placeOf Tryz.prog t [(0,1),(1,1),(2,1),(3,1),(4,1),(5,1),(6,2)] [.int .i64 0,.bool false,.int .u64 0,.string ⟨#[]⟩,.int .i64 0,.int .i64 0,.int .i64 0,.bool false]:=by rw[eC h];exact kC (by kernel_rfl) rZ
theorem mU:dC Tryz.prog 70=some (.agg ⟨[.int .i64 0,.int .i64 0,.bool false,.int .i64 0,.int .i64 0,.int .i64 0,.int .i64 0,.int .u64 0,.int .u64 0,.string ⟨#[]⟩,.int .u64 0,.int .u64 0,.int .i64 0,.bool false,.bool false,.slice none 0 0,.slice none 0 0,.int .i64 0,.bool false,.int .u64 0,.string ⟨#[]⟩,.int .i64 0,.int .i64 0,.int .i64 0,.bool false]⟩):=by kernel_rfl
theorem sW{t:Nat}(h:Nat.beq t 70=true):dC Tryz.prog t=some (.agg ⟨[.int .i64 0,.int .i64 0,.bool false,.int .i64 0,.int .i64 0,.int .i64 0,.int .i64 0,.int .u64 0,.int .u64 0,.string ⟨#[]⟩,.int .u64 0,.int .u64 0,.int .i64 0,.bool false,.bool false,.slice none 0 0,.slice none 0 0,.int .i64 0,.bool false,.int .u64 0,.string ⟨#[]⟩,.int .i64 0,.int .i64 0,.int .i64 0,.bool false]⟩):=by rw[eC h];exact mU
theorem rI{t:Nat}(h:Nat.beq t 70=true):placeOf Tryz.prog t [(0,1),(1,2),(3,1),(4,1),(5,1),(6,1),(7,1),(8,1),(9,1),(10,1),(11,1),(12,1),(13,1),(14,3),(17,8)] [.int .i64 0,.int .i64 0,.bool false,.int .i64 0,.int .i64 0,.int .i64 0,.int .i64 0,.int .u64 0,.int .u64 0,.string ⟨#[]⟩,.int .u64 0,.int .u64 0,.int .i64 0,.bool false,.bool false,.slice none 0 0,.slice none 0 0,.int .i64 0,.bool false,.int .u64 0,.string ⟨#[]⟩,.int .i64 0,.int .i64 0,.int .i64 0,.bool false]:=by rw[eC h];exact kC (by kernel_rfl) mU
theorem wE:dC Tryz.prog 77=some (.agg ⟨[.int .i64 0,.int .i64 0,.int .i64 0,.int .u64 0,.slice none 0 0,.int .u64 0,.string ⟨#[]⟩,.int .u64 0,.slice none 0 0,.int .i64 0,.int .i64 0,.int .i64 0,.int .i64 0,.int .i64 0]⟩):=by kernel_rfl
theorem E4{t:Nat}(h:Nat.beq t 77=true):dC Tryz.prog t=some (.agg ⟨[.int .i64 0,.int .i64 0,.int .i64 0,.int .u64 0,.slice none 0 0,.int .u64 0,.string ⟨#[]⟩,.int .u64 0,.slice none 0 0,.int .i64 0,.int .i64 0,.int .i64 0,.int .i64 0,.int .i64 0]⟩):=by rw[eC h];exact wE
theorem zZ{t:Nat}(h:Nat.beq t 77=true):structOf Tryz.prog t [.int .i64 0,.int .i64 0,.int .i64 0,.int .u64 0,.slice none 0 0,.int .u64 0,.string ⟨#[]⟩,.int .u64 0,.slice none 0 0,.int .i64 0,.int .i64 0,.int .i64 0,.int .i64 0,.int .i64 0]:=by rw[eC h];exact gV (by kernel_rfl) wE
theorem wV:dC Tryz.prog 87=some (.agg ⟨[.slice none 0 0,.slice none 0 0,.int .i64 0,.int .u64 0]⟩):=by kernel_rfl
theorem tK{t:Nat}(h:Nat.beq t 87=true):placeOf Tryz.prog t [(0,3),(3,1)] [.slice none 0 0,.slice none 0 0,.int .i64 0,.int .u64 0]:=by rw[eC h];exact kC (by kernel_rfl) wV
theorem qP:dC Tryz.prog 93=some (.agg ⟨[.int .i64 0,.int .i64 0,.int .i64 0,.int .i64 0,.int .i64 0,.int .i64 0,.int .i64 0,.int .i64 0,.int .i64 0,.int .i64 0,.int .i64 0,.int .i64 0,.int .i64 0,.int .i64 0,.int .i64 0,.int .u64 0,.slice none 0 0,.int .u64 0,.string ⟨#[]⟩,.int .u64 0,.slice none 0 0,.int .i64 0,.int .i64 0,.int .i64 0,.int .i64 0,.int .i64 0,.int .i64 0,.int .i64 0,.int .i64 0,.int .u64 0,.slice none 0 0,.int .u64 0,.string ⟨#[]⟩,.int .u64 0,.slice none 0 0,.int .i64 0,.int .i64 0,.int .i64 0,.int .i64 0,.int .i64 0,.int .i64 0,.int .i64 0,.int .i64 0,.int .u64 0,.slice none 0 0,.int .u64 0,.string ⟨#[]⟩,.int .u64 0,.slice none 0 0,.int .i64 0,.int .i64 0,.int .i64 0,.int .i64 0,.int .i64 0]⟩):=by kernel_rfl
theorem yA{t:Nat}(h:Nat.beq t 93=true):dC Tryz.prog t=some (.agg ⟨[.int .i64 0,.int .i64 0,.int .i64 0,.int .i64 0,.int .i64 0,.int .i64 0,.int .i64 0,.int .i64 0,.int .i64 0,.int .i64 0,.int .i64 0,.int .i64 0,.int .i64 0,.int .i64 0,.int .i64 0,.int .u64 0,.slice none 0 0,.int .u64 0,.string ⟨#[]⟩,.int .u64 0,.slice none 0 0,.int .i64 0,.int .i64 0,.int .i64 0,.int .i64 0,.int .i64 0,.int .i64 0,.int .i64 0,.int .i64 0,.int .u64 0,.slice none 0 0,.int .u64 0,.string ⟨#[]⟩,.int .u64 0,.slice none 0 0,.int .i64 0,.int .i64 0,.int .i64 0,.int .i64 0,.int .i64 0,.int .i64 0,.int .i64 0,.int .i64 0,.int .u64 0,.slice none 0 0,.int .u64 0,.string ⟨#[]⟩,.int .u64 0,.slice none 0 0,.int .i64 0,.int .i64 0,.int .i64 0,.int .i64 0,.int .i64 0]⟩):=by rw[eC h];exact qP
theorem iA{t:Nat}(h:Nat.beq t 93=true):placeOf Tryz.prog t [(0,1),(1,11),(12,14),(26,14),(40,14)] [.int .i64 0,.int .i64 0,.int .i64 0,.int .i64 0,.int .i64 0,.int .i64 0,.int .i64 0,.int .i64 0,.int .i64 0,.int .i64 0,.int .i64 0,.int .i64 0,.int .i64 0,.int .i64 0,.int .i64 0,.int .u64 0,.slice none 0 0,.int .u64 0,.string ⟨#[]⟩,.int .u64 0,.slice none 0 0,.int .i64 0,.int .i64 0,.int .i64 0,.int .i64 0,.int .i64 0,.int .i64 0,.int .i64 0,.int .i64 0,.int .u64 0,.slice none 0 0,.int .u64 0,.string ⟨#[]⟩,.int .u64 0,.slice none 0 0,.int .i64 0,.int .i64 0,.int .i64 0,.int .i64 0,.int .i64 0,.int .i64 0,.int .i64 0,.int .i64 0,.int .u64 0,.slice none 0 0,.int .u64 0,.string ⟨#[]⟩,.int .u64 0,.slice none 0 0,.int .i64 0,.int .i64 0,.int .i64 0,.int .i64 0,.int .i64 0]:=by rw[eC h];exact kC (by kernel_rfl) qP
theorem vT:dC Tryz.prog 106=some (.agg ⟨[.slice none 0 0,.int .i64 0]⟩):=by kernel_rfl
theorem qU{t:Nat}(h:Nat.beq t 106=true):structOf Tryz.prog t [.slice none 0 0,.int .i64 0]:=by rw[eC h];exact gV (by kernel_rfl) vT
theorem B1:dC Tryz.prog 113=some (.agg ⟨[.int .i64 0,.int .i64 0,.int .i64 0,.int .i64 0]⟩):=by kernel_rfl
theorem wW{t:Nat}(h:Nat.beq t 113=true):structOf Tryz.prog t [.int .i64 0,.int .i64 0,.int .i64 0,.int .i64 0]:=by rw[eC h];exact gV (by kernel_rfl) B1
theorem uO:dC Tryz.prog 115=some (.agg ⟨[.pointer none,.int .i64 0,.int .i64 0,.bool false,.int .i64 0,.int .i64 0,.int .i64 0,.int .i64 0,.int .u64 0,.int .u64 0,.string ⟨#[]⟩,.int .u64 0,.int .u64 0,.int .i64 0,.bool false,.bool false,.slice none 0 0,.slice none 0 0,.int .i64 0,.bool false,.int .u64 0,.string ⟨#[]⟩,.int .i64 0,.int .i64 0,.int .i64 0,.bool false,.slice none 0 0,.slice none 0 0,.slice none 0 0,.slice none 0 0,.int .i64 0,.int .i64 0,.int .i64 0,.int .i64 0,.int .i64 0,.bool false,.int .i64 0,.int .i64 0,.int .i64 0,.int .i64 0,.bool false,.int .i64 0,.bool false,.int .u64 0,.string ⟨#[]⟩,.int .i64 0,.int .i64 0,.int .i64 0,.bool false,.bool false,.slice none 0 0,.slice none 0 0]⟩):=by kernel_rfl
theorem rR{t:Nat}(h:Nat.beq t 115=true):placeOf Tryz.prog t [(0,1),(1,25),(26,1),(27,1),(28,1),(29,1),(30,1),(31,1),(32,1),(33,1),(34,1),(35,1),(36,4),(40,1),(41,8),(49,3)] [.pointer none,.int .i64 0,.int .i64 0,.bool false,.int .i64 0,.int .i64 0,.int .i64 0,.int .i64 0,.int .u64 0,.int .u64 0,.string ⟨#[]⟩,.int .u64 0,.int .u64 0,.int .i64 0,.bool false,.bool false,.slice none 0 0,.slice none 0 0,.int .i64 0,.bool false,.int .u64 0,.string ⟨#[]⟩,.int .i64 0,.int .i64 0,.int .i64 0,.bool false,.slice none 0 0,.slice none 0 0,.slice none 0 0,.slice none 0 0,.int .i64 0,.int .i64 0,.int .i64 0,.int .i64 0,.int .i64 0,.bool false,.int .i64 0,.int .i64 0,.int .i64 0,.int .i64 0,.bool false,.int .i64 0,.bool false,.int .u64 0,.string ⟨#[]⟩,.int .i64 0,.int .i64 0,.int .i64 0,.bool false,.bool false,.slice none 0 0,.slice none 0 0]:=by rw[eC h];exact kC (by kernel_rfl) uO
theorem vP:dC Tryz.prog 122=some (.agg ⟨[.slice none 0 0,.slice none 0 0,.int .i64 0,.slice none 0 0,.slice none 0 0,.slice none 0 0]⟩):=by kernel_rfl
theorem sM{t:Nat}(h:Nat.beq t 122=true):placeOf Tryz.prog t [(0,3),(3,1),(4,1),(5,1)] [.slice none 0 0,.slice none 0 0,.int .i64 0,.slice none 0 0,.slice none 0 0,.slice none 0 0]:=by rw[eC h];exact kC (by kernel_rfl) vP
theorem wC:dC Tryz.prog 137=some (.agg ⟨[.string ⟨#[]⟩,.int .u64 0]⟩):=by kernel_rfl
theorem Et{t:Nat}(h:Nat.beq t 137=true):dC Tryz.prog t=some (.agg ⟨[.string ⟨#[]⟩,.int .u64 0]⟩):=by rw[eC h];exact wC
theorem Ad{t:Nat}(h:Nat.beq t 137=true):structOf Tryz.prog t [.string ⟨#[]⟩,.int .u64 0]:=by rw[eC h];exact gV (by kernel_rfl) wC
theorem zY:dC Tryz.prog 153=some (.agg ⟨[.slice none 0 0,.slice none 0 0,.int .i64 0,.int .i64 0]⟩):=by kernel_rfl
theorem vR{t:Nat}(h:Nat.beq t 153=true):structOf Tryz.prog t [.slice none 0 0,.slice none 0 0,.int .i64 0,.int .i64 0]:=by rw[eC h];exact gV (by kernel_rfl) zY
def ym:List (Nat×Nat):=[(25,0),(25,1),(25,2),(29,0),(29,1),(35,0),(40,0),(40,1),(40,2),(40,3),(66,0),(66,1),(66,2),(68,0),(68,1),(68,2),(68,3),(68,4),(68,5),(68,6),(70,0),(70,1),(77,0),(77,1),(77,2),(77,3),(77,4),(77,5),(77,6),(77,7),(77,8),(77,9),(77,10),(77,11),(77,12),(77,13),(87,0),(93,0),(93,1),(102,0),(102,1),(102,2),(102,3),(102,4),(106,0),(106,1),(113,0),(113,1),(113,2),(113,3),(115,0),(115,1),(122,0),(137,0),(137,1),(153,0),(153,1),(153,2),(153,3),(182,0),(182,1)]
theorem r6:(ym.all λ p=>cP Tryz.prog p.1 p.2==some p.2)=true:=by kernel_rfl
theorem py{t k:Nat}(h:(ym.any λ p=>Nat.beq p.1 t&&Nat.beq p.2 k)=true):cP Tryz.prog t k=some k:=by
 obtain⟨p,hp,ht⟩:=List.any_eq_true.1 h
 simp only[Bool.and_eq_true] at ht
 have h2:=eq_of_beq (List.all_eq_true.1 r6 p hp)
 rwa [eC ht.1,eC ht.2] at h2
def n0:List (Nat×Nat):=[(25,0),(25,1),(25,2),(29,0),(29,1),(40,0),(40,1),(40,2),(40,3),(66,0),(66,1),(66,2),(68,0),(68,1),(68,2),(68,3),(68,4),(68,5),(70,0),(77,0),(77,1),(77,2),(77,3),(77,4),(77,5),(77,6),(77,7),(77,8),(77,9),(77,10),(77,11),(77,12),(77,13),(93,0),(102,0),(102,1),(102,2),(102,3),(102,4),(106,0),(106,1),(113,0),(113,1),(113,2),(113,3),(115,0),(137,0),(137,1),(153,0),(153,1),(153,2),(153,3),(182,0),(182,1)]
theorem ie:(n0.all λ p=>xZ Tryz.prog p.1 p.2==some p.2)=true:=by kernel_rfl
theorem Ri{t k:Nat}(h:(n0.any λ p=>Nat.beq p.1 t&&Nat.beq p.2 k)=true):xZ Tryz.prog t k=some k:=by
 obtain⟨p,hp,ht⟩:=List.any_eq_true.1 h
 simp only[Bool.and_eq_true] at ht
 have h2:=eq_of_beq (List.all_eq_true.1 ie p hp)
 rwa [eC ht.1,eC ht.2] at h2
theorem tU{t k:Nat}(h:(Nat.beq t 35&&Nat.beq k 1)=true):cP Tryz.prog t k=some 3:=by simp only[Bool.and_eq_true] at h;rw[eC h.1,eC h.2];kernel_rfl
theorem sU{t k:Nat}(h:(Nat.beq t 70&&Nat.beq k 2)=true):cP Tryz.prog t k=some 3:=by simp only[Bool.and_eq_true] at h;rw[eC h.1,eC h.2];kernel_rfl
theorem sN{t k:Nat}(h:(Nat.beq t 70&&Nat.beq k 3)=true):cP Tryz.prog t k=some 4:=by simp only[Bool.and_eq_true] at h;rw[eC h.1,eC h.2];kernel_rfl
theorem sL{t k:Nat}(h:(Nat.beq t 70&&Nat.beq k 4)=true):cP Tryz.prog t k=some 5:=by simp only[Bool.and_eq_true] at h;rw[eC h.1,eC h.2];kernel_rfl
theorem sG{t k:Nat}(h:(Nat.beq t 70&&Nat.beq k 7)=true):cP Tryz.prog t k=some 8:=by simp only[Bool.and_eq_true] at h;rw[eC h.1,eC h.2];kernel_rfl
theorem sE{t k:Nat}(h:(Nat.beq t 70&&Nat.beq k 8)=true):cP Tryz.prog t k=some 9:=by simp only[Bool.and_eq_true] at h;rw[eC h.1,eC h.2];kernel_rfl
theorem sJ{t k:Nat}(h:(Nat.beq t 70&&Nat.beq k 9)=true):cP Tryz.prog t k=some 10:=by simp only[Bool.and_eq_true] at h;rw[eC h.1,eC h.2];kernel_rfl
theorem rO{t k:Nat}(h:(Nat.beq t 70&&Nat.beq k 10)=true):cP Tryz.prog t k=some 11:=by simp only[Bool.and_eq_true] at h;rw[eC h.1,eC h.2];kernel_rfl
theorem rD{t k:Nat}(h:(Nat.beq t 70&&Nat.beq k 11)=true):cP Tryz.prog t k=some 12:=by simp only[Bool.and_eq_true] at h;rw[eC h.1,eC h.2];kernel_rfl
theorem rP{t k:Nat}(h:(Nat.beq t 70&&Nat.beq k 12)=true):cP Tryz.prog t k=some 13:=by simp only[Bool.and_eq_true] at h;rw[eC h.1,eC h.2];kernel_rfl
theorem vS{t k:Nat}(h:(Nat.beq t 87&&Nat.beq k 1)=true):cP Tryz.prog t k=some 3:=by simp only[Bool.and_eq_true] at h;rw[eC h.1,eC h.2];kernel_rfl
theorem zJ{t k:Nat}(h:(Nat.beq t 93&&Nat.beq k 2)=true):cP Tryz.prog t k=some 12:=by simp only[Bool.and_eq_true] at h;rw[eC h.1,eC h.2];kernel_rfl
theorem zF{t k:Nat}(h:(Nat.beq t 93&&Nat.beq k 3)=true):cP Tryz.prog t k=some 26:=by simp only[Bool.and_eq_true] at h;rw[eC h.1,eC h.2];kernel_rfl
theorem zE{t k:Nat}(h:(Nat.beq t 93&&Nat.beq k 4)=true):cP Tryz.prog t k=some 40:=by simp only[Bool.and_eq_true] at h;rw[eC h.1,eC h.2];kernel_rfl
theorem sS{t k:Nat}(h:(Nat.beq t 115&&Nat.beq k 2)=true):cP Tryz.prog t k=some 26:=by simp only[Bool.and_eq_true] at h;rw[eC h.1,eC h.2];kernel_rfl
theorem sQ{t k:Nat}(h:(Nat.beq t 115&&Nat.beq k 3)=true):cP Tryz.prog t k=some 27:=by simp only[Bool.and_eq_true] at h;rw[eC h.1,eC h.2];kernel_rfl
theorem sO{t k:Nat}(h:(Nat.beq t 115&&Nat.beq k 4)=true):cP Tryz.prog t k=some 28:=by simp only[Bool.and_eq_true] at h;rw[eC h.1,eC h.2];kernel_rfl
theorem sH{t k:Nat}(h:(Nat.beq t 115&&Nat.beq k 5)=true):cP Tryz.prog t k=some 29:=by simp only[Bool.and_eq_true] at h;rw[eC h.1,eC h.2];kernel_rfl
theorem sV{t k:Nat}(h:(Nat.beq t 115&&Nat.beq k 6)=true):cP Tryz.prog t k=some 30:=by simp only[Bool.and_eq_true] at h;rw[eC h.1,eC h.2];kernel_rfl
theorem sK{t k:Nat}(h:(Nat.beq t 115&&Nat.beq k 7)=true):cP Tryz.prog t k=some 31:=by simp only[Bool.and_eq_true] at h;rw[eC h.1,eC h.2];kernel_rfl
theorem sR{t k:Nat}(h:(Nat.beq t 115&&Nat.beq k 8)=true):cP Tryz.prog t k=some 32:=by simp only[Bool.and_eq_true] at h;rw[eC h.1,eC h.2];kernel_rfl
theorem sP{t k:Nat}(h:(Nat.beq t 115&&Nat.beq k 9)=true):cP Tryz.prog t k=some 33:=by simp only[Bool.and_eq_true] at h;rw[eC h.1,eC h.2];kernel_rfl
theorem rW{t k:Nat}(h:(Nat.beq t 115&&Nat.beq k 10)=true):cP Tryz.prog t k=some 34:=by simp only[Bool.and_eq_true] at h;rw[eC h.1,eC h.2];kernel_rfl
theorem rM{t k:Nat}(h:(Nat.beq t 115&&Nat.beq k 11)=true):cP Tryz.prog t k=some 35:=by simp only[Bool.and_eq_true] at h;rw[eC h.1,eC h.2];kernel_rfl
theorem rG{t k:Nat}(h:(Nat.beq t 115&&Nat.beq k 12)=true):cP Tryz.prog t k=some 36:=by simp only[Bool.and_eq_true] at h;rw[eC h.1,eC h.2];kernel_rfl
theorem rV{t k:Nat}(h:(Nat.beq t 115&&Nat.beq k 13)=true):cP Tryz.prog t k=some 40:=by simp only[Bool.and_eq_true] at h;rw[eC h.1,eC h.2];kernel_rfl
theorem rB{t k:Nat}(h:(Nat.beq t 115&&Nat.beq k 14)=true):cP Tryz.prog t k=some 41:=by simp only[Bool.and_eq_true] at h;rw[eC h.1,eC h.2];kernel_rfl
theorem uA{t k:Nat}(h:(Nat.beq t 122&&Nat.beq k 1)=true):cP Tryz.prog t k=some 3:=by simp only[Bool.and_eq_true] at h;rw[eC h.1,eC h.2];kernel_rfl
theorem tO{t k:Nat}(h:(Nat.beq t 122&&Nat.beq k 2)=true):cP Tryz.prog t k=some 4:=by simp only[Bool.and_eq_true] at h;rw[eC h.1,eC h.2];kernel_rfl
def Wn:List (Nat×Nat):=[(22,77),(23,62),(26,3),(37,29),(38,73),(51,9),(63,182),(64,137),(97,102),(107,30),(111,27),(120,4)]
def nu(t:Nat):Nat:=(Wn.lookup t).getD 0
theorem xq:(Wn.all λ p=>(match Tryz.prog.underlying p.1 with|some (.slice e)=>Nat.beq e p.2&&Nat.beq (nu p.1) p.2|_=>false))=true:=by kernel_rfl
theorem xn{t:Nat}(h:(Wn.any λ p=>Nat.beq p.1 t)=true):Tryz.prog.underlying t=some (.slice (nu t)):=by
 obtain⟨p,hp,ht⟩:=List.any_eq_true.1 h
 have h2:=List.all_eq_true.1 xq p hp
 rw[<- eC ht]
 cases hu:Tryz.prog.underlying p.1 with
 | none=>rw[hu] at h2;simp at h2
 | some d =>
  rw[hu] at h2
  cases d<;>simp only[Bool.false_eq_true] at h2
  simp only[Bool.and_eq_true] at h2
  rw[eC h2.1,eC h2.2]
def zp:List (Nat×Nat):=[(3,1),(4,1),(9,1),(27,1),(29,2),(30,1),(62,1),(73,1),(77,14),(102,5),(137,2),(182,2)]
theorem uz:(zp.all λ p=>(Tryz.prog.info? p.1).map (·.size)==some p.2)=true:=by kernel_rfl
theorem sA{e s:Nat}(h:(zp.any λ p=>Nat.beq p.1 e&&Nat.beq p.2 s)=true):(Tryz.prog.info? e).map (·.size)=some s:=by
 obtain⟨p,hp,ht⟩:=List.any_eq_true.1 h
 simp only[Bool.and_eq_true] at ht
 have h2:=List.all_eq_true.1 uz p hp
 rw[<- eC ht.1,<- eC ht.2]
 exact eq_of_beq h2
theorem vj{t:Nat}(h:Nat.beq t 9=true):Tryz.prog.underlying t=some .string:=by
 rw[eC h];kernel_rfl
theorem eb{t:Nat}(h:Nat.beq t 137=true):Iz Tryz.prog t=true:=by
 rw[eC h];kernel_rfl
def wx:List (Nat×IntKind):=[(2,.i64),(3,.i64),(5,.u8),(12,.u64),(21,.i32),(27,.i64),(30,.u64),(44,.i64),(62,.i64),(78,.u64),(215,.u32)]
theorem qs:(wx.all λ p=>wJ Tryz.prog p.1 p.2)=true:=by kernel_rfl
theorem rT{t:Nat}{k:IntKind}(h:(wx.any λ p=>Nat.beq p.1 t&&p.2==k)=true):wJ Tryz.prog t k=true:=by
 obtain⟨p,hp,ht⟩:=List.any_eq_true.1 h
 simp only[Bool.and_eq_true] at ht
 have h2:=List.all_eq_true.1 qs p hp
 rw[eC ht.1,eq_of_beq ht.2] at h2
 exact h2
def mw(P:Program)(t e s:Nat):Bool :=
 (match P.underlying t with|some (.slice e')=>Nat.beq e' e|_=>false)&&(match P.info? e with
  | some i=>Nat.beq i.size s&&Nat.ble i.bytes 256
  | none=>false)
theorem mE{P:Program}{t e:Nat}{z:Value}{zc:List Value}(h:mw P t e zc.length=true)(hz:dC P e=some z)(hzc:z.cells=⟨zc⟩):dF P t e zc:=by
 unfold mw at h
 simp only[Bool.and_eq_true] at h
 refine⟨?_,?_⟩
 ·cases hu:P.underlying t with
  | none=>simp[hu] at h
  | some d =>
   rw[hu] at h
   cases d<;>simp only[Bool.false_eq_true,false_and] at h
   rw[eC h.1]
 ·cases hi:P.info? e with
  | none=>simp[hi] at h
  | some i =>
   rw[hi] at h
   simp only[Bool.and_eq_true] at h
   exact⟨i,z,rfl,by simpa[dC,hi] using hz,hzc,eC h.2.1,Nat.le_of_ble_eq_true h.2.2⟩
def oa:List Value:=[.int .i64 0,.int .i64 0,.int .i64 0,.int .u64 0,.slice none 0 0,.int .u64 0,.string ⟨#[]⟩,.int .u64 0,.slice none 0 0,.int .i64 0,.int .i64 0,.int .i64 0,.int .i64 0,.int .i64 0]
theorem Oy:dC Tryz.prog 77=some (.agg ⟨[.int .i64 0,.int .i64 0,.int .i64 0,.int .u64 0,.slice none 0 0,.int .u64 0,.string ⟨#[]⟩,.int .u64 0,.slice none 0 0,.int .i64 0,.int .i64 0,.int .i64 0,.int .i64 0,.int .i64 0]⟩):=by kernel_rfl
theorem qI:dF Tryz.prog 22 77 oa:=mE (by kernel_rfl) Oy rfl
theorem C2{t:Nat}(h:Nat.beq t 22=true):dF Tryz.prog t 77 oa:=by rw[eC h];exact qI
theorem T3:dC Tryz.prog 62=some (.int .i64 0):=by kernel_rfl
theorem kO:dF Tryz.prog 23 62 [.int .i64 0]:=mE (by kernel_rfl) T3 rfl
theorem Gs{t:Nat}(h:Nat.beq t 23=true):dF Tryz.prog t 62 [.int .i64 0]:=by rw[eC h];exact kO
theorem Vb:dC Tryz.prog 3=some (.int .i64 0):=by kernel_rfl
theorem Dg:dF Tryz.prog 26 3 [.int .i64 0]:=mE (by kernel_rfl) Vb rfl
theorem Gr{t:Nat}(h:Nat.beq t 26=true):dF Tryz.prog t 3 [.int .i64 0]:=by rw[eC h];exact Dg
theorem Tz:dC Tryz.prog 9=some (.string ⟨#[]⟩):=by kernel_rfl
theorem Y3:dF Tryz.prog 51 9 [.string ⟨#[]⟩]:=mE (by kernel_rfl) Tz rfl
theorem T6{t:Nat}(h:Nat.beq t 51=true):dF Tryz.prog t 9 [.string ⟨#[]⟩]:=by rw[eC h];exact Y3
theorem Qf:dC Tryz.prog 137=some (.agg ⟨[.string ⟨#[]⟩,.int .u64 0]⟩):=by kernel_rfl
theorem Vn:dF Tryz.prog 64 137 [.string ⟨#[]⟩,.int .u64 0]:=mE (by kernel_rfl) Qf rfl
theorem oN{t:Nat}(h:Nat.beq t 64=true):dF Tryz.prog t 137 [.string ⟨#[]⟩,.int .u64 0]:=by rw[eC h];exact Vn
theorem Pe:dC Tryz.prog 4=some (.bool false):=by kernel_rfl
theorem Vc:dF Tryz.prog 120 4 [.bool false]:=mE (by kernel_rfl) Pe rfl
theorem C7{t:Nat}(h:Nat.beq t 120=true):dF Tryz.prog t 4 [.bool false]:=by rw[eC h];exact Vc
end Go.Proofs.YtadnboagdhcedaaGreatDoor
