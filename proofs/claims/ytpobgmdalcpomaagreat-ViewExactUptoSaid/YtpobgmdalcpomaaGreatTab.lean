/- What the program's table says of the types that are used: closed facts. Written by a program. -/
import Derived.Test.YtpobgmdalcpomaaGreatGLst3
import Derived.Test.YtpobgmdalcpomaaGreatProg
set_option linter.unusedSimpArgs false
set_option linter.unusedVariables false
namespace Go.Proofs.YtpobgmdalcpomaaGreat
open Go.RowKit Go.Ct
def uh:List Nat:=[2,3,4,5,9,12,15,16,17,20,21,22,23,25,26,27,28,31,34,35,38,39,50,52,77,86,87,91,100,104,109,118,123,173,198,202]
theorem rv:(uh.all λ t=>one Tryz.prog t)=true:=by kernel_rfl
theorem Qr{t:Nat}(h:uh.elem t=true):one Tryz.prog t=true:=List.all_eq_true.1 rv t (List.mem_of_elem_eq_true h)
def xn:List (Nat×Nat):=[(30,4),(33,2),(41,3),(43,4),(47,2),(54,5),(59,14),(79,3),(81,8),(83,25),(93,6),(99,2),(111,4),(113,52),(128,4),(172,2)]
theorem tp:(xn.all λ p=>kL Tryz.prog p.1 p.2)=true:=by kernel_rfl
theorem Pn{t k:Nat}(h:(xn.any λ p=>Nat.beq p.1 t&&Nat.beq p.2 k)=true):kL Tryz.prog t k=true:=by
 obtain⟨p,hp,ht⟩:=List.any_eq_true.1 h
 simp only[Bool.and_eq_true] at ht
 have h2:=List.all_eq_true.1 tp p hp
 rwa [nbe ht.1,nbe ht.2] at h2
theorem uL:eH Tryz.prog 30=some (.agg ⟨[.pointer none,.int .u64 0,.slice none 0 0,.slice none 0 0]⟩):=by kernel_rfl
theorem rF{t:Nat}(h:Nat.beq t 30=true):structOf Tryz.prog t [.pointer none,.int .u64 0,.slice none 0 0,.slice none 0 0]:=by rw[nbe h];exact iC (by kernel_rfl) uL
theorem xK:eH Tryz.prog 33=some (.agg ⟨[.int .i64 0,.bool false]⟩):=by kernel_rfl
theorem D9{t:Nat}(h:Nat.beq t 33=true):eH Tryz.prog t=some (.agg ⟨[.int .i64 0,.bool false]⟩):=by rw[nbe h];exact xK
theorem Bf{t:Nat}(h:Nat.beq t 33=true):structOf Tryz.prog t [.int .i64 0,.bool false]:=by rw[nbe h];exact iC (by kernel_rfl) xK
theorem uS:eH Tryz.prog 41=some (.agg ⟨[.slice none 0 0,.slice none 0 0,.int .i64 0]⟩):=by kernel_rfl
theorem Cn{t:Nat}(h:Nat.beq t 41=true):eH Tryz.prog t=some (.agg ⟨[.slice none 0 0,.slice none 0 0,.int .i64 0]⟩):=by rw[nbe h];exact uS
theorem zF{t:Nat}(h:Nat.beq t 41=true):structOf Tryz.prog t [.slice none 0 0,.slice none 0 0,.int .i64 0]:=by rw[nbe h];exact iC (by kernel_rfl) uS
theorem wZ:eH Tryz.prog 43=some (.agg ⟨[.slice none 0 0,.slice none 0 0,.int .i64 0,.int .i64 0]⟩):=by kernel_rfl
theorem tP{t:Nat}(h:Nat.beq t 43=true):placeOf Tryz.prog t [(0,3),(3,1)] [.slice none 0 0,.slice none 0 0,.int .i64 0,.int .i64 0]:=by rw[nbe h];exact oY (by kernel_rfl) wZ
theorem xR:eH Tryz.prog 47=some (.agg ⟨[.string ⟨#[]⟩,.int .u64 0]⟩):=by kernel_rfl
theorem Dv{t:Nat}(h:Nat.beq t 47=true):eH Tryz.prog t=some (.agg ⟨[.string ⟨#[]⟩,.int .u64 0]⟩):=by rw[nbe h];exact xR
theorem Ar{t:Nat}(h:Nat.beq t 47=true):structOf Tryz.prog t [.string ⟨#[]⟩,.int .u64 0]:=by rw[nbe h];exact iC (by kernel_rfl) xR
theorem tV:eH Tryz.prog 54=some (.agg ⟨[.int .i64 0,.int .i64 0,.int .i64 0,.int .i64 0,.slice none 0 0]⟩):=by kernel_rfl
theorem qK{t:Nat}(h:Nat.beq t 54=true):structOf Tryz.prog t [.int .i64 0,.int .i64 0,.int .i64 0,.int .i64 0,.slice none 0 0]:=by rw[nbe h];exact iC (by kernel_rfl) tV
theorem xC:eH Tryz.prog 59=some (.agg ⟨[.int .i64 0,.int .i64 0,.int .i64 0,.int .u64 0,.slice none 0 0,.int .u64 0,.string ⟨#[]⟩,.int .u64 0,.slice none 0 0,.int .i64 0,.int .i64 0,.int .i64 0,.int .i64 0,.int .i64 0]⟩):=by kernel_rfl
theorem F0{t:Nat}(h:Nat.beq t 59=true):eH Tryz.prog t=some (.agg ⟨[.int .i64 0,.int .i64 0,.int .i64 0,.int .u64 0,.slice none 0 0,.int .u64 0,.string ⟨#[]⟩,.int .u64 0,.slice none 0 0,.int .i64 0,.int .i64 0,.int .i64 0,.int .i64 0,.int .i64 0]⟩):=by rw[nbe h];exact xC
theorem Az{t:Nat}(h:Nat.beq t 59=true):structOf Tryz.prog t [.int .i64 0,.int .i64 0,.int .i64 0,.int .u64 0,.slice none 0 0,.int .u64 0,.string ⟨#[]⟩,.int .u64 0,.slice none 0 0,.int .i64 0,.int .i64 0,.int .i64 0,.int .i64 0,.int .i64 0]:=by rw[nbe h];exact iC (by kernel_rfl) xC
theorem tF:eH Tryz.prog 81=some (.agg ⟨[.int .i64 0,.bool false,.int .u64 0,.string ⟨#[]⟩,.int .i64 0,.int .i64 0,.int .i64 0,.bool false]⟩):=by kernel_rfl
theorem Bg{t:Nat}(h:Nat.beq t 81=true):eH Tryz.prog t=some (.agg ⟨[.int .i64 0,.bool false,.int .u64 0,.string ⟨#[]⟩,.int .i64 0,.int .i64 0,.int .i64 0,.bool false]⟩):=by rw[nbe h];exact tF
theorem zQ{t:Nat}(h:Nat.beq t 81=true):placeOf Tryz.prog t [(0,1),(1,1),(2,1),(3,1),(4,1),(5,1),(6,2)] [.int .i64 0,.bool false,.int .u64 0,.string ⟨#[]⟩,.int .i64 0,.int .i64 0,.int .i64 0,.bool false]:=by rw[nbe h];exact oY (by kernel_rfl) tF
theorem nJ:eH Tryz.prog 83=some (.agg ⟨[.int .i64 0,.int .i64 0,.bool false,.int .i64 0,.int .i64 0,.int .i64 0,.int .i64 0,.int .u64 0,.int .u64 0,.string ⟨#[]⟩,.int .u64 0,.int .u64 0,.int .i64 0,.bool false,.bool false,.slice none 0 0,.slice none 0 0,.int .i64 0,.bool false,.int .u64 0,.string ⟨#[]⟩,.int .i64 0,.int .i64 0,.int .i64 0,.bool false]⟩):=by kernel_rfl
theorem tS{t:Nat}(h:Nat.beq t 83=true):eH Tryz.prog t=some (.agg ⟨[.int .i64 0,.int .i64 0,.bool false,.int .i64 0,.int .i64 0,.int .i64 0,.int .i64 0,.int .u64 0,.int .u64 0,.string ⟨#[]⟩,.int .u64 0,.int .u64 0,.int .i64 0,.bool false,.bool false,.slice none 0 0,.slice none 0 0,.int .i64 0,.bool false,.int .u64 0,.string ⟨#[]⟩,.int .i64 0,.int .i64 0,.int .i64 0,.bool false]⟩):=by rw[nbe h];exact nJ
theorem rZ{t:Nat}(h:Nat.beq t 83=true):placeOf Tryz.prog t [(0,1),(1,2),(3,1),(4,1),(5,1),(6,1),(7,1),(8,1),(9,1),(10,1),(11,1),(12,1),(13,1),(14,3),(17,8)] [.int .i64 0,.int .i64 0,.bool false,.int .i64 0,.int .i64 0,.int .i64 0,.int .i64 0,.int .u64 0,.int .u64 0,.string ⟨#[]⟩,.int .u64 0,.int .u64 0,.int .i64 0,.bool false,.bool false,.slice none 0 0,.slice none 0 0,.int .i64 0,.bool false,.int .u64 0,.string ⟨#[]⟩,.int .i64 0,.int .i64 0,.int .i64 0,.bool false]:=by rw[nbe h];exact oY (by kernel_rfl) nJ
theorem wU:eH Tryz.prog 93=some (.agg ⟨[.slice none 0 0,.slice none 0 0,.int .i64 0,.slice none 0 0,.slice none 0 0,.slice none 0 0]⟩):=by kernel_rfl
theorem tJ{t:Nat}(h:Nat.beq t 93=true):placeOf Tryz.prog t [(0,3),(3,1),(4,1),(5,1)] [.slice none 0 0,.slice none 0 0,.int .i64 0,.slice none 0 0,.slice none 0 0,.slice none 0 0]:=by rw[nbe h];exact oY (by kernel_rfl) wU
theorem xA:eH Tryz.prog 99=some (.agg ⟨[.slice none 0 0,.int .i64 0]⟩):=by kernel_rfl
theorem sN{t:Nat}(h:Nat.beq t 99=true):structOf Tryz.prog t [.slice none 0 0,.int .i64 0]:=by rw[nbe h];exact iC (by kernel_rfl) xA
theorem Co:eH Tryz.prog 111=some (.agg ⟨[.int .i64 0,.int .i64 0,.int .i64 0,.int .i64 0]⟩):=by kernel_rfl
theorem yM{t:Nat}(h:Nat.beq t 111=true):structOf Tryz.prog t [.int .i64 0,.int .i64 0,.int .i64 0,.int .i64 0]:=by rw[nbe h];exact iC (by kernel_rfl) Co
theorem uZ:eH Tryz.prog 113=some (.agg ⟨[.pointer none,.int .i64 0,.int .i64 0,.bool false,.int .i64 0,.int .i64 0,.int .i64 0,.int .i64 0,.int .u64 0,.int .u64 0,.string ⟨#[]⟩,.int .u64 0,.int .u64 0,.int .i64 0,.bool false,.bool false,.slice none 0 0,.slice none 0 0,.int .i64 0,.bool false,.int .u64 0,.string ⟨#[]⟩,.int .i64 0,.int .i64 0,.int .i64 0,.bool false,.slice none 0 0,.slice none 0 0,.slice none 0 0,.slice none 0 0,.int .i64 0,.int .i64 0,.int .i64 0,.int .i64 0,.int .i64 0,.bool false,.int .i64 0,.int .i64 0,.int .i64 0,.int .i64 0,.bool false,.int .i64 0,.bool false,.int .u64 0,.string ⟨#[]⟩,.int .i64 0,.int .i64 0,.int .i64 0,.bool false,.bool false,.slice none 0 0,.slice none 0 0]⟩):=by kernel_rfl
theorem sF{t:Nat}(h:Nat.beq t 113=true):placeOf Tryz.prog t [(0,1),(1,25),(26,1),(27,1),(28,1),(29,1),(30,1),(31,1),(32,1),(33,1),(34,1),(35,1),(36,4),(40,1),(41,8),(49,3)] [.pointer none,.int .i64 0,.int .i64 0,.bool false,.int .i64 0,.int .i64 0,.int .i64 0,.int .i64 0,.int .u64 0,.int .u64 0,.string ⟨#[]⟩,.int .u64 0,.int .u64 0,.int .i64 0,.bool false,.bool false,.slice none 0 0,.slice none 0 0,.int .i64 0,.bool false,.int .u64 0,.string ⟨#[]⟩,.int .i64 0,.int .i64 0,.int .i64 0,.bool false,.slice none 0 0,.slice none 0 0,.slice none 0 0,.slice none 0 0,.int .i64 0,.int .i64 0,.int .i64 0,.int .i64 0,.int .i64 0,.bool false,.int .i64 0,.int .i64 0,.int .i64 0,.int .i64 0,.bool false,.int .i64 0,.bool false,.int .u64 0,.string ⟨#[]⟩,.int .i64 0,.int .i64 0,.int .i64 0,.bool false,.bool false,.slice none 0 0,.slice none 0 0]:=by rw[nbe h];exact oY (by kernel_rfl) uZ
theorem A5:eH Tryz.prog 128=some (.agg ⟨[.slice none 0 0,.slice none 0 0,.int .i64 0,.int .i64 0]⟩):=by kernel_rfl
theorem wY{t:Nat}(h:Nat.beq t 128=true):structOf Tryz.prog t [.slice none 0 0,.slice none 0 0,.int .i64 0,.int .i64 0]:=by rw[nbe h];exact iC (by kernel_rfl) A5
def vr:List (Nat×Nat):=[(30,0),(30,1),(30,2),(30,3),(33,0),(33,1),(41,0),(41,1),(41,2),(43,0),(47,0),(47,1),(54,0),(54,1),(54,2),(54,3),(54,4),(59,0),(59,1),(59,2),(59,3),(59,4),(59,5),(59,6),(59,7),(59,8),(59,9),(59,10),(59,11),(59,12),(59,13),(79,0),(79,1),(79,2),(81,0),(81,1),(81,2),(81,3),(81,4),(81,5),(81,6),(83,0),(83,1),(93,0),(99,0),(99,1),(111,0),(111,1),(111,2),(111,3),(113,0),(113,1),(128,0),(128,1),(128,2),(128,3),(172,0),(172,1)]
theorem p9:(vr.all λ p=>dY Tryz.prog p.1 p.2==some p.2)=true:=by kernel_rfl
theorem s4{t k:Nat}(h:(vr.any λ p=>Nat.beq p.1 t&&Nat.beq p.2 k)=true):dY Tryz.prog t k=some k:=by
 obtain⟨p,hp,ht⟩:=List.any_eq_true.1 h
 simp only[Bool.and_eq_true] at ht
 have h2:=eq_of_beq (List.all_eq_true.1 p9 p hp)
 rwa [nbe ht.1,nbe ht.2] at h2
def mx:List (Nat×Nat):=[(30,0),(30,1),(30,2),(30,3),(33,0),(33,1),(41,0),(41,1),(41,2),(47,0),(47,1),(54,0),(54,1),(54,2),(54,3),(54,4),(59,0),(59,1),(59,2),(59,3),(59,4),(59,5),(59,6),(59,7),(59,8),(59,9),(59,10),(59,11),(59,12),(59,13),(79,0),(79,1),(79,2),(81,0),(81,1),(81,2),(81,3),(81,4),(81,5),(83,0),(99,0),(99,1),(111,0),(111,1),(111,2),(111,3),(113,0),(128,0),(128,1),(128,2),(128,3),(172,0),(172,1)]
theorem kh:(mx.all λ p=>yV Tryz.prog p.1 p.2==some p.2)=true:=by kernel_rfl
theorem Rg{t k:Nat}(h:(mx.any λ p=>Nat.beq p.1 t&&Nat.beq p.2 k)=true):yV Tryz.prog t k=some k:=by
 obtain⟨p,hp,ht⟩:=List.any_eq_true.1 h
 simp only[Bool.and_eq_true] at ht
 have h2:=eq_of_beq (List.all_eq_true.1 kh p hp)
 rwa [nbe ht.1,nbe ht.2] at h2
theorem uC{t k:Nat}(h:(Nat.beq t 43&&Nat.beq k 1)=true):dY Tryz.prog t k=some 3:=by simp only[Bool.and_eq_true] at h;rw[nbe h.1,nbe h.2];kernel_rfl
theorem tT{t k:Nat}(h:(Nat.beq t 83&&Nat.beq k 2)=true):dY Tryz.prog t k=some 3:=by simp only[Bool.and_eq_true] at h;rw[nbe h.1,nbe h.2];kernel_rfl
theorem tK{t k:Nat}(h:(Nat.beq t 83&&Nat.beq k 3)=true):dY Tryz.prog t k=some 4:=by simp only[Bool.and_eq_true] at h;rw[nbe h.1,nbe h.2];kernel_rfl
theorem tN{t k:Nat}(h:(Nat.beq t 83&&Nat.beq k 4)=true):dY Tryz.prog t k=some 5:=by simp only[Bool.and_eq_true] at h;rw[nbe h.1,nbe h.2];kernel_rfl
theorem tI{t k:Nat}(h:(Nat.beq t 83&&Nat.beq k 7)=true):dY Tryz.prog t k=some 8:=by simp only[Bool.and_eq_true] at h;rw[nbe h.1,nbe h.2];kernel_rfl
theorem tW{t k:Nat}(h:(Nat.beq t 83&&Nat.beq k 8)=true):dY Tryz.prog t k=some 9:=by simp only[Bool.and_eq_true] at h;rw[nbe h.1,nbe h.2];kernel_rfl
theorem tU{t k:Nat}(h:(Nat.beq t 83&&Nat.beq k 9)=true):dY Tryz.prog t k=some 10:=by simp only[Bool.and_eq_true] at h;rw[nbe h.1,nbe h.2];kernel_rfl
theorem sD{t k:Nat}(h:(Nat.beq t 83&&Nat.beq k 10)=true):dY Tryz.prog t k=some 11:=by simp only[Bool.and_eq_true] at h;rw[nbe h.1,nbe h.2];kernel_rfl
theorem rQ{t k:Nat}(h:(Nat.beq t 83&&Nat.beq k 11)=true):dY Tryz.prog t k=some 12:=by simp only[Bool.and_eq_true] at h;rw[nbe h.1,nbe h.2];kernel_rfl
theorem rO{t k:Nat}(h:(Nat.beq t 83&&Nat.beq k 12)=true):dY Tryz.prog t k=some 13:=by simp only[Bool.and_eq_true] at h;rw[nbe h.1,nbe h.2];kernel_rfl
theorem uA{t k:Nat}(h:(Nat.beq t 93&&Nat.beq k 1)=true):dY Tryz.prog t k=some 3:=by simp only[Bool.and_eq_true] at h;rw[nbe h.1,nbe h.2];kernel_rfl
theorem uY{t k:Nat}(h:(Nat.beq t 93&&Nat.beq k 2)=true):dY Tryz.prog t k=some 4:=by simp only[Bool.and_eq_true] at h;rw[nbe h.1,nbe h.2];kernel_rfl
theorem uJ{t k:Nat}(h:(Nat.beq t 93&&Nat.beq k 3)=true):dY Tryz.prog t k=some 5:=by simp only[Bool.and_eq_true] at h;rw[nbe h.1,nbe h.2];kernel_rfl
theorem tZ{t k:Nat}(h:(Nat.beq t 113&&Nat.beq k 2)=true):dY Tryz.prog t k=some 26:=by simp only[Bool.and_eq_true] at h;rw[nbe h.1,nbe h.2];kernel_rfl
theorem tM{t k:Nat}(h:(Nat.beq t 113&&Nat.beq k 3)=true):dY Tryz.prog t k=some 27:=by simp only[Bool.and_eq_true] at h;rw[nbe h.1,nbe h.2];kernel_rfl
theorem tX{t k:Nat}(h:(Nat.beq t 113&&Nat.beq k 4)=true):dY Tryz.prog t k=some 28:=by simp only[Bool.and_eq_true] at h;rw[nbe h.1,nbe h.2];kernel_rfl
theorem tQ{t k:Nat}(h:(Nat.beq t 113&&Nat.beq k 5)=true):dY Tryz.prog t k=some 29:=by simp only[Bool.and_eq_true] at h;rw[nbe h.1,nbe h.2];kernel_rfl
theorem tH{t k:Nat}(h:(Nat.beq t 113&&Nat.beq k 6)=true):dY Tryz.prog t k=some 30:=by simp only[Bool.and_eq_true] at h;rw[nbe h.1,nbe h.2];kernel_rfl
theorem tR{t k:Nat}(h:(Nat.beq t 113&&Nat.beq k 7)=true):dY Tryz.prog t k=some 31:=by simp only[Bool.and_eq_true] at h;rw[nbe h.1,nbe h.2];kernel_rfl
theorem tL{t k:Nat}(h:(Nat.beq t 113&&Nat.beq k 8)=true):dY Tryz.prog t k=some 32:=by simp only[Bool.and_eq_true] at h;rw[nbe h.1,nbe h.2];kernel_rfl
theorem tY{t k:Nat}(h:(Nat.beq t 113&&Nat.beq k 9)=true):dY Tryz.prog t k=some 33:=by simp only[Bool.and_eq_true] at h;rw[nbe h.1,nbe h.2];kernel_rfl
theorem sK{t k:Nat}(h:(Nat.beq t 113&&Nat.beq k 10)=true):dY Tryz.prog t k=some 34:=by simp only[Bool.and_eq_true] at h;rw[nbe h.1,nbe h.2];kernel_rfl
theorem rN{t k:Nat}(h:(Nat.beq t 113&&Nat.beq k 11)=true):dY Tryz.prog t k=some 35:=by simp only[Bool.and_eq_true] at h;rw[nbe h.1,nbe h.2];kernel_rfl
theorem sE{t k:Nat}(h:(Nat.beq t 113&&Nat.beq k 12)=true):dY Tryz.prog t k=some 36:=by simp only[Bool.and_eq_true] at h;rw[nbe h.1,nbe h.2];kernel_rfl
theorem sC{t k:Nat}(h:(Nat.beq t 113&&Nat.beq k 13)=true):dY Tryz.prog t k=some 40:=by simp only[Bool.and_eq_true] at h;rw[nbe h.1,nbe h.2];kernel_rfl
theorem sS{t k:Nat}(h:(Nat.beq t 113&&Nat.beq k 14)=true):dY Tryz.prog t k=some 41:=by simp only[Bool.and_eq_true] at h;rw[nbe h.1,nbe h.2];kernel_rfl
def X6:List (Nat×Nat):=[(22,3),(27,33),(28,86),(34,47),(38,59),(39,52),(77,172),(91,4),(100,54),(104,26),(109,31),(123,9)]
def n5(t:Nat):Nat:=(X6.lookup t).getD 0
theorem v8:(X6.all λ p=>(match Tryz.prog.underlying p.1 with|some (.slice e)=>Nat.beq e p.2&&Nat.beq (n5 p.1) p.2|_=>false))=true:=by kernel_rfl
theorem vq{t:Nat}(h:(X6.any λ p=>Nat.beq p.1 t)=true):Tryz.prog.underlying t=some (.slice (n5 t)):=by
 obtain⟨p,hp,ht⟩:=List.any_eq_true.1 h
 have h2:=List.all_eq_true.1 v8 p hp
 rw[<- nbe ht]
 cases hu:Tryz.prog.underlying p.1 with
 | none=>rw[hu] at h2;simp at h2
 | some d =>
  rw[hu] at h2
  cases d<;>simp only[Bool.false_eq_true] at h2
  simp only[Bool.and_eq_true] at h2
  rw[nbe h2.1,nbe h2.2]
def wq:List (Nat×Nat):=[(3,1),(4,1),(9,1),(26,1),(31,1),(33,2),(47,2),(52,1),(54,5),(59,14),(86,1),(172,2)]
theorem sq:(wq.all λ p=>(Tryz.prog.info? p.1).map (·.size)==some p.2)=true:=by kernel_rfl
theorem tB{e s:Nat}(h:(wq.any λ p=>Nat.beq p.1 e&&Nat.beq p.2 s)=true):(Tryz.prog.info? e).map (·.size)=some s:=by
 obtain⟨p,hp,ht⟩:=List.any_eq_true.1 h
 simp only[Bool.and_eq_true] at ht
 have h2:=List.all_eq_true.1 sq p hp
 rw[<- nbe ht.1,<- nbe ht.2]
 exact eq_of_beq h2
theorem du{t:Nat}(h:Nat.beq t 4=true):Tryz.prog.underlying t=some .bool:=by
 rw[nbe h];kernel_rfl
theorem og{t:Nat}(h:Nat.beq t 9=true):Tryz.prog.underlying t=some .string:=by
 rw[nbe h];kernel_rfl
theorem jt{t:Nat}(h:Nat.beq t 47=true):Ka Tryz.prog t=true:=by
 rw[nbe h];kernel_rfl
def uv:List (Nat×IntKind):=[(2,.i64),(3,.i64),(5,.u8),(12,.u64),(21,.i32),(26,.u64),(31,.i64),(35,.i64),(52,.i64),(173,.u64),(198,.u32)]
theorem rh:(uv.all λ p=>xI Tryz.prog p.1 p.2)=true:=by kernel_rfl
theorem uK{t:Nat}{k:IntKind}(h:(uv.any λ p=>Nat.beq p.1 t&&p.2==k)=true):xI Tryz.prog t k=true:=by
 obtain⟨p,hp,ht⟩:=List.any_eq_true.1 h
 simp only[Bool.and_eq_true] at ht
 have h2:=List.all_eq_true.1 rh p hp
 rw[nbe ht.1,eq_of_beq ht.2] at h2
 exact h2
def m4(P:Program)(t e s:Nat):Bool :=
 (match P.underlying t with|some (.slice e')=>Nat.beq e' e|_=>false)&&(match P.info? e with
  | some i=>Nat.beq i.size s&&Nat.ble i.bytes 256
  | none=>false)
theorem mE{P:Program}{t e:Nat}{z:Value}{zc:List Value}(h:m4 P t e zc.length=true)(hz:eH P e=some z)(hzc:z.cells=⟨zc⟩):eD P t e zc:=by
 unfold m4 at h
 simp only[Bool.and_eq_true] at h
 refine⟨?_,?_⟩
 ·cases hu:P.underlying t with
  | none=>simp[hu] at h
  | some d =>
   rw[hu] at h
   cases d<;>simp only[Bool.false_eq_true,false_and] at h
   rw[nbe h.1]
 ·cases hi:P.info? e with
  | none=>simp[hi] at h
  | some i =>
   rw[hi] at h
   simp only[Bool.and_eq_true] at h
   exact⟨i,z,rfl,by simpa[eH,hi] using hz,hzc,nbe h.2.1,Nat.le_of_ble_eq_true h.2.2⟩
theorem T9:eH Tryz.prog 3=some (.int .i64 0):=by kernel_rfl
theorem E6:eD Tryz.prog 22 3 [.int .i64 0]:=mE (by kernel_rfl) T9 rfl
theorem Ig{t:Nat}(h:Nat.beq t 22=true):eD Tryz.prog t 3 [.int .i64 0]:=by rw[nbe h];exact E6
theorem Qe:eH Tryz.prog 47=some (.agg ⟨[.string ⟨#[]⟩,.int .u64 0]⟩):=by kernel_rfl
theorem H0:eD Tryz.prog 34 47 [.string ⟨#[]⟩,.int .u64 0]:=mE (by kernel_rfl) Qe rfl
theorem jV{t:Nat}(h:Nat.beq t 34=true):eD Tryz.prog t 47 [.string ⟨#[]⟩,.int .u64 0]:=by rw[nbe h];exact H0
def me:List Value:=[.int .i64 0,.int .i64 0,.int .i64 0,.int .u64 0,.slice none 0 0,.int .u64 0,.string ⟨#[]⟩,.int .u64 0,.slice none 0 0,.int .i64 0,.int .i64 0,.int .i64 0,.int .i64 0,.int .i64 0]
theorem Qt:eH Tryz.prog 59=some (.agg ⟨[.int .i64 0,.int .i64 0,.int .i64 0,.int .u64 0,.slice none 0 0,.int .u64 0,.string ⟨#[]⟩,.int .u64 0,.slice none 0 0,.int .i64 0,.int .i64 0,.int .i64 0,.int .i64 0,.int .i64 0]⟩):=by kernel_rfl
theorem rC:eD Tryz.prog 38 59 me:=mE (by kernel_rfl) Qt rfl
theorem Ev{t:Nat}(h:Nat.beq t 38=true):eD Tryz.prog t 59 me:=by rw[nbe h];exact rC
theorem Uh:eH Tryz.prog 52=some (.int .i64 0):=by kernel_rfl
theorem lW:eD Tryz.prog 39 52 [.int .i64 0]:=mE (by kernel_rfl) Uh rfl
theorem H4{t:Nat}(h:Nat.beq t 39=true):eD Tryz.prog t 52 [.int .i64 0]:=by rw[nbe h];exact lW
theorem P8:eH Tryz.prog 4=some (.bool false):=by kernel_rfl
theorem Vv:eD Tryz.prog 91 4 [.bool false]:=mE (by kernel_rfl) P8 rfl
theorem Dz{t:Nat}(h:Nat.beq t 91=true):eD Tryz.prog t 4 [.bool false]:=by rw[nbe h];exact Vv
theorem Vz:eH Tryz.prog 9=some (.string ⟨#[]⟩):=by kernel_rfl
theorem bq:eD Tryz.prog 123 9 [.string ⟨#[]⟩]:=mE (by kernel_rfl) Vz rfl
theorem V4{t:Nat}(h:Nat.beq t 123=true):eD Tryz.prog t 9 [.string ⟨#[]⟩]:=by rw[nbe h];exact bq
end Go.Proofs.YtpobgmdalcpomaaGreat
