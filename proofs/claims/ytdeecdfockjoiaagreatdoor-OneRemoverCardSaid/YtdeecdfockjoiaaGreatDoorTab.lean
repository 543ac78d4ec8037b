/- Merged. -/
import Derived.Test.YtdeecdfockjoiaaGreatDoorGLst2
import Derived.Test.YtdeecdfockjoiaaGreatDoorProg
set_option linter.unusedSimpArgs false
set_option linter.unusedVariables false
namespace Go.Proofs.YtdeecdfockjoiaaGreatDoor
open Go.Proofs.Tryz
open Go.RowKit Go.Ct
def aCV:List Nat:=[2,3,4,5,9,12,15,16,17,20,21,22,23,24,26,32,35,38,39,40,47,55,63,64,65,66,69,76,79,80,86,88,92,93,95,96,99,100,101,102,103,115,116,124,126,129,132,134,135,147,150,151,157,175,176,199,205,208,219,223,244,248,249,265,292,324,336,346,349,358,372]
theorem aBj:(aCV.all λ t=>one prog t)=true:=by kernel_rfl
theorem O9{t:Nat}(h:aCV.elem t=true):one prog t=true:=List.all_eq_true.1 aBj t (List.mem_of_elem_eq_true h)
def aCd:List (Nat×Nat):=[(29,5),(34,3),(42,2),(44,8),(53,2),(61,11),(68,6),(78,3),(98,4),(105,5),(109,4),(114,4),(118,14),(120,17),(128,2),(131,10),(137,8),(144,2),(149,2),(153,3),(182,2),(186,3),(194,14),(201,3),(204,12),(207,9),(210,5),(222,3),(225,5),(246,3),(251,3),(294,15),(338,7),(353,20)]
variable{t:Nat}
theorem aBL:(aCd.all λ p=>jB prog p.1 p.2)=true:=by kernel_rfl
theorem Tx{k:Nat}(h:(aCd.any λ p=>Nat.beq p.1 t&&Nat.beq p.2 k)=true):jB prog t k=true:=by obtain⟨p,hp,ht⟩:=List.any_eq_true.1 h;simp only[Bool.and_eq_true] at ht;have h2:=List.all_eq_true.1 aBL p hp;rwa [fC ht.1,fC ht.2] at h2
theorem Eo:cH prog 29=some (.agg ⟨[.int .i64 0,.int .i64 0,.string ⟨#[]⟩,.int .u64 0,.int .u64 0]⟩):=by kernel_rfl
theorem Mx(h:Nat.beq t 29=true):cH prog t=some (.agg ⟨[.int .i64 0,.int .i64 0,.string ⟨#[]⟩,.int .u64 0,.int .u64 0]⟩):=by rw[fC h];exact Eo
theorem Hp(h:Nat.beq t 29=true):structOf prog t [.int .i64 0,.int .i64 0,.string ⟨#[]⟩,.int .u64 0,.int .u64 0]:=by rw[fC h];exact eS (by kernel_rfl) Eo
theorem uJ:cH prog 34=some (.agg ⟨[.int .u64 0,.slice none 0 0,.slice none 0 0]⟩):=by kernel_rfl
theorem Cx(h:Nat.beq t 34=true):cH prog t=some (.agg ⟨[.int .u64 0,.slice none 0 0,.slice none 0 0]⟩):=by rw[fC h];exact uJ
theorem zX(h:Nat.beq t 34=true):structOf prog t [.int .u64 0,.slice none 0 0,.slice none 0 0]:=by rw[fC h];exact eS (by kernel_rfl) uJ
theorem yN:cH prog 42=some (.agg ⟨[.int .i64 0,.bool false]⟩):=by kernel_rfl
theorem Ge(h:Nat.beq t 42=true):cH prog t=some (.agg ⟨[.int .i64 0,.bool false]⟩):=by rw[fC h];exact yN
theorem Cu(h:Nat.beq t 42=true):structOf prog t [.int .i64 0,.bool false]:=by rw[fC h];exact eS (by kernel_rfl) yN
theorem tX:cH prog 44=some (.agg ⟨[.int .i64 0,.bool false,.int .u64 0,.string ⟨#[]⟩,.int .i64 0,.int .i64 0,.int .i64 0,.bool false]⟩):=by kernel_rfl
theorem D1(h:Nat.beq t 44=true):cH prog t=some (.agg ⟨[.int .i64 0,.bool false,.int .u64 0,.string ⟨#[]⟩,.int .i64 0,.int .i64 0,.int .i64 0,.bool false]⟩):=by rw[fC h];exact tX
theorem Ae(h:Nat.beq t 44=true):placeOf prog t [(0,1),(1,1),(2,1),(3,1),(4,1),(5,1),(6,2)] [.int .i64 0,.bool false,.int .u64 0,.string ⟨#[]⟩,.int .i64 0,.int .i64 0,.int .i64 0,.bool false]:=by rw[fC h];exact gV (by kernel_rfl) tX
theorem xP:cH prog 53=some (.agg ⟨[.slice none 0 0,.int .i64 0]⟩):=by kernel_rfl
theorem sO(h:Nat.beq t 53=true):structOf prog t [.slice none 0 0,.int .i64 0]:=by rw[fC h];exact eS (by kernel_rfl) xP
theorem vZ:cH prog 61=some (.agg ⟨[.int .i64 0,.int .i64 0,.bool false,.int .i64 0,.bool false,.int .u64 0,.string ⟨#[]⟩,.int .i64 0,.int .i64 0,.int .i64 0,.bool false]⟩):=by kernel_rfl
theorem E7(h:Nat.beq t 61=true):cH prog t=some (.agg ⟨[.int .i64 0,.int .i64 0,.bool false,.int .i64 0,.bool false,.int .u64 0,.string ⟨#[]⟩,.int .i64 0,.int .i64 0,.int .i64 0,.bool false]⟩):=by rw[fC h];exact vZ
theorem Cq(h:Nat.beq t 61=true):placeOf prog t [(0,1),(1,1),(2,1),(3,8)] [.int .i64 0,.int .i64 0,.bool false,.int .i64 0,.bool false,.int .u64 0,.string ⟨#[]⟩,.int .i64 0,.int .i64 0,.int .i64 0,.bool false]:=by rw[fC h];exact gV (by kernel_rfl) vZ
theorem zV:cH prog 68=some (.agg ⟨[.pointer none,.pointer none,.slice none 0 0,.slice none 0 0,.slice none 0 0,.int .i64 0]⟩):=by kernel_rfl
theorem uM(h:Nat.beq t 68=true):structOf prog t [.pointer none,.pointer none,.slice none 0 0,.slice none 0 0,.slice none 0 0,.int .i64 0]:=by rw[fC h];exact eS (by kernel_rfl) zV
theorem Bj:cH prog 78=some (.agg ⟨[.slice none 0 0,.int .i64 0,.pointer none]⟩):=by kernel_rfl
theorem wD(h:Nat.beq t 78=true):structOf prog t [.slice none 0 0,.int .i64 0,.pointer none]:=by rw[fC h];exact eS (by kernel_rfl) Bj
theorem D0:cH prog 98=some (.agg ⟨[.slice none 0 0,.slice none 0 0,.int .i64 0,.int .i64 0]⟩):=by kernel_rfl
theorem yB(h:Nat.beq t 98=true):structOf prog t [.slice none 0 0,.slice none 0 0,.int .i64 0,.int .i64 0]:=by rw[fC h];exact eS (by kernel_rfl) D0
theorem Bv:cH prog 105=some (.agg ⟨[.nilIface,.int .u64 0,.map none,.map none,.map none]⟩):=by kernel_rfl
theorem vP(h:Nat.beq t 105=true):structOf prog t [.nilIface,.int .u64 0,.map none,.map none,.map none]:=by rw[fC h];exact eS (by kernel_rfl) Bv
theorem qU:cH prog 109=some (.agg ⟨[.int .i64 0,.int .i64 0,.bool false,.bool false]⟩):=by kernel_rfl
theorem zD(h:Nat.beq t 109=true):cH prog t=some (.agg ⟨[.int .i64 0,.int .i64 0,.bool false,.bool false]⟩):=by rw[fC h];exact qU
theorem xW(h:Nat.beq t 109=true):placeOf prog t [(0,1),(1,2),(3,1)] [.int .i64 0,.int .i64 0,.bool false,.bool false]:=by rw[fC h];exact gV (by kernel_rfl) qU
theorem uF:cH prog 114=some (.agg ⟨[.int .i64 0,.int .i64 0,.int .i64 0,.int .i64 0]⟩):=by kernel_rfl
theorem D7(h:Nat.beq t 114=true):cH prog t=some (.agg ⟨[.int .i64 0,.int .i64 0,.int .i64 0,.int .i64 0]⟩):=by rw[fC h];exact uF
theorem zK(h:Nat.beq t 114=true):structOf prog t [.int .i64 0,.int .i64 0,.int .i64 0,.int .i64 0]:=by rw[fC h];exact eS (by kernel_rfl) uF
theorem vF:cH prog 118=some (.agg ⟨[.int .i64 0,.int .i64 0,.int .i64 0,.int .i64 0,.nilFunc,.nilFunc,.int .i64 0,.bool false,.int .u64 0,.string ⟨#[]⟩,.int .i64 0,.int .i64 0,.int .i64 0,.bool false]⟩):=by kernel_rfl
theorem E6(h:Nat.beq t 118=true):cH prog t=some (.agg ⟨[.int .i64 0,.int .i64 0,.int .i64 0,.int .i64 0,.nilFunc,.nilFunc,.int .i64 0,.bool false,.int .u64 0,.string ⟨#[]⟩,.int .i64 0,.int .i64 0,.int .i64 0,.bool false]⟩):=by rw[fC h];exact vF
theorem Dt(h:Nat.beq t 118=true):placeOf prog t [(0,4),(4,1),(5,1),(6,8)] [.int .i64 0,.int .i64 0,.int .i64 0,.int .i64 0,.nilFunc,.nilFunc,.int .i64 0,.bool false,.int .u64 0,.string ⟨#[]⟩,.int .i64 0,.int .i64 0,.int .i64 0,.bool false]:=by rw[fC h];exact gV (by kernel_rfl) vF
theorem Hn:cH prog 120=some (.agg ⟨[.nilIface,.int .i64 0,.int .i64 0,.int .i64 0,.int .i64 0,.nilFunc,.nilFunc,.int .i64 0,.bool false,.int .u64 0,.string ⟨#[]⟩,.int .i64 0,.int .i64 0,.int .i64 0,.bool false,.int .i64 0,.bool false]⟩):=by kernel_rfl
theorem Cw(h:Nat.beq t 120=true):placeOf prog t [(0,1),(1,14),(15,1),(16,1)] [.nilIface,.int .i64 0,.int .i64 0,.int .i64 0,.int .i64 0,.nilFunc,.nilFunc,.int .i64 0,.bool false,.int .u64 0,.string ⟨#[]⟩,.int .i64 0,.int .i64 0,.int .i64 0,.bool false,.int .i64 0,.bool false]:=by rw[fC h];exact gV (by kernel_rfl) Hn
theorem Dc:cH prog 128=some (.agg ⟨[.slice none 0 0,.slice none 0 0]⟩):=by kernel_rfl
theorem xN(h:Nat.beq t 128=true):structOf prog t [.slice none 0 0,.slice none 0 0]:=by rw[fC h];exact eS (by kernel_rfl) Dc
theorem wB:cH prog 131=some (.agg ⟨[.int .i64 0,.int .i64 0,.int .i64 0,.bool false,.int .u64 0,.string ⟨#[]⟩,.int .i64 0,.int .i64 0,.int .i64 0,.bool false]⟩):=by kernel_rfl
theorem Fb(h:Nat.beq t 131=true):cH prog t=some (.agg ⟨[.int .i64 0,.int .i64 0,.int .i64 0,.bool false,.int .u64 0,.string ⟨#[]⟩,.int .i64 0,.int .i64 0,.int .i64 0,.bool false]⟩):=by rw[fC h];exact wB
theorem Cz(h:Nat.beq t 131=true):placeOf prog t [(0,1),(1,1),(2,8)] [.int .i64 0,.int .i64 0,.int .i64 0,.bool false,.int .u64 0,.string ⟨#[]⟩,.int .i64 0,.int .i64 0,.int .i64 0,.bool false]:=by rw[fC h];exact gV (by kernel_rfl) wB
theorem Cr:cH prog 137=some (.agg ⟨[.pointer none,.slice none 0 0,.int .u32 0,.slice none 0 0,.slice none 0 0,.slice none 0 0,.slice none 0 0,.map none]⟩):=by kernel_rfl
theorem xJ(h:Nat.beq t 137=true):structOf prog t [.pointer none,.slice none 0 0,.int .u32 0,.slice none 0 0,.slice none 0 0,.slice none 0 0,.slice none 0 0,.map none]:=by rw[fC h];exact eS (by kernel_rfl) Cr
theorem Ee:cH prog 144=some (.agg ⟨[.int .u32 0,.string ⟨#[]⟩]⟩):=by kernel_rfl
theorem xK(h:Nat.beq t 144=true):structOf prog t [.int .u32 0,.string ⟨#[]⟩]:=by rw[fC h];exact eS (by kernel_rfl) Ee
theorem qD:cH prog 149=some (.agg ⟨[.map none,.bool false]⟩):=by kernel_rfl
theorem xU(h:Nat.beq t 149=true):cH prog t=some (.agg ⟨[.map none,.bool false]⟩):=by rw[fC h];exact qD
theorem uO(h:Nat.beq t 149=true):structOf prog t [.map none,.bool false]:=by rw[fC h];exact eS (by kernel_rfl) qD
theorem Bq:cH prog 153=some (.agg ⟨[.int .u64 0,.map none,.map none]⟩):=by kernel_rfl
theorem wG(h:Nat.beq t 153=true):structOf prog t [.int .u64 0,.map none,.map none]:=by rw[fC h];exact eS (by kernel_rfl) Bq
theorem yP:cH prog 182=some (.agg ⟨[.string ⟨#[]⟩,.int .u64 0]⟩):=by kernel_rfl
theorem Ha(h:Nat.beq t 182=true):cH prog t=some (.agg ⟨[.string ⟨#[]⟩,.int .u64 0]⟩):=by rw[fC h];exact yP
theorem C1(h:Nat.beq t 182=true):structOf prog t [.string ⟨#[]⟩,.int .u64 0]:=by rw[fC h];exact eS (by kernel_rfl) yP
theorem xL:cH prog 186=some (.agg ⟨[.int .i64 0,.int .i64 0,.int .i64 0]⟩):=by kernel_rfl
theorem vT(h:Nat.beq t 186=true):cH prog t=some (.agg ⟨[.int .i64 0,.int .i64 0,.int .i64 0]⟩):=by rw[fC h];exact xL
theorem yI:cH prog 194=some (.agg ⟨[.int .i64 0,.int .i64 0,.int .i64 0,.int .u64 0,.slice none 0 0,.int .u64 0,.string ⟨#[]⟩,.int .u64 0,.slice none 0 0,.int .i64 0,.int .i64 0,.int .i64 0,.int .i64 0,.int .i64 0]⟩):=by kernel_rfl
theorem Io(h:Nat.beq t 194=true):cH prog t=some (.agg ⟨[.int .i64 0,.int .i64 0,.int .i64 0,.int .u64 0,.slice none 0 0,.int .u64 0,.string ⟨#[]⟩,.int .u64 0,.slice none 0 0,.int .i64 0,.int .i64 0,.int .i64 0,.int .i64 0,.int .i64 0]⟩):=by rw[fC h];exact yI
theorem C7(h:Nat.beq t 194=true):structOf prog t [.int .i64 0,.int .i64 0,.int .i64 0,.int .u64 0,.slice none 0 0,.int .u64 0,.string ⟨#[]⟩,.int .u64 0,.slice none 0 0,.int .i64 0,.int .i64 0,.int .i64 0,.int .i64 0,.int .i64 0]:=by rw[fC h];exact eS (by kernel_rfl) yI
theorem Oq:cH prog 201=some (.agg ⟨[.nilIface,.int .i64 0,.bool false]⟩):=by kernel_rfl
theorem G4(h:Nat.beq t 201=true):placeOf prog t [(0,1),(1,2)] [.nilIface,.int .i64 0,.bool false]:=by rw[fC h];exact gV (by kernel_rfl) Oq
theorem Di:cH prog 204=some (.agg ⟨[.nilIface,.int .i64 0,.bool false,.string ⟨#[]⟩,.int .u64 0,.int .u64 0,.int .i64 0,.int .u64 0,.int .i64 0,.int .i64 0,.int .i64 0,.int .i64 0]⟩):=by kernel_rfl
theorem yZ(h:Nat.beq t 204=true):placeOf prog t [(0,3),(3,1),(4,1),(5,1),(6,1),(7,1),(8,1),(9,1),(10,1),(11,1)] [.nilIface,.int .i64 0,.bool false,.string ⟨#[]⟩,.int .u64 0,.int .u64 0,.int .i64 0,.int .u64 0,.int .i64 0,.int .i64 0,.int .i64 0,.int .i64 0]:=by rw[fC h];exact gV (by kernel_rfl) Di
theorem Az:cH prog 207=some (.agg ⟨[.nilIface,.int .i64 0,.bool false,.string ⟨#[]⟩,.int .u64 0,.bool false,.int .u64 0,.int .i64 0,.slice none 0 0]⟩):=by kernel_rfl
theorem xX(h:Nat.beq t 207=true):placeOf prog t [(0,3),(3,1),(4,1),(5,1),(6,1),(7,1),(8,1)] [.nilIface,.int .i64 0,.bool false,.string ⟨#[]⟩,.int .u64 0,.bool false,.int .u64 0,.int .i64 0,.slice none 0 0]:=by rw[fC h];exact gV (by kernel_rfl) Az
theorem Dv:cH prog 210=some (.agg ⟨[.nilIface,.int .i64 0,.bool false,.string ⟨#[]⟩,.int .u64 0]⟩):=by kernel_rfl
theorem zS(h:Nat.beq t 210=true):placeOf prog t [(0,3),(3,1),(4,1)] [.nilIface,.int .i64 0,.bool false,.string ⟨#[]⟩,.int .u64 0]:=by rw[fC h];exact gV (by kernel_rfl) Dv
theorem Bn:cH prog 251=some (.agg ⟨[.int .u64 0,.string ⟨#[]⟩,.int .u64 0]⟩):=by kernel_rfl
theorem xM(h:Nat.beq t 251=true):placeOf prog t [(0,1),(1,2)] [.int .u64 0,.string ⟨#[]⟩,.int .u64 0]:=by rw[fC h];exact gV (by kernel_rfl) Bn
theorem qW:cH prog 353=some (.agg ⟨[.nilIface,.int .i64 0,.int .i64 0,.int .i64 0,.int .i64 0,.int .u64 0,.slice none 0 0,.int .u64 0,.string ⟨#[]⟩,.int .u64 0,.slice none 0 0,.int .i64 0,.int .i64 0,.int .i64 0,.int .i64 0,.int .i64 0,.int .u64 0,.string ⟨#[]⟩,.int .u64 0,.int .i64 0]⟩):=by kernel_rfl
theorem zC(h:Nat.beq t 353=true):cH prog t=some (.agg ⟨[.nilIface,.int .i64 0,.int .i64 0,.int .i64 0,.int .i64 0,.int .u64 0,.slice none 0 0,.int .u64 0,.string ⟨#[]⟩,.int .u64 0,.slice none 0 0,.int .i64 0,.int .i64 0,.int .i64 0,.int .i64 0,.int .i64 0,.int .u64 0,.string ⟨#[]⟩,.int .u64 0,.int .i64 0]⟩):=by rw[fC h];exact qW
theorem xY(h:Nat.beq t 353=true):placeOf prog t [(0,1),(1,1),(2,14),(16,1),(17,2),(19,1)] [.nilIface,.int .i64 0,.int .i64 0,.int .i64 0,.int .i64 0,.int .u64 0,.slice none 0 0,.int .u64 0,.string ⟨#[]⟩,.int .u64 0,.slice none 0 0,.int .i64 0,.int .i64 0,.int .i64 0,.int .i64 0,.int .i64 0,.int .u64 0,.string ⟨#[]⟩,.int .u64 0,.int .i64 0]:=by rw[fC h];exact gV (by kernel_rfl) qW
def aB0:List (Nat×Nat):=[(29,0),(29,1),(29,2),(29,3),(29,4),(34,0),(34,1),(34,2),(42,0),(42,1),(44,0),(44,1),(44,2),(44,3),(44,4),(44,5),(44,6),(53,0),(53,1),(61,0),(61,1),(61,2),(61,3),(68,0),(68,1),(68,2),(68,3),(68,4),(68,5),(78,0),(78,1),(78,2),(98,0),(98,1),(98,2),(98,3),(105,0),(105,1),(105,2),(105,3),(105,4),(109,0),(109,1),(114,0),(114,1),(114,2),(114,3),(118,0),(120,0),(120,1),(128,0),(128,1),(131,0),(131,1),(131,2),(137,0),(137,1),(137,2),(137,3),(137,4),(137,5),(137,6),(137,7),(144,0),(144,1),(149,0),(149,1),(153,0),(153,1),(153,2),(182,0),(182,1),(186,0),(186,1),(186,2),(194,0),(194,1),(194,2),(194,3),(194,4),(194,5),(194,6),(194,7),(194,8),(194,9),(194,10),(194,11),(194,12),(194,13),(201,0),(201,1),(204,0),(207,0),(210,0),(222,0),(222,1),(222,2),(225,0),(246,0),(246,1),(246,2),(251,0),(251,1),(294,0),(338,0),(353,0),(353,1),(353,2)]
theorem aA2:(aB0.all λ p=>eK prog p.1 p.2==some p.2)=true:=by kernel_rfl
theorem aBO{t k:Nat}(h:(aB0.any λ p=>Nat.beq p.1 t&&Nat.beq p.2 k)=true):eK prog t k=some k:=by obtain⟨p,hp,ht⟩:=List.any_eq_true.1 h;simp only[Bool.and_eq_true] at ht;have h2:=eq_of_beq (List.all_eq_true.1 aA2 p hp);rwa [fC ht.1,fC ht.2] at h2
def yn:List (Nat×Nat):=[(29,0),(29,1),(29,2),(29,3),(29,4),(34,0),(34,1),(34,2),(42,0),(42,1),(44,0),(44,1),(44,2),(44,3),(44,4),(44,5),(53,0),(53,1),(61,0),(61,1),(61,2),(68,0),(68,1),(68,2),(68,3),(68,4),(68,5),(78,0),(78,1),(78,2),(98,0),(98,1),(98,2),(98,3),(105,0),(105,1),(105,2),(105,3),(105,4),(109,0),(114,0),(114,1),(114,2),(114,3),(120,0),(128,0),(128,1),(131,0),(131,1),(137,0),(137,1),(137,2),(137,3),(137,4),(137,5),(137,6),(137,7),(144,0),(144,1),(149,0),(149,1),(153,0),(153,1),(153,2),(182,0),(182,1),(186,0),(186,1),(186,2),(194,0),(194,1),(194,2),(194,3),(194,4),(194,5),(194,6),(194,7),(194,8),(194,9),(194,10),(194,11),(194,12),(194,13),(201,0),(222,0),(222,1),(222,2),(246,0),(246,1),(246,2),(251,0),(353,0),(353,1)]
variable{k:Nat}
theorem u5:(yn.all λ p=>A1 prog p.1 p.2==some p.2)=true:=by kernel_rfl
theorem Wl{t:Nat}(h:(yn.any λ p=>Nat.beq p.1 t&&Nat.beq p.2 k)=true):A1 prog t k=some k:=by obtain⟨p,hp,ht⟩:=List.any_eq_true.1 h;simp only[Bool.and_eq_true] at ht;have h2:=eq_of_beq (List.all_eq_true.1 u5 p hp);rwa [fC ht.1,fC ht.2] at h2
theorem zM{t:Nat}(h:(Nat.beq t 109&&Nat.beq k 2)=true):eK prog t k=some 3:=by simp only[Bool.and_eq_true] at h;rw[fC h.1,fC h.2];kernel_rfl
theorem E9{t:Nat}(h:(Nat.beq t 118&&Nat.beq k 1)=true):eK prog t k=some 4:=by simp only[Bool.and_eq_true] at h;rw[fC h.1,fC h.2];kernel_rfl
theorem Fe{t:Nat}(h:(Nat.beq t 118&&Nat.beq k 2)=true):eK prog t k=some 5:=by simp only[Bool.and_eq_true] at h;rw[fC h.1,fC h.2];kernel_rfl
theorem E3{t:Nat}(h:(Nat.beq t 118&&Nat.beq k 3)=true):eK prog t k=some 6:=by simp only[Bool.and_eq_true] at h;rw[fC h.1,fC h.2];kernel_rfl
theorem E8{t:Nat}(h:(Nat.beq t 120&&Nat.beq k 2)=true):eK prog t k=some 15:=by simp only[Bool.and_eq_true] at h;rw[fC h.1,fC h.2];kernel_rfl
theorem Fa{t:Nat}(h:(Nat.beq t 120&&Nat.beq k 3)=true):eK prog t k=some 16:=by simp only[Bool.and_eq_true] at h;rw[fC h.1,fC h.2];kernel_rfl
theorem Bu{t:Nat}(h:(Nat.beq t 204&&Nat.beq k 1)=true):eK prog t k=some 3:=by simp only[Bool.and_eq_true] at h;rw[fC h.1,fC h.2];kernel_rfl
theorem Af{t:Nat}(h:(Nat.beq t 204&&Nat.beq k 2)=true):eK prog t k=some 4:=by simp only[Bool.and_eq_true] at h;rw[fC h.1,fC h.2];kernel_rfl
theorem Bo{t:Nat}(h:(Nat.beq t 204&&Nat.beq k 3)=true):eK prog t k=some 5:=by simp only[Bool.and_eq_true] at h;rw[fC h.1,fC h.2];kernel_rfl
theorem Ba{t:Nat}(h:(Nat.beq t 204&&Nat.beq k 4)=true):eK prog t k=some 6:=by simp only[Bool.and_eq_true] at h;rw[fC h.1,fC h.2];kernel_rfl
theorem Aj{t:Nat}(h:(Nat.beq t 204&&Nat.beq k 5)=true):eK prog t k=some 7:=by simp only[Bool.and_eq_true] at h;rw[fC h.1,fC h.2];kernel_rfl
theorem Bm{t:Nat}(h:(Nat.beq t 204&&Nat.beq k 6)=true):eK prog t k=some 8:=by simp only[Bool.and_eq_true] at h;rw[fC h.1,fC h.2];kernel_rfl
theorem B8{t:Nat}(h:(Nat.beq t 204&&Nat.beq k 7)=true):eK prog t k=some 9:=by simp only[Bool.and_eq_true] at h;rw[fC h.1,fC h.2];kernel_rfl
theorem By{t:Nat}(h:(Nat.beq t 204&&Nat.beq k 8)=true):eK prog t k=some 10:=by simp only[Bool.and_eq_true] at h;rw[fC h.1,fC h.2];kernel_rfl
theorem Ah{t:Nat}(h:(Nat.beq t 204&&Nat.beq k 9)=true):eK prog t k=some 11:=by simp only[Bool.and_eq_true] at h;rw[fC h.1,fC h.2];kernel_rfl
theorem zG{t:Nat}(h:(Nat.beq t 207&&Nat.beq k 1)=true):eK prog t k=some 3:=by simp only[Bool.and_eq_true] at h;rw[fC h.1,fC h.2];kernel_rfl
theorem zN{t:Nat}(h:(Nat.beq t 207&&Nat.beq k 2)=true):eK prog t k=some 4:=by simp only[Bool.and_eq_true] at h;rw[fC h.1,fC h.2];kernel_rfl
theorem yY{t:Nat}(h:(Nat.beq t 207&&Nat.beq k 3)=true):eK prog t k=some 5:=by simp only[Bool.and_eq_true] at h;rw[fC h.1,fC h.2];kernel_rfl
theorem zL{t:Nat}(h:(Nat.beq t 207&&Nat.beq k 5)=true):eK prog t k=some 7:=by simp only[Bool.and_eq_true] at h;rw[fC h.1,fC h.2];kernel_rfl
theorem yV{t:Nat}(h:(Nat.beq t 207&&Nat.beq k 6)=true):eK prog t k=some 8:=by simp only[Bool.and_eq_true] at h;rw[fC h.1,fC h.2];kernel_rfl
theorem Bp{t:Nat}(h:(Nat.beq t 210&&Nat.beq k 1)=true):eK prog t k=some 3:=by simp only[Bool.and_eq_true] at h;rw[fC h.1,fC h.2];kernel_rfl
theorem Ap{t:Nat}(h:(Nat.beq t 210&&Nat.beq k 2)=true):eK prog t k=some 4:=by simp only[Bool.and_eq_true] at h;rw[fC h.1,fC h.2];kernel_rfl
theorem zH{t:Nat}(h:(Nat.beq t 353&&Nat.beq k 3)=true):eK prog t k=some 16:=by simp only[Bool.and_eq_true] at h;rw[fC h.1,fC h.2];kernel_rfl
theorem yW{t:Nat}(h:(Nat.beq t 353&&Nat.beq k 4)=true):eK prog t k=some 17:=by simp only[Bool.and_eq_true] at h;rw[fC h.1,fC h.2];kernel_rfl
theorem zY{t:Nat}(h:(Nat.beq t 353&&Nat.beq k 5)=true):eK prog t k=some 19:=by simp only[Bool.and_eq_true] at h;rw[fC h.1,fC h.2];kernel_rfl
def aBV:List Nat:=[15,16,17,24,35,63,64,76,80,86,88,93,132,157,199,205,208,219,244,248,292,324,336,346,358,372]
theorem aAc:(aBV.all λ t=>Sk prog t)=true:=by kernel_rfl
theorem Tz{t:Nat}(h:aBV.elem t=true):Sk prog t=true:=List.all_eq_true.1 aAc t (List.mem_of_elem_eq_true h)
def Sj:List (Nat×Nat):=[(22,3),(26,29),(32,26),(47,61),(55,9),(65,78),(66,79),(69,49),(95,194),(96,39),(126,129),(129,131),(135,92),(175,5),(176,182),(223,294),(249,251),(349,96)]
def rR(t:Nat):Nat:=(Sj.lookup t).getD 0
theorem aCT:(Sj.all λ p=>(match prog.underlying p.1 with|some (.slice e)=>Nat.beq e p.2&&Nat.beq (rR p.1) p.2|_=>false))=true:=by kernel_rfl
theorem aCk{t:Nat}(h:(Sj.any λ p=>Nat.beq p.1 t)=true):prog.underlying t=some (.slice (rR t)):=by
 obtain⟨p,hp,ht⟩:=List.any_eq_true.1 h;have h2:=List.all_eq_true.1 aCT p hp;rw[<- fC ht];cases hu:prog.underlying p.1 with
 | none=>rw[hu] at h2;simp at h2
 | some d=>rw[hu] at h2;cases d<;>simp only[Bool.false_eq_true] at h2;simp only[Bool.and_eq_true] at h2;rw[fC h2.1,fC h2.2]
def szT(t:Nat):Nat:=bif Nat.beq (rR t) 294 then 15 else bif Nat.beq (rR t) 194 then 14 else bif Nat.beq (rR t) 61 then 11 else bif Nat.beq (rR t) 131 then 10 else bif Nat.beq (rR t) 29 then 5 else bif Nat.beq (rR t) 251 then 3 else bif Nat.beq (rR t) 78 then 3 else bif Nat.beq (rR t) 182 then 2 else bif Nat.beq (rR t) 49 then 2 else 1
theorem aBY:(Sj.all λ p=>(prog.info? (rR p.1)).map (·.size)==some (szT p.1))=true:=by kernel_rfl
theorem C3{t:Nat}(h:(Sj.any λ p=>Nat.beq p.1 t)=true):(prog.info? (rR t)).map (·.size)=some (szT t):=by obtain⟨p,hp,ht⟩:=List.any_eq_true.1 h;have h2:=List.all_eq_true.1 aBY p hp;rw[<- fC ht];exact eq_of_beq h2
def aCI:List (Nat×Nat):=[(3,1),(5,1),(9,1),(26,1),(29,5),(39,1),(49,2),(61,11),(78,3),(79,1),(92,1),(96,1),(129,1),(131,10),(182,2),(194,14),(251,3),(294,15)]
theorem aAY:(aCI.all λ p=>(prog.info? p.1).map (·.size)==some p.2)=true:=by kernel_rfl
theorem kY{e s:Nat}(h:(aCI.any λ p=>Nat.beq p.1 e&&Nat.beq p.2 s)=true):(prog.info? e).map (·.size)=some s:=by obtain⟨p,hp,ht⟩:=List.any_eq_true.1 h;simp only[Bool.and_eq_true] at ht;have h2:=List.all_eq_true.1 aAY p hp;rw[<- fC ht.1,<- fC ht.2];exact eq_of_beq h2
theorem Xz{t:Nat}(h:Nat.beq t 4=true):prog.underlying t=some .bool:=by rw[fC h];kernel_rfl
theorem cx{t:Nat}(h:Nat.beq t 9=true):prog.underlying t=some .string:=by rw[fC h];kernel_rfl
theorem vu{t:Nat}(h:Nat.beq t 182=true):Oe prog t=true:=by rw[fC h];kernel_rfl
def aCZ:List (Nat×IntKind):=[(2,.i64),(3,.i64),(5,.u8),(12,.u64),(21,.i32),(23,.u64),(38,.i64),(39,.i64),(40,.i64),(79,.i8),(92,.u32),(265,.u64)]
theorem z8:(aCZ.all λ p=>yL prog p.1 p.2)=true:=by kernel_rfl
theorem rD{t:Nat}{k:IntKind}(h:(aCZ.any λ p=>Nat.beq p.1 t&&p.2==k)=true):yL prog t k=true:=by obtain⟨p,hp,ht⟩:=List.any_eq_true.1 h;simp only[Bool.and_eq_true] at ht;have h2:=List.all_eq_true.1 z8 p hp;rw[fC ht.1,eq_of_beq ht.2] at h2;exact h2
def yr(P:Program)(t e s:Nat):Bool :=
 (match P.underlying t with|some (.slice e')=>Nat.beq e' e|_=>false)&&(match P.info? e with
  | some i=>Nat.beq i.size s&&Nat.ble i.bytes 256
  | none=>false)
theorem gR{P:Program}{t e:Nat}{z:Value}{zc:List Value}(h:yr P t e zc.length=true)(hz:cH P e=some z)(hzc:z.cells=⟨zc⟩):dU P t e zc:=by
 unfold yr at h;simp only[Bool.and_eq_true] at h;refine⟨?_,?_⟩
 ·cases hu:P.underlying t with
  | none=>simp[hu] at h
  | some d=>rw[hu] at h;cases d<;>simp only[Bool.false_eq_true,false_and] at h;rw[fC h.1]
 ·cases hi:P.info? e with
  | none=>simp[hi] at h
  | some i=>rw[hi] at h;simp only[Bool.and_eq_true] at h;exact⟨i,z,rfl,by simpa[cH,hi] using hz,hzc,fC h.2.1,Nat.le_of_ble_eq_true h.2.2⟩
theorem Zh:cH prog 3=some (.int .i64 0):=by kernel_rfl
theorem ju:dU prog 22 3 [.int .i64 0]:=gR (by kernel_rfl) Zh rfl
theorem Lq{t:Nat}(h:Nat.beq t 22=true):dU prog t 3 [.int .i64 0]:=by rw[fC h];exact ju
theorem ah:cH prog 9=some (.string ⟨#[]⟩):=by kernel_rfl
theorem ib:dU prog 55 9 [.string ⟨#[]⟩]:=gR (by kernel_rfl) ah rfl
theorem Z5{t:Nat}(h:Nat.beq t 55=true):dU prog t 9 [.string ⟨#[]⟩]:=by rw[fC h];exact ib
def yf:List Value:=[.int .i64 0,.int .i64 0,.int .i64 0,.int .u64 0,.slice none 0 0,.int .u64 0,.string ⟨#[]⟩,.int .u64 0,.slice none 0 0,.int .i64 0,.int .i64 0,.int .i64 0,.int .i64 0,.int .i64 0]
theorem Uo:cH prog 194=some (.agg ⟨[.int .i64 0,.int .i64 0,.int .i64 0,.int .u64 0,.slice none 0 0,.int .u64 0,.string ⟨#[]⟩,.int .u64 0,.slice none 0 0,.int .i64 0,.int .i64 0,.int .i64 0,.int .i64 0,.int .i64 0]⟩):=by kernel_rfl
theorem Zm:dU prog 95 194 yf:=gR (by kernel_rfl) Uo rfl
theorem Hi{t:Nat}(h:Nat.beq t 95=true):dU prog t 194 yf:=by rw[fC h];exact Zm
theorem Zc:cH prog 39=some (.int .i64 0):=by kernel_rfl
theorem Pt:dU prog 96 39 [.int .i64 0]:=gR (by kernel_rfl) Zc rfl
theorem Lr{t:Nat}(h:Nat.beq t 96=true):dU prog t 39 [.int .i64 0]:=by rw[fC h];exact Pt
theorem Uk:cH prog 182=some (.agg ⟨[.string ⟨#[]⟩,.int .u64 0]⟩):=by kernel_rfl
theorem Za:dU prog 176 182 [.string ⟨#[]⟩,.int .u64 0]:=gR (by kernel_rfl) Uk rfl
theorem zR{t:Nat}(h:Nat.beq t 176=true):dU prog t 182 [.string ⟨#[]⟩,.int .u64 0]:=by rw[fC h];exact Za
end Go.Proofs.YtdeecdfockjoiaaGreatDoor
