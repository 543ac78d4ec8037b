/- Merged. -/
import Derived.Test.YtbajmaoegmbfgaaGreatGJoin
import Derived.Test.YtbajmaoegmbfgaaGreatGMem
import Derived.Test.YtbajmaoegmbfgaaGreatAuto
set_option linter.unusedSimpArgs false
set_option linter.unusedVariables false
namespace Go.Ct
section
def aY(cs:List Int)(c:Int):Int:=if 1<=c/\c<=cs.length then cs.getD (c-1).toNat 0 else 0
def fI(cs:List Int)(c bA:Int):Prop:=1<=c/\c<=cs.length/\cs.getD (c-1).toNat 0=bA
def eC(cs:List Int)(c bA new:Int):List Int:=if 1<=c/\c<=cs.length/\cs.getD (c-1).toNat 0=bA then cs.set (c-1).toNat new else cs
def up(i:Int):Int:=Go.IntKind.i64.wrap (i+1)
theorem sL{cs:List Int}{c:Int}(h:¬(1<=c/\c<=cs.length)):aY cs c=0:=if_neg h
theorem E4{cs:List Int}{k:Nat}(h:k<cs.length):aY cs ((k+1:Nat):Int)=cs.getD k 0:=by
 unfold aY
 rw[if_pos (by omega),show(((k+1:Nat):Int)-1).toNat=k by omega]
theorem rB{cs:List Int}{c bA new:Int}(h:¬(1<=c/\c<=cs.length/\cs.getD (c-1).toNat 0=bA)):eC cs c bA new=cs:=if_neg h
theorem Us{cs:List Int}{k:Nat}{bA new:Int}(h:k<cs.length)(ho:cs.getD k 0=bA):eC cs ((k+1:Nat):Int) bA new=cs.set k new:=by
 have e:(((k+1:Nat):Int)-1).toNat=k:=by omega
 unfold eC
 rw[e,if_pos ⟨by omega,by omega,ho⟩]
theorem dg{cs:List Int}{c bA:Int}(h:c<1):(false=true↔fI cs c bA):=⟨(λ h=>nomatch h),λ h2=>absurd h2.1 (by omega)⟩
theorem U0{cs:List Int}{c bA new:Int}(h:c<1):eC cs c bA new=cs:=rB (by omega)
theorem fy{cs:List Int}{c bA:Int}(h:(cs.length:Int)<c):(false=true↔fI cs c bA):=⟨(λ h=>nomatch h),λ h2=>absurd h2.2.1 (by omega)⟩
theorem Tv{cs:List Int}{c bA new:Int}(h:(cs.length:Int)<c):eC cs c bA new=cs:=rB (by omega)
theorem a9{cs:List Int}{k:Nat}{bA:Int}(h:cs.getD k 0≠bA):(false=true↔fI cs ((k+1:Nat):Int) bA):=⟨(λ h=>nomatch h),λ h2=>absurd (by have:=h2.2.2;rwa [show(((k+1:Nat):Int)-1).toNat=k by omega] at this) h⟩
theorem V2{cs:List Int}{k:Nat}{bA new:Int}(h:cs.getD k 0≠bA):eC cs ((k+1:Nat):Int) bA new=cs:=rB λ h2=>absurd (by have:=h2.2.2;rwa [show(((k+1:Nat):Int)-1).toNat=k by omega] at this) h
theorem cp{cs:List Int}{k:Nat}{bA:Int}(hk:k<cs.length)(h:cs.getD k 0=bA):(true=true↔fI cs ((k+1:Nat):Int) bA):=⟨λ _=>⟨by omega,by omega,by rw[show(((k+1:Nat):Int)-1).toNat=k by omega];exact h⟩,λ _=>rfl⟩
theorem eZ{cs:List Int}{c bA new:Int}:(eC cs c bA new).length=cs.length:=by unfold eC;split<;>simp
end
end Go.Ct
namespace Go.Proofs.YtbajmaoegmbfgaaGreat
open Go.Proofs.Tryz (prog)
open Go.RowKit Go.Ct
section
variable{w:World}{D:List Nat}{b:Nat}{L:List aU}{cs:List Int}{gen acc:Int}{pn pc:Option Addr}{cn cc:Nat}{A:Fr}
theorem Jq(hs:SF w D [(b,mO L cs gen acc pn cn pc cc)] A [] (mW L cs pn cn pc cc) w):Calls prog 100 #[.pointer (some ⟨b,0,none⟩)] w λ e w'=>∃q:Unit,e=.returned (.int .i64 (up gen))/\True/\SF w D [(b,mO L cs (up gen) acc pn cn pc cc)] [] [] (mW L cs pn cn pc cc) w':=by
 refine enter Tryz.func100 Tryz.ntmps100 rfl rfl (yM hs) ?_
 simp only[cE]
 refine cZ ?_;refine Ip ?_;refine J3 ?_;refine aB (oJ rf rf) rfl ?_;refine Mi ?_;refine wV ?_;refine Ip ?_;refine J3 ?_;refine J1 ?_
 refine aN Tryz.results100 (λ w hw=>?_)
 exact⟨(),rfl,trivial,by simpa[mO,mW] using hw.aX (F':=[])⟩
theorem cf(hs:SF w D [(b,mO L cs gen acc pn cn pc cc)] A [] (mW L cs pn cn pc cc) w)(c:Int)(hc:c<1):Calls prog 241 #[.pointer (some ⟨b,0,none⟩),.int .i64 c] w λ e w'=>∃q:Unit,e=.returned (.int .i64 (aY cs c))/\True/\SF w D [(b,mO L cs gen (up acc) pn cn pc cc)] [] [] (mW L cs pn cn pc cc) w':=by
 refine enter Tryz.func241 Tryz.ntmps241 rfl rfl (yM hs) ?_
 simp only[cE]
 refine cZ ?_;refine lQ ?_;refine aB (oJ rf rf) rfl ?_;refine K5 ?_;refine Kb3 ?_
 (refine eG 14 (λ g14=>?_) (λ g14=>?_)<;>(try (exfalso;omega))<;>(refine aI ?_))
 refine z8 ?_;refine Rw ?_;refine Ka8 ?_
 refine bE (λ c23=>?_) (λ c23=>?_)
 ·try (exfalso;omega)
  refine cZ ?_
  refine aN Tryz.results241 (λ w hw=>?_)
  (exact⟨(),by rw[sL (by omega)];rfl,trivial,hw.aX⟩)
 ·exact nv c23
theorem ub(hs:SF w D [(b,mO L cs gen acc pn cn pc cc)] A [] (mW L cs pn cn pc cc) w)(c:Int)(bA new:Int)(hc:c<1):Calls prog 242 #[.pointer (some ⟨b,0,none⟩),.int .i64 c,.int .i64 bA,.int .i64 new] w λ e w'=>∃r:Bool,e=.returned (.bool r)/\(r=true↔fI cs c bA)/\SF w D [(b,mO L (eC cs c bA new) gen (up acc) pn cn pc cc)] [] [] (mW L (eC cs c bA new) pn cn pc cc) w':=by
 refine enter Tryz.func242 Tryz.ntmps242 rfl rfl (yM hs) ?_
 simp only[cE]
 refine cZ ?_;refine lQ ?_;refine aB (oJ rf rf) rfl ?_;refine K5 ?_;refine Kb3 ?_
 (refine eG 18 (λ g18=>?_) (λ g18=>?_)<;>(try (exfalso;omega))<;>(refine aI ?_))
 refine z8 ?_;refine Rw ?_;refine Cf ?_;refine aA ?_
 refine aI ?_
 refine J36 ?_;refine J6 ?_;refine J68 ?_;(refine aI ?_);refine aw ?_;refine Tl ?_;refine aG ?_
 refine bE (λ c40=>?_) (λ c40=>?_)
 ·try (exfalso;omega)
  refine cZ ?_
  refine aN Tryz.results242 (λ w hw=>?_)
  (exact⟨false,rfl,dg hc,by rw[U0 hc];exact hw.aX⟩)
 ·exact nv c40
theorem Z7(hs:SF w D [(b,mO L cs gen acc pn cn pc cc)] A [] (mW L cs pn cn pc cc) w){k:Nat}(hk:(k:Int)<9223372036854775807)(hl:cs.length<=274877906944):Calls prog 241 #[.pointer (some ⟨b,0,none⟩),.int .i64 ((k+1:Nat):Int)] w λ e w'=>∃q:Unit,e=.returned (.int .i64 (aY cs ((k+1:Nat):Int)))/\True/\SF w D [(b,mO L cs gen (up acc) pn cn pc cc)] [] [] (mW L cs pn cn pc cc) w':=by
 refine enter Tryz.func241 Tryz.ntmps241 rfl rfl (yM hs) ?_
 simp only[cE]
 refine cZ ?_;refine lQ ?_;refine aB (oJ rf rf) rfl ?_;refine K5 ?_;refine Kb3 ?_
 (refine Ka3 ?_)
 refine z8 ?_;refine Rw ?_;refine Ka8 ?_
 refine bE (λ c23=>?_) (λ c23=>?_)
 ·try (exfalso;omega)
  refine cZ ?_
  refine aN Tryz.results241 (λ w hw=>?_)
  (exact⟨(),by rw[sL (by omega)];rfl,trivial,hw.aX⟩)
 ·try (exfalso;omega)
  refine aS ?_;refine Ip ?_;refine Kc2 ?_;refine sB ?_;refine Qw ?_;refine J1 ?_
  refine aN Tryz.results241 (λ w hw=>?_)
  (exact⟨(),by rw[E4 (by omega)];rfl,trivial,hw.aX⟩)
theorem ui(hs:SF w D [(b,mO L cs gen acc pn cn pc cc)] A [] (mW L cs pn cn pc cc) w){k:Nat}(hk:(k:Int)<9223372036854775807)(bA new:Int)(hl:cs.length<=274877906944):Calls prog 242 #[.pointer (some ⟨b,0,none⟩),.int .i64 ((k+1:Nat):Int),.int .i64 bA,.int .i64 new] w λ e w'=>∃r:Bool,e=.returned (.bool r)/\(r=true↔fI cs ((k+1:Nat):Int) bA)/\SF w D [(b,mO L (eC cs ((k+1:Nat):Int) bA new) gen (up acc) pn cn pc cc)] [] [] (mW L (eC cs ((k+1:Nat):Int) bA new) pn cn pc cc) w':=by
 refine enter Tryz.func242 Tryz.ntmps242 rfl rfl (yM hs) ?_
 simp only[cE]
 refine cZ ?_;refine lQ ?_;refine aB (oJ rf rf) rfl ?_;refine K5 ?_;refine Kb3 ?_
 (refine Ka3 ?_)
 refine z8 ?_;refine Rw ?_;refine Cf ?_;refine aA ?_
 (refine eG 28 (λ g28=>?_) (λ g28=>?_)<;>refine Ka0 ?_)
 all_goals (refine J36 ?_;refine J6 ?_;refine J68 ?_;(first|refine aI ?_|(refine aF ?_;refine fZ ?_));refine aw ?_;refine Tl ?_;refine aG ?_)
 all_goals
 refine bE (λ c40=>?_) (λ c40=>?_)
 ·all_goals try (exfalso;omega)
  all_goals refine cZ ?_
  all_goals
   refine aN Tryz.results242 (λ w hw=>?_)
   first|exact⟨false,rfl,fy (by omega),by rw[Tv (by omega)];exact hw.aX⟩|exact⟨false,rfl,a9 (by simpa using c40),by rw[V2 (by simpa using c40)];exact hw.aX⟩ 
 ·try exact nv c40
  all_goals (refine aS ?_;refine Ip ?_;refine Kc2 ?_;refine sB ?_;refine aA ?_;refine fZ ?_;refine J5 ?_;refine cZ ?_)
  all_goals
   refine aN Tryz.results242 (λ w hw=>?_)
   (exact⟨true,rfl,cp (by omega) (by simpa using c40),by rw[Us (by omega) (by simpa using c40)];simpa[mW,aO,mO] using hw.aX (F':=[])⟩)
theorem uw(hs:SF w D [(b,mO L cs gen acc pn cn pc cc)] A [] (mW L cs pn cn pc cc) w)(c:Int)(hc:c<=9223372036854775807)(hl:cs.length<=274877906944):Calls prog 241 #[.pointer (some ⟨b,0,none⟩),.int .i64 c] w λ e w'=>∃q:Unit,e=.returned (.int .i64 (aY cs c))/\True/\SF w D [(b,mO L cs gen (up acc) pn cn pc cc)] [] [] (mW L cs pn cn pc cc) w':=by
 rcases Int.lt_or_le c 1 with h|h
 ·exact cf hs c h
 ·obtain⟨k,rfl⟩:∃k:Nat,c=((k+1:Nat):Int):=⟨(c-1).toNat,by omega⟩
  exact Z7 hs (by omega) hl
theorem aAz(hs:SF w D [(b,mO L cs gen acc pn cn pc cc)] A [] (mW L cs pn cn pc cc) w)(c bA new:Int)(hc:c<=9223372036854775807)(hl:cs.length<=274877906944):Calls prog 242 #[.pointer (some ⟨b,0,none⟩),.int .i64 c,.int .i64 bA,.int .i64 new] w λ e w'=>∃r:Bool,e=.returned (.bool r)/\(r=true↔fI cs c bA)/\SF w D [(b,mO L (eC cs c bA new) gen (up acc) pn cn pc cc)] [] [] (mW L (eC cs c bA new) pn cn pc cc) w':=by
 rcases Int.lt_or_le c 1 with h|h
 ·exact ub hs c bA new h
 ·obtain⟨k,rfl⟩:∃k:Nat,c=((k+1:Nat):Int):=⟨(c-1).toNat,by omega⟩
  exact ui hs (by omega) bA new hl
theorem Xm(hs:SF w D [(b,aO L cs gen acc pn cn pc cc)] A [] (mW L cs pn cn pc cc) w):Calls prog 47 #[.pointer (some ⟨b,0,none⟩)] w λ e w'=>∃q:Unit,e=.returned (.int .i64 (up gen))/\True/\SF w D [(b,aO L cs (up gen) acc pn cn pc cc)] [] [] (mW L cs pn cn pc cc) w':=by
 refine enter Tryz.func47 Tryz.ntmps47 rfl rfl (yH hs) ?_
 simp only[cE]
 refine cZ ?_;refine lQ ?_;refine aB (oJ rf rf) rfl ?_;refine K5 ?_;refine lQ ?_;refine J1 ?_
 refine aN Tryz.results47 (λ w hw=>?_)
 exact⟨(),rfl,trivial,by simpa[aO,mW] using hw.aX (F':=[])⟩
theorem Ly(hs:SF w D [(b,aO L cs gen acc pn cn pc cc)] A [] (mW L cs pn cn pc cc) w)(c:Int):Calls prog 85 #[.pointer (some ⟨b,0,none⟩),.int .i64 c] w λ e w'=>∃q:Unit,e=.returned (.bool (decide (1<=c/\c<=(cs.length:Int))))/\True/\SF w D [(b,aO L cs gen acc pn cn pc cc)] [] [] (mW L cs pn cn pc cc) w':=by
 refine enter Tryz.func85 Tryz.ntmps85 rfl rfl (yH hs) ?_
 simp only[cE]
 refine Kc3 ?_;refine oG ?_;refine aA ?_
 (refine eG 7 (λ g7=>?_) (λ g7=>?_)<;>refine Ka0 ?_)
 all_goals (refine Ka0 ?_;refine Kb4 ?_;refine Rw ?_;(first|refine aI ?_|(refine aF ?_;refine Am ?_));refine Kb7 ?_)
 all_goals
 refine aN Tryz.results85 (λ w hw=>?_)
 first|exact⟨(),by rw[decide_eq_false (show ¬(1<=c/\c<=(cs.length:Int)) by omega)];first|rfl|(rw[decide_eq_false (by omega)];rfl),trivial,hw.aX⟩|exact⟨(),by rw[show decide (1<=c/\c<=(cs.length:Int))=decide (c<=(cs.length:Int)) by simp;omega];rfl,trivial,hw.aX⟩
theorem Zm(hs:SF w D [(b,aO L cs gen acc pn cn pc cc)] A [] (mW L cs pn cn pc cc) w)(c:Int)(hc:c<1):Calls prog 35 #[.pointer (some ⟨b,0,none⟩),.int .i64 c] w λ e w'=>∃q:Unit,e=.returned (.int .i64 (aY cs c))/\True/\SF w D [(b,aO L cs gen (up acc) pn cn pc cc)] [] [] (mW L cs pn cn pc cc) w':=by
 refine enter Tryz.func35 Tryz.ntmps35 rfl rfl (yH hs) ?_
 simp only[cE]
 refine cZ ?_;refine lQ ?_;refine aB (oJ rf rf) rfl ?_;refine K5 ?_;refine Da ?_;refine aC (cM (hc:=λ w hs=>Ly hs c)) (λ x14 h14=>?_);refine pN ?_
 refine bE (λ c15=>?_) (λ c15=>?_)
 ·try (exfalso;omega)
  refine cZ ?_
  refine aN Tryz.results35 (λ w hw=>?_)
  (exact⟨(),by rw[sL (by omega)];rfl,trivial,hw.aX⟩)
 ·try (exfalso;omega)
theorem o0(hs:SF w D [(b,aO L cs gen acc pn cn pc cc)] A [] (mW L cs pn cn pc cc) w)(c:Int)(bA new:Int)(hc:c<1):Calls prog 279 #[.pointer (some ⟨b,0,none⟩),.int .i64 c,.int .i64 bA,.int .i64 new] w λ e w'=>∃r:Bool,e=.returned (.bool r)/\(r=true↔fI cs c bA)/\SF w D [(b,aO L (eC cs c bA new) gen (up acc) pn cn pc cc)] [] [] (mW L (eC cs c bA new) pn cn pc cc) w':=by
 refine enter Tryz.func279 Tryz.ntmps279 rfl rfl (yH hs) ?_
 simp only[cE]
 refine cZ ?_;refine lQ ?_;refine aB (oJ rf rf) rfl ?_;refine K5 ?_;refine Da ?_;refine aC (cM (hc:=λ w hs=>Ly hs c)) (λ x18 h18=>?_);refine Fy ?_
 (refine eG 20 (λ g20=>?_) (λ g20=>?_)<;>(try (exfalso;omega))<;>(refine aI ?_))
 (refine aI ?_);refine J6 ?_;refine J68 ?_;(refine aI ?_);refine aw ?_;refine Tl ?_;refine aG ?_
 refine bE (λ c31=>?_) (λ c31=>?_)
 ·try (exfalso;omega)
  refine cZ ?_
  refine aN Tryz.results279 (λ w hw=>?_)
  (exact⟨false,rfl,dg hc,by rw[U0 hc];exact hw.aX⟩)
 ·exact nv c31
theorem ki(hs:SF w D [(b,aO L cs gen acc pn cn pc cc)] A [] (mW L cs pn cn pc cc) w){k:Nat}(hk:(k:Int)<9223372036854775807)(hl:cs.length<=274877906944):Calls prog 35 #[.pointer (some ⟨b,0,none⟩),.int .i64 ((k+1:Nat):Int)] w λ e w'=>∃q:Unit,e=.returned (.int .i64 (aY cs ((k+1:Nat):Int)))/\True/\SF w D [(b,aO L cs gen (up acc) pn cn pc cc)] [] [] (mW L cs pn cn pc cc) w':=by
 refine enter Tryz.func35 Tryz.ntmps35 rfl rfl (yH hs) ?_
 simp only[cE]
 refine cZ ?_;refine lQ ?_;refine aB (oJ rf rf) rfl ?_;refine K5 ?_;refine Da ?_;refine aC (cM (hc:=λ w hs=>Ly hs ((k+1:Nat):Int))) (λ x14 h14=>?_);refine pN ?_
 refine bE (λ c15=>?_) (λ c15=>?_)
 ·try (exfalso;omega)
  refine cZ ?_
  refine aN Tryz.results35 (λ w hw=>?_)
  (exact⟨(),by rw[sL (by omega)];rfl,trivial,hw.aX⟩)
 ·try (exfalso;omega)
  refine vx ?_;refine aA ?_;refine sB ?_;refine Qw ?_;refine J1 ?_
  refine aN Tryz.results35 (λ w hw=>?_)
  (exact⟨(),by rw[E4 (by omega)];rfl,trivial,hw.aX⟩)
theorem pi(hs:SF w D [(b,aO L cs gen acc pn cn pc cc)] A [] (mW L cs pn cn pc cc) w){k:Nat}(hk:(k:Int)<9223372036854775807)(bA new:Int)(hl:cs.length<=274877906944):Calls prog 279 #[.pointer (some ⟨b,0,none⟩),.int .i64 ((k+1:Nat):Int),.int .i64 bA,.int .i64 new] w λ e w'=>∃r:Bool,e=.returned (.bool r)/\(r=true↔fI cs ((k+1:Nat):Int) bA)/\SF w D [(b,aO L (eC cs ((k+1:Nat):Int) bA new) gen (up acc) pn cn pc cc)] [] [] (mW L (eC cs ((k+1:Nat):Int) bA new) pn cn pc cc) w':=by
 refine enter Tryz.func279 Tryz.ntmps279 rfl rfl (yH hs) ?_
 simp only[cE]
 refine cZ ?_;refine lQ ?_;refine aB (oJ rf rf) rfl ?_;refine K5 ?_;refine Da ?_;refine aC (cM (hc:=λ w hs=>Ly hs ((k+1:Nat):Int))) (λ x18 h18=>?_);refine Fy ?_
 (refine eG 20 (λ g20=>?_) (λ g20=>?_)<;>refine Ka0 ?_)
 all_goals (refine Kb4 ?_;refine J6 ?_;refine J68 ?_;(first|refine aI ?_|(refine aF ?_;refine fZ ?_));refine aw ?_;refine Tl ?_;refine aG ?_)
 all_goals
 refine bE (λ c31=>?_) (λ c31=>?_)
 ·all_goals try (exfalso;omega)
  all_goals refine cZ ?_
  all_goals
   refine aN Tryz.results279 (λ w hw=>?_)
   first|exact⟨false,rfl,fy (by omega),by rw[Tv (by omega)];exact hw.aX⟩|exact⟨false,rfl,a9 (by simpa using c31),by rw[V2 (by simpa using c31)];exact hw.aX⟩ 
 ·try exact nv c31
  all_goals (refine vx ?_;refine aA ?_;refine sB ?_;refine aA ?_;refine fZ ?_;refine J5 ?_;refine cZ ?_)
  all_goals
   refine aN Tryz.results279 (λ w hw=>?_)
   (exact⟨true,rfl,cp (by omega) (by simpa using c31),by rw[Us (by omega) (by simpa using c31)];simpa[mW,aO,mO] using hw.aX (F':=[])⟩)
theorem V9(hs:SF w D [(b,aO L cs gen acc pn cn pc cc)] A [] (mW L cs pn cn pc cc) w)(c:Int)(hc:c<=9223372036854775807)(hl:cs.length<=274877906944):Calls prog 35 #[.pointer (some ⟨b,0,none⟩),.int .i64 c] w λ e w'=>∃q:Unit,e=.returned (.int .i64 (aY cs c))/\True/\SF w D [(b,aO L cs gen (up acc) pn cn pc cc)] [] [] (mW L cs pn cn pc cc) w':=by
 rcases Int.lt_or_le c 1 with h|h
 ·exact Zm hs c h
 ·obtain⟨k,rfl⟩:∃k:Nat,c=((k+1:Nat):Int):=⟨(c-1).toNat,by omega⟩
  exact ki hs (by omega) hl
theorem aAj(hs:SF w D [(b,aO L cs gen acc pn cn pc cc)] A [] (mW L cs pn cn pc cc) w)(c bA new:Int)(hc:c<=9223372036854775807)(hl:cs.length<=274877906944):Calls prog 279 #[.pointer (some ⟨b,0,none⟩),.int .i64 c,.int .i64 bA,.int .i64 new] w λ e w'=>∃r:Bool,e=.returned (.bool r)/\(r=true↔fI cs c bA)/\SF w D [(b,aO L (eC cs c bA new) gen (up acc) pn cn pc cc)] [] [] (mW L (eC cs c bA new) pn cn pc cc) w':=by
 rcases Int.lt_or_le c 1 with h|h
 ·exact o0 hs c bA new h
 ·obtain⟨k,rfl⟩:∃k:Nat,c=((k+1:Nat):Int):=⟨(c-1).toNat,by omega⟩
  exact pi hs (by omega) bA new hl
end
end Go.Proofs.YtbajmaoegmbfgaaGreat
namespace Go.Ct
open Go Go.RowKit
section
structure Ac where
 k:Int
 c:Int
 o:Int
 n:Int
structure Rs where
 err:Int
 found:Bool
 val:Int
 key:ByteArray
 fY:Int
 ref:Int
 root:Int
 ro:Bool
abbrev Ac.cells(a:Ac):List Value:=[.int .i64 a.k,.int .i64 a.c,.int .i64 a.o,.int .i64 a.n]
abbrev Rs.cells(r:Rs):List Value:=[.int .i64 r.err,.bool r.found,.int .u64 r.val,.string r.key,.int .i64 r.fY,.int .i64 r.ref,.int .i64 r.root,.bool r.ro]
abbrev Rs.zero:Rs:=⟨0,false,0,⟨#[]⟩,0,0,0,false⟩
abbrev Ac.zero:Ac:=⟨0,0,0,0⟩
end
end Go.Ct
namespace Go.Proofs.YtbajmaoegmbfgaaGreat
open Go.RowKit Go.Ct
section
theorem Df{α} [BEq α] [LawfulBEq α] {xs ys:List α}{k:Nat}(h:xs.length=ys.length)(hk:¬k<xs.length)(ht:xs.take k=ys.take k):(xs==ys)=true:=by
 rw[List.take_of_length_le (by omega),List.take_of_length_le (by omega)] at ht
 simp[ht]
theorem Gu{α} [BEq α] [LawfulBEq α] {xs ys:List α}(h:xs.length≠ys.length):(xs==ys)=false:=by
 simp only[beq_eq_false_iff_ne,ne_eq]
 intro e;rw[e] at h;exact h rfl
theorem G4{α} [BEq α] [LawfulBEq α] {xs ys:List α}{k:Nat}{d:α}(h:xs.getD k d≠ys.getD k d):(xs==ys)=false:=by
 simp only[beq_eq_false_iff_ne,ne_eq]
 intro e;rw[e] at h;exact h rfl
theorem Dh{α} [DecidableEq α] {xs ys:List α}{k:Nat}(h:xs.length=ys.length)(hk:¬k<xs.length)(ht:xs.take k=ys.take k):decide (xs=ys)=true:=by
 rw[List.take_of_length_le (by omega),List.take_of_length_le (by omega)] at ht
 simp[ht]
theorem E0{α} [DecidableEq α] {xs ys:List α}(h:xs.length≠ys.length):decide (xs=ys)=false:=decide_eq_false λ e=>h (by rw[e])
theorem Gq{α} [DecidableEq α] {xs ys:List α}{k:Nat}{d:α}(h:xs.getD k d≠ys.getD k d):decide (xs=ys)=false:=decide_eq_false λ e=>h (by rw[e])
theorem xB{α}{xs ys:List α}{k:Nat}{d:α}(h:xs.take k=ys.take k)(hk:k<xs.length)(hl:xs.length=ys.length)(he:xs.getD k d=ys.getD k d):xs.take (k+1)=ys.take (k+1):=by
 rw[List.take_add_one,List.take_add_one,h,List.getElem?_eq_getElem hk,List.getElem?_eq_getElem (hl▸hk)]
 simp only[List.getD,List.getElem?_eq_getElem hk,List.getElem?_eq_getElem (hl▸hk:k<ys.length),Option.getD_some] at he
 rw[he]
theorem ya{xs ys:List Int}{a b:Option Addr}{ca cb:Nat}{w:World}(ha:Cl w a (aH xs))(hb:Cl w b (aH ys))(hx:xs.length<4611686018427387904) :
  Calls Tryz.prog 112 #[.slice a xs.length ca,.slice b ys.length cb] w λ e w'=>e=.returned (.bool (xs==ys))/\St w [] [] w':=by
 refine enter Tryz.func112 Tryz.ntmps112 rfl rfl (SF.s2 ha hb) ?_
 simp only[cE]
 refine Kc4 ?_;refine dX ?_;refine aA ?_;refine dX ?_;refine Kd1 ?_
 refine bE (λ c10=>?_) (λ c10=>?_)
 ·refine cZ ?_
  refine aN Tryz.results112 (λ w hw=>?_)
  exact⟨by rw[Gu (by omega)];rfl,hw.done⟩
 ·refine lW ?_;refine Gp ?_
  refine gV [4,5,11,12,13,14,15,16,17,18,19,20,21,22,23,24,25] (λ k=>[(5,.int .i64 ((k:Nat):Int))]) (λ k=>k<=xs.length/\xs.take k=ys.take k) (λ k=>xs.length-k) (0) (⟨Nat.zero_le _,by simp⟩) ?_ (λ k f hx=>?_)
  ·repeat (first|exact bQ _|refine bJ (by exact rfl) ?_)
  dsimp only[iB,List.map,List.cons_append,List.nil_append]
  refine Da ?_;refine dX ?_;refine Bq ?_
  refine bE (λ c14=>?_) (λ c14=>?_)
  ·refine sA ?_;refine aR ?_;refine gM [0,1,2,3,4,5,6,7,8] ?_;refine hU ?_;refine T7 ?_;refine hU ?_;refine T7 ?_;refine kx ?_;refine eO ?_
   refine bE (λ c25=>?_) (λ c25=>?_)
   ·refine cZ ?_
    refine aN Tryz.results112 (λ w hw=>?_)
    exact⟨by rw[G4 c25];rfl,hw.done⟩
   ·refine Kc7 ?_
    refine fE (k+1) ?_ ?_ ?_
    ·omega
    ·repeat' (first|exact bQ _|refine bJ ?_ ?_)
     exact rfl
    ·exact⟨by omega,xB hx.2 (by omega) (by omega) c25⟩
  ·refine bR rfl ?_;refine cZ ?_
   refine aN Tryz.results112 (λ w hw=>?_)
   exact⟨by rw[Df (k:=k) (by omega) (by omega) hx.2];rfl,hw.done⟩
theorem aAH{xs ys:List Pr}{a b:Option Addr}{ca cb:Nat}{w:World}(ha:Cl w a (dE xs))(hb:Cl w b (dE ys))(hx:xs.length<4611686018427387904) :
  Calls Tryz.prog 155 #[.slice a xs.length ca,.slice b ys.length cb] w λ e w'=>e=.returned (.bool (decide (xs=ys)))/\St w [] [] w':=by
 refine enter Tryz.func155 Tryz.ntmps155 rfl rfl (SF.s2 ha hb) ?_
 simp only[cE]
 refine Kc4 ?_;refine dX ?_;refine aA ?_;refine dX ?_;refine Kd1 ?_
 refine bE (λ c10=>?_) (λ c10=>?_)
 ·refine cZ ?_
  refine aN Tryz.results155 (λ w hw=>?_)
  exact⟨by rw[E0 (by omega)];rfl,hw.done⟩
 ·refine lW ?_;refine Gp ?_
  refine gV [4,5,11,12,13,14,15,16,17,18,19,20,21,22,23,24,25] (λ k=>[(5,.int .i64 ((k:Nat):Int))]) (λ k=>k<=xs.length/\xs.take k=ys.take k) (λ k=>xs.length-k) (0) (⟨Nat.zero_le _,by simp⟩) ?_ (λ k f hx=>?_)
  ·repeat (first|exact bQ _|refine bJ (by exact rfl) ?_)
  dsimp only[iB,List.map,List.cons_append,List.nil_append]
  refine Da ?_;refine dX ?_;refine Bq ?_
  refine bE (λ c14=>?_) (λ c14=>?_)
  ·refine sA ?_;refine aR ?_;refine gM [0,1,2,3,4,5,6,7,8] ?_;refine hU ?_;refine T7 ?_;refine hU ?_;refine T7 ?_;refine T9 ?_;refine eO ?_
   refine bE (λ c25=>?_) (λ c25=>?_)
   ·refine cZ ?_
    refine aN Tryz.results155 (λ w hw=>?_)
    exact⟨by rw[Gq λ h=>c25 ⟨congrArg Prod.fst h,congrArg Prod.snd h⟩];rfl,hw.done⟩
   ·refine Kc7 ?_
    refine fE (k+1) ?_ ?_ ?_
    ·omega
    ·repeat' (first|exact bQ _|refine bJ ?_ ?_)
     exact rfl
    ·exact⟨by omega,xB hx.2 (by omega) (by omega) (Prod.ext c25.1 c25.2)⟩
  ·refine bR rfl ?_;refine cZ ?_
   refine aN Tryz.results155 (λ w hw=>?_)
   exact⟨by rw[Dh (k:=k) (by omega) (by omega) hx.2];rfl,hw.done⟩
theorem od{xs ys:List Int}{a b:Option Addr}{ca cb:Nat}{w:World}(ha:Cl w a (aH xs))(hb:Cl w b (aH ys))(hx:xs.length<4611686018427387904) :
  Calls Tryz.prog 236 #[.slice a xs.length ca,.slice b ys.length cb] w λ e w'=>e=.returned (.bool (xs==ys))/\St w [] [] w':=by
 refine enter Tryz.func236 Tryz.ntmps236 rfl rfl (SF.s2 ha hb) ?_
 simp only[cE]
 refine Kc4 ?_;refine dX ?_;refine aA ?_;refine dX ?_;refine Kd1 ?_
 refine bE (λ c10=>?_) (λ c10=>?_)
 ·refine cZ ?_
  refine aN Tryz.results236 (λ w hw=>?_)
  exact⟨by rw[Gu (by omega)];rfl,hw.done⟩
 ·refine lW ?_;refine J2 ?_;refine dX ?_;refine H4 ?_;refine cY ?_
  refine gV [4,5,13,14,15,16,17,18,19,20,21,22,23,24,25] (λ k=>[(13,.int .i64 ((k:Nat):Int))]) (λ k=>k<=xs.length/\xs.take k=ys.take k) (λ k=>xs.length-k) (0) (⟨Nat.zero_le _,by simp⟩) ?_ (λ k f hx=>?_)
  ·repeat (first|exact bQ _|refine bJ (by exact rfl) ?_)
  dsimp only[iB,List.map,List.cons_append,List.nil_append]
  refine J0 ?_;refine Bq ?_;refine aR ?_
  refine bE (λ c14=>?_) (λ c14=>?_)
  ·refine sA ?_;refine J2 ?_;refine iW ?_;refine gM [0,1,2,3,4,5,6,7,8] ?_;refine hU ?_;refine T7 ?_;refine hU ?_;refine T7 ?_;refine kx ?_;refine eO ?_
   refine bE (λ c24=>?_) (λ c24=>?_)
   ·refine cZ ?_
    refine aN Tryz.results236 (λ w hw=>?_)
    exact⟨by rw[G4 c24];rfl,hw.done⟩
   ·refine pM ?_;refine Yx ?_;refine H4 ?_
    refine fE (k+1) ?_ ?_ ?_
    ·omega
    ·repeat' (first|exact bQ _|refine bJ ?_ ?_)
     exact rfl
    ·exact⟨by omega,xB hx.2 (by omega) (by omega) c24⟩
  ·refine bR rfl ?_;refine cZ ?_
   refine aN Tryz.results236 (λ w hw=>?_)
   exact⟨by rw[Df (k:=k) (by omega) (by omega) hx.2];rfl,hw.done⟩
theorem xh{xs ys:List Pr}{a b:Option Addr}{ca cb:Nat}{w:World}(ha:Cl w a (dE xs))(hb:Cl w b (dE ys))(hx:xs.length<4611686018427387904) :
  Calls Tryz.prog 237 #[.slice a xs.length ca,.slice b ys.length cb] w λ e w'=>e=.returned (.bool (decide (xs=ys)))/\St w [] [] w':=by
 refine enter Tryz.func237 Tryz.ntmps237 rfl rfl (SF.s2 ha hb) ?_
 simp only[cE]
 refine Kc4 ?_;refine dX ?_;refine aA ?_;refine dX ?_;refine Kd1 ?_
 refine bE (λ c10=>?_) (λ c10=>?_)
 ·refine cZ ?_
  refine aN Tryz.results237 (λ w hw=>?_)
  exact⟨by rw[E0 (by omega)];rfl,hw.done⟩
 ·refine lW ?_;refine J2 ?_;refine dX ?_;refine H4 ?_;refine cY ?_
  refine gV [4,5,13,14,15,16,17,18,19,20,21,22,23,24,25] (λ k=>[(13,.int .i64 ((k:Nat):Int))]) (λ k=>k<=xs.length/\xs.take k=ys.take k) (λ k=>xs.length-k) (0) (⟨Nat.zero_le _,by simp⟩) ?_ (λ k f hx=>?_)
  ·repeat (first|exact bQ _|refine bJ (by exact rfl) ?_)
  dsimp only[iB,List.map,List.cons_append,List.nil_append]
  refine J0 ?_;refine Bq ?_;refine aR ?_
  refine bE (λ c14=>?_) (λ c14=>?_)
  ·refine sA ?_;refine J2 ?_;refine iW ?_;refine gM [0,1,2,3,4,5,6,7,8] ?_;refine hU ?_;refine T7 ?_;refine hU ?_;refine T7 ?_;refine T9 ?_;refine eO ?_
   refine bE (λ c24=>?_) (λ c24=>?_)
   ·refine cZ ?_
    refine aN Tryz.results237 (λ w hw=>?_)
    exact⟨by rw[Gq λ h=>c24 ⟨congrArg Prod.fst h,congrArg Prod.snd h⟩];rfl,hw.done⟩
   ·refine pM ?_;refine Yx ?_;refine H4 ?_
    refine fE (k+1) ?_ ?_ ?_
    ·omega
    ·repeat' (first|exact bQ _|refine bJ ?_ ?_)
     exact rfl
    ·exact⟨by omega,xB hx.2 (by omega) (by omega) (Prod.ext c24.1 c24.2)⟩
  ·refine bR rfl ?_;refine cZ ?_
   refine aN Tryz.results237 (λ w hw=>?_)
   exact⟨by rw[Dh (k:=k) (by omega) (by omega) hx.2];rfl,hw.done⟩
end
end Go.Proofs.YtbajmaoegmbfgaaGreat
