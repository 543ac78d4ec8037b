/- The small methods of the two memories: generations, loads, compare-and-swaps. -/
import Derived.Test.YtbajmaoegmbfgaaGreatGJoin
import Derived.Test.YtbajmaoegmbfgaaGreatGMem
import Derived.Test.YtbajmaoegmbfgaaGreatAuto

set_option linter.unusedSimpArgs false
set_option linter.unusedVariables false
namespace Go.Ct
section
def dA(cs:List Int)(c:Int):Int:=if 1<=c/\c<=cs.length then cs.getD (c-1).toNat 0 else 0
def kR(cs:List Int)(c bF:Int):Prop:=1<=c/\c<=cs.length/\cs.getD (c-1).toNat 0=bF
def fG(cs:List Int)(c bF new:Int):List Int:=if 1<=c/\c<=cs.length/\cs.getD (c-1).toNat 0=bF then cs.set (c-1).toNat new else cs
def up(i:Int):Int:=Go.IntKind.i64.wrap (i+1)
theorem pU{cs:List Int}{c:Int}(h:¬(1<=c/\c<=cs.length)):dA cs c=0:=if_neg h
theorem pC{cs:List Int}{k:Nat}(h:k<cs.length):dA cs ((k+1:Nat):Int)=cs.getD k 0:=by
 unfold dA
 rw[if_pos (by omega),show(((k+1:Nat):Int)-1).toNat=k by omega]
theorem Eb{cs:List Int}{c bF new:Int}(h:¬(1<=c/\c<=cs.length/\cs.getD (c-1).toNat 0=bF)):fG cs c bF new=cs:=if_neg h
theorem D1{cs:List Int}{k:Nat}{bF new:Int}(h:k<cs.length)(ho:cs.getD k 0=bF):fG cs ((k+1:Nat):Int) bF new=cs.set k new:=by
 have e:(((k+1:Nat):Int)-1).toNat=k:=by omega
 unfold fG
 rw[e,if_pos ⟨by omega,by omega,ho⟩]
theorem Yw{cs:List Int}{c bF:Int}(h:c<1):(false=true↔kR cs c bF):=⟨(λ h=>nomatch h),λ h2=>absurd h2.1 (by omega)⟩
theorem Tk{cs:List Int}{c bF new:Int}(h:c<1):fG cs c bF new=cs:=Eb (by omega)
theorem Kb{cs:List Int}{c bF:Int}(h:(cs.length:Int)<c):(false=true↔kR cs c bF):=⟨(λ h=>nomatch h),λ h2=>absurd h2.2.1 (by omega)⟩
theorem D3{cs:List Int}{c bF new:Int}(h:(cs.length:Int)<c):fG cs c bF new=cs:=Eb (by omega)
theorem Kg{cs:List Int}{k:Nat}{bF:Int}(h:cs.getD k 0≠bF):(false=true↔kR cs ((k+1:Nat):Int) bF):=⟨(λ h=>nomatch h),λ h2=>absurd (by have:=h2.2.2;rwa [show(((k+1:Nat):Int)-1).toNat=k by omega] at this) h⟩
theorem Dt{cs:List Int}{k:Nat}{bF new:Int}(h:cs.getD k 0≠bF):fG cs ((k+1:Nat):Int) bF new=cs:=Eb λ h2=>absurd (by have:=h2.2.2;rwa [show(((k+1:Nat):Int)-1).toNat=k by omega] at this) h
theorem Ke{cs:List Int}{k:Nat}{bF:Int}(hk:k<cs.length)(h:cs.getD k 0=bF):(true=true↔kR cs ((k+1:Nat):Int) bF):=⟨λ _=>⟨by omega,by omega,by rw[show(((k+1:Nat):Int)-1).toNat=k by omega];exact h⟩,λ _=>rfl⟩
theorem iF{cs:List Int}{c bF new:Int}:(fG cs c bF new).length=cs.length:=by unfold fG;split<;>simp
end
end Go.Ct
namespace Go.Proofs.YtbajmaoegmbfgaaGreat
section
open Go.RowKit Go.Ct
variable{w:World}{D:List Nat}{b:Nat}{L:List aX}{cs:List Int}{gen acc:Int}{pn pc:Option Addr}{cn cc:Nat}{A:Fr}
theorem Jr(hs:SF w D [(b,mO L cs gen acc pn cn pc cc)] A [] (mW L cs pn cn pc cc) w):Calls Tryz.prog 100 #[.pointer (some ⟨b,0,none⟩)] w λ e w'=>∃q:Unit,e=.returned (.int .i64 (up gen))/\True/\SF w D [(b,mO L cs (up gen) acc pn cn pc cc)] [] [] (mW L cs pn cn pc cc) w':=by
 refine enter Tryz.func100 Tryz.ntmps100 rfl rfl (yE hs) ?_
 simp only[cN]
 all_goals (refine dC ?_;refine Bt ?_;refine J3 ?_;refine aB (pR rf rf) rfl ?_;refine D2 ?_;refine qB ?_;refine Bt ?_;refine J3 ?_;refine J1 ?_)
 all_goals
 refine aU Tryz.results100 (λ w hw=>?_)
 exact⟨(),rfl,trivial,by simpa[mO,mW] using hw.aS (F':=[])⟩
theorem Z0(hs:SF w D [(b,mO L cs gen acc pn cn pc cc)] A [] (mW L cs pn cn pc cc) w)(c:Int)(hc:c<1):Calls Tryz.prog 241 #[.pointer (some ⟨b,0,none⟩),.int .i64 c] w λ e w'=>∃q:Unit,e=.returned (.int .i64 (dA cs c))/\True/\SF w D [(b,mO L cs gen (up acc) pn cn pc cc)] [] [] (mW L cs pn cn pc cc) w':=by
 refine enter Tryz.func241 Tryz.ntmps241 rfl rfl (yE hs) ?_
 simp only[cN]
 all_goals (refine dC ?_;refine kY ?_;refine aB (pR rf rf) rfl ?_;refine D5 ?_;refine lW ?_;refine Ju ?_)
 all_goals ((refine fS 14 (λ g14=>?_) (λ g14=>?_)<;>(try (exfalso;omega))<;>(refine aN ?_)))
 all_goals (refine vq ?_;refine je ?_;refine I3 ?_;refine aH ?_)
 all_goals
 refine bG (λ c23=>?_) (λ c23=>?_)
 ·all_goals try (exfalso;omega)
  all_goals refine dC ?_
  all_goals
   refine aU Tryz.results241 (λ w hw=>?_)
   first|(exfalso;omega)|exact⟨(),by rw[pU (by omega)];rfl,trivial,hw.aS⟩|exact⟨(),by rw[pC (by omega)];rfl,trivial,hw.aS⟩
 ·exact nv c23
theorem kz(hs:SF w D [(b,mO L cs gen acc pn cn pc cc)] A [] (mW L cs pn cn pc cc) w)(c:Int)(bF new:Int)(hc:c<1):Calls Tryz.prog 242 #[.pointer (some ⟨b,0,none⟩),.int .i64 c,.int .i64 bF,.int .i64 new] w λ e w'=>∃r:Bool,e=.returned (.bool r)/\(r=true↔kR cs c bF)/\SF w D [(b,mO L (fG cs c bF new) gen (up acc) pn cn pc cc)] [] [] (mW L (fG cs c bF new) pn cn pc cc) w':=by
 refine enter Tryz.func242 Tryz.ntmps242 rfl rfl (yE hs) ?_
 simp only[cN]
 all_goals (refine dC ?_;refine kY ?_;refine aB (pR rf rf) rfl ?_;refine D5 ?_;refine lW ?_;refine Ju ?_)
 all_goals ((refine fS 18 (λ g18=>?_) (λ g18=>?_)<;>(try (exfalso;omega))<;>(refine aN ?_)))
 all_goals (refine vq ?_;refine je ?_;refine I3 ?_;refine aA ?_)
 all_goals (refine aN ?_)
 all_goals (refine J36 ?_;refine J6 ?_;refine J68 ?_;(refine aN ?_);refine jb ?_;refine Sj ?_;refine aH ?_)
 all_goals
 refine bG (λ c40=>?_) (λ c40=>?_)
 ·all_goals try (exfalso;omega)
  all_goals refine dC ?_
  all_goals
   refine aU Tryz.results242 (λ w hw=>?_)
   first|(exfalso;omega)|exact⟨false,rfl,Yw hc,by rw[Tk hc];exact hw.aS⟩
 ·exact nv c40
theorem Z1(hs:SF w D [(b,mO L cs gen acc pn cn pc cc)] A [] (mW L cs pn cn pc cc) w){k:Nat}(hk:(k:Int)<9223372036854775807)(hl:cs.length<=274877906944):Calls Tryz.prog 241 #[.pointer (some ⟨b,0,none⟩),.int .i64 ((k+1:Nat):Int)] w λ e w'=>∃q:Unit,e=.returned (.int .i64 (dA cs ((k+1:Nat):Int)))/\True/\SF w D [(b,mO L cs gen (up acc) pn cn pc cc)] [] [] (mW L cs pn cn pc cc) w':=by
 refine enter Tryz.func241 Tryz.ntmps241 rfl rfl (yE hs) ?_
 simp only[cN]
 all_goals (refine dC ?_;refine kY ?_;refine aB (pR rf rf) rfl ?_;refine D5 ?_;refine lW ?_;refine Ju ?_)
 all_goals ((refine aF ?_;refine aA ?_))
 all_goals (refine vq ?_;refine je ?_;refine I3 ?_;refine aH ?_)
 all_goals
 refine bG (λ c23=>?_) (λ c23=>?_)
 ·all_goals try (exfalso;omega)
  all_goals refine dC ?_
  all_goals
   refine aU Tryz.results241 (λ w hw=>?_)
   first|(exfalso;omega)|exact⟨(),by rw[pU (by omega)];rfl,trivial,hw.aS⟩|exact⟨(),by rw[pC (by omega)];rfl,trivial,hw.aS⟩
 ·all_goals try (exfalso;omega)
  all_goals (refine bD ?_;refine Bt ?_;refine J3 ?_;refine aA ?_;refine rS ?_;refine S9 ?_;refine J1 ?_)
  all_goals
   refine aU Tryz.results241 (λ w hw=>?_)
   first|(exfalso;omega)|exact⟨(),by rw[pU (by omega)];rfl,trivial,hw.aS⟩|exact⟨(),by rw[pC (by omega)];rfl,trivial,hw.aS⟩
theorem ot(hs:SF w D [(b,mO L cs gen acc pn cn pc cc)] A [] (mW L cs pn cn pc cc) w){k:Nat}(hk:(k:Int)<9223372036854775807)(bF new:Int)(hl:cs.length<=274877906944):Calls Tryz.prog 242 #[.pointer (some ⟨b,0,none⟩),.int .i64 ((k+1:Nat):Int),.int .i64 bF,.int .i64 new] w λ e w'=>∃r:Bool,e=.returned (.bool r)/\(r=true↔kR cs ((k+1:Nat):Int) bF)/\SF w D [(b,mO L (fG cs ((k+1:Nat):Int) bF new) gen (up acc) pn cn pc cc)] [] [] (mW L (fG cs ((k+1:Nat):Int) bF new) pn cn pc cc) w':=by
 refine enter Tryz.func242 Tryz.ntmps242 rfl rfl (yE hs) ?_
 simp only[cN]
 all_goals (refine dC ?_;refine kY ?_;refine aB (pR rf rf) rfl ?_;refine D5 ?_;refine lW ?_;refine Ju ?_)
 all_goals ((refine aF ?_;refine aA ?_))
 all_goals (refine vq ?_;refine je ?_;refine I3 ?_;refine aA ?_)
 all_goals ((refine fS 28 (λ g28=>?_) (λ g28=>?_)<;>(try (exfalso;omega))<;>(first|refine aN ?_|(refine aF ?_;refine aA ?_))))
 all_goals (refine J36 ?_;refine J6 ?_;refine J68 ?_;(first|refine aN ?_|(refine aF ?_;refine hX ?_));refine jb ?_;refine Sj ?_;refine aH ?_)
 all_goals
 refine bG (λ c40=>?_) (λ c40=>?_)
 ·all_goals try (exfalso;omega)
  all_goals refine dC ?_
  all_goals
   refine aU Tryz.results242 (λ w hw=>?_)
   first|(exfalso;omega)|exact⟨false,rfl,Kb (by omega),by rw[D3 (by omega)];exact hw.aS⟩|exact⟨false,rfl,Kg (by simpa using c40),by rw[Dt (by simpa using c40)];exact hw.aS⟩|exact⟨true,rfl,Ke (by omega) (by simpa using c40),by rw[D1 (by omega) (by simpa using c40)];simpa[mW,aO,mO] using hw.aS (F':=[])⟩
 ·try exact nv c40
  all_goals try (exfalso;omega)
  all_goals (refine bD ?_;refine Bt ?_;refine J3 ?_;refine aA ?_;refine rS ?_;refine aA ?_;refine hX ?_;refine J5 ?_;refine dC ?_)
  all_goals
   refine aU Tryz.results242 (λ w hw=>?_)
   first|(exfalso;omega)|exact⟨false,rfl,Kb (by omega),by rw[D3 (by omega)];exact hw.aS⟩|exact⟨false,rfl,Kg (by simpa using c40),by rw[Dt (by simpa using c40)];exact hw.aS⟩|exact⟨true,rfl,Ke (by omega) (by simpa using c40),by rw[D1 (by omega) (by simpa using c40)];simpa[mW,aO,mO] using hw.aS (F':=[])⟩
theorem oh(hs:SF w D [(b,mO L cs gen acc pn cn pc cc)] A [] (mW L cs pn cn pc cc) w)(c:Int)(hc:c<=9223372036854775807)(hl:cs.length<=274877906944):Calls Tryz.prog 241 #[.pointer (some ⟨b,0,none⟩),.int .i64 c] w λ e w'=>∃q:Unit,e=.returned (.int .i64 (dA cs c))/\True/\SF w D [(b,mO L cs gen (up acc) pn cn pc cc)] [] [] (mW L cs pn cn pc cc) w':=by
 rcases Int.lt_or_le c 1 with h|h
 ·exact Z0 hs c h
 ·obtain⟨k,rfl⟩:∃k:Nat,c=((k+1:Nat):Int):=⟨(c-1).toNat,by omega⟩
  exact Z1 hs (by omega) hl
theorem uv(hs:SF w D [(b,mO L cs gen acc pn cn pc cc)] A [] (mW L cs pn cn pc cc) w)(c bF new:Int)(hc:c<=9223372036854775807)(hl:cs.length<=274877906944):Calls Tryz.prog 242 #[.pointer (some ⟨b,0,none⟩),.int .i64 c,.int .i64 bF,.int .i64 new] w λ e w'=>∃r:Bool,e=.returned (.bool r)/\(r=true↔kR cs c bF)/\SF w D [(b,mO L (fG cs c bF new) gen (up acc) pn cn pc cc)] [] [] (mW L (fG cs c bF new) pn cn pc cc) w':=by
 rcases Int.lt_or_le c 1 with h|h
 ·exact kz hs c bF new h
 ·obtain⟨k,rfl⟩:∃k:Nat,c=((k+1:Nat):Int):=⟨(c-1).toNat,by omega⟩
  exact ot hs (by omega) bF new hl
theorem Lr(hs:SF w D [(b,aO L cs gen acc pn cn pc cc)] A [] (mW L cs pn cn pc cc) w)(c:Int):Calls Tryz.prog 85 #[.pointer (some ⟨b,0,none⟩),.int .i64 c] w λ e w'=>∃q:Unit,e=.returned (.bool (decide (1<=c/\c<=(cs.length:Int))))/\True/\SF w D [(b,aO L cs gen acc pn cn pc cc)] [] [] (mW L cs pn cn pc cc) w':=by
 refine enter Tryz.func85 Tryz.ntmps85 rfl rfl (yB hs) ?_
 simp only[cN]
 all_goals (refine dC ?_;refine J2 ?_;refine nS ?_;refine aA ?_)
 all_goals ((refine fS 7 (λ g7=>?_) (λ g7=>?_)<;>(first|refine aN ?_|(refine aF ?_;refine aA ?_))))
 all_goals ((first|refine aN ?_|(refine aF ?_;refine aA ?_));(first|refine aN ?_|(refine aF ?_;refine dZ ?_));refine je ?_;(first|refine aN ?_|(refine aF ?_;refine zO ?_));refine cX ?_;refine J1 ?_)
 all_goals
 refine aU Tryz.results85 (λ w hw=>?_)
 first|exact⟨(),by rw[decide_eq_true (show 1<=c/\c<=(cs.length:Int) by omega)];first|rfl|(rw[decide_eq_true (by omega)];rfl),trivial,hw.aS⟩|exact⟨(),by rw[decide_eq_false (show ¬(1<=c/\c<=(cs.length:Int)) by omega)];first|rfl|(rw[decide_eq_false (by omega)];rfl),trivial,hw.aS⟩|exact⟨(),by rw[show decide (1<=c/\c<=(cs.length:Int))=decide (c<=(cs.length:Int)) by simp;omega];rfl,trivial,hw.aS⟩
theorem X1(hs:SF w D [(b,aO L cs gen acc pn cn pc cc)] A [] (mW L cs pn cn pc cc) w)(c:Int)(hc:c<1):Calls Tryz.prog 35 #[.pointer (some ⟨b,0,none⟩),.int .i64 c] w λ e w'=>∃q:Unit,e=.returned (.int .i64 (dA cs c))/\True/\SF w D [(b,aO L cs gen (up acc) pn cn pc cc)] [] [] (mW L cs pn cn pc cc) w':=by
 refine enter Tryz.func35 Tryz.ntmps35 rfl rfl (yB hs) ?_
 simp only[cN]
 all_goals (refine dC ?_;refine kY ?_;refine aB (pR rf rf) rfl ?_;refine D5 ?_;refine Dz ?_;refine aC (cM (hc:=λ w hs=>Lr hs c)) (λ x14 h14=>?_);refine qT ?_)
 all_goals
 refine bG (λ c15=>?_) (λ c15=>?_)
 ·all_goals try (exfalso;omega)
  all_goals refine dC ?_
  all_goals
   refine aU Tryz.results35 (λ w hw=>?_)
   first|(exfalso;omega)|exact⟨(),by rw[pU (by omega)];rfl,trivial,hw.aS⟩|exact⟨(),by rw[pC (by omega)];rfl,trivial,hw.aS⟩
 ·all_goals try (exfalso;omega)
  all_goals (refine Qi ?_;refine aA ?_;refine rS ?_;refine S9 ?_;refine J1 ?_)
  all_goals
   refine aU Tryz.results35 (λ w hw=>?_)
   first|(exfalso;omega)|exact⟨(),by rw[pU (by omega)];rfl,trivial,hw.aS⟩|exact⟨(),by rw[pC (by omega)];rfl,trivial,hw.aS⟩
theorem lb(hs:SF w D [(b,aO L cs gen acc pn cn pc cc)] A [] (mW L cs pn cn pc cc) w)(c:Int)(bF new:Int)(hc:c<1):Calls Tryz.prog 279 #[.pointer (some ⟨b,0,none⟩),.int .i64 c,.int .i64 bF,.int .i64 new] w λ e w'=>∃r:Bool,e=.returned (.bool r)/\(r=true↔kR cs c bF)/\SF w D [(b,aO L (fG cs c bF new) gen (up acc) pn cn pc cc)] [] [] (mW L (fG cs c bF new) pn cn pc cc) w':=by
 refine enter Tryz.func279 Tryz.ntmps279 rfl rfl (yB hs) ?_
 simp only[cN]
 all_goals (refine dC ?_;refine kY ?_;refine aB (pR rf rf) rfl ?_;refine D5 ?_;refine Dz ?_;refine aC (cM (hc:=λ w hs=>Lr hs c)) (λ x18 h18=>?_);refine Hp ?_)
 all_goals ((refine fS 20 (λ g20=>?_) (λ g20=>?_)<;>(try (exfalso;omega))<;>(refine aN ?_)))
 all_goals ((refine aN ?_);refine J6 ?_;refine J68 ?_;(refine aN ?_);refine jb ?_;refine Sj ?_;refine aH ?_)
 all_goals
 refine bG (λ c31=>?_) (λ c31=>?_)
 ·all_goals try (exfalso;omega)
  all_goals refine dC ?_
  all_goals
   refine aU Tryz.results279 (λ w hw=>?_)
   first|(exfalso;omega)|exact⟨false,rfl,Yw hc,by rw[Tk hc];exact hw.aS⟩
 ·exact nv c31
theorem Yu(hs:SF w D [(b,aO L cs gen acc pn cn pc cc)] A [] (mW L cs pn cn pc cc) w){k:Nat}(hk:(k:Int)<9223372036854775807)(hl:cs.length<=274877906944):Calls Tryz.prog 35 #[.pointer (some ⟨b,0,none⟩),.int .i64 ((k+1:Nat):Int)] w λ e w'=>∃q:Unit,e=.returned (.int .i64 (dA cs ((k+1:Nat):Int)))/\True/\SF w D [(b,aO L cs gen (up acc) pn cn pc cc)] [] [] (mW L cs pn cn pc cc) w':=by
 refine enter Tryz.func35 Tryz.ntmps35 rfl rfl (yB hs) ?_
 simp only[cN]
 all_goals (refine dC ?_;refine kY ?_;refine aB (pR rf rf) rfl ?_;refine D5 ?_;refine Dz ?_;refine aC (cM (hc:=λ w hs=>Lr hs ((k+1:Nat):Int))) (λ x14 h14=>?_);refine qT ?_)
 all_goals
 refine bG (λ c15=>?_) (λ c15=>?_)
 ·all_goals try (exfalso;omega)
  all_goals refine dC ?_
  all_goals
   refine aU Tryz.results35 (λ w hw=>?_)
   first|(exfalso;omega)|exact⟨(),by rw[pU (by omega)];rfl,trivial,hw.aS⟩|exact⟨(),by rw[pC (by omega)];rfl,trivial,hw.aS⟩
 ·all_goals try (exfalso;omega)
  all_goals (refine Qi ?_;refine aA ?_;refine rS ?_;refine S9 ?_;refine J1 ?_)
  all_goals
   refine aU Tryz.results35 (λ w hw=>?_)
   first|(exfalso;omega)|exact⟨(),by rw[pU (by omega)];rfl,trivial,hw.aS⟩|exact⟨(),by rw[pC (by omega)];rfl,trivial,hw.aS⟩
theorem pj(hs:SF w D [(b,aO L cs gen acc pn cn pc cc)] A [] (mW L cs pn cn pc cc) w){k:Nat}(hk:(k:Int)<9223372036854775807)(bF new:Int)(hl:cs.length<=274877906944):Calls Tryz.prog 279 #[.pointer (some ⟨b,0,none⟩),.int .i64 ((k+1:Nat):Int),.int .i64 bF,.int .i64 new] w λ e w'=>∃r:Bool,e=.returned (.bool r)/\(r=true↔kR cs ((k+1:Nat):Int) bF)/\SF w D [(b,aO L (fG cs ((k+1:Nat):Int) bF new) gen (up acc) pn cn pc cc)] [] [] (mW L (fG cs ((k+1:Nat):Int) bF new) pn cn pc cc) w':=by
 refine enter Tryz.func279 Tryz.ntmps279 rfl rfl (yB hs) ?_
 simp only[cN]
 all_goals (refine dC ?_;refine kY ?_;refine aB (pR rf rf) rfl ?_;refine D5 ?_;refine Dz ?_;refine aC (cM (hc:=λ w hs=>Lr hs ((k+1:Nat):Int))) (λ x18 h18=>?_);refine Hp ?_)
 all_goals ((refine fS 20 (λ g20=>?_) (λ g20=>?_)<;>(try (exfalso;omega))<;>(first|refine aN ?_|(refine aF ?_;refine aA ?_))))
 all_goals ((first|refine aN ?_|(refine aF ?_;refine dZ ?_));refine J6 ?_;refine J68 ?_;(first|refine aN ?_|(refine aF ?_;refine hX ?_));refine jb ?_;refine Sj ?_;refine aH ?_)
 all_goals
 refine bG (λ c31=>?_) (λ c31=>?_)
 ·all_goals try (exfalso;omega)
  all_goals refine dC ?_
  all_goals
   refine aU Tryz.results279 (λ w hw=>?_)
   first|(exfalso;omega)|exact⟨false,rfl,Kb (by omega),by rw[D3 (by omega)];exact hw.aS⟩|exact⟨false,rfl,Kg (by simpa using c31),by rw[Dt (by simpa using c31)];exact hw.aS⟩|exact⟨true,rfl,Ke (by omega) (by simpa using c31),by rw[D1 (by omega) (by simpa using c31)];simpa[mW,aO,mO] using hw.aS (F':=[])⟩
 ·try exact nv c31
  all_goals try (exfalso;omega)
  all_goals (refine Qi ?_;refine aA ?_;refine rS ?_;refine aA ?_;refine hX ?_;refine J5 ?_;refine dC ?_)
  all_goals
   refine aU Tryz.results279 (λ w hw=>?_)
   first|(exfalso;omega)|exact⟨false,rfl,Kb (by omega),by rw[D3 (by omega)];exact hw.aS⟩|exact⟨false,rfl,Kg (by simpa using c31),by rw[Dt (by simpa using c31)];exact hw.aS⟩|exact⟨true,rfl,Ke (by omega) (by simpa using c31),by rw[D1 (by omega) (by simpa using c31)];simpa[mW,aO,mO] using hw.aS (F':=[])⟩
theorem S3(hs:SF w D [(b,aO L cs gen acc pn cn pc cc)] A [] (mW L cs pn cn pc cc) w)(c:Int)(hc:c<=9223372036854775807)(hl:cs.length<=274877906944):Calls Tryz.prog 35 #[.pointer (some ⟨b,0,none⟩),.int .i64 c] w λ e w'=>∃q:Unit,e=.returned (.int .i64 (dA cs c))/\True/\SF w D [(b,aO L cs gen (up acc) pn cn pc cc)] [] [] (mW L cs pn cn pc cc) w':=by
 rcases Int.lt_or_le c 1 with h|h
 ·exact X1 hs c h
 ·obtain⟨k,rfl⟩:∃k:Nat,c=((k+1:Nat):Int):=⟨(c-1).toNat,by omega⟩
  exact Yu hs (by omega) hl
theorem sd(hs:SF w D [(b,aO L cs gen acc pn cn pc cc)] A [] (mW L cs pn cn pc cc) w)(c bF new:Int)(hc:c<=9223372036854775807)(hl:cs.length<=274877906944):Calls Tryz.prog 279 #[.pointer (some ⟨b,0,none⟩),.int .i64 c,.int .i64 bF,.int .i64 new] w λ e w'=>∃r:Bool,e=.returned (.bool r)/\(r=true↔kR cs c bF)/\SF w D [(b,aO L (fG cs c bF new) gen (up acc) pn cn pc cc)] [] [] (mW L (fG cs c bF new) pn cn pc cc) w':=by
 rcases Int.lt_or_le c 1 with h|h
 ·exact lb hs c bF new h
 ·obtain⟨k,rfl⟩:∃k:Nat,c=((k+1:Nat):Int):=⟨(c-1).toNat,by omega⟩
  exact pj hs (by omega) bF new hl
end

/- Loops over slices that are read: contracts. -/
section
open Go.RowKit Go.Ct
theorem Cm{α} [BEq α] [LawfulBEq α] {xs ys:List α}{k:Nat}(h:xs.length=ys.length)(hk:¬k<xs.length)(ht:xs.take k=ys.take k):(xs==ys)=true:=by
 rw[List.take_of_length_le (by omega),List.take_of_length_le (by omega)] at ht
 simp[ht]
theorem Gq{α} [BEq α] [LawfulBEq α] {xs ys:List α}(h:xs.length≠ys.length):(xs==ys)=false:=by
 simp only[beq_eq_false_iff_ne,ne_eq]
 intro e;rw[e] at h;exact h rfl
theorem F4{α} [BEq α] [LawfulBEq α] {xs ys:List α}{k:Nat}{d:α}(h:xs.getD k d≠ys.getD k d):(xs==ys)=false:=by
 simp only[beq_eq_false_iff_ne,ne_eq]
 intro e;rw[e] at h;exact h rfl
theorem C4{α} [DecidableEq α] {xs ys:List α}{k:Nat}(h:xs.length=ys.length)(hk:¬k<xs.length)(ht:xs.take k=ys.take k):decide (xs=ys)=true:=by
 rw[List.take_of_length_le (by omega),List.take_of_length_le (by omega)] at ht
 simp[ht]
theorem E4{α} [DecidableEq α] {xs ys:List α}(h:xs.length≠ys.length):decide (xs=ys)=false:=decide_eq_false λ e=>h (by rw[e])
theorem Fe{α} [DecidableEq α] {xs ys:List α}{k:Nat}{d:α}(h:xs.getD k d≠ys.getD k d):decide (xs=ys)=false:=decide_eq_false λ e=>h (by rw[e])
theorem wK{α}{xs ys:List α}{k:Nat}{d:α}(h:xs.take k=ys.take k)(hk:k<xs.length)(hl:xs.length=ys.length)(he:xs.getD k d=ys.getD k d):xs.take (k+1)=ys.take (k+1):=by
 rw[List.take_add_one,List.take_add_one,h,List.getElem?_eq_getElem hk,List.getElem?_eq_getElem (hl▸hk)]
 simp only[List.getD,List.getElem?_eq_getElem hk,List.getElem?_eq_getElem (hl▸hk:k<ys.length),Option.getD_some] at he
 rw[he]
theorem bs{xs ys:List Int}{a b:Option Addr}{ca cb:Nat}{w:World}(ha:Cl w a (aG xs))(hb:Cl w b (aG ys))(hx:xs.length<4611686018427387904) :
  Calls Tryz.prog 112 #[.slice a xs.length ca,.slice b ys.length cb] w λ e w'=>e=.returned (.bool (xs==ys))/\St w [] [] w':=by
 refine enter Tryz.func112 Tryz.ntmps112 rfl rfl (SF.s2 ha hb) ?_
 simp only[cN]
 all_goals (refine dC ?_;refine lW ?_;refine eH ?_;refine aA ?_;refine eH ?_;refine pP ?_;refine aH ?_)
 all_goals
 refine bG (λ c10=>?_) (λ c10=>?_)
 ·all_goals refine dC ?_
  all_goals
   refine aU Tryz.results112 (λ w hw=>?_)
   exact⟨by rw[Gq (by omega)];rfl,hw.done⟩
 ·all_goals (refine lG ?_;refine Hu ?_)
  all_goals
   refine fZ [4,5,11,12,13,14,15,16,17,18,19,20,21,22,23,24,25] (λ k=>[(5,.int .i64 ((k:Nat):Int))]) (λ k=>k<=xs.length/\xs.take k=ys.take k) (λ k=>xs.length-k) (0) (⟨Nat.zero_le _,by simp⟩) ?_ (λ k f hx=>?_)
   ·repeat (first|exact bK _|refine bC (by first|exact rfl|(conv=>{lhs;whnf};simp;done)) ?_)
   dsimp only[iL,List.map,List.cons_append,List.nil_append]
   all_goals (refine Dz ?_;refine eH ?_;refine yQ ?_)
   all_goals
   refine bG (λ c14=>?_) (λ c14=>?_)
   ·all_goals (refine qD ?_;refine aW ?_;refine fL [0,1,2,3,4,5,6,7,8] ?_;refine iP ?_;refine Hq ?_;refine iP ?_;refine Hq ?_;refine Ph ?_;refine eC ?_)
    all_goals
     refine bG (λ c25=>?_) (λ c25=>?_)
     ·all_goals refine dC ?_
      all_goals
      refine aU Tryz.results112 (λ w hw=>?_)
      exact⟨by rw[F4 c25];rfl,hw.done⟩
     ·all_goals (refine oD ?_;refine zL ?_)
      all_goals
      refine eU (k+1) ?_ ?_ ?_
      ·first|omega|(simp only[];omega)
      ·repeat' (first|exact bK _|refine bC ?_ ?_)
       all_goals (first|exact rfl|(conv=>{lhs;whnf};simp;done)|(conv=>{lhs;whnf};congr 1;omega))
      ·exact⟨by omega,wK hx.2 (by omega) (by omega) c25⟩
   ·all_goals (refine bV rfl ?_;refine dC ?_)
    all_goals
     refine aU Tryz.results112 (λ w hw=>?_)
     exact⟨by rw[Cm (k:=k) (by omega) (by omega) hx.2];rfl,hw.done⟩
theorem yf{xs ys:List Pr}{a b:Option Addr}{ca cb:Nat}{w:World}(ha:Cl w a (dW xs))(hb:Cl w b (dW ys))(hx:xs.length<4611686018427387904) :
  Calls Tryz.prog 155 #[.slice a xs.length ca,.slice b ys.length cb] w λ e w'=>e=.returned (.bool (decide (xs=ys)))/\St w [] [] w':=by
 refine enter Tryz.func155 Tryz.ntmps155 rfl rfl (SF.s2 ha hb) ?_
 simp only[cN]
 all_goals (refine dC ?_;refine lW ?_;refine eH ?_;refine aA ?_;refine eH ?_;refine pP ?_;refine aH ?_)
 all_goals
 refine bG (λ c10=>?_) (λ c10=>?_)
 ·all_goals refine dC ?_
  all_goals
   refine aU Tryz.results155 (λ w hw=>?_)
   exact⟨by rw[E4 (by omega)];rfl,hw.done⟩
 ·all_goals (refine lG ?_;refine Hu ?_)
  all_goals
   refine fZ [4,5,11,12,13,14,15,16,17,18,19,20,21,22,23,24,25] (λ k=>[(5,.int .i64 ((k:Nat):Int))]) (λ k=>k<=xs.length/\xs.take k=ys.take k) (λ k=>xs.length-k) (0) (⟨Nat.zero_le _,by simp⟩) ?_ (λ k f hx=>?_)
   ·repeat (first|exact bK _|refine bC (by first|exact rfl|(conv=>{lhs;whnf};simp;done)) ?_)
   dsimp only[iL,List.map,List.cons_append,List.nil_append]
   all_goals (refine Dz ?_;refine eH ?_;refine yQ ?_)
   all_goals
   refine bG (λ c14=>?_) (λ c14=>?_)
   ·all_goals (refine qD ?_;refine aW ?_;refine fL [0,1,2,3,4,5,6,7,8] ?_;refine iP ?_;refine Hq ?_;refine iP ?_;refine Hq ?_;refine Ua ?_;refine eC ?_)
    all_goals
     refine bG (λ c25=>?_) (λ c25=>?_)
     ·all_goals refine dC ?_
      all_goals
      refine aU Tryz.results155 (λ w hw=>?_)
      exact⟨by rw[Fe λ h=>c25 ⟨congrArg Prod.fst h,congrArg Prod.snd h⟩];rfl,hw.done⟩
     ·all_goals (refine oD ?_;refine zL ?_)
      all_goals
      refine eU (k+1) ?_ ?_ ?_
      ·first|omega|(simp only[];omega)
      ·repeat' (first|exact bK _|refine bC ?_ ?_)
       all_goals (first|exact rfl|(conv=>{lhs;whnf};simp;done)|(conv=>{lhs;whnf};congr 1;omega))
      ·exact⟨by omega,wK hx.2 (by omega) (by omega) (Prod.ext c25.1 c25.2)⟩
   ·all_goals (refine bV rfl ?_;refine dC ?_)
    all_goals
     refine aU Tryz.results155 (λ w hw=>?_)
     exact⟨by rw[C4 (k:=k) (by omega) (by omega) hx.2];rfl,hw.done⟩
theorem kw{xs ys:List Int}{a b:Option Addr}{ca cb:Nat}{w:World}(ha:Cl w a (aG xs))(hb:Cl w b (aG ys))(hx:xs.length<4611686018427387904) :
  Calls Tryz.prog 236 #[.slice a xs.length ca,.slice b ys.length cb] w λ e w'=>e=.returned (.bool (xs==ys))/\St w [] [] w':=by
 refine enter Tryz.func236 Tryz.ntmps236 rfl rfl (SF.s2 ha hb) ?_
 simp only[cN]
 all_goals (refine dC ?_;refine lW ?_;refine eH ?_;refine aA ?_;refine eH ?_;refine pP ?_;refine aH ?_)
 all_goals
 refine bG (λ c10=>?_) (λ c10=>?_)
 ·all_goals refine dC ?_
  all_goals
   refine aU Tryz.results236 (λ w hw=>?_)
   exact⟨by rw[Gq (by omega)];rfl,hw.done⟩
 ·all_goals (refine lG ?_;refine J2 ?_;refine eH ?_;refine B5 ?_;refine dE ?_)
  all_goals
   refine fZ [4,5,13,14,15,16,17,18,19,20,21,22,23,24,25] (λ k=>[(13,.int .i64 ((k:Nat):Int))]) (λ k=>k<=xs.length/\xs.take k=ys.take k) (λ k=>xs.length-k) (0) (⟨Nat.zero_le _,by simp⟩) ?_ (λ k f hx=>?_)
   ·repeat (first|exact bK _|refine bC (by first|exact rfl|(conv=>{lhs;whnf};simp;done)) ?_)
   dsimp only[iL,List.map,List.cons_append,List.nil_append]
   all_goals (refine J0 ?_;refine yQ ?_;refine aW ?_)
   all_goals
   refine bG (λ c14=>?_) (λ c14=>?_)
   ·all_goals (refine qD ?_;refine J2 ?_;refine jM ?_;refine fL [0,1,2,3,4,5,6,7,8] ?_;refine iP ?_;refine Hq ?_;refine iP ?_;refine Hq ?_;refine Ph ?_;refine eC ?_)
    all_goals
     refine bG (λ c24=>?_) (λ c24=>?_)
     ·all_goals refine dC ?_
      all_goals
      refine aU Tryz.results236 (λ w hw=>?_)
      exact⟨by rw[F4 c24];rfl,hw.done⟩
     ·all_goals (refine oD ?_;refine Ss ?_;refine B5 ?_)
      all_goals
      refine eU (k+1) ?_ ?_ ?_
      ·first|omega|(simp only[];omega)
      ·repeat' (first|exact bK _|refine bC ?_ ?_)
       all_goals (first|exact rfl|(conv=>{lhs;whnf};simp;done)|(conv=>{lhs;whnf};congr 1;omega))
      ·exact⟨by omega,wK hx.2 (by omega) (by omega) c24⟩
   ·all_goals (refine bV rfl ?_;refine dC ?_)
    all_goals
     refine aU Tryz.results236 (λ w hw=>?_)
     exact⟨by rw[Cm (k:=k) (by omega) (by omega) hx.2];rfl,hw.done⟩
theorem vv{xs ys:List Pr}{a b:Option Addr}{ca cb:Nat}{w:World}(ha:Cl w a (dW xs))(hb:Cl w b (dW ys))(hx:xs.length<4611686018427387904) :
  Calls Tryz.prog 237 #[.slice a xs.length ca,.slice b ys.length cb] w λ e w'=>e=.returned (.bool (decide (xs=ys)))/\St w [] [] w':=by
 refine enter Tryz.func237 Tryz.ntmps237 rfl rfl (SF.s2 ha hb) ?_
 simp only[cN]
 all_goals (refine dC ?_;refine lW ?_;refine eH ?_;refine aA ?_;refine eH ?_;refine pP ?_;refine aH ?_)
 all_goals
 refine bG (λ c10=>?_) (λ c10=>?_)
 ·all_goals refine dC ?_
  all_goals
   refine aU Tryz.results237 (λ w hw=>?_)
   exact⟨by rw[E4 (by omega)];rfl,hw.done⟩
 ·all_goals (refine lG ?_;refine J2 ?_;refine eH ?_;refine B5 ?_;refine dE ?_)
  all_goals
   refine fZ [4,5,13,14,15,16,17,18,19,20,21,22,23,24,25] (λ k=>[(13,.int .i64 ((k:Nat):Int))]) (λ k=>k<=xs.length/\xs.take k=ys.take k) (λ k=>xs.length-k) (0) (⟨Nat.zero_le _,by simp⟩) ?_ (λ k f hx=>?_)
   ·repeat (first|exact bK _|refine bC (by first|exact rfl|(conv=>{lhs;whnf};simp;done)) ?_)
   dsimp only[iL,List.map,List.cons_append,List.nil_append]
   all_goals (refine J0 ?_;refine yQ ?_;refine aW ?_)
   all_goals
   refine bG (λ c14=>?_) (λ c14=>?_)
   ·all_goals (refine qD ?_;refine J2 ?_;refine jM ?_;refine fL [0,1,2,3,4,5,6,7,8] ?_;refine iP ?_;refine Hq ?_;refine iP ?_;refine Hq ?_;refine Ua ?_;refine eC ?_)
    all_goals
     refine bG (λ c24=>?_) (λ c24=>?_)
     ·all_goals refine dC ?_
      all_goals
      refine aU Tryz.results237 (λ w hw=>?_)
      exact⟨by rw[Fe λ h=>c24 ⟨congrArg Prod.fst h,congrArg Prod.snd h⟩];rfl,hw.done⟩
     ·all_goals (refine oD ?_;refine Ss ?_;refine B5 ?_)
      all_goals
      refine eU (k+1) ?_ ?_ ?_
      ·first|omega|(simp only[];omega)
      ·repeat' (first|exact bK _|refine bC ?_ ?_)
       all_goals (first|exact rfl|(conv=>{lhs;whnf};simp;done)|(conv=>{lhs;whnf};congr 1;omega))
      ·exact⟨by omega,wK hx.2 (by omega) (by omega) (Prod.ext c24.1 c24.2)⟩
   ·all_goals (refine bV rfl ?_;refine dC ?_)
    all_goals
     refine aU Tryz.results237 (λ w hw=>?_)
     exact⟨by rw[C4 (k:=k) (by omega) (by omega) hx.2];rfl,hw.done⟩
end

end Go.Proofs.YtbajmaoegmbfgaaGreat
