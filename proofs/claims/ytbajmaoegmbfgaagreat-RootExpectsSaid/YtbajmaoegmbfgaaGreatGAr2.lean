/- The small methods of the two memories: generations, loads, compare-and-swaps. -/
import Derived.Test.YtbajmaoegmbfgaaGreatGJoin
import Derived.Test.YtbajmaoegmbfgaaGreatGMem
import Derived.Test.YtbajmaoegmbfgaaGreatAuto

set_option linter.unusedSimpArgs false
set_option linter.unusedVariables false
namespace Go.Ct
section
def aQ(cs:List Int)(c:Int):Int:=if 1<=c/\c<=cs.length then cs.getD (c-1).toNat 0 else 0
def fW(cs:List Int)(c aZ:Int):Prop:=1<=c/\c<=cs.length/\cs.getD (c-1).toNat 0=aZ
def dZ(cs:List Int)(c aZ new:Int):List Int:=if 1<=c/\c<=cs.length/\cs.getD (c-1).toNat 0=aZ then cs.set (c-1).toNat new else cs
def up(i:Int):Int:=Go.IntKind.i64.wrap (i+1)
theorem rV{cs:List Int}{c:Int}(h:¬(1<=c/\c<=cs.length)):aQ cs c=0:=if_neg h
theorem E5{cs:List Int}{k:Nat}(h:k<cs.length):aQ cs ((k+1:Nat):Int)=cs.getD k 0:=by
 unfold aQ
 rw[if_pos (by omega),show(((k+1:Nat):Int)-1).toNat=k by omega]
theorem tM{cs:List Int}{c aZ new:Int}(h:¬(1<=c/\c<=cs.length/\cs.getD (c-1).toNat 0=aZ)):dZ cs c aZ new=cs:=if_neg h
theorem Vb{cs:List Int}{k:Nat}{aZ new:Int}(h:k<cs.length)(ho:cs.getD k 0=aZ):dZ cs ((k+1:Nat):Int) aZ new=cs.set k new:=by
 have e:(((k+1:Nat):Int)-1).toNat=k:=by omega
 unfold dZ
 rw[e,if_pos ⟨by omega,by omega,ho⟩]
theorem bs{cs:List Int}{c aZ:Int}(h:c<1):(false=true↔fW cs c aZ):=⟨(λ h=>nomatch h),λ h2=>absurd h2.1 (by omega)⟩
theorem Vi{cs:List Int}{c aZ new:Int}(h:c<1):dZ cs c aZ new=cs:=tM (by omega)
theorem a8{cs:List Int}{c aZ:Int}(h:(cs.length:Int)<c):(false=true↔fW cs c aZ):=⟨(λ h=>nomatch h),λ h2=>absurd h2.2.1 (by omega)⟩
theorem Te{cs:List Int}{c aZ new:Int}(h:(cs.length:Int)<c):dZ cs c aZ new=cs:=tM (by omega)
theorem Y9{cs:List Int}{k:Nat}{aZ:Int}(h:cs.getD k 0≠aZ):(false=true↔fW cs ((k+1:Nat):Int) aZ):=⟨(λ h=>nomatch h),λ h2=>absurd (by have:=h2.2.2;rwa [show(((k+1:Nat):Int)-1).toNat=k by omega] at this) h⟩
theorem Vk{cs:List Int}{k:Nat}{aZ new:Int}(h:cs.getD k 0≠aZ):dZ cs ((k+1:Nat):Int) aZ new=cs:=tM λ h2=>absurd (by have:=h2.2.2;rwa [show(((k+1:Nat):Int)-1).toNat=k by omega] at this) h
theorem X5{cs:List Int}{k:Nat}{aZ:Int}(hk:k<cs.length)(h:cs.getD k 0=aZ):(true=true↔fW cs ((k+1:Nat):Int) aZ):=⟨λ _=>⟨by omega,by omega,by rw[show(((k+1:Nat):Int)-1).toNat=k by omega];exact h⟩,λ _=>rfl⟩
theorem eI{cs:List Int}{c aZ new:Int}:(dZ cs c aZ new).length=cs.length:=by unfold dZ;split<;>simp
end
end Go.Ct
namespace Go.Proofs.YtbajmaoegmbfgaaGreat
section
open Go.RowKit Go.Ct
variable{w:World}{D:List Nat}{b:Nat}{L:List aU}{cs:List Int}{gen acc:Int}{pn pc:Option Addr}{cn cc:Nat}{A:Fr}
theorem I2(hs:SF w D [(b,mO L cs gen acc pn cn pc cc)] A [] (mW L cs pn cn pc cc) w):Calls Tryz.prog 100 #[.pointer (some ⟨b,0,none⟩)] w λ e w'=>∃q:Unit,e=.returned (.int .i64 (up gen))/\True/\SF w D [(b,mO L cs (up gen) acc pn cn pc cc)] [] [] (mW L cs pn cn pc cc) w':=by
 refine enter Tryz.func100 Tryz.ntmps100 rfl rfl (yC hs) ?_
 simp only[cD]
 refine cU ?_;refine Hw ?_;refine J3 ?_;refine aB (nC rf rf) rfl ?_;refine I7 ?_;refine vK ?_;refine Hw ?_;refine J3 ?_;refine J1 ?_
 refine aN Tryz.results100 (λ w hw=>?_)
 exact⟨(),rfl,trivial,by simpa[mO,mW] using hw.aW (F':=[])⟩
theorem Z8(hs:SF w D [(b,mO L cs gen acc pn cn pc cc)] A [] (mW L cs pn cn pc cc) w)(c:Int)(hc:c<1):Calls Tryz.prog 241 #[.pointer (some ⟨b,0,none⟩),.int .i64 c] w λ e w'=>∃q:Unit,e=.returned (.int .i64 (aQ cs c))/\True/\SF w D [(b,mO L cs gen (up acc) pn cn pc cc)] [] [] (mW L cs pn cn pc cc) w':=by
 refine enter Tryz.func241 Tryz.ntmps241 rfl rfl (yC hs) ?_
 simp only[cD]
 refine cU ?_;refine lD ?_;refine aB (nC rf rf) rfl ?_;refine K8 ?_;refine mD ?_;refine A9 ?_
 (refine eC 14 (λ g14=>?_) (λ g14=>?_)<;>(try (exfalso;omega))<;>(refine aI ?_))
 refine yg ?_;refine Rn ?_;refine Ka7 ?_
 refine bC (λ c23=>?_) (λ c23=>?_)
 ·try (exfalso;omega)
  refine cU ?_
  refine aN Tryz.results241 (λ w hw=>?_)
  (exact⟨(),by rw[rV (by omega)];rfl,trivial,hw.aW⟩)
 ·exact nv c23
theorem mq(hs:SF w D [(b,mO L cs gen acc pn cn pc cc)] A [] (mW L cs pn cn pc cc) w)(c:Int)(aZ new:Int)(hc:c<1):Calls Tryz.prog 242 #[.pointer (some ⟨b,0,none⟩),.int .i64 c,.int .i64 aZ,.int .i64 new] w λ e w'=>∃r:Bool,e=.returned (.bool r)/\(r=true↔fW cs c aZ)/\SF w D [(b,mO L (dZ cs c aZ new) gen (up acc) pn cn pc cc)] [] [] (mW L (dZ cs c aZ new) pn cn pc cc) w':=by
 refine enter Tryz.func242 Tryz.ntmps242 rfl rfl (yC hs) ?_
 simp only[cD]
 refine cU ?_;refine lD ?_;refine aB (nC rf rf) rfl ?_;refine K8 ?_;refine mD ?_;refine A9 ?_
 (refine eC 18 (λ g18=>?_) (λ g18=>?_)<;>(try (exfalso;omega))<;>(refine aI ?_))
 refine yg ?_;refine Rn ?_;refine Bs ?_;refine aA ?_
 refine aI ?_
 refine J36 ?_;refine J6 ?_;refine J68 ?_;(refine aI ?_);refine Yy ?_;refine R9 ?_;refine aG ?_
 refine bC (λ c40=>?_) (λ c40=>?_)
 ·try (exfalso;omega)
  refine cU ?_
  refine aN Tryz.results242 (λ w hw=>?_)
  (exact⟨false,rfl,bs hc,by rw[Vi hc];exact hw.aW⟩)
 ·exact nv c40
theorem Zd(hs:SF w D [(b,mO L cs gen acc pn cn pc cc)] A [] (mW L cs pn cn pc cc) w){k:Nat}(hk:(k:Int)<9223372036854775807)(hl:cs.length<=274877906944):Calls Tryz.prog 241 #[.pointer (some ⟨b,0,none⟩),.int .i64 ((k+1:Nat):Int)] w λ e w'=>∃q:Unit,e=.returned (.int .i64 (aQ cs ((k+1:Nat):Int)))/\True/\SF w D [(b,mO L cs gen (up acc) pn cn pc cc)] [] [] (mW L cs pn cn pc cc) w':=by
 refine enter Tryz.func241 Tryz.ntmps241 rfl rfl (yC hs) ?_
 simp only[cD]
 refine cU ?_;refine lD ?_;refine aB (nC rf rf) rfl ?_;refine K8 ?_;refine mD ?_;refine A9 ?_
 (refine Ka3 ?_)
 refine yg ?_;refine Rn ?_;refine Ka7 ?_
 refine bC (λ c23=>?_) (λ c23=>?_)
 ·try (exfalso;omega)
  refine cU ?_
  refine aN Tryz.results241 (λ w hw=>?_)
  (exact⟨(),by rw[rV (by omega)];rfl,trivial,hw.aW⟩)
 ·try (exfalso;omega)
  refine aV ?_;refine Hw ?_;refine Kc1 ?_;refine rR ?_;refine P9 ?_;refine J1 ?_
  refine aN Tryz.results241 (λ w hw=>?_)
  (exact⟨(),by rw[E5 (by omega)];rfl,trivial,hw.aW⟩)
theorem me(hs:SF w D [(b,mO L cs gen acc pn cn pc cc)] A [] (mW L cs pn cn pc cc) w){k:Nat}(hk:(k:Int)<9223372036854775807)(aZ new:Int)(hl:cs.length<=274877906944):Calls Tryz.prog 242 #[.pointer (some ⟨b,0,none⟩),.int .i64 ((k+1:Nat):Int),.int .i64 aZ,.int .i64 new] w λ e w'=>∃r:Bool,e=.returned (.bool r)/\(r=true↔fW cs ((k+1:Nat):Int) aZ)/\SF w D [(b,mO L (dZ cs ((k+1:Nat):Int) aZ new) gen (up acc) pn cn pc cc)] [] [] (mW L (dZ cs ((k+1:Nat):Int) aZ new) pn cn pc cc) w':=by
 refine enter Tryz.func242 Tryz.ntmps242 rfl rfl (yC hs) ?_
 simp only[cD]
 refine cU ?_;refine lD ?_;refine aB (nC rf rf) rfl ?_;refine K8 ?_;refine mD ?_;refine A9 ?_
 (refine Ka3 ?_)
 refine yg ?_;refine Rn ?_;refine Bs ?_;refine aA ?_
 (refine eC 28 (λ g28=>?_) (λ g28=>?_)<;>refine Ka0 ?_)
 all_goals (refine J36 ?_;refine J6 ?_;refine J68 ?_;(first|refine aI ?_|(refine aF ?_;refine fS ?_));refine Yy ?_;refine R9 ?_;refine aG ?_)
 all_goals
 refine bC (λ c40=>?_) (λ c40=>?_)
 ·all_goals try (exfalso;omega)
  all_goals refine cU ?_
  all_goals
   refine aN Tryz.results242 (λ w hw=>?_)
   first|exact⟨false,rfl,a8 (by omega),by rw[Te (by omega)];exact hw.aW⟩|exact⟨false,rfl,Y9 (by simpa using c40),by rw[Vk (by simpa using c40)];exact hw.aW⟩ 
 ·try exact nv c40
  all_goals (refine aV ?_;refine Hw ?_;refine Kc1 ?_;refine rR ?_;refine aA ?_;refine fS ?_;refine J5 ?_;refine cU ?_)
  all_goals
   refine aN Tryz.results242 (λ w hw=>?_)
   (exact⟨true,rfl,X5 (by omega) (by simpa using c40),by rw[Vb (by omega) (by simpa using c40)];simpa[mW,aO,mO] using hw.aW (F':=[])⟩)
theorem qu(hs:SF w D [(b,mO L cs gen acc pn cn pc cc)] A [] (mW L cs pn cn pc cc) w)(c:Int)(hc:c<=9223372036854775807)(hl:cs.length<=274877906944):Calls Tryz.prog 241 #[.pointer (some ⟨b,0,none⟩),.int .i64 c] w λ e w'=>∃q:Unit,e=.returned (.int .i64 (aQ cs c))/\True/\SF w D [(b,mO L cs gen (up acc) pn cn pc cc)] [] [] (mW L cs pn cn pc cc) w':=by
 rcases Int.lt_or_le c 1 with h|h
 ·exact Z8 hs c h
 ·obtain⟨k,rfl⟩:∃k:Nat,c=((k+1:Nat):Int):=⟨(c-1).toNat,by omega⟩
  exact Zd hs (by omega) hl
theorem vf(hs:SF w D [(b,mO L cs gen acc pn cn pc cc)] A [] (mW L cs pn cn pc cc) w)(c aZ new:Int)(hc:c<=9223372036854775807)(hl:cs.length<=274877906944):Calls Tryz.prog 242 #[.pointer (some ⟨b,0,none⟩),.int .i64 c,.int .i64 aZ,.int .i64 new] w λ e w'=>∃r:Bool,e=.returned (.bool r)/\(r=true↔fW cs c aZ)/\SF w D [(b,mO L (dZ cs c aZ new) gen (up acc) pn cn pc cc)] [] [] (mW L (dZ cs c aZ new) pn cn pc cc) w':=by
 rcases Int.lt_or_le c 1 with h|h
 ·exact mq hs c aZ new h
 ·obtain⟨k,rfl⟩:∃k:Nat,c=((k+1:Nat):Int):=⟨(c-1).toNat,by omega⟩
  exact me hs (by omega) aZ new hl
theorem Xo(hs:SF w D [(b,aO L cs gen acc pn cn pc cc)] A [] (mW L cs pn cn pc cc) w):Calls Tryz.prog 47 #[.pointer (some ⟨b,0,none⟩)] w λ e w'=>∃q:Unit,e=.returned (.int .i64 (up gen))/\True/\SF w D [(b,aO L cs (up gen) acc pn cn pc cc)] [] [] (mW L cs pn cn pc cc) w':=by
 refine enter Tryz.func47 Tryz.ntmps47 rfl rfl (xX hs) ?_
 simp only[cD]
 refine cU ?_;refine lD ?_;refine aB (nC rf rf) rfl ?_;refine K8 ?_;refine lD ?_;refine J1 ?_
 refine aN Tryz.results47 (λ w hw=>?_)
 exact⟨(),rfl,trivial,by simpa[aO,mW] using hw.aW (F':=[])⟩
theorem Kc(hs:SF w D [(b,aO L cs gen acc pn cn pc cc)] A [] (mW L cs pn cn pc cc) w)(c:Int):Calls Tryz.prog 85 #[.pointer (some ⟨b,0,none⟩),.int .i64 c] w λ e w'=>∃q:Unit,e=.returned (.bool (decide (1<=c/\c<=(cs.length:Int))))/\True/\SF w D [(b,aO L cs gen acc pn cn pc cc)] [] [] (mW L cs pn cn pc cc) w':=by
 refine enter Tryz.func85 Tryz.ntmps85 rfl rfl (xX hs) ?_
 simp only[cD]
 refine Kc2 ?_;refine nW ?_;refine aA ?_
 (refine eC 7 (λ g7=>?_) (λ g7=>?_)<;>refine Ka0 ?_)
 all_goals (refine Ka0 ?_;refine Kb3 ?_;refine Rn ?_;(first|refine aI ?_|(refine aF ?_;refine An ?_));refine Kb6 ?_)
 all_goals
 refine aN Tryz.results85 (λ w hw=>?_)
 first|exact⟨(),by rw[decide_eq_false (show ¬(1<=c/\c<=(cs.length:Int)) by omega)];first|rfl|(rw[decide_eq_false (by omega)];rfl),trivial,hw.aW⟩|exact⟨(),by rw[show decide (1<=c/\c<=(cs.length:Int))=decide (c<=(cs.length:Int)) by simp;omega];rfl,trivial,hw.aW⟩
theorem Zs(hs:SF w D [(b,aO L cs gen acc pn cn pc cc)] A [] (mW L cs pn cn pc cc) w)(c:Int)(hc:c<1):Calls Tryz.prog 35 #[.pointer (some ⟨b,0,none⟩),.int .i64 c] w λ e w'=>∃q:Unit,e=.returned (.int .i64 (aQ cs c))/\True/\SF w D [(b,aO L cs gen (up acc) pn cn pc cc)] [] [] (mW L cs pn cn pc cc) w':=by
 refine enter Tryz.func35 Tryz.ntmps35 rfl rfl (xX hs) ?_
 simp only[cD]
 refine cU ?_;refine lD ?_;refine aB (nC rf rf) rfl ?_;refine K8 ?_;refine Cm ?_;refine aD (cM (hc:=λ w hs=>Kc hs c)) (λ x14 h14=>?_);refine pD ?_
 refine bC (λ c15=>?_) (λ c15=>?_)
 ·try (exfalso;omega)
  refine cU ?_
  refine aN Tryz.results35 (λ w hw=>?_)
  (exact⟨(),by rw[rV (by omega)];rfl,trivial,hw.aW⟩)
 ·try (exfalso;omega)
theorem qb(hs:SF w D [(b,aO L cs gen acc pn cn pc cc)] A [] (mW L cs pn cn pc cc) w)(c:Int)(aZ new:Int)(hc:c<1):Calls Tryz.prog 279 #[.pointer (some ⟨b,0,none⟩),.int .i64 c,.int .i64 aZ,.int .i64 new] w λ e w'=>∃r:Bool,e=.returned (.bool r)/\(r=true↔fW cs c aZ)/\SF w D [(b,aO L (dZ cs c aZ new) gen (up acc) pn cn pc cc)] [] [] (mW L (dZ cs c aZ new) pn cn pc cc) w':=by
 refine enter Tryz.func279 Tryz.ntmps279 rfl rfl (xX hs) ?_
 simp only[cD]
 refine cU ?_;refine lD ?_;refine aB (nC rf rf) rfl ?_;refine K8 ?_;refine Cm ?_;refine aD (cM (hc:=λ w hs=>Kc hs c)) (λ x18 h18=>?_);refine Et ?_
 (refine eC 20 (λ g20=>?_) (λ g20=>?_)<;>(try (exfalso;omega))<;>(refine aI ?_))
 (refine aI ?_);refine J6 ?_;refine J68 ?_;(refine aI ?_);refine Yy ?_;refine R9 ?_;refine aG ?_
 refine bC (λ c31=>?_) (λ c31=>?_)
 ·try (exfalso;omega)
  refine cU ?_
  refine aN Tryz.results279 (λ w hw=>?_)
  (exact⟨false,rfl,bs hc,by rw[Vi hc];exact hw.aW⟩)
 ·exact nv c31
theorem jw(hs:SF w D [(b,aO L cs gen acc pn cn pc cc)] A [] (mW L cs pn cn pc cc) w){k:Nat}(hk:(k:Int)<9223372036854775807)(hl:cs.length<=274877906944):Calls Tryz.prog 35 #[.pointer (some ⟨b,0,none⟩),.int .i64 ((k+1:Nat):Int)] w λ e w'=>∃q:Unit,e=.returned (.int .i64 (aQ cs ((k+1:Nat):Int)))/\True/\SF w D [(b,aO L cs gen (up acc) pn cn pc cc)] [] [] (mW L cs pn cn pc cc) w':=by
 refine enter Tryz.func35 Tryz.ntmps35 rfl rfl (xX hs) ?_
 simp only[cD]
 refine cU ?_;refine lD ?_;refine aB (nC rf rf) rfl ?_;refine K8 ?_;refine Cm ?_;refine aD (cM (hc:=λ w hs=>Kc hs ((k+1:Nat):Int))) (λ x14 h14=>?_);refine pD ?_
 refine bC (λ c15=>?_) (λ c15=>?_)
 ·try (exfalso;omega)
  refine cU ?_
  refine aN Tryz.results35 (λ w hw=>?_)
  (exact⟨(),by rw[rV (by omega)];rfl,trivial,hw.aW⟩)
 ·try (exfalso;omega)
  refine tg ?_;refine aA ?_;refine rR ?_;refine P9 ?_;refine J1 ?_
  refine aN Tryz.results35 (λ w hw=>?_)
  (exact⟨(),by rw[E5 (by omega)];rfl,trivial,hw.aW⟩)
theorem rh(hs:SF w D [(b,aO L cs gen acc pn cn pc cc)] A [] (mW L cs pn cn pc cc) w){k:Nat}(hk:(k:Int)<9223372036854775807)(aZ new:Int)(hl:cs.length<=274877906944):Calls Tryz.prog 279 #[.pointer (some ⟨b,0,none⟩),.int .i64 ((k+1:Nat):Int),.int .i64 aZ,.int .i64 new] w λ e w'=>∃r:Bool,e=.returned (.bool r)/\(r=true↔fW cs ((k+1:Nat):Int) aZ)/\SF w D [(b,aO L (dZ cs ((k+1:Nat):Int) aZ new) gen (up acc) pn cn pc cc)] [] [] (mW L (dZ cs ((k+1:Nat):Int) aZ new) pn cn pc cc) w':=by
 refine enter Tryz.func279 Tryz.ntmps279 rfl rfl (xX hs) ?_
 simp only[cD]
 refine cU ?_;refine lD ?_;refine aB (nC rf rf) rfl ?_;refine K8 ?_;refine Cm ?_;refine aD (cM (hc:=λ w hs=>Kc hs ((k+1:Nat):Int))) (λ x18 h18=>?_);refine Et ?_
 (refine eC 20 (λ g20=>?_) (λ g20=>?_)<;>refine Ka0 ?_)
 all_goals (refine Kb3 ?_;refine J6 ?_;refine J68 ?_;(first|refine aI ?_|(refine aF ?_;refine fS ?_));refine Yy ?_;refine R9 ?_;refine aG ?_)
 all_goals
 refine bC (λ c31=>?_) (λ c31=>?_)
 ·all_goals try (exfalso;omega)
  all_goals refine cU ?_
  all_goals
   refine aN Tryz.results279 (λ w hw=>?_)
   first|exact⟨false,rfl,a8 (by omega),by rw[Te (by omega)];exact hw.aW⟩|exact⟨false,rfl,Y9 (by simpa using c31),by rw[Vk (by simpa using c31)];exact hw.aW⟩ 
 ·try exact nv c31
  all_goals (refine tg ?_;refine aA ?_;refine rR ?_;refine aA ?_;refine fS ?_;refine J5 ?_;refine cU ?_)
  all_goals
   refine aN Tryz.results279 (λ w hw=>?_)
   (exact⟨true,rfl,X5 (by omega) (by simpa using c31),by rw[Vb (by omega) (by simpa using c31)];simpa[mW,aO,mO] using hw.aW (F':=[])⟩)
theorem D7(hs:SF w D [(b,aO L cs gen acc pn cn pc cc)] A [] (mW L cs pn cn pc cc) w)(c:Int)(hc:c<=9223372036854775807)(hl:cs.length<=274877906944):Calls Tryz.prog 35 #[.pointer (some ⟨b,0,none⟩),.int .i64 c] w λ e w'=>∃q:Unit,e=.returned (.int .i64 (aQ cs c))/\True/\SF w D [(b,aO L cs gen (up acc) pn cn pc cc)] [] [] (mW L cs pn cn pc cc) w':=by
 rcases Int.lt_or_le c 1 with h|h
 ·exact Zs hs c h
 ·obtain⟨k,rfl⟩:∃k:Nat,c=((k+1:Nat):Int):=⟨(c-1).toNat,by omega⟩
  exact jw hs (by omega) hl
theorem zj(hs:SF w D [(b,aO L cs gen acc pn cn pc cc)] A [] (mW L cs pn cn pc cc) w)(c aZ new:Int)(hc:c<=9223372036854775807)(hl:cs.length<=274877906944):Calls Tryz.prog 279 #[.pointer (some ⟨b,0,none⟩),.int .i64 c,.int .i64 aZ,.int .i64 new] w λ e w'=>∃r:Bool,e=.returned (.bool r)/\(r=true↔fW cs c aZ)/\SF w D [(b,aO L (dZ cs c aZ new) gen (up acc) pn cn pc cc)] [] [] (mW L (dZ cs c aZ new) pn cn pc cc) w':=by
 rcases Int.lt_or_le c 1 with h|h
 ·exact qb hs c aZ new h
 ·obtain⟨k,rfl⟩:∃k:Nat,c=((k+1:Nat):Int):=⟨(c-1).toNat,by omega⟩
  exact rh hs (by omega) aZ new hl
end

/- Accesses and results. -/
end Go.Proofs.YtbajmaoegmbfgaaGreat
namespace Go.Ct
section
open Go Go.RowKit
structure Ac where
 k:Int
 c:Int
 o:Int
 n:Int
structure Rs where
 err:Int
 found:Bool
 val:Int
 key:ByteArray
 fT:Int
 ref:Int
 root:Int
 ro:Bool
abbrev Ac.cells(a:Ac):List Value:=[.int .i64 a.k,.int .i64 a.c,.int .i64 a.o,.int .i64 a.n]
abbrev Rs.cells(r:Rs):List Value:=[.int .i64 r.err,.bool r.found,.int .u64 r.val,.string r.key,.int .i64 r.fT,.int .i64 r.ref,.int .i64 r.root,.bool r.ro]
abbrev Rs.zero:Rs:=⟨0,false,0,⟨#[]⟩,0,0,0,false⟩
abbrev Ac.zero:Ac:=⟨0,0,0,0⟩
end

/- Loops over slices that are read: contracts. -/
end Go.Ct
namespace Go.Proofs.YtbajmaoegmbfgaaGreat
section
open Go.RowKit Go.Ct
theorem Cs{α} [BEq α] [LawfulBEq α] {xs ys:List α}{k:Nat}(h:xs.length=ys.length)(hk:¬k<xs.length)(ht:xs.take k=ys.take k):(xs==ys)=true:=by
 rw[List.take_of_length_le (by omega),List.take_of_length_le (by omega)] at ht
 simp[ht]
theorem Ge{α} [BEq α] [LawfulBEq α] {xs ys:List α}(h:xs.length≠ys.length):(xs==ys)=false:=by
 simp only[beq_eq_false_iff_ne,ne_eq]
 intro e;rw[e] at h;exact h rfl
theorem Ff{α} [BEq α] [LawfulBEq α] {xs ys:List α}{k:Nat}{d:α}(h:xs.getD k d≠ys.getD k d):(xs==ys)=false:=by
 simp only[beq_eq_false_iff_ne,ne_eq]
 intro e;rw[e] at h;exact h rfl
theorem C1{α} [DecidableEq α] {xs ys:List α}{k:Nat}(h:xs.length=ys.length)(hk:¬k<xs.length)(ht:xs.take k=ys.take k):decide (xs=ys)=true:=by
 rw[List.take_of_length_le (by omega),List.take_of_length_le (by omega)] at ht
 simp[ht]
theorem Ga{α} [DecidableEq α] {xs ys:List α}(h:xs.length≠ys.length):decide (xs=ys)=false:=decide_eq_false λ e=>h (by rw[e])
theorem Fz{α} [DecidableEq α] {xs ys:List α}{k:Nat}{d:α}(h:xs.getD k d≠ys.getD k d):decide (xs=ys)=false:=decide_eq_false λ e=>h (by rw[e])
theorem xF{α}{xs ys:List α}{k:Nat}{d:α}(h:xs.take k=ys.take k)(hk:k<xs.length)(hl:xs.length=ys.length)(he:xs.getD k d=ys.getD k d):xs.take (k+1)=ys.take (k+1):=by
 rw[List.take_add_one,List.take_add_one,h,List.getElem?_eq_getElem hk,List.getElem?_eq_getElem (hl▸hk)]
 simp only[List.getD,List.getElem?_eq_getElem hk,List.getElem?_eq_getElem (hl▸hk:k<ys.length),Option.getD_some] at he
 rw[he]
theorem wg{xs ys:List Int}{a b:Option Addr}{ca cb:Nat}{w:World}(ha:Cl w a (aH xs))(hb:Cl w b (aH ys))(hx:xs.length<4611686018427387904) :
  Calls Tryz.prog 112 #[.slice a xs.length ca,.slice b ys.length cb] w λ e w'=>e=.returned (.bool (xs==ys))/\St w [] [] w':=by
 refine enter Tryz.func112 Tryz.ntmps112 rfl rfl (SF.s2 ha hb) ?_
 simp only[cD]
 refine Kb2 ?_;refine dY ?_;refine aA ?_;refine dY ?_;refine mH ?_;refine aG ?_
 refine bC (λ c10=>?_) (λ c10=>?_)
 ·refine cU ?_
  refine aN Tryz.results112 (λ w hw=>?_)
  exact⟨by rw[Ge (by omega)];rfl,hw.done⟩
 ·refine lI ?_;refine Ht ?_
  refine gI [4,5,11,12,13,14,15,16,17,18,19,20,21,22,23,24,25] (λ k=>[(5,.int .i64 ((k:Nat):Int))]) (λ k=>k<=xs.length/\xs.take k=ys.take k) (λ k=>xs.length-k) (0) (⟨Nat.zero_le _,by simp⟩) ?_ (λ k f hx=>?_)
  ·repeat (first|exact bQ _|refine bI (by exact rfl) ?_)
  dsimp only[gZ,List.map,List.cons_append,List.nil_append]
  refine Cm ?_;refine dY ?_;refine C5 ?_
  refine bC (λ c14=>?_) (λ c14=>?_)
  ·refine tB ?_;refine aR ?_;refine gE [0,1,2,3,4,5,6,7,8] ?_;refine gU ?_;refine U6 ?_;refine gU ?_;refine U6 ?_;refine aa ?_;refine eK ?_
   refine bC (λ c25=>?_) (λ c25=>?_)
   ·refine cU ?_
    refine aN Tryz.results112 (λ w hw=>?_)
    exact⟨by rw[Ff c25];rfl,hw.done⟩
   ·refine Kc6 ?_
    refine fA (k+1) ?_ ?_ ?_
    ·omega
    ·repeat' (first|exact bQ _|refine bI ?_ ?_)
     exact rfl
    ·exact⟨by omega,xF hx.2 (by omega) (by omega) c25⟩
  ·refine bS rfl ?_;refine cU ?_
   refine aN Tryz.results112 (λ w hw=>?_)
   exact⟨by rw[Cs (k:=k) (by omega) (by omega) hx.2];rfl,hw.done⟩
theorem aBu{xs ys:List Pr}{a b:Option Addr}{ca cb:Nat}{w:World}(ha:Cl w a (dD xs))(hb:Cl w b (dD ys))(hx:xs.length<4611686018427387904) :
  Calls Tryz.prog 155 #[.slice a xs.length ca,.slice b ys.length cb] w λ e w'=>e=.returned (.bool (decide (xs=ys)))/\St w [] [] w':=by
 refine enter Tryz.func155 Tryz.ntmps155 rfl rfl (SF.s2 ha hb) ?_
 simp only[cD]
 refine Kb2 ?_;refine dY ?_;refine aA ?_;refine dY ?_;refine mH ?_;refine aG ?_
 refine bC (λ c10=>?_) (λ c10=>?_)
 ·refine cU ?_
  refine aN Tryz.results155 (λ w hw=>?_)
  exact⟨by rw[Ga (by omega)];rfl,hw.done⟩
 ·refine lI ?_;refine Ht ?_
  refine gI [4,5,11,12,13,14,15,16,17,18,19,20,21,22,23,24,25] (λ k=>[(5,.int .i64 ((k:Nat):Int))]) (λ k=>k<=xs.length/\xs.take k=ys.take k) (λ k=>xs.length-k) (0) (⟨Nat.zero_le _,by simp⟩) ?_ (λ k f hx=>?_)
  ·repeat (first|exact bQ _|refine bI (by exact rfl) ?_)
  dsimp only[gZ,List.map,List.cons_append,List.nil_append]
  refine Cm ?_;refine dY ?_;refine C5 ?_
  refine bC (λ c14=>?_) (λ c14=>?_)
  ·refine tB ?_;refine aR ?_;refine gE [0,1,2,3,4,5,6,7,8] ?_;refine gU ?_;refine U6 ?_;refine gU ?_;refine U6 ?_;refine Tt ?_;refine eK ?_
   refine bC (λ c25=>?_) (λ c25=>?_)
   ·refine cU ?_
    refine aN Tryz.results155 (λ w hw=>?_)
    exact⟨by rw[Fz λ h=>c25 ⟨congrArg Prod.fst h,congrArg Prod.snd h⟩];rfl,hw.done⟩
   ·refine Kc6 ?_
    refine fA (k+1) ?_ ?_ ?_
    ·omega
    ·repeat' (first|exact bQ _|refine bI ?_ ?_)
     exact rfl
    ·exact⟨by omega,xF hx.2 (by omega) (by omega) (Prod.ext c25.1 c25.2)⟩
  ·refine bS rfl ?_;refine cU ?_
   refine aN Tryz.results155 (λ w hw=>?_)
   exact⟨by rw[C1 (k:=k) (by omega) (by omega) hx.2];rfl,hw.done⟩
theorem oh{xs ys:List Int}{a b:Option Addr}{ca cb:Nat}{w:World}(ha:Cl w a (aH xs))(hb:Cl w b (aH ys))(hx:xs.length<4611686018427387904) :
  Calls Tryz.prog 236 #[.slice a xs.length ca,.slice b ys.length cb] w λ e w'=>e=.returned (.bool (xs==ys))/\St w [] [] w':=by
 refine enter Tryz.func236 Tryz.ntmps236 rfl rfl (SF.s2 ha hb) ?_
 simp only[cD]
 refine Kb2 ?_;refine dY ?_;refine aA ?_;refine dY ?_;refine mH ?_;refine aG ?_
 refine bC (λ c10=>?_) (λ c10=>?_)
 ·refine cU ?_
  refine aN Tryz.results236 (λ w hw=>?_)
  exact⟨by rw[Ge (by omega)];rfl,hw.done⟩
 ·refine lI ?_;refine J2 ?_;refine dY ?_;refine Lw ?_;refine cY ?_
  refine gI [4,5,13,14,15,16,17,18,19,20,21,22,23,24,25] (λ k=>[(13,.int .i64 ((k:Nat):Int))]) (λ k=>k<=xs.length/\xs.take k=ys.take k) (λ k=>xs.length-k) (0) (⟨Nat.zero_le _,by simp⟩) ?_ (λ k f hx=>?_)
  ·repeat (first|exact bQ _|refine bI (by exact rfl) ?_)
  dsimp only[gZ,List.map,List.cons_append,List.nil_append]
  refine J0 ?_;refine C5 ?_;refine aR ?_
  refine bC (λ c14=>?_) (λ c14=>?_)
  ·refine tB ?_;refine J2 ?_;refine iW ?_;refine gE [0,1,2,3,4,5,6,7,8] ?_;refine gU ?_;refine U6 ?_;refine gU ?_;refine U6 ?_;refine aa ?_;refine eK ?_
   refine bC (λ c24=>?_) (λ c24=>?_)
   ·refine cU ?_
    refine aN Tryz.results236 (λ w hw=>?_)
    exact⟨by rw[Ff c24];rfl,hw.done⟩
   ·refine pE ?_;refine ki ?_;refine Lw ?_
    refine fA (k+1) ?_ ?_ ?_
    ·omega
    ·repeat' (first|exact bQ _|refine bI ?_ ?_)
     exact rfl
    ·exact⟨by omega,xF hx.2 (by omega) (by omega) c24⟩
  ·refine bS rfl ?_;refine cU ?_
   refine aN Tryz.results236 (λ w hw=>?_)
   exact⟨by rw[Cs (k:=k) (by omega) (by omega) hx.2];rfl,hw.done⟩
theorem vv{xs ys:List Pr}{a b:Option Addr}{ca cb:Nat}{w:World}(ha:Cl w a (dD xs))(hb:Cl w b (dD ys))(hx:xs.length<4611686018427387904) :
  Calls Tryz.prog 237 #[.slice a xs.length ca,.slice b ys.length cb] w λ e w'=>e=.returned (.bool (decide (xs=ys)))/\St w [] [] w':=by
 refine enter Tryz.func237 Tryz.ntmps237 rfl rfl (SF.s2 ha hb) ?_
 simp only[cD]
 refine Kb2 ?_;refine dY ?_;refine aA ?_;refine dY ?_;refine mH ?_;refine aG ?_
 refine bC (λ c10=>?_) (λ c10=>?_)
 ·refine cU ?_
  refine aN Tryz.results237 (λ w hw=>?_)
  exact⟨by rw[Ga (by omega)];rfl,hw.done⟩
 ·refine lI ?_;refine J2 ?_;refine dY ?_;refine Lw ?_;refine cY ?_
  refine gI [4,5,13,14,15,16,17,18,19,20,21,22,23,24,25] (λ k=>[(13,.int .i64 ((k:Nat):Int))]) (λ k=>k<=xs.length/\xs.take k=ys.take k) (λ k=>xs.length-k) (0) (⟨Nat.zero_le _,by simp⟩) ?_ (λ k f hx=>?_)
  ·repeat (first|exact bQ _|refine bI (by exact rfl) ?_)
  dsimp only[gZ,List.map,List.cons_append,List.nil_append]
  refine J0 ?_;refine C5 ?_;refine aR ?_
  refine bC (λ c14=>?_) (λ c14=>?_)
  ·refine tB ?_;refine J2 ?_;refine iW ?_;refine gE [0,1,2,3,4,5,6,7,8] ?_;refine gU ?_;refine U6 ?_;refine gU ?_;refine U6 ?_;refine Tt ?_;refine eK ?_
   refine bC (λ c24=>?_) (λ c24=>?_)
   ·refine cU ?_
    refine aN Tryz.results237 (λ w hw=>?_)
    exact⟨by rw[Fz λ h=>c24 ⟨congrArg Prod.fst h,congrArg Prod.snd h⟩];rfl,hw.done⟩
   ·refine pE ?_;refine ki ?_;refine Lw ?_
    refine fA (k+1) ?_ ?_ ?_
    ·omega
    ·repeat' (first|exact bQ _|refine bI ?_ ?_)
     exact rfl
    ·exact⟨by omega,xF hx.2 (by omega) (by omega) (Prod.ext c24.1 c24.2)⟩
  ·refine bS rfl ?_;refine cU ?_
   refine aN Tryz.results237 (λ w hw=>?_)
   exact⟨by rw[C1 (k:=k) (by omega) (by omega) hx.2];rfl,hw.done⟩
end

end Go.Proofs.YtbajmaoegmbfgaaGreat
