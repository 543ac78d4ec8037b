/- The small methods of the two memories: generations, loads, compare-and-swaps. -/
import Derived.Test.YtbajmaoegmbfgaaGreatGJoin
import Derived.Test.YtbajmaoegmbfgaaGreatGMem
import Derived.Test.YtbajmaoegmbfgaaGreatAuto

set_option linter.unusedSimpArgs false
set_option linter.unusedVariables false
namespace Go.Ct
section
def bU(cs:List Int)(c:Int):Int:=if 1<=c/\c<=cs.length then cs.getD (c-1).toNat 0 else 0
def jV(cs:List Int)(c bC:Int):Prop:=1<=c/\c<=cs.length/\cs.getD (c-1).toNat 0=bC
def eK(cs:List Int)(c bC new:Int):List Int:=if 1<=c/\c<=cs.length/\cs.getD (c-1).toNat 0=bC then cs.set (c-1).toNat new else cs
def up(i:Int):Int:=Go.IntKind.i64.wrap (i+1)
theorem qW{cs:List Int}{c:Int}(h:¬(1<=c/\c<=cs.length)):bU cs c=0:=if_neg h
theorem Gb{cs:List Int}{k:Nat}(h:k<cs.length):bU cs ((k+1:Nat):Int)=cs.getD k 0:=by
 unfold bU
 rw[if_pos (by omega),show(((k+1:Nat):Int)-1).toNat=k by omega]
theorem D7{cs:List Int}{c bC new:Int}(h:¬(1<=c/\c<=cs.length/\cs.getD (c-1).toNat 0=bC)):eK cs c bC new=cs:=if_neg h
theorem Th{cs:List Int}{k:Nat}{bC new:Int}(h:k<cs.length)(ho:cs.getD k 0=bC):eK cs ((k+1:Nat):Int) bC new=cs.set k new:=by
 have e:(((k+1:Nat):Int)-1).toNat=k:=by omega
 unfold eK
 rw[e,if_pos ⟨by omega,by omega,ho⟩]
theorem jz{cs:List Int}{c bC:Int}(h:c<1):(false=true↔jV cs c bC):=⟨(λ h=>nomatch h),λ h2=>absurd h2.1 (by omega)⟩
theorem Uh{cs:List Int}{c bC new:Int}(h:c<1):eK cs c bC new=cs:=D7 (by omega)
theorem Z4{cs:List Int}{c bC:Int}(h:(cs.length:Int)<c):(false=true↔jV cs c bC):=⟨(λ h=>nomatch h),λ h2=>absurd h2.2.1 (by omega)⟩
theorem Vh{cs:List Int}{c bC new:Int}(h:(cs.length:Int)<c):eK cs c bC new=cs:=D7 (by omega)
theorem gy{cs:List Int}{k:Nat}{bC:Int}(h:cs.getD k 0≠bC):(false=true↔jV cs ((k+1:Nat):Int) bC):=⟨(λ h=>nomatch h),λ h2=>absurd (by have:=h2.2.2;rwa [show(((k+1:Nat):Int)-1).toNat=k by omega] at this) h⟩
theorem Vs{cs:List Int}{k:Nat}{bC new:Int}(h:cs.getD k 0≠bC):eK cs ((k+1:Nat):Int) bC new=cs:=D7 λ h2=>absurd (by have:=h2.2.2;rwa [show(((k+1:Nat):Int)-1).toNat=k by omega] at this) h
theorem Yx{cs:List Int}{k:Nat}{bC:Int}(hk:k<cs.length)(h:cs.getD k 0=bC):(true=true↔jV cs ((k+1:Nat):Int) bC):=⟨λ _=>⟨by omega,by omega,by rw[show(((k+1:Nat):Int)-1).toNat=k by omega];exact h⟩,λ _=>rfl⟩
theorem gR{cs:List Int}{c bC new:Int}:(eK cs c bC new).length=cs.length:=by unfold eK;split<;>simp
end
end Go.Ct
namespace Go.Proofs.YtbajmaoegmbfgaaGreat
section
open Go.RowKit Go.Ct
variable{w:World}{D:List Nat}{b:Nat}{L:List aU}{cs:List Int}{gen acc:Int}{pn pc:Option Addr}{cn cc:Nat}{A:Fr}
theorem A8(hs:SF w D [(b,mO L cs gen acc pn cn pc cc)] A [] (mW L cs pn cn pc cc) w):Calls Tryz.prog 100 #[.pointer (some ⟨b,0,none⟩)] w λ e w'=>∃q:Unit,e=.returned (.int .i64 (up gen))/\True/\SF w D [(b,mO L cs (up gen) acc pn cn pc cc)] [] [] (mW L cs pn cn pc cc) w':=by
 refine enter Tryz.func100 Tryz.ntmps100 rfl rfl (xX hs) ?_
 simp only[bW]
 refine cP ?_;refine Ex ?_;refine J3 ?_;refine aB (mC rf rf) rfl ?_;refine Lg ?_;refine uL ?_;refine Ex ?_;refine J3 ?_;refine J1 ?_
 refine aQ Tryz.results100 (λ w hw=>?_)
 exact⟨(),rfl,trivial,by simpa[mO,mW] using hw.aS (F':=[])⟩
theorem bh(hs:SF w D [(b,mO L cs gen acc pn cn pc cc)] A [] (mW L cs pn cn pc cc) w)(c:Int)(hc:c<1):Calls Tryz.prog 241 #[.pointer (some ⟨b,0,none⟩),.int .i64 c] w λ e w'=>∃q:Unit,e=.returned (.int .i64 (bU cs c))/\True/\SF w D [(b,mO L cs gen (up acc) pn cn pc cc)] [] [] (mW L cs pn cn pc cc) w':=by
 refine enter Tryz.func241 Tryz.ntmps241 rfl rfl (xX hs) ?_
 simp only[bW]
 refine cP ?_;refine kK ?_;refine aB (mC rf rf) rfl ?_;refine Me ?_;refine lA ?_;refine B6 ?_
 (refine dZ 14 (λ g14=>?_) (λ g14=>?_)<;>(try (exfalso;omega))<;>(refine aI ?_))
 refine xg ?_;refine Qs ?_;refine B8 ?_;refine aH ?_
 refine bB (λ c23=>?_) (λ c23=>?_)
 ·try (exfalso;omega)
  refine cP ?_
  refine aQ Tryz.results241 (λ w hw=>?_)
  (exact⟨(),by rw[qW (by omega)];rfl,trivial,hw.aS⟩)
 ·exact nv c23
theorem lz(hs:SF w D [(b,mO L cs gen acc pn cn pc cc)] A [] (mW L cs pn cn pc cc) w)(c:Int)(bC new:Int)(hc:c<1):Calls Tryz.prog 242 #[.pointer (some ⟨b,0,none⟩),.int .i64 c,.int .i64 bC,.int .i64 new] w λ e w'=>∃r:Bool,e=.returned (.bool r)/\(r=true↔jV cs c bC)/\SF w D [(b,mO L (eK cs c bC new) gen (up acc) pn cn pc cc)] [] [] (mW L (eK cs c bC new) pn cn pc cc) w':=by
 refine enter Tryz.func242 Tryz.ntmps242 rfl rfl (xX hs) ?_
 simp only[bW]
 refine cP ?_;refine kK ?_;refine aB (mC rf rf) rfl ?_;refine Me ?_;refine lA ?_;refine B6 ?_
 (refine dZ 18 (λ g18=>?_) (λ g18=>?_)<;>(try (exfalso;omega))<;>(refine aI ?_))
 refine xg ?_;refine Qs ?_;refine B8 ?_;refine aA ?_
 refine aI ?_
 refine J36 ?_;refine J6 ?_;refine J68 ?_;(refine aI ?_);refine ar ?_;refine Nn ?_;refine aH ?_
 refine bB (λ c40=>?_) (λ c40=>?_)
 ·try (exfalso;omega)
  refine cP ?_
  refine aQ Tryz.results242 (λ w hw=>?_)
  (exact⟨false,rfl,jz hc,by rw[Uh hc];exact hw.aS⟩)
 ·exact nv c40
theorem dt(hs:SF w D [(b,mO L cs gen acc pn cn pc cc)] A [] (mW L cs pn cn pc cc) w){k:Nat}(hk:(k:Int)<9223372036854775807)(hl:cs.length<=274877906944):Calls Tryz.prog 241 #[.pointer (some ⟨b,0,none⟩),.int .i64 ((k+1:Nat):Int)] w λ e w'=>∃q:Unit,e=.returned (.int .i64 (bU cs ((k+1:Nat):Int)))/\True/\SF w D [(b,mO L cs gen (up acc) pn cn pc cc)] [] [] (mW L cs pn cn pc cc) w':=by
 refine enter Tryz.func241 Tryz.ntmps241 rfl rfl (xX hs) ?_
 simp only[bW]
 refine cP ?_;refine kK ?_;refine aB (mC rf rf) rfl ?_;refine Me ?_;refine lA ?_;refine B6 ?_
 (refine aF ?_;refine aA ?_)
 refine xg ?_;refine Qs ?_;refine B8 ?_;refine aH ?_
 refine bB (λ c23=>?_) (λ c23=>?_)
 ·try (exfalso;omega)
  refine cP ?_
  refine aQ Tryz.results241 (λ w hw=>?_)
  (exact⟨(),by rw[qW (by omega)];rfl,trivial,hw.aS⟩)
 ·try (exfalso;omega)
  refine aW ?_;refine Ex ?_;refine J3 ?_;refine aA ?_;refine rU ?_;refine P3 ?_;refine J1 ?_
  refine aQ Tryz.results241 (λ w hw=>?_)
  (exact⟨(),by rw[Gb (by omega)];rfl,trivial,hw.aS⟩)
theorem n7(hs:SF w D [(b,mO L cs gen acc pn cn pc cc)] A [] (mW L cs pn cn pc cc) w){k:Nat}(hk:(k:Int)<9223372036854775807)(bC new:Int)(hl:cs.length<=274877906944):Calls Tryz.prog 242 #[.pointer (some ⟨b,0,none⟩),.int .i64 ((k+1:Nat):Int),.int .i64 bC,.int .i64 new] w λ e w'=>∃r:Bool,e=.returned (.bool r)/\(r=true↔jV cs ((k+1:Nat):Int) bC)/\SF w D [(b,mO L (eK cs ((k+1:Nat):Int) bC new) gen (up acc) pn cn pc cc)] [] [] (mW L (eK cs ((k+1:Nat):Int) bC new) pn cn pc cc) w':=by
 refine enter Tryz.func242 Tryz.ntmps242 rfl rfl (xX hs) ?_
 simp only[bW]
 refine cP ?_;refine kK ?_;refine aB (mC rf rf) rfl ?_;refine Me ?_;refine lA ?_;refine B6 ?_
 (refine aF ?_;refine aA ?_)
 refine xg ?_;refine Qs ?_;refine B8 ?_;refine aA ?_
 (refine dZ 28 (λ g28=>?_) (λ g28=>?_)<;>(first|refine aI ?_|(refine aF ?_;refine aA ?_)))
 all_goals (refine J36 ?_;refine J6 ?_;refine J68 ?_;(first|refine aI ?_|(refine aF ?_;refine fV ?_));refine ar ?_;refine Nn ?_;refine aH ?_)
 all_goals
 refine bB (λ c40=>?_) (λ c40=>?_)
 ·all_goals try (exfalso;omega)
  all_goals refine cP ?_
  all_goals
   refine aQ Tryz.results242 (λ w hw=>?_)
   first|exact⟨false,rfl,Z4 (by omega),by rw[Vh (by omega)];exact hw.aS⟩|exact⟨false,rfl,gy (by simpa using c40),by rw[Vs (by simpa using c40)];exact hw.aS⟩ 
 ·try exact nv c40
  all_goals (refine aW ?_;refine Ex ?_;refine J3 ?_;refine aA ?_;refine rU ?_;refine aA ?_;refine fV ?_;refine J5 ?_;refine cP ?_)
  all_goals
   refine aQ Tryz.results242 (λ w hw=>?_)
   (exact⟨true,rfl,Yx (by omega) (by simpa using c40),by rw[Th (by omega) (by simpa using c40)];simpa[mW,aO,mO] using hw.aS (F':=[])⟩)
theorem qu(hs:SF w D [(b,mO L cs gen acc pn cn pc cc)] A [] (mW L cs pn cn pc cc) w)(c:Int)(hc:c<=9223372036854775807)(hl:cs.length<=274877906944):Calls Tryz.prog 241 #[.pointer (some ⟨b,0,none⟩),.int .i64 c] w λ e w'=>∃q:Unit,e=.returned (.int .i64 (bU cs c))/\True/\SF w D [(b,mO L cs gen (up acc) pn cn pc cc)] [] [] (mW L cs pn cn pc cc) w':=by
 rcases Int.lt_or_le c 1 with h|h
 ·exact bh hs c h
 ·obtain⟨k,rfl⟩:∃k:Nat,c=((k+1:Nat):Int):=⟨(c-1).toNat,by omega⟩
  exact dt hs (by omega) hl
theorem xo(hs:SF w D [(b,mO L cs gen acc pn cn pc cc)] A [] (mW L cs pn cn pc cc) w)(c bC new:Int)(hc:c<=9223372036854775807)(hl:cs.length<=274877906944):Calls Tryz.prog 242 #[.pointer (some ⟨b,0,none⟩),.int .i64 c,.int .i64 bC,.int .i64 new] w λ e w'=>∃r:Bool,e=.returned (.bool r)/\(r=true↔jV cs c bC)/\SF w D [(b,mO L (eK cs c bC new) gen (up acc) pn cn pc cc)] [] [] (mW L (eK cs c bC new) pn cn pc cc) w':=by
 rcases Int.lt_or_le c 1 with h|h
 ·exact lz hs c bC new h
 ·obtain⟨k,rfl⟩:∃k:Nat,c=((k+1:Nat):Int):=⟨(c-1).toNat,by omega⟩
  exact n7 hs (by omega) bC new hl
theorem Wj(hs:SF w D [(b,aO L cs gen acc pn cn pc cc)] A [] (mW L cs pn cn pc cc) w):Calls Tryz.prog 47 #[.pointer (some ⟨b,0,none⟩)] w λ e w'=>∃q:Unit,e=.returned (.int .i64 (up gen))/\True/\SF w D [(b,aO L cs (up gen) acc pn cn pc cc)] [] [] (mW L cs pn cn pc cc) w':=by
 refine enter Tryz.func47 Tryz.ntmps47 rfl rfl (wC hs) ?_
 simp only[bW]
 refine cP ?_;refine kK ?_;refine aB (mC rf rf) rfl ?_;refine Me ?_;refine kK ?_;refine J1 ?_
 refine aQ Tryz.results47 (λ w hw=>?_)
 exact⟨(),rfl,trivial,by simpa[aO,mW] using hw.aS (F':=[])⟩
theorem K9(hs:SF w D [(b,aO L cs gen acc pn cn pc cc)] A [] (mW L cs pn cn pc cc) w)(c:Int):Calls Tryz.prog 85 #[.pointer (some ⟨b,0,none⟩),.int .i64 c] w λ e w'=>∃q:Unit,e=.returned (.bool (decide (1<=c/\c<=(cs.length:Int))))/\True/\SF w D [(b,aO L cs gen acc pn cn pc cc)] [] [] (mW L cs pn cn pc cc) w':=by
 refine enter Tryz.func85 Tryz.ntmps85 rfl rfl (wC hs) ?_
 simp only[bW]
 refine cP ?_;refine J2 ?_;refine nC ?_;refine aA ?_
 (refine dZ 7 (λ g7=>?_) (λ g7=>?_)<;>(first|refine aI ?_|(refine aF ?_;refine aA ?_)))
 all_goals ((first|refine aI ?_|(refine aF ?_;refine aA ?_));(first|refine aI ?_|(refine aF ?_;refine dC ?_));refine Qs ?_;(first|refine aI ?_|(refine aF ?_;refine zS ?_));refine cH ?_;refine J1 ?_)
 all_goals
 refine aQ Tryz.results85 (λ w hw=>?_)
 first|exact⟨(),by rw[decide_eq_false (show ¬(1<=c/\c<=(cs.length:Int)) by omega)];first|rfl|(rw[decide_eq_false (by omega)];rfl),trivial,hw.aS⟩|exact⟨(),by rw[show decide (1<=c/\c<=(cs.length:Int))=decide (c<=(cs.length:Int)) by simp;omega];rfl,trivial,hw.aS⟩
theorem jr(hs:SF w D [(b,aO L cs gen acc pn cn pc cc)] A [] (mW L cs pn cn pc cc) w)(c:Int)(hc:c<1):Calls Tryz.prog 35 #[.pointer (some ⟨b,0,none⟩),.int .i64 c] w λ e w'=>∃q:Unit,e=.returned (.int .i64 (bU cs c))/\True/\SF w D [(b,aO L cs gen (up acc) pn cn pc cc)] [] [] (mW L cs pn cn pc cc) w':=by
 refine enter Tryz.func35 Tryz.ntmps35 rfl rfl (wC hs) ?_
 simp only[bW]
 refine cP ?_;refine kK ?_;refine aB (mC rf rf) rfl ?_;refine Me ?_;refine Cq ?_;refine aC (cM (hc:=λ w hs=>K9 hs c)) (λ x14 h14=>?_);refine nY ?_
 refine bB (λ c15=>?_) (λ c15=>?_)
 ·try (exfalso;omega)
  refine cP ?_
  refine aQ Tryz.results35 (λ w hw=>?_)
  (exact⟨(),by rw[qW (by omega)];rfl,trivial,hw.aS⟩)
 ·try (exfalso;omega)
theorem nf(hs:SF w D [(b,aO L cs gen acc pn cn pc cc)] A [] (mW L cs pn cn pc cc) w)(c:Int)(bC new:Int)(hc:c<1):Calls Tryz.prog 279 #[.pointer (some ⟨b,0,none⟩),.int .i64 c,.int .i64 bC,.int .i64 new] w λ e w'=>∃r:Bool,e=.returned (.bool r)/\(r=true↔jV cs c bC)/\SF w D [(b,aO L (eK cs c bC new) gen (up acc) pn cn pc cc)] [] [] (mW L (eK cs c bC new) pn cn pc cc) w':=by
 refine enter Tryz.func279 Tryz.ntmps279 rfl rfl (wC hs) ?_
 simp only[bW]
 refine cP ?_;refine kK ?_;refine aB (mC rf rf) rfl ?_;refine Me ?_;refine Cq ?_;refine aC (cM (hc:=λ w hs=>K9 hs c)) (λ x18 h18=>?_);refine Ed ?_
 (refine dZ 20 (λ g20=>?_) (λ g20=>?_)<;>(try (exfalso;omega))<;>(refine aI ?_))
 (refine aI ?_);refine J6 ?_;refine J68 ?_;(refine aI ?_);refine ar ?_;refine Nn ?_;refine aH ?_
 refine bB (λ c31=>?_) (λ c31=>?_)
 ·try (exfalso;omega)
  refine cP ?_
  refine aQ Tryz.results279 (λ w hw=>?_)
  (exact⟨false,rfl,jz hc,by rw[Uh hc];exact hw.aS⟩)
 ·exact nv c31
theorem Yn(hs:SF w D [(b,aO L cs gen acc pn cn pc cc)] A [] (mW L cs pn cn pc cc) w){k:Nat}(hk:(k:Int)<9223372036854775807)(hl:cs.length<=274877906944):Calls Tryz.prog 35 #[.pointer (some ⟨b,0,none⟩),.int .i64 ((k+1:Nat):Int)] w λ e w'=>∃q:Unit,e=.returned (.int .i64 (bU cs ((k+1:Nat):Int)))/\True/\SF w D [(b,aO L cs gen (up acc) pn cn pc cc)] [] [] (mW L cs pn cn pc cc) w':=by
 refine enter Tryz.func35 Tryz.ntmps35 rfl rfl (wC hs) ?_
 simp only[bW]
 refine cP ?_;refine kK ?_;refine aB (mC rf rf) rfl ?_;refine Me ?_;refine Cq ?_;refine aC (cM (hc:=λ w hs=>K9 hs ((k+1:Nat):Int))) (λ x14 h14=>?_);refine nY ?_
 refine bB (λ c15=>?_) (λ c15=>?_)
 ·try (exfalso;omega)
  refine cP ?_
  refine aQ Tryz.results35 (λ w hw=>?_)
  (exact⟨(),by rw[qW (by omega)];rfl,trivial,hw.aS⟩)
 ·try (exfalso;omega)
  refine lj ?_;refine aA ?_;refine rU ?_;refine P3 ?_;refine J1 ?_
  refine aQ Tryz.results35 (λ w hw=>?_)
  (exact⟨(),by rw[Gb (by omega)];rfl,trivial,hw.aS⟩)
theorem o8(hs:SF w D [(b,aO L cs gen acc pn cn pc cc)] A [] (mW L cs pn cn pc cc) w){k:Nat}(hk:(k:Int)<9223372036854775807)(bC new:Int)(hl:cs.length<=274877906944):Calls Tryz.prog 279 #[.pointer (some ⟨b,0,none⟩),.int .i64 ((k+1:Nat):Int),.int .i64 bC,.int .i64 new] w λ e w'=>∃r:Bool,e=.returned (.bool r)/\(r=true↔jV cs ((k+1:Nat):Int) bC)/\SF w D [(b,aO L (eK cs ((k+1:Nat):Int) bC new) gen (up acc) pn cn pc cc)] [] [] (mW L (eK cs ((k+1:Nat):Int) bC new) pn cn pc cc) w':=by
 refine enter Tryz.func279 Tryz.ntmps279 rfl rfl (wC hs) ?_
 simp only[bW]
 refine cP ?_;refine kK ?_;refine aB (mC rf rf) rfl ?_;refine Me ?_;refine Cq ?_;refine aC (cM (hc:=λ w hs=>K9 hs ((k+1:Nat):Int))) (λ x18 h18=>?_);refine Ed ?_
 (refine dZ 20 (λ g20=>?_) (λ g20=>?_)<;>(first|refine aI ?_|(refine aF ?_;refine aA ?_)))
 all_goals ((first|refine aI ?_|(refine aF ?_;refine dC ?_));refine J6 ?_;refine J68 ?_;(first|refine aI ?_|(refine aF ?_;refine fV ?_));refine ar ?_;refine Nn ?_;refine aH ?_)
 all_goals
 refine bB (λ c31=>?_) (λ c31=>?_)
 ·all_goals try (exfalso;omega)
  all_goals refine cP ?_
  all_goals
   refine aQ Tryz.results279 (λ w hw=>?_)
   first|exact⟨false,rfl,Z4 (by omega),by rw[Vh (by omega)];exact hw.aS⟩|exact⟨false,rfl,gy (by simpa using c31),by rw[Vs (by simpa using c31)];exact hw.aS⟩ 
 ·try exact nv c31
  all_goals (refine lj ?_;refine aA ?_;refine rU ?_;refine aA ?_;refine fV ?_;refine J5 ?_;refine cP ?_)
  all_goals
   refine aQ Tryz.results279 (λ w hw=>?_)
   (exact⟨true,rfl,Yx (by omega) (by simpa using c31),by rw[Th (by omega) (by simpa using c31)];simpa[mW,aO,mO] using hw.aS (F':=[])⟩)
theorem T8(hs:SF w D [(b,aO L cs gen acc pn cn pc cc)] A [] (mW L cs pn cn pc cc) w)(c:Int)(hc:c<=9223372036854775807)(hl:cs.length<=274877906944):Calls Tryz.prog 35 #[.pointer (some ⟨b,0,none⟩),.int .i64 c] w λ e w'=>∃q:Unit,e=.returned (.int .i64 (bU cs c))/\True/\SF w D [(b,aO L cs gen (up acc) pn cn pc cc)] [] [] (mW L cs pn cn pc cc) w':=by
 rcases Int.lt_or_le c 1 with h|h
 ·exact jr hs c h
 ·obtain⟨k,rfl⟩:∃k:Nat,c=((k+1:Nat):Int):=⟨(c-1).toNat,by omega⟩
  exact Yn hs (by omega) hl
theorem wu(hs:SF w D [(b,aO L cs gen acc pn cn pc cc)] A [] (mW L cs pn cn pc cc) w)(c bC new:Int)(hc:c<=9223372036854775807)(hl:cs.length<=274877906944):Calls Tryz.prog 279 #[.pointer (some ⟨b,0,none⟩),.int .i64 c,.int .i64 bC,.int .i64 new] w λ e w'=>∃r:Bool,e=.returned (.bool r)/\(r=true↔jV cs c bC)/\SF w D [(b,aO L (eK cs c bC new) gen (up acc) pn cn pc cc)] [] [] (mW L (eK cs c bC new) pn cn pc cc) w':=by
 rcases Int.lt_or_le c 1 with h|h
 ·exact nf hs c bC new h
 ·obtain⟨k,rfl⟩:∃k:Nat,c=((k+1:Nat):Int):=⟨(c-1).toNat,by omega⟩
  exact o8 hs (by omega) bC new hl
end

/- Loops over slices that are read: contracts. -/
section
open Go.RowKit Go.Ct
theorem Cs{α} [BEq α] [LawfulBEq α] {xs ys:List α}{k:Nat}(h:xs.length=ys.length)(hk:¬k<xs.length)(ht:xs.take k=ys.take k):(xs==ys)=true:=by
 rw[List.take_of_length_le (by omega),List.take_of_length_le (by omega)] at ht
 simp[ht]
theorem Gu{α} [BEq α] [LawfulBEq α] {xs ys:List α}(h:xs.length≠ys.length):(xs==ys)=false:=by
 simp only[beq_eq_false_iff_ne,ne_eq]
 intro e;rw[e] at h;exact h rfl
theorem E8{α} [BEq α] [LawfulBEq α] {xs ys:List α}{k:Nat}{d:α}(h:xs.getD k d≠ys.getD k d):(xs==ys)=false:=by
 simp only[beq_eq_false_iff_ne,ne_eq]
 intro e;rw[e] at h;exact h rfl
theorem Cz{α} [DecidableEq α] {xs ys:List α}{k:Nat}(h:xs.length=ys.length)(hk:¬k<xs.length)(ht:xs.take k=ys.take k):decide (xs=ys)=true:=by
 rw[List.take_of_length_le (by omega),List.take_of_length_le (by omega)] at ht
 simp[ht]
theorem Ft{α} [DecidableEq α] {xs ys:List α}(h:xs.length≠ys.length):decide (xs=ys)=false:=decide_eq_false λ e=>h (by rw[e])
theorem E9{α} [DecidableEq α] {xs ys:List α}{k:Nat}{d:α}(h:xs.getD k d≠ys.getD k d):decide (xs=ys)=false:=decide_eq_false λ e=>h (by rw[e])
theorem wP{α}{xs ys:List α}{k:Nat}{d:α}(h:xs.take k=ys.take k)(hk:k<xs.length)(hl:xs.length=ys.length)(he:xs.getD k d=ys.getD k d):xs.take (k+1)=ys.take (k+1):=by
 rw[List.take_add_one,List.take_add_one,h,List.getElem?_eq_getElem hk,List.getElem?_eq_getElem (hl▸hk)]
 simp only[List.getD,List.getElem?_eq_getElem hk,List.getElem?_eq_getElem (hl▸hk:k<ys.length),Option.getD_some] at he
 rw[he]
theorem au{xs ys:List Int}{a b:Option Addr}{ca cb:Nat}{w:World}(ha:Cl w a (aG xs))(hb:Cl w b (aG ys))(hx:xs.length<4611686018427387904) :
  Calls Tryz.prog 112 #[.slice a xs.length ca,.slice b ys.length cb] w λ e w'=>e=.returned (.bool (xs==ys))/\St w [] [] w':=by
 refine enter Tryz.func112 Tryz.ntmps112 rfl rfl (SF.s2 ha hb) ?_
 simp only[bW]
 refine cP ?_;refine lA ?_;refine dE ?_;refine aA ?_;refine dE ?_;refine kW ?_;refine aH ?_
 refine bB (λ c10=>?_) (λ c10=>?_)
 ·refine cP ?_
  refine aQ Tryz.results112 (λ w hw=>?_)
  exact⟨by rw[Gu (by omega)];rfl,hw.done⟩
 ·refine kC ?_;refine Ds ?_
  refine fL [4,5,11,12,13,14,15,16,17,18,19,20,21,22,23,24,25] (λ k=>[(5,.int .i64 ((k:Nat):Int))]) (λ k=>k<=xs.length/\xs.take k=ys.take k) (λ k=>xs.length-k) (0) (⟨Nat.zero_le _,by simp⟩) ?_ (λ k f hx=>?_)
  ·repeat (first|exact bJ _|refine bD (by exact rfl) ?_)
  dsimp only[gU,List.map,List.cons_append,List.nil_append]
  refine Cq ?_;refine dE ?_;refine xU ?_
  refine bB (λ c14=>?_) (λ c14=>?_)
  ·refine pU ?_;refine aT ?_;refine gD [0,1,2,3,4,5,6,7,8] ?_;refine hX ?_;refine P6 ?_;refine hX ?_;refine P6 ?_;refine M5 ?_;refine dX ?_
   refine bB (λ c25=>?_) (λ c25=>?_)
   ·refine cP ?_
    refine aQ Tryz.results112 (λ w hw=>?_)
    exact⟨by rw[E8 c25];rfl,hw.done⟩
   ·refine nR ?_;refine xL ?_
    refine eA (k+1) ?_ ?_ ?_
    ·omega
    ·repeat' (first|exact bJ _|refine bD ?_ ?_)
     exact rfl
    ·exact⟨by omega,wP hx.2 (by omega) (by omega) c25⟩
  ·refine bN rfl ?_;refine cP ?_
   refine aQ Tryz.results112 (λ w hw=>?_)
   exact⟨by rw[Cs (k:=k) (by omega) (by omega) hx.2];rfl,hw.done⟩
theorem aAm{xs ys:List Pr}{a b:Option Addr}{ca cb:Nat}{w:World}(ha:Cl w a (dB xs))(hb:Cl w b (dB ys))(hx:xs.length<4611686018427387904) :
  Calls Tryz.prog 155 #[.slice a xs.length ca,.slice b ys.length cb] w λ e w'=>e=.returned (.bool (decide (xs=ys)))/\St w [] [] w':=by
 refine enter Tryz.func155 Tryz.ntmps155 rfl rfl (SF.s2 ha hb) ?_
 simp only[bW]
 refine cP ?_;refine lA ?_;refine dE ?_;refine aA ?_;refine dE ?_;refine kW ?_;refine aH ?_
 refine bB (λ c10=>?_) (λ c10=>?_)
 ·refine cP ?_
  refine aQ Tryz.results155 (λ w hw=>?_)
  exact⟨by rw[Ft (by omega)];rfl,hw.done⟩
 ·refine kC ?_;refine Ds ?_
  refine fL [4,5,11,12,13,14,15,16,17,18,19,20,21,22,23,24,25] (λ k=>[(5,.int .i64 ((k:Nat):Int))]) (λ k=>k<=xs.length/\xs.take k=ys.take k) (λ k=>xs.length-k) (0) (⟨Nat.zero_le _,by simp⟩) ?_ (λ k f hx=>?_)
  ·repeat (first|exact bJ _|refine bD (by exact rfl) ?_)
  dsimp only[gU,List.map,List.cons_append,List.nil_append]
  refine Cq ?_;refine dE ?_;refine xU ?_
  refine bB (λ c14=>?_) (λ c14=>?_)
  ·refine pU ?_;refine aT ?_;refine gD [0,1,2,3,4,5,6,7,8] ?_;refine hX ?_;refine P6 ?_;refine hX ?_;refine P6 ?_;refine T7 ?_;refine dX ?_
   refine bB (λ c25=>?_) (λ c25=>?_)
   ·refine cP ?_
    refine aQ Tryz.results155 (λ w hw=>?_)
    exact⟨by rw[E9 λ h=>c25 ⟨congrArg Prod.fst h,congrArg Prod.snd h⟩];rfl,hw.done⟩
   ·refine nR ?_;refine xL ?_
    refine eA (k+1) ?_ ?_ ?_
    ·omega
    ·repeat' (first|exact bJ _|refine bD ?_ ?_)
     exact rfl
    ·exact⟨by omega,wP hx.2 (by omega) (by omega) (Prod.ext c25.1 c25.2)⟩
  ·refine bN rfl ?_;refine cP ?_
   refine aQ Tryz.results155 (λ w hw=>?_)
   exact⟨by rw[Cz (k:=k) (by omega) (by omega) hx.2];rfl,hw.done⟩
theorem lr{xs ys:List Int}{a b:Option Addr}{ca cb:Nat}{w:World}(ha:Cl w a (aG xs))(hb:Cl w b (aG ys))(hx:xs.length<4611686018427387904) :
  Calls Tryz.prog 236 #[.slice a xs.length ca,.slice b ys.length cb] w λ e w'=>e=.returned (.bool (xs==ys))/\St w [] [] w':=by
 refine enter Tryz.func236 Tryz.ntmps236 rfl rfl (SF.s2 ha hb) ?_
 simp only[bW]
 refine cP ?_;refine lA ?_;refine dE ?_;refine aA ?_;refine dE ?_;refine kW ?_;refine aH ?_
 refine bB (λ c10=>?_) (λ c10=>?_)
 ·refine cP ?_
  refine aQ Tryz.results236 (λ w hw=>?_)
  exact⟨by rw[Gu (by omega)];rfl,hw.done⟩
 ·refine kC ?_;refine J2 ?_;refine dE ?_;refine C9 ?_;refine cW ?_
  refine fL [4,5,13,14,15,16,17,18,19,20,21,22,23,24,25] (λ k=>[(13,.int .i64 ((k:Nat):Int))]) (λ k=>k<=xs.length/\xs.take k=ys.take k) (λ k=>xs.length-k) (0) (⟨Nat.zero_le _,by simp⟩) ?_ (λ k f hx=>?_)
  ·repeat (first|exact bJ _|refine bD (by exact rfl) ?_)
  dsimp only[gU,List.map,List.cons_append,List.nil_append]
  refine J0 ?_;refine xU ?_;refine aT ?_
  refine bB (λ c14=>?_) (λ c14=>?_)
  ·refine pU ?_;refine J2 ?_;refine hJ ?_;refine gD [0,1,2,3,4,5,6,7,8] ?_;refine hX ?_;refine P6 ?_;refine hX ?_;refine P6 ?_;refine M5 ?_;refine dX ?_
   refine bB (λ c24=>?_) (λ c24=>?_)
   ·refine cP ?_
    refine aQ Tryz.results236 (λ w hw=>?_)
    exact⟨by rw[E8 c24];rfl,hw.done⟩
   ·refine nR ?_;refine Xl ?_;refine C9 ?_
    refine eA (k+1) ?_ ?_ ?_
    ·omega
    ·repeat' (first|exact bJ _|refine bD ?_ ?_)
     exact rfl
    ·exact⟨by omega,wP hx.2 (by omega) (by omega) c24⟩
  ·refine bN rfl ?_;refine cP ?_
   refine aQ Tryz.results236 (λ w hw=>?_)
   exact⟨by rw[Cs (k:=k) (by omega) (by omega) hx.2];rfl,hw.done⟩
theorem vg{xs ys:List Pr}{a b:Option Addr}{ca cb:Nat}{w:World}(ha:Cl w a (dB xs))(hb:Cl w b (dB ys))(hx:xs.length<4611686018427387904) :
  Calls Tryz.prog 237 #[.slice a xs.length ca,.slice b ys.length cb] w λ e w'=>e=.returned (.bool (decide (xs=ys)))/\St w [] [] w':=by
 refine enter Tryz.func237 Tryz.ntmps237 rfl rfl (SF.s2 ha hb) ?_
 simp only[bW]
 refine cP ?_;refine lA ?_;refine dE ?_;refine aA ?_;refine dE ?_;refine kW ?_;refine aH ?_
 refine bB (λ c10=>?_) (λ c10=>?_)
 ·refine cP ?_
  refine aQ Tryz.results237 (λ w hw=>?_)
  exact⟨by rw[Ft (by omega)];rfl,hw.done⟩
 ·refine kC ?_;refine J2 ?_;refine dE ?_;refine C9 ?_;refine cW ?_
  refine fL [4,5,13,14,15,16,17,18,19,20,21,22,23,24,25] (λ k=>[(13,.int .i64 ((k:Nat):Int))]) (λ k=>k<=xs.length/\xs.take k=ys.take k) (λ k=>xs.length-k) (0) (⟨Nat.zero_le _,by simp⟩) ?_ (λ k f hx=>?_)
  ·repeat (first|exact bJ _|refine bD (by exact rfl) ?_)
  dsimp only[gU,List.map,List.cons_append,List.nil_append]
  refine J0 ?_;refine xU ?_;refine aT ?_
  refine bB (λ c14=>?_) (λ c14=>?_)
  ·refine pU ?_;refine J2 ?_;refine hJ ?_;refine gD [0,1,2,3,4,5,6,7,8] ?_;refine hX ?_;refine P6 ?_;refine hX ?_;refine P6 ?_;refine T7 ?_;refine dX ?_
   refine bB (λ c24=>?_) (λ c24=>?_)
   ·refine cP ?_
    refine aQ Tryz.results237 (λ w hw=>?_)
    exact⟨by rw[E9 λ h=>c24 ⟨congrArg Prod.fst h,congrArg Prod.snd h⟩];rfl,hw.done⟩
   ·refine nR ?_;refine Xl ?_;refine C9 ?_
    refine eA (k+1) ?_ ?_ ?_
    ·omega
    ·repeat' (first|exact bJ _|refine bD ?_ ?_)
     exact rfl
    ·exact⟨by omega,wP hx.2 (by omega) (by omega) (Prod.ext c24.1 c24.2)⟩
  ·refine bN rfl ?_;refine cP ?_
   refine aQ Tryz.results237 (λ w hw=>?_)
   exact⟨by rw[Cz (k:=k) (by omega) (by omega) hx.2];rfl,hw.done⟩
end

end Go.Proofs.YtbajmaoegmbfgaaGreat
