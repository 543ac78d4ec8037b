/- The small methods of the two memories: generations, loads, compare-and-swaps. -/
import Derived.Test.YtbajmaoegmbfgaaGreatGJoin
import Derived.Test.YtbajmaoegmbfgaaGreatGMem
import Derived.Test.YtbajmaoegmbfgaaGreatAuto

set_option linter.unusedSimpArgs false
set_option linter.unusedVariables false
namespace Go.Ct
section
def bV(cs:List Int)(c:Int):Int:=if 1<=c/\c<=cs.length then cs.getD (c-1).toNat 0 else 0
def kC(cs:List Int)(c bD:Int):Prop:=1<=c/\c<=cs.length/\cs.getD (c-1).toNat 0=bD
def eO(cs:List Int)(c bD new:Int):List Int:=if 1<=c/\c<=cs.length/\cs.getD (c-1).toNat 0=bD then cs.set (c-1).toNat new else cs
def up(i:Int):Int:=Go.IntKind.i64.wrap (i+1)
theorem rG{cs:List Int}{c:Int}(h:¬(1<=c/\c<=cs.length)):bV cs c=0:=if_neg h
theorem Gh{cs:List Int}{k:Nat}(h:k<cs.length):bV cs ((k+1:Nat):Int)=cs.getD k 0:=by
 unfold bV
 rw[if_pos (by omega),show(((k+1:Nat):Int)-1).toNat=k by omega]
theorem Ee{cs:List Int}{c bD new:Int}(h:¬(1<=c/\c<=cs.length/\cs.getD (c-1).toNat 0=bD)):eO cs c bD new=cs:=if_neg h
theorem Vx{cs:List Int}{k:Nat}{bD new:Int}(h:k<cs.length)(ho:cs.getD k 0=bD):eO cs ((k+1:Nat):Int) bD new=cs.set k new:=by
 have e:(((k+1:Nat):Int)-1).toNat=k:=by omega
 unfold eO
 rw[e,if_pos ⟨by omega,by omega,ho⟩]
theorem eh{cs:List Int}{c bD:Int}(h:c<1):(false=true↔kC cs c bD):=⟨(λ h=>nomatch h),λ h2=>absurd h2.1 (by omega)⟩
theorem Wb{cs:List Int}{c bD new:Int}(h:c<1):eO cs c bD new=cs:=Ee (by omega)
theorem Z0{cs:List Int}{c bD:Int}(h:(cs.length:Int)<c):(false=true↔kC cs c bD):=⟨(λ h=>nomatch h),λ h2=>absurd h2.2.1 (by omega)⟩
theorem Tk{cs:List Int}{c bD new:Int}(h:(cs.length:Int)<c):eO cs c bD new=cs:=Ee (by omega)
theorem iy{cs:List Int}{k:Nat}{bD:Int}(h:cs.getD k 0≠bD):(false=true↔kC cs ((k+1:Nat):Int) bD):=⟨(λ h=>nomatch h),λ h2=>absurd (by have:=h2.2.2;rwa [show(((k+1:Nat):Int)-1).toNat=k by omega] at this) h⟩
theorem Vt{cs:List Int}{k:Nat}{bD new:Int}(h:cs.getD k 0≠bD):eO cs ((k+1:Nat):Int) bD new=cs:=Ee λ h2=>absurd (by have:=h2.2.2;rwa [show(((k+1:Nat):Int)-1).toNat=k by omega] at this) h
theorem de{cs:List Int}{k:Nat}{bD:Int}(hk:k<cs.length)(h:cs.getD k 0=bD):(true=true↔kC cs ((k+1:Nat):Int) bD):=⟨λ _=>⟨by omega,by omega,by rw[show(((k+1:Nat):Int)-1).toNat=k by omega];exact h⟩,λ _=>rfl⟩
theorem hJ{cs:List Int}{c bD new:Int}:(eO cs c bD new).length=cs.length:=by unfold eO;split<;>simp
end
end Go.Ct
namespace Go.Proofs.YtbajmaoegmbfgaaGreat
section
open Go.RowKit Go.Ct
variable{w:World}{D:List Nat}{b:Nat}{L:List aS}{cs:List Int}{gen acc:Int}{pn pc:Option Addr}{cn cc:Nat}{A:Fr}
theorem Bp(hs:SF w D [(b,mO L cs gen acc pn cn pc cc)] A [] (mW L cs pn cn pc cc) w):Calls Tryz.prog 100 #[.pointer (some ⟨b,0,none⟩)] w λ e w'=>∃q:Unit,e=.returned (.int .i64 (up gen))/\True/\SF w D [(b,mO L cs (up gen) acc pn cn pc cc)] [] [] (mW L cs pn cn pc cc) w':=by
 refine enter Tryz.func100 Tryz.ntmps100 rfl rfl (yE hs) ?_
 simp only[bX]
 refine cR ?_;refine E0 ?_;refine J3 ?_;refine aB (mJ rf rf) rfl ?_;refine Lv ?_;refine uP ?_;refine E0 ?_;refine J3 ?_;refine J1 ?_
 refine aR Tryz.results100 (λ w hw=>?_)
 exact⟨(),rfl,trivial,by simpa[mO,mW] using hw.aU (F':=[])⟩
theorem j5(hs:SF w D [(b,mO L cs gen acc pn cn pc cc)] A [] (mW L cs pn cn pc cc) w)(c:Int)(hc:c<1):Calls Tryz.prog 241 #[.pointer (some ⟨b,0,none⟩),.int .i64 c] w λ e w'=>∃q:Unit,e=.returned (.int .i64 (bV cs c))/\True/\SF w D [(b,mO L cs gen (up acc) pn cn pc cc)] [] [] (mW L cs pn cn pc cc) w':=by
 refine enter Tryz.func241 Tryz.ntmps241 rfl rfl (yE hs) ?_
 simp only[bX]
 refine cR ?_;refine kO ?_;refine aB (mJ rf rf) rfl ?_;refine Mw ?_;refine kY ?_;refine Ce ?_
 (refine eI 14 (λ g14=>?_) (λ g14=>?_)<;>(try (exfalso;omega))<;>(refine aJ ?_))
 refine vx ?_;refine Qu ?_;refine B7 ?_;refine aG ?_
 refine bC (λ c23=>?_) (λ c23=>?_)
 ·try (exfalso;omega)
  refine cR ?_
  refine aR Tryz.results241 (λ w hw=>?_)
  (exact⟨(),by rw[rG (by omega)];rfl,trivial,hw.aU⟩)
 ·exact nv c23
theorem q9(hs:SF w D [(b,mO L cs gen acc pn cn pc cc)] A [] (mW L cs pn cn pc cc) w)(c:Int)(bD new:Int)(hc:c<1):Calls Tryz.prog 242 #[.pointer (some ⟨b,0,none⟩),.int .i64 c,.int .i64 bD,.int .i64 new] w λ e w'=>∃r:Bool,e=.returned (.bool r)/\(r=true↔kC cs c bD)/\SF w D [(b,mO L (eO cs c bD new) gen (up acc) pn cn pc cc)] [] [] (mW L (eO cs c bD new) pn cn pc cc) w':=by
 refine enter Tryz.func242 Tryz.ntmps242 rfl rfl (yE hs) ?_
 simp only[bX]
 refine cR ?_;refine kO ?_;refine aB (mJ rf rf) rfl ?_;refine Mw ?_;refine kY ?_;refine Ce ?_
 (refine eI 18 (λ g18=>?_) (λ g18=>?_)<;>(try (exfalso;omega))<;>(refine aJ ?_))
 refine vx ?_;refine Qu ?_;refine B7 ?_;refine aA ?_
 refine aJ ?_
 refine J36 ?_;refine J6 ?_;refine J68 ?_;(refine aJ ?_);refine Zy ?_;refine Of ?_;refine aG ?_
 refine bC (λ c40=>?_) (λ c40=>?_)
 ·try (exfalso;omega)
  refine cR ?_
  refine aR Tryz.results242 (λ w hw=>?_)
  (exact⟨false,rfl,eh hc,by rw[Wb hc];exact hw.aU⟩)
 ·exact nv c40
theorem ju(hs:SF w D [(b,mO L cs gen acc pn cn pc cc)] A [] (mW L cs pn cn pc cc) w){k:Nat}(hk:(k:Int)<9223372036854775807)(hl:cs.length<=274877906944):Calls Tryz.prog 241 #[.pointer (some ⟨b,0,none⟩),.int .i64 ((k+1:Nat):Int)] w λ e w'=>∃q:Unit,e=.returned (.int .i64 (bV cs ((k+1:Nat):Int)))/\True/\SF w D [(b,mO L cs gen (up acc) pn cn pc cc)] [] [] (mW L cs pn cn pc cc) w':=by
 refine enter Tryz.func241 Tryz.ntmps241 rfl rfl (yE hs) ?_
 simp only[bX]
 refine cR ?_;refine kO ?_;refine aB (mJ rf rf) rfl ?_;refine Mw ?_;refine kY ?_;refine Ce ?_
 (refine aF ?_;refine aA ?_)
 refine vx ?_;refine Qu ?_;refine B7 ?_;refine aG ?_
 refine bC (λ c23=>?_) (λ c23=>?_)
 ·try (exfalso;omega)
  refine cR ?_
  refine aR Tryz.results241 (λ w hw=>?_)
  (exact⟨(),by rw[rG (by omega)];rfl,trivial,hw.aU⟩)
 ·try (exfalso;omega)
  refine aX ?_;refine E0 ?_;refine J3 ?_;refine aA ?_;refine rR ?_;refine Qp ?_;refine J1 ?_
  refine aR Tryz.results241 (λ w hw=>?_)
  (exact⟨(),by rw[Gh (by omega)];rfl,trivial,hw.aU⟩)
theorem oc(hs:SF w D [(b,mO L cs gen acc pn cn pc cc)] A [] (mW L cs pn cn pc cc) w){k:Nat}(hk:(k:Int)<9223372036854775807)(bD new:Int)(hl:cs.length<=274877906944):Calls Tryz.prog 242 #[.pointer (some ⟨b,0,none⟩),.int .i64 ((k+1:Nat):Int),.int .i64 bD,.int .i64 new] w λ e w'=>∃r:Bool,e=.returned (.bool r)/\(r=true↔kC cs ((k+1:Nat):Int) bD)/\SF w D [(b,mO L (eO cs ((k+1:Nat):Int) bD new) gen (up acc) pn cn pc cc)] [] [] (mW L (eO cs ((k+1:Nat):Int) bD new) pn cn pc cc) w':=by
 refine enter Tryz.func242 Tryz.ntmps242 rfl rfl (yE hs) ?_
 simp only[bX]
 refine cR ?_;refine kO ?_;refine aB (mJ rf rf) rfl ?_;refine Mw ?_;refine kY ?_;refine Ce ?_
 (refine aF ?_;refine aA ?_)
 refine vx ?_;refine Qu ?_;refine B7 ?_;refine aA ?_
 (refine eI 28 (λ g28=>?_) (λ g28=>?_)<;>(first|refine aJ ?_|(refine aF ?_;refine aA ?_)))
 all_goals (refine J36 ?_;refine J6 ?_;refine J68 ?_;(first|refine aJ ?_|(refine aF ?_;refine gB ?_));refine Zy ?_;refine Of ?_;refine aG ?_)
 all_goals
 refine bC (λ c40=>?_) (λ c40=>?_)
 ·all_goals try (exfalso;omega)
  all_goals refine cR ?_
  all_goals
   refine aR Tryz.results242 (λ w hw=>?_)
   first|exact⟨false,rfl,Z0 (by omega),by rw[Tk (by omega)];exact hw.aU⟩|exact⟨false,rfl,iy (by simpa using c40),by rw[Vt (by simpa using c40)];exact hw.aU⟩ 
 ·try exact nv c40
  all_goals (refine aX ?_;refine E0 ?_;refine J3 ?_;refine aA ?_;refine rR ?_;refine aA ?_;refine gB ?_;refine J5 ?_;refine cR ?_)
  all_goals
   refine aR Tryz.results242 (λ w hw=>?_)
   (exact⟨true,rfl,de (by omega) (by simpa using c40),by rw[Vx (by omega) (by simpa using c40)];simpa[mW,aO,mO] using hw.aU (F':=[])⟩)
theorem nk(hs:SF w D [(b,mO L cs gen acc pn cn pc cc)] A [] (mW L cs pn cn pc cc) w)(c:Int)(hc:c<=9223372036854775807)(hl:cs.length<=274877906944):Calls Tryz.prog 241 #[.pointer (some ⟨b,0,none⟩),.int .i64 c] w λ e w'=>∃q:Unit,e=.returned (.int .i64 (bV cs c))/\True/\SF w D [(b,mO L cs gen (up acc) pn cn pc cc)] [] [] (mW L cs pn cn pc cc) w':=by
 rcases Int.lt_or_le c 1 with h|h
 ·exact j5 hs c h
 ·obtain⟨k,rfl⟩:∃k:Nat,c=((k+1:Nat):Int):=⟨(c-1).toNat,by omega⟩
  exact ju hs (by omega) hl
theorem u4(hs:SF w D [(b,mO L cs gen acc pn cn pc cc)] A [] (mW L cs pn cn pc cc) w)(c bD new:Int)(hc:c<=9223372036854775807)(hl:cs.length<=274877906944):Calls Tryz.prog 242 #[.pointer (some ⟨b,0,none⟩),.int .i64 c,.int .i64 bD,.int .i64 new] w λ e w'=>∃r:Bool,e=.returned (.bool r)/\(r=true↔kC cs c bD)/\SF w D [(b,mO L (eO cs c bD new) gen (up acc) pn cn pc cc)] [] [] (mW L (eO cs c bD new) pn cn pc cc) w':=by
 rcases Int.lt_or_le c 1 with h|h
 ·exact q9 hs c bD new h
 ·obtain⟨k,rfl⟩:∃k:Nat,c=((k+1:Nat):Int):=⟨(c-1).toNat,by omega⟩
  exact oc hs (by omega) bD new hl
theorem X6(hs:SF w D [(b,aO L cs gen acc pn cn pc cc)] A [] (mW L cs pn cn pc cc) w):Calls Tryz.prog 47 #[.pointer (some ⟨b,0,none⟩)] w λ e w'=>∃q:Unit,e=.returned (.int .i64 (up gen))/\True/\SF w D [(b,aO L cs (up gen) acc pn cn pc cc)] [] [] (mW L cs pn cn pc cc) w':=by
 refine enter Tryz.func47 Tryz.ntmps47 rfl rfl (vJ hs) ?_
 simp only[bX]
 refine cR ?_;refine kO ?_;refine aB (mJ rf rf) rfl ?_;refine Mw ?_;refine kO ?_;refine J1 ?_
 refine aR Tryz.results47 (λ w hw=>?_)
 exact⟨(),rfl,trivial,by simpa[aO,mW] using hw.aU (F':=[])⟩
theorem Mr(hs:SF w D [(b,aO L cs gen acc pn cn pc cc)] A [] (mW L cs pn cn pc cc) w)(c:Int):Calls Tryz.prog 85 #[.pointer (some ⟨b,0,none⟩),.int .i64 c] w λ e w'=>∃q:Unit,e=.returned (.bool (decide (1<=c/\c<=(cs.length:Int))))/\True/\SF w D [(b,aO L cs gen acc pn cn pc cc)] [] [] (mW L cs pn cn pc cc) w':=by
 refine enter Tryz.func85 Tryz.ntmps85 rfl rfl (vJ hs) ?_
 simp only[bX]
 refine cR ?_;refine J2 ?_;refine nI ?_;refine aA ?_
 (refine eI 7 (λ g7=>?_) (λ g7=>?_)<;>(first|refine aJ ?_|(refine aF ?_;refine aA ?_)))
 all_goals ((first|refine aJ ?_|(refine aF ?_;refine aA ?_));(first|refine aJ ?_|(refine aF ?_;refine dD ?_));refine Qu ?_;(first|refine aJ ?_|(refine aF ?_;refine Ba ?_));refine cJ ?_;refine J1 ?_)
 all_goals
 refine aR Tryz.results85 (λ w hw=>?_)
 first|exact⟨(),by rw[decide_eq_false (show ¬(1<=c/\c<=(cs.length:Int)) by omega)];first|rfl|(rw[decide_eq_false (by omega)];rfl),trivial,hw.aU⟩|exact⟨(),by rw[show decide (1<=c/\c<=(cs.length:Int))=decide (c<=(cs.length:Int)) by simp;omega];rfl,trivial,hw.aU⟩
theorem jj(hs:SF w D [(b,aO L cs gen acc pn cn pc cc)] A [] (mW L cs pn cn pc cc) w)(c:Int)(hc:c<1):Calls Tryz.prog 35 #[.pointer (some ⟨b,0,none⟩),.int .i64 c] w λ e w'=>∃q:Unit,e=.returned (.int .i64 (bV cs c))/\True/\SF w D [(b,aO L cs gen (up acc) pn cn pc cc)] [] [] (mW L cs pn cn pc cc) w':=by
 refine enter Tryz.func35 Tryz.ntmps35 rfl rfl (vJ hs) ?_
 simp only[bX]
 refine cR ?_;refine kO ?_;refine aB (mJ rf rf) rfl ?_;refine Mw ?_;refine C6 ?_;refine aC (cM (hc:=λ w hs=>Mr hs c)) (λ x14 h14=>?_);refine oK ?_
 refine bC (λ c15=>?_) (λ c15=>?_)
 ·try (exfalso;omega)
  refine cR ?_
  refine aR Tryz.results35 (λ w hw=>?_)
  (exact⟨(),by rw[rG (by omega)];rfl,trivial,hw.aU⟩)
 ·try (exfalso;omega)
theorem qf(hs:SF w D [(b,aO L cs gen acc pn cn pc cc)] A [] (mW L cs pn cn pc cc) w)(c:Int)(bD new:Int)(hc:c<1):Calls Tryz.prog 279 #[.pointer (some ⟨b,0,none⟩),.int .i64 c,.int .i64 bD,.int .i64 new] w λ e w'=>∃r:Bool,e=.returned (.bool r)/\(r=true↔kC cs c bD)/\SF w D [(b,aO L (eO cs c bD new) gen (up acc) pn cn pc cc)] [] [] (mW L (eO cs c bD new) pn cn pc cc) w':=by
 refine enter Tryz.func279 Tryz.ntmps279 rfl rfl (vJ hs) ?_
 simp only[bX]
 refine cR ?_;refine kO ?_;refine aB (mJ rf rf) rfl ?_;refine Mw ?_;refine C6 ?_;refine aC (cM (hc:=λ w hs=>Mr hs c)) (λ x18 h18=>?_);refine Eh ?_
 (refine eI 20 (λ g20=>?_) (λ g20=>?_)<;>(try (exfalso;omega))<;>(refine aJ ?_))
 (refine aJ ?_);refine J6 ?_;refine J68 ?_;(refine aJ ?_);refine Zy ?_;refine Of ?_;refine aG ?_
 refine bC (λ c31=>?_) (λ c31=>?_)
 ·try (exfalso;omega)
  refine cR ?_
  refine aR Tryz.results279 (λ w hw=>?_)
  (exact⟨false,rfl,eh hc,by rw[Wb hc];exact hw.aU⟩)
 ·exact nv c31
theorem aw(hs:SF w D [(b,aO L cs gen acc pn cn pc cc)] A [] (mW L cs pn cn pc cc) w){k:Nat}(hk:(k:Int)<9223372036854775807)(hl:cs.length<=274877906944):Calls Tryz.prog 35 #[.pointer (some ⟨b,0,none⟩),.int .i64 ((k+1:Nat):Int)] w λ e w'=>∃q:Unit,e=.returned (.int .i64 (bV cs ((k+1:Nat):Int)))/\True/\SF w D [(b,aO L cs gen (up acc) pn cn pc cc)] [] [] (mW L cs pn cn pc cc) w':=by
 refine enter Tryz.func35 Tryz.ntmps35 rfl rfl (vJ hs) ?_
 simp only[bX]
 refine cR ?_;refine kO ?_;refine aB (mJ rf rf) rfl ?_;refine Mw ?_;refine C6 ?_;refine aC (cM (hc:=λ w hs=>Mr hs ((k+1:Nat):Int))) (λ x14 h14=>?_);refine oK ?_
 refine bC (λ c15=>?_) (λ c15=>?_)
 ·try (exfalso;omega)
  refine cR ?_
  refine aR Tryz.results35 (λ w hw=>?_)
  (exact⟨(),by rw[rG (by omega)];rfl,trivial,hw.aU⟩)
 ·try (exfalso;omega)
  refine oa ?_;refine aA ?_;refine rR ?_;refine Qp ?_;refine J1 ?_
  refine aR Tryz.results35 (λ w hw=>?_)
  (exact⟨(),by rw[Gh (by omega)];rfl,trivial,hw.aU⟩)
theorem na(hs:SF w D [(b,aO L cs gen acc pn cn pc cc)] A [] (mW L cs pn cn pc cc) w){k:Nat}(hk:(k:Int)<9223372036854775807)(bD new:Int)(hl:cs.length<=274877906944):Calls Tryz.prog 279 #[.pointer (some ⟨b,0,none⟩),.int .i64 ((k+1:Nat):Int),.int .i64 bD,.int .i64 new] w λ e w'=>∃r:Bool,e=.returned (.bool r)/\(r=true↔kC cs ((k+1:Nat):Int) bD)/\SF w D [(b,aO L (eO cs ((k+1:Nat):Int) bD new) gen (up acc) pn cn pc cc)] [] [] (mW L (eO cs ((k+1:Nat):Int) bD new) pn cn pc cc) w':=by
 refine enter Tryz.func279 Tryz.ntmps279 rfl rfl (vJ hs) ?_
 simp only[bX]
 refine cR ?_;refine kO ?_;refine aB (mJ rf rf) rfl ?_;refine Mw ?_;refine C6 ?_;refine aC (cM (hc:=λ w hs=>Mr hs ((k+1:Nat):Int))) (λ x18 h18=>?_);refine Eh ?_
 (refine eI 20 (λ g20=>?_) (λ g20=>?_)<;>(first|refine aJ ?_|(refine aF ?_;refine aA ?_)))
 all_goals ((first|refine aJ ?_|(refine aF ?_;refine dD ?_));refine J6 ?_;refine J68 ?_;(first|refine aJ ?_|(refine aF ?_;refine gB ?_));refine Zy ?_;refine Of ?_;refine aG ?_)
 all_goals
 refine bC (λ c31=>?_) (λ c31=>?_)
 ·all_goals try (exfalso;omega)
  all_goals refine cR ?_
  all_goals
   refine aR Tryz.results279 (λ w hw=>?_)
   first|exact⟨false,rfl,Z0 (by omega),by rw[Tk (by omega)];exact hw.aU⟩|exact⟨false,rfl,iy (by simpa using c31),by rw[Vt (by simpa using c31)];exact hw.aU⟩ 
 ·try exact nv c31
  all_goals (refine oa ?_;refine aA ?_;refine rR ?_;refine aA ?_;refine gB ?_;refine J5 ?_;refine cR ?_)
  all_goals
   refine aR Tryz.results279 (λ w hw=>?_)
   (exact⟨true,rfl,de (by omega) (by simpa using c31),by rw[Vx (by omega) (by simpa using c31)];simpa[mW,aO,mO] using hw.aU (F':=[])⟩)
theorem U7(hs:SF w D [(b,aO L cs gen acc pn cn pc cc)] A [] (mW L cs pn cn pc cc) w)(c:Int)(hc:c<=9223372036854775807)(hl:cs.length<=274877906944):Calls Tryz.prog 35 #[.pointer (some ⟨b,0,none⟩),.int .i64 c] w λ e w'=>∃q:Unit,e=.returned (.int .i64 (bV cs c))/\True/\SF w D [(b,aO L cs gen (up acc) pn cn pc cc)] [] [] (mW L cs pn cn pc cc) w':=by
 rcases Int.lt_or_le c 1 with h|h
 ·exact jj hs c h
 ·obtain⟨k,rfl⟩:∃k:Nat,c=((k+1:Nat):Int):=⟨(c-1).toNat,by omega⟩
  exact aw hs (by omega) hl
theorem xx(hs:SF w D [(b,aO L cs gen acc pn cn pc cc)] A [] (mW L cs pn cn pc cc) w)(c bD new:Int)(hc:c<=9223372036854775807)(hl:cs.length<=274877906944):Calls Tryz.prog 279 #[.pointer (some ⟨b,0,none⟩),.int .i64 c,.int .i64 bD,.int .i64 new] w λ e w'=>∃r:Bool,e=.returned (.bool r)/\(r=true↔kC cs c bD)/\SF w D [(b,aO L (eO cs c bD new) gen (up acc) pn cn pc cc)] [] [] (mW L (eO cs c bD new) pn cn pc cc) w':=by
 rcases Int.lt_or_le c 1 with h|h
 ·exact qf hs c bD new h
 ·obtain⟨k,rfl⟩:∃k:Nat,c=((k+1:Nat):Int):=⟨(c-1).toNat,by omega⟩
  exact na hs (by omega) bD new hl
end

/- Loops over slices that are read: contracts. -/
section
open Go.RowKit Go.Ct
theorem C1{α} [BEq α] [LawfulBEq α] {xs ys:List α}{k:Nat}(h:xs.length=ys.length)(hk:¬k<xs.length)(ht:xs.take k=ys.take k):(xs==ys)=true:=by
 rw[List.take_of_length_le (by omega),List.take_of_length_le (by omega)] at ht
 simp[ht]
theorem Gu{α} [BEq α] [LawfulBEq α] {xs ys:List α}(h:xs.length≠ys.length):(xs==ys)=false:=by
 simp only[beq_eq_false_iff_ne,ne_eq]
 intro e;rw[e] at h;exact h rfl
theorem H7{α} [BEq α] [LawfulBEq α] {xs ys:List α}{k:Nat}{d:α}(h:xs.getD k d≠ys.getD k d):(xs==ys)=false:=by
 simp only[beq_eq_false_iff_ne,ne_eq]
 intro e;rw[e] at h;exact h rfl
theorem C4{α} [DecidableEq α] {xs ys:List α}{k:Nat}(h:xs.length=ys.length)(hk:¬k<xs.length)(ht:xs.take k=ys.take k):decide (xs=ys)=true:=by
 rw[List.take_of_length_le (by omega),List.take_of_length_le (by omega)] at ht
 simp[ht]
theorem Gv{α} [DecidableEq α] {xs ys:List α}(h:xs.length≠ys.length):decide (xs=ys)=false:=decide_eq_false λ e=>h (by rw[e])
theorem Gp{α} [DecidableEq α] {xs ys:List α}{k:Nat}{d:α}(h:xs.getD k d≠ys.getD k d):decide (xs=ys)=false:=decide_eq_false λ e=>h (by rw[e])
theorem xF{α}{xs ys:List α}{k:Nat}{d:α}(h:xs.take k=ys.take k)(hk:k<xs.length)(hl:xs.length=ys.length)(he:xs.getD k d=ys.getD k d):xs.take (k+1)=ys.take (k+1):=by
 rw[List.take_add_one,List.take_add_one,h,List.getElem?_eq_getElem hk,List.getElem?_eq_getElem (hl▸hk)]
 simp only[List.getD,List.getElem?_eq_getElem hk,List.getElem?_eq_getElem (hl▸hk:k<ys.length),Option.getD_some] at he
 rw[he]
theorem gh{xs ys:List Int}{a b:Option Addr}{ca cb:Nat}{w:World}(ha:Cl w a (aH xs))(hb:Cl w b (aH ys))(hx:xs.length<4611686018427387904) :
  Calls Tryz.prog 112 #[.slice a xs.length ca,.slice b ys.length cb] w λ e w'=>e=.returned (.bool (xs==ys))/\St w [] [] w':=by
 refine enter Tryz.func112 Tryz.ntmps112 rfl rfl (SF.s2 ha hb) ?_
 simp only[bX]
 refine cR ?_;refine kY ?_;refine dE ?_;refine aA ?_;refine dE ?_;refine kM ?_;refine aG ?_
 refine bC (λ c10=>?_) (λ c10=>?_)
 ·refine cR ?_
  refine aR Tryz.results112 (λ w hw=>?_)
  exact⟨by rw[Gu (by omega)];rfl,hw.done⟩
 ·refine kG ?_;refine En ?_
  refine fN [4,5,11,12,13,14,15,16,17,18,19,20,21,22,23,24,25] (λ k=>[(5,.int .i64 ((k:Nat):Int))]) (λ k=>k<=xs.length/\xs.take k=ys.take k) (λ k=>xs.length-k) (0) (⟨Nat.zero_le _,by simp⟩) ?_ (λ k f hx=>?_)
  ·repeat (first|exact bJ _|refine bE (by exact rfl) ?_)
  dsimp only[gP,List.map,List.cons_append,List.nil_append]
  refine C6 ?_;refine dE ?_;refine yU ?_
  refine bC (λ c14=>?_) (λ c14=>?_)
  ·refine qG ?_;refine aT ?_;refine gF [0,1,2,3,4,5,6,7,8] ?_;refine gT ?_;refine Qk ?_;refine gT ?_;refine Qk ?_;refine Ny ?_;refine eA ?_
   refine bC (λ c25=>?_) (λ c25=>?_)
   ·refine cR ?_
    refine aR Tryz.results112 (λ w hw=>?_)
    exact⟨by rw[H7 c25];rfl,hw.done⟩
   ·refine oF ?_;refine xV ?_
    refine eJ (k+1) ?_ ?_ ?_
    ·omega
    ·repeat' (first|exact bJ _|refine bE ?_ ?_)
     exact rfl
    ·exact⟨by omega,xF hx.2 (by omega) (by omega) c25⟩
  ·refine bO rfl ?_;refine cR ?_
   refine aR Tryz.results112 (λ w hw=>?_)
   exact⟨by rw[C1 (k:=k) (by omega) (by omega) hx.2];rfl,hw.done⟩
theorem zn{xs ys:List Pr}{a b:Option Addr}{ca cb:Nat}{w:World}(ha:Cl w a (dC xs))(hb:Cl w b (dC ys))(hx:xs.length<4611686018427387904) :
  Calls Tryz.prog 155 #[.slice a xs.length ca,.slice b ys.length cb] w λ e w'=>e=.returned (.bool (decide (xs=ys)))/\St w [] [] w':=by
 refine enter Tryz.func155 Tryz.ntmps155 rfl rfl (SF.s2 ha hb) ?_
 simp only[bX]
 refine cR ?_;refine kY ?_;refine dE ?_;refine aA ?_;refine dE ?_;refine kM ?_;refine aG ?_
 refine bC (λ c10=>?_) (λ c10=>?_)
 ·refine cR ?_
  refine aR Tryz.results155 (λ w hw=>?_)
  exact⟨by rw[Gv (by omega)];rfl,hw.done⟩
 ·refine kG ?_;refine En ?_
  refine fN [4,5,11,12,13,14,15,16,17,18,19,20,21,22,23,24,25] (λ k=>[(5,.int .i64 ((k:Nat):Int))]) (λ k=>k<=xs.length/\xs.take k=ys.take k) (λ k=>xs.length-k) (0) (⟨Nat.zero_le _,by simp⟩) ?_ (λ k f hx=>?_)
  ·repeat (first|exact bJ _|refine bE (by exact rfl) ?_)
  dsimp only[gP,List.map,List.cons_append,List.nil_append]
  refine C6 ?_;refine dE ?_;refine yU ?_
  refine bC (λ c14=>?_) (λ c14=>?_)
  ·refine qG ?_;refine aT ?_;refine gF [0,1,2,3,4,5,6,7,8] ?_;refine gT ?_;refine Qk ?_;refine gT ?_;refine Qk ?_;refine T9 ?_;refine eA ?_
   refine bC (λ c25=>?_) (λ c25=>?_)
   ·refine cR ?_
    refine aR Tryz.results155 (λ w hw=>?_)
    exact⟨by rw[Gp λ h=>c25 ⟨congrArg Prod.fst h,congrArg Prod.snd h⟩];rfl,hw.done⟩
   ·refine oF ?_;refine xV ?_
    refine eJ (k+1) ?_ ?_ ?_
    ·omega
    ·repeat' (first|exact bJ _|refine bE ?_ ?_)
     exact rfl
    ·exact⟨by omega,xF hx.2 (by omega) (by omega) (Prod.ext c25.1 c25.2)⟩
  ·refine bO rfl ?_;refine cR ?_
   refine aR Tryz.results155 (λ w hw=>?_)
   exact⟨by rw[C4 (k:=k) (by omega) (by omega) hx.2];rfl,hw.done⟩
theorem q8{xs ys:List Int}{a b:Option Addr}{ca cb:Nat}{w:World}(ha:Cl w a (aH xs))(hb:Cl w b (aH ys))(hx:xs.length<4611686018427387904) :
  Calls Tryz.prog 236 #[.slice a xs.length ca,.slice b ys.length cb] w λ e w'=>e=.returned (.bool (xs==ys))/\St w [] [] w':=by
 refine enter Tryz.func236 Tryz.ntmps236 rfl rfl (SF.s2 ha hb) ?_
 simp only[bX]
 refine cR ?_;refine kY ?_;refine dE ?_;refine aA ?_;refine dE ?_;refine kM ?_;refine aG ?_
 refine bC (λ c10=>?_) (λ c10=>?_)
 ·refine cR ?_
  refine aR Tryz.results236 (λ w hw=>?_)
  exact⟨by rw[Gu (by omega)];rfl,hw.done⟩
 ·refine kG ?_;refine J2 ?_;refine dE ?_;refine Ds ?_;refine cZ ?_
  refine fN [4,5,13,14,15,16,17,18,19,20,21,22,23,24,25] (λ k=>[(13,.int .i64 ((k:Nat):Int))]) (λ k=>k<=xs.length/\xs.take k=ys.take k) (λ k=>xs.length-k) (0) (⟨Nat.zero_le _,by simp⟩) ?_ (λ k f hx=>?_)
  ·repeat (first|exact bJ _|refine bE (by exact rfl) ?_)
  dsimp only[gP,List.map,List.cons_append,List.nil_append]
  refine J0 ?_;refine yU ?_;refine aT ?_
  refine bC (λ c14=>?_) (λ c14=>?_)
  ·refine qG ?_;refine J2 ?_;refine hZ ?_;refine gF [0,1,2,3,4,5,6,7,8] ?_;refine gT ?_;refine Qk ?_;refine gT ?_;refine Qk ?_;refine Ny ?_;refine eA ?_
   refine bC (λ c24=>?_) (λ c24=>?_)
   ·refine cR ?_
    refine aR Tryz.results236 (λ w hw=>?_)
    exact⟨by rw[H7 c24];rfl,hw.done⟩
   ·refine oF ?_;refine W5 ?_;refine Ds ?_
    refine eJ (k+1) ?_ ?_ ?_
    ·omega
    ·repeat' (first|exact bJ _|refine bE ?_ ?_)
     exact rfl
    ·exact⟨by omega,xF hx.2 (by omega) (by omega) c24⟩
  ·refine bO rfl ?_;refine cR ?_
   refine aR Tryz.results236 (λ w hw=>?_)
   exact⟨by rw[C1 (k:=k) (by omega) (by omega) hx.2];rfl,hw.done⟩
theorem uv{xs ys:List Pr}{a b:Option Addr}{ca cb:Nat}{w:World}(ha:Cl w a (dC xs))(hb:Cl w b (dC ys))(hx:xs.length<4611686018427387904) :
  Calls Tryz.prog 237 #[.slice a xs.length ca,.slice b ys.length cb] w λ e w'=>e=.returned (.bool (decide (xs=ys)))/\St w [] [] w':=by
 refine enter Tryz.func237 Tryz.ntmps237 rfl rfl (SF.s2 ha hb) ?_
 simp only[bX]
 refine cR ?_;refine kY ?_;refine dE ?_;refine aA ?_;refine dE ?_;refine kM ?_;refine aG ?_
 refine bC (λ c10=>?_) (λ c10=>?_)
 ·refine cR ?_
  refine aR Tryz.results237 (λ w hw=>?_)
  exact⟨by rw[Gv (by omega)];rfl,hw.done⟩
 ·refine kG ?_;refine J2 ?_;refine dE ?_;refine Ds ?_;refine cZ ?_
  refine fN [4,5,13,14,15,16,17,18,19,20,21,22,23,24,25] (λ k=>[(13,.int .i64 ((k:Nat):Int))]) (λ k=>k<=xs.length/\xs.take k=ys.take k) (λ k=>xs.length-k) (0) (⟨Nat.zero_le _,by simp⟩) ?_ (λ k f hx=>?_)
  ·repeat (first|exact bJ _|refine bE (by exact rfl) ?_)
  dsimp only[gP,List.map,List.cons_append,List.nil_append]
  refine J0 ?_;refine yU ?_;refine aT ?_
  refine bC (λ c14=>?_) (λ c14=>?_)
  ·refine qG ?_;refine J2 ?_;refine hZ ?_;refine gF [0,1,2,3,4,5,6,7,8] ?_;refine gT ?_;refine Qk ?_;refine gT ?_;refine Qk ?_;refine T9 ?_;refine eA ?_
   refine bC (λ c24=>?_) (λ c24=>?_)
   ·refine cR ?_
    refine aR Tryz.results237 (λ w hw=>?_)
    exact⟨by rw[Gp λ h=>c24 ⟨congrArg Prod.fst h,congrArg Prod.snd h⟩];rfl,hw.done⟩
   ·refine oF ?_;refine W5 ?_;refine Ds ?_
    refine eJ (k+1) ?_ ?_ ?_
    ·omega
    ·repeat' (first|exact bJ _|refine bE ?_ ?_)
     exact rfl
    ·exact⟨by omega,xF hx.2 (by omega) (by omega) (Prod.ext c24.1 c24.2)⟩
  ·refine bO rfl ?_;refine cR ?_
   refine aR Tryz.results237 (λ w hw=>?_)
   exact⟨by rw[C4 (k:=k) (by omega) (by omega) hx.2];rfl,hw.done⟩
end

end Go.Proofs.YtbajmaoegmbfgaaGreat
