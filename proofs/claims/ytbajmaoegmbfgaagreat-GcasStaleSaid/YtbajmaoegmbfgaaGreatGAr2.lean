/- Merged. -/
import Derived.Test.YtbajmaoegmbfgaaGreatGJoin
import Derived.Test.YtbajmaoegmbfgaaGreatGMem
import Derived.Test.YtbajmaoegmbfgaaGreatAuto
set_option linter.unusedSimpArgs false
set_option linter.unusedVariables false
namespace Go.Ct
section
def aW(cs:List Int)(c:Int):Int:=if 1<=c/\c<=cs.length then cs.getD (c-1).toNat 0 else 0
def fZ(cs:List Int)(c bJ:Int):Prop:=1<=c/\c<=cs.length/\cs.getD (c-1).toNat 0=bJ
def dE(cs:List Int)(c bJ new:Int):List Int:=if 1<=c/\c<=cs.length/\cs.getD (c-1).toNat 0=bJ then cs.set (c-1).toNat new else cs
def up(i:Int):Int:=Go.IntKind.i64.wrap (i+1)
theorem sD{cs:List Int}{c:Int}(h:¬(1<=c/\c<=cs.length)):aW cs c=0:=if_neg h
theorem Hn{cs:List Int}{k:Nat}(h:k<cs.length):aW cs ((k+1:Nat):Int)=cs.getD k 0:=by
 unfold aW
 rw[if_pos (by omega),show(((k+1:Nat):Int)-1).toNat=k by omega]
theorem uB{cs:List Int}{c bJ new:Int}(h:¬(1<=c/\c<=cs.length/\cs.getD (c-1).toNat 0=bJ)):dE cs c bJ new=cs:=if_neg h
theorem Wb{cs:List Int}{k:Nat}{bJ new:Int}(h:k<cs.length)(ho:cs.getD k 0=bJ):dE cs ((k+1:Nat):Int) bJ new=cs.set k new:=by
 have e:(((k+1:Nat):Int)-1).toNat=k:=by omega
 unfold dE
 rw[e,if_pos ⟨by omega,by omega,ho⟩]
theorem nz{cs:List Int}{c bJ:Int}(h:c<1):(false=true↔fZ cs c bJ):=⟨(λ h=>nomatch h),λ h2=>absurd h2.1 (by omega)⟩
theorem Uw{cs:List Int}{c bJ new:Int}(h:c<1):dE cs c bJ new=cs:=uB (by omega)
theorem nq{cs:List Int}{c bJ:Int}(h:(cs.length:Int)<c):(false=true↔fZ cs c bJ):=⟨(λ h=>nomatch h),λ h2=>absurd h2.2.1 (by omega)⟩
theorem Vr{cs:List Int}{c bJ new:Int}(h:(cs.length:Int)<c):dE cs c bJ new=cs:=uB (by omega)
theorem dm{cs:List Int}{k:Nat}{bJ:Int}(h:cs.getD k 0≠bJ):(false=true↔fZ cs ((k+1:Nat):Int) bJ):=⟨(λ h=>nomatch h),λ h2=>absurd (by have:=h2.2.2;rwa [show(((k+1:Nat):Int)-1).toNat=k by omega] at this) h⟩
theorem V6{cs:List Int}{k:Nat}{bJ new:Int}(h:cs.getD k 0≠bJ):dE cs ((k+1:Nat):Int) bJ new=cs:=uB λ h2=>absurd (by have:=h2.2.2;rwa [show(((k+1:Nat):Int)-1).toNat=k by omega] at this) h
theorem j4{cs:List Int}{k:Nat}{bJ:Int}(hk:k<cs.length)(h:cs.getD k 0=bJ):(true=true↔fZ cs ((k+1:Nat):Int) bJ):=⟨λ _=>⟨by omega,by omega,by rw[show(((k+1:Nat):Int)-1).toNat=k by omega];exact h⟩,λ _=>rfl⟩
theorem fI{cs:List Int}{c bJ new:Int}:(dE cs c bJ new).length=cs.length:=by unfold dE;split<;>simp
end
end Go.Ct
namespace Go.Proofs.YtbajmaoegmbfgaaGreat
open Go.Proofs.Tryz (prog)
open Go.RowKit Go.Ct
section
variable{w:World}{D:List Nat}{b:Nat}{L:List aP}{cs:List Int}{gen acc:Int}{pn pc:Option Addr}{cn cc:Nat}{A:Fr}
theorem Ja(hs:SF w D [(b,mO L cs gen acc pn cn pc cc)] A [] (mW L cs pn cn pc cc) w):Calls prog 100 #[.pointer (some ⟨b,0,none⟩)] w λ e w'=>∃q:Unit,e=.returned (.int .i64 (up gen))/\True/\SF w D [(b,mO L cs (up gen) acc pn cn pc cc)] [] [] (mW L cs pn cn pc cc) w':=by
 refine enter Tryz.func100 Tryz.ntmps100 rfl rfl (yX hs) ?_
 simp only[cC]
 refine cX ?_;refine I1 ?_;refine J3 ?_;refine aC (oM rf rf) rfl ?_;refine Nu ?_;refine uM ?_;refine I1 ?_;refine J3 ?_;refine J1 ?_
 refine aR Tryz.results100 (λ w hw=>?_)
 exact⟨(),rfl,trivial,by simpa[mO,mW] using hw.aX (F':=[])⟩
theorem Z0(hs:SF w D [(b,mO L cs gen acc pn cn pc cc)] A [] (mW L cs pn cn pc cc) w)(c:Int)(hc:c<1):Calls prog 241 #[.pointer (some ⟨b,0,none⟩),.int .i64 c] w λ e w'=>∃q:Unit,e=.returned (.int .i64 (aW cs c))/\True/\SF w D [(b,mO L cs gen (up acc) pn cn pc cc)] [] [] (mW L cs pn cn pc cc) w':=by
 refine enter Tryz.func241 Tryz.ntmps241 rfl rfl (yX hs) ?_
 simp only[cC]
 refine cX ?_;refine mD ?_;refine aC (oM rf rf) rfl ?_;refine Nz ?_;refine Kb6 ?_
 (refine eJ 14 (λ g14=>?_) (λ g14=>?_)<;>(try (exfalso;omega))<;>(refine aI ?_))
 refine yr ?_;refine Si ?_;refine Ka6 ?_
 refine bC (λ c23=>?_) (λ c23=>?_)
 ·try (exfalso;omega)
  refine cX ?_
  refine aR Tryz.results241 (λ w hw=>?_)
  (exact⟨(),by rw[sD (by omega)];rfl,trivial,hw.aX⟩)
 ·exact nv c23
theorem qj(hs:SF w D [(b,mO L cs gen acc pn cn pc cc)] A [] (mW L cs pn cn pc cc) w)(c:Int)(bJ new:Int)(hc:c<1):Calls prog 242 #[.pointer (some ⟨b,0,none⟩),.int .i64 c,.int .i64 bJ,.int .i64 new] w λ e w'=>∃r:Bool,e=.returned (.bool r)/\(r=true↔fZ cs c bJ)/\SF w D [(b,mO L (dE cs c bJ new) gen (up acc) pn cn pc cc)] [] [] (mW L (dE cs c bJ new) pn cn pc cc) w':=by
 refine enter Tryz.func242 Tryz.ntmps242 rfl rfl (yX hs) ?_
 simp only[cC]
 refine cX ?_;refine mD ?_;refine aC (oM rf rf) rfl ?_;refine Nz ?_;refine Kb6 ?_
 (refine eJ 18 (λ g18=>?_) (λ g18=>?_)<;>(try (exfalso;omega))<;>(refine aI ?_))
 refine yr ?_;refine Si ?_;refine Am ?_;refine aA ?_
 refine aI ?_
 refine J36 ?_;refine J6 ?_;refine J68 ?_;(refine aI ?_);refine db ?_;refine Rx ?_;refine aH ?_
 refine bC (λ c40=>?_) (λ c40=>?_)
 ·try (exfalso;omega)
  refine cX ?_
  refine aR Tryz.results242 (λ w hw=>?_)
  (exact⟨false,rfl,nz hc,by rw[Uw hc];exact hw.aX⟩)
 ·exact nv c40
theorem iu(hs:SF w D [(b,mO L cs gen acc pn cn pc cc)] A [] (mW L cs pn cn pc cc) w){k:Nat}(hk:(k:Int)<9223372036854775807)(hl:cs.length<=274877906944):Calls prog 241 #[.pointer (some ⟨b,0,none⟩),.int .i64 ((k+1:Nat):Int)] w λ e w'=>∃q:Unit,e=.returned (.int .i64 (aW cs ((k+1:Nat):Int)))/\True/\SF w D [(b,mO L cs gen (up acc) pn cn pc cc)] [] [] (mW L cs pn cn pc cc) w':=by
 refine enter Tryz.func241 Tryz.ntmps241 rfl rfl (yX hs) ?_
 simp only[cC]
 refine cX ?_;refine mD ?_;refine aC (oM rf rf) rfl ?_;refine Nz ?_;refine Kb6 ?_
 (refine Ka3 ?_)
 refine yr ?_;refine Si ?_;refine Ka6 ?_
 refine bC (λ c23=>?_) (λ c23=>?_)
 ·try (exfalso;omega)
  refine cX ?_
  refine aR Tryz.results241 (λ w hw=>?_)
  (exact⟨(),by rw[sD (by omega)];rfl,trivial,hw.aX⟩)
 ·try (exfalso;omega)
  refine aZ ?_;refine I1 ?_;refine J3 ?_;refine aA ?_;refine rD ?_;refine Rp ?_;refine J1 ?_
  refine aR Tryz.results241 (λ w hw=>?_)
  (exact⟨(),by rw[Hn (by omega)];rfl,trivial,hw.aX⟩)
theorem r9(hs:SF w D [(b,mO L cs gen acc pn cn pc cc)] A [] (mW L cs pn cn pc cc) w){k:Nat}(hk:(k:Int)<9223372036854775807)(bJ new:Int)(hl:cs.length<=274877906944):Calls prog 242 #[.pointer (some ⟨b,0,none⟩),.int .i64 ((k+1:Nat):Int),.int .i64 bJ,.int .i64 new] w λ e w'=>∃r:Bool,e=.returned (.bool r)/\(r=true↔fZ cs ((k+1:Nat):Int) bJ)/\SF w D [(b,mO L (dE cs ((k+1:Nat):Int) bJ new) gen (up acc) pn cn pc cc)] [] [] (mW L (dE cs ((k+1:Nat):Int) bJ new) pn cn pc cc) w':=by
 refine enter Tryz.func242 Tryz.ntmps242 rfl rfl (yX hs) ?_
 simp only[cC]
 refine cX ?_;refine mD ?_;refine aC (oM rf rf) rfl ?_;refine Nz ?_;refine Kb6 ?_
 (refine Ka3 ?_)
 refine yr ?_;refine Si ?_;refine Am ?_;refine aA ?_
 (refine eJ 28 (λ g28=>?_) (λ g28=>?_)<;>refine Ka0 ?_)
 all_goals (refine J36 ?_;refine J6 ?_;refine J68 ?_;(first|refine aI ?_|(refine aE ?_;refine fP ?_));refine db ?_;refine Rx ?_;refine aH ?_)
 all_goals
 refine bC (λ c40=>?_) (λ c40=>?_)
 ·all_goals try (exfalso;omega)
  all_goals refine cX ?_
  all_goals
   refine aR Tryz.results242 (λ w hw=>?_)
   first|exact⟨false,rfl,nq (by omega),by rw[Vr (by omega)];exact hw.aX⟩|exact⟨false,rfl,dm (by simpa using c40),by rw[V6 (by simpa using c40)];exact hw.aX⟩ 
 ·try exact nv c40
  all_goals (refine aZ ?_;refine I1 ?_;refine J3 ?_;refine aA ?_;refine rD ?_;refine aA ?_;refine fP ?_;refine J5 ?_;refine cX ?_)
  all_goals
   refine aR Tryz.results242 (λ w hw=>?_)
   (exact⟨true,rfl,j4 (by omega) (by simpa using c40),by rw[Wb (by omega) (by simpa using c40)];simpa[mW,aO,mO] using hw.aX (F':=[])⟩)
theorem sg(hs:SF w D [(b,mO L cs gen acc pn cn pc cc)] A [] (mW L cs pn cn pc cc) w)(c:Int)(hc:c<=9223372036854775807)(hl:cs.length<=274877906944):Calls prog 241 #[.pointer (some ⟨b,0,none⟩),.int .i64 c] w λ e w'=>∃q:Unit,e=.returned (.int .i64 (aW cs c))/\True/\SF w D [(b,mO L cs gen (up acc) pn cn pc cc)] [] [] (mW L cs pn cn pc cc) w':=by
 rcases Int.lt_or_le c 1 with h|h
 ·exact Z0 hs c h
 ·obtain⟨k,rfl⟩:∃k:Nat,c=((k+1:Nat):Int):=⟨(c-1).toNat,by omega⟩
  exact iu hs (by omega) hl
theorem aAv(hs:SF w D [(b,mO L cs gen acc pn cn pc cc)] A [] (mW L cs pn cn pc cc) w)(c bJ new:Int)(hc:c<=9223372036854775807)(hl:cs.length<=274877906944):Calls prog 242 #[.pointer (some ⟨b,0,none⟩),.int .i64 c,.int .i64 bJ,.int .i64 new] w λ e w'=>∃r:Bool,e=.returned (.bool r)/\(r=true↔fZ cs c bJ)/\SF w D [(b,mO L (dE cs c bJ new) gen (up acc) pn cn pc cc)] [] [] (mW L (dE cs c bJ new) pn cn pc cc) w':=by
 rcases Int.lt_or_le c 1 with h|h
 ·exact qj hs c bJ new h
 ·obtain⟨k,rfl⟩:∃k:Nat,c=((k+1:Nat):Int):=⟨(c-1).toNat,by omega⟩
  exact r9 hs (by omega) bJ new hl
theorem Nf(hs:SF w D [(b,aO L cs gen acc pn cn pc cc)] A [] (mW L cs pn cn pc cc) w)(c:Int):Calls prog 85 #[.pointer (some ⟨b,0,none⟩),.int .i64 c] w λ e w'=>∃q:Unit,e=.returned (.bool (decide (1<=c/\c<=(cs.length:Int))))/\True/\SF w D [(b,aO L cs gen acc pn cn pc cc)] [] [] (mW L cs pn cn pc cc) w':=by
 refine enter Tryz.func85 Tryz.ntmps85 rfl rfl (yL hs) ?_
 simp only[cC]
 refine Kc5 ?_;refine oG ?_;refine aA ?_
 (refine eJ 7 (λ g7=>?_) (λ g7=>?_)<;>refine Ka0 ?_)
 all_goals (refine Ka0 ?_;refine Kb4 ?_;refine Si ?_;(first|refine aI ?_|(refine aE ?_;refine Bb ?_));refine Kb7 ?_)
 all_goals
 refine aR Tryz.results85 (λ w hw=>?_)
 first|exact⟨(),by rw[decide_eq_false (show ¬(1<=c/\c<=(cs.length:Int)) by omega)];first|rfl|(rw[decide_eq_false (by omega)];rfl),trivial,hw.aX⟩|exact⟨(),by rw[show decide (1<=c/\c<=(cs.length:Int))=decide (c<=(cs.length:Int)) by simp;omega];rfl,trivial,hw.aX⟩
theorem bh(hs:SF w D [(b,aO L cs gen acc pn cn pc cc)] A [] (mW L cs pn cn pc cc) w)(c:Int)(hc:c<1):Calls prog 35 #[.pointer (some ⟨b,0,none⟩),.int .i64 c] w λ e w'=>∃q:Unit,e=.returned (.int .i64 (aW cs c))/\True/\SF w D [(b,aO L cs gen (up acc) pn cn pc cc)] [] [] (mW L cs pn cn pc cc) w':=by
 refine enter Tryz.func35 Tryz.ntmps35 rfl rfl (yL hs) ?_
 simp only[cC]
 refine cX ?_;refine mD ?_;refine aC (oM rf rf) rfl ?_;refine Nz ?_;refine C6 ?_;refine aD (cM (hc:=λ w hs=>Nf hs c)) (λ x14 h14=>?_);refine oV ?_
 refine bC (λ c15=>?_) (λ c15=>?_)
 ·try (exfalso;omega)
  refine cX ?_
  refine aR Tryz.results35 (λ w hw=>?_)
  (exact⟨(),by rw[sD (by omega)];rfl,trivial,hw.aX⟩)
 ·try (exfalso;omega)
theorem sd(hs:SF w D [(b,aO L cs gen acc pn cn pc cc)] A [] (mW L cs pn cn pc cc) w)(c:Int)(bJ new:Int)(hc:c<1):Calls prog 279 #[.pointer (some ⟨b,0,none⟩),.int .i64 c,.int .i64 bJ,.int .i64 new] w λ e w'=>∃r:Bool,e=.returned (.bool r)/\(r=true↔fZ cs c bJ)/\SF w D [(b,aO L (dE cs c bJ new) gen (up acc) pn cn pc cc)] [] [] (mW L (dE cs c bJ new) pn cn pc cc) w':=by
 refine enter Tryz.func279 Tryz.ntmps279 rfl rfl (yL hs) ?_
 simp only[cC]
 refine cX ?_;refine mD ?_;refine aC (oM rf rf) rfl ?_;refine Nz ?_;refine C6 ?_;refine aD (cM (hc:=λ w hs=>Nf hs c)) (λ x18 h18=>?_);refine Dg ?_
 (refine eJ 20 (λ g20=>?_) (λ g20=>?_)<;>(try (exfalso;omega))<;>(refine aI ?_))
 (refine aI ?_);refine J6 ?_;refine J68 ?_;(refine aI ?_);refine db ?_;refine Rx ?_;refine aH ?_
 refine bC (λ c31=>?_) (λ c31=>?_)
 ·try (exfalso;omega)
  refine cX ?_
  refine aR Tryz.results279 (λ w hw=>?_)
  (exact⟨false,rfl,nz hc,by rw[Uw hc];exact hw.aX⟩)
 ·exact nv c31
theorem ny(hs:SF w D [(b,aO L cs gen acc pn cn pc cc)] A [] (mW L cs pn cn pc cc) w){k:Nat}(hk:(k:Int)<9223372036854775807)(hl:cs.length<=274877906944):Calls prog 35 #[.pointer (some ⟨b,0,none⟩),.int .i64 ((k+1:Nat):Int)] w λ e w'=>∃q:Unit,e=.returned (.int .i64 (aW cs ((k+1:Nat):Int)))/\True/\SF w D [(b,aO L cs gen (up acc) pn cn pc cc)] [] [] (mW L cs pn cn pc cc) w':=by
 refine enter Tryz.func35 Tryz.ntmps35 rfl rfl (yL hs) ?_
 simp only[cC]
 refine cX ?_;refine mD ?_;refine aC (oM rf rf) rfl ?_;refine Nz ?_;refine C6 ?_;refine aD (cM (hc:=λ w hs=>Nf hs ((k+1:Nat):Int))) (λ x14 h14=>?_);refine oV ?_
 refine bC (λ c15=>?_) (λ c15=>?_)
 ·try (exfalso;omega)
  refine cX ?_
  refine aR Tryz.results35 (λ w hw=>?_)
  (exact⟨(),by rw[sD (by omega)];rfl,trivial,hw.aX⟩)
 ·try (exfalso;omega)
  refine v9 ?_;refine aA ?_;refine rD ?_;refine Rp ?_;refine J1 ?_
  refine aR Tryz.results35 (λ w hw=>?_)
  (exact⟨(),by rw[Hn (by omega)];rfl,trivial,hw.aX⟩)
theorem pw(hs:SF w D [(b,aO L cs gen acc pn cn pc cc)] A [] (mW L cs pn cn pc cc) w){k:Nat}(hk:(k:Int)<9223372036854775807)(bJ new:Int)(hl:cs.length<=274877906944):Calls prog 279 #[.pointer (some ⟨b,0,none⟩),.int .i64 ((k+1:Nat):Int),.int .i64 bJ,.int .i64 new] w λ e w'=>∃r:Bool,e=.returned (.bool r)/\(r=true↔fZ cs ((k+1:Nat):Int) bJ)/\SF w D [(b,aO L (dE cs ((k+1:Nat):Int) bJ new) gen (up acc) pn cn pc cc)] [] [] (mW L (dE cs ((k+1:Nat):Int) bJ new) pn cn pc cc) w':=by
 refine enter Tryz.func279 Tryz.ntmps279 rfl rfl (yL hs) ?_
 simp only[cC]
 refine cX ?_;refine mD ?_;refine aC (oM rf rf) rfl ?_;refine Nz ?_;refine C6 ?_;refine aD (cM (hc:=λ w hs=>Nf hs ((k+1:Nat):Int))) (λ x18 h18=>?_);refine Dg ?_
 (refine eJ 20 (λ g20=>?_) (λ g20=>?_)<;>refine Ka0 ?_)
 all_goals (refine Kb4 ?_;refine J6 ?_;refine J68 ?_;(first|refine aI ?_|(refine aE ?_;refine fP ?_));refine db ?_;refine Rx ?_;refine aH ?_)
 all_goals
 refine bC (λ c31=>?_) (λ c31=>?_)
 ·all_goals try (exfalso;omega)
  all_goals refine cX ?_
  all_goals
   refine aR Tryz.results279 (λ w hw=>?_)
   first|exact⟨false,rfl,nq (by omega),by rw[Vr (by omega)];exact hw.aX⟩|exact⟨false,rfl,dm (by simpa using c31),by rw[V6 (by simpa using c31)];exact hw.aX⟩ 
 ·try exact nv c31
  all_goals (refine v9 ?_;refine aA ?_;refine rD ?_;refine aA ?_;refine fP ?_;refine J5 ?_;refine cX ?_)
  all_goals
   refine aR Tryz.results279 (λ w hw=>?_)
   (exact⟨true,rfl,j4 (by omega) (by simpa using c31),by rw[Wb (by omega) (by simpa using c31)];simpa[mW,aO,mO] using hw.aX (F':=[])⟩)
theorem Nc(hs:SF w D [(b,aO L cs gen acc pn cn pc cc)] A [] (mW L cs pn cn pc cc) w)(c:Int)(hc:c<=9223372036854775807)(hl:cs.length<=274877906944):Calls prog 35 #[.pointer (some ⟨b,0,none⟩),.int .i64 c] w λ e w'=>∃q:Unit,e=.returned (.int .i64 (aW cs c))/\True/\SF w D [(b,aO L cs gen (up acc) pn cn pc cc)] [] [] (mW L cs pn cn pc cc) w':=by
 rcases Int.lt_or_le c 1 with h|h
 ·exact bh hs c h
 ·obtain⟨k,rfl⟩:∃k:Nat,c=((k+1:Nat):Int):=⟨(c-1).toNat,by omega⟩
  exact ny hs (by omega) hl
theorem aAo(hs:SF w D [(b,aO L cs gen acc pn cn pc cc)] A [] (mW L cs pn cn pc cc) w)(c bJ new:Int)(hc:c<=9223372036854775807)(hl:cs.length<=274877906944):Calls prog 279 #[.pointer (some ⟨b,0,none⟩),.int .i64 c,.int .i64 bJ,.int .i64 new] w λ e w'=>∃r:Bool,e=.returned (.bool r)/\(r=true↔fZ cs c bJ)/\SF w D [(b,aO L (dE cs c bJ new) gen (up acc) pn cn pc cc)] [] [] (mW L (dE cs c bJ new) pn cn pc cc) w':=by
 rcases Int.lt_or_le c 1 with h|h
 ·exact sd hs c bJ new h
 ·obtain⟨k,rfl⟩:∃k:Nat,c=((k+1:Nat):Int):=⟨(c-1).toNat,by omega⟩
  exact pw hs (by omega) bJ new hl
end
end Go.Proofs.YtbajmaoegmbfgaaGreat
namespace Go.Ct
open Go Go.RowKit
section
structure Ac where
 k:Int
 c:Int
 o:Int
 n:Int
structure Rs where
 err:Int
 found:Bool
 val:Int
 key:ByteArray
 gA:Int
 ref:Int
 root:Int
 ro:Bool
abbrev Ac.cells(a:Ac):List Value:=[.int .i64 a.k,.int .i64 a.c,.int .i64 a.o,.int .i64 a.n]
abbrev Rs.cells(r:Rs):List Value:=[.int .i64 r.err,.bool r.found,.int .u64 r.val,.string r.key,.int .i64 r.gA,.int .i64 r.ref,.int .i64 r.root,.bool r.ro]
abbrev Rs.zero:Rs:=⟨0,false,0,⟨#[]⟩,0,0,0,false⟩
abbrev Ac.zero:Ac:=⟨0,0,0,0⟩
end
end Go.Ct
namespace Go.Proofs.YtbajmaoegmbfgaaGreat
open Go.RowKit Go.Ct
section
theorem Dk{α} [BEq α] [LawfulBEq α] {xs ys:List α}{k:Nat}(h:xs.length=ys.length)(hk:¬k<xs.length)(ht:xs.take k=ys.take k):(xs==ys)=true:=by
 rw[List.take_of_length_le (by omega),List.take_of_length_le (by omega)] at ht
 simp[ht]
theorem G9{α} [BEq α] [LawfulBEq α] {xs ys:List α}(h:xs.length≠ys.length):(xs==ys)=false:=by
 simp only[beq_eq_false_iff_ne,ne_eq]
 intro e;rw[e] at h;exact h rfl
theorem F8{α} [BEq α] [LawfulBEq α] {xs ys:List α}{k:Nat}{d:α}(h:xs.getD k d≠ys.getD k d):(xs==ys)=false:=by
 simp only[beq_eq_false_iff_ne,ne_eq]
 intro e;rw[e] at h;exact h rfl
theorem C1{α} [DecidableEq α] {xs ys:List α}{k:Nat}(h:xs.length=ys.length)(hk:¬k<xs.length)(ht:xs.take k=ys.take k):decide (xs=ys)=true:=by
 rw[List.take_of_length_le (by omega),List.take_of_length_le (by omega)] at ht
 simp[ht]
theorem Fe{α} [DecidableEq α] {xs ys:List α}(h:xs.length≠ys.length):decide (xs=ys)=false:=decide_eq_false λ e=>h (by rw[e])
theorem Ff{α} [DecidableEq α] {xs ys:List α}{k:Nat}{d:α}(h:xs.getD k d≠ys.getD k d):decide (xs=ys)=false:=decide_eq_false λ e=>h (by rw[e])
theorem xV{α}{xs ys:List α}{k:Nat}{d:α}(h:xs.take k=ys.take k)(hk:k<xs.length)(hl:xs.length=ys.length)(he:xs.getD k d=ys.getD k d):xs.take (k+1)=ys.take (k+1):=by
 rw[List.take_add_one,List.take_add_one,h,List.getElem?_eq_getElem hk,List.getElem?_eq_getElem (hl▸hk)]
 simp only[List.getD,List.getElem?_eq_getElem hk,List.getElem?_eq_getElem (hl▸hk:k<ys.length),Option.getD_some] at he
 rw[he]
theorem xc{xs ys:List Int}{a b:Option Addr}{ca cb:Nat}{w:World}(ha:Cl w a (aG xs))(hb:Cl w b (aG ys))(hx:xs.length<4611686018427387904) :
  Calls Tryz.prog 112 #[.slice a xs.length ca,.slice b ys.length cb] w λ e w'=>e=.returned (.bool (xs==ys))/\St w [] [] w':=by
 refine enter Tryz.func112 Tryz.ntmps112 rfl rfl (SF.s2 ha hb) ?_
 simp only[cC]
 refine cX ?_;refine kT ?_;refine dR ?_;refine aA ?_;refine dR ?_;refine Kc8 ?_
 refine bC (λ c10=>?_) (λ c10=>?_)
 ·refine cX ?_
  refine aR Tryz.results112 (λ w hw=>?_)
  exact⟨by rw[G9 (by omega)];rfl,hw.done⟩
 ·refine kW ?_;refine Ex ?_
  refine iD [4,5,11,12,13,14,15,16,17,18,19,20,21,22,23,24,25] (λ k=>[(5,.int .i64 ((k:Nat):Int))]) (λ k=>k<=xs.length/\xs.take k=ys.take k) (λ k=>xs.length-k) (0) (⟨Nat.zero_le _,by simp⟩) ?_ (λ k f hx=>?_)
  ·repeat (first|exact bI _|refine bD (by exact rfl) ?_)
  dsimp only[hY,List.map,List.cons_append,List.nil_append]
  refine C6 ?_;refine dR ?_;refine Aj ?_
  refine bC (λ c14=>?_) (λ c14=>?_)
  ·refine rX ?_;refine aV ?_;refine gZ [0,1,2,3,4,5,6,7,8] ?_;refine iL ?_;refine Un ?_;refine iL ?_;refine Un ?_;refine me ?_;refine eL ?_
   refine bC (λ c25=>?_) (λ c25=>?_)
   ·refine cX ?_
    refine aR Tryz.results112 (λ w hw=>?_)
    exact⟨by rw[F8 c25];rfl,hw.done⟩
   ·refine Kc0 ?_
    refine fM (k+1) ?_ ?_ ?_
    ·omega
    ·repeat' (first|exact bI _|refine bD ?_ ?_)
     exact rfl
    ·exact⟨by omega,xV hx.2 (by omega) (by omega) c25⟩
  ·refine bP rfl ?_;refine cX ?_
   refine aR Tryz.results112 (λ w hw=>?_)
   exact⟨by rw[Dk (k:=k) (by omega) (by omega) hx.2];rfl,hw.done⟩
theorem aB3{xs ys:List Pr}{a b:Option Addr}{ca cb:Nat}{w:World}(ha:Cl w a (cY xs))(hb:Cl w b (cY ys))(hx:xs.length<4611686018427387904) :
  Calls Tryz.prog 155 #[.slice a xs.length ca,.slice b ys.length cb] w λ e w'=>e=.returned (.bool (decide (xs=ys)))/\St w [] [] w':=by
 refine enter Tryz.func155 Tryz.ntmps155 rfl rfl (SF.s2 ha hb) ?_
 simp only[cC]
 refine cX ?_;refine kT ?_;refine dR ?_;refine aA ?_;refine dR ?_;refine Kc8 ?_
 refine bC (λ c10=>?_) (λ c10=>?_)
 ·refine cX ?_
  refine aR Tryz.results155 (λ w hw=>?_)
  exact⟨by rw[Fe (by omega)];rfl,hw.done⟩
 ·refine kW ?_;refine Ex ?_
  refine iD [4,5,11,12,13,14,15,16,17,18,19,20,21,22,23,24,25] (λ k=>[(5,.int .i64 ((k:Nat):Int))]) (λ k=>k<=xs.length/\xs.take k=ys.take k) (λ k=>xs.length-k) (0) (⟨Nat.zero_le _,by simp⟩) ?_ (λ k f hx=>?_)
  ·repeat (first|exact bI _|refine bD (by exact rfl) ?_)
  dsimp only[hY,List.map,List.cons_append,List.nil_append]
  refine C6 ?_;refine dR ?_;refine Aj ?_
  refine bC (λ c14=>?_) (λ c14=>?_)
  ·refine rX ?_;refine aV ?_;refine gZ [0,1,2,3,4,5,6,7,8] ?_;refine iL ?_;refine Un ?_;refine iL ?_;refine Un ?_;refine Wa ?_;refine eL ?_
   refine bC (λ c25=>?_) (λ c25=>?_)
   ·refine cX ?_
    refine aR Tryz.results155 (λ w hw=>?_)
    exact⟨by rw[Ff λ h=>c25 ⟨congrArg Prod.fst h,congrArg Prod.snd h⟩];rfl,hw.done⟩
   ·refine Kc0 ?_
    refine fM (k+1) ?_ ?_ ?_
    ·omega
    ·repeat' (first|exact bI _|refine bD ?_ ?_)
     exact rfl
    ·exact⟨by omega,xV hx.2 (by omega) (by omega) (Prod.ext c25.1 c25.2)⟩
  ·refine bP rfl ?_;refine cX ?_
   refine aR Tryz.results155 (λ w hw=>?_)
   exact⟨by rw[C1 (k:=k) (by omega) (by omega) hx.2];rfl,hw.done⟩
theorem ql{xs ys:List Int}{a b:Option Addr}{ca cb:Nat}{w:World}(ha:Cl w a (aG xs))(hb:Cl w b (aG ys))(hx:xs.length<4611686018427387904) :
  Calls Tryz.prog 236 #[.slice a xs.length ca,.slice b ys.length cb] w λ e w'=>e=.returned (.bool (xs==ys))/\St w [] [] w':=by
 refine enter Tryz.func236 Tryz.ntmps236 rfl rfl (SF.s2 ha hb) ?_
 simp only[cC]
 refine cX ?_;refine kT ?_;refine dR ?_;refine aA ?_;refine dR ?_;refine Kc8 ?_
 refine bC (λ c10=>?_) (λ c10=>?_)
 ·refine cX ?_
  refine aR Tryz.results236 (λ w hw=>?_)
  exact⟨by rw[G9 (by omega)];rfl,hw.done⟩
 ·refine kW ?_;refine J2 ?_;refine dR ?_;refine Ip ?_;refine cS ?_
  refine iD [4,5,13,14,15,16,17,18,19,20,21,22,23,24,25] (λ k=>[(13,.int .i64 ((k:Nat):Int))]) (λ k=>k<=xs.length/\xs.take k=ys.take k) (λ k=>xs.length-k) (0) (⟨Nat.zero_le _,by simp⟩) ?_ (λ k f hx=>?_)
  ·repeat (first|exact bI _|refine bD (by exact rfl) ?_)
  dsimp only[hY,List.map,List.cons_append,List.nil_append]
  refine J0 ?_;refine Aj ?_;refine aV ?_
  refine bC (λ c14=>?_) (λ c14=>?_)
  ·refine rX ?_;refine J2 ?_;refine jF ?_;refine gZ [0,1,2,3,4,5,6,7,8] ?_;refine iL ?_;refine Un ?_;refine iL ?_;refine Un ?_;refine me ?_;refine eL ?_
   refine bC (λ c24=>?_) (λ c24=>?_)
   ·refine cX ?_
    refine aR Tryz.results236 (λ w hw=>?_)
    exact⟨by rw[F8 c24];rfl,hw.done⟩
   ·refine pI ?_;refine a8 ?_;refine Ip ?_
    refine fM (k+1) ?_ ?_ ?_
    ·omega
    ·repeat' (first|exact bI _|refine bD ?_ ?_)
     exact rfl
    ·exact⟨by omega,xV hx.2 (by omega) (by omega) c24⟩
  ·refine bP rfl ?_;refine cX ?_
   refine aR Tryz.results236 (λ w hw=>?_)
   exact⟨by rw[Dk (k:=k) (by omega) (by omega) hx.2];rfl,hw.done⟩
theorem aAu{xs ys:List Pr}{a b:Option Addr}{ca cb:Nat}{w:World}(ha:Cl w a (cY xs))(hb:Cl w b (cY ys))(hx:xs.length<4611686018427387904) :
  Calls Tryz.prog 237 #[.slice a xs.length ca,.slice b ys.length cb] w λ e w'=>e=.returned (.bool (decide (xs=ys)))/\St w [] [] w':=by
 refine enter Tryz.func237 Tryz.ntmps237 rfl rfl (SF.s2 ha hb) ?_
 simp only[cC]
 refine cX ?_;refine kT ?_;refine dR ?_;refine aA ?_;refine dR ?_;refine Kc8 ?_
 refine bC (λ c10=>?_) (λ c10=>?_)
 ·refine cX ?_
  refine aR Tryz.results237 (λ w hw=>?_)
  exact⟨by rw[Fe (by omega)];rfl,hw.done⟩
 ·refine kW ?_;refine J2 ?_;refine dR ?_;refine Ip ?_;refine cS ?_
  refine iD [4,5,13,14,15,16,17,18,19,20,21,22,23,24,25] (λ k=>[(13,.int .i64 ((k:Nat):Int))]) (λ k=>k<=xs.length/\xs.take k=ys.take k) (λ k=>xs.length-k) (0) (⟨Nat.zero_le _,by simp⟩) ?_ (λ k f hx=>?_)
  ·repeat (first|exact bI _|refine bD (by exact rfl) ?_)
  dsimp only[hY,List.map,List.cons_append,List.nil_append]
  refine J0 ?_;refine Aj ?_;refine aV ?_
  refine bC (λ c14=>?_) (λ c14=>?_)
  ·refine rX ?_;refine J2 ?_;refine jF ?_;refine gZ [0,1,2,3,4,5,6,7,8] ?_;refine iL ?_;refine Un ?_;refine iL ?_;refine Un ?_;refine Wa ?_;refine eL ?_
   refine bC (λ c24=>?_) (λ c24=>?_)
   ·refine cX ?_
    refine aR Tryz.results237 (λ w hw=>?_)
    exact⟨by rw[Ff λ h=>c24 ⟨congrArg Prod.fst h,congrArg Prod.snd h⟩];rfl,hw.done⟩
   ·refine pI ?_;refine a8 ?_;refine Ip ?_
    refine fM (k+1) ?_ ?_ ?_
    ·omega
    ·repeat' (first|exact bI _|refine bD ?_ ?_)
     exact rfl
    ·exact⟨by omega,xV hx.2 (by omega) (by omega) (Prod.ext c24.1 c24.2)⟩
  ·refine bP rfl ?_;refine cX ?_
   refine aR Tryz.results237 (λ w hw=>?_)
   exact⟨by rw[C1 (k:=k) (by omega) (by omega) hx.2];rfl,hw.done⟩
end
end Go.Proofs.YtbajmaoegmbfgaaGreat
