/- The small methods of the two memories: generations, loads, compare-and-swaps. -/
import Derived.Test.YtbajmaoegmbfgaaGreatGJoin
import Derived.Test.YtbajmaoegmbfgaaGreatGMem
import Derived.Test.YtbajmaoegmbfgaaGreatAuto

set_option linter.unusedSimpArgs false
set_option linter.unusedVariables false
namespace Go.Ct
section
def bU(cs:List Int)(c:Int):Int:=if 1<=c/\c<=cs.length then cs.getD (c-1).toNat 0 else 0
def jZ(cs:List Int)(c bK:Int):Prop:=1<=c/\c<=cs.length/\cs.getD (c-1).toNat 0=bK
def eT(cs:List Int)(c bK new:Int):List Int:=if 1<=c/\c<=cs.length/\cs.getD (c-1).toNat 0=bK then cs.set (c-1).toNat new else cs
def up(i:Int):Int:=Go.IntKind.i64.wrap (i+1)
theorem rS{cs:List Int}{c:Int}(h:¬(1<=c/\c<=cs.length)):bU cs c=0:=if_neg h
theorem Hh{cs:List Int}{k:Nat}(h:k<cs.length):bU cs ((k+1:Nat):Int)=cs.getD k 0:=by
 unfold bU
 rw[if_pos (by omega),show(((k+1:Nat):Int)-1).toNat=k by omega]
theorem Ej{cs:List Int}{c bK new:Int}(h:¬(1<=c/\c<=cs.length/\cs.getD (c-1).toNat 0=bK)):eT cs c bK new=cs:=if_neg h
theorem Vg{cs:List Int}{k:Nat}{bK new:Int}(h:k<cs.length)(ho:cs.getD k 0=bK):eT cs ((k+1:Nat):Int) bK new=cs.set k new:=by
 have e:(((k+1:Nat):Int)-1).toNat=k:=by omega
 unfold eT
 rw[e,if_pos ⟨by omega,by omega,ho⟩]
theorem ki{cs:List Int}{c bK:Int}(h:c<1):(false=true↔jZ cs c bK):=⟨(λ h=>nomatch h),λ h2=>absurd h2.1 (by omega)⟩
theorem V2{cs:List Int}{c bK new:Int}(h:c<1):eT cs c bK new=cs:=Ej (by omega)
theorem je{cs:List Int}{c bK:Int}(h:(cs.length:Int)<c):(false=true↔jZ cs c bK):=⟨(λ h=>nomatch h),λ h2=>absurd h2.2.1 (by omega)⟩
theorem Ur{cs:List Int}{c bK new:Int}(h:(cs.length:Int)<c):eT cs c bK new=cs:=Ej (by omega)
theorem ar{cs:List Int}{k:Nat}{bK:Int}(h:cs.getD k 0≠bK):(false=true↔jZ cs ((k+1:Nat):Int) bK):=⟨(λ h=>nomatch h),λ h2=>absurd (by have:=h2.2.2;rwa [show(((k+1:Nat):Int)-1).toNat=k by omega] at this) h⟩
theorem V0{cs:List Int}{k:Nat}{bK new:Int}(h:cs.getD k 0≠bK):eT cs ((k+1:Nat):Int) bK new=cs:=Ej λ h2=>absurd (by have:=h2.2.2;rwa [show(((k+1:Nat):Int)-1).toNat=k by omega] at this) h
theorem il{cs:List Int}{k:Nat}{bK:Int}(hk:k<cs.length)(h:cs.getD k 0=bK):(true=true↔jZ cs ((k+1:Nat):Int) bK):=⟨λ _=>⟨by omega,by omega,by rw[show(((k+1:Nat):Int)-1).toNat=k by omega];exact h⟩,λ _=>rfl⟩
theorem iC{cs:List Int}{c bK new:Int}:(eT cs c bK new).length=cs.length:=by unfold eT;split<;>simp
end
end Go.Ct
namespace Go.Proofs.YtbajmaoegmbfgaaGreat
section
open Go.RowKit Go.Ct
variable{w:World}{D:List Nat}{b:Nat}{L:List aP}{cs:List Int}{gen acc:Int}{pn pc:Option Addr}{cn cc:Nat}{A:Fr}
theorem I6(hs:SF w D [(b,mO L cs gen acc pn cn pc cc)] A [] (mW L cs pn cn pc cc) w):Calls Tryz.prog 100 #[.pointer (some ⟨b,0,none⟩)] w λ e w'=>∃q:Unit,e=.returned (.int .i64 (up gen))/\True/\SF w D [(b,mO L cs (up gen) acc pn cn pc cc)] [] [] (mW L cs pn cn pc cc) w':=by
 refine enter Tryz.func100 Tryz.ntmps100 rfl rfl (yH hs) ?_
 simp only[bX]
 refine cO ?_;refine Ho ?_;refine J3 ?_;refine aC (nW rf rf) rfl ?_;refine Nf ?_;refine uG ?_;refine Ho ?_;refine J3 ?_;refine J1 ?_
 refine aS Tryz.results100 (λ w hw=>?_)
 exact⟨(),rfl,trivial,by simpa[mO,mW] using hw.aU (F':=[])⟩
theorem gg(hs:SF w D [(b,mO L cs gen acc pn cn pc cc)] A [] (mW L cs pn cn pc cc) w)(c:Int)(hc:c<1):Calls Tryz.prog 241 #[.pointer (some ⟨b,0,none⟩),.int .i64 c] w λ e w'=>∃q:Unit,e=.returned (.int .i64 (bU cs c))/\True/\SF w D [(b,mO L cs gen (up acc) pn cn pc cc)] [] [] (mW L cs pn cn pc cc) w':=by
 refine enter Tryz.func241 Tryz.ntmps241 rfl rfl (yH hs) ?_
 simp only[bX]
 refine cO ?_;refine lP ?_;refine aC (nW rf rf) rfl ?_;refine Od ?_;refine kA ?_;refine Ck ?_
 (refine eD 14 (λ g14=>?_) (λ g14=>?_)<;>(try (exfalso;omega))<;>(refine aI ?_))
 refine zw ?_;refine Ti ?_;refine Ae ?_;refine aH ?_
 refine bB (λ c23=>?_) (λ c23=>?_)
 ·try (exfalso;omega)
  refine cO ?_
  refine aS Tryz.results241 (λ w hw=>?_)
  (exact⟨(),by rw[rS (by omega)];rfl,trivial,hw.aU⟩)
 ·exact nv c23
theorem rz(hs:SF w D [(b,mO L cs gen acc pn cn pc cc)] A [] (mW L cs pn cn pc cc) w)(c:Int)(bK new:Int)(hc:c<1):Calls Tryz.prog 242 #[.pointer (some ⟨b,0,none⟩),.int .i64 c,.int .i64 bK,.int .i64 new] w λ e w'=>∃r:Bool,e=.returned (.bool r)/\(r=true↔jZ cs c bK)/\SF w D [(b,mO L (eT cs c bK new) gen (up acc) pn cn pc cc)] [] [] (mW L (eT cs c bK new) pn cn pc cc) w':=by
 refine enter Tryz.func242 Tryz.ntmps242 rfl rfl (yH hs) ?_
 simp only[bX]
 refine cO ?_;refine lP ?_;refine aC (nW rf rf) rfl ?_;refine Od ?_;refine kA ?_;refine Ck ?_
 (refine eD 18 (λ g18=>?_) (λ g18=>?_)<;>(try (exfalso;omega))<;>(refine aI ?_))
 refine zw ?_;refine Ti ?_;refine Ae ?_;refine aA ?_
 refine aI ?_
 refine J36 ?_;refine J6 ?_;refine J68 ?_;(refine aI ?_);refine ll ?_;refine Q2 ?_;refine aH ?_
 refine bB (λ c40=>?_) (λ c40=>?_)
 ·try (exfalso;omega)
  refine cO ?_
  refine aS Tryz.results242 (λ w hw=>?_)
  (exact⟨false,rfl,ki hc,by rw[V2 hc];exact hw.aU⟩)
 ·exact nv c40
theorem l8(hs:SF w D [(b,mO L cs gen acc pn cn pc cc)] A [] (mW L cs pn cn pc cc) w){k:Nat}(hk:(k:Int)<9223372036854775807)(hl:cs.length<=274877906944):Calls Tryz.prog 241 #[.pointer (some ⟨b,0,none⟩),.int .i64 ((k+1:Nat):Int)] w λ e w'=>∃q:Unit,e=.returned (.int .i64 (bU cs ((k+1:Nat):Int)))/\True/\SF w D [(b,mO L cs gen (up acc) pn cn pc cc)] [] [] (mW L cs pn cn pc cc) w':=by
 refine enter Tryz.func241 Tryz.ntmps241 rfl rfl (yH hs) ?_
 simp only[bX]
 refine cO ?_;refine lP ?_;refine aC (nW rf rf) rfl ?_;refine Od ?_;refine kA ?_;refine Ck ?_
 (refine aF ?_;refine aA ?_)
 refine zw ?_;refine Ti ?_;refine Ae ?_;refine aH ?_
 refine bB (λ c23=>?_) (λ c23=>?_)
 ·try (exfalso;omega)
  refine cO ?_
  refine aS Tryz.results241 (λ w hw=>?_)
  (exact⟨(),by rw[rS (by omega)];rfl,trivial,hw.aU⟩)
 ·try (exfalso;omega)
  refine aY ?_;refine Ho ?_;refine J3 ?_;refine aA ?_;refine rU ?_;refine Q4 ?_;refine J1 ?_
  refine aS Tryz.results241 (λ w hw=>?_)
  (exact⟨(),by rw[Hh (by omega)];rfl,trivial,hw.aU⟩)
theorem ss(hs:SF w D [(b,mO L cs gen acc pn cn pc cc)] A [] (mW L cs pn cn pc cc) w){k:Nat}(hk:(k:Int)<9223372036854775807)(bK new:Int)(hl:cs.length<=274877906944):Calls Tryz.prog 242 #[.pointer (some ⟨b,0,none⟩),.int .i64 ((k+1:Nat):Int),.int .i64 bK,.int .i64 new] w λ e w'=>∃r:Bool,e=.returned (.bool r)/\(r=true↔jZ cs ((k+1:Nat):Int) bK)/\SF w D [(b,mO L (eT cs ((k+1:Nat):Int) bK new) gen (up acc) pn cn pc cc)] [] [] (mW L (eT cs ((k+1:Nat):Int) bK new) pn cn pc cc) w':=by
 refine enter Tryz.func242 Tryz.ntmps242 rfl rfl (yH hs) ?_
 simp only[bX]
 refine cO ?_;refine lP ?_;refine aC (nW rf rf) rfl ?_;refine Od ?_;refine kA ?_;refine Ck ?_
 (refine aF ?_;refine aA ?_)
 refine zw ?_;refine Ti ?_;refine Ae ?_;refine aA ?_
 (refine eD 28 (λ g28=>?_) (λ g28=>?_)<;>(first|refine aI ?_|(refine aF ?_;refine aA ?_)))
 all_goals (refine J36 ?_;refine J6 ?_;refine J68 ?_;(first|refine aI ?_|(refine aF ?_;refine gH ?_));refine ll ?_;refine Q2 ?_;refine aH ?_)
 all_goals
 refine bB (λ c40=>?_) (λ c40=>?_)
 ·all_goals try (exfalso;omega)
  all_goals refine cO ?_
  all_goals
   refine aS Tryz.results242 (λ w hw=>?_)
   first|exact⟨false,rfl,je (by omega),by rw[Ur (by omega)];exact hw.aU⟩|exact⟨false,rfl,ar (by simpa using c40),by rw[V0 (by simpa using c40)];exact hw.aU⟩ 
 ·try exact nv c40
  all_goals (refine aY ?_;refine Ho ?_;refine J3 ?_;refine aA ?_;refine rU ?_;refine aA ?_;refine gH ?_;refine J5 ?_;refine cO ?_)
  all_goals
   refine aS Tryz.results242 (λ w hw=>?_)
   (exact⟨true,rfl,il (by omega) (by simpa using c40),by rw[Vg (by omega) (by simpa using c40)];simpa[mW,aO,mO] using hw.aU (F':=[])⟩)
theorem qx(hs:SF w D [(b,mO L cs gen acc pn cn pc cc)] A [] (mW L cs pn cn pc cc) w)(c:Int)(hc:c<=9223372036854775807)(hl:cs.length<=274877906944):Calls Tryz.prog 241 #[.pointer (some ⟨b,0,none⟩),.int .i64 c] w λ e w'=>∃q:Unit,e=.returned (.int .i64 (bU cs c))/\True/\SF w D [(b,mO L cs gen (up acc) pn cn pc cc)] [] [] (mW L cs pn cn pc cc) w':=by
 rcases Int.lt_or_le c 1 with h|h
 ·exact gg hs c h
 ·obtain⟨k,rfl⟩:∃k:Nat,c=((k+1:Nat):Int):=⟨(c-1).toNat,by omega⟩
  exact l8 hs (by omega) hl
theorem yh(hs:SF w D [(b,mO L cs gen acc pn cn pc cc)] A [] (mW L cs pn cn pc cc) w)(c bK new:Int)(hc:c<=9223372036854775807)(hl:cs.length<=274877906944):Calls Tryz.prog 242 #[.pointer (some ⟨b,0,none⟩),.int .i64 c,.int .i64 bK,.int .i64 new] w λ e w'=>∃r:Bool,e=.returned (.bool r)/\(r=true↔jZ cs c bK)/\SF w D [(b,mO L (eT cs c bK new) gen (up acc) pn cn pc cc)] [] [] (mW L (eT cs c bK new) pn cn pc cc) w':=by
 rcases Int.lt_or_le c 1 with h|h
 ·exact rz hs c bK new h
 ·obtain⟨k,rfl⟩:∃k:Nat,c=((k+1:Nat):Int):=⟨(c-1).toNat,by omega⟩
  exact ss hs (by omega) bK new hl
theorem Mh(hs:SF w D [(b,aO L cs gen acc pn cn pc cc)] A [] (mW L cs pn cn pc cc) w)(c:Int):Calls Tryz.prog 85 #[.pointer (some ⟨b,0,none⟩),.int .i64 c] w λ e w'=>∃q:Unit,e=.returned (.bool (decide (1<=c/\c<=(cs.length:Int))))/\True/\SF w D [(b,aO L cs gen acc pn cn pc cc)] [] [] (mW L cs pn cn pc cc) w':=by
 refine enter Tryz.func85 Tryz.ntmps85 rfl rfl (yS hs) ?_
 simp only[bX]
 refine cO ?_;refine J2 ?_;refine nS ?_;refine aA ?_
 (refine eD 7 (λ g7=>?_) (λ g7=>?_)<;>(first|refine aI ?_|(refine aF ?_;refine aA ?_)))
 all_goals ((first|refine aI ?_|(refine aF ?_;refine aA ?_));(first|refine aI ?_|(refine aF ?_;refine dD ?_));refine Ti ?_;(first|refine aI ?_|(refine aF ?_;refine Au ?_));refine cE ?_;refine J1 ?_)
 all_goals
 refine aS Tryz.results85 (λ w hw=>?_)
 first|exact⟨(),by rw[decide_eq_false (show ¬(1<=c/\c<=(cs.length:Int)) by omega)];first|rfl|(rw[decide_eq_false (by omega)];rfl),trivial,hw.aU⟩|exact⟨(),by rw[show decide (1<=c/\c<=(cs.length:Int))=decide (c<=(cs.length:Int)) by simp;omega];rfl,trivial,hw.aU⟩
theorem bz(hs:SF w D [(b,aO L cs gen acc pn cn pc cc)] A [] (mW L cs pn cn pc cc) w)(c:Int)(hc:c<1):Calls Tryz.prog 35 #[.pointer (some ⟨b,0,none⟩),.int .i64 c] w λ e w'=>∃q:Unit,e=.returned (.int .i64 (bU cs c))/\True/\SF w D [(b,aO L cs gen (up acc) pn cn pc cc)] [] [] (mW L cs pn cn pc cc) w':=by
 refine enter Tryz.func35 Tryz.ntmps35 rfl rfl (yS hs) ?_
 simp only[bX]
 refine cO ?_;refine lP ?_;refine aC (nW rf rf) rfl ?_;refine Od ?_;refine De ?_;refine aD (cM (hc:=λ w hs=>Mh hs c)) (λ x14 h14=>?_);refine nR ?_
 refine bB (λ c15=>?_) (λ c15=>?_)
 ·try (exfalso;omega)
  refine cO ?_
  refine aS Tryz.results35 (λ w hw=>?_)
  (exact⟨(),by rw[rS (by omega)];rfl,trivial,hw.aU⟩)
 ·try (exfalso;omega)
theorem ot(hs:SF w D [(b,aO L cs gen acc pn cn pc cc)] A [] (mW L cs pn cn pc cc) w)(c:Int)(bK new:Int)(hc:c<1):Calls Tryz.prog 279 #[.pointer (some ⟨b,0,none⟩),.int .i64 c,.int .i64 bK,.int .i64 new] w λ e w'=>∃r:Bool,e=.returned (.bool r)/\(r=true↔jZ cs c bK)/\SF w D [(b,aO L (eT cs c bK new) gen (up acc) pn cn pc cc)] [] [] (mW L (eT cs c bK new) pn cn pc cc) w':=by
 refine enter Tryz.func279 Tryz.ntmps279 rfl rfl (yS hs) ?_
 simp only[bX]
 refine cO ?_;refine lP ?_;refine aC (nW rf rf) rfl ?_;refine Od ?_;refine De ?_;refine aD (cM (hc:=λ w hs=>Mh hs c)) (λ x18 h18=>?_);refine Cz ?_
 (refine eD 20 (λ g20=>?_) (λ g20=>?_)<;>(try (exfalso;omega))<;>(refine aI ?_))
 (refine aI ?_);refine J6 ?_;refine J68 ?_;(refine aI ?_);refine ll ?_;refine Q2 ?_;refine aH ?_
 refine bB (λ c31=>?_) (λ c31=>?_)
 ·try (exfalso;omega)
  refine cO ?_
  refine aS Tryz.results279 (λ w hw=>?_)
  (exact⟨false,rfl,ki hc,by rw[V2 hc];exact hw.aU⟩)
 ·exact nv c31
theorem cj(hs:SF w D [(b,aO L cs gen acc pn cn pc cc)] A [] (mW L cs pn cn pc cc) w){k:Nat}(hk:(k:Int)<9223372036854775807)(hl:cs.length<=274877906944):Calls Tryz.prog 35 #[.pointer (some ⟨b,0,none⟩),.int .i64 ((k+1:Nat):Int)] w λ e w'=>∃q:Unit,e=.returned (.int .i64 (bU cs ((k+1:Nat):Int)))/\True/\SF w D [(b,aO L cs gen (up acc) pn cn pc cc)] [] [] (mW L cs pn cn pc cc) w':=by
 refine enter Tryz.func35 Tryz.ntmps35 rfl rfl (yS hs) ?_
 simp only[bX]
 refine cO ?_;refine lP ?_;refine aC (nW rf rf) rfl ?_;refine Od ?_;refine De ?_;refine aD (cM (hc:=λ w hs=>Mh hs ((k+1:Nat):Int))) (λ x14 h14=>?_);refine nR ?_
 refine bB (λ c15=>?_) (λ c15=>?_)
 ·try (exfalso;omega)
  refine cO ?_
  refine aS Tryz.results35 (λ w hw=>?_)
  (exact⟨(),by rw[rS (by omega)];rfl,trivial,hw.aU⟩)
 ·try (exfalso;omega)
  refine uq ?_;refine aA ?_;refine rU ?_;refine Q4 ?_;refine J1 ?_
  refine aS Tryz.results35 (λ w hw=>?_)
  (exact⟨(),by rw[Hh (by omega)];rfl,trivial,hw.aU⟩)
theorem rl(hs:SF w D [(b,aO L cs gen acc pn cn pc cc)] A [] (mW L cs pn cn pc cc) w){k:Nat}(hk:(k:Int)<9223372036854775807)(bK new:Int)(hl:cs.length<=274877906944):Calls Tryz.prog 279 #[.pointer (some ⟨b,0,none⟩),.int .i64 ((k+1:Nat):Int),.int .i64 bK,.int .i64 new] w λ e w'=>∃r:Bool,e=.returned (.bool r)/\(r=true↔jZ cs ((k+1:Nat):Int) bK)/\SF w D [(b,aO L (eT cs ((k+1:Nat):Int) bK new) gen (up acc) pn cn pc cc)] [] [] (mW L (eT cs ((k+1:Nat):Int) bK new) pn cn pc cc) w':=by
 refine enter Tryz.func279 Tryz.ntmps279 rfl rfl (yS hs) ?_
 simp only[bX]
 refine cO ?_;refine lP ?_;refine aC (nW rf rf) rfl ?_;refine Od ?_;refine De ?_;refine aD (cM (hc:=λ w hs=>Mh hs ((k+1:Nat):Int))) (λ x18 h18=>?_);refine Cz ?_
 (refine eD 20 (λ g20=>?_) (λ g20=>?_)<;>(first|refine aI ?_|(refine aF ?_;refine aA ?_)))
 all_goals ((first|refine aI ?_|(refine aF ?_;refine dD ?_));refine J6 ?_;refine J68 ?_;(first|refine aI ?_|(refine aF ?_;refine gH ?_));refine ll ?_;refine Q2 ?_;refine aH ?_)
 all_goals
 refine bB (λ c31=>?_) (λ c31=>?_)
 ·all_goals try (exfalso;omega)
  all_goals refine cO ?_
  all_goals
   refine aS Tryz.results279 (λ w hw=>?_)
   first|exact⟨false,rfl,je (by omega),by rw[Ur (by omega)];exact hw.aU⟩|exact⟨false,rfl,ar (by simpa using c31),by rw[V0 (by simpa using c31)];exact hw.aU⟩ 
 ·try exact nv c31
  all_goals (refine uq ?_;refine aA ?_;refine rU ?_;refine aA ?_;refine gH ?_;refine J5 ?_;refine cO ?_)
  all_goals
   refine aS Tryz.results279 (λ w hw=>?_)
   (exact⟨true,rfl,il (by omega) (by simpa using c31),by rw[Vg (by omega) (by simpa using c31)];simpa[mW,aO,mO] using hw.aU (F':=[])⟩)
theorem Vd(hs:SF w D [(b,aO L cs gen acc pn cn pc cc)] A [] (mW L cs pn cn pc cc) w)(c:Int)(hc:c<=9223372036854775807)(hl:cs.length<=274877906944):Calls Tryz.prog 35 #[.pointer (some ⟨b,0,none⟩),.int .i64 c] w λ e w'=>∃q:Unit,e=.returned (.int .i64 (bU cs c))/\True/\SF w D [(b,aO L cs gen (up acc) pn cn pc cc)] [] [] (mW L cs pn cn pc cc) w':=by
 rcases Int.lt_or_le c 1 with h|h
 ·exact bz hs c h
 ·obtain⟨k,rfl⟩:∃k:Nat,c=((k+1:Nat):Int):=⟨(c-1).toNat,by omega⟩
  exact cj hs (by omega) hl
theorem yc(hs:SF w D [(b,aO L cs gen acc pn cn pc cc)] A [] (mW L cs pn cn pc cc) w)(c bK new:Int)(hc:c<=9223372036854775807)(hl:cs.length<=274877906944):Calls Tryz.prog 279 #[.pointer (some ⟨b,0,none⟩),.int .i64 c,.int .i64 bK,.int .i64 new] w λ e w'=>∃r:Bool,e=.returned (.bool r)/\(r=true↔jZ cs c bK)/\SF w D [(b,aO L (eT cs c bK new) gen (up acc) pn cn pc cc)] [] [] (mW L (eT cs c bK new) pn cn pc cc) w':=by
 rcases Int.lt_or_le c 1 with h|h
 ·exact ot hs c bK new h
 ·obtain⟨k,rfl⟩:∃k:Nat,c=((k+1:Nat):Int):=⟨(c-1).toNat,by omega⟩
  exact rl hs (by omega) bK new hl
end

/- Loops over slices that are read: contracts. -/
section
open Go.RowKit Go.Ct
theorem Cq{α} [BEq α] [LawfulBEq α] {xs ys:List α}{k:Nat}(h:xs.length=ys.length)(hk:¬k<xs.length)(ht:xs.take k=ys.take k):(xs==ys)=true:=by
 rw[List.take_of_length_le (by omega),List.take_of_length_le (by omega)] at ht
 simp[ht]
theorem Gb{α} [BEq α] [LawfulBEq α] {xs ys:List α}(h:xs.length≠ys.length):(xs==ys)=false:=by
 simp only[beq_eq_false_iff_ne,ne_eq]
 intro e;rw[e] at h;exact h rfl
theorem E2{α} [BEq α] [LawfulBEq α] {xs ys:List α}{k:Nat}{d:α}(h:xs.getD k d≠ys.getD k d):(xs==ys)=false:=by
 simp only[beq_eq_false_iff_ne,ne_eq]
 intro e;rw[e] at h;exact h rfl
theorem Cx{α} [DecidableEq α] {xs ys:List α}{k:Nat}(h:xs.length=ys.length)(hk:¬k<xs.length)(ht:xs.take k=ys.take k):decide (xs=ys)=true:=by
 rw[List.take_of_length_le (by omega),List.take_of_length_le (by omega)] at ht
 simp[ht]
theorem F8{α} [DecidableEq α] {xs ys:List α}(h:xs.length≠ys.length):decide (xs=ys)=false:=decide_eq_false λ e=>h (by rw[e])
theorem Gk{α} [DecidableEq α] {xs ys:List α}{k:Nat}{d:α}(h:xs.getD k d≠ys.getD k d):decide (xs=ys)=false:=decide_eq_false λ e=>h (by rw[e])
theorem wZ{α}{xs ys:List α}{k:Nat}{d:α}(h:xs.take k=ys.take k)(hk:k<xs.length)(hl:xs.length=ys.length)(he:xs.getD k d=ys.getD k d):xs.take (k+1)=ys.take (k+1):=by
 rw[List.take_add_one,List.take_add_one,h,List.getElem?_eq_getElem hk,List.getElem?_eq_getElem (hl▸hk)]
 simp only[List.getD,List.getElem?_eq_getElem hk,List.getElem?_eq_getElem (hl▸hk:k<ys.length),Option.getD_some] at he
 rw[he]
theorem j9{xs ys:List Int}{a b:Option Addr}{ca cb:Nat}{w:World}(ha:Cl w a (aG xs))(hb:Cl w b (aG ys))(hx:xs.length<4611686018427387904) :
  Calls Tryz.prog 112 #[.slice a xs.length ca,.slice b ys.length cb] w λ e w'=>e=.returned (.bool (xs==ys))/\St w [] [] w':=by
 refine enter Tryz.func112 Tryz.ntmps112 rfl rfl (SF.s2 ha hb) ?_
 simp only[bX]
 refine cO ?_;refine kA ?_;refine dA ?_;refine aA ?_;refine dA ?_;refine mK ?_;refine aH ?_
 refine bB (λ c10=>?_) (λ c10=>?_)
 ·refine cO ?_
  refine aS Tryz.results112 (λ w hw=>?_)
  exact⟨by rw[Gb (by omega)];rfl,hw.done⟩
 ·refine jU ?_;refine C4 ?_
  refine fV [4,5,11,12,13,14,15,16,17,18,19,20,21,22,23,24,25] (λ k=>[(5,.int .i64 ((k:Nat):Int))]) (λ k=>k<=xs.length/\xs.take k=ys.take k) (λ k=>xs.length-k) (0) (⟨Nat.zero_le _,by simp⟩) ?_ (λ k f hx=>?_)
  ·repeat (first|exact bD _|refine aW (by exact rfl) ?_)
  dsimp only[gX,List.map,List.cons_append,List.nil_append]
  refine De ?_;refine dA ?_;refine xJ ?_
  refine bB (λ c14=>?_) (λ c14=>?_)
  ·refine qA ?_;refine aV ?_;refine gL [0,1,2,3,4,5,6,7,8] ?_;refine iF ?_;refine N0 ?_;refine iF ?_;refine N0 ?_;refine Kg ?_;refine dY ?_
   refine bB (λ c25=>?_) (λ c25=>?_)
   ·refine cO ?_
    refine aS Tryz.results112 (λ w hw=>?_)
    exact⟨by rw[E2 c25];rfl,hw.done⟩
   ·refine nN ?_;refine uF ?_
    refine eL (k+1) ?_ ?_ ?_
    ·omega
    ·repeat' (first|exact bD _|refine aW ?_ ?_)
     exact rfl
    ·exact⟨by omega,wZ hx.2 (by omega) (by omega) c25⟩
  ·refine bM rfl ?_;refine cO ?_
   refine aS Tryz.results112 (λ w hw=>?_)
   exact⟨by rw[Cq (k:=k) (by omega) (by omega) hx.2];rfl,hw.done⟩
theorem aAH{xs ys:List Pr}{a b:Option Addr}{ca cb:Nat}{w:World}(ha:Cl w a (cZ xs))(hb:Cl w b (cZ ys))(hx:xs.length<4611686018427387904) :
  Calls Tryz.prog 155 #[.slice a xs.length ca,.slice b ys.length cb] w λ e w'=>e=.returned (.bool (decide (xs=ys)))/\St w [] [] w':=by
 refine enter Tryz.func155 Tryz.ntmps155 rfl rfl (SF.s2 ha hb) ?_
 simp only[bX]
 refine cO ?_;refine kA ?_;refine dA ?_;refine aA ?_;refine dA ?_;refine mK ?_;refine aH ?_
 refine bB (λ c10=>?_) (λ c10=>?_)
 ·refine cO ?_
  refine aS Tryz.results155 (λ w hw=>?_)
  exact⟨by rw[F8 (by omega)];rfl,hw.done⟩
 ·refine jU ?_;refine C4 ?_
  refine fV [4,5,11,12,13,14,15,16,17,18,19,20,21,22,23,24,25] (λ k=>[(5,.int .i64 ((k:Nat):Int))]) (λ k=>k<=xs.length/\xs.take k=ys.take k) (λ k=>xs.length-k) (0) (⟨Nat.zero_le _,by simp⟩) ?_ (λ k f hx=>?_)
  ·repeat (first|exact bD _|refine aW (by exact rfl) ?_)
  dsimp only[gX,List.map,List.cons_append,List.nil_append]
  refine De ?_;refine dA ?_;refine xJ ?_
  refine bB (λ c14=>?_) (λ c14=>?_)
  ·refine qA ?_;refine aV ?_;refine gL [0,1,2,3,4,5,6,7,8] ?_;refine iF ?_;refine N0 ?_;refine iF ?_;refine N0 ?_;refine Uv ?_;refine dY ?_
   refine bB (λ c25=>?_) (λ c25=>?_)
   ·refine cO ?_
    refine aS Tryz.results155 (λ w hw=>?_)
    exact⟨by rw[Gk λ h=>c25 ⟨congrArg Prod.fst h,congrArg Prod.snd h⟩];rfl,hw.done⟩
   ·refine nN ?_;refine uF ?_
    refine eL (k+1) ?_ ?_ ?_
    ·omega
    ·repeat' (first|exact bD _|refine aW ?_ ?_)
     exact rfl
    ·exact⟨by omega,wZ hx.2 (by omega) (by omega) (Prod.ext c25.1 c25.2)⟩
  ·refine bM rfl ?_;refine cO ?_
   refine aS Tryz.results155 (λ w hw=>?_)
   exact⟨by rw[Cx (k:=k) (by omega) (by omega) hx.2];rfl,hw.done⟩
theorem na{xs ys:List Int}{a b:Option Addr}{ca cb:Nat}{w:World}(ha:Cl w a (aG xs))(hb:Cl w b (aG ys))(hx:xs.length<4611686018427387904) :
  Calls Tryz.prog 236 #[.slice a xs.length ca,.slice b ys.length cb] w λ e w'=>e=.returned (.bool (xs==ys))/\St w [] [] w':=by
 refine enter Tryz.func236 Tryz.ntmps236 rfl rfl (SF.s2 ha hb) ?_
 simp only[bX]
 refine cO ?_;refine kA ?_;refine dA ?_;refine aA ?_;refine dA ?_;refine mK ?_;refine aH ?_
 refine bB (λ c10=>?_) (λ c10=>?_)
 ·refine cO ?_
  refine aS Tryz.results236 (λ w hw=>?_)
  exact⟨by rw[Gb (by omega)];rfl,hw.done⟩
 ·refine jU ?_;refine J2 ?_;refine dA ?_;refine D6 ?_;refine cR ?_
  refine fV [4,5,13,14,15,16,17,18,19,20,21,22,23,24,25] (λ k=>[(13,.int .i64 ((k:Nat):Int))]) (λ k=>k<=xs.length/\xs.take k=ys.take k) (λ k=>xs.length-k) (0) (⟨Nat.zero_le _,by simp⟩) ?_ (λ k f hx=>?_)
  ·repeat (first|exact bD _|refine aW (by exact rfl) ?_)
  dsimp only[gX,List.map,List.cons_append,List.nil_append]
  refine J0 ?_;refine xJ ?_;refine aV ?_
  refine bB (λ c14=>?_) (λ c14=>?_)
  ·refine qA ?_;refine J2 ?_;refine iE ?_;refine gL [0,1,2,3,4,5,6,7,8] ?_;refine iF ?_;refine N0 ?_;refine iF ?_;refine N0 ?_;refine Kg ?_;refine dY ?_
   refine bB (λ c24=>?_) (λ c24=>?_)
   ·refine cO ?_
    refine aS Tryz.results236 (λ w hw=>?_)
    exact⟨by rw[E2 c24];rfl,hw.done⟩
   ·refine nN ?_;refine Xj ?_;refine D6 ?_
    refine eL (k+1) ?_ ?_ ?_
    ·omega
    ·repeat' (first|exact bD _|refine aW ?_ ?_)
     exact rfl
    ·exact⟨by omega,wZ hx.2 (by omega) (by omega) c24⟩
  ·refine bM rfl ?_;refine cO ?_
   refine aS Tryz.results236 (λ w hw=>?_)
   exact⟨by rw[Cq (k:=k) (by omega) (by omega) hx.2];rfl,hw.done⟩
theorem y5{xs ys:List Pr}{a b:Option Addr}{ca cb:Nat}{w:World}(ha:Cl w a (cZ xs))(hb:Cl w b (cZ ys))(hx:xs.length<4611686018427387904) :
  Calls Tryz.prog 237 #[.slice a xs.length ca,.slice b ys.length cb] w λ e w'=>e=.returned (.bool (decide (xs=ys)))/\St w [] [] w':=by
 refine enter Tryz.func237 Tryz.ntmps237 rfl rfl (SF.s2 ha hb) ?_
 simp only[bX]
 refine cO ?_;refine kA ?_;refine dA ?_;refine aA ?_;refine dA ?_;refine mK ?_;refine aH ?_
 refine bB (λ c10=>?_) (λ c10=>?_)
 ·refine cO ?_
  refine aS Tryz.results237 (λ w hw=>?_)
  exact⟨by rw[F8 (by omega)];rfl,hw.done⟩
 ·refine jU ?_;refine J2 ?_;refine dA ?_;refine D6 ?_;refine cR ?_
  refine fV [4,5,13,14,15,16,17,18,19,20,21,22,23,24,25] (λ k=>[(13,.int .i64 ((k:Nat):Int))]) (λ k=>k<=xs.length/\xs.take k=ys.take k) (λ k=>xs.length-k) (0) (⟨Nat.zero_le _,by simp⟩) ?_ (λ k f hx=>?_)
  ·repeat (first|exact bD _|refine aW (by exact rfl) ?_)
  dsimp only[gX,List.map,List.cons_append,List.nil_append]
  refine J0 ?_;refine xJ ?_;refine aV ?_
  refine bB (λ c14=>?_) (λ c14=>?_)
  ·refine qA ?_;refine J2 ?_;refine iE ?_;refine gL [0,1,2,3,4,5,6,7,8] ?_;refine iF ?_;refine N0 ?_;refine iF ?_;refine N0 ?_;refine Uv ?_;refine dY ?_
   refine bB (λ c24=>?_) (λ c24=>?_)
   ·refine cO ?_
    refine aS Tryz.results237 (λ w hw=>?_)
    exact⟨by rw[Gk λ h=>c24 ⟨congrArg Prod.fst h,congrArg Prod.snd h⟩];rfl,hw.done⟩
   ·refine nN ?_;refine Xj ?_;refine D6 ?_
    refine eL (k+1) ?_ ?_ ?_
    ·omega
    ·repeat' (first|exact bD _|refine aW ?_ ?_)
     exact rfl
    ·exact⟨by omega,wZ hx.2 (by omega) (by omega) (Prod.ext c24.1 c24.2)⟩
  ·refine bM rfl ?_;refine cO ?_
   refine aS Tryz.results237 (λ w hw=>?_)
   exact⟨by rw[Cx (k:=k) (by omega) (by omega) hx.2];rfl,hw.done⟩
end

end Go.Proofs.YtbajmaoegmbfgaaGreat
