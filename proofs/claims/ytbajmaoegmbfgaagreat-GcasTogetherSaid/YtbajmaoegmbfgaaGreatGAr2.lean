/- The small methods of the two memories: generations, loads, compare-and-swaps. -/
import Derived.Test.YtbajmaoegmbfgaaGreatGJoin
import Derived.Test.YtbajmaoegmbfgaaGreatGMem
import Derived.Test.YtbajmaoegmbfgaaGreatAuto

set_option linter.unusedSimpArgs false
set_option linter.unusedVariables false
namespace Go.Ct
section
def bU(cs:List Int)(c:Int):Int:=if 1<=c/\c<=cs.length then cs.getD (c-1).toNat 0 else 0
def kF(cs:List Int)(c bK:Int):Prop:=1<=c/\c<=cs.length/\cs.getD (c-1).toNat 0=bK
def eU(cs:List Int)(c bK new:Int):List Int:=if 1<=c/\c<=cs.length/\cs.getD (c-1).toNat 0=bK then cs.set (c-1).toNat new else cs
def up(i:Int):Int:=Go.IntKind.i64.wrap (i+1)
theorem rL{cs:List Int}{c:Int}(h:¬(1<=c/\c<=cs.length)):bU cs c=0:=if_neg h
theorem Gj{cs:List Int}{k:Nat}(h:k<cs.length):bU cs ((k+1:Nat):Int)=cs.getD k 0:=by
 unfold bU
 rw[if_pos (by omega),show(((k+1:Nat):Int)-1).toNat=k by omega]
theorem Ew{cs:List Int}{c bK new:Int}(h:¬(1<=c/\c<=cs.length/\cs.getD (c-1).toNat 0=bK)):eU cs c bK new=cs:=if_neg h
theorem Uy{cs:List Int}{k:Nat}{bK new:Int}(h:k<cs.length)(ho:cs.getD k 0=bK):eU cs ((k+1:Nat):Int) bK new=cs.set k new:=by
 have e:(((k+1:Nat):Int)-1).toNat=k:=by omega
 unfold eU
 rw[e,if_pos ⟨by omega,by omega,ho⟩]
theorem db{cs:List Int}{c bK:Int}(h:c<1):(false=true↔kF cs c bK):=⟨(λ h=>nomatch h),λ h2=>absurd h2.1 (by omega)⟩
theorem Vr{cs:List Int}{c bK new:Int}(h:c<1):eU cs c bK new=cs:=Ew (by omega)
theorem cf{cs:List Int}{c bK:Int}(h:(cs.length:Int)<c):(false=true↔kF cs c bK):=⟨(λ h=>nomatch h),λ h2=>absurd h2.2.1 (by omega)⟩
theorem Uq{cs:List Int}{c bK new:Int}(h:(cs.length:Int)<c):eU cs c bK new=cs:=Ew (by omega)
theorem fg{cs:List Int}{k:Nat}{bK:Int}(h:cs.getD k 0≠bK):(false=true↔kF cs ((k+1:Nat):Int) bK):=⟨(λ h=>nomatch h),λ h2=>absurd (by have:=h2.2.2;rwa [show(((k+1:Nat):Int)-1).toNat=k by omega] at this) h⟩
theorem U9{cs:List Int}{k:Nat}{bK new:Int}(h:cs.getD k 0≠bK):eU cs ((k+1:Nat):Int) bK new=cs:=Ew λ h2=>absurd (by have:=h2.2.2;rwa [show(((k+1:Nat):Int)-1).toNat=k by omega] at this) h
theorem kj{cs:List Int}{k:Nat}{bK:Int}(hk:k<cs.length)(h:cs.getD k 0=bK):(true=true↔kF cs ((k+1:Nat):Int) bK):=⟨λ _=>⟨by omega,by omega,by rw[show(((k+1:Nat):Int)-1).toNat=k by omega];exact h⟩,λ _=>rfl⟩
theorem iC{cs:List Int}{c bK new:Int}:(eU cs c bK new).length=cs.length:=by unfold eU;split<;>simp
end
end Go.Ct
namespace Go.Proofs.YtbajmaoegmbfgaaGreat
section
open Go.RowKit Go.Ct
variable{w:World}{D:List Nat}{b:Nat}{L:List aP}{cs:List Int}{gen acc:Int}{pn pc:Option Addr}{cn cc:Nat}{A:Fr}
theorem K9(hs:SF w D [(b,mO L cs gen acc pn cn pc cc)] A [] (mW L cs pn cn pc cc) w):Calls Tryz.prog 100 #[.pointer (some ⟨b,0,none⟩)] w λ e w'=>∃q:Unit,e=.returned (.int .i64 (up gen))/\True/\SF w D [(b,mO L cs (up gen) acc pn cn pc cc)] [] [] (mW L cs pn cn pc cc) w':=by
 refine enter Tryz.func100 Tryz.ntmps100 rfl rfl (yQ hs) ?_
 simp only[bX]
 refine cO ?_;refine Ia ?_;refine J3 ?_;refine aC (oB rf rf) rfl ?_;refine No ?_;refine uK ?_;refine Ia ?_;refine J3 ?_;refine J1 ?_
 refine aT Tryz.results100 (λ w hw=>?_)
 exact⟨(),rfl,trivial,by simpa[mO,mW] using hw.aU (F':=[])⟩
theorem ik(hs:SF w D [(b,mO L cs gen acc pn cn pc cc)] A [] (mW L cs pn cn pc cc) w)(c:Int)(hc:c<1):Calls Tryz.prog 241 #[.pointer (some ⟨b,0,none⟩),.int .i64 c] w λ e w'=>∃q:Unit,e=.returned (.int .i64 (bU cs c))/\True/\SF w D [(b,mO L cs gen (up acc) pn cn pc cc)] [] [] (mW L cs pn cn pc cc) w':=by
 refine enter Tryz.func241 Tryz.ntmps241 rfl rfl (yQ hs) ?_
 simp only[bX]
 refine cO ?_;refine lW ?_;refine aC (oB rf rf) rfl ?_;refine Qj ?_;refine kB ?_;refine Cq ?_
 (refine eE 14 (λ g14=>?_) (λ g14=>?_)<;>(try (exfalso;omega))<;>(refine aI ?_))
 refine yf ?_;refine S4 ?_;refine Bh ?_;refine aH ?_
 refine bB (λ c23=>?_) (λ c23=>?_)
 ·try (exfalso;omega)
  refine cO ?_
  refine aT Tryz.results241 (λ w hw=>?_)
  (exact⟨(),by rw[rL (by omega)];rfl,trivial,hw.aU⟩)
 ·exact nv c23
theorem ov(hs:SF w D [(b,mO L cs gen acc pn cn pc cc)] A [] (mW L cs pn cn pc cc) w)(c:Int)(bK new:Int)(hc:c<1):Calls Tryz.prog 242 #[.pointer (some ⟨b,0,none⟩),.int .i64 c,.int .i64 bK,.int .i64 new] w λ e w'=>∃r:Bool,e=.returned (.bool r)/\(r=true↔kF cs c bK)/\SF w D [(b,mO L (eU cs c bK new) gen (up acc) pn cn pc cc)] [] [] (mW L (eU cs c bK new) pn cn pc cc) w':=by
 refine enter Tryz.func242 Tryz.ntmps242 rfl rfl (yQ hs) ?_
 simp only[bX]
 refine cO ?_;refine lW ?_;refine aC (oB rf rf) rfl ?_;refine Qj ?_;refine kB ?_;refine Cq ?_
 (refine eE 18 (λ g18=>?_) (λ g18=>?_)<;>(try (exfalso;omega))<;>(refine aI ?_))
 refine yf ?_;refine S4 ?_;refine Bh ?_;refine aA ?_
 refine aI ?_
 refine J36 ?_;refine J6 ?_;refine J68 ?_;(refine aI ?_);refine kf ?_;refine Rq ?_;refine aH ?_
 refine bB (λ c40=>?_) (λ c40=>?_)
 ·try (exfalso;omega)
  refine cO ?_
  refine aT Tryz.results242 (λ w hw=>?_)
  (exact⟨false,rfl,db hc,by rw[Vr hc];exact hw.aU⟩)
 ·exact nv c40
theorem di(hs:SF w D [(b,mO L cs gen acc pn cn pc cc)] A [] (mW L cs pn cn pc cc) w){k:Nat}(hk:(k:Int)<9223372036854775807)(hl:cs.length<=274877906944):Calls Tryz.prog 241 #[.pointer (some ⟨b,0,none⟩),.int .i64 ((k+1:Nat):Int)] w λ e w'=>∃q:Unit,e=.returned (.int .i64 (bU cs ((k+1:Nat):Int)))/\True/\SF w D [(b,mO L cs gen (up acc) pn cn pc cc)] [] [] (mW L cs pn cn pc cc) w':=by
 refine enter Tryz.func241 Tryz.ntmps241 rfl rfl (yQ hs) ?_
 simp only[bX]
 refine cO ?_;refine lW ?_;refine aC (oB rf rf) rfl ?_;refine Qj ?_;refine kB ?_;refine Cq ?_
 (refine aF ?_;refine aA ?_)
 refine yf ?_;refine S4 ?_;refine Bh ?_;refine aH ?_
 refine bB (λ c23=>?_) (λ c23=>?_)
 ·try (exfalso;omega)
  refine cO ?_
  refine aT Tryz.results241 (λ w hw=>?_)
  (exact⟨(),by rw[rL (by omega)];rfl,trivial,hw.aU⟩)
 ·try (exfalso;omega)
  refine bA ?_;refine Ia ?_;refine J3 ?_;refine aA ?_;refine rT ?_;refine Rl ?_;refine J1 ?_
  refine aT Tryz.results241 (λ w hw=>?_)
  (exact⟨(),by rw[Gj (by omega)];rfl,trivial,hw.aU⟩)
theorem sf(hs:SF w D [(b,mO L cs gen acc pn cn pc cc)] A [] (mW L cs pn cn pc cc) w){k:Nat}(hk:(k:Int)<9223372036854775807)(bK new:Int)(hl:cs.length<=274877906944):Calls Tryz.prog 242 #[.pointer (some ⟨b,0,none⟩),.int .i64 ((k+1:Nat):Int),.int .i64 bK,.int .i64 new] w λ e w'=>∃r:Bool,e=.returned (.bool r)/\(r=true↔kF cs ((k+1:Nat):Int) bK)/\SF w D [(b,mO L (eU cs ((k+1:Nat):Int) bK new) gen (up acc) pn cn pc cc)] [] [] (mW L (eU cs ((k+1:Nat):Int) bK new) pn cn pc cc) w':=by
 refine enter Tryz.func242 Tryz.ntmps242 rfl rfl (yQ hs) ?_
 simp only[bX]
 refine cO ?_;refine lW ?_;refine aC (oB rf rf) rfl ?_;refine Qj ?_;refine kB ?_;refine Cq ?_
 (refine aF ?_;refine aA ?_)
 refine yf ?_;refine S4 ?_;refine Bh ?_;refine aA ?_
 (refine eE 28 (λ g28=>?_) (λ g28=>?_)<;>(first|refine aI ?_|(refine aF ?_;refine aA ?_)))
 all_goals (refine J36 ?_;refine J6 ?_;refine J68 ?_;(first|refine aI ?_|(refine aF ?_;refine gN ?_));refine kf ?_;refine Rq ?_;refine aH ?_)
 all_goals
 refine bB (λ c40=>?_) (λ c40=>?_)
 ·all_goals try (exfalso;omega)
  all_goals refine cO ?_
  all_goals
   refine aT Tryz.results242 (λ w hw=>?_)
   first|exact⟨false,rfl,cf (by omega),by rw[Uq (by omega)];exact hw.aU⟩|exact⟨false,rfl,fg (by simpa using c40),by rw[U9 (by simpa using c40)];exact hw.aU⟩ 
 ·try exact nv c40
  all_goals (refine bA ?_;refine Ia ?_;refine J3 ?_;refine aA ?_;refine rT ?_;refine aA ?_;refine gN ?_;refine J5 ?_;refine cO ?_)
  all_goals
   refine aT Tryz.results242 (λ w hw=>?_)
   (exact⟨true,rfl,kj (by omega) (by simpa using c40),by rw[Uy (by omega) (by simpa using c40)];simpa[mW,aO,mO] using hw.aU (F':=[])⟩)
theorem sg(hs:SF w D [(b,mO L cs gen acc pn cn pc cc)] A [] (mW L cs pn cn pc cc) w)(c:Int)(hc:c<=9223372036854775807)(hl:cs.length<=274877906944):Calls Tryz.prog 241 #[.pointer (some ⟨b,0,none⟩),.int .i64 c] w λ e w'=>∃q:Unit,e=.returned (.int .i64 (bU cs c))/\True/\SF w D [(b,mO L cs gen (up acc) pn cn pc cc)] [] [] (mW L cs pn cn pc cc) w':=by
 rcases Int.lt_or_le c 1 with h|h
 ·exact ik hs c h
 ·obtain⟨k,rfl⟩:∃k:Nat,c=((k+1:Nat):Int):=⟨(c-1).toNat,by omega⟩
  exact di hs (by omega) hl
theorem zr(hs:SF w D [(b,mO L cs gen acc pn cn pc cc)] A [] (mW L cs pn cn pc cc) w)(c bK new:Int)(hc:c<=9223372036854775807)(hl:cs.length<=274877906944):Calls Tryz.prog 242 #[.pointer (some ⟨b,0,none⟩),.int .i64 c,.int .i64 bK,.int .i64 new] w λ e w'=>∃r:Bool,e=.returned (.bool r)/\(r=true↔kF cs c bK)/\SF w D [(b,mO L (eU cs c bK new) gen (up acc) pn cn pc cc)] [] [] (mW L (eU cs c bK new) pn cn pc cc) w':=by
 rcases Int.lt_or_le c 1 with h|h
 ·exact ov hs c bK new h
 ·obtain⟨k,rfl⟩:∃k:Nat,c=((k+1:Nat):Int):=⟨(c-1).toNat,by omega⟩
  exact sf hs (by omega) bK new hl
theorem Lo(hs:SF w D [(b,aO L cs gen acc pn cn pc cc)] A [] (mW L cs pn cn pc cc) w)(c:Int):Calls Tryz.prog 85 #[.pointer (some ⟨b,0,none⟩),.int .i64 c] w λ e w'=>∃q:Unit,e=.returned (.bool (decide (1<=c/\c<=(cs.length:Int))))/\True/\SF w D [(b,aO L cs gen acc pn cn pc cc)] [] [] (mW L cs pn cn pc cc) w':=by
 refine enter Tryz.func85 Tryz.ntmps85 rfl rfl (yY hs) ?_
 simp only[bX]
 refine cO ?_;refine J2 ?_;refine oG ?_;refine aA ?_
 (refine eE 7 (λ g7=>?_) (λ g7=>?_)<;>(first|refine aI ?_|(refine aF ?_;refine aA ?_)))
 all_goals ((first|refine aI ?_|(refine aF ?_;refine aA ?_));(first|refine aI ?_|(refine aF ?_;refine dE ?_));refine S4 ?_;(first|refine aI ?_|(refine aF ?_;refine Be ?_));refine cB ?_;refine J1 ?_)
 all_goals
 refine aT Tryz.results85 (λ w hw=>?_)
 first|exact⟨(),by rw[decide_eq_false (show ¬(1<=c/\c<=(cs.length:Int)) by omega)];first|rfl|(rw[decide_eq_false (by omega)];rfl),trivial,hw.aU⟩|exact⟨(),by rw[show decide (1<=c/\c<=(cs.length:Int))=decide (c<=(cs.length:Int)) by simp;omega];rfl,trivial,hw.aU⟩
theorem ef(hs:SF w D [(b,aO L cs gen acc pn cn pc cc)] A [] (mW L cs pn cn pc cc) w)(c:Int)(hc:c<1):Calls Tryz.prog 35 #[.pointer (some ⟨b,0,none⟩),.int .i64 c] w λ e w'=>∃q:Unit,e=.returned (.int .i64 (bU cs c))/\True/\SF w D [(b,aO L cs gen (up acc) pn cn pc cc)] [] [] (mW L cs pn cn pc cc) w':=by
 refine enter Tryz.func35 Tryz.ntmps35 rfl rfl (yY hs) ?_
 simp only[bX]
 refine cO ?_;refine lW ?_;refine aC (oB rf rf) rfl ?_;refine Qj ?_;refine Ds ?_;refine aD (cM (hc:=λ w hs=>Lo hs c)) (λ x14 h14=>?_);refine oH ?_
 refine bB (λ c15=>?_) (λ c15=>?_)
 ·try (exfalso;omega)
  refine cO ?_
  refine aT Tryz.results35 (λ w hw=>?_)
  (exact⟨(),by rw[rL (by omega)];rfl,trivial,hw.aU⟩)
 ·try (exfalso;omega)
theorem s8(hs:SF w D [(b,aO L cs gen acc pn cn pc cc)] A [] (mW L cs pn cn pc cc) w)(c:Int)(bK new:Int)(hc:c<1):Calls Tryz.prog 279 #[.pointer (some ⟨b,0,none⟩),.int .i64 c,.int .i64 bK,.int .i64 new] w λ e w'=>∃r:Bool,e=.returned (.bool r)/\(r=true↔kF cs c bK)/\SF w D [(b,aO L (eU cs c bK new) gen (up acc) pn cn pc cc)] [] [] (mW L (eU cs c bK new) pn cn pc cc) w':=by
 refine enter Tryz.func279 Tryz.ntmps279 rfl rfl (yY hs) ?_
 simp only[bX]
 refine cO ?_;refine lW ?_;refine aC (oB rf rf) rfl ?_;refine Qj ?_;refine Ds ?_;refine aD (cM (hc:=λ w hs=>Lo hs c)) (λ x18 h18=>?_);refine Bt ?_
 (refine eE 20 (λ g20=>?_) (λ g20=>?_)<;>(try (exfalso;omega))<;>(refine aI ?_))
 (refine aI ?_);refine J6 ?_;refine J68 ?_;(refine aI ?_);refine kf ?_;refine Rq ?_;refine aH ?_
 refine bB (λ c31=>?_) (λ c31=>?_)
 ·try (exfalso;omega)
  refine cO ?_
  refine aT Tryz.results279 (λ w hw=>?_)
  (exact⟨false,rfl,db hc,by rw[Vr hc];exact hw.aU⟩)
 ·exact nv c31
theorem gp(hs:SF w D [(b,aO L cs gen acc pn cn pc cc)] A [] (mW L cs pn cn pc cc) w){k:Nat}(hk:(k:Int)<9223372036854775807)(hl:cs.length<=274877906944):Calls Tryz.prog 35 #[.pointer (some ⟨b,0,none⟩),.int .i64 ((k+1:Nat):Int)] w λ e w'=>∃q:Unit,e=.returned (.int .i64 (bU cs ((k+1:Nat):Int)))/\True/\SF w D [(b,aO L cs gen (up acc) pn cn pc cc)] [] [] (mW L cs pn cn pc cc) w':=by
 refine enter Tryz.func35 Tryz.ntmps35 rfl rfl (yY hs) ?_
 simp only[bX]
 refine cO ?_;refine lW ?_;refine aC (oB rf rf) rfl ?_;refine Qj ?_;refine Ds ?_;refine aD (cM (hc:=λ w hs=>Lo hs ((k+1:Nat):Int))) (λ x14 h14=>?_);refine oH ?_
 refine bB (λ c15=>?_) (λ c15=>?_)
 ·try (exfalso;omega)
  refine cO ?_
  refine aT Tryz.results35 (λ w hw=>?_)
  (exact⟨(),by rw[rL (by omega)];rfl,trivial,hw.aU⟩)
 ·try (exfalso;omega)
  refine uk ?_;refine aA ?_;refine rT ?_;refine Rl ?_;refine J1 ?_
  refine aT Tryz.results35 (λ w hw=>?_)
  (exact⟨(),by rw[Gj (by omega)];rfl,trivial,hw.aU⟩)
theorem uc(hs:SF w D [(b,aO L cs gen acc pn cn pc cc)] A [] (mW L cs pn cn pc cc) w){k:Nat}(hk:(k:Int)<9223372036854775807)(bK new:Int)(hl:cs.length<=274877906944):Calls Tryz.prog 279 #[.pointer (some ⟨b,0,none⟩),.int .i64 ((k+1:Nat):Int),.int .i64 bK,.int .i64 new] w λ e w'=>∃r:Bool,e=.returned (.bool r)/\(r=true↔kF cs ((k+1:Nat):Int) bK)/\SF w D [(b,aO L (eU cs ((k+1:Nat):Int) bK new) gen (up acc) pn cn pc cc)] [] [] (mW L (eU cs ((k+1:Nat):Int) bK new) pn cn pc cc) w':=by
 refine enter Tryz.func279 Tryz.ntmps279 rfl rfl (yY hs) ?_
 simp only[bX]
 refine cO ?_;refine lW ?_;refine aC (oB rf rf) rfl ?_;refine Qj ?_;refine Ds ?_;refine aD (cM (hc:=λ w hs=>Lo hs ((k+1:Nat):Int))) (λ x18 h18=>?_);refine Bt ?_
 (refine eE 20 (λ g20=>?_) (λ g20=>?_)<;>(first|refine aI ?_|(refine aF ?_;refine aA ?_)))
 all_goals ((first|refine aI ?_|(refine aF ?_;refine dE ?_));refine J6 ?_;refine J68 ?_;(first|refine aI ?_|(refine aF ?_;refine gN ?_));refine kf ?_;refine Rq ?_;refine aH ?_)
 all_goals
 refine bB (λ c31=>?_) (λ c31=>?_)
 ·all_goals try (exfalso;omega)
  all_goals refine cO ?_
  all_goals
   refine aT Tryz.results279 (λ w hw=>?_)
   first|exact⟨false,rfl,cf (by omega),by rw[Uq (by omega)];exact hw.aU⟩|exact⟨false,rfl,fg (by simpa using c31),by rw[U9 (by simpa using c31)];exact hw.aU⟩ 
 ·try exact nv c31
  all_goals (refine uk ?_;refine aA ?_;refine rT ?_;refine aA ?_;refine gN ?_;refine J5 ?_;refine cO ?_)
  all_goals
   refine aT Tryz.results279 (λ w hw=>?_)
   (exact⟨true,rfl,kj (by omega) (by simpa using c31),by rw[Uy (by omega) (by simpa using c31)];simpa[mW,aO,mO] using hw.aU (F':=[])⟩)
theorem Vc(hs:SF w D [(b,aO L cs gen acc pn cn pc cc)] A [] (mW L cs pn cn pc cc) w)(c:Int)(hc:c<=9223372036854775807)(hl:cs.length<=274877906944):Calls Tryz.prog 35 #[.pointer (some ⟨b,0,none⟩),.int .i64 c] w λ e w'=>∃q:Unit,e=.returned (.int .i64 (bU cs c))/\True/\SF w D [(b,aO L cs gen (up acc) pn cn pc cc)] [] [] (mW L cs pn cn pc cc) w':=by
 rcases Int.lt_or_le c 1 with h|h
 ·exact ef hs c h
 ·obtain⟨k,rfl⟩:∃k:Nat,c=((k+1:Nat):Int):=⟨(c-1).toNat,by omega⟩
  exact gp hs (by omega) hl
theorem w7(hs:SF w D [(b,aO L cs gen acc pn cn pc cc)] A [] (mW L cs pn cn pc cc) w)(c bK new:Int)(hc:c<=9223372036854775807)(hl:cs.length<=274877906944):Calls Tryz.prog 279 #[.pointer (some ⟨b,0,none⟩),.int .i64 c,.int .i64 bK,.int .i64 new] w λ e w'=>∃r:Bool,e=.returned (.bool r)/\(r=true↔kF cs c bK)/\SF w D [(b,aO L (eU cs c bK new) gen (up acc) pn cn pc cc)] [] [] (mW L (eU cs c bK new) pn cn pc cc) w':=by
 rcases Int.lt_or_le c 1 with h|h
 ·exact s8 hs c bK new h
 ·obtain⟨k,rfl⟩:∃k:Nat,c=((k+1:Nat):Int):=⟨(c-1).toNat,by omega⟩
  exact uc hs (by omega) bK new hl
end

/- Loops over slices that are read: contracts. -/
section
open Go.RowKit Go.Ct
theorem C5{α} [BEq α] [LawfulBEq α] {xs ys:List α}{k:Nat}(h:xs.length=ys.length)(hk:¬k<xs.length)(ht:xs.take k=ys.take k):(xs==ys)=true:=by
 rw[List.take_of_length_le (by omega),List.take_of_length_le (by omega)] at ht
 simp[ht]
theorem Ft{α} [BEq α] [LawfulBEq α] {xs ys:List α}(h:xs.length≠ys.length):(xs==ys)=false:=by
 simp only[beq_eq_false_iff_ne,ne_eq]
 intro e;rw[e] at h;exact h rfl
theorem Fe{α} [BEq α] [LawfulBEq α] {xs ys:List α}{k:Nat}{d:α}(h:xs.getD k d≠ys.getD k d):(xs==ys)=false:=by
 simp only[beq_eq_false_iff_ne,ne_eq]
 intro e;rw[e] at h;exact h rfl
theorem Dn{α} [DecidableEq α] {xs ys:List α}{k:Nat}(h:xs.length=ys.length)(hk:¬k<xs.length)(ht:xs.take k=ys.take k):decide (xs=ys)=true:=by
 rw[List.take_of_length_le (by omega),List.take_of_length_le (by omega)] at ht
 simp[ht]
theorem Hh{α} [DecidableEq α] {xs ys:List α}(h:xs.length≠ys.length):decide (xs=ys)=false:=decide_eq_false λ e=>h (by rw[e])
theorem Gg{α} [DecidableEq α] {xs ys:List α}{k:Nat}{d:α}(h:xs.getD k d≠ys.getD k d):decide (xs=ys)=false:=decide_eq_false λ e=>h (by rw[e])
theorem xF{α}{xs ys:List α}{k:Nat}{d:α}(h:xs.take k=ys.take k)(hk:k<xs.length)(hl:xs.length=ys.length)(he:xs.getD k d=ys.getD k d):xs.take (k+1)=ys.take (k+1):=by
 rw[List.take_add_one,List.take_add_one,h,List.getElem?_eq_getElem hk,List.getElem?_eq_getElem (hl▸hk)]
 simp only[List.getD,List.getElem?_eq_getElem hk,List.getElem?_eq_getElem (hl▸hk:k<ys.length),Option.getD_some] at he
 rw[he]
theorem cr{xs ys:List Int}{a b:Option Addr}{ca cb:Nat}{w:World}(ha:Cl w a (aG xs))(hb:Cl w b (aG ys))(hx:xs.length<4611686018427387904) :
  Calls Tryz.prog 112 #[.slice a xs.length ca,.slice b ys.length cb] w λ e w'=>e=.returned (.bool (xs==ys))/\St w [] [] w':=by
 refine enter Tryz.func112 Tryz.ntmps112 rfl rfl (SF.s2 ha hb) ?_
 simp only[bX]
 refine cO ?_;refine kB ?_;refine dB ?_;refine aA ?_;refine dB ?_;refine lS ?_;refine aH ?_
 refine bB (λ c10=>?_) (λ c10=>?_)
 ·refine cO ?_
  refine aT Tryz.results112 (λ w hw=>?_)
  exact⟨by rw[Ft (by omega)];rfl,hw.done⟩
 ·refine jV ?_;refine Du ?_
  refine gB [4,5,11,12,13,14,15,16,17,18,19,20,21,22,23,24,25] (λ k=>[(5,.int .i64 ((k:Nat):Int))]) (λ k=>k<=xs.length/\xs.take k=ys.take k) (λ k=>xs.length-k) (0) (⟨Nat.zero_le _,by simp⟩) ?_ (λ k f hx=>?_)
  ·repeat (first|exact bD _|refine aX (by exact rfl) ?_)
  dsimp only[gU,List.map,List.cons_append,List.nil_append]
  refine Ds ?_;refine dB ?_;refine xA ?_
  refine bB (λ c14=>?_) (λ c14=>?_)
  ·refine qE ?_;refine aV ?_;refine gJ [0,1,2,3,4,5,6,7,8] ?_;refine iH ?_;refine Oe ?_;refine iH ?_;refine Oe ?_;refine K7 ?_;refine dY ?_
   refine bB (λ c25=>?_) (λ c25=>?_)
   ·refine cO ?_
    refine aT Tryz.results112 (λ w hw=>?_)
    exact⟨by rw[Fe c25];rfl,hw.done⟩
   ·refine nZ ?_;refine uN ?_
    refine eK (k+1) ?_ ?_ ?_
    ·omega
    ·repeat' (first|exact bD _|refine aX ?_ ?_)
     exact rfl
    ·exact⟨by omega,xF hx.2 (by omega) (by omega) c25⟩
  ·refine bN rfl ?_;refine cO ?_
   refine aT Tryz.results112 (λ w hw=>?_)
   exact⟨by rw[C5 (k:=k) (by omega) (by omega) hx.2];rfl,hw.done⟩
theorem aBa{xs ys:List Pr}{a b:Option Addr}{ca cb:Nat}{w:World}(ha:Cl w a (cU xs))(hb:Cl w b (cU ys))(hx:xs.length<4611686018427387904) :
  Calls Tryz.prog 155 #[.slice a xs.length ca,.slice b ys.length cb] w λ e w'=>e=.returned (.bool (decide (xs=ys)))/\St w [] [] w':=by
 refine enter Tryz.func155 Tryz.ntmps155 rfl rfl (SF.s2 ha hb) ?_
 simp only[bX]
 refine cO ?_;refine kB ?_;refine dB ?_;refine aA ?_;refine dB ?_;refine lS ?_;refine aH ?_
 refine bB (λ c10=>?_) (λ c10=>?_)
 ·refine cO ?_
  refine aT Tryz.results155 (λ w hw=>?_)
  exact⟨by rw[Hh (by omega)];rfl,hw.done⟩
 ·refine jV ?_;refine Du ?_
  refine gB [4,5,11,12,13,14,15,16,17,18,19,20,21,22,23,24,25] (λ k=>[(5,.int .i64 ((k:Nat):Int))]) (λ k=>k<=xs.length/\xs.take k=ys.take k) (λ k=>xs.length-k) (0) (⟨Nat.zero_le _,by simp⟩) ?_ (λ k f hx=>?_)
  ·repeat (first|exact bD _|refine aX (by exact rfl) ?_)
  dsimp only[gU,List.map,List.cons_append,List.nil_append]
  refine Ds ?_;refine dB ?_;refine xA ?_
  refine bB (λ c14=>?_) (λ c14=>?_)
  ·refine qE ?_;refine aV ?_;refine gJ [0,1,2,3,4,5,6,7,8] ?_;refine iH ?_;refine Oe ?_;refine iH ?_;refine Oe ?_;refine V4 ?_;refine dY ?_
   refine bB (λ c25=>?_) (λ c25=>?_)
   ·refine cO ?_
    refine aT Tryz.results155 (λ w hw=>?_)
    exact⟨by rw[Gg λ h=>c25 ⟨congrArg Prod.fst h,congrArg Prod.snd h⟩];rfl,hw.done⟩
   ·refine nZ ?_;refine uN ?_
    refine eK (k+1) ?_ ?_ ?_
    ·omega
    ·repeat' (first|exact bD _|refine aX ?_ ?_)
     exact rfl
    ·exact⟨by omega,xF hx.2 (by omega) (by omega) (Prod.ext c25.1 c25.2)⟩
  ·refine bN rfl ?_;refine cO ?_
   refine aT Tryz.results155 (λ w hw=>?_)
   exact⟨by rw[Dn (k:=k) (by omega) (by omega) hx.2];rfl,hw.done⟩
theorem s5{xs ys:List Int}{a b:Option Addr}{ca cb:Nat}{w:World}(ha:Cl w a (aG xs))(hb:Cl w b (aG ys))(hx:xs.length<4611686018427387904) :
  Calls Tryz.prog 236 #[.slice a xs.length ca,.slice b ys.length cb] w λ e w'=>e=.returned (.bool (xs==ys))/\St w [] [] w':=by
 refine enter Tryz.func236 Tryz.ntmps236 rfl rfl (SF.s2 ha hb) ?_
 simp only[bX]
 refine cO ?_;refine kB ?_;refine dB ?_;refine aA ?_;refine dB ?_;refine lS ?_;refine aH ?_
 refine bB (λ c10=>?_) (λ c10=>?_)
 ·refine cO ?_
  refine aT Tryz.results236 (λ w hw=>?_)
  exact⟨by rw[Ft (by omega)];rfl,hw.done⟩
 ·refine jV ?_;refine J2 ?_;refine dB ?_;refine Ee ?_;refine cR ?_
  refine gB [4,5,13,14,15,16,17,18,19,20,21,22,23,24,25] (λ k=>[(13,.int .i64 ((k:Nat):Int))]) (λ k=>k<=xs.length/\xs.take k=ys.take k) (λ k=>xs.length-k) (0) (⟨Nat.zero_le _,by simp⟩) ?_ (λ k f hx=>?_)
  ·repeat (first|exact bD _|refine aX (by exact rfl) ?_)
  dsimp only[gU,List.map,List.cons_append,List.nil_append]
  refine J0 ?_;refine xA ?_;refine aV ?_
  refine bB (λ c14=>?_) (λ c14=>?_)
  ·refine qE ?_;refine J2 ?_;refine iB ?_;refine gJ [0,1,2,3,4,5,6,7,8] ?_;refine iH ?_;refine Oe ?_;refine iH ?_;refine Oe ?_;refine K7 ?_;refine dY ?_
   refine bB (λ c24=>?_) (λ c24=>?_)
   ·refine cO ?_
    refine aT Tryz.results236 (λ w hw=>?_)
    exact⟨by rw[Fe c24];rfl,hw.done⟩
   ·refine nZ ?_;refine Zn ?_;refine Ee ?_
    refine eK (k+1) ?_ ?_ ?_
    ·omega
    ·repeat' (first|exact bD _|refine aX ?_ ?_)
     exact rfl
    ·exact⟨by omega,xF hx.2 (by omega) (by omega) c24⟩
  ·refine bN rfl ?_;refine cO ?_
   refine aT Tryz.results236 (λ w hw=>?_)
   exact⟨by rw[C5 (k:=k) (by omega) (by omega) hx.2];rfl,hw.done⟩
theorem aAo{xs ys:List Pr}{a b:Option Addr}{ca cb:Nat}{w:World}(ha:Cl w a (cU xs))(hb:Cl w b (cU ys))(hx:xs.length<4611686018427387904) :
  Calls Tryz.prog 237 #[.slice a xs.length ca,.slice b ys.length cb] w λ e w'=>e=.returned (.bool (decide (xs=ys)))/\St w [] [] w':=by
 refine enter Tryz.func237 Tryz.ntmps237 rfl rfl (SF.s2 ha hb) ?_
 simp only[bX]
 refine cO ?_;refine kB ?_;refine dB ?_;refine aA ?_;refine dB ?_;refine lS ?_;refine aH ?_
 refine bB (λ c10=>?_) (λ c10=>?_)
 ·refine cO ?_
  refine aT Tryz.results237 (λ w hw=>?_)
  exact⟨by rw[Hh (by omega)];rfl,hw.done⟩
 ·refine jV ?_;refine J2 ?_;refine dB ?_;refine Ee ?_;refine cR ?_
  refine gB [4,5,13,14,15,16,17,18,19,20,21,22,23,24,25] (λ k=>[(13,.int .i64 ((k:Nat):Int))]) (λ k=>k<=xs.length/\xs.take k=ys.take k) (λ k=>xs.length-k) (0) (⟨Nat.zero_le _,by simp⟩) ?_ (λ k f hx=>?_)
  ·repeat (first|exact bD _|refine aX (by exact rfl) ?_)
  dsimp only[gU,List.map,List.cons_append,List.nil_append]
  refine J0 ?_;refine xA ?_;refine aV ?_
  refine bB (λ c14=>?_) (λ c14=>?_)
  ·refine qE ?_;refine J2 ?_;refine iB ?_;refine gJ [0,1,2,3,4,5,6,7,8] ?_;refine iH ?_;refine Oe ?_;refine iH ?_;refine Oe ?_;refine V4 ?_;refine dY ?_
   refine bB (λ c24=>?_) (λ c24=>?_)
   ·refine cO ?_
    refine aT Tryz.results237 (λ w hw=>?_)
    exact⟨by rw[Gg λ h=>c24 ⟨congrArg Prod.fst h,congrArg Prod.snd h⟩];rfl,hw.done⟩
   ·refine nZ ?_;refine Zn ?_;refine Ee ?_
    refine eK (k+1) ?_ ?_ ?_
    ·omega
    ·repeat' (first|exact bD _|refine aX ?_ ?_)
     exact rfl
    ·exact⟨by omega,xF hx.2 (by omega) (by omega) (Prod.ext c24.1 c24.2)⟩
  ·refine bN rfl ?_;refine cO ?_
   refine aT Tryz.results237 (λ w hw=>?_)
   exact⟨by rw[Dn (k:=k) (by omega) (by omega) hx.2];rfl,hw.done⟩
end

end Go.Proofs.YtbajmaoegmbfgaaGreat
