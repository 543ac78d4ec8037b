/- The small methods of the two memories: generations, loads, compare-and-swaps. -/
import Derived.Test.YtbajmaoegmbfgaaGreatGJoin
import Derived.Test.YtbajmaoegmbfgaaGreatGMem
import Derived.Test.YtbajmaoegmbfgaaGreatAuto

set_option linter.unusedSimpArgs false
set_option linter.unusedVariables false
namespace Go.Ct
section
def bU(cs:List Int)(c:Int):Int:=if 1<=c/\c<=cs.length then cs.getD (c-1).toNat 0 else 0
def kB(cs:List Int)(c bI:Int):Prop:=1<=c/\c<=cs.length/\cs.getD (c-1).toNat 0=bI
def eT(cs:List Int)(c bI new:Int):List Int:=if 1<=c/\c<=cs.length/\cs.getD (c-1).toNat 0=bI then cs.set (c-1).toNat new else cs
def up(i:Int):Int:=Go.IntKind.i64.wrap (i+1)
theorem rP{cs:List Int}{c:Int}(h:¬(1<=c/\c<=cs.length)):bU cs c=0:=if_neg h
theorem He{cs:List Int}{k:Nat}(h:k<cs.length):bU cs ((k+1:Nat):Int)=cs.getD k 0:=by
 unfold bU
 rw[if_pos (by omega),show(((k+1:Nat):Int)-1).toNat=k by omega]
theorem Er{cs:List Int}{c bI new:Int}(h:¬(1<=c/\c<=cs.length/\cs.getD (c-1).toNat 0=bI)):eT cs c bI new=cs:=if_neg h
theorem Vq{cs:List Int}{k:Nat}{bI new:Int}(h:k<cs.length)(ho:cs.getD k 0=bI):eT cs ((k+1:Nat):Int) bI new=cs.set k new:=by
 have e:(((k+1:Nat):Int)-1).toNat=k:=by omega
 unfold eT
 rw[e,if_pos ⟨by omega,by omega,ho⟩]
theorem ar{cs:List Int}{c bI:Int}(h:c<1):(false=true↔kB cs c bI):=⟨(λ h=>nomatch h),λ h2=>absurd h2.1 (by omega)⟩
theorem Ve{cs:List Int}{c bI new:Int}(h:c<1):eT cs c bI new=cs:=Er (by omega)
theorem lx{cs:List Int}{c bI:Int}(h:(cs.length:Int)<c):(false=true↔kB cs c bI):=⟨(λ h=>nomatch h),λ h2=>absurd h2.2.1 (by omega)⟩
theorem U5{cs:List Int}{c bI new:Int}(h:(cs.length:Int)<c):eT cs c bI new=cs:=Er (by omega)
theorem Zo{cs:List Int}{k:Nat}{bI:Int}(h:cs.getD k 0≠bI):(false=true↔kB cs ((k+1:Nat):Int) bI):=⟨(λ h=>nomatch h),λ h2=>absurd (by have:=h2.2.2;rwa [show(((k+1:Nat):Int)-1).toNat=k by omega] at this) h⟩
theorem U9{cs:List Int}{k:Nat}{bI new:Int}(h:cs.getD k 0≠bI):eT cs ((k+1:Nat):Int) bI new=cs:=Er λ h2=>absurd (by have:=h2.2.2;rwa [show(((k+1:Nat):Int)-1).toNat=k by omega] at this) h
theorem ly{cs:List Int}{k:Nat}{bI:Int}(hk:k<cs.length)(h:cs.getD k 0=bI):(true=true↔kB cs ((k+1:Nat):Int) bI):=⟨λ _=>⟨by omega,by omega,by rw[show(((k+1:Nat):Int)-1).toNat=k by omega];exact h⟩,λ _=>rfl⟩
theorem iF{cs:List Int}{c bI new:Int}:(eT cs c bI new).length=cs.length:=by unfold eT;split<;>simp
end
end Go.Ct
namespace Go.Proofs.YtbajmaoegmbfgaaGreat
section
open Go.RowKit Go.Ct
variable{w:World}{D:List Nat}{b:Nat}{L:List aP}{cs:List Int}{gen acc:Int}{pn pc:Option Addr}{cn cc:Nat}{A:Fr}
theorem I6(hs:SF w D [(b,mO L cs gen acc pn cn pc cc)] A [] (mW L cs pn cn pc cc) w):Calls Tryz.prog 100 #[.pointer (some ⟨b,0,none⟩)] w λ e w'=>∃q:Unit,e=.returned (.int .i64 (up gen))/\True/\SF w D [(b,mO L cs (up gen) acc pn cn pc cc)] [] [] (mW L cs pn cn pc cc) w':=by
 refine enter Tryz.func100 Tryz.ntmps100 rfl rfl (yU hs) ?_
 simp only[bX]
 refine cO ?_;refine Hj ?_;refine J3 ?_;refine aC (nM rf rf) rfl ?_;refine Ni ?_;refine uP ?_;refine Hj ?_;refine J3 ?_;refine J1 ?_
 refine aS Tryz.results100 (λ w hw=>?_)
 exact⟨(),rfl,trivial,by simpa[mO,mW] using hw.aU (F':=[])⟩
theorem fl(hs:SF w D [(b,mO L cs gen acc pn cn pc cc)] A [] (mW L cs pn cn pc cc) w)(c:Int)(hc:c<1):Calls Tryz.prog 241 #[.pointer (some ⟨b,0,none⟩),.int .i64 c] w λ e w'=>∃q:Unit,e=.returned (.int .i64 (bU cs c))/\True/\SF w D [(b,mO L cs gen (up acc) pn cn pc cc)] [] [] (mW L cs pn cn pc cc) w':=by
 refine enter Tryz.func241 Tryz.ntmps241 rfl rfl (yU hs) ?_
 simp only[bX]
 refine cO ?_;refine lR ?_;refine aC (nM rf rf) rfl ?_;refine N7 ?_;refine jV ?_;refine Bq ?_
 (refine dZ 14 (λ g14=>?_) (λ g14=>?_)<;>(try (exfalso;omega))<;>(refine aI ?_))
 refine y7 ?_;refine Sm ?_;refine Ae ?_;refine aH ?_
 refine bB (λ c23=>?_) (λ c23=>?_)
 ·try (exfalso;omega)
  refine cO ?_
  refine aS Tryz.results241 (λ w hw=>?_)
  (exact⟨(),by rw[rP (by omega)];rfl,trivial,hw.aU⟩)
 ·exact nv c23
theorem sv(hs:SF w D [(b,mO L cs gen acc pn cn pc cc)] A [] (mW L cs pn cn pc cc) w)(c:Int)(bI new:Int)(hc:c<1):Calls Tryz.prog 242 #[.pointer (some ⟨b,0,none⟩),.int .i64 c,.int .i64 bI,.int .i64 new] w λ e w'=>∃r:Bool,e=.returned (.bool r)/\(r=true↔kB cs c bI)/\SF w D [(b,mO L (eT cs c bI new) gen (up acc) pn cn pc cc)] [] [] (mW L (eT cs c bI new) pn cn pc cc) w':=by
 refine enter Tryz.func242 Tryz.ntmps242 rfl rfl (yU hs) ?_
 simp only[bX]
 refine cO ?_;refine lR ?_;refine aC (nM rf rf) rfl ?_;refine N7 ?_;refine jV ?_;refine Bq ?_
 (refine dZ 18 (λ g18=>?_) (λ g18=>?_)<;>(try (exfalso;omega))<;>(refine aI ?_))
 refine y7 ?_;refine Sm ?_;refine Ae ?_;refine aA ?_
 refine aI ?_
 refine J36 ?_;refine J6 ?_;refine J68 ?_;(refine aI ?_);refine jd ?_;refine Q9 ?_;refine aH ?_
 refine bB (λ c40=>?_) (λ c40=>?_)
 ·try (exfalso;omega)
  refine cO ?_
  refine aS Tryz.results242 (λ w hw=>?_)
  (exact⟨false,rfl,ar hc,by rw[Ve hc];exact hw.aU⟩)
 ·exact nv c40
theorem Zv(hs:SF w D [(b,mO L cs gen acc pn cn pc cc)] A [] (mW L cs pn cn pc cc) w){k:Nat}(hk:(k:Int)<9223372036854775807)(hl:cs.length<=274877906944):Calls Tryz.prog 241 #[.pointer (some ⟨b,0,none⟩),.int .i64 ((k+1:Nat):Int)] w λ e w'=>∃q:Unit,e=.returned (.int .i64 (bU cs ((k+1:Nat):Int)))/\True/\SF w D [(b,mO L cs gen (up acc) pn cn pc cc)] [] [] (mW L cs pn cn pc cc) w':=by
 refine enter Tryz.func241 Tryz.ntmps241 rfl rfl (yU hs) ?_
 simp only[bX]
 refine cO ?_;refine lR ?_;refine aC (nM rf rf) rfl ?_;refine N7 ?_;refine jV ?_;refine Bq ?_
 (refine aF ?_;refine aA ?_)
 refine y7 ?_;refine Sm ?_;refine Ae ?_;refine aH ?_
 refine bB (λ c23=>?_) (λ c23=>?_)
 ·try (exfalso;omega)
  refine cO ?_
  refine aS Tryz.results241 (λ w hw=>?_)
  (exact⟨(),by rw[rP (by omega)];rfl,trivial,hw.aU⟩)
 ·try (exfalso;omega)
  refine bA ?_;refine Hj ?_;refine J3 ?_;refine aA ?_;refine rX ?_;refine Rf ?_;refine J1 ?_
  refine aS Tryz.results241 (λ w hw=>?_)
  (exact⟨(),by rw[He (by omega)];rfl,trivial,hw.aU⟩)
theorem sr(hs:SF w D [(b,mO L cs gen acc pn cn pc cc)] A [] (mW L cs pn cn pc cc) w){k:Nat}(hk:(k:Int)<9223372036854775807)(bI new:Int)(hl:cs.length<=274877906944):Calls Tryz.prog 242 #[.pointer (some ⟨b,0,none⟩),.int .i64 ((k+1:Nat):Int),.int .i64 bI,.int .i64 new] w λ e w'=>∃r:Bool,e=.returned (.bool r)/\(r=true↔kB cs ((k+1:Nat):Int) bI)/\SF w D [(b,mO L (eT cs ((k+1:Nat):Int) bI new) gen (up acc) pn cn pc cc)] [] [] (mW L (eT cs ((k+1:Nat):Int) bI new) pn cn pc cc) w':=by
 refine enter Tryz.func242 Tryz.ntmps242 rfl rfl (yU hs) ?_
 simp only[bX]
 refine cO ?_;refine lR ?_;refine aC (nM rf rf) rfl ?_;refine N7 ?_;refine jV ?_;refine Bq ?_
 (refine aF ?_;refine aA ?_)
 refine y7 ?_;refine Sm ?_;refine Ae ?_;refine aA ?_
 (refine dZ 28 (λ g28=>?_) (λ g28=>?_)<;>(first|refine aI ?_|(refine aF ?_;refine aA ?_)))
 all_goals (refine J36 ?_;refine J6 ?_;refine J68 ?_;(first|refine aI ?_|(refine aF ?_;refine gN ?_));refine jd ?_;refine Q9 ?_;refine aH ?_)
 all_goals
 refine bB (λ c40=>?_) (λ c40=>?_)
 ·all_goals try (exfalso;omega)
  all_goals refine cO ?_
  all_goals
   refine aS Tryz.results242 (λ w hw=>?_)
   first|exact⟨false,rfl,lx (by omega),by rw[U5 (by omega)];exact hw.aU⟩|exact⟨false,rfl,Zo (by simpa using c40),by rw[U9 (by simpa using c40)];exact hw.aU⟩ 
 ·try exact nv c40
  all_goals (refine bA ?_;refine Hj ?_;refine J3 ?_;refine aA ?_;refine rX ?_;refine aA ?_;refine gN ?_;refine J5 ?_;refine cO ?_)
  all_goals
   refine aS Tryz.results242 (λ w hw=>?_)
   (exact⟨true,rfl,ly (by omega) (by simpa using c40),by rw[Vq (by omega) (by simpa using c40)];simpa[mW,aO,mO] using hw.aU (F':=[])⟩)
theorem qe(hs:SF w D [(b,mO L cs gen acc pn cn pc cc)] A [] (mW L cs pn cn pc cc) w)(c:Int)(hc:c<=9223372036854775807)(hl:cs.length<=274877906944):Calls Tryz.prog 241 #[.pointer (some ⟨b,0,none⟩),.int .i64 c] w λ e w'=>∃q:Unit,e=.returned (.int .i64 (bU cs c))/\True/\SF w D [(b,mO L cs gen (up acc) pn cn pc cc)] [] [] (mW L cs pn cn pc cc) w':=by
 rcases Int.lt_or_le c 1 with h|h
 ·exact fl hs c h
 ·obtain⟨k,rfl⟩:∃k:Nat,c=((k+1:Nat):Int):=⟨(c-1).toNat,by omega⟩
  exact Zv hs (by omega) hl
theorem yb(hs:SF w D [(b,mO L cs gen acc pn cn pc cc)] A [] (mW L cs pn cn pc cc) w)(c bI new:Int)(hc:c<=9223372036854775807)(hl:cs.length<=274877906944):Calls Tryz.prog 242 #[.pointer (some ⟨b,0,none⟩),.int .i64 c,.int .i64 bI,.int .i64 new] w λ e w'=>∃r:Bool,e=.returned (.bool r)/\(r=true↔kB cs c bI)/\SF w D [(b,mO L (eT cs c bI new) gen (up acc) pn cn pc cc)] [] [] (mW L (eT cs c bI new) pn cn pc cc) w':=by
 rcases Int.lt_or_le c 1 with h|h
 ·exact sv hs c bI new h
 ·obtain⟨k,rfl⟩:∃k:Nat,c=((k+1:Nat):Int):=⟨(c-1).toNat,by omega⟩
  exact sr hs (by omega) bI new hl
theorem Lo(hs:SF w D [(b,aO L cs gen acc pn cn pc cc)] A [] (mW L cs pn cn pc cc) w)(c:Int):Calls Tryz.prog 85 #[.pointer (some ⟨b,0,none⟩),.int .i64 c] w λ e w'=>∃q:Unit,e=.returned (.bool (decide (1<=c/\c<=(cs.length:Int))))/\True/\SF w D [(b,aO L cs gen acc pn cn pc cc)] [] [] (mW L cs pn cn pc cc) w':=by
 refine enter Tryz.func85 Tryz.ntmps85 rfl rfl (yG hs) ?_
 simp only[bX]
 refine cO ?_;refine J2 ?_;refine nQ ?_;refine aA ?_
 (refine dZ 7 (λ g7=>?_) (λ g7=>?_)<;>(first|refine aI ?_|(refine aF ?_;refine aA ?_)))
 all_goals ((first|refine aI ?_|(refine aF ?_;refine aA ?_));(first|refine aI ?_|(refine aF ?_;refine dC ?_));refine Sm ?_;(first|refine aI ?_|(refine aF ?_;refine Ao ?_));refine cA ?_;refine J1 ?_)
 all_goals
 refine aS Tryz.results85 (λ w hw=>?_)
 first|exact⟨(),by rw[decide_eq_false (show ¬(1<=c/\c<=(cs.length:Int)) by omega)];first|rfl|(rw[decide_eq_false (by omega)];rfl),trivial,hw.aU⟩|exact⟨(),by rw[show decide (1<=c/\c<=(cs.length:Int))=decide (c<=(cs.length:Int)) by simp;omega];rfl,trivial,hw.aU⟩
theorem an(hs:SF w D [(b,aO L cs gen acc pn cn pc cc)] A [] (mW L cs pn cn pc cc) w)(c:Int)(hc:c<1):Calls Tryz.prog 35 #[.pointer (some ⟨b,0,none⟩),.int .i64 c] w λ e w'=>∃q:Unit,e=.returned (.int .i64 (bU cs c))/\True/\SF w D [(b,aO L cs gen (up acc) pn cn pc cc)] [] [] (mW L cs pn cn pc cc) w':=by
 refine enter Tryz.func35 Tryz.ntmps35 rfl rfl (yG hs) ?_
 simp only[bX]
 refine cO ?_;refine lR ?_;refine aC (nM rf rf) rfl ?_;refine N7 ?_;refine Cz ?_;refine aD (cM (hc:=λ w hs=>Lo hs c)) (λ x14 h14=>?_);refine oE ?_
 refine bB (λ c15=>?_) (λ c15=>?_)
 ·try (exfalso;omega)
  refine cO ?_
  refine aS Tryz.results35 (λ w hw=>?_)
  (exact⟨(),by rw[rP (by omega)];rfl,trivial,hw.aU⟩)
 ·try (exfalso;omega)
theorem q8(hs:SF w D [(b,aO L cs gen acc pn cn pc cc)] A [] (mW L cs pn cn pc cc) w)(c:Int)(bI new:Int)(hc:c<1):Calls Tryz.prog 279 #[.pointer (some ⟨b,0,none⟩),.int .i64 c,.int .i64 bI,.int .i64 new] w λ e w'=>∃r:Bool,e=.returned (.bool r)/\(r=true↔kB cs c bI)/\SF w D [(b,aO L (eT cs c bI new) gen (up acc) pn cn pc cc)] [] [] (mW L (eT cs c bI new) pn cn pc cc) w':=by
 refine enter Tryz.func279 Tryz.ntmps279 rfl rfl (yG hs) ?_
 simp only[bX]
 refine cO ?_;refine lR ?_;refine aC (nM rf rf) rfl ?_;refine N7 ?_;refine Cz ?_;refine aD (cM (hc:=λ w hs=>Lo hs c)) (λ x18 h18=>?_);refine Ci ?_
 (refine dZ 20 (λ g20=>?_) (λ g20=>?_)<;>(try (exfalso;omega))<;>(refine aI ?_))
 (refine aI ?_);refine J6 ?_;refine J68 ?_;(refine aI ?_);refine jd ?_;refine Q9 ?_;refine aH ?_
 refine bB (λ c31=>?_) (λ c31=>?_)
 ·try (exfalso;omega)
  refine cO ?_
  refine aS Tryz.results279 (λ w hw=>?_)
  (exact⟨false,rfl,ar hc,by rw[Ve hc];exact hw.aU⟩)
 ·exact nv c31
theorem fv(hs:SF w D [(b,aO L cs gen acc pn cn pc cc)] A [] (mW L cs pn cn pc cc) w){k:Nat}(hk:(k:Int)<9223372036854775807)(hl:cs.length<=274877906944):Calls Tryz.prog 35 #[.pointer (some ⟨b,0,none⟩),.int .i64 ((k+1:Nat):Int)] w λ e w'=>∃q:Unit,e=.returned (.int .i64 (bU cs ((k+1:Nat):Int)))/\True/\SF w D [(b,aO L cs gen (up acc) pn cn pc cc)] [] [] (mW L cs pn cn pc cc) w':=by
 refine enter Tryz.func35 Tryz.ntmps35 rfl rfl (yG hs) ?_
 simp only[bX]
 refine cO ?_;refine lR ?_;refine aC (nM rf rf) rfl ?_;refine N7 ?_;refine Cz ?_;refine aD (cM (hc:=λ w hs=>Lo hs ((k+1:Nat):Int))) (λ x14 h14=>?_);refine oE ?_
 refine bB (λ c15=>?_) (λ c15=>?_)
 ·try (exfalso;omega)
  refine cO ?_
  refine aS Tryz.results35 (λ w hw=>?_)
  (exact⟨(),by rw[rP (by omega)];rfl,trivial,hw.aU⟩)
 ·try (exfalso;omega)
  refine uk ?_;refine aA ?_;refine rX ?_;refine Rf ?_;refine J1 ?_
  refine aS Tryz.results35 (λ w hw=>?_)
  (exact⟨(),by rw[He (by omega)];rfl,trivial,hw.aU⟩)
theorem qi(hs:SF w D [(b,aO L cs gen acc pn cn pc cc)] A [] (mW L cs pn cn pc cc) w){k:Nat}(hk:(k:Int)<9223372036854775807)(bI new:Int)(hl:cs.length<=274877906944):Calls Tryz.prog 279 #[.pointer (some ⟨b,0,none⟩),.int .i64 ((k+1:Nat):Int),.int .i64 bI,.int .i64 new] w λ e w'=>∃r:Bool,e=.returned (.bool r)/\(r=true↔kB cs ((k+1:Nat):Int) bI)/\SF w D [(b,aO L (eT cs ((k+1:Nat):Int) bI new) gen (up acc) pn cn pc cc)] [] [] (mW L (eT cs ((k+1:Nat):Int) bI new) pn cn pc cc) w':=by
 refine enter Tryz.func279 Tryz.ntmps279 rfl rfl (yG hs) ?_
 simp only[bX]
 refine cO ?_;refine lR ?_;refine aC (nM rf rf) rfl ?_;refine N7 ?_;refine Cz ?_;refine aD (cM (hc:=λ w hs=>Lo hs ((k+1:Nat):Int))) (λ x18 h18=>?_);refine Ci ?_
 (refine dZ 20 (λ g20=>?_) (λ g20=>?_)<;>(first|refine aI ?_|(refine aF ?_;refine aA ?_)))
 all_goals ((first|refine aI ?_|(refine aF ?_;refine dC ?_));refine J6 ?_;refine J68 ?_;(first|refine aI ?_|(refine aF ?_;refine gN ?_));refine jd ?_;refine Q9 ?_;refine aH ?_)
 all_goals
 refine bB (λ c31=>?_) (λ c31=>?_)
 ·all_goals try (exfalso;omega)
  all_goals refine cO ?_
  all_goals
   refine aS Tryz.results279 (λ w hw=>?_)
   first|exact⟨false,rfl,lx (by omega),by rw[U5 (by omega)];exact hw.aU⟩|exact⟨false,rfl,Zo (by simpa using c31),by rw[U9 (by simpa using c31)];exact hw.aU⟩ 
 ·try exact nv c31
  all_goals (refine uk ?_;refine aA ?_;refine rX ?_;refine aA ?_;refine gN ?_;refine J5 ?_;refine cO ?_)
  all_goals
   refine aS Tryz.results279 (λ w hw=>?_)
   (exact⟨true,rfl,ly (by omega) (by simpa using c31),by rw[Vq (by omega) (by simpa using c31)];simpa[mW,aO,mO] using hw.aU (F':=[])⟩)
theorem Vn(hs:SF w D [(b,aO L cs gen acc pn cn pc cc)] A [] (mW L cs pn cn pc cc) w)(c:Int)(hc:c<=9223372036854775807)(hl:cs.length<=274877906944):Calls Tryz.prog 35 #[.pointer (some ⟨b,0,none⟩),.int .i64 c] w λ e w'=>∃q:Unit,e=.returned (.int .i64 (bU cs c))/\True/\SF w D [(b,aO L cs gen (up acc) pn cn pc cc)] [] [] (mW L cs pn cn pc cc) w':=by
 rcases Int.lt_or_le c 1 with h|h
 ·exact an hs c h
 ·obtain⟨k,rfl⟩:∃k:Nat,c=((k+1:Nat):Int):=⟨(c-1).toNat,by omega⟩
  exact fv hs (by omega) hl
theorem zo(hs:SF w D [(b,aO L cs gen acc pn cn pc cc)] A [] (mW L cs pn cn pc cc) w)(c bI new:Int)(hc:c<=9223372036854775807)(hl:cs.length<=274877906944):Calls Tryz.prog 279 #[.pointer (some ⟨b,0,none⟩),.int .i64 c,.int .i64 bI,.int .i64 new] w λ e w'=>∃r:Bool,e=.returned (.bool r)/\(r=true↔kB cs c bI)/\SF w D [(b,aO L (eT cs c bI new) gen (up acc) pn cn pc cc)] [] [] (mW L (eT cs c bI new) pn cn pc cc) w':=by
 rcases Int.lt_or_le c 1 with h|h
 ·exact q8 hs c bI new h
 ·obtain⟨k,rfl⟩:∃k:Nat,c=((k+1:Nat):Int):=⟨(c-1).toNat,by omega⟩
  exact qi hs (by omega) bI new hl
end

/- Loops over slices that are read: contracts. -/
section
open Go.RowKit Go.Ct
theorem Dm{α} [BEq α] [LawfulBEq α] {xs ys:List α}{k:Nat}(h:xs.length=ys.length)(hk:¬k<xs.length)(ht:xs.take k=ys.take k):(xs==ys)=true:=by
 rw[List.take_of_length_le (by omega),List.take_of_length_le (by omega)] at ht
 simp[ht]
theorem Gt{α} [BEq α] [LawfulBEq α] {xs ys:List α}(h:xs.length≠ys.length):(xs==ys)=false:=by
 simp only[beq_eq_false_iff_ne,ne_eq]
 intro e;rw[e] at h;exact h rfl
theorem Eu{α} [BEq α] [LawfulBEq α] {xs ys:List α}{k:Nat}{d:α}(h:xs.getD k d≠ys.getD k d):(xs==ys)=false:=by
 simp only[beq_eq_false_iff_ne,ne_eq]
 intro e;rw[e] at h;exact h rfl
theorem Dc{α} [DecidableEq α] {xs ys:List α}{k:Nat}(h:xs.length=ys.length)(hk:¬k<xs.length)(ht:xs.take k=ys.take k):decide (xs=ys)=true:=by
 rw[List.take_of_length_le (by omega),List.take_of_length_le (by omega)] at ht
 simp[ht]
theorem Hw{α} [DecidableEq α] {xs ys:List α}(h:xs.length≠ys.length):decide (xs=ys)=false:=decide_eq_false λ e=>h (by rw[e])
theorem Ff{α} [DecidableEq α] {xs ys:List α}{k:Nat}{d:α}(h:xs.getD k d≠ys.getD k d):decide (xs=ys)=false:=decide_eq_false λ e=>h (by rw[e])
theorem xU{α}{xs ys:List α}{k:Nat}{d:α}(h:xs.take k=ys.take k)(hk:k<xs.length)(hl:xs.length=ys.length)(he:xs.getD k d=ys.getD k d):xs.take (k+1)=ys.take (k+1):=by
 rw[List.take_add_one,List.take_add_one,h,List.getElem?_eq_getElem hk,List.getElem?_eq_getElem (hl▸hk)]
 simp only[List.getD,List.getElem?_eq_getElem hk,List.getElem?_eq_getElem (hl▸hk:k<ys.length),Option.getD_some] at he
 rw[he]
theorem df{xs ys:List Int}{a b:Option Addr}{ca cb:Nat}{w:World}(ha:Cl w a (aG xs))(hb:Cl w b (aG ys))(hx:xs.length<4611686018427387904) :
  Calls Tryz.prog 112 #[.slice a xs.length ca,.slice b ys.length cb] w λ e w'=>e=.returned (.bool (xs==ys))/\St w [] [] w':=by
 refine enter Tryz.func112 Tryz.ntmps112 rfl rfl (SF.s2 ha hb) ?_
 simp only[bX]
 refine cO ?_;refine jV ?_;refine dA ?_;refine aA ?_;refine dA ?_;refine lO ?_;refine aH ?_
 refine bB (λ c10=>?_) (λ c10=>?_)
 ·refine cO ?_
  refine aS Tryz.results112 (λ w hw=>?_)
  exact⟨by rw[Gt (by omega)];rfl,hw.done⟩
 ·refine jY ?_;refine Dd ?_
  refine fV [4,5,11,12,13,14,15,16,17,18,19,20,21,22,23,24,25] (λ k=>[(5,.int .i64 ((k:Nat):Int))]) (λ k=>k<=xs.length/\xs.take k=ys.take k) (λ k=>xs.length-k) (0) (⟨Nat.zero_le _,by simp⟩) ?_ (λ k f hx=>?_)
  ·repeat (first|exact bD _|refine aW (by exact rfl) ?_)
  dsimp only[gX,List.map,List.cons_append,List.nil_append]
  refine Cz ?_;refine dA ?_;refine wT ?_
  refine bB (λ c14=>?_) (λ c14=>?_)
  ·refine qB ?_;refine aV ?_;refine gF [0,1,2,3,4,5,6,7,8] ?_;refine iH ?_;refine P8 ?_;refine iH ?_;refine P8 ?_;refine Kv ?_;refine dW ?_
   refine bB (λ c25=>?_) (λ c25=>?_)
   ·refine cO ?_
    refine aS Tryz.results112 (λ w hw=>?_)
    exact⟨by rw[Eu c25];rfl,hw.done⟩
   ·refine nT ?_;refine uJ ?_
    refine eI (k+1) ?_ ?_ ?_
    ·omega
    ·repeat' (first|exact bD _|refine aW ?_ ?_)
     exact rfl
    ·exact⟨by omega,xU hx.2 (by omega) (by omega) c25⟩
  ·refine bM rfl ?_;refine cO ?_
   refine aS Tryz.results112 (λ w hw=>?_)
   exact⟨by rw[Dm (k:=k) (by omega) (by omega) hx.2];rfl,hw.done⟩
theorem aA3{xs ys:List Pr}{a b:Option Addr}{ca cb:Nat}{w:World}(ha:Cl w a (cR xs))(hb:Cl w b (cR ys))(hx:xs.length<4611686018427387904) :
  Calls Tryz.prog 155 #[.slice a xs.length ca,.slice b ys.length cb] w λ e w'=>e=.returned (.bool (decide (xs=ys)))/\St w [] [] w':=by
 refine enter Tryz.func155 Tryz.ntmps155 rfl rfl (SF.s2 ha hb) ?_
 simp only[bX]
 refine cO ?_;refine jV ?_;refine dA ?_;refine aA ?_;refine dA ?_;refine lO ?_;refine aH ?_
 refine bB (λ c10=>?_) (λ c10=>?_)
 ·refine cO ?_
  refine aS Tryz.results155 (λ w hw=>?_)
  exact⟨by rw[Hw (by omega)];rfl,hw.done⟩
 ·refine jY ?_;refine Dd ?_
  refine fV [4,5,11,12,13,14,15,16,17,18,19,20,21,22,23,24,25] (λ k=>[(5,.int .i64 ((k:Nat):Int))]) (λ k=>k<=xs.length/\xs.take k=ys.take k) (λ k=>xs.length-k) (0) (⟨Nat.zero_le _,by simp⟩) ?_ (λ k f hx=>?_)
  ·repeat (first|exact bD _|refine aW (by exact rfl) ?_)
  dsimp only[gX,List.map,List.cons_append,List.nil_append]
  refine Cz ?_;refine dA ?_;refine wT ?_
  refine bB (λ c14=>?_) (λ c14=>?_)
  ·refine qB ?_;refine aV ?_;refine gF [0,1,2,3,4,5,6,7,8] ?_;refine iH ?_;refine P8 ?_;refine iH ?_;refine P8 ?_;refine Ue ?_;refine dW ?_
   refine bB (λ c25=>?_) (λ c25=>?_)
   ·refine cO ?_
    refine aS Tryz.results155 (λ w hw=>?_)
    exact⟨by rw[Ff λ h=>c25 ⟨congrArg Prod.fst h,congrArg Prod.snd h⟩];rfl,hw.done⟩
   ·refine nT ?_;refine uJ ?_
    refine eI (k+1) ?_ ?_ ?_
    ·omega
    ·repeat' (first|exact bD _|refine aW ?_ ?_)
     exact rfl
    ·exact⟨by omega,xU hx.2 (by omega) (by omega) (Prod.ext c25.1 c25.2)⟩
  ·refine bM rfl ?_;refine cO ?_
   refine aS Tryz.results155 (λ w hw=>?_)
   exact⟨by rw[Dc (k:=k) (by omega) (by omega) hx.2];rfl,hw.done⟩
theorem nf{xs ys:List Int}{a b:Option Addr}{ca cb:Nat}{w:World}(ha:Cl w a (aG xs))(hb:Cl w b (aG ys))(hx:xs.length<4611686018427387904) :
  Calls Tryz.prog 236 #[.slice a xs.length ca,.slice b ys.length cb] w λ e w'=>e=.returned (.bool (xs==ys))/\St w [] [] w':=by
 refine enter Tryz.func236 Tryz.ntmps236 rfl rfl (SF.s2 ha hb) ?_
 simp only[bX]
 refine cO ?_;refine jV ?_;refine dA ?_;refine aA ?_;refine dA ?_;refine lO ?_;refine aH ?_
 refine bB (λ c10=>?_) (λ c10=>?_)
 ·refine cO ?_
  refine aS Tryz.results236 (λ w hw=>?_)
  exact⟨by rw[Gt (by omega)];rfl,hw.done⟩
 ·refine jY ?_;refine J2 ?_;refine dA ?_;refine D7 ?_;refine cP ?_
  refine fV [4,5,13,14,15,16,17,18,19,20,21,22,23,24,25] (λ k=>[(13,.int .i64 ((k:Nat):Int))]) (λ k=>k<=xs.length/\xs.take k=ys.take k) (λ k=>xs.length-k) (0) (⟨Nat.zero_le _,by simp⟩) ?_ (λ k f hx=>?_)
  ·repeat (first|exact bD _|refine aW (by exact rfl) ?_)
  dsimp only[gX,List.map,List.cons_append,List.nil_append]
  refine J0 ?_;refine wT ?_;refine aV ?_
  refine bB (λ c14=>?_) (λ c14=>?_)
  ·refine qB ?_;refine J2 ?_;refine hZ ?_;refine gF [0,1,2,3,4,5,6,7,8] ?_;refine iH ?_;refine P8 ?_;refine iH ?_;refine P8 ?_;refine Kv ?_;refine dW ?_
   refine bB (λ c24=>?_) (λ c24=>?_)
   ·refine cO ?_
    refine aS Tryz.results236 (λ w hw=>?_)
    exact⟨by rw[Eu c24];rfl,hw.done⟩
   ·refine nT ?_;refine Xp ?_;refine D7 ?_
    refine eI (k+1) ?_ ?_ ?_
    ·omega
    ·repeat' (first|exact bD _|refine aW ?_ ?_)
     exact rfl
    ·exact⟨by omega,xU hx.2 (by omega) (by omega) c24⟩
  ·refine bM rfl ?_;refine cO ?_
   refine aS Tryz.results236 (λ w hw=>?_)
   exact⟨by rw[Dm (k:=k) (by omega) (by omega) hx.2];rfl,hw.done⟩
theorem aAb{xs ys:List Pr}{a b:Option Addr}{ca cb:Nat}{w:World}(ha:Cl w a (cR xs))(hb:Cl w b (cR ys))(hx:xs.length<4611686018427387904) :
  Calls Tryz.prog 237 #[.slice a xs.length ca,.slice b ys.length cb] w λ e w'=>e=.returned (.bool (decide (xs=ys)))/\St w [] [] w':=by
 refine enter Tryz.func237 Tryz.ntmps237 rfl rfl (SF.s2 ha hb) ?_
 simp only[bX]
 refine cO ?_;refine jV ?_;refine dA ?_;refine aA ?_;refine dA ?_;refine lO ?_;refine aH ?_
 refine bB (λ c10=>?_) (λ c10=>?_)
 ·refine cO ?_
  refine aS Tryz.results237 (λ w hw=>?_)
  exact⟨by rw[Hw (by omega)];rfl,hw.done⟩
 ·refine jY ?_;refine J2 ?_;refine dA ?_;refine D7 ?_;refine cP ?_
  refine fV [4,5,13,14,15,16,17,18,19,20,21,22,23,24,25] (λ k=>[(13,.int .i64 ((k:Nat):Int))]) (λ k=>k<=xs.length/\xs.take k=ys.take k) (λ k=>xs.length-k) (0) (⟨Nat.zero_le _,by simp⟩) ?_ (λ k f hx=>?_)
  ·repeat (first|exact bD _|refine aW (by exact rfl) ?_)
  dsimp only[gX,List.map,List.cons_append,List.nil_append]
  refine J0 ?_;refine wT ?_;refine aV ?_
  refine bB (λ c14=>?_) (λ c14=>?_)
  ·refine qB ?_;refine J2 ?_;refine hZ ?_;refine gF [0,1,2,3,4,5,6,7,8] ?_;refine iH ?_;refine P8 ?_;refine iH ?_;refine P8 ?_;refine Ue ?_;refine dW ?_
   refine bB (λ c24=>?_) (λ c24=>?_)
   ·refine cO ?_
    refine aS Tryz.results237 (λ w hw=>?_)
    exact⟨by rw[Ff λ h=>c24 ⟨congrArg Prod.fst h,congrArg Prod.snd h⟩];rfl,hw.done⟩
   ·refine nT ?_;refine Xp ?_;refine D7 ?_
    refine eI (k+1) ?_ ?_ ?_
    ·omega
    ·repeat' (first|exact bD _|refine aW ?_ ?_)
     exact rfl
    ·exact⟨by omega,xU hx.2 (by omega) (by omega) (Prod.ext c24.1 c24.2)⟩
  ·refine bM rfl ?_;refine cO ?_
   refine aS Tryz.results237 (λ w hw=>?_)
   exact⟨by rw[Dc (k:=k) (by omega) (by omega) hx.2];rfl,hw.done⟩
end

end Go.Proofs.YtbajmaoegmbfgaaGreat
