/- The small methods of the two memories: generations, loads, compare-and-swaps. -/
import Derived.Test.YtpobgmdalcpomaaGreatGJoin
import Derived.Test.YtpobgmdalcpomaaGreatGMem
import Derived.Test.YtpobgmdalcpomaaGreatAuto

set_option linter.unusedSimpArgs false
set_option linter.unusedVariables false
namespace Go.Ct
section
def bY(cs:List Int)(c:Int):Int:=if 1<=c/\c<=cs.length then cs.getD (c-1).toNat 0 else 0
def nE(cs:List Int)(c cE:Int):Prop:=1<=c/\c<=cs.length/\cs.getD (c-1).toNat 0=cE
def iJ(cs:List Int)(c cE new:Int):List Int:=if 1<=c/\c<=cs.length/\cs.getD (c-1).toNat 0=cE then cs.set (c-1).toNat new else cs
def up(i:Int):Int:=Go.IntKind.i64.wrap (i+1)
theorem jH{cs:List Int}{c:Int}(h:¬(1<=c/\c<=cs.length)):bY cs c=0:=if_neg h
theorem nC{cs:List Int}{k:Nat}(h:k<cs.length):bY cs ((k+1:Nat):Int)=cs.getD k 0:=by
 unfold bY
 rw[if_pos (by omega),show(((k+1:Nat):Int)-1).toNat=k by omega]
theorem Dd{cs:List Int}{c cE new:Int}(h:¬(1<=c/\c<=cs.length/\cs.getD (c-1).toNat 0=cE)):iJ cs c cE new=cs:=if_neg h
theorem R8{cs:List Int}{k:Nat}{cE new:Int}(h:k<cs.length)(ho:cs.getD k 0=cE):iJ cs ((k+1:Nat):Int) cE new=cs.set k new:=by
 have e:(((k+1:Nat):Int)-1).toNat=k:=by omega
 unfold iJ
 rw[e,if_pos ⟨by omega,by omega,ho⟩]
theorem ah{cs:List Int}{c cE:Int}(h:c<1):(false=true↔nE cs c cE):=⟨(λ h=>nomatch h),λ h2=>absurd h2.1 (by omega)⟩
theorem R3{cs:List Int}{c cE new:Int}(h:c<1):iJ cs c cE new=cs:=Dd (by omega)
theorem Y2{cs:List Int}{c cE:Int}(h:(cs.length:Int)<c):(false=true↔nE cs c cE):=⟨(λ h=>nomatch h),λ h2=>absurd h2.2.1 (by omega)⟩
theorem T7{cs:List Int}{c cE new:Int}(h:(cs.length:Int)<c):iJ cs c cE new=cs:=Dd (by omega)
theorem bl{cs:List Int}{k:Nat}{cE:Int}(h:cs.getD k 0≠cE):(false=true↔nE cs ((k+1:Nat):Int) cE):=⟨(λ h=>nomatch h),λ h2=>absurd (by have:=h2.2.2;rwa [show(((k+1:Nat):Int)-1).toNat=k by omega] at this) h⟩
theorem Ra{cs:List Int}{k:Nat}{cE new:Int}(h:cs.getD k 0≠cE):iJ cs ((k+1:Nat):Int) cE new=cs:=Dd λ h2=>absurd (by have:=h2.2.2;rwa [show(((k+1:Nat):Int)-1).toNat=k by omega] at this) h
theorem Wl{cs:List Int}{k:Nat}{cE:Int}(hk:k<cs.length)(h:cs.getD k 0=cE):(true=true↔nE cs ((k+1:Nat):Int) cE):=⟨λ _=>⟨by omega,by omega,by rw[show(((k+1:Nat):Int)-1).toNat=k by omega];exact h⟩,λ _=>rfl⟩
theorem nQ{cs:List Int}{c cE new:Int}:(iJ cs c cE new).length=cs.length:=by unfold iJ;split<;>simp
end
end Go.Ct
namespace Go.Proofs.YtpobgmdalcpomaaGreat
section
open Go.RowKit Go.Ct
variable{w:World}{D:List Nat}{b:Nat}{L:List aQ}{cs:List Int}{gen acc:Int}{pn pc:Option Addr}{cn cc:Nat}{A:Fr}
theorem Hu(hs:SF w D [(b,mO L cs gen acc pn cn pc cc)] A [] (mW L cs pn cn pc cc) w):Calls Tryz.prog 48 #[.pointer (some ⟨b,0,none⟩)] w λ e w'=>∃q:Unit,e=.returned (.int .i64 (up gen))/\True/\SF w D [(b,mO L cs (up gen) acc pn cn pc cc)] [] [] (mW L cs pn cn pc cc) w':=by
 refine enter Tryz.func48 Tryz.ntmps48 rfl rfl (xQ hs) ?_
 simp only[dB]
 all_goals (refine dH ?_;refine wV ?_;refine J3 ?_;refine aH (tC rf rf) rfl ?_;refine Db ?_;refine qS ?_;refine wV ?_;refine J3 ?_;refine J1 ?_)
 all_goals
 refine aR Tryz.results48 (λ w hw=>?_)
 exact⟨(),rfl,trivial,by simpa[mO,mW] using hw.aV (F':=[])⟩
theorem bu(hs:SF w D [(b,mO L cs gen acc pn cn pc cc)] A [] (mW L cs pn cn pc cc) w)(c:Int)(hc:c<1):Calls Tryz.prog 20 #[.pointer (some ⟨b,0,none⟩),.int .i64 c] w λ e w'=>∃q:Unit,e=.returned (.int .i64 (bY cs c))/\True/\SF w D [(b,mO L cs gen (up acc) pn cn pc cc)] [] [] (mW L cs pn cn pc cc) w':=by
 refine enter Tryz.func20 Tryz.ntmps20 rfl rfl (xQ hs) ?_
 simp only[dB]
 all_goals (refine dH ?_;refine kZ ?_;refine aH (tC rf rf) rfl ?_;refine Lj ?_;refine jS ?_;refine Am ?_)
 all_goals (first|refine aG ?_|(refine aC ?_;refine aA ?_)|(refine dG 14 (λ g14=>?_) (λ g14=>?_)<;>(try (exfalso;omega))<;>(first|refine aG ?_|(refine aC ?_;refine aA ?_))))
 all_goals (refine qn ?_;refine Li ?_;refine xV ?_;refine aN ?_)
 all_goals
 refine bF (λ c23=>?_) (λ c23=>?_)
 ·try exact nv c23
  all_goals try (exfalso;omega)
  all_goals refine dH ?_
  all_goals
   refine aR Tryz.results20 (λ w hw=>?_)
   first|(exfalso;omega)|exact⟨(),by rw[jH (by omega)];rfl,trivial,hw.aV⟩|exact⟨(),by rw[nC (by omega)];rfl,trivial,hw.aV⟩
 ·try exact nv c23
  all_goals try (exfalso;omega)
  all_goals (refine aZ ?_;refine wV ?_;refine J3 ?_;refine aA ?_;refine kN ?_;refine Dc ?_;refine J1 ?_)
  all_goals
   refine aR Tryz.results20 (λ w hw=>?_)
   first|(exfalso;omega)|exact⟨(),by rw[jH (by omega)];rfl,trivial,hw.aV⟩|exact⟨(),by rw[nC (by omega)];rfl,trivial,hw.aV⟩
theorem gy(hs:SF w D [(b,mO L cs gen acc pn cn pc cc)] A [] (mW L cs pn cn pc cc) w)(c:Int)(cE new:Int)(hc:c<1):Calls Tryz.prog 19 #[.pointer (some ⟨b,0,none⟩),.int .i64 c,.int .i64 cE,.int .i64 new] w λ e w'=>∃r:Bool,e=.returned (.bool r)/\(r=true↔nE cs c cE)/\SF w D [(b,mO L (iJ cs c cE new) gen (up acc) pn cn pc cc)] [] [] (mW L (iJ cs c cE new) pn cn pc cc) w':=by
 refine enter Tryz.func19 Tryz.ntmps19 rfl rfl (xQ hs) ?_
 simp only[dB]
 all_goals (refine dH ?_;refine kZ ?_;refine aH (tC rf rf) rfl ?_;refine Lj ?_;refine jS ?_;refine Am ?_)
 all_goals (first|refine aG ?_|(refine aC ?_;refine aA ?_)|(refine dG 18 (λ g18=>?_) (λ g18=>?_)<;>(try (exfalso;omega))<;>(first|refine aG ?_|(refine aC ?_;refine aA ?_))))
 all_goals (refine qn ?_;refine Li ?_;refine xV ?_;refine aA ?_)
 all_goals (first|refine aG ?_|(refine aC ?_;refine aA ?_)|(refine dG 28 (λ g28=>?_) (λ g28=>?_)<;>(try (exfalso;omega))<;>(first|refine aG ?_|(refine aC ?_;refine aA ?_))))
 all_goals (refine yz ?_;refine J6 ?_;refine zt ?_;(first|refine aG ?_|(refine aC ?_;refine gG ?_));refine cq ?_;refine U8 ?_;refine aN ?_)
 all_goals
 refine bF (λ c40=>?_) (λ c40=>?_)
 ·try exact nv c40
  all_goals try (exfalso;omega)
  all_goals refine dH ?_
  all_goals
   refine aR Tryz.results19 (λ w hw=>?_)
   first|(exfalso;omega)|exact⟨false,rfl,ah hc,by rw[R3 hc];exact hw.aV⟩
 ·try exact nv c40
  all_goals try (exfalso;omega)
  all_goals (refine aZ ?_;refine wV ?_;refine J3 ?_;refine aA ?_;refine kN ?_;refine aA ?_;refine gG ?_;refine J5 ?_;refine dH ?_)
  all_goals
   refine aR Tryz.results19 (λ w hw=>?_)
   first|(exfalso;omega)|exact⟨false,rfl,ah hc,by rw[R3 hc];exact hw.aV⟩
theorem Zo(hs:SF w D [(b,mO L cs gen acc pn cn pc cc)] A [] (mW L cs pn cn pc cc) w){k:Nat}(hk:(k:Int)<9223372036854775807)(hl:cs.length<=274877906944):Calls Tryz.prog 20 #[.pointer (some ⟨b,0,none⟩),.int .i64 ((k+1:Nat):Int)] w λ e w'=>∃q:Unit,e=.returned (.int .i64 (bY cs ((k+1:Nat):Int)))/\True/\SF w D [(b,mO L cs gen (up acc) pn cn pc cc)] [] [] (mW L cs pn cn pc cc) w':=by
 refine enter Tryz.func20 Tryz.ntmps20 rfl rfl (xQ hs) ?_
 simp only[dB]
 all_goals (refine dH ?_;refine kZ ?_;refine aH (tC rf rf) rfl ?_;refine Lj ?_;refine jS ?_;refine Am ?_)
 all_goals (first|refine aG ?_|(refine aC ?_;refine aA ?_)|(refine dG 14 (λ g14=>?_) (λ g14=>?_)<;>(try (exfalso;omega))<;>(first|refine aG ?_|(refine aC ?_;refine aA ?_))))
 all_goals (refine qn ?_;refine Li ?_;refine xV ?_;refine aN ?_)
 all_goals
 refine bF (λ c23=>?_) (λ c23=>?_)
 ·try exact nv c23
  all_goals try (exfalso;omega)
  all_goals refine dH ?_
  all_goals
   refine aR Tryz.results20 (λ w hw=>?_)
   first|(exfalso;omega)|exact⟨(),by rw[jH (by omega)];rfl,trivial,hw.aV⟩|exact⟨(),by rw[nC (by omega)];rfl,trivial,hw.aV⟩
 ·try exact nv c23
  all_goals try (exfalso;omega)
  all_goals (refine aZ ?_;refine wV ?_;refine J3 ?_;refine aA ?_;refine kN ?_;refine Dc ?_;refine J1 ?_)
  all_goals
   refine aR Tryz.results20 (λ w hw=>?_)
   first|(exfalso;omega)|exact⟨(),by rw[jH (by omega)];rfl,trivial,hw.aV⟩|exact⟨(),by rw[nC (by omega)];rfl,trivial,hw.aV⟩
theorem gv(hs:SF w D [(b,mO L cs gen acc pn cn pc cc)] A [] (mW L cs pn cn pc cc) w){k:Nat}(hk:(k:Int)<9223372036854775807)(cE new:Int)(hl:cs.length<=274877906944):Calls Tryz.prog 19 #[.pointer (some ⟨b,0,none⟩),.int .i64 ((k+1:Nat):Int),.int .i64 cE,.int .i64 new] w λ e w'=>∃r:Bool,e=.returned (.bool r)/\(r=true↔nE cs ((k+1:Nat):Int) cE)/\SF w D [(b,mO L (iJ cs ((k+1:Nat):Int) cE new) gen (up acc) pn cn pc cc)] [] [] (mW L (iJ cs ((k+1:Nat):Int) cE new) pn cn pc cc) w':=by
 refine enter Tryz.func19 Tryz.ntmps19 rfl rfl (xQ hs) ?_
 simp only[dB]
 all_goals (refine dH ?_;refine kZ ?_;refine aH (tC rf rf) rfl ?_;refine Lj ?_;refine jS ?_;refine Am ?_)
 all_goals (first|refine aG ?_|(refine aC ?_;refine aA ?_)|(refine dG 18 (λ g18=>?_) (λ g18=>?_)<;>(try (exfalso;omega))<;>(first|refine aG ?_|(refine aC ?_;refine aA ?_))))
 all_goals (refine qn ?_;refine Li ?_;refine xV ?_;refine aA ?_)
 all_goals (first|refine aG ?_|(refine aC ?_;refine aA ?_)|(refine dG 28 (λ g28=>?_) (λ g28=>?_)<;>(try (exfalso;omega))<;>(first|refine aG ?_|(refine aC ?_;refine aA ?_))))
 all_goals (refine yz ?_;refine J6 ?_;refine zt ?_;(first|refine aG ?_|(refine aC ?_;refine gG ?_));refine cq ?_;refine U8 ?_;refine aN ?_)
 all_goals
 refine bF (λ c40=>?_) (λ c40=>?_)
 ·try exact nv c40
  all_goals try (exfalso;omega)
  all_goals refine dH ?_
  all_goals
   refine aR Tryz.results19 (λ w hw=>?_)
   first|(exfalso;omega)|exact⟨false,rfl,Y2 (by omega),by rw[T7 (by omega)];exact hw.aV⟩|exact⟨false,rfl,bl (by simpa using c40),by rw[Ra (by simpa using c40)];exact hw.aV⟩|exact⟨true,rfl,Wl (by omega) (by simpa using c40),by rw[R8 (by omega) (by simpa using c40)];simpa[mW,aO,mO] using hw.aV (F':=[])⟩
 ·try exact nv c40
  all_goals try (exfalso;omega)
  all_goals (refine aZ ?_;refine wV ?_;refine J3 ?_;refine aA ?_;refine kN ?_;refine aA ?_;refine gG ?_;refine J5 ?_;refine dH ?_)
  all_goals
   refine aR Tryz.results19 (λ w hw=>?_)
   first|(exfalso;omega)|exact⟨false,rfl,Y2 (by omega),by rw[T7 (by omega)];exact hw.aV⟩|exact⟨false,rfl,bl (by simpa using c40),by rw[Ra (by simpa using c40)];exact hw.aV⟩|exact⟨true,rfl,Wl (by omega) (by simpa using c40),by rw[R8 (by omega) (by simpa using c40)];simpa[mW,aO,mO] using hw.aV (F':=[])⟩
theorem j9(hs:SF w D [(b,mO L cs gen acc pn cn pc cc)] A [] (mW L cs pn cn pc cc) w)(c:Int)(hc:c<=9223372036854775807)(hl:cs.length<=274877906944):Calls Tryz.prog 20 #[.pointer (some ⟨b,0,none⟩),.int .i64 c] w λ e w'=>∃q:Unit,e=.returned (.int .i64 (bY cs c))/\True/\SF w D [(b,mO L cs gen (up acc) pn cn pc cc)] [] [] (mW L cs pn cn pc cc) w':=by
 rcases Int.lt_or_le c 1 with h|h
 ·exact bu hs c h
 ·obtain⟨k,rfl⟩:∃k:Nat,c=((k+1:Nat):Int):=⟨(c-1).toNat,by omega⟩
  exact Zo hs (by omega) hl
theorem ry(hs:SF w D [(b,mO L cs gen acc pn cn pc cc)] A [] (mW L cs pn cn pc cc) w)(c cE new:Int)(hc:c<=9223372036854775807)(hl:cs.length<=274877906944):Calls Tryz.prog 19 #[.pointer (some ⟨b,0,none⟩),.int .i64 c,.int .i64 cE,.int .i64 new] w λ e w'=>∃r:Bool,e=.returned (.bool r)/\(r=true↔nE cs c cE)/\SF w D [(b,mO L (iJ cs c cE new) gen (up acc) pn cn pc cc)] [] [] (mW L (iJ cs c cE new) pn cn pc cc) w':=by
 rcases Int.lt_or_le c 1 with h|h
 ·exact gy hs c cE new h
 ·obtain⟨k,rfl⟩:∃k:Nat,c=((k+1:Nat):Int):=⟨(c-1).toNat,by omega⟩
  exact gv hs (by omega) cE new hl
end

/- Loops over slices that are read: contracts. -/
section
open Go.RowKit Go.Ct
theorem Cb{α} [BEq α] [LawfulBEq α] {xs ys:List α}{k:Nat}(h:xs.length=ys.length)(hk:¬k<xs.length)(ht:xs.take k=ys.take k):(xs==ys)=true:=by
 rw[List.take_of_length_le (by omega),List.take_of_length_le (by omega)] at ht
 simp[ht]
theorem Ek{α} [BEq α] [LawfulBEq α] {xs ys:List α}(h:xs.length≠ys.length):(xs==ys)=false:=by
 simp only[beq_eq_false_iff_ne,ne_eq]
 intro e;rw[e] at h;exact h rfl
theorem D1{α} [BEq α] [LawfulBEq α] {xs ys:List α}{k:Nat}{d:α}(h:xs.getD k d≠ys.getD k d):(xs==ys)=false:=by
 simp only[beq_eq_false_iff_ne,ne_eq]
 intro e;rw[e] at h;exact h rfl
theorem Bv{α} [DecidableEq α] {xs ys:List α}{k:Nat}(h:xs.length=ys.length)(hk:¬k<xs.length)(ht:xs.take k=ys.take k):decide (xs=ys)=true:=by
 rw[List.take_of_length_le (by omega),List.take_of_length_le (by omega)] at ht
 simp[ht]
theorem F3{α} [DecidableEq α] {xs ys:List α}(h:xs.length≠ys.length):decide (xs=ys)=false:=decide_eq_false λ e=>h (by rw[e])
theorem Dx{α} [DecidableEq α] {xs ys:List α}{k:Nat}{d:α}(h:xs.getD k d≠ys.getD k d):decide (xs=ys)=false:=decide_eq_false λ e=>h (by rw[e])
theorem vR{α}{xs ys:List α}{k:Nat}{d:α}(h:xs.take k=ys.take k)(hk:k<xs.length)(hl:xs.length=ys.length)(he:xs.getD k d=ys.getD k d):xs.take (k+1)=ys.take (k+1):=by
 rw[List.take_add_one,List.take_add_one,h,List.getElem?_eq_getElem hk,List.getElem?_eq_getElem (hl▸hk)]
 simp only[List.getD,List.getElem?_eq_getElem hk,List.getElem?_eq_getElem (hl▸hk:k<ys.length),Option.getD_some] at he
 rw[he]
theorem Jk{xs ys:List Int}{a b:Option Addr}{ca cb:Nat}{w:World}(ha:Cl w a (aJ xs))(hb:Cl w b (aJ ys))(hx:xs.length<4611686018427387904) :
  Calls Tryz.prog 38 #[.slice a xs.length ca,.slice b ys.length cb] w λ e w'=>e=.returned (.bool (xs==ys))/\St w [] [] w':=by
 refine enter Tryz.func38 Tryz.ntmps38 rfl rfl (SF.s2 ha hb) ?_
 simp only[dB]
 all_goals (refine dH ?_;refine jS ?_;refine dW ?_;refine aA ?_;refine dW ?_;refine lY ?_;refine aN ?_)
 all_goals
 refine bF (λ c10=>?_) (λ c10=>?_)
 ·try exact nv c10
  all_goals refine dH ?_
  all_goals
   refine aR Tryz.results38 (λ w hw=>?_)
   exact⟨by rw[Ek (by omega)];rfl,hw.done⟩
 ·try exact nv c10
  all_goals (refine iW ?_;refine Cq ?_)
  all_goals
   refine gE [4,5,11,12,13,14,15,16,17,18,19,20,21,22,23,24,25] (λ k=>[(5,.int .i64 ((k:Nat):Int))]) (λ k=>k<=xs.length/\xs.take k=ys.take k) (λ k=>xs.length-k) (0) (⟨Nat.zero_le _,by simp⟩) ?_ (λ k f hx=>?_)
   ·repeat (first|exact bI _|refine bE (by first|exact rfl|(conv=>{lhs;whnf};simp;done)) ?_)
   dsimp only[gW,List.map,List.cons_append,List.nil_append]
   all_goals (refine Cy ?_;refine dW ?_;refine uQ ?_)
   all_goals
   refine bF (λ c14=>?_) (λ c14=>?_)
   ·try exact nv c14
    all_goals (refine oD ?_;refine aT ?_;refine eE [0,1,2,3,4,5,6,7,8] ?_;refine gD ?_;refine Cv ?_;refine gD ?_;refine Cv ?_;refine Zw ?_;refine eO ?_)
    all_goals
     refine bF (λ c25=>?_) (λ c25=>?_)
     ·try exact nv c25
      all_goals refine dH ?_
      all_goals
      refine aR Tryz.results38 (λ w hw=>?_)
      exact⟨by rw[D1 c25];rfl,hw.done⟩
     ·try exact nv c25
      all_goals (refine mN ?_;refine uH ?_)
      all_goals
      refine fD (k+1) ?_ ?_ ?_
      ·first|omega|(simp only[];omega)
      ·repeat' (first|exact bI _|refine bE ?_ ?_)
       all_goals (first|exact rfl|(conv=>{lhs;whnf};simp;done)|(conv=>{lhs;whnf};congr 1;omega))
      ·exact⟨by omega,vR hx.2 (by omega) (by omega) c25⟩
   ·try exact nv c14
    all_goals (refine bQ rfl ?_;refine dH ?_)
    all_goals
     refine aR Tryz.results38 (λ w hw=>?_)
     exact⟨by rw[Cb (k:=k) (by omega) (by omega) hx.2];rfl,hw.done⟩
theorem R4{xs ys:List Pr}{a b:Option Addr}{ca cb:Nat}{w:World}(ha:Cl w a (dI xs))(hb:Cl w b (dI ys))(hx:xs.length<4611686018427387904) :
  Calls Tryz.prog 37 #[.slice a xs.length ca,.slice b ys.length cb] w λ e w'=>e=.returned (.bool (decide (xs=ys)))/\St w [] [] w':=by
 refine enter Tryz.func37 Tryz.ntmps37 rfl rfl (SF.s2 ha hb) ?_
 simp only[dB]
 all_goals (refine dH ?_;refine jS ?_;refine dW ?_;refine aA ?_;refine dW ?_;refine lY ?_;refine aN ?_)
 all_goals
 refine bF (λ c10=>?_) (λ c10=>?_)
 ·try exact nv c10
  all_goals refine dH ?_
  all_goals
   refine aR Tryz.results37 (λ w hw=>?_)
   exact⟨by rw[F3 (by omega)];rfl,hw.done⟩
 ·try exact nv c10
  all_goals (refine iW ?_;refine Cq ?_)
  all_goals
   refine gE [4,5,11,12,13,14,15,16,17,18,19,20,21,22,23,24,25] (λ k=>[(5,.int .i64 ((k:Nat):Int))]) (λ k=>k<=xs.length/\xs.take k=ys.take k) (λ k=>xs.length-k) (0) (⟨Nat.zero_le _,by simp⟩) ?_ (λ k f hx=>?_)
   ·repeat (first|exact bI _|refine bE (by first|exact rfl|(conv=>{lhs;whnf};simp;done)) ?_)
   dsimp only[gW,List.map,List.cons_append,List.nil_append]
   all_goals (refine Cy ?_;refine dW ?_;refine uQ ?_)
   all_goals
   refine bF (λ c14=>?_) (λ c14=>?_)
   ·try exact nv c14
    all_goals (refine oD ?_;refine aT ?_;refine eE [0,1,2,3,4,5,6,7,8] ?_;refine gD ?_;refine Cv ?_;refine gD ?_;refine Cv ?_;refine Sr ?_;refine eO ?_)
    all_goals
     refine bF (λ c25=>?_) (λ c25=>?_)
     ·try exact nv c25
      all_goals refine dH ?_
      all_goals
      refine aR Tryz.results37 (λ w hw=>?_)
      exact⟨by rw[Dx λ h=>c25 ⟨congrArg Prod.fst h,congrArg Prod.snd h⟩];rfl,hw.done⟩
     ·try exact nv c25
      all_goals (refine mN ?_;refine uH ?_)
      all_goals
      refine fD (k+1) ?_ ?_ ?_
      ·first|omega|(simp only[];omega)
      ·repeat' (first|exact bI _|refine bE ?_ ?_)
       all_goals (first|exact rfl|(conv=>{lhs;whnf};simp;done)|(conv=>{lhs;whnf};congr 1;omega))
      ·exact⟨by omega,vR hx.2 (by omega) (by omega) (Prod.ext c25.1 c25.2)⟩
   ·try exact nv c14
    all_goals (refine bQ rfl ?_;refine dH ?_)
    all_goals
     refine aR Tryz.results37 (λ w hw=>?_)
     exact⟨by rw[Bv (k:=k) (by omega) (by omega) hx.2];rfl,hw.done⟩
theorem j8{xs ys:List Int}{a b:Option Addr}{ca cb:Nat}{w:World}(ha:Cl w a (aJ xs))(hb:Cl w b (aJ ys))(hx:xs.length<4611686018427387904) :
  Calls Tryz.prog 144 #[.slice a xs.length ca,.slice b ys.length cb] w λ e w'=>e=.returned (.bool (xs==ys))/\St w [] [] w':=by
 refine enter Tryz.func144 Tryz.ntmps144 rfl rfl (SF.s2 ha hb) ?_
 simp only[dB]
 all_goals (refine dH ?_;refine jS ?_;refine dW ?_;refine aA ?_;refine dW ?_;refine lY ?_;refine aN ?_)
 all_goals
 refine bF (λ c10=>?_) (λ c10=>?_)
 ·try exact nv c10
  all_goals refine dH ?_
  all_goals
   refine aR Tryz.results144 (λ w hw=>?_)
   exact⟨by rw[Ek (by omega)];rfl,hw.done⟩
 ·try exact nv c10
  all_goals (refine iW ?_;refine J2 ?_;refine dW ?_;refine uM ?_;refine cZ ?_)
  all_goals
   refine gE [4,5,13,14,15,16,17,18,19,20,21,22,23,24,25] (λ k=>[(13,.int .i64 ((k:Nat):Int))]) (λ k=>k<=xs.length/\xs.take k=ys.take k) (λ k=>xs.length-k) (0) (⟨Nat.zero_le _,by simp⟩) ?_ (λ k f hx=>?_)
   ·repeat (first|exact bI _|refine bE (by first|exact rfl|(conv=>{lhs;whnf};simp;done)) ?_)
   dsimp only[gW,List.map,List.cons_append,List.nil_append]
   all_goals (refine J0 ?_;refine uQ ?_;refine aT ?_)
   all_goals
   refine bF (λ c14=>?_) (λ c14=>?_)
   ·try exact nv c14
    all_goals (refine oD ?_;refine J2 ?_;refine iI ?_;refine eE [0,1,2,3,4,5,6,7,8] ?_;refine gD ?_;refine Cv ?_;refine gD ?_;refine Cv ?_;refine Zw ?_;refine eO ?_)
    all_goals
     refine bF (λ c24=>?_) (λ c24=>?_)
     ·try exact nv c24
      all_goals refine dH ?_
      all_goals
      refine aR Tryz.results144 (λ w hw=>?_)
      exact⟨by rw[D1 c24];rfl,hw.done⟩
     ·try exact nv c24
      all_goals (refine mN ?_;refine Ld ?_;refine uM ?_)
      all_goals
      refine fD (k+1) ?_ ?_ ?_
      ·first|omega|(simp only[];omega)
      ·repeat' (first|exact bI _|refine bE ?_ ?_)
       all_goals (first|exact rfl|(conv=>{lhs;whnf};simp;done)|(conv=>{lhs;whnf};congr 1;omega))
      ·exact⟨by omega,vR hx.2 (by omega) (by omega) c24⟩
   ·try exact nv c14
    all_goals (refine bQ rfl ?_;refine dH ?_)
    all_goals
     refine aR Tryz.results144 (λ w hw=>?_)
     exact⟨by rw[Cb (k:=k) (by omega) (by omega) hx.2];rfl,hw.done⟩
theorem rl{xs ys:List Pr}{a b:Option Addr}{ca cb:Nat}{w:World}(ha:Cl w a (dI xs))(hb:Cl w b (dI ys))(hx:xs.length<4611686018427387904) :
  Calls Tryz.prog 145 #[.slice a xs.length ca,.slice b ys.length cb] w λ e w'=>e=.returned (.bool (decide (xs=ys)))/\St w [] [] w':=by
 refine enter Tryz.func145 Tryz.ntmps145 rfl rfl (SF.s2 ha hb) ?_
 simp only[dB]
 all_goals (refine dH ?_;refine jS ?_;refine dW ?_;refine aA ?_;refine dW ?_;refine lY ?_;refine aN ?_)
 all_goals
 refine bF (λ c10=>?_) (λ c10=>?_)
 ·try exact nv c10
  all_goals refine dH ?_
  all_goals
   refine aR Tryz.results145 (λ w hw=>?_)
   exact⟨by rw[F3 (by omega)];rfl,hw.done⟩
 ·try exact nv c10
  all_goals (refine iW ?_;refine J2 ?_;refine dW ?_;refine uM ?_;refine cZ ?_)
  all_goals
   refine gE [4,5,13,14,15,16,17,18,19,20,21,22,23,24,25] (λ k=>[(13,.int .i64 ((k:Nat):Int))]) (λ k=>k<=xs.length/\xs.take k=ys.take k) (λ k=>xs.length-k) (0) (⟨Nat.zero_le _,by simp⟩) ?_ (λ k f hx=>?_)
   ·repeat (first|exact bI _|refine bE (by first|exact rfl|(conv=>{lhs;whnf};simp;done)) ?_)
   dsimp only[gW,List.map,List.cons_append,List.nil_append]
   all_goals (refine J0 ?_;refine uQ ?_;refine aT ?_)
   all_goals
   refine bF (λ c14=>?_) (λ c14=>?_)
   ·try exact nv c14
    all_goals (refine oD ?_;refine J2 ?_;refine iI ?_;refine eE [0,1,2,3,4,5,6,7,8] ?_;refine gD ?_;refine Cv ?_;refine gD ?_;refine Cv ?_;refine Sr ?_;refine eO ?_)
    all_goals
     refine bF (λ c24=>?_) (λ c24=>?_)
     ·try exact nv c24
      all_goals refine dH ?_
      all_goals
      refine aR Tryz.results145 (λ w hw=>?_)
      exact⟨by rw[Dx λ h=>c24 ⟨congrArg Prod.fst h,congrArg Prod.snd h⟩];rfl,hw.done⟩
     ·try exact nv c24
      all_goals (refine mN ?_;refine Ld ?_;refine uM ?_)
      all_goals
      refine fD (k+1) ?_ ?_ ?_
      ·first|omega|(simp only[];omega)
      ·repeat' (first|exact bI _|refine bE ?_ ?_)
       all_goals (first|exact rfl|(conv=>{lhs;whnf};simp;done)|(conv=>{lhs;whnf};congr 1;omega))
      ·exact⟨by omega,vR hx.2 (by omega) (by omega) (Prod.ext c24.1 c24.2)⟩
   ·try exact nv c14
    all_goals (refine bQ rfl ?_;refine dH ?_)
    all_goals
     refine aR Tryz.results145 (λ w hw=>?_)
     exact⟨by rw[Bv (k:=k) (by omega) (by omega) hx.2];rfl,hw.done⟩
end

end Go.Proofs.YtpobgmdalcpomaaGreat
