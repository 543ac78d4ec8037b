/- Memories: the rule for calls that may change them. -/
import Derived.Test.YtbajmaoegmbfgaaGreatGJoin

set_option linter.unusedSimpArgs false
set_option linter.unusedVariables false
namespace Go.Proofs.YtbajmaoegmbfgaaGreat
section
open Go Go.RowKit Go.Ct
abbrev mO(L:List aZ)(cs:List Int)(gen acc:Int)(pn:Option Addr)(cn:Nat)(pc:Option Addr)(cc:Nat):Obj:=.cells ⟨[.slice pn L.length cn,.slice pc cs.length cc,.int .i64 gen,.int .i64 acc]⟩ 54 (0,0)
abbrev aO(L:List aZ)(cs:List Int)(gen acc:Int)(pn:Option Addr)(cn:Nat)(pc:Option Addr)(cc:Nat):Obj:=.cells ⟨[.slice pn L.length cn,.slice pc cs.length cc,.int .i64 gen,.int .i64 acc]⟩ 139 (0,0)
abbrev mW(L:List aZ)(cs:List Int)(pn:Option Addr)(cn:Nat)(pc:Option Addr)(cc:Nat):List Ow:=[⟨pn,gN L,cn,47,14⟩,⟨pc,aG cs,cc,37,1⟩]
theorem yO{w0 w:World}{D:List Nat}{b:Nat}{L:List aZ}{cs:List Int}{gen acc:Int}{pn pc:Option Addr}{cn cc:Nat}{A F:Fr}(h:SF w0 D [(b,mO L cs gen acc pn cn pc cc)] A F (mW L cs pn cn pc cc) w) :
  SF w0 D [(b,.cells ⟨[.slice pn L.length cn,.slice pc cs.length cc,.int .i64 gen,.int .i64 acc]⟩ 54 (0,0))] A F [⟨pn,gN L,cn,47,14⟩,⟨pc,aG cs,cc,37,1⟩] w:=h
theorem yA{w0 w:World}{D:List Nat}{b:Nat}{L:List aZ}{cs:List Int}{gen acc:Int}{pn pc:Option Addr}{cn cc:Nat}{A F:Fr}(h:SF w0 D [(b,aO L cs gen acc pn cn pc cc)] A F (mW L cs pn cn pc cc) w) :
  SF w0 D [(b,.cells ⟨[.slice pn L.length cn,.slice pc cs.length cc,.int .i64 gen,.int .i64 acc]⟩ 139 (0,0))] A F [⟨pn,gN L,cn,47,14⟩,⟨pc,aG cs,cc,37,1⟩] w:=h
variable{S:List (Nat×Value)}{w0 w:World}{M:List Nat}{H:List (Nat×Obj)}{A F:Fr}{O:List Ow}{ty:TypeId}{pos:String}{af:Array Edge}{gd:Option (Nat×Bool)}{X:Type}{V:X->Value}
theorem cM{φ:X->Prop}{hs H':List (Nat×Obj)}{os O':List Ow}{hs' H1:X->List (Nat×Obj)}{os' O1:X->List Ow}{Fc F1:X->Fr}{A0:Fr}{is js:List Nat}{f:FuncId}{xs:List Operand}{at_:Array TypeId}{vs:List Value}{dst:Option Nat}
  (ha:pI S xs=vs:=by(repeat (first|exact cD _|(apply bU;focus ((conv=>{lhs;whnf});try exact rfl))));first|done|fail) (hp:plain Tryz.prog f=true:=by kernel_rfl)
  (hc:∀w,SF w (Ks hs os) hs A0 [] os w->Calls Tryz.prog f ⟨vs⟩ w λ e w'=>∃x,e=.returned (V x)/\φ x/\SF w (Ks hs os) (hs' x) [] (Fc x) (os' x) w')
  (hH:lU H is hs H':=by(repeat (first|exact lU.nil|(apply lU.cons;(focus ((repeat (first|exact yN.head|apply yN.tail));done));simp only[qG])));first|done|fail)
  (hO:lU O js os O':=by(repeat (first|exact lU.nil|(apply lU.cons;(focus ((repeat (first|exact yN.head|apply yN.tail));done));simp only[qG])));first|done|fail)
  (hA:aX A F O' A0:=by(repeat (first|exact aX.of (λ _ h=>Or.inr (Or.inl h))|exact aX.nil|(refine aX.cons (by first|exact Or.inl rfl|exact Or.inr (Or.inr (Or.inl (by simp)))|exact Or.inr (Or.inl (by simp))|exact Or.inr (Or.inr (Or.inr (by simp)))) ?_)));first|done|fail)
  (hl1:∀x,is.length=(hs' x).length:=by intro x;exact rfl) (hl2:∀x,js.length=(os' x).length:=by intro x;exact rfl)
  (hH1:∀x,iN is (hs' x) H'=H1 x:=by intro x;first|(simp only[iN,rD];exact rfl)|exact rfl) (hF1:∀x,Fc x++F=F1 x:=by intro x;first|(simp only[List.nil_append,List.cons_append];exact rfl)|exact rfl) (hO1:∀x,iN js (os' x) O'=O1 x:=by intro x;simp only[iN,rD,mW];exact rfl) :
  bF Tryz.prog S (SF w0 M H A F O) ⟨dst,.call {callee:=.value (.func f),args:=⟨xs⟩,argTypes:=at_},ty,pos,af,gd⟩ X V (λ x w=>φ x/\SF w0 M (H1 x) A (F1 x) (O1 x) w) :=
 gD (lX hp ha) λ w hw=>(hc w (hw.pQ hH hO hA)).mono λ _ _ ⟨x,he,hx,hs⟩=>⟨x,he,hx,by
  have:=hw.wX (hs':=hs' x) (Hc:=[]) (os':=os' x) (Oc:=[]) hH hO (by simpa using hs) (hl1 x) (hl2 x)
  rw[<- hH1 x,<- hF1 x,<- hO1 x]
  simpa using this⟩
theorem cMO{φ:X->Prop}{hs H':List (Nat×Obj)}{os O':List Ow}{hs' H1:X->List (Nat×Obj)}{os' Oc O1:X->List Ow}{Fc F1:X->Fr}{A0:Fr}{is js:List Nat}{f:FuncId}{xs:List Operand}{at_:Array TypeId}{vs:List Value}{dst:Option Nat}
  (ha:pI S xs=vs:=by(repeat (first|exact cD _|(apply bU;focus ((conv=>{lhs;whnf});try exact rfl))));first|done|fail) (hp:plain Tryz.prog f=true:=by kernel_rfl)
  (hc:∀w,SF w (Ks hs os) hs A0 [] os w->Calls Tryz.prog f ⟨vs⟩ w λ e w'=>∃x,e=.returned (V x)/\φ x/\SF w (Ks hs os) (hs' x) [] (Fc x) (os' x++Oc x) w')
  (hH:lU H is hs H':=by(repeat (first|exact lU.nil|(apply lU.cons;(focus ((repeat (first|exact yN.head|apply yN.tail));done));simp only[qG])));first|done|fail)
  (hO:lU O js os O':=by(repeat (first|exact lU.nil|(apply lU.cons;(focus ((repeat (first|exact yN.head|apply yN.tail));done));simp only[qG])));first|done|fail)
  (hA:aX A F O' A0:=by(repeat (first|exact aX.of (λ _ h=>Or.inr (Or.inl h))|exact aX.nil|(refine aX.cons (by first|exact Or.inl rfl|exact Or.inr (Or.inr (Or.inl (by simp)))|exact Or.inr (Or.inl (by simp))|exact Or.inr (Or.inr (Or.inr (by simp)))) ?_)));first|done|fail)
  (hl1:∀x,is.length=(hs' x).length:=by intro x;exact rfl) (hl2:∀x,js.length=(os' x).length:=by intro x;exact rfl)
  (hH1:∀x,iN is (hs' x) H'=H1 x:=by intro x;first|(simp only[iN,rD];exact rfl)|exact rfl) (hF1:∀x,Fc x++F=F1 x:=by intro x;first|(simp only[List.nil_append,List.cons_append];exact rfl)|exact rfl) (hO1:∀x,Oc x++iN js (os' x) O'=O1 x:=by intro x;simp only[iN,rD,mW,List.nil_append,List.cons_append];exact rfl) :
  bF Tryz.prog S (SF w0 M H A F O) ⟨dst,.call {callee:=.value (.func f),args:=⟨xs⟩,argTypes:=at_},ty,pos,af,gd⟩ X V (λ x w=>φ x/\SF w0 M (H1 x) A (F1 x) (O1 x) w) :=
 gD (lX hp ha) λ w hw=>(hc w (hw.pQ hH hO hA)).mono λ _ _ ⟨x,he,hx,hs⟩=>⟨x,he,hx,by
  have:=hw.wX (hs':=hs' x) (Hc:=[]) (os':=os' x) (Oc:=Oc x) hH hO (by simpa using hs) (hl1 x) (hl2 x)
  rw[<- hH1 x,<- hF1 x,<- hO1 x]
  simpa using this⟩
end

/- The small methods of the two memories: cells, generations, loads, compare-and-swaps. -/
section
open Go.RowKit Go.Ct
variable{w:World}{D:List Nat}{b:Nat}{L:List aZ}{cs:List Int}{gen acc:Int}{pn pc:Option Addr}{cn cc:Nat}{A:Fr}
theorem lE(v:Int)(hs:SF w D [(b,mO L cs gen acc pn cn pc cc)] A [] (mW L cs pn cn pc cc) w)(hl:cs.length<=274877906944) :
  Calls Tryz.prog 114 #[.pointer (some ⟨b,0,none⟩),.int .i64 v] w λ e w'=>∃q:Option Addr×Nat,e=.returned (.int .i64 ((cs.length+1:Nat):Int))/\True /\
   SF w D [(b,mO L (cs++[v]) gen acc pn cn q.1 q.2)] [] [] (mW L (cs++[v]) pn cn q.1 q.2) w':=by
 refine enter Tryz.func114 Tryz.ntmps114 rfl rfl (yO hs) ?_
 simp only[bY]
 refine cR ?_;refine iO ?_;refine F5 ?_;refine J3 ?_;refine aA ?_;refine gX (λ x12=>?_);(refine fQ (λ x13=>?_);try (refine eZ (λ h13=>?_)));refine F5 ?_;refine uN ?_;refine Ew ?_;refine P4 ?_;refine J1 ?_
 refine aT Tryz.results114 (λ w hw=>?_)
 exact⟨x13,rfl,trivial,by simpa[mO,mW] using hw.aU (F':=[])⟩
theorem zJ(v:Int)(hs:SF w D [(b,aO L cs gen acc pn cn pc cc)] A [] (mW L cs pn cn pc cc) w)(hl:cs.length<=274877906944) :
  Calls Tryz.prog 79 #[.pointer (some ⟨b,0,none⟩),.int .i64 v] w λ e w'=>∃q:Option Addr×Nat,e=.returned (.int .i64 ((cs.length+1:Nat):Int))/\True /\
   SF w D [(b,aO L (cs++[v]) gen acc pn cn q.1 q.2)] [] [] (mW L (cs++[v]) pn cn q.1 q.2) w':=by
 refine enter Tryz.func79 Tryz.ntmps79 rfl rfl (yA hs) ?_
 simp only[bY]
 refine cR ?_;refine iO ?_;refine dF ?_;refine J3 ?_;refine aA ?_;refine gX (λ x11=>?_);(refine fQ (λ x12=>?_);try (refine eZ (λ h12=>?_)));refine O7 ?_;refine lR ?_;refine dI ?_;refine J1 ?_
 refine aT Tryz.results79 (λ w hw=>?_)
 exact⟨x12,rfl,trivial,by simpa[aO,mW] using hw.aU (F':=[])⟩
end

/- The small methods of the two memories: generations, loads, compare-and-swaps. -/
end Go.Proofs.YtbajmaoegmbfgaaGreat
namespace Go.Ct
section
def cS(cs:List Int)(c:Int):Int:=if 1<=c/\c<=cs.length then cs.getD (c-1).toNat 0 else 0
def iI(cs:List Int)(c bN:Int):Prop:=1<=c/\c<=cs.length/\cs.getD (c-1).toNat 0=bN
def eD(cs:List Int)(c bN new:Int):List Int:=if 1<=c/\c<=cs.length/\cs.getD (c-1).toNat 0=bN then cs.set (c-1).toNat new else cs
def up(i:Int):Int:=Go.IntKind.i64.wrap (i+1)
theorem A9{cs:List Int}{c:Int}(h:¬(1<=c/\c<=cs.length)):cS cs c=0:=if_neg h
theorem P6{cs:List Int}{k:Nat}(h:k<cs.length):cS cs ((k+1:Nat):Int)=cs.getD k 0:=by
 unfold cS
 rw[if_pos (by omega),show(((k+1:Nat):Int)-1).toNat=k by omega]
theorem zX{cs:List Int}{c bN new:Int}(h:¬(1<=c/\c<=cs.length/\cs.getD (c-1).toNat 0=bN)):eD cs c bN new=cs:=if_neg h
theorem Wz{cs:List Int}{k:Nat}{bN new:Int}(h:k<cs.length)(ho:cs.getD k 0=bN):eD cs ((k+1:Nat):Int) bN new=cs.set k new:=by
 have e:(((k+1:Nat):Int)-1).toNat=k:=by omega
 unfold eD
 rw[e,if_pos ⟨by omega,by omega,ho⟩]
theorem ir{cs:List Int}{c bN:Int}(h:c<1):(false=true↔iI cs c bN):=⟨(λ h=>nomatch h),λ h2=>absurd h2.1 (by omega)⟩
theorem V0{cs:List Int}{c bN new:Int}(h:c<1):eD cs c bN new=cs:=zX (by omega)
theorem ia{cs:List Int}{c bN:Int}(h:(cs.length:Int)<c):(false=true↔iI cs c bN):=⟨(λ h=>nomatch h),λ h2=>absurd h2.2.1 (by omega)⟩
theorem Wr{cs:List Int}{c bN new:Int}(h:(cs.length:Int)<c):eD cs c bN new=cs:=zX (by omega)
theorem l7{cs:List Int}{k:Nat}{bN:Int}(h:cs.getD k 0≠bN):(false=true↔iI cs ((k+1:Nat):Int) bN):=⟨(λ h=>nomatch h),λ h2=>absurd (by have:=h2.2.2;rwa [show(((k+1:Nat):Int)-1).toNat=k by omega] at this) h⟩
theorem Ww{cs:List Int}{k:Nat}{bN new:Int}(h:cs.getD k 0≠bN):eD cs ((k+1:Nat):Int) bN new=cs:=zX λ h2=>absurd (by have:=h2.2.2;rwa [show(((k+1:Nat):Int)-1).toNat=k by omega] at this) h
theorem Z4{cs:List Int}{k:Nat}{bN:Int}(hk:k<cs.length)(h:cs.getD k 0=bN):(true=true↔iI cs ((k+1:Nat):Int) bN):=⟨λ _=>⟨by omega,by omega,by rw[show(((k+1:Nat):Int)-1).toNat=k by omega];exact h⟩,λ _=>rfl⟩
theorem gT{cs:List Int}{c bN new:Int}:(eD cs c bN new).length=cs.length:=by unfold eD;split<;>simp
end
end Go.Ct
namespace Go.Proofs.YtbajmaoegmbfgaaGreat
section
open Go.RowKit Go.Ct
variable{w:World}{D:List Nat}{b:Nat}{L:List aZ}{cs:List Int}{gen acc:Int}{pn pc:Option Addr}{cn cc:Nat}{A:Fr}
theorem Jh(hs:SF w D [(b,mO L cs gen acc pn cn pc cc)] A [] (mW L cs pn cn pc cc) w):Calls Tryz.prog 100 #[.pointer (some ⟨b,0,none⟩)] w λ e w'=>∃q:Unit,e=.returned (.int .i64 (up gen))/\True/\SF w D [(b,mO L cs (up gen) acc pn cn pc cc)] [] [] (mW L cs pn cn pc cc) w':=by
 refine enter Tryz.func100 Tryz.ntmps100 rfl rfl (yO hs) ?_
 simp only[bY]
 refine cR ?_;refine Ew ?_;refine J3 ?_;refine aB (pR rf rf) rfl ?_;refine F5 ?_;refine uN ?_;refine Ew ?_;refine J3 ?_;refine J1 ?_
 refine aT Tryz.results100 (λ w hw=>?_)
 exact⟨(),rfl,trivial,by simpa[mO,mW] using hw.aU (F':=[])⟩
theorem iw(hs:SF w D [(b,mO L cs gen acc pn cn pc cc)] A [] (mW L cs pn cn pc cc) w)(c:Int)(hc:c<1):Calls Tryz.prog 241 #[.pointer (some ⟨b,0,none⟩),.int .i64 c] w λ e w'=>∃q:Unit,e=.returned (.int .i64 (cS cs c))/\True/\SF w D [(b,mO L cs gen (up acc) pn cn pc cc)] [] [] (mW L cs pn cn pc cc) w':=by
 refine enter Tryz.func241 Tryz.ntmps241 rfl rfl (yO hs) ?_
 simp only[bY]
 refine cR ?_;refine lR ?_;refine aB (pR rf rf) rfl ?_;refine O7 ?_;refine kM ?_;refine Fv ?_
 (refine eM 14 (λ g14=>?_) (λ g14=>?_)<;>(try (exfalso;omega))<;>(refine aJ ?_))
 refine J79 ?_;refine nq ?_;refine Iw ?_;refine aH ?_
 refine bE (λ c23=>?_) (λ c23=>?_)
 ·try (exfalso;omega)
  refine cR ?_
  refine aT Tryz.results241 (λ w hw=>?_)
  (exact⟨(),by rw[A9 (by omega)];rfl,trivial,hw.aU⟩)
 ·exact nv c23
theorem sd(hs:SF w D [(b,mO L cs gen acc pn cn pc cc)] A [] (mW L cs pn cn pc cc) w)(c:Int)(bN new:Int)(hc:c<1):Calls Tryz.prog 242 #[.pointer (some ⟨b,0,none⟩),.int .i64 c,.int .i64 bN,.int .i64 new] w λ e w'=>∃r:Bool,e=.returned (.bool r)/\(r=true↔iI cs c bN)/\SF w D [(b,mO L (eD cs c bN new) gen (up acc) pn cn pc cc)] [] [] (mW L (eD cs c bN new) pn cn pc cc) w':=by
 refine enter Tryz.func242 Tryz.ntmps242 rfl rfl (yO hs) ?_
 simp only[bY]
 refine cR ?_;refine lR ?_;refine aB (pR rf rf) rfl ?_;refine O7 ?_;refine kM ?_;refine Fv ?_
 (refine eM 18 (λ g18=>?_) (λ g18=>?_)<;>(try (exfalso;omega))<;>(refine aJ ?_))
 refine J79 ?_;refine nq ?_;refine Iw ?_;refine aA ?_
 refine aJ ?_
 refine J36 ?_;refine J6 ?_;refine J68 ?_;(refine aJ ?_);refine Zl ?_;refine Ru ?_;refine aH ?_
 refine bE (λ c40=>?_) (λ c40=>?_)
 ·try (exfalso;omega)
  refine cR ?_
  refine aT Tryz.results242 (λ w hw=>?_)
  (exact⟨false,rfl,ir hc,by rw[V0 hc];exact hw.aU⟩)
 ·exact nv c40
theorem gj(hs:SF w D [(b,mO L cs gen acc pn cn pc cc)] A [] (mW L cs pn cn pc cc) w){k:Nat}(hk:(k:Int)<9223372036854775807)(hl:cs.length<=274877906944):Calls Tryz.prog 241 #[.pointer (some ⟨b,0,none⟩),.int .i64 ((k+1:Nat):Int)] w λ e w'=>∃q:Unit,e=.returned (.int .i64 (cS cs ((k+1:Nat):Int)))/\True/\SF w D [(b,mO L cs gen (up acc) pn cn pc cc)] [] [] (mW L cs pn cn pc cc) w':=by
 refine enter Tryz.func241 Tryz.ntmps241 rfl rfl (yO hs) ?_
 simp only[bY]
 refine cR ?_;refine lR ?_;refine aB (pR rf rf) rfl ?_;refine O7 ?_;refine kM ?_;refine Fv ?_
 (refine aF ?_;refine aA ?_)
 refine J79 ?_;refine nq ?_;refine Iw ?_;refine aH ?_
 refine bE (λ c23=>?_) (λ c23=>?_)
 ·try (exfalso;omega)
  refine cR ?_
  refine aT Tryz.results241 (λ w hw=>?_)
  (exact⟨(),by rw[A9 (by omega)];rfl,trivial,hw.aU⟩)
 ·try (exfalso;omega)
  refine bB ?_;refine Ew ?_;refine J3 ?_;refine aA ?_;refine uR ?_;refine Yu ?_;refine J1 ?_
  refine aT Tryz.results241 (λ w hw=>?_)
  (exact⟨(),by rw[P6 (by omega)];rfl,trivial,hw.aU⟩)
theorem qk(hs:SF w D [(b,mO L cs gen acc pn cn pc cc)] A [] (mW L cs pn cn pc cc) w){k:Nat}(hk:(k:Int)<9223372036854775807)(bN new:Int)(hl:cs.length<=274877906944):Calls Tryz.prog 242 #[.pointer (some ⟨b,0,none⟩),.int .i64 ((k+1:Nat):Int),.int .i64 bN,.int .i64 new] w λ e w'=>∃r:Bool,e=.returned (.bool r)/\(r=true↔iI cs ((k+1:Nat):Int) bN)/\SF w D [(b,mO L (eD cs ((k+1:Nat):Int) bN new) gen (up acc) pn cn pc cc)] [] [] (mW L (eD cs ((k+1:Nat):Int) bN new) pn cn pc cc) w':=by
 refine enter Tryz.func242 Tryz.ntmps242 rfl rfl (yO hs) ?_
 simp only[bY]
 refine cR ?_;refine lR ?_;refine aB (pR rf rf) rfl ?_;refine O7 ?_;refine kM ?_;refine Fv ?_
 (refine aF ?_;refine aA ?_)
 refine J79 ?_;refine nq ?_;refine Iw ?_;refine aA ?_
 (refine eM 28 (λ g28=>?_) (λ g28=>?_)<;>(first|refine aJ ?_|(refine aF ?_;refine aA ?_)))
 all_goals (refine J36 ?_;refine J6 ?_;refine J68 ?_;(first|refine aJ ?_|(refine aF ?_;refine fK ?_));refine Zl ?_;refine Ru ?_;refine aH ?_)
 all_goals
 refine bE (λ c40=>?_) (λ c40=>?_)
 ·all_goals try (exfalso;omega)
  all_goals refine cR ?_
  all_goals
   refine aT Tryz.results242 (λ w hw=>?_)
   first|exact⟨false,rfl,ia (by omega),by rw[Wr (by omega)];exact hw.aU⟩|exact⟨false,rfl,l7 (by simpa using c40),by rw[Ww (by simpa using c40)];exact hw.aU⟩ 
 ·try exact nv c40
  all_goals (refine bB ?_;refine Ew ?_;refine J3 ?_;refine aA ?_;refine uR ?_;refine aA ?_;refine fK ?_;refine J5 ?_;refine cR ?_)
  all_goals
   refine aT Tryz.results242 (λ w hw=>?_)
   (exact⟨true,rfl,Z4 (by omega) (by simpa using c40),by rw[Wz (by omega) (by simpa using c40)];simpa[mW,aO,mO] using hw.aU (F':=[])⟩)
theorem qu(hs:SF w D [(b,mO L cs gen acc pn cn pc cc)] A [] (mW L cs pn cn pc cc) w)(c:Int)(hc:c<=9223372036854775807)(hl:cs.length<=274877906944):Calls Tryz.prog 241 #[.pointer (some ⟨b,0,none⟩),.int .i64 c] w λ e w'=>∃q:Unit,e=.returned (.int .i64 (cS cs c))/\True/\SF w D [(b,mO L cs gen (up acc) pn cn pc cc)] [] [] (mW L cs pn cn pc cc) w':=by
 rcases Int.lt_or_le c 1 with h|h
 ·exact iw hs c h
 ·obtain⟨k,rfl⟩:∃k:Nat,c=((k+1:Nat):Int):=⟨(c-1).toNat,by omega⟩
  exact gj hs (by omega) hl
theorem aAc(hs:SF w D [(b,mO L cs gen acc pn cn pc cc)] A [] (mW L cs pn cn pc cc) w)(c bN new:Int)(hc:c<=9223372036854775807)(hl:cs.length<=274877906944):Calls Tryz.prog 242 #[.pointer (some ⟨b,0,none⟩),.int .i64 c,.int .i64 bN,.int .i64 new] w λ e w'=>∃r:Bool,e=.returned (.bool r)/\(r=true↔iI cs c bN)/\SF w D [(b,mO L (eD cs c bN new) gen (up acc) pn cn pc cc)] [] [] (mW L (eD cs c bN new) pn cn pc cc) w':=by
 rcases Int.lt_or_le c 1 with h|h
 ·exact sd hs c bN new h
 ·obtain⟨k,rfl⟩:∃k:Nat,c=((k+1:Nat):Int):=⟨(c-1).toNat,by omega⟩
  exact qk hs (by omega) bN new hl
theorem K2(hs:SF w D [(b,aO L cs gen acc pn cn pc cc)] A [] (mW L cs pn cn pc cc) w)(c:Int):Calls Tryz.prog 85 #[.pointer (some ⟨b,0,none⟩),.int .i64 c] w λ e w'=>∃q:Unit,e=.returned (.bool (decide (1<=c/\c<=(cs.length:Int))))/\True/\SF w D [(b,aO L cs gen acc pn cn pc cc)] [] [] (mW L cs pn cn pc cc) w':=by
 refine enter Tryz.func85 Tryz.ntmps85 rfl rfl (yA hs) ?_
 simp only[bY]
 refine cR ?_;refine J2 ?_;refine kR ?_;refine aA ?_
 (refine eM 7 (λ g7=>?_) (λ g7=>?_)<;>(first|refine aJ ?_|(refine aF ?_;refine aA ?_)))
 all_goals ((first|refine aJ ?_|(refine aF ?_;refine aA ?_));(first|refine aJ ?_|(refine aF ?_;refine dF ?_));refine nq ?_;(first|refine aJ ?_|(refine aF ?_;refine vN ?_));refine cH ?_;refine J1 ?_)
 all_goals
 refine aT Tryz.results85 (λ w hw=>?_)
 first|exact⟨(),by rw[decide_eq_false (show ¬(1<=c/\c<=(cs.length:Int)) by omega)];first|rfl|(rw[decide_eq_false (by omega)];rfl),trivial,hw.aU⟩|exact⟨(),by rw[show decide (1<=c/\c<=(cs.length:Int))=decide (c<=(cs.length:Int)) by simp;omega];rfl,trivial,hw.aU⟩
theorem mz(hs:SF w D [(b,aO L cs gen acc pn cn pc cc)] A [] (mW L cs pn cn pc cc) w)(c:Int)(hc:c<1):Calls Tryz.prog 35 #[.pointer (some ⟨b,0,none⟩),.int .i64 c] w λ e w'=>∃q:Unit,e=.returned (.int .i64 (cS cs c))/\True/\SF w D [(b,aO L cs gen (up acc) pn cn pc cc)] [] [] (mW L cs pn cn pc cc) w':=by
 refine enter Tryz.func35 Tryz.ntmps35 rfl rfl (yA hs) ?_
 simp only[bY]
 refine cR ?_;refine lR ?_;refine aB (pR rf rf) rfl ?_;refine O7 ?_;refine Df ?_;refine aC (cM (hc:=λ w hs=>K2 hs c)) (λ x14 h14=>?_);refine oX ?_
 refine bE (λ c15=>?_) (λ c15=>?_)
 ·try (exfalso;omega)
  refine cR ?_
  refine aT Tryz.results35 (λ w hw=>?_)
  (exact⟨(),by rw[A9 (by omega)];rfl,trivial,hw.aU⟩)
 ·try (exfalso;omega)
theorem ob(hs:SF w D [(b,aO L cs gen acc pn cn pc cc)] A [] (mW L cs pn cn pc cc) w)(c:Int)(bN new:Int)(hc:c<1):Calls Tryz.prog 279 #[.pointer (some ⟨b,0,none⟩),.int .i64 c,.int .i64 bN,.int .i64 new] w λ e w'=>∃r:Bool,e=.returned (.bool r)/\(r=true↔iI cs c bN)/\SF w D [(b,aO L (eD cs c bN new) gen (up acc) pn cn pc cc)] [] [] (mW L (eD cs c bN new) pn cn pc cc) w':=by
 refine enter Tryz.func279 Tryz.ntmps279 rfl rfl (yA hs) ?_
 simp only[bY]
 refine cR ?_;refine lR ?_;refine aB (pR rf rf) rfl ?_;refine O7 ?_;refine Df ?_;refine aC (cM (hc:=λ w hs=>K2 hs c)) (λ x18 h18=>?_);refine En ?_
 (refine eM 20 (λ g20=>?_) (λ g20=>?_)<;>(try (exfalso;omega))<;>(refine aJ ?_))
 (refine aJ ?_);refine J6 ?_;refine J68 ?_;(refine aJ ?_);refine Zl ?_;refine Ru ?_;refine aH ?_
 refine bE (λ c31=>?_) (λ c31=>?_)
 ·try (exfalso;omega)
  refine cR ?_
  refine aT Tryz.results279 (λ w hw=>?_)
  (exact⟨false,rfl,ir hc,by rw[V0 hc];exact hw.aU⟩)
 ·exact nv c31
theorem ix(hs:SF w D [(b,aO L cs gen acc pn cn pc cc)] A [] (mW L cs pn cn pc cc) w){k:Nat}(hk:(k:Int)<9223372036854775807)(hl:cs.length<=274877906944):Calls Tryz.prog 35 #[.pointer (some ⟨b,0,none⟩),.int .i64 ((k+1:Nat):Int)] w λ e w'=>∃q:Unit,e=.returned (.int .i64 (cS cs ((k+1:Nat):Int)))/\True/\SF w D [(b,aO L cs gen (up acc) pn cn pc cc)] [] [] (mW L cs pn cn pc cc) w':=by
 refine enter Tryz.func35 Tryz.ntmps35 rfl rfl (yA hs) ?_
 simp only[bY]
 refine cR ?_;refine lR ?_;refine aB (pR rf rf) rfl ?_;refine O7 ?_;refine Df ?_;refine aC (cM (hc:=λ w hs=>K2 hs ((k+1:Nat):Int))) (λ x14 h14=>?_);refine oX ?_
 refine bE (λ c15=>?_) (λ c15=>?_)
 ·try (exfalso;omega)
  refine cR ?_
  refine aT Tryz.results35 (λ w hw=>?_)
  (exact⟨(),by rw[A9 (by omega)];rfl,trivial,hw.aU⟩)
 ·try (exfalso;omega)
  refine vi ?_;refine aA ?_;refine uR ?_;refine Yu ?_;refine J1 ?_
  refine aT Tryz.results35 (λ w hw=>?_)
  (exact⟨(),by rw[P6 (by omega)];rfl,trivial,hw.aU⟩)
theorem oz(hs:SF w D [(b,aO L cs gen acc pn cn pc cc)] A [] (mW L cs pn cn pc cc) w){k:Nat}(hk:(k:Int)<9223372036854775807)(bN new:Int)(hl:cs.length<=274877906944):Calls Tryz.prog 279 #[.pointer (some ⟨b,0,none⟩),.int .i64 ((k+1:Nat):Int),.int .i64 bN,.int .i64 new] w λ e w'=>∃r:Bool,e=.returned (.bool r)/\(r=true↔iI cs ((k+1:Nat):Int) bN)/\SF w D [(b,aO L (eD cs ((k+1:Nat):Int) bN new) gen (up acc) pn cn pc cc)] [] [] (mW L (eD cs ((k+1:Nat):Int) bN new) pn cn pc cc) w':=by
 refine enter Tryz.func279 Tryz.ntmps279 rfl rfl (yA hs) ?_
 simp only[bY]
 refine cR ?_;refine lR ?_;refine aB (pR rf rf) rfl ?_;refine O7 ?_;refine Df ?_;refine aC (cM (hc:=λ w hs=>K2 hs ((k+1:Nat):Int))) (λ x18 h18=>?_);refine En ?_
 (refine eM 20 (λ g20=>?_) (λ g20=>?_)<;>(first|refine aJ ?_|(refine aF ?_;refine aA ?_)))
 all_goals ((first|refine aJ ?_|(refine aF ?_;refine dF ?_));refine J6 ?_;refine J68 ?_;(first|refine aJ ?_|(refine aF ?_;refine fK ?_));refine Zl ?_;refine Ru ?_;refine aH ?_)
 all_goals
 refine bE (λ c31=>?_) (λ c31=>?_)
 ·all_goals try (exfalso;omega)
  all_goals refine cR ?_
  all_goals
   refine aT Tryz.results279 (λ w hw=>?_)
   first|exact⟨false,rfl,ia (by omega),by rw[Wr (by omega)];exact hw.aU⟩|exact⟨false,rfl,l7 (by simpa using c31),by rw[Ww (by simpa using c31)];exact hw.aU⟩ 
 ·try exact nv c31
  all_goals (refine vi ?_;refine aA ?_;refine uR ?_;refine aA ?_;refine fK ?_;refine J5 ?_;refine cR ?_)
  all_goals
   refine aT Tryz.results279 (λ w hw=>?_)
   (exact⟨true,rfl,Z4 (by omega) (by simpa using c31),by rw[Wz (by omega) (by simpa using c31)];simpa[mW,aO,mO] using hw.aU (F':=[])⟩)
theorem te(hs:SF w D [(b,aO L cs gen acc pn cn pc cc)] A [] (mW L cs pn cn pc cc) w)(c:Int)(hc:c<=9223372036854775807)(hl:cs.length<=274877906944):Calls Tryz.prog 35 #[.pointer (some ⟨b,0,none⟩),.int .i64 c] w λ e w'=>∃q:Unit,e=.returned (.int .i64 (cS cs c))/\True/\SF w D [(b,aO L cs gen (up acc) pn cn pc cc)] [] [] (mW L cs pn cn pc cc) w':=by
 rcases Int.lt_or_le c 1 with h|h
 ·exact mz hs c h
 ·obtain⟨k,rfl⟩:∃k:Nat,c=((k+1:Nat):Int):=⟨(c-1).toNat,by omega⟩
  exact ix hs (by omega) hl
theorem ye(hs:SF w D [(b,aO L cs gen acc pn cn pc cc)] A [] (mW L cs pn cn pc cc) w)(c bN new:Int)(hc:c<=9223372036854775807)(hl:cs.length<=274877906944):Calls Tryz.prog 279 #[.pointer (some ⟨b,0,none⟩),.int .i64 c,.int .i64 bN,.int .i64 new] w λ e w'=>∃r:Bool,e=.returned (.bool r)/\(r=true↔iI cs c bN)/\SF w D [(b,aO L (eD cs c bN new) gen (up acc) pn cn pc cc)] [] [] (mW L (eD cs c bN new) pn cn pc cc) w':=by
 rcases Int.lt_or_le c 1 with h|h
 ·exact ob hs c bN new h
 ·obtain⟨k,rfl⟩:∃k:Nat,c=((k+1:Nat):Int):=⟨(c-1).toNat,by omega⟩
  exact oz hs (by omega) bN new hl
end

end Go.Proofs.YtbajmaoegmbfgaaGreat
