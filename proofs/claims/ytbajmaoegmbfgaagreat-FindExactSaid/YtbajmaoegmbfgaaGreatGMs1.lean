/- Memories: the rule for calls that may change them. -/
import Derived.Test.YtbajmaoegmbfgaaGreatGJoin

set_option linter.unusedSimpArgs false
set_option linter.unusedVariables false
namespace Go.Proofs.YtbajmaoegmbfgaaGreat
section
open Go Go.RowKit Go.Ct
abbrev mO(L:List aY)(cs:List Int)(gen acc:Int)(pn:Option Addr)(cn:Nat)(pc:Option Addr)(cc:Nat):Obj:=.cells ⟨[.slice pn L.length cn,.slice pc cs.length cc,.int .i64 gen,.int .i64 acc]⟩ 54 (0,0)
abbrev aO(L:List aY)(cs:List Int)(gen acc:Int)(pn:Option Addr)(cn:Nat)(pc:Option Addr)(cc:Nat):Obj:=.cells ⟨[.slice pn L.length cn,.slice pc cs.length cc,.int .i64 gen,.int .i64 acc]⟩ 139 (0,0)
abbrev mW(L:List aY)(cs:List Int)(pn:Option Addr)(cn:Nat)(pc:Option Addr)(cc:Nat):List Ow:=[⟨pn,gY L,cn,47,14⟩,⟨pc,aH cs,cc,37,1⟩]
theorem xP{w0 w:World}{D:List Nat}{b:Nat}{L:List aY}{cs:List Int}{gen acc:Int}{pn pc:Option Addr}{cn cc:Nat}{A F:Fr}(h:SF w0 D [(b,mO L cs gen acc pn cn pc cc)] A F (mW L cs pn cn pc cc) w) :
  SF w0 D [(b,.cells ⟨[.slice pn L.length cn,.slice pc cs.length cc,.int .i64 gen,.int .i64 acc]⟩ 54 (0,0))] A F [⟨pn,gY L,cn,47,14⟩,⟨pc,aH cs,cc,37,1⟩] w:=h
theorem xN{w0 w:World}{D:List Nat}{b:Nat}{L:List aY}{cs:List Int}{gen acc:Int}{pn pc:Option Addr}{cn cc:Nat}{A F:Fr}(h:SF w0 D [(b,aO L cs gen acc pn cn pc cc)] A F (mW L cs pn cn pc cc) w) :
  SF w0 D [(b,.cells ⟨[.slice pn L.length cn,.slice pc cs.length cc,.int .i64 gen,.int .i64 acc]⟩ 139 (0,0))] A F [⟨pn,gY L,cn,47,14⟩,⟨pc,aH cs,cc,37,1⟩] w:=h
variable{S:List (Nat×Value)}{w0 w:World}{M:List Nat}{H:List (Nat×Obj)}{A F:Fr}{O:List Ow}{ty:TypeId}{pos:String}{af:Array Edge}{gd:Option (Nat×Bool)}{X:Type}{V:X->Value}
theorem cM{φ:X->Prop}{hs H':List (Nat×Obj)}{os O':List Ow}{hs' H1:X->List (Nat×Obj)}{os' O1:X->List Ow}{Fc F1:X->Fr}{A0:Fr}{is js:List Nat}{f:FuncId}{xs:List Operand}{at_:Array TypeId}{vs:List Value}{dst:Option Nat}
  (ha:oW S xs=vs:=by(repeat (first|exact cC _|(apply bU;focus ((conv=>{lhs;whnf});try exact rfl))));first|done|fail) (hp:plain Tryz.prog f=true:=by kernel_rfl)
  (hc:∀w,SF w (Ks hs os) hs A0 [] os w->Calls Tryz.prog f ⟨vs⟩ w λ e w'=>∃x,e=.returned (V x)/\φ x/\SF w (Ks hs os) (hs' x) [] (Fc x) (os' x) w')
  (hH:lT H is hs H':=by(repeat (first|exact lT.nil|(apply lT.cons;(focus ((repeat (first|exact yD.head|apply yD.tail));done));simp only[pX])));first|done|fail)
  (hO:lT O js os O':=by(repeat (first|exact lT.nil|(apply lT.cons;(focus ((repeat (first|exact yD.head|apply yD.tail));done));simp only[pX])));first|done|fail)
  (hA:bA A F O' A0:=by(repeat (first|exact bA.of (λ _ h=>Or.inr (Or.inl h))|exact bA.nil|(refine bA.cons (by first|exact Or.inl rfl|exact Or.inr (Or.inr (Or.inl (by simp)))|exact Or.inr (Or.inl (by simp))|exact Or.inr (Or.inr (Or.inr (by simp)))) ?_)));first|done|fail)
  (hl1:∀x,is.length=(hs' x).length:=by intro x;exact rfl) (hl2:∀x,js.length=(os' x).length:=by intro x;exact rfl)
  (hH1:∀x,iL is (hs' x) H'=H1 x:=by intro x;first|(simp only[iL,qV];exact rfl)|exact rfl) (hF1:∀x,Fc x++F=F1 x:=by intro x;first|(simp only[List.nil_append,List.cons_append];exact rfl)|exact rfl) (hO1:∀x,iL js (os' x) O'=O1 x:=by intro x;simp only[iL,qV,mW];exact rfl) :
  bF Tryz.prog S (SF w0 M H A F O) ⟨dst,.call {callee:=.value (.func f),args:=⟨xs⟩,argTypes:=at_},ty,pos,af,gd⟩ X V (λ x w=>φ x/\SF w0 M (H1 x) A (F1 x) (O1 x) w) :=
 gB (mF hp ha) λ w hw=>(hc w (hw.pR hH hO hA)).mono λ _ _ ⟨x,he,hx,hs⟩=>⟨x,he,hx,by
  have:=hw.vZ (hs':=hs' x) (Hc:=[]) (os':=os' x) (Oc:=[]) hH hO (by simpa using hs) (hl1 x) (hl2 x)
  rw[<- hH1 x,<- hF1 x,<- hO1 x]
  simpa using this⟩
theorem cMO{φ:X->Prop}{hs H':List (Nat×Obj)}{os O':List Ow}{hs' H1:X->List (Nat×Obj)}{os' Oc O1:X->List Ow}{Fc F1:X->Fr}{A0:Fr}{is js:List Nat}{f:FuncId}{xs:List Operand}{at_:Array TypeId}{vs:List Value}{dst:Option Nat}
  (ha:oW S xs=vs:=by(repeat (first|exact cC _|(apply bU;focus ((conv=>{lhs;whnf});try exact rfl))));first|done|fail) (hp:plain Tryz.prog f=true:=by kernel_rfl)
  (hc:∀w,SF w (Ks hs os) hs A0 [] os w->Calls Tryz.prog f ⟨vs⟩ w λ e w'=>∃x,e=.returned (V x)/\φ x/\SF w (Ks hs os) (hs' x) [] (Fc x) (os' x++Oc x) w')
  (hH:lT H is hs H':=by(repeat (first|exact lT.nil|(apply lT.cons;(focus ((repeat (first|exact yD.head|apply yD.tail));done));simp only[pX])));first|done|fail)
  (hO:lT O js os O':=by(repeat (first|exact lT.nil|(apply lT.cons;(focus ((repeat (first|exact yD.head|apply yD.tail));done));simp only[pX])));first|done|fail)
  (hA:bA A F O' A0:=by(repeat (first|exact bA.of (λ _ h=>Or.inr (Or.inl h))|exact bA.nil|(refine bA.cons (by first|exact Or.inl rfl|exact Or.inr (Or.inr (Or.inl (by simp)))|exact Or.inr (Or.inl (by simp))|exact Or.inr (Or.inr (Or.inr (by simp)))) ?_)));first|done|fail)
  (hl1:∀x,is.length=(hs' x).length:=by intro x;exact rfl) (hl2:∀x,js.length=(os' x).length:=by intro x;exact rfl)
  (hH1:∀x,iL is (hs' x) H'=H1 x:=by intro x;first|(simp only[iL,qV];exact rfl)|exact rfl) (hF1:∀x,Fc x++F=F1 x:=by intro x;first|(simp only[List.nil_append,List.cons_append];exact rfl)|exact rfl) (hO1:∀x,Oc x++iL js (os' x) O'=O1 x:=by intro x;simp only[iL,qV,mW,List.nil_append,List.cons_append];exact rfl) :
  bF Tryz.prog S (SF w0 M H A F O) ⟨dst,.call {callee:=.value (.func f),args:=⟨xs⟩,argTypes:=at_},ty,pos,af,gd⟩ X V (λ x w=>φ x/\SF w0 M (H1 x) A (F1 x) (O1 x) w) :=
 gB (mF hp ha) λ w hw=>(hc w (hw.pR hH hO hA)).mono λ _ _ ⟨x,he,hx,hs⟩=>⟨x,he,hx,by
  have:=hw.vZ (hs':=hs' x) (Hc:=[]) (os':=os' x) (Oc:=Oc x) hH hO (by simpa using hs) (hl1 x) (hl2 x)
  rw[<- hH1 x,<- hF1 x,<- hO1 x]
  simpa using this⟩
end

/- The small methods of the two memories: cells, generations, loads, compare-and-swaps. -/
section
open Go.RowKit Go.Ct
variable{w:World}{D:List Nat}{b:Nat}{L:List aY}{cs:List Int}{gen acc:Int}{pn pc:Option Addr}{cn cc:Nat}{A:Fr}
theorem lD(v:Int)(hs:SF w D [(b,mO L cs gen acc pn cn pc cc)] A [] (mW L cs pn cn pc cc) w)(hl:cs.length<=274877906944) :
  Calls Tryz.prog 114 #[.pointer (some ⟨b,0,none⟩),.int .i64 v] w λ e w'=>∃q:Option Addr×Nat,e=.returned (.int .i64 ((cs.length+1:Nat):Int))/\True /\
   SF w D [(b,mO L (cs++[v]) gen acc pn cn q.1 q.2)] [] [] (mW L (cs++[v]) pn cn q.1 q.2) w':=by
 refine enter Tryz.func114 Tryz.ntmps114 rfl rfl (xP hs) ?_
 simp only[bY]
 refine cQ ?_;refine iM ?_;refine Hi ?_;refine J3 ?_;refine aA ?_;refine gW (λ x12=>?_);(refine fO (λ x13=>?_);try (refine eX (λ h13=>?_)));refine Hi ?_;refine uE ?_;refine Eb ?_;refine My ?_;refine J1 ?_
 refine aT Tryz.results114 (λ w hw=>?_)
 exact⟨x13,rfl,trivial,by simpa[mO,mW] using hw.aU (F':=[])⟩
theorem yZ(v:Int)(hs:SF w D [(b,aO L cs gen acc pn cn pc cc)] A [] (mW L cs pn cn pc cc) w)(hl:cs.length<=274877906944) :
  Calls Tryz.prog 79 #[.pointer (some ⟨b,0,none⟩),.int .i64 v] w λ e w'=>∃q:Option Addr×Nat,e=.returned (.int .i64 ((cs.length+1:Nat):Int))/\True /\
   SF w D [(b,aO L (cs++[v]) gen acc pn cn q.1 q.2)] [] [] (mW L (cs++[v]) pn cn q.1 q.2) w':=by
 refine enter Tryz.func79 Tryz.ntmps79 rfl rfl (xN hs) ?_
 simp only[bY]
 refine cQ ?_;refine iM ?_;refine dF ?_;refine J3 ?_;refine aA ?_;refine gW (λ x11=>?_);(refine fO (λ x12=>?_);try (refine eX (λ h12=>?_)));refine N0 ?_;refine lR ?_;refine dG ?_;refine J1 ?_
 refine aT Tryz.results79 (λ w hw=>?_)
 exact⟨x12,rfl,trivial,by simpa[aO,mW] using hw.aU (F':=[])⟩
end

/- The small methods of the two memories: generations, loads, compare-and-swaps. -/
end Go.Proofs.YtbajmaoegmbfgaaGreat
namespace Go.Ct
section
def cZ(cs:List Int)(c:Int):Int:=if 1<=c/\c<=cs.length then cs.getD (c-1).toNat 0 else 0
def kF(cs:List Int)(c bO:Int):Prop:=1<=c/\c<=cs.length/\cs.getD (c-1).toNat 0=bO
def eJ(cs:List Int)(c bO new:Int):List Int:=if 1<=c/\c<=cs.length/\cs.getD (c-1).toNat 0=bO then cs.set (c-1).toNat new else cs
def up(i:Int):Int:=Go.IntKind.i64.wrap (i+1)
theorem Au{cs:List Int}{c:Int}(h:¬(1<=c/\c<=cs.length)):cZ cs c=0:=if_neg h
theorem Pm{cs:List Int}{k:Nat}(h:k<cs.length):cZ cs ((k+1:Nat):Int)=cs.getD k 0:=by
 unfold cZ
 rw[if_pos (by omega),show(((k+1:Nat):Int)-1).toNat=k by omega]
theorem D8{cs:List Int}{c bO new:Int}(h:¬(1<=c/\c<=cs.length/\cs.getD (c-1).toNat 0=bO)):eJ cs c bO new=cs:=if_neg h
theorem U7{cs:List Int}{k:Nat}{bO new:Int}(h:k<cs.length)(ho:cs.getD k 0=bO):eJ cs ((k+1:Nat):Int) bO new=cs.set k new:=by
 have e:(((k+1:Nat):Int)-1).toNat=k:=by omega
 unfold eJ
 rw[e,if_pos ⟨by omega,by omega,ho⟩]
theorem fh{cs:List Int}{c bO:Int}(h:c<1):(false=true↔kF cs c bO):=⟨(λ h=>nomatch h),λ h2=>absurd h2.1 (by omega)⟩
theorem Tt{cs:List Int}{c bO new:Int}(h:c<1):eJ cs c bO new=cs:=D8 (by omega)
theorem jc{cs:List Int}{c bO:Int}(h:(cs.length:Int)<c):(false=true↔kF cs c bO):=⟨(λ h=>nomatch h),λ h2=>absurd h2.2.1 (by omega)⟩
theorem Uy{cs:List Int}{c bO new:Int}(h:(cs.length:Int)<c):eJ cs c bO new=cs:=D8 (by omega)
theorem Zc{cs:List Int}{k:Nat}{bO:Int}(h:cs.getD k 0≠bO):(false=true↔kF cs ((k+1:Nat):Int) bO):=⟨(λ h=>nomatch h),λ h2=>absurd (by have:=h2.2.2;rwa [show(((k+1:Nat):Int)-1).toNat=k by omega] at this) h⟩
theorem V3{cs:List Int}{k:Nat}{bO new:Int}(h:cs.getD k 0≠bO):eJ cs ((k+1:Nat):Int) bO new=cs:=D8 λ h2=>absurd (by have:=h2.2.2;rwa [show(((k+1:Nat):Int)-1).toNat=k by omega] at this) h
theorem fy{cs:List Int}{k:Nat}{bO:Int}(hk:k<cs.length)(h:cs.getD k 0=bO):(true=true↔kF cs ((k+1:Nat):Int) bO):=⟨λ _=>⟨by omega,by omega,by rw[show(((k+1:Nat):Int)-1).toNat=k by omega];exact h⟩,λ _=>rfl⟩
theorem gT{cs:List Int}{c bO new:Int}:(eJ cs c bO new).length=cs.length:=by unfold eJ;split<;>simp
end
end Go.Ct
namespace Go.Proofs.YtbajmaoegmbfgaaGreat
section
open Go.RowKit Go.Ct
variable{w:World}{D:List Nat}{b:Nat}{L:List aY}{cs:List Int}{gen acc:Int}{pn pc:Option Addr}{cn cc:Nat}{A:Fr}
theorem Ih(hs:SF w D [(b,mO L cs gen acc pn cn pc cc)] A [] (mW L cs pn cn pc cc) w):Calls Tryz.prog 100 #[.pointer (some ⟨b,0,none⟩)] w λ e w'=>∃q:Unit,e=.returned (.int .i64 (up gen))/\True/\SF w D [(b,mO L cs (up gen) acc pn cn pc cc)] [] [] (mW L cs pn cn pc cc) w':=by
 refine enter Tryz.func100 Tryz.ntmps100 rfl rfl (xP hs) ?_
 simp only[bY]
 refine cQ ?_;refine Eb ?_;refine J3 ?_;refine aB (pU rf rf) rfl ?_;refine Hi ?_;refine uE ?_;refine Eb ?_;refine J3 ?_;refine J1 ?_
 refine aT Tryz.results100 (λ w hw=>?_)
 exact⟨(),rfl,trivial,by simpa[mO,mW] using hw.aU (F':=[])⟩
theorem jv(hs:SF w D [(b,mO L cs gen acc pn cn pc cc)] A [] (mW L cs pn cn pc cc) w)(c:Int)(hc:c<1):Calls Tryz.prog 241 #[.pointer (some ⟨b,0,none⟩),.int .i64 c] w λ e w'=>∃q:Unit,e=.returned (.int .i64 (cZ cs c))/\True/\SF w D [(b,mO L cs gen (up acc) pn cn pc cc)] [] [] (mW L cs pn cn pc cc) w':=by
 refine enter Tryz.func241 Tryz.ntmps241 rfl rfl (xP hs) ?_
 simp only[bY]
 refine cQ ?_;refine lR ?_;refine aB (pU rf rf) rfl ?_;refine N0 ?_;refine kK ?_;refine G7 ?_
 (refine eM 14 (λ g14=>?_) (λ g14=>?_)<;>(try (exfalso;omega))<;>(refine aJ ?_))
 refine yq ?_;refine l8 ?_;refine Iz ?_;refine aG ?_
 refine bE (λ c23=>?_) (λ c23=>?_)
 ·try (exfalso;omega)
  refine cQ ?_
  refine aT Tryz.results241 (λ w hw=>?_)
  (exact⟨(),by rw[Au (by omega)];rfl,trivial,hw.aU⟩)
 ·exact nv c23
theorem ox(hs:SF w D [(b,mO L cs gen acc pn cn pc cc)] A [] (mW L cs pn cn pc cc) w)(c:Int)(bO new:Int)(hc:c<1):Calls Tryz.prog 242 #[.pointer (some ⟨b,0,none⟩),.int .i64 c,.int .i64 bO,.int .i64 new] w λ e w'=>∃r:Bool,e=.returned (.bool r)/\(r=true↔kF cs c bO)/\SF w D [(b,mO L (eJ cs c bO new) gen (up acc) pn cn pc cc)] [] [] (mW L (eJ cs c bO new) pn cn pc cc) w':=by
 refine enter Tryz.func242 Tryz.ntmps242 rfl rfl (xP hs) ?_
 simp only[bY]
 refine cQ ?_;refine lR ?_;refine aB (pU rf rf) rfl ?_;refine N0 ?_;refine kK ?_;refine G7 ?_
 (refine eM 18 (λ g18=>?_) (λ g18=>?_)<;>(try (exfalso;omega))<;>(refine aJ ?_))
 refine yq ?_;refine l8 ?_;refine Iz ?_;refine aA ?_
 refine aJ ?_
 refine J36 ?_;refine J6 ?_;refine J68 ?_;(refine aJ ?_);refine Yn ?_;refine Q2 ?_;refine aG ?_
 refine bE (λ c40=>?_) (λ c40=>?_)
 ·try (exfalso;omega)
  refine cQ ?_
  refine aT Tryz.results242 (λ w hw=>?_)
  (exact⟨false,rfl,fh hc,by rw[Tt hc];exact hw.aU⟩)
 ·exact nv c40
theorem ak(hs:SF w D [(b,mO L cs gen acc pn cn pc cc)] A [] (mW L cs pn cn pc cc) w){k:Nat}(hk:(k:Int)<9223372036854775807)(hl:cs.length<=274877906944):Calls Tryz.prog 241 #[.pointer (some ⟨b,0,none⟩),.int .i64 ((k+1:Nat):Int)] w λ e w'=>∃q:Unit,e=.returned (.int .i64 (cZ cs ((k+1:Nat):Int)))/\True/\SF w D [(b,mO L cs gen (up acc) pn cn pc cc)] [] [] (mW L cs pn cn pc cc) w':=by
 refine enter Tryz.func241 Tryz.ntmps241 rfl rfl (xP hs) ?_
 simp only[bY]
 refine cQ ?_;refine lR ?_;refine aB (pU rf rf) rfl ?_;refine N0 ?_;refine kK ?_;refine G7 ?_
 (refine aF ?_;refine aA ?_)
 refine yq ?_;refine l8 ?_;refine Iz ?_;refine aG ?_
 refine bE (λ c23=>?_) (λ c23=>?_)
 ·try (exfalso;omega)
  refine cQ ?_
  refine aT Tryz.results241 (λ w hw=>?_)
  (exact⟨(),by rw[Au (by omega)];rfl,trivial,hw.aU⟩)
 ·try (exfalso;omega)
  refine aZ ?_;refine Eb ?_;refine J3 ?_;refine aA ?_;refine vF ?_;refine Yd ?_;refine J1 ?_
  refine aT Tryz.results241 (λ w hw=>?_)
  (exact⟨(),by rw[Pm (by omega)];rfl,trivial,hw.aU⟩)
theorem o9(hs:SF w D [(b,mO L cs gen acc pn cn pc cc)] A [] (mW L cs pn cn pc cc) w){k:Nat}(hk:(k:Int)<9223372036854775807)(bO new:Int)(hl:cs.length<=274877906944):Calls Tryz.prog 242 #[.pointer (some ⟨b,0,none⟩),.int .i64 ((k+1:Nat):Int),.int .i64 bO,.int .i64 new] w λ e w'=>∃r:Bool,e=.returned (.bool r)/\(r=true↔kF cs ((k+1:Nat):Int) bO)/\SF w D [(b,mO L (eJ cs ((k+1:Nat):Int) bO new) gen (up acc) pn cn pc cc)] [] [] (mW L (eJ cs ((k+1:Nat):Int) bO new) pn cn pc cc) w':=by
 refine enter Tryz.func242 Tryz.ntmps242 rfl rfl (xP hs) ?_
 simp only[bY]
 refine cQ ?_;refine lR ?_;refine aB (pU rf rf) rfl ?_;refine N0 ?_;refine kK ?_;refine G7 ?_
 (refine aF ?_;refine aA ?_)
 refine yq ?_;refine l8 ?_;refine Iz ?_;refine aA ?_
 (refine eM 28 (λ g28=>?_) (λ g28=>?_)<;>(first|refine aJ ?_|(refine aF ?_;refine aA ?_)))
 all_goals (refine J36 ?_;refine J6 ?_;refine J68 ?_;(first|refine aJ ?_|(refine aF ?_;refine fL ?_));refine Yn ?_;refine Q2 ?_;refine aG ?_)
 all_goals
 refine bE (λ c40=>?_) (λ c40=>?_)
 ·all_goals try (exfalso;omega)
  all_goals refine cQ ?_
  all_goals
   refine aT Tryz.results242 (λ w hw=>?_)
   first|exact⟨false,rfl,jc (by omega),by rw[Uy (by omega)];exact hw.aU⟩|exact⟨false,rfl,Zc (by simpa using c40),by rw[V3 (by simpa using c40)];exact hw.aU⟩ 
 ·try exact nv c40
  all_goals (refine aZ ?_;refine Eb ?_;refine J3 ?_;refine aA ?_;refine vF ?_;refine aA ?_;refine fL ?_;refine J5 ?_;refine cQ ?_)
  all_goals
   refine aT Tryz.results242 (λ w hw=>?_)
   (exact⟨true,rfl,fy (by omega) (by simpa using c40),by rw[U7 (by omega) (by simpa using c40)];simpa[mW,aO,mO] using hw.aU (F':=[])⟩)
theorem pf(hs:SF w D [(b,mO L cs gen acc pn cn pc cc)] A [] (mW L cs pn cn pc cc) w)(c:Int)(hc:c<=9223372036854775807)(hl:cs.length<=274877906944):Calls Tryz.prog 241 #[.pointer (some ⟨b,0,none⟩),.int .i64 c] w λ e w'=>∃q:Unit,e=.returned (.int .i64 (cZ cs c))/\True/\SF w D [(b,mO L cs gen (up acc) pn cn pc cc)] [] [] (mW L cs pn cn pc cc) w':=by
 rcases Int.lt_or_le c 1 with h|h
 ·exact jv hs c h
 ·obtain⟨k,rfl⟩:∃k:Nat,c=((k+1:Nat):Int):=⟨(c-1).toNat,by omega⟩
  exact ak hs (by omega) hl
theorem ya(hs:SF w D [(b,mO L cs gen acc pn cn pc cc)] A [] (mW L cs pn cn pc cc) w)(c bO new:Int)(hc:c<=9223372036854775807)(hl:cs.length<=274877906944):Calls Tryz.prog 242 #[.pointer (some ⟨b,0,none⟩),.int .i64 c,.int .i64 bO,.int .i64 new] w λ e w'=>∃r:Bool,e=.returned (.bool r)/\(r=true↔kF cs c bO)/\SF w D [(b,mO L (eJ cs c bO new) gen (up acc) pn cn pc cc)] [] [] (mW L (eJ cs c bO new) pn cn pc cc) w':=by
 rcases Int.lt_or_le c 1 with h|h
 ·exact ox hs c bO new h
 ·obtain⟨k,rfl⟩:∃k:Nat,c=((k+1:Nat):Int):=⟨(c-1).toNat,by omega⟩
  exact o9 hs (by omega) bO new hl
theorem Lx(hs:SF w D [(b,aO L cs gen acc pn cn pc cc)] A [] (mW L cs pn cn pc cc) w)(c:Int):Calls Tryz.prog 85 #[.pointer (some ⟨b,0,none⟩),.int .i64 c] w λ e w'=>∃q:Unit,e=.returned (.bool (decide (1<=c/\c<=(cs.length:Int))))/\True/\SF w D [(b,aO L cs gen acc pn cn pc cc)] [] [] (mW L cs pn cn pc cc) w':=by
 refine enter Tryz.func85 Tryz.ntmps85 rfl rfl (xN hs) ?_
 simp only[bY]
 refine cQ ?_;refine J2 ?_;refine kR ?_;refine aA ?_
 (refine eM 7 (λ g7=>?_) (λ g7=>?_)<;>(first|refine aJ ?_|(refine aF ?_;refine aA ?_)))
 all_goals ((first|refine aJ ?_|(refine aF ?_;refine aA ?_));(first|refine aJ ?_|(refine aF ?_;refine dF ?_));refine l8 ?_;(first|refine aJ ?_|(refine aF ?_;refine uL ?_));refine cH ?_;refine J1 ?_)
 all_goals
 refine aT Tryz.results85 (λ w hw=>?_)
 first|exact⟨(),by rw[decide_eq_false (show ¬(1<=c/\c<=(cs.length:Int)) by omega)];first|rfl|(rw[decide_eq_false (by omega)];rfl),trivial,hw.aU⟩|exact⟨(),by rw[show decide (1<=c/\c<=(cs.length:Int))=decide (c<=(cs.length:Int)) by simp;omega];rfl,trivial,hw.aU⟩
theorem eu(hs:SF w D [(b,aO L cs gen acc pn cn pc cc)] A [] (mW L cs pn cn pc cc) w)(c:Int)(hc:c<1):Calls Tryz.prog 35 #[.pointer (some ⟨b,0,none⟩),.int .i64 c] w λ e w'=>∃q:Unit,e=.returned (.int .i64 (cZ cs c))/\True/\SF w D [(b,aO L cs gen (up acc) pn cn pc cc)] [] [] (mW L cs pn cn pc cc) w':=by
 refine enter Tryz.func35 Tryz.ntmps35 rfl rfl (xN hs) ?_
 simp only[bY]
 refine cQ ?_;refine lR ?_;refine aB (pU rf rf) rfl ?_;refine N0 ?_;refine Dg ?_;refine aC (cM (hc:=λ w hs=>Lx hs c)) (λ x14 h14=>?_);refine pA ?_
 refine bE (λ c15=>?_) (λ c15=>?_)
 ·try (exfalso;omega)
  refine cQ ?_
  refine aT Tryz.results35 (λ w hw=>?_)
  (exact⟨(),by rw[Au (by omega)];rfl,trivial,hw.aU⟩)
 ·try (exfalso;omega)
theorem sd(hs:SF w D [(b,aO L cs gen acc pn cn pc cc)] A [] (mW L cs pn cn pc cc) w)(c:Int)(bO new:Int)(hc:c<1):Calls Tryz.prog 279 #[.pointer (some ⟨b,0,none⟩),.int .i64 c,.int .i64 bO,.int .i64 new] w λ e w'=>∃r:Bool,e=.returned (.bool r)/\(r=true↔kF cs c bO)/\SF w D [(b,aO L (eJ cs c bO new) gen (up acc) pn cn pc cc)] [] [] (mW L (eJ cs c bO new) pn cn pc cc) w':=by
 refine enter Tryz.func279 Tryz.ntmps279 rfl rfl (xN hs) ?_
 simp only[bY]
 refine cQ ?_;refine lR ?_;refine aB (pU rf rf) rfl ?_;refine N0 ?_;refine Dg ?_;refine aC (cM (hc:=λ w hs=>Lx hs c)) (λ x18 h18=>?_);refine Gh ?_
 (refine eM 20 (λ g20=>?_) (λ g20=>?_)<;>(try (exfalso;omega))<;>(refine aJ ?_))
 (refine aJ ?_);refine J6 ?_;refine J68 ?_;(refine aJ ?_);refine Yn ?_;refine Q2 ?_;refine aG ?_
 refine bE (λ c31=>?_) (λ c31=>?_)
 ·try (exfalso;omega)
  refine cQ ?_
  refine aT Tryz.results279 (λ w hw=>?_)
  (exact⟨false,rfl,fh hc,by rw[Tt hc];exact hw.aU⟩)
 ·exact nv c31
theorem ko(hs:SF w D [(b,aO L cs gen acc pn cn pc cc)] A [] (mW L cs pn cn pc cc) w){k:Nat}(hk:(k:Int)<9223372036854775807)(hl:cs.length<=274877906944):Calls Tryz.prog 35 #[.pointer (some ⟨b,0,none⟩),.int .i64 ((k+1:Nat):Int)] w λ e w'=>∃q:Unit,e=.returned (.int .i64 (cZ cs ((k+1:Nat):Int)))/\True/\SF w D [(b,aO L cs gen (up acc) pn cn pc cc)] [] [] (mW L cs pn cn pc cc) w':=by
 refine enter Tryz.func35 Tryz.ntmps35 rfl rfl (xN hs) ?_
 simp only[bY]
 refine cQ ?_;refine lR ?_;refine aB (pU rf rf) rfl ?_;refine N0 ?_;refine Dg ?_;refine aC (cM (hc:=λ w hs=>Lx hs ((k+1:Nat):Int))) (λ x14 h14=>?_);refine pA ?_
 refine bE (λ c15=>?_) (λ c15=>?_)
 ·try (exfalso;omega)
  refine cQ ?_
  refine aT Tryz.results35 (λ w hw=>?_)
  (exact⟨(),by rw[Au (by omega)];rfl,trivial,hw.aU⟩)
 ·try (exfalso;omega)
  refine tm ?_;refine aA ?_;refine vF ?_;refine Yd ?_;refine J1 ?_
  refine aT Tryz.results35 (λ w hw=>?_)
  (exact⟨(),by rw[Pm (by omega)];rfl,trivial,hw.aU⟩)
theorem qn(hs:SF w D [(b,aO L cs gen acc pn cn pc cc)] A [] (mW L cs pn cn pc cc) w){k:Nat}(hk:(k:Int)<9223372036854775807)(bO new:Int)(hl:cs.length<=274877906944):Calls Tryz.prog 279 #[.pointer (some ⟨b,0,none⟩),.int .i64 ((k+1:Nat):Int),.int .i64 bO,.int .i64 new] w λ e w'=>∃r:Bool,e=.returned (.bool r)/\(r=true↔kF cs ((k+1:Nat):Int) bO)/\SF w D [(b,aO L (eJ cs ((k+1:Nat):Int) bO new) gen (up acc) pn cn pc cc)] [] [] (mW L (eJ cs ((k+1:Nat):Int) bO new) pn cn pc cc) w':=by
 refine enter Tryz.func279 Tryz.ntmps279 rfl rfl (xN hs) ?_
 simp only[bY]
 refine cQ ?_;refine lR ?_;refine aB (pU rf rf) rfl ?_;refine N0 ?_;refine Dg ?_;refine aC (cM (hc:=λ w hs=>Lx hs ((k+1:Nat):Int))) (λ x18 h18=>?_);refine Gh ?_
 (refine eM 20 (λ g20=>?_) (λ g20=>?_)<;>(first|refine aJ ?_|(refine aF ?_;refine aA ?_)))
 all_goals ((first|refine aJ ?_|(refine aF ?_;refine dF ?_));refine J6 ?_;refine J68 ?_;(first|refine aJ ?_|(refine aF ?_;refine fL ?_));refine Yn ?_;refine Q2 ?_;refine aG ?_)
 all_goals
 refine bE (λ c31=>?_) (λ c31=>?_)
 ·all_goals try (exfalso;omega)
  all_goals refine cQ ?_
  all_goals
   refine aT Tryz.results279 (λ w hw=>?_)
   first|exact⟨false,rfl,jc (by omega),by rw[Uy (by omega)];exact hw.aU⟩|exact⟨false,rfl,Zc (by simpa using c31),by rw[V3 (by simpa using c31)];exact hw.aU⟩ 
 ·try exact nv c31
  all_goals (refine tm ?_;refine aA ?_;refine vF ?_;refine aA ?_;refine fL ?_;refine J5 ?_;refine cQ ?_)
  all_goals
   refine aT Tryz.results279 (λ w hw=>?_)
   (exact⟨true,rfl,fy (by omega) (by simpa using c31),by rw[U7 (by omega) (by simpa using c31)];simpa[mW,aO,mO] using hw.aU (F':=[])⟩)
theorem og(hs:SF w D [(b,aO L cs gen acc pn cn pc cc)] A [] (mW L cs pn cn pc cc) w)(c:Int)(hc:c<=9223372036854775807)(hl:cs.length<=274877906944):Calls Tryz.prog 35 #[.pointer (some ⟨b,0,none⟩),.int .i64 c] w λ e w'=>∃q:Unit,e=.returned (.int .i64 (cZ cs c))/\True/\SF w D [(b,aO L cs gen (up acc) pn cn pc cc)] [] [] (mW L cs pn cn pc cc) w':=by
 rcases Int.lt_or_le c 1 with h|h
 ·exact eu hs c h
 ·obtain⟨k,rfl⟩:∃k:Nat,c=((k+1:Nat):Int):=⟨(c-1).toNat,by omega⟩
  exact ko hs (by omega) hl
theorem yc(hs:SF w D [(b,aO L cs gen acc pn cn pc cc)] A [] (mW L cs pn cn pc cc) w)(c bO new:Int)(hc:c<=9223372036854775807)(hl:cs.length<=274877906944):Calls Tryz.prog 279 #[.pointer (some ⟨b,0,none⟩),.int .i64 c,.int .i64 bO,.int .i64 new] w λ e w'=>∃r:Bool,e=.returned (.bool r)/\(r=true↔kF cs c bO)/\SF w D [(b,aO L (eJ cs c bO new) gen (up acc) pn cn pc cc)] [] [] (mW L (eJ cs c bO new) pn cn pc cc) w':=by
 rcases Int.lt_or_le c 1 with h|h
 ·exact sd hs c bO new h
 ·obtain⟨k,rfl⟩:∃k:Nat,c=((k+1:Nat):Int):=⟨(c-1).toNat,by omega⟩
  exact qn hs (by omega) bO new hl
end

end Go.Proofs.YtbajmaoegmbfgaaGreat
