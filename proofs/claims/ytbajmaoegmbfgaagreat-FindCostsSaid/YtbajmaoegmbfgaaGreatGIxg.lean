/- Merged. -/
import Derived.Test.YtbajmaoegmbfgaaGreatLf
import Derived.Test.YtbajmaoegmbfgaaGreatGBr5
import Derived.Test.YtbajmaoegmbfgaaGreatSp1
import Derived.Defers
import Derived.Recover
set_option linter.unusedSimpArgs false
set_option linter.unusedVariables false
namespace Go.Ct
open Go Go.RowKit
section
section
variable{w0 w w':World}{M:List Nat}{H:List (Nat×Obj)}{A F:Fr}{O:List Ow}
variable{P:Program}{S:List (Nat×Value)}{G:World->Prop}{d:Nat}{ty:TypeId}{pos:String}{af:Array Edge}{gd:Option (Nat×Bool)}{x y:Operand}{t t2 e:TypeId}{p a:Option Addr}{i m k c c2 sz:Nat}
variable{α:Type}{g:α->List Value}{z:α}
theorem D2(hg:∀x,(g x).length=sz):∀l:List α,(l.flatMap g).length=sz*l.length
 | []=>by simp
 | x::r=>by have:=D2 hg r;simp only[List.flatMap_cons,List.length_append,List.length_cons,this,hg,Nat.mul_add,Nat.mul_one];omega
theorem Xu(hg:∀x,(g x).length=sz):∀{l:List α} {k j:Nat},k<l.length->j<sz->(l.flatMap g)[sz*k+j]?=(g (l.getD k z))[j]?
 | [],_,_,h,_=>by simp at h
 | n::r,0,j,_,hj=>by
  simp only[List.flatMap_cons,Nat.mul_zero,Nat.zero_add,List.getD_cons_zero]
  rw[List.getElem?_append_left (by rw[hg];exact hj)]
 | n::r,k+1,j,h,hj=>by
  have:=Xu hg (l:=r) (k:=k) (j:=j) (by simpa using h) hj;simp only[List.flatMap_cons,List.getD_cons_succ]
  rw[List.getElem?_append_right (by rw[hg,Nat.mul_add];omega),<- this,hg]
  congr 1
  rw[Nat.mul_add]
  omega
theorem cr{lst:List α}{kk:IntKind}(hg:∀x,(g x).length=sz)(h0:0<sz)(hx:ev S x=.slice a m c)(hy:ev S y=.int kk ((k:Nat):Int))(ht:P.underlying t=some (.slice e))(hs:jO P e sz=true)(hf:rO A F O a (lst.flatMap g))(h1:k<m)(h2:k<lst.length) :
  aL P S (SF w0 M H A F O) ⟨some d,.indexAddr t x y,ty,pos,af,gd⟩ (.pointer (some ⟨dE a,eH a+sz*k,none⟩)):=⟨λ w hw=>by
 obtain⟨_,_,_,hsz⟩:=iG hs;have ha:=(hw.cl hf).ptr (by rw[D2 hg];exact Nat.mul_pos h0 (by omega));have:=yE (P:=P) (a:=a) (m:=m) (c:=c) (k:=kk) ht hsz ha (i:=(k:Int)) (by omega) (by omega) w;simp only[Int.toNat_natCast,Nat.mul_comm k sz] at this
 simp[execOp,hx,hy,this]⟩
theorem m9{lst:List α}{q j:Nat}{v:Value}(z:α)(hg:∀x,(g x).length=sz)(hx:ev S x=.pointer (some ⟨dE a,eH a+sz*q+j,none⟩))(ht:one P t=true)(hj:j<sz)(hv:(g (lst.getD q z))[j]?=some v)(hf:rO A F O a (lst.flatMap g))(hq:q<lst.length) :
  aL P S (SF w0 M H A F O) ⟨some d,.load t x,ty,pos,af,gd⟩ v:=nZ (q:=sz*q+j) (by rw[hx];simp only[Nat.add_assoc]) ht (λ w hw=>hw.cl hf) (by rw[Xu (z:=z) hg hq hj];exact hv)
end
end
section
end
end Go.Ct
namespace Go.Proofs.YtbajmaoegmbfgaaGreat
open Go.RowKit Go.Ct
section
section
variable{w:World}{D:List Nat}{b:Nat}{L:List aR}{cs:List Int}{gen acc:Int}{pn pc:Option Addr}{cn cc:Nat}{A:Fr}
end
end
end Go.Proofs.YtbajmaoegmbfgaaGreat
namespace Go.Ct
open Go Go.RowKit
section
section
variable{P:Program}{S:List (Nat×Value)}{G:World->Prop}{d:Nat}{ty t t2:TypeId}{pos:String}{af:Array Edge}{gd:Option (Nat×Bool)}{x y:Operand}{dst:Option Nat}{v:Value}
theorem Xh{f:FuncId}{xs:List Operand}{at_:Array TypeId}{vs:List Value}{t:TypeId}{pv:Value}{name:String}(hx:ev S x=.iface t pv)(ha:rF S xs=vs)(hm:∀w,(callMethod (.iface t pv) name ⟨vs⟩).run P w=.ok (.enter f ⟨pv::vs⟩) w)(w:World) :
  (execOp (ev S) ⟨dst,.call {callee:=.invoke x name,args:=⟨xs⟩,argTypes:=at_},ty,pos,af,gd⟩).run P w=.ok (.enter f ⟨pv::vs⟩) w:=by
 subst ha;have hm':(xs.map (ev S)).toArray=⟨rF S xs⟩:=by rw[A3]
 have:=hm w;simp only[execOp,resolve,hx];simp[invoke,hm',this]
theorem o6(hx:ev S x=v)(h:∀w,(Instr.makeInterface t v).run P w=.ok (.iface t v) w):aL P S G ⟨some d,.makeInterface t x,ty,pos,af,gd⟩ (.iface t v):=⟨λ w _=>by simp[execOp,hx,h w]⟩
theorem Pf{b off:Nat}(hx:ev S x=.iface t (.pointer (some ⟨b,off,none⟩))):aL P S G ⟨some d,.nilCheck x,ty,pos,af,gd⟩ (.iface t (.pointer (some ⟨b,off,none⟩))):=⟨λ w _=>by simp[execOp,hx]⟩
end
end
end Go.Ct
namespace Go.Proofs.YtbajmaoegmbfgaaGreat
open Go.Proofs.Tryz
open Go Go.RowKit Go.Ct
section
theorem pj(p:Option Addr)(a:Value)(w:World):(callMethod (.iface 42 (.pointer p)) "Node" #[a]).run prog w=.ok (.enter 36 #[.pointer p,a]) w:=by kernel_rfl
theorem Z6(p:Option Addr)(a b:Value)(w:World):(callMethod (.iface 42 (.pointer p)) "Alloc" #[a,b]).run prog w=.ok (.enter 29 #[.pointer p,a,b]) w:=by kernel_rfl
theorem Cm(p:Option Addr)(w:World):(Instr.makeInterface 42 (.pointer p)).run prog w=.ok (.iface 42 (.pointer p)) w:=by kernel_rfl
section
variable{S:List (Nat×Value)}{w0 w:World}{M:List Nat}{H:List (Nat×Obj)}{A F:Fr}{O:List Ow}{ty:TypeId}{pos:String}{af:Array Edge}{gd:Option (Nat×Bool)}{X:Type}{V:X->Value}
variable{hs H':List (Nat×Obj)}{os O':List Ow}{A0:Fr}{is js:List Nat}{f:FuncId}{recv:Operand}{t:TypeId}{pv:Value}{name:String}{xs:List Operand}{at_:Array TypeId}{vs:List Value}{dst:Option Nat}
theorem cMI{φ:X->Prop}{hs' H1:X->List (Nat×Obj)}{os' O1:X->List Ow}{Fc F1:X->Fr}(hx:ev S recv=.iface t pv:=by(conv=>{lhs;whnf}))(ha:rF S xs=vs:=by(repeat (first|exact cN _|(apply cA;focus ((conv=>{lhs;whnf});try exact rfl))));first|done|fail)(hm:∀w,(callMethod (.iface t pv) name ⟨vs⟩).run prog w=.ok (.enter f ⟨pv::vs⟩) w)(hc:∀w,SF w (Ks hs os) hs A0 [] os w->Calls prog f ⟨pv::vs⟩ w λ e w'=>∃x,e=.returned (V x)/\φ x/\SF w (Ks hs os) (hs' x) [] (Fc x) (os' x) w')(hH:oG H is hs H':=by(repeat (first|exact oG.nil|(apply oG.cons;(focus ((repeat (first|exact B8.head|apply B8.tail));done));simp only[sS])));first|done|fail)(hO:oG O js os O':=by(repeat (first|exact oG.nil|(apply oG.cons;(focus ((repeat (first|exact B8.head|apply B8.tail));done));simp only[sS])));first|done|fail)(hA:bG A F O' A0:=by(repeat (first|exact bG.of (λ _ h=>Or.inr (Or.inl h))|exact bG.nil|(refine bG.cons (by first|exact Or.inl rfl|exact Or.inr (Or.inr (Or.inl (by simp)))|exact Or.inr (Or.inl (by simp))|exact Or.inr (Or.inr (Or.inr (by simp)))) ?_)));first|done|fail)(hl1:∀x,is.length=(hs' x).length:=by intro x;exact rfl)(hl2:∀x,js.length=(os' x).length:=by intro x;exact rfl)(hH1:∀x,kG is (hs' x) H'=H1 x:=by intro x;first|(simp only[kG,uE];exact rfl)|exact rfl)(hF1:∀x,Fc x++F=F1 x:=by intro x;first|(simp only[List.nil_append,List.cons_append];exact rfl)|exact rfl)(hO1:∀x,kG js (os' x) O'=O1 x:=by intro x;simp only[kG,uE,mW];exact rfl) :
  bE prog S (SF w0 M H A F O) ⟨dst,.call {callee:=.invoke recv name,args:=⟨xs⟩,argTypes:=at_},ty,pos,af,gd⟩ X V (λ x w=>φ x/\SF w0 M (H1 x) A (F1 x) (O1 x) w) :=
 iE (Xh hx ha hm) λ w hw=>(hc w (hw.sX hH hO hA)).mono λ _ _ ⟨x,he,hx,hs⟩=>⟨x,he,hx,by have:=hw.Bq (hs':=hs' x) (Hc:=[]) (os':=os' x) (Oc:=[]) hH hO (by simpa using hs) (hl1 x) (hl2 x);rw[<- hH1 x,<- hF1 x,<- hO1 x];simpa using this⟩
theorem aD5{φ:X->Prop}{hs' H1:X->List (Nat×Obj)}{os' Oc O1:X->List Ow}{Fc F1:X->Fr}(hx:ev S recv=.iface t pv:=by(conv=>{lhs;whnf}))(ha:rF S xs=vs:=by(repeat (first|exact cN _|(apply cA;focus ((conv=>{lhs;whnf});try exact rfl))));first|done|fail)(hm:∀w,(callMethod (.iface t pv) name ⟨vs⟩).run prog w=.ok (.enter f ⟨pv::vs⟩) w)(hc:∀w,SF w (Ks hs os) hs A0 [] os w->Calls prog f ⟨pv::vs⟩ w λ e w'=>∃x,e=.returned (V x)/\φ x/\SF w (Ks hs os) (hs' x) [] (Fc x) (os' x++Oc x) w')(hH:oG H is hs H':=by(repeat (first|exact oG.nil|(apply oG.cons;(focus ((repeat (first|exact B8.head|apply B8.tail));done));simp only[sS])));first|done|fail)(hO:oG O js os O':=by(repeat (first|exact oG.nil|(apply oG.cons;(focus ((repeat (first|exact B8.head|apply B8.tail));done));simp only[sS])));first|done|fail)(hA:bG A F O' A0:=by(repeat (first|exact bG.of (λ _ h=>Or.inr (Or.inl h))|exact bG.nil|(refine bG.cons (by first|exact Or.inl rfl|exact Or.inr (Or.inr (Or.inl (by simp)))|exact Or.inr (Or.inl (by simp))|exact Or.inr (Or.inr (Or.inr (by simp)))) ?_)));first|done|fail)(hl1:∀x,is.length=(hs' x).length:=by intro x;exact rfl)(hl2:∀x,js.length=(os' x).length:=by intro x;exact rfl)(hH1:∀x,kG is (hs' x) H'=H1 x:=by intro x;first|(simp only[kG,uE];exact rfl)|exact rfl)(hF1:∀x,Fc x++F=F1 x:=by intro x;first|(simp only[List.nil_append,List.cons_append];exact rfl)|exact rfl)(hO1:∀x,Oc x++kG js (os' x) O'=O1 x:=by intro x;simp only[kG,uE,mW,List.nil_append,List.cons_append];exact rfl) :
  bE prog S (SF w0 M H A F O) ⟨dst,.call {callee:=.invoke recv name,args:=⟨xs⟩,argTypes:=at_},ty,pos,af,gd⟩ X V (λ x w=>φ x/\SF w0 M (H1 x) A (F1 x) (O1 x) w) :=
 iE (Xh hx ha hm) λ w hw=>(hc w (hw.sX hH hO hA)).mono λ _ _ ⟨x,he,hx,hs⟩=>⟨x,he,hx,by have:=hw.Bq (hs':=hs' x) (Hc:=[]) (os':=os' x) (Oc:=Oc x) hH hO (by simpa using hs) (hl1 x) (hl2 x);rw[<- hH1 x,<- hF1 x,<- hO1 x];simpa using this⟩
end
end
end Go.Proofs.YtbajmaoegmbfgaaGreat
namespace Go.Ct
open Go Go.RowKit
section
structure KD(P:Program)(n:Nat)(ds:List Deferred)(Q:Exit->Act->World->Prop)(ks:List CK)(S:List (Nat×Value))(G:World->Prop):Prop where
 run:Ep n S->∀w,G w->runK P Q ks .normal ⟨eA n S,ds⟩ w
structure LD(P:Program)(n:Nat)(ds:List Deferred)(Q:Exit->Act->World->Prop)(ks:List CK)(ops:Array Oper)(l:List Oper)(S:List (Nat×Value))(G:World->Prop):Prop where
 run:Ep n S->∀w,G w->wpList P ops (runK P Q ks) l ⟨eA n S,ds⟩ w
section
variable{P:Program}{n:Nat}{ds:List Deferred}{Q:Exit->Act->World->Prop}{ks:List CK}{S:List (Nat×Value)}{G:World->Prop}{ops:Array Oper}{l:List Oper}
variable{x y:Code}{t:Bool}{d j g:Nat}{op:Op}{ty:TypeId}{pos:String}{af:Array Edge}{X:Type}{f:FuncId}
theorem gF(h:KD P n ds Q (.code x::.code y::ks) S G):KD P n ds Q (.code (.seq x y)::ks) S G:=⟨λ hS w hw=>by have:=h.run hS w hw;simp only[runK] at this ⊢;rw[Ki] at this;exact wp_seq this⟩
theorem Fs(h:KD P n ds Q ks S G):KD P n ds Q (.code .skip::ks) S G:=⟨λ hS w hw=>wp_skip (h.run hS w hw)⟩
theorem Ln{c:Operand}(ht:t=true->KD P n ds Q (.code x::ks) S G)(hf:t=false->KD P n ds Q (.code y::ks) S G)(hc:ev S c=.bool t:=by exact rfl):KD P n ds Q (.code (.cond c x y)::ks) S G:=⟨λ hS w hw =>
 wp_cond_split (by rw[jK hS];exact hc) (λ h=>(ht h).run hS w hw) (λ h=>(hf h).run hS w hw)⟩
theorem dZ{id:Nat}{l:List Oper}(h:LD P n ds Q ks l.toArray l S G):KD P n ds Q (.code (.region id l.toArray false)::ks) S G :=⟨λ hS w hw=>wp_region_lit (h.run hS w hw)⟩
theorem we{φ:Prop}(h:φ->LD P n ds Q ks ops l S G):LD P n ds Q ks ops l S (λ w=>φ/\G w):=⟨λ hS w hw=>(h hw.1).run hS w hw.2⟩
theorem iT(h:KD P n ds Q ks S G):LD P n ds Q ks ops [] S G:=⟨h.run⟩
theorem aA1(h:Ep n S->∀w,G w->Q .ret ⟨eA n S,ds⟩ w):KD P n ds Q (.code .ret::ks) S G:=⟨λ hS w hw=>wp_ret (xC (h hS w hw))⟩
theorem gX{v:Value}(hrun:aL P S G ⟨some d,op,ty,pos,af,none⟩ v)(hd:Nat.blt d n=true)(h:LD P n ds Q ks ops l ((d,v)::S) G):LD P n ds Q ks ops (⟨some d,op,ty,pos,af,none⟩::l) S G:=⟨λ hS w hw =>
 wpList_plain rfl λ K hK=>by unfold Oper.wp;rw[jK hS,hrun.run w hw];simp only[Oper.upon,Cn];exact hK _ _ (h.run (hS.cons hd) w hw)⟩
theorem Ft{V:X->Value}{G':X->World->Prop}(hrun:bE P S G ⟨some d,op,ty,pos,af,none⟩ X V G')(hd:Nat.blt d n=true)(h:∀x,LD P n ds Q ks ops l ((d,V x)::S) (G' x)):LD P n ds Q ks ops (⟨some d,op,ty,pos,af,none⟩::l) S G:=⟨λ hS w hw =>
 wpList_plain rfl λ K hK=>by unfold Oper.wp;rw[jK hS];refine(hrun.run w hw).upon λ x w' hg=>?_;rw[Cn];exact hK _ _ ((h x).run (hS.cons hd) w' hg)⟩
theorem Sj{V:X->Value}{G':X->World->Prop}(hrun:bE P S G ⟨none,op,ty,pos,af,none⟩ X V G')(h:∀x,LD P n ds Q ks ops l S (G' x)):LD P n ds Q ks ops (⟨none,op,ty,pos,af,none⟩::l) S G:=⟨λ hS w hw =>
 wpList_plain rfl λ K hK=>by unfold Oper.wp;rw[jK hS];exact(hrun.run w hw).upon λ x w' hg=>hK _ _ ((h x).run hS w' hg)⟩
theorem T7{n:Nat}{S:List (Nat×Value)}{ops:Array Oper}(hS:Ep n S)(hj:(ops[j]?).bind (·.dst)=some g)(hg:look S g=.bool t):yielded ops (eA n S) j=some t:=by
 have e:=congrFun (jK (ds:=[]) hS) (.tmp g);simp only[Act.eval,ev,hg] at e;unfold yielded;rw[hj];simp only[Option.bind_some];rw[Array.getD_eq_getD_getElem?] at e;cases h2:(eA n S)[g]? with
 | none=>rw[h2] at e;simp[undef] at e
 | some u=>rw[h2] at e;simp at e;subst e;rfl
theorem Yw{want:Bool}(hj:(ops[j]?).bind (·.dst)=some g)(hg:look S g=.bool want)(h:LD P n ds Q ks ops (⟨some d,op,ty,pos,af,none⟩::l) S G):LD P n ds Q ks ops (⟨some d,op,ty,pos,af,some (j,want)⟩::l) S G:=⟨λ hS w hw=>by
 have hy:=T7 hS hj hg;have:=h.run hS w hw;unfold wpList at this ⊢;rw[if_pos (by simp[Region.wanted])] at this;rw[if_pos (by simp[Region.wanted,hy])]
 exact this⟩
theorem Hw{x:Operand}{cap:Array Value}(hx:ev S x=.func (.func f) #[] cap)(h:LD P n (⟨.fn (.func f) cap,#[]⟩::ds) Q ks ops l S G):LD P n ds Q ks ops (⟨none,.defer {callee:=.value x,args:=⟨[]⟩,argTypes:=⟨[]⟩},ty,pos,af,none⟩::l) S G:=⟨λ hS w hw =>
 wpList_plain rfl λ K hK=>by
  unfold Oper.wp;rw[jK hS];have hr:(execOp (ev S) ⟨none,.defer {callee:=.value x,args:=⟨[]⟩,argTypes:=⟨[]⟩},ty,pos,af,none⟩).run P w=.ok (.defer ⟨.fn (.func f) cap,#[]⟩) w:=by simp[execOp,resolve,hx,Deferred.ofValue]
  rw[hr];exact hK _ _ (h.run hS w hw)⟩
theorem T5{P:Program}{fn:Func}{c:Code}{args:Array Value}{w:World}{R:Ending->World->Prop}{n:Nat}{G:World->Prop}(hf:P.funcs[f]?=some fn)(hn:fn.ntmps=n)(hb:fn.body=some c)(hlen:Nat.ble args.size n=true)(hG:G w)(h:KD P n [] (bodyPostD P fn R) [.code c] (cC 0 args.toList) G):Calls P f args w R:=by subst hn;have hl:args.size<=fn.ntmps:=Nat.le_of_ble_eq_true hlen;refine calls_of_wp_defers hf hb ?_;rw[Q7 _ _ hl];exact h.run (N9 _ _ _ (by simpa using hl)) w hG
def Idle(P:Program)(g:FuncId)(cap:Array Value):Prop:=∀w,CallsD P g cap .returning w λ e u' w'=>e=.returned (.tuple #[])/\u'=.returning/\w'=w
variable{w0:World}{M:List Nat}{H:List (Nat×Obj)}{A F:Fr}{O:List Ow}
theorem Hz{fn:Func}{R:Ending->World->Prop}{rs:List ResultVar}{vs:List Value}{g:FuncId}{cap:Array Value}(hi:Idle P g cap)(hp:plain P g=true)(hr:fn.results=⟨rs⟩)(hv:kR P S H rs vs)(h:∀w,SF w0 M H A F O w->R (.returned (rU vs)) w) :
  KD P n [⟨.fn (.func g) cap,#[]⟩] (bodyPostD P fn R) (.code .ret::ks) S (SF w0 M H A F O) :=
 aA1 λ hS w hw=>by
  refine leaves_cons (f:=g) (args:=cap) (by simp) (by simp[invoke,qF hp]) ?_;refine(hi w).mono ?_;rintro e u' w' ⟨rfl,rfl,rfl⟩;exact⟨_,N3 hS hw.st hr hv,h _ hw⟩
variable{d:Nat}{ty t:TypeId}{pos:String}{af:Array Edge}{gd:Option (Nat×Bool)}{dst:Option Nat}{x y:Operand}{v:Value}{w w':World}
variable{fn:Fn}{vs:List Value}{b i:Nat}{t':TypeId}
theorem cE{cap:List Operand}(hc:rF S cap=vs:=by(repeat (first|exact cN _|(apply cA;focus ((conv=>{lhs;whnf});try exact rfl))));done):aL P S G ⟨some d,.makeFunc fn ⟨[]⟩ ⟨cap⟩,ty,pos,af,gd⟩ (.func fn #[] ⟨vs⟩):=⟨λ w _=>by
 subst hc;have hm:(cap.map (ev S)).toArray=⟨rF S cap⟩:=by rw[A3]
 simp only[execOp,List.map_toArray,List.map_nil,hm];rfl⟩
theorem L6{a b:Array Value}(hx:ev S x=.func fn a b)(hy:ev S y=.nilFunc)(h:∀w,(binOp .eql t (.func fn a b) .nilFunc).run P w=.ok (.bool false) w):aL P S G ⟨some d,.binOp .eql t x y t',ty,pos,af,gd⟩ (.bool false):=⟨λ w _=>by simp[execOp,hx,hy,h w,eqGuard]⟩
theorem Xo{pv:Value}{t2:TypeId}(hx:ev S x=.iface t2 pv)(hy:ev S y=.nilIface)(h:∀w,(binOp .neq t (.iface t2 pv) .nilIface).run P w=.ok (.bool true) w):aL P S G ⟨some d,.binOp .neq t x y t',ty,pos,af,gd⟩ (.bool true):=⟨λ w _=>by simp[execOp,hx,hy,h w,eqGuard]⟩
theorem yz{f:FuncId}{cap:List Value}{os:List Operand}{at_:Array TypeId}(hx:ev S x=.func (.func f) #[] ⟨cap⟩)(hp:plain P f=true)(ha:rF S os=vs)(w:World) :
  (execOp (ev S) ⟨dst,.call {callee:=.value x,args:=⟨os⟩,argTypes:=at_},ty,pos,af,gd⟩).run P w=.ok (.enter f ⟨vs++cap⟩) w:=by
 subst ha;have hm:(os.map (ev S)).toArray=⟨rF S os⟩:=by rw[A3]
 simp[execOp,resolve,hx,Deferred.ofValue,invoke,qF hp,hm]
theorem O7{α:Type}:∀(l:List α) (i:Nat),(sS l i).Sublist l
 | [],_=>List.Sublist.refl _
 | _::_,0=>List.sublist_cons_self ..
 | _::r,i+1=>(O7 r i).cons_cons _
theorem At.perm{H:List (Nat×Obj)}{o:Obj}(h:At H i b o):H.Perm ((b,o)::sS H i):=by
 induction h with
 | head=>exact List.Perm.refl _
 | tail _ ih=>exact(ih.cons _).trans (List.Perm.swap _ _ _)
theorem SF.dB(h:SF w0 M H A F O w){cs:List Value}{T:TypeId}(ha:At H i b (.cells ⟨cs⟩ T (0,0))):SF w0 M (sS H i) A ((some ⟨b,0,none⟩,cs)::F) O w:=by
 have hp:=h.perm ha.perm.symm (List.Perm.refl _);have hs:(Ks (sS H i) O).Sublist (Ks ((b,.cells ⟨cs⟩ T (0,0))::sS H i) O):=by unfold Ks;exact((List.sublist_cons_self ..).map _).append (List.Sublist.refl _)
 have hd:=hp.dis;have hb:b∉Ks (sS H i) O:=by unfold Ks at hd ⊢;simp only[List.map_cons,List.cons_append,List.nodup_cons] at hd;exact hd.1
 refine⟨h.st.sub (O7 H i),λ f hf=>⟨(hp.bR f hf).1,λ hc hm=>(hp.bR f hf).2 hc (hs.subset hm)⟩,λ f hf=>?_,h.own,hp.dis.sublist hs⟩;rcases List.mem_cons.1 hf with rfl|hf;·refine⟨Cl.block (pre:=[]) (rest:=[]) (T:=T) (fr:=(0,0)) (by simpa using h.st.at ha) rfl,λ _=>⟨hb,?_⟩⟩;exact(h.st.new _ ha.mem).symm
 ·exact⟨(h.new f hf).1,λ hc=>⟨λ hm=>((hp.new f hf).2 hc).1 (hs.subset hm),((h.new f hf).2 hc).2⟩⟩
end
end
end Go.Ct
