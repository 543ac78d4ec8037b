/- Merged. -/
import Derived.Test.YtbajmaoegmbfgaaGreatLf
import Derived.Test.YtbajmaoegmbfgaaGreatGBr2
import Derived.Test.YtbajmaoegmbfgaaGreatSp1
import Derived.Defers
import Derived.Recover
import Derived.Test.YtbajmaoegmbfgaaGreatGJoin
set_option linter.unusedSimpArgs false
set_option linter.unusedVariables false
namespace Go.Ct
open Go Go.RowKit
section
section
variable{w0 w w':World}{M:List Nat}{H:List (Nat×Obj)}{A F:Fr}{O:List Ow}
variable{P:Program}{S:List (Nat×Value)}{G:World->Prop}{d:Nat}{ty:TypeId}{pos:String}{af:Array Edge}{gd:Option (Nat×Bool)}{x y:Operand}{t t2 e:TypeId}{p a:Option Addr}{i m k c c2 sz:Nat}
variable{α:Type}{g:α->List Value}{z:α}
theorem Dw(hg:∀x,(g x).length=sz):∀l:List α,(l.flatMap g).length=sz*l.length
 | []=>by simp
 | x::r=>by
  have:=Dw hg r
  simp only[List.flatMap_cons,List.length_append,List.length_cons,this,hg,Nat.mul_add,Nat.mul_one]
  omega
theorem Vy(hg:∀x,(g x).length=sz):∀{l:List α} {k j:Nat},k<l.length->j<sz->(l.flatMap g)[sz*k+j]?=(g (l.getD k z))[j]?
 | [],_,_,h,_=>by simp at h
 | n::r,0,j,_,hj=>by
  simp only[List.flatMap_cons,Nat.mul_zero,Nat.zero_add,List.getD_cons_zero]
  rw[List.getElem?_append_left (by rw[hg];exact hj)]
 | n::r,k+1,j,h,hj=>by
  have:=Vy hg (l:=r) (k:=k) (j:=j) (by simpa using h) hj
  simp only[List.flatMap_cons,List.getD_cons_succ]
  rw[List.getElem?_append_right (by rw[hg,Nat.mul_add];omega),<- this,hg]
  congr 1
  rw[Nat.mul_add]
  omega
theorem a9{lst:List α}{kk:IntKind}(hg:∀x,(g x).length=sz)(h0:0<sz)(hx:ev S x=.slice a m c)(hy:ev S y=.int kk ((k:Nat):Int))(ht:P.underlying t=some (.slice e))(hs:jR P e sz=true)(hf:pY A F O a (lst.flatMap g))(h1:k<m)(h2:k<lst.length) :
  aM P S (SF w0 M H A F O) ⟨some d,.indexAddr t x y,ty,pos,af,gd⟩ (.pointer (some ⟨cO a,eF a+sz*k,none⟩)):=⟨λ w hw=>by
 obtain⟨_,_,_,hsz⟩:=iA hs
 have ha:=(hw.cl hf).ptr (by rw[Dw hg];exact Nat.mul_pos h0 (by omega))
 have:=yA (P:=P) (a:=a) (m:=m) (c:=c) (k:=kk) ht hsz ha (i:=(k:Int)) (by omega) (by omega) w
 simp only[Int.toNat_natCast,Nat.mul_comm k sz] at this
 simp[execOp,hx,hy,this]⟩
theorem sq{lst:List α}{q:Nat}(z:α)(hg:∀x,(g x).length=sz)(hx:ev S x=.pointer (some ⟨cO a,eF a+sz*q,none⟩))(ht:jR P t sz=true)(hf:pY A F O a (lst.flatMap g))(hq:q<lst.length) :
  aM P S (SF w0 M H A F O) ⟨some d,.load t x,ty,pos,af,gd⟩ (.agg ⟨g (lst.getD q z)⟩):=⟨λ w hw=>by
 have hcl:=hw.cl hf
 obtain⟨dd,hu,hm,hi⟩:=iA ht
 have hagg:(isAgg t).run P w=.ok true w:=by
  unfold isAgg
  rw[Sem.run_bind,run_underlying hu w]
  cases dd<;>simp_all
 have hl:(loadCells ⟨cO a,eF a+sz*q,none⟩ sz).run P w=.ok ⟨g (lst.getD q z)⟩ w:=by
  have:=run_loadCells_list (P:=P) w ⟨cO a,eF a+sz*q,none⟩ (g (lst.getD q z)) (λ j u hz=>by
   have hj:j<sz:=by rw[<- hg (lst.getD q z)];exact(List.getElem?_eq_some_iff.1 hz).1
   rw[Addr.add_lit]
   have h3:=(hcl.at_ (sz*q+j) u (by rw[Vy hg hq hj];exact hz)).2
   rwa [<- Nat.add_assoc] at h3)
  rwa [hg] at this
 cases hq':P.info? t with
 | none=>rw[hq'] at hi;simp at hi
 | some i =>
  have hs:i.size=sz:=by rw[hq'] at hi;simpa using hi
  simp[execOp,hx,Instr.loadAt,Instr.sureAddr,loadVar,hagg,Go.sizeOf,typeInfo,hq',hs,hl]⟩
end
end
section
end
end Go.Ct
namespace Go.Proofs.YtbajmaoegmbfgaaGreat
open Go.RowKit Go.Ct
section
section
variable{w:World}{D:List Nat}{b:Nat}{L:List aQ}{cs:List Int}{gen acc:Int}{pn pc:Option Addr}{cn cc:Nat}{A:Fr}
end
end
end Go.Proofs.YtbajmaoegmbfgaaGreat
namespace Go.Ct
open Go Go.RowKit
section
section
variable{P:Program}{S:List (Nat×Value)}{G:World->Prop}{d:Nat}{ty t t2:TypeId}{pos:String}{af:Array Edge}{gd:Option (Nat×Bool)}{x y:Operand}{dst:Option Nat}{v:Value}
theorem U9{f:FuncId}{xs:List Operand}{at_:Array TypeId}{vs:List Value}{t:TypeId}{pv:Value}{name:String}(hx:ev S x=.iface t pv)(ha:rP S xs=vs)(hm:∀w,(callMethod (.iface t pv) name ⟨vs⟩).run P w=.ok (.enter f ⟨pv::vs⟩) w)(w:World) :
  (execOp (ev S) ⟨dst,.call {callee:=.invoke x name,args:=⟨xs⟩,argTypes:=at_},ty,pos,af,gd⟩).run P w=.ok (.enter f ⟨pv::vs⟩) w:=by
 subst ha
 have hm':(xs.map (ev S)).toArray=⟨rP S xs⟩:=by rw[Eo]
 have:=hm w
 simp only[execOp,resolve,hx]
 simp[invoke,hm',this]
theorem Wg(hx:ev S x=v)(h:∀w,(Instr.makeInterface t v).run P w=.ok (.iface t v) w):aM P S G ⟨some d,.makeInterface t x,ty,pos,af,gd⟩ (.iface t v):=⟨λ w _=>by
 simp[execOp,hx,h w]⟩
theorem P7{b off:Nat}(hx:ev S x=.iface t (.pointer (some ⟨b,off,none⟩))):aM P S G ⟨some d,.nilCheck x,ty,pos,af,gd⟩ (.iface t (.pointer (some ⟨b,off,none⟩))):=⟨λ w _=>by
 simp[execOp,hx]⟩
end
end
end Go.Ct
namespace Go.Proofs.YtbajmaoegmbfgaaGreat
open Go.Proofs.Tryz (prog)
open Go Go.RowKit Go.Ct
section
theorem kv(p:Option Addr)(a:Value)(w:World):(callMethod (.iface 42 (.pointer p)) "Node" #[a]).run prog w=.ok (.enter 36 #[.pointer p,a]) w:=by kernel_rfl
theorem Yb(p:Option Addr)(a b:Value)(w:World):(callMethod (.iface 42 (.pointer p)) "Alloc" #[a,b]).run prog w=.ok (.enter 29 #[.pointer p,a,b]) w:=by kernel_rfl
theorem xZ(p:Option Addr)(w:World):(Instr.makeInterface 42 (.pointer p)).run prog w=.ok (.iface 42 (.pointer p)) w:=by kernel_rfl
section
variable{S:List (Nat×Value)}{w0 w:World}{M:List Nat}{H:List (Nat×Obj)}{A F:Fr}{O:List Ow}{ty:TypeId}{pos:String}{af:Array Edge}{gd:Option (Nat×Bool)}{X:Type}{V:X->Value}
theorem cMI{φ:X->Prop}{hs H':List (Nat×Obj)}{os O':List Ow}{hs' H1:X->List (Nat×Obj)}{os' O1:X->List Ow}{Fc F1:X->Fr}{A0:Fr}{is js:List Nat}{f:FuncId}{recv:Operand}{t:TypeId}{pv:Value}{name:String}{xs:List Operand}{at_:Array TypeId}{vs:List Value}{dst:Option Nat}
  (hx:ev S recv=.iface t pv:=by(conv=>{lhs;whnf}))
  (ha:rP S xs=vs:=by(repeat (first|exact dF _|(apply cL;focus ((conv=>{lhs;whnf});try exact rfl))));first|done|fail) (hm:∀w,(callMethod (.iface t pv) name ⟨vs⟩).run prog w=.ok (.enter f ⟨pv::vs⟩) w)
  (hc:∀w,SF w (Ks hs os) hs A0 [] os w->Calls prog f ⟨pv::vs⟩ w λ e w'=>∃x,e=.returned (V x)/\φ x/\SF w (Ks hs os) (hs' x) [] (Fc x) (os' x) w')
  (hH:nZ H is hs H':=by(repeat (first|exact nZ.nil|(apply nZ.cons;(focus ((repeat (first|exact Bk.head|apply Bk.tail));done));simp only[sP])));first|done|fail)
  (hO:nZ O js os O':=by(repeat (first|exact nZ.nil|(apply nZ.cons;(focus ((repeat (first|exact Bk.head|apply Bk.tail));done));simp only[sP])));first|done|fail)
  (hA:bH A F O' A0:=by(repeat (first|exact bH.of (λ _ h=>Or.inr (Or.inl h))|exact bH.nil|(refine bH.cons (by first|exact Or.inl rfl|exact Or.inr (Or.inr (Or.inl (by simp)))|exact Or.inr (Or.inl (by simp))|exact Or.inr (Or.inr (Or.inr (by simp)))) ?_)));first|done|fail)
  (hl1:∀x,is.length=(hs' x).length:=by intro x;exact rfl) (hl2:∀x,js.length=(os' x).length:=by intro x;exact rfl)
  (hH1:∀x,jX is (hs' x) H'=H1 x:=by intro x;first|(simp only[jX,tR];exact rfl)|exact rfl) (hF1:∀x,Fc x++F=F1 x:=by intro x;first|(simp only[List.nil_append,List.cons_append];exact rfl)|exact rfl) (hO1:∀x,jX js (os' x) O'=O1 x:=by intro x;simp only[jX,tR,mW];exact rfl) :
  bG prog S (SF w0 M H A F O) ⟨dst,.call {callee:=.invoke recv name,args:=⟨xs⟩,argTypes:=at_},ty,pos,af,gd⟩ X V (λ x w=>φ x/\SF w0 M (H1 x) A (F1 x) (O1 x) w) :=
 iQ (U9 hx ha hm) λ w hw=>(hc w (hw.sV hH hO hA)).mono λ _ _ ⟨x,he,hx,hs⟩=>⟨x,he,hx,by
  have:=hw.Bc (hs':=hs' x) (Hc:=[]) (os':=os' x) (Oc:=[]) hH hO (by simpa using hs) (hl1 x) (hl2 x)
  rw[<- hH1 x,<- hF1 x,<- hO1 x]
  simpa using this⟩
theorem aCC{φ:X->Prop}{hs H':List (Nat×Obj)}{os O':List Ow}{hs' H1:X->List (Nat×Obj)}{os' Oc O1:X->List Ow}{Fc F1:X->Fr}{A0:Fr}{is js:List Nat}{f:FuncId}{recv:Operand}{t:TypeId}{pv:Value}{name:String}{xs:List Operand}{at_:Array TypeId}{vs:List Value}{dst:Option Nat}
  (hx:ev S recv=.iface t pv:=by(conv=>{lhs;whnf}))
  (ha:rP S xs=vs:=by(repeat (first|exact dF _|(apply cL;focus ((conv=>{lhs;whnf});try exact rfl))));first|done|fail) (hm:∀w,(callMethod (.iface t pv) name ⟨vs⟩).run prog w=.ok (.enter f ⟨pv::vs⟩) w)
  (hc:∀w,SF w (Ks hs os) hs A0 [] os w->Calls prog f ⟨pv::vs⟩ w λ e w'=>∃x,e=.returned (V x)/\φ x/\SF w (Ks hs os) (hs' x) [] (Fc x) (os' x++Oc x) w')
  (hH:nZ H is hs H':=by(repeat (first|exact nZ.nil|(apply nZ.cons;(focus ((repeat (first|exact Bk.head|apply Bk.tail));done));simp only[sP])));first|done|fail)
  (hO:nZ O js os O':=by(repeat (first|exact nZ.nil|(apply nZ.cons;(focus ((repeat (first|exact Bk.head|apply Bk.tail));done));simp only[sP])));first|done|fail)
  (hA:bH A F O' A0:=by(repeat (first|exact bH.of (λ _ h=>Or.inr (Or.inl h))|exact bH.nil|(refine bH.cons (by first|exact Or.inl rfl|exact Or.inr (Or.inr (Or.inl (by simp)))|exact Or.inr (Or.inl (by simp))|exact Or.inr (Or.inr (Or.inr (by simp)))) ?_)));first|done|fail)
  (hl1:∀x,is.length=(hs' x).length:=by intro x;exact rfl) (hl2:∀x,js.length=(os' x).length:=by intro x;exact rfl)
  (hH1:∀x,jX is (hs' x) H'=H1 x:=by intro x;first|(simp only[jX,tR];exact rfl)|exact rfl) (hF1:∀x,Fc x++F=F1 x:=by intro x;first|(simp only[List.nil_append,List.cons_append];exact rfl)|exact rfl) (hO1:∀x,Oc x++jX js (os' x) O'=O1 x:=by intro x;simp only[jX,tR,mW,List.nil_append,List.cons_append];exact rfl) :
  bG prog S (SF w0 M H A F O) ⟨dst,.call {callee:=.invoke recv name,args:=⟨xs⟩,argTypes:=at_},ty,pos,af,gd⟩ X V (λ x w=>φ x/\SF w0 M (H1 x) A (F1 x) (O1 x) w) :=
 iQ (U9 hx ha hm) λ w hw=>(hc w (hw.sV hH hO hA)).mono λ _ _ ⟨x,he,hx,hs⟩=>⟨x,he,hx,by
  have:=hw.Bc (hs':=hs' x) (Hc:=[]) (os':=os' x) (Oc:=Oc x) hH hO (by simpa using hs) (hl1 x) (hl2 x)
  rw[<- hH1 x,<- hF1 x,<- hO1 x]
  simpa using this⟩
end
end
end Go.Proofs.YtbajmaoegmbfgaaGreat
namespace Go.Ct
open Go Go.RowKit
section
structure KD(P:Program)(n:Nat)(ds:List Deferred)(Q:Exit->Act->World->Prop)(ks:List CK)(S:List (Nat×Value))(G:World->Prop):Prop where
 run:C7 n S->∀w,G w->runK P Q ks .normal ⟨eA n S,ds⟩ w
structure LD(P:Program)(n:Nat)(ds:List Deferred)(Q:Exit->Act->World->Prop)(ks:List CK)(ops:Array Oper)(l:List Oper)(S:List (Nat×Value))(G:World->Prop):Prop where
 run:C7 n S->∀w,G w->wpList P ops (runK P Q ks) l ⟨eA n S,ds⟩ w
section
variable{P:Program}{n:Nat}{ds:List Deferred}{Q:Exit->Act->World->Prop}{ks:List CK}{S:List (Nat×Value)}{G:World->Prop}{ops:Array Oper}{l:List Oper}
theorem gD{x y:Code}(h:KD P n ds Q (.code x::.code y::ks) S G):KD P n ds Q (.code (.seq x y)::ks) S G:=⟨λ hS w hw=>by
 have:=h.run hS w hw
 simp only[runK] at this ⊢
 rw[Kv] at this
 exact wp_seq this⟩
theorem Ey(h:KD P n ds Q ks S G):KD P n ds Q (.code .skip::ks) S G:=⟨λ hS w hw=>wp_skip (h.run hS w hw)⟩
theorem Jw{c:Operand}{x y:Code}{t:Bool}(ht:t=true->KD P n ds Q (.code x::ks) S G)
  (hf:t=false->KD P n ds Q (.code y::ks) S G) (hc:ev S c=.bool t:=by exact rfl):KD P n ds Q (.code (.cond c x y)::ks) S G:=⟨λ hS w hw =>
 wp_cond_split (by rw[jB hS];exact hc) (λ h=>(ht h).run hS w hw) (λ h=>(hf h).run hS w hw)⟩
theorem dX{id:Nat}{l:List Oper}(h:LD P n ds Q ks l.toArray l S G):KD P n ds Q (.code (.region id l.toArray false)::ks) S G :=
 ⟨λ hS w hw=>wp_region_lit (h.run hS w hw)⟩
theorem u4{φ:Prop}(h:φ->LD P n ds Q ks ops l S G):LD P n ds Q ks ops l S (λ w=>φ/\G w):=⟨λ hS w hw=>(h hw.1).run hS w hw.2⟩
theorem iN(h:KD P n ds Q ks S G):LD P n ds Q ks ops [] S G:=⟨h.run⟩
theorem xq(h:C7 n S->∀w,G w->Q .ret ⟨eA n S,ds⟩ w):KD P n ds Q (.code .ret::ks) S G:=⟨λ hS w hw=>wp_ret (wV (h hS w hw))⟩
theorem gR{d:Nat}{op:Op}{ty:TypeId}{pos:String}{af:Array Edge}{v:Value}(hrun:aM P S G ⟨some d,op,ty,pos,af,none⟩ v)(hd:Nat.blt d n=true)
  (h:LD P n ds Q ks ops l ((d,v)::S) G):LD P n ds Q ks ops (⟨some d,op,ty,pos,af,none⟩::l) S G:=⟨λ hS w hw =>
 wpList_plain rfl λ K hK=>by
  unfold Oper.wp
  rw[jB hS,hrun.run w hw]
  simp only[Oper.upon,Cj]
  exact hK _ _ (h.run (hS.cons hd) w hw)⟩
theorem E0{X:Type}{V:X->Value}{G':X->World->Prop}{d:Nat}{op:Op}{ty:TypeId}{pos:String}{af:Array Edge}(hrun:bG P S G ⟨some d,op,ty,pos,af,none⟩ X V G')(hd:Nat.blt d n=true)
  (h:∀x,LD P n ds Q ks ops l ((d,V x)::S) (G' x)):LD P n ds Q ks ops (⟨some d,op,ty,pos,af,none⟩::l) S G:=⟨λ hS w hw =>
 wpList_plain rfl λ K hK=>by
  unfold Oper.wp
  rw[jB hS]
  refine(hrun.run w hw).upon λ x w' hg=>?_
  rw[Cj]
  exact hK _ _ ((h x).run (hS.cons hd) w' hg)⟩
theorem Py{X:Type}{V:X->Value}{G':X->World->Prop}{op:Op}{ty:TypeId}{pos:String}{af:Array Edge}(hrun:bG P S G ⟨none,op,ty,pos,af,none⟩ X V G')
  (h:∀x,LD P n ds Q ks ops l S (G' x)):LD P n ds Q ks ops (⟨none,op,ty,pos,af,none⟩::l) S G:=⟨λ hS w hw =>
 wpList_plain rfl λ K hK=>by
  unfold Oper.wp
  rw[jB hS]
  exact(hrun.run w hw).upon λ x w' hg=>hK _ _ ((h x).run hS w' hg)⟩
theorem Ta{n:Nat}{S:List (Nat×Value)}{ops:Array Oper}{j g:Nat}{t:Bool}(hS:C7 n S)(hj:(ops[j]?).bind (·.dst)=some g)(hg:look S g=.bool t):yielded ops (eA n S) j=some t:=by
 have e:=congrFun (jB (ds:=[]) hS) (.tmp g)
 simp only[Act.eval,ev,hg] at e
 unfold yielded
 rw[hj]
 simp only[Option.bind_some]
 rw[Array.getD_eq_getD_getElem?] at e
 cases h2:(eA n S)[g]? with
 | none=>rw[h2] at e;simp[undef] at e
 | some u=>rw[h2] at e;simp at e;subst e;rfl
theorem Zf{d:Nat}{op:Op}{ty:TypeId}{pos:String}{af:Array Edge}{j:Nat}{want:Bool}{g:Nat}
  (hj:(ops[j]?).bind (·.dst)=some g) (hg:look S g=.bool want)
  (h:LD P n ds Q ks ops (⟨some d,op,ty,pos,af,none⟩::l) S G):LD P n ds Q ks ops (⟨some d,op,ty,pos,af,some (j,want)⟩::l) S G:=⟨λ hS w hw=>by
 have hy:=Ta hS hj hg
 have:=h.run hS w hw
 unfold wpList at this ⊢
 rw[if_pos (by simp[Region.wanted])] at this
 rw[if_pos (by simp[Region.wanted,hy])]
 exact this⟩
theorem Gs{x:Operand}{f:FuncId}{cap:Array Value}{ty:TypeId}{pos:String}{af:Array Edge}(hx:ev S x=.func (.func f) #[] cap)
  (h:LD P n (⟨.fn (.func f) cap,#[]⟩::ds) Q ks ops l S G):LD P n ds Q ks ops (⟨none,.defer {callee:=.value x,args:=⟨[]⟩,argTypes:=⟨[]⟩},ty,pos,af,none⟩::l) S G:=⟨λ hS w hw =>
 wpList_plain rfl λ K hK=>by
  unfold Oper.wp
  rw[jB hS]
  have hr:(execOp (ev S) ⟨none,.defer {callee:=.value x,args:=⟨[]⟩,argTypes:=⟨[]⟩},ty,pos,af,none⟩).run P w=.ok (.defer ⟨.fn (.func f) cap,#[]⟩) w:=by
   simp[execOp,resolve,hx,Deferred.ofValue]
  rw[hr]
  exact hK _ _ (h.run hS w hw)⟩
theorem Ti{P:Program}{f:FuncId}{fn:Func}{c:Code}{args:Array Value}{w:World}{R:Ending->World->Prop}{n:Nat}{G:World->Prop}
  (hf:P.funcs[f]?=some fn) (hn:fn.ntmps=n) (hb:fn.body=some c) (hlen:Nat.ble args.size n=true) (hG:G w)
  (h:KD P n [] (bodyPostD P fn R) [.code c] (cG 0 args.toList) G):Calls P f args w R:=by
 subst hn
 have hl:args.size<=fn.ntmps:=Nat.le_of_ble_eq_true hlen
 refine calls_of_wp_defers hf hb ?_
 rw[Pq _ _ hl]
 exact h.run (Nr _ _ _ (by simpa using hl)) w hG
def Idle(P:Program)(g:FuncId)(cap:Array Value):Prop:=∀w,CallsD P g cap .returning w λ e u' w'=>e=.returned (.tuple #[])/\u'=.returning/\w'=w
variable{w0:World}{M:List Nat}{H:List (Nat×Obj)}{A F:Fr}{O:List Ow}
theorem Ib{fn:Func}{R:Ending->World->Prop}{rs:List ResultVar}{vs:List Value}{g:FuncId}{cap:Array Value}(hi:Idle P g cap)(hp:plain P g=true)(hr:fn.results=⟨rs⟩)(hv:kJ P S H rs vs)(h:∀w,SF w0 M H A F O w->R (.returned (pK vs)) w) :
  KD P n [⟨.fn (.func g) cap,#[]⟩] (bodyPostD P fn R) (.code .ret::ks) S (SF w0 M H A F O) :=
 xq λ hS w hw=>by
  refine leaves_cons (f:=g) (args:=cap) (by simp) (by simp[invoke,sZ hp]) ?_
  refine(hi w).mono ?_
  rintro e u' w' ⟨rfl,rfl,rfl⟩
  exact⟨_,Nc hS hw.st hr hv,h _ hw⟩
variable{d:Nat}{ty t:TypeId}{pos:String}{af:Array Edge}{gd:Option (Nat×Bool)}{dst:Option Nat}{x y:Operand}{v:Value}{w w':World}
theorem dH{fn:Fn}{cap:List Operand}{vs:List Value}(hc:rP S cap=vs:=by(repeat (first|exact dF _|(apply cL;focus ((conv=>{lhs;whnf});try exact rfl))));done):aM P S G ⟨some d,.makeFunc fn ⟨[]⟩ ⟨cap⟩,ty,pos,af,gd⟩ (.func fn #[] ⟨vs⟩):=⟨λ w _=>by
 subst hc
 have hm:(cap.map (ev S)).toArray=⟨rP S cap⟩:=by rw[Eo]
 simp only[execOp,List.map_toArray,List.map_nil,hm]
 rfl⟩
theorem Lq{fn:Fn}{a b:Array Value}{t':TypeId}(hx:ev S x=.func fn a b)(hy:ev S y=.nilFunc)(h:∀w,(binOp .eql t (.func fn a b) .nilFunc).run P w=.ok (.bool false) w):aM P S G ⟨some d,.binOp .eql t x y t',ty,pos,af,gd⟩ (.bool false):=⟨λ w _=>by
 simp[execOp,hx,hy,h w,eqGuard]⟩
theorem Vz{pv:Value}{t2 t':TypeId}(hx:ev S x=.iface t2 pv)(hy:ev S y=.nilIface)(h:∀w,(binOp .neq t (.iface t2 pv) .nilIface).run P w=.ok (.bool true) w):aM P S G ⟨some d,.binOp .neq t x y t',ty,pos,af,gd⟩ (.bool true):=⟨λ w _=>by
 simp[execOp,hx,hy,h w,eqGuard]⟩
theorem s4{f:FuncId}{cap:List Value}{os:List Operand}{at_:Array TypeId}{vs:List Value}(hx:ev S x=.func (.func f) #[] ⟨cap⟩)(hp:plain P f=true)(ha:rP S os=vs)(w:World) :
  (execOp (ev S) ⟨dst,.call {callee:=.value x,args:=⟨os⟩,argTypes:=at_},ty,pos,af,gd⟩).run P w=.ok (.enter f ⟨vs++cap⟩) w:=by
 subst ha
 have hm:(os.map (ev S)).toArray=⟨rP S os⟩:=by rw[Eo]
 simp[execOp,resolve,hx,Deferred.ofValue,invoke,sZ hp,hm]
theorem O0{α:Type}:∀(l:List α) (i:Nat),(sP l i).Sublist l
 | [],_=>List.Sublist.refl _
 | _::_,0=>List.sublist_cons_self ..
 | _::r,i+1=>(O0 r i).cons_cons _
theorem At.perm{H:List (Nat×Obj)}{i b:Nat}{o:Obj}(h:At H i b o):H.Perm ((b,o)::sP H i):=by
 induction h with
 | head=>exact List.Perm.refl _
 | tail _ ih=>exact(ih.cons _).trans (List.Perm.swap _ _ _)
theorem SF.dK(h:SF w0 M H A F O w){i b:Nat}{cs:List Value}{T:TypeId}(ha:At H i b (.cells ⟨cs⟩ T (0,0))):SF w0 M (sP H i) A ((some ⟨b,0,none⟩,cs)::F) O w:=by
 have hp:=h.perm ha.perm.symm (List.Perm.refl _)
 have hs:(Ks (sP H i) O).Sublist (Ks ((b,.cells ⟨cs⟩ T (0,0))::sP H i) O):=by
  unfold Ks
  exact((List.sublist_cons_self ..).map _).append (List.Sublist.refl _)
 have hd:=hp.dis
 have hb:b∉Ks (sP H i) O:=by
  unfold Ks at hd ⊢
  simp only[List.map_cons,List.cons_append,List.nodup_cons] at hd
  exact hd.1
 refine⟨h.st.sub (O0 H i),λ f hf=>⟨(hp.bK f hf).1,λ hc hm=>(hp.bK f hf).2 hc (hs.subset hm)⟩,λ f hf=>?_,h.own,hp.dis.sublist hs⟩
 rcases List.mem_cons.1 hf with rfl|hf
 ·refine⟨Cl.block (pre:=[]) (rest:=[]) (T:=T) (fr:=(0,0)) (by simpa using h.st.at ha) rfl,λ _=>⟨hb,?_⟩⟩
  exact(h.st.new _ ha.mem).symm
 ·exact⟨(h.new f hf).1,λ hc=>⟨λ hm=>((hp.new f hf).2 hc).1 (hs.subset hm),((h.new f hf).2 hc).2⟩⟩
end
end
end Go.Ct
namespace Go.Proofs.YtbajmaoegmbfgaaGreat
open Go.Proofs.Tryz (prog)
open Go Go.RowKit Go.Ct
section
variable{n:Nat}{Q:Exit->Act->World->Prop}{ks:List CK}{S:List (Nat×Value)}{ops:Array Oper}{l ol:List Oper}{pl:qA}{LL:List Nat}{Dl Dp Dq:List Nat}
variable{w0:World}{M:List Nat}{H:List (Nat×Obj)}{A F:Fr}{O:List Ow}{G:World->Prop}{i d:Nat}{v:Value}{op:Op}{ty:TypeId}{pos:String}{af:Array Edge}{gd:Option (Nat×Bool)}{X:Type}{V:X->Value}{G':X->World->Prop}{j g:Nat}{want t:Bool}
variable{ds:List Deferred}
theorem pI(h:LD prog n ds Q ks ops l ((d,v)::S) G)(hq:aM prog S G ⟨some d,op,ty,pos,af,none⟩ v:=by exact Sy wn)(hd:Nat.blt d n=true:=by exact rfl):LD prog n ds Q ks ops (⟨some d,op,ty,pos,af,none⟩::l) S G:=gR hq hd h
theorem qo(h:LD prog n ds Q ks ops l ((d,v)::S) G)(hq:aM prog S G ⟨some d,op,ty,pos,af,none⟩ v:=by first|exact Fi rf wn|exact Ir rf wn|exact o_pick_b rf rf rf)(hd:Nat.blt d n=true:=by exact rfl):LD prog n ds Q ks ops (⟨some d,op,ty,pos,af,none⟩::l) S G:=gR hq hd h
theorem eO(h:LD prog n ds Q ks ops l ((d,v)::S) G)(hq:aM prog S G ⟨some d,op,ty,pos,af,none⟩ v:=by first|exact tA rf vp|exact qZ rf vp)(hd:Nat.blt d n=true:=by exact rfl):LD prog n ds Q ks ops (⟨some d,op,ty,pos,af,none⟩::l) S G:=gR hq hd h
theorem oC(h:LD prog n ds Q ks ops l ((d,v)::S) G)(hq:aM prog S G ⟨some d,op,ty,pos,af,none⟩ v:=by exact Na)(hd:Nat.blt d n=true:=by exact rfl):LD prog n ds Q ks ops (⟨some d,op,ty,pos,af,none⟩::l) S G:=gR hq hd h
theorem im(h:LD prog n ds Q ks ops l ((d,v)::S) G)(hq:aM prog S G ⟨some d,op,ty,pos,af,none⟩ v:=by exact gm)(hd:Nat.blt d n=true:=by exact rfl):LD prog n ds Q ks ops (⟨some d,op,ty,pos,af,none⟩::l) S G:=gR hq hd h
theorem ef(h:∀x,LD prog n ds Q ks ops l ((d,V x)::S) (G' x))(hq:bG prog S G ⟨some d,op,ty,pos,af,none⟩ X V G':=by first|exact jG λ _=>fv rf|exact jG λ _=>Si rf rfl)(hd:Nat.blt d n=true:=by exact rfl):LD prog n ds Q ks ops (⟨some d,op,ty,pos,af,none⟩::l) S G:=E0 hq hd h
theorem wP(h:∀x,LD prog n ds Q ks ops l ((d,V x)::S) (G' x))(hq:bG prog S G ⟨some d,op,ty,pos,af,none⟩ X V G':=by exact Ev)(hd:Nat.blt d n=true:=by exact rfl):LD prog n ds Q ks ops (⟨some d,op,ty,pos,af,none⟩::l) S G:=E0 hq hd h
theorem zF(h:∀x,LD prog n ds Q ks ops l ((d,V x)::S) (G' x))(hq:bG prog S G ⟨some d,op,ty,pos,af,none⟩ X V G':=by exact gM (Az wn))(hd:Nat.blt d n=true:=by exact rfl):LD prog n ds Q ks ops (⟨some d,op,ty,pos,af,none⟩::l) S G:=E0 hq hd h
theorem Qx(h:∀x,LD prog n ds Q ks ops l S (G' x))(hq:bG prog S G ⟨none,op,ty,pos,af,none⟩ X V G':=by exact M3):LD prog n ds Q ks ops (⟨none,op,ty,pos,af,none⟩::l) S G:=Py hq h
theorem As{φ:X->Prop}(hq:bG prog S G ⟨some d,op,ty,pos,af,none⟩ X V (λ x w=>φ x/\G' x w))(h:∀x,φ x->LD prog n ds Q ks ops l ((d,V x)::S) (G' x))(hd:Nat.blt d n=true:=by exact rfl):LD prog n ds Q ks ops (⟨some d,op,ty,pos,af,none⟩::l) S G:=E0 hq hd λ x=>u4 (h x)
theorem Ns(hq:bG prog S G ⟨none,op,ty,pos,af,none⟩ X V G')(h:∀x,LD prog n ds Q ks ops l S (G' x)):LD prog n ds Q ks ops (⟨none,op,ty,pos,af,none⟩::l) S G:=Py hq h
theorem wT(h:LD prog n ds Q ks ops (⟨some d,op,ty,pos,af,none⟩::l) S G)(hj:(ops[j]?).bind (·.dst)=some g:=by exact rfl)(hg:Ct.look S g=.bool want:=by exact rfl):LD prog n ds Q ks ops (⟨some d,op,ty,pos,af,some (j,want)⟩::l) S G:=Zf hj hg h
end
end Go.Proofs.YtbajmaoegmbfgaaGreat
namespace Go.Ct
open Go Go.RowKit
section
abbrev Clo:=Option (FuncId×List Value)
abbrev fnV:Clo->Value
 | none=>.nilFunc
 | some p=>.func (.func p.1) #[] ⟨p.2⟩
structure Cd where
 a:Ac
 f:Clo
 g:Clo
 r:Rs
abbrev Cd.cells(c:Cd):List Value:=[.int .i64 c.a.k,.int .i64 c.a.c,.int .i64 c.a.o,.int .i64 c.a.n,fnV c.f,fnV c.g,.int .i64 c.r.err,.bool c.r.found,.int .u64 c.r.val,.string c.r.key,.int .i64 c.r.gC,.int .i64 c.r.ref,.int .i64 c.r.root,.bool c.r.ro]
abbrev Bm(r:Rs):Cd:=⟨⟨0,0,0,0⟩,none,none,r⟩
abbrev uI(c:Int)(f:FuncId)(cap:List Value):Cd:=⟨⟨1,c,0,0⟩,some (f,cap),none,⟨0,false,0,⟨#[]⟩,0,0,0,false⟩⟩
abbrev zA(c o n:Int)(g:FuncId)(cap:List Value):Cd:=⟨⟨2,c,o,n⟩,none,some (g,cap),⟨0,false,0,⟨#[]⟩,0,0,0,false⟩⟩
theorem dV(c:Cd):c.cells.all (·.oneCell')=true:=by
 obtain⟨a,f,g,r⟩:=c
 cases f<;>cases g<;>rfl
def Ix(cs:List Int)(c o:Int):Bool:=decide (1<=c/\c<=(cs.length:Int)/\cs.getD (c-1).toNat 0=o)
theorem Mg{cs:List Int}{c o:Int}{r:Bool}(h:r=true↔gA cs c o):r=Ix cs c o:=by
 rw[Bool.eq_iff_iff,h]
 unfold Ix gA
 rw[decide_eq_true_eq]
end
end Go.Ct
namespace Go.Proofs.YtbajmaoegmbfgaaGreat
open Go.Proofs.Tryz (prog)
section
open Go.RowKit Go.Ct
theorem Vj(r:Rs)(w:World):Calls prog 77 #[.agg ⟨r.cells⟩] w λ e w'=>e=.returned (.agg ⟨(Bm r).cells⟩)/\St w [] [] w':=by
 refine enter Tryz.func77 Tryz.ntmps77 rfl rfl (SF.s0 w) ?_
 simp only[cG]
 refine J0 ?_;refine bM (λ x1=>?_);refine aL (λ x2=>?_);refine aI ?_;refine oR ?_;refine xF ?_
 refine bD Tryz.results77 (λ w hw=>?_)
 exact⟨rfl,hw.done⟩
theorem xU(c:Int)(f:FuncId)(cap:List Value)(w:World):Calls prog 130 #[.int .i64 c,.func (.func f) #[] ⟨cap⟩] w λ e w'=>e=.returned (.agg ⟨(uI c f cap).cells⟩)/\St w [] [] w':=by
 refine enter Tryz.func130 Tryz.ntmps130 rfl rfl (SF.s0 w) ?_
 simp only[cG]
 refine J0 ?_;refine aL (λ x4=>?_);refine aI ?_;refine J2 ?_;refine bO ?_;refine aB ?_;refine xF ?_
 refine bD Tryz.results130 (λ w hw=>?_)
 exact⟨rfl,hw.done⟩
theorem zU(c o n:Int)(f:FuncId)(cap:List Value)(w:World):Calls prog 119 #[.int .i64 c,.int .i64 o,.int .i64 n,.func (.func f) #[] ⟨cap⟩] w λ e w'=>e=.returned (.agg ⟨(zA c o n f cap).cells⟩)/\St w [] [] w':=by
 refine enter Tryz.func119 Tryz.ntmps119 rfl rfl (SF.s0 w) ?_
 simp only[cG]
 refine J0 ?_;refine aL (λ x8=>?_);refine aI ?_;refine Kc4 ?_;refine bO ?_;refine aB ?_;refine xF ?_
 refine bD Tryz.results119 (λ w hw=>?_)
 exact⟨rfl,hw.done⟩
end
section
open Go Go.RowKit Go.Ct
theorem ap(p:Option Addr)(a:Value)(w:World):(callMethod (.iface 42 (.pointer p)) "Load" #[a]).run prog w=.ok (.enter 35 #[.pointer p,a]) w:=by kernel_rfl
theorem qe(p:Option Addr)(a b c:Value)(w:World):(callMethod (.iface 42 (.pointer p)) "CAS" #[a,b,c]).run prog w=.ok (.enter 279 #[.pointer p,a,b,c]) w:=by kernel_rfl
theorem Dx(p:Option Addr)(w:World):(binOp .neq 123 (.iface 42 (.pointer p)) .nilIface).run prog w=.ok (.bool true) w:=by kernel_rfl
theorem aB3(f:Fn)(a b:Array Value)(w:World):(binOp .eql 135 (.func f a b) .nilFunc).run prog w=.ok (.bool false) w:=by kernel_rfl
theorem aBm(f:Fn)(a b:Array Value)(w:World):(binOp .eql 129 (.func f a b) .nilFunc).run prog w=.ok (.bool false) w:=by kernel_rfl
theorem aA6(f:Fn)(a b:Array Value)(w:World):(binOp .eql 130 (.func f a b) .nilFunc).run prog w=.ok (.bool false) w:=by kernel_rfl
theorem Ud(p:Option Addr):Idle prog 161 #[.pointer p]:=λ w=>by
 refine callsD_of_wpS Tryz.func161 rfl λ c₀ cs hu=>?_
 apply wpS_seq
 apply wpS_region
 simp[wpOpsS,go_sem,recoverD,hu,Tryz.ntmps161,Exit.thenS]
 refine wpS_cond (t:=false) (by simp[Act.eval,Array.replicate]) ?_
 simp only[Bool.false_eq_true,if_false]
 refine wpS_of_wp (wp_skip ?_)
 cases c₀
 simp_all[bodyPostS,results,Tryz.results161]
theorem zC(p:Option Addr):Idle prog 129 #[.pointer p]:=λ w=>by
 refine callsD_of_wpS Tryz.func129 rfl λ c₀ cs hu=>?_
 apply wpS_seq
 apply wpS_region
 simp[wpOpsS,go_sem,recoverD,hu,Tryz.ntmps129,Exit.thenS]
 refine wpS_cond (t:=false) (by simp[Act.eval,Array.replicate]) ?_
 simp only[Bool.false_eq_true,if_false]
 refine wpS_of_wp (wp_skip ?_)
 cases c₀
 simp_all[bodyPostS,results,Tryz.results129]
section
variable{S:List (Nat×Value)}{w0 w:World}{M:List Nat}{H:List (Nat×Obj)}{A F:Fr}{O:List Ow}{ty:TypeId}{pos:String}{af:Array Edge}{gd:Option (Nat×Bool)}{X:Type}{V:X->Value}
end
end
section
open Go Go.RowKit Go.Ct
section
variable{S:List (Nat×Value)}{w0 w:World}{M:List Nat}{H:List (Nat×Obj)}{A F:Fr}{O:List Ow}{ty:TypeId}{pos:String}{af:Array Edge}{gd:Option (Nat×Bool)}{X:Type}{V:X->Value}
end
end
end Go.Proofs.YtbajmaoegmbfgaaGreat
