/- Merged. -/
import Derived.Test.YtbajmaoegmbfgaaGreatGTo2
import Derived.Test.YtbajmaoegmbfgaaGreatGLst3
import Derived.Test.YtbajmaoegmbfgaaGreatGJoin
import Derived.Defers
import Derived.Recover
set_option linter.unusedSimpArgs false
set_option linter.unusedVariables false
namespace Go.Ct
open Go Go.RowKit
section
end
end Go.Ct
namespace Go.Proofs.YtbajmaoegmbfgaaGreat
open Go.RowKit Go.Ct
section
section
variable{w:World}{D:List Nat}{b:Nat}{L:List aQ}{cs:List Int}{gen acc:Int}{pn pc:Option Addr}{cn cc:Nat}{A:Fr}
end
end
end Go.Proofs.YtbajmaoegmbfgaaGreat
namespace Go.Ct
open Go Go.RowKit
section
section
variable{P:Program}{S:List (Nat×Value)}{G:World->Prop}{d:Nat}{ty t t2:TypeId}{pos:String}{af:Array Edge}{gd:Option (Nat×Bool)}{x y:Operand}{dst:Option Nat}{v:Value}
theorem X6{f:FuncId}{xs:List Operand}{at_:Array TypeId}{vs:List Value}{t:TypeId}{pv:Value}{name:String}(hx:ev S x=.iface t pv)(ha:qR S xs=vs)(hm:∀w,(callMethod (.iface t pv) name ⟨vs⟩).run P w=.ok (.enter f ⟨pv::vs⟩) w)(w:World) :
  (execOp (ev S) ⟨dst,.call {callee:=.invoke x name,args:=⟨xs⟩,argTypes:=at_},ty,pos,af,gd⟩).run P w=.ok (.enter f ⟨pv::vs⟩) w:=by
 subst ha;have hm':(xs.map (ev S)).toArray=⟨qR S xs⟩:=by rw[Bn]
 have:=hm w;simp only[execOp,resolve,hx];simp[invoke,hm',this]
theorem jb(hx:ev S x=v)(h:∀w,(Instr.makeInterface t v).run P w=.ok (.iface t v) w):aM P S G ⟨some d,.makeInterface t x,ty,pos,af,gd⟩ (.iface t v):=⟨λ w _=>by simp[execOp,hx,h w]⟩
theorem Ry{b off:Nat}(hx:ev S x=.iface t (.pointer (some ⟨b,off,none⟩))):aM P S G ⟨some d,.nilCheck x,ty,pos,af,gd⟩ (.iface t (.pointer (some ⟨b,off,none⟩))):=⟨λ w _=>by simp[execOp,hx]⟩
end
end
end Go.Ct
namespace Go.Proofs.YtbajmaoegmbfgaaGreat
open Go.Proofs.Tryz
open Go Go.RowKit Go.Ct
section
theorem qw(p:Option Addr)(a:Value)(w:World):(callMethod (.iface 42 (.pointer p)) "Node" #[a]).run prog w=.ok (.enter 36 #[.pointer p,a]) w:=by kernel_rfl
theorem Zn(p:Option Addr)(a b:Value)(w:World):(callMethod (.iface 42 (.pointer p)) "Alloc" #[a,b]).run prog w=.ok (.enter 29 #[.pointer p,a,b]) w:=by kernel_rfl
theorem Dr(p:Option Addr)(w:World):(Instr.makeInterface 42 (.pointer p)).run prog w=.ok (.iface 42 (.pointer p)) w:=by kernel_rfl
section
variable{S:List (Nat×Value)}{w0 w:World}{M:List Nat}{H:List (Nat×Obj)}{A F:Fr}{O:List Ow}{ty:TypeId}{pos:String}{af:Array Edge}{gd:Option (Nat×Bool)}{X:Type}{V:X->Value}
variable{hs H':List (Nat×Obj)}{os O':List Ow}{A0:Fr}{is js:List Nat}{f:FuncId}{recv:Operand}{t:TypeId}{pv:Value}{name:String}{xs:List Operand}{at_:Array TypeId}{vs:List Value}{dst:Option Nat}
theorem cMI{φ:X->Prop}{hs' H1:X->List (Nat×Obj)}{os' O1:X->List Ow}{Fc F1:X->Fr}(hx:ev S recv=.iface t pv:=by(conv=>{lhs;whnf}))(ha:qR S xs=vs:=by(repeat (first|exact cN _|(apply bX;focus ((conv=>{lhs;whnf});try exact rfl))));first|done|fail)(hm:∀w,(callMethod (.iface t pv) name ⟨vs⟩).run prog w=.ok (.enter f ⟨pv::vs⟩) w)(hc:∀w,SF w (Ks hs os) hs A0 [] os w->Calls prog f ⟨pv::vs⟩ w λ e w'=>∃x,e=.returned (V x)/\φ x/\SF w (Ks hs os) (hs' x) [] (Fc x) (os' x) w')(hH:mR H is hs H':=by(repeat (first|exact mR.nil|(apply mR.cons;(focus ((repeat (first|exact zI.head|apply zI.tail));done));simp only[rZ])));first|done|fail)(hO:mR O js os O':=by(repeat (first|exact mR.nil|(apply mR.cons;(focus ((repeat (first|exact zI.head|apply zI.tail));done));simp only[rZ])));first|done|fail)(hA:bH A F O' A0:=by(repeat (first|exact bH.of (λ _ h=>Or.inr (Or.inl h))|exact bH.nil|(refine bH.cons (by first|exact Or.inl rfl|exact Or.inr (Or.inr (Or.inl (by simp)))|exact Or.inr (Or.inl (by simp))|exact Or.inr (Or.inr (Or.inr (by simp)))) ?_)));first|done|fail)(hl1:∀x,is.length=(hs' x).length:=by intro x;exact rfl)(hl2:∀x,js.length=(os' x).length:=by intro x;exact rfl)(hH1:∀x,jE is (hs' x) H'=H1 x:=by intro x;first|(simp only[jE,sS];exact rfl)|exact rfl)(hF1:∀x,Fc x++F=F1 x:=by intro x;first|(simp only[List.nil_append,List.cons_append];exact rfl)|exact rfl)(hO1:∀x,jE js (os' x) O'=O1 x:=by intro x;simp only[jE,sS,mW];exact rfl) :
  bG prog S (SF w0 M H A F O) ⟨dst,.call {callee:=.invoke recv name,args:=⟨xs⟩,argTypes:=at_},ty,pos,af,gd⟩ X V (λ x w=>φ x/\SF w0 M (H1 x) A (F1 x) (O1 x) w) :=
 gW (X6 hx ha hm) λ w hw=>(hc w (hw.rM hH hO hA)).mono λ _ _ ⟨x,he,hx,hs⟩=>⟨x,he,hx,by have:=hw.yT (hs':=hs' x) (Hc:=[]) (os':=os' x) (Oc:=[]) hH hO (by simpa using hs) (hl1 x) (hl2 x);rw[<- hH1 x,<- hF1 x,<- hO1 x];simpa using this⟩
theorem aEm{φ:X->Prop}{hs' H1:X->List (Nat×Obj)}{os' Oc O1:X->List Ow}{Fc F1:X->Fr}(hx:ev S recv=.iface t pv:=by(conv=>{lhs;whnf}))(ha:qR S xs=vs:=by(repeat (first|exact cN _|(apply bX;focus ((conv=>{lhs;whnf});try exact rfl))));first|done|fail)(hm:∀w,(callMethod (.iface t pv) name ⟨vs⟩).run prog w=.ok (.enter f ⟨pv::vs⟩) w)(hc:∀w,SF w (Ks hs os) hs A0 [] os w->Calls prog f ⟨pv::vs⟩ w λ e w'=>∃x,e=.returned (V x)/\φ x/\SF w (Ks hs os) (hs' x) [] (Fc x) (os' x++Oc x) w')(hH:mR H is hs H':=by(repeat (first|exact mR.nil|(apply mR.cons;(focus ((repeat (first|exact zI.head|apply zI.tail));done));simp only[rZ])));first|done|fail)(hO:mR O js os O':=by(repeat (first|exact mR.nil|(apply mR.cons;(focus ((repeat (first|exact zI.head|apply zI.tail));done));simp only[rZ])));first|done|fail)(hA:bH A F O' A0:=by(repeat (first|exact bH.of (λ _ h=>Or.inr (Or.inl h))|exact bH.nil|(refine bH.cons (by first|exact Or.inl rfl|exact Or.inr (Or.inr (Or.inl (by simp)))|exact Or.inr (Or.inl (by simp))|exact Or.inr (Or.inr (Or.inr (by simp)))) ?_)));first|done|fail)(hl1:∀x,is.length=(hs' x).length:=by intro x;exact rfl)(hl2:∀x,js.length=(os' x).length:=by intro x;exact rfl)(hH1:∀x,jE is (hs' x) H'=H1 x:=by intro x;first|(simp only[jE,sS];exact rfl)|exact rfl)(hF1:∀x,Fc x++F=F1 x:=by intro x;first|(simp only[List.nil_append,List.cons_append];exact rfl)|exact rfl)(hO1:∀x,Oc x++jE js (os' x) O'=O1 x:=by intro x;simp only[jE,sS,mW,List.nil_append,List.cons_append];exact rfl) :
  bG prog S (SF w0 M H A F O) ⟨dst,.call {callee:=.invoke recv name,args:=⟨xs⟩,argTypes:=at_},ty,pos,af,gd⟩ X V (λ x w=>φ x/\SF w0 M (H1 x) A (F1 x) (O1 x) w) :=
 gW (X6 hx ha hm) λ w hw=>(hc w (hw.rM hH hO hA)).mono λ _ _ ⟨x,he,hx,hs⟩=>⟨x,he,hx,by have:=hw.yT (hs':=hs' x) (Hc:=[]) (os':=os' x) (Oc:=Oc x) hH hO (by simpa using hs) (hl1 x) (hl2 x);rw[<- hH1 x,<- hF1 x,<- hO1 x];simpa using this⟩
end
end
end Go.Proofs.YtbajmaoegmbfgaaGreat
namespace Go.Ct
open Go Go.RowKit
section
section
variable{P:Program}{n:Nat}{ds:List Deferred}{Q:Exit->Act->World->Prop}{ks:List CK}{S:List (Nat×Value)}{G:World->Prop}{ops:Array Oper}{l:List Oper}
variable{w0:World}{M:List Nat}{H:List (Nat×Obj)}{A F:Fr}{O:List Ow}
variable{d:Nat}{ty t:TypeId}{pos:String}{af:Array Edge}{gd:Option (Nat×Bool)}{dst:Option Nat}{x y:Operand}{v:Value}{w w':World}
theorem mK{b off i:Nat}{vs bS cs:List Value}{T:TypeId}{H':List (Nat×Obj)}(hx:ev S x=.pointer (some ⟨b,off,none⟩))(ha:At H i b (.cells ⟨bS⟩ T (0,0)))(hy:ev S y=.agg ⟨vs⟩)(h1:vs.all (·.oneCell')=true)
  (ht:kC P t vs.length=true) (hl:off+vs.length<=bS.length) (hcs:bS.take off++vs++bS.drop (off+vs.length)=cs) (hH:setAt H i (.cells ⟨cs⟩ T (0,0))=H') :
  bG P S (St w0 M H) ⟨none,.store t x y,ty,pos,af,gd⟩ Unit (λ _=>undef) (λ _=>St w0 M H') :=
 yL (λ w hw=>by
  subst hH hcs;have hb:=hw.at ha;obtain⟨dd,hu,hm,hi⟩:=jA ht;have hst:=run_storeCells_at (P:=P) b off T vs 0 ⟨bS⟩ w hb (by simpa using hl) (by simpa using h1);simp only[Nat.add_zero] at hst;refine⟨w.setRow b ⟨bS.take off++vs++bS.drop (off+vs.length)⟩,?_,hw.write ha rfl rfl rfl (by simp) (λ k hk=>setRow_other w b k _ hk) (setRow_heap w b ⟨bS⟩ _ T (0,0) hb)⟩;cases hq':P.info? t with
  | none=>rw[hq'] at hi;simp at hi
  | some inf=>
   have hs:inf.size=vs.length:=by rw[hq'] at hi;simpa using hi
   simp[execOp,hx,hy,Instr.storeAt,Instr.sureAddr,storeVar,sizeOf,typeInfo,hq',hs,Value.cells,hst])
end
end
section
section
variable{P:Program}{S:List (Nat×Value)}{w0 w w':World}{M:List Nat}{H:List (Nat×Obj)}{A F:Fr}{O:List Ow}{d:Nat}{ty t:TypeId}{pos:String}{af:Array Edge}{gd:Option (Nat×Bool)}{x y:Operand}{v:Value}
theorem Se{a:Option Addr}{cs vs:List Value}{q k:Nat}(hx:ev S x=.pointer (some ⟨dG a,eO a+q,none⟩))(ht:kC P t k=true)(hf:sD A F O a cs)(hv:(cs.drop q).take k=vs)(hl:vs.length=k) :
  aM P S (SF w0 M H A F O) ⟨some d,.load t x,ty,pos,af,gd⟩ (.agg ⟨vs⟩):=⟨λ w hw=>by
 have hcl:=hw.cl hf;obtain⟨dd,hu,hm,hi⟩:=jA ht;have hagg:(isAgg t).run P w=.ok true w:=by unfold isAgg;rw[Sem.run_bind,run_underlying hu w];cases dd<;>simp_all
 have hc:(loadCells ⟨dG a,eO a+q,none⟩ k).run P w=.ok ⟨vs⟩ w:=by
  have:=run_loadCells_list (P:=P) w ⟨dG a,eO a+q,none⟩ vs (λ j z hz=>by
   subst hv;have hj:=(List.getElem?_eq_some_iff.1 hz).1
   have h2:cs[q+j]?=some z:=by rw[List.getElem?_take_of_lt (by simp at hj;omega),List.getElem?_drop] at hz;exact hz
   rw[Addr.add_lit,show eO a+q+j=eO a+(q+j) by omega];exact(hcl.at_ _ _ h2).2)
  rw[hl] at this;simpa using this
 cases hq':P.info? t with
 | none=>rw[hq'] at hi;simp at hi
 | some i=>
  have hs:i.size=k:=by rw[hq'] at hi;simpa using hi
  simp[execOp,hx,Instr.loadAt,Instr.sureAddr,loadVar,hagg,Go.sizeOf,typeInfo,hq',hs,hc]⟩
theorem rz{a:Option Addr}{cs:List Value}{q:Nat}{v:Value}(hx:ev S x=.pointer (some ⟨dG a,eO a+q,none⟩))(ht:one P t=true)(hf:sD A F O a cs)(hq:cs[q]?=some v) :
  aM P S (SF w0 M H A F O) ⟨some d,.load t x,ty,pos,af,gd⟩ v:=qF hx ht (λ w hw=>hw.cl hf) hq
end
end
section
structure KD(P:Program)(n:Nat)(ds:List Deferred)(Q:Exit->Act->World->Prop)(ks:List CK)(S:List (Nat×Value))(G:World->Prop):Prop where
 run:Eh n S->∀w,G w->runK P Q ks .normal ⟨eA n S,ds⟩ w
structure LD(P:Program)(n:Nat)(ds:List Deferred)(Q:Exit->Act->World->Prop)(ks:List CK)(ops:Array Oper)(l:List Oper)(S:List (Nat×Value))(G:World->Prop):Prop where
 run:Eh n S->∀w,G w->wpList P ops (runK P Q ks) l ⟨eA n S,ds⟩ w
section
variable{P:Program}{n:Nat}{ds:List Deferred}{Q:Exit->Act->World->Prop}{ks:List CK}{S:List (Nat×Value)}{G:World->Prop}{ops:Array Oper}{l:List Oper}
variable{x y:Code}{t:Bool}{d j g:Nat}{op:Op}{ty:TypeId}{pos:String}{af:Array Edge}{X:Type}{f:FuncId}
theorem gG(h:KD P n ds Q (.code x::.code y::ks) S G):KD P n ds Q (.code (.seq x y)::ks) S G:=⟨λ hS w hw=>by have:=h.run hS w hw;simp only[runK] at this ⊢;rw[Lu] at this;exact wp_seq this⟩
theorem Fy(h:KD P n ds Q ks S G):KD P n ds Q (.code .skip::ks) S G:=⟨λ hS w hw=>wp_skip (h.run hS w hw)⟩
theorem L3{c:Operand}(ht:t=true->KD P n ds Q (.code x::ks) S G)(hf:t=false->KD P n ds Q (.code y::ks) S G)(hc:ev S c=.bool t:=by exact rfl):KD P n ds Q (.code (.cond c x y)::ks) S G:=⟨λ hS w hw =>
 wp_cond_split (by rw[jK hS];exact hc) (λ h=>(ht h).run hS w hw) (λ h=>(hf h).run hS w hw)⟩
theorem dZ{id:Nat}{l:List Oper}(h:LD P n ds Q ks l.toArray l S G):KD P n ds Q (.code (.region id l.toArray false)::ks) S G :=⟨λ hS w hw=>wp_region_lit (h.run hS w hw)⟩
theorem vx{φ:Prop}(h:φ->LD P n ds Q ks ops l S G):LD P n ds Q ks ops l S (λ w=>φ/\G w):=⟨λ hS w hw=>(h hw.1).run hS w hw.2⟩
theorem jB(h:KD P n ds Q ks S G):LD P n ds Q ks ops [] S G:=⟨h.run⟩
theorem aBM(h:Eh n S->∀w,G w->Q .ret ⟨eA n S,ds⟩ w):KD P n ds Q (.code .ret::ks) S G:=⟨λ hS w hw=>wp_ret (wC (h hS w hw))⟩
theorem iB{v:Value}(hrun:aM P S G ⟨some d,op,ty,pos,af,none⟩ v)(hd:Nat.blt d n=true)(h:LD P n ds Q ks ops l ((d,v)::S) G):LD P n ds Q ks ops (⟨some d,op,ty,pos,af,none⟩::l) S G:=⟨λ hS w hw =>
 wpList_plain rfl λ K hK=>by unfold Oper.wp;rw[jK hS,hrun.run w hw];simp only[Oper.upon,Cu];exact hK _ _ (h.run (hS.cons hd) w hw)⟩
theorem F3{V:X->Value}{G':X->World->Prop}(hrun:bG P S G ⟨some d,op,ty,pos,af,none⟩ X V G')(hd:Nat.blt d n=true)(h:∀x,LD P n ds Q ks ops l ((d,V x)::S) (G' x)):LD P n ds Q ks ops (⟨some d,op,ty,pos,af,none⟩::l) S G:=⟨λ hS w hw =>
 wpList_plain rfl λ K hK=>by unfold Oper.wp;rw[jK hS];refine(hrun.run w hw).upon λ x w' hg=>?_;rw[Cu];exact hK _ _ ((h x).run (hS.cons hd) w' hg)⟩
theorem Ri{V:X->Value}{G':X->World->Prop}(hrun:bG P S G ⟨none,op,ty,pos,af,none⟩ X V G')(h:∀x,LD P n ds Q ks ops l S (G' x)):LD P n ds Q ks ops (⟨none,op,ty,pos,af,none⟩::l) S G:=⟨λ hS w hw =>
 wpList_plain rfl λ K hK=>by unfold Oper.wp;rw[jK hS];exact(hrun.run w hw).upon λ x w' hg=>hK _ _ ((h x).run hS w' hg)⟩
theorem Uw{n:Nat}{S:List (Nat×Value)}{ops:Array Oper}(hS:Eh n S)(hj:(ops[j]?).bind (·.dst)=some g)(hg:look S g=.bool t):yielded ops (eA n S) j=some t:=by
 have e:=congrFun (jK (ds:=[]) hS) (.tmp g);simp only[Act.eval,ev,hg] at e;unfold yielded;rw[hj];simp only[Option.bind_some];rw[Array.getD_eq_getD_getElem?] at e;cases h2:(eA n S)[g]? with
 | none=>rw[h2] at e;simp[undef] at e
 | some u=>rw[h2] at e;simp at e;subst e;rfl
theorem Zz{want:Bool}(hj:(ops[j]?).bind (·.dst)=some g)(hg:look S g=.bool want)(h:LD P n ds Q ks ops (⟨some d,op,ty,pos,af,none⟩::l) S G):LD P n ds Q ks ops (⟨some d,op,ty,pos,af,some (j,want)⟩::l) S G:=⟨λ hS w hw=>by
 have hy:=Uw hS hj hg;have:=h.run hS w hw;unfold wpList at this ⊢;rw[if_pos (by simp[Region.wanted])] at this;rw[if_pos (by simp[Region.wanted,hy])]
 exact this⟩
theorem I0{x:Operand}{cap:Array Value}(hx:ev S x=.func (.func f) #[] cap)(h:LD P n (⟨.fn (.func f) cap,#[]⟩::ds) Q ks ops l S G):LD P n ds Q ks ops (⟨none,.defer {callee:=.value x,args:=⟨[]⟩,argTypes:=⟨[]⟩},ty,pos,af,none⟩::l) S G:=⟨λ hS w hw =>
 wpList_plain rfl λ K hK=>by
  unfold Oper.wp;rw[jK hS];have hr:(execOp (ev S) ⟨none,.defer {callee:=.value x,args:=⟨[]⟩,argTypes:=⟨[]⟩},ty,pos,af,none⟩).run P w=.ok (.defer ⟨.fn (.func f) cap,#[]⟩) w:=by simp[execOp,resolve,hx,Deferred.ofValue]
  rw[hr];exact hK _ _ (h.run hS w hw)⟩
theorem V5{P:Program}{fn:Func}{c:Code}{args:Array Value}{w:World}{R:Ending->World->Prop}{n:Nat}{G:World->Prop}(hf:P.funcs[f]?=some fn)(hn:fn.ntmps=n)(hb:fn.body=some c)(hlen:Nat.ble args.size n=true)(hG:G w)(h:KD P n [] (bodyPostD P fn R) [.code c] (cC 0 args.toList) G):Calls P f args w R:=by subst hn;have hl:args.size<=fn.ntmps:=Nat.le_of_ble_eq_true hlen;refine calls_of_wp_defers hf hb ?_;rw[P3 _ _ hl];exact h.run (M6 _ _ _ (by simpa using hl)) w hG
def Idle(P:Program)(g:FuncId)(cap:Array Value):Prop:=∀w,CallsD P g cap .returning w λ e u' w'=>e=.returned (.tuple #[])/\u'=.returning/\w'=w
variable{w0:World}{M:List Nat}{H:List (Nat×Obj)}{A F:Fr}{O:List Ow}
theorem Hr{fn:Func}{R:Ending->World->Prop}{rs:List ResultVar}{vs:List Value}{g:FuncId}{cap:Array Value}(hi:Idle P g cap)(hp:plain P g=true)(hr:fn.results=⟨rs⟩)(hv:kH P S H rs vs)(h:∀w,SF w0 M H A F O w->R (.returned (sE vs)) w) :
  KD P n [⟨.fn (.func g) cap,#[]⟩] (bodyPostD P fn R) (.code .ret::ks) S (SF w0 M H A F O) :=
 aBM λ hS w hw=>by
  refine leaves_cons (f:=g) (args:=cap) (by simp) (by simp[invoke,qG hp]) ?_;refine(hi w).mono ?_;rintro e u' w' ⟨rfl,rfl,rfl⟩;exact⟨_,Oa hS hw.st hr hv,h _ hw⟩
variable{d:Nat}{ty t:TypeId}{pos:String}{af:Array Edge}{gd:Option (Nat×Bool)}{dst:Option Nat}{x y:Operand}{v:Value}{w w':World}
variable{fn:Fn}{vs:List Value}{b i:Nat}{t':TypeId}
theorem cG{cap:List Operand}(hc:qR S cap=vs:=by(repeat (first|exact cN _|(apply bX;focus ((conv=>{lhs;whnf});try exact rfl))));done):aM P S G ⟨some d,.makeFunc fn ⟨[]⟩ ⟨cap⟩,ty,pos,af,gd⟩ (.func fn #[] ⟨vs⟩):=⟨λ w _=>by
 subst hc;have hm:(cap.map (ev S)).toArray=⟨qR S cap⟩:=by rw[Bn]
 simp only[execOp,List.map_toArray,List.map_nil,hm];rfl⟩
theorem Ov{a b:Array Value}(hx:ev S x=.func fn a b)(hy:ev S y=.nilFunc)(h:∀w,(binOp .eql t (.func fn a b) .nilFunc).run P w=.ok (.bool false) w):aM P S G ⟨some d,.binOp .eql t x y t',ty,pos,af,gd⟩ (.bool false):=⟨λ w _=>by simp[execOp,hx,hy,h w,eqGuard]⟩
theorem W1{pv:Value}{t2:TypeId}(hx:ev S x=.iface t2 pv)(hy:ev S y=.nilIface)(h:∀w,(binOp .neq t (.iface t2 pv) .nilIface).run P w=.ok (.bool true) w):aM P S G ⟨some d,.binOp .neq t x y t',ty,pos,af,gd⟩ (.bool true):=⟨λ w _=>by simp[execOp,hx,hy,h w,eqGuard]⟩
theorem yj{f:FuncId}{cap:List Value}{os:List Operand}{at_:Array TypeId}(hx:ev S x=.func (.func f) #[] ⟨cap⟩)(hp:plain P f=true)(ha:qR S os=vs)(w:World) :
  (execOp (ev S) ⟨dst,.call {callee:=.value x,args:=⟨os⟩,argTypes:=at_},ty,pos,af,gd⟩).run P w=.ok (.enter f ⟨vs++cap⟩) w:=by
 subst ha;have hm:(os.map (ev S)).toArray=⟨qR S os⟩:=by rw[Bn]
 simp[execOp,resolve,hx,Deferred.ofValue,invoke,qG hp,hm]
theorem Qt{α:Type}:∀(l:List α) (i:Nat),(rZ l i).Sublist l
 | [],_=>List.Sublist.refl _
 | _::_,0=>List.sublist_cons_self ..
 | _::r,i+1=>(Qt r i).cons_cons _
theorem At.perm{H:List (Nat×Obj)}{o:Obj}(h:At H i b o):H.Perm ((b,o)::rZ H i):=by
 induction h with
 | head=>exact List.Perm.refl _
 | tail _ ih=>exact(ih.cons _).trans (List.Perm.swap _ _ _)
theorem SF.dD(h:SF w0 M H A F O w){cs:List Value}{T:TypeId}(ha:At H i b (.cells ⟨cs⟩ T (0,0))):SF w0 M (rZ H i) A ((some ⟨b,0,none⟩,cs)::F) O w:=by
 have hp:=h.perm ha.perm.symm (List.Perm.refl _);have hs:(Ks (rZ H i) O).Sublist (Ks ((b,.cells ⟨cs⟩ T (0,0))::rZ H i) O):=by unfold Ks;exact((List.sublist_cons_self ..).map _).append (List.Sublist.refl _)
 have hd:=hp.dis;have hb:b∉Ks (rZ H i) O:=by unfold Ks at hd ⊢;simp only[List.map_cons,List.cons_append,List.nodup_cons] at hd;exact hd.1
 refine⟨h.st.sub (Qt H i),λ f hf=>⟨(hp.bS f hf).1,λ hc hm=>(hp.bS f hf).2 hc (hs.subset hm)⟩,λ f hf=>?_,h.own,hp.dis.sublist hs⟩;rcases List.mem_cons.1 hf with rfl|hf;·refine⟨Cl.block (pre:=[]) (rest:=[]) (T:=T) (fr:=(0,0)) (by simpa using h.st.at ha) rfl,λ _=>⟨hb,?_⟩⟩;exact(h.st.new _ ha.mem).symm
 ·exact⟨(h.new f hf).1,λ hc=>⟨λ hm=>((hp.new f hf).2 hc).1 (hs.subset hm),((h.new f hf).2 hc).2⟩⟩
end
end
end Go.Ct
namespace Go.Proofs.YtbajmaoegmbfgaaGreat
open Go.Proofs.Tryz
open Go Go.RowKit Go.Ct
section
variable{n:Nat}{Q:Exit->Act->World->Prop}{ks:List CK}{S:List (Nat×Value)}{ops:Array Oper}{l ol:List Oper}{pl:rA}{LL:List Nat}{Dl Dp Dq:List Nat}
variable{w0:World}{M:List Nat}{H:List (Nat×Obj)}{A F:Fr}{O:List Ow}{G:World->Prop}{i d:Nat}{v:Value}{op:Op}{ty:TypeId}{pos:String}{af:Array Edge}{gd:Option (Nat×Bool)}{X:Type}{V:X->Value}{G':X->World->Prop}{j g:Nat}{want t:Bool}
variable{ds:List Deferred}
theorem qC(h:LD prog n ds Q ks ops l ((d,v)::S) G)(hq:aM prog S G ⟨some d,op,ty,pos,af,none⟩ v:=by exact V6 wn)(hd:Nat.blt d n=true:=by exact rfl):LD prog n ds Q ks ops (⟨some d,op,ty,pos,af,none⟩::l) S G:=iB hq hd h
theorem xq(h:LD prog n ds Q ks ops l ((d,v)::S) G)(hq:aM prog S G ⟨some d,op,ty,pos,af,none⟩ v:=by first|exact I9 rf wn|exact Gj rf wn|exact o_pick_b rf rf rf)(hd:Nat.blt d n=true:=by exact rfl):LD prog n ds Q ks ops (⟨some d,op,ty,pos,af,none⟩::l) S G:=iB hq hd h
theorem eQ(h:LD prog n ds Q ks ops l ((d,v)::S) G)(hq:aM prog S G ⟨some d,op,ty,pos,af,none⟩ v:=by first|exact uC rf fl1|exact sC rf fl1)(hd:Nat.blt d n=true:=by exact rfl):LD prog n ds Q ks ops (⟨some d,op,ty,pos,af,none⟩::l) S G:=iB hq hd h
theorem oL(h:LD prog n ds Q ks ops l ((d,v)::S) G)(hq:aM prog S G ⟨some d,op,ty,pos,af,none⟩ v:=by exact O6)(hd:Nat.blt d n=true:=by exact rfl):LD prog n ds Q ks ops (⟨some d,op,ty,pos,af,none⟩::l) S G:=iB hq hd h
theorem mi(h:LD prog n ds Q ks ops l ((d,v)::S) G)(hq:aM prog S G ⟨some d,op,ty,pos,af,none⟩ v:=by exact jh)(hd:Nat.blt d n=true:=by exact rfl):LD prog n ds Q ks ops (⟨some d,op,ty,pos,af,none⟩::l) S G:=iB hq hd h
theorem su(h:∀x,LD prog n ds Q ks ops l ((d,V x)::S) (G' x))(hq:bG prog S G ⟨some d,op,ty,pos,af,none⟩ X V G':=by first|exact gE λ _=>Xc rf|exact gE λ _=>Oz rf rfl)(hd:Nat.blt d n=true:=by exact rfl):LD prog n ds Q ks ops (⟨some d,op,ty,pos,af,none⟩::l) S G:=F3 hq hd h
theorem xL(h:∀x,LD prog n ds Q ks ops l ((d,V x)::S) (G' x))(hq:bG prog S G ⟨some d,op,ty,pos,af,none⟩ X V G':=by exact F7)(hd:Nat.blt d n=true:=by exact rfl):LD prog n ds Q ks ops (⟨some d,op,ty,pos,af,none⟩::l) S G:=F3 hq hd h
theorem Aq(h:∀x,LD prog n ds Q ks ops l ((d,V x)::S) (G' x))(hq:bG prog S G ⟨some d,op,ty,pos,af,none⟩ X V G':=by exact fD (Bk wn))(hd:Nat.blt d n=true:=by exact rfl):LD prog n ds Q ks ops (⟨some d,op,ty,pos,af,none⟩::l) S G:=F3 hq hd h
theorem Pq(h:∀x,LD prog n ds Q ks ops l S (G' x))(hq:bG prog S G ⟨none,op,ty,pos,af,none⟩ X V G':=by exact Mz):LD prog n ds Q ks ops (⟨none,op,ty,pos,af,none⟩::l) S G:=Ri hq h
theorem B9{φ:X->Prop}(hq:bG prog S G ⟨some d,op,ty,pos,af,none⟩ X V (λ x w=>φ x/\G' x w))(h:∀x,φ x->LD prog n ds Q ks ops l ((d,V x)::S) (G' x))(hd:Nat.blt d n=true:=by exact rfl):LD prog n ds Q ks ops (⟨some d,op,ty,pos,af,none⟩::l) S G:=F3 hq hd λ x=>vx (h x)
theorem M3(hq:bG prog S G ⟨none,op,ty,pos,af,none⟩ X V G')(h:∀x,LD prog n ds Q ks ops l S (G' x)):LD prog n ds Q ks ops (⟨none,op,ty,pos,af,none⟩::l) S G:=Ri hq h
theorem xB(h:LD prog n ds Q ks ops (⟨some d,op,ty,pos,af,none⟩::l) S G)(hj:(ops[j]?).bind (·.dst)=some g:=by exact rfl)(hg:Ct.look S g=.bool want:=by exact rfl):LD prog n ds Q ks ops (⟨some d,op,ty,pos,af,some (j,want)⟩::l) S G:=Zz hj hg h
end
end Go.Proofs.YtbajmaoegmbfgaaGreat
namespace Go.Ct
open Go Go.RowKit
section
abbrev Clo:=Option (FuncId×List Value)
abbrev fnV:Clo->Value
 | none=>.nilFunc
 | some p=>.func (.func p.1) #[] ⟨p.2⟩
structure Cd where
 a:Ac
 f:Clo
 g:Clo
 r:Rs
abbrev Cd.cells(c:Cd):List Value:=[.int .i64 c.a.k,.int .i64 c.a.c,.int .i64 c.a.o,.int .i64 c.a.n,fnV c.f,fnV c.g,.int .i64 c.r.err,.bool c.r.found,.int .u64 c.r.val,.string c.r.key,.int .i64 c.r.fQ,.int .i64 c.r.ref,.int .i64 c.r.root,.bool c.r.ro]
abbrev iG(r:Rs):Cd:=⟨⟨0,0,0,0⟩,none,none,r⟩
abbrev oB(c:Int)(f:FuncId)(cap:List Value):Cd:=⟨⟨1,c,0,0⟩,some (f,cap),none,⟨0,false,0,⟨#[]⟩,0,0,0,false⟩⟩
abbrev wW(c o n:Int)(g:FuncId)(cap:List Value):Cd:=⟨⟨2,c,o,n⟩,none,some (g,cap),⟨0,false,0,⟨#[]⟩,0,0,0,false⟩⟩
theorem cD(c:Cd):c.cells.all (·.oneCell')=true:=by obtain⟨a,f,g,r⟩:=c;cases f<;>cases g<;>rfl
def rj(cs:List Int)(c o:Int):Bool:=decide (1<=c/\c<=(cs.length:Int)/\cs.getD (c-1).toNat 0=o)
theorem X2{cs:List Int}{c o:Int}{r:Bool}(h:r=true↔iQ cs c o):r=rj cs c o:=by rw[Bool.eq_iff_iff,h];unfold rj iQ;rw[decide_eq_true_eq]
end
end Go.Ct
namespace Go.Proofs.YtbajmaoegmbfgaaGreat
open Go.Proofs.Tryz
section
open Go.RowKit Go.Ct
theorem O0(r:Rs)(w:World):Calls prog 77 #[.agg ⟨r.cells⟩] w λ e w'=>e=.returned (.agg ⟨(iG r).cells⟩)/\St w [] [] w':=by refine enter func77 ntmps77 rfl rfl (SF.s0 w) ?_;simp only[cC];refine K1q ?_;intro x1;refine aJ (λ x2=>?_);refine aG ?_;refine nJ ?_;refine wU ?_;refine aZ results77 (λ w hw=>?_);exact⟨rfl,hw.done⟩
theorem oN(c:Int)(f:FuncId)(cap:List Value)(w:World):Calls prog 130 #[.int .i64 c,.func (.func f) #[] ⟨cap⟩] w λ e w'=>e=.returned (.agg ⟨(oB c f cap).cells⟩)/\St w [] [] w':=by refine enter func130 ntmps130 rfl rfl (SF.s0 w) ?_;simp only[cC];refine K0t ?_;intro x4;refine J2 ?_;refine bM ?_;refine aA ?_;refine wU ?_;refine aZ results130 (λ w hw=>?_);exact⟨rfl,hw.done⟩
theorem wY(c o n:Int)(f:FuncId)(cap:List Value)(w:World):Calls prog 119 #[.int .i64 c,.int .i64 o,.int .i64 n,.func (.func f) #[] ⟨cap⟩] w λ e w'=>e=.returned (.agg ⟨(wW c o n f cap).cells⟩)/\St w [] [] w':=by refine enter func119 ntmps119 rfl rfl (SF.s0 w) ?_;simp only[cC];refine J0 ?_;refine aJ (λ x8=>?_);refine aG ?_;refine Kc4 ?_;refine bM ?_;refine aA ?_;refine wU ?_;refine aZ results119 (λ w hw=>?_);exact⟨rfl,hw.done⟩
end
section
open Go Go.RowKit Go.Ct
theorem ly(p:Option Addr)(a:Value)(w:World):(callMethod (.iface 42 (.pointer p)) "Load" #[a]).run prog w=.ok (.enter 35 #[.pointer p,a]) w:=by kernel_rfl
theorem vn(p:Option Addr)(a b c:Value)(w:World):(callMethod (.iface 42 (.pointer p)) "CAS" #[a,b,c]).run prog w=.ok (.enter 279 #[.pointer p,a,b,c]) w:=by kernel_rfl
theorem Ex(p:Option Addr)(w:World):(binOp .neq 123 (.iface 42 (.pointer p)) .nilIface).run prog w=.ok (.bool true) w:=by kernel_rfl
theorem aEb(f:Fn)(a b:Array Value)(w:World):(binOp .eql 135 (.func f a b) .nilFunc).run prog w=.ok (.bool false) w:=by kernel_rfl
theorem aCU(f:Fn)(a b:Array Value)(w:World):(binOp .eql 129 (.func f a b) .nilFunc).run prog w=.ok (.bool false) w:=by kernel_rfl
theorem aDG(f:Fn)(a b:Array Value)(w:World):(binOp .eql 130 (.func f a b) .nilFunc).run prog w=.ok (.bool false) w:=by kernel_rfl
theorem Ty(p:Option Addr):Idle prog 161 #[.pointer p]:=λ w=>by refine callsD_of_wpS func161 rfl λ c₀ cs hu=>?_;apply wpS_seq;apply wpS_region;simp[wpOpsS,go_sem,recoverD,hu,ntmps161,Exit.thenS];refine wpS_cond (t:=false) (by simp[Act.eval,Array.replicate]) ?_;simp only[Bool.false_eq_true,if_false];refine wpS_of_wp (wp_skip ?_);cases c₀;simp_all[bodyPostS,results,results161]
theorem zF(p:Option Addr):Idle prog 129 #[.pointer p]:=λ w=>by refine callsD_of_wpS func129 rfl λ c₀ cs hu=>?_;apply wpS_seq;apply wpS_region;simp[wpOpsS,go_sem,recoverD,hu,ntmps129,Exit.thenS];refine wpS_cond (t:=false) (by simp[Act.eval,Array.replicate]) ?_;simp only[Bool.false_eq_true,if_false];refine wpS_of_wp (wp_skip ?_);cases c₀;simp_all[bodyPostS,results,results129]
section
variable{S:List (Nat×Value)}{w0 w:World}{M:List Nat}{H:List (Nat×Obj)}{A F:Fr}{O:List Ow}{ty:TypeId}{pos:String}{af:Array Edge}{gd:Option (Nat×Bool)}{X:Type}{V:X->Value}
end
end
section
open Go Go.RowKit Go.Ct
section
variable{S:List (Nat×Value)}{w0 w:World}{M:List Nat}{H:List (Nat×Obj)}{A F:Fr}{O:List Ow}{ty:TypeId}{pos:String}{af:Array Edge}{gd:Option (Nat×Bool)}{X:Type}{V:X->Value}
end
end
end Go.Proofs.YtbajmaoegmbfgaaGreat
