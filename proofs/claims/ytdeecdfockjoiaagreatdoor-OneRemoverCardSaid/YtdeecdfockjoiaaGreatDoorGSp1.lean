/- Merged. -/
import Derived.Test.YtdeecdfockjoiaaGreatDoorGLst2
import Derived.Test.YtdeecdfockjoiaaGreatDoorGBr4
import Derived.Test.YtdeecdfockjoiaaGreatDoorGRn0
import Derived.Defers
import Derived.Recover
set_option linter.unusedSimpArgs false
set_option linter.unusedVariables false
namespace Go.Ct
open Go Go.RowKit
section
section
variable{P:Program}{n:Nat}{ds:List Deferred}{Q:Exit->Act->World->Prop}{ks:List CK}{S:List (Nat×Value)}{G:World->Prop}{ops:Array Oper}{l:List Oper}
variable{w0:World}{M:List Nat}{H:List (Nat×Obj)}{A F:Fr}{O:List Ow}
variable{d:Nat}{ty t:TypeId}{pos:String}{af:Array Edge}{gd:Option (Nat×Bool)}{dst:Option Nat}{x y:Operand}{v:Value}{w w':World}
theorem oF{b off i:Nat}{vs old cs:List Value}{T:TypeId}{H':List (Nat×Obj)}(hx:ev S x=.pointer (some ⟨b,off,none⟩))(ha:At H i b (.cells ⟨old⟩ T (0,0)))(hy:ev S y=.agg ⟨vs⟩)(h1:vs.all (·.oneCell')=true)
  (ht:jB P t vs.length=true) (hl:off+vs.length<=old.length) (hcs:old.take off++vs++old.drop (off+vs.length)=cs) (hH:setAt H i (.cells ⟨cs⟩ T (0,0))=H') :
  aW P S (St w0 M H) ⟨none,.store t x y,ty,pos,af,gd⟩ Unit (λ _=>undef) (λ _=>St w0 M H') :=
 lK (λ w hw=>by
  subst hH hcs;have hb:=hw.at ha;obtain⟨dd,hu,hm,hi⟩:=iH ht;have hst:=run_storeCells_at (P:=P) b off T vs 0 ⟨old⟩ w hb (by simpa using hl) (by simpa using h1);simp only[Nat.add_zero] at hst;refine⟨w.setRow b ⟨old.take off++vs++old.drop (off+vs.length)⟩,?_,hw.write ha rfl rfl rfl (by simp) (λ k hk=>setRow_other w b k _ hk) (setRow_heap w b ⟨old⟩ _ T (0,0) hb)⟩;cases hq':P.info? t with
  | none=>rw[hq'] at hi;simp at hi
  | some inf=>
   have hs:inf.size=vs.length:=by rw[hq'] at hi;simpa using hi
   simp[execOp,hx,hy,Instr.storeAt,Instr.sureAddr,storeVar,sizeOf,typeInfo,hq',hs,Value.cells,hst])
end
end
section
section
variable{P:Program}{S:List (Nat×Value)}{w0 w w':World}{M:List Nat}{H:List (Nat×Obj)}{A F:Fr}{O:List Ow}{d:Nat}{ty t:TypeId}{pos:String}{af:Array Edge}{gd:Option (Nat×Bool)}{x y:Operand}{v:Value}
theorem G7{a:Option Addr}{cs vs:List Value}{q k:Nat}(hx:ev S x=.pointer (some ⟨dJ a,eQ a+q,none⟩))(ht:jB P t k=true)(hf:qC A F O a cs)(hv:(cs.drop q).take k=vs)(hl:vs.length=k) :
  aN P S (SF w0 M H A F O) ⟨some d,.load t x,ty,pos,af,gd⟩ (.agg ⟨vs⟩):=⟨λ w hw=>by
 have hcl:=hw.cl hf;obtain⟨dd,hu,hm,hi⟩:=iH ht;have hagg:(isAgg t).run P w=.ok true w:=by unfold isAgg;rw[Sem.run_bind,run_underlying hu w];cases dd<;>simp_all
 have hc:(loadCells ⟨dJ a,eQ a+q,none⟩ k).run P w=.ok ⟨vs⟩ w:=by
  have:=run_loadCells_list (P:=P) w ⟨dJ a,eQ a+q,none⟩ vs (λ j z hz=>by
   subst hv;have hj:=(List.getElem?_eq_some_iff.1 hz).1
   have h2:cs[q+j]?=some z:=by rw[List.getElem?_take_of_lt (by simp at hj;omega),List.getElem?_drop] at hz;exact hz
   rw[Addr.add_lit,show eQ a+q+j=eQ a+(q+j) by omega];exact(hcl.at_ _ _ h2).2)
  rw[hl] at this;simpa using this
 cases hq':P.info? t with
 | none=>rw[hq'] at hi;simp at hi
 | some i=>
  have hs:i.size=k:=by rw[hq'] at hi;simpa using hi
  simp[execOp,hx,Instr.loadAt,Instr.sureAddr,loadVar,hagg,Go.sizeOf,typeInfo,hq',hs,hc]⟩
theorem cG{a:Option Addr}{cs:List Value}{q:Nat}{v:Value}(hx:ev S x=.pointer (some ⟨dJ a,eQ a+q,none⟩))(ht:one P t=true)(hf:qC A F O a cs)(hq:cs[q]?=some v) :
  aN P S (SF w0 M H A F O) ⟨some d,.load t x,ty,pos,af,gd⟩ v:=wP hx ht (λ w hw=>hw.cl hf) hq
end
end
section
structure KD(P:Program)(n:Nat)(ds:List Deferred)(Q:Exit->Act->World->Prop)(ks:List CK)(S:List (Nat×Value))(G:World->Prop):Prop where
 run:Dg n S->∀w,G w->runK P Q ks .normal ⟨eX n S,ds⟩ w
structure LD(P:Program)(n:Nat)(ds:List Deferred)(Q:Exit->Act->World->Prop)(ks:List CK)(ops:Array Oper)(l:List Oper)(S:List (Nat×Value))(G:World->Prop):Prop where
 run:Dg n S->∀w,G w->wpList P ops (runK P Q ks) l ⟨eX n S,ds⟩ w
section
variable{P:Program}{n:Nat}{ds:List Deferred}{Q:Exit->Act->World->Prop}{ks:List CK}{S:List (Nat×Value)}{G:World->Prop}{ops:Array Oper}{l:List Oper}
variable{x y:Code}{t:Bool}{d j g:Nat}{op:Op}{ty:TypeId}{pos:String}{af:Array Edge}{X:Type}{f:FuncId}
theorem fT(h:KD P n ds Q (.code x::.code y::ks) S G):KD P n ds Q (.code (.seq x y)::ks) S G:=⟨λ hS w hw=>by have:=h.run hS w hw;simp only[runK] at this ⊢;rw[Ma] at this;exact wp_seq this⟩
theorem Fo(h:KD P n ds Q ks S G):KD P n ds Q (.code .skip::ks) S G:=⟨λ hS w hw=>wp_skip (h.run hS w hw)⟩
theorem Lm{c:Operand}(ht:t=true->KD P n ds Q (.code x::ks) S G)(hf:t=false->KD P n ds Q (.code y::ks) S G)(hc:ev S c=.bool t:=by exact rfl):KD P n ds Q (.code (.cond c x y)::ks) S G:=⟨λ hS w hw =>
 wp_cond_split (by rw[kE hS];exact hc) (λ h=>(ht h).run hS w hw) (λ h=>(hf h).run hS w hw)⟩
theorem dX{id:Nat}{l:List Oper}(h:LD P n ds Q ks l.toArray l S G):KD P n ds Q (.code (.region id l.toArray false)::ks) S G :=⟨λ hS w hw=>wp_region_lit (h.run hS w hw)⟩
theorem wk{φ:Prop}(h:φ->LD P n ds Q ks ops l S G):LD P n ds Q ks ops l S (λ w=>φ/\G w):=⟨λ hS w hw=>(h hw.1).run hS w hw.2⟩
theorem iA(h:KD P n ds Q ks S G):LD P n ds Q ks ops [] S G:=⟨h.run⟩
theorem aAh(h:Dg n S->∀w,G w->Q .ret ⟨eX n S,ds⟩ w):KD P n ds Q (.code .ret::ks) S G:=⟨λ hS w hw=>wp_ret (wI (h hS w hw))⟩
theorem gL{v:Value}(hrun:aN P S G ⟨some d,op,ty,pos,af,none⟩ v)(hd:Nat.blt d n=true)(h:LD P n ds Q ks ops l ((d,v)::S) G):LD P n ds Q ks ops (⟨some d,op,ty,pos,af,none⟩::l) S G:=⟨λ hS w hw =>
 wpList_plain rfl λ K hK=>by unfold Oper.wp;rw[kE hS,hrun.run w hw];simp only[Oper.upon,I0];exact hK _ _ (h.run (hS.cons hd) w hw)⟩
theorem F4{V:X->Value}{G':X->World->Prop}(hrun:aW P S G ⟨some d,op,ty,pos,af,none⟩ X V G')(hd:Nat.blt d n=true)(h:∀x,LD P n ds Q ks ops l ((d,V x)::S) (G' x)):LD P n ds Q ks ops (⟨some d,op,ty,pos,af,none⟩::l) S G:=⟨λ hS w hw =>
 wpList_plain rfl λ K hK=>by unfold Oper.wp;rw[kE hS];refine(hrun.run w hw).upon λ x w' hg=>?_;rw[I0];exact hK _ _ ((h x).run (hS.cons hd) w' hg)⟩
theorem Rz{V:X->Value}{G':X->World->Prop}(hrun:aW P S G ⟨none,op,ty,pos,af,none⟩ X V G')(h:∀x,LD P n ds Q ks ops l S (G' x)):LD P n ds Q ks ops (⟨none,op,ty,pos,af,none⟩::l) S G:=⟨λ hS w hw =>
 wpList_plain rfl λ K hK=>by unfold Oper.wp;rw[kE hS];exact(hrun.run w hw).upon λ x w' hg=>hK _ _ ((h x).run hS w' hg)⟩
theorem Uv{n:Nat}{S:List (Nat×Value)}{ops:Array Oper}(hS:Dg n S)(hj:(ops[j]?).bind (·.dst)=some g)(hg:look S g=.bool t):yielded ops (eX n S) j=some t:=by
 have e:=congrFun (kE (ds:=[]) hS) (.tmp g);simp only[Act.eval,ev,hg] at e;unfold yielded;rw[hj];simp only[Option.bind_some];rw[Array.getD_eq_getD_getElem?] at e;cases h2:(eX n S)[g]? with
 | none=>rw[h2] at e;simp[undef] at e
 | some u=>rw[h2] at e;simp at e;subst e;rfl
theorem aq{want:Bool}(hj:(ops[j]?).bind (·.dst)=some g)(hg:look S g=.bool want)(h:LD P n ds Q ks ops (⟨some d,op,ty,pos,af,none⟩::l) S G):LD P n ds Q ks ops (⟨some d,op,ty,pos,af,some (j,want)⟩::l) S G:=⟨λ hS w hw=>by
 have hy:=Uv hS hj hg;have:=h.run hS w hw;unfold wpList at this ⊢;rw[if_pos (by simp[Region.wanted])] at this;rw[if_pos (by simp[Region.wanted,hy])]
 exact this⟩
theorem A5{x:Operand}{cap:Array Value}(hx:ev S x=.func (.func f) #[] cap)(h:LD P n (⟨.fn (.func f) cap,#[]⟩::ds) Q ks ops l S G):LD P n ds Q ks ops (⟨none,.defer {callee:=.value x,args:=⟨[]⟩,argTypes:=⟨[]⟩},ty,pos,af,none⟩::l) S G:=⟨λ hS w hw =>
 wpList_plain rfl λ K hK=>by
  unfold Oper.wp;rw[kE hS];have hr:(execOp (ev S) ⟨none,.defer {callee:=.value x,args:=⟨[]⟩,argTypes:=⟨[]⟩},ty,pos,af,none⟩).run P w=.ok (.defer ⟨.fn (.func f) cap,#[]⟩) w:=by simp[execOp,resolve,hx,Deferred.ofValue]
  rw[hr];exact hK _ _ (h.run hS w hw)⟩
theorem Ny{P:Program}{fn:Func}{c:Code}{args:Array Value}{w:World}{R:Ending->World->Prop}{n:Nat}{G:World->Prop}(hf:P.funcs[f]?=some fn)(hn:fn.ntmps=n)(hb:fn.body=some c)(hlen:Nat.ble args.size n=true)(hG:G w)(h:KD P n [] (bodyPostD P fn R) [.code c] (cN 0 args.toList) G):Calls P f args w R:=by subst hn;have hl:args.size<=fn.ntmps:=Nat.le_of_ble_eq_true hlen;refine calls_of_wp_defers hf hb ?_;rw[Qq _ _ hl];exact h.run (Mk _ _ _ (by simpa using hl)) w hG
def Idle(P:Program)(g:FuncId)(cap:Array Value):Prop:=∀w,CallsD P g cap .returning w λ e u' w'=>e=.returned (.tuple #[])/\u'=.returning/\w'=w
variable{w0:World}{M:List Nat}{H:List (Nat×Obj)}{A F:Fr}{O:List Ow}
theorem A6{fn:Func}{R:Ending->World->Prop}{rs:List ResultVar}{vs:List Value}{g:FuncId}{cap:Array Value}(hi:Idle P g cap)(hp:plain P g=true)(hr:fn.results=⟨rs⟩)(hv:kU P S H rs vs)(h:∀w,SF w0 M H A F O w->R (.returned (pE vs)) w) :
  KD P n [⟨.fn (.func g) cap,#[]⟩] (bodyPostD P fn R) (.code .ret::ks) S (SF w0 M H A F O) :=
 aAh λ hS w hw=>by
  refine leaves_cons (f:=g) (args:=cap) (by simp) (by simp[invoke,pB hp]) ?_;refine(hi w).mono ?_;rintro e u' w' ⟨rfl,rfl,rfl⟩;exact⟨_,O2 hS hw.st hr hv,h _ hw⟩
variable{d:Nat}{ty t:TypeId}{pos:String}{af:Array Edge}{gd:Option (Nat×Bool)}{dst:Option Nat}{x y:Operand}{v:Value}{w w':World}
theorem bU{fn:Fn}{cap:List Operand}{vs:List Value}(hc:nZ S cap=vs:=by(repeat (first|exact cB _|(apply bK;focus ((conv=>{lhs;whnf});try exact rfl))));done):aN P S G ⟨some d,.makeFunc fn ⟨[]⟩ ⟨cap⟩,ty,pos,af,gd⟩ (.func fn #[] ⟨vs⟩):=⟨λ w _=>by
 subst hc;have hm:(cap.map (ev S)).toArray=⟨nZ S cap⟩:=by rw[tE]
 simp only[execOp,List.map_toArray,List.map_nil,hm];rfl⟩
theorem Mi{fn:Fn}{a b:Array Value}{t':TypeId}(hx:ev S x=.func fn a b)(hy:ev S y=.nilFunc)(h:∀w,(binOp .eql t (.func fn a b) .nilFunc).run P w=.ok (.bool false) w):aN P S G ⟨some d,.binOp .eql t x y t',ty,pos,af,gd⟩ (.bool false):=⟨λ w _=>by simp[execOp,hx,hy,h w,eqGuard]⟩
theorem Mr{pv:Value}{t2 t':TypeId}(hx:ev S x=.iface t2 pv)(hy:ev S y=.nilIface)(h:∀w,(binOp .neq t (.iface t2 pv) .nilIface).run P w=.ok (.bool true) w):aN P S G ⟨some d,.binOp .neq t x y t',ty,pos,af,gd⟩ (.bool true):=⟨λ w _=>by simp[execOp,hx,hy,h w,eqGuard]⟩
theorem P2{α:Type}:∀(l:List α) (i:Nat),(rW l i).Sublist l
 | [],_=>List.Sublist.refl _
 | _::_,0=>List.sublist_cons_self ..
 | _::r,i+1=>(P2 r i).cons_cons _
theorem At.perm{H:List (Nat×Obj)}{i b:Nat}{o:Obj}(h:At H i b o):H.Perm ((b,o)::rW H i):=by
 induction h with
 | head=>exact List.Perm.refl _
 | tail _ ih=>exact(ih.cons _).trans (List.Perm.swap _ _ _)
theorem SF.bS(h:SF w0 M H A F O w){i b:Nat}{cs:List Value}{T:TypeId}(ha:At H i b (.cells ⟨cs⟩ T (0,0))):SF w0 M (rW H i) A ((some ⟨b,0,none⟩,cs)::F) O w:=by
 have hp:=h.perm ha.perm.symm (List.Perm.refl _);have hs:(Ks (rW H i) O).Sublist (Ks ((b,.cells ⟨cs⟩ T (0,0))::rW H i) O):=by unfold Ks;exact((List.sublist_cons_self ..).map _).append (List.Sublist.refl _)
 have hd:=hp.dis;have hb:b∉Ks (rW H i) O:=by unfold Ks at hd ⊢;simp only[List.map_cons,List.cons_append,List.nodup_cons] at hd;exact hd.1
 refine⟨h.st.sub (P2 H i),λ f hf=>⟨(hp.old f hf).1,λ hc hm=>(hp.old f hf).2 hc (hs.subset hm)⟩,λ f hf=>?_,h.own,hp.dis.sublist hs⟩;rcases List.mem_cons.1 hf with rfl|hf;·refine⟨Cl.block (pre:=[]) (rest:=[]) (T:=T) (fr:=(0,0)) (by simpa using h.st.at ha) rfl,λ _=>⟨hb,?_⟩⟩;exact(h.st.new _ ha.mem).symm
 ·exact⟨(h.new f hf).1,λ hc=>⟨λ hm=>((hp.new f hf).2 hc).1 (hs.subset hm),((h.new f hf).2 hc).2⟩⟩
end
end
end Go.Ct
namespace Go.Proofs.YtdeecdfockjoiaaGreatDoor
open Go.Proofs.Tryz
open Go Go.RowKit Go.Ct
section
variable{n:Nat}{Q:Exit->Act->World->Prop}{ks:List CK}{S:List (Nat×Value)}{ops:Array Oper}{l ol:List Oper}{pl:nS}{LL:List Nat}{Dl Dp Dq:List Nat}
variable{w0:World}{M:List Nat}{H:List (Nat×Obj)}{A F:Fr}{O:List Ow}{G:World->Prop}{i d:Nat}{v:Value}{op:Op}{ty:TypeId}{pos:String}{af:Array Edge}{gd:Option (Nat×Bool)}{X:Type}{V:X->Value}{G':X->World->Prop}{j g:Nat}{want t:Bool}
variable{ds:List Deferred}
theorem lC(h:LD prog n ds Q ks ops l ((d,v)::S) G)(hq:aN prog S G ⟨some d,op,ty,pos,af,none⟩ v:=by exact Tg wn)(hd:Nat.blt d n=true:=by exact rfl):LD prog n ds Q ks ops (⟨some d,op,ty,pos,af,none⟩::l) S G:=gL hq hd h
theorem rv(h:LD prog n ds Q ks ops l ((d,v)::S) G)(hq:aN prog S G ⟨some d,op,ty,pos,af,none⟩ v:=by first|exact Ic rf wn|exact H7 rf wn|exact o_pick_b rf rf rf)(hd:Nat.blt d n=true:=by exact rfl):LD prog n ds Q ks ops (⟨some d,op,ty,pos,af,none⟩::l) S G:=gL hq hd h
theorem fL(h:LD prog n ds Q ks ops l ((d,v)::S) G)(hq:aN prog S G ⟨some d,op,ty,pos,af,none⟩ v:=by first|exact sN rf fl1|exact qR rf fl1)(hd:Nat.blt d n=true:=by exact rfl):LD prog n ds Q ks ops (⟨some d,op,ty,pos,af,none⟩::l) S G:=gL hq hd h
theorem nU(h:LD prog n ds Q ks ops l ((d,v)::S) G)(hq:aN prog S G ⟨some d,op,ty,pos,af,none⟩ v:=by exact O8)(hd:Nat.blt d n=true:=by exact rfl):LD prog n ds Q ks ops (⟨some d,op,ty,pos,af,none⟩::l) S G:=gL hq hd h
theorem ja(h:LD prog n ds Q ks ops l ((d,v)::S) G)(hq:aN prog S G ⟨some d,op,ty,pos,af,none⟩ v:=by exact M0)(hd:Nat.blt d n=true:=by exact rfl):LD prog n ds Q ks ops (⟨some d,op,ty,pos,af,none⟩::l) S G:=gL hq hd h
theorem o8(h:LD prog n ds Q ks ops l ((d,v)::S) G)(hq:aN prog S G ⟨some d,op,ty,pos,af,none⟩ v:=by exact gb)(hd:Nat.blt d n=true:=by exact rfl):LD prog n ds Q ks ops (⟨some d,op,ty,pos,af,none⟩::l) S G:=gL hq hd h
theorem ic(h:∀x,LD prog n ds Q ks ops l ((d,V x)::S) (G' x))(hq:aW prog S G ⟨some d,op,ty,pos,af,none⟩ X V G':=by first|exact cC λ _=>We rf|exact cC λ _=>Nr rf rfl)(hd:Nat.blt d n=true:=by exact rfl):LD prog n ds Q ks ops (⟨some d,op,ty,pos,af,none⟩::l) S G:=F4 hq hd h
theorem sB(h:∀x,LD prog n ds Q ks ops l ((d,V x)::S) (G' x))(hq:aW prog S G ⟨some d,op,ty,pos,af,none⟩ X V G':=by exact Ft)(hd:Nat.blt d n=true:=by exact rfl):LD prog n ds Q ks ops (⟨some d,op,ty,pos,af,none⟩::l) S G:=F4 hq hd h
theorem sZ(h:∀x,LD prog n ds Q ks ops l ((d,V x)::S) (G' x))(hq:aW prog S G ⟨some d,op,ty,pos,af,none⟩ X V G':=by exact kK (Jb wn))(hd:Nat.blt d n=true:=by exact rfl):LD prog n ds Q ks ops (⟨some d,op,ty,pos,af,none⟩::l) S G:=F4 hq hd h
theorem Q3(h:∀x,LD prog n ds Q ks ops l S (G' x))(hq:aW prog S G ⟨none,op,ty,pos,af,none⟩ X V G':=by exact Nz):LD prog n ds Q ks ops (⟨none,op,ty,pos,af,none⟩::l) S G:=Rz hq h
theorem tD{φ:X->Prop}(hq:aW prog S G ⟨some d,op,ty,pos,af,none⟩ X V (λ x w=>φ x/\G' x w))(h:∀x,φ x->LD prog n ds Q ks ops l ((d,V x)::S) (G' x))(hd:Nat.blt d n=true:=by exact rfl):LD prog n ds Q ks ops (⟨some d,op,ty,pos,af,none⟩::l) S G:=F4 hq hd λ x=>wk (h x)
theorem F3(hq:aW prog S G ⟨none,op,ty,pos,af,none⟩ X V G')(h:∀x,LD prog n ds Q ks ops l S (G' x)):LD prog n ds Q ks ops (⟨none,op,ty,pos,af,none⟩::l) S G:=Rz hq h
theorem vH(h:LD prog n ds Q ks ops (⟨some d,op,ty,pos,af,none⟩::l) S G)(hj:(ops[j]?).bind (·.dst)=some g:=by exact rfl)(hg:Ct.look S g=.bool want:=by exact rfl):LD prog n ds Q ks ops (⟨some d,op,ty,pos,af,some (j,want)⟩::l) S G:=aq hj hg h
end
end Go.Proofs.YtdeecdfockjoiaaGreatDoor
namespace Go.Ct
open Go Go.RowKit
section
abbrev Clo:=Option (FuncId×List Value)
abbrev fnV:Clo->Value
 | none=>.nilFunc
 | some p=>.func (.func p.1) #[] ⟨p.2⟩
structure Cd where
 a:Ac
 f:Clo
 g:Clo
 r:Rs
abbrev Cd.cells(c:Cd):List Value:=[.int .i64 c.a.k,.int .i64 c.a.c,.int .i64 c.a.o,.int .i64 c.a.n,fnV c.f,fnV c.g,.int .i64 c.r.err,.bool c.r.found,.int .u64 c.r.val,.string c.r.key,.int .i64 c.r.jG,.int .i64 c.r.ref,.int .i64 c.r.root,.bool c.r.ro]
abbrev fE(r:Rs):Cd:=⟨⟨0,0,0,0⟩,none,none,r⟩
abbrev nF(c:Int)(f:FuncId)(cap:List Value):Cd:=⟨⟨1,c,0,0⟩,some (f,cap),none,⟨0,false,0,⟨#[]⟩,0,0,0,false⟩⟩
abbrev uK(c o n:Int)(g:FuncId)(cap:List Value):Cd:=⟨⟨2,c,o,n⟩,none,some (g,cap),⟨0,false,0,⟨#[]⟩,0,0,0,false⟩⟩
theorem aY(c:Cd):c.cells.all (·.oneCell')=true:=by obtain⟨a,f,g,r⟩:=c;cases f<;>cases g<;>rfl
end
end Go.Ct
namespace Go.Proofs.YtdeecdfockjoiaaGreatDoor
open Go.Proofs.Tryz
section
open Go.RowKit Go.Ct
theorem oX(r:Rs)(w:World):Calls prog 60 #[.agg ⟨r.cells⟩] w λ e w'=>e=.returned (.agg ⟨(fE r).cells⟩)/\St w [] [] w':=by refine enter func60 ntmps60 rfl rfl (SF.s0 w) ?_;simp only[cN];refine J0 ?_;refine bC (λ x1=>?_);refine aJ (λ x2=>?_);refine aE ?_;refine oT ?_;refine Sv ?_;refine bF results60 (λ w hw=>?_);exact⟨rfl,hw.done⟩
theorem nE(c:Int)(f:FuncId)(cap:List Value)(w:World):Calls prog 100 #[.int .i64 c,.func (.func f) #[] ⟨cap⟩] w λ e w'=>e=.returned (.agg ⟨(nF c f cap).cells⟩)/\St w [] [] w':=by refine enter func100 ntmps100 rfl rfl (SF.s0 w) ?_;simp only[cN];refine K2f ?_;intro x4;refine Kb5 ?_;refine cI ?_;refine aB ?_;refine Sv ?_;refine bF results100 (λ w hw=>?_);exact⟨rfl,hw.done⟩
theorem sY(c o n:Int)(f:FuncId)(cap:List Value)(w:World):Calls prog 169 #[.int .i64 c,.int .i64 o,.int .i64 n,.func (.func f) #[] ⟨cap⟩] w λ e w'=>e=.returned (.agg ⟨(uK c o n f cap).cells⟩)/\St w [] [] w':=by refine enter func169 ntmps169 rfl rfl (SF.s0 w) ?_;simp only[cN];refine J0 ?_;refine aJ (λ x8=>?_);refine Ke2 ?_;refine aB ?_;refine cI ?_;refine aB ?_;refine Sv ?_;refine bF results169 (λ w hw=>?_);exact⟨rfl,hw.done⟩
end
section
open Go Go.RowKit Go.Ct
theorem ou(p:Option Addr)(a:Value)(w:World):(callMethod (.iface 63 (.pointer p)) "Load" #[a]).run prog w=.ok (.enter 337 #[.pointer p,a]) w:=by kernel_rfl
theorem wo(p:Option Addr)(a b c:Value)(w:World):(callMethod (.iface 63 (.pointer p)) "CAS" #[a,b,c]).run prog w=.ok (.enter 336 #[.pointer p,a,b,c]) w:=by kernel_rfl
theorem vA(p:Option Addr)(w:World):(binOp .neq 100 (.iface 63 (.pointer p)) .nilIface).run prog w=.ok (.bool true) w:=by kernel_rfl
theorem aB9(f:Fn)(a b:Array Value)(w:World):(binOp .eql 156 (.func f a b) .nilFunc).run prog w=.ok (.bool false) w:=by kernel_rfl
theorem aDe(f:Fn)(a b:Array Value)(w:World):(binOp .eql 115 (.func f a b) .nilFunc).run prog w=.ok (.bool false) w:=by kernel_rfl
theorem aB8(f:Fn)(a b:Array Value)(w:World):(binOp .eql 116 (.func f a b) .nilFunc).run prog w=.ok (.bool false) w:=by kernel_rfl
theorem T7(p:Option Addr):Idle prog 129 #[.pointer p]:=λ w=>by refine callsD_of_wpS func129 rfl λ c₀ cs hu=>?_;apply wpS_seq;apply wpS_region;simp[wpOpsS,go_sem,recoverD,hu,ntmps129,Exit.thenS];refine wpS_cond (t:=false) E1o ?_;simp only[Bool.false_eq_true,if_false];refine wpS_of_wp (wp_skip ?_);cases c₀;simp_all[bodyPostS,results,results129]
theorem yD(p:Option Addr):Idle prog 72 #[.pointer p]:=λ w=>by refine callsD_of_wpS func72 rfl λ c₀ cs hu=>?_;apply wpS_seq;apply wpS_region;simp[wpOpsS,go_sem,recoverD,hu,ntmps72,Exit.thenS];refine wpS_cond (t:=false) E1o ?_;simp only[Bool.false_eq_true,if_false];refine wpS_of_wp (wp_skip ?_);cases c₀;simp_all[bodyPostS,results,results72]
section
variable{S:List (Nat×Value)}{w0 w:World}{M:List Nat}{H:List (Nat×Obj)}{A F:Fr}{O:List Ow}{ty:TypeId}{pos:String}{af:Array Edge}{gd:Option (Nat×Bool)}{X:Type}{V:X->Value}
end
end
section
open Go Go.RowKit Go.Ct
section
variable{S:List (Nat×Value)}{w0 w:World}{M:List Nat}{H:List (Nat×Obj)}{A F:Fr}{O:List Ow}{ty:TypeId}{pos:String}{af:Array Edge}{gd:Option (Nat×Bool)}{X:Type}{V:X->Value}
end
end
end Go.Proofs.YtdeecdfockjoiaaGreatDoor
