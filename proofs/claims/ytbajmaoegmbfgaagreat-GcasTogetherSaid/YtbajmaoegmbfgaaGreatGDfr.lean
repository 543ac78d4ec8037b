/- The engine, part 13: function values that capture, deferred calls, and blocks that are frozen. -/
import Derived.Test.YtbajmaoegmbfgaaGreatGAr8
import Derived.Defers
import Derived.Recover
import Derived.Test.YtbajmaoegmbfgaaGreatGAr2
import Derived.Test.YtbajmaoegmbfgaaGreatGNode2
import Derived.Lib.Bytealg
import Derived.Laws.Externs

set_option linter.unusedSimpArgs false
set_option linter.unusedVariables false
namespace Go.Ct
section
open Go Go.RowKit
structure KD(P:Program)(n:Nat)(ds:List Deferred)(Q:Exit->Act->World->Prop)(ks:List CK)(S:List (Nat×Value))(G:World->Prop):Prop where
 run:C9 n S->∀w,G w->runK P Q ks .normal ⟨dO n S,ds⟩ w
structure LD(P:Program)(n:Nat)(ds:List Deferred)(Q:Exit->Act->World->Prop)(ks:List CK)(ops:Array Oper)(l:List Oper)(S:List (Nat×Value))(G:World->Prop):Prop where
 run:C9 n S->∀w,G w->wpList P ops (runK P Q ks) l ⟨dO n S,ds⟩ w
section
variable{P:Program}{n:Nat}{ds:List Deferred}{Q:Exit->Act->World->Prop}{ks:List CK}{S:List (Nat×Value)}{G:World->Prop}{ops:Array Oper}{l:List Oper}
theorem gD{x y:Code}(h:KD P n ds Q (.code x::.code y::ks) S G):KD P n ds Q (.code (.seq x y)::ks) S G:=⟨λ hS w hw=>by
 have:=h.run hS w hw
 simp only[runK] at this ⊢
 rw[Kd] at this
 exact wp_seq this⟩
theorem E7(h:KD P n ds Q ks S G):KD P n ds Q (.code .skip::ks) S G:=⟨λ hS w hw=>wp_skip (h.run hS w hw)⟩
theorem K2{c:Operand}{x y:Code}{t:Bool}(ht:t=true->KD P n ds Q (.code x::ks) S G)
  (hf:t=false->KD P n ds Q (.code y::ks) S G) (hc:ev S c=.bool t:=by exact rfl):KD P n ds Q (.code (.cond c x y)::ks) S G:=⟨λ hS w hw =>
 wp_cond_split (by rw[iV hS];exact hc) (λ h=>(ht h).run hS w hw) (λ h=>(hf h).run hS w hw)⟩
theorem dR{id:Nat}{l:List Oper}(h:LD P n ds Q ks l.toArray l S G):KD P n ds Q (.code (.region id l.toArray false)::ks) S G :=
 ⟨λ hS w hw=>wp_region_lit (h.run hS w hw)⟩
theorem r9{φ:Prop}(h:φ->LD P n ds Q ks ops l S G):LD P n ds Q ks ops l S (λ w=>φ/\G w):=⟨λ hS w hw=>(h hw.1).run hS w hw.2⟩
theorem iN(h:KD P n ds Q ks S G):LD P n ds Q ks ops [] S G:=⟨h.run⟩
theorem aAg(h:C9 n S->∀w,G w->Q .ret ⟨dO n S,ds⟩ w):KD P n ds Q (.code .ret::ks) S G:=⟨λ hS w hw=>wp_ret (wU (h hS w hw))⟩
theorem gT{d:Nat}{op:Op}{ty:TypeId}{pos:String}{af:Array Edge}{v:Value}(hrun:aM P S G ⟨some d,op,ty,pos,af,none⟩ v)(hd:Nat.blt d n=true)
  (h:LD P n ds Q ks ops l ((d,v)::S) G):LD P n ds Q ks ops (⟨some d,op,ty,pos,af,none⟩::l) S G:=⟨λ hS w hw =>
 wpList_plain rfl λ K hK=>by
  unfold Oper.wp
  rw[iV hS,hrun.run w hw]
  simp only[Oper.upon,Bp]
  exact hK _ _ (h.run (hS.cons hd) w hw)⟩
theorem E6{X:Type}{V:X->Value}{G':X->World->Prop}{d:Nat}{op:Op}{ty:TypeId}{pos:String}{af:Array Edge}(hrun:bE P S G ⟨some d,op,ty,pos,af,none⟩ X V G')(hd:Nat.blt d n=true)
  (h:∀x,LD P n ds Q ks ops l ((d,V x)::S) (G' x)):LD P n ds Q ks ops (⟨some d,op,ty,pos,af,none⟩::l) S G:=⟨λ hS w hw =>
 wpList_plain rfl λ K hK=>by
  unfold Oper.wp
  rw[iV hS]
  refine(hrun.run w hw).upon λ x w' hg=>?_
  rw[Bp]
  exact hK _ _ ((h x).run (hS.cons hd) w' hg)⟩
theorem Qq{X:Type}{V:X->Value}{G':X->World->Prop}{op:Op}{ty:TypeId}{pos:String}{af:Array Edge}(hrun:bE P S G ⟨none,op,ty,pos,af,none⟩ X V G')
  (h:∀x,LD P n ds Q ks ops l S (G' x)):LD P n ds Q ks ops (⟨none,op,ty,pos,af,none⟩::l) S G:=⟨λ hS w hw =>
 wpList_plain rfl λ K hK=>by
  unfold Oper.wp
  rw[iV hS]
  exact(hrun.run w hw).upon λ x w' hg=>hK _ _ ((h x).run hS w' hg)⟩
theorem R8{n:Nat}{S:List (Nat×Value)}{ops:Array Oper}{j g:Nat}{t:Bool}(hS:C9 n S)(hj:(ops[j]?).bind (·.dst)=some g)(hg:look S g=.bool t):yielded ops (dO n S) j=some t:=by
 have e:=congrFun (iV (ds:=[]) hS) (.tmp g)
 simp only[Act.eval,ev,hg] at e
 unfold yielded
 rw[hj]
 simp only[Option.bind_some]
 rw[Array.getD_eq_getD_getElem?] at e
 cases h2:(dO n S)[g]? with
 | none=>rw[h2] at e;simp[undef] at e
 | some u=>rw[h2] at e;simp at e;subst e;rfl
theorem Xr{d:Nat}{op:Op}{ty:TypeId}{pos:String}{af:Array Edge}{j:Nat}{want:Bool}{g:Nat}
  (hj:(ops[j]?).bind (·.dst)=some g) (hg:look S g=.bool want)
  (h:LD P n ds Q ks ops (⟨some d,op,ty,pos,af,none⟩::l) S G):LD P n ds Q ks ops (⟨some d,op,ty,pos,af,some (j,want)⟩::l) S G:=⟨λ hS w hw=>by
 have hy:=R8 hS hj hg
 have:=h.run hS w hw
 unfold wpList at this ⊢
 rw[if_pos (by simp[Region.wanted])] at this
 rw[if_pos (by simp[Region.wanted,hy])]
 exact this⟩
theorem Gy{x:Operand}{f:FuncId}{cap:Array Value}{ty:TypeId}{pos:String}{af:Array Edge}(hx:ev S x=.func (.func f) #[] cap)
  (h:LD P n (⟨.fn (.func f) cap,#[]⟩::ds) Q ks ops l S G):LD P n ds Q ks ops (⟨none,.defer {callee:=.value x,args:=⟨[]⟩,argTypes:=⟨[]⟩},ty,pos,af,none⟩::l) S G:=⟨λ hS w hw =>
 wpList_plain rfl λ K hK=>by
  unfold Oper.wp
  rw[iV hS]
  have hr:(execOp (ev S) ⟨none,.defer {callee:=.value x,args:=⟨[]⟩,argTypes:=⟨[]⟩},ty,pos,af,none⟩).run P w=.ok (.defer ⟨.fn (.func f) cap,#[]⟩) w:=by
   simp[execOp,resolve,hx,Deferred.ofValue]
  rw[hr]
  exact hK _ _ (h.run hS w hw)⟩
theorem Tt{P:Program}{f:FuncId}{fn:Func}{c:Code}{args:Array Value}{w:World}{R:Ending->World->Prop}{n:Nat}{G:World->Prop}
  (hf:P.funcs[f]?=some fn) (hn:fn.ntmps=n) (hb:fn.body=some c) (hlen:Nat.ble args.size n=true) (hG:G w)
  (h:KD P n [] (bodyPostD P fn R) [.code c] (bX 0 args.toList) G):Calls P f args w R:=by
 subst hn
 have hl:args.size<=fn.ntmps:=Nat.le_of_ble_eq_true hlen
 refine calls_of_wp_defers hf hb ?_
 rw[Ov _ _ hl]
 exact h.run (Nh _ _ _ (by simpa using hl)) w hG
def Idle(P:Program)(g:FuncId)(cap:Array Value):Prop:=∀w,CallsD P g cap .returning w λ e u' w'=>e=.returned (.tuple #[])/\u'=.returning/\w'=w
variable{w0:World}{M:List Nat}{H:List (Nat×Obj)}{A F:Fr}{O:List Ow}
theorem Fb{fn:Func}{R:Ending->World->Prop}{rs:List ResultVar}{vs:List Value}{g:FuncId}{cap:Array Value}(hi:Idle P g cap)(hp:plain P g=true)(hr:fn.results=⟨rs⟩)(hv:jR P S H rs vs)(h:∀w,SF w0 M H A F O w->R (.returned (qN vs)) w) :
  KD P n [⟨.fn (.func g) cap,#[]⟩] (bodyPostD P fn R) (.code .ret::ks) S (SF w0 M H A F O) :=
 aAg λ hS w hw=>by
  refine leaves_cons (f:=g) (args:=cap) (by simp) (by simp[invoke,sO hp]) ?_
  refine(hi w).mono ?_
  rintro e u' w' ⟨rfl,rfl,rfl⟩
  exact⟨_,M0 hS hw.st hr hv,h _ hw⟩
variable{d:Nat}{ty t:TypeId}{pos:String}{af:Array Edge}{gd:Option (Nat×Bool)}{dst:Option Nat}{x y:Operand}{v:Value}{w w':World}
theorem dD{fn:Fn}{cap:List Operand}{vs:List Value}(hc:qS S cap=vs):aM P S G ⟨some d,.makeFunc fn ⟨[]⟩ ⟨cap⟩,ty,pos,af,gd⟩ (.func fn #[] ⟨vs⟩):=⟨λ w _=>by
 subst hc
 have hm:(cap.map (ev S)).toArray=⟨qS S cap⟩:=by rw[E5]
 simp only[execOp,List.map_toArray,List.map_nil,hm]
 rfl⟩
theorem Ml{fn:Fn}{a b:Array Value}{t':TypeId}(hx:ev S x=.func fn a b)(hy:ev S y=.nilFunc)(h:∀w,(binOp .eql t (.func fn a b) .nilFunc).run P w=.ok (.bool false) w):aM P S G ⟨some d,.binOp .eql t x y t',ty,pos,af,gd⟩ (.bool false):=⟨λ w _=>by
 simp[execOp,hx,hy,h w,eqGuard]⟩
theorem Wm{pv:Value}{t2 t':TypeId}(hx:ev S x=.iface t2 pv)(hy:ev S y=.nilIface)(h:∀w,(binOp .neq t (.iface t2 pv) .nilIface).run P w=.ok (.bool true) w):aM P S G ⟨some d,.binOp .neq t x y t',ty,pos,af,gd⟩ (.bool true):=⟨λ w _=>by
 simp[execOp,hx,hy,h w,eqGuard]⟩
theorem qx{f:FuncId}{cap:List Value}{os:List Operand}{at_:Array TypeId}{vs:List Value}(hx:ev S x=.func (.func f) #[] ⟨cap⟩)(hp:plain P f=true)(ha:qS S os=vs)(w:World) :
  (execOp (ev S) ⟨dst,.call {callee:=.value x,args:=⟨os⟩,argTypes:=at_},ty,pos,af,gd⟩).run P w=.ok (.enter f ⟨vs++cap⟩) w:=by
 subst ha
 have hm:(os.map (ev S)).toArray=⟨qS S os⟩:=by rw[E5]
 simp[execOp,resolve,hx,Deferred.ofValue,invoke,sO hp,hm]
theorem Pe{α:Type}:∀(l:List α) (i:Nat),(qF l i).Sublist l
 | [],_=>List.Sublist.refl _
 | _::_,0=>List.sublist_cons_self ..
 | _::r,i+1=>(Pe r i).cons_cons _
theorem At.perm{H:List (Nat×Obj)}{i b:Nat}{o:Obj}(h:At H i b o):H.Perm ((b,o)::qF H i):=by
 induction h with
 | head=>exact List.Perm.refl _
 | tail _ ih=>exact(ih.cons _).trans (List.Perm.swap _ _ _)
theorem SF.dG(h:SF w0 M H A F O w){i b:Nat}{cs:List Value}{T:TypeId}(ha:At H i b (.cells ⟨cs⟩ T (0,0))):SF w0 M (qF H i) A ((some ⟨b,0,none⟩,cs)::F) O w:=by
 have hp:=h.perm ha.perm.symm (List.Perm.refl _)
 have hs:(Ks (qF H i) O).Sublist (Ks ((b,.cells ⟨cs⟩ T (0,0))::qF H i) O):=by
  unfold Ks
  exact((List.sublist_cons_self ..).map _).append (List.Sublist.refl _)
 have hd:=hp.dis
 have hb:b∉Ks (qF H i) O:=by
  unfold Ks at hd ⊢
  simp only[List.map_cons,List.cons_append,List.nodup_cons] at hd
  exact hd.1
 refine⟨h.st.sub (Pe H i),λ f hf=>⟨(hp.bK f hf).1,λ hc hm=>(hp.bK f hf).2 hc (hs.subset hm)⟩,λ f hf=>?_,h.own,hp.dis.sublist hs⟩
 rcases List.mem_cons.1 hf with rfl|hf
 ·refine⟨Cl.block (pre:=[]) (rest:=[]) (T:=T) (fr:=(0,0)) (by simpa using h.st.at ha) rfl,λ _=>⟨hb,?_⟩⟩
  exact(h.st.new _ ha.mem).symm
 ·exact⟨(h.new f hf).1,λ hc=>⟨λ hm=>((hp.new f hf).2 hc).1 (hs.subset hm),((h.new f hf).2 hc).2⟩⟩
end
end

/- The rules of one operation, in a frame that has deferred calls. Written by a program. -/
end Go.Ct
namespace Go.Proofs.YtbajmaoegmbfgaaGreat
section
open Go Go.RowKit Go.Ct
variable{n:Nat}{Q:Exit->Act->World->Prop}{ks:List CK}{S:List (Nat×Value)}{ops:Array Oper}{l ol:List Oper}{pl:pS}{LL:List Nat}{Dl Dp Dq:List Nat}
variable{w0:World}{M:List Nat}{H:List (Nat×Obj)}{A F:Fr}{O:List Ow}{G:World->Prop}{i d:Nat}{v:Value}{op:Op}{ty:TypeId}{pos:String}{af:Array Edge}{gd:Option (Nat×Bool)}{X:Type}{V:X->Value}{G':X->World->Prop}{j g:Nat}{want t:Bool}
variable{ds:List Deferred}
theorem oQ(h:LD Tryz.prog n ds Q ks ops l ((d,v)::S) G)(hq:aM Tryz.prog S G ⟨some d,op,ty,pos,af,none⟩ v:=by exact Su wn)(hd:Nat.blt d n=true:=by exact rfl):LD Tryz.prog n ds Q ks ops (⟨some d,op,ty,pos,af,none⟩::l) S G:=gT hq hd h
theorem qg(h:LD Tryz.prog n ds Q ks ops l ((d,v)::S) G)(hq:aM Tryz.prog S G ⟨some d,op,ty,pos,af,none⟩ v:=by first|exact Fv rf wn|exact He rf wn|exact o_pick_b rf rf rf)(hd:Nat.blt d n=true:=by exact rfl):LD Tryz.prog n ds Q ks ops (⟨some d,op,ty,pos,af,none⟩::l) S G:=gT hq hd h
theorem eS(h:LD Tryz.prog n ds Q ks ops l ((d,v)::S) G)(hq:aM Tryz.prog S G ⟨some d,op,ty,pos,af,none⟩ v:=by first|exact sS rf fl1|exact qK rf fl1)(hd:Nat.blt d n=true:=by exact rfl):LD Tryz.prog n ds Q ks ops (⟨some d,op,ty,pos,af,none⟩::l) S G:=gT hq hd h
theorem nP(h:LD Tryz.prog n ds Q ks ops l ((d,v)::S) G)(hq:aM Tryz.prog S G ⟨some d,op,ty,pos,af,none⟩ v:=by exact Nl)(hd:Nat.blt d n=true:=by exact rfl):LD Tryz.prog n ds Q ks ops (⟨some d,op,ty,pos,af,none⟩::l) S G:=gT hq hd h
theorem mg(h:LD Tryz.prog n ds Q ks ops l ((d,v)::S) G)(hq:aM Tryz.prog S G ⟨some d,op,ty,pos,af,none⟩ v:=by exact cu)(hd:Nat.blt d n=true:=by exact rfl):LD Tryz.prog n ds Q ks ops (⟨some d,op,ty,pos,af,none⟩::l) S G:=gT hq hd h
theorem jz(h:∀x,LD Tryz.prog n ds Q ks ops l ((d,V x)::S) (G' x))(hq:bE Tryz.prog S G ⟨some d,op,ty,pos,af,none⟩ X V G':=by first|exact jA λ _=>dw rf|exact jA λ _=>Ue rf rfl)(hd:Nat.blt d n=true:=by exact rfl):LD Tryz.prog n ds Q ks ops (⟨some d,op,ty,pos,af,none⟩::l) S G:=E6 hq hd h
theorem wG(h:∀x,LD Tryz.prog n ds Q ks ops l ((d,V x)::S) (G' x))(hq:bE Tryz.prog S G ⟨some d,op,ty,pos,af,none⟩ X V G':=by exact Ez)(hd:Nat.blt d n=true:=by exact rfl):LD Tryz.prog n ds Q ks ops (⟨some d,op,ty,pos,af,none⟩::l) S G:=E6 hq hd h
theorem zW(h:∀x,LD Tryz.prog n ds Q ks ops l ((d,V x)::S) (G' x))(hq:bE Tryz.prog S G ⟨some d,op,ty,pos,af,none⟩ X V G':=by exact gM (Af wn))(hd:Nat.blt d n=true:=by exact rfl):LD Tryz.prog n ds Q ks ops (⟨some d,op,ty,pos,af,none⟩::l) S G:=E6 hq hd h
theorem Qy(h:∀x,LD Tryz.prog n ds Q ks ops l S (G' x))(hq:bE Tryz.prog S G ⟨none,op,ty,pos,af,none⟩ X V G':=by exact M4):LD Tryz.prog n ds Q ks ops (⟨none,op,ty,pos,af,none⟩::l) S G:=Qq hq h
theorem Ab{φ:X->Prop}(hq:bE Tryz.prog S G ⟨some d,op,ty,pos,af,none⟩ X V (λ x w=>φ x/\G' x w))(h:∀x,φ x->LD Tryz.prog n ds Q ks ops l ((d,V x)::S) (G' x))(hd:Nat.blt d n=true:=by exact rfl):LD Tryz.prog n ds Q ks ops (⟨some d,op,ty,pos,af,none⟩::l) S G:=E6 hq hd λ x=>r9 (h x)
theorem M2(hq:bE Tryz.prog S G ⟨none,op,ty,pos,af,none⟩ X V G')(h:∀x,LD Tryz.prog n ds Q ks ops l S (G' x)):LD Tryz.prog n ds Q ks ops (⟨none,op,ty,pos,af,none⟩::l) S G:=Qq hq h
theorem vV(h:LD Tryz.prog n ds Q ks ops (⟨some d,op,ty,pos,af,none⟩::l) S G)(hj:(ops[j]?).bind (·.dst)=some g:=by exact rfl)(hg:Ct.look S g=.bool want:=by exact rfl):LD Tryz.prog n ds Q ks ops (⟨some d,op,ty,pos,af,some (j,want)⟩::l) S G:=Xr hj hg h
end

/- Accesses and results. -/
end Go.Proofs.YtbajmaoegmbfgaaGreat
namespace Go.Ct
section
open Go Go.RowKit
structure Ac where
 k:Int
 c:Int
 o:Int
 n:Int
structure Rs where
 err:Int
 found:Bool
 val:Int
 key:ByteArray
 gI:Int
 ref:Int
 root:Int
 ro:Bool
abbrev Ac.cells(a:Ac):List Value:=[.int .i64 a.k,.int .i64 a.c,.int .i64 a.o,.int .i64 a.n]
abbrev Rs.cells(r:Rs):List Value:=[.int .i64 r.err,.bool r.found,.int .u64 r.val,.string r.key,.int .i64 r.gI,.int .i64 r.ref,.int .i64 r.root,.bool r.ro]
abbrev Rs.zero:Rs:=⟨0,false,0,⟨#[]⟩,0,0,0,false⟩
abbrev Ac.zero:Ac:=⟨0,0,0,0⟩
end

/- Tasks: codes. -/
section
open Go Go.RowKit
abbrev Clo:=Option (FuncId×List Value)
abbrev fnV:Clo->Value
 | none=>.nilFunc
 | some p=>.func (.func p.1) #[] ⟨p.2⟩
structure Cd where
 a:Ac
 f:Clo
 g:Clo
 r:Rs
abbrev Cd.cells(c:Cd):List Value:=[.int .i64 c.a.k,.int .i64 c.a.c,.int .i64 c.a.o,.int .i64 c.a.n,fnV c.f,fnV c.g,.int .i64 c.r.err,.bool c.r.found,.int .u64 c.r.val,.string c.r.key,.int .i64 c.r.gI,.int .i64 c.r.ref,.int .i64 c.r.root,.bool c.r.ro]
abbrev B3(r:Rs):Cd:=⟨⟨0,0,0,0⟩,none,none,r⟩
abbrev sH(c:Int)(f:FuncId)(cap:List Value):Cd:=⟨⟨1,c,0,0⟩,some (f,cap),none,⟨0,false,0,⟨#[]⟩,0,0,0,false⟩⟩
abbrev yL(c o n:Int)(g:FuncId)(cap:List Value):Cd:=⟨⟨2,c,o,n⟩,none,some (g,cap),⟨0,false,0,⟨#[]⟩,0,0,0,false⟩⟩
theorem dM(c:Cd):c.cells.all (·.oneCell')=true:=by
 obtain⟨a,f,g,r⟩:=c
 cases f<;>cases g<;>rfl
def dq(cs:List Int)(c o:Int):Bool:=decide (1<=c/\c<=(cs.length:Int)/\cs.getD (c-1).toNat 0=o)
theorem Ww{cs:List Int}{c o:Int}{r:Bool}(h:r=true↔kF cs c o):r=dq cs c o:=by
 rw[Bool.eq_iff_iff,h]
 unfold dq kF
 rw[decide_eq_true_eq]
end
end Go.Ct
namespace Go.Proofs.YtbajmaoegmbfgaaGreat
section
open Go.RowKit Go.Ct
theorem Xd(r:Rs)(w:World):Calls Tryz.prog 77 #[.agg ⟨r.cells⟩] w λ e w'=>e=.returned (.agg ⟨(B3 r).cells⟩)/\St w [] [] w':=by
 refine enter Tryz.func77 Tryz.ntmps77 rfl rfl (SF.s0 w) ?_
 simp only[bX]
 refine J0 ?_;refine bI (λ x1=>?_);refine aJ (λ x2=>?_);refine aH ?_;refine nQ ?_;refine vB ?_
 refine bC Tryz.results77 (λ w hw=>?_)
 exact⟨rfl,hw.done⟩
theorem xS(c:Int)(f:FuncId)(cap:List Value)(w:World):Calls Tryz.prog 130 #[.int .i64 c,.func (.func f) #[] ⟨cap⟩] w λ e w'=>e=.returned (.agg ⟨(sH c f cap).cells⟩)/\St w [] [] w':=by
 refine enter Tryz.func130 Tryz.ntmps130 rfl rfl (SF.s0 w) ?_
 simp only[bX]
 refine J0 ?_;refine aJ (λ x4=>?_);refine aH ?_;refine J2 ?_;refine bJ ?_;refine aA ?_;refine vB ?_
 refine bC Tryz.results130 (λ w hw=>?_)
 exact⟨rfl,hw.done⟩
theorem zF(c o n:Int)(f:FuncId)(cap:List Value)(w:World):Calls Tryz.prog 119 #[.int .i64 c,.int .i64 o,.int .i64 n,.func (.func f) #[] ⟨cap⟩] w λ e w'=>e=.returned (.agg ⟨(yL c o n f cap).cells⟩)/\St w [] [] w':=by
 refine enter Tryz.func119 Tryz.ntmps119 rfl rfl (SF.s0 w) ?_
 simp only[bX]
 refine J0 ?_;refine aJ (λ x8=>?_);refine aH ?_;refine iR ?_;refine aA ?_;refine bJ ?_;refine aA ?_;refine vB ?_
 refine bC Tryz.results119 (λ w hw=>?_)
 exact⟨rfl,hw.done⟩
end

/- Tasks: calls through the store, of function values; what is deferred does nothing. -/
section
open Go Go.RowKit Go.Ct
theorem dh(p:Option Addr)(a:Value)(w:World):(callMethod (.iface 42 (.pointer p)) "Load" #[a]).run Tryz.prog w=.ok (.enter 35 #[.pointer p,a]) w:=by kernel_rfl
theorem rk(p:Option Addr)(a b c:Value)(w:World):(callMethod (.iface 42 (.pointer p)) "CAS" #[a,b,c]).run Tryz.prog w=.ok (.enter 279 #[.pointer p,a,b,c]) w:=by kernel_rfl
theorem Dy(p:Option Addr)(w:World):(binOp .neq 123 (.iface 42 (.pointer p)) .nilIface).run Tryz.prog w=.ok (.bool true) w:=by kernel_rfl
theorem aA3(f:Fn)(a b:Array Value)(w:World):(binOp .eql 135 (.func f a b) .nilFunc).run Tryz.prog w=.ok (.bool false) w:=by kernel_rfl
theorem aBJ(f:Fn)(a b:Array Value)(w:World):(binOp .eql 129 (.func f a b) .nilFunc).run Tryz.prog w=.ok (.bool false) w:=by kernel_rfl
theorem aAD(f:Fn)(a b:Array Value)(w:World):(binOp .eql 130 (.func f a b) .nilFunc).run Tryz.prog w=.ok (.bool false) w:=by kernel_rfl
theorem Ua(p:Option Addr):Idle Tryz.prog 161 #[.pointer p]:=λ w=>by
 refine callsD_of_wpS Tryz.func161 rfl λ c₀ cs hu=>?_
 apply wpS_seq
 apply wpS_region
 simp[wpOpsS,go_sem,recoverD,hu,Tryz.ntmps161,Exit.thenS]
 refine wpS_cond (t:=false) (by simp[Act.eval,Array.replicate]) ?_
 simp only[Bool.false_eq_true,if_false]
 refine wpS_of_wp (wp_skip ?_)
 cases c₀
 simp_all[bodyPostS,results,Tryz.results161]
theorem yP(p:Option Addr):Idle Tryz.prog 129 #[.pointer p]:=λ w=>by
 refine callsD_of_wpS Tryz.func129 rfl λ c₀ cs hu=>?_
 apply wpS_seq
 apply wpS_region
 simp[wpOpsS,go_sem,recoverD,hu,Tryz.ntmps129,Exit.thenS]
 refine wpS_cond (t:=false) (by simp[Act.eval,Array.replicate]) ?_
 simp only[Bool.false_eq_true,if_false]
 refine wpS_of_wp (wp_skip ?_)
 cases c₀
 simp_all[bodyPostS,results,Tryz.results129]
section
variable{S:List (Nat×Value)}{w0 w:World}{M:List Nat}{H:List (Nat×Obj)}{A F:Fr}{O:List Ow}{ty:TypeId}{pos:String}{af:Array Edge}{gd:Option (Nat×Bool)}{X:Type}{V:X->Value}
end
end

/- Tasks: calls of function values that change known blocks. -/
section
open Go Go.RowKit Go.Ct
section
variable{S:List (Nat×Value)}{w0 w:World}{M:List Nat}{H:List (Nat×Obj)}{A F:Fr}{O:List Ow}{ty:TypeId}{pos:String}{af:Array Edge}{gd:Option (Nat×Bool)}{X:Type}{V:X->Value}
end
end

/- Pairs: valid lists are maps. -/
section
open Go.RowKit Go.Ct
theorem aAf{a b c:ByteArray}(h:dH a b=true)(h2:dH c b=false):dH a c=true:=by
 cases hb:dH b c with
 | true=>exact lO h hb
 | false=>have:=qQ hb h2;subst this;exact h
theorem w8{a b c:ByteArray}(h:dH b a=false)(h2:dH c b=false):dH c a=false:=by
 cases hc:dH c a with
 | false=>rfl
 | true=>have:=aAf hc h;rw[this] at h2;cases h2
theorem qY{a b:ByteArray}(h:dH a b=true):a≠b:=λ e=>by subst e;rw[tB] at h;cases h
theorem ir{a b:ByteArray}(h:dH b a=false)(hn:a≠b):dH a b=true:=by
 cases hb:dH a b with
 | true=>rfl
 | false=>exact absurd (qQ hb h) hn
def SA(l:List Pr):Prop:=l.Pairwise λ p q=>dH p.1 q.1=true
theorem Wn{l:List Pr}(h:vz l):∀d i,i+d+1<l.length->dH (l.getD i (⟨#[]⟩,0)).1 (l.getD (i+d+1) (⟨#[]⟩,0)).1=true
 | 0,i,hi=>by have:=h (i+1) (by omega) hi;rwa [Nat.add_sub_cancel] at this
 | d+1,i,hi=>lO (Wn h d i (by omega)) (by have:=h (i+(d+1)+1) (by omega) hi;rwa [Nat.add_sub_cancel] at this)
theorem iL{l:List Pr}{i:Nat}(h:i<l.length):l.getD i (⟨#[]⟩,0)=l[i]:=by simp[List.getD,List.getElem?_eq_getElem h]
theorem oK{l:List Pr}:vz l↔SA l:=by
 constructor
 ·intro h
  refine List.pairwise_iff_getElem.2 λ i j hi hj hij=>?_
  have:=Wn h (j-i-1) i (by omega)
  rw[show i+(j-i-1)+1=j by omega,iL hi,iL hj] at this
  exact this
 ·intro h i h1 hi
  rw[iL (by omega),iL hi]
  exact List.pairwise_iff_getElem.1 h (i-1) i (by omega) hi (by omega)
def rH:List Pr->ByteArray->Option Int
 | [],_=>none
 | p::l,k=>if p.1=k then some p.2 else rH l k
theorem pX{l:List Pr}{k:ByteArray}(h:∀p∈l,p.1≠k):rH l k=none:=by
 induction l with
 | nil=>rfl
 | cons p l ih=>exact(if_neg (h p (.head _))).trans (ih λ q hq=>h q (.tail _ hq))
theorem nf:∀{l m:List Pr},SA l->SA m->(∀k,rH l k=rH m k)->l=m
 | [],[],_,_,_=>rfl
 | [],q::m,_,_,h=>by have:=h q.1;simp[rH] at this
 | p::l,[],_,_,h=>by have:=h p.1;simp[rH] at this
 | p::l,q::m,h1,h2,h=>by
  have h1':=List.pairwise_cons.1 h1
  have h2':=List.pairwise_cons.1 h2
  have e1:dH p.1 q.1=false:=by
   cases hb:dH p.1 q.1 with
   | false=>rfl
   | true =>
    have:rH (q::m) p.1=none:=pX λ x hx=>by
     rcases List.mem_cons.1 hx with rfl|hx
     ·exact(qY hb).symm
     ·exact(qY (lO hb (h2'.1 x hx))).symm
    have h':=h p.1
    rw[this] at h';simp[rH] at h'
  have e2:dH q.1 p.1=false:=by
   cases hb:dH q.1 p.1 with
   | false=>rfl
   | true =>
    have:rH (p::l) q.1=none:=pX λ x hx=>by
     rcases List.mem_cons.1 hx with rfl|hx
     ·exact(qY hb).symm
     ·exact(qY (lO hb (h1'.1 x hx))).symm
    have h':=h q.1
    rw[this] at h';simp[rH] at h'
  have ek:=qQ e1 e2
  have ev:p.2=q.2:=by have:=h p.1;simpa[rH,ek] using this
  have et:l=m:=nf h1'.2 h2'.2 λ k=>by
   by_cases hk:p.1=k
   ·subst hk
    rw[pX λ x hx=>(qY (h1'.1 x hx)).symm,pX λ x hx=>by rw[ek];exact(qY (h2'.1 x hx)).symm]
   ·have:=h k
    rw[rH,rH,if_neg hk,if_neg (by rw[<- ek];exact hk)] at this
    exact this
  rw[et,show p=q from Prod.ext ek ev]
def mH:List Pr->ByteArray->Int->List Pr
 | [],k,v=>[(k,v)]
 | p::l,k,v=>if dH p.1 k=true then p::mH l k v else if p.1=k then(k,v)::l else(k,v)::p::l
def iU(l:List Pr)(k:ByteArray):List Pr:=l.filter λ p=>decide (p.1≠k)
theorem A4{l:List Pr}{k:ByteArray}{v:Int}:∀{q:Pr},q∈mH l k v->q=(k,v)∨q∈l:=by
 induction l with
 | nil=>intro q h;rw[mH,List.mem_singleton] at h;exact .inl h
 | cons p l ih =>
  intro q h
  rw[mH] at h
  split at h
  ·rcases List.mem_cons.1 h with rfl|h
   ·exact .inr (.head _)
   ·exact(ih h).imp id (.tail _)
  ·split at h
   ·exact(List.mem_cons.1 h).imp id (.tail _)
   ·exact List.mem_cons.1 h
theorem xV{k:ByteArray}{v:Int}:∀{l:List Pr},SA l->SA (mH l k v)
 | [],_=>List.pairwise_singleton _ _
 | p::l,h=>by
  have h':=List.pairwise_cons.1 h
  rw[mH]
  split
  ·next hlt =>
   refine List.pairwise_cons.2 ⟨λ q hq=>?_,xV h'.2⟩
   rcases A4 hq with rfl|hq
   ·exact hlt
   ·exact h'.1 q hq
  ·next hlt =>
   split
   ·next he =>
    subst he
    exact List.pairwise_cons.2 ⟨λ q hq=>h'.1 q hq,h'.2⟩
   ·next hne =>
    have hkp:dH k p.1=true:=ir (by simpa using hlt) (λ e=>hne e.symm)
    refine List.pairwise_cons.2 ⟨λ q hq=>?_,h⟩
    rcases List.mem_cons.1 hq with rfl|hq
    ·exact hkp
    ·exact lO hkp (h'.1 q hq)
theorem H3{k:ByteArray}{v:Int}(j:ByteArray):∀{l:List Pr},SA l->rH (mH l k v) j=if j=k then some v else rH l j
 | [],_=>by
  simp only[mH,rH]
  by_cases h:j=k
  ·rw[if_pos h,if_pos h.symm]
  ·rw[if_neg h,if_neg λ e=>h e.symm]
 | p::l,h=>by
  have h':=List.pairwise_cons.1 h
  have ih:=H3 (k:=k) (v:=v) j h'.2
  rw[mH]
  split
  ·next hlt =>
   rw[rH,ih,rH]
   by_cases hj:j=k
   ·rw[if_pos hj,if_pos hj,if_neg λ e=>qY hlt (e.trans hj)]
   ·rw[if_neg hj,if_neg hj]
  ·split
   ·next he =>
    rw[rH,rH]
    by_cases hj:j=k
    ·rw[if_pos hj,if_pos hj.symm]
    ·rw[if_neg hj,if_neg λ e=>hj e.symm,if_neg λ e=>hj (e.symm.trans he)]
   ·rw[rH]
    by_cases hj:j=k
    ·rw[if_pos hj,if_pos hj.symm]
    ·rw[if_neg hj,if_neg λ e=>hj e.symm]
theorem vU{l:List Pr}(k:ByteArray)(h:SA l):SA (iU l k):=h.sublist List.filter_sublist
theorem Xt(l:List Pr)(k j:ByteArray):rH (iU l k) j=if j=k then none else rH l j:=by
 unfold iU
 induction l with
 | nil=>simp[rH]
 | cons p l ih =>
  rw[List.filter_cons]
  by_cases hp:p.1=k
  ·rw[if_neg (by simp[hp]),ih,rH]
   by_cases hj:j=k
   ·rw[if_pos hj,if_pos hj]
   ·rw[if_neg hj,if_neg hj,if_neg λ e=>hj (e.symm.trans hp)]
  ·rw[if_pos (by simp[hp]),rH,ih,rH]
   by_cases hj:j=k
   ·rw[if_pos hj,if_pos hj,if_neg λ e=>hp (e.trans hj)]
   ·rw[if_neg hj,if_neg hj]
theorem Qx{l:List Pr}(h:SA l)(k:ByteArray)(v:Int):mH (iU l k) k v=mH l k v :=
 nf (xV (vU k h)) (xV h) λ j=>by
  rw[H3 j (vU k h),H3 j h,Xt]
  by_cases hj:j=k
  ·rw[if_pos hj,if_pos hj]
  ·rw[if_neg hj,if_neg hj,if_neg hj]
structure Q1(l:List Pr)(k:ByteArray)(i:Nat):Prop where
 le:i<=l.length
 lo:∀j,j<i->dH (l.getD j (⟨#[]⟩,0)).1 k=true
 hi:∀j,i<=j->j<l.length->dH (l.getD j (⟨#[]⟩,0)).1 k=false
theorem Q1.tl{p:Pr}{l:List Pr}{k:ByteArray}{i:Nat}(h:Q1 (p::l) k (i+1)):dH p.1 k=true/\Q1 l k i :=
 ⟨h.lo 0 (by omega),⟨by have:=h.le;simp at this;omega,λ j hj=>h.lo (j+1) (by omega),λ j h1 h2=>h.hi (j+1) (by omega) (by simp;omega)⟩⟩
theorem Ut{k:ByteArray}{v:Int}:∀{l:List Pr} {i:Nat},Q1 l k i->¬(i<l.length/\(l.getD i (⟨#[]⟩,0)).1=k)->mH l k v=l.take i++(k,v)::l.drop i
 | [],i,h,_=>by have:=h.le;simp at this;subst this;rfl
 | p::l,0,h,hn=>by
  have:dH p.1 k=false:=h.hi 0 (Nat.le_refl _) (by simp)
  rw[mH,if_neg (by rw[this];decide),if_neg λ e:p.1=k=>hn ⟨by simp,e⟩]
  rfl
 | p::l,i+1,h,hn=>by
  rw[mH,if_pos h.tl.1,Ut h.tl.2 λ hh=>hn ⟨by simp;omega,hh.2⟩]
  rfl
theorem gj{k:ByteArray}:∀{l:List Pr} {v:Int},rH l k=some v->∃i,i<l.length/\(l.getD i (⟨#[]⟩,0)).1=k
 | [],_,h=>by cases h
 | p::l,v,h=>by
  rw[rH] at h
  split at h
  ·next he=>exact⟨0,by simp,he⟩
  ·obtain⟨i,h1,h2⟩:=gj h
   exact⟨i+1,by simp;omega,h2⟩
theorem xN{k:ByteArray}{v:Int}:∀{l:List Pr},SA l->(mH l k v).length=if(rH l k).isSome=true then l.length else l.length+1
 | [],_=>rfl
 | p::l,h=>by
  have h':=List.pairwise_cons.1 h
  rw[mH]
  split
  ·next hlt =>
   rw[List.length_cons,xN h'.2,rH,if_neg (qY hlt)]
   split<;>rfl
  ·next hlt =>
   split
   ·next he=>rw[rH,if_pos he];rfl
   ·next hne =>
    have hkp:dH k p.1=true:=ir (by simpa using hlt) (λ e=>hne e.symm)
    rw[rH,if_neg hne,pX λ q hq=>(qY (lO hkp (h'.1 q hq))).symm]
    rfl
theorem Pw{k:ByteArray}:∀{l:List Pr},SA l->(iU l k).length=if(rH l k).isSome=true then l.length-1 else l.length
 | [],_=>rfl
 | p::l,h=>by
  have h':=List.pairwise_cons.1 h
  have ih:=Pw (k:=k) h'.2
  unfold iU at ih ⊢
  rw[List.filter_cons]
  by_cases hp:p.1=k
  ·have hn:∀q∈l,q.1≠k:=λ q hq=>by rw[<- hp];exact(qY (h'.1 q hq)).symm
   rw[if_neg (by simp[hp]),rH,if_pos hp,List.filter_eq_self.2 λ q hq=>by simpa using hn q hq]
   rfl
  ·rw[if_pos (by simp[hp]),List.length_cons,ih,rH,if_neg hp]
   split
   ·next hs =>
    have:1<=l.length:=by
     cases hf:rH l k with
     | none=>rw[hf] at hs;cases hs
     | some v=>obtain⟨i,hi,_⟩:=gj hf;omega
    rw[List.length_cons];omega
   ·rfl
def D1(l:List Pr):List Pr:=l.foldl (λ acc p=>mH acc p.1 p.2) []
theorem wP(l:List Pr)(p:Pr):D1 (l++[p])=mH (D1 l) p.1 p.2:=by unfold D1;rw[List.foldl_append];rfl
theorem Ol{α:Type}{Q:List α->Prop}(h0:Q [])(h1:∀l x,Q l->Q (l++[x]))(l:List α):Q l:=by
 have key:∀m:List α,Q m.reverse:=λ m=>by
  induction m with
  | nil=>exact h0
  | cons x m ih=>rw[List.reverse_cons];exact h1 _ _ ih
 have:=key l.reverse
 rwa [List.reverse_reverse] at this
theorem gi(l:List Pr):SA (D1 l):=by
 induction l using Ol with
 | h0=>exact List.Pairwise.nil
 | h1 l x ih=>rw[wP];exact xV ih
theorem Wt(l:List Pr):(D1 l).length<=l.length:=by
 induction l using Ol with
 | h0=>exact Nat.le_refl _
 | h1 l x ih =>
  rw[wP,xN (gi l),List.length_append,List.length_singleton]
  split<;>omega
end

/- Pairs: comparing, searching; Find, Put, Drop. -/
end Go.Proofs.YtbajmaoegmbfgaaGreat
namespace Go.Ct
section
open Go Go.RowKit
variable{P:Program}{S:List (Nat×Value)}{w0 w:World}{M:List Nat}{H:List (Nat×Obj)}{A F:Fr}{O:List Ow}
theorem bP{G:World->Prop}{d:Nat}{ty:TypeId}{pos:String}{af:Array Edge}{gd:Option (Nat×Bool)}{x:Operand}{vs:List Value}{k:Nat}{v:Value}(hx:ev S x=.tuple ⟨vs⟩)(hk:vs[k]?=some v):aM P S G ⟨some d,.extract x k,ty,pos,af,gd⟩ v:=⟨λ w _=>by
 simp[execOp,hx,Instr.extract,hk]⟩
end
end Go.Ct
namespace Go.Proofs.YtbajmaoegmbfgaaGreat
section
open Go.RowKit Go.Ct
theorem aBP{l:List Pr}{k:ByteArray}{h:Nat}(hs:SA l)(hc:dH (l.getD h (⟨#[]⟩,0)).1 k=false)(j:Nat)(h1:h<=j)(hj:j<l.length):dH (l.getD j (⟨#[]⟩,0)).1 k=false:=by
 rcases Nat.lt_or_eq_of_le h1 with h2|rfl
 ·have:=List.pairwise_iff_getElem.1 hs h j (by omega) hj h2
  rw[<- iL,<- iL] at this
  exact w8 hc (De this)
 ·exact hc
end

/- Pairs: Find, Put, Drop of the program. -/
end Go.Proofs.YtbajmaoegmbfgaaGreat
namespace Go.Ct
section
open Go Go.RowKit
section
variable{P:Program}{n:Nat}{S:List (Nat×Value)}
variable{w0 w w':World}{M:List Nat}{H H':List (Nat×Obj)}{A F F':Fr}{O O':List Ow}{G:World->Prop}
variable{d:Nat}{ty:TypeId}{pos:String}{af:Array Edge}{gd:Option (Nat×Bool)}{dst:Option Nat}{x y z:Operand}{t t2 e:TypeId}{p a:Option Addr}{i m k c c2:Nat}
def tlP(a:Option Addr)(k c:Nat):Option Addr:=if c=k then a else a.map (·.add (2*k))
theorem gg(hx:ev S x=.slice a m c)(hy:ev S y=.int .i64 ((k:Nat):Int))(ht:P.underlying t=some (.slice e))(hs:(P.info? e).map (·.size)=some 2)(hk:k<=m)(hmc:m<=c) :
  aM P S G ⟨some d,.slice t x (some y) none none,ty,pos,af,gd⟩ (.slice (tlP a k c) (m-k) (c-k)):=⟨λ w _=>by
 have he:P.elem t=e:=by simp[Program.elem,ht]
 have ht':P.underlying t=some (.slice (P.elem t)):=by rw[he];exact ht
 cases hi:P.info? e with
 | none=>simp[hi] at hs
 | some inf =>
  have hs':inf.size=2:=by simpa[hi] using hs
  have hr:=run_slice_l (P:=P) w t a m c ht' .i64 (k:Int) (by omega) (by omega)
  refine dk (v:=.slice (tlP a k c) (m-k) (c-k)) ?_
  simp[hx,hy,run_sliceAt_slice w t _ _ _ _ ht',hr,he,sizeOf,typeInfo,hi,hs',sliced,tlP,Nat.mul_comm]⟩
theorem SF.aA0(h:SF w0 M H A F O w){l:List Pr}(hf:qD A F [] a (cU l))(hc:l.length<=c):SF w0 M H ((tlP a k c,cU (l.drop k))::A) F O w:=by
 have e:cU (l.drop k)=(cU l).drop (2*k):=by rw[Pc]
 rw[e]
 refine h.Si hf (λ hn=>?_) (λ h=>by rw[h];simp) (λ w hc'=>?_)
 ·unfold tlP
  split
  ·rfl
  ·cases a with
   | none=>rfl
   | some a =>
    obtain⟨b,o,s⟩:=a
    simp only[Option.map_some,cK,Addr.add]
    split<;>rfl
 ·unfold tlP
  split
  ·rename_i heq
   have:(cU l).drop (2*k)=[]:=List.drop_eq_nil_of_le (by rw[gS];omega)
   rw[this]
   exact Cl.nil _ _
  ·exact hc'.drop _
end
end
end Go.Ct
namespace Go.Proofs.YtbajmaoegmbfgaaGreat
section
open Go.RowKit Go.Ct
section
variable{l:List Pr}{a:Option Addr}{c:Nat}{k:ByteArray}{v:Int}{w:World}
open Classical in
noncomputable def dS (l:List Pr) (k:ByteArray):Option Int:=if SA l then rH l k else none
open Classical in
noncomputable def Q4 (l:List Pr) (k:ByteArray) (v:Int):List Pr:=if SA l then mH l k v else []
open Classical in
noncomputable def rV (l:List Pr) (k:ByteArray):List Pr:=if SA l then iU l k else []
def r0(w:World)(m:List Pr)(e:Ending)(w':World):Prop:=∃x:Option Addr×Nat,e=.returned (.slice x.1 m.length x.2)/\m.length<=x.2/\SF w [] [] [] [] [⟨x.1,cU m,x.2,164,2⟩] w'
def Xx(w:World)(m:List Pr)(e:Ending)(w':World):Prop:=∃x:Option Addr×Nat,e=.returned (.slice x.1 m.length x.2)/\m.length<=x.2/\SF w [] [] [] [(x.1,cU m)] [] w'
theorem r0.Tn{w:World}{m:List Pr}{e:Ending}{w':World}(h:r0 w m e w'):Xx w m e w':=by
 obtain⟨x,h1,h2,h3⟩:=h
 exact⟨x,h1,h2,h3.freeze .head (by simp)⟩
end
end

end Go.Proofs.YtbajmaoegmbfgaaGreat
