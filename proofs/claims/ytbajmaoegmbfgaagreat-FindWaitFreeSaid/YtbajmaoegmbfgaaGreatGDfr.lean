/- The engine, part 13: function values that capture, deferred calls, and blocks that are frozen. -/
import Derived.Test.YtbajmaoegmbfgaaGreatGAr8
import Derived.Defers
import Derived.Recover
import Derived.Test.YtbajmaoegmbfgaaGreatGMs1

set_option linter.unusedSimpArgs false
set_option linter.unusedVariables false
namespace Go.Ct
section
open Go Go.RowKit
structure KD(P:Program)(n:Nat)(ds:List Deferred)(Q:Exit->Act->World->Prop)(ks:List CK)(S:List (Nat×Value))(G:World->Prop):Prop where
 run:Dr n S->∀w,G w->runK P Q ks .normal ⟨dR n S,ds⟩ w
structure LD(P:Program)(n:Nat)(ds:List Deferred)(Q:Exit->Act->World->Prop)(ks:List CK)(ops:Array Oper)(l:List Oper)(S:List (Nat×Value))(G:World->Prop):Prop where
 run:Dr n S->∀w,G w->wpList P ops (runK P Q ks) l ⟨dR n S,ds⟩ w
section
variable{P:Program}{n:Nat}{ds:List Deferred}{Q:Exit->Act->World->Prop}{ks:List CK}{S:List (Nat×Value)}{G:World->Prop}{ops:Array Oper}{l:List Oper}
theorem fT{x y:Code}(h:KD P n ds Q (.code x::.code y::ks) S G):KD P n ds Q (.code (.seq x y)::ks) S G:=⟨λ hS w hw=>by
 have:=h.run hS w hw
 simp only[runK] at this ⊢
 rw[I7] at this
 exact wp_seq this⟩
theorem Ep(h:KD P n ds Q ks S G):KD P n ds Q (.code .skip::ks) S G:=⟨λ hS w hw=>wp_skip (h.run hS w hw)⟩
theorem Jp{c:Operand}{x y:Code}{t:Bool}(ht:t=true->KD P n ds Q (.code x::ks) S G)
  (hf:t=false->KD P n ds Q (.code y::ks) S G) (hc:ev S c=.bool t:=by exact rfl):KD P n ds Q (.code (.cond c x y)::ks) S G:=⟨λ hS w hw =>
 wp_cond_split (by rw[iV hS];exact hc) (λ h=>(ht h).run hS w hw) (λ h=>(hf h).run hS w hw)⟩
theorem dU{id:Nat}{l:List Oper}(h:LD P n ds Q ks l.toArray l S G):KD P n ds Q (.code (.region id l.toArray false)::ks) S G :=
 ⟨λ hS w hw=>wp_region_lit (h.run hS w hw)⟩
theorem tf{φ:Prop}(h:φ->LD P n ds Q ks ops l S G):LD P n ds Q ks ops l S (λ w=>φ/\G w):=⟨λ hS w hw=>(h hw.1).run hS w hw.2⟩
theorem iH(h:KD P n ds Q ks S G):LD P n ds Q ks ops [] S G:=⟨h.run⟩
theorem yy(h:Dr n S->∀w,G w->Q .ret ⟨dR n S,ds⟩ w):KD P n ds Q (.code .ret::ks) S G:=⟨λ hS w hw=>wp_ret (vG (h hS w hw))⟩
theorem gL{d:Nat}{op:Op}{ty:TypeId}{pos:String}{af:Array Edge}{v:Value}(hrun:aL P S G ⟨some d,op,ty,pos,af,none⟩ v)(hd:Nat.blt d n=true)
  (h:LD P n ds Q ks ops l ((d,v)::S) G):LD P n ds Q ks ops (⟨some d,op,ty,pos,af,none⟩::l) S G:=⟨λ hS w hw =>
 wpList_plain rfl λ K hK=>by
  unfold Oper.wp
  rw[iV hS,hrun.run w hw]
  simp only[Oper.upon,Cc]
  exact hK _ _ (h.run (hS.cons hd) w hw)⟩
theorem Ex{X:Type}{V:X->Value}{G':X->World->Prop}{d:Nat}{op:Op}{ty:TypeId}{pos:String}{af:Array Edge}(hrun:bF P S G ⟨some d,op,ty,pos,af,none⟩ X V G')(hd:Nat.blt d n=true)
  (h:∀x,LD P n ds Q ks ops l ((d,V x)::S) (G' x)):LD P n ds Q ks ops (⟨some d,op,ty,pos,af,none⟩::l) S G:=⟨λ hS w hw =>
 wpList_plain rfl λ K hK=>by
  unfold Oper.wp
  rw[iV hS]
  refine(hrun.run w hw).upon λ x w' hg=>?_
  rw[Cc]
  exact hK _ _ ((h x).run (hS.cons hd) w' hg)⟩
theorem Qk{X:Type}{V:X->Value}{G':X->World->Prop}{op:Op}{ty:TypeId}{pos:String}{af:Array Edge}(hrun:bF P S G ⟨none,op,ty,pos,af,none⟩ X V G')
  (h:∀x,LD P n ds Q ks ops l S (G' x)):LD P n ds Q ks ops (⟨none,op,ty,pos,af,none⟩::l) S G:=⟨λ hS w hw =>
 wpList_plain rfl λ K hK=>by
  unfold Oper.wp
  rw[iV hS]
  exact(hrun.run w hw).upon λ x w' hg=>hK _ _ ((h x).run hS w' hg)⟩
theorem R3{n:Nat}{S:List (Nat×Value)}{ops:Array Oper}{j g:Nat}{t:Bool}(hS:Dr n S)(hj:(ops[j]?).bind (·.dst)=some g)(hg:look S g=.bool t):yielded ops (dR n S) j=some t:=by
 have e:=congrFun (iV (ds:=[]) hS) (.tmp g)
 simp only[Act.eval,ev,hg] at e
 unfold yielded
 rw[hj]
 simp only[Option.bind_some]
 rw[Array.getD_eq_getD_getElem?] at e
 cases h2:(dR n S)[g]? with
 | none=>rw[h2] at e;simp[undef] at e
 | some u=>rw[h2] at e;simp at e;subst e;rfl
theorem Xs{d:Nat}{op:Op}{ty:TypeId}{pos:String}{af:Array Edge}{j:Nat}{want:Bool}{g:Nat}
  (hj:(ops[j]?).bind (·.dst)=some g) (hg:look S g=.bool want)
  (h:LD P n ds Q ks ops (⟨some d,op,ty,pos,af,none⟩::l) S G):LD P n ds Q ks ops (⟨some d,op,ty,pos,af,some (j,want)⟩::l) S G:=⟨λ hS w hw=>by
 have hy:=R3 hS hj hg
 have:=h.run hS w hw
 unfold wpList at this ⊢
 rw[if_pos (by simp[Region.wanted])] at this
 rw[if_pos (by simp[Region.wanted,hy])]
 exact this⟩
theorem Ii{x:Operand}{f:FuncId}{cap:Array Value}{ty:TypeId}{pos:String}{af:Array Edge}(hx:ev S x=.func (.func f) #[] cap)
  (h:LD P n (⟨.fn (.func f) cap,#[]⟩::ds) Q ks ops l S G):LD P n ds Q ks ops (⟨none,.defer {callee:=.value x,args:=⟨[]⟩,argTypes:=⟨[]⟩},ty,pos,af,none⟩::l) S G:=⟨λ hS w hw =>
 wpList_plain rfl λ K hK=>by
  unfold Oper.wp
  rw[iV hS]
  have hr:(execOp (ev S) ⟨none,.defer {callee:=.value x,args:=⟨[]⟩,argTypes:=⟨[]⟩},ty,pos,af,none⟩).run P w=.ok (.defer ⟨.fn (.func f) cap,#[]⟩) w:=by
   simp[execOp,resolve,hx,Deferred.ofValue]
  rw[hr]
  exact hK _ _ (h.run hS w hw)⟩
theorem Ti{P:Program}{f:FuncId}{fn:Func}{c:Code}{args:Array Value}{w:World}{R:Ending->World->Prop}{n:Nat}{G:World->Prop}
  (hf:P.funcs[f]?=some fn) (hn:fn.ntmps=n) (hb:fn.body=some c) (hlen:Nat.ble args.size n=true) (hG:G w)
  (h:KD P n [] (bodyPostD P fn R) [.code c] (bY 0 args.toList) G):Calls P f args w R:=by
 subst hn
 have hl:args.size<=fn.ntmps:=Nat.le_of_ble_eq_true hlen
 refine calls_of_wp_defers hf hb ?_
 rw[O9 _ _ hl]
 exact h.run (Ln _ _ _ (by simpa using hl)) w hG
def Idle(P:Program)(g:FuncId)(cap:Array Value):Prop:=∀w,CallsD P g cap .returning w λ e u' w'=>e=.returned (.tuple #[])/\u'=.returning/\w'=w
variable{w0:World}{M:List Nat}{H:List (Nat×Obj)}{A F:Fr}{O:List Ow}
theorem Ij{fn:Func}{R:Ending->World->Prop}{rs:List ResultVar}{vs:List Value}{g:FuncId}{cap:Array Value}(hi:Idle P g cap)(hp:plain P g=true)(hr:fn.results=⟨rs⟩)(hv:kF P S H rs vs)(h:∀w,SF w0 M H A F O w->R (.returned (qU vs)) w) :
  KD P n [⟨.fn (.func g) cap,#[]⟩] (bodyPostD P fn R) (.code .ret::ks) S (SF w0 M H A F O) :=
 yy λ hS w hw=>by
  refine leaves_cons (f:=g) (args:=cap) (by simp) (by simp[invoke,oY hp]) ?_
  refine(hi w).mono ?_
  rintro e u' w' ⟨rfl,rfl,rfl⟩
  exact⟨_,Mo hS hw.st hr hv,h _ hw⟩
variable{d:Nat}{ty t:TypeId}{pos:String}{af:Array Edge}{gd:Option (Nat×Bool)}{dst:Option Nat}{x y:Operand}{v:Value}{w w':World}
theorem cA{fn:Fn}{cap:List Operand}{vs:List Value}(hc:pI S cap=vs):aL P S G ⟨some d,.makeFunc fn ⟨[]⟩ ⟨cap⟩,ty,pos,af,gd⟩ (.func fn #[] ⟨vs⟩):=⟨λ w _=>by
 subst hc
 have hm:(cap.map (ev S)).toArray=⟨pI S cap⟩:=by rw[Az]
 simp only[execOp,List.map_toArray,List.map_nil,hm]
 rfl⟩
theorem Ky{fn:Fn}{a b:Array Value}{t':TypeId}(hx:ev S x=.func fn a b)(hy:ev S y=.nilFunc)(h:∀w,(binOp .eql t (.func fn a b) .nilFunc).run P w=.ok (.bool false) w):aL P S G ⟨some d,.binOp .eql t x y t',ty,pos,af,gd⟩ (.bool false):=⟨λ w _=>by
 simp[execOp,hx,hy,h w,eqGuard]⟩
theorem U1{pv:Value}{t2 t':TypeId}(hx:ev S x=.iface t2 pv)(hy:ev S y=.nilIface)(h:∀w,(binOp .neq t (.iface t2 pv) .nilIface).run P w=.ok (.bool true) w):aL P S G ⟨some d,.binOp .neq t x y t',ty,pos,af,gd⟩ (.bool true):=⟨λ w _=>by
 simp[execOp,hx,hy,h w,eqGuard]⟩
theorem p8{f:FuncId}{cap:List Value}{os:List Operand}{at_:Array TypeId}{vs:List Value}(hx:ev S x=.func (.func f) #[] ⟨cap⟩)(hp:plain P f=true)(ha:pI S os=vs)(w:World) :
  (execOp (ev S) ⟨dst,.call {callee:=.value x,args:=⟨os⟩,argTypes:=at_},ty,pos,af,gd⟩).run P w=.ok (.enter f ⟨vs++cap⟩) w:=by
 subst ha
 have hm:(os.map (ev S)).toArray=⟨pI S os⟩:=by rw[Az]
 simp[execOp,resolve,hx,Deferred.ofValue,invoke,oY hp,hm]
theorem Pp{α:Type}:∀(l:List α) (i:Nat),(qG l i).Sublist l
 | [],_=>List.Sublist.refl _
 | _::_,0=>List.sublist_cons_self ..
 | _::r,i+1=>(Pp r i).cons_cons _
theorem At.perm{H:List (Nat×Obj)}{i b:Nat}{o:Obj}(h:At H i b o):H.Perm ((b,o)::qG H i):=by
 induction h with
 | head=>exact List.Perm.refl _
 | tail _ ih=>exact(ih.cons _).trans (List.Perm.swap _ _ _)
theorem SF.cW(h:SF w0 M H A F O w){i b:Nat}{cs:List Value}{T:TypeId}(ha:At H i b (.cells ⟨cs⟩ T (0,0))):SF w0 M (qG H i) A ((some ⟨b,0,none⟩,cs)::F) O w:=by
 have hp:=h.perm ha.perm.symm (List.Perm.refl _)
 have hs:(Ks (qG H i) O).Sublist (Ks ((b,.cells ⟨cs⟩ T (0,0))::qG H i) O):=by
  unfold Ks
  exact((List.sublist_cons_self ..).map _).append (List.Sublist.refl _)
 have hd:=hp.dis
 have hb:b∉Ks (qG H i) O:=by
  unfold Ks at hd ⊢
  simp only[List.map_cons,List.cons_append,List.nodup_cons] at hd
  exact hd.1
 refine⟨h.st.sub (Pp H i),λ f hf=>⟨(hp.bN f hf).1,λ hc hm=>(hp.bN f hf).2 hc (hs.subset hm)⟩,λ f hf=>?_,h.own,hp.dis.sublist hs⟩
 rcases List.mem_cons.1 hf with rfl|hf
 ·refine⟨Cl.block (pre:=[]) (rest:=[]) (T:=T) (fr:=(0,0)) (by simpa using h.st.at ha) rfl,λ _=>⟨hb,?_⟩⟩
  exact(h.st.new _ ha.mem).symm
 ·exact⟨(h.new f hf).1,λ hc=>⟨λ hm=>((hp.new f hf).2 hc).1 (hs.subset hm),((h.new f hf).2 hc).2⟩⟩
end
end

/- The rules of one operation, in a frame that has deferred calls. Written by a program. -/
end Go.Ct
namespace Go.Proofs.YtbajmaoegmbfgaaGreat
section
open Go Go.RowKit Go.Ct
variable{n:Nat}{Q:Exit->Act->World->Prop}{ks:List CK}{S:List (Nat×Value)}{ops:Array Oper}{l ol:List Oper}{pl:pX}{LL:List Nat}{Dl Dp Dq:List Nat}
variable{w0:World}{M:List Nat}{H:List (Nat×Obj)}{A F:Fr}{O:List Ow}{G:World->Prop}{i d:Nat}{v:Value}{op:Op}{ty:TypeId}{pos:String}{af:Array Edge}{gd:Option (Nat×Bool)}{X:Type}{V:X->Value}{G':X->World->Prop}{j g:Nat}{want t:Bool}
variable{ds:List Deferred}
theorem pC(h:LD Tryz.prog n ds Q ks ops l ((d,v)::S) G)(hq:aL Tryz.prog S G ⟨some d,op,ty,pos,af,none⟩ v:=by exact Rq wn)(hd:Nat.blt d n=true:=by exact rfl):LD Tryz.prog n ds Q ks ops (⟨some d,op,ty,pos,af,none⟩::l) S G:=gL hq hd h
theorem qm(h:LD Tryz.prog n ds Q ks ops l ((d,v)::S) G)(hq:aL Tryz.prog S G ⟨some d,op,ty,pos,af,none⟩ v:=by first|exact Gh rf wn|exact Gm rf wn|exact o_pick_b rf rf rf)(hd:Nat.blt d n=true:=by exact rfl):LD Tryz.prog n ds Q ks ops (⟨some d,op,ty,pos,af,none⟩::l) S G:=gL hq hd h
theorem eJ(h:LD Tryz.prog n ds Q ks ops l ((d,v)::S) G)(hq:aL Tryz.prog S G ⟨some d,op,ty,pos,af,none⟩ v:=by first|exact tD rf fl1|exact qQ rf fl1)(hd:Nat.blt d n=true:=by exact rfl):LD Tryz.prog n ds Q ks ops (⟨some d,op,ty,pos,af,none⟩::l) S G:=gL hq hd h
theorem nL(h:LD Tryz.prog n ds Q ks ops l ((d,v)::S) G)(hq:aL Tryz.prog S G ⟨some d,op,ty,pos,af,none⟩ v:=by exact Mt)(hd:Nat.blt d n=true:=by exact rfl):LD Tryz.prog n ds Q ks ops (⟨some d,op,ty,pos,af,none⟩::l) S G:=gL hq hd h
theorem ah(h:LD Tryz.prog n ds Q ks ops l ((d,v)::S) G)(hq:aL Tryz.prog S G ⟨some d,op,ty,pos,af,none⟩ v:=by exact aq)(hd:Nat.blt d n=true:=by exact rfl):LD Tryz.prog n ds Q ks ops (⟨some d,op,ty,pos,af,none⟩::l) S G:=gL hq hd h
theorem da(h:∀x,LD Tryz.prog n ds Q ks ops l ((d,V x)::S) (G' x))(hq:bF Tryz.prog S G ⟨some d,op,ty,pos,af,none⟩ X V G':=by first|exact fS λ _=>Uq rf|exact fS λ _=>Lz rf rfl)(hd:Nat.blt d n=true:=by exact rfl):LD Tryz.prog n ds Q ks ops (⟨some d,op,ty,pos,af,none⟩::l) S G:=Ex hq hd h
theorem vU(h:∀x,LD Tryz.prog n ds Q ks ops l ((d,V x)::S) (G' x))(hq:bF Tryz.prog S G ⟨some d,op,ty,pos,af,none⟩ X V G':=by exact El)(hd:Nat.blt d n=true:=by exact rfl):LD Tryz.prog n ds Q ks ops (⟨some d,op,ty,pos,af,none⟩::l) S G:=Ex hq hd h
theorem yZ(h:∀x,LD Tryz.prog n ds Q ks ops l ((d,V x)::S) (G' x))(hq:bF Tryz.prog S G ⟨some d,op,ty,pos,af,none⟩ X V G':=by exact fH (Ge wn))(hd:Nat.blt d n=true:=by exact rfl):LD Tryz.prog n ds Q ks ops (⟨some d,op,ty,pos,af,none⟩::l) S G:=Ex hq hd h
theorem Oe(h:∀x,LD Tryz.prog n ds Q ks ops l S (G' x))(hq:bF Tryz.prog S G ⟨none,op,ty,pos,af,none⟩ X V G':=by exact Mz):LD Tryz.prog n ds Q ks ops (⟨none,op,ty,pos,af,none⟩::l) S G:=Qk hq h
theorem A7{φ:X->Prop}(hq:bF Tryz.prog S G ⟨some d,op,ty,pos,af,none⟩ X V (λ x w=>φ x/\G' x w))(h:∀x,φ x->LD Tryz.prog n ds Q ks ops l ((d,V x)::S) (G' x))(hd:Nat.blt d n=true:=by exact rfl):LD Tryz.prog n ds Q ks ops (⟨some d,op,ty,pos,af,none⟩::l) S G:=Ex hq hd λ x=>tf (h x)
theorem Mg(hq:bF Tryz.prog S G ⟨none,op,ty,pos,af,none⟩ X V G')(h:∀x,LD Tryz.prog n ds Q ks ops l S (G' x)):LD Tryz.prog n ds Q ks ops (⟨none,op,ty,pos,af,none⟩::l) S G:=Qk hq h
theorem vJ(h:LD Tryz.prog n ds Q ks ops (⟨some d,op,ty,pos,af,none⟩::l) S G)(hj:(ops[j]?).bind (·.dst)=some g:=by exact rfl)(hg:Ct.look S g=.bool want:=by exact rfl):LD Tryz.prog n ds Q ks ops (⟨some d,op,ty,pos,af,some (j,want)⟩::l) S G:=Xs hj hg h
end

/- Accesses and results. -/
end Go.Proofs.YtbajmaoegmbfgaaGreat
namespace Go.Ct
section
open Go Go.RowKit
structure Ac where
 k:Int
 c:Int
 o:Int
 n:Int
structure Rs where
 err:Int
 found:Bool
 val:Int
 key:ByteArray
 fZ:Int
 ref:Int
 root:Int
 ro:Bool
abbrev Ac.cells(a:Ac):List Value:=[.int .i64 a.k,.int .i64 a.c,.int .i64 a.o,.int .i64 a.n]
abbrev Rs.cells(r:Rs):List Value:=[.int .i64 r.err,.bool r.found,.int .u64 r.val,.string r.key,.int .i64 r.fZ,.int .i64 r.ref,.int .i64 r.root,.bool r.ro]
abbrev Rs.zero:Rs:=⟨0,false,0,⟨#[]⟩,0,0,0,false⟩
abbrev Ac.zero:Ac:=⟨0,0,0,0⟩
end

/- Tasks: codes. -/
section
open Go Go.RowKit
abbrev Clo:=Option (FuncId×List Value)
abbrev fnV:Clo->Value
 | none=>.nilFunc
 | some p=>.func (.func p.1) #[] ⟨p.2⟩
structure Cd where
 a:Ac
 f:Clo
 g:Clo
 r:Rs
abbrev Cd.cells(c:Cd):List Value:=[.int .i64 c.a.k,.int .i64 c.a.c,.int .i64 c.a.o,.int .i64 c.a.n,fnV c.f,fnV c.g,.int .i64 c.r.err,.bool c.r.found,.int .u64 c.r.val,.string c.r.key,.int .i64 c.r.fZ,.int .i64 c.r.ref,.int .i64 c.r.root,.bool c.r.ro]
abbrev gQ(r:Rs):Cd:=⟨⟨0,0,0,0⟩,none,none,r⟩
abbrev mY(c:Int)(f:FuncId)(cap:List Value):Cd:=⟨⟨1,c,0,0⟩,some (f,cap),none,⟨0,false,0,⟨#[]⟩,0,0,0,false⟩⟩
abbrev vY(c o n:Int)(g:FuncId)(cap:List Value):Cd:=⟨⟨2,c,o,n⟩,none,some (g,cap),⟨0,false,0,⟨#[]⟩,0,0,0,false⟩⟩
theorem bX(c:Cd):c.cells.all (·.oneCell')=true:=by
 obtain⟨a,f,g,r⟩:=c
 cases f<;>cases g<;>rfl
def Bs(cs:List Int)(c o:Int):Bool:=decide (1<=c/\c<=(cs.length:Int)/\cs.getD (c-1).toNat 0=o)
theorem Es{cs:List Int}{c o:Int}{r:Bool}(h:r=true↔iI cs c o):r=Bs cs c o:=by
 rw[Bool.eq_iff_iff,h]
 unfold Bs iI
 rw[decide_eq_true_eq]
end
end Go.Ct
namespace Go.Proofs.YtbajmaoegmbfgaaGreat
section
open Go.RowKit Go.Ct
theorem Ly(r:Rs)(w:World):Calls Tryz.prog 77 #[.agg ⟨r.cells⟩] w λ e w'=>e=.returned (.agg ⟨(gQ r).cells⟩)/\St w [] [] w':=by
 refine enter Tryz.func77 Tryz.ntmps77 rfl rfl (SF.s0 w) ?_
 simp only[bY]
 refine J0 ?_;refine bO (λ x1=>?_);refine aI (λ x2=>?_);refine aH ?_;refine pK ?_;refine xS ?_
 refine bD Tryz.results77 (λ w hw=>?_)
 exact⟨rfl,hw.done⟩
theorem nG(c:Int)(f:FuncId)(cap:List Value)(w:World):Calls Tryz.prog 130 #[.int .i64 c,.func (.func f) #[] ⟨cap⟩] w λ e w'=>e=.returned (.agg ⟨(mY c f cap).cells⟩)/\St w [] [] w':=by
 refine enter Tryz.func130 Tryz.ntmps130 rfl rfl (SF.s0 w) ?_
 simp only[bY]
 refine J0 ?_;refine aI (λ x4=>?_);refine aH ?_;refine J2 ?_;refine bJ ?_;refine aA ?_;refine xS ?_
 refine bD Tryz.results130 (λ w hw=>?_)
 exact⟨rfl,hw.done⟩
theorem uV(c o n:Int)(f:FuncId)(cap:List Value)(w:World):Calls Tryz.prog 119 #[.int .i64 c,.int .i64 o,.int .i64 n,.func (.func f) #[] ⟨cap⟩] w λ e w'=>e=.returned (.agg ⟨(vY c o n f cap).cells⟩)/\St w [] [] w':=by
 refine enter Tryz.func119 Tryz.ntmps119 rfl rfl (SF.s0 w) ?_
 simp only[bY]
 refine J0 ?_;refine aI (λ x8=>?_);refine aH ?_;refine iO ?_;refine aA ?_;refine bJ ?_;refine aA ?_;refine xS ?_
 refine bD Tryz.results119 (λ w hw=>?_)
 exact⟨rfl,hw.done⟩
end

/- Tasks: calls through the store, of function values; what is deferred does nothing. -/
section
open Go Go.RowKit Go.Ct
theorem jq(p:Option Addr)(a:Value)(w:World):(callMethod (.iface 42 (.pointer p)) "Load" #[a]).run Tryz.prog w=.ok (.enter 35 #[.pointer p,a]) w:=by kernel_rfl
theorem su(p:Option Addr)(a b c:Value)(w:World):(callMethod (.iface 42 (.pointer p)) "CAS" #[a,b,c]).run Tryz.prog w=.ok (.enter 279 #[.pointer p,a,b,c]) w:=by kernel_rfl
theorem Dg(p:Option Addr)(w:World):(binOp .neq 123 (.iface 42 (.pointer p)) .nilIface).run Tryz.prog w=.ok (.bool true) w:=by kernel_rfl
theorem aAH(f:Fn)(a b:Array Value)(w:World):(binOp .eql 135 (.func f a b) .nilFunc).run Tryz.prog w=.ok (.bool false) w:=by kernel_rfl
theorem aAw(f:Fn)(a b:Array Value)(w:World):(binOp .eql 129 (.func f a b) .nilFunc).run Tryz.prog w=.ok (.bool false) w:=by kernel_rfl
theorem aBY(f:Fn)(a b:Array Value)(w:World):(binOp .eql 130 (.func f a b) .nilFunc).run Tryz.prog w=.ok (.bool false) w:=by kernel_rfl
theorem Rv(p:Option Addr):Idle Tryz.prog 161 #[.pointer p]:=λ w=>by
 refine callsD_of_wpS Tryz.func161 rfl λ c₀ cs hu=>?_
 apply wpS_seq
 apply wpS_region
 simp[wpOpsS,go_sem,recoverD,hu,Tryz.ntmps161,Exit.thenS]
 refine wpS_cond (t:=false) (by simp[Act.eval,Array.replicate]) ?_
 simp only[Bool.false_eq_true,if_false]
 refine wpS_of_wp (wp_skip ?_)
 cases c₀
 simp_all[bodyPostS,results,Tryz.results161]
theorem yC(p:Option Addr):Idle Tryz.prog 129 #[.pointer p]:=λ w=>by
 refine callsD_of_wpS Tryz.func129 rfl λ c₀ cs hu=>?_
 apply wpS_seq
 apply wpS_region
 simp[wpOpsS,go_sem,recoverD,hu,Tryz.ntmps129,Exit.thenS]
 refine wpS_cond (t:=false) (by simp[Act.eval,Array.replicate]) ?_
 simp only[Bool.false_eq_true,if_false]
 refine wpS_of_wp (wp_skip ?_)
 cases c₀
 simp_all[bodyPostS,results,Tryz.results129]
section
variable{S:List (Nat×Value)}{w0 w:World}{M:List Nat}{H:List (Nat×Obj)}{A F:Fr}{O:List Ow}{ty:TypeId}{pos:String}{af:Array Edge}{gd:Option (Nat×Bool)}{X:Type}{V:X->Value}
end
end

/- Tasks: calls of function values that change known blocks. -/
section
open Go Go.RowKit Go.Ct
section
variable{S:List (Nat×Value)}{w0 w:World}{M:List Nat}{H:List (Nat×Obj)}{A F:Fr}{O:List Ow}{ty:TypeId}{pos:String}{af:Array Edge}{gd:Option (Nat×Bool)}{X:Type}{V:X->Value}
end
end

end Go.Proofs.YtbajmaoegmbfgaaGreat
