/- The engine, part 13: function values that capture, deferred calls, and blocks that are frozen. -/
import Derived.Test.YtnilhhnfjfdokaaGreatDoorGNode4
import Derived.Test.YtnilhhnfjfdokaaGreatDoorGLf
import Derived.Defers
import Derived.Recover

set_option linter.unusedSimpArgs false
set_option linter.unusedVariables false
namespace Go.Ct
section
open Go Go.RowKit
structure KD(P:Program)(n:Nat)(ds:List Deferred)(Q:Exit->Act->World->Prop)(ks:List CK)(S:List (Nat×Value))(G:World->Prop):Prop where
 run:xJ n S->∀w,G w->runK P Q ks .normal ⟨dX n S,ds⟩ w
structure LD(P:Program)(n:Nat)(ds:List Deferred)(Q:Exit->Act->World->Prop)(ks:List CK)(ops:Array Oper)(l:List Oper)(S:List (Nat×Value))(G:World->Prop):Prop where
 run:xJ n S->∀w,G w->wpList P ops (runK P Q ks) l ⟨dX n S,ds⟩ w
section
variable{P:Program}{n:Nat}{ds:List Deferred}{Q:Exit->Act->World->Prop}{ks:List CK}{S:List (Nat×Value)}{G:World->Prop}{ops:Array Oper}{l:List Oper}
theorem eT{x y:Code}(h:KD P n ds Q (.code x::.code y::ks) S G):KD P n ds Q (.code (.seq x y)::ks) S G:=⟨λ hS w hw=>by
 have:=h.run hS w hw
 simp only[runK] at this ⊢
 rw[Ds] at this
 exact wp_seq this⟩
theorem zQ(h:KD P n ds Q ks S G):KD P n ds Q (.code .skip::ks) S G:=⟨λ hS w hw=>wp_skip (h.run hS w hw)⟩
theorem Ea{c:Operand}{x y:Code}{t:Bool}(ht:t=true->KD P n ds Q (.code x::ks) S G)
  (hf:t=false->KD P n ds Q (.code y::ks) S G) (hc:ev S c=.bool t:=by exact rfl):KD P n ds Q (.code (.cond c x y)::ks) S G:=⟨λ hS w hw =>
 wp_cond_split (by rw[iB hS];exact hc) (λ h=>(ht h).run hS w hw) (λ h=>(hf h).run hS w hw)⟩
theorem dA{id:Nat}{l:List Oper}(h:LD P n ds Q ks l.toArray l S G):KD P n ds Q (.code (.region id l.toArray false)::ks) S G :=
 ⟨λ hS w hw=>wp_region_lit (h.run hS w hw)⟩
theorem Z3{φ:Prop}(h:φ->LD P n ds Q ks ops l S G):LD P n ds Q ks ops l S (λ w=>φ/\G w):=⟨λ hS w hw=>(h hw.1).run hS w hw.2⟩
theorem fQ(h:KD P n ds Q ks S G):LD P n ds Q ks ops [] S G:=⟨h.run⟩
theorem ed(h:xJ n S->∀w,G w->Q .ret ⟨dX n S,ds⟩ w):KD P n ds Q (.code .ret::ks) S G:=⟨λ hS w hw=>wp_ret (qY (h hS w hw))⟩
theorem fJ{d:Nat}{op:Op}{ty:TypeId}{pos:String}{af:Array Edge}{v:Value}(hrun:aG P S G ⟨some d,op,ty,pos,af,none⟩ v)(hd:Nat.blt d n=true)
  (h:LD P n ds Q ks ops l ((d,v)::S) G):LD P n ds Q ks ops (⟨some d,op,ty,pos,af,none⟩::l) S G:=⟨λ hS w hw =>
 wpList_plain rfl λ K hK=>by
  unfold Oper.wp
  rw[iB hS,hrun.run w hw]
  simp only[Oper.upon,Cf]
  exact hK _ _ (h.run (hS.cons hd) w hw)⟩
theorem zV{X:Type}{V:X->Value}{G':X->World->Prop}{d:Nat}{op:Op}{ty:TypeId}{pos:String}{af:Array Edge}(hrun:aQ P S G ⟨some d,op,ty,pos,af,none⟩ X V G')(hd:Nat.blt d n=true)
  (h:∀x,LD P n ds Q ks ops l ((d,V x)::S) (G' x)):LD P n ds Q ks ops (⟨some d,op,ty,pos,af,none⟩::l) S G:=⟨λ hS w hw =>
 wpList_plain rfl λ K hK=>by
  unfold Oper.wp
  rw[iB hS]
  refine(hrun.run w hw).upon λ x w' hg=>?_
  rw[Cf]
  exact hK _ _ ((h x).run (hS.cons hd) w' hg)⟩
theorem I2{X:Type}{V:X->Value}{G':X->World->Prop}{op:Op}{ty:TypeId}{pos:String}{af:Array Edge}(hrun:aQ P S G ⟨none,op,ty,pos,af,none⟩ X V G')
  (h:∀x,LD P n ds Q ks ops l S (G' x)):LD P n ds Q ks ops (⟨none,op,ty,pos,af,none⟩::l) S G:=⟨λ hS w hw =>
 wpList_plain rfl λ K hK=>by
  unfold Oper.wp
  rw[iB hS]
  exact(hrun.run w hw).upon λ x w' hg=>hK _ _ ((h x).run hS w' hg)⟩
theorem Me{n:Nat}{S:List (Nat×Value)}{ops:Array Oper}{j g:Nat}{t:Bool}(hS:xJ n S)(hj:(ops[j]?).bind (·.dst)=some g)(hg:look S g=.bool t):yielded ops (dX n S) j=some t:=by
 have e:=congrFun (iB (ds:=[]) hS) (.tmp g)
 simp only[Act.eval,ev,hg] at e
 unfold yielded
 rw[hj]
 simp only[Option.bind_some]
 rw[Array.getD_eq_getD_getElem?] at e
 cases h2:(dX n S)[g]? with
 | none=>rw[h2] at e;simp[undef] at e
 | some u=>rw[h2] at e;simp at e;subst e;rfl
theorem Qm{d:Nat}{op:Op}{ty:TypeId}{pos:String}{af:Array Edge}{j:Nat}{want:Bool}{g:Nat}
  (hj:(ops[j]?).bind (·.dst)=some g) (hg:look S g=.bool want)
  (h:LD P n ds Q ks ops (⟨some d,op,ty,pos,af,none⟩::l) S G):LD P n ds Q ks ops (⟨some d,op,ty,pos,af,some (j,want)⟩::l) S G:=⟨λ hS w hw=>by
 have hy:=Me hS hj hg
 have:=h.run hS w hw
 unfold wpList at this ⊢
 rw[if_pos (by simp[Region.wanted])] at this
 rw[if_pos (by simp[Region.wanted,hy])]
 exact this⟩
theorem wF{x:Operand}{f:FuncId}{cap:Array Value}{ty:TypeId}{pos:String}{af:Array Edge}(hx:ev S x=.func (.func f) #[] cap)
  (h:LD P n (⟨.fn (.func f) cap,#[]⟩::ds) Q ks ops l S G):LD P n ds Q ks ops (⟨none,.defer {callee:=.value x,args:=⟨[]⟩,argTypes:=⟨[]⟩},ty,pos,af,none⟩::l) S G:=⟨λ hS w hw =>
 wpList_plain rfl λ K hK=>by
  unfold Oper.wp
  rw[iB hS]
  have hr:(execOp (ev S) ⟨none,.defer {callee:=.value x,args:=⟨[]⟩,argTypes:=⟨[]⟩},ty,pos,af,none⟩).run P w=.ok (.defer ⟨.fn (.func f) cap,#[]⟩) w:=by
   simp[execOp,resolve,hx,Deferred.ofValue]
  rw[hr]
  exact hK _ _ (h.run hS w hw)⟩
theorem Fk{P:Program}{f:FuncId}{fn:Func}{c:Code}{args:Array Value}{w:World}{R:Ending->World->Prop}{n:Nat}{G:World->Prop}
  (hf:P.funcs[f]?=some fn) (hn:fn.ntmps=n) (hb:fn.body=some c) (hlen:Nat.ble args.size n=true) (hG:G w)
  (h:KD P n [] (bodyPostD P fn R) [.code c] (cP 0 args.toList) G):Calls P f args w R:=by
 subst hn
 have hl:args.size<=fn.ntmps:=Nat.le_of_ble_eq_true hlen
 refine calls_of_wp_defers hf hb ?_
 rw[Hy _ _ hl]
 exact h.run (Fg _ _ _ (by simpa using hl)) w hG
def Idle(P:Program)(g:FuncId)(cap:Array Value):Prop:=∀w,CallsD P g cap .returning w λ e u' w'=>e=.returned (.tuple #[])/\u'=.returning/\w'=w
variable{w0:World}{M:List Nat}{H:List (Nat×Obj)}{A F:Fr}{O:List Ow}
theorem wC{fn:Func}{R:Ending->World->Prop}{rs:List ResultVar}{vs:List Value}{g:FuncId}{cap:Array Value}(hi:Idle P g cap)(hp:plain P g=true)(hr:fn.results=⟨rs⟩)(hv:iU P S H rs vs)(h:∀w,SF w0 M H A F O w->R (.returned (lV vs)) w) :
  KD P n [⟨.fn (.func g) cap,#[]⟩] (bodyPostD P fn R) (.code .ret::ks) S (SF w0 M H A F O) :=
 ed λ hS w hw=>by
  refine leaves_cons (f:=g) (args:=cap) (by simp) (by simp[invoke,lY hp]) ?_
  refine(hi w).mono ?_
  rintro e u' w' ⟨rfl,rfl,rfl⟩
  exact⟨_,Gf hS hw.st hr hv,h _ hw⟩
variable{d:Nat}{ty t:TypeId}{pos:String}{af:Array Edge}{gd:Option (Nat×Bool)}{dst:Option Nat}{x y:Operand}{v:Value}{w w':World}
theorem bN{fn:Fn}{cap:List Operand}{vs:List Value}(hc:lD S cap=vs:=by(repeat (first|exact cD _|(apply bK;focus ((conv=>{lhs;whnf});try exact rfl))));done):aG P S G ⟨some d,.makeFunc fn ⟨[]⟩ ⟨cap⟩,ty,pos,af,gd⟩ (.func fn #[] ⟨vs⟩):=⟨λ w _=>by
 subst hc
 have hm:(cap.map (ev S)).toArray=⟨lD S cap⟩:=by rw[oR]
 simp only[execOp,List.map_toArray,List.map_nil,hm]
 rfl⟩
theorem F2{fn:Fn}{a b:Array Value}{t':TypeId}(hx:ev S x=.func fn a b)(hy:ev S y=.nilFunc)(h:∀w,(binOp .eql t (.func fn a b) .nilFunc).run P w=.ok (.bool false) w):aG P S G ⟨some d,.binOp .eql t x y t',ty,pos,af,gd⟩ (.bool false):=⟨λ w _=>by
 simp[execOp,hx,hy,h w,eqGuard]⟩
theorem Fp{pv:Value}{t2 t':TypeId}(hx:ev S x=.iface t2 pv)(hy:ev S y=.nilIface)(h:∀w,(binOp .neq t (.iface t2 pv) .nilIface).run P w=.ok (.bool true) w):aG P S G ⟨some d,.binOp .neq t x y t',ty,pos,af,gd⟩ (.bool true):=⟨λ w _=>by
 simp[execOp,hx,hy,h w,eqGuard]⟩
theorem Hn{α:Type}:∀(l:List α) (i:Nat),(nW l i).Sublist l
 | [],_=>List.Sublist.refl _
 | _::_,0=>List.sublist_cons_self ..
 | _::r,i+1=>(Hn r i).cons_cons _
theorem At.perm{H:List (Nat×Obj)}{i b:Nat}{o:Obj}(h:At H i b o):H.Perm ((b,o)::nW H i):=by
 induction h with
 | head=>exact List.Perm.refl _
 | tail _ ih=>exact(ih.cons _).trans (List.Perm.swap _ _ _)
theorem SF.cC(h:SF w0 M H A F O w){i b:Nat}{cs:List Value}{T:TypeId}(ha:At H i b (.cells ⟨cs⟩ T (0,0))):SF w0 M (nW H i) A ((some ⟨b,0,none⟩,cs)::F) O w:=by
 have hp:=h.perm ha.perm.symm (List.Perm.refl _)
 have hs:(Ks (nW H i) O).Sublist (Ks ((b,.cells ⟨cs⟩ T (0,0))::nW H i) O):=by
  unfold Ks
  exact((List.sublist_cons_self ..).map _).append (List.Sublist.refl _)
 have hd:=hp.dis
 have hb:b∉Ks (nW H i) O:=by
  unfold Ks at hd ⊢
  simp only[List.map_cons,List.cons_append,List.nodup_cons] at hd
  exact hd.1
 refine⟨h.st.sub (Hn H i),λ f hf=>⟨(hp.old f hf).1,λ hc hm=>(hp.old f hf).2 hc (hs.subset hm)⟩,λ f hf=>?_,h.own,hp.dis.sublist hs⟩
 rcases List.mem_cons.1 hf with rfl|hf
 ·refine⟨Cl.block (pre:=[]) (rest:=[]) (T:=T) (fr:=(0,0)) (by simpa using h.st.at ha) rfl,λ _=>⟨hb,?_⟩⟩
  exact(h.st.new _ ha.mem).symm
 ·exact⟨(h.new f hf).1,λ hc=>⟨λ hm=>((hp.new f hf).2 hc).1 (hs.subset hm),((h.new f hf).2 hc).2⟩⟩
end
end

/- The rules of one operation, in a frame that has deferred calls. Written by a program. -/
end Go.Ct
namespace Go.Proofs.YtnilhhnfjfdokaaGreatDoor
section
open Go Go.RowKit Go.Ct
variable{n:Nat}{Q:Exit->Act->World->Prop}{ks:List CK}{S:List (Nat×Value)}{ops:Array Oper}{l ol:List Oper}{pl:lQ}{LL:List Nat}{Dl Dp Dq:List Nat}
variable{w0:World}{M:List Nat}{H:List (Nat×Obj)}{A F:Fr}{O:List Ow}{G:World->Prop}{i d:Nat}{v:Value}{op:Op}{ty:TypeId}{pos:String}{af:Array Edge}{gd:Option (Nat×Bool)}{X:Type}{V:X->Value}{G':X->World->Prop}{j g:Nat}{want t:Bool}
variable{ds:List Deferred}
theorem jC(h:LD Tryz.prog n ds Q ks ops l ((d,v)::S) G)(hq:aG Tryz.prog S G ⟨some d,op,ty,pos,af,none⟩ v:=by exact La wn)(hd:Nat.blt d n=true:=by exact rfl):LD Tryz.prog n ds Q ks ops (⟨some d,op,ty,pos,af,none⟩::l) S G:=fJ hq hd h
theorem Xu(h:LD Tryz.prog n ds Q ks ops l ((d,v)::S) G)(hq:aG Tryz.prog S G ⟨some d,op,ty,pos,af,none⟩ v:=by first|exact Bf rf wn|exact Cq rf wn|exact o_pick_b rf rf rf)(hd:Nat.blt d n=true:=by exact rfl):LD Tryz.prog n ds Q ks ops (⟨some d,op,ty,pos,af,none⟩::l) S G:=fJ hq hd h
theorem eM(h:LD Tryz.prog n ds Q ks ops l ((d,v)::S) G)(hq:aG Tryz.prog S G ⟨some d,op,ty,pos,af,none⟩ v:=by first|exact oW rf kh|exact nA rf kh)(hd:Nat.blt d n=true:=by exact rfl):LD Tryz.prog n ds Q ks ops (⟨some d,op,ty,pos,af,none⟩::l) S G:=fJ hq hd h
theorem kW(h:LD Tryz.prog n ds Q ks ops l ((d,v)::S) G)(hq:aG Tryz.prog S G ⟨some d,op,ty,pos,af,none⟩ v:=by exact Fi)(hd:Nat.blt d n=true:=by exact rfl):LD Tryz.prog n ds Q ks ops (⟨some d,op,ty,pos,af,none⟩::l) S G:=fJ hq hd h
theorem Sa(h:LD Tryz.prog n ds Q ks ops l ((d,v)::S) G)(hq:aG Tryz.prog S G ⟨some d,op,ty,pos,af,none⟩ v:=by exact Fu)(hd:Nat.blt d n=true:=by exact rfl):LD Tryz.prog n ds Q ks ops (⟨some d,op,ty,pos,af,none⟩::l) S G:=fJ hq hd h
theorem Rt(h:LD Tryz.prog n ds Q ks ops l ((d,v)::S) G)(hq:aG Tryz.prog S G ⟨some d,op,ty,pos,af,none⟩ v:=by exact Vk)(hd:Nat.blt d n=true:=by exact rfl):LD Tryz.prog n ds Q ks ops (⟨some d,op,ty,pos,af,none⟩::l) S G:=fJ hq hd h
theorem Un(h:∀x,LD Tryz.prog n ds Q ks ops l ((d,V x)::S) (G' x))(hq:aQ Tryz.prog S G ⟨some d,op,ty,pos,af,none⟩ X V G':=by first|exact cE λ _=>Mr rf|exact cE λ _=>F5 rf rfl)(hd:Nat.blt d n=true:=by exact rfl):LD Tryz.prog n ds Q ks ops (⟨some d,op,ty,pos,af,none⟩::l) S G:=zV hq hd h
theorem nV(h:∀x,LD Tryz.prog n ds Q ks ops l ((d,V x)::S) (G' x))(hq:aQ Tryz.prog S G ⟨some d,op,ty,pos,af,none⟩ X V G':=by exact Ab)(hd:Nat.blt d n=true:=by exact rfl):LD Tryz.prog n ds Q ks ops (⟨some d,op,ty,pos,af,none⟩::l) S G:=zV hq hd h
theorem oX(h:∀x,LD Tryz.prog n ds Q ks ops l ((d,V x)::S) (G' x))(hq:aQ Tryz.prog S G ⟨some d,op,ty,pos,af,none⟩ X V G':=by exact iJ (Ay wn))(hd:Nat.blt d n=true:=by exact rfl):LD Tryz.prog n ds Q ks ops (⟨some d,op,ty,pos,af,none⟩::l) S G:=zV hq hd h
theorem Iq(h:∀x,LD Tryz.prog n ds Q ks ops l S (G' x))(hq:aQ Tryz.prog S G ⟨none,op,ty,pos,af,none⟩ X V G':=by exact Gk):LD Tryz.prog n ds Q ks ops (⟨none,op,ty,pos,af,none⟩::l) S G:=I2 hq h
theorem oS{φ:X->Prop}(hq:aQ Tryz.prog S G ⟨some d,op,ty,pos,af,none⟩ X V (λ x w=>φ x/\G' x w))(h:∀x,φ x->LD Tryz.prog n ds Q ks ops l ((d,V x)::S) (G' x))(hd:Nat.blt d n=true:=by exact rfl):LD Tryz.prog n ds Q ks ops (⟨some d,op,ty,pos,af,none⟩::l) S G:=zV hq hd λ x=>Z3 (h x)
theorem zS(hq:aQ Tryz.prog S G ⟨none,op,ty,pos,af,none⟩ X V G')(h:∀x,LD Tryz.prog n ds Q ks ops l S (G' x)):LD Tryz.prog n ds Q ks ops (⟨none,op,ty,pos,af,none⟩::l) S G:=I2 hq h
theorem qA(h:LD Tryz.prog n ds Q ks ops (⟨some d,op,ty,pos,af,none⟩::l) S G)(hj:(ops[j]?).bind (·.dst)=some g:=by exact rfl)(hg:Ct.look S g=.bool want:=by exact rfl):LD Tryz.prog n ds Q ks ops (⟨some d,op,ty,pos,af,some (j,want)⟩::l) S G:=Qm hj hg h
end

/- Accesses and results. -/
end Go.Proofs.YtnilhhnfjfdokaaGreatDoor
namespace Go.Ct
section
open Go Go.RowKit
structure Ac where
 k:Int
 c:Int
 o:Int
 n:Int
structure Rs where
 err:Int
 found:Bool
 val:Int
 key:ByteArray
 iH:Int
 ref:Int
 root:Int
 ro:Bool
abbrev Ac.cells(a:Ac):List Value:=[.int .i64 a.k,.int .i64 a.c,.int .i64 a.o,.int .i64 a.n]
abbrev Rs.cells(r:Rs):List Value:=[.int .i64 r.err,.bool r.found,.int .u64 r.val,.string r.key,.int .i64 r.iH,.int .i64 r.ref,.int .i64 r.root,.bool r.ro]
abbrev Rs.zero:Rs:=⟨0,false,0,⟨#[]⟩,0,0,0,false⟩
end

/- Proper states: a node more. -/
section
end

/- Procedures as trees; what an execution of the reference remembers of one. -/
section
inductive Tr where
 | done (r:Rs)
 | load (c:Int) (k:Int->Tr)
 | oI (c o n:Int) (k:Bool->Tr)
 | alloc (n:Nv) (i:Int) (k:Int->Tr)
 | cell (i:Int) (k:Int->Tr)
 | gen (k:Int->Tr)
 | node (r:Int) (k:Nv->Tr)
 | stuck
structure Mm where
 nodes:List Nv
 cs:List Int
 gen:Int
 pv:Nat×Go.Obj
def Nv.zero:Nv:=eY.zero.c
def bU(L:List Nv)(r:Int):Nv:=if 1<=r/\r<=L.length then L.getD (r-1).toNat Nv.zero else Nv.zero
theorem Yd(L:List eY)(r:Int):(aZ L r).c=bU (L.map eY.c) r:=by
 unfold aZ bU
 rw[List.length_map]
 split
 ·rename_i h
  have h2:(r-1).toNat<L.length:=by omega
  simp only[G0,List.getElem?_map,List.getElem?_eq_getElem h2,Option.map_some,Option.getD_some]
 ·rfl
theorem Cm{L N:List Nv}{r:Int}(h:r<=L.length):bU (L++N) r=bU L r:=by
 unfold bU
 by_cases h1:1<=r
 ·rw[if_pos ⟨h1,by simp;omega⟩,if_pos ⟨h1,h⟩,G0,G0,List.getElem?_append_left (by omega)]
 ·rw[if_neg (by omega),if_neg (by omega)]
def eO(n:Nv)(c:Nat):Nv:={n with main:=if n.kind=2 then((c+1:Nat):Int) else 0,prev:=if n.kind=3∨n.kind=5∨n.kind=6 then((c+1:Nat):Int) else 0,status:=if n.kind=8 then((c+1:Nat):Int) else 0}
def Mm.push(s:Mm)(n:Nv)(i:Int):Mm:=⟨s.nodes++[eO n s.cs.length],mR n.kind s.cs i,s.gen,s.pv⟩
end

/- Trees are run alone. -/
section
open Go Go.RowKit
def Dd(cs:List Int)(c o:Int):Bool:=decide (1<=c/\c<=(cs.length:Int)/\cs.getD (c-1).toNat 0=o)
theorem Mz{cs:List Int}{c o:Int}{r:Bool}(h:r=true↔tE cs c o):r=Dd cs c o:=by
 rw[Bool.eq_iff_iff,h]
 unfold Dd tE
 rw[decide_eq_true_eq]
def fA:Tr->Mm->Tr×Mm
 | .alloc n i k,s=>fA (k ((s.nodes.length+1:Nat):Int)) (s.push n i)
 | .cell i k,s=>fA (k ((s.cs.length+1:Nat):Int)) ⟨s.nodes,s.cs++[i],s.gen,s.pv⟩
 | .gen k,s=>fA (k (s.gen+1)) ⟨s.nodes,s.cs,s.gen+1,s.pv⟩
 | .node r k,s=>fA (k (bU s.nodes r)) s
 | t,s=>(t,s)
def lc:Tr->Mm->Tr×Mm
 | .load c k,s=>(k (cW s.cs c),s)
 | .oI c o n k,s=>(k (Dd s.cs c o),⟨s.nodes,dU s.cs c o n,s.gen,s.pv⟩)
 | t,s=>(t,s)
def kQ(p:Tr×Mm):Tr×Mm:=fA (lc p.1 p.2).1 (lc p.1 p.2).2
def Tr.live:Tr->Bool
 | .done _=>false
 | _=>true
end

/- Tasks: codes. -/
section
open Go Go.RowKit
abbrev qb:=Option (FuncId×List Value)
abbrev pf:qb->Value
 | none=>.nilFunc
 | some p=>.func (.func p.1) #[] ⟨p.2⟩
structure Cd where
 a:Ac
 f:qb
 g:qb
 r:Rs
abbrev Cd.cells(c:Cd):List Value:=[.int .i64 c.a.k,.int .i64 c.a.c,.int .i64 c.a.o,.int .i64 c.a.n,pf c.f,pf c.g,.int .i64 c.r.err,.bool c.r.found,.int .u64 c.r.val,.string c.r.key,.int .i64 c.r.iH,.int .i64 c.r.ref,.int .i64 c.r.root,.bool c.r.ro]
abbrev fP(r:Rs):Cd:=⟨⟨0,0,0,0⟩,none,none,r⟩
abbrev kO(c:Int)(f:FuncId)(cap:List Value):Cd:=⟨⟨1,c,0,0⟩,some (f,cap),none,⟨0,false,0,⟨#[]⟩,0,0,0,false⟩⟩
abbrev pG(c o n:Int)(g:FuncId)(cap:List Value):Cd:=⟨⟨2,c,o,n⟩,none,some (g,cap),⟨0,false,0,⟨#[]⟩,0,0,0,false⟩⟩
theorem bA(c:Cd):c.cells.all (·.oneCell')=true:=by
 obtain⟨a,f,g,r⟩:=c
 cases f<;>cases g<;>rfl
end
end Go.Ct
namespace Go.Proofs.YtnilhhnfjfdokaaGreatDoor
section
open Go.RowKit Go.Ct
theorem rX(r:Rs)(w:World):Calls Tryz.prog 71 #[.agg ⟨r.cells⟩] w λ e w'=>e=.returned (.agg ⟨(fP r).cells⟩)/\St w [] [] w':=by
 refine enter Tryz.func71 Tryz.ntmps71 rfl rfl (SF.s0 w) ?_
 simp only[cP]
 refine J0 ?_;refine bF (λ x1=>?_);refine aI (λ x2=>?_);refine aD ?_;refine pV ?_;refine Na ?_
 refine bV Tryz.results71 (λ w hw=>?_)
 exact⟨rfl,hw.done⟩
theorem kP(c:Int)(f:FuncId)(cap:List Value)(w:World):Calls Tryz.prog 107 #[.int .i64 c,.func (.func f) #[] ⟨cap⟩] w λ e w'=>e=.returned (.agg ⟨(kO c f cap).cells⟩)/\St w [] [] w':=by
 refine enter Tryz.func107 Tryz.ntmps107 rfl rfl (SF.s0 w) ?_
 simp only[cP]
 refine J0 ?_;refine aI (λ x4=>?_);refine Kb8 ?_;refine cK ?_;refine aB ?_;refine Na ?_
 refine bV Tryz.results107 (λ w hw=>?_)
 exact⟨rfl,hw.done⟩
theorem oZ(c o n:Int)(f:FuncId)(cap:List Value)(w:World):Calls Tryz.prog 177 #[.int .i64 c,.int .i64 o,.int .i64 n,.func (.func f) #[] ⟨cap⟩] w λ e w'=>e=.returned (.agg ⟨(pG c o n f cap).cells⟩)/\St w [] [] w':=by
 refine enter Tryz.func177 Tryz.ntmps177 rfl rfl (SF.s0 w) ?_
 simp only[cP]
 refine J0 ?_;refine aI (λ x8=>?_);refine aD ?_;refine mL ?_;refine aB ?_;refine cK ?_;refine aB ?_;refine Na ?_
 refine bV Tryz.results177 (λ w hw=>?_)
 exact⟨rfl,hw.done⟩
end

/- Tasks: calls through the store, of function values; what is deferred does nothing. -/
section
open Go Go.RowKit Go.Ct
theorem R1(p:Option Addr)(a:Value)(w:World):(callMethod (.iface 61 (.pointer p)) "Load" #[a]).run Tryz.prog w=.ok (.enter 337 #[.pointer p,a]) w:=by kernel_rfl
theorem Y9(p:Option Addr)(a b c:Value)(w:World):(callMethod (.iface 61 (.pointer p)) "CAS" #[a,b,c]).run Tryz.prog w=.ok (.enter 336 #[.pointer p,a,b,c]) w:=by kernel_rfl
theorem qS(p:Option Addr)(w:World):(binOp .neq 98 (.iface 61 (.pointer p)) .nilIface).run Tryz.prog w=.ok (.bool true) w:=by kernel_rfl
theorem na(f:Fn)(a b:Array Value)(w:World):(binOp .eql 177 (.func f a b) .nilFunc).run Tryz.prog w=.ok (.bool false) w:=by kernel_rfl
theorem n5(f:Fn)(a b:Array Value)(w:World):(binOp .eql 144 (.func f a b) .nilFunc).run Tryz.prog w=.ok (.bool false) w:=by kernel_rfl
theorem ll(f:Fn)(a b:Array Value)(w:World):(binOp .eql 145 (.func f a b) .nilFunc).run Tryz.prog w=.ok (.bool false) w:=by kernel_rfl
theorem Lv(p:Option Addr):Idle Tryz.prog 136 #[.pointer p]:=λ w=>by
 refine callsD_of_wpS Tryz.func136 rfl λ c₀ cs hu=>?_
 apply wpS_seq
 apply wpS_region
 simp[wpOpsS,go_sem,recoverD,hu,Tryz.ntmps136,Exit.thenS]
 refine wpS_cond (t:=false) (by simp[Act.eval,Array.replicate]) ?_
 simp only[Bool.false_eq_true,if_false]
 refine wpS_of_wp (wp_skip ?_)
 cases c₀
 simp_all[bodyPostS,results,Tryz.results136]
theorem tC(p:Option Addr):Idle Tryz.prog 83 #[.pointer p]:=λ w=>by
 refine callsD_of_wpS Tryz.func83 rfl λ c₀ cs hu=>?_
 apply wpS_seq
 apply wpS_region
 simp[wpOpsS,go_sem,recoverD,hu,Tryz.ntmps83,Exit.thenS]
 refine wpS_cond (t:=false) (by simp[Act.eval,Array.replicate]) ?_
 simp only[Bool.false_eq_true,if_false]
 refine wpS_of_wp (wp_skip ?_)
 cases c₀
 simp_all[bodyPostS,results,Tryz.results83]
section
variable{S:List (Nat×Value)}{w0 w:World}{M:List Nat}{H:List (Nat×Obj)}{A F:Fr}{O:List Ow}{ty:TypeId}{pos:String}{af:Array Edge}{gd:Option (Nat×Bool)}{X:Type}{V:X->Value}
end
end

/- Tasks: calls of function values that change known blocks. -/
section
open Go Go.RowKit Go.Ct
section
variable{S:List (Nat×Value)}{w0 w:World}{M:List Nat}{H:List (Nat×Obj)}{A F:Fr}{O:List Ow}{ty:TypeId}{pos:String}{af:Array Edge}{gd:Option (Nat×Bool)}{X:Type}{V:X->Value}
end
end

/- Pairs: valid lists are maps. -/
section
open Go.RowKit Go.Ct
theorem jg{a b c:ByteArray}(h:eK a b=true)(h2:eK c b=false):eK a c=true:=by
 cases hb:eK b c with
 | true=>exact nI h hb
 | false=>have:=yT hb h2;subst this;exact h
theorem dw{a b c:ByteArray}(h:eK b a=false)(h2:eK c b=false):eK c a=false:=by
 cases hc:eK c a with
 | false=>rfl
 | true=>have:=jg hc h;rw[this] at h2;cases h2
theorem L5{a b:ByteArray}(h:eK a b=true):a≠b:=λ e=>by subst e;rw[vP] at h;cases h
theorem gy{a b:ByteArray}(h:eK b a=false)(hn:a≠b):eK a b=true:=by
 cases hb:eK a b with
 | true=>rfl
 | false=>exact absurd (yT hb h) hn
def SA(l:List Pr):Prop:=l.Pairwise λ p q=>eK p.1 q.1=true
instance (l:List Pr):Decidable (SA l):=inferInstanceAs (Decidable (l.Pairwise _))
theorem Mx{l:List Pr}(h:kn l):∀d i,i+d+1<l.length->eK (l.getD i (⟨#[]⟩,0)).1 (l.getD (i+d+1) (⟨#[]⟩,0)).1=true
 | 0,i,hi=>by have:=h (i+1) (by omega) hi;rwa [Nat.add_sub_cancel] at this
 | d+1,i,hi=>nI (Mx h d i (by omega)) (by have:=h (i+(d+1)+1) (by omega) hi;rwa [Nat.add_sub_cancel] at this)
theorem lL{l:List Pr}{i:Nat}(h:i<l.length):l.getD i (⟨#[]⟩,0)=l[i]:=by simp[List.getD,List.getElem?_eq_getElem h]
theorem Vx{l:List Pr}:kn l↔SA l:=by
 constructor
 ·intro h
  refine List.pairwise_iff_getElem.2 λ i j hi hj hij=>?_
  have:=Mx h (j-i-1) i (by omega)
  rw[show i+(j-i-1)+1=j by omega,lL hi,lL hj] at this
  exact this
 ·intro h i h1 hi
  rw[lL (by omega),lL hi]
  exact List.pairwise_iff_getElem.1 h (i-1) i (by omega) hi (by omega)
def oj:List Pr->ByteArray->Option Int
 | [],_=>none
 | p::l,k=>if p.1=k then some p.2 else oj l k
theorem Tw{l:List Pr}{k:ByteArray}(h:∀p∈l,p.1≠k):oj l k=none:=by
 induction l with
 | nil=>rfl
 | cons p l ih=>exact(if_neg (h p (.head _))).trans (ih λ q hq=>h q (.tail _ hq))
def Lg:List Pr->ByteArray->Int->List Pr
 | [],k,v=>[(k,v)]
 | p::l,k,v=>if eK p.1 k=true then p::Lg l k v else if p.1=k then(k,v)::l else(k,v)::p::l
structure vY(l:List Pr)(k:ByteArray)(i:Nat):Prop where
 le:i<=l.length
 lo:∀j,j<i->eK (l.getD j (⟨#[]⟩,0)).1 k=true
 hi:∀j,i<=j->j<l.length->eK (l.getD j (⟨#[]⟩,0)).1 k=false
theorem vY.tl{p:Pr}{l:List Pr}{k:ByteArray}{i:Nat}(h:vY (p::l) k (i+1)):eK p.1 k=true/\vY l k i :=
 ⟨h.lo 0 (by omega),⟨by have:=h.le;simp at this;omega,λ j hj=>h.lo (j+1) (by omega),λ j h1 h2=>h.hi (j+1) (by omega) (by simp;omega)⟩⟩
theorem Qy{k:ByteArray}{v:Int}:∀{l:List Pr} {i:Nat},vY l k i->i<l.length->(l.getD i (⟨#[]⟩,0)).1=k->Lg l k v=l.set i ((l.getD i (⟨#[]⟩,0)).1,v)
 | [],i,_,h,_=>by simp at h
 | p::l,0,h,_,he=>by
  have he:p.1=k:=he
  have:eK p.1 k=false:=by rw[he];exact vP k
  rw[Lg,if_neg (by rw[this];decide),if_pos he,List.set_cons_zero,<- he]
  rfl
 | p::l,i+1,h,hi,he=>by
  rw[Lg,if_pos h.tl.1,List.set_cons_succ,Qy h.tl.2 (by simp at hi;omega) he]
  rfl
theorem Y3{k:ByteArray}{v:Int}:∀{l:List Pr} {i:Nat},vY l k i->¬(i<l.length/\(l.getD i (⟨#[]⟩,0)).1=k)->Lg l k v=l.take i++(k,v)::l.drop i
 | [],i,h,_=>by have:=h.le;simp at this;subst this;rfl
 | p::l,0,h,hn=>by
  have:eK p.1 k=false:=h.hi 0 (Nat.le_refl _) (by simp)
  rw[Lg,if_neg (by rw[this];decide),if_neg λ e:p.1=k=>hn ⟨by simp,e⟩]
  rfl
 | p::l,i+1,h,hn=>by
  rw[Lg,if_pos h.tl.1,Y3 h.tl.2 λ hh=>hn ⟨by simp;omega,hh.2⟩]
  rfl
theorem Dg{k:ByteArray}:∀{l:List Pr} {i:Nat},SA l->vY l k i->¬(i<l.length/\(l.getD i (⟨#[]⟩,0)).1=k)->∀p∈l,p.1≠k
 | [],_,_,_,_=>by simp
 | p::l,0,hs,h,hn=>by
  have h':=List.pairwise_cons.1 hs
  have h0:eK p.1 k=false:=h.hi 0 (Nat.le_refl _) (by simp)
  have hne:p.1≠k:=λ e=>hn ⟨by simp,e⟩
  have hlt:=gy h0 (λ e=>hne e.symm)
  intro q hq
  rcases List.mem_cons.1 hq with rfl|hq
  ·exact hne
  ·exact(L5 (nI hlt (h'.1 q hq))).symm
 | p::l,i+1,hs,h,hn=>by
  have:=Dg (List.pairwise_cons.1 hs).2 h.tl.2 λ hh=>hn ⟨by simp;omega,hh.2⟩
  intro q hq
  rcases List.mem_cons.1 hq with rfl|hq
  ·exact L5 h.tl.1
  ·exact this q hq
theorem Eg{k:ByteArray}:∀{l:List Pr} {i:Nat},vY l k i->i<l.length->(l.getD i (⟨#[]⟩,0)).1=k->oj l k=some (l.getD i (⟨#[]⟩,0)).2
 | [],i,_,h,_=>by simp at h
 | p::l,0,h,_,he=>if_pos he
 | p::l,i+1,h,hi,he=>(if_neg (L5 h.tl.1)).trans (Eg h.tl.2 (by simp at hi;omega) he)
end

end Go.Proofs.YtnilhhnfjfdokaaGreatDoor
