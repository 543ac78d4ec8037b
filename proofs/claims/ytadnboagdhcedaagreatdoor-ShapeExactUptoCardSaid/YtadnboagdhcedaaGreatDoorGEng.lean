/- The engine, part 1: judgements on code whose frame is a list of slots and whose world is known up to the blocks that are named; the rules of control. Nothing of the program is named here. -/
import Derived.WalkKit
import Derived.WalkSpells
import Derived.WalkLawsBesides

set_option linter.unusedSimpArgs false
set_option linter.unusedVariables false
namespace Go.Ct
section
open Go Go.RowKit
theorem abt{p:Prop}(h:true=false:=by assumption):p:=nomatch h
theorem bT(n:Nat):(0:Int)<=(n:Int):=Int.natCast_nonneg n
theorem fJ{m n:Nat}(h:Nat.beq m n=true):m=n:=Nat.eq_of_beq_eq_true h
theorem gF{α:Type}{l:List α}{i:Nat}{a:α}:l.getD i a=l[i]?.getD a:=List.getD_eq_getElem?_getD
def look:List (Nat×Value)->Nat->Value
 | [],_=>undef
 | p::r,k=>bif Nat.beq p.1 k then p.2 else look r k
def ev(S:List (Nat×Value)):Operand->Value
 | .tmp t=>look S t
 | .const v=>v
 | .global g=>.pointer (some ⟨g,0,none⟩)
 | .func f=>.func (.func f) #[] #[]
def Ig(n:Nat)(S:List (Nat×Value)):Prop:=∀p∈S,p.1<n
def fA(n:Nat)(S:List (Nat×Value)):Array Value:=Array.ofFn (n:=n) λ i=>look S i.val
theorem Lb{n:Nat}{S:List (Nat×Value)}(h:Ig n S){k:Nat}(hk:n<=k):look S k=undef:=by
 induction S with
 | nil=>rfl
 | cons p r ih =>
  have hp:p.1<n:=h p (List.mem_cons_self ..)
  have hb:Nat.beq p.1 k=false:=by
   cases hb:Nat.beq p.1 k with
   | false=>rfl
   | true=>have:=fJ hb;omega
  simp only[look,hb,cond_false]
  exact ih λ q hq=>h q (List.mem_cons_of_mem _ hq)
theorem pL{n:Nat}{S:List (Nat×Value)}{ds:List Deferred}(h:Ig n S):(⟨fA n S,ds⟩:Act).eval=ev S:=by
 funext x
 cases x with
 | tmp t =>
  show(fA n S).getD t undef=look S t
  unfold fA
  by_cases ht:t<n
  ·simp[Array.getD,ht]
  ·rw[Lb h (Nat.le_of_not_lt ht)]
   simp[Array.getD,ht]
 | _=>rfl
theorem Lq{n:Nat}{S:List (Nat×Value)}{ds:List Deferred}{d:Nat}{v:Value} :
  (⟨fA n S,ds⟩:Act).put (some d) v=⟨fA n ((d,v)::S),ds⟩:=by
 show(⟨(fA n S).setIfInBounds d v,ds⟩:Act)=_
 congr 1
 unfold fA
 apply Array.ext
 ·simp
 ·intro i h1 h2
  rw[Array.getElem_setIfInBounds (by simpa using h1)]
  simp only[Array.getElem_ofFn,look]
  by_cases hd:d=i
  ·subst hd;simp
  ·have hb:Nat.beq d i=false:=by
    cases hb:Nat.beq d i with
    | false=>rfl
    | true=>exact absurd (fJ hb) hd
   simp[hd,hb]
theorem Ig.cons{n:Nat}{S:List (Nat×Value)}(h:Ig n S){d:Nat}{v:Value}(hd:Nat.blt d n=true):Ig n ((d,v)::S):=by
 intro p hp
 rcases List.mem_cons.1 hp with rfl|hp
 ·exact Nat.le_of_ble_eq_true hd
 ·exact h p hp
inductive CK where
 | code (c:Code)
 | Ru (id:Nat)
 | inv (J:Act->World->Prop)
def runK(P:Program)(Q:Exit->Act->World->Prop):List CK->Exit->Act->World->Prop
 | [],e,a,w=>Q e a w
 | .code c::r,.normal,a,w=>c.wp P (runK P Q r) a w
 | .code _::r,.exit i,a,w=>runK P Q r (.exit i) a w
 | .code _::r,.goto i,a,w=>runK P Q r (.goto i) a w
 | .code _::r,.ret,a,w=>runK P Q r .ret a w
 | .code _::r,.panic c,a,w=>runK P Q r (.panic c) a w
 | .code _::r,.outgrown,a,w=>runK P Q r .outgrown a w
 | .Ru id::r,.exit i,a,w=>if i=id then runK P Q r .normal a w else runK P Q r (.exit i) a w
 | .Ru _::r,.normal,a,w=>runK P Q r .normal a w
 | .Ru _::r,.goto i,a,w=>runK P Q r (.goto i) a w
 | .Ru _::r,.ret,a,w=>runK P Q r .ret a w
 | .Ru _::r,.panic c,a,w=>runK P Q r (.panic c) a w
 | .Ru _::r,.outgrown,a,w=>runK P Q r .outgrown a w
 | .inv J::_,.normal,a,w=>J a w
 | .inv _::r,.exit i,a,w=>runK P Q r (.exit i) a w
 | .inv _::r,.goto i,a,w=>runK P Q r (.goto i) a w
 | .inv _::r,.ret,a,w=>runK P Q r .ret a w
 | .inv _::r,.panic c,a,w=>runK P Q r (.panic c) a w
 | .inv _::r,.outgrown,a,w=>runK P Q r .outgrown a w
theorem Yp(P:Program)(Q:Exit->Act->World->Prop)(y:Code)(r:List CK) :
  runK P Q (.code y::r)=Exit.then (y.wp P (runK P Q r)) (runK P Q r):=by
 funext e a w;cases e<;>rfl
theorem Z2(P:Program)(Q:Exit->Act->World->Prop)(id:Nat)(r:List CK) :
  runK P Q (.Ru id::r)=Exit.inBlock id (runK P Q r):=by
 funext e a w;cases e<;>simp[runK,Exit.inBlock]
theorem Q1(P:Program)(Q:Exit->Act->World->Prop)(J:Act->World->Prop)(r:List CK) :
  runK P Q (.inv J::r)=Exit.then J (runK P Q r):=by
 funext e a w;cases e<;>rfl
def Co(id:Nat):List CK->Option (List CK)
 | []=>none
 | .Ru i::r=>bif Nat.beq i id then some r else Co id r
 | .code _::r=>Co id r
 | .inv _::r=>Co id r
theorem yG{P:Program}{Q:Exit->Act->World->Prop}{id:Nat}{a:Act}{w:World} :
  ∀{ks r:List CK},Co id ks=some r->runK P Q r .normal a w->runK P Q ks (.exit id) a w
 | [],_,h,_=>by cases h
 | .Ru i::ks,r,h,hr=>by
  simp only[Co] at h
  simp only[runK]
  cases hb:Nat.beq i id with
  | true =>
   rw[hb] at h
   have:=fJ hb
   subst this
   simp only[cond_true,Option.some.injEq] at h
   subst h
   simpa using hr
  | false =>
   rw[hb] at h
   have hne:¬id=i:=λ e=>by subst e;simp at hb
   simp only[hne,if_false]
   exact yG h hr
 | .code _::ks,r,h,hr=>yG (ks:=ks) h hr
 | .inv _::ks,r,h,hr=>yG (ks:=ks) h hr
structure JK(P:Program)(n:Nat)(Q:Exit->Act->World->Prop)(ks:List CK)(S:List (Nat×Value))(G:World->Prop):Prop where
 run:Ig n S->∀w,G w->runK P Q ks .normal ⟨fA n S,[]⟩ w
structure JL(P:Program)(n:Nat)(Q:Exit->Act->World->Prop)(ks:List CK)(ops:Array Oper)(l:List Oper)(S:List (Nat×Value))(G:World->Prop):Prop where
 run:Ig n S->∀w,G w->wpList P ops (runK P Q ks) l ⟨fA n S,[]⟩ w
section
variable{P:Program}{n:Nat}{Q:Exit->Act->World->Prop}{ks:List CK}{S:List (Nat×Value)}{G:World->Prop}{ops:Array Oper}{l:List Oper}
theorem aV{x y:Code}(h:JK P n Q (.code x::.code y::ks) S G):JK P n Q (.code (.seq x y)::ks) S G:=⟨λ hS w hw=>by
 have:=h.run hS w hw
 simp only[runK] at this ⊢
 rw[Yp] at this
 exact wp_seq this⟩
theorem cE{id:Nat}{c:Code}(h:JK P n Q (.code c::.Ru id::ks) S G):JK P n Q (.code (.block id c)::ks) S G:=⟨λ hS w hw=>by
 have:=h.run hS w hw
 simp only[runK] at this ⊢
 rw[Z2] at this
 exact wp_block this⟩
theorem eX{id:Nat}(h:JK P n Q ks S G):JK P n Q (.Ru id::ks) S G:=⟨h.run⟩
theorem bB(h:JK P n Q ks S G):JK P n Q (.code .skip::ks) S G:=⟨λ hS w hw=>wp_skip (h.run hS w hw)⟩
theorem bM{id:Nat}{r:List CK}(hr:Co id ks=some r)(h:JK P n Q r S G):JK P n Q (.code (.exit id)::ks) S G :=
 ⟨λ hS w hw=>wp_exit (yG hr (h.run hS w hw))⟩
theorem zo{c:Operand}{x y:Code}{t:Bool}(hc:ev S c=.bool t)(ht:t=true->JK P n Q (.code x::ks) S G)
  (hf:t=false->JK P n Q (.code y::ks) S G):JK P n Q (.code (.cond c x y)::ks) S G:=⟨λ hS w hw =>
 wp_cond_split (by rw[pL hS];exact hc) (λ h=>(ht h).run hS w hw) (λ h=>(hf h).run hS w hw)⟩
theorem aCL{c:Operand}{x y:Code}{t:Bool}(ht:t=true->JK P n Q (.code x::ks) S G)
  (hf:t=false->JK P n Q (.code y::ks) S G) (hc:ev S c=.bool t:=by exact rfl):JK P n Q (.code (.cond c x y)::ks) S G:=zo hc ht hf
theorem dM{id:Nat}{l:List Oper}(h:JL P n Q ks l.toArray l S G):JK P n Q (.code (.region id l.toArray false)::ks) S G :=
 ⟨λ hS w hw=>wp_region_lit (h.run hS w hw)⟩
theorem zg{G':World->Prop}(hG:∀w,G w->G' w)(h:JK P n Q ks S G'):JK P n Q ks S G:=⟨λ hS w hw=>h.run hS w (hG w hw)⟩
theorem aK(h:JK P n Q ks S G):JL P n Q ks ops [] S G:=⟨h.run⟩
theorem By{P:Program}{Q:Exit->Act->World->Prop}{a:Act}{w:World}:∀{ks:List CK},Q .ret a w->runK P Q ks .ret a w
 | [],h=>h
 | .code _::ks,h=>By (ks:=ks) h
 | .Ru _::ks,h=>By (ks:=ks) h
 | .inv _::ks,h=>By (ks:=ks) h
theorem aAV(h:Ig n S->∀w,G w->Q .ret ⟨fA n S,[]⟩ w):JK P n Q (.code .ret::ks) S G:=⟨λ hS w hw=>wp_ret (By (h hS w hw))⟩
structure aM(P:Program)(S:List (Nat×Value))(G:World->Prop)(o:Oper)(v:Value):Prop where
 run:∀w,G w->(execOp (ev S) o).run P w=.ok (.value v) w
def oc(P:Program)(X:Type)(V:X->Value)(G':X->World->Prop):Result Next->Prop
 | .ok (.value v) w'=>∃x,v=V x/\G' x w'
 | .ok .skip w'=>∃x,undef=V x/\G' x w'
 | .ok (.enter f args) w'=>Calls P f args w' λ e w''=>∃x,e=.returned (V x)/\G' x w''
 | _=>False
structure aX(P:Program)(S:List (Nat×Value))(G:World->Prop)(o:Oper)(X:Type)(V:X->Value)(G':X->World->Prop):Prop where
 run:∀(w:World),G w->oc P X V G' ((execOp (ev S) o).run P w)
theorem oc.upon{P:Program}{X:Type}{V:X->Value}{G':X->World->Prop}{o:Oper}{a:Act}{r:Result Next}{K:Act->World->Prop}{Q:Exit->Act->World->Prop}
  (h:oc P X V G' r) (hK:∀x w',G' x w'->K (a.put o.dst (V x)) w'):o.upon P a K Q r:=by
 cases r with
 | ok nx w' =>
  cases nx<;>simp only[oc] at h
  case value v=>obtain⟨x,rfl,hg⟩:=h;exact hK x w' hg
  case skip=>obtain⟨x,hx,hg⟩:=h;simp only[Oper.upon];rw[hx];exact hK x w' hg
  case enter f args =>
   simp only[Oper.upon]
   refine h.mono ?_
   rintro e w'' ⟨x,rfl,hg⟩
   exact hK x w'' hg
 | halt x w'=>exact h.elim
theorem aE{d:Nat}{op:Op}{ty:TypeId}{pos:String}{af:Array Edge}{v:Value}(hrun:aM P S G ⟨some d,op,ty,pos,af,none⟩ v)(hd:Nat.blt d n=true)
  (h:JL P n Q ks ops l ((d,v)::S) G):JL P n Q ks ops (⟨some d,op,ty,pos,af,none⟩::l) S G:=⟨λ hS w hw =>
 wpList_plain rfl λ K hK=>by
  unfold Oper.wp
  rw[pL hS,hrun.run w hw]
  simp only[Oper.upon,Lq]
  exact hK _ _ (h.run (hS.cons hd) w hw)⟩
theorem rM{X:Type}{V:X->Value}{G':X->World->Prop}{d:Nat}{op:Op}{ty:TypeId}{pos:String}{af:Array Edge}(hrun:aX P S G ⟨some d,op,ty,pos,af,none⟩ X V G')(hd:Nat.blt d n=true)
  (h:∀x,JL P n Q ks ops l ((d,V x)::S) (G' x)):JL P n Q ks ops (⟨some d,op,ty,pos,af,none⟩::l) S G:=⟨λ hS w hw =>
 wpList_plain rfl λ K hK=>by
  unfold Oper.wp
  rw[pL hS]
  refine(hrun.run w hw).upon λ x w' hg=>?_
  rw[Lq]
  exact hK _ _ ((h x).run (hS.cons hd) w' hg)⟩
theorem Wj{X:Type}{V:X->Value}{G':X->World->Prop}{op:Op}{ty:TypeId}{pos:String}{af:Array Edge}(hrun:aX P S G ⟨none,op,ty,pos,af,none⟩ X V G')
  (h:∀x,JL P n Q ks ops l S (G' x)):JL P n Q ks ops (⟨none,op,ty,pos,af,none⟩::l) S G:=⟨λ hS w hw =>
 wpList_plain rfl λ K hK=>by
  unfold Oper.wp
  rw[pL hS]
  exact(hrun.run w hw).upon λ x w' hg=>hK _ _ ((h x).run hS w' hg)⟩
theorem lR{X:Type}{V:X->Value}{G':X->World->Prop}{o:Oper}
  (hrun:∀w,G w->∃x w',(execOp (ev S) o).run P w=.ok (.value (V x)) w'/\G' x w'):aX P S G o X V G':=⟨λ w hw=>by
 obtain⟨x,w',hr,hG⟩:=hrun w hw
 rw[hr]
 exact⟨x,rfl,hG⟩⟩
theorem sC{G':World->Prop}{o:Oper}
  (hrun:∀w,G w->∃w',(execOp (ev S) o).run P w=.ok .skip w'/\G' w'):aX P S G o Unit (λ _=>undef) (λ _=>G'):=⟨λ w hw=>by
 obtain⟨w',hr,hG⟩:=hrun w hw
 rw[hr]
 exact⟨(),rfl,hG⟩⟩
theorem mC{X:Type}{V:X->Value}{G':X->World->Prop}{o:Oper}{f:FuncId}{args:Array Value}
  (hrun:∀w,(execOp (ev S) o).run P w=.ok (.enter f args) w)
  (hc:∀w,G w->Calls P f args w λ e w'=>∃x,e=.returned (V x)/\G' x w'):aX P S G o X V G':=⟨λ w hw=>by
 rw[hrun w]
 exact hc w hw⟩
theorem R3{d:Nat}{op:Op}{ty:TypeId}{pos:String}{af:Array Edge}{j:Nat}{want:Bool}{g:Nat}{t:Bool}(hd:Nat.blt d n=true)
  (hj:(ops[j]?).bind (·.dst)=some g) (hg:look S g=.bool t) (ht:t≠want)
  (h:JL P n Q ks ops l ((d,undef)::S) G):JL P n Q ks ops (⟨some d,op,ty,pos,af,some (j,want)⟩::l) S G:=⟨λ hS w hw=>by
 have hy:yielded ops (fA n S) j=some t:=by
  have e:=congrFun (pL (ds:=[]) hS) (.tmp g)
  simp only[Act.eval,ev,hg] at e
  unfold yielded
  rw[hj]
  simp only[Option.bind_some]
  rw[Array.getD_eq_getD_getElem?] at e
  cases h2:(fA n S)[g]? with
  | none=>rw[h2] at e;simp[undef] at e
  | some u=>rw[h2] at e;simp at e;subst e;rfl
 refine wpList_step λ K hK=>?_
 have hw':Region.wanted ⟨some d,op,ty,pos,af,some (j,want)⟩ (yielded ops (fA n S))=false:=by
  simp only[Region.wanted,hy]
  cases t<;>cases want<;>simp_all
 simp only[hw',Bool.false_eq_true,if_false,Lq]
 exact hK _ _ (h.run (hS.cons hd) w hw)⟩
theorem b8{d:Nat}{op:Op}{ty:TypeId}{pos:String}{af:Array Edge}{j:Nat}{want:Bool}{g:Nat}
  (hj:(ops[j]?).bind (·.dst)=some g) (hg:look S g=.bool want)
  (h:JL P n Q ks ops (⟨some d,op,ty,pos,af,none⟩::l) S G):JL P n Q ks ops (⟨some d,op,ty,pos,af,some (j,want)⟩::l) S G:=⟨λ hS w hw=>by
 have hy:yielded ops (fA n S) j=some want:=by
  have e:=congrFun (pL (ds:=[]) hS) (.tmp g)
  simp only[Act.eval,ev,hg] at e
  unfold yielded
  rw[hj]
  simp only[Option.bind_some]
  rw[Array.getD_eq_getD_getElem?] at e
  cases h2:(fA n S)[g]? with
  | none=>rw[h2] at e;simp[undef] at e
  | some u=>rw[h2] at e;simp at e;subst e;rfl
 have:=h.run hS w hw
 unfold wpList at this ⊢
 rw[if_pos (by simp[Region.wanted])] at this
 rw[if_pos (by simp[Region.wanted,hy])]
 exact this⟩
theorem Vf{n:Nat}{S:List (Nat×Value)}{g:Nat}{v:Value}(h:look S g=v):fA n ((g,v)::S)=fA n S:=by
 unfold fA
 congr 1
 funext i
 simp only[look]
 cases hb:Nat.beq g i.val with
 | true=>have:=fJ hb;simp[<- this,h]
 | false=>rfl
theorem Ig.same{n:Nat}{S:List (Nat×Value)}{g:Nat}{v:Value}(h:Ig n S)(hg:look S g=v)(hv:v≠undef):Ig n ((g,v)::S):=by
 intro p hp
 rcases List.mem_cons.1 hp with rfl|hp
 ·rcases Nat.lt_or_ge g n with h1|h1
  ·exact h1
  ·exact absurd (hg.symm.trans (Lb h h1)) hv
 ·exact h p hp
theorem yo{g:Nat}{t:Bool}(hg:look S g=.bool t)(h1:t=true->JL P n Q ks ops l ((g,.bool true)::S) G)(h2:t=false->JL P n Q ks ops l ((g,.bool false)::S) G):JL P n Q ks ops l S G:=⟨λ hS w hw=>by
 cases t with
 | true =>
  have:=(h1 rfl).run (hS.same hg (by simp[undef])) w hw
  rwa [Vf hg] at this
 | false =>
  have:=(h2 rfl).run (hS.same hg (by simp[undef])) w hw
  rwa [Vf hg] at this⟩
end
def cP:Nat->List Value->List (Nat×Value)
 | _,[]=>[]
 | i,v::r=>(i,v)::cP (i+1) r
theorem O2(k:Nat):∀(l:List Value) (i:Nat),look (cP i l) (i+k)=l.getD k undef
 | [],i=>by simp[cP,look]
 | v::r,i=>by
  simp only[cP,look]
  cases k with
  | zero=>simp
  | succ k =>
   have hb:Nat.beq i (i+(k+1))=false:=by
    cases hb:Nat.beq i (i+(k+1)) with
    | false=>rfl
    | true=>have:=fJ hb;omega
   rw[hb,cond_false]
   have:=O2 k r (i+1)
   rw[show i+1+k=i+(k+1) by omega] at this
   simpa using this
theorem Vi(n:Nat):∀(l:List Value) (i:Nat),i+l.length<=n->Ig n (cP i l)
 | [],_,_=>λ _ h=>by cases h
 | v::r,i,h=>λ p hp=>by
  simp only[List.length_cons] at h
  rcases List.mem_cons.1 hp with rfl|hp
  ·simp;omega
  ·exact Vi n r (i+1) (by omega) p hp
theorem j9(n:Nat)(args:Array Value)(h:args.size<=n):args++Array.replicate (n-args.size) undef=fA n (cP 0 args.toList):=by
 unfold fA
 apply Array.ext
 ·simp;omega
 ·intro i h1 h2
  have:=O2 i args.toList 0
  rw[Nat.zero_add] at this
  simp only[Array.getElem_ofFn,this]
  rw[Array.getElem_append]
  split
  ·rename_i hlt;simp[List.getD,hlt]
  ·rename_i hge;simp[List.getD];rw[Array.getElem?_eq_none (by omega)];rfl
theorem enter{P:Program}{f:FuncId}{fn:Func}{c:Code}{args:Array Value}{w:World}{R:Ending->World->Prop}{n:Nat}{G:World->Prop}
  (hf:P.funcs[f]?=some fn) (hn:fn.ntmps=n) (hb:fn.body=some c) (hlen:Nat.ble args.size n=true) (hG:G w)
  (h:JK P n (bodyPost P fn R) [.code c] (cP 0 args.toList) G):Calls P f args w R:=by
 subst hn
 have hl:args.size<=fn.ntmps:=Nat.le_of_ble_eq_true hlen
 refine calls_of_wp hf hb ?_
 rw[j9 _ _ hl]
 exact h.run (Vi _ _ _ (by simpa using hl)) w hG
end

/- The engine, part 2: what is known of the world (St), and a rule for each kind of operation. Nothing of the program is named here. -/
section
open Go Go.RowKit
structure St(w0:World)(M:List Nat)(H:List (Nat×Obj))(w:World):Prop where
 os:w.os=w0.os
 tape:w.tape=w0.tape
 output:w.output=w0.output
 size:w0.heap.size<=w.heap.size
 kY:∀b,b<w0.heap.size->b∉M->w.heap[b]?=w0.heap[b]?
 has:∀p∈H,w.heap[p.1]?=some p.2
 new:∀p∈H,p.1∈M∨w0.heap.size<=p.1
 nodup:(H.map Prod.fst).Nodup
theorem jF{w:World}{b:Nat}{o:Obj}(h:w.heap[b]?=some o):b<w.heap.size:=(Array.getElem?_eq_some_iff.1 h).1
theorem St.refl(w:World):St w [] [] w:=⟨rfl,rfl,rfl,Nat.le_refl _,λ _ _ _=>rfl,λ _ h=>(List.not_mem_nil h).elim,λ _ h=>(List.not_mem_nil h).elim,List.nodup_nil⟩
theorem St.below{w0 w:World}{H:List (Nat×Obj)}(h:St w0 [] H w):Below w0.heap.size w0 w :=
 ⟨h.os,h.tape,h.output,h.size,λ k hk=>h.kY k hk (by simp)⟩
theorem St.sub{w0 w:World}{M:List Nat}{H H':List (Nat×Obj)}(h:St w0 M H w)(hs:H'.Sublist H):St w0 M H' w :=
 ⟨h.os,h.tape,h.output,h.size,h.kY,λ p hp=>h.has p (hs.subset hp),λ p hp=>h.new p (hs.subset hp),h.nodup.sublist (hs.map _)⟩
theorem St.alloc{w0 w:World}{M:List Nat}{H:List (Nat×Obj)}(h:St w0 M H w)(o:Obj):St w0 M ((w.heap.size,o)::H) (w.alloc o):=by
 refine⟨h.os,h.tape,h.output,Nat.le_trans h.size (by simp),λ b hb hM=>?_,λ p hp=>?_,λ p hp=>?_,?_⟩
 ·rw[heap_alloc_old w o (Nat.lt_of_lt_of_le hb h.size)];exact h.kY b hb hM
 ·rcases List.mem_cons.1 hp with rfl|hp
  ·exact heap_alloc_new w o
  ·have:=h.has p hp
   rw[heap_alloc_old w o (jF this)];exact this
 ·rcases List.mem_cons.1 hp with rfl|hp
  ·exact .inr h.size
  ·exact h.new p hp
 ·simp only[List.map_cons,List.nodup_cons]
  refine⟨λ hm=>?_,h.nodup⟩
  obtain⟨p,hp,he⟩:=List.mem_map.1 hm
  have:=jF (h.has p hp)
  omega
inductive At:List (Nat×Obj)->Nat->Nat->Obj->Prop where
 | head {b:Nat} {o:Obj} {H:List (Nat×Obj)}:At ((b,o)::H) 0 b o
 | tail {p:Nat×Obj} {H:List (Nat×Obj)} {i b:Nat} {o:Obj}:At H i b o->At (p::H) (i+1) b o
theorem At.mem{H:List (Nat×Obj)}{i b:Nat}{o:Obj}(h:At H i b o):(b,o)∈H:=by
 induction h with
 | head=>exact List.mem_cons_self ..
 | tail _ ih=>exact List.mem_cons_of_mem _ ih
theorem St.at{w0 w:World}{M:List Nat}{H:List (Nat×Obj)}(h:St w0 M H w){i b:Nat}{o:Obj}(ha:At H i b o):w.heap[b]?=some o:=h.has _ ha.mem
def setAt:List (Nat×Obj)->Nat->Obj->List (Nat×Obj)
 | [],_,_=>[]
 | (b,_)::r,0,o=>(b,o)::r
 | p::r,i+1,o=>p::setAt r i o
theorem zY:∀(H:List (Nat×Obj)) (i:Nat) (o:Obj),(setAt H i o).map Prod.fst=H.map Prod.fst
 | [],_,_=>rfl
 | (_,_)::_,0,_=>rfl
 | _::r,i+1,o=>by simp[setAt,zY r i o]
theorem Dc{b:Nat}{o':Obj}:∀{H:List (Nat×Obj)} {i:Nat} {o:Obj},At H i b o->(H.map Prod.fst).Nodup->∀p∈setAt H i o',p=(b,o')∨(p∈H/\p.1≠b):=by
 intro H i o ha
 induction ha with
 | head =>
  intro hn p hp
  simp only[setAt] at hp
  rcases List.mem_cons.1 hp with rfl|hp
  ·exact .inl rfl
  ·refine .inr ⟨List.mem_cons_of_mem _ hp,λ e=>?_⟩
   simp only[List.map_cons,List.nodup_cons] at hn
   exact hn.1 (e▸List.mem_map_of_mem (f:=Prod.fst) hp)
 | tail ha ih =>
  intro hn p hp
  simp only[setAt] at hp
  simp only[List.map_cons,List.nodup_cons] at hn
  rcases List.mem_cons.1 hp with rfl|hp
  ·refine .inr ⟨List.mem_cons_self ..,λ e=>?_⟩
   exact hn.1 (e▸List.mem_map_of_mem (f:=Prod.fst) ha.mem)
  ·rcases ih hn.2 p hp with h|⟨h1,h2⟩
   ·exact .inl h
   ·exact .inr ⟨List.mem_cons_of_mem _ h1,h2⟩
theorem St.write{w0 w w':World}{M:List Nat}{H:List (Nat×Obj)}(h:St w0 M H w){i b:Nat}{o o':Obj}(ha:At H i b o)
  (hos:w'.os=w.os) (htape:w'.tape=w.tape) (hout:w'.output=w.output) (hsize:w'.heap.size=w.heap.size)
  (hsame:∀k,k≠b->w'.heap[k]?=w.heap[k]?) (hb:w'.heap[b]?=some o'):St w0 M (setAt H i o') w':=by
 refine⟨hos.trans h.os,htape.trans h.tape,hout.trans h.output,by rw[hsize];exact h.size,λ k hk hM=>?_,λ p hp=>?_,λ p hp=>?_,?_⟩
 ·rcases h.new _ ha.mem with hm|hn
  ·rw[hsame k (λ e=>hM (e▸hm))];exact h.kY k hk hM
  ·rw[hsame k (by simp only at hn;omega)];exact h.kY k hk hM
 ·rcases Dc (o':=o') ha h.nodup p hp with rfl|⟨h1,h2⟩
  ·exact hb
  ·rw[hsame _ h2];exact h.has p h1
 ·rcases Dc (o':=o') ha h.nodup p hp with rfl|⟨h1,_⟩
  ·exact h.new (b,o) ha.mem
  ·exact h.new p h1
 ·rw[zY];exact h.nodup
def one(P:Program)(t:TypeId):Bool :=
 match P.info? t,P.underlying t with
 | some i,some d=>i.size==1&&(match d with|.struct _|.array _ _=>false|_=>true)
 | _,_=>false
theorem Eo{P:Program}{t:TypeId}(h:one P t=true)(w:World):(isAgg t).run P w=.ok false w:=by
 unfold one at h
 cases hi:P.info? t with
 | none=>simp[hi] at h
 | some i =>
  cases hu:P.underlying t with
  | none=>simp[hi,hu] at h
  | some d =>
   simp only[hi,hu,Bool.and_eq_true] at h
   unfold isAgg
   rw[Sem.run_bind,run_underlying hu w]
   cases d<;>simp_all
theorem Qo{P:Program}{t:TypeId}(h:one P t=true)(w:World):(Go.sizeOf t).run P w=.ok 1 w:=by
 unfold one at h
 cases hi:P.info? t with
 | none=>simp[hi] at h
 | some i =>
  cases hu:P.underlying t with
  | none=>simp[hi,hu] at h
  | some d =>
   simp only[hi,hu,Bool.and_eq_true,beq_iff_eq] at h
   simp[Go.sizeOf,typeInfo,hi,h.1]
def jK(P:Program)(t:TypeId)(k:Nat):Bool :=
 match P.info? t,P.underlying t with
 | some i,some d=>i.size==k&&(match d with|.struct _|.array _ _=>true|_=>false)
 | _,_=>false
theorem gZ{P:Program}{t:TypeId}{k:Nat}(h:jK P t k=true):∃d,P.underlying t=some d/\(match d with|.struct _|.array _ _=>true|_=>false)=true/\(P.info? t).map (·.size)=some k:=by
 unfold jK at h
 cases hi:P.info? t with
 | none=>simp[hi] at h
 | some i =>
  cases hu:P.underlying t with
  | none=>simp[hi,hu] at h
  | some d =>
   simp only[hi,hu,Bool.and_eq_true,beq_iff_eq] at h
   exact⟨d,rfl,h.2,by simp[h.1]⟩
def dS(P:Program)(t:TypeId):Option Value:=(P.info? t).bind (·.zero)
theorem fy{P:Program}{t:TypeId}{z:Value}(h:dS P t=some z)(w:World):(zeroValue t).run P w=.ok z w:=by
 unfold dS at h
 cases hi:P.info? t with
 | none=>simp[hi] at h
 | some i=>simp[hi] at h;simp[zeroValue,typeInfo,hi,h]
def dG(P:Program)(t:TypeId)(k:Nat):Option Nat :=
 match P.underlying t with
 | some (.struct fs)=>match fs[k]? with
  | some f=>match P.info? f.type with
   | some i=>if i.size=0 then none else some f.offset
   | none=>none
  | none=>none
 | _=>none
theorem Xs{P:Program}{t k off:Nat}(h:dG P t k=some off)(a:Addr)(w:World):(Instr.fieldAt t (.pointer (some a)) k).run P w=.ok (.pointer (some (a.add off))) w:=by
 unfold dG at h
 cases hu:P.underlying t with
 | none=>simp[hu] at h
 | some d =>
  cases d<;>simp[hu] at h
  rename_i fs
  cases hf:fs[k]? with
  | none=>simp[hf] at h
  | some f =>
   simp[hf] at h
   cases hi:P.info? f.type with
   | none=>simp[hi] at h
   | some i =>
    simp[hi] at h
    obtain⟨h1,h2⟩:=h
    simp[Instr.fieldAt,run_underlying hu,hf,Instr.sureAddr,fieldPlace,Go.sizeOf,typeInfo,hi,h1,h2]
section
variable{P:Program}{n:Nat}{Q:Exit->Act->World->Prop}{ks:List CK}{S:List (Nat×Value)}{ops:Array Oper}{l:List Oper}
variable{w0:World}{M:List Nat}{H:List (Nat×Obj)}{G:World->Prop}
variable{d:Nat}{ty:TypeId}{pos:String}{af:Array Edge}{gd:Option (Nat×Bool)}
theorem ir{x:Operand}{v:Value}(hx:ev S x=v):aM P S G ⟨some d,.move x,ty,pos,af,gd⟩ (v):=⟨λ w _=>by subst hx;rfl⟩
theorem Fl{x:Operand}{v:Value}(hx:ev S x=v):aM P S G ⟨some d,.assign x,ty,pos,af,gd⟩ (v):=⟨λ w _=>by subst hx;rfl⟩
theorem P3{c x y:Operand}{v:Value}(hc:ev S c=.bool true)(hx:ev S x=v):aM P S G ⟨some d,.pick c x y,ty,pos,af,gd⟩ (v):=⟨λ w _=>by subst hx;simp[execOp,hc,asBool]⟩
theorem Qd{c x y:Operand}{v:Value}(hc:ev S c=.bool false)(hy:ev S y=v):aM P S G ⟨some d,.pick c x y,ty,pos,af,gd⟩ (v):=⟨λ w _=>by subst hy;simp[execOp,hc,asBool]⟩
theorem ve{x:Operand}{t:Bool}{xt:TypeId}(hx:ev S x=.bool t):aM P S G ⟨some d,.unOp .not xt x,ty,pos,af,gd⟩ (.bool (!t)):=⟨λ w _=>by simp[execOp,hx,Op.unary]⟩
theorem uw{op:Op}{cs:Array Value}{t:TypeId}
  (hrun:∀w,St w0 M H w->(execOp (ev S) ⟨some d,op,ty,pos,af,gd⟩).run P w=.ok (.value (.pointer (some ⟨w.heap.size,0,none⟩))) (w.alloc (.cells cs t))) :
  aX P S (St w0 M H) ⟨some d,op,ty,pos,af,gd⟩ Nat (λ b=>.pointer (some ⟨b,0,none⟩)) (λ b=>St w0 M ((b,.cells cs t (0,0))::H)) :=
 lR (λ w hw=>⟨w.heap.size,_,hrun w hw,hw.alloc _⟩)
theorem wj{x:Operand}{t:TypeId}{cs:List Value}(hx:ev S x=.agg ⟨cs⟩):aX P S (St w0 M H) ⟨some d,.box t x,ty,pos,af,gd⟩ Nat (λ b=>.pointer (some ⟨b,0,none⟩)) (λ b=>St w0 M ((b,.cells ⟨cs⟩ t (0,0))::H)) :=
 uw (λ w _=>by simp[execOp,hx,Instr.box,newVar,newRow,Value.cells])
theorem tf{t:TypeId}{z:List Value}(hz:dS P t=some (.agg ⟨z⟩)):aX P S (St w0 M H) ⟨some d,.alloc t,ty,pos,af,gd⟩ Nat (λ b=>.pointer (some ⟨b,0,none⟩)) (λ b=>St w0 M ((b,.cells ⟨z⟩ t (0,0))::H)) :=
 uw (λ w _=>by simp[execOp,Instr.alloc,fy hz,newVar,newRow,Value.cells])
theorem vQ{x:Operand}{t k off b o:Nat}(hx:ev S x=.pointer (some ⟨b,o,none⟩))(hf:dG P t k=some off):aM P S G ⟨some d,.fieldAddr t x k,ty,pos,af,gd⟩ (.pointer (some ⟨b,o+off,none⟩)):=⟨λ w _=>by simp[execOp,hx,Xs hf,Addr.add_lit]⟩
theorem A7{x:Operand}{t k off b:Nat}(hx:ev S x=.pointer (some ⟨b,0,none⟩))(hf:dG P t k=some off):aM P S G ⟨some d,.fieldAddr t x k,ty,pos,af,gd⟩ (.pointer (some ⟨b,off,none⟩)) :=
 ⟨λ w hw=>by have:=(vQ (d:=d) (ty:=ty) (pos:=pos) (af:=af) (gd:=gd) (G:=G) hx hf).run w hw;rwa [Nat.zero_add] at this⟩
theorem Gr{x:Operand}{a:Addr}(hx:ev S x=.pointer (some a)):aM P S G ⟨some d,.nilCheck x,ty,pos,af,gd⟩ (.pointer (some a)):=⟨λ w _=>by simp[execOp,hx]⟩
theorem Ug{x:Operand}{t b off i:Nat}{cs:List Value}{T:TypeId}{fr:Nat×Nat}{v:Value}(hx:ev S x=.pointer (some ⟨b,off,none⟩))(ha:At H i b (.cells ⟨cs⟩ T fr))(ht:one P t=true)
  (hv:cs[off]?=some v):aM P S (St w0 M H) ⟨some d,.load t x,ty,pos,af,gd⟩ (v):=⟨λ w hw=>by
  have hc:w.cell? ⟨b,off,none⟩=some v:=by rw[cell_of_row w b off ⟨cs⟩ T fr (hw.at ha)];simpa using hv
  simp[execOp,hx,Instr.loadAt,Instr.sureAddr,loadVar,Eo ht,hc]⟩
theorem Zo{x:Operand}{t b i:Nat}{cs:List Value}{T:TypeId}{fr:Nat×Nat}(hx:ev S x=.pointer (some ⟨b,0,none⟩))(ha:At H i b (.cells ⟨cs⟩ T fr))(ht:jK P t cs.length=true)
  : aM P S (St w0 M H) ⟨some d,.load t x,ty,pos,af,gd⟩ (.agg ⟨cs⟩):=⟨λ w hw=>by
  obtain⟨dd,hu,hm,hi⟩:=gZ ht
  simp only[execOp,hx,Instr.loadAt,Instr.sureAddr,Sem.run_bind,Sem.run_pure,Result.andThen_ok,run_loadVar_row w b T t ⟨cs⟩ fr dd (hw.at ha) hu (by cases dd<;>first|rfl|exact hm) hi]⟩
theorem bZ{x y:Operand}{t b off i:Nat}{cs cs':List Value}{T:TypeId}{v:Value}{H':List (Nat×Obj)}(hx:ev S x=.pointer (some ⟨b,off,none⟩))(ha:At H i b (.cells ⟨cs⟩ T (0,0)))(hy:ev S y=v)(hv:v.oneCell'=true)(ht:one P t=true)
  (hoff:Nat.blt off cs.length=true) (hcs:cs.set off v=cs') (hH:setAt H i (.cells ⟨cs'⟩ T (0,0))=H') :
  aX P S (St w0 M H) ⟨none,.store t x y,ty,pos,af,gd⟩ Unit (λ _=>undef) (λ _=>St w0 M H') :=
 sC (λ w hw=>by
  subst hcs hH
  have hb:=hw.at ha
  have hlt:off<cs.length:=Nat.le_of_ble_eq_true hoff
  have hc:w.cell? ⟨b,off,none⟩=some cs[off]:=by rw[cell_of_row w b off ⟨cs⟩ T (0,0) hb];simp[hlt]
  have hfz:w.frozen? ⟨b,off,none⟩=false:=frozen_of_row w b off ⟨cs⟩ T hb
  have hs:(store ⟨b,off,none⟩ v).run P w=.ok () (w.setCell ⟨b,off,none⟩ v):=by rw[run_store P w _ v _ hv,hc];simp[hfz]
  have e:v.cells = #[v]:=by cases v<;>simp_all[Value.cells,Value.oneCell']
  refine⟨w.setCell ⟨b,off,none⟩ v,?_,hw.write ha rfl rfl rfl (by simp) (λ k hk=>heap_setCell_other w _ k v hk) (by simpa using heap_setCell_same w b off ⟨cs⟩ T v hb)⟩
  simp[execOp,hx,hy,Instr.storeAt,Instr.sureAddr,storeVar,e,Qo ht,storeCells,Addr.add_zero',hs])
theorem eV{x y:Operand}{t b i:Nat}{cs bO:List Value}{T:TypeId}{H':List (Nat×Obj)}(hx:ev S x=.pointer (some ⟨b,0,none⟩))(ha:At H i b (.cells ⟨bO⟩ T (0,0)))(hy:ev S y=.agg ⟨cs⟩)(h1:cs.all (·.oneCell')=true)
  (ht:jK P t cs.length=true) (ho:bO.length=cs.length) (hH:setAt H i (.cells ⟨cs⟩ T (0,0))=H') :
  aX P S (St w0 M H) ⟨none,.store t x y,ty,pos,af,gd⟩ Unit (λ _=>undef) (λ _=>St w0 M H') :=
 sC (λ w hw=>by
  subst hH
  have hb:=hw.at ha
  obtain⟨dd,hu,hm,hi⟩:=gZ ht
  refine⟨w.setRow b ⟨cs⟩,?_,hw.write ha rfl rfl rfl (by simp) (λ k hk=>setRow_other w b k ⟨cs⟩ hk) (setRow_heap w b ⟨bO⟩ ⟨cs⟩ T (0,0) hb)⟩
  simp only[execOp,hx,hy,Instr.storeAt,Instr.sureAddr,Sem.run_bind,Sem.run_pure,Result.andThen_ok,run_storeVar_row w b T t ⟨bO⟩ ⟨cs⟩ hb hi (by simpa using ho) (by simpa using h1)])
def Gl:List Value->List (Nat×Value)->List Value
 | z,[]=>z
 | z,(i,v)::r=>Gl (z.set i v) r
theorem Hf{k:Nat}{place:Nat->Option (Nat×Nat)}(hp:∀i,i<k->place i=some (i,1)):∀(r:List (Nat×Value)) (z:List Value),z.length=k ->
  (r.all λ p=>Nat.blt p.1 k&&p.2.oneCell')=true->Instr.fill place ⟨z⟩ r=some ⟨Gl z r⟩
 | [],z,_,_=>rfl
 | (i,v)::r,z,hz,h=>by
  simp only[List.all_cons,Bool.and_eq_true] at h
  have hi:i<k:=Nat.le_of_ble_eq_true h.1.1
  have e:v.cells = #[v]:=by cases v<;>simp_all[Value.cells,Value.oneCell']
  have ih:=Hf hp r (z.set i v) (by simpa using hz) (by simpa using h.2)
  simp only[Instr.fill,hp i hi,e]
  have h2:¬(i+1>z.length):=by omega
  simp[h2,Gl,ih]
def structOf(P:Program)(t:TypeId)(z:List Value):Prop :=
 ∀r:List (Nat×Value),(r.all λ p=>Nat.blt p.1 z.length&&p.2.oneCell')=true->P.built t r=some ⟨Gl z r⟩
def Qs(P:Program)(t:TypeId)(k:Nat):Bool :=
 match P.info? t,P.underlying t with
 | some it,some (.struct fields) =>
  match it.zero,fields.toList.mapM (λ f=>(P.info? f.type).map λ i=>(f.offset,i.size)) with
  | some (.agg z),some places=>z.size==k&&(List.range k).all λ i=>places[i]?==some (i,1)
  | _,_=>false
 | _,_=>false
theorem iP{t:TypeId}{z:List Value}(h:Qs P t z.length=true)(hz:dS P t=some (.agg ⟨z⟩)):structOf P t z:=by
 intro r hr
 unfold Qs at h
 unfold dS at hz
 unfold Program.built
 cases hi:P.info? t with
 | none=>simp[hi] at h
 | some it =>
  simp only[hi,Option.bind_some] at hz
  cases hu:P.underlying t with
  | none=>simp[hi,hu] at h
  | some dd =>
   cases dd<;>simp only[hi,hu,hz,Bool.false_eq_true] at h
   rename_i fields
   simp only[hz]
   cases hp:fields.toList.mapM (λ f=>(P.info? f.type).map λ i=>(f.offset,i.size)) with
   | none=>simp[hp] at h
   | some places =>
    simp only[hp,Bool.and_eq_true] at h ⊢
    refine Hf (k:=z.length) (λ i hi=>?_) r z rfl hr
    have:=List.all_eq_true.1 h.2 i (List.mem_range.2 hi)
    simpa using this
def jT(S:List (Nat×Value)):List (Nat×Operand)->List (Nat×Value)
 | []=>[]
 | (i,x)::r=>(i,ev S x)::jT S r
theorem sU(S:List (Nat×Value)):∀r:List (Nat×Operand),jT S r=r.map λ(i,x)=>(i,ev S x)
 | []=>rfl
 | (i,x)::r=>by simp[jT,sU S r]
theorem Qf(S:List (Nat×Value)):jT S []=[]:=rfl
theorem Mi{S:List (Nat×Value)}{i:Nat}{x:Operand}{v:Value}{r:List (Nat×Operand)}{vs:List (Nat×Value)}(hx:ev S x=v)(h:jT S r=vs):jT S ((i,x)::r)=(i,v)::vs:=by
 subst hx h;rfl
theorem s9{t:TypeId}{parts:List (Nat×Operand)}{z cs:List Value}{vs:List (Nat×Value)}(hb:structOf P t z)(hv:jT S parts=vs)(h1:(vs.all λ p=>Nat.blt p.1 z.length&&p.2.oneCell')=true)(hcs:Gl z vs=cs):aM P S G ⟨some d,.build t ⟨parts⟩,ty,pos,af,gd⟩ (.agg ⟨cs⟩):=⟨λ w _=>by
  subst hcs hv
  have e:((⟨parts⟩:Array (Nat×Operand)).map λ(i,x)=>(i,ev S x)).toList=jT S parts:=by simp[sU]
  have hr:=run_build (P:=P) w t (Array.map (λ x=>match x with|(i,x)=>(i,ev S x)) ⟨parts⟩) ⟨Gl z (jT S parts)⟩ (by rw[e];exact hb _ h1)
  simp only[execOp,Sem.run_bind,hr,Result.andThen_ok,Sem.run_pure]⟩
def pG:List Value->Nat->List Value->List Value
 | z,_,[]=>z
 | z,o,v::r=>pG (z.set o v) (o+1) r
def nJ:Value->List Value
 | .agg ⟨cs⟩=>cs
 | v=>[v]
theorem C0(v:Value):v.cells.toList=nJ v:=by cases v<;>rfl
def Hz:List (Nat×Nat)->List Value->List (Nat×Value)->List Value
 | _,z,[]=>z
 | pl,z,(i,v)::r=>Hz pl (pG z (pl.getD i (0,0)).1 (nJ v)) r
def Q4(pl:List (Nat×Nat))(k:Nat)(r:List (Nat×Value)):Bool :=
 r.all λ p=>match pl[p.1]? with|some (o,s)=>Nat.beq (nJ p.2).length s&&Nat.ble (o+s) k|none=>false
theorem xI:∀(vs z:List Value) (o:Nat),(pG z o vs).length=z.length
 | [],_,_=>rfl
 | v::r,z,o=>by simp[pG,xI r]
theorem Bu:∀(vs:List Value) (z:List Value) (o j:Nat),(vs.zipIdx j).foldl (λ(cs:Array Value) (c,j)=>cs.setIfInBounds (o+j) c) ⟨z⟩=⟨pG z (o+j) vs⟩
 | [],_,_,_=>rfl
 | v::r,z,o,j=>by
  simp only[List.zipIdx_cons,List.foldl_cons,List.setIfInBounds_toArray,pG]
  have:=Bu r (z.set (o+j) v) o (j+1)
  rw[show o+(j+1)=o+j+1 by omega] at this
  exact this
theorem F0{k:Nat}{pl:List (Nat×Nat)}{place:Nat->Option (Nat×Nat)}(hp:∀i,place i=pl[i]?):∀(r:List (Nat×Value)) (z:List Value),z.length=k ->
  Q4 pl k r=true->Instr.fill place ⟨z⟩ r=some ⟨Hz pl z r⟩
 | [],z,_,_=>rfl
 | (i,v)::r,z,hz,h=>by
  simp only[Q4,List.all_cons,Bool.and_eq_true] at h
  obtain⟨h1,h2⟩:=h
  cases hi:pl[i]? with
  | none=>simp[hi] at h1
  | some q =>
   obtain⟨o,s⟩:=q
   simp only[hi,Bool.and_eq_true] at h1
   have e1:=fJ h1.1
   have e2:=Nat.le_of_ble_eq_true h1.2
   have ih:=F0 (k:=k) hp r (pG z o (nJ v)) (by rw[xI];exact hz) (by simpa[Q4] using h2)
   have hc:v.cells=⟨nJ v⟩:=by apply Array.ext';simpa using C0 v
   have hsz:v.cells.size=s:=by rw[hc];simpa using e1
   simp only[Instr.fill,hp i,hi,hsz]
   have h3:¬(o+s>(⟨z⟩:Array Value).size):=by simp only[List.size_toArray];omega
   have hg:(pl.getD i (0,0))=(o,s):=by simp[List.getD,hi]
   have h4:(v.cells.zipIdx.foldl (λ(cs:Array Value) (c,j)=>cs.setIfInBounds (o+j) c) ⟨z⟩)=⟨pG z o (nJ v)⟩:=by
    rw[hc,<- Array.foldl_toList]
    simpa using Bu (nJ v) z o 0
   simp only[h4,Hz,hg]
   rw[if_neg (by simp;omega)]
   exact ih
def placeOf(P:Program)(t:TypeId)(pl:List (Nat×Nat))(z:List Value):Prop :=
 ∀r:List (Nat×Value),Q4 pl z.length r=true->P.built t r=some ⟨Hz pl z r⟩
def U1(P:Program)(t:TypeId)(pl:List (Nat×Nat))(k:Nat):Bool :=
 match P.info? t,P.underlying t with
 | some it,some (.struct fields) =>
  match it.zero,fields.toList.mapM (λ f=>(P.info? f.type).map λ i=>(f.offset,i.size)) with
  | some (.agg z),some places=>z.size==k&&places==pl
  | _,_=>false
 | _,_=>false
theorem lQ{t:TypeId}{pl:List (Nat×Nat)}{z:List Value}(h:U1 P t pl z.length=true)(hz:dS P t=some (.agg ⟨z⟩)):placeOf P t pl z:=by
 intro r hr
 unfold U1 at h
 unfold dS at hz
 unfold Program.built
 cases hi:P.info? t with
 | none=>simp[hi] at h
 | some it =>
  simp only[hi,Option.bind_some] at hz
  cases hu:P.underlying t with
  | none=>simp[hi,hu] at h
  | some dd =>
   cases dd<;>simp only[hi,hu,hz,Bool.false_eq_true] at h
   rename_i fields
   simp only[hz]
   cases hp:fields.toList.mapM (λ f=>(P.info? f.type).map λ i=>(f.offset,i.size)) with
   | none=>simp[hp] at h
   | some places =>
    simp only[hp,Bool.and_eq_true] at h ⊢
    have e:=eq_of_beq h.2
    subst e
    exact F0 (k:=z.length) (place:=λ x=>places.toArray[x]?) (λ i=>by simp) r z rfl hr
theorem Bg{t:TypeId}{pl:List (Nat×Nat)}{parts:List (Nat×Operand)}{z cs:List Value}{vs:List (Nat×Value)}(hb:placeOf P t pl z)(hv:jT S parts=vs)(h1:Q4 pl z.length vs=true)(hcs:Hz pl z vs=cs):aM P S G ⟨some d,.build t ⟨parts⟩,ty,pos,af,gd⟩ (.agg ⟨cs⟩):=⟨λ w _=>by
  subst hcs hv
  have e:((⟨parts⟩:Array (Nat×Operand)).map λ(i,x)=>(i,ev S x)).toList=jT S parts:=by simp[sU]
  have hr:=run_build (P:=P) w t (Array.map (λ x=>match x with|(i,x)=>(i,ev S x)) ⟨parts⟩) ⟨Hz pl z (jT S parts)⟩ (by rw[e];exact hb _ h1)
  simp only[execOp,Sem.run_bind,hr,Result.andThen_ok,Sem.run_pure]⟩
section ints
variable{x y:Operand}{t t':TypeId}{k:IntKind}{a b:Int}
theorem aB8(hx:ev S x=.int k a)(hy:ev S y=.int k b):aM P S G ⟨some d,.binOp .eql t x y t',ty,pos,af,gd⟩ (.bool (a==b)):=⟨λ w _=>by simp[execOp,hx,hy,eqGuard_at_int,binOp_eql]⟩
theorem wg (hx:ev S x=.int k a) (hy:ev S y=.int k b):aM P S G ⟨some d,.binOp .neq t x y t',ty,pos,af,gd⟩ (.bool (a != b)):=⟨fun w _=>by simp [execOp,hx,hy,eqGuard_at_int,binOp_neq]⟩
theorem wu(hx:ev S x=.int k a)(hy:ev S y=.int k b):aM P S G ⟨some d,.binOp .lss t x y t',ty,pos,af,gd⟩ (.bool (decide (a<b))):=⟨λ w _=>by simp[execOp,hx,hy,eqGuard_at_int,binOp_lss]⟩
theorem aA6(hx:ev S x=.int k a)(hy:ev S y=.int k b):aM P S G ⟨some d,.binOp .leq t x y t',ty,pos,af,gd⟩ (.bool (decide (a<=b))):=⟨λ w _=>by simp[execOp,hx,hy,eqGuard_at_int,binOp_leq]⟩
theorem vp(hx:ev S x=.int k a)(hy:ev S y=.int k b):aM P S G ⟨some d,.binOp .gtr t x y t',ty,pos,af,gd⟩ (.bool (decide (a>b))):=⟨λ w _=>by simp[execOp,hx,hy,eqGuard_at_int,binOp_gtr]⟩
theorem ug(hx:ev S x=.int k a)(hy:ev S y=.int k b):aM P S G ⟨some d,.binOp .geq t x y t',ty,pos,af,gd⟩ (.bool (decide (a≥b))):=⟨λ w _=>by simp[execOp,hx,hy,eqGuard_at_int,binOp_geq]⟩
theorem sO(hx:ev S x=.int k a)(hy:ev S y=.int k b):aM P S G ⟨some d,.binOp .add t x y t',ty,pos,af,gd⟩ (.int k (k.wrap (a+b))):=⟨λ w _=>by simp[execOp,hx,hy,eqGuard_at_int,binOp_add,Op.intArith]⟩
theorem Ke(hx:ev S x=.int k a)(hy:ev S y=.int k b):aM P S G ⟨some d,.binOp .sub t x y t',ty,pos,af,gd⟩ (.int k (k.wrap (a-b))):=⟨λ w _=>by simp[execOp,hx,hy,eqGuard_at_int,binOp_sub,Op.intArith]⟩
theorem ai(hx:ev S x=.int k a)(hy:ev S y=.int k b):aM P S G ⟨some d,.binOp .mul t x y t',ty,pos,af,gd⟩ (.int k (k.wrap (a*b))):=⟨λ w _=>by simp[execOp,hx,hy,eqGuard_at_int,binOp_mul,Op.intArith]⟩
end ints
theorem Hu{x y:Operand}{t t':TypeId}{a b:ByteArray}(hx:ev S x=.string a)(hy:ev S y=.string b):aM P S G ⟨some d,.binOp .eql t x y t',ty,pos,af,gd⟩ (.bool (a.toList==b.toList)):=⟨λ w _=>by simp[execOp,hx,hy,eqGuard_at_string,binOp,Op.stringOp]⟩
theorem Hb {x y:Operand} {t t':TypeId} {a b:ByteArray} (hx:ev S x=.string a) (hy:ev S y=.string b):aM P S G ⟨some d,.binOp .neq t x y t',ty,pos,af,gd⟩ (.bool (a.toList != b.toList)):=⟨fun w _=>by simp [execOp,hx,hy,eqGuard_at_string,binOp,Op.stringOp,bne]⟩
theorem bn{x:Operand}{t:TypeId}{s:ByteArray}(hx:ev S x=.string s)(ht:P.underlying t=some .string):aM P S G ⟨some d,.call {callee:=.builtin .len,args := #[x],argTypes := #[t]},ty,pos,af,gd⟩ (.int .i64 s.size):=⟨λ w _=>by simp[execOp,resolve,invoke,builtin,hx,Builtin.len_,run_underlying ht,goInt]⟩
theorem u7{x:Operand}{t e:TypeId}{a:Option Addr}{m c:Nat}(hx:ev S x=.slice a m c)(ht:P.underlying t=some (.slice e)):aM P S G ⟨some d,.call {callee:=.builtin .len,args := #[x],argTypes := #[t]},ty,pos,af,gd⟩ (.int .i64 m):=⟨λ w _=>by simp[execOp,resolve,invoke,builtin,hx,Builtin.len_,run_underlying ht,goInt]⟩
end
end

end Go.Ct
