/- The engine, part 1: judgements on code whose frame is a list of slots and whose world is known up to the blocks that are named; the rules of control. Nothing of the program is named here. -/
import Derived.WalkKit
import Derived.WalkSpells
import Derived.WalkLawsBesides
set_option linter.unusedSimpArgs false
set_option linter.unusedVariables false
namespace Go.Ct
open Go Go.RowKit
theorem pR(n:Nat):(0:Int)<=(n:Int):=Int.natCast_nonneg n
theorem eX{m n:Nat}(h:Nat.beq m n=true):m=n:=Nat.eq_of_beq_eq_true h
theorem G0{α:Type}{l:List α}{i:Nat}{a:α}:l.getD i a=l[i]?.getD a:=List.getD_eq_getElem?_getD
def look:List (Nat×Value)->Nat->Value
 | [],_=>undef
 | p::r,k=>bif Nat.beq p.1 k then p.2 else look r k
def ev(S:List (Nat×Value)):Operand->Value
 | .tmp t=>look S t
 | .const v=>v
 | .global g=>.pointer (some ⟨g,0,none⟩)
 | .func f=>.func (.func f) #[] #[]
def xJ(n:Nat)(S:List (Nat×Value)):Prop:=∀p∈S,p.1<n
def dX(n:Nat)(S:List (Nat×Value)):Array Value:=Array.ofFn (n:=n) λ i=>look S i.val
theorem Fm{n:Nat}{S:List (Nat×Value)}(h:xJ n S){k:Nat}(hk:n<=k):look S k=undef:=by
 induction S with
 | nil=>rfl
 | cons p r ih =>
  have hp:p.1<n:=h p (List.mem_cons_self ..)
  have hb:Nat.beq p.1 k=false:=by
   cases hb:Nat.beq p.1 k with
   | false=>rfl
   | true=>have:=eX hb;omega
  simp only[look,hb,cond_false]
  exact ih λ q hq=>h q (List.mem_cons_of_mem _ hq)
theorem iB{n:Nat}{S:List (Nat×Value)}{ds:List Deferred}(h:xJ n S):(⟨dX n S,ds⟩:Act).eval=ev S:=by
 funext x
 cases x with
 | tmp t =>
  show(dX n S).getD t undef=look S t
  unfold dX
  by_cases ht:t<n
  ·simp[Array.getD,ht]
  ·rw[Fm h (Nat.le_of_not_lt ht)]
   simp[Array.getD,ht]
 | _=>rfl
theorem Cf{n:Nat}{S:List (Nat×Value)}{ds:List Deferred}{d:Nat}{v:Value} :
  (⟨dX n S,ds⟩:Act).put (some d) v=⟨dX n ((d,v)::S),ds⟩:=by
 show(⟨(dX n S).setIfInBounds d v,ds⟩:Act)=_
 congr 1
 unfold dX
 apply Array.ext
 ·simp
 ·intro i h1 h2
  rw[Array.getElem_setIfInBounds (by simpa using h1)]
  simp only[Array.getElem_ofFn,look]
  by_cases hd:d=i
  ·subst hd;simp
  ·have hb:Nat.beq d i=false:=by
    cases hb:Nat.beq d i with
    | false=>rfl
    | true=>exact absurd (eX hb) hd
   simp[hd,hb]
theorem xJ.cons{n:Nat}{S:List (Nat×Value)}(h:xJ n S){d:Nat}{v:Value}(hd:Nat.blt d n=true):xJ n ((d,v)::S):=by
 intro p hp
 rcases List.mem_cons.1 hp with rfl|hp
 ·exact Nat.le_of_ble_eq_true hd
 ·exact h p hp
inductive CK where
 | code (c:Code)
 | Ka (id:Nat)
 | inv (J:Act->World->Prop)
def runK(P:Program)(Q:Exit->Act->World->Prop):List CK->Exit->Act->World->Prop
 | [],e,a,w=>Q e a w
 | .code c::r,.normal,a,w=>c.wp P (runK P Q r) a w
 | .code _::r,.exit i,a,w=>runK P Q r (.exit i) a w
 | .code _::r,.goto i,a,w=>runK P Q r (.goto i) a w
 | .code _::r,.ret,a,w=>runK P Q r .ret a w
 | .code _::r,.panic c,a,w=>runK P Q r (.panic c) a w
 | .code _::r,.outgrown,a,w=>runK P Q r .outgrown a w
 | .Ka id::r,.exit i,a,w=>if i=id then runK P Q r .normal a w else runK P Q r (.exit i) a w
 | .Ka _::r,.normal,a,w=>runK P Q r .normal a w
 | .Ka _::r,.goto i,a,w=>runK P Q r (.goto i) a w
 | .Ka _::r,.ret,a,w=>runK P Q r .ret a w
 | .Ka _::r,.panic c,a,w=>runK P Q r (.panic c) a w
 | .Ka _::r,.outgrown,a,w=>runK P Q r .outgrown a w
 | .inv J::_,.normal,a,w=>J a w
 | .inv _::r,.exit i,a,w=>runK P Q r (.exit i) a w
 | .inv _::r,.goto i,a,w=>runK P Q r (.goto i) a w
 | .inv _::r,.ret,a,w=>runK P Q r .ret a w
 | .inv _::r,.panic c,a,w=>runK P Q r (.panic c) a w
 | .inv _::r,.outgrown,a,w=>runK P Q r .outgrown a w
theorem Ds(P:Program)(Q:Exit->Act->World->Prop)(y:Code)(r:List CK) :
  runK P Q (.code y::r)=Exit.then (y.wp P (runK P Q r)) (runK P Q r):=by
 funext e a w;cases e<;>rfl
theorem Vm(P:Program)(Q:Exit->Act->World->Prop)(id:Nat)(r:List CK) :
  runK P Q (.Ka id::r)=Exit.inBlock id (runK P Q r):=by
 funext e a w;cases e<;>simp[runK,Exit.inBlock]
theorem Cr(P:Program)(Q:Exit->Act->World->Prop)(J:Act->World->Prop)(r:List CK) :
  runK P Q (.inv J::r)=Exit.then J (runK P Q r):=by
 funext e a w;cases e<;>rfl
def yJ(id:Nat):List CK->Option (List CK)
 | []=>none
 | .Ka i::r=>bif Nat.beq i id then some r else yJ id r
 | .code _::r=>yJ id r
 | .inv _::r=>yJ id r
theorem rW{P:Program}{Q:Exit->Act->World->Prop}{id:Nat}{a:Act}{w:World} :
  ∀{ks r:List CK},yJ id ks=some r->runK P Q r .normal a w->runK P Q ks (.exit id) a w
 | [],_,h,_=>by cases h
 | .Ka i::ks,r,h,hr=>by
  simp only[yJ] at h
  simp only[runK]
  cases hb:Nat.beq i id with
  | true =>
   rw[hb] at h
   have:=eX hb
   subst this
   simp only[cond_true,Option.some.injEq] at h
   subst h
   simpa using hr
  | false =>
   rw[hb] at h
   have hne:¬id=i:=λ e=>by subst e;simp at hb
   simp only[hne,if_false]
   exact rW h hr
 | .code _::ks,r,h,hr=>rW (ks:=ks) h hr
 | .inv _::ks,r,h,hr=>rW (ks:=ks) h hr
structure JK(P:Program)(n:Nat)(Q:Exit->Act->World->Prop)(ks:List CK)(S:List (Nat×Value))(G:World->Prop):Prop where
 run:xJ n S->∀w,G w->runK P Q ks .normal ⟨dX n S,[]⟩ w
structure JL(P:Program)(n:Nat)(Q:Exit->Act->World->Prop)(ks:List CK)(ops:Array Oper)(l:List Oper)(S:List (Nat×Value))(G:World->Prop):Prop where
 run:xJ n S->∀w,G w->wpList P ops (runK P Q ks) l ⟨dX n S,[]⟩ w
section
variable{P:Program}{n:Nat}{Q:Exit->Act->World->Prop}{ks:List CK}{S:List (Nat×Value)}{G:World->Prop}{ops:Array Oper}{l:List Oper}
theorem aJ{x y:Code}(h:JK P n Q (.code x::.code y::ks) S G):JK P n Q (.code (.seq x y)::ks) S G:=⟨λ hS w hw=>by
 have:=h.run hS w hw
 simp only[runK] at this ⊢
 rw[Ds] at this
 exact wp_seq this⟩
theorem aV{id:Nat}{c:Code}(h:JK P n Q (.code c::.Ka id::ks) S G):JK P n Q (.code (.block id c)::ks) S G:=⟨λ hS w hw=>by
 have:=h.run hS w hw
 simp only[runK] at this ⊢
 rw[Vm] at this
 exact wp_block this⟩
theorem dZ{id:Nat}(h:JK P n Q ks S G):JK P n Q (.Ka id::ks) S G:=⟨h.run⟩
theorem bB(h:JK P n Q ks S G):JK P n Q (.code .skip::ks) S G:=⟨λ hS w hw=>wp_skip (h.run hS w hw)⟩
theorem aX{id:Nat}{r:List CK}(hr:yJ id ks=some r)(h:JK P n Q r S G):JK P n Q (.code (.exit id)::ks) S G :=
 ⟨λ hS w hw=>wp_exit (rW hr (h.run hS w hw))⟩
theorem ep{c:Operand}{x y:Code}{t:Bool}(hc:ev S c=.bool t)(ht:t=true->JK P n Q (.code x::ks) S G)
  (hf:t=false->JK P n Q (.code y::ks) S G):JK P n Q (.code (.cond c x y)::ks) S G:=⟨λ hS w hw =>
 wp_cond_split (by rw[iB hS];exact hc) (λ h=>(ht h).run hS w hw) (λ h=>(hf h).run hS w hw)⟩
theorem py{c:Operand}{x y:Code}{t:Bool}(ht:t=true->JK P n Q (.code x::ks) S G)
  (hf:t=false->JK P n Q (.code y::ks) S G) (hc:ev S c=.bool t:=by exact rfl):JK P n Q (.code (.cond c x y)::ks) S G:=ep hc ht hf
theorem dD{id:Nat}{l:List Oper}(h:JL P n Q ks l.toArray l S G):JK P n Q (.code (.region id l.toArray false)::ks) S G :=
 ⟨λ hS w hw=>wp_region_lit (h.run hS w hw)⟩
theorem tX{G':World->Prop}(hG:∀w,G w->G' w)(h:JK P n Q ks S G'):JK P n Q ks S G:=⟨λ hS w hw=>h.run hS w (hG w hw)⟩
theorem aD(h:JK P n Q ks S G):JL P n Q ks ops [] S G:=⟨h.run⟩
theorem qY{P:Program}{Q:Exit->Act->World->Prop}{a:Act}{w:World}:∀{ks:List CK},Q .ret a w->runK P Q ks .ret a w
 | [],h=>h
 | .code _::ks,h=>qY (ks:=ks) h
 | .Ka _::ks,h=>qY (ks:=ks) h
 | .inv _::ks,h=>qY (ks:=ks) h
theorem kw(h:xJ n S->∀w,G w->Q .ret ⟨dX n S,[]⟩ w):JK P n Q (.code .ret::ks) S G:=⟨λ hS w hw=>wp_ret (qY (h hS w hw))⟩
structure aG(P:Program)(S:List (Nat×Value))(G:World->Prop)(o:Oper)(v:Value):Prop where
 run:∀w,G w->(execOp (ev S) o).run P w=.ok (.value v) w
def Wt(P:Program)(X:Type)(V:X->Value)(G':X->World->Prop):Result Next->Prop
 | .ok (.value v) w'=>∃x,v=V x/\G' x w'
 | .ok .skip w'=>∃x,undef=V x/\G' x w'
 | .ok (.enter f args) w'=>Calls P f args w' λ e w''=>∃x,e=.returned (V x)/\G' x w''
 | _=>False
structure aQ(P:Program)(S:List (Nat×Value))(G:World->Prop)(o:Oper)(X:Type)(V:X->Value)(G':X->World->Prop):Prop where
 run:∀(w:World),G w->Wt P X V G' ((execOp (ev S) o).run P w)
theorem Wt.upon{P:Program}{X:Type}{V:X->Value}{G':X->World->Prop}{o:Oper}{a:Act}{r:Result Next}{K:Act->World->Prop}{Q:Exit->Act->World->Prop}
  (h:Wt P X V G' r) (hK:∀x w',G' x w'->K (a.put o.dst (V x)) w'):o.upon P a K Q r:=by
 cases r with
 | ok nx w' =>
  cases nx<;>simp only[Wt] at h
  case value v=>obtain⟨x,rfl,hg⟩:=h;exact hK x w' hg
  case skip=>obtain⟨x,hx,hg⟩:=h;simp only[Oper.upon];rw[hx];exact hK x w' hg
  case enter f args =>
   simp only[Oper.upon]
   refine h.mono ?_
   rintro e w'' ⟨x,rfl,hg⟩
   exact hK x w'' hg
 | halt x w'=>exact h.elim
theorem aA{d:Nat}{op:Op}{ty:TypeId}{pos:String}{af:Array Edge}{v:Value}(hrun:aG P S G ⟨some d,op,ty,pos,af,none⟩ v)(hd:Nat.blt d n=true)
  (h:JL P n Q ks ops l ((d,v)::S) G):JL P n Q ks ops (⟨some d,op,ty,pos,af,none⟩::l) S G:=⟨λ hS w hw =>
 wpList_plain rfl λ K hK=>by
  unfold Oper.wp
  rw[iB hS,hrun.run w hw]
  simp only[Oper.upon,Cf]
  exact hK _ _ (h.run (hS.cons hd) w hw)⟩
theorem qU{X:Type}{V:X->Value}{G':X->World->Prop}{d:Nat}{op:Op}{ty:TypeId}{pos:String}{af:Array Edge}(hrun:aQ P S G ⟨some d,op,ty,pos,af,none⟩ X V G')(hd:Nat.blt d n=true)
  (h:∀x,JL P n Q ks ops l ((d,V x)::S) (G' x)):JL P n Q ks ops (⟨some d,op,ty,pos,af,none⟩::l) S G:=⟨λ hS w hw =>
 wpList_plain rfl λ K hK=>by
  unfold Oper.wp
  rw[iB hS]
  refine(hrun.run w hw).upon λ x w' hg=>?_
  rw[Cf]
  exact hK _ _ ((h x).run (hS.cons hd) w' hg)⟩
theorem N5{X:Type}{V:X->Value}{G':X->World->Prop}{op:Op}{ty:TypeId}{pos:String}{af:Array Edge}(hrun:aQ P S G ⟨none,op,ty,pos,af,none⟩ X V G')
  (h:∀x,JL P n Q ks ops l S (G' x)):JL P n Q ks ops (⟨none,op,ty,pos,af,none⟩::l) S G:=⟨λ hS w hw =>
 wpList_plain rfl λ K hK=>by
  unfold Oper.wp
  rw[iB hS]
  exact(hrun.run w hw).upon λ x w' hg=>hK _ _ ((h x).run hS w' hg)⟩
theorem fM{X:Type}{V:X->Value}{G':X->World->Prop}{o:Oper}
  (hrun:∀w,G w->∃x w',(execOp (ev S) o).run P w=.ok (.value (V x)) w'/\G' x w'):aQ P S G o X V G':=⟨λ w hw=>by
 obtain⟨x,w',hr,hG⟩:=hrun w hw
 rw[hr]
 exact⟨x,rfl,hG⟩⟩
theorem iZ{G':World->Prop}{o:Oper}
  (hrun:∀w,G w->∃w',(execOp (ev S) o).run P w=.ok .skip w'/\G' w'):aQ P S G o Unit (λ _=>undef) (λ _=>G'):=⟨λ w hw=>by
 obtain⟨w',hr,hG⟩:=hrun w hw
 rw[hr]
 exact⟨(),rfl,hG⟩⟩
theorem gH{X:Type}{V:X->Value}{G':X->World->Prop}{o:Oper}{f:FuncId}{args:Array Value}
  (hrun:∀w,(execOp (ev S) o).run P w=.ok (.enter f args) w)
  (hc:∀w,G w->Calls P f args w λ e w'=>∃x,e=.returned (V x)/\G' x w'):aQ P S G o X V G':=⟨λ w hw=>by
 rw[hrun w]
 exact hc w hw⟩
theorem Kq{d:Nat}{op:Op}{ty:TypeId}{pos:String}{af:Array Edge}{j:Nat}{want:Bool}{g:Nat}{t:Bool}(hd:Nat.blt d n=true)
  (hj:(ops[j]?).bind (·.dst)=some g) (hg:look S g=.bool t) (ht:t≠want)
  (h:JL P n Q ks ops l ((d,undef)::S) G):JL P n Q ks ops (⟨some d,op,ty,pos,af,some (j,want)⟩::l) S G:=⟨λ hS w hw=>by
 have hy:yielded ops (dX n S) j=some t:=by
  have e:=congrFun (iB (ds:=[]) hS) (.tmp g)
  simp only[Act.eval,ev,hg] at e
  unfold yielded
  rw[hj]
  simp only[Option.bind_some]
  rw[Array.getD_eq_getD_getElem?] at e
  cases h2:(dX n S)[g]? with
  | none=>rw[h2] at e;simp[undef] at e
  | some u=>rw[h2] at e;simp at e;subst e;rfl
 refine wpList_step λ K hK=>?_
 have hw':Region.wanted ⟨some d,op,ty,pos,af,some (j,want)⟩ (yielded ops (dX n S))=false:=by
  simp only[Region.wanted,hy]
  cases t<;>cases want<;>simp_all
 simp only[hw',Bool.false_eq_true,if_false,Cf]
 exact hK _ _ (h.run (hS.cons hd) w hw)⟩
theorem Ur{d:Nat}{op:Op}{ty:TypeId}{pos:String}{af:Array Edge}{j:Nat}{want:Bool}{g:Nat}
  (hj:(ops[j]?).bind (·.dst)=some g) (hg:look S g=.bool want)
  (h:JL P n Q ks ops (⟨some d,op,ty,pos,af,none⟩::l) S G):JL P n Q ks ops (⟨some d,op,ty,pos,af,some (j,want)⟩::l) S G:=⟨λ hS w hw=>by
 have hy:yielded ops (dX n S) j=some want:=by
  have e:=congrFun (iB (ds:=[]) hS) (.tmp g)
  simp only[Act.eval,ev,hg] at e
  unfold yielded
  rw[hj]
  simp only[Option.bind_some]
  rw[Array.getD_eq_getD_getElem?] at e
  cases h2:(dX n S)[g]? with
  | none=>rw[h2] at e;simp[undef] at e
  | some u=>rw[h2] at e;simp at e;subst e;rfl
 have:=h.run hS w hw
 unfold wpList at this ⊢
 rw[if_pos (by simp[Region.wanted])] at this
 rw[if_pos (by simp[Region.wanted,hy])]
 exact this⟩
theorem Ng{n:Nat}{S:List (Nat×Value)}{g:Nat}{v:Value}(h:look S g=v):dX n ((g,v)::S)=dX n S:=by
 unfold dX
 congr 1
 funext i
 simp only[look]
 cases hb:Nat.beq g i.val with
 | true=>have:=eX hb;simp[<- this,h]
 | false=>rfl
theorem xJ.same{n:Nat}{S:List (Nat×Value)}{g:Nat}{v:Value}(h:xJ n S)(hg:look S g=v)(hv:v≠undef):xJ n ((g,v)::S):=by
 intro p hp
 rcases List.mem_cons.1 hp with rfl|hp
 ·rcases Nat.lt_or_ge g n with h1|h1
  ·exact h1
  ·exact absurd (hg.symm.trans (Fm h h1)) hv
 ·exact h p hp
theorem gk{g:Nat}{t:Bool}(hg:look S g=.bool t)(h1:t=true->JL P n Q ks ops l ((g,.bool true)::S) G)(h2:t=false->JL P n Q ks ops l ((g,.bool false)::S) G):JL P n Q ks ops l S G:=⟨λ hS w hw=>by
 cases t with
 | true =>
  have:=(h1 rfl).run (hS.same hg (by simp[undef])) w hw
  rwa [Ng hg] at this
 | false =>
  have:=(h2 rfl).run (hS.same hg (by simp[undef])) w hw
  rwa [Ng hg] at this⟩
end
def cP:Nat->List Value->List (Nat×Value)
 | _,[]=>[]
 | i,v::r=>(i,v)::cP (i+1) r
theorem He(k:Nat):∀(l:List Value) (i:Nat),look (cP i l) (i+k)=l.getD k undef
 | [],i=>by simp[cP,look]
 | v::r,i=>by
  simp only[cP,look]
  cases k with
  | zero=>simp
  | succ k =>
   have hb:Nat.beq i (i+(k+1))=false:=by
    cases hb:Nat.beq i (i+(k+1)) with
    | false=>rfl
    | true=>have:=eX hb;omega
   rw[hb,cond_false]
   have:=He k r (i+1)
   rw[show i+1+k=i+(k+1) by omega] at this
   simpa using this
theorem Fg(n:Nat):∀(l:List Value) (i:Nat),i+l.length<=n->xJ n (cP i l)
 | [],_,_=>λ _ h=>by cases h
 | v::r,i,h=>λ p hp=>by
  simp only[List.length_cons] at h
  rcases List.mem_cons.1 hp with rfl|hp
  ·simp;omega
  ·exact Fg n r (i+1) (by omega) p hp
theorem Hy(n:Nat)(args:Array Value)(h:args.size<=n):args++Array.replicate (n-args.size) undef=dX n (cP 0 args.toList):=by
 unfold dX
 apply Array.ext
 ·simp;omega
 ·intro i h1 h2
  have:=He i args.toList 0
  rw[Nat.zero_add] at this
  simp only[Array.getElem_ofFn,this]
  rw[Array.getElem_append]
  split
  ·rename_i hlt;simp[List.getD,hlt]
  ·rename_i hge;simp[List.getD];rw[Array.getElem?_eq_none (by omega)];rfl
theorem enter{P:Program}{f:FuncId}{fn:Func}{c:Code}{args:Array Value}{w:World}{R:Ending->World->Prop}{n:Nat}{G:World->Prop}
  (hf:P.funcs[f]?=some fn) (hn:fn.ntmps=n) (hb:fn.body=some c) (hlen:Nat.ble args.size n=true) (hG:G w)
  (h:JK P n (bodyPost P fn R) [.code c] (cP 0 args.toList) G):Calls P f args w R:=by
 subst hn
 have hl:args.size<=fn.ntmps:=Nat.le_of_ble_eq_true hlen
 refine calls_of_wp hf hb ?_
 rw[Hy _ _ hl]
 exact h.run (Fg _ _ _ (by simpa using hl)) w hG
end Go.Ct
