/- The engine, part 1: judgements on code whose frame is a list of slots and whose world is known up to the blocks that are named; the rules of control. Nothing of the program is named here. -/
import Derived.WalkKit
import Derived.WalkSpells
import Derived.WalkLawsBesides
set_option linter.unusedSimpArgs false
set_option linter.unusedVariables false
namespace Go.Ct
open Go Go.RowKit
theorem bI(n:Nat):(0:Int)<=(n:Int):=Int.natCast_nonneg n
theorem eF{m n:Nat}(h:Nat.beq m n=true):m=n:=Nat.eq_of_beq_eq_true h
theorem kP{α:Type}{l:List α}{i:Nat}{a:α}:l.getD i a=l[i]?.getD a:=List.getD_eq_getElem?_getD
def look:List (Nat×Value)->Nat->Value
 | [],_=>undef
 | p::r,k=>bif Nat.beq p.1 k then p.2 else look r k
def ev(S:List (Nat×Value)):Operand->Value
 | .tmp t=>look S t
 | .const v=>v
 | .global g=>.pointer (some ⟨g,0,none⟩)
 | .func f=>.func (.func f) #[] #[]
def Co(n:Nat)(S:List (Nat×Value)):Prop:=∀p∈S,p.1<n
def dR(n:Nat)(S:List (Nat×Value)):Array Value:=Array.ofFn (n:=n) λ i=>look S i.val
theorem Ll{n:Nat}{S:List (Nat×Value)}(h:Co n S){k:Nat}(hk:n<=k):look S k=undef:=by
 induction S with
 | nil=>rfl
 | cons p r ih =>
  have hp:p.1<n:=h p (List.mem_cons_self ..)
  have hb:Nat.beq p.1 k=false:=by
   cases hb:Nat.beq p.1 k with
   | false=>rfl
   | true=>have:=eF hb;omega
  simp only[look,hb,cond_false]
  exact ih λ q hq=>h q (List.mem_cons_of_mem _ hq)
theorem iU{n:Nat}{S:List (Nat×Value)}{ds:List Deferred}(h:Co n S):(⟨dR n S,ds⟩:Act).eval=ev S:=by
 funext x
 cases x with
 | tmp t =>
  show(dR n S).getD t undef=look S t
  unfold dR
  by_cases ht:t<n
  ·simp[Array.getD,ht]
  ·rw[Ll h (Nat.le_of_not_lt ht)]
   simp[Array.getD,ht]
 | _=>rfl
theorem B3{n:Nat}{S:List (Nat×Value)}{ds:List Deferred}{d:Nat}{v:Value} :
  (⟨dR n S,ds⟩:Act).put (some d) v=⟨dR n ((d,v)::S),ds⟩:=by
 show(⟨(dR n S).setIfInBounds d v,ds⟩:Act)=_
 congr 1
 unfold dR
 apply Array.ext
 ·simp
 ·intro i h1 h2
  rw[Array.getElem_setIfInBounds (by simpa using h1)]
  simp only[Array.getElem_ofFn,look]
  by_cases hd:d=i
  ·subst hd;simp
  ·have hb:Nat.beq d i=false:=by
    cases hb:Nat.beq d i with
    | false=>rfl
    | true=>exact absurd (eF hb) hd
   simp[hd,hb]
theorem Co.cons{n:Nat}{S:List (Nat×Value)}(h:Co n S){d:Nat}{v:Value}(hd:Nat.blt d n=true):Co n ((d,v)::S):=by
 intro p hp
 rcases List.mem_cons.1 hp with rfl|hp
 ·exact Nat.le_of_ble_eq_true hd
 ·exact h p hp
inductive CK where
 | code (c:Code)
 | Qe (id:Nat)
 | inv (J:Act->World->Prop)
def runK(P:Program)(Q:Exit->Act->World->Prop):List CK->Exit->Act->World->Prop
 | [],e,a,w=>Q e a w
 | .code c::r,.normal,a,w=>c.wp P (runK P Q r) a w
 | .code _::r,.exit i,a,w=>runK P Q r (.exit i) a w
 | .code _::r,.goto i,a,w=>runK P Q r (.goto i) a w
 | .code _::r,.ret,a,w=>runK P Q r .ret a w
 | .code _::r,.panic c,a,w=>runK P Q r (.panic c) a w
 | .code _::r,.outgrown,a,w=>runK P Q r .outgrown a w
 | .Qe id::r,.exit i,a,w=>if i=id then runK P Q r .normal a w else runK P Q r (.exit i) a w
 | .Qe _::r,.normal,a,w=>runK P Q r .normal a w
 | .Qe _::r,.goto i,a,w=>runK P Q r (.goto i) a w
 | .Qe _::r,.ret,a,w=>runK P Q r .ret a w
 | .Qe _::r,.panic c,a,w=>runK P Q r (.panic c) a w
 | .Qe _::r,.outgrown,a,w=>runK P Q r .outgrown a w
 | .inv J::_,.normal,a,w=>J a w
 | .inv _::r,.exit i,a,w=>runK P Q r (.exit i) a w
 | .inv _::r,.goto i,a,w=>runK P Q r (.goto i) a w
 | .inv _::r,.ret,a,w=>runK P Q r .ret a w
 | .inv _::r,.panic c,a,w=>runK P Q r (.panic c) a w
 | .inv _::r,.outgrown,a,w=>runK P Q r .outgrown a w
theorem Ik(P:Program)(Q:Exit->Act->World->Prop)(y:Code)(r:List CK) :
  runK P Q (.code y::r)=Exit.then (y.wp P (runK P Q r)) (runK P Q r):=by
 funext e a w;cases e<;>rfl
theorem an(P:Program)(Q:Exit->Act->World->Prop)(id:Nat)(r:List CK) :
  runK P Q (.Qe id::r)=Exit.inBlock id (runK P Q r):=by
 funext e a w;cases e<;>simp[runK,Exit.inBlock]
theorem Ni(P:Program)(Q:Exit->Act->World->Prop)(J:Act->World->Prop)(r:List CK) :
  runK P Q (.inv J::r)=Exit.then J (runK P Q r):=by
 funext e a w;cases e<;>rfl
def Bv(id:Nat):List CK->Option (List CK)
 | []=>none
 | .Qe i::r=>bif Nat.beq i id then some r else Bv id r
 | .code _::r=>Bv id r
 | .inv _::r=>Bv id r
theorem wM{P:Program}{Q:Exit->Act->World->Prop}{id:Nat}{a:Act}{w:World} :
  ∀{ks r:List CK},Bv id ks=some r->runK P Q r .normal a w->runK P Q ks (.exit id) a w
 | [],_,h,_=>by cases h
 | .Qe i::ks,r,h,hr=>by
  simp only[Bv] at h
  simp only[runK]
  cases hb:Nat.beq i id with
  | true =>
   rw[hb] at h
   have:=eF hb
   subst this
   simp only[cond_true,Option.some.injEq] at h
   subst h
   simpa using hr
  | false =>
   rw[hb] at h
   have hne:¬id=i:=λ e=>by subst e;simp at hb
   simp only[hne,if_false]
   exact wM h hr
 | .code _::ks,r,h,hr=>wM (ks:=ks) h hr
 | .inv _::ks,r,h,hr=>wM (ks:=ks) h hr
structure JK(P:Program)(n:Nat)(Q:Exit->Act->World->Prop)(ks:List CK)(S:List (Nat×Value))(G:World->Prop):Prop where
 run:Co n S->∀w,G w->runK P Q ks .normal ⟨dR n S,[]⟩ w
structure JL(P:Program)(n:Nat)(Q:Exit->Act->World->Prop)(ks:List CK)(ops:Array Oper)(l:List Oper)(S:List (Nat×Value))(G:World->Prop):Prop where
 run:Co n S->∀w,G w->wpList P ops (runK P Q ks) l ⟨dR n S,[]⟩ w
section
variable{P:Program}{n:Nat}{Q:Exit->Act->World->Prop}{ks:List CK}{S:List (Nat×Value)}{G:World->Prop}{ops:Array Oper}{l:List Oper}
theorem aV{x y:Code}(h:JK P n Q (.code x::.code y::ks) S G):JK P n Q (.code (.seq x y)::ks) S G:=⟨λ hS w hw=>by
 have:=h.run hS w hw
 simp only[runK] at this ⊢
 rw[Ik] at this
 exact wp_seq this⟩
theorem cO{id:Nat}{c:Code}(h:JK P n Q (.code c::.Qe id::ks) S G):JK P n Q (.code (.block id c)::ks) S G:=⟨λ hS w hw=>by
 have:=h.run hS w hw
 simp only[runK] at this ⊢
 rw[an] at this
 exact wp_block this⟩
theorem eU{id:Nat}(h:JK P n Q ks S G):JK P n Q (.Qe id::ks) S G:=⟨h.run⟩
theorem aZ(h:JK P n Q ks S G):JK P n Q (.code .skip::ks) S G:=⟨λ hS w hw=>wp_skip (h.run hS w hw)⟩
theorem bM{id:Nat}{r:List CK}(hr:Bv id ks=some r)(h:JK P n Q r S G):JK P n Q (.code (.exit id)::ks) S G :=
 ⟨λ hS w hw=>wp_exit (wM hr (h.run hS w hw))⟩
theorem yn{c:Operand}{x y:Code}{t:Bool}(hc:ev S c=.bool t)(ht:t=true->JK P n Q (.code x::ks) S G)
  (hf:t=false->JK P n Q (.code y::ks) S G):JK P n Q (.code (.cond c x y)::ks) S G:=⟨λ hS w hw =>
 wp_cond_split (by rw[iU hS];exact hc) (λ h=>(ht h).run hS w hw) (λ h=>(hf h).run hS w hw)⟩
theorem aB7{c:Operand}{x y:Code}{t:Bool}(ht:t=true->JK P n Q (.code x::ks) S G)
  (hf:t=false->JK P n Q (.code y::ks) S G) (hc:ev S c=.bool t:=by exact rfl):JK P n Q (.code (.cond c x y)::ks) S G:=yn hc ht hf
theorem dW{id:Nat}{l:List Oper}(h:JL P n Q ks l.toArray l S G):JK P n Q (.code (.region id l.toArray false)::ks) S G :=
 ⟨λ hS w hw=>wp_region_lit (h.run hS w hw)⟩
theorem Sq{G':World->Prop}(hG:∀w,G w->G' w)(h:JK P n Q ks S G'):JK P n Q ks S G:=⟨λ hS w hw=>h.run hS w (hG w hw)⟩
theorem aG(h:JK P n Q ks S G):JL P n Q ks ops [] S G:=⟨h.run⟩
theorem vn{G':World->Prop}(hG:∀w,G w->G' w)(h:JL P n Q ks ops l S G'):JL P n Q ks ops l S G:=⟨λ hS w hw=>h.run hS w (hG w hw)⟩
theorem vE{P:Program}{Q:Exit->Act->World->Prop}{a:Act}{w:World}:∀{ks:List CK},Q .ret a w->runK P Q ks .ret a w
 | [],h=>h
 | .code _::ks,h=>vE (ks:=ks) h
 | .Qe _::ks,h=>vE (ks:=ks) h
 | .inv _::ks,h=>vE (ks:=ks) h
theorem aAO(h:Co n S->∀w,G w->Q .ret ⟨dR n S,[]⟩ w):JK P n Q (.code .ret::ks) S G:=⟨λ hS w hw=>wp_ret (vE (h hS w hw))⟩
structure aL(P:Program)(S:List (Nat×Value))(G:World->Prop)(o:Oper)(v:Value):Prop where
 run:∀w,G w->(execOp (ev S) o).run P w=.ok (.value v) w
def qv(P:Program)(X:Type)(V:X->Value)(G':X->World->Prop):Result Next->Prop
 | .ok (.value v) w'=>∃x,v=V x/\G' x w'
 | .ok .skip w'=>∃x,undef=V x/\G' x w'
 | .ok (.enter f args) w'=>Calls P f args w' λ e w''=>∃x,e=.returned (V x)/\G' x w''
 | _=>False
structure bF(P:Program)(S:List (Nat×Value))(G:World->Prop)(o:Oper)(X:Type)(V:X->Value)(G':X->World->Prop):Prop where
 run:∀(w:World),G w->qv P X V G' ((execOp (ev S) o).run P w)
theorem qv.upon{P:Program}{X:Type}{V:X->Value}{G':X->World->Prop}{o:Oper}{a:Act}{r:Result Next}{K:Act->World->Prop}{Q:Exit->Act->World->Prop}
  (h:qv P X V G' r) (hK:∀x w',G' x w'->K (a.put o.dst (V x)) w'):o.upon P a K Q r:=by
 cases r with
 | ok nx w' =>
  cases nx<;>simp only[qv] at h
  case value v=>obtain⟨x,rfl,hg⟩:=h;exact hK x w' hg
  case skip=>obtain⟨x,hx,hg⟩:=h;simp only[Oper.upon];rw[hx];exact hK x w' hg
  case enter f args =>
   simp only[Oper.upon]
   refine h.mono ?_
   rintro e w'' ⟨x,rfl,hg⟩
   exact hK x w'' hg
 | halt x w'=>exact h.elim
theorem aB{d:Nat}{op:Op}{ty:TypeId}{pos:String}{af:Array Edge}{v:Value}(hrun:aL P S G ⟨some d,op,ty,pos,af,none⟩ v)(hd:Nat.blt d n=true)
  (h:JL P n Q ks ops l ((d,v)::S) G):JL P n Q ks ops (⟨some d,op,ty,pos,af,none⟩::l) S G:=⟨λ hS w hw =>
 wpList_plain rfl λ K hK=>by
  unfold Oper.wp
  rw[iU hS,hrun.run w hw]
  simp only[Oper.upon,B3]
  exact hK _ _ (h.run (hS.cons hd) w hw)⟩
theorem qU{X:Type}{V:X->Value}{G':X->World->Prop}{d:Nat}{op:Op}{ty:TypeId}{pos:String}{af:Array Edge}(hrun:bF P S G ⟨some d,op,ty,pos,af,none⟩ X V G')(hd:Nat.blt d n=true)
  (h:∀x,JL P n Q ks ops l ((d,V x)::S) (G' x)):JL P n Q ks ops (⟨some d,op,ty,pos,af,none⟩::l) S G:=⟨λ hS w hw =>
 wpList_plain rfl λ K hK=>by
  unfold Oper.wp
  rw[iU hS]
  refine(hrun.run w hw).upon λ x w' hg=>?_
  rw[B3]
  exact hK _ _ ((h x).run (hS.cons hd) w' hg)⟩
theorem S9{X:Type}{V:X->Value}{G':X->World->Prop}{op:Op}{ty:TypeId}{pos:String}{af:Array Edge}(hrun:bF P S G ⟨none,op,ty,pos,af,none⟩ X V G')
  (h:∀x,JL P n Q ks ops l S (G' x)):JL P n Q ks ops (⟨none,op,ty,pos,af,none⟩::l) S G:=⟨λ hS w hw =>
 wpList_plain rfl λ K hK=>by
  unfold Oper.wp
  rw[iU hS]
  exact(hrun.run w hw).upon λ x w' hg=>hK _ _ ((h x).run hS w' hg)⟩
theorem kZ{X:Type}{V:X->Value}{G':X->World->Prop}{o:Oper}
  (hrun:∀w,G w->∃x w',(execOp (ev S) o).run P w=.ok (.value (V x)) w'/\G' x w'):bF P S G o X V G':=⟨λ w hw=>by
 obtain⟨x,w',hr,hG⟩:=hrun w hw
 rw[hr]
 exact⟨x,rfl,hG⟩⟩
theorem wY{G':World->Prop}{o:Oper}
  (hrun:∀w,G w->∃w',(execOp (ev S) o).run P w=.ok .skip w'/\G' w'):bF P S G o Unit (λ _=>undef) (λ _=>G'):=⟨λ w hw=>by
 obtain⟨w',hr,hG⟩:=hrun w hw
 rw[hr]
 exact⟨(),rfl,hG⟩⟩
theorem gB{X:Type}{V:X->Value}{G':X->World->Prop}{o:Oper}{f:FuncId}{args:Array Value}
  (hrun:∀w,(execOp (ev S) o).run P w=.ok (.enter f args) w)
  (hc:∀w,G w->Calls P f args w λ e w'=>∃x,e=.returned (V x)/\G' x w'):bF P S G o X V G':=⟨λ w hw=>by
 rw[hrun w]
 exact hc w hw⟩
theorem Qm{d:Nat}{op:Op}{ty:TypeId}{pos:String}{af:Array Edge}{j:Nat}{want:Bool}{g:Nat}{t:Bool}(hd:Nat.blt d n=true)
  (hj:(ops[j]?).bind (·.dst)=some g) (hg:look S g=.bool t) (ht:t≠want)
  (h:JL P n Q ks ops l ((d,undef)::S) G):JL P n Q ks ops (⟨some d,op,ty,pos,af,some (j,want)⟩::l) S G:=⟨λ hS w hw=>by
 have hy:yielded ops (dR n S) j=some t:=by
  have e:=congrFun (iU (ds:=[]) hS) (.tmp g)
  simp only[Act.eval,ev,hg] at e
  unfold yielded
  rw[hj]
  simp only[Option.bind_some]
  rw[Array.getD_eq_getD_getElem?] at e
  cases h2:(dR n S)[g]? with
  | none=>rw[h2] at e;simp[undef] at e
  | some u=>rw[h2] at e;simp at e;subst e;rfl
 refine wpList_step λ K hK=>?_
 have hw':Region.wanted ⟨some d,op,ty,pos,af,some (j,want)⟩ (yielded ops (dR n S))=false:=by
  simp only[Region.wanted,hy]
  cases t<;>cases want<;>simp_all
 simp only[hw',Bool.false_eq_true,if_false,B3]
 exact hK _ _ (h.run (hS.cons hd) w hw)⟩
theorem j7{d:Nat}{op:Op}{ty:TypeId}{pos:String}{af:Array Edge}{j:Nat}{want:Bool}{g:Nat}
  (hj:(ops[j]?).bind (·.dst)=some g) (hg:look S g=.bool want)
  (h:JL P n Q ks ops (⟨some d,op,ty,pos,af,none⟩::l) S G):JL P n Q ks ops (⟨some d,op,ty,pos,af,some (j,want)⟩::l) S G:=⟨λ hS w hw=>by
 have hy:yielded ops (dR n S) j=some want:=by
  have e:=congrFun (iU (ds:=[]) hS) (.tmp g)
  simp only[Act.eval,ev,hg] at e
  unfold yielded
  rw[hj]
  simp only[Option.bind_some]
  rw[Array.getD_eq_getD_getElem?] at e
  cases h2:(dR n S)[g]? with
  | none=>rw[h2] at e;simp[undef] at e
  | some u=>rw[h2] at e;simp at e;subst e;rfl
 have:=h.run hS w hw
 unfold wpList at this ⊢
 rw[if_pos (by simp[Region.wanted])] at this
 rw[if_pos (by simp[Region.wanted,hy])]
 exact this⟩
theorem Up{n:Nat}{S:List (Nat×Value)}{g:Nat}{v:Value}(h:look S g=v):dR n ((g,v)::S)=dR n S:=by
 unfold dR
 congr 1
 funext i
 simp only[look]
 cases hb:Nat.beq g i.val with
 | true=>have:=eF hb;simp[<- this,h]
 | false=>rfl
theorem Co.same{n:Nat}{S:List (Nat×Value)}{g:Nat}{v:Value}(h:Co n S)(hg:look S g=v)(hv:v≠undef):Co n ((g,v)::S):=by
 intro p hp
 rcases List.mem_cons.1 hp with rfl|hp
 ·rcases Nat.lt_or_ge g n with h1|h1
  ·exact h1
  ·exact absurd (hg.symm.trans (Ll h h1)) hv
 ·exact h p hp
theorem v9{g:Nat}{t:Bool}(hg:look S g=.bool t)(h1:t=true->JL P n Q ks ops l ((g,.bool true)::S) G)(h2:t=false->JL P n Q ks ops l ((g,.bool false)::S) G):JL P n Q ks ops l S G:=⟨λ hS w hw=>by
 cases t with
 | true =>
  have:=(h1 rfl).run (hS.same hg (by simp[undef])) w hw
  rwa [Up hg] at this
 | false =>
  have:=(h2 rfl).run (hS.same hg (by simp[undef])) w hw
  rwa [Up hg] at this⟩
end
def bY:Nat->List Value->List (Nat×Value)
 | _,[]=>[]
 | i,v::r=>(i,v)::bY (i+1) r
theorem Og(k:Nat):∀(l:List Value) (i:Nat),look (bY i l) (i+k)=l.getD k undef
 | [],i=>by simp[bY,look]
 | v::r,i=>by
  simp only[bY,look]
  cases k with
  | zero=>simp
  | succ k =>
   have hb:Nat.beq i (i+(k+1))=false:=by
    cases hb:Nat.beq i (i+(k+1)) with
    | false=>rfl
    | true=>have:=eF hb;omega
   rw[hb,cond_false]
   have:=Og k r (i+1)
   rw[show i+1+k=i+(k+1) by omega] at this
   simpa using this
theorem Ki(n:Nat):∀(l:List Value) (i:Nat),i+l.length<=n->Co n (bY i l)
 | [],_,_=>λ _ h=>by cases h
 | v::r,i,h=>λ p hp=>by
  simp only[List.length_cons] at h
  rcases List.mem_cons.1 hp with rfl|hp
  ·simp;omega
  ·exact Ki n r (i+1) (by omega) p hp
theorem Ol(n:Nat)(args:Array Value)(h:args.size<=n):args++Array.replicate (n-args.size) undef=dR n (bY 0 args.toList):=by
 unfold dR
 apply Array.ext
 ·simp;omega
 ·intro i h1 h2
  have:=Og i args.toList 0
  rw[Nat.zero_add] at this
  simp only[Array.getElem_ofFn,this]
  rw[Array.getElem_append]
  split
  ·rename_i hlt;simp[List.getD,hlt]
  ·rename_i hge;simp[List.getD];rw[Array.getElem?_eq_none (by omega)];rfl
theorem enter{P:Program}{f:FuncId}{fn:Func}{c:Code}{args:Array Value}{w:World}{R:Ending->World->Prop}{n:Nat}{G:World->Prop}
  (hf:P.funcs[f]?=some fn) (hn:fn.ntmps=n) (hb:fn.body=some c) (hlen:Nat.ble args.size n=true) (hG:G w)
  (h:JK P n (bodyPost P fn R) [.code c] (bY 0 args.toList) G):Calls P f args w R:=by
 subst hn
 have hl:args.size<=fn.ntmps:=Nat.le_of_ble_eq_true hlen
 refine calls_of_wp hf hb ?_
 rw[Ol _ _ hl]
 exact h.run (Ki _ _ _ (by simpa using hl)) w hG
end Go.Ct
