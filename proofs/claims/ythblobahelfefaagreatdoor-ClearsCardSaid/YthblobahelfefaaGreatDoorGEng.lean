/- Merged. -/
import Derived.WalkKit
import Derived.WalkSpells
import Derived.WalkLawsBesides
set_option linter.unusedSimpArgs false
set_option linter.unusedVariables false
namespace Go.Ct
open Go Go.RowKit
section
variable{p:Prop}
theorem E0a(h:p:=by repeat (first|exact List.Sublist.refl _|apply List.Sublist.cons)):p:=h
theorem E0b(h:p:=by simp only[fT,dO,List.cons_append,List.nil_append,List.append_nil];exact rfl):p:=h
theorem E0c(h:p:=by have hl:a.mm.nodes.length<=s1.nodes.length:=l.len;omega):p:=h
theorem E0d(h:p:=by repeat (first|exact List.Sublist.refl _|apply List.Sublist.cons_cons|apply List.Sublist.cons)):p:=h
theorem E0e(h:p:=by exact (λ _=>by((repeat (first|exact aS.nil|refine aS.cons (by first|exact fR|exact fO (hq:=nT (oJ (v:=.agg ⟨[.map (some u.bv),.bool false]⟩) (K:=3) (E:=116) (dK:=.int .i64) (ze:=.agg ⟨[.map none,.bool false]⟩) (k:=.int .i64 0) (es:=Yj u.bv) (c:=1) (r:=some (0,.agg ⟨[.map (some u.bv),.bool false]⟩)) rf rf bU (by kernel_rfl) (by kernel_rfl) rfl (by kernel_rfl) rfl rfl))) ?_));done))):p:=h
theorem E0f(h:p:=by repeat (exact List.Sublist.refl _)):p:=h
theorem E0g(h:p:=by exact (λ _=>by((repeat (first|exact aS.nil|refine aS.cons (by first|exact fO (hq:=jY (n:=2) (k:=0) (e:=3) rf rf (by kernel_rfl) (by kernel_rfl) (by decide))|exact fR|exact fO (hq:=jY (n:=2) (k:=1) (e:=3) rf rf (by kernel_rfl) (by kernel_rfl) (by decide))|exact fO (hq:=nT (dQ rf bU (by kernel_rfl)))) ?_));done))):p:=h
theorem E0h(h:p:=by exact mH λ _=>bO oU zN rf rf rf rf (by simp only[fT,dO,List.cons_append,List.nil_append,List.append_nil];exact rfl)):p:=h
theorem E0i(h:p:=by exact mH λ _=>bO iQ zN rf rf rf rf (by simp only[fT,dO,List.cons_append,List.nil_append,List.append_nil];exact rfl)):p:=h
theorem E0j(h:p:=by exact (λ _=>by((repeat (first|exact aS.nil|refine aS.cons (by first|exact fR|exact fO (hq:=dM (f:=hJ.cells) (j:=1) cL rf iH (.own .head) ht rfl)|exact fO (hq:=dM (f:=hJ.cells) (j:=2) (v:=pt p.bt) cL rf iH (.own .head) ht hc2)) ?_));done))):p:=h
theorem E0k(h:p:=by repeat (first|(with_reducible exact wT.refl)|refine wT.cons (by exact rfl) ?_)):p:=h
theorem E0l(h:p:=by simp only[List.length_append,List.length_singleton];omega):p:=h
theorem E0m(h:p:=by exact mH λ _=>bO oM zN rf rf rf rf (by simp only[fT,dO,List.cons_append,List.nil_append,List.append_nil];exact rfl)):p:=h
theorem E0n(h:p:=by exact mH λ _=>bO mZ zN rf rf rf rf (by simp only[fT,dO,List.cons_append,List.nil_append,List.append_nil];exact rfl)):p:=h
theorem E0o(h:p:=by exact (λ _=>by((repeat (first|exact aS.nil|refine aS.cons (by exact fR) ?_));done))):p:=h
theorem E0p(h:p:=by rw[List.length_take];omega):p:=h
theorem E0q(h:p:=by exact by exact List.Sublist.refl _):p:=h
theorem E0s(h:p:=by exact .cons (.inr (.inr (.inr ⟨_,.tail _ (.head _),rfl,rfl⟩))) (.cons (.inr (.inr (.inr ⟨_,.head _,rfl,rfl⟩))) (.of λ _ h=>.inr (.inl h)))):p:=h
theorem E0t(h:p:=by exact mH λ _=>bO rC zN rf rf rf rf (by simp only[fT,dO,List.cons_append,List.nil_append,List.append_nil];exact rfl)):p:=h
theorem E0u(h:p:=by exact mH λ _=>bO Sj zN rf rf rf rf (by simp only[fT,dO,List.cons_append,List.nil_append,List.append_nil];exact rfl)):p:=h
theorem E0v(h:p:=by exact λ x hx f hf=>.inr (by rw[hx.2,List.append_assoc] at hf;exact hf)):p:=h
theorem E0w(h:p:=by simp only[oT,List.length_map];omega):p:=h
theorem E0x(h:p:=by simpa using run_firstCells_none w.drew inf.size 0 0 0):p:=h
theorem E0y(h:p:=by exact λ w hw=>by exact hw.back (hH:=by exact List.Sublist.refl _) (hF:=by exact aT.all) (hO:=by exact List.Sublist.refl _)):p:=h
theorem E0z(h:p:=by rw[<- List.append_assoc,<- List.append_assoc];exact List.Perm.append_right _ List.perm_append_comm):p:=h
theorem E1a(h:p:=by intro x;simp only[eL];exact rfl):p:=h
theorem E1b(h:p:=by rw[jR (by omega),Nat.mul_one]):p:=h
theorem E1c(h:p:=by rw[hx.2,List.append_assoc] at hf;exact hf):p:=h
theorem E1d(h:p:=by exact (λ _=>by(refine aS.cons (by exact fO (hq:=iA b1 (eZ b t) 0 hB rfl)) ?_;exact aS.nil))):p:=h
theorem E1e(h:p:=by rw[e1] at he;simp at he ⊢;omega):p:=h
theorem E1f(h:p:=by have:=h2.2.2;rwa [show(((k+1:Nat):Int)-1).toNat=k by omega] at this):p:=h
theorem E1g(h:p:=by rw[jR (Nat.le_refl _)];exact hi):p:=h
theorem E1h(h:p:=by exact by exact List.Sublist.refl _):p:=h
theorem E1i(h:p:=by simp[Act.eval,Array.replicate]):p:=h
theorem E1j(h:p:=by rw[List.getElem?_set_self hkl]):p:=h
theorem fQ(n:Nat):(0:Int)<=(n:Int):=Int.natCast_nonneg n
theorem eJ{m n:Nat}(h:Nat.beq m n=true):m=n:=Nat.eq_of_beq_eq_true h
theorem Ss{α:Type}{l:List α}{i:Nat}{a:α}:l.getD i a=l[i]?.getD a:=List.getD_eq_getElem?_getD
def look:List (Nat×Value)->Nat->Value
 | [],_=>undef
 | p::r,k=>bif Nat.beq p.1 k then p.2 else look r k
def ev(S:List (Nat×Value)):Operand->Value
 | .tmp t=>look S t
 | .const v=>v
 | .global g=>.pointer (some ⟨g,0,none⟩)
 | .func f=>.func (.func f) #[] #[]
def Cf(n:Nat)(S:List (Nat×Value)):Prop:=∀p∈S,p.1<n
def dU(n:Nat)(S:List (Nat×Value)):Array Value:=Array.ofFn (n:=n) λ i=>look S i.val
variable{n d:Nat}{S:List (Nat×Value)}{ds:List Deferred}{v:Value}
theorem Nt(h:Cf n S){k:Nat}(hk:n<=k):look S k=undef:=by
 induction S with
 | nil=>rfl
 | cons p r ih=>
  have hp:p.1<n:=h p (List.mem_cons_self ..);have hb:Nat.beq p.1 k=false:=by
   cases hb:Nat.beq p.1 k with
   | false=>rfl
   | true=>have:=eJ hb;omega
  simp only[look,hb,cond_false];exact ih λ q hq=>h q (List.mem_cons_of_mem _ hq)
theorem iY(h:Cf n S):(⟨dU n S,ds⟩:Act).eval=ev S:=by
 funext x;cases x with
 | tmp t=>
  show(dU n S).getD t undef=look S t;unfold dU;by_cases ht:t<n;·simp[Array.getD,ht]
  ·rw[Nt h (Nat.le_of_not_lt ht)];simp[Array.getD,ht]
 | _=>rfl
theorem I0 :
  (⟨dU n S,ds⟩:Act).put (some d) v=⟨dU n ((d,v)::S),ds⟩:=by
 show(⟨(dU n S).setIfInBounds d v,ds⟩:Act)=_;congr 1;unfold dU;apply Array.ext;·simp
 ·intro i h1 h2;rw[Array.getElem_setIfInBounds (by simpa using h1)];simp only[Array.getElem_ofFn,look];by_cases hd:d=i;·subst hd;simp
  ·have hb:Nat.beq d i=false:=by
    cases hb:Nat.beq d i with
    | false=>rfl
    | true=>exact absurd (eJ hb) hd
   simp[hd,hb]
theorem Cf.cons(h:Cf n S)(hd:Nat.blt d n=true):Cf n ((d,v)::S):=by
 intro p hp;rcases List.mem_cons.1 hp with rfl|hp;·exact Nat.le_of_ble_eq_true hd
 ·exact h p hp
inductive CK where
 | code (c:Code)
 | Tj (id:Nat)
 | inv (J:Act->World->Prop)
def runK(P:Program)(Q:Exit->Act->World->Prop):List CK->Exit->Act->World->Prop
 | [],e,a,w=>Q e a w
 | .code c::r,.normal,a,w=>c.wp P (runK P Q r) a w
 | .code _::r,.exit i,a,w=>runK P Q r (.exit i) a w
 | .code _::r,.goto i,a,w=>runK P Q r (.goto i) a w
 | .code _::r,.ret,a,w=>runK P Q r .ret a w
 | .code _::r,.panic c,a,w=>runK P Q r (.panic c) a w
 | .code _::r,.outgrown,a,w=>runK P Q r .outgrown a w
 | .Tj id::r,.exit i,a,w=>if i=id then runK P Q r .normal a w else runK P Q r (.exit i) a w
 | .Tj _::r,.normal,a,w=>runK P Q r .normal a w
 | .Tj _::r,.goto i,a,w=>runK P Q r (.goto i) a w
 | .Tj _::r,.ret,a,w=>runK P Q r .ret a w
 | .Tj _::r,.panic c,a,w=>runK P Q r (.panic c) a w
 | .Tj _::r,.outgrown,a,w=>runK P Q r .outgrown a w
 | .inv J::_,.normal,a,w=>J a w
 | .inv _::r,.exit i,a,w=>runK P Q r (.exit i) a w
 | .inv _::r,.goto i,a,w=>runK P Q r (.goto i) a w
 | .inv _::r,.ret,a,w=>runK P Q r .ret a w
 | .inv _::r,.panic c,a,w=>runK P Q r (.panic c) a w
 | .inv _::r,.outgrown,a,w=>runK P Q r .outgrown a w
theorem K7(P:Program)(Q:Exit->Act->World->Prop)(y:Code)(r:List CK) :
  runK P Q (.code y::r)=Exit.then (y.wp P (runK P Q r)) (runK P Q r):=by funext e a w;cases e<;>rfl
theorem r9(P:Program)(Q:Exit->Act->World->Prop)(id:Nat)(r:List CK) :
  runK P Q (.Tj id::r)=Exit.inBlock id (runK P Q r):=by funext e a w;cases e<;>simp[runK,Exit.inBlock]
theorem Hb(P:Program)(Q:Exit->Act->World->Prop)(J:Act->World->Prop)(r:List CK) :
  runK P Q (.inv J::r)=Exit.then J (runK P Q r):=by funext e a w;cases e<;>rfl
def Cq(id:Nat):List CK->Option (List CK)
 | []=>none
 | .Tj i::r=>bif Nat.beq i id then some r else Cq id r
 | .code _::r=>Cq id r
 | .inv _::r=>Cq id r
theorem wH{P:Program}{Q:Exit->Act->World->Prop}{id:Nat}{a:Act}{w:World} :
  ∀{ks r:List CK},Cq id ks=some r->runK P Q r .normal a w->runK P Q ks (.exit id) a w
 | [],_,h,_=>by cases h
 | .Tj i::ks,r,h,hr=>by
  simp only[Cq] at h
  simp only[runK]
  cases hb:Nat.beq i id with
  | true =>
   rw[hb] at h
   have:=eJ hb
   subst this
   simp only[cond_true,Option.some.injEq] at h
   subst h
   simpa using hr
  | false =>
   rw[hb] at h
   have hne:¬id=i:=λ e=>by subst e;simp at hb
   simp only[hne,if_false]
   exact wH h hr
 | .code _::ks,r,h,hr=>wH (ks:=ks) h hr
 | .inv _::ks,r,h,hr=>wH (ks:=ks) h hr
structure JK(P:Program)(n:Nat)(Q:Exit->Act->World->Prop)(ks:List CK)(S:List (Nat×Value))(G:World->Prop):Prop where
 run:Cf n S->∀w,G w->runK P Q ks .normal ⟨dU n S,[]⟩ w
structure JL(P:Program)(n:Nat)(Q:Exit->Act->World->Prop)(ks:List CK)(ops:Array Oper)(l:List Oper)(S:List (Nat×Value))(G:World->Prop):Prop where
 run:Cf n S->∀w,G w->wpList P ops (runK P Q ks) l ⟨dU n S,[]⟩ w
section
variable{P:Program}{n:Nat}{Q:Exit->Act->World->Prop}{ks:List CK}{S:List (Nat×Value)}{G:World->Prop}{ops:Array Oper}{l:List Oper}
variable{x y:Code}{id:Nat}{c:Operand}{t:Bool}
theorem aU(h:JK P n Q (.code x::.code y::ks) S G):JK P n Q (.code (.seq x y)::ks) S G:=⟨λ hS w hw=>by have:=h.run hS w hw;simp only[runK] at this ⊢;rw[K7] at this;exact wp_seq this⟩
theorem bF{c:Code}(h:JK P n Q (.code c::.Tj id::ks) S G):JK P n Q (.code (.block id c)::ks) S G:=⟨λ hS w hw=>by have:=h.run hS w hw;simp only[runK] at this ⊢;rw[r9] at this;exact wp_block this⟩
theorem eX(h:JK P n Q ks S G):JK P n Q (.Tj id::ks) S G:=⟨h.run⟩
theorem bD(h:JK P n Q ks S G):JK P n Q (.code .skip::ks) S G:=⟨λ hS w hw=>wp_skip (h.run hS w hw)⟩
theorem bQ{r:List CK}(hr:Cq id ks=some r)(h:JK P n Q r S G):JK P n Q (.code (.exit id)::ks) S G :=⟨λ hS w hw=>wp_exit (wH hr (h.run hS w hw))⟩
theorem aCR(hc:ev S c=.bool t)(ht:t=true->JK P n Q (.code x::ks) S G)(hf:t=false->JK P n Q (.code y::ks) S G):JK P n Q (.code (.cond c x y)::ks) S G:=⟨λ hS w hw =>
 wp_cond_split (by rw[iY hS];exact hc) (λ h=>(ht h).run hS w hw) (λ h=>(hf h).run hS w hw)⟩
theorem aFH(ht:t=true->JK P n Q (.code x::ks) S G)(hf:t=false->JK P n Q (.code y::ks) S G)(hc:ev S c=.bool t:=by exact rfl):JK P n Q (.code (.cond c x y)::ks) S G:=aCR hc ht hf
theorem cD{l:List Oper}(h:JL P n Q ks l.toArray l S G):JK P n Q (.code (.region id l.toArray false)::ks) S G :=⟨λ hS w hw=>wp_region_lit (h.run hS w hw)⟩
theorem rY{G':World->Prop}(hG:∀w,G w->G' w)(h:JK P n Q ks S G'):JK P n Q ks S G:=⟨λ hS w hw=>h.run hS w (hG w hw)⟩
theorem aC(h:JK P n Q ks S G):JL P n Q ks ops [] S G:=⟨h.run⟩
theorem vE{P:Program}{Q:Exit->Act->World->Prop}{a:Act}{w:World}:∀{ks:List CK},Q .ret a w->runK P Q ks .ret a w
 | [],h=>h
 | .code _::ks,h=>vE (ks:=ks) h
 | .Tj _::ks,h=>vE (ks:=ks) h
 | .inv _::ks,h=>vE (ks:=ks) h
theorem aEe(h:Cf n S->∀w,G w->Q .ret ⟨dU n S,[]⟩ w):JK P n Q (.code .ret::ks) S G:=⟨λ hS w hw=>wp_ret (vE (h hS w hw))⟩
structure aH(P:Program)(S:List (Nat×Value))(G:World->Prop)(o:Oper)(v:Value):Prop where
 run:∀w,G w->(execOp (ev S) o).run P w=.ok (.value v) w
def pa(P:Program)(X:Type)(V:X->Value)(G':X->World->Prop):Result Next->Prop
 | .ok (.value v) w'=>∃x,v=V x/\G' x w'
 | .ok .skip w'=>∃x,undef=V x/\G' x w'
 | .ok (.enter f args) w'=>Calls P f args w' λ e w''=>∃x,e=.returned (V x)/\G' x w''
 | _=>False
structure aQ(P:Program)(S:List (Nat×Value))(G:World->Prop)(o:Oper)(X:Type)(V:X->Value)(G':X->World->Prop):Prop where
 run:∀(w:World),G w->pa P X V G' ((execOp (ev S) o).run P w)
variable{X:Type}{o:Oper}{op:Op}{ty:TypeId}{pos:String}{af:Array Edge}{j g:Nat}{want:Bool}
theorem pa.upon{P:Program}{X:Type}{V:X->Value}{G':X->World->Prop}{o:Oper}{a:Act}{r:Result Next}{K:Act->World->Prop}{Q:Exit->Act->World->Prop}
  (h:pa P X V G' r) (hK:∀x w',G' x w'->K (a.put o.dst (V x)) w'):o.upon P a K Q r:=by
 cases r with
 | ok nx w'=>
  cases nx<;>simp only[pa] at h;case value v=>obtain⟨x,rfl,hg⟩:=h;exact hK x w' hg
  case skip=>obtain⟨x,hx,hg⟩:=h;simp only[Oper.upon];rw[hx];exact hK x w' hg
  case enter f args =>simp only[Oper.upon];refine h.mono ?_;rintro e w'' ⟨x,rfl,hg⟩;exact hK x w'' hg
 | halt x w'=>exact h.elim
theorem aA{d:Nat}{v:Value}(hrun:aH P S G ⟨some d,op,ty,pos,af,none⟩ v)(hd:Nat.blt d n=true)(h:JL P n Q ks ops l ((d,v)::S) G):JL P n Q ks ops (⟨some d,op,ty,pos,af,none⟩::l) S G:=⟨λ hS w hw =>
 wpList_plain rfl λ K hK=>by unfold Oper.wp;rw[iY hS,hrun.run w hw];simp only[Oper.upon,I0];exact hK _ _ (h.run (hS.cons hd) w hw)⟩
theorem sG{V:X->Value}{G':X->World->Prop}{d:Nat}(hrun:aQ P S G ⟨some d,op,ty,pos,af,none⟩ X V G')(hd:Nat.blt d n=true)(h:∀x,JL P n Q ks ops l ((d,V x)::S) (G' x)):JL P n Q ks ops (⟨some d,op,ty,pos,af,none⟩::l) S G:=⟨λ hS w hw =>
 wpList_plain rfl λ K hK=>by unfold Oper.wp;rw[iY hS];refine(hrun.run w hw).upon λ x w' hg=>?_;rw[I0];exact hK _ _ ((h x).run (hS.cons hd) w' hg)⟩
theorem Yy{V:X->Value}{G':X->World->Prop}(hrun:aQ P S G ⟨none,op,ty,pos,af,none⟩ X V G')(h:∀x,JL P n Q ks ops l S (G' x)):JL P n Q ks ops (⟨none,op,ty,pos,af,none⟩::l) S G:=⟨λ hS w hw =>
 wpList_plain rfl λ K hK=>by unfold Oper.wp;rw[iY hS];exact(hrun.run w hw).upon λ x w' hg=>hK _ _ ((h x).run hS w' hg)⟩
theorem fE{V:X->Value}{G':X->World->Prop}(hrun:∀w,G w->∃x w',(execOp (ev S) o).run P w=.ok (.value (V x)) w'/\G' x w'):aQ P S G o X V G':=⟨λ w hw=>by obtain⟨x,w',hr,hG⟩:=hrun w hw;rw[hr];exact⟨x,rfl,hG⟩⟩
theorem kE{G':World->Prop}(hrun:∀w,G w->∃w',(execOp (ev S) o).run P w=.ok .skip w'/\G' w'):aQ P S G o Unit (λ _=>undef) (λ _=>G'):=⟨λ w hw=>by obtain⟨w',hr,hG⟩:=hrun w hw;rw[hr];exact⟨(),rfl,hG⟩⟩
theorem gD{V:X->Value}{G':X->World->Prop}{f:FuncId}{args:Array Value}(hrun:∀w,(execOp (ev S) o).run P w=.ok (.enter f args) w)(hc:∀w,G w->Calls P f args w λ e w'=>∃x,e=.returned (V x)/\G' x w'):aQ P S G o X V G':=⟨λ w hw=>by rw[hrun w];exact hc w hw⟩
theorem Vo{d:Nat}{t:Bool}(hd:Nat.blt d n=true)(hj:(ops[j]?).bind (·.dst)=some g)(hg:look S g=.bool t)(ht:t≠want)(h:JL P n Q ks ops l ((d,undef)::S) G):JL P n Q ks ops (⟨some d,op,ty,pos,af,some (j,want)⟩::l) S G:=⟨λ hS w hw=>by
 have hy:yielded ops (dU n S) j=some t:=by
  have e:=congrFun (iY (ds:=[]) hS) (.tmp g);simp only[Act.eval,ev,hg] at e;unfold yielded;rw[hj];simp only[Option.bind_some];rw[Array.getD_eq_getD_getElem?] at e;cases h2:(dU n S)[g]? with
  | none=>rw[h2] at e;simp[undef] at e
  | some u=>rw[h2] at e;simp at e;subst e;rfl
 refine wpList_step λ K hK=>?_;have hw':Region.wanted ⟨some d,op,ty,pos,af,some (j,want)⟩ (yielded ops (dU n S))=false:=by simp only[Region.wanted,hy];cases t<;>cases want<;>simp_all
 simp only[hw',Bool.false_eq_true,if_false,I0];exact hK _ _ (h.run (hS.cons hd) w hw)⟩
theorem n6{d:Nat}(hj:(ops[j]?).bind (·.dst)=some g)(hg:look S g=.bool want)(h:JL P n Q ks ops (⟨some d,op,ty,pos,af,none⟩::l) S G):JL P n Q ks ops (⟨some d,op,ty,pos,af,some (j,want)⟩::l) S G:=⟨λ hS w hw=>by
 have hy:yielded ops (dU n S) j=some want:=by
  have e:=congrFun (iY (ds:=[]) hS) (.tmp g);simp only[Act.eval,ev,hg] at e;unfold yielded;rw[hj];simp only[Option.bind_some];rw[Array.getD_eq_getD_getElem?] at e;cases h2:(dU n S)[g]? with
  | none=>rw[h2] at e;simp[undef] at e
  | some u=>rw[h2] at e;simp at e;subst e;rfl
 have:=h.run hS w hw;unfold wpList at this ⊢;rw[if_pos (by simp[Region.wanted])] at this;rw[if_pos (by simp[Region.wanted,hy])];exact this⟩
theorem Xp{n:Nat}{S:List (Nat×Value)}{v:Value}(h:look S g=v):dU n ((g,v)::S)=dU n S:=by
 unfold dU;congr 1;funext i;simp only[look];cases hb:Nat.beq g i.val with
 | true=>have:=eJ hb;simp[<- this,h]
 | false=>rfl
theorem Cf.same{n:Nat}{S:List (Nat×Value)}{v:Value}(h:Cf n S)(hg:look S g=v)(hv:v≠undef):Cf n ((g,v)::S):=by
 intro p hp;rcases List.mem_cons.1 hp with rfl|hp
 ·rcases Nat.lt_or_ge g n with h1|h1;·exact h1
  ·exact absurd (hg.symm.trans (Nt h h1)) hv
 ·exact h p hp
theorem aCY{t:Bool}(hg:look S g=.bool t)(h1:t=true->JL P n Q ks ops l ((g,.bool true)::S) G)(h2:t=false->JL P n Q ks ops l ((g,.bool false)::S) G):JL P n Q ks ops l S G:=⟨λ hS w hw=>by
 cases t with
 | true=>have:=(h1 rfl).run (hS.same hg (by simp[undef])) w hw;rwa [Xp hg] at this
 | false=>have:=(h2 rfl).run (hS.same hg (by simp[undef])) w hw;rwa [Xp hg] at this⟩
end
def bY:Nat->List Value->List (Nat×Value)
 | _,[]=>[]
 | i,v::r=>(i,v)::bY (i+1) r
theorem P8(k:Nat):∀(l:List Value) (i:Nat),look (bY i l) (i+k)=l.getD k undef
 | [],i=>by simp[bY,look]
 | v::r,i=>by
  simp only[bY,look];cases k with
  | zero=>simp
  | succ k=>
   have hb:Nat.beq i (i+(k+1))=false:=by
    cases hb:Nat.beq i (i+(k+1)) with
    | false=>rfl
    | true=>have:=eJ hb;omega
   rw[hb,cond_false];have:=P8 k r (i+1);rw[show i+1+k=i+(k+1) by omega] at this;simpa using this
theorem Oa(n:Nat):∀(l:List Value) (i:Nat),i+l.length<=n->Cf n (bY i l)
 | [],_,_=>λ _ h=>by cases h
 | v::r,i,h=>λ p hp=>by
  simp only[List.length_cons] at h;rcases List.mem_cons.1 hp with rfl|hp;·simp;omega
  ·exact Oa n r (i+1) (by omega) p hp
theorem Q4(n:Nat)(args:Array Value)(h:args.size<=n):args++Array.replicate (n-args.size) undef=dU n (bY 0 args.toList):=by
 unfold dU;apply Array.ext;·simp;omega
 ·intro i h1 h2;have:=P8 i args.toList 0;rw[Nat.zero_add] at this;simp only[Array.getElem_ofFn,this];rw[Array.getElem_append];split;·rename_i hlt;simp[List.getD,hlt]
  ·rename_i hge;simp[List.getD];rw[Array.getElem?_eq_none (by omega)];rfl
theorem enter{P:Program}{f:FuncId}{fn:Func}{c:Code}{args:Array Value}{w:World}{R:Ending->World->Prop}{n:Nat}{G:World->Prop}
  (hf:P.funcs[f]?=some fn) (hn:fn.ntmps=n) (hb:fn.body=some c) (hlen:Nat.ble args.size n=true) (hG:G w)
  (h:JK P n (bodyPost P fn R) [.code c] (bY 0 args.toList) G):Calls P f args w R:=by subst hn;have hl:args.size<=fn.ntmps:=Nat.le_of_ble_eq_true hlen;refine calls_of_wp hf hb ?_;rw[Q4 _ _ hl];exact h.run (Oa _ _ _ (by simpa using hl)) w hG
end
section
structure St(w0:World)(M:List Nat)(H:List (Nat×Obj))(w:World):Prop where
 os:w.os=w0.os
 tape:w.tape=w0.tape
 output:w.output=w0.output
 size:w0.heap.size<=w.heap.size
 eH:∀b,b<w0.heap.size->b∉M->w.heap[b]?=w0.heap[b]?
 has:∀p∈H,w.heap[p.1]?=some p.2
 new:∀p∈H,p.1∈M∨w0.heap.size<=p.1
 nodup:(H.map Prod.fst).Nodup
variable{w w0:World}{H:List (Nat×Obj)}{M:List Nat}
theorem jC{b:Nat}{o:Obj}(h:w.heap[b]?=some o):b<w.heap.size:=(Array.getElem?_eq_some_iff.1 h).1
theorem St.refl(w:World):St w [] [] w:=⟨rfl,rfl,rfl,Nat.le_refl _,λ _ _ _=>rfl,λ _ h=>(List.not_mem_nil h).elim,λ _ h=>(List.not_mem_nil h).elim,List.nodup_nil⟩
theorem St.below(h:St w0 [] H w):Below w0.heap.size w0 w :=⟨h.os,h.tape,h.output,h.size,λ k hk=>h.eH k hk (by simp)⟩
theorem St.sub{H':List (Nat×Obj)}(h:St w0 M H w)(hs:H'.Sublist H):St w0 M H' w :=⟨h.os,h.tape,h.output,h.size,h.eH,λ p hp=>h.has p (hs.subset hp),λ p hp=>h.new p (hs.subset hp),h.nodup.sublist (hs.map _)⟩
theorem St.alloc{w0 w:World}{M:List Nat}{H:List (Nat×Obj)}(h:St w0 M H w)(o:Obj):St w0 M ((w.heap.size,o)::H) (w.alloc o):=by
 refine⟨h.os,h.tape,h.output,Nat.le_trans h.size (by simp),λ b hb hM=>?_,λ p hp=>?_,λ p hp=>?_,?_⟩;·rw[heap_alloc_old w o (Nat.lt_of_lt_of_le hb h.size)];exact h.eH b hb hM
 ·rcases List.mem_cons.1 hp with rfl|hp;·exact heap_alloc_new w o
  ·have:=h.has p hp;rw[heap_alloc_old w o (jC this)];exact this
 ·rcases List.mem_cons.1 hp with rfl|hp;·exact .inr h.size
  ·exact h.new p hp
 ·simp only[List.map_cons,List.nodup_cons];refine⟨λ hm=>?_,h.nodup⟩;obtain⟨p,hp,he⟩:=List.mem_map.1 hm;have:=jC (h.has p hp);omega
inductive At:List (Nat×Obj)->Nat->Nat->Obj->Prop where
 | head {b:Nat} {o:Obj} {H:List (Nat×Obj)}:At ((b,o)::H) 0 b o
 | tail {p:Nat×Obj} {H:List (Nat×Obj)} {i b:Nat} {o:Obj}:At H i b o->At (p::H) (i+1) b o
theorem At.mem{H:List (Nat×Obj)}{i b:Nat}{o:Obj}(h:At H i b o):(b,o)∈H:=by
 induction h with
 | head=>exact List.mem_cons_self ..
 | tail _ ih=>exact List.mem_cons_of_mem _ ih
theorem St.at{w0 w:World}{M:List Nat}{H:List (Nat×Obj)}(h:St w0 M H w){i b:Nat}{o:Obj}(ha:At H i b o):w.heap[b]?=some o:=h.has _ ha.mem
def setAt:List (Nat×Obj)->Nat->Obj->List (Nat×Obj)
 | [],_,_=>[]
 | (b,_)::r,0,o=>(b,o)::r
 | p::r,i+1,o=>p::setAt r i o
theorem zC:∀(H:List (Nat×Obj)) (i:Nat) (o:Obj),(setAt H i o).map Prod.fst=H.map Prod.fst
 | [],_,_=>rfl
 | (_,_)::_,0,_=>rfl
 | _::r,i+1,o=>by simp[setAt,zC r i o]
theorem Dg{b:Nat}{o':Obj}:∀{H:List (Nat×Obj)} {i:Nat} {o:Obj},At H i b o->(H.map Prod.fst).Nodup->∀p∈setAt H i o',p=(b,o')∨(p∈H/\p.1≠b):=by
 intro H i o ha;induction ha with
 | head=>
  intro hn p hp;simp only[setAt] at hp;rcases List.mem_cons.1 hp with rfl|hp;·exact .inl rfl
  ·refine .inr ⟨List.mem_cons_of_mem _ hp,λ e=>?_⟩;simp only[List.map_cons,List.nodup_cons] at hn;exact hn.1 (e▸List.mem_map_of_mem (f:=Prod.fst) hp)
 | tail ha ih=>
  intro hn p hp;simp only[setAt] at hp;simp only[List.map_cons,List.nodup_cons] at hn;rcases List.mem_cons.1 hp with rfl|hp;·refine .inr ⟨List.mem_cons_self ..,λ e=>?_⟩;exact hn.1 (e▸List.mem_map_of_mem (f:=Prod.fst) ha.mem)
  ·rcases ih hn.2 p hp with h|⟨h1,h2⟩;·exact .inl h
   ·exact .inr ⟨List.mem_cons_of_mem _ h1,h2⟩
theorem St.write{w0 w w':World}{M:List Nat}{H:List (Nat×Obj)}(h:St w0 M H w){i b:Nat}{o o':Obj}(ha:At H i b o)
  (hos:w'.os=w.os) (htape:w'.tape=w.tape) (hout:w'.output=w.output) (hsize:w'.heap.size=w.heap.size)
  (hsame:∀k,k≠b->w'.heap[k]?=w.heap[k]?) (hb:w'.heap[b]?=some o'):St w0 M (setAt H i o') w':=by
 refine⟨hos.trans h.os,htape.trans h.tape,hout.trans h.output,by rw[hsize];exact h.size,λ k hk hM=>?_,λ p hp=>?_,λ p hp=>?_,?_⟩
 ·rcases h.new _ ha.mem with hm|hn;·rw[hsame k (λ e=>hM (e▸hm))];exact h.eH k hk hM
  ·rw[hsame k (by simp only at hn;omega)];exact h.eH k hk hM
 ·rcases Dg (o':=o') ha h.nodup p hp with rfl|⟨h1,h2⟩;·exact hb
  ·rw[hsame _ h2];exact h.has p h1
 ·rcases Dg (o':=o') ha h.nodup p hp with rfl|⟨h1,_⟩;·exact h.new (b,o) ha.mem
  ·exact h.new p h1
 ·rw[zC];exact h.nodup
def one(P:Program)(t:TypeId):Bool :=
 match P.info? t,P.underlying t with
 | some i,some d=>i.size==1&&(match d with|.struct _|.array _ _=>false|_=>true)
 | _,_=>false
theorem Fj{P:Program}{t:TypeId}(h:one P t=true)(w:World):(isAgg t).run P w=.ok false w:=by
 unfold one at h;cases hi:P.info? t with
 | none=>simp[hi] at h
 | some i=>
  cases hu:P.underlying t with
  | none=>simp[hi,hu] at h
  | some d=>simp only[hi,hu,Bool.and_eq_true] at h;unfold isAgg;rw[Sem.run_bind,run_underlying hu w];cases d<;>simp_all
theorem Qu{P:Program}{t:TypeId}(h:one P t=true)(w:World):(Go.sizeOf t).run P w=.ok 1 w:=by
 unfold one at h;cases hi:P.info? t with
 | none=>simp[hi] at h
 | some i=>
  cases hu:P.underlying t with
  | none=>simp[hi,hu] at h
  | some d=>simp only[hi,hu,Bool.and_eq_true,beq_iff_eq] at h;simp[Go.sizeOf,typeInfo,hi,h.1]
def gX(P:Program)(t:TypeId)(k:Nat):Bool :=
 match P.info? t,P.underlying t with
 | some i,some d=>i.size==k&&(match d with|.struct _|.array _ _=>true|_=>false)
 | _,_=>false
theorem gB{P:Program}{t:TypeId}{k:Nat}(h:gX P t k=true):∃d,P.underlying t=some d/\(match d with|.struct _|.array _ _=>true|_=>false)=true/\(P.info? t).map (·.size)=some k:=by
 unfold gX at h;cases hi:P.info? t with
 | none=>simp[hi] at h
 | some i=>
  cases hu:P.underlying t with
  | none=>simp[hi,hu] at h
  | some d=>simp only[hi,hu,Bool.and_eq_true,beq_iff_eq] at h;exact⟨d,rfl,h.2,by simp[h.1]⟩
def bR(P:Program)(t:TypeId):Option Value:=(P.info? t).bind (·.zero)
theorem Ad{P:Program}{t:TypeId}{z:Value}(h:bR P t=some z)(w:World):(zeroValue t).run P w=.ok z w:=by
 unfold bR at h;cases hi:P.info? t with
 | none=>simp[hi] at h
 | some i=>simp[hi] at h;simp[zeroValue,typeInfo,hi,h]
def eD(P:Program)(t:TypeId)(k:Nat):Option Nat :=
 match P.underlying t with
 | some (.struct fs)=>match fs[k]? with
  | some f=>match P.info? f.type with
   | some i=>if i.size=0 then none else some f.offset
   | none=>none
  | none=>none
 | _=>none
theorem Zv{P:Program}{t k off:Nat}(h:eD P t k=some off)(a:Addr)(w:World):(Instr.fieldAt t (.pointer (some a)) k).run P w=.ok (.pointer (some (a.add off))) w:=by
 unfold eD at h;cases hu:P.underlying t with
 | none=>simp[hu] at h
 | some d=>
  cases d<;>simp[hu] at h;rename_i fs;cases hf:fs[k]? with
  | none=>simp[hf] at h
  | some f=>
   simp[hf] at h;cases hi:P.info? f.type with
   | none=>simp[hi] at h
   | some i=>simp[hi] at h;obtain⟨h1,h2⟩:=h;simp[Instr.fieldAt,run_underlying hu,hf,Instr.sureAddr,fieldPlace,Go.sizeOf,typeInfo,hi,h1,h2]
section
variable{P:Program}{n:Nat}{Q:Exit->Act->World->Prop}{ks:List CK}{S:List (Nat×Value)}{ops:Array Oper}{l:List Oper}
variable{w0:World}{M:List Nat}{H:List (Nat×Obj)}{G:World->Prop}
variable{d:Nat}{ty:TypeId}{pos:String}{af:Array Edge}{gd:Option (Nat×Bool)}
variable{x c y:Operand}{v:Value}{t k off b i:Nat}{cs:List Value}{T:TypeId}{H':List (Nat×Obj)}
theorem Vp(hx:ev S x=v):aH P S G ⟨some d,.move x,ty,pos,af,gd⟩ (v):=⟨λ w _=>by subst hx;rfl⟩
theorem F4(hx:ev S x=v):aH P S G ⟨some d,.assign x,ty,pos,af,gd⟩ (v):=⟨λ w _=>by subst hx;rfl⟩
theorem Hs(hc:ev S c=.bool true)(hx:ev S x=v):aH P S G ⟨some d,.pick c x y,ty,pos,af,gd⟩ (v):=⟨λ w _=>by subst hx;simp[execOp,hc,asBool]⟩
theorem I3(hc:ev S c=.bool false)(hy:ev S y=v):aH P S G ⟨some d,.pick c x y,ty,pos,af,gd⟩ (v):=⟨λ w _=>by subst hy;simp[execOp,hc,asBool]⟩
theorem aBr{t:Bool}{xt:TypeId}(hx:ev S x=.bool t):aH P S G ⟨some d,.unOp .not xt x,ty,pos,af,gd⟩ (.bool (!t)):=⟨λ w _=>by simp[execOp,hx,Op.unary]⟩
theorem Wx{op:Op}{cs:Array Value}{t:TypeId}(hrun:∀w,St w0 M H w->(execOp (ev S) ⟨some d,op,ty,pos,af,gd⟩).run P w=.ok (.value (.pointer (some ⟨w.heap.size,0,none⟩))) (w.alloc (.cells cs t))) :
  aQ P S (St w0 M H) ⟨some d,op,ty,pos,af,gd⟩ Nat (λ b=>.pointer (some ⟨b,0,none⟩)) (λ b=>St w0 M ((b,.cells cs t (0,0))::H)) :=
 fE (λ w hw=>⟨w.heap.size,_,hrun w hw,hw.alloc _⟩)
theorem Yi{t:TypeId}(hx:ev S x=.agg ⟨cs⟩):aQ P S (St w0 M H) ⟨some d,.box t x,ty,pos,af,gd⟩ Nat (λ b=>.pointer (some ⟨b,0,none⟩)) (λ b=>St w0 M ((b,.cells ⟨cs⟩ t (0,0))::H)) :=Wx (λ w _=>by simp[execOp,hx,Instr.box,newVar,newRow,Value.cells])
theorem N9{t:TypeId}(hx:ev S x=v)(h1:v.oneCell'=true):aQ P S (St w0 M H) ⟨some d,.box t x,ty,pos,af,gd⟩ Nat (λ b=>.pointer (some ⟨b,0,none⟩)) (λ b=>St w0 M ((b,.cells #[v] t (0,0))::H)) :=
 Wx (λ w _=>by
  have e:v.cells = #[v]:=by cases v<;>simp_all[Value.cells,Value.oneCell']
  simp[execOp,hx,Instr.box,newVar,newRow,e])
theorem iJ{t:TypeId}{z:List Value}(hz:bR P t=some (.agg ⟨z⟩)):aQ P S (St w0 M H) ⟨some d,.alloc t,ty,pos,af,gd⟩ Nat (λ b=>.pointer (some ⟨b,0,none⟩)) (λ b=>St w0 M ((b,.cells ⟨z⟩ t (0,0))::H)) :=Wx (λ w _=>by simp[execOp,Instr.alloc,Ad hz,newVar,newRow,Value.cells])
theorem pU{o:Nat}(hx:ev S x=.pointer (some ⟨b,o,none⟩))(hf:eD P t k=some off):aH P S G ⟨some d,.fieldAddr t x k,ty,pos,af,gd⟩ (.pointer (some ⟨b,o+off,none⟩)):=⟨λ w _=>by simp[execOp,hx,Zv hf,Addr.add_lit]⟩
theorem sM(hx:ev S x=.pointer (some ⟨b,0,none⟩))(hf:eD P t k=some off):aH P S G ⟨some d,.fieldAddr t x k,ty,pos,af,gd⟩ (.pointer (some ⟨b,off,none⟩)) :=⟨λ w hw=>by have:=(pU (d:=d) (ty:=ty) (pos:=pos) (af:=af) (gd:=gd) (G:=G) hx hf).run w hw;rwa [Nat.zero_add] at this⟩
theorem Hj{a:Addr}(hx:ev S x=.pointer (some a)):aH P S G ⟨some d,.nilCheck x,ty,pos,af,gd⟩ (.pointer (some a)):=⟨λ w _=>by simp[execOp,hx]⟩
theorem Tq{fr:Nat×Nat}(hx:ev S x=.pointer (some ⟨b,off,none⟩))(ha:At H i b (.cells ⟨cs⟩ T fr))(ht:one P t=true)(hv:cs[off]?=some v):aH P S (St w0 M H) ⟨some d,.load t x,ty,pos,af,gd⟩ (v):=⟨λ w hw=>by
 have hc:w.cell? ⟨b,off,none⟩=some v:=by rw[cell_of_row w b off ⟨cs⟩ T fr (hw.at ha)];simpa using hv
 simp[execOp,hx,Instr.loadAt,Instr.sureAddr,loadVar,Fj ht,hc]⟩
theorem dQ{fr:Nat×Nat}(hx:ev S x=.pointer (some ⟨b,0,none⟩))(ha:At H i b (.cells ⟨cs⟩ T fr))(ht:gX P t cs.length=true)
  : aH P S (St w0 M H) ⟨some d,.load t x,ty,pos,af,gd⟩ (.agg ⟨cs⟩):=⟨λ w hw=>by obtain⟨dd,hu,hm,hi⟩:=gB ht;simp only[execOp,hx,Instr.loadAt,Instr.sureAddr,Sem.run_bind,Sem.run_pure,Result.andThen_ok,run_loadVar_row w b T t ⟨cs⟩ fr dd (hw.at ha) hu (by cases dd<;>first|rfl|exact hm) hi]⟩
theorem Ou{cs':List Value}(hx:ev S x=.pointer (some ⟨b,off,none⟩))(ha:At H i b (.cells ⟨cs⟩ T (0,0)))(hy:ev S y=v)(hv:v.oneCell'=true)(ht:one P t=true)(hoff:Nat.blt off cs.length=true)(hcs:cs.set off v=cs')(hH:setAt H i (.cells ⟨cs'⟩ T (0,0))=H') :
  aQ P S (St w0 M H) ⟨none,.store t x y,ty,pos,af,gd⟩ Unit (λ _=>undef) (λ _=>St w0 M H') :=
 kE (λ w hw=>by
  subst hcs hH;have hb:=hw.at ha;have hlt:off<cs.length:=Nat.le_of_ble_eq_true hoff;have hc:w.cell? ⟨b,off,none⟩=some cs[off]:=by rw[cell_of_row w b off ⟨cs⟩ T (0,0) hb];simp[hlt]
  have hfz:w.frozen? ⟨b,off,none⟩=false:=frozen_of_row w b off ⟨cs⟩ T hb;have hs:(store ⟨b,off,none⟩ v).run P w=.ok () (w.setCell ⟨b,off,none⟩ v):=by rw[run_store P w _ v _ hv,hc];simp[hfz]
  have e:v.cells = #[v]:=by cases v<;>simp_all[Value.cells,Value.oneCell']
  refine⟨w.setCell ⟨b,off,none⟩ v,?_,hw.write ha rfl rfl rfl (by simp) (λ k hk=>heap_setCell_other w _ k v hk) (by simpa using heap_setCell_same w b off ⟨cs⟩ T v hb)⟩;simp[execOp,hx,hy,Instr.storeAt,Instr.sureAddr,storeVar,e,Qu ht,storeCells,Addr.add_zero',hs])
theorem aE{old:List Value}(hx:ev S x=.pointer (some ⟨b,0,none⟩))(ha:At H i b (.cells ⟨old⟩ T (0,0)))(hy:ev S y=.agg ⟨cs⟩)(h1:cs.all (·.oneCell')=true)(ht:gX P t cs.length=true)(ho:old.length=cs.length)(hH:setAt H i (.cells ⟨cs⟩ T (0,0))=H') :
  aQ P S (St w0 M H) ⟨none,.store t x y,ty,pos,af,gd⟩ Unit (λ _=>undef) (λ _=>St w0 M H') :=
 kE (λ w hw=>by subst hH;have hb:=hw.at ha;obtain⟨dd,hu,hm,hi⟩:=gB ht;refine⟨w.setRow b ⟨cs⟩,?_,hw.write ha rfl rfl rfl (by simp) (λ k hk=>setRow_other w b k ⟨cs⟩ hk) (setRow_heap w b ⟨old⟩ ⟨cs⟩ T (0,0) hb)⟩;simp only[execOp,hx,hy,Instr.storeAt,Instr.sureAddr,Sem.run_bind,Sem.run_pure,Result.andThen_ok,run_storeVar_row w b T t ⟨old⟩ ⟨cs⟩ hb hi (by simpa using ho) (by simpa using h1)])
def Gl:List Value->List (Nat×Value)->List Value
 | z,[]=>z
 | z,(i,v)::r=>Gl (z.set i v) r
theorem Gz{k:Nat}{place:Nat->Option (Nat×Nat)}(hp:∀i,i<k->place i=some (i,1)):∀(r:List (Nat×Value)) (z:List Value),z.length=k ->
  (r.all λ p=>Nat.blt p.1 k&&p.2.oneCell')=true->Instr.fill place ⟨z⟩ r=some ⟨Gl z r⟩
 | [],z,_,_=>rfl
 | (i,v)::r,z,hz,h=>by
  simp only[List.all_cons,Bool.and_eq_true] at h;have hi:i<k:=Nat.le_of_ble_eq_true h.1.1;have e:v.cells = #[v]:=by cases v<;>simp_all[Value.cells,Value.oneCell']
  have ih:=Gz hp r (z.set i v) (by simpa using hz) (by simpa using h.2);simp only[Instr.fill,hp i hi,e];have h2:¬(i+1>z.length):=by omega
  simp[h2,Gl,ih]
def structOf(P:Program)(t:TypeId)(z:List Value):Prop :=∀r:List (Nat×Value),(r.all λ p=>Nat.blt p.1 z.length&&p.2.oneCell')=true->P.built t r=some ⟨Gl z r⟩
def Rq(P:Program)(t:TypeId)(k:Nat):Bool :=
 match P.info? t,P.underlying t with
 | some it,some (.struct fields) =>
  match it.zero,fields.toList.mapM (λ f=>(P.info? f.type).map λ i=>(f.offset,i.size)) with
  | some (.agg z),some places=>z.size==k&&(List.range k).all λ i=>places[i]?==some (i,1)
  | _,_=>false
 | _,_=>false
theorem dR{t:TypeId}{z:List Value}(h:Rq P t z.length=true)(hz:bR P t=some (.agg ⟨z⟩)):structOf P t z:=by
 intro r hr;unfold Rq at h;unfold bR at hz;unfold Program.built;cases hi:P.info? t with
 | none=>simp[hi] at h
 | some it=>
  simp only[hi,Option.bind_some] at hz;cases hu:P.underlying t with
  | none=>simp[hi,hu] at h
  | some dd=>
   cases dd<;>simp only[hi,hu,hz,Bool.false_eq_true] at h;rename_i fields;simp only[hz];cases hp:fields.toList.mapM (λ f=>(P.info? f.type).map λ i=>(f.offset,i.size)) with
   | none=>simp[hp] at h
   | some places=>simp only[hp,Bool.and_eq_true] at h ⊢;refine Gz (k:=z.length) (λ i hi=>?_) r z rfl hr;have:=List.all_eq_true.1 h.2 i (List.mem_range.2 hi);simpa using this
def kL(S:List (Nat×Value)):List (Nat×Operand)->List (Nat×Value)
 | []=>[]
 | (i,x)::r=>(i,ev S x)::kL S r
variable{vs:List (Nat×Value)}
theorem sC(S:List (Nat×Value)):∀r:List (Nat×Operand),kL S r=r.map λ(i,x)=>(i,ev S x)
 | []=>rfl
 | (i,x)::r=>by simp[kL,sC S r]
theorem Tc(S:List (Nat×Value)):kL S []=[]:=rfl
theorem Ol{S:List (Nat×Value)}{i:Nat}{x:Operand}{v:Value}{r:List (Nat×Operand)}(hx:ev S x=v)(h:kL S r=vs):kL S ((i,x)::r)=(i,v)::vs:=by subst hx h;rfl
theorem zg{t:TypeId}{parts:List (Nat×Operand)}{z cs:List Value}(hb:structOf P t z)(hv:kL S parts=vs)(h1:(vs.all λ p=>Nat.blt p.1 z.length&&p.2.oneCell')=true)(hcs:Gl z vs=cs):aH P S G ⟨some d,.build t ⟨parts⟩,ty,pos,af,gd⟩ (.agg ⟨cs⟩):=⟨λ w _=>by
 subst hcs hv;have e:((⟨parts⟩:Array (Nat×Operand)).map λ(i,x)=>(i,ev S x)).toList=kL S parts:=by simp[sC]
 have hr:=run_build (P:=P) w t (Array.map (λ x=>match x with|(i,x)=>(i,ev S x)) ⟨parts⟩) ⟨Gl z (kL S parts)⟩ (by rw[e];exact hb _ h1)
 simp only[execOp,Sem.run_bind,hr,Result.andThen_ok,Sem.run_pure]⟩
def nY:List Value->Nat->List Value->List Value
 | z,_,[]=>z
 | z,o,v::r=>nY (z.set o v) (o+1) r
def dO:Value->List Value
 | .agg ⟨cs⟩=>cs
 | v=>[v]
theorem C1(v:Value):v.cells.toList=dO v:=by cases v<;>rfl
def F6:List (Nat×Nat)->List Value->List (Nat×Value)->List Value
 | _,z,[]=>z
 | pl,z,(i,v)::r=>F6 pl (nY z (pl.getD i (0,0)).1 (dO v)) r
def Sr(pl:List (Nat×Nat))(k:Nat)(r:List (Nat×Value)):Bool :=r.all λ p=>match pl[p.1]? with|some (o,s)=>Nat.beq (dO p.2).length s&&Nat.ble (o+s) k|none=>false
theorem uM:∀(vs z:List Value) (o:Nat),(nY z o vs).length=z.length
 | [],_,_=>rfl
 | v::r,z,o=>by simp[nY,uM r]
theorem Bo:∀(vs:List Value) (z:List Value) (o j:Nat),(vs.zipIdx j).foldl (λ(cs:Array Value) (c,j)=>cs.setIfInBounds (o+j) c) ⟨z⟩=⟨nY z (o+j) vs⟩
 | [],_,_,_=>rfl
 | v::r,z,o,j=>by simp only[List.zipIdx_cons,List.foldl_cons,List.setIfInBounds_toArray,nY];have:=Bo r (z.set (o+j) v) o (j+1);rw[show o+(j+1)=o+j+1 by omega] at this;exact this
theorem Gf{k:Nat}{pl:List (Nat×Nat)}{place:Nat->Option (Nat×Nat)}(hp:∀i,place i=pl[i]?):∀(r:List (Nat×Value)) (z:List Value),z.length=k ->
  Sr pl k r=true->Instr.fill place ⟨z⟩ r=some ⟨F6 pl z r⟩
 | [],z,_,_=>rfl
 | (i,v)::r,z,hz,h=>by
  simp only[Sr,List.all_cons,Bool.and_eq_true] at h;obtain⟨h1,h2⟩:=h;cases hi:pl[i]? with
  | none=>simp[hi] at h1
  | some q=>
   obtain⟨o,s⟩:=q;simp only[hi,Bool.and_eq_true] at h1;have e1:=eJ h1.1;have e2:=Nat.le_of_ble_eq_true h1.2;have ih:=Gf (k:=k) hp r (nY z o (dO v)) (by rw[uM];exact hz) (by simpa[Sr] using h2);have hc:v.cells=⟨dO v⟩:=by apply Array.ext';simpa using C1 v
   have hsz:v.cells.size=s:=by rw[hc];simpa using e1
   simp only[Instr.fill,hp i,hi,hsz];have h3:¬(o+s>(⟨z⟩:Array Value).size):=by simp only[List.size_toArray];omega
   have hg:(pl.getD i (0,0))=(o,s):=by simp[List.getD,hi]
   have h4:(v.cells.zipIdx.foldl (λ(cs:Array Value) (c,j)=>cs.setIfInBounds (o+j) c) ⟨z⟩)=⟨nY z o (dO v)⟩:=by rw[hc,<- Array.foldl_toList];simpa using Bo (dO v) z o 0
   simp only[h4,F6,hg];rw[if_neg (by simp;omega)];exact ih
def placeOf(P:Program)(t:TypeId)(pl:List (Nat×Nat))(z:List Value):Prop :=∀r:List (Nat×Value),Sr pl z.length r=true->P.built t r=some ⟨F6 pl z r⟩
def V7(P:Program)(t:TypeId)(pl:List (Nat×Nat))(k:Nat):Bool :=
 match P.info? t,P.underlying t with
 | some it,some (.struct fields) =>
  match it.zero,fields.toList.mapM (λ f=>(P.info? f.type).map λ i=>(f.offset,i.size)) with
  | some (.agg z),some places=>z.size==k&&places==pl
  | _,_=>false
 | _,_=>false
variable{pl:List (Nat×Nat)}{z:List Value}
theorem gH{t:TypeId}(h:V7 P t pl z.length=true)(hz:bR P t=some (.agg ⟨z⟩)):placeOf P t pl z:=by
 intro r hr;unfold V7 at h;unfold bR at hz;unfold Program.built;cases hi:P.info? t with
 | none=>simp[hi] at h
 | some it=>
  simp only[hi,Option.bind_some] at hz;cases hu:P.underlying t with
  | none=>simp[hi,hu] at h
  | some dd=>
   cases dd<;>simp only[hi,hu,hz,Bool.false_eq_true] at h;rename_i fields;simp only[hz];cases hp:fields.toList.mapM (λ f=>(P.info? f.type).map λ i=>(f.offset,i.size)) with
   | none=>simp[hp] at h
   | some places=>simp only[hp,Bool.and_eq_true] at h ⊢;have e:=eq_of_beq h.2;subst e;exact Gf (k:=z.length) (place:=λ x=>places.toArray[x]?) (λ i=>by simp) r z rfl hr
theorem ou{t:TypeId}{parts:List (Nat×Operand)}{cs:List Value}{vs:List (Nat×Value)}(hb:placeOf P t pl z)(hv:kL S parts=vs)(h1:Sr pl z.length vs=true)(hcs:F6 pl z vs=cs):aH P S G ⟨some d,.build t ⟨parts⟩,ty,pos,af,gd⟩ (.agg ⟨cs⟩):=⟨λ w _=>by
 subst hcs hv;have e:((⟨parts⟩:Array (Nat×Operand)).map λ(i,x)=>(i,ev S x)).toList=kL S parts:=by simp[sC]
 have hr:=run_build (P:=P) w t (Array.map (λ x=>match x with|(i,x)=>(i,ev S x)) ⟨parts⟩) ⟨F6 pl z (kL S parts)⟩ (by rw[e];exact hb _ h1)
 simp only[execOp,Sem.run_bind,hr,Result.andThen_ok,Sem.run_pure]⟩
section ints
variable{x y:Operand}{t t':TypeId}{k:IntKind}{a b:Int}
theorem aEt(hx:ev S x=.int k a)(hy:ev S y=.int k b):aH P S G ⟨some d,.binOp .eql t x y t',ty,pos,af,gd⟩ (.bool (a==b)):=⟨λ w _=>by simp[execOp,hx,hy,eqGuard_at_int,binOp_eql]⟩
theorem aBm (hx:ev S x=.int k a) (hy:ev S y=.int k b):aH P S G ⟨some d,.binOp .neq t x y t',ty,pos,af,gd⟩ (.bool (a != b)):=⟨fun w _=>by simp [execOp,hx,hy,eqGuard_at_int,binOp_neq]⟩
theorem aBd(hx:ev S x=.int k a)(hy:ev S y=.int k b):aH P S G ⟨some d,.binOp .lss t x y t',ty,pos,af,gd⟩ (.bool (decide (a<b))):=⟨λ w _=>by simp[execOp,hx,hy,eqGuard_at_int,binOp_lss]⟩
theorem aE7(hx:ev S x=.int k a)(hy:ev S y=.int k b):aH P S G ⟨some d,.binOp .leq t x y t',ty,pos,af,gd⟩ (.bool (decide (a<=b))):=⟨λ w _=>by simp[execOp,hx,hy,eqGuard_at_int,binOp_leq]⟩
theorem aBS(hx:ev S x=.int k a)(hy:ev S y=.int k b):aH P S G ⟨some d,.binOp .gtr t x y t',ty,pos,af,gd⟩ (.bool (decide (a>b))):=⟨λ w _=>by simp[execOp,hx,hy,eqGuard_at_int,binOp_gtr]⟩
theorem aBu(hx:ev S x=.int k a)(hy:ev S y=.int k b):aH P S G ⟨some d,.binOp .geq t x y t',ty,pos,af,gd⟩ (.bool (decide (a≥b))):=⟨λ w _=>by simp[execOp,hx,hy,eqGuard_at_int,binOp_geq]⟩
theorem uP(hx:ev S x=.int k a)(hy:ev S y=.int k b):aH P S G ⟨some d,.binOp .add t x y t',ty,pos,af,gd⟩ (.int k (k.wrap (a+b))):=⟨λ w _=>by simp[execOp,hx,hy,eqGuard_at_int,binOp_add,Op.intArith]⟩
theorem Lf(hx:ev S x=.int k a)(hy:ev S y=.int k b):aH P S G ⟨some d,.binOp .sub t x y t',ty,pos,af,gd⟩ (.int k (k.wrap (a-b))):=⟨λ w _=>by simp[execOp,hx,hy,eqGuard_at_int,binOp_sub,Op.intArith]⟩
theorem gm(hx:ev S x=.int k a)(hy:ev S y=.int k b):aH P S G ⟨some d,.binOp .mul t x y t',ty,pos,af,gd⟩ (.int k (k.wrap (a*b))):=⟨λ w _=>by simp[execOp,hx,hy,eqGuard_at_int,binOp_mul,Op.intArith]⟩
end ints
theorem Gb{x y:Operand}{t t':TypeId}{a b:ByteArray}(hx:ev S x=.string a)(hy:ev S y=.string b):aH P S G ⟨some d,.binOp .eql t x y t',ty,pos,af,gd⟩ (.bool (a.toList==b.toList)):=⟨λ w _=>by simp[execOp,hx,hy,eqGuard_at_string,binOp,Op.stringOp]⟩
theorem l8 {x y:Operand} {t t':TypeId} {a b:ByteArray} (hx:ev S x=.string a) (hy:ev S y=.string b):aH P S G ⟨some d,.binOp .neq t x y t',ty,pos,af,gd⟩ (.bool (a.toList != b.toList)):=⟨fun w _=>by simp [execOp,hx,hy,eqGuard_at_string,binOp,Op.stringOp,bne]⟩
theorem Sf{x:Operand}{t:TypeId}{s:ByteArray}(hx:ev S x=.string s)(ht:P.underlying t=some .string):aH P S G ⟨some d,.call {callee:=.builtin .len,args := #[x],argTypes := #[t]},ty,pos,af,gd⟩ (.int .i64 s.size):=⟨λ w _=>by simp[execOp,resolve,invoke,builtin,hx,Builtin.len_,run_underlying ht,goInt]⟩
theorem Yl{x:Operand}{t e:TypeId}{a:Option Addr}{m c:Nat}(hx:ev S x=.slice a m c)(ht:P.underlying t=some (.slice e)):aH P S G ⟨some d,.call {callee:=.builtin .len,args := #[x],argTypes := #[t]},ty,pos,af,gd⟩ (.int .i64 m):=⟨λ w _=>by simp[execOp,resolve,invoke,builtin,hx,Builtin.len_,run_underlying ht,goInt]⟩
end
end
end Go.Ct
