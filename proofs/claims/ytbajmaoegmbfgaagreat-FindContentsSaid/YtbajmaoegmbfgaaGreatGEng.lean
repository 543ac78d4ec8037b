/- Merged. -/
import Derived.WalkKit
import Derived.WalkSpells
import Derived.WalkLawsBesides
import Derived.Orders
set_option linter.unusedSimpArgs false
set_option linter.unusedVariables false
namespace Go.Ct
open Go Go.RowKit
section
variable{p:Prop}
theorem E0a(h:p:=by exact (λ _=>by((repeat (first|exact aL.nil|refine aL.cons (by first|exact gD (hq:=aU (k:=2) (vs:=[.int .i64 k.t.root,.bool k.t.ro]) rf cY eD rfl rfl)|exact fA) ?_));done))):p:=h
theorem E0b(h:p:=by exact gE λ _=>fE rf cY wn rf fW rf rf iR):p:=h
theorem E0c(h:p:=by rw[List.length_append,List.length_cons,List.length_nil];omega):p:=h
theorem E0d(h:p:=by repeat (first|(with_reducible exact zX.refl)|refine zX.cons (by exact rfl) ?_)):p:=h
theorem E0e(h:p:=by exact (λ _=>by(refine fV ?_;refine aL.cons (by exact gD (hq:=dR (k:=y.j) (lst:=ix) rf rf gS fW fin (by omega) (by omega))) ?_;refine aL.cons (by exact gD (hq:=fI (q:=y.j) (lst:=ix) rf fW fin (by omega))) ?_;exact aL.nil))):p:=h
theorem E0f(h:p:=by exact gD (hq:=dR (k:=y.j) (lst:=ix) rf rf gS fW fin (by omega) (by omega))):p:=h
theorem E0g(h:p:=by repeat (first|exact List.Sublist.refl _|apply List.Sublist.cons)):p:=h
theorem E0h(h:p:=by exact gD (hq:=aU (k:=2) (vs:=[.int .i64 k.t.root,.bool k.t.ro]) rf cY eD rfl rfl)):p:=h
theorem E0i(h:p:=by exact (λ _=>by(refine aL.cons (by exact gD (hq:=aU (k:=2) (vs:=[.int .i64 k.t.root,.bool k.t.ro]) rf cY eD rfl rfl)) ?_;exact aL.nil))):p:=h
theorem E0j(h:p:=by exact gD (hq:=fI (q:=y.j) (lst:=ix) rf fW fin (by omega))):p:=h
theorem E0k(h:p:=by exact (λ _=>by(refine aL.cons (by exact fA) ?_;refine aL.cons (by exact gD (hq:=dR (k:=y.j) (lst:=ix) rf rf gS fW fin (by omega) (by omega))) ?_;refine aL.cons (by exact gD (hq:=fI (q:=y.j) (lst:=ix) rf fW fin (by omega))) ?_;exact aL.nil))):p:=h
theorem E0l(h:p:=by exact bH.of λ f hf=>.inr (.inl (hA f hf))):p:=h
theorem E0m(h:p:=by exact by exact List.Sublist.refl _):p:=h
theorem E0n(h:p:=by exact bA.iT λ f hf=>List.mem_cons_of_mem _ hf):p:=h
theorem E0o(h:p:=by rw[List.length_drop];omega):p:=h
theorem E0p(h:p:=by exact (λ _=>by(refine aL.cons (by exact fA) ?_;refine aL.cons (by exact fA) ?_;refine aL.cons (by exact mI) ?_;refine aL.cons (by exact fA) ?_;exact aL.nil))):p:=h
theorem E0q(h:p:=by exact λ w hw=>hw.back (hF:=by rw[cX];exact bA.iT λ f hf=>(List.mem_append.1 hf).elim (λ h=>List.mem_append_right _ h) (λ h=>List.mem_append_left _ h))):p:=h
theorem E0r(h:p:=by rw[List.length_append,List.length_singleton];have:=hc.wl;omega):p:=h
theorem E0s(h:p:=by rw[<- hc.lk hk64];exact hlk):p:=h
theorem E0t(h:p:=by exact by rw[cX];exact bA.iT λ f hf=>(List.mem_append.1 hf).elim (λ h=>List.mem_append_right _ h) (λ h=>List.mem_append_left _ h)):p:=h
theorem E0u(h:p:=by intro f hf;rw[List.mem_singleton.1 hf];exact .inl rfl):p:=h
theorem E0v(h:p:=by simp only[gT,List.length_cons,List.length_nil];omega):p:=h
theorem E0w(h:p:=by(exact bG.eM (O9 rf rf zH rfl fin (by exact qW rfl) gS (by omega)) (by intro x;simp only[lM];exact rfl))):p:=h
theorem E0x(h:p:=by rw[List.length_append,List.length_singleton];omega):p:=h
theorem E0y(h:p:=by rw[<- List.append_assoc,<- List.append_assoc];exact List.Perm.append_right _ List.perm_append_comm):p:=h
theorem E0z(h:p:=by exact λ w hw=>by exact(hw.eY nB).v6):p:=h
theorem E1a(h:p:=by exact (λ _=>by(refine aL.cons (by exact fA) ?_;exact aL.nil))):p:=h
theorem E1b(h:p:=by exact bH.of λ f hf=>.inr (.inr (.inl hf))):p:=h
theorem E1c(h:p:=by first|exact h11.go.bZ (by assumption)|exact h19.1.to (λ _=>if_pos (by assumption))):p:=h
theorem E1d(h:p:=by simp only[List.drop_zero,List.take_succ_cons,List.take_zero];exact rfl):p:=h
theorem E1e(h:p:=by have:=h2.2.2;rwa [show(((k+1:Nat):Int)-1).toNat=k by omega] at this):p:=h
theorem E1f(h:p:=by intro x;simp only[lM];exact rfl):p:=h
theorem abt(h:true=false:=by assumption):p:=nomatch h
theorem bN(n:Nat):(0:Int)<=(n:Int):=Int.natCast_nonneg n
theorem eS{m n:Nat}(h:Nat.beq m n=true):m=n:=Nat.eq_of_beq_eq_true h
theorem iX{α:Type}{l:List α}{i:Nat}{a:α}:l.getD i a=l[i]?.getD a:=List.getD_eq_getElem?_getD
def look:List (Nat×Value)->Nat->Value
 | [],_=>undef
 | p::r,k=>bif Nat.beq p.1 k then p.2 else look r k
def ev(S:List (Nat×Value)):Operand->Value
 | .tmp t=>look S t
 | .const v=>v
 | .global g=>.pointer (some ⟨g,0,none⟩)
 | .func f=>.func (.func f) #[] #[]
def Eh(n:Nat)(S:List (Nat×Value)):Prop:=∀p∈S,p.1<n
def eA(n:Nat)(S:List (Nat×Value)):Array Value:=Array.ofFn (n:=n) λ i=>look S i.val
variable{n d:Nat}{S:List (Nat×Value)}{ds:List Deferred}{v:Value}
theorem M8(h:Eh n S){k:Nat}(hk:n<=k):look S k=undef:=by
 induction S with
 | nil=>rfl
 | cons p r ih=>
  have hp:p.1<n:=h p (List.mem_cons_self ..);have hb:Nat.beq p.1 k=false:=by
   cases hb:Nat.beq p.1 k with
   | false=>rfl
   | true=>have:=eS hb;omega
  simp only[look,hb,cond_false];exact ih λ q hq=>h q (List.mem_cons_of_mem _ hq)
theorem jK(h:Eh n S):(⟨eA n S,ds⟩:Act).eval=ev S:=by
 funext x;cases x with
 | tmp t=>
  show(eA n S).getD t undef=look S t;unfold eA;by_cases ht:t<n;·simp[Array.getD,ht]
  ·rw[M8 h (Nat.le_of_not_lt ht)];simp[Array.getD,ht]
 | _=>rfl
theorem Cu :
  (⟨eA n S,ds⟩:Act).put (some d) v=⟨eA n ((d,v)::S),ds⟩:=by
 show(⟨(eA n S).setIfInBounds d v,ds⟩:Act)=_;congr 1;unfold eA;apply Array.ext;·simp
 ·intro i h1 h2;rw[Array.getElem_setIfInBounds (by simpa using h1)];simp only[Array.getElem_ofFn,look];by_cases hd:d=i;·subst hd;simp
  ·have hb:Nat.beq d i=false:=by
    cases hb:Nat.beq d i with
    | false=>rfl
    | true=>exact absurd (eS hb) hd
   simp[hd,hb]
theorem Eh.cons(h:Eh n S)(hd:Nat.blt d n=true):Eh n ((d,v)::S):=by
 intro p hp;rcases List.mem_cons.1 hp with rfl|hp;·exact Nat.le_of_ble_eq_true hd
 ·exact h p hp
inductive CK where
 | code (c:Code)
 | Td (id:Nat)
 | inv (J:Act->World->Prop)
def runK(P:Program)(Q:Exit->Act->World->Prop):List CK->Exit->Act->World->Prop
 | [],e,a,w=>Q e a w
 | .code c::r,.normal,a,w=>c.wp P (runK P Q r) a w
 | .code _::r,.exit i,a,w=>runK P Q r (.exit i) a w
 | .code _::r,.goto i,a,w=>runK P Q r (.goto i) a w
 | .code _::r,.ret,a,w=>runK P Q r .ret a w
 | .code _::r,.panic c,a,w=>runK P Q r (.panic c) a w
 | .code _::r,.outgrown,a,w=>runK P Q r .outgrown a w
 | .Td id::r,.exit i,a,w=>if i=id then runK P Q r .normal a w else runK P Q r (.exit i) a w
 | .Td _::r,.normal,a,w=>runK P Q r .normal a w
 | .Td _::r,.goto i,a,w=>runK P Q r (.goto i) a w
 | .Td _::r,.ret,a,w=>runK P Q r .ret a w
 | .Td _::r,.panic c,a,w=>runK P Q r (.panic c) a w
 | .Td _::r,.outgrown,a,w=>runK P Q r .outgrown a w
 | .inv J::_,.normal,a,w=>J a w
 | .inv _::r,.exit i,a,w=>runK P Q r (.exit i) a w
 | .inv _::r,.goto i,a,w=>runK P Q r (.goto i) a w
 | .inv _::r,.ret,a,w=>runK P Q r .ret a w
 | .inv _::r,.panic c,a,w=>runK P Q r (.panic c) a w
 | .inv _::r,.outgrown,a,w=>runK P Q r .outgrown a w
theorem Lu(P:Program)(Q:Exit->Act->World->Prop)(y:Code)(r:List CK) :
  runK P Q (.code y::r)=Exit.then (y.wp P (runK P Q r)) (runK P Q r):=by funext e a w;cases e<;>rfl
theorem mj(P:Program)(Q:Exit->Act->World->Prop)(id:Nat)(r:List CK) :
  runK P Q (.Td id::r)=Exit.inBlock id (runK P Q r):=by funext e a w;cases e<;>simp[runK,Exit.inBlock]
theorem S2(P:Program)(Q:Exit->Act->World->Prop)(J:Act->World->Prop)(r:List CK) :
  runK P Q (.inv J::r)=Exit.then J (runK P Q r):=by funext e a w;cases e<;>rfl
def Df(id:Nat):List CK->Option (List CK)
 | []=>none
 | .Td i::r=>bif Nat.beq i id then some r else Df id r
 | .code _::r=>Df id r
 | .inv _::r=>Df id r
theorem yJ{P:Program}{Q:Exit->Act->World->Prop}{id:Nat}{a:Act}{w:World} :
  ∀{ks r:List CK},Df id ks=some r->runK P Q r .normal a w->runK P Q ks (.exit id) a w
 | [],_,h,_=>by cases h
 | .Td i::ks,r,h,hr=>by
  simp only[Df] at h
  simp only[runK]
  cases hb:Nat.beq i id with
  | true =>
   rw[hb] at h
   have:=eS hb
   subst this
   simp only[cond_true,Option.some.injEq] at h
   subst h
   simpa using hr
  | false =>
   rw[hb] at h
   have hne:¬id=i:=λ e=>by subst e;simp at hb
   simp only[hne,if_false]
   exact yJ h hr
 | .code _::ks,r,h,hr=>yJ (ks:=ks) h hr
 | .inv _::ks,r,h,hr=>yJ (ks:=ks) h hr
structure JK(P:Program)(n:Nat)(Q:Exit->Act->World->Prop)(ks:List CK)(S:List (Nat×Value))(G:World->Prop):Prop where
 run:Eh n S->∀w,G w->runK P Q ks .normal ⟨eA n S,[]⟩ w
structure JL(P:Program)(n:Nat)(Q:Exit->Act->World->Prop)(ks:List CK)(ops:Array Oper)(l:List Oper)(S:List (Nat×Value))(G:World->Prop):Prop where
 run:Eh n S->∀w,G w->wpList P ops (runK P Q ks) l ⟨eA n S,[]⟩ w
section
variable{P:Program}{n:Nat}{Q:Exit->Act->World->Prop}{ks:List CK}{S:List (Nat×Value)}{G:World->Prop}{ops:Array Oper}{l:List Oper}
variable{x y:Code}{id:Nat}{c:Operand}{t:Bool}
theorem aT(h:JK P n Q (.code x::.code y::ks) S G):JK P n Q (.code (.seq x y)::ks) S G:=⟨λ hS w hw=>by have:=h.run hS w hw;simp only[runK] at this ⊢;rw[Lu] at this;exact wp_seq this⟩
theorem cO{c:Code}(h:JK P n Q (.code c::.Td id::ks) S G):JK P n Q (.code (.block id c)::ks) S G:=⟨λ hS w hw=>by have:=h.run hS w hw;simp only[runK] at this ⊢;rw[mj] at this;exact wp_block this⟩
theorem eV(h:JK P n Q ks S G):JK P n Q (.Td id::ks) S G:=⟨h.run⟩
theorem aW(h:JK P n Q ks S G):JK P n Q (.code .skip::ks) S G:=⟨λ hS w hw=>wp_skip (h.run hS w hw)⟩
theorem bR{r:List CK}(hr:Df id ks=some r)(h:JK P n Q r S G):JK P n Q (.code (.exit id)::ks) S G :=⟨λ hS w hw=>wp_exit (yJ hr (h.run hS w hw))⟩
theorem aBb(hc:ev S c=.bool t)(ht:t=true->JK P n Q (.code x::ks) S G)(hf:t=false->JK P n Q (.code y::ks) S G):JK P n Q (.code (.cond c x y)::ks) S G:=⟨λ hS w hw =>
 wp_cond_split (by rw[jK hS];exact hc) (λ h=>(ht h).run hS w hw) (λ h=>(hf h).run hS w hw)⟩
theorem aEN(ht:t=true->JK P n Q (.code x::ks) S G)(hf:t=false->JK P n Q (.code y::ks) S G)(hc:ev S c=.bool t:=by exact rfl):JK P n Q (.code (.cond c x y)::ks) S G:=aBb hc ht hf
theorem dS{l:List Oper}(h:JL P n Q ks l.toArray l S G):JK P n Q (.code (.region id l.toArray false)::ks) S G :=⟨λ hS w hw=>wp_region_lit (h.run hS w hw)⟩
theorem dx{G':World->Prop}(hG:∀w,G w->G' w)(h:JK P n Q ks S G'):JK P n Q ks S G:=⟨λ hS w hw=>h.run hS w (hG w hw)⟩
theorem aG(h:JK P n Q ks S G):JL P n Q ks ops [] S G:=⟨h.run⟩
theorem wC{P:Program}{Q:Exit->Act->World->Prop}{a:Act}{w:World}:∀{ks:List CK},Q .ret a w->runK P Q ks .ret a w
 | [],h=>h
 | .code _::ks,h=>wC (ks:=ks) h
 | .Td _::ks,h=>wC (ks:=ks) h
 | .inv _::ks,h=>wC (ks:=ks) h
theorem aDC(h:Eh n S->∀w,G w->Q .ret ⟨eA n S,[]⟩ w):JK P n Q (.code .ret::ks) S G:=⟨λ hS w hw=>wp_ret (wC (h hS w hw))⟩
structure aM(P:Program)(S:List (Nat×Value))(G:World->Prop)(o:Oper)(v:Value):Prop where
 run:∀w,G w->(execOp (ev S) o).run P w=.ok (.value v) w
def xn(P:Program)(X:Type)(V:X->Value)(G':X->World->Prop):Result Next->Prop
 | .ok (.value v) w'=>∃x,v=V x/\G' x w'
 | .ok .skip w'=>∃x,undef=V x/\G' x w'
 | .ok (.enter f args) w'=>Calls P f args w' λ e w''=>∃x,e=.returned (V x)/\G' x w''
 | _=>False
structure bG(P:Program)(S:List (Nat×Value))(G:World->Prop)(o:Oper)(X:Type)(V:X->Value)(G':X->World->Prop):Prop where
 run:∀(w:World),G w->xn P X V G' ((execOp (ev S) o).run P w)
variable{X:Type}{o:Oper}{op:Op}{ty:TypeId}{pos:String}{af:Array Edge}{j g:Nat}{want:Bool}
theorem xn.upon{P:Program}{X:Type}{V:X->Value}{G':X->World->Prop}{o:Oper}{a:Act}{r:Result Next}{K:Act->World->Prop}{Q:Exit->Act->World->Prop}
  (h:xn P X V G' r) (hK:∀x w',G' x w'->K (a.put o.dst (V x)) w'):o.upon P a K Q r:=by
 cases r with
 | ok nx w'=>
  cases nx<;>simp only[xn] at h;case value v=>obtain⟨x,rfl,hg⟩:=h;exact hK x w' hg
  case skip=>obtain⟨x,hx,hg⟩:=h;simp only[Oper.upon];rw[hx];exact hK x w' hg
  case enter f args =>simp only[Oper.upon];refine h.mono ?_;rintro e w'' ⟨x,rfl,hg⟩;exact hK x w'' hg
 | halt x w'=>exact h.elim
theorem aC{d:Nat}{v:Value}(hrun:aM P S G ⟨some d,op,ty,pos,af,none⟩ v)(hd:Nat.blt d n=true)(h:JL P n Q ks ops l ((d,v)::S) G):JL P n Q ks ops (⟨some d,op,ty,pos,af,none⟩::l) S G:=⟨λ hS w hw =>
 wpList_plain rfl λ K hK=>by unfold Oper.wp;rw[jK hS,hrun.run w hw];simp only[Oper.upon,Cu];exact hK _ _ (h.run (hS.cons hd) w hw)⟩
theorem sO{V:X->Value}{G':X->World->Prop}{d:Nat}(hrun:bG P S G ⟨some d,op,ty,pos,af,none⟩ X V G')(hd:Nat.blt d n=true)(h:∀x,JL P n Q ks ops l ((d,V x)::S) (G' x)):JL P n Q ks ops (⟨some d,op,ty,pos,af,none⟩::l) S G:=⟨λ hS w hw =>
 wpList_plain rfl λ K hK=>by unfold Oper.wp;rw[jK hS];refine(hrun.run w hw).upon λ x w' hg=>?_;rw[Cu];exact hK _ _ ((h x).run (hS.cons hd) w' hg)⟩
theorem W8{V:X->Value}{G':X->World->Prop}(hrun:bG P S G ⟨none,op,ty,pos,af,none⟩ X V G')(h:∀x,JL P n Q ks ops l S (G' x)):JL P n Q ks ops (⟨none,op,ty,pos,af,none⟩::l) S G:=⟨λ hS w hw =>
 wpList_plain rfl λ K hK=>by unfold Oper.wp;rw[jK hS];exact(hrun.run w hw).upon λ x w' hg=>hK _ _ ((h x).run hS w' hg)⟩
theorem lY{V:X->Value}{G':X->World->Prop}(hrun:∀w,G w->∃x w',(execOp (ev S) o).run P w=.ok (.value (V x)) w'/\G' x w'):bG P S G o X V G':=⟨λ w hw=>by obtain⟨x,w',hr,hG⟩:=hrun w hw;rw[hr];exact⟨x,rfl,hG⟩⟩
theorem yL{G':World->Prop}(hrun:∀w,G w->∃w',(execOp (ev S) o).run P w=.ok .skip w'/\G' w'):bG P S G o Unit (λ _=>undef) (λ _=>G'):=⟨λ w hw=>by obtain⟨w',hr,hG⟩:=hrun w hw;rw[hr];exact⟨(),rfl,hG⟩⟩
theorem gW{V:X->Value}{G':X->World->Prop}{f:FuncId}{args:Array Value}(hrun:∀w,(execOp (ev S) o).run P w=.ok (.enter f args) w)(hc:∀w,G w->Calls P f args w λ e w'=>∃x,e=.returned (V x)/\G' x w'):bG P S G o X V G':=⟨λ w hw=>by rw[hrun w];exact hc w hw⟩
theorem Tv{d:Nat}{t:Bool}(hd:Nat.blt d n=true)(hj:(ops[j]?).bind (·.dst)=some g)(hg:look S g=.bool t)(ht:t≠want)(h:JL P n Q ks ops l ((d,undef)::S) G):JL P n Q ks ops (⟨some d,op,ty,pos,af,some (j,want)⟩::l) S G:=⟨λ hS w hw=>by
 have hy:yielded ops (eA n S) j=some t:=by
  have e:=congrFun (jK (ds:=[]) hS) (.tmp g);simp only[Act.eval,ev,hg] at e;unfold yielded;rw[hj];simp only[Option.bind_some];rw[Array.getD_eq_getD_getElem?] at e;cases h2:(eA n S)[g]? with
  | none=>rw[h2] at e;simp[undef] at e
  | some u=>rw[h2] at e;simp at e;subst e;rfl
 refine wpList_step λ K hK=>?_;have hw':Region.wanted ⟨some d,op,ty,pos,af,some (j,want)⟩ (yielded ops (eA n S))=false:=by simp only[Region.wanted,hy];cases t<;>cases want<;>simp_all
 simp only[hw',Bool.false_eq_true,if_false,Cu];exact hK _ _ (h.run (hS.cons hd) w hw)⟩
theorem lr{d:Nat}(hj:(ops[j]?).bind (·.dst)=some g)(hg:look S g=.bool want)(h:JL P n Q ks ops (⟨some d,op,ty,pos,af,none⟩::l) S G):JL P n Q ks ops (⟨some d,op,ty,pos,af,some (j,want)⟩::l) S G:=⟨λ hS w hw=>by
 have hy:yielded ops (eA n S) j=some want:=by
  have e:=congrFun (jK (ds:=[]) hS) (.tmp g);simp only[Act.eval,ev,hg] at e;unfold yielded;rw[hj];simp only[Option.bind_some];rw[Array.getD_eq_getD_getElem?] at e;cases h2:(eA n S)[g]? with
  | none=>rw[h2] at e;simp[undef] at e
  | some u=>rw[h2] at e;simp at e;subst e;rfl
 have:=h.run hS w hw;unfold wpList at this ⊢;rw[if_pos (by simp[Region.wanted])] at this;rw[if_pos (by simp[Region.wanted,hy])];exact this⟩
theorem Xr{n:Nat}{S:List (Nat×Value)}{v:Value}(h:look S g=v):eA n ((g,v)::S)=eA n S:=by
 unfold eA;congr 1;funext i;simp only[look];cases hb:Nat.beq g i.val with
 | true=>have:=eS hb;simp[<- this,h]
 | false=>rfl
theorem Eh.same{n:Nat}{S:List (Nat×Value)}{v:Value}(h:Eh n S)(hg:look S g=v)(hv:v≠undef):Eh n ((g,v)::S):=by
 intro p hp;rcases List.mem_cons.1 hp with rfl|hp
 ·rcases Nat.lt_or_ge g n with h1|h1;·exact h1
  ·exact absurd (hg.symm.trans (M8 h h1)) hv
 ·exact h p hp
theorem aAQ{t:Bool}(hg:look S g=.bool t)(h1:t=true->JL P n Q ks ops l ((g,.bool true)::S) G)(h2:t=false->JL P n Q ks ops l ((g,.bool false)::S) G):JL P n Q ks ops l S G:=⟨λ hS w hw=>by
 cases t with
 | true=>have:=(h1 rfl).run (hS.same hg (by simp[undef])) w hw;rwa [Xr hg] at this
 | false=>have:=(h2 rfl).run (hS.same hg (by simp[undef])) w hw;rwa [Xr hg] at this⟩
end
def cC:Nat->List Value->List (Nat×Value)
 | _,[]=>[]
 | i,v::r=>(i,v)::cC (i+1) r
theorem P0(k:Nat):∀(l:List Value) (i:Nat),look (cC i l) (i+k)=l.getD k undef
 | [],i=>by simp[cC,look]
 | v::r,i=>by
  simp only[cC,look];cases k with
  | zero=>simp
  | succ k=>
   have hb:Nat.beq i (i+(k+1))=false:=by
    cases hb:Nat.beq i (i+(k+1)) with
    | false=>rfl
    | true=>have:=eS hb;omega
   rw[hb,cond_false];have:=P0 k r (i+1);rw[show i+1+k=i+(k+1) by omega] at this;simpa using this
theorem M6(n:Nat):∀(l:List Value) (i:Nat),i+l.length<=n->Eh n (cC i l)
 | [],_,_=>λ _ h=>by cases h
 | v::r,i,h=>λ p hp=>by
  simp only[List.length_cons] at h;rcases List.mem_cons.1 hp with rfl|hp;·simp;omega
  ·exact M6 n r (i+1) (by omega) p hp
theorem P3(n:Nat)(args:Array Value)(h:args.size<=n):args++Array.replicate (n-args.size) undef=eA n (cC 0 args.toList):=by
 unfold eA;apply Array.ext;·simp;omega
 ·intro i h1 h2;have:=P0 i args.toList 0;rw[Nat.zero_add] at this;simp only[Array.getElem_ofFn,this];rw[Array.getElem_append];split;·rename_i hlt;simp[List.getD,hlt]
  ·rename_i hge;simp[List.getD];rw[Array.getElem?_eq_none (by omega)];rfl
theorem enter{P:Program}{f:FuncId}{fn:Func}{c:Code}{args:Array Value}{w:World}{R:Ending->World->Prop}{n:Nat}{G:World->Prop}
  (hf:P.funcs[f]?=some fn) (hn:fn.ntmps=n) (hb:fn.body=some c) (hlen:Nat.ble args.size n=true) (hG:G w)
  (h:JK P n (bodyPost P fn R) [.code c] (cC 0 args.toList) G):Calls P f args w R:=by subst hn;have hl:args.size<=fn.ntmps:=Nat.le_of_ble_eq_true hlen;refine calls_of_wp hf hb ?_;rw[P3 _ _ hl];exact h.run (M6 _ _ _ (by simpa using hl)) w hG
end
section
structure St(w0:World)(M:List Nat)(H:List (Nat×Obj))(w:World):Prop where
 os:w.os=w0.os
 tape:w.tape=w0.tape
 output:w.output=w0.output
 size:w0.heap.size<=w.heap.size
 lC:∀b,b<w0.heap.size->b∉M->w.heap[b]?=w0.heap[b]?
 has:∀p∈H,w.heap[p.1]?=some p.2
 new:∀p∈H,p.1∈M∨w0.heap.size<=p.1
 nodup:(H.map Prod.fst).Nodup
variable{w w0:World}{H:List (Nat×Obj)}{M:List Nat}
theorem jN{b:Nat}{o:Obj}(h:w.heap[b]?=some o):b<w.heap.size:=(Array.getElem?_eq_some_iff.1 h).1
theorem St.refl(w:World):St w [] [] w:=⟨rfl,rfl,rfl,Nat.le_refl _,λ _ _ _=>rfl,λ _ h=>(List.not_mem_nil h).elim,λ _ h=>(List.not_mem_nil h).elim,List.nodup_nil⟩
theorem St.below(h:St w0 [] H w):Below w0.heap.size w0 w :=⟨h.os,h.tape,h.output,h.size,λ k hk=>h.lC k hk (by simp)⟩
theorem St.sub{H':List (Nat×Obj)}(h:St w0 M H w)(hs:H'.Sublist H):St w0 M H' w :=⟨h.os,h.tape,h.output,h.size,h.lC,λ p hp=>h.has p (hs.subset hp),λ p hp=>h.new p (hs.subset hp),h.nodup.sublist (hs.map _)⟩
theorem St.alloc{w0 w:World}{M:List Nat}{H:List (Nat×Obj)}(h:St w0 M H w)(o:Obj):St w0 M ((w.heap.size,o)::H) (w.alloc o):=by
 refine⟨h.os,h.tape,h.output,Nat.le_trans h.size (by simp),λ b hb hM=>?_,λ p hp=>?_,λ p hp=>?_,?_⟩;·rw[heap_alloc_old w o (Nat.lt_of_lt_of_le hb h.size)];exact h.lC b hb hM
 ·rcases List.mem_cons.1 hp with rfl|hp;·exact heap_alloc_new w o
  ·have:=h.has p hp;rw[heap_alloc_old w o (jN this)];exact this
 ·rcases List.mem_cons.1 hp with rfl|hp;·exact .inr h.size
  ·exact h.new p hp
 ·simp only[List.map_cons,List.nodup_cons];refine⟨λ hm=>?_,h.nodup⟩;obtain⟨p,hp,he⟩:=List.mem_map.1 hm;have:=jN (h.has p hp);omega
inductive At:List (Nat×Obj)->Nat->Nat->Obj->Prop where
 | head {b:Nat} {o:Obj} {H:List (Nat×Obj)}:At ((b,o)::H) 0 b o
 | tail {p:Nat×Obj} {H:List (Nat×Obj)} {i b:Nat} {o:Obj}:At H i b o->At (p::H) (i+1) b o
theorem At.mem{H:List (Nat×Obj)}{i b:Nat}{o:Obj}(h:At H i b o):(b,o)∈H:=by
 induction h with
 | head=>exact List.mem_cons_self ..
 | tail _ ih=>exact List.mem_cons_of_mem _ ih
theorem St.at{w0 w:World}{M:List Nat}{H:List (Nat×Obj)}(h:St w0 M H w){i b:Nat}{o:Obj}(ha:At H i b o):w.heap[b]?=some o:=h.has _ ha.mem
def setAt:List (Nat×Obj)->Nat->Obj->List (Nat×Obj)
 | [],_,_=>[]
 | (b,_)::r,0,o=>(b,o)::r
 | p::r,i+1,o=>p::setAt r i o
theorem Ag:∀(H:List (Nat×Obj)) (i:Nat) (o:Obj),(setAt H i o).map Prod.fst=H.map Prod.fst
 | [],_,_=>rfl
 | (_,_)::_,0,_=>rfl
 | _::r,i+1,o=>by simp[setAt,Ag r i o]
theorem Cw{b:Nat}{o':Obj}:∀{H:List (Nat×Obj)} {i:Nat} {o:Obj},At H i b o->(H.map Prod.fst).Nodup->∀p∈setAt H i o',p=(b,o')∨(p∈H/\p.1≠b):=by
 intro H i o ha;induction ha with
 | head=>
  intro hn p hp;simp only[setAt] at hp;rcases List.mem_cons.1 hp with rfl|hp;·exact .inl rfl
  ·refine .inr ⟨List.mem_cons_of_mem _ hp,λ e=>?_⟩;simp only[List.map_cons,List.nodup_cons] at hn;exact hn.1 (e▸List.mem_map_of_mem (f:=Prod.fst) hp)
 | tail ha ih=>
  intro hn p hp;simp only[setAt] at hp;simp only[List.map_cons,List.nodup_cons] at hn;rcases List.mem_cons.1 hp with rfl|hp;·refine .inr ⟨List.mem_cons_self ..,λ e=>?_⟩;exact hn.1 (e▸List.mem_map_of_mem (f:=Prod.fst) ha.mem)
  ·rcases ih hn.2 p hp with h|⟨h1,h2⟩;·exact .inl h
   ·exact .inr ⟨List.mem_cons_of_mem _ h1,h2⟩
theorem St.write{w0 w w':World}{M:List Nat}{H:List (Nat×Obj)}(h:St w0 M H w){i b:Nat}{o o':Obj}(ha:At H i b o)
  (hos:w'.os=w.os) (htape:w'.tape=w.tape) (hout:w'.output=w.output) (hsize:w'.heap.size=w.heap.size)
  (hsame:∀k,k≠b->w'.heap[k]?=w.heap[k]?) (hb:w'.heap[b]?=some o'):St w0 M (setAt H i o') w':=by
 refine⟨hos.trans h.os,htape.trans h.tape,hout.trans h.output,by rw[hsize];exact h.size,λ k hk hM=>?_,λ p hp=>?_,λ p hp=>?_,?_⟩
 ·rcases h.new _ ha.mem with hm|hn;·rw[hsame k (λ e=>hM (e▸hm))];exact h.lC k hk hM
  ·rw[hsame k (by simp only at hn;omega)];exact h.lC k hk hM
 ·rcases Cw (o':=o') ha h.nodup p hp with rfl|⟨h1,h2⟩;·exact hb
  ·rw[hsame _ h2];exact h.has p h1
 ·rcases Cw (o':=o') ha h.nodup p hp with rfl|⟨h1,_⟩;·exact h.new (b,o) ha.mem
  ·exact h.new p h1
 ·rw[Ag];exact h.nodup
def one(P:Program)(t:TypeId):Bool :=
 match P.info? t,P.underlying t with
 | some i,some d=>i.size==1&&(match d with|.struct _|.array _ _=>false|_=>true)
 | _,_=>false
theorem F9{P:Program}{t:TypeId}(h:one P t=true)(w:World):(isAgg t).run P w=.ok false w:=by
 unfold one at h;cases hi:P.info? t with
 | none=>simp[hi] at h
 | some i=>
  cases hu:P.underlying t with
  | none=>simp[hi,hu] at h
  | some d=>simp only[hi,hu,Bool.and_eq_true] at h;unfold isAgg;rw[Sem.run_bind,run_underlying hu w];cases d<;>simp_all
theorem Rm{P:Program}{t:TypeId}(h:one P t=true)(w:World):(Go.sizeOf t).run P w=.ok 1 w:=by
 unfold one at h;cases hi:P.info? t with
 | none=>simp[hi] at h
 | some i=>
  cases hu:P.underlying t with
  | none=>simp[hi,hu] at h
  | some d=>simp only[hi,hu,Bool.and_eq_true,beq_iff_eq] at h;simp[Go.sizeOf,typeInfo,hi,h.1]
def kC(P:Program)(t:TypeId)(k:Nat):Bool :=
 match P.info? t,P.underlying t with
 | some i,some d=>i.size==k&&(match d with|.struct _|.array _ _=>true|_=>false)
 | _,_=>false
theorem jA{P:Program}{t:TypeId}{k:Nat}(h:kC P t k=true):∃d,P.underlying t=some d/\(match d with|.struct _|.array _ _=>true|_=>false)=true/\(P.info? t).map (·.size)=some k:=by
 unfold kC at h;cases hi:P.info? t with
 | none=>simp[hi] at h
 | some i=>
  cases hu:P.underlying t with
  | none=>simp[hi,hu] at h
  | some d=>simp only[hi,hu,Bool.and_eq_true,beq_iff_eq] at h;exact⟨d,rfl,h.2,by simp[h.1]⟩
def dJ(P:Program)(t:TypeId):Option Value:=(P.info? t).bind (·.zero)
theorem R4{P:Program}{t:TypeId}{z:Value}(h:dJ P t=some z)(w:World):(zeroValue t).run P w=.ok z w:=by
 unfold dJ at h;cases hi:P.info? t with
 | none=>simp[hi] at h
 | some i=>simp[hi] at h;simp[zeroValue,typeInfo,hi,h]
def dC(P:Program)(t:TypeId)(k:Nat):Option Nat :=
 match P.underlying t with
 | some (.struct fs)=>match fs[k]? with
  | some f=>match P.info? f.type with
   | some i=>if i.size=0 then none else some f.offset
   | none=>none
  | none=>none
 | _=>none
theorem df{P:Program}{t k off:Nat}(h:dC P t k=some off)(a:Addr)(w:World):(Instr.fieldAt t (.pointer (some a)) k).run P w=.ok (.pointer (some (a.add off))) w:=by
 unfold dC at h;cases hu:P.underlying t with
 | none=>simp[hu] at h
 | some d=>
  cases d<;>simp[hu] at h;rename_i fs;cases hf:fs[k]? with
  | none=>simp[hf] at h
  | some f=>
   simp[hf] at h;cases hi:P.info? f.type with
   | none=>simp[hi] at h
   | some i=>simp[hi] at h;obtain⟨h1,h2⟩:=h;simp[Instr.fieldAt,run_underlying hu,hf,Instr.sureAddr,fieldPlace,Go.sizeOf,typeInfo,hi,h1,h2]
section
variable{P:Program}{n:Nat}{Q:Exit->Act->World->Prop}{ks:List CK}{S:List (Nat×Value)}{ops:Array Oper}{l:List Oper}
variable{w0:World}{M:List Nat}{H:List (Nat×Obj)}{G:World->Prop}
variable{d:Nat}{ty:TypeId}{pos:String}{af:Array Edge}{gd:Option (Nat×Bool)}
variable{x c y:Operand}{v:Value}{t k off b i:Nat}{cs:List Value}{T:TypeId}{H':List (Nat×Obj)}
theorem V6(hx:ev S x=v):aM P S G ⟨some d,.move x,ty,pos,af,gd⟩ (v):=⟨λ w _=>by subst hx;rfl⟩
theorem Bk(hx:ev S x=v):aM P S G ⟨some d,.assign x,ty,pos,af,gd⟩ (v):=⟨λ w _=>by subst hx;rfl⟩
theorem I9(hc:ev S c=.bool true)(hx:ev S x=v):aM P S G ⟨some d,.pick c x y,ty,pos,af,gd⟩ (v):=⟨λ w _=>by subst hx;simp[execOp,hc,asBool]⟩
theorem Gj(hc:ev S c=.bool false)(hy:ev S y=v):aM P S G ⟨some d,.pick c x y,ty,pos,af,gd⟩ (v):=⟨λ w _=>by subst hy;simp[execOp,hc,asBool]⟩
theorem aAl{t:Bool}{xt:TypeId}(hx:ev S x=.bool t):aM P S G ⟨some d,.unOp .not xt x,ty,pos,af,gd⟩ (.bool (!t)):=⟨λ w _=>by simp[execOp,hx,Op.unary]⟩
theorem Xd{op:Op}{cs:Array Value}{t:TypeId}(hrun:∀w,St w0 M H w->(execOp (ev S) ⟨some d,op,ty,pos,af,gd⟩).run P w=.ok (.value (.pointer (some ⟨w.heap.size,0,none⟩))) (w.alloc (.cells cs t))) :
  bG P S (St w0 M H) ⟨some d,op,ty,pos,af,gd⟩ Nat (λ b=>.pointer (some ⟨b,0,none⟩)) (λ b=>St w0 M ((b,.cells cs t (0,0))::H)) :=
 lY (λ w hw=>⟨w.heap.size,_,hrun w hw,hw.alloc _⟩)
theorem Xc{t:TypeId}(hx:ev S x=.agg ⟨cs⟩):bG P S (St w0 M H) ⟨some d,.box t x,ty,pos,af,gd⟩ Nat (λ b=>.pointer (some ⟨b,0,none⟩)) (λ b=>St w0 M ((b,.cells ⟨cs⟩ t (0,0))::H)) :=Xd (λ w _=>by simp[execOp,hx,Instr.box,newVar,newRow,Value.cells])
theorem Oz{t:TypeId}(hx:ev S x=v)(h1:v.oneCell'=true):bG P S (St w0 M H) ⟨some d,.box t x,ty,pos,af,gd⟩ Nat (λ b=>.pointer (some ⟨b,0,none⟩)) (λ b=>St w0 M ((b,.cells #[v] t (0,0))::H)) :=
 Xd (λ w _=>by
  have e:v.cells = #[v]:=by cases v<;>simp_all[Value.cells,Value.oneCell']
  simp[execOp,hx,Instr.box,newVar,newRow,e])
theorem wi{t:TypeId}{z:List Value}(hz:dJ P t=some (.agg ⟨z⟩)):bG P S (St w0 M H) ⟨some d,.alloc t,ty,pos,af,gd⟩ Nat (λ b=>.pointer (some ⟨b,0,none⟩)) (λ b=>St w0 M ((b,.cells ⟨z⟩ t (0,0))::H)) :=Xd (λ w _=>by simp[execOp,Instr.alloc,R4 hz,newVar,newRow,Value.cells])
theorem sC{o:Nat}(hx:ev S x=.pointer (some ⟨b,o,none⟩))(hf:dC P t k=some off):aM P S G ⟨some d,.fieldAddr t x k,ty,pos,af,gd⟩ (.pointer (some ⟨b,o+off,none⟩)):=⟨λ w _=>by simp[execOp,hx,df hf,Addr.add_lit]⟩
theorem uC(hx:ev S x=.pointer (some ⟨b,0,none⟩))(hf:dC P t k=some off):aM P S G ⟨some d,.fieldAddr t x k,ty,pos,af,gd⟩ (.pointer (some ⟨b,off,none⟩)) :=⟨λ w hw=>by have:=(sC (d:=d) (ty:=ty) (pos:=pos) (af:=af) (gd:=gd) (G:=G) hx hf).run w hw;rwa [Nat.zero_add] at this⟩
theorem Ie{a:Addr}(hx:ev S x=.pointer (some a)):aM P S G ⟨some d,.nilCheck x,ty,pos,af,gd⟩ (.pointer (some a)):=⟨λ w _=>by simp[execOp,hx]⟩
theorem aB6{fr:Nat×Nat}(hx:ev S x=.pointer (some ⟨b,off,none⟩))(ha:At H i b (.cells ⟨cs⟩ T fr))(ht:one P t=true)(hv:cs[off]?=some v):aM P S (St w0 M H) ⟨some d,.load t x,ty,pos,af,gd⟩ (v):=⟨λ w hw=>by
 have hc:w.cell? ⟨b,off,none⟩=some v:=by rw[cell_of_row w b off ⟨cs⟩ T fr (hw.at ha)];simpa using hv
 simp[execOp,hx,Instr.loadAt,Instr.sureAddr,loadVar,F9 ht,hc]⟩
theorem bz{fr:Nat×Nat}(hx:ev S x=.pointer (some ⟨b,0,none⟩))(ha:At H i b (.cells ⟨cs⟩ T fr))(ht:kC P t cs.length=true)
  : aM P S (St w0 M H) ⟨some d,.load t x,ty,pos,af,gd⟩ (.agg ⟨cs⟩):=⟨λ w hw=>by obtain⟨dd,hu,hm,hi⟩:=jA ht;simp only[execOp,hx,Instr.loadAt,Instr.sureAddr,Sem.run_bind,Sem.run_pure,Result.andThen_ok,run_loadVar_row w b T t ⟨cs⟩ fr dd (hw.at ha) hu (by cases dd<;>first|rfl|exact hm) hi]⟩
theorem fE{cs':List Value}(hx:ev S x=.pointer (some ⟨b,off,none⟩))(ha:At H i b (.cells ⟨cs⟩ T (0,0)))(hy:ev S y=v)(hv:v.oneCell'=true)(ht:one P t=true)(hoff:Nat.blt off cs.length=true)(hcs:cs.set off v=cs')(hH:setAt H i (.cells ⟨cs'⟩ T (0,0))=H') :
  bG P S (St w0 M H) ⟨none,.store t x y,ty,pos,af,gd⟩ Unit (λ _=>undef) (λ _=>St w0 M H') :=
 yL (λ w hw=>by
  subst hcs hH;have hb:=hw.at ha;have hlt:off<cs.length:=Nat.le_of_ble_eq_true hoff;have hc:w.cell? ⟨b,off,none⟩=some cs[off]:=by rw[cell_of_row w b off ⟨cs⟩ T (0,0) hb];simp[hlt]
  have hfz:w.frozen? ⟨b,off,none⟩=false:=frozen_of_row w b off ⟨cs⟩ T hb;have hs:(store ⟨b,off,none⟩ v).run P w=.ok () (w.setCell ⟨b,off,none⟩ v):=by rw[run_store P w _ v _ hv,hc];simp[hfz]
  have e:v.cells = #[v]:=by cases v<;>simp_all[Value.cells,Value.oneCell']
  refine⟨w.setCell ⟨b,off,none⟩ v,?_,hw.write ha rfl rfl rfl (by simp) (λ k hk=>heap_setCell_other w _ k v hk) (by simpa using heap_setCell_same w b off ⟨cs⟩ T v hb)⟩;simp[execOp,hx,hy,Instr.storeAt,Instr.sureAddr,storeVar,e,Rm ht,storeCells,Addr.add_zero',hs])
theorem aR{bS:List Value}(hx:ev S x=.pointer (some ⟨b,0,none⟩))(ha:At H i b (.cells ⟨bS⟩ T (0,0)))(hy:ev S y=.agg ⟨cs⟩)(h1:cs.all (·.oneCell')=true)(ht:kC P t cs.length=true)(ho:bS.length=cs.length)(hH:setAt H i (.cells ⟨cs⟩ T (0,0))=H') :
  bG P S (St w0 M H) ⟨none,.store t x y,ty,pos,af,gd⟩ Unit (λ _=>undef) (λ _=>St w0 M H') :=
 yL (λ w hw=>by subst hH;have hb:=hw.at ha;obtain⟨dd,hu,hm,hi⟩:=jA ht;refine⟨w.setRow b ⟨cs⟩,?_,hw.write ha rfl rfl rfl (by simp) (λ k hk=>setRow_other w b k ⟨cs⟩ hk) (setRow_heap w b ⟨bS⟩ ⟨cs⟩ T (0,0) hb)⟩;simp only[execOp,hx,hy,Instr.storeAt,Instr.sureAddr,Sem.run_bind,Sem.run_pure,Result.andThen_ok,run_storeVar_row w b T t ⟨bS⟩ ⟨cs⟩ hb hi (by simpa using ho) (by simpa using h1)])
def Jr:List Value->List (Nat×Value)->List Value
 | z,[]=>z
 | z,(i,v)::r=>Jr (z.set i v) r
theorem Jk{k:Nat}{place:Nat->Option (Nat×Nat)}(hp:∀i,i<k->place i=some (i,1)):∀(r:List (Nat×Value)) (z:List Value),z.length=k ->
  (r.all λ p=>Nat.blt p.1 k&&p.2.oneCell')=true->Instr.fill place ⟨z⟩ r=some ⟨Jr z r⟩
 | [],z,_,_=>rfl
 | (i,v)::r,z,hz,h=>by
  simp only[List.all_cons,Bool.and_eq_true] at h;have hi:i<k:=Nat.le_of_ble_eq_true h.1.1;have e:v.cells = #[v]:=by cases v<;>simp_all[Value.cells,Value.oneCell']
  have ih:=Jk hp r (z.set i v) (by simpa using hz) (by simpa using h.2);simp only[Instr.fill,hp i hi,e];have h2:¬(i+1>z.length):=by omega
  simp[h2,Jr,ih]
def structOf(P:Program)(t:TypeId)(z:List Value):Prop :=∀r:List (Nat×Value),(r.all λ p=>Nat.blt p.1 z.length&&p.2.oneCell')=true->P.built t r=some ⟨Jr z r⟩
def S6(P:Program)(t:TypeId)(k:Nat):Bool :=
 match P.info? t,P.underlying t with
 | some it,some (.struct fields) =>
  match it.zero,fields.toList.mapM (λ f=>(P.info? f.type).map λ i=>(f.offset,i.size)) with
  | some (.agg z),some places=>z.size==k&&(List.range k).all λ i=>places[i]?==some (i,1)
  | _,_=>false
 | _,_=>false
theorem iK{t:TypeId}{z:List Value}(h:S6 P t z.length=true)(hz:dJ P t=some (.agg ⟨z⟩)):structOf P t z:=by
 intro r hr;unfold S6 at h;unfold dJ at hz;unfold Program.built;cases hi:P.info? t with
 | none=>simp[hi] at h
 | some it=>
  simp only[hi,Option.bind_some] at hz;cases hu:P.underlying t with
  | none=>simp[hi,hu] at h
  | some dd=>
   cases dd<;>simp only[hi,hu,hz,Bool.false_eq_true] at h;rename_i fields;simp only[hz];cases hp:fields.toList.mapM (λ f=>(P.info? f.type).map λ i=>(f.offset,i.size)) with
   | none=>simp[hp] at h
   | some places=>simp only[hp,Bool.and_eq_true] at h ⊢;refine Jk (k:=z.length) (λ i hi=>?_) r z rfl hr;have:=List.all_eq_true.1 h.2 i (List.mem_range.2 hi);simpa using this
def kE(S:List (Nat×Value)):List (Nat×Operand)->List (Nat×Value)
 | []=>[]
 | (i,x)::r=>(i,ev S x)::kE S r
variable{vs:List (Nat×Value)}
theorem uH(S:List (Nat×Value)):∀r:List (Nat×Operand),kE S r=r.map λ(i,x)=>(i,ev S x)
 | []=>rfl
 | (i,x)::r=>by simp[kE,uH S r]
theorem Qo(S:List (Nat×Value)):kE S []=[]:=rfl
theorem Ny{S:List (Nat×Value)}{i:Nat}{x:Operand}{v:Value}{r:List (Nat×Operand)}(hx:ev S x=v)(h:kE S r=vs):kE S ((i,x)::r)=(i,v)::vs:=by subst hx h;rfl
theorem v5{t:TypeId}{parts:List (Nat×Operand)}{z cs:List Value}(hb:structOf P t z)(hv:kE S parts=vs)(h1:(vs.all λ p=>Nat.blt p.1 z.length&&p.2.oneCell')=true)(hcs:Jr z vs=cs):aM P S G ⟨some d,.build t ⟨parts⟩,ty,pos,af,gd⟩ (.agg ⟨cs⟩):=⟨λ w _=>by
 subst hcs hv;have e:((⟨parts⟩:Array (Nat×Operand)).map λ(i,x)=>(i,ev S x)).toList=kE S parts:=by simp[uH]
 have hr:=run_build (P:=P) w t (Array.map (λ x=>match x with|(i,x)=>(i,ev S x)) ⟨parts⟩) ⟨Jr z (kE S parts)⟩ (by rw[e];exact hb _ h1)
 simp only[execOp,Sem.run_bind,hr,Result.andThen_ok,Sem.run_pure]⟩
def qE:List Value->Nat->List Value->List Value
 | z,_,[]=>z
 | z,o,v::r=>qE (z.set o v) (o+1) r
def oE:Value->List Value
 | .agg ⟨cs⟩=>cs
 | v=>[v]
theorem C8(v:Value):v.cells.toList=oE v:=by cases v<;>rfl
def Gr:List (Nat×Nat)->List Value->List (Nat×Value)->List Value
 | _,z,[]=>z
 | pl,z,(i,v)::r=>Gr pl (qE z (pl.getD i (0,0)).1 (oE v)) r
def S7(pl:List (Nat×Nat))(k:Nat)(r:List (Nat×Value)):Bool :=r.all λ p=>match pl[p.1]? with|some (o,s)=>Nat.beq (oE p.2).length s&&Nat.ble (o+s) k|none=>false
theorem xG:∀(vs z:List Value) (o:Nat),(qE z o vs).length=z.length
 | [],_,_=>rfl
 | v::r,z,o=>by simp[qE,xG r]
theorem B6:∀(vs:List Value) (z:List Value) (o j:Nat),(vs.zipIdx j).foldl (λ(cs:Array Value) (c,j)=>cs.setIfInBounds (o+j) c) ⟨z⟩=⟨qE z (o+j) vs⟩
 | [],_,_,_=>rfl
 | v::r,z,o,j=>by simp only[List.zipIdx_cons,List.foldl_cons,List.setIfInBounds_toArray,qE];have:=B6 r (z.set (o+j) v) o (j+1);rw[show o+(j+1)=o+j+1 by omega] at this;exact this
theorem H5{k:Nat}{pl:List (Nat×Nat)}{place:Nat->Option (Nat×Nat)}(hp:∀i,place i=pl[i]?):∀(r:List (Nat×Value)) (z:List Value),z.length=k ->
  S7 pl k r=true->Instr.fill place ⟨z⟩ r=some ⟨Gr pl z r⟩
 | [],z,_,_=>rfl
 | (i,v)::r,z,hz,h=>by
  simp only[S7,List.all_cons,Bool.and_eq_true] at h;obtain⟨h1,h2⟩:=h;cases hi:pl[i]? with
  | none=>simp[hi] at h1
  | some q=>
   obtain⟨o,s⟩:=q;simp only[hi,Bool.and_eq_true] at h1;have e1:=eS h1.1;have e2:=Nat.le_of_ble_eq_true h1.2;have ih:=H5 (k:=k) hp r (qE z o (oE v)) (by rw[xG];exact hz) (by simpa[S7] using h2);have hc:v.cells=⟨oE v⟩:=by apply Array.ext';simpa using C8 v
   have hsz:v.cells.size=s:=by rw[hc];simpa using e1
   simp only[Instr.fill,hp i,hi,hsz];have h3:¬(o+s>(⟨z⟩:Array Value).size):=by simp only[List.size_toArray];omega
   have hg:(pl.getD i (0,0))=(o,s):=by simp[List.getD,hi]
   have h4:(v.cells.zipIdx.foldl (λ(cs:Array Value) (c,j)=>cs.setIfInBounds (o+j) c) ⟨z⟩)=⟨qE z o (oE v)⟩:=by rw[hc,<- Array.foldl_toList];simpa using B6 (oE v) z o 0
   simp only[h4,Gr,hg];rw[if_neg (by simp;omega)];exact ih
def placeOf(P:Program)(t:TypeId)(pl:List (Nat×Nat))(z:List Value):Prop :=∀r:List (Nat×Value),S7 pl z.length r=true->P.built t r=some ⟨Gr pl z r⟩
def Wb(P:Program)(t:TypeId)(pl:List (Nat×Nat))(k:Nat):Bool :=
 match P.info? t,P.underlying t with
 | some it,some (.struct fields) =>
  match it.zero,fields.toList.mapM (λ f=>(P.info? f.type).map λ i=>(f.offset,i.size)) with
  | some (.agg z),some places=>z.size==k&&places==pl
  | _,_=>false
 | _,_=>false
variable{pl:List (Nat×Nat)}{z:List Value}
theorem kM{t:TypeId}(h:Wb P t pl z.length=true)(hz:dJ P t=some (.agg ⟨z⟩)):placeOf P t pl z:=by
 intro r hr;unfold Wb at h;unfold dJ at hz;unfold Program.built;cases hi:P.info? t with
 | none=>simp[hi] at h
 | some it=>
  simp only[hi,Option.bind_some] at hz;cases hu:P.underlying t with
  | none=>simp[hi,hu] at h
  | some dd=>
   cases dd<;>simp only[hi,hu,hz,Bool.false_eq_true] at h;rename_i fields;simp only[hz];cases hp:fields.toList.mapM (λ f=>(P.info? f.type).map λ i=>(f.offset,i.size)) with
   | none=>simp[hp] at h
   | some places=>simp only[hp,Bool.and_eq_true] at h ⊢;have e:=eq_of_beq h.2;subst e;exact H5 (k:=z.length) (place:=λ x=>places.toArray[x]?) (λ i=>by simp) r z rfl hr
theorem iw{t:TypeId}{parts:List (Nat×Operand)}{cs:List Value}{vs:List (Nat×Value)}(hb:placeOf P t pl z)(hv:kE S parts=vs)(h1:S7 pl z.length vs=true)(hcs:Gr pl z vs=cs):aM P S G ⟨some d,.build t ⟨parts⟩,ty,pos,af,gd⟩ (.agg ⟨cs⟩):=⟨λ w _=>by
 subst hcs hv;have e:((⟨parts⟩:Array (Nat×Operand)).map λ(i,x)=>(i,ev S x)).toList=kE S parts:=by simp[uH]
 have hr:=run_build (P:=P) w t (Array.map (λ x=>match x with|(i,x)=>(i,ev S x)) ⟨parts⟩) ⟨Gr pl z (kE S parts)⟩ (by rw[e];exact hb _ h1)
 simp only[execOp,Sem.run_bind,hr,Result.andThen_ok,Sem.run_pure]⟩
section ints
variable{x y:Operand}{t t':TypeId}{k:IntKind}{a b:Int}
theorem aEc(hx:ev S x=.int k a)(hy:ev S y=.int k b):aM P S G ⟨some d,.binOp .eql t x y t',ty,pos,af,gd⟩ (.bool (a==b)):=⟨λ w _=>by simp[execOp,hx,hy,eqGuard_at_int,binOp_eql]⟩
theorem aAF (hx:ev S x=.int k a) (hy:ev S y=.int k b):aM P S G ⟨some d,.binOp .neq t x y t',ty,pos,af,gd⟩ (.bool (a != b)):=⟨fun w _=>by simp [execOp,hx,hy,eqGuard_at_int,binOp_neq]⟩
theorem zu(hx:ev S x=.int k a)(hy:ev S y=.int k b):aM P S G ⟨some d,.binOp .lss t x y t',ty,pos,af,gd⟩ (.bool (decide (a<b))):=⟨λ w _=>by simp[execOp,hx,hy,eqGuard_at_int,binOp_lss]⟩
theorem aDm(hx:ev S x=.int k a)(hy:ev S y=.int k b):aM P S G ⟨some d,.binOp .leq t x y t',ty,pos,af,gd⟩ (.bool (decide (a<=b))):=⟨λ w _=>by simp[execOp,hx,hy,eqGuard_at_int,binOp_leq]⟩
theorem aAC(hx:ev S x=.int k a)(hy:ev S y=.int k b):aM P S G ⟨some d,.binOp .gtr t x y t',ty,pos,af,gd⟩ (.bool (decide (a>b))):=⟨λ w _=>by simp[execOp,hx,hy,eqGuard_at_int,binOp_gtr]⟩
theorem aAc(hx:ev S x=.int k a)(hy:ev S y=.int k b):aM P S G ⟨some d,.binOp .geq t x y t',ty,pos,af,gd⟩ (.bool (decide (a≥b))):=⟨λ w _=>by simp[execOp,hx,hy,eqGuard_at_int,binOp_geq]⟩
theorem oR(hx:ev S x=.int k a)(hy:ev S y=.int k b):aM P S G ⟨some d,.binOp .add t x y t',ty,pos,af,gd⟩ (.int k (k.wrap (a+b))):=⟨λ w _=>by simp[execOp,hx,hy,eqGuard_at_int,binOp_add,Op.intArith]⟩
theorem Mb(hx:ev S x=.int k a)(hy:ev S y=.int k b):aM P S G ⟨some d,.binOp .sub t x y t',ty,pos,af,gd⟩ (.int k (k.wrap (a-b))):=⟨λ w _=>by simp[execOp,hx,hy,eqGuard_at_int,binOp_sub,Op.intArith]⟩
theorem zt(hx:ev S x=.int k a)(hy:ev S y=.int k b):aM P S G ⟨some d,.binOp .mul t x y t',ty,pos,af,gd⟩ (.int k (k.wrap (a*b))):=⟨λ w _=>by simp[execOp,hx,hy,eqGuard_at_int,binOp_mul,Op.intArith]⟩
end ints
theorem Is{x y:Operand}{t t':TypeId}{a b:ByteArray}(hx:ev S x=.string a)(hy:ev S y=.string b):aM P S G ⟨some d,.binOp .eql t x y t',ty,pos,af,gd⟩ (.bool (a.toList==b.toList)):=⟨λ w _=>by simp[execOp,hx,hy,eqGuard_at_string,binOp,Op.stringOp]⟩
theorem Iy {x y:Operand} {t t':TypeId} {a b:ByteArray} (hx:ev S x=.string a) (hy:ev S y=.string b):aM P S G ⟨some d,.binOp .neq t x y t',ty,pos,af,gd⟩ (.bool (a.toList != b.toList)):=⟨fun w _=>by simp [execOp,hx,hy,eqGuard_at_string,binOp,Op.stringOp,bne]⟩
theorem jd{x:Operand}{t:TypeId}{s:ByteArray}(hx:ev S x=.string s)(ht:P.underlying t=some .string):aM P S G ⟨some d,.call {callee:=.builtin .len,args := #[x],argTypes := #[t]},ty,pos,af,gd⟩ (.int .i64 s.size):=⟨λ w _=>by simp[execOp,resolve,invoke,builtin,hx,Builtin.len_,run_underlying ht,goInt]⟩
theorem aAq{x:Operand}{t e:TypeId}{a:Option Addr}{m c:Nat}(hx:ev S x=.slice a m c)(ht:P.underlying t=some (.slice e)):aM P S G ⟨some d,.call {callee:=.builtin .len,args := #[x],argTypes := #[t]},ty,pos,af,gd⟩ (.int .i64 m):=⟨λ w _=>by simp[execOp,resolve,invoke,builtin,hx,Builtin.len_,run_underlying ht,goInt]⟩
end
end
section
def kF(ops:Array Oper)(i:Nat):Option Tmp:=(ops[i]?).bind (·.dst)
def Un(o:Oper):List Nat:=o.after.toList.filterMap λ e=>bif Region.binds .any e then some e.on else none
def kU(ops:Array Oper)(i:Nat):List Nat:=(ops[i]?).elim [] Un
def iO(ops:Array Oper)(i:Nat):List Tmp:=(ops[i]?).elim [] (·.looksAt ops)
def gU(o:Oper):Bool:=match o.op with|.select ..=>false|_=>true
def Aj(ops:Array Oper):Bool:=(List.range ops.size).all λ i=>(kU ops i).all (Nat.blt · i)&&((ops[i]?).elim true gU)
def bL(ops:Array Oper)(S:List (Nat×Value))(j:Nat):Option Bool :=
 match(kF ops j).map (look S) with
 | some (.bool b)=>some b
 | _=>none
theorem Ro{o:Oper}{k:Nat}:k∈Un o↔∃e∈o.after.toList,Region.binds .any e=true/\e.on=k:=by
 unfold Un;simp only[List.mem_filterMap];constructor
 ·rintro ⟨e,he,h⟩;cases hb:Region.binds .any e with
  | true=>rw[hb] at h;exact⟨e,he,hb,by simpa using h⟩
  | false=>rw[hb] at h;simp at h
 ·rintro ⟨e,he,hb,rfl⟩;exact⟨e,he,by simp[hb]⟩
theorem mem_ready{ops:Array Oper}{listed:Array Bool}{i:Nat}:i∈Region.ready .any ops listed↔i<ops.size/\listed.getD i true=false/\∀k∈kU ops i,listed.getD k false=true:=by
 unfold Region.ready;simp only[List.mem_filter,List.mem_range,Bool.and_eq_true,Bool.not_eq_true'];constructor
 ·rintro ⟨h1,h2,h3⟩;refine⟨h1,h2,λ k hk=>?_⟩;unfold kU at hk;cases ho:ops[i]? with
  | none=>rw[ho] at hk;simp at hk
  | some o=>rw[ho] at hk h3;simp only[Option.elim_some] at hk;obtain⟨e,he,hb,rfl⟩:=Ro.1 hk;simp only[Option.map_some,Option.getD_some] at h3;have:=Array.all_eq_true_iff_forall_mem.1 h3 e (by simpa using he);simpa[hb] using this
 ·rintro ⟨h1,h2,h3⟩;refine⟨h1,h2,?_⟩;have ho:ops[i]?=some ops[i]:=Array.getElem?_eq_getElem h1;rw[ho];simp only[Option.map_some,Option.getD_some];refine Array.all_eq_true_iff_forall_mem.2 λ e he=>?_;cases hb:Region.binds .any e with
  | false=>simp
  | true=>have:=h3 e.on (by unfold kU;rw[ho];exact Ro.2 ⟨e,by simpa using he,hb,rfl⟩);simpa using this
structure nL(P:Program)(ops:Array Oper)(S:List (Nat×Value))(G:World->Prop)(i:Nat):Prop where
 ex:∃o d,ops[i]?=some o/\o.dst=some d/\((Region.wanted o (bL ops S)=true/\aM P S G o (look S d))∨(Region.wanted o (bL ops S)=false/\look S d=undef))
structure Th(P:Program)(ops:Array Oper)(n:Nat)(Dl Dp Dq:List Nat)(S:List (Nat×Value))(G:World->Prop)(listed:Array Bool)(a:Act)(w:World):Prop where
 ok:Eh n S
 hG:G w
 size:listed.size=ops.size
 defers:a.defers=[]
 tsize:a.tmps.size=n
 cl:∀j,listed.getD j false=true->j∈Dl∨j∈Dp∨j∈Dq
 dl:∀j∈Dl,listed.getD j false=true
 slot:∀t,(∀i,i∈Dp∨i∈Dq->listed.getD i false=false->kF ops i≠some t)->a.tmps.getD t undef=look S t
 pure:∀i∈Dp,listed.getD i false=false->nL P ops S (λ _=>True) i
 load:∀i∈Dq,listed.getD i false=false->nL P ops S G i
 tidy:∀i,i∈Dp∨i∈Dq->∀j d,kF ops i=some d->d∈iO ops j->i∈kU ops j
 dc:∀k,listed.getD k false=true->∀j∈kU ops k,listed.getD j false=true
variable{ops:Array Oper}{o:Oper}
theorem sN{t:Tmp}(h:Operand.tmp t∈o.op.operands):t∈o.looksAt ops :=List.mem_append_left _ (List.mem_filterMap.2 ⟨.tmp t,by simpa using h,rfl⟩)
theorem Vg(h:gU o=true):∀cs b,o.op≠.select cs b:=by intro cs b e;unfold gU at h;rw[e] at h;cases h
theorem P5{a:Act}{S:List (Nat×Value)}(hs:gU o=true)(h:∀t∈o.looksAt ops,a.tmps.getD t undef=look S t) :
  execOp a.eval o=execOp (ev S) o/\Region.wanted o (yielded ops a.tmps)=Region.wanted o (bL ops S):=by
 refine⟨execOp_congr o (Vg hs) λ x hx=>?_,?_⟩
 ·cases x with
  | tmp t=>exact h t (sN hx)
  | _=>rfl
 ·unfold Region.wanted;cases hg:o.guard with
  | none=>rfl
  | some gw=>
   obtain⟨g,want⟩:=gw;have hy:yielded ops a.tmps g=bL ops S g:=by
    unfold yielded bL kF;cases ht:(ops[g]?).bind (·.dst) with
    | none=>rfl
    | some t=>
     have hl:t∈o.looksAt ops:=by unfold Oper.looksAt;rw[hg];exact List.mem_append_right _ (by simp[ht])
     have:=h t hl;simp only[Option.bind_some,Option.map_some];rw[Array.getD_eq_getD_getElem?] at this;cases h2:a.tmps[t]? with
     | none=>rw[h2] at this;simp only[Option.getD_none] at this;rw[<- this];rfl
     | some u=>rw[h2] at this;simp only[Option.getD_some] at this;rw[this];cases look S t<;>rfl
   simp only[hy]
section
variable{P:Program}{ops:Array Oper}{n:Nat}{Dl Dp Dq:List Nat}{S:List (Nat×Value)}{G:World->Prop}{listed:Array Bool}{a:Act}{w:World}
variable{i j:Nat}
theorem tV(h:listed.size=ops.size)(hi:i<ops.size)(j:Nat)(d:Bool):(listed.setIfInBounds i true).getD j d=if j=i then true else listed.getD j d:=by
 simp only[Array.getD_eq_getD_getElem?,Array.getElem?_setIfInBounds];by_cases hj:i=j;·subst hj;simp[h,hi]
 ·simp[hj,Ne.symm hj]
theorem mA(h:listed.getD i true=false):listed.getD i false=false:=by
 rw[Array.getD_eq_getD_getElem?] at h ⊢;cases hx:listed[i]? with
 | none=>rfl
 | some b=>rw[hx] at h;exact h
theorem Ay(hi:i<listed.size)(h:listed.getD i false=false):listed.getD i true=false:=by rw[Array.getD_eq_getD_getElem?] at h ⊢;rw[Array.getElem?_eq_getElem hi] at h ⊢;exact h
theorem Th.aAo(hs:Th P ops n Dl Dp Dq S G listed a w){o:Oper}(ho:ops[j]?=some o)(hd:∀k∈kU ops j,listed.getD k false=true) :
  ∀t∈o.looksAt ops,a.tmps.getD t undef=look S t:=by intro t ht;refine hs.slot t λ i hi hl hdi=>?_;have:=hd i (hs.tidy i hi j t hdi (by unfold iO;rw[ho];exact ht));rw[hl] at this;cases this
theorem R7(a:Act)(d:Nat)(v:Value)(t:Nat):(a.put (some d) v).tmps.getD t undef=if t=d/\t<a.tmps.size then v else a.tmps.getD t undef:=by
 simp only[Act.put,Array.getD_eq_getD_getElem?,Array.getElem?_setIfInBounds];by_cases h:d=t
 ·subst h;by_cases hlt:d<a.tmps.size;·simp[hlt]
  ·simp[hlt]
 ·simp[h,Ne.symm h]
theorem Th.aDl(hb:Aj ops=true)(hs:Th P ops n Dl Dp Dq S G listed a w)(hj:j∈Region.ready .any ops listed)(hq:j∈Dp∨j∈Dq)(Q:Exit->Act->World->Prop) :
  ∃a',Th P ops n Dl Dp Dq S G (listed.setIfInBounds j true) a' w/\∀K:Act->World->Prop,K a' w->wpOp P ops Q j K a w:=by
 obtain⟨hjs,hjl,hjd⟩:=mem_ready.1 hj;have hjf:=mA hjl;have hf:nL P ops S G j:=by
  rcases hq with hq|hq;·obtain⟨o,d,h1,h2,h3⟩:=(hs.pure j hq hjf).ex;exact⟨o,d,h1,h2,h3.imp (λ h=>⟨h.1,⟨λ w _=>h.2.run w trivial⟩⟩) id⟩
  ·exact hs.load j hq hjf
 obtain⟨o,d,ho,hd,hfire⟩:=hf.ex;have hsel:gU o=true:=by have:=List.all_eq_true.1 hb j (List.mem_range.2 hjs);rw[ho] at this;simp only[Bool.and_eq_true] at this;exact this.2
 obtain⟨hrun,hwant⟩:=P5 (ops:=ops) hsel (hs.aAo ho hjd);refine⟨a.put (some d) (look S d),?_,λ K hK=>?_⟩
 ·have hls:=λ k d=>tV (ops:=ops) hs.size hjs k d
  refine⟨hs.ok,hs.hG,by simp[hs.size],by simp[Act.put,hs.defers],by simp[Act.put,hs.tsize],λ k hk=>?_,λ k hk=>?_,λ t ht=>?_,λ i hi hl=>?_,λ i hi hl=>?_,hs.tidy,λ k hk q hqd=>by
   rw[hls] at hk ⊢;split;·rfl
   ·by_cases hkj:k=j;·subst hkj;exact hjd q hqd
    ·rw[if_neg hkj] at hk;exact hs.dc k hk q hqd⟩
  ·rw[hls] at hk;by_cases hkj:k=j;·subst hkj;exact .inr hq
   ·rw[if_neg hkj] at hk;exact hs.cl k hk
  ·rw[hls];split;·rfl
   ·exact hs.dl k hk
  ·rw[R7];by_cases htd:t=d
   ·subst htd;by_cases hlt:t<a.tmps.size;·simp[hlt]
    ·rw[if_neg (λ h=>hlt h.2)];have hge:a.tmps.size<=t:=Nat.le_of_not_lt hlt;rw[M8 hs.ok (hs.tsize▸hge),Array.getD_eq_getD_getElem?,Array.getElem?_eq_none hge];rfl
   ·rw[if_neg (λ h=>htd h.1)];refine hs.slot t λ i hi hl hdi=>?_;by_cases hij:i=j;·subst hij;unfold kF at hdi;rw[ho] at hdi;simp only[Option.bind_some,hd,Option.some.injEq] at hdi;exact htd hdi.symm
    ·exact ht i hi (by rw[hls,if_neg hij];exact hl) hdi
  ·rw[hls] at hl;by_cases hij:i=j;·rw[if_pos hij] at hl;cases hl
   ·rw[if_neg hij] at hl;exact hs.pure i hi hl
  ·rw[hls] at hl;by_cases hij:i=j;·rw[if_pos hij] at hl;cases hl
   ·rw[if_neg hij] at hl;exact hs.load i hi hl
 ·unfold wpOp;simp only[ho];rcases hfire with⟨hw,hv⟩|⟨hw,hv⟩;·rw[hwant,hw,if_pos rfl];refine .inl ?_;unfold Oper.wp;rw[hrun,hv.run w hs.hG];simp only[Oper.upon,hd];exact hK
  ·rw[hwant,hw,if_neg (by simp),hd];rw[hv] at hK;exact hK
def pK(ops:Array Oper)(listed:Array Bool):List Nat:=(List.range ops.size).filter λ j=>!listed.getD j true
theorem filter_lt{p q:Nat->Bool}(hpq:∀x,q x=true->p x=true){i:Nat}(hp:p i=true)(hq:q i=false):∀l:List Nat,i∈l->(l.filter q).length<(l.filter p).length
 | [],h=>(List.not_mem_nil h).elim
 | x::l,h=>by
  have hle:∀l:List Nat,(l.filter q).length<=(l.filter p).length:=by
   intro l;induction l with
   | nil=>simp
   | cons y l ih=>
    simp only[List.filter_cons];cases hy:q y with
    | true=>simp[hpq y hy];exact ih
    | false=>cases p y<;>simp<;>omega
  simp only[List.filter_cons];rcases List.mem_cons.1 h with rfl|h;·simp[hp,hq];exact Nat.lt_succ_of_le (hle l)
  ·have ih:=filter_lt hpq hp hq l h;cases hx:q x with
   | true=>simp[hpq x hx];exact ih
   | false=>cases p x<;>simp<;>omega
theorem xY(h:listed.size=ops.size){i:Nat}(hi:i<ops.size)(hl:listed.getD i true=false):(pK ops (listed.setIfInBounds i true)).length<(pK ops listed).length:=by
 unfold pK;refine filter_lt (p:=λ j=>!listed.getD j true) (q:=λ j=>!(listed.setIfInBounds i true).getD j true) ?_ (i:=i) ?_ ?_ _ (List.mem_range.2 hi)
 ·intro x hx;simp only[tV (ops:=ops) h hi,Bool.not_eq_true'] at hx ⊢;by_cases hxi:x=i;·rw[if_pos hxi] at hx;cases hx
  ·rw[if_neg hxi] at hx;exact hx
 ·simp[hl]
 ·simp[tV (ops:=ops) h hi]
theorem Gl(hb:Aj ops=true)(hsz:listed.size=ops.size):∀i,i<ops.size->listed.getD i false=false->Region.ready .any ops listed≠[]:=by
 intro i;induction i using Nat.strongRecOn with
 | _ i ih=>
  intro hi hl hnil;by_cases hall:∀k∈kU ops i,listed.getD k false=true;·have:i∈Region.ready .any ops listed:=mem_ready.2 ⟨hi,Ay (by omega) hl,hall⟩;rw[hnil] at this;cases this
  ·simp only[Classical.not_forall] at hall;obtain⟨k,hk,hkl⟩:=hall;have h1:=List.all_eq_true.1 hb i (List.mem_range.2 hi);simp only[Bool.and_eq_true] at h1;have hki:k<i:=Nat.le_of_ble_eq_true (List.all_eq_true.1 h1.1 k hk);exact ih k hki (by omega) (by simpa using hkl) hnil
end
inductive rA where
 | nil
 | one (i:Nat) (L:List Nat) (r:rA)
 | two (i:Nat) (L:List Nat) (r:rA) (j:Nat) (M:List Nat) (q:rA)
structure JR(P:Program)(n:Nat)(Q:Exit->Act->World->Prop)(ks:List CK)(ops:Array Oper)(pl:rA)(Dl Dp Dq:List Nat)(S:List (Nat×Value))(G:World->Prop):Prop where
 run:∀kV listed a w,Th P ops n Dl Dp Dq S G listed a w->(pK ops listed).length<=kV->wpAny P .any ops (runK P Q ks) kV listed a w
section
variable{P:Program}{n:Nat}{Q:Exit->Act->World->Prop}{ks:List CK}{ops:Array Oper}{pl pl':rA}{LL:List Nat}{Dl Dp Dq:List Nat}{S:List (Nat×Value)}{G:World->Prop}
theorem nL.step{i d:Nat}{v:Value}(h:nL P ops S G i)(hdst:kF ops i≠some d)(hl:d∉iO ops i)(hsel:(ops[i]?).elim true gU=true):nL P ops ((d,v)::S) G i:=by
 obtain⟨o,e,ho,he,hf⟩:=h.ex;have hle:look ((d,v)::S) e=look S e:=by
  have hne:d≠e:=λ q=>hdst (by unfold kF;rw[ho];simp[he,q])
  simp only[look];cases hb:Nat.beq d e with
  | true=>exact absurd (eS hb) hne
  | false=>rfl
 rw[ho] at hsel;simp only[iO,ho,Option.elim_some] at hl hsel;have hag:∀t∈o.looksAt ops,look ((d,v)::S) t=look S t:=by
  intro t ht;have hne:d≠t:=λ q=>hl (q▸ht)
  simp only[look];cases hb:Nat.beq d t with
  | true=>exact absurd (eS hb) hne
  | false=>rfl
 have hex:execOp (ev ((d,v)::S)) o=execOp (ev S) o:=execOp_congr o (Vg hsel) λ x hx=>by
  cases x with
  | tmp t=>exact hag t (sN hx)
  | _=>rfl
 have hwa:Region.wanted o (bL ops ((d,v)::S))=Region.wanted o (bL ops S):=by
  unfold Region.wanted;cases hg:o.guard with
  | none=>rfl
  | some gw=>
   obtain⟨g,want⟩:=gw;have:bL ops ((d,v)::S) g=bL ops S g:=by
    unfold bL;cases ht:kF ops g with
    | none=>rfl
    | some t=>
     have:t∈o.looksAt ops:=by unfold Oper.looksAt;rw[hg];unfold kF at ht;exact List.mem_append_right _ (by simp[ht])
     simp only[Option.map_some,hag t this]
   simp only[this]
 refine⟨o,e,ho,he,?_⟩;rw[hwa,hle];exact hf.imp (λ h=>⟨h.1,⟨λ w hw=>by rw[hex];exact h.2.run w hw⟩⟩) id
def qI(ops:Array Oper)(D:List Nat)(i d:Nat):Bool :=
 !(iO ops i).elem d&&(D.all λ j=>!((kF ops j)==some d)&&!(iO ops j).elem d&&((ops[j]?).elim true gU)) &&
 ((List.range ops.size).all λ j=>!(iO ops j).elem d||(kU ops j).elem i)
variable{D:List Nat}{i d:Nat}{v:Value}
theorem Ai(h:qI ops D i d=true):d∉iO ops i:=by simp only[qI,Bool.and_eq_true] at h;simpa using h.1.1
theorem cj{j:Nat}(h:qI ops D i d=true)(hj:j∈D):kF ops j≠some d/\d∉iO ops j/\(ops[j]?).elim true gU=true:=by
 simp only[qI,Bool.and_eq_true] at h;have:=List.all_eq_true.1 h.1.2 j hj;simp only[Bool.and_eq_true,Bool.not_eq_true'] at this;refine⟨?_,?_,this.2⟩;·have:=this.1.1;simpa using this
 ·have:=this.1.2;simpa using this
theorem Tz(h:qI ops D i d=true)(j:Nat)(hl:d∈iO ops j):i∈kU ops j:=by
 simp only[qI,Bool.and_eq_true] at h;by_cases hj:j<ops.size
 ·have:=List.all_eq_true.1 h.2 j (List.mem_range.2 hj);simp only[Bool.or_eq_true,Bool.not_eq_true'] at this;rcases this with h1|h1;·have:(iO ops j).elem d=true:=List.elem_eq_true_of_mem hl;rw[h1] at this;cases this
  ·exact List.mem_of_elem_eq_true h1
 ·unfold iO at hl;rw[Array.getElem?_eq_none (by omega)] at hl;cases hl
theorem Th.ahead{listed:Array Bool}{a:Act}{w:World}(hs:Th P ops n Dl Dp Dq S G listed a w)(hn:(Dl++Dp++Dq).elem i=false)(hfr:qI ops (Dp++Dq) i d=true)(hd:kF ops i=some d)(hblt:Nat.blt d n=true)(pureB:Bool)(hf:nL P ops ((d,v)::S) (bif pureB then λ _=>True else G) i):Th P ops n Dl (bif pureB then i::Dp else Dp) (bif pureB then Dq else i::Dq) ((d,v)::S) G listed a w:=by
 have hnm:i∉Dl++Dp++Dq:=λ h=>by rw[List.elem_eq_true_of_mem h] at hn;cases hn
 simp only[List.mem_append,not_or] at hnm;have hil:listed.getD i false=false:=by
  cases hx:listed.getD i false with
  | false=>rfl
  | true=>rcases hs.cl i hx with h|h|h<;>simp_all
 have hmem:∀j,(j∈(bif pureB then i::Dp else Dp)∨j∈(bif pureB then Dq else i::Dq))↔j=i∨j∈Dp∨j∈Dq:=by
  intro j;cases pureB<;>simp only[cond_true,cond_false,List.mem_cons];·exact⟨λ h=>by rcases h with h|h|h<;>simp[h],λ h=>by rcases h with h|h|h<;>simp[h]⟩
  ·exact⟨λ h=>by rcases h with(h|h)|h<;>simp[h],λ h=>by rcases h with h|h|h<;>simp[h]⟩
 have bS:∀{G':World->Prop} {j:Nat},j∈Dp∨j∈Dq->nL P ops S G' j->nL P ops ((d,v)::S) G' j:=λ{G' j} hj hF=>by have:=cj hfr (j:=j) (by simpa using hj);exact hF.step this.1 this.2.1 this.2.2
 refine⟨hs.ok.cons hblt,hs.hG,hs.size,hs.defers,hs.tsize,λ j hj=>?_,hs.dl,λ t ht=>?_,λ j hj hl=>?_,λ j hj hl=>?_,λ j hj k e hje hek=>?_,hs.dc⟩
 ·rcases hs.cl j hj with h|h;·exact .inl h
  ·exact .inr ((hmem j).2 (.inr h))
 ·have htd:t≠d:=λ e=>ht i ((hmem i).2 (.inl rfl)) hil (e▸hd)
  have h1:=hs.slot t λ j hj hl=>ht j ((hmem j).2 (.inr hj)) hl
  simp only[look];cases hb:Nat.beq d t with
  | true=>exact absurd (eS hb).symm htd
  | false=>exact h1
 ·cases pureB with
  | true=>
   rcases List.mem_cons.1 hj with rfl|hj;·exact hf
   ·exact bS (.inl hj) (hs.pure j hj hl)
  | false=>exact bS (.inl hj) (hs.pure j hj hl)
 ·cases pureB with
  | true=>exact bS (.inr hj) (hs.load j hj hl)
  | false=>
   rcases List.mem_cons.1 hj with rfl|hj;·exact hf
   ·exact bS (.inr hj) (hs.load j hj hl)
 ·rcases(hmem j).1 hj with rfl|hj
  ·obtain rfl:d=e:=Option.some.inj (hd.symm.trans hje);exact Tz hfr k hek
  ·exact hs.tidy j hj k e hje hek
theorem nL.K7{o:Oper}(ho:ops[i]?=some o)(hd:o.dst=some d)(hl:d∉iO ops i)(hsel:gU o=true)(hw:Region.wanted o (bL ops S)=true)(hq:aM P S G o v):nL P ops ((d,v)::S) G i:=by
 have hag:∀t∈o.looksAt ops,look ((d,v)::S) t=look S t:=by
  intro t ht;have hne:d≠t:=λ q=>hl (by unfold iO;rw[ho];exact q▸ht)
  simp only[look];cases hb:Nat.beq d t with
  | true=>exact absurd (eS hb) hne
  | false=>rfl
 have hex:execOp (ev ((d,v)::S)) o=execOp (ev S) o:=execOp_congr o (Vg hsel) λ x hx=>by
  cases x with
  | tmp t=>exact hag t (sN hx)
  | _=>rfl
 have hwa:Region.wanted o (bL ops ((d,v)::S))=Region.wanted o (bL ops S):=by
  unfold Region.wanted;cases hg:o.guard with
  | none=>rfl
  | some gw=>
   obtain⟨g,want⟩:=gw;have:bL ops ((d,v)::S) g=bL ops S g:=by
    unfold bL;cases ht:kF ops g with
    | none=>rfl
    | some t=>
     have:t∈o.looksAt ops:=by unfold Oper.looksAt;rw[hg];unfold kF at ht;exact List.mem_append_right _ (by simp[ht])
     simp only[Option.map_some,hag t this]
   simp only[this]
 refine⟨o,d,ho,hd,.inl ⟨by rw[hwa];exact hw,⟨λ w hw=>?_⟩⟩⟩;have hv:look ((d,v)::S) d=v:=by simp[look]
 rw[hex,hv];exact hq.run w hw
theorem nL.Qi{o:Oper}(ho:ops[i]?=some o)(hd:o.dst=some d)(hl:d∉iO ops i)(hw:Region.wanted o (bL ops S)=false):nL P ops ((d,undef)::S) G i:=by
 have hag:∀t∈o.looksAt ops,look ((d,undef)::S) t=look S t:=by
  intro t ht;have hne:d≠t:=λ q=>hl (by unfold iO;rw[ho];exact q▸ht)
  simp only[look];cases hb:Nat.beq d t with
  | true=>exact absurd (eS hb) hne
  | false=>rfl
 have hwa:Region.wanted o (bL ops ((d,undef)::S))=Region.wanted o (bL ops S):=by
  unfold Region.wanted;cases hg:o.guard with
  | none=>rfl
  | some gw=>
   obtain⟨g,want⟩:=gw;have:bL ops ((d,undef)::S) g=bL ops S g:=by
    unfold bL;cases ht:kF ops g with
    | none=>rfl
    | some t=>
     have:t∈o.looksAt ops:=by unfold Oper.looksAt;rw[hg];unfold kF at ht;exact List.mem_append_right _ (by simp[ht])
     simp only[Option.map_some,hag t this]
   simp only[this]
 exact⟨o,d,ho,hd,.inr ⟨by rw[hwa];exact hw,by simp[look]⟩⟩
def dL(ops:Array Oper)(n:Nat)(Dl Dp Dq:List Nat)(i d:Nat):Bool :=!(Dl++Dp++Dq).elem i&&qI ops (Dp++Dq) i d&&(kF ops i==some d)&&Nat.blt d n&&((ops[i]?).elim true gU)
theorem wD{i d:Nat}(h:dL ops n Dl Dp Dq i d=true) :
  (Dl++Dp++Dq).elem i=false/\qI ops (Dp++Dq) i d=true/\kF ops i=some d/\Nat.blt d n=true/\(ops[i]?).elim true gU=true:=by simp only[dL,Bool.and_eq_true,Bool.not_eq_true',beq_iff_eq] at h;exact⟨h.1.1.1.1,h.1.1.1.2,h.1.1.2,h.1.2,h.2⟩
inductive eT:List Oper->Nat->Oper->Prop where
 | head {o:Oper} {l:List Oper}:eT (o::l) 0 o
 | tail {p:Oper} {l:List Oper} {i:Nat} {o:Oper}:eT l i o->eT (p::l) (i+1) o
theorem eT.get{l:List Oper}{i:Nat}{o:Oper}(h:eT l i o):(⟨l⟩:Array Oper)[i]?=some o:=by
 have:l[i]?=some o:=by
  induction h with
  | head=>rfl
  | tail _ ih=>simpa using ih
 simpa using this
section
variable{ol:List Oper}{op:Op}{ty:TypeId}{pos:String}{af:Array Edge}{gd:Option (Nat×Bool)}
theorem hU{i d:Nat}{v:Value}(ho:eT ol i ⟨some d,op,ty,pos,af,gd⟩)(hw:Region.wanted ⟨some d,op,ty,pos,af,gd⟩ (bL ⟨ol⟩ S)=true)(hq:aM P S (λ _=>True) ⟨some d,op,ty,pos,af,gd⟩ v)(hc:dL ⟨ol⟩ n Dl Dp Dq i d=true)
  (h:JR P n Q ks ⟨ol⟩ pl Dl (i::Dp) Dq ((d,v)::S) G):JR P n Q ks ⟨ol⟩ (.one i LL pl) Dl Dp Dq S G:=by obtain⟨c1,c2,c3,c4,c5⟩:=wD hc;exact⟨λ kV listed a w hs hf=>h.run kV listed a w (hs.ahead (v:=v) c1 c2 c3 c4 true (nL.K7 ho.get rfl (Ai c2) (by rw[ho.get] at c5;exact c5) hw hq)) hf⟩
theorem Uy{i d:Nat}{v:Value}(ho:eT ol i ⟨some d,op,ty,pos,af,gd⟩)(hw:Region.wanted ⟨some d,op,ty,pos,af,gd⟩ (bL ⟨ol⟩ S)=true)(hq:aM P S G ⟨some d,op,ty,pos,af,gd⟩ v)(hc:dL ⟨ol⟩ n Dl Dp Dq i d=true)
  (h:JR P n Q ks ⟨ol⟩ pl Dl Dp (i::Dq) ((d,v)::S) G):JR P n Q ks ⟨ol⟩ (.one i LL pl) Dl Dp Dq S G:=by obtain⟨c1,c2,c3,c4,c5⟩:=wD hc;exact⟨λ kV listed a w hs hf=>h.run kV listed a w (hs.ahead (v:=v) c1 c2 c3 c4 false (nL.K7 ho.get rfl (Ai c2) (by rw[ho.get] at c5;exact c5) hw hq)) hf⟩
theorem T7{i d:Nat}(ho:eT ol i ⟨some d,op,ty,pos,af,gd⟩)(hw:Region.wanted ⟨some d,op,ty,pos,af,gd⟩ (bL ⟨ol⟩ S)=false)(hc:dL ⟨ol⟩ n Dl Dp Dq i d=true)
  (h:JR P n Q ks ⟨ol⟩ pl Dl (i::Dp) Dq ((d,undef)::S) G):JR P n Q ks ⟨ol⟩ (.one i LL pl) Dl Dp Dq S G:=by obtain⟨c1,c2,c3,c4,_⟩:=wD hc;exact⟨λ kV listed a w hs hf=>h.run kV listed a w (hs.ahead (v:=undef) c1 c2 c3 c4 true (nL.Qi ho.get rfl (Ai c2) hw)) hf⟩
end
theorem aDF(hall:((List.range ops.size).all λ j=>(Dl++Dp++Dq).elem j)=true)(hb:Aj ops=true)(h:JK P n Q ks S G):JR P n Q ks ops .nil Dl Dp Dq S G:=by
 have done:∀listed a w,Th P ops n Dl Dp Dq S G listed a w->Region.ready .any ops listed=[]->runK P Q ks .normal a w:=by
  intro listed a w hs hr;have hl:∀i,i∈Dp∨i∈Dq->listed.getD i false=false->kF ops i=none:=by
   intro i _ hx;rcases Nat.lt_or_ge i ops.size with hi|hi;·exact absurd hr (Gl hb hs.size i hi hx)
   ·unfold kF;rw[Array.getElem?_eq_none (by omega)];rfl
  have hslot:∀t,a.tmps.getD t undef=look S t:=λ t=>hs.slot t λ i hi hx hd=>by rw[hl i hi hx] at hd;cases hd
  have ha:a=⟨eA n S,[]⟩:=by
   have h1:=hs.defers;have h2:=hs.tsize;cases a with
   | mk tmps ds=>
    simp only at h1 h2 hslot;subst h1;congr 1;apply Array.ext;·simp[eA,h2]
    ·intro i hi1 hi2;have:=hslot i;rw[Array.getD_eq_getD_getElem?,Array.getElem?_eq_getElem hi1] at this;simpa[eA] using this
  subst ha;exact h.run hs.ok w hs.hG
 refine⟨λ kV=>?_⟩;induction kV with
 | zero=>
  intro listed a w hs hf;have hnil:Region.ready .any ops listed=[]:=by
   cases hr:Region.ready .any ops listed with
   | nil=>rfl
   | cons x xs=>
    have hx:x∈Region.ready .any ops listed:=by rw[hr];exact List.mem_cons_self ..
    obtain⟨h1,h2,_⟩:=mem_ready.1 hx;have:x∈pK ops listed:=List.mem_filter.2 ⟨List.mem_range.2 h1,by simp[h2]⟩;have:=List.length_pos_of_mem this;omega
  exact⟨hnil,done listed a w hs hnil⟩
 | succ kV ih=>
  intro listed a w hs hf;refine⟨done listed a w hs,λ j hj=>?_⟩;obtain⟨h1,h2,_⟩:=mem_ready.1 hj;have hjD:=List.mem_of_elem_eq_true (List.all_eq_true.1 hall j (List.mem_range.2 h1));simp only[List.mem_append] at hjD;have hq:j∈Dp∨j∈Dq:=by
   rcases hjD with(h|h)|h;·have:=hs.dl j h;rw[mA h2] at this;cases this
   ·exact .inl h
   ·exact .inr h
  obtain⟨a',hs',hK⟩:=hs.aDl hb hj hq (runK P Q ks);refine hK _ (ih _ _ _ hs' ?_);have:=xY (ops:=ops) hs.size h1 h2;omega
def anc(ops:Array Oper):Nat->List Nat->List Nat
 | 0,l=>l
 | f+1,l=>anc ops f (l++(l.flatMap (kU ops)).filter λ j=>!l.elem j)
theorem G7{listed:Array Bool}(dc:∀k,listed.getD k false=true->∀j∈kU ops k,listed.getD j false=true):∀(f:Nat) (l:List Nat),(∀j∈l,listed.getD j false=true)->∀j∈anc ops f l,listed.getD j false=true
 | 0,_,h=>h
 | f+1,l,h=>G7 dc f _ λ j hj=>by
  rcases List.mem_append.1 hj with hj|hj;·exact h j hj
  ·obtain⟨k,hk,hjk⟩:=List.mem_flatMap.1 (List.mem_filter.1 hj).1;exact dc k (h k hk) j hjk
def waiting(ops:Array Oper)(Dq:List Nat)(i:Nat):List Nat:=Dq.filter λ j=>!(anc ops 16 (kU ops i)).elem j
inductive aL(P:Program)(ops:Array Oper)(S:List (Nat×Value))(G:World->Prop):List Nat->Prop where
 | nil:aL P ops S G []
 | cons {i:Nat} {l:List Nat} (h:nL P ops S G i) (r:aL P ops S G l):aL P ops S G (i::l)
theorem aL.get{l:List Nat}(h:aL P ops S G l):∀i∈l,nL P ops S G i:=by
 induction h with
 | nil=>intro i hi;cases hi
 | cons h _ ih=>intro i hi;rcases List.mem_cons.1 hi with rfl|hi;exact h;exact ih i hi
theorem T4{i d:Nat}{o:Oper}{v:Value}(ho:ops[i]?=some o)(hd:o.dst=some d)(hw:Region.wanted o (bL ops S)=true)(hv:look S d=v)(hq:aM P S G o v):nL P ops S G i :=⟨o,d,ho,hd,.inl ⟨hw,hv▸hq⟩⟩
def hY(ops:Array Oper)(n:Nat)(Dl Dp Dq:List Nat)(i:Nat)(dst:Option Nat):Bool :=
 Aj ops&&!(Dl++Dp++Dq).elem i&&Nat.blt i ops.size&&(kF ops i==dst) &&
 (match dst with
 | some d=>Nat.blt d n&&((Dp++Dq).all λ j=>!((kF ops j)==some d)&&(!(iO ops j).elem d||(kU ops i).elem j)&&((ops[j]?).elim true gU))
 | none=>true)
def og(ops:Array Oper)(Dl Dp Dq E:List Nat):Bool :=(List.range ops.size).all λ j=>(Dl++Dp++Dq).elem j||E.elem j||!(kU ops j).all λ k=>(Dl++Dp++Dq).elem k
def zj(dst:Option Nat)(v:Value)(S:List (Nat×Value)):List (Nat×Value):=match dst with|some d=>(d,v)::S|none=>S
structure fP(P:Program)(n:Nat)(Q:Exit->Act->World->Prop)(ks:List CK)(ops:Array Oper)(pl:rA)(Dl Dp Dq:List Nat)(S:List (Nat×Value))(G:World->Prop)(i:Nat)(L:List Nat):Prop where
 step:∀kV listed a w,Th P ops n Dl Dp Dq S G listed a w->i∈Region.ready .any ops listed->(pK ops listed).length<=kV+1 ->
  wpOp P ops (runK P Q ks) i (wpAny P .any ops (runK P Q ks) kV (listed.setIfInBounds i true)) a w
theorem L0{X:Type}{V:X->Value}{G':X->World->Prop}{i:Nat}{dst:Option Nat}{o:Oper}{L:List Nat}(ho:ops[i]?=some o)(hd:o.dst=dst)(hw:Region.wanted o (bL ops S)=true)
  (hq:bG P S G o X V G') (hc:hY ops n Dl Dp Dq i dst=true) (hL:((waiting ops Dq i).all λ j=>L.elem j)=true) (hfire:∀x,aL P ops (zj dst (V x) S) (G' x) L)
  (h:∀x,JR P n Q ks ops pl (i::Dl) Dp Dq (zj dst (V x) S) (G' x)):fP P n Q ks ops pl Dl Dp Dq S G i L:=by
 simp only[hY,Bool.and_eq_true,Bool.not_eq_true',beq_iff_eq] at hc;obtain⟨⟨⟨⟨hb,c1⟩,c2⟩,c3⟩,c4⟩:=hc;have hib:i<ops.size:=Nat.le_of_ble_eq_true c2;refine⟨λ kV listed a w hs hj hfu=>?_⟩;obtain⟨_,hjl,hjd⟩:=mem_ready.1 hj;have hsel:gU o=true:=by have:=List.all_eq_true.1 hb i (List.mem_range.2 hib);rw[ho] at this;simp only[Bool.and_eq_true] at this;exact this.2
 obtain⟨hrun,hwant⟩:=P5 (ops:=ops) hsel (hs.aAo ho hjd);unfold wpOp;simp only[ho];rw[hwant,hw,if_pos rfl];refine .inl ?_;unfold Oper.wp;rw[hrun];refine(hq.run w hs.hG).upon λ x w' hg=>(h x).run _ _ _ _ ?_ ?_
 ·have hls:=λ k d=>tV (ops:=ops) hs.size hib k d
  have bS:∀{G':World->Prop} {j:Nat},j∈Dp∨j∈Dq->listed.getD j false=false->nL P ops S G' j->nL P ops (zj dst (V x) S) G' j:=λ{G' j} hj hl hF=>by
   cases dst with
   | none=>exact hF
   | some d=>
    simp only[Bool.and_eq_true] at c4;have:=List.all_eq_true.1 c4.2 j (by simpa using hj);simp only[Bool.and_eq_true,Bool.not_eq_true',Bool.or_eq_true] at this;refine hF.step ?_ ?_ this.2;·have:=this.1.1;simpa using this
    ·intro hm;rcases this.1.2 with h1|h1;·rw[List.elem_eq_true_of_mem hm] at h1;cases h1
     ·have:=hjd j (List.mem_of_elem_eq_true h1);rw[hl] at this;cases this
  have lC:∀j,(listed.setIfInBounds i true).getD j false=false->listed.getD j false=false/\j≠i:=by
   intro j hl;rw[hls] at hl;by_cases hji:j=i;·rw[if_pos hji] at hl;cases hl
   ·rw[if_neg hji] at hl;exact⟨hl,hji⟩
  refine⟨?_,hg,by simp[hs.size],?_,?_,λ j hjj=>?_,λ j hjj=>?_,λ t ht=>?_,λ j hj hl=>bS (.inl hj) (lC j hl).1 (hs.pure j hj (lC j hl).1),λ j hj hl=>?_,hs.tidy,λ k hk q hq=>by
   rw[hls] at hk ⊢;split;·rfl
   ·by_cases hki:k=i;·subst hki;exact hjd q hq
    ·rw[if_neg hki] at hk;exact hs.dc k hk q hq⟩
  ·cases dst with
   | none=>exact hs.ok
   | some d=>simp only[Bool.and_eq_true] at c4;exact hs.ok.cons c4.1
  ·rw[hd];cases dst<;>simp[Act.put,hs.defers]
  ·rw[hd];cases dst<;>simp[Act.put,hs.tsize]
  ·rw[hls] at hjj;by_cases hji:j=i;·subst hji;exact .inl (List.mem_cons_self ..)
   ·rw[if_neg hji] at hjj;rcases hs.cl j hjj with h1|h1;·exact .inl (List.mem_cons_of_mem _ h1)
    ·exact .inr h1
  ·rw[hls];split;·rfl
   ·rename_i hji;rcases List.mem_cons.1 hjj with rfl|hjj;·exact absurd rfl hji
    ·exact hs.dl j hjj
  ·have hnm:i∉Dl++Dp++Dq:=λ h=>by rw[List.elem_eq_true_of_mem h] at c1;cases c1
   simp only[List.mem_append,not_or] at hnm
   have base:∀t,(∀j,j∈Dp∨j∈Dq->(listed.setIfInBounds i true).getD j false=false->kF ops j≠some t)->a.tmps.getD t undef=look S t:=λ t ht=>hs.slot t λ j hjm hl=>ht j hjm (by
    have hne:j≠i:=λ e=>by
     rcases hjm with h1|h1;·exact hnm.1.2 (e▸h1)
     ·exact hnm.2 (e▸h1)
    rw[hls,if_neg hne];exact hl)
   rw[hd];cases dst with
   | none=>exact base t ht
   | some d=>
    rw[R7];simp only[zj,look];by_cases htd:t=d;·subst htd;simp only[Bool.and_eq_true] at c4;have:t<a.tmps.size:=Nat.lt_of_lt_of_le (Nat.le_of_ble_eq_true c4.1) (Nat.le_of_eq hs.tsize.symm);simp[this]
    ·rw[if_neg (λ h=>htd h.1)];cases hbb:Nat.beq d t with
     | true=>exact absurd (eS hbb).symm htd
     | false=>exact base t ht
  ·refine(hfire x).get j ?_;refine List.mem_of_elem_eq_true (List.all_eq_true.1 hL j (List.mem_filter.2 ⟨hj,?_⟩));cases hx:(anc ops 16 (kU ops i)).elem j with
   | false=>rfl
   | true=>have:=G7 hs.dc 16 _ hjd j (List.mem_of_elem_eq_true hx);rw[(lC j hl).1] at this;cases this
 ·have:=xY (ops:=ops) hs.size hib hjl;omega
section
variable{ol:List Oper}{op:Op}{ty:TypeId}{pos:String}{af:Array Edge}{gd:Option (Nat×Bool)}
variable{X:Type}{L:List Nat}
theorem kO{V:X->Value}{G':X->World->Prop}{i d:Nat}(ho:eT ol i ⟨some d,op,ty,pos,af,gd⟩)(hw:Region.wanted ⟨some d,op,ty,pos,af,gd⟩ (bL ⟨ol⟩ S)=true)(hq:bG P S G ⟨some d,op,ty,pos,af,gd⟩ X V G')(hc:hY ⟨ol⟩ n Dl Dp Dq i (some d)=true)(hL:((waiting ⟨ol⟩ Dq i).all λ j=>L.elem j)=true)(hfire:∀x,aL P ⟨ol⟩ ((d,V x)::S) (G' x) L)(h:∀x,JR P n Q ks ⟨ol⟩ pl (i::Dl) Dp Dq ((d,V x)::S) (G' x)):fP P n Q ks ⟨ol⟩ pl Dl Dp Dq S G i L:=L0 ho.get rfl hw hq hc hL hfire h
theorem Ww{V:X->Value}{G':X->World->Prop}{i:Nat}(ho:eT ol i ⟨none,op,ty,pos,af,gd⟩)(hw:Region.wanted ⟨none,op,ty,pos,af,gd⟩ (bL ⟨ol⟩ S)=true)(hq:bG P S G ⟨none,op,ty,pos,af,gd⟩ X V G')(hc:hY ⟨ol⟩ n Dl Dp Dq i none=true)(hL:((waiting ⟨ol⟩ Dq i).all λ j=>L.elem j)=true)(hfire:∀x,aL P ⟨ol⟩ S (G' x) L)(h:∀x,JR P n Q ks ⟨ol⟩ pl (i::Dl) Dp Dq S (G' x)):fP P n Q ks ⟨ol⟩ pl Dl Dp Dq S G i L:=L0 ho.get rfl hw hq hc hL hfire h
theorem Ns{i d:Nat}{v:Value}(ho:eT ol i ⟨some d,op,ty,pos,af,gd⟩)(hw:Region.wanted ⟨some d,op,ty,pos,af,gd⟩ (bL ⟨ol⟩ S)=true)(hv:look S d=v)(hq:aM P S G ⟨some d,op,ty,pos,af,gd⟩ v):nL P ⟨ol⟩ S G i :=T4 ho.get rfl hw hv hq
end
theorem ot{E:List Nat}(hE:og ops Dl Dp Dq E=true)(hb:Aj ops=true)(hne:(E.any λ i=>!(Dl++Dp++Dq).elem i&&Nat.blt i ops.size)=true)(h:∀i∈E,fP P n Q ks ops pl' Dl Dp Dq S G i LL):∀kV listed a w,Th P ops n Dl Dp Dq S G listed a w->(pK ops listed).length<=kV->wpAny P .any ops (runK P Q ks) kV listed a w:=by
 have nready:∀listed a w,Th P ops n Dl Dp Dq S G listed a w->Region.ready .any ops listed≠[]:=by
  intro listed a w hs;obtain⟨i,_,hi⟩:=List.any_eq_true.1 hne;simp only[Bool.and_eq_true,Bool.not_eq_true'] at hi;have hil:listed.getD i false=false:=by
   cases hx:listed.getD i false with
   | false=>rfl
   | true=>
    have:i∈Dl++Dp++Dq:=by simp only[List.mem_append];rcases hs.cl i hx with h|h|h<;>simp[h]
    rw[List.elem_eq_true_of_mem this] at hi;cases hi.1
  exact Gl hb hs.size i (Nat.le_of_ble_eq_true hi.2) hil
 intro kV;induction kV with
 | zero=>
  intro listed a w hs hf;exfalso;have:=nready listed a w hs;cases hr:Region.ready .any ops listed with
  | nil=>exact this hr
  | cons x xs=>
   have hx:x∈Region.ready .any ops listed:=by rw[hr];exact List.mem_cons_self ..
   obtain⟨h1,h2,_⟩:=mem_ready.1 hx;have:x∈pK ops listed:=List.mem_filter.2 ⟨List.mem_range.2 h1,by simp[h2]⟩;have:=List.length_pos_of_mem this;omega
 | succ kV ih=>
  intro listed a w hs hf;refine⟨λ hr=>absurd hr (nready listed a w hs),λ j hj=>?_⟩;obtain⟨h1,h2,h3⟩:=mem_ready.1 hj;by_cases hq:j∈Dp∨j∈Dq;·obtain⟨a',hs',hK⟩:=hs.aDl hb hj hq (runK P Q ks);refine hK _ (ih _ _ _ hs' ?_);have:=xY (ops:=ops) hs.size h1 h2;omega
  ·have hjE:j∈E:=by
    have:=List.all_eq_true.1 hE j (List.mem_range.2 h1);simp only[Bool.or_eq_true] at this;rcases this with(h4|h4)|h4
    ·exfalso;have:=List.mem_of_elem_eq_true h4;simp only[List.mem_append] at this;rcases this with(h5|h5)|h5;·have:=hs.dl j h5;rw[mA h2] at this;cases this
     ·exact hq (.inl h5)
     ·exact hq (.inr h5)
    ·exact List.mem_of_elem_eq_true h4
    ·exfalso;simp only[Bool.not_eq_true'] at h4;have:((kU ops j).all λ k=>(Dl++Dp++Dq).elem k)=true:=List.all_eq_true.2 λ k hk=>List.elem_eq_true_of_mem (by simp only[List.mem_append];rcases hs.cl k (h3 k hk) with h|h|h<;>simp[h])
     rw[h4] at this;cases this
   exact(h j hjE).step kV listed a w hs hj (by omega)
theorem fP.tw{pl pl':rA}{i:Nat}{L L':List Nat}(h:fP P n Q ks ops pl Dl Dp Dq S G i L):fP P n Q ks ops pl' Dl Dp Dq S G i L':=⟨h.step⟩
def jO(ops:Array Oper)(Dl Dp Dq:List Nat)(E:List Nat):Bool:=og ops Dl Dp Dq E&&Aj ops&&(E.any λ i=>!(Dl++Dp++Dq).elem i&&Nat.blt i ops.size)
theorem qV{i:Nat}(hc:jO ops Dl Dp Dq [i]=true)(h:fP P n Q ks ops pl Dl Dp Dq S G i LL):JR P n Q ks ops (.one i LL pl) Dl Dp Dq S G:=by simp only[jO,Bool.and_eq_true] at hc;exact⟨ot (pl':=pl) (LL:=LL) hc.1.1 hc.1.2 hc.2 λ j hj=>by simp only[List.mem_singleton] at hj;subst hj;exact h⟩
theorem yH{g:Nat}{v:Value}(h:look S g=v)(t:Nat):look ((g,v)::S) t=look S t:=by
 simp only[look];cases hb:Nat.beq g t with
 | true=>have:=eS hb;simp[<- this,h]
 | false=>rfl
theorem zn{g:Nat}{v:Value}(h:look S g=v):ev ((g,v)::S)=ev S:=by
 funext x;cases x with
 | tmp t=>exact yH h t
 | _=>rfl
theorem nL.same{g:Nat}{v:Value}(hg:look S g=v){i:Nat}(h:nL P ops S G i):nL P ops ((g,v)::S) G i:=by
 obtain⟨o,d,h1,h2,h3⟩:=h.ex;have hy:bL ops ((g,v)::S)=bL ops S:=by
  funext j;unfold bL;cases kF ops j with
  | none=>rfl
  | some t=>simp only[Option.map_some,yH hg]
 refine⟨o,d,h1,h2,?_⟩;rw[hy,yH hg];exact h3.imp (λ h=>⟨h.1,⟨λ w hw=>by rw[zn hg];exact h.2.run w hw⟩⟩) id
theorem Th.same{listed:Array Bool}{a:Act}{w:World}{g:Nat}{v:Value}(hg:look S g=v)(hv:v≠undef)(hs:Th P ops n Dl Dp Dq S G listed a w):Th P ops n Dl Dp Dq ((g,v)::S) G listed a w :=⟨hs.ok.same hg hv,hs.hG,hs.size,hs.defers,hs.tsize,hs.cl,hs.dl,λ t ht=>(hs.slot t ht).trans (yH hg t).symm,λ i hi hl=>(hs.pure i hi hl).same hg,λ i hi hl=>(hs.load i hi hl).same hg,hs.tidy,hs.dc⟩
theorem aB5{g:Nat}{t:Bool}(hg:look S g=.bool t)(h1:t=true->JR P n Q ks ops pl Dl Dp Dq ((g,.bool true)::S) G)(h2:t=false->JR P n Q ks ops pl Dl Dp Dq ((g,.bool false)::S) G):JR P n Q ks ops pl Dl Dp Dq S G:=⟨λ kV listed a w hs hf=>by
 cases t with
 | true=>exact(h1 rfl).run kV listed a w (hs.same hg (by simp[undef])) hf
 | false=>exact(h2 rfl).run kV listed a w (hs.same hg (by simp[undef])) hf⟩
theorem fD{o:Oper}{v:Value}(h:aM P S G o v):bG P S G o Unit (λ _=>v) (λ _=>G):=⟨λ w hw=>by rw[h.run w hw];exact⟨(),rfl,hw⟩⟩
theorem aCq{id:Nat}(pl:rA)(hm:P.follows .mixedOrders=true)(hG:∀w,G w->G w.drew)(h:JR P n Q ks ops pl [] [] [] S G):JK P n Q (.code (.region id ops true)::ks) S G:=⟨λ hS w hw=>by
 refine wp_region_any hm (h.run _ _ _ _ ⟨hS,hG w hw,by simp,rfl,by simp[eA],λ j hj=>?_,λ _ h=>(List.not_mem_nil h).elim,λ t _=>?_,λ _ h=>(List.not_mem_nil h).elim,λ _ h=>(List.not_mem_nil h).elim,λ i hi=>(hi.elim List.not_mem_nil List.not_mem_nil).elim,λ k hk=>by
  exfalso;rw[Array.getD_eq_getD_getElem?] at hk;cases hx:(Array.replicate ops.size false)[k]? with
  | none=>rw[hx] at hk;cases hk
  | some b=>rw[hx] at hk;have:=Array.getElem?_eq_some_iff.1 hx;obtain⟨_,hb⟩:=this;simp at hb;subst hb;cases hk⟩ ?_)
 ·exfalso;rw[Array.getD_eq_getD_getElem?] at hj;cases hx:(Array.replicate ops.size false)[j]? with
  | none=>rw[hx] at hj;cases hj
  | some b=>rw[hx] at hj;simp only[Option.getD_some] at hj;subst hj;rw[Array.getElem?_replicate] at hx;split at hx<;>simp at hx
 ·exact congrFun (jK (ds:=[]) hS) (.tmp t)
 ·exact Nat.le_trans (List.length_filter_le _ _) (by simp)⟩
theorem St.drew{w0 w:World}{M:List Nat}{H:List (Nat×Obj)}(h:St w0 M H w):St w0 M H w.drew:=⟨h.os,h.tape,h.output,h.size,h.lC,h.has,h.new,h.nodup⟩
end
end
end Go.Ct
