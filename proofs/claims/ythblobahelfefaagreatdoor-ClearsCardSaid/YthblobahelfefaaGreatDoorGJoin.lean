/- Merged. -/
import Derived.Test.YthblobahelfefaaGreatDoorAuto
import Derived.Test.YthblobahelfefaaGreatDoorGLst2
set_option linter.unusedSimpArgs false
set_option linter.unusedVariables false
namespace Go.Ct
open Go Go.RowKit
section
section
variable{P:Program}{n:Nat}{Q:Exit->Act->World->Prop}{ks:List CK}{ops:Array Oper}{pl pl':nP}{LL:List Nat}{Dl Dp Dq:List Nat}{S:List (Nat×Value)}{G:World->Prop}{w0:World}{M:List Nat}{H:List (Nat×Obj)}{A F:Fr}{O:List Ow}
inductive LS(P:Program)(n:Nat)(Q:Exit->Act->World->Prop)(ks:List CK)(ops:Array Oper)(Dl Dp Dq:List Nat)(S:List (Nat×Value))(G:World->Prop):nP->List Nat->Prop where
 | nil:LS P n Q ks ops Dl Dp Dq S G .nil []
 | cons {i:Nat} {L:List Nat} {pl q:nP} {E:List Nat} (h:gR P n Q ks ops pl Dl Dp Dq S G i L) (r:LS P n Q ks ops Dl Dp Dq S G q E):LS P n Q ks ops Dl Dp Dq S G (.two i L pl 0 [] q) (i::E)
variable{E:List Nat}{c:Code}{Y:Type}{H':List (Nat×Obj)}{O':List Ow}{w:World}
theorem LS.get{pl:nP}(h:LS P n Q ks ops Dl Dp Dq S G pl E):∀i∈E,gR P n Q ks ops .nil Dl Dp Dq S G i []:=by
 induction h with
 | nil=>exact λ _ h=>(List.not_mem_nil h).elim
 | cons h _ ih=>
  intro j hj;rcases List.mem_cons.1 hj with rfl|hj;·exact h.xv
  ·exact ih j hj
theorem nR{q:nP}(hc:lG ops Dl Dp Dq E=true)(h:LS P n Q ks ops Dl Dp Dq S G q E):JR P n Q ks ops q Dl Dp Dq S G:=by simp only[lG,Bool.and_eq_true] at hc;exact⟨qo (pl':=.nil) (LL:=[]) hc.1.1 hc.1.2 hc.2 h.get⟩
theorem o8{X:Type}(keys:List Nat)(K:X->List (Nat×Value))(GI:X->World->Prop)(hn:(keys.all λ k=>Nat.blt k n)=true)(hKn:∀x,((K x).all λ p=>Nat.blt p.1 n)=true)(h1:JK P n Q (.code c::.inv (lJ n keys K GI (λ _=>0) S 1)::ks) S G)(h2:∀x f,JK P n Q ks (K x++(kK keys f++S)) (GI x)):JK P n Q (.code c::ks) S G:=⟨λ hS w hw=>by
 have h:=h1.run hS w hw;simp only[runK] at h ⊢;intro b k cs;obtain⟨e,a₁,w₁,hq,harr⟩:=h b k cs;rw[Hb] at hq;refine⟨e,a₁,w₁,?_,harr⟩;cases e with
 | normal=>obtain⟨x',S1,_,rfl,_,hk',hp',hg'⟩:=hq;have:=(h2 x' (look S1)).run ((hS.kK hn).mB (hKn x')) w₁ hg';rw[<- V1 hp' hk'] at this;exact this
 | exit id=>exact hq
 | goto l=>exact hq
 | ret=>exact hq
 | panic ch=>exact hq
 | outgrown=>exact hq⟩
theorem aAn(keys:List Nat)(K:Y->List (Nat×Value))(I:Y->Prop)(Hc:Y->List (Nat×Obj))(Fc:Y->Fr)(Oc:Y->List Ow){H1:Y->List (Nat×Obj)}{F1:Y->Fr}{O1:Y->List Ow}(hn:(keys.all λ k=>Nat.blt k n)=true)(hKn:∀x,((K x).all λ p=>Nat.blt p.1 n)=true)(hH1:∀x,Hc x++H=H1 x)(hF1:∀x,Fc x++F=F1 x)(hO1:∀x,Oc x++O=O1 x)(h1:JK P n Q (.code c::.inv (lJ n keys K (λ x w=>I x/\SF w0 M (H1 x) A (F1 x) (O1 x) w) (λ _=>0) S 1)::ks) S (SF w0 M H A F O))(h2:∀x f,I x->JK P n Q ks (K x++(kK keys f++S)) (SF w0 M (H1 x) A (F1 x) (O1 x))):JK P n Q (.code c::ks) S (SF w0 M H A F O):=o8 keys K _ hn hKn h1 λ x f=>Tt λ h=>h2 x f h
theorem wK(keys:List Nat)(K:Y->List (Nat×Value))(I:Y->Prop)(H1:Y->List (Nat×Obj))(F1:Y->Fr)(O1:Y->List Ow)(hn:(keys.all λ k=>Nat.blt k n)=true)(hKn:∀x,((K x).all λ p=>Nat.blt p.1 n)=true)(h1:JK P n Q (.code c::.inv (lJ n keys K (λ x w=>I x/\SF w0 M (H1 x) A (F1 x) (O1 x) w) (λ _=>0) S 1)::ks) S (SF w0 M H A F O))(h2:∀x f,I x->JK P n Q ks (K x++(kK keys f++S)) (SF w0 M (H1 x) A (F1 x) (O1 x))):JK P n Q (.code c::ks) S (SF w0 M H A F O):=o8 keys K _ hn hKn h1 λ x f=>Tt λ h=>h2 x f h
theorem Xz(hH:H'.Perm H)(hO:O'.Perm O):(Ks H' O').Perm (Ks H O):=(hH.map _).append (List.Perm.flatMap_right _ hO)
theorem St.perm{w0:World}{H:List (Nat×Obj)}(h:St w0 M H w)(hs:H'.Perm H):St w0 M H' w:=⟨h.os,h.tape,h.output,h.size,h.eH,λ p hp=>h.has p (hs.mem_iff.1 hp),λ p hp=>h.new p (hs.mem_iff.1 hp),(hs.map _).nodup_iff.2 h.nodup⟩
theorem SF.perm{w:World}{H':List (Nat×Obj)}{O':List Ow}(h:SF w0 M H A F O w)(hH:H'.Perm H)(hO:O'.Perm O):SF w0 M H' A F O' w:=by have hs:=Xz hH hO;exact⟨h.st.perm hH,λ f hf=>⟨(h.old f hf).1,λ hc hm=>(h.old f hf).2 hc (hs.mem_iff.1 hm)⟩,λ f hf=>⟨(h.new f hf).1,λ hc=>⟨λ hm=>((h.new f hf).2 hc).1 (hs.mem_iff.1 hm),((h.new f hf).2 hc).2⟩⟩,λ o ho=>h.own o (hO.mem_iff.1 ho),hs.nodup_iff.2 h.dis⟩
end
end
end Go.Ct
namespace Go.Proofs.YthblobahelfefaaGreatDoor
open Go.Proofs.Tryz
open Go Go.RowKit Go.Ct
section
variable{n:Nat}{Q:Exit->Act->World->Prop}{ks:List CK}{S:List (Nat×Value)}{ops:Array Oper}{l ol:List Oper}{pl:nP}{LL:List Nat}{Dl Dp Dq:List Nat}
variable{w0:World}{M:List Nat}{H:List (Nat×Obj)}{A F:Fr}{O:List Ow}{G:World->Prop}{i d:Nat}{v:Value}{op:Op}{ty:TypeId}{pos:String}{af:Array Edge}{gd:Option (Nat×Bool)}{X:Type}{V:X->Value}{G':X->World->Prop}{j g:Nat}{want t:Bool}
theorem aBh(ho:fI ol i ⟨some d,op,ty,pos,af,gd⟩:=by exact jE)(hw:Region.wanted ⟨some d,op,ty,pos,af,gd⟩ (bN ⟨ol⟩ S)=true:=by exact rfl)(hq:aQ prog S G ⟨some d,op,ty,pos,af,gd⟩ X V G':=by first|exact cK λ _=>Yi rf|exact cK λ _=>N9 rf rfl)(hc:kV ⟨ol⟩ n Dl Dp Dq i (some d)=true:=by decide +kernel)(hL:((Ct.waiting ⟨ol⟩ Dq i).all λ j=>LL.elem j)=true:=by decide +kernel)(hfire:∀x,aS prog ⟨ol⟩ ((d,V x)::S) (G' x) LL:=by exact tH)(h:∀x,JR prog n Q ks ⟨ol⟩ pl (i::Dl) Dp Dq ((d,V x)::S) (G' x)):gR prog n Q ks ⟨ol⟩ pl Dl Dp Dq S G i LL:=qF ho hw hq hc hL hfire h
theorem Mh(ho:fI ol i ⟨some d,op,ty,pos,af,gd⟩:=by exact jE)(hw:Region.wanted ⟨some d,op,ty,pos,af,gd⟩ (bN ⟨ol⟩ S)=true:=by exact rfl)(hq:aQ prog S G ⟨some d,op,ty,pos,af,gd⟩ X V G':=by exact Fh)(hc:kV ⟨ol⟩ n Dl Dp Dq i (some d)=true:=by decide +kernel)(hL:((Ct.waiting ⟨ol⟩ Dq i).all λ j=>LL.elem j)=true:=by decide +kernel)(hfire:∀x,aS prog ⟨ol⟩ ((d,V x)::S) (G' x) LL:=by exact tH)(h:∀x,JR prog n Q ks ⟨ol⟩ pl (i::Dl) Dp Dq ((d,V x)::S) (G' x)):gR prog n Q ks ⟨ol⟩ pl Dl Dp Dq S G i LL:=qF ho hw hq hc hL hfire h
theorem rE(ho:fI ol i ⟨some d,op,ty,pos,af,gd⟩:=by exact jE)(hw:Region.wanted ⟨some d,op,ty,pos,af,gd⟩ (bN ⟨ol⟩ S)=true:=by exact rfl)(hq:aQ prog S G ⟨some d,op,ty,pos,af,gd⟩ X V G')(hc:kV ⟨ol⟩ n Dl Dp Dq i (some d)=true:=by decide +kernel)(hL:((Ct.waiting ⟨ol⟩ Dq i).all λ j=>LL.elem j)=true:=by decide +kernel)(hfire:∀x,aS prog ⟨ol⟩ ((d,V x)::S) (G' x) LL:=by exact tH)(h:∀x,JR prog n Q ks ⟨ol⟩ pl (i::Dl) Dp Dq ((d,V x)::S) (G' x)):gR prog n Q ks ⟨ol⟩ pl Dl Dp Dq S G i LL:=qF ho hw hq hc hL hfire h
theorem Ch{φ:X->Prop}(ho:fI ol i ⟨some d,op,ty,pos,af,gd⟩:=by exact jE)(hw:Region.wanted ⟨some d,op,ty,pos,af,gd⟩ (bN ⟨ol⟩ S)=true:=by exact rfl)(hq:aQ prog S G ⟨some d,op,ty,pos,af,gd⟩ X V (λ x w=>φ x/\G' x w))(hc:kV ⟨ol⟩ n Dl Dp Dq i (some d)=true:=by decide +kernel)(hL:((Ct.waiting ⟨ol⟩ Dq i).all λ j=>LL.elem j)=true:=by decide +kernel)(hfire:∀x,aS prog ⟨ol⟩ ((d,V x)::S) (λ w=>φ x/\G' x w) LL:=by exact tH)(h:∀x,φ x->JR prog n Q ks ⟨ol⟩ pl (i::Dl) Dp Dq ((d,V x)::S) (G' x)):gR prog n Q ks ⟨ol⟩ pl Dl Dp Dq S G i LL:=qF ho hw hq hc hL hfire λ x=>iV (h x)
end
end Go.Proofs.YthblobahelfefaaGreatDoor
namespace Go.Ct
open Go Go.RowKit
section
section
variable{α:Type}
inductive By:List α->Nat->α->Prop where
 | head {a:α} {l:List α}:By (a::l) 0 a
 | tail {a b:α} {l:List α} {i:Nat}:By l i b->By (a::l) (i+1) b
def qK:List α->Nat->List α
 | [],_=>[]
 | _::r,0=>r
 | p::r,i+1=>p::qK r i
def sL:List α->Nat->α->List α
 | l,0,a=>a::l
 | p::r,i+1,a=>p::sL r i a
 | [],_+1,a=>[a]
inductive mT:List α->List Nat->List α->List α->Prop where
 | nil {l:List α}:mT l [] [] l
 | cons {l es r:List α} {i:Nat} {a:α} {js:List Nat}:By l i a->mT (qK l i) js es r->mT l (i::js) (a::es) r
def jP:List Nat->List α->List α->List α
 | i::js,a::es,r=>sL (jP js es r) i a
 | _,_,r=>r
theorem By.perm{l:List α}{i:Nat}{a:α}(h:By l i a):l.Perm (a::qK l i):=by
 induction h with
 | head=>exact List.Perm.refl _
 | tail _ ih=>exact(ih.cons _).trans (List.Perm.swap _ _ _)
theorem Kq(a:α):∀(l:List α) (i:Nat),(sL l i a).Perm (a::l)
 | l,0=>by cases l<;>exact List.Perm.refl _
 | [],_+1=>List.Perm.refl _
 | p::r,i+1=>((Kq a r i).cons p).trans (List.Perm.swap _ _ _)
theorem mT.perm{l es r:List α}{js:List Nat}(h:mT l js es r):l.Perm (es++r):=by
 induction h with
 | nil=>exact List.Perm.refl _
 | cons h _ ih=>exact h.perm.trans (ih.cons _)
theorem B5:∀(js:List Nat) (es r:List α),js.length=es.length->(jP js es r).Perm (es++r)
 | [],[],_,_=>List.Perm.refl _
 | i::js,a::es,r,h=>(Kq a _ i).trans ((B5 js es r (by simpa using h)).cons a)
 | [],_::_,_,h=>by simp at h
 | _::_,[],_,h=>by simp at h
end
section
variable{P:Program}{S:List (Nat×Value)}{w0 w w':World}{M:List Nat}{H H' hs:List (Nat×Obj)}{A F:Fr}{O O' os:List Ow}{is js:List Nat}
def Has(A F:Fr)(O:List Ow)(f:Option Addr×List Value):Prop:=f.2=[]∨f∈A∨f∈F∨∃o∈O,o.p=f.1/\o.cs=f.2
inductive bL(A F:Fr)(O:List Ow):Fr->Prop where
 | nil:bL A F O []
 | cons {f:Option Addr×List Value} {r:Fr} (h:Has A F O f) (hr:bL A F O r):bL A F O (f::r)
 | of {A0:Fr} (h:∀f∈A0,Has A F O f):bL A F O A0
theorem bL.get{A0:Fr}(h:bL A F O A0):∀f∈A0,Has A F O f:=by
 induction h with
 | nil=>intro f hf;exact(List.not_mem_nil hf).elim
 | cons h _ ih=>
  intro f hf;rcases List.mem_cons.1 hf with rfl|hf;·exact h
  ·exact ih f hf
 | of h=>exact h
theorem lQ.dS{a:Option Addr}{cs:List Value}:∀{F:Fr},(a,cs)∈F->lQ F a cs
 | [],h=>(List.not_mem_nil h).elim
 | (b,d)::F,h=>by
  rcases List.mem_cons.1 h with h|h;·cases h;exact .head
  ·exact .tail (lQ.dS h)
theorem aT.bA{F:Fr}:∀{F':Fr},(∀f∈F',f∈F)->aT F F'
 | [],_=>.nil
 | (a,cs)::F',h=>.cons (lQ.dS (h _ (List.mem_cons_self ..))) (aT.bA λ f hf=>h f (List.mem_cons_of_mem _ hf))
theorem SF.qT(h:SF w0 M H A F O w)(hH:mT H is hs H')(hO:mT O js os O'){A0:Fr}(hA:bL A F O' A0):SF w (Ks hs os) hs A0 [] os w:=by
 have pH:=hH.perm;have pO:=hO.perm;have h1:=h.perm pH.symm pO.symm;have hnd:=(Xz pH.symm pO.symm).nodup_iff.2 h.dis
 have sub:(Ks hs os).Sublist (Ks (hs++H') (os++O')):=by unfold Ks;rw[List.map_append,List.flatMap_append];exact(List.sublist_append_left _ _).append (List.sublist_append_left _ _)
 have nd1:(Ks hs os).Nodup:=hnd.sublist sub;have kperm:(Ks (hs++H') (os++O')).Perm (Ks hs os++Ks H' O'):=by unfold Ks;rw[List.map_append,List.flatMap_append];simp only[List.append_assoc];refine List.Perm.append_left _ ?_;rw[<- List.append_assoc,<- List.append_assoc];exact List.Perm.append_right _ List.perm_append_comm
 have disj:∀b∈Ks hs os,b∉Ks H' O':=λ b hb hm=>(List.nodup_append.1 (kperm.nodup_iff.1 hnd)).2.2 b hb b hm rfl;refine⟨⟨rfl,rfl,rfl,Nat.le_refl _,λ _ _ _=>rfl,λ p hp=>h1.st.has p (List.mem_append_left _ hp),λ p hp=>.inl (dX.2 (.inl ⟨p,hp,rfl⟩)),(List.nodup_append.1 nd1).1⟩,λ f hf=>?_,λ _ h=>(List.not_mem_nil h).elim,λ o ho=>⟨(h1.own o (List.mem_append_left _ ho)).1,λ b hb=>.inr (dX.2 (.inr ⟨o,ho,hb⟩))⟩,nd1⟩;have hg:=hA.get f hf;refine⟨?_,λ hc hm=>?_⟩
 ·rcases hg with h0|h2|h2|⟨o,ho,h2,h3⟩;·rw[h0];exact Cl.nil _ _
  ·exact(h.old f h2).1
  ·exact(h.new f h2).1
  ·rw[<- h2,<- h3];exact(h1.own o (List.mem_append_right _ ho)).1.cl
 ·rcases hg with h0|h2|h2|⟨o,ho,h2,h3⟩;·exact hc h0
  ·exact(h1.old f h2).2 hc (sub.subset hm)
  ·exact((h1.new f h2).2 hc).1 (sub.subset hm)
  ·have hok:=(h1.own o (List.mem_append_right _ ho)).1;have hb:=hok.Tj (by rw[h3];exact hc);exact disj _ hm (dX.2 (.inr ⟨o,ho,by rw[hb,h2];exact List.mem_singleton.2 rfl⟩))
theorem SF.A8(h:SF w0 M H A F O w)(hH:mT H is hs H')(hO:mT O js os O'){hs' Hc:List (Nat×Obj)}{os' Oc:List Ow}{Fc:Fr}
  (hc:SF w (Ks hs os) (hs'++Hc) [] Fc (os'++Oc) w') (h1:is.length=hs'.length) (h2:js.length=os'.length) :
  SF w0 M (Hc++jP is hs' H') A (Fc++F) (Oc++jP js os' O') w':=by
 have pH:=hH.perm;have pO:=hO.perm;have hp:=h.perm pH.symm pO.symm;have qH:=B5 is hs' H' h1;have qO:=B5 js os' O' h2
 have kperm:∀(a c:List (Nat×Obj)) (b d:List Ow),(Ks (a++c) (b++d)).Perm (Ks a b++Ks c d):=λ a c b d=>by unfold Ks;rw[List.map_append,List.flatMap_append];simp only[List.append_assoc];refine List.Perm.append_left _ ?_;rw[<- List.append_assoc,<- List.append_assoc];exact List.Perm.append_right _ List.perm_append_comm
 have nd0:=(kperm hs H' os O').nodup_iff.1 hp.dis;have disj:∀b∈Ks hs os,b∉Ks H' O':=λ b hb hm=>(List.nodup_append.1 nd0).2.2 b hb b hm rfl;have sub:∀b∈Ks hs' os',b∈Ks (hs'++Hc) (os'++Oc):=λ b hb=>(kperm hs' Hc os' Oc).mem_iff.2 (List.mem_append_left _ hb)
 have nd1:(Ks (hs'++H') (os'++O')).Nodup:=by
  rw[(kperm hs' H' os' O').nodup_iff];refine List.nodup_append.2 ⟨(List.nodup_append.1 ((kperm hs' Hc os' Oc).nodup_iff.1 hc.dis)).1,(List.nodup_append.1 nd0).2.1,λ a ha b hb e=>?_⟩;subst e;rcases hc.Uc a (sub a ha) with h3|h3
  ·have:=hp.lt a ((kperm hs H' os O').mem_iff.2 (List.mem_append_right _ hb));omega
  ·exact disj a h3 hb
 have r:=hp.Wo (D:=Ks hs os) (Hm:=hs') (Hc:=Hc) (H1:=hs'++H') (Fc:=Fc) (Om:=os') (Oc:=Oc) (O1:=os'++O') hc (λ b hb=>(kperm hs H' os O').mem_iff.2 (List.mem_append_left _ hb))
  (λ p hpm=>by
   rcases List.mem_append.1 hpm with h3|h3
   ·exact .inl h3
   ·exact .inr ⟨List.mem_append_right _ h3,λ hm=>disj _ hm (dX.2 (.inl ⟨p,h3,rfl⟩))⟩)
  (λ o ho=>by
   rcases List.mem_append.1 ho with h3|h3
   ·exact .inl h3
   ·exact .inr ⟨List.mem_append_right _ h3,λ b hb hm=>disj _ hm (dX.2 (.inr ⟨o,h3,hb⟩))⟩)
  nd1
 exact r.perm (List.Perm.append_left _ qH) (List.Perm.append_left _ qO)
theorem SF.db(h:SF w0 M H A F O w){F':Fr}(hF:∀f∈F',f.2=[]∨f∈F):SF w0 M H A F' O w:=⟨h.st,h.old,λ f hf=>by
 rcases hF f hf with h0|h1;·exact⟨by rw[h0];exact Cl.nil _ _,λ hc=>absurd h0 hc⟩
 ·exact h.new f h1,h.own,h.dis⟩
theorem SF.aDD(h:SF w0 M H A F O w)(T1:TypeId)(s1:Nat)(T2:TypeId)(s2:Nat):SF w0 M H A F (O++[⟨none,[],0,T1,s1⟩,⟨none,[],0,T2,s2⟩]) w:=((h.gN T2 s2).gN T1 s1).perm (List.Perm.refl _) List.perm_append_comm
theorem SF.toEnd{o1 o2:Ow}(h:SF w0 M H A F (o1::o2::O) w):SF w0 M H A F (O++[o1,o2]) w:=h.perm (List.Perm.refl _) List.perm_append_comm
theorem aT.all{F:Fr}:aT F F:=aT.bA λ _ h=>h
theorem SF.v4{w:World}{H':List (Nat×Obj)}{O':List Ow}(h:SF w0 M H A F O w)(hH:H'.Sublist H:=by repeat (first|exact List.nil_sublist _|apply List.Sublist.cons_cons|apply List.Sublist.cons))(hO:O'.Sublist O:=by repeat (first|exact List.nil_sublist _|apply List.Sublist.cons_cons|apply List.Sublist.cons)):SF w0 M H' [] F O' w:=h.eP hH aT.all hO
theorem SF.v6{w:World}{H':List (Nat×Obj)}{O':List Ow}(h:SF w0 M H A F O w)(hH:H'.Sublist H:=by repeat (first|exact List.Sublist.refl _|exact List.nil_sublist _|apply List.Sublist.cons))(hO:O'.Sublist O:=by repeat (first|exact List.Sublist.refl _|exact List.nil_sublist _|apply List.Sublist.cons)):SF w0 M H' A F O' w:=h.back hH aT.all hO
end
end
section
section
variable{P:Program}{S:List (Nat×Value)}{w0 w w':World}{M:List Nat}{H:List (Nat×Obj)}{A F:Fr}{O:List Ow}{d:Nat}{ty t:TypeId}{pos:String}{af:Array Edge}{gd:Option (Nat×Bool)}{x y:Operand}{v:Value}
theorem Pj{a:Option Addr}{cs vs:List Value}{q k:Nat}(hx:ev S x=.pointer (some ⟨cI a,dH a+q,none⟩))(ht:gX P t k=true)(hf:pB A F O a cs)(hv:(cs.drop q).take k=vs)(hl:vs.length=k) :
  aH P S (SF w0 M H A F O) ⟨some d,.load t x,ty,pos,af,gd⟩ (.agg ⟨vs⟩):=⟨λ w hw=>by
 have hcl:=hw.cl hf;obtain⟨dd,hu,hm,hi⟩:=gB ht;have hagg:(isAgg t).run P w=.ok true w:=by unfold isAgg;rw[Sem.run_bind,run_underlying hu w];cases dd<;>simp_all
 have hc:(loadCells ⟨cI a,dH a+q,none⟩ k).run P w=.ok ⟨vs⟩ w:=by
  have:=run_loadCells_list (P:=P) w ⟨cI a,dH a+q,none⟩ vs (λ j z hz=>by
   subst hv;have hj:=(List.getElem?_eq_some_iff.1 hz).1
   have h2:cs[q+j]?=some z:=by rw[List.getElem?_take_of_lt (by simp at hj;omega),List.getElem?_drop] at hz;exact hz
   rw[Addr.add_lit,show dH a+q+j=dH a+(q+j) by omega];exact(hcl.at_ _ _ h2).2)
  rw[hl] at this;simpa using this
 cases hq':P.info? t with
 | none=>rw[hq'] at hi;simp at hi
 | some i=>
  have hs:i.size=k:=by rw[hq'] at hi;simpa using hi
  simp[execOp,hx,Instr.loadAt,Instr.sureAddr,loadVar,hagg,Go.sizeOf,typeInfo,hq',hs,hc]⟩
theorem eY{a:Option Addr}{cs:List Value}{q:Nat}{v:Value}(hx:ev S x=.pointer (some ⟨cI a,dH a+q,none⟩))(ht:one P t=true)(hf:pB A F O a cs)(hq:cs[q]?=some v) :
  aH P S (SF w0 M H A F O) ⟨some d,.load t x,ty,pos,af,gd⟩ v:=zU hx ht (λ w hw=>hw.cl hf) hq
end
end
section
section
variable{α:Type}{f:α->List Value}{sz:Nat}
def dE(f:α->List Value)(l:List α):List Value:=l.flatMap f
variable{k j:Nat}
theorem iP(hf:∀a,(f a).length=sz):∀l:List α,(dE f l).length=l.length*sz
 | []=>by simp[dE]
 | a::r=>by have:=iP hf r;simp only[dE,List.flatMap_cons,List.length_append,List.length_cons,Nat.succ_mul,hf] at this ⊢;omega
theorem Hd(l r:List α):dE f (l++r)=dE f l++dE f r:=by simp[dE]
theorem uO(hf:∀a,(f a).length=sz){l:List α}{a:α}(hk:l[k]?=some a):∃u v,dE f l=u++(f a++v)/\u.length=sz*k/\∀a',dE f (l.set k a')=u++(f a'++v):=by
 obtain⟨h,rfl⟩:=List.getElem?_eq_some_iff.1 hk;refine⟨dE f (l.take k),dE f (l.drop (k+1)),?_,?_,λ a'=>?_⟩
 ·have e:l=l.take k++l[k]::l.drop (k+1):=by rw[<- List.drop_eq_getElem_cons h,List.take_append_drop]
  unfold dE;conv=>lhs;rw[e]
  rw[List.flatMap_append,List.flatMap_cons]
 ·rw[iP hf,List.length_take,Nat.min_eq_left (by omega),Nat.mul_comm]
 ·rw[List.set_eq_take_append_cons_drop,if_pos h];simp[dE]
theorem Xd(hf:∀a,(f a).length=sz){l:List α}{a:α}(hk:l[k]?=some a)(hj:j<sz):(dE f l)[sz*k+j]?=(f a)[j]?:=by obtain⟨u,v,e,hu,_⟩:=uO hf hk;rw[e,List.getElem?_append_right (by omega),hu,List.getElem?_append_left (by rw[hf];omega)];congr 1;omega
theorem Z2(hf:∀a,(f a).length=sz){l:List α}{n:Nat}{a:α}(hk:l[k]?=some a)(hj:j+n<=sz):((dE f l).drop (sz*k+j)).take n=((f a).drop j).take n:=by obtain⟨u,v,e,hu,_⟩:=uO hf hk;have hl:=hf a;rw[e,<- hu,<- List.drop_drop,List.drop_left,List.drop_append_of_le_length (by omega),List.take_append_of_le_length (by simp;omega)]
theorem uw(hf:∀a,(f a).length=sz){l:List α}{a a':α}{v:Value}(hk:l[k]?=some a)(hj:j<sz)(he:(f a).set j v=f a'):(dE f l).set (sz*k+j) v=dE f (l.set k a'):=by obtain⟨u,r,e,hu,hs⟩:=uO hf hk;have hl:=hf a;rw[e,hs,<- he,List.set_append_right _ _ (by omega),List.set_append_left _ _ (by omega),hu];congr 3;omega
theorem gr(hf:∀a,(f a).length=sz){l:List α}{a a':α}(hk:l[k]?=some a):(dE f l).take (sz*k)++f a'++(dE f l).drop (sz*k+(f a').length)=dE f (l.set k a'):=by obtain⟨u,r,e,hu,hs⟩:=uO hf hk;have hl:=hf a;rw[e,hs,hf a',<- hu,List.take_left,<- hl,show u.length+(f a).length=(u++f a).length by simp,<- List.append_assoc u (f a) r,List.drop_left,List.append_assoc]
end
section
variable{α:Type}{f:α->List Value}{sz:Nat}{l:List α}{v0 v1:α}
variable{w0 w w':World}{M:List Nat}{H:List (Nat×Obj)}{A F:Fr}{O:List Ow}
variable{P:Program}{S:List (Nat×Value)}{G:World->Prop}{d:Nat}{ty:TypeId}{pos:String}{af:Array Edge}{gd:Option (Nat×Bool)}{x y:Operand}{t t2 e:TypeId}{p a:Option Addr}{i j m k c c2:Nat}{v:Value}
theorem cR(hf:∀a,(f a).length=sz)(h0:0<sz){kk:IntKind}(hx:ev S x=.slice a m c)(hy:ev S y=.int kk ((k:Nat):Int))(ht:P.underlying t=some (.slice e))(hs:gX P e sz=true)(hl:pB A F O a (dE f l))(h1:k<m)(h2:k<l.length) :
  aH P S (SF w0 M H A F O) ⟨some d,.indexAddr t x y,ty,pos,af,gd⟩ (.pointer (some ⟨cI a,dH a+sz*k,none⟩)):=⟨λ w hw=>by
 obtain⟨_,_,_,hsz⟩:=gB hs;have ha:a=some ⟨cI a,dH a,none⟩:=(hw.cl hl).ptr (by rw[iP hf];exact Nat.mul_pos (by omega) h0);have:=wI (P:=P) (a:=a) (m:=m) (c:=c) (k:=kk) ht hsz ha (i:=(k:Int)) (by omega) (by omega) w;simp only[Int.toNat_natCast,Nat.mul_comm k sz] at this
 simp[execOp,hx,hy,this]⟩
theorem dM(hf:∀a,(f a).length=sz)(hx:ev S x=.pointer (some ⟨cI a,dH a+sz*k+j,none⟩))(ht:one P t=true)(hl:pB A F O a (dE f l))(hk:l[k]?=some v0)(hj:(f v0)[j]?=some v) :
  aH P S (SF w0 M H A F O) ⟨some d,.load t x,ty,pos,af,gd⟩ v :=
 eY (q:=sz*k+j) (by rw[hx,Nat.add_assoc]) ht hl (by rw[Xd hf hk (by have:=(List.getElem?_eq_some_iff.1 hj).1;rw[hf] at this;exact this)];exact hj)
theorem Q0(hf:∀a,(f a).length=sz)(hx:ev S x=.pointer (some ⟨cI a,dH a+sz*k,none⟩))(ht:one P t=true)(hl:pB A F O a (dE f l))(hk:l[k]?=some v0)(hj:(f v0)[0]?=some v) :
  aH P S (SF w0 M H A F O) ⟨some d,.load t x,ty,pos,af,gd⟩ v:=dM (j:=0) hf (by rw[hx];rfl) ht hl hk hj
theorem fJ(hf:∀a,(f a).length=sz)(hx:ev S x=.pointer (some ⟨cI a,dH a+sz*k,none⟩))(ht:gX P t sz=true)(hl:pB A F O a (dE f l))(hk:l[k]?=some v0) :
  aH P S (SF w0 M H A F O) ⟨some d,.load t x,ty,pos,af,gd⟩ (.agg ⟨f v0⟩) :=
 Pj (q:=sz*k) (k:=sz) hx ht hl (by have:=Z2 hf (n:=sz) (j:=0) hk (by omega);rw[Nat.add_zero] at this;rw[this,List.drop_zero];exact List.take_of_length_le (by rw[hf];exact Nat.le_refl _)) (hf _)
theorem qV(hf:∀a,(f a).length=sz)(hx:ev S x=.pointer (some ⟨cI p,dH p+sz*k+j,none⟩))(hy:ev S y=v)(hv:v.oneCell'=true)(ht:one P t=true)(ho:mN O i p (dE f l) c e sz)(hk:l[k]?=some v0)(hj:j<sz)(he:(f v0).set j v=f v1) :
  aQ P S (SF w0 M H A F O) ⟨none,.store t x y,ty,pos,af,gd⟩ Unit (λ _=>undef) (λ _=>SF w0 M H A F (eL O i ⟨p,dE f (l.set k v1),c,e,sz⟩)):=by
 rw[<- uw hf hk hj he]
 exact uD (q:=sz*k+j) (by rw[hx,Nat.add_assoc]) hy hv ht ho (by
  have h:=(List.getElem?_eq_some_iff.1 hk).1;rw[iP hf];have:(k+1)*sz<=l.length*sz:=Nat.mul_le_mul_right _ h;rw[Nat.succ_mul,Nat.mul_comm] at this
  omega)
theorem Zt(hf:∀a,(f a).length=sz)(hx:ev S x=.pointer (some ⟨cI p,dH p+sz*k,none⟩))(hy:ev S y=v)(hv:v.oneCell'=true)(ht:one P t=true)(ho:mN O i p (dE f l) c e sz)(hk:l[k]?=some v0)(hj:0<sz)(he:(f v0).set 0 v=f v1) :
  aQ P S (SF w0 M H A F O) ⟨none,.store t x y,ty,pos,af,gd⟩ Unit (λ _=>undef) (λ _=>SF w0 M H A F (eL O i ⟨p,dE f (l.set k v1),c,e,sz⟩)):=qV (j:=0) hf (by rw[hx];rfl) hy hv ht ho hk hj he
theorem wV(hf:∀a,(f a).length=sz)(hx:ev S x=.pointer (some ⟨cI p,dH p+sz*k,none⟩))(hy:ev S y=.agg ⟨f v1⟩)(h1:(f v1).all (·.oneCell')=true)(ht:gX P t sz=true)(ho:mN O i p (dE f l) c e sz)(hk:l[k]?=some v0)(h0:0<sz) :
  aQ P S (SF w0 M H A F O) ⟨none,.store t x y,ty,pos,af,gd⟩ Unit (λ _=>undef) (λ _=>SF w0 M H A F (eL O i ⟨p,dE f (l.set k v1),c,e,sz⟩)):=by
 rw[<- gr hf hk]
 exact Dm (q:=sz*k) hx hy h1 (by rw[hf];exact ht) ho (by
  have h:=(List.getElem?_eq_some_iff.1 hk).1;rw[iP hf,hf];have:(k+1)*sz<=l.length*sz:=Nat.mul_le_mul_right _ h;rw[Nat.succ_mul,Nat.mul_comm] at this
  omega) (by rw[hf];exact h0)
theorem wP{zc:List Value}(hf:∀a,(f a).length=sz)(h0:0<sz)(h1:(f v1).all (·.oneCell')=true)(hx:ev S x=.slice p m c)(hy:ev S y=.slice a 1 c2)(ho:mN O i p (dE f l) c e sz)(hm:l.length=m)(hl:pB A F O a (f v1))(he:cS P t e zc)(hz:zc.length=sz)(ht2:P.underlying t2=some (.slice e))(hb:m+1<=549755813888) :
  aQ P S (SF w0 M H A F O) ⟨some d,.call {callee:=.builtin .append,args := #[x,y],argTypes := #[t,t2]},ty,pos,af,gd⟩ (Option Addr×Nat) (λ q=>.slice q.1 (m+1) q.2)
   (λ q w=>m+1<=q.2/\SF w0 M H A F (eL O i ⟨q.1,dE f (l++[v1]),q.2,e,sz⟩) w):=by rw[Hd,show dE f [v1]=f v1 by simp[dE]];exact fS hx hy ho (by rw[iP hf,hm]) hl (by rw[hf,Nat.one_mul]) h1 he hz h0 ht2 hb
end
end
end Go.Ct
namespace Go.Proofs.YthblobahelfefaaGreatDoor
open Go.Proofs.Tryz
section
open Go Go.RowKit Go.Ct
abbrev mO(L:List dJ)(cs:List Int)(gen acc:Int)(pn:Option Addr)(cn:Nat)(pc:Option Addr)(cc:Nat):Obj:=.cells ⟨[.slice pn L.length cn,.slice pc cs.length cc,.int .i64 gen,.int .i64 acc]⟩ 0 (0,0)
abbrev aO(L:List dJ)(cs:List Int)(gen acc:Int)(pn:Option Addr)(cn:Nat)(pc:Option Addr)(cc:Nat):Obj:=.cells ⟨[.slice pn L.length cn,.slice pc cs.length cc,.int .i64 gen,.int .i64 acc]⟩ 124 (0,0)
abbrev mW(L:List dJ)(cs:List Int)(pn:Option Addr)(cn:Nat)(pc:Option Addr)(cc:Nat):List Ow:=[⟨pn,Qr L,cn,194,14⟩,⟨pc,aN cs,cc,69,1⟩]
theorem vK{w0 w:World}{D:List Nat}{b:Nat}{L:List dJ}{cs:List Int}{gen acc:Int}{pn pc:Option Addr}{cn cc:Nat}{A F:Fr}(h:SF w0 D [(b,aO L cs gen acc pn cn pc cc)] A F (mW L cs pn cn pc cc) w) :
  SF w0 D [(b,.cells ⟨[.slice pn L.length cn,.slice pc cs.length cc,.int .i64 gen,.int .i64 acc]⟩ 124 (0,0))] A F [⟨pn,Qr L,cn,194,14⟩,⟨pc,aN cs,cc,69,1⟩] w:=h
variable{S:List (Nat×Value)}{w0 w:World}{M:List Nat}{H:List (Nat×Obj)}{A F:Fr}{O:List Ow}{ty:TypeId}{pos:String}{af:Array Edge}{gd:Option (Nat×Bool)}{X:Type}{V:X->Value}
theorem cM{φ:X->Prop}{hs H':List (Nat×Obj)}{os O':List Ow}{hs' H1:X->List (Nat×Obj)}{os' O1:X->List Ow}{Fc F1:X->Fr}{A0:Fr}{is js:List Nat}{f:FuncId}{xs:List Operand}{at_:Array TypeId}{vs:List Value}{dst:Option Nat}
  (ha:lX S xs=vs:=by(repeat (first|exact bK _|(apply aZ;focus ((conv=>{lhs;whnf});try exact rfl))));first|done|fail) (hp:plain prog f=true:=by kernel_rfl)
  (hc:∀w,SF w (Ks hs os) hs A0 [] os w->Calls prog f ⟨vs⟩ w λ e w'=>∃x,e=.returned (V x)/\φ x/\SF w (Ks hs os) (hs' x) [] (Fc x) (os' x) w')
  (hH:mT H is hs H':=by(repeat (first|exact mT.nil|(apply mT.cons;(focus ((repeat (first|exact By.head|apply By.tail));done));simp only[qK])));first|done|fail)
  (hO:mT O js os O':=by(repeat (first|exact mT.nil|(apply mT.cons;(focus ((repeat (first|exact By.head|apply By.tail));done));simp only[qK])));first|done|fail)
  (hA:bL A F O' A0:=by(repeat (first|exact bL.of (λ _ h=>Or.inr (Or.inl h))|exact bL.nil|(refine bL.cons (by first|exact Or.inl rfl|exact Or.inr (Or.inr (Or.inl (by simp)))|exact Or.inr (Or.inl (by simp))|exact Or.inr (Or.inr (Or.inr (by simp)))) ?_)));first|done|fail)
  (hl1:∀x,is.length=(hs' x).length:=by intro x;exact rfl) (hl2:∀x,js.length=(os' x).length:=by intro x;exact rfl)
  (hH1:∀x,jP is (hs' x) H'=H1 x:=by intro x;first|(simp only[jP,sL];exact rfl)|exact rfl) (hF1:∀x,Fc x++F=F1 x:=by intro x;first|(simp only[List.nil_append,List.cons_append];exact rfl)|exact rfl) (hO1:∀x,jP js (os' x) O'=O1 x:=by intro x;simp only[jP,sL,mW];exact rfl) :
  aQ prog S (SF w0 M H A F O) ⟨dst,.call {callee:=.value (.func f),args:=⟨xs⟩,argTypes:=at_},ty,pos,af,gd⟩ X V (λ x w=>φ x/\SF w0 M (H1 x) A (F1 x) (O1 x) w) :=
 gD (lZ hp ha) λ w hw=>(hc w (hw.qT hH hO hA)).mono λ _ _ ⟨x,he,hx,hs⟩=>⟨x,he,hx,by have:=hw.A8 (hs':=hs' x) (Hc:=[]) (os':=os' x) (Oc:=[]) hH hO (by simpa using hs) (hl1 x) (hl2 x);rw[<- hH1 x,<- hF1 x,<- hO1 x];simpa using this⟩
end
section
open Go.RowKit Go.Ct
variable{w:World}{D:List Nat}{b:Nat}{L:List dJ}{cs:List Int}{gen acc:Int}{pn pc:Option Addr}{cn cc:Nat}{A:Fr}
theorem rO(v:Int)(hs:SF w D [(b,aO L cs gen acc pn cn pc cc)] A [] (mW L cs pn cn pc cc) w)(hl:cs.length<=274877906944) :
  Calls prog 336 #[.pointer (some ⟨b,0,none⟩),.int .i64 v] w λ e w'=>∃q:Option Addr×Nat,e=.returned (.int .i64 ((cs.length+1:Nat):Int))/\True /\
   SF w D [(b,aO L (cs++[v]) gen acc pn cn q.1 q.2)] [] [] (mW L (cs++[v]) pn cn q.1 q.2) w':=by refine enter func336 ntmps336 rfl rfl (vK hs) ?_;simp only[bY];refine cC ?_;refine lV ?_;refine cA ?_;refine J3 ?_;refine aD ?_;refine sP (λ x11=>?_);(refine Iw (λ x12=>?_);try (refine eF (λ h12=>?_)));refine O9 ?_;refine zG ?_;refine cZ ?_;refine J1 ?_;refine aP results336 (λ w hw=>?_);exact⟨x12,rfl,trivial,by simpa[aO,mW] using hw.eP (F':=[])⟩
end
end Go.Proofs.YthblobahelfefaaGreatDoor
namespace Go.Ct
section
def aL(cs:List Int)(c:Int):Int:=if 1<=c/\c<=cs.length then cs.getD (c-1).toNat 0 else 0
def xU(cs:List Int)(c old:Int):Prop:=1<=c/\c<=cs.length/\cs.getD (c-1).toNat 0=old
def gG(cs:List Int)(c old new:Int):List Int:=if 1<=c/\c<=cs.length/\cs.getD (c-1).toNat 0=old then cs.set (c-1).toNat new else cs
def up(i:Int):Int:=Go.IntKind.i64.wrap (i+1)
variable{cs:List Int}{c old new:Int}{k:Nat}
theorem jH(h:¬(1<=c/\c<=cs.length)):aL cs c=0:=if_neg h
theorem mC(h:k<cs.length):aL cs ((k+1:Nat):Int)=cs.getD k 0:=by unfold aL;rw[if_pos (by omega),show(((k+1:Nat):Int)-1).toNat=k by omega]
theorem Of(h:¬(1<=c/\c<=cs.length/\cs.getD (c-1).toNat 0=old)):gG cs c old new=cs:=if_neg h
theorem y5(h:k<cs.length)(ho:cs.getD k 0=old):gG cs ((k+1:Nat):Int) old new=cs.set k new:=by
 have e:(((k+1:Nat):Int)-1).toNat=k:=by omega
 unfold gG;rw[e,if_pos ⟨by omega,by omega,ho⟩]
theorem aB1(h:c<1):(false=true↔xU cs c old):=⟨(λ h=>nomatch h),λ h2=>absurd h2.1 (by omega)⟩
theorem yl(h:c<1):gG cs c old new=cs:=Of (by omega)
theorem aCv(h:(cs.length:Int)<c):(false=true↔xU cs c old):=⟨(λ h=>nomatch h),λ h2=>absurd h2.2.1 (by omega)⟩
theorem aAP(h:(cs.length:Int)<c):gG cs c old new=cs:=Of (by omega)
theorem aDP(h:cs.getD k 0≠old):(false=true↔xU cs ((k+1:Nat):Int) old):=⟨(λ h=>nomatch h),λ h2=>absurd E1f h⟩
theorem aAU(h:cs.getD k 0≠old):gG cs ((k+1:Nat):Int) old new=cs:=Of λ h2=>absurd E1f h
theorem aC9(hk:k<cs.length)(h:cs.getD k 0=old):(true=true↔xU cs ((k+1:Nat):Int) old):=⟨λ _=>⟨by omega,by omega,by rw[show(((k+1:Nat):Int)-1).toNat=k by omega];exact h⟩,λ _=>rfl⟩
theorem gY:(gG cs c old new).length=cs.length:=by unfold gG;split<;>simp
end
end Go.Ct
namespace Go.Proofs.YthblobahelfefaaGreatDoor
open Go.Proofs.Tryz
open Go.RowKit Go.Ct
section
variable{w:World}{D:List Nat}{b:Nat}{L:List dJ}{cs:List Int}{gen acc:Int}{pn pc:Option Addr}{cn cc:Nat}{A:Fr}
theorem L1(hs:SF w D [(b,aO L cs gen acc pn cn pc cc)] A [] (mW L cs pn cn pc cc) w):Calls prog 337 #[.pointer (some ⟨b,0,none⟩)] w λ e w'=>∃q:Unit,e=.returned (.int .i64 (up gen))/\True/\SF w D [(b,aO L cs (up gen) acc pn cn pc cc)] [] [] (mW L cs pn cn pc cc) w':=by refine enter func337 ntmps337 rfl rfl (vK hs) ?_;simp only[bY];refine K1b ?_;refine zG ?_;refine J1 ?_;refine aP results337 (λ w hw=>?_);exact⟨(),rfl,trivial,by simpa[aO,mW] using hw.eP (F':=[])⟩
theorem Nh(hs:SF w D [(b,aO L cs gen acc pn cn pc cc)] A [] (mW L cs pn cn pc cc) w)(c:Int):Calls prog 340 #[.pointer (some ⟨b,0,none⟩),.int .i64 c] w λ e w'=>∃q:Unit,e=.returned (.bool (decide (1<=c/\c<=(cs.length:Int))))/\True/\SF w D [(b,aO L cs gen acc pn cn pc cc)] [] [] (mW L cs pn cn pc cc) w':=by
 refine enter func340 ntmps340 rfl rfl (vK hs) ?_;simp only[bY];refine Kc1 ?_;refine kZ ?_;refine aD ?_;(refine kT 7 (λ g7=>?_) (λ g7=>?_)<;>refine Ka0 ?_);all_goals (refine Ka0 ?_;(first|refine bG ?_|(refine aG ?_;refine cA ?_));refine J43 ?_;(first|refine bG ?_|(refine aG ?_;refine xW ?_));refine dG ?_;refine J1 ?_)
 all_goals
 refine aP results340 (λ w hw=>?_);first|exact⟨(),by rw[decide_eq_false (show ¬(1<=c/\c<=(cs.length:Int)) by omega)];first|rfl|(rw[decide_eq_false (by omega)];rfl),trivial,hw.eP⟩|exact⟨(),by rw[show decide (1<=c/\c<=(cs.length:Int))=decide (c<=(cs.length:Int)) by simp;omega];rfl,trivial,hw.eP⟩
theorem nf(hs:SF w D [(b,aO L cs gen acc pn cn pc cc)] A [] (mW L cs pn cn pc cc) w)(c:Int)(hc:c<1):Calls prog 335 #[.pointer (some ⟨b,0,none⟩),.int .i64 c] w λ e w'=>∃q:Unit,e=.returned (.int .i64 (aL cs c))/\True/\SF w D [(b,aO L cs gen (up acc) pn cn pc cc)] [] [] (mW L cs pn cn pc cc) w':=by
 refine enter func335 ntmps335 rfl rfl (vK hs) ?_;simp only[bY];refine K1b ?_;refine Ir ?_;refine aJ (cM (hc:=λ w hs=>Nh hs c)) (λ x14 h14=>?_);refine pG ?_;refine aX (λ c15=>?_) (λ c15=>?_)
 ·try (exfalso;omega)
  refine cC ?_;refine aP results335 (λ w hw=>?_);(exact⟨(),by rw[jH (by omega)];rfl,trivial,hw.eP⟩)
 ·try (exfalso;omega)
theorem aAa(hs:SF w D [(b,aO L cs gen acc pn cn pc cc)] A [] (mW L cs pn cn pc cc) w)(c:Int)(old new:Int)(hc:c<1):Calls prog 334 #[.pointer (some ⟨b,0,none⟩),.int .i64 c,.int .i64 old,.int .i64 new] w λ e w'=>∃r:Bool,e=.returned (.bool r)/\(r=true↔xU cs c old)/\SF w D [(b,aO L (gG cs c old new) gen (up acc) pn cn pc cc)] [] [] (mW L (gG cs c old new) pn cn pc cc) w':=by
 refine enter func334 ntmps334 rfl rfl (vK hs) ?_;simp only[bY];refine K1b ?_;refine Ir ?_;refine aJ (cM (hc:=λ w hs=>Nh hs c)) (λ x18 h18=>?_);refine fl ?_;(refine kT 20 (λ g20=>?_) (λ g20=>?_)<;>(try (exfalso;omega))<;>(refine bG ?_));(refine bG ?_);refine J6 ?_;refine J68 ?_;(refine bG ?_);refine J29 ?_;refine J38 ?_;refine aC ?_;refine aX (λ c31=>?_) (λ c31=>?_)
 ·try (exfalso;omega)
  refine cC ?_;refine aP results334 (λ w hw=>?_);(exact⟨false,rfl,aB1 hc,by rw[yl hc];exact hw.eP⟩)
 ·exact nv c31
theorem ja(hs:SF w D [(b,aO L cs gen acc pn cn pc cc)] A [] (mW L cs pn cn pc cc) w){k:Nat}(hk:(k:Int)<9223372036854775807)(hl:cs.length<=274877906944):Calls prog 335 #[.pointer (some ⟨b,0,none⟩),.int .i64 ((k+1:Nat):Int)] w λ e w'=>∃q:Unit,e=.returned (.int .i64 (aL cs ((k+1:Nat):Int)))/\True/\SF w D [(b,aO L cs gen (up acc) pn cn pc cc)] [] [] (mW L cs pn cn pc cc) w':=by
 refine enter func335 ntmps335 rfl rfl (vK hs) ?_;simp only[bY];refine K1b ?_;refine Ir ?_;refine aJ (cM (hc:=λ w hs=>Nh hs ((k+1:Nat):Int))) (λ x14 h14=>?_);refine pG ?_;refine aX (λ c15=>?_) (λ c15=>?_)
 ·try (exfalso;omega)
  refine cC ?_;refine aP results335 (λ w hw=>?_);(exact⟨(),by rw[jH (by omega)];rfl,trivial,hw.eP⟩)
 ·try (exfalso;omega)
  refine J83 ?_;refine aD ?_;refine Xi ?_;refine J53 ?_;refine J1 ?_;refine aP results335 (λ w hw=>?_);(exact⟨(),by rw[mC (by omega)];rfl,trivial,hw.eP⟩)
theorem wo(hs:SF w D [(b,aO L cs gen acc pn cn pc cc)] A [] (mW L cs pn cn pc cc) w){k:Nat}(hk:(k:Int)<9223372036854775807)(old new:Int)(hl:cs.length<=274877906944):Calls prog 334 #[.pointer (some ⟨b,0,none⟩),.int .i64 ((k+1:Nat):Int),.int .i64 old,.int .i64 new] w λ e w'=>∃r:Bool,e=.returned (.bool r)/\(r=true↔xU cs ((k+1:Nat):Int) old)/\SF w D [(b,aO L (gG cs ((k+1:Nat):Int) old new) gen (up acc) pn cn pc cc)] [] [] (mW L (gG cs ((k+1:Nat):Int) old new) pn cn pc cc) w':=by
 refine enter func334 ntmps334 rfl rfl (vK hs) ?_;simp only[bY];refine K1b ?_;refine Ir ?_;refine aJ (cM (hc:=λ w hs=>Nh hs ((k+1:Nat):Int))) (λ x18 h18=>?_);refine fl ?_;(refine kT 20 (λ g20=>?_) (λ g20=>?_)<;>refine Ka0 ?_);all_goals ((first|refine bG ?_|(refine aG ?_;refine cA ?_));refine J6 ?_;refine J68 ?_;(first|refine bG ?_|(refine aG ?_;refine gS ?_));refine J29 ?_;refine J38 ?_;refine aC ?_)
 all_goals
 refine aX (λ c31=>?_) (λ c31=>?_)
 ·all_goals try (exfalso;omega)
  all_goals refine cC ?_
  all_goals refine aP results334 (λ w hw=>?_);first|exact⟨false,rfl,aCv (by omega),by rw[aAP (by omega)];exact hw.eP⟩|exact⟨false,rfl,aDP (by simpa using c31),by rw[aAU (by simpa using c31)];exact hw.eP⟩ 
 ·try exact nv c31
  all_goals (refine J83 ?_;refine aD ?_;refine Xi ?_;refine aD ?_;refine gS ?_;refine J5 ?_;refine cC ?_)
  all_goals refine aP results334 (λ w hw=>?_);(exact⟨true,rfl,aC9 (by omega) (by simpa using c31),by rw[y5 (by omega) (by simpa using c31)];simpa[mW,aO,mO] using hw.eP (F':=[])⟩)
theorem xy(hs:SF w D [(b,aO L cs gen acc pn cn pc cc)] A [] (mW L cs pn cn pc cc) w)(c:Int)(hc:c<=9223372036854775807)(hl:cs.length<=274877906944):Calls prog 335 #[.pointer (some ⟨b,0,none⟩),.int .i64 c] w λ e w'=>∃q:Unit,e=.returned (.int .i64 (aL cs c))/\True/\SF w D [(b,aO L cs gen (up acc) pn cn pc cc)] [] [] (mW L cs pn cn pc cc) w':=by
 rcases Int.lt_or_le c 1 with h|h;·exact nf hs c h
 ·obtain⟨k,rfl⟩:∃k:Nat,c=((k+1:Nat):Int):=⟨(c-1).toNat,by omega⟩;exact ja hs (by omega) hl
theorem aC4(hs:SF w D [(b,aO L cs gen acc pn cn pc cc)] A [] (mW L cs pn cn pc cc) w)(c old new:Int)(hc:c<=9223372036854775807)(hl:cs.length<=274877906944):Calls prog 334 #[.pointer (some ⟨b,0,none⟩),.int .i64 c,.int .i64 old,.int .i64 new] w λ e w'=>∃r:Bool,e=.returned (.bool r)/\(r=true↔xU cs c old)/\SF w D [(b,aO L (gG cs c old new) gen (up acc) pn cn pc cc)] [] [] (mW L (gG cs c old new) pn cn pc cc) w':=by
 rcases Int.lt_or_le c 1 with h|h;·exact aAa hs c old new h
 ·obtain⟨k,rfl⟩:∃k:Nat,c=((k+1:Nat):Int):=⟨(c-1).toNat,by omega⟩;exact wo hs (by omega) old new hl
end
end Go.Proofs.YthblobahelfefaaGreatDoor
