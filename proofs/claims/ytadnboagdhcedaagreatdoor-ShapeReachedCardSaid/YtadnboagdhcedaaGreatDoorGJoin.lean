/- Several loud operations may be next; the ways meet again. Written by a program. -/
import Derived.Test.YtadnboagdhcedaaGreatDoorAuto
import Derived.Test.YtadnboagdhcedaaGreatDoorGLst3
import Derived.Test.YtadnboagdhcedaaGreatDoorGMem

set_option linter.unusedSimpArgs false
set_option linter.unusedVariables false
namespace Go.Ct
section
open Go Go.RowKit
section
variable{P:Program}{n:Nat}{Q:Exit->Act->World->Prop}{ks:List CK}{ops:Array Oper}{pl pl':oY}{LL:List Nat}{Dl Dp Dq:List Nat}{S:List (Nat×Value)}{G:World->Prop}{w0:World}{M:List Nat}{H:List (Nat×Obj)}{A F:Fr}{O:List Ow}
inductive LS(P:Program)(n:Nat)(Q:Exit->Act->World->Prop)(ks:List CK)(ops:Array Oper)(Dl Dp Dq:List Nat)(S:List (Nat×Value))(G:World->Prop):oY->List Nat->Prop where
 | nil:LS P n Q ks ops Dl Dp Dq S G .nil []
 | cons {i:Nat} {L:List Nat} {pl q:oY} {E:List Nat} (h:gC P n Q ks ops pl Dl Dp Dq S G i L) (r:LS P n Q ks ops Dl Dp Dq S G q E):LS P n Q ks ops Dl Dp Dq S G (.two i L pl 0 [] q) (i::E)
theorem LS.get{pl:oY}{E:List Nat}(h:LS P n Q ks ops Dl Dp Dq S G pl E):∀i∈E,gC P n Q ks ops .nil Dl Dp Dq S G i []:=by
 induction h with
 | nil=>exact λ _ h=>(List.not_mem_nil h).elim
 | cons h _ ih =>
  intro j hj
  rcases List.mem_cons.1 hj with rfl|hj
  ·exact h.dg
  ·exact ih j hj
theorem gW{E:List Nat}{q:oY}(hc:iL ops Dl Dp Dq E=true)(h:LS P n Q ks ops Dl Dp Dq S G q E):JR P n Q ks ops q Dl Dp Dq S G:=by
 simp only[iL,Bool.and_eq_true] at hc
 exact⟨Y6 (pl':=.nil) (LL:=[]) hc.1.1 hc.1.2 hc.2 h.get⟩
theorem tf{X:Type}(keys:List Nat)(K:X->List (Nat×Value))(GI:X->World->Prop){c:Code}(hn:(keys.all λ k=>Nat.blt k n)=true)(hKn:∀x,((K x).all λ p=>Nat.blt p.1 n)=true)
  (h1:JK P n Q (.code c::.inv (kU n keys K GI (λ _=>0) S 1)::ks) S G) (h2:∀x f,JK P n Q ks (K x++(fY keys f++S)) (GI x)):JK P n Q (.code c::ks) S G:=⟨λ hS w hw=>by
 have h:=h1.run hS w hw
 simp only[runK] at h ⊢
 intro b k cs
 obtain⟨e,a₁,w₁,hq,harr⟩:=h b k cs
 rw[Mk] at hq
 refine⟨e,a₁,w₁,?_,harr⟩
 cases e with
 | normal =>
  obtain⟨x',S1,_,rfl,_,hk',hp',hg'⟩:=hq
  have:=(h2 x' (look S1)).run ((hS.fY hn).lA (hKn x')) w₁ hg'
  rw[<- Py hp' hk'] at this
  exact this
 | exit id=>exact hq
 | goto l=>exact hq
 | ret=>exact hq
 | panic ch=>exact hq
 | outgrown=>exact hq⟩
theorem dW{Y:Type}(keys:List Nat)(K:Y->List (Nat×Value))(I:Y->Prop)(H1:Y->List (Nat×Obj))(F1:Y->Fr)(O1:Y->List Ow){c:Code}(hn:(keys.all λ k=>Nat.blt k n)=true)(hKn:∀x,((K x).all λ p=>Nat.blt p.1 n)=true)
  (h1:JK P n Q (.code c::.inv (kU n keys K (λ x w=>I x/\SF w0 M (H1 x) A (F1 x) (O1 x) w) (λ _=>0) S 1)::ks) S (SF w0 M H A F O))
  (h2:∀x f,I x->JK P n Q ks (K x++(fY keys f++S)) (SF w0 M (H1 x) A (F1 x) (O1 x))):JK P n Q (.code c::ks) S (SF w0 M H A F O):=tf keys K _ hn hKn h1 λ x f=>Zc λ h=>h2 x f h
theorem Ta{H':List (Nat×Obj)}{O':List Ow}(hH:H'.Perm H)(hO:O'.Perm O):(Ks H' O').Perm (Ks H O):=(hH.map _).append (List.Perm.flatMap_right _ hO)
theorem St.perm{w w0:World}{H H':List (Nat×Obj)}(h:St w0 M H w)(hs:H'.Perm H):St w0 M H' w:=⟨h.os,h.tape,h.output,h.size,h.jL,λ p hp=>h.has p (hs.mem_iff.1 hp),λ p hp=>h.new p (hs.mem_iff.1 hp),(hs.map _).nodup_iff.2 h.nodup⟩
theorem SF.perm{w:World}{H':List (Nat×Obj)}{O':List Ow}(h:SF w0 M H A F O w)(hH:H'.Perm H)(hO:O'.Perm O):SF w0 M H' A F O' w:=by
 have hs:=Ta hH hO
 exact⟨h.st.perm hH,λ f hf=>⟨(h.bM f hf).1,λ hc hm=>(h.bM f hf).2 hc (hs.mem_iff.1 hm)⟩,λ f hf=>⟨(h.new f hf).1,λ hc=>⟨λ hm=>((h.new f hf).2 hc).1 (hs.mem_iff.1 hm),((h.new f hf).2 hc).2⟩⟩,λ o ho=>h.own o (hO.mem_iff.1 ho),hs.nodup_iff.2 h.dis⟩
end
end
end Go.Ct
namespace Go.Proofs.YtadnboagdhcedaaGreatDoor
section
open Go Go.RowKit Go.Ct
variable{n:Nat}{Q:Exit->Act->World->Prop}{ks:List CK}{S:List (Nat×Value)}{ops:Array Oper}{l ol:List Oper}{pl:oY}{LL:List Nat}{Dl Dp Dq:List Nat}
variable{w0:World}{M:List Nat}{H:List (Nat×Obj)}{A F:Fr}{O:List Ow}{G:World->Prop}{i d:Nat}{v:Value}{op:Op}{ty:TypeId}{pos:String}{af:Array Edge}{gd:Option (Nat×Bool)}{X:Type}{V:X->Value}{G':X->World->Prop}{j g:Nat}{want t:Bool}
theorem zD(ho:eI ol i ⟨some d,op,ty,pos,af,gd⟩:=by exact gJ)(hw:Region.wanted ⟨some d,op,ty,pos,af,gd⟩ (bD ⟨ol⟩ S)=true:=by exact rfl)(hq:bI Tryz.prog S G ⟨some d,op,ty,pos,af,gd⟩ X V G':=by exact rL)(hc:iJ ⟨ol⟩ n Dl Dp Dq i (some d)=true:=by decide +kernel)(hL:((Ct.waiting ⟨ol⟩ Dq i).all λ j=>LL.elem j)=true:=by decide +kernel)(hfire:∀x,aM Tryz.prog ⟨ol⟩ ((d,V x)::S) (G' x) LL:=by exact pK)(h:∀x,JR Tryz.prog n Q ks ⟨ol⟩ pl (i::Dl) Dp Dq ((d,V x)::S) (G' x)):gC Tryz.prog n Q ks ⟨ol⟩ pl Dl Dp Dq S G i LL:=nE ho hw hq hc hL hfire h
theorem gF(ho:eI ol i ⟨some d,op,ty,pos,af,gd⟩:=by exact gJ)(hw:Region.wanted ⟨some d,op,ty,pos,af,gd⟩ (bD ⟨ol⟩ S)=true:=by exact rfl)(hq:bI Tryz.prog S G ⟨some d,op,ty,pos,af,gd⟩ X V G':=by exact Kc)(hc:iJ ⟨ol⟩ n Dl Dp Dq i (some d)=true:=by decide +kernel)(hL:((Ct.waiting ⟨ol⟩ Dq i).all λ j=>LL.elem j)=true:=by decide +kernel)(hfire:∀x,aM Tryz.prog ⟨ol⟩ ((d,V x)::S) (G' x) LL:=by exact pK)(h:∀x,JR Tryz.prog n Q ks ⟨ol⟩ pl (i::Dl) Dp Dq ((d,V x)::S) (G' x)):gC Tryz.prog n Q ks ⟨ol⟩ pl Dl Dp Dq S G i LL:=nE ho hw hq hc hL hfire h
theorem Ku(ho:eI ol i ⟨some d,op,ty,pos,af,gd⟩:=by exact gJ)(hw:Region.wanted ⟨some d,op,ty,pos,af,gd⟩ (bD ⟨ol⟩ S)=true:=by exact rfl)(hq:bI Tryz.prog S G ⟨some d,op,ty,pos,af,gd⟩ X V G')(hc:iJ ⟨ol⟩ n Dl Dp Dq i (some d)=true:=by decide +kernel)(hL:((Ct.waiting ⟨ol⟩ Dq i).all λ j=>LL.elem j)=true:=by decide +kernel)(hfire:∀x,aM Tryz.prog ⟨ol⟩ ((d,V x)::S) (G' x) LL:=by exact pK)(h:∀x,JR Tryz.prog n Q ks ⟨ol⟩ pl (i::Dl) Dp Dq ((d,V x)::S) (G' x)):gC Tryz.prog n Q ks ⟨ol⟩ pl Dl Dp Dq S G i LL:=nE ho hw hq hc hL hfire h
theorem kP{φ:X->Prop}(ho:eI ol i ⟨some d,op,ty,pos,af,gd⟩:=by exact gJ)(hw:Region.wanted ⟨some d,op,ty,pos,af,gd⟩ (bD ⟨ol⟩ S)=true:=by exact rfl)(hq:bI Tryz.prog S G ⟨some d,op,ty,pos,af,gd⟩ X V (λ x w=>φ x/\G' x w))(hc:iJ ⟨ol⟩ n Dl Dp Dq i (some d)=true:=by decide +kernel)(hL:((Ct.waiting ⟨ol⟩ Dq i).all λ j=>LL.elem j)=true:=by decide +kernel)(hfire:∀x,aM Tryz.prog ⟨ol⟩ ((d,V x)::S) (λ w=>φ x/\G' x w) LL:=by exact pK)(h:∀x,φ x->JR Tryz.prog n Q ks ⟨ol⟩ pl (i::Dl) Dp Dq ((d,V x)::S) (G' x)):gC Tryz.prog n Q ks ⟨ol⟩ pl Dl Dp Dq S G i LL:=nE ho hw hq hc hL hfire λ x=>fW (h x)
end

/- The engine, part 12: a callee that may change several of its caller's blocks and own lists. -/
end Go.Proofs.YtadnboagdhcedaaGreatDoor
namespace Go.Ct
section
open Go Go.RowKit
section
variable{α:Type}
inductive Ru:List α->Nat->α->Prop where
 | head {a:α} {l:List α}:Ru (a::l) 0 a
 | tail {a b:α} {l:List α} {i:Nat}:Ru l i b->Ru (a::l) (i+1) b
def N6:List α->Nat->List α
 | [],_=>[]
 | _::r,0=>r
 | p::r,i+1=>p::N6 r i
def Qd:List α->Nat->α->List α
 | l,0,a=>a::l
 | p::r,i+1,a=>p::Qd r i a
 | [],_+1,a=>[a]
inductive A8:List α->List Nat->List α->List α->Prop where
 | nil {l:List α}:A8 l [] [] l
 | cons {l es r:List α} {i:Nat} {a:α} {js:List Nat}:Ru l i a->A8 (N6 l i) js es r->A8 l (i::js) (a::es) r
def B4:List Nat->List α->List α->List α
 | i::js,a::es,r=>Qd (B4 js es r) i a
 | _,_,r=>r
theorem Ru.perm{l:List α}{i:Nat}{a:α}(h:Ru l i a):l.Perm (a::N6 l i):=by
 induction h with
 | head=>exact List.Perm.refl _
 | tail _ ih=>exact(ih.cons _).trans (List.Perm.swap _ _ _)
theorem G5(a:α):∀(l:List α) (i:Nat),(Qd l i a).Perm (a::l)
 | l,0=>by cases l<;>exact List.Perm.refl _
 | [],_+1=>List.Perm.refl _
 | p::r,i+1=>((G5 a r i).cons p).trans (List.Perm.swap _ _ _)
theorem A8.perm{l es r:List α}{js:List Nat}(h:A8 l js es r):l.Perm (es++r):=by
 induction h with
 | nil=>exact List.Perm.refl _
 | cons h _ ih=>exact h.perm.trans (ih.cons _)
theorem Aw:∀(js:List Nat) (es r:List α),js.length=es.length->(B4 js es r).Perm (es++r)
 | [],[],_,_=>List.Perm.refl _
 | i::js,a::es,r,h=>(G5 a _ i).trans ((Aw js es r (by simpa using h)).cons a)
 | [],_::_,_,h=>by simp at h
 | _::_,[],_,h=>by simp at h
end
section
variable{P:Program}{S:List (Nat×Value)}{w0 w w':World}{M:List Nat}{H H' hs:List (Nat×Obj)}{A F:Fr}{O O' os:List Ow}{is js:List Nat}
def Has(A F:Fr)(O:List Ow)(f:Option Addr×List Value):Prop:=f.2=[]∨f∈A∨f∈F∨∃o∈O,o.p=f.1/\o.cs=f.2
inductive bP(A F:Fr)(O:List Ow):Fr->Prop where
 | nil:bP A F O []
 | cons {f:Option Addr×List Value} {r:Fr} (h:Has A F O f) (hr:bP A F O r):bP A F O (f::r)
 | of {A0:Fr} (h:∀f∈A0,Has A F O f):bP A F O A0
theorem bP.get{A0:Fr}(h:bP A F O A0):∀f∈A0,Has A F O f:=by
 induction h with
 | nil=>intro f hf;exact(List.not_mem_nil hf).elim
 | cons h _ ih =>
  intro f hf
  rcases List.mem_cons.1 hf with rfl|hf
  ·exact h
  ·exact ih f hf
 | of h=>exact h
theorem vZ.lF{a:Option Addr}{cs:List Value}:∀{F:Fr},(a,cs)∈F->vZ F a cs
 | [],h=>(List.not_mem_nil h).elim
 | (b,d)::F,h=>by
  rcases List.mem_cons.1 h with h|h
  ·cases h;exact .head
  ·exact .tail (vZ.lF h)
theorem aV.qL{F:Fr}:∀{F':Fr},(∀f∈F',f∈F)->aV F F'
 | [],_=>.nil
 | (a,cs)::F',h=>.cons (vZ.lF (h _ (List.mem_cons_self ..))) (aV.qL λ f hf=>h f (List.mem_cons_of_mem _ hf))
theorem SF.xu(h:SF w0 M H A F O w){f:Option Addr×List Value}(hf:Has A F O f):Cl w f.1 f.2:=by
 rcases hf with h0|h1|h1|⟨o,ho,h1,h2⟩
 ·rw[h0];exact Cl.nil _ _
 ·exact(h.bM f h1).1
 ·exact(h.new f h1).1
 ·rw[<- h1,<- h2];exact(h.own o ho).1.cl
theorem SF.vY{w0 w:World}{M:List Nat}{H:List (Nat×Obj)}{A F:Fr}{O:List Ow}(h:SF w0 M H A F O w){L:List aL}{cs:List Int}{pn pc:Option Addr}(h1:Has A F O (pn,gR L))(h2:Has A F O (pc,aG cs))(h3:∀f∈aW L,Has A F O f)(hf:Fits L):iQ w L cs pn pc :=
 ⟨h.xu h1,h.xu h2,λ f hm=>h.xu (h3 f hm),hf⟩
theorem SF.Fg(h:SF w0 M H A F O w)(hH:A8 H is hs H')(hO:A8 O js os O'){A0:Fr}(hA:bP A F O' A0):SF w (Ks hs os) hs A0 [] os w:=by
 have pH:=hH.perm
 have pO:=hO.perm
 have h1:=h.perm pH.symm pO.symm
 have hnd:=(Ta pH.symm pO.symm).nodup_iff.2 h.dis
 have sub:(Ks hs os).Sublist (Ks (hs++H') (os++O')):=by
  unfold Ks
  rw[List.map_append,List.flatMap_append]
  exact(List.sublist_append_left _ _).append (List.sublist_append_left _ _)
 have nd1:(Ks hs os).Nodup:=hnd.sublist sub
 have kperm:(Ks (hs++H') (os++O')).Perm (Ks hs os++Ks H' O'):=by
  unfold Ks
  rw[List.map_append,List.flatMap_append]
  simp only[List.append_assoc]
  refine List.Perm.append_left _ ?_
  rw[<- List.append_assoc,<- List.append_assoc]
  exact List.Perm.append_right _ List.perm_append_comm
 have disj:∀b∈Ks hs os,b∉Ks H' O':=λ b hb hm=>(List.nodup_append.1 (kperm.nodup_iff.1 hnd)).2.2 b hb b hm rfl
 refine⟨⟨rfl,rfl,rfl,Nat.le_refl _,λ _ _ _=>rfl,λ p hp=>h1.st.has p (List.mem_append_left _ hp),λ p hp=>.inl (dR.2 (.inl ⟨p,hp,rfl⟩)),(List.nodup_append.1 nd1).1⟩,λ f hf=>?_,λ _ h=>(List.not_mem_nil h).elim,λ o ho=>⟨(h1.own o (List.mem_append_left _ ho)).1,λ b hb=>.inr (dR.2 (.inr ⟨o,ho,hb⟩))⟩,nd1⟩
 have hg:=hA.get f hf
 refine⟨?_,λ hc hm=>?_⟩
 ·rcases hg with h0|h2|h2|⟨o,ho,h2,h3⟩
  ·rw[h0];exact Cl.nil _ _
  ·exact(h.bM f h2).1
  ·exact(h.new f h2).1
  ·rw[<- h2,<- h3];exact(h1.own o (List.mem_append_right _ ho)).1.cl
 ·rcases hg with h0|h2|h2|⟨o,ho,h2,h3⟩
  ·exact hc h0
  ·exact(h1.bM f h2).2 hc (sub.subset hm)
  ·exact((h1.new f h2).2 hc).1 (sub.subset hm)
  ·have hok:=(h1.own o (List.mem_append_right _ ho)).1
   have hb:=hok.Nu (by rw[h3];exact hc)
   exact disj _ hm (dR.2 (.inr ⟨o,ho,by rw[hb,h2];exact List.mem_singleton.2 rfl⟩))
theorem SF.R9(h:SF w0 M H A F O w)(hH:A8 H is hs H')(hO:A8 O js os O'){hs' Hc:List (Nat×Obj)}{os' Oc:List Ow}{Fc:Fr}
  (hc:SF w (Ks hs os) (hs'++Hc) [] Fc (os'++Oc) w') (h1:is.length=hs'.length) (h2:js.length=os'.length) :
  SF w0 M (Hc++B4 is hs' H') A (Fc++F) (Oc++B4 js os' O') w':=by
 have pH:=hH.perm
 have pO:=hO.perm
 have hp:=h.perm pH.symm pO.symm
 have qH:=Aw is hs' H' h1
 have qO:=Aw js os' O' h2
 have kperm:∀(a c:List (Nat×Obj)) (b d:List Ow),(Ks (a++c) (b++d)).Perm (Ks a b++Ks c d):=λ a c b d=>by
  unfold Ks
  rw[List.map_append,List.flatMap_append]
  simp only[List.append_assoc]
  refine List.Perm.append_left _ ?_
  rw[<- List.append_assoc,<- List.append_assoc]
  exact List.Perm.append_right _ List.perm_append_comm
 have nd0:=(kperm hs H' os O').nodup_iff.1 hp.dis
 have disj:∀b∈Ks hs os,b∉Ks H' O':=λ b hb hm=>(List.nodup_append.1 nd0).2.2 b hb b hm rfl
 have sub:∀b∈Ks hs' os',b∈Ks (hs'++Hc) (os'++Oc):=λ b hb=>(kperm hs' Hc os' Oc).mem_iff.2 (List.mem_append_left _ hb)
 have nd1:(Ks (hs'++H') (os'++O')).Nodup:=by
  rw[(kperm hs' H' os' O').nodup_iff]
  refine List.nodup_append.2 ⟨(List.nodup_append.1 ((kperm hs' Hc os' Oc).nodup_iff.1 hc.dis)).1,(List.nodup_append.1 nd0).2.1,λ a ha b hb e=>?_⟩
  subst e
  rcases hc.Pb a (sub a ha) with h3|h3
  ·have:=hp.lt a ((kperm hs H' os O').mem_iff.2 (List.mem_append_right _ hb))
   omega
  ·exact disj a h3 hb
 have r:=hp.Xz (D:=Ks hs os) (Hm:=hs') (Hc:=Hc) (H1:=hs'++H') (Fc:=Fc) (Om:=os') (Oc:=Oc) (O1:=os'++O') hc (λ b hb=>(kperm hs H' os O').mem_iff.2 (List.mem_append_left _ hb))
  (λ p hpm=>by
   rcases List.mem_append.1 hpm with h3|h3
   ·exact .inl h3
   ·exact .inr ⟨List.mem_append_right _ h3,λ hm=>disj _ hm (dR.2 (.inl ⟨p,h3,rfl⟩))⟩)
  (λ o ho=>by
   rcases List.mem_append.1 ho with h3|h3
   ·exact .inl h3
   ·exact .inr ⟨List.mem_append_right _ h3,λ b hb hm=>disj _ hm (dR.2 (.inr ⟨o,h3,hb⟩))⟩)
  nd1
 exact r.perm (List.Perm.append_left _ qH) (List.Perm.append_left _ qO)
theorem SF.eP(h:SF w0 M H A F O w){F':Fr}(hF:∀f∈F',f.2=[]∨f∈F):SF w0 M H A F' O w:=⟨h.st,h.bM,λ f hf=>by
 rcases hF f hf with h0|h1
 ·exact⟨by rw[h0];exact Cl.nil _ _,λ hc=>absurd h0 hc⟩
 ·exact h.new f h1,h.own,h.dis⟩
theorem SF.Zi{o1 o2:Ow}(h:SF w0 M H A F (o1::o2::O) w):SF w0 M H A F (o2::o1::O) w:=h.perm (List.Perm.refl _) (List.Perm.swap _ _ _)
theorem SF.xv{L:List aL}{v:aL}{F':Fr}(h:SF w0 M H A F O w)(h1:(v.nd.brA,aG v.xs)∈F)(h2:(v.nd.prA,dG v.ys)∈F)(h3:∀f∈aW L,f∈F):SF w0 M H A (aW (L++[v])) O w:=h.eP λ f hf=>by
 rw[dB] at hf
 rcases List.mem_append.1 hf with hf|hf
 ·exact .inr (h3 f hf)
 ·simp only[aW,List.flatMap_cons,List.flatMap_nil,List.append_nil,aL.fr,List.mem_cons,List.not_mem_nil,or_false] at hf
  rcases hf with rfl|rfl
  ·exact .inr h1
  ·exact .inr h2
theorem aV.all{F:Fr}:aV F F:=aV.qL λ _ h=>h
theorem SF.v1{w:World}{H':List (Nat×Obj)}{O':List Ow}(h:SF w0 M H A F O w)(hH:H'.Sublist H:=by repeat (first|exact List.nil_sublist _|apply List.Sublist.cons_cons|apply List.Sublist.cons))(hO:O'.Sublist O:=by repeat (first|exact List.nil_sublist _|apply List.Sublist.cons_cons|apply List.Sublist.cons)):SF w0 M H' [] F O' w:=h.aS hH aV.all hO
theorem SF.v4{w:World}{H':List (Nat×Obj)}{O':List Ow}(h:SF w0 M H A F O w)(hH:H'.Sublist H:=by repeat (first|exact List.Sublist.refl _|exact List.nil_sublist _|apply List.Sublist.cons))(hO:O'.Sublist O:=by repeat (first|exact List.Sublist.refl _|exact List.nil_sublist _|apply List.Sublist.cons)):SF w0 M H' A F O' w:=h.back hH aV.all hO
end
end

/- Memories: the rule for calls that may change them. -/
end Go.Ct
namespace Go.Proofs.YtadnboagdhcedaaGreatDoor
section
open Go Go.RowKit Go.Ct
abbrev mO(L:List aL)(cs:List Int)(gen acc:Int)(pn:Option Addr)(cn:Nat)(pc:Option Addr)(cc:Nat):Obj:=.cells ⟨[.slice pn L.length cn,.slice pc cs.length cc,.int .i64 gen,.int .i64 acc]⟩ 35 (0,0)
abbrev aO(L:List aL)(cs:List Int)(gen acc:Int)(pn:Option Addr)(cn:Nat)(pc:Option Addr)(cc:Nat):Obj:=.cells ⟨[.slice pn L.length cn,.slice pc cs.length cc,.int .i64 gen,.int .i64 acc]⟩ 153 (0,0)
abbrev mW(L:List aL)(cs:List Int)(pn:Option Addr)(cn:Nat)(pc:Option Addr)(cc:Nat):List Ow:=[⟨pn,gR L,cn,77,14⟩,⟨pc,aG cs,cc,62,1⟩]
theorem wR{w0 w:World}{D:List Nat}{b:Nat}{L:List aL}{cs:List Int}{gen acc:Int}{pn pc:Option Addr}{cn cc:Nat}{A F:Fr}(h:SF w0 D [(b,mO L cs gen acc pn cn pc cc)] A F (mW L cs pn cn pc cc) w) :
  SF w0 D [(b,.cells ⟨[.slice pn L.length cn,.slice pc cs.length cc,.int .i64 gen,.int .i64 acc]⟩ 35 (0,0))] A F [⟨pn,gR L,cn,77,14⟩,⟨pc,aG cs,cc,62,1⟩] w:=h
variable{S:List (Nat×Value)}{w0 w:World}{M:List Nat}{H:List (Nat×Obj)}{A F:Fr}{O:List Ow}{ty:TypeId}{pos:String}{af:Array Edge}{gd:Option (Nat×Bool)}{X:Type}{V:X->Value}
theorem cM{φ:X->Prop}{hs H':List (Nat×Obj)}{os O':List Ow}{hs' H1:X->List (Nat×Obj)}{os' O1:X->List Ow}{Fc F1:X->Fr}{A0:Fr}{is js:List Nat}{f:FuncId}{xs:List Operand}{at_:Array TypeId}{vs:List Value}{dst:Option Nat}
  (ha:yU S xs=vs:=by(repeat (first|exact pM _|(apply mK;focus ((conv=>{lhs;whnf});try exact rfl))));first|done|fail) (hp:plain Tryz.prog f=true:=by kernel_rfl)
  (hc:∀w,SF w (Ks hs os) hs A0 [] os w->Calls Tryz.prog f ⟨vs⟩ w λ e w'=>∃x,e=.returned (V x)/\φ x/\SF w (Ks hs os) (hs' x) [] (Fc x) (os' x) w')
  (hH:A8 H is hs H':=by(repeat (first|exact A8.nil|(apply A8.cons;(focus ((repeat (first|exact Ru.head|apply Ru.tail));done));simp only[N6])));first|done|fail)
  (hO:A8 O js os O':=by(repeat (first|exact A8.nil|(apply A8.cons;(focus ((repeat (first|exact Ru.head|apply Ru.tail));done));simp only[N6])));first|done|fail)
  (hA:bP A F O' A0:=by(repeat (first|exact bP.of (λ _ h=>Or.inr (Or.inl h))|exact bP.nil|(refine bP.cons (by first|exact Or.inl rfl|exact Or.inr (Or.inr (Or.inl (by simp)))|exact Or.inr (Or.inl (by simp))|exact Or.inr (Or.inr (Or.inr (by simp)))) ?_)));first|done|fail)
  (hl1:∀x,is.length=(hs' x).length:=by intro x;exact rfl) (hl2:∀x,js.length=(os' x).length:=by intro x;exact rfl)
  (hH1:∀x,B4 is (hs' x) H'=H1 x:=by intro x;first|(simp only[B4,Qd];exact rfl)|exact rfl) (hF1:∀x,Fc x++F=F1 x:=by intro x;first|(simp only[List.nil_append,List.cons_append];exact rfl)|exact rfl) (hO1:∀x,B4 js (os' x) O'=O1 x:=by intro x;simp only[B4,Qd,mW];exact rfl) :
  bI Tryz.prog S (SF w0 M H A F O) ⟨dst,.call {callee:=.value (.func f),args:=⟨xs⟩,argTypes:=at_},ty,pos,af,gd⟩ X V (λ x w=>φ x/\SF w0 M (H1 x) A (F1 x) (O1 x) w) :=
 kM (nA hp ha) λ w hw=>(hc w (hw.Fg hH hO hA)).mono λ _ _ ⟨x,he,hx,hs⟩=>⟨x,he,hx,by
  have:=hw.R9 (hs':=hs' x) (Hc:=[]) (os':=os' x) (Oc:=[]) hH hO (by simpa using hs) (hl1 x) (hl2 x)
  rw[<- hH1 x,<- hF1 x,<- hO1 x]
  simpa using this⟩
end

/- The small methods of the two memories: cells, generations, loads, compare-and-swaps. -/
section
open Go.RowKit Go.Ct
variable{w:World}{D:List Nat}{b:Nat}{L:List aL}{cs:List Int}{gen acc:Int}{pn pc:Option Addr}{cn cc:Nat}{A:Fr}
theorem iU(v:Int)(hs:SF w D [(b,mO L cs gen acc pn cn pc cc)] A [] (mW L cs pn cn pc cc) w)(hl:cs.length<=274877906944) :
  Calls Tryz.prog 33 #[.pointer (some ⟨b,0,none⟩),.int .i64 v] w λ e w'=>∃q:Option Addr×Nat,e=.returned (.int .i64 ((cs.length+1:Nat):Int))/\True /\
   SF w D [(b,mO L (cs++[v]) gen acc pn cn q.1 q.2)] [] [] (mW L (cs++[v]) pn cn q.1 q.2) w':=by
 refine enter Tryz.func33 Tryz.ntmps33 rfl rfl (wR hs) ?_
 simp only[cO]
 refine cQ ?_;refine iR ?_;refine Kx ?_;refine J3 ?_;refine aB ?_;refine fF (λ x12=>?_);(refine eL (λ x13=>?_);try (refine fB (λ h13=>?_)));refine Kx ?_;refine xK ?_;refine Fv ?_;refine Li ?_;refine J1 ?_
 refine aQ Tryz.results33 (λ w hw=>?_)
 exact⟨x13,rfl,trivial,by simpa[mO,mW] using hw.aS (F':=[])⟩
end

/- The small methods of the two memories: generations, loads, compare-and-swaps. -/
end Go.Proofs.YtadnboagdhcedaaGreatDoor
namespace Go.Ct
section
def bV(cs:List Int)(c:Int):Int:=if 1<=c/\c<=cs.length then cs.getD (c-1).toNat 0 else 0
def iP(cs:List Int)(c bM:Int):Prop:=1<=c/\c<=cs.length/\cs.getD (c-1).toNat 0=bM
def fZ(cs:List Int)(c bM new:Int):List Int:=if 1<=c/\c<=cs.length/\cs.getD (c-1).toNat 0=bM then cs.set (c-1).toNat new else cs
def up(i:Int):Int:=Go.IntKind.i64.wrap (i+1)
theorem yK{cs:List Int}{c:Int}(h:¬(1<=c/\c<=cs.length)):bV cs c=0:=if_neg h
theorem Dd{cs:List Int}{k:Nat}(h:k<cs.length):bV cs ((k+1:Nat):Int)=cs.getD k 0:=by
 unfold bV
 rw[if_pos (by omega),show(((k+1:Nat):Int)-1).toNat=k by omega]
theorem qV{cs:List Int}{c bM new:Int}(h:¬(1<=c/\c<=cs.length/\cs.getD (c-1).toNat 0=bM)):fZ cs c bM new=cs:=if_neg h
theorem ml{cs:List Int}{k:Nat}{bM new:Int}(h:k<cs.length)(ho:cs.getD k 0=bM):fZ cs ((k+1:Nat):Int) bM new=cs.set k new:=by
 have e:(((k+1:Nat):Int)-1).toNat=k:=by omega
 unfold fZ
 rw[e,if_pos ⟨by omega,by omega,ho⟩]
theorem ul{cs:List Int}{c bM:Int}(h:c<1):(false=true↔iP cs c bM):=⟨(λ h=>nomatch h),λ h2=>absurd h2.1 (by omega)⟩
theorem ls{cs:List Int}{c bM new:Int}(h:c<1):fZ cs c bM new=cs:=qV (by omega)
theorem sf{cs:List Int}{c bM:Int}(h:(cs.length:Int)<c):(false=true↔iP cs c bM):=⟨(λ h=>nomatch h),λ h2=>absurd h2.2.1 (by omega)⟩
theorem ia{cs:List Int}{c bM new:Int}(h:(cs.length:Int)<c):fZ cs c bM new=cs:=qV (by omega)
theorem qa{cs:List Int}{k:Nat}{bM:Int}(h:cs.getD k 0≠bM):(false=true↔iP cs ((k+1:Nat):Int) bM):=⟨(λ h=>nomatch h),λ h2=>absurd (by have:=h2.2.2;rwa [show(((k+1:Nat):Int)-1).toNat=k by omega] at this) h⟩
theorem gu{cs:List Int}{k:Nat}{bM new:Int}(h:cs.getD k 0≠bM):fZ cs ((k+1:Nat):Int) bM new=cs:=qV λ h2=>absurd (by have:=h2.2.2;rwa [show(((k+1:Nat):Int)-1).toNat=k by omega] at this) h
theorem rj{cs:List Int}{k:Nat}{bM:Int}(hk:k<cs.length)(h:cs.getD k 0=bM):(true=true↔iP cs ((k+1:Nat):Int) bM):=⟨λ _=>⟨by omega,by omega,by rw[show(((k+1:Nat):Int)-1).toNat=k by omega];exact h⟩,λ _=>rfl⟩
theorem kF{cs:List Int}{c bM new:Int}:(fZ cs c bM new).length=cs.length:=by unfold fZ;split<;>simp
end
end Go.Ct
namespace Go.Proofs.YtadnboagdhcedaaGreatDoor
section
open Go.RowKit Go.Ct
variable{w:World}{D:List Nat}{b:Nat}{L:List aL}{cs:List Int}{gen acc:Int}{pn pc:Option Addr}{cn cc:Nat}{A:Fr}
theorem Hb(hs:SF w D [(b,mO L cs gen acc pn cn pc cc)] A [] (mW L cs pn cn pc cc) w):Calls Tryz.prog 47 #[.pointer (some ⟨b,0,none⟩)] w λ e w'=>∃q:Unit,e=.returned (.int .i64 (up gen))/\True/\SF w D [(b,mO L cs (up gen) acc pn cn pc cc)] [] [] (mW L cs pn cn pc cc) w':=by
 refine enter Tryz.func47 Tryz.ntmps47 rfl rfl (wR hs) ?_
 simp only[cO]
 refine cQ ?_;refine Fv ?_;refine J3 ?_;refine aE (wM rf rf) rfl ?_;refine Kx ?_;refine xK ?_;refine Fv ?_;refine J3 ?_;refine J1 ?_
 refine aQ Tryz.results47 (λ w hw=>?_)
 exact⟨(),rfl,trivial,by simpa[mO,mW] using hw.aS (F':=[])⟩
theorem Zy(hs:SF w D [(b,mO L cs gen acc pn cn pc cc)] A [] (mW L cs pn cn pc cc) w)(c:Int)(hc:c<1):Calls Tryz.prog 143 #[.pointer (some ⟨b,0,none⟩),.int .i64 c] w λ e w'=>∃q:Unit,e=.returned (.int .i64 (bV cs c))/\True/\SF w D [(b,mO L cs gen (up acc) pn cn pc cc)] [] [] (mW L cs pn cn pc cc) w':=by
 refine enter Tryz.func143 Tryz.ntmps143 rfl rfl (wR hs) ?_
 simp only[cO]
 refine cQ ?_;refine mV ?_;refine aE (wM rf rf) rfl ?_;refine Vr ?_;refine kT ?_;refine Fu ?_
 (refine eF 14 (λ g14=>?_) (λ g14=>?_)<;>(try (exfalso;omega))<;>(refine aH ?_))
 refine uq ?_;refine Uw ?_;refine Kb9 ?_
 refine aZ (λ c23=>?_) (λ c23=>?_)
 ·try (exfalso;omega)
  refine cQ ?_
  refine aQ Tryz.results143 (λ w hw=>?_)
  (exact⟨(),by rw[yK (by omega)];rfl,trivial,hw.aS⟩)
 ·exact nv c23
theorem gp(hs:SF w D [(b,mO L cs gen acc pn cn pc cc)] A [] (mW L cs pn cn pc cc) w)(c:Int)(bM new:Int)(hc:c<1):Calls Tryz.prog 145 #[.pointer (some ⟨b,0,none⟩),.int .i64 c,.int .i64 bM,.int .i64 new] w λ e w'=>∃r:Bool,e=.returned (.bool r)/\(r=true↔iP cs c bM)/\SF w D [(b,mO L (fZ cs c bM new) gen (up acc) pn cn pc cc)] [] [] (mW L (fZ cs c bM new) pn cn pc cc) w':=by
 refine enter Tryz.func145 Tryz.ntmps145 rfl rfl (wR hs) ?_
 simp only[cO]
 refine cQ ?_;refine mV ?_;refine aE (wM rf rf) rfl ?_;refine Vr ?_;refine kT ?_;refine Fu ?_
 (refine eF 18 (λ g18=>?_) (λ g18=>?_)<;>(try (exfalso;omega))<;>(refine aH ?_))
 refine uq ?_;refine Uw ?_;refine Fs ?_;refine aB ?_
 refine aH ?_
 refine J36 ?_;refine J6 ?_;refine J68 ?_;(refine aH ?_);refine ng ?_;refine Ut ?_;refine aI ?_
 refine aZ (λ c40=>?_) (λ c40=>?_)
 ·try (exfalso;omega)
  refine cQ ?_
  refine aQ Tryz.results145 (λ w hw=>?_)
  (exact⟨false,rfl,ul hc,by rw[ls hc];exact hw.aS⟩)
 ·exact nv c40
theorem ab(hs:SF w D [(b,mO L cs gen acc pn cn pc cc)] A [] (mW L cs pn cn pc cc) w){k:Nat}(hk:(k:Int)<9223372036854775807)(hl:cs.length<=274877906944):Calls Tryz.prog 143 #[.pointer (some ⟨b,0,none⟩),.int .i64 ((k+1:Nat):Int)] w λ e w'=>∃q:Unit,e=.returned (.int .i64 (bV cs ((k+1:Nat):Int)))/\True/\SF w D [(b,mO L cs gen (up acc) pn cn pc cc)] [] [] (mW L cs pn cn pc cc) w':=by
 refine enter Tryz.func143 Tryz.ntmps143 rfl rfl (wR hs) ?_
 simp only[cO]
 refine cQ ?_;refine mV ?_;refine aE (wM rf rf) rfl ?_;refine Vr ?_;refine kT ?_;refine Fu ?_
 (refine Ka6 ?_)
 refine uq ?_;refine Uw ?_;refine Kb9 ?_
 refine aZ (λ c23=>?_) (λ c23=>?_)
 ·try (exfalso;omega)
  refine cQ ?_
  refine aQ Tryz.results143 (λ w hw=>?_)
  (exact⟨(),by rw[yK (by omega)];rfl,trivial,hw.aS⟩)
 ·try (exfalso;omega)
  refine bA ?_;refine Fv ?_;refine J3 ?_;refine aB ?_;refine pF ?_;refine Tl ?_;refine J1 ?_
  refine aQ Tryz.results143 (λ w hw=>?_)
  (exact⟨(),by rw[Dd (by omega)];rfl,trivial,hw.aS⟩)
theorem ei(hs:SF w D [(b,mO L cs gen acc pn cn pc cc)] A [] (mW L cs pn cn pc cc) w){k:Nat}(hk:(k:Int)<9223372036854775807)(bM new:Int)(hl:cs.length<=274877906944):Calls Tryz.prog 145 #[.pointer (some ⟨b,0,none⟩),.int .i64 ((k+1:Nat):Int),.int .i64 bM,.int .i64 new] w λ e w'=>∃r:Bool,e=.returned (.bool r)/\(r=true↔iP cs ((k+1:Nat):Int) bM)/\SF w D [(b,mO L (fZ cs ((k+1:Nat):Int) bM new) gen (up acc) pn cn pc cc)] [] [] (mW L (fZ cs ((k+1:Nat):Int) bM new) pn cn pc cc) w':=by
 refine enter Tryz.func145 Tryz.ntmps145 rfl rfl (wR hs) ?_
 simp only[cO]
 refine cQ ?_;refine mV ?_;refine aE (wM rf rf) rfl ?_;refine Vr ?_;refine kT ?_;refine Fu ?_
 (refine Ka6 ?_)
 refine uq ?_;refine Uw ?_;refine Fs ?_;refine aB ?_
 (refine eF 28 (λ g28=>?_) (λ g28=>?_)<;>refine Ka0 ?_)
 all_goals (refine J36 ?_;refine J6 ?_;refine J68 ?_;(first|refine aH ?_|(refine aF ?_;refine iZ ?_));refine ng ?_;refine Ut ?_;refine aI ?_)
 all_goals
 refine aZ (λ c40=>?_) (λ c40=>?_)
 ·all_goals try (exfalso;omega)
  all_goals refine cQ ?_
  all_goals
   refine aQ Tryz.results145 (λ w hw=>?_)
   first|exact⟨false,rfl,sf (by omega),by rw[ia (by omega)];exact hw.aS⟩|exact⟨false,rfl,qa (by simpa using c40),by rw[gu (by simpa using c40)];exact hw.aS⟩ 
 ·try exact nv c40
  all_goals (refine bA ?_;refine Fv ?_;refine J3 ?_;refine aB ?_;refine pF ?_;refine aB ?_;refine iZ ?_;refine J5 ?_;refine cQ ?_)
  all_goals
   refine aQ Tryz.results145 (λ w hw=>?_)
   (exact⟨true,rfl,rj (by omega) (by simpa using c40),by rw[ml (by omega) (by simpa using c40)];simpa[mW,aO,mO] using hw.aS (F':=[])⟩)
theorem jy(hs:SF w D [(b,mO L cs gen acc pn cn pc cc)] A [] (mW L cs pn cn pc cc) w)(c:Int)(hc:c<=9223372036854775807)(hl:cs.length<=274877906944):Calls Tryz.prog 143 #[.pointer (some ⟨b,0,none⟩),.int .i64 c] w λ e w'=>∃q:Unit,e=.returned (.int .i64 (bV cs c))/\True/\SF w D [(b,mO L cs gen (up acc) pn cn pc cc)] [] [] (mW L cs pn cn pc cc) w':=by
 rcases Int.lt_or_le c 1 with h|h
 ·exact Zy hs c h
 ·obtain⟨k,rfl⟩:∃k:Nat,c=((k+1:Nat):Int):=⟨(c-1).toNat,by omega⟩
  exact ab hs (by omega) hl
theorem r8(hs:SF w D [(b,mO L cs gen acc pn cn pc cc)] A [] (mW L cs pn cn pc cc) w)(c bM new:Int)(hc:c<=9223372036854775807)(hl:cs.length<=274877906944):Calls Tryz.prog 145 #[.pointer (some ⟨b,0,none⟩),.int .i64 c,.int .i64 bM,.int .i64 new] w λ e w'=>∃r:Bool,e=.returned (.bool r)/\(r=true↔iP cs c bM)/\SF w D [(b,mO L (fZ cs c bM new) gen (up acc) pn cn pc cc)] [] [] (mW L (fZ cs c bM new) pn cn pc cc) w':=by
 rcases Int.lt_or_le c 1 with h|h
 ·exact gp hs c bM new h
 ·obtain⟨k,rfl⟩:∃k:Nat,c=((k+1:Nat):Int):=⟨(c-1).toNat,by omega⟩
  exact ei hs (by omega) bM new hl
end

/- Loops over slices that are read: contracts. -/
section
open Go.RowKit Go.Ct
theorem A6{α} [BEq α] [LawfulBEq α] {xs ys:List α}{k:Nat}(h:xs.length=ys.length)(hk:¬k<xs.length)(ht:xs.take k=ys.take k):(xs==ys)=true:=by
 rw[List.take_of_length_le (by omega),List.take_of_length_le (by omega)] at ht
 simp[ht]
theorem Fh{α} [BEq α] [LawfulBEq α] {xs ys:List α}(h:xs.length≠ys.length):(xs==ys)=false:=by
 simp only[beq_eq_false_iff_ne,ne_eq]
 intro e;rw[e] at h;exact h rfl
theorem Cy{α} [BEq α] [LawfulBEq α] {xs ys:List α}{k:Nat}{d:α}(h:xs.getD k d≠ys.getD k d):(xs==ys)=false:=by
 simp only[beq_eq_false_iff_ne,ne_eq]
 intro e;rw[e] at h;exact h rfl
theorem Bu{α} [DecidableEq α] {xs ys:List α}{k:Nat}(h:xs.length=ys.length)(hk:¬k<xs.length)(ht:xs.take k=ys.take k):decide (xs=ys)=true:=by
 rw[List.take_of_length_le (by omega),List.take_of_length_le (by omega)] at ht
 simp[ht]
theorem Db{α} [DecidableEq α] {xs ys:List α}(h:xs.length≠ys.length):decide (xs=ys)=false:=decide_eq_false λ e=>h (by rw[e])
theorem E7{α} [DecidableEq α] {xs ys:List α}{k:Nat}{d:α}(h:xs.getD k d≠ys.getD k d):decide (xs=ys)=false:=decide_eq_false λ e=>h (by rw[e])
theorem vB{α}{xs ys:List α}{k:Nat}{d:α}(h:xs.take k=ys.take k)(hk:k<xs.length)(hl:xs.length=ys.length)(he:xs.getD k d=ys.getD k d):xs.take (k+1)=ys.take (k+1):=by
 rw[List.take_add_one,List.take_add_one,h,List.getElem?_eq_getElem hk,List.getElem?_eq_getElem (hl▸hk)]
 simp only[List.getD,List.getElem?_eq_getElem hk,List.getElem?_eq_getElem (hl▸hk:k<ys.length),Option.getD_some] at he
 rw[he]
theorem uu{xs ys:List Int}{a b:Option Addr}{ca cb:Nat}{w:World}(ha:Cl w a (aG xs))(hb:Cl w b (aG ys))(hx:xs.length<4611686018427387904) :
  Calls Tryz.prog 162 #[.slice a xs.length ca,.slice b ys.length cb] w λ e w'=>e=.returned (.bool (xs==ys))/\St w [] [] w':=by
 refine enter Tryz.func162 Tryz.ntmps162 rfl rfl (SF.s2 ha hb) ?_
 simp only[cO]
 refine Ka7 ?_;refine dE ?_;refine aB ?_;refine dE ?_;refine Kc0 ?_
 refine aZ (λ c10=>?_) (λ c10=>?_)
 ·refine cQ ?_
  refine aQ Tryz.results162 (λ w hw=>?_)
  exact⟨by rw[Fh (by omega)];rfl,hw.done⟩
 ·refine jM ?_;refine Gl ?_
  refine eY [4,5,11,12,13,14,15,16,17,18,19,20,21,22,23,24,25] (λ k=>[(5,.int .i64 ((k:Nat):Int))]) (λ k=>k<=xs.length/\xs.take k=ys.take k) (λ k=>xs.length-k) (0) (⟨Nat.zero_le _,by simp⟩) ?_ (λ k f hx=>?_)
  ·repeat (first|exact bB _|refine aY (by exact rfl) ?_)
  dsimp only[fY,List.map,List.cons_append,List.nil_append]
  refine F0 ?_;refine dE ?_;refine vI ?_
  refine aZ (λ c14=>?_) (λ c14=>?_)
  ·refine nZ ?_;refine aR ?_;refine fJ [0,1,2,3,4,5,6,7,8] ?_;refine gP ?_;refine Qs ?_;refine gP ?_;refine Qs ?_;refine Bl ?_;refine dS ?_
   refine aZ (λ c25=>?_) (λ c25=>?_)
   ·refine cQ ?_
    refine aQ Tryz.results162 (λ w hw=>?_)
    exact⟨by rw[Cy c25];rfl,hw.done⟩
   ·refine lG ?_;refine zW ?_
    refine dO (k+1) ?_ ?_ ?_
    ·omega
    ·repeat' (first|exact bB _|refine aY ?_ ?_)
     exact rfl
    ·exact⟨by omega,vB hx.2 (by omega) (by omega) c25⟩
  ·refine bF rfl ?_;refine cQ ?_
   refine aQ Tryz.results162 (λ w hw=>?_)
   exact⟨by rw[A6 (k:=k) (by omega) (by omega) hx.2];rfl,hw.done⟩
theorem yk{xs ys:List Pr}{a b:Option Addr}{ca cb:Nat}{w:World}(ha:Cl w a (dG xs))(hb:Cl w b (dG ys))(hx:xs.length<4611686018427387904) :
  Calls Tryz.prog 163 #[.slice a xs.length ca,.slice b ys.length cb] w λ e w'=>e=.returned (.bool (decide (xs=ys)))/\St w [] [] w':=by
 refine enter Tryz.func163 Tryz.ntmps163 rfl rfl (SF.s2 ha hb) ?_
 simp only[cO]
 refine Ka7 ?_;refine dE ?_;refine aB ?_;refine dE ?_;refine Kc0 ?_
 refine aZ (λ c10=>?_) (λ c10=>?_)
 ·refine cQ ?_
  refine aQ Tryz.results163 (λ w hw=>?_)
  exact⟨by rw[Db (by omega)];rfl,hw.done⟩
 ·refine jM ?_;refine Gl ?_
  refine eY [4,5,11,12,13,14,15,16,17,18,19,20,21,22,23,24,25] (λ k=>[(5,.int .i64 ((k:Nat):Int))]) (λ k=>k<=xs.length/\xs.take k=ys.take k) (λ k=>xs.length-k) (0) (⟨Nat.zero_le _,by simp⟩) ?_ (λ k f hx=>?_)
  ·repeat (first|exact bB _|refine aY (by exact rfl) ?_)
  dsimp only[fY,List.map,List.cons_append,List.nil_append]
  refine F0 ?_;refine dE ?_;refine vI ?_
  refine aZ (λ c14=>?_) (λ c14=>?_)
  ·refine nZ ?_;refine aR ?_;refine fJ [0,1,2,3,4,5,6,7,8] ?_;refine gP ?_;refine Qs ?_;refine gP ?_;refine Qs ?_;refine Qi ?_;refine dS ?_
   refine aZ (λ c25=>?_) (λ c25=>?_)
   ·refine cQ ?_
    refine aQ Tryz.results163 (λ w hw=>?_)
    exact⟨by rw[E7 λ h=>c25 ⟨congrArg Prod.fst h,congrArg Prod.snd h⟩];rfl,hw.done⟩
   ·refine lG ?_;refine zW ?_
    refine dO (k+1) ?_ ?_ ?_
    ·omega
    ·repeat' (first|exact bB _|refine aY ?_ ?_)
     exact rfl
    ·exact⟨by omega,vB hx.2 (by omega) (by omega) (Prod.ext c25.1 c25.2)⟩
  ·refine bF rfl ?_;refine cQ ?_
   refine aQ Tryz.results163 (λ w hw=>?_)
   exact⟨by rw[Bu (k:=k) (by omega) (by omega) hx.2];rfl,hw.done⟩
theorem fp{xs ys:List Int}{a b:Option Addr}{ca cb:Nat}{w:World}(ha:Cl w a (aG xs))(hb:Cl w b (aG ys))(hx:xs.length<4611686018427387904) :
  Calls Tryz.prog 169 #[.slice a xs.length ca,.slice b ys.length cb] w λ e w'=>e=.returned (.bool (xs==ys))/\St w [] [] w':=by
 refine enter Tryz.func169 Tryz.ntmps169 rfl rfl (SF.s2 ha hb) ?_
 simp only[cO]
 refine Ka7 ?_;refine dE ?_;refine aB ?_;refine dE ?_;refine Kc0 ?_
 refine aZ (λ c10=>?_) (λ c10=>?_)
 ·refine cQ ?_
  refine aQ Tryz.results169 (λ w hw=>?_)
  exact⟨by rw[Fh (by omega)];rfl,hw.done⟩
 ·refine jM ?_;refine J2 ?_;refine Kb5 ?_
  refine eY [4,5,13,14,15,16,17,18,19,20,21,22,23,24,25] (λ k=>[(13,.int .i64 ((k:Nat):Int))]) (λ k=>k<=xs.length/\xs.take k=ys.take k) (λ k=>xs.length-k) (0) (⟨Nat.zero_le _,by simp⟩) ?_ (λ k f hx=>?_)
  ·repeat (first|exact bB _|refine aY (by exact rfl) ?_)
  dsimp only[fY,List.map,List.cons_append,List.nil_append]
  refine Kb3 ?_
  refine aZ (λ c14=>?_) (λ c14=>?_)
  ·refine nZ ?_;refine J2 ?_;refine gQ ?_;refine fJ [0,1,2,3,4,5,6,7,8] ?_;refine gP ?_;refine Qs ?_;refine gP ?_;refine Qs ?_;refine Bl ?_;refine dS ?_
   refine aZ (λ c24=>?_) (λ c24=>?_)
   ·refine cQ ?_
    refine aQ Tryz.results169 (λ w hw=>?_)
    exact⟨by rw[Cy c24];rfl,hw.done⟩
   ·refine Kc1 ?_
    refine dO (k+1) ?_ ?_ ?_
    ·omega
    ·repeat' (first|exact bB _|refine aY ?_ ?_)
     exact rfl
    ·exact⟨by omega,vB hx.2 (by omega) (by omega) c24⟩
  ·refine bF rfl ?_;refine cQ ?_
   refine aQ Tryz.results169 (λ w hw=>?_)
   exact⟨by rw[A6 (k:=k) (by omega) (by omega) hx.2];rfl,hw.done⟩
theorem tm{xs ys:List Pr}{a b:Option Addr}{ca cb:Nat}{w:World}(ha:Cl w a (dG xs))(hb:Cl w b (dG ys))(hx:xs.length<4611686018427387904) :
  Calls Tryz.prog 170 #[.slice a xs.length ca,.slice b ys.length cb] w λ e w'=>e=.returned (.bool (decide (xs=ys)))/\St w [] [] w':=by
 refine enter Tryz.func170 Tryz.ntmps170 rfl rfl (SF.s2 ha hb) ?_
 simp only[cO]
 refine Ka7 ?_;refine dE ?_;refine aB ?_;refine dE ?_;refine Kc0 ?_
 refine aZ (λ c10=>?_) (λ c10=>?_)
 ·refine cQ ?_
  refine aQ Tryz.results170 (λ w hw=>?_)
  exact⟨by rw[Db (by omega)];rfl,hw.done⟩
 ·refine jM ?_;refine J2 ?_;refine Kb5 ?_
  refine eY [4,5,13,14,15,16,17,18,19,20,21,22,23,24,25] (λ k=>[(13,.int .i64 ((k:Nat):Int))]) (λ k=>k<=xs.length/\xs.take k=ys.take k) (λ k=>xs.length-k) (0) (⟨Nat.zero_le _,by simp⟩) ?_ (λ k f hx=>?_)
  ·repeat (first|exact bB _|refine aY (by exact rfl) ?_)
  dsimp only[fY,List.map,List.cons_append,List.nil_append]
  refine Kb3 ?_
  refine aZ (λ c14=>?_) (λ c14=>?_)
  ·refine nZ ?_;refine J2 ?_;refine gQ ?_;refine fJ [0,1,2,3,4,5,6,7,8] ?_;refine gP ?_;refine Qs ?_;refine gP ?_;refine Qs ?_;refine Qi ?_;refine dS ?_
   refine aZ (λ c24=>?_) (λ c24=>?_)
   ·refine cQ ?_
    refine aQ Tryz.results170 (λ w hw=>?_)
    exact⟨by rw[E7 λ h=>c24 ⟨congrArg Prod.fst h,congrArg Prod.snd h⟩];rfl,hw.done⟩
   ·refine Kc1 ?_
    refine dO (k+1) ?_ ?_ ?_
    ·omega
    ·repeat' (first|exact bB _|refine aY ?_ ?_)
     exact rfl
    ·exact⟨by omega,vB hx.2 (by omega) (by omega) (Prod.ext c24.1 c24.2)⟩
  ·refine bF rfl ?_;refine cQ ?_
   refine aQ Tryz.results170 (λ w hw=>?_)
   exact⟨by rw[Bu (k:=k) (by omega) (by omega) hx.2];rfl,hw.done⟩
end

end Go.Proofs.YtadnboagdhcedaaGreatDoor
