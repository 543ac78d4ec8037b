/- Several loud operations may be next; the ways meet again. Written by a program. -/
import Derived.Test.YtadnboagdhcedaaGreatDoorAuto
import Derived.Test.YtadnboagdhcedaaGreatDoorGLst3
import Derived.Test.YtadnboagdhcedaaGreatDoorGFun

set_option linter.unusedSimpArgs false
set_option linter.unusedVariables false
namespace Go.Ct
section
open Go Go.RowKit
section
variable{P:Program}{n:Nat}{Q:Exit->Act->World->Prop}{ks:List CK}{ops:Array Oper}{pl pl':qP}{LL:List Nat}{Dl Dp Dq:List Nat}{S:List (Nat×Value)}{G:World->Prop}{w0:World}{M:List Nat}{H:List (Nat×Obj)}{A F:Fr}{O:List Ow}
inductive LS(P:Program)(n:Nat)(Q:Exit->Act->World->Prop)(ks:List CK)(ops:Array Oper)(Dl Dp Dq:List Nat)(S:List (Nat×Value))(G:World->Prop):qP->List Nat->Prop where
 | nil:LS P n Q ks ops Dl Dp Dq S G .nil []
 | cons {i:Nat} {L:List Nat} {pl q:qP} {E:List Nat} (h:gI P n Q ks ops pl Dl Dp Dq S G i L) (r:LS P n Q ks ops Dl Dp Dq S G q E):LS P n Q ks ops Dl Dp Dq S G (.two i L pl 0 [] q) (i::E)
theorem LS.get{pl:qP}{E:List Nat}(h:LS P n Q ks ops Dl Dp Dq S G pl E):∀i∈E,gI P n Q ks ops .nil Dl Dp Dq S G i []:=by
 induction h with
 | nil=>exact λ _ h=>(List.not_mem_nil h).elim
 | cons h _ ih =>
  intro j hj
  rcases List.mem_cons.1 hj with rfl|hj
  ·exact h.tz
  ·exact ih j hj
theorem fV{E:List Nat}{q:qP}(hc:jD ops Dl Dp Dq E=true)(h:LS P n Q ks ops Dl Dp Dq S G q E):JR P n Q ks ops q Dl Dp Dq S G:=by
 simp only[jD,Bool.and_eq_true] at hc
 exact⟨fx (pl':=.nil) (LL:=[]) hc.1.1 hc.1.2 hc.2 h.get⟩
theorem ma{X:Type}(keys:List Nat)(K:X->List (Nat×Value))(GI:X->World->Prop){c:Code}(hn:(keys.all λ k=>Nat.blt k n)=true)(hKn:∀x,((K x).all λ p=>Nat.blt p.1 n)=true)
  (h1:JK P n Q (.code c::.inv (lK n keys K GI (λ _=>0) S 1)::ks) S G) (h2:∀x f,JK P n Q ks (K x++(gC keys f++S)) (GI x)):JK P n Q (.code c::ks) S G:=⟨λ hS w hw=>by
 have h:=h1.run hS w hw;simp only[runK] at h ⊢
 intro b k cs
 obtain⟨e,a₁,w₁,hq,harr⟩:=h b k cs
 rw[Q1] at hq
 refine⟨e,a₁,w₁,?_,harr⟩
 cases e with
 | normal =>
  obtain⟨x',S1,_,rfl,_,hk',hp',hg'⟩:=hq
  have:=(h2 x' (look S1)).run ((hS.gC hn).mX (hKn x')) w₁ hg';rw[<- Rz hp' hk'] at this;exact this
 | exit id=>exact hq
 | goto l=>exact hq
 | ret=>exact hq
 | panic ch=>exact hq
 | outgrown=>exact hq⟩
theorem Bt{Y:Type}(keys:List Nat)(K:Y->List (Nat×Value))(I:Y->Prop)(Hc:Y->List (Nat×Obj))(Fc:Y->Fr)(Oc:Y->List Ow){H1:Y->List (Nat×Obj)}{F1:Y->Fr}{O1:Y->List Ow}{c:Code}(hn:(keys.all λ k=>Nat.blt k n)=true)(hKn:∀x,((K x).all λ p=>Nat.blt p.1 n)=true)
  (hH1:∀x,Hc x++H=H1 x) (hF1:∀x,Fc x++F=F1 x) (hO1:∀x,Oc x++O=O1 x)
  (h1:JK P n Q (.code c::.inv (lK n keys K (λ x w=>I x/\SF w0 M (H1 x) A (F1 x) (O1 x) w) (λ _=>0) S 1)::ks) S (SF w0 M H A F O))
  (h2:∀x f,I x->JK P n Q ks (K x++(gC keys f++S)) (SF w0 M (H1 x) A (F1 x) (O1 x))):JK P n Q (.code c::ks) S (SF w0 M H A F O):=ma keys K _ hn hKn h1 λ x f=>S8 λ h=>h2 x f h
theorem eN{Y:Type}(keys:List Nat)(K:Y->List (Nat×Value))(I:Y->Prop)(H1:Y->List (Nat×Obj))(F1:Y->Fr)(O1:Y->List Ow){c:Code}(hn:(keys.all λ k=>Nat.blt k n)=true)(hKn:∀x,((K x).all λ p=>Nat.blt p.1 n)=true)
  (h1:JK P n Q (.code c::.inv (lK n keys K (λ x w=>I x/\SF w0 M (H1 x) A (F1 x) (O1 x) w) (λ _=>0) S 1)::ks) S (SF w0 M H A F O))
  (h2:∀x f,I x->JK P n Q ks (K x++(gC keys f++S)) (SF w0 M (H1 x) A (F1 x) (O1 x))):JK P n Q (.code c::ks) S (SF w0 M H A F O):=ma keys K _ hn hKn h1 λ x f=>S8 λ h=>h2 x f h
theorem W2{H':List (Nat×Obj)}{O':List Ow}(hH:H'.Perm H)(hO:O'.Perm O):(Ks H' O').Perm (Ks H O):=(hH.map _).append (List.Perm.flatMap_right _ hO)
theorem St.perm{w w0:World}{H H':List (Nat×Obj)}(h:St w0 M H w)(hs:H'.Perm H):St w0 M H' w:=⟨h.os,h.tape,h.output,h.size,h.kY,λ p hp=>h.has p (hs.mem_iff.1 hp),λ p hp=>h.new p (hs.mem_iff.1 hp),(hs.map _).nodup_iff.2 h.nodup⟩
theorem SF.perm{w:World}{H':List (Nat×Obj)}{O':List Ow}(h:SF w0 M H A F O w)(hH:H'.Perm H)(hO:O'.Perm O):SF w0 M H' A F O' w:=by
 have hs:=W2 hH hO;exact⟨h.st.perm hH,λ f hf=>⟨(h.bO f hf).1,λ hc hm=>(h.bO f hf).2 hc (hs.mem_iff.1 hm)⟩,λ f hf=>⟨(h.new f hf).1,λ hc=>⟨λ hm=>((h.new f hf).2 hc).1 (hs.mem_iff.1 hm),((h.new f hf).2 hc).2⟩⟩,λ o ho=>h.own o (hO.mem_iff.1 ho),hs.nodup_iff.2 h.dis⟩
end
end
end Go.Ct
namespace Go.Proofs.YtadnboagdhcedaaGreatDoor
section
open Go Go.RowKit Go.Ct
variable{n:Nat}{Q:Exit->Act->World->Prop}{ks:List CK}{S:List (Nat×Value)}{ops:Array Oper}{l ol:List Oper}{pl:qP}{LL:List Nat}{Dl Dp Dq:List Nat}
variable{w0:World}{M:List Nat}{H:List (Nat×Obj)}{A F:Fr}{O:List Ow}{G:World->Prop}{i d:Nat}{v:Value}{op:Op}{ty:TypeId}{pos:String}{af:Array Edge}{gd:Option (Nat×Bool)}{X:Type}{V:X->Value}{G':X->World->Prop}{j g:Nat}{want t:Bool}
theorem vJ(ho:eY ol i ⟨some d,op,ty,pos,af,gd⟩:=by exact gR)(hw:Region.wanted ⟨some d,op,ty,pos,af,gd⟩ (bN ⟨ol⟩ S)=true:=by exact rfl)(hq:aX Tryz.prog S G ⟨some d,op,ty,pos,af,gd⟩ X V G':=by first|exact De vj|exact C1 Yd|exact C5 Yi rf)(hc:iI ⟨ol⟩ n Dl Dp Dq i (some d)=true:=by decide +kernel)(hL:((Ct.waiting ⟨ol⟩ Dq i).all λ j=>LL.elem j)=true:=by decide +kernel)(hfire:∀x,aG Tryz.prog ⟨ol⟩ ((d,V x)::S) (G' x) LL:=by exact nE)(h:∀x,JR Tryz.prog n Q ks ⟨ol⟩ pl (i::Dl) Dp Dq ((d,V x)::S) (G' x)):gI Tryz.prog n Q ks ⟨ol⟩ pl Dl Dp Dq S G i LL:=kX ho hw hq hc hL hfire h
theorem Gg(ho:eY ol i ⟨some d,op,ty,pos,af,gd⟩:=by exact gR)(hw:Region.wanted ⟨some d,op,ty,pos,af,gd⟩ (bN ⟨ol⟩ S)=true:=by exact rfl)(hq:aX Tryz.prog S G ⟨some d,op,ty,pos,af,gd⟩ X V G':=by exact G9)(hc:iI ⟨ol⟩ n Dl Dp Dq i (some d)=true:=by decide +kernel)(hL:((Ct.waiting ⟨ol⟩ Dq i).all λ j=>LL.elem j)=true:=by decide +kernel)(hfire:∀x,aG Tryz.prog ⟨ol⟩ ((d,V x)::S) (G' x) LL:=by exact nE)(h:∀x,JR Tryz.prog n Q ks ⟨ol⟩ pl (i::Dl) Dp Dq ((d,V x)::S) (G' x)):gI Tryz.prog n Q ks ⟨ol⟩ pl Dl Dp Dq S G i LL:=kX ho hw hq hc hL hfire h
theorem jE(ho:eY ol i ⟨some d,op,ty,pos,af,gd⟩:=by exact gR)(hw:Region.wanted ⟨some d,op,ty,pos,af,gd⟩ (bN ⟨ol⟩ S)=true:=by exact rfl)(hq:aX Tryz.prog S G ⟨some d,op,ty,pos,af,gd⟩ X V G':=by exact uA)(hc:iI ⟨ol⟩ n Dl Dp Dq i (some d)=true:=by decide +kernel)(hL:((Ct.waiting ⟨ol⟩ Dq i).all λ j=>LL.elem j)=true:=by decide +kernel)(hfire:∀x,aG Tryz.prog ⟨ol⟩ ((d,V x)::S) (G' x) LL:=by exact nE)(h:∀x,JR Tryz.prog n Q ks ⟨ol⟩ pl (i::Dl) Dp Dq ((d,V x)::S) (G' x)):gI Tryz.prog n Q ks ⟨ol⟩ pl Dl Dp Dq S G i LL:=kX ho hw hq hc hL hfire h
theorem gW(ho:eY ol i ⟨some d,op,ty,pos,af,gd⟩:=by exact gR)(hw:Region.wanted ⟨some d,op,ty,pos,af,gd⟩ (bN ⟨ol⟩ S)=true:=by exact rfl)(hq:aX Tryz.prog S G ⟨some d,op,ty,pos,af,gd⟩ X V G':=by exact Nf)(hc:iI ⟨ol⟩ n Dl Dp Dq i (some d)=true:=by decide +kernel)(hL:((Ct.waiting ⟨ol⟩ Dq i).all λ j=>LL.elem j)=true:=by decide +kernel)(hfire:∀x,aG Tryz.prog ⟨ol⟩ ((d,V x)::S) (G' x) LL:=by exact nE)(h:∀x,JR Tryz.prog n Q ks ⟨ol⟩ pl (i::Dl) Dp Dq ((d,V x)::S) (G' x)):gI Tryz.prog n Q ks ⟨ol⟩ pl Dl Dp Dq S G i LL:=kX ho hw hq hc hL hfire h
theorem Xn(ho:eY ol i ⟨some d,op,ty,pos,af,gd⟩:=by exact gR)(hw:Region.wanted ⟨some d,op,ty,pos,af,gd⟩ (bN ⟨ol⟩ S)=true:=by exact rfl)(hq:aX Tryz.prog S G ⟨some d,op,ty,pos,af,gd⟩ X V G':=by exact fO (Fl wn))(hc:iI ⟨ol⟩ n Dl Dp Dq i (some d)=true:=by decide +kernel)(hL:((Ct.waiting ⟨ol⟩ Dq i).all λ j=>LL.elem j)=true:=by decide +kernel)(hfire:∀x,aG Tryz.prog ⟨ol⟩ ((d,V x)::S) (G' x) LL:=by exact nE)(h:∀x,JR Tryz.prog n Q ks ⟨ol⟩ pl (i::Dl) Dp Dq ((d,V x)::S) (G' x)):gI Tryz.prog n Q ks ⟨ol⟩ pl Dl Dp Dq S G i LL:=kX ho hw hq hc hL hfire h
theorem Ga(ho:eY ol i ⟨some d,op,ty,pos,af,gd⟩:=by exact gR)(hw:Region.wanted ⟨some d,op,ty,pos,af,gd⟩ (bN ⟨ol⟩ S)=true:=by exact rfl)(hq:aX Tryz.prog S G ⟨some d,op,ty,pos,af,gd⟩ X V G')(hc:iI ⟨ol⟩ n Dl Dp Dq i (some d)=true:=by decide +kernel)(hL:((Ct.waiting ⟨ol⟩ Dq i).all λ j=>LL.elem j)=true:=by decide +kernel)(hfire:∀x,aG Tryz.prog ⟨ol⟩ ((d,V x)::S) (G' x) LL:=by exact nE)(h:∀x,JR Tryz.prog n Q ks ⟨ol⟩ pl (i::Dl) Dp Dq ((d,V x)::S) (G' x)):gI Tryz.prog n Q ks ⟨ol⟩ pl Dl Dp Dq S G i LL:=kX ho hw hq hc hL hfire h
theorem mI{φ:X->Prop}(ho:eY ol i ⟨some d,op,ty,pos,af,gd⟩:=by exact gR)(hw:Region.wanted ⟨some d,op,ty,pos,af,gd⟩ (bN ⟨ol⟩ S)=true:=by exact rfl)(hq:aX Tryz.prog S G ⟨some d,op,ty,pos,af,gd⟩ X V (λ x w=>φ x/\G' x w))(hc:iI ⟨ol⟩ n Dl Dp Dq i (some d)=true:=by decide +kernel)(hL:((Ct.waiting ⟨ol⟩ Dq i).all λ j=>LL.elem j)=true:=by decide +kernel)(hfire:∀x,aG Tryz.prog ⟨ol⟩ ((d,V x)::S) (λ w=>φ x/\G' x w) LL:=by exact nE)(h:∀x,φ x->JR Tryz.prog n Q ks ⟨ol⟩ pl (i::Dl) Dp Dq ((d,V x)::S) (G' x)):gI Tryz.prog n Q ks ⟨ol⟩ pl Dl Dp Dq S G i LL:=kX ho hw hq hc hL hfire λ x=>dO (h x)
end

/- The engine, part 12: a callee that may change several of its caller's blocks and own lists. -/
end Go.Proofs.YtadnboagdhcedaaGreatDoor
namespace Go.Ct
section
open Go Go.RowKit
section
variable{α:Type}
inductive Up:List α->Nat->α->Prop where
 | head {a:α} {l:List α}:Up (a::l) 0 a
 | tail {a b:α} {l:List α} {i:Nat}:Up l i b->Up (a::l) (i+1) b
def Sw:List α->Nat->List α
 | [],_=>[]
 | _::r,0=>r
 | p::r,i+1=>p::Sw r i
def Ub:List α->Nat->α->List α
 | l,0,a=>a::l
 | p::r,i+1,a=>p::Ub r i a
 | [],_+1,a=>[a]
inductive D3:List α->List Nat->List α->List α->Prop where
 | nil {l:List α}:D3 l [] [] l
 | cons {l es r:List α} {i:Nat} {a:α} {js:List Nat}:Up l i a->D3 (Sw l i) js es r->D3 l (i::js) (a::es) r
def Ej:List Nat->List α->List α->List α
 | i::js,a::es,r=>Ub (Ej js es r) i a
 | _,_,r=>r
theorem Up.perm{l:List α}{i:Nat}{a:α}(h:Up l i a):l.Perm (a::Sw l i):=by
 induction h with
 | head=>exact List.Perm.refl _
 | tail _ ih=>exact(ih.cons _).trans (List.Perm.swap _ _ _)
theorem Ka(a:α):∀(l:List α) (i:Nat),(Ub l i a).Perm (a::l)
 | l,0=>by cases l<;>exact List.Perm.refl _
 | [],_+1=>List.Perm.refl _
 | p::r,i+1=>((Ka a r i).cons p).trans (List.Perm.swap _ _ _)
theorem D3.perm{l es r:List α}{js:List Nat}(h:D3 l js es r):l.Perm (es++r):=by
 induction h with
 | nil=>exact List.Perm.refl _
 | cons h _ ih=>exact h.perm.trans (ih.cons _)
theorem C2:∀(js:List Nat) (es r:List α),js.length=es.length->(Ej js es r).Perm (es++r)
 | [],[],_,_=>List.Perm.refl _
 | i::js,a::es,r,h=>(Ka a _ i).trans ((C2 js es r (by simpa using h)).cons a)
 | [],_::_,_,h=>by simp at h
 | _::_,[],_,h=>by simp at h
end
section
variable{P:Program}{S:List (Nat×Value)}{w0 w w':World}{M:List Nat}{H H' hs:List (Nat×Obj)}{A F:Fr}{O O' os:List Ow}{is js:List Nat}
def Has(A F:Fr)(O:List Ow)(f:Option Addr×List Value):Prop:=f.2=[]∨f∈A∨f∈F∨∃o∈O,o.p=f.1/\o.cs=f.2
inductive bU(A F:Fr)(O:List Ow):Fr->Prop where
 | nil:bU A F O []
 | cons {f:Option Addr×List Value} {r:Fr} (h:Has A F O f) (hr:bU A F O r):bU A F O (f::r)
 | of {A0:Fr} (h:∀f∈A0,Has A F O f):bU A F O A0
theorem bU.get{A0:Fr}(h:bU A F O A0):∀f∈A0,Has A F O f:=by
 induction h with
 | nil=>intro f hf;exact(List.not_mem_nil hf).elim
 | cons h _ ih =>
  intro f hf
  rcases List.mem_cons.1 hf with rfl|hf
  ·exact h
  ·exact ih f hf
 | of h=>exact h
theorem nP.eI{a:Option Addr}{cs:List Value}:∀{F:Fr},(a,cs)∈F->nP F a cs
 | [],h=>(List.not_mem_nil h).elim
 | (b,d)::F,h=>by
  rcases List.mem_cons.1 h with h|h
  ·cases h;exact .head
  ·exact .tail (nP.eI h)
theorem aP.kJ{F:Fr}:∀{F':Fr},(∀f∈F',f∈F)->aP F F'
 | [],_=>.nil
 | (a,cs)::F',h=>.cons (nP.eI (h _ (List.mem_cons_self ..))) (aP.kJ λ f hf=>h f (List.mem_cons_of_mem _ hf))
theorem SF.clH(h:SF w0 M H A F O w){f:Option Addr×List Value}(hf:Has A F O f):Cl w f.1 f.2:=by
 rcases hf with h0|h1|h1|⟨o,ho,h1,h2⟩
 ·rw[h0];exact Cl.nil _ _
 ·exact(h.bO f h1).1
 ·exact(h.new f h1).1
 ·rw[<- h1,<- h2];exact(h.own o ho).1.cl
theorem SF.kB{w0 w:World}{M:List Nat}{H:List (Nat×Obj)}{A F:Fr}{O:List Ow}(h:SF w0 M H A F O w){L:List aI}{cs:List Int}{pn pc:Option Addr}(h1:Has A F O (pn,fX L))(h2:Has A F O (pc,aH cs))(h3:∀f∈bD L,Has A F O f)(hf:Fits L):eP w L cs pn pc :=
 ⟨h.clH h1,h.clH h2,λ f hm=>h.clH (h3 f hm),hf⟩
theorem SF.E6(h:SF w0 M H A F O w)(hH:D3 H is hs H')(hO:D3 O js os O'){A0:Fr}(hA:bU A F O' A0):SF w (Ks hs os) hs A0 [] os w:=by
 have pH:=hH.perm;have pO:=hO.perm;have h1:=h.perm pH.symm pO.symm;have hnd:=(W2 pH.symm pO.symm).nodup_iff.2 h.dis
 have sub:(Ks hs os).Sublist (Ks (hs++H') (os++O')):=by
  unfold Ks
  rw[List.map_append,List.flatMap_append]
  exact(List.sublist_append_left _ _).append (List.sublist_append_left _ _)
 have nd1:(Ks hs os).Nodup:=hnd.sublist sub
 have kperm:(Ks (hs++H') (os++O')).Perm (Ks hs os++Ks H' O'):=by
  unfold Ks
  rw[List.map_append,List.flatMap_append]
  simp only[List.append_assoc]
  refine List.Perm.append_left _ ?_;rw[<- List.append_assoc,<- List.append_assoc];exact List.Perm.append_right _ List.perm_append_comm
 have disj:∀b∈Ks hs os,b∉Ks H' O':=λ b hb hm=>(List.nodup_append.1 (kperm.nodup_iff.1 hnd)).2.2 b hb b hm rfl;refine⟨⟨rfl,rfl,rfl,Nat.le_refl _,λ _ _ _=>rfl,λ p hp=>h1.st.has p (List.mem_append_left _ hp),λ p hp=>.inl (eW.2 (.inl ⟨p,hp,rfl⟩)),(List.nodup_append.1 nd1).1⟩,λ f hf=>?_,λ _ h=>(List.not_mem_nil h).elim,λ o ho=>⟨(h1.own o (List.mem_append_left _ ho)).1,λ b hb=>.inr (eW.2 (.inr ⟨o,ho,hb⟩))⟩,nd1⟩;have hg:=hA.get f hf;refine⟨?_,λ hc hm=>?_⟩
 ·rcases hg with h0|h2|h2|⟨o,ho,h2,h3⟩
  ·rw[h0];exact Cl.nil _ _
  ·exact(h.bO f h2).1
  ·exact(h.new f h2).1
  ·rw[<- h2,<- h3];exact(h1.own o (List.mem_append_right _ ho)).1.cl
 ·rcases hg with h0|h2|h2|⟨o,ho,h2,h3⟩
  ·exact hc h0
  ·exact(h1.bO f h2).2 hc (sub.subset hm)
  ·exact((h1.new f h2).2 hc).1 (sub.subset hm)
  ·have hok:=(h1.own o (List.mem_append_right _ ho)).1;have hb:=hok.Ru (by rw[h3];exact hc);exact disj _ hm (eW.2 (.inr ⟨o,ho,by rw[hb,h2];exact List.mem_singleton.2 rfl⟩))
theorem SF.Xb(h:SF w0 M H A F O w)(hH:D3 H is hs H')(hO:D3 O js os O'){hs' Hc:List (Nat×Obj)}{os' Oc:List Ow}{Fc:Fr}
  (hc:SF w (Ks hs os) (hs'++Hc) [] Fc (os'++Oc) w') (h1:is.length=hs'.length) (h2:js.length=os'.length) :
  SF w0 M (Hc++Ej is hs' H') A (Fc++F) (Oc++Ej js os' O') w':=by
 have pH:=hH.perm;have pO:=hO.perm;have hp:=h.perm pH.symm pO.symm;have qH:=C2 is hs' H' h1;have qO:=C2 js os' O' h2
 have kperm:∀(a c:List (Nat×Obj)) (b d:List Ow),(Ks (a++c) (b++d)).Perm (Ks a b++Ks c d):=λ a c b d=>by
  unfold Ks
  rw[List.map_append,List.flatMap_append]
  simp only[List.append_assoc]
  refine List.Perm.append_left _ ?_;rw[<- List.append_assoc,<- List.append_assoc];exact List.Perm.append_right _ List.perm_append_comm
 have nd0:=(kperm hs H' os O').nodup_iff.1 hp.dis;have disj:∀b∈Ks hs os,b∉Ks H' O':=λ b hb hm=>(List.nodup_append.1 nd0).2.2 b hb b hm rfl;have sub:∀b∈Ks hs' os',b∈Ks (hs'++Hc) (os'++Oc):=λ b hb=>(kperm hs' Hc os' Oc).mem_iff.2 (List.mem_append_left _ hb)
 have nd1:(Ks (hs'++H') (os'++O')).Nodup:=by
  rw[(kperm hs' H' os' O').nodup_iff];refine List.nodup_append.2 ⟨(List.nodup_append.1 ((kperm hs' Hc os' Oc).nodup_iff.1 hc.dis)).1,(List.nodup_append.1 nd0).2.1,λ a ha b hb e=>?_⟩;subst e;rcases hc.Sd a (sub a ha) with h3|h3
  ·have:=hp.lt a ((kperm hs H' os O').mem_iff.2 (List.mem_append_right _ hb));omega
  ·exact disj a h3 hb
 have r:=hp.iy (D:=Ks hs os) (Hm:=hs') (Hc:=Hc) (H1:=hs'++H') (Fc:=Fc) (Om:=os') (Oc:=Oc) (O1:=os'++O') hc (λ b hb=>(kperm hs H' os O').mem_iff.2 (List.mem_append_left _ hb))
  (λ p hpm=>by
   rcases List.mem_append.1 hpm with h3|h3
   ·exact .inl h3
   ·exact .inr ⟨List.mem_append_right _ h3,λ hm=>disj _ hm (eW.2 (.inl ⟨p,h3,rfl⟩))⟩)
  (λ o ho=>by
   rcases List.mem_append.1 ho with h3|h3
   ·exact .inl h3
   ·exact .inr ⟨List.mem_append_right _ h3,λ b hb hm=>disj _ hm (eW.2 (.inr ⟨o,h3,hb⟩))⟩)
  nd1
 exact r.perm (List.Perm.append_left _ qH) (List.Perm.append_left _ qO)
theorem SF.fN(h:SF w0 M H A F O w){F':Fr}(hF:∀f∈F',f.2=[]∨f∈F):SF w0 M H A F' O w:=⟨h.st,h.bO,λ f hf=>by
 rcases hF f hf with h0|h1
 ·exact⟨by rw[h0];exact Cl.nil _ _,λ hc=>absurd h0 hc⟩
 ·exact h.new f h1,h.own,h.dis⟩
theorem SF.Oj{o1 o2:Ow}(h:SF w0 M H A F (o1::o2::O) w):SF w0 M H A F (o2::o1::O) w:=h.perm (List.Perm.refl _) (List.Perm.swap _ _ _)
theorem SF.aB7{L:List aI}{v:aI}{F':Fr}(h:SF w0 M H A F O w)(h1:(v.nd.brA,aH v.xs)∈F)(h2:(v.nd.prA,dK v.ys)∈F)(h3:∀f∈bD L,f∈F):SF w0 M H A (bD (L++[v])) O w:=h.fN λ f hf=>by
 rw[fH] at hf
 rcases List.mem_append.1 hf with hf|hf
 ·exact .inr (h3 f hf)
 ·simp only[bD,List.flatMap_cons,List.flatMap_nil,List.append_nil,aI.fr,List.mem_cons,List.not_mem_nil,or_false] at hf
  rcases hf with rfl|rfl
  ·exact .inr h1
  ·exact .inr h2
theorem aP.all{F:Fr}:aP F F:=aP.kJ λ _ h=>h
theorem SF.zA0{w:World}{H':List (Nat×Obj)}{O':List Ow}(h:SF w0 M H A F O w)(hH:H'.Sublist H:=by repeat (first|exact List.nil_sublist _|apply List.Sublist.cons_cons|apply List.Sublist.cons))(hO:O'.Sublist O:=by repeat (first|exact List.nil_sublist _|apply List.Sublist.cons_cons|apply List.Sublist.cons)):SF w0 M H' [] F O' w:=h.aQ hH aP.all hO
theorem SF.zA1{w:World}{H':List (Nat×Obj)}{O':List Ow}(h:SF w0 M H A F O w)(hH:H'.Sublist H:=by repeat (first|exact List.Sublist.refl _|exact List.nil_sublist _|apply List.Sublist.cons))(hO:O'.Sublist O:=by repeat (first|exact List.Sublist.refl _|exact List.nil_sublist _|apply List.Sublist.cons)):SF w0 M H' A F O' w:=h.back hH aP.all hO
end
end

/- Memories: the rule for calls that may change them. -/
end Go.Ct
namespace Go.Proofs.YtadnboagdhcedaaGreatDoor
section
open Go Go.RowKit Go.Ct
abbrev mO(L:List aI)(cs:List Int)(gen acc:Int)(pn:Option Addr)(cn:Nat)(pc:Option Addr)(cc:Nat):Obj:=.cells ⟨[.slice pn L.length cn,.slice pc cs.length cc,.int .i64 gen,.int .i64 acc]⟩ 35 (0,0)
abbrev aO(L:List aI)(cs:List Int)(gen acc:Int)(pn:Option Addr)(cn:Nat)(pc:Option Addr)(cc:Nat):Obj:=.cells ⟨[.slice pn L.length cn,.slice pc cs.length cc,.int .i64 gen,.int .i64 acc]⟩ 153 (0,0)
abbrev mW(L:List aI)(cs:List Int)(pn:Option Addr)(cn:Nat)(pc:Option Addr)(cc:Nat):List Ow:=[⟨pn,fX L,cn,77,14⟩,⟨pc,aH cs,cc,62,1⟩]
theorem zD{w0 w:World}{D:List Nat}{b:Nat}{L:List aI}{cs:List Int}{gen acc:Int}{pn pc:Option Addr}{cn cc:Nat}{A F:Fr}(h:SF w0 D [(b,mO L cs gen acc pn cn pc cc)] A F (mW L cs pn cn pc cc) w) :
  SF w0 D [(b,.cells ⟨[.slice pn L.length cn,.slice pc cs.length cc,.int .i64 gen,.int .i64 acc]⟩ 35 (0,0))] A F [⟨pn,fX L,cn,77,14⟩,⟨pc,aH cs,cc,62,1⟩] w:=h
variable{S:List (Nat×Value)}{w0 w:World}{M:List Nat}{H:List (Nat×Obj)}{A F:Fr}{O:List Ow}{ty:TypeId}{pos:String}{af:Array Edge}{gd:Option (Nat×Bool)}{X:Type}{V:X->Value}
theorem cM{φ:X->Prop}{hs H':List (Nat×Obj)}{os O':List Ow}{hs' H1:X->List (Nat×Obj)}{os' O1:X->List Ow}{Fc F1:X->Fr}{A0:Fr}{is js:List Nat}{f:FuncId}{xs:List Operand}{at_:Array TypeId}{vs:List Value}{dst:Option Nat}
  (ha:B3 S xs=vs:=by(repeat (first|exact qY _|(apply oL;focus ((conv=>{lhs;whnf});try exact rfl))));first|done|fail) (hp:plain Tryz.prog f=true:=by kernel_rfl)
  (hc:∀w,SF w (Ks hs os) hs A0 [] os w->Calls Tryz.prog f ⟨vs⟩ w λ e w'=>∃x,e=.returned (V x)/\φ x/\SF w (Ks hs os) (hs' x) [] (Fc x) (os' x) w')
  (hH:D3 H is hs H':=by(repeat (first|exact D3.nil|(apply D3.cons;(focus ((repeat (first|exact Up.head|apply Up.tail));done));simp only[Sw])));first|done|fail)
  (hO:D3 O js os O':=by(repeat (first|exact D3.nil|(apply D3.cons;(focus ((repeat (first|exact Up.head|apply Up.tail));done));simp only[Sw])));first|done|fail)
  (hA:bU A F O' A0:=by(repeat (first|exact bU.of (λ _ h=>Or.inr (Or.inl h))|exact bU.nil|(refine bU.cons (by first|exact Or.inl rfl|exact Or.inr (Or.inr (Or.inl (by simp)))|exact Or.inr (Or.inl (by simp))|exact Or.inr (Or.inr (Or.inr (by simp)))) ?_)));first|done|fail)
  (hl1:∀x,is.length=(hs' x).length:=by intro x;exact rfl) (hl2:∀x,js.length=(os' x).length:=by intro x;exact rfl)
  (hH1:∀x,Ej is (hs' x) H'=H1 x:=by intro x;first|(simp only[Ej,Ub];exact rfl)|exact rfl) (hF1:∀x,Fc x++F=F1 x:=by intro x;first|(simp only[List.nil_append,List.cons_append];exact rfl)|exact rfl) (hO1:∀x,Ej js (os' x) O'=O1 x:=by intro x;simp only[Ej,Ub,mW];exact rfl) :
  aX Tryz.prog S (SF w0 M H A F O) ⟨dst,.call {callee:=.value (.func f),args:=⟨xs⟩,argTypes:=at_},ty,pos,af,gd⟩ X V (λ x w=>φ x/\SF w0 M (H1 x) A (F1 x) (O1 x) w) :=
 mC (oE hp ha) λ w hw=>(hc w (hw.E6 hH hO hA)).mono λ _ _ ⟨x,he,hx,hs⟩=>⟨x,he,hx,by
  have:=hw.Xb (hs':=hs' x) (Hc:=[]) (os':=os' x) (Oc:=[]) hH hO (by simpa using hs) (hl1 x) (hl2 x);rw[<- hH1 x,<- hF1 x,<- hO1 x]
  simpa using this⟩
end

/- The small methods of the two memories: cells, generations, loads, compare-and-swaps. -/
section
open Go.RowKit Go.Ct
variable{w:World}{D:List Nat}{b:Nat}{L:List aI}{cs:List Int}{gen acc:Int}{pn pc:Option Addr}{cn cc:Nat}{A:Fr}
theorem kH(v:Int)(hs:SF w D [(b,mO L cs gen acc pn cn pc cc)] A [] (mW L cs pn cn pc cc) w)(hl:cs.length<=274877906944) :
  Calls Tryz.prog 33 #[.pointer (some ⟨b,0,none⟩),.int .i64 v] w λ e w'=>∃q:Option Addr×Nat,e=.returned (.int .i64 ((cs.length+1:Nat):Int))/\True /\
   SF w D [(b,mO L (cs++[v]) gen acc pn cn q.1 q.2)] [] [] (mW L (cs++[v]) pn cn q.1 q.2) w':=by
 refine enter Tryz.func33 Tryz.ntmps33 rfl rfl (zD hs) ?_;simp only[cP]
 refine cR ?_;refine jJ ?_;refine Ns ?_;refine J3 ?_;refine aB ?_;refine fD (λ x12=>?_);(refine fB (λ x13=>?_);try (refine fL (λ h13=>?_)));refine Ns ?_;refine zV ?_;refine Ii ?_;refine I3 ?_;refine J1 ?_;refine aR Tryz.results33 (λ w hw=>?_);exact⟨x13,rfl,trivial,by simpa[mO,mW] using hw.aQ (F':=[])⟩
end

/- The small methods of the two memories: generations, loads, compare-and-swaps. -/
end Go.Proofs.YtadnboagdhcedaaGreatDoor
namespace Go.Ct
section
def bV(cs:List Int)(c:Int):Int:=if 1<=c/\c<=cs.length then cs.getD (c-1).toNat 0 else 0
def nD(cs:List Int)(c bO:Int):Prop:=1<=c/\c<=cs.length/\cs.getD (c-1).toNat 0=bO
def iR(cs:List Int)(c bO new:Int):List Int:=if 1<=c/\c<=cs.length/\cs.getD (c-1).toNat 0=bO then cs.set (c-1).toNat new else cs
def up(i:Int):Int:=Go.IntKind.i64.wrap (i+1)
theorem sB{cs:List Int}{c:Int}(h:¬(1<=c/\c<=cs.length)):bV cs c=0:=if_neg h
theorem rX{cs:List Int}{k:Nat}(h:k<cs.length):bV cs ((k+1:Nat):Int)=cs.getD k 0:=by
 unfold bV
 rw[if_pos (by omega),show(((k+1:Nat):Int)-1).toNat=k by omega]
theorem Ey{cs:List Int}{c bO new:Int}(h:¬(1<=c/\c<=cs.length/\cs.getD (c-1).toNat 0=bO)):iR cs c bO new=cs:=if_neg h
theorem su{cs:List Int}{k:Nat}{bO new:Int}(h:k<cs.length)(ho:cs.getD k 0=bO):iR cs ((k+1:Nat):Int) bO new=cs.set k new:=by
 have e:(((k+1:Nat):Int)-1).toNat=k:=by omega
 unfold iR
 rw[e,if_pos ⟨by omega,by omega,ho⟩]
theorem aAz{cs:List Int}{c bO:Int}(h:c<1):(false=true↔nD cs c bO):=⟨(λ h=>nomatch h),λ h2=>absurd h2.1 (by omega)⟩
theorem ow{cs:List Int}{c bO new:Int}(h:c<1):iR cs c bO new=cs:=Ey (by omega)
theorem zu{cs:List Int}{c bO:Int}(h:(cs.length:Int)<c):(false=true↔nD cs c bO):=⟨(λ h=>nomatch h),λ h2=>absurd h2.2.1 (by omega)⟩
theorem sb{cs:List Int}{c bO new:Int}(h:(cs.length:Int)<c):iR cs c bO new=cs:=Ey (by omega)
theorem w4{cs:List Int}{k:Nat}{bO:Int}(h:cs.getD k 0≠bO):(false=true↔nD cs ((k+1:Nat):Int) bO):=⟨(λ h=>nomatch h),λ h2=>absurd (by have:=h2.2.2;rwa [show(((k+1:Nat):Int)-1).toNat=k by omega] at this) h⟩
theorem s4{cs:List Int}{k:Nat}{bO new:Int}(h:cs.getD k 0≠bO):iR cs ((k+1:Nat):Int) bO new=cs:=Ey λ h2=>absurd (by have:=h2.2.2;rwa [show(((k+1:Nat):Int)-1).toNat=k by omega] at this) h
theorem aAt{cs:List Int}{k:Nat}{bO:Int}(hk:k<cs.length)(h:cs.getD k 0=bO):(true=true↔nD cs ((k+1:Nat):Int) bO):=⟨λ _=>⟨by omega,by omega,by rw[show(((k+1:Nat):Int)-1).toNat=k by omega];exact h⟩,λ _=>rfl⟩
theorem oI{cs:List Int}{c bO new:Int}:(iR cs c bO new).length=cs.length:=by unfold iR;split<;>simp
end
end Go.Ct
namespace Go.Proofs.YtadnboagdhcedaaGreatDoor
section
open Go.RowKit Go.Ct
variable{w:World}{D:List Nat}{b:Nat}{L:List aI}{cs:List Int}{gen acc:Int}{pn pc:Option Addr}{cn cc:Nat}{A:Fr}
theorem Jl(hs:SF w D [(b,mO L cs gen acc pn cn pc cc)] A [] (mW L cs pn cn pc cc) w):Calls Tryz.prog 47 #[.pointer (some ⟨b,0,none⟩)] w λ e w'=>∃q:Unit,e=.returned (.int .i64 (up gen))/\True/\SF w D [(b,mO L cs (up gen) acc pn cn pc cc)] [] [] (mW L cs pn cn pc cc) w':=by
 refine enter Tryz.func47 Tryz.ntmps47 rfl rfl (zD hs) ?_;simp only[cP]
 refine cR ?_;refine Ii ?_;refine J3 ?_;refine aE (sO rf rf) rfl ?_;refine Ns ?_;refine zV ?_;refine Ii ?_;refine J3 ?_;refine J1 ?_;refine aR Tryz.results47 (λ w hw=>?_);exact⟨(),rfl,trivial,by simpa[mO,mW] using hw.aQ (F':=[])⟩
theorem jm(hs:SF w D [(b,mO L cs gen acc pn cn pc cc)] A [] (mW L cs pn cn pc cc) w)(c:Int)(hc:c<1):Calls Tryz.prog 143 #[.pointer (some ⟨b,0,none⟩),.int .i64 c] w λ e w'=>∃q:Unit,e=.returned (.int .i64 (bV cs c))/\True/\SF w D [(b,mO L cs gen (up acc) pn cn pc cc)] [] [] (mW L cs pn cn pc cc) w':=by
 refine enter Tryz.func143 Tryz.ntmps143 rfl rfl (zD hs) ?_;simp only[cP]
 refine K1j ?_;(refine eM 14 (λ g14=>?_) (λ g14=>?_)<;>(try (exfalso;omega))<;>(refine aJ ?_));refine y6 ?_;refine Ke8 ?_;refine bA (λ c23=>?_) (λ c23=>?_)
 ·try (exfalso;omega)
  refine cR ?_;refine aR Tryz.results143 (λ w hw=>?_);(exact⟨(),by rw[sB (by omega)];rfl,trivial,hw.aQ⟩)
 ·exact nv c23
theorem s7(hs:SF w D [(b,mO L cs gen acc pn cn pc cc)] A [] (mW L cs pn cn pc cc) w)(c:Int)(bO new:Int)(hc:c<1):Calls Tryz.prog 145 #[.pointer (some ⟨b,0,none⟩),.int .i64 c,.int .i64 bO,.int .i64 new] w λ e w'=>∃r:Bool,e=.returned (.bool r)/\(r=true↔nD cs c bO)/\SF w D [(b,mO L (iR cs c bO new) gen (up acc) pn cn pc cc)] [] [] (mW L (iR cs c bO new) pn cn pc cc) w':=by
 refine enter Tryz.func145 Tryz.ntmps145 rfl rfl (zD hs) ?_;simp only[cP]
 refine K1j ?_;(refine eM 18 (λ g18=>?_) (λ g18=>?_)<;>(try (exfalso;omega))<;>(refine aJ ?_));refine y6 ?_;refine Ny ?_;refine Aj ?_;refine aB ?_;refine aJ ?_;refine J36 ?_;refine J6 ?_;refine J68 ?_;(refine aJ ?_);refine Zv ?_;refine Rq ?_;refine aK ?_;refine bA (λ c40=>?_) (λ c40=>?_)
 ·try (exfalso;omega)
  refine cR ?_;refine aR Tryz.results145 (λ w hw=>?_);(exact⟨false,rfl,aAz hc,by rw[ow hc];exact hw.aQ⟩)
 ·exact nv c40
theorem Z9(hs:SF w D [(b,mO L cs gen acc pn cn pc cc)] A [] (mW L cs pn cn pc cc) w){k:Nat}(hk:(k:Int)<9223372036854775807)(hl:cs.length<=274877906944):Calls Tryz.prog 143 #[.pointer (some ⟨b,0,none⟩),.int .i64 ((k+1:Nat):Int)] w λ e w'=>∃q:Unit,e=.returned (.int .i64 (bV cs ((k+1:Nat):Int)))/\True/\SF w D [(b,mO L cs gen (up acc) pn cn pc cc)] [] [] (mW L cs pn cn pc cc) w':=by
 refine enter Tryz.func143 Tryz.ntmps143 rfl rfl (zD hs) ?_;simp only[cP]
 refine K1j ?_;(refine Ka4 ?_);refine y6 ?_;refine Ke8 ?_;refine bA (λ c23=>?_) (λ c23=>?_)
 ·try (exfalso;omega)
  refine cR ?_;refine aR Tryz.results143 (λ w hw=>?_);(exact⟨(),by rw[sB (by omega)];rfl,trivial,hw.aQ⟩)
 ·try (exfalso;omega)
  refine bB ?_;refine Ii ?_;refine J3 ?_;refine aB ?_;refine oQ ?_;refine Pb ?_;refine J1 ?_;refine aR Tryz.results143 (λ w hw=>?_);(exact⟨(),by rw[rX (by omega)];rfl,trivial,hw.aQ⟩)
theorem pb(hs:SF w D [(b,mO L cs gen acc pn cn pc cc)] A [] (mW L cs pn cn pc cc) w){k:Nat}(hk:(k:Int)<9223372036854775807)(bO new:Int)(hl:cs.length<=274877906944):Calls Tryz.prog 145 #[.pointer (some ⟨b,0,none⟩),.int .i64 ((k+1:Nat):Int),.int .i64 bO,.int .i64 new] w λ e w'=>∃r:Bool,e=.returned (.bool r)/\(r=true↔nD cs ((k+1:Nat):Int) bO)/\SF w D [(b,mO L (iR cs ((k+1:Nat):Int) bO new) gen (up acc) pn cn pc cc)] [] [] (mW L (iR cs ((k+1:Nat):Int) bO new) pn cn pc cc) w':=by
 refine enter Tryz.func145 Tryz.ntmps145 rfl rfl (zD hs) ?_;simp only[cP]
 refine K1j ?_;(refine Ka4 ?_);refine y6 ?_;refine Ny ?_;refine Aj ?_;refine aB ?_;(refine eM 28 (λ g28=>?_) (λ g28=>?_)<;>refine Ka0 ?_);all_goals (refine J36 ?_;refine J6 ?_;refine J68 ?_;(first|refine aJ ?_|(refine aF ?_;refine eA ?_));refine Zv ?_;refine Rq ?_;refine aK ?_)
 all_goals
 refine bA (λ c40=>?_) (λ c40=>?_)
 ·all_goals try (exfalso;omega)
  all_goals refine cR ?_
  all_goals
   refine aR Tryz.results145 (λ w hw=>?_);first|exact⟨false,rfl,zu (by omega),by rw[sb (by omega)];exact hw.aQ⟩|exact⟨false,rfl,w4 (by simpa using c40),by rw[s4 (by simpa using c40)];exact hw.aQ⟩ 
 ·try exact nv c40
  all_goals (refine bB ?_;refine Ii ?_;refine J3 ?_;refine aB ?_;refine oQ ?_;refine aB ?_;refine eA ?_;refine J5 ?_;refine cR ?_)
  all_goals
   refine aR Tryz.results145 (λ w hw=>?_);(exact⟨true,rfl,aAt (by omega) (by simpa using c40),by rw[su (by omega) (by simpa using c40)];simpa[mW,aO,mO] using hw.aQ (F':=[])⟩)
theorem rj(hs:SF w D [(b,mO L cs gen acc pn cn pc cc)] A [] (mW L cs pn cn pc cc) w)(c:Int)(hc:c<=9223372036854775807)(hl:cs.length<=274877906944):Calls Tryz.prog 143 #[.pointer (some ⟨b,0,none⟩),.int .i64 c] w λ e w'=>∃q:Unit,e=.returned (.int .i64 (bV cs c))/\True/\SF w D [(b,mO L cs gen (up acc) pn cn pc cc)] [] [] (mW L cs pn cn pc cc) w':=by
 rcases Int.lt_or_le c 1 with h|h
 ·exact jm hs c h
 ·obtain⟨k,rfl⟩:∃k:Nat,c=((k+1:Nat):Int):=⟨(c-1).toNat,by omega⟩
  exact Z9 hs (by omega) hl
theorem aAK(hs:SF w D [(b,mO L cs gen acc pn cn pc cc)] A [] (mW L cs pn cn pc cc) w)(c bO new:Int)(hc:c<=9223372036854775807)(hl:cs.length<=274877906944):Calls Tryz.prog 145 #[.pointer (some ⟨b,0,none⟩),.int .i64 c,.int .i64 bO,.int .i64 new] w λ e w'=>∃r:Bool,e=.returned (.bool r)/\(r=true↔nD cs c bO)/\SF w D [(b,mO L (iR cs c bO new) gen (up acc) pn cn pc cc)] [] [] (mW L (iR cs c bO new) pn cn pc cc) w':=by
 rcases Int.lt_or_le c 1 with h|h
 ·exact s7 hs c bO new h
 ·obtain⟨k,rfl⟩:∃k:Nat,c=((k+1:Nat):Int):=⟨(c-1).toNat,by omega⟩
  exact pb hs (by omega) bO new hl
end

/- Loops over slices that are read: contracts. -/
section
open Go.RowKit Go.Ct
theorem Du{α} [BEq α] [LawfulBEq α] {xs ys:List α}{k:Nat}(h:xs.length=ys.length)(hk:¬k<xs.length)(ht:xs.take k=ys.take k):(xs==ys)=true:=by
 rw[List.take_of_length_le (by omega),List.take_of_length_le (by omega)] at ht
 simp[ht]
theorem H2{α} [BEq α] [LawfulBEq α] {xs ys:List α}(h:xs.length≠ys.length):(xs==ys)=false:=by
 simp only[beq_eq_false_iff_ne,ne_eq]
 intro e;rw[e] at h;exact h rfl
theorem G3{α} [BEq α] [LawfulBEq α] {xs ys:List α}{k:Nat}{d:α}(h:xs.getD k d≠ys.getD k d):(xs==ys)=false:=by
 simp only[beq_eq_false_iff_ne,ne_eq]
 intro e;rw[e] at h;exact h rfl
theorem D9{α} [DecidableEq α] {xs ys:List α}{k:Nat}(h:xs.length=ys.length)(hk:¬k<xs.length)(ht:xs.take k=ys.take k):decide (xs=ys)=true:=by
 rw[List.take_of_length_le (by omega),List.take_of_length_le (by omega)] at ht
 simp[ht]
theorem E9{α} [DecidableEq α] {xs ys:List α}(h:xs.length≠ys.length):decide (xs=ys)=false:=decide_eq_false λ e=>h (by rw[e])
theorem Hs{α} [DecidableEq α] {xs ys:List α}{k:Nat}{d:α}(h:xs.getD k d≠ys.getD k d):decide (xs=ys)=false:=decide_eq_false λ e=>h (by rw[e])
theorem yA{α}{xs ys:List α}{k:Nat}{d:α}(h:xs.take k=ys.take k)(hk:k<xs.length)(hl:xs.length=ys.length)(he:xs.getD k d=ys.getD k d):xs.take (k+1)=ys.take (k+1):=by
 rw[List.take_add_one,List.take_add_one,h,List.getElem?_eq_getElem hk,List.getElem?_eq_getElem (hl▸hk)]
 simp only[List.getD,List.getElem?_eq_getElem hk,List.getElem?_eq_getElem (hl▸hk:k<ys.length),Option.getD_some] at he
 rw[he]
theorem zv{xs ys:List Int}{a b:Option Addr}{ca cb:Nat}{w:World}(ha:Cl w a (aH xs))(hb:Cl w b (aH ys))(hx:xs.length<4611686018427387904) :
  Calls Tryz.prog 162 #[.slice a xs.length ca,.slice b ys.length cb] w λ e w'=>e=.returned (.bool (xs==ys))/\St w [] [] w':=by
 refine enter Tryz.func162 Tryz.ntmps162 rfl rfl (SF.s2 ha hb) ?_;simp only[cP]
 refine K2e ?_;refine bA (λ c10=>?_) (λ c10=>?_)
 ·refine cR ?_;refine aR Tryz.results162 (λ w hw=>?_);exact⟨by rw[H2 (by omega)];rfl,hw.done⟩
 ·refine jH ?_;refine zR ?_;refine fK [4,5,11,12,13,14,15,16,17,18,19,20,21,22,23,24,25] (λ k=>[(5,.int .i64 ((k:Nat):Int))]) (λ k=>k<=xs.length/\xs.take k=ys.take k) (λ k=>xs.length-k) (0) (⟨Nat.zero_le _,by simp⟩) ?_ (λ k f hx=>?_)
  ·repeat (first|exact bC _|refine aY (by exact rfl) ?_)
  refine K0a ?_;refine Kd7 ?_;refine bA (λ c14=>?_) (λ c14=>?_)
  ·refine mZ ?_;refine aV ?_;refine K1l ?_;refine qS ?_;refine dJ ?_;refine bA (λ c25=>?_) (λ c25=>?_)
   ·refine cR ?_;refine aR Tryz.results162 (λ w hw=>?_);exact⟨by rw[G3 c25];rfl,hw.done⟩
   ·refine Kc1 ?_;refine dW (k+1) ?_ ?_ ?_
    ·omega
    ·repeat' (first|exact bC _|refine aY ?_ ?_)
     exact rfl
    ·exact⟨by omega,yA hx.2 (by omega) (by omega) c25⟩
  ·refine K0z ?_;refine aR Tryz.results162 (λ w hw=>?_);exact⟨by rw[Du (k:=k) (by omega) (by omega) hx.2];rfl,hw.done⟩
theorem aA4{xs ys:List Pr}{a b:Option Addr}{ca cb:Nat}{w:World}(ha:Cl w a (dK xs))(hb:Cl w b (dK ys))(hx:xs.length<4611686018427387904) :
  Calls Tryz.prog 163 #[.slice a xs.length ca,.slice b ys.length cb] w λ e w'=>e=.returned (.bool (decide (xs=ys)))/\St w [] [] w':=by
 refine enter Tryz.func163 Tryz.ntmps163 rfl rfl (SF.s2 ha hb) ?_;simp only[cP]
 refine K2e ?_;refine bA (λ c10=>?_) (λ c10=>?_)
 ·refine cR ?_;refine aR Tryz.results163 (λ w hw=>?_);exact⟨by rw[E9 (by omega)];rfl,hw.done⟩
 ·refine jH ?_;refine zR ?_;refine fK [4,5,11,12,13,14,15,16,17,18,19,20,21,22,23,24,25] (λ k=>[(5,.int .i64 ((k:Nat):Int))]) (λ k=>k<=xs.length/\xs.take k=ys.take k) (λ k=>xs.length-k) (0) (⟨Nat.zero_le _,by simp⟩) ?_ (λ k f hx=>?_)
  ·repeat (first|exact bC _|refine aY (by exact rfl) ?_)
  refine K0a ?_;refine Kd7 ?_;refine bA (λ c14=>?_) (λ c14=>?_)
  ·refine mZ ?_;refine aV ?_;refine K1l ?_;refine W1 ?_;refine dJ ?_;refine bA (λ c25=>?_) (λ c25=>?_)
   ·refine cR ?_;refine aR Tryz.results163 (λ w hw=>?_);exact⟨by rw[Hs λ h=>c25 ⟨congrArg Prod.fst h,congrArg Prod.snd h⟩];rfl,hw.done⟩
   ·refine Kc1 ?_;refine dW (k+1) ?_ ?_ ?_
    ·omega
    ·repeat' (first|exact bC _|refine aY ?_ ?_)
     exact rfl
    ·exact⟨by omega,yA hx.2 (by omega) (by omega) (Prod.ext c25.1 c25.2)⟩
  ·refine K0z ?_;refine aR Tryz.results163 (λ w hw=>?_);exact⟨by rw[D9 (k:=k) (by omega) (by omega) hx.2];rfl,hw.done⟩
theorem n6{xs ys:List Int}{a b:Option Addr}{ca cb:Nat}{w:World}(ha:Cl w a (aH xs))(hb:Cl w b (aH ys))(hx:xs.length<4611686018427387904) :
  Calls Tryz.prog 169 #[.slice a xs.length ca,.slice b ys.length cb] w λ e w'=>e=.returned (.bool (xs==ys))/\St w [] [] w':=by
 refine enter Tryz.func169 Tryz.ntmps169 rfl rfl (SF.s2 ha hb) ?_;simp only[cP]
 refine K2e ?_;refine bA (λ c10=>?_) (λ c10=>?_)
 ·refine cR ?_;refine aR Tryz.results169 (λ w hw=>?_);exact⟨by rw[H2 (by omega)];rfl,hw.done⟩
 ·refine jH ?_;refine J2 ?_;refine Kc6 ?_;refine fK [4,5,13,14,15,16,17,18,19,20,21,22,23,24,25] (λ k=>[(13,.int .i64 ((k:Nat):Int))]) (λ k=>k<=xs.length/\xs.take k=ys.take k) (λ k=>xs.length-k) (0) (⟨Nat.zero_le _,by simp⟩) ?_ (λ k f hx=>?_)
  ·repeat (first|exact bC _|refine aY (by exact rfl) ?_)
  refine K2p ?_;refine bA (λ c14=>?_) (λ c14=>?_)
  ·refine mZ ?_;refine J2 ?_;refine gX ?_;refine K1l ?_;refine qS ?_;refine dJ ?_;refine bA (λ c24=>?_) (λ c24=>?_)
   ·refine cR ?_;refine aR Tryz.results169 (λ w hw=>?_);exact⟨by rw[G3 c24];rfl,hw.done⟩
   ·refine Kc9 ?_;refine dW (k+1) ?_ ?_ ?_
    ·omega
    ·repeat' (first|exact bC _|refine aY ?_ ?_)
     exact rfl
    ·exact⟨by omega,yA hx.2 (by omega) (by omega) c24⟩
  ·refine K0z ?_;refine aR Tryz.results169 (λ w hw=>?_);exact⟨by rw[Du (k:=k) (by omega) (by omega) hx.2];rfl,hw.done⟩
theorem aAn{xs ys:List Pr}{a b:Option Addr}{ca cb:Nat}{w:World}(ha:Cl w a (dK xs))(hb:Cl w b (dK ys))(hx:xs.length<4611686018427387904) :
  Calls Tryz.prog 170 #[.slice a xs.length ca,.slice b ys.length cb] w λ e w'=>e=.returned (.bool (decide (xs=ys)))/\St w [] [] w':=by
 refine enter Tryz.func170 Tryz.ntmps170 rfl rfl (SF.s2 ha hb) ?_;simp only[cP]
 refine K2e ?_;refine bA (λ c10=>?_) (λ c10=>?_)
 ·refine cR ?_;refine aR Tryz.results170 (λ w hw=>?_);exact⟨by rw[E9 (by omega)];rfl,hw.done⟩
 ·refine jH ?_;refine J2 ?_;refine Kc6 ?_;refine fK [4,5,13,14,15,16,17,18,19,20,21,22,23,24,25] (λ k=>[(13,.int .i64 ((k:Nat):Int))]) (λ k=>k<=xs.length/\xs.take k=ys.take k) (λ k=>xs.length-k) (0) (⟨Nat.zero_le _,by simp⟩) ?_ (λ k f hx=>?_)
  ·repeat (first|exact bC _|refine aY (by exact rfl) ?_)
  refine K2p ?_;refine bA (λ c14=>?_) (λ c14=>?_)
  ·refine mZ ?_;refine J2 ?_;refine gX ?_;refine K1l ?_;refine W1 ?_;refine dJ ?_;refine bA (λ c24=>?_) (λ c24=>?_)
   ·refine cR ?_;refine aR Tryz.results170 (λ w hw=>?_);exact⟨by rw[Hs λ h=>c24 ⟨congrArg Prod.fst h,congrArg Prod.snd h⟩];rfl,hw.done⟩
   ·refine Kc9 ?_;refine dW (k+1) ?_ ?_ ?_
    ·omega
    ·repeat' (first|exact bC _|refine aY ?_ ?_)
     exact rfl
    ·exact⟨by omega,yA hx.2 (by omega) (by omega) (Prod.ext c24.1 c24.2)⟩
  ·refine K0z ?_;refine aR Tryz.results170 (λ w hw=>?_);exact⟨by rw[D9 (k:=k) (by omega) (by omega) hx.2];rfl,hw.done⟩
end

end Go.Proofs.YtadnboagdhcedaaGreatDoor
