/- Several loud operations may be next; the ways meet again. Written by a program. -/
import Derived.Test.YtadnboagdhcedaaGreatDoorAuto
import Derived.Test.YtadnboagdhcedaaGreatDoorGLst3
import Derived.Test.YtadnboagdhcedaaGreatDoorGMem

set_option linter.unusedSimpArgs false
set_option linter.unusedVariables false
namespace Go.Ct
section
open Go Go.RowKit
section
variable{P:Program}{n:Nat}{Q:Exit->Act->World->Prop}{ks:List CK}{ops:Array Oper}{pl pl':oH}{LL:List Nat}{Dl Dp Dq:List Nat}{S:List (Nat×Value)}{G:World->Prop}{w0:World}{M:List Nat}{H:List (Nat×Obj)}{A F:Fr}{O:List Ow}
inductive LS(P:Program)(n:Nat)(Q:Exit->Act->World->Prop)(ks:List CK)(ops:Array Oper)(Dl Dp Dq:List Nat)(S:List (Nat×Value))(G:World->Prop):oH->List Nat->Prop where
 | nil:LS P n Q ks ops Dl Dp Dq S G .nil []
 | cons {i:Nat} {L:List Nat} {pl q:oH} {E:List Nat} (h:fW P n Q ks ops pl Dl Dp Dq S G i L) (r:LS P n Q ks ops Dl Dp Dq S G q E):LS P n Q ks ops Dl Dp Dq S G (.two i L pl 0 [] q) (i::E)
theorem LS.get{pl:oH}{E:List Nat}(h:LS P n Q ks ops Dl Dp Dq S G pl E):∀i∈E,fW P n Q ks ops .nil Dl Dp Dq S G i []:=by
 induction h with
 | nil=>exact λ _ h=>(List.not_mem_nil h).elim
 | cons h _ ih =>
  intro j hj
  rcases List.mem_cons.1 hj with rfl|hj
  ·exact h.cu
  ·exact ih j hj
theorem kH{E:List Nat}{q:oH}(hc:iD ops Dl Dp Dq E=true)(h:LS P n Q ks ops Dl Dp Dq S G q E):JR P n Q ks ops q Dl Dp Dq S G:=by
 simp only[iD,Bool.and_eq_true] at hc
 exact⟨Ys (pl':=.nil) (LL:=[]) hc.1.1 hc.1.2 hc.2 h.get⟩
theorem sk{X:Type}(keys:List Nat)(K:X->List (Nat×Value))(GI:X->World->Prop){c:Code}(hn:(keys.all λ k=>Nat.blt k n)=true)(hKn:∀x,((K x).all λ p=>Nat.blt p.1 n)=true)
  (h1:JK P n Q (.code c::.inv (kI n keys K GI (λ _=>0) S 1)::ks) S G) (h2:∀x f,JK P n Q ks (K x++(gG keys f++S)) (GI x)):JK P n Q (.code c::ks) S G:=⟨λ hS w hw=>by
 have h:=h1.run hS w hw
 simp only[runK] at h ⊢
 intro b k cs
 obtain⟨e,a₁,w₁,hq,harr⟩:=h b k cs
 rw[Ke] at hq
 refine⟨e,a₁,w₁,?_,harr⟩
 cases e with
 | normal =>
  obtain⟨x',S1,_,rfl,_,hk',hp',hg'⟩:=hq
  have:=(h2 x' (look S1)).run ((hS.gG hn).kJ (hKn x')) w₁ hg'
  rw[<- N5 hp' hk'] at this
  exact this
 | exit id=>exact hq
 | goto l=>exact hq
 | ret=>exact hq
 | panic ch=>exact hq
 | outgrown=>exact hq⟩
theorem eL{Y:Type}(keys:List Nat)(K:Y->List (Nat×Value))(I:Y->Prop)(H1:Y->List (Nat×Obj))(F1:Y->Fr)(O1:Y->List Ow){c:Code}(hn:(keys.all λ k=>Nat.blt k n)=true)(hKn:∀x,((K x).all λ p=>Nat.blt p.1 n)=true)
  (h1:JK P n Q (.code c::.inv (kI n keys K (λ x w=>I x/\SF w0 M (H1 x) A (F1 x) (O1 x) w) (λ _=>0) S 1)::ks) S (SF w0 M H A F O))
  (h2:∀x f,I x->JK P n Q ks (K x++(gG keys f++S)) (SF w0 M (H1 x) A (F1 x) (O1 x))):JK P n Q (.code c::ks) S (SF w0 M H A F O):=sk keys K _ hn hKn h1 λ x f=>Y1 λ h=>h2 x f h
theorem Rh{H':List (Nat×Obj)}{O':List Ow}(hH:H'.Perm H)(hO:O'.Perm O):(Ks H' O').Perm (Ks H O):=(hH.map _).append (List.Perm.flatMap_right _ hO)
theorem St.perm{w w0:World}{H H':List (Nat×Obj)}(h:St w0 M H w)(hs:H'.Perm H):St w0 M H' w:=⟨h.os,h.tape,h.output,h.size,h.iY,λ p hp=>h.has p (hs.mem_iff.1 hp),λ p hp=>h.new p (hs.mem_iff.1 hp),(hs.map _).nodup_iff.2 h.nodup⟩
theorem SF.perm{w:World}{H':List (Nat×Obj)}{O':List Ow}(h:SF w0 M H A F O w)(hH:H'.Perm H)(hO:O'.Perm O):SF w0 M H' A F O' w:=by
 have hs:=Rh hH hO
 exact⟨h.st.perm hH,λ f hf=>⟨(h.bL f hf).1,λ hc hm=>(h.bL f hf).2 hc (hs.mem_iff.1 hm)⟩,λ f hf=>⟨(h.new f hf).1,λ hc=>⟨λ hm=>((h.new f hf).2 hc).1 (hs.mem_iff.1 hm),((h.new f hf).2 hc).2⟩⟩,λ o ho=>h.own o (hO.mem_iff.1 ho),hs.nodup_iff.2 h.dis⟩
end
end
end Go.Ct
namespace Go.Proofs.YtadnboagdhcedaaGreatDoor
section
open Go Go.RowKit Go.Ct
variable{n:Nat}{Q:Exit->Act->World->Prop}{ks:List CK}{S:List (Nat×Value)}{ops:Array Oper}{l ol:List Oper}{pl:oH}{LL:List Nat}{Dl Dp Dq:List Nat}
variable{w0:World}{M:List Nat}{H:List (Nat×Obj)}{A F:Fr}{O:List Ow}{G:World->Prop}{i d:Nat}{v:Value}{op:Op}{ty:TypeId}{pos:String}{af:Array Edge}{gd:Option (Nat×Bool)}{X:Type}{V:X->Value}{G':X->World->Prop}{j g:Nat}{want t:Bool}
theorem xR(ho:eH ol i ⟨some d,op,ty,pos,af,gd⟩:=by exact gH)(hw:Region.wanted ⟨some d,op,ty,pos,af,gd⟩ (bF ⟨ol⟩ S)=true:=by exact rfl)(hq:bH Tryz.prog S G ⟨some d,op,ty,pos,af,gd⟩ X V G':=by exact qZ)(hc:gZ ⟨ol⟩ n Dl Dp Dq i (some d)=true:=by decide +kernel)(hL:((Ct.waiting ⟨ol⟩ Dq i).all λ j=>LL.elem j)=true:=by decide +kernel)(hfire:∀x,aM Tryz.prog ⟨ol⟩ ((d,V x)::S) (G' x) LL:=by exact oL)(h:∀x,JR Tryz.prog n Q ks ⟨ol⟩ pl (i::Dl) Dp Dq ((d,V x)::S) (G' x)):fW Tryz.prog n Q ks ⟨ol⟩ pl Dl Dp Dq S G i LL:=mM ho hw hq hc hL hfire h
theorem jL(ho:eH ol i ⟨some d,op,ty,pos,af,gd⟩:=by exact gH)(hw:Region.wanted ⟨some d,op,ty,pos,af,gd⟩ (bF ⟨ol⟩ S)=true:=by exact rfl)(hq:bH Tryz.prog S G ⟨some d,op,ty,pos,af,gd⟩ X V G':=by exact Hj)(hc:gZ ⟨ol⟩ n Dl Dp Dq i (some d)=true:=by decide +kernel)(hL:((Ct.waiting ⟨ol⟩ Dq i).all λ j=>LL.elem j)=true:=by decide +kernel)(hfire:∀x,aM Tryz.prog ⟨ol⟩ ((d,V x)::S) (G' x) LL:=by exact oL)(h:∀x,JR Tryz.prog n Q ks ⟨ol⟩ pl (i::Dl) Dp Dq ((d,V x)::S) (G' x)):fW Tryz.prog n Q ks ⟨ol⟩ pl Dl Dp Dq S G i LL:=mM ho hw hq hc hL hfire h
theorem Lk(ho:eH ol i ⟨some d,op,ty,pos,af,gd⟩:=by exact gH)(hw:Region.wanted ⟨some d,op,ty,pos,af,gd⟩ (bF ⟨ol⟩ S)=true:=by exact rfl)(hq:bH Tryz.prog S G ⟨some d,op,ty,pos,af,gd⟩ X V G')(hc:gZ ⟨ol⟩ n Dl Dp Dq i (some d)=true:=by decide +kernel)(hL:((Ct.waiting ⟨ol⟩ Dq i).all λ j=>LL.elem j)=true:=by decide +kernel)(hfire:∀x,aM Tryz.prog ⟨ol⟩ ((d,V x)::S) (G' x) LL:=by exact oL)(h:∀x,JR Tryz.prog n Q ks ⟨ol⟩ pl (i::Dl) Dp Dq ((d,V x)::S) (G' x)):fW Tryz.prog n Q ks ⟨ol⟩ pl Dl Dp Dq S G i LL:=mM ho hw hq hc hL hfire h
theorem qB{φ:X->Prop}(ho:eH ol i ⟨some d,op,ty,pos,af,gd⟩:=by exact gH)(hw:Region.wanted ⟨some d,op,ty,pos,af,gd⟩ (bF ⟨ol⟩ S)=true:=by exact rfl)(hq:bH Tryz.prog S G ⟨some d,op,ty,pos,af,gd⟩ X V (λ x w=>φ x/\G' x w))(hc:gZ ⟨ol⟩ n Dl Dp Dq i (some d)=true:=by decide +kernel)(hL:((Ct.waiting ⟨ol⟩ Dq i).all λ j=>LL.elem j)=true:=by decide +kernel)(hfire:∀x,aM Tryz.prog ⟨ol⟩ ((d,V x)::S) (λ w=>φ x/\G' x w) LL:=by exact oL)(h:∀x,φ x->JR Tryz.prog n Q ks ⟨ol⟩ pl (i::Dl) Dp Dq ((d,V x)::S) (G' x)):fW Tryz.prog n Q ks ⟨ol⟩ pl Dl Dp Dq S G i LL:=mM ho hw hq hc hL hfire λ x=>fP (h x)
end

/- The engine, part 12: a callee that may change several of its caller's blocks and own lists. -/
end Go.Proofs.YtadnboagdhcedaaGreatDoor
namespace Go.Ct
section
open Go Go.RowKit
section
variable{α:Type}
inductive Pd:List α->Nat->α->Prop where
 | head {a:α} {l:List α}:Pd (a::l) 0 a
 | tail {a b:α} {l:List α} {i:Nat}:Pd l i b->Pd (a::l) (i+1) b
def Ns:List α->Nat->List α
 | [],_=>[]
 | _::r,0=>r
 | p::r,i+1=>p::Ns r i
def Oz:List α->Nat->α->List α
 | l,0,a=>a::l
 | p::r,i+1,a=>p::Oz r i a
 | [],_+1,a=>[a]
inductive zX:List α->List Nat->List α->List α->Prop where
 | nil {l:List α}:zX l [] [] l
 | cons {l es r:List α} {i:Nat} {a:α} {js:List Nat}:Pd l i a->zX (Ns l i) js es r->zX l (i::js) (a::es) r
def A3:List Nat->List α->List α->List α
 | i::js,a::es,r=>Oz (A3 js es r) i a
 | _,_,r=>r
theorem Pd.perm{l:List α}{i:Nat}{a:α}(h:Pd l i a):l.Perm (a::Ns l i):=by
 induction h with
 | head=>exact List.Perm.refl _
 | tail _ ih=>exact(ih.cons _).trans (List.Perm.swap _ _ _)
theorem Gj(a:α):∀(l:List α) (i:Nat),(Oz l i a).Perm (a::l)
 | l,0=>by cases l<;>exact List.Perm.refl _
 | [],_+1=>List.Perm.refl _
 | p::r,i+1=>((Gj a r i).cons p).trans (List.Perm.swap _ _ _)
theorem zX.perm{l es r:List α}{js:List Nat}(h:zX l js es r):l.Perm (es++r):=by
 induction h with
 | nil=>exact List.Perm.refl _
 | cons h _ ih=>exact h.perm.trans (ih.cons _)
theorem zH:∀(js:List Nat) (es r:List α),js.length=es.length->(A3 js es r).Perm (es++r)
 | [],[],_,_=>List.Perm.refl _
 | i::js,a::es,r,h=>(Gj a _ i).trans ((zH js es r (by simpa using h)).cons a)
 | [],_::_,_,h=>by simp at h
 | _::_,[],_,h=>by simp at h
end
section
variable{P:Program}{S:List (Nat×Value)}{w0 w w':World}{M:List Nat}{H H' hs:List (Nat×Obj)}{A F:Fr}{O O' os:List Ow}{is js:List Nat}
def Has(A F:Fr)(O:List Ow)(f:Option Addr×List Value):Prop:=f.2=[]∨f∈A∨f∈F∨∃o∈O,o.p=f.1/\o.cs=f.2
inductive bT(A F:Fr)(O:List Ow):Fr->Prop where
 | nil:bT A F O []
 | cons {f:Option Addr×List Value} {r:Fr} (h:Has A F O f) (hr:bT A F O r):bT A F O (f::r)
 | of {A0:Fr} (h:∀f∈A0,Has A F O f):bT A F O A0
theorem bT.get{A0:Fr}(h:bT A F O A0):∀f∈A0,Has A F O f:=by
 induction h with
 | nil=>intro f hf;exact(List.not_mem_nil hf).elim
 | cons h _ ih =>
  intro f hf
  rcases List.mem_cons.1 hf with rfl|hf
  ·exact h
  ·exact ih f hf
 | of h=>exact h
theorem uV.kQ{a:Option Addr}{cs:List Value}:∀{F:Fr},(a,cs)∈F->uV F a cs
 | [],h=>(List.not_mem_nil h).elim
 | (b,d)::F,h=>by
  rcases List.mem_cons.1 h with h|h
  ·cases h;exact .head
  ·exact .tail (uV.kQ h)
theorem aX.pD{F:Fr}:∀{F':Fr},(∀f∈F',f∈F)->aX F F'
 | [],_=>.nil
 | (a,cs)::F',h=>.cons (uV.kQ (h _ (List.mem_cons_self ..))) (aX.pD λ f hf=>h f (List.mem_cons_of_mem _ hf))
theorem SF.vb(h:SF w0 M H A F O w){f:Option Addr×List Value}(hf:Has A F O f):Cl w f.1 f.2:=by
 rcases hf with h0|h1|h1|⟨o,ho,h1,h2⟩
 ·rw[h0];exact Cl.nil _ _
 ·exact(h.bL f h1).1
 ·exact(h.new f h1).1
 ·rw[<- h1,<- h2];exact(h.own o ho).1.cl
theorem SF.vS{w0 w:World}{M:List Nat}{H:List (Nat×Obj)}{A F:Fr}{O:List Ow}(h:SF w0 M H A F O w){L:List aK}{cs:List Int}{pn pc:Option Addr}(h1:Has A F O (pn,jC L))(h2:Has A F O (pc,aG cs))(h3:∀f∈aY L,Has A F O f)(hf:Fits L):hY w L cs pn pc :=
 ⟨h.vb h1,h.vb h2,λ f hm=>h.vb (h3 f hm),hf⟩
theorem SF.D6(h:SF w0 M H A F O w)(hH:zX H is hs H')(hO:zX O js os O'){A0:Fr}(hA:bT A F O' A0):SF w (Ks hs os) hs A0 [] os w:=by
 have pH:=hH.perm
 have pO:=hO.perm
 have h1:=h.perm pH.symm pO.symm
 have hnd:=(Rh pH.symm pO.symm).nodup_iff.2 h.dis
 have sub:(Ks hs os).Sublist (Ks (hs++H') (os++O')):=by
  unfold Ks
  rw[List.map_append,List.flatMap_append]
  exact(List.sublist_append_left _ _).append (List.sublist_append_left _ _)
 have nd1:(Ks hs os).Nodup:=hnd.sublist sub
 have kperm:(Ks (hs++H') (os++O')).Perm (Ks hs os++Ks H' O'):=by
  unfold Ks
  rw[List.map_append,List.flatMap_append]
  simp only[List.append_assoc]
  refine List.Perm.append_left _ ?_
  rw[<- List.append_assoc,<- List.append_assoc]
  exact List.Perm.append_right _ List.perm_append_comm
 have disj:∀b∈Ks hs os,b∉Ks H' O':=λ b hb hm=>(List.nodup_append.1 (kperm.nodup_iff.1 hnd)).2.2 b hb b hm rfl
 refine⟨⟨rfl,rfl,rfl,Nat.le_refl _,λ _ _ _=>rfl,λ p hp=>h1.st.has p (List.mem_append_left _ hp),λ p hp=>.inl (dK.2 (.inl ⟨p,hp,rfl⟩)),(List.nodup_append.1 nd1).1⟩,λ f hf=>?_,λ _ h=>(List.not_mem_nil h).elim,λ o ho=>⟨(h1.own o (List.mem_append_left _ ho)).1,λ b hb=>.inr (dK.2 (.inr ⟨o,ho,hb⟩))⟩,nd1⟩
 have hg:=hA.get f hf
 refine⟨?_,λ hc hm=>?_⟩
 ·rcases hg with h0|h2|h2|⟨o,ho,h2,h3⟩
  ·rw[h0];exact Cl.nil _ _
  ·exact(h.bL f h2).1
  ·exact(h.new f h2).1
  ·rw[<- h2,<- h3];exact(h1.own o (List.mem_append_right _ ho)).1.cl
 ·rcases hg with h0|h2|h2|⟨o,ho,h2,h3⟩
  ·exact hc h0
  ·exact(h1.bL f h2).2 hc (sub.subset hm)
  ·exact((h1.new f h2).2 hc).1 (sub.subset hm)
  ·have hok:=(h1.own o (List.mem_append_right _ ho)).1
   have hb:=hok.Mf (by rw[h3];exact hc)
   exact disj _ hm (dK.2 (.inr ⟨o,ho,by rw[hb,h2];exact List.mem_singleton.2 rfl⟩))
theorem SF.Q1(h:SF w0 M H A F O w)(hH:zX H is hs H')(hO:zX O js os O'){hs' Hc:List (Nat×Obj)}{os' Oc:List Ow}{Fc:Fr}
  (hc:SF w (Ks hs os) (hs'++Hc) [] Fc (os'++Oc) w') (h1:is.length=hs'.length) (h2:js.length=os'.length) :
  SF w0 M (Hc++A3 is hs' H') A (Fc++F) (Oc++A3 js os' O') w':=by
 have pH:=hH.perm
 have pO:=hO.perm
 have hp:=h.perm pH.symm pO.symm
 have qH:=zH is hs' H' h1
 have qO:=zH js os' O' h2
 have kperm:∀(a c:List (Nat×Obj)) (b d:List Ow),(Ks (a++c) (b++d)).Perm (Ks a b++Ks c d):=λ a c b d=>by
  unfold Ks
  rw[List.map_append,List.flatMap_append]
  simp only[List.append_assoc]
  refine List.Perm.append_left _ ?_
  rw[<- List.append_assoc,<- List.append_assoc]
  exact List.Perm.append_right _ List.perm_append_comm
 have nd0:=(kperm hs H' os O').nodup_iff.1 hp.dis
 have disj:∀b∈Ks hs os,b∉Ks H' O':=λ b hb hm=>(List.nodup_append.1 nd0).2.2 b hb b hm rfl
 have sub:∀b∈Ks hs' os',b∈Ks (hs'++Hc) (os'++Oc):=λ b hb=>(kperm hs' Hc os' Oc).mem_iff.2 (List.mem_append_left _ hb)
 have nd1:(Ks (hs'++H') (os'++O')).Nodup:=by
  rw[(kperm hs' H' os' O').nodup_iff]
  refine List.nodup_append.2 ⟨(List.nodup_append.1 ((kperm hs' Hc os' Oc).nodup_iff.1 hc.dis)).1,(List.nodup_append.1 nd0).2.1,λ a ha b hb e=>?_⟩
  subst e
  rcases hc.Mn a (sub a ha) with h3|h3
  ·have:=hp.lt a ((kperm hs H' os O').mem_iff.2 (List.mem_append_right _ hb))
   omega
  ·exact disj a h3 hb
 have r:=hp.l9 (D:=Ks hs os) (Hm:=hs') (Hc:=Hc) (H1:=hs'++H') (Fc:=Fc) (Om:=os') (Oc:=Oc) (O1:=os'++O') hc (λ b hb=>(kperm hs H' os O').mem_iff.2 (List.mem_append_left _ hb))
  (λ p hpm=>by
   rcases List.mem_append.1 hpm with h3|h3
   ·exact .inl h3
   ·exact .inr ⟨List.mem_append_right _ h3,λ hm=>disj _ hm (dK.2 (.inl ⟨p,h3,rfl⟩))⟩)
  (λ o ho=>by
   rcases List.mem_append.1 ho with h3|h3
   ·exact .inl h3
   ·exact .inr ⟨List.mem_append_right _ h3,λ b hb hm=>disj _ hm (dK.2 (.inr ⟨o,h3,hb⟩))⟩)
  nd1
 exact r.perm (List.Perm.append_left _ qH) (List.Perm.append_left _ qO)
theorem SF.eG(h:SF w0 M H A F O w){F':Fr}(hF:∀f∈F',f.2=[]∨f∈F):SF w0 M H A F' O w:=⟨h.st,h.bL,λ f hf=>by
 rcases hF f hf with h0|h1
 ·exact⟨by rw[h0];exact Cl.nil _ _,λ hc=>absurd h0 hc⟩
 ·exact h.new f h1,h.own,h.dis⟩
theorem SF.Y6{o1 o2:Ow}(h:SF w0 M H A F (o1::o2::O) w):SF w0 M H A F (o2::o1::O) w:=h.perm (List.Perm.refl _) (List.Perm.swap _ _ _)
theorem SF.u9{L:List aK}{v:aK}{F':Fr}(h:SF w0 M H A F O w)(h1:(v.nd.brA,aG v.xs)∈F)(h2:(v.nd.prA,cZ v.ys)∈F)(h3:∀f∈aY L,f∈F):SF w0 M H A (aY (L++[v])) O w:=h.eG λ f hf=>by
 rw[dL] at hf
 rcases List.mem_append.1 hf with hf|hf
 ·exact .inr (h3 f hf)
 ·simp only[aY,List.flatMap_cons,List.flatMap_nil,List.append_nil,aK.fr,List.mem_cons,List.not_mem_nil,or_false] at hf
  rcases hf with rfl|rfl
  ·exact .inr h1
  ·exact .inr h2
theorem aX.all{F:Fr}:aX F F:=aX.pD λ _ h=>h
theorem SF.z7{w:World}{H':List (Nat×Obj)}{O':List Ow}(h:SF w0 M H A F O w)(hH:H'.Sublist H:=by repeat (first|exact List.nil_sublist _|apply List.Sublist.cons_cons|apply List.Sublist.cons))(hO:O'.Sublist O:=by repeat (first|exact List.nil_sublist _|apply List.Sublist.cons_cons|apply List.Sublist.cons)):SF w0 M H' [] F O' w:=h.aU hH aX.all hO
theorem SF.v1{w:World}{H':List (Nat×Obj)}{O':List Ow}(h:SF w0 M H A F O w)(hH:H'.Sublist H:=by repeat (first|exact List.Sublist.refl _|exact List.nil_sublist _|apply List.Sublist.cons))(hO:O'.Sublist O:=by repeat (first|exact List.Sublist.refl _|exact List.nil_sublist _|apply List.Sublist.cons)):SF w0 M H' A F O' w:=h.back hH aX.all hO
end
end

/- Memories: the rule for calls that may change them. -/
end Go.Ct
namespace Go.Proofs.YtadnboagdhcedaaGreatDoor
section
open Go Go.RowKit Go.Ct
abbrev mO(L:List aK)(cs:List Int)(gen acc:Int)(pn:Option Addr)(cn:Nat)(pc:Option Addr)(cc:Nat):Obj:=.cells ⟨[.slice pn L.length cn,.slice pc cs.length cc,.int .i64 gen,.int .i64 acc]⟩ 35 (0,0)
abbrev aO(L:List aK)(cs:List Int)(gen acc:Int)(pn:Option Addr)(cn:Nat)(pc:Option Addr)(cc:Nat):Obj:=.cells ⟨[.slice pn L.length cn,.slice pc cs.length cc,.int .i64 gen,.int .i64 acc]⟩ 153 (0,0)
abbrev mW(L:List aK)(cs:List Int)(pn:Option Addr)(cn:Nat)(pc:Option Addr)(cc:Nat):List Ow:=[⟨pn,jC L,cn,77,14⟩,⟨pc,aG cs,cc,62,1⟩]
theorem rN{w0 w:World}{D:List Nat}{b:Nat}{L:List aK}{cs:List Int}{gen acc:Int}{pn pc:Option Addr}{cn cc:Nat}{A F:Fr}(h:SF w0 D [(b,mO L cs gen acc pn cn pc cc)] A F (mW L cs pn cn pc cc) w) :
  SF w0 D [(b,.cells ⟨[.slice pn L.length cn,.slice pc cs.length cc,.int .i64 gen,.int .i64 acc]⟩ 35 (0,0))] A F [⟨pn,jC L,cn,77,14⟩,⟨pc,aG cs,cc,62,1⟩] w:=h
variable{S:List (Nat×Value)}{w0 w:World}{M:List Nat}{H:List (Nat×Obj)}{A F:Fr}{O:List Ow}{ty:TypeId}{pos:String}{af:Array Edge}{gd:Option (Nat×Bool)}{X:Type}{V:X->Value}
theorem cM{φ:X->Prop}{hs H':List (Nat×Obj)}{os O':List Ow}{hs' H1:X->List (Nat×Obj)}{os' O1:X->List Ow}{Fc F1:X->Fr}{A0:Fr}{is js:List Nat}{f:FuncId}{xs:List Operand}{at_:Array TypeId}{vs:List Value}{dst:Option Nat}
  (ha:zB S xs=vs:=by(repeat (first|exact qA _|(apply oC;focus ((conv=>{lhs;whnf});try exact rfl))));first|done|fail) (hp:plain Tryz.prog f=true:=by kernel_rfl)
  (hc:∀w,SF w (Ks hs os) hs A0 [] os w->Calls Tryz.prog f ⟨vs⟩ w λ e w'=>∃x,e=.returned (V x)/\φ x/\SF w (Ks hs os) (hs' x) [] (Fc x) (os' x) w')
  (hH:zX H is hs H':=by(repeat (first|exact zX.nil|(apply zX.cons;(focus ((repeat (first|exact Pd.head|apply Pd.tail));done));simp only[Ns])));first|done|fail)
  (hO:zX O js os O':=by(repeat (first|exact zX.nil|(apply zX.cons;(focus ((repeat (first|exact Pd.head|apply Pd.tail));done));simp only[Ns])));first|done|fail)
  (hA:bT A F O' A0:=by(repeat (first|exact bT.of (λ _ h=>Or.inr (Or.inl h))|exact bT.nil|(refine bT.cons (by first|exact Or.inl rfl|exact Or.inr (Or.inr (Or.inl (by simp)))|exact Or.inr (Or.inl (by simp))|exact Or.inr (Or.inr (Or.inr (by simp)))) ?_)));first|done|fail)
  (hl1:∀x,is.length=(hs' x).length:=by intro x;exact rfl) (hl2:∀x,js.length=(os' x).length:=by intro x;exact rfl)
  (hH1:∀x,A3 is (hs' x) H'=H1 x:=by intro x;first|(simp only[A3,Oz];exact rfl)|exact rfl) (hF1:∀x,Fc x++F=F1 x:=by intro x;first|(simp only[List.nil_append,List.cons_append];exact rfl)|exact rfl) (hO1:∀x,A3 js (os' x) O'=O1 x:=by intro x;simp only[A3,Oz,mW];exact rfl) :
  bH Tryz.prog S (SF w0 M H A F O) ⟨dst,.call {callee:=.value (.func f),args:=⟨xs⟩,argTypes:=at_},ty,pos,af,gd⟩ X V (λ x w=>φ x/\SF w0 M (H1 x) A (F1 x) (O1 x) w) :=
 lA (nP hp ha) λ w hw=>(hc w (hw.D6 hH hO hA)).mono λ _ _ ⟨x,he,hx,hs⟩=>⟨x,he,hx,by
  have:=hw.Q1 (hs':=hs' x) (Hc:=[]) (os':=os' x) (Oc:=[]) hH hO (by simpa using hs) (hl1 x) (hl2 x)
  rw[<- hH1 x,<- hF1 x,<- hO1 x]
  simpa using this⟩
end

/- The small methods of the two memories: cells, generations, loads, compare-and-swaps. -/
section
open Go.RowKit Go.Ct
variable{w:World}{D:List Nat}{b:Nat}{L:List aK}{cs:List Int}{gen acc:Int}{pn pc:Option Addr}{cn cc:Nat}{A:Fr}
theorem iI(v:Int)(hs:SF w D [(b,mO L cs gen acc pn cn pc cc)] A [] (mW L cs pn cn pc cc) w)(hl:cs.length<=274877906944) :
  Calls Tryz.prog 33 #[.pointer (some ⟨b,0,none⟩),.int .i64 v] w λ e w'=>∃q:Option Addr×Nat,e=.returned (.int .i64 ((cs.length+1:Nat):Int))/\True /\
   SF w D [(b,mO L (cs++[v]) gen acc pn cn q.1 q.2)] [] [] (mW L (cs++[v]) pn cn q.1 q.2) w':=by
 refine enter Tryz.func33 Tryz.ntmps33 rfl rfl (rN hs) ?_
 simp only[cR]
 refine cN ?_;refine iF ?_;refine Jv ?_;refine J3 ?_;refine aB ?_;refine fT (λ x12=>?_);(refine eC (λ x13=>?_);try (refine eX (λ h13=>?_)));refine Jv ?_;refine wN ?_;refine E0 ?_;refine Tt ?_;refine J1 ?_
 refine aN Tryz.results33 (λ w hw=>?_)
 exact⟨x13,rfl,trivial,by simpa[mO,mW] using hw.aU (F':=[])⟩
end

/- The small methods of the two memories: generations, loads, compare-and-swaps. -/
end Go.Proofs.YtadnboagdhcedaaGreatDoor
namespace Go.Ct
section
def bW(cs:List Int)(c:Int):Int:=if 1<=c/\c<=cs.length then cs.getD (c-1).toNat 0 else 0
def iG(cs:List Int)(c bL:Int):Prop:=1<=c/\c<=cs.length/\cs.getD (c-1).toNat 0=bL
def fU(cs:List Int)(c bL new:Int):List Int:=if 1<=c/\c<=cs.length/\cs.getD (c-1).toNat 0=bL then cs.set (c-1).toNat new else cs
def up(i:Int):Int:=Go.IntKind.i64.wrap (i+1)
theorem wY{cs:List Int}{c:Int}(h:¬(1<=c/\c<=cs.length)):bW cs c=0:=if_neg h
theorem Bx{cs:List Int}{k:Nat}(h:k<cs.length):bW cs ((k+1:Nat):Int)=cs.getD k 0:=by
 unfold bW
 rw[if_pos (by omega),show(((k+1:Nat):Int)-1).toNat=k by omega]
theorem wJ{cs:List Int}{c bL new:Int}(h:¬(1<=c/\c<=cs.length/\cs.getD (c-1).toNat 0=bL)):fU cs c bL new=cs:=if_neg h
theorem ba{cs:List Int}{k:Nat}{bL new:Int}(h:k<cs.length)(ho:cs.getD k 0=bL):fU cs ((k+1:Nat):Int) bL new=cs.set k new:=by
 have e:(((k+1:Nat):Int)-1).toNat=k:=by omega
 unfold fU
 rw[e,if_pos ⟨by omega,by omega,ho⟩]
theorem qu{cs:List Int}{c bL:Int}(h:c<1):(false=true↔iG cs c bL):=⟨(λ h=>nomatch h),λ h2=>absurd h2.1 (by omega)⟩
theorem bc{cs:List Int}{c bL new:Int}(h:c<1):fU cs c bL new=cs:=wJ (by omega)
theorem sj{cs:List Int}{c bL:Int}(h:(cs.length:Int)<c):(false=true↔iG cs c bL):=⟨(λ h=>nomatch h),λ h2=>absurd h2.2.1 (by omega)⟩
theorem au{cs:List Int}{c bL new:Int}(h:(cs.length:Int)<c):fU cs c bL new=cs:=wJ (by omega)
theorem oe{cs:List Int}{k:Nat}{bL:Int}(h:cs.getD k 0≠bL):(false=true↔iG cs ((k+1:Nat):Int) bL):=⟨(λ h=>nomatch h),λ h2=>absurd (by have:=h2.2.2;rwa [show(((k+1:Nat):Int)-1).toNat=k by omega] at this) h⟩
theorem fm{cs:List Int}{k:Nat}{bL new:Int}(h:cs.getD k 0≠bL):fU cs ((k+1:Nat):Int) bL new=cs:=wJ λ h2=>absurd (by have:=h2.2.2;rwa [show(((k+1:Nat):Int)-1).toNat=k by omega] at this) h
theorem ra{cs:List Int}{k:Nat}{bL:Int}(hk:k<cs.length)(h:cs.getD k 0=bL):(true=true↔iG cs ((k+1:Nat):Int) bL):=⟨λ _=>⟨by omega,by omega,by rw[show(((k+1:Nat):Int)-1).toNat=k by omega];exact h⟩,λ _=>rfl⟩
theorem jX{cs:List Int}{c bL new:Int}:(fU cs c bL new).length=cs.length:=by unfold fU;split<;>simp
end
end Go.Ct
namespace Go.Proofs.YtadnboagdhcedaaGreatDoor
section
open Go.RowKit Go.Ct
variable{w:World}{D:List Nat}{b:Nat}{L:List aK}{cs:List Int}{gen acc:Int}{pn pc:Option Addr}{cn cc:Nat}{A:Fr}
theorem E9(hs:SF w D [(b,mO L cs gen acc pn cn pc cc)] A [] (mW L cs pn cn pc cc) w):Calls Tryz.prog 47 #[.pointer (some ⟨b,0,none⟩)] w λ e w'=>∃q:Unit,e=.returned (.int .i64 (up gen))/\True/\SF w D [(b,mO L cs (up gen) acc pn cn pc cc)] [] [] (mW L cs pn cn pc cc) w':=by
 refine enter Tryz.func47 Tryz.ntmps47 rfl rfl (rN hs) ?_
 simp only[cR]
 refine cN ?_;refine E0 ?_;refine J3 ?_;refine aE (vH rf rf) rfl ?_;refine Jv ?_;refine wN ?_;refine E0 ?_;refine J3 ?_;refine J1 ?_
 refine aN Tryz.results47 (λ w hw=>?_)
 exact⟨(),rfl,trivial,by simpa[mO,mW] using hw.aU (F':=[])⟩
theorem W7(hs:SF w D [(b,mO L cs gen acc pn cn pc cc)] A [] (mW L cs pn cn pc cc) w)(c:Int)(hc:c<1):Calls Tryz.prog 143 #[.pointer (some ⟨b,0,none⟩),.int .i64 c] w λ e w'=>∃q:Unit,e=.returned (.int .i64 (bW cs c))/\True/\SF w D [(b,mO L cs gen (up acc) pn cn pc cc)] [] [] (mW L cs pn cn pc cc) w':=by
 refine enter Tryz.func143 Tryz.ntmps143 rfl rfl (rN hs) ?_
 simp only[cR]
 refine cN ?_;refine mV ?_;refine aE (vH rf rf) rfl ?_;refine lj ?_;refine kT ?_;refine Gq ?_
 (refine eR 14 (λ g14=>?_) (λ g14=>?_)<;>(try (exfalso;omega))<;>(refine aH ?_))
 refine nz ?_;refine Uf ?_;refine Kc1 ?_
 refine aZ (λ c23=>?_) (λ c23=>?_)
 ·try (exfalso;omega)
  refine cN ?_
  refine aN Tryz.results143 (λ w hw=>?_)
  (exact⟨(),by rw[wY (by omega)];rfl,trivial,hw.aU⟩)
 ·exact nv c23
theorem az(hs:SF w D [(b,mO L cs gen acc pn cn pc cc)] A [] (mW L cs pn cn pc cc) w)(c:Int)(bL new:Int)(hc:c<1):Calls Tryz.prog 145 #[.pointer (some ⟨b,0,none⟩),.int .i64 c,.int .i64 bL,.int .i64 new] w λ e w'=>∃r:Bool,e=.returned (.bool r)/\(r=true↔iG cs c bL)/\SF w D [(b,mO L (fU cs c bL new) gen (up acc) pn cn pc cc)] [] [] (mW L (fU cs c bL new) pn cn pc cc) w':=by
 refine enter Tryz.func145 Tryz.ntmps145 rfl rfl (rN hs) ?_
 simp only[cR]
 refine cN ?_;refine mV ?_;refine aE (vH rf rf) rfl ?_;refine lj ?_;refine kT ?_;refine Gq ?_
 (refine eR 18 (λ g18=>?_) (λ g18=>?_)<;>(try (exfalso;omega))<;>(refine aH ?_))
 refine nz ?_;refine Uf ?_;refine Fl ?_;refine aB ?_
 refine aH ?_
 refine y0 ?_;refine J6 ?_;refine zu ?_;(refine aH ?_);refine ll ?_;refine S8 ?_;refine aI ?_
 refine aZ (λ c40=>?_) (λ c40=>?_)
 ·try (exfalso;omega)
  refine cN ?_
  refine aN Tryz.results145 (λ w hw=>?_)
  (exact⟨false,rfl,qu hc,by rw[bc hc];exact hw.aU⟩)
 ·exact nv c40
theorem V6(hs:SF w D [(b,mO L cs gen acc pn cn pc cc)] A [] (mW L cs pn cn pc cc) w){k:Nat}(hk:(k:Int)<9223372036854775807)(hl:cs.length<=274877906944):Calls Tryz.prog 143 #[.pointer (some ⟨b,0,none⟩),.int .i64 ((k+1:Nat):Int)] w λ e w'=>∃q:Unit,e=.returned (.int .i64 (bW cs ((k+1:Nat):Int)))/\True/\SF w D [(b,mO L cs gen (up acc) pn cn pc cc)] [] [] (mW L cs pn cn pc cc) w':=by
 refine enter Tryz.func143 Tryz.ntmps143 rfl rfl (rN hs) ?_
 simp only[cR]
 refine cN ?_;refine mV ?_;refine aE (vH rf rf) rfl ?_;refine lj ?_;refine kT ?_;refine Gq ?_
 (refine Ka3 ?_)
 refine nz ?_;refine Uf ?_;refine Kc1 ?_
 refine aZ (λ c23=>?_) (λ c23=>?_)
 ·try (exfalso;omega)
  refine cN ?_
  refine aN Tryz.results143 (λ w hw=>?_)
  (exact⟨(),by rw[wY (by omega)];rfl,trivial,hw.aU⟩)
 ·try (exfalso;omega)
  refine bA ?_;refine E0 ?_;refine J3 ?_;refine aB ?_;refine oP ?_;refine Ue ?_;refine J1 ?_
  refine aN Tryz.results143 (λ w hw=>?_)
  (exact⟨(),by rw[Bx (by omega)];rfl,trivial,hw.aU⟩)
theorem ee(hs:SF w D [(b,mO L cs gen acc pn cn pc cc)] A [] (mW L cs pn cn pc cc) w){k:Nat}(hk:(k:Int)<9223372036854775807)(bL new:Int)(hl:cs.length<=274877906944):Calls Tryz.prog 145 #[.pointer (some ⟨b,0,none⟩),.int .i64 ((k+1:Nat):Int),.int .i64 bL,.int .i64 new] w λ e w'=>∃r:Bool,e=.returned (.bool r)/\(r=true↔iG cs ((k+1:Nat):Int) bL)/\SF w D [(b,mO L (fU cs ((k+1:Nat):Int) bL new) gen (up acc) pn cn pc cc)] [] [] (mW L (fU cs ((k+1:Nat):Int) bL new) pn cn pc cc) w':=by
 refine enter Tryz.func145 Tryz.ntmps145 rfl rfl (rN hs) ?_
 simp only[cR]
 refine cN ?_;refine mV ?_;refine aE (vH rf rf) rfl ?_;refine lj ?_;refine kT ?_;refine Gq ?_
 (refine Ka3 ?_)
 refine nz ?_;refine Uf ?_;refine Fl ?_;refine aB ?_
 (refine eR 28 (λ g28=>?_) (λ g28=>?_)<;>refine Ka1 ?_)
 all_goals (refine y0 ?_;refine J6 ?_;refine zu ?_;(first|refine aH ?_|(refine aF ?_;refine iM ?_));refine ll ?_;refine S8 ?_;refine aI ?_)
 all_goals
 refine aZ (λ c40=>?_) (λ c40=>?_)
 ·all_goals try (exfalso;omega)
  all_goals refine cN ?_
  all_goals
   refine aN Tryz.results145 (λ w hw=>?_)
   first|exact⟨false,rfl,sj (by omega),by rw[au (by omega)];exact hw.aU⟩|exact⟨false,rfl,oe (by simpa using c40),by rw[fm (by simpa using c40)];exact hw.aU⟩ 
 ·try exact nv c40
  all_goals (refine bA ?_;refine E0 ?_;refine J3 ?_;refine aB ?_;refine oP ?_;refine aB ?_;refine iM ?_;refine J5 ?_;refine cN ?_)
  all_goals
   refine aN Tryz.results145 (λ w hw=>?_)
   (exact⟨true,rfl,ra (by omega) (by simpa using c40),by rw[ba (by omega) (by simpa using c40)];simpa[mW,aO,mO] using hw.aU (F':=[])⟩)
theorem ib(hs:SF w D [(b,mO L cs gen acc pn cn pc cc)] A [] (mW L cs pn cn pc cc) w)(c:Int)(hc:c<=9223372036854775807)(hl:cs.length<=274877906944):Calls Tryz.prog 143 #[.pointer (some ⟨b,0,none⟩),.int .i64 c] w λ e w'=>∃q:Unit,e=.returned (.int .i64 (bW cs c))/\True/\SF w D [(b,mO L cs gen (up acc) pn cn pc cc)] [] [] (mW L cs pn cn pc cc) w':=by
 rcases Int.lt_or_le c 1 with h|h
 ·exact W7 hs c h
 ·obtain⟨k,rfl⟩:∃k:Nat,c=((k+1:Nat):Int):=⟨(c-1).toNat,by omega⟩
  exact V6 hs (by omega) hl
theorem qc(hs:SF w D [(b,mO L cs gen acc pn cn pc cc)] A [] (mW L cs pn cn pc cc) w)(c bL new:Int)(hc:c<=9223372036854775807)(hl:cs.length<=274877906944):Calls Tryz.prog 145 #[.pointer (some ⟨b,0,none⟩),.int .i64 c,.int .i64 bL,.int .i64 new] w λ e w'=>∃r:Bool,e=.returned (.bool r)/\(r=true↔iG cs c bL)/\SF w D [(b,mO L (fU cs c bL new) gen (up acc) pn cn pc cc)] [] [] (mW L (fU cs c bL new) pn cn pc cc) w':=by
 rcases Int.lt_or_le c 1 with h|h
 ·exact az hs c bL new h
 ·obtain⟨k,rfl⟩:∃k:Nat,c=((k+1:Nat):Int):=⟨(c-1).toNat,by omega⟩
  exact ee hs (by omega) bL new hl
end

/- Loops over slices that are read: contracts. -/
section
open Go.RowKit Go.Ct
theorem Ah{α} [BEq α] [LawfulBEq α] {xs ys:List α}{k:Nat}(h:xs.length=ys.length)(hk:¬k<xs.length)(ht:xs.take k=ys.take k):(xs==ys)=true:=by
 rw[List.take_of_length_le (by omega),List.take_of_length_le (by omega)] at ht
 simp[ht]
theorem Dc{α} [BEq α] [LawfulBEq α] {xs ys:List α}(h:xs.length≠ys.length):(xs==ys)=false:=by
 simp only[beq_eq_false_iff_ne,ne_eq]
 intro e;rw[e] at h;exact h rfl
theorem Bw{α} [BEq α] [LawfulBEq α] {xs ys:List α}{k:Nat}{d:α}(h:xs.getD k d≠ys.getD k d):(xs==ys)=false:=by
 simp only[beq_eq_false_iff_ne,ne_eq]
 intro e;rw[e] at h;exact h rfl
theorem Af{α} [DecidableEq α] {xs ys:List α}{k:Nat}(h:xs.length=ys.length)(hk:¬k<xs.length)(ht:xs.take k=ys.take k):decide (xs=ys)=true:=by
 rw[List.take_of_length_le (by omega),List.take_of_length_le (by omega)] at ht
 simp[ht]
theorem C2{α} [DecidableEq α] {xs ys:List α}(h:xs.length≠ys.length):decide (xs=ys)=false:=decide_eq_false λ e=>h (by rw[e])
theorem B3{α} [DecidableEq α] {xs ys:List α}{k:Nat}{d:α}(h:xs.getD k d≠ys.getD k d):decide (xs=ys)=false:=decide_eq_false λ e=>h (by rw[e])
theorem uA{α}{xs ys:List α}{k:Nat}{d:α}(h:xs.take k=ys.take k)(hk:k<xs.length)(hl:xs.length=ys.length)(he:xs.getD k d=ys.getD k d):xs.take (k+1)=ys.take (k+1):=by
 rw[List.take_add_one,List.take_add_one,h,List.getElem?_eq_getElem hk,List.getElem?_eq_getElem (hl▸hk)]
 simp only[List.getD,List.getElem?_eq_getElem hk,List.getElem?_eq_getElem (hl▸hk:k<ys.length),Option.getD_some] at he
 rw[he]
theorem ry{xs ys:List Int}{a b:Option Addr}{ca cb:Nat}{w:World}(ha:Cl w a (aG xs))(hb:Cl w b (aG ys))(hx:xs.length<4611686018427387904) :
  Calls Tryz.prog 162 #[.slice a xs.length ca,.slice b ys.length cb] w λ e w'=>e=.returned (.bool (xs==ys))/\St w [] [] w':=by
 refine enter Tryz.func162 Tryz.ntmps162 rfl rfl (SF.s2 ha hb) ?_
 simp only[cR]
 refine Ka7 ?_;refine dF ?_;refine aB ?_;refine dF ?_;refine Kb7 ?_
 refine aZ (λ c10=>?_) (λ c10=>?_)
 ·refine cN ?_
  refine aN Tryz.results162 (λ w hw=>?_)
  exact⟨by rw[Dc (by omega)];rfl,hw.done⟩
 ·refine jD ?_;refine K5 ?_
  refine eS [4,5,11,12,13,14,15,16,17,18,19,20,21,22,23,24,25] (λ k=>[(5,.int .i64 ((k:Nat):Int))]) (λ k=>k<=xs.length/\xs.take k=ys.take k) (λ k=>xs.length-k) (0) (⟨Nat.zero_le _,by simp⟩) ?_ (λ k f hx=>?_)
  ·repeat (first|exact bB _|refine aW (by exact rfl) ?_)
  dsimp only[gG,List.map,List.cons_append,List.nil_append]
  refine Gi ?_;refine dF ?_;refine vR ?_
  refine aZ (λ c14=>?_) (λ c14=>?_)
  ·refine oW ?_;refine aS ?_;refine gB [0,1,2,3,4,5,6,7,8] ?_;refine gM ?_;refine T5 ?_;refine gM ?_;refine T5 ?_;refine Cz ?_;refine dV ?_
   refine aZ (λ c25=>?_) (λ c25=>?_)
   ·refine cN ?_
    refine aN Tryz.results162 (λ w hw=>?_)
    exact⟨by rw[Bw c25];rfl,hw.done⟩
   ·refine lC ?_;refine Ba ?_
    refine dJ (k+1) ?_ ?_ ?_
    ·omega
    ·repeat' (first|exact bB _|refine aW ?_ ?_)
     exact rfl
    ·exact⟨by omega,uA hx.2 (by omega) (by omega) c25⟩
  ·refine bG rfl ?_;refine cN ?_
   refine aN Tryz.results162 (λ w hw=>?_)
   exact⟨by rw[Ah (k:=k) (by omega) (by omega) hx.2];rfl,hw.done⟩
theorem uv{xs ys:List Pr}{a b:Option Addr}{ca cb:Nat}{w:World}(ha:Cl w a (cZ xs))(hb:Cl w b (cZ ys))(hx:xs.length<4611686018427387904) :
  Calls Tryz.prog 163 #[.slice a xs.length ca,.slice b ys.length cb] w λ e w'=>e=.returned (.bool (decide (xs=ys)))/\St w [] [] w':=by
 refine enter Tryz.func163 Tryz.ntmps163 rfl rfl (SF.s2 ha hb) ?_
 simp only[cR]
 refine Ka7 ?_;refine dF ?_;refine aB ?_;refine dF ?_;refine Kb7 ?_
 refine aZ (λ c10=>?_) (λ c10=>?_)
 ·refine cN ?_
  refine aN Tryz.results163 (λ w hw=>?_)
  exact⟨by rw[C2 (by omega)];rfl,hw.done⟩
 ·refine jD ?_;refine K5 ?_
  refine eS [4,5,11,12,13,14,15,16,17,18,19,20,21,22,23,24,25] (λ k=>[(5,.int .i64 ((k:Nat):Int))]) (λ k=>k<=xs.length/\xs.take k=ys.take k) (λ k=>xs.length-k) (0) (⟨Nat.zero_le _,by simp⟩) ?_ (λ k f hx=>?_)
  ·repeat (first|exact bB _|refine aW (by exact rfl) ?_)
  dsimp only[gG,List.map,List.cons_append,List.nil_append]
  refine Gi ?_;refine dF ?_;refine vR ?_
  refine aZ (λ c14=>?_) (λ c14=>?_)
  ·refine oW ?_;refine aS ?_;refine gB [0,1,2,3,4,5,6,7,8] ?_;refine gM ?_;refine T5 ?_;refine gM ?_;refine T5 ?_;refine Qj ?_;refine dV ?_
   refine aZ (λ c25=>?_) (λ c25=>?_)
   ·refine cN ?_
    refine aN Tryz.results163 (λ w hw=>?_)
    exact⟨by rw[B3 λ h=>c25 ⟨congrArg Prod.fst h,congrArg Prod.snd h⟩];rfl,hw.done⟩
   ·refine lC ?_;refine Ba ?_
    refine dJ (k+1) ?_ ?_ ?_
    ·omega
    ·repeat' (first|exact bB _|refine aW ?_ ?_)
     exact rfl
    ·exact⟨by omega,uA hx.2 (by omega) (by omega) (Prod.ext c25.1 c25.2)⟩
  ·refine bG rfl ?_;refine cN ?_
   refine aN Tryz.results163 (λ w hw=>?_)
   exact⟨by rw[Af (k:=k) (by omega) (by omega) hx.2];rfl,hw.done⟩
theorem jc{xs ys:List Int}{a b:Option Addr}{ca cb:Nat}{w:World}(ha:Cl w a (aG xs))(hb:Cl w b (aG ys))(hx:xs.length<4611686018427387904) :
  Calls Tryz.prog 169 #[.slice a xs.length ca,.slice b ys.length cb] w λ e w'=>e=.returned (.bool (xs==ys))/\St w [] [] w':=by
 refine enter Tryz.func169 Tryz.ntmps169 rfl rfl (SF.s2 ha hb) ?_
 simp only[cR]
 refine Ka7 ?_;refine dF ?_;refine aB ?_;refine dF ?_;refine Kb7 ?_
 refine aZ (λ c10=>?_) (λ c10=>?_)
 ·refine cN ?_
  refine aN Tryz.results169 (λ w hw=>?_)
  exact⟨by rw[Dc (by omega)];rfl,hw.done⟩
 ·refine jD ?_;refine J2 ?_;refine Kb8 ?_
  refine eS [4,5,13,14,15,16,17,18,19,20,21,22,23,24,25] (λ k=>[(13,.int .i64 ((k:Nat):Int))]) (λ k=>k<=xs.length/\xs.take k=ys.take k) (λ k=>xs.length-k) (0) (⟨Nat.zero_le _,by simp⟩) ?_ (λ k f hx=>?_)
  ·repeat (first|exact bB _|refine aW (by exact rfl) ?_)
  dsimp only[gG,List.map,List.cons_append,List.nil_append]
  refine Kb4 ?_
  refine aZ (λ c14=>?_) (λ c14=>?_)
  ·refine oW ?_;refine J2 ?_;refine gK ?_;refine gB [0,1,2,3,4,5,6,7,8] ?_;refine gM ?_;refine T5 ?_;refine gM ?_;refine T5 ?_;refine Cz ?_;refine dV ?_
   refine aZ (λ c24=>?_) (λ c24=>?_)
   ·refine cN ?_
    refine aN Tryz.results169 (λ w hw=>?_)
    exact⟨by rw[Bw c24];rfl,hw.done⟩
   ·refine Kc3 ?_
    refine dJ (k+1) ?_ ?_ ?_
    ·omega
    ·repeat' (first|exact bB _|refine aW ?_ ?_)
     exact rfl
    ·exact⟨by omega,uA hx.2 (by omega) (by omega) c24⟩
  ·refine bG rfl ?_;refine cN ?_
   refine aN Tryz.results169 (λ w hw=>?_)
   exact⟨by rw[Ah (k:=k) (by omega) (by omega) hx.2];rfl,hw.done⟩
theorem nh{xs ys:List Pr}{a b:Option Addr}{ca cb:Nat}{w:World}(ha:Cl w a (cZ xs))(hb:Cl w b (cZ ys))(hx:xs.length<4611686018427387904) :
  Calls Tryz.prog 170 #[.slice a xs.length ca,.slice b ys.length cb] w λ e w'=>e=.returned (.bool (decide (xs=ys)))/\St w [] [] w':=by
 refine enter Tryz.func170 Tryz.ntmps170 rfl rfl (SF.s2 ha hb) ?_
 simp only[cR]
 refine Ka7 ?_;refine dF ?_;refine aB ?_;refine dF ?_;refine Kb7 ?_
 refine aZ (λ c10=>?_) (λ c10=>?_)
 ·refine cN ?_
  refine aN Tryz.results170 (λ w hw=>?_)
  exact⟨by rw[C2 (by omega)];rfl,hw.done⟩
 ·refine jD ?_;refine J2 ?_;refine Kb8 ?_
  refine eS [4,5,13,14,15,16,17,18,19,20,21,22,23,24,25] (λ k=>[(13,.int .i64 ((k:Nat):Int))]) (λ k=>k<=xs.length/\xs.take k=ys.take k) (λ k=>xs.length-k) (0) (⟨Nat.zero_le _,by simp⟩) ?_ (λ k f hx=>?_)
  ·repeat (first|exact bB _|refine aW (by exact rfl) ?_)
  dsimp only[gG,List.map,List.cons_append,List.nil_append]
  refine Kb4 ?_
  refine aZ (λ c14=>?_) (λ c14=>?_)
  ·refine oW ?_;refine J2 ?_;refine gK ?_;refine gB [0,1,2,3,4,5,6,7,8] ?_;refine gM ?_;refine T5 ?_;refine gM ?_;refine T5 ?_;refine Qj ?_;refine dV ?_
   refine aZ (λ c24=>?_) (λ c24=>?_)
   ·refine cN ?_
    refine aN Tryz.results170 (λ w hw=>?_)
    exact⟨by rw[B3 λ h=>c24 ⟨congrArg Prod.fst h,congrArg Prod.snd h⟩];rfl,hw.done⟩
   ·refine Kc3 ?_
    refine dJ (k+1) ?_ ?_ ?_
    ·omega
    ·repeat' (first|exact bB _|refine aW ?_ ?_)
     exact rfl
    ·exact⟨by omega,uA hx.2 (by omega) (by omega) (Prod.ext c24.1 c24.2)⟩
  ·refine bG rfl ?_;refine cN ?_
   refine aN Tryz.results170 (λ w hw=>?_)
   exact⟨by rw[Af (k:=k) (by omega) (by omega) hx.2];rfl,hw.done⟩
end

end Go.Proofs.YtadnboagdhcedaaGreatDoor
