/- Several loud operations may be next; the ways meet again. Written by a program. -/
import Derived.Test.YtadnboagdhcedaaGreatDoorAuto
import Derived.Test.YtadnboagdhcedaaGreatDoorGLst3
import Derived.Test.YtadnboagdhcedaaGreatDoorGFun

set_option linter.unusedSimpArgs false
set_option linter.unusedVariables false
namespace Go.Ct
section
open Go Go.RowKit
section
variable{P:Program}{n:Nat}{Q:Exit->Act->World->Prop}{ks:List CK}{ops:Array Oper}{pl pl':oZ}{LL:List Nat}{Dl Dp Dq:List Nat}{S:List (Nat×Value)}{G:World->Prop}{w0:World}{M:List Nat}{H:List (Nat×Obj)}{A F:Fr}{O:List Ow}
inductive LS(P:Program)(n:Nat)(Q:Exit->Act->World->Prop)(ks:List CK)(ops:Array Oper)(Dl Dp Dq:List Nat)(S:List (Nat×Value))(G:World->Prop):oZ->List Nat->Prop where
 | nil:LS P n Q ks ops Dl Dp Dq S G .nil []
 | cons {i:Nat} {L:List Nat} {pl q:oZ} {E:List Nat} (h:gD P n Q ks ops pl Dl Dp Dq S G i L) (r:LS P n Q ks ops Dl Dp Dq S G q E):LS P n Q ks ops Dl Dp Dq S G (.two i L pl 0 [] q) (i::E)
theorem LS.get{pl:oZ}{E:List Nat}(h:LS P n Q ks ops Dl Dp Dq S G pl E):∀i∈E,gD P n Q ks ops .nil Dl Dp Dq S G i []:=by
 induction h with
 | nil=>exact λ _ h=>(List.not_mem_nil h).elim
 | cons h _ ih =>
  intro j hj
  rcases List.mem_cons.1 hj with rfl|hj
  ·exact h.me
  ·exact ih j hj
theorem gY{E:List Nat}{q:oZ}(hc:iL ops Dl Dp Dq E=true)(h:LS P n Q ks ops Dl Dp Dq S G q E):JR P n Q ks ops q Dl Dp Dq S G:=by
 simp only[iL,Bool.and_eq_true] at hc
 exact⟨Zt (pl':=.nil) (LL:=[]) hc.1.1 hc.1.2 hc.2 h.get⟩
theorem si{X:Type}(keys:List Nat)(K:X->List (Nat×Value))(GI:X->World->Prop){c:Code}(hn:(keys.all λ k=>Nat.blt k n)=true)(hKn:∀x,((K x).all λ p=>Nat.blt p.1 n)=true)
  (h1:JK P n Q (.code c::.inv (kS n keys K GI (λ _=>0) S 1)::ks) S G) (h2:∀x f,JK P n Q ks (K x++(fY keys f++S)) (GI x)):JK P n Q (.code c::ks) S G:=⟨λ hS w hw=>by
 have h:=h1.run hS w hw
 simp only[runK] at h ⊢
 intro b k cs
 obtain⟨e,a₁,w₁,hq,harr⟩:=h b k cs
 rw[L6] at hq
 refine⟨e,a₁,w₁,?_,harr⟩
 cases e with
 | normal =>
  obtain⟨x',S1,_,rfl,_,hk',hp',hg'⟩:=hq
  have:=(h2 x' (look S1)).run ((hS.fY hn).kP (hKn x')) w₁ hg'
  rw[<- O2 hp' hk'] at this
  exact this
 | exit id=>exact hq
 | goto l=>exact hq
 | ret=>exact hq
 | panic ch=>exact hq
 | outgrown=>exact hq⟩
theorem dV{Y:Type}(keys:List Nat)(K:Y->List (Nat×Value))(I:Y->Prop)(H1:Y->List (Nat×Obj))(F1:Y->Fr)(O1:Y->List Ow){c:Code}(hn:(keys.all λ k=>Nat.blt k n)=true)(hKn:∀x,((K x).all λ p=>Nat.blt p.1 n)=true)
  (h1:JK P n Q (.code c::.inv (kS n keys K (λ x w=>I x/\SF w0 M (H1 x) A (F1 x) (O1 x) w) (λ _=>0) S 1)::ks) S (SF w0 M H A F O))
  (h2:∀x f,I x->JK P n Q ks (K x++(fY keys f++S)) (SF w0 M (H1 x) A (F1 x) (O1 x))):JK P n Q (.code c::ks) S (SF w0 M H A F O):=si keys K _ hn hKn h1 λ x f=>Yl λ h=>h2 x f h
theorem Q4{H':List (Nat×Obj)}{O':List Ow}(hH:H'.Perm H)(hO:O'.Perm O):(Ks H' O').Perm (Ks H O):=(hH.map _).append (List.Perm.flatMap_right _ hO)
theorem St.perm{w w0:World}{H H':List (Nat×Obj)}(h:St w0 M H w)(hs:H'.Perm H):St w0 M H' w:=⟨h.os,h.tape,h.output,h.size,h.jK,λ p hp=>h.has p (hs.mem_iff.1 hp),λ p hp=>h.new p (hs.mem_iff.1 hp),(hs.map _).nodup_iff.2 h.nodup⟩
theorem SF.perm{w:World}{H':List (Nat×Obj)}{O':List Ow}(h:SF w0 M H A F O w)(hH:H'.Perm H)(hO:O'.Perm O):SF w0 M H' A F O' w:=by
 have hs:=Q4 hH hO
 exact⟨h.st.perm hH,λ f hf=>⟨(h.bM f hf).1,λ hc hm=>(h.bM f hf).2 hc (hs.mem_iff.1 hm)⟩,λ f hf=>⟨(h.new f hf).1,λ hc=>⟨λ hm=>((h.new f hf).2 hc).1 (hs.mem_iff.1 hm),((h.new f hf).2 hc).2⟩⟩,λ o ho=>h.own o (hO.mem_iff.1 ho),hs.nodup_iff.2 h.dis⟩
end
end
end Go.Ct
namespace Go.Proofs.YtadnboagdhcedaaGreatDoor
section
open Go Go.RowKit Go.Ct
variable{n:Nat}{Q:Exit->Act->World->Prop}{ks:List CK}{S:List (Nat×Value)}{ops:Array Oper}{l ol:List Oper}{pl:oZ}{LL:List Nat}{Dl Dp Dq:List Nat}
variable{w0:World}{M:List Nat}{H:List (Nat×Obj)}{A F:Fr}{O:List Ow}{G:World->Prop}{i d:Nat}{v:Value}{op:Op}{ty:TypeId}{pos:String}{af:Array Edge}{gd:Option (Nat×Bool)}{X:Type}{V:X->Value}{G':X->World->Prop}{j g:Nat}{want t:Bool}
theorem xJ(ho:eJ ol i ⟨some d,op,ty,pos,af,gd⟩:=by exact gJ)(hw:Region.wanted ⟨some d,op,ty,pos,af,gd⟩ (bE ⟨ol⟩ S)=true:=by exact rfl)(hq:bJ Tryz.prog S G ⟨some d,op,ty,pos,af,gd⟩ X V G':=by exact rK)(hc:iJ ⟨ol⟩ n Dl Dp Dq i (some d)=true:=by decide +kernel)(hL:((Ct.waiting ⟨ol⟩ Dq i).all λ j=>LL.elem j)=true:=by decide +kernel)(hfire:∀x,aN Tryz.prog ⟨ol⟩ ((d,V x)::S) (G' x) LL:=by exact pA)(h:∀x,JR Tryz.prog n Q ks ⟨ol⟩ pl (i::Dl) Dp Dq ((d,V x)::S) (G' x)):gD Tryz.prog n Q ks ⟨ol⟩ pl Dl Dp Dq S G i LL:=nB ho hw hq hc hL hfire h
theorem gB(ho:eJ ol i ⟨some d,op,ty,pos,af,gd⟩:=by exact gJ)(hw:Region.wanted ⟨some d,op,ty,pos,af,gd⟩ (bE ⟨ol⟩ S)=true:=by exact rfl)(hq:bJ Tryz.prog S G ⟨some d,op,ty,pos,af,gd⟩ X V G':=by exact Ic)(hc:iJ ⟨ol⟩ n Dl Dp Dq i (some d)=true:=by decide +kernel)(hL:((Ct.waiting ⟨ol⟩ Dq i).all λ j=>LL.elem j)=true:=by decide +kernel)(hfire:∀x,aN Tryz.prog ⟨ol⟩ ((d,V x)::S) (G' x) LL:=by exact pA)(h:∀x,JR Tryz.prog n Q ks ⟨ol⟩ pl (i::Dl) Dp Dq ((d,V x)::S) (G' x)):gD Tryz.prog n Q ks ⟨ol⟩ pl Dl Dp Dq S G i LL:=nB ho hw hq hc hL hfire h
theorem Ll(ho:eJ ol i ⟨some d,op,ty,pos,af,gd⟩:=by exact gJ)(hw:Region.wanted ⟨some d,op,ty,pos,af,gd⟩ (bE ⟨ol⟩ S)=true:=by exact rfl)(hq:bJ Tryz.prog S G ⟨some d,op,ty,pos,af,gd⟩ X V G')(hc:iJ ⟨ol⟩ n Dl Dp Dq i (some d)=true:=by decide +kernel)(hL:((Ct.waiting ⟨ol⟩ Dq i).all λ j=>LL.elem j)=true:=by decide +kernel)(hfire:∀x,aN Tryz.prog ⟨ol⟩ ((d,V x)::S) (G' x) LL:=by exact pA)(h:∀x,JR Tryz.prog n Q ks ⟨ol⟩ pl (i::Dl) Dp Dq ((d,V x)::S) (G' x)):gD Tryz.prog n Q ks ⟨ol⟩ pl Dl Dp Dq S G i LL:=nB ho hw hq hc hL hfire h
theorem kU{φ:X->Prop}(ho:eJ ol i ⟨some d,op,ty,pos,af,gd⟩:=by exact gJ)(hw:Region.wanted ⟨some d,op,ty,pos,af,gd⟩ (bE ⟨ol⟩ S)=true:=by exact rfl)(hq:bJ Tryz.prog S G ⟨some d,op,ty,pos,af,gd⟩ X V (λ x w=>φ x/\G' x w))(hc:iJ ⟨ol⟩ n Dl Dp Dq i (some d)=true:=by decide +kernel)(hL:((Ct.waiting ⟨ol⟩ Dq i).all λ j=>LL.elem j)=true:=by decide +kernel)(hfire:∀x,aN Tryz.prog ⟨ol⟩ ((d,V x)::S) (λ w=>φ x/\G' x w) LL:=by exact pA)(h:∀x,φ x->JR Tryz.prog n Q ks ⟨ol⟩ pl (i::Dl) Dp Dq ((d,V x)::S) (G' x)):gD Tryz.prog n Q ks ⟨ol⟩ pl Dl Dp Dq S G i LL:=nB ho hw hq hc hL hfire λ x=>fW (h x)
end

/- The engine, part 12: a callee that may change several of its caller's blocks and own lists. -/
end Go.Proofs.YtadnboagdhcedaaGreatDoor
namespace Go.Ct
section
open Go Go.RowKit
section
variable{α:Type}
inductive Sb:List α->Nat->α->Prop where
 | head {a:α} {l:List α}:Sb (a::l) 0 a
 | tail {a b:α} {l:List α} {i:Nat}:Sb l i b->Sb (a::l) (i+1) b
def P2:List α->Nat->List α
 | [],_=>[]
 | _::r,0=>r
 | p::r,i+1=>p::P2 r i
def N3:List α->Nat->α->List α
 | l,0,a=>a::l
 | p::r,i+1,a=>p::N3 r i a
 | [],_+1,a=>[a]
inductive Be:List α->List Nat->List α->List α->Prop where
 | nil {l:List α}:Be l [] [] l
 | cons {l es r:List α} {i:Nat} {a:α} {js:List Nat}:Sb l i a->Be (P2 l i) js es r->Be l (i::js) (a::es) r
def B0:List Nat->List α->List α->List α
 | i::js,a::es,r=>N3 (B0 js es r) i a
 | _,_,r=>r
theorem Sb.perm{l:List α}{i:Nat}{a:α}(h:Sb l i a):l.Perm (a::P2 l i):=by
 induction h with
 | head=>exact List.Perm.refl _
 | tail _ ih=>exact(ih.cons _).trans (List.Perm.swap _ _ _)
theorem Hb(a:α):∀(l:List α) (i:Nat),(N3 l i a).Perm (a::l)
 | l,0=>by cases l<;>exact List.Perm.refl _
 | [],_+1=>List.Perm.refl _
 | p::r,i+1=>((Hb a r i).cons p).trans (List.Perm.swap _ _ _)
theorem Be.perm{l es r:List α}{js:List Nat}(h:Be l js es r):l.Perm (es++r):=by
 induction h with
 | nil=>exact List.Perm.refl _
 | cons h _ ih=>exact h.perm.trans (ih.cons _)
theorem As:∀(js:List Nat) (es r:List α),js.length=es.length->(B0 js es r).Perm (es++r)
 | [],[],_,_=>List.Perm.refl _
 | i::js,a::es,r,h=>(Hb a _ i).trans ((As js es r (by simpa using h)).cons a)
 | [],_::_,_,h=>by simp at h
 | _::_,[],_,h=>by simp at h
end
section
variable{P:Program}{S:List (Nat×Value)}{w0 w w':World}{M:List Nat}{H H' hs:List (Nat×Obj)}{A F:Fr}{O O' os:List Ow}{is js:List Nat}
def Has(A F:Fr)(O:List Ow)(f:Option Addr×List Value):Prop:=f.2=[]∨f∈A∨f∈F∨∃o∈O,o.p=f.1/\o.cs=f.2
inductive bQ(A F:Fr)(O:List Ow):Fr->Prop where
 | nil:bQ A F O []
 | cons {f:Option Addr×List Value} {r:Fr} (h:Has A F O f) (hr:bQ A F O r):bQ A F O (f::r)
 | of {A0:Fr} (h:∀f∈A0,Has A F O f):bQ A F O A0
theorem bQ.get{A0:Fr}(h:bQ A F O A0):∀f∈A0,Has A F O f:=by
 induction h with
 | nil=>intro f hf;exact(List.not_mem_nil hf).elim
 | cons h _ ih =>
  intro f hf
  rcases List.mem_cons.1 hf with rfl|hf
  ·exact h
  ·exact ih f hf
 | of h=>exact h
theorem vQ.kX{a:Option Addr}{cs:List Value}:∀{F:Fr},(a,cs)∈F->vQ F a cs
 | [],h=>(List.not_mem_nil h).elim
 | (b,d)::F,h=>by
  rcases List.mem_cons.1 h with h|h
  ·cases h;exact .head
  ·exact .tail (vQ.kX h)
theorem aW.oP{F:Fr}:∀{F':Fr},(∀f∈F',f∈F)->aW F F'
 | [],_=>.nil
 | (a,cs)::F',h=>.cons (vQ.kX (h _ (List.mem_cons_self ..))) (aW.oP λ f hf=>h f (List.mem_cons_of_mem _ hf))
theorem SF.xd(h:SF w0 M H A F O w){f:Option Addr×List Value}(hf:Has A F O f):Cl w f.1 f.2:=by
 rcases hf with h0|h1|h1|⟨o,ho,h1,h2⟩
 ·rw[h0];exact Cl.nil _ _
 ·exact(h.bM f h1).1
 ·exact(h.new f h1).1
 ·rw[<- h1,<- h2];exact(h.own o ho).1.cl
theorem SF.tH{w0 w:World}{M:List Nat}{H:List (Nat×Obj)}{A F:Fr}{O:List Ow}(h:SF w0 M H A F O w){L:List aL}{cs:List Int}{pn pc:Option Addr}(h1:Has A F O (pn,gR L))(h2:Has A F O (pc,aG cs))(h3:∀f∈aV L,Has A F O f)(hf:Fits L):gS w L cs pn pc :=
 ⟨h.xd h1,h.xd h2,λ f hm=>h.xd (h3 f hm),hf⟩
theorem SF.Ff(h:SF w0 M H A F O w)(hH:Be H is hs H')(hO:Be O js os O'){A0:Fr}(hA:bQ A F O' A0):SF w (Ks hs os) hs A0 [] os w:=by
 have pH:=hH.perm
 have pO:=hO.perm
 have h1:=h.perm pH.symm pO.symm
 have hnd:=(Q4 pH.symm pO.symm).nodup_iff.2 h.dis
 have sub:(Ks hs os).Sublist (Ks (hs++H') (os++O')):=by
  unfold Ks
  rw[List.map_append,List.flatMap_append]
  exact(List.sublist_append_left _ _).append (List.sublist_append_left _ _)
 have nd1:(Ks hs os).Nodup:=hnd.sublist sub
 have kperm:(Ks (hs++H') (os++O')).Perm (Ks hs os++Ks H' O'):=by
  unfold Ks
  rw[List.map_append,List.flatMap_append]
  simp only[List.append_assoc]
  refine List.Perm.append_left _ ?_
  rw[<- List.append_assoc,<- List.append_assoc]
  exact List.Perm.append_right _ List.perm_append_comm
 have disj:∀b∈Ks hs os,b∉Ks H' O':=λ b hb hm=>(List.nodup_append.1 (kperm.nodup_iff.1 hnd)).2.2 b hb b hm rfl
 refine⟨⟨rfl,rfl,rfl,Nat.le_refl _,λ _ _ _=>rfl,λ p hp=>h1.st.has p (List.mem_append_left _ hp),λ p hp=>.inl (dR.2 (.inl ⟨p,hp,rfl⟩)),(List.nodup_append.1 nd1).1⟩,λ f hf=>?_,λ _ h=>(List.not_mem_nil h).elim,λ o ho=>⟨(h1.own o (List.mem_append_left _ ho)).1,λ b hb=>.inr (dR.2 (.inr ⟨o,ho,hb⟩))⟩,nd1⟩
 have hg:=hA.get f hf
 refine⟨?_,λ hc hm=>?_⟩
 ·rcases hg with h0|h2|h2|⟨o,ho,h2,h3⟩
  ·rw[h0];exact Cl.nil _ _
  ·exact(h.bM f h2).1
  ·exact(h.new f h2).1
  ·rw[<- h2,<- h3];exact(h1.own o (List.mem_append_right _ ho)).1.cl
 ·rcases hg with h0|h2|h2|⟨o,ho,h2,h3⟩
  ·exact hc h0
  ·exact(h1.bM f h2).2 hc (sub.subset hm)
  ·exact((h1.new f h2).2 hc).1 (sub.subset hm)
  ·have hok:=(h1.own o (List.mem_append_right _ ho)).1
   have hb:=hok.Nr (by rw[h3];exact hc)
   exact disj _ hm (dR.2 (.inr ⟨o,ho,by rw[hb,h2];exact List.mem_singleton.2 rfl⟩))
theorem SF.Ri(h:SF w0 M H A F O w)(hH:Be H is hs H')(hO:Be O js os O'){hs' Hc:List (Nat×Obj)}{os' Oc:List Ow}{Fc:Fr}
  (hc:SF w (Ks hs os) (hs'++Hc) [] Fc (os'++Oc) w') (h1:is.length=hs'.length) (h2:js.length=os'.length) :
  SF w0 M (Hc++B0 is hs' H') A (Fc++F) (Oc++B0 js os' O') w':=by
 have pH:=hH.perm
 have pO:=hO.perm
 have hp:=h.perm pH.symm pO.symm
 have qH:=As is hs' H' h1
 have qO:=As js os' O' h2
 have kperm:∀(a c:List (Nat×Obj)) (b d:List Ow),(Ks (a++c) (b++d)).Perm (Ks a b++Ks c d):=λ a c b d=>by
  unfold Ks
  rw[List.map_append,List.flatMap_append]
  simp only[List.append_assoc]
  refine List.Perm.append_left _ ?_
  rw[<- List.append_assoc,<- List.append_assoc]
  exact List.Perm.append_right _ List.perm_append_comm
 have nd0:=(kperm hs H' os O').nodup_iff.1 hp.dis
 have disj:∀b∈Ks hs os,b∉Ks H' O':=λ b hb hm=>(List.nodup_append.1 nd0).2.2 b hb b hm rfl
 have sub:∀b∈Ks hs' os',b∈Ks (hs'++Hc) (os'++Oc):=λ b hb=>(kperm hs' Hc os' Oc).mem_iff.2 (List.mem_append_left _ hb)
 have nd1:(Ks (hs'++H') (os'++O')).Nodup:=by
  rw[(kperm hs' H' os' O').nodup_iff]
  refine List.nodup_append.2 ⟨(List.nodup_append.1 ((kperm hs' Hc os' Oc).nodup_iff.1 hc.dis)).1,(List.nodup_append.1 nd0).2.1,λ a ha b hb e=>?_⟩
  subst e
  rcases hc.Pg a (sub a ha) with h3|h3
  ·have:=hp.lt a ((kperm hs H' os O').mem_iff.2 (List.mem_append_right _ hb))
   omega
  ·exact disj a h3 hb
 have r:=hp.Yo (D:=Ks hs os) (Hm:=hs') (Hc:=Hc) (H1:=hs'++H') (Fc:=Fc) (Om:=os') (Oc:=Oc) (O1:=os'++O') hc (λ b hb=>(kperm hs H' os O').mem_iff.2 (List.mem_append_left _ hb))
  (λ p hpm=>by
   rcases List.mem_append.1 hpm with h3|h3
   ·exact .inl h3
   ·exact .inr ⟨List.mem_append_right _ h3,λ hm=>disj _ hm (dR.2 (.inl ⟨p,h3,rfl⟩))⟩)
  (λ o ho=>by
   rcases List.mem_append.1 ho with h3|h3
   ·exact .inl h3
   ·exact .inr ⟨List.mem_append_right _ h3,λ b hb hm=>disj _ hm (dR.2 (.inr ⟨o,h3,hb⟩))⟩)
  nd1
 exact r.perm (List.Perm.append_left _ qH) (List.Perm.append_left _ qO)
theorem SF.eN(h:SF w0 M H A F O w){F':Fr}(hF:∀f∈F',f.2=[]∨f∈F):SF w0 M H A F' O w:=⟨h.st,h.bM,λ f hf=>by
 rcases hF f hf with h0|h1
 ·exact⟨by rw[h0];exact Cl.nil _ _,λ hc=>absurd h0 hc⟩
 ·exact h.new f h1,h.own,h.dis⟩
theorem SF.au{o1 o2:Ow}(h:SF w0 M H A F (o1::o2::O) w):SF w0 M H A F (o2::o1::O) w:=h.perm (List.Perm.refl _) (List.Perm.swap _ _ _)
theorem SF.zn{L:List aL}{v:aL}{F':Fr}(h:SF w0 M H A F O w)(h1:(v.nd.brA,aG v.xs)∈F)(h2:(v.nd.prA,dF v.ys)∈F)(h3:∀f∈aV L,f∈F):SF w0 M H A (aV (L++[v])) O w:=h.eN λ f hf=>by
 rw[dB] at hf
 rcases List.mem_append.1 hf with hf|hf
 ·exact .inr (h3 f hf)
 ·simp only[aV,List.flatMap_cons,List.flatMap_nil,List.append_nil,aL.fr,List.mem_cons,List.not_mem_nil,or_false] at hf
  rcases hf with rfl|rfl
  ·exact .inr h1
  ·exact .inr h2
theorem aW.all{F:Fr}:aW F F:=aW.oP λ _ h=>h
theorem SF.v4{w:World}{H':List (Nat×Obj)}{O':List Ow}(h:SF w0 M H A F O w)(hH:H'.Sublist H:=by repeat (first|exact List.nil_sublist _|apply List.Sublist.cons_cons|apply List.Sublist.cons))(hO:O'.Sublist O:=by repeat (first|exact List.nil_sublist _|apply List.Sublist.cons_cons|apply List.Sublist.cons)):SF w0 M H' [] F O' w:=h.aT hH aW.all hO
theorem SF.v6{w:World}{H':List (Nat×Obj)}{O':List Ow}(h:SF w0 M H A F O w)(hH:H'.Sublist H:=by repeat (first|exact List.Sublist.refl _|exact List.nil_sublist _|apply List.Sublist.cons))(hO:O'.Sublist O:=by repeat (first|exact List.Sublist.refl _|exact List.nil_sublist _|apply List.Sublist.cons)):SF w0 M H' A F O' w:=h.back hH aW.all hO
end
end

/- Memories: the rule for calls that may change them. -/
end Go.Ct
namespace Go.Proofs.YtadnboagdhcedaaGreatDoor
section
open Go Go.RowKit Go.Ct
abbrev mO(L:List aL)(cs:List Int)(gen acc:Int)(pn:Option Addr)(cn:Nat)(pc:Option Addr)(cc:Nat):Obj:=.cells ⟨[.slice pn L.length cn,.slice pc cs.length cc,.int .i64 gen,.int .i64 acc]⟩ 35 (0,0)
abbrev aO(L:List aL)(cs:List Int)(gen acc:Int)(pn:Option Addr)(cn:Nat)(pc:Option Addr)(cc:Nat):Obj:=.cells ⟨[.slice pn L.length cn,.slice pc cs.length cc,.int .i64 gen,.int .i64 acc]⟩ 153 (0,0)
abbrev mW(L:List aL)(cs:List Int)(pn:Option Addr)(cn:Nat)(pc:Option Addr)(cc:Nat):List Ow:=[⟨pn,gR L,cn,77,14⟩,⟨pc,aG cs,cc,62,1⟩]
theorem tO{w0 w:World}{D:List Nat}{b:Nat}{L:List aL}{cs:List Int}{gen acc:Int}{pn pc:Option Addr}{cn cc:Nat}{A F:Fr}(h:SF w0 D [(b,mO L cs gen acc pn cn pc cc)] A F (mW L cs pn cn pc cc) w) :
  SF w0 D [(b,.cells ⟨[.slice pn L.length cn,.slice pc cs.length cc,.int .i64 gen,.int .i64 acc]⟩ 35 (0,0))] A F [⟨pn,gR L,cn,77,14⟩,⟨pc,aG cs,cc,62,1⟩] w:=h
variable{S:List (Nat×Value)}{w0 w:World}{M:List Nat}{H:List (Nat×Obj)}{A F:Fr}{O:List Ow}{ty:TypeId}{pos:String}{af:Array Edge}{gd:Option (Nat×Bool)}{X:Type}{V:X->Value}
theorem cM{φ:X->Prop}{hs H':List (Nat×Obj)}{os O':List Ow}{hs' H1:X->List (Nat×Obj)}{os' O1:X->List Ow}{Fc F1:X->Fr}{A0:Fr}{is js:List Nat}{f:FuncId}{xs:List Operand}{at_:Array TypeId}{vs:List Value}{dst:Option Nat}
  (ha:yS S xs=vs:=by(repeat (first|exact pB _|(apply mM;focus ((conv=>{lhs;whnf});try exact rfl))));first|done|fail) (hp:plain Tryz.prog f=true:=by kernel_rfl)
  (hc:∀w,SF w (Ks hs os) hs A0 [] os w->Calls Tryz.prog f ⟨vs⟩ w λ e w'=>∃x,e=.returned (V x)/\φ x/\SF w (Ks hs os) (hs' x) [] (Fc x) (os' x) w')
  (hH:Be H is hs H':=by(repeat (first|exact Be.nil|(apply Be.cons;(focus ((repeat (first|exact Sb.head|apply Sb.tail));done));simp only[P2])));first|done|fail)
  (hO:Be O js os O':=by(repeat (first|exact Be.nil|(apply Be.cons;(focus ((repeat (first|exact Sb.head|apply Sb.tail));done));simp only[P2])));first|done|fail)
  (hA:bQ A F O' A0:=by(repeat (first|exact bQ.of (λ _ h=>Or.inr (Or.inl h))|exact bQ.nil|(refine bQ.cons (by first|exact Or.inl rfl|exact Or.inr (Or.inr (Or.inl (by simp)))|exact Or.inr (Or.inl (by simp))|exact Or.inr (Or.inr (Or.inr (by simp)))) ?_)));first|done|fail)
  (hl1:∀x,is.length=(hs' x).length:=by intro x;exact rfl) (hl2:∀x,js.length=(os' x).length:=by intro x;exact rfl)
  (hH1:∀x,B0 is (hs' x) H'=H1 x:=by intro x;first|(simp only[B0,N3];exact rfl)|exact rfl) (hF1:∀x,Fc x++F=F1 x:=by intro x;first|(simp only[List.nil_append,List.cons_append];exact rfl)|exact rfl) (hO1:∀x,B0 js (os' x) O'=O1 x:=by intro x;simp only[B0,N3,mW];exact rfl) :
  bJ Tryz.prog S (SF w0 M H A F O) ⟨dst,.call {callee:=.value (.func f),args:=⟨xs⟩,argTypes:=at_},ty,pos,af,gd⟩ X V (λ x w=>φ x/\SF w0 M (H1 x) A (F1 x) (O1 x) w) :=
 kL (mJ hp ha) λ w hw=>(hc w (hw.Ff hH hO hA)).mono λ _ _ ⟨x,he,hx,hs⟩=>⟨x,he,hx,by
  have:=hw.Ri (hs':=hs' x) (Hc:=[]) (os':=os' x) (Oc:=[]) hH hO (by simpa using hs) (hl1 x) (hl2 x)
  rw[<- hH1 x,<- hF1 x,<- hO1 x]
  simpa using this⟩
end

/- The small methods of the two memories: cells, generations, loads, compare-and-swaps. -/
section
open Go.RowKit Go.Ct
variable{w:World}{D:List Nat}{b:Nat}{L:List aL}{cs:List Int}{gen acc:Int}{pn pc:Option Addr}{cn cc:Nat}{A:Fr}
theorem iY(v:Int)(hs:SF w D [(b,mO L cs gen acc pn cn pc cc)] A [] (mW L cs pn cn pc cc) w)(hl:cs.length<=274877906944) :
  Calls Tryz.prog 33 #[.pointer (some ⟨b,0,none⟩),.int .i64 v] w λ e w'=>∃q:Option Addr×Nat,e=.returned (.int .i64 ((cs.length+1:Nat):Int))/\True /\
   SF w D [(b,mO L (cs++[v]) gen acc pn cn q.1 q.2)] [] [] (mW L (cs++[v]) pn cn q.1 q.2) w':=by
 refine enter Tryz.func33 Tryz.ntmps33 rfl rfl (tO hs) ?_
 simp only[cP]
 refine cQ ?_;refine iQ ?_;refine Ky ?_;refine J3 ?_;refine aB ?_;refine fF (λ x12=>?_);(refine eL (λ x13=>?_);try (refine eZ (λ h13=>?_)));refine Ky ?_;refine xC ?_;refine Fo ?_;refine Mx ?_;refine J1 ?_
 refine aQ Tryz.results33 (λ w hw=>?_)
 exact⟨x13,rfl,trivial,by simpa[mO,mW] using hw.aT (F':=[])⟩
end

/- The small methods of the two memories: generations, loads, compare-and-swaps. -/
end Go.Proofs.YtadnboagdhcedaaGreatDoor
namespace Go.Ct
section
def bV(cs:List Int)(c:Int):Int:=if 1<=c/\c<=cs.length then cs.getD (c-1).toNat 0 else 0
def iT(cs:List Int)(c bM:Int):Prop:=1<=c/\c<=cs.length/\cs.getD (c-1).toNat 0=bM
def gF(cs:List Int)(c bM new:Int):List Int:=if 1<=c/\c<=cs.length/\cs.getD (c-1).toNat 0=bM then cs.set (c-1).toNat new else cs
def up(i:Int):Int:=Go.IntKind.i64.wrap (i+1)
theorem zB{cs:List Int}{c:Int}(h:¬(1<=c/\c<=cs.length)):bV cs c=0:=if_neg h
theorem C7{cs:List Int}{k:Nat}(h:k<cs.length):bV cs ((k+1:Nat):Int)=cs.getD k 0:=by
 unfold bV
 rw[if_pos (by omega),show(((k+1:Nat):Int)-1).toNat=k by omega]
theorem zE{cs:List Int}{c bM new:Int}(h:¬(1<=c/\c<=cs.length/\cs.getD (c-1).toNat 0=bM)):gF cs c bM new=cs:=if_neg h
theorem ew{cs:List Int}{k:Nat}{bM new:Int}(h:k<cs.length)(ho:cs.getD k 0=bM):gF cs ((k+1:Nat):Int) bM new=cs.set k new:=by
 have e:(((k+1:Nat):Int)-1).toNat=k:=by omega
 unfold gF
 rw[e,if_pos ⟨by omega,by omega,ho⟩]
theorem v3{cs:List Int}{c bM:Int}(h:c<1):(false=true↔iT cs c bM):=⟨(λ h=>nomatch h),λ h2=>absurd h2.1 (by omega)⟩
theorem jm{cs:List Int}{c bM new:Int}(h:c<1):gF cs c bM new=cs:=zE (by omega)
theorem rb{cs:List Int}{c bM:Int}(h:(cs.length:Int)<c):(false=true↔iT cs c bM):=⟨(λ h=>nomatch h),λ h2=>absurd h2.2.1 (by omega)⟩
theorem ji{cs:List Int}{c bM new:Int}(h:(cs.length:Int)<c):gF cs c bM new=cs:=zE (by omega)
theorem tc{cs:List Int}{k:Nat}{bM:Int}(h:cs.getD k 0≠bM):(false=true↔iT cs ((k+1:Nat):Int) bM):=⟨(λ h=>nomatch h),λ h2=>absurd (by have:=h2.2.2;rwa [show(((k+1:Nat):Int)-1).toNat=k by omega] at this) h⟩
theorem k9{cs:List Int}{k:Nat}{bM new:Int}(h:cs.getD k 0≠bM):gF cs ((k+1:Nat):Int) bM new=cs:=zE λ h2=>absurd (by have:=h2.2.2;rwa [show(((k+1:Nat):Int)-1).toNat=k by omega] at this) h
theorem vf{cs:List Int}{k:Nat}{bM:Int}(hk:k<cs.length)(h:cs.getD k 0=bM):(true=true↔iT cs ((k+1:Nat):Int) bM):=⟨λ _=>⟨by omega,by omega,by rw[show(((k+1:Nat):Int)-1).toNat=k by omega];exact h⟩,λ _=>rfl⟩
theorem kF{cs:List Int}{c bM new:Int}:(gF cs c bM new).length=cs.length:=by unfold gF;split<;>simp
end
end Go.Ct
namespace Go.Proofs.YtadnboagdhcedaaGreatDoor
section
open Go.RowKit Go.Ct
variable{w:World}{D:List Nat}{b:Nat}{L:List aL}{cs:List Int}{gen acc:Int}{pn pc:Option Addr}{cn cc:Nat}{A:Fr}
theorem Gm(hs:SF w D [(b,mO L cs gen acc pn cn pc cc)] A [] (mW L cs pn cn pc cc) w):Calls Tryz.prog 47 #[.pointer (some ⟨b,0,none⟩)] w λ e w'=>∃q:Unit,e=.returned (.int .i64 (up gen))/\True/\SF w D [(b,mO L cs (up gen) acc pn cn pc cc)] [] [] (mW L cs pn cn pc cc) w':=by
 refine enter Tryz.func47 Tryz.ntmps47 rfl rfl (tO hs) ?_
 simp only[cP]
 refine cQ ?_;refine Fo ?_;refine J3 ?_;refine aE (vW rf rf) rfl ?_;refine Ky ?_;refine xC ?_;refine Fo ?_;refine J3 ?_;refine J1 ?_
 refine aQ Tryz.results47 (λ w hw=>?_)
 exact⟨(),rfl,trivial,by simpa[mO,mW] using hw.aT (F':=[])⟩
theorem Wr(hs:SF w D [(b,mO L cs gen acc pn cn pc cc)] A [] (mW L cs pn cn pc cc) w)(c:Int)(hc:c<1):Calls Tryz.prog 143 #[.pointer (some ⟨b,0,none⟩),.int .i64 c] w λ e w'=>∃q:Unit,e=.returned (.int .i64 (bV cs c))/\True/\SF w D [(b,mO L cs gen (up acc) pn cn pc cc)] [] [] (mW L cs pn cn pc cc) w':=by
 refine enter Tryz.func143 Tryz.ntmps143 rfl rfl (tO hs) ?_
 simp only[cP]
 refine cQ ?_;refine nA ?_;refine aE (vW rf rf) rfl ?_;refine a8 ?_;refine kR ?_;refine Ec ?_
 (refine eF 14 (λ g14=>?_) (λ g14=>?_)<;>(try (exfalso;omega))<;>(refine aH ?_))
 refine tq ?_;refine Um ?_;refine Kb5 ?_
 refine aZ (λ c23=>?_) (λ c23=>?_)
 ·try (exfalso;omega)
  refine cQ ?_
  refine aQ Tryz.results143 (λ w hw=>?_)
  (exact⟨(),by rw[zB (by omega)];rfl,trivial,hw.aT⟩)
 ·exact nv c23
theorem j1(hs:SF w D [(b,mO L cs gen acc pn cn pc cc)] A [] (mW L cs pn cn pc cc) w)(c:Int)(bM new:Int)(hc:c<1):Calls Tryz.prog 145 #[.pointer (some ⟨b,0,none⟩),.int .i64 c,.int .i64 bM,.int .i64 new] w λ e w'=>∃r:Bool,e=.returned (.bool r)/\(r=true↔iT cs c bM)/\SF w D [(b,mO L (gF cs c bM new) gen (up acc) pn cn pc cc)] [] [] (mW L (gF cs c bM new) pn cn pc cc) w':=by
 refine enter Tryz.func145 Tryz.ntmps145 rfl rfl (tO hs) ?_
 simp only[cP]
 refine cQ ?_;refine nA ?_;refine aE (vW rf rf) rfl ?_;refine a8 ?_;refine kR ?_;refine Ec ?_
 (refine eF 18 (λ g18=>?_) (λ g18=>?_)<;>(try (exfalso;omega))<;>(refine aH ?_))
 refine tq ?_;refine Um ?_;refine Ez ?_;refine aB ?_
 refine aH ?_
 refine J36 ?_;refine J6 ?_;refine J68 ?_;(refine aH ?_);refine pu ?_;refine Ua ?_;refine aI ?_
 refine aZ (λ c40=>?_) (λ c40=>?_)
 ·try (exfalso;omega)
  refine cQ ?_
  refine aQ Tryz.results145 (λ w hw=>?_)
  (exact⟨false,rfl,v3 hc,by rw[jm hc];exact hw.aT⟩)
 ·exact nv c40
theorem W5(hs:SF w D [(b,mO L cs gen acc pn cn pc cc)] A [] (mW L cs pn cn pc cc) w){k:Nat}(hk:(k:Int)<9223372036854775807)(hl:cs.length<=274877906944):Calls Tryz.prog 143 #[.pointer (some ⟨b,0,none⟩),.int .i64 ((k+1:Nat):Int)] w λ e w'=>∃q:Unit,e=.returned (.int .i64 (bV cs ((k+1:Nat):Int)))/\True/\SF w D [(b,mO L cs gen (up acc) pn cn pc cc)] [] [] (mW L cs pn cn pc cc) w':=by
 refine enter Tryz.func143 Tryz.ntmps143 rfl rfl (tO hs) ?_
 simp only[cP]
 refine cQ ?_;refine nA ?_;refine aE (vW rf rf) rfl ?_;refine a8 ?_;refine kR ?_;refine Ec ?_
 (refine Ka4 ?_)
 refine tq ?_;refine Um ?_;refine Kb5 ?_
 refine aZ (λ c23=>?_) (λ c23=>?_)
 ·try (exfalso;omega)
  refine cQ ?_
  refine aQ Tryz.results143 (λ w hw=>?_)
  (exact⟨(),by rw[zB (by omega)];rfl,trivial,hw.aT⟩)
 ·try (exfalso;omega)
  refine bA ?_;refine Fo ?_;refine J3 ?_;refine aB ?_;refine pC ?_;refine To ?_;refine J1 ?_
  refine aQ Tryz.results143 (λ w hw=>?_)
  (exact⟨(),by rw[C7 (by omega)];rfl,trivial,hw.aT⟩)
theorem m7(hs:SF w D [(b,mO L cs gen acc pn cn pc cc)] A [] (mW L cs pn cn pc cc) w){k:Nat}(hk:(k:Int)<9223372036854775807)(bM new:Int)(hl:cs.length<=274877906944):Calls Tryz.prog 145 #[.pointer (some ⟨b,0,none⟩),.int .i64 ((k+1:Nat):Int),.int .i64 bM,.int .i64 new] w λ e w'=>∃r:Bool,e=.returned (.bool r)/\(r=true↔iT cs ((k+1:Nat):Int) bM)/\SF w D [(b,mO L (gF cs ((k+1:Nat):Int) bM new) gen (up acc) pn cn pc cc)] [] [] (mW L (gF cs ((k+1:Nat):Int) bM new) pn cn pc cc) w':=by
 refine enter Tryz.func145 Tryz.ntmps145 rfl rfl (tO hs) ?_
 simp only[cP]
 refine cQ ?_;refine nA ?_;refine aE (vW rf rf) rfl ?_;refine a8 ?_;refine kR ?_;refine Ec ?_
 (refine Ka4 ?_)
 refine tq ?_;refine Um ?_;refine Ez ?_;refine aB ?_
 (refine eF 28 (λ g28=>?_) (λ g28=>?_)<;>refine Ka0 ?_)
 all_goals (refine J36 ?_;refine J6 ?_;refine J68 ?_;(first|refine aH ?_|(refine aF ?_;refine iX ?_));refine pu ?_;refine Ua ?_;refine aI ?_)
 all_goals
 refine aZ (λ c40=>?_) (λ c40=>?_)
 ·all_goals try (exfalso;omega)
  all_goals refine cQ ?_
  all_goals
   refine aQ Tryz.results145 (λ w hw=>?_)
   first|exact⟨false,rfl,rb (by omega),by rw[ji (by omega)];exact hw.aT⟩|exact⟨false,rfl,tc (by simpa using c40),by rw[k9 (by simpa using c40)];exact hw.aT⟩ 
 ·try exact nv c40
  all_goals (refine bA ?_;refine Fo ?_;refine J3 ?_;refine aB ?_;refine pC ?_;refine aB ?_;refine iX ?_;refine J5 ?_;refine cQ ?_)
  all_goals
   refine aQ Tryz.results145 (λ w hw=>?_)
   (exact⟨true,rfl,vf (by omega) (by simpa using c40),by rw[ew (by omega) (by simpa using c40)];simpa[mW,aO,mO] using hw.aT (F':=[])⟩)
theorem na(hs:SF w D [(b,mO L cs gen acc pn cn pc cc)] A [] (mW L cs pn cn pc cc) w)(c:Int)(hc:c<=9223372036854775807)(hl:cs.length<=274877906944):Calls Tryz.prog 143 #[.pointer (some ⟨b,0,none⟩),.int .i64 c] w λ e w'=>∃q:Unit,e=.returned (.int .i64 (bV cs c))/\True/\SF w D [(b,mO L cs gen (up acc) pn cn pc cc)] [] [] (mW L cs pn cn pc cc) w':=by
 rcases Int.lt_or_le c 1 with h|h
 ·exact Wr hs c h
 ·obtain⟨k,rfl⟩:∃k:Nat,c=((k+1:Nat):Int):=⟨(c-1).toNat,by omega⟩
  exact W5 hs (by omega) hl
theorem u4(hs:SF w D [(b,mO L cs gen acc pn cn pc cc)] A [] (mW L cs pn cn pc cc) w)(c bM new:Int)(hc:c<=9223372036854775807)(hl:cs.length<=274877906944):Calls Tryz.prog 145 #[.pointer (some ⟨b,0,none⟩),.int .i64 c,.int .i64 bM,.int .i64 new] w λ e w'=>∃r:Bool,e=.returned (.bool r)/\(r=true↔iT cs c bM)/\SF w D [(b,mO L (gF cs c bM new) gen (up acc) pn cn pc cc)] [] [] (mW L (gF cs c bM new) pn cn pc cc) w':=by
 rcases Int.lt_or_le c 1 with h|h
 ·exact j1 hs c bM new h
 ·obtain⟨k,rfl⟩:∃k:Nat,c=((k+1:Nat):Int):=⟨(c-1).toNat,by omega⟩
  exact m7 hs (by omega) bM new hl
end

/- Loops over slices that are read: contracts. -/
section
open Go.RowKit Go.Ct
theorem A3{α} [BEq α] [LawfulBEq α] {xs ys:List α}{k:Nat}(h:xs.length=ys.length)(hk:¬k<xs.length)(ht:xs.take k=ys.take k):(xs==ys)=true:=by
 rw[List.take_of_length_le (by omega),List.take_of_length_le (by omega)] at ht
 simp[ht]
theorem E5{α} [BEq α] [LawfulBEq α] {xs ys:List α}(h:xs.length≠ys.length):(xs==ys)=false:=by
 simp only[beq_eq_false_iff_ne,ne_eq]
 intro e;rw[e] at h;exact h rfl
theorem Dk{α} [BEq α] [LawfulBEq α] {xs ys:List α}{k:Nat}{d:α}(h:xs.getD k d≠ys.getD k d):(xs==ys)=false:=by
 simp only[beq_eq_false_iff_ne,ne_eq]
 intro e;rw[e] at h;exact h rfl
theorem A8{α} [DecidableEq α] {xs ys:List α}{k:Nat}(h:xs.length=ys.length)(hk:¬k<xs.length)(ht:xs.take k=ys.take k):decide (xs=ys)=true:=by
 rw[List.take_of_length_le (by omega),List.take_of_length_le (by omega)] at ht
 simp[ht]
theorem D0{α} [DecidableEq α] {xs ys:List α}(h:xs.length≠ys.length):decide (xs=ys)=false:=decide_eq_false λ e=>h (by rw[e])
theorem Dt{α} [DecidableEq α] {xs ys:List α}{k:Nat}{d:α}(h:xs.getD k d≠ys.getD k d):decide (xs=ys)=false:=decide_eq_false λ e=>h (by rw[e])
theorem uW{α}{xs ys:List α}{k:Nat}{d:α}(h:xs.take k=ys.take k)(hk:k<xs.length)(hl:xs.length=ys.length)(he:xs.getD k d=ys.getD k d):xs.take (k+1)=ys.take (k+1):=by
 rw[List.take_add_one,List.take_add_one,h,List.getElem?_eq_getElem hk,List.getElem?_eq_getElem (hl▸hk)]
 simp only[List.getD,List.getElem?_eq_getElem hk,List.getElem?_eq_getElem (hl▸hk:k<ys.length),Option.getD_some] at he
 rw[he]
theorem uy{xs ys:List Int}{a b:Option Addr}{ca cb:Nat}{w:World}(ha:Cl w a (aG xs))(hb:Cl w b (aG ys))(hx:xs.length<4611686018427387904) :
  Calls Tryz.prog 162 #[.slice a xs.length ca,.slice b ys.length cb] w λ e w'=>e=.returned (.bool (xs==ys))/\St w [] [] w':=by
 refine enter Tryz.func162 Tryz.ntmps162 rfl rfl (SF.s2 ha hb) ?_
 simp only[cP]
 refine Ka7 ?_;refine dI ?_;refine aB ?_;refine dI ?_;refine Kc0 ?_
 refine aZ (λ c10=>?_) (λ c10=>?_)
 ·refine cQ ?_
  refine aQ Tryz.results162 (λ w hw=>?_)
  exact⟨by rw[E5 (by omega)];rfl,hw.done⟩
 ·refine jM ?_;refine Gh ?_
  refine eY [4,5,11,12,13,14,15,16,17,18,19,20,21,22,23,24,25] (λ k=>[(5,.int .i64 ((k:Nat):Int))]) (λ k=>k<=xs.length/\xs.take k=ys.take k) (λ k=>xs.length-k) (0) (⟨Nat.zero_le _,by simp⟩) ?_ (λ k f hx=>?_)
  ·repeat (first|exact bB _|refine aY (by exact rfl) ?_)
  dsimp only[fY,List.map,List.cons_append,List.nil_append]
  refine Fz ?_;refine dI ?_;refine vV ?_
  refine aZ (λ c14=>?_) (λ c14=>?_)
  ·refine oE ?_;refine aR ?_;refine fK [0,1,2,3,4,5,6,7,8] ?_;refine gN ?_;refine Sr ?_;refine gN ?_;refine Sr ?_;refine Hp ?_;refine dW ?_
   refine aZ (λ c25=>?_) (λ c25=>?_)
   ·refine cQ ?_
    refine aQ Tryz.results162 (λ w hw=>?_)
    exact⟨by rw[Dk c25];rfl,hw.done⟩
   ·refine lM ?_;refine Ab ?_
    refine dO (k+1) ?_ ?_ ?_
    ·omega
    ·repeat' (first|exact bB _|refine aY ?_ ?_)
     exact rfl
    ·exact⟨by omega,uW hx.2 (by omega) (by omega) c25⟩
  ·refine bI rfl ?_;refine cQ ?_
   refine aQ Tryz.results162 (λ w hw=>?_)
   exact⟨by rw[A3 (k:=k) (by omega) (by omega) hx.2];rfl,hw.done⟩
theorem zp{xs ys:List Pr}{a b:Option Addr}{ca cb:Nat}{w:World}(ha:Cl w a (dF xs))(hb:Cl w b (dF ys))(hx:xs.length<4611686018427387904) :
  Calls Tryz.prog 163 #[.slice a xs.length ca,.slice b ys.length cb] w λ e w'=>e=.returned (.bool (decide (xs=ys)))/\St w [] [] w':=by
 refine enter Tryz.func163 Tryz.ntmps163 rfl rfl (SF.s2 ha hb) ?_
 simp only[cP]
 refine Ka7 ?_;refine dI ?_;refine aB ?_;refine dI ?_;refine Kc0 ?_
 refine aZ (λ c10=>?_) (λ c10=>?_)
 ·refine cQ ?_
  refine aQ Tryz.results163 (λ w hw=>?_)
  exact⟨by rw[D0 (by omega)];rfl,hw.done⟩
 ·refine jM ?_;refine Gh ?_
  refine eY [4,5,11,12,13,14,15,16,17,18,19,20,21,22,23,24,25] (λ k=>[(5,.int .i64 ((k:Nat):Int))]) (λ k=>k<=xs.length/\xs.take k=ys.take k) (λ k=>xs.length-k) (0) (⟨Nat.zero_le _,by simp⟩) ?_ (λ k f hx=>?_)
  ·repeat (first|exact bB _|refine aY (by exact rfl) ?_)
  dsimp only[fY,List.map,List.cons_append,List.nil_append]
  refine Fz ?_;refine dI ?_;refine vV ?_
  refine aZ (λ c14=>?_) (λ c14=>?_)
  ·refine oE ?_;refine aR ?_;refine fK [0,1,2,3,4,5,6,7,8] ?_;refine gN ?_;refine Sr ?_;refine gN ?_;refine Sr ?_;refine R3 ?_;refine dW ?_
   refine aZ (λ c25=>?_) (λ c25=>?_)
   ·refine cQ ?_
    refine aQ Tryz.results163 (λ w hw=>?_)
    exact⟨by rw[Dt λ h=>c25 ⟨congrArg Prod.fst h,congrArg Prod.snd h⟩];rfl,hw.done⟩
   ·refine lM ?_;refine Ab ?_
    refine dO (k+1) ?_ ?_ ?_
    ·omega
    ·repeat' (first|exact bB _|refine aY ?_ ?_)
     exact rfl
    ·exact⟨by omega,uW hx.2 (by omega) (by omega) (Prod.ext c25.1 c25.2)⟩
  ·refine bI rfl ?_;refine cQ ?_
   refine aQ Tryz.results163 (λ w hw=>?_)
   exact⟨by rw[A8 (k:=k) (by omega) (by omega) hx.2];rfl,hw.done⟩
theorem im{xs ys:List Int}{a b:Option Addr}{ca cb:Nat}{w:World}(ha:Cl w a (aG xs))(hb:Cl w b (aG ys))(hx:xs.length<4611686018427387904) :
  Calls Tryz.prog 169 #[.slice a xs.length ca,.slice b ys.length cb] w λ e w'=>e=.returned (.bool (xs==ys))/\St w [] [] w':=by
 refine enter Tryz.func169 Tryz.ntmps169 rfl rfl (SF.s2 ha hb) ?_
 simp only[cP]
 refine Ka7 ?_;refine dI ?_;refine aB ?_;refine dI ?_;refine Kc0 ?_
 refine aZ (λ c10=>?_) (λ c10=>?_)
 ·refine cQ ?_
  refine aQ Tryz.results169 (λ w hw=>?_)
  exact⟨by rw[E5 (by omega)];rfl,hw.done⟩
 ·refine jM ?_;refine J2 ?_;refine Kb8 ?_
  refine eY [4,5,13,14,15,16,17,18,19,20,21,22,23,24,25] (λ k=>[(13,.int .i64 ((k:Nat):Int))]) (λ k=>k<=xs.length/\xs.take k=ys.take k) (λ k=>xs.length-k) (0) (⟨Nat.zero_le _,by simp⟩) ?_ (λ k f hx=>?_)
  ·repeat (first|exact bB _|refine aY (by exact rfl) ?_)
  dsimp only[fY,List.map,List.cons_append,List.nil_append]
  refine Kb4 ?_
  refine aZ (λ c14=>?_) (λ c14=>?_)
  ·refine oE ?_;refine J2 ?_;refine gP ?_;refine fK [0,1,2,3,4,5,6,7,8] ?_;refine gN ?_;refine Sr ?_;refine gN ?_;refine Sr ?_;refine Hp ?_;refine dW ?_
   refine aZ (λ c24=>?_) (λ c24=>?_)
   ·refine cQ ?_
    refine aQ Tryz.results169 (λ w hw=>?_)
    exact⟨by rw[Dk c24];rfl,hw.done⟩
   ·refine Kc4 ?_
    refine dO (k+1) ?_ ?_ ?_
    ·omega
    ·repeat' (first|exact bB _|refine aY ?_ ?_)
     exact rfl
    ·exact⟨by omega,uW hx.2 (by omega) (by omega) c24⟩
  ·refine bI rfl ?_;refine cQ ?_
   refine aQ Tryz.results169 (λ w hw=>?_)
   exact⟨by rw[A3 (k:=k) (by omega) (by omega) hx.2];rfl,hw.done⟩
theorem v8{xs ys:List Pr}{a b:Option Addr}{ca cb:Nat}{w:World}(ha:Cl w a (dF xs))(hb:Cl w b (dF ys))(hx:xs.length<4611686018427387904) :
  Calls Tryz.prog 170 #[.slice a xs.length ca,.slice b ys.length cb] w λ e w'=>e=.returned (.bool (decide (xs=ys)))/\St w [] [] w':=by
 refine enter Tryz.func170 Tryz.ntmps170 rfl rfl (SF.s2 ha hb) ?_
 simp only[cP]
 refine Ka7 ?_;refine dI ?_;refine aB ?_;refine dI ?_;refine Kc0 ?_
 refine aZ (λ c10=>?_) (λ c10=>?_)
 ·refine cQ ?_
  refine aQ Tryz.results170 (λ w hw=>?_)
  exact⟨by rw[D0 (by omega)];rfl,hw.done⟩
 ·refine jM ?_;refine J2 ?_;refine Kb8 ?_
  refine eY [4,5,13,14,15,16,17,18,19,20,21,22,23,24,25] (λ k=>[(13,.int .i64 ((k:Nat):Int))]) (λ k=>k<=xs.length/\xs.take k=ys.take k) (λ k=>xs.length-k) (0) (⟨Nat.zero_le _,by simp⟩) ?_ (λ k f hx=>?_)
  ·repeat (first|exact bB _|refine aY (by exact rfl) ?_)
  dsimp only[fY,List.map,List.cons_append,List.nil_append]
  refine Kb4 ?_
  refine aZ (λ c14=>?_) (λ c14=>?_)
  ·refine oE ?_;refine J2 ?_;refine gP ?_;refine fK [0,1,2,3,4,5,6,7,8] ?_;refine gN ?_;refine Sr ?_;refine gN ?_;refine Sr ?_;refine R3 ?_;refine dW ?_
   refine aZ (λ c24=>?_) (λ c24=>?_)
   ·refine cQ ?_
    refine aQ Tryz.results170 (λ w hw=>?_)
    exact⟨by rw[Dt λ h=>c24 ⟨congrArg Prod.fst h,congrArg Prod.snd h⟩];rfl,hw.done⟩
   ·refine Kc4 ?_
    refine dO (k+1) ?_ ?_ ?_
    ·omega
    ·repeat' (first|exact bB _|refine aY ?_ ?_)
     exact rfl
    ·exact⟨by omega,uW hx.2 (by omega) (by omega) (Prod.ext c24.1 c24.2)⟩
  ·refine bI rfl ?_;refine cQ ?_
   refine aQ Tryz.results170 (λ w hw=>?_)
   exact⟨by rw[A8 (k:=k) (by omega) (by omega) hx.2];rfl,hw.done⟩
end

end Go.Proofs.YtadnboagdhcedaaGreatDoor
