/- Merged. -/
import Derived.Test.YtbajmaoegmbfgaaGreatAuto
import Derived.Test.YtbajmaoegmbfgaaGreatGLst3
set_option linter.unusedSimpArgs false
set_option linter.unusedVariables false
namespace Go.Ct
open Go Go.RowKit
section
section
variable{P:Program}{n:Nat}{Q:Exit->Act->World->Prop}{ks:List CK}{ops:Array Oper}{pl pl':qI}{LL:List Nat}{Dl Dp Dq:List Nat}{S:List (Nat×Value)}{G:World->Prop}{w0:World}{M:List Nat}{H:List (Nat×Obj)}{A F:Fr}{O:List Ow}
inductive LS(P:Program)(n:Nat)(Q:Exit->Act->World->Prop)(ks:List CK)(ops:Array Oper)(Dl Dp Dq:List Nat)(S:List (Nat×Value))(G:World->Prop):qI->List Nat->Prop where
 | nil:LS P n Q ks ops Dl Dp Dq S G .nil []
 | cons {i:Nat} {L:List Nat} {pl q:qI} {E:List Nat} (h:fU P n Q ks ops pl Dl Dp Dq S G i L) (r:LS P n Q ks ops Dl Dp Dq S G q E):LS P n Q ks ops Dl Dp Dq S G (.two i L pl 0 [] q) (i::E)
theorem LS.get{pl:qI}{E:List Nat}(h:LS P n Q ks ops Dl Dp Dq S G pl E):∀i∈E,fU P n Q ks ops .nil Dl Dp Dq S G i []:=by
 induction h with
 | nil=>exact λ _ h=>(List.not_mem_nil h).elim
 | cons h _ ih =>
  intro j hj
  rcases List.mem_cons.1 hj with rfl|hj
  ·exact h.sq
  ·exact ih j hj
theorem gR{E:List Nat}{q:qI}(hc:jC ops Dl Dp Dq E=true)(h:LS P n Q ks ops Dl Dp Dq S G q E):JR P n Q ks ops q Dl Dp Dq S G:=by
 simp only[jC,Bool.and_eq_true] at hc
 exact⟨mh (pl':=.nil) (LL:=[]) hc.1.1 hc.1.2 hc.2 h.get⟩
theorem gq{X:Type}(keys:List Nat)(K:X->List (Nat×Value))(GI:X->World->Prop){c:Code}(hn:(keys.all λ k=>Nat.blt k n)=true)(hKn:∀x,((K x).all λ p=>Nat.blt p.1 n)=true)
  (h1:JK P n Q (.code c::.inv (lD n keys K GI (λ _=>0) S 1)::ks) S G) (h2:∀x f,JK P n Q ks (K x++(hY keys f++S)) (GI x)):JK P n Q (.code c::ks) S G:=⟨λ hS w hw=>by
 have h:=h1.run hS w hw
 simp only[runK] at h ⊢
 intro b k cs
 obtain⟨e,a₁,w₁,hq,harr⟩:=h b k cs
 rw[P0] at hq
 refine⟨e,a₁,w₁,?_,harr⟩
 cases e with
 | normal =>
  obtain⟨x',S1,_,rfl,_,hk',hp',hg'⟩:=hq
  have:=(h2 x' (look S1)).run ((hS.hY hn).mI (hKn x')) w₁ hg'
  rw[<- Tt hp' hk'] at this
  exact this
 | exit id=>exact hq
 | goto l=>exact hq
 | ret=>exact hq
 | panic ch=>exact hq
 | outgrown=>exact hq⟩
theorem L9{Y:Type}(keys:List Nat)(K:Y->List (Nat×Value))(I:Y->Prop)(Hc:Y->List (Nat×Obj))(Fc:Y->Fr)(Oc:Y->List Ow){H1:Y->List (Nat×Obj)}{F1:Y->Fr}{O1:Y->List Ow}{c:Code}(hn:(keys.all λ k=>Nat.blt k n)=true)(hKn:∀x,((K x).all λ p=>Nat.blt p.1 n)=true)
  (hH1:∀x,Hc x++H=H1 x) (hF1:∀x,Fc x++F=F1 x) (hO1:∀x,Oc x++O=O1 x)
  (h1:JK P n Q (.code c::.inv (lD n keys K (λ x w=>I x/\SF w0 M (H1 x) A (F1 x) (O1 x) w) (λ _=>0) S 1)::ks) S (SF w0 M H A F O))
  (h2:∀x f,I x->JK P n Q ks (K x++(hY keys f++S)) (SF w0 M (H1 x) A (F1 x) (O1 x))):JK P n Q (.code c::ks) S (SF w0 M H A F O):=gq keys K _ hn hKn h1 λ x f=>S8 λ h=>h2 x f h
theorem eO{Y:Type}(keys:List Nat)(K:Y->List (Nat×Value))(I:Y->Prop)(H1:Y->List (Nat×Obj))(F1:Y->Fr)(O1:Y->List Ow){c:Code}(hn:(keys.all λ k=>Nat.blt k n)=true)(hKn:∀x,((K x).all λ p=>Nat.blt p.1 n)=true)
  (h1:JK P n Q (.code c::.inv (lD n keys K (λ x w=>I x/\SF w0 M (H1 x) A (F1 x) (O1 x) w) (λ _=>0) S 1)::ks) S (SF w0 M H A F O))
  (h2:∀x f,I x->JK P n Q ks (K x++(hY keys f++S)) (SF w0 M (H1 x) A (F1 x) (O1 x))):JK P n Q (.code c::ks) S (SF w0 M H A F O):=gq keys K _ hn hKn h1 λ x f=>S8 λ h=>h2 x f h
theorem Uv{H':List (Nat×Obj)}{O':List Ow}(hH:H'.Perm H)(hO:O'.Perm O):(Ks H' O').Perm (Ks H O):=(hH.map _).append (List.Perm.flatMap_right _ hO)
theorem St.perm{w w0:World}{H H':List (Nat×Obj)}(h:St w0 M H w)(hs:H'.Perm H):St w0 M H' w:=⟨h.os,h.tape,h.output,h.size,h.kM,λ p hp=>h.has p (hs.mem_iff.1 hp),λ p hp=>h.new p (hs.mem_iff.1 hp),(hs.map _).nodup_iff.2 h.nodup⟩
theorem SF.perm{w:World}{H':List (Nat×Obj)}{O':List Ow}(h:SF w0 M H A F O w)(hH:H'.Perm H)(hO:O'.Perm O):SF w0 M H' A F O' w:=by
 have hs:=Uv hH hO
 exact⟨h.st.perm hH,λ f hf=>⟨(h.bJ f hf).1,λ hc hm=>(h.bJ f hf).2 hc (hs.mem_iff.1 hm)⟩,λ f hf=>⟨(h.new f hf).1,λ hc=>⟨λ hm=>((h.new f hf).2 hc).1 (hs.mem_iff.1 hm),((h.new f hf).2 hc).2⟩⟩,λ o ho=>h.own o (hO.mem_iff.1 ho),hs.nodup_iff.2 h.dis⟩
end
end
end Go.Ct
namespace Go.Proofs.YtbajmaoegmbfgaaGreat
open Go.Proofs.Tryz (prog)
open Go Go.RowKit Go.Ct
section
variable{n:Nat}{Q:Exit->Act->World->Prop}{ks:List CK}{S:List (Nat×Value)}{ops:Array Oper}{l ol:List Oper}{pl:qI}{LL:List Nat}{Dl Dp Dq:List Nat}
variable{w0:World}{M:List Nat}{H:List (Nat×Obj)}{A F:Fr}{O:List Ow}{G:World->Prop}{i d:Nat}{v:Value}{op:Op}{ty:TypeId}{pos:String}{af:Array Edge}{gd:Option (Nat×Bool)}{X:Type}{V:X->Value}{G':X->World->Prop}{j g:Nat}{want t:Bool}
theorem lj(ho:eQ ol i ⟨some d,op,ty,pos,af,gd⟩:=by exact gL)(hw:Region.wanted ⟨some d,op,ty,pos,af,gd⟩ (bH ⟨ol⟩ S)=true:=by exact rfl)(hq:bF prog S G ⟨some d,op,ty,pos,af,gd⟩ X V G':=by first|exact Co vy|exact Bj Zm|exact o_build0V Nt rf)(hc:hU ⟨ol⟩ n Dl Dp Dq i (some d)=true:=by decide +kernel)(hL:((Ct.waiting ⟨ol⟩ Dq i).all λ j=>LL.elem j)=true:=by decide +kernel)(hfire:∀x,aJ prog ⟨ol⟩ ((d,V x)::S) (G' x) LL:=by exact nF)(h:∀x,JR prog n Q ks ⟨ol⟩ pl (i::Dl) Dp Dq ((d,V x)::S) (G' x)):fU prog n Q ks ⟨ol⟩ pl Dl Dp Dq S G i LL:=kS ho hw hq hc hL hfire h
theorem m6(ho:eQ ol i ⟨some d,op,ty,pos,af,gd⟩:=by exact gL)(hw:Region.wanted ⟨some d,op,ty,pos,af,gd⟩ (bH ⟨ol⟩ S)=true:=by exact rfl)(hq:bF prog S G ⟨some d,op,ty,pos,af,gd⟩ X V G':=by exact F9)(hc:hU ⟨ol⟩ n Dl Dp Dq i (some d)=true:=by decide +kernel)(hL:((Ct.waiting ⟨ol⟩ Dq i).all λ j=>LL.elem j)=true:=by decide +kernel)(hfire:∀x,aJ prog ⟨ol⟩ ((d,V x)::S) (G' x) LL:=by exact nF)(h:∀x,JR prog n Q ks ⟨ol⟩ pl (i::Dl) Dp Dq ((d,V x)::S) (G' x)):fU prog n Q ks ⟨ol⟩ pl Dl Dp Dq S G i LL:=kS ho hw hq hc hL hfire h
theorem mE(ho:eQ ol i ⟨some d,op,ty,pos,af,gd⟩:=by exact gL)(hw:Region.wanted ⟨some d,op,ty,pos,af,gd⟩ (bH ⟨ol⟩ S)=true:=by exact rfl)(hq:bF prog S G ⟨some d,op,ty,pos,af,gd⟩ X V G':=by exact tK)(hc:hU ⟨ol⟩ n Dl Dp Dq i (some d)=true:=by decide +kernel)(hL:((Ct.waiting ⟨ol⟩ Dq i).all λ j=>LL.elem j)=true:=by decide +kernel)(hfire:∀x,aJ prog ⟨ol⟩ ((d,V x)::S) (G' x) LL:=by exact nF)(h:∀x,JR prog n Q ks ⟨ol⟩ pl (i::Dl) Dp Dq ((d,V x)::S) (G' x)):fU prog n Q ks ⟨ol⟩ pl Dl Dp Dq S G i LL:=kS ho hw hq hc hL hfire h
theorem gW(ho:eQ ol i ⟨some d,op,ty,pos,af,gd⟩:=by exact gL)(hw:Region.wanted ⟨some d,op,ty,pos,af,gd⟩ (bH ⟨ol⟩ S)=true:=by exact rfl)(hq:bF prog S G ⟨some d,op,ty,pos,af,gd⟩ X V G':=by exact Eu)(hc:hU ⟨ol⟩ n Dl Dp Dq i (some d)=true:=by decide +kernel)(hL:((Ct.waiting ⟨ol⟩ Dq i).all λ j=>LL.elem j)=true:=by decide +kernel)(hfire:∀x,aJ prog ⟨ol⟩ ((d,V x)::S) (G' x) LL:=by exact nF)(h:∀x,JR prog n Q ks ⟨ol⟩ pl (i::Dl) Dp Dq ((d,V x)::S) (G' x)):fU prog n Q ks ⟨ol⟩ pl Dl Dp Dq S G i LL:=kS ho hw hq hc hL hfire h
theorem X1(ho:eQ ol i ⟨some d,op,ty,pos,af,gd⟩:=by exact gL)(hw:Region.wanted ⟨some d,op,ty,pos,af,gd⟩ (bH ⟨ol⟩ S)=true:=by exact rfl)(hq:bF prog S G ⟨some d,op,ty,pos,af,gd⟩ X V G':=by exact gJ (Bc wn))(hc:hU ⟨ol⟩ n Dl Dp Dq i (some d)=true:=by decide +kernel)(hL:((Ct.waiting ⟨ol⟩ Dq i).all λ j=>LL.elem j)=true:=by decide +kernel)(hfire:∀x,aJ prog ⟨ol⟩ ((d,V x)::S) (G' x) LL:=by exact nF)(h:∀x,JR prog n Q ks ⟨ol⟩ pl (i::Dl) Dp Dq ((d,V x)::S) (G' x)):fU prog n Q ks ⟨ol⟩ pl Dl Dp Dq S G i LL:=kS ho hw hq hc hL hfire h
theorem Ki(ho:eQ ol i ⟨some d,op,ty,pos,af,gd⟩:=by exact gL)(hw:Region.wanted ⟨some d,op,ty,pos,af,gd⟩ (bH ⟨ol⟩ S)=true:=by exact rfl)(hq:bF prog S G ⟨some d,op,ty,pos,af,gd⟩ X V G')(hc:hU ⟨ol⟩ n Dl Dp Dq i (some d)=true:=by decide +kernel)(hL:((Ct.waiting ⟨ol⟩ Dq i).all λ j=>LL.elem j)=true:=by decide +kernel)(hfire:∀x,aJ prog ⟨ol⟩ ((d,V x)::S) (G' x) LL:=by exact nF)(h:∀x,JR prog n Q ks ⟨ol⟩ pl (i::Dl) Dp Dq ((d,V x)::S) (G' x)):fU prog n Q ks ⟨ol⟩ pl Dl Dp Dq S G i LL:=kS ho hw hq hc hL hfire h
theorem mN{φ:X->Prop}(ho:eQ ol i ⟨some d,op,ty,pos,af,gd⟩:=by exact gL)(hw:Region.wanted ⟨some d,op,ty,pos,af,gd⟩ (bH ⟨ol⟩ S)=true:=by exact rfl)(hq:bF prog S G ⟨some d,op,ty,pos,af,gd⟩ X V (λ x w=>φ x/\G' x w))(hc:hU ⟨ol⟩ n Dl Dp Dq i (some d)=true:=by decide +kernel)(hL:((Ct.waiting ⟨ol⟩ Dq i).all λ j=>LL.elem j)=true:=by decide +kernel)(hfire:∀x,aJ prog ⟨ol⟩ ((d,V x)::S) (λ w=>φ x/\G' x w) LL:=by exact nF)(h:∀x,φ x->JR prog n Q ks ⟨ol⟩ pl (i::Dl) Dp Dq ((d,V x)::S) (G' x)):fU prog n Q ks ⟨ol⟩ pl Dl Dp Dq S G i LL:=kS ho hw hq hc hL hfire λ x=>eH (h x)
end
end Go.Proofs.YtbajmaoegmbfgaaGreat
namespace Go.Ct
open Go Go.RowKit
section
section
variable{α:Type}
inductive yV:List α->Nat->α->Prop where
 | head {a:α} {l:List α}:yV (a::l) 0 a
 | tail {a b:α} {l:List α} {i:Nat}:yV l i b->yV (a::l) (i+1) b
def qU:List α->Nat->List α
 | [],_=>[]
 | _::r,0=>r
 | p::r,i+1=>p::qU r i
def rS:List α->Nat->α->List α
 | l,0,a=>a::l
 | p::r,i+1,a=>p::rS r i a
 | [],_+1,a=>[a]
inductive lY:List α->List Nat->List α->List α->Prop where
 | nil {l:List α}:lY l [] [] l
 | cons {l es r:List α} {i:Nat} {a:α} {js:List Nat}:yV l i a->lY (qU l i) js es r->lY l (i::js) (a::es) r
def iT:List Nat->List α->List α->List α
 | i::js,a::es,r=>rS (iT js es r) i a
 | _,_,r=>r
theorem yV.perm{l:List α}{i:Nat}{a:α}(h:yV l i a):l.Perm (a::qU l i):=by
 induction h with
 | head=>exact List.Perm.refl _
 | tail _ ih=>exact(ih.cons _).trans (List.Perm.swap _ _ _)
theorem Jz(a:α):∀(l:List α) (i:Nat),(rS l i a).Perm (a::l)
 | l,0=>by cases l<;>exact List.Perm.refl _
 | [],_+1=>List.Perm.refl _
 | p::r,i+1=>((Jz a r i).cons p).trans (List.Perm.swap _ _ _)
theorem lY.perm{l es r:List α}{js:List Nat}(h:lY l js es r):l.Perm (es++r):=by
 induction h with
 | nil=>exact List.Perm.refl _
 | cons h _ ih=>exact h.perm.trans (ih.cons _)
theorem B4:∀(js:List Nat) (es r:List α),js.length=es.length->(iT js es r).Perm (es++r)
 | [],[],_,_=>List.Perm.refl _
 | i::js,a::es,r,h=>(Jz a _ i).trans ((B4 js es r (by simpa using h)).cons a)
 | [],_::_,_,h=>by simp at h
 | _::_,[],_,h=>by simp at h
end
section
variable{P:Program}{S:List (Nat×Value)}{w0 w w':World}{M:List Nat}{H H' hs:List (Nat×Obj)}{A F:Fr}{O O' os:List Ow}{is js:List Nat}
def Has(A F:Fr)(O:List Ow)(f:Option Addr×List Value):Prop:=f.2=[]∨f∈A∨f∈F∨∃o∈O,o.p=f.1/\o.cs=f.2
inductive bG(A F:Fr)(O:List Ow):Fr->Prop where
 | nil:bG A F O []
 | cons {f:Option Addr×List Value} {r:Fr} (h:Has A F O f) (hr:bG A F O r):bG A F O (f::r)
 | of {A0:Fr} (h:∀f∈A0,Has A F O f):bG A F O A0
theorem bG.get{A0:Fr}(h:bG A F O A0):∀f∈A0,Has A F O f:=by
 induction h with
 | nil=>intro f hf;exact(List.not_mem_nil hf).elim
 | cons h _ ih =>
  intro f hf
  rcases List.mem_cons.1 hf with rfl|hf
  ·exact h
  ·exact ih f hf
 | of h=>exact h
theorem Ad.rM{a:Option Addr}{cs:List Value}:∀{F:Fr},(a,cs)∈F->Ad F a cs
 | [],h=>(List.not_mem_nil h).elim
 | (b,d)::F,h=>by
  rcases List.mem_cons.1 h with h|h
  ·cases h;exact .head
  ·exact .tail (Ad.rM h)
theorem aY.jH{F:Fr}:∀{F':Fr},(∀f∈F',f∈F)->aY F F'
 | [],_=>.nil
 | (a,cs)::F',h=>.cons (Ad.rM (h _ (List.mem_cons_self ..))) (aY.jH λ f hf=>h f (List.mem_cons_of_mem _ hf))
theorem SF.clH(h:SF w0 M H A F O w){f:Option Addr×List Value}(hf:Has A F O f):Cl w f.1 f.2:=by
 rcases hf with h0|h1|h1|⟨o,ho,h1,h2⟩
 ·rw[h0];exact Cl.nil _ _
 ·exact(h.bJ f h1).1
 ·exact(h.new f h1).1
 ·rw[<- h1,<- h2];exact(h.own o ho).1.cl
theorem SF.Gm{w0 w:World}{M:List Nat}{H:List (Nat×Obj)}{A F:Fr}{O:List Ow}(h:SF w0 M H A F O w){L:List aP}{cs:List Int}{pn pc:Option Addr}(h1:Has A F O (pn,iJ L))(h2:Has A F O (pc,aG cs))(h3:∀f∈aM L,Has A F O f)(hf:Fits L):qV w L cs pn pc :=
 ⟨h.clH h1,h.clH h2,λ f hm=>h.clH (h3 f hm),hf⟩
theorem SF.qE(h:SF w0 M H A F O w)(hH:lY H is hs H')(hO:lY O js os O'){A0:Fr}(hA:bG A F O' A0):SF w (Ks hs os) hs A0 [] os w:=by
 have pH:=hH.perm
 have pO:=hO.perm
 have h1:=h.perm pH.symm pO.symm
 have hnd:=(Uv pH.symm pO.symm).nodup_iff.2 h.dis
 have sub:(Ks hs os).Sublist (Ks (hs++H') (os++O')):=by
  unfold Ks
  rw[List.map_append,List.flatMap_append]
  exact(List.sublist_append_left _ _).append (List.sublist_append_left _ _)
 have nd1:(Ks hs os).Nodup:=hnd.sublist sub
 have kperm:(Ks (hs++H') (os++O')).Perm (Ks hs os++Ks H' O'):=by
  unfold Ks
  rw[List.map_append,List.flatMap_append]
  simp only[List.append_assoc]
  refine List.Perm.append_left _ ?_
  rw[<- List.append_assoc,<- List.append_assoc]
  exact List.Perm.append_right _ List.perm_append_comm
 have disj:∀b∈Ks hs os,b∉Ks H' O':=λ b hb hm=>(List.nodup_append.1 (kperm.nodup_iff.1 hnd)).2.2 b hb b hm rfl
 refine⟨⟨rfl,rfl,rfl,Nat.le_refl _,λ _ _ _=>rfl,λ p hp=>h1.st.has p (List.mem_append_left _ hp),λ p hp=>.inl (eI.2 (.inl ⟨p,hp,rfl⟩)),(List.nodup_append.1 nd1).1⟩,λ f hf=>?_,λ _ h=>(List.not_mem_nil h).elim,λ o ho=>⟨(h1.own o (List.mem_append_left _ ho)).1,λ b hb=>.inr (eI.2 (.inr ⟨o,ho,hb⟩))⟩,nd1⟩
 have hg:=hA.get f hf
 refine⟨?_,λ hc hm=>?_⟩
 ·rcases hg with h0|h2|h2|⟨o,ho,h2,h3⟩
  ·rw[h0];exact Cl.nil _ _
  ·exact(h.bJ f h2).1
  ·exact(h.new f h2).1
  ·rw[<- h2,<- h3];exact(h1.own o (List.mem_append_right _ ho)).1.cl
 ·rcases hg with h0|h2|h2|⟨o,ho,h2,h3⟩
  ·exact hc h0
  ·exact(h1.bJ f h2).2 hc (sub.subset hm)
  ·exact((h1.new f h2).2 hc).1 (sub.subset hm)
  ·have hok:=(h1.own o (List.mem_append_right _ ho)).1
   have hb:=hok.Rv (by rw[h3];exact hc)
   exact disj _ hm (eI.2 (.inr ⟨o,ho,by rw[hb,h2];exact List.mem_singleton.2 rfl⟩))
theorem SF.xZ(h:SF w0 M H A F O w)(hH:lY H is hs H')(hO:lY O js os O'){hs' Hc:List (Nat×Obj)}{os' Oc:List Ow}{Fc:Fr}
  (hc:SF w (Ks hs os) (hs'++Hc) [] Fc (os'++Oc) w') (h1:is.length=hs'.length) (h2:js.length=os'.length) :
  SF w0 M (Hc++iT is hs' H') A (Fc++F) (Oc++iT js os' O') w':=by
 have pH:=hH.perm
 have pO:=hO.perm
 have hp:=h.perm pH.symm pO.symm
 have qH:=B4 is hs' H' h1
 have qO:=B4 js os' O' h2
 have kperm:∀(a c:List (Nat×Obj)) (b d:List Ow),(Ks (a++c) (b++d)).Perm (Ks a b++Ks c d):=λ a c b d=>by
  unfold Ks
  rw[List.map_append,List.flatMap_append]
  simp only[List.append_assoc]
  refine List.Perm.append_left _ ?_
  rw[<- List.append_assoc,<- List.append_assoc]
  exact List.Perm.append_right _ List.perm_append_comm
 have nd0:=(kperm hs H' os O').nodup_iff.1 hp.dis
 have disj:∀b∈Ks hs os,b∉Ks H' O':=λ b hb hm=>(List.nodup_append.1 nd0).2.2 b hb b hm rfl
 have sub:∀b∈Ks hs' os',b∈Ks (hs'++Hc) (os'++Oc):=λ b hb=>(kperm hs' Hc os' Oc).mem_iff.2 (List.mem_append_left _ hb)
 have nd1:(Ks (hs'++H') (os'++O')).Nodup:=by
  rw[(kperm hs' H' os' O').nodup_iff]
  refine List.nodup_append.2 ⟨(List.nodup_append.1 ((kperm hs' Hc os' Oc).nodup_iff.1 hc.dis)).1,(List.nodup_append.1 nd0).2.1,λ a ha b hb e=>?_⟩
  subst e
  rcases hc.Ur a (sub a ha) with h3|h3
  ·have:=hp.lt a ((kperm hs H' os O').mem_iff.2 (List.mem_append_right _ hb))
   omega
  ·exact disj a h3 hb
 have r:=hp.aw (D:=Ks hs os) (Hm:=hs') (Hc:=Hc) (H1:=hs'++H') (Fc:=Fc) (Om:=os') (Oc:=Oc) (O1:=os'++O') hc (λ b hb=>(kperm hs H' os O').mem_iff.2 (List.mem_append_left _ hb))
  (λ p hpm=>by
   rcases List.mem_append.1 hpm with h3|h3
   ·exact .inl h3
   ·exact .inr ⟨List.mem_append_right _ h3,λ hm=>disj _ hm (eI.2 (.inl ⟨p,h3,rfl⟩))⟩)
  (λ o ho=>by
   rcases List.mem_append.1 ho with h3|h3
   ·exact .inl h3
   ·exact .inr ⟨List.mem_append_right _ h3,λ b hb hm=>disj _ hm (eI.2 (.inr ⟨o,h3,hb⟩))⟩)
  nd1
 exact r.perm (List.Perm.append_left _ qH) (List.Perm.append_left _ qO)
theorem SF.eW(h:SF w0 M H A F O w){F':Fr}(hF:∀f∈F',f.2=[]∨f∈F):SF w0 M H A F' O w:=⟨h.st,h.bJ,λ f hf=>by
 rcases hF f hf with h0|h1
 ·exact⟨by rw[h0];exact Cl.nil _ _,λ hc=>absurd h0 hc⟩
 ·exact h.new f h1,h.own,h.dis⟩
theorem SF.b9{o1 o2:Ow}(h:SF w0 M H A F (o1::o2::O) w):SF w0 M H A F (o2::o1::O) w:=h.perm (List.Perm.refl _) (List.Perm.swap _ _ _)
theorem SF.aAx(h:SF w0 M H A F O w)(T1:TypeId)(s1:Nat)(T2:TypeId)(s2:Nat):SF w0 M H A F (O++[⟨none,[],0,T1,s1⟩,⟨none,[],0,T2,s2⟩]) w:=((h.jX T2 s2).jX T1 s1).perm (List.Perm.refl _) List.perm_append_comm
theorem SF.toEnd{o1 o2:Ow}(h:SF w0 M H A F (o1::o2::O) w):SF w0 M H A F (O++[o1,o2]) w:=h.perm (List.Perm.refl _) List.perm_append_comm
theorem SF.v7{L:List aP}{v:aP}{F':Fr}(h:SF w0 M H A F O w)(h1:(v.nd.brA,aG v.xs)∈F)(h2:(v.nd.prA,cY v.ys)∈F)(h3:∀f∈aM L,f∈F):SF w0 M H A (aM (L++[v])) O w:=h.eW λ f hf=>by
 rw[dD] at hf
 rcases List.mem_append.1 hf with hf|hf
 ·exact .inr (h3 f hf)
 ·simp only[aM,List.flatMap_cons,List.flatMap_nil,List.append_nil,aP.fr,List.mem_cons,List.not_mem_nil,or_false] at hf
  rcases hf with rfl|rfl
  ·exact .inr h1
  ·exact .inr h2
theorem aY.all{F:Fr}:aY F F:=aY.jH λ _ h=>h
theorem SF.v4{w:World}{H':List (Nat×Obj)}{O':List Ow}(h:SF w0 M H A F O w)(hH:H'.Sublist H:=by repeat (first|exact List.nil_sublist _|apply List.Sublist.cons_cons|apply List.Sublist.cons))(hO:O'.Sublist O:=by repeat (first|exact List.nil_sublist _|apply List.Sublist.cons_cons|apply List.Sublist.cons)):SF w0 M H' [] F O' w:=h.aX hH aY.all hO
theorem SF.v6{w:World}{H':List (Nat×Obj)}{O':List Ow}(h:SF w0 M H A F O w)(hH:H'.Sublist H:=by repeat (first|exact List.Sublist.refl _|exact List.nil_sublist _|apply List.Sublist.cons))(hO:O'.Sublist O:=by repeat (first|exact List.Sublist.refl _|exact List.nil_sublist _|apply List.Sublist.cons)):SF w0 M H' A F O' w:=h.back hH aY.all hO
end
end
end Go.Ct
namespace Go.Proofs.YtbajmaoegmbfgaaGreat
open Go.Proofs.Tryz (prog)
section
open Go Go.RowKit Go.Ct
abbrev mO(L:List aP)(cs:List Int)(gen acc:Int)(pn:Option Addr)(cn:Nat)(pc:Option Addr)(cc:Nat):Obj:=.cells ⟨[.slice pn L.length cn,.slice pc cs.length cc,.int .i64 gen,.int .i64 acc]⟩ 54 (0,0)
abbrev aO(L:List aP)(cs:List Int)(gen acc:Int)(pn:Option Addr)(cn:Nat)(pc:Option Addr)(cc:Nat):Obj:=.cells ⟨[.slice pn L.length cn,.slice pc cs.length cc,.int .i64 gen,.int .i64 acc]⟩ 139 (0,0)
abbrev mW(L:List aP)(cs:List Int)(pn:Option Addr)(cn:Nat)(pc:Option Addr)(cc:Nat):List Ow:=[⟨pn,iJ L,cn,47,14⟩,⟨pc,aG cs,cc,37,1⟩]
theorem yX{w0 w:World}{D:List Nat}{b:Nat}{L:List aP}{cs:List Int}{gen acc:Int}{pn pc:Option Addr}{cn cc:Nat}{A F:Fr}(h:SF w0 D [(b,mO L cs gen acc pn cn pc cc)] A F (mW L cs pn cn pc cc) w) :
  SF w0 D [(b,.cells ⟨[.slice pn L.length cn,.slice pc cs.length cc,.int .i64 gen,.int .i64 acc]⟩ 54 (0,0))] A F [⟨pn,iJ L,cn,47,14⟩,⟨pc,aG cs,cc,37,1⟩] w:=h
theorem yL{w0 w:World}{D:List Nat}{b:Nat}{L:List aP}{cs:List Int}{gen acc:Int}{pn pc:Option Addr}{cn cc:Nat}{A F:Fr}(h:SF w0 D [(b,aO L cs gen acc pn cn pc cc)] A F (mW L cs pn cn pc cc) w) :
  SF w0 D [(b,.cells ⟨[.slice pn L.length cn,.slice pc cs.length cc,.int .i64 gen,.int .i64 acc]⟩ 139 (0,0))] A F [⟨pn,iJ L,cn,47,14⟩,⟨pc,aG cs,cc,37,1⟩] w:=h
variable{S:List (Nat×Value)}{w0 w:World}{M:List Nat}{H:List (Nat×Obj)}{A F:Fr}{O:List Ow}{ty:TypeId}{pos:String}{af:Array Edge}{gd:Option (Nat×Bool)}{X:Type}{V:X->Value}
theorem cM{φ:X->Prop}{hs H':List (Nat×Obj)}{os O':List Ow}{hs' H1:X->List (Nat×Obj)}{os' O1:X->List Ow}{Fc F1:X->Fr}{A0:Fr}{is js:List Nat}{f:FuncId}{xs:List Operand}{at_:Array TypeId}{vs:List Value}{dst:Option Nat}
  (ha:qX S xs=vs:=by(repeat (first|exact dI _|(apply cL;focus ((conv=>{lhs;whnf});try exact rfl))));first|done|fail) (hp:plain prog f=true:=by kernel_rfl)
  (hc:∀w,SF w (Ks hs os) hs A0 [] os w->Calls prog f ⟨vs⟩ w λ e w'=>∃x,e=.returned (V x)/\φ x/\SF w (Ks hs os) (hs' x) [] (Fc x) (os' x) w')
  (hH:lY H is hs H':=by(repeat (first|exact lY.nil|(apply lY.cons;(focus ((repeat (first|exact yV.head|apply yV.tail));done));simp only[qU])));first|done|fail)
  (hO:lY O js os O':=by(repeat (first|exact lY.nil|(apply lY.cons;(focus ((repeat (first|exact yV.head|apply yV.tail));done));simp only[qU])));first|done|fail)
  (hA:bG A F O' A0:=by(repeat (first|exact bG.of (λ _ h=>Or.inr (Or.inl h))|exact bG.nil|(refine bG.cons (by first|exact Or.inl rfl|exact Or.inr (Or.inr (Or.inl (by simp)))|exact Or.inr (Or.inl (by simp))|exact Or.inr (Or.inr (Or.inr (by simp)))) ?_)));first|done|fail)
  (hl1:∀x,is.length=(hs' x).length:=by intro x;exact rfl) (hl2:∀x,js.length=(os' x).length:=by intro x;exact rfl)
  (hH1:∀x,iT is (hs' x) H'=H1 x:=by intro x;first|(simp only[iT,rS];exact rfl)|exact rfl) (hF1:∀x,Fc x++F=F1 x:=by intro x;first|(simp only[List.nil_append,List.cons_append];exact rfl)|exact rfl) (hO1:∀x,iT js (os' x) O'=O1 x:=by intro x;simp only[iT,rS,mW];exact rfl) :
  bF prog S (SF w0 M H A F O) ⟨dst,.call {callee:=.value (.func f),args:=⟨xs⟩,argTypes:=at_},ty,pos,af,gd⟩ X V (λ x w=>φ x/\SF w0 M (H1 x) A (F1 x) (O1 x) w) :=
 iA (mS hp ha) λ w hw=>(hc w (hw.qE hH hO hA)).mono λ _ _ ⟨x,he,hx,hs⟩=>⟨x,he,hx,by
  have:=hw.xZ (hs':=hs' x) (Hc:=[]) (os':=os' x) (Oc:=[]) hH hO (by simpa using hs) (hl1 x) (hl2 x)
  rw[<- hH1 x,<- hF1 x,<- hO1 x]
  simpa using this⟩
theorem cMO{φ:X->Prop}{hs H':List (Nat×Obj)}{os O':List Ow}{hs' H1:X->List (Nat×Obj)}{os' Oc O1:X->List Ow}{Fc F1:X->Fr}{A0:Fr}{is js:List Nat}{f:FuncId}{xs:List Operand}{at_:Array TypeId}{vs:List Value}{dst:Option Nat}
  (ha:qX S xs=vs:=by(repeat (first|exact dI _|(apply cL;focus ((conv=>{lhs;whnf});try exact rfl))));first|done|fail) (hp:plain prog f=true:=by kernel_rfl)
  (hc:∀w,SF w (Ks hs os) hs A0 [] os w->Calls prog f ⟨vs⟩ w λ e w'=>∃x,e=.returned (V x)/\φ x/\SF w (Ks hs os) (hs' x) [] (Fc x) (os' x++Oc x) w')
  (hH:lY H is hs H':=by(repeat (first|exact lY.nil|(apply lY.cons;(focus ((repeat (first|exact yV.head|apply yV.tail));done));simp only[qU])));first|done|fail)
  (hO:lY O js os O':=by(repeat (first|exact lY.nil|(apply lY.cons;(focus ((repeat (first|exact yV.head|apply yV.tail));done));simp only[qU])));first|done|fail)
  (hA:bG A F O' A0:=by(repeat (first|exact bG.of (λ _ h=>Or.inr (Or.inl h))|exact bG.nil|(refine bG.cons (by first|exact Or.inl rfl|exact Or.inr (Or.inr (Or.inl (by simp)))|exact Or.inr (Or.inl (by simp))|exact Or.inr (Or.inr (Or.inr (by simp)))) ?_)));first|done|fail)
  (hl1:∀x,is.length=(hs' x).length:=by intro x;exact rfl) (hl2:∀x,js.length=(os' x).length:=by intro x;exact rfl)
  (hH1:∀x,iT is (hs' x) H'=H1 x:=by intro x;first|(simp only[iT,rS];exact rfl)|exact rfl) (hF1:∀x,Fc x++F=F1 x:=by intro x;first|(simp only[List.nil_append,List.cons_append];exact rfl)|exact rfl) (hO1:∀x,Oc x++iT js (os' x) O'=O1 x:=by intro x;simp only[iT,rS,mW,List.nil_append,List.cons_append];exact rfl) :
  bF prog S (SF w0 M H A F O) ⟨dst,.call {callee:=.value (.func f),args:=⟨xs⟩,argTypes:=at_},ty,pos,af,gd⟩ X V (λ x w=>φ x/\SF w0 M (H1 x) A (F1 x) (O1 x) w) :=
 iA (mS hp ha) λ w hw=>(hc w (hw.qE hH hO hA)).mono λ _ _ ⟨x,he,hx,hs⟩=>⟨x,he,hx,by
  have:=hw.xZ (hs':=hs' x) (Hc:=[]) (os':=os' x) (Oc:=Oc x) hH hO (by simpa using hs) (hl1 x) (hl2 x)
  rw[<- hH1 x,<- hF1 x,<- hO1 x]
  simpa using this⟩
end
section
open Go.RowKit Go.Ct
variable{w:World}{D:List Nat}{b:Nat}{L:List aP}{cs:List Int}{gen acc:Int}{pn pc:Option Addr}{cn cc:Nat}{A:Fr}
theorem lI(v:Int)(hs:SF w D [(b,mO L cs gen acc pn cn pc cc)] A [] (mW L cs pn cn pc cc) w)(hl:cs.length<=274877906944) :
  Calls prog 114 #[.pointer (some ⟨b,0,none⟩),.int .i64 v] w λ e w'=>∃q:Option Addr×Nat,e=.returned (.int .i64 ((cs.length+1:Nat):Int))/\True /\
   SF w D [(b,mO L (cs++[v]) gen acc pn cn q.1 q.2)] [] [] (mW L (cs++[v]) pn cn q.1 q.2) w':=by
 refine enter Tryz.func114 Tryz.ntmps114 rfl rfl (yX hs) ?_
 simp only[cC]
 refine cX ?_;refine jG ?_;refine Nu ?_;refine J3 ?_;refine aA ?_;refine eZ (λ x12=>?_);(refine fG (λ x13=>?_);try (refine fD (λ h13=>?_)));refine Nu ?_;refine uM ?_;refine I1 ?_;refine Rr ?_;refine J1 ?_
 refine aR Tryz.results114 (λ w hw=>?_)
 exact⟨x13,rfl,trivial,by simpa[mO,mW] using hw.aX (F':=[])⟩
theorem zP(v:Int)(hs:SF w D [(b,aO L cs gen acc pn cn pc cc)] A [] (mW L cs pn cn pc cc) w)(hl:cs.length<=274877906944) :
  Calls prog 79 #[.pointer (some ⟨b,0,none⟩),.int .i64 v] w λ e w'=>∃q:Option Addr×Nat,e=.returned (.int .i64 ((cs.length+1:Nat):Int))/\True /\
   SF w D [(b,aO L (cs++[v]) gen acc pn cn q.1 q.2)] [] [] (mW L (cs++[v]) pn cn q.1 q.2) w':=by
 refine enter Tryz.func79 Tryz.ntmps79 rfl rfl (yL hs) ?_
 simp only[cC]
 refine cX ?_;refine jG ?_;refine dF ?_;refine J3 ?_;refine aA ?_;refine eZ (λ x11=>?_);(refine fG (λ x12=>?_);try (refine fD (λ h12=>?_)));refine Nz ?_;refine mD ?_;refine dR ?_;refine J1 ?_
 refine aR Tryz.results79 (λ w hw=>?_)
 exact⟨x12,rfl,trivial,by simpa[aO,mW] using hw.aX (F':=[])⟩
end
end Go.Proofs.YtbajmaoegmbfgaaGreat
