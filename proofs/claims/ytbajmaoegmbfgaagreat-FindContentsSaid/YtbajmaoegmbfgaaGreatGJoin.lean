/- Merged. -/
import Derived.Test.YtbajmaoegmbfgaaGreatAuto
import Derived.Test.YtbajmaoegmbfgaaGreatGLst3
import Derived.Test.YtbajmaoegmbfgaaGreatGFun
set_option linter.unusedSimpArgs false
set_option linter.unusedVariables false
namespace Go.Ct
open Go Go.RowKit
section
section
variable{P:Program}{n:Nat}{Q:Exit->Act->World->Prop}{ks:List CK}{ops:Array Oper}{pl pl':rA}{LL:List Nat}{Dl Dp Dq:List Nat}{S:List (Nat×Value)}{G:World->Prop}{w0:World}{M:List Nat}{H:List (Nat×Obj)}{A F:Fr}{O:List Ow}
inductive LS(P:Program)(n:Nat)(Q:Exit->Act->World->Prop)(ks:List CK)(ops:Array Oper)(Dl Dp Dq:List Nat)(S:List (Nat×Value))(G:World->Prop):rA->List Nat->Prop where
 | nil:LS P n Q ks ops Dl Dp Dq S G .nil []
 | cons {i:Nat} {L:List Nat} {pl q:rA} {E:List Nat} (h:fP P n Q ks ops pl Dl Dp Dq S G i L) (r:LS P n Q ks ops Dl Dp Dq S G q E):LS P n Q ks ops Dl Dp Dq S G (.two i L pl 0 [] q) (i::E)
variable{E:List Nat}{c:Code}{Y:Type}{H':List (Nat×Obj)}{O':List Ow}{w:World}
theorem LS.get{pl:rA}(h:LS P n Q ks ops Dl Dp Dq S G pl E):∀i∈E,fP P n Q ks ops .nil Dl Dp Dq S G i []:=by
 induction h with
 | nil=>exact λ _ h=>(List.not_mem_nil h).elim
 | cons h _ ih=>
  intro j hj;rcases List.mem_cons.1 hj with rfl|hj;·exact h.tw
  ·exact ih j hj
theorem gL{q:rA}(hc:jO ops Dl Dp Dq E=true)(h:LS P n Q ks ops Dl Dp Dq S G q E):JR P n Q ks ops q Dl Dp Dq S G:=by simp only[jO,Bool.and_eq_true] at hc;exact⟨ot (pl':=.nil) (LL:=[]) hc.1.1 hc.1.2 hc.2 h.get⟩
theorem jj{X:Type}(keys:List Nat)(K:X->List (Nat×Value))(GI:X->World->Prop)(hn:(keys.all λ k=>Nat.blt k n)=true)(hKn:∀x,((K x).all λ p=>Nat.blt p.1 n)=true)(h1:JK P n Q (.code c::.inv (lT n keys K GI (λ _=>0) S 1)::ks) S G)(h2:∀x f,JK P n Q ks (K x++(gY keys f++S)) (GI x)):JK P n Q (.code c::ks) S G:=⟨λ hS w hw=>by
 have h:=h1.run hS w hw;simp only[runK] at h ⊢;intro b k cs;obtain⟨e,a₁,w₁,hq,harr⟩:=h b k cs;rw[S2] at hq;refine⟨e,a₁,w₁,?_,harr⟩;cases e with
 | normal=>obtain⟨x',S1,_,rfl,_,hk',hp',hg'⟩:=hq;have:=(h2 x' (look S1)).run ((hS.gY hn).nE (hKn x')) w₁ hg';rw[<- Vo hp' hk'] at this;exact this
 | exit id=>exact hq
 | goto l=>exact hq
 | ret=>exact hq
 | panic ch=>exact hq
 | outgrown=>exact hq⟩
theorem Nq(keys:List Nat)(K:Y->List (Nat×Value))(I:Y->Prop)(Hc:Y->List (Nat×Obj))(Fc:Y->Fr)(Oc:Y->List Ow){H1:Y->List (Nat×Obj)}{F1:Y->Fr}{O1:Y->List Ow}(hn:(keys.all λ k=>Nat.blt k n)=true)(hKn:∀x,((K x).all λ p=>Nat.blt p.1 n)=true)(hH1:∀x,Hc x++H=H1 x)(hF1:∀x,Fc x++F=F1 x)(hO1:∀x,Oc x++O=O1 x)(h1:JK P n Q (.code c::.inv (lT n keys K (λ x w=>I x/\SF w0 M (H1 x) A (F1 x) (O1 x) w) (λ _=>0) S 1)::ks) S (SF w0 M H A F O))(h2:∀x f,I x->JK P n Q ks (K x++(gY keys f++S)) (SF w0 M (H1 x) A (F1 x) (O1 x))):JK P n Q (.code c::ks) S (SF w0 M H A F O):=jj keys K _ hn hKn h1 λ x f=>Ui λ h=>h2 x f h
theorem eR(keys:List Nat)(K:Y->List (Nat×Value))(I:Y->Prop)(H1:Y->List (Nat×Obj))(F1:Y->Fr)(O1:Y->List Ow)(hn:(keys.all λ k=>Nat.blt k n)=true)(hKn:∀x,((K x).all λ p=>Nat.blt p.1 n)=true)(h1:JK P n Q (.code c::.inv (lT n keys K (λ x w=>I x/\SF w0 M (H1 x) A (F1 x) (O1 x) w) (λ _=>0) S 1)::ks) S (SF w0 M H A F O))(h2:∀x f,I x->JK P n Q ks (K x++(gY keys f++S)) (SF w0 M (H1 x) A (F1 x) (O1 x))):JK P n Q (.code c::ks) S (SF w0 M H A F O):=jj keys K _ hn hKn h1 λ x f=>Ui λ h=>h2 x f h
theorem X5(hH:H'.Perm H)(hO:O'.Perm O):(Ks H' O').Perm (Ks H O):=(hH.map _).append (List.Perm.flatMap_right _ hO)
theorem St.perm{w0:World}{H:List (Nat×Obj)}(h:St w0 M H w)(hs:H'.Perm H):St w0 M H' w:=⟨h.os,h.tape,h.output,h.size,h.lC,λ p hp=>h.has p (hs.mem_iff.1 hp),λ p hp=>h.new p (hs.mem_iff.1 hp),(hs.map _).nodup_iff.2 h.nodup⟩
theorem SF.perm{w:World}{H':List (Nat×Obj)}{O':List Ow}(h:SF w0 M H A F O w)(hH:H'.Perm H)(hO:O'.Perm O):SF w0 M H' A F O' w:=by have hs:=X5 hH hO;exact⟨h.st.perm hH,λ f hf=>⟨(h.bS f hf).1,λ hc hm=>(h.bS f hf).2 hc (hs.mem_iff.1 hm)⟩,λ f hf=>⟨(h.new f hf).1,λ hc=>⟨λ hm=>((h.new f hf).2 hc).1 (hs.mem_iff.1 hm),((h.new f hf).2 hc).2⟩⟩,λ o ho=>h.own o (hO.mem_iff.1 ho),hs.nodup_iff.2 h.dis⟩
end
end
end Go.Ct
namespace Go.Proofs.YtbajmaoegmbfgaaGreat
open Go.Proofs.Tryz
open Go Go.RowKit Go.Ct
section
variable{n:Nat}{Q:Exit->Act->World->Prop}{ks:List CK}{S:List (Nat×Value)}{ops:Array Oper}{l ol:List Oper}{pl:rA}{LL:List Nat}{Dl Dp Dq:List Nat}
variable{w0:World}{M:List Nat}{H:List (Nat×Obj)}{A F:Fr}{O:List Ow}{G:World->Prop}{i d:Nat}{v:Value}{op:Op}{ty:TypeId}{pos:String}{af:Array Edge}{gd:Option (Nat×Bool)}{X:Type}{V:X->Value}{G':X->World->Prop}{j g:Nat}{want t:Bool}
theorem aC3(ho:eT ol i ⟨some d,op,ty,pos,af,gd⟩:=by exact gP)(hw:Region.wanted ⟨some d,op,ty,pos,af,gd⟩ (bL ⟨ol⟩ S)=true:=by exact rfl)(hq:bG prog S G ⟨some d,op,ty,pos,af,gd⟩ X V G':=by first|exact gE λ _=>Xc rf|exact gE λ _=>Oz rf rfl)(hc:hY ⟨ol⟩ n Dl Dp Dq i (some d)=true:=by decide +kernel)(hL:((Ct.waiting ⟨ol⟩ Dq i).all λ j=>LL.elem j)=true:=by decide +kernel)(hfire:∀x,aL prog ⟨ol⟩ ((d,V x)::S) (G' x) LL:=by exact nI)(h:∀x,JR prog n Q ks ⟨ol⟩ pl (i::Dl) Dp Dq ((d,V x)::S) (G' x)):fP prog n Q ks ⟨ol⟩ pl Dl Dp Dq S G i LL:=kO ho hw hq hc hL hfire h
theorem gm(ho:eT ol i ⟨some d,op,ty,pos,af,gd⟩:=by exact gP)(hw:Region.wanted ⟨some d,op,ty,pos,af,gd⟩ (bL ⟨ol⟩ S)=true:=by exact rfl)(hq:bG prog S G ⟨some d,op,ty,pos,af,gd⟩ X V G':=by first|exact Cz ep1|exact C7 dh|exact o_build0V Pf rf)(hc:hY ⟨ol⟩ n Dl Dp Dq i (some d)=true:=by decide +kernel)(hL:((Ct.waiting ⟨ol⟩ Dq i).all λ j=>LL.elem j)=true:=by decide +kernel)(hfire:∀x,aL prog ⟨ol⟩ ((d,V x)::S) (G' x) LL:=by exact nI)(h:∀x,JR prog n Q ks ⟨ol⟩ pl (i::Dl) Dp Dq ((d,V x)::S) (G' x)):fP prog n Q ks ⟨ol⟩ pl Dl Dp Dq S G i LL:=kO ho hw hq hc hL hfire h
theorem sj(ho:eT ol i ⟨some d,op,ty,pos,af,gd⟩:=by exact gP)(hw:Region.wanted ⟨some d,op,ty,pos,af,gd⟩ (bL ⟨ol⟩ S)=true:=by exact rfl)(hq:bG prog S G ⟨some d,op,ty,pos,af,gd⟩ X V G':=by exact It)(hc:hY ⟨ol⟩ n Dl Dp Dq i (some d)=true:=by decide +kernel)(hL:((Ct.waiting ⟨ol⟩ Dq i).all λ j=>LL.elem j)=true:=by decide +kernel)(hfire:∀x,aL prog ⟨ol⟩ ((d,V x)::S) (G' x) LL:=by exact nI)(h:∀x,JR prog n Q ks ⟨ol⟩ pl (i::Dl) Dp Dq ((d,V x)::S) (G' x)):fP prog n Q ks ⟨ol⟩ pl Dl Dp Dq S G i LL:=kO ho hw hq hc hL hfire h
theorem nF(ho:eT ol i ⟨some d,op,ty,pos,af,gd⟩:=by exact gP)(hw:Region.wanted ⟨some d,op,ty,pos,af,gd⟩ (bL ⟨ol⟩ S)=true:=by exact rfl)(hq:bG prog S G ⟨some d,op,ty,pos,af,gd⟩ X V G':=by exact uO)(hc:hY ⟨ol⟩ n Dl Dp Dq i (some d)=true:=by decide +kernel)(hL:((Ct.waiting ⟨ol⟩ Dq i).all λ j=>LL.elem j)=true:=by decide +kernel)(hfire:∀x,aL prog ⟨ol⟩ ((d,V x)::S) (G' x) LL:=by exact nI)(h:∀x,JR prog n Q ks ⟨ol⟩ pl (i::Dl) Dp Dq ((d,V x)::S) (G' x)):fP prog n Q ks ⟨ol⟩ pl Dl Dp Dq S G i LL:=kO ho hw hq hc hL hfire h
theorem iL(ho:eT ol i ⟨some d,op,ty,pos,af,gd⟩:=by exact gP)(hw:Region.wanted ⟨some d,op,ty,pos,af,gd⟩ (bL ⟨ol⟩ S)=true:=by exact rfl)(hq:bG prog S G ⟨some d,op,ty,pos,af,gd⟩ X V G':=by exact F7)(hc:hY ⟨ol⟩ n Dl Dp Dq i (some d)=true:=by decide +kernel)(hL:((Ct.waiting ⟨ol⟩ Dq i).all λ j=>LL.elem j)=true:=by decide +kernel)(hfire:∀x,aL prog ⟨ol⟩ ((d,V x)::S) (G' x) LL:=by exact nI)(h:∀x,JR prog n Q ks ⟨ol⟩ pl (i::Dl) Dp Dq ((d,V x)::S) (G' x)):fP prog n Q ks ⟨ol⟩ pl Dl Dp Dq S G i LL:=kO ho hw hq hc hL hfire h
theorem cy(ho:eT ol i ⟨some d,op,ty,pos,af,gd⟩:=by exact gP)(hw:Region.wanted ⟨some d,op,ty,pos,af,gd⟩ (bL ⟨ol⟩ S)=true:=by exact rfl)(hq:bG prog S G ⟨some d,op,ty,pos,af,gd⟩ X V G':=by exact fD (Bk wn))(hc:hY ⟨ol⟩ n Dl Dp Dq i (some d)=true:=by decide +kernel)(hL:((Ct.waiting ⟨ol⟩ Dq i).all λ j=>LL.elem j)=true:=by decide +kernel)(hfire:∀x,aL prog ⟨ol⟩ ((d,V x)::S) (G' x) LL:=by exact nI)(h:∀x,JR prog n Q ks ⟨ol⟩ pl (i::Dl) Dp Dq ((d,V x)::S) (G' x)):fP prog n Q ks ⟨ol⟩ pl Dl Dp Dq S G i LL:=kO ho hw hq hc hL hfire h
theorem Bd(ho:eT ol i ⟨some d,op,ty,pos,af,gd⟩:=by exact gP)(hw:Region.wanted ⟨some d,op,ty,pos,af,gd⟩ (bL ⟨ol⟩ S)=true:=by exact rfl)(hq:bG prog S G ⟨some d,op,ty,pos,af,gd⟩ X V G')(hc:hY ⟨ol⟩ n Dl Dp Dq i (some d)=true:=by decide +kernel)(hL:((Ct.waiting ⟨ol⟩ Dq i).all λ j=>LL.elem j)=true:=by decide +kernel)(hfire:∀x,aL prog ⟨ol⟩ ((d,V x)::S) (G' x) LL:=by exact nI)(h:∀x,JR prog n Q ks ⟨ol⟩ pl (i::Dl) Dp Dq ((d,V x)::S) (G' x)):fP prog n Q ks ⟨ol⟩ pl Dl Dp Dq S G i LL:=kO ho hw hq hc hL hfire h
theorem nX{φ:X->Prop}(ho:eT ol i ⟨some d,op,ty,pos,af,gd⟩:=by exact gP)(hw:Region.wanted ⟨some d,op,ty,pos,af,gd⟩ (bL ⟨ol⟩ S)=true:=by exact rfl)(hq:bG prog S G ⟨some d,op,ty,pos,af,gd⟩ X V (λ x w=>φ x/\G' x w))(hc:hY ⟨ol⟩ n Dl Dp Dq i (some d)=true:=by decide +kernel)(hL:((Ct.waiting ⟨ol⟩ Dq i).all λ j=>LL.elem j)=true:=by decide +kernel)(hfire:∀x,aL prog ⟨ol⟩ ((d,V x)::S) (λ w=>φ x/\G' x w) LL:=by exact nI)(h:∀x,φ x->JR prog n Q ks ⟨ol⟩ pl (i::Dl) Dp Dq ((d,V x)::S) (G' x)):fP prog n Q ks ⟨ol⟩ pl Dl Dp Dq S G i LL:=kO ho hw hq hc hL hfire λ x=>eK (h x)
end
end Go.Proofs.YtbajmaoegmbfgaaGreat
namespace Go.Ct
open Go Go.RowKit
section
section
variable{α:Type}
inductive zI:List α->Nat->α->Prop where
 | head {a:α} {l:List α}:zI (a::l) 0 a
 | tail {a b:α} {l:List α} {i:Nat}:zI l i b->zI (a::l) (i+1) b
def rZ:List α->Nat->List α
 | [],_=>[]
 | _::r,0=>r
 | p::r,i+1=>p::rZ r i
def sS:List α->Nat->α->List α
 | l,0,a=>a::l
 | p::r,i+1,a=>p::sS r i a
 | [],_+1,a=>[a]
inductive mR:List α->List Nat->List α->List α->Prop where
 | nil {l:List α}:mR l [] [] l
 | cons {l es r:List α} {i:Nat} {a:α} {js:List Nat}:zI l i a->mR (rZ l i) js es r->mR l (i::js) (a::es) r
def jE:List Nat->List α->List α->List α
 | i::js,a::es,r=>sS (jE js es r) i a
 | _,_,r=>r
theorem zI.perm{l:List α}{i:Nat}{a:α}(h:zI l i a):l.Perm (a::rZ l i):=by
 induction h with
 | head=>exact List.Perm.refl _
 | tail _ ih=>exact(ih.cons _).trans (List.Perm.swap _ _ _)
theorem Lf(a:α):∀(l:List α) (i:Nat),(sS l i a).Perm (a::l)
 | l,0=>by cases l<;>exact List.Perm.refl _
 | [],_+1=>List.Perm.refl _
 | p::r,i+1=>((Lf a r i).cons p).trans (List.Perm.swap _ _ _)
theorem mR.perm{l es r:List α}{js:List Nat}(h:mR l js es r):l.Perm (es++r):=by
 induction h with
 | nil=>exact List.Perm.refl _
 | cons h _ ih=>exact h.perm.trans (ih.cons _)
theorem Du:∀(js:List Nat) (es r:List α),js.length=es.length->(jE js es r).Perm (es++r)
 | [],[],_,_=>List.Perm.refl _
 | i::js,a::es,r,h=>(Lf a _ i).trans ((Du js es r (by simpa using h)).cons a)
 | [],_::_,_,h=>by simp at h
 | _::_,[],_,h=>by simp at h
end
section
variable{P:Program}{S:List (Nat×Value)}{w0 w w':World}{M:List Nat}{H H' hs:List (Nat×Obj)}{A F:Fr}{O O' os:List Ow}{is js:List Nat}
def Has(A F:Fr)(O:List Ow)(f:Option Addr×List Value):Prop:=f.2=[]∨f∈A∨f∈F∨∃o∈O,o.p=f.1/\o.cs=f.2
inductive bH(A F:Fr)(O:List Ow):Fr->Prop where
 | nil:bH A F O []
 | cons {f:Option Addr×List Value} {r:Fr} (h:Has A F O f) (hr:bH A F O r):bH A F O (f::r)
 | of {A0:Fr} (h:∀f∈A0,Has A F O f):bH A F O A0
variable{A0 F':Fr}{o1 o2:Ow}
theorem bH.get(h:bH A F O A0):∀f∈A0,Has A F O f:=by
 induction h with
 | nil=>intro f hf;exact(List.not_mem_nil hf).elim
 | cons h _ ih=>
  intro f hf;rcases List.mem_cons.1 hf with rfl|hf;·exact h
  ·exact ih f hf
 | of h=>exact h
theorem Aw.pW{a:Option Addr}{cs:List Value}:∀{F:Fr},(a,cs)∈F->Aw F a cs
 | [],h=>(List.not_mem_nil h).elim
 | (b,d)::F,h=>by
  rcases List.mem_cons.1 h with h|h;·cases h;exact .head
  ·exact .tail (Aw.pW h)
theorem bA.iT{F:Fr}:∀{F':Fr},(∀f∈F',f∈F)->bA F F'
 | [],_=>.nil
 | (a,cs)::F',h=>.cons (Aw.pW (h _ (List.mem_cons_self ..))) (bA.iT λ f hf=>h f (List.mem_cons_of_mem _ hf))
theorem SF.clH(h:SF w0 M H A F O w){f:Option Addr×List Value}(hf:Has A F O f):Cl w f.1 f.2:=by
 rcases hf with h0|h1|h1|⟨o,ho,h1,h2⟩;·rw[h0];exact Cl.nil _ _
 ·exact(h.bS f h1).1
 ·exact(h.new f h1).1
 ·rw[<- h1,<- h2];exact(h.own o ho).1.cl
theorem SF.Fe{w0 w:World}{M:List Nat}{H:List (Nat×Obj)}{A F:Fr}{O:List Ow}(h:SF w0 M H A F O w){L:List aQ}{cs:List Int}{pn pc:Option Addr}(h1:Has A F O (pn,iH L))(h2:Has A F O (pc,aH cs))(h3:∀f∈aN L,Has A F O f)(hf:Fits L):nM w L cs pn pc :=⟨h.clH h1,h.clH h2,λ f hm=>h.clH (h3 f hm),hf⟩
theorem SF.rM(h:SF w0 M H A F O w)(hH:mR H is hs H')(hO:mR O js os O')(hA:bH A F O' A0):SF w (Ks hs os) hs A0 [] os w:=by
 have pH:=hH.perm;have pO:=hO.perm;have h1:=h.perm pH.symm pO.symm;have hnd:=(X5 pH.symm pO.symm).nodup_iff.2 h.dis
 have sub:(Ks hs os).Sublist (Ks (hs++H') (os++O')):=by unfold Ks;rw[List.map_append,List.flatMap_append];exact(List.sublist_append_left _ _).append (List.sublist_append_left _ _)
 have nd1:(Ks hs os).Nodup:=hnd.sublist sub;have kperm:(Ks (hs++H') (os++O')).Perm (Ks hs os++Ks H' O'):=by unfold Ks;rw[List.map_append,List.flatMap_append];simp only[List.append_assoc];refine List.Perm.append_left _ ?_;rw[<- List.append_assoc,<- List.append_assoc];exact List.Perm.append_right _ List.perm_append_comm
 have disj:∀b∈Ks hs os,b∉Ks H' O':=λ b hb hm=>(List.nodup_append.1 (kperm.nodup_iff.1 hnd)).2.2 b hb b hm rfl;refine⟨⟨rfl,rfl,rfl,Nat.le_refl _,λ _ _ _=>rfl,λ p hp=>h1.st.has p (List.mem_append_left _ hp),λ p hp=>.inl (eJ.2 (.inl ⟨p,hp,rfl⟩)),(List.nodup_append.1 nd1).1⟩,λ f hf=>?_,λ _ h=>(List.not_mem_nil h).elim,λ o ho=>⟨(h1.own o (List.mem_append_left _ ho)).1,λ b hb=>.inr (eJ.2 (.inr ⟨o,ho,hb⟩))⟩,nd1⟩;have hg:=hA.get f hf;refine⟨?_,λ hc hm=>?_⟩
 ·rcases hg with h0|h2|h2|⟨o,ho,h2,h3⟩;·rw[h0];exact Cl.nil _ _
  ·exact(h.bS f h2).1
  ·exact(h.new f h2).1
  ·rw[<- h2,<- h3];exact(h1.own o (List.mem_append_right _ ho)).1.cl
 ·rcases hg with h0|h2|h2|⟨o,ho,h2,h3⟩;·exact hc h0
  ·exact(h1.bS f h2).2 hc (sub.subset hm)
  ·exact((h1.new f h2).2 hc).1 (sub.subset hm)
  ·have hok:=(h1.own o (List.mem_append_right _ ho)).1;have hb:=hok.Td (by rw[h3];exact hc);exact disj _ hm (eJ.2 (.inr ⟨o,ho,by rw[hb,h2];exact List.mem_singleton.2 rfl⟩))
theorem SF.yT(h:SF w0 M H A F O w)(hH:mR H is hs H')(hO:mR O js os O'){hs' Hc:List (Nat×Obj)}{os' Oc:List Ow}{Fc:Fr}(hc:SF w (Ks hs os) (hs'++Hc) [] Fc (os'++Oc) w')(h1:is.length=hs'.length)(h2:js.length=os'.length) :
  SF w0 M (Hc++jE is hs' H') A (Fc++F) (Oc++jE js os' O') w':=by
 have pH:=hH.perm;have pO:=hO.perm;have hp:=h.perm pH.symm pO.symm;have qH:=Du is hs' H' h1;have qO:=Du js os' O' h2
 have kperm:∀(a c:List (Nat×Obj)) (b d:List Ow),(Ks (a++c) (b++d)).Perm (Ks a b++Ks c d):=λ a c b d=>by unfold Ks;rw[List.map_append,List.flatMap_append];simp only[List.append_assoc];refine List.Perm.append_left _ ?_;rw[<- List.append_assoc,<- List.append_assoc];exact List.Perm.append_right _ List.perm_append_comm
 have nd0:=(kperm hs H' os O').nodup_iff.1 hp.dis;have disj:∀b∈Ks hs os,b∉Ks H' O':=λ b hb hm=>(List.nodup_append.1 nd0).2.2 b hb b hm rfl;have sub:∀b∈Ks hs' os',b∈Ks (hs'++Hc) (os'++Oc):=λ b hb=>(kperm hs' Hc os' Oc).mem_iff.2 (List.mem_append_left _ hb)
 have nd1:(Ks (hs'++H') (os'++O')).Nodup:=by
  rw[(kperm hs' H' os' O').nodup_iff];refine List.nodup_append.2 ⟨(List.nodup_append.1 ((kperm hs' Hc os' Oc).nodup_iff.1 hc.dis)).1,(List.nodup_append.1 nd0).2.1,λ a ha b hb e=>?_⟩;subst e;rcases hc.Tu a (sub a ha) with h3|h3
  ·have:=hp.lt a ((kperm hs H' os O').mem_iff.2 (List.mem_append_right _ hb));omega
  ·exact disj a h3 hb
 have r:=hp.j3 (D:=Ks hs os) (Hm:=hs') (Hc:=Hc) (H1:=hs'++H') (Fc:=Fc) (Om:=os') (Oc:=Oc) (O1:=os'++O') hc (λ b hb=>(kperm hs H' os O').mem_iff.2 (List.mem_append_left _ hb))
  (λ p hpm=>by
   rcases List.mem_append.1 hpm with h3|h3
   ·exact .inl h3
   ·exact .inr ⟨List.mem_append_right _ h3,λ hm=>disj _ hm (eJ.2 (.inl ⟨p,h3,rfl⟩))⟩)
  (λ o ho=>by
   rcases List.mem_append.1 ho with h3|h3
   ·exact .inl h3
   ·exact .inr ⟨List.mem_append_right _ h3,λ b hb hm=>disj _ hm (eJ.2 (.inr ⟨o,h3,hb⟩))⟩)
  nd1
 exact r.perm (List.Perm.append_left _ qH) (List.Perm.append_left _ qO)
theorem SF.eY(h:SF w0 M H A F O w)(hF:∀f∈F',f.2=[]∨f∈F):SF w0 M H A F' O w:=⟨h.st,h.bS,λ f hf=>by
 rcases hF f hf with h0|h1;·exact⟨by rw[h0];exact Cl.nil _ _,λ hc=>absurd h0 hc⟩
 ·exact h.new f h1,h.own,h.dis⟩
theorem SF.gj(h:SF w0 M H A F (o1::o2::O) w):SF w0 M H A F (o2::o1::O) w:=h.perm (List.Perm.refl _) (List.Perm.swap _ _ _)
theorem SF.aCt(h:SF w0 M H A F O w)(T1:TypeId)(s1:Nat)(T2:TypeId)(s2:Nat):SF w0 M H A F (O++[⟨none,[],0,T1,s1⟩,⟨none,[],0,T2,s2⟩]) w:=((h.kQ T2 s2).kQ T1 s1).perm (List.Perm.refl _) List.perm_append_comm
theorem SF.toEnd(h:SF w0 M H A F (o1::o2::O) w):SF w0 M H A F (O++[o1,o2]) w:=h.perm (List.Perm.refl _) List.perm_append_comm
theorem SF.aAr{L:List aQ}{v:aQ}{F':Fr}(h:SF w0 M H A F O w)(h1:(v.nd.brA,aH v.xs)∈F)(h2:(v.nd.prA,dF v.ys)∈F)(h3:∀f∈aN L,f∈F):SF w0 M H A (aN (L++[v])) O w:=h.eY λ f hf=>by
 rw[cX] at hf;rcases List.mem_append.1 hf with hf|hf;·exact .inr (h3 f hf)
 ·simp only[aN,List.flatMap_cons,List.flatMap_nil,List.append_nil,aQ.fr,List.mem_cons,List.not_mem_nil,or_false] at hf;rcases hf with rfl|rfl;·exact .inr h1
  ·exact .inr h2
theorem bA.all{F:Fr}:bA F F:=bA.iT λ _ h=>h
theorem SF.v4{w:World}{H':List (Nat×Obj)}{O':List Ow}(h:SF w0 M H A F O w)(hH:H'.Sublist H:=by repeat (first|exact List.nil_sublist _|apply List.Sublist.cons_cons|apply List.Sublist.cons))(hO:O'.Sublist O:=by repeat (first|exact List.nil_sublist _|apply List.Sublist.cons_cons|apply List.Sublist.cons)):SF w0 M H' [] F O' w:=h.bB hH bA.all hO
theorem SF.v6{w:World}{H':List (Nat×Obj)}{O':List Ow}(h:SF w0 M H A F O w)(hH:H'.Sublist H:=by repeat (first|exact List.Sublist.refl _|exact List.nil_sublist _|apply List.Sublist.cons))(hO:O'.Sublist O:=by repeat (first|exact List.Sublist.refl _|exact List.nil_sublist _|apply List.Sublist.cons)):SF w0 M H' A F O' w:=h.back hH bA.all hO
end
end
end Go.Ct
namespace Go.Proofs.YtbajmaoegmbfgaaGreat
open Go.Proofs.Tryz
section
open Go Go.RowKit Go.Ct
abbrev mO(L:List aQ)(cs:List Int)(gen acc:Int)(pn:Option Addr)(cn:Nat)(pc:Option Addr)(cc:Nat):Obj:=.cells ⟨[.slice pn L.length cn,.slice pc cs.length cc,.int .i64 gen,.int .i64 acc]⟩ 54 (0,0)
abbrev aO(L:List aQ)(cs:List Int)(gen acc:Int)(pn:Option Addr)(cn:Nat)(pc:Option Addr)(cc:Nat):Obj:=.cells ⟨[.slice pn L.length cn,.slice pc cs.length cc,.int .i64 gen,.int .i64 acc]⟩ 139 (0,0)
abbrev mW(L:List aQ)(cs:List Int)(pn:Option Addr)(cn:Nat)(pc:Option Addr)(cc:Nat):List Ow:=[⟨pn,iH L,cn,47,14⟩,⟨pc,aH cs,cc,37,1⟩]
variable{w0 w:World}{D:List Nat}{b cn cc:Nat}{cs:List Int}{gen acc:Int}{pn pc:Option Addr}{A F:Fr}
theorem zM{L:List aQ}(h:SF w0 D [(b,mO L cs gen acc pn cn pc cc)] A F (mW L cs pn cn pc cc) w) :
  SF w0 D [(b,.cells ⟨[.slice pn L.length cn,.slice pc cs.length cc,.int .i64 gen,.int .i64 acc]⟩ 54 (0,0))] A F [⟨pn,iH L,cn,47,14⟩,⟨pc,aH cs,cc,37,1⟩] w:=h
theorem zJ{L:List aQ}(h:SF w0 D [(b,aO L cs gen acc pn cn pc cc)] A F (mW L cs pn cn pc cc) w) :
  SF w0 D [(b,.cells ⟨[.slice pn L.length cn,.slice pc cs.length cc,.int .i64 gen,.int .i64 acc]⟩ 139 (0,0))] A F [⟨pn,iH L,cn,47,14⟩,⟨pc,aH cs,cc,37,1⟩] w:=h
variable{S:List (Nat×Value)}{w0 w:World}{M:List Nat}{H:List (Nat×Obj)}{A F:Fr}{O:List Ow}{ty:TypeId}{pos:String}{af:Array Edge}{gd:Option (Nat×Bool)}{X:Type}{V:X->Value}
variable{hs H':List (Nat×Obj)}{os O':List Ow}{A0:Fr}{is js:List Nat}{f:FuncId}{xs:List Operand}{at_:Array TypeId}{vs:List Value}{dst:Option Nat}
theorem cM{φ:X->Prop}{hs' H1:X->List (Nat×Obj)}{os' O1:X->List Ow}{Fc F1:X->Fr}(ha:qR S xs=vs:=by(repeat (first|exact cN _|(apply bX;focus ((conv=>{lhs;whnf});try exact rfl))));first|done|fail)(hp:plain prog f=true:=by kernel_rfl)(hc:∀w,SF w (Ks hs os) hs A0 [] os w->Calls prog f ⟨vs⟩ w λ e w'=>∃x,e=.returned (V x)/\φ x/\SF w (Ks hs os) (hs' x) [] (Fc x) (os' x) w')(hH:mR H is hs H':=by(repeat (first|exact mR.nil|(apply mR.cons;(focus ((repeat (first|exact zI.head|apply zI.tail));done));simp only[rZ])));first|done|fail)(hO:mR O js os O':=by(repeat (first|exact mR.nil|(apply mR.cons;(focus ((repeat (first|exact zI.head|apply zI.tail));done));simp only[rZ])));first|done|fail)(hA:bH A F O' A0:=by(repeat (first|exact bH.of (λ _ h=>Or.inr (Or.inl h))|exact bH.nil|(refine bH.cons (by first|exact Or.inl rfl|exact Or.inr (Or.inr (Or.inl (by simp)))|exact Or.inr (Or.inl (by simp))|exact Or.inr (Or.inr (Or.inr (by simp)))) ?_)));first|done|fail)(hl1:∀x,is.length=(hs' x).length:=by intro x;exact rfl)(hl2:∀x,js.length=(os' x).length:=by intro x;exact rfl)(hH1:∀x,jE is (hs' x) H'=H1 x:=by intro x;first|(simp only[jE,sS];exact rfl)|exact rfl)(hF1:∀x,Fc x++F=F1 x:=by intro x;first|(simp only[List.nil_append,List.cons_append];exact rfl)|exact rfl)(hO1:∀x,jE js (os' x) O'=O1 x:=by intro x;simp only[jE,sS,mW];exact rfl) :
  bG prog S (SF w0 M H A F O) ⟨dst,.call {callee:=.value (.func f),args:=⟨xs⟩,argTypes:=at_},ty,pos,af,gd⟩ X V (λ x w=>φ x/\SF w0 M (H1 x) A (F1 x) (O1 x) w) :=
 gW (mY hp ha) λ w hw=>(hc w (hw.rM hH hO hA)).mono λ _ _ ⟨x,he,hx,hs⟩=>⟨x,he,hx,by have:=hw.yT (hs':=hs' x) (Hc:=[]) (os':=os' x) (Oc:=[]) hH hO (by simpa using hs) (hl1 x) (hl2 x);rw[<- hH1 x,<- hF1 x,<- hO1 x];simpa using this⟩
theorem cMO{φ:X->Prop}{hs' H1:X->List (Nat×Obj)}{os' Oc O1:X->List Ow}{Fc F1:X->Fr}(ha:qR S xs=vs:=by(repeat (first|exact cN _|(apply bX;focus ((conv=>{lhs;whnf});try exact rfl))));first|done|fail)(hp:plain prog f=true:=by kernel_rfl)(hc:∀w,SF w (Ks hs os) hs A0 [] os w->Calls prog f ⟨vs⟩ w λ e w'=>∃x,e=.returned (V x)/\φ x/\SF w (Ks hs os) (hs' x) [] (Fc x) (os' x++Oc x) w')(hH:mR H is hs H':=by(repeat (first|exact mR.nil|(apply mR.cons;(focus ((repeat (first|exact zI.head|apply zI.tail));done));simp only[rZ])));first|done|fail)(hO:mR O js os O':=by(repeat (first|exact mR.nil|(apply mR.cons;(focus ((repeat (first|exact zI.head|apply zI.tail));done));simp only[rZ])));first|done|fail)(hA:bH A F O' A0:=by(repeat (first|exact bH.of (λ _ h=>Or.inr (Or.inl h))|exact bH.nil|(refine bH.cons (by first|exact Or.inl rfl|exact Or.inr (Or.inr (Or.inl (by simp)))|exact Or.inr (Or.inl (by simp))|exact Or.inr (Or.inr (Or.inr (by simp)))) ?_)));first|done|fail)(hl1:∀x,is.length=(hs' x).length:=by intro x;exact rfl)(hl2:∀x,js.length=(os' x).length:=by intro x;exact rfl)(hH1:∀x,jE is (hs' x) H'=H1 x:=by intro x;first|(simp only[jE,sS];exact rfl)|exact rfl)(hF1:∀x,Fc x++F=F1 x:=by intro x;first|(simp only[List.nil_append,List.cons_append];exact rfl)|exact rfl)(hO1:∀x,Oc x++jE js (os' x) O'=O1 x:=by intro x;simp only[jE,sS,mW,List.nil_append,List.cons_append];exact rfl) :
  bG prog S (SF w0 M H A F O) ⟨dst,.call {callee:=.value (.func f),args:=⟨xs⟩,argTypes:=at_},ty,pos,af,gd⟩ X V (λ x w=>φ x/\SF w0 M (H1 x) A (F1 x) (O1 x) w) :=
 gW (mY hp ha) λ w hw=>(hc w (hw.rM hH hO hA)).mono λ _ _ ⟨x,he,hx,hs⟩=>⟨x,he,hx,by have:=hw.yT (hs':=hs' x) (Hc:=[]) (os':=os' x) (Oc:=Oc x) hH hO (by simpa using hs) (hl1 x) (hl2 x);rw[<- hH1 x,<- hF1 x,<- hO1 x];simpa using this⟩
end
section
open Go.RowKit Go.Ct
variable{w:World}{D:List Nat}{b:Nat}{L:List aQ}{cs:List Int}{gen acc:Int}{pn pc:Option Addr}{cn cc:Nat}{A:Fr}
theorem mB(v:Int)(hs:SF w D [(b,mO L cs gen acc pn cn pc cc)] A [] (mW L cs pn cn pc cc) w)(hl:cs.length<=274877906944) :
  Calls prog 114 #[.pointer (some ⟨b,0,none⟩),.int .i64 v] w λ e w'=>∃q:Option Addr×Nat,e=.returned (.int .i64 ((cs.length+1:Nat):Int))/\True /\
   SF w D [(b,mO L (cs++[v]) gen acc pn cn q.1 q.2)] [] [] (mW L (cs++[v]) pn cn q.1 q.2) w':=by refine enter func114 ntmps114 rfl rfl (zM hs) ?_;simp only[cC];refine Kc6 ?_;refine H0 ?_;refine J3 ?_;refine aA ?_;refine fJ (λ x12=>?_);(refine fF (λ x13=>?_);try (refine eP (λ h13=>?_)));refine H0 ?_;refine vO ?_;refine Jw ?_;refine Pb ?_;refine J1 ?_;refine aS results114 (λ w hw=>?_);exact⟨x13,rfl,trivial,by simpa[mO,mW] using hw.bB (F':=[])⟩
theorem Ak(v:Int)(hs:SF w D [(b,aO L cs gen acc pn cn pc cc)] A [] (mW L cs pn cn pc cc) w)(hl:cs.length<=274877906944) :
  Calls prog 79 #[.pointer (some ⟨b,0,none⟩),.int .i64 v] w λ e w'=>∃q:Option Addr×Nat,e=.returned (.int .i64 ((cs.length+1:Nat):Int))/\True /\
   SF w D [(b,aO L (cs++[v]) gen acc pn cn q.1 q.2)] [] [] (mW L (cs++[v]) pn cn q.1 q.2) w':=by refine enter func79 ntmps79 rfl rfl (zJ hs) ?_;simp only[cC];refine Kc6 ?_;refine dO ?_;refine J3 ?_;refine aA ?_;refine fJ (λ x11=>?_);(refine fF (λ x12=>?_);try (refine eP (λ h12=>?_)));refine Pd ?_;refine mP ?_;refine dV ?_;refine J1 ?_;refine aS results79 (λ w hw=>?_);exact⟨x12,rfl,trivial,by simpa[aO,mW] using hw.bB (F':=[])⟩
end
end Go.Proofs.YtbajmaoegmbfgaaGreat
namespace Go.Ct
section
def bK(cs:List Int)(c:Int):Int:=if 1<=c/\c<=cs.length then cs.getD (c-1).toNat 0 else 0
def iQ(cs:List Int)(c bS:Int):Prop:=1<=c/\c<=cs.length/\cs.getD (c-1).toNat 0=bS
def eL(cs:List Int)(c bS new:Int):List Int:=if 1<=c/\c<=cs.length/\cs.getD (c-1).toNat 0=bS then cs.set (c-1).toNat new else cs
def up(i:Int):Int:=Go.IntKind.i64.wrap (i+1)
variable{cs:List Int}{c bS new:Int}{k:Nat}
theorem tF(h:¬(1<=c/\c<=cs.length)):bK cs c=0:=if_neg h
theorem Ji(h:k<cs.length):bK cs ((k+1:Nat):Int)=cs.getD k 0:=by unfold bK;rw[if_pos (by omega),show(((k+1:Nat):Int)-1).toNat=k by omega]
theorem uL(h:¬(1<=c/\c<=cs.length/\cs.getD (c-1).toNat 0=bS)):eL cs c bS new=cs:=if_neg h
theorem X7(h:k<cs.length)(ho:cs.getD k 0=bS):eL cs ((k+1:Nat):Int) bS new=cs.set k new:=by
 have e:(((k+1:Nat):Int)-1).toNat=k:=by omega
 unfold eL;rw[e,if_pos ⟨by omega,by omega,ho⟩]
theorem p8(h:c<1):(false=true↔iQ cs c bS):=⟨(λ h=>nomatch h),λ h2=>absurd h2.1 (by omega)⟩
theorem Xy(h:c<1):eL cs c bS new=cs:=uL (by omega)
theorem j5(h:(cs.length:Int)<c):(false=true↔iQ cs c bS):=⟨(λ h=>nomatch h),λ h2=>absurd h2.2.1 (by omega)⟩
theorem Xf(h:(cs.length:Int)<c):eL cs c bS new=cs:=uL (by omega)
theorem jv(h:cs.getD k 0≠bS):(false=true↔iQ cs ((k+1:Nat):Int) bS):=⟨(λ h=>nomatch h),λ h2=>absurd E1e h⟩
theorem Yz(h:cs.getD k 0≠bS):eL cs ((k+1:Nat):Int) bS new=cs:=uL λ h2=>absurd E1e h
theorem mb(hk:k<cs.length)(h:cs.getD k 0=bS):(true=true↔iQ cs ((k+1:Nat):Int) bS):=⟨λ _=>⟨by omega,by omega,by rw[show(((k+1:Nat):Int)-1).toNat=k by omega];exact h⟩,λ _=>rfl⟩
theorem gR:(eL cs c bS new).length=cs.length:=by unfold eL;split<;>simp
end
end Go.Ct
namespace Go.Proofs.YtbajmaoegmbfgaaGreat
open Go.Proofs.Tryz
open Go.RowKit Go.Ct
section
variable{w:World}{D:List Nat}{b:Nat}{L:List aQ}{cs:List Int}{gen acc:Int}{pn pc:Option Addr}{cn cc:Nat}{A:Fr}
theorem K0(hs:SF w D [(b,mO L cs gen acc pn cn pc cc)] A [] (mW L cs pn cn pc cc) w):Calls prog 100 #[.pointer (some ⟨b,0,none⟩)] w λ e w'=>∃q:Unit,e=.returned (.int .i64 (up gen))/\True/\SF w D [(b,mO L cs (up gen) acc pn cn pc cc)] [] [] (mW L cs pn cn pc cc) w':=by refine enter func100 ntmps100 rfl rfl (zM hs) ?_;simp only[cC];refine cU ?_;refine Jw ?_;refine J3 ?_;refine aC (oR rf rf) rfl ?_;refine H0 ?_;refine vO ?_;refine Jw ?_;refine J3 ?_;refine J1 ?_;refine aS results100 (λ w hw=>?_);exact⟨(),rfl,trivial,by simpa[mO,mW] using hw.bB (F':=[])⟩
theorem ik(hs:SF w D [(b,mO L cs gen acc pn cn pc cc)] A [] (mW L cs pn cn pc cc) w)(c:Int)(hc:c<1):Calls prog 241 #[.pointer (some ⟨b,0,none⟩),.int .i64 c] w λ e w'=>∃q:Unit,e=.returned (.int .i64 (bK cs c))/\True/\SF w D [(b,mO L cs gen (up acc) pn cn pc cc)] [] [] (mW L cs pn cn pc cc) w':=by
 refine enter func241 ntmps241 rfl rfl (zM hs) ?_;simp only[cC];refine K0q ?_;refine jS ?_;refine A1 ?_;(refine eE 14 (λ g14=>?_) (λ g14=>?_)<;>(try (exfalso;omega))<;>(refine aI ?_));refine J79 ?_;refine Ts ?_;refine Ka8 ?_;refine bD (λ c23=>?_) (λ c23=>?_)
 ·try (exfalso;omega)
  refine cU ?_;refine aS results241 (λ w hw=>?_);(exact⟨(),by rw[tF (by omega)];rfl,trivial,hw.bB⟩)
 ·exact nv c23
theorem zk(hs:SF w D [(b,mO L cs gen acc pn cn pc cc)] A [] (mW L cs pn cn pc cc) w)(c:Int)(bS new:Int)(hc:c<1):Calls prog 242 #[.pointer (some ⟨b,0,none⟩),.int .i64 c,.int .i64 bS,.int .i64 new] w λ e w'=>∃r:Bool,e=.returned (.bool r)/\(r=true↔iQ cs c bS)/\SF w D [(b,mO L (eL cs c bS new) gen (up acc) pn cn pc cc)] [] [] (mW L (eL cs c bS new) pn cn pc cc) w':=by
 refine enter func242 ntmps242 rfl rfl (zM hs) ?_;simp only[cC];refine K0q ?_;refine jS ?_;refine A1 ?_;(refine eE 18 (λ g18=>?_) (λ g18=>?_)<;>(try (exfalso;omega))<;>(refine aI ?_));refine J79 ?_;refine Ts ?_;refine B7 ?_;refine aA ?_;refine aI ?_;refine J36 ?_;refine J6 ?_;refine J68 ?_;(refine aI ?_);refine Z6 ?_;refine Q3 ?_;refine aG ?_;refine bD (λ c40=>?_) (λ c40=>?_)
 ·try (exfalso;omega)
  refine cU ?_;refine aS results242 (λ w hw=>?_);(exact⟨false,rfl,p8 hc,by rw[Xy hc];exact hw.bB⟩)
 ·exact nv c40
theorem oq(hs:SF w D [(b,mO L cs gen acc pn cn pc cc)] A [] (mW L cs pn cn pc cc) w){k:Nat}(hk:(k:Int)<9223372036854775807)(hl:cs.length<=274877906944):Calls prog 241 #[.pointer (some ⟨b,0,none⟩),.int .i64 ((k+1:Nat):Int)] w λ e w'=>∃q:Unit,e=.returned (.int .i64 (bK cs ((k+1:Nat):Int)))/\True/\SF w D [(b,mO L cs gen (up acc) pn cn pc cc)] [] [] (mW L cs pn cn pc cc) w':=by
 refine enter func241 ntmps241 rfl rfl (zM hs) ?_;simp only[cC];refine K0q ?_;refine jS ?_;refine A1 ?_;(refine Ka3 ?_);refine J79 ?_;refine Ts ?_;refine Ka8 ?_;refine bD (λ c23=>?_) (λ c23=>?_)
 ·try (exfalso;omega)
  refine cU ?_;refine aS results241 (λ w hw=>?_);(exact⟨(),by rw[tF (by omega)];rfl,trivial,hw.bB⟩)
 ·try (exfalso;omega)
  refine aW ?_;refine Jw ?_;refine J3 ?_;refine aA ?_;refine sV ?_;refine Qv ?_;refine J1 ?_;refine aS results241 (λ w hw=>?_);(exact⟨(),by rw[Ji (by omega)];rfl,trivial,hw.bB⟩)
theorem tg(hs:SF w D [(b,mO L cs gen acc pn cn pc cc)] A [] (mW L cs pn cn pc cc) w){k:Nat}(hk:(k:Int)<9223372036854775807)(bS new:Int)(hl:cs.length<=274877906944):Calls prog 242 #[.pointer (some ⟨b,0,none⟩),.int .i64 ((k+1:Nat):Int),.int .i64 bS,.int .i64 new] w λ e w'=>∃r:Bool,e=.returned (.bool r)/\(r=true↔iQ cs ((k+1:Nat):Int) bS)/\SF w D [(b,mO L (eL cs ((k+1:Nat):Int) bS new) gen (up acc) pn cn pc cc)] [] [] (mW L (eL cs ((k+1:Nat):Int) bS new) pn cn pc cc) w':=by
 refine enter func242 ntmps242 rfl rfl (zM hs) ?_;simp only[cC];refine K0q ?_;refine jS ?_;refine A1 ?_;(refine Ka3 ?_);refine J79 ?_;refine Ts ?_;refine B7 ?_;refine aA ?_;(refine eE 28 (λ g28=>?_) (λ g28=>?_)<;>refine Ka0 ?_);all_goals (refine J36 ?_;refine J6 ?_;refine J68 ?_;refine Kd4 ?_;refine Q3 ?_;refine aG ?_)
 all_goals
 refine bD (λ c40=>?_) (λ c40=>?_)
 ·all_goals try (exfalso;omega)
  all_goals refine cU ?_
  all_goals refine aS results242 (λ w hw=>?_);first|exact⟨false,rfl,j5 (by omega),by rw[Xf (by omega)];exact hw.bB⟩|exact⟨false,rfl,jv (by simpa using c40),by rw[Yz (by simpa using c40)];exact hw.bB⟩ 
 ·try exact nv c40
  all_goals (refine aW ?_;refine Jw ?_;refine J3 ?_;refine aA ?_;refine sV ?_;refine aA ?_;refine fM ?_;refine J5 ?_;refine cU ?_)
  all_goals refine aS results242 (λ w hw=>?_);(exact⟨true,rfl,mb (by omega) (by simpa using c40),by rw[X7 (by omega) (by simpa using c40)];simpa[mW,aO,mO] using hw.bB (F':=[])⟩)
theorem xb(hs:SF w D [(b,mO L cs gen acc pn cn pc cc)] A [] (mW L cs pn cn pc cc) w)(c:Int)(hc:c<=9223372036854775807)(hl:cs.length<=274877906944):Calls prog 241 #[.pointer (some ⟨b,0,none⟩),.int .i64 c] w λ e w'=>∃q:Unit,e=.returned (.int .i64 (bK cs c))/\True/\SF w D [(b,mO L cs gen (up acc) pn cn pc cc)] [] [] (mW L cs pn cn pc cc) w':=by
 rcases Int.lt_or_le c 1 with h|h;·exact ik hs c h
 ·obtain⟨k,rfl⟩:∃k:Nat,c=((k+1:Nat):Int):=⟨(c-1).toNat,by omega⟩;exact oq hs (by omega) hl
theorem aBr(hs:SF w D [(b,mO L cs gen acc pn cn pc cc)] A [] (mW L cs pn cn pc cc) w)(c bS new:Int)(hc:c<=9223372036854775807)(hl:cs.length<=274877906944):Calls prog 242 #[.pointer (some ⟨b,0,none⟩),.int .i64 c,.int .i64 bS,.int .i64 new] w λ e w'=>∃r:Bool,e=.returned (.bool r)/\(r=true↔iQ cs c bS)/\SF w D [(b,mO L (eL cs c bS new) gen (up acc) pn cn pc cc)] [] [] (mW L (eL cs c bS new) pn cn pc cc) w':=by
 rcases Int.lt_or_le c 1 with h|h;·exact zk hs c bS new h
 ·obtain⟨k,rfl⟩:∃k:Nat,c=((k+1:Nat):Int):=⟨(c-1).toNat,by omega⟩;exact tg hs (by omega) bS new hl
theorem Mq(hs:SF w D [(b,aO L cs gen acc pn cn pc cc)] A [] (mW L cs pn cn pc cc) w)(c:Int):Calls prog 85 #[.pointer (some ⟨b,0,none⟩),.int .i64 c] w λ e w'=>∃q:Unit,e=.returned (.bool (decide (1<=c/\c<=(cs.length:Int))))/\True/\SF w D [(b,aO L cs gen acc pn cn pc cc)] [] [] (mW L cs pn cn pc cc) w':=by
 refine enter func85 ntmps85 rfl rfl (zJ hs) ?_;simp only[cC];refine Kb5 ?_;refine lQ ?_;refine aA ?_;(refine eE 7 (λ g7=>?_) (λ g7=>?_)<;>refine Ka0 ?_);all_goals (refine Ka0 ?_;refine Kb7 ?_;refine Ts ?_;(first|refine aI ?_|(refine aF ?_;refine xR ?_));refine Kb9 ?_)
 all_goals
 refine aS results85 (λ w hw=>?_);first|exact⟨(),by rw[decide_eq_false (show ¬(1<=c/\c<=(cs.length:Int)) by omega)];first|rfl|(rw[decide_eq_false (by omega)];rfl),trivial,hw.bB⟩|exact⟨(),by rw[show decide (1<=c/\c<=(cs.length:Int))=decide (c<=(cs.length:Int)) by simp;omega];rfl,trivial,hw.bB⟩
theorem q7(hs:SF w D [(b,aO L cs gen acc pn cn pc cc)] A [] (mW L cs pn cn pc cc) w)(c:Int)(hc:c<1):Calls prog 35 #[.pointer (some ⟨b,0,none⟩),.int .i64 c] w λ e w'=>∃q:Unit,e=.returned (.int .i64 (bK cs c))/\True/\SF w D [(b,aO L cs gen (up acc) pn cn pc cc)] [] [] (mW L cs pn cn pc cc) w':=by
 refine enter func35 ntmps35 rfl rfl (zJ hs) ?_;simp only[cC];refine K0q ?_;refine D1 ?_;refine aD (cM (hc:=λ w hs=>Mq hs c)) (λ x14 h14=>?_);refine oG ?_;refine bD (λ c15=>?_) (λ c15=>?_)
 ·try (exfalso;omega)
  refine cU ?_;refine aS results35 (λ w hw=>?_);(exact⟨(),by rw[tF (by omega)];rfl,trivial,hw.bB⟩)
 ·try (exfalso;omega)
theorem y8(hs:SF w D [(b,aO L cs gen acc pn cn pc cc)] A [] (mW L cs pn cn pc cc) w)(c:Int)(bS new:Int)(hc:c<1):Calls prog 279 #[.pointer (some ⟨b,0,none⟩),.int .i64 c,.int .i64 bS,.int .i64 new] w λ e w'=>∃r:Bool,e=.returned (.bool r)/\(r=true↔iQ cs c bS)/\SF w D [(b,aO L (eL cs c bS new) gen (up acc) pn cn pc cc)] [] [] (mW L (eL cs c bS new) pn cn pc cc) w':=by
 refine enter func279 ntmps279 rfl rfl (zJ hs) ?_;simp only[cC];refine K0q ?_;refine D1 ?_;refine aD (cM (hc:=λ w hs=>Mq hs c)) (λ x18 h18=>?_);refine Cr ?_;(refine eE 20 (λ g20=>?_) (λ g20=>?_)<;>(try (exfalso;omega))<;>(refine aI ?_));(refine aI ?_);refine J6 ?_;refine J68 ?_;(refine aI ?_);refine Z6 ?_;refine Q3 ?_;refine aG ?_;refine bD (λ c31=>?_) (λ c31=>?_)
 ·try (exfalso;omega)
  refine cU ?_;refine aS results279 (λ w hw=>?_);(exact⟨false,rfl,p8 hc,by rw[Xy hc];exact hw.bB⟩)
 ·exact nv c31
theorem ql(hs:SF w D [(b,aO L cs gen acc pn cn pc cc)] A [] (mW L cs pn cn pc cc) w){k:Nat}(hk:(k:Int)<9223372036854775807)(hl:cs.length<=274877906944):Calls prog 35 #[.pointer (some ⟨b,0,none⟩),.int .i64 ((k+1:Nat):Int)] w λ e w'=>∃q:Unit,e=.returned (.int .i64 (bK cs ((k+1:Nat):Int)))/\True/\SF w D [(b,aO L cs gen (up acc) pn cn pc cc)] [] [] (mW L cs pn cn pc cc) w':=by
 refine enter func35 ntmps35 rfl rfl (zJ hs) ?_;simp only[cC];refine K0q ?_;refine D1 ?_;refine aD (cM (hc:=λ w hs=>Mq hs ((k+1:Nat):Int))) (λ x14 h14=>?_);refine oG ?_;refine bD (λ c15=>?_) (λ c15=>?_)
 ·try (exfalso;omega)
  refine cU ?_;refine aS results35 (λ w hw=>?_);(exact⟨(),by rw[tF (by omega)];rfl,trivial,hw.bB⟩)
 ·try (exfalso;omega)
  refine J83 ?_;refine aA ?_;refine sV ?_;refine Qv ?_;refine J1 ?_;refine aS results35 (λ w hw=>?_);(exact⟨(),by rw[Ji (by omega)];rfl,trivial,hw.bB⟩)
theorem xy(hs:SF w D [(b,aO L cs gen acc pn cn pc cc)] A [] (mW L cs pn cn pc cc) w){k:Nat}(hk:(k:Int)<9223372036854775807)(bS new:Int)(hl:cs.length<=274877906944):Calls prog 279 #[.pointer (some ⟨b,0,none⟩),.int .i64 ((k+1:Nat):Int),.int .i64 bS,.int .i64 new] w λ e w'=>∃r:Bool,e=.returned (.bool r)/\(r=true↔iQ cs ((k+1:Nat):Int) bS)/\SF w D [(b,aO L (eL cs ((k+1:Nat):Int) bS new) gen (up acc) pn cn pc cc)] [] [] (mW L (eL cs ((k+1:Nat):Int) bS new) pn cn pc cc) w':=by
 refine enter func279 ntmps279 rfl rfl (zJ hs) ?_;simp only[cC];refine K0q ?_;refine D1 ?_;refine aD (cM (hc:=λ w hs=>Mq hs ((k+1:Nat):Int))) (λ x18 h18=>?_);refine Cr ?_;(refine eE 20 (λ g20=>?_) (λ g20=>?_)<;>refine Ka0 ?_);all_goals (refine Kb7 ?_;refine J6 ?_;refine J68 ?_;refine Kd4 ?_;refine Q3 ?_;refine aG ?_)
 all_goals
 refine bD (λ c31=>?_) (λ c31=>?_)
 ·all_goals try (exfalso;omega)
  all_goals refine cU ?_
  all_goals refine aS results279 (λ w hw=>?_);first|exact⟨false,rfl,j5 (by omega),by rw[Xf (by omega)];exact hw.bB⟩|exact⟨false,rfl,jv (by simpa using c31),by rw[Yz (by simpa using c31)];exact hw.bB⟩ 
 ·try exact nv c31
  all_goals (refine J83 ?_;refine aA ?_;refine sV ?_;refine aA ?_;refine fM ?_;refine J5 ?_;refine cU ?_)
  all_goals refine aS results279 (λ w hw=>?_);(exact⟨true,rfl,mb (by omega) (by simpa using c31),by rw[X7 (by omega) (by simpa using c31)];simpa[mW,aO,mO] using hw.bB (F':=[])⟩)
theorem y3(hs:SF w D [(b,aO L cs gen acc pn cn pc cc)] A [] (mW L cs pn cn pc cc) w)(c:Int)(hc:c<=9223372036854775807)(hl:cs.length<=274877906944):Calls prog 35 #[.pointer (some ⟨b,0,none⟩),.int .i64 c] w λ e w'=>∃q:Unit,e=.returned (.int .i64 (bK cs c))/\True/\SF w D [(b,aO L cs gen (up acc) pn cn pc cc)] [] [] (mW L cs pn cn pc cc) w':=by
 rcases Int.lt_or_le c 1 with h|h;·exact q7 hs c h
 ·obtain⟨k,rfl⟩:∃k:Nat,c=((k+1:Nat):Int):=⟨(c-1).toNat,by omega⟩;exact ql hs (by omega) hl
theorem aBE(hs:SF w D [(b,aO L cs gen acc pn cn pc cc)] A [] (mW L cs pn cn pc cc) w)(c bS new:Int)(hc:c<=9223372036854775807)(hl:cs.length<=274877906944):Calls prog 279 #[.pointer (some ⟨b,0,none⟩),.int .i64 c,.int .i64 bS,.int .i64 new] w λ e w'=>∃r:Bool,e=.returned (.bool r)/\(r=true↔iQ cs c bS)/\SF w D [(b,aO L (eL cs c bS new) gen (up acc) pn cn pc cc)] [] [] (mW L (eL cs c bS new) pn cn pc cc) w':=by
 rcases Int.lt_or_le c 1 with h|h;·exact y8 hs c bS new h
 ·obtain⟨k,rfl⟩:∃k:Nat,c=((k+1:Nat):Int):=⟨(c-1).toNat,by omega⟩;exact xy hs (by omega) bS new hl
end
end Go.Proofs.YtbajmaoegmbfgaaGreat
namespace Go.Ct
open Go Go.RowKit
section
structure Ac where
 k:Int
 c:Int
 o:Int
 n:Int
structure Rs where
 err:Int
 found:Bool
 val:Int
 key:ByteArray
 fQ:Int
 ref:Int
 root:Int
 ro:Bool
abbrev Ac.cells(a:Ac):List Value:=[.int .i64 a.k,.int .i64 a.c,.int .i64 a.o,.int .i64 a.n]
abbrev Rs.cells(r:Rs):List Value:=[.int .i64 r.err,.bool r.found,.int .u64 r.val,.string r.key,.int .i64 r.fQ,.int .i64 r.ref,.int .i64 r.root,.bool r.ro]
abbrev Rs.zero:Rs:=⟨0,false,0,⟨#[]⟩,0,0,0,false⟩
abbrev Ac.zero:Ac:=⟨0,0,0,0⟩
end
end Go.Ct
namespace Go.Proofs.YtbajmaoegmbfgaaGreat
open Go.Proofs.Tryz
open Go.RowKit Go.Ct
section
variable{xs ys:List Int}{a b:Option Addr}{ca cb:Nat}{w:World}
theorem En{α} [BEq α] [LawfulBEq α] {xs ys:List α}{k:Nat}(h:xs.length=ys.length)(hk:¬k<xs.length)(ht:xs.take k=ys.take k):(xs==ys)=true:=by rw[List.take_of_length_le (by omega),List.take_of_length_le (by omega)] at ht;simp[ht]
theorem Hf{α} [BEq α] [LawfulBEq α] {xs ys:List α}(h:xs.length≠ys.length):(xs==ys)=false:=by simp only[beq_eq_false_iff_ne,ne_eq];intro e;rw[e] at h;exact h rfl
theorem Ip{α} [BEq α] [LawfulBEq α] {xs ys:List α}{k:Nat}{d:α}(h:xs.getD k d≠ys.getD k d):(xs==ys)=false:=by simp only[beq_eq_false_iff_ne,ne_eq];intro e;rw[e] at h;exact h rfl
theorem Eg{α} [DecidableEq α] {xs ys:List α}{k:Nat}(h:xs.length=ys.length)(hk:¬k<xs.length)(ht:xs.take k=ys.take k):decide (xs=ys)=true:=by rw[List.take_of_length_le (by omega),List.take_of_length_le (by omega)] at ht;simp[ht]
theorem Ib{α} [DecidableEq α] {xs ys:List α}(h:xs.length≠ys.length):decide (xs=ys)=false:=decide_eq_false λ e=>h (by rw[e])
theorem Gz{α} [DecidableEq α] {xs ys:List α}{k:Nat}{d:α}(h:xs.getD k d≠ys.getD k d):decide (xs=ys)=false:=decide_eq_false λ e=>h (by rw[e])
theorem yF{α}{xs ys:List α}{k:Nat}{d:α}(h:xs.take k=ys.take k)(hk:k<xs.length)(hl:xs.length=ys.length)(he:xs.getD k d=ys.getD k d):xs.take (k+1)=ys.take (k+1):=by rw[List.take_add_one,List.take_add_one,h,List.getElem?_eq_getElem hk,List.getElem?_eq_getElem (hl▸hk)];simp only[List.getD,List.getElem?_eq_getElem hk,List.getElem?_eq_getElem (hl▸hk:k<ys.length),Option.getD_some] at he;rw[he]
theorem l9(ha:Cl w a (aH xs))(hb:Cl w b (aH ys))(hx:xs.length<4611686018427387904) :
  Calls prog 112 #[.slice a xs.length ca,.slice b ys.length cb] w λ e w'=>e=.returned (.bool (xs==ys))/\St w [] [] w':=by
 refine enter func112 ntmps112 rfl rfl (SF.s2 ha hb) ?_;simp only[cC];refine K2c ?_;refine bD (λ c10=>?_) (λ c10=>?_);·refine cU ?_;refine aS results112 (λ w hw=>?_);exact⟨by rw[Hf (by omega)];rfl,hw.done⟩
 ·refine lB ?_;refine Fq ?_;refine gF [4,5,11,12,13,14,15,16,17,18,19,20,21,22,23,24,25] (λ k=>[(5,.int .i64 ((k:Nat):Int))]) (λ k=>k<=xs.length/\xs.take k=ys.take k) (λ k=>xs.length-k) (0) (⟨Nat.zero_le _,by simp⟩) ?_ (λ k f hx=>?_);·repeat (first|exact bF _|refine aX (by exact rfl) ?_)
  refine K0a ?_;refine K1w ?_;refine bD (λ c14=>?_) (λ c14=>?_)
  ·refine rT ?_;refine aT ?_;refine K1k ?_;refine oy ?_;refine eN ?_;refine bD (λ c25=>?_) (λ c25=>?_);·refine cU ?_;refine aS results112 (λ w hw=>?_);exact⟨by rw[Ip c25];rfl,hw.done⟩
   ·refine Kc3 ?_;refine eG (k+1) ?_ ?_ ?_;·omega
    ·repeat' (first|exact bF _|refine aX ?_ ?_)
     exact rfl
    ·exact⟨by omega,yF hx.2 (by omega) (by omega) c25⟩
  ·refine K2q ?_;refine aS results112 (λ w hw=>?_);exact⟨by rw[En (k:=k) (by omega) (by omega) hx.2];rfl,hw.done⟩
theorem aCL{xs ys:List Pr}(ha:Cl w a (dF xs))(hb:Cl w b (dF ys))(hx:xs.length<4611686018427387904) :
  Calls prog 155 #[.slice a xs.length ca,.slice b ys.length cb] w λ e w'=>e=.returned (.bool (decide (xs=ys)))/\St w [] [] w':=by
 refine enter func155 ntmps155 rfl rfl (SF.s2 ha hb) ?_;simp only[cC];refine K2c ?_;refine bD (λ c10=>?_) (λ c10=>?_);·refine cU ?_;refine aS results155 (λ w hw=>?_);exact⟨by rw[Ib (by omega)];rfl,hw.done⟩
 ·refine lB ?_;refine Fq ?_;refine gF [4,5,11,12,13,14,15,16,17,18,19,20,21,22,23,24,25] (λ k=>[(5,.int .i64 ((k:Nat):Int))]) (λ k=>k<=xs.length/\xs.take k=ys.take k) (λ k=>xs.length-k) (0) (⟨Nat.zero_le _,by simp⟩) ?_ (λ k f hx=>?_);·repeat (first|exact bF _|refine aX (by exact rfl) ?_)
  refine K0a ?_;refine K1w ?_;refine bD (λ c14=>?_) (λ c14=>?_)
  ·refine rT ?_;refine aT ?_;refine K1k ?_;refine Yi ?_;refine eN ?_;refine bD (λ c25=>?_) (λ c25=>?_);·refine cU ?_;refine aS results155 (λ w hw=>?_);exact⟨by rw[Gz λ h=>c25 ⟨congrArg Prod.fst h,congrArg Prod.snd h⟩];rfl,hw.done⟩
   ·refine Kc3 ?_;refine eG (k+1) ?_ ?_ ?_;·omega
    ·repeat' (first|exact bF _|refine aX ?_ ?_)
     exact rfl
    ·exact⟨by omega,yF hx.2 (by omega) (by omega) (Prod.ext c25.1 c25.2)⟩
  ·refine K2q ?_;refine aS results155 (λ w hw=>?_);exact⟨by rw[Eg (k:=k) (by omega) (by omega) hx.2];rfl,hw.done⟩
theorem ua(ha:Cl w a (aH xs))(hb:Cl w b (aH ys))(hx:xs.length<4611686018427387904) :
  Calls prog 236 #[.slice a xs.length ca,.slice b ys.length cb] w λ e w'=>e=.returned (.bool (xs==ys))/\St w [] [] w':=by
 refine enter func236 ntmps236 rfl rfl (SF.s2 ha hb) ?_;simp only[cC];refine K2c ?_;refine bD (λ c10=>?_) (λ c10=>?_);·refine cU ?_;refine aS results236 (λ w hw=>?_);exact⟨by rw[Hf (by omega)];rfl,hw.done⟩
 ·refine lB ?_;refine J2 ?_;refine dV ?_;refine Kd5 ?_;refine gF [4,5,13,14,15,16,17,18,19,20,21,22,23,24,25] (λ k=>[(13,.int .i64 ((k:Nat):Int))]) (λ k=>k<=xs.length/\xs.take k=ys.take k) (λ k=>xs.length-k) (0) (⟨Nat.zero_le _,by simp⟩) ?_ (λ k f hx=>?_);·repeat (first|exact bF _|refine aX (by exact rfl) ?_)
  refine K0a ?_;refine Kd7 ?_;refine bD (λ c14=>?_) (λ c14=>?_)
  ·refine rT ?_;refine J2 ?_;refine jG ?_;refine K1k ?_;refine oy ?_;refine eN ?_;refine bD (λ c24=>?_) (λ c24=>?_);·refine cU ?_;refine aS results236 (λ w hw=>?_);exact⟨by rw[Ip c24];rfl,hw.done⟩
   ·refine pE ?_;refine Kc7 ?_;refine eG (k+1) ?_ ?_ ?_;·omega
    ·repeat' (first|exact bF _|refine aX ?_ ?_)
     exact rfl
    ·exact⟨by omega,yF hx.2 (by omega) (by omega) c24⟩
  ·refine K2q ?_;refine aS results236 (λ w hw=>?_);exact⟨by rw[En (k:=k) (by omega) (by omega) hx.2];rfl,hw.done⟩
theorem aAS{xs ys:List Pr}(ha:Cl w a (dF xs))(hb:Cl w b (dF ys))(hx:xs.length<4611686018427387904) :
  Calls prog 237 #[.slice a xs.length ca,.slice b ys.length cb] w λ e w'=>e=.returned (.bool (decide (xs=ys)))/\St w [] [] w':=by
 refine enter func237 ntmps237 rfl rfl (SF.s2 ha hb) ?_;simp only[cC];refine K2c ?_;refine bD (λ c10=>?_) (λ c10=>?_);·refine cU ?_;refine aS results237 (λ w hw=>?_);exact⟨by rw[Ib (by omega)];rfl,hw.done⟩
 ·refine lB ?_;refine J2 ?_;refine dV ?_;refine Kd5 ?_;refine gF [4,5,13,14,15,16,17,18,19,20,21,22,23,24,25] (λ k=>[(13,.int .i64 ((k:Nat):Int))]) (λ k=>k<=xs.length/\xs.take k=ys.take k) (λ k=>xs.length-k) (0) (⟨Nat.zero_le _,by simp⟩) ?_ (λ k f hx=>?_);·repeat (first|exact bF _|refine aX (by exact rfl) ?_)
  refine K0a ?_;refine Kd7 ?_;refine bD (λ c14=>?_) (λ c14=>?_)
  ·refine rT ?_;refine J2 ?_;refine jG ?_;refine K1k ?_;refine Yi ?_;refine eN ?_;refine bD (λ c24=>?_) (λ c24=>?_);·refine cU ?_;refine aS results237 (λ w hw=>?_);exact⟨by rw[Gz λ h=>c24 ⟨congrArg Prod.fst h,congrArg Prod.snd h⟩];rfl,hw.done⟩
   ·refine pE ?_;refine Kc7 ?_;refine eG (k+1) ?_ ?_ ?_;·omega
    ·repeat' (first|exact bF _|refine aX ?_ ?_)
     exact rfl
    ·exact⟨by omega,yF hx.2 (by omega) (by omega) (Prod.ext c24.1 c24.2)⟩
  ·refine K2q ?_;refine aS results237 (λ w hw=>?_);exact⟨by rw[Eg (k:=k) (by omega) (by omega) hx.2];rfl,hw.done⟩
end
end Go.Proofs.YtbajmaoegmbfgaaGreat
