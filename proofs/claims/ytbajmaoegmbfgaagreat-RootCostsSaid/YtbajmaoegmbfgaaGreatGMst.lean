/- The engine, part 12: a callee that may change several of its caller's blocks and own lists. -/
import Derived.Test.YtbajmaoegmbfgaaGreatJoin
import Derived.Test.YtbajmaoegmbfgaaGreatGLst3
import Derived.Test.YtbajmaoegmbfgaaGreatGBits
import Derived.Test.YtbajmaoegmbfgaaGreatGBr

set_option linter.unusedSimpArgs false
set_option linter.unusedVariables false
namespace Go.Ct
section
open Go Go.RowKit
section
variable{α:Type}
inductive zK:List α->Nat->α->Prop where
 | head {a:α} {l:List α}:zK (a::l) 0 a
 | tail {a b:α} {l:List α} {i:Nat}:zK l i b->zK (a::l) (i+1) b
def qW:List α->Nat->List α
 | [],_=>[]
 | _::r,0=>r
 | p::r,i+1=>p::qW r i
def rD:List α->Nat->α->List α
 | l,0,a=>a::l
 | p::r,i+1,a=>p::rD r i a
 | [],_+1,a=>[a]
inductive mC:List α->List Nat->List α->List α->Prop where
 | nil {l:List α}:mC l [] [] l
 | cons {l es r:List α} {i:Nat} {a:α} {js:List Nat}:zK l i a->mC (qW l i) js es r->mC l (i::js) (a::es) r
def iX:List Nat->List α->List α->List α
 | i::js,a::es,r=>rD (iX js es r) i a
 | _,_,r=>r
theorem zK.perm{l:List α}{i:Nat}{a:α}(h:zK l i a):l.Perm (a::qW l i):=by
 induction h with
 | head=>exact List.Perm.refl _
 | tail _ ih=>exact(ih.cons _).trans (List.Perm.swap _ _ _)
theorem Kv(a:α):∀(l:List α) (i:Nat),(rD l i a).Perm (a::l)
 | l,0=>by cases l<;>exact List.Perm.refl _
 | [],_+1=>List.Perm.refl _
 | p::r,i+1=>((Kv a r i).cons p).trans (List.Perm.swap _ _ _)
theorem mC.perm{l es r:List α}{js:List Nat}(h:mC l js es r):l.Perm (es++r):=by
 induction h with
 | nil=>exact List.Perm.refl _
 | cons h _ ih=>exact h.perm.trans (ih.cons _)
theorem Cj:∀(js:List Nat) (es r:List α),js.length=es.length->(iX js es r).Perm (es++r)
 | [],[],_,_=>List.Perm.refl _
 | i::js,a::es,r,h=>(Kv a _ i).trans ((Cj js es r (by simpa using h)).cons a)
 | [],_::_,_,h=>by simp at h
 | _::_,[],_,h=>by simp at h
end
section
variable{P:Program}{S:List (Nat×Value)}{w0 w w':World}{M:List Nat}{H H' hs:List (Nat×Obj)}{A F:Fr}{O O' os:List Ow}{is js:List Nat}
def Has(A F:Fr)(O:List Ow)(f:Option Addr×List Value):Prop:=f.2=[]∨f∈A∨f∈F∨∃o∈O,o.p=f.1/\o.cs=f.2
inductive bB(A F:Fr)(O:List Ow):Fr->Prop where
 | nil:bB A F O []
 | cons {f:Option Addr×List Value} {r:Fr} (h:Has A F O f) (hr:bB A F O r):bB A F O (f::r)
 | of {A0:Fr} (h:∀f∈A0,Has A F O f):bB A F O A0
theorem bB.get{A0:Fr}(h:bB A F O A0):∀f∈A0,Has A F O f:=by
 induction h with
 | nil=>intro f hf;exact(List.not_mem_nil hf).elim
 | cons h _ ih =>
  intro f hf
  rcases List.mem_cons.1 hf with rfl|hf
  ·exact h
  ·exact ih f hf
 | of h=>exact h
theorem Bt.tH{a:Option Addr}{cs:List Value}:∀{F:Fr},(a,cs)∈F->Bt F a cs
 | [],h=>(List.not_mem_nil h).elim
 | (b,d)::F,h=>by
  rcases List.mem_cons.1 h with h|h
  ·cases h;exact .head
  ·exact .tail (Bt.tH h)
theorem aV.iM{F:Fr}:∀{F':Fr},(∀f∈F',f∈F)->aV F F'
 | [],_=>.nil
 | (a,cs)::F',h=>.cons (Bt.tH (h _ (List.mem_cons_self ..))) (aV.iM λ f hf=>h f (List.mem_cons_of_mem _ hf))
theorem SF.clH(h:SF w0 M H A F O w){f:Option Addr×List Value}(hf:Has A F O f):Cl w f.1 f.2:=by
 rcases hf with h0|h1|h1|⟨o,ho,h1,h2⟩
 ·rw[h0];exact Cl.nil _ _
 ·exact(h.bA f h1).1
 ·exact(h.new f h1).1
 ·rw[<- h1,<- h2];exact(h.own o ho).1.cl
theorem SF.Hi{w0 w:World}{M:List Nat}{H:List (Nat×Obj)}{A F:Fr}{O:List Ow}(h:SF w0 M H A F O w){L:List aP}{cs:List Int}{pn pc:Option Addr}(h1:Has A F O (pn,iO L))(h2:Has A F O (pc,aH cs))(h3:∀f∈aL L,Has A F O f)(hf:Fits L):qV w L cs pn pc :=
 ⟨h.clH h1,h.clH h2,λ f hm=>h.clH (h3 f hm),hf⟩
theorem SF.qA(h:SF w0 M H A F O w)(hH:mC H is hs H')(hO:mC O js os O'){A0:Fr}(hA:bB A F O' A0):SF w (Ks hs os) hs A0 [] os w:=by
 have pH:=hH.perm
 have pO:=hO.perm
 have h1:=h.perm pH.symm pO.symm
 have hnd:=(Wn pH.symm pO.symm).nodup_iff.2 h.dis
 have sub:(Ks hs os).Sublist (Ks (hs++H') (os++O')):=by
  unfold Ks
  rw[List.map_append,List.flatMap_append]
  exact(List.sublist_append_left _ _).append (List.sublist_append_left _ _)
 have nd1:(Ks hs os).Nodup:=hnd.sublist sub
 have kperm:(Ks (hs++H') (os++O')).Perm (Ks hs os++Ks H' O'):=by
  unfold Ks
  rw[List.map_append,List.flatMap_append]
  simp only[List.append_assoc]
  refine List.Perm.append_left _ ?_
  rw[<- List.append_assoc,<- List.append_assoc]
  exact List.Perm.append_right _ List.perm_append_comm
 have disj:∀b∈Ks hs os,b∉Ks H' O':=λ b hb hm=>(List.nodup_append.1 (kperm.nodup_iff.1 hnd)).2.2 b hb b hm rfl
 refine⟨⟨rfl,rfl,rfl,Nat.le_refl _,λ _ _ _=>rfl,λ p hp=>h1.st.has p (List.mem_append_left _ hp),λ p hp=>.inl (eH.2 (.inl ⟨p,hp,rfl⟩)),(List.nodup_append.1 nd1).1⟩,λ f hf=>?_,λ _ h=>(List.not_mem_nil h).elim,λ o ho=>⟨(h1.own o (List.mem_append_left _ ho)).1,λ b hb=>.inr (eH.2 (.inr ⟨o,ho,hb⟩))⟩,nd1⟩
 have hg:=hA.get f hf
 refine⟨?_,λ hc hm=>?_⟩
 ·rcases hg with h0|h2|h2|⟨o,ho,h2,h3⟩
  ·rw[h0];exact Cl.nil _ _
  ·exact(h.bA f h2).1
  ·exact(h.new f h2).1
  ·rw[<- h2,<- h3];exact(h1.own o (List.mem_append_right _ ho)).1.cl
 ·rcases hg with h0|h2|h2|⟨o,ho,h2,h3⟩
  ·exact hc h0
  ·exact(h1.bA f h2).2 hc (sub.subset hm)
  ·exact((h1.new f h2).2 hc).1 (sub.subset hm)
  ·have hok:=(h1.own o (List.mem_append_right _ ho)).1
   have hb:=hok.Ry (by rw[h3];exact hc)
   exact disj _ hm (eH.2 (.inr ⟨o,ho,by rw[hb,h2];exact List.mem_singleton.2 rfl⟩))
theorem SF.xK(h:SF w0 M H A F O w)(hH:mC H is hs H')(hO:mC O js os O'){hs' Hc:List (Nat×Obj)}{os' Oc:List Ow}{Fc:Fr}
  (hc:SF w (Ks hs os) (hs'++Hc) [] Fc (os'++Oc) w') (h1:is.length=hs'.length) (h2:js.length=os'.length) :
  SF w0 M (Hc++iX is hs' H') A (Fc++F) (Oc++iX js os' O') w':=by
 have pH:=hH.perm
 have pO:=hO.perm
 have hp:=h.perm pH.symm pO.symm
 have qH:=Cj is hs' H' h1
 have qO:=Cj js os' O' h2
 have kperm:∀(a c:List (Nat×Obj)) (b d:List Ow),(Ks (a++c) (b++d)).Perm (Ks a b++Ks c d):=λ a c b d=>by
  unfold Ks
  rw[List.map_append,List.flatMap_append]
  simp only[List.append_assoc]
  refine List.Perm.append_left _ ?_
  rw[<- List.append_assoc,<- List.append_assoc]
  exact List.Perm.append_right _ List.perm_append_comm
 have nd0:=(kperm hs H' os O').nodup_iff.1 hp.dis
 have disj:∀b∈Ks hs os,b∉Ks H' O':=λ b hb hm=>(List.nodup_append.1 nd0).2.2 b hb b hm rfl
 have sub:∀b∈Ks hs' os',b∈Ks (hs'++Hc) (os'++Oc):=λ b hb=>(kperm hs' Hc os' Oc).mem_iff.2 (List.mem_append_left _ hb)
 have nd1:(Ks (hs'++H') (os'++O')).Nodup:=by
  rw[(kperm hs' H' os' O').nodup_iff]
  refine List.nodup_append.2 ⟨(List.nodup_append.1 ((kperm hs' Hc os' Oc).nodup_iff.1 hc.dis)).1,(List.nodup_append.1 nd0).2.1,λ a ha b hb e=>?_⟩
  subst e
  rcases hc.To a (sub a ha) with h3|h3
  ·have:=hp.lt a ((kperm hs H' os O').mem_iff.2 (List.mem_append_right _ hb))
   omega
  ·exact disj a h3 hb
 have r:=hp.li (D:=Ks hs os) (Hm:=hs') (Hc:=Hc) (H1:=hs'++H') (Fc:=Fc) (Om:=os') (Oc:=Oc) (O1:=os'++O') hc (λ b hb=>(kperm hs H' os O').mem_iff.2 (List.mem_append_left _ hb))
  (λ p hpm=>by
   rcases List.mem_append.1 hpm with h3|h3
   ·exact .inl h3
   ·exact .inr ⟨List.mem_append_right _ h3,λ hm=>disj _ hm (eH.2 (.inl ⟨p,h3,rfl⟩))⟩)
  (λ o ho=>by
   rcases List.mem_append.1 ho with h3|h3
   ·exact .inl h3
   ·exact .inr ⟨List.mem_append_right _ h3,λ b hb hm=>disj _ hm (eH.2 (.inr ⟨o,h3,hb⟩))⟩)
  nd1
 exact r.perm (List.Perm.append_left _ qH) (List.Perm.append_left _ qO)
theorem SF.eY(h:SF w0 M H A F O w){F':Fr}(hF:∀f∈F',f.2=[]∨f∈F):SF w0 M H A F' O w:=⟨h.st,h.bA,λ f hf=>by
 rcases hF f hf with h0|h1
 ·exact⟨by rw[h0];exact Cl.nil _ _,λ hc=>absurd h0 hc⟩
 ·exact h.new f h1,h.own,h.dis⟩
theorem SF.ki{o1 o2:Ow}(h:SF w0 M H A F (o1::o2::O) w):SF w0 M H A F (o2::o1::O) w:=h.perm (List.Perm.refl _) (List.Perm.swap _ _ _)
theorem SF.xk(h:SF w0 M H A F O w)(T1:TypeId)(s1:Nat)(T2:TypeId)(s2:Nat):SF w0 M H A F (O++[⟨none,[],0,T1,s1⟩,⟨none,[],0,T2,s2⟩]) w:=((h.kU T2 s2).kU T1 s1).perm (List.Perm.refl _) List.perm_append_comm
theorem SF.toEnd{o1 o2:Ow}(h:SF w0 M H A F (o1::o2::O) w):SF w0 M H A F (O++[o1,o2]) w:=h.perm (List.Perm.refl _) List.perm_append_comm
theorem SF.u9{L:List aP}{v:aP}{F':Fr}(h:SF w0 M H A F O w)(h1:(v.nd.brA,aH v.xs)∈F)(h2:(v.nd.prA,cZ v.ys)∈F)(h3:∀f∈aL L,f∈F):SF w0 M H A (aL (L++[v])) O w:=h.eY λ f hf=>by
 rw[dE] at hf
 rcases List.mem_append.1 hf with hf|hf
 ·exact .inr (h3 f hf)
 ·simp only[aL,List.flatMap_cons,List.flatMap_nil,List.append_nil,aP.fr,List.mem_cons,List.not_mem_nil,or_false] at hf
  rcases hf with rfl|rfl
  ·exact .inr h1
  ·exact .inr h2
theorem aV.all{F:Fr}:aV F F:=aV.iM λ _ h=>h
end
end

/- Memories: the rule for calls that may change them. -/
end Go.Ct
namespace Go.Proofs.YtbajmaoegmbfgaaGreat
section
open Go Go.RowKit Go.Ct
abbrev mO(L:List aP)(cs:List Int)(gen acc:Int)(pn:Option Addr)(cn:Nat)(pc:Option Addr)(cc:Nat):Obj:=.cells ⟨[.slice pn L.length cn,.slice pc cs.length cc,.int .i64 gen,.int .i64 acc]⟩ 54 (0,0)
abbrev aO(L:List aP)(cs:List Int)(gen acc:Int)(pn:Option Addr)(cn:Nat)(pc:Option Addr)(cc:Nat):Obj:=.cells ⟨[.slice pn L.length cn,.slice pc cs.length cc,.int .i64 gen,.int .i64 acc]⟩ 139 (0,0)
abbrev mW(L:List aP)(cs:List Int)(pn:Option Addr)(cn:Nat)(pc:Option Addr)(cc:Nat):List Ow:=[⟨pn,iO L,cn,47,14⟩,⟨pc,aH cs,cc,37,1⟩]
theorem zD{w0 w:World}{D:List Nat}{b:Nat}{L:List aP}{cs:List Int}{gen acc:Int}{pn pc:Option Addr}{cn cc:Nat}{A F:Fr}(h:SF w0 D [(b,mO L cs gen acc pn cn pc cc)] A F (mW L cs pn cn pc cc) w) :
  SF w0 D [(b,.cells ⟨[.slice pn L.length cn,.slice pc cs.length cc,.int .i64 gen,.int .i64 acc]⟩ 54 (0,0))] A F [⟨pn,iO L,cn,47,14⟩,⟨pc,aH cs,cc,37,1⟩] w:=h
theorem wK{w0 w:World}{D:List Nat}{b:Nat}{L:List aP}{cs:List Int}{gen acc:Int}{pn pc:Option Addr}{cn cc:Nat}{A F:Fr}(h:SF w0 D [(b,aO L cs gen acc pn cn pc cc)] A F (mW L cs pn cn pc cc) w) :
  SF w0 D [(b,.cells ⟨[.slice pn L.length cn,.slice pc cs.length cc,.int .i64 gen,.int .i64 acc]⟩ 139 (0,0))] A F [⟨pn,iO L,cn,47,14⟩,⟨pc,aH cs,cc,37,1⟩] w:=h
variable{S:List (Nat×Value)}{w0 w:World}{M:List Nat}{H:List (Nat×Obj)}{A F:Fr}{O:List Ow}{ty:TypeId}{pos:String}{af:Array Edge}{gd:Option (Nat×Bool)}{X:Type}{V:X->Value}
theorem cM{φ:X->Prop}{hs H':List (Nat×Obj)}{os O':List Ow}{hs' H1:X->List (Nat×Obj)}{os' O1:X->List Ow}{Fc F1:X->Fr}{A0:Fr}{is js:List Nat}{f:FuncId}{xs:List Operand}{at_:Array TypeId}{vs:List Value}{dst:Option Nat}
  (ha:qZ S xs=vs:=by(repeat (first|exact cH _|(apply bV;focus ((conv=>{lhs;whnf});try exact rfl))));first|done|fail) (hp:plain Tryz.prog f=true:=by kernel_rfl)
  (hc:∀w,SF w (Ks hs os) hs A0 [] os w->Calls Tryz.prog f ⟨vs⟩ w λ e w'=>∃x,e=.returned (V x)/\φ x/\SF w (Ks hs os) (hs' x) [] (Fc x) (os' x) w')
  (hH:mC H is hs H':=by(repeat (first|exact mC.nil|(apply mC.cons;(focus ((repeat (first|exact zK.head|apply zK.tail));done));simp only[qW])));first|done|fail)
  (hO:mC O js os O':=by(repeat (first|exact mC.nil|(apply mC.cons;(focus ((repeat (first|exact zK.head|apply zK.tail));done));simp only[qW])));first|done|fail)
  (hA:bB A F O' A0:=by(repeat (first|exact bB.of (λ _ h=>Or.inr (Or.inl h))|exact bB.nil|(refine bB.cons (by first|exact Or.inl rfl|exact Or.inr (Or.inr (Or.inl (by simp)))|exact Or.inr (Or.inl (by simp))|exact Or.inr (Or.inr (Or.inr (by simp)))) ?_)));first|done|fail)
  (hl1:∀x,is.length=(hs' x).length:=by intro x;exact rfl) (hl2:∀x,js.length=(os' x).length:=by intro x;exact rfl)
  (hH1:∀x,iX is (hs' x) H'=H1 x:=by intro x;first|(simp only[iX,rD];exact rfl)|exact rfl) (hF1:∀x,Fc x++F=F1 x:=by intro x;first|(simp only[List.nil_append,List.cons_append];exact rfl)|exact rfl) (hO1:∀x,iX js (os' x) O'=O1 x:=by intro x;simp only[iX,rD,mW];exact rfl) :
  bG Tryz.prog S (SF w0 M H A F O) ⟨dst,.call {callee:=.value (.func f),args:=⟨xs⟩,argTypes:=at_},ty,pos,af,gd⟩ X V (λ x w=>φ x/\SF w0 M (H1 x) A (F1 x) (O1 x) w) :=
 iH (mG hp ha) λ w hw=>(hc w (hw.qA hH hO hA)).mono λ _ _ ⟨x,he,hx,hs⟩=>⟨x,he,hx,by
  have:=hw.xK (hs':=hs' x) (Hc:=[]) (os':=os' x) (Oc:=[]) hH hO (by simpa using hs) (hl1 x) (hl2 x)
  rw[<- hH1 x,<- hF1 x,<- hO1 x]
  simpa using this⟩
theorem cMO{φ:X->Prop}{hs H':List (Nat×Obj)}{os O':List Ow}{hs' H1:X->List (Nat×Obj)}{os' Oc O1:X->List Ow}{Fc F1:X->Fr}{A0:Fr}{is js:List Nat}{f:FuncId}{xs:List Operand}{at_:Array TypeId}{vs:List Value}{dst:Option Nat}
  (ha:qZ S xs=vs:=by(repeat (first|exact cH _|(apply bV;focus ((conv=>{lhs;whnf});try exact rfl))));first|done|fail) (hp:plain Tryz.prog f=true:=by kernel_rfl)
  (hc:∀w,SF w (Ks hs os) hs A0 [] os w->Calls Tryz.prog f ⟨vs⟩ w λ e w'=>∃x,e=.returned (V x)/\φ x/\SF w (Ks hs os) (hs' x) [] (Fc x) (os' x++Oc x) w')
  (hH:mC H is hs H':=by(repeat (first|exact mC.nil|(apply mC.cons;(focus ((repeat (first|exact zK.head|apply zK.tail));done));simp only[qW])));first|done|fail)
  (hO:mC O js os O':=by(repeat (first|exact mC.nil|(apply mC.cons;(focus ((repeat (first|exact zK.head|apply zK.tail));done));simp only[qW])));first|done|fail)
  (hA:bB A F O' A0:=by(repeat (first|exact bB.of (λ _ h=>Or.inr (Or.inl h))|exact bB.nil|(refine bB.cons (by first|exact Or.inl rfl|exact Or.inr (Or.inr (Or.inl (by simp)))|exact Or.inr (Or.inl (by simp))|exact Or.inr (Or.inr (Or.inr (by simp)))) ?_)));first|done|fail)
  (hl1:∀x,is.length=(hs' x).length:=by intro x;exact rfl) (hl2:∀x,js.length=(os' x).length:=by intro x;exact rfl)
  (hH1:∀x,iX is (hs' x) H'=H1 x:=by intro x;first|(simp only[iX,rD];exact rfl)|exact rfl) (hF1:∀x,Fc x++F=F1 x:=by intro x;first|(simp only[List.nil_append,List.cons_append];exact rfl)|exact rfl) (hO1:∀x,Oc x++iX js (os' x) O'=O1 x:=by intro x;simp only[iX,rD,mW,List.nil_append,List.cons_append];exact rfl) :
  bG Tryz.prog S (SF w0 M H A F O) ⟨dst,.call {callee:=.value (.func f),args:=⟨xs⟩,argTypes:=at_},ty,pos,af,gd⟩ X V (λ x w=>φ x/\SF w0 M (H1 x) A (F1 x) (O1 x) w) :=
 iH (mG hp ha) λ w hw=>(hc w (hw.qA hH hO hA)).mono λ _ _ ⟨x,he,hx,hs⟩=>⟨x,he,hx,by
  have:=hw.xK (hs':=hs' x) (Hc:=[]) (os':=os' x) (Oc:=Oc x) hH hO (by simpa using hs) (hl1 x) (hl2 x)
  rw[<- hH1 x,<- hF1 x,<- hO1 x]
  simpa using this⟩
end

/- The small methods of the two memories: cells, generations, loads, compare-and-swaps. -/
section
open Go.RowKit Go.Ct
variable{w:World}{D:List Nat}{b:Nat}{L:List aP}{cs:List Int}{gen acc:Int}{pn pc:Option Addr}{cn cc:Nat}{A:Fr}
theorem lJ(v:Int)(hs:SF w D [(b,mO L cs gen acc pn cn pc cc)] A [] (mW L cs pn cn pc cc) w)(hl:cs.length<=274877906944) :
  Calls Tryz.prog 114 #[.pointer (some ⟨b,0,none⟩),.int .i64 v] w λ e w'=>∃q:Option Addr×Nat,e=.returned (.int .i64 ((cs.length+1:Nat):Int))/\True /\
   SF w D [(b,mO L (cs++[v]) gen acc pn cn q.1 q.2)] [] [] (mW L (cs++[v]) pn cn q.1 q.2) w':=by
 refine enter Tryz.func114 Tryz.ntmps114 rfl rfl (zD hs) ?_
 simp only[cA]
 refine Kc8 ?_;refine Lg ?_;refine Kc9 ?_;refine fF (λ x12=>?_);(refine fE (λ x13=>?_);try (refine eN (λ h13=>?_)));refine Lg ?_;refine vF ?_;refine I1 ?_;refine R3 ?_;refine J1 ?_
 refine aQ Tryz.results114 (λ w hw=>?_)
 exact⟨x13,rfl,trivial,by simpa[mO,mW] using hw.aX (F':=[])⟩
theorem Ae(v:Int)(hs:SF w D [(b,aO L cs gen acc pn cn pc cc)] A [] (mW L cs pn cn pc cc) w)(hl:cs.length<=274877906944) :
  Calls Tryz.prog 79 #[.pointer (some ⟨b,0,none⟩),.int .i64 v] w λ e w'=>∃q:Option Addr×Nat,e=.returned (.int .i64 ((cs.length+1:Nat):Int))/\True /\
   SF w D [(b,aO L (cs++[v]) gen acc pn cn q.1 q.2)] [] [] (mW L (cs++[v]) pn cn q.1 q.2) w':=by
 refine enter Tryz.func79 Tryz.ntmps79 rfl rfl (wK hs) ?_
 simp only[cA]
 refine Kc8 ?_;refine dF ?_;refine Kc9 ?_;refine fF (λ x11=>?_);(refine fE (λ x12=>?_);try (refine eN (λ h12=>?_)));refine Np ?_;refine mA ?_;refine eA ?_;refine J1 ?_
 refine aQ Tryz.results79 (λ w hw=>?_)
 exact⟨x12,rfl,trivial,by simpa[aO,mW] using hw.aX (F':=[])⟩
end

/- The small methods of the two memories: generations, loads, compare-and-swaps. -/
end Go.Proofs.YtbajmaoegmbfgaaGreat
namespace Go.Ct
section
def bE(cs:List Int)(c:Int):Int:=if 1<=c/\c<=cs.length then cs.getD (c-1).toNat 0 else 0
def gP(cs:List Int)(c bA:Int):Prop:=1<=c/\c<=cs.length/\cs.getD (c-1).toNat 0=bA
def dL(cs:List Int)(c bA new:Int):List Int:=if 1<=c/\c<=cs.length/\cs.getD (c-1).toNat 0=bA then cs.set (c-1).toNat new else cs
def up(i:Int):Int:=Go.IntKind.i64.wrap (i+1)
theorem sL{cs:List Int}{c:Int}(h:¬(1<=c/\c<=cs.length)):bE cs c=0:=if_neg h
theorem Hz{cs:List Int}{k:Nat}(h:k<cs.length):bE cs ((k+1:Nat):Int)=cs.getD k 0:=by
 unfold bE
 rw[if_pos (by omega),show(((k+1:Nat):Int)-1).toNat=k by omega]
theorem Bh{cs:List Int}{c bA new:Int}(h:¬(1<=c/\c<=cs.length/\cs.getD (c-1).toNat 0=bA)):dL cs c bA new=cs:=if_neg h
theorem Ww{cs:List Int}{k:Nat}{bA new:Int}(h:k<cs.length)(ho:cs.getD k 0=bA):dL cs ((k+1:Nat):Int) bA new=cs.set k new:=by
 have e:(((k+1:Nat):Int)-1).toNat=k:=by omega
 unfold dL
 rw[e,if_pos ⟨by omega,by omega,ho⟩]
theorem ie{cs:List Int}{c bA:Int}(h:c<1):(false=true↔gP cs c bA):=⟨(λ h=>nomatch h),λ h2=>absurd h2.1 (by omega)⟩
theorem Wr{cs:List Int}{c bA new:Int}(h:c<1):dL cs c bA new=cs:=Bh (by omega)
theorem df{cs:List Int}{c bA:Int}(h:(cs.length:Int)<c):(false=true↔gP cs c bA):=⟨(λ h=>nomatch h),λ h2=>absurd h2.2.1 (by omega)⟩
theorem Wv{cs:List Int}{c bA new:Int}(h:(cs.length:Int)<c):dL cs c bA new=cs:=Bh (by omega)
theorem fy{cs:List Int}{k:Nat}{bA:Int}(h:cs.getD k 0≠bA):(false=true↔gP cs ((k+1:Nat):Int) bA):=⟨(λ h=>nomatch h),λ h2=>absurd (by have:=h2.2.2;rwa [show(((k+1:Nat):Int)-1).toNat=k by omega] at this) h⟩
theorem Wa{cs:List Int}{k:Nat}{bA new:Int}(h:cs.getD k 0≠bA):dL cs ((k+1:Nat):Int) bA new=cs:=Bh λ h2=>absurd (by have:=h2.2.2;rwa [show(((k+1:Nat):Int)-1).toNat=k by omega] at this) h
theorem cf{cs:List Int}{k:Nat}{bA:Int}(hk:k<cs.length)(h:cs.getD k 0=bA):(true=true↔gP cs ((k+1:Nat):Int) bA):=⟨λ _=>⟨by omega,by omega,by rw[show(((k+1:Nat):Int)-1).toNat=k by omega];exact h⟩,λ _=>rfl⟩
theorem gQ{cs:List Int}{c bA new:Int}:(dL cs c bA new).length=cs.length:=by unfold dL;split<;>simp
end
end Go.Ct
namespace Go.Proofs.YtbajmaoegmbfgaaGreat
section
open Go.RowKit Go.Ct
variable{w:World}{D:List Nat}{b:Nat}{L:List aP}{cs:List Int}{gen acc:Int}{pn pc:Option Addr}{cn cc:Nat}{A:Fr}
theorem C7(hs:SF w D [(b,mO L cs gen acc pn cn pc cc)] A [] (mW L cs pn cn pc cc) w):Calls Tryz.prog 100 #[.pointer (some ⟨b,0,none⟩)] w λ e w'=>∃q:Unit,e=.returned (.int .i64 (up gen))/\True/\SF w D [(b,mO L cs (up gen) acc pn cn pc cc)] [] [] (mW L cs pn cn pc cc) w':=by
 refine enter Tryz.func100 Tryz.ntmps100 rfl rfl (zD hs) ?_
 simp only[cA]
 refine cS ?_;refine I1 ?_;refine J3 ?_;refine aC (nG rf rf) rfl ?_;refine Lg ?_;refine vF ?_;refine I1 ?_;refine J3 ?_;refine J1 ?_
 refine aQ Tryz.results100 (λ w hw=>?_)
 exact⟨(),rfl,trivial,by simpa[mO,mW] using hw.aX (F':=[])⟩
theorem bk(hs:SF w D [(b,mO L cs gen acc pn cn pc cc)] A [] (mW L cs pn cn pc cc) w)(c:Int)(hc:c<1):Calls Tryz.prog 241 #[.pointer (some ⟨b,0,none⟩),.int .i64 c] w λ e w'=>∃q:Unit,e=.returned (.int .i64 (bE cs c))/\True/\SF w D [(b,mO L cs gen (up acc) pn cn pc cc)] [] [] (mW L cs pn cn pc cc) w':=by
 refine enter Tryz.func241 Tryz.ntmps241 rfl rfl (zD hs) ?_
 simp only[cA]
 refine cS ?_;refine mA ?_;refine aC (nG rf rf) rfl ?_;refine Np ?_;refine kR ?_;refine Bu ?_
 (refine dZ 14 (λ g14=>?_) (λ g14=>?_)<;>(try (exfalso;omega))<;>(refine aI ?_))
 refine xm ?_;refine Sb ?_;refine Ka8 ?_
 refine bD (λ c23=>?_) (λ c23=>?_)
 ·try (exfalso;omega)
  refine cS ?_
  refine aQ Tryz.results241 (λ w hw=>?_)
  (exact⟨(),by rw[sL (by omega)];rfl,trivial,hw.aX⟩)
 ·exact nv c23
theorem ux(hs:SF w D [(b,mO L cs gen acc pn cn pc cc)] A [] (mW L cs pn cn pc cc) w)(c:Int)(bA new:Int)(hc:c<1):Calls Tryz.prog 242 #[.pointer (some ⟨b,0,none⟩),.int .i64 c,.int .i64 bA,.int .i64 new] w λ e w'=>∃r:Bool,e=.returned (.bool r)/\(r=true↔gP cs c bA)/\SF w D [(b,mO L (dL cs c bA new) gen (up acc) pn cn pc cc)] [] [] (mW L (dL cs c bA new) pn cn pc cc) w':=by
 refine enter Tryz.func242 Tryz.ntmps242 rfl rfl (zD hs) ?_
 simp only[cA]
 refine cS ?_;refine mA ?_;refine aC (nG rf rf) rfl ?_;refine Np ?_;refine kR ?_;refine Bu ?_
 (refine dZ 18 (λ g18=>?_) (λ g18=>?_)<;>(try (exfalso;omega))<;>(refine aI ?_))
 refine xm ?_;refine Sb ?_;refine Ax ?_;refine aA ?_
 refine aI ?_
 refine J36 ?_;refine J6 ?_;refine J68 ?_;(refine aI ?_);refine dp ?_;refine Rx ?_;refine aG ?_
 refine bD (λ c40=>?_) (λ c40=>?_)
 ·try (exfalso;omega)
  refine cS ?_
  refine aQ Tryz.results242 (λ w hw=>?_)
  (exact⟨false,rfl,ie hc,by rw[Wr hc];exact hw.aX⟩)
 ·exact nv c40
theorem jm(hs:SF w D [(b,mO L cs gen acc pn cn pc cc)] A [] (mW L cs pn cn pc cc) w){k:Nat}(hk:(k:Int)<9223372036854775807)(hl:cs.length<=274877906944):Calls Tryz.prog 241 #[.pointer (some ⟨b,0,none⟩),.int .i64 ((k+1:Nat):Int)] w λ e w'=>∃q:Unit,e=.returned (.int .i64 (bE cs ((k+1:Nat):Int)))/\True/\SF w D [(b,mO L cs gen (up acc) pn cn pc cc)] [] [] (mW L cs pn cn pc cc) w':=by
 refine enter Tryz.func241 Tryz.ntmps241 rfl rfl (zD hs) ?_
 simp only[cA]
 refine cS ?_;refine mA ?_;refine aC (nG rf rf) rfl ?_;refine Np ?_;refine kR ?_;refine Bu ?_
 (refine Ka3 ?_)
 refine xm ?_;refine Sb ?_;refine Ka8 ?_
 refine bD (λ c23=>?_) (λ c23=>?_)
 ·try (exfalso;omega)
  refine cS ?_
  refine aQ Tryz.results241 (λ w hw=>?_)
  (exact⟨(),by rw[sL (by omega)];rfl,trivial,hw.aX⟩)
 ·try (exfalso;omega)
  refine aW ?_;refine I1 ?_;refine Kc9 ?_;refine rY ?_;refine Ru ?_;refine J1 ?_
  refine aQ Tryz.results241 (λ w hw=>?_)
  (exact⟨(),by rw[Hz (by omega)];rfl,trivial,hw.aX⟩)
theorem sf(hs:SF w D [(b,mO L cs gen acc pn cn pc cc)] A [] (mW L cs pn cn pc cc) w){k:Nat}(hk:(k:Int)<9223372036854775807)(bA new:Int)(hl:cs.length<=274877906944):Calls Tryz.prog 242 #[.pointer (some ⟨b,0,none⟩),.int .i64 ((k+1:Nat):Int),.int .i64 bA,.int .i64 new] w λ e w'=>∃r:Bool,e=.returned (.bool r)/\(r=true↔gP cs ((k+1:Nat):Int) bA)/\SF w D [(b,mO L (dL cs ((k+1:Nat):Int) bA new) gen (up acc) pn cn pc cc)] [] [] (mW L (dL cs ((k+1:Nat):Int) bA new) pn cn pc cc) w':=by
 refine enter Tryz.func242 Tryz.ntmps242 rfl rfl (zD hs) ?_
 simp only[cA]
 refine cS ?_;refine mA ?_;refine aC (nG rf rf) rfl ?_;refine Np ?_;refine kR ?_;refine Bu ?_
 (refine Ka3 ?_)
 refine xm ?_;refine Sb ?_;refine Ax ?_;refine aA ?_
 (refine dZ 28 (λ g28=>?_) (λ g28=>?_)<;>refine Ka0 ?_)
 all_goals (refine J36 ?_;refine J6 ?_;refine J68 ?_;(first|refine aI ?_|(refine aE ?_;refine gM ?_));refine dp ?_;refine Rx ?_;refine aG ?_)
 all_goals
 refine bD (λ c40=>?_) (λ c40=>?_)
 ·all_goals try (exfalso;omega)
  all_goals refine cS ?_
  all_goals
   refine aQ Tryz.results242 (λ w hw=>?_)
   first|exact⟨false,rfl,df (by omega),by rw[Wv (by omega)];exact hw.aX⟩|exact⟨false,rfl,fy (by simpa using c40),by rw[Wa (by simpa using c40)];exact hw.aX⟩ 
 ·try exact nv c40
  all_goals (refine aW ?_;refine I1 ?_;refine Kc9 ?_;refine rY ?_;refine aA ?_;refine gM ?_;refine J5 ?_;refine cS ?_)
  all_goals
   refine aQ Tryz.results242 (λ w hw=>?_)
   (exact⟨true,rfl,cf (by omega) (by simpa using c40),by rw[Ww (by omega) (by simpa using c40)];simpa[mW,aO,mO] using hw.aX (F':=[])⟩)
theorem r8(hs:SF w D [(b,mO L cs gen acc pn cn pc cc)] A [] (mW L cs pn cn pc cc) w)(c:Int)(hc:c<=9223372036854775807)(hl:cs.length<=274877906944):Calls Tryz.prog 241 #[.pointer (some ⟨b,0,none⟩),.int .i64 c] w λ e w'=>∃q:Unit,e=.returned (.int .i64 (bE cs c))/\True/\SF w D [(b,mO L cs gen (up acc) pn cn pc cc)] [] [] (mW L cs pn cn pc cc) w':=by
 rcases Int.lt_or_le c 1 with h|h
 ·exact bk hs c h
 ·obtain⟨k,rfl⟩:∃k:Nat,c=((k+1:Nat):Int):=⟨(c-1).toNat,by omega⟩
  exact jm hs (by omega) hl
theorem aAs(hs:SF w D [(b,mO L cs gen acc pn cn pc cc)] A [] (mW L cs pn cn pc cc) w)(c bA new:Int)(hc:c<=9223372036854775807)(hl:cs.length<=274877906944):Calls Tryz.prog 242 #[.pointer (some ⟨b,0,none⟩),.int .i64 c,.int .i64 bA,.int .i64 new] w λ e w'=>∃r:Bool,e=.returned (.bool r)/\(r=true↔gP cs c bA)/\SF w D [(b,mO L (dL cs c bA new) gen (up acc) pn cn pc cc)] [] [] (mW L (dL cs c bA new) pn cn pc cc) w':=by
 rcases Int.lt_or_le c 1 with h|h
 ·exact ux hs c bA new h
 ·obtain⟨k,rfl⟩:∃k:Nat,c=((k+1:Nat):Int):=⟨(c-1).toNat,by omega⟩
  exact sf hs (by omega) bA new hl
theorem Yj(hs:SF w D [(b,aO L cs gen acc pn cn pc cc)] A [] (mW L cs pn cn pc cc) w):Calls Tryz.prog 47 #[.pointer (some ⟨b,0,none⟩)] w λ e w'=>∃q:Unit,e=.returned (.int .i64 (up gen))/\True/\SF w D [(b,aO L cs (up gen) acc pn cn pc cc)] [] [] (mW L cs pn cn pc cc) w':=by
 refine enter Tryz.func47 Tryz.ntmps47 rfl rfl (wK hs) ?_
 simp only[cA]
 refine cS ?_;refine mA ?_;refine aC (nG rf rf) rfl ?_;refine Np ?_;refine mA ?_;refine J1 ?_
 refine aQ Tryz.results47 (λ w hw=>?_)
 exact⟨(),rfl,trivial,by simpa[aO,mW] using hw.aX (F':=[])⟩
theorem Mh(hs:SF w D [(b,aO L cs gen acc pn cn pc cc)] A [] (mW L cs pn cn pc cc) w)(c:Int):Calls Tryz.prog 85 #[.pointer (some ⟨b,0,none⟩),.int .i64 c] w λ e w'=>∃q:Unit,e=.returned (.bool (decide (1<=c/\c<=(cs.length:Int))))/\True/\SF w D [(b,aO L cs gen acc pn cn pc cc)] [] [] (mW L cs pn cn pc cc) w':=by
 refine enter Tryz.func85 Tryz.ntmps85 rfl rfl (wK hs) ?_
 simp only[cA]
 refine cS ?_;refine J2 ?_;refine oG ?_;refine aA ?_
 (refine dZ 7 (λ g7=>?_) (λ g7=>?_)<;>refine Ka0 ?_)
 all_goals (refine Ka0 ?_;refine Kb6 ?_;refine Sb ?_;(first|refine aI ?_|(refine aE ?_;refine zJ ?_));refine Kb9 ?_)
 all_goals
 refine aQ Tryz.results85 (λ w hw=>?_)
 first|exact⟨(),by rw[decide_eq_false (show ¬(1<=c/\c<=(cs.length:Int)) by omega)];first|rfl|(rw[decide_eq_false (by omega)];rfl),trivial,hw.aX⟩|exact⟨(),by rw[show decide (1<=c/\c<=(cs.length:Int))=decide (c<=(cs.length:Int)) by simp;omega];rfl,trivial,hw.aX⟩
theorem ei(hs:SF w D [(b,aO L cs gen acc pn cn pc cc)] A [] (mW L cs pn cn pc cc) w)(c:Int)(hc:c<1):Calls Tryz.prog 35 #[.pointer (some ⟨b,0,none⟩),.int .i64 c] w λ e w'=>∃q:Unit,e=.returned (.int .i64 (bE cs c))/\True/\SF w D [(b,aO L cs gen (up acc) pn cn pc cc)] [] [] (mW L cs pn cn pc cc) w':=by
 refine enter Tryz.func35 Tryz.ntmps35 rfl rfl (wK hs) ?_
 simp only[cA]
 refine cS ?_;refine mA ?_;refine aC (nG rf rf) rfl ?_;refine Np ?_;refine Db ?_;refine aD (cM (hc:=λ w hs=>Mh hs c)) (λ x14 h14=>?_);refine pE ?_
 refine bD (λ c15=>?_) (λ c15=>?_)
 ·try (exfalso;omega)
  refine cS ?_
  refine aQ Tryz.results35 (λ w hw=>?_)
  (exact⟨(),by rw[sL (by omega)];rfl,trivial,hw.aX⟩)
 ·try (exfalso;omega)
theorem ss(hs:SF w D [(b,aO L cs gen acc pn cn pc cc)] A [] (mW L cs pn cn pc cc) w)(c:Int)(bA new:Int)(hc:c<1):Calls Tryz.prog 279 #[.pointer (some ⟨b,0,none⟩),.int .i64 c,.int .i64 bA,.int .i64 new] w λ e w'=>∃r:Bool,e=.returned (.bool r)/\(r=true↔gP cs c bA)/\SF w D [(b,aO L (dL cs c bA new) gen (up acc) pn cn pc cc)] [] [] (mW L (dL cs c bA new) pn cn pc cc) w':=by
 refine enter Tryz.func279 Tryz.ntmps279 rfl rfl (wK hs) ?_
 simp only[cA]
 refine cS ?_;refine mA ?_;refine aC (nG rf rf) rfl ?_;refine Np ?_;refine Db ?_;refine aD (cM (hc:=λ w hs=>Mh hs c)) (λ x18 h18=>?_);refine Bq ?_
 (refine dZ 20 (λ g20=>?_) (λ g20=>?_)<;>(try (exfalso;omega))<;>(refine aI ?_))
 (refine aI ?_);refine J6 ?_;refine J68 ?_;(refine aI ?_);refine dp ?_;refine Rx ?_;refine aG ?_
 refine bD (λ c31=>?_) (λ c31=>?_)
 ·try (exfalso;omega)
  refine cS ?_
  refine aQ Tryz.results279 (λ w hw=>?_)
  (exact⟨false,rfl,ie hc,by rw[Wr hc];exact hw.aX⟩)
 ·exact nv c31
theorem Z0(hs:SF w D [(b,aO L cs gen acc pn cn pc cc)] A [] (mW L cs pn cn pc cc) w){k:Nat}(hk:(k:Int)<9223372036854775807)(hl:cs.length<=274877906944):Calls Tryz.prog 35 #[.pointer (some ⟨b,0,none⟩),.int .i64 ((k+1:Nat):Int)] w λ e w'=>∃q:Unit,e=.returned (.int .i64 (bE cs ((k+1:Nat):Int)))/\True/\SF w D [(b,aO L cs gen (up acc) pn cn pc cc)] [] [] (mW L cs pn cn pc cc) w':=by
 refine enter Tryz.func35 Tryz.ntmps35 rfl rfl (wK hs) ?_
 simp only[cA]
 refine cS ?_;refine mA ?_;refine aC (nG rf rf) rfl ?_;refine Np ?_;refine Db ?_;refine aD (cM (hc:=λ w hs=>Mh hs ((k+1:Nat):Int))) (λ x14 h14=>?_);refine pE ?_
 refine bD (λ c15=>?_) (λ c15=>?_)
 ·try (exfalso;omega)
  refine cS ?_
  refine aQ Tryz.results35 (λ w hw=>?_)
  (exact⟨(),by rw[sL (by omega)];rfl,trivial,hw.aX⟩)
 ·try (exfalso;omega)
  refine r7 ?_;refine aA ?_;refine rY ?_;refine Ru ?_;refine J1 ?_
  refine aQ Tryz.results35 (λ w hw=>?_)
  (exact⟨(),by rw[Hz (by omega)];rfl,trivial,hw.aX⟩)
theorem rz(hs:SF w D [(b,aO L cs gen acc pn cn pc cc)] A [] (mW L cs pn cn pc cc) w){k:Nat}(hk:(k:Int)<9223372036854775807)(bA new:Int)(hl:cs.length<=274877906944):Calls Tryz.prog 279 #[.pointer (some ⟨b,0,none⟩),.int .i64 ((k+1:Nat):Int),.int .i64 bA,.int .i64 new] w λ e w'=>∃r:Bool,e=.returned (.bool r)/\(r=true↔gP cs ((k+1:Nat):Int) bA)/\SF w D [(b,aO L (dL cs ((k+1:Nat):Int) bA new) gen (up acc) pn cn pc cc)] [] [] (mW L (dL cs ((k+1:Nat):Int) bA new) pn cn pc cc) w':=by
 refine enter Tryz.func279 Tryz.ntmps279 rfl rfl (wK hs) ?_
 simp only[cA]
 refine cS ?_;refine mA ?_;refine aC (nG rf rf) rfl ?_;refine Np ?_;refine Db ?_;refine aD (cM (hc:=λ w hs=>Mh hs ((k+1:Nat):Int))) (λ x18 h18=>?_);refine Bq ?_
 (refine dZ 20 (λ g20=>?_) (λ g20=>?_)<;>refine Ka0 ?_)
 all_goals (refine Kb6 ?_;refine J6 ?_;refine J68 ?_;(first|refine aI ?_|(refine aE ?_;refine gM ?_));refine dp ?_;refine Rx ?_;refine aG ?_)
 all_goals
 refine bD (λ c31=>?_) (λ c31=>?_)
 ·all_goals try (exfalso;omega)
  all_goals refine cS ?_
  all_goals
   refine aQ Tryz.results279 (λ w hw=>?_)
   first|exact⟨false,rfl,df (by omega),by rw[Wv (by omega)];exact hw.aX⟩|exact⟨false,rfl,fy (by simpa using c31),by rw[Wa (by simpa using c31)];exact hw.aX⟩ 
 ·try exact nv c31
  all_goals (refine r7 ?_;refine aA ?_;refine rY ?_;refine aA ?_;refine gM ?_;refine J5 ?_;refine cS ?_)
  all_goals
   refine aQ Tryz.results279 (λ w hw=>?_)
   (exact⟨true,rfl,cf (by omega) (by simpa using c31),by rw[Ww (by omega) (by simpa using c31)];simpa[mW,aO,mO] using hw.aX (F':=[])⟩)
theorem Nj(hs:SF w D [(b,aO L cs gen acc pn cn pc cc)] A [] (mW L cs pn cn pc cc) w)(c:Int)(hc:c<=9223372036854775807)(hl:cs.length<=274877906944):Calls Tryz.prog 35 #[.pointer (some ⟨b,0,none⟩),.int .i64 c] w λ e w'=>∃q:Unit,e=.returned (.int .i64 (bE cs c))/\True/\SF w D [(b,aO L cs gen (up acc) pn cn pc cc)] [] [] (mW L cs pn cn pc cc) w':=by
 rcases Int.lt_or_le c 1 with h|h
 ·exact ei hs c h
 ·obtain⟨k,rfl⟩:∃k:Nat,c=((k+1:Nat):Int):=⟨(c-1).toNat,by omega⟩
  exact Z0 hs (by omega) hl
theorem aAx(hs:SF w D [(b,aO L cs gen acc pn cn pc cc)] A [] (mW L cs pn cn pc cc) w)(c bA new:Int)(hc:c<=9223372036854775807)(hl:cs.length<=274877906944):Calls Tryz.prog 279 #[.pointer (some ⟨b,0,none⟩),.int .i64 c,.int .i64 bA,.int .i64 new] w λ e w'=>∃r:Bool,e=.returned (.bool r)/\(r=true↔gP cs c bA)/\SF w D [(b,aO L (dL cs c bA new) gen (up acc) pn cn pc cc)] [] [] (mW L (dL cs c bA new) pn cn pc cc) w':=by
 rcases Int.lt_or_le c 1 with h|h
 ·exact ss hs c bA new h
 ·obtain⟨k,rfl⟩:∃k:Nat,c=((k+1:Nat):Int):=⟨(c-1).toNat,by omega⟩
  exact rz hs (by omega) bA new hl
end

/- Accesses and results. -/
end Go.Proofs.YtbajmaoegmbfgaaGreat
namespace Go.Ct
section
open Go Go.RowKit
structure Ac where
 k:Int
 c:Int
 o:Int
 n:Int
structure Rs where
 err:Int
 found:Bool
 val:Int
 key:ByteArray
 gU:Int
 ref:Int
 root:Int
 ro:Bool
abbrev Ac.cells(a:Ac):List Value:=[.int .i64 a.k,.int .i64 a.c,.int .i64 a.o,.int .i64 a.n]
abbrev Rs.cells(r:Rs):List Value:=[.int .i64 r.err,.bool r.found,.int .u64 r.val,.string r.key,.int .i64 r.gU,.int .i64 r.ref,.int .i64 r.root,.bool r.ro]
abbrev Rs.zero:Rs:=⟨0,false,0,⟨#[]⟩,0,0,0,false⟩
abbrev Ac.zero:Ac:=⟨0,0,0,0⟩
end

/- Nodes of memories: New, Node, Alloc. -/
section
def fK:aP:=⟨{Nd.zero with kind:=1},[],[]⟩
def aB(L:List aP)(r:Int):aP:=if 1<=r/\r<=L.length then L.getD (r-1).toNat aP.zero else aP.zero
theorem qD{L:List aP}{r:Int}(h:¬(1<=r/\r<=L.length)):aB L r=aP.zero:=if_neg h
theorem rW{L:List aP}{k:Nat}(h:k<L.length):aB L ((k+1:Nat):Int)=L.getD k aP.zero:=by
 unfold aB
 rw[if_pos (by omega),show(((k+1:Nat):Int)-1).toNat=k by omega]
def cN(L:List aP):List aP:=fK::fK::L
theorem kA(L:List aP):(cN L).length=L.length+2:=rfl
theorem O7:fK.Fit:=⟨rfl,rfl,by decide,by decide⟩
theorem Fits.all{L:List aP}(h:Fits L):Fits (cN L):=λ v hv=>by
 simp only[cN,List.mem_cons] at hv
 rcases hv with rfl|rfl|hv
 ·exact O7
 ·exact O7
 ·exact h v hv
theorem Jg{L:List aP}(h:Fits L)(r:Int):(aB L r).Fit:=by
 unfold aB
 split
 ·rename_i hr
  exact h.at (by omega)
 ·exact P7
structure AX where
 pn:Option Addr
 cn:Nat
 pc:Option Addr
 cc:Nat
 b1:Option Addr
 c1:Nat
 b2:Option Addr
 c2:Nat
def fN(k:Int)(cs:List Int)(init:Int):List Int:=if k=2∨k=3∨k=5∨k=6∨k=8 then cs++[init] else cs
def jU(n:Nd)(xs:List Int)(ys:List Pr)(c:Nat)(x:AX):aP :=
 aP.mk {n with main:=if n.kind=2 then((c+1:Nat):Int) else 0,prev:=if n.kind=3∨n.kind=5∨n.kind=6 then((c+1:Nat):Int) else 0,status:=if n.kind=8 then((c+1:Nat):Int) else 0,brA:=x.b1,brN:=xs.length,brC:=x.c1,prA:=x.b2,prN:=ys.length,cZ:=x.c2} xs ys
theorem gN{k:Int}{cs:List Int}{init:Int}:cs.length<=(fN k cs init).length/\(fN k cs init).length<=cs.length+1:=by unfold fN;split<;>simp
theorem Gv{n:Nd}{xs:List Int}{ys:List Pr}{c:Nat}{x:AX}(h1:xs.length<=35184372088832)(h2:ys.length<=11728124029610):(jU n xs ys c x).Fit:=⟨rfl,rfl,h1,h2⟩
def aP.at_(v:aP)(p q:Option Addr):aP:=⟨{v.nd with brA:=p,brC:=v.xs.length,prA:=q,cZ:=v.ys.length},v.xs,v.ys⟩
theorem aP.ko{v:aP}(h:v.Fit)(p q:Option Addr):(v.at_ p q).Fit:=⟨h.brN,h.prN,h.brS,h.prS⟩
end
end Go.Ct
namespace Go.Proofs.YtbajmaoegmbfgaaGreat
section
open Go.RowKit Go.Ct
variable{w:World}{D:List Nat}{b:Nat}{L:List aP}{cs:List Int}{gen acc:Int}{pn pc:Option Addr}{cn cc:Nat}{A:Fr}
theorem nj(w:World):Calls Tryz.prog 64 #[] w λ e w'=>∃q:Nat×Option Addr,e=.returned (.pointer (some ⟨q.1,0,none⟩))/\True /\
  SF w [] [(q.1,mO [fK,fK] [] 0 0 q.2 2 none 0)] [] [] (mW [fK,fK] [] q.2 2 none 0) w':=by
 refine enter Tryz.func64 Tryz.ntmps64 rfl rfl (SF.s0 w) ?_
 simp only[cA]
 refine cS ?_;refine J0 ?_;refine bI ?_;refine bI ?_;refine aN (Sf (c:=2) (sz:=14) rfl (λ _=>cW rU Jo rfl rfl rfl rfl (by simp only[D2,nW,List.cons_append,List.nil_append];exact rfl))) (λ x3=>?_);refine bI ?_;refine bI ?_;refine bK (λ x6=>?_);refine J1 ?_
 refine aQ Tryz.results64 (λ w hw=>?_)
 exact⟨(x6,some ⟨x3,0,none⟩),rfl,trivial,(SF.ki (hw.kU 37 1)).aX⟩
theorem j8(hs:SF w D [(b,mO L cs gen acc pn cn pc cc)] A [] (mW L cs pn cn pc cc) w)(r:Int)(hr:r<1):Calls Tryz.prog 25 #[.pointer (some ⟨b,0,none⟩),.int .i64 r] w λ e w'=>∃q:Unit,e=.returned (aB L r).nd.v/\True /\
  SF w D [(b,mO L cs gen acc pn cn pc cc)] [] [] (mW L cs pn cn pc cc) w':=by
 refine enter Tryz.func25 Tryz.ntmps25 rfl rfl (zD hs) ?_
 simp only[cA]
 refine J0 ?_;refine aJ (λ x4=>?_);refine aG ?_;refine kR ?_;refine Bu ?_
 (refine dZ 7 (λ g7=>?_) (λ g7=>?_)<;>(try (exfalso;omega))<;>(refine aI ?_))
 refine xm ?_;refine Sb ?_;refine Ka8 ?_
 refine bD (λ c16=>?_) (λ c16=>?_)
 ·try (exfalso;omega)
  refine Kc0 ?_
  refine aY Tryz.results25 (λ w hw=>?_)
  exact⟨(),by rw[qD (by omega)];rfl,trivial,hw.aX⟩
 ·exact nv c16
theorem cy(hs:SF w D [(b,mO L cs gen acc pn cn pc cc)] A [] (mW L cs pn cn pc cc) w){k:Nat}(hk:(k:Int)<9223372036854775807)(hl:L.length<=274877906944):Calls Tryz.prog 25 #[.pointer (some ⟨b,0,none⟩),.int .i64 ((k+1:Nat):Int)] w λ e w'=>∃q:Unit,e=.returned (aB L ((k+1:Nat):Int)).nd.v/\True /\
  SF w D [(b,mO L cs gen acc pn cn pc cc)] [] [] (mW L cs pn cn pc cc) w':=by
 refine enter Tryz.func25 Tryz.ntmps25 rfl rfl (zD hs) ?_
 simp only[cA]
 refine J0 ?_;refine aJ (λ x4=>?_);refine aG ?_;refine kR ?_;refine Bu ?_
 (refine Ka3 ?_)
 refine xm ?_;refine Sb ?_;refine Ka8 ?_
 refine bD (λ c16=>?_) (λ c16=>?_)
 ·try (exfalso;omega)
  refine Kc0 ?_
  refine aY Tryz.results25 (λ w hw=>?_)
  (exact⟨(),by rw[qD (by omega)];rfl,trivial,hw.aX⟩)
 ·try (exfalso;omega)
  refine aW ?_;refine I1 ?_;refine Kc9 ?_;refine rY ?_;refine Ru ?_;refine J5 ?_
  refine aY Tryz.results25 (λ w hw=>?_)
  (exact⟨(),by rw[rW (by omega)];rfl,trivial,hw.aX⟩)
theorem pi(hs:SF w D [(b,mO L cs gen acc pn cn pc cc)] A [] (mW L cs pn cn pc cc) w)(r:Int)(hr:r<=9223372036854775807)(hl:L.length<=274877906944):Calls Tryz.prog 25 #[.pointer (some ⟨b,0,none⟩),.int .i64 r] w λ e w'=>∃q:Unit,e=.returned (aB L r).nd.v/\True /\
  SF w D [(b,mO L cs gen acc pn cn pc cc)] [] [] (mW L cs pn cn pc cc) w':=by
 rcases Int.lt_or_le r 1 with h|h
 ·exact j8 hs r h
 ·obtain⟨k,rfl⟩:∃k:Nat,r=((k+1:Nat):Int):=⟨(r-1).toNat,by omega⟩
  exact cy hs (by omega) hl
end

end Go.Proofs.YtbajmaoegmbfgaaGreat
