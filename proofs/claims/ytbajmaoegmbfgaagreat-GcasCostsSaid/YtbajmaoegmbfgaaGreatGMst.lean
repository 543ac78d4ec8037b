/- The engine, part 12: a callee that may change several of its caller's blocks and own lists. -/
import Derived.Test.YtbajmaoegmbfgaaGreatJoin
import Derived.Test.YtbajmaoegmbfgaaGreatGLst3
import Derived.Test.YtbajmaoegmbfgaaGreatGNode1
import Derived.Test.YtbajmaoegmbfgaaGreatGBr

set_option linter.unusedSimpArgs false
set_option linter.unusedVariables false
namespace Go.Ct
section
open Go Go.RowKit
section
variable{α:Type}
inductive A3:List α->Nat->α->Prop where
 | head {a:α} {l:List α}:A3 (a::l) 0 a
 | tail {a b:α} {l:List α} {i:Nat}:A3 l i b->A3 (a::l) (i+1) b
def rH:List α->Nat->List α
 | [],_=>[]
 | _::r,0=>r
 | p::r,i+1=>p::rH r i
def sR:List α->Nat->α->List α
 | l,0,a=>a::l
 | p::r,i+1,a=>p::sR r i a
 | [],_+1,a=>[a]
inductive nK:List α->List Nat->List α->List α->Prop where
 | nil {l:List α}:nK l [] [] l
 | cons {l es r:List α} {i:Nat} {a:α} {js:List Nat}:A3 l i a->nK (rH l i) js es r->nK l (i::js) (a::es) r
def jO:List Nat->List α->List α->List α
 | i::js,a::es,r=>sR (jO js es r) i a
 | _,_,r=>r
theorem A3.perm{l:List α}{i:Nat}{a:α}(h:A3 l i a):l.Perm (a::rH l i):=by
 induction h with
 | head=>exact List.Perm.refl _
 | tail _ ih=>exact(ih.cons _).trans (List.Perm.swap _ _ _)
theorem Ir(a:α):∀(l:List α) (i:Nat),(sR l i a).Perm (a::l)
 | l,0=>by cases l<;>exact List.Perm.refl _
 | [],_+1=>List.Perm.refl _
 | p::r,i+1=>((Ir a r i).cons p).trans (List.Perm.swap _ _ _)
theorem nK.perm{l es r:List α}{js:List Nat}(h:nK l js es r):l.Perm (es++r):=by
 induction h with
 | nil=>exact List.Perm.refl _
 | cons h _ ih=>exact h.perm.trans (ih.cons _)
theorem Bg:∀(js:List Nat) (es r:List α),js.length=es.length->(jO js es r).Perm (es++r)
 | [],[],_,_=>List.Perm.refl _
 | i::js,a::es,r,h=>(Ir a _ i).trans ((Bg js es r (by simpa using h)).cons a)
 | [],_::_,_,h=>by simp at h
 | _::_,[],_,h=>by simp at h
end
section
variable{P:Program}{S:List (Nat×Value)}{w0 w w':World}{M:List Nat}{H H' hs:List (Nat×Obj)}{A F:Fr}{O O' os:List Ow}{is js:List Nat}
def Has(A F:Fr)(O:List Ow)(f:Option Addr×List Value):Prop:=f.2=[]∨f∈A∨f∈F∨∃o∈O,o.p=f.1/\o.cs=f.2
inductive bE(A F:Fr)(O:List Ow):Fr->Prop where
 | nil:bE A F O []
 | cons {f:Option Addr×List Value} {r:Fr} (h:Has A F O f) (hr:bE A F O r):bE A F O (f::r)
 | of {A0:Fr} (h:∀f∈A0,Has A F O f):bE A F O A0
theorem bE.get{A0:Fr}(h:bE A F O A0):∀f∈A0,Has A F O f:=by
 induction h with
 | nil=>intro f hf;exact(List.not_mem_nil hf).elim
 | cons h _ ih =>
  intro f hf
  rcases List.mem_cons.1 hf with rfl|hf
  ·exact h
  ·exact ih f hf
 | of h=>exact h
theorem zF.oM{a:Option Addr}{cs:List Value}:∀{F:Fr},(a,cs)∈F->zF F a cs
 | [],h=>(List.not_mem_nil h).elim
 | (b,d)::F,h=>by
  rcases List.mem_cons.1 h with h|h
  ·cases h;exact .head
  ·exact .tail (zF.oM h)
theorem aW.iI{F:Fr}:∀{F':Fr},(∀f∈F',f∈F)->aW F F'
 | [],_=>.nil
 | (a,cs)::F',h=>.cons (zF.oM (h _ (List.mem_cons_self ..))) (aW.iI λ f hf=>h f (List.mem_cons_of_mem _ hf))
theorem SF.clH(h:SF w0 M H A F O w){f:Option Addr×List Value}(hf:Has A F O f):Cl w f.1 f.2:=by
 rcases hf with h0|h1|h1|⟨o,ho,h1,h2⟩
 ·rw[h0];exact Cl.nil _ _
 ·exact(h.bJ f h1).1
 ·exact(h.new f h1).1
 ·rw[<- h1,<- h2];exact(h.own o ho).1.cl
theorem SF.H6{w0 w:World}{M:List Nat}{H:List (Nat×Obj)}{A F:Fr}{O:List Ow}(h:SF w0 M H A F O w){L:List aP}{cs:List Int}{pn pc:Option Addr}(h1:Has A F O (pn,iY L))(h2:Has A F O (pc,aG cs))(h3:∀f∈aM L,Has A F O f)(hf:Fits L):qT w L cs pn pc :=
 ⟨h.clH h1,h.clH h2,λ f hm=>h.clH (h3 f hm),hf⟩
theorem SF.rY(h:SF w0 M H A F O w)(hH:nK H is hs H')(hO:nK O js os O'){A0:Fr}(hA:bE A F O' A0):SF w (Ks hs os) hs A0 [] os w:=by
 have pH:=hH.perm
 have pO:=hO.perm
 have h1:=h.perm pH.symm pO.symm
 have hnd:=(Uq pH.symm pO.symm).nodup_iff.2 h.dis
 have sub:(Ks hs os).Sublist (Ks (hs++H') (os++O')):=by
  unfold Ks
  rw[List.map_append,List.flatMap_append]
  exact(List.sublist_append_left _ _).append (List.sublist_append_left _ _)
 have nd1:(Ks hs os).Nodup:=hnd.sublist sub
 have kperm:(Ks (hs++H') (os++O')).Perm (Ks hs os++Ks H' O'):=by
  unfold Ks
  rw[List.map_append,List.flatMap_append]
  simp only[List.append_assoc]
  refine List.Perm.append_left _ ?_
  rw[<- List.append_assoc,<- List.append_assoc]
  exact List.Perm.append_right _ List.perm_append_comm
 have disj:∀b∈Ks hs os,b∉Ks H' O':=λ b hb hm=>(List.nodup_append.1 (kperm.nodup_iff.1 hnd)).2.2 b hb b hm rfl
 refine⟨⟨rfl,rfl,rfl,Nat.le_refl _,λ _ _ _=>rfl,λ p hp=>h1.st.has p (List.mem_append_left _ hp),λ p hp=>.inl (eD.2 (.inl ⟨p,hp,rfl⟩)),(List.nodup_append.1 nd1).1⟩,λ f hf=>?_,λ _ h=>(List.not_mem_nil h).elim,λ o ho=>⟨(h1.own o (List.mem_append_left _ ho)).1,λ b hb=>.inr (eD.2 (.inr ⟨o,ho,hb⟩))⟩,nd1⟩
 have hg:=hA.get f hf
 refine⟨?_,λ hc hm=>?_⟩
 ·rcases hg with h0|h2|h2|⟨o,ho,h2,h3⟩
  ·rw[h0];exact Cl.nil _ _
  ·exact(h.bJ f h2).1
  ·exact(h.new f h2).1
  ·rw[<- h2,<- h3];exact(h1.own o (List.mem_append_right _ ho)).1.cl
 ·rcases hg with h0|h2|h2|⟨o,ho,h2,h3⟩
  ·exact hc h0
  ·exact(h1.bJ f h2).2 hc (sub.subset hm)
  ·exact((h1.new f h2).2 hc).1 (sub.subset hm)
  ·have hok:=(h1.own o (List.mem_append_right _ ho)).1
   have hb:=hok.Qu (by rw[h3];exact hc)
   exact disj _ hm (eD.2 (.inr ⟨o,ho,by rw[hb,h2];exact List.mem_singleton.2 rfl⟩))
theorem SF.Ax(h:SF w0 M H A F O w)(hH:nK H is hs H')(hO:nK O js os O'){hs' Hc:List (Nat×Obj)}{os' Oc:List Ow}{Fc:Fr}
  (hc:SF w (Ks hs os) (hs'++Hc) [] Fc (os'++Oc) w') (h1:is.length=hs'.length) (h2:js.length=os'.length) :
  SF w0 M (Hc++jO is hs' H') A (Fc++F) (Oc++jO js os' O') w':=by
 have pH:=hH.perm
 have pO:=hO.perm
 have hp:=h.perm pH.symm pO.symm
 have qH:=Bg is hs' H' h1
 have qO:=Bg js os' O' h2
 have kperm:∀(a c:List (Nat×Obj)) (b d:List Ow),(Ks (a++c) (b++d)).Perm (Ks a b++Ks c d):=λ a c b d=>by
  unfold Ks
  rw[List.map_append,List.flatMap_append]
  simp only[List.append_assoc]
  refine List.Perm.append_left _ ?_
  rw[<- List.append_assoc,<- List.append_assoc]
  exact List.Perm.append_right _ List.perm_append_comm
 have nd0:=(kperm hs H' os O').nodup_iff.1 hp.dis
 have disj:∀b∈Ks hs os,b∉Ks H' O':=λ b hb hm=>(List.nodup_append.1 nd0).2.2 b hb b hm rfl
 have sub:∀b∈Ks hs' os',b∈Ks (hs'++Hc) (os'++Oc):=λ b hb=>(kperm hs' Hc os' Oc).mem_iff.2 (List.mem_append_left _ hb)
 have nd1:(Ks (hs'++H') (os'++O')).Nodup:=by
  rw[(kperm hs' H' os' O').nodup_iff]
  refine List.nodup_append.2 ⟨(List.nodup_append.1 ((kperm hs' Hc os' Oc).nodup_iff.1 hc.dis)).1,(List.nodup_append.1 nd0).2.1,λ a ha b hb e=>?_⟩
  subst e
  rcases hc.R3 a (sub a ha) with h3|h3
  ·have:=hp.lt a ((kperm hs H' os O').mem_iff.2 (List.mem_append_right _ hb))
   omega
  ·exact disj a h3 hb
 have r:=hp.Yr (D:=Ks hs os) (Hm:=hs') (Hc:=Hc) (H1:=hs'++H') (Fc:=Fc) (Om:=os') (Oc:=Oc) (O1:=os'++O') hc (λ b hb=>(kperm hs H' os O').mem_iff.2 (List.mem_append_left _ hb))
  (λ p hpm=>by
   rcases List.mem_append.1 hpm with h3|h3
   ·exact .inl h3
   ·exact .inr ⟨List.mem_append_right _ h3,λ hm=>disj _ hm (eD.2 (.inl ⟨p,h3,rfl⟩))⟩)
  (λ o ho=>by
   rcases List.mem_append.1 ho with h3|h3
   ·exact .inl h3
   ·exact .inr ⟨List.mem_append_right _ h3,λ b hb hm=>disj _ hm (eD.2 (.inr ⟨o,h3,hb⟩))⟩)
  nd1
 exact r.perm (List.Perm.append_left _ qH) (List.Perm.append_left _ qO)
theorem SF.eU(h:SF w0 M H A F O w){F':Fr}(hF:∀f∈F',f.2=[]∨f∈F):SF w0 M H A F' O w:=⟨h.st,h.bJ,λ f hf=>by
 rcases hF f hf with h0|h1
 ·exact⟨by rw[h0];exact Cl.nil _ _,λ hc=>absurd h0 hc⟩
 ·exact h.new f h1,h.own,h.dis⟩
theorem SF.Zr{o1 o2:Ow}(h:SF w0 M H A F (o1::o2::O) w):SF w0 M H A F (o2::o1::O) w:=h.perm (List.Perm.refl _) (List.Perm.swap _ _ _)
theorem SF.yr(h:SF w0 M H A F O w)(T1:TypeId)(s1:Nat)(T2:TypeId)(s2:Nat):SF w0 M H A F (O++[⟨none,[],0,T1,s1⟩,⟨none,[],0,T2,s2⟩]) w:=((h.kH T2 s2).kH T1 s1).perm (List.Perm.refl _) List.perm_append_comm
theorem SF.toEnd{o1 o2:Ow}(h:SF w0 M H A F (o1::o2::O) w):SF w0 M H A F (O++[o1,o2]) w:=h.perm (List.Perm.refl _) List.perm_append_comm
theorem SF.za{L:List aP}{v:aP}{F':Fr}(h:SF w0 M H A F O w)(h1:(v.nd.brA,aG v.xs)∈F)(h2:(v.nd.prA,cR v.ys)∈F)(h3:∀f∈aM L,f∈F):SF w0 M H A (aM (L++[v])) O w:=h.eU λ f hf=>by
 rw[eE] at hf
 rcases List.mem_append.1 hf with hf|hf
 ·exact .inr (h3 f hf)
 ·simp only[aM,List.flatMap_cons,List.flatMap_nil,List.append_nil,aP.fr,List.mem_cons,List.not_mem_nil,or_false] at hf
  rcases hf with rfl|rfl
  ·exact .inr h1
  ·exact .inr h2
theorem aW.all{F:Fr}:aW F F:=aW.iI λ _ h=>h
end
end

/- Memories: the rule for calls that may change them. -/
end Go.Ct
namespace Go.Proofs.YtbajmaoegmbfgaaGreat
section
open Go Go.RowKit Go.Ct
abbrev mO(L:List aP)(cs:List Int)(gen acc:Int)(pn:Option Addr)(cn:Nat)(pc:Option Addr)(cc:Nat):Obj:=.cells ⟨[.slice pn L.length cn,.slice pc cs.length cc,.int .i64 gen,.int .i64 acc]⟩ 54 (0,0)
abbrev aO(L:List aP)(cs:List Int)(gen acc:Int)(pn:Option Addr)(cn:Nat)(pc:Option Addr)(cc:Nat):Obj:=.cells ⟨[.slice pn L.length cn,.slice pc cs.length cc,.int .i64 gen,.int .i64 acc]⟩ 139 (0,0)
abbrev mW(L:List aP)(cs:List Int)(pn:Option Addr)(cn:Nat)(pc:Option Addr)(cc:Nat):List Ow:=[⟨pn,iY L,cn,47,14⟩,⟨pc,aG cs,cc,37,1⟩]
theorem yA{w0 w:World}{D:List Nat}{b:Nat}{L:List aP}{cs:List Int}{gen acc:Int}{pn pc:Option Addr}{cn cc:Nat}{A F:Fr}(h:SF w0 D [(b,mO L cs gen acc pn cn pc cc)] A F (mW L cs pn cn pc cc) w) :
  SF w0 D [(b,.cells ⟨[.slice pn L.length cn,.slice pc cs.length cc,.int .i64 gen,.int .i64 acc]⟩ 54 (0,0))] A F [⟨pn,iY L,cn,47,14⟩,⟨pc,aG cs,cc,37,1⟩] w:=h
theorem zW{w0 w:World}{D:List Nat}{b:Nat}{L:List aP}{cs:List Int}{gen acc:Int}{pn pc:Option Addr}{cn cc:Nat}{A F:Fr}(h:SF w0 D [(b,aO L cs gen acc pn cn pc cc)] A F (mW L cs pn cn pc cc) w) :
  SF w0 D [(b,.cells ⟨[.slice pn L.length cn,.slice pc cs.length cc,.int .i64 gen,.int .i64 acc]⟩ 139 (0,0))] A F [⟨pn,iY L,cn,47,14⟩,⟨pc,aG cs,cc,37,1⟩] w:=h
variable{S:List (Nat×Value)}{w0 w:World}{M:List Nat}{H:List (Nat×Obj)}{A F:Fr}{O:List Ow}{ty:TypeId}{pos:String}{af:Array Edge}{gd:Option (Nat×Bool)}{X:Type}{V:X->Value}
theorem cM{φ:X->Prop}{hs H':List (Nat×Obj)}{os O':List Ow}{hs' H1:X->List (Nat×Obj)}{os' O1:X->List Ow}{Fc F1:X->Fr}{A0:Fr}{is js:List Nat}{f:FuncId}{xs:List Operand}{at_:Array TypeId}{vs:List Value}{dst:Option Nat}
  (ha:qX S xs=vs:=by(repeat (first|exact dC _|(apply cH;focus ((conv=>{lhs;whnf});try exact rfl))));first|done|fail) (hp:plain Tryz.prog f=true:=by kernel_rfl)
  (hc:∀w,SF w (Ks hs os) hs A0 [] os w->Calls Tryz.prog f ⟨vs⟩ w λ e w'=>∃x,e=.returned (V x)/\φ x/\SF w (Ks hs os) (hs' x) [] (Fc x) (os' x) w')
  (hH:nK H is hs H':=by(repeat (first|exact nK.nil|(apply nK.cons;(focus ((repeat (first|exact A3.head|apply A3.tail));done));simp only[rH])));first|done|fail)
  (hO:nK O js os O':=by(repeat (first|exact nK.nil|(apply nK.cons;(focus ((repeat (first|exact A3.head|apply A3.tail));done));simp only[rH])));first|done|fail)
  (hA:bE A F O' A0:=by(repeat (first|exact bE.of (λ _ h=>Or.inr (Or.inl h))|exact bE.nil|(refine bE.cons (by first|exact Or.inl rfl|exact Or.inr (Or.inr (Or.inl (by simp)))|exact Or.inr (Or.inl (by simp))|exact Or.inr (Or.inr (Or.inr (by simp)))) ?_)));first|done|fail)
  (hl1:∀x,is.length=(hs' x).length:=by intro x;exact rfl) (hl2:∀x,js.length=(os' x).length:=by intro x;exact rfl)
  (hH1:∀x,jO is (hs' x) H'=H1 x:=by intro x;first|(simp only[jO,sR];exact rfl)|exact rfl) (hF1:∀x,Fc x++F=F1 x:=by intro x;first|(simp only[List.nil_append,List.cons_append];exact rfl)|exact rfl) (hO1:∀x,jO js (os' x) O'=O1 x:=by intro x;simp only[jO,sR,mW];exact rfl) :
  bC Tryz.prog S (SF w0 M H A F O) ⟨dst,.call {callee:=.value (.func f),args:=⟨xs⟩,argTypes:=at_},ty,pos,af,gd⟩ X V (λ x w=>φ x/\SF w0 M (H1 x) A (F1 x) (O1 x) w) :=
 iJ (oG hp ha) λ w hw=>(hc w (hw.rY hH hO hA)).mono λ _ _ ⟨x,he,hx,hs⟩=>⟨x,he,hx,by
  have:=hw.Ax (hs':=hs' x) (Hc:=[]) (os':=os' x) (Oc:=[]) hH hO (by simpa using hs) (hl1 x) (hl2 x)
  rw[<- hH1 x,<- hF1 x,<- hO1 x]
  simpa using this⟩
end

/- The small methods of the two memories: cells, generations, loads, compare-and-swaps. -/
section
open Go.RowKit Go.Ct
variable{w:World}{D:List Nat}{b:Nat}{L:List aP}{cs:List Int}{gen acc:Int}{pn pc:Option Addr}{cn cc:Nat}{A:Fr}
theorem lB(v:Int)(hs:SF w D [(b,mO L cs gen acc pn cn pc cc)] A [] (mW L cs pn cn pc cc) w)(hl:cs.length<=274877906944) :
  Calls Tryz.prog 114 #[.pointer (some ⟨b,0,none⟩),.int .i64 v] w λ e w'=>∃q:Option Addr×Nat,e=.returned (.int .i64 ((cs.length+1:Nat):Int))/\True /\
   SF w D [(b,mO L (cs++[v]) gen acc pn cn q.1 q.2)] [] [] (mW L (cs++[v]) pn cn q.1 q.2) w':=by
 refine enter Tryz.func114 Tryz.ntmps114 rfl rfl (yA hs) ?_
 simp only[cD]
 refine cP ?_;refine jA ?_;refine Mu ?_;refine J3 ?_;refine aA ?_;refine eZ (λ x12=>?_);(refine eX (λ x13=>?_);try (refine eR (λ h13=>?_)));refine Mu ?_;refine uS ?_;refine H7 ?_;refine Qt ?_;refine J1 ?_
 refine aQ Tryz.results114 (λ w hw=>?_)
 exact⟨x13,rfl,trivial,by simpa[mO,mW] using hw.aV (F':=[])⟩
theorem yR(v:Int)(hs:SF w D [(b,aO L cs gen acc pn cn pc cc)] A [] (mW L cs pn cn pc cc) w)(hl:cs.length<=274877906944) :
  Calls Tryz.prog 79 #[.pointer (some ⟨b,0,none⟩),.int .i64 v] w λ e w'=>∃q:Option Addr×Nat,e=.returned (.int .i64 ((cs.length+1:Nat):Int))/\True /\
   SF w D [(b,aO L (cs++[v]) gen acc pn cn q.1 q.2)] [] [] (mW L (cs++[v]) pn cn q.1 q.2) w':=by
 refine enter Tryz.func79 Tryz.ntmps79 rfl rfl (zW hs) ?_
 simp only[cD]
 refine cP ?_;refine jA ?_;refine dA ?_;refine J3 ?_;refine aA ?_;refine eZ (λ x11=>?_);(refine eX (λ x12=>?_);try (refine eR (λ h12=>?_)));refine Py ?_;refine mJ ?_;refine dJ ?_;refine J1 ?_
 refine aQ Tryz.results79 (λ w hw=>?_)
 exact⟨x12,rfl,trivial,by simpa[aO,mW] using hw.aV (F':=[])⟩
end

/- The small methods of the two memories: generations, loads, compare-and-swaps. -/
end Go.Proofs.YtbajmaoegmbfgaaGreat
namespace Go.Ct
section
def bD(cs:List Int)(c:Int):Int:=if 1<=c/\c<=cs.length then cs.getD (c-1).toNat 0 else 0
def iB(cs:List Int)(c bJ:Int):Prop:=1<=c/\c<=cs.length/\cs.getD (c-1).toNat 0=bJ
def dD(cs:List Int)(c bJ new:Int):List Int:=if 1<=c/\c<=cs.length/\cs.getD (c-1).toNat 0=bJ then cs.set (c-1).toNat new else cs
def up(i:Int):Int:=Go.IntKind.i64.wrap (i+1)
theorem rJ{cs:List Int}{c:Int}(h:¬(1<=c/\c<=cs.length)):bD cs c=0:=if_neg h
theorem G7{cs:List Int}{k:Nat}(h:k<cs.length):bD cs ((k+1:Nat):Int)=cs.getD k 0:=by
 unfold bD
 rw[if_pos (by omega),show(((k+1:Nat):Int)-1).toNat=k by omega]
theorem zY{cs:List Int}{c bJ new:Int}(h:¬(1<=c/\c<=cs.length/\cs.getD (c-1).toNat 0=bJ)):dD cs c bJ new=cs:=if_neg h
theorem Uz{cs:List Int}{k:Nat}{bJ new:Int}(h:k<cs.length)(ho:cs.getD k 0=bJ):dD cs ((k+1:Nat):Int) bJ new=cs.set k new:=by
 have e:(((k+1:Nat):Int)-1).toNat=k:=by omega
 unfold dD
 rw[e,if_pos ⟨by omega,by omega,ho⟩]
theorem Z8{cs:List Int}{c bJ:Int}(h:c<1):(false=true↔iB cs c bJ):=⟨(λ h=>nomatch h),λ h2=>absurd h2.1 (by omega)⟩
theorem Ub{cs:List Int}{c bJ new:Int}(h:c<1):dD cs c bJ new=cs:=zY (by omega)
theorem bj{cs:List Int}{c bJ:Int}(h:(cs.length:Int)<c):(false=true↔iB cs c bJ):=⟨(λ h=>nomatch h),λ h2=>absurd h2.2.1 (by omega)⟩
theorem Tl{cs:List Int}{c bJ new:Int}(h:(cs.length:Int)<c):dD cs c bJ new=cs:=zY (by omega)
theorem cy{cs:List Int}{k:Nat}{bJ:Int}(h:cs.getD k 0≠bJ):(false=true↔iB cs ((k+1:Nat):Int) bJ):=⟨(λ h=>nomatch h),λ h2=>absurd (by have:=h2.2.2;rwa [show(((k+1:Nat):Int)-1).toNat=k by omega] at this) h⟩
theorem Vr{cs:List Int}{k:Nat}{bJ new:Int}(h:cs.getD k 0≠bJ):dD cs ((k+1:Nat):Int) bJ new=cs:=zY λ h2=>absurd (by have:=h2.2.2;rwa [show(((k+1:Nat):Int)-1).toNat=k by omega] at this) h
theorem jf{cs:List Int}{k:Nat}{bJ:Int}(hk:k<cs.length)(h:cs.getD k 0=bJ):(true=true↔iB cs ((k+1:Nat):Int) bJ):=⟨λ _=>⟨by omega,by omega,by rw[show(((k+1:Nat):Int)-1).toNat=k by omega];exact h⟩,λ _=>rfl⟩
theorem gE{cs:List Int}{c bJ new:Int}:(dD cs c bJ new).length=cs.length:=by unfold dD;split<;>simp
end
end Go.Ct
namespace Go.Proofs.YtbajmaoegmbfgaaGreat
section
open Go.RowKit Go.Ct
variable{w:World}{D:List Nat}{b:Nat}{L:List aP}{cs:List Int}{gen acc:Int}{pn pc:Option Addr}{cn cc:Nat}{A:Fr}
theorem Jv(hs:SF w D [(b,mO L cs gen acc pn cn pc cc)] A [] (mW L cs pn cn pc cc) w):Calls Tryz.prog 100 #[.pointer (some ⟨b,0,none⟩)] w λ e w'=>∃q:Unit,e=.returned (.int .i64 (up gen))/\True/\SF w D [(b,mO L cs (up gen) acc pn cn pc cc)] [] [] (mW L cs pn cn pc cc) w':=by
 refine enter Tryz.func100 Tryz.ntmps100 rfl rfl (yA hs) ?_
 simp only[cD]
 refine cP ?_;refine H7 ?_;refine J3 ?_;refine aC (nS rf rf) rfl ?_;refine Mu ?_;refine uS ?_;refine H7 ?_;refine J3 ?_;refine J1 ?_
 refine aQ Tryz.results100 (λ w hw=>?_)
 exact⟨(),rfl,trivial,by simpa[mO,mW] using hw.aV (F':=[])⟩
theorem ic(hs:SF w D [(b,mO L cs gen acc pn cn pc cc)] A [] (mW L cs pn cn pc cc) w)(c:Int)(hc:c<1):Calls Tryz.prog 241 #[.pointer (some ⟨b,0,none⟩),.int .i64 c] w λ e w'=>∃q:Unit,e=.returned (.int .i64 (bD cs c))/\True/\SF w D [(b,mO L cs gen (up acc) pn cn pc cc)] [] [] (mW L cs pn cn pc cc) w':=by
 refine enter Tryz.func241 Tryz.ntmps241 rfl rfl (yA hs) ?_
 simp only[cD]
 refine cP ?_;refine mJ ?_;refine aC (nS rf rf) rfl ?_;refine Py ?_;refine kX ?_;refine Az ?_
 (refine dX 14 (λ g14=>?_) (λ g14=>?_)<;>(try (exfalso;omega))<;>(refine aI ?_))
 refine vj ?_;refine Rh ?_;refine zJ ?_;refine aH ?_
 refine aZ (λ c23=>?_) (λ c23=>?_)
 ·try (exfalso;omega)
  refine cP ?_
  refine aQ Tryz.results241 (λ w hw=>?_)
  (exact⟨(),by rw[rJ (by omega)];rfl,trivial,hw.aV⟩)
 ·exact nv c23
theorem kj(hs:SF w D [(b,mO L cs gen acc pn cn pc cc)] A [] (mW L cs pn cn pc cc) w)(c:Int)(bJ new:Int)(hc:c<1):Calls Tryz.prog 242 #[.pointer (some ⟨b,0,none⟩),.int .i64 c,.int .i64 bJ,.int .i64 new] w λ e w'=>∃r:Bool,e=.returned (.bool r)/\(r=true↔iB cs c bJ)/\SF w D [(b,mO L (dD cs c bJ new) gen (up acc) pn cn pc cc)] [] [] (mW L (dD cs c bJ new) pn cn pc cc) w':=by
 refine enter Tryz.func242 Tryz.ntmps242 rfl rfl (yA hs) ?_
 simp only[cD]
 refine cP ?_;refine mJ ?_;refine aC (nS rf rf) rfl ?_;refine Py ?_;refine kX ?_;refine Az ?_
 (refine dX 18 (λ g18=>?_) (λ g18=>?_)<;>(try (exfalso;omega))<;>(refine aI ?_))
 refine vj ?_;refine Rh ?_;refine zJ ?_;refine aA ?_
 refine aI ?_
 refine J36 ?_;refine J6 ?_;refine J68 ?_;(refine aI ?_);refine fv ?_;refine Q9 ?_;refine aH ?_
 refine aZ (λ c40=>?_) (λ c40=>?_)
 ·try (exfalso;omega)
  refine cP ?_
  refine aQ Tryz.results242 (λ w hw=>?_)
  (exact⟨false,rfl,Z8 hc,by rw[Ub hc];exact hw.aV⟩)
 ·exact nv c40
theorem Yf(hs:SF w D [(b,mO L cs gen acc pn cn pc cc)] A [] (mW L cs pn cn pc cc) w){k:Nat}(hk:(k:Int)<9223372036854775807)(hl:cs.length<=274877906944):Calls Tryz.prog 241 #[.pointer (some ⟨b,0,none⟩),.int .i64 ((k+1:Nat):Int)] w λ e w'=>∃q:Unit,e=.returned (.int .i64 (bD cs ((k+1:Nat):Int)))/\True/\SF w D [(b,mO L cs gen (up acc) pn cn pc cc)] [] [] (mW L cs pn cn pc cc) w':=by
 refine enter Tryz.func241 Tryz.ntmps241 rfl rfl (yA hs) ?_
 simp only[cD]
 refine cP ?_;refine mJ ?_;refine aC (nS rf rf) rfl ?_;refine Py ?_;refine kX ?_;refine Az ?_
 (refine aE ?_;refine aA ?_)
 refine vj ?_;refine Rh ?_;refine zJ ?_;refine aH ?_
 refine aZ (λ c23=>?_) (λ c23=>?_)
 ·try (exfalso;omega)
  refine cP ?_
  refine aQ Tryz.results241 (λ w hw=>?_)
  (exact⟨(),by rw[rJ (by omega)];rfl,trivial,hw.aV⟩)
 ·try (exfalso;omega)
  refine aX ?_;refine H7 ?_;refine J3 ?_;refine aA ?_;refine rM ?_;refine Qq ?_;refine J1 ?_
  refine aQ Tryz.results241 (λ w hw=>?_)
  (exact⟨(),by rw[G7 (by omega)];rfl,trivial,hw.aV⟩)
theorem m8(hs:SF w D [(b,mO L cs gen acc pn cn pc cc)] A [] (mW L cs pn cn pc cc) w){k:Nat}(hk:(k:Int)<9223372036854775807)(bJ new:Int)(hl:cs.length<=274877906944):Calls Tryz.prog 242 #[.pointer (some ⟨b,0,none⟩),.int .i64 ((k+1:Nat):Int),.int .i64 bJ,.int .i64 new] w λ e w'=>∃r:Bool,e=.returned (.bool r)/\(r=true↔iB cs ((k+1:Nat):Int) bJ)/\SF w D [(b,mO L (dD cs ((k+1:Nat):Int) bJ new) gen (up acc) pn cn pc cc)] [] [] (mW L (dD cs ((k+1:Nat):Int) bJ new) pn cn pc cc) w':=by
 refine enter Tryz.func242 Tryz.ntmps242 rfl rfl (yA hs) ?_
 simp only[cD]
 refine cP ?_;refine mJ ?_;refine aC (nS rf rf) rfl ?_;refine Py ?_;refine kX ?_;refine Az ?_
 (refine aE ?_;refine aA ?_)
 refine vj ?_;refine Rh ?_;refine zJ ?_;refine aA ?_
 (refine dX 28 (λ g28=>?_) (λ g28=>?_)<;>(first|refine aI ?_|(refine aE ?_;refine aA ?_)))
 all_goals (refine J36 ?_;refine J6 ?_;refine J68 ?_;(first|refine aI ?_|(refine aE ?_;refine gC ?_));refine fv ?_;refine Q9 ?_;refine aH ?_)
 all_goals
 refine aZ (λ c40=>?_) (λ c40=>?_)
 ·all_goals try (exfalso;omega)
  all_goals refine cP ?_
  all_goals
   refine aQ Tryz.results242 (λ w hw=>?_)
   first|exact⟨false,rfl,bj (by omega),by rw[Tl (by omega)];exact hw.aV⟩|exact⟨false,rfl,cy (by simpa using c40),by rw[Vr (by simpa using c40)];exact hw.aV⟩ 
 ·try exact nv c40
  all_goals (refine aX ?_;refine H7 ?_;refine J3 ?_;refine aA ?_;refine rM ?_;refine aA ?_;refine gC ?_;refine J5 ?_;refine cP ?_)
  all_goals
   refine aQ Tryz.results242 (λ w hw=>?_)
   (exact⟨true,rfl,jf (by omega) (by simpa using c40),by rw[Uz (by omega) (by simpa using c40)];simpa[mW,aO,mO] using hw.aV (F':=[])⟩)
theorem mx(hs:SF w D [(b,mO L cs gen acc pn cn pc cc)] A [] (mW L cs pn cn pc cc) w)(c:Int)(hc:c<=9223372036854775807)(hl:cs.length<=274877906944):Calls Tryz.prog 241 #[.pointer (some ⟨b,0,none⟩),.int .i64 c] w λ e w'=>∃q:Unit,e=.returned (.int .i64 (bD cs c))/\True/\SF w D [(b,mO L cs gen (up acc) pn cn pc cc)] [] [] (mW L cs pn cn pc cc) w':=by
 rcases Int.lt_or_le c 1 with h|h
 ·exact ic hs c h
 ·obtain⟨k,rfl⟩:∃k:Nat,c=((k+1:Nat):Int):=⟨(c-1).toNat,by omega⟩
  exact Yf hs (by omega) hl
theorem ym(hs:SF w D [(b,mO L cs gen acc pn cn pc cc)] A [] (mW L cs pn cn pc cc) w)(c bJ new:Int)(hc:c<=9223372036854775807)(hl:cs.length<=274877906944):Calls Tryz.prog 242 #[.pointer (some ⟨b,0,none⟩),.int .i64 c,.int .i64 bJ,.int .i64 new] w λ e w'=>∃r:Bool,e=.returned (.bool r)/\(r=true↔iB cs c bJ)/\SF w D [(b,mO L (dD cs c bJ new) gen (up acc) pn cn pc cc)] [] [] (mW L (dD cs c bJ new) pn cn pc cc) w':=by
 rcases Int.lt_or_le c 1 with h|h
 ·exact kj hs c bJ new h
 ·obtain⟨k,rfl⟩:∃k:Nat,c=((k+1:Nat):Int):=⟨(c-1).toNat,by omega⟩
  exact m8 hs (by omega) bJ new hl
theorem Lx(hs:SF w D [(b,aO L cs gen acc pn cn pc cc)] A [] (mW L cs pn cn pc cc) w)(c:Int):Calls Tryz.prog 85 #[.pointer (some ⟨b,0,none⟩),.int .i64 c] w λ e w'=>∃q:Unit,e=.returned (.bool (decide (1<=c/\c<=(cs.length:Int))))/\True/\SF w D [(b,aO L cs gen acc pn cn pc cc)] [] [] (mW L cs pn cn pc cc) w':=by
 refine enter Tryz.func85 Tryz.ntmps85 rfl rfl (zW hs) ?_
 simp only[cD]
 refine cP ?_;refine J2 ?_;refine nT ?_;refine aA ?_
 (refine dX 7 (λ g7=>?_) (λ g7=>?_)<;>(first|refine aI ?_|(refine aE ?_;refine aA ?_)))
 all_goals ((first|refine aI ?_|(refine aE ?_;refine aA ?_));(first|refine aI ?_|(refine aE ?_;refine dA ?_));refine Rh ?_;(first|refine aI ?_|(refine aE ?_;refine xY ?_));refine bY ?_;refine J1 ?_)
 all_goals
 refine aQ Tryz.results85 (λ w hw=>?_)
 first|exact⟨(),by rw[decide_eq_false (show ¬(1<=c/\c<=(cs.length:Int)) by omega)];first|rfl|(rw[decide_eq_false (by omega)];rfl),trivial,hw.aV⟩|exact⟨(),by rw[show decide (1<=c/\c<=(cs.length:Int))=decide (c<=(cs.length:Int)) by simp;omega];rfl,trivial,hw.aV⟩
theorem ig(hs:SF w D [(b,aO L cs gen acc pn cn pc cc)] A [] (mW L cs pn cn pc cc) w)(c:Int)(hc:c<1):Calls Tryz.prog 35 #[.pointer (some ⟨b,0,none⟩),.int .i64 c] w λ e w'=>∃q:Unit,e=.returned (.int .i64 (bD cs c))/\True/\SF w D [(b,aO L cs gen (up acc) pn cn pc cc)] [] [] (mW L cs pn cn pc cc) w':=by
 refine enter Tryz.func35 Tryz.ntmps35 rfl rfl (zW hs) ?_
 simp only[cD]
 refine cP ?_;refine mJ ?_;refine aC (nS rf rf) rfl ?_;refine Py ?_;refine A6 ?_;refine aD (cM (hc:=λ w hs=>Lx hs c)) (λ x14 h14=>?_);refine oU ?_
 refine aZ (λ c15=>?_) (λ c15=>?_)
 ·try (exfalso;omega)
  refine cP ?_
  refine aQ Tryz.results35 (λ w hw=>?_)
  (exact⟨(),by rw[rJ (by omega)];rfl,trivial,hw.aV⟩)
 ·try (exfalso;omega)
theorem ql(hs:SF w D [(b,aO L cs gen acc pn cn pc cc)] A [] (mW L cs pn cn pc cc) w)(c:Int)(bJ new:Int)(hc:c<1):Calls Tryz.prog 279 #[.pointer (some ⟨b,0,none⟩),.int .i64 c,.int .i64 bJ,.int .i64 new] w λ e w'=>∃r:Bool,e=.returned (.bool r)/\(r=true↔iB cs c bJ)/\SF w D [(b,aO L (dD cs c bJ new) gen (up acc) pn cn pc cc)] [] [] (mW L (dD cs c bJ new) pn cn pc cc) w':=by
 refine enter Tryz.func279 Tryz.ntmps279 rfl rfl (zW hs) ?_
 simp only[cD]
 refine cP ?_;refine mJ ?_;refine aC (nS rf rf) rfl ?_;refine Py ?_;refine A6 ?_;refine aD (cM (hc:=λ w hs=>Lx hs c)) (λ x18 h18=>?_);refine Cb ?_
 (refine dX 20 (λ g20=>?_) (λ g20=>?_)<;>(try (exfalso;omega))<;>(refine aI ?_))
 (refine aI ?_);refine J6 ?_;refine J68 ?_;(refine aI ?_);refine fv ?_;refine Q9 ?_;refine aH ?_
 refine aZ (λ c31=>?_) (λ c31=>?_)
 ·try (exfalso;omega)
  refine cP ?_
  refine aQ Tryz.results279 (λ w hw=>?_)
  (exact⟨false,rfl,Z8 hc,by rw[Ub hc];exact hw.aV⟩)
 ·exact nv c31
theorem Zh(hs:SF w D [(b,aO L cs gen acc pn cn pc cc)] A [] (mW L cs pn cn pc cc) w){k:Nat}(hk:(k:Int)<9223372036854775807)(hl:cs.length<=274877906944):Calls Tryz.prog 35 #[.pointer (some ⟨b,0,none⟩),.int .i64 ((k+1:Nat):Int)] w λ e w'=>∃q:Unit,e=.returned (.int .i64 (bD cs ((k+1:Nat):Int)))/\True/\SF w D [(b,aO L cs gen (up acc) pn cn pc cc)] [] [] (mW L cs pn cn pc cc) w':=by
 refine enter Tryz.func35 Tryz.ntmps35 rfl rfl (zW hs) ?_
 simp only[cD]
 refine cP ?_;refine mJ ?_;refine aC (nS rf rf) rfl ?_;refine Py ?_;refine A6 ?_;refine aD (cM (hc:=λ w hs=>Lx hs ((k+1:Nat):Int))) (λ x14 h14=>?_);refine oU ?_
 refine aZ (λ c15=>?_) (λ c15=>?_)
 ·try (exfalso;omega)
  refine cP ?_
  refine aQ Tryz.results35 (λ w hw=>?_)
  (exact⟨(),by rw[rJ (by omega)];rfl,trivial,hw.aV⟩)
 ·try (exfalso;omega)
  refine sc ?_;refine aA ?_;refine rM ?_;refine Qq ?_;refine J1 ?_
  refine aQ Tryz.results35 (λ w hw=>?_)
  (exact⟨(),by rw[G7 (by omega)];rfl,trivial,hw.aV⟩)
theorem lb(hs:SF w D [(b,aO L cs gen acc pn cn pc cc)] A [] (mW L cs pn cn pc cc) w){k:Nat}(hk:(k:Int)<9223372036854775807)(bJ new:Int)(hl:cs.length<=274877906944):Calls Tryz.prog 279 #[.pointer (some ⟨b,0,none⟩),.int .i64 ((k+1:Nat):Int),.int .i64 bJ,.int .i64 new] w λ e w'=>∃r:Bool,e=.returned (.bool r)/\(r=true↔iB cs ((k+1:Nat):Int) bJ)/\SF w D [(b,aO L (dD cs ((k+1:Nat):Int) bJ new) gen (up acc) pn cn pc cc)] [] [] (mW L (dD cs ((k+1:Nat):Int) bJ new) pn cn pc cc) w':=by
 refine enter Tryz.func279 Tryz.ntmps279 rfl rfl (zW hs) ?_
 simp only[cD]
 refine cP ?_;refine mJ ?_;refine aC (nS rf rf) rfl ?_;refine Py ?_;refine A6 ?_;refine aD (cM (hc:=λ w hs=>Lx hs ((k+1:Nat):Int))) (λ x18 h18=>?_);refine Cb ?_
 (refine dX 20 (λ g20=>?_) (λ g20=>?_)<;>(first|refine aI ?_|(refine aE ?_;refine aA ?_)))
 all_goals ((first|refine aI ?_|(refine aE ?_;refine dA ?_));refine J6 ?_;refine J68 ?_;(first|refine aI ?_|(refine aE ?_;refine gC ?_));refine fv ?_;refine Q9 ?_;refine aH ?_)
 all_goals
 refine aZ (λ c31=>?_) (λ c31=>?_)
 ·all_goals try (exfalso;omega)
  all_goals refine cP ?_
  all_goals
   refine aQ Tryz.results279 (λ w hw=>?_)
   first|exact⟨false,rfl,bj (by omega),by rw[Tl (by omega)];exact hw.aV⟩|exact⟨false,rfl,cy (by simpa using c31),by rw[Vr (by simpa using c31)];exact hw.aV⟩ 
 ·try exact nv c31
  all_goals (refine sc ?_;refine aA ?_;refine rM ?_;refine aA ?_;refine gC ?_;refine J5 ?_;refine cP ?_)
  all_goals
   refine aQ Tryz.results279 (λ w hw=>?_)
   (exact⟨true,rfl,jf (by omega) (by simpa using c31),by rw[Uz (by omega) (by simpa using c31)];simpa[mW,aO,mO] using hw.aV (F':=[])⟩)
theorem Uh(hs:SF w D [(b,aO L cs gen acc pn cn pc cc)] A [] (mW L cs pn cn pc cc) w)(c:Int)(hc:c<=9223372036854775807)(hl:cs.length<=274877906944):Calls Tryz.prog 35 #[.pointer (some ⟨b,0,none⟩),.int .i64 c] w λ e w'=>∃q:Unit,e=.returned (.int .i64 (bD cs c))/\True/\SF w D [(b,aO L cs gen (up acc) pn cn pc cc)] [] [] (mW L cs pn cn pc cc) w':=by
 rcases Int.lt_or_le c 1 with h|h
 ·exact ig hs c h
 ·obtain⟨k,rfl⟩:∃k:Nat,c=((k+1:Nat):Int):=⟨(c-1).toNat,by omega⟩
  exact Zh hs (by omega) hl
theorem ug(hs:SF w D [(b,aO L cs gen acc pn cn pc cc)] A [] (mW L cs pn cn pc cc) w)(c bJ new:Int)(hc:c<=9223372036854775807)(hl:cs.length<=274877906944):Calls Tryz.prog 279 #[.pointer (some ⟨b,0,none⟩),.int .i64 c,.int .i64 bJ,.int .i64 new] w λ e w'=>∃r:Bool,e=.returned (.bool r)/\(r=true↔iB cs c bJ)/\SF w D [(b,aO L (dD cs c bJ new) gen (up acc) pn cn pc cc)] [] [] (mW L (dD cs c bJ new) pn cn pc cc) w':=by
 rcases Int.lt_or_le c 1 with h|h
 ·exact ql hs c bJ new h
 ·obtain⟨k,rfl⟩:∃k:Nat,c=((k+1:Nat):Int):=⟨(c-1).toNat,by omega⟩
  exact lb hs (by omega) bJ new hl
end

/- Accesses and results. -/
end Go.Proofs.YtbajmaoegmbfgaaGreat
namespace Go.Ct
section
open Go Go.RowKit
structure Ac where
 k:Int
 c:Int
 o:Int
 n:Int
structure Rs where
 err:Int
 found:Bool
 val:Int
 key:ByteArray
 gJ:Int
 ref:Int
 root:Int
 ro:Bool
abbrev Ac.cells(a:Ac):List Value:=[.int .i64 a.k,.int .i64 a.c,.int .i64 a.o,.int .i64 a.n]
abbrev Rs.cells(r:Rs):List Value:=[.int .i64 r.err,.bool r.found,.int .u64 r.val,.string r.key,.int .i64 r.gJ,.int .i64 r.ref,.int .i64 r.root,.bool r.ro]
abbrev Rs.zero:Rs:=⟨0,false,0,⟨#[]⟩,0,0,0,false⟩
abbrev Ac.zero:Ac:=⟨0,0,0,0⟩
end

/- Nodes of memories: New, Node, Alloc. -/
section
def fE:aP:=⟨{Nd.zero with kind:=1},[],[]⟩
def aB(L:List aP)(r:Int):aP:=if 1<=r/\r<=L.length then L.getD (r-1).toNat aP.zero else aP.zero
theorem pM{L:List aP}{r:Int}(h:¬(1<=r/\r<=L.length)):aB L r=aP.zero:=if_neg h
theorem vZ{L:List aP}{k:Nat}(h:k<L.length):aB L ((k+1:Nat):Int)=L.getD k aP.zero:=by
 unfold aB
 rw[if_pos (by omega),show(((k+1:Nat):Int)-1).toNat=k by omega]
def bS(L:List aP):List aP:=fE::fE::L
theorem oD(L:List aP):(bS L).length=L.length+2:=rfl
theorem Qe:fE.Fit:=⟨rfl,rfl,by decide,by decide⟩
theorem Fits.all{L:List aP}(h:Fits L):Fits (bS L):=λ v hv=>by
 simp only[bS,List.mem_cons] at hv
 rcases hv with rfl|rfl|hv
 ·exact Qe
 ·exact Qe
 ·exact h v hv
theorem Bk{L:List aP}(h:Fits L)(r:Int):(aB L r).Fit:=by
 unfold aB
 split
 ·rename_i hr
  exact h.at (by omega)
 ·exact Qg
structure AX where
 pn:Option Addr
 cn:Nat
 pc:Option Addr
 cc:Nat
 b1:Option Addr
 c1:Nat
 b2:Option Addr
 c2:Nat
def fS(k:Int)(cs:List Int)(init:Int):List Int:=if k=2∨k=3∨k=5∨k=6∨k=8 then cs++[init] else cs
def nX(n:Nd)(xs:List Int)(ys:List Pr)(c:Nat)(x:AX):aP :=
 aP.mk {n with main:=if n.kind=2 then((c+1:Nat):Int) else 0,prev:=if n.kind=3∨n.kind=5∨n.kind=6 then((c+1:Nat):Int) else 0,status:=if n.kind=8 then((c+1:Nat):Int) else 0,brA:=x.b1,brN:=xs.length,brC:=x.c1,prA:=x.b2,prN:=ys.length,cR:=x.c2} xs ys
theorem jW{k:Int}{cs:List Int}{init:Int}:cs.length<=(fS k cs init).length/\(fS k cs init).length<=cs.length+1:=by unfold fS;split<;>simp
theorem Lq{n:Nd}{xs:List Int}{ys:List Pr}{c:Nat}{x:AX}(h1:xs.length<=35184372088832)(h2:ys.length<=11728124029610):(nX n xs ys c x).Fit:=⟨rfl,rfl,h1,h2⟩
def aP.at_(v:aP)(p q:Option Addr):aP:=⟨{v.nd with brA:=p,brC:=v.xs.length,prA:=q,cR:=v.ys.length},v.xs,v.ys⟩
theorem aP.wh{v:aP}(h:v.Fit)(p q:Option Addr):(v.at_ p q).Fit:=⟨h.brN,h.prN,h.brS,h.prS⟩
end
end Go.Ct
namespace Go.Proofs.YtbajmaoegmbfgaaGreat
section
open Go.RowKit Go.Ct
variable{w:World}{D:List Nat}{b:Nat}{L:List aP}{cs:List Int}{gen acc:Int}{pn pc:Option Addr}{cn cc:Nat}{A:Fr}
theorem bz(w:World):Calls Tryz.prog 64 #[] w λ e w'=>∃q:Nat×Option Addr,e=.returned (.pointer (some ⟨q.1,0,none⟩))/\True /\
  SF w [] [(q.1,mO [fE,fE] [] 0 0 q.2 2 none 0)] [] [] (mW [fE,fE] [] q.2 2 none 0) w':=by
 refine enter Tryz.func64 Tryz.ntmps64 rfl rfl (SF.s0 w) ?_
 simp only[cD]
 refine cP ?_;refine J0 ?_;refine bM ?_;refine bM ?_;refine aN (Q2 (c:=2) (sz:=14) rfl (λ _=>cN rE Je rfl rfl rfl rfl (by simp only[Da,mX,List.cons_append,List.nil_append];exact rfl))) (λ x3=>?_);refine bM ?_;refine bM ?_;refine bK (λ x6=>?_);refine J1 ?_
 refine aQ Tryz.results64 (λ w hw=>?_)
 exact⟨(x6,some ⟨x3,0,none⟩),rfl,trivial,(SF.Zr (hw.kH 37 1)).aV⟩
theorem ie(hs:SF w D [(b,mO L cs gen acc pn cn pc cc)] A [] (mW L cs pn cn pc cc) w)(r:Int)(hr:r<1):Calls Tryz.prog 25 #[.pointer (some ⟨b,0,none⟩),.int .i64 r] w λ e w'=>∃q:Unit,e=.returned (aB L r).nd.v/\True /\
  SF w D [(b,mO L cs gen acc pn cn pc cc)] [] [] (mW L cs pn cn pc cc) w':=by
 refine enter Tryz.func25 Tryz.ntmps25 rfl rfl (yA hs) ?_
 simp only[cD]
 refine J0 ?_;refine aJ (λ x4=>?_);refine aH ?_;refine kX ?_;refine Az ?_
 (refine dX 7 (λ g7=>?_) (λ g7=>?_)<;>(try (exfalso;omega))<;>(refine aI ?_))
 refine vj ?_;refine Rh ?_;refine zJ ?_;refine aH ?_
 refine aZ (λ c16=>?_) (λ c16=>?_)
 ·try (exfalso;omega)
  refine J0 ?_;refine vL ?_
  refine aY Tryz.results25 (λ w hw=>?_)
  exact⟨(),by rw[pM (by omega)];rfl,trivial,hw.aV⟩
 ·exact nv c16
theorem Y0(hs:SF w D [(b,mO L cs gen acc pn cn pc cc)] A [] (mW L cs pn cn pc cc) w){k:Nat}(hk:(k:Int)<9223372036854775807)(hl:L.length<=274877906944):Calls Tryz.prog 25 #[.pointer (some ⟨b,0,none⟩),.int .i64 ((k+1:Nat):Int)] w λ e w'=>∃q:Unit,e=.returned (aB L ((k+1:Nat):Int)).nd.v/\True /\
  SF w D [(b,mO L cs gen acc pn cn pc cc)] [] [] (mW L cs pn cn pc cc) w':=by
 refine enter Tryz.func25 Tryz.ntmps25 rfl rfl (yA hs) ?_
 simp only[cD]
 refine J0 ?_;refine aJ (λ x4=>?_);refine aH ?_;refine kX ?_;refine Az ?_
 (refine aE ?_;refine aA ?_)
 refine vj ?_;refine Rh ?_;refine zJ ?_;refine aH ?_
 refine aZ (λ c16=>?_) (λ c16=>?_)
 ·try (exfalso;omega)
  refine J0 ?_;refine vL ?_
  refine aY Tryz.results25 (λ w hw=>?_)
  (exact⟨(),by rw[pM (by omega)];rfl,trivial,hw.aV⟩)
 ·try (exfalso;omega)
  refine aX ?_;refine H7 ?_;refine J3 ?_;refine aA ?_;refine rM ?_;refine Qq ?_;refine J5 ?_
  refine aY Tryz.results25 (λ w hw=>?_)
  (exact⟨(),by rw[vZ (by omega)];rfl,trivial,hw.aV⟩)
theorem ls(hs:SF w D [(b,mO L cs gen acc pn cn pc cc)] A [] (mW L cs pn cn pc cc) w)(r:Int)(hr:r<=9223372036854775807)(hl:L.length<=274877906944):Calls Tryz.prog 25 #[.pointer (some ⟨b,0,none⟩),.int .i64 r] w λ e w'=>∃q:Unit,e=.returned (aB L r).nd.v/\True /\
  SF w D [(b,mO L cs gen acc pn cn pc cc)] [] [] (mW L cs pn cn pc cc) w':=by
 rcases Int.lt_or_le r 1 with h|h
 ·exact ie hs r h
 ·obtain⟨k,rfl⟩:∃k:Nat,r=((k+1:Nat):Int):=⟨(r-1).toNat,by omega⟩
  exact Y0 hs (by omega) hl
end

end Go.Proofs.YtbajmaoegmbfgaaGreat
