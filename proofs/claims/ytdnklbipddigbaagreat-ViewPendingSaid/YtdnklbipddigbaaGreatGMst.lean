/- Merged. -/
import Derived.Test.YtdnklbipddigbaaGreatJoin
import Derived.Test.YtdnklbipddigbaaGreatGLst3
set_option linter.unusedSimpArgs false
set_option linter.unusedVariables false
namespace Go.Ct
open Go Go.RowKit
section
section
variable{α:Type}
inductive LAt:List α->Nat->α->Prop where
 | head {a:α} {l:List α}:LAt (a::l) 0 a
 | tail {a b:α} {l:List α} {i:Nat}:LAt l i b->LAt (a::l) (i+1) b
def delA:List α->Nat->List α
 | [],_=>[]
 | _::r,0=>r
 | p::r,i+1=>p::delA r i
def insA:List α->Nat->α->List α
 | l,0,a=>a::l
 | p::r,i+1,a=>p::insA r i a
 | [],_+1,a=>[a]
inductive Ats:List α->List Nat->List α->List α->Prop where
 | nil {l:List α}:Ats l [] [] l
 | cons {l es r:List α} {i:Nat} {a:α} {js:List Nat}:LAt l i a->Ats (delA l i) js es r->Ats l (i::js) (a::es) r
def putA:List Nat->List α->List α->List α
 | i::js,a::es,r=>insA (putA js es r) i a
 | _,_,r=>r
theorem LAt.perm{l:List α}{i:Nat}{a:α}(h:LAt l i a):l.Perm (a::delA l i):=by
 induction h with
 | head=>exact List.Perm.refl _
 | tail _ ih=>exact(ih.cons _).trans (List.Perm.swap _ _ _)
theorem insA_perm(a:α):∀(l:List α) (i:Nat),(insA l i a).Perm (a::l)
 | l,0=>by cases l<;>exact List.Perm.refl _
 | [],_+1=>List.Perm.refl _
 | p::r,i+1=>((insA_perm a r i).cons p).trans (List.Perm.swap _ _ _)
theorem Ats.perm{l es r:List α}{js:List Nat}(h:Ats l js es r):l.Perm (es++r):=by
 induction h with
 | nil=>exact List.Perm.refl _
 | cons h _ ih=>exact h.perm.trans (ih.cons _)
theorem putA_perm:∀(js:List Nat) (es r:List α),js.length=es.length->(putA js es r).Perm (es++r)
 | [],[],_,_=>List.Perm.refl _
 | i::js,a::es,r,h=>(insA_perm a _ i).trans ((putA_perm js es r (by simpa using h)).cons a)
 | [],_::_,_,h=>by simp at h
 | _::_,[],_,h=>by simp at h
end
section
variable{P:Program}{S:List (Nat×Value)}{w0 w w':World}{M:List Nat}{H H' hs:List (Nat×Obj)}{A F:Fr}{O O' os:List Ow}{is js:List Nat}
def Has(A F:Fr)(O:List Ow)(f:Option Addr×List Value):Prop:=f.2=[]∨f∈A∨f∈F∨∃o∈O,o.p=f.1/\o.cs=f.2
inductive HasAll(A F:Fr)(O:List Ow):Fr->Prop where
 | nil:HasAll A F O []
 | cons {f:Option Addr×List Value} {r:Fr} (h:Has A F O f) (hr:HasAll A F O r):HasAll A F O (f::r)
 | of {A0:Fr} (h:∀f∈A0,Has A F O f):HasAll A F O A0
theorem HasAll.get{A0:Fr}(h:HasAll A F O A0):∀f∈A0,Has A F O f:=by
 induction h with
 | nil=>intro f hf;exact(List.not_mem_nil hf).elim
 | cons h _ ih=>
  intro f hf;rcases List.mem_cons.1 hf with rfl|hf;·exact h
  ·exact ih f hf
 | of h=>exact h
theorem FAt.of_mem{a:Option Addr}{cs:List Value}:∀{F:Fr},(a,cs)∈F->FAt F a cs
 | [],h=>(List.not_mem_nil h).elim
 | (b,d)::F,h=>by
  rcases List.mem_cons.1 h with h|h;·cases h;exact .head
  ·exact .tail (FAt.of_mem h)
theorem FSub.ofSub{F:Fr}:∀{F':Fr},(∀f∈F',f∈F)->FSub F F'
 | [],_=>.nil
 | (a,cs)::F',h=>.cons (FAt.of_mem (h _ (List.mem_cons_self ..))) (FSub.ofSub λ f hf=>h f (List.mem_cons_of_mem _ hf))
theorem SF.clH(h:SF w0 M H A F O w){f:Option Addr×List Value}(hf:Has A F O f):Cl w f.1 f.2:=by
 rcases hf with h0|h1|h1|⟨o,ho,h1,h2⟩;·rw[h0];exact Cl.nil _ _
 ·exact(h.old f h1).1
 ·exact(h.new f h1).1
 ·rw[<- h1,<- h2];exact(h.own o ho).1.cl
theorem SF.stAt{w0 w:World}{M:List Nat}{H:List (Nat×Obj)}{A F:Fr}{O:List Ow}(h:SF w0 M H A F O w){L:List NdV}{cs:List Int}{pn pc:Option Addr}(h1:Has A F O (pn,nvC L))(h2:Has A F O (pc,refsC cs))(h3:∀f∈famF L,Has A F O f)(hf:Fits L):StAt w L cs pn pc :=⟨h.clH h1,h.clH h2,λ f hm=>h.clH (h3 f hm),hf⟩
theorem SF.memStart(h:SF w0 M H A F O w)(hH:Ats H is hs H')(hO:Ats O js os O'){A0:Fr}(hA:HasAll A F O' A0):SF w (Ks hs os) hs A0 [] os w:=by
 have pH:=hH.perm;have pO:=hO.perm;have h1:=h.perm pH.symm pO.symm;have hnd:=(Ks_perm pH.symm pO.symm).nodup_iff.2 h.dis;have sub:(Ks hs os).Sublist (Ks (hs++H') (os++O')):=by unfold Ks;rw[List.map_append,List.flatMap_append];exact(List.sublist_append_left _ _).append (List.sublist_append_left _ _)
 have nd1:(Ks hs os).Nodup:=hnd.sublist sub;have kperm:(Ks (hs++H') (os++O')).Perm (Ks hs os++Ks H' O'):=by unfold Ks;rw[List.map_append,List.flatMap_append];simp only[List.append_assoc];refine List.Perm.append_left _ ?_;rw[<- List.append_assoc,<- List.append_assoc];exact List.Perm.append_right _ List.perm_append_comm
 have disj:∀b∈Ks hs os,b∉Ks H' O':=λ b hb hm=>(List.nodup_append.1 (kperm.nodup_iff.1 hnd)).2.2 b hb b hm rfl
 refine⟨⟨rfl,rfl,rfl,Nat.le_refl _,λ _ _ _=>rfl,λ p hp=>h1.st.has p (List.mem_append_left _ hp),λ p hp=>.inl (mem_Ks.2 (.inl ⟨p,hp,rfl⟩)),(List.nodup_append.1 nd1).1⟩,λ f hf=>?_,λ _ h=>(List.not_mem_nil h).elim,λ o ho=>⟨(h1.own o (List.mem_append_left _ ho)).1,λ b hb=>.inr (mem_Ks.2 (.inr ⟨o,ho,hb⟩))⟩,nd1⟩;have hg:=hA.get f hf;refine⟨?_,λ hc hm=>?_⟩
 ·rcases hg with h0|h2|h2|⟨o,ho,h2,h3⟩;·rw[h0];exact Cl.nil _ _
  ·exact(h.old f h2).1
  ·exact(h.new f h2).1
  ·rw[<- h2,<- h3];exact(h1.own o (List.mem_append_right _ ho)).1.cl
 ·rcases hg with h0|h2|h2|⟨o,ho,h2,h3⟩;·exact hc h0
  ·exact(h1.old f h2).2 hc (sub.subset hm)
  ·exact((h1.new f h2).2 hc).1 (sub.subset hm)
  ·have hok:=(h1.own o (List.mem_append_right _ ho)).1;have hb:=hok.blk (by rw[h3];exact hc);exact disj _ hm (mem_Ks.2 (.inr ⟨o,ho,by rw[hb,h2];exact List.mem_singleton.2 rfl⟩))
theorem SF.callMem(h:SF w0 M H A F O w)(hH:Ats H is hs H')(hO:Ats O js os O'){hs' Hc:List (Nat×Obj)}{os' Oc:List Ow}{Fc:Fr}
  (hc:SF w (Ks hs os) (hs'++Hc) [] Fc (os'++Oc) w') (h1:is.length=hs'.length) (h2:js.length=os'.length) :
  SF w0 M (Hc++putA is hs' H') A (Fc++F) (Oc++putA js os' O') w':=by
 have pH:=hH.perm;have pO:=hO.perm;have hp:=h.perm pH.symm pO.symm;have qH:=putA_perm is hs' H' h1;have qO:=putA_perm js os' O' h2;have kperm:∀(a c:List (Nat×Obj)) (b d:List Ow),(Ks (a++c) (b++d)).Perm (Ks a b++Ks c d):=λ a c b d=>by unfold Ks;rw[List.map_append,List.flatMap_append];simp only[List.append_assoc];refine List.Perm.append_left _ ?_;rw[<- List.append_assoc,<- List.append_assoc];exact List.Perm.append_right _ List.perm_append_comm
 have nd0:=(kperm hs H' os O').nodup_iff.1 hp.dis;have disj:∀b∈Ks hs os,b∉Ks H' O':=λ b hb hm=>(List.nodup_append.1 nd0).2.2 b hb b hm rfl
 have sub:∀b∈Ks hs' os',b∈Ks (hs'++Hc) (os'++Oc):=λ b hb=>(kperm hs' Hc os' Oc).mem_iff.2 (List.mem_append_left _ hb)
 have nd1:(Ks (hs'++H') (os'++O')).Nodup:=by
  rw[(kperm hs' H' os' O').nodup_iff];refine List.nodup_append.2 ⟨(List.nodup_append.1 ((kperm hs' Hc os' Oc).nodup_iff.1 hc.dis)).1,(List.nodup_append.1 nd0).2.1,λ a ha b hb e=>?_⟩;subst e;rcases hc.newM a (sub a ha) with h3|h3;·have:=hp.lt a ((kperm hs H' os O').mem_iff.2 (List.mem_append_right _ hb));omega
  ·exact disj a h3 hb
 have r:=hp.callM (D:=Ks hs os) (Hm:=hs') (Hc:=Hc) (H1:=hs'++H') (Fc:=Fc) (Om:=os') (Oc:=Oc) (O1:=os'++O') hc (λ b hb=>(kperm hs H' os O').mem_iff.2 (List.mem_append_left _ hb))
  (λ p hpm=>by
   rcases List.mem_append.1 hpm with h3|h3
   ·exact .inl h3
   ·exact .inr ⟨List.mem_append_right _ h3,λ hm=>disj _ hm (mem_Ks.2 (.inl ⟨p,h3,rfl⟩))⟩)
  (λ o ho=>by
   rcases List.mem_append.1 ho with h3|h3
   ·exact .inl h3
   ·exact .inr ⟨List.mem_append_right _ h3,λ b hb hm=>disj _ hm (mem_Ks.2 (.inr ⟨o,h3,hb⟩))⟩)
  nd1
 exact r.perm (List.Perm.append_left _ qH) (List.Perm.append_left _ qO)
theorem SF.subF(h:SF w0 M H A F O w){F':Fr}(hF:∀f∈F',f.2=[]∨f∈F):SF w0 M H A F' O w:=⟨h.st,h.old,λ f hf=>by
 rcases hF f hf with h0|h1;·exact⟨by rw[h0];exact Cl.nil _ _,λ hc=>absurd h0 hc⟩
 ·exact h.new f h1,h.own,h.dis⟩
theorem SF.swapO{o1 o2:Ow}(h:SF w0 M H A F (o1::o2::O) w):SF w0 M H A F (o2::o1::O) w:=h.perm (List.Perm.refl _) (List.Perm.swap _ _ _)
theorem SF.pushF{L:List NdV}{v:NdV}{F':Fr}(h:SF w0 M H A F O w)(h1:(v.nd.brA,refsC v.xs)∈F)(h2:(v.nd.prA,prC v.ys)∈F)(h3:∀f∈famF L,f∈F):SF w0 M H A (famF (L++[v])) O w:=h.subF λ f hf=>by
 rw[famF_append] at hf;rcases List.mem_append.1 hf with hf|hf;·exact .inr (h3 f hf)
 ·simp only[famF,List.flatMap_cons,List.flatMap_nil,List.append_nil,NdV.fr,List.mem_cons,List.not_mem_nil,or_false] at hf;rcases hf with rfl|rfl;·exact .inr h1
  ·exact .inr h2
theorem FSub.all{F:Fr}:FSub F F:=FSub.ofSub λ _ h=>h
theorem SF.z0{w:World}{H':List (Nat×Obj)}{O':List Ow}(h:SF w0 M H A F O w)(hH:H'.Sublist H:=by repeat (first|exact List.nil_sublist _|apply List.Sublist.cons_cons|apply List.Sublist.cons))(hO:O'.Sublist O:=by repeat (first|exact List.nil_sublist _|apply List.Sublist.cons_cons|apply List.Sublist.cons)):SF w0 M H' [] F O' w:=h.finH hH FSub.all hO
theorem SF.z4{w:World}{H':List (Nat×Obj)}{O':List Ow}(h:SF w0 M H A F O w)(hH:H'.Sublist H:=by repeat (first|exact List.Sublist.refl _|exact List.nil_sublist _|apply List.Sublist.cons))(hO:O'.Sublist O:=by repeat (first|exact List.Sublist.refl _|exact List.nil_sublist _|apply List.Sublist.cons)):SF w0 M H' A F O' w:=h.back hH FSub.all hO
end
end
end Go.Ct
namespace Go.Proofs.YtdnklbipddigbaaGreat
section
open Go Go.RowKit Go.Ct
abbrev mO(L:List NdV)(cs:List Int)(gen acc:Int)(pn:Option Addr)(cn:Nat)(pc:Option Addr)(cc:Nat):Obj:=.cells ⟨[.slice pn L.length cn,.slice pc cs.length cc,.int .i64 gen,.int .i64 acc]⟩ 54 (0,0)
abbrev aO(L:List NdV)(cs:List Int)(gen acc:Int)(pn:Option Addr)(cn:Nat)(pc:Option Addr)(cc:Nat):Obj:=.cells ⟨[.slice pn L.length cn,.slice pc cs.length cc,.int .i64 gen,.int .i64 acc]⟩ 129 (0,0)
abbrev mW(L:List NdV)(cs:List Int)(pn:Option Addr)(cn:Nat)(pc:Option Addr)(cc:Nat):List Ow:=[⟨pn,nvC L,cn,45,14⟩,⟨pc,refsC cs,cc,28,1⟩]
theorem mOpen{w0 w:World}{D:List Nat}{b:Nat}{L:List NdV}{cs:List Int}{gen acc:Int}{pn pc:Option Addr}{cn cc:Nat}{A F:Fr}(h:SF w0 D [(b,mO L cs gen acc pn cn pc cc)] A F (mW L cs pn cn pc cc) w) :
  SF w0 D [(b,.cells ⟨[.slice pn L.length cn,.slice pc cs.length cc,.int .i64 gen,.int .i64 acc]⟩ 54 (0,0))] A F [⟨pn,nvC L,cn,45,14⟩,⟨pc,refsC cs,cc,28,1⟩] w:=h
variable{S:List (Nat×Value)}{w0 w:World}{M:List Nat}{H:List (Nat×Obj)}{A F:Fr}{O:List Ow}{ty:TypeId}{pos:String}{af:Array Edge}{gd:Option (Nat×Bool)}{X:Type}{V:X->Value}
theorem cM{φ:X->Prop}{hs H':List (Nat×Obj)}{os O':List Ow}{hs' H1:X->List (Nat×Obj)}{os' O1:X->List Ow}{Fc F1:X->Fr}{A0:Fr}{is js:List Nat}{f:FuncId}{xs:List Operand}{at_:Array TypeId}{vs:List Value}{dst:Option Nat}
  (ha:evL S xs=vs:=by(repeat (first|exact evL_nil _|(apply evL_cons;focus ((conv=>{lhs;whnf});try exact rfl))));first|done|fail) (hp:plain Tryz.prog f=true:=by kernel_rfl)
  (hc:∀w,SF w (Ks hs os) hs A0 [] os w->Calls Tryz.prog f ⟨vs⟩ w λ e w'=>∃x,e=.returned (V x)/\φ x/\SF w (Ks hs os) (hs' x) [] (Fc x) (os' x) w')
  (hH:Ats H is hs H':=by(repeat (first|exact Ats.nil|(apply Ats.cons;(focus ((repeat (first|exact LAt.head|apply LAt.tail));done));simp only[delA])));first|done|fail)
  (hO:Ats O js os O':=by(repeat (first|exact Ats.nil|(apply Ats.cons;(focus ((repeat (first|exact LAt.head|apply LAt.tail));done));simp only[delA])));first|done|fail)
  (hA:HasAll A F O' A0:=by(repeat (first|exact HasAll.of (λ _ h=>Or.inr (Or.inl h))|exact HasAll.nil|(refine HasAll.cons (by first|exact Or.inl rfl|exact Or.inr (Or.inr (Or.inl (by simp)))|exact Or.inr (Or.inl (by simp))|exact Or.inr (Or.inr (Or.inr (by simp)))) ?_)));first|done|fail)
  (hl1:∀x,is.length=(hs' x).length:=by intro x;exact rfl) (hl2:∀x,js.length=(os' x).length:=by intro x;exact rfl)
  (hH1:∀x,putA is (hs' x) H'=H1 x:=by intro x;first|(simp only[putA,insA];exact rfl)|exact rfl) (hF1:∀x,Fc x++F=F1 x:=by intro x;first|(simp only[List.nil_append,List.cons_append];exact rfl)|exact rfl) (hO1:∀x,putA js (os' x) O'=O1 x:=by intro x;simp only[putA,insA,mW];exact rfl) :
  Loud Tryz.prog S (SF w0 M H A F O) ⟨dst,.call {callee:=.value (.func f),args:=⟨xs⟩,argTypes:=at_},ty,pos,af,gd⟩ X V (λ x w=>φ x/\SF w0 M (H1 x) A (F1 x) (O1 x) w) :=
 loud_call (run_call hp ha) λ w hw=>(hc w (hw.memStart hH hO hA)).mono λ _ _ ⟨x,he,hx,hs⟩=>⟨x,he,hx,by have:=hw.callMem (hs':=hs' x) (Hc:=[]) (os':=os' x) (Oc:=[]) hH hO (by simpa using hs) (hl1 x) (hl2 x);rw[<- hH1 x,<- hF1 x,<- hO1 x];simpa using this⟩
end
section
open Go.RowKit Go.Ct
variable{w:World}{D:List Nat}{b:Nat}{L:List NdV}{cs:List Int}{gen acc:Int}{pn pc:Option Addr}{cn cc:Nat}{A:Fr}
theorem mNewCell_c(v:Int)(hs:SF w D [(b,mO L cs gen acc pn cn pc cc)] A [] (mW L cs pn cn pc cc) w)(hl:cs.length<=274877906944) :
  Calls Tryz.prog 50 #[.pointer (some ⟨b,0,none⟩),.int .i64 v] w λ e w'=>∃q:Option Addr×Nat,e=.returned (.int .i64 ((cs.length+1:Nat):Int))/\True /\
   SF w D [(b,mO L (cs++[v]) gen acc pn cn q.1 q.2)] [] [] (mW L (cs++[v]) pn cn q.1 q.2) w':=by refine enter Tryz.func50 Tryz.ntmps50 rfl rfl (mOpen hs) ?_;simp only[mkS];refine Kf6 ?_;refine J49 ?_;refine Ke9 ?_;refine j_buildSlice (λ x12=>?_);(refine j_append (λ x13=>?_);try (refine l_fact (λ h13=>?_)));refine J49 ?_;refine J23 ?_;refine J45 ?_;refine J85 ?_;refine J1 ?_;refine k_rv Tryz.results50 (λ w hw=>?_);exact⟨x13,rfl,trivial,by simpa[mO,mW] using hw.finH (F':=[])⟩
end
end Go.Proofs.YtdnklbipddigbaaGreat
namespace Go.Ct
section
def cellV(cs:List Int)(c:Int):Int:=if 1<=c/\c<=cs.length then cs.getD (c-1).toNat 0 else 0
def CasOk(cs:List Int)(c old:Int):Prop:=1<=c/\c<=cs.length/\cs.getD (c-1).toNat 0=old
def casL(cs:List Int)(c old new:Int):List Int:=if 1<=c/\c<=cs.length/\cs.getD (c-1).toNat 0=old then cs.set (c-1).toNat new else cs
def up(i:Int):Int:=Go.IntKind.i64.wrap (i+1)
theorem cellV_no{cs:List Int}{c:Int}(h:¬(1<=c/\c<=cs.length)):cellV cs c=0:=if_neg h
theorem cellV_at{cs:List Int}{k:Nat}(h:k<cs.length):cellV cs ((k+1:Nat):Int)=cs.getD k 0:=by unfold cellV;rw[if_pos (by omega),show(((k+1:Nat):Int)-1).toNat=k by omega]
theorem casL_no{cs:List Int}{c old new:Int}(h:¬(1<=c/\c<=cs.length/\cs.getD (c-1).toNat 0=old)):casL cs c old new=cs:=if_neg h
theorem casL_at{cs:List Int}{k:Nat}{old new:Int}(h:k<cs.length)(ho:cs.getD k 0=old):casL cs ((k+1:Nat):Int) old new=cs.set k new:=by
 have e:(((k+1:Nat):Int)-1).toNat=k:=by omega
 unfold casL;rw[e,if_pos ⟨by omega,by omega,ho⟩]
theorem cas_lt{cs:List Int}{c old:Int}(h:c<1):(false=true↔CasOk cs c old):=⟨(λ h=>nomatch h),λ h2=>absurd h2.1 (by omega)⟩
theorem casL_lt{cs:List Int}{c old new:Int}(h:c<1):casL cs c old new=cs:=casL_no (by omega)
theorem cas_ge{cs:List Int}{c old:Int}(h:(cs.length:Int)<c):(false=true↔CasOk cs c old):=⟨(λ h=>nomatch h),λ h2=>absurd h2.2.1 (by omega)⟩
theorem casL_ge{cs:List Int}{c old new:Int}(h:(cs.length:Int)<c):casL cs c old new=cs:=casL_no (by omega)
theorem cas_ne{cs:List Int}{k:Nat}{old:Int}(h:cs.getD k 0≠old):(false=true↔CasOk cs ((k+1:Nat):Int) old):=⟨(λ h=>nomatch h),λ h2=>absurd (by have:=h2.2.2;rwa [show(((k+1:Nat):Int)-1).toNat=k by omega] at this) h⟩
theorem casL_ne{cs:List Int}{k:Nat}{old new:Int}(h:cs.getD k 0≠old):casL cs ((k+1:Nat):Int) old new=cs:=casL_no λ h2=>absurd (by have:=h2.2.2;rwa [show(((k+1:Nat):Int)-1).toNat=k by omega] at this) h
theorem cas_eq{cs:List Int}{k:Nat}{old:Int}(hk:k<cs.length)(h:cs.getD k 0=old):(true=true↔CasOk cs ((k+1:Nat):Int) old):=⟨λ _=>⟨by omega,by omega,by rw[show(((k+1:Nat):Int)-1).toNat=k by omega];exact h⟩,λ _=>rfl⟩
theorem casL_length{cs:List Int}{c old new:Int}:(casL cs c old new).length=cs.length:=by unfold casL;split<;>simp
end
end Go.Ct
namespace Go.Proofs.YtdnklbipddigbaaGreat
open Go.Proofs.Tryz (prog)
open Go.RowKit Go.Ct
section
variable{w:World}{D:List Nat}{b:Nat}{L:List NdV}{cs:List Int}{gen acc:Int}{pn pc:Option Addr}{cn cc:Nat}{A:Fr}
theorem mNewGen_c(hs:SF w D [(b,mO L cs gen acc pn cn pc cc)] A [] (mW L cs pn cn pc cc) w):Calls prog 90 #[.pointer (some ⟨b,0,none⟩)] w λ e w'=>∃q:Unit,e=.returned (.int .i64 (up gen))/\True/\SF w D [(b,mO L cs (up gen) acc pn cn pc cc)] [] [] (mW L cs pn cn pc cc) w':=by refine enter Tryz.func90 Tryz.ntmps90 rfl rfl (mOpen hs) ?_;simp only[mkS];refine J10 ?_;refine J45 ?_;refine J3 ?_;refine l_quiet (o_add rf rf) rfl ?_;refine J49 ?_;refine J23 ?_;refine J45 ?_;refine J3 ?_;refine J1 ?_;refine k_rv Tryz.results90 (λ w hw=>?_);exact⟨(),rfl,trivial,by simpa[mO,mW] using hw.finH (F':=[])⟩
theorem mLoad_no(hs:SF w D [(b,mO L cs gen acc pn cn pc cc)] A [] (mW L cs pn cn pc cc) w)(c:Int)(hc:c<1):Calls prog 16 #[.pointer (some ⟨b,0,none⟩),.int .i64 c] w λ e w'=>∃q:Unit,e=.returned (.int .i64 (cellV cs c))/\True/\SF w D [(b,mO L cs gen (up acc) pn cn pc cc)] [] [] (mW L cs pn cn pc cc) w':=by
 refine enter Tryz.func16 Tryz.ntmps16 rfl rfl (mOpen hs) ?_;simp only[mkS];refine J10 ?_;refine J26 ?_;refine l_quiet (o_add rf rf) rfl ?_;refine J61 ?_;refine Ke4 ?_;(refine lcs 14 (λ g14=>?_) (λ g14=>?_)<;>(try (exfalso;omega))<;>(refine j_un ?_));refine J79 ?_;refine Ke5 ?_;refine kif (λ c23=>?_) (λ c23=>?_)
 ·try (exfalso;omega)
  refine J10 ?_;refine k_rv Tryz.results16 (λ w hw=>?_);(exact⟨(),by rw[cellV_no (by omega)];rfl,trivial,hw.finH⟩)
 ·exact nv c23
theorem mCAS_no(hs:SF w D [(b,mO L cs gen acc pn cn pc cc)] A [] (mW L cs pn cn pc cc) w)(c:Int)(old new:Int)(hc:c<1):Calls prog 15 #[.pointer (some ⟨b,0,none⟩),.int .i64 c,.int .i64 old,.int .i64 new] w λ e w'=>∃r:Bool,e=.returned (.bool r)/\(r=true↔CasOk cs c old)/\SF w D [(b,mO L (casL cs c old new) gen (up acc) pn cn pc cc)] [] [] (mW L (casL cs c old new) pn cn pc cc) w':=by
 refine enter Tryz.func15 Tryz.ntmps15 rfl rfl (mOpen hs) ?_;simp only[mkS];refine J10 ?_;refine J26 ?_;refine l_quiet (o_add rf rf) rfl ?_;refine J61 ?_;refine Ke4 ?_;(refine lcs 18 (λ g18=>?_) (λ g18=>?_)<;>(try (exfalso;omega))<;>(refine j_un ?_));refine J79 ?_;refine J43 ?_;refine Ke7 ?_;refine j_un ?_;refine J36 ?_;refine J6 ?_;refine J68 ?_;(refine j_un ?_);refine J29 ?_;refine J38 ?_;refine l_nil ?_;refine kif (λ c40=>?_) (λ c40=>?_)
 ·try (exfalso;omega)
  refine J10 ?_;refine k_rv Tryz.results15 (λ w hw=>?_);(exact⟨false,rfl,cas_lt hc,by rw[casL_lt hc];exact hw.finH⟩)
 ·exact nv c40
theorem mLoad_at(hs:SF w D [(b,mO L cs gen acc pn cn pc cc)] A [] (mW L cs pn cn pc cc) w){k:Nat}(hk:(k:Int)<9223372036854775807)(hl:cs.length<=274877906944):Calls prog 16 #[.pointer (some ⟨b,0,none⟩),.int .i64 ((k+1:Nat):Int)] w λ e w'=>∃q:Unit,e=.returned (.int .i64 (cellV cs ((k+1:Nat):Int)))/\True/\SF w D [(b,mO L cs gen (up acc) pn cn pc cc)] [] [] (mW L cs pn cn pc cc) w':=by
 refine enter Tryz.func16 Tryz.ntmps16 rfl rfl (mOpen hs) ?_;simp only[mkS];refine J10 ?_;refine J26 ?_;refine l_quiet (o_add rf rf) rfl ?_;refine J61 ?_;refine Ke4 ?_;(refine Ka3 ?_);refine J79 ?_;refine Ke5 ?_;refine kif (λ c23=>?_) (λ c23=>?_)
 ·try (exfalso;omega)
  refine J10 ?_;refine k_rv Tryz.results16 (λ w hw=>?_);(exact⟨(),by rw[cellV_no (by omega)];rfl,trivial,hw.finH⟩)
 ·try (exfalso;omega)
  refine k_skip ?_;refine J45 ?_;refine Ke9 ?_;refine j_dec ?_;refine J53 ?_;refine J1 ?_;refine k_rv Tryz.results16 (λ w hw=>?_);(exact⟨(),by rw[cellV_at (by omega)];rfl,trivial,hw.finH⟩)
theorem mCAS_at(hs:SF w D [(b,mO L cs gen acc pn cn pc cc)] A [] (mW L cs pn cn pc cc) w){k:Nat}(hk:(k:Int)<9223372036854775807)(old new:Int)(hl:cs.length<=274877906944):Calls prog 15 #[.pointer (some ⟨b,0,none⟩),.int .i64 ((k+1:Nat):Int),.int .i64 old,.int .i64 new] w λ e w'=>∃r:Bool,e=.returned (.bool r)/\(r=true↔CasOk cs ((k+1:Nat):Int) old)/\SF w D [(b,mO L (casL cs ((k+1:Nat):Int) old new) gen (up acc) pn cn pc cc)] [] [] (mW L (casL cs ((k+1:Nat):Int) old new) pn cn pc cc) w':=by
 refine enter Tryz.func15 Tryz.ntmps15 rfl rfl (mOpen hs) ?_;simp only[mkS];refine J10 ?_;refine J26 ?_;refine l_quiet (o_add rf rf) rfl ?_;refine J61 ?_;refine Ke4 ?_;(refine Ka3 ?_);refine J79 ?_;refine J43 ?_;refine Ke7 ?_;(refine lcs 28 (λ g28=>?_) (λ g28=>?_)<;>refine Ka0 ?_);all_goals (refine J36 ?_;refine J6 ?_;refine J68 ?_;(first|refine j_un ?_|(refine j_yes ?_;refine j_indexAddr ?_));refine J29 ?_;refine J38 ?_;refine l_nil ?_)
 all_goals
 refine kif (λ c40=>?_) (λ c40=>?_)
 ·all_goals try (exfalso;omega)
  all_goals refine J10 ?_
  all_goals refine k_rv Tryz.results15 (λ w hw=>?_);first|exact⟨false,rfl,cas_ge (by omega),by rw[casL_ge (by omega)];exact hw.finH⟩|exact⟨false,rfl,cas_ne (by simpa using c40),by rw[casL_ne (by simpa using c40)];exact hw.finH⟩ 
 ·try exact nv c40
  all_goals (refine k_skip ?_;refine J45 ?_;refine Ke9 ?_;refine j_dec ?_;refine j_move ?_;refine j_indexAddr ?_;refine J5 ?_;refine J10 ?_)
  all_goals refine k_rv Tryz.results15 (λ w hw=>?_);(exact⟨true,rfl,cas_eq (by omega) (by simpa using c40),by rw[casL_at (by omega) (by simpa using c40)];simpa[mW,aO,mO] using hw.finH (F':=[])⟩)
theorem mLoad_c(hs:SF w D [(b,mO L cs gen acc pn cn pc cc)] A [] (mW L cs pn cn pc cc) w)(c:Int)(hc:c<=9223372036854775807)(hl:cs.length<=274877906944):Calls prog 16 #[.pointer (some ⟨b,0,none⟩),.int .i64 c] w λ e w'=>∃q:Unit,e=.returned (.int .i64 (cellV cs c))/\True/\SF w D [(b,mO L cs gen (up acc) pn cn pc cc)] [] [] (mW L cs pn cn pc cc) w':=by
 rcases Int.lt_or_le c 1 with h|h;·exact mLoad_no hs c h
 ·obtain⟨k,rfl⟩:∃k:Nat,c=((k+1:Nat):Int):=⟨(c-1).toNat,by omega⟩;exact mLoad_at hs (by omega) hl
theorem mCAS_c(hs:SF w D [(b,mO L cs gen acc pn cn pc cc)] A [] (mW L cs pn cn pc cc) w)(c old new:Int)(hc:c<=9223372036854775807)(hl:cs.length<=274877906944):Calls prog 15 #[.pointer (some ⟨b,0,none⟩),.int .i64 c,.int .i64 old,.int .i64 new] w λ e w'=>∃r:Bool,e=.returned (.bool r)/\(r=true↔CasOk cs c old)/\SF w D [(b,mO L (casL cs c old new) gen (up acc) pn cn pc cc)] [] [] (mW L (casL cs c old new) pn cn pc cc) w':=by
 rcases Int.lt_or_le c 1 with h|h;·exact mCAS_no hs c old new h
 ·obtain⟨k,rfl⟩:∃k:Nat,c=((k+1:Nat):Int):=⟨(c-1).toNat,by omega⟩;exact mCAS_at hs (by omega) old new hl
end
end Go.Proofs.YtdnklbipddigbaaGreat
