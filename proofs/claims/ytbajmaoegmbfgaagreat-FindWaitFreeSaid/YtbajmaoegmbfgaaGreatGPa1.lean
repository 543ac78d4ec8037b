/- Pairs: valid lists are maps. -/
import Derived.Test.YtbajmaoegmbfgaaGreatGSlices
import Derived.Lib.Bytealg
import Derived.Laws.Externs

set_option linter.unusedSimpArgs false
set_option linter.unusedVariables false
namespace Go.Proofs.YtbajmaoegmbfgaaGreat
section
open Go.RowKit Go.Ct
theorem aAj{a b c:ByteArray}(h:dA a b=true)(h2:dA c b=false):dA a c=true:=by
 cases hb:dA b c with
 | true=>exact iS h hb
 | false=>have:=qN hb h2;subst this;exact h
theorem aAg{a b c:ByteArray}(h:dA b a=false)(h2:dA c b=false):dA c a=false:=by
 cases hc:dA c a with
 | false=>rfl
 | true=>have:=aAj hc h;rw[this] at h2;cases h2
theorem nC{a b:ByteArray}(h:dA a b=true):a≠b:=λ e=>by subst e;rw[sK] at h;cases h
theorem Tv{a b:ByteArray}(h:dA b a=false)(hn:a≠b):dA a b=true:=by
 cases hb:dA a b with
 | true=>rfl
 | false=>exact absurd (qN hb h) hn
def SA(l:List Pr):Prop:=l.Pairwise λ p q=>dA p.1 q.1=true
theorem Wt{l:List Pr}(h:vh l):∀d i,i+d+1<l.length->dA (l.getD i (⟨#[]⟩,0)).1 (l.getD (i+d+1) (⟨#[]⟩,0)).1=true
 | 0,i,hi=>by have:=h (i+1) (by omega) hi;rwa [Nat.add_sub_cancel] at this
 | d+1,i,hi=>iS (Wt h d i (by omega)) (by have:=h (i+(d+1)+1) (by omega) hi;rwa [Nat.add_sub_cancel] at this)
theorem gH{l:List Pr}{i:Nat}(h:i<l.length):l.getD i (⟨#[]⟩,0)=l[i]:=by simp[List.getD,List.getElem?_eq_getElem h]
theorem mZ{l:List Pr}:vh l↔SA l:=by
 constructor
 ·intro h
  refine List.pairwise_iff_getElem.2 λ i j hi hj hij=>?_
  have:=Wt h (j-i-1) i (by omega)
  rw[show i+(j-i-1)+1=j by omega,gH hi,gH hj] at this
  exact this
 ·intro h i h1 hi
  rw[gH (by omega),gH hi]
  exact List.pairwise_iff_getElem.1 h (i-1) i (by omega) hi (by omega)
def rE:List Pr->ByteArray->Option Int
 | [],_=>none
 | p::l,k=>if p.1=k then some p.2 else rE l k
theorem nU{l:List Pr}{k:ByteArray}(h:∀p∈l,p.1≠k):rE l k=none:=by
 induction l with
 | nil=>rfl
 | cons p l ih=>exact(if_neg (h p (.head _))).trans (ih λ q hq=>h q (.tail _ hq))
theorem ae:∀{l m:List Pr},SA l->SA m->(∀k,rE l k=rE m k)->l=m
 | [],[],_,_,_=>rfl
 | [],q::m,_,_,h=>by have:=h q.1;simp[rE] at this
 | p::l,[],_,_,h=>by have:=h p.1;simp[rE] at this
 | p::l,q::m,h1,h2,h=>by
  have h1':=List.pairwise_cons.1 h1
  have h2':=List.pairwise_cons.1 h2
  have e1:dA p.1 q.1=false:=by
   cases hb:dA p.1 q.1 with
   | false=>rfl
   | true =>
    have:rE (q::m) p.1=none:=nU λ x hx=>by
     rcases List.mem_cons.1 hx with rfl|hx
     ·exact(nC hb).symm
     ·exact(nC (iS hb (h2'.1 x hx))).symm
    have h':=h p.1
    rw[this] at h';simp[rE] at h'
  have e2:dA q.1 p.1=false:=by
   cases hb:dA q.1 p.1 with
   | false=>rfl
   | true =>
    have:rE (p::l) q.1=none:=nU λ x hx=>by
     rcases List.mem_cons.1 hx with rfl|hx
     ·exact(nC hb).symm
     ·exact(nC (iS hb (h1'.1 x hx))).symm
    have h':=h q.1
    rw[this] at h';simp[rE] at h'
  have ek:=qN e1 e2
  have ev:p.2=q.2:=by have:=h p.1;simpa[rE,ek] using this
  have et:l=m:=ae h1'.2 h2'.2 λ k=>by
   by_cases hk:p.1=k
   ·subst hk
    rw[nU λ x hx=>(nC (h1'.1 x hx)).symm,nU λ x hx=>by rw[ek];exact(nC (h2'.1 x hx)).symm]
   ·have:=h k
    rw[rE,rE,if_neg hk,if_neg (by rw[<- ek];exact hk)] at this
    exact this
  rw[et,show p=q from Prod.ext ek ev]
def kV:List Pr->ByteArray->Int->List Pr
 | [],k,v=>[(k,v)]
 | p::l,k,v=>if dA p.1 k=true then p::kV l k v else if p.1=k then(k,v)::l else(k,v)::p::l
def iT(l:List Pr)(k:ByteArray):List Pr:=l.filter λ p=>decide (p.1≠k)
theorem Aq{l:List Pr}{k:ByteArray}{v:Int}:∀{q:Pr},q∈kV l k v->q=(k,v)∨q∈l:=by
 induction l with
 | nil=>intro q h;rw[kV,List.mem_singleton] at h;exact .inl h
 | cons p l ih =>
  intro q h
  rw[kV] at h
  split at h
  ·rcases List.mem_cons.1 h with rfl|h
   ·exact .inr (.head _)
   ·exact(ih h).imp id (.tail _)
  ·split at h
   ·exact(List.mem_cons.1 h).imp id (.tail _)
   ·exact List.mem_cons.1 h
theorem xQ{k:ByteArray}{v:Int}:∀{l:List Pr},SA l->SA (kV l k v)
 | [],_=>List.pairwise_singleton _ _
 | p::l,h=>by
  have h':=List.pairwise_cons.1 h
  rw[kV]
  split
  ·next hlt =>
   refine List.pairwise_cons.2 ⟨λ q hq=>?_,xQ h'.2⟩
   rcases Aq hq with rfl|hq
   ·exact hlt
   ·exact h'.1 q hq
  ·next hlt =>
   split
   ·next he =>
    subst he
    exact List.pairwise_cons.2 ⟨λ q hq=>h'.1 q hq,h'.2⟩
   ·next hne =>
    have hkp:dA k p.1=true:=Tv (by simpa using hlt) (λ e=>hne e.symm)
    refine List.pairwise_cons.2 ⟨λ q hq=>?_,h⟩
    rcases List.mem_cons.1 hq with rfl|hq
    ·exact hkp
    ·exact iS hkp (h'.1 q hq)
theorem Fl{k:ByteArray}{v:Int}(j:ByteArray):∀{l:List Pr},SA l->rE (kV l k v) j=if j=k then some v else rE l j
 | [],_=>by
  simp only[kV,rE]
  by_cases h:j=k
  ·rw[if_pos h,if_pos h.symm]
  ·rw[if_neg h,if_neg λ e=>h e.symm]
 | p::l,h=>by
  have h':=List.pairwise_cons.1 h
  have ih:=Fl (k:=k) (v:=v) j h'.2
  rw[kV]
  split
  ·next hlt =>
   rw[rE,ih,rE]
   by_cases hj:j=k
   ·rw[if_pos hj,if_pos hj,if_neg λ e=>nC hlt (e.trans hj)]
   ·rw[if_neg hj,if_neg hj]
  ·split
   ·next he =>
    rw[rE,rE]
    by_cases hj:j=k
    ·rw[if_pos hj,if_pos hj.symm]
    ·rw[if_neg hj,if_neg λ e=>hj e.symm,if_neg λ e=>hj (e.symm.trans he)]
   ·rw[rE]
    by_cases hj:j=k
    ·rw[if_pos hj,if_pos hj.symm]
    ·rw[if_neg hj,if_neg λ e=>hj e.symm]
theorem vA{l:List Pr}(k:ByteArray)(h:SA l):SA (iT l k):=h.sublist List.filter_sublist
theorem Xu(l:List Pr)(k j:ByteArray):rE (iT l k) j=if j=k then none else rE l j:=by
 unfold iT
 induction l with
 | nil=>simp[rE]
 | cons p l ih =>
  rw[List.filter_cons]
  by_cases hp:p.1=k
  ·rw[if_neg (by simp[hp]),ih,rE]
   by_cases hj:j=k
   ·rw[if_pos hj,if_pos hj]
   ·rw[if_neg hj,if_neg hj,if_neg λ e=>hj (e.symm.trans hp)]
  ·rw[if_pos (by simp[hp]),rE,ih,rE]
   by_cases hj:j=k
   ·rw[if_pos hj,if_pos hj,if_neg λ e=>hp (e.trans hj)]
   ·rw[if_neg hj,if_neg hj]
theorem Px{l:List Pr}(h:SA l)(k:ByteArray)(v:Int):kV (iT l k) k v=kV l k v :=
 ae (xQ (vA k h)) (xQ h) λ j=>by
  rw[Fl j (vA k h),Fl j h,Xu]
  by_cases hj:j=k
  ·rw[if_pos hj,if_pos hj]
  ·rw[if_neg hj,if_neg hj,if_neg hj]
structure yP(l:List Pr)(k:ByteArray)(i:Nat):Prop where
 le:i<=l.length
 lo:∀j,j<i->dA (l.getD j (⟨#[]⟩,0)).1 k=true
 hi:∀j,i<=j->j<l.length->dA (l.getD j (⟨#[]⟩,0)).1 k=false
theorem yP.tl{p:Pr}{l:List Pr}{k:ByteArray}{i:Nat}(h:yP (p::l) k (i+1)):dA p.1 k=true/\yP l k i :=
 ⟨h.lo 0 (by omega),⟨by have:=h.le;simp at this;omega,λ j hj=>h.lo (j+1) (by omega),λ j h1 h2=>h.hi (j+1) (by omega) (by simp;omega)⟩⟩
theorem X6{k:ByteArray}{v:Int}:∀{l:List Pr} {i:Nat},yP l k i->i<l.length->(l.getD i (⟨#[]⟩,0)).1=k->kV l k v=l.set i ((l.getD i (⟨#[]⟩,0)).1,v)
 | [],i,_,h,_=>by simp at h
 | p::l,0,h,_,he=>by
  have he:p.1=k:=he
  have:dA p.1 k=false:=by rw[he];exact sK k
  rw[kV,if_neg (by rw[this];decide),if_pos he,List.set_cons_zero,<- he]
  rfl
 | p::l,i+1,h,hi,he=>by
  rw[kV,if_pos h.tl.1,List.set_cons_succ,X6 h.tl.2 (by simp at hi;omega) he]
  rfl
theorem Ud{k:ByteArray}{v:Int}:∀{l:List Pr} {i:Nat},yP l k i->¬(i<l.length/\(l.getD i (⟨#[]⟩,0)).1=k)->kV l k v=l.take i++(k,v)::l.drop i
 | [],i,h,_=>by have:=h.le;simp at this;subst this;rfl
 | p::l,0,h,hn=>by
  have:dA p.1 k=false:=h.hi 0 (Nat.le_refl _) (by simp)
  rw[kV,if_neg (by rw[this];decide),if_neg λ e:p.1=k=>hn ⟨by simp,e⟩]
  rfl
 | p::l,i+1,h,hn=>by
  rw[kV,if_pos h.tl.1,Ud h.tl.2 λ hh=>hn ⟨by simp;omega,hh.2⟩]
  rfl
theorem Kl{k:ByteArray}:∀{l:List Pr} {i:Nat},SA l->yP l k i->¬(i<l.length/\(l.getD i (⟨#[]⟩,0)).1=k)->∀p∈l,p.1≠k
 | [],_,_,_,_=>by simp
 | p::l,0,hs,h,hn=>by
  have h':=List.pairwise_cons.1 hs
  have h0:dA p.1 k=false:=h.hi 0 (Nat.le_refl _) (by simp)
  have hne:p.1≠k:=λ e=>hn ⟨by simp,e⟩
  have hlt:=Tv h0 (λ e=>hne e.symm)
  intro q hq
  rcases List.mem_cons.1 hq with rfl|hq
  ·exact hne
  ·exact(nC (iS hlt (h'.1 q hq))).symm
 | p::l,i+1,hs,h,hn=>by
  have:=Kl (List.pairwise_cons.1 hs).2 h.tl.2 λ hh=>hn ⟨by simp;omega,hh.2⟩
  intro q hq
  rcases List.mem_cons.1 hq with rfl|hq
  ·exact nC h.tl.1
  ·exact this q hq
theorem Ju{k:ByteArray}:∀{l:List Pr} {i:Nat},yP l k i->i<l.length->(l.getD i (⟨#[]⟩,0)).1=k->rE l k=some (l.getD i (⟨#[]⟩,0)).2
 | [],i,_,h,_=>by simp at h
 | p::l,0,h,_,he=>if_pos he
 | p::l,i+1,h,hi,he=>(if_neg (nC h.tl.1)).trans (Ju h.tl.2 (by simp at hi;omega) he)
theorem ll{k:ByteArray}:∀{l:List Pr} {v:Int},rE l k=some v->∃i,i<l.length/\(l.getD i (⟨#[]⟩,0)).1=k
 | [],_,h=>by cases h
 | p::l,v,h=>by
  rw[rE] at h
  split at h
  ·next he=>exact⟨0,by simp,he⟩
  ·obtain⟨i,h1,h2⟩:=ll h
   exact⟨i+1,by simp;omega,h2⟩
theorem wQ{k:ByteArray}{v:Int}:∀{l:List Pr},SA l->(kV l k v).length=if(rE l k).isSome=true then l.length else l.length+1
 | [],_=>rfl
 | p::l,h=>by
  have h':=List.pairwise_cons.1 h
  rw[kV]
  split
  ·next hlt =>
   rw[List.length_cons,wQ h'.2,rE,if_neg (nC hlt)]
   split<;>rfl
  ·next hlt =>
   split
   ·next he=>rw[rE,if_pos he];rfl
   ·next hne =>
    have hkp:dA k p.1=true:=Tv (by simpa using hlt) (λ e=>hne e.symm)
    rw[rE,if_neg hne,nU λ q hq=>(nC (iS hkp (h'.1 q hq))).symm]
    rfl
theorem Qe{k:ByteArray}:∀{l:List Pr},SA l->(iT l k).length=if(rE l k).isSome=true then l.length-1 else l.length
 | [],_=>rfl
 | p::l,h=>by
  have h':=List.pairwise_cons.1 h
  have ih:=Qe (k:=k) h'.2
  unfold iT at ih ⊢
  rw[List.filter_cons]
  by_cases hp:p.1=k
  ·have hn:∀q∈l,q.1≠k:=λ q hq=>by rw[<- hp];exact(nC (h'.1 q hq)).symm
   rw[if_neg (by simp[hp]),rE,if_pos hp,List.filter_eq_self.2 λ q hq=>by simpa using hn q hq]
   rfl
  ·rw[if_pos (by simp[hp]),List.length_cons,ih,rE,if_neg hp]
   split
   ·next hs =>
    have:1<=l.length:=by
     cases hf:rE l k with
     | none=>rw[hf] at hs;cases hs
     | some v=>obtain⟨i,hi,_⟩:=ll hf;omega
    rw[List.length_cons];omega
   ·rfl
def D7(l:List Pr):List Pr:=l.foldl (λ acc p=>kV acc p.1 p.2) []
theorem vT(l:List Pr)(p:Pr):D7 (l++[p])=kV (D7 l) p.1 p.2:=by unfold D7;rw[List.foldl_append];rfl
theorem Qh{α:Type}{Q:List α->Prop}(h0:Q [])(h1:∀l x,Q l->Q (l++[x]))(l:List α):Q l:=by
 have key:∀m:List α,Q m.reverse:=λ m=>by
  induction m with
  | nil=>exact h0
  | cons x m ih=>rw[List.reverse_cons];exact h1 _ _ ih
 have:=key l.reverse
 rwa [List.reverse_reverse] at this
theorem dp(l:List Pr):SA (D7 l):=by
 induction l using Qh with
 | h0=>exact List.Pairwise.nil
 | h1 l x ih=>rw[vT];exact xQ ih
theorem Uo(l:List Pr):(D7 l).length<=l.length:=by
 induction l using Qh with
 | h0=>exact Nat.le_refl _
 | h1 l x ih =>
  rw[vT,wQ (dp l),List.length_append,List.length_singleton]
  split<;>omega
end

/- Pairs: comparing, searching; Find, Put, Drop. -/
end Go.Proofs.YtbajmaoegmbfgaaGreat
namespace Go.Ct
section
open Go Go.RowKit
variable{P:Program}{S:List (Nat×Value)}{w0 w:World}{M:List Nat}{H:List (Nat×Obj)}{A F:Fr}{O:List Ow}
def Bb(a b:ByteArray):Int:=Lib.compareBytes a.data.toList b.data.toList
theorem vw:∀a b:List UInt8,Lib.compareBytes a b<0↔Op.bytesLess a b=true
 | [],[]=>by simp[Lib.compareBytes,Op.bytesLess]
 | [],_::_=>by simp[Lib.compareBytes,Op.bytesLess]
 | _::_,[]=>by simp[Lib.compareBytes,Op.bytesLess]
 | x::a,y::b=>by
  have ih:=vw a b
  simp only[Lib.compareBytes,Op.bytesLess]
  by_cases h:x<y
  ·simp[h]
  ·by_cases h2:y<x
   ·have:x≠y:=λ e=>by subst e;exact h h2
    simp[h,h2,this]
   ·have:x=y:=UInt8.le_antisymm (UInt8.not_lt.1 h2) (UInt8.not_lt.1 h)
    subst this
    simpa[h] using ih
theorem v7:∀a b:List UInt8,Lib.compareBytes a b=0↔a=b
 | [],[]=>by simp[Lib.compareBytes]
 | [],_::_=>by simp[Lib.compareBytes]
 | _::_,[]=>by simp[Lib.compareBytes]
 | x::a,y::b=>by
  have ih:=v7 a b
  simp only[Lib.compareBytes]
  by_cases h:x<y
  ·have:x≠y:=λ e=>by subst e;exact absurd h (UInt8.lt_irrefl _)
   simp[h,this]
  ·by_cases h2:y<x
   ·have:x≠y:=λ e=>by subst e;exact h h2
    simp[h,h2,this]
   ·have:x=y:=UInt8.le_antisymm (UInt8.not_lt.1 h2) (UInt8.not_lt.1 h)
    subst this
    simpa[h] using ih
theorem Lt{a b:ByteArray}:Bb a b<0↔dA a b=true:=by
 unfold Bb dA
 rw[ByteArray.toList_eq,ByteArray.toList_eq]
 exact vw _ _
theorem Vd{a b:ByteArray}:¬Bb a b<0↔dA a b=false:=by
 rw[Lt];simp
theorem q0{a b:ByteArray}:Bb a b=0↔a=b:=by
 unfold Bb
 rw[v7]
 exact⟨λ h=>toList_inj (by rw[ByteArray.toList_eq,ByteArray.toList_eq];exact h),λ h=>by rw[h]⟩
theorem Yp{x:Operand}{f:FuncId}{os:List Operand}{at_:Array TypeId}{vs:List Value}{d:Option Nat}{ty:TypeId}{pos:String}{af:Array Edge}{gd:Option (Nat×Bool)}(hx:ev S x=.func (.func f) #[] #[])(hp:plain P f=true)(ha:pI S os=vs)(w:World) :
  (execOp (ev S) ⟨d,.call {callee:=.value x,args:=⟨os⟩,argTypes:=at_},ty,pos,af,gd⟩).run P w=.ok (.enter f ⟨vs⟩) w:=by
 subst ha
 have hm:(os.map (ev S)).toArray=⟨pI S os⟩:=by rw[Az]
 simp[execOp,resolve,hx,Deferred.ofValue,invoke,oY hp,hm]
theorem aCr{v:Value}{x:Operand}{f:FuncId}{xs:List Operand}{at_:Array TypeId}{vs:List Value}{dst:Option Nat}{ty:TypeId}{pos:String}{af:Array Edge}{gd:Option (Nat×Bool)}(hx:ev S x=.func (.func f) #[] #[])(hp:plain P f=true)(ha:pI S xs=vs)
  (hc:∀w,SF w0 M H A F O w->Calls P f ⟨vs⟩ w λ e w'=>e=.returned v/\St w [] [] w') :
  bF P S (SF w0 M H A F O) ⟨dst,.call {callee:=.value x,args:=⟨xs⟩,argTypes:=at_},ty,pos,af,gd⟩ Unit (λ _=>v) (λ _=>SF w0 M H A F O) :=
 gD (Yp hx hp ha) λ w hw=>(hc w hw).mono λ _ _ ⟨he,hs⟩=>⟨(),he,by simpa using hw.call (SF.xd hs)⟩
theorem xn{G:World->Prop}{d:Nat}{ty t t':TypeId}{pos:String}{af:Array Edge}{gd:Option (Nat×Bool)}{x y:Operand}{a:Int}{n:Nat}(hx:ev S x=.int .u64 a)(hy:ev S y=.int .u64 1)(h:a=(n:Int)) :
  aL P S G ⟨some d,.binOp .shr t x y t',ty,pos,af,gd⟩ (.int .u64 ((n/2:Nat):Int)):=by
 have:=ja (P:=P) (G:=G) (d:=d) (ty:=ty) (pos:=pos) (af:=af) (gd:=gd) (t:=t) (t':=t') hx hy (by decide)
 rw[show oH .u64 a 1=((n/2:Nat):Int) by
  rw[h];unfold oH
  show(n:Int).fdiv 2=_
  rw[Int.fdiv_eq_ediv_of_nonneg _ (by decide)];rfl] at this
 exact this
theorem bL{G:World->Prop}{d:Nat}{ty:TypeId}{pos:String}{af:Array Edge}{gd:Option (Nat×Bool)}{x:Operand}{vs:List Value}{k:Nat}{v:Value}(hx:ev S x=.tuple ⟨vs⟩)(hk:vs[k]?=some v):aL P S G ⟨some d,.extract x k,ty,pos,af,gd⟩ v:=⟨λ w _=>by
 simp[execOp,hx,Instr.extract,hk]⟩
@[reducible] def aCw {p:Prop} {α:Type} (_:p) (a:α):α:=a
end
end Go.Ct
namespace Go.Proofs.YtbajmaoegmbfgaaGreat
section
open Go.RowKit Go.Ct
theorem l8{S:List (Nat×Value)}{G:World->Prop}{d:Nat}{ty:TypeId}{pos:String}{af:Array Edge}{gd:Option (Nat×Bool)}{x y:Operand}{t t':TypeId}{a b:ByteArray}(hx:ev S x=.string a)(hy:ev S y=.string b) :
  aL Tryz.prog S G ⟨some d,.call {callee:=.value (.func 259),args := #[x,y],argTypes := #[t,t']},ty,pos,af,gd⟩ (.int .i64 (Bb a b)):=⟨λ w _=>by
 have:=run_callFunc_extern (P:=Tryz.prog) (f:=259) Tryz.func259 (by kernel_rfl) (by kernel_rfl) (by kernel_rfl) (e:=Extern.BytealgCompare.compare) (by kernel_rfl) #[.string a,.string b] w
 rw[Lib.run_compareString] at this
 simp only[execOp,resolve,ev,Deferred.ofValue,invoke]
 simp[hx,hy,this,Result.andThen,Bb]⟩
theorem cm(a b:ByteArray)(w:World):Calls Tryz.prog 253 #[.string a,.string b] w λ e w'=>e=.returned (.int .i64 (Bb a b))/\St w [] [] w':=by
 refine enter Tryz.func253 Tryz.ntmps253 rfl rfl (SF.s0 w) ?_
 simp only[bY]
 refine cR ?_;refine iO ?_;(refine aR (fH (l8 rf rf)) (λ x7=>?_));refine J1 ?_
 refine aT Tryz.results253 (λ w hw=>?_)
 exact⟨rfl,hw.done⟩
theorem ic(a b:ByteArray)(w:World):Calls Tryz.prog 235 #[.string a,.string b] w λ e w'=>e=.returned (.int .i64 (Bb a b))/\St w [] [] w':=by
 refine enter Tryz.func235 Tryz.ntmps235 rfl rfl (SF.s0 w) ?_
 simp only[bY]
 refine cR ?_;refine iO ?_;refine aR (cV (hc:=λ w1 hw=>cm a b w1)) (λ x7=>?_);refine J1 ?_
 refine aT Tryz.results235 (λ w hw=>?_)
 exact⟨rfl,hw.done⟩
theorem m6(p:Pr)(k:ByteArray)(w:World):Calls Tryz.prog 234 #[.agg ⟨[.string p.1,.int .u64 p.2]⟩,.string k] w λ e w'=>e=.returned (.int .i64 (Bb p.1 k))/\St w [] [] w':=by
 refine enter Tryz.func234 Tryz.ntmps234 rfl rfl (SF.s0 w) ?_
 simp only[bY]
 refine J0 ?_;refine bO (λ x2=>?_);refine J1 ?_;refine gZ ?_;refine aA ?_;refine aR (cV (hc:=λ w1 hw=>ic p.1 k w1)) (λ x8=>?_);refine J1 ?_
 refine aT Tryz.results234 (λ w hw=>?_)
 exact⟨rfl,hw.done⟩
theorem cVd{S:List (Nat×Value)}{w0:World}{M:List Nat}{H:List (Nat×Obj)}{A F:Fr}{O:List Ow}{v:Value}{x:Operand}{f:FuncId}{xs:List Operand}{at_:Array TypeId}{vs:List Value}{dst:Option Nat}{ty:TypeId}{pos:String}{af:Array Edge}{gd:Option (Nat×Bool)}(hx:ev S x=.func (.func f) #[] #[])
  (ha:pI S xs=vs) (hp:plain Tryz.prog f=true) 
  (hc:∀w,SF w0 M H A F O w->Calls Tryz.prog f ⟨vs⟩ w λ e w'=>e=.returned v/\St w [] [] w') :
  bF Tryz.prog S (SF w0 M H A F O) ⟨dst,.call {callee:=.value x,args:=⟨xs⟩,argTypes:=at_},ty,pos,af,gd⟩ Unit (λ _=>v) (λ _=>SF w0 M H A F O):=aCr hx hp ha hc
theorem vc{l:List Pr}{k:ByteArray}{h:Nat}(hs:SA l)(hh:h<l.length)(hc:dA (l.getD h (⟨#[]⟩,0)).1 k=true)(j:Nat)(hj:j<h+1):dA (l.getD j (⟨#[]⟩,0)).1 k=true:=by
 rcases Nat.lt_succ_iff_lt_or_eq.1 hj with h1|rfl
 ·have:=List.pairwise_iff_getElem.1 hs j h (by omega) hh h1
  rw[<- gH,<- gH] at this
  exact iS this hc
 ·exact hc
theorem Zx{l:List Pr}{k:ByteArray}{h:Nat}(hs:SA l)(hc:dA (l.getD h (⟨#[]⟩,0)).1 k=false)(j:Nat)(h1:h<=j)(hj:j<l.length):dA (l.getD j (⟨#[]⟩,0)).1 k=false:=by
 rcases Nat.lt_or_eq_of_le h1 with h2|rfl
 ·have:=List.pairwise_iff_getElem.1 hs h j (by omega) hj h2
  rw[<- gH,<- gH] at this
  exact aAg hc (Dy this)
 ·exact hc
end

/- Pairs: Find, Put, Drop of the program. -/
end Go.Proofs.YtbajmaoegmbfgaaGreat
namespace Go.Ct
section
open Go Go.RowKit
section
variable{P:Program}{n:Nat}{S:List (Nat×Value)}
variable{w0 w w':World}{M:List Nat}{H H':List (Nat×Obj)}{A F F':Fr}{O O':List Ow}{G:World->Prop}
variable{d:Nat}{ty:TypeId}{pos:String}{af:Array Edge}{gd:Option (Nat×Bool)}{dst:Option Nat}{x y z:Operand}{t t2 e:TypeId}{p a:Option Addr}{i m k c c2:Nat}
def tlP(a:Option Addr)(k c:Nat):Option Addr:=if c=k then a else a.map (·.add (2*k))
theorem kz(hx:ev S x=.slice a m c)(hy:ev S y=.int .i64 ((k:Nat):Int))(ht:P.underlying t=some (.slice e))(hs:(P.info? e).map (·.size)=some 2)(hk:k<=m)(hmc:m<=c) :
  aL P S G ⟨some d,.slice t x (some y) none none,ty,pos,af,gd⟩ (.slice (tlP a k c) (m-k) (c-k)):=⟨λ w _=>by
 have he:P.elem t=e:=by simp[Program.elem,ht]
 have ht':P.underlying t=some (.slice (P.elem t)):=by rw[he];exact ht
 cases hi:P.info? e with
 | none=>simp[hi] at hs
 | some inf =>
  have hs':inf.size=2:=by simpa[hi] using hs
  have hr:=run_slice_l (P:=P) w t a m c ht' .i64 (k:Int) (by omega) (by omega)
  refine lr (v:=.slice (tlP a k c) (m-k) (c-k)) ?_
  simp[hx,hy,run_sliceAt_slice w t _ _ _ _ ht',hr,he,sizeOf,typeInfo,hi,hs',sliced,tlP,Nat.mul_comm]⟩
theorem SF.aBr(h:SF w0 M H A F O w){l:List Pr}(hf:qZ A F [] a (dH l))(hc:l.length<=c):SF w0 M H ((tlP a k c,dH (l.drop k))::A) F O w:=by
 have e:dH (l.drop k)=(dH l).drop (2*k):=by rw[Qg]
 rw[e]
 refine h.mq hf (λ hn=>?_) (λ h=>by rw[h];simp) (λ w hc'=>?_)
 ·unfold tlP
  split
  ·rfl
  ·cases a with
   | none=>rfl
   | some a =>
    obtain⟨b,o,s⟩:=a
    simp only[Option.map_some,dC,Addr.add]
    split<;>rfl
 ·unfold tlP
  split
  ·rename_i heq
   have:(dH l).drop (2*k)=[]:=List.drop_eq_nil_of_le (by rw[gM];omega)
   rw[this]
   exact Cl.nil _ _
  ·exact hc'.drop _
end
end
end Go.Ct
namespace Go.Proofs.YtbajmaoegmbfgaaGreat
section
open Go.RowKit Go.Ct
section
variable{l:List Pr}{a:Option Addr}{c:Nat}{k:ByteArray}{v:Int}{w:World}
open Classical in
noncomputable def cO (l:List Pr) (k:ByteArray):Option Int:=if SA l then rE l k else none
open Classical in
noncomputable def Og (l:List Pr) (k:ByteArray) (v:Int):List Pr:=if SA l then kV l k v else []
open Classical in
noncomputable def rH (l:List Pr) (k:ByteArray):List Pr:=if SA l then iT l k else []
def qv(w:World)(m:List Pr)(e:Ending)(w':World):Prop:=∃x:Option Addr×Nat,e=.returned (.slice x.1 m.length x.2)/\m.length<=x.2/\SF w [] [] [] [] [⟨x.1,dH m,x.2,164,2⟩] w'
def Y0(w:World)(m:List Pr)(e:Ending)(w':World):Prop:=∃x:Option Addr×Nat,e=.returned (.slice x.1 m.length x.2)/\m.length<=x.2/\SF w [] [] [] [(x.1,dH m)] [] w'
theorem qv.M2{w:World}{m:List Pr}{e:Ending}{w':World}(h:qv w m e w'):Y0 w m e w':=by
 obtain⟨x,h1,h2,h3⟩:=h
 exact⟨x,h1,h2,h3.freeze .head (by simp)⟩
end
end

end Go.Proofs.YtbajmaoegmbfgaaGreat
