/- Merged. -/
import Derived.Test.YtbajmaoegmbfgaaGreatGNode2
import Derived.Lib.Bytealg
import Derived.Laws.Externs
import Derived.Test.YtbajmaoegmbfgaaGreatGAr8
import Derived.Test.YtbajmaoegmbfgaaGreatAuto
set_option linter.unusedSimpArgs false
set_option linter.unusedVariables false
namespace Go.Proofs.YtbajmaoegmbfgaaGreat
open Go.RowKit Go.Ct
section
variable{a b c:ByteArray}
theorem aBR(h:dA a b=true)(h2:dA c b=false):dA a c=true:=by
 cases hb:dA b c with
 | true=>exact jH h hb
 | false=>have:=sB hb h2;subst this;exact h
theorem aBi(h:dA b a=false)(h2:dA c b=false):dA c a=false:=by
 cases hc:dA c a with
 | false=>rfl
 | true=>have:=aBR hc h;rw[this] at h2;cases h2
theorem nS(h:dA a b=true):a≠b:=λ e=>by subst e;rw[nG] at h;cases h
theorem T8(h:dA b a=false)(hn:a≠b):dA a b=true:=by
 cases hb:dA a b with
 | true=>rfl
 | false=>exact absurd (sB hb h) hn
def SA(l:List Pr):Prop:=l.Pairwise λ p q=>dA p.1 q.1=true
theorem Wz{l:List Pr}(h:zx l):∀d i,i+d+1<l.length->dA (l.getD i (⟨#[]⟩,0)).1 (l.getD (i+d+1) (⟨#[]⟩,0)).1=true
 | 0,i,hi=>by have:=h (i+1) (by omega) hi;rwa [Nat.add_sub_cancel] at this
 | d+1,i,hi=>jH (Wz h d i (by omega)) (by have:=h (i+(d+1)+1) (by omega) hi;rwa [Nat.add_sub_cancel] at this)
theorem iA{l:List Pr}{i:Nat}(h:i<l.length):l.getD i (⟨#[]⟩,0)=l[i]:=by simp[List.getD,List.getElem?_eq_getElem h]
theorem nD{l:List Pr}:zx l↔SA l:=by
 constructor;·intro h;refine List.pairwise_iff_getElem.2 λ i j hi hj hij=>?_;have:=Wz h (j-i-1) i (by omega);rw[show i+(j-i-1)+1=j by omega,iA hi,iA hj] at this;exact this
 ·intro h i h1 hi;rw[iA (by omega),iA hi];exact List.pairwise_iff_getElem.1 h (i-1) i (by omega) hi (by omega)
def pM:List Pr->ByteArray->Option Int
 | [],_=>none
 | p::l,k=>if p.1=k then some p.2 else pM l k
theorem pG{l:List Pr}{k:ByteArray}(h:∀p∈l,p.1≠k):pM l k=none:=by
 induction l with
 | nil=>rfl
 | cons p l ih=>exact(if_neg (h p (.head _))).trans (ih λ q hq=>h q (.tail _ hq))
theorem dt:∀{l m:List Pr},SA l->SA m->(∀k,pM l k=pM m k)->l=m
 | [],[],_,_,_=>rfl
 | [],q::m,_,_,h=>by have:=h q.1;simp[pM] at this
 | p::l,[],_,_,h=>by have:=h p.1;simp[pM] at this
 | p::l,q::m,h1,h2,h=>by
  have h1':=List.pairwise_cons.1 h1;have h2':=List.pairwise_cons.1 h2
  have e1:dA p.1 q.1=false:=by
   cases hb:dA p.1 q.1 with
   | false=>rfl
   | true=>
    have:pM (q::m) p.1=none:=pG λ x hx=>by
     rcases List.mem_cons.1 hx with rfl|hx;·exact(nS hb).symm
     ·exact(nS (jH hb (h2'.1 x hx))).symm
    have h':=h p.1;rw[this] at h';simp[pM] at h'
  have e2:dA q.1 p.1=false:=by
   cases hb:dA q.1 p.1 with
   | false=>rfl
   | true=>
    have:pM (p::l) q.1=none:=pG λ x hx=>by
     rcases List.mem_cons.1 hx with rfl|hx;·exact(nS hb).symm
     ·exact(nS (jH hb (h1'.1 x hx))).symm
    have h':=h q.1;rw[this] at h';simp[pM] at h'
  have ek:=sB e1 e2;have ev:p.2=q.2:=by have:=h p.1;simpa[pM,ek] using this
  have et:l=m:=dt h1'.2 h2'.2 λ k=>by
   by_cases hk:p.1=k;·subst hk;rw[pG λ x hx=>(nS (h1'.1 x hx)).symm,pG λ x hx=>by rw[ek];exact(nS (h2'.1 x hx)).symm]
   ·have:=h k;rw[pM,pM,if_neg hk,if_neg (by rw[<- ek];exact hk)] at this;exact this
  rw[et,show p=q from Prod.ext ek ev]
def lO:List Pr->ByteArray->Int->List Pr
 | [],k,v=>[(k,v)]
 | p::l,k,v=>if dA p.1 k=true then p::lO l k v else if p.1=k then(k,v)::l else(k,v)::p::l
def jJ(l:List Pr)(k:ByteArray):List Pr:=l.filter λ p=>decide (p.1≠k)
variable{l:List Pr}{k:ByteArray}{v:Int}
theorem Bq:∀{q:Pr},q∈lO l k v->q=(k,v)∨q∈l:=by
 induction l with
 | nil=>intro q h;rw[lO,List.mem_singleton] at h;exact .inl h
 | cons p l ih=>
  intro q h;rw[lO] at h;split at h
  ·rcases List.mem_cons.1 h with rfl|h;·exact .inr (.head _)
   ·exact(ih h).imp id (.tail _)
  ·split at h;·exact(List.mem_cons.1 h).imp id (.tail _)
   ·exact List.mem_cons.1 h
theorem yQ{k:ByteArray}{v:Int}:∀{l:List Pr},SA l->SA (lO l k v)
 | [],_=>List.pairwise_singleton _ _
 | p::l,h=>by
  have h':=List.pairwise_cons.1 h;rw[lO];split
  ·next hlt =>
   refine List.pairwise_cons.2 ⟨λ q hq=>?_,yQ h'.2⟩;rcases Bq hq with rfl|hq
   ·exact hlt
   ·exact h'.1 q hq
  ·next hlt =>
   split
   ·next he =>
    subst he;exact List.pairwise_cons.2 ⟨λ q hq=>h'.1 q hq,h'.2⟩
   ·next hne =>
    have hkp:dA k p.1=true:=T8 (by simpa using hlt) (λ e=>hne e.symm);refine List.pairwise_cons.2 ⟨λ q hq=>?_,h⟩;rcases List.mem_cons.1 hq with rfl|hq
    ·exact hkp
    ·exact jH hkp (h'.1 q hq)
theorem Bi{k:ByteArray}{v:Int}(j:ByteArray):∀{l:List Pr},SA l->pM (lO l k v) j=if j=k then some v else pM l j
 | [],_=>by
  simp only[lO,pM]
  by_cases h:j=k
  ·rw[if_pos h,if_pos h.symm]
  ·rw[if_neg h,if_neg λ e=>h e.symm]
 | p::l,h=>by
  have h':=List.pairwise_cons.1 h;have ih:=Bi (k:=k) (v:=v) j h'.2;rw[lO];split
  ·next hlt =>
   rw[pM,ih,pM]
   by_cases hj:j=k
   ·rw[if_pos hj,if_pos hj,if_neg λ e=>nS hlt (e.trans hj)]
   ·rw[if_neg hj,if_neg hj]
  ·split
   ·next he =>
    rw[pM,pM]
    by_cases hj:j=k
    ·rw[if_pos hj,if_pos hj.symm]
    ·rw[if_neg hj,if_neg λ e=>hj e.symm,if_neg λ e=>hj (e.symm.trans he)]
   ·rw[pM]
    by_cases hj:j=k
    ·rw[if_pos hj,if_pos hj.symm]
    ·rw[if_neg hj,if_neg λ e=>hj e.symm]
theorem xX(k:ByteArray)(h:SA l):SA (jJ l k):=h.sublist List.filter_sublist
theorem Zq(l:List Pr)(k j:ByteArray):pM (jJ l k) j=if j=k then none else pM l j:=by
 unfold jJ;induction l with
 | nil=>simp[pM]
 | cons p l ih=>
  rw[List.filter_cons];by_cases hp:p.1=k
  ·rw[if_neg (by simp[hp]),ih,pM];by_cases hj:j=k;·rw[if_pos hj,if_pos hj]
   ·rw[if_neg hj,if_neg hj,if_neg λ e=>hj (e.symm.trans hp)]
  ·rw[if_pos (by simp[hp]),pM,ih,pM];by_cases hj:j=k;·rw[if_pos hj,if_pos hj,if_neg λ e=>hp (e.trans hj)]
   ·rw[if_neg hj,if_neg hj]
theorem Ps(h:SA l)(k:ByteArray)(v:Int):lO (jJ l k) k v=lO l k v :=
 dt (yQ (xX k h)) (yQ h) λ j=>by
  rw[Bi j (xX k h),Bi j h,Zq];by_cases hj:j=k;·rw[if_pos hj,if_pos hj]
  ·rw[if_neg hj,if_neg hj,if_neg hj]
structure zZ(l:List Pr)(k:ByteArray)(i:Nat):Prop where
 le:i<=l.length
 lo:∀j,j<i->dA (l.getD j (⟨#[]⟩,0)).1 k=true
 hi:∀j,i<=j->j<l.length->dA (l.getD j (⟨#[]⟩,0)).1 k=false
theorem zZ.tl{p:Pr}{l:List Pr}{k:ByteArray}{i:Nat}(h:zZ (p::l) k (i+1)):dA p.1 k=true/\zZ l k i :=⟨h.lo 0 (by omega),⟨by have:=h.le;simp at this;omega,λ j hj=>h.lo (j+1) (by omega),λ j h1 h2=>h.hi (j+1) (by omega) (by simp;omega)⟩⟩
theorem av{k:ByteArray}{v:Int}:∀{l:List Pr} {i:Nat},zZ l k i->i<l.length->(l.getD i (⟨#[]⟩,0)).1=k->lO l k v=l.set i ((l.getD i (⟨#[]⟩,0)).1,v)
 | [],i,_,h,_=>by simp at h
 | p::l,0,h,_,he=>by
  have he:p.1=k:=he;have:dA p.1 k=false:=by rw[he];exact nG k
  rw[lO,if_neg (by rw[this];decide),if_pos he,List.set_cons_zero,<- he]
  rfl
 | p::l,i+1,h,hi,he=>by
  rw[lO,if_pos h.tl.1,List.set_cons_succ,av h.tl.2 (by simp at hi;omega) he]
  rfl
theorem Xq{k:ByteArray}{v:Int}:∀{l:List Pr} {i:Nat},zZ l k i->¬(i<l.length/\(l.getD i (⟨#[]⟩,0)).1=k)->lO l k v=l.take i++(k,v)::l.drop i
 | [],i,h,_=>by have:=h.le;simp at this;subst this;rfl
 | p::l,0,h,hn=>by
  have:dA p.1 k=false:=h.hi 0 (Nat.le_refl _) (by simp);rw[lO,if_neg (by rw[this];decide),if_neg λ e:p.1=k=>hn ⟨by simp,e⟩];rfl
 | p::l,i+1,h,hn=>by
  rw[lO,if_pos h.tl.1,Xq h.tl.2 λ hh=>hn ⟨by simp;omega,hh.2⟩]
  rfl
theorem Ln{k:ByteArray}:∀{l:List Pr} {i:Nat},SA l->zZ l k i->¬(i<l.length/\(l.getD i (⟨#[]⟩,0)).1=k)->∀p∈l,p.1≠k
 | [],_,_,_,_=>by simp
 | p::l,0,hs,h,hn=>by
  have h':=List.pairwise_cons.1 hs;have h0:dA p.1 k=false:=h.hi 0 (Nat.le_refl _) (by simp);have hne:p.1≠k:=λ e=>hn ⟨by simp,e⟩;have hlt:=T8 h0 (λ e=>hne e.symm);intro q hq
  rcases List.mem_cons.1 hq with rfl|hq
  ·exact hne
  ·exact(nS (jH hlt (h'.1 q hq))).symm
 | p::l,i+1,hs,h,hn=>by
  have:=Ln (List.pairwise_cons.1 hs).2 h.tl.2 λ hh=>hn ⟨by simp;omega,hh.2⟩;intro q hq
  rcases List.mem_cons.1 hq with rfl|hq
  ·exact nS h.tl.1
  ·exact this q hq
theorem Lw{k:ByteArray}:∀{l:List Pr} {i:Nat},zZ l k i->i<l.length->(l.getD i (⟨#[]⟩,0)).1=k->pM l k=some (l.getD i (⟨#[]⟩,0)).2
 | [],i,_,h,_=>by simp at h
 | p::l,0,h,_,he=>if_pos he
 | p::l,i+1,h,hi,he=>(if_neg (nS h.tl.1)).trans (Lw h.tl.2 (by simp at hi;omega) he)
theorem kw{k:ByteArray}:∀{l:List Pr} {v:Int},pM l k=some v->∃i,i<l.length/\(l.getD i (⟨#[]⟩,0)).1=k
 | [],_,h=>by cases h
 | p::l,v,h=>by
  rw[pM] at h;split at h;·next he=>exact⟨0,by simp,he⟩
  ·obtain⟨i,h1,h2⟩:=kw h;exact⟨i+1,by simp;omega,h2⟩
theorem yP{k:ByteArray}{v:Int}:∀{l:List Pr},SA l->(lO l k v).length=if(pM l k).isSome=true then l.length else l.length+1
 | [],_=>rfl
 | p::l,h=>by
  have h':=List.pairwise_cons.1 h;rw[lO];split
  ·next hlt =>
   rw[List.length_cons,yP h'.2,pM,if_neg (nS hlt)];split<;>rfl
  ·next hlt =>
   split;·next he=>rw[pM,if_pos he];rfl
   ·next hne =>
    have hkp:dA k p.1=true:=T8 (by simpa using hlt) (λ e=>hne e.symm);rw[pM,if_neg hne,pG λ q hq=>(nS (jH hkp (h'.1 q hq))).symm];rfl
theorem R6{k:ByteArray}:∀{l:List Pr},SA l->(jJ l k).length=if(pM l k).isSome=true then l.length-1 else l.length
 | [],_=>rfl
 | p::l,h=>by
  have h':=List.pairwise_cons.1 h;have ih:=R6 (k:=k) h'.2;unfold jJ at ih ⊢;rw[List.filter_cons];by_cases hp:p.1=k
  ·have hn:∀q∈l,q.1≠k:=λ q hq=>by rw[<- hp];exact(nS (h'.1 q hq)).symm
   rw[if_neg (by simp[hp]),pM,if_pos hp,List.filter_eq_self.2 λ q hq=>by simpa using hn q hq];rfl
  ·rw[if_pos (by simp[hp]),List.length_cons,ih,pM,if_neg hp];split
   ·next hs =>
    have:1<=l.length:=by
     cases hf:pM l k with
     | none=>rw[hf] at hs;cases hs
     | some v=>obtain⟨i,hi,_⟩:=kw hf;omega
    rw[List.length_cons];omega
   ·rfl
def zE(l:List Pr):List Pr:=l.foldl (λ acc p=>lO acc p.1 p.2) []
theorem sZ(l:List Pr)(p:Pr):zE (l++[p])=lO (zE l) p.1 p.2:=by unfold zE;rw[List.foldl_append];rfl
def La(l:List Pr)(k:ByteArray):Option Int:=((l.filter λ p=>decide (p.1=k)).getLast?).map (·.2)
theorem Us(l:List Pr)(p:Pr)(k:ByteArray):La (l++[p]) k=if k=p.1 then some p.2 else La l k:=by
 unfold La;rw[List.filter_append];by_cases h:p.1=k;·rw[if_pos h.symm];simp[h]
 ·rw[if_neg λ e=>h e.symm];simp[h]
theorem Iq{α:Type}{Q:List α->Prop}(h0:Q [])(h1:∀l x,Q l->Q (l++[x]))(l:List α):Q l:=by
 have key:∀m:List α,Q m.reverse:=λ m=>by
  induction m with
  | nil=>exact h0
  | cons x m ih=>rw[List.reverse_cons];exact h1 _ _ ih
 have:=key l.reverse;rwa [List.reverse_reverse] at this
theorem N4(l:List Pr):SA (zE l):=by
 induction l using Iq with
 | h0=>exact List.Pairwise.nil
 | h1 l x ih=>rw[sZ];exact yQ ih
theorem yq(l:List Pr)(k:ByteArray):pM (zE l) k=La l k:=by
 induction l using Iq with
 | h0=>rfl
 | h1 l x ih=>rw[sZ,Bi k (N4 l),Us,ih]
theorem On(l:List Pr):(zE l).length<=l.length:=by
 induction l using Iq with
 | h0=>exact Nat.le_refl _
 | h1 l x ih=>rw[sZ,yP (N4 l),List.length_append,List.length_singleton];split<;>omega
end
end Go.Proofs.YtbajmaoegmbfgaaGreat
namespace Go.Ct
open Go Go.RowKit
section
variable{P:Program}{S:List (Nat×Value)}{w0 w:World}{M:List Nat}{H:List (Nat×Obj)}{A F:Fr}{O:List Ow}
def Bs(a b:ByteArray):Int:=Lib.compareBytes a.data.toList b.data.toList
variable{a b:ByteArray}{x:Operand}{f:FuncId}{at_:Array TypeId}{vs:List Value}{d:Nat}{ty:TypeId}{pos:String}{af:Array Edge}{gd:Option (Nat×Bool)}{v:Value}
theorem aAh:∀a b:List UInt8,Lib.compareBytes a b<0↔Op.bytesLess a b=true
 | [],[]=>by simp[Lib.compareBytes,Op.bytesLess]
 | [],_::_=>by simp[Lib.compareBytes,Op.bytesLess]
 | _::_,[]=>by simp[Lib.compareBytes,Op.bytesLess]
 | x::a,y::b=>by
  have ih:=aAh a b;simp only[Lib.compareBytes,Op.bytesLess];by_cases h:x<y;·simp[h]
  ·by_cases h2:y<x
   ·have:x≠y:=λ e=>by subst e;exact h h2
    simp[h,h2,this]
   ·have:x=y:=UInt8.le_antisymm (UInt8.not_lt.1 h2) (UInt8.not_lt.1 h);subst this;simpa[h] using ih
theorem zy:∀a b:List UInt8,Lib.compareBytes a b=0↔a=b
 | [],[]=>by simp[Lib.compareBytes]
 | [],_::_=>by simp[Lib.compareBytes]
 | _::_,[]=>by simp[Lib.compareBytes]
 | x::a,y::b=>by
  have ih:=zy a b;simp only[Lib.compareBytes];by_cases h:x<y
  ·have:x≠y:=λ e=>by subst e;exact absurd h (UInt8.lt_irrefl _)
   simp[h,this]
  ·by_cases h2:y<x
   ·have:x≠y:=λ e=>by subst e;exact h h2
    simp[h,h2,this]
   ·have:x=y:=UInt8.le_antisymm (UInt8.not_lt.1 h2) (UInt8.not_lt.1 h);subst this;simpa[h] using ih
theorem Nn:Bs a b<0↔dA a b=true:=by unfold Bs dA;rw[ByteArray.toList_eq,ByteArray.toList_eq];exact aAh _ _
theorem Wl:¬Bs a b<0↔dA a b=false:=by rw[Nn];simp
theorem xj:Bs a b=0↔a=b:=by unfold Bs;rw[zy];exact⟨λ h=>toList_inj (by rw[ByteArray.toList_eq,ByteArray.toList_eq];exact h),λ h=>by rw[h]⟩
theorem ap{os:List Operand}{d:Option Nat}(hx:ev S x=.func (.func f) #[] #[])(hp:plain P f=true)(ha:qR S os=vs)(w:World) :
  (execOp (ev S) ⟨d,.call {callee:=.value x,args:=⟨os⟩,argTypes:=at_},ty,pos,af,gd⟩).run P w=.ok (.enter f ⟨vs⟩) w:=by
 subst ha;have hm:(os.map (ev S)).toArray=⟨qR S os⟩:=by rw[Bn]
 simp[execOp,resolve,hx,Deferred.ofValue,invoke,qG hp,hm]
theorem aEK{xs:List Operand}{dst:Option Nat}(hx:ev S x=.func (.func f) #[] #[])(hp:plain P f=true)(ha:qR S xs=vs)(hc:∀w,SF w0 M H A F O w->Calls P f ⟨vs⟩ w λ e w'=>e=.returned v/\St w [] [] w') :
  bG P S (SF w0 M H A F O) ⟨dst,.call {callee:=.value x,args:=⟨xs⟩,argTypes:=at_},ty,pos,af,gd⟩ Unit (λ _=>v) (λ _=>SF w0 M H A F O) :=
 gW (ap hx hp ha) λ w hw=>(hc w hw).mono λ _ _ ⟨he,hs⟩=>⟨(),he,by simpa using hw.call (SF.aB2 hs)⟩
theorem aBW{G:World->Prop}{t t':TypeId}{y:Operand}{a:Int}{n:Nat}(hx:ev S x=.int .u64 a)(hy:ev S y=.int .u64 1)(h:a=(n:Int)) :
  aM P S G ⟨some d,.binOp .shr t x y t',ty,pos,af,gd⟩ (.int .u64 ((n/2:Nat):Int)):=by have:=qt (P:=P) (G:=G) (d:=d) (ty:=ty) (pos:=pos) (af:=af) (gd:=gd) (t:=t) (t':=t') hx hy (by decide);rw[show pU .u64 a 1=((n/2:Nat):Int) by rw[h];unfold pU;show(n:Int).fdiv 2=_;rw[Int.fdiv_eq_ediv_of_nonneg _ (by decide)];rfl] at this;exact this
theorem bQ{G:World->Prop}{k:Nat}(hx:ev S x=.tuple ⟨vs⟩)(hk:vs[k]?=some v):aM P S G ⟨some d,.extract x k,ty,pos,af,gd⟩ v:=⟨λ w _=>by simp[execOp,hx,Instr.extract,hk]⟩
@[reducible] def aEl {p:Prop} {α:Type} (_:p) (a:α):α:=a
end
end Go.Ct
namespace Go.Proofs.YtbajmaoegmbfgaaGreat
open Go.Proofs.Tryz
open Go.RowKit Go.Ct
section
variable{S:List (Nat×Value)}{ty:TypeId}{pos:String}{af:Array Edge}{gd:Option (Nat×Bool)}{x:Operand}{l:List Pr}{k:ByteArray}{h:Nat}
theorem fy{G:World->Prop}{d:Nat}{y:Operand}{t t':TypeId}{a b:ByteArray}(hx:ev S x=.string a)(hy:ev S y=.string b) :
  aM prog S G ⟨some d,.call {callee:=.value (.func 259),args := #[x,y],argTypes := #[t,t']},ty,pos,af,gd⟩ (.int .i64 (Bs a b)):=⟨λ w _=>by
 have:=run_callFunc_extern (P:=prog) (f:=259) func259 (by kernel_rfl) (by kernel_rfl) (by kernel_rfl) (e:=Extern.BytealgCompare.compare) (by kernel_rfl) #[.string a,.string b] w;rw[Lib.run_compareString] at this;simp only[execOp,resolve,ev,Deferred.ofValue,invoke]
 simp[hx,hy,this,Result.andThen,Bs]⟩
theorem s4(a b:ByteArray)(w:World):Calls prog 253 #[.string a,.string b] w λ e w'=>e=.returned (.int .i64 (Bs a b))/\St w [] [] w':=by refine enter func253 ntmps253 rfl rfl (SF.s0 w) ?_;simp only[cC];refine Kc6 ?_;(refine aP (fD (fy rf rf)) (λ x7=>?_));refine J1 ?_;refine aS results253 (λ w hw=>?_);exact⟨rfl,hw.done⟩
theorem nz(a b:ByteArray)(w:World):Calls prog 235 #[.string a,.string b] w λ e w'=>e=.returned (.int .i64 (Bs a b))/\St w [] [] w':=by refine enter func235 ntmps235 rfl rfl (SF.s0 w) ?_;simp only[cC];refine Kc6 ?_;refine aP (cV (hc:=λ w1 hw=>s4 a b w1)) (λ x7=>?_);refine J1 ?_;refine aS results235 (λ w hw=>?_);exact⟨rfl,hw.done⟩
theorem kh(p:Pr)(k:ByteArray)(w:World):Calls prog 234 #[.agg ⟨[.string p.1,.int .u64 p.2]⟩,.string k] w λ e w'=>e=.returned (.int .i64 (Bs p.1 k))/\St w [] [] w':=by refine enter func234 ntmps234 rfl rfl (SF.s0 w) ?_;simp only[cC];refine J0 ?_;refine bJ (λ x2=>?_);refine J1 ?_;refine Kc8 ?_;refine aP (cV (hc:=λ w1 hw=>nz p.1 k w1)) (λ x8=>?_);refine J1 ?_;refine aS results234 (λ w hw=>?_);exact⟨rfl,hw.done⟩
theorem cVd{w0:World}{M:List Nat}{H:List (Nat×Obj)}{A F:Fr}{O:List Ow}{v:Value}{f:FuncId}{xs:List Operand}{at_:Array TypeId}{vs:List Value}{dst:Option Nat}(hx:ev S x=.func (.func f) #[] #[])(ha:qR S xs=vs)(hp:plain prog f=true)(hc:∀w,SF w0 M H A F O w->Calls prog f ⟨vs⟩ w λ e w'=>e=.returned v/\St w [] [] w') :
  bG prog S (SF w0 M H A F O) ⟨dst,.call {callee:=.value x,args:=⟨xs⟩,argTypes:=at_},ty,pos,af,gd⟩ Unit (λ _=>v) (λ _=>SF w0 M H A F O):=aEK hx hp ha hc
theorem aAD(hs:SA l)(hh:h<l.length)(hc:dA (l.getD h (⟨#[]⟩,0)).1 k=true)(j:Nat)(hj:j<h+1):dA (l.getD j (⟨#[]⟩,0)).1 k=true:=by
 rcases Nat.lt_succ_iff_lt_or_eq.1 hj with h1|rfl;·have:=List.pairwise_iff_getElem.1 hs j h (by omega) hh h1;rw[<- iA,<- iA] at this;exact jH this hc
 ·exact hc
theorem gh(hs:SA l)(hc:dA (l.getD h (⟨#[]⟩,0)).1 k=false)(j:Nat)(h1:h<=j)(hj:j<l.length):dA (l.getD j (⟨#[]⟩,0)).1 k=false:=by
 rcases Nat.lt_or_eq_of_le h1 with h2|rfl;·have:=List.pairwise_iff_getElem.1 hs h j (by omega) hj h2;rw[<- iA,<- iA] at this;exact aBi hc (Et this)
 ·exact hc
end
end Go.Proofs.YtbajmaoegmbfgaaGreat
namespace Go.Ct
open Go Go.RowKit
section
section
variable{P:Program}{n:Nat}{S:List (Nat×Value)}
variable{w0 w w':World}{M:List Nat}{H H':List (Nat×Obj)}{A F F':Fr}{O O':List Ow}{G:World->Prop}
variable{d:Nat}{ty:TypeId}{pos:String}{af:Array Edge}{gd:Option (Nat×Bool)}{dst:Option Nat}{x y z:Operand}{t t2 e:TypeId}{p a:Option Addr}{i m k c c2:Nat}
def tlP(a:Option Addr)(k c:Nat):Option Addr:=if c=k then a else a.map (·.add (2*k))
theorem nu(hx:ev S x=.slice a m c)(hy:ev S y=.int .i64 ((k:Nat):Int))(ht:P.underlying t=some (.slice e))(hs:(P.info? e).map (·.size)=some 2)(hk:k<=m)(hmc:m<=c) :
  aM P S G ⟨some d,.slice t x (some y) none none,ty,pos,af,gd⟩ (.slice (tlP a k c) (m-k) (c-k)):=⟨λ w _=>by
 have he:P.elem t=e:=by simp[Program.elem,ht]
 have ht':P.underlying t=some (.slice (P.elem t)):=by rw[he];exact ht
 cases hi:P.info? e with
 | none=>simp[hi] at hs
 | some inf=>
  have hs':inf.size=2:=by simpa[hi] using hs
  have hr:=run_slice_l (P:=P) w t a m c ht' .i64 (k:Int) (by omega) (by omega);refine ju (v:=.slice (tlP a k c) (m-k) (c-k)) ?_;simp[hx,hy,run_sliceAt_slice w t _ _ _ _ ht',hr,he,sizeOf,typeInfo,hi,hs',sliced,tlP,Nat.mul_comm]⟩
theorem SF.aDj(h:SF w0 M H A F O w){l:List Pr}(hf:sD A F [] a (dF l))(hc:l.length<=c):SF w0 M H ((tlP a k c,dF (l.drop k))::A) F O w:=by
 have e:dF (l.drop k)=(dF l).drop (2*k):=by rw[Ql]
 rw[e];refine h.T6 hf (λ hn=>?_) (λ h=>by rw[h];simp) (λ w hc'=>?_)
 ·unfold tlP;split;·rfl
  ·cases a with
   | none=>rfl
   | some a=>obtain⟨b,o,s⟩:=a;simp only[Option.map_some,dG,Addr.add];split<;>rfl
 ·unfold tlP;split;·rename_i heq;have:(dF l).drop (2*k)=[]:=List.drop_eq_nil_of_le (by rw[iC];omega);rw[this];exact Cl.nil _ _
  ·exact hc'.drop _
end
end
end Go.Ct
namespace Go.Proofs.YtbajmaoegmbfgaaGreat
open Go.Proofs.Tryz
section
open Go.RowKit Go.Ct
section
variable{l:List Pr}{a:Option Addr}{c:Nat}{k:ByteArray}{v:Int}{w:World}
open Classical in
noncomputable def cL (l:List Pr) (k:ByteArray):Option Int:=if SA l then pM l k else none
open Classical in
noncomputable def Rr (l:List Pr) (k:ByteArray) (v:Int):List Pr:=if SA l then lO l k v else []
open Classical in
noncomputable def sW (l:List Pr) (k:ByteArray):List Pr:=if SA l then jJ l k else []
def vc(w:World)(m:List Pr)(e:Ending)(w':World):Prop:=∃x:Option Addr×Nat,e=.returned (.slice x.1 m.length x.2)/\m.length<=x.2/\SF w [] [] [] [] [⟨x.1,dF m,x.2,164,2⟩] w'
def a9(w:World)(m:List Pr)(e:Ending)(w':World):Prop:=∃x:Option Addr×Nat,e=.returned (.slice x.1 m.length x.2)/\m.length<=x.2/\SF w [] [] [] [(x.1,dF m)] [] w'
theorem vc.Pk{w:World}{m:List Pr}{e:Ending}{w':World}(h:vc w m e w'):a9 w m e w':=by obtain⟨x,h1,h2,h3⟩:=h;exact⟨x,h1,h2,h3.freeze .head (by simp)⟩
end
end
section
open Go.RowKit Go.Ct
section
variable{l:List Pr}{a:Option Addr}{c:Nat}{k:ByteArray}{v:Int}{w:World}
theorem aBA{l:List Pr}{k:ByteArray}:∀{i:Nat},i<l.length->(∀j,j<i->(l.getD j (⟨#[]⟩,0)).1≠k)->(l.getD i (⟨#[]⟩,0)).1=k->pM l k=some (l.getD i (⟨#[]⟩,0)).2:=by
 induction l with
 | nil=>intro i h;simp at h
 | cons p l ih=>
  intro i h hn he;cases i with
  | zero=>exact if_pos he
  | succ i=>refine(if_neg (hn 0 (by omega))).trans ?_;exact ih (by simp at h;omega) (λ j hj=>hn (j+1) (by omega)) he
theorem u9{l:List Pr}{k:ByteArray}(h:∀j,j<l.length->(l.getD j (⟨#[]⟩,0)).1≠k):pM l k=none:=pG λ p hp=>by obtain⟨j,hj,rfl⟩:=List.getElem_of_mem hp;have:=h j hj;rwa [iA hj] at this
theorem Dh(k:ByteArray)(ha:Cl w a (dF l))(hlen:l.length<=1099511627775) :
  Calls prog 60 #[.slice a l.length c,.string k] w λ e w'=>e=.returned (.tuple #[.int .u64 ((cL l k).getD 0),.bool (cL l k).isSome])/\St w [] [] w':=by
 refine enter func60 ntmps60 rfl rfl (SF.s1 ha) ?_;simp only[cC];refine Hu ?_;refine aT ?_;refine Fq ?_;refine gF [4,5,6,7,8,9,10,11,12,13,14,15,16,17,18,19,20,21,22,23,24,25,26,27,28] (λ k=>[(6,.int .i64 ((k:Nat):Int))]) (λ i=>i<=l.length/\(i≠0->SA l)/\∀j,j<i->(l.getD j (⟨#[]⟩,0)).1≠k) (λ k=>l.length-k) (0) (⟨Nat.zero_le _,λ h=>absurd rfl h,λ j hj=>absurd hj (Nat.not_lt_zero j)⟩) ?_ (λ i f hx=>?_);·repeat (first|exact bF _|refine aX (by exact rfl) ?_)
 refine K0a ?_;refine D1 ?_;refine dV ?_;refine A1 ?_;(refine eE 11 (λ g11=>?_) (λ g11=>?_)<;>refine Ka0 ?_);all_goals ((first|refine aI ?_|(refine aF ?_;refine aD (c0 (V:=.bool) (hc:=λ w1 hw=>mS (hw.cl fin) (by omega))) (λ x13 h13=>?_)));refine Kd8 ?_)
 all_goals
 refine bD (λ c14=>?_) (λ c14=>?_)
 ·try exact nv c14
  all_goals (refine rT ?_;refine jD ?_;refine fM ?_;refine J3 ?_;refine aA ?_;refine aAu ?_;refine aG ?_)
  all_goals
   refine bD (λ c23=>?_) (λ c23=>?_);·refine jD ?_;refine fM ?_;refine J3 ?_;refine J8 ?_;refine aZ results60 (λ w hw=>?_);rw[show cL l k=some (l.getD i (⟨#[]⟩,0)).2 from(if_pos (nD.1 (h13.1 (by simp_all)))).trans (aBA (by omega) hx.2.2 c23)];exact⟨rfl,hw.done⟩
   ·refine Kc3 ?_;refine eG (i+1) ?_ ?_ ?_;·omega
    ·repeat' (first|exact bF _|refine aX ?_ ?_)
     exact rfl
    ·exact⟨by omega,λ _=>nD.1 (h13.1 (by simp_all)),λ j hj=>by rcases Nat.lt_succ_iff_lt_or_eq.1 hj with h|rfl;exact hx.2.2 j h;assumption⟩
 ·all_goals (refine bR rfl ?_;refine Hu ?_)
  all_goals
   refine aZ results60 (λ w hw=>?_);first
   | (rw[show cL l k=none from if_neg λ hs=>by have:=h13.2 (nD.2 hs);simp_all];exact⟨rfl,hw.done⟩)
   | (rw[show cL l k=none by unfold cL;split;exact u9 λ j hj=>hx.2.2 j (by omega);rfl];exact⟨rfl,hw.done⟩)
theorem O2{l:List Pr}{i:Nat}(hi:i<l.length)(k:ByteArray):(l.take (i+1)).filter (λ p=>decide (p.1≠k))=(l.take i).filter (λ p=>decide (p.1≠k))++(if(l.getD i (⟨#[]⟩,0)).1≠k then [l.getD i (⟨#[]⟩,0)] else []):=by rw[List.take_add_one,List.getElem?_eq_getElem hi,iA hi,List.filter_append];congr 1;by_cases h:l[i].1=k<;>simp[h]
theorem Gh{l:List Pr}{i:Nat}(hi:i<l.length)(k:ByteArray):jJ (l.take (i+1)) k=if(l.getD i (⟨#[]⟩,0)).1=k then jJ (l.take i) k else jJ (l.take i) k++[l.getD i (⟨#[]⟩,0)]:=by
 unfold jJ;rw[O2 hi k];by_cases h:(l.getD i (⟨#[]⟩,0)).1=k;·rw[if_neg λ hn=>hn h,if_pos h,List.append_nil]
 ·rw[if_pos h,if_neg h]
theorem R9(k:ByteArray)(ha:Cl w a (dF l))(hlen:l.length<=200000000000) :
  Calls prog 111 #[.slice a l.length c,.string k] w (vc w (jJ l k)):=by
 refine enter func111 ntmps111 rfl rfl (SF.s1 ha) ?_;simp only[cC];refine cU ?_;refine Je ?_;refine Fq ?_;refine mN [5,6,7,8,9,10,11,12,13,14,15,16,17,18,19,20,21,22,23,24,25,26] (λ z:Nat×Option Addr×List Pr×Nat=>[(6,.int .i64 ((z.1:Nat):Int)),(5,.slice z.2.1 z.2.2.1.length z.2.2.2)]) (λ z=>z.1<=l.length/\z.2.2.1.length<=z.2.2.2/\z.2.2.1=jJ (l.take z.1) k/\z.2.2.1.length<=z.1) (λ _=>_) (λ _=>_) (λ z=>[⟨z.2.1,dF z.2.2.1,z.2.2.2,164,2⟩]) (λ z=>l.length-z.1) ((0,none,[],0)) (⟨Nat.zero_le _,Nat.le_refl _,rfl,Nat.le_refl _⟩) (λ z f hx=>?_) (hw0:=λ w hw=>(hw.kQ 164 2).back);refine K0a ?_;refine K1w ?_;refine bD (λ c10=>?_) (λ c10=>?_)
 ·refine rT ?_;refine jD ?_;refine fM ?_;refine J3 ?_;refine aA ?_;refine aAm ?_;refine aG ?_;refine bD (λ c19=>?_) (λ c19=>?_)
  ·refine yG ?_;refine qX ?_;refine Qv ?_;refine fJ (λ x25=>?_);(refine fF (λ x26=>?_);try (refine eP (λ h26=>?_)));refine J1 ?_;refine Kb6 ?_;refine iS ((by exact(z.1+1,x26.1,z.2.2.1++[l.getD z.1 (⟨#[]⟩,0)],x26.2))) ?_ (hw1:=λ w hw=>by exact hw.back (hO:=E0m))
   ·obtain⟨q1,q2,q3,q4⟩:=hx
    have hdt:=Gh (l:=l) (i:=z.1) (by omega) k;first
    | exact⟨by show z.1+1<=l.length;omega,by simp only[List.length_append,List.length_cons,List.length_nil];omega,by rw[if_neg (by assumption),<- q3] at hdt;exact hdt.symm,by simp only[List.length_append,List.length_cons,List.length_nil];omega⟩
    | exact⟨by show z.1+1<=l.length;omega,q2,by rw[if_pos (by assumption),<- q3] at hdt;exact hdt.symm,by show z.2.2.1.length<=z.1+1;omega⟩
  ·refine Kc3 ?_;refine iS ((by exact(z.1+1,z.2.1,z.2.2.1,z.2.2.2))) ?_ (hw1:=λ w hw=>by exact hw.back (hO:=E0m))
   ·obtain⟨q1,q2,q3,q4⟩:=hx
    have hdt:=Gh (l:=l) (i:=z.1) (by omega) k;first
    | exact⟨by show z.1+1<=l.length;omega,by simp only[List.length_append,List.length_cons,List.length_nil];omega,by rw[if_neg (by assumption),<- q3] at hdt;exact hdt.symm,by simp only[List.length_append,List.length_cons,List.length_nil];omega⟩
    | exact⟨by show z.1+1<=l.length;omega,q2,by rw[if_pos (by assumption),<- q3] at hdt;exact hdt.symm,by show z.2.2.1.length<=z.1+1;omega⟩
 ·refine K1t ?_;refine Ka4 ?_;refine aS results111 (λ w hw=>?_);obtain⟨q1,q2,q3,q4⟩:=hx;have e:z.2.2.1=jJ l k:=by rw[q3,List.take_of_length_le (by omega)]
  rw[<- e];exact⟨(z.2.1,z.2.2.2),rfl,q2,hw.bB⟩
theorem mG{l:List Pr}{i:Nat}(hi:i<l.length):l.take (i+1)=l.take i++[l.getD i (⟨#[]⟩,0)]:=by rw[List.take_add_one,List.getElem?_eq_getElem hi,iA hi];rfl
theorem p9(p:Pr)(ha:Cl w a (dF l))(hc:l.length<=c)(hs:SA l)(hn:∀q∈l,q.1≠p.1)(hlen:l.length<=200000000000) :
    Calls prog 110 #[.slice a l.length c,.agg ⟨[.string p.1,.int .u64 p.2]⟩] w (vc w (lO l p.1 p.2)):=by
     refine enter func110 ntmps110 rfl rfl (SF.s1 ha) ?_;simp only[cC];refine K1m ?_;intro x3;refine J1 ?_;refine Je ?_;refine Fq ?_;refine mN [5,6,8,9,10,11,12,13,14,15,16,17,18,19,20,21,22,23,24,25,26,27,28,29,30] (λ z:Nat×Option Addr×List Pr×Nat=>[(6,.int .i64 ((z.1:Nat):Int)),(5,.slice z.2.1 z.2.2.1.length z.2.2.2)]) (λ z=>z.1<=l.length/\z.2.2.1.length<=z.2.2.2/\z.2.2.1=l.take z.1/\z.2.2.1.length=z.1/\∀j,j<z.1->dA (l.getD j (⟨#[]⟩,0)).1 p.1=true) (λ z=>[(x3,.cells ⟨[.string p.1,.int .u64 p.2]⟩ 164 (0,0))]) (λ _=>_) (λ z=>[⟨z.2.1,dF z.2.2.1,z.2.2.2,164,2⟩]) (λ z=>l.length-z.1) ((0,none,[],0)) (⟨Nat.zero_le _,Nat.le_refl _,rfl,rfl,λ j hj=>absurd hj (Nat.not_lt_zero j)⟩) (λ z f hx=>?_) (hw0:=λ w hw=>(hw.kQ 164 2).back);refine K0a ?_;refine aT ?_;refine aT ?_;refine gH [0,1,2,3,4,5,6,7,8,9,10,11,12,13] ?_;refine iW ?_;refine qB ?_;refine Ec ?_;refine aV ?_;(refine rcs 12 (λ g12=>?_) (λ g12=>?_)<;>(first|refine iF ?_|(refine aV ?_)));all_goals ((first|refine iF ?_|(refine aV ?_));(first|refine iF ?_|(refine jF ?_));refine J18 ?_;refine J18 ?_;(first|refine iF ?_|(refine ee ?_));refine lZ ?_;refine eN ?_)
     all_goals
      refine bD (λ c21=>?_) (λ c21=>?_)
      ·try exact nv c21
       all_goals (refine rT ?_;refine yG ?_;refine qX ?_;refine Qv ?_;refine fJ (λ x29=>?_);(refine aP E0w (λ x30=>?_);try (refine eP (λ h30=>?_)));refine J1 ?_;refine Kb6 ?_)
       all_goals
        refine iS ((z.1+1,x30.1,z.2.2.1++[l.getD z.1 (⟨#[]⟩,0)],x30.2)) ?_ (hw1:=λ w hw=>hw.back (hO:=E0m))
        ·obtain⟨q1,q2,q3,q4,q5⟩:=hx;refine⟨by show z.1+1<=l.length;omega,by simp only[List.length_append,List.length_cons,List.length_nil];omega,by rw[mG (by omega),<- q3],by simp only[List.length_append,List.length_cons,List.length_nil];omega,λ j hj=>?_⟩;rcases Nat.lt_succ_iff_lt_or_eq.1 hj with h|rfl;·exact q5 j h
         ·exact c21
      ·all_goals refine dx (λ w hw=>hw.aDj (k:=z.2.2.1.length) (c:=c) fin hc) ?_
       all_goals (refine bR rfl ?_;refine J2 ?_;refine dV ?_;refine jG ?_;refine gH [0,1,4,5,6,2,3,7,8] ?_;refine aV ?_;refine Kb4 ?_;refine cZ (i:=6) (hq:=(nu (k:=z.2.2.1.length) rf rf gS (by exact vB rfl) (by omega) (by omega))) (h:=?_);refine cE (h:=λ x35=>?_);((refine dB (i:=3) (hq:=E0w) (h:=λ x36=>?_);try (refine eK (λ h36=>?_))));((refine dB (i:=7) (hq:=(by(exact bG.eM (Nk (l2:=l.drop z.2.2.1.length) rf rf zH (by simp;done) fin (by rw[List.length_drop]) (by exact qW rfl) gS (by omega)) E1f))) (h:=λ x40=>?_);try (refine eK (λ h40=>?_))));refine J7 ?_)
       all_goals
        refine aS results110 (λ w hw=>?_);obtain⟨q1,q2,q3,q4,q5⟩:=hx;have hp:zZ l p.1 z.1:=⟨q1,q5,by first|exact gh hs c21|(intro j h1 h2;omega)⟩;have e:lO l p.1 p.2=z.2.2.1++[(p.1,p.2)]++l.drop z.2.2.1.length:=by
         rw[Xq hp λ hh=>?_,q4,<- q3,List.append_assoc];·rfl
         ·exact hn _ (by rw[iA hh.1];exact List.getElem_mem hh.1) hh.2
        have e2:(z.2.2.1++[(p.1,p.2)]++l.drop z.2.2.1.length).length=z.2.2.1.length+1+(l.length-z.2.2.1.length):=by rw[List.length_append,List.length_append,List.length_drop];rfl
        rw[e];exact⟨x40,by rw[e2];rfl,by rw[e2];exact h40,hw.bB⟩
theorem vZ(k:ByteArray)(ha:Cl w a (dF l))(hlen:l.length<=200000000000) :
  Calls prog 111 #[.slice a l.length c,.string k] w (a9 w (jJ l k)):=(R9 k ha hlen).mono λ _ _ h=>h.Pk
theorem Rn(p:Pr)(ha:Cl w a (dF l))(hc:l.length<=c)(hs:SA l)(hn:∀q∈l,q.1≠p.1)(hlen:l.length<=200000000000) :
  Calls prog 110 #[.slice a l.length c,.agg ⟨[.string p.1,.int .u64 p.2]⟩] w (a9 w (lO l p.1 p.2)):=(p9 p ha hc hs hn hlen).mono λ _ _ h=>h.Pk
theorem Lq{l:List Pr}{k:ByteArray}:∀q∈jJ l k,q.1≠k:=λ q hq=>by simpa using(List.mem_filter.1 hq).2
theorem Hq(l:List Pr)(k:ByteArray):(jJ l k).length<=l.length:=List.length_filter_le _ _
theorem dr(k:ByteArray)(v:Int)(ha:Cl w a (dF l))(hlen:l.length<=200000000000) :
  Calls prog 256 #[.slice a l.length c,.string k,.int .u64 v] w (a9 w (Rr l k v)):=by
 have hdl:=Hq l k;refine enter func256 ntmps256 rfl rfl (SF.s1 ha) ?_;simp only[cC]
 refine Ka7 ?_;refine aD (c0 (V:=.bool) (hc:=λ w1 hw=>mS (hw.cl fin) (by omega))) (λ x8 h8=>?_);refine oG ?_;refine bD (λ c9=>?_) (λ c9=>?_);·refine cU ?_;refine aS results256 (λ w hw=>?_);rw[show Rr l k v=[] from if_neg λ hs=>by rw[h8.2 (nD.2 hs)] at c9;cases c9];exact⟨(none,0),rfl,Nat.le_refl _,(hw.Oj none).fin⟩
 ·have hs:SA l:=nD.1 (h8.1 (by simpa using c9));refine Bo ?_;refine aD (cF (hc:=λ w1 hw=>vZ k (hw.cl fin) hlen)) (λ x12 h12=>?_);refine qX ?_;refine bM ?_;refine aD (cF (hc:=λ w1 hw=>Rn (k,v) (hw.cl fin) h12 (xX k hs) Lq (by omega))) (λ x16 h16=>?_);refine J1 ?_;refine aS results256 (λ w hw=>?_);rw[show Rr l k v=lO (jJ l k) k v from(if_pos hs).trans (Ps hs k v).symm];exact⟨x16,rfl,h16,hw.fin⟩
theorem Z1(k:ByteArray)(ha:Cl w a (dF l))(hlen:l.length<=200000000000) :
  Calls prog 258 #[.slice a l.length c,.string k] w (a9 w (sW l k)):=by
 refine enter func258 ntmps258 rfl rfl (SF.s1 ha) ?_;simp only[cC];refine Ka7 ?_;refine aD (c0 (V:=.bool) (hc:=λ w1 hw=>mS (hw.cl fin) (by omega))) (λ x6 h6=>?_);refine oG ?_;refine bD (λ c7=>?_) (λ c7=>?_);·refine cU ?_;refine aS results258 (λ w hw=>?_);rw[show sW l k=[] from if_neg λ hs=>by rw[h6.2 (nD.2 hs)] at c7;cases c7];exact⟨(none,0),rfl,Nat.le_refl _,(hw.Oj none).fin⟩
 ·have hs:SA l:=nD.1 (h6.1 (by simpa using c7));refine Bo ?_;refine aD (cF (hc:=λ w1 hw=>vZ k (hw.cl fin) hlen)) (λ x10 h10=>?_);refine J1 ?_;refine aS results258 (λ w hw=>?_);rw[show sW l k=jJ l k from if_pos hs];exact⟨x10,rfl,h10,hw.fin⟩
theorem Wa(ha:Cl w a (dF l))(hlen:l.length<=200000000000) :
  Calls prog 61 #[.slice a l.length c] w (a9 w (zE l)):=by
 refine enter func61 ntmps61 rfl rfl (SF.s1 ha) ?_;simp only[cC];refine cU ?_;refine Je ?_;refine Fq ?_;refine mN [3,4,5,6,7,8,9,10,11,12,13,14,15,16,17,18,19,20,21,22] (λ z:Nat×Option Addr×List Pr×Nat=>[(4,.int .i64 ((z.1:Nat):Int)),(3,.slice z.2.1 z.2.2.1.length z.2.2.2)]) (λ z=>z.1<=l.length/\z.2.2.1.length<=z.2.2.2/\z.2.2.1=zE (l.take z.1)/\z.2.2.1.length<=z.1/\SA z.2.2.1) (λ _=>_) (λ z=>[(z.2.1,dF z.2.2.1)]) (λ _=>_) (λ z=>l.length-z.1) ((0,none,[],0)) (⟨Nat.zero_le _,Nat.le_refl _,rfl,Nat.le_refl _,List.Pairwise.nil⟩) (λ z f hx=>?_) (hw0:=λ w hw=>(hw.Oj none).back);refine K0a ?_;refine K1w ?_;refine bD (λ c8=>?_) (λ c8=>?_)
 ·have hdl:=Hq z.2.2.1 (l.getD z.1 (⟨#[]⟩,0)).1;refine rT ?_;refine eI [(0,[]),(1,[]),(2,[]),(3,[]),(4,[]),(5,[]),(7,[]),(8,[]),(9,[]),(10,[]),(6,[9,10]),(11,[]),(12,[])] ?_;refine iW ?_;refine aV ?_;refine jF ?_;refine mE ?_;refine iW ?_;refine Pe ?_;refine bI (i:=6) (hq:=(cF (hc:=λ w1 hw=>vZ (l.getD z.1 (⟨#[]⟩,0)).1 (hw.cl fin) (by omega)))) (h:=λ x17 h17=>?_);refine bI (i:=11) (hq:=(cF (hc:=λ w1 hw=>Rn (l.getD z.1 (⟨#[]⟩,0)) (hw.cl fin) h17 (xX _ hx.2.2.2.2) Lq (by omega)))) (h:=λ x22 h22=>?_);refine J7 ?_;refine Kb6 ?_;refine iS ((z.1+1,x22.1,lO (jJ z.2.2.1 (l.getD z.1 (⟨#[]⟩,0)).1) (l.getD z.1 (⟨#[]⟩,0)).1 (l.getD z.1 (⟨#[]⟩,0)).2,x22.2)) ?_
  ·obtain⟨q1,q2,q3,q4,q5⟩:=hx;have e:=Ps q5 (l.getD z.1 (⟨#[]⟩,0)).1 (l.getD z.1 (⟨#[]⟩,0)).2;have hl:=yP (k:=(l.getD z.1 (⟨#[]⟩,0)).1) (v:=(l.getD z.1 (⟨#[]⟩,0)).2) q5;rw[e] at h22;refine⟨by show z.1+1<=l.length;omega,by show(lO _ _ _).length<=_;rw[e];exact h22,?_,?_,?_⟩
   ·show lO _ _ _=_;rw[e,mG (by omega),sZ,<- q3]
   ·show(lO _ _ _).length<=z.1+1;rw[e,hl];split<;>omega
   ·show SA (lO _ _ _);rw[e];exact yQ q5
 ·refine K1t ?_;refine Ka4 ?_;refine aS results61 (λ w hw=>?_);obtain⟨q1,q2,q3,q4,q5⟩:=hx;have e:z.2.2.1=zE l:=by rw[q3,List.take_of_length_le (by omega)]
  rw[<- e];exact⟨(z.2.1,z.2.2.2),rfl,q2,hw.fin⟩
end
end
section
open Go.RowKit Go.Ct
section
variable{l X:List Pr}{a:Option Addr}{c M:Nat}{k j:ByteArray}{v z:Int}{w:World}
theorem Qq(h:SA X)(k:ByteArray):cL X k=pM X k:=if_pos h
theorem vf(X:List Pr)(k:ByteArray)(v:Int):(Rr X k v).length<=X.length+1:=by
 unfold Rr;split;·next h=>rw[yP h];split<;>omega
 ·exact Nat.zero_le _
theorem sf(X:List Pr)(k:ByteArray):(sW X k).length<=X.length:=by
 unfold sW;split;·exact Hq X k
 ·exact Nat.zero_le _
end
end
end Go.Proofs.YtbajmaoegmbfgaaGreat
namespace Go.Ct
open Go Go.RowKit
section
def nW(b:Nat)(xs:List Int)(k:Nat):Option Int:=if b.testBit k=true then some (xs.getD (fQ b k) 0) else none
def Cj(m:Nat->Option Int):Nat->Nat
 | 0=>0
 | k+1=>if(m k).isSome=true then Cj m k ||| 2^k else Cj m k
def oM(m:Nat->Option Int):Nat->List Int
 | 0=>[]
 | k+1=>oM m k++(m k).toList
def Lk(m:Nat->Option Int)(i:Nat)(o:Option Int)(k:Nat):Option Int:=if k=i then o else m k
structure BV(b:Nat)(xs:List Int):Prop where
 lt:b<18446744073709551616
 len:xs.length=fQ b 64
 pos:∀i,i<xs.length->1<=xs.getD i 0
theorem Xu(m:Nat->Option Int)(j:Nat):∀k,(Cj m k).testBit j=(decide (j<k)&&(m j).isSome)
 | 0=>by simp[Cj]
 | k+1=>by
  have ih:=Xu m j k;simp only[Cj];by_cases hjk:j=k
  ·subst hjk;by_cases h:(m j).isSome=true;·rw[if_pos h,Nat.testBit_or,Nat.testBit_two_pow];simp[h]
   ·rw[if_neg h,ih];simp at h;simp[h]
  ·have h2:(2^k).testBit j=false:=by rw[Nat.testBit_two_pow];exact decide_eq_false (λ h=>hjk h.symm)
   split;·rw[Nat.testBit_or,ih,h2,Bool.or_false];congr 1;exact decide_eq_decide.2 (by omega)
   ·rw[ih];congr 1;exact decide_eq_decide.2 (by omega)
theorem my(m:Nat->Option Int):∀k,Cj m k<2^k
 | 0=>by simp[Cj]
 | k+1=>by
  have ih:=my m k;have h2:2^(k+1)=2^k+2^k:=by rw[Nat.pow_succ];omega
  simp only[Cj];split;·refine Nat.or_lt_two_pow (by omega) ?_;have:=Nat.two_pow_pos k;omega
  ·omega
theorem Dw{xs:List Int}{i:Nat}(h:i<xs.length):xs.getD i 0∈xs:=by rw[iX,List.getElem?_eq_getElem h];exact List.getElem_mem h
theorem Pt{m m':Nat->Option Int}:∀n,(∀k,k<n->m k=m' k)->Cj m n=Cj m' n/\oM m n=oM m' n
 | 0,_=>⟨rfl,rfl⟩
 | n+1,h=>by obtain⟨h1,h2⟩:=Pt n λ k hk=>h k (by omega);simp only[Cj,oM,h1,h2,h n (by omega),and_self]
theorem xT(b:Nat)(k:Nat):∀d,fQ b k<=fQ b (k+d)
 | 0=>Nat.le_refl _
 | d+1=>by have:=xT b k d;rw[<- Nat.add_assoc];simp only[fQ];omega
theorem pZ{b k n:Nat}(h:k<n)(hb:b.testBit k=true):fQ b k<fQ b n:=by obtain⟨d,rfl⟩:=Nat.exists_eq_add_of_le (Nat.succ_le_of_lt h);have:=xT b (k+1) d;simp only[fQ,hb,if_true] at this;exact this
theorem Y1{b:Nat}{xs:List Int}(h:xs.length=fQ b 64):∀k,k<=64->oM (nW b xs) k=xs.take (fQ b k)
 | 0,_=>by simp[oM,fQ]
 | k+1,hk=>by
  have ih:=Y1 h k (by omega);simp only[oM,ih,nW,fQ];split;·rename_i hb;have:=pZ (n:=64) (by omega) hb;rw[List.take_add_one,Option.toList,iX,List.getElem?_eq_getElem (by omega)];rfl
  ·simp
theorem U0{b:Nat}{xs:List Int}(h:BV b xs):Cj (nW b xs) 64=b/\oM (nW b xs) 64=xs:=by
 refine⟨Nat.eq_of_testBit_eq λ j=>?_,?_⟩
 ·rw[Xu];by_cases hj:j<64;·rw[decide_eq_true hj,Bool.true_and];unfold nW;cases hb:b.testBit j<;>simp
  ·rw[decide_eq_false hj,Bool.false_and];exact(Nat.testBit_lt_two_pow (Nat.lt_of_lt_of_le h.lt (Nat.pow_le_pow_right (n:=2) (by decide) (show 64<=j by omega)))).symm
 ·rw[Y1 h.len 64 (Nat.le_refl _),<- h.len,List.take_length]
theorem Bc{b b' i:Nat}(h:b.testBit i=false)(hb:∀j,j<64->b'.testBit j=(b.testBit j||decide (j=i))):∀k,k<=64->fQ b' k=fQ b k+if i<k then 1 else 0
 | 0,_=>rfl
 | k+1,hk=>by
  have ih:=Bc h hb k (by omega);simp only[fQ,ih,hb k (by omega)];by_cases hki:k=i;·subst hki;simp[h]
  ·have:decide (k=i)=false:=decide_eq_false hki;rw[this,Bool.or_false];have e:(i<k+1)↔(i<k):=by omega
   simp only[e];omega
def vM(xs:List Int)(p:Nat)(r:Int):List Int:=xs.take p++r::xs.drop p
def rV(xs:List Int)(p:Nat)(r:Int):List Int:=xs.take p++r::xs.drop (p+1)
def tE(xs:List Int)(p:Nat):List Int:=xs.take p++xs.drop (p+1)
variable{xs:List Int}{p:Nat}
theorem I3(hp:p<=xs.length)(r:Int):(vM xs p r).length=xs.length+1:=by simp[vM];omega
theorem wP(hp:p<xs.length)(r:Int):(rV xs p r).length=xs.length:=by simp[rV];omega
theorem Jp(hp:p<xs.length):(tE xs p).length+1=xs.length:=by simp[tE];omega
theorem Yw(hp:p<=xs.length)(r:Int)(q:Nat):(vM xs p r).getD q 0=if q<p then xs.getD q 0 else if q=p then r else xs.getD (q-1) 0:=by
 simp only[vM,iX];by_cases h1:q<p;·rw[if_pos h1,List.getElem?_append_left (by simp;omega),List.getElem?_take_of_lt h1]
 ·rw[if_neg h1,List.getElem?_append_right (by simp;omega)];have:(xs.take p).length=p:=by simp;omega
  rw[this];by_cases h2:q=p;·subst h2;simp
  ·obtain⟨d,hd⟩:∃d,q-p=d+1:=⟨q-p-1,by omega⟩;rw[if_neg h2,hd,List.getElem?_cons_succ,List.getElem?_drop];congr 2;omega
theorem Oo(hp:p<xs.length)(r:Int)(q:Nat):(rV xs p r).getD q 0=if q=p then r else xs.getD q 0:=by
 simp only[rV,iX];by_cases h1:q<p;·rw[if_neg (by omega),List.getElem?_append_left (by simp;omega),List.getElem?_take_of_lt h1]
 ·rw[List.getElem?_append_right (by simp;omega)];have:(xs.take p).length=p:=by simp;omega
  rw[this];by_cases h2:q=p;·subst h2;simp
  ·obtain⟨d,hd⟩:∃d,q-p=d+1:=⟨q-p-1,by omega⟩;rw[if_neg h2,hd,List.getElem?_cons_succ,List.getElem?_drop];congr 2;omega
theorem W7(hp:p<xs.length)(q:Nat):(tE xs p).getD q 0=if q<p then xs.getD q 0 else xs.getD (q+1) 0:=by
 simp only[tE,iX];by_cases h1:q<p;·rw[if_pos h1,List.getElem?_append_left (by simp;omega),List.getElem?_take_of_lt h1]
 ·rw[if_neg h1,List.getElem?_append_right (by simp;omega)];have:(xs.take p).length=p:=by simp;omega
  rw[this,List.getElem?_drop];congr 2;omega
theorem Db{ys:List Int}(h:∀i,i<xs.length->1<=xs.getD i 0)(hy:∀j,j<ys.length->1<=ys.getD j 0∨∃i,i<xs.length/\ys.getD j 0=xs.getD i 0):∀j,j<ys.length->1<=ys.getD j 0:=λ j hj=>by
 rcases hy j hj with h1|⟨i,hi,he⟩;·exact h1
 ·rw[he];exact h i hi
section
variable{b i:Nat}{xs:List Int}{r:Int}
theorem Ci(b i:Nat)(j:Nat):(b ||| 2^i).testBit j=(b.testBit j||decide (j=i)):=by rw[Nat.testBit_or,Nat.testBit_two_pow];congr 1;exact decide_eq_decide.2 eq_comm
theorem xD(b i:Nat)(j:Nat):(b ^^^ (b &&& 2^i)).testBit j=(b.testBit j&&!decide (j=i)):=by rw[Nat.testBit_xor,Nat.testBit_and,Nat.testBit_two_pow];have:decide (i=j)=decide (j=i):=decide_eq_decide.2 eq_comm;rw[this];cases b.testBit j<;>cases decide (j=i)<;>rfl
theorem Ix(h:BV b xs)(hi:i<64)(hb:b.testBit i=false)(hr:1<=r):BV (b ||| 2^i) (vM xs (fQ b i) r)/\∀k,k<64->nW (b ||| 2^i) (vM xs (fQ b i) r) k=Lk (nW b xs) i (some r) k:=by
 have hc:=Bc hb (λ j _=>Ci b i j)
 have hp:fQ b i<=xs.length:=by obtain⟨d,hd⟩:=Nat.exists_eq_add_of_le (Nat.le_of_lt hi);rw[h.len,hd];exact xT b i d
 refine⟨⟨Nat.or_lt_two_pow (n:=64) h.lt (Nat.pow_lt_pow_right (a:=2) (by decide) hi),?_,Db h.pos λ j hj=>?_⟩,λ k hk=>?_⟩;·rw[I3 hp,hc 64 (Nat.le_refl _),if_pos hi,h.len]
 ·rw[I3 hp] at hj;rw[Yw hp];by_cases h1:j<fQ b i;·rw[if_pos h1];exact .inr ⟨j,by omega,rfl⟩
  ·rw[if_neg h1];by_cases h2:j=fQ b i;·rw[if_pos h2];exact .inl hr
   ·rw[if_neg h2];exact .inr ⟨j-1,by omega,rfl⟩
 ·simp only[nW,Lk];rw[Ci,hc k (by omega),Yw hp];by_cases hki:k=i;·subst hki;simp
  ·rw[if_neg hki,decide_eq_false hki,Bool.or_false];by_cases hbk:b.testBit k=true
   ·rw[if_pos hbk,if_pos hbk];congr 1;by_cases hlt:k<i;·have:=pZ hlt hbk;rw[if_neg (show ¬i<k by omega),if_pos (by omega)];rfl
    ·have:fQ b i<=fQ b k:=by obtain⟨d,hd⟩:=Nat.exists_eq_add_of_le (show i<=k by omega);rw[hd];exact xT b i d
     rw[if_pos (show i<k by omega),if_neg (by omega),if_neg (by omega)];rfl
   ·rw[if_neg hbk,if_neg hbk]
theorem Vh(h:BV b xs)(hi:i<64)(hb:b.testBit i=true)(hr:1<=r):BV b (rV xs (fQ b i) r)/\∀k,k<64->nW b (rV xs (fQ b i) r) k=Lk (nW b xs) i (some r) k:=by
 have hp:fQ b i<xs.length:=by rw[h.len];exact pZ hi hb
 refine⟨⟨h.lt,by rw[wP hp,h.len],Db h.pos λ j hj=>?_⟩,λ k hk=>?_⟩
 ·rw[wP hp] at hj;rw[Oo hp];by_cases h2:j=fQ b i;·rw[if_pos h2];exact .inl hr
  ·rw[if_neg h2];exact .inr ⟨j,hj,rfl⟩
 ·simp only[nW,Lk];rw[Oo hp];by_cases hki:k=i;·subst hki;rw[if_pos hb,if_pos rfl,if_pos rfl]
  ·rw[if_neg hki];by_cases hbk:b.testBit k=true
   ·rw[if_pos hbk,if_pos hbk,if_neg];rcases Nat.lt_or_gt_of_ne hki with hlt|hlt;·have:=pZ hlt hbk;omega
    ·have:=pZ hlt hb;omega
   ·rw[if_neg hbk,if_neg hbk]
theorem Ug(h:BV b xs)(hi:i<64)(hb:b.testBit i=true):BV (b ^^^ (b &&& 2^i)) (tE xs (fQ b i))/\∀k,k<64->nW (b ^^^ (b &&& 2^i)) (tE xs (fQ b i)) k=Lk (nW b xs) i none k:=by
 have hp:fQ b i<xs.length:=by rw[h.len];exact pZ hi hb
 have hb':(b ^^^ (b &&& 2^i)).testBit i=false:=by rw[xD];simp
 have hc:=Bc (b':=b) hb' (λ j _=>by
  rw[xD];by_cases hji:j=i;·subst hji;simp[hb]
  ·rw[decide_eq_false hji];simp)
 refine⟨⟨Nat.xor_lt_two_pow (n:=64) h.lt (Nat.lt_of_le_of_lt Nat.and_le_left h.lt),?_,Db h.pos λ j hj=>?_⟩,λ k hk=>?_⟩;·have:=Jp hp;have:=hc 64 (Nat.le_refl _);rw[if_pos hi] at this;have:=h.len;omega
 ·have:=Jp hp;rw[W7 hp];by_cases h1:j<fQ b i;·rw[if_pos h1];exact .inr ⟨j,by omega,rfl⟩
  ·rw[if_neg h1];exact .inr ⟨j+1,by omega,rfl⟩
 ·simp only[nW,Lk];have hck:=hc k (by omega);rw[xD,W7 hp];by_cases hki:k=i;·subst hki;simp
  ·rw[if_neg hki,decide_eq_false hki,Bool.not_false,Bool.and_true];by_cases hbk:b.testBit k=true
   ·rw[if_pos hbk,if_pos hbk];congr 1;by_cases hlt:k<i;·have:=pZ hlt hbk;rw[if_neg (show ¬i<k by omega)] at hck;rw[if_pos (by omega),hck];rfl
    ·have:=pZ (show i<k by omega) hb;rw[if_pos (show i<k by omega)] at hck;rw[if_neg (by omega),hck]
   ·rw[if_neg hbk,if_neg hbk]
end
end
section
variable{w0 w:World}{M:List Nat}{H:List (Nat×Obj)}{A F:Fr}{O:List Ow}
end
end Go.Ct
namespace Go.Proofs.YtbajmaoegmbfgaaGreat
open Go.Proofs.Tryz
open Go.RowKit Go.Ct
section
theorem uS{n:Nd}{xs:List Int}{ys:List Pr}(h:n.kind=3)(hv:cK n xs ys):(xs.length:Int)=wG n.bm/\Pos xs:=by obtain⟨_,_,_,_,hv⟩:=hv;rcases hv with h1|⟨h1,_⟩|⟨_,h2,h3⟩|⟨h1|h1,_⟩|⟨h1,_⟩|⟨h1,_⟩|⟨h1,_⟩;all_goals first|exact⟨h2,h3⟩|(rw[h] at h1;exact absurd h1 (by decide))
end
section
variable{n:Nd}{xs:List Int}{ys:List Pr}
theorem aAR(n:Nd)(h1:1<=n.kind)(h8:n.kind<=8)(w:World):Calls prog 169 #[n.v] w λ e w'=>e=.returned n.own.v/\St w [] [] w':=by
 refine enter func169 ntmps169 rfl rfl (SF.s0 w) ?_;simp only[cC];refine K1q ?_;intro x1;refine aJ (λ x2=>?_);refine aG ?_;refine K2f ?_;refine bD (λ c5=>?_) (λ c5=>?_);·refine iE ?_;refine K1x ?_;intro w hw;(exact⟨by simp only[Nd.own,beq_iff_eq, *,if_true,if_false];rfl,hw.done⟩)
 ·refine lP ?_;refine bD (λ c10=>?_) (λ c10=>?_);·refine iE ?_;refine Kd2 ?_;refine K1x ?_;intro w hw;(exact⟨by simp only[Nd.own,beq_iff_eq, *,if_true,if_false];rfl,hw.done⟩)
  ·refine lP ?_;refine bD (λ c19=>?_) (λ c19=>?_);·refine iE ?_;refine Kd2 ?_;refine J3 ?_;refine K1x ?_;intro w hw;(exact⟨by simp only[Nd.own,beq_iff_eq, *,if_true,if_false];rfl,hw.done⟩)
   ·refine lP ?_;refine bD (λ c30=>?_) (λ c30=>?_);·refine iE ?_;refine Kd2 ?_;refine J3 ?_;refine K1x ?_;intro w hw;(exact⟨by simp only[Nd.own,beq_iff_eq, *,if_true,if_false];rfl,hw.done⟩)
    ·refine lP ?_;refine bD (λ c41=>?_) (λ c41=>?_);·refine iE ?_;refine Kd2 ?_;refine Kd2 ?_;refine K1x ?_;intro w hw;(exact⟨by simp only[Nd.own,beq_iff_eq, *,if_true,if_false];rfl,hw.done⟩)
     ·refine lP ?_;refine bD (λ c54=>?_) (λ c54=>?_);·refine iE ?_;refine Kd2 ?_;refine J3 ?_;refine K1x ?_;intro w hw;(exact⟨by simp only[Nd.own,beq_iff_eq, *,if_true,if_false];rfl,hw.done⟩)
      ·refine lP ?_;refine bD (λ c65=>?_) (λ c65=>?_);·refine iE ?_;refine J3 ?_;refine K1x ?_;intro w hw;(exact⟨by simp only[Nd.own,beq_iff_eq, *,if_true,if_false];rfl,hw.done⟩)
       ·refine lP ?_;refine bD (λ c72=>?_) (λ c72=>?_);·refine iE ?_;refine Kd2 ?_;refine Kd2 ?_;refine K1x ?_;intro w hw;(exact⟨by simp only[Nd.own,beq_iff_eq, *,if_true,if_false];rfl,hw.done⟩)
        ·refine pE ?_;refine Kc0 ?_;refine aZ results169 (λ w hw=>?_);(exfalso;omega)
theorem jo(h:n.kind=3){k:Nat}(hk:k<xs.length)(hx:xs.getD k 0<1):false=true↔cK n xs ys:=by simp only[Bool.false_eq_true,false_iff];intro hv;have:=(uS h hv).2 k hk;omega
theorem za{c:Int}(h:n.kind=3)(he:sX n n.own xs (n.jV xs) ys (n.jR ys))(h1:0<=n.main)(h2:0<=n.prev)(h3:0<=n.status)(eo:wG n.bm=c)(hp:Pos xs):((xs.length:Int)==c)=true↔cK n xs ys:=by rw[beq_iff_eq,<- eo];exact⟨λ hl=>⟨he,h1,h2,h3,.inr (.inr (.inl ⟨h,hl,hp⟩))⟩,λ hv=>(uS h hv).1⟩
theorem Ab{w:World}{b:Nat}(hb:n.bm=(b:Int))(hb2:b<18446744073709551616)(hr:sG w n xs ys) :
  Calls prog 126 #[n.v] w λ e w'=>∃r:Bool,e=.returned (.bool r)/\(r=true↔cK n xs ys)/\St w [] [] w':=by
 have e1:=hr.brN;have e2:=hr.prN;obtain⟨kind,gen,main,bm,brA,brN,brC,hash,key,val,prA,prN,prK,prev,bS,exp,new,status⟩:=n
 simp only at e1 e2 hb;subst e1 e2 hb;have eo:wG (b:Int)=((fQ b 64:Nat):Int):=nT hb2;have hxl:=hr.brS;refine enter func126 ntmps126 rfl rfl (SF.s2 hr.br hr.pr) ?_;simp only[cC]
 simp only[Nd.v,Nd.cells];refine K1q ?_;intro x1;refine jG ?_;refine aT ?_;refine eI [(0,[]),(1,[]),(2,[]),(3,[]),(4,[]),(5,[]),(6,[]),(7,[]),(8,[]),(9,[]),(10,[]),(11,[9]),(12,[]),(13,[]),(14,[]),(15,[]),(16,[]),(17,[]),(18,[]),(19,[]),(20,[]),(21,[]),(22,[]),(23,[]),(24,[]),(25,[]),(26,[]),(27,[]),(28,[]),(29,[])] ?_;refine mE ?_;refine Ec ?_;refine aV ?_;(refine rcs 7 (λ g7=>?_) (λ g7=>?_)<;>(first|refine iF ?_|(refine aY ?_)));all_goals ((first|refine iF ?_|(refine bV ?_));(first|refine iF ?_|(refine aDp ?_));refine lZ ?_;refine aV ?_)
 all_goals (first|refine iF ?_|(refine rcs 12 (λ g12=>?_) (λ g12=>?_)<;>(first|refine iF ?_|(refine bV ?_))))
 all_goals ((first|refine iF ?_|(refine bV ?_));(first|refine iF ?_|(refine dB (i:=11) (hq:=(cV (hc:=λ w1 hw=>aAR (⟨kind,gen,main,(b:Int),brA,xs.length,brC,hash,key,val,prA,ys.length,prK,prev,bS,exp,new,status⟩:Nd) (show(1:Int)<=kind by omega) (show kind<=8 by omega) w1))) (h:=λ x15=>?_)));(first|refine iF ?_|(refine bI (i:=12) (hq:=(c0 (V:=.bool) (hc:=λ w1 hw=>W9 (a:=(⟨kind,gen,main,(b:Int),brA,xs.length,brC,hash,key,val,prA,ys.length,prK,prev,bS,exp,new,status⟩:Nd)) (b:=((⟨kind,gen,main,(b:Int),brA,xs.length,brC,hash,key,val,prA,ys.length,prK,prev,bS,exp,new,status⟩:Nd)).own) (hr.gB hw.done) (hr.gB hw.done).own))) (h:=λ x16 h16=>?_)));(first|refine iF ?_|(refine Yc ?_));refine lZ ?_;refine aV ?_)
 all_goals (first|refine iF ?_|(refine rcs 19 (λ g19=>?_) (λ g19=>?_)<;>(first|refine iF ?_|(refine aY ?_))))
 all_goals ((first|refine iF ?_|(refine bV ?_));(first|refine iF ?_|(refine Ec ?_));refine lZ ?_;refine aV ?_)
 all_goals (first|refine iF ?_|(refine rcs 24 (λ g24=>?_) (λ g24=>?_)<;>(first|refine iF ?_|(refine aY ?_))))
 all_goals ((first|refine iF ?_|(refine bV ?_));(first|refine iF ?_|(refine Ec ?_));refine lZ ?_;refine aV ?_)
 all_goals (first|refine iF ?_|(refine rcs 29 (λ g29=>?_) (λ g29=>?_)<;>(first|refine iF ?_|(refine aY ?_))))
 all_goals ((first|refine iF ?_|(refine bV ?_));(first|refine iF ?_|(refine Ec ?_));refine lZ ?_;refine eN ?_)
 all_goals
 refine bD (λ c33=>?_) (λ c33=>?_)
 ·all_goals refine cU ?_
  all_goals refine K1y ?_;intro w hw;refine⟨_,rfl,?_,hw.done⟩;first|(simp_all[cK];done)|(simp_all[cK];omega)
 ·try exact nv c33
  all_goals (refine lB ?_;refine iE ?_;refine aG ?_;refine cO ?_;refine lP ?_)
  all_goals
   refine bD (λ c36=>?_) (λ c36=>?_);·refine iE ?_;refine lQ ?_;refine J1 ?_;refine K1y ?_;intro w hw;refine⟨_,rfl,?_,hw.done⟩;(simp_all[cK];done)
   ·refine lP ?_;refine bD (λ c41=>?_) (λ c41=>?_)
    ·refine aT ?_;refine Fq ?_;refine gF [2,3,43,44,45,46,47,48,49,50,51,52,53,54,55] (λ k=>[(3,.int .i64 ((k:Nat):Int))]) (λ k=>k<=xs.length/\∀i,i<k->1<=xs.getD i 0) (λ k=>xs.length-k) (0) (⟨Nat.zero_le _,λ i hi=>absurd hi (Nat.not_lt_zero i)⟩) ?_ (λ k f hx=>?_);·repeat (first|exact bF _|refine aX (by exact rfl) ?_)
     refine K0a ?_;refine jS ?_;refine Pb ?_;refine wF ?_;refine bD (λ c47=>?_) (λ c47=>?_)
     ·refine rT ?_;refine Kc8 ?_;refine Qv ?_;refine wF ?_;refine bD (λ c55=>?_) (λ c55=>?_);·refine cU ?_;refine K1y ?_;intro w hw;refine⟨_,rfl,?_,hw.done⟩;exact jo c41 (k:=k) (by omega) (by assumption)
      ·refine Kc3 ?_;refine eG (k+1) ?_ ?_ ?_;·omega
       ·repeat' (first|exact bF _|refine aX ?_ ?_)
        exact rfl
       ·exact⟨by omega,λ i hi=>by rcases Nat.lt_succ_iff_lt_or_eq.1 hi with h|rfl;exact hx.2 i h;omega⟩
     ·refine K1t ?_;refine aT ?_;refine eI [(0,[]),(1,[]),(2,[]),(3,[]),(4,[]),(5,[1]),(6,[]),(7,[])] ?_;refine mE ?_;refine qB ?_;refine mE ?_;refine dB (i:=5) (hq:=(cV (hc:=λ w1 hw=>Vk hb2 w1))) (h:=λ x61=>?_);refine pI ?_;refine J7 ?_;refine K1y ?_;intro w hw;refine⟨_,rfl,?_,hw.done⟩;exact za c41 (h16.1 (by simpa using g19)) (show 0<=main by omega) (show 0<=prev by omega) (show 0<=status by omega) eo (λ i hi=>hx.2 i (by omega))
    ·refine aT ?_;refine lP ?_;refine bD (λ c63=>?_) (λ c63=>?_)
     ·refine aW ?_;refine bD (λ c63=>?_) (λ c63=>?_);·refine iE ?_;refine kW ?_;refine xR ?_;refine J1 ?_;refine K1y ?_;intro w hw;refine⟨_,rfl,?_,hw.done⟩;(simp_all[cK];omega)
      ·refine lP ?_;refine bD (λ c70=>?_) (λ c70=>?_)
       ·refine iE ?_;refine dV ?_;refine lQ ?_;refine aA ?_;(refine eE 76 (λ g76=>?_) (λ g76=>?_)<;>refine Ka1 ?_);all_goals (refine Ka2 ?_;(first|refine aI ?_|(refine aF ?_;refine aD (c0 (V:=.bool) (hc:=λ w1 hw=>mS (hw.cl fin) hr.prS)) (λ x79 h79=>?_)));refine Kc1 ?_)
        all_goals (first|refine aI ?_|(refine eE 81 (λ g81=>?_) (λ g81=>?_)<;>refine Ka1 ?_))
        all_goals (refine Ka2 ?_;(first|refine aI ?_|(refine aF ?_;refine aD (c0 (V:=.bool) (hc:=λ w1 hw=>oc (hw.cl fin) hr.prS)) (λ x84 h84=>?_)));refine Kb9 ?_)
        all_goals
        refine K1y ?_;intro w hw;refine⟨_,rfl,?_,hw.done⟩;(simp_all[cK];done)
       ·refine lP ?_;refine bD (λ c86=>?_) (λ c86=>?_);·refine iE ?_;refine lQ ?_;refine J1 ?_;refine K1y ?_;intro w hw;refine⟨_,rfl,?_,hw.done⟩;(simp_all[cK];done)
        ·refine lP ?_;refine bD (λ c91=>?_) (λ c91=>?_)
         ·refine iE ?_;refine lQ ?_;refine aA ?_;(refine eE 96 (λ g96=>?_) (λ g96=>?_)<;>refine Ka1 ?_);all_goals (refine J86 ?_;refine Kc1 ?_)
          all_goals (first|refine aI ?_|(refine eE 101 (λ g101=>?_) (λ g101=>?_)<;>refine Ka1 ?_))
          all_goals (refine J86 ?_;refine Kb9 ?_)
          all_goals
          refine K1y ?_;intro w hw;refine⟨_,rfl,?_,hw.done⟩;(simp_all[cK];done)
         ·refine Kb0 ?_;refine K1y ?_;intro w hw;refine⟨_,rfl,?_,hw.done⟩;(simp_all[cK];done)
     ·refine dS ?_;refine Ti ?_;refine bD (λ c63=>?_) (λ c63=>?_);·refine iE ?_;refine kW ?_;refine xR ?_;refine J1 ?_;refine K1y ?_;intro w hw;refine⟨_,rfl,?_,hw.done⟩;(simp_all[cK];omega)
      ·refine lP ?_;refine bD (λ c70=>?_) (λ c70=>?_)
       ·refine iE ?_;refine dV ?_;refine lQ ?_;refine aA ?_;(refine eE 76 (λ g76=>?_) (λ g76=>?_)<;>refine Ka1 ?_);all_goals (refine Ka2 ?_;(first|refine aI ?_|(refine aF ?_;refine aD (c0 (V:=.bool) (hc:=λ w1 hw=>mS (hw.cl fin) hr.prS)) (λ x79 h79=>?_)));refine Kc1 ?_)
        all_goals (first|refine aI ?_|(refine eE 81 (λ g81=>?_) (λ g81=>?_)<;>refine Ka1 ?_))
        all_goals (refine Ka2 ?_;(first|refine aI ?_|(refine aF ?_;refine aD (c0 (V:=.bool) (hc:=λ w1 hw=>oc (hw.cl fin) hr.prS)) (λ x84 h84=>?_)));refine Kb9 ?_)
        all_goals
        refine K1y ?_;intro w hw;refine⟨_,rfl,?_,hw.done⟩;first|(simp_all[cK];done)|(simp_all[cK];omega)
       ·refine lP ?_;refine bD (λ c86=>?_) (λ c86=>?_);·refine iE ?_;refine lQ ?_;refine J1 ?_;refine K1y ?_;intro w hw;refine⟨_,rfl,?_,hw.done⟩;(simp_all[cK];done)
        ·refine lP ?_;refine bD (λ c91=>?_) (λ c91=>?_)
         ·refine iE ?_;refine lQ ?_;refine aA ?_;(refine eE 96 (λ g96=>?_) (λ g96=>?_)<;>refine Ka1 ?_);all_goals (refine J86 ?_;refine Kc1 ?_)
          all_goals (first|refine aI ?_|(refine eE 101 (λ g101=>?_) (λ g101=>?_)<;>refine Ka1 ?_))
          all_goals (refine J86 ?_;refine Kb9 ?_)
          all_goals
          refine K1y ?_;intro w hw;refine⟨_,rfl,?_,hw.done⟩;first|(simp_all[cK];done)|(simp_all[cK];omega)
         ·refine Kb0 ?_;refine K1y ?_;intro w hw;refine⟨_,rfl,?_,hw.done⟩;(simp_all[cK];omega)
end
end Go.Proofs.YtbajmaoegmbfgaaGreat
namespace Go.Ct
open Go Go.RowKit
section
end
end Go.Ct
namespace Go.Proofs.YtbajmaoegmbfgaaGreat
open Go.Proofs.Tryz
section
open Go.RowKit Go.Ct
def CV(n:Nd)(xs:List Int)(ys:List Pr):Prop:=n.kind=3/\cK n xs ys
theorem CV.bv{n:Nd}{xs:List Int}{ys:List Pr}{b:Nat}(h:CV n xs ys)(hb:n.bm=(b:Int))(hb2:b<18446744073709551616):BV b xs:=by obtain⟨h1,h2⟩:=uS h.1 h.2;rw[hb,nT hb2] at h1;exact⟨hb2,by omega,h2⟩
open Classical in
noncomputable def Fj (n:Nd) (xs:List Int) (ys:List Pr) (b:Nat) (i:Int):Option Int:=if CV n xs ys/\oZ b i=true then some (xs.getD (mM b i) 0) else none
open Classical in
noncomputable def r7 (n:Nd) (xs:List Int) (ys:List Pr):Option Int:=if CV n xs ys/\xs.length=1 then some (xs.getD 0 0) else none
theorem tJ{b:Nat}{i:Int}(h:oZ b i=true):0<=i/\i<64/\b.testBit i.toNat=true/\mM b i=fQ b i.toNat:=by simp only[oZ,Bool.and_eq_true,decide_eq_true_eq] at h;exact⟨h.1,h.2.1,h.2.2,by unfold mM;congr 1;omega⟩
theorem aAk{b:Nat}{xs:List Int}(h:BV b xs){i:Int}(hh:oZ b i=true):mM b i<xs.length:=by obtain⟨h1,h2,h3,h4⟩:=tJ hh;rw[h4,h.len];exact pZ (by omega) h3
section
variable{n:Nd}{xs:List Int}{ys:List Pr}{w:World}{b:Nat}
theorem mq(hr:sG w n xs ys):Calls prog 190 #[n.v] w λ e w'=>∃r:Bool,e=.returned (.bool r)/\(r=true↔CV n xs ys)/\St w [] [] w':=by
 refine enter func190 ntmps190 rfl rfl (SF.s0 w) ?_;simp only[cC];simp only[Nd.v,Nd.cells];refine K1q ?_;intro x1;refine J1 ?_;refine iE ?_;refine mJ ?_;refine aA ?_;(refine eE 6 (λ g6=>?_) (λ g6=>?_)<;>refine Ka2 ?_);all_goals ((first|refine aI ?_|(refine aF ?_;refine aD (c0 (V:=.bool) (hc:=λ w1 hw=>Li (n:=n) (hr.gB hw.done))) (λ x8 h8=>?_)));refine Kb9 ?_)
 all_goals
 refine aS results190 (λ w hw=>?_);refine⟨_,rfl,?_,hw.done⟩;simp_all[CV]
theorem nj(hb:n.bm=(b:Int))(hb2:b<18446744073709551616)(hr:sG w n xs ys):Calls prog 243 #[n.v] w λ e w'=>∃r:Bool,e=.returned (.bool r)/\(r=true↔CV n xs ys)/\St w [] [] w':=by
 refine enter func243 ntmps243 rfl rfl (SF.s0 w) ?_;simp only[cC];simp only[Nd.v,Nd.cells];refine K1q ?_;intro x1;refine J1 ?_;refine iE ?_;refine mJ ?_;refine aA ?_;(refine eE 6 (λ g6=>?_) (λ g6=>?_)<;>refine Ka2 ?_);all_goals ((first|refine aI ?_|(refine aF ?_;refine aD (c0 (V:=.bool) (hc:=λ w1 hw=>Ab (n:=n) hb hb2 (hr.gB hw.done))) (λ x8 h8=>?_)));refine Kb9 ?_)
 all_goals
 refine aS results243 (λ w hw=>?_);refine⟨_,rfl,?_,hw.done⟩;simp_all[CV]
theorem jm(i:Int)(hb:n.bm=(b:Int))(hb2:b<18446744073709551616)(hr:sG w n xs ys):Calls prog 149 #[n.v,.int .i64 i] w λ e w'=>e=.returned (.tuple #[.int .i64 ((Fj n xs ys b i).getD 0),.bool (Fj n xs ys b i).isSome])/\St w [] [] w':=by
 have e1:=hr.brN;refine enter func149 ntmps149 rfl rfl (SF.s2 hr.br hr.pr) ?_;simp only[cC]
 simp only[Nd.v,Nd.cells,hb,e1];refine J0 ?_;refine bJ (λ x2=>?_);refine J8 ?_;refine aT ?_;refine nJ ?_;refine aD (c0 (V:=.bool) (hc:=λ w1 hw=>by rw[<- e1,<- hb];exact mq (n:=n) (hr.gB hw.done))) (λ x7 h7=>?_);refine Cr ?_;(refine eE 9 (λ g9=>?_) (λ g9=>?_)<;>refine Ka1 ?_);all_goals (refine Z6 ?_;(first|refine aI ?_|(refine aF ?_;refine aP (cV (hc:=λ w1 hw=>aC5 hb2 i w1)) (λ x13=>?_)));refine Kc2 ?_)
 all_goals
 refine bD (λ c15=>?_) (λ c15=>?_)
 ·all_goals refine Hu ?_
  all_goals refine aZ results149 (λ w hw=>?_);rw[show Fj n xs ys b i=none from if_neg (by simp_all)];exact⟨rfl,hw.done⟩
 ·try exact nv c15
  all_goals have hcv:CV n xs ys:=h7.1 (by simpa using g9);have hpl:=aAk (hcv.bv hb hb2) c15
  all_goals (refine lB ?_;refine eI [(0,[]),(1,[]),(2,[]),(3,[]),(4,[]),(5,[1]),(6,[]),(7,[]),(8,[]),(9,[])] ?_;refine mE ?_;refine Ke0 ?_;refine dB (i:=5) (hq:=(cV (hc:=λ w1 hw=>aDo hb2 i w1))) (h:=λ x21=>?_);refine Pe ?_;refine Pa ?_)
  all_goals refine aZ results149 (λ w hw=>?_);rw[show Fj n xs ys b i=some (xs.getD (mM b i) 0) from if_pos ⟨hcv,c15⟩];exact⟨rfl,hw.done⟩
theorem oV(i:Int)(hb:n.bm=(b:Int))(hb2:b<18446744073709551616)(hr:sG w n xs ys):Calls prog 216 #[n.v,.int .i64 i] w λ e w'=>e=.returned (.tuple #[.int .i64 ((Fj n xs ys b i).getD 0),.bool (Fj n xs ys b i).isSome])/\St w [] [] w':=by
 have e1:=hr.brN;refine enter func216 ntmps216 rfl rfl (SF.s2 hr.br hr.pr) ?_;simp only[cC]
 simp only[Nd.v,Nd.cells,hb,e1];refine J0 ?_;refine bJ (λ x2=>?_);refine J8 ?_;refine aT ?_;refine nJ ?_;refine aD (c0 (V:=.bool) (hc:=λ w1 hw=>by rw[<- e1,<- hb];exact nj (n:=n) hb hb2 (hr.gB hw.done))) (λ x7 h7=>?_);refine Cr ?_;(refine eE 9 (λ g9=>?_) (λ g9=>?_)<;>refine Ka1 ?_);all_goals (refine Z6 ?_;(first|refine aI ?_|(refine aF ?_;refine aP (cV (hc:=λ w1 hw=>H3 hb2 i w1)) (λ x13=>?_)));refine Kc2 ?_)
 all_goals
 refine bD (λ c15=>?_) (λ c15=>?_)
 ·all_goals refine Hu ?_
  all_goals refine aZ results216 (λ w hw=>?_);rw[show Fj n xs ys b i=none from if_neg (by simp_all)];exact⟨rfl,hw.done⟩
 ·try exact nv c15
  all_goals have hcv:CV n xs ys:=h7.1 (by simpa using g9);have hpl:=aAk (hcv.bv hb hb2) c15
  all_goals (refine lB ?_;refine eI [(0,[]),(1,[]),(2,[]),(3,[]),(4,[]),(5,[1]),(6,[]),(7,[]),(8,[]),(9,[])] ?_;refine mE ?_;refine Ke0 ?_;refine dB (i:=5) (hq:=(cV (hc:=λ w1 hw=>Sw hb2 i w1))) (h:=λ x21=>?_);refine Pe ?_;refine Pa ?_)
  all_goals refine aZ results216 (λ w hw=>?_);rw[show Fj n xs ys b i=some (xs.getD (mM b i) 0) from if_pos ⟨hcv,c15⟩];exact⟨rfl,hw.done⟩
theorem Lx(hb:n.bm=(b:Int))(hb2:b<18446744073709551616)(hr:sG w n xs ys):Calls prog 245 #[n.v] w λ e w'=>e=.returned (.tuple #[.int .i64 ((r7 n xs ys).getD 0),.bool (r7 n xs ys).isSome])/\St w [] [] w':=by
 have e1:=hr.brN;refine enter func245 ntmps245 rfl rfl (SF.s2 hr.br hr.pr) ?_;simp only[cC]
 simp only[Nd.v,Nd.cells,e1];refine K1q ?_;intro x1;refine J8 ?_;refine aT ?_;refine nJ ?_;refine aD (c0 (V:=.bool) (hc:=λ w1 hw=>by rw[<- e1];exact nj (n:=n) hb hb2 (hr.gB hw.done))) (λ x5 h5=>?_);refine Cr ?_;(refine eE 7 (λ g7=>?_) (λ g7=>?_)<;>refine Ka1 ?_);all_goals (refine Ka2 ?_;(first|refine aI ?_|(refine aF ?_;refine dV ?_));refine Q3 ?_;refine aG ?_)
 all_goals
 refine bD (λ c12=>?_) (λ c12=>?_)
 ·all_goals refine Hu ?_
  all_goals refine aZ results245 (λ w hw=>?_);rw[show r7 n xs ys=none from if_neg (by simp_all;try omega)];exact⟨rfl,hw.done⟩
 ·try exact nv c12
  all_goals have hcv:CV n xs ys:=h5.1 (by simpa using g7);have hl1:xs.length=1:=by omega
  all_goals (refine aW ?_;refine iE ?_;refine aC (dR (k:=0) rf rf gS fW fin (by omega) (by omega)) rfl ?_;refine bO ?_;refine J8 ?_)
  all_goals refine aZ results245 (λ w hw=>?_);rw[show r7 n xs ys=some (xs.getD 0 0) from if_pos ⟨hcv,hl1⟩];exact⟨rfl,hw.done⟩
end
end
section
open Go.RowKit Go.Ct
def cn(b:Nat)(xs:List Int)(x:Option Addr×Nat):Nd:={Nd.zero with kind:=3,bm:=(b:Int),brA:=x.1,brN:=xs.length,brC:=x.2}
theorem r9{b:Nat}{xs:List Int}(h:BV b xs)(x:Option Addr×Nat){p:Int}(hp:0<=p):CV {cn b xs x with prev:=p} xs [] :=⟨rfl,by simp[sX,Nd.own,Nd.jV,Nd.jR,cn],by simp[cn,Nd.zero],hp,by simp[cn,Nd.zero],.inr (.inr (.inl ⟨rfl,by show(xs.length:Int)=wG (b:Int);rw[nT h.lt,h.len],h.pos⟩))⟩
theorem aBY{b:Nat}{xs:List Int}(h:BV b xs)(x:Option Addr×Nat):CV (cn b xs x) xs []:=r9 h x (p:=0) (Int.le_refl _)
end
section
open Go.RowKit Go.Ct
abbrev U5:=ng 114
abbrev v8(w:World):=Nb w 114
variable{l:List Int}{a:Option Addr}{c:Nat}{w:World}
theorem aCT(v n:Int)(w:World)(hn:IntKind.u64.wrap n≠0):Calls prog 46 #[.int .i64 v,.int .i64 n] w λ e w'=>e=.returned (.int .i64 (ah v n))/\St w [] [] w':=by refine enter func46 ntmps46 rfl rfl (SF.s0 w) ?_;simp only[cC];refine Kb5 ?_;refine gX ?_;refine aA ?_;refine gX ?_;refine aD0 ?_;refine gX ?_;refine J1 ?_;refine aS results46 (λ w hw=>?_);exact⟨rfl,hw.done⟩
theorem aAA:Calls prog 21 #[.slice a l.length c] w λ e w' =>
  ∃b:Nat,e=.returned (.pointer (some ⟨b,0,none⟩))/\True/\SF w [] [(b,U5 a l c 0)] [] [] [] w':=by refine enter func21 ntmps21 rfl rfl (SF.s0 w) ?_;simp only[cC];refine Kb5 ?_;refine bM ?_;refine bJ (λ x5=>?_);refine J1 ?_;refine aS results21 (λ w hw=>?_);exact⟨x5,rfl,trivial,hw.bB⟩
theorem fO{b k:Nat}(n:Int)(ht:v8 w b a l c k)(h0:0<n)(h1:n<=9223372036854775807) :
  Calls prog 22 #[.pointer (some ⟨b,0,none⟩),.int .i64 n] w λ e w' =>
  ∃v:Nat,e=.returned (.int .i64 ((v:Nat):Int))/\((v:Int)<n/\v=tvN l k n)/\SF w [b] ((b,U5 a l c (pN l k))::[]) [] [] [] w':=by
 have hl:=ht.len;have hu:IntKind.u64.wrap n≠0:=by rw[wrap_u64];omega
 refine enter func22 ntmps22 rfl rfl ht.start ?_;simp only[cC];refine Je ?_;refine aT ?_;refine gH [0,1,2,3,4,5,6,7,8,9] ?_;refine Fl ?_;refine qB ?_;refine aDV ?_;refine eN ?_;refine bD (λ c14=>?_) (λ c14=>?_);·refine cU ?_;refine aS results22 (λ w hw=>?_);exact⟨0,rfl,⟨by omega,by simp only[tvN];rw[if_neg (by omega)]⟩,by simp only[pN];rw[if_neg (by omega)];exact hw.bB⟩
 ·refine J83 ?_;refine Eb ?_;refine Pd ?_;refine aT ?_;refine gH [0,1,2,3,4,5,6,7,8,9,10,11,12,13] ?_;refine Fl ?_;refine Qy ?_;refine Pe ?_;refine aV ?_;refine dB (i:=12) (hq:=(cV (hc:=λ w1 hw=>aCT (l.getD (k+1-1) 0) n w1 hu))) (h:=λ x34=>?_);refine J7 ?_;refine aS results22 (λ w hw=>?_);have hb:=Vr (v:=l.getD k 0) h0 h1;exact⟨(ah (l.getD k 0) n).toNat,by rw[Int.toNat_of_nonneg hb.1];rfl,⟨by omega,by simp only[tvN];rw[if_pos (by omega)]⟩,by simp only[pN];rw[if_pos (by omega)];exact hw.bB⟩
def gT:List ByteArray:=[⟨#[97]⟩,⟨#[98]⟩,⟨#[99]⟩,⟨#[100]⟩,⟨#[97,98]⟩,⟨#[]⟩,⟨#[98,48]⟩,⟨#[107,101,121]⟩]
theorem ou{l:List Int}{a:Option Addr}{b c k:Nat}{w:World}(ht:v8 w b a l c k) :
  Calls prog 59 #[.pointer (some ⟨b,0,none⟩)] w λ e w' =>
  ∃v:Nat,e=.returned (.string (gT.getD v ⟨#[]⟩))/\(v<8/\v=tvN l k 8)/\SF w [b] ((b,U5 a l c (pN l k))::[]) [] [] [] w':=by refine enter func59 ntmps59 rfl rfl ht.start ?_;simp only[cC];refine cU ?_;refine J0 ?_;refine fJ (λ x3=>?_);refine aA ?_;refine aD (zB (hc:=λ w1 hw=>fO 8 (hw.tape cY fin ht.len) (by decide) (by decide))) (λ x5 h5=>?_);refine aC (rq (lst:=gT) rf rf gS fW fin (by omega) E0v) rfl ?_;refine aC (yn (lst:=gT) rf fW fin E0v) rfl ?_;refine J1 ?_;refine aS results59 (λ w hw=>?_);exact⟨x5,rfl,⟨by omega,h5.2⟩,hw.bB⟩
theorem Ud(v:Nat):(gT.getD v ⟨#[]⟩).size<=3:=by
 by_cases h:v<8
 ·have:v=0∨v=1∨v=2∨v=3∨v=4∨v=5∨v=6∨v=7:=by omega
  rcases this with rfl|rfl|rfl|rfl|rfl|rfl|rfl|rfl<;>decide
 ·rw[List.getD,List.getElem?_eq_none E0v];decide
end
end Go.Proofs.YtbajmaoegmbfgaaGreat
namespace Go.Ct
section
end
end Go.Ct
namespace Go.Proofs.YtbajmaoegmbfgaaGreat
open Go.Proofs.Tryz
section
open Go.RowKit Go.Ct
end
section
open Go.RowKit Go.Ct
def tmb(s:Nd):Nd:={Nd.zero with kind:=5,hash:=s.hash,key:=s.key,val:=s.val}
def Gp(n:Nd):Nd:=if n.kind=5 then{Nd.zero with kind:=4,hash:=n.hash,key:=n.key,val:=n.val} else Nd.zero
theorem Kj(n:Nd)(w:World):Calls prog 219 #[n.v] w λ e w'=>e=.returned (.tuple #[(Gp n).v,.bool (decide (n.kind=5))])/\St w [] [] w':=by
 refine enter func219 ntmps219 rfl rfl (SF.s0 w) ?_;simp only[cC];simp only[Nd.v,Nd.cells];refine K1q ?_;intro x1;refine aJ (λ x2=>?_);refine jG ?_;refine iE ?_;refine Kc5 ?_;refine bD (λ c6=>?_) (λ c6=>?_);·refine J0 ?_;refine bM ?_;refine E8 ?_;refine aZ results219 (λ w hw=>?_);exact⟨by rw[show Gp n=Nd.zero from if_neg (by assumption),decide_eq_false (by assumption)];rfl,hw.done⟩
 ·refine aW ?_;refine iE ?_;refine Kd2 ?_;refine bM ?_;refine E8 ?_;refine aZ results219 (λ w hw=>?_);exact⟨by rw[show Gp n={Nd.zero with kind:=4,hash:=n.hash,key:=n.key,val:=n.val} from if_pos (by omega),decide_eq_true (by omega)];rfl,hw.done⟩
section
variable{n s:Nd}{xs:List Int}{ys:List Pr}{w:World}{b:Nat}
def LV(n:Nd)(xs:List Int)(ys:List Pr):Prop:=n.kind=6/\cK n xs ys
theorem S3(hb:n.bm=(b:Int))(hb2:b<18446744073709551616)(hr:sG w n xs ys):Calls prog 255 #[n.v] w λ e w'=>∃r:Bool,e=.returned (.bool r)/\(r=true↔LV n xs ys)/\St w [] [] w':=by
 refine enter func255 ntmps255 rfl rfl (SF.s0 w) ?_;simp only[cC];simp only[Nd.v,Nd.cells];refine K1q ?_;intro x1;refine J1 ?_;refine iE ?_;refine mJ ?_;refine aA ?_;(refine eE 6 (λ g6=>?_) (λ g6=>?_)<;>refine Ka2 ?_);all_goals ((first|refine aI ?_|(refine aF ?_;refine aD (c0 (V:=.bool) (hc:=λ w1 hw=>Ab (n:=n) hb hb2 (hr.gB hw.done))) (λ x8 h8=>?_)));refine Kb9 ?_)
 all_goals
 refine aS results255 (λ w hw=>?_);refine⟨_,rfl,?_,hw.done⟩;simp_all[LV]
open Classical in
noncomputable def Tw (n:Nd) (xs:List Int) (ys:List Pr) (level:Int) (s:Nd):Bool:=decide ((r7 n xs ys).isSome=true/\0<level/\s.kind=4)
def reN(t:Bool)(n s:Nd):Nd:=if t=true then tmb s else n
def ta{α:Type}(t:Bool)(l:List α):List α:=if t=true then [] else l
theorem Fi(level:Int)(s:Nd)(hb:n.bm=(b:Int))(hb2:b<18446744073709551616)(hr:sG w n xs ys):Calls prog 221 #[n.v,.int .i64 level,s.v] w λ e w'=>e=.returned (reN (Tw n xs ys level s) n s).v/\St w [] [] w':=by
 refine enter func221 ntmps221 rfl rfl (SF.s0 w) ?_;simp only[cC];simp only[Nd.v,Nd.cells];refine K1m ?_;intro x3;refine bJ (λ x5=>?_);refine aJ (λ x6=>?_);refine Qa ?_;refine nJ ?_;refine aP (cV (hc:=λ w1 hw=>Lx (n:=n) hb hb2 (hr.gB hw.done))) (λ x11=>?_);refine K0c ?_;refine J8 ?_;refine jD ?_;(refine eE 15 (λ g15=>?_) (λ g15=>?_)<;>refine Ka0 ?_);all_goals (refine B7 ?_;refine aA ?_)
 all_goals (first|refine aI ?_|(refine eE 19 (λ g19=>?_) (λ g19=>?_)<;>refine Ka1 ?_))
 all_goals (refine J78 ?_;refine aG ?_)
 all_goals
 refine bD (λ c23=>?_) (λ c23=>?_)
 ·try exact nv c23
  all_goals (refine iE ?_;refine Kd2 ?_;refine wU ?_)
  all_goals refine aZ results221 (λ w hw=>?_);rw[show Tw n xs ys level s=true from decide_eq_true ⟨by assumption,by omega,by omega⟩];exact⟨rfl,hw.done⟩
 ·all_goals (refine aW ?_;refine Ka9 ?_)
  all_goals refine aZ results221 (λ w hw=>?_);rw[show Tw n xs ys level s=false from decide_eq_false (by rintro ⟨t1,t2,t3⟩;first|omega|(clear hw;simp_all;done))];exact⟨rfl,hw.done⟩
end
end
end Go.Proofs.YtbajmaoegmbfgaaGreat
