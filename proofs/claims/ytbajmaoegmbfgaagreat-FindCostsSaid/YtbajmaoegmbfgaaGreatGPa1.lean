/- Merged. -/
import Derived.Test.YtbajmaoegmbfgaaGreatGNode2
import Derived.Lib.Bytealg
import Derived.Laws.Externs
import Derived.Test.YtbajmaoegmbfgaaGreatGFun
set_option linter.unusedSimpArgs false
set_option linter.unusedVariables false
namespace Go.Proofs.YtbajmaoegmbfgaaGreat
open Go.RowKit Go.Ct
section
variable{a b c:ByteArray}
theorem aB0(h:cZ a b=true)(h2:cZ c b=false):cZ a c=true:=by
 cases hb:cZ b c with
 | true=>exact jF h hb
 | false=>have:=rW hb h2;subst this;exact h
theorem aBb(h:cZ b a=false)(h2:cZ c b=false):cZ c a=false:=by
 cases hc:cZ c a with
 | false=>rfl
 | true=>have:=aB0 hc h;rw[this] at h2;cases h2
theorem nU(h:cZ a b=true):a≠b:=λ e=>by subst e;rw[qI] at h;cases h
theorem Tm(h:cZ b a=false)(hn:a≠b):cZ a b=true:=by
 cases hb:cZ a b with
 | true=>rfl
 | false=>exact absurd (rW hb h) hn
def SA(l:List Pr):Prop:=l.Pairwise λ p q=>cZ p.1 q.1=true
theorem X3{l:List Pr}(h:z7 l):∀d i,i+d+1<l.length->cZ (l.getD i (⟨#[]⟩,0)).1 (l.getD (i+d+1) (⟨#[]⟩,0)).1=true
 | 0,i,hi=>by have:=h (i+1) (by omega) hi;rwa [Nat.add_sub_cancel] at this
 | d+1,i,hi=>jF (X3 h d i (by omega)) (by have:=h (i+(d+1)+1) (by omega) hi;rwa [Nat.add_sub_cancel] at this)
theorem gW{l:List Pr}{i:Nat}(h:i<l.length):l.getD i (⟨#[]⟩,0)=l[i]:=by simp[List.getD,List.getElem?_eq_getElem h]
theorem mR{l:List Pr}:z7 l↔SA l:=by
 constructor;·intro h;refine List.pairwise_iff_getElem.2 λ i j hi hj hij=>?_;have:=X3 h (j-i-1) i (by omega);rw[show i+(j-i-1)+1=j by omega,gW hi,gW hj] at this;exact this
 ·intro h i h1 hi;rw[gW (by omega),gW hi];exact List.pairwise_iff_getElem.1 h (i-1) i (by omega) hi (by omega)
def pJ:List Pr->ByteArray->Option Int
 | [],_=>none
 | p::l,k=>if p.1=k then some p.2 else pJ l k
theorem oT{l:List Pr}{k:ByteArray}(h:∀p∈l,p.1≠k):pJ l k=none:=by
 induction l with
 | nil=>rfl
 | cons p l ih=>exact(if_neg (h p (.head _))).trans (ih λ q hq=>h q (.tail _ hq))
theorem ql:∀{l m:List Pr},SA l->SA m->(∀k,pJ l k=pJ m k)->l=m
 | [],[],_,_,_=>rfl
 | [],q::m,_,_,h=>by have:=h q.1;simp[pJ] at this
 | p::l,[],_,_,h=>by have:=h p.1;simp[pJ] at this
 | p::l,q::m,h1,h2,h=>by
  have h1':=List.pairwise_cons.1 h1;have h2':=List.pairwise_cons.1 h2
  have e1:cZ p.1 q.1=false:=by
   cases hb:cZ p.1 q.1 with
   | false=>rfl
   | true=>
    have:pJ (q::m) p.1=none:=oT λ x hx=>by
     rcases List.mem_cons.1 hx with rfl|hx;·exact(nU hb).symm
     ·exact(nU (jF hb (h2'.1 x hx))).symm
    have h':=h p.1;rw[this] at h';simp[pJ] at h'
  have e2:cZ q.1 p.1=false:=by
   cases hb:cZ q.1 p.1 with
   | false=>rfl
   | true=>
    have:pJ (p::l) q.1=none:=oT λ x hx=>by
     rcases List.mem_cons.1 hx with rfl|hx;·exact(nU hb).symm
     ·exact(nU (jF hb (h1'.1 x hx))).symm
    have h':=h q.1;rw[this] at h';simp[pJ] at h'
  have ek:=rW e1 e2;have ev:p.2=q.2:=by have:=h p.1;simpa[pJ,ek] using this
  have et:l=m:=ql h1'.2 h2'.2 λ k=>by
   by_cases hk:p.1=k;·subst hk;rw[oT λ x hx=>(nU (h1'.1 x hx)).symm,oT λ x hx=>by rw[ek];exact(nU (h2'.1 x hx)).symm]
   ·have:=h k;rw[pJ,pJ,if_neg hk,if_neg (by rw[<- ek];exact hk)] at this;exact this
  rw[et,show p=q from Prod.ext ek ev]
def lM:List Pr->ByteArray->Int->List Pr
 | [],k,v=>[(k,v)]
 | p::l,k,v=>if cZ p.1 k=true then p::lM l k v else if p.1=k then(k,v)::l else(k,v)::p::l
def jE(l:List Pr)(k:ByteArray):List Pr:=l.filter λ p=>decide (p.1≠k)
variable{l:List Pr}{k:ByteArray}{v:Int}
theorem Aw:∀{q:Pr},q∈lM l k v->q=(k,v)∨q∈l:=by
 induction l with
 | nil=>intro q h;rw[lM,List.mem_singleton] at h;exact .inl h
 | cons p l ih=>
  intro q h;rw[lM] at h;split at h
  ·rcases List.mem_cons.1 h with rfl|h;·exact .inr (.head _)
   ·exact(ih h).imp id (.tail _)
  ·split at h;·exact(List.mem_cons.1 h).imp id (.tail _)
   ·exact List.mem_cons.1 h
theorem yT{k:ByteArray}{v:Int}:∀{l:List Pr},SA l->SA (lM l k v)
 | [],_=>List.pairwise_singleton _ _
 | p::l,h=>by
  have h':=List.pairwise_cons.1 h;rw[lM];split
  ·next hlt =>
   refine List.pairwise_cons.2 ⟨λ q hq=>?_,yT h'.2⟩;rcases Aw hq with rfl|hq
   ·exact hlt
   ·exact h'.1 q hq
  ·next hlt =>
   split
   ·next he =>
    subst he;exact List.pairwise_cons.2 ⟨λ q hq=>h'.1 q hq,h'.2⟩
   ·next hne =>
    have hkp:cZ k p.1=true:=Tm (by simpa using hlt) (λ e=>hne e.symm);refine List.pairwise_cons.2 ⟨λ q hq=>?_,h⟩;rcases List.mem_cons.1 hq with rfl|hq
    ·exact hkp
    ·exact jF hkp (h'.1 q hq)
theorem Ir{k:ByteArray}{v:Int}(j:ByteArray):∀{l:List Pr},SA l->pJ (lM l k v) j=if j=k then some v else pJ l j
 | [],_=>by
  simp only[lM,pJ]
  by_cases h:j=k
  ·rw[if_pos h,if_pos h.symm]
  ·rw[if_neg h,if_neg λ e=>h e.symm]
 | p::l,h=>by
  have h':=List.pairwise_cons.1 h;have ih:=Ir (k:=k) (v:=v) j h'.2;rw[lM];split
  ·next hlt =>
   rw[pJ,ih,pJ]
   by_cases hj:j=k
   ·rw[if_pos hj,if_pos hj,if_neg λ e=>nU hlt (e.trans hj)]
   ·rw[if_neg hj,if_neg hj]
  ·split
   ·next he =>
    rw[pJ,pJ]
    by_cases hj:j=k
    ·rw[if_pos hj,if_pos hj.symm]
    ·rw[if_neg hj,if_neg λ e=>hj e.symm,if_neg λ e=>hj (e.symm.trans he)]
   ·rw[pJ]
    by_cases hj:j=k
    ·rw[if_pos hj,if_pos hj.symm]
    ·rw[if_neg hj,if_neg λ e=>hj e.symm]
theorem wF(k:ByteArray)(h:SA l):SA (jE l k):=h.sublist List.filter_sublist
theorem Yt(l:List Pr)(k j:ByteArray):pJ (jE l k) j=if j=k then none else pJ l j:=by
 unfold jE;induction l with
 | nil=>simp[pJ]
 | cons p l ih=>
  rw[List.filter_cons];by_cases hp:p.1=k
  ·rw[if_neg (by simp[hp]),ih,pJ];by_cases hj:j=k;·rw[if_pos hj,if_pos hj]
   ·rw[if_neg hj,if_neg hj,if_neg λ e=>hj (e.symm.trans hp)]
  ·rw[if_pos (by simp[hp]),pJ,ih,pJ];by_cases hj:j=k;·rw[if_pos hj,if_pos hj,if_neg λ e=>hp (e.trans hj)]
   ·rw[if_neg hj,if_neg hj]
theorem Sq(h:SA l)(k:ByteArray)(v:Int):lM (jE l k) k v=lM l k v :=
 ql (yT (wF k h)) (yT h) λ j=>by
  rw[Ir j (wF k h),Ir j h,Yt];by_cases hj:j=k;·rw[if_pos hj,if_pos hj]
  ·rw[if_neg hj,if_neg hj,if_neg hj]
structure zE(l:List Pr)(k:ByteArray)(i:Nat):Prop where
 le:i<=l.length
 lo:∀j,j<i->cZ (l.getD j (⟨#[]⟩,0)).1 k=true
 hi:∀j,i<=j->j<l.length->cZ (l.getD j (⟨#[]⟩,0)).1 k=false
theorem zE.tl{p:Pr}{l:List Pr}{k:ByteArray}{i:Nat}(h:zE (p::l) k (i+1)):cZ p.1 k=true/\zE l k i :=⟨h.lo 0 (by omega),⟨by have:=h.le;simp at this;omega,λ j hj=>h.lo (j+1) (by omega),λ j h1 h2=>h.hi (j+1) (by omega) (by simp;omega)⟩⟩
theorem Yv{k:ByteArray}{v:Int}:∀{l:List Pr} {i:Nat},zE l k i->i<l.length->(l.getD i (⟨#[]⟩,0)).1=k->lM l k v=l.set i ((l.getD i (⟨#[]⟩,0)).1,v)
 | [],i,_,h,_=>by simp at h
 | p::l,0,h,_,he=>by
  have he:p.1=k:=he;have:cZ p.1 k=false:=by rw[he];exact qI k
  rw[lM,if_neg (by rw[this];decide),if_pos he,List.set_cons_zero,<- he]
  rfl
 | p::l,i+1,h,hi,he=>by
  rw[lM,if_pos h.tl.1,List.set_cons_succ,Yv h.tl.2 (by simp at hi;omega) he]
  rfl
theorem W9{k:ByteArray}{v:Int}:∀{l:List Pr} {i:Nat},zE l k i->¬(i<l.length/\(l.getD i (⟨#[]⟩,0)).1=k)->lM l k v=l.take i++(k,v)::l.drop i
 | [],i,h,_=>by have:=h.le;simp at this;subst this;rfl
 | p::l,0,h,hn=>by
  have:cZ p.1 k=false:=h.hi 0 (Nat.le_refl _) (by simp);rw[lM,if_neg (by rw[this];decide),if_neg λ e:p.1=k=>hn ⟨by simp,e⟩];rfl
 | p::l,i+1,h,hn=>by
  rw[lM,if_pos h.tl.1,W9 h.tl.2 λ hh=>hn ⟨by simp;omega,hh.2⟩]
  rfl
theorem Kr{k:ByteArray}:∀{l:List Pr} {i:Nat},SA l->zE l k i->¬(i<l.length/\(l.getD i (⟨#[]⟩,0)).1=k)->∀p∈l,p.1≠k
 | [],_,_,_,_=>by simp
 | p::l,0,hs,h,hn=>by
  have h':=List.pairwise_cons.1 hs;have h0:cZ p.1 k=false:=h.hi 0 (Nat.le_refl _) (by simp);have hne:p.1≠k:=λ e=>hn ⟨by simp,e⟩;have hlt:=Tm h0 (λ e=>hne e.symm);intro q hq
  rcases List.mem_cons.1 hq with rfl|hq
  ·exact hne
  ·exact(nU (jF hlt (h'.1 q hq))).symm
 | p::l,i+1,hs,h,hn=>by
  have:=Kr (List.pairwise_cons.1 hs).2 h.tl.2 λ hh=>hn ⟨by simp;omega,hh.2⟩;intro q hq
  rcases List.mem_cons.1 hq with rfl|hq
  ·exact nU h.tl.1
  ·exact this q hq
theorem Ke{k:ByteArray}:∀{l:List Pr} {i:Nat},zE l k i->i<l.length->(l.getD i (⟨#[]⟩,0)).1=k->pJ l k=some (l.getD i (⟨#[]⟩,0)).2
 | [],i,_,h,_=>by simp at h
 | p::l,0,h,_,he=>if_pos he
 | p::l,i+1,h,hi,he=>(if_neg (nU h.tl.1)).trans (Ke h.tl.2 (by simp at hi;omega) he)
theorem lr{k:ByteArray}:∀{l:List Pr} {v:Int},pJ l k=some v->∃i,i<l.length/\(l.getD i (⟨#[]⟩,0)).1=k
 | [],_,h=>by cases h
 | p::l,v,h=>by
  rw[pJ] at h;split at h;·next he=>exact⟨0,by simp,he⟩
  ·obtain⟨i,h1,h2⟩:=lr h;exact⟨i+1,by simp;omega,h2⟩
theorem yM{k:ByteArray}{v:Int}:∀{l:List Pr},SA l->(lM l k v).length=if(pJ l k).isSome=true then l.length else l.length+1
 | [],_=>rfl
 | p::l,h=>by
  have h':=List.pairwise_cons.1 h;rw[lM];split
  ·next hlt =>
   rw[List.length_cons,yM h'.2,pJ,if_neg (nU hlt)];split<;>rfl
  ·next hlt =>
   split;·next he=>rw[pJ,if_pos he];rfl
   ·next hne =>
    have hkp:cZ k p.1=true:=Tm (by simpa using hlt) (λ e=>hne e.symm);rw[pJ,if_neg hne,oT λ q hq=>(nU (jF hkp (h'.1 q hq))).symm];rfl
theorem Sf{k:ByteArray}:∀{l:List Pr},SA l->(jE l k).length=if(pJ l k).isSome=true then l.length-1 else l.length
 | [],_=>rfl
 | p::l,h=>by
  have h':=List.pairwise_cons.1 h;have ih:=Sf (k:=k) h'.2;unfold jE at ih ⊢;rw[List.filter_cons];by_cases hp:p.1=k
  ·have hn:∀q∈l,q.1≠k:=λ q hq=>by rw[<- hp];exact(nU (h'.1 q hq)).symm
   rw[if_neg (by simp[hp]),pJ,if_pos hp,List.filter_eq_self.2 λ q hq=>by simpa using hn q hq];rfl
  ·rw[if_pos (by simp[hp]),List.length_cons,ih,pJ,if_neg hp];split
   ·next hs =>
    have:1<=l.length:=by
     cases hf:pJ l k with
     | none=>rw[hf] at hs;cases hs
     | some v=>obtain⟨i,hi,_⟩:=lr hf;omega
    rw[List.length_cons];omega
   ·rfl
def E6(l:List Pr):List Pr:=l.foldl (λ acc p=>lM acc p.1 p.2) []
theorem wX(l:List Pr)(p:Pr):E6 (l++[p])=lM (E6 l) p.1 p.2:=by unfold E6;rw[List.foldl_append];rfl
theorem O6{α:Type}{Q:List α->Prop}(h0:Q [])(h1:∀l x,Q l->Q (l++[x]))(l:List α):Q l:=by
 have key:∀m:List α,Q m.reverse:=λ m=>by
  induction m with
  | nil=>exact h0
  | cons x m ih=>rw[List.reverse_cons];exact h1 _ _ ih
 have:=key l.reverse;rwa [List.reverse_reverse] at this
theorem rz(l:List Pr):SA (E6 l):=by
 induction l using O6 with
 | h0=>exact List.Pairwise.nil
 | h1 l x ih=>rw[wX];exact yT ih
theorem V9(l:List Pr):(E6 l).length<=l.length:=by
 induction l using O6 with
 | h0=>exact Nat.le_refl _
 | h1 l x ih=>rw[wX,yM (rz l),List.length_append,List.length_singleton];split<;>omega
end
end Go.Proofs.YtbajmaoegmbfgaaGreat
namespace Go.Ct
open Go Go.RowKit
section
variable{P:Program}{S:List (Nat×Value)}{w0 w:World}{M:List Nat}{H:List (Nat×Obj)}{A F:Fr}{O:List Ow}
def Bw(a b:ByteArray):Int:=Lib.compareBytes a.data.toList b.data.toList
variable{a b:ByteArray}{x:Operand}{f:FuncId}{at_:Array TypeId}{vs:List Value}{d:Nat}{ty:TypeId}{pos:String}{af:Array Edge}{gd:Option (Nat×Bool)}{v:Value}
theorem aAn:∀a b:List UInt8,Lib.compareBytes a b<0↔Op.bytesLess a b=true
 | [],[]=>by simp[Lib.compareBytes,Op.bytesLess]
 | [],_::_=>by simp[Lib.compareBytes,Op.bytesLess]
 | _::_,[]=>by simp[Lib.compareBytes,Op.bytesLess]
 | x::a,y::b=>by
  have ih:=aAn a b;simp only[Lib.compareBytes,Op.bytesLess];by_cases h:x<y;·simp[h]
  ·by_cases h2:y<x
   ·have:x≠y:=λ e=>by subst e;exact h h2
    simp[h,h2,this]
   ·have:x=y:=UInt8.le_antisymm (UInt8.not_lt.1 h2) (UInt8.not_lt.1 h);subst this;simpa[h] using ih
theorem aAc:∀a b:List UInt8,Lib.compareBytes a b=0↔a=b
 | [],[]=>by simp[Lib.compareBytes]
 | [],_::_=>by simp[Lib.compareBytes]
 | _::_,[]=>by simp[Lib.compareBytes]
 | x::a,y::b=>by
  have ih:=aAc a b;simp only[Lib.compareBytes];by_cases h:x<y
  ·have:x≠y:=λ e=>by subst e;exact absurd h (UInt8.lt_irrefl _)
   simp[h,this]
  ·by_cases h2:y<x
   ·have:x≠y:=λ e=>by subst e;exact h h2
    simp[h,h2,this]
   ·have:x=y:=UInt8.le_antisymm (UInt8.not_lt.1 h2) (UInt8.not_lt.1 h);subst this;simpa[h] using ih
theorem Ol:Bw a b<0↔cZ a b=true:=by unfold Bw cZ;rw[ByteArray.toList_eq,ByteArray.toList_eq];exact aAn _ _
theorem X4:¬Bw a b<0↔cZ a b=false:=by rw[Ol];simp
theorem te:Bw a b=0↔a=b:=by unfold Bw;rw[aAc];exact⟨λ h=>toList_inj (by rw[ByteArray.toList_eq,ByteArray.toList_eq];exact h),λ h=>by rw[h]⟩
theorem ax{os:List Operand}{d:Option Nat}(hx:ev S x=.func (.func f) #[] #[])(hp:plain P f=true)(ha:rF S os=vs)(w:World) :
  (execOp (ev S) ⟨d,.call {callee:=.value x,args:=⟨os⟩,argTypes:=at_},ty,pos,af,gd⟩).run P w=.ok (.enter f ⟨vs⟩) w:=by
 subst ha;have hm:(os.map (ev S)).toArray=⟨rF S os⟩:=by rw[A3]
 simp[execOp,resolve,hx,Deferred.ofValue,invoke,qF hp,hm]
theorem aEr{xs:List Operand}{dst:Option Nat}(hx:ev S x=.func (.func f) #[] #[])(hp:plain P f=true)(ha:rF S xs=vs)(hc:∀w,SF w0 M H A F O w->Calls P f ⟨vs⟩ w λ e w'=>e=.returned v/\St w [] [] w') :
  bE P S (SF w0 M H A F O) ⟨dst,.call {callee:=.value x,args:=⟨xs⟩,argTypes:=at_},ty,pos,af,gd⟩ Unit (λ _=>v) (λ _=>SF w0 M H A F O) :=
 iE (ax hx hp ha) λ w hw=>(hc w hw).mono λ _ _ ⟨he,hs⟩=>⟨(),he,by simpa using hw.call (SF.aAL hs)⟩
theorem aB4{G:World->Prop}{t t':TypeId}{y:Operand}{a:Int}{n:Nat}(hx:ev S x=.int .u64 a)(hy:ev S y=.int .u64 1)(h:a=(n:Int)) :
  aL P S G ⟨some d,.binOp .shr t x y t',ty,pos,af,gd⟩ (.int .u64 ((n/2:Nat):Int)):=by have:=fk (P:=P) (G:=G) (d:=d) (ty:=ty) (pos:=pos) (af:=af) (gd:=gd) (t:=t) (t':=t') hx hy (by decide);rw[show pQ .u64 a 1=((n/2:Nat):Int) by rw[h];unfold pQ;show(n:Int).fdiv 2=_;rw[Int.fdiv_eq_ediv_of_nonneg _ (by decide)];rfl] at this;exact this
theorem bQ{G:World->Prop}{k:Nat}(hx:ev S x=.tuple ⟨vs⟩)(hk:vs[k]?=some v):aL P S G ⟨some d,.extract x k,ty,pos,af,gd⟩ v:=⟨λ w _=>by simp[execOp,hx,Instr.extract,hk]⟩
@[reducible] def aEv {p:Prop} {α:Type} (_:p) (a:α):α:=a
end
end Go.Ct
namespace Go.Proofs.YtbajmaoegmbfgaaGreat
open Go.Proofs.Tryz
open Go.RowKit Go.Ct
section
variable{S:List (Nat×Value)}{ty:TypeId}{pos:String}{af:Array Edge}{gd:Option (Nat×Bool)}{x:Operand}{l:List Pr}{k:ByteArray}{h:Nat}
theorem dt{G:World->Prop}{d:Nat}{y:Operand}{t t':TypeId}{a b:ByteArray}(hx:ev S x=.string a)(hy:ev S y=.string b) :
  aL prog S G ⟨some d,.call {callee:=.value (.func 259),args := #[x,y],argTypes := #[t,t']},ty,pos,af,gd⟩ (.int .i64 (Bw a b)):=⟨λ w _=>by
 have:=run_callFunc_extern (P:=prog) (f:=259) func259 (by kernel_rfl) (by kernel_rfl) (by kernel_rfl) (e:=Extern.BytealgCompare.compare) (by kernel_rfl) #[.string a,.string b] w;rw[Lib.run_compareString] at this;simp only[execOp,resolve,ev,Deferred.ofValue,invoke]
 simp[hx,hy,this,Result.andThen,Bw]⟩
theorem ia(a b:ByteArray)(w:World):Calls prog 253 #[.string a,.string b] w λ e w'=>e=.returned (.int .i64 (Bw a b))/\St w [] [] w':=by refine enter func253 ntmps253 rfl rfl (SF.s0 w) ?_;simp only[cC];refine Kc1 ?_;(refine aN (eO (dt rf rf)) (λ x7=>?_));refine J1 ?_;refine aS results253 (λ w hw=>?_);exact⟨rfl,hw.done⟩
theorem q8(a b:ByteArray)(w:World):Calls prog 235 #[.string a,.string b] w λ e w'=>e=.returned (.int .i64 (Bw a b))/\St w [] [] w':=by refine enter func235 ntmps235 rfl rfl (SF.s0 w) ?_;simp only[cC];refine Kc1 ?_;refine aN (cV (hc:=λ w1 hw=>ia a b w1)) (λ x7=>?_);refine J1 ?_;refine aS results235 (λ w hw=>?_);exact⟨rfl,hw.done⟩
theorem gi(p:Pr)(k:ByteArray)(w:World):Calls prog 234 #[.agg ⟨[.string p.1,.int .u64 p.2]⟩,.string k] w λ e w'=>e=.returned (.int .i64 (Bw p.1 k))/\St w [] [] w':=by refine enter func234 ntmps234 rfl rfl (SF.s0 w) ?_;simp only[cC];refine K1k ?_;intro x2;refine J1 ?_;refine Kc3 ?_;refine aN (cV (hc:=λ w1 hw=>q8 p.1 k w1)) (λ x8=>?_);refine J1 ?_;refine aS results234 (λ w hw=>?_);exact⟨rfl,hw.done⟩
theorem cVd{w0:World}{M:List Nat}{H:List (Nat×Obj)}{A F:Fr}{O:List Ow}{v:Value}{f:FuncId}{xs:List Operand}{at_:Array TypeId}{vs:List Value}{dst:Option Nat}(hx:ev S x=.func (.func f) #[] #[])(ha:rF S xs=vs)(hp:plain prog f=true)(hc:∀w,SF w0 M H A F O w->Calls prog f ⟨vs⟩ w λ e w'=>e=.returned v/\St w [] [] w') :
  bE prog S (SF w0 M H A F O) ⟨dst,.call {callee:=.value x,args:=⟨xs⟩,argTypes:=at_},ty,pos,af,gd⟩ Unit (λ _=>v) (λ _=>SF w0 M H A F O):=aEr hx hp ha hc
theorem aAd(hs:SA l)(hh:h<l.length)(hc:cZ (l.getD h (⟨#[]⟩,0)).1 k=true)(j:Nat)(hj:j<h+1):cZ (l.getD j (⟨#[]⟩,0)).1 k=true:=by
 rcases Nat.lt_succ_iff_lt_or_eq.1 hj with h1|rfl;·have:=List.pairwise_iff_getElem.1 hs j h (by omega) hh h1;rw[<- gW,<- gW] at this;exact jF this hc
 ·exact hc
theorem qx(hs:SA l)(hc:cZ (l.getD h (⟨#[]⟩,0)).1 k=false)(j:Nat)(h1:h<=j)(hj:j<l.length):cZ (l.getD j (⟨#[]⟩,0)).1 k=false:=by
 rcases Nat.lt_or_eq_of_le h1 with h2|rfl;·have:=List.pairwise_iff_getElem.1 hs h j (by omega) hj h2;rw[<- gW,<- gW] at this;exact aBb hc (Ei this)
 ·exact hc
end
end Go.Proofs.YtbajmaoegmbfgaaGreat
namespace Go.Ct
open Go Go.RowKit
section
section
variable{P:Program}{n:Nat}{S:List (Nat×Value)}
variable{w0 w w':World}{M:List Nat}{H H':List (Nat×Obj)}{A F F':Fr}{O O':List Ow}{G:World->Prop}
variable{d:Nat}{ty:TypeId}{pos:String}{af:Array Edge}{gd:Option (Nat×Bool)}{dst:Option Nat}{x y z:Operand}{t t2 e:TypeId}{p a:Option Addr}{i m k c c2:Nat}
def tlP(a:Option Addr)(k c:Nat):Option Addr:=if c=k then a else a.map (·.add (2*k))
theorem ld(hx:ev S x=.slice a m c)(hy:ev S y=.int .i64 ((k:Nat):Int))(ht:P.underlying t=some (.slice e))(hs:(P.info? e).map (·.size)=some 2)(hk:k<=m)(hmc:m<=c) :
  aL P S G ⟨some d,.slice t x (some y) none none,ty,pos,af,gd⟩ (.slice (tlP a k c) (m-k) (c-k)):=⟨λ w _=>by
 have he:P.elem t=e:=by simp[Program.elem,ht]
 have ht':P.underlying t=some (.slice (P.elem t)):=by rw[he];exact ht
 cases hi:P.info? e with
 | none=>simp[hi] at hs
 | some inf=>
  have hs':inf.size=2:=by simpa[hi] using hs
  have hr:=run_slice_l (P:=P) w t a m c ht' .i64 (k:Int) (by omega) (by omega);refine py (v:=.slice (tlP a k c) (m-k) (c-k)) ?_;simp[hx,hy,run_sliceAt_slice w t _ _ _ _ ht',hr,he,sizeOf,typeInfo,hi,hs',sliced,tlP,Nat.mul_comm]⟩
theorem SF.aDi(h:SF w0 M H A F O w){l:List Pr}(hf:rO A F [] a (dI l))(hc:l.length<=c):SF w0 M H ((tlP a k c,dI (l.drop k))::A) F O w:=by
 have e:dI (l.drop k)=(dI l).drop (2*k):=by rw[Rp]
 rw[e];refine h.Us hf (λ hn=>?_) (λ h=>by rw[h];simp) (λ w hc'=>?_)
 ·unfold tlP;split;·rfl
  ·cases a with
   | none=>rfl
   | some a=>obtain⟨b,o,s⟩:=a;simp only[Option.map_some,dE,Addr.add];split<;>rfl
 ·unfold tlP;split;·rename_i heq;have:(dI l).drop (2*k)=[]:=List.drop_eq_nil_of_le (by rw[gY];omega);rw[this];exact Cl.nil _ _
  ·exact hc'.drop _
end
end
end Go.Ct
namespace Go.Proofs.YtbajmaoegmbfgaaGreat
open Go.Proofs.Tryz
section
open Go.RowKit Go.Ct
section
variable{l:List Pr}{a:Option Addr}{c:Nat}{k:ByteArray}{v:Int}{w:World}
open Classical in
noncomputable def cK (l:List Pr) (k:ByteArray):Option Int:=if SA l then pJ l k else none
open Classical in
noncomputable def Pa (l:List Pr) (k:ByteArray) (v:Int):List Pr:=if SA l then lM l k v else []
open Classical in
noncomputable def tC (l:List Pr) (k:ByteArray):List Pr:=if SA l then jE l k else []
def yp(w:World)(m:List Pr)(e:Ending)(w':World):Prop:=∃x:Option Addr×Nat,e=.returned (.slice x.1 m.length x.2)/\m.length<=x.2/\SF w [] [] [] [] [⟨x.1,dI m,x.2,164,2⟩] w'
def ab(w:World)(m:List Pr)(e:Ending)(w':World):Prop:=∃x:Option Addr×Nat,e=.returned (.slice x.1 m.length x.2)/\m.length<=x.2/\SF w [] [] [] [(x.1,dI m)] [] w'
theorem yp.O4{w:World}{m:List Pr}{e:Ending}{w':World}(h:yp w m e w'):ab w m e w':=by obtain⟨x,h1,h2,h3⟩:=h;exact⟨x,h1,h2,h3.freeze .head (by simp)⟩
end
end
section
open Go.RowKit Go.Ct
section
variable{l:List Pr}{a:Option Addr}{c:Nat}{k:ByteArray}{v:Int}{w:World}
theorem aB3{l:List Pr}{k:ByteArray}:∀{i:Nat},i<l.length->(∀j,j<i->(l.getD j (⟨#[]⟩,0)).1≠k)->(l.getD i (⟨#[]⟩,0)).1=k->pJ l k=some (l.getD i (⟨#[]⟩,0)).2:=by
 induction l with
 | nil=>intro i h;simp at h
 | cons p l ih=>
  intro i h hn he;cases i with
  | zero=>exact if_pos he
  | succ i=>refine(if_neg (hn 0 (by omega))).trans ?_;exact ih (by simp at h;omega) (λ j hj=>hn (j+1) (by omega)) he
theorem yq{l:List Pr}{k:ByteArray}(h:∀j,j<l.length->(l.getD j (⟨#[]⟩,0)).1≠k):pJ l k=none:=oT λ p hp=>by obtain⟨j,hj,rfl⟩:=List.getElem_of_mem hp;have:=h j hj;rwa [gW hj] at this
theorem Lo(k:ByteArray)(ha:Cl w a (dI l))(hlen:l.length<=1099511627775) :
  Calls prog 60 #[.slice a l.length c,.string k] w λ e w'=>e=.returned (.tuple #[.int .u64 ((cK l k).getD 0),.bool (cK l k).isSome])/\St w [] [] w':=by
 refine enter func60 ntmps60 rfl rfl (SF.s1 ha) ?_;simp only[cC];refine Iu ?_;refine aV ?_;refine E9 ?_;refine gK [4,5,6,7,8,9,10,11,12,13,14,15,16,17,18,19,20,21,22,23,24,25,26,27,28] (λ k=>[(6,.int .i64 ((k:Nat):Int))]) (λ i=>i<=l.length/\(i≠0->SA l)/\∀j,j<i->(l.getD j (⟨#[]⟩,0)).1≠k) (λ k=>l.length-k) (0) (⟨Nat.zero_le _,λ h=>absurd rfl h,λ j hj=>absurd hj (Nat.not_lt_zero j)⟩) ?_ (λ i f hx=>?_);·repeat (first|exact bF _|refine bB (by exact rfl) ?_)
 refine K0a ?_;refine Cb ?_;refine dW ?_;refine Au ?_;(refine eF 11 (λ g11=>?_) (λ g11=>?_)<;>refine Ka0 ?_);all_goals ((first|refine aI ?_|(refine aF ?_;refine aD (c0 (V:=.bool) (hc:=λ w1 hw=>mZ (hw.cl fin) (by omega))) (λ x13 h13=>?_)));refine cH ?_;refine aG ?_)
 all_goals
 refine bD (λ c14=>?_) (λ c14=>?_)
 ·try exact nv c14
  all_goals (refine sG ?_;refine iZ ?_;refine fL ?_;refine J3 ?_;refine aA ?_;refine aAl ?_;refine aG ?_)
  all_goals
   refine bD (λ c23=>?_) (λ c23=>?_);·refine iZ ?_;refine fL ?_;refine J3 ?_;refine J8 ?_;refine aY results60 (λ w hw=>?_);rw[show cK l k=some (l.getD i (⟨#[]⟩,0)).2 from(if_pos (mR.1 (h13.1 (by simp_all)))).trans (aB3 (by omega) hx.2.2 c23)];exact⟨rfl,hw.done⟩
   ·refine Kc5 ?_;refine eN (i+1) ?_ ?_ ?_;·omega
    ·repeat' (first|exact bF _|refine bB ?_ ?_)
     exact rfl
    ·exact⟨by omega,λ _=>mR.1 (h13.1 (by simp_all)),λ j hj=>by rcases Nat.lt_succ_iff_lt_or_eq.1 hj with h|rfl;exact hx.2.2 j h;assumption⟩
 ·all_goals (refine bS rfl ?_;refine Iu ?_)
  all_goals
   refine aY results60 (λ w hw=>?_);first
   | (rw[show cK l k=none from if_neg λ hs=>by have:=h13.2 (mR.2 hs);simp_all];exact⟨rfl,hw.done⟩)
   | (rw[show cK l k=none by unfold cK;split;exact yq λ j hj=>hx.2.2 j (by omega);rfl];exact⟨rfl,hw.done⟩)
theorem N0{l:List Pr}{i:Nat}(hi:i<l.length)(k:ByteArray):(l.take (i+1)).filter (λ p=>decide (p.1≠k))=(l.take i).filter (λ p=>decide (p.1≠k))++(if(l.getD i (⟨#[]⟩,0)).1≠k then [l.getD i (⟨#[]⟩,0)] else []):=by rw[List.take_add_one,List.getElem?_eq_getElem hi,gW hi,List.filter_append];congr 1;by_cases h:l[i].1=k<;>simp[h]
theorem Jc{l:List Pr}{i:Nat}(hi:i<l.length)(k:ByteArray):jE (l.take (i+1)) k=if(l.getD i (⟨#[]⟩,0)).1=k then jE (l.take i) k else jE (l.take i) k++[l.getD i (⟨#[]⟩,0)]:=by
 unfold jE;rw[N0 hi k];by_cases h:(l.getD i (⟨#[]⟩,0)).1=k;·rw[if_neg λ hn=>hn h,if_pos h,List.append_nil]
 ·rw[if_pos h,if_neg h]
theorem Q9(k:ByteArray)(ha:Cl w a (dI l))(hlen:l.length<=200000000000) :
  Calls prog 111 #[.slice a l.length c,.string k] w (yp w (jE l k)):=by
 refine enter func111 ntmps111 rfl rfl (SF.s1 ha) ?_;simp only[cC];refine cX ?_;refine Fh ?_;refine E9 ?_;refine nB [5,6,7,8,9,10,11,12,13,14,15,16,17,18,19,20,21,22,23,24,25,26] (λ z:Nat×Option Addr×List Pr×Nat=>[(6,.int .i64 ((z.1:Nat):Int)),(5,.slice z.2.1 z.2.2.1.length z.2.2.2)]) (λ z=>z.1<=l.length/\z.2.2.1.length<=z.2.2.2/\z.2.2.1=jE (l.take z.1) k/\z.2.2.1.length<=z.1) (λ _=>_) (λ _=>_) (λ z=>[⟨z.2.1,dI z.2.2.1,z.2.2.2,164,2⟩]) (λ z=>l.length-z.1) ((0,none,[],0)) (⟨Nat.zero_le _,Nat.le_refl _,rfl,Nat.le_refl _⟩) (λ z f hx=>?_) (hw0:=λ w hw=>(hw.kQ 164 2).back);refine K0a ?_;refine K1i ?_;refine bD (λ c10=>?_) (λ c10=>?_)
 ·refine sG ?_;refine iZ ?_;refine fL ?_;refine J3 ?_;refine aA ?_;refine z6 ?_;refine aG ?_;refine bD (λ c19=>?_) (λ c19=>?_)
  ·refine xN ?_;refine qL ?_;refine Pz ?_;refine fC (λ x25=>?_);(refine fI (λ x26=>?_);try (refine eP (λ h26=>?_)));refine J1 ?_;refine Kb2 ?_;refine iX ((by exact(z.1+1,x26.1,z.2.2.1++[l.getD z.1 (⟨#[]⟩,0)],x26.2))) ?_ (hw1:=λ w hw=>by exact hw.back (hO:=E0m))
   ·obtain⟨q1,q2,q3,q4⟩:=hx
    have hdt:=Jc (l:=l) (i:=z.1) (by omega) k;first
    | exact⟨by show z.1+1<=l.length;omega,by simp only[List.length_append,List.length_cons,List.length_nil];omega,by rw[if_neg (by assumption),<- q3] at hdt;exact hdt.symm,by simp only[List.length_append,List.length_cons,List.length_nil];omega⟩
    | exact⟨by show z.1+1<=l.length;omega,q2,by rw[if_pos (by assumption),<- q3] at hdt;exact hdt.symm,by show z.2.2.1.length<=z.1+1;omega⟩
  ·refine Kc5 ?_;refine iX ((by exact(z.1+1,z.2.1,z.2.2.1,z.2.2.2))) ?_ (hw1:=λ w hw=>by exact hw.back (hO:=E0m))
   ·obtain⟨q1,q2,q3,q4⟩:=hx
    have hdt:=Jc (l:=l) (i:=z.1) (by omega) k;first
    | exact⟨by show z.1+1<=l.length;omega,by simp only[List.length_append,List.length_cons,List.length_nil];omega,by rw[if_neg (by assumption),<- q3] at hdt;exact hdt.symm,by simp only[List.length_append,List.length_cons,List.length_nil];omega⟩
    | exact⟨by show z.1+1<=l.length;omega,q2,by rw[if_pos (by assumption),<- q3] at hdt;exact hdt.symm,by show z.2.2.1.length<=z.1+1;omega⟩
 ·refine bS rfl ?_;refine Ka5 ?_;refine aS results111 (λ w hw=>?_);obtain⟨q1,q2,q3,q4⟩:=hx;have e:z.2.2.1=jE l k:=by rw[q3,List.take_of_length_le (by omega)]
  rw[<- e];exact⟨(z.2.1,z.2.2.2),rfl,q2,hw.bA⟩
theorem mD{l:List Pr}{i:Nat}(hi:i<l.length):l.take (i+1)=l.take i++[l.getD i (⟨#[]⟩,0)]:=by rw[List.take_add_one,List.getElem?_eq_getElem hi,gW hi];rfl
theorem pb(p:Pr)(ha:Cl w a (dI l))(hc:l.length<=c)(hs:SA l)(hn:∀q∈l,q.1≠p.1)(hlen:l.length<=200000000000) :
    Calls prog 110 #[.slice a l.length c,.agg ⟨[.string p.1,.int .u64 p.2]⟩] w (yp w (lM l p.1 p.2)):=by
     refine enter func110 ntmps110 rfl rfl (SF.s1 ha) ?_;simp only[cC];refine K1g ?_;intro x3;refine J1 ?_;refine Fh ?_;refine E9 ?_;refine nB [5,6,8,9,10,11,12,13,14,15,16,17,18,19,20,21,22,23,24,25,26,27,28,29,30] (λ z:Nat×Option Addr×List Pr×Nat=>[(6,.int .i64 ((z.1:Nat):Int)),(5,.slice z.2.1 z.2.2.1.length z.2.2.2)]) (λ z=>z.1<=l.length/\z.2.2.1.length<=z.2.2.2/\z.2.2.1=l.take z.1/\z.2.2.1.length=z.1/\∀j,j<z.1->cZ (l.getD j (⟨#[]⟩,0)).1 p.1=true) (λ z=>[(x3,.cells ⟨[.string p.1,.int .u64 p.2]⟩ 164 (0,0))]) (λ _=>_) (λ z=>[⟨z.2.1,dI z.2.2.1,z.2.2.2,164,2⟩]) (λ z=>l.length-z.1) ((0,none,[],0)) (⟨Nat.zero_le _,Nat.le_refl _,rfl,rfl,λ j hj=>absurd hj (Nat.not_lt_zero j)⟩) (λ z f hx=>?_) (hw0:=λ w hw=>(hw.kQ 164 2).back);refine K0a ?_;refine aV ?_;refine aV ?_;refine gO [0,1,2,3,4,5,6,7,8,9,10,11,12,13] ?_;refine iR ?_;refine pX ?_;refine D8 ?_;refine aT ?_;(refine qj 12 (λ g12=>?_) (λ g12=>?_)<;>(first|refine iA ?_|(refine aT ?_)));all_goals ((first|refine iA ?_|(refine aT ?_));(first|refine iA ?_|(refine jD ?_));refine J18 ?_;refine J18 ?_;(first|refine iA ?_|(refine ic ?_));refine jY ?_;refine eS ?_)
     all_goals
      refine bD (λ c21=>?_) (λ c21=>?_)
      ·try exact nv c21
       all_goals (refine sG ?_;refine xN ?_;refine qL ?_;refine Pz ?_;refine fC (λ x29=>?_);(refine aN E0v (λ x30=>?_);try (refine eP (λ h30=>?_)));refine J1 ?_;refine Kb2 ?_)
       all_goals
        refine iX ((z.1+1,x30.1,z.2.2.1++[l.getD z.1 (⟨#[]⟩,0)],x30.2)) ?_ (hw1:=λ w hw=>hw.back (hO:=E0m))
        ·obtain⟨q1,q2,q3,q4,q5⟩:=hx;refine⟨by show z.1+1<=l.length;omega,by simp only[List.length_append,List.length_cons,List.length_nil];omega,by rw[mD (by omega),<- q3],by simp only[List.length_append,List.length_cons,List.length_nil];omega,λ j hj=>?_⟩;rcases Nat.lt_succ_iff_lt_or_eq.1 hj with h|rfl;·exact q5 j h
         ·exact c21
      ·all_goals refine gu (λ w hw=>hw.aDi (k:=z.2.2.1.length) (c:=c) fin hc) ?_
       all_goals (refine bS rfl ?_;refine J2 ?_;refine dW ?_;refine jG ?_;refine gO [0,1,4,5,6,2,3,7,8] ?_;refine aT ?_;refine Kb3 ?_;refine cW (i:=6) (hq:=(ld (k:=z.2.2.1.length) rf rf gS (by exact uS rfl) (by omega) (by omega))) (h:=?_);refine cG (h:=λ x35=>?_);((refine dD (i:=3) (hq:=E0v) (h:=λ x36=>?_);try (refine eL (λ h36=>?_))));((refine dD (i:=7) (hq:=(by(exact bE.eW (Ns (l2:=l.drop z.2.2.1.length) rf rf Al (by simp;done) fin (by rw[List.length_drop]) (by exact qZ rfl) gS (by omega)) E1e))) (h:=λ x40=>?_);try (refine eL (λ h40=>?_))));refine J7 ?_)
       all_goals
        refine aS results110 (λ w hw=>?_);obtain⟨q1,q2,q3,q4,q5⟩:=hx;have hp:zE l p.1 z.1:=⟨q1,q5,by first|exact qx hs c21|(intro j h1 h2;omega)⟩;have e:lM l p.1 p.2=z.2.2.1++[(p.1,p.2)]++l.drop z.2.2.1.length:=by
         rw[W9 hp λ hh=>?_,q4,<- q3,List.append_assoc];·rfl
         ·exact hn _ (by rw[gW hh.1];exact List.getElem_mem hh.1) hh.2
        have e2:(z.2.2.1++[(p.1,p.2)]++l.drop z.2.2.1.length).length=z.2.2.1.length+1+(l.length-z.2.2.1.length):=by rw[List.length_append,List.length_append,List.length_drop];rfl
        rw[e];exact⟨x40,by rw[e2];rfl,by rw[e2];exact h40,hw.bA⟩
theorem xZ(k:ByteArray)(ha:Cl w a (dI l))(hlen:l.length<=200000000000) :
  Calls prog 111 #[.slice a l.length c,.string k] w (ab w (jE l k)):=(Q9 k ha hlen).mono λ _ _ h=>h.O4
theorem Pm(p:Pr)(ha:Cl w a (dI l))(hc:l.length<=c)(hs:SA l)(hn:∀q∈l,q.1≠p.1)(hlen:l.length<=200000000000) :
  Calls prog 110 #[.slice a l.length c,.agg ⟨[.string p.1,.int .u64 p.2]⟩] w (ab w (lM l p.1 p.2)):=(pb p ha hc hs hn hlen).mono λ _ _ h=>h.O4
theorem Ll{l:List Pr}{k:ByteArray}:∀q∈jE l k,q.1≠k:=λ q hq=>by simpa using(List.mem_filter.1 hq).2
theorem Ib(l:List Pr)(k:ByteArray):(jE l k).length<=l.length:=List.length_filter_le _ _
theorem n9(k:ByteArray)(v:Int)(ha:Cl w a (dI l))(hlen:l.length<=200000000000) :
  Calls prog 256 #[.slice a l.length c,.string k,.int .u64 v] w (ab w (Pa l k v)):=by
 have hdl:=Ib l k;refine enter func256 ntmps256 rfl rfl (SF.s1 ha) ?_;simp only[cC]
 refine Ka6 ?_;refine aD (c0 (V:=.bool) (hc:=λ w1 hw=>mZ (hw.cl fin) (by omega))) (λ x8 h8=>?_);refine oD ?_;refine bD (λ c9=>?_) (λ c9=>?_);·refine cX ?_;refine aS results256 (λ w hw=>?_);rw[show Pa l k v=[] from if_neg λ hs=>by rw[h8.2 (mR.2 hs)] at c9;cases c9];exact⟨(none,0),rfl,Nat.le_refl _,(hw.Ot none).fin⟩
 ·have hs:SA l:=mR.1 (h8.1 (by simpa using c9));refine Ar ?_;refine aD (cF (hc:=λ w1 hw=>xZ k (hw.cl fin) hlen)) (λ x12 h12=>?_);refine qL ?_;refine bN ?_;refine aD (cF (hc:=λ w1 hw=>Pm (k,v) (hw.cl fin) h12 (wF k hs) Ll (by omega))) (λ x16 h16=>?_);refine J1 ?_;refine aS results256 (λ w hw=>?_);rw[show Pa l k v=lM (jE l k) k v from(if_pos hs).trans (Sq hs k v).symm];exact⟨x16,rfl,h16,hw.fin⟩
theorem Yp(k:ByteArray)(ha:Cl w a (dI l))(hlen:l.length<=200000000000) :
  Calls prog 258 #[.slice a l.length c,.string k] w (ab w (tC l k)):=by
 refine enter func258 ntmps258 rfl rfl (SF.s1 ha) ?_;simp only[cC];refine Ka6 ?_;refine aD (c0 (V:=.bool) (hc:=λ w1 hw=>mZ (hw.cl fin) (by omega))) (λ x6 h6=>?_);refine oD ?_;refine bD (λ c7=>?_) (λ c7=>?_);·refine cX ?_;refine aS results258 (λ w hw=>?_);rw[show tC l k=[] from if_neg λ hs=>by rw[h6.2 (mR.2 hs)] at c7;cases c7];exact⟨(none,0),rfl,Nat.le_refl _,(hw.Ot none).fin⟩
 ·have hs:SA l:=mR.1 (h6.1 (by simpa using c7));refine Ar ?_;refine aD (cF (hc:=λ w1 hw=>xZ k (hw.cl fin) hlen)) (λ x10 h10=>?_);refine J1 ?_;refine aS results258 (λ w hw=>?_);rw[show tC l k=jE l k from if_pos hs];exact⟨x10,rfl,h10,hw.fin⟩
theorem wv(ha:Cl w a (dI l))(hlen:l.length<=200000000000) :
  Calls prog 61 #[.slice a l.length c] w (ab w (E6 l)):=by
 refine enter func61 ntmps61 rfl rfl (SF.s1 ha) ?_;simp only[cC];refine cX ?_;refine Fh ?_;refine E9 ?_;refine nB [3,4,5,6,7,8,9,10,11,12,13,14,15,16,17,18,19,20,21,22] (λ z:Nat×Option Addr×List Pr×Nat=>[(4,.int .i64 ((z.1:Nat):Int)),(3,.slice z.2.1 z.2.2.1.length z.2.2.2)]) (λ z=>z.1<=l.length/\z.2.2.1.length<=z.2.2.2/\z.2.2.1=E6 (l.take z.1)/\z.2.2.1.length<=z.1/\SA z.2.2.1) (λ _=>_) (λ z=>[(z.2.1,dI z.2.2.1)]) (λ _=>_) (λ z=>l.length-z.1) ((0,none,[],0)) (⟨Nat.zero_le _,Nat.le_refl _,rfl,Nat.le_refl _,List.Pairwise.nil⟩) (λ z f hx=>?_) (hw0:=λ w hw=>(hw.Ot none).back);refine K0a ?_;refine K1i ?_;refine bD (λ c8=>?_) (λ c8=>?_)
 ·have hdl:=Ib z.2.2.1 (l.getD z.1 (⟨#[]⟩,0)).1;refine sG ?_;refine eM [(0,[]),(1,[]),(2,[]),(3,[]),(4,[]),(5,[]),(7,[]),(8,[]),(9,[]),(10,[]),(6,[9,10]),(11,[]),(12,[])] ?_;refine iR ?_;refine aT ?_;refine jD ?_;refine mI ?_;refine iR ?_;refine S9 ?_;refine bK (i:=6) (hq:=(cF (hc:=λ w1 hw=>xZ (l.getD z.1 (⟨#[]⟩,0)).1 (hw.cl fin) (by omega)))) (h:=λ x17 h17=>?_);refine bK (i:=11) (hq:=(cF (hc:=λ w1 hw=>Pm (l.getD z.1 (⟨#[]⟩,0)) (hw.cl fin) h17 (wF _ hx.2.2.2.2) Ll (by omega)))) (h:=λ x22 h22=>?_);refine J7 ?_;refine Kb2 ?_;refine iX ((z.1+1,x22.1,lM (jE z.2.2.1 (l.getD z.1 (⟨#[]⟩,0)).1) (l.getD z.1 (⟨#[]⟩,0)).1 (l.getD z.1 (⟨#[]⟩,0)).2,x22.2)) ?_
  ·obtain⟨q1,q2,q3,q4,q5⟩:=hx;have e:=Sq q5 (l.getD z.1 (⟨#[]⟩,0)).1 (l.getD z.1 (⟨#[]⟩,0)).2;have hl:=yM (k:=(l.getD z.1 (⟨#[]⟩,0)).1) (v:=(l.getD z.1 (⟨#[]⟩,0)).2) q5;rw[e] at h22;refine⟨by show z.1+1<=l.length;omega,by show(lM _ _ _).length<=_;rw[e];exact h22,?_,?_,?_⟩
   ·show lM _ _ _=_;rw[e,mD (by omega),wX,<- q3]
   ·show(lM _ _ _).length<=z.1+1;rw[e,hl];split<;>omega
   ·show SA (lM _ _ _);rw[e];exact yT q5
 ·refine bS rfl ?_;refine Ka5 ?_;refine aS results61 (λ w hw=>?_);obtain⟨q1,q2,q3,q4,q5⟩:=hx;have e:z.2.2.1=E6 l:=by rw[q3,List.take_of_length_le (by omega)]
  rw[<- e];exact⟨(z.2.1,z.2.2.2),rfl,q2,hw.fin⟩
end
end
section
open Go.RowKit Go.Ct
section
variable{l X:List Pr}{a:Option Addr}{c M:Nat}{k j:ByteArray}{v z:Int}{w:World}
theorem ot(h:SA X)(k:ByteArray):cK X k=pJ X k:=if_pos h
theorem vj(X:List Pr)(k:ByteArray)(v:Int):(Pa X k v).length<=X.length+1:=by
 unfold Pa;split;·next h=>rw[yM h];split<;>omega
 ·exact Nat.zero_le _
theorem ob(X:List Pr)(k:ByteArray):(tC X k).length<=X.length:=by
 unfold tC;split;·exact Ib X k
 ·exact Nat.zero_le _
end
end
end Go.Proofs.YtbajmaoegmbfgaaGreat
namespace Go.Ct
open Go Go.RowKit
section
variable{n m i:Nat}
theorem mG(h:n<18446744073709551616):IntKind.u64.wrap ((n:Nat):Int)=(n:Int):=by
 have h2:IntKind.u64.wrap (n:Int)=(n:Int)%18446744073709551616:=by simp[IntKind.wrap,IntKind.signed,IntKind.bits]
 omega
theorem Dn(n:Nat)(h:n<18446744073709551616):(BitVec.ofInt IntKind.u64.bits (n:Int)).toNat=n:=by show(BitVec.ofInt 64 (n:Int)).toNat=n;rw[BitVec.toNat_ofInt];omega
theorem pB(hn:n<18446744073709551616)(hm:m<18446744073709551616):pG .u64 (n:Int) (m:Int)=((n &&& m:Nat):Int):=by unfold pG;rw[BitVec.toNat_and,Dn n hn,Dn m hm];exact mG (Nat.lt_of_le_of_lt Nat.and_le_left hn)
theorem vv(hn:n<18446744073709551616)(hm:m<18446744073709551616):rOr .u64 (n:Int) (m:Int)=((n ||| m:Nat):Int):=by unfold rOr;rw[BitVec.toNat_or,Dn n hn,Dn m hm];exact mG (Nat.or_lt_two_pow (n:=64) hn hm)
theorem gq(hn:n<18446744073709551616)(hm:m<18446744073709551616):xy .u64 (n:Int) (m:Int)=((n ^^^ m:Nat):Int):=by unfold xy;rw[BitVec.toNat_xor,Dn n hn,Dn m hm];exact mG (Nat.xor_lt_two_pow (n:=64) hn hm)
theorem pA(hi:i<=64):pQ .u64 (n:Int) (i:Int)=((n >>> i:Nat):Int):=by
 unfold pQ;rw[Int.toNat_natCast,show min i IntKind.u64.bits=i from Nat.min_eq_left hi,Nat.shiftRight_eq_div_pow];have:(2:Int)^i=((2^i:Nat):Int):=by simp
 rw[this,Int.fdiv_eq_ediv_of_nonneg _ (bM _)];rfl
theorem Rz(hi:i<64):Up .u64 1 (i:Int)=((2^i:Nat):Int):=by
 unfold Up;rw[Int.toNat_natCast,show min i IntKind.u64.bits=i from Nat.min_eq_left (Nat.le_of_lt hi),Int.one_mul];have:(2:Int)^i=((2^i:Nat):Int):=by simp
 rw[this];refine mG ?_;have:=Nat.pow_lt_pow_right (a:=2) (by decide) hi;omega
def fP(n:Nat):Nat->Nat
 | 0=>0
 | k+1=>fP n k+if n.testBit k then 1 else 0
theorem Am(n:Nat):∀k,fP n k<=k
 | 0=>Nat.le_refl _
 | k+1=>by have:=Am n k;simp only[fP];split<;>omega
theorem Dd{n m:Nat}:∀{k:Nat},(∀i,i<k->n.testBit i=m.testBit i)->fP n k=fP m k
 | 0,_=>rfl
 | k+1,h=>by simp only[fP];rw[Dd λ i hi=>h i (Nat.lt_succ_of_lt hi),h k (Nat.lt_succ_self k)]
theorem Wu(n:Nat)(a:Nat):∀k,fP n (a+k)=fP n a+fP (n >>> a) k
 | 0=>rfl
 | k+1=>by rw[<- Nat.add_assoc];simp only[fP,Wu n a k,Nat.testBit_shiftRight];omega
theorem lR{h l i:Nat}(hl:l<256):(256*h+l).testBit i=if i<8 then l.testBit i else h.testBit (i-8):=Nat.testBit_two_pow_mul_add h (i:=8) hl i
theorem qn{h l:Nat}(hl:l<256)(k:Nat):fP (256*h+l) (8+k)=fP l 8+fP h k:=by
 rw[Wu];congr 1;·exact Dd λ i hi=>by rw[lR hl,if_pos hi]
 ·rw[Nat.shiftRight_eq_div_pow,show 2^8=256 from rfl];congr 1;omega
theorem C8{a b c d:Nat}(hb:b<256)(hd:d<256):(256*a+b) &&& (256*c+d)=256*(a &&& c)+(b &&& d):=by
 have hbd:b &&& d<256:=Nat.lt_of_le_of_lt Nat.and_le_left hb;refine Nat.eq_of_testBit_eq λ i=>?_;rw[Nat.testBit_and,lR hb,lR hd,lR hbd];split;·rw[Nat.testBit_and]
 ·rw[Nat.testBit_and]
theorem Lt{a b s:Nat}(hb:b<256)(hs:s<=8):(256*a+b) >>> s=256*(a >>> s)+((a%2^s)*2^(8-s)+b >>> s):=by
 simp only[Nat.shiftRight_eq_div_pow];have h1:256=2^s*2^(8-s):=by rw[<- Nat.pow_add];rw[show s+(8-s)=8 by omega]
 have h2:=Nat.div_add_mod a (2^s);have hp:0<2^s:=Nat.two_pow_pos s;have h3:256*a+b=2^s*(2^(8-s)*a)+b:=by rw[h1,Nat.mul_assoc]
 rw[h3,Nat.mul_add_div hp];have h4:2^(8-s)*a=256*(a/2^s)+a%2^s*2^(8-s):=by
  conv=>lhs;rw[<- h2]
  rw[h1,Nat.mul_add,Nat.mul_comm (a%2^s),<- Nat.mul_assoc,Nat.mul_comm (2^(8-s)) (2^s)]
 omega
def lI(s:Nat)(m:Nat)(n:Nat):Nat:=((n >>> s) &&& m)+(n &&& m)
theorem tf{a b s d:Nat}(hb:b<256)(hs:s<=8)(hd:d<2^(8-s)):((a%2^s)*2^(8-s)+b >>> s) &&& d=(b >>> s) &&& d:=by
 have hbs:b >>> s<2^(8-s):=by rw[Nat.shiftRight_eq_div_pow];refine Nat.div_lt_of_lt_mul ?_;rw[<- Nat.pow_add,show s+(8-s)=8 by omega];exact hb
 refine Nat.eq_of_testBit_eq λ i=>?_;rw[Nat.testBit_and,Nat.testBit_and,Nat.mul_comm,Nat.testBit_two_pow_mul_add _ hbs];split;·rfl
 ·rename_i h;have:d.testBit i=false:=Nat.testBit_lt_two_pow (Nat.lt_of_lt_of_le hd (Nat.pow_le_pow_right (by decide) (by omega)));rw[this];simp
theorem Iy{s m a b d:Nat}(hb:b<256)(hs:s<=8)(hs0:0<s)(hd:d<2^(8-s)):lI s (256*m+d) (256*a+b)=256*lI s m a+lI s d b:=by
 have hd':d<256:=Nat.lt_of_lt_of_le hd (Nat.pow_le_pow_right (n:=2) (by decide) (show 8-s<=8 by omega));have hL:(a%2^s)*2^(8-s)+b >>> s<256:=by
  have h1:256=2^s*2^(8-s):=by rw[<- Nat.pow_add];rw[show s+(8-s)=8 by omega]
  have h2:a%2^s<2^s:=Nat.mod_lt _ (Nat.two_pow_pos s);have h3:b >>> s<2^(8-s):=by rw[Nat.shiftRight_eq_div_pow];refine Nat.div_lt_of_lt_mul ?_;rw[<- Nat.pow_add,show s+(8-s)=8 by omega];exact hb
  have h4:(a%2^s+1)*2^(8-s)<=2^s*2^(8-s):=Nat.mul_le_mul_right _ h2;rw[Nat.add_mul,Nat.one_mul] at h4;omega
 unfold lI;rw[Lt hb hs,C8 hL hd',C8 hb hd',tf hb hs hd];omega
def aAi(l:Nat):Nat:=(((lI 2 51 (lI 1 85 l)) >>> 4)+lI 2 51 (lI 1 85 l)) &&& 15
theorem uj:∀l,l<256->lI 1 85 l<256/\lI 2 51 (lI 1 85 l)<256/\lI 2 51 (lI 1 85 l)%16<=4/\lI 2 51 (lI 1 85 l)/16<=4/\aAi l=fP l 8:=by decide +kernel
def sM(d:Nat):Nat->Nat
 | 0=>0
 | k+1=>256*sM d k+d
theorem Ie:∀(k n:Nat),n<256^k ->
  ∃r,(∀q,q=(lI 2 (sM 51 k) (lI 1 (sM 85 k) n))->(((q >>> 4)+q) &&& sM 15 k)=r/\q<256^k/\q%16<=4)/\(∃ps:List Nat,ps.length=k/\(∀p∈ps,p<=8)/\r=ps.foldr (λ p acc=>p+256*acc) 0/\ps.sum=fP n (8*k))
 | 0,n,h=>⟨0,λ q hq=>by
   have h0:n=0:=by simpa using h
   subst h0
   subst hq
   simp[lI,sM],[],rfl,by simp,rfl,by simp[fP]⟩
 | k+1,n,h=>by
  have hl:n%256<256:=Nat.mod_lt _ (by decide)
  have hn:n=256*(n/256)+n%256:=(Nat.div_add_mod n 256).symm
  have hk:n/256<256^k:=by
   refine Nat.div_lt_of_lt_mul ?_
   rw[Nat.mul_comm,<- Nat.pow_succ];exact h
  obtain⟨r,h1,ps,h2,h3,h4,h5⟩:=Ie k (n/256) hk
  obtain⟨b1,b2,b3,b4,b5⟩:=uj (n%256) hl
  obtain⟨q1,q2,q3⟩:=h1 _ rfl
  generalize hQ:lI 2 (sM 51 k) (lI 1 (sM 85 k) (n/256))=Q at *
  refine⟨256*r+fP (n%256) 8,λ q hq=>?_,fP (n%256) 8::ps,by simp[h2],?_,?_,?_⟩
  ·have e:q=256*Q+lI 2 51 (lI 1 85 (n%256)):=by
    rw[hq]
    have e0:lI 1 (sM 85 (k+1)) n=256*lI 1 (sM 85 k) (n/256)+lI 1 85 (n%256):=by
     have:=Iy (s:=1) (m:=sM 85 k) (a:=n/256) hl (by decide) (by decide) (show 85<2^(8-1) by decide)
     rw[<- hn] at this
     exact this
    rw[e0,<- hQ]
    exact Iy (s:=2) (m:=sM 51 k) b1 (by decide) (by decide) (show 51<2^(8-2) by decide)
   generalize hB:lI 2 51 (lI 1 85 (n%256))=B at *
   have hones:((B >>> 4)+B) &&& 15=fP (n%256) 8:=by rw[<- b5,aAi,hB]
   have e4:q >>> 4=256*(Q >>> 4)+((Q%16)*16+B >>> 4):=by rw[e];exact Lt (s:=4) b2 (by decide)
   have eB:B >>> 4=B/16:=by rw[Nat.shiftRight_eq_div_pow]
   have hlow:(Q%16)*16+B >>> 4+B<256:=by rw[eB];omega
   have hsum:q >>> 4+q=256*(Q >>> 4+Q)+((Q%16)*16+B >>> 4+B):=by rw[e4,e];omega
   refine⟨?_,?_,?_⟩
   ·rw[hsum]
    show(256*(Q >>> 4+Q)+_) &&& (256*sM 15 k+15)=_
    rw[C8 hlow (by decide),q1,<- hones]
    congr 1
    rw[Nat.and_two_pow_sub_one_eq_mod _ 4,Nat.and_two_pow_sub_one_eq_mod _ 4]
    omega
   ·rw[e,Nat.pow_succ];omega
   ·rw[e];omega
  ·intro p hp
   rcases List.mem_cons.1 hp with rfl|hp
   ·exact Am _ 8
   ·exact h3 p hp
  ·simp only[List.foldr_cons,<- h4];omega
  ·rw[List.sum_cons,h5]
   conv=>rhs;rw[hn]
   rw[show 8*(k+1)=8+8*k by omega,qn hl]
end
section
variable{x a b r t1 t2 t3 p0 p1 p2 t4 t5 t6 t7 p3 p4 p5 p6 p7:Nat}
theorem aEq(ha:a<256)(h:x=a+256*b):x/256=b:=by omega
theorem aEz(ha:a<65536)(h:x=a+65536*b):x/65536=b:=by omega
theorem aEA(ha:a<4294967296)(h:x=a+4294967296*b):x/4294967296=b:=by omega
theorem bnd{t p s B:Nat}(e:t=p+256*s)(hp:p<=8)(hs:s<=B):t<=8+256*B:=by omega
theorem fa(e0:r=p0+256*t1)(e1:t1=p1+256*t2)(e2:t2=p2+256*t3):r+t1=((p0+p1)+256*(p1+p2))+65536*(t2+t3):=by omega
theorem ca(g0:p0<=8)(g1:p1<=8)(g2:p2<=8):(p0+p1)+256*(p1+p2)<65536:=by omega
theorem fb0(e2:t2=p2+256*t3)(e3:t3=p3+256*t4)(e4:t4=p4+256*t5)(e5:t5=p5+256*t6)(e6:t6=p6+256*t7):t2+t3+t4+t5=(p2+p3+p4+p5)+256*(p3+p4+p5+p6)+65536*(t4+t5+t6+t7):=by subst e6;omega
theorem fb(f4:r+t1=((p0+p1)+256*(p1+p2))+65536*(t2+t3))(e2:t2=p2+256*t3)(e3:t3=p3+256*t4)(e4:t4=p4+256*t5)(e5:t5=p5+256*t6)(e6:t6=p6+256*t7) :
  r+t1+(t2+t3)=((p0+p1+p2+p3)+256*(p1+p2+p3+p4)+65536*(p2+p3+p4+p5)+16777216*(p3+p4+p5+p6))+4294967296*(t4+t5+t6+t7):=by
 have h1:=fb0 e2 e3 e4 e5 e6;have h2:t2+t3=(p2+p3)+256*(t3+t4):=by clear h1 f4 e4 e5 e6;omega
 have h3:t3+t4=(p3+p4)+256*(t4+t5):=by clear h1 h2 f4 e2 e5 e6;omega
 clear e2 e3 e4 e5 e6;omega
theorem cb(g0:p0<=8)(g1:p1<=8)(g2:p2<=8)(g3:p3<=8)(g4:p4<=8)(g5:p5<=8)(g6:p6<=8):(p0+p1+p2+p3)+256*(p1+p2+p3+p4)+65536*(p2+p3+p4+p5)+16777216*(p3+p4+p5+p6)<4294967296:=by omega
theorem fc(b0:r<=8+256*(8+256*(8+256*(8+256*(8+256*(8+256*(8+256*8)))))))(b1:t1<=8+256*(8+256*(8+256*(8+256*(8+256*(8+256*8)))))):r+t1<9223372036854775808:=by omega
theorem fd(b0:r<=8+256*(8+256*(8+256*(8+256*(8+256*(8+256*(8+256*8)))))))(b1:t1<=8+256*(8+256*(8+256*(8+256*(8+256*(8+256*8))))))(b2:t2<=8+256*(8+256*(8+256*(8+256*(8+256*8)))))(b3:t3<=8+256*(8+256*(8+256*(8+256*8)))):r+t1+(t2+t3)<9223372036854775808:=by omega
theorem fe(g1:p1<=8)(g2:p2<=8)(g3:p3<=8)(g4:p4<=8)(g5:p5<=8)(g6:p6<=8)(b4:t4<=8+256*(8+256*(8+256*8)))(b5:t5<=8+256*(8+256*8))(b6:t6<=8+256*8)(b7:t7<=8) :
  (p1+p2+p3+p4)+256*(p2+p3+p4+p5)+65536*(p3+p4+p5+p6)+16777216*(t4+t5+t6+t7)+(t5+t6+t7)<36028797018963968:=by omega
theorem ff(e4:t4=p4+256*t5)(e5:t5=p5+256*t6)(e6:t6=p6+256*t7)(e7:t7=p7) :
  ((p0+p1+p2+p3)+256*(p1+p2+p3+p4)+65536*(p2+p3+p4+p5)+16777216*(p3+p4+p5+p6))+4294967296*(t4+t5+t6+t7)+(t4+t5+t6+t7) =
   (p0+p1+p2+p3+p4+p5+p6+p7)+256*((p1+p2+p3+p4)+256*(p2+p3+p4+p5)+65536*(p3+p4+p5+p6)+16777216*(t4+t5+t6+t7)+(t5+t6+t7)):=by
 have h:t4+t5+t6+t7=(p4+p5+p6+p7)+256*(t5+t6+t7):=by omega
 generalize t4+t5+t6+t7=s at *;clear e4 e5 e6 e7;omega
theorem ri(g0:p0<=8)(g1:p1<=8)(g2:p2<=8)(g3:p3<=8)(g4:p4<=8)(g5:p5<=8)(g6:p6<=8)(g7:p7<=8)(e0:r=p0+256*t1)(e1:t1=p1+256*t2)(e2:t2=p2+256*t3)(e3:t3=p3+256*t4)(e4:t4=p4+256*t5)(e5:t5=p5+256*t6)(e6:t6=p6+256*t7)(e7:t7=p7) :
  r+r/256<9223372036854775808/\(r+r/256)+(r+r/256)/65536<9223372036854775808/\∃K,K<36028797018963968/\((r+r/256)+(r+r/256)/65536)+((r+r/256)+(r+r/256)/65536)/4294967296=(p0+p1+p2+p3+p4+p5+p6+p7)+256*K:=by
 have b7:t7<=8:=by rw[e7];exact g7
 have b6:=bnd e6 g6 b7;have b5:=bnd e5 g5 b6;have b4:=bnd e4 g4 b5;have b3:=bnd e3 g3 b4;have b2:=bnd e2 g2 b3;have b1:=bnd e1 g1 b2;have b0:=bnd e0 g0 b1;have f4:r+t1=((p0+p1)+256*(p1+p2))+65536*(t2+t3):=fa e0 e1 e2;have c4:(p0+p1)+256*(p1+p2)<65536:=ca g0 g1 g2;have f5:r+t1+(t2+t3)=((p0+p1+p2+p3)+256*(p1+p2+p3+p4)+65536*(p2+p3+p4+p5)+16777216*(p3+p4+p5+p6))+4294967296*(t4+t5+t6+t7):=fb f4 e2 e3 e4 e5 e6;have c5:=cb g0 g1 g2 g3 g4 g5 g6;rw[aEq (Nat.lt_of_le_of_lt g0 (by decide)) e0,aEz c4 f4,aEA c5 f5];refine⟨fc b0 b1,fd b0 b1 b2 b3,(p1+p2+p3+p4)+256*(p2+p3+p4+p5)+65536*(p3+p4+p5+p6)+16777216*(t4+t5+t6+t7)+(t5+t6+t7),?_,?_⟩;·exact fe g1 g2 g3 g4 g5 g6 b4 b5 b6 b7
 ·rw[f5];exact ff e4 e5 e6 e7
end
section
theorem aB9{c K:Nat}(hc:c<=64)(hK:K<36028797018963968):pG .i64 (IntKind.i64.wrap ((c+256*K:Nat):Int)) 127=(c:Int):=by
 rw[wrap_i64 (by omega) (by omega)];unfold pG;have h1:(BitVec.ofInt IntKind.i64.bits ((c+256*K:Nat):Int)).toNat=c+256*K:=by show(BitVec.ofInt 64 ((c+256*K:Nat):Int)).toNat=_;rw[BitVec.toNat_ofInt];omega
 have h2:(BitVec.ofInt IntKind.i64.bits 127).toNat=127:=by decide
 rw[BitVec.toNat_and,h1,h2,show(127:Nat)=2^7-1 from rfl,Nat.and_two_pow_sub_one_eq_mod];have h3:(c+256*K)%2^7=c:=by omega
 rw[h3];exact wrap_i64 (by omega) (by omega)
theorem nX{n:Nat}(hn:n<18446744073709551616):xK (n:Int)=((fP n 64:Nat):Int):=by
 obtain⟨r,h1,ps,h2,h3,h4,h5⟩:=Ie 8 n hn;obtain⟨q1,q2,_⟩:=h1 _ rfl;match ps,h2 with
 | [p0,p1,p2,p3,p4,p5,p6,p7],_=>
  simp only[List.mem_cons,List.not_mem_nil,or_false,forall_eq_or_imp,forall_eq] at h3;simp only[List.foldr_cons,List.foldr_nil] at h4;simp only[List.sum_cons,List.sum_nil] at h5;obtain⟨g0,g1,g2,g3,g4,g5,g6,g7⟩:=h3;have b5:lI 1 6148914691236517205 n<18446744073709551616:=by unfold lI;have h1:(n >>> 1) &&& 6148914691236517205<=6148914691236517205:=Nat.and_le_right;have h2:n &&& 6148914691236517205<=6148914691236517205:=Nat.and_le_right;omega
  have e1:∀m:Nat,m<18446744073709551616->IntKind.u64.wrap (pG .u64 (pQ .u64 (m:Int) 1) 6148914691236517205+pG .u64 (m:Int) 6148914691236517205)=((lI 1 6148914691236517205 m:Nat):Int):=λ m hm=>by have hs:m >>> 1<18446744073709551616:=Nat.lt_of_le_of_lt (Nat.shiftRight_le _ _) hm;have r1:pQ .u64 (m:Int) 1=((m >>> 1:Nat):Int):=pA (i:=1) (by decide);have a1:pG .u64 ((m >>> 1:Nat):Int) 6148914691236517205=(((m >>> 1) &&& 6148914691236517205:Nat):Int):=pB hs (m:=6148914691236517205) (by decide);have a2:pG .u64 (m:Int) 6148914691236517205=((m &&& 6148914691236517205:Nat):Int):=pB hm (m:=6148914691236517205) (by decide);rw[r1,a1,a2,<- Int.natCast_add];refine mG ?_;have h1:(m >>> 1) &&& 6148914691236517205<=6148914691236517205:=Nat.and_le_right;have h2:m &&& 6148914691236517205<=6148914691236517205:=Nat.and_le_right;omega
  have e2:∀m:Nat,m<18446744073709551616->IntKind.u64.wrap (pG .u64 (pQ .u64 (m:Int) 2) 3689348814741910323+pG .u64 (m:Int) 3689348814741910323)=((lI 2 3689348814741910323 m:Nat):Int):=λ m hm=>by have hs:m >>> 2<18446744073709551616:=Nat.lt_of_le_of_lt (Nat.shiftRight_le _ _) hm;have r1:pQ .u64 (m:Int) 2=((m >>> 2:Nat):Int):=pA (i:=2) (by decide);have a1:pG .u64 ((m >>> 2:Nat):Int) 3689348814741910323=(((m >>> 2) &&& 3689348814741910323:Nat):Int):=pB hs (m:=3689348814741910323) (by decide);have a2:pG .u64 (m:Int) 3689348814741910323=((m &&& 3689348814741910323:Nat):Int):=pB hm (m:=3689348814741910323) (by decide);rw[r1,a1,a2,<- Int.natCast_add];refine mG ?_;have h1:(m >>> 2) &&& 3689348814741910323<=3689348814741910323:=Nat.and_le_right;have h2:m &&& 3689348814741910323<=3689348814741910323:=Nat.and_le_right;omega
  have m5:sM 85 8=6148914691236517205:=by decide
  have m3:sM 51 8=3689348814741910323:=by decide
  have mf:sM 15 8=1085102592571150095:=by decide
  rw[m5,m3] at q1 q2;rw[mf] at q1;unfold xK;simp only[];rw[e1 n hn,e2 _ b5];generalize lI 2 3689348814741910323 (lI 1 6148914691236517205 n)=Q at *;have hQ:Q<18446744073709551616:=q2;have hr:r<18446744073709551616:=by rw[<- q1];exact Nat.lt_of_le_of_lt Nat.and_le_right (by decide)
  have e3:pG .u64 (IntKind.u64.wrap (pQ .u64 (Q:Int) 4+(Q:Int))) 1085102592571150095=(r:Int):=by
   have r1:pQ .u64 (Q:Int) 4=((Q >>> 4:Nat):Int):=pA (i:=4) (by decide);rw[r1,<- Int.natCast_add];have h2:IntKind.u64.wrap ((Q >>> 4+Q:Nat):Int)=(((Q >>> 4+Q)%18446744073709551616:Nat):Int):=by
    have:IntKind.u64.wrap ((Q >>> 4+Q:Nat):Int)=((Q >>> 4+Q:Nat):Int)%18446744073709551616:=by simp[IntKind.wrap,IntKind.signed,IntKind.bits]
    rw[this];omega
   rw[h2];have a1:=pB (n:=(Q >>> 4+Q)%18446744073709551616) (m:=1085102592571150095) (Nat.mod_lt _ (by decide)) (by decide);refine a1.trans ?_;rw[<- q1];congr 1;refine Nat.eq_of_testBit_eq λ i=>?_;rw[Nat.testBit_and,Nat.testBit_and,show(18446744073709551616:Nat)=2^64 from rfl,Nat.testBit_mod_two_pow];by_cases hi:i<64;·simp[hi]
   ·have:(1085102592571150095:Nat).testBit i=false:=Nat.testBit_lt_two_pow (Nat.lt_of_lt_of_le (by decide:(1085102592571150095:Nat)<2^64) (Nat.pow_le_pow_right (by decide) (by omega)));rw[this];simp
  rw[e3];have s1:∀m:Nat,pQ .u64 (m:Int) 8=((m/256:Nat):Int):=λ m=>by have:pQ .u64 (m:Int) 8=((m >>> 8:Nat):Int):=pA (i:=8) (by decide);rw[this,Nat.shiftRight_eq_div_pow]
  have s2:∀m:Nat,pQ .u64 (m:Int) 16=((m/65536:Nat):Int):=λ m=>by have:pQ .u64 (m:Int) 16=((m >>> 16:Nat):Int):=pA (i:=16) (by decide);rw[this,Nat.shiftRight_eq_div_pow]
  have s3:∀m:Nat,pQ .u64 (m:Int) 32=((m/4294967296:Nat):Int):=λ m=>by have:pQ .u64 (m:Int) 32=((m >>> 32:Nat):Int):=pA (i:=32) (by decide);rw[this,Nat.shiftRight_eq_div_pow]
  have w64:∀m:Nat,m<9223372036854775808->IntKind.u64.wrap ((m:Nat):Int)=(m:Int):=λ m hm=>mG (by omega)
  have hs:fP n 64=p0+p1+p2+p3+p4+p5+p6+p7:=by rw[show(64:Nat)=8*8 from rfl,<- h5];omega
  have hc:=Am n 64;have hx:=ri (t7:=p7) (t6:=p6+256*p7) (t5:=p5+256*(p6+256*p7)) (t4:=p4+256*(p5+256*(p6+256*p7))) (t3:=p3+256*(p4+256*(p5+256*(p6+256*p7)))) (t2:=p2+256*(p3+256*(p4+256*(p5+256*(p6+256*p7))))) (t1:=p1+256*(p2+256*(p3+256*(p4+256*(p5+256*(p6+256*p7)))))) (r:=r) g0 g1 g2 g3 g4 g5 g6 g7 (by rw[h4];rfl) rfl rfl rfl rfl rfl rfl rfl;clear h4 q1 q2 e3 e1 e2 b5 h1 hr hQ hn m5 m3 mf h5;obtain⟨x4,x5,K,hK,x6⟩:=hx;rw[s1,<- Int.natCast_add,w64 _ x4,s2,<- Int.natCast_add,w64 _ x5,s3,<- Int.natCast_add,x6,<- hs,w64 _ (by omega)];exact aB9 hc hK
end
end Go.Ct
