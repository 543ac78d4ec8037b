/- Pairs: valid lists are maps. -/
import Derived.Test.YtadnboagdhcedaaGreatDoorGNode2
import Derived.Lib.Bytealg
import Derived.Laws.Externs

set_option linter.unusedSimpArgs false
set_option linter.unusedVariables false
namespace Go.Proofs.YtadnboagdhcedaaGreatDoor
section
open Go.RowKit Go.Ct
theorem zi{a b c:ByteArray}(h:dV a b=true)(h2:dV c b=false):dV a c=true:=by
 cases hb:dV b c with
 | true=>exact mF h hb
 | false=>have:=rC hb h2;subst this;exact h
theorem yp{a b c:ByteArray}(h:dV b a=false)(h2:dV c b=false):dV c a=false:=by
 cases hc:dV c a with
 | false=>rfl
 | true=>have:=zi hc h;rw[this] at h2;cases h2
theorem rH{a b:ByteArray}(h:dV a b=true):a≠b:=λ e=>by subst e;rw[sV] at h;cases h
theorem dh{a b:ByteArray}(h:dV b a=false)(hn:a≠b):dV a b=true:=by
 cases hb:dV a b with
 | true=>rfl
 | false=>exact absurd (rC hb h) hn
def SA(l:List Pr):Prop:=l.Pairwise λ p q=>dV p.1 q.1=true
instance (l:List Pr):Decidable (SA l):=inferInstanceAs (Decidable (l.Pairwise _))
theorem Ww{l:List Pr}(h:rk l):∀d i,i+d+1<l.length->dV (l.getD i (⟨#[]⟩,0)).1 (l.getD (i+d+1) (⟨#[]⟩,0)).1=true
 | 0,i,hi=>by have:=h (i+1) (by omega) hi;rwa [Nat.add_sub_cancel] at this
 | d+1,i,hi=>mF (Ww h d i (by omega)) (by have:=h (i+(d+1)+1) (by omega) hi;rwa [Nat.add_sub_cancel] at this)
theorem iU{l:List Pr}{i:Nat}(h:i<l.length):l.getD i (⟨#[]⟩,0)=l[i]:=by simp[List.getD,List.getElem?_eq_getElem h]
theorem oW{l:List Pr}:rk l↔SA l:=by
 constructor
 ·intro h
  refine List.pairwise_iff_getElem.2 λ i j hi hj hij=>?_;have:=Ww h (j-i-1) i (by omega);rw[show i+(j-i-1)+1=j by omega,iU hi,iU hj] at this;exact this
 ·intro h i h1 hi
  rw[iU (by omega),iU hi]
  exact List.pairwise_iff_getElem.1 h (i-1) i (by omega) hi (by omega)
def rQ:List Pr->ByteArray->Option Int
 | [],_=>none
 | p::l,k=>if p.1=k then some p.2 else rQ l k
theorem qD{l:List Pr}{k:ByteArray}(h:∀p∈l,p.1≠k):rQ l k=none:=by
 induction l with
 | nil=>rfl
 | cons p l ih=>exact(if_neg (h p (.head _))).trans (ih λ q hq=>h q (.tail _ hq))
theorem gy:∀{l m:List Pr},SA l->SA m->(∀k,rQ l k=rQ m k)->l=m
 | [],[],_,_,_=>rfl
 | [],q::m,_,_,h=>by have:=h q.1;simp[rQ] at this
 | p::l,[],_,_,h=>by have:=h p.1;simp[rQ] at this
 | p::l,q::m,h1,h2,h=>by
  have h1':=List.pairwise_cons.1 h1;have h2':=List.pairwise_cons.1 h2
  have e1:dV p.1 q.1=false:=by
   cases hb:dV p.1 q.1 with
   | false=>rfl
   | true =>
    have:rQ (q::m) p.1=none:=qD λ x hx=>by
     rcases List.mem_cons.1 hx with rfl|hx
     ·exact(rH hb).symm
     ·exact(rH (mF hb (h2'.1 x hx))).symm
    have h':=h p.1;rw[this] at h';simp[rQ] at h'
  have e2:dV q.1 p.1=false:=by
   cases hb:dV q.1 p.1 with
   | false=>rfl
   | true =>
    have:rQ (p::l) q.1=none:=qD λ x hx=>by
     rcases List.mem_cons.1 hx with rfl|hx
     ·exact(rH hb).symm
     ·exact(rH (mF hb (h1'.1 x hx))).symm
    have h':=h q.1;rw[this] at h';simp[rQ] at h'
  have ek:=rC e1 e2;have ev:p.2=q.2:=by have:=h p.1;simpa[rQ,ek] using this
  have et:l=m:=gy h1'.2 h2'.2 λ k=>by
   by_cases hk:p.1=k
   ·subst hk
    rw[qD λ x hx=>(rH (h1'.1 x hx)).symm,qD λ x hx=>by rw[ek];exact(rH (h2'.1 x hx)).symm]
   ·have:=h k;rw[rQ,rQ,if_neg hk,if_neg (by rw[<- ek];exact hk)] at this;exact this
  rw[et,show p=q from Prod.ext ek ev]
def mN:List Pr->ByteArray->Int->List Pr
 | [],k,v=>[(k,v)]
 | p::l,k,v=>if dV p.1 k=true then p::mN l k v else if p.1=k then(k,v)::l else(k,v)::p::l
def jC(l:List Pr)(k:ByteArray):List Pr:=l.filter λ p=>decide (p.1≠k)
theorem Bj{l:List Pr}{k:ByteArray}{v:Int}:∀{q:Pr},q∈mN l k v->q=(k,v)∨q∈l:=by
 induction l with
 | nil=>intro q h;rw[mN,List.mem_singleton] at h;exact .inl h
 | cons p l ih =>
  intro q h
  rw[mN] at h
  split at h
  ·rcases List.mem_cons.1 h with rfl|h
   ·exact .inr (.head _)
   ·exact(ih h).imp id (.tail _)
  ·split at h
   ·exact(List.mem_cons.1 h).imp id (.tail _)
   ·exact List.mem_cons.1 h
theorem xV{k:ByteArray}{v:Int}:∀{l:List Pr},SA l->SA (mN l k v)
 | [],_=>List.pairwise_singleton _ _
 | p::l,h=>by
  have h':=List.pairwise_cons.1 h;rw[mN];split
  ·next hlt =>
   refine List.pairwise_cons.2 ⟨λ q hq=>?_,xV h'.2⟩;rcases Bj hq with rfl|hq
   ·exact hlt
   ·exact h'.1 q hq
  ·next hlt =>
   split
   ·next he =>
    subst he
    exact List.pairwise_cons.2 ⟨λ q hq=>h'.1 q hq,h'.2⟩
   ·next hne =>
    have hkp:dV k p.1=true:=dh (by simpa using hlt) (λ e=>hne e.symm);refine List.pairwise_cons.2 ⟨λ q hq=>?_,h⟩;rcases List.mem_cons.1 hq with rfl|hq
    ·exact hkp
    ·exact mF hkp (h'.1 q hq)
theorem Gw{k:ByteArray}{v:Int}(j:ByteArray):∀{l:List Pr},SA l->rQ (mN l k v) j=if j=k then some v else rQ l j
 | [],_=>by
  simp only[mN,rQ]
  by_cases h:j=k
  ·rw[if_pos h,if_pos h.symm]
  ·rw[if_neg h,if_neg λ e=>h e.symm]
 | p::l,h=>by
  have h':=List.pairwise_cons.1 h;have ih:=Gw (k:=k) (v:=v) j h'.2;rw[mN];split
  ·next hlt =>
   rw[rQ,ih,rQ]
   by_cases hj:j=k
   ·rw[if_pos hj,if_pos hj,if_neg λ e=>rH hlt (e.trans hj)]
   ·rw[if_neg hj,if_neg hj]
  ·split
   ·next he =>
    rw[rQ,rQ]
    by_cases hj:j=k
    ·rw[if_pos hj,if_pos hj.symm]
    ·rw[if_neg hj,if_neg λ e=>hj e.symm,if_neg λ e=>hj (e.symm.trans he)]
   ·rw[rQ]
    by_cases hj:j=k
    ·rw[if_pos hj,if_pos hj.symm]
    ·rw[if_neg hj,if_neg λ e=>hj e.symm]
theorem xL{l:List Pr}(k:ByteArray)(h:SA l):SA (jC l k):=h.sublist List.filter_sublist
theorem X2(l:List Pr)(k j:ByteArray):rQ (jC l k) j=if j=k then none else rQ l j:=by
 unfold jC
 induction l with
 | nil=>simp[rQ]
 | cons p l ih =>
  rw[List.filter_cons]
  by_cases hp:p.1=k
  ·rw[if_neg (by simp[hp]),ih,rQ]
   by_cases hj:j=k
   ·rw[if_pos hj,if_pos hj]
   ·rw[if_neg hj,if_neg hj,if_neg λ e=>hj (e.symm.trans hp)]
  ·rw[if_pos (by simp[hp]),rQ,ih,rQ]
   by_cases hj:j=k
   ·rw[if_pos hj,if_pos hj,if_neg λ e=>hp (e.trans hj)]
   ·rw[if_neg hj,if_neg hj]
theorem P8{l:List Pr}(h:SA l)(k:ByteArray)(v:Int):mN (jC l k) k v=mN l k v :=
 gy (xV (xL k h)) (xV h) λ j=>by
  rw[Gw j (xL k h),Gw j h,X2]
  by_cases hj:j=k
  ·rw[if_pos hj,if_pos hj]
  ·rw[if_neg hj,if_neg hj,if_neg hj]
structure Oo(l:List Pr)(k:ByteArray)(i:Nat):Prop where
 le:i<=l.length
 lo:∀j,j<i->dV (l.getD j (⟨#[]⟩,0)).1 k=true
 hi:∀j,i<=j->j<l.length->dV (l.getD j (⟨#[]⟩,0)).1 k=false
theorem Oo.tl{p:Pr}{l:List Pr}{k:ByteArray}{i:Nat}(h:Oo (p::l) k (i+1)):dV p.1 k=true/\Oo l k i :=
 ⟨h.lo 0 (by omega),⟨by have:=h.le;simp at this;omega,λ j hj=>h.lo (j+1) (by omega),λ j h1 h2=>h.hi (j+1) (by omega) (by simp;omega)⟩⟩
theorem Uu{k:ByteArray}{v:Int}:∀{l:List Pr} {i:Nat},Oo l k i->¬(i<l.length/\(l.getD i (⟨#[]⟩,0)).1=k)->mN l k v=l.take i++(k,v)::l.drop i
 | [],i,h,_=>by have:=h.le;simp at this;subst this;rfl
 | p::l,0,h,hn=>by
  have:dV p.1 k=false:=h.hi 0 (Nat.le_refl _) (by simp);rw[mN,if_neg (by rw[this];decide),if_neg λ e:p.1=k=>hn ⟨by simp,e⟩];rfl
 | p::l,i+1,h,hn=>by
  rw[mN,if_pos h.tl.1,Uu h.tl.2 λ hh=>hn ⟨by simp;omega,hh.2⟩]
  rfl
theorem dr{k:ByteArray}:∀{l:List Pr} {v:Int},rQ l k=some v->∃i,i<l.length/\(l.getD i (⟨#[]⟩,0)).1=k
 | [],_,h=>by cases h
 | p::l,v,h=>by
  rw[rQ] at h
  split at h
  ·next he=>exact⟨0,by simp,he⟩
  ·obtain⟨i,h1,h2⟩:=dr h
   exact⟨i+1,by simp;omega,h2⟩
theorem xY{k:ByteArray}{v:Int}:∀{l:List Pr},SA l->(mN l k v).length=if(rQ l k).isSome=true then l.length else l.length+1
 | [],_=>rfl
 | p::l,h=>by
  have h':=List.pairwise_cons.1 h;rw[mN];split
  ·next hlt =>
   rw[List.length_cons,xY h'.2,rQ,if_neg (rH hlt)]
   split<;>rfl
  ·next hlt =>
   split
   ·next he=>rw[rQ,if_pos he];rfl
   ·next hne =>
    have hkp:dV k p.1=true:=dh (by simpa using hlt) (λ e=>hne e.symm);rw[rQ,if_neg hne,qD λ q hq=>(rH (mF hkp (h'.1 q hq))).symm];rfl
theorem Pn{k:ByteArray}:∀{l:List Pr},SA l->(jC l k).length=if(rQ l k).isSome=true then l.length-1 else l.length
 | [],_=>rfl
 | p::l,h=>by
  have h':=List.pairwise_cons.1 h;have ih:=Pn (k:=k) h'.2;unfold jC at ih ⊢;rw[List.filter_cons];by_cases hp:p.1=k
  ·have hn:∀q∈l,q.1≠k:=λ q hq=>by rw[<- hp];exact(rH (h'.1 q hq)).symm
   rw[if_neg (by simp[hp]),rQ,if_pos hp,List.filter_eq_self.2 λ q hq=>by simpa using hn q hq]
   rfl
  ·rw[if_pos (by simp[hp]),List.length_cons,ih,rQ,if_neg hp]
   split
   ·next hs =>
    have:1<=l.length:=by
     cases hf:rQ l k with
     | none=>rw[hf] at hs;cases hs
     | some v=>obtain⟨i,hi,_⟩:=dr hf;omega
    rw[List.length_cons];omega
   ·rfl
def Eh(l:List Pr):List Pr:=l.foldl (λ acc p=>mN acc p.1 p.2) []
theorem wB(l:List Pr)(p:Pr):Eh (l++[p])=mN (Eh l) p.1 p.2:=by unfold Eh;rw[List.foldl_append];rfl
theorem Q2{α:Type}{Q:List α->Prop}(h0:Q [])(h1:∀l x,Q l->Q (l++[x]))(l:List α):Q l:=by
 have key:∀m:List α,Q m.reverse:=λ m=>by
  induction m with
  | nil=>exact h0
  | cons x m ih=>rw[List.reverse_cons];exact h1 _ _ ih
 have:=key l.reverse;rwa [List.reverse_reverse] at this
theorem ap(l:List Pr):SA (Eh l):=by
 induction l using Q2 with
 | h0=>exact List.Pairwise.nil
 | h1 l x ih=>rw[wB];exact xV ih
theorem Uz(l:List Pr):(Eh l).length<=l.length:=by
 induction l using Q2 with
 | h0=>exact Nat.le_refl _
 | h1 l x ih =>
  rw[wB,xY (ap l),List.length_append,List.length_singleton]
  split<;>omega
end

/- Pairs: comparing, searching; Find, Put, Drop. -/
end Go.Proofs.YtadnboagdhcedaaGreatDoor
namespace Go.Ct
section
open Go Go.RowKit
variable{P:Program}{S:List (Nat×Value)}{w0 w:World}{M:List Nat}{H:List (Nat×Obj)}{A F:Fr}{O:List Ow}
theorem bW{G:World->Prop}{d:Nat}{ty:TypeId}{pos:String}{af:Array Edge}{gd:Option (Nat×Bool)}{x:Operand}{vs:List Value}{k:Nat}{v:Value}(hx:ev S x=.tuple ⟨vs⟩)(hk:vs[k]?=some v):aM P S G ⟨some d,.extract x k,ty,pos,af,gd⟩ v:=⟨λ w _=>by
 simp[execOp,hx,Instr.extract,hk]⟩
end
end Go.Ct
namespace Go.Proofs.YtadnboagdhcedaaGreatDoor
section
open Go.RowKit Go.Ct
theorem aBi{l:List Pr}{k:ByteArray}{h:Nat}(hs:SA l)(hc:dV (l.getD h (⟨#[]⟩,0)).1 k=false)(j:Nat)(h1:h<=j)(hj:j<l.length):dV (l.getD j (⟨#[]⟩,0)).1 k=false:=by
 rcases Nat.lt_or_eq_of_le h1 with h2|rfl
 ·have:=List.pairwise_iff_getElem.1 hs h j (by omega) hj h2;rw[<- iU,<- iU] at this;exact yp hc (D8 this)
 ·exact hc
end

/- Pairs: Find, Put, Drop of the program. -/
end Go.Proofs.YtadnboagdhcedaaGreatDoor
namespace Go.Ct
section
open Go Go.RowKit
section
variable{P:Program}{n:Nat}{S:List (Nat×Value)}
variable{w0 w w':World}{M:List Nat}{H H':List (Nat×Obj)}{A F F':Fr}{O O':List Ow}{G:World->Prop}
variable{d:Nat}{ty:TypeId}{pos:String}{af:Array Edge}{gd:Option (Nat×Bool)}{dst:Option Nat}{x y z:Operand}{t t2 e:TypeId}{p a:Option Addr}{i m k c c2:Nat}
def tlP(a:Option Addr)(k c:Nat):Option Addr:=if c=k then a else a.map (·.add (2*k))
theorem gi(hx:ev S x=.slice a m c)(hy:ev S y=.int .i64 ((k:Nat):Int))(ht:P.underlying t=some (.slice e))(hs:(P.info? e).map (·.size)=some 2)(hk:k<=m)(hmc:m<=c) :
  aM P S G ⟨some d,.slice t x (some y) none none,ty,pos,af,gd⟩ (.slice (tlP a k c) (m-k) (c-k)):=⟨λ w _=>by
 have he:P.elem t=e:=by simp[Program.elem,ht]
 have ht':P.underlying t=some (.slice (P.elem t)):=by rw[he];exact ht
 cases hi:P.info? e with
 | none=>simp[hi] at hs
 | some inf =>
  have hs':inf.size=2:=by simpa[hi] using hs
  have hr:=run_slice_l (P:=P) w t a m c ht' .i64 (k:Int) (by omega) (by omega);refine l7 (v:=.slice (tlP a k c) (m-k) (c-k)) ?_
  simp[hx,hy,run_sliceAt_slice w t _ _ _ _ ht',hr,he,sizeOf,typeInfo,hi,hs',sliced,tlP,Nat.mul_comm]⟩
theorem SF.aAR(h:SF w0 M H A F O w){l:List Pr}(hf:pS A F [] a (dK l))(hc:l.length<=c):SF w0 M H ((tlP a k c,dK (l.drop k))::A) F O w:=by
 have e:dK (l.drop k)=(dK l).drop (2*k):=by rw[Qh]
 rw[e];refine h.R9 hf (λ hn=>?_) (λ h=>by rw[h];simp) (λ w hc'=>?_)
 ·unfold tlP
  split
  ·rfl
  ·cases a with
   | none=>rfl
   | some a =>
    obtain⟨b,o,s⟩:=a
    simp only[Option.map_some,cZ,Addr.add]
    split<;>rfl
 ·unfold tlP
  split
  ·rename_i heq
   have:(dK l).drop (2*k)=[]:=List.drop_eq_nil_of_le (by rw[iA];omega);rw[this];exact Cl.nil _ _
  ·exact hc'.drop _
end
end
end Go.Ct
namespace Go.Proofs.YtadnboagdhcedaaGreatDoor
section
open Go.RowKit Go.Ct
section
variable{l:List Pr}{a:Option Addr}{c:Nat}{k:ByteArray}{v:Int}{w:World}
def eK(l:List Pr)(k:ByteArray):Option Int:=if SA l then rQ l k else none
def Qb(l:List Pr)(k:ByteArray)(v:Int):List Pr:=if SA l then mN l k v else []
def sD(l:List Pr)(k:ByteArray):List Pr:=if SA l then jC l k else []
def tm(w:World)(m:List Pr)(e:Ending)(w':World):Prop:=∃x:Option Addr×Nat,e=.returned (.slice x.1 m.length x.2)/\m.length<=x.2/\SF w [] [] [] [] [⟨x.1,dK m,x.2,137,2⟩] w'
def Yl(w:World)(m:List Pr)(e:Ending)(w':World):Prop:=∃x:Option Addr×Nat,e=.returned (.slice x.1 m.length x.2)/\m.length<=x.2/\SF w [] [] [] [(x.1,dK m)] [] w'
theorem tm.ml{w:World}{m:List Pr}{e:Ending}{w':World}(h:tm w m e w'):Yl w m e w':=by
 obtain⟨x,h1,h2,h3⟩:=h
 exact⟨x,h1,h2,h3.freeze .head (by simp)⟩
end
end

/- Pairs: the reference's Find, Put, Drop, Of, Equal. -/
section
open Go.RowKit Go.Ct
section
variable{l:List Pr}{a:Option Addr}{c:Nat}{k:ByteArray}{v:Int}{w:World}
theorem aAy{l:List Pr}{k:ByteArray}:∀{i:Nat},i<l.length->(∀j,j<i->(l.getD j (⟨#[]⟩,0)).1≠k)->(l.getD i (⟨#[]⟩,0)).1=k->rQ l k=some (l.getD i (⟨#[]⟩,0)).2:=by
 induction l with
 | nil=>intro i h;simp at h
 | cons p l ih =>
  intro i h hn he
  cases i with
  | zero=>exact if_pos he
  | succ i =>
   refine(if_neg (hn 0 (by omega))).trans ?_
   exact ih (by simp at h;omega) (λ j hj=>hn (j+1) (by omega)) he
theorem o6{l:List Pr}{k:ByteArray}(h:∀j,j<l.length->(l.getD j (⟨#[]⟩,0)).1≠k):rQ l k=none:=qD λ p hp=>by
 obtain⟨j,hj,rfl⟩:=List.getElem_of_mem hp
 have:=h j hj;rwa [iU hj] at this
theorem Jf(k:ByteArray)(ha:Cl w a (dK l))(hlen:l.length<=1099511627775) :
  Calls Tryz.prog 121 #[.slice a l.length c,.string k] w λ e w'=>e=.returned (.tuple #[.int .u64 ((eK l k).getD 0),.bool (eK l k).isSome])/\St w [] [] w':=by
 refine enter Tryz.func121 Tryz.ntmps121 rfl rfl (SF.s1 ha) ?_;simp only[cP]
 refine Aw ?_;refine aV ?_;refine zR ?_;refine fK [4,5,6,7,8,9,10,11,12,13,14,15,16,17,18,19,20,21,22,23,24,25,26,27,28] (λ k=>[(6,.int .i64 ((k:Nat):Int))]) (λ i=>i<=l.length/\(i≠0->SA l)/\∀j,j<i->(l.getD j (⟨#[]⟩,0)).1≠k) (λ k=>l.length-k) (0) (⟨Nat.zero_le _,λ h=>absurd rfl h,λ j hj=>absurd hj (Nat.not_lt_zero j)⟩) ?_ (λ i f hx=>?_)
 ·repeat (first|exact bC _|refine aY (by exact rfl) ?_)
 refine K0a ?_;refine Kc7 ?_;refine zB ?_;(refine eM 11 (λ g11=>?_) (λ g11=>?_)<;>refine Ka0 ?_);all_goals ((first|refine aJ ?_|(refine aF ?_;refine aD (c0 (V:=.bool) (hc:=λ w1 hw=>mY (hw.cl fin) (by omega))) (λ x13 h13=>?_)));refine cI ?_;refine aK ?_)
 all_goals
 refine bA (λ c14=>?_) (λ c14=>?_)
 ·try exact nv c14
  all_goals (refine mZ ?_;refine jJ ?_;refine eA ?_;refine J3 ?_;refine aB ?_;refine wi ?_;refine aK ?_)
  all_goals
   refine bA (λ c23=>?_) (λ c23=>?_)
   ·refine jJ ?_;refine eA ?_;refine J3 ?_;refine J8 ?_;refine bK Tryz.results121 (λ w hw=>?_);rw[show eK l k=some (l.getD i (⟨#[]⟩,0)).2 from(if_pos (oW.1 (h13.1 (by simp_all)))).trans (aAy (by omega) hx.2.2 c23)];exact⟨rfl,hw.done⟩
   ·refine Kc1 ?_;refine dW (i+1) ?_ ?_ ?_
    ·omega
    ·repeat' (first|exact bC _|refine aY ?_ ?_)
     exact rfl
    ·exact⟨by omega,λ _=>oW.1 (h13.1 (by simp_all)),λ j hj=>by rcases Nat.lt_succ_iff_lt_or_eq.1 hj with h|rfl;exact hx.2.2 j h;assumption⟩
 ·all_goals (refine bM rfl ?_;refine Aw ?_)
  all_goals
   refine bK Tryz.results121 (λ w hw=>?_);first
   | (rw[show eK l k=none from if_neg λ hs=>by have:=h13.2 (oW.2 hs);simp_all];exact⟨rfl,hw.done⟩)
   | (rw[show eK l k=none by unfold eK;split;exact o6 λ j hj=>hx.2.2 j (by omega);rfl];exact⟨rfl,hw.done⟩)
theorem K4{l:List Pr}{i:Nat}(hi:i<l.length)(k:ByteArray):(l.take (i+1)).filter (λ p=>decide (p.1≠k))=(l.take i).filter (λ p=>decide (p.1≠k))++(if(l.getD i (⟨#[]⟩,0)).1≠k then [l.getD i (⟨#[]⟩,0)] else []):=by
 rw[List.take_add_one,List.getElem?_eq_getElem hi,iU hi,List.filter_append]
 congr 1
 by_cases h:l[i].1=k<;>simp[h]
theorem Hl{l:List Pr}{i:Nat}(hi:i<l.length)(k:ByteArray):jC (l.take (i+1)) k=if(l.getD i (⟨#[]⟩,0)).1=k then jC (l.take i) k else jC (l.take i) k++[l.getD i (⟨#[]⟩,0)]:=by
 unfold jC
 rw[K4 hi k]
 by_cases h:(l.getD i (⟨#[]⟩,0)).1=k
 ·rw[if_neg λ hn=>hn h,if_pos h,List.append_nil]
 ·rw[if_pos h,if_neg h]
theorem Pv(k:ByteArray)(ha:Cl w a (dK l))(hlen:l.length<=200000000000) :
  Calls Tryz.prog 172 #[.slice a l.length c,.string k] w (tm w (jC l k)):=by
 refine enter Tryz.func172 Tryz.ntmps172 rfl rfl (SF.s1 ha) ?_;simp only[cP]
 refine cR ?_;refine Ke3 ?_;refine kK [5,6,7,8,9,10,11,12,13,14,15,16,17,18,19,20,21,22,23,24,25,26] (λ z:Nat×Option Addr×List Pr×Nat=>[(6,.int .i64 ((z.1:Nat):Int)),(5,.slice z.2.1 z.2.2.1.length z.2.2.2)]) (λ z=>z.1<=l.length/\z.2.2.1.length<=z.2.2.2/\z.2.2.1=jC (l.take z.1) k/\z.2.2.1.length<=z.1) (λ _=>_) (λ _=>_) (λ z=>[⟨z.2.1,dK z.2.2.1,z.2.2.2,137,2⟩]) (λ z=>l.length-z.1) ((0,none,[],0)) (⟨Nat.zero_le _,Nat.le_refl _,rfl,Nat.le_refl _⟩) (λ z f hx=>?_) (hw0:=λ w hw=>(hw.kS 137 2).back);refine K0a ?_;refine Kd7 ?_;refine bA (λ c10=>?_) (λ c10=>?_)
 ·refine mZ ?_;refine jJ ?_;refine eA ?_;refine J3 ?_;refine aB ?_;refine uo ?_;refine aK ?_;refine bA (λ c19=>?_) (λ c19=>?_)
  ·refine zT ?_;refine pK ?_;refine Pb ?_;refine fD (λ x25=>?_);(refine fB (λ x26=>?_);try (refine fL (λ h26=>?_)));refine J1 ?_;refine Kc2 ?_;refine gT ((by exact(z.1+1,x26.1,z.2.2.1++[l.getD z.1 (⟨#[]⟩,0)],x26.2))) ?_ (hw1:=λ w hw=>by exact hw.back (hO:=by exact List.Sublist.refl _))
   ·obtain⟨q1,q2,q3,q4⟩:=hx
    have hdt:=Hl (l:=l) (i:=z.1) (by omega) k;first
    | exact⟨by show z.1+1<=l.length;omega,by simp only[List.length_append,List.length_cons,List.length_nil];omega,by rw[if_neg (by assumption),<- q3] at hdt;exact hdt.symm,by simp only[List.length_append,List.length_cons,List.length_nil];omega⟩
    | exact⟨by show z.1+1<=l.length;omega,q2,by rw[if_pos (by assumption),<- q3] at hdt;exact hdt.symm,by show z.2.2.1.length<=z.1+1;omega⟩
  ·refine Kc1 ?_;refine gT ((by exact(z.1+1,z.2.1,z.2.2.1,z.2.2.2))) ?_ (hw1:=λ w hw=>by exact hw.back (hO:=by exact List.Sublist.refl _))
   ·obtain⟨q1,q2,q3,q4⟩:=hx
    have hdt:=Hl (l:=l) (i:=z.1) (by omega) k;first
    | exact⟨by show z.1+1<=l.length;omega,by simp only[List.length_append,List.length_cons,List.length_nil];omega,by rw[if_neg (by assumption),<- q3] at hdt;exact hdt.symm,by simp only[List.length_append,List.length_cons,List.length_nil];omega⟩
    | exact⟨by show z.1+1<=l.length;omega,q2,by rw[if_pos (by assumption),<- q3] at hdt;exact hdt.symm,by show z.2.2.1.length<=z.1+1;omega⟩
 ·refine bM rfl ?_;refine Ka5 ?_;refine aR Tryz.results172 (λ w hw=>?_);obtain⟨q1,q2,q3,q4⟩:=hx
  have e:z.2.2.1=jC l k:=by rw[q3,List.take_of_length_le (by omega)]
  rw[<- e]
  exact⟨(z.2.1,z.2.2.2),rfl,q2,hw.aQ⟩
theorem mD{l:List Pr}{i:Nat}(hi:i<l.length):l.take (i+1)=l.take i++[l.getD i (⟨#[]⟩,0)]:=by
 rw[List.take_add_one,List.getElem?_eq_getElem hi,iU hi];rfl
theorem jd(p:Pr)(ha:Cl w a (dK l))(hc:l.length<=c)(hs:SA l)(hn:∀q∈l,q.1≠p.1)(hlen:l.length<=200000000000) :
    Calls Tryz.prog 171 #[.slice a l.length c,.agg ⟨[.string p.1,.int .u64 p.2]⟩] w (tm w (mN l p.1 p.2)):=by
  refine enter Tryz.func171 Tryz.ntmps171 rfl rfl (SF.s1 ha) ?_;simp only[cP]
  refine K1r ?_;intro x3;refine J1 ?_;refine Ke3 ?_;refine kK [5,6,8,9,10,11,12,13,14,15,16,17,18,19,20,21,22,23,24,25,26,27,28,29,30] (λ z:Nat×Option Addr×List Pr×Nat=>[(6,.int .i64 ((z.1:Nat):Int)),(5,.slice z.2.1 z.2.2.1.length z.2.2.2)]) (λ z=>z.1<=l.length/\z.2.2.1.length<=z.2.2.2/\z.2.2.1=l.take z.1/\z.2.2.1.length=z.1/\∀j,j<z.1->dV (l.getD j (⟨#[]⟩,0)).1 p.1=true) (λ z=>[(x3,.cells ⟨[.string p.1,.int .u64 p.2]⟩ 137 (0,0))]) (λ _=>_) (λ z=>[⟨z.2.1,dK z.2.2.1,z.2.2.2,137,2⟩]) (λ z=>l.length-z.1) ((0,none,[],0)) (⟨Nat.zero_le _,Nat.le_refl _,rfl,rfl,λ j hj=>absurd hj (Nat.not_lt_zero j)⟩) (λ z f hx=>?_) (hw0:=λ w hw=>(hw.kS 137 2).back);refine K0a ?_;refine aV ?_;refine aV ?_;refine gP [0,1,2,3,4,5,6,7,8,9,10,11,12,13] ?_;refine iJ ?_;refine iW ?_;refine Dr ?_;refine aL ?_;(refine Eu 12 (λ g12=>?_) (λ g12=>?_)<;>(first|refine bX ?_|(refine aL ?_)));all_goals ((first|refine bX ?_|(refine aL ?_));(first|refine bX ?_|(refine jA ?_));refine Nu ?_;refine Nu ?_;(first|refine bX ?_|(refine cm ?_));refine eS ?_;refine dJ ?_)
  all_goals
   refine bA (λ c21=>?_) (λ c21=>?_)
   · try exact nv c21
     all_goals (refine mZ ?_;refine zT ?_;refine pK ?_;refine Pb ?_;refine fD (λ x29=>?_);(refine aS (by(exact aX.gA (L7 rf rf fT rfl fin (by exact pW rfl) eC (by omega)) (by intro x;simp only[kP];exact rfl))) (λ x30=>?_);try (refine fL (λ h30=>?_)));refine J1 ?_;refine Kc2 ?_)
     all_goals
      refine gT ((z.1+1,x30.1,z.2.2.1++[l.getD z.1 (⟨#[]⟩,0)],x30.2)) ?_ (hw1:=λ w hw=>hw.back (hO:=by exact List.Sublist.refl _))
      · obtain⟨q1,q2,q3,q4,q5⟩:=hx
        refine⟨by show z.1+1<=l.length;omega,by simp only[List.length_append,List.length_cons,List.length_nil];omega,by rw[mD (by omega),<- q3],by simp only[List.length_append,List.length_cons,List.length_nil];omega,λ j hj=>?_⟩
        rcases Nat.lt_succ_iff_lt_or_eq.1 hj with h|rfl
        · exact q5 j h
        · exact c21
   · all_goals
      refine zg (λ w hw=>hw.aAR (k:=z.2.2.1.length) (c:=c) fin hc) ?_
     all_goals (refine bM rfl ?_;refine J2 ?_;refine dE ?_;refine gX ?_;refine gP [0,1,4,5,6,2,3,7,8] ?_;refine Kb7 ?_;refine iJ ?_;refine cS (i:=6) (hq:=(gi (k:=z.2.2.1.length) rf rf eC (by exact uH rfl) (by omega) (by omega))) (h:=?_);refine dA (h:=λ x35=>?_);((refine cA (i:=3) (hq:=(by(exact aX.gA (L7 rf rf fT rfl fin (by exact pW rfl) eC (by omega)) (by intro x;simp only[kP];exact rfl)))) (h:=λ x36=>?_);try (refine dO (λ h36=>?_))));((refine cA (i:=7) (hq:=(by(exact aX.gA (Ln (l2:=l.drop z.2.2.1.length) rf rf fT (by simp;done) fin (by rw[List.length_drop]) (by exact pW rfl) eC (by omega)) (by intro x;simp only[kP];exact rfl)))) (h:=λ x40=>?_);try (refine dO (λ h40=>?_))));refine J7 ?_)
     all_goals
      refine aR Tryz.results171 (λ w hw=>?_);obtain⟨q1,q2,q3,q4,q5⟩:=hx
      have hp:Oo l p.1 z.1:=⟨q1,q5,by first|exact aBi hs c21|(intro j h1 h2;omega)⟩
      have e:mN l p.1 p.2=z.2.2.1++[(p.1,p.2)]++l.drop z.2.2.1.length:=by
       rw[Uu hp λ hh=>?_,q4,<- q3,List.append_assoc]
       · rfl
       · exact hn _ (by rw[iU hh.1];exact List.getElem_mem hh.1) hh.2
      have e2:(z.2.2.1++[(p.1,p.2)]++l.drop z.2.2.1.length).length=z.2.2.1.length+1+(l.length-z.2.2.1.length):=by rw[List.length_append,List.length_append,List.length_drop];rfl
      rw[e]
      exact⟨x40,by rw[e2];rfl,by rw[e2];exact h40,hw.aQ⟩
theorem wG(k:ByteArray)(ha:Cl w a (dK l))(hlen:l.length<=200000000000) :
  Calls Tryz.prog 172 #[.slice a l.length c,.string k] w (Yl w (jC l k)):=(Pv k ha hlen).mono λ _ _ h=>h.ml
theorem Pk(p:Pr)(ha:Cl w a (dK l))(hc:l.length<=c)(hs:SA l)(hn:∀q∈l,q.1≠p.1)(hlen:l.length<=200000000000) :
  Calls Tryz.prog 171 #[.slice a l.length c,.agg ⟨[.string p.1,.int .u64 p.2]⟩] w (Yl w (mN l p.1 p.2)):=(jd p ha hc hs hn hlen).mono λ _ _ h=>h.ml
theorem Ko{l:List Pr}{k:ByteArray}:∀q∈jC l k,q.1≠k:=λ q hq=>by simpa using(List.mem_filter.1 hq).2
theorem G6(l:List Pr)(k:ByteArray):(jC l k).length<=l.length:=List.length_filter_le _ _
theorem gf(k:ByteArray)(v:Int)(ha:Cl w a (dK l))(hlen:l.length<=200000000000) :
  Calls Tryz.prog 166 #[.slice a l.length c,.string k,.int .u64 v] w (Yl w (Qb l k v)):=by
 have hdl:=G6 l k;refine enter Tryz.func166 Tryz.ntmps166 rfl rfl (SF.s1 ha) ?_;simp only[cP]
 refine Kb4 ?_;refine aD (c0 (V:=.bool) (hc:=λ w1 hw=>mY (hw.cl fin) (by omega))) (λ x8 h8=>?_);refine lA ?_;refine bA (λ c9=>?_) (λ c9=>?_)
 ·refine cR ?_;refine aR Tryz.results166 (λ w hw=>?_);rw[show Qb l k v=[] from if_neg λ hs=>by rw[h8.2 (oW.2 hs)] at c9;cases c9];exact⟨(none,0),rfl,Nat.le_refl _,(hw.Lw none).fin⟩
 ·have hs:SA l:=oW.1 (h8.1 (by simpa using c9));refine Cg ?_;refine aD (cF (hc:=λ w1 hw=>wG k (hw.cl fin) hlen)) (λ x12 h12=>?_);refine pK ?_;refine bQ ?_;refine aD (cF (hc:=λ w1 hw=>Pk (k,v) (hw.cl fin) h12 (xL k hs) Ko (by omega))) (λ x16 h16=>?_);refine J1 ?_;refine aR Tryz.results166 (λ w hw=>?_);rw[show Qb l k v=mN (jC l k) k v from(if_pos hs).trans (P8 hs k v).symm];exact⟨x16,rfl,h16,hw.fin⟩
theorem Yg(k:ByteArray)(ha:Cl w a (dK l))(hlen:l.length<=200000000000) :
  Calls Tryz.prog 168 #[.slice a l.length c,.string k] w (Yl w (sD l k)):=by
 refine enter Tryz.func168 Tryz.ntmps168 rfl rfl (SF.s1 ha) ?_;simp only[cP]
 refine Kb4 ?_;refine aD (c0 (V:=.bool) (hc:=λ w1 hw=>mY (hw.cl fin) (by omega))) (λ x6 h6=>?_);refine lA ?_;refine bA (λ c7=>?_) (λ c7=>?_)
 ·refine cR ?_;refine aR Tryz.results168 (λ w hw=>?_);rw[show sD l k=[] from if_neg λ hs=>by rw[h6.2 (oW.2 hs)] at c7;cases c7];exact⟨(none,0),rfl,Nat.le_refl _,(hw.Lw none).fin⟩
 ·have hs:SA l:=oW.1 (h6.1 (by simpa using c7));refine Cg ?_;refine aD (cF (hc:=λ w1 hw=>wG k (hw.cl fin) hlen)) (λ x10 h10=>?_);refine J1 ?_;refine aR Tryz.results168 (λ w hw=>?_);rw[show sD l k=jC l k from if_pos hs];exact⟨x10,rfl,h10,hw.fin⟩
theorem oo(ha:Cl w a (dK l))(hlen:l.length<=200000000000) :
  Calls Tryz.prog 174 #[.slice a l.length c] w (Yl w (Eh l)):=by
 refine enter Tryz.func174 Tryz.ntmps174 rfl rfl (SF.s1 ha) ?_;simp only[cP]
 refine cR ?_;refine Ke3 ?_;refine kK [3,4,5,6,7,8,9,10,11,12,13,14,15,16,17,18,19,20,21,22] (λ z:Nat×Option Addr×List Pr×Nat=>[(4,.int .i64 ((z.1:Nat):Int)),(3,.slice z.2.1 z.2.2.1.length z.2.2.2)]) (λ z=>z.1<=l.length/\z.2.2.1.length<=z.2.2.2/\z.2.2.1=Eh (l.take z.1)/\z.2.2.1.length<=z.1/\SA z.2.2.1) (λ _=>_) (λ z=>[(z.2.1,dK z.2.2.1)]) (λ _=>_) (λ z=>l.length-z.1) ((0,none,[],0)) (⟨Nat.zero_le _,Nat.le_refl _,rfl,Nat.le_refl _,List.Pairwise.nil⟩) (λ z f hx=>?_) (hw0:=λ w hw=>(hw.Lw none).back);refine K0a ?_;refine Kd7 ?_;refine bA (λ c8=>?_) (λ c8=>?_)
 ·have hdl:=G6 z.2.2.1 (l.getD z.1 (⟨#[]⟩,0)).1;refine mZ ?_;refine dZ [(0,[]),(1,[]),(2,[]),(3,[]),(4,[]),(5,[]),(7,[]),(8,[]),(9,[]),(10,[]),(6,[9,10]),(11,[]),(12,[])] ?_;refine iJ ?_;refine aL ?_;refine jA ?_;refine iT ?_;refine iJ ?_;refine Tc ?_;refine bL (i:=6) (hq:=(cF (hc:=λ w1 hw=>wG (l.getD z.1 (⟨#[]⟩,0)).1 (hw.cl fin) (by omega)))) (h:=λ x17 h17=>?_);refine bL (i:=11) (hq:=(cF (hc:=λ w1 hw=>Pk (l.getD z.1 (⟨#[]⟩,0)) (hw.cl fin) h17 (xL _ hx.2.2.2.2) Ko (by omega)))) (h:=λ x22 h22=>?_);refine J7 ?_;refine Kc2 ?_;refine gT ((z.1+1,x22.1,mN (jC z.2.2.1 (l.getD z.1 (⟨#[]⟩,0)).1) (l.getD z.1 (⟨#[]⟩,0)).1 (l.getD z.1 (⟨#[]⟩,0)).2,x22.2)) ?_
  ·obtain⟨q1,q2,q3,q4,q5⟩:=hx
   have e:=P8 q5 (l.getD z.1 (⟨#[]⟩,0)).1 (l.getD z.1 (⟨#[]⟩,0)).2;have hl:=xY (k:=(l.getD z.1 (⟨#[]⟩,0)).1) (v:=(l.getD z.1 (⟨#[]⟩,0)).2) q5;rw[e] at h22;refine⟨by show z.1+1<=l.length;omega,by show(mN _ _ _).length<=_;rw[e];exact h22,?_,?_,?_⟩
   ·show mN _ _ _=_
    rw[e,mD (by omega),wB,<- q3]
   ·show(mN _ _ _).length<=z.1+1
    rw[e,hl];split<;>omega
   ·show SA (mN _ _ _)
    rw[e];exact xV q5
 ·refine bM rfl ?_;refine Ka5 ?_;refine aR Tryz.results174 (λ w hw=>?_);obtain⟨q1,q2,q3,q4,q5⟩:=hx
  have e:z.2.2.1=Eh l:=by rw[q3,List.take_of_length_le (by omega)]
  rw[<- e]
  exact⟨(z.2.1,z.2.2.2),rfl,q2,hw.fin⟩
end
end

end Go.Proofs.YtadnboagdhcedaaGreatDoor
