/- Pairs: valid lists are maps. -/
import Derived.Test.YtadnboagdhcedaaGreatDoorGNode2
import Derived.Lib.Bytealg
import Derived.Laws.Externs

set_option linter.unusedSimpArgs false
set_option linter.unusedVariables false
namespace Go.Proofs.YtadnboagdhcedaaGreatDoor
section
open Go.RowKit Go.Ct
theorem rn{a b c:ByteArray}(h:cZ a b=true)(h2:cZ c b=false):cZ a c=true:=by
 cases hb:cZ b c with
 | true=>exact kI h hb
 | false=>have:=pG hb h2;subst this;exact h
theorem sc{a b c:ByteArray}(h:cZ b a=false)(h2:cZ c b=false):cZ c a=false:=by
 cases hc:cZ c a with
 | false=>rfl
 | true=>have:=rn hc h;rw[this] at h2;cases h2
theorem pM{a b:ByteArray}(h:cZ a b=true):a≠b:=λ e=>by subst e;rw[yI] at h;cases h
theorem ag{a b:ByteArray}(h:cZ b a=false)(hn:a≠b):cZ a b=true:=by
 cases hb:cZ a b with
 | true=>rfl
 | false=>exact absurd (pG hb h) hn
def SA(l:List Pr):Prop:=l.Pairwise λ p q=>cZ p.1 q.1=true
instance (l:List Pr):Decidable (SA l):=inferInstanceAs (Decidable (l.Pairwise _))
theorem Ra{l:List Pr}(h:gu l):∀d i,i+d+1<l.length->cZ (l.getD i (⟨#[]⟩,0)).1 (l.getD (i+d+1) (⟨#[]⟩,0)).1=true
 | 0,i,hi=>by have:=h (i+1) (by omega) hi;rwa [Nat.add_sub_cancel] at this
 | d+1,i,hi=>kI (Ra h d i (by omega)) (by have:=h (i+(d+1)+1) (by omega) hi;rwa [Nat.add_sub_cancel] at this)
theorem gQ{l:List Pr}{i:Nat}(h:i<l.length):l.getD i (⟨#[]⟩,0)=l[i]:=by simp[List.getD,List.getElem?_eq_getElem h]
theorem oM{l:List Pr}:gu l↔SA l:=by
 constructor
 ·intro h
  refine List.pairwise_iff_getElem.2 λ i j hi hj hij=>?_
  have:=Ra h (j-i-1) i (by omega)
  rw[show i+(j-i-1)+1=j by omega,gQ hi,gQ hj] at this
  exact this
 ·intro h i h1 hi
  rw[gQ (by omega),gQ hi]
  exact List.pairwise_iff_getElem.1 h (i-1) i (by omega) hi (by omega)
def pV:List Pr->ByteArray->Option Int
 | [],_=>none
 | p::l,k=>if p.1=k then some p.2 else pV l k
theorem oI{l:List Pr}{k:ByteArray}(h:∀p∈l,p.1≠k):pV l k=none:=by
 induction l with
 | nil=>rfl
 | cons p l ih=>exact(if_neg (h p (.head _))).trans (ih λ q hq=>h q (.tail _ hq))
theorem X5:∀{l m:List Pr},SA l->SA m->(∀k,pV l k=pV m k)->l=m
 | [],[],_,_,_=>rfl
 | [],q::m,_,_,h=>by have:=h q.1;simp[pV] at this
 | p::l,[],_,_,h=>by have:=h p.1;simp[pV] at this
 | p::l,q::m,h1,h2,h=>by
  have h1':=List.pairwise_cons.1 h1
  have h2':=List.pairwise_cons.1 h2
  have e1:cZ p.1 q.1=false:=by
   cases hb:cZ p.1 q.1 with
   | false=>rfl
   | true =>
    have:pV (q::m) p.1=none:=oI λ x hx=>by
     rcases List.mem_cons.1 hx with rfl|hx
     ·exact(pM hb).symm
     ·exact(pM (kI hb (h2'.1 x hx))).symm
    have h':=h p.1
    rw[this] at h';simp[pV] at h'
  have e2:cZ q.1 p.1=false:=by
   cases hb:cZ q.1 p.1 with
   | false=>rfl
   | true =>
    have:pV (p::l) q.1=none:=oI λ x hx=>by
     rcases List.mem_cons.1 hx with rfl|hx
     ·exact(pM hb).symm
     ·exact(pM (kI hb (h1'.1 x hx))).symm
    have h':=h q.1
    rw[this] at h';simp[pV] at h'
  have ek:=pG e1 e2
  have ev:p.2=q.2:=by have:=h p.1;simpa[pV,ek] using this
  have et:l=m:=X5 h1'.2 h2'.2 λ k=>by
   by_cases hk:p.1=k
   ·subst hk
    rw[oI λ x hx=>(pM (h1'.1 x hx)).symm,oI λ x hx=>by rw[ek];exact(pM (h2'.1 x hx)).symm]
   ·have:=h k
    rw[pV,pV,if_neg hk,if_neg (by rw[<- ek];exact hk)] at this
    exact this
  rw[et,show p=q from Prod.ext ek ev]
def lC:List Pr->ByteArray->Int->List Pr
 | [],k,v=>[(k,v)]
 | p::l,k,v=>if cZ p.1 k=true then p::lC l k v else if p.1=k then(k,v)::l else(k,v)::p::l
def gT(l:List Pr)(k:ByteArray):List Pr:=l.filter λ p=>decide (p.1≠k)
theorem yH{l:List Pr}{k:ByteArray}{v:Int}:∀{q:Pr},q∈lC l k v->q=(k,v)∨q∈l:=by
 induction l with
 | nil=>intro q h;rw[lC,List.mem_singleton] at h;exact .inl h
 | cons p l ih =>
  intro q h
  rw[lC] at h
  split at h
  ·rcases List.mem_cons.1 h with rfl|h
   ·exact .inr (.head _)
   ·exact(ih h).imp id (.tail _)
  ·split at h
   ·exact(List.mem_cons.1 h).imp id (.tail _)
   ·exact List.mem_cons.1 h
theorem uZ{k:ByteArray}{v:Int}:∀{l:List Pr},SA l->SA (lC l k v)
 | [],_=>List.pairwise_singleton _ _
 | p::l,h=>by
  have h':=List.pairwise_cons.1 h
  rw[lC]
  split
  ·next hlt =>
   refine List.pairwise_cons.2 ⟨λ q hq=>?_,uZ h'.2⟩
   rcases yH hq with rfl|hq
   ·exact hlt
   ·exact h'.1 q hq
  ·next hlt =>
   split
   ·next he =>
    subst he
    exact List.pairwise_cons.2 ⟨λ q hq=>h'.1 q hq,h'.2⟩
   ·next hne =>
    have hkp:cZ k p.1=true:=ag (by simpa using hlt) (λ e=>hne e.symm)
    refine List.pairwise_cons.2 ⟨λ q hq=>?_,h⟩
    rcases List.mem_cons.1 hq with rfl|hq
    ·exact hkp
    ·exact kI hkp (h'.1 q hq)
theorem E0{k:ByteArray}{v:Int}(j:ByteArray):∀{l:List Pr},SA l->pV (lC l k v) j=if j=k then some v else pV l j
 | [],_=>by
  simp only[lC,pV]
  by_cases h:j=k
  ·rw[if_pos h,if_pos h.symm]
  ·rw[if_neg h,if_neg λ e=>h e.symm]
 | p::l,h=>by
  have h':=List.pairwise_cons.1 h
  have ih:=E0 (k:=k) (v:=v) j h'.2
  rw[lC]
  split
  ·next hlt =>
   rw[pV,ih,pV]
   by_cases hj:j=k
   ·rw[if_pos hj,if_pos hj,if_neg λ e=>pM hlt (e.trans hj)]
   ·rw[if_neg hj,if_neg hj]
  ·split
   ·next he =>
    rw[pV,pV]
    by_cases hj:j=k
    ·rw[if_pos hj,if_pos hj.symm]
    ·rw[if_neg hj,if_neg λ e=>hj e.symm,if_neg λ e=>hj (e.symm.trans he)]
   ·rw[pV]
    by_cases hj:j=k
    ·rw[if_pos hj,if_pos hj.symm]
    ·rw[if_neg hj,if_neg λ e=>hj e.symm]
theorem uI{l:List Pr}(k:ByteArray)(h:SA l):SA (gT l k):=h.sublist List.filter_sublist
theorem Tl(l:List Pr)(k j:ByteArray):pV (gT l k) j=if j=k then none else pV l j:=by
 unfold gT
 induction l with
 | nil=>simp[pV]
 | cons p l ih =>
  rw[List.filter_cons]
  by_cases hp:p.1=k
  ·rw[if_neg (by simp[hp]),ih,pV]
   by_cases hj:j=k
   ·rw[if_pos hj,if_pos hj]
   ·rw[if_neg hj,if_neg hj,if_neg λ e=>hj (e.symm.trans hp)]
  ·rw[if_pos (by simp[hp]),pV,ih,pV]
   by_cases hj:j=k
   ·rw[if_pos hj,if_pos hj,if_neg λ e=>hp (e.trans hj)]
   ·rw[if_neg hj,if_neg hj]
theorem L8{l:List Pr}(h:SA l)(k:ByteArray)(v:Int):lC (gT l k) k v=lC l k v :=
 X5 (uZ (uI k h)) (uZ h) λ j=>by
  rw[E0 j (uI k h),E0 j h,Tl]
  by_cases hj:j=k
  ·rw[if_pos hj,if_pos hj]
  ·rw[if_neg hj,if_neg hj,if_neg hj]
structure Lh(l:List Pr)(k:ByteArray)(i:Nat):Prop where
 le:i<=l.length
 lo:∀j,j<i->cZ (l.getD j (⟨#[]⟩,0)).1 k=true
 hi:∀j,i<=j->j<l.length->cZ (l.getD j (⟨#[]⟩,0)).1 k=false
theorem Lh.tl{p:Pr}{l:List Pr}{k:ByteArray}{i:Nat}(h:Lh (p::l) k (i+1)):cZ p.1 k=true/\Lh l k i :=
 ⟨h.lo 0 (by omega),⟨by have:=h.le;simp at this;omega,λ j hj=>h.lo (j+1) (by omega),λ j h1 h2=>h.hi (j+1) (by omega) (by simp;omega)⟩⟩
theorem Q6{k:ByteArray}{v:Int}:∀{l:List Pr} {i:Nat},Lh l k i->¬(i<l.length/\(l.getD i (⟨#[]⟩,0)).1=k)->lC l k v=l.take i++(k,v)::l.drop i
 | [],i,h,_=>by have:=h.le;simp at this;subst this;rfl
 | p::l,0,h,hn=>by
  have:cZ p.1 k=false:=h.hi 0 (Nat.le_refl _) (by simp)
  rw[lC,if_neg (by rw[this];decide),if_neg λ e:p.1=k=>hn ⟨by simp,e⟩]
  rfl
 | p::l,i+1,h,hn=>by
  rw[lC,if_pos h.tl.1,Q6 h.tl.2 λ hh=>hn ⟨by simp;omega,hh.2⟩]
  rfl
theorem V6{k:ByteArray}:∀{l:List Pr} {v:Int},pV l k=some v->∃i,i<l.length/\(l.getD i (⟨#[]⟩,0)).1=k
 | [],_,h=>by cases h
 | p::l,v,h=>by
  rw[pV] at h
  split at h
  ·next he=>exact⟨0,by simp,he⟩
  ·obtain⟨i,h1,h2⟩:=V6 h
   exact⟨i+1,by simp;omega,h2⟩
theorem vB{k:ByteArray}{v:Int}:∀{l:List Pr},SA l->(lC l k v).length=if(pV l k).isSome=true then l.length else l.length+1
 | [],_=>rfl
 | p::l,h=>by
  have h':=List.pairwise_cons.1 h
  rw[lC]
  split
  ·next hlt =>
   rw[List.length_cons,vB h'.2,pV,if_neg (pM hlt)]
   split<;>rfl
  ·next hlt =>
   split
   ·next he=>rw[pV,if_pos he];rfl
   ·next hne =>
    have hkp:cZ k p.1=true:=ag (by simpa using hlt) (λ e=>hne e.symm)
    rw[pV,if_neg hne,oI λ q hq=>(pM (kI hkp (h'.1 q hq))).symm]
    rfl
theorem Ng{k:ByteArray}:∀{l:List Pr},SA l->(gT l k).length=if(pV l k).isSome=true then l.length-1 else l.length
 | [],_=>rfl
 | p::l,h=>by
  have h':=List.pairwise_cons.1 h
  have ih:=Ng (k:=k) h'.2
  unfold gT at ih ⊢
  rw[List.filter_cons]
  by_cases hp:p.1=k
  ·have hn:∀q∈l,q.1≠k:=λ q hq=>by rw[<- hp];exact(pM (h'.1 q hq)).symm
   rw[if_neg (by simp[hp]),pV,if_pos hp,List.filter_eq_self.2 λ q hq=>by simpa using hn q hq]
   rfl
  ·rw[if_pos (by simp[hp]),List.length_cons,ih,pV,if_neg hp]
   split
   ·next hs =>
    have:1<=l.length:=by
     cases hf:pV l k with
     | none=>rw[hf] at hs;cases hs
     | some v=>obtain⟨i,hi,_⟩:=V6 hf;omega
    rw[List.length_cons];omega
   ·rfl
def Bz(l:List Pr):List Pr:=l.foldl (λ acc p=>lC acc p.1 p.2) []
theorem uD(l:List Pr)(p:Pr):Bz (l++[p])=lC (Bz l) p.1 p.2:=by unfold Bz;rw[List.foldl_append];rfl
theorem Ma{α:Type}{Q:List α->Prop}(h0:Q [])(h1:∀l x,Q l->Q (l++[x]))(l:List α):Q l:=by
 have key:∀m:List α,Q m.reverse:=λ m=>by
  induction m with
  | nil=>exact h0
  | cons x m ih=>rw[List.reverse_cons];exact h1 _ _ ih
 have:=key l.reverse
 rwa [List.reverse_reverse] at this
theorem bu(l:List Pr):SA (Bz l):=by
 induction l using Ma with
 | h0=>exact List.Pairwise.nil
 | h1 l x ih=>rw[uD];exact uZ ih
theorem Si(l:List Pr):(Bz l).length<=l.length:=by
 induction l using Ma with
 | h0=>exact Nat.le_refl _
 | h1 l x ih =>
  rw[uD,vB (bu l),List.length_append,List.length_singleton]
  split<;>omega
end

/- Pairs: comparing, searching; Find, Put, Drop. -/
end Go.Proofs.YtadnboagdhcedaaGreatDoor
namespace Go.Ct
section
open Go Go.RowKit
variable{P:Program}{S:List (Nat×Value)}{w0 w:World}{M:List Nat}{H:List (Nat×Obj)}{A F:Fr}{O:List Ow}
theorem bL{G:World->Prop}{d:Nat}{ty:TypeId}{pos:String}{af:Array Edge}{gd:Option (Nat×Bool)}{x:Operand}{vs:List Value}{k:Nat}{v:Value}(hx:ev S x=.tuple ⟨vs⟩)(hk:vs[k]?=some v):aJ P S G ⟨some d,.extract x k,ty,pos,af,gd⟩ v:=⟨λ w _=>by
 simp[execOp,hx,Instr.extract,hk]⟩
end
end Go.Ct
namespace Go.Proofs.YtadnboagdhcedaaGreatDoor
section
open Go.RowKit Go.Ct
theorem z5{l:List Pr}{k:ByteArray}{h:Nat}(hs:SA l)(hc:cZ (l.getD h (⟨#[]⟩,0)).1 k=false)(j:Nat)(h1:h<=j)(hj:j<l.length):cZ (l.getD j (⟨#[]⟩,0)).1 k=false:=by
 rcases Nat.lt_or_eq_of_le h1 with h2|rfl
 ·have:=List.pairwise_iff_getElem.1 hs h j (by omega) hj h2
  rw[<- gQ,<- gQ] at this
  exact sc hc (Bb this)
 ·exact hc
end

/- Pairs: Find, Put, Drop of the program. -/
end Go.Proofs.YtadnboagdhcedaaGreatDoor
namespace Go.Ct
section
open Go Go.RowKit
section
variable{P:Program}{n:Nat}{S:List (Nat×Value)}
variable{w0 w w':World}{M:List Nat}{H H':List (Nat×Obj)}{A F F':Fr}{O O':List Ow}{G:World->Prop}
variable{d:Nat}{ty:TypeId}{pos:String}{af:Array Edge}{gd:Option (Nat×Bool)}{dst:Option Nat}{x y z:Operand}{t t2 e:TypeId}{p a:Option Addr}{i m k c c2:Nat}
def wc(a:Option Addr)(k c:Nat):Option Addr:=if c=k then a else a.map (·.add (2*k))
theorem Yn(hx:ev S x=.slice a m c)(hy:ev S y=.int .i64 ((k:Nat):Int))(ht:P.underlying t=some (.slice e))(hs:(P.info? e).map (·.size)=some 2)(hk:k<=m)(hmc:m<=c) :
  aJ P S G ⟨some d,.slice t x (some y) none none,ty,pos,af,gd⟩ (.slice (wc a k c) (m-k) (c-k)):=⟨λ w _=>by
 have he:P.elem t=e:=by simp[Program.elem,ht]
 have ht':P.underlying t=some (.slice (P.elem t)):=by rw[he];exact ht
 cases hi:P.info? e with
 | none=>simp[hi] at hs
 | some inf =>
  have hs':inf.size=2:=by simpa[hi] using hs
  have hr:=run_slice_l (P:=P) w t a m c ht' .i64 (k:Int) (by omega) (by omega)
  refine Xc (v:=.slice (wc a k c) (m-k) (c-k)) ?_
  simp[hx,hy,run_sliceAt_slice w t _ _ _ _ ht',hr,he,sizeOf,typeInfo,hi,hs',sliced,wc,Nat.mul_comm]⟩
theorem SF.aAa(h:SF w0 M H A F O w){l:List Pr}(hf:pI A F [] a (dF l))(hc:l.length<=c):SF w0 M H ((wc a k c,dF (l.drop k))::A) F O w:=by
 have e:dF (l.drop k)=(dF l).drop (2*k):=by rw[K0]
 rw[e]
 refine h.Zv hf (λ hn=>?_) (λ h=>by rw[h];simp) (λ w hc'=>?_)
 ·unfold wc
  split
  ·rfl
  ·cases a with
   | none=>rfl
   | some a =>
    obtain⟨b,o,s⟩:=a
    simp only[Option.map_some,cR,Addr.add]
    split<;>rfl
 ·unfold wc
  split
  ·rename_i heq
   have:(dF l).drop (2*k)=[]:=List.drop_eq_nil_of_le (by rw[fP];omega)
   rw[this]
   exact Cl.nil _ _
  ·exact hc'.drop _
end
end
end Go.Ct
namespace Go.Proofs.YtadnboagdhcedaaGreatDoor
section
open Go.RowKit Go.Ct
section
variable{l:List Pr}{a:Option Addr}{c:Nat}{k:ByteArray}{v:Int}{w:World}
def dG(l:List Pr)(k:ByteArray):Option Int:=if SA l then pV l k else none
def Lr(l:List Pr)(k:ByteArray)(v:Int):List Pr:=if SA l then lC l k v else []
def qN(l:List Pr)(k:ByteArray):List Pr:=if SA l then gT l k else []
def gi(w:World)(m:List Pr)(e:Ending)(w':World):Prop:=∃x:Option Addr×Nat,e=.returned (.slice x.1 m.length x.2)/\m.length<=x.2/\SF w [] [] [] [] [⟨x.1,dF m,x.2,137,2⟩] w'
def Vr(w:World)(m:List Pr)(e:Ending)(w':World):Prop:=∃x:Option Addr×Nat,e=.returned (.slice x.1 m.length x.2)/\m.length<=x.2/\SF w [] [] [] [(x.1,dF m)] [] w'
theorem gi.Vv{w:World}{m:List Pr}{e:Ending}{w':World}(h:gi w m e w'):Vr w m e w':=by
 obtain⟨x,h1,h2,h3⟩:=h
 exact⟨x,h1,h2,h3.freeze .head (by simp)⟩
end
end

/- Pairs: the reference's Find, Put, Drop, Of, Equal. -/
section
open Go.RowKit Go.Ct
section
variable{l:List Pr}{a:Option Addr}{c:Nat}{k:ByteArray}{v:Int}{w:World}
theorem uw{l:List Pr}{k:ByteArray}:∀{i:Nat},i<l.length->(∀j,j<i->(l.getD j (⟨#[]⟩,0)).1≠k)->(l.getD i (⟨#[]⟩,0)).1=k->pV l k=some (l.getD i (⟨#[]⟩,0)).2:=by
 induction l with
 | nil=>intro i h;simp at h
 | cons p l ih =>
  intro i h hn he
  cases i with
  | zero=>exact if_pos he
  | succ i =>
   refine(if_neg (hn 0 (by omega))).trans ?_
   exact ih (by simp at h;omega) (λ j hj=>hn (j+1) (by omega)) he
theorem j9{l:List Pr}{k:ByteArray}(h:∀j,j<l.length->(l.getD j (⟨#[]⟩,0)).1≠k):pV l k=none:=oI λ p hp=>by
 obtain⟨j,hj,rfl⟩:=List.getElem_of_mem hp
 have:=h j hj
 rwa [gQ hj] at this
theorem Hr(k:ByteArray)(ha:Cl w a (dF l))(hlen:l.length<=1099511627775) :
  Calls Tryz.prog 121 #[.slice a l.length c,.string k] w λ e w'=>e=.returned (.tuple #[.int .u64 ((dG l k).getD 0),.bool (dG l k).isSome])/\St w [] [] w':=by
 refine enter Tryz.func121 Tryz.ntmps121 rfl rfl (SF.s1 ha) ?_
 simp only[cP]
 refine F5 ?_;refine aR ?_;refine Gh ?_
 refine eY [4,5,6,7,8,9,10,11,12,13,14,15,16,17,18,19,20,21,22,23,24,25,26,27,28] (λ k=>[(6,.int .i64 ((k:Nat):Int))]) (λ i=>i<=l.length/\(i≠0->SA l)/\∀j,j<i->(l.getD j (⟨#[]⟩,0)).1≠k) (λ k=>l.length-k) (0) (⟨Nat.zero_le _,λ h=>absurd rfl h,λ j hj=>absurd hj (Nat.not_lt_zero j)⟩) ?_ (λ i f hx=>?_)
 ·repeat (first|exact bB _|refine aY (by exact rfl) ?_)
 dsimp only[fY,List.map,List.cons_append,List.nil_append]
 refine Fz ?_;refine dI ?_;refine Ec ?_
 (refine eF 11 (λ g11=>?_) (λ g11=>?_)<;>refine Ka0 ?_)
 all_goals ((first|refine aH ?_|(refine aF ?_;refine aC (c0 (V:=.bool) (hc:=λ w1 hw=>kW (hw.cl fin) (by omega))) (λ x13 h13=>?_)));refine cH ?_;refine aI ?_)
 all_goals
 refine aZ (λ c14=>?_) (λ c14=>?_)
 ·try exact nv c14
  all_goals (refine oE ?_;refine iQ ?_;refine iX ?_;refine J3 ?_;refine aB ?_;refine nu ?_;refine aI ?_)
  all_goals
   refine aZ (λ c23=>?_) (λ c23=>?_)
   ·refine iQ ?_;refine iX ?_;refine J3 ?_;refine J8 ?_
    refine bK Tryz.results121 (λ w hw=>?_)
    rw[show dG l k=some (l.getD i (⟨#[]⟩,0)).2 from(if_pos (oM.1 (h13.1 (by simp_all)))).trans (uw (by omega) hx.2.2 c23)];exact⟨rfl,hw.done⟩
   ·refine lM ?_;refine Ab ?_
    refine dO (i+1) ?_ ?_ ?_
    ·omega
    ·repeat' (first|exact bB _|refine aY ?_ ?_)
     exact rfl
    ·exact⟨by omega,λ _=>oM.1 (h13.1 (by simp_all)),λ j hj=>by rcases Nat.lt_succ_iff_lt_or_eq.1 hj with h|rfl;exact hx.2.2 j h;assumption⟩
 ·all_goals (refine bI rfl ?_;refine F5 ?_)
  all_goals
   refine bK Tryz.results121 (λ w hw=>?_)
   first
   | (rw[show dG l k=none from if_neg λ hs=>by have:=h13.2 (oM.2 hs);simp_all];exact⟨rfl,hw.done⟩)
   | (rw[show dG l k=none by unfold dG;split;exact j9 λ j hj=>hx.2.2 j (by omega);rfl];exact⟨rfl,hw.done⟩)
theorem Ig{l:List Pr}{i:Nat}(hi:i<l.length)(k:ByteArray):(l.take (i+1)).filter (λ p=>decide (p.1≠k))=(l.take i).filter (λ p=>decide (p.1≠k))++(if(l.getD i (⟨#[]⟩,0)).1≠k then [l.getD i (⟨#[]⟩,0)] else []):=by
 rw[List.take_add_one,List.getElem?_eq_getElem hi,gQ hi,List.filter_append]
 congr 1
 by_cases h:l[i].1=k<;>simp[h]
theorem Ee{l:List Pr}{i:Nat}(hi:i<l.length)(k:ByteArray):gT (l.take (i+1)) k=if(l.getD i (⟨#[]⟩,0)).1=k then gT (l.take i) k else gT (l.take i) k++[l.getD i (⟨#[]⟩,0)]:=by
 unfold gT
 rw[Ig hi k]
 by_cases h:(l.getD i (⟨#[]⟩,0)).1=k
 ·rw[if_neg λ hn=>hn h,if_pos h,List.append_nil]
 ·rw[if_pos h,if_neg h]
theorem M4(k:ByteArray)(ha:Cl w a (dF l))(hlen:l.length<=200000000000) :
  Calls Tryz.prog 172 #[.slice a l.length c,.string k] w (gi w (gT l k)):=by
 refine enter Tryz.func172 Tryz.ntmps172 rfl rfl (SF.s1 ha) ?_
 simp only[cP]
 refine cQ ?_;refine F2 ?_;refine Gh ?_
 refine lE [5,6,7,8,9,10,11,12,13,14,15,16,17,18,19,20,21,22,23,24,25,26] (λ z:Nat×Option Addr×List Pr×Nat=>[(6,.int .i64 ((z.1:Nat):Int)),(5,.slice z.2.1 z.2.2.1.length z.2.2.2)]) (λ z=>z.1<=l.length/\z.2.2.1.length<=z.2.2.2/\z.2.2.1=gT (l.take z.1) k/\z.2.2.1.length<=z.1) (λ _=>_) (λ _=>_) (λ z=>[⟨z.2.1,dF z.2.2.1,z.2.2.2,137,2⟩]) (λ z=>l.length-z.1) ((0,none,[],0)) (⟨Nat.zero_le _,Nat.le_refl _,rfl,Nat.le_refl _⟩) (λ z f hx=>?_) (hw0:=λ w hw=>(hw.kT 137 2).back)
 dsimp only[fY,List.map,List.cons_append,List.nil_append]
 refine Fz ?_;refine dI ?_;refine vV ?_
 refine aZ (λ c10=>?_) (λ c10=>?_)
 ·refine oE ?_;refine iQ ?_;refine iX ?_;refine J3 ?_;refine aB ?_;refine o0 ?_;refine aI ?_
  refine aZ (λ c19=>?_) (λ c19=>?_)
  ·refine wS ?_;refine nX ?_;refine To ?_;refine fF (λ x25=>?_);(refine eL (λ x26=>?_);try (refine eZ (λ h26=>?_)));refine J1 ?_;refine Kd0 ?_
   refine gC ((by exact(z.1+1,x26.1,z.2.2.1++[l.getD z.1 (⟨#[]⟩,0)],x26.2))) ?_ (hw1:=λ w hw=>by exact hw.back (hO:=by exact List.Sublist.refl _))
   ·obtain⟨q1,q2,q3,q4⟩:=hx
    have hdt:=Ee (l:=l) (i:=z.1) (by omega) k
    first
    | exact⟨by show z.1+1<=l.length;omega,by simp only[List.length_append,List.length_cons,List.length_nil];omega,by rw[if_neg (by assumption),<- q3] at hdt;exact hdt.symm,by simp only[List.length_append,List.length_cons,List.length_nil];omega⟩
    | exact⟨by show z.1+1<=l.length;omega,q2,by rw[if_pos (by assumption),<- q3] at hdt;exact hdt.symm,by show z.2.2.1.length<=z.1+1;omega⟩
  ·refine lM ?_;refine Ab ?_
   refine gC ((by exact(z.1+1,z.2.1,z.2.2.1,z.2.2.2))) ?_ (hw1:=λ w hw=>by exact hw.back (hO:=by exact List.Sublist.refl _))
   ·obtain⟨q1,q2,q3,q4⟩:=hx
    have hdt:=Ee (l:=l) (i:=z.1) (by omega) k
    first
    | exact⟨by show z.1+1<=l.length;omega,by simp only[List.length_append,List.length_cons,List.length_nil];omega,by rw[if_neg (by assumption),<- q3] at hdt;exact hdt.symm,by simp only[List.length_append,List.length_cons,List.length_nil];omega⟩
    | exact⟨by show z.1+1<=l.length;omega,q2,by rw[if_pos (by assumption),<- q3] at hdt;exact hdt.symm,by show z.2.2.1.length<=z.1+1;omega⟩
 ·refine bI rfl ?_;refine Ka6 ?_
  refine aQ Tryz.results172 (λ w hw=>?_)
  obtain⟨q1,q2,q3,q4⟩:=hx
  have e:z.2.2.1=gT l k:=by rw[q3,List.take_of_length_le (by omega)]
  rw[<- e]
  exact⟨(z.2.1,z.2.2.2),rfl,q2,hw.aT⟩
theorem kE{l:List Pr}{i:Nat}(hi:i<l.length):l.take (i+1)=l.take i++[l.getD i (⟨#[]⟩,0)]:=by
 rw[List.take_add_one,List.getElem?_eq_getElem hi,gQ hi];rfl
theorem Yy(p:Pr)(ha:Cl w a (dF l))(hc:l.length<=c)(hs:SA l)(hn:∀q∈l,q.1≠p.1)(hlen:l.length<=200000000000) :
    Calls Tryz.prog 171 #[.slice a l.length c,.agg ⟨[.string p.1,.int .u64 p.2]⟩] w (gi w (lC l p.1 p.2)):=by
  refine enter Tryz.func171 Tryz.ntmps171 rfl rfl (SF.s1 ha) ?_
  simp only[cP]
  refine J0 ?_;refine bP (λ x3=>?_);refine J1 ?_;refine F2 ?_;refine Gh ?_
  refine lE [5,6,8,9,10,11,12,13,14,15,16,17,18,19,20,21,22,23,24,25,26,27,28,29,30] (λ z:Nat×Option Addr×List Pr×Nat=>[(6,.int .i64 ((z.1:Nat):Int)),(5,.slice z.2.1 z.2.2.1.length z.2.2.2)]) (λ z=>z.1<=l.length/\z.2.2.1.length<=z.2.2.2/\z.2.2.1=l.take z.1/\z.2.2.1.length=z.1/\∀j,j<z.1->cZ (l.getD j (⟨#[]⟩,0)).1 p.1=true) (λ z=>[(x3,.cells ⟨[.string p.1,.int .u64 p.2]⟩ 137 (0,0))]) (λ _=>_) (λ z=>[⟨z.2.1,dF z.2.2.1,z.2.2.2,137,2⟩]) (λ z=>l.length-z.1) ((0,none,[],0)) (⟨Nat.zero_le _,Nat.le_refl _,rfl,rfl,λ j hj=>absurd hj (Nat.not_lt_zero j)⟩) (λ z f hx=>?_) (hw0:=λ w hw=>(hw.kT 137 2).back)
  dsimp only[fY,List.map,List.cons_append,List.nil_append]
  refine aR ?_;refine aR ?_;refine fK [0,1,2,3,4,5,6,7,8,9,10,11,12,13] ?_;refine gN ?_;refine lK ?_;refine Ba ?_;refine aS ?_
  (refine j3 12 (λ g12=>?_) (λ g12=>?_)<;>(first|refine fU ?_|(refine aS ?_)))
  all_goals ((first|refine fU ?_|(refine aS ?_));(first|refine fU ?_|(refine gW ?_));refine yo ?_;refine yo ?_;(first|refine fU ?_|(refine Zp ?_));refine iU ?_;refine dW ?_)
  all_goals
   refine aZ (λ c21=>?_) (λ c21=>?_)
   · try exact nv c21
     all_goals (refine oE ?_;refine wS ?_;refine nX ?_;refine To ?_;refine fF (λ x29=>?_);(refine aU (by(exact bJ.fA (Jw rf rf B5 rfl fin (by exact oX rfl) fE (by omega)) (by intro x;simp only[jQ];exact rfl))) (λ x30=>?_);try (refine eZ (λ h30=>?_)));refine J1 ?_;refine Kd0 ?_)
     all_goals
      refine gC ((z.1+1,x30.1,z.2.2.1++[l.getD z.1 (⟨#[]⟩,0)],x30.2)) ?_ (hw1:=λ w hw=>hw.back (hO:=by exact List.Sublist.refl _))
      · obtain⟨q1,q2,q3,q4,q5⟩:=hx
        refine⟨by show z.1+1<=l.length;omega,by simp only[List.length_append,List.length_cons,List.length_nil];omega,by rw[kE (by omega),<- q3],by simp only[List.length_append,List.length_cons,List.length_nil];omega,λ j hj=>?_⟩
        rcases Nat.lt_succ_iff_lt_or_eq.1 hj with h|rfl
        · exact q5 j h
        · exact c21
   · all_goals
      refine v7 (λ w hw=>hw.aAa (k:=z.2.2.1.length) (c:=c) fin hc) ?_
     all_goals (refine bI rfl ?_;refine J2 ?_;refine dI ?_;refine gP ?_;refine fK [0,1,4,5,6,2,3,7,8] ?_;refine Kb6 ?_;refine gN ?_;refine cJ (i:=6) (hq:=(Yn (k:=z.2.2.1.length) rf rf fE (by exact sB rfl) (by omega) (by omega))) (h:=?_);refine cW (h:=λ x35=>?_);((refine cX (i:=3) (hq:=(by(exact bJ.fA (Jw rf rf B5 rfl fin (by exact oX rfl) fE (by omega)) (by intro x;simp only[jQ];exact rfl)))) (h:=λ x36=>?_);try (refine fW (λ h36=>?_))));((refine cX (i:=7) (hq:=(by(exact bJ.fA (O0 (l2:=l.drop z.2.2.1.length) rf rf B5 (by simp;done) fin (by rw[List.length_drop]) (by exact oX rfl) fE (by omega)) (by intro x;simp only[jQ];exact rfl)))) (h:=λ x40=>?_);try (refine fW (λ h40=>?_))));refine J7 ?_)
     all_goals
      refine aQ Tryz.results171 (λ w hw=>?_)
      obtain⟨q1,q2,q3,q4,q5⟩:=hx
      have hp:Lh l p.1 z.1:=⟨q1,q5,by first|exact z5 hs c21|(intro j h1 h2;omega)⟩
      have e:lC l p.1 p.2=z.2.2.1++[(p.1,p.2)]++l.drop z.2.2.1.length:=by
       rw[Q6 hp λ hh=>?_,q4,<- q3,List.append_assoc]
       · rfl
       · exact hn _ (by rw[gQ hh.1];exact List.getElem_mem hh.1) hh.2
      have e2:(z.2.2.1++[(p.1,p.2)]++l.drop z.2.2.1.length).length=z.2.2.1.length+1+(l.length-z.2.2.1.length):=by rw[List.length_append,List.length_append,List.length_drop];rfl
      rw[e]
      exact⟨x40,by rw[e2];rfl,by rw[e2];exact h40,hw.aT⟩
theorem tX(k:ByteArray)(ha:Cl w a (dF l))(hlen:l.length<=200000000000) :
  Calls Tryz.prog 172 #[.slice a l.length c,.string k] w (Vr w (gT l k)):=(M4 k ha hlen).mono λ _ _ h=>h.Vv
theorem Mo(p:Pr)(ha:Cl w a (dF l))(hc:l.length<=c)(hs:SA l)(hn:∀q∈l,q.1≠p.1)(hlen:l.length<=200000000000) :
  Calls Tryz.prog 171 #[.slice a l.length c,.agg ⟨[.string p.1,.int .u64 p.2]⟩] w (Vr w (lC l p.1 p.2)):=(Yy p ha hc hs hn hlen).mono λ _ _ h=>h.Vv
theorem Hw{l:List Pr}{k:ByteArray}:∀q∈gT l k,q.1≠k:=λ q hq=>by simpa using(List.mem_filter.1 hq).2
theorem Cr(l:List Pr)(k:ByteArray):(gT l k).length<=l.length:=List.length_filter_le _ _
theorem Xy(k:ByteArray)(v:Int)(ha:Cl w a (dF l))(hlen:l.length<=200000000000) :
  Calls Tryz.prog 166 #[.slice a l.length c,.string k,.int .u64 v] w (Vr w (Lr l k v)):=by
 have hdl:=Cr l k
 refine enter Tryz.func166 Tryz.ntmps166 rfl rfl (SF.s1 ha) ?_
 simp only[cP]
 refine Ka7 ?_;refine aC (c0 (V:=.bool) (hc:=λ w1 hw=>kW (hw.cl fin) (by omega))) (λ x8 h8=>?_);refine mS ?_
 refine aZ (λ c9=>?_) (λ c9=>?_)
 ·refine cQ ?_
  refine aQ Tryz.results166 (λ w hw=>?_)
  rw[show Lr l k v=[] from if_neg λ hs=>by rw[h8.2 (oM.2 hs)] at c9;cases c9];exact⟨(none,0),rfl,Nat.le_refl _,(hw.Iw none).fin⟩
 ·have hs:SA l:=oM.1 (h8.1 (by simpa using c9))
  refine Ag ?_;refine aC (cF (hc:=λ w1 hw=>tX k (hw.cl fin) hlen)) (λ x12 h12=>?_);refine nX ?_;refine bD ?_;refine aC (cF (hc:=λ w1 hw=>Mo (k,v) (hw.cl fin) h12 (uI k hs) Hw (by omega))) (λ x16 h16=>?_);refine J1 ?_
  refine aQ Tryz.results166 (λ w hw=>?_)
  rw[show Lr l k v=lC (gT l k) k v from(if_pos hs).trans (L8 hs k v).symm];exact⟨x16,rfl,h16,hw.fin⟩
theorem Tw(k:ByteArray)(ha:Cl w a (dF l))(hlen:l.length<=200000000000) :
  Calls Tryz.prog 168 #[.slice a l.length c,.string k] w (Vr w (qN l k)):=by
 refine enter Tryz.func168 Tryz.ntmps168 rfl rfl (SF.s1 ha) ?_
 simp only[cP]
 refine Ka7 ?_;refine aC (c0 (V:=.bool) (hc:=λ w1 hw=>kW (hw.cl fin) (by omega))) (λ x6 h6=>?_);refine mS ?_
 refine aZ (λ c7=>?_) (λ c7=>?_)
 ·refine cQ ?_
  refine aQ Tryz.results168 (λ w hw=>?_)
  rw[show qN l k=[] from if_neg λ hs=>by rw[h6.2 (oM.2 hs)] at c7;cases c7];exact⟨(none,0),rfl,Nat.le_refl _,(hw.Iw none).fin⟩
 ·have hs:SA l:=oM.1 (h6.1 (by simpa using c7))
  refine Ag ?_;refine aC (cF (hc:=λ w1 hw=>tX k (hw.cl fin) hlen)) (λ x10 h10=>?_);refine J1 ?_
  refine aQ Tryz.results168 (λ w hw=>?_)
  rw[show qN l k=gT l k from if_pos hs];exact⟨x10,rfl,h10,hw.fin⟩
theorem ju(ha:Cl w a (dF l))(hlen:l.length<=200000000000) :
  Calls Tryz.prog 174 #[.slice a l.length c] w (Vr w (Bz l)):=by
 refine enter Tryz.func174 Tryz.ntmps174 rfl rfl (SF.s1 ha) ?_
 simp only[cP]
 refine cQ ?_;refine F2 ?_;refine Gh ?_
 refine lE [3,4,5,6,7,8,9,10,11,12,13,14,15,16,17,18,19,20,21,22] (λ z:Nat×Option Addr×List Pr×Nat=>[(4,.int .i64 ((z.1:Nat):Int)),(3,.slice z.2.1 z.2.2.1.length z.2.2.2)]) (λ z=>z.1<=l.length/\z.2.2.1.length<=z.2.2.2/\z.2.2.1=Bz (l.take z.1)/\z.2.2.1.length<=z.1/\SA z.2.2.1) (λ _=>_) (λ z=>[(z.2.1,dF z.2.2.1)]) (λ _=>_) (λ z=>l.length-z.1) ((0,none,[],0)) (⟨Nat.zero_le _,Nat.le_refl _,rfl,Nat.le_refl _,List.Pairwise.nil⟩) (λ z f hx=>?_) (hw0:=λ w hw=>(hw.Iw none).back)
 dsimp only[fY,List.map,List.cons_append,List.nil_append]
 refine Fz ?_;refine dI ?_;refine vV ?_
 refine aZ (λ c8=>?_) (λ c8=>?_)
 ·have hdl:=Cr z.2.2.1 (l.getD z.1 (⟨#[]⟩,0)).1
  refine oE ?_;refine eG [(0,[]),(1,[]),(2,[]),(3,[]),(4,[]),(5,[]),(7,[]),(8,[]),(9,[]),(10,[]),(6,[9,10]),(11,[]),(12,[])] ?_;refine gN ?_;refine aS ?_;refine gW ?_;refine mB ?_;refine gN ?_;refine Sr ?_;refine bC (i:=6) (hq:=(cF (hc:=λ w1 hw=>tX (l.getD z.1 (⟨#[]⟩,0)).1 (hw.cl fin) (by omega)))) (h:=λ x17 h17=>?_);refine bC (i:=11) (hq:=(cF (hc:=λ w1 hw=>Mo (l.getD z.1 (⟨#[]⟩,0)) (hw.cl fin) h17 (uI _ hx.2.2.2.2) Hw (by omega)))) (h:=λ x22 h22=>?_);refine J7 ?_;refine Kd0 ?_
  refine gC ((z.1+1,x22.1,lC (gT z.2.2.1 (l.getD z.1 (⟨#[]⟩,0)).1) (l.getD z.1 (⟨#[]⟩,0)).1 (l.getD z.1 (⟨#[]⟩,0)).2,x22.2)) ?_
  ·obtain⟨q1,q2,q3,q4,q5⟩:=hx
   have e:=L8 q5 (l.getD z.1 (⟨#[]⟩,0)).1 (l.getD z.1 (⟨#[]⟩,0)).2
   have hl:=vB (k:=(l.getD z.1 (⟨#[]⟩,0)).1) (v:=(l.getD z.1 (⟨#[]⟩,0)).2) q5
   rw[e] at h22
   refine⟨by show z.1+1<=l.length;omega,by show(lC _ _ _).length<=_;rw[e];exact h22,?_,?_,?_⟩
   ·show lC _ _ _=_
    rw[e,kE (by omega),uD,<- q3]
   ·show(lC _ _ _).length<=z.1+1
    rw[e,hl];split<;>omega
   ·show SA (lC _ _ _)
    rw[e];exact uZ q5
 ·refine bI rfl ?_;refine Ka6 ?_
  refine aQ Tryz.results174 (λ w hw=>?_)
  obtain⟨q1,q2,q3,q4,q5⟩:=hx
  have e:z.2.2.1=Bz l:=by rw[q3,List.take_of_length_le (by omega)]
  rw[<- e]
  exact⟨(z.2.1,z.2.2.2),rfl,q2,hw.fin⟩
end
end

end Go.Proofs.YtadnboagdhcedaaGreatDoor
