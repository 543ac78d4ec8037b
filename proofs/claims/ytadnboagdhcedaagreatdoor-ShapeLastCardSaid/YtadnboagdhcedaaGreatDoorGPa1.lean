/- Pairs: valid lists are maps. -/
import Derived.Test.YtadnboagdhcedaaGreatDoorGNode2
import Derived.Lib.Bytealg
import Derived.Laws.Externs

set_option linter.unusedSimpArgs false
set_option linter.unusedVariables false
namespace Go.Proofs.YtadnboagdhcedaaGreatDoor
section
open Go.RowKit Go.Ct
theorem o5{a b c:ByteArray}(h:cW a b=true)(h2:cW c b=false):cW a c=true:=by
 cases hb:cW b c with
 | true=>exact jW h hb
 | false=>have:=oN hb h2;subst this;exact h
theorem pu{a b c:ByteArray}(h:cW b a=false)(h2:cW c b=false):cW c a=false:=by
 cases hc:cW c a with
 | false=>rfl
 | true=>have:=o5 hc h;rw[this] at h2;cases h2
theorem pA{a b:ByteArray}(h:cW a b=true):a≠b:=λ e=>by subst e;rw[xD] at h;cases h
theorem U6{a b:ByteArray}(h:cW b a=false)(hn:a≠b):cW a b=true:=by
 cases hb:cW a b with
 | true=>rfl
 | false=>exact absurd (oN hb h) hn
def SA(l:List Pr):Prop:=l.Pairwise λ p q=>cW p.1 q.1=true
instance (l:List Pr):Decidable (SA l):=inferInstanceAs (Decidable (l.Pairwise _))
theorem Q5{l:List Pr}(h:ir l):∀d i,i+d+1<l.length->cW (l.getD i (⟨#[]⟩,0)).1 (l.getD (i+d+1) (⟨#[]⟩,0)).1=true
 | 0,i,hi=>by have:=h (i+1) (by omega) hi;rwa [Nat.add_sub_cancel] at this
 | d+1,i,hi=>jW (Q5 h d i (by omega)) (by have:=h (i+(d+1)+1) (by omega) hi;rwa [Nat.add_sub_cancel] at this)
theorem gF{l:List Pr}{i:Nat}(h:i<l.length):l.getD i (⟨#[]⟩,0)=l[i]:=by simp[List.getD,List.getElem?_eq_getElem h]
theorem nX{l:List Pr}:ir l↔SA l:=by
 constructor
 ·intro h
  refine List.pairwise_iff_getElem.2 λ i j hi hj hij=>?_
  have:=Q5 h (j-i-1) i (by omega)
  rw[show i+(j-i-1)+1=j by omega,gF hi,gF hj] at this
  exact this
 ·intro h i h1 hi
  rw[gF (by omega),gF hi]
  exact List.pairwise_iff_getElem.1 h (i-1) i (by omega) hi (by omega)
def pB:List Pr->ByteArray->Option Int
 | [],_=>none
 | p::l,k=>if p.1=k then some p.2 else pB l k
theorem oD{l:List Pr}{k:ByteArray}(h:∀p∈l,p.1≠k):pB l k=none:=by
 induction l with
 | nil=>rfl
 | cons p l ih=>exact(if_neg (h p (.head _))).trans (ih λ q hq=>h q (.tail _ hq))
theorem Ye:∀{l m:List Pr},SA l->SA m->(∀k,pB l k=pB m k)->l=m
 | [],[],_,_,_=>rfl
 | [],q::m,_,_,h=>by have:=h q.1;simp[pB] at this
 | p::l,[],_,_,h=>by have:=h p.1;simp[pB] at this
 | p::l,q::m,h1,h2,h=>by
  have h1':=List.pairwise_cons.1 h1
  have h2':=List.pairwise_cons.1 h2
  have e1:cW p.1 q.1=false:=by
   cases hb:cW p.1 q.1 with
   | false=>rfl
   | true =>
    have:pB (q::m) p.1=none:=oD λ x hx=>by
     rcases List.mem_cons.1 hx with rfl|hx
     ·exact(pA hb).symm
     ·exact(pA (jW hb (h2'.1 x hx))).symm
    have h':=h p.1
    rw[this] at h';simp[pB] at h'
  have e2:cW q.1 p.1=false:=by
   cases hb:cW q.1 p.1 with
   | false=>rfl
   | true =>
    have:pB (p::l) q.1=none:=oD λ x hx=>by
     rcases List.mem_cons.1 hx with rfl|hx
     ·exact(pA hb).symm
     ·exact(pA (jW hb (h1'.1 x hx))).symm
    have h':=h q.1
    rw[this] at h';simp[pB] at h'
  have ek:=oN e1 e2
  have ev:p.2=q.2:=by have:=h p.1;simpa[pB,ek] using this
  have et:l=m:=Ye h1'.2 h2'.2 λ k=>by
   by_cases hk:p.1=k
   ·subst hk
    rw[oD λ x hx=>(pA (h1'.1 x hx)).symm,oD λ x hx=>by rw[ek];exact(pA (h2'.1 x hx)).symm]
   ·have:=h k
    rw[pB,pB,if_neg hk,if_neg (by rw[<- ek];exact hk)] at this
    exact this
  rw[et,show p=q from Prod.ext ek ev]
def kS:List Pr->ByteArray->Int->List Pr
 | [],k,v=>[(k,v)]
 | p::l,k,v=>if cW p.1 k=true then p::kS l k v else if p.1=k then(k,v)::l else(k,v)::p::l
def gO(l:List Pr)(k:ByteArray):List Pr:=l.filter λ p=>decide (p.1≠k)
theorem xK{l:List Pr}{k:ByteArray}{v:Int}:∀{q:Pr},q∈kS l k v->q=(k,v)∨q∈l:=by
 induction l with
 | nil=>intro q h;rw[kS,List.mem_singleton] at h;exact .inl h
 | cons p l ih =>
  intro q h
  rw[kS] at h
  split at h
  ·rcases List.mem_cons.1 h with rfl|h
   ·exact .inr (.head _)
   ·exact(ih h).imp id (.tail _)
  ·split at h
   ·exact(List.mem_cons.1 h).imp id (.tail _)
   ·exact List.mem_cons.1 h
theorem uC{k:ByteArray}{v:Int}:∀{l:List Pr},SA l->SA (kS l k v)
 | [],_=>List.pairwise_singleton _ _
 | p::l,h=>by
  have h':=List.pairwise_cons.1 h
  rw[kS]
  split
  ·next hlt =>
   refine List.pairwise_cons.2 ⟨λ q hq=>?_,uC h'.2⟩
   rcases xK hq with rfl|hq
   ·exact hlt
   ·exact h'.1 q hq
  ·next hlt =>
   split
   ·next he =>
    subst he
    exact List.pairwise_cons.2 ⟨λ q hq=>h'.1 q hq,h'.2⟩
   ·next hne =>
    have hkp:cW k p.1=true:=U6 (by simpa using hlt) (λ e=>hne e.symm)
    refine List.pairwise_cons.2 ⟨λ q hq=>?_,h⟩
    rcases List.mem_cons.1 hq with rfl|hq
    ·exact hkp
    ·exact jW hkp (h'.1 q hq)
theorem Dt{k:ByteArray}{v:Int}(j:ByteArray):∀{l:List Pr},SA l->pB (kS l k v) j=if j=k then some v else pB l j
 | [],_=>by
  simp only[kS,pB]
  by_cases h:j=k
  ·rw[if_pos h,if_pos h.symm]
  ·rw[if_neg h,if_neg λ e=>h e.symm]
 | p::l,h=>by
  have h':=List.pairwise_cons.1 h
  have ih:=Dt (k:=k) (v:=v) j h'.2
  rw[kS]
  split
  ·next hlt =>
   rw[pB,ih,pB]
   by_cases hj:j=k
   ·rw[if_pos hj,if_pos hj,if_neg λ e=>pA hlt (e.trans hj)]
   ·rw[if_neg hj,if_neg hj]
  ·split
   ·next he =>
    rw[pB,pB]
    by_cases hj:j=k
    ·rw[if_pos hj,if_pos hj.symm]
    ·rw[if_neg hj,if_neg λ e=>hj e.symm,if_neg λ e=>hj (e.symm.trans he)]
   ·rw[pB]
    by_cases hj:j=k
    ·rw[if_pos hj,if_pos hj.symm]
    ·rw[if_neg hj,if_neg λ e=>hj e.symm]
theorem tP{l:List Pr}(k:ByteArray)(h:SA l):SA (gO l k):=h.sublist List.filter_sublist
theorem Sx(l:List Pr)(k j:ByteArray):pB (gO l k) j=if j=k then none else pB l j:=by
 unfold gO
 induction l with
 | nil=>simp[pB]
 | cons p l ih =>
  rw[List.filter_cons]
  by_cases hp:p.1=k
  ·rw[if_neg (by simp[hp]),ih,pB]
   by_cases hj:j=k
   ·rw[if_pos hj,if_pos hj]
   ·rw[if_neg hj,if_neg hj,if_neg λ e=>hj (e.symm.trans hp)]
  ·rw[if_pos (by simp[hp]),pB,ih,pB]
   by_cases hj:j=k
   ·rw[if_pos hj,if_pos hj,if_neg λ e=>hp (e.trans hj)]
   ·rw[if_neg hj,if_neg hj]
theorem Jj{l:List Pr}(h:SA l)(k:ByteArray)(v:Int):kS (gO l k) k v=kS l k v :=
 Ye (uC (tP k h)) (uC h) λ j=>by
  rw[Dt j (tP k h),Dt j h,Sx]
  by_cases hj:j=k
  ·rw[if_pos hj,if_pos hj]
  ·rw[if_neg hj,if_neg hj,if_neg hj]
structure Kl(l:List Pr)(k:ByteArray)(i:Nat):Prop where
 le:i<=l.length
 lo:∀j,j<i->cW (l.getD j (⟨#[]⟩,0)).1 k=true
 hi:∀j,i<=j->j<l.length->cW (l.getD j (⟨#[]⟩,0)).1 k=false
theorem Kl.tl{p:Pr}{l:List Pr}{k:ByteArray}{i:Nat}(h:Kl (p::l) k (i+1)):cW p.1 k=true/\Kl l k i :=
 ⟨h.lo 0 (by omega),⟨by have:=h.le;simp at this;omega,λ j hj=>h.lo (j+1) (by omega),λ j h1 h2=>h.hi (j+1) (by omega) (by simp;omega)⟩⟩
theorem Pf{k:ByteArray}{v:Int}:∀{l:List Pr} {i:Nat},Kl l k i->¬(i<l.length/\(l.getD i (⟨#[]⟩,0)).1=k)->kS l k v=l.take i++(k,v)::l.drop i
 | [],i,h,_=>by have:=h.le;simp at this;subst this;rfl
 | p::l,0,h,hn=>by
  have:cW p.1 k=false:=h.hi 0 (Nat.le_refl _) (by simp)
  rw[kS,if_neg (by rw[this];decide),if_neg λ e:p.1=k=>hn ⟨by simp,e⟩]
  rfl
 | p::l,i+1,h,hn=>by
  rw[kS,if_pos h.tl.1,Pf h.tl.2 λ hh=>hn ⟨by simp;omega,hh.2⟩]
  rfl
theorem X8{k:ByteArray}:∀{l:List Pr} {v:Int},pB l k=some v->∃i,i<l.length/\(l.getD i (⟨#[]⟩,0)).1=k
 | [],_,h=>by cases h
 | p::l,v,h=>by
  rw[pB] at h
  split at h
  ·next he=>exact⟨0,by simp,he⟩
  ·obtain⟨i,h1,h2⟩:=X8 h
   exact⟨i+1,by simp;omega,h2⟩
theorem uD{k:ByteArray}{v:Int}:∀{l:List Pr},SA l->(kS l k v).length=if(pB l k).isSome=true then l.length else l.length+1
 | [],_=>rfl
 | p::l,h=>by
  have h':=List.pairwise_cons.1 h
  rw[kS]
  split
  ·next hlt =>
   rw[List.length_cons,uD h'.2,pB,if_neg (pA hlt)]
   split<;>rfl
  ·next hlt =>
   split
   ·next he=>rw[pB,if_pos he];rfl
   ·next hne =>
    have hkp:cW k p.1=true:=U6 (by simpa using hlt) (λ e=>hne e.symm)
    rw[pB,if_neg hne,oD λ q hq=>(pA (jW hkp (h'.1 q hq))).symm]
    rfl
theorem Jo{k:ByteArray}:∀{l:List Pr},SA l->(gO l k).length=if(pB l k).isSome=true then l.length-1 else l.length
 | [],_=>rfl
 | p::l,h=>by
  have h':=List.pairwise_cons.1 h
  have ih:=Jo (k:=k) h'.2
  unfold gO at ih ⊢
  rw[List.filter_cons]
  by_cases hp:p.1=k
  ·have hn:∀q∈l,q.1≠k:=λ q hq=>by rw[<- hp];exact(pA (h'.1 q hq)).symm
   rw[if_neg (by simp[hp]),pB,if_pos hp,List.filter_eq_self.2 λ q hq=>by simpa using hn q hq]
   rfl
  ·rw[if_pos (by simp[hp]),List.length_cons,ih,pB,if_neg hp]
   split
   ·next hs =>
    have:1<=l.length:=by
     cases hf:pB l k with
     | none=>rw[hf] at hs;cases hs
     | some v=>obtain⟨i,hi,_⟩:=X8 hf;omega
    rw[List.length_cons];omega
   ·rfl
def A4(l:List Pr):List Pr:=l.foldl (λ acc p=>kS acc p.1 p.2) []
theorem sY(l:List Pr)(p:Pr):A4 (l++[p])=kS (A4 l) p.1 p.2:=by unfold A4;rw[List.foldl_append];rfl
theorem Km{α:Type}{Q:List α->Prop}(h0:Q [])(h1:∀l x,Q l->Q (l++[x]))(l:List α):Q l:=by
 have key:∀m:List α,Q m.reverse:=λ m=>by
  induction m with
  | nil=>exact h0
  | cons x m ih=>rw[List.reverse_cons];exact h1 _ _ ih
 have:=key l.reverse
 rwa [List.reverse_reverse] at this
theorem W2(l:List Pr):SA (A4 l):=by
 induction l using Km with
 | h0=>exact List.Pairwise.nil
 | h1 l x ih=>rw[sY];exact uC ih
theorem Qt(l:List Pr):(A4 l).length<=l.length:=by
 induction l using Km with
 | h0=>exact Nat.le_refl _
 | h1 l x ih =>
  rw[sY,uD (W2 l),List.length_append,List.length_singleton]
  split<;>omega
end

/- Pairs: comparing, searching; Find, Put, Drop. -/
end Go.Proofs.YtadnboagdhcedaaGreatDoor
namespace Go.Ct
section
open Go Go.RowKit
variable{P:Program}{S:List (Nat×Value)}{w0 w:World}{M:List Nat}{H:List (Nat×Obj)}{A F:Fr}{O:List Ow}
theorem bI{G:World->Prop}{d:Nat}{ty:TypeId}{pos:String}{af:Array Edge}{gd:Option (Nat×Bool)}{x:Operand}{vs:List Value}{k:Nat}{v:Value}(hx:ev S x=.tuple ⟨vs⟩)(hk:vs[k]?=some v):aJ P S G ⟨some d,.extract x k,ty,pos,af,gd⟩ v:=⟨λ w _=>by
 simp[execOp,hx,Instr.extract,hk]⟩
end
end Go.Ct
namespace Go.Proofs.YtadnboagdhcedaaGreatDoor
section
open Go.RowKit Go.Ct
theorem u5{l:List Pr}{k:ByteArray}{h:Nat}(hs:SA l)(hc:cW (l.getD h (⟨#[]⟩,0)).1 k=false)(j:Nat)(h1:h<=j)(hj:j<l.length):cW (l.getD j (⟨#[]⟩,0)).1 k=false:=by
 rcases Nat.lt_or_eq_of_le h1 with h2|rfl
 ·have:=List.pairwise_iff_getElem.1 hs h j (by omega) hj h2
  rw[<- gF,<- gF] at this
  exact pu hc (zW this)
 ·exact hc
end

/- Pairs: Find, Put, Drop of the program. -/
end Go.Proofs.YtadnboagdhcedaaGreatDoor
namespace Go.Ct
section
open Go Go.RowKit
section
variable{P:Program}{n:Nat}{S:List (Nat×Value)}
variable{w0 w w':World}{M:List Nat}{H H':List (Nat×Obj)}{A F F':Fr}{O O':List Ow}{G:World->Prop}
variable{d:Nat}{ty:TypeId}{pos:String}{af:Array Edge}{gd:Option (Nat×Bool)}{dst:Option Nat}{x y z:Operand}{t t2 e:TypeId}{p a:Option Addr}{i m k c c2:Nat}
def su(a:Option Addr)(k c:Nat):Option Addr:=if c=k then a else a.map (·.add (2*k))
theorem Xr(hx:ev S x=.slice a m c)(hy:ev S y=.int .i64 ((k:Nat):Int))(ht:P.underlying t=some (.slice e))(hs:(P.info? e).map (·.size)=some 2)(hk:k<=m)(hmc:m<=c) :
  aJ P S G ⟨some d,.slice t x (some y) none none,ty,pos,af,gd⟩ (.slice (su a k c) (m-k) (c-k)):=⟨λ w _=>by
 have he:P.elem t=e:=by simp[Program.elem,ht]
 have ht':P.underlying t=some (.slice (P.elem t)):=by rw[he];exact ht
 cases hi:P.info? e with
 | none=>simp[hi] at hs
 | some inf =>
  have hs':inf.size=2:=by simpa[hi] using hs
  have hr:=run_slice_l (P:=P) w t a m c ht' .i64 (k:Int) (by omega) (by omega)
  refine W4 (v:=.slice (su a k c) (m-k) (c-k)) ?_
  simp[hx,hy,run_sliceAt_slice w t _ _ _ _ ht',hr,he,sizeOf,typeInfo,hi,hs',sliced,su,Nat.mul_comm]⟩
theorem SF.wz(h:SF w0 M H A F O w){l:List Pr}(hf:rK A F [] a (cZ l))(hc:l.length<=c):SF w0 M H ((su a k c,cZ (l.drop k))::A) F O w:=by
 have e:cZ (l.drop k)=(cZ l).drop (2*k):=by rw[K9]
 rw[e]
 refine h.Xv hf (λ hn=>?_) (λ h=>by rw[h];simp) (λ w hc'=>?_)
 ·unfold su
  split
  ·rfl
  ·cases a with
   | none=>rfl
   | some a =>
    obtain⟨b,o,s⟩:=a
    simp only[Option.map_some,dC,Addr.add]
    split<;>rfl
 ·unfold su
  split
  ·rename_i heq
   have:(cZ l).drop (2*k)=[]:=List.drop_eq_nil_of_le (by rw[fE];omega)
   rw[this]
   exact Cl.nil _ _
  ·exact hc'.drop _
end
end
end Go.Ct
namespace Go.Proofs.YtadnboagdhcedaaGreatDoor
section
open Go.RowKit Go.Ct
section
variable{l:List Pr}{a:Option Addr}{c:Nat}{k:ByteArray}{v:Int}{w:World}
def dA(l:List Pr)(k:ByteArray):Option Int:=if SA l then pB l k else none
def Jm(l:List Pr)(k:ByteArray)(v:Int):List Pr:=if SA l then kS l k v else []
def pR(l:List Pr)(k:ByteArray):List Pr:=if SA l then gO l k else []
def fk(w:World)(m:List Pr)(e:Ending)(w':World):Prop:=∃x:Option Addr×Nat,e=.returned (.slice x.1 m.length x.2)/\m.length<=x.2/\SF w [] [] [] [] [⟨x.1,cZ m,x.2,137,2⟩] w'
def T8(w:World)(m:List Pr)(e:Ending)(w':World):Prop:=∃x:Option Addr×Nat,e=.returned (.slice x.1 m.length x.2)/\m.length<=x.2/\SF w [] [] [] [(x.1,cZ m)] [] w'
theorem fk.du{w:World}{m:List Pr}{e:Ending}{w':World}(h:fk w m e w'):T8 w m e w':=by
 obtain⟨x,h1,h2,h3⟩:=h
 exact⟨x,h1,h2,h3.freeze .head (by simp)⟩
end
end

/- Pairs: the reference's Find, Put, Drop, Of, Equal. -/
section
open Go.RowKit Go.Ct
section
variable{l:List Pr}{a:Option Addr}{c:Nat}{k:ByteArray}{v:Int}{w:World}
theorem p9{l:List Pr}{k:ByteArray}:∀{i:Nat},i<l.length->(∀j,j<i->(l.getD j (⟨#[]⟩,0)).1≠k)->(l.getD i (⟨#[]⟩,0)).1=k->pB l k=some (l.getD i (⟨#[]⟩,0)).2:=by
 induction l with
 | nil=>intro i h;simp at h
 | cons p l ih =>
  intro i h hn he
  cases i with
  | zero=>exact if_pos he
  | succ i =>
   refine(if_neg (hn 0 (by omega))).trans ?_
   exact ih (by simp at h;omega) (λ j hj=>hn (j+1) (by omega)) he
theorem ef{l:List Pr}{k:ByteArray}(h:∀j,j<l.length->(l.getD j (⟨#[]⟩,0)).1≠k):pB l k=none:=oD λ p hp=>by
 obtain⟨j,hj,rfl⟩:=List.getElem_of_mem hp
 have:=h j hj
 rwa [gF hj] at this
theorem Fv(k:ByteArray)(ha:Cl w a (cZ l))(hlen:l.length<=1099511627775) :
  Calls Tryz.prog 121 #[.slice a l.length c,.string k] w λ e w'=>e=.returned (.tuple #[.int .u64 ((dA l k).getD 0),.bool (dA l k).isSome])/\St w [] [] w':=by
 refine enter Tryz.func121 Tryz.ntmps121 rfl rfl (SF.s1 ha) ?_
 simp only[cR]
 refine Es ?_;refine aS ?_;refine K5 ?_
 refine eS [4,5,6,7,8,9,10,11,12,13,14,15,16,17,18,19,20,21,22,23,24,25,26,27,28] (λ k=>[(6,.int .i64 ((k:Nat):Int))]) (λ i=>i<=l.length/\(i≠0->SA l)/\∀j,j<i->(l.getD j (⟨#[]⟩,0)).1≠k) (λ k=>l.length-k) (0) (⟨Nat.zero_le _,λ h=>absurd rfl h,λ j hj=>absurd hj (Nat.not_lt_zero j)⟩) ?_ (λ i f hx=>?_)
 ·repeat (first|exact bB _|refine aW (by exact rfl) ?_)
 dsimp only[gG,List.map,List.cons_append,List.nil_append]
 refine Gi ?_;refine dF ?_;refine Gq ?_
 (refine eR 11 (λ g11=>?_) (λ g11=>?_)<;>refine Ka1 ?_)
 all_goals ((first|refine aH ?_|(refine aF ?_;refine aC (c0 (V:=.bool) (hc:=λ w1 hw=>kR (hw.cl fin) (by omega))) (λ x13 h13=>?_)));refine cU ?_;refine aI ?_)
 all_goals
 refine aZ (λ c14=>?_) (λ c14=>?_)
 ·try exact nv c14
  all_goals (refine oW ?_;refine iF ?_;refine iM ?_;refine J3 ?_;refine aB ?_;refine ld ?_;refine aI ?_)
  all_goals
   refine aZ (λ c23=>?_) (λ c23=>?_)
   ·refine iF ?_;refine iM ?_;refine J3 ?_;refine J8 ?_
    refine bJ Tryz.results121 (λ w hw=>?_)
    rw[show dA l k=some (l.getD i (⟨#[]⟩,0)).2 from(if_pos (nX.1 (h13.1 (by simp_all)))).trans (p9 (by omega) hx.2.2 c23)];exact⟨rfl,hw.done⟩
   ·refine lC ?_;refine Ba ?_
    refine dJ (i+1) ?_ ?_ ?_
    ·omega
    ·repeat' (first|exact bB _|refine aW ?_ ?_)
     exact rfl
    ·exact⟨by omega,λ _=>nX.1 (h13.1 (by simp_all)),λ j hj=>by rcases Nat.lt_succ_iff_lt_or_eq.1 hj with h|rfl;exact hx.2.2 j h;assumption⟩
 ·all_goals (refine bG rfl ?_;refine Es ?_)
  all_goals
   refine bJ Tryz.results121 (λ w hw=>?_)
   first
   | (rw[show dA l k=none from if_neg λ hs=>by have:=h13.2 (nX.2 hs);simp_all];exact⟨rfl,hw.done⟩)
   | (rw[show dA l k=none by unfold dA;split;exact ef λ j hj=>hx.2.2 j (by omega);rfl];exact⟨rfl,hw.done⟩)
theorem G3{l:List Pr}{i:Nat}(hi:i<l.length)(k:ByteArray):(l.take (i+1)).filter (λ p=>decide (p.1≠k))=(l.take i).filter (λ p=>decide (p.1≠k))++(if(l.getD i (⟨#[]⟩,0)).1≠k then [l.getD i (⟨#[]⟩,0)] else []):=by
 rw[List.take_add_one,List.getElem?_eq_getElem hi,gF hi,List.filter_append]
 congr 1
 by_cases h:l[i].1=k<;>simp[h]
theorem Da{l:List Pr}{i:Nat}(hi:i<l.length)(k:ByteArray):gO (l.take (i+1)) k=if(l.getD i (⟨#[]⟩,0)).1=k then gO (l.take i) k else gO (l.take i) k++[l.getD i (⟨#[]⟩,0)]:=by
 unfold gO
 rw[G3 hi k]
 by_cases h:(l.getD i (⟨#[]⟩,0)).1=k
 ·rw[if_neg λ hn=>hn h,if_pos h,List.append_nil]
 ·rw[if_pos h,if_neg h]
theorem Kr(k:ByteArray)(ha:Cl w a (cZ l))(hlen:l.length<=200000000000) :
  Calls Tryz.prog 172 #[.slice a l.length c,.string k] w (fk w (gO l k)):=by
 refine enter Tryz.func172 Tryz.ntmps172 rfl rfl (SF.s1 ha) ?_
 simp only[cR]
 refine cN ?_;refine Jb ?_;refine K5 ?_
 refine mP [5,6,7,8,9,10,11,12,13,14,15,16,17,18,19,20,21,22,23,24,25,26] (λ z:Nat×Option Addr×List Pr×Nat=>[(6,.int .i64 ((z.1:Nat):Int)),(5,.slice z.2.1 z.2.2.1.length z.2.2.2)]) (λ z=>z.1<=l.length/\z.2.2.1.length<=z.2.2.2/\z.2.2.1=gO (l.take z.1) k/\z.2.2.1.length<=z.1) (λ _=>_) (λ _=>_) (λ z=>[⟨z.2.1,cZ z.2.2.1,z.2.2.2,137,2⟩]) (λ z=>l.length-z.1) ((0,none,[],0)) (⟨Nat.zero_le _,Nat.le_refl _,rfl,Nat.le_refl _⟩) (λ z f hx=>?_) (hw0:=λ w hw=>(hw.lI 137 2).back)
 dsimp only[gG,List.map,List.cons_append,List.nil_append]
 refine Gi ?_;refine dF ?_;refine vR ?_
 refine aZ (λ c10=>?_) (λ c10=>?_)
 ·refine oW ?_;refine iF ?_;refine iM ?_;refine J3 ?_;refine aB ?_;refine j6 ?_;refine aI ?_
  refine aZ (λ c19=>?_) (λ c19=>?_)
  ·refine yB ?_;refine nB ?_;refine Ue ?_;refine fT (λ x25=>?_);(refine eC (λ x26=>?_);try (refine eX (λ h26=>?_)));refine J1 ?_;refine eV ?_;refine Ba ?_
   refine gI ((by exact(z.1+1,x26.1,z.2.2.1++[l.getD z.1 (⟨#[]⟩,0)],x26.2))) ?_ (hw1:=λ w hw=>by exact hw.back (hO:=by exact List.Sublist.refl _))
   ·obtain⟨q1,q2,q3,q4⟩:=hx
    have hdt:=Da (l:=l) (i:=z.1) (by omega) k
    first
    | exact⟨by show z.1+1<=l.length;omega,by simp only[List.length_append,List.length_cons,List.length_nil];omega,by rw[if_neg (by assumption),<- q3] at hdt;exact hdt.symm,by simp only[List.length_append,List.length_cons,List.length_nil];omega⟩
    | exact⟨by show z.1+1<=l.length;omega,q2,by rw[if_pos (by assumption),<- q3] at hdt;exact hdt.symm,by show z.2.2.1.length<=z.1+1;omega⟩
  ·refine lC ?_;refine Ba ?_
   refine gI ((by exact(z.1+1,z.2.1,z.2.2.1,z.2.2.2))) ?_ (hw1:=λ w hw=>by exact hw.back (hO:=by exact List.Sublist.refl _))
   ·obtain⟨q1,q2,q3,q4⟩:=hx
    have hdt:=Da (l:=l) (i:=z.1) (by omega) k
    first
    | exact⟨by show z.1+1<=l.length;omega,by simp only[List.length_append,List.length_cons,List.length_nil];omega,by rw[if_neg (by assumption),<- q3] at hdt;exact hdt.symm,by simp only[List.length_append,List.length_cons,List.length_nil];omega⟩
    | exact⟨by show z.1+1<=l.length;omega,q2,by rw[if_pos (by assumption),<- q3] at hdt;exact hdt.symm,by show z.2.2.1.length<=z.1+1;omega⟩
 ·refine bG rfl ?_;refine Ka6 ?_
  refine aN Tryz.results172 (λ w hw=>?_)
  obtain⟨q1,q2,q3,q4⟩:=hx
  have e:z.2.2.1=gO l k:=by rw[q3,List.take_of_length_le (by omega)]
  rw[<- e]
  exact⟨(z.2.1,z.2.2.2),rfl,q2,hw.aU⟩
theorem jZ{l:List Pr}{i:Nat}(hi:i<l.length):l.take (i+1)=l.take i++[l.getD i (⟨#[]⟩,0)]:=by
 rw[List.take_add_one,List.getElem?_eq_getElem hi,gF hi];rfl
theorem Y7(p:Pr)(ha:Cl w a (cZ l))(hc:l.length<=c)(hs:SA l)(hn:∀q∈l,q.1≠p.1)(hlen:l.length<=200000000000) :
    Calls Tryz.prog 171 #[.slice a l.length c,.agg ⟨[.string p.1,.int .u64 p.2]⟩] w (fk w (kS l p.1 p.2)):=by
  refine enter Tryz.func171 Tryz.ntmps171 rfl rfl (SF.s1 ha) ?_
  simp only[cR]
  refine J0 ?_;refine bP (λ x3=>?_);refine J1 ?_;refine Jb ?_;refine K5 ?_
  refine mP [5,6,8,9,10,11,12,13,14,15,16,17,18,19,20,21,22,23,24,25,26,27,28,29,30] (λ z:Nat×Option Addr×List Pr×Nat=>[(6,.int .i64 ((z.1:Nat):Int)),(5,.slice z.2.1 z.2.2.1.length z.2.2.2)]) (λ z=>z.1<=l.length/\z.2.2.1.length<=z.2.2.2/\z.2.2.1=l.take z.1/\z.2.2.1.length=z.1/\∀j,j<z.1->cW (l.getD j (⟨#[]⟩,0)).1 p.1=true) (λ z=>[(x3,.cells ⟨[.string p.1,.int .u64 p.2]⟩ 137 (0,0))]) (λ _=>_) (λ z=>[⟨z.2.1,cZ z.2.2.1,z.2.2.2,137,2⟩]) (λ z=>l.length-z.1) ((0,none,[],0)) (⟨Nat.zero_le _,Nat.le_refl _,rfl,rfl,λ j hj=>absurd hj (Nat.not_lt_zero j)⟩) (λ z f hx=>?_) (hw0:=λ w hw=>(hw.lI 137 2).back)
  dsimp only[gG,List.map,List.cons_append,List.nil_append]
  refine aS ?_;refine aS ?_;refine gB [0,1,2,3,4,5,6,7,8,9,10,11,12,13] ?_;refine gM ?_;refine oI ?_;refine Df ?_;refine aT ?_
  (refine ey 12 (λ g12=>?_) (λ g12=>?_)<;>(first|refine fL ?_|(refine aT ?_)))
  all_goals ((first|refine fL ?_|(refine aT ?_));(first|refine fL ?_|(refine gL ?_));refine tm ?_;refine tm ?_;(first|refine fL ?_|(refine Wn ?_));refine iZ ?_;refine dV ?_)
  all_goals
   refine aZ (λ c21=>?_) (λ c21=>?_)
   · try exact nv c21
     all_goals (refine oW ?_;refine yB ?_;refine nB ?_;refine Ue ?_;refine fT (λ x29=>?_);(refine aR (by(exact bH.fG (Iw rf rf A5 rfl fin (by exact nQ rfl) fK (by omega)) (by intro x;simp only[jH];exact rfl))) (λ x30=>?_);try (refine eX (λ h30=>?_)));refine J1 ?_;refine eV ?_;refine Ba ?_)
     all_goals
      refine gI ((z.1+1,x30.1,z.2.2.1++[l.getD z.1 (⟨#[]⟩,0)],x30.2)) ?_ (hw1:=λ w hw=>hw.back (hO:=by exact List.Sublist.refl _))
      · obtain⟨q1,q2,q3,q4,q5⟩:=hx
        refine⟨by show z.1+1<=l.length;omega,by simp only[List.length_append,List.length_cons,List.length_nil];omega,by rw[jZ (by omega),<- q3],by simp only[List.length_append,List.length_cons,List.length_nil];omega,λ j hj=>?_⟩
        rcases Nat.lt_succ_iff_lt_or_eq.1 hj with h|rfl
        · exact q5 j h
        · exact c21
   · all_goals
      refine nt (λ w hw=>hw.wz (k:=z.2.2.1.length) (c:=c) fin hc) ?_
     all_goals (refine bG rfl ?_;refine J2 ?_;refine dF ?_;refine gK ?_;refine gB [0,1,4,5,6,2,3,7,8] ?_;refine Kb5 ?_;refine gM ?_;refine cJ (i:=6) (hq:=(Xr (k:=z.2.2.1.length) rf rf fK (by exact rM rfl) (by omega) (by omega))) (h:=?_);refine cQ (h:=λ x35=>?_);((refine dG (i:=3) (hq:=(by(exact bH.fG (Iw rf rf A5 rfl fin (by exact nQ rfl) fK (by omega)) (by intro x;simp only[jH];exact rfl)))) (h:=λ x36=>?_);try (refine fP (λ h36=>?_))));((refine dG (i:=7) (hq:=(by(exact bH.fG (Mw (l2:=l.drop z.2.2.1.length) rf rf A5 (by simp;done) fin (by rw[List.length_drop]) (by exact nQ rfl) fK (by omega)) (by intro x;simp only[jH];exact rfl)))) (h:=λ x40=>?_);try (refine fP (λ h40=>?_))));refine J7 ?_)
     all_goals
      refine aN Tryz.results171 (λ w hw=>?_)
      obtain⟨q1,q2,q3,q4,q5⟩:=hx
      have hp:Kl l p.1 z.1:=⟨q1,q5,by first|exact u5 hs c21|(intro j h1 h2;omega)⟩
      have e:kS l p.1 p.2=z.2.2.1++[(p.1,p.2)]++l.drop z.2.2.1.length:=by
       rw[Pf hp λ hh=>?_,q4,<- q3,List.append_assoc]
       · rfl
       · exact hn _ (by rw[gF hh.1];exact List.getElem_mem hh.1) hh.2
      have e2:(z.2.2.1++[(p.1,p.2)]++l.drop z.2.2.1.length).length=z.2.2.1.length+1+(l.length-z.2.2.1.length):=by rw[List.length_append,List.length_append,List.length_drop];rfl
      rw[e]
      exact⟨x40,by rw[e2];rfl,by rw[e2];exact h40,hw.aU⟩
theorem sZ(k:ByteArray)(ha:Cl w a (cZ l))(hlen:l.length<=200000000000) :
  Calls Tryz.prog 172 #[.slice a l.length c,.string k] w (T8 w (gO l k)):=(Kr k ha hlen).mono λ _ _ h=>h.du
theorem Jg(p:Pr)(ha:Cl w a (cZ l))(hc:l.length<=c)(hs:SA l)(hn:∀q∈l,q.1≠p.1)(hlen:l.length<=200000000000) :
  Calls Tryz.prog 171 #[.slice a l.length c,.agg ⟨[.string p.1,.int .u64 p.2]⟩] w (T8 w (kS l p.1 p.2)):=(Y7 p ha hc hs hn hlen).mono λ _ _ h=>h.du
theorem Fm{l:List Pr}{k:ByteArray}:∀q∈gO l k,q.1≠k:=λ q hq=>by simpa using(List.mem_filter.1 hq).2
theorem Dw(l:List Pr)(k:ByteArray):(gO l k).length<=l.length:=List.length_filter_le _ _
theorem Xx(k:ByteArray)(v:Int)(ha:Cl w a (cZ l))(hlen:l.length<=200000000000) :
  Calls Tryz.prog 166 #[.slice a l.length c,.string k,.int .u64 v] w (T8 w (Jm l k v)):=by
 have hdl:=Dw l k
 refine enter Tryz.func166 Tryz.ntmps166 rfl rfl (SF.s1 ha) ?_
 simp only[cR]
 refine Ka7 ?_;refine aC (c0 (V:=.bool) (hc:=λ w1 hw=>kR (hw.cl fin) (by omega))) (λ x8 h8=>?_);refine lX ?_
 refine aZ (λ c9=>?_) (λ c9=>?_)
 ·refine cN ?_
  refine aN Tryz.results166 (λ w hw=>?_)
  rw[show Jm l k v=[] from if_neg λ hs=>by rw[h8.2 (nX.2 hs)] at c9;cases c9];exact⟨(none,0),rfl,Nat.le_refl _,(hw.Ix none).fin⟩
 ·have hs:SA l:=nX.1 (h8.1 (by simpa using c9))
  refine yT ?_;refine aC (cF (hc:=λ w1 hw=>sZ k (hw.cl fin) hlen)) (λ x12 h12=>?_);refine nB ?_;refine bD ?_;refine aC (cF (hc:=λ w1 hw=>Jg (k,v) (hw.cl fin) h12 (tP k hs) Fm (by omega))) (λ x16 h16=>?_);refine J1 ?_
  refine aN Tryz.results166 (λ w hw=>?_)
  rw[show Jm l k v=kS (gO l k) k v from(if_pos hs).trans (Jj hs k v).symm];exact⟨x16,rfl,h16,hw.fin⟩
theorem T7(k:ByteArray)(ha:Cl w a (cZ l))(hlen:l.length<=200000000000) :
  Calls Tryz.prog 168 #[.slice a l.length c,.string k] w (T8 w (pR l k)):=by
 refine enter Tryz.func168 Tryz.ntmps168 rfl rfl (SF.s1 ha) ?_
 simp only[cR]
 refine Ka7 ?_;refine aC (c0 (V:=.bool) (hc:=λ w1 hw=>kR (hw.cl fin) (by omega))) (λ x6 h6=>?_);refine lX ?_
 refine aZ (λ c7=>?_) (λ c7=>?_)
 ·refine cN ?_
  refine aN Tryz.results168 (λ w hw=>?_)
  rw[show pR l k=[] from if_neg λ hs=>by rw[h6.2 (nX.2 hs)] at c7;cases c7];exact⟨(none,0),rfl,Nat.le_refl _,(hw.Ix none).fin⟩
 ·have hs:SA l:=nX.1 (h6.1 (by simpa using c7))
  refine yT ?_;refine aC (cF (hc:=λ w1 hw=>sZ k (hw.cl fin) hlen)) (λ x10 h10=>?_);refine J1 ?_
  refine aN Tryz.results168 (λ w hw=>?_)
  rw[show pR l k=gO l k from if_pos hs];exact⟨x10,rfl,h10,hw.fin⟩
theorem ah(ha:Cl w a (cZ l))(hlen:l.length<=200000000000) :
  Calls Tryz.prog 174 #[.slice a l.length c] w (T8 w (A4 l)):=by
 refine enter Tryz.func174 Tryz.ntmps174 rfl rfl (SF.s1 ha) ?_
 simp only[cR]
 refine cN ?_;refine Jb ?_;refine K5 ?_
 refine mP [3,4,5,6,7,8,9,10,11,12,13,14,15,16,17,18,19,20,21,22] (λ z:Nat×Option Addr×List Pr×Nat=>[(4,.int .i64 ((z.1:Nat):Int)),(3,.slice z.2.1 z.2.2.1.length z.2.2.2)]) (λ z=>z.1<=l.length/\z.2.2.1.length<=z.2.2.2/\z.2.2.1=A4 (l.take z.1)/\z.2.2.1.length<=z.1/\SA z.2.2.1) (λ _=>_) (λ z=>[(z.2.1,cZ z.2.2.1)]) (λ _=>_) (λ z=>l.length-z.1) ((0,none,[],0)) (⟨Nat.zero_le _,Nat.le_refl _,rfl,Nat.le_refl _,List.Pairwise.nil⟩) (λ z f hx=>?_) (hw0:=λ w hw=>(hw.Ix none).back)
 dsimp only[gG,List.map,List.cons_append,List.nil_append]
 refine Gi ?_;refine dF ?_;refine vR ?_
 refine aZ (λ c8=>?_) (λ c8=>?_)
 ·have hdl:=Dw z.2.2.1 (l.getD z.1 (⟨#[]⟩,0)).1
  refine oW ?_;refine eD [(0,[]),(1,[]),(2,[]),(3,[]),(4,[]),(5,[]),(7,[]),(8,[]),(9,[]),(10,[]),(6,[9,10]),(11,[]),(12,[])] ?_;refine gM ?_;refine aT ?_;refine gL ?_;refine lR ?_;refine gM ?_;refine T5 ?_;refine bS (i:=6) (hq:=(cF (hc:=λ w1 hw=>sZ (l.getD z.1 (⟨#[]⟩,0)).1 (hw.cl fin) (by omega)))) (h:=λ x17 h17=>?_);refine bS (i:=11) (hq:=(cF (hc:=λ w1 hw=>Jg (l.getD z.1 (⟨#[]⟩,0)) (hw.cl fin) h17 (tP _ hx.2.2.2.2) Fm (by omega)))) (h:=λ x22 h22=>?_);refine J7 ?_;refine eV ?_;refine Ba ?_
  refine gI ((z.1+1,x22.1,kS (gO z.2.2.1 (l.getD z.1 (⟨#[]⟩,0)).1) (l.getD z.1 (⟨#[]⟩,0)).1 (l.getD z.1 (⟨#[]⟩,0)).2,x22.2)) ?_
  ·obtain⟨q1,q2,q3,q4,q5⟩:=hx
   have e:=Jj q5 (l.getD z.1 (⟨#[]⟩,0)).1 (l.getD z.1 (⟨#[]⟩,0)).2
   have hl:=uD (k:=(l.getD z.1 (⟨#[]⟩,0)).1) (v:=(l.getD z.1 (⟨#[]⟩,0)).2) q5
   rw[e] at h22
   refine⟨by show z.1+1<=l.length;omega,by show(kS _ _ _).length<=_;rw[e];exact h22,?_,?_,?_⟩
   ·show kS _ _ _=_
    rw[e,jZ (by omega),sY,<- q3]
   ·show(kS _ _ _).length<=z.1+1
    rw[e,hl];split<;>omega
   ·show SA (kS _ _ _)
    rw[e];exact uC q5
 ·refine bG rfl ?_;refine Ka6 ?_
  refine aN Tryz.results174 (λ w hw=>?_)
  obtain⟨q1,q2,q3,q4,q5⟩:=hx
  have e:z.2.2.1=A4 l:=by rw[q3,List.take_of_length_le (by omega)]
  rw[<- e]
  exact⟨(z.2.1,z.2.2.2),rfl,q2,hw.fin⟩
end
end

end Go.Proofs.YtadnboagdhcedaaGreatDoor
