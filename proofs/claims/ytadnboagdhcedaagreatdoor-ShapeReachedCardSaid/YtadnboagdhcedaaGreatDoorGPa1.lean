/- Pairs: valid lists are maps. -/
import Derived.Test.YtadnboagdhcedaaGreatDoorGNode2
import Derived.Lib.Bytealg
import Derived.Laws.Externs

set_option linter.unusedSimpArgs false
set_option linter.unusedVariables false
namespace Go.Proofs.YtadnboagdhcedaaGreatDoor
section
open Go.RowKit Go.Ct
theorem si{a b c:ByteArray}(h:cZ a b=true)(h2:cZ c b=false):cZ a c=true:=by
 cases hb:cZ b c with
 | true=>exact kL h hb
 | false=>have:=pD hb h2;subst this;exact h
theorem px{a b c:ByteArray}(h:cZ b a=false)(h2:cZ c b=false):cZ c a=false:=by
 cases hc:cZ c a with
 | false=>rfl
 | true=>have:=si hc h;rw[this] at h2;cases h2
theorem pU{a b:ByteArray}(h:cZ a b=true):a≠b:=λ e=>by subst e;rw[zA] at h;cases h
theorem Y7{a b:ByteArray}(h:cZ b a=false)(hn:a≠b):cZ a b=true:=by
 cases hb:cZ a b with
 | true=>rfl
 | false=>exact absurd (pD hb h) hn
def SA(l:List Pr):Prop:=l.Pairwise λ p q=>cZ p.1 q.1=true
instance (l:List Pr):Decidable (SA l):=inferInstanceAs (Decidable (l.Pairwise _))
theorem Td{l:List Pr}(h:kr l):∀d i,i+d+1<l.length->cZ (l.getD i (⟨#[]⟩,0)).1 (l.getD (i+d+1) (⟨#[]⟩,0)).1=true
 | 0,i,hi=>by have:=h (i+1) (by omega) hi;rwa [Nat.add_sub_cancel] at this
 | d+1,i,hi=>kL (Td h d i (by omega)) (by have:=h (i+(d+1)+1) (by omega) hi;rwa [Nat.add_sub_cancel] at this)
theorem gL{l:List Pr}{i:Nat}(h:i<l.length):l.getD i (⟨#[]⟩,0)=l[i]:=by simp[List.getD,List.getElem?_eq_getElem h]
theorem oJ{l:List Pr}:kr l↔SA l:=by
 constructor
 ·intro h
  refine List.pairwise_iff_getElem.2 λ i j hi hj hij=>?_
  have:=Td h (j-i-1) i (by omega)
  rw[show i+(j-i-1)+1=j by omega,gL hi,gL hj] at this
  exact this
 ·intro h i h1 hi
  rw[gL (by omega),gL hi]
  exact List.pairwise_iff_getElem.1 h (i-1) i (by omega) hi (by omega)
def pX:List Pr->ByteArray->Option Int
 | [],_=>none
 | p::l,k=>if p.1=k then some p.2 else pX l k
theorem oS{l:List Pr}{k:ByteArray}(h:∀p∈l,p.1≠k):pX l k=none:=by
 induction l with
 | nil=>rfl
 | cons p l ih=>exact(if_neg (h p (.head _))).trans (ih λ q hq=>h q (.tail _ hq))
theorem Zs:∀{l m:List Pr},SA l->SA m->(∀k,pX l k=pX m k)->l=m
 | [],[],_,_,_=>rfl
 | [],q::m,_,_,h=>by have:=h q.1;simp[pX] at this
 | p::l,[],_,_,h=>by have:=h p.1;simp[pX] at this
 | p::l,q::m,h1,h2,h=>by
  have h1':=List.pairwise_cons.1 h1
  have h2':=List.pairwise_cons.1 h2
  have e1:cZ p.1 q.1=false:=by
   cases hb:cZ p.1 q.1 with
   | false=>rfl
   | true =>
    have:pX (q::m) p.1=none:=oS λ x hx=>by
     rcases List.mem_cons.1 hx with rfl|hx
     ·exact(pU hb).symm
     ·exact(pU (kL hb (h2'.1 x hx))).symm
    have h':=h p.1
    rw[this] at h';simp[pX] at h'
  have e2:cZ q.1 p.1=false:=by
   cases hb:cZ q.1 p.1 with
   | false=>rfl
   | true =>
    have:pX (p::l) q.1=none:=oS λ x hx=>by
     rcases List.mem_cons.1 hx with rfl|hx
     ·exact(pU hb).symm
     ·exact(pU (kL hb (h1'.1 x hx))).symm
    have h':=h q.1
    rw[this] at h';simp[pX] at h'
  have ek:=pD e1 e2
  have ev:p.2=q.2:=by have:=h p.1;simpa[pX,ek] using this
  have et:l=m:=Zs h1'.2 h2'.2 λ k=>by
   by_cases hk:p.1=k
   ·subst hk
    rw[oS λ x hx=>(pU (h1'.1 x hx)).symm,oS λ x hx=>by rw[ek];exact(pU (h2'.1 x hx)).symm]
   ·have:=h k
    rw[pX,pX,if_neg hk,if_neg (by rw[<- ek];exact hk)] at this
    exact this
  rw[et,show p=q from Prod.ext ek ev]
def kS:List Pr->ByteArray->Int->List Pr
 | [],k,v=>[(k,v)]
 | p::l,k,v=>if cZ p.1 k=true then p::kS l k v else if p.1=k then(k,v)::l else(k,v)::p::l
def gS(l:List Pr)(k:ByteArray):List Pr:=l.filter λ p=>decide (p.1≠k)
theorem yF{l:List Pr}{k:ByteArray}{v:Int}:∀{q:Pr},q∈kS l k v->q=(k,v)∨q∈l:=by
 induction l with
 | nil=>intro q h;rw[kS,List.mem_singleton] at h;exact .inl h
 | cons p l ih =>
  intro q h
  rw[kS] at h
  split at h
  ·rcases List.mem_cons.1 h with rfl|h
   ·exact .inr (.head _)
   ·exact(ih h).imp id (.tail _)
  ·split at h
   ·exact(List.mem_cons.1 h).imp id (.tail _)
   ·exact List.mem_cons.1 h
theorem vF{k:ByteArray}{v:Int}:∀{l:List Pr},SA l->SA (kS l k v)
 | [],_=>List.pairwise_singleton _ _
 | p::l,h=>by
  have h':=List.pairwise_cons.1 h
  rw[kS]
  split
  ·next hlt =>
   refine List.pairwise_cons.2 ⟨λ q hq=>?_,vF h'.2⟩
   rcases yF hq with rfl|hq
   ·exact hlt
   ·exact h'.1 q hq
  ·next hlt =>
   split
   ·next he =>
    subst he
    exact List.pairwise_cons.2 ⟨λ q hq=>h'.1 q hq,h'.2⟩
   ·next hne =>
    have hkp:cZ k p.1=true:=Y7 (by simpa using hlt) (λ e=>hne e.symm)
    refine List.pairwise_cons.2 ⟨λ q hq=>?_,h⟩
    rcases List.mem_cons.1 hq with rfl|hq
    ·exact hkp
    ·exact kL hkp (h'.1 q hq)
theorem Eh{k:ByteArray}{v:Int}(j:ByteArray):∀{l:List Pr},SA l->pX (kS l k v) j=if j=k then some v else pX l j
 | [],_=>by
  simp only[kS,pX]
  by_cases h:j=k
  ·rw[if_pos h,if_pos h.symm]
  ·rw[if_neg h,if_neg λ e=>h e.symm]
 | p::l,h=>by
  have h':=List.pairwise_cons.1 h
  have ih:=Eh (k:=k) (v:=v) j h'.2
  rw[kS]
  split
  ·next hlt =>
   rw[pX,ih,pX]
   by_cases hj:j=k
   ·rw[if_pos hj,if_pos hj,if_neg λ e=>pU hlt (e.trans hj)]
   ·rw[if_neg hj,if_neg hj]
  ·split
   ·next he =>
    rw[pX,pX]
    by_cases hj:j=k
    ·rw[if_pos hj,if_pos hj.symm]
    ·rw[if_neg hj,if_neg λ e=>hj e.symm,if_neg λ e=>hj (e.symm.trans he)]
   ·rw[pX]
    by_cases hj:j=k
    ·rw[if_pos hj,if_pos hj.symm]
    ·rw[if_neg hj,if_neg λ e=>hj e.symm]
theorem uG{l:List Pr}(k:ByteArray)(h:SA l):SA (gS l k):=h.sublist List.filter_sublist
theorem To(l:List Pr)(k j:ByteArray):pX (gS l k) j=if j=k then none else pX l j:=by
 unfold gS
 induction l with
 | nil=>simp[pX]
 | cons p l ih =>
  rw[List.filter_cons]
  by_cases hp:p.1=k
  ·rw[if_neg (by simp[hp]),ih,pX]
   by_cases hj:j=k
   ·rw[if_pos hj,if_pos hj]
   ·rw[if_neg hj,if_neg hj,if_neg λ e=>hj (e.symm.trans hp)]
  ·rw[if_pos (by simp[hp]),pX,ih,pX]
   by_cases hj:j=k
   ·rw[if_pos hj,if_pos hj,if_neg λ e=>hp (e.trans hj)]
   ·rw[if_neg hj,if_neg hj]
theorem Mc{l:List Pr}(h:SA l)(k:ByteArray)(v:Int):kS (gS l k) k v=kS l k v :=
 Zs (vF (uG k h)) (vF h) λ j=>by
  rw[Eh j (uG k h),Eh j h,To]
  by_cases hj:j=k
  ·rw[if_pos hj,if_pos hj]
  ·rw[if_neg hj,if_neg hj,if_neg hj]
structure Ml(l:List Pr)(k:ByteArray)(i:Nat):Prop where
 le:i<=l.length
 lo:∀j,j<i->cZ (l.getD j (⟨#[]⟩,0)).1 k=true
 hi:∀j,i<=j->j<l.length->cZ (l.getD j (⟨#[]⟩,0)).1 k=false
theorem Ml.tl{p:Pr}{l:List Pr}{k:ByteArray}{i:Nat}(h:Ml (p::l) k (i+1)):cZ p.1 k=true/\Ml l k i :=
 ⟨h.lo 0 (by omega),⟨by have:=h.le;simp at this;omega,λ j hj=>h.lo (j+1) (by omega),λ j h1 h2=>h.hi (j+1) (by omega) (by simp;omega)⟩⟩
theorem Sf{k:ByteArray}{v:Int}:∀{l:List Pr} {i:Nat},Ml l k i->¬(i<l.length/\(l.getD i (⟨#[]⟩,0)).1=k)->kS l k v=l.take i++(k,v)::l.drop i
 | [],i,h,_=>by have:=h.le;simp at this;subst this;rfl
 | p::l,0,h,hn=>by
  have:cZ p.1 k=false:=h.hi 0 (Nat.le_refl _) (by simp)
  rw[kS,if_neg (by rw[this];decide),if_neg λ e:p.1=k=>hn ⟨by simp,e⟩]
  rfl
 | p::l,i+1,h,hn=>by
  rw[kS,if_pos h.tl.1,Sf h.tl.2 λ hh=>hn ⟨by simp;omega,hh.2⟩]
  rfl
theorem cj{k:ByteArray}:∀{l:List Pr} {v:Int},pX l k=some v->∃i,i<l.length/\(l.getD i (⟨#[]⟩,0)).1=k
 | [],_,h=>by cases h
 | p::l,v,h=>by
  rw[pX] at h
  split at h
  ·next he=>exact⟨0,by simp,he⟩
  ·obtain⟨i,h1,h2⟩:=cj h
   exact⟨i+1,by simp;omega,h2⟩
theorem vL{k:ByteArray}{v:Int}:∀{l:List Pr},SA l->(kS l k v).length=if(pX l k).isSome=true then l.length else l.length+1
 | [],_=>rfl
 | p::l,h=>by
  have h':=List.pairwise_cons.1 h
  rw[kS]
  split
  ·next hlt =>
   rw[List.length_cons,vL h'.2,pX,if_neg (pU hlt)]
   split<;>rfl
  ·next hlt =>
   split
   ·next he=>rw[pX,if_pos he];rfl
   ·next hne =>
    have hkp:cZ k p.1=true:=Y7 (by simpa using hlt) (λ e=>hne e.symm)
    rw[pX,if_neg hne,oS λ q hq=>(pU (kL hkp (h'.1 q hq))).symm]
    rfl
theorem Mp{k:ByteArray}:∀{l:List Pr},SA l->(gS l k).length=if(pX l k).isSome=true then l.length-1 else l.length
 | [],_=>rfl
 | p::l,h=>by
  have h':=List.pairwise_cons.1 h
  have ih:=Mp (k:=k) h'.2
  unfold gS at ih ⊢
  rw[List.filter_cons]
  by_cases hp:p.1=k
  ·have hn:∀q∈l,q.1≠k:=λ q hq=>by rw[<- hp];exact(pU (h'.1 q hq)).symm
   rw[if_neg (by simp[hp]),pX,if_pos hp,List.filter_eq_self.2 λ q hq=>by simpa using hn q hq]
   rfl
  ·rw[if_pos (by simp[hp]),List.length_cons,ih,pX,if_neg hp]
   split
   ·next hs =>
    have:1<=l.length:=by
     cases hf:pX l k with
     | none=>rw[hf] at hs;cases hs
     | some v=>obtain⟨i,hi,_⟩:=cj hf;omega
    rw[List.length_cons];omega
   ·rfl
def Bz(l:List Pr):List Pr:=l.foldl (λ acc p=>kS acc p.1 p.2) []
theorem uF(l:List Pr)(p:Pr):Bz (l++[p])=kS (Bz l) p.1 p.2:=by unfold Bz;rw[List.foldl_append];rfl
theorem Mg{α:Type}{Q:List α->Prop}(h0:Q [])(h1:∀l x,Q l->Q (l++[x]))(l:List α):Q l:=by
 have key:∀m:List α,Q m.reverse:=λ m=>by
  induction m with
  | nil=>exact h0
  | cons x m ih=>rw[List.reverse_cons];exact h1 _ _ ih
 have:=key l.reverse
 rwa [List.reverse_reverse] at this
theorem Xv(l:List Pr):SA (Bz l):=by
 induction l using Mg with
 | h0=>exact List.Pairwise.nil
 | h1 l x ih=>rw[uF];exact vF ih
theorem Rj(l:List Pr):(Bz l).length<=l.length:=by
 induction l using Mg with
 | h0=>exact Nat.le_refl _
 | h1 l x ih =>
  rw[uF,vL (Xv l),List.length_append,List.length_singleton]
  split<;>omega
end

/- Pairs: comparing, searching; Find, Put, Drop. -/
end Go.Proofs.YtadnboagdhcedaaGreatDoor
namespace Go.Ct
section
open Go Go.RowKit
variable{P:Program}{S:List (Nat×Value)}{w0 w:World}{M:List Nat}{H:List (Nat×Obj)}{A F:Fr}{O:List Ow}
theorem bL{G:World->Prop}{d:Nat}{ty:TypeId}{pos:String}{af:Array Edge}{gd:Option (Nat×Bool)}{x:Operand}{vs:List Value}{k:Nat}{v:Value}(hx:ev S x=.tuple ⟨vs⟩)(hk:vs[k]?=some v):aJ P S G ⟨some d,.extract x k,ty,pos,af,gd⟩ v:=⟨λ w _=>by
 simp[execOp,hx,Instr.extract,hk]⟩
end
end Go.Ct
namespace Go.Proofs.YtadnboagdhcedaaGreatDoor
section
open Go.RowKit Go.Ct
theorem v3{l:List Pr}{k:ByteArray}{h:Nat}(hs:SA l)(hc:cZ (l.getD h (⟨#[]⟩,0)).1 k=false)(j:Nat)(h1:h<=j)(hj:j<l.length):cZ (l.getD j (⟨#[]⟩,0)).1 k=false:=by
 rcases Nat.lt_or_eq_of_le h1 with h2|rfl
 ·have:=List.pairwise_iff_getElem.1 hs h j (by omega) hj h2
  rw[<- gL,<- gL] at this
  exact px hc (Bv this)
 ·exact hc
end

/- Pairs: Find, Put, Drop of the program. -/
end Go.Proofs.YtadnboagdhcedaaGreatDoor
namespace Go.Ct
section
open Go Go.RowKit
section
variable{P:Program}{n:Nat}{S:List (Nat×Value)}
variable{w0 w w':World}{M:List Nat}{H H':List (Nat×Obj)}{A F F':Fr}{O O':List Ow}{G:World->Prop}
variable{d:Nat}{ty:TypeId}{pos:String}{af:Array Edge}{gd:Option (Nat×Bool)}{dst:Option Nat}{x y z:Operand}{t t2 e:TypeId}{p a:Option Addr}{i m k c c2:Nat}
def vo(a:Option Addr)(k c:Nat):Option Addr:=if c=k then a else a.map (·.add (2*k))
theorem bp(hx:ev S x=.slice a m c)(hy:ev S y=.int .i64 ((k:Nat):Int))(ht:P.underlying t=some (.slice e))(hs:(P.info? e).map (·.size)=some 2)(hk:k<=m)(hmc:m<=c) :
  aJ P S G ⟨some d,.slice t x (some y) none none,ty,pos,af,gd⟩ (.slice (vo a k c) (m-k) (c-k)):=⟨λ w _=>by
 have he:P.elem t=e:=by simp[Program.elem,ht]
 have ht':P.underlying t=some (.slice (P.elem t)):=by rw[he];exact ht
 cases hi:P.info? e with
 | none=>simp[hi] at hs
 | some inf =>
  have hs':inf.size=2:=by simpa[hi] using hs
  have hr:=run_slice_l (P:=P) w t a m c ht' .i64 (k:Int) (by omega) (by omega)
  refine Ww (v:=.slice (vo a k c) (m-k) (c-k)) ?_
  simp[hx,hy,run_sliceAt_slice w t _ _ _ _ ht',hr,he,sizeOf,typeInfo,hi,hs',sliced,vo,Nat.mul_comm]⟩
theorem SF.yp(h:SF w0 M H A F O w){l:List Pr}(hf:pE A F [] a (dG l))(hc:l.length<=c):SF w0 M H ((vo a k c,dG (l.drop k))::A) F O w:=by
 have e:dG (l.drop k)=(dG l).drop (2*k):=by rw[Ls]
 rw[e]
 refine h.Zl hf (λ hn=>?_) (λ h=>by rw[h];simp) (λ w hc'=>?_)
 ·unfold vo
  split
  ·rfl
  ·cases a with
   | none=>rfl
   | some a =>
    obtain⟨b,o,s⟩:=a
    simp only[Option.map_some,cR,Addr.add]
    split<;>rfl
 ·unfold vo
  split
  ·rename_i heq
   have:(dG l).drop (2*k)=[]:=List.drop_eq_nil_of_le (by rw[fP];omega)
   rw[this]
   exact Cl.nil _ _
  ·exact hc'.drop _
end
end
end Go.Ct
namespace Go.Proofs.YtadnboagdhcedaaGreatDoor
section
open Go.RowKit Go.Ct
section
variable{l:List Pr}{a:Option Addr}{c:Nat}{k:ByteArray}{v:Int}{w:World}
def dH(l:List Pr)(k:ByteArray):Option Int:=if SA l then pX l k else none
def Ma(l:List Pr)(k:ByteArray)(v:Int):List Pr:=if SA l then kS l k v else []
def qD(l:List Pr)(k:ByteArray):List Pr:=if SA l then gS l k else []
def ly(w:World)(m:List Pr)(e:Ending)(w':World):Prop:=∃x:Option Addr×Nat,e=.returned (.slice x.1 m.length x.2)/\m.length<=x.2/\SF w [] [] [] [] [⟨x.1,dG m,x.2,137,2⟩] w'
def Uu(w:World)(m:List Pr)(e:Ending)(w':World):Prop:=∃x:Option Addr×Nat,e=.returned (.slice x.1 m.length x.2)/\m.length<=x.2/\SF w [] [] [] [(x.1,dG m)] [] w'
theorem ly.Vt{w:World}{m:List Pr}{e:Ending}{w':World}(h:ly w m e w'):Uu w m e w':=by
 obtain⟨x,h1,h2,h3⟩:=h
 exact⟨x,h1,h2,h3.freeze .head (by simp)⟩
end
end

/- Pairs: the reference's Find, Put, Drop, Of, Equal. -/
section
open Go.RowKit Go.Ct
section
variable{l:List Pr}{a:Option Addr}{c:Nat}{k:ByteArray}{v:Int}{w:World}
theorem tj{l:List Pr}{k:ByteArray}:∀{i:Nat},i<l.length->(∀j,j<i->(l.getD j (⟨#[]⟩,0)).1≠k)->(l.getD i (⟨#[]⟩,0)).1=k->pX l k=some (l.getD i (⟨#[]⟩,0)).2:=by
 induction l with
 | nil=>intro i h;simp at h
 | cons p l ih =>
  intro i h hn he
  cases i with
  | zero=>exact if_pos he
  | succ i =>
   refine(if_neg (hn 0 (by omega))).trans ?_
   exact ih (by simp at h;omega) (λ j hj=>hn (j+1) (by omega)) he
theorem jq{l:List Pr}{k:ByteArray}(h:∀j,j<l.length->(l.getD j (⟨#[]⟩,0)).1≠k):pX l k=none:=oS λ p hp=>by
 obtain⟨j,hj,rfl⟩:=List.getElem_of_mem hp
 have:=h j hj
 rwa [gL hj] at this
theorem H5(k:ByteArray)(ha:Cl w a (dG l))(hlen:l.length<=1099511627775) :
  Calls Tryz.prog 121 #[.slice a l.length c,.string k] w λ e w'=>e=.returned (.tuple #[.int .u64 ((dH l k).getD 0),.bool (dH l k).isSome])/\St w [] [] w':=by
 refine enter Tryz.func121 Tryz.ntmps121 rfl rfl (SF.s1 ha) ?_
 simp only[cO]
 refine Gc ?_;refine aR ?_;refine Gl ?_
 refine eY [4,5,6,7,8,9,10,11,12,13,14,15,16,17,18,19,20,21,22,23,24,25,26,27,28] (λ k=>[(6,.int .i64 ((k:Nat):Int))]) (λ i=>i<=l.length/\(i≠0->SA l)/\∀j,j<i->(l.getD j (⟨#[]⟩,0)).1≠k) (λ k=>l.length-k) (0) (⟨Nat.zero_le _,λ h=>absurd rfl h,λ j hj=>absurd hj (Nat.not_lt_zero j)⟩) ?_ (λ i f hx=>?_)
 ·repeat (first|exact bB _|refine aY (by exact rfl) ?_)
 dsimp only[fY,List.map,List.cons_append,List.nil_append]
 refine F0 ?_;refine dE ?_;refine Fu ?_
 (refine eF 11 (λ g11=>?_) (λ g11=>?_)<;>refine Ka0 ?_)
 all_goals ((first|refine aH ?_|(refine aF ?_;refine aC (c0 (V:=.bool) (hc:=λ w1 hw=>kY (hw.cl fin) (by omega))) (λ x13 h13=>?_)));refine cK ?_;refine aI ?_)
 all_goals
 refine aZ (λ c14=>?_) (λ c14=>?_)
 ·try exact nv c14
  all_goals (refine nZ ?_;refine iR ?_;refine iZ ?_;refine J3 ?_;refine aB ?_;refine oo ?_;refine aI ?_)
  all_goals
   refine aZ (λ c23=>?_) (λ c23=>?_)
   ·refine iR ?_;refine iZ ?_;refine J3 ?_;refine J8 ?_
    refine bK Tryz.results121 (λ w hw=>?_)
    rw[show dH l k=some (l.getD i (⟨#[]⟩,0)).2 from(if_pos (oJ.1 (h13.1 (by simp_all)))).trans (tj (by omega) hx.2.2 c23)];exact⟨rfl,hw.done⟩
   ·refine lG ?_;refine zW ?_
    refine dO (i+1) ?_ ?_ ?_
    ·omega
    ·repeat' (first|exact bB _|refine aY ?_ ?_)
     exact rfl
    ·exact⟨by omega,λ _=>oJ.1 (h13.1 (by simp_all)),λ j hj=>by rcases Nat.lt_succ_iff_lt_or_eq.1 hj with h|rfl;exact hx.2.2 j h;assumption⟩
 ·all_goals (refine bF rfl ?_;refine Gc ?_)
  all_goals
   refine bK Tryz.results121 (λ w hw=>?_)
   first
   | (rw[show dH l k=none from if_neg λ hs=>by have:=h13.2 (oJ.2 hs);simp_all];exact⟨rfl,hw.done⟩)
   | (rw[show dH l k=none by unfold dH;split;exact jq λ j hj=>hx.2.2 j (by omega);rfl];exact⟨rfl,hw.done⟩)
theorem Js{l:List Pr}{i:Nat}(hi:i<l.length)(k:ByteArray):(l.take (i+1)).filter (λ p=>decide (p.1≠k))=(l.take i).filter (λ p=>decide (p.1≠k))++(if(l.getD i (⟨#[]⟩,0)).1≠k then [l.getD i (⟨#[]⟩,0)] else []):=by
 rw[List.take_add_one,List.getElem?_eq_getElem hi,gL hi,List.filter_append]
 congr 1
 by_cases h:l[i].1=k<;>simp[h]
theorem De{l:List Pr}{i:Nat}(hi:i<l.length)(k:ByteArray):gS (l.take (i+1)) k=if(l.getD i (⟨#[]⟩,0)).1=k then gS (l.take i) k else gS (l.take i) k++[l.getD i (⟨#[]⟩,0)]:=by
 unfold gS
 rw[Js hi k]
 by_cases h:(l.getD i (⟨#[]⟩,0)).1=k
 ·rw[if_neg λ hn=>hn h,if_pos h,List.append_nil]
 ·rw[if_pos h,if_neg h]
theorem Lx(k:ByteArray)(ha:Cl w a (dG l))(hlen:l.length<=200000000000) :
  Calls Tryz.prog 172 #[.slice a l.length c,.string k] w (ly w (gS l k)):=by
 refine enter Tryz.func172 Tryz.ntmps172 rfl rfl (SF.s1 ha) ?_
 simp only[cO]
 refine cQ ?_;refine F4 ?_;refine Gl ?_
 refine kZ [5,6,7,8,9,10,11,12,13,14,15,16,17,18,19,20,21,22,23,24,25,26] (λ z:Nat×Option Addr×List Pr×Nat=>[(6,.int .i64 ((z.1:Nat):Int)),(5,.slice z.2.1 z.2.2.1.length z.2.2.2)]) (λ z=>z.1<=l.length/\z.2.2.1.length<=z.2.2.2/\z.2.2.1=gS (l.take z.1) k/\z.2.2.1.length<=z.1) (λ _=>_) (λ _=>_) (λ z=>[⟨z.2.1,dG z.2.2.1,z.2.2.2,137,2⟩]) (λ z=>l.length-z.1) ((0,none,[],0)) (⟨Nat.zero_le _,Nat.le_refl _,rfl,Nat.le_refl _⟩) (λ z f hx=>?_) (hw0:=λ w hw=>(hw.kE 137 2).back)
 dsimp only[fY,List.map,List.cons_append,List.nil_append]
 refine F0 ?_;refine dE ?_;refine vI ?_
 refine aZ (λ c10=>?_) (λ c10=>?_)
 ·refine nZ ?_;refine iR ?_;refine iZ ?_;refine J3 ?_;refine aB ?_;refine po ?_;refine aI ?_
  refine aZ (λ c19=>?_) (λ c19=>?_)
  ·refine xJ ?_;refine oX ?_;refine Tl ?_;refine fF (λ x25=>?_);(refine eL (λ x26=>?_);try (refine fB (λ h26=>?_)));refine J1 ?_;refine Kd0 ?_
   refine fV ((by exact(z.1+1,x26.1,z.2.2.1++[l.getD z.1 (⟨#[]⟩,0)],x26.2))) ?_ (hw1:=λ w hw=>by exact hw.back (hO:=by exact List.Sublist.refl _))
   ·obtain⟨q1,q2,q3,q4⟩:=hx
    have hdt:=De (l:=l) (i:=z.1) (by omega) k
    first
    | exact⟨by show z.1+1<=l.length;omega,by simp only[List.length_append,List.length_cons,List.length_nil];omega,by rw[if_neg (by assumption),<- q3] at hdt;exact hdt.symm,by simp only[List.length_append,List.length_cons,List.length_nil];omega⟩
    | exact⟨by show z.1+1<=l.length;omega,q2,by rw[if_pos (by assumption),<- q3] at hdt;exact hdt.symm,by show z.2.2.1.length<=z.1+1;omega⟩
  ·refine lG ?_;refine zW ?_
   refine fV ((by exact(z.1+1,z.2.1,z.2.2.1,z.2.2.2))) ?_ (hw1:=λ w hw=>by exact hw.back (hO:=by exact List.Sublist.refl _))
   ·obtain⟨q1,q2,q3,q4⟩:=hx
    have hdt:=De (l:=l) (i:=z.1) (by omega) k
    first
    | exact⟨by show z.1+1<=l.length;omega,by simp only[List.length_append,List.length_cons,List.length_nil];omega,by rw[if_neg (by assumption),<- q3] at hdt;exact hdt.symm,by simp only[List.length_append,List.length_cons,List.length_nil];omega⟩
    | exact⟨by show z.1+1<=l.length;omega,q2,by rw[if_pos (by assumption),<- q3] at hdt;exact hdt.symm,by show z.2.2.1.length<=z.1+1;omega⟩
 ·refine bF rfl ?_;refine Ka5 ?_
  refine aQ Tryz.results172 (λ w hw=>?_)
  obtain⟨q1,q2,q3,q4⟩:=hx
  have e:z.2.2.1=gS l k:=by rw[q3,List.take_of_length_le (by omega)]
  rw[<- e]
  exact⟨(z.2.1,z.2.2.2),rfl,q2,hw.aS⟩
theorem kH{l:List Pr}{i:Nat}(hi:i<l.length):l.take (i+1)=l.take i++[l.getD i (⟨#[]⟩,0)]:=by
 rw[List.take_add_one,List.getElem?_eq_getElem hi,gL hi];rfl
theorem Yl(p:Pr)(ha:Cl w a (dG l))(hc:l.length<=c)(hs:SA l)(hn:∀q∈l,q.1≠p.1)(hlen:l.length<=200000000000) :
    Calls Tryz.prog 171 #[.slice a l.length c,.agg ⟨[.string p.1,.int .u64 p.2]⟩] w (ly w (kS l p.1 p.2)):=by
  refine enter Tryz.func171 Tryz.ntmps171 rfl rfl (SF.s1 ha) ?_
  simp only[cO]
  refine J0 ?_;refine bQ (λ x3=>?_);refine J1 ?_;refine F4 ?_;refine Gl ?_
  refine kZ [5,6,8,9,10,11,12,13,14,15,16,17,18,19,20,21,22,23,24,25,26,27,28,29,30] (λ z:Nat×Option Addr×List Pr×Nat=>[(6,.int .i64 ((z.1:Nat):Int)),(5,.slice z.2.1 z.2.2.1.length z.2.2.2)]) (λ z=>z.1<=l.length/\z.2.2.1.length<=z.2.2.2/\z.2.2.1=l.take z.1/\z.2.2.1.length=z.1/\∀j,j<z.1->cZ (l.getD j (⟨#[]⟩,0)).1 p.1=true) (λ z=>[(x3,.cells ⟨[.string p.1,.int .u64 p.2]⟩ 137 (0,0))]) (λ _=>_) (λ z=>[⟨z.2.1,dG z.2.2.1,z.2.2.2,137,2⟩]) (λ z=>l.length-z.1) ((0,none,[],0)) (⟨Nat.zero_le _,Nat.le_refl _,rfl,rfl,λ j hj=>absurd hj (Nat.not_lt_zero j)⟩) (λ z f hx=>?_) (hw0:=λ w hw=>(hw.kE 137 2).back)
  dsimp only[fY,List.map,List.cons_append,List.nil_append]
  refine aR ?_;refine aR ?_;refine fJ [0,1,2,3,4,5,6,7,8,9,10,11,12,13] ?_;refine gP ?_;refine lN ?_;refine Bh ?_;refine aU ?_
  (refine ko 12 (λ g12=>?_) (λ g12=>?_)<;>(first|refine fT ?_|(refine aU ?_)))
  all_goals ((first|refine fT ?_|(refine aU ?_));(first|refine fT ?_|(refine gT ?_));refine xk ?_;refine xk ?_;(first|refine fT ?_|(refine ap ?_));refine iW ?_;refine dS ?_)
  all_goals
   refine aZ (λ c21=>?_) (λ c21=>?_)
   · try exact nv c21
     all_goals (refine nZ ?_;refine xJ ?_;refine oX ?_;refine Tl ?_;refine fF (λ x29=>?_);(refine aT (by(exact bI.eZ (Ik rf rf Cc rfl fin (by exact oN rfl) fC (by omega)) (by intro x;simp only[jS];exact rfl))) (λ x30=>?_);try (refine fB (λ h30=>?_)));refine J1 ?_;refine Kd0 ?_)
     all_goals
      refine fV ((z.1+1,x30.1,z.2.2.1++[l.getD z.1 (⟨#[]⟩,0)],x30.2)) ?_ (hw1:=λ w hw=>hw.back (hO:=by exact List.Sublist.refl _))
      · obtain⟨q1,q2,q3,q4,q5⟩:=hx
        refine⟨by show z.1+1<=l.length;omega,by simp only[List.length_append,List.length_cons,List.length_nil];omega,by rw[kH (by omega),<- q3],by simp only[List.length_append,List.length_cons,List.length_nil];omega,λ j hj=>?_⟩
        rcases Nat.lt_succ_iff_lt_or_eq.1 hj with h|rfl
        · exact q5 j h
        · exact c21
   · all_goals
      refine ur (λ w hw=>hw.yp (k:=z.2.2.1.length) (c:=c) fin hc) ?_
     all_goals (refine bF rfl ?_;refine J2 ?_;refine dE ?_;refine gQ ?_;refine fJ [0,1,4,5,6,2,3,7,8] ?_;refine Kb6 ?_;refine gP ?_;refine cJ (i:=6) (hq:=(bp (k:=z.2.2.1.length) rf rf fC (by exact sA rfl) (by omega) (by omega))) (h:=?_);refine cU (h:=λ x35=>?_);((refine cY (i:=3) (hq:=(by(exact bI.eZ (Ik rf rf Cc rfl fin (by exact oN rfl) fC (by omega)) (by intro x;simp only[jS];exact rfl)))) (h:=λ x36=>?_);try (refine fW (λ h36=>?_))));((refine cY (i:=7) (hq:=(by(exact bI.eZ (O5 (l2:=l.drop z.2.2.1.length) rf rf Cc (by simp;done) fin (by rw[List.length_drop]) (by exact oN rfl) fC (by omega)) (by intro x;simp only[jS];exact rfl)))) (h:=λ x40=>?_);try (refine fW (λ h40=>?_))));refine J7 ?_)
     all_goals
      refine aQ Tryz.results171 (λ w hw=>?_)
      obtain⟨q1,q2,q3,q4,q5⟩:=hx
      have hp:Ml l p.1 z.1:=⟨q1,q5,by first|exact v3 hs c21|(intro j h1 h2;omega)⟩
      have e:kS l p.1 p.2=z.2.2.1++[(p.1,p.2)]++l.drop z.2.2.1.length:=by
       rw[Sf hp λ hh=>?_,q4,<- q3,List.append_assoc]
       · rfl
       · exact hn _ (by rw[gL hh.1];exact List.getElem_mem hh.1) hh.2
      have e2:(z.2.2.1++[(p.1,p.2)]++l.drop z.2.2.1.length).length=z.2.2.1.length+1+(l.length-z.2.2.1.length):=by rw[List.length_append,List.length_append,List.length_drop];rfl
      rw[e]
      exact⟨x40,by rw[e2];rfl,by rw[e2];exact h40,hw.aS⟩
theorem uQ(k:ByteArray)(ha:Cl w a (dG l))(hlen:l.length<=200000000000) :
  Calls Tryz.prog 172 #[.slice a l.length c,.string k] w (Uu w (gS l k)):=(Lx k ha hlen).mono λ _ _ h=>h.Vt
theorem L5(p:Pr)(ha:Cl w a (dG l))(hc:l.length<=c)(hs:SA l)(hn:∀q∈l,q.1≠p.1)(hlen:l.length<=200000000000) :
  Calls Tryz.prog 171 #[.slice a l.length c,.agg ⟨[.string p.1,.int .u64 p.2]⟩] w (Uu w (kS l p.1 p.2)):=(Yl p ha hc hs hn hlen).mono λ _ _ h=>h.Vt
theorem Gz{l:List Pr}{k:ByteArray}:∀q∈gS l k,q.1≠k:=λ q hq=>by simpa using(List.mem_filter.1 hq).2
theorem Fi(l:List Pr)(k:ByteArray):(gS l k).length<=l.length:=List.length_filter_le _ _
theorem W7(k:ByteArray)(v:Int)(ha:Cl w a (dG l))(hlen:l.length<=200000000000) :
  Calls Tryz.prog 166 #[.slice a l.length c,.string k,.int .u64 v] w (Uu w (Ma l k v)):=by
 have hdl:=Fi l k
 refine enter Tryz.func166 Tryz.ntmps166 rfl rfl (SF.s1 ha) ?_
 simp only[cO]
 refine Ka7 ?_;refine aC (c0 (V:=.bool) (hc:=λ w1 hw=>kY (hw.cl fin) (by omega))) (λ x8 h8=>?_);refine mJ ?_
 refine aZ (λ c9=>?_) (λ c9=>?_)
 ·refine cQ ?_
  refine aQ Tryz.results166 (λ w hw=>?_)
  rw[show Ma l k v=[] from if_neg λ hs=>by rw[h8.2 (oJ.2 hs)] at c9;cases c9];exact⟨(none,0),rfl,Nat.le_refl _,(hw.Ii none).fin⟩
 ·have hs:SA l:=oJ.1 (h8.1 (by simpa using c9))
  refine zS ?_;refine aC (cF (hc:=λ w1 hw=>uQ k (hw.cl fin) hlen)) (λ x12 h12=>?_);refine oX ?_;refine bG ?_;refine aC (cF (hc:=λ w1 hw=>L5 (k,v) (hw.cl fin) h12 (uG k hs) Gz (by omega))) (λ x16 h16=>?_);refine J1 ?_
  refine aQ Tryz.results166 (λ w hw=>?_)
  rw[show Ma l k v=kS (gS l k) k v from(if_pos hs).trans (Mc hs k v).symm];exact⟨x16,rfl,h16,hw.fin⟩
theorem U0(k:ByteArray)(ha:Cl w a (dG l))(hlen:l.length<=200000000000) :
  Calls Tryz.prog 168 #[.slice a l.length c,.string k] w (Uu w (qD l k)):=by
 refine enter Tryz.func168 Tryz.ntmps168 rfl rfl (SF.s1 ha) ?_
 simp only[cO]
 refine Ka7 ?_;refine aC (c0 (V:=.bool) (hc:=λ w1 hw=>kY (hw.cl fin) (by omega))) (λ x6 h6=>?_);refine mJ ?_
 refine aZ (λ c7=>?_) (λ c7=>?_)
 ·refine cQ ?_
  refine aQ Tryz.results168 (λ w hw=>?_)
  rw[show qD l k=[] from if_neg λ hs=>by rw[h6.2 (oJ.2 hs)] at c7;cases c7];exact⟨(none,0),rfl,Nat.le_refl _,(hw.Ii none).fin⟩
 ·have hs:SA l:=oJ.1 (h6.1 (by simpa using c7))
  refine zS ?_;refine aC (cF (hc:=λ w1 hw=>uQ k (hw.cl fin) hlen)) (λ x10 h10=>?_);refine J1 ?_
  refine aQ Tryz.results168 (λ w hw=>?_)
  rw[show qD l k=gS l k from if_pos hs];exact⟨x10,rfl,h10,hw.fin⟩
theorem eh(ha:Cl w a (dG l))(hlen:l.length<=200000000000) :
  Calls Tryz.prog 174 #[.slice a l.length c] w (Uu w (Bz l)):=by
 refine enter Tryz.func174 Tryz.ntmps174 rfl rfl (SF.s1 ha) ?_
 simp only[cO]
 refine cQ ?_;refine F4 ?_;refine Gl ?_
 refine kZ [3,4,5,6,7,8,9,10,11,12,13,14,15,16,17,18,19,20,21,22] (λ z:Nat×Option Addr×List Pr×Nat=>[(4,.int .i64 ((z.1:Nat):Int)),(3,.slice z.2.1 z.2.2.1.length z.2.2.2)]) (λ z=>z.1<=l.length/\z.2.2.1.length<=z.2.2.2/\z.2.2.1=Bz (l.take z.1)/\z.2.2.1.length<=z.1/\SA z.2.2.1) (λ _=>_) (λ z=>[(z.2.1,dG z.2.2.1)]) (λ _=>_) (λ z=>l.length-z.1) ((0,none,[],0)) (⟨Nat.zero_le _,Nat.le_refl _,rfl,Nat.le_refl _,List.Pairwise.nil⟩) (λ z f hx=>?_) (hw0:=λ w hw=>(hw.Ii none).back)
 dsimp only[fY,List.map,List.cons_append,List.nil_append]
 refine F0 ?_;refine dE ?_;refine vI ?_
 refine aZ (λ c8=>?_) (λ c8=>?_)
 ·have hdl:=Fi z.2.2.1 (l.getD z.1 (⟨#[]⟩,0)).1
  refine nZ ?_;refine eG [(0,[]),(1,[]),(2,[]),(3,[]),(4,[]),(5,[]),(7,[]),(8,[]),(9,[]),(10,[]),(6,[9,10]),(11,[]),(12,[])] ?_;refine gP ?_;refine aU ?_;refine gT ?_;refine mF ?_;refine gP ?_;refine Qs ?_;refine bC (i:=6) (hq:=(cF (hc:=λ w1 hw=>uQ (l.getD z.1 (⟨#[]⟩,0)).1 (hw.cl fin) (by omega)))) (h:=λ x17 h17=>?_);refine bC (i:=11) (hq:=(cF (hc:=λ w1 hw=>L5 (l.getD z.1 (⟨#[]⟩,0)) (hw.cl fin) h17 (uG _ hx.2.2.2.2) Gz (by omega)))) (h:=λ x22 h22=>?_);refine J7 ?_;refine Kd0 ?_
  refine fV ((z.1+1,x22.1,kS (gS z.2.2.1 (l.getD z.1 (⟨#[]⟩,0)).1) (l.getD z.1 (⟨#[]⟩,0)).1 (l.getD z.1 (⟨#[]⟩,0)).2,x22.2)) ?_
  ·obtain⟨q1,q2,q3,q4,q5⟩:=hx
   have e:=Mc q5 (l.getD z.1 (⟨#[]⟩,0)).1 (l.getD z.1 (⟨#[]⟩,0)).2
   have hl:=vL (k:=(l.getD z.1 (⟨#[]⟩,0)).1) (v:=(l.getD z.1 (⟨#[]⟩,0)).2) q5
   rw[e] at h22
   refine⟨by show z.1+1<=l.length;omega,by show(kS _ _ _).length<=_;rw[e];exact h22,?_,?_,?_⟩
   ·show kS _ _ _=_
    rw[e,kH (by omega),uF,<- q3]
   ·show(kS _ _ _).length<=z.1+1
    rw[e,hl];split<;>omega
   ·show SA (kS _ _ _)
    rw[e];exact vF q5
 ·refine bF rfl ?_;refine Ka5 ?_
  refine aQ Tryz.results174 (λ w hw=>?_)
  obtain⟨q1,q2,q3,q4,q5⟩:=hx
  have e:z.2.2.1=Bz l:=by rw[q3,List.take_of_length_le (by omega)]
  rw[<- e]
  exact⟨(z.2.1,z.2.2.2),rfl,q2,hw.fin⟩
end
end

end Go.Proofs.YtadnboagdhcedaaGreatDoor
