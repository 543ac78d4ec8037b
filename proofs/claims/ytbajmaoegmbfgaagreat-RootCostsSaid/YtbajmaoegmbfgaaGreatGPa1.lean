/- Pairs: valid lists are maps. -/
import Derived.Test.YtbajmaoegmbfgaaGreatGSlices
import Derived.Lib.Bytealg
import Derived.Laws.Externs

set_option linter.unusedSimpArgs false
set_option linter.unusedVariables false
namespace Go.Proofs.YtbajmaoegmbfgaaGreat
section
open Go.RowKit Go.Ct
theorem zw{a b c:ByteArray}(h:dJ a b=true)(h2:dJ c b=false):dJ a c=true:=by
 cases hb:dJ b c with
 | true=>exact lS h hb
 | false=>have:=rB hb h2;subst this;exact h
theorem aAa{a b c:ByteArray}(h:dJ b a=false)(h2:dJ c b=false):dJ c a=false:=by
 cases hc:dJ c a with
 | false=>rfl
 | true=>have:=zw hc h;rw[this] at h2;cases h2
theorem rP{a b:ByteArray}(h:dJ a b=true):a≠b:=λ e=>by subst e;rw[sY] at h;cases h
theorem mh{a b:ByteArray}(h:dJ b a=false)(hn:a≠b):dJ a b=true:=by
 cases hb:dJ a b with
 | true=>rfl
 | false=>exact absurd (rB hb h) hn
def SA(l:List Pr):Prop:=l.Pairwise λ p q=>dJ p.1 q.1=true
theorem Vm{l:List Pr}(h:wh l):∀d i,i+d+1<l.length->dJ (l.getD i (⟨#[]⟩,0)).1 (l.getD (i+d+1) (⟨#[]⟩,0)).1=true
 | 0,i,hi=>by have:=h (i+1) (by omega) hi;rwa [Nat.add_sub_cancel] at this
 | d+1,i,hi=>lS (Vm h d i (by omega)) (by have:=h (i+(d+1)+1) (by omega) hi;rwa [Nat.add_sub_cancel] at this)
theorem iW{l:List Pr}{i:Nat}(h:i<l.length):l.getD i (⟨#[]⟩,0)=l[i]:=by simp[List.getD,List.getElem?_eq_getElem h]
theorem oV{l:List Pr}:wh l↔SA l:=by
 constructor
 ·intro h
  refine List.pairwise_iff_getElem.2 λ i j hi hj hij=>?_
  have:=Vm h (j-i-1) i (by omega)
  rw[show i+(j-i-1)+1=j by omega,iW hi,iW hj] at this
  exact this
 ·intro h i h1 hi
  rw[iW (by omega),iW hi]
  exact List.pairwise_iff_getElem.1 h (i-1) i (by omega) hi (by omega)
def rT:List Pr->ByteArray->Option Int
 | [],_=>none
 | p::l,k=>if p.1=k then some p.2 else rT l k
theorem qE{l:List Pr}{k:ByteArray}(h:∀p∈l,p.1≠k):rT l k=none:=by
 induction l with
 | nil=>rfl
 | cons p l ih=>exact(if_neg (h p (.head _))).trans (ih λ q hq=>h q (.tail _ hq))
theorem an:∀{l m:List Pr},SA l->SA m->(∀k,rT l k=rT m k)->l=m
 | [],[],_,_,_=>rfl
 | [],q::m,_,_,h=>by have:=h q.1;simp[rT] at this
 | p::l,[],_,_,h=>by have:=h p.1;simp[rT] at this
 | p::l,q::m,h1,h2,h=>by
  have h1':=List.pairwise_cons.1 h1
  have h2':=List.pairwise_cons.1 h2
  have e1:dJ p.1 q.1=false:=by
   cases hb:dJ p.1 q.1 with
   | false=>rfl
   | true =>
    have:rT (q::m) p.1=none:=qE λ x hx=>by
     rcases List.mem_cons.1 hx with rfl|hx
     ·exact(rP hb).symm
     ·exact(rP (lS hb (h2'.1 x hx))).symm
    have h':=h p.1
    rw[this] at h';simp[rT] at h'
  have e2:dJ q.1 p.1=false:=by
   cases hb:dJ q.1 p.1 with
   | false=>rfl
   | true =>
    have:rT (p::l) q.1=none:=qE λ x hx=>by
     rcases List.mem_cons.1 hx with rfl|hx
     ·exact(rP hb).symm
     ·exact(rP (lS hb (h1'.1 x hx))).symm
    have h':=h q.1
    rw[this] at h';simp[rT] at h'
  have ek:=rB e1 e2
  have ev:p.2=q.2:=by have:=h p.1;simpa[rT,ek] using this
  have et:l=m:=an h1'.2 h2'.2 λ k=>by
   by_cases hk:p.1=k
   ·subst hk
    rw[qE λ x hx=>(rP (h1'.1 x hx)).symm,qE λ x hx=>by rw[ek];exact(rP (h2'.1 x hx)).symm]
   ·have:=h k
    rw[rT,rT,if_neg hk,if_neg (by rw[<- ek];exact hk)] at this
    exact this
  rw[et,show p=q from Prod.ext ek ev]
def mQ:List Pr->ByteArray->Int->List Pr
 | [],k,v=>[(k,v)]
 | p::l,k,v=>if dJ p.1 k=true then p::mQ l k v else if p.1=k then(k,v)::l else(k,v)::p::l
def iY(l:List Pr)(k:ByteArray):List Pr:=l.filter λ p=>decide (p.1≠k)
theorem An{l:List Pr}{k:ByteArray}{v:Int}:∀{q:Pr},q∈mQ l k v->q=(k,v)∨q∈l:=by
 induction l with
 | nil=>intro q h;rw[mQ,List.mem_singleton] at h;exact .inl h
 | cons p l ih =>
  intro q h
  rw[mQ] at h
  split at h
  ·rcases List.mem_cons.1 h with rfl|h
   ·exact .inr (.head _)
   ·exact(ih h).imp id (.tail _)
  ·split at h
   ·exact(List.mem_cons.1 h).imp id (.tail _)
   ·exact List.mem_cons.1 h
theorem xL{k:ByteArray}{v:Int}:∀{l:List Pr},SA l->SA (mQ l k v)
 | [],_=>List.pairwise_singleton _ _
 | p::l,h=>by
  have h':=List.pairwise_cons.1 h
  rw[mQ]
  split
  ·next hlt =>
   refine List.pairwise_cons.2 ⟨λ q hq=>?_,xL h'.2⟩
   rcases An hq with rfl|hq
   ·exact hlt
   ·exact h'.1 q hq
  ·next hlt =>
   split
   ·next he =>
    subst he
    exact List.pairwise_cons.2 ⟨λ q hq=>h'.1 q hq,h'.2⟩
   ·next hne =>
    have hkp:dJ k p.1=true:=mh (by simpa using hlt) (λ e=>hne e.symm)
    refine List.pairwise_cons.2 ⟨λ q hq=>?_,h⟩
    rcases List.mem_cons.1 hq with rfl|hq
    ·exact hkp
    ·exact lS hkp (h'.1 q hq)
theorem Gy{k:ByteArray}{v:Int}(j:ByteArray):∀{l:List Pr},SA l->rT (mQ l k v) j=if j=k then some v else rT l j
 | [],_=>by
  simp only[mQ,rT]
  by_cases h:j=k
  ·rw[if_pos h,if_pos h.symm]
  ·rw[if_neg h,if_neg λ e=>h e.symm]
 | p::l,h=>by
  have h':=List.pairwise_cons.1 h
  have ih:=Gy (k:=k) (v:=v) j h'.2
  rw[mQ]
  split
  ·next hlt =>
   rw[rT,ih,rT]
   by_cases hj:j=k
   ·rw[if_pos hj,if_pos hj,if_neg λ e=>rP hlt (e.trans hj)]
   ·rw[if_neg hj,if_neg hj]
  ·split
   ·next he =>
    rw[rT,rT]
    by_cases hj:j=k
    ·rw[if_pos hj,if_pos hj.symm]
    ·rw[if_neg hj,if_neg λ e=>hj e.symm,if_neg λ e=>hj (e.symm.trans he)]
   ·rw[rT]
    by_cases hj:j=k
    ·rw[if_pos hj,if_pos hj.symm]
    ·rw[if_neg hj,if_neg λ e=>hj e.symm]
theorem vT{l:List Pr}(k:ByteArray)(h:SA l):SA (iY l k):=h.sublist List.filter_sublist
theorem Zb(l:List Pr)(k j:ByteArray):rT (iY l k) j=if j=k then none else rT l j:=by
 unfold iY
 induction l with
 | nil=>simp[rT]
 | cons p l ih =>
  rw[List.filter_cons]
  by_cases hp:p.1=k
  ·rw[if_neg (by simp[hp]),ih,rT]
   by_cases hj:j=k
   ·rw[if_pos hj,if_pos hj]
   ·rw[if_neg hj,if_neg hj,if_neg λ e=>hj (e.symm.trans hp)]
  ·rw[if_pos (by simp[hp]),rT,ih,rT]
   by_cases hj:j=k
   ·rw[if_pos hj,if_pos hj,if_neg λ e=>hp (e.trans hj)]
   ·rw[if_neg hj,if_neg hj]
theorem Rn{l:List Pr}(h:SA l)(k:ByteArray)(v:Int):mQ (iY l k) k v=mQ l k v :=
 an (xL (vT k h)) (xL h) λ j=>by
  rw[Gy j (vT k h),Gy j h,Zb]
  by_cases hj:j=k
  ·rw[if_pos hj,if_pos hj]
  ·rw[if_neg hj,if_neg hj,if_neg hj]
structure Oo(l:List Pr)(k:ByteArray)(i:Nat):Prop where
 le:i<=l.length
 lo:∀j,j<i->dJ (l.getD j (⟨#[]⟩,0)).1 k=true
 hi:∀j,i<=j->j<l.length->dJ (l.getD j (⟨#[]⟩,0)).1 k=false
theorem Oo.tl{p:Pr}{l:List Pr}{k:ByteArray}{i:Nat}(h:Oo (p::l) k (i+1)):dJ p.1 k=true/\Oo l k i :=
 ⟨h.lo 0 (by omega),⟨by have:=h.le;simp at this;omega,λ j hj=>h.lo (j+1) (by omega),λ j h1 h2=>h.hi (j+1) (by omega) (by simp;omega)⟩⟩
theorem W8{k:ByteArray}{v:Int}:∀{l:List Pr} {i:Nat},Oo l k i->¬(i<l.length/\(l.getD i (⟨#[]⟩,0)).1=k)->mQ l k v=l.take i++(k,v)::l.drop i
 | [],i,h,_=>by have:=h.le;simp at this;subst this;rfl
 | p::l,0,h,hn=>by
  have:dJ p.1 k=false:=h.hi 0 (Nat.le_refl _) (by simp)
  rw[mQ,if_neg (by rw[this];decide),if_neg λ e:p.1=k=>hn ⟨by simp,e⟩]
  rfl
 | p::l,i+1,h,hn=>by
  rw[mQ,if_pos h.tl.1,W8 h.tl.2 λ hh=>hn ⟨by simp;omega,hh.2⟩]
  rfl
theorem cg{k:ByteArray}:∀{l:List Pr} {v:Int},rT l k=some v->∃i,i<l.length/\(l.getD i (⟨#[]⟩,0)).1=k
 | [],_,h=>by cases h
 | p::l,v,h=>by
  rw[rT] at h
  split at h
  ·next he=>exact⟨0,by simp,he⟩
  ·obtain⟨i,h1,h2⟩:=cg h
   exact⟨i+1,by simp;omega,h2⟩
theorem yJ{k:ByteArray}{v:Int}:∀{l:List Pr},SA l->(mQ l k v).length=if(rT l k).isSome=true then l.length else l.length+1
 | [],_=>rfl
 | p::l,h=>by
  have h':=List.pairwise_cons.1 h
  rw[mQ]
  split
  ·next hlt =>
   rw[List.length_cons,yJ h'.2,rT,if_neg (rP hlt)]
   split<;>rfl
  ·next hlt =>
   split
   ·next he=>rw[rT,if_pos he];rfl
   ·next hne =>
    have hkp:dJ k p.1=true:=mh (by simpa using hlt) (λ e=>hne e.symm)
    rw[rT,if_neg hne,qE λ q hq=>(rP (lS hkp (h'.1 q hq))).symm]
    rfl
theorem Oq{k:ByteArray}:∀{l:List Pr},SA l->(iY l k).length=if(rT l k).isSome=true then l.length-1 else l.length
 | [],_=>rfl
 | p::l,h=>by
  have h':=List.pairwise_cons.1 h
  have ih:=Oq (k:=k) h'.2
  unfold iY at ih ⊢
  rw[List.filter_cons]
  by_cases hp:p.1=k
  ·have hn:∀q∈l,q.1≠k:=λ q hq=>by rw[<- hp];exact(rP (h'.1 q hq)).symm
   rw[if_neg (by simp[hp]),rT,if_pos hp,List.filter_eq_self.2 λ q hq=>by simpa using hn q hq]
   rfl
  ·rw[if_pos (by simp[hp]),List.length_cons,ih,rT,if_neg hp]
   split
   ·next hs =>
    have:1<=l.length:=by
     cases hf:rT l k with
     | none=>rw[hf] at hs;cases hs
     | some v=>obtain⟨i,hi,_⟩:=cg hf;omega
    rw[List.length_cons];omega
   ·rfl
def Ee(l:List Pr):List Pr:=l.foldl (λ acc p=>mQ acc p.1 p.2) []
theorem wZ(l:List Pr)(p:Pr):Ee (l++[p])=mQ (Ee l) p.1 p.2:=by unfold Ee;rw[List.foldl_append];rfl
theorem Ri{α:Type}{Q:List α->Prop}(h0:Q [])(h1:∀l x,Q l->Q (l++[x]))(l:List α):Q l:=by
 have key:∀m:List α,Q m.reverse:=λ m=>by
  induction m with
  | nil=>exact h0
  | cons x m ih=>rw[List.reverse_cons];exact h1 _ _ ih
 have:=key l.reverse
 rwa [List.reverse_reverse] at this
theorem fm(l:List Pr):SA (Ee l):=by
 induction l using Ri with
 | h0=>exact List.Pairwise.nil
 | h1 l x ih=>rw[wZ];exact xL ih
theorem U1(l:List Pr):(Ee l).length<=l.length:=by
 induction l using Ri with
 | h0=>exact Nat.le_refl _
 | h1 l x ih =>
  rw[wZ,yJ (fm l),List.length_append,List.length_singleton]
  split<;>omega
end

/- Pairs: comparing, searching; Find, Put, Drop. -/
end Go.Proofs.YtbajmaoegmbfgaaGreat
namespace Go.Ct
section
open Go Go.RowKit
variable{P:Program}{S:List (Nat×Value)}{w0 w:World}{M:List Nat}{H:List (Nat×Obj)}{A F:Fr}{O:List Ow}
theorem bP{G:World->Prop}{d:Nat}{ty:TypeId}{pos:String}{af:Array Edge}{gd:Option (Nat×Bool)}{x:Operand}{vs:List Value}{k:Nat}{v:Value}(hx:ev S x=.tuple ⟨vs⟩)(hk:vs[k]?=some v):aM P S G ⟨some d,.extract x k,ty,pos,af,gd⟩ v:=⟨λ w _=>by
 simp[execOp,hx,Instr.extract,hk]⟩
end
end Go.Ct
namespace Go.Proofs.YtbajmaoegmbfgaaGreat
section
open Go.RowKit Go.Ct
theorem aBv{l:List Pr}{k:ByteArray}{h:Nat}(hs:SA l)(hc:dJ (l.getD h (⟨#[]⟩,0)).1 k=false)(j:Nat)(h1:h<=j)(hj:j<l.length):dJ (l.getD j (⟨#[]⟩,0)).1 k=false:=by
 rcases Nat.lt_or_eq_of_le h1 with h2|rfl
 ·have:=List.pairwise_iff_getElem.1 hs h j (by omega) hj h2
  rw[<- iW,<- iW] at this
  exact aAa hc (D0 this)
 ·exact hc
end

/- Pairs: Find, Put, Drop of the program. -/
end Go.Proofs.YtbajmaoegmbfgaaGreat
namespace Go.Ct
section
open Go Go.RowKit
section
variable{P:Program}{n:Nat}{S:List (Nat×Value)}
variable{w0 w w':World}{M:List Nat}{H H':List (Nat×Obj)}{A F F':Fr}{O O':List Ow}{G:World->Prop}
variable{d:Nat}{ty:TypeId}{pos:String}{af:Array Edge}{gd:Option (Nat×Bool)}{dst:Option Nat}{x y z:Operand}{t t2 e:TypeId}{p a:Option Addr}{i m k c c2:Nat}
def tlP(a:Option Addr)(k c:Nat):Option Addr:=if c=k then a else a.map (·.add (2*k))
theorem kw(hx:ev S x=.slice a m c)(hy:ev S y=.int .i64 ((k:Nat):Int))(ht:P.underlying t=some (.slice e))(hs:(P.info? e).map (·.size)=some 2)(hk:k<=m)(hmc:m<=c) :
  aM P S G ⟨some d,.slice t x (some y) none none,ty,pos,af,gd⟩ (.slice (tlP a k c) (m-k) (c-k)):=⟨λ w _=>by
 have he:P.elem t=e:=by simp[Program.elem,ht]
 have ht':P.underlying t=some (.slice (P.elem t)):=by rw[he];exact ht
 cases hi:P.info? e with
 | none=>simp[hi] at hs
 | some inf =>
  have hs':inf.size=2:=by simpa[hi] using hs
  have hr:=run_slice_l (P:=P) w t a m c ht' .i64 (k:Int) (by omega) (by omega)
  refine gj (v:=.slice (tlP a k c) (m-k) (c-k)) ?_
  simp[hx,hy,run_sliceAt_slice w t _ _ _ _ ht',hr,he,sizeOf,typeInfo,hi,hs',sliced,tlP,Nat.mul_comm]⟩
theorem SF.aBH(h:SF w0 M H A F O w){l:List Pr}(hf:qT A F [] a (cZ l))(hc:l.length<=c):SF w0 M H ((tlP a k c,cZ (l.drop k))::A) F O w:=by
 have e:cZ (l.drop k)=(cZ l).drop (2*k):=by rw[O9]
 rw[e]
 refine h.Ug hf (λ hn=>?_) (λ h=>by rw[h];simp) (λ w hc'=>?_)
 ·unfold tlP
  split
  ·rfl
  ·cases a with
   | none=>rfl
   | some a =>
    obtain⟨b,o,s⟩:=a
    simp only[Option.map_some,cU,Addr.add]
    split<;>rfl
 ·unfold tlP
  split
  ·rename_i heq
   have:(cZ l).drop (2*k)=[]:=List.drop_eq_nil_of_le (by rw[gZ];omega)
   rw[this]
   exact Cl.nil _ _
  ·exact hc'.drop _
end
end
end Go.Ct
namespace Go.Proofs.YtbajmaoegmbfgaaGreat
section
open Go.RowKit Go.Ct
section
variable{l:List Pr}{a:Option Addr}{c:Nat}{k:ByteArray}{v:Int}{w:World}
open Classical in
noncomputable def dU (l:List Pr) (k:ByteArray):Option Int:=if SA l then rT l k else none
open Classical in
noncomputable def O8 (l:List Pr) (k:ByteArray) (v:Int):List Pr:=if SA l then mQ l k v else []
open Classical in
noncomputable def rV (l:List Pr) (k:ByteArray):List Pr:=if SA l then iY l k else []
def tx(w:World)(m:List Pr)(e:Ending)(w':World):Prop:=∃x:Option Addr×Nat,e=.returned (.slice x.1 m.length x.2)/\m.length<=x.2/\SF w [] [] [] [] [⟨x.1,cZ m,x.2,164,2⟩] w'
def Yn(w:World)(m:List Pr)(e:Ending)(w':World):Prop:=∃x:Option Addr×Nat,e=.returned (.slice x.1 m.length x.2)/\m.length<=x.2/\SF w [] [] [] [(x.1,cZ m)] [] w'
theorem tx.nu{w:World}{m:List Pr}{e:Ending}{w':World}(h:tx w m e w'):Yn w m e w':=by
 obtain⟨x,h1,h2,h3⟩:=h
 exact⟨x,h1,h2,h3.freeze .head (by simp)⟩
end
end

/- Pairs: the reference's Find, Put, Drop, Of, Equal. -/
section
open Go.RowKit Go.Ct
section
variable{l:List Pr}{a:Option Addr}{c:Nat}{k:ByteArray}{v:Int}{w:World}
theorem y4{l:List Pr}{k:ByteArray}:∀{i:Nat},i<l.length->(∀j,j<i->(l.getD j (⟨#[]⟩,0)).1≠k)->(l.getD i (⟨#[]⟩,0)).1=k->rT l k=some (l.getD i (⟨#[]⟩,0)).2:=by
 induction l with
 | nil=>intro i h;simp at h
 | cons p l ih =>
  intro i h hn he
  cases i with
  | zero=>exact if_pos he
  | succ i =>
   refine(if_neg (hn 0 (by omega))).trans ?_
   exact ih (by simp at h;omega) (λ j hj=>hn (j+1) (by omega)) he
theorem rn{l:List Pr}{k:ByteArray}(h:∀j,j<l.length->(l.getD j (⟨#[]⟩,0)).1≠k):rT l k=none:=qE λ p hp=>by
 obtain⟨j,hj,rfl⟩:=List.getElem_of_mem hp
 have:=h j hj
 rwa [iW hj] at this
theorem Jm(k:ByteArray)(ha:Cl w a (cZ l))(hlen:l.length<=1099511627775) :
  Calls Tryz.prog 60 #[.slice a l.length c,.string k] w λ e w'=>e=.returned (.tuple #[.int .u64 ((dU l k).getD 0),.bool (dU l k).isSome])/\St w [] [] w':=by
 refine enter Tryz.func60 Tryz.ntmps60 rfl rfl (SF.s1 ha) ?_
 simp only[cA]
 refine Py ?_;refine aS ?_;refine Ea ?_
 refine iL [4,5,6,7,8,9,10,11,12,13,14,15,16,17,18,19,20,21,22,23,24,25,26,27,28] (λ k=>[(6,.int .i64 ((k:Nat):Int))]) (λ i=>i<=l.length/\(i≠0->SA l)/\∀j,j<i->(l.getD j (⟨#[]⟩,0)).1≠k) (λ k=>l.length-k) (0) (⟨Nat.zero_le _,λ h=>absurd rfl h,λ j hj=>absurd hj (Nat.not_lt_zero j)⟩) ?_ (λ i f hx=>?_)
 ·repeat (first|exact bJ _|refine bF (by exact rfl) ?_)
 dsimp only[hX,List.map,List.cons_append,List.nil_append]
 refine Db ?_;refine eA ?_;refine Bu ?_
 (refine dZ 11 (λ g11=>?_) (λ g11=>?_)<;>refine Ka0 ?_)
 all_goals ((first|refine aI ?_|(refine aE ?_;refine aD (c0 (V:=.bool) (hc:=λ w1 hw=>mX (hw.cl fin) (by omega))) (λ x13 h13=>?_)));refine bX ?_;refine aG ?_)
 all_goals
 refine bD (λ c14=>?_) (λ c14=>?_)
 ·try exact nv c14
  all_goals (refine rR ?_;refine jJ ?_;refine gM ?_;refine Kc9 ?_;refine we ?_;refine aG ?_)
  all_goals
   refine bD (λ c23=>?_) (λ c23=>?_)
   ·refine jJ ?_;refine gM ?_;refine J3 ?_;refine J8 ?_
    refine aY Tryz.results60 (λ w hw=>?_)
    rw[show dU l k=some (l.getD i (⟨#[]⟩,0)).2 from(if_pos (oV.1 (h13.1 (by simp_all)))).trans (y4 (by omega) hx.2.2 c23)];exact⟨rfl,hw.done⟩
   ·refine Kc2 ?_
    refine fL (i+1) ?_ ?_ ?_
    ·omega
    ·repeat' (first|exact bJ _|refine bF ?_ ?_)
     exact rfl
    ·exact⟨by omega,λ _=>oV.1 (h13.1 (by simp_all)),λ j hj=>by rcases Nat.lt_succ_iff_lt_or_eq.1 hj with h|rfl;exact hx.2.2 j h;assumption⟩
 ·all_goals (refine bR rfl ?_;refine Py ?_)
  all_goals
   refine aY Tryz.results60 (λ w hw=>?_)
   first
   | (rw[show dU l k=none from if_neg λ hs=>by have:=h13.2 (oV.2 hs);simp_all];exact⟨rfl,hw.done⟩)
   | (rw[show dU l k=none by unfold dU;split;exact rn λ j hj=>hx.2.2 j (by omega);rfl];exact⟨rfl,hw.done⟩)
theorem M4{l:List Pr}{i:Nat}(hi:i<l.length)(k:ByteArray):(l.take (i+1)).filter (λ p=>decide (p.1≠k))=(l.take i).filter (λ p=>decide (p.1≠k))++(if(l.getD i (⟨#[]⟩,0)).1≠k then [l.getD i (⟨#[]⟩,0)] else []):=by
 rw[List.take_add_one,List.getElem?_eq_getElem hi,iW hi,List.filter_append]
 congr 1
 by_cases h:l[i].1=k<;>simp[h]
theorem Ho{l:List Pr}{i:Nat}(hi:i<l.length)(k:ByteArray):iY (l.take (i+1)) k=if(l.getD i (⟨#[]⟩,0)).1=k then iY (l.take i) k else iY (l.take i) k++[l.getD i (⟨#[]⟩,0)]:=by
 unfold iY
 rw[M4 hi k]
 by_cases h:(l.getD i (⟨#[]⟩,0)).1=k
 ·rw[if_neg λ hn=>hn h,if_pos h,List.append_nil]
 ·rw[if_pos h,if_neg h]
theorem Q1(k:ByteArray)(ha:Cl w a (cZ l))(hlen:l.length<=200000000000) :
  Calls Tryz.prog 111 #[.slice a l.length c,.string k] w (tx w (iY l k)):=by
 refine enter Tryz.func111 Tryz.ntmps111 rfl rfl (SF.s1 ha) ?_
 simp only[cA]
 refine cS ?_;refine Gi ?_;refine Ea ?_
 refine oK [5,6,7,8,9,10,11,12,13,14,15,16,17,18,19,20,21,22,23,24,25,26] (λ z:Nat×Option Addr×List Pr×Nat=>[(6,.int .i64 ((z.1:Nat):Int)),(5,.slice z.2.1 z.2.2.1.length z.2.2.2)]) (λ z=>z.1<=l.length/\z.2.2.1.length<=z.2.2.2/\z.2.2.1=iY (l.take z.1) k/\z.2.2.1.length<=z.1) (λ _=>_) (λ _=>_) (λ z=>[⟨z.2.1,cZ z.2.2.1,z.2.2.2,164,2⟩]) (λ z=>l.length-z.1) ((0,none,[],0)) (⟨Nat.zero_le _,Nat.le_refl _,rfl,Nat.le_refl _⟩) (λ z f hx=>?_) (hw0:=λ w hw=>(hw.kU 164 2).back)
 dsimp only[hX,List.map,List.cons_append,List.nil_append]
 refine Db ?_;refine eA ?_;refine Bv ?_
 refine bD (λ c10=>?_) (λ c10=>?_)
 ·refine rR ?_;refine jJ ?_;refine gM ?_;refine Kc9 ?_;refine vu ?_;refine aG ?_
  refine bD (λ c19=>?_) (λ c19=>?_)
  ·refine Aa ?_;refine pV ?_;refine Ru ?_;refine fF (λ x25=>?_);(refine fE (λ x26=>?_);try (refine eN (λ h26=>?_)));refine J1 ?_;refine Kb2 ?_
   refine jG ((by exact(z.1+1,x26.1,z.2.2.1++[l.getD z.1 (⟨#[]⟩,0)],x26.2))) ?_ (hw1:=λ w hw=>by exact hw.back (hO:=by exact List.Sublist.refl _))
   ·obtain⟨q1,q2,q3,q4⟩:=hx
    have hdt:=Ho (l:=l) (i:=z.1) (by omega) k
    first
    | exact⟨by show z.1+1<=l.length;omega,by simp only[List.length_append,List.length_cons,List.length_nil];omega,by rw[if_neg (by assumption),<- q3] at hdt;exact hdt.symm,by simp only[List.length_append,List.length_cons,List.length_nil];omega⟩
    | exact⟨by show z.1+1<=l.length;omega,q2,by rw[if_pos (by assumption),<- q3] at hdt;exact hdt.symm,by show z.2.2.1.length<=z.1+1;omega⟩
  ·refine Kc2 ?_
   refine jG ((by exact(z.1+1,z.2.1,z.2.2.1,z.2.2.2))) ?_ (hw1:=λ w hw=>by exact hw.back (hO:=by exact List.Sublist.refl _))
   ·obtain⟨q1,q2,q3,q4⟩:=hx
    have hdt:=Ho (l:=l) (i:=z.1) (by omega) k
    first
    | exact⟨by show z.1+1<=l.length;omega,by simp only[List.length_append,List.length_cons,List.length_nil];omega,by rw[if_neg (by assumption),<- q3] at hdt;exact hdt.symm,by simp only[List.length_append,List.length_cons,List.length_nil];omega⟩
    | exact⟨by show z.1+1<=l.length;omega,q2,by rw[if_pos (by assumption),<- q3] at hdt;exact hdt.symm,by show z.2.2.1.length<=z.1+1;omega⟩
 ·refine bR rfl ?_;refine Ka5 ?_
  refine aQ Tryz.results111 (λ w hw=>?_)
  obtain⟨q1,q2,q3,q4⟩:=hx
  have e:z.2.2.1=iY l k:=by rw[q3,List.take_of_length_le (by omega)]
  rw[<- e]
  exact⟨(z.2.1,z.2.2.2),rfl,q2,hw.aX⟩
theorem lX{l:List Pr}{i:Nat}(hi:i<l.length):l.take (i+1)=l.take i++[l.getD i (⟨#[]⟩,0)]:=by
 rw[List.take_add_one,List.getElem?_eq_getElem hi,iW hi];rfl
theorem ah(p:Pr)(ha:Cl w a (cZ l))(hc:l.length<=c)(hs:SA l)(hn:∀q∈l,q.1≠p.1)(hlen:l.length<=200000000000) :
    Calls Tryz.prog 110 #[.slice a l.length c,.agg ⟨[.string p.1,.int .u64 p.2]⟩] w (tx w (mQ l p.1 p.2)):=by
  refine enter Tryz.func110 Tryz.ntmps110 rfl rfl (SF.s1 ha) ?_
  simp only[cA]
  refine J0 ?_;refine bK (λ x3=>?_);refine J1 ?_;refine Gi ?_;refine Ea ?_
  refine oK [5,6,8,9,10,11,12,13,14,15,16,17,18,19,20,21,22,23,24,25,26,27,28,29,30] (λ z:Nat×Option Addr×List Pr×Nat=>[(6,.int .i64 ((z.1:Nat):Int)),(5,.slice z.2.1 z.2.2.1.length z.2.2.2)]) (λ z=>z.1<=l.length/\z.2.2.1.length<=z.2.2.2/\z.2.2.1=l.take z.1/\z.2.2.1.length=z.1/\∀j,j<z.1->dJ (l.getD j (⟨#[]⟩,0)).1 p.1=true) (λ z=>[(x3,.cells ⟨[.string p.1,.int .u64 p.2]⟩ 164 (0,0))]) (λ _=>_) (λ z=>[⟨z.2.1,cZ z.2.2.1,z.2.2.2,164,2⟩]) (λ z=>l.length-z.1) ((0,none,[],0)) (⟨Nat.zero_le _,Nat.le_refl _,rfl,rfl,λ j hj=>absurd hj (Nat.not_lt_zero j)⟩) (λ z f hx=>?_) (hw0:=λ w hw=>(hw.kU 164 2).back)
  dsimp only[hX,List.map,List.cons_append,List.nil_append]
  refine aS ?_;refine aS ?_;refine gS [0,1,2,3,4,5,6,7,8,9,10,11,12,13] ?_;refine iF ?_;refine oE ?_;refine Df ?_;refine aT ?_
  (refine ra 12 (λ g12=>?_) (λ g12=>?_)<;>(first|refine gA ?_|(refine aT ?_)))
  all_goals ((first|refine gA ?_|(refine aT ?_));(first|refine gA ?_|(refine jA ?_));refine J18 ?_;refine J18 ?_;(first|refine gA ?_|(refine de ?_));refine mM ?_;refine eU ?_)
  all_goals
   refine bD (λ c21=>?_) (λ c21=>?_)
   · try exact nv c21
     all_goals (refine rR ?_;refine Aa ?_;refine pV ?_;refine Ru ?_;refine fF (λ x29=>?_);(refine aN (by(exact bG.eM (M1 rf rf yX rfl fin (by exact qL rfl) gH (by omega)) (by intro x;simp only[kZ];exact rfl))) (λ x30=>?_);try (refine eN (λ h30=>?_)));refine J1 ?_;refine Kb2 ?_)
     all_goals
      refine jG ((z.1+1,x30.1,z.2.2.1++[l.getD z.1 (⟨#[]⟩,0)],x30.2)) ?_ (hw1:=λ w hw=>hw.back (hO:=by exact List.Sublist.refl _))
      · obtain⟨q1,q2,q3,q4,q5⟩:=hx
        refine⟨by show z.1+1<=l.length;omega,by simp only[List.length_append,List.length_cons,List.length_nil];omega,by rw[lX (by omega),<- q3],by simp only[List.length_append,List.length_cons,List.length_nil];omega,λ j hj=>?_⟩
        rcases Nat.lt_succ_iff_lt_or_eq.1 hj with h|rfl
        · exact q5 j h
        · exact c21
   · all_goals
      refine kr (λ w hw=>hw.aBH (k:=z.2.2.1.length) (c:=c) fin hc) ?_
     all_goals (refine bR rfl ?_;refine J2 ?_;refine eA ?_;refine iZ ?_;refine gS [0,1,4,5,6,2,3,7,8] ?_;refine aT ?_;refine Ka9 ?_;refine cP (i:=6) (hq:=(kw (k:=z.2.2.1.length) rf rf gH (by exact uL rfl) (by omega) (by omega))) (h:=?_);refine cB (h:=λ x35=>?_);((refine cO (i:=3) (hq:=(by(exact bG.eM (M1 rf rf yX rfl fin (by exact qL rfl) gH (by omega)) (by intro x;simp only[kZ];exact rfl)))) (h:=λ x36=>?_);try (refine eI (λ h36=>?_))));((refine cO (i:=7) (hq:=(by(exact bG.eM (Ll (l2:=l.drop z.2.2.1.length) rf rf yX (by simp;done) fin (by rw[List.length_drop]) (by exact qL rfl) gH (by omega)) (by intro x;simp only[kZ];exact rfl)))) (h:=λ x40=>?_);try (refine eI (λ h40=>?_))));refine J7 ?_)
     all_goals
      refine aQ Tryz.results110 (λ w hw=>?_)
      obtain⟨q1,q2,q3,q4,q5⟩:=hx
      have hp:Oo l p.1 z.1:=⟨q1,q5,by first|exact aBv hs c21|(intro j h1 h2;omega)⟩
      have e:mQ l p.1 p.2=z.2.2.1++[(p.1,p.2)]++l.drop z.2.2.1.length:=by
       rw[W8 hp λ hh=>?_,q4,<- q3,List.append_assoc]
       · rfl
       · exact hn _ (by rw[iW hh.1];exact List.getElem_mem hh.1) hh.2
      have e2:(z.2.2.1++[(p.1,p.2)]++l.drop z.2.2.1.length).length=z.2.2.1.length+1+(l.length-z.2.2.1.length):=by rw[List.length_append,List.length_append,List.length_drop];rfl
      rw[e]
      exact⟨x40,by rw[e2];rfl,by rw[e2];exact h40,hw.aX⟩
theorem wT(k:ByteArray)(ha:Cl w a (cZ l))(hlen:l.length<=200000000000) :
  Calls Tryz.prog 111 #[.slice a l.length c,.string k] w (Yn w (iY l k)):=(Q1 k ha hlen).mono λ _ _ h=>h.nu
theorem Rb(p:Pr)(ha:Cl w a (cZ l))(hc:l.length<=c)(hs:SA l)(hn:∀q∈l,q.1≠p.1)(hlen:l.length<=200000000000) :
  Calls Tryz.prog 110 #[.slice a l.length c,.agg ⟨[.string p.1,.int .u64 p.2]⟩] w (Yn w (mQ l p.1 p.2)):=(ah p ha hc hs hn hlen).mono λ _ _ h=>h.nu
theorem K3{l:List Pr}{k:ByteArray}:∀q∈iY l k,q.1≠k:=λ q hq=>by simpa using(List.mem_filter.1 hq).2
theorem Fk(l:List Pr)(k:ByteArray):(iY l k).length<=l.length:=List.length_filter_le _ _
theorem Z9(k:ByteArray)(v:Int)(ha:Cl w a (cZ l))(hlen:l.length<=200000000000) :
  Calls Tryz.prog 256 #[.slice a l.length c,.string k,.int .u64 v] w (Yn w (O8 l k v)):=by
 have hdl:=Fk l k
 refine enter Tryz.func256 Tryz.ntmps256 rfl rfl (SF.s1 ha) ?_
 simp only[cA]
 refine Kb3 ?_;refine aD (c0 (V:=.bool) (hc:=λ w1 hw=>mX (hw.cl fin) (by omega))) (λ x8 h8=>?_);refine pE ?_
 refine bD (λ c9=>?_) (λ c9=>?_)
 ·refine cS ?_
  refine aQ Tryz.results256 (λ w hw=>?_)
  rw[show O8 l k v=[] from if_neg λ hs=>by rw[h8.2 (oV.2 hs)] at c9;cases c9];exact⟨(none,0),rfl,Nat.le_refl _,(hw.Mo none).fin⟩
 ·have hs:SA l:=oV.1 (h8.1 (by simpa using c9))
  refine El ?_;refine aD (cF (hc:=λ w1 hw=>wT k (hw.cl fin) hlen)) (λ x12 h12=>?_);refine pV ?_;refine bI ?_;refine aD (cF (hc:=λ w1 hw=>Rb (k,v) (hw.cl fin) h12 (vT k hs) K3 (by omega))) (λ x16 h16=>?_);refine J1 ?_
  refine aQ Tryz.results256 (λ w hw=>?_)
  rw[show O8 l k v=mQ (iY l k) k v from(if_pos hs).trans (Rn hs k v).symm];exact⟨x16,rfl,h16,hw.fin⟩
theorem Yc(k:ByteArray)(ha:Cl w a (cZ l))(hlen:l.length<=200000000000) :
  Calls Tryz.prog 258 #[.slice a l.length c,.string k] w (Yn w (rV l k)):=by
 refine enter Tryz.func258 Tryz.ntmps258 rfl rfl (SF.s1 ha) ?_
 simp only[cA]
 refine Kb3 ?_;refine aD (c0 (V:=.bool) (hc:=λ w1 hw=>mX (hw.cl fin) (by omega))) (λ x6 h6=>?_);refine pE ?_
 refine bD (λ c7=>?_) (λ c7=>?_)
 ·refine cS ?_
  refine aQ Tryz.results258 (λ w hw=>?_)
  rw[show rV l k=[] from if_neg λ hs=>by rw[h6.2 (oV.2 hs)] at c7;cases c7];exact⟨(none,0),rfl,Nat.le_refl _,(hw.Mo none).fin⟩
 ·have hs:SA l:=oV.1 (h6.1 (by simpa using c7))
  refine El ?_;refine aD (cF (hc:=λ w1 hw=>wT k (hw.cl fin) hlen)) (λ x10 h10=>?_);refine J1 ?_
  refine aQ Tryz.results258 (λ w hw=>?_)
  rw[show rV l k=iY l k from if_pos hs];exact⟨x10,rfl,h10,hw.fin⟩
theorem rq(ha:Cl w a (cZ l))(hlen:l.length<=200000000000) :
  Calls Tryz.prog 61 #[.slice a l.length c] w (Yn w (Ee l)):=by
 refine enter Tryz.func61 Tryz.ntmps61 rfl rfl (SF.s1 ha) ?_
 simp only[cA]
 refine cS ?_;refine Gi ?_;refine Ea ?_
 refine oK [3,4,5,6,7,8,9,10,11,12,13,14,15,16,17,18,19,20,21,22] (λ z:Nat×Option Addr×List Pr×Nat=>[(4,.int .i64 ((z.1:Nat):Int)),(3,.slice z.2.1 z.2.2.1.length z.2.2.2)]) (λ z=>z.1<=l.length/\z.2.2.1.length<=z.2.2.2/\z.2.2.1=Ee (l.take z.1)/\z.2.2.1.length<=z.1/\SA z.2.2.1) (λ _=>_) (λ z=>[(z.2.1,cZ z.2.2.1)]) (λ _=>_) (λ z=>l.length-z.1) ((0,none,[],0)) (⟨Nat.zero_le _,Nat.le_refl _,rfl,Nat.le_refl _,List.Pairwise.nil⟩) (λ z f hx=>?_) (hw0:=λ w hw=>(hw.Mo none).back)
 dsimp only[hX,List.map,List.cons_append,List.nil_append]
 refine Db ?_;refine eA ?_;refine Bv ?_
 refine bD (λ c8=>?_) (λ c8=>?_)
 ·have hdl:=Fk z.2.2.1 (l.getD z.1 (⟨#[]⟩,0)).1
  refine rR ?_;refine eG [(0,[]),(1,[]),(2,[]),(3,[]),(4,[]),(5,[]),(7,[]),(8,[]),(9,[]),(10,[]),(6,[9,10]),(11,[]),(12,[])] ?_;refine iF ?_;refine aT ?_;refine jA ?_;refine nA ?_;refine iF ?_;refine S7 ?_;refine bC (i:=6) (hq:=(cF (hc:=λ w1 hw=>wT (l.getD z.1 (⟨#[]⟩,0)).1 (hw.cl fin) (by omega)))) (h:=λ x17 h17=>?_);refine bC (i:=11) (hq:=(cF (hc:=λ w1 hw=>Rb (l.getD z.1 (⟨#[]⟩,0)) (hw.cl fin) h17 (vT _ hx.2.2.2.2) K3 (by omega)))) (h:=λ x22 h22=>?_);refine J7 ?_;refine Kb2 ?_
  refine jG ((z.1+1,x22.1,mQ (iY z.2.2.1 (l.getD z.1 (⟨#[]⟩,0)).1) (l.getD z.1 (⟨#[]⟩,0)).1 (l.getD z.1 (⟨#[]⟩,0)).2,x22.2)) ?_
  ·obtain⟨q1,q2,q3,q4,q5⟩:=hx
   have e:=Rn q5 (l.getD z.1 (⟨#[]⟩,0)).1 (l.getD z.1 (⟨#[]⟩,0)).2
   have hl:=yJ (k:=(l.getD z.1 (⟨#[]⟩,0)).1) (v:=(l.getD z.1 (⟨#[]⟩,0)).2) q5
   rw[e] at h22
   refine⟨by show z.1+1<=l.length;omega,by show(mQ _ _ _).length<=_;rw[e];exact h22,?_,?_,?_⟩
   ·show mQ _ _ _=_
    rw[e,lX (by omega),wZ,<- q3]
   ·show(mQ _ _ _).length<=z.1+1
    rw[e,hl];split<;>omega
   ·show SA (mQ _ _ _)
    rw[e];exact xL q5
 ·refine bR rfl ?_;refine Ka5 ?_
  refine aQ Tryz.results61 (λ w hw=>?_)
  obtain⟨q1,q2,q3,q4,q5⟩:=hx
  have e:z.2.2.1=Ee l:=by rw[q3,List.take_of_length_le (by omega)]
  rw[<- e]
  exact⟨(z.2.1,z.2.2.2),rfl,q2,hw.fin⟩
end
end

/- Pairs: the algebra. -/
section
open Go.RowKit Go.Ct
section
variable{l X:List Pr}{a:Option Addr}{c M:Nat}{k j:ByteArray}{v z:Int}{w:World}
theorem uo(X:List Pr)(k:ByteArray)(v:Int):(O8 X k v).length<=X.length+1:=by
 unfold O8
 split
 ·next h=>rw[yJ h];split<;>omega
 ·exact Nat.zero_le _
theorem bh(X:List Pr)(k:ByteArray):(rV X k).length<=X.length:=by
 unfold rV
 split
 ·exact Fk X k
 ·exact Nat.zero_le _
end
end

end Go.Proofs.YtbajmaoegmbfgaaGreat
