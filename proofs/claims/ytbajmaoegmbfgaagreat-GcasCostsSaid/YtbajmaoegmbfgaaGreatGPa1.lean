/- Pairs: valid lists are maps. -/
import Derived.Test.YtbajmaoegmbfgaaGreatGSlices
import Derived.Lib.Bytealg
import Derived.Laws.Externs

set_option linter.unusedSimpArgs false
set_option linter.unusedVariables false
namespace Go.Proofs.YtbajmaoegmbfgaaGreat
section
open Go.RowKit Go.Ct
theorem wj{a b c:ByteArray}(h:dH a b=true)(h2:dH c b=false):dH a c=true:=by
 cases hb:dH b c with
 | true=>exact lM h hb
 | false=>have:=qK hb h2;subst this;exact h
theorem ur{a b c:ByteArray}(h:dH b a=false)(h2:dH c b=false):dH c a=false:=by
 cases hc:dH c a with
 | false=>rfl
 | true=>have:=wj hc h;rw[this] at h2;cases h2
theorem qZ{a b:ByteArray}(h:dH a b=true):a≠b:=λ e=>by subst e;rw[oT] at h;cases h
theorem cq{a b:ByteArray}(h:dH b a=false)(hn:a≠b):dH a b=true:=by
 cases hb:dH a b with
 | true=>rfl
 | false=>exact absurd (qK hb h) hn
def SA(l:List Pr):Prop:=l.Pairwise λ p q=>dH p.1 q.1=true
theorem Vb{l:List Pr}(h:r3 l):∀d i,i+d+1<l.length->dH (l.getD i (⟨#[]⟩,0)).1 (l.getD (i+d+1) (⟨#[]⟩,0)).1=true
 | 0,i,hi=>by have:=h (i+1) (by omega) hi;rwa [Nat.add_sub_cancel] at this
 | d+1,i,hi=>lM (Vb h d i (by omega)) (by have:=h (i+(d+1)+1) (by omega) hi;rwa [Nat.add_sub_cancel] at this)
theorem iH{l:List Pr}{i:Nat}(h:i<l.length):l.getD i (⟨#[]⟩,0)=l[i]:=by simp[List.getD,List.getElem?_eq_getElem h]
theorem mV{l:List Pr}:r3 l↔SA l:=by
 constructor
 ·intro h
  refine List.pairwise_iff_getElem.2 λ i j hi hj hij=>?_
  have:=Vb h (j-i-1) i (by omega)
  rw[show i+(j-i-1)+1=j by omega,iH hi,iH hj] at this
  exact this
 ·intro h i h1 hi
  rw[iH (by omega),iH hi]
  exact List.pairwise_iff_getElem.1 h (i-1) i (by omega) hi (by omega)
def rC:List Pr->ByteArray->Option Int
 | [],_=>none
 | p::l,k=>if p.1=k then some p.2 else rC l k
theorem pN{l:List Pr}{k:ByteArray}(h:∀p∈l,p.1≠k):rC l k=none:=by
 induction l with
 | nil=>rfl
 | cons p l ih=>exact(if_neg (h p (.head _))).trans (ih λ q hq=>h q (.tail _ hq))
theorem Zc:∀{l m:List Pr},SA l->SA m->(∀k,rC l k=rC m k)->l=m
 | [],[],_,_,_=>rfl
 | [],q::m,_,_,h=>by have:=h q.1;simp[rC] at this
 | p::l,[],_,_,h=>by have:=h p.1;simp[rC] at this
 | p::l,q::m,h1,h2,h=>by
  have h1':=List.pairwise_cons.1 h1
  have h2':=List.pairwise_cons.1 h2
  have e1:dH p.1 q.1=false:=by
   cases hb:dH p.1 q.1 with
   | false=>rfl
   | true =>
    have:rC (q::m) p.1=none:=pN λ x hx=>by
     rcases List.mem_cons.1 hx with rfl|hx
     ·exact(qZ hb).symm
     ·exact(qZ (lM hb (h2'.1 x hx))).symm
    have h':=h p.1
    rw[this] at h';simp[rC] at h'
  have e2:dH q.1 p.1=false:=by
   cases hb:dH q.1 p.1 with
   | false=>rfl
   | true =>
    have:rC (p::l) q.1=none:=pN λ x hx=>by
     rcases List.mem_cons.1 hx with rfl|hx
     ·exact(qZ hb).symm
     ·exact(qZ (lM hb (h1'.1 x hx))).symm
    have h':=h q.1
    rw[this] at h';simp[rC] at h'
  have ek:=qK e1 e2
  have ev:p.2=q.2:=by have:=h p.1;simpa[rC,ek] using this
  have et:l=m:=Zc h1'.2 h2'.2 λ k=>by
   by_cases hk:p.1=k
   ·subst hk
    rw[pN λ x hx=>(qZ (h1'.1 x hx)).symm,pN λ x hx=>by rw[ek];exact(qZ (h2'.1 x hx)).symm]
   ·have:=h k
    rw[rC,rC,if_neg hk,if_neg (by rw[<- ek];exact hk)] at this
    exact this
  rw[et,show p=q from Prod.ext ek ev]
def lR:List Pr->ByteArray->Int->List Pr
 | [],k,v=>[(k,v)]
 | p::l,k,v=>if dH p.1 k=true then p::lR l k v else if p.1=k then(k,v)::l else(k,v)::p::l
def iR(l:List Pr)(k:ByteArray):List Pr:=l.filter λ p=>decide (p.1≠k)
theorem Am{l:List Pr}{k:ByteArray}{v:Int}:∀{q:Pr},q∈lR l k v->q=(k,v)∨q∈l:=by
 induction l with
 | nil=>intro q h;rw[lR,List.mem_singleton] at h;exact .inl h
 | cons p l ih =>
  intro q h
  rw[lR] at h
  split at h
  ·rcases List.mem_cons.1 h with rfl|h
   ·exact .inr (.head _)
   ·exact(ih h).imp id (.tail _)
  ·split at h
   ·exact(List.mem_cons.1 h).imp id (.tail _)
   ·exact List.mem_cons.1 h
theorem wR{k:ByteArray}{v:Int}:∀{l:List Pr},SA l->SA (lR l k v)
 | [],_=>List.pairwise_singleton _ _
 | p::l,h=>by
  have h':=List.pairwise_cons.1 h
  rw[lR]
  split
  ·next hlt =>
   refine List.pairwise_cons.2 ⟨λ q hq=>?_,wR h'.2⟩
   rcases Am hq with rfl|hq
   ·exact hlt
   ·exact h'.1 q hq
  ·next hlt =>
   split
   ·next he =>
    subst he
    exact List.pairwise_cons.2 ⟨λ q hq=>h'.1 q hq,h'.2⟩
   ·next hne =>
    have hkp:dH k p.1=true:=cq (by simpa using hlt) (λ e=>hne e.symm)
    refine List.pairwise_cons.2 ⟨λ q hq=>?_,h⟩
    rcases List.mem_cons.1 hq with rfl|hq
    ·exact hkp
    ·exact lM hkp (h'.1 q hq)
theorem Ey{k:ByteArray}{v:Int}(j:ByteArray):∀{l:List Pr},SA l->rC (lR l k v) j=if j=k then some v else rC l j
 | [],_=>by
  simp only[lR,rC]
  by_cases h:j=k
  ·rw[if_pos h,if_pos h.symm]
  ·rw[if_neg h,if_neg λ e=>h e.symm]
 | p::l,h=>by
  have h':=List.pairwise_cons.1 h
  have ih:=Ey (k:=k) (v:=v) j h'.2
  rw[lR]
  split
  ·next hlt =>
   rw[rC,ih,rC]
   by_cases hj:j=k
   ·rw[if_pos hj,if_pos hj,if_neg λ e=>qZ hlt (e.trans hj)]
   ·rw[if_neg hj,if_neg hj]
  ·split
   ·next he =>
    rw[rC,rC]
    by_cases hj:j=k
    ·rw[if_pos hj,if_pos hj.symm]
    ·rw[if_neg hj,if_neg λ e=>hj e.symm,if_neg λ e=>hj (e.symm.trans he)]
   ·rw[rC]
    by_cases hj:j=k
    ·rw[if_pos hj,if_pos hj.symm]
    ·rw[if_neg hj,if_neg λ e=>hj e.symm]
theorem wK{l:List Pr}(k:ByteArray)(h:SA l):SA (iR l k):=h.sublist List.filter_sublist
theorem Wr(l:List Pr)(k j:ByteArray):rC (iR l k) j=if j=k then none else rC l j:=by
 unfold iR
 induction l with
 | nil=>simp[rC]
 | cons p l ih =>
  rw[List.filter_cons]
  by_cases hp:p.1=k
  ·rw[if_neg (by simp[hp]),ih,rC]
   by_cases hj:j=k
   ·rw[if_pos hj,if_pos hj]
   ·rw[if_neg hj,if_neg hj,if_neg λ e=>hj (e.symm.trans hp)]
  ·rw[if_pos (by simp[hp]),rC,ih,rC]
   by_cases hj:j=k
   ·rw[if_pos hj,if_pos hj,if_neg λ e=>hp (e.trans hj)]
   ·rw[if_neg hj,if_neg hj]
theorem Nj{l:List Pr}(h:SA l)(k:ByteArray)(v:Int):lR (iR l k) k v=lR l k v :=
 Zc (wR (wK k h)) (wR h) λ j=>by
  rw[Ey j (wK k h),Ey j h,Wr]
  by_cases hj:j=k
  ·rw[if_pos hj,if_pos hj]
  ·rw[if_neg hj,if_neg hj,if_neg hj]
structure Qh(l:List Pr)(k:ByteArray)(i:Nat):Prop where
 le:i<=l.length
 lo:∀j,j<i->dH (l.getD j (⟨#[]⟩,0)).1 k=true
 hi:∀j,i<=j->j<l.length->dH (l.getD j (⟨#[]⟩,0)).1 k=false
theorem Qh.tl{p:Pr}{l:List Pr}{k:ByteArray}{i:Nat}(h:Qh (p::l) k (i+1)):dH p.1 k=true/\Qh l k i :=
 ⟨h.lo 0 (by omega),⟨by have:=h.le;simp at this;omega,λ j hj=>h.lo (j+1) (by omega),λ j h1 h2=>h.hi (j+1) (by omega) (by simp;omega)⟩⟩
theorem Vu{k:ByteArray}{v:Int}:∀{l:List Pr} {i:Nat},Qh l k i->¬(i<l.length/\(l.getD i (⟨#[]⟩,0)).1=k)->lR l k v=l.take i++(k,v)::l.drop i
 | [],i,h,_=>by have:=h.le;simp at this;subst this;rfl
 | p::l,0,h,hn=>by
  have:dH p.1 k=false:=h.hi 0 (Nat.le_refl _) (by simp)
  rw[lR,if_neg (by rw[this];decide),if_neg λ e:p.1=k=>hn ⟨by simp,e⟩]
  rfl
 | p::l,i+1,h,hn=>by
  rw[lR,if_pos h.tl.1,Vu h.tl.2 λ hh=>hn ⟨by simp;omega,hh.2⟩]
  rfl
theorem ay{k:ByteArray}:∀{l:List Pr} {v:Int},rC l k=some v->∃i,i<l.length/\(l.getD i (⟨#[]⟩,0)).1=k
 | [],_,h=>by cases h
 | p::l,v,h=>by
  rw[rC] at h
  split at h
  ·next he=>exact⟨0,by simp,he⟩
  ·obtain⟨i,h1,h2⟩:=ay h
   exact⟨i+1,by simp;omega,h2⟩
theorem xL{k:ByteArray}{v:Int}:∀{l:List Pr},SA l->(lR l k v).length=if(rC l k).isSome=true then l.length else l.length+1
 | [],_=>rfl
 | p::l,h=>by
  have h':=List.pairwise_cons.1 h
  rw[lR]
  split
  ·next hlt =>
   rw[List.length_cons,xL h'.2,rC,if_neg (qZ hlt)]
   split<;>rfl
  ·next hlt =>
   split
   ·next he=>rw[rC,if_pos he];rfl
   ·next hne =>
    have hkp:dH k p.1=true:=cq (by simpa using hlt) (λ e=>hne e.symm)
    rw[rC,if_neg hne,pN λ q hq=>(qZ (lM hkp (h'.1 q hq))).symm]
    rfl
theorem Pn{k:ByteArray}:∀{l:List Pr},SA l->(iR l k).length=if(rC l k).isSome=true then l.length-1 else l.length
 | [],_=>rfl
 | p::l,h=>by
  have h':=List.pairwise_cons.1 h
  have ih:=Pn (k:=k) h'.2
  unfold iR at ih ⊢
  rw[List.filter_cons]
  by_cases hp:p.1=k
  ·have hn:∀q∈l,q.1≠k:=λ q hq=>by rw[<- hp];exact(qZ (h'.1 q hq)).symm
   rw[if_neg (by simp[hp]),rC,if_pos hp,List.filter_eq_self.2 λ q hq=>by simpa using hn q hq]
   rfl
  ·rw[if_pos (by simp[hp]),List.length_cons,ih,rC,if_neg hp]
   split
   ·next hs =>
    have:1<=l.length:=by
     cases hf:rC l k with
     | none=>rw[hf] at hs;cases hs
     | some v=>obtain⟨i,hi,_⟩:=ay hf;omega
    rw[List.length_cons];omega
   ·rfl
def Dk(l:List Pr):List Pr:=l.foldl (λ acc p=>lR acc p.1 p.2) []
theorem wG(l:List Pr)(p:Pr):Dk (l++[p])=lR (Dk l) p.1 p.2:=by unfold Dk;rw[List.foldl_append];rfl
theorem M2{α:Type}{Q:List α->Prop}(h0:Q [])(h1:∀l x,Q l->Q (l++[x]))(l:List α):Q l:=by
 have key:∀m:List α,Q m.reverse:=λ m=>by
  induction m with
  | nil=>exact h0
  | cons x m ih=>rw[List.reverse_cons];exact h1 _ _ ih
 have:=key l.reverse
 rwa [List.reverse_reverse] at this
theorem dm(l:List Pr):SA (Dk l):=by
 induction l using M2 with
 | h0=>exact List.Pairwise.nil
 | h1 l x ih=>rw[wG];exact wR ih
theorem Vd(l:List Pr):(Dk l).length<=l.length:=by
 induction l using M2 with
 | h0=>exact Nat.le_refl _
 | h1 l x ih =>
  rw[wG,xL (dm l),List.length_append,List.length_singleton]
  split<;>omega
end

/- Pairs: comparing, searching; Find, Put, Drop. -/
end Go.Proofs.YtbajmaoegmbfgaaGreat
namespace Go.Ct
section
open Go Go.RowKit
variable{P:Program}{S:List (Nat×Value)}{w0 w:World}{M:List Nat}{H:List (Nat×Obj)}{A F:Fr}{O:List Ow}
theorem bQ{G:World->Prop}{d:Nat}{ty:TypeId}{pos:String}{af:Array Edge}{gd:Option (Nat×Bool)}{x:Operand}{vs:List Value}{k:Nat}{v:Value}(hx:ev S x=.tuple ⟨vs⟩)(hk:vs[k]?=some v):aL P S G ⟨some d,.extract x k,ty,pos,af,gd⟩ v:=⟨λ w _=>by
 simp[execOp,hx,Instr.extract,hk]⟩
end
end Go.Ct
namespace Go.Proofs.YtbajmaoegmbfgaaGreat
section
open Go.RowKit Go.Ct
theorem zt{l:List Pr}{k:ByteArray}{h:Nat}(hs:SA l)(hc:dH (l.getD h (⟨#[]⟩,0)).1 k=false)(j:Nat)(h1:h<=j)(hj:j<l.length):dH (l.getD j (⟨#[]⟩,0)).1 k=false:=by
 rcases Nat.lt_or_eq_of_le h1 with h2|rfl
 ·have:=List.pairwise_iff_getElem.1 hs h j (by omega) hj h2
  rw[<- iH,<- iH] at this
  exact ur hc (C3 this)
 ·exact hc
end

/- Pairs: Find, Put, Drop of the program. -/
end Go.Proofs.YtbajmaoegmbfgaaGreat
namespace Go.Ct
section
open Go Go.RowKit
section
variable{P:Program}{n:Nat}{S:List (Nat×Value)}
variable{w0 w w':World}{M:List Nat}{H H':List (Nat×Obj)}{A F F':Fr}{O O':List Ow}{G:World->Prop}
variable{d:Nat}{ty:TypeId}{pos:String}{af:Array Edge}{gd:Option (Nat×Bool)}{dst:Option Nat}{x y z:Operand}{t t2 e:TypeId}{p a:Option Addr}{i m k c c2:Nat}
def yy(a:Option Addr)(k c:Nat):Option Addr:=if c=k then a else a.map (·.add (2*k))
theorem Yu(hx:ev S x=.slice a m c)(hy:ev S y=.int .i64 ((k:Nat):Int))(ht:P.underlying t=some (.slice e))(hs:(P.info? e).map (·.size)=some 2)(hk:k<=m)(hmc:m<=c) :
  aL P S G ⟨some d,.slice t x (some y) none none,ty,pos,af,gd⟩ (.slice (yy a k c) (m-k) (c-k)):=⟨λ w _=>by
 have he:P.elem t=e:=by simp[Program.elem,ht]
 have ht':P.underlying t=some (.slice (P.elem t)):=by rw[he];exact ht
 cases hi:P.info? e with
 | none=>simp[hi] at hs
 | some inf =>
  have hs':inf.size=2:=by simpa[hi] using hs
  have hr:=run_slice_l (P:=P) w t a m c ht' .i64 (k:Int) (by omega) (by omega)
  refine Zj (v:=.slice (yy a k c) (m-k) (c-k)) ?_
  simp[hx,hy,run_sliceAt_slice w t _ _ _ _ ht',hr,he,sizeOf,typeInfo,hi,hs',sliced,yy,Nat.mul_comm]⟩
theorem SF.aAA(h:SF w0 M H A F O w){l:List Pr}(hf:pK A F [] a (cR l))(hc:l.length<=c):SF w0 M H ((yy a k c,cR (l.drop k))::A) F O w:=by
 have e:cR (l.drop k)=(cR l).drop (2*k):=by rw[Nu]
 rw[e]
 refine h.Q4 hf (λ hn=>?_) (λ h=>by rw[h];simp) (λ w hc'=>?_)
 ·unfold yy
  split
  ·rfl
  ·cases a with
   | none=>rfl
   | some a =>
    obtain⟨b,o,s⟩:=a
    simp only[Option.map_some,cJ,Addr.add]
    split<;>rfl
 ·unfold yy
  split
  ·rename_i heq
   have:(cR l).drop (2*k)=[]:=List.drop_eq_nil_of_le (by rw[gK];omega)
   rw[this]
   exact Cl.nil _ _
  ·exact hc'.drop _
end
end
end Go.Ct
namespace Go.Proofs.YtbajmaoegmbfgaaGreat
section
open Go.RowKit Go.Ct
section
variable{l:List Pr}{a:Option Addr}{c:Nat}{k:ByteArray}{v:Int}{w:World}
open Classical in
noncomputable def dO (l:List Pr) (k:ByteArray):Option Int:=if SA l then rC l k else none
open Classical in
noncomputable def Oo (l:List Pr) (k:ByteArray) (v:Int):List Pr:=if SA l then lR l k v else []
open Classical in
noncomputable def rF (l:List Pr) (k:ByteArray):List Pr:=if SA l then iR l k else []
def qy(w:World)(m:List Pr)(e:Ending)(w':World):Prop:=∃x:Option Addr×Nat,e=.returned (.slice x.1 m.length x.2)/\m.length<=x.2/\SF w [] [] [] [] [⟨x.1,cR m,x.2,164,2⟩] w'
def Ws(w:World)(m:List Pr)(e:Ending)(w':World):Prop:=∃x:Option Addr×Nat,e=.returned (.slice x.1 m.length x.2)/\m.length<=x.2/\SF w [] [] [] [(x.1,cR m)] [] w'
theorem qy.j8{w:World}{m:List Pr}{e:Ending}{w':World}(h:qy w m e w'):Ws w m e w':=by
 obtain⟨x,h1,h2,h3⟩:=h
 exact⟨x,h1,h2,h3.freeze .head (by simp)⟩
end
end

/- Pairs: the reference's Find, Put, Drop, Of, Equal. -/
section
open Go.RowKit Go.Ct
section
variable{l:List Pr}{a:Option Addr}{c:Nat}{k:ByteArray}{v:Int}{w:World}
theorem yh{l:List Pr}{k:ByteArray}:∀{i:Nat},i<l.length->(∀j,j<i->(l.getD j (⟨#[]⟩,0)).1≠k)->(l.getD i (⟨#[]⟩,0)).1=k->rC l k=some (l.getD i (⟨#[]⟩,0)).2:=by
 induction l with
 | nil=>intro i h;simp at h
 | cons p l ih =>
  intro i h hn he
  cases i with
  | zero=>exact if_pos he
  | succ i =>
   refine(if_neg (hn 0 (by omega))).trans ?_
   exact ih (by simp at h;omega) (λ j hj=>hn (j+1) (by omega)) he
theorem lu{l:List Pr}{k:ByteArray}(h:∀j,j<l.length->(l.getD j (⟨#[]⟩,0)).1≠k):rC l k=none:=pN λ p hp=>by
 obtain⟨j,hj,rfl⟩:=List.getElem_of_mem hp
 have:=h j hj
 rwa [iH hj] at this
theorem I6(k:ByteArray)(ha:Cl w a (cR l))(hlen:l.length<=1099511627775) :
  Calls Tryz.prog 60 #[.slice a l.length c,.string k] w λ e w'=>e=.returned (.tuple #[.int .u64 ((dO l k).getD 0),.bool (dO l k).isSome])/\St w [] [] w':=by
 refine enter Tryz.func60 Tryz.ntmps60 rfl rfl (SF.s1 ha) ?_
 simp only[cD]
 refine P2 ?_;refine aS ?_;refine Dn ?_
 refine hY [4,5,6,7,8,9,10,11,12,13,14,15,16,17,18,19,20,21,22,23,24,25,26,27,28] (λ k=>[(6,.int .i64 ((k:Nat):Int))]) (λ i=>i<=l.length/\(i≠0->SA l)/\∀j,j<i->(l.getD j (⟨#[]⟩,0)).1≠k) (λ k=>l.length-k) (0) (⟨Nat.zero_le _,λ h=>absurd rfl h,λ j hj=>absurd hj (Nat.not_lt_zero j)⟩) ?_ (λ i f hx=>?_)
 ·repeat (first|exact bG _|refine bA (by exact rfl) ?_)
 dsimp only[iA,List.map,List.cons_append,List.nil_append]
 refine A6 ?_;refine dJ ?_;refine Az ?_
 (refine dX 11 (λ g11=>?_) (λ g11=>?_)<;>(first|refine aI ?_|(refine aE ?_;refine aA ?_)))
 all_goals ((first|refine aI ?_|(refine aE ?_;refine aD (c0 (V:=.bool) (hc:=λ w1 hw=>mE (hw.cl fin) (by omega))) (λ x13 h13=>?_)));refine bY ?_;refine aH ?_)
 all_goals
 refine aZ (λ c14=>?_) (λ c14=>?_)
 ·try exact nv c14
  all_goals (refine rR ?_;refine jA ?_;refine gC ?_;refine J3 ?_;refine aA ?_;refine te ?_;refine aH ?_)
  all_goals
   refine aZ (λ c23=>?_) (λ c23=>?_)
   ·refine jA ?_;refine gC ?_;refine J3 ?_;refine J8 ?_
    refine aY Tryz.results60 (λ w hw=>?_)
    rw[show dO l k=some (l.getD i (⟨#[]⟩,0)).2 from(if_pos (mV.1 (h13.1 (by simp_all)))).trans (yh (by omega) hx.2.2 c23)];exact⟨rfl,hw.done⟩
   ·refine oP ?_;refine uT ?_
    refine fD (i+1) ?_ ?_ ?_
    ·omega
    ·repeat' (first|exact bG _|refine bA ?_ ?_)
     exact rfl
    ·exact⟨by omega,λ _=>mV.1 (h13.1 (by simp_all)),λ j hj=>by rcases Nat.lt_succ_iff_lt_or_eq.1 hj with h|rfl;exact hx.2.2 j h;assumption⟩
 ·all_goals (refine bR rfl ?_;refine P2 ?_)
  all_goals
   refine aY Tryz.results60 (λ w hw=>?_)
   first
   | (rw[show dO l k=none from if_neg λ hs=>by have:=h13.2 (mV.2 hs);simp_all];exact⟨rfl,hw.done⟩)
   | (rw[show dO l k=none by unfold dO;split;exact lu λ j hj=>hx.2.2 j (by omega);rfl];exact⟨rfl,hw.done⟩)
theorem Km{l:List Pr}{i:Nat}(hi:i<l.length)(k:ByteArray):(l.take (i+1)).filter (λ p=>decide (p.1≠k))=(l.take i).filter (λ p=>decide (p.1≠k))++(if(l.getD i (⟨#[]⟩,0)).1≠k then [l.getD i (⟨#[]⟩,0)] else []):=by
 rw[List.take_add_one,List.getElem?_eq_getElem hi,iH hi,List.filter_append]
 congr 1
 by_cases h:l[i].1=k<;>simp[h]
theorem Ho{l:List Pr}{i:Nat}(hi:i<l.length)(k:ByteArray):iR (l.take (i+1)) k=if(l.getD i (⟨#[]⟩,0)).1=k then iR (l.take i) k else iR (l.take i) k++[l.getD i (⟨#[]⟩,0)]:=by
 unfold iR
 rw[Km hi k]
 by_cases h:(l.getD i (⟨#[]⟩,0)).1=k
 ·rw[if_neg λ hn=>hn h,if_pos h,List.append_nil]
 ·rw[if_pos h,if_neg h]
theorem Pq(k:ByteArray)(ha:Cl w a (cR l))(hlen:l.length<=200000000000) :
  Calls Tryz.prog 111 #[.slice a l.length c,.string k] w (qy w (iR l k)):=by
 refine enter Tryz.func111 Tryz.ntmps111 rfl rfl (SF.s1 ha) ?_
 simp only[cD]
 refine cP ?_;refine Ha ?_;refine Dn ?_
 refine oI [5,6,7,8,9,10,11,12,13,14,15,16,17,18,19,20,21,22,23,24,25,26] (λ z:Nat×Option Addr×List Pr×Nat=>[(6,.int .i64 ((z.1:Nat):Int)),(5,.slice z.2.1 z.2.2.1.length z.2.2.2)]) (λ z=>z.1<=l.length/\z.2.2.1.length<=z.2.2.2/\z.2.2.1=iR (l.take z.1) k/\z.2.2.1.length<=z.1) (λ _=>_) (λ _=>_) (λ z=>[⟨z.2.1,cR z.2.2.1,z.2.2.2,164,2⟩]) (λ z=>l.length-z.1) ((0,none,[],0)) (⟨Nat.zero_le _,Nat.le_refl _,rfl,Nat.le_refl _⟩) (λ z f hx=>?_) (hw0:=λ w hw=>(hw.kH 164 2).back)
 dsimp only[iA,List.map,List.cons_append,List.nil_append]
 refine A6 ?_;refine dJ ?_;refine Cf ?_
 refine aZ (λ c10=>?_) (λ c10=>?_)
 ·refine rR ?_;refine jA ?_;refine gC ?_;refine J3 ?_;refine aA ?_;refine s5 ?_;refine aH ?_
  refine aZ (λ c19=>?_) (λ c19=>?_)
  ·refine Aa ?_;refine pD ?_;refine Qq ?_;refine eZ (λ x25=>?_);(refine eX (λ x26=>?_);try (refine eR (λ h26=>?_)));refine J1 ?_;refine fF ?_;refine uT ?_
   refine jG ((by exact(z.1+1,x26.1,z.2.2.1++[l.getD z.1 (⟨#[]⟩,0)],x26.2))) ?_ (hw1:=λ w hw=>by exact hw.back (hO:=by exact List.Sublist.refl _))
   ·obtain⟨q1,q2,q3,q4⟩:=hx
    have hdt:=Ho (l:=l) (i:=z.1) (by omega) k
    first
    | exact⟨by show z.1+1<=l.length;omega,by simp only[List.length_append,List.length_cons,List.length_nil];omega,by rw[if_neg (by assumption),<- q3] at hdt;exact hdt.symm,by simp only[List.length_append,List.length_cons,List.length_nil];omega⟩
    | exact⟨by show z.1+1<=l.length;omega,q2,by rw[if_pos (by assumption),<- q3] at hdt;exact hdt.symm,by show z.2.2.1.length<=z.1+1;omega⟩
  ·refine oP ?_;refine uT ?_
   refine jG ((by exact(z.1+1,z.2.1,z.2.2.1,z.2.2.2))) ?_ (hw1:=λ w hw=>by exact hw.back (hO:=by exact List.Sublist.refl _))
   ·obtain⟨q1,q2,q3,q4⟩:=hx
    have hdt:=Ho (l:=l) (i:=z.1) (by omega) k
    first
    | exact⟨by show z.1+1<=l.length;omega,by simp only[List.length_append,List.length_cons,List.length_nil];omega,by rw[if_neg (by assumption),<- q3] at hdt;exact hdt.symm,by simp only[List.length_append,List.length_cons,List.length_nil];omega⟩
    | exact⟨by show z.1+1<=l.length;omega,q2,by rw[if_pos (by assumption),<- q3] at hdt;exact hdt.symm,by show z.2.2.1.length<=z.1+1;omega⟩
 ·refine bR rfl ?_;refine J2 ?_;refine J1 ?_
  refine aQ Tryz.results111 (λ w hw=>?_)
  obtain⟨q1,q2,q3,q4⟩:=hx
  have e:z.2.2.1=iR l k:=by rw[q3,List.take_of_length_le (by omega)]
  rw[<- e]
  exact⟨(z.2.1,z.2.2.2),rfl,q2,hw.aV⟩
theorem lJ{l:List Pr}{i:Nat}(hi:i<l.length):l.take (i+1)=l.take i++[l.getD i (⟨#[]⟩,0)]:=by
 rw[List.take_add_one,List.getElem?_eq_getElem hi,iH hi];rfl
theorem Z0(p:Pr)(ha:Cl w a (cR l))(hc:l.length<=c)(hs:SA l)(hn:∀q∈l,q.1≠p.1)(hlen:l.length<=200000000000) :
    Calls Tryz.prog 110 #[.slice a l.length c,.agg ⟨[.string p.1,.int .u64 p.2]⟩] w (qy w (lR l p.1 p.2)):=by
  refine enter Tryz.func110 Tryz.ntmps110 rfl rfl (SF.s1 ha) ?_
  simp only[cD]
  refine J0 ?_;refine bK (λ x3=>?_);refine J1 ?_;refine Ha ?_;refine Dn ?_
  refine oI [5,6,8,9,10,11,12,13,14,15,16,17,18,19,20,21,22,23,24,25,26,27,28,29,30] (λ z:Nat×Option Addr×List Pr×Nat=>[(6,.int .i64 ((z.1:Nat):Int)),(5,.slice z.2.1 z.2.2.1.length z.2.2.2)]) (λ z=>z.1<=l.length/\z.2.2.1.length<=z.2.2.2/\z.2.2.1=l.take z.1/\z.2.2.1.length=z.1/\∀j,j<z.1->dH (l.getD j (⟨#[]⟩,0)).1 p.1=true) (λ z=>[(x3,.cells ⟨[.string p.1,.int .u64 p.2]⟩ 164 (0,0))]) (λ _=>_) (λ z=>[⟨z.2.1,cR z.2.2.1,z.2.2.2,164,2⟩]) (λ z=>l.length-z.1) ((0,none,[],0)) (⟨Nat.zero_le _,Nat.le_refl _,rfl,rfl,λ j hj=>absurd hj (Nat.not_lt_zero j)⟩) (λ z f hx=>?_) (hw0:=λ w hw=>(hw.kH 164 2).back)
  dsimp only[iA,List.map,List.cons_append,List.nil_append]
  refine aS ?_;refine aS ?_;refine gM [0,1,2,3,4,5,6,7,8,9,10,11,12,13] ?_;refine gV ?_;refine nV ?_;refine C1 ?_;refine aT ?_
  (refine n6 12 (λ g12=>?_) (λ g12=>?_)<;>(first|refine fT ?_|(refine aT ?_)))
  all_goals ((first|refine fT ?_|(refine aT ?_));(first|refine fT ?_|(refine iQ ?_));refine zn ?_;refine zn ?_;(first|refine fT ?_|(refine Y4 ?_));refine lH ?_;refine eJ ?_)
  all_goals
   refine aZ (λ c21=>?_) (λ c21=>?_)
   · try exact nv c21
     all_goals (refine rR ?_;refine Aa ?_;refine pD ?_;refine Qq ?_;refine eZ (λ x29=>?_);(refine aN (by(exact bC.eN (Lm rf rf yO rfl fin (by exact pL rfl) gA (by omega)) (by intro x;simp only[kN];exact rfl))) (λ x30=>?_);try (refine eR (λ h30=>?_)));refine J1 ?_;refine fF ?_;refine uT ?_)
     all_goals
      refine jG ((z.1+1,x30.1,z.2.2.1++[l.getD z.1 (⟨#[]⟩,0)],x30.2)) ?_ (hw1:=λ w hw=>hw.back (hO:=by exact List.Sublist.refl _))
      · obtain⟨q1,q2,q3,q4,q5⟩:=hx
        refine⟨by show z.1+1<=l.length;omega,by simp only[List.length_append,List.length_cons,List.length_nil];omega,by rw[lJ (by omega),<- q3],by simp only[List.length_append,List.length_cons,List.length_nil];omega,λ j hj=>?_⟩
        rcases Nat.lt_succ_iff_lt_or_eq.1 hj with h|rfl
        · exact q5 j h
        · exact c21
   · all_goals
      refine ee (λ w hw=>hw.aAA (k:=z.2.2.1.length) (c:=c) fin hc) ?_
     all_goals (refine bR rfl ?_;refine J2 ?_;refine dJ ?_;refine iO ?_;refine gM [0,1,4,5,6,2,3,7,8] ?_;refine aT ?_;refine bN ?_;refine gV ?_;refine cI (i:=6) (hq:=(Yu (k:=z.2.2.1.length) rf rf gA (by exact tU rfl) (by omega) (by omega))) (h:=?_);refine cB (h:=λ x35=>?_);((refine cL (i:=3) (hq:=(by(exact bC.eN (Lm rf rf yO rfl fin (by exact pL rfl) gA (by omega)) (by intro x;simp only[kN];exact rfl)))) (h:=λ x36=>?_);try (refine eG (λ h36=>?_))));((refine cL (i:=7) (hq:=(by(exact bC.eN (Lf (l2:=l.drop z.2.2.1.length) rf rf yO (by simp;done) fin (by rw[List.length_drop]) (by exact pL rfl) gA (by omega)) (by intro x;simp only[kN];exact rfl)))) (h:=λ x40=>?_);try (refine eG (λ h40=>?_))));refine J7 ?_)
     all_goals
      refine aQ Tryz.results110 (λ w hw=>?_)
      obtain⟨q1,q2,q3,q4,q5⟩:=hx
      have hp:Qh l p.1 z.1:=⟨q1,q5,by first|exact zt hs c21|(intro j h1 h2;omega)⟩
      have e:lR l p.1 p.2=z.2.2.1++[(p.1,p.2)]++l.drop z.2.2.1.length:=by
       rw[Vu hp λ hh=>?_,q4,<- q3,List.append_assoc]
       · rfl
       · exact hn _ (by rw[iH hh.1];exact List.getElem_mem hh.1) hh.2
      have e2:(z.2.2.1++[(p.1,p.2)]++l.drop z.2.2.1.length).length=z.2.2.1.length+1+(l.length-z.2.2.1.length):=by rw[List.length_append,List.length_append,List.length_drop];rfl
      rw[e]
      exact⟨x40,by rw[e2];rfl,by rw[e2];exact h40,hw.aV⟩
theorem wM(k:ByteArray)(ha:Cl w a (cR l))(hlen:l.length<=200000000000) :
  Calls Tryz.prog 111 #[.slice a l.length c,.string k] w (Ws w (iR l k)):=(Pq k ha hlen).mono λ _ _ h=>h.j8
theorem Pm(p:Pr)(ha:Cl w a (cR l))(hc:l.length<=c)(hs:SA l)(hn:∀q∈l,q.1≠p.1)(hlen:l.length<=200000000000) :
  Calls Tryz.prog 110 #[.slice a l.length c,.agg ⟨[.string p.1,.int .u64 p.2]⟩] w (Ws w (lR l p.1 p.2)):=(Z0 p ha hc hs hn hlen).mono λ _ _ h=>h.j8
theorem Jl{l:List Pr}{k:ByteArray}:∀q∈iR l k,q.1≠k:=λ q hq=>by simpa using(List.mem_filter.1 hq).2
theorem Fb(l:List Pr)(k:ByteArray):(iR l k).length<=l.length:=List.length_filter_le _ _
theorem jv(k:ByteArray)(v:Int)(ha:Cl w a (cR l))(hlen:l.length<=200000000000) :
  Calls Tryz.prog 256 #[.slice a l.length c,.string k,.int .u64 v] w (Ws w (Oo l k v)):=by
 have hdl:=Fb l k
 refine enter Tryz.func256 Tryz.ntmps256 rfl rfl (SF.s1 ha) ?_
 simp only[cD]
 refine cP ?_;refine kX ?_;refine aD (c0 (V:=.bool) (hc:=λ w1 hw=>mE (hw.cl fin) (by omega))) (λ x8 h8=>?_);refine oU ?_
 refine aZ (λ c9=>?_) (λ c9=>?_)
 ·refine cP ?_
  refine aQ Tryz.results256 (λ w hw=>?_)
  rw[show Oo l k v=[] from if_neg λ hs=>by rw[h8.2 (mV.2 hs)] at c9;cases c9];exact⟨(none,0),rfl,Nat.le_refl _,(hw.Mg none).fin⟩
 ·have hs:SA l:=mV.1 (h8.1 (by simpa using c9))
  refine C6 ?_;refine aD (cF (hc:=λ w1 hw=>wM k (hw.cl fin) hlen)) (λ x12 h12=>?_);refine pD ?_;refine bM ?_;refine aD (cF (hc:=λ w1 hw=>Pm (k,v) (hw.cl fin) h12 (wK k hs) Jl (by omega))) (λ x16 h16=>?_);refine J1 ?_
  refine aQ Tryz.results256 (λ w hw=>?_)
  rw[show Oo l k v=lR (iR l k) k v from(if_pos hs).trans (Nj hs k v).symm];exact⟨x16,rfl,h16,hw.fin⟩
theorem W4(k:ByteArray)(ha:Cl w a (cR l))(hlen:l.length<=200000000000) :
  Calls Tryz.prog 258 #[.slice a l.length c,.string k] w (Ws w (rF l k)):=by
 refine enter Tryz.func258 Tryz.ntmps258 rfl rfl (SF.s1 ha) ?_
 simp only[cD]
 refine cP ?_;refine kX ?_;refine aD (c0 (V:=.bool) (hc:=λ w1 hw=>mE (hw.cl fin) (by omega))) (λ x6 h6=>?_);refine oU ?_
 refine aZ (λ c7=>?_) (λ c7=>?_)
 ·refine cP ?_
  refine aQ Tryz.results258 (λ w hw=>?_)
  rw[show rF l k=[] from if_neg λ hs=>by rw[h6.2 (mV.2 hs)] at c7;cases c7];exact⟨(none,0),rfl,Nat.le_refl _,(hw.Mg none).fin⟩
 ·have hs:SA l:=mV.1 (h6.1 (by simpa using c7))
  refine C6 ?_;refine aD (cF (hc:=λ w1 hw=>wM k (hw.cl fin) hlen)) (λ x10 h10=>?_);refine J1 ?_
  refine aQ Tryz.results258 (λ w hw=>?_)
  rw[show rF l k=iR l k from if_pos hs];exact⟨x10,rfl,h10,hw.fin⟩
theorem ra(ha:Cl w a (cR l))(hlen:l.length<=200000000000) :
  Calls Tryz.prog 61 #[.slice a l.length c] w (Ws w (Dk l)):=by
 refine enter Tryz.func61 Tryz.ntmps61 rfl rfl (SF.s1 ha) ?_
 simp only[cD]
 refine cP ?_;refine Ha ?_;refine Dn ?_
 refine oI [3,4,5,6,7,8,9,10,11,12,13,14,15,16,17,18,19,20,21,22] (λ z:Nat×Option Addr×List Pr×Nat=>[(4,.int .i64 ((z.1:Nat):Int)),(3,.slice z.2.1 z.2.2.1.length z.2.2.2)]) (λ z=>z.1<=l.length/\z.2.2.1.length<=z.2.2.2/\z.2.2.1=Dk (l.take z.1)/\z.2.2.1.length<=z.1/\SA z.2.2.1) (λ _=>_) (λ z=>[(z.2.1,cR z.2.2.1)]) (λ _=>_) (λ z=>l.length-z.1) ((0,none,[],0)) (⟨Nat.zero_le _,Nat.le_refl _,rfl,Nat.le_refl _,List.Pairwise.nil⟩) (λ z f hx=>?_) (hw0:=λ w hw=>(hw.Mg none).back)
 dsimp only[iA,List.map,List.cons_append,List.nil_append]
 refine A6 ?_;refine dJ ?_;refine Cf ?_
 refine aZ (λ c8=>?_) (λ c8=>?_)
 ·have hdl:=Fb z.2.2.1 (l.getD z.1 (⟨#[]⟩,0)).1
  refine rR ?_;refine dZ [(0,[]),(1,[]),(2,[]),(3,[]),(4,[]),(5,[]),(7,[]),(8,[]),(9,[]),(10,[]),(6,[9,10]),(11,[]),(12,[])] ?_;refine gV ?_;refine aT ?_;refine iQ ?_;refine mI ?_;refine gV ?_;refine Rr ?_;refine bB (i:=6) (hq:=(cF (hc:=λ w1 hw=>wM (l.getD z.1 (⟨#[]⟩,0)).1 (hw.cl fin) (by omega)))) (h:=λ x17 h17=>?_);refine bB (i:=11) (hq:=(cF (hc:=λ w1 hw=>Pm (l.getD z.1 (⟨#[]⟩,0)) (hw.cl fin) h17 (wK _ hx.2.2.2.2) Jl (by omega)))) (h:=λ x22 h22=>?_);refine J7 ?_;refine fF ?_;refine uT ?_
  refine jG ((z.1+1,x22.1,lR (iR z.2.2.1 (l.getD z.1 (⟨#[]⟩,0)).1) (l.getD z.1 (⟨#[]⟩,0)).1 (l.getD z.1 (⟨#[]⟩,0)).2,x22.2)) ?_
  ·obtain⟨q1,q2,q3,q4,q5⟩:=hx
   have e:=Nj q5 (l.getD z.1 (⟨#[]⟩,0)).1 (l.getD z.1 (⟨#[]⟩,0)).2
   have hl:=xL (k:=(l.getD z.1 (⟨#[]⟩,0)).1) (v:=(l.getD z.1 (⟨#[]⟩,0)).2) q5
   rw[e] at h22
   refine⟨by show z.1+1<=l.length;omega,by show(lR _ _ _).length<=_;rw[e];exact h22,?_,?_,?_⟩
   ·show lR _ _ _=_
    rw[e,lJ (by omega),wG,<- q3]
   ·show(lR _ _ _).length<=z.1+1
    rw[e,hl];split<;>omega
   ·show SA (lR _ _ _)
    rw[e];exact wR q5
 ·refine bR rfl ?_;refine J2 ?_;refine J1 ?_
  refine aQ Tryz.results61 (λ w hw=>?_)
  obtain⟨q1,q2,q3,q4,q5⟩:=hx
  have e:z.2.2.1=Dk l:=by rw[q3,List.take_of_length_le (by omega)]
  rw[<- e]
  exact⟨(z.2.1,z.2.2.2),rfl,q2,hw.fin⟩
end
end

/- Pairs: the algebra. -/
section
open Go.RowKit Go.Ct
section
variable{l X:List Pr}{a:Option Addr}{c M:Nat}{k j:ByteArray}{v z:Int}{w:World}
theorem mi(X:List Pr)(k:ByteArray)(v:Int):(Oo X k v).length<=X.length+1:=by
 unfold Oo
 split
 ·next h=>rw[xL h];split<;>omega
 ·exact Nat.zero_le _
theorem ae(X:List Pr)(k:ByteArray):(rF X k).length<=X.length:=by
 unfold rF
 split
 ·exact Fb X k
 ·exact Nat.zero_le _
end
end

end Go.Proofs.YtbajmaoegmbfgaaGreat
