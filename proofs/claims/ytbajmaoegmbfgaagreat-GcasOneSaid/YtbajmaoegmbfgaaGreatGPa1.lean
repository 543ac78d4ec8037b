/- Merged. -/
import Derived.Test.YtbajmaoegmbfgaaGreatGNode2
import Derived.Lib.Bytealg
import Derived.Laws.Externs
import Derived.Test.YtbajmaoegmbfgaaGreatGFun
set_option linter.unusedSimpArgs false
set_option linter.unusedVariables false
namespace Go.Proofs.YtbajmaoegmbfgaaGreat
open Go.RowKit Go.Ct
section
theorem z8{a b c:ByteArray}(h:dM a b=true)(h2:dM c b=false):dM a c=true:=by
 cases hb:dM b c with
 | true=>exact mA h hb
 | false=>have:=rA hb h2;subst this;exact h
theorem aAs{a b c:ByteArray}(h:dM b a=false)(h2:dM c b=false):dM c a=false:=by
 cases hc:dM c a with
 | false=>rfl
 | true=>have:=z8 hc h;rw[this] at h2;cases h2
theorem rO{a b:ByteArray}(h:dM a b=true):a≠b:=λ e=>by subst e;rw[tY] at h;cases h
theorem dp{a b:ByteArray}(h:dM b a=false)(hn:a≠b):dM a b=true:=by
 cases hb:dM a b with
 | true=>rfl
 | false=>exact absurd (rA hb h) hn
def SA(l:List Pr):Prop:=l.Pairwise λ p q=>dM p.1 q.1=true
theorem V2{l:List Pr}(h:w6 l):∀d i,i+d+1<l.length->dM (l.getD i (⟨#[]⟩,0)).1 (l.getD (i+d+1) (⟨#[]⟩,0)).1=true
 | 0,i,hi=>by have:=h (i+1) (by omega) hi;rwa [Nat.add_sub_cancel] at this
 | d+1,i,hi=>mA (V2 h d i (by omega)) (by have:=h (i+(d+1)+1) (by omega) hi;rwa [Nat.add_sub_cancel] at this)
theorem iR{l:List Pr}{i:Nat}(h:i<l.length):l.getD i (⟨#[]⟩,0)=l[i]:=by simp[List.getD,List.getElem?_eq_getElem h]
theorem oZ{l:List Pr}:w6 l↔SA l:=by
 constructor
 ·intro h
  refine List.pairwise_iff_getElem.2 λ i j hi hj hij=>?_
  have:=V2 h (j-i-1) i (by omega)
  rw[show i+(j-i-1)+1=j by omega,iR hi,iR hj] at this
  exact this
 ·intro h i h1 hi
  rw[iR (by omega),iR hi]
  exact List.pairwise_iff_getElem.1 h (i-1) i (by omega) hi (by omega)
def rZ:List Pr->ByteArray->Option Int
 | [],_=>none
 | p::l,k=>if p.1=k then some p.2 else rZ l k
theorem pX{l:List Pr}{k:ByteArray}(h:∀p∈l,p.1≠k):rZ l k=none:=by
 induction l with
 | nil=>rfl
 | cons p l ih=>exact(if_neg (h p (.head _))).trans (ih λ q hq=>h q (.tail _ hq))
theorem mj:∀{l m:List Pr},SA l->SA m->(∀k,rZ l k=rZ m k)->l=m
 | [],[],_,_,_=>rfl
 | [],q::m,_,_,h=>by have:=h q.1;simp[rZ] at this
 | p::l,[],_,_,h=>by have:=h p.1;simp[rZ] at this
 | p::l,q::m,h1,h2,h=>by
  have h1':=List.pairwise_cons.1 h1
  have h2':=List.pairwise_cons.1 h2
  have e1:dM p.1 q.1=false:=by
   cases hb:dM p.1 q.1 with
   | false=>rfl
   | true =>
    have:rZ (q::m) p.1=none:=pX λ x hx=>by
     rcases List.mem_cons.1 hx with rfl|hx
     ·exact(rO hb).symm
     ·exact(rO (mA hb (h2'.1 x hx))).symm
    have h':=h p.1
    rw[this] at h';simp[rZ] at h'
  have e2:dM q.1 p.1=false:=by
   cases hb:dM q.1 p.1 with
   | false=>rfl
   | true =>
    have:rZ (p::l) q.1=none:=pX λ x hx=>by
     rcases List.mem_cons.1 hx with rfl|hx
     ·exact(rO hb).symm
     ·exact(rO (mA hb (h1'.1 x hx))).symm
    have h':=h q.1
    rw[this] at h';simp[rZ] at h'
  have ek:=rA e1 e2
  have ev:p.2=q.2:=by have:=h p.1;simpa[rZ,ek] using this
  have et:l=m:=mj h1'.2 h2'.2 λ k=>by
   by_cases hk:p.1=k
   ·subst hk
    rw[pX λ x hx=>(rO (h1'.1 x hx)).symm,pX λ x hx=>by rw[ek];exact(rO (h2'.1 x hx)).symm]
   ·have:=h k
    rw[rZ,rZ,if_neg hk,if_neg (by rw[<- ek];exact hk)] at this
    exact this
  rw[et,show p=q from Prod.ext ek ev]
def mE:List Pr->ByteArray->Int->List Pr
 | [],k,v=>[(k,v)]
 | p::l,k,v=>if dM p.1 k=true then p::mE l k v else if p.1=k then(k,v)::l else(k,v)::p::l
def iX(l:List Pr)(k:ByteArray):List Pr:=l.filter λ p=>decide (p.1≠k)
theorem Am{l:List Pr}{k:ByteArray}{v:Int}:∀{q:Pr},q∈mE l k v->q=(k,v)∨q∈l:=by
 induction l with
 | nil=>intro q h;rw[mE,List.mem_singleton] at h;exact .inl h
 | cons p l ih =>
  intro q h
  rw[mE] at h
  split at h
  ·rcases List.mem_cons.1 h with rfl|h
   ·exact .inr (.head _)
   ·exact(ih h).imp id (.tail _)
  ·split at h
   ·exact(List.mem_cons.1 h).imp id (.tail _)
   ·exact List.mem_cons.1 h
theorem xN{k:ByteArray}{v:Int}:∀{l:List Pr},SA l->SA (mE l k v)
 | [],_=>List.pairwise_singleton _ _
 | p::l,h=>by
  have h':=List.pairwise_cons.1 h
  rw[mE]
  split
  ·next hlt =>
   refine List.pairwise_cons.2 ⟨λ q hq=>?_,xN h'.2⟩
   rcases Am hq with rfl|hq
   ·exact hlt
   ·exact h'.1 q hq
  ·next hlt =>
   split
   ·next he =>
    subst he
    exact List.pairwise_cons.2 ⟨λ q hq=>h'.1 q hq,h'.2⟩
   ·next hne =>
    have hkp:dM k p.1=true:=dp (by simpa using hlt) (λ e=>hne e.symm)
    refine List.pairwise_cons.2 ⟨λ q hq=>?_,h⟩
    rcases List.mem_cons.1 hq with rfl|hq
    ·exact hkp
    ·exact mA hkp (h'.1 q hq)
theorem Gq{k:ByteArray}{v:Int}(j:ByteArray):∀{l:List Pr},SA l->rZ (mE l k v) j=if j=k then some v else rZ l j
 | [],_=>by
  simp only[mE,rZ]
  by_cases h:j=k
  ·rw[if_pos h,if_pos h.symm]
  ·rw[if_neg h,if_neg λ e=>h e.symm]
 | p::l,h=>by
  have h':=List.pairwise_cons.1 h
  have ih:=Gq (k:=k) (v:=v) j h'.2
  rw[mE]
  split
  ·next hlt =>
   rw[rZ,ih,rZ]
   by_cases hj:j=k
   ·rw[if_pos hj,if_pos hj,if_neg λ e=>rO hlt (e.trans hj)]
   ·rw[if_neg hj,if_neg hj]
  ·split
   ·next he =>
    rw[rZ,rZ]
    by_cases hj:j=k
    ·rw[if_pos hj,if_pos hj.symm]
    ·rw[if_neg hj,if_neg λ e=>hj e.symm,if_neg λ e=>hj (e.symm.trans he)]
   ·rw[rZ]
    by_cases hj:j=k
    ·rw[if_pos hj,if_pos hj.symm]
    ·rw[if_neg hj,if_neg λ e=>hj e.symm]
theorem wG{l:List Pr}(k:ByteArray)(h:SA l):SA (iX l k):=h.sublist List.filter_sublist
theorem Zd(l:List Pr)(k j:ByteArray):rZ (iX l k) j=if j=k then none else rZ l j:=by
 unfold iX
 induction l with
 | nil=>simp[rZ]
 | cons p l ih =>
  rw[List.filter_cons]
  by_cases hp:p.1=k
  ·rw[if_neg (by simp[hp]),ih,rZ]
   by_cases hj:j=k
   ·rw[if_pos hj,if_pos hj]
   ·rw[if_neg hj,if_neg hj,if_neg λ e=>hj (e.symm.trans hp)]
  ·rw[if_pos (by simp[hp]),rZ,ih,rZ]
   by_cases hj:j=k
   ·rw[if_pos hj,if_pos hj,if_neg λ e=>hp (e.trans hj)]
   ·rw[if_neg hj,if_neg hj]
theorem Q6{l:List Pr}(h:SA l)(k:ByteArray)(v:Int):mE (iX l k) k v=mE l k v :=
 mj (xN (wG k h)) (xN h) λ j=>by
  rw[Gq j (wG k h),Gq j h,Zd]
  by_cases hj:j=k
  ·rw[if_pos hj,if_pos hj]
  ·rw[if_neg hj,if_neg hj,if_neg hj]
structure Ph(l:List Pr)(k:ByteArray)(i:Nat):Prop where
 le:i<=l.length
 lo:∀j,j<i->dM (l.getD j (⟨#[]⟩,0)).1 k=true
 hi:∀j,i<=j->j<l.length->dM (l.getD j (⟨#[]⟩,0)).1 k=false
theorem Ph.tl{p:Pr}{l:List Pr}{k:ByteArray}{i:Nat}(h:Ph (p::l) k (i+1)):dM p.1 k=true/\Ph l k i :=
 ⟨h.lo 0 (by omega),⟨by have:=h.le;simp at this;omega,λ j hj=>h.lo (j+1) (by omega),λ j h1 h2=>h.hi (j+1) (by omega) (by simp;omega)⟩⟩
theorem Ws{k:ByteArray}{v:Int}:∀{l:List Pr} {i:Nat},Ph l k i->¬(i<l.length/\(l.getD i (⟨#[]⟩,0)).1=k)->mE l k v=l.take i++(k,v)::l.drop i
 | [],i,h,_=>by have:=h.le;simp at this;subst this;rfl
 | p::l,0,h,hn=>by
  have:dM p.1 k=false:=h.hi 0 (Nat.le_refl _) (by simp)
  rw[mE,if_neg (by rw[this];decide),if_neg λ e:p.1=k=>hn ⟨by simp,e⟩]
  rfl
 | p::l,i+1,h,hn=>by
  rw[mE,if_pos h.tl.1,Ws h.tl.2 λ hh=>hn ⟨by simp;omega,hh.2⟩]
  rfl
theorem j8{k:ByteArray}:∀{l:List Pr} {v:Int},rZ l k=some v->∃i,i<l.length/\(l.getD i (⟨#[]⟩,0)).1=k
 | [],_,h=>by cases h
 | p::l,v,h=>by
  rw[rZ] at h
  split at h
  ·next he=>exact⟨0,by simp,he⟩
  ·obtain⟨i,h1,h2⟩:=j8 h
   exact⟨i+1,by simp;omega,h2⟩
theorem xT{k:ByteArray}{v:Int}:∀{l:List Pr},SA l->(mE l k v).length=if(rZ l k).isSome=true then l.length else l.length+1
 | [],_=>rfl
 | p::l,h=>by
  have h':=List.pairwise_cons.1 h
  rw[mE]
  split
  ·next hlt =>
   rw[List.length_cons,xT h'.2,rZ,if_neg (rO hlt)]
   split<;>rfl
  ·next hlt =>
   split
   ·next he=>rw[rZ,if_pos he];rfl
   ·next hne =>
    have hkp:dM k p.1=true:=dp (by simpa using hlt) (λ e=>hne e.symm)
    rw[rZ,if_neg hne,pX λ q hq=>(rO (mA hkp (h'.1 q hq))).symm]
    rfl
theorem Pb{k:ByteArray}:∀{l:List Pr},SA l->(iX l k).length=if(rZ l k).isSome=true then l.length-1 else l.length
 | [],_=>rfl
 | p::l,h=>by
  have h':=List.pairwise_cons.1 h
  have ih:=Pb (k:=k) h'.2
  unfold iX at ih ⊢
  rw[List.filter_cons]
  by_cases hp:p.1=k
  ·have hn:∀q∈l,q.1≠k:=λ q hq=>by rw[<- hp];exact(rO (h'.1 q hq)).symm
   rw[if_neg (by simp[hp]),rZ,if_pos hp,List.filter_eq_self.2 λ q hq=>by simpa using hn q hq]
   rfl
  ·rw[if_pos (by simp[hp]),List.length_cons,ih,rZ,if_neg hp]
   split
   ·next hs =>
    have:1<=l.length:=by
     cases hf:rZ l k with
     | none=>rw[hf] at hs;cases hs
     | some v=>obtain⟨i,hi,_⟩:=j8 hf;omega
    rw[List.length_cons];omega
   ·rfl
def Ec(l:List Pr):List Pr:=l.foldl (λ acc p=>mE acc p.1 p.2) []
theorem xG(l:List Pr)(p:Pr):Ec (l++[p])=mE (Ec l) p.1 p.2:=by unfold Ec;rw[List.foldl_append];rfl
theorem Q2{α:Type}{Q:List α->Prop}(h0:Q [])(h1:∀l x,Q l->Q (l++[x]))(l:List α):Q l:=by
 have key:∀m:List α,Q m.reverse:=λ m=>by
  induction m with
  | nil=>exact h0
  | cons x m ih=>rw[List.reverse_cons];exact h1 _ _ ih
 have:=key l.reverse
 rwa [List.reverse_reverse] at this
theorem bh(l:List Pr):SA (Ec l):=by
 induction l using Q2 with
 | h0=>exact List.Pairwise.nil
 | h1 l x ih=>rw[xG];exact xN ih
theorem Vb(l:List Pr):(Ec l).length<=l.length:=by
 induction l using Q2 with
 | h0=>exact Nat.le_refl _
 | h1 l x ih =>
  rw[xG,xT (bh l),List.length_append,List.length_singleton]
  split<;>omega
end
end Go.Proofs.YtbajmaoegmbfgaaGreat
namespace Go.Ct
open Go Go.RowKit
section
variable{P:Program}{S:List (Nat×Value)}{w0 w:World}{M:List Nat}{H:List (Nat×Obj)}{A F:Fr}{O:List Ow}
theorem bR{G:World->Prop}{d:Nat}{ty:TypeId}{pos:String}{af:Array Edge}{gd:Option (Nat×Bool)}{x:Operand}{vs:List Value}{k:Nat}{v:Value}(hx:ev S x=.tuple ⟨vs⟩)(hk:vs[k]?=some v):aM P S G ⟨some d,.extract x k,ty,pos,af,gd⟩ v:=⟨λ w _=>by
 simp[execOp,hx,Instr.extract,hk]⟩
end
end Go.Ct
namespace Go.Proofs.YtbajmaoegmbfgaaGreat
open Go.RowKit Go.Ct
section
theorem aBR{l:List Pr}{k:ByteArray}{h:Nat}(hs:SA l)(hc:dM (l.getD h (⟨#[]⟩,0)).1 k=false)(j:Nat)(h1:h<=j)(hj:j<l.length):dM (l.getD j (⟨#[]⟩,0)).1 k=false:=by
 rcases Nat.lt_or_eq_of_le h1 with h2|rfl
 ·have:=List.pairwise_iff_getElem.1 hs h j (by omega) hj h2
  rw[<- iR,<- iR] at this
  exact aAs hc (D1 this)
 ·exact hc
end
end Go.Proofs.YtbajmaoegmbfgaaGreat
namespace Go.Ct
open Go Go.RowKit
section
section
variable{P:Program}{n:Nat}{S:List (Nat×Value)}
variable{w0 w w':World}{M:List Nat}{H H':List (Nat×Obj)}{A F F':Fr}{O O':List Ow}{G:World->Prop}
variable{d:Nat}{ty:TypeId}{pos:String}{af:Array Edge}{gd:Option (Nat×Bool)}{dst:Option Nat}{x y z:Operand}{t t2 e:TypeId}{p a:Option Addr}{i m k c c2:Nat}
def tlP(a:Option Addr)(k c:Nat):Option Addr:=if c=k then a else a.map (·.add (2*k))
theorem fj(hx:ev S x=.slice a m c)(hy:ev S y=.int .i64 ((k:Nat):Int))(ht:P.underlying t=some (.slice e))(hs:(P.info? e).map (·.size)=some 2)(hk:k<=m)(hmc:m<=c) :
  aM P S G ⟨some d,.slice t x (some y) none none,ty,pos,af,gd⟩ (.slice (tlP a k c) (m-k) (c-k)):=⟨λ w _=>by
 have he:P.elem t=e:=by simp[Program.elem,ht]
 have ht':P.underlying t=some (.slice (P.elem t)):=by rw[he];exact ht
 cases hi:P.info? e with
 | none=>simp[hi] at hs
 | some inf =>
  have hs':inf.size=2:=by simpa[hi] using hs
  have hr:=run_slice_l (P:=P) w t a m c ht' .i64 (k:Int) (by omega) (by omega)
  refine cz (v:=.slice (tlP a k c) (m-k) (c-k)) ?_
  simp[hx,hy,run_sliceAt_slice w t _ _ _ _ ht',hr,he,sizeOf,typeInfo,hi,hs',sliced,tlP,Nat.mul_comm]⟩
theorem SF.aBV(h:SF w0 M H A F O w){l:List Pr}(hf:pY A F [] a (cX l))(hc:l.length<=c):SF w0 M H ((tlP a k c,cX (l.drop k))::A) F O w:=by
 have e:cX (l.drop k)=(cX l).drop (2*k):=by rw[Q4]
 rw[e]
 refine h.Ut hf (λ hn=>?_) (λ h=>by rw[h];simp) (λ w hc'=>?_)
 ·unfold tlP
  split
  ·rfl
  ·cases a with
   | none=>rfl
   | some a =>
    obtain⟨b,o,s⟩:=a
    simp only[Option.map_some,cO,Addr.add]
    split<;>rfl
 ·unfold tlP
  split
  ·rename_i heq
   have:(cX l).drop (2*k)=[]:=List.drop_eq_nil_of_le (by rw[gS];omega)
   rw[this]
   exact Cl.nil _ _
  ·exact hc'.drop _
end
end
end Go.Ct
namespace Go.Proofs.YtbajmaoegmbfgaaGreat
open Go.Proofs.Tryz (prog)
section
open Go.RowKit Go.Ct
section
variable{l:List Pr}{a:Option Addr}{c:Nat}{k:ByteArray}{v:Int}{w:World}
open Classical in
noncomputable def dY (l:List Pr) (k:ByteArray):Option Int:=if SA l then rZ l k else none
open Classical in
noncomputable def Po (l:List Pr) (k:ByteArray) (v:Int):List Pr:=if SA l then mE l k v else []
open Classical in
noncomputable def sU (l:List Pr) (k:ByteArray):List Pr:=if SA l then iX l k else []
def r6(w:World)(m:List Pr)(e:Ending)(w':World):Prop:=∃x:Option Addr×Nat,e=.returned (.slice x.1 m.length x.2)/\m.length<=x.2/\SF w [] [] [] [] [⟨x.1,cX m,x.2,164,2⟩] w'
def Ze(w:World)(m:List Pr)(e:Ending)(w':World):Prop:=∃x:Option Addr×Nat,e=.returned (.slice x.1 m.length x.2)/\m.length<=x.2/\SF w [] [] [] [(x.1,cX m)] [] w'
theorem r6.Z0{w:World}{m:List Pr}{e:Ending}{w':World}(h:r6 w m e w'):Ze w m e w':=by
 obtain⟨x,h1,h2,h3⟩:=h
 exact⟨x,h1,h2,h3.freeze .head (by simp)⟩
end
end
section
open Go.RowKit Go.Ct
section
variable{l:List Pr}{a:Option Addr}{c:Nat}{k:ByteArray}{v:Int}{w:World}
theorem yg{l:List Pr}{k:ByteArray}:∀{i:Nat},i<l.length->(∀j,j<i->(l.getD j (⟨#[]⟩,0)).1≠k)->(l.getD i (⟨#[]⟩,0)).1=k->rZ l k=some (l.getD i (⟨#[]⟩,0)).2:=by
 induction l with
 | nil=>intro i h;simp at h
 | cons p l ih =>
  intro i h hn he
  cases i with
  | zero=>exact if_pos he
  | succ i =>
   refine(if_neg (hn 0 (by omega))).trans ?_
   exact ih (by simp at h;omega) (λ j hj=>hn (j+1) (by omega)) he
theorem q7{l:List Pr}{k:ByteArray}(h:∀j,j<l.length->(l.getD j (⟨#[]⟩,0)).1≠k):rZ l k=none:=pX λ p hp=>by
 obtain⟨j,hj,rfl⟩:=List.getElem_of_mem hp
 have:=h j hj
 rwa [iR hj] at this
theorem Jy(k:ByteArray)(ha:Cl w a (cX l))(hlen:l.length<=1099511627775) :
  Calls prog 60 #[.slice a l.length c,.string k] w λ e w'=>e=.returned (.tuple #[.int .u64 ((dY l k).getD 0),.bool (dY l k).isSome])/\St w [] [] w':=by
 refine enter Tryz.func60 Tryz.ntmps60 rfl rfl (SF.s1 ha) ?_
 simp only[cG]
 refine Ov ?_;refine aV ?_;refine D8 ?_
 refine iF [4,5,6,7,8,9,10,11,12,13,14,15,16,17,18,19,20,21,22,23,24,25,26,27,28] (λ k=>[(6,.int .i64 ((k:Nat):Int))]) (λ i=>i<=l.length/\(i≠0->SA l)/\∀j,j<i->(l.getD j (⟨#[]⟩,0)).1≠k) (λ k=>l.length-k) (0) (⟨Nat.zero_le _,λ h=>absurd rfl h,λ j hj=>absurd hj (Nat.not_lt_zero j)⟩) ?_ (λ i f hx=>?_)
 ·repeat (first|exact bJ _|refine bF (by exact rfl) ?_)
 dsimp only[iC,List.map,List.cons_append,List.nil_append]
 refine C4 ?_;refine dS ?_;refine Ca ?_
 (refine eI 11 (λ g11=>?_) (λ g11=>?_)<;>refine Ka0 ?_)
 all_goals ((first|refine aJ ?_|(refine aF ?_;refine aE (c0 (V:=.bool) (hc:=λ w1 hw=>mS (hw.cl fin) (by omega))) (λ x13 h13=>?_)));refine cA ?_;refine aI ?_)
 all_goals
 refine bC (λ c14=>?_) (λ c14=>?_)
 ·try exact nv c14
  all_goals (refine rY ?_;refine jF ?_;refine fT ?_;refine J3 ?_;refine aB ?_;refine vz ?_;refine aI ?_)
  all_goals
   refine bC (λ c23=>?_) (λ c23=>?_)
   ·refine jF ?_;refine fT ?_;refine J3 ?_;refine J8 ?_
    refine bD Tryz.results60 (λ w hw=>?_)
    rw[show dY l k=some (l.getD i (⟨#[]⟩,0)).2 from(if_pos (oZ.1 (h13.1 (by simp_all)))).trans (yg (by omega) hx.2.2 c23)];exact⟨rfl,hw.done⟩
   ·refine Kc1 ?_
    refine fP (i+1) ?_ ?_ ?_
    ·omega
    ·repeat' (first|exact bJ _|refine bF ?_ ?_)
     exact rfl
    ·exact⟨by omega,λ _=>oZ.1 (h13.1 (by simp_all)),λ j hj=>by rcases Nat.lt_succ_iff_lt_or_eq.1 hj with h|rfl;exact hx.2.2 j h;assumption⟩
 ·all_goals (refine bT rfl ?_;refine Ov ?_)
  all_goals
   refine bD Tryz.results60 (λ w hw=>?_)
   first
   | (rw[show dY l k=none from if_neg λ hs=>by have:=h13.2 (oZ.2 hs);simp_all];exact⟨rfl,hw.done⟩)
   | (rw[show dY l k=none by unfold dY;split;exact q7 λ j hj=>hx.2.2 j (by omega);rfl];exact⟨rfl,hw.done⟩)
theorem L0{l:List Pr}{i:Nat}(hi:i<l.length)(k:ByteArray):(l.take (i+1)).filter (λ p=>decide (p.1≠k))=(l.take i).filter (λ p=>decide (p.1≠k))++(if(l.getD i (⟨#[]⟩,0)).1≠k then [l.getD i (⟨#[]⟩,0)] else []):=by
 rw[List.take_add_one,List.getElem?_eq_getElem hi,iR hi,List.filter_append]
 congr 1
 by_cases h:l[i].1=k<;>simp[h]
theorem G5{l:List Pr}{i:Nat}(hi:i<l.length)(k:ByteArray):iX (l.take (i+1)) k=if(l.getD i (⟨#[]⟩,0)).1=k then iX (l.take i) k else iX (l.take i) k++[l.getD i (⟨#[]⟩,0)]:=by
 unfold iX
 rw[L0 hi k]
 by_cases h:(l.getD i (⟨#[]⟩,0)).1=k
 ·rw[if_neg λ hn=>hn h,if_pos h,List.append_nil]
 ·rw[if_pos h,if_neg h]
theorem P6(k:ByteArray)(ha:Cl w a (cX l))(hlen:l.length<=200000000000) :
  Calls prog 111 #[.slice a l.length c,.string k] w (r6 w (iX l k)):=by
 refine enter Tryz.func111 Tryz.ntmps111 rfl rfl (SF.s1 ha) ?_
 simp only[cG]
 refine dA ?_;refine E8 ?_;refine D8 ?_
 refine nT [5,6,7,8,9,10,11,12,13,14,15,16,17,18,19,20,21,22,23,24,25,26] (λ z:Nat×Option Addr×List Pr×Nat=>[(6,.int .i64 ((z.1:Nat):Int)),(5,.slice z.2.1 z.2.2.1.length z.2.2.2)]) (λ z=>z.1<=l.length/\z.2.2.1.length<=z.2.2.2/\z.2.2.1=iX (l.take z.1) k/\z.2.2.1.length<=z.1) (λ _=>_) (λ _=>_) (λ z=>[⟨z.2.1,cX z.2.2.1,z.2.2.2,164,2⟩]) (λ z=>l.length-z.1) ((0,none,[],0)) (⟨Nat.zero_le _,Nat.le_refl _,rfl,Nat.le_refl _⟩) (λ z f hx=>?_) (hw0:=λ w hw=>(hw.kA 164 2).back)
 dsimp only[iC,List.map,List.cons_append,List.nil_append]
 refine C4 ?_;refine dS ?_;refine Bi ?_
 refine bC (λ c10=>?_) (λ c10=>?_)
 ·refine rY ?_;refine jF ?_;refine fT ?_;refine J3 ?_;refine aB ?_;refine vl ?_;refine aI ?_
  refine bC (λ c19=>?_) (λ c19=>?_)
  ·refine xK ?_;refine pM ?_;refine Rw ?_;refine fF (λ x25=>?_);(refine fD (λ x26=>?_);try (refine eY (λ h26=>?_)));refine J1 ?_;refine Ka8 ?_
   refine iO ((by exact(z.1+1,x26.1,z.2.2.1++[l.getD z.1 (⟨#[]⟩,0)],x26.2))) ?_ (hw1:=λ w hw=>by exact hw.back (hO:=by exact List.Sublist.refl _))
   ·obtain⟨q1,q2,q3,q4⟩:=hx
    have hdt:=G5 (l:=l) (i:=z.1) (by omega) k
    first
    | exact⟨by show z.1+1<=l.length;omega,by simp only[List.length_append,List.length_cons,List.length_nil];omega,by rw[if_neg (by assumption),<- q3] at hdt;exact hdt.symm,by simp only[List.length_append,List.length_cons,List.length_nil];omega⟩
    | exact⟨by show z.1+1<=l.length;omega,q2,by rw[if_pos (by assumption),<- q3] at hdt;exact hdt.symm,by show z.2.2.1.length<=z.1+1;omega⟩
  ·refine Kc1 ?_
   refine iO ((by exact(z.1+1,z.2.1,z.2.2.1,z.2.2.2))) ?_ (hw1:=λ w hw=>by exact hw.back (hO:=by exact List.Sublist.refl _))
   ·obtain⟨q1,q2,q3,q4⟩:=hx
    have hdt:=G5 (l:=l) (i:=z.1) (by omega) k
    first
    | exact⟨by show z.1+1<=l.length;omega,by simp only[List.length_append,List.length_cons,List.length_nil];omega,by rw[if_neg (by assumption),<- q3] at hdt;exact hdt.symm,by simp only[List.length_append,List.length_cons,List.length_nil];omega⟩
    | exact⟨by show z.1+1<=l.length;omega,q2,by rw[if_pos (by assumption),<- q3] at hdt;exact hdt.symm,by show z.2.2.1.length<=z.1+1;omega⟩
 ·refine bT rfl ?_;refine Ka5 ?_
  refine aT Tryz.results111 (λ w hw=>?_)
  obtain⟨q1,q2,q3,q4⟩:=hx
  have e:z.2.2.1=iX l k:=by rw[q3,List.take_of_length_le (by omega)]
  rw[<- e]
  exact⟨(z.2.1,z.2.2.2),rfl,q2,hw.aY⟩
theorem lX{l:List Pr}{i:Nat}(hi:i<l.length):l.take (i+1)=l.take i++[l.getD i (⟨#[]⟩,0)]:=by
 rw[List.take_add_one,List.getElem?_eq_getElem hi,iR hi];rfl
theorem jf(p:Pr)(ha:Cl w a (cX l))(hc:l.length<=c)(hs:SA l)(hn:∀q∈l,q.1≠p.1)(hlen:l.length<=200000000000) :
    Calls prog 110 #[.slice a l.length c,.agg ⟨[.string p.1,.int .u64 p.2]⟩] w (r6 w (mE l p.1 p.2)):=by
  refine enter Tryz.func110 Tryz.ntmps110 rfl rfl (SF.s1 ha) ?_
  simp only[cG]
  refine J0 ?_;refine bM (λ x3=>?_);refine J1 ?_;refine E8 ?_;refine D8 ?_
  refine nT [5,6,8,9,10,11,12,13,14,15,16,17,18,19,20,21,22,23,24,25,26,27,28,29,30] (λ z:Nat×Option Addr×List Pr×Nat=>[(6,.int .i64 ((z.1:Nat):Int)),(5,.slice z.2.1 z.2.2.1.length z.2.2.2)]) (λ z=>z.1<=l.length/\z.2.2.1.length<=z.2.2.2/\z.2.2.1=l.take z.1/\z.2.2.1.length=z.1/\∀j,j<z.1->dM (l.getD j (⟨#[]⟩,0)).1 p.1=true) (λ z=>[(x3,.cells ⟨[.string p.1,.int .u64 p.2]⟩ 164 (0,0))]) (λ _=>_) (λ z=>[⟨z.2.1,cX z.2.2.1,z.2.2.2,164,2⟩]) (λ z=>l.length-z.1) ((0,none,[],0)) (⟨Nat.zero_le _,Nat.le_refl _,rfl,rfl,λ j hj=>absurd hj (Nat.not_lt_zero j)⟩) (λ z f hx=>?_) (hw0:=λ w hw=>(hw.kA 164 2).back)
  dsimp only[iC,List.map,List.cons_append,List.nil_append]
  refine aV ?_;refine aV ?_;refine gZ [0,1,2,3,4,5,6,7,8,9,10,11,12,13] ?_;refine iK ?_;refine oE ?_;refine Di ?_;refine aR ?_
  (refine qa 12 (λ g12=>?_) (λ g12=>?_)<;>(first|refine fQ ?_|(refine aR ?_)))
  all_goals ((first|refine fQ ?_|(refine aR ?_));(first|refine fQ ?_|(refine iW ?_));refine J18 ?_;refine J18 ?_;(first|refine fQ ?_|(refine ay ?_));refine kY ?_;refine eL ?_)
  all_goals
   refine bC (λ c21=>?_) (λ c21=>?_)
   · try exact nv c21
     all_goals (refine rY ?_;refine xK ?_;refine pM ?_;refine Rw ?_;refine fF (λ x29=>?_);(refine aP (by(exact bG.eR (Mw rf rf zM rfl fin (by exact qL rfl) fZ (by omega)) (by intro x;simp only[lD];exact rfl))) (λ x30=>?_);try (refine eY (λ h30=>?_)));refine J1 ?_;refine Ka8 ?_)
     all_goals
      refine iO ((z.1+1,x30.1,z.2.2.1++[l.getD z.1 (⟨#[]⟩,0)],x30.2)) ?_ (hw1:=λ w hw=>hw.back (hO:=by exact List.Sublist.refl _))
      · obtain⟨q1,q2,q3,q4,q5⟩:=hx
        refine⟨by show z.1+1<=l.length;omega,by simp only[List.length_append,List.length_cons,List.length_nil];omega,by rw[lX (by omega),<- q3],by simp only[List.length_append,List.length_cons,List.length_nil];omega,λ j hj=>?_⟩
        rcases Nat.lt_succ_iff_lt_or_eq.1 hj with h|rfl
        · exact q5 j h
        · exact c21
   · all_goals
      refine Uu (λ w hw=>hw.aBV (k:=z.2.2.1.length) (c:=c) fin hc) ?_
     all_goals (refine bT rfl ?_;refine J2 ?_;refine dS ?_;refine iT ?_;refine gZ [0,1,4,5,6,2,3,7,8] ?_;refine Ka9 ?_;refine iK ?_;refine cK (i:=6) (hq:=(fj (k:=z.2.2.1.length) rf rf fZ (by exact uL rfl) (by omega) (by omega))) (h:=?_);refine cE (h:=λ x35=>?_);((refine dC (i:=3) (hq:=(by(exact bG.eR (Mw rf rf zM rfl fin (by exact qL rfl) fZ (by omega)) (by intro x;simp only[lD];exact rfl)))) (h:=λ x36=>?_);try (refine eK (λ h36=>?_))));((refine dC (i:=7) (hq:=(by(exact bG.eR (Nn (l2:=l.drop z.2.2.1.length) rf rf zM (by simp;done) fin (by rw[List.length_drop]) (by exact qL rfl) fZ (by omega)) (by intro x;simp only[lD];exact rfl)))) (h:=λ x40=>?_);try (refine eK (λ h40=>?_))));refine J7 ?_)
     all_goals
      refine aT Tryz.results110 (λ w hw=>?_)
      obtain⟨q1,q2,q3,q4,q5⟩:=hx
      have hp:Ph l p.1 z.1:=⟨q1,q5,by first|exact aBR hs c21|(intro j h1 h2;omega)⟩
      have e:mE l p.1 p.2=z.2.2.1++[(p.1,p.2)]++l.drop z.2.2.1.length:=by
       rw[Ws hp λ hh=>?_,q4,<- q3,List.append_assoc]
       · rfl
       · exact hn _ (by rw[iR hh.1];exact List.getElem_mem hh.1) hh.2
      have e2:(z.2.2.1++[(p.1,p.2)]++l.drop z.2.2.1.length).length=z.2.2.1.length+1+(l.length-z.2.2.1.length):=by rw[List.length_append,List.length_append,List.length_drop];rfl
      rw[e]
      exact⟨x40,by rw[e2];rfl,by rw[e2];exact h40,hw.aY⟩
theorem wK(k:ByteArray)(ha:Cl w a (cX l))(hlen:l.length<=200000000000) :
  Calls prog 111 #[.slice a l.length c,.string k] w (Ze w (iX l k)):=(P6 k ha hlen).mono λ _ _ h=>h.Z0
theorem Qb(p:Pr)(ha:Cl w a (cX l))(hc:l.length<=c)(hs:SA l)(hn:∀q∈l,q.1≠p.1)(hlen:l.length<=200000000000) :
  Calls prog 110 #[.slice a l.length c,.agg ⟨[.string p.1,.int .u64 p.2]⟩] w (Ze w (mE l p.1 p.2)):=(jf p ha hc hs hn hlen).mono λ _ _ h=>h.Z0
theorem Lb{l:List Pr}{k:ByteArray}:∀q∈iX l k,q.1≠k:=λ q hq=>by simpa using(List.mem_filter.1 hq).2
theorem Fl(l:List Pr)(k:ByteArray):(iX l k).length<=l.length:=List.length_filter_le _ _
theorem bu(k:ByteArray)(v:Int)(ha:Cl w a (cX l))(hlen:l.length<=200000000000) :
  Calls prog 256 #[.slice a l.length c,.string k,.int .u64 v] w (Ze w (Po l k v)):=by
 have hdl:=Fl l k
 refine enter Tryz.func256 Tryz.ntmps256 rfl rfl (SF.s1 ha) ?_
 simp only[cG]
 refine dA ?_;refine kT ?_;refine aE (c0 (V:=.bool) (hc:=λ w1 hw=>mS (hw.cl fin) (by omega))) (λ x8 h8=>?_);refine pE ?_
 refine bC (λ c9=>?_) (λ c9=>?_)
 ·refine dA ?_
  refine aT Tryz.results256 (λ w hw=>?_)
  rw[show Po l k v=[] from if_neg λ hs=>by rw[h8.2 (oZ.2 hs)] at c9;cases c9];exact⟨(none,0),rfl,Nat.le_refl _,(hw.M9 none).fin⟩
 ·have hs:SA l:=oZ.1 (h8.1 (by simpa using c9))
  refine Du ?_;refine aE (cF (hc:=λ w1 hw=>wK k (hw.cl fin) hlen)) (λ x12 h12=>?_);refine pM ?_;refine bO ?_;refine aE (cF (hc:=λ w1 hw=>Qb (k,v) (hw.cl fin) h12 (wG k hs) Lb (by omega))) (λ x16 h16=>?_);refine J1 ?_
  refine aT Tryz.results256 (λ w hw=>?_)
  rw[show Po l k v=mE (iX l k) k v from(if_pos hs).trans (Q6 hs k v).symm];exact⟨x16,rfl,h16,hw.fin⟩
theorem Yj(k:ByteArray)(ha:Cl w a (cX l))(hlen:l.length<=200000000000) :
  Calls prog 258 #[.slice a l.length c,.string k] w (Ze w (sU l k)):=by
 refine enter Tryz.func258 Tryz.ntmps258 rfl rfl (SF.s1 ha) ?_
 simp only[cG]
 refine dA ?_;refine kT ?_;refine aE (c0 (V:=.bool) (hc:=λ w1 hw=>mS (hw.cl fin) (by omega))) (λ x6 h6=>?_);refine pE ?_
 refine bC (λ c7=>?_) (λ c7=>?_)
 ·refine dA ?_
  refine aT Tryz.results258 (λ w hw=>?_)
  rw[show sU l k=[] from if_neg λ hs=>by rw[h6.2 (oZ.2 hs)] at c7;cases c7];exact⟨(none,0),rfl,Nat.le_refl _,(hw.M9 none).fin⟩
 ·have hs:SA l:=oZ.1 (h6.1 (by simpa using c7))
  refine Du ?_;refine aE (cF (hc:=λ w1 hw=>wK k (hw.cl fin) hlen)) (λ x10 h10=>?_);refine J1 ?_
  refine aT Tryz.results258 (λ w hw=>?_)
  rw[show sU l k=iX l k from if_pos hs];exact⟨x10,rfl,h10,hw.fin⟩
theorem ub(ha:Cl w a (cX l))(hlen:l.length<=200000000000) :
  Calls prog 61 #[.slice a l.length c] w (Ze w (Ec l)):=by
 refine enter Tryz.func61 Tryz.ntmps61 rfl rfl (SF.s1 ha) ?_
 simp only[cG]
 refine dA ?_;refine E8 ?_;refine D8 ?_
 refine nT [3,4,5,6,7,8,9,10,11,12,13,14,15,16,17,18,19,20,21,22] (λ z:Nat×Option Addr×List Pr×Nat=>[(4,.int .i64 ((z.1:Nat):Int)),(3,.slice z.2.1 z.2.2.1.length z.2.2.2)]) (λ z=>z.1<=l.length/\z.2.2.1.length<=z.2.2.2/\z.2.2.1=Ec (l.take z.1)/\z.2.2.1.length<=z.1/\SA z.2.2.1) (λ _=>_) (λ z=>[(z.2.1,cX z.2.2.1)]) (λ _=>_) (λ z=>l.length-z.1) ((0,none,[],0)) (⟨Nat.zero_le _,Nat.le_refl _,rfl,Nat.le_refl _,List.Pairwise.nil⟩) (λ z f hx=>?_) (hw0:=λ w hw=>(hw.M9 none).back)
 dsimp only[iC,List.map,List.cons_append,List.nil_append]
 refine C4 ?_;refine dS ?_;refine Bi ?_
 refine bC (λ c8=>?_) (λ c8=>?_)
 ·have hdl:=Fl z.2.2.1 (l.getD z.1 (⟨#[]⟩,0)).1
  refine rY ?_;refine eH [(0,[]),(1,[]),(2,[]),(3,[]),(4,[]),(5,[]),(7,[]),(8,[]),(9,[]),(10,[]),(6,[9,10]),(11,[]),(12,[])] ?_;refine iK ?_;refine aR ?_;refine iW ?_;refine lK ?_;refine iK ?_;refine R4 ?_;refine bE (i:=6) (hq:=(cF (hc:=λ w1 hw=>wK (l.getD z.1 (⟨#[]⟩,0)).1 (hw.cl fin) (by omega)))) (h:=λ x17 h17=>?_);refine bE (i:=11) (hq:=(cF (hc:=λ w1 hw=>Qb (l.getD z.1 (⟨#[]⟩,0)) (hw.cl fin) h17 (wG _ hx.2.2.2.2) Lb (by omega)))) (h:=λ x22 h22=>?_);refine J7 ?_;refine Ka8 ?_
  refine iO ((z.1+1,x22.1,mE (iX z.2.2.1 (l.getD z.1 (⟨#[]⟩,0)).1) (l.getD z.1 (⟨#[]⟩,0)).1 (l.getD z.1 (⟨#[]⟩,0)).2,x22.2)) ?_
  ·obtain⟨q1,q2,q3,q4,q5⟩:=hx
   have e:=Q6 q5 (l.getD z.1 (⟨#[]⟩,0)).1 (l.getD z.1 (⟨#[]⟩,0)).2
   have hl:=xT (k:=(l.getD z.1 (⟨#[]⟩,0)).1) (v:=(l.getD z.1 (⟨#[]⟩,0)).2) q5
   rw[e] at h22
   refine⟨by show z.1+1<=l.length;omega,by show(mE _ _ _).length<=_;rw[e];exact h22,?_,?_,?_⟩
   ·show mE _ _ _=_
    rw[e,lX (by omega),xG,<- q3]
   ·show(mE _ _ _).length<=z.1+1
    rw[e,hl];split<;>omega
   ·show SA (mE _ _ _)
    rw[e];exact xN q5
 ·refine bT rfl ?_;refine Ka5 ?_
  refine aT Tryz.results61 (λ w hw=>?_)
  obtain⟨q1,q2,q3,q4,q5⟩:=hx
  have e:z.2.2.1=Ec l:=by rw[q3,List.take_of_length_le (by omega)]
  rw[<- e]
  exact⟨(z.2.1,z.2.2.2),rfl,q2,hw.fin⟩
end
end
section
open Go.RowKit Go.Ct
section
variable{l X:List Pr}{a:Option Addr}{c M:Nat}{k j:ByteArray}{v z:Int}{w:World}
theorem vc(X:List Pr)(k:ByteArray)(v:Int):(Po X k v).length<=X.length+1:=by
 unfold Po
 split
 ·next h=>rw[xT h];split<;>omega
 ·exact Nat.zero_le _
theorem ao(X:List Pr)(k:ByteArray):(sU X k).length<=X.length:=by
 unfold sU
 split
 ·exact Fl X k
 ·exact Nat.zero_le _
end
end
end Go.Proofs.YtbajmaoegmbfgaaGreat
namespace Go.Ct
open Go Go.RowKit
section
theorem nU{n:Nat}(h:n<18446744073709551616):IntKind.u64.wrap ((n:Nat):Int)=(n:Int):=by
 have h2:IntKind.u64.wrap (n:Int)=(n:Int)%18446744073709551616:=by simp[IntKind.wrap,IntKind.signed,IntKind.bits]
 omega
theorem Br(n:Nat)(h:n<18446744073709551616):(BitVec.ofInt IntKind.u64.bits (n:Int)).toNat=n:=by
 show(BitVec.ofInt 64 (n:Int)).toNat=n
 rw[BitVec.toNat_ofInt]
 omega
theorem qE{n m:Nat}(hn:n<18446744073709551616)(hm:m<18446744073709551616):pT .u64 (n:Int) (m:Int)=((n &&& m:Nat):Int):=by
 unfold pT
 rw[BitVec.toNat_and,Br n hn,Br m hm]
 exact nU (Nat.lt_of_le_of_lt Nat.and_le_left hn)
theorem ui{n m:Nat}(hn:n<18446744073709551616)(hm:m<18446744073709551616):rOr .u64 (n:Int) (m:Int)=((n ||| m:Nat):Int):=by
 unfold rOr
 rw[BitVec.toNat_or,Br n hn,Br m hm]
 exact nU (Nat.or_lt_two_pow (n:=64) hn hm)
theorem jb{n m:Nat}(hn:n<18446744073709551616)(hm:m<18446744073709551616):s8 .u64 (n:Int) (m:Int)=((n ^^^ m:Nat):Int):=by
 unfold s8
 rw[BitVec.toNat_xor,Br n hn,Br m hm]
 exact nU (Nat.xor_lt_two_pow (n:=64) hn hm)
theorem qB{n i:Nat}(hi:i<=64):pZ .u64 (n:Int) (i:Int)=((n >>> i:Nat):Int):=by
 unfold pZ
 rw[Int.toNat_natCast,show min i IntKind.u64.bits=i from Nat.min_eq_left hi,Nat.shiftRight_eq_div_pow]
 have:(2:Int)^i=((2^i:Nat):Int):=by simp
 rw[this,Int.fdiv_eq_ediv_of_nonneg _ (bL _)]
 rfl
theorem iq{i:Nat}(hi:i<64):ja .u64 1 (i:Int)=((2^i:Nat):Int):=by
 unfold ja
 rw[Int.toNat_natCast,show min i IntKind.u64.bits=i from Nat.min_eq_left (Nat.le_of_lt hi),Int.one_mul]
 have:(2:Int)^i=((2^i:Nat):Int):=by simp
 rw[this]
 refine nU ?_
 have:=Nat.pow_lt_pow_right (a:=2) (by decide) hi
 omega
def gC(n:Nat):Nat->Nat
 | 0=>0
 | k+1=>gC n k+if n.testBit k then 1 else 0
theorem zH(n:Nat):∀k,gC n k<=k
 | 0=>Nat.le_refl _
 | k+1=>by have:=zH n k;simp only[gC];split<;>omega
theorem Kn{n m:Nat}:∀{k:Nat},(∀i,i<k->n.testBit i=m.testBit i)->gC n k=gC m k
 | 0,_=>rfl
 | k+1,h=>by simp only[gC];rw[Kn λ i hi=>h i (Nat.lt_succ_of_lt hi),h k (Nat.lt_succ_self k)]
theorem Wy(n:Nat)(a:Nat):∀k,gC n (a+k)=gC n a+gC (n >>> a) k
 | 0=>rfl
 | k+1=>by
  rw[<- Nat.add_assoc]
  simp only[gC,Wy n a k,Nat.testBit_shiftRight]
  omega
theorem lJ{h l i:Nat}(hl:l<256):(256*h+l).testBit i=if i<8 then l.testBit i else h.testBit (i-8):=Nat.testBit_two_pow_mul_add h (i:=8) hl i
theorem gh{h l:Nat}(hl:l<256)(k:Nat):gC (256*h+l) (8+k)=gC l 8+gC h k:=by
 rw[Wy]
 congr 1
 ·exact Kn λ i hi=>by rw[lJ hl,if_pos hi]
 ·rw[Nat.shiftRight_eq_div_pow,show 2^8=256 from rfl]
  congr 1
  omega
theorem Cz{a b c d:Nat}(hb:b<256)(hd:d<256):(256*a+b) &&& (256*c+d)=256*(a &&& c)+(b &&& d):=by
 have hbd:b &&& d<256:=Nat.lt_of_le_of_lt Nat.and_le_left hb
 refine Nat.eq_of_testBit_eq λ i=>?_
 rw[Nat.testBit_and,lJ hb,lJ hd,lJ hbd]
 split
 ·rw[Nat.testBit_and]
 ·rw[Nat.testBit_and]
theorem K0{a b s:Nat}(hb:b<256)(hs:s<=8):(256*a+b) >>> s=256*(a >>> s)+((a%2^s)*2^(8-s)+b >>> s):=by
 simp only[Nat.shiftRight_eq_div_pow]
 have h1:256=2^s*2^(8-s):=by rw[<- Nat.pow_add];rw[show s+(8-s)=8 by omega]
 have h2:=Nat.div_add_mod a (2^s)
 have hp:0<2^s:=Nat.two_pow_pos s
 have h3:256*a+b=2^s*(2^(8-s)*a)+b:=by rw[h1,Nat.mul_assoc]
 rw[h3,Nat.mul_add_div hp]
 have h4:2^(8-s)*a=256*(a/2^s)+a%2^s*2^(8-s):=by
  conv=>lhs;rw[<- h2]
  rw[h1,Nat.mul_add,Nat.mul_comm (a%2^s),<- Nat.mul_assoc,Nat.mul_comm (2^(8-s)) (2^s)]
 omega
def kV(s:Nat)(m:Nat)(n:Nat):Nat:=((n >>> s) &&& m)+(n &&& m)
theorem td{a b s d:Nat}(hb:b<256)(hs:s<=8)(hd:d<2^(8-s)):((a%2^s)*2^(8-s)+b >>> s) &&& d=(b >>> s) &&& d:=by
 have hbs:b >>> s<2^(8-s):=by
  rw[Nat.shiftRight_eq_div_pow]
  refine Nat.div_lt_of_lt_mul ?_
  rw[<- Nat.pow_add,show s+(8-s)=8 by omega]
  exact hb
 refine Nat.eq_of_testBit_eq λ i=>?_
 rw[Nat.testBit_and,Nat.testBit_and,Nat.mul_comm,Nat.testBit_two_pow_mul_add _ hbs]
 split
 ·rfl
 ·rename_i h
  have:d.testBit i=false:=Nat.testBit_lt_two_pow (Nat.lt_of_lt_of_le hd (Nat.pow_le_pow_right (by decide) (by omega)))
  rw[this];simp
theorem Gc{s m a b d:Nat}(hb:b<256)(hs:s<=8)(hs0:0<s)(hd:d<2^(8-s)):kV s (256*m+d) (256*a+b)=256*kV s m a+kV s d b:=by
 have hd':d<256:=Nat.lt_of_lt_of_le hd (Nat.pow_le_pow_right (n:=2) (by decide) (show 8-s<=8 by omega))
 have hL:(a%2^s)*2^(8-s)+b >>> s<256:=by
  have h1:256=2^s*2^(8-s):=by rw[<- Nat.pow_add];rw[show s+(8-s)=8 by omega]
  have h2:a%2^s<2^s:=Nat.mod_lt _ (Nat.two_pow_pos s)
  have h3:b >>> s<2^(8-s):=by
   rw[Nat.shiftRight_eq_div_pow]
   refine Nat.div_lt_of_lt_mul ?_
   rw[<- Nat.pow_add,show s+(8-s)=8 by omega]
   exact hb
  have h4:(a%2^s+1)*2^(8-s)<=2^s*2^(8-s):=Nat.mul_le_mul_right _ h2
  rw[Nat.add_mul,Nat.one_mul] at h4
  omega
 unfold kV
 rw[K0 hb hs,Cz hL hd',Cz hb hd',td hb hs hd]
 omega
def vo(l:Nat):Nat:=(((kV 2 51 (kV 1 85 l)) >>> 4)+kV 2 51 (kV 1 85 l)) &&& 15
theorem s9:∀l,l<256->kV 1 85 l<256/\kV 2 51 (kV 1 85 l)<256/\kV 2 51 (kV 1 85 l)%16<=4/\kV 2 51 (kV 1 85 l)/16<=4/\vo l=gC l 8:=by decide +kernel
def sN(d:Nat):Nat->Nat
 | 0=>0
 | k+1=>256*sN d k+d
theorem Hz:∀(k n:Nat),n<256^k ->
  ∃r,(∀q,q=(kV 2 (sN 51 k) (kV 1 (sN 85 k) n))->(((q >>> 4)+q) &&& sN 15 k)=r/\q<256^k/\q%16<=4)/\(∃ps:List Nat,ps.length=k/\(∀p∈ps,p<=8)/\r=ps.foldr (λ p acc=>p+256*acc) 0/\ps.sum=gC n (8*k))
 | 0,n,h=>⟨0,λ q hq=>by
   have h0:n=0:=by simpa using h
   subst h0
   subst hq
   simp[kV,sN],[],rfl,by simp,rfl,by simp[gC]⟩
 | k+1,n,h=>by
  have hl:n%256<256:=Nat.mod_lt _ (by decide)
  have hn:n=256*(n/256)+n%256:=(Nat.div_add_mod n 256).symm
  have hk:n/256<256^k:=by
   refine Nat.div_lt_of_lt_mul ?_
   rw[Nat.mul_comm,<- Nat.pow_succ];exact h
  obtain⟨r,h1,ps,h2,h3,h4,h5⟩:=Hz k (n/256) hk
  obtain⟨b1,b2,b3,b4,b5⟩:=s9 (n%256) hl
  obtain⟨q1,q2,q3⟩:=h1 _ rfl
  generalize hQ:kV 2 (sN 51 k) (kV 1 (sN 85 k) (n/256))=Q at *
  refine⟨256*r+gC (n%256) 8,λ q hq=>?_,gC (n%256) 8::ps,by simp[h2],?_,?_,?_⟩
  ·have e:q=256*Q+kV 2 51 (kV 1 85 (n%256)):=by
    rw[hq]
    have e0:kV 1 (sN 85 (k+1)) n=256*kV 1 (sN 85 k) (n/256)+kV 1 85 (n%256):=by
     have:=Gc (s:=1) (m:=sN 85 k) (a:=n/256) hl (by decide) (by decide) (show 85<2^(8-1) by decide)
     rw[<- hn] at this
     exact this
    rw[e0,<- hQ]
    exact Gc (s:=2) (m:=sN 51 k) b1 (by decide) (by decide) (show 51<2^(8-2) by decide)
   generalize hB:kV 2 51 (kV 1 85 (n%256))=B at *
   have hones:((B >>> 4)+B) &&& 15=gC (n%256) 8:=by rw[<- b5,vo,hB]
   have e4:q >>> 4=256*(Q >>> 4)+((Q%16)*16+B >>> 4):=by rw[e];exact K0 (s:=4) b2 (by decide)
   have eB:B >>> 4=B/16:=by rw[Nat.shiftRight_eq_div_pow]
   have hlow:(Q%16)*16+B >>> 4+B<256:=by rw[eB];omega
   have hsum:q >>> 4+q=256*(Q >>> 4+Q)+((Q%16)*16+B >>> 4+B):=by rw[e4,e];omega
   refine⟨?_,?_,?_⟩
   ·rw[hsum]
    show(256*(Q >>> 4+Q)+_) &&& (256*sN 15 k+15)=_
    rw[Cz hlow (by decide),q1,<- hones]
    congr 1
    rw[Nat.and_two_pow_sub_one_eq_mod _ 4,Nat.and_two_pow_sub_one_eq_mod _ 4]
    omega
   ·rw[e,Nat.pow_succ];omega
   ·rw[e];omega
  ·intro p hp
   rcases List.mem_cons.1 hp with rfl|hp
   ·exact zH _ 8
   ·exact h3 p hp
  ·simp only[List.foldr_cons,<- h4];omega
  ·rw[List.sum_cons,h5]
   conv=>rhs;rw[hn]
   rw[show 8*(k+1)=8+8*k by omega,gh hl]
end
end Go.Ct
