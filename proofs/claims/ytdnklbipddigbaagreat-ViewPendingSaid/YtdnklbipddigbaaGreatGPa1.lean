/- Merged. -/
import Derived.Test.YtdnklbipddigbaaGreatGSlices
import Derived.Lib.Bytealg
import Derived.Laws.Externs
set_option linter.unusedSimpArgs false
set_option linter.unusedVariables false
namespace Go.Proofs.YtdnklbipddigbaaGreat
open Go.RowKit Go.Ct
section
theorem slt_le{a b c:ByteArray}(h:sless a b=true)(h2:sless c b=false):sless a c=true:=by
 cases hb:sless b c with
 | true=>exact sless_trans h hb
 | false=>have:=sless_total hb h2;subst this;exact h
theorem sle_le{a b c:ByteArray}(h:sless b a=false)(h2:sless c b=false):sless c a=false:=by
 cases hc:sless c a with
 | false=>rfl
 | true=>have:=slt_le hc h;rw[this] at h2;cases h2
theorem slt_ne{a b:ByteArray}(h:sless a b=true):a≠b:=λ e=>by subst e;rw[sless_irrefl] at h;cases h
theorem sle_ne{a b:ByteArray}(h:sless b a=false)(hn:a≠b):sless a b=true:=by
 cases hb:sless a b with
 | true=>rfl
 | false=>exact absurd (sless_total hb h) hn
def SA(l:List Pr):Prop:=l.Pairwise λ p q=>sless p.1 q.1=true
theorem asc_far{l:List Pr}(h:Asc l):∀d i,i+d+1<l.length->sless (l.getD i (⟨#[]⟩,0)).1 (l.getD (i+d+1) (⟨#[]⟩,0)).1=true
 | 0,i,hi=>by have:=h (i+1) (by omega) hi;rwa [Nat.add_sub_cancel] at this
 | d+1,i,hi=>sless_trans (asc_far h d i (by omega)) (by have:=h (i+(d+1)+1) (by omega) hi;rwa [Nat.add_sub_cancel] at this)
theorem getD_get{l:List Pr}{i:Nat}(h:i<l.length):l.getD i (⟨#[]⟩,0)=l[i]:=by simp[List.getD,List.getElem?_eq_getElem h]
theorem asc_sa{l:List Pr}:Asc l↔SA l:=by
 constructor;·intro h;refine List.pairwise_iff_getElem.2 λ i j hi hj hij=>?_;have:=asc_far h (j-i-1) i (by omega);rw[show i+(j-i-1)+1=j by omega,getD_get hi,getD_get hj] at this;exact this
 ·intro h i h1 hi;rw[getD_get (by omega),getD_get hi];exact List.pairwise_iff_getElem.1 h (i-1) i (by omega) hi (by omega)
def fnd:List Pr->ByteArray->Option Int
 | [],_=>none
 | p::l,k=>if p.1=k then some p.2 else fnd l k
theorem fnd_none{l:List Pr}{k:ByteArray}(h:∀p∈l,p.1≠k):fnd l k=none:=by
 induction l with
 | nil=>rfl
 | cons p l ih=>exact(if_neg (h p (.head _))).trans (ih λ q hq=>h q (.tail _ hq))
theorem sa_ext:∀{l m:List Pr},SA l->SA m->(∀k,fnd l k=fnd m k)->l=m
 | [],[],_,_,_=>rfl
 | [],q::m,_,_,h=>by have:=h q.1;simp[fnd] at this
 | p::l,[],_,_,h=>by have:=h p.1;simp[fnd] at this
 | p::l,q::m,h1,h2,h=>by
  have h1':=List.pairwise_cons.1 h1;have h2':=List.pairwise_cons.1 h2;have e1:sless p.1 q.1=false:=by
   cases hb:sless p.1 q.1 with
   | false=>rfl
   | true=>
    have:fnd (q::m) p.1=none:=fnd_none λ x hx=>by
     rcases List.mem_cons.1 hx with rfl|hx;·exact(slt_ne hb).symm
     ·exact(slt_ne (sless_trans hb (h2'.1 x hx))).symm
    have h':=h p.1;rw[this] at h';simp[fnd] at h'
  have e2:sless q.1 p.1=false:=by
   cases hb:sless q.1 p.1 with
   | false=>rfl
   | true=>
    have:fnd (p::l) q.1=none:=fnd_none λ x hx=>by
     rcases List.mem_cons.1 hx with rfl|hx;·exact(slt_ne hb).symm
     ·exact(slt_ne (sless_trans hb (h1'.1 x hx))).symm
    have h':=h q.1;rw[this] at h';simp[fnd] at h'
  have ek:=sless_total e1 e2;have ev:p.2=q.2:=by have:=h p.1;simpa[fnd,ek] using this
  have et:l=m:=sa_ext h1'.2 h2'.2 λ k=>by
   by_cases hk:p.1=k;·subst hk;rw[fnd_none λ x hx=>(slt_ne (h1'.1 x hx)).symm,fnd_none λ x hx=>by rw[ek];exact(slt_ne (h2'.1 x hx)).symm]
   ·have:=h k;rw[fnd,fnd,if_neg hk,if_neg (by rw[<- ek];exact hk)] at this;exact this
  rw[et,show p=q from Prod.ext ek ev]
def putL:List Pr->ByteArray->Int->List Pr
 | [],k,v=>[(k,v)]
 | p::l,k,v=>if sless p.1 k=true then p::putL l k v else if p.1=k then(k,v)::l else(k,v)::p::l
def dropL(l:List Pr)(k:ByteArray):List Pr:=l.filter λ p=>decide (p.1≠k)
theorem putL_mem{l:List Pr}{k:ByteArray}{v:Int}:∀{q:Pr},q∈putL l k v->q=(k,v)∨q∈l:=by
 induction l with
 | nil=>intro q h;rw[putL,List.mem_singleton] at h;exact .inl h
 | cons p l ih=>
  intro q h;rw[putL] at h;split at h
  ·rcases List.mem_cons.1 h with rfl|h;·exact .inr (.head _)
   ·exact(ih h).imp id (.tail _)
  ·split at h;·exact(List.mem_cons.1 h).imp id (.tail _)
   ·exact List.mem_cons.1 h
theorem putL_sa{k:ByteArray}{v:Int}:∀{l:List Pr},SA l->SA (putL l k v)
 | [],_=>List.pairwise_singleton _ _
 | p::l,h=>by
  have h':=List.pairwise_cons.1 h;rw[putL];split
  ·next hlt =>
   refine List.pairwise_cons.2 ⟨λ q hq=>?_,putL_sa h'.2⟩;rcases putL_mem hq with rfl|hq;·exact hlt
   ·exact h'.1 q hq
  ·next hlt =>
   split
   ·next he =>
    subst he;exact List.pairwise_cons.2 ⟨λ q hq=>h'.1 q hq,h'.2⟩
   ·next hne =>
    have hkp:sless k p.1=true:=sle_ne (by simpa using hlt) (λ e=>hne e.symm)
    refine List.pairwise_cons.2 ⟨λ q hq=>?_,h⟩;rcases List.mem_cons.1 hq with rfl|hq;·exact hkp
    ·exact sless_trans hkp (h'.1 q hq)
theorem putL_fnd{k:ByteArray}{v:Int}(j:ByteArray):∀{l:List Pr},SA l->fnd (putL l k v) j=if j=k then some v else fnd l j
 | [],_=>by
  simp only[putL,fnd]
  by_cases h:j=k
  ·rw[if_pos h,if_pos h.symm]
  ·rw[if_neg h,if_neg λ e=>h e.symm]
 | p::l,h=>by
  have h':=List.pairwise_cons.1 h
  have ih:=putL_fnd (k:=k) (v:=v) j h'.2
  rw[putL]
  split
  ·next hlt =>
   rw[fnd,ih,fnd]
   by_cases hj:j=k
   ·rw[if_pos hj,if_pos hj,if_neg λ e=>slt_ne hlt (e.trans hj)]
   ·rw[if_neg hj,if_neg hj]
  ·split
   ·next he =>
    rw[fnd,fnd]
    by_cases hj:j=k
    ·rw[if_pos hj,if_pos hj.symm]
    ·rw[if_neg hj,if_neg λ e=>hj e.symm,if_neg λ e=>hj (e.symm.trans he)]
   ·rw[fnd]
    by_cases hj:j=k
    ·rw[if_pos hj,if_pos hj.symm]
    ·rw[if_neg hj,if_neg λ e=>hj e.symm]
theorem dropL_sa{l:List Pr}(k:ByteArray)(h:SA l):SA (dropL l k):=h.sublist List.filter_sublist
theorem dropL_fnd(l:List Pr)(k j:ByteArray):fnd (dropL l k) j=if j=k then none else fnd l j:=by
 unfold dropL;induction l with
 | nil=>simp[fnd]
 | cons p l ih=>
  rw[List.filter_cons];by_cases hp:p.1=k
  ·rw[if_neg (by simp[hp]),ih,fnd];by_cases hj:j=k;·rw[if_pos hj,if_pos hj]
   ·rw[if_neg hj,if_neg hj,if_neg λ e=>hj (e.symm.trans hp)]
  ·rw[if_pos (by simp[hp]),fnd,ih,fnd];by_cases hj:j=k;·rw[if_pos hj,if_pos hj,if_neg λ e=>hp (e.trans hj)]
   ·rw[if_neg hj,if_neg hj]
theorem put_drop{l:List Pr}(h:SA l)(k:ByteArray)(v:Int):putL (dropL l k) k v=putL l k v :=
 sa_ext (putL_sa (dropL_sa k h)) (putL_sa h) λ j=>by
  rw[putL_fnd j (dropL_sa k h),putL_fnd j h,dropL_fnd];by_cases hj:j=k;·rw[if_pos hj,if_pos hj]
  ·rw[if_neg hj,if_neg hj,if_neg hj]
structure PosAt(l:List Pr)(k:ByteArray)(i:Nat):Prop where
 le:i<=l.length
 lo:∀j,j<i->sless (l.getD j (⟨#[]⟩,0)).1 k=true
 hi:∀j,i<=j->j<l.length->sless (l.getD j (⟨#[]⟩,0)).1 k=false
theorem PosAt.tl{p:Pr}{l:List Pr}{k:ByteArray}{i:Nat}(h:PosAt (p::l) k (i+1)):sless p.1 k=true/\PosAt l k i :=⟨h.lo 0 (by omega),⟨by have:=h.le;simp at this;omega,λ j hj=>h.lo (j+1) (by omega),λ j h1 h2=>h.hi (j+1) (by omega) (by simp;omega)⟩⟩
theorem put_new{k:ByteArray}{v:Int}:∀{l:List Pr} {i:Nat},PosAt l k i->¬(i<l.length/\(l.getD i (⟨#[]⟩,0)).1=k)->putL l k v=l.take i++(k,v)::l.drop i
 | [],i,h,_=>by have:=h.le;simp at this;subst this;rfl
 | p::l,0,h,hn=>by
  have:sless p.1 k=false:=h.hi 0 (Nat.le_refl _) (by simp)
  rw[putL,if_neg (by rw[this];decide),if_neg λ e:p.1=k=>hn ⟨by simp,e⟩]
  rfl
 | p::l,i+1,h,hn=>by
  rw[putL,if_pos h.tl.1,put_new h.tl.2 λ hh=>hn ⟨by simp;omega,hh.2⟩]
  rfl
theorem fnd_lt{k:ByteArray}:∀{l:List Pr} {v:Int},fnd l k=some v->∃i,i<l.length/\(l.getD i (⟨#[]⟩,0)).1=k
 | [],_,h=>by cases h
 | p::l,v,h=>by
  rw[fnd] at h;split at h;·next he=>exact⟨0,by simp,he⟩
  ·obtain⟨i,h1,h2⟩:=fnd_lt h;exact⟨i+1,by simp;omega,h2⟩
theorem put_len{k:ByteArray}{v:Int}:∀{l:List Pr},SA l->(putL l k v).length=if(fnd l k).isSome=true then l.length else l.length+1
 | [],_=>rfl
 | p::l,h=>by
  have h':=List.pairwise_cons.1 h;rw[putL];split
  ·next hlt =>
   rw[List.length_cons,put_len h'.2,fnd,if_neg (slt_ne hlt)];split<;>rfl
  ·next hlt =>
   split;·next he=>rw[fnd,if_pos he];rfl
   ·next hne =>
    have hkp:sless k p.1=true:=sle_ne (by simpa using hlt) (λ e=>hne e.symm)
    rw[fnd,if_neg hne,fnd_none λ q hq=>(slt_ne (sless_trans hkp (h'.1 q hq))).symm];rfl
theorem drop_len{k:ByteArray}:∀{l:List Pr},SA l->(dropL l k).length=if(fnd l k).isSome=true then l.length-1 else l.length
 | [],_=>rfl
 | p::l,h=>by
  have h':=List.pairwise_cons.1 h;have ih:=drop_len (k:=k) h'.2;unfold dropL at ih ⊢;rw[List.filter_cons];by_cases hp:p.1=k
  ·have hn:∀q∈l,q.1≠k:=λ q hq=>by rw[<- hp];exact(slt_ne (h'.1 q hq)).symm
   rw[if_neg (by simp[hp]),fnd,if_pos hp,List.filter_eq_self.2 λ q hq=>by simpa using hn q hq];rfl
  ·rw[if_pos (by simp[hp]),List.length_cons,ih,fnd,if_neg hp];split
   ·next hs =>
    have:1<=l.length:=by
     cases hf:fnd l k with
     | none=>rw[hf] at hs;cases hs
     | some v=>obtain⟨i,hi,_⟩:=fnd_lt hf;omega
    rw[List.length_cons];omega
   ·rfl
def ofL(l:List Pr):List Pr:=l.foldl (λ acc p=>putL acc p.1 p.2) []
theorem ofL_snoc(l:List Pr)(p:Pr):ofL (l++[p])=putL (ofL l) p.1 p.2:=by unfold ofL;rw[List.foldl_append];rfl
theorem snoc_ind{α:Type}{Q:List α->Prop}(h0:Q [])(h1:∀l x,Q l->Q (l++[x]))(l:List α):Q l:=by
 have key:∀m:List α,Q m.reverse:=λ m=>by
  induction m with
  | nil=>exact h0
  | cons x m ih=>rw[List.reverse_cons];exact h1 _ _ ih
 have:=key l.reverse;rwa [List.reverse_reverse] at this
theorem ofL_sa(l:List Pr):SA (ofL l):=by
 induction l using snoc_ind with
 | h0=>exact List.Pairwise.nil
 | h1 l x ih=>rw[ofL_snoc];exact putL_sa ih
theorem ofL_len(l:List Pr):(ofL l).length<=l.length:=by
 induction l using snoc_ind with
 | h0=>exact Nat.le_refl _
 | h1 l x ih=>rw[ofL_snoc,put_len (ofL_sa l),List.length_append,List.length_singleton];split<;>omega
end
end Go.Proofs.YtdnklbipddigbaaGreat
namespace Go.Ct
open Go Go.RowKit
section
variable{P:Program}{S:List (Nat×Value)}{w0 w:World}{M:List Nat}{H:List (Nat×Obj)}{A F:Fr}{O:List Ow}
theorem o_extr{G:World->Prop}{d:Nat}{ty:TypeId}{pos:String}{af:Array Edge}{gd:Option (Nat×Bool)}{x:Operand}{vs:List Value}{k:Nat}{v:Value}(hx:ev S x=.tuple ⟨vs⟩)(hk:vs[k]?=some v):Quiet P S G ⟨some d,.extract x k,ty,pos,af,gd⟩ v:=⟨λ w _=>by simp[execOp,hx,Instr.extract,hk]⟩
end
end Go.Ct
namespace Go.Proofs.YtdnklbipddigbaaGreat
open Go.RowKit Go.Ct
section
theorem bs_dn{l:List Pr}{k:ByteArray}{h:Nat}(hs:SA l)(hc:sless (l.getD h (⟨#[]⟩,0)).1 k=false)(j:Nat)(h1:h<=j)(hj:j<l.length):sless (l.getD j (⟨#[]⟩,0)).1 k=false:=by
 rcases Nat.lt_or_eq_of_le h1 with h2|rfl;·have:=List.pairwise_iff_getElem.1 hs h j (by omega) hj h2;rw[<- getD_get,<- getD_get] at this;exact sle_le hc (sless_asymm this)
 ·exact hc
end
end Go.Proofs.YtdnklbipddigbaaGreat
namespace Go.Ct
open Go Go.RowKit
section
section
variable{P:Program}{n:Nat}{S:List (Nat×Value)}
variable{w0 w w':World}{M:List Nat}{H H':List (Nat×Obj)}{A F F':Fr}{O O':List Ow}{G:World->Prop}
variable{d:Nat}{ty:TypeId}{pos:String}{af:Array Edge}{gd:Option (Nat×Bool)}{dst:Option Nat}{x y z:Operand}{t t2 e:TypeId}{p a:Option Addr}{i m k c c2:Nat}
def tlP(a:Option Addr)(k c:Nat):Option Addr:=if c=k then a else a.map (·.add (2*k))
theorem o_tailQP(hx:ev S x=.slice a m c)(hy:ev S y=.int .i64 ((k:Nat):Int))(ht:P.underlying t=some (.slice e))(hs:(P.info? e).map (·.size)=some 2)(hk:k<=m)(hmc:m<=c) :
  Quiet P S G ⟨some d,.slice t x (some y) none none,ty,pos,af,gd⟩ (.slice (tlP a k c) (m-k) (c-k)):=⟨λ w _=>by
 have he:P.elem t=e:=by simp[Program.elem,ht]
 have ht':P.underlying t=some (.slice (P.elem t)):=by rw[he];exact ht
 cases hi:P.info? e with
 | none=>simp[hi] at hs
 | some inf=>
  have hs':inf.size=2:=by simpa[hi] using hs
  have hr:=run_slice_l (P:=P) w t a m c ht' .i64 (k:Int) (by omega) (by omega);refine run_sl (v:=.slice (tlP a k c) (m-k) (c-k)) ?_;simp[hx,hy,run_sliceAt_slice w t _ _ _ _ ht',hr,he,sizeOf,typeInfo,hi,hs',sliced,tlP,Nat.mul_comm]⟩
theorem SF.tailP(h:SF w0 M H A F O w){l:List Pr}(hf:FIn A F [] a (prC l))(hc:l.length<=c):SF w0 M H ((tlP a k c,prC (l.drop k))::A) F O w:=by
 have e:prC (l.drop k)=(prC l).drop (2*k):=by rw[drop_prC]
 rw[e];refine h.addOld hf (λ hn=>?_) (λ h=>by rw[h];simp) (λ w hc'=>?_)
 ·unfold tlP;split;·rfl
  ·cases a with
   | none=>rfl
   | some a=>obtain⟨b,o,s⟩:=a;simp only[Option.map_some,ablk,Addr.add];split<;>rfl
 ·unfold tlP;split;·rename_i heq;have:(prC l).drop (2*k)=[]:=List.drop_eq_nil_of_le (by rw[prC_length];omega);rw[this];exact Cl.nil _ _
  ·exact hc'.drop _
end
end
end Go.Ct
namespace Go.Proofs.YtdnklbipddigbaaGreat
open Go.Proofs.Tryz (prog)
section
open Go.RowKit Go.Ct
section
variable{l:List Pr}{a:Option Addr}{c:Nat}{k:ByteArray}{v:Int}{w:World}
open Classical in
noncomputable def findO (l:List Pr) (k:ByteArray):Option Int:=if SA l then fnd l k else none
open Classical in
noncomputable def putO (l:List Pr) (k:ByteArray) (v:Int):List Pr:=if SA l then putL l k v else []
open Classical in
noncomputable def dropO (l:List Pr) (k:ByteArray):List Pr:=if SA l then dropL l k else []
def POwn(w:World)(m:List Pr)(e:Ending)(w':World):Prop:=∃x:Option Addr×Nat,e=.returned (.slice x.1 m.length x.2)/\m.length<=x.2/\SF w [] [] [] [] [⟨x.1,prC m,x.2,106,2⟩] w'
def PRes(w:World)(m:List Pr)(e:Ending)(w':World):Prop:=∃x:Option Addr×Nat,e=.returned (.slice x.1 m.length x.2)/\m.length<=x.2/\SF w [] [] [] [(x.1,prC m)] [] w'
theorem POwn.res{w:World}{m:List Pr}{e:Ending}{w':World}(h:POwn w m e w'):PRes w m e w':=by obtain⟨x,h1,h2,h3⟩:=h;exact⟨x,h1,h2,h3.freeze .head (by simp)⟩
end
end
section
open Go.RowKit Go.Ct
section
variable{l:List Pr}{a:Option Addr}{c:Nat}{k:ByteArray}{v:Int}{w:World}
theorem fnd_at{l:List Pr}{k:ByteArray}:∀{i:Nat},i<l.length->(∀j,j<i->(l.getD j (⟨#[]⟩,0)).1≠k)->(l.getD i (⟨#[]⟩,0)).1=k->fnd l k=some (l.getD i (⟨#[]⟩,0)).2:=by
 induction l with
 | nil=>intro i h;simp at h
 | cons p l ih=>
  intro i h hn he;cases i with
  | zero=>exact if_pos he
  | succ i=>refine(if_neg (hn 0 (by omega))).trans ?_;exact ih (by simp at h;omega) (λ j hj=>hn (j+1) (by omega)) he
theorem fnd_all{l:List Pr}{k:ByteArray}(h:∀j,j<l.length->(l.getD j (⟨#[]⟩,0)).1≠k):fnd l k=none:=fnd_none λ p hp=>by obtain⟨j,hj,rfl⟩:=List.getElem_of_mem hp;have:=h j hj;rwa [getD_get hj] at this
theorem refFind_c(k:ByteArray)(ha:Cl w a (prC l))(hlen:l.length<=1099511627775) :
  Calls prog 216 #[.slice a l.length c,.string k] w λ e w'=>e=.returned (.tuple #[.int .u64 ((findO l k).getD 0),.bool (findO l k).isSome])/\St w [] [] w':=by
 refine enter Tryz.func216 Tryz.ntmps216 rfl rfl (SF.s1 ha) ?_;simp only[mkS];refine J66 ?_;refine k_seq ?_;refine J69 ?_;refine k_loopC [4,5,6,7,8,9,10,11,12,13,14,15,16,17,18,19,20,21,22,23,24,25,26,27,28] (λ k=>[(6,.int .i64 ((k:Nat):Int))]) (λ i=>i<=l.length/\(i≠0->SA l)/\∀j,j<i->(l.getD j (⟨#[]⟩,0)).1≠k) (λ k=>l.length-k) (0) (⟨Nat.zero_le _,λ h=>absurd rfl h,λ j hj=>absurd hj (Nat.not_lt_zero j)⟩) ?_ (λ i f hx=>?_);·repeat (first|exact knows_nil _|refine knows_cons (by exact rfl) ?_)
 dsimp only[mkU,List.map,List.cons_append,List.nil_append];refine Kf0 ?_;refine J64 ?_;(refine lcs 11 (λ g11=>?_) (λ g11=>?_)<;>refine Ka0 ?_);all_goals ((first|refine j_un ?_|(refine j_yes ?_;refine j_ownF (c0 (V:=.bool) (hc:=λ w1 hw=>refPrValid_c (hw.cl fin) (by omega))) (λ x13 h13=>?_)));refine Ke8 ?_)
 all_goals
 refine kif (λ c14=>?_) (λ c14=>?_)
 ·try exact nv c14
  all_goals (refine J37 ?_;refine J11 ?_;refine j_indexAddr ?_;refine Ke9 ?_;refine j_seq ?_;refine l_nil ?_)
  all_goals
   refine kif (λ c23=>?_) (λ c23=>?_);·refine J11 ?_;refine j_indexAddr ?_;refine J3 ?_;refine J8 ?_;refine k_rt Tryz.results216 (λ w hw=>?_);rw[show findO l k=some (l.getD i (⟨#[]⟩,0)).2 from(if_pos (asc_sa.1 (h13.1 (by simp_all)))).trans (fnd_at (by omega) hx.2.2 c23)];exact⟨rfl,hw.done⟩
   ·refine Kd1 ?_;refine k_roundC (i+1) ?_ ?_ ?_;·omega
    ·repeat' (first|exact knows_nil _|refine knows_cons ?_ ?_)
     exact rfl
    ·exact⟨by omega,λ _=>asc_sa.1 (h13.1 (by simp_all)),λ j hj=>by rcases Nat.lt_succ_iff_lt_or_eq.1 hj with h|rfl;exact hx.2.2 j h;assumption⟩
 ·all_goals (refine k_exit rfl ?_;refine J66 ?_)
  all_goals
   refine k_rt Tryz.results216 (λ w hw=>?_)
   first
   | (rw[show findO l k=none from if_neg λ hs=>by have:=h13.2 (asc_sa.2 hs);simp_all];exact⟨rfl,hw.done⟩)
   | (rw[show findO l k=none by unfold findO;split;exact fnd_all λ j hj=>hx.2.2 j (by omega);rfl];exact⟨rfl,hw.done⟩)
theorem without_step{l:List Pr}{i:Nat}(hi:i<l.length)(k:ByteArray):(l.take (i+1)).filter (λ p=>decide (p.1≠k))=(l.take i).filter (λ p=>decide (p.1≠k))++(if(l.getD i (⟨#[]⟩,0)).1≠k then [l.getD i (⟨#[]⟩,0)] else []):=by rw[List.take_add_one,List.getElem?_eq_getElem hi,getD_get hi,List.filter_append];congr 1;by_cases h:l[i].1=k<;>simp[h]
theorem dropL_take{l:List Pr}{i:Nat}(hi:i<l.length)(k:ByteArray):dropL (l.take (i+1)) k=if(l.getD i (⟨#[]⟩,0)).1=k then dropL (l.take i) k else dropL (l.take i) k++[l.getD i (⟨#[]⟩,0)]:=by
 unfold dropL;rw[without_step hi k];by_cases h:(l.getD i (⟨#[]⟩,0)).1=k;·rw[if_neg λ hn=>hn h,if_pos h,List.append_nil]
 ·rw[if_pos h,if_neg h]
theorem prWithout_c(k:ByteArray)(ha:Cl w a (prC l))(hlen:l.length<=200000000000) :
  Calls prog 248 #[.slice a l.length c,.string k] w (POwn w (dropL l k)):=by
 refine enter Tryz.func248 Tryz.ntmps248 rfl rfl (SF.s1 ha) ?_;simp only[mkS];refine J10 ?_;refine J75 ?_;refine J69 ?_;refine k_lp [5,6,7,8,9,10,11,12,13,14,15,16,17,18,19,20,21,22,23,24,25,26] (λ z:Nat×Option Addr×List Pr×Nat=>[(6,.int .i64 ((z.1:Nat):Int)),(5,.slice z.2.1 z.2.2.1.length z.2.2.2)]) (λ z=>z.1<=l.length/\z.2.2.1.length<=z.2.2.2/\z.2.2.1=dropL (l.take z.1) k/\z.2.2.1.length<=z.1) (λ _=>_) (λ _=>_) (λ z=>[⟨z.2.1,prC z.2.2.1,z.2.2.2,106,2⟩]) (λ z=>l.length-z.1) ((0,none,[],0)) (⟨Nat.zero_le _,Nat.le_refl _,rfl,Nat.le_refl _⟩) (λ z f hx=>?_) (hw0:=λ w hw=>(hw.nilOwn 106 2).back);dsimp only[mkU,List.map,List.cons_append,List.nil_append];refine Kf0 ?_;refine J47 ?_;refine kif (λ c10=>?_) (λ c10=>?_)
 ·refine J37 ?_;refine J11 ?_;refine j_indexAddr ?_;refine Ke9 ?_;refine j_sne ?_;refine l_nil ?_;refine kif (λ c19=>?_) (λ c19=>?_)
  ·refine J20 ?_;refine J35 ?_;refine J53 ?_;refine j_buildSlice (λ x25=>?_);(refine j_append (λ x26=>?_);try (refine l_fact (λ h26=>?_)));refine J1 ?_;refine Kb5 ?_;refine k_rd ((by exact(z.1+1,x26.1,z.2.2.1++[l.getD z.1 (⟨#[]⟩,0)],x26.2))) ?_ (hw1:=λ w hw=>by exact hw.back (hO:=by exact List.Sublist.refl _))
   ·obtain⟨q1,q2,q3,q4⟩:=hx;have hdt:=dropL_take (l:=l) (i:=z.1) (by omega) k
    first
    | exact⟨by show z.1+1<=l.length;omega,by simp only[List.length_append,List.length_cons,List.length_nil];omega,by rw[if_neg (by assumption),<- q3] at hdt;exact hdt.symm,by simp only[List.length_append,List.length_cons,List.length_nil];omega⟩
    | exact⟨by show z.1+1<=l.length;omega,q2,by rw[if_pos (by assumption),<- q3] at hdt;exact hdt.symm,by show z.2.2.1.length<=z.1+1;omega⟩
  ·refine Kd1 ?_;refine k_rd ((by exact(z.1+1,z.2.1,z.2.2.1,z.2.2.2))) ?_ (hw1:=λ w hw=>by exact hw.back (hO:=by exact List.Sublist.refl _))
   ·obtain⟨q1,q2,q3,q4⟩:=hx;have hdt:=dropL_take (l:=l) (i:=z.1) (by omega) k
    first
    | exact⟨by show z.1+1<=l.length;omega,by simp only[List.length_append,List.length_cons,List.length_nil];omega,by rw[if_neg (by assumption),<- q3] at hdt;exact hdt.symm,by simp only[List.length_append,List.length_cons,List.length_nil];omega⟩
    | exact⟨by show z.1+1<=l.length;omega,q2,by rw[if_pos (by assumption),<- q3] at hdt;exact hdt.symm,by show z.2.2.1.length<=z.1+1;omega⟩
 ·refine k_exit rfl ?_;refine Kb2 ?_;refine k_rv Tryz.results248 (λ w hw=>?_);obtain⟨q1,q2,q3,q4⟩:=hx;have e:z.2.2.1=dropL l k:=by rw[q3,List.take_of_length_le (by omega)]
  rw[<- e];exact⟨(z.2.1,z.2.2.2),rfl,q2,hw.finH⟩
theorem take_snoc{l:List Pr}{i:Nat}(hi:i<l.length):l.take (i+1)=l.take i++[l.getD i (⟨#[]⟩,0)]:=by rw[List.take_add_one,List.getElem?_eq_getElem hi,getD_get hi];rfl
theorem prWith_c(p:Pr)(ha:Cl w a (prC l))(hc:l.length<=c)(hs:SA l)(hn:∀q∈l,q.1≠p.1)(hlen:l.length<=200000000000) :
    Calls prog 247 #[.slice a l.length c,.agg ⟨[.string p.1,.int .u64 p.2]⟩] w (POwn w (putL l p.1 p.2)):=by
     refine enter Tryz.func247 Tryz.ntmps247 rfl rfl (SF.s1 ha) ?_;simp only[mkS];refine J0 ?_;refine j_box (λ x3=>?_);refine J1 ?_;refine J75 ?_;refine J69 ?_;refine k_lp [5,6,8,9,10,11,12,13,14,15,16,17,18,19,20,21,22,23,24,25,26,27,28,29,30] (λ z:Nat×Option Addr×List Pr×Nat=>[(6,.int .i64 ((z.1:Nat):Int)),(5,.slice z.2.1 z.2.2.1.length z.2.2.2)]) (λ z=>z.1<=l.length/\z.2.2.1.length<=z.2.2.2/\z.2.2.1=l.take z.1/\z.2.2.1.length=z.1/\∀j,j<z.1->sless (l.getD j (⟨#[]⟩,0)).1 p.1=true) (λ z=>[(x3,.cells ⟨[.string p.1,.int .u64 p.2]⟩ 106 (0,0))]) (λ _=>_) (λ z=>[⟨z.2.1,prC z.2.2.1,z.2.2.2,106,2⟩]) (λ z=>l.length-z.1) ((0,none,[],0)) (⟨Nat.zero_le _,Nat.le_refl _,rfl,rfl,λ j hj=>absurd hj (Nat.not_lt_zero j)⟩) (λ z f hx=>?_) (hw0:=λ w hw=>(hw.nilOwn 106 2).back);dsimp only[mkU,List.map,List.cons_append,List.nil_append];refine k_seq ?_;refine k_seq ?_;refine k_dq [0,1,2,3,4,5,6,7,8,9,10,11,12,13] ?_;refine J17 ?_;refine r_len ?_;refine r_lss ?_;refine r_move ?_;(refine rcs 12 (λ g12=>?_) (λ g12=>?_)<;>(first|refine r_un ?_|(refine r_move ?_)));all_goals ((first|refine r_un ?_|(refine r_move ?_));(first|refine r_un ?_|(refine r_indexAddr ?_));refine J18 ?_;refine J18 ?_;(first|refine r_un ?_|(refine r_lssStr ?_));refine r_pick ?_;refine r_fin ?_)
     all_goals
      refine kif (λ c21=>?_) (λ c21=>?_)
      ·try exact nv c21
       all_goals (refine J37 ?_;refine J20 ?_;refine J35 ?_;refine J53 ?_;refine j_buildSlice (λ x29=>?_);(refine j_own (by(exact Loud.convOF (o_appP1 rf rf oaT rfl fin (by exact elem_pairT rfl) sl1 (by omega)) (by intro x;simp only[setO];exact rfl))) (λ x30=>?_);try (refine l_fact (λ h30=>?_)));refine J1 ?_;refine Kb5 ?_)
       all_goals
        refine k_rd ((z.1+1,x30.1,z.2.2.1++[l.getD z.1 (⟨#[]⟩,0)],x30.2)) ?_ (hw1:=λ w hw=>hw.back (hO:=by exact List.Sublist.refl _))
        ·obtain⟨q1,q2,q3,q4,q5⟩:=hx;refine⟨by show z.1+1<=l.length;omega,by simp only[List.length_append,List.length_cons,List.length_nil];omega,by rw[take_snoc (by omega),<- q3],by simp only[List.length_append,List.length_cons,List.length_nil];omega,λ j hj=>?_⟩;rcases Nat.lt_succ_iff_lt_or_eq.1 hj with h|rfl;·exact q5 j h
         ·exact c21
      ·all_goals refine k_mono (λ w hw=>hw.tailP (k:=z.2.2.1.length) (c:=c) fin hc) ?_
       all_goals (refine k_exit rfl ?_;refine J2 ?_;refine j_len ?_;refine J27 ?_;refine k_dq [0,1,4,5,6,2,3,7,8] ?_;refine Kd5 ?_;refine r_ownP (i:=6) (hq:=(o_tailQP (k:=z.2.2.1.length) rf rf sl1 (by exact sz_of rfl) (by omega) (by omega))) (h:=?_);refine r_buildSlice (h:=λ x35=>?_);((refine r_own (i:=3) (hq:=(by(exact Loud.convOF (o_appP1 rf rf oaT rfl fin (by exact elem_pairT rfl) sl1 (by omega)) (by intro x;simp only[setO];exact rfl)))) (h:=λ x36=>?_);try (refine r_fact (λ h36=>?_))));((refine r_own (i:=7) (hq:=(by(exact Loud.convOF (o_appP (l2:=l.drop z.2.2.1.length) rf rf oaT (by simp;done) fin (by rw[List.length_drop]) (by exact elem_pairT rfl) sl1 (by omega)) (by intro x;simp only[setO];exact rfl)))) (h:=λ x40=>?_);try (refine r_fact (λ h40=>?_))));refine J7 ?_)
       all_goals
        refine k_rv Tryz.results247 (λ w hw=>?_);obtain⟨q1,q2,q3,q4,q5⟩:=hx;have hp:PosAt l p.1 z.1:=⟨q1,q5,by first|exact bs_dn hs c21|(intro j h1 h2;omega)⟩;have e:putL l p.1 p.2=z.2.2.1++[(p.1,p.2)]++l.drop z.2.2.1.length:=by
         rw[put_new hp λ hh=>?_,q4,<- q3,List.append_assoc];·rfl
         ·exact hn _ (by rw[getD_get hh.1];exact List.getElem_mem hh.1) hh.2
        have e2:(z.2.2.1++[(p.1,p.2)]++l.drop z.2.2.1.length).length=z.2.2.1.length+1+(l.length-z.2.2.1.length):=by rw[List.length_append,List.length_append,List.length_drop];rfl
        rw[e];exact⟨x40,by rw[e2];rfl,by rw[e2];exact h40,hw.finH⟩
theorem prWithout_f(k:ByteArray)(ha:Cl w a (prC l))(hlen:l.length<=200000000000) :
  Calls prog 248 #[.slice a l.length c,.string k] w (PRes w (dropL l k)):=(prWithout_c k ha hlen).mono λ _ _ h=>h.res
theorem prWith_f(p:Pr)(ha:Cl w a (prC l))(hc:l.length<=c)(hs:SA l)(hn:∀q∈l,q.1≠p.1)(hlen:l.length<=200000000000) :
  Calls prog 247 #[.slice a l.length c,.agg ⟨[.string p.1,.int .u64 p.2]⟩] w (PRes w (putL l p.1 p.2)):=(prWith_c p ha hc hs hn hlen).mono λ _ _ h=>h.res
theorem dropL_not{l:List Pr}{k:ByteArray}:∀q∈dropL l k,q.1≠k:=λ q hq=>by simpa using(List.mem_filter.1 hq).2
theorem dropL_le(l:List Pr)(k:ByteArray):(dropL l k).length<=l.length:=List.length_filter_le _ _
theorem refPut_c(k:ByteArray)(v:Int)(ha:Cl w a (prC l))(hlen:l.length<=200000000000) :
  Calls prog 244 #[.slice a l.length c,.string k,.int .u64 v] w (PRes w (putO l k v)):=by
 have hdl:=dropL_le l k;refine enter Tryz.func244 Tryz.ntmps244 rfl rfl (SF.s1 ha) ?_;simp only[mkS];refine Kc2 ?_;refine j_ownF (c0 (V:=.bool) (hc:=λ w1 hw=>refPrValid_c (hw.cl fin) (by omega))) (λ x8 h8=>?_);refine J33 ?_;refine kif (λ c9=>?_) (λ c9=>?_);·refine J10 ?_;refine k_rv Tryz.results244 (λ w hw=>?_);rw[show putO l k v=[] from if_neg λ hs=>by rw[h8.2 (asc_sa.2 hs)] at c9;cases c9];exact⟨(none,0),rfl,Nat.le_refl _,(hw.fnil none).fin⟩
 ·have hs:SA l:=asc_sa.1 (h8.1 (by simpa using c9));refine J58 ?_;refine j_ownF (cF (hc:=λ w1 hw=>prWithout_f k (hw.cl fin) hlen)) (λ x12 h12=>?_);refine J35 ?_;refine j_build ?_;refine j_ownF (cF (hc:=λ w1 hw=>prWith_f (k,v) (hw.cl fin) h12 (dropL_sa k hs) dropL_not (by omega))) (λ x16 h16=>?_);refine J1 ?_;refine k_rv Tryz.results244 (λ w hw=>?_);rw[show putO l k v=putL (dropL l k) k v from(if_pos hs).trans (put_drop hs k v).symm];exact⟨x16,rfl,h16,hw.fin⟩
theorem refDrop_c(k:ByteArray)(ha:Cl w a (prC l))(hlen:l.length<=200000000000) :
  Calls prog 246 #[.slice a l.length c,.string k] w (PRes w (dropO l k)):=by
 refine enter Tryz.func246 Tryz.ntmps246 rfl rfl (SF.s1 ha) ?_;simp only[mkS];refine Kc2 ?_;refine j_ownF (c0 (V:=.bool) (hc:=λ w1 hw=>refPrValid_c (hw.cl fin) (by omega))) (λ x6 h6=>?_);refine J33 ?_;refine kif (λ c7=>?_) (λ c7=>?_);·refine J10 ?_;refine k_rv Tryz.results246 (λ w hw=>?_);rw[show dropO l k=[] from if_neg λ hs=>by rw[h6.2 (asc_sa.2 hs)] at c7;cases c7];exact⟨(none,0),rfl,Nat.le_refl _,(hw.fnil none).fin⟩
 ·have hs:SA l:=asc_sa.1 (h6.1 (by simpa using c7));refine J58 ?_;refine j_ownF (cF (hc:=λ w1 hw=>prWithout_f k (hw.cl fin) hlen)) (λ x10 h10=>?_);refine J1 ?_;refine k_rv Tryz.results246 (λ w hw=>?_);rw[show dropO l k=dropL l k from if_pos hs];exact⟨x10,rfl,h10,hw.fin⟩
theorem refOf_c(ha:Cl w a (prC l))(hlen:l.length<=200000000000) :
  Calls prog 250 #[.slice a l.length c] w (PRes w (ofL l)):=by
 refine enter Tryz.func250 Tryz.ntmps250 rfl rfl (SF.s1 ha) ?_;simp only[mkS];refine J10 ?_;refine J75 ?_;refine J69 ?_;refine k_lp [3,4,5,6,7,8,9,10,11,12,13,14,15,16,17,18,19,20,21,22] (λ z:Nat×Option Addr×List Pr×Nat=>[(4,.int .i64 ((z.1:Nat):Int)),(3,.slice z.2.1 z.2.2.1.length z.2.2.2)]) (λ z=>z.1<=l.length/\z.2.2.1.length<=z.2.2.2/\z.2.2.1=ofL (l.take z.1)/\z.2.2.1.length<=z.1/\SA z.2.2.1) (λ _=>_) (λ z=>[(z.2.1,prC z.2.2.1)]) (λ _=>_) (λ z=>l.length-z.1) ((0,none,[],0)) (⟨Nat.zero_le _,Nat.le_refl _,rfl,Nat.le_refl _,List.Pairwise.nil⟩) (λ z f hx=>?_) (hw0:=λ w hw=>(hw.fnil none).back);dsimp only[mkU,List.map,List.cons_append,List.nil_append];refine Kf0 ?_;refine J47 ?_;refine kif (λ c8=>?_) (λ c8=>?_)
 ·have hdl:=dropL_le z.2.2.1 (l.getD z.1 (⟨#[]⟩,0)).1;refine J37 ?_;refine k_dp [(0,[]),(1,[]),(2,[]),(3,[]),(4,[]),(5,[]),(7,[]),(8,[]),(9,[]),(10,[]),(6,[9,10]),(11,[]),(12,[])] ?_;refine J17 ?_;refine r_move ?_;refine r_indexAddr ?_;refine J15 ?_;refine J17 ?_;refine J48 ?_;refine r_ownF (i:=6) (hq:=(cF (hc:=λ w1 hw=>prWithout_f (l.getD z.1 (⟨#[]⟩,0)).1 (hw.cl fin) (by omega)))) (h:=λ x17 h17=>?_);refine r_ownF (i:=11) (hq:=(cF (hc:=λ w1 hw=>prWith_f (l.getD z.1 (⟨#[]⟩,0)) (hw.cl fin) h17 (dropL_sa _ hx.2.2.2.2) dropL_not (by omega)))) (h:=λ x22 h22=>?_);refine J7 ?_;refine Kb5 ?_;refine k_rd ((z.1+1,x22.1,putL (dropL z.2.2.1 (l.getD z.1 (⟨#[]⟩,0)).1) (l.getD z.1 (⟨#[]⟩,0)).1 (l.getD z.1 (⟨#[]⟩,0)).2,x22.2)) ?_
  ·obtain⟨q1,q2,q3,q4,q5⟩:=hx;have e:=put_drop q5 (l.getD z.1 (⟨#[]⟩,0)).1 (l.getD z.1 (⟨#[]⟩,0)).2;have hl:=put_len (k:=(l.getD z.1 (⟨#[]⟩,0)).1) (v:=(l.getD z.1 (⟨#[]⟩,0)).2) q5;rw[e] at h22;refine⟨by show z.1+1<=l.length;omega,by show(putL _ _ _).length<=_;rw[e];exact h22,?_,?_,?_⟩;·show putL _ _ _=_;rw[e,take_snoc (by omega),ofL_snoc,<- q3]
   ·show(putL _ _ _).length<=z.1+1;rw[e,hl];split<;>omega
   ·show SA (putL _ _ _);rw[e];exact putL_sa q5
 ·refine k_exit rfl ?_;refine Kb2 ?_;refine k_rv Tryz.results250 (λ w hw=>?_);obtain⟨q1,q2,q3,q4,q5⟩:=hx;have e:z.2.2.1=ofL l:=by rw[q3,List.take_of_length_le (by omega)]
  rw[<- e];exact⟨(z.2.1,z.2.2.2),rfl,q2,hw.fin⟩
end
end
section
open Go.RowKit Go.Ct
section
variable{l X:List Pr}{a:Option Addr}{c M:Nat}{k j:ByteArray}{v z:Int}{w:World}
theorem putO_le(X:List Pr)(k:ByteArray)(v:Int):(putO X k v).length<=X.length+1:=by
 unfold putO;split;·next h=>rw[put_len h];split<;>omega
 ·exact Nat.zero_le _
theorem dropO_le(X:List Pr)(k:ByteArray):(dropO X k).length<=X.length:=by
 unfold dropO;split;·exact dropL_le X k
 ·exact Nat.zero_le _
end
end
end Go.Proofs.YtdnklbipddigbaaGreat
