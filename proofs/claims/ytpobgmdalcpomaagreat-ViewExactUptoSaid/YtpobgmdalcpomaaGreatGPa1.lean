/- Pairs: valid lists are maps. -/
import Derived.Test.YtpobgmdalcpomaaGreatGNode2
import Derived.Test.YtpobgmdalcpomaaGreatGPl1

set_option linter.unusedSimpArgs false
set_option linter.unusedVariables false
namespace Go.Proofs.YtpobgmdalcpomaaGreat
section
open Go.RowKit Go.Ct
theorem se{a b c:ByteArray}(h:eC a b=true)(h2:eC c b=false):eC a c=true:=by
 cases hb:eC b c with
 | true=>exact lJ h hb
 | false=>have:=qB hb h2;subst this;exact h
theorem tf{a b c:ByteArray}(h:eC b a=false)(h2:eC c b=false):eC c a=false:=by
 cases hc:eC c a with
 | false=>rfl
 | true=>have:=se hc h;rw[this] at h2;cases h2
theorem qJ{a b:ByteArray}(h:eC a b=true):a≠b:=λ e=>by subst e;rw[sM] at h;cases h
theorem az{a b:ByteArray}(h:eC b a=false)(hn:a≠b):eC a b=true:=by
 cases hb:eC a b with
 | true=>rfl
 | false=>exact absurd (qB hb h) hn
def SA(l:List Pr):Prop:=l.Pairwise λ p q=>eC p.1 q.1=true
theorem Rl{l:List Pr}(h:mj l):∀d i,i+d+1<l.length->eC (l.getD i (⟨#[]⟩,0)).1 (l.getD (i+d+1) (⟨#[]⟩,0)).1=true
 | 0,i,hi=>by have:=h (i+1) (by omega) hi;rwa [Nat.add_sub_cancel] at this
 | d+1,i,hi=>lJ (Rl h d i (by omega)) (by have:=h (i+(d+1)+1) (by omega) hi;rwa [Nat.add_sub_cancel] at this)
theorem iT{l:List Pr}{i:Nat}(h:i<l.length):l.getD i (⟨#[]⟩,0)=l[i]:=by simp[List.getD,List.getElem?_eq_getElem h]
theorem nY{l:List Pr}:mj l↔SA l:=by
 constructor
 ·intro h
  refine List.pairwise_iff_getElem.2 λ i j hi hj hij=>?_
  have:=Rl h (j-i-1) i (by omega)
  rw[show i+(j-i-1)+1=j by omega,iT hi,iT hj] at this
  exact this
 ·intro h i h1 hi
  rw[iT (by omega),iT hi]
  exact List.pairwise_iff_getElem.1 h (i-1) i (by omega) hi (by omega)
def qP:List Pr->ByteArray->Option Int
 | [],_=>none
 | p::l,k=>if p.1=k then some p.2 else qP l k
theorem pM{l:List Pr}{k:ByteArray}(h:∀p∈l,p.1≠k):qP l k=none:=by
 induction l with
 | nil=>rfl
 | cons p l ih=>exact(if_neg (h p (.head _))).trans (ih λ q hq=>h q (.tail _ hq))
theorem ag:∀{l m:List Pr},SA l->SA m->(∀k,qP l k=qP m k)->l=m
 | [],[],_,_,_=>rfl
 | [],q::m,_,_,h=>by have:=h q.1;simp[qP] at this
 | p::l,[],_,_,h=>by have:=h p.1;simp[qP] at this
 | p::l,q::m,h1,h2,h=>by
  have h1':=List.pairwise_cons.1 h1
  have h2':=List.pairwise_cons.1 h2
  have e1:eC p.1 q.1=false:=by
   cases hb:eC p.1 q.1 with
   | false=>rfl
   | true =>
    have:qP (q::m) p.1=none:=pM λ x hx=>by
     rcases List.mem_cons.1 hx with rfl|hx
     ·exact(qJ hb).symm
     ·exact(qJ (lJ hb (h2'.1 x hx))).symm
    have h':=h p.1
    rw[this] at h';simp[qP] at h'
  have e2:eC q.1 p.1=false:=by
   cases hb:eC q.1 p.1 with
   | false=>rfl
   | true =>
    have:qP (p::l) q.1=none:=pM λ x hx=>by
     rcases List.mem_cons.1 hx with rfl|hx
     ·exact(qJ hb).symm
     ·exact(qJ (lJ hb (h1'.1 x hx))).symm
    have h':=h q.1
    rw[this] at h';simp[qP] at h'
  have ek:=qB e1 e2
  have ev:p.2=q.2:=by have:=h p.1;simpa[qP,ek] using this
  have et:l=m:=ag h1'.2 h2'.2 λ k=>by
   by_cases hk:p.1=k
   ·subst hk
    rw[pM λ x hx=>(qJ (h1'.1 x hx)).symm,pM λ x hx=>by rw[ek];exact(qJ (h2'.1 x hx)).symm]
   ·have:=h k
    rw[qP,qP,if_neg hk,if_neg (by rw[<- ek];exact hk)] at this
    exact this
  rw[et,show p=q from Prod.ext ek ev]
def lZ:List Pr->ByteArray->Int->List Pr
 | [],k,v=>[(k,v)]
 | p::l,k,v=>if eC p.1 k=true then p::lZ l k v else if p.1=k then(k,v)::l else(k,v)::p::l
def iX(l:List Pr)(k:ByteArray):List Pr:=l.filter λ p=>decide (p.1≠k)
theorem yZ{l:List Pr}{k:ByteArray}{v:Int}:∀{q:Pr},q∈lZ l k v->q=(k,v)∨q∈l:=by
 induction l with
 | nil=>intro q h;rw[lZ,List.mem_singleton] at h;exact .inl h
 | cons p l ih =>
  intro q h
  rw[lZ] at h
  split at h
  ·rcases List.mem_cons.1 h with rfl|h
   ·exact .inr (.head _)
   ·exact(ih h).imp id (.tail _)
  ·split at h
   ·exact(List.mem_cons.1 h).imp id (.tail _)
   ·exact List.mem_cons.1 h
theorem wJ{k:ByteArray}{v:Int}:∀{l:List Pr},SA l->SA (lZ l k v)
 | [],_=>List.pairwise_singleton _ _
 | p::l,h=>by
  have h':=List.pairwise_cons.1 h
  rw[lZ]
  split
  ·next hlt =>
   refine List.pairwise_cons.2 ⟨λ q hq=>?_,wJ h'.2⟩
   rcases yZ hq with rfl|hq
   ·exact hlt
   ·exact h'.1 q hq
  ·next hlt =>
   split
   ·next he =>
    subst he
    exact List.pairwise_cons.2 ⟨λ q hq=>h'.1 q hq,h'.2⟩
   ·next hne =>
    have hkp:eC k p.1=true:=az (by simpa using hlt) (λ e=>hne e.symm)
    refine List.pairwise_cons.2 ⟨λ q hq=>?_,h⟩
    rcases List.mem_cons.1 hq with rfl|hq
    ·exact hkp
    ·exact lJ hkp (h'.1 q hq)
theorem Fz{k:ByteArray}{v:Int}(j:ByteArray):∀{l:List Pr},SA l->qP (lZ l k v) j=if j=k then some v else qP l j
 | [],_=>by
  simp only[lZ,qP]
  by_cases h:j=k
  ·rw[if_pos h,if_pos h.symm]
  ·rw[if_neg h,if_neg λ e=>h e.symm]
 | p::l,h=>by
  have h':=List.pairwise_cons.1 h
  have ih:=Fz (k:=k) (v:=v) j h'.2
  rw[lZ]
  split
  ·next hlt =>
   rw[qP,ih,qP]
   by_cases hj:j=k
   ·rw[if_pos hj,if_pos hj,if_neg λ e=>qJ hlt (e.trans hj)]
   ·rw[if_neg hj,if_neg hj]
  ·split
   ·next he =>
    rw[qP,qP]
    by_cases hj:j=k
    ·rw[if_pos hj,if_pos hj.symm]
    ·rw[if_neg hj,if_neg λ e=>hj e.symm,if_neg λ e=>hj (e.symm.trans he)]
   ·rw[qP]
    by_cases hj:j=k
    ·rw[if_pos hj,if_pos hj.symm]
    ·rw[if_neg hj,if_neg λ e=>hj e.symm]
theorem uP{l:List Pr}(k:ByteArray)(h:SA l):SA (iX l k):=h.sublist List.filter_sublist
theorem Uo(l:List Pr)(k j:ByteArray):qP (iX l k) j=if j=k then none else qP l j:=by
 unfold iX
 induction l with
 | nil=>simp[qP]
 | cons p l ih =>
  rw[List.filter_cons]
  by_cases hp:p.1=k
  ·rw[if_neg (by simp[hp]),ih,qP]
   by_cases hj:j=k
   ·rw[if_pos hj,if_pos hj]
   ·rw[if_neg hj,if_neg hj,if_neg λ e=>hj (e.symm.trans hp)]
  ·rw[if_pos (by simp[hp]),qP,ih,qP]
   by_cases hj:j=k
   ·rw[if_pos hj,if_pos hj,if_neg λ e=>hp (e.trans hj)]
   ·rw[if_neg hj,if_neg hj]
theorem Mo{l:List Pr}(h:SA l)(k:ByteArray)(v:Int):lZ (iX l k) k v=lZ l k v :=
 ag (wJ (uP k h)) (wJ h) λ j=>by
  rw[Fz j (uP k h),Fz j h,Uo]
  by_cases hj:j=k
  ·rw[if_pos hj,if_pos hj]
  ·rw[if_neg hj,if_neg hj,if_neg hj]
structure Oh(l:List Pr)(k:ByteArray)(i:Nat):Prop where
 le:i<=l.length
 lo:∀j,j<i->eC (l.getD j (⟨#[]⟩,0)).1 k=true
 hi:∀j,i<=j->j<l.length->eC (l.getD j (⟨#[]⟩,0)).1 k=false
theorem Oh.tl{p:Pr}{l:List Pr}{k:ByteArray}{i:Nat}(h:Oh (p::l) k (i+1)):eC p.1 k=true/\Oh l k i :=
 ⟨h.lo 0 (by omega),⟨by have:=h.le;simp at this;omega,λ j hj=>h.lo (j+1) (by omega),λ j h1 h2=>h.hi (j+1) (by omega) (by simp;omega)⟩⟩
theorem Sb{k:ByteArray}{v:Int}:∀{l:List Pr} {i:Nat},Oh l k i->¬(i<l.length/\(l.getD i (⟨#[]⟩,0)).1=k)->lZ l k v=l.take i++(k,v)::l.drop i
 | [],i,h,_=>by have:=h.le;simp at this;subst this;rfl
 | p::l,0,h,hn=>by
  have:eC p.1 k=false:=h.hi 0 (Nat.le_refl _) (by simp)
  rw[lZ,if_neg (by rw[this];decide),if_neg λ e:p.1=k=>hn ⟨by simp,e⟩]
  rfl
 | p::l,i+1,h,hn=>by
  rw[lZ,if_pos h.tl.1,Sb h.tl.2 λ hh=>hn ⟨by simp;omega,hh.2⟩]
  rfl
theorem Xo{k:ByteArray}:∀{l:List Pr} {v:Int},qP l k=some v->∃i,i<l.length/\(l.getD i (⟨#[]⟩,0)).1=k
 | [],_,h=>by cases h
 | p::l,v,h=>by
  rw[qP] at h
  split at h
  ·next he=>exact⟨0,by simp,he⟩
  ·obtain⟨i,h1,h2⟩:=Xo h
   exact⟨i+1,by simp;omega,h2⟩
theorem wK{k:ByteArray}{v:Int}:∀{l:List Pr},SA l->(lZ l k v).length=if(qP l k).isSome=true then l.length else l.length+1
 | [],_=>rfl
 | p::l,h=>by
  have h':=List.pairwise_cons.1 h
  rw[lZ]
  split
  ·next hlt =>
   rw[List.length_cons,wK h'.2,qP,if_neg (qJ hlt)]
   split<;>rfl
  ·next hlt =>
   split
   ·next he=>rw[qP,if_pos he];rfl
   ·next hne =>
    have hkp:eC k p.1=true:=az (by simpa using hlt) (λ e=>hne e.symm)
    rw[qP,if_neg hne,pM λ q hq=>(qJ (lJ hkp (h'.1 q hq))).symm]
    rfl
theorem Ny{k:ByteArray}:∀{l:List Pr},SA l->(iX l k).length=if(qP l k).isSome=true then l.length-1 else l.length
 | [],_=>rfl
 | p::l,h=>by
  have h':=List.pairwise_cons.1 h
  have ih:=Ny (k:=k) h'.2
  unfold iX at ih ⊢
  rw[List.filter_cons]
  by_cases hp:p.1=k
  ·have hn:∀q∈l,q.1≠k:=λ q hq=>by rw[<- hp];exact(qJ (h'.1 q hq)).symm
   rw[if_neg (by simp[hp]),qP,if_pos hp,List.filter_eq_self.2 λ q hq=>by simpa using hn q hq]
   rfl
  ·rw[if_pos (by simp[hp]),List.length_cons,ih,qP,if_neg hp]
   split
   ·next hs =>
    have:1<=l.length:=by
     cases hf:qP l k with
     | none=>rw[hf] at hs;cases hs
     | some v=>obtain⟨i,hi,_⟩:=Xo hf;omega
    rw[List.length_cons];omega
   ·rfl
def Cu(l:List Pr):List Pr:=l.foldl (λ acc p=>lZ acc p.1 p.2) []
theorem uB(l:List Pr)(p:Pr):Cu (l++[p])=lZ (Cu l) p.1 p.2:=by unfold Cu;rw[List.foldl_append];rfl
theorem Ob{α:Type}{Q:List α->Prop}(h0:Q [])(h1:∀l x,Q l->Q (l++[x]))(l:List α):Q l:=by
 have key:∀m:List α,Q m.reverse:=λ m=>by
  induction m with
  | nil=>exact h0
  | cons x m ih=>rw[List.reverse_cons];exact h1 _ _ ih
 have:=key l.reverse
 rwa [List.reverse_reverse] at this
theorem Z3(l:List Pr):SA (Cu l):=by
 induction l using Ob with
 | h0=>exact List.Pairwise.nil
 | h1 l x ih=>rw[uB];exact wJ ih
theorem R2(l:List Pr):(Cu l).length<=l.length:=by
 induction l using Ob with
 | h0=>exact Nat.le_refl _
 | h1 l x ih =>
  rw[uB,wK (Z3 l),List.length_append,List.length_singleton]
  split<;>omega
end

/- Views: the pairs of a trie are collected. -/
end Go.Proofs.YtpobgmdalcpomaaGreat
namespace Go.Ct
section
open Go Go.RowKit
structure PQ where
 ps:List Pr
 p:Option Addr
 c:Nat
def Seen(N:List Nv)(cs:List Int)(n:Nat)(i:Int):Prop:=∃l l2,zY N cs n i l=some l2
theorem Ot{N:List Nv}{cs:List Int}{n:Nat}{xs l l2:List Int}(h:kE N (zY N cs n) xs l=some l2):∀b∈xs,(cG N b).kind=4∨((cG N b).kind=2/\Seen N cs n b):=by
 induction xs generalizing l with
 | nil=>intro b hb;cases hb
 | cons a r ih =>
  unfold kE at h
  split at h
  ·rename_i hk
   intro b hb
   rcases List.mem_cons.1 hb with rfl|hb
   ·exact .inl hk
   ·exact ih h b hb
  split at h
  ·rename_i hk
   obtain⟨l3,h3,h⟩:=Option.bind_eq_some_iff.1 h
   intro b hb
   rcases List.mem_cons.1 hb with rfl|hb
   ·exact .inr ⟨hk,l,l3,h3⟩
   ·exact ih h b hb
  ·cases h
theorem Vy{N:List Nv}{cs:List Int}{n:Nat}{i:Int}(h:Seen N cs n i):∃m k,n=k+1/\eR N cs i=some m/\∀b∈(cG N m).xs,(cG N b).kind=4∨((cG N b).kind=2/\Seen N cs k b):=by
 obtain⟨l,l2,h⟩:=h
 cases n with
 | zero=>cases h
 | succ k =>
  unfold zY at h
  split at h
  ·cases h
  obtain⟨m,hm,h⟩:=Option.bind_eq_some_iff.1 h
  exact⟨m,k,rfl,hm,Ot h⟩
theorem zX{N:List Nv}{cs:List Int}{n:Nat}{i m:Int}(h:eR N cs i=some m):yW N cs (n+1) i=rR (cG N m)++lN N (yW N cs n) (cG N m).xs:=by
 unfold yW
 rw[h]
theorem gL{N:List Nv}{f:Int->List Pr}{xs:List Int}{k:Nat}(hk:k<xs.length):lN N f (xs.take (k+1))=lN N f (xs.take k)++lN N f [xs.getD k 0]:=by
 rw[List.take_add_one,List.getElem?_eq_getElem hk,Eh,gdg,List.getElem?_eq_getElem hk]
 rfl
theorem K7{N:List Nv}{f:Int->List Pr}{xs:List Int}{k:Nat}(hk:k<xs.length):(lN N f (xs.take k)).length+(lN N f [xs.getD k 0]).length<=(lN N f xs).length:=by
 have e:lN N f xs=lN N f (xs.take (k+1))++lN N f (xs.drop (k+1)):=by rw[<- Eh,List.take_append_drop]
 rw[e,gL hk]
 simp only[List.length_append]
 omega
theorem sW{N:List Nv}{f:Int->List Pr}{b:Int}(h:(cG N b).kind=4):lN N f [b]=[((cG N b).key,(cG N b).val)]:=by simp[lN,h]
theorem tA{N:List Nv}{f:Int->List Pr}{b:Int}(h:(cG N b).kind=2):lN N f [b]=f b:=by simp[lN,h]
end
end Go.Ct
namespace Go.Proofs.YtpobgmdalcpomaaGreat
section
open Go Go.RowKit Go.Ct
section
variable{L:List aQ}{cs:List Int}{gen:Int}{pn pc:Option Addr}{cn cc:Nat}{w:World}
abbrev ck(L:List aQ)(cs:List Int)(gen:Int)(pn:Option Addr)(cn:Nat)(pc:Option Addr)(cc:Nat)(v1 v2:Value)(q:PQ):Obj:=.cells ⟨[.slice pn L.length cn,.slice pc cs.length cc,.int .i64 gen,v1,v2,.slice q.p q.ps.length q.c]⟩ 93 (0,0)
abbrev sv(q:PQ):List Ow:=[⟨q.p,dI q.ps,q.c,47,2⟩]
theorem sm{w0:World}{D:List Nat}{b:Nat}{q:PQ}{v1 v2:Value}{A F:Fr}(h:SF w0 D [(b,ck L cs gen pn cn pc cc v1 v2 q)] A F (sv q) w) :
  SF w0 D [(b,.cells ⟨[.slice pn L.length cn,.slice pc cs.length cc,.int .i64 gen,v1,v2,.slice q.p q.ps.length q.c]⟩ 93 (0,0))] A F [⟨q.p,dI q.ps,q.c,47,2⟩] w:=h
def pu(L:List aQ)(cs:List Int)(gen:Int)(pn:Option Addr)(cn:Nat)(pc:Option Addr)(cc:Nat)(b:Nat)(v1 v2:Value)(n:Nat):Prop:=∀(i:Int) (q:PQ) (D:List Nat) (w:World),i<=9223372036854775807->Seen (L.map aQ.c) cs n i->q.ps.length+(yW (L.map aQ.c) cs n i).length<=549755813888->SF w D [(b,ck L cs gen pn cn pc cc v1 v2 q)] ((pn,iD L)::(pc,aJ cs)::bG L) [] (sv q) w ->
  Calls Tryz.prog 34 #[.pointer (some ⟨b,0,none⟩),.int .i64 i] w λ e w'=>∃x:PQ,e=.returned (.tuple #[])/\x.ps=q.ps++yW (L.map aQ.c) cs n i/\SF w D [(b,ck L cs gen pn cn pc cc v1 v2 x)] [] [] (sv x) w'
theorem Ds(h0:Fits L)(hb:V9 L cs)(hl:L.length<=274877906944)(hc:cs.length<=274877906944)(b:Nat)(v1 v2:Value)(n:Nat)(ih:∀m,n=m+1->pu L cs gen pn cn pc cc b v1 v2 m):pu L cs gen pn cn pc cc b v1 v2 n:=by
  intro i q D w hi hs hq hsf
  obtain⟨r,m,rfl,hr,hbr⟩:=Vy hs
  have hri:=Au (rD hr).2
  rw[List.length_map] at hri
  have hfr:=Aq h0 r
  have hbn:=hfr.brN
  have hbs:=hfr.brS
  have hpn:=hfr.prN
  have hps2:=hfr.prS
  have hfm:=Ko hri
  have hfp:=Tu hri
  have hbb:=hb.br r
  rw[jX] at hbr
  have hown:rR (cG (L.map aQ.c) r)=rR (aD L r).c:=by rw[bD]
  rw[zX hr,jX,hown,List.length_append] at hq
  refine enter Tryz.func34 Tryz.ntmps34 rfl rfl (sm hsf) ?_
  simp only[dB]
  all_goals (refine wV ?_;refine aH (aM (k:=3) rf cQ dS (by simp only[List.drop_zero,List.take_succ_cons,List.take_zero];exact rfl) rfl) rfl ?_;refine aA ?_;(refine aF (cV (hc:=λ w1 hw=>by have:=Js (gen:=gen) (cn:=cn) (cc:=cc) (hw.rE (.inr (.inl (.head _))) (.inr (.inl (.tail _ (.head _)))) (λ f hf=>.inr (.inl (.tail _ (.tail _ hf)))) h0) hb hl hc i hi;rw[hr] at this;exact this)) (λ x16=>?_);try (refine aB (λ h16=>?_)));refine pZ ?_;refine J8 ?_;refine wV ?_;refine aH (aM (k:=3) rf cQ dS (by simp only[List.drop_zero,List.take_succ_cons,List.take_zero];exact rfl) rfl) rfl ?_;refine aA ?_;(refine aF (cV (hc:=λ w1 hw=>oH (hw.rE (.inr (.inl (.head _))) (.inr (.inl (.tail _ (.head _)))) (λ f hf=>.inr (.inl (.tail _ (.tail _ hf)))) h0) r (by omega) hl)) (λ x24=>?_);try (refine aB (λ h24=>?_)));refine aY (λ x6=>?_);refine J5 ?_;refine Aj ?_;refine aN ?_;refine cZ ?_;refine kK ?_)
  all_goals
   refine bF (λ c27=>?_) (λ c27=>?_)
   · try exact nv c27
     all_goals try (first|(exact absurd (by assumption) (by decide:¬(true=false)))|(exfalso;omega))
     all_goals
      have ho:rR (aD L r).c=[((aD L r).nd.key,(aD L r).nd.val)]:=if_pos c27
      have hol:=congrArg List.length ho
      simp only[List.length_cons,List.length_nil] at hol
     all_goals (refine dL [(0,[]),(1,[]),(2,[]),(3,[]),(4,[]),(5,[]),(6,[]),(7,[]),(8,[]),(9,[]),(10,[4]),(11,[]),(12,[]),(13,[]),(14,[])] ?_;refine Gg ?_;refine jP ?_;refine jP ?_;refine eT ?_;refine bB (h:=λ x39=>?_);((refine cR (h:=λ x40=>?_);try (refine aK (λ h40=>?_))));refine Il ?_;refine eV ?_;refine gR ?_;refine dW ?_;refine uM ?_;refine cZ ?_)
     all_goals
      refine lO [8,9,58,59,60,61,62,63,64,65,66,67,68,69,70,71,72,73,74,75,76,77,78,79,80,81,82,83,84,85,86,87,88] (λ y:Nat×PQ=>[(58,.int .i64 ((y.1:Nat):Int))]) (λ y=>y.1<=(aD L r).xs.length/\y.2.ps=q.ps++(rR (aD L r).c++lN (L.map aQ.c) (yW (L.map aQ.c) cs m) ((aD L r).xs.take y.1))) (λ y=>[(x6,.cells ⟨(aD L r).nd.cells⟩ 59 (0,0)),(b,ck L cs gen pn cn pc cc v1 v2 y.2)]) (λ _=>_) (λ y=>[⟨y.2.p,dI y.2.ps,y.2.c,47,2⟩]) (λ y=>(aD L r).xs.length-y.1) ((by first|exact(0,⟨q.ps++[((aD L r).nd.key,(aD L r).nd.val)],x40.1,x40.2⟩)|exact(0,⟨q.ps++(aD L r).ys,x52.1,x52.2⟩)|exact(0,q))) (⟨Nat.zero_le _,by rw[ho];simp[lN]⟩) (λ y f hx=>?_) (hw0:=λ w hw=>by first|(rw[show q.ps.length+1=(q.ps++[((aD L r).nd.key,(aD L r).nd.val)]).length by simp] at hw;exact hw.back)|(rw[show q.ps.length+(aD L r).nd.prN=(q.ps++(aD L r).ys).length by rw[List.length_append,hpn]] at hw;exact hw.back)|exact hw.back)
      dsimp only[gW,List.map,List.cons_append,List.nil_append]
      have hyl:=congrArg List.length hx.2
      simp only[List.length_append] at hyl
      have hps:=hx.1
      all_goals (refine J0 ?_;refine uQ ?_;refine aT ?_)
      all_goals
       refine bF (λ c59=>?_) (λ c59=>?_)
       · try exact nv c59
         all_goals try (first|(exact absurd (by assumption) (by decide:¬(true=false)))|(exfalso;omega))
         all_goals
          have hcl:=K7 (N:=L.map aQ.c) (f:=yW (L.map aQ.c) cs m) (xs:=(aD L r).xs) (k:=y.1) (by omega)
          have hin:(aD L r).xs.getD y.1 0∈(aD L r).xs:=by rw[gdg,List.getElem?_eq_getElem (by omega)];exact List.getElem_mem _
          have hbk:=hbb _ hin
          have hbs2:=hbr _ hin
          rw[bD] at hbs2
         all_goals (refine oD ?_;refine J0 ?_;refine aH (bW (k:=y.1) rf rf fG bU (.cE (.tail (.tail (tD.jB hfm)))) (by omega) (by omega)) rfl ?_;refine aH (cJ (q:=y.1) rf bU (.cE (.tail (.tail (tD.jB hfm)))) (by omega)) rfl ?_;refine iI ?_;refine wV ?_;refine aH (aM (k:=3) rf cQ dS (by simp only[List.drop_zero,List.take_succ_cons,List.take_zero];exact rfl) rfl) rfl ?_;refine aA ?_;(refine aF (cV (hc:=λ w1 hw=>oH (hw.rE (.inr (.inl (.head _))) (.inr (.inl (.tail _ (.head _)))) (λ f hf=>.inr (.inl (.tail _ (.tail _ hf)))) h0) _ (by omega) hl)) (λ x67=>?_);try (refine aB (λ h67=>?_)));refine aY (λ x9=>?_);refine J5 ?_;refine gR ?_;refine tE ?_)
         all_goals
          refine bF (λ c70=>?_) (λ c70=>?_)
          · try exact nv c70
            all_goals try (first|(exact absurd (by assumption) (by decide:¬(true=false)))|(exfalso;omega))
            all_goals
             have hk4:(cG (L.map aQ.c) ((aD L r).xs.getD y.1 0)).kind=4:=by rw[bD];exact c70
             rw[sW hk4] at hcl
             simp only[List.length_cons,List.length_nil] at hcl
            all_goals (refine aT ?_;refine dL [(0,[]),(1,[]),(2,[]),(3,[]),(4,[]),(5,[]),(6,[]),(7,[]),(8,[]),(9,[]),(10,[4]),(11,[]),(12,[]),(13,[]),(14,[])] ?_;refine Gg ?_;refine jP ?_;refine jP ?_;refine eT ?_;refine bB (h:=λ x81=>?_);((refine cR (h:=λ x82=>?_);try (refine aK (λ h82=>?_))));refine Il ?_;refine bQ rfl ?_;refine Ld ?_;refine uM ?_)
            all_goals
             refine gY ((by first|exact(y.1+1,⟨y.2.ps++[((aD L ((aD L r).xs.getD y.1 0)).nd.key,(aD L ((aD L r).xs.getD y.1 0)).nd.val)],x82.1,x82.2⟩)|exact(y.1+1,x87))) ?_ (hw1:=λ w hw=>by first|(rw[show y.2.ps.length+1=(y.2.ps++[((aD L ((aD L r).xs.getD y.1 0)).nd.key,(aD L ((aD L r).xs.getD y.1 0)).nd.val)]).length by simp] at hw;exact hw.back)|exact hw.back)
             · first
                | exact⟨by omega,by rw[gL (by omega),sW hk4,bD,hx.2];simp only[List.append_assoc];exact rfl⟩
                | exact⟨by omega,by rw[gL (by omega),tA hk2.1,h87,hx.2];simp only[List.append_assoc]⟩
          · try exact nv c70
            all_goals try (first|(exact absurd (by assumption) (by decide:¬(true=false)))|(exfalso;omega))
            all_goals
             have hk2:(cG (L.map aQ.c) ((aD L r).xs.getD y.1 0)).kind=2/\Seen (L.map aQ.c) cs m ((aD L r).xs.getD y.1 0):=by
              rcases hbs2 with h4|h2
              · exact absurd h4 c70
              · rw[bD];exact h2
             rw[tA hk2.1] at hcl
            all_goals (refine aZ ?_;refine Fk ?_;(refine aF (cM (hs:=[(b,ck L cs gen pn cn pc cc v1 v2 y.2)]) (os:=sv y.2) (hc:=λ w1 hs=>ih m rfl ((aD L r).xs.getD y.1 0) y.2 _ w1 hbk hk2.2 (by omega) hs)) (λ x87=>?_);try (refine aB (λ h87=>?_)));refine aN ?_;refine eV ?_;refine Ld ?_;refine uM ?_)
            all_goals
             refine gY ((by first|exact(y.1+1,⟨y.2.ps++[((aD L ((aD L r).xs.getD y.1 0)).nd.key,(aD L ((aD L r).xs.getD y.1 0)).nd.val)],x82.1,x82.2⟩)|exact(y.1+1,x87))) ?_ (hw1:=λ w hw=>by first|(rw[show y.2.ps.length+1=(y.2.ps++[((aD L ((aD L r).xs.getD y.1 0)).nd.key,(aD L ((aD L r).xs.getD y.1 0)).nd.val)]).length by simp] at hw;exact hw.back)|exact hw.back)
             · first
                | exact⟨by omega,by rw[gL (by omega),sW hk4,bD,hx.2];simp only[List.append_assoc];exact rfl⟩
                | exact⟨by omega,by rw[gL (by omega),tA hk2.1,h87,hx.2];simp only[List.append_assoc]⟩
       · try exact nv c59
         all_goals try (first|(exact absurd (by assumption) (by decide:¬(true=false)))|(exfalso;omega))
         all_goals refine bQ rfl ?_
         all_goals
          refine zG Tryz.results34 (λ w hw=>?_)
          refine⟨y.2,rfl,?_,hw.aV⟩
          have e2:=hx.2
          rw[List.take_of_length_le (by omega)] at e2
          rw[zX hr,jX,hown,e2]
   · try exact nv c27
     all_goals try (first|(exact absurd (by assumption) (by decide:¬(true=false)))|(exfalso;omega))
     all_goals refine kK ?_
     all_goals
      refine bF (λ c43=>?_) (λ c43=>?_)
      · try exact nv c43
        all_goals try (first|(exact absurd (by assumption) (by decide:¬(true=false)))|(exfalso;omega))
        all_goals
         have ho:rR (aD L r).c=(aD L r).ys:=(if_neg (show ¬(aD L r).nd.kind=5 by simpa using c27)).trans (if_pos c43)
         have hol:=congrArg List.length ho
        all_goals (refine eE [0,1,2,3,4,5,6,7,8,9,10] ?_;refine Gg ?_;refine jP ?_;((refine bA (i:=7) (hq:=(aP.eL (yF (l:=q.ps) (l2:=(aD L r).ys) rf rf dZ rfl (.cE (.tail (.tail (tD.jB hfp)))) hpn.symm ib fG (by omega)) dV)) (h:=λ x52=>?_);try (refine aK (λ h52=>?_))));refine Il ?_;refine eV ?_;refine gR ?_;refine dW ?_;refine uM ?_;refine cZ ?_)
        all_goals
         refine lO [8,9,58,59,60,61,62,63,64,65,66,67,68,69,70,71,72,73,74,75,76,77,78,79,80,81,82,83,84,85,86,87,88] (λ y:Nat×PQ=>[(58,.int .i64 ((y.1:Nat):Int))]) (λ y=>y.1<=(aD L r).xs.length/\y.2.ps=q.ps++(rR (aD L r).c++lN (L.map aQ.c) (yW (L.map aQ.c) cs m) ((aD L r).xs.take y.1))) (λ y=>[(x6,.cells ⟨(aD L r).nd.cells⟩ 59 (0,0)),(b,ck L cs gen pn cn pc cc v1 v2 y.2)]) (λ _=>_) (λ y=>[⟨y.2.p,dI y.2.ps,y.2.c,47,2⟩]) (λ y=>(aD L r).xs.length-y.1) ((by first|exact(0,⟨q.ps++[((aD L r).nd.key,(aD L r).nd.val)],x40.1,x40.2⟩)|exact(0,⟨q.ps++(aD L r).ys,x52.1,x52.2⟩)|exact(0,q))) (⟨Nat.zero_le _,by rw[ho];simp[lN]⟩) (λ y f hx=>?_) (hw0:=λ w hw=>by first|(rw[show q.ps.length+1=(q.ps++[((aD L r).nd.key,(aD L r).nd.val)]).length by simp] at hw;exact hw.back)|(rw[show q.ps.length+(aD L r).nd.prN=(q.ps++(aD L r).ys).length by rw[List.length_append,hpn]] at hw;exact hw.back)|exact hw.back)
         dsimp only[gW,List.map,List.cons_append,List.nil_append]
         have hyl:=congrArg List.length hx.2
         simp only[List.length_append] at hyl
         have hps:=hx.1
         all_goals (refine J0 ?_;refine uQ ?_;refine aT ?_)
         all_goals
          refine bF (λ c59=>?_) (λ c59=>?_)
          · try exact nv c59
            all_goals try (first|(exact absurd (by assumption) (by decide:¬(true=false)))|(exfalso;omega))
            all_goals
             have hcl:=K7 (N:=L.map aQ.c) (f:=yW (L.map aQ.c) cs m) (xs:=(aD L r).xs) (k:=y.1) (by omega)
             have hin:(aD L r).xs.getD y.1 0∈(aD L r).xs:=by rw[gdg,List.getElem?_eq_getElem (by omega)];exact List.getElem_mem _
             have hbk:=hbb _ hin
             have hbs2:=hbr _ hin
             rw[bD] at hbs2
            all_goals (refine oD ?_;refine J0 ?_;refine aH (bW (k:=y.1) rf rf fG bU (.cE (.tail (.tail (tD.jB hfm)))) (by omega) (by omega)) rfl ?_;refine aH (cJ (q:=y.1) rf bU (.cE (.tail (.tail (tD.jB hfm)))) (by omega)) rfl ?_;refine iI ?_;refine wV ?_;refine aH (aM (k:=3) rf cQ dS (by simp only[List.drop_zero,List.take_succ_cons,List.take_zero];exact rfl) rfl) rfl ?_;refine aA ?_;(refine aF (cV (hc:=λ w1 hw=>oH (hw.rE (.inr (.inl (.head _))) (.inr (.inl (.tail _ (.head _)))) (λ f hf=>.inr (.inl (.tail _ (.tail _ hf)))) h0) _ (by omega) hl)) (λ x67=>?_);try (refine aB (λ h67=>?_)));refine aY (λ x9=>?_);refine J5 ?_;refine gR ?_;refine tE ?_)
            all_goals
             refine bF (λ c70=>?_) (λ c70=>?_)
             · try exact nv c70
               all_goals try (first|(exact absurd (by assumption) (by decide:¬(true=false)))|(exfalso;omega))
               all_goals
                have hk4:(cG (L.map aQ.c) ((aD L r).xs.getD y.1 0)).kind=4:=by rw[bD];exact c70
                rw[sW hk4] at hcl
                simp only[List.length_cons,List.length_nil] at hcl
               all_goals (refine aT ?_;refine dL [(0,[]),(1,[]),(2,[]),(3,[]),(4,[]),(5,[]),(6,[]),(7,[]),(8,[]),(9,[]),(10,[4]),(11,[]),(12,[]),(13,[]),(14,[])] ?_;refine Gg ?_;refine jP ?_;refine jP ?_;refine eT ?_;refine bB (h:=λ x81=>?_);((refine cR (h:=λ x82=>?_);try (refine aK (λ h82=>?_))));refine Il ?_;refine bQ rfl ?_;refine Ld ?_;refine uM ?_)
               all_goals
                refine gY ((by first|exact(y.1+1,⟨y.2.ps++[((aD L ((aD L r).xs.getD y.1 0)).nd.key,(aD L ((aD L r).xs.getD y.1 0)).nd.val)],x82.1,x82.2⟩)|exact(y.1+1,x87))) ?_ (hw1:=λ w hw=>by first|(rw[show y.2.ps.length+1=(y.2.ps++[((aD L ((aD L r).xs.getD y.1 0)).nd.key,(aD L ((aD L r).xs.getD y.1 0)).nd.val)]).length by simp] at hw;exact hw.back)|exact hw.back)
                · first
                   | exact⟨by omega,by rw[gL (by omega),sW hk4,bD,hx.2];simp only[List.append_assoc];exact rfl⟩
                   | exact⟨by omega,by rw[gL (by omega),tA hk2.1,h87,hx.2];simp only[List.append_assoc]⟩
             · try exact nv c70
               all_goals try (first|(exact absurd (by assumption) (by decide:¬(true=false)))|(exfalso;omega))
               all_goals
                have hk2:(cG (L.map aQ.c) ((aD L r).xs.getD y.1 0)).kind=2/\Seen (L.map aQ.c) cs m ((aD L r).xs.getD y.1 0):=by
                 rcases hbs2 with h4|h2
                 · exact absurd h4 c70
                 · rw[bD];exact h2
                rw[tA hk2.1] at hcl
               all_goals (refine aZ ?_;refine Fk ?_;(refine aF (cM (hs:=[(b,ck L cs gen pn cn pc cc v1 v2 y.2)]) (os:=sv y.2) (hc:=λ w1 hs=>ih m rfl ((aD L r).xs.getD y.1 0) y.2 _ w1 hbk hk2.2 (by omega) hs)) (λ x87=>?_);try (refine aB (λ h87=>?_)));refine aN ?_;refine eV ?_;refine Ld ?_;refine uM ?_)
               all_goals
                refine gY ((by first|exact(y.1+1,⟨y.2.ps++[((aD L ((aD L r).xs.getD y.1 0)).nd.key,(aD L ((aD L r).xs.getD y.1 0)).nd.val)],x82.1,x82.2⟩)|exact(y.1+1,x87))) ?_ (hw1:=λ w hw=>by first|(rw[show y.2.ps.length+1=(y.2.ps++[((aD L ((aD L r).xs.getD y.1 0)).nd.key,(aD L ((aD L r).xs.getD y.1 0)).nd.val)]).length by simp] at hw;exact hw.back)|exact hw.back)
                · first
                   | exact⟨by omega,by rw[gL (by omega),sW hk4,bD,hx.2];simp only[List.append_assoc];exact rfl⟩
                   | exact⟨by omega,by rw[gL (by omega),tA hk2.1,h87,hx.2];simp only[List.append_assoc]⟩
          · try exact nv c59
            all_goals try (first|(exact absurd (by assumption) (by decide:¬(true=false)))|(exfalso;omega))
            all_goals refine bQ rfl ?_
            all_goals
             refine zG Tryz.results34 (λ w hw=>?_)
             refine⟨y.2,rfl,?_,hw.aV⟩
             have e2:=hx.2
             rw[List.take_of_length_le (by omega)] at e2
             rw[zX hr,jX,hown,e2]
      · try exact nv c43
        all_goals try (first|(exact absurd (by assumption) (by decide:¬(true=false)))|(exfalso;omega))
        all_goals
         have ho:rR (aD L r).c=[]:=(if_neg (show ¬(aD L r).nd.kind=5 by simpa using c27)).trans (if_neg (show ¬(aD L r).nd.kind=6 by simpa using c43))
        all_goals (refine mN ?_;refine gR ?_;refine dW ?_;refine uM ?_;refine cZ ?_)
        all_goals
         refine lO [8,9,58,59,60,61,62,63,64,65,66,67,68,69,70,71,72,73,74,75,76,77,78,79,80,81,82,83,84,85,86,87,88] (λ y:Nat×PQ=>[(58,.int .i64 ((y.1:Nat):Int))]) (λ y=>y.1<=(aD L r).xs.length/\y.2.ps=q.ps++(rR (aD L r).c++lN (L.map aQ.c) (yW (L.map aQ.c) cs m) ((aD L r).xs.take y.1))) (λ y=>[(x6,.cells ⟨(aD L r).nd.cells⟩ 59 (0,0)),(b,ck L cs gen pn cn pc cc v1 v2 y.2)]) (λ _=>_) (λ y=>[⟨y.2.p,dI y.2.ps,y.2.c,47,2⟩]) (λ y=>(aD L r).xs.length-y.1) ((by first|exact(0,⟨q.ps++[((aD L r).nd.key,(aD L r).nd.val)],x40.1,x40.2⟩)|exact(0,⟨q.ps++(aD L r).ys,x52.1,x52.2⟩)|exact(0,q))) (⟨Nat.zero_le _,by rw[ho];simp[lN]⟩) (λ y f hx=>?_) (hw0:=λ w hw=>by first|(rw[show q.ps.length+1=(q.ps++[((aD L r).nd.key,(aD L r).nd.val)]).length by simp] at hw;exact hw.back)|(rw[show q.ps.length+(aD L r).nd.prN=(q.ps++(aD L r).ys).length by rw[List.length_append,hpn]] at hw;exact hw.back)|exact hw.back)
         dsimp only[gW,List.map,List.cons_append,List.nil_append]
         have hyl:=congrArg List.length hx.2
         simp only[List.length_append] at hyl
         have hps:=hx.1
         all_goals (refine J0 ?_;refine uQ ?_;refine aT ?_)
         all_goals
          refine bF (λ c59=>?_) (λ c59=>?_)
          · try exact nv c59
            all_goals try (first|(exact absurd (by assumption) (by decide:¬(true=false)))|(exfalso;omega))
            all_goals
             have hcl:=K7 (N:=L.map aQ.c) (f:=yW (L.map aQ.c) cs m) (xs:=(aD L r).xs) (k:=y.1) (by omega)
             have hin:(aD L r).xs.getD y.1 0∈(aD L r).xs:=by rw[gdg,List.getElem?_eq_getElem (by omega)];exact List.getElem_mem _
             have hbk:=hbb _ hin
             have hbs2:=hbr _ hin
             rw[bD] at hbs2
            all_goals (refine oD ?_;refine J0 ?_;refine aH (bW (k:=y.1) rf rf fG bU (.cE (.tail (.tail (tD.jB hfm)))) (by omega) (by omega)) rfl ?_;refine aH (cJ (q:=y.1) rf bU (.cE (.tail (.tail (tD.jB hfm)))) (by omega)) rfl ?_;refine iI ?_;refine wV ?_;refine aH (aM (k:=3) rf cQ dS (by simp only[List.drop_zero,List.take_succ_cons,List.take_zero];exact rfl) rfl) rfl ?_;refine aA ?_;(refine aF (cV (hc:=λ w1 hw=>oH (hw.rE (.inr (.inl (.head _))) (.inr (.inl (.tail _ (.head _)))) (λ f hf=>.inr (.inl (.tail _ (.tail _ hf)))) h0) _ (by omega) hl)) (λ x67=>?_);try (refine aB (λ h67=>?_)));refine aY (λ x9=>?_);refine J5 ?_;refine gR ?_;refine tE ?_)
            all_goals
             refine bF (λ c70=>?_) (λ c70=>?_)
             · try exact nv c70
               all_goals try (first|(exact absurd (by assumption) (by decide:¬(true=false)))|(exfalso;omega))
               all_goals
                have hk4:(cG (L.map aQ.c) ((aD L r).xs.getD y.1 0)).kind=4:=by rw[bD];exact c70
                rw[sW hk4] at hcl
                simp only[List.length_cons,List.length_nil] at hcl
               all_goals (refine aT ?_;refine dL [(0,[]),(1,[]),(2,[]),(3,[]),(4,[]),(5,[]),(6,[]),(7,[]),(8,[]),(9,[]),(10,[4]),(11,[]),(12,[]),(13,[]),(14,[])] ?_;refine Gg ?_;refine jP ?_;refine jP ?_;refine eT ?_;refine bB (h:=λ x81=>?_);((refine cR (h:=λ x82=>?_);try (refine aK (λ h82=>?_))));refine Il ?_;refine bQ rfl ?_;refine Ld ?_;refine uM ?_)
               all_goals
                refine gY ((by first|exact(y.1+1,⟨y.2.ps++[((aD L ((aD L r).xs.getD y.1 0)).nd.key,(aD L ((aD L r).xs.getD y.1 0)).nd.val)],x82.1,x82.2⟩)|exact(y.1+1,x87))) ?_ (hw1:=λ w hw=>by first|(rw[show y.2.ps.length+1=(y.2.ps++[((aD L ((aD L r).xs.getD y.1 0)).nd.key,(aD L ((aD L r).xs.getD y.1 0)).nd.val)]).length by simp] at hw;exact hw.back)|exact hw.back)
                · first
                   | exact⟨by omega,by rw[gL (by omega),sW hk4,bD,hx.2];simp only[List.append_assoc];exact rfl⟩
                   | exact⟨by omega,by rw[gL (by omega),tA hk2.1,h87,hx.2];simp only[List.append_assoc]⟩
             · try exact nv c70
               all_goals try (first|(exact absurd (by assumption) (by decide:¬(true=false)))|(exfalso;omega))
               all_goals
                have hk2:(cG (L.map aQ.c) ((aD L r).xs.getD y.1 0)).kind=2/\Seen (L.map aQ.c) cs m ((aD L r).xs.getD y.1 0):=by
                 rcases hbs2 with h4|h2
                 · exact absurd h4 c70
                 · rw[bD];exact h2
                rw[tA hk2.1] at hcl
               all_goals (refine aZ ?_;refine Fk ?_;(refine aF (cM (hs:=[(b,ck L cs gen pn cn pc cc v1 v2 y.2)]) (os:=sv y.2) (hc:=λ w1 hs=>ih m rfl ((aD L r).xs.getD y.1 0) y.2 _ w1 hbk hk2.2 (by omega) hs)) (λ x87=>?_);try (refine aB (λ h87=>?_)));refine aN ?_;refine eV ?_;refine Ld ?_;refine uM ?_)
               all_goals
                refine gY ((by first|exact(y.1+1,⟨y.2.ps++[((aD L ((aD L r).xs.getD y.1 0)).nd.key,(aD L ((aD L r).xs.getD y.1 0)).nd.val)],x82.1,x82.2⟩)|exact(y.1+1,x87))) ?_ (hw1:=λ w hw=>by first|(rw[show y.2.ps.length+1=(y.2.ps++[((aD L ((aD L r).xs.getD y.1 0)).nd.key,(aD L ((aD L r).xs.getD y.1 0)).nd.val)]).length by simp] at hw;exact hw.back)|exact hw.back)
                · first
                   | exact⟨by omega,by rw[gL (by omega),sW hk4,bD,hx.2];simp only[List.append_assoc];exact rfl⟩
                   | exact⟨by omega,by rw[gL (by omega),tA hk2.1,h87,hx.2];simp only[List.append_assoc]⟩
          · try exact nv c59
            all_goals try (first|(exact absurd (by assumption) (by decide:¬(true=false)))|(exfalso;omega))
            all_goals refine bQ rfl ?_
            all_goals
             refine zG Tryz.results34 (λ w hw=>?_)
             refine⟨y.2,rfl,?_,hw.aV⟩
             have e2:=hx.2
             rw[List.take_of_length_le (by omega)] at e2
             rw[zX hr,jX,hown,e2]
theorem H3(h0:Fits L)(hb:V9 L cs)(hl:L.length<=274877906944)(hc:cs.length<=274877906944)(b:Nat)(v1 v2:Value):∀n,pu L cs gen pn cn pc cc b v1 v2 n
 | 0=>Ds h0 hb hl hc b v1 v2 0 λ m e=>nomatch e
 | n+1=>Ds h0 hb hl hc b v1 v2 (n+1) λ m e=>by cases e;exact H3 h0 hb hl hc b v1 v2 n
end
end

end Go.Proofs.YtpobgmdalcpomaaGreat
