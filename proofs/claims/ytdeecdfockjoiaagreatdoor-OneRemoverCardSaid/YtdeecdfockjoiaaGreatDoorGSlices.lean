/- Merged. -/
import Derived.Test.YtdeecdfockjoiaaGreatDoorGFun
import Derived.Test.YtdeecdfockjoiaaGreatDoorAuto
set_option linter.unusedSimpArgs false
set_option linter.unusedVariables false
namespace Go.Proofs.YtdeecdfockjoiaaGreatDoor
open Go.Proofs.Tryz
open Go.RowKit Go.Ct
section
variable{a b:Option Addr}{ca cb:Nat}{w:World}
theorem Qk{α} [BEq α] [LawfulBEq α] {xs ys:List α}{k:Nat}(h:xs.length=ys.length)(hk:¬k<xs.length)(ht:xs.take k=ys.take k):(xs==ys)=true:=by rw[List.take_of_length_le (by omega),List.take_of_length_le (by omega)] at ht;simp[ht]
theorem U0{α} [BEq α] [LawfulBEq α] {xs ys:List α}(h:xs.length≠ys.length):(xs==ys)=false:=by simp only[beq_eq_false_iff_ne,ne_eq];intro e;rw[e] at h;exact h rfl
theorem Ua{α} [BEq α] [LawfulBEq α] {xs ys:List α}{k:Nat}{d:α}(h:xs.getD k d≠ys.getD k d):(xs==ys)=false:=by simp only[beq_eq_false_iff_ne,ne_eq];intro e;rw[e] at h;exact h rfl
theorem Ri{α} [DecidableEq α] {xs ys:List α}{k:Nat}(h:xs.length=ys.length)(hk:¬k<xs.length)(ht:xs.take k=ys.take k):decide (xs=ys)=true:=by rw[List.take_of_length_le (by omega),List.take_of_length_le (by omega)] at ht;simp[ht]
theorem Ug{α} [DecidableEq α] {xs ys:List α}(h:xs.length≠ys.length):decide (xs=ys)=false:=decide_eq_false λ e=>h (by rw[e])
theorem S7{α} [DecidableEq α] {xs ys:List α}{k:Nat}{d:α}(h:xs.getD k d≠ys.getD k d):decide (xs=ys)=false:=decide_eq_false λ e=>h (by rw[e])
theorem L1{α}{xs ys:List α}{k:Nat}{d:α}(h:xs.take k=ys.take k)(hk:k<xs.length)(hl:xs.length=ys.length)(he:xs.getD k d=ys.getD k d):xs.take (k+1)=ys.take (k+1):=by rw[List.take_add_one,List.take_add_one,h,List.getElem?_eq_getElem hk,List.getElem?_eq_getElem (hl▸hk)];simp only[List.getD,List.getElem?_eq_getElem hk,List.getElem?_eq_getElem (hl▸hk:k<ys.length),Option.getD_some] at he;rw[he]
theorem qs{xs ys:List Int}(ha:Cl w a (aT xs))(hb:Cl w b (aT ys))(hx:xs.length<4611686018427387904) :
  Calls prog 295 #[.slice a xs.length ca,.slice b ys.length cb] w λ e w'=>e=.returned (.bool (xs==ys))/\St w [] [] w':=by
 refine enter func295 ntmps295 rfl rfl (SF.s2 ha hb) ?_;simp only[cN];refine Ka9 ?_;refine cP ?_;refine aB ?_;refine cP ?_;refine Kc0 ?_;refine aX (λ c10=>?_) (λ c10=>?_);·refine eD ?_;refine bJ results295 (λ w hw=>?_);exact⟨by rw[U0 (by omega)];rfl,hw.done⟩
 ·refine lL ?_;refine J2 ?_;refine Ka8 ?_;refine kP [4,5,13,14,15,16,17,18,19,20,21,22,23,24,25] (λ k=>[(13,.int .i64 ((k:Nat):Int))]) (λ k=>k<=xs.length/\xs.take k=ys.take k) (λ k=>xs.length-k) (0) (⟨Nat.zero_le _,by simp⟩) ?_ (λ k f hx=>?_);·repeat (first|exact bX _|refine bL (by exact rfl) ?_)
  refine K4a ?_;refine aX (λ c14=>?_) (λ c14=>?_)
  ·refine Ka6 ?_;refine lX ?_;refine fO [0,1,2,3,4,5,6,7,8] ?_;refine yS ?_;refine yg ?_;refine yS ?_;refine yg ?_;refine uI ?_;refine dA ?_;refine aX (λ c24=>?_) (λ c24=>?_);·refine eD ?_;refine bJ results295 (λ w hw=>?_);exact⟨by rw[Ua c24];rfl,hw.done⟩
   ·refine Kc1 ?_;refine hJ (k+1) ?_ ?_ ?_;·omega
    ·repeat' (first|exact bX _|refine bL ?_ ?_)
     exact rfl
    ·exact⟨by omega,L1 hx.2 (by omega) (by omega) c24⟩
  ·refine K1z ?_;refine eD ?_;refine bJ results295 (λ w hw=>?_);exact⟨by rw[Qk (k:=k) (by omega) (by omega) hx.2];rfl,hw.done⟩
theorem aAo{xs ys:List Pr}(ha:Cl w a (dF xs))(hb:Cl w b (dF ys))(hx:xs.length<4611686018427387904) :
  Calls prog 296 #[.slice a xs.length ca,.slice b ys.length cb] w λ e w'=>e=.returned (.bool (decide (xs=ys)))/\St w [] [] w':=by
 refine enter func296 ntmps296 rfl rfl (SF.s2 ha hb) ?_;simp only[cN];refine Ka9 ?_;refine cP ?_;refine aB ?_;refine cP ?_;refine Kc0 ?_;refine aX (λ c10=>?_) (λ c10=>?_);·refine eD ?_;refine bJ results296 (λ w hw=>?_);exact⟨by rw[Ug (by omega)];rfl,hw.done⟩
 ·refine lL ?_;refine J2 ?_;refine Ka8 ?_;refine kP [4,5,13,14,15,16,17,18,19,20,21,22,23,24,25] (λ k=>[(13,.int .i64 ((k:Nat):Int))]) (λ k=>k<=xs.length/\xs.take k=ys.take k) (λ k=>xs.length-k) (0) (⟨Nat.zero_le _,by simp⟩) ?_ (λ k f hx=>?_);·repeat (first|exact bX _|refine bL (by exact rfl) ?_)
  refine K4a ?_;refine aX (λ c14=>?_) (λ c14=>?_)
  ·refine Ka6 ?_;refine lX ?_;refine fO [0,1,2,3,4,5,6,7,8] ?_;refine yS ?_;refine yg ?_;refine yS ?_;refine yg ?_;refine su ?_;refine dA ?_;refine aX (λ c24=>?_) (λ c24=>?_);·refine eD ?_;refine bJ results296 (λ w hw=>?_);exact⟨by rw[S7 λ h=>c24 ⟨congrArg Prod.fst h,congrArg Prod.snd h⟩];rfl,hw.done⟩
   ·refine Kc1 ?_;refine hJ (k+1) ?_ ?_ ?_;·omega
    ·repeat' (first|exact bX _|refine bL ?_ ?_)
     exact rfl
    ·exact⟨by omega,L1 hx.2 (by omega) (by omega) (Prod.ext c24.1 c24.2)⟩
  ·refine K1z ?_;refine eD ?_;refine bJ results296 (λ w hw=>?_);exact⟨by rw[Ri (k:=k) (by omega) (by omega) hx.2];rfl,hw.done⟩
end
section
variable{a:Option Addr}{ca:Nat}{w:World}{l:List Pr}
theorem Ut{xs:List Int}(ha:Cl w a (aT xs))(hx:xs.length<4611686018427387904) :
  Calls prog 264 #[.slice a xs.length ca] w λ e w'=>∃r:Bool,e=.returned (.bool r)/\(r=true↔Pos xs)/\St w [] [] w':=by
 refine enter func264 ntmps264 rfl rfl (SF.s1 ha) ?_;simp only[cN];refine Ka9 ?_;refine Ka8 ?_;refine kP [2,4,7,8,9,10,11,12,13] (λ k=>[(7,.int .i64 ((k:Nat):Int))]) (λ k=>k<=xs.length/\∀i,i<k->1<=xs.getD i 0) (λ k=>xs.length-k) (0) (⟨Nat.zero_le _,λ i hi=>absurd hi (Nat.not_lt_zero i)⟩) ?_ (λ k f hx=>?_);·repeat (first|exact bX _|refine bL (by exact rfl) ?_)
 refine K4a ?_;refine aX (λ c8=>?_) (λ c8=>?_)
 ·refine Ke1 ?_;refine J53 ?_;refine Kb7 ?_;refine fX ?_;refine aX (λ c12=>?_) (λ c12=>?_);·refine eD ?_;refine bJ results264 (λ w hw=>?_);exact⟨_,rfl,by simp only[Bool.false_eq_true,false_iff];intro h;have:=h k (by omega);omega,hw.done⟩
  ·refine Kc1 ?_;refine hJ (k+1) ?_ ?_ ?_;·omega
   ·repeat' (first|exact bX _|refine bL ?_ ?_)
    exact rfl
   ·exact⟨by omega,λ i hi=>by rcases Nat.lt_succ_iff_lt_or_eq.1 hi with h|rfl;exact hx.2 i h;omega⟩
 ·refine K1z ?_;refine eD ?_;refine bJ results264 (λ w hw=>?_);exact⟨_,rfl,by simp only[true_iff];intro i hi;exact hx.2 i (by omega),hw.done⟩
theorem Pw(ha:Cl w a (dF l))(hx:l.length<4611686018427387904) :
  Calls prog 265 #[.slice a l.length ca] w λ e w'=>∃r:Bool,e=.returned (.bool r)/\(r=true↔Ql l)/\St w [] [] w':=by
 refine enter func265 ntmps265 rfl rfl (SF.s1 ha) ?_;simp only[cN];refine Ka9 ?_;refine Ka8 ?_;refine kP [2,4,7,8,9,10,11,12,13,14,15] (λ k=>[(7,.int .i64 ((k:Nat):Int))]) (λ k=>k<=l.length/\∀i,i<k->(l.getD i (⟨#[]⟩,0)).1.size<=64) (λ k=>l.length-k) (0) (⟨Nat.zero_le _,λ i hi=>absurd hi (Nat.not_lt_zero i)⟩) ?_ (λ k f hx=>?_);·repeat (first|exact bX _|refine bL (by exact rfl) ?_)
 refine K4a ?_;refine aX (λ c8=>?_) (λ c8=>?_)
 ·refine Ke1 ?_;refine J53 ?_;refine aJ (λ x4=>?_);refine J5 ?_;refine jN ?_;refine pW ?_;refine vI ?_;refine aE ?_;refine aX (λ c14=>?_) (λ c14=>?_);·refine eD ?_;refine bJ results265 (λ w hw=>?_);exact⟨_,rfl,by simp only[Bool.false_eq_true,false_iff];intro h;have:=h k (by omega);omega,hw.done⟩
  ·refine Kc1 ?_;refine hJ (k+1) ?_ ?_ ?_;·omega
   ·repeat' (first|exact bX _|refine bL ?_ ?_)
    exact rfl
   ·exact⟨by omega,λ i hi=>by rcases Nat.lt_succ_iff_lt_or_eq.1 hi with h|rfl;exact hx.2 i h;omega⟩
 ·refine K1z ?_;refine eD ?_;refine bJ results265 (λ w hw=>?_);exact⟨_,rfl,by simp only[true_iff];intro i hi;exact hx.2 i (by omega),hw.done⟩
theorem rS(ha:Cl w a (dF l))(hx:l.length<4611686018427387904) :
  Calls prog 176 #[.slice a l.length ca] w λ e w'=>∃r:Bool,e=.returned (.bool r)/\(r=true↔Asc l)/\St w [] [] w':=by
 refine enter func176 ntmps176 rfl rfl (SF.s1 ha) ?_;simp only[cN];refine Uh ?_;refine zi ?_;refine kP [2,3,4,5,6,7,8,9,10,11,12,13,14,15,16,17,18,19,20,21] (λ k=>[(3,.int .i64 ((k:Nat):Int))]) (λ k=>1<=k/\k<=l.length+1/\∀i,1<=i->i<k->dR (l.getD (i-1) (⟨#[]⟩,0)).1 (l.getD i (⟨#[]⟩,0)).1=true) (λ k=>l.length-k) (1) (⟨Nat.le_refl _,by omega,λ i h1 hi=>by omega⟩) ?_ (λ k f hx=>?_);·repeat (first|exact bX _|refine bL (by exact rfl) ?_)
 refine K0c ?_;refine qJ ?_;refine cP ?_;refine fX ?_;refine aX (λ c7=>?_) (λ c7=>?_)
 ·refine jH ?_;refine aL ?_;refine K3w ?_;refine yS ?_;refine xz ?_;refine kW ?_;refine hY ?_;refine yS ?_;refine kW ?_;refine hY ?_;refine oe ?_;refine dA ?_;refine aX (λ c21=>?_) (λ c21=>?_);·refine eD ?_;refine bJ results176 (λ w hw=>?_);exact⟨_,rfl,by simp only[Bool.false_eq_true,false_iff];intro h;have:=h k (by omega) (by omega);rw[c21] at this;exact Bool.noConfusion this,hw.done⟩
  ·refine rL ?_;refine J70 ?_;refine hJ (k+1) ?_ ?_ ?_;·omega
   ·repeat' (first|exact bX _|refine bL ?_ ?_)
    exact rfl
   ·exact⟨by omega,by omega,λ i h1 hi=>by rcases Nat.lt_succ_iff_lt_or_eq.1 hi with h|rfl;exact hx.2.2 i h1 h;exact c21⟩
 ·refine K1z ?_;refine eD ?_;refine bJ results176 (λ w hw=>?_);exact⟨_,rfl,by simp only[true_iff];intro i h1 hi;exact hx.2.2 i h1 (by omega),hw.done⟩
end
section
variable{a b c:ByteArray}
theorem Vg(h:dR a b=true)(h2:dR c b=false):dR a c=true:=by
 cases hb:dR b c with
 | true=>exact jV h hb
 | false=>have:=vK hb h2;subst this;exact h
theorem nz(h:dR b a=false)(h2:dR c b=false):dR c a=false:=by
 cases hc:dR c a with
 | false=>rfl
 | true=>have:=Vg hc h;rw[this] at h2;cases h2
theorem lA(h:dR a b=true):a≠b:=λ e=>by subst e;rw[Bt] at h;cases h
theorem Gt(h:dR b a=false)(hn:a≠b):dR a b=true:=by
 cases hb:dR a b with
 | true=>rfl
 | false=>exact absurd (vK hb h) hn
def SA(l:List Pr):Prop:=l.Pairwise λ p q=>dR p.1 q.1=true
instance (l:List Pr):Decidable (SA l):=inferInstanceAs (Decidable (l.Pairwise _))
theorem Wz{l:List Pr}(h:Asc l):∀d i,i+d+1<l.length->dR (l.getD i (⟨#[]⟩,0)).1 (l.getD (i+d+1) (⟨#[]⟩,0)).1=true
 | 0,i,hi=>by have:=h (i+1) (by omega) hi;rwa [Nat.add_sub_cancel] at this
 | d+1,i,hi=>jV (Wz h d i (by omega)) (by have:=h (i+(d+1)+1) (by omega) hi;rwa [Nat.add_sub_cancel] at this)
theorem iO{l:List Pr}{i:Nat}(h:i<l.length):l.getD i (⟨#[]⟩,0)=l[i]:=by simp[List.getD,List.getElem?_eq_getElem h]
theorem pV{l:List Pr}:Asc l↔SA l:=by
 constructor;·intro h;refine List.pairwise_iff_getElem.2 λ i j hi hj hij=>?_;have:=Wz h (j-i-1) i (by omega);rw[show i+(j-i-1)+1=j by omega,iO hi,iO hj] at this;exact this
 ·intro h i h1 hi;rw[iO (by omega),iO hi];exact List.pairwise_iff_getElem.1 h (i-1) i (by omega) hi (by omega)
def qI:List Pr->ByteArray->Option Int
 | [],_=>none
 | p::l,k=>if p.1=k then some p.2 else qI l k
theorem oG{l:List Pr}{k:ByteArray}(h:∀p∈l,p.1≠k):qI l k=none:=by
 induction l with
 | nil=>rfl
 | cons p l ih=>exact(if_neg (h p (.head _))).trans (ih λ q hq=>h q (.tail _ hq))
theorem mu:∀{l m:List Pr},SA l->SA m->(∀k,qI l k=qI m k)->l=m
 | [],[],_,_,_=>rfl
 | [],q::m,_,_,h=>by have:=h q.1;simp[qI] at this
 | p::l,[],_,_,h=>by have:=h p.1;simp[qI] at this
 | p::l,q::m,h1,h2,h=>by
  have h1':=List.pairwise_cons.1 h1;have h2':=List.pairwise_cons.1 h2
  have e1:dR p.1 q.1=false:=by
   cases hb:dR p.1 q.1 with
   | false=>rfl
   | true=>
    have:qI (q::m) p.1=none:=oG λ x hx=>by
     rcases List.mem_cons.1 hx with rfl|hx;·exact(lA hb).symm
     ·exact(lA (jV hb (h2'.1 x hx))).symm
    have h':=h p.1;rw[this] at h';simp[qI] at h'
  have e2:dR q.1 p.1=false:=by
   cases hb:dR q.1 p.1 with
   | false=>rfl
   | true=>
    have:qI (p::l) q.1=none:=oG λ x hx=>by
     rcases List.mem_cons.1 hx with rfl|hx;·exact(lA hb).symm
     ·exact(lA (jV hb (h1'.1 x hx))).symm
    have h':=h q.1;rw[this] at h';simp[qI] at h'
  have ek:=vK e1 e2;have ev:p.2=q.2:=by have:=h p.1;simpa[qI,ek] using this
  have et:l=m:=mu h1'.2 h2'.2 λ k=>by
   by_cases hk:p.1=k;·subst hk;rw[oG λ x hx=>(lA (h1'.1 x hx)).symm,oG λ x hx=>by rw[ek];exact(lA (h2'.1 x hx)).symm]
   ·have:=h k;rw[qI,qI,if_neg hk,if_neg (by rw[<- ek];exact hk)] at this;exact this
  rw[et,show p=q from Prod.ext ek ev]
def qK:List Pr->ByteArray->Int->List Pr
 | [],k,v=>[(k,v)]
 | p::l,k,v=>if dR p.1 k=true then p::qK l k v else if p.1=k then(k,v)::l else(k,v)::p::l
def yM(l:List Pr)(k:ByteArray):List Pr:=l.filter λ p=>decide (p.1≠k)
theorem Ho{l:List Pr}{k:ByteArray}{v:Int}:∀{q:Pr},q∈qK l k v->q=(k,v)∨q∈l:=by
 induction l with
 | nil=>intro q h;rw[qK,List.mem_singleton] at h;exact .inl h
 | cons p l ih=>
  intro q h;rw[qK] at h;split at h
  ·rcases List.mem_cons.1 h with rfl|h;·exact .inr (.head _)
   ·exact(ih h).imp id (.tail _)
  ·split at h;·exact(List.mem_cons.1 h).imp id (.tail _)
   ·exact List.mem_cons.1 h
theorem Mn{k:ByteArray}{v:Int}:∀{l:List Pr},SA l->SA (qK l k v)
 | [],_=>List.pairwise_singleton _ _
 | p::l,h=>by
  have h':=List.pairwise_cons.1 h;rw[qK];split
  ·next hlt =>
   refine List.pairwise_cons.2 ⟨λ q hq=>?_,Mn h'.2⟩;rcases Ho hq with rfl|hq
   ·exact hlt
   ·exact h'.1 q hq
  ·next hlt =>
   split
   ·next he =>
    subst he;exact List.pairwise_cons.2 ⟨λ q hq=>h'.1 q hq,h'.2⟩
   ·next hne =>
    have hkp:dR k p.1=true:=Gt (by simpa using hlt) (λ e=>hne e.symm);refine List.pairwise_cons.2 ⟨λ q hq=>?_,h⟩;rcases List.mem_cons.1 hq with rfl|hq
    ·exact hkp
    ·exact jV hkp (h'.1 q hq)
theorem B5{k:ByteArray}{v:Int}(j:ByteArray):∀{l:List Pr},SA l->qI (qK l k v) j=if j=k then some v else qI l j
 | [],_=>by
  simp only[qK,qI]
  by_cases h:j=k
  ·rw[if_pos h,if_pos h.symm]
  ·rw[if_neg h,if_neg λ e=>h e.symm]
 | p::l,h=>by
  have h':=List.pairwise_cons.1 h;have ih:=B5 (k:=k) (v:=v) j h'.2;rw[qK];split
  ·next hlt =>
   rw[qI,ih,qI]
   by_cases hj:j=k
   ·rw[if_pos hj,if_pos hj,if_neg λ e=>lA hlt (e.trans hj)]
   ·rw[if_neg hj,if_neg hj]
  ·split
   ·next he =>
    rw[qI,qI]
    by_cases hj:j=k
    ·rw[if_pos hj,if_pos hj.symm]
    ·rw[if_neg hj,if_neg λ e=>hj e.symm,if_neg λ e=>hj (e.symm.trans he)]
   ·rw[qI]
    by_cases hj:j=k
    ·rw[if_pos hj,if_pos hj.symm]
    ·rw[if_neg hj,if_neg λ e=>hj e.symm]
theorem gi{l:List Pr}(k:ByteArray)(h:SA l):SA (yM l k):=h.sublist List.filter_sublist
theorem Y8(l:List Pr)(k j:ByteArray):qI (yM l k) j=if j=k then none else qI l j:=by
 unfold yM;induction l with
 | nil=>simp[qI]
 | cons p l ih=>
  rw[List.filter_cons];by_cases hp:p.1=k
  ·rw[if_neg (by simp[hp]),ih,qI];by_cases hj:j=k;·rw[if_pos hj,if_pos hj]
   ·rw[if_neg hj,if_neg hj,if_neg λ e=>hj (e.symm.trans hp)]
  ·rw[if_pos (by simp[hp]),qI,ih,qI];by_cases hj:j=k;·rw[if_pos hj,if_pos hj,if_neg λ e=>hp (e.trans hj)]
   ·rw[if_neg hj,if_neg hj]
structure uG(l:List Pr)(k:ByteArray)(i:Nat):Prop where
 le:i<=l.length
 lo:∀j,j<i->dR (l.getD j (⟨#[]⟩,0)).1 k=true
 hi:∀j,i<=j->j<l.length->dR (l.getD j (⟨#[]⟩,0)).1 k=false
theorem uG.tl{p:Pr}{l:List Pr}{k:ByteArray}{i:Nat}(h:uG (p::l) k (i+1)):dR p.1 k=true/\uG l k i :=⟨h.lo 0 (by omega),⟨by have:=h.le;simp at this;omega,λ j hj=>h.lo (j+1) (by omega),λ j h1 h2=>h.hi (j+1) (by omega) (by simp;omega)⟩⟩
theorem Lf{k:ByteArray}{v:Int}:∀{l:List Pr} {i:Nat},uG l k i->i<l.length->(l.getD i (⟨#[]⟩,0)).1=k->qK l k v=l.set i ((l.getD i (⟨#[]⟩,0)).1,v)
 | [],i,_,h,_=>by simp at h
 | p::l,0,h,_,he=>by
  have he:p.1=k:=he;have:dR p.1 k=false:=by rw[he];exact Bt k
  rw[qK,if_neg (by rw[this];decide),if_pos he,List.set_cons_zero,<- he]
  rfl
 | p::l,i+1,h,hi,he=>by
  rw[qK,if_pos h.tl.1,List.set_cons_succ,Lf h.tl.2 (by simp at hi;omega) he]
  rfl
theorem Xd{k:ByteArray}{v:Int}:∀{l:List Pr} {i:Nat},uG l k i->¬(i<l.length/\(l.getD i (⟨#[]⟩,0)).1=k)->qK l k v=l.take i++(k,v)::l.drop i
 | [],i,h,_=>by have:=h.le;simp at this;subst this;rfl
 | p::l,0,h,hn=>by
  have:dR p.1 k=false:=h.hi 0 (Nat.le_refl _) (by simp);rw[qK,if_neg (by rw[this];decide),if_neg λ e:p.1=k=>hn ⟨by simp,e⟩];rfl
 | p::l,i+1,h,hn=>by
  rw[qK,if_pos h.tl.1,Xd h.tl.2 λ hh=>hn ⟨by simp;omega,hh.2⟩]
  rfl
theorem Hk{k:ByteArray}:∀{l:List Pr} {i:Nat},SA l->uG l k i->i<l.length->(l.getD i (⟨#[]⟩,0)).1=k->yM l k=l.take i++l.drop (i+1)
 | [],i,_,_,h,_=>by simp at h
 | p::l,0,hs,h,_,he=>by
  have he:p.1=k:=he;have h':=List.pairwise_cons.1 hs;unfold yM;rw[List.filter_cons,if_neg (by simp[he])];exact List.filter_eq_self.2 λ q hq=>by simpa[<- he] using(lA (h'.1 q hq)).symm
 | p::l,i+1,hs,h,hi,he=>by
  have:=Hk (List.pairwise_cons.1 hs).2 h.tl.2 (by simp at hi;omega) he;unfold yM at this ⊢;rw[List.filter_cons,if_pos (by simpa using lA h.tl.1),this];rfl
theorem xE{k:ByteArray}:∀{l:List Pr} {i:Nat},SA l->uG l k i->¬(i<l.length/\(l.getD i (⟨#[]⟩,0)).1=k)->∀p∈l,p.1≠k
 | [],_,_,_,_=>by simp
 | p::l,0,hs,h,hn=>by
  have h':=List.pairwise_cons.1 hs;have h0:dR p.1 k=false:=h.hi 0 (Nat.le_refl _) (by simp);have hne:p.1≠k:=λ e=>hn ⟨by simp,e⟩;have hlt:=Gt h0 (λ e=>hne e.symm);intro q hq
  rcases List.mem_cons.1 hq with rfl|hq
  ·exact hne
  ·exact(lA (jV hlt (h'.1 q hq))).symm
 | p::l,i+1,hs,h,hn=>by
  have:=xE (List.pairwise_cons.1 hs).2 h.tl.2 λ hh=>hn ⟨by simp;omega,hh.2⟩;intro q hq
  rcases List.mem_cons.1 hq with rfl|hq
  ·exact lA h.tl.1
  ·exact this q hq
theorem Z8{l:List Pr}{k:ByteArray}(h:∀p∈l,p.1≠k):yM l k=l:=List.filter_eq_self.2 λ q hq=>by simpa using h q hq
theorem Dj{k:ByteArray}:∀{l:List Pr} {i:Nat},uG l k i->i<l.length->(l.getD i (⟨#[]⟩,0)).1=k->qI l k=some (l.getD i (⟨#[]⟩,0)).2
 | [],i,_,h,_=>by simp at h
 | p::l,0,h,_,he=>if_pos he
 | p::l,i+1,h,hi,he=>(if_neg (lA h.tl.1)).trans (Dj h.tl.2 (by simp at hi;omega) he)
theorem B6{k:ByteArray}{v:Int}:∀{l:List Pr},SA l->(qK l k v).length=if(qI l k).isSome=true then l.length else l.length+1
 | [],_=>rfl
 | p::l,h=>by
  have h':=List.pairwise_cons.1 h;rw[qK];split
  ·next hlt =>
   rw[List.length_cons,B6 h'.2,qI,if_neg (lA hlt)];split<;>rfl
  ·next hlt =>
   split;·next he=>rw[qI,if_pos he];rfl
   ·next hne =>
    have hkp:dR k p.1=true:=Gt (by simpa using hlt) (λ e=>hne e.symm);rw[qI,if_neg hne,oG λ q hq=>(lA (jV hkp (h'.1 q hq))).symm];rfl
def xV(l:List Pr):List Pr:=l.foldl (λ acc p=>qK acc p.1 p.2) []
theorem Ay(l:List Pr)(p:Pr):xV (l++[p])=qK (xV l) p.1 p.2:=by unfold xV;rw[List.foldl_append];rfl
def uH(l:List Pr)(k:ByteArray):Option Int:=((l.filter λ p=>decide (p.1=k)).getLast?).map (·.2)
theorem Iu(l:List Pr)(p:Pr)(k:ByteArray):uH (l++[p]) k=if k=p.1 then some p.2 else uH l k:=by
 unfold uH;rw[List.filter_append];by_cases h:p.1=k;·rw[if_pos h.symm];simp[h]
 ·rw[if_neg λ e=>h e.symm];simp[h]
theorem H0{α:Type}{Q:List α->Prop}(h0:Q [])(h1:∀l x,Q l->Q (l++[x]))(l:List α):Q l:=by
 have key:∀m:List α,Q m.reverse:=λ m=>by
  induction m with
  | nil=>exact h0
  | cons x m ih=>rw[List.reverse_cons];exact h1 _ _ ih
 have:=key l.reverse;rwa [List.reverse_reverse] at this
theorem Nu(l:List Pr):SA (xV l):=by
 induction l using H0 with
 | h0=>exact List.Pairwise.nil
 | h1 l x ih=>rw[Ay];exact Mn ih
theorem qv(l:List Pr)(k:ByteArray):qI (xV l) k=uH l k:=by
 induction l using H0 with
 | h0=>rfl
 | h1 l x ih=>rw[Ay,B5 k (Nu l),Iu,ih]
theorem X7(l:List Pr):(xV l).length<=l.length:=by
 induction l using H0 with
 | h0=>exact Nat.le_refl _
 | h1 l x ih=>rw[Ay,B6 (Nu l),List.length_append,List.length_singleton];split<;>omega
def WS(l:List Pr):Prop:=l.Pairwise λ p q=>dR q.1 p.1=false
def Ni(l m:List Pr):Prop:=∀k:ByteArray,l.filter (λ p=>decide (p.1=k))=m.filter λ p=>decide (p.1=k)
variable{l m:List Pr}
theorem Ni.rfl:Ni l l:=λ _=>.refl _
theorem Ni.trans{l m n:List Pr}(h:Ni l m)(h2:Ni m n):Ni l n:=λ k=>(h k).trans (h2 k)
theorem Ni.w6{a b c d:List Pr}(h:Ni a b)(h2:Ni c d):Ni (a++c) (b++d):=λ k=>by rw[List.filter_append,List.filter_append,h k,h2 k]
theorem Ni.last(h:Ni l m)(k:ByteArray):uH l k=uH m k:=by unfold uH;rw[h k]
theorem iy(h:∀p∈l,∀q∈m,p.1≠q.1):Ni (l++m) (m++l):=λ k=>by
 rw[List.filter_append,List.filter_append];by_cases hl:∃p∈l,p.1=k
 ·obtain⟨p,hp,rfl⟩:=hl;have e:m.filter (λ q=>decide (q.1=p.1))=[]:=List.filter_eq_nil_iff.2 λ q hq=>by simpa using(h p hp q hq).symm
  rw[e,List.append_nil,List.nil_append]
 ·have e:l.filter (λ q=>decide (q.1=k))=[]:=List.filter_eq_nil_iff.2 λ p hp=>by simpa using λ e=>hl ⟨p,hp,e⟩
  rw[e,List.append_nil,List.nil_append]
def kA:List Pr->List Pr
 | []=>[]
 | [p]=>[p]
 | p::q::l=>if q.1=p.1 then kA (q::l) else p::kA (q::l)
theorem Dd:∀{l:List Pr} {x:Pr},x∈kA l->x∈l
 | [],_,h=>h
 | [_],_,h=>h
 | p::q::l,x,h=>by
  rw[kA] at h;split at h;·exact .tail _ (Dd h)
  ·rcases List.mem_cons.1 h with rfl|h;·exact .head _
   ·exact .tail _ (Dd h)
theorem Qh:∀{l:List Pr},WS l->SA (kA l)
 | [],_=>List.Pairwise.nil
 | [_],_=>List.pairwise_singleton _ _
 | p::q::l,h=>by
  have h':=List.pairwise_cons.1 h;have ih:=Qh h'.2;have h2:=List.pairwise_cons.1 h'.2;rw[kA];split
  ·exact ih
  ·next hne =>
   have hpq:=Gt (h'.1 q (.head _)) (λ e=>hne e.symm);refine List.pairwise_cons.2 ⟨λ x hx=>?_,ih⟩;rcases List.mem_cons.1 (Dd hx) with rfl|hx
   ·exact hpq
   ·exact Vg hpq (h2.1 x hx)
theorem Lo:∀{l:List Pr},WS l->∀k,qI (kA l) k=uH l k
 | [],_,_=>rfl
 | [p],_,k=>by
  rw[kA,qI,show [p]=[]++[p] from rfl,Iu,show uH [] k=none from rfl,qI]
  by_cases h:p.1=k
  ·rw[if_pos h,if_pos h.symm]
  ·rw[if_neg h,if_neg λ e=>h e.symm]
 | p::q::l,h,k=>by
  have h':=List.pairwise_cons.1 h;have ih:=Lo h'.2 k;have h2:=List.pairwise_cons.1 h'.2;rw[kA];split
  ·next he =>
   rw[ih]
   unfold uH
   rw[List.filter_cons (x:=p)]
   by_cases hp:p.1=k
   ·rw[if_pos (by simp[hp]),List.filter_cons,if_pos (by simp[he,hp]),List.getLast?_cons_cons]
   ·rw[if_neg (by simp[hp])]
  ·next hne =>
   rw[qI,ih];have hpq:=Gt (h'.1 q (.head _)) (λ e=>hne e.symm);by_cases hp:p.1=k
   ·rw[if_pos hp]
    unfold uH
    rw[List.filter_cons,if_pos (by simp[hp]),List.filter_eq_nil_iff.2 λ x hx=>by
     rw[<- hp]
     rcases List.mem_cons.1 hx with rfl|hx
     ·simpa using(lA hpq).symm
     ·simpa using(lA (Vg hpq (h2.1 x hx))).symm]
    rfl
   ·rw[if_neg hp]
    unfold uH
    rw[List.filter_cons (x:=p),if_neg (by simp[hp])]
theorem ga{l m:List Pr}(h:WS m)(hs:Ni m l):kA m=xV l :=mu (Qh h) (Nu l) λ k=>by rw[Lo h,qv,hs.last]
end
end Go.Proofs.YtdeecdfockjoiaaGreatDoor
