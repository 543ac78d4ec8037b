/- Pairs: the next one to step; the steps of pair number k. -/
import Derived.Test.YtbajmaoegmbfgaaGreatGEqs
import Derived.Test.YtbajmaoegmbfgaaGreatGAr8

set_option linter.unusedSimpArgs false
set_option linter.unusedVariables false
namespace Go.Proofs.YtbajmaoegmbfgaaGreat
section
open Go Go.RowKit Go.Ct
def sP(ps:List (Nat×Nat)):List Value:=ps.flatMap λ q=>[.pointer (some ⟨q.1,0,none⟩),.pointer (some ⟨q.2,0,none⟩)]
theorem iW:∀ps:List (Nat×Nat),(sP ps).length=ps.length*2
 | []=>rfl
 | t::ps=>by
  have:=iW ps
  simp only[sP,List.flatMap_cons,List.length_append,List.length_cons,List.length_nil] at this ⊢
  omega
theorem Lr{ps:List (Nat×Nat)}{j:Nat}(h:j<ps.length):((sP ps).drop (2*j)).take 2=[.pointer (some ⟨(ps.getD j (0,0)).1,0,none⟩),.pointer (some ⟨(ps.getD j (0,0)).2,0,none⟩)]:=by
 induction ps generalizing j with
 | nil=>simp at h
 | cons t ps ih =>
  cases j with
  | zero=>simp[sP]
  | succ j =>
   have:=ih (j:=j) (by simpa using h)
   rw[show 2*(j+1)=2*j+1+1 by omega]
   simpa[sP] using this
theorem aAU{ps:List (Nat×Nat)}{j:Nat}(h:j<ps.length):(sP ps)[2*j]?=some (.pointer (some ⟨(ps.getD j (0,0)).1,0,none⟩)):=by
 have e:=congrArg (·[0]?) (Lr h)
 simpa using e
theorem V5{ps:List (Nat×Nat)}{j:Nat}(h:j<ps.length):(sP ps)[2*j+1]?=some (.pointer (some ⟨(ps.getD j (0,0)).2,0,none⟩)):=by
 have e:=congrArg (·[1]?) (Lr h)
 simpa using e
def pW(l:List PX):List (Nat×Nat):=l.map λ p=>(p.tb,p.e.b)
def Q1(l:List PX)(k:Nat):Bool:=(l.map λ p=>p.e.dn).getD k true
def Ev(l:List PX):List (Tr×Nat):=l.map λ p=>(p.e.R,p.n)
theorem Bf{l:List PX}{k:Nat}(h:k<l.length):∃l1 p l2,l=l1++p::l2/\l1.length=k:=by
 refine⟨l.take k,l[k],l.drop (k+1),?_,by simp;omega⟩
 rw[<- List.drop_eq_getElem_cons h,List.take_append_drop]
theorem Ad{l1 l2:List PX}{p:PX}:(pW (l1++p::l2)).getD l1.length (0,0)=(p.tb,p.e.b):=by simp[pW]
theorem W0{l1 l2:List PX}{p:PX}:Q1 (l1++p::l2) l1.length=p.e.dn:=by simp[Q1]
theorem nI(l:List PX):(pW l).length=l.length:=by simp[pW]
theorem ya{α:Type}(x y t e:α)(t1 t2 e1 e2:List α):(x::y::((t1++t::t2)++(e1++e::e2))).Perm ([t,e,y]++(x::((t1++t2)++(e1++e2)))):=by
 have h1:((t1++t::t2)++(e1++e::e2)).Perm (t::e::((t1++t2)++(e1++e2))):=by
  refine((List.perm_middle (a:=t) (l₁:=t1) (l₂:=t2)).append_right _).trans ?_
  refine List.Perm.cons t ?_
  exact((List.perm_middle (a:=e) (l₁:=e1) (l₂:=e2)).append_left (t1++t2)).trans List.perm_middle
 refine((h1.cons y).cons x).trans ?_
 refine(((List.Perm.swap t y _).trans ((List.Perm.swap e y _).cons t)).cons x).trans ?_
 refine(List.Perm.swap t x _).trans (List.Perm.cons t ?_)
 exact(List.Perm.swap e x _).trans ((List.Perm.swap y x _).cons e)
section
variable{ba bm Bz C:Nat}{D:List Nat}{A:Fr}{w:World}{S:LS}
theorem lz{k:Nat}(hS:Ek ba Bz C S)(hk:k<S.l.length)(hs:SF w D (qJ ba bm S) A [] (rL S) w) :
  Calls Tryz.prog 93 #[.agg ⟨[.pointer (some ⟨((pW S.l).getD k (0,0)).1,0,none⟩),.pointer (some ⟨((pW S.l).getD k (0,0)).2,0,none⟩)]⟩] w λ e w'=>∃q:Unit,e=.returned (.bool true)/\True/\SF w D (qJ ba bm S) [] [] (rL S) w':=by
 obtain⟨a,z,l,B⟩:=S
 obtain⟨l1,p,l2,rfl,rfl⟩:=Bf hk
 simp only[Ad]
 have hp:p∈l1++p::l2:=List.mem_append_right _ (List.mem_cons_self ..)
 have hpk:=hS.p p hp
 obtain⟨hk1,hk2,hk3⟩:=(hS.rp p hp).kind hpk.rest
 rw[hpk.live] at hk1
 have pH:(qJ ba bm ⟨a,z,l1++p::l2,B⟩).Perm (((p.tb,tO ba p.c p.n)::xH p.e.k p.e.b bm (XS.wm p.e.x z) p.e.dn p.e.rs)++((ba,eX a)::((Ni ba l1++Ni ba l2)++(oF bm (l1.map PX.e)++oF bm (l2.map PX.e))))):=by
  dsimp only[qJ]
  rw[Ia,bh]
  exact ya _ _ _ _ _ _ _ _
 have pO:=Vq a z B l1 l2 p
 have key:=tN (P:=Tryz.prog) (f:=93) (vs := #[.agg ⟨[.pointer (some ⟨p.tb,0,none⟩),.pointer (some ⟨p.e.b,0,none⟩)]⟩]) (V:=λ _:Unit=>.bool true) (φ:=λ _=>True) (hs:=(p.tb,tO ba p.c p.n)::xH p.e.k p.e.b bm (XS.wm p.e.x z) p.e.dn p.e.rs) (os:=xW (XS.wm p.e.x z)) (hs':=λ _=>(p.tb,tO ba p.c p.n)::xH p.e.k p.e.b bm (XS.wm p.e.x z) p.e.dn p.e.rs) (os':=λ _=>xW (XS.wm p.e.x z)) (Fc:=λ _=>[]) (A0:=[]) hs pH pO aX.nil (λ h=>by
  rcases hpk.i.M2 with⟨hd,hR⟩|⟨hd,hR⟩
  ·rw[hd] at h hk1 ⊢
   exact Y8 (by simpa using hk1.2 rfl) (hk2 _ hR) hpk.gl h
  ·rw[hd] at h hk1 ⊢
   exact X2 (a:=p.e.x.nx) (by simpa using λ e=>by have:=hk1.1 e;cases this) (hk3 _ hR) rfl hpk.gl h)
 refine key.mono λ e w' ⟨q,e1,h1,hw⟩=>⟨q,e1,h1,?_⟩
 rw[List.append_nil] at hw
 exact hw.r7.perm pH pO
theorem G7{k:Nat}(hk:k<S.l.length)(hs:SF w D (qJ ba bm S) A [] (rL S) w) :
  Calls Tryz.prog 69 #[.pointer (some ⟨((pW S.l).getD k (0,0)).2,0,none⟩)] w λ e w'=>∃q:Unit,e=.returned (.bool (Q1 S.l k))/\True/\SF w D (qJ ba bm S) [] [] (rL S) w':=by
 obtain⟨a,z,l,B⟩:=S
 obtain⟨l1,p,l2,rfl,rfl⟩:=Bf hk
 simp only[Ad,W0]
 have pH:=eh (ba:=ba) (bm:=bm) a z B l1 l2 p
 have pO:=Vq a z B l1 l2 p
 have key:=tN (P:=Tryz.prog) (f:=69) (vs := #[.pointer (some ⟨p.e.b,0,none⟩)]) (V:=λ _:Unit=>.bool p.e.dn) (φ:=λ _=>True) (hs:=xH p.e.k p.e.b bm (XS.wm p.e.x z) p.e.dn p.e.rs) (os:=xW (XS.wm p.e.x z)) (hs':=λ _=>xH p.e.k p.e.b bm (XS.wm p.e.x z) p.e.dn p.e.rs) (os':=λ _=>xW (XS.wm p.e.x z)) (Fc:=λ _=>[]) (A0:=[]) hs pH pO aX.nil (λ h=>Cg h)
 refine key.mono λ e w' ⟨q,e1,h1,hw⟩=>⟨q,e1,h1,?_⟩
 rw[List.append_nil] at hw
 exact hw.r7.perm pH pO
def Mid(ba:Nat)(S:LS)(k:Nat)(y:LS×Cd×Fr×AS):Prop:=∃l1 p l2,S.l=l1++p::l2/\l1.length=k/\p.e.dn=false/\mS ba (tS (p.e.R,S.z.mm)) S.a S.B y.2/\y.1=⟨y.2.2.2,S.z,l1++{p with c:=y.2.1,n:=p.n+1}::l2,S.B⟩
theorem wq{k:Nat}(hS:Ek ba Bz C S)(hk:k<S.l.length)(hd:Q1 S.l k=false)(hB:Bz<=100000000000)(hC:C<900000000)(hA1:∀f∈aM S.a.L,f∈A)(hA2:∀f∈S.B,f∈A)(hs:SF w D (qJ ba bm S) A [] (rL S) w) :
  Calls Tryz.prog 37 #[.pointer (some ⟨((pW S.l).getD k (0,0)).1,0,none⟩)] w λ e w'=>∃y:LS×Cd×Fr×AS,e=.returned (.tuple #[])/\Mid ba S k y/\SF w D (qJ ba bm y.1) [] y.2.2.1 (rL y.1) w':=by
 obtain⟨a,z,l,B⟩:=S
 obtain⟨l1,p,l2,rfl,rfl⟩:=Bf hk
 simp only[W0] at hd
 simp only[Ad]
 exact(aBF hS hd hB hC hA1 hA2 hs).mono λ e w' ⟨y,e1,hy,hw⟩=>⟨(⟨y.2.2,z,l1++{p with c:=y.1,n:=p.n+1}::l2,B⟩,y),e1,⟨l1,p,l2,rfl,rfl,hd,hy,rfl⟩,hw⟩
structure ls(S S':LS)(F:Fr)(N:List aZ):Prop where
 ext:S'.z.L=S.z.L++N
 B:S'.B=F++S.B
 pr:pW S'.l=pW S.l
 fam:∀f∈aM S'.a.L,f.2=[]∨f∈aM S.a.L∨f∈F
 run:∀i p0,M1 i p0 (S.z.mm,Ev S.l)->M1 (i+1) p0 (S'.z.mm,Ev S'.l)
 ks:S'.l.map (λ p=>(p.e.k,p.m))=S.l.map λ p=>(p.e.k,p.m)
theorem z0{k:Nat}{y:LS×Cd×Fr×AS}(hS:Ek ba Bz C S)(hy:Mid ba S k y)(hB:Bz<=100000000000)(hC:C<900000000)(hA:∀f∈aM S.z.L,f∈A)(hs:SF w D (qJ ba bm y.1) A [] (rL y.1) w) :
  Calls Tryz.prog 68 #[.pointer (some ⟨((pW S.l).getD k (0,0)).2,0,none⟩)] w λ e w'=>∃q:LS×List aZ,e=.returned (.tuple #[])/\(Ek ba (Bz+128) (C+1) q.1/\ls S q.1 y.2.2.1 q.2)/\SF w D (qJ ba bm q.1) [] (aM q.2) (rL q.1) w':=by
 obtain⟨a,z,l,B⟩:=S
 obtain⟨Y,c',F',a'⟩:=y
 obtain⟨l1,p,l2,e1,e2,hd,ho,e3⟩:=hy
 simp only at e1 e3 ho
 subst e1 e2 e3
 simp only[Ad]
 have hpk:=hS.p p (List.mem_append_right _ (List.mem_cons_self ..))
 refine(aBD hS hd hB hC ho hA hs).mono λ e w' ⟨q,g1,⟨g2,g3,g4,g5,⟨p',g6,g7,g8,g9,g10,g11,g12⟩,g13⟩,hw⟩=>⟨q,g1,⟨g2,⟨g5,g4,?_,?_,λ i p0 h=>?_,?_⟩⟩,hw⟩
 ·rw[g6];simp[pW,g7,g8]
 ·rw[g3];exact ho.2.2.fam
 ·rw[g6,g13]
  have h2:Ev (l1++p'::l2)=Ev l1++((tS (p.e.R,z.mm)).1,p.n+1)::Ev l2:=by simp[Ev,g9,g10]
  rw[h2]
  have h3:Ev (l1++p::l2)=Ev l1++(p.e.R,p.n)::Ev l2:=by simp[Ev]
  rw[h3] at h
  exact .step h (by rw[hpk.live,hd];rfl)
 ·rw[g6];simp[g11,g12]
end
section
variable{ba bm Bz C tp:Nat}{D:List Nat}{w:World}{S:LS}{l:List Int}{a pa:Option Addr}{c pc pos:Nat}
theorem rr(h0:0<S.l.length)(h1:S.l.length<=1000)(hpc:S.l.length<=pc)(hl:l.length<=17592186043904)(hs:SF w D ((tp,Bh a l c pos)::qJ ba bm S) [(pa,sP (pW S.l)),(a,aG l)] [] (rL S) w) :
  Calls Tryz.prog 94 #[.slice pa (pW S.l).length pc,.pointer (some ⟨tp,0,none⟩)] w λ e w'=>∃q:Int×Nat,e=.returned (.int .i64 q.1)/\((q.1 = -1/\∀k,k<S.l.length->Q1 S.l k=true)∨∃k:Nat,q.1=(k:Int)/\k<S.l.length/\Q1 S.l k=false)/\SF w D ((tp,Bh a l c q.2)::qJ ba bm S) [] [] (rL S) w':=by
 have hpl:=nI S.l
 refine enter Tryz.func94 Tryz.ntmps94 rfl rfl hs ?_
 simp only[bY]
 refine cR ?_;refine kM ?_;refine aC (xK (hc:=λ w1 hw=>fo (hw.tape cL fin hl))) (λ x8 h8=>?_);refine aH ?_
 refine bE (λ c8=>?_) (λ c8=>?_)
 ·refine iO ?_;refine dI ?_;refine aC (xK (hc:=λ w1 hw=>eT (pW S.l).length (hw.tape cL fin hl) (by omega) (by omega))) (λ x12 h12=>?_);refine wJ ?_;refine aB (A2 (cs:=sP (pW S.l)) (k:=x12) rf rf hX dJ fin (by omega) (by rw[iW];omega)) rfl ?_;refine aE ?_;refine aB (Hz (cs:=sP (pW S.l)) (q:=2*x12+1) (v:=.pointer (some ⟨((pW S.l).getD x12 (0,0)).2,0,none⟩)) rf iA fin (V5 (by omega))) rfl ?_;refine aC (cT 1 0 (hs:=qJ ba bm S) (os:=rL S) (A0:=[]) (F1:=λ _=>[]) (hA:=aX.nil) (hF1:=λ _ _ f hf=>(List.not_mem_nil hf).elim) (hc:=λ w hs=>G7 (k:=x12) (by omega) hs)) (λ x18 h18=>?_);refine oX ?_
  refine bE (λ c19=>?_) (λ c19=>?_)
  ·refine J2 ?_;refine J1 ?_
   refine aT Tryz.results94 (λ w hw=>?_)
   first
   | exact⟨(((x12:Nat):Int),lQ l pos),rfl,.inr ⟨x12,rfl,by omega,by simpa using c19⟩,hw.aU (hH:=List.Sublist.refl _) (hO:=List.Sublist.refl _)⟩
   | exact⟨(-1,lQ l pos),rfl,.inl ⟨rfl,λ j hj=>hx.2 j (by omega)⟩,hw.aU (hH:=List.Sublist.refl _) (hO:=List.Sublist.refl _)⟩
   | exact⟨(-1,pos),rfl,.inl ⟨rfl,λ j hj=>hx.2 j (by omega)⟩,hw.aU (hH:=List.Sublist.refl _) (hO:=List.Sublist.refl _)⟩
  ·refine lA ?_;refine J2 ?_;refine dI ?_;refine Af ?_;refine cI ?_
   refine fF [4,6,23,24,25,26,27,28,29,30,31,32,33,34] (λ k=>[(23,.int .i64 ((k:Nat):Int))]) (λ k=>k<=S.l.length/\∀j,j<k->Q1 S.l j=true) (λ k=>S.l.length-k) (0) (⟨Nat.zero_le _,λ j hj=>absurd hj (Nat.not_lt_zero j)⟩) ?_ (λ k f hx=>?_)
   ·repeat (first|exact bG _|refine bA (by exact rfl) ?_)
   dsimp only[gR,List.map,List.cons_append,List.nil_append]
   refine J0 ?_;refine vX ?_;refine aV ?_
   refine bE (λ c24=>?_) (λ c24=>?_)
   ·refine qI ?_;refine J2 ?_;refine wJ ?_;refine aB (A2 (cs:=sP (pW S.l)) (k:=k) rf rf hX dJ fin (by omega) (by rw[iW];omega)) rfl ?_;refine aE ?_;refine aB (Hz (cs:=sP (pW S.l)) (q:=2*k+1) (v:=.pointer (some ⟨((pW S.l).getD k (0,0)).2,0,none⟩)) rf iA fin (V5 (by omega))) rfl ?_;refine aC (cT 1 0 (hs:=qJ ba bm S) (os:=rL S) (A0:=[]) (F1:=λ _=>[]) (hA:=aX.nil) (hF1:=λ _ _ f hf=>(List.not_mem_nil hf).elim) (hc:=λ w hs=>G7 (k:=k) (by omega) hs)) (λ x31 h31=>?_);refine oX ?_
    refine bE (λ c32=>?_) (λ c32=>?_)
    ·refine J2 ?_;refine J1 ?_
     refine aT Tryz.results94 (λ w hw=>?_)
     first
     | exact⟨(((x12:Nat):Int),lQ l pos),rfl,.inr ⟨x12,rfl,by omega,by simpa using c19⟩,hw.aU (hH:=List.Sublist.refl _) (hO:=List.Sublist.refl _)⟩
     | exact⟨(((k:Nat):Int),lQ l pos),rfl,.inr ⟨k,rfl,by omega,by simpa using c32⟩,hw.aU (hH:=List.Sublist.refl _) (hO:=List.Sublist.refl _)⟩
     | exact⟨(((k:Nat):Int),pos),rfl,.inr ⟨k,rfl,by omega,by simpa using c32⟩,hw.aU (hH:=List.Sublist.refl _) (hO:=List.Sublist.refl _)⟩
     | exact⟨(-1,lQ l pos),rfl,.inl ⟨rfl,λ j hj=>hx.2 j (by omega)⟩,hw.aU (hH:=List.Sublist.refl _) (hO:=List.Sublist.refl _)⟩
     | exact⟨(-1,pos),rfl,.inl ⟨rfl,λ j hj=>hx.2 j (by omega)⟩,hw.aU (hH:=List.Sublist.refl _) (hO:=List.Sublist.refl _)⟩
    ·refine oB ?_;refine Rt ?_;refine Af ?_
     refine dY (k+1) ?_ ?_ ?_
     ·omega
     ·repeat' (first|exact bG _|refine bA ?_ ?_)
      exact rfl
     ·exact⟨by omega,λ j hj=>by rcases Nat.lt_succ_iff_lt_or_eq.1 hj with h|rfl;exact hx.2 j h;simpa using c32⟩
   ·refine bM rfl ?_;refine cR ?_
    refine aT Tryz.results94 (λ w hw=>?_)
    first
    | exact⟨(((x12:Nat):Int),lQ l pos),rfl,.inr ⟨x12,rfl,by omega,by simpa using c19⟩,hw.aU (hH:=List.Sublist.refl _) (hO:=List.Sublist.refl _)⟩
    | exact⟨(-1,lQ l pos),rfl,.inl ⟨rfl,λ j hj=>hx.2 j (by omega)⟩,hw.aU (hH:=List.Sublist.refl _) (hO:=List.Sublist.refl _)⟩
    | exact⟨(-1,pos),rfl,.inl ⟨rfl,λ j hj=>hx.2 j (by omega)⟩,hw.aU (hH:=List.Sublist.refl _) (hO:=List.Sublist.refl _)⟩
 ·refine lA ?_;refine J2 ?_;refine dI ?_;refine Af ?_;refine cI ?_
  refine fF [4,6,23,24,25,26,27,28,29,30,31,32,33,34] (λ k=>[(23,.int .i64 ((k:Nat):Int))]) (λ k=>k<=S.l.length/\∀j,j<k->Q1 S.l j=true) (λ k=>S.l.length-k) (0) (⟨Nat.zero_le _,λ j hj=>absurd hj (Nat.not_lt_zero j)⟩) ?_ (λ k f hx=>?_)
  ·repeat (first|exact bG _|refine bA (by exact rfl) ?_)
  dsimp only[gR,List.map,List.cons_append,List.nil_append]
  refine J0 ?_;refine vX ?_;refine aV ?_
  refine bE (λ c24=>?_) (λ c24=>?_)
  ·refine qI ?_;refine J2 ?_;refine wJ ?_;refine aB (A2 (cs:=sP (pW S.l)) (k:=k) rf rf hX dJ fin (by omega) (by rw[iW];omega)) rfl ?_;refine aE ?_;refine aB (Hz (cs:=sP (pW S.l)) (q:=2*k+1) (v:=.pointer (some ⟨((pW S.l).getD k (0,0)).2,0,none⟩)) rf iA fin (V5 (by omega))) rfl ?_;refine aC (cT 1 0 (hs:=qJ ba bm S) (os:=rL S) (A0:=[]) (F1:=λ _=>[]) (hA:=aX.nil) (hF1:=λ _ _ f hf=>(List.not_mem_nil hf).elim) (hc:=λ w hs=>G7 (k:=k) (by omega) hs)) (λ x31 h31=>?_);refine oX ?_
   refine bE (λ c32=>?_) (λ c32=>?_)
   ·refine J2 ?_;refine J1 ?_
    refine aT Tryz.results94 (λ w hw=>?_)
    first
    | exact⟨(((k:Nat):Int),lQ l pos),rfl,.inr ⟨k,rfl,by omega,by simpa using c32⟩,hw.aU (hH:=List.Sublist.refl _) (hO:=List.Sublist.refl _)⟩
    | exact⟨(((k:Nat):Int),pos),rfl,.inr ⟨k,rfl,by omega,by simpa using c32⟩,hw.aU (hH:=List.Sublist.refl _) (hO:=List.Sublist.refl _)⟩
    | exact⟨(-1,lQ l pos),rfl,.inl ⟨rfl,λ j hj=>hx.2 j (by omega)⟩,hw.aU (hH:=List.Sublist.refl _) (hO:=List.Sublist.refl _)⟩
    | exact⟨(-1,pos),rfl,.inl ⟨rfl,λ j hj=>hx.2 j (by omega)⟩,hw.aU (hH:=List.Sublist.refl _) (hO:=List.Sublist.refl _)⟩
   ·refine oB ?_;refine Rt ?_;refine Af ?_
    refine dY (k+1) ?_ ?_ ?_
    ·omega
    ·repeat' (first|exact bG _|refine bA ?_ ?_)
     exact rfl
    ·exact⟨by omega,λ j hj=>by rcases Nat.lt_succ_iff_lt_or_eq.1 hj with h|rfl;exact hx.2 j h;simpa using c32⟩
  ·refine bM rfl ?_;refine cR ?_
   refine aT Tryz.results94 (λ w hw=>?_)
   first
   | exact⟨(-1,lQ l pos),rfl,.inl ⟨rfl,λ j hj=>hx.2 j (by omega)⟩,hw.aU (hH:=List.Sublist.refl _) (hO:=List.Sublist.refl _)⟩
   | exact⟨(-1,pos),rfl,.inl ⟨rfl,λ j hj=>hx.2 j (by omega)⟩,hw.aU (hH:=List.Sublist.refl _) (hO:=List.Sublist.refl _)⟩
end
end

/- Pairs: Run. -/
section
open Go Go.RowKit Go.Ct
section
variable{ba bm Bz C:Nat}{D:List Nat}{A:Fr}{w:World}{S:LS}{ps:List (Nat×Nat)}
theorem Xl{k:Nat}(hps:pW S.l=ps)(hS:Ek ba Bz C S)(hk:k<ps.length)(hs:SF w D (qJ ba bm S) A [] (rL S) w) :
  Calls Tryz.prog 93 #[.agg ⟨[.pointer (some ⟨(ps.getD k (0,0)).1,0,none⟩),.pointer (some ⟨(ps.getD k (0,0)).2,0,none⟩)]⟩] w λ e w'=>∃q:Unit,e=.returned (.bool true)/\True/\SF w D (qJ ba bm S) [] [] (rL S) w':=by
 subst hps
 exact lz hS (by rw[nI] at hk;exact hk) hs
theorem zf{k:Nat}(hps:pW S.l=ps)(hS:Ek ba Bz C S)(hk:k<S.l.length)(hd:Q1 S.l k=false)(hB:Bz<=100000000000)(hC:C<900000000)(hA1:∀f∈aM S.a.L,f∈A)(hA2:∀f∈S.B,f∈A)(hs:SF w D (qJ ba bm S) A [] (rL S) w) :
  Calls Tryz.prog 37 #[.pointer (some ⟨(ps.getD k (0,0)).1,0,none⟩)] w λ e w'=>∃y:LS×Cd×Fr×AS,e=.returned (.tuple #[])/\Mid ba S k y/\SF w D (qJ ba bm y.1) [] y.2.2.1 (rL y.1) w':=by
 subst hps
 exact wq hS hk hd hB hC hA1 hA2 hs
theorem xc{k:Nat}{y:LS×Cd×Fr×AS}(hps:pW S.l=ps)(hS:Ek ba Bz C S)(hy:Mid ba S k y)(hB:Bz<=100000000000)(hC:C<900000000)(hA:∀f∈aM S.z.L,f∈A)(hs:SF w D (qJ ba bm y.1) A [] (rL y.1) w) :
  Calls Tryz.prog 68 #[.pointer (some ⟨(ps.getD k (0,0)).2,0,none⟩)] w λ e w'=>∃q:LS×List aZ,e=.returned (.tuple #[])/\(Ek ba (Bz+128) (C+1) q.1/\ls S q.1 y.2.2.1 q.2)/\SF w D (qJ ba bm q.1) [] (aM q.2) (rL q.1) w':=by
 subst hps
 exact z0 hS hy hB hC hA hs
theorem Zz{tp:Nat}{l:List Int}{a pa:Option Addr}{c pc pos:Nat}(hps:pW S.l=ps)(h0:0<ps.length)(h1:ps.length<=1000)(hpc:ps.length<=pc)(hl:l.length<=17592186043904)(hs:SF w D ((tp,Bh a l c pos)::qJ ba bm S) [(pa,sP ps),(a,aG l)] [] (rL S) w) :
  Calls Tryz.prog 94 #[.slice pa ps.length pc,.pointer (some ⟨tp,0,none⟩)] w λ e w'=>∃q:Int×Nat,e=.returned (.int .i64 q.1)/\((q.1 = -1/\∀k,k<S.l.length->Q1 S.l k=true)∨∃k:Nat,q.1=(k:Int)/\k<S.l.length/\Q1 S.l k=false)/\SF w D ((tp,Bh a l c q.2)::qJ ba bm S) [] [] (rL S) w':=by
 subst hps
 have hpl:=nI S.l
 exact rr (by omega) (by omega) (by omega) hl hs
end
structure LY where
 i:Nat
 S:LS
 pos:Nat
 G:Fr
structure na(ba B0 C0:Nat)(A:Fr)(S:LS)(y:LY):Prop where
 hi:y.i<=400
 ok:Ek ba (B0+128*y.i) (C0+y.i) y.S
 fa:∀f∈aM y.S.a.L,f.2=[]∨f∈A∨f∈y.G
 fz:∀f∈aM y.S.z.L,f.2=[]∨f∈A∨f∈y.G
 fB:∀f∈y.S.B,f∈A∨f∈y.G
 run:M1 y.i (S.z.mm,Ev S.l) (y.S.z.mm,Ev y.S.l)
 pr:pW y.S.l=pW S.l
 ks:y.S.l.map (λ p=>(p.e.k,p.m))=S.l.map λ p=>(p.e.k,p.m)
theorem na.step{ba B0 C0:Nat}{A:Fr}{S:LS}{y:LY}{q:LS×List aZ}{F:Fr}{pos:Nat}(h:na ba B0 C0 A S y)(hi:y.i<400)(h1:Ek ba (B0+128*y.i+128) (C0+y.i+1) q.1)(h2:ls y.S q.1 F q.2):na ba B0 C0 A S ⟨y.i+1,q.1,pos,aM q.2++(F++y.G)⟩:=by
 refine⟨hi,?_,λ f hf=>?_,λ f hf=>?_,λ f hf=>?_,h2.run _ _ h.run,h2.pr.trans h.pr,h2.ks.trans h.ks⟩
 ·exact h1
 ·rcases h2.fam f hf with h3|h3|h3
  ·exact .inl h3
  ·rcases h.fa f h3 with h4|h4|h4
   ·exact .inl h4
   ·exact .inr (.inl h4)
   ·exact .inr (.inr (List.mem_append_right _ (List.mem_append_right _ h4)))
  ·exact .inr (.inr (List.mem_append_right _ (List.mem_append_left _ h3)))
 ·have hf':f∈aM q.1.z.L:=hf
  rw[h2.ext,cZ] at hf'
  rcases List.mem_append.1 hf' with h3|h3
  ·rcases h.fz f h3 with h4|h4|h4
   ·exact .inl h4
   ·exact .inr (.inl h4)
   ·exact .inr (.inr (List.mem_append_right _ (List.mem_append_right _ h4)))
  ·exact .inr (.inr (List.mem_append_left _ h3))
 ·have hf':f∈q.1.B:=hf
  rw[h2.B] at hf'
  rcases List.mem_append.1 hf' with h3|h3
  ·exact .inr (List.mem_append_right _ (List.mem_append_left _ h3))
  ·exact(h.fB f h3).imp_right λ h=>List.mem_append_right _ (List.mem_append_right _ h)
theorem na.sz{ba B0 C0:Nat}{A:Fr}{S:LS}{y:LY}(h:na ba B0 C0 A S y)(hB:B0<=50000000000):y.S.a.L.length<=100000000000/\y.S.a.cs.length<=100000000000/\y.S.z.L.length<=100000000000/\y.S.z.cs.length<=100000000000:=by
 obtain⟨s1,s2,s3⟩:=h.ok.sz
 have hi:=h.hi
 have e1:=congrArg (λ m:Mm=>m.nodes.length) h.ok.mm
 have e2:=congrArg (λ m:Mm=>m.cs.length) h.ok.mm
 simp only[AS.mm,XS.mm,List.length_map,fI] at e1 e2
 omega
theorem na.same{ba B0 C0:Nat}{A:Fr}{S:LS}{y:LY}{L:List aZ}(h:na ba B0 C0 A S y)(hL:L.map aZ.c=(cB y.S.a.L).map aZ.c):Tj L y.S.z.L y.S.a.cs y.S.z.cs y.S.a.gen y.S.z.gen :=
 ⟨hL.trans (congrArg Mm.nodes h.ok.mm),congrArg Mm.gen h.ok.mm,congrArg Mm.cs h.ok.mm⟩
set_option maxRecDepth 100000 in
theorem zy{ba bm B0 C0:Nat}{D:List Nat}{A:Fr}{w:World}{S:LS}{l:List Int}{a pa:Option Addr}{c pc:Nat}{ps:List (Nat×Nat)}(hps:pW S.l=ps)(hS:Ek ba B0 C0 S)(hB0:B0<=50000000000)(hC0:C0<=1000000)(h0:0<ps.length)(h1:ps.length<=1000)(hpc:ps.length<=pc)(hl:l.length<=17592186043904)(hA1:∀f∈aM S.a.L,f.2=[]∨f∈A)(hA2:∀f∈aM S.z.L,f.2=[]∨f∈A)(hA3:∀f∈S.B,f∈A)(hP:(pa,sP ps)∈A)(hT:(a,aG l)∈A)(hs:SF w D (qJ ba bm S) A [] (rL S) w) :
    Calls Tryz.prog 43 #[.pointer (some ⟨ba,0,none⟩),.pointer (some ⟨bm,0,none⟩),.slice a l.length c,.slice pa ps.length pc] w λ e w'=>∃y:LY,e=.returned (.bool true)/\(na ba B0 C0 A S y/\(y.i=400∨∀k,k<y.S.l.length->Q1 y.S.l k=true))/\SF w D (qJ ba bm y.S) [] y.G (rL y.S) w':=by
  refine enter Tryz.func43 Tryz.ntmps43 rfl rfl hs ?_
  simp only[bY]
  refine cR ?_;refine J2 ?_;refine aC (Rx (Fc:=λ _=>[]) (Oc:=λ _=>[]) (hc:=λ w1 hw=>lq)) (λ x15 h15=>?_);refine iZ ?_;refine Fs ?_
  refine nA [8,10,12,13,16,17,18,19,20,21,22,23,24,25,26,27,28,29,30,31,32,33,34,35,36,37,38,39,40,41,42,43,44,45,46,47,48,49,50,51,52,53,54,55,56,57,58,59,60,61,62,63] (λ y:LY=>[(10,.int .i64 ((y.i:Nat):Int))]) (λ y=>na ba B0 C0 A S y) (λ y=>(x15,Bh a l c y.pos)::qJ ba bm y.S) (λ y=>y.G) (λ y=>rL y.S) (λ y=>400-y.i) (⟨0,S,0,[]⟩) (⟨Nat.zero_le _,hS,λ f hf=>(hA1 f hf).imp_right .inl,λ f hf=>(hA2 f hf).imp_right .inl,λ f hf=>.inl (hA3 f hf),.refl _,rfl,rfl⟩) (λ y f hx=>?_) (hw0:=λ w hw=>hw)
  dsimp only[gR,List.map,List.cons_append,List.nil_append]
  have hx0:=hx
  have hsz:=hx0.sz hB0
  have hlen:y.S.l.length=ps.length:=by rw[<- nI,hx0.pr,hps]
  refine kM ?_;refine vX ?_
  refine bE (λ c17=>?_) (λ c17=>?_)
  · refine qI ?_;refine kM ?_;refine dI ?_;refine Af ?_;refine cI ?_
    refine nA [8,12,22,23,24,25,26,27,28,29] (λ k=>[(22,.int .i64 ((k:Nat):Int))]) (λ k=>k<=ps.length) (λ _=>(x15,Bh a l c y.pos)::qJ ba bm y.S) (λ _=>y.G) (λ _=>rL y.S) (λ k=>ps.length-k) (0) (Nat.zero_le _) (λ k f hx=>?_) (hw0:=λ w hw=>hw.back (hH:=by exact List.Sublist.refl _) (hF:=by exact aY.all) (hO:=by exact List.Sublist.refl _))
    dsimp only[gR,List.map,List.cons_append,List.nil_append]
    refine J0 ?_;refine vX ?_;refine aV ?_
    refine bE (λ c23=>?_) (λ c23=>?_)
    · refine qI ?_;refine J0 ?_;refine aB (A2 (cs:=sP ps) (k:=k) rf rf hX dJ (.bN (yT.oD hP)) (by omega) (by rw[iW];omega)) rfl ?_;refine aB (Ap (k:=2) (cs:=sP ps) (q:=2*k) rf dJ (.bN (yT.oD hP)) (Lr (by omega)) rfl) rfl ?_;refine aI (λ x12=>?_);refine J5 ?_;refine pK ?_;refine aC (cT 2 0 (hs:=qJ ba bm y.S) (os:=rL y.S) (A0:=[]) (F1:=λ _=>y.G) (hA:=aX.nil) (hF1:=λ _ _ f hf=>.inr hf) (hc:=λ w hs=>Xl (k:=k) (hx0.pr.trans hps) hx0.ok (by omega) hs)) (λ x27 h27=>?_);refine oX ?_
      refine bE (λ c28=>?_) (λ c28=>?_)
      · exact nv c28
      · refine oB ?_;refine Rt ?_;refine Af ?_
        refine iJ (k+1) ?_ (hw1:=λ w hw=>hw.back (hH:=by exact List.Sublist.cons _ (List.Sublist.refl _)) (hF:=by exact aY.all) (hO:=by exact List.Sublist.refl _))
        · omega
    · refine bM rfl ?_;refine aV ?_;refine aV ?_;refine dX [(0,[]),(1,[]),(2,[]),(3,[]),(4,[]),(5,[]),(6,[]),(7,[]),(8,[]),(10,[]),(11,[]),(12,[]),(13,[]),(9,[13]),(14,[]),(15,[]),(16,[])] ?_;refine aP ?_;refine zU ?_;refine aP ?_
      (refine Zk 32 (λ g32=>?_) (λ g32=>?_)<;>(first|refine dE ?_|(refine aP ?_)))
      all_goals ((first|refine dE ?_|(refine cE (i:=4) (hq:=(dk (a:=y.i) (b:=16) rf rf (by decide))) (h:=?_)));refine J56 ?_;refine aP ?_)
      all_goals (first|(refine aP ?_)|(refine Zk 37 (λ g37=>?_) (λ g37=>?_)<;>(first|refine dE ?_|(refine aP ?_))))
      all_goals ((first|refine dE ?_|(refine aP ?_));(first|refine dE ?_|(refine tH ?_));(first|refine dE ?_|(refine aQ ?_));(first|refine dE ?_|(refine bT (i:=13) (hq:=(aN (k:=3) rf cL dJ (by simp only[List.drop_zero,List.take_succ_cons,List.take_zero];exact rfl) rfl)) (h:=?_)));(first|refine dE ?_|(refine bC (i:=9) (hq:=(cMO (hs:=[(ba,eX y.S.a)]) (os:=fU y.S.a) (A0:=aM y.S.a.L) (hA:=aX.of λ f hf=>(hx0.fa f hf).imp_right λ h=>h.imp_right .inl) (hc:=λ w hs=>F4 (L:=y.S.a.L) (cs:=y.S.a.cs) hs hx0.ok.a.fit (by omega) (by omega)))) (hfire:=(λ _=>by(refine gA ?_;refine aW.cons (by(exact iR (hq:=aN (k:=3) rf cL dJ (by simp only[List.drop_zero,List.take_succ_cons,List.take_zero];exact rfl) rfl))) ?_;exact aW.nil))) (h:=λ x39 h39=>?_)));(first|refine dE ?_|(refine cN (i:=14) (hq:=(cV (hc:=λ w hw=>Ll (L1:=x39.1) (L2:=y.S.z.L) (cs1:=y.S.a.cs) (cs2:=y.S.z.cs) (hw.K0 (.inr (.inr (.inr ⟨_,.head _,rfl,rfl⟩))) (.inr (.inr (.inr ⟨_,.tail _ (.head _),rfl,rfl⟩))) (λ f hf=>.inr (.inr (.inl (List.mem_append_left _ hf)))) h39.2) (hw.K0 (.inr (.inr (.inr ⟨_,.tail _ (.tail _ (.tail _ (.tail _ (.head _)))),rfl,rfl⟩))) (.inr (.inr (.inr ⟨_,.tail _ (.tail _ (.tail _ (.tail _ (.tail _ (.head _))))),rfl,rfl⟩))) (λ f hf=>(hx0.fz f hf).imp_right λ h=>h.imp_right λ h=>.inl (List.mem_append_right _ h)) hx0.ok.z.fit) (by have h1:=congrArg List.length h39.1;simp only[List.length_map,fI] at h1;omega) (by omega) (by omega) (hx0.same h39.1)))) (h:=λ x44=>?_)));(first|refine dE ?_|(refine F3 ?_));refine eQ ?_;refine eC ?_)
      all_goals
       refine bE (λ c46=>?_) (λ c46=>?_)
       · exact nv c46
       · all_goals
          refine Rg (λ w h=>(show SF _ _ ((x15,Bh a l c y.pos)::qJ ba bm y.S) _ y.G (rL y.S) w from h.sub (by exact List.Sublist.refl _) (aY.iP λ f hf=>by first|exact hf|exact List.mem_append_right _ hf) (by repeat (first|exact List.Sublist.refl _|apply List.Sublist.cons)))) ?_
         all_goals (refine yV ?_;refine aC (cT 0 0 (hs:=(x15,Bh a l c y.pos)::qJ ba bm y.S) (os:=rL y.S) (A0:=[(pa,sP ps),(a,aG l)]) (F1:=λ _=>y.G) (hA:=aX.cons (.inr (.inl hP)) (aX.cons (.inr (.inl hT)) aX.nil)) (hF1:=λ _ _ f hf=>.inr hf) (hc:=λ w hs=>Zz (hx0.pr.trans hps) h0 h1 hpc hl hs)) (λ x49 h49=>?_);refine iZ ?_;refine J2 ?_;refine vX ?_)
         all_goals
          refine bE (λ c51=>?_) (λ c51=>?_)
          · all_goals (refine bM rfl ?_;refine aV ?_;refine dX [(0,[]),(2,[]),(3,[]),(4,[]),(5,[]),(1,[5]),(6,[]),(7,[])] ?_;refine aP ?_;refine J9 ?_;refine bT (i:=5) (hq:=(aN (k:=3) rf cL dJ (by simp only[List.drop_zero,List.take_succ_cons,List.take_zero];exact rfl) rfl)) (h:=?_);refine bC (i:=1) (hq:=(cMO (hs:=[(ba,eX y.S.a)]) (os:=fU y.S.a) (A0:=aM y.S.a.L) (hA:=aX.of λ f hf=>(hx0.fa f hf).imp_right λ h=>h.imp_right .inl) (hc:=λ w hs=>F4 (L:=y.S.a.L) (cs:=y.S.a.cs) hs hx0.ok.a.fit (by omega) (by omega)))) (hfire:=(λ _=>by(refine gA ?_;refine aW.cons (by(exact iR (hq:=aN (k:=3) rf cL dJ (by simp only[List.drop_zero,List.take_succ_cons,List.take_zero];exact rfl) rfl))) ?_;exact aW.nil))) (h:=λ x65 h65=>?_);refine cN (i:=6) (hq:=(cV (hc:=λ w hw=>Ll (L1:=x65.1) (L2:=y.S.z.L) (cs1:=y.S.a.cs) (cs2:=y.S.z.cs) (hw.K0 (.inr (.inr (.inr ⟨_,.head _,rfl,rfl⟩))) (.inr (.inr (.inr ⟨_,.tail _ (.head _),rfl,rfl⟩))) (λ f hf=>.inr (.inr (.inl (List.mem_append_left _ hf)))) h65.2) (hw.K0 (.inr (.inr (.inr ⟨_,.tail _ (.tail _ (.tail _ (.tail _ (.head _)))),rfl,rfl⟩))) (.inr (.inr (.inr ⟨_,.tail _ (.tail _ (.tail _ (.tail _ (.tail _ (.head _))))),rfl,rfl⟩))) (λ f hf=>(hx0.fz f hf).imp_right λ h=>h.imp_right λ h=>.inl (List.mem_append_right _ h)) hx0.ok.z.fit) (by have h1:=congrArg List.length h65.1;simp only[List.length_map,fI] at h1;omega) (by omega) (by omega) (hx0.same h65.1)))) (h:=λ x70=>?_);refine J7 ?_)
            all_goals
             refine aT Tryz.results43 (λ w hw=>?_)
             refine⟨y,rfl,⟨hx0,?_⟩,hw.ret (by repeat (first|exact List.Sublist.refl _|apply List.Sublist.cons)) (aY.iP λ f hf=>List.mem_append_right _ hf) (by repeat (first|exact List.Sublist.refl _|apply List.Sublist.cons))⟩
             first
              | (exact .inl (by have:=hx0.hi;omega))
              | exact .inr (h49.elim (λ h=>h.2) (λ⟨k,h,_⟩=>absurd c51 (by omega)))
          · all_goals
             obtain⟨kk,ek,hk1,hk2⟩:∃k:Nat,x49.1=(k:Int)/\k<y.S.l.length/\Q1 y.S.l k=false:=by
              rcases h49 with h|h
              · exfalso;omega
              · exact h
            all_goals (refine yV ?_;refine aB (A2 (cs:=sP ps) (k:=kk) rf (congrArg (Value.int IntKind.i64) ek) hX dJ (.bN (yT.oD hP)) (by omega) (by rw[iW];omega)) rfl ?_;refine aE ?_;refine aB (Hz (cs:=sP ps) (q:=2*kk) (v:=.pointer (some ⟨(ps.getD kk (0,0)).1,0,none⟩)) rf iA (.bN (yT.oD hP)) (aAU (by omega))) rfl ?_;refine aC (cT 1 0 (hs:=qJ ba bm y.S) (os:=rL y.S) (A0:=aM y.S.a.L++y.S.B) (F1:=λ x:LS×Cd×Fr×AS=>x.2.2.1++y.G) (hA:=aX.of λ f hf=>(List.mem_append.1 hf).elim (λ h=>(hx0.fa f h).imp_right λ h=>h.imp_right .inl) λ h=>.inr ((hx0.fB f h).imp_right .inl)) (hF1:=λ _ _ f hf=>.inr hf) (hc:=λ w hs=>zf (k:=kk) (hx0.pr.trans hps) hx0.ok hk1 hk2 (by omega) (by omega) (λ f hf=>List.mem_append_left _ hf) (λ f hf=>List.mem_append_right _ hf) hs)) (λ x57 h57=>?_);refine aH ?_;refine Me ?_;refine aB (A2 (cs:=sP ps) (k:=kk) rf (congrArg (Value.int IntKind.i64) ek) hX dJ (.bN (yT.oD hP)) (by omega) (by rw[iW];omega)) rfl ?_;refine aE ?_;refine aB (Hz (cs:=sP ps) (q:=2*kk+1) (v:=.pointer (some ⟨(ps.getD kk (0,0)).2,0,none⟩)) rf iA (.bN (yT.oD hP)) (V5 (by omega))) rfl ?_;refine aC (cT 1 0 (hs:=qJ ba bm x57.1) (os:=rL x57.1) (A0:=aM y.S.z.L) (F1:=λ q:LS×List aZ=>aM q.2++(x57.2.2.1++y.G)) (hA:=aX.of λ f hf=>(hx0.fz f hf).imp_right λ h=>h.imp_right λ h=>.inl (List.mem_append_right _ h)) (hF1:=λ _ _ f hf=>.inr hf) (hc:=λ w hs=>xc (k:=kk) (hx0.pr.trans hps) hx0.ok h57 (by omega) (by omega) (λ f hf=>hf) hs)) (λ x63 h63=>?_);refine aH ?_;refine eP ?_;refine yH ?_)
            all_goals
             refine iJ (⟨y.i+1,x63.1,x49.2,aM x63.2++(x57.2.2.1++y.G)⟩) ?_ (hw1:=λ w hw=>hw)
             · exact hx0.step (by omega) h63.1 h63.2
  · refine bM rfl ?_;refine aV ?_;refine dX [(0,[]),(2,[]),(3,[]),(4,[]),(5,[]),(1,[5]),(6,[]),(7,[])] ?_;refine aP ?_;refine J9 ?_;refine bT (i:=5) (hq:=(aN (k:=3) rf cL dJ (by simp only[List.drop_zero,List.take_succ_cons,List.take_zero];exact rfl) rfl)) (h:=?_);refine bC (i:=1) (hq:=(cMO (hs:=[(ba,eX y.S.a)]) (os:=fU y.S.a) (A0:=aM y.S.a.L) (hA:=aX.of λ f hf=>(hx0.fa f hf).imp_right λ h=>h.imp_right .inl) (hc:=λ w hs=>F4 (L:=y.S.a.L) (cs:=y.S.a.cs) hs hx0.ok.a.fit (by omega) (by omega)))) (hfire:=(λ _=>by(refine gA ?_;refine aW.cons (by(exact iR (hq:=aN (k:=3) rf cL dJ (by simp only[List.drop_zero,List.take_succ_cons,List.take_zero];exact rfl) rfl))) ?_;exact aW.nil))) (h:=λ x65 h65=>?_);refine cN (i:=6) (hq:=(cV (hc:=λ w hw=>Ll (L1:=x65.1) (L2:=y.S.z.L) (cs1:=y.S.a.cs) (cs2:=y.S.z.cs) (hw.K0 (.inr (.inr (.inr ⟨_,.head _,rfl,rfl⟩))) (.inr (.inr (.inr ⟨_,.tail _ (.head _),rfl,rfl⟩))) (λ f hf=>.inr (.inr (.inl (List.mem_append_left _ hf)))) h65.2) (hw.K0 (.inr (.inr (.inr ⟨_,.tail _ (.tail _ (.tail _ (.tail _ (.head _)))),rfl,rfl⟩))) (.inr (.inr (.inr ⟨_,.tail _ (.tail _ (.tail _ (.tail _ (.tail _ (.head _))))),rfl,rfl⟩))) (λ f hf=>(hx0.fz f hf).imp_right λ h=>h.imp_right λ h=>.inl (List.mem_append_right _ h)) hx0.ok.z.fit) (by have h1:=congrArg List.length h65.1;simp only[List.length_map,fI] at h1;omega) (by omega) (by omega) (hx0.same h65.1)))) (h:=λ x70=>?_);refine J7 ?_
    refine aT Tryz.results43 (λ w hw=>?_)
    refine⟨y,rfl,⟨hx0,?_⟩,hw.ret (by repeat (first|exact List.Sublist.refl _|apply List.Sublist.cons)) (aY.iP λ f hf=>List.mem_append_right _ hf) (by repeat (first|exact List.Sublist.refl _|apply List.Sublist.cons))⟩
    first
     | (exact .inl (by have:=hx0.hi;omega))
end

end Go.Proofs.YtbajmaoegmbfgaaGreat
