/- Pairs: the next one to step; the steps of pair number k. -/
import Derived.Test.YtbajmaoegmbfgaaGreatGLk1
import Derived.Test.YtbajmaoegmbfgaaGreatWo7
import Derived.Test.YtbajmaoegmbfgaaGreatGAr8

set_option linter.unusedSimpArgs false
set_option linter.unusedVariables false
namespace Go.Proofs.YtbajmaoegmbfgaaGreat
section
open Go Go.RowKit Go.Ct
def Di(ps:List (Nat×Nat)):List Value:=ps.flatMap λ q=>[.pointer (some ⟨q.1,0,none⟩),.pointer (some ⟨q.2,0,none⟩)]
theorem kM:∀ps:List (Nat×Nat),(Di ps).length=ps.length*2
 | []=>rfl
 | t::ps=>by
  have:=kM ps
  simp only[Di,List.flatMap_cons,List.length_append,List.length_cons,List.length_nil] at this ⊢
  omega
theorem Qb{ps:List (Nat×Nat)}{j:Nat}(h:j<ps.length):((Di ps).drop (2*j)).take 2=[.pointer (some ⟨(ps.getD j (0,0)).1,0,none⟩),.pointer (some ⟨(ps.getD j (0,0)).2,0,none⟩)]:=by
 induction ps generalizing j with
 | nil=>simp at h
 | cons t ps ih =>
  cases j with
  | zero=>simp[Di]
  | succ j =>
   have:=ih (j:=j) (by simpa using h)
   rw[show 2*(j+1)=2*j+1+1 by omega]
   simpa[Di] using this
theorem aAW{ps:List (Nat×Nat)}{j:Nat}(h:j<ps.length):(Di ps)[2*j]?=some (.pointer (some ⟨(ps.getD j (0,0)).1,0,none⟩)):=by
 have e:=congrArg (·[0]?) (Qb h)
 simpa using e
theorem Uo{ps:List (Nat×Nat)}{j:Nat}(h:j<ps.length):(Di ps)[2*j+1]?=some (.pointer (some ⟨(ps.getD j (0,0)).2,0,none⟩)):=by
 have e:=congrArg (·[1]?) (Qb h)
 simpa using e
def yX(l:List PX):List (Nat×Nat):=l.map λ p=>(p.tb,p.e.b)
def W7(l:List PX)(k:Nat):Bool:=(l.map λ p=>p.e.dn).getD k true
def Ye(l:List PX):List (Tr×Nat):=l.map λ p=>(p.e.R,p.n)
theorem Gr{l:List PX}{k:Nat}(h:k<l.length):∃l1 p l2,l=l1++p::l2/\l1.length=k:=by
 refine⟨l.take k,l[k],l.drop (k+1),?_,by simp;omega⟩
 rw[<- List.drop_eq_getElem_cons h,List.take_append_drop]
theorem D5{l1 l2:List PX}{p:PX}:(yX (l1++p::l2)).getD l1.length (0,0)=(p.tb,p.e.b):=by simp[yX]
theorem Vl{l1 l2:List PX}{p:PX}:W7 (l1++p::l2) l1.length=p.e.dn:=by simp[W7]
theorem Dw(l:List PX):(yX l).length=l.length:=by simp[yX]
theorem u5{α:Type}(x y t e:α)(t1 t2 e1 e2:List α):(x::y::((t1++t::t2)++(e1++e::e2))).Perm ([t,e,y]++(x::((t1++t2)++(e1++e2)))):=by
 have h1:((t1++t::t2)++(e1++e::e2)).Perm (t::e::((t1++t2)++(e1++e2))):=by
  refine((List.perm_middle (a:=t) (l₁:=t1) (l₂:=t2)).append_right _).trans ?_
  refine List.Perm.cons t ?_
  exact((List.perm_middle (a:=e) (l₁:=e1) (l₂:=e2)).append_left (t1++t2)).trans List.perm_middle
 refine((h1.cons y).cons x).trans ?_
 refine(((List.Perm.swap t y _).trans ((List.Perm.swap e y _).cons t)).cons x).trans ?_
 refine(List.Perm.swap t x _).trans (List.Perm.cons t ?_)
 exact(List.Perm.swap e x _).trans ((List.Perm.swap y x _).cons e)
section
variable{ba bm Bz C:Nat}{D:List Nat}{A:Fr}{w:World}{S:LS}
theorem Zl{k:Nat}(hS:D8 ba Bz C S)(hk:k<S.l.length)(hs:SF w D (qP ba bm S) A [] (tC S) w) :
  Calls Tryz.prog 93 #[.agg ⟨[.pointer (some ⟨((yX S.l).getD k (0,0)).1,0,none⟩),.pointer (some ⟨((yX S.l).getD k (0,0)).2,0,none⟩)]⟩] w λ e w'=>∃q:Unit,e=.returned (.bool true)/\True/\SF w D (qP ba bm S) [] [] (tC S) w':=by
 obtain⟨a,z,l,B⟩:=S
 obtain⟨l1,p,l2,rfl,rfl⟩:=Gr hk
 simp only[D5]
 have hp:p∈l1++p::l2:=List.mem_append_right _ (List.mem_cons_self ..)
 have hpk:=hS.p p hp
 obtain⟨hk1,hk2,hk3⟩:=(hS.rp p hp).kind hpk.rest
 rw[hpk.live] at hk1
 have pH:(qP ba bm ⟨a,z,l1++p::l2,B⟩).Perm (((p.tb,tO ba p.c p.n)::xH p.e.k p.e.b bm (XS.wm p.e.x z) p.e.dn p.e.rs)++((ba,eN a)::((ki ba l1++ki ba l2)++(qD bm (l1.map PX.e)++qD bm (l2.map PX.e))))):=by
  dsimp only[qP]
  rw[Lo,jf]
  exact u5 _ _ _ _ _ _ _ _
 have pO:=U5 a z B l1 l2 p
 have key:=sN (P:=Tryz.prog) (f:=93) (vs := #[.agg ⟨[.pointer (some ⟨p.tb,0,none⟩),.pointer (some ⟨p.e.b,0,none⟩)]⟩]) (V:=λ _:Unit=>.bool true) (φ:=λ _=>True) (hs:=(p.tb,tO ba p.c p.n)::xH p.e.k p.e.b bm (XS.wm p.e.x z) p.e.dn p.e.rs) (os:=xW (XS.wm p.e.x z)) (hs':=λ _=>(p.tb,tO ba p.c p.n)::xH p.e.k p.e.b bm (XS.wm p.e.x z) p.e.dn p.e.rs) (os':=λ _=>xW (XS.wm p.e.x z)) (Fc:=λ _=>[]) (A0:=[]) hs pH pO bA.nil (λ h=>by
  rcases hpk.i.Qp with⟨hd,hR⟩|⟨hd,hR⟩
  ·rw[hd] at h hk1 ⊢
   exact Wb (by simpa using hk1.2 rfl) (hk2 _ hR) hpk.gl h
  ·rw[hd] at h hk1 ⊢
   exact V4 (a:=p.e.x.nx) (by simpa using λ e=>by have:=hk1.1 e;cases this) (hk3 _ hR) rfl hpk.gl h)
 refine key.mono λ e w' ⟨q,e1,h1,hw⟩=>⟨q,e1,h1,?_⟩
 rw[List.append_nil] at hw
 exact hw.j8.perm pH pO
theorem Fu{k:Nat}(hk:k<S.l.length)(hs:SF w D (qP ba bm S) A [] (tC S) w) :
  Calls Tryz.prog 69 #[.pointer (some ⟨((yX S.l).getD k (0,0)).2,0,none⟩)] w λ e w'=>∃q:Unit,e=.returned (.bool (W7 S.l k))/\True/\SF w D (qP ba bm S) [] [] (tC S) w':=by
 obtain⟨a,z,l,B⟩:=S
 obtain⟨l1,p,l2,rfl,rfl⟩:=Gr hk
 simp only[D5,Vl]
 have pH:=gk (ba:=ba) (bm:=bm) a z B l1 l2 p
 have pO:=U5 a z B l1 l2 p
 have key:=sN (P:=Tryz.prog) (f:=69) (vs := #[.pointer (some ⟨p.e.b,0,none⟩)]) (V:=λ _:Unit=>.bool p.e.dn) (φ:=λ _=>True) (hs:=xH p.e.k p.e.b bm (XS.wm p.e.x z) p.e.dn p.e.rs) (os:=xW (XS.wm p.e.x z)) (hs':=λ _=>xH p.e.k p.e.b bm (XS.wm p.e.x z) p.e.dn p.e.rs) (os':=λ _=>xW (XS.wm p.e.x z)) (Fc:=λ _=>[]) (A0:=[]) hs pH pO bA.nil (λ h=>Fw h)
 refine key.mono λ e w' ⟨q,e1,h1,hw⟩=>⟨q,e1,h1,?_⟩
 rw[List.append_nil] at hw
 exact hw.j8.perm pH pO
def Mid(ba:Nat)(S:LS)(k:Nat)(y:LS×Cd×Fr×AS):Prop:=∃l1 p l2,S.l=l1++p::l2/\l1.length=k/\p.e.dn=false/\nM ba (A1 (p.e.R,S.z.mm)) S.a S.B y.2/\y.1=⟨y.2.2.2,S.z,l1++{p with c:=y.2.1,n:=p.n+1}::l2,S.B⟩
theorem v5{k:Nat}(hS:D8 ba Bz C S)(hk:k<S.l.length)(hd:W7 S.l k=false)(hB:Bz<=100000000000)(hC:C<900000000)(hA1:∀f∈aL S.a.L,f∈A)(hA2:∀f∈S.B,f∈A)(hs:SF w D (qP ba bm S) A [] (tC S) w) :
  Calls Tryz.prog 37 #[.pointer (some ⟨((yX S.l).getD k (0,0)).1,0,none⟩)] w λ e w'=>∃y:LS×Cd×Fr×AS,e=.returned (.tuple #[])/\Mid ba S k y/\SF w D (qP ba bm y.1) [] y.2.2.1 (tC y.1) w':=by
 obtain⟨a,z,l,B⟩:=S
 obtain⟨l1,p,l2,rfl,rfl⟩:=Gr hk
 simp only[Vl] at hd
 simp only[D5]
 exact(aAG hS hd hB hC hA1 hA2 hs).mono λ e w' ⟨y,e1,hy,hw⟩=>⟨(⟨y.2.2,z,l1++{p with c:=y.1,n:=p.n+1}::l2,B⟩,y),e1,⟨l1,p,l2,rfl,rfl,hd,hy,rfl⟩,hw⟩
structure dq(S S':LS)(F:Fr)(N:List aU):Prop where
 ext:S'.z.L=S.z.L++N
 B:S'.B=F++S.B
 pr:yX S'.l=yX S.l
 fam:∀f∈aL S'.a.L,f.2=[]∨f∈aL S.a.L∨f∈F
 run:∀i p0,Vv i p0 (S.z.mm,Ye S.l)->Vv (i+1) p0 (S'.z.mm,Ye S'.l)
 ks:S'.l.map (λ p=>(p.e.k,p.m))=S.l.map λ p=>(p.e.k,p.m)
theorem uh{k:Nat}{y:LS×Cd×Fr×AS}(hS:D8 ba Bz C S)(hy:Mid ba S k y)(hB:Bz<=100000000000)(hC:C<900000000)(hA:∀f∈aL S.z.L,f∈A)(hs:SF w D (qP ba bm y.1) A [] (tC y.1) w) :
  Calls Tryz.prog 68 #[.pointer (some ⟨((yX S.l).getD k (0,0)).2,0,none⟩)] w λ e w'=>∃q:LS×List aU,e=.returned (.tuple #[])/\(D8 ba (Bz+128) (C+1) q.1/\dq S q.1 y.2.2.1 q.2)/\SF w D (qP ba bm q.1) [] (aL q.2) (tC q.1) w':=by
 obtain⟨a,z,l,B⟩:=S
 obtain⟨Y,c',F',a'⟩:=y
 obtain⟨l1,p,l2,e1,e2,hd,ho,e3⟩:=hy
 simp only at e1 e3 ho
 subst e1 e2 e3
 simp only[D5]
 have hpk:=hS.p p (List.mem_append_right _ (List.mem_cons_self ..))
 refine(aAS hS hd hB hC ho hA hs).mono λ e w' ⟨q,g1,⟨g2,g3,g4,g5,⟨p',g6,g7,g8,g9,g10,g11,g12⟩,g13⟩,hw⟩=>⟨q,g1,⟨g2,⟨g5,g4,?_,?_,λ i p0 h=>?_,?_⟩⟩,hw⟩
 ·rw[g6];simp[yX,g7,g8]
 ·rw[g3];exact ho.2.2.fam
 ·rw[g6,g13]
  have h2:Ye (l1++p'::l2)=Ye l1++((A1 (p.e.R,z.mm)).1,p.n+1)::Ye l2:=by simp[Ye,g9,g10]
  rw[h2]
  have h3:Ye (l1++p::l2)=Ye l1++(p.e.R,p.n)::Ye l2:=by simp[Ye]
  rw[h3] at h
  exact .step h (by rw[hpk.live,hd];rfl)
 ·rw[g6];simp[g11,g12]
end
section
variable{ba bm Bz C tp:Nat}{D:List Nat}{w:World}{S:LS}{l:List Int}{a pa:Option Addr}{c pc pos:Nat}
theorem qg(h0:0<S.l.length)(h1:S.l.length<=1000)(hpc:S.l.length<=pc)(hl:l.length<=17592186043904)(hs:SF w D ((tp,Dh a l c pos)::qP ba bm S) [(pa,Di (yX S.l)),(a,aG l)] [] (tC S) w) :
  Calls Tryz.prog 94 #[.slice pa (yX S.l).length pc,.pointer (some ⟨tp,0,none⟩)] w λ e w'=>∃q:Int×Nat,e=.returned (.int .i64 q.1)/\((q.1 = -1/\∀k,k<S.l.length->W7 S.l k=true)∨∃k:Nat,q.1=(k:Int)/\k<S.l.length/\W7 S.l k=false)/\SF w D ((tp,Dh a l c q.2)::qP ba bm S) [] [] (tC S) w':=by
 have hpl:=Dw S.l
 refine enter Tryz.func94 Tryz.ntmps94 rfl rfl hs ?_
 simp only[bW]
 refine cP ?_;refine lA ?_;refine aC (uK (hc:=λ w1 hw=>jb (hw.tape cN fin hl))) (λ x8 h8=>?_);refine aH ?_
 refine bB (λ c8=>?_) (λ c8=>?_)
 ·refine iU ?_;refine dE ?_;refine aC (uK (hc:=λ w1 hw=>eJ (yX S.l).length (hw.tape cN fin hl) (by omega) (by omega))) (λ x12 h12=>?_);refine xN ?_;refine aB (vE (cs:=Di (yX S.l)) (k:=x12) rf rf gG dV fin (by omega) (by rw[kM];omega)) rfl ?_;refine aE ?_;refine aB (G9 (cs:=Di (yX S.l)) (q:=2*x12+1) (v:=.pointer (some ⟨((yX S.l).getD x12 (0,0)).2,0,none⟩)) rf gM fin (Uo (by omega))) rfl ?_;refine aC (cT 1 0 (hs:=qP ba bm S) (os:=tC S) (A0:=[]) (F1:=λ _=>[]) (hA:=bA.nil) (hF1:=λ _ _ f hf=>(List.not_mem_nil hf).elim) (hc:=λ w hs=>Fu (k:=x12) (by omega) hs)) (λ x18 h18=>?_);refine nY ?_
  refine bB (λ c19=>?_) (λ c19=>?_)
  ·refine J2 ?_;refine J1 ?_
   refine aQ Tryz.results94 (λ w hw=>?_)
   first
   | exact⟨(((x12:Nat):Int),kG l pos),rfl,.inr ⟨x12,rfl,by omega,by simpa using c19⟩,hw.aS (hH:=List.Sublist.refl _) (hO:=List.Sublist.refl _)⟩
   | exact⟨(-1,kG l pos),rfl,.inl ⟨rfl,λ j hj=>hx.2 j (by omega)⟩,hw.aS (hH:=List.Sublist.refl _) (hO:=List.Sublist.refl _)⟩
   | exact⟨(-1,pos),rfl,.inl ⟨rfl,λ j hj=>hx.2 j (by omega)⟩,hw.aS (hH:=List.Sublist.refl _) (hO:=List.Sublist.refl _)⟩
  ·refine kC ?_;refine J2 ?_;refine dE ?_;refine C9 ?_;refine cW ?_
   refine fL [4,6,23,24,25,26,27,28,29,30,31,32,33,34] (λ k=>[(23,.int .i64 ((k:Nat):Int))]) (λ k=>k<=S.l.length/\∀j,j<k->W7 S.l j=true) (λ k=>S.l.length-k) (0) (⟨Nat.zero_le _,λ j hj=>absurd hj (Nat.not_lt_zero j)⟩) ?_ (λ k f hx=>?_)
   ·repeat (first|exact bJ _|refine bD (by exact rfl) ?_)
   dsimp only[gU,List.map,List.cons_append,List.nil_append]
   refine J0 ?_;refine xU ?_;refine aT ?_
   refine bB (λ c24=>?_) (λ c24=>?_)
   ·refine pU ?_;refine J2 ?_;refine xN ?_;refine aB (vE (cs:=Di (yX S.l)) (k:=k) rf rf gG dV fin (by omega) (by rw[kM];omega)) rfl ?_;refine aE ?_;refine aB (G9 (cs:=Di (yX S.l)) (q:=2*k+1) (v:=.pointer (some ⟨((yX S.l).getD k (0,0)).2,0,none⟩)) rf gM fin (Uo (by omega))) rfl ?_;refine aC (cT 1 0 (hs:=qP ba bm S) (os:=tC S) (A0:=[]) (F1:=λ _=>[]) (hA:=bA.nil) (hF1:=λ _ _ f hf=>(List.not_mem_nil hf).elim) (hc:=λ w hs=>Fu (k:=k) (by omega) hs)) (λ x31 h31=>?_);refine nY ?_
    refine bB (λ c32=>?_) (λ c32=>?_)
    ·refine J2 ?_;refine J1 ?_
     refine aQ Tryz.results94 (λ w hw=>?_)
     first
     | exact⟨(((x12:Nat):Int),kG l pos),rfl,.inr ⟨x12,rfl,by omega,by simpa using c19⟩,hw.aS (hH:=List.Sublist.refl _) (hO:=List.Sublist.refl _)⟩
     | exact⟨(((k:Nat):Int),kG l pos),rfl,.inr ⟨k,rfl,by omega,by simpa using c32⟩,hw.aS (hH:=List.Sublist.refl _) (hO:=List.Sublist.refl _)⟩
     | exact⟨(((k:Nat):Int),pos),rfl,.inr ⟨k,rfl,by omega,by simpa using c32⟩,hw.aS (hH:=List.Sublist.refl _) (hO:=List.Sublist.refl _)⟩
     | exact⟨(-1,kG l pos),rfl,.inl ⟨rfl,λ j hj=>hx.2 j (by omega)⟩,hw.aS (hH:=List.Sublist.refl _) (hO:=List.Sublist.refl _)⟩
     | exact⟨(-1,pos),rfl,.inl ⟨rfl,λ j hj=>hx.2 j (by omega)⟩,hw.aS (hH:=List.Sublist.refl _) (hO:=List.Sublist.refl _)⟩
    ·refine nR ?_;refine Xl ?_;refine C9 ?_
     refine eA (k+1) ?_ ?_ ?_
     ·omega
     ·repeat' (first|exact bJ _|refine bD ?_ ?_)
      exact rfl
     ·exact⟨by omega,λ j hj=>by rcases Nat.lt_succ_iff_lt_or_eq.1 hj with h|rfl;exact hx.2 j h;simpa using c32⟩
   ·refine bN rfl ?_;refine cP ?_
    refine aQ Tryz.results94 (λ w hw=>?_)
    first
    | exact⟨(((x12:Nat):Int),kG l pos),rfl,.inr ⟨x12,rfl,by omega,by simpa using c19⟩,hw.aS (hH:=List.Sublist.refl _) (hO:=List.Sublist.refl _)⟩
    | exact⟨(-1,kG l pos),rfl,.inl ⟨rfl,λ j hj=>hx.2 j (by omega)⟩,hw.aS (hH:=List.Sublist.refl _) (hO:=List.Sublist.refl _)⟩
    | exact⟨(-1,pos),rfl,.inl ⟨rfl,λ j hj=>hx.2 j (by omega)⟩,hw.aS (hH:=List.Sublist.refl _) (hO:=List.Sublist.refl _)⟩
 ·refine kC ?_;refine J2 ?_;refine dE ?_;refine C9 ?_;refine cW ?_
  refine fL [4,6,23,24,25,26,27,28,29,30,31,32,33,34] (λ k=>[(23,.int .i64 ((k:Nat):Int))]) (λ k=>k<=S.l.length/\∀j,j<k->W7 S.l j=true) (λ k=>S.l.length-k) (0) (⟨Nat.zero_le _,λ j hj=>absurd hj (Nat.not_lt_zero j)⟩) ?_ (λ k f hx=>?_)
  ·repeat (first|exact bJ _|refine bD (by exact rfl) ?_)
  dsimp only[gU,List.map,List.cons_append,List.nil_append]
  refine J0 ?_;refine xU ?_;refine aT ?_
  refine bB (λ c24=>?_) (λ c24=>?_)
  ·refine pU ?_;refine J2 ?_;refine xN ?_;refine aB (vE (cs:=Di (yX S.l)) (k:=k) rf rf gG dV fin (by omega) (by rw[kM];omega)) rfl ?_;refine aE ?_;refine aB (G9 (cs:=Di (yX S.l)) (q:=2*k+1) (v:=.pointer (some ⟨((yX S.l).getD k (0,0)).2,0,none⟩)) rf gM fin (Uo (by omega))) rfl ?_;refine aC (cT 1 0 (hs:=qP ba bm S) (os:=tC S) (A0:=[]) (F1:=λ _=>[]) (hA:=bA.nil) (hF1:=λ _ _ f hf=>(List.not_mem_nil hf).elim) (hc:=λ w hs=>Fu (k:=k) (by omega) hs)) (λ x31 h31=>?_);refine nY ?_
   refine bB (λ c32=>?_) (λ c32=>?_)
   ·refine J2 ?_;refine J1 ?_
    refine aQ Tryz.results94 (λ w hw=>?_)
    first
    | exact⟨(((k:Nat):Int),kG l pos),rfl,.inr ⟨k,rfl,by omega,by simpa using c32⟩,hw.aS (hH:=List.Sublist.refl _) (hO:=List.Sublist.refl _)⟩
    | exact⟨(((k:Nat):Int),pos),rfl,.inr ⟨k,rfl,by omega,by simpa using c32⟩,hw.aS (hH:=List.Sublist.refl _) (hO:=List.Sublist.refl _)⟩
    | exact⟨(-1,kG l pos),rfl,.inl ⟨rfl,λ j hj=>hx.2 j (by omega)⟩,hw.aS (hH:=List.Sublist.refl _) (hO:=List.Sublist.refl _)⟩
    | exact⟨(-1,pos),rfl,.inl ⟨rfl,λ j hj=>hx.2 j (by omega)⟩,hw.aS (hH:=List.Sublist.refl _) (hO:=List.Sublist.refl _)⟩
   ·refine nR ?_;refine Xl ?_;refine C9 ?_
    refine eA (k+1) ?_ ?_ ?_
    ·omega
    ·repeat' (first|exact bJ _|refine bD ?_ ?_)
     exact rfl
    ·exact⟨by omega,λ j hj=>by rcases Nat.lt_succ_iff_lt_or_eq.1 hj with h|rfl;exact hx.2 j h;simpa using c32⟩
  ·refine bN rfl ?_;refine cP ?_
   refine aQ Tryz.results94 (λ w hw=>?_)
   first
   | exact⟨(-1,kG l pos),rfl,.inl ⟨rfl,λ j hj=>hx.2 j (by omega)⟩,hw.aS (hH:=List.Sublist.refl _) (hO:=List.Sublist.refl _)⟩
   | exact⟨(-1,pos),rfl,.inl ⟨rfl,λ j hj=>hx.2 j (by omega)⟩,hw.aS (hH:=List.Sublist.refl _) (hO:=List.Sublist.refl _)⟩
end
end

/- Pairs: Run. -/
section
open Go Go.RowKit Go.Ct
section
variable{ba bm Bz C:Nat}{D:List Nat}{A:Fr}{w:World}{S:LS}{ps:List (Nat×Nat)}
theorem Xo{k:Nat}(hps:yX S.l=ps)(hS:D8 ba Bz C S)(hk:k<ps.length)(hs:SF w D (qP ba bm S) A [] (tC S) w) :
  Calls Tryz.prog 93 #[.agg ⟨[.pointer (some ⟨(ps.getD k (0,0)).1,0,none⟩),.pointer (some ⟨(ps.getD k (0,0)).2,0,none⟩)]⟩] w λ e w'=>∃q:Unit,e=.returned (.bool true)/\True/\SF w D (qP ba bm S) [] [] (tC S) w':=by
 subst hps
 exact Zl hS (by rw[Dw] at hk;exact hk) hs
theorem xy{k:Nat}(hps:yX S.l=ps)(hS:D8 ba Bz C S)(hk:k<S.l.length)(hd:W7 S.l k=false)(hB:Bz<=100000000000)(hC:C<900000000)(hA1:∀f∈aL S.a.L,f∈A)(hA2:∀f∈S.B,f∈A)(hs:SF w D (qP ba bm S) A [] (tC S) w) :
  Calls Tryz.prog 37 #[.pointer (some ⟨(ps.getD k (0,0)).1,0,none⟩)] w λ e w'=>∃y:LS×Cd×Fr×AS,e=.returned (.tuple #[])/\Mid ba S k y/\SF w D (qP ba bm y.1) [] y.2.2.1 (tC y.1) w':=by
 subst hps
 exact v5 hS hk hd hB hC hA1 hA2 hs
theorem vp{k:Nat}{y:LS×Cd×Fr×AS}(hps:yX S.l=ps)(hS:D8 ba Bz C S)(hy:Mid ba S k y)(hB:Bz<=100000000000)(hC:C<900000000)(hA:∀f∈aL S.z.L,f∈A)(hs:SF w D (qP ba bm y.1) A [] (tC y.1) w) :
  Calls Tryz.prog 68 #[.pointer (some ⟨(ps.getD k (0,0)).2,0,none⟩)] w λ e w'=>∃q:LS×List aU,e=.returned (.tuple #[])/\(D8 ba (Bz+128) (C+1) q.1/\dq S q.1 y.2.2.1 q.2)/\SF w D (qP ba bm q.1) [] (aL q.2) (tC q.1) w':=by
 subst hps
 exact uh hS hy hB hC hA hs
theorem a9{tp:Nat}{l:List Int}{a pa:Option Addr}{c pc pos:Nat}(hps:yX S.l=ps)(h0:0<ps.length)(h1:ps.length<=1000)(hpc:ps.length<=pc)(hl:l.length<=17592186043904)(hs:SF w D ((tp,Dh a l c pos)::qP ba bm S) [(pa,Di ps),(a,aG l)] [] (tC S) w) :
  Calls Tryz.prog 94 #[.slice pa ps.length pc,.pointer (some ⟨tp,0,none⟩)] w λ e w'=>∃q:Int×Nat,e=.returned (.int .i64 q.1)/\((q.1 = -1/\∀k,k<S.l.length->W7 S.l k=true)∨∃k:Nat,q.1=(k:Int)/\k<S.l.length/\W7 S.l k=false)/\SF w D ((tp,Dh a l c q.2)::qP ba bm S) [] [] (tC S) w':=by
 subst hps
 have hpl:=Dw S.l
 exact qg (by omega) (by omega) (by omega) hl hs
end
structure LY where
 i:Nat
 S:LS
 pos:Nat
 G:Fr
structure oo(ba B0 C0:Nat)(A:Fr)(S:LS)(y:LY):Prop where
 hi:y.i<=400
 ok:D8 ba (B0+128*y.i) (C0+y.i) y.S
 fa:∀f∈aL y.S.a.L,f.2=[]∨f∈A∨f∈y.G
 fz:∀f∈aL y.S.z.L,f.2=[]∨f∈A∨f∈y.G
 fB:∀f∈y.S.B,f∈A∨f∈y.G
 run:Vv y.i (S.z.mm,Ye S.l) (y.S.z.mm,Ye y.S.l)
 pr:yX y.S.l=yX S.l
 ks:y.S.l.map (λ p=>(p.e.k,p.m))=S.l.map λ p=>(p.e.k,p.m)
theorem oo.step{ba B0 C0:Nat}{A:Fr}{S:LS}{y:LY}{q:LS×List aU}{F:Fr}{pos:Nat}(h:oo ba B0 C0 A S y)(hi:y.i<400)(h1:D8 ba (B0+128*y.i+128) (C0+y.i+1) q.1)(h2:dq y.S q.1 F q.2):oo ba B0 C0 A S ⟨y.i+1,q.1,pos,aL q.2++(F++y.G)⟩:=by
 refine⟨hi,?_,λ f hf=>?_,λ f hf=>?_,λ f hf=>?_,h2.run _ _ h.run,h2.pr.trans h.pr,h2.ks.trans h.ks⟩
 ·exact h1
 ·rcases h2.fam f hf with h3|h3|h3
  ·exact .inl h3
  ·rcases h.fa f h3 with h4|h4|h4
   ·exact .inl h4
   ·exact .inr (.inl h4)
   ·exact .inr (.inr (List.mem_append_right _ (List.mem_append_right _ h4)))
  ·exact .inr (.inr (List.mem_append_right _ (List.mem_append_left _ h3)))
 ·have hf':f∈aL q.1.z.L:=hf
  rw[h2.ext,cZ] at hf'
  rcases List.mem_append.1 hf' with h3|h3
  ·rcases h.fz f h3 with h4|h4|h4
   ·exact .inl h4
   ·exact .inr (.inl h4)
   ·exact .inr (.inr (List.mem_append_right _ (List.mem_append_right _ h4)))
  ·exact .inr (.inr (List.mem_append_left _ h3))
 ·have hf':f∈q.1.B:=hf
  rw[h2.B] at hf'
  rcases List.mem_append.1 hf' with h3|h3
  ·exact .inr (List.mem_append_right _ (List.mem_append_left _ h3))
  ·exact(h.fB f h3).imp_right λ h=>List.mem_append_right _ (List.mem_append_right _ h)
theorem oo.sz{ba B0 C0:Nat}{A:Fr}{S:LS}{y:LY}(h:oo ba B0 C0 A S y)(hB:B0<=50000000000):y.S.a.L.length<=100000000000/\y.S.a.cs.length<=100000000000/\y.S.z.L.length<=100000000000/\y.S.z.cs.length<=100000000000:=by
 obtain⟨s1,s2,s3⟩:=h.ok.sz
 have hi:=h.hi
 have e1:=congrArg (λ m:Mm=>m.nodes.length) h.ok.mm
 have e2:=congrArg (λ m:Mm=>m.cs.length) h.ok.mm
 simp only[AS.mm,XS.mm,List.length_map,fH] at e1 e2
 omega
theorem oo.same{ba B0 C0:Nat}{A:Fr}{S:LS}{y:LY}{L:List aU}(h:oo ba B0 C0 A S y)(hL:L.map aU.c=(cY y.S.a.L).map aU.c):Q1 L y.S.z.L y.S.a.cs y.S.z.cs y.S.a.gen y.S.z.gen :=
 ⟨hL.trans (congrArg Mm.nodes h.ok.mm),congrArg Mm.gen h.ok.mm,congrArg Mm.cs h.ok.mm⟩
set_option maxRecDepth 100000 in
theorem uz{ba bm B0 C0:Nat}{D:List Nat}{A:Fr}{w:World}{S:LS}{l:List Int}{a pa:Option Addr}{c pc:Nat}{ps:List (Nat×Nat)}(hps:yX S.l=ps)(hS:D8 ba B0 C0 S)(hB0:B0<=50000000000)(hC0:C0<=1000000)(h0:0<ps.length)(h1:ps.length<=1000)(hpc:ps.length<=pc)(hl:l.length<=17592186043904)(hA1:∀f∈aL S.a.L,f.2=[]∨f∈A)(hA2:∀f∈aL S.z.L,f.2=[]∨f∈A)(hA3:∀f∈S.B,f∈A)(hP:(pa,Di ps)∈A)(hT:(a,aG l)∈A)(hs:SF w D (qP ba bm S) A [] (tC S) w) :
    Calls Tryz.prog 43 #[.pointer (some ⟨ba,0,none⟩),.pointer (some ⟨bm,0,none⟩),.slice a l.length c,.slice pa ps.length pc] w λ e w'=>∃y:LY,e=.returned (.bool true)/\(oo ba B0 C0 A S y/\(y.i=400∨∀k,k<y.S.l.length->W7 y.S.l k=true))/\SF w D (qP ba bm y.S) [] y.G (tC y.S) w':=by
  refine enter Tryz.func43 Tryz.ntmps43 rfl rfl hs ?_
  simp only[bW]
  refine cP ?_;refine J2 ?_;refine aC (Sr (Fc:=λ _=>[]) (Oc:=λ _=>[]) (hc:=λ w1 hw=>ib)) (λ x15 h15=>?_);refine hJ ?_;refine Ds ?_
  refine nS [8,10,12,13,16,17,18,19,20,21,22,23,24,25,26,27,28,29,30,31,32,33,34,35,36,37,38,39,40,41,42,43,44,45,46,47,48,49,50,51,52,53,54,55,56,57,58,59,60,61,62,63] (λ y:LY=>[(10,.int .i64 ((y.i:Nat):Int))]) (λ y=>oo ba B0 C0 A S y) (λ y=>(x15,Dh a l c y.pos)::qP ba bm y.S) (λ y=>y.G) (λ y=>tC y.S) (λ y=>400-y.i) (⟨0,S,0,[]⟩) (⟨Nat.zero_le _,hS,λ f hf=>(hA1 f hf).imp_right .inl,λ f hf=>(hA2 f hf).imp_right .inl,λ f hf=>.inl (hA3 f hf),.refl _,rfl,rfl⟩) (λ y f hx=>?_) (hw0:=λ w hw=>hw)
  dsimp only[gU,List.map,List.cons_append,List.nil_append]
  have hx0:=hx
  have hsz:=hx0.sz hB0
  have hlen:y.S.l.length=ps.length:=by rw[<- Dw,hx0.pr,hps]
  refine lA ?_;refine xU ?_
  refine bB (λ c17=>?_) (λ c17=>?_)
  · refine pU ?_;refine lA ?_;refine dE ?_;refine C9 ?_;refine cW ?_
    refine nS [8,12,22,23,24,25,26,27,28,29] (λ k=>[(22,.int .i64 ((k:Nat):Int))]) (λ k=>k<=ps.length) (λ _=>(x15,Dh a l c y.pos)::qP ba bm y.S) (λ _=>y.G) (λ _=>tC y.S) (λ k=>ps.length-k) (0) (Nat.zero_le _) (λ k f hx=>?_) (hw0:=λ w hw=>hw.back (hH:=by exact List.Sublist.refl _) (hF:=by exact aX.all) (hO:=by exact List.Sublist.refl _))
    dsimp only[gU,List.map,List.cons_append,List.nil_append]
    refine J0 ?_;refine xU ?_;refine aT ?_
    refine bB (λ c23=>?_) (λ c23=>?_)
    · refine pU ?_;refine J0 ?_;refine aB (vE (cs:=Di ps) (k:=k) rf rf gG dV (.bC (Ap.qJ hP)) (by omega) (by rw[kM];omega)) rfl ?_;refine aB (Ew (k:=2) (cs:=Di ps) (q:=2*k) rf dV (.bC (Ap.qJ hP)) (Qb (by omega)) rfl) rfl ?_;refine aJ (λ x12=>?_);refine J5 ?_;refine nJ ?_;refine aC (cT 2 0 (hs:=qP ba bm y.S) (os:=tC y.S) (A0:=[]) (F1:=λ _=>y.G) (hA:=bA.nil) (hF1:=λ _ _ f hf=>.inr hf) (hc:=λ w hs=>Xo (k:=k) (hx0.pr.trans hps) hx0.ok (by omega) hs)) (λ x27 h27=>?_);refine nY ?_
      refine bB (λ c28=>?_) (λ c28=>?_)
      · exact nv c28
      · refine nR ?_;refine Xl ?_;refine C9 ?_
        refine iJ (k+1) ?_ (hw1:=λ w hw=>hw.back (hH:=by exact List.Sublist.cons _ (List.Sublist.refl _)) (hF:=by exact aX.all) (hO:=by exact List.Sublist.refl _))
        · omega
    · refine bN rfl ?_;refine aT ?_;refine aT ?_;refine dS [(0,[]),(1,[]),(2,[]),(3,[]),(4,[]),(5,[]),(6,[]),(7,[]),(8,[]),(10,[]),(11,[]),(12,[]),(13,[]),(9,[13]),(14,[]),(15,[]),(16,[])] ?_;refine aM ?_;refine zO ?_;refine aM ?_
      (refine Ya 32 (λ g32=>?_) (λ g32=>?_)<;>(first|refine cX ?_|(refine aM ?_)))
      all_goals ((first|refine cX ?_|(refine cB (i:=4) (hq:=(Zj (a:=y.i) (b:=16) rf rf (by decide))) (h:=?_)));refine yt ?_;refine aM ?_)
      all_goals (first|(refine aM ?_)|(refine Ya 37 (λ g37=>?_) (λ g37=>?_)<;>(first|refine cX ?_|(refine aM ?_))))
      all_goals ((first|refine cX ?_|(refine aM ?_));(first|refine cX ?_|(refine sQ ?_));(first|refine cX ?_|(refine aP ?_));(first|refine cX ?_|(refine bT (i:=13) (hq:=(aN (k:=3) rf cN dV (by simp only[List.drop_zero,List.take_succ_cons,List.take_zero];exact rfl) rfl)) (h:=?_)));(first|refine cX ?_|(refine aY (i:=9) (hq:=(cMO (hs:=[(ba,eN y.S.a)]) (os:=eS y.S.a) (A0:=aL y.S.a.L) (hA:=bA.of λ f hf=>(hx0.fa f hf).imp_right λ h=>h.imp_right .inl) (hc:=λ w hs=>Hb (L:=y.S.a.L) (cs:=y.S.a.cs) hs hx0.ok.a.fit (by omega) (by omega)))) (hfire:=(λ _=>by(refine fS ?_;refine aV.cons (by(exact hU (hq:=aN (k:=3) rf cN dV (by simp only[List.drop_zero,List.take_succ_cons,List.take_zero];exact rfl) rfl))) ?_;exact aV.nil))) (h:=λ x39 h39=>?_)));(first|refine cX ?_|(refine cD (i:=14) (hq:=(cV (hc:=λ w hw=>Lv (L1:=x39.1) (L2:=y.S.z.L) (cs1:=y.S.a.cs) (cs2:=y.S.z.cs) (hw.Gf (.inr (.inr (.inr ⟨_,.head _,rfl,rfl⟩))) (.inr (.inr (.inr ⟨_,.tail _ (.head _),rfl,rfl⟩))) (λ f hf=>.inr (.inr (.inl (List.mem_append_left _ hf)))) h39.2) (hw.Gf (.inr (.inr (.inr ⟨_,.tail _ (.tail _ (.tail _ (.tail _ (.head _)))),rfl,rfl⟩))) (.inr (.inr (.inr ⟨_,.tail _ (.tail _ (.tail _ (.tail _ (.tail _ (.head _))))),rfl,rfl⟩))) (λ f hf=>(hx0.fz f hf).imp_right λ h=>h.imp_right λ h=>.inl (List.mem_append_right _ h)) hx0.ok.z.fit) (by have h1:=congrArg List.length h39.1;simp only[List.length_map,fH] at h1;omega) (by omega) (by omega) (hx0.same h39.1)))) (h:=λ x44=>?_)));(first|refine cX ?_|(refine Fb ?_));refine eI ?_;refine dX ?_)
      all_goals
       refine bB (λ c46=>?_) (λ c46=>?_)
       · exact nv c46
       · all_goals
          refine Ra (λ w h=>(show SF _ _ ((x15,Dh a l c y.pos)::qP ba bm y.S) _ y.G (tC y.S) w from h.sub (by exact List.Sublist.refl _) (aX.iF λ f hf=>by first|exact hf|exact List.mem_append_right _ hf) (by repeat (first|exact List.Sublist.refl _|apply List.Sublist.cons)))) ?_
         all_goals (refine Ba ?_;refine aC (cT 0 0 (hs:=(x15,Dh a l c y.pos)::qP ba bm y.S) (os:=tC y.S) (A0:=[(pa,Di ps),(a,aG l)]) (F1:=λ _=>y.G) (hA:=bA.cons (.inr (.inl hP)) (bA.cons (.inr (.inl hT)) bA.nil)) (hF1:=λ _ _ f hf=>.inr hf) (hc:=λ w hs=>a9 (hx0.pr.trans hps) h0 h1 hpc hl hs)) (λ x49 h49=>?_);refine hJ ?_;refine J2 ?_;refine xU ?_)
         all_goals
          refine bB (λ c51=>?_) (λ c51=>?_)
          · all_goals (refine bN rfl ?_;refine aT ?_;refine dS [(0,[]),(2,[]),(3,[]),(4,[]),(5,[]),(1,[5]),(6,[]),(7,[])] ?_;refine aM ?_;refine J9 ?_;refine bT (i:=5) (hq:=(aN (k:=3) rf cN dV (by simp only[List.drop_zero,List.take_succ_cons,List.take_zero];exact rfl) rfl)) (h:=?_);refine aY (i:=1) (hq:=(cMO (hs:=[(ba,eN y.S.a)]) (os:=eS y.S.a) (A0:=aL y.S.a.L) (hA:=bA.of λ f hf=>(hx0.fa f hf).imp_right λ h=>h.imp_right .inl) (hc:=λ w hs=>Hb (L:=y.S.a.L) (cs:=y.S.a.cs) hs hx0.ok.a.fit (by omega) (by omega)))) (hfire:=(λ _=>by(refine fS ?_;refine aV.cons (by(exact hU (hq:=aN (k:=3) rf cN dV (by simp only[List.drop_zero,List.take_succ_cons,List.take_zero];exact rfl) rfl))) ?_;exact aV.nil))) (h:=λ x65 h65=>?_);refine cD (i:=6) (hq:=(cV (hc:=λ w hw=>Lv (L1:=x65.1) (L2:=y.S.z.L) (cs1:=y.S.a.cs) (cs2:=y.S.z.cs) (hw.Gf (.inr (.inr (.inr ⟨_,.head _,rfl,rfl⟩))) (.inr (.inr (.inr ⟨_,.tail _ (.head _),rfl,rfl⟩))) (λ f hf=>.inr (.inr (.inl (List.mem_append_left _ hf)))) h65.2) (hw.Gf (.inr (.inr (.inr ⟨_,.tail _ (.tail _ (.tail _ (.tail _ (.head _)))),rfl,rfl⟩))) (.inr (.inr (.inr ⟨_,.tail _ (.tail _ (.tail _ (.tail _ (.tail _ (.head _))))),rfl,rfl⟩))) (λ f hf=>(hx0.fz f hf).imp_right λ h=>h.imp_right λ h=>.inl (List.mem_append_right _ h)) hx0.ok.z.fit) (by have h1:=congrArg List.length h65.1;simp only[List.length_map,fH] at h1;omega) (by omega) (by omega) (hx0.same h65.1)))) (h:=λ x70=>?_);refine J7 ?_)
            all_goals
             refine aQ Tryz.results43 (λ w hw=>?_)
             refine⟨y,rfl,⟨hx0,?_⟩,hw.ret (by repeat (first|exact List.Sublist.refl _|apply List.Sublist.cons)) (aX.iF λ f hf=>List.mem_append_right _ hf) (by repeat (first|exact List.Sublist.refl _|apply List.Sublist.cons))⟩
             first
              | (exact .inl (by have:=hx0.hi;omega))
              | exact .inr (h49.elim (λ h=>h.2) (λ⟨k,h,_⟩=>absurd c51 (by omega)))
          · all_goals
             obtain⟨kk,ek,hk1,hk2⟩:∃k:Nat,x49.1=(k:Int)/\k<y.S.l.length/\W7 y.S.l k=false:=by
              rcases h49 with h|h
              · exfalso;omega
              · exact h
            all_goals (refine Ba ?_;refine aB (vE (cs:=Di ps) (k:=kk) rf (congrArg (Value.int IntKind.i64) ek) gG dV (.bC (Ap.qJ hP)) (by omega) (by rw[kM];omega)) rfl ?_;refine aE ?_;refine aB (G9 (cs:=Di ps) (q:=2*kk) (v:=.pointer (some ⟨(ps.getD kk (0,0)).1,0,none⟩)) rf gM (.bC (Ap.qJ hP)) (aAW (by omega))) rfl ?_;refine aC (cT 1 0 (hs:=qP ba bm y.S) (os:=tC y.S) (A0:=aL y.S.a.L++y.S.B) (F1:=λ x:LS×Cd×Fr×AS=>x.2.2.1++y.G) (hA:=bA.of λ f hf=>(List.mem_append.1 hf).elim (λ h=>(hx0.fa f h).imp_right λ h=>h.imp_right .inl) λ h=>.inr ((hx0.fB f h).imp_right .inl)) (hF1:=λ _ _ f hf=>.inr hf) (hc:=λ w hs=>xy (k:=kk) (hx0.pr.trans hps) hx0.ok hk1 hk2 (by omega) (by omega) (λ f hf=>List.mem_append_left _ hf) (λ f hf=>List.mem_append_right _ hf) hs)) (λ x57 h57=>?_);refine aH ?_;refine Jn ?_;refine aB (vE (cs:=Di ps) (k:=kk) rf (congrArg (Value.int IntKind.i64) ek) gG dV (.bC (Ap.qJ hP)) (by omega) (by rw[kM];omega)) rfl ?_;refine aE ?_;refine aB (G9 (cs:=Di ps) (q:=2*kk+1) (v:=.pointer (some ⟨(ps.getD kk (0,0)).2,0,none⟩)) rf gM (.bC (Ap.qJ hP)) (Uo (by omega))) rfl ?_;refine aC (cT 1 0 (hs:=qP ba bm x57.1) (os:=tC x57.1) (A0:=aL y.S.z.L) (F1:=λ q:LS×List aU=>aL q.2++(x57.2.2.1++y.G)) (hA:=bA.of λ f hf=>(hx0.fz f hf).imp_right λ h=>h.imp_right λ h=>.inl (List.mem_append_right _ h)) (hF1:=λ _ _ f hf=>.inr hf) (hc:=λ w hs=>vp (k:=kk) (hx0.pr.trans hps) hx0.ok h57 (by omega) (by omega) (λ f hf=>hf) hs)) (λ x63 h63=>?_);refine aH ?_;refine fA ?_;refine xL ?_)
            all_goals
             refine iJ (⟨y.i+1,x63.1,x49.2,aL x63.2++(x57.2.2.1++y.G)⟩) ?_ (hw1:=λ w hw=>hw)
             · exact hx0.step (by omega) h63.1 h63.2
  · refine bN rfl ?_;refine aT ?_;refine dS [(0,[]),(2,[]),(3,[]),(4,[]),(5,[]),(1,[5]),(6,[]),(7,[])] ?_;refine aM ?_;refine J9 ?_;refine bT (i:=5) (hq:=(aN (k:=3) rf cN dV (by simp only[List.drop_zero,List.take_succ_cons,List.take_zero];exact rfl) rfl)) (h:=?_);refine aY (i:=1) (hq:=(cMO (hs:=[(ba,eN y.S.a)]) (os:=eS y.S.a) (A0:=aL y.S.a.L) (hA:=bA.of λ f hf=>(hx0.fa f hf).imp_right λ h=>h.imp_right .inl) (hc:=λ w hs=>Hb (L:=y.S.a.L) (cs:=y.S.a.cs) hs hx0.ok.a.fit (by omega) (by omega)))) (hfire:=(λ _=>by(refine fS ?_;refine aV.cons (by(exact hU (hq:=aN (k:=3) rf cN dV (by simp only[List.drop_zero,List.take_succ_cons,List.take_zero];exact rfl) rfl))) ?_;exact aV.nil))) (h:=λ x65 h65=>?_);refine cD (i:=6) (hq:=(cV (hc:=λ w hw=>Lv (L1:=x65.1) (L2:=y.S.z.L) (cs1:=y.S.a.cs) (cs2:=y.S.z.cs) (hw.Gf (.inr (.inr (.inr ⟨_,.head _,rfl,rfl⟩))) (.inr (.inr (.inr ⟨_,.tail _ (.head _),rfl,rfl⟩))) (λ f hf=>.inr (.inr (.inl (List.mem_append_left _ hf)))) h65.2) (hw.Gf (.inr (.inr (.inr ⟨_,.tail _ (.tail _ (.tail _ (.tail _ (.head _)))),rfl,rfl⟩))) (.inr (.inr (.inr ⟨_,.tail _ (.tail _ (.tail _ (.tail _ (.tail _ (.head _))))),rfl,rfl⟩))) (λ f hf=>(hx0.fz f hf).imp_right λ h=>h.imp_right λ h=>.inl (List.mem_append_right _ h)) hx0.ok.z.fit) (by have h1:=congrArg List.length h65.1;simp only[List.length_map,fH] at h1;omega) (by omega) (by omega) (hx0.same h65.1)))) (h:=λ x70=>?_);refine J7 ?_
    refine aQ Tryz.results43 (λ w hw=>?_)
    refine⟨y,rfl,⟨hx0,?_⟩,hw.ret (by repeat (first|exact List.Sublist.refl _|apply List.Sublist.cons)) (aX.iF λ f hf=>List.mem_append_right _ hf) (by repeat (first|exact List.Sublist.refl _|apply List.Sublist.cons))⟩
    first
     | (exact .inl (by have:=hx0.hi;omega))
end

end Go.Proofs.YtbajmaoegmbfgaaGreat
