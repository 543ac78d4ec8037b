/- gcas: a swap of a copy, alone. -/
import Derived.Test.YtbajmaoegmbfgaaGreatGR9r
import Derived.Test.YtbajmaoegmbfgaaGreatGTt3
import Derived.Test.YtbajmaoegmbfgaaGreatGTt1
import Derived.Test.YtbajmaoegmbfgaaGreatGWr1
import Derived.Test.YtbajmaoegmbfgaaGreatGArN
import Derived.Test.YtbajmaoegmbfgaaGreatGVw2

set_option linter.unusedSimpArgs false
set_option linter.unusedVariables false
namespace Go.Proofs.YtbajmaoegmbfgaaGreat
section
open Go Go.RowKit Go.Ct
theorem Zf(N:List Nv)(v:Nv):bQ (N++[v]) ((N.length+1:Nat):Int)=v:=by
 unfold bQ
 rw[if_pos ⟨by omega,by simp⟩,jN,show(((N.length+1:Nat):Int)-1).toNat=N.length by omega]
 simp
theorem Ur(cs:List Int)(m:Int):bE (cs++[m]) ((cs.length+1:Nat):Int)=m:=by
 unfold bE
 rw[if_pos ⟨by omega,by simp⟩,jN,show(((cs.length+1:Nat):Int)-1).toNat=cs.length by omega]
 simp
section
variable{H:ByteArray->Nat}{σ:Kw}{t:eQ}{i m:Int}
end
end

/- root: how many accesses a read and a swap make. -/
section
open Go Go.RowKit Go.Ct
abbrev qg(t:eQ):Tr:=mL t λ r=>.done (gC r false)
abbrev yO(t:eQ)(o e n:Int):Tr:=lP t o e n λ ok=>.done (gC 0 ok)
theorem v7(t:eQ):Dp (qg t) 15:=u5 (n:=0) λ _=>trivial
theorem u6(t:eQ)(o e n:Int):Dp (yO t o e n) 14:=ig (n:=0) λ _=>trivial
section
variable{H:ByteArray->Nat}{σ:Kw}{t:eQ}
theorem yy{N:Nat}(hN:15<N)(i0:Inv H σ)(hT:cL σ t):∃x υ,kI (Ct.eD (qg t) σ.mm) N=(.done x,υ.mm)/\Le σ υ/\Inv H υ/\υ.ce t.root=x.ref/\rG υ x.ref []:=by
 have hK:∀τ r,Le σ τ->Inv H τ->rG τ r []->τ.ce t.root=r->So H (λ r τ=>τ.ce t.root=r.ref/\rG τ r.ref []) (.done (gC r false)) τ:=λ τ r _ _ hI hr=>⟨hr,hI⟩
 exact ug (Q:=λ r τ=>τ.ce t.root=r.ref/\rG τ r.ref []) ((v7 t).fin (k:=N) (s:=σ.mm) hN).1 (cz i0 (qd hT i0 hK) N)
end
section
variable{s:Mm}{t:eQ}{r p n c pc:Int}
theorem ng{N:Nat}(hN:15<N)(h:(bQ s.nodes (bE s.cs t.root)).kind=2):kI (Ct.eD (qg t) s) N=(.done (gC (bE s.cs t.root) false),s)/\pB (Ct.eD (qg t) s) N=1:=by
 have e1:kI (Ct.eD (qg t) s) 1=(.done (gC (bE s.cs t.root) false),s):=by
  show Ct.eD (if(bQ s.nodes (bE s.cs t.root)).kind=2 then .done (gC (bE s.cs t.root) false) else _) s=_
  rw[if_pos h]
  rfl
 obtain⟨h5,h6⟩:=B9 (p:=Ct.eD (qg t) s) (j:=1) (k:=N) (by rw[e1];rfl) (by omega)
 exact⟨h5.trans e1,h6.trans rfl⟩
theorem jq(h1:1<=t.root)(h2:t.root<=s.cs.length)(hr:bE s.cs t.root=r)(hrl:r<=s.nodes.length)(hc:(bQ s.nodes r).main=c)(hcr:c≠t.root)(hcl:c<=s.cs.length)(hp:bE s.cs c=p)(hpl:p<=s.nodes.length)(hpc:(bQ s.nodes p).prev=pc)(hpr:pc≠t.root)(hpcl:pc<=s.cs.length)(h0:bE s.cs pc=0) :
  ∃s',kI (Ct.eD (yO t r p n) s) 6=(.done (gC 0 true),s')/\pB (Ct.eD (yO t r p n) s) 6=6:=by
 obtain⟨d,hd⟩:∃d:Int,d=((s.nodes.length+1:Nat):Int):=⟨_,rfl⟩
 obtain⟨st,hst⟩:∃st:Int,st=((s.cs.length+1:Nat):Int):=⟨_,rfl⟩
 obtain⟨v,hv⟩:∃v:Nv,v=dK (Bp r p n) s.cs.length:=⟨_,rfl⟩
 obtain⟨N,hN⟩:∃N:List Nv,N=s.nodes++[v]:=⟨_,rfl⟩
 have hnd:bQ N d=v:=by rw[hN,hd];exact Zf _ _
 have hnr:bQ N r=bQ s.nodes r:=by rw[hN];exact sH hrl
 have hnp:bQ N p=bQ s.nodes p:=by rw[hN];exact sH hpl
 have v1:v.bA=r:=by rw[hv];rfl
 have v2:v.exp=p:=by rw[hv];rfl
 have v3:v.status=st:=by rw[hv,hst];rfl
 obtain⟨cs1,hcs1⟩:∃cs1,cs1=s.cs++[0]:=⟨_,rfl⟩
 have hl1:cs1.length=s.cs.length+1:=by rw[hcs1];simp
 have hap:∀x:Int,x<=s.cs.length->bE cs1 x=bE s.cs x:=λ x hx=>by rw[hcs1];exact yI hx
 obtain⟨eb,hcas⟩:=V2 (cs:=cs1) (c:=t.root) (o:=r) h1 (by omega) (by rw[hap _ h2];exact hr)
 obtain⟨cs2,hcs2⟩:∃cs2,cs2=dL cs1 t.root r d:=⟨_,rfl⟩
 have hl2:cs2.length=cs1.length:=by rw[hcs2];exact gQ
 have hv2:∀x:Int,x≠t.root->bE cs2 x=bE cs1 x:=λ x hx=>by rw[hcs2,jP hcas,if_neg hx]
 have hs0:bE cs2 st=0:=by rw[hv2 st (by omega),hcs1,hst];exact Ur _ _
 obtain⟨eb2,hcas2⟩:=V2 (cs:=cs2) (c:=st) (o:=0) (by omega) (by omega) hs0
 obtain⟨cs3,hcs3⟩:∃cs3,cs3=dL cs2 st 0 1:=⟨_,rfl⟩
 have hs1:bE cs3 st=1:=by rw[hcs3,jP hcas2,if_pos rfl]
 have e0:Ct.eD (yO t r p n) s=(.hY t.root r d λ b=>if b=true then lG t d (.node d λ nd=>.load nd.status λ s=>iE t d s λ _=>.done (gC 0 (s==1))) else .done (gC 0 false),⟨N,cs1,s.gen⟩):=by rw[hN,hv,hcs1,hd];rfl
 have e1:kI (Ct.eD (yO t r p n) s) 1=(.load (bQ N (bQ N d).bA).main λ m=>mI t (bQ N d).bA m λ r=>.node d λ n2=>.node d λ n3=>.hY n3.status 0 (if r=n2.exp then 1 else 2) λ _=>.node d λ nd=>.load nd.status λ s=>iE t d s λ _=>.done (gC 0 (s==1)),⟨N,cs2,s.gen⟩):=by
  show vM (Ct.eD (yO t r p n) s)=_
  rw[e0,mi]
  dsimp only
  rw[eb,if_pos rfl,<- hcs2]
  rfl
 rw[hnd,v1,hnr,hc] at e1
 have e2:kI (Ct.eD (yO t r p n) s) 2=(.load pc λ q=>if q=0 then(.node d λ n2=>.node d λ n3=>.hY n3.status 0 (if p=n2.exp then 1 else 2) λ _=>.node d λ nd=>.load nd.status λ s=>iE t d s λ _=>.done (gC 0 (s==1))) else .node q λ np =>
   if cG np then(if t.ro=true then jK r p q false (λ r=>.node d λ n2=>.node d λ n3=>.hY n3.status 0 (if r=n2.exp then 1 else 2) λ _=>.node d λ nd=>.load nd.status λ s=>iE t d s λ _=>.done (gC 0 (s==1))) else yW t λ r1=>.node r1 λ nr=>.node r λ ni=>jK r p q (nr.gen==ni.gen) (λ r=>.node d λ n2=>.node d λ n3=>.hY n3.status 0 (if r=n2.exp then 1 else 2) λ _=>.node d λ nd=>.load nd.status λ s=>iE t d s λ _=>.done (gC 0 (s==1))))
   else Bb r p q (λ r=>.node d λ n2=>.node d λ n3=>.hY n3.status 0 (if r=n2.exp then 1 else 2) λ _=>.node d λ nd=>.load nd.status λ s=>iE t d s λ _=>.done (gC 0 (s==1))),⟨N,cs2,s.gen⟩):=by
  show vM (kI _ 1)=_
  rw[e1,R6]
  dsimp only
  rw[hv2 c hcr,hap c hcl,hp,<- hpc,<- hnp]
  rfl
 have e3:kI (Ct.eD (yO t r p n) s) 3=(.hY st 0 1 λ _=>.node d λ nd=>.load nd.status λ s=>iE t d s λ _=>.done (gC 0 (s==1)),⟨N,cs2,s.gen⟩):=by
  show vM (kI _ 2)=_
  rw[e2,R6]
  dsimp only
  rw[hv2 pc hpr,hap pc hpcl,h0,if_pos rfl]
  show(Tr.hY (bQ N d).status 0 (if p=(bQ N d).exp then 1 else 2) λ _=>.node d λ nd=>.load nd.status λ s=>iE t d s λ _=>.done (gC 0 (s==1)),(⟨N,cs2,s.gen⟩:Mm))=_
  rw[hnd,v2,v3,if_pos rfl]
 have e4:kI (Ct.eD (yO t r p n) s) 4=(.load st λ s=>iE t d s λ _=>.done (gC 0 (s==1)),⟨N,cs3,s.gen⟩):=by
  show vM (kI _ 3)=_
  rw[e3,mi]
  dsimp only
  rw[<- hcs3]
  show(Tr.load (bQ N d).status λ s=>iE t d s λ _=>.done (gC 0 (s==1)),(⟨N,cs3,s.gen⟩:Mm))=_
  rw[hnd,v3]
 have e5:kI (Ct.eD (yO t r p n) s) 5=(.hY t.root d (bQ N d).new λ _=>.done (gC 0 true),⟨N,cs3,s.gen⟩):=by
  show vM (kI _ 4)=_
  rw[e4,R6]
  dsimp only
  rw[hs1]
  rfl
 refine⟨⟨N,dL cs3 t.root d (bQ N d).new,s.gen⟩,?_,bg (u6 t r p n) (by rw[e5];rfl)⟩
 show vM (kI _ 5)=_
 rw[e5]
 rfl
end
end

/- Reads allocate nodes without pairs. -/
section
open Go Go.RowKit Go.Ct
def Fv:Tr->Prop
 | .done _=>True
 | .stuck=>True
 | .load _ k=>∀v,Fv (k v)
 | .hY _ _ _ k=>∀b,Fv (k b)
 | .alloc n _ k=>n.ys=[]/\∀r,Fv (k r)
 | .cell _ k=>∀r,Fv (k r)
 | .gen _=>False
 | .node _ k=>∀v,Fv (k v)
def yK(s:Mm):Prop:=∀v∈s.nodes,v.ys.length<=s.nodes.length
theorem yK.push{s:Mm}{n:Nv}{i:Int}(h:yK s)(hn:n.ys=[]):yK (s.push n i):=λ v hv=>by
 have hl:(s.push n i).nodes.length=s.nodes.length+1:=by show(s.nodes++[_]).length=_;rw[List.length_append];rfl
 rw[hl]
 have hv':v∈s.nodes++[dK n s.cs.length]:=hv
 rcases List.mem_append.1 hv' with h1|h1
 ·have:=h v h1;omega
 ·rw[List.mem_singleton.1 h1]
  show n.ys.length<=_
  rw[hn];exact Nat.zero_le _
theorem Fv.eD:∀{u:Tr} {s:Mm},Fv u->yK s->Fv (Ct.eD u s).1/\yK (Ct.eD u s).2:=by
 intro u
 induction u with
 | done r=>intro s h hy;exact⟨h,hy⟩
 | stuck=>intro s h hy;exact⟨h,hy⟩
 | load c k ih=>intro s h hy;exact⟨h,hy⟩
 | hY c o v k ih=>intro s h hy;exact⟨h,hy⟩
 | alloc nd i k ih=>intro s h hy;exact ih _ (h.2 _) (hy.push h.1)
 | cell i k ih=>intro s h hy;exact ih _ (s:=⟨s.nodes,s.cs++[i],s.gen⟩) (h _) hy
 | gen k ih=>intro s h hy;exact h.elim
 | node r k ih=>intro s h hy;exact ih _ (h _) hy
theorem Fv.st{u:Tr}{s:Mm}(h:Fv u)(hy:yK s):Fv (vM (u,s)).1/\yK (vM (u,s)).2:=by
 cases u with
 | load c k=>exact Fv.eD (h _) hy
 | hY c o v k=>exact Fv.eD (s:=⟨s.nodes,dL s.cs c o v,s.gen⟩) (h _) hy
 | done r=>exact Fv.eD h hy
 | stuck=>exact Fv.eD h hy
 | alloc nd i k=>exact Fv.eD h hy
 | cell i k=>exact Fv.eD h hy
 | gen k=>exact Fv.eD h hy
 | node r k=>exact Fv.eD h hy
theorem Fv.run{u:Tr}{s:Mm}(h:Fv u)(hy:yK s):∀k,Fv (kI (Ct.eD u s) k).1/\yK (kI (Ct.eD u s) k).2
 | 0=>Fv.eD h hy
 | k+1=>Fv.st (Fv.run h hy k).1 (Fv.run h hy k).2
theorem Fv.Lo:∀{u:Tr} {s:Mm},Fv u->(Ct.eD u s).2.gen=s.gen:=by
 intro u
 induction u with
 | done r=>intro s h;rfl
 | stuck=>intro s h;rfl
 | load c k ih=>intro s h;rfl
 | hY c o v k ih=>intro s h;rfl
 | alloc nd i k ih=>intro s h;exact(ih _ (h.2 _)).trans rfl
 | cell i k ih=>intro s h;exact(ih _ (h _)).trans rfl
 | gen k ih=>intro s h;exact h.elim
 | node r k ih=>intro s h;exact ih _ (h _)
theorem Fv.E0{u:Tr}{s:Mm}(h:Fv u):(vM (u,s)).2.gen=s.gen:=by
 cases u with
 | load c k=>exact Fv.Lo (h _)
 | hY c o v k=>exact(Fv.Lo (s:=⟨s.nodes,dL s.cs c o v,s.gen⟩) (h _)).trans rfl
 | done r=>exact Fv.Lo h
 | stuck=>exact Fv.Lo h
 | alloc nd i k=>exact Fv.Lo h
 | cell i k=>exact Fv.Lo h
 | gen k=>exact Fv.Lo h
 | node r k=>exact Fv.Lo h
theorem Fv.aA8{u:Tr}{s:Mm}(h:Fv u)(hy:yK s):∀k,(kI (Ct.eD u s) k).2.gen=s.gen
 | 0=>Fv.Lo h
 | k+1=>(Fv.E0 (Fv.run h hy k).1).trans (Fv.aA8 h hy k)
section
variable{t:eQ}{i m p v:Int}
theorem ey{K:Int->Tr}(h:∀m,Fv (K m)):Fv (Bb i m p K):=λ _ _ _ _=>h _
theorem Gr{K:Int->Tr}(h:∀m,Fv (K m)):Fv (iK i m K):=λ _ p=>by
 try dsimp only
 split
 ·exact h _
 ·exact ey h
theorem Vp{K:Int->Tr}{c:Bool}(h:∀m,Fv (K m)):Fv (jK i m p c K):=by
 unfold jK
 split
 ·exact λ _ _=>Gr h
 ·exact λ _=>⟨rfl,λ _ _=>Gr h⟩
theorem Nh{s:Int}{K:Int->Tr}(h:∀m,Fv (K m)):Fv (iE t v s K):=λ _ _=>h _
theorem sj{K:Int->Tr}(h:∀m,Fv (K m)):Fv (yW t K):=λ v=>λ _=>by
 try dsimp only
 split
 ·exact h _
 ·refine λ _ s=>?_
  try dsimp only
  split
  ·exact λ _ _ _ _=>Nh h
  ·exact Nh h
theorem X9{K:Int->Tr}(h:∀m,Fv (K m)):Fv (mI t i m K):=λ _ p=>by
 try dsimp only
 split
 ·exact h _
 ·refine λ np=>?_
  try dsimp only
  split
  ·split
   ·exact Vp h
   ·refine sj λ r=>?_
    exact λ _ _=>Vp h
  ·exact ey h
theorem sr{K:Int->Tr}(h:∀m,Fv (K m)):Fv (lR t i K):=λ _ _=>X9 h
theorem Xx{K:Tr}(h:Fv K):Fv (lG t v K):=λ _=>by
 refine sr λ _=>?_
 exact λ _ _ _=>h
theorem pb{K:Int->Tr}(h:∀m,Fv (K m)):Fv (mL t K):=λ v=>λ _=>by
 try dsimp only
 split
 ·exact h _
 ·refine λ _ s=>?_
  try dsimp only
  split
  ·refine Xx ?_
   exact λ _ _=>Nh h
  ·exact Nh h
end
end

/- root: a swap alone, on labelled memories; Root and Main where nothing is pending. -/
section
open Go Go.RowKit Go.Ct
theorem yw{N:List Nv}{cs:List Int}{c r:Int}(h:(bQ N (bE cs c)).kind=2)(hr:iR N cs c=some r):r=bE cs c:=by
 have e:sJ N cs c=bE cs c:=if_neg (by rw[h];decide)
 unfold iR at hr
 rw[e,if_pos h] at hr
 exact(Option.some.inj hr).symm
theorem y3{N:List Nv}{cs:List Int}{i p:Int}(h:QuP N cs i)(hp:fQ N cs i=some p):p=bE cs (bQ N i).main:=by
 unfold fQ at hp
 split at hp
 ·rw[if_pos (show oM N cs i=0 from h)] at hp
  exact(Option.some.inj hp).symm
 ·cases hp
theorem E8{N:List Nv}{cs:List Int}{n:Nat}{a:Int}{lv:Nat}{i:Int}{way s:List Int}{q:List Pl×List Pr}(h:Ef N cs (n+1) a lv i way s=some q):∃p∈q.1,p.i=i:=by
 unfold Ef at h
 split at h
 ·cases h
 ·rw[Option.bind_eq_some_iff] at h
  obtain⟨m,_,h⟩:=h
  split at h
  ·cases h
   exact⟨_,List.mem_singleton_self _,rfl⟩
  ·rw[Option.map_eq_some_iff] at h
   obtain⟨x,_,h⟩:=h
   subst h
   exact⟨_,List.mem_cons_self ..,rfl⟩
section
variable{H:ByteArray->Nat}{υ:Kw}{t:eQ}{r p:Int}
theorem pj(i0:Inv H υ)(hT:cL υ t)(hro:t.ro=false)(hr:υ.ce t.root=r)(hI:(υ.nd r).kind=2)(hp:υ.ce (υ.nd r).main=p)(hs:υ.ce (υ.nd p).prev=0)(n g:Int):∃s',kI (Ct.eD (yO t r p n) ((Mm.mk υ.mm.nodes υ.mm.cs g).push (iC g) p)) 6=(.done (gC 0 true),s')/\pB (Ct.eD (yO t r p n) ((Mm.mk υ.mm.nodes υ.mm.cs g).push (iC g) p)) 6=6:=by
 have hrr:=dW (N:=υ.mm.nodes) (i:=r) (by rw[show(bQ υ.mm.nodes r).kind=2 from hI];decide)
 have hmc:=i0.oJ hI
 have hpm:oT υ p (υ.way r) (υ.nd r).gen:=by rw[<- hp];exact((i0.ce _ hmc.1 hmc.2.1).main r hmc.2.2).2
 have hpr:=hpm.in
 have hpc:=i0.mT hpm.1
 have hroot:=hT.rw hro
 obtain⟨s,es⟩:∃s,s=(Mm.mk υ.mm.nodes υ.mm.cs g).push (iC g) p:=⟨_,rfl⟩
 have hns:s.nodes=υ.mm.nodes++[dK (iC g) υ.mm.cs.length]:=by rw[es];rfl
 have hcs:s.cs=υ.mm.cs++[p]:=by rw[es];rfl
 have hcl:s.cs.length=υ.cl+1:=by rw[hcs,List.length_append];rfl
 have hnl:s.nodes.length=υ.len+1:=by rw[hns,List.length_append];rfl
 have hce:∀x:Int,x<=υ.cl->bE s.cs x=υ.ce x:=λ x hx=>by rw[hcs];exact yI hx
 have hnd:∀x:Int,x<=υ.len->bQ s.nodes x=υ.nd x:=λ x hx=>by rw[hns];exact sH hx
 rw[<- es]
 have hrl:r<=υ.len:=hrr.2
 have h2:=hT.2.1
 refine jq (c:=(υ.nd r).main) (pc:=(υ.nd p).prev) hT.1 (by rw[hcl];omega) (by rw[hce _ h2];exact hr) (by rw[hnl];omega) (by rw[hnd r hrl]) (λ e=>?_) (by rw[hcl];have:=hmc.2.1;omega) (by rw[hce _ hmc.2.1];exact hp) (by rw[hnl];have:=hpr.2;omega) (by rw[hnd p hpr.2]) (λ e=>?_) (by rw[hcl];have:=hpc.2.1;omega) (by rw[hce _ hpc.2.1];exact hs)
 ·rw[<- e,hmc.2.2] at hroot;cases hroot
 ·rw[<- e,hpc.2.2] at hroot;cases hroot
end
end

/- Tasks of the program side by side with executions of the reference: the state; one of the two makes a step. -/
end Go.Proofs.YtbajmaoegmbfgaaGreat
namespace Go.Ct
section
open Go Go.RowKit
section
variable{α:Type}
end
inductive Zh:Nat->Mm×List (Tr×Nat)->Mm×List (Tr×Nat)->Prop where
 | refl (p):Zh 0 p p
 | step {i p s l1 l2 R n}:Zh i p (s,l1++(R,n)::l2)->R.live=true->Zh (i+1) p ((vM (R,s)).2,l1++((vM (R,s)).1,n+1)::l2)
end
end Go.Ct
namespace Go.Proofs.YtbajmaoegmbfgaaGreat
section
open Go Go.RowKit Go.Ct
structure PX where
 e:EX
 m:Nat
 tb:Nat
 c:Cd
 n:Nat
structure LS where
 a:AS
 z:XS
 l:List PX
 B:Fr
structure POk(C:Nat)(z:XS)(p:PX):Prop where
 i:n7 (T0 p.e.k p.m) (XS.wm p.e.x z) p.e.dn p.e.rs p.e.R
 kk:Zu p.e.k
 m:p.m<18446744073709551616
 em:p.e.k.mask=(p.m:Int)
 ht:p.e.k.t.root<=9223372036854775807
 ha:p.e.k.a<=z.L.length
 hb:p.e.k.b<=z.L.length
 hn:p.e.k.n<=z.L.length
 gl:p.e.x.got.length=p.n
 gc:p.n<=C
structure LOk(ba Bz C:Nat)(S:LS):Prop where
 z:S.z.Ok
 a:S.a.Ok
 mm:S.a.mm=S.z.mm
 sz:Sz S.z Bz
 p:∀p∈S.l,POk C S.z p
 rp:∀p∈S.l,lW ba p.e.R S.z.mm p.c S.z.mm S.B
section
variable{ba bm:Nat}
end
section
variable{ba bm Bz C:Nat}{D:List Nat}{A:Fr}{w:World}{a:AS}{z:XS}{l1 l2:List PX}{p:PX}{B:Fr}
end
end

/- Structs of numbers, bools and strings are compared. -/
end Go.Proofs.YtbajmaoegmbfgaaGreat
namespace Go.Ct
section
open Go Go.RowKit
section
variable{P:Program}{w:World}
inductive VEq:Nat->Value->Value->Bool->Prop where
 | int (k:IntKind) (a b:Int):VEq 0 (.int k a) (.int k b) (a==b)
 | bool (a b:Bool):VEq 1 (.bool a) (.bool b) (a==b)
 | str (a b:ByteArray):VEq 2 (.string a) (.string b) (decide (a=b))
inductive yk:List Nat->List Value->List Value->Bool->Prop where
 | nil:yk [] [] [] true
 | cons {k:Nat} {ks:List Nat} {u v:Value} {us vs:List Value} {r r2:Bool} (h:VEq k u v r) (hs:yk ks us vs r2):yk (k::ks) (u::us) (v::vs) (r&&r2)
variable{S:List (Nat×Value)}{G:World->Prop}{d:Nat}{ty t t':TypeId}{pos:String}{af:Array Edge}{gd:Option (Nat×Bool)}{x y:Operand}
instance:DecidableEq Ac:=λ a b=>if h:a.k=b.k/\a.c=b.c/\a.o=b.o/\a.n=b.n then isTrue (by cases a;cases b;simp_all) else isFalse (λ e=>h (by subst e;exact⟨rfl,rfl,rfl,rfl⟩))
instance:DecidableEq Rs:=λ a b=>if h:a.err=b.err/\a.found=b.found/\a.val=b.val/\a.key=b.key/\a.gU=b.gU/\a.ref=b.ref/\a.root=b.root/\a.ro=b.ro then isTrue (by cases a;cases b;simp_all) else isFalse (λ e=>h (by subst e;exact⟨rfl,rfl,rfl,rfl,rfl,rfl,rfl,rfl⟩))
end
end
end Go.Ct
namespace Go.Proofs.YtbajmaoegmbfgaaGreat
section
open Go Go.RowKit Go.Ct
end

/- Pairs: whether a task and an execution are at the same point. -/
section
open Go Go.RowKit Go.Ct
section
variable{k:Cl}{ba bx bm tb n:Nat}{x:XS}{c:Cd}{rs:Rs}{D:List Nat}{A:Fr}{w:World}
theorem Pk{bt:Nat}{d:Bool}(hd:(c.a.k==0)=d)(h:w.heap[bt]?=some (tO ba c n)):Calls Tryz.prog 33 #[.pointer (some ⟨bt,0,none⟩)] w λ e w'=>e=.returned (.bool d)/\St w [] [] w':=by
 subst hd
 exact Ap h
theorem uD{bt:Nat}{d:Bool}{r:Rs}(hd:(c.a.k==0)=d)(ha:(if d=true then c.r else Rs.zero)=r)(h:w.heap[bt]?=some (tO ba c n)):Calls Tryz.prog 34 #[.pointer (some ⟨bt,0,none⟩)] w λ e w'=>e=.returned (.agg ⟨r.cells⟩)/\St w [] [] w':=by
 subst hd ha
 have:=T5 h
 simp only[beq_iff_eq] at this ⊢
 exact this
end
end

/- Worlds: Worlds. -/
section
open Go Go.RowKit Go.Ct
theorem Uu(x y:AX)(acc:Int)(pn:Option Addr)(cn:Nat)(pc:Option Addr)(cc:Nat):(XS.new (L4 x y) [0,3,4] 1 acc pn cn pc cc).Ok:=by
 have hmem:∀v∈L4 x y,v=fK∨v=jU Z3 [] [] 0 x∨v=jU (zu 1) [] [] 1 y:=λ v hv=>by
  simp[L4] at hv
  exact hv
 refine⟨λ v hv=>?_,λ v hv=>?_,λ v hv=>?_,(λ v hv=>nomatch hv),(λ v hv=>nomatch hv),by show 2<=4;decide,by show 4<=_;decide,by show 3<=_;decide,Nat.zero_le _,Nat.le_refl _,Nat.le_refl _,Nat.le_refl _,Nat.le_refl _,Nat.zero_le _,λ v hv=>?_,by show(0:Int)<=1;decide,(λ i j _ hj=>absurd hj (Nat.not_lt_zero j)),(λ v hv=>nomatch hv)⟩
 ·rcases hmem v hv with rfl|rfl|rfl
  ·exact⟨rfl,rfl,by decide,by decide⟩
  ·exact Gv (by decide) (by decide)
  ·exact Gv (by decide) (by decide)
 ·have z:(0:Int)<=((4:Nat):Int):=by decide
  have z3:(0:Int)<=((3:Nat):Int):=by decide
  rcases hmem v hv with rfl|rfl|rfl
  ·exact⟨z,z,z,(λ r hr=>nomatch hr),z3,z3,z3,jQ,jQ⟩
  ·exact⟨z,z,z,(λ r hr=>nomatch hr),z3,by show(1:Int)<=((3:Nat):Int);decide,z3,jQ,jQ⟩
  ·exact⟨z,z,z,(λ r hr=>nomatch hr),by show(2:Int)<=((3:Nat):Int);decide,z3,z3,jQ,jQ⟩
 ·have hv':v=0∨v=3∨v=4:=by simpa[XS.new] using hv
  show v<=((4:Nat):Int)
  omega
 ·rcases hmem v hv with rfl|rfl|rfl<;>exact Nat.zero_le _
def kinds:List Int:=[8,8,8,9,9,10,11,12,7,8]
theorem fk{v:Nat}(h:v<10):7<=kinds.getD v 0/\kinds.getD v 0<=12:=by
 have:v=0∨v=1∨v=2∨v=3∨v=4∨v=5∨v=6∨v=7∨v=8∨v=9:=by omega
 rcases this with rfl|rfl|rfl|rfl|rfl|rfl|rfl|rfl|rfl|rfl<;>decide
theorem j6{v:Nat}(h:v<10):∃m:Nat,Bd.getD v 0=(m:Int)/\m<18446744073709551616:=by
 have:v=0∨v=1∨v=2∨v=3∨v=4∨v=5∨v=6∨v=7∨v=8∨v=9:=by omega
 refine⟨(Bd.getD v 0).toNat,?_⟩
 rcases this with rfl|rfl|rfl|rfl|rfl|rfl|rfl|rfl|rfl|rfl<;>decide
theorem Ns.mono{m B C E B' C' E':Nat}{W:Wd}(h:Ns m B C E W)(hB:B<=B')(hC:C<=C')(hE:E<=E'):Ns m B' C' E' W:=by
 obtain⟨s1,s2,s3⟩:=h.sz
 exact⟨h.z,⟨by omega,by omega,by omega⟩,λ e he=>by have:=h.ex e he;exact⟨this.i,this.k,this.em,this.ht,this.ha,by have:=this.gl;omega⟩,h.t0,h.tr,h.tl,by have:=h.el;omega,h.wr⟩
section
variable{S:List (Nat×Value)}{w0 w:World}{M:List Nat}{H:List (Nat×Obj)}{A F:Fr}{O:List Ow}{ty:TypeId}{pos:String}{af:Array Edge}{gd:Option (Nat×Bool)}{X:Type}{V:X->Value}
theorem cT(nH nO:Nat){φ:X->Prop}{hs:List (Nat×Obj)}{os:List Ow}{hs' H1:X->List (Nat×Obj)}{os' O1:X->List Ow}{Fc F1:X->Fr}{A0:Fr}{f:FuncId}{xs:List Operand}{at_:Array TypeId}{vs:List Value}{dst:Option Nat}
  (hc:∀w,SF w (Ks hs os) hs A0 [] os w->Calls Tryz.prog f ⟨vs⟩ w λ e w'=>∃x,e=.returned (V x)/\φ x/\SF w (Ks hs os) (hs' x) [] (Fc x) (os' x) w')
  (hA:bB A F (O.take nO) A0) (hF1:∀x,φ x->∀f∈F1 x,f.2=[]∨f∈Fc x++F)
  (ha:qZ S xs=vs:=by(repeat (first|exact cH _|(apply bV;focus ((conv=>{lhs;whnf});try exact rfl))));first|done|fail) (hp:plain Tryz.prog f=true:=by kernel_rfl)
  (hH:H=H.take nH++hs:=by exact rfl) (hO:O=O.take nO++os:=by exact rfl)
  (hH1:∀x,H.take nH++hs' x=H1 x:=by intro x;simp only[List.take_succ_cons,List.take_zero,List.cons_append,List.nil_append,wH];exact rfl) (hO1:∀x,O.take nO++os' x=O1 x:=by intro x;simp only[List.take_succ_cons,List.take_zero,List.cons_append,List.nil_append,wO];exact rfl) :
  bG Tryz.prog S (SF w0 M H A F O) ⟨dst,.call {callee:=.value (.func f),args:=⟨xs⟩,argTypes:=at_},ty,pos,af,gd⟩ X V (λ x w=>φ x/\SF w0 M (H1 x) A (F1 x) (O1 x) w) :=
 iH (mG hp ha) λ w hw=>(Nl (H':=H.take nH) (O':=O.take nO) hw ((List.Perm.of_eq hH).trans List.perm_append_comm) ((List.Perm.of_eq hO).trans List.perm_append_comm) hA (hc w)).mono λ _ _ ⟨x,he,hx,hs⟩=>⟨x,he,hx,by
  have h2:=(hs.perm (H':=H1 x) (O':=O1 x) (by rw[<- hH1 x];exact List.perm_append_comm) (by rw[<- hO1 x];exact List.perm_append_comm)).eY (hF1 x hx)
  exact h2⟩
end
theorem Vd(l:List EX):(sV l).length=l.length:=by simp[sV]
theorem ya{es:List Nat}{k:Nat}(h:k<es.length):(Az es)[k]?=some (.pointer (some ⟨es.getD k 0,0,none⟩)):=by
 simp[Az,jN,h]
structure WY where
 i:Nat
 pos:Nat
 W:Wd
structure WYI(m:Nat)(y:WY):Prop where
 hi:y.i<=18
 ok:Ns m (8+134217920*y.i) (1048576+y.i) y.i y.W
theorem Rh.Iy{kind:Int}{ts:List eQ}{q:Hu}(h:Rh kind ts q)(p:Int):Rh kind ts {q with Iy:=p}:=⟨h.ky,h.mem,h.ro⟩
set_option maxRecDepth 100000 in
set_option maxHeartbeats 4000000 in
theorem mb{l:List Int}{a:Option Addr}{c:Nat}{w:World}(ha:Go.Ct.Cl w a (aH l))(hl:l.length<=17592186043904) :
  Calls Tryz.prog 19 #[.slice a l.length c] w λ e w'=>∃q:Nat×Nat×Nat×Wd,e=.returned (.pointer (some ⟨q.1,0,none⟩))/\(q.2.2.1<18446744073709551616/\Ns q.2.2.1 2415922570 1048594 18 q.2.2.2)/\SF w [] (wH q.2.2.1 q.1 q.2.1 q.2.2.2) [] (aL q.2.2.2.z.L) (wO q.2.2.2) w':=by
 refine enter Tryz.func19 Tryz.ntmps19 rfl rfl (SF.s1 ha) ?_
 simp only[cA]
 refine cS ?_;refine J2 ?_;refine aD (Sv (Fc:=λ _=>[]) (Oc:=λ _=>[]) (hc:=λ w1 hw=>vd)) (λ x10 h10=>?_);refine J1 ?_;refine J0 ?_;refine aD (Sv (Fc:=λ _=>[]) (hc:=λ w1 hw=>nj w1)) (λ x11 h11=>?_);refine aA ?_;refine aD (xI (hc:=λ w1 hw=>zb (hw.tape cY fin hl))) (λ x13 h13=>?_);refine bI ?_;refine bK (λ x15=>?_);refine Ai ?_;refine dF ?_;refine J3 ?_;refine aD (cM (hc:=λ w hs=>Q2 hs)) (λ x21 h21=>?_);refine aN (Oy (sz:=2) (cs:=tP [⟨3,false⟩]) Gh Jo rfl rfl rfl rfl rfl rfl) (λ x22=>?_);refine Np ?_;refine aS ?_;refine Ea ?_
 obtain⟨m,em,hm⟩:=j6 h13
 refine oK [5,6,7,8,25,26,27,28,29,30,31,32,33,34,35,36,37,38,39,40,41,42,43,44,45,46,47,48,49,50,51,52,53,54,55,56,57,58,59,60,61,62,63,64,65,66,67,68,69,70,71,72,73,74,75,76,77,78,79,80,81,82,83,84,85,86,87,88,89,90,91,92,93,94,95,96,97,98] (λ y:WY=>[(5,.int .i64 ((y.i:Nat):Int))]) (λ y=>WYI m y) (λ y=>(x10,Ov a l c y.pos)::(x15,pC x11.1 (m:Int) y.W.pt y.W.ts.length y.W.kt y.W.pe (sV y.W.ex).length y.W.ke)::(x11.1,xM y.W.z)::Er x11.1 y.W.ex) (λ y=>aL y.W.z.L) (λ y=>⟨y.W.pt,tP y.W.ts,y.W.kt,29,2⟩::⟨y.W.pe,Az (sV y.W.ex),y.W.ke,74,1⟩::⟨y.W.z.pn,iO y.W.z.L,y.W.z.cn,47,14⟩::⟨y.W.z.pc,aH y.W.z.cs,y.W.z.cc,37,1⟩::By y.W.ex) (λ y=>18-y.i) (⟨0,oC l 0,⟨XS.new (L4 x21.1 x21.2.1) [0,3,4] 1 0 x21.2.1.pn x21.2.1.cn x21.2.2.1 x21.2.2.2,[⟨3,false⟩],some ⟨x22,0,none⟩,1,[],none,0⟩⟩) (⟨by show(0:Nat)<=18;decide,Uu _ _ _ _ _ _ _,⟨by show 4<=8+134217920*0;decide,by show 3<=8+134217920*0;decide,by show(1:Int)<=((8+134217920*0:Nat):Int);decide⟩,(λ e he=>nomatch he),by show 0<1;decide,rfl,by show 1<=5;decide,Nat.le_refl _,.new⟩) (λ y f hx=>?_) (hw0:=λ w hw=>by rw[em,List.append_nil] at hw;exact(hw.kU 74 1).perm (List.perm_append_comm (l₁:=[_]) (l₂:=[_,_])) (List.Perm.swap _ _ _))
 dsimp only[hX,List.map,List.cons_append,List.nil_append]
 have hy:=hx
 refine kR ?_;refine Bu ?_
 (refine dZ 27 (λ g27=>?_) (λ g27=>?_)<;>refine Ka0 ?_)
 all_goals ((first|refine aI ?_|(refine aE ?_;refine aD (xI (hc:=λ w1 hw=>aAj (hw.tape cY fin hl))) (λ x29 h29=>?_)));refine bX ?_;refine aG ?_)
 all_goals
 refine bD (λ c30=>?_) (λ c30=>?_)
 ·try exact nv c30
  all_goals (refine rR ?_;refine J0 ?_;refine aN ((by exact Md (λ _=>cW (cs:=aH kinds) Ic Jo rfl rfl rfl rfl rfl))) (λ x33=>?_);refine aA ?_;refine aD (xI (hc:=λ w1 hw=>eX 10 (hw.tape cY fin hl) (by decide) (by decide))) (λ x35 h35=>?_);refine aC (dH (lst:=kinds) (k:=x35) rf rf gH fZ (.new .head) (by omega) (by simp only[kinds,List.length_cons,List.length_nil];omega)) rfl ?_;refine aC (fC (lst:=kinds) (q:=x35) rf fZ (.new .head) (by simp only[kinds,List.length_cons,List.length_nil];omega)) rfl ?_;refine iZ ?_)
  all_goals
   refine dX [6,38,39,40,41,42,43,44] (λ q:Int×Nat=>[(6,.int .i64 q.1)]) (λ q=>7<=q.1/\q.1<=12) (λ q=>(x10,Ov a l c q.2)::(x15,pC x11.1 (m:Int) y.W.pt y.W.ts.length y.W.kt y.W.pe (sV y.W.ex).length y.W.ke)::(x11.1,xM y.W.z)::Er x11.1 y.W.ex) (λ _=>aL y.W.z.L) (λ _=>⟨y.W.pt,tP y.W.ts,y.W.kt,29,2⟩::⟨y.W.pe,Az (sV y.W.ex),y.W.ke,74,1⟩::⟨y.W.z.pn,iO y.W.z.L,y.W.z.cn,47,14⟩::⟨y.W.z.pc,aH y.W.z.cs,y.W.z.cc,37,1⟩::By y.W.ex) (by decide) (λ _=>by exact rfl) ?_ (λ q f hx=>?_)
   ·refine aS ?_
    refine Aa ?_;refine kW ?_;refine aA ?_
    (refine dZ 40 (λ g40=>?_) (λ g40=>?_)<;>refine Ka0 ?_)
    all_goals ((first|refine aI ?_|(refine aE ?_;refine aD (xI (hc:=λ w1 hw=>eX 3 (hw.tape cY fin hl) (by decide) (by decide))) (λ x42 h42=>?_)));refine Ka8 ?_)
    all_goals
    refine bD (λ c44=>?_) (λ c44=>?_)
    ·try exact nv c44
     all_goals (refine dG ?_;refine J1 ?_)
     all_goals
      refine eE ((8,oC l (oC l y.pos))) ?_ (hw1:=λ w hw=>hw.back (hF:=aV.iM λ f hf=>List.mem_cons_of_mem _ hf))
      ·exact⟨by show(7:Int)<=8;decide,by show(8:Int)<=12;decide⟩
    ·all_goals try (exfalso;omega)
     all_goals refine aW ?_
     all_goals
      refine eE (by first|exact((λ _=>(kinds.getD x35 0,oC l (oC l y.pos))) x42)|exact(kinds.getD x35 0,oC l y.pos)) ?_ (hw1:=λ w hw=>hw.back (hF:=aV.iM λ f hf=>List.mem_cons_of_mem _ hf))
      ·exact fk (by omega)
   dsimp only[hX,List.map,List.cons_append,List.nil_append]
   have hq:=hx
  all_goals (refine Kb8 ?_;refine aD (cM (hs:=[(x10,Ov a l c q.2),(x15,pC x11.1 (m:Int) y.W.pt y.W.ts.length y.W.kt y.W.pe (sV y.W.ex).length y.W.ke)]) (os:=[⟨y.W.pt,tP y.W.ts,y.W.kt,29,2⟩]) (A0:=[(a,aH l)]) (hc:=λ w hs=>sv q.1 hq hl hy.ok.t0 (by have:=hy.ok.tl;omega) hy.ok.tr hs)) (λ x48 h48=>?_);refine aJ (λ x7=>?_);refine J5 ?_;refine aS ?_)
  all_goals
   refine dX [49,50,51,52,53,54,55,56] (λ r:Int×Nat=>[]) (λ r=>True) (λ r=>(x7,.cells ⟨Rz (({x48 with Iy:=r.1}:Hu).cl q.1 (m:Int))⟩ 89 (0,0))::(x10,Ov a l c r.2)::(x15,pC x11.1 (m:Int) y.W.pt y.W.ts.length y.W.kt y.W.pe (sV y.W.ex).length y.W.ke)::(x11.1,xM y.W.z)::Er x11.1 y.W.ex) (λ _=>aL y.W.z.L) (λ _=>⟨y.W.pt,tP y.W.ts,y.W.kt,29,2⟩::⟨y.W.pe,Az (sV y.W.ex),y.W.ke,74,1⟩::⟨y.W.z.pn,iO y.W.z.L,y.W.z.cn,47,14⟩::⟨y.W.z.pc,aH y.W.z.cs,y.W.z.cc,37,1⟩::By y.W.ex) (by decide) (λ _=>by exact rfl) ?_ (λ r f hx=>?_)
   ·refine aS ?_
    refine Aa ?_;refine kW ?_;refine aA ?_
    (refine dZ 51 (λ g51=>?_) (λ g51=>?_)<;>refine Ka0 ?_)
    all_goals ((first|refine aI ?_|(refine aE ?_;refine aD (xI (hc:=λ w1 hw=>eX 3 (hw.tape cY fin hl) (by decide) (by decide))) (λ x53 h53=>?_)));refine Ka8 ?_)
    all_goals
    refine bD (λ c55=>?_) (λ c55=>?_)
    ·try exact nv c55
     all_goals (refine dG ?_;refine vF ?_)
     all_goals
      refine eE ((0,oC l x48.pos)) ?_ (hw1:=λ w hw=>hw.back (hF:=aV.all))
      ·trivial
    ·all_goals try (exfalso;omega)
     all_goals refine aW ?_
     all_goals
      refine eE (by first|exact((λ _=>(x48.Iy,oC l x48.pos)) x53)|exact(x48.Iy,x48.pos)) ?_ (hw1:=λ w hw=>hw.back (hF:=aV.all))
      ·trivial
   dsimp only[hX,List.map,List.cons_append,List.nil_append]
  all_goals refine Gi ?_
  all_goals
   refine dX [8,57,58,59,60,61,62,63,64,65,66,67,68,69] (λ s:Nat×Nat=>[(8,.int .i64 ((s.1:Nat):Int))]) (λ s=>s.1<=1048576) (λ s=>(x7,.cells ⟨Rz (({x48 with Iy:=r.1}:Hu).cl q.1 (m:Int))⟩ 89 (0,0))::(x10,Ov a l c s.2)::(x15,pC x11.1 (m:Int) y.W.pt y.W.ts.length y.W.kt y.W.pe (sV y.W.ex).length y.W.ke)::(x11.1,xM y.W.z)::Er x11.1 y.W.ex) (λ _=>aL y.W.z.L) (λ _=>⟨y.W.pt,tP y.W.ts,y.W.kt,29,2⟩::⟨y.W.pe,Az (sV y.W.ex),y.W.ke,74,1⟩::⟨y.W.z.pn,iO y.W.z.L,y.W.z.cn,47,14⟩::⟨y.W.z.pc,aH y.W.z.cs,y.W.z.cc,37,1⟩::By y.W.ex) (by decide) (λ _=>by exact rfl) ?_ (λ s f hx=>?_)
   ·refine aS ?_
    refine Aa ?_;refine dF ?_;refine R3 ?_;refine Bu ?_
    (refine dZ 63 (λ g63=>?_) (λ g63=>?_)<;>refine Ka0 ?_)
    all_goals ((first|refine aI ?_|(refine aE ?_;refine aD (xI (hc:=λ w1 hw=>eX 4 (hw.tape cY fin hl) (by decide) (by decide))) (λ x65 h65=>?_)));refine xT ?_;refine aG ?_)
    all_goals
    refine bD (λ c67=>?_) (λ c67=>?_)
    ·try exact nv c67
     all_goals (refine Aa ?_;refine aD (xI (hc:=λ w1 hw=>eX 16 (hw.tape cY fin hl) (by decide) (by decide))) (λ x69 h69=>?_);refine J1 ?_)
     all_goals
      refine eE ((x69,oC l (oC l r.2))) ?_ (hw1:=λ w hw=>hw.back (hF:=aV.all))
      ·show x69<=1048576;omega
    ·all_goals try (exfalso;omega)
     all_goals refine aW ?_
     all_goals
      refine eE (by first|exact((λ _=>(1048576,oC l r.2)) x65)|exact(1048576,r.2)) ?_ (hw1:=λ w hw=>hw.back (hF:=aV.all))
      ·exact Nat.le_refl 1048576
   dsimp only[hX,List.map,List.cons_append,List.nil_append]
   have hs1:=hx
  all_goals (refine Kb7 ?_;refine aA ?_;refine aD (cT 2 0 (hs:=wH m x15 x11.1 y.W) (os:=wO y.W) (A0:=aL y.W.z.L) (F1:=λ x:Wd×List aP=>aL x.1.z.L) (hc:=λ w hs=>se (q:={x48 with Iy:=r.1}) (kind:=q.1) s.1 hs1 (by omega) (by omega) hm hy.ok (by omega) hq (h48.Iy _) (λ f hf=>hf) hs) (hA:=bB.of λ f hf=>.inr (.inr (.inl hf))) (hF1:=λ x hx f hf=>by rw[hx.2,dE] at hf;exact .inr ((List.mem_append.1 hf).elim (λ h=>List.mem_append_right _ h) (λ h=>List.mem_append_left _ h)))) (λ x73 h73=>?_);refine aG ?_)
  all_goals
   refine dX [74,75,76,77,78,79,80,81,82,83,84,85,86,87,88,89,90,91,92,93,94,95,96,97,98] (λ u:Nat×Wd=>[]) (λ u=>Ns m (8+134217920*(y.i+1)) (1048576+(y.i+1)) (y.i+1) u.2) (λ u=>(x7,.cells ⟨Rz (({x48 with Iy:=r.1}:Hu).cl q.1 (m:Int))⟩ 89 (0,0))::(x10,Ov a l c u.1)::(x15,pC x11.1 (m:Int) u.2.pt u.2.ts.length u.2.kt u.2.pe (sV u.2.ex).length u.2.ke)::(x11.1,xM u.2.z)::Er x11.1 u.2.ex) (λ u=>aL u.2.z.L) (λ u=>⟨u.2.pt,tP u.2.ts,u.2.kt,29,2⟩::⟨u.2.pe,Az (sV u.2.ex),u.2.ke,74,1⟩::⟨u.2.z.pn,iO u.2.z.L,u.2.z.cn,47,14⟩::⟨u.2.z.pc,aH u.2.z.cs,u.2.z.cc,37,1⟩::By u.2.ex) (by decide) (λ _=>by exact rfl) ?_ (λ u f hx=>?_)
   ·refine aS ?_
    refine Aa ?_;refine dF ?_;refine R3 ?_;refine Ay ?_;refine aA ?_
    (refine dZ 80 (λ g80=>?_) (λ g80=>?_)<;>refine Ka0 ?_)
    all_goals ((first|refine aI ?_|(refine aE ?_;refine aD (xI (hc:=λ w1 hw=>eX 3 (hw.tape cY fin hl) (by decide) (by decide))) (λ x82 h82=>?_)));refine xT ?_;refine aG ?_)
    all_goals
    refine bD (λ c84=>?_) (λ c84=>?_)
    ·try exact nv c84
     all_goals (refine eG [(0,[]),(1,[]),(2,[]),(3,[]),(4,[]),(5,[]),(6,[]),(7,[]),(8,[]),(9,[]),(10,[3]),(11,[]),(12,[]),(13,[])] ?_;refine Ym ?_;refine Xf ?_;refine oE ?_;refine bC (i:=10) (hq:=(xI (hc:=λ w1 hw=>eX ((sV x73.1.ex).length:Nat) (hw.tape cY fin hl) (by omega) (by rw[Vd];have:=h73.1.el;omega)))) (h:=λ x95 h95=>?_);refine bT (i:=11) (hq:=(vv (cs:=Az (sV x73.1.ex)) (k:=x95) rf rf gH fZ (.own (.tail .head)) (by omega) (by rw[H2];omega))) (h:=?_);refine bT (i:=12) (hq:=(w4 (cs:=Az (sV x73.1.ex)) (v:=.pointer (some ⟨(sV x73.1.ex).getD x95 0,0,none⟩)) rf fZ (.own (.tail .head)) (ya (by omega)))) (h:=?_);refine bC (i:=13) (hq:=(cT 2 0 (hs:=wH m x15 x11.1 x73.1) (os:=wO x73.1) (A0:=aL x73.1.z.L) (F1:=λ x:Wd×List aP=>aL x.1.z.L) (hc:=λ w hs=>bj (i:=x95) (by rw[<- Vd];omega) (by omega) (by omega) hm h73.1 (λ f hf=>hf) hs) (hA:=bB.of λ f hf=>.inr (.inr (.inl hf))) (hF1:=λ x hx f hf=>by rw[hx.2.2,dE] at hf;exact .inr ((List.mem_append.1 hf).elim (λ h=>List.mem_append_right _ h) (λ h=>List.mem_append_left _ h))))) (h:=λ x98 h98=>?_);refine eU ?_)
     all_goals
      refine eE ((oC l (oC l s.2),x98.1)) ?_ (hw1:=λ w hw=>hw.back (hF:=aV.all))
      ·exact h98.1.mono (by omega) (by omega) (Nat.le_refl _)
    ·all_goals try (exfalso;omega)
     all_goals refine aW ?_
     all_goals
      refine eE (by first|exact((λ _=>(oC l s.2,x73.1)) x82)|exact(s.2,x73.1)) ?_ (hw1:=λ w hw=>hw.back (hF:=aV.all))
      ·exact h73.1.mono (by omega) (by omega) (Nat.le_refl _)
   dsimp only[hX,List.map,List.cons_append,List.nil_append]
  all_goals (refine Kb2 ?_)
  all_goals
   refine jG (⟨y.i+1,u.1,u.2⟩) ?_ (hw1:=λ w hw=>hw.back (hF:=aV.all))
   ·exact⟨by show y.i+1<=18;omega,hx⟩
 ·all_goals try (exfalso;omega)
  all_goals (refine bR rfl ?_;refine Ka5 ?_)
  all_goals
   refine aQ Tryz.results19 (λ w hw=>?_)
   exact⟨(x15,x11.1,m,y.W),rfl,⟨hm,hy.ok.mono (by have:=hy.hi;omega) (by have:=hy.hi;omega) hy.hi⟩,hw.aX (hH:=List.Sublist.cons _ (List.Sublist.refl _)) (hF:=by exact aV.all) (hO:=List.Sublist.refl _)⟩
end

end Go.Proofs.YtbajmaoegmbfgaaGreat
