/- Shape: what the walks need holds of proper states, so of memories with labels. -/
import Derived.Test.YtadnboagdhcedaaGreatDoorGSh9
import Derived.Test.YtadnboagdhcedaaGreatDoorGPc2
import Derived.Test.YtadnboagdhcedaaGreatDoorGPaX
import Derived.Test.YtadnboagdhcedaaGreatDoorGEx24
import Derived.Test.YtadnboagdhcedaaGreatDoorGBits
import Derived.Test.YtadnboagdhcedaaGreatDoorGEx18
import Derived.Test.YtadnboagdhcedaaGreatDoorGKw5

set_option linter.unusedSimpArgs false
set_option linter.unusedVariables false
namespace Go.Proofs.YtadnboagdhcedaaGreatDoor
section
open Go Go.RowKit Go.Ct
section
variable{H:ByteArray->Nat}{σ:Kw}{L:List aK}{cs:List Int}{gen:Int}
theorem Oa{n:Nv}(h:bU n):n.kind≠0:=by unfold bU at h;omega
theorem Q3{c:Int}(h1:1<=c)(h2:c<=cs.length):∃k:Nat,c=((k+1:Nat):Int)/\k<cs.length/\bW cs c=cs.getD k 0:=by
 obtain⟨k,rfl⟩:∃k:Nat,c=((k+1:Nat):Int):=⟨(c-1).toNat,by omega⟩
 exact⟨k,rfl,by omega,Bx (by omega)⟩
theorem Bb{r:Int}(h:(cD (L.map aK.c) r).kind≠0):∃k:Nat,r=((k+1:Nat):Int)/\k<L.length:=by
 have:=cY (N:=L.map aK.c) (i:=r) h
 rw[List.length_map] at this
 exact⟨(r-1).toNat,by omega,by omega⟩
theorem Gu(hp:dH L cs gen){k:Nat}(hk:k<L.length){c:Int}(hc:gD (L.getD k aK.zero).nd=some c):1<=c/\c<=cs.length:=by
 cases hm:marks cs.length (L.take (k+1)) with
 | none=>exact absurd (C1 hm) hp.marks
 | some u =>
  rw[rD hk] at hm
  cases h2:marks cs.length (L.take k) with
  | none=>rw[h2] at hm;cases hm
  | some u2 =>
   rw[h2] at hm
   simp only[eJ,hc] at hm
   split at hm
   ·rename_i h
    have:=yF h2
    omega
   ·cases hm
theorem m4(hp:dH L cs gen):xY L cs:=by
 intro i R hb
 have en:∀r,cD (L.map aK.c) r=(aA L r).c:=λ r=>cH L r
 unfold eA at hb
 split at hb
 case isFalse=>cases hb
 rename_i h1
 have hi:(cD (L.map aK.c) i).kind=2:=h1.1
 have hm:bU (cD (L.map aK.c) (nS (L.map aK.c) cs i)):=h1.2
 obtain⟨i',rfl,hil⟩:=Bb (L:=L) (r:=i) (by omega)
 obtain⟨k,hk,hkl⟩:=Bb (L:=L) (r:=nS (L.map aK.c) cs ((i'+1:Nat):Int)) (Oa hm)
 have hi2:=hi
 have hm2:=hm
 rw[en,fH hil] at hi2
 rw[hk,en,fH hkl] at hm2
 obtain⟨a1,a2⟩:=Gu hp hil (c:=(L.getD i' aK.zero).nd.main) (by unfold gD;exact if_pos hi2)
 obtain⟨b1,b2⟩:=Gu hp hkl (c:=(L.getD k aK.zero).nd.prev) (by unfold gD;rw[if_neg (by have:(L.getD k aK.zero).nd.kind=3∨(L.getD k aK.zero).nd.kind=5∨(L.getD k aK.zero).nd.kind=6:=hm2;omega)];exact if_pos hm2)
 obtain⟨c,hc,hcl,hcv⟩:=Q3 a1 a2
 obtain⟨p,hq,hpl,hpv⟩:=Q3 b1 b2
 have f1:(aA L ((i'+1:Nat):Int)).nd.main=((c+1:Nat):Int):=by rw[fH hil];exact hc
 have f2:(aA L ((k+1:Nat):Int)).nd.prev=((p+1:Nat):Int):=by rw[fH hkl];exact hq
 have hM:nS (L.map aK.c) cs ((i'+1:Nat):Int)=cs.getD c 0:=by
  unfold nS
  rw[en,fH hil,<- hcv]
  rfl
 have f3:cs.getD c 0=((k+1:Nat):Int):=by rw[<- hM];exact hk
 have f4:iE (L.map aK.c) cs ((i'+1:Nat):Int)=cs.getD p 0:=by
  unfold iE
  rw[hk,en,fH hkl,<- hpv]
  rfl
 split at hb
 ·rename_i h0
  cases hb
  refine⟨k,hk,hkl,⟨c,k,p,f1,hcl,f3,hkl,f2,hpl,.inl ⟨by rw[<- f4];exact h0,rfl⟩⟩,?_⟩
  rw[<- en];exact hm
 ·rename_i h0
  split at hb
  case isFalse=>cases hb
  rename_i hq
  cases hb
  obtain⟨r,hr,hrl⟩:=Bb (L:=L) (r:=lY (L.map aK.c) cs ((i'+1:Nat):Int)) (Oa hq)
  have hpk:(cD (L.map aK.c) (iE (L.map aK.c) cs ((i'+1:Nat):Int))).kind≠0:=by
   by_cases h7:(cD (L.map aK.c) (iE (L.map aK.c) cs ((i'+1:Nat):Int))).kind=7
   ·rw[h7];decide
   ·have hq2:bU (cD (L.map aK.c) (lY (L.map aK.c) cs ((i'+1:Nat):Int))):=hq
    unfold lY at hq2
    rw[if_neg h7] at hq2
    exact Oa hq2
  obtain⟨q,hqe,hql⟩:=Bb (L:=L) (r:=iE (L.map aK.c) cs ((i'+1:Nat):Int)) hpk
  refine⟨r,hr,hrl,⟨c,k,p,f1,hcl,f3,hkl,f2,hpl,.inr ⟨q,by rw[<- f4];exact hqe,hql,?_⟩⟩,by rw[<- en];exact hq⟩
  by_cases h7:(cD (L.map aK.c) (iE (L.map aK.c) cs ((i'+1:Nat):Int))).kind=7
  ·refine .inl ⟨?_,?_⟩
   ·rw[en,hqe] at h7;exact h7
   ·have:lY (L.map aK.c) cs ((i'+1:Nat):Int)=(cD (L.map aK.c) (iE (L.map aK.c) cs ((i'+1:Nat):Int))).bL:=by unfold lY;rw[if_pos h7]
    rw[hr,en,hqe] at this
    exact this.symm
  ·refine .inr ⟨?_,?_⟩
   ·rw[en,hqe] at h7;exact h7
   ·have:lY (L.map aK.c) cs ((i'+1:Nat):Int)=iE (L.map aK.c) cs ((i'+1:Nat):Int):=by unfold lY;rw[if_neg h7]
    rw[hr,hqe] at this
    omega
theorem sg(hp:dH L cs gen)(hr:vV L)(hf:Fits L)(hl:L.length<=274877906944)(hh:∀v∈L,∃h:Nat,v.nd.hash=(h:Int)/\h<18446744073709551616):A6 L:=by
 have at_:∀v∈L,lE gen L.length v:=λ v hv=>by
  obtain⟨k,hk,rfl⟩:=List.mem_iff_getElem.1 hv
  have:=hp.nodes k hk
  rwa [fQ,List.getElem?_eq_getElem hk] at this
 refine⟨hf,hl,hh,λ v hv=>?_,λ v hv h45=>?_,λ v hv p hq=>?_,λ v hv x hx=>?_,λ v hv h3=>?_⟩
 all_goals obtain⟨hv',_,hi⟩:=at_ v hv
 ·obtain⟨b,h1,h2⟩:=(hr v hv).bm
  refine⟨b,h1,h2,λ h3=>?_,λ h3=>?_⟩
  ·have:=(nL h3 hv').1
   rw[h1,nI h2] at this
   omega
  ·have h9:v.nd.bm=v.nd.own.bm:=hv'.1.2.2.2.1
   have h10:v.nd.own.bm=0:=by
    unfold Nd.own
    (repeat' split)<;>first|rfl|(exfalso;simp_all;done)
   omega
 ·have:=hv'.2.2.2.2
  rcases this with h|h|h|h|h|h|h
  ·omega
  ·omega
  ·omega
  ·exact h.2
  ·omega
  ·omega
  ·omega
 ·have hys:v.ys=v.nd.eZ v.ys:=hv'.1.2.2.2.2.2.2.2.2.1
  by_cases h6:v.nd.kind=6
  ·have:=hv'.2.2.2.2
   rcases this with h|h|h|h|h|h|h
   ·omega
   ·omega
   ·omega
   ·omega
   ·exact pG.1 h.2.2.2 p hq
   ·omega
   ·omega
  ·rw[hys] at hq
   unfold Nd.eZ at hq
   rw[if_neg (by simpa using h6)] at hq
   exact nomatch hq
 ·have hxs:v.xs=v.nd.fI v.xs:=hv'.1.2.2.2.2.1
  by_cases h3:v.nd.kind=3
  ·obtain⟨j,hj,rfl⟩:=List.mem_iff_getElem.1 hx
   have h2:=(nL h3 hv').2 j hj
   have h4:=(hi.1 j hj).2
   rw[fQ,List.getElem?_eq_getElem hj] at h2 h4
   exact⟨h2,h4⟩
  ·rw[hxs] at hx
   unfold Nd.fI at hx
   rw[if_neg (by simpa using h3)] at hx
   exact nomatch hx
 ·have hxs:v.xs=v.nd.fI v.xs:=hv'.1.2.2.2.2.1
  rw[hxs]
  unfold Nd.fI
  rw[if_neg (by simpa using h3)]
theorem my(i0:Inv H σ)(e:σ.mm.nodes=L.map aK.c)(ec:σ.mm.cs=cs):xY L cs:=by
 have:=i0.prop
 rw[ec] at this
 exact m4 (this.to e.symm)
theorem vn(i0:Inv H σ)(e:σ.mm.nodes=L.map aK.c)(hr:vV L)(hf:Fits L)(hl:L.length<=274877906944):A6 L:=by
 refine sg (i0.prop.to e.symm) hr hf hl λ v hv=>?_
 obtain⟨k,hk,rfl⟩:=List.mem_iff_getElem.1 hv
 have hlen:(σ.len:Int)=L.length:=by show(σ.mm.nodes.length:Int)=_;rw[e,List.length_map]
 have er:σ.nd ((k+1:Nat):Int)=(L[k]).c:=by
  show cD σ.mm.nodes _=_
  rw[e,cH L,fH hk,fQ,List.getElem?_eq_getElem hk]
  rfl
 obtain⟨b,h1,h2⟩:=(i0.nd ((k+1:Nat):Int) (by omega) (by omega)).bd.hash
 rw[er] at h1
 exact⟨b,h1,h2⟩
end
end

/- Worlds: the call of an operation. -/
section
open Go Go.RowKit Go.Ct
section
variable{P:Program}{S:List (Nat×Value)}{d:Nat}{ty t t' e:TypeId}{pos:String}{af:Array Edge}{gd:Option (Nat×Bool)}{x y:Operand}{w0 w:World}{M:List Nat}{H:List (Nat×Obj)}{A F:Fr}{O:List Ow}{a:Option Addr}
end
def z6(kind:Int):Prop:=kind=8∨kind=9∨kind=12∨kind=4
section
variable{P:Program}{S:List (Nat×Value)}{G:World->Prop}{d:Nat}{ty t t':TypeId}{pos:String}{af:Array Edge}{gd:Option (Nat×Bool)}{x y:Operand}
end
section
variable{bw bm tb:Nat}{D:List Nat}{A:Fr}{w:World}{mask:Int}{ts:List eQ}{pt pe:Option Addr}{kt ke ne:Nat}{l:List Int}{a:Option Addr}{c p:Nat}
end
end

/- What a step of one's own changes. -/
section
open Go Go.RowKit Go.Ct
section
variable{H:ByteArray->Nat}{σ τ υ:Kw}
structure Zb(H:ByteArray->Nat)(σ υ:Kw)(c v:Int):Prop where
 le:Le σ υ
 inv:Inv H υ
 at':υ.ce c=v
 other:∀x,x≠c->υ.ce x=σ.ce x
def Eo(σ τ:Kw)(i:Int):Prop:=∀c:Int,1<=c->c<=σ.cl->σ.ct c≠.main i->(∀m,σ.ct c≠.prev m)->τ.ce c=σ.ce c
theorem Eo.refl(σ:Kw)(i:Int):Eo σ σ i:=λ _ _ _ _ _=>rfl
theorem Eo.trans{i:Int}(l:Le σ τ)(h:Eo σ τ i)(h2:Eo τ υ i):Eo σ υ i:=λ c h1 hc a b=>by
 have e:=l.ct c hc
 rw[h2 c h1 (by have:=l.cl;omega) (by rw[e];exact a) (λ m=>by rw[e];exact b m)]
 exact h c h1 hc a b
theorem Bm{c v i:Int}(h:Zb H σ υ c v)(hc:σ.ct c=.main i∨∃m,σ.ct c=.prev m):Eo σ υ i:=λ x _ _ a b=>h.other x λ e=>by
 subst e
 rcases hc with hc|⟨m,hc⟩
 ·exact a hc
 ·exact b m hc
theorem Yv{n:Nv}{x i:Int}(l:Le σ υ)(e:υ.mm=σ.mm.push n x):Eo σ υ i:=λ c' _ hc _ _=>by
 have e2:υ.mm.cs=fZ n.kind σ.mm.cs x:=by rw[e];rfl
 show bW υ.mm.cs c'=_
 rw[e2]
 unfold fZ
 split
 ·exact pQ hc
 ·rfl
end
end

/- Procedures among others or alone: their labels, how many accesses they make, who settles what. -/
section
open Go Go.RowKit Go.Ct
structure Xp where
 H:ByteArray->Nat
 Q:Rs->Kw->Prop
 A:Tr->Prop
 C:Nat
 E:Kw->Prop
 R:Int->Int->Tr->Kw->Prop
 b:Bool
 al:Bool
structure Gg(X:Xp)(σ τ:Kw):Prop where
 le:Le σ τ
 inv:Inv X.H τ
 solo:X.b=false->τ=σ
def XT(X:Xp):Tr->Nat->Kw->Prop
 | .done r,_,σ=>X.E σ∨X.Q r σ
 | .load c k,n,σ=>X.E σ∨∃m,(n=m+1∨(X.A (.load c k)/\m=X.C))/\∀τ,Gg X σ τ->XT X (k (τ.ce c)) m τ
 | .nW c o v k,n,σ=>X.E σ∨∃m,n=m+1/\∀τ,Gg X σ τ->(iG τ.mm.cs c o->Le τ (τ.set c o v)/\Inv X.H (τ.set c o v)/\X.R c v (k true) (τ.set c o v)/\XT X (k true) m (τ.set c o v))/\(¬iG τ.mm.cs c o->XT X (k false) m τ)
 | .alloc nd i k,n,σ=>X.E σ∨((nd.kind=2->aV σ i)/\(X.al=true->∀υ,Le σ υ->Inv X.H υ->υ.mm=σ.mm.push nd i->XT X (k ((σ.len+1:Nat):Int)) n υ)/\(X.al=false->∃υ,Le σ υ/\Inv X.H υ/\υ.mm=σ.mm.push nd i/\XT X (k ((σ.len+1:Nat):Int)) n υ))
 | .cell i k,n,σ=>X.E σ∨((σ.nd i).kind=2/\(X.al=true->∀υ,Le σ υ->Inv X.H υ->υ.mm=⟨σ.mm.nodes,σ.mm.cs++[i],σ.mm.gen⟩->XT X (k ((σ.cl+1:Nat):Int)) n υ)/\(X.al=false->∃υ,Le σ υ/\Inv X.H υ/\υ.mm=⟨σ.mm.nodes,σ.mm.cs++[i],σ.mm.gen⟩/\XT X (k ((σ.cl+1:Nat):Int)) n υ))
 | .gen k,n,σ=>X.E σ∨((X.al=true->∀υ,Le σ υ->Inv X.H υ->υ.mm=⟨σ.mm.nodes,σ.mm.cs,σ.mm.gen+1⟩->XT X (k (σ.mm.gen+1)) n υ)/\(X.al=false->∃υ,Le σ υ/\Inv X.H υ/\υ.mm=⟨σ.mm.nodes,σ.mm.cs,σ.mm.gen+1⟩/\XT X (k (σ.mm.gen+1)) n υ))
 | .node r k,n,σ=>X.E σ∨(r<=σ.len/\XT X (k (σ.nd r)) n σ)
 | .stuck,_,_=>True
section
variable{X:Xp}{σ τ υ:Kw}
theorem Gg.refl(i:Inv X.H σ):Gg X σ σ:=⟨Le.refl σ,i,λ _=>rfl⟩
theorem Gg.trans(i0:Inv X.H σ)(h:Gg X σ τ)(h2:Gg X τ υ):Gg X σ υ:=⟨h.le.trans i0 h.inv h2.le,h2.inv,λ e=>(h2.solo e).trans (h.solo e)⟩
theorem XT.stop{t:Tr}{n:Nat}(h:X.E σ):XT X t n σ:=by cases t<;>first|exact .inl h|trivial
theorem XT.mono:∀{t:Tr} {n m:Nat} {σ:Kw},n<=m->XT X t n σ->XT X t m σ:=by
 intro t
 induction t with
 | done r=>intro n m σ _ h;exact h
 | stuck=>intro n m σ _ _;trivial
 | load c k ih =>
  intro n m σ hnm h
  rcases h with h|⟨q,e,h⟩
  ·exact .inl h
  ·rcases e with e|e
   ·exact .inr ⟨m-1,.inl (by omega),λ τ hg=>ih _ (by omega) (h τ hg)⟩
   ·exact .inr ⟨q,.inr e,h⟩
 | nW c o v k ih =>
  intro n m σ hnm h
  rcases h with h|⟨q,e,h⟩
  ·exact .inl h
  ·refine .inr ⟨m-1,by omega,λ τ hg=>⟨λ hc=>?_,λ hc=>ih _ (by omega) ((h τ hg).2 hc)⟩⟩
   obtain⟨a,b,r,d⟩:=(h τ hg).1 hc
   exact⟨a,b,r,ih _ (by omega) d⟩
 | alloc nd i k ih =>
  intro n m σ hnm h
  rcases h with h|⟨a,b,d⟩
  ·exact .inl h
  ·refine .inr ⟨a,λ ha υ l i1 e=>ih _ hnm (b ha υ l i1 e),λ ha=>?_⟩
   obtain⟨υ,l,i1,e,d⟩:=d ha
   exact⟨υ,l,i1,e,ih _ hnm d⟩
 | cell i k ih =>
  intro n m σ hnm h
  rcases h with h|⟨a,b,d⟩
  ·exact .inl h
  ·refine .inr ⟨a,λ ha υ l i1 e=>ih _ hnm (b ha υ l i1 e),λ ha=>?_⟩
   obtain⟨υ,l,i1,e,d⟩:=d ha
   exact⟨υ,l,i1,e,ih _ hnm d⟩
 | gen k ih =>
  intro n m σ hnm h
  rcases h with h|⟨b,d⟩
  ·exact .inl h
  ·refine .inr ⟨λ ha υ l i1 e=>ih _ hnm (b ha υ l i1 e),λ ha=>?_⟩
   obtain⟨υ,l,i1,e,d⟩:=d ha
   exact⟨υ,l,i1,e,ih _ hnm d⟩
 | node r k ih =>
  intro n m σ hnm h
  rcases h with h|⟨a,d⟩
  ·exact .inl h
  ·exact .inr ⟨a,ih _ hnm d⟩
theorem XT.fresh{c:Int}{k:Int->Tr}{n:Nat}(ha:X.A (.load c k))(h:XT X (.load c k) (X.C+1) σ):XT X (.load c k) n σ:=by
 rcases h with h|⟨q,e,h⟩
 ·exact .inl h
 ·refine .inr ⟨X.C,.inr ⟨ha,rfl⟩,λ τ hg=>?_⟩
  have:=h τ hg
  rcases e with e|e
  ·rwa [show q=X.C by omega] at this
  ·rwa [e.2] at this
theorem cG{r:Int}{k:Nv->Tr}{n:Nat}(h:r<=σ.len)(w:XT X (k (σ.nd r)) n σ):XT X (.node r k) n σ:=.inr ⟨h,w⟩
theorem mH{c:Int}{k:Int->Tr}{n:Nat}(h:∀τ,Gg X σ τ->XT X (k (τ.ce c)) n τ):XT X (.load c k) (n+1) σ:=.inr ⟨n,.inl rfl,h⟩
structure y9(X:Xp)(σ τ:Kw)(c o v:Int)(bb:Bool):Prop where
 t:bb=true->τ.ce c=v
 f:bb=false->τ.ce c≠o
 s:X.b=false->(bb=true/\σ.ce c=o/\Zb X.H σ τ c v)∨(bb=false/\τ=σ)
structure Sk(X:Xp):Prop where
 r0:∀c v t υ,(∀i,υ.ct c≠.main i)->υ.ct c≠.root->X.R c v t υ
 r1:∀c v t υ i,υ.ct c=.main i->aV υ v->X.R c v t υ
 r2:∀υ t i w g m K,Inv X.H υ->bR υ t->mU υ i w g->lP υ m w g->X.R (υ.nd i).main m (uN t i m K) υ
 r3:∀c v t υ,υ.ct c=.root->(υ.nd v).kind=2->X.R c v t υ
 r4:∀υ t d (K:Int->Int->Tr),Inv X.H υ->bR υ t->t.ro=false->(υ.nd d).kind=8->X.R t.root d (uG t d (.node d λ nd=>.load nd.status λ s=>E1 t d s (K s))) υ
theorem Am{c o v:Int}{k:Bool->Tr}{n:Nat}(h1:1<=c)(h2:c<=σ.cl)(i0:Inv X.H σ)(hset:∀τ,Le σ τ->Inv X.H τ->iG τ.mm.cs c o->Rm τ c o v)
  (hR:∀υ,Le σ υ->Inv X.H υ->υ.ce c=v->X.R c v (k true) υ)
  (hk:∀τ bb,Le σ τ->Inv X.H τ->y9 X σ τ c o v bb->XT X (k bb) n τ):XT X (.nW c o v k) (n+1) σ :=
 .inr ⟨n,rfl,λ τ hg=>⟨λ hc=>by
  obtain⟨l2,i2,e3⟩:=bo hg.inv hc (hset τ hg.le hg.inv hc)
  have l:=hg.le.trans i0 hg.inv l2
  refine⟨l2,i2,hR _ l i2 e3,hk _ true l i2 ⟨λ _=>e3,λ h=>(nomatch h),λ hb=>.inl ⟨rfl,?_⟩⟩⟩
  have e:=hg.solo hb
  subst e
  refine⟨sK hc,l2,i2,e3,λ x hx=>?_⟩
  show bW (fU τ.mm.cs c o v) x=_
  rw[iS hc,if_neg hx],
 λ hc=>hk τ false hg.le hg.inv ⟨λ h=>(nomatch h),λ _=>wc h1 (by have:=hg.le.cl;simp only[Kw.cl] at *;omega) hc,λ hb=>.inr ⟨rfl,hg.solo hb⟩⟩⟩⟩
variable{w:List Nat}{g:Int}
theorem Gp(cs:List Int)(x:Int):bW (cs++[x]) ((cs.length+1:Nat):Int)=x:=by
 unfold bW
 rw[if_pos ⟨by omega,by simp⟩,show(((cs.length+1:Nat):Int)-1).toNat=cs.length by omega]
 simp[fQ]
structure N3(σ υ:Kw)(n:Nv)(c r:Int):Prop where
 mm:υ.mm=σ.mm.push n c
 re:r=((σ.len+1:Nat):Int)
 nd:υ.nd r=cO n σ.cl
 r1:1<=r
 r2:r<=υ.len
structure jb(σ υ:Kw)(n:Nv)(c r:Int)(w:List Nat)(g:Int):Prop extends N3 σ υ n c r where
 way:υ.way r=w
 gb:υ.gb r=g
theorem Dh{n:Nv}{c:Int}(e:υ.mm=σ.mm.push n c):N3 σ υ n c ((σ.len+1:Nat):Int):=by
 have hl:υ.len=σ.len+1:=by simp only[Kw.len,e,Mm.push,List.length_append,List.length_cons,List.length_nil]
 refine⟨e,rfl,?_,by omega,by omega⟩
 show cD υ.mm.nodes _=_
 rw[e]
 simp only[Mm.push,cD,List.length_append,List.length_cons,List.length_nil]
 rw[if_pos ⟨by omega,by simp only[Kw.len];omega⟩]
 have e:(((σ.len+1:Nat):Int)-1).toNat=σ.mm.nodes.length:=by simp only[Kw.len];omega
 rw[e]
 simp[fQ]
theorem N3.ce{n:Nv}{c r x:Int}(h:N3 σ υ n c r)(hx:x<=σ.cl):υ.ce x=σ.ce x:=by
 have e2:υ.mm.cs=fZ n.kind σ.mm.cs c:=by rw[h.mm];rfl
 show bW υ.mm.cs x=_
 rw[e2]
 unfold fZ
 split
 ·exact pQ hx
 ·rfl
theorem N3.mb{n:Nv}{c r i:Int}(h:N3 σ υ n c r)(l:Le σ υ):Eo σ υ i:=Yv l h.mm
theorem N3.new{n:Nv}{c r:Int}(h:N3 σ υ n c r)(hk:n.kind=2∨n.kind=3∨n.kind=5∨n.kind=6∨n.kind=8):υ.ce ((σ.cl+1:Nat):Int)=c:=by
 have e2:υ.mm.cs=σ.mm.cs++[c]:=by rw[h.mm];unfold Mm.push fZ;dsimp only;rw[if_pos hk]
 show bW υ.mm.cs _=c
 rw[e2]
 exact Gp _ _
theorem N3.prev{n:Nv}{c r:Int}(h:N3 σ υ n c r)(hk:bU n):υ.ce (υ.nd r).prev=c:=by
 have hk':n.kind=3∨n.kind=5∨n.kind=6:=hk
 rw[h.nd,show(cO n σ.cl).prev=((σ.cl+1:Nat):Int) from if_pos hk']
 exact h.new (by omega)
theorem N3.main{n:Nv}{c r:Int}(h:N3 σ υ n c r)(hk:n.kind=2):υ.ce (υ.nd r).main=c:=by
 rw[h.nd,show(cO n σ.cl).main=((σ.cl+1:Nat):Int) from if_pos hk]
 exact h.new (.inl hk)
theorem N3.stat{n:Nv}{c r:Int}(h:N3 σ υ n c r)(hk:n.kind=8):υ.ce (υ.nd r).status=c:=by
 rw[h.nd,show(cO n σ.cl).status=((σ.cl+1:Nat):Int) from if_pos hk]
 exact h.new (.inr (.inr (.inr (.inr hk))))
theorem gP{nd:Nv}{c:Int}{k:Int->Tr}{n:Nat}(hal:X.al=false)(i0:Inv X.H σ)(hn:iX X.H σ nd w g)(hc:R4 σ nd c w g)
  (hk:∀υ r,Le σ υ->Inv X.H υ->jb σ υ nd c r w g->XT X (k r) n υ) (h2:nd.kind=2->aV σ c:=by intro h;first|exact cX (a:=3) (b:=2) h|exact cX (a:=4) (b:=2) h|exact cX (a:=5) (b:=2) h|exact cX (a:=6) (b:=2) h|exact cX (a:=7) (b:=2) h|exact cX (a:=8) (b:=2) h|exact absurd h (bU.ne0 (by assumption)).2.2.1):XT X (.alloc nd c k) n σ:=by
 obtain⟨υ,l2,i2,e2,e3,e4,e5⟩:=Vi i0 hn hc
 exact .inr ⟨h2,λ h=>(by rw[hal] at h;cases h),λ _=>⟨υ,l2,i2,e2,hk υ _ l2 i2 ⟨Dh e2,e4,e5⟩⟩⟩
theorem fg{nd:Nv}{c:Int}{k:Int->Tr}{n:Nat}(i0:Inv X.H σ)(hn:iX X.H σ nd w g)(hc:R4 σ nd c w g)(h2:nd.kind≠2)
  (hk:∀υ r,Le σ υ->Inv X.H υ->N3 σ υ nd c r->XT X (k r) n υ):XT X (.alloc nd c k) n σ:=by
 obtain⟨υ,l2,i2,e2,e3,e4,e5⟩:=Vi i0 hn hc
 exact .inr ⟨λ h=>absurd h h2,λ _ υ l i1 e=>hk υ _ l i1 (Dh e),λ _=>⟨υ,l2,i2,e2,hk υ _ l2 i2 (Dh e2)⟩⟩
end
end

end Go.Proofs.YtadnboagdhcedaaGreatDoor
