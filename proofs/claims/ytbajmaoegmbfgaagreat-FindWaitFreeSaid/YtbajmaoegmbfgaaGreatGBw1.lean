/- Lookups: how many accesses are left, whatever other lookups do. -/
import Derived.Test.YtbajmaoegmbfgaaGreatGKw5
import Derived.Test.YtbajmaoegmbfgaaGreatGWo6
import Derived.Test.YtbajmaoegmbfgaaGreatGFd2
import Derived.Test.YtbajmaoegmbfgaaGreatGLk5
import Derived.Test.YtbajmaoegmbfgaaGreatGEqs
import Derived.Test.YtbajmaoegmbfgaaGreatGVw1
import Derived.Test.YtbajmaoegmbfgaaGreatGAr8
import Derived.Test.YtbajmaoegmbfgaaGreatGSlices
import Derived.Test.YtbajmaoegmbfgaaGreatGBr2
import Derived.Test.YtbajmaoegmbfgaaGreatGArH
import Derived.Test.YtbajmaoegmbfgaaGreatGBit2
import Derived.Test.YtbajmaoegmbfgaaGreatGWo1
import Derived.Test.YtbajmaoegmbfgaaGreatKw8

set_option linter.unusedSimpArgs false
set_option linter.unusedVariables false
namespace Go.Proofs.YtbajmaoegmbfgaaGreat
section
open Go.Ct
structure RJ(H:ByteArray->Nat)(σ τ:Kw):Prop where
 le:Le σ τ
 inv:Inv H τ
 rt:∀c:Int,1<=c->c<=σ.cl->σ.ct c=.root->τ.ce c=σ.ce c∨(τ.nd (τ.ce c)).kind=2
def BW(H:ByteArray->Nat):Tr->Nat->Kw->Prop
 | .done _,_,_=>True
 | .stuck,_,_=>True
 | .load _ _,0,_=>False
 | .load c k,n+1,σ=>∀τ,RJ H σ τ->BW H (k (τ.ce c)) n τ
 | .jN _ _ _ _,0,_=>False
 | .jN c o v k,n+1,σ=>∀τ,RJ H σ τ->(iI τ.mm.cs c o->∃υ,RJ H τ υ/\υ.mm=⟨τ.mm.nodes,eD τ.mm.cs c o v,τ.mm.gen⟩/\BW H (k true) n υ)/\(¬iI τ.mm.cs c o->BW H (k false) n τ)
 | .alloc nd i k,n,σ=>∃υ,RJ H σ υ/\υ.mm=σ.mm.push nd i/\BW H (k ((σ.len+1:Nat):Int)) n υ
 | .cell _ _,_,_=>False
 | .gen _,_,_=>False
 | .node r k,n,σ=>r<=σ.len/\BW H (k (σ.nd r)) n σ
section
variable{H:ByteArray->Nat}{σ τ υ:Kw}{i m p g:Int}{w:List Nat}{t:fL}{n:Nat}
theorem RJ.refl(i0:Inv H σ):RJ H σ σ:=⟨Le.refl σ,i0,λ _ _ _ _=>.inl rfl⟩
theorem RJ.trans(i0:Inv H σ)(h:RJ H σ τ)(h2:RJ H τ υ):RJ H σ υ:=by
 refine⟨h.le.trans i0 h.inv h2.le,h2.inv,λ c h1 hc e=>?_⟩
 have e2:τ.ct c=.root:=(h.le.ct c hc).trans e
 have hc2:c<=τ.cl:=by have:=h.le.cl;omega
 rcases h2.rt c h1 hc2 e2 with e3|e3
 ·rcases h.rt c h1 hc e with e4|e4
  ·exact .inl (e3.trans e4)
  ·exact .inr (by rw[e3,h2.le.nd (h.inv.ce c h1 hc2).hi];exact e4)
 ·exact .inr e3
theorem BW.mono:∀{t:Tr} {n m:Nat} {σ:Kw},n<=m->BW H t n σ->BW H t m σ:=by
 intro t
 induction t with
 | done r=>intro n m σ _ _;trivial
 | stuck=>intro n m σ _ _;trivial
 | load c k ih =>
  intro n m σ hnm h
  cases n with
  | zero=>exact h.elim
  | succ n =>
   obtain⟨m,rfl⟩:∃m',m=m'+1:=⟨m-1,by omega⟩
   exact λ τ j=>ih _ (by omega) (h τ j)
 | jN c o v k ih =>
  intro n m σ hnm h
  cases n with
  | zero=>exact h.elim
  | succ n =>
   obtain⟨m,rfl⟩:∃m',m=m'+1:=⟨m-1,by omega⟩
   exact λ τ j=>⟨λ hc=>by
    obtain⟨υ,j2,e,hb⟩:=(h τ j).1 hc
    exact⟨υ,j2,e,ih _ (by omega) hb⟩,λ hc=>ih _ (by omega) ((h τ j).2 hc)⟩
 | alloc nd i k ih =>
  intro n m σ hnm h
  obtain⟨υ,j2,e,hb⟩:=h
  exact⟨υ,j2,e,ih _ hnm hb⟩
 | cell i k ih=>intro n m σ _ h;exact h.elim
 | gen k ih=>intro n m σ _ h;exact h.elim
 | node r k ih=>intro n m σ hnm h;exact⟨h.1,ih _ hnm h.2⟩
def Rst(t:Tr):Prop:=dG t=true∨t=.stuck
theorem BW.aCv{t:Tr}(hr:Rst t)(i0:Inv H σ)(j:RJ H σ τ)(h:BW H t n σ):BW H t n τ:=by
 cases t with
 | done r=>trivial
 | stuck=>trivial
 | load c k =>
  cases n with
  | zero=>exact h.elim
  | succ n=>exact λ υ j2=>h υ (j.trans i0 j2)
 | jN c o v k =>
  cases n with
  | zero=>exact h.elim
  | succ n=>exact λ υ j2=>h υ (j.trans i0 j2)
 | alloc nd i k=>rcases hr with h|h<;>cases h
 | cell i k=>rcases hr with h|h<;>cases h
 | gen k=>rcases hr with h|h<;>cases h
 | node r k=>rcases hr with h|h<;>cases h
theorem r0{nd:Nv}{c:Int}(l:Le σ υ)(i2:Inv H υ)(e:υ.mm=σ.mm.push nd c):RJ H σ υ:=⟨l,i2,λ c' h1 hc _=>.inl (by
 have e2:υ.mm.cs=fX nd.kind σ.mm.cs c:=by rw[e];rfl
 show cS υ.mm.cs c'=_
 rw[e2]
 unfold fX
 split
 ·exact I9 hc
 ·rfl)⟩
theorem yj{c o v:Int}(l:Le τ υ)(i2:Inv H υ)(hc:iI τ.mm.cs c o)(e:υ.mm=⟨τ.mm.nodes,eD τ.mm.cs c o v,τ.mm.gen⟩)(hv:τ.ct c=.root->(τ.nd v).kind=2):RJ H τ υ:=⟨l,i2,λ c' h1 h2 e2=>by
 have e3:υ.ce c'=if c'=c then v else τ.ce c':=by show cS υ.mm.cs c'=_;rw[e];exact lJ hc c'
 by_cases e4:c'=c
 ·refine .inr ?_
  rw[e3,if_pos e4]
  show(eA υ.mm.nodes v).kind=2
  rw[e]
  exact hv (by rw[<- e4];exact e2)
 ·exact .inl (by rw[e3,if_neg e4])⟩
theorem B3{c o v:Int}{k:Bool->Tr}(h1:1<=c)(h2:c<=σ.cl)(i0:Inv H σ)(hset:∀τ,RJ H σ τ->iI τ.mm.cs c o->Pe τ c o v)(hv:∀τ,RJ H σ τ->τ.ct c=.root->(τ.nd v).kind=2)
  (hk:∀τ b,RJ H σ τ->(b=true->τ.ce c=v)->(b=false->τ.ce c≠o)->BW H (k b) n τ):BW H (.jN c o v k) (n+1) σ:=λ τ j =>
 ⟨λ hc=>by
  obtain⟨υ,l2,i2,e2,e3⟩:=iu j.inv hc (hset τ j hc)
  have j2:=yj l2 i2 hc e2 (hv τ j)
  exact⟨υ,j2,e2,hk υ true (j.trans i0 j2) (λ _=>e3) (λ h=>nomatch h)⟩,
 λ hc=>hk τ false j (λ h=>nomatch h) (λ _=>vq h1 (by have:=j.le.cl;simp only[Kw.cl] at *;omega) hc)⟩
abbrev wi(H:ByteArray->Nat)(σ:Kw)(w:List Nat)(g:Int)(K:Int->Tr)(n:Nat):Prop:=∀τ v,RJ H σ τ->oS τ v w g->BW H (K v) n τ
theorem wi.up{K:Int->Tr}(i0:Inv H σ)(h:wi H σ w g K n)(j:RJ H σ τ):wi H τ w g K n:=λ υ v j2=>h υ v (j.trans i0 j2)
theorem L7{c:Int}{x:CT}(hx:x≠.root)(hc:c<=σ.cl)(e:σ.ct c=x):∀τ,RJ H σ τ->τ.ct c=.root->(τ.nd p).kind=2:=λ τ j h=>by
 rw[j.le.ct c hc,e] at h
 exact absurd h hx
theorem cg{K:Int->Tr}(i0:Inv H σ)(hi:rY σ i w g)(hm:oS σ m w g)(h7:(σ.nd p).kind=7)(hp:oP σ m (σ.nd p).bN)(hK:wi H σ w g K n):BW H (H5 i m p K) (n+1) σ:=by
 have hr:1<=p/\p<=σ.len:=eR (N:=σ.mm.nodes) (i:=p) (by rw[h7];decide)
 have hc:=i0.vB hi.1.1
 have hold:oS σ (σ.nd p).bN w g:=by have:=hp.1;rw[hm.2.1] at this;exact this.le hm.2.2
 refine⟨hi.in.2,hr.2,B3 hc.1 hc.2.1 i0 (λ τ j _=>Qj i0 hi hold j.le j.inv) (L7 (by intro h;cases h) hc.2.1 hc.2.2) (λ τ b j _ _=>⟨by have:=j.le.len;have:=hr.2;omega,?_⟩)⟩
 rw[j.le.nd hr.2]
 exact hK τ _ j (hold.up j.le)
theorem Hi{K:Int->Tr}(i0:Inv H σ)(hi:rY σ i w g)(hm:oS σ m w g)(hp:Ft σ m p)(hd:σ.ce (σ.nd m).prev≠p)(hK:wi H σ w g K n):BW H (jG i m K) (n+2) σ:=by
 have hc:=hp.cell i0
 have hr:=hm.in
 refine⟨hr.2,λ τ j=>?_⟩
 have l1:=j.le
 have i1:=j.inv
 have hp1:=hp.up i0 i1 l1
 have e1:(τ.nd m).prev=(σ.nd m).prev:=by rw[l1.nd hr.2]
 have hce:=hp1.ce
 rw[e1] at hce
 have hne:τ.ce (σ.nd m).prev≠p:=by
  have hx:=l1.nxt hc.1 hc.2.1 hc.2.2
  have hk:¬dS (σ.nd (σ.ce (σ.nd m).prev)):=by
   rcases hp.ce with e|e|e
   ·exact absurd e hd
   ·rw[e];exact hY (.inl (sO _))
   ·exact hY (.inr (.inl e.1))
  rw[hx.1 hk]
  exact hd
 try dsimp only
 split
 ·exact(hK τ m j (hm.up l1)).mono (by omega)
 ·rename_i e0
  rcases hce with e|e|⟨e,e2⟩
  ·exact absurd e hne
  ·exact absurd e e0
  ·exact cg i1 (hi.up l1) (hm.up l1) e (by rw[e2];exact hp1.pm) (hK.up i0 j)
theorem Wl{K:Int->Tr}{c:Bool}(i0:Inv H σ)(hi:rY σ i w g)(hm:oS σ m w g)(hp:Ft σ m p)(hK:wi H σ w g K n):BW H (jC i m p c K) (n+3) σ:=by
 have hr:=hm.in
 have hc:=hp.cell i0
 unfold jC
 try dsimp only
 split
 ·refine⟨hr.2,B3 hc.1 hc.2.1 i0 (λ τ j _=>?_) (L7 (by intro h;cases h) hc.2.1 hc.2.2) (λ τ b j ht hf=>?_)⟩
  ·have l1:=j.le
   have e:τ.ct (σ.nd m).prev=.prev m:=by rw[l1.ct _ hc.2.1];exact hc.2.2
   refine⟨Int.le_refl _,bH _,λ i' h=>?_,λ m' h=>⟨(hp.up i0 j.inv l1).pk,.inl rfl⟩,λ d h=>.inl rfl,λ h=>?_,λ h=>?_⟩<;>rw[e] at h<;>cases h
  ·have l1:=j.le
   have i1:=j.inv
   refine Hi i1 (hi.up l1) (hm.up l1) (hp.up i0 i1 l1) ?_ (hK.up i0 j)
   rw[l1.nd hr.2]
   cases b with
   | true=>rw[ht rfl];have:=(jF hp.pk).1;omega
   | false=>exact hf rfl
 ·obtain⟨υ,l1,i1,em,e1,_,_⟩:=uq (w:=[]) (g:=0) i0 (Oy i0 hp.pk) (i:=0) ⟨⟨Int.le_refl _,bH _⟩,λ k=>eF (a:=7) (b:=2) k,λ k=>absurd k (hY (.inr (.inl rfl))),λ _=>rfl⟩
  have j1:=r0 l1 i1 em
  refine⟨hr.2,υ,j1,em,?_⟩
  have hf2:((σ.len+1:Nat):Int)<=υ.len:=by
   have:υ.len=σ.len+1:=by simp only[Kw.len,em,Mm.push,List.length_append,List.length_cons,List.length_nil]
   omega
  have hp1:=hp.up i0 i1 l1
  have hc1:=hp1.cell i1
  have e0:(υ.nd m).prev=(σ.nd m).prev:=by rw[l1.nd hr.2]
  rw[e0] at hc1
  have h7:(υ.nd ((σ.len+1:Nat):Int)).kind=7/\(υ.nd ((σ.len+1:Nat):Int)).bN=p:=by rw[e1];exact⟨rfl,rfl⟩
  generalize ((σ.len+1:Nat):Int)=f at hf2 h7 ⊢
  have hf1:1<=f:=(eR (N:=υ.mm.nodes) (i:=f) (by rw[show(eA υ.mm.nodes f).kind=7 from h7.1];decide)).1
  refine B3 hc1.1 hc1.2.1 i1 (λ τ j _=>?_) (L7 (by intro h;cases h) hc1.2.1 hc1.2.2) (λ τ b j ht hf=>?_)
  ·have l2:=j.le
   have e:τ.ct (σ.nd m).prev=.prev m:=by rw[l2.ct _ hc1.2.1];exact hc1.2.2
   refine⟨by omega,by have:=l2.len;omega,λ i' h=>?_,λ m' h=>⟨(hp1.up i1 j.inv l2).pk,.inr ?_⟩,λ d h=>?_,λ h=>?_,λ h=>?_⟩
   ·rw[e] at h;cases h
   ·rw[l2.nd hf2];exact h7
   ·rw[e] at h;cases h
   ·rw[e] at h;cases h
   ·rw[e] at h;cases h
  ·have l2:=j.le
   have i2:=j.inv
   have hp2:=hp1.up i1 i2 l2
   refine Hi i2 ((hi.up l1).up l2) ((hm.up l1).up l2) hp2 ?_ ((hK.up i0 j1).up i1 j)
   rw[l2.nd (by have:=l1.len;omega),e0]
   cases b with
   | true =>
    rw[ht rfl]
    intro e
    have:=hp1.pk
    rw[<- e] at this
    exact absurd this (hY (.inr (.inl h7.1)))
   | false=>exact hf rfl
def oO(σ:Kw)(t:fL):Prop:=(σ.nd (σ.ce t.root)).kind=2
theorem oO.up(i0:Inv H σ)(hT:cQ σ t)(h:oO σ t)(j:RJ H σ τ):oO τ t:=by
 cases hr:t.ro with
 | true=>exact((hT.up j.le).roI j.inv hr).1
 | false =>
  rcases j.rt _ hT.1 hT.2.1 (hT.rw hr) with e|e
  ·unfold oO
   rw[e,j.le.nd (i0.ce _ hT.1 hT.2.1).hi]
   exact h
  ·exact e
abbrev KRB(H:ByteArray->Nat)(σ:Kw)(K:Int->Tr)(n:Nat):Prop:=∀τ r,RJ H σ τ->wF τ r []->BW H (K r) n τ
theorem KRB.up{K:Int->Tr}(i0:Inv H σ)(h:KRB H σ K n)(j:RJ H σ τ):KRB H τ K n:=λ υ v j2=>h υ v (j.trans i0 j2)
theorem M8{v s:Int}{K:Int->Tr}(hT:cQ σ t)(hro:t.ro=false)(i0:Inv H σ)(h:(σ.nd v).kind=8)(hv:σ.ce t.root=v∨oO σ t)(hK:∀τ r,RJ H σ τ->wF τ r []->oO τ t->BW H (K r) n τ):BW H (oG t v s K) (n+1) σ:=by
 have hd:=i0.desc h
 refine⟨hd.1,?_⟩
 show BW H (.jN t.root v (if s=1 then(σ.nd v).new else(σ.nd v).bN) λ _=>K (if s=1 then(σ.nd v).new else(σ.nd v).bN)) (n+1) σ
 have hw:wF σ (if s=1 then(σ.nd v).new else(σ.nd v).bN) []:=by split;exact hd.2.2.1;exact hd.2.1
 generalize (if s=1 then(σ.nd v).new else(σ.nd v).bN)=w at hw ⊢
 refine B3 hT.1 hT.2.1 i0 (λ τ j _=>?_) (λ τ j _=>(hw.up j.le).1) (λ τ b j ht hf=>hK τ w j (hw.up j.le) ?_)
 ·have l1:=j.le
  have e:=(hT.up l1).rw hro
  have hw1:=hw.up l1
  refine⟨by have:=hw1.in;omega,hw1.in.2,λ i' h=>?_,λ m' h=>?_,λ d h=>?_,λ h=>.inl hw1,λ h=>?_⟩<;>rw[e] at h<;>cases h
 ·cases b with
  | true =>
   unfold oO
   rw[ht rfl]
   exact(hw.up j.le).1
  | false =>
   rcases hv with hv|hv
   ·rcases j.rt _ hT.1 hT.2.1 (hT.rw hro) with e|e
    ·exact absurd (e.trans hv) (hf rfl)
    ·exact e
   ·exact hv.up i0 hT j
theorem Ul{v s:Int}(i0:Inv H σ)(h:(σ.nd v).kind=8):∀τ,RJ H σ τ->τ.ct (σ.nd v).status=.root->(τ.nd s).kind=2:=L7 (by intro h;cases h) (i0.desc h).2.2.2.2.1 (i0.desc h).2.2.2.2.2
theorem lh{K:Int->Tr}(hT:cQ σ t)(i0:Inv H σ)(hR:oO σ t)(hK:KRB H σ K n):BW H (tU t K) (n+1) σ:=λ τ j=>by
 have hT1:=hT.up j.le
 have hv:=N0 hT1 j.inv
 have hR1:=hR.up i0 hT j
 unfold oO at hR1
 generalize τ.ce t.root=v at hv hR1 ⊢
 refine⟨hv.1,?_⟩
 try dsimp only
 rw[if_pos hR1]
 rcases hv.2 with h|h
 ·exact hK τ v j h
 ·rw[h.1] at hR1;exact absurd hR1 (by decide)
theorem qn{K:Int->Tr}(hT:cQ σ t)(i0:Inv H σ)(hK:KRB H σ K n):BW H (tU t K) (n+5) σ:=λ τ j=>by
 have l1:=j.le
 have i1:=j.inv
 have hT1:=hT.up l1
 have hv:=N0 hT1 i1
 have ev:τ.ce t.root=τ.ce t.root:=rfl
 generalize hve:τ.ce t.root=v at hv ⊢
 refine⟨hv.1,?_⟩
 try dsimp only
 split
 ·rename_i h2
  rcases hv.2 with h|h
  ·exact(hK τ v j h).mono (by omega)
  ·rw[h.1] at h2;exact absurd h2 (by decide)
 ·rename_i h2
  have h8r:(τ.nd v).kind=8/\t.ro=false:=by
   rcases hv.2 with h|h
   ·exact absurd h.1 h2
   ·exact h
  have h8:=h8r.1
  have hK1:=hK.up i0 j
  have hvr:∀υ,RJ H τ υ->υ.ce t.root=v∨oO υ t:=λ υ j2=>by
   rcases j2.rt _ hT1.1 hT1.2.1 (hT1.rw h8r.2) with e|e
   ·exact .inl (e.trans hve)
   ·exact .inr e
  refine⟨hv.1,λ υ j2=>?_⟩
  have l2:=j2.le
  have i2:=j2.inv
  have h8':(υ.nd v).kind=8:=by rw[l2.nd hv.1];exact h8
  have hv':v<=υ.len:=by have:=l2.len;have:=hv.1;omega
  try dsimp only
  split
  ·refine⟨hv',B3 (i2.desc h8').2.2.2.1 (i2.desc h8').2.2.2.2.1 i2 (λ ρ j3 _=>Ak i2 h8' (.inr rfl) j3.le j3.inv) (Ul i2 h8') (λ ρ b j3 _ _=>⟨by have:=j3.le.len;omega,λ χ j4=>?_⟩)⟩
   have j34:=j3.trans i2 j4
   exact M8 ((hT1.up l2).up j34.le) h8r.2 j4.inv (by rw[j34.le.nd hv'];exact h8') (hvr χ (j2.trans i1 j34)) λ ψ r j5 hr _=>hK1 ψ r ((j2.trans i1 j34).trans i1 j5) hr
  ·exact(M8 (hT1.up l2) h8r.2 i2 h8' (hvr υ j2) λ ψ r j5 hr _=>hK1 ψ r (j2.trans i1 j5) hr).mono (by omega)
theorem Yb{K:Int->Tr}{d:Nat}(hd:(d=1/\oO σ t)∨d=5)(hT:cQ σ t)(i0:Inv H σ)(hi:rY σ i w g)(hm:oS σ m w g)(hK:wi H σ w g K n):BW H (nM t i m K) (n+d+4) σ:=by
 have hr:=hm.in
 have hc:=i0.nQ hm.1
 refine⟨hr.2,λ τ j=>?_⟩
 have l1:=j.le
 have i1:=j.inv
 have e1:(τ.nd m).prev=(σ.nd m).prev:=by rw[l1.nd hr.2]
 have hc1:1<=(σ.nd m).prev/\(σ.nd m).prev<=τ.cl/\τ.ct (σ.nd m).prev=.prev m:=by rw[<- e1];exact i1.nQ (hm.up l1).1
 have hce:=i1.ce _ hc1.1 hc1.2.1
 have hp:=hce.prev m hc1.2.2
 have hhi:=hce.hi
 try dsimp only
 split
 ·exact(hK τ m j (hm.up l1)).mono (by omega)
 ·rename_i e0
  refine⟨hhi,?_⟩
  try dsimp only
  split
  ·rename_i hk
   have hpm:oP τ m (τ.ce (σ.nd m).prev):=by
    rcases hp.2 with h|h|h
    ·exact absurd h e0
    ·exact h
    ·exact absurd hk (hY (.inr (.inl h.1)))
   have hpend:Ft τ m (τ.ce (σ.nd m).prev):=⟨hp.1,hk,hpm,.inl (by rw[e1])⟩
   try dsimp only
   split
   ·exact(Wl i1 (hi.up l1) (hm.up l1) hpend (hK.up i0 j)).mono (by omega)
   ·have key:KRB H τ (λ r=>.node r λ nr=>.node i λ ni=>jC i m (τ.ce (σ.nd m).prev) (nr.gen==ni.gen) K) (n+3):=λ υ r j2 hr2=>by
     have l2:=j2.le
     have i2:=j2.inv
     refine⟨hr2.in.2,((hi.up l1).up l2).in.2,?_⟩
     exact Wl i2 ((hi.up l1).up l2) ((hm.up l1).up l2) (hpend.up i1 i2 l2) ((hK.up i0 j).up i1 j2)
    rcases hd with⟨hd,hR⟩|hd
    ·exact(lh (hT.up l1) i1 (hR.up i0 hT j) key).mono (by omega)
    ·exact(qn (hT.up l1) i1 key).mono (by omega)
  ·rename_i hk
   rcases hp.2 with h|h|h
   ·exact absurd h e0
   ·exact absurd h.1.1 hk
   ·exact(cg i1 (hi.up l1) (hm.up l1) h.1 h.2 (hK.up i0 j)).mono (by omega)
theorem T3{K:Int->Tr}{d:Nat}(hd:(d=1/\oO σ t)∨d=5)(hT:cQ σ t)(i0:Inv H σ)(hi:rY σ i w g)(hK:wi H σ w g K n):BW H (jE t i K) (n+d+5) σ:=⟨hi.in.2,λ τ j=>by
 have l1:=j.le
 have i1:=j.inv
 have hi1:=hi.up l1
 have hm:=hi1.wc i1
 rw[l1.nd hi.in.2] at hm
 exact Yb (hd.imp_left λ h=>⟨h.1,h.2.up i0 hT j⟩) (hT.up l1) i1 hi1 hm (hK.up i0 j)⟩
theorem Yg{v:Int}{K:Tr}(hT:cQ σ t)(i0:Inv H σ)(h:(σ.nd v).kind=8)(hK:∀τ,RJ H σ τ->BW H K n τ):BW H (pB t v K) (n+11) σ:=by
 have hd:=i0.desc h
 refine⟨hd.1,(T3 (n:=n+1) (d:=5) (.inr rfl) hT i0 (g:=(σ.nd (σ.nd v).bN).gen) ⟨hd.2.1,rfl⟩ λ τ m j _=>?_).mono (by omega)⟩
 refine⟨by have:=j.le.len;omega,by have:=j.le.len;omega,?_⟩
 have l1:=j.le
 have i1:=j.inv
 have h8:(τ.nd v).kind=8:=by rw[l1.nd hd.1];exact h
 have hd1:=i1.desc h8
 exact B3 hd1.2.2.2.1 hd1.2.2.2.2.1 i1 (λ ρ j3 _=>Ak i1 h8 (by split<;>simp) j3.le j3.inv) (Ul i1 h8) (λ ρ b j3 _ _=>hK ρ (j.trans i0 j3))
theorem rz{K:Int->Tr}(hT:cQ σ t)(i0:Inv H σ)(hK:∀τ r,RJ H σ τ->wF τ r []->oO τ t->BW H (K r) n τ):BW H (kT t K) (n+15) σ:=λ τ j=>by
 have l1:=j.le
 have i1:=j.inv
 have hT1:=hT.up l1
 have hv:=N0 hT1 i1
 generalize hve:τ.ce t.root=v at hv ⊢
 refine⟨hv.1,?_⟩
 try dsimp only
 split
 ·rename_i h2
  rcases hv.2 with h|h
  ·exact(hK τ v j h (by unfold oO;rw[hve];exact h2)).mono (by omega)
  ·rw[h.1] at h2;exact absurd h2 (by decide)
 ·rename_i h2
  have h8r:(τ.nd v).kind=8/\t.ro=false:=by
   rcases hv.2 with h|h
   ·exact absurd h.1 h2
   ·exact h
  have h8:=h8r.1
  have hvr:∀υ,RJ H τ υ->υ.ce t.root=v∨oO υ t:=λ υ j2=>by
   rcases j2.rt _ hT1.1 hT1.2.1 (hT1.rw h8r.2) with e|e
   ·exact .inl (e.trans hve)
   ·exact .inr e
  refine⟨hv.1,λ υ j2=>?_⟩
  have l2:=j2.le
  have i2:=j2.inv
  have h8':(υ.nd v).kind=8:=by rw[l2.nd hv.1];exact h8
  have hv':v<=υ.len:=by have:=l2.len;have:=hv.1;omega
  try dsimp only
  split
  ·refine(Yg (n:=n+2) (hT1.up l2) i2 h8' λ ρ j3=>?_).mono (by omega)
   refine⟨by have:=j3.le.len;omega,λ χ j4=>?_⟩
   have j34:=j3.trans i2 j4
   exact M8 ((hT1.up l2).up j34.le) h8r.2 j4.inv (by rw[j34.le.nd hv'];exact h8') (hvr χ (j2.trans i1 j34)) λ ψ r j5 hr hR=>hK ψ r (j.trans i0 ((j2.trans i1 j34).trans i1 j5)) hr hR
  ·exact(M8 (hT1.up l2) h8r.2 i2 h8' (hvr υ j2) λ ψ r j5 hr hR=>hK ψ r (j.trans i0 (j2.trans i1 j5)) hr hR).mono (by omega)
theorem Ua{h:Nat}{key:ByteArray}{K:Rs->Tr}(hT:cQ σ t)(i0:Inv H σ)(hR:oO σ t)(hK:∀τ r,RJ H σ τ->BW H (K r) 0 τ):∀(n:Nat) (σ':Kw) (i:Int) (w:List Nat) (g level:Int),RJ H σ σ'->rY σ' i w g->BW H (qF t h key K n i level) ((12-w.length)*6) σ'
 | 0,_,_,_,_,_,_,_=>trivial
 | n+1,σ',i,w,g,level,j,hi=>by
  have hlen:w.length<=11:=by
   have:=(j.inv.nd i hi.in.1 hi.in.2).k2 hi.1.1
   rw[hi.1.2] at this
   exact this.1
  refine(T3 (n:=(11-w.length)*6) (d:=1) (.inl ⟨rfl,hR.up i0 hT j⟩) (hT.up j.le) j.inv hi λ τ m j1 hm=>?_).mono (by omega)
  refine⟨hm.in.2,?_⟩
  have j01:=j.trans i0 j1
  have i2:=j1.inv
  try dsimp only
  split
  ·(try dsimp only);split<;>exact(hK τ _ j01).mono (Nat.zero_le _)
  try dsimp only
  split
  ·exact(hK τ _ j01).mono (Nat.zero_le _)
  cases hlk:iU (τ.nd m) (eO h level) with
  | none=>exact(hK τ _ j01).mono (Nat.zero_le _)
  | some b =>
   obtain⟨k,hk,ek⟩:=Oz h level
   rw[ek] at hlk
   have hc:=hm.F8 i2 (wB hlk)
   rw[hc.lk hk] at hlk
   have hb:=hc.br k hk b hlk
   refine⟨hb.in.2,?_⟩
   try dsimp only
   split
   ·(try dsimp only);split<;>exact(hK τ _ j01).mono (Nat.zero_le _)
   ·rename_i h4
    rcases hb with hb|hb
    ·exact absurd hb.1 h4
    ·have:=Ua (h:=h) (key:=key) hT i0 hR hK n τ b (w++[k]) (τ.nd b).gen (level+1) j01 ⟨⟨hb.1,hb.2.1⟩,rfl⟩
     rw[List.length_append] at this
     exact this.mono (by show(12-(w.length+1))*6<=_;omega)
end
end

/- Lookups side by side: each makes at most 87 accesses. -/
section
open Go Go.RowKit Go.Ct
section
variable{H:ByteArray->Nat}{σ τ υ:Kw}{t:fL}
theorem Tl{n:Nat}:∀{u:Tr} {σ:Kw},Inv H σ->BW H u n σ->∃υ,RJ H σ υ/\υ.mm=(Ct.eV u σ.mm).2/\BW H (Ct.eV u σ.mm).1 n υ/\Rst (Ct.eV u σ.mm).1:=by
 intro u
 induction u with
 | done r=>intro σ i0 h;exact⟨σ,.refl i0,rfl,h,.inl rfl⟩
 | stuck=>intro σ i0 h;exact⟨σ,.refl i0,rfl,h,.inr rfl⟩
 | load c k ih=>intro σ i0 h;exact⟨σ,.refl i0,rfl,h,.inl rfl⟩
 | jN c o v k ih=>intro σ i0 h;exact⟨σ,.refl i0,rfl,h,.inl rfl⟩
 | alloc nd i k ih =>
  intro σ i0 h
  obtain⟨υ,j,e,hb⟩:=h
  obtain⟨ρ,j2,e2,h2,h3⟩:=ih _ j.inv hb
  rw[e] at e2 h2 h3
  exact⟨ρ,j.trans i0 j2,e2,h2,h3⟩
 | cell i k ih=>intro σ i0 h;exact h.elim
 | gen k ih=>intro σ i0 h;exact h.elim
 | node r k ih=>intro σ i0 h;exact ih _ i0 h.2
theorem aAd{u:Tr}{n:Nat}(i0:Inv H σ)(hr:Rst u)(hl:u.live=true)(h:BW H u n σ):u=.stuck∨∃m,n=m+1/\∃υ,RJ H σ υ/\υ.mm=(tS (u,σ.mm)).2/\BW H (tS (u,σ.mm)).1 m υ/\Rst (tS (u,σ.mm)).1:=by
 cases u with
 | done r=>cases hl
 | stuck=>exact .inl rfl
 | load c k =>
  cases n with
  | zero=>exact h.elim
  | succ n=>exact .inr ⟨n,rfl,Tl i0 (h σ (.refl i0))⟩
 | jN c o v k =>
  cases n with
  | zero=>exact h.elim
  | succ n =>
   refine .inr ⟨n,rfl,?_⟩
   obtain⟨w1,w2⟩:=h σ (.refl i0)
   by_cases hc:iI σ.mm.cs c o
   ·obtain⟨υ,j,e,hb⟩:=w1 hc
    obtain⟨ρ,j2,e2,h2,h3⟩:=Tl j.inv hb
    have eb:Bs σ.mm.cs c o=true:=(Es (r:=true) ⟨λ _=>hc,λ _=>rfl⟩).symm
    rw[e] at e2 h2 h3
    refine⟨ρ,j.trans i0 j2,?_⟩
    show _=(Ct.eV (k (Bs σ.mm.cs c o)) _).2/\BW H (Ct.eV (k (Bs σ.mm.cs c o)) _).1 _ _/\Rst (Ct.eV (k (Bs σ.mm.cs c o)) _).1
    rw[eb]
    exact⟨e2,h2,h3⟩
   ·obtain⟨ρ,j2,e2,h2,h3⟩:=Tl i0 (w2 hc)
    have eb:Bs σ.mm.cs c o=false:=(Es (r:=false) ⟨λ h=>(nomatch h),λ h=>absurd h hc⟩).symm
    have es:(⟨σ.mm.nodes,eD σ.mm.cs c o v,σ.mm.gen⟩:Mm)=σ.mm:=by rw[zX hc]
    refine⟨ρ,j2,?_⟩
    show _=(Ct.eV (k (Bs σ.mm.cs c o)) ⟨σ.mm.nodes,eD σ.mm.cs c o v,σ.mm.gen⟩).2/\BW H (Ct.eV (k (Bs σ.mm.cs c o)) ⟨σ.mm.nodes,eD σ.mm.cs c o v,σ.mm.gen⟩).1 _ _/\Rst (Ct.eV (k (Bs σ.mm.cs c o)) ⟨σ.mm.nodes,eD σ.mm.cs c o v,σ.mm.gen⟩).1
    rw[eb,es]
    exact⟨e2,h2,h3⟩
 | alloc nd i k=>rcases hr with h|h<;>cases h
 | cell i k=>rcases hr with h|h<;>cases h
 | gen k=>rcases hr with h|h<;>cases h
 | node r k=>rcases hr with h|h<;>cases h
def LBw(H:ByteArray->Nat)(B:Nat)(p:Mm×List (Tr×Nat)):Prop:=∃σ,σ.mm=p.1/\Inv H σ/\∀x∈p.2,dG x.1=true/\x.2<=B/\bQ x.1 (B+1-x.2) 64/\BW H x.1 (B-x.2) σ
def zD(l:List (Tr×Nat)):Nat:=(l.map Prod.snd).sum
theorem M1.bw{i B:Nat}{p q:Mm×List (Tr×Nat)}(h:M1 i p q)(h0:LBw H B p):LBw H B q/\q.2.length=p.2.length/\zD q.2=zD p.2+i:=by
 induction h with
 | refl p=>exact⟨h0,rfl,rfl⟩
 | step hrun hlv ih =>
  rename_i j p s l1 l2 R n
  obtain⟨⟨σ,e,i0,hx⟩,hlen,hsum⟩:=ih h0
  replace e:σ.mm=s:=e
  subst e
  have hR:=hx (R,n) (List.mem_append_right _ (List.mem_cons_self ..))
  simp only at hR
  refine⟨?_,?_,?_⟩
  ·rcases aAd i0 (.inl hR.1) hlv hR.2.2.2 with h|⟨m,em,υ,j2,e2,hb,_⟩
   ·have h1:=hR.1
    rw[h] at h1;cases h1
   ·refine⟨υ,e2,j2.inv,λ x hxm=>?_⟩
    have hb':n+1<=B/\B-(n+1)=m:=by have:=hR.2.1;omega
    have hkeep:∀x:Tr×Nat,(dG x.1=true/\x.2<=B/\bQ x.1 (B+1-x.2) 64/\BW H x.1 (B-x.2) σ)->(dG x.1=true/\x.2<=B/\bQ x.1 (B+1-x.2) 64/\BW H x.1 (B-x.2) υ):=λ x h1=>⟨h1.1,h1.2.1,h1.2.2.1,h1.2.2.2.aCv (.inl h1.1) i0 j2⟩
    have ht:bQ R (B+1-(n+1)+1) 64:=by rw[show B+1-(n+1)+1=B+1-n by omega];exact hR.2.2.1
    rcases List.mem_append.1 hxm with h|h
    ·exact hkeep x (hx x (List.mem_append_left _ h))
    ·rcases List.mem_cons.1 h with rfl|h
     ·exact⟨Pz σ.mm ht hR.1,hb'.1,Qy σ.mm ht hR.1 64,by show BW H _ (B-(n+1)) _;rw[hb'.2];exact hb⟩
     ·exact hkeep x (hx x (List.mem_append_right _ (List.mem_cons_of_mem _ h)))
  ·rw[<- hlen];simp
  ·have:zD (l1++((tS (R,σ.mm)).1,n+1)::l2)=zD (l1++(R,n)::l2)+1:=by unfold zD;simp;omega
   show zD (l1++((tS (R,σ.mm)).1,n+1)::l2)=_
   rw[this]
   have h2:zD (l1++(R,n)::l2)=zD p.2+j:=hsum
   omega
theorem aBQ{h n:Nat}{key:ByteArray}(hT:cQ σ t)(i0:Inv H σ):BW H (Gk t h key n) 87 σ:=by
 unfold Gk
 split
 ·exact rz (n:=72) hT i0 λ τ r j hr hR=>Ua (K:=.done) (hT.up j.le) j.inv hR (λ _ _ _=>trivial) n τ r [] (τ.nd r).gen 0 (.refl j.inv) ⟨hr,rfl⟩
 ·trivial
theorem LBw.sum{B:Nat}{p:Mm×List (Tr×Nat)}(h:LBw H B p):zD p.2<=p.2.length*B:=by
 obtain⟨σ,_,_,hx⟩:=h
 have hx':∀x∈p.2,x.2<=B:=λ x hm=>(hx x hm).2.1
 generalize p.2=l at hx' ⊢
 clear hx
 induction l with
 | nil=>exact Nat.zero_le _
 | cons a l ih =>
  have h1:=hx' a (List.mem_cons_self ..)
  have h2:=ih λ x hm=>hx' x (List.mem_cons_of_mem _ hm)
  unfold zD at h2 ⊢
  simp only[List.map_cons,List.sum_cons,List.length_cons,Nat.succ_mul]
  omega
end
end

/- FindWaitFree: the lookups that have begun. -/
section
open Go Go.RowKit Go.Ct
theorem o6(t:fL)(h:Nat)(key:ByteArray)(n:Nat)(s:Mm):Ct.eV (Gk t h key n) s=(Gk t h key n,s):=by
 unfold Gk
 split<;>rfl
structure Yd(ba:Nat)(W:Wd)(i:Nat)(S:LS)(G:Fr):Prop where
 ok:Ek ba (2415922570+64*i) 0 S
 len:S.l.length=i
 mm:S.z.mm=W.z.mm
 tr:∀p∈S.l,p.n=0/\∃(t:fL) (h:Nat) (key:ByteArray),t∈W.ts/\p.e.R=Gk t h key 1073741824
 fa:∀f∈aM S.a.L++aM S.z.L,f.2=[]∨f∈G
 fb:∀f∈S.B,f∈G
section
variable{ba m B C E:Nat}{W:Wd}{S:LS}{G:Fr}{i:Nat}
theorem Yd.none{a:AS}(hz:W.z.Ok)(hs:Sz W.z 2415922570)(ha:a.Ok)(hm:a.mm=W.z.mm)(hG:∀f∈aM a.L++aM W.z.L,f.2=[]∨f∈G):Yd ba W 0 ⟨a,W.z.a0,[],[]⟩ G :=
 ⟨Ek.none (vd hz) ha hm hs,rfl,rfl,(λ p hp=>nomatch hp),hG,(λ f hf=>nomatch hf)⟩
abbrev fpx(x:Nat×Cd×Fr×AS)(k:Cl)(m:Nat)(q:Nat×XS×List aZ×Bool×Rs)(R:Tr):PX:=⟨⟨q.1,k,q.2.1,q.2.2.2.1,q.2.2.2.2,R⟩,m,x.1,x.2.1,0⟩
theorem Yd.add{x:Nat×Cd×Fr×AS}{q:Nat×XS×List aZ×Bool×Rs}{k:Cl}(h:Yd ba W i S G)(e:k.kind=7)(hm:m<18446744073709551616)(em:k.mask=(m:Int))(ht:k.t.root<=9223372036854775807)(hts:k.t∈W.ts)(ha:k.a=0)(hb:k.b=0)(hn:k.n=0)
  (hq:qB (T0 k m) (T0 k m) 0 0 Rs.zero (XS.new S.z.L S.z.cs S.z.gen S.z.acc S.z.pn S.z.cn S.z.pc S.z.cc) q.2.1 q.2.2.1 q.2.2.2.1 q.2.2.2.2) (ho:mS ba (Ct.eV (T0 k m) S.a.mm) S.a S.B x.2) :
  ∃R,Yd ba W (i+1) ⟨x.2.2.2,q.2.1,S.l++[fpx x k m q R],x.2.2.1++S.B⟩ (aM q.2.2.1++(x.2.2.1++G)):=by
 obtain⟨R,h1,h2,h3⟩:=Ek.add (bx:=q.1) (tb:=x.1) h.ok hq ho (.inr ⟨by rw[e];decide,by rw[e];decide⟩) hm em ht (by rw[ha];exact bH _) (by rw[hb];exact bH _) (by rw[hn];exact bH _)
 rw[T9 m e] at h2 h3
 rw[o6] at h2 h3
 refine⟨R,⟨?_,by show(S.l++[_]).length=_;rw[List.length_append,h.len];rfl,h2.trans h.mm,λ p hp=>?_,λ f hf=>?_,λ f hf=>?_⟩⟩
 ·rw[show 2415922570+64*(i+1)=2415922570+64*i+64 by omega]
  exact h1
 ·rcases List.mem_append.1 hp with hp|hp
  ·exact h.tr p hp
  ·rw[List.mem_singleton.1 hp]
   exact⟨rfl,_,_,_,hts,h3⟩
 ·have hfa:∀f∈aM S.a.L,f.2=[]∨f∈G:=λ f hf=>h.fa f (by simp[hf])
  have hfz:∀f∈aM S.z.L,f.2=[]∨f∈G:=λ f hf=>h.fa f (by simp[hf])
  have hext:q.2.1.L=S.z.L++q.2.2.1:=hq.ext
  simp only[List.mem_append] at hf ⊢
  rcases hf with hf|hf
  ·rcases ho.2.2.fam f hf with h5|h5|h5
   ·exact .inl h5
   ·exact(hfa f h5).imp_right λ h=>.inr (.inr h)
   ·exact .inr (.inr (.inl h5))
  ·rw[hext,cZ] at hf
   rcases List.mem_append.1 hf with h5|h5
   ·exact(hfz f h5).imp_right λ h=>.inr (.inr h)
   ·exact .inr (.inl h5)
 ·simp only[List.mem_append] at hf ⊢
  exact .inr (hf.imp_right λ hf=>h.fb f hf)
theorem Yd.lbw(h:Yd ba W i S G)(hW:Q2 m B C E W):LBw (H8 m) 87 (S.z.mm,Ev S.l):=by
 obtain⟨σ,hi⟩:=hW.wr.inv
 refine⟨σ,hi.mm.trans h.mm.symm,hi.inv,λ x hx=>?_⟩
 obtain⟨p,hp,rfl⟩:=List.mem_map.1 hx
 obtain⟨h0,t,hh,key,ht,hR⟩:=h.tr p hp
 have hrest:=(h.ok.p p hp).rest
 have htame:bQ p.e.R 88 64:=by
  have hk:Gk t hh key 1073741824=jT ⟨7,t,0,0,0,0,0,0,key,0,0,0,false⟩ hh 1073741824:=(E6 (k:=⟨7,t,0,0,0,0,0,0,key,0,0,0,false⟩) hh 1073741824 rfl).symm
  rw[hR,hk]
  exact Cm (by decide)
 show dG p.e.R=true/\p.n<=87/\bQ p.e.R (87+1-p.n) 64/\BW (H8 m) p.e.R (87-p.n) σ
 rw[h0]
 refine⟨hrest,Nat.zero_le _,htame,?_⟩
 rw[hR]
 exact aBQ (hi.ts t ht) hi.inv
theorem Yd.end{A:Fr}{y:LY}(h:Yd ba W i S G)(hW:Q2 m B C E W)(hi:i<=4)(hy:na ba (2415922570+64*i) 0 A S y)(he:y.i=400∨∀k,k<y.S.l.length->Q1 y.S.l k=true):∀p∈y.S.l,p.e.dn=true/\p.n<=87:=by
 obtain⟨h1,h2,h3⟩:=M1.bw hy.run (h.lbw hW)
 have hlen:y.S.l.length=i:=by
  have:(Ev y.S.l).length=(Ev S.l).length:=h2
  unfold Ev at this
  rw[List.length_map,List.length_map,h.len] at this
  exact this
 have hs:=h1.sum
 have h30:zD (Ev S.l)=0:=by
  have h0:∀p∈S.l,p.n=0:=λ p hp=>(h.tr p hp).1
  generalize S.l=l at h0
  clear hlen hs h1 h2 h3 hy he h
  unfold zD Ev
  induction l with
  | nil=>rfl
  | cons a l ih =>
   rw[List.map_cons,List.map_cons,List.sum_cons,ih λ p hp=>h0 p (List.mem_cons_of_mem _ hp)]
   show a.n+0=0
   rw[h0 a (List.mem_cons_self ..)]
 have hne:y.i≠400:=λ e=>by
  have h5:zD (Ev y.S.l)=zD (Ev S.l)+y.i:=h3
  have h6:zD (Ev y.S.l)<=(Ev y.S.l).length*87:=hs
  rw[show(Ev y.S.l).length=i by unfold Ev;rw[List.length_map];exact hlen] at h6
  rw[h30,e] at h5
  have:i*87<=4*87:=Nat.mul_le_mul_right _ hi
  omega
 obtain⟨σ,_,_,hx⟩:=h1
 intro p hp
 refine⟨?_,(hx (p.e.R,p.n) (List.mem_map_of_mem hp)).2.1⟩
 rcases he with he|he
 ·exact absurd he hne
 ·obtain⟨k,hk,ek⟩:=List.getElem_of_mem hp
  have:=he k hk
  unfold Q1 at this
  rw[kQ,List.getElem?_map,List.getElem?_eq_getElem hk,ek] at this
  exact this
end
end

/- Views: the root of a trie, the main node of an I-node. -/
end Go.Proofs.YtbajmaoegmbfgaaGreat
namespace Go.Ct
section
open Go Go.RowKit
end
end Go.Ct
namespace Go.Proofs.YtbajmaoegmbfgaaGreat
section
open Go Go.RowKit Go.Ct
section
variable{L:List aZ}{cs:List Int}{gen:Int}{pn pc:Option Addr}{cn cc:Nat}{w:World}
structure StB(L:List aZ)(cs:List Int):Prop where
 cs:∀c,cS cs c<=9223372036854775807
 bN:∀r,(aD L r).nd.bN<=9223372036854775807
 new:∀r,(aD L r).nd.new<=9223372036854775807
 main:∀r,(aD L r).nd.main<=9223372036854775807
 prev:∀r,(aD L r).nd.prev<=9223372036854775807
 status:∀r,(aD L r).nd.status<=9223372036854775807
 br:∀r,∀b∈(aD L r).xs,b<=9223372036854775807
end
end

/- The reference of views: a node, a cell, the root, the main node of an I-node. -/
section
open Go Go.RowKit Go.Ct
section
variable{L:List aZ}{cs:List Int}{gen:Int}{pn pc:Option Addr}{cn cc:Nat}{w:World}
end
end

/- A node out of a tape. -/
section
open Go.RowKit Go.Ct
end

/- Memories that come out of tapes are proper. -/
section
open Go.Ct
end

/- A memory out of a tape. -/
end Go.Proofs.YtbajmaoegmbfgaaGreat
namespace Go.Ct
section
end
end Go.Ct
namespace Go.Proofs.YtbajmaoegmbfgaaGreat
section
open Go.RowKit Go.Ct
end

/- Proper states: the walk through the reference's check. -/
end Go.Proofs.YtbajmaoegmbfgaaGreat
namespace Go.Ct
section
end
end Go.Ct
namespace Go.Proofs.YtbajmaoegmbfgaaGreat
section
open Go.RowKit Go.Ct
end

/- The order of keys. -/
end Go.Proofs.YtbajmaoegmbfgaaGreat
namespace Go.Ct
section
open Go Go.RowKit
end
end Go.Ct
namespace Go.Proofs.YtbajmaoegmbfgaaGreat
section
open Go Go.RowKit Go.Ct
end

/- Tries that keep the labels: their I-nodes and their contents. -/
section
open Go.RowKit Go.Ct
section
variable{H:ByteArray->Nat}{σ:Kw}{i m p g:Int}{w:List Nat}{t:fL}
end
end

/- The reference of views: the root of a trie, the main node of an I-node, in a proper state. -/
section
open Go Go.RowKit Go.Ct
section
variable{L:List aZ}{cs:List Int}{gen:Int}{pn pc:Option Addr}{cn cc:Nat}{w:World}
end
end

/- The laws of root: a swap begins, on the arena and on the memory. -/
end Go.Proofs.YtbajmaoegmbfgaaGreat
namespace Go.Ct
section
open Go Go.RowKit
end
end Go.Ct
namespace Go.Proofs.YtbajmaoegmbfgaaGreat
section
open Go Go.RowKit Go.Ct
structure SW where
 a1:AS
 z1:XS
 k:Cl
 tb:Nat
 c:Cd
 F:Fr
 a:AS
 bx:Nat
 x:XS
 N:List aZ
 dn:Bool
 rs:Rs
structure aCB(ba:Nat)(a:AS)(z:XS)(q:SW):Prop where
 z1:q.z1.Ok
 a1:q.a1.Ok
 mm:q.a1.mm=q.z1.mm
 ext:∃v,q.z1.L=z.L++[v]
 cl:z.cs.length<=q.z1.cs.length
 sz:∀B,Sz z B->Sz q.z1 (B+1)
 gr:∀f∈aM q.a1.L,f.2=[]∨f∈aM a.L∨f∈q.F
 rp:qB (T0 q.k 0) (T0 q.k 0) 0 0 Rs.zero (XS.new q.z1.L q.z1.cs q.z1.gen q.z1.acc q.z1.pn q.z1.cn q.z1.pc q.z1.cc) q.x q.N q.dn q.rs
 tk:∃F0,(∀f∈F0,f∈q.F)/\mS ba (Ct.eV (T0 q.k 0) q.a1.mm) q.a1 [] (q.c,F0,q.a)
 fz:∀f∈aM q.x.L,f.2=[]∨f∈aM z.L∨f∈q.F
 kk:Yt q.k/\q.k.mask=((0:Nat):Int)/\q.k.t.root<=9223372036854775807/\q.k.a<=q.z1.L.length/\q.k.b<=q.z1.L.length/\q.k.n<=q.z1.L.length
end

/- RootSwaps: the walk. -/
section
open Go Go.RowKit Go.Ct
end

/- RootTogether: a memory with a trie keeps the labels behind a swap's beginning. -/
end Go.Proofs.YtbajmaoegmbfgaaGreat
namespace Go.Ct
section
open Go Go.RowKit
end
end Go.Ct
namespace Go.Proofs.YtbajmaoegmbfgaaGreat
section
open Go Go.RowKit Go.Ct
section
variable{m:Nat}{t:fL}{z:XS}
end
end

/- RootTogether: the walk. -/
end Go.Proofs.YtbajmaoegmbfgaaGreat
namespace Go.Ct
section
open Go Go.RowKit
theorem Gs{α:Type}:∀H:List α,((List.range H.length).flatMap λ i=>(H.drop i).take 1)=H
 | []=>rfl
 | x::H=>by
  rw[List.length_cons,List.range_succ_eq_map,List.flatMap_cons,List.flatMap_map]
  show x::((List.range H.length).flatMap λ i=>(H.drop i).take 1)=x::H
  rw[Gs H]
theorem SF.pick{w0 w:World}{M:List Nat}{H:List (Nat×Obj)}{A F:Fr}{O:List Ow}(is js:List Nat)(n:Nat)(h:SF w0 M H A F O w)(hn:H.length=n:=by rfl)(hp:(List.range n).Perm (is++js):=by decide):SF w0 M (is.flatMap λ i=>(H.drop i).take 1) A F O w:=by
 have p:H.Perm ((is++js).flatMap λ i=>(H.drop i).take 1):=by
  have:=List.Perm.flatMap_right (λ i=>(H.drop i).take 1) hp
  rw[<- hn,Gs] at this
  exact this
 rw[List.flatMap_append] at p
 exact(h.perm p.symm (List.Perm.refl _)).sub (List.sublist_append_left _ _) aY.all (List.Sublist.refl _)
theorem SF.uw{w0 w:World}{M:List Nat}{H:List (Nat×Obj)}{A F:Fr}{O:List Ow}(is:List Nat)(n:Nat)(h:SF w0 M H A F O w)(hn:O.length=n:=by rfl)(hp:(List.range n).Perm is:=by decide):SF w0 M H A F (is.flatMap λ i=>(O.drop i).take 1) w:=by
 have p:O.Perm (is.flatMap λ i=>(O.drop i).take 1):=by
  have:=List.Perm.flatMap_right (λ i=>(O.drop i).take 1) hp
  rw[<- hn,Gs] at this
  exact this
 exact h.perm (List.Perm.refl _) p.symm
end
end Go.Ct
namespace Go.Proofs.YtbajmaoegmbfgaaGreat
section
open Go Go.RowKit Go.Ct
structure RP where
 tb:Nat
 c:Cd
 F:Fr
 a:AS
 bx:Nat
 x:XS
 N:List aZ
 dn:Bool
 rs:Rs
structure aCE(ba:Nat)(a:AS)(z:XS)(k:Cl)(q:RP):Prop where
 tk:mS ba (Ct.eV (T0 k 0) a.mm) a [] (q.c,q.F,q.a)
 rp:qB (T0 k 0) (T0 k 0) 0 0 Rs.zero (XS.new z.L z.cs z.gen z.acc z.pn z.cn z.pc z.cc) q.x q.N q.dn q.rs
end

end Go.Proofs.YtbajmaoegmbfgaaGreat
