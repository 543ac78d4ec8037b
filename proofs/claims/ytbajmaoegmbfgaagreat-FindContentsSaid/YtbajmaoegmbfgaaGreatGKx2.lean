/- Merged. -/
import Derived.Test.YtbajmaoegmbfgaaGreatGWo1
import Derived.Test.YtbajmaoegmbfgaaGreatGRn1
set_option linter.unusedSimpArgs false
set_option linter.unusedVariables false
namespace Go.Proofs.YtbajmaoegmbfgaaGreat
open Go Go.RowKit Go.Ct
section
section
variable{X:Xp}{σ τ υ:Kw}{i m p g v:Int}{w:List Nat}{t:dW}{n:Nat}
structure aEL(X:Xp)(σ τ:Kw)(i m v:Int)(cm:Prop):Prop where
 ok:τ.ce (σ.nd i).main≠m∨bC τ m
 s:X.b=false->τ.ce (σ.nd i).main=v/\Kf σ τ i
 c:X.b=false->cm->v=m
abbrev KC(X:Xp)(σ:Kw)(i m:Int)(w:List Nat)(g:Int)(cm:Prop)(K:Int->Tr)(n:Nat):Prop:=∀τ v,Le σ τ->Inv X.H τ->oQ τ v w g->bC τ v->aEL X σ τ i m v cm->XT X (K v) n τ
variable{cm:Prop}
theorem KC.up{K:Int->Tr}(i0:Inv X.H σ)(i1:Inv X.H τ)(hi:qU σ i w g)(h:KC X σ i m w g cm K n)(l:Le σ τ)(f:X.b=false->Kf σ τ i):KC X τ i m w g cm K n:=λ υ v l2 i2 hm hs hv=>h υ v (l.trans i0 i1 l2) i2 hm hs ⟨by rw[<- l.nd hi.in.2];exact hv.ok,λ hb=>⟨by rw[<- l.nd hi.in.2];exact(hv.s hb).1,(f hb).trans l (hv.s hb).2⟩,hv.c⟩
theorem Gg.frm(h:Gg X σ τ):X.b=false->Kf σ τ i:=λ hb=>by rw[h.solo hb];exact .refl σ i
theorem Yn(i0:Inv X.H σ)(hm:cB (σ.nd m))(hi:(σ.nd i).kind=2):(σ.nd m).prev≠(σ.nd i).main:=λ e=>by have h1:=(i0.kR hm).2.2;rw[e,(i0.eH hi).2.2] at h1;cases h1
theorem aAf{K:Int->Tr}(hX:aw X)(i0:Inv X.H σ)(hi:qU σ i w g)(hm:oQ σ m w g)(hc0:X.b=false->σ.ce (σ.nd i).main=m)(hd:¬bC σ m)(h7:(σ.nd p).kind=7)(hp:rJ σ m (σ.nd p).bS)(hcm:X.b=false->¬cm)(hK:KC X σ i m w g cm K n):XT X (Ka i m p K) (n+1) σ:=by
 have hr:1<=p/\p<=σ.len:=eU (N:=σ.mm.nodes) (i:=p) (by rw[h7];decide);have hc:=i0.eH hi.1.1;have hold:oQ σ (σ.nd p).bS w g:=by have:=hp.1;rw[hm.2.1] at this;exact this.le hm.2.2
 have hno:(σ.nd p).bS≠m:=λ e=>hd (by rw[<- e];exact hp.2);refine cS hi.in.2 (cS hr.2 (El hc.1 hc.2.1 i0 (λ τ l1 i1 _=>S9 i0 hi hold l1 i1) (λ υ l _ _=>hX.r1 _ _ _ _ i (by rw[l.ct _ hc.2.1];exact hc.2.2) (bC.up i0 hold.1 hp.2 l)) λ τ bb l1 i1 hf=>cS (by have:=l1.len;have:=hr.2;omega) ?_));rw[l1.nd hr.2];refine hK τ _ l1 i1 (hold.up l1) (bC.up i0 hold.1 hp.2 l1) ⟨.inl ?_,λ hb=>?_,λ hb h=>absurd h (hcm hb)⟩
 ·cases bb with
  | true=>rw[hf.t rfl];exact hno
  | false=>exact hf.f rfl
 ·rcases hf.s hb with⟨_,_,h⟩|⟨h1,h2⟩;·exact⟨h.at',Ga h (.inl hc.2.2)⟩
  ·subst h2;exact absurd (hc0 hb) (hf.f h1)
theorem K3{K:Int->Tr}(hX:aw X)(i0:Inv X.H σ)(hi:qU σ i w g)(hm:oQ σ m w g)(hc0:X.b=false->σ.ce (σ.nd i).main=m)(hp:Su σ m p)(hd:σ.ce (σ.nd m).prev≠p)(hcm:X.b=false->cm->σ.ce (σ.nd m).prev=0)(hK:KC X σ i m w g cm K n):XT X (kP i m K) (n+2) σ:=by
 have hc:=hp.cell i0;have hr:=hm.in;refine cS hr.2 (pX λ τ hg=>?_);have l1:=hg.le;have i1:=hg.inv;have hp1:=hp.up i0 i1 l1;have e1:(τ.nd m).prev=(σ.nd m).prev:=by rw[l1.nd hr.2]
 have hce:=hp1.ce;rw[e1] at hce;have hne:τ.ce (σ.nd m).prev≠p:=by
  have hx:=l1.nxt hc.1 hc.2.1 hc.2.2;have hk:¬cB (σ.nd (σ.ce (σ.nd m).prev)):=by
   rcases hp.ce with e|e|e;·exact absurd e hd
   ·rw[e];exact kB (.inl (yR _))
   ·exact kB (.inr (.inl e.1))
  rw[hx.1 hk];exact hd
 have hc1:X.b=false->τ.ce (τ.nd i).main=m:=λ hb=>by rw[hg.solo hb];exact hc0 hb
 try dsimp only
 split
 ·rename_i e0;have hs:bC τ m:=by unfold bC;rw[e1];exact e0
  exact(hK τ m l1 i1 (hm.up l1) hs ⟨.inr hs,λ hb=>⟨by rw[<- l1.nd hi.in.2];exact hc1 hb,hg.frm hb⟩,λ _ _=>rfl⟩).mono (by omega)
 ·rename_i e0;rcases hce with e|e|⟨e,e2⟩;·exact absurd e hne
  ·exact absurd e e0
  ·exact aAf hX i1 (hi.up l1) (hm.up l1) hc1 (by unfold bC;rw[e1];exact e0) e (by rw[e2];exact hp1.pm) (λ hb h=>e0 (by rw[hg.solo hb];exact hcm hb h)) (hK.up i0 i1 hi l1 hg.frm)
theorem rr{K:Int->Tr}{c:Bool}(hX:aw X)(i0:Inv X.H σ)(hi:qU σ i w g)(hm:oQ σ m w g)(hc0:X.b=false->σ.ce (σ.nd i).main=m)(hp:Su σ m p)(hpc:X.b=false->σ.ce (σ.nd m).prev=p)(hcm:X.b=false->cm->c=true)(hK:KC X σ i m w g cm K n):XT X (lG i m p c K) (n+3) σ:=by
 have hr:=hm.in;have hc:=hp.cell i0;have hmc:=i0.eH hi.1.1;have hne:=Yn i0 hm.1 hi.1.1;unfold lG;try dsimp only
 split
 ·refine cS hr.2 (El hc.1 hc.2.1 i0 (λ τ l1 i1 _=>?_) (λ υ l _ _=>hX.r0 _ _ _ _ (λ i' h=>?_) (λ h=>?_)) λ τ b l1 i1 hf=>?_)
  ·have e:τ.ct (σ.nd m).prev=.prev m:=by rw[l1.ct _ hc.2.1];exact hc.2.2
   refine⟨Int.le_refl _,bN _,λ i' h=>?_,λ m' h=>⟨(hp.up i0 i1 l1).pk,.inl rfl⟩,λ d h=>.inl rfl,λ h=>?_,λ h=>?_⟩<;>rw[e] at h<;>cases h
  ·rw[l.ct _ hc.2.1,hc.2.2] at h;cases h
  ·rw[l.ct _ hc.2.1,hc.2.2] at h;cases h
  ·have f1:X.b=false->Kf σ τ i:=λ hb=>by
    rcases hf.s hb with⟨_,_,h⟩|⟨_,h⟩;·exact Ga h (.inr ⟨m,hc.2.2⟩)
    ·rw[h];exact .refl σ i
   have c1:X.b=false->τ.ce (τ.nd i).main=m:=λ hb=>by
    rw[l1.nd hi.in.2];rcases hf.s hb with⟨_,_,h⟩|⟨_,h⟩;·rw[h.other _ (Ne.symm hne)];exact hc0 hb
    ·rw[h];exact hc0 hb
   refine K3 hX i1 (hi.up l1) (hm.up l1) c1 (hp.up i0 i1 l1) ?_ (λ hb _=>?_) (hK.up i0 i1 hi l1 f1);rotate_left
   ·rw[l1.nd hr.2];rcases hf.s hb with⟨_,_,h⟩|⟨h1,h⟩;·exact h.at'
    ·subst h;exact absurd (hpc hb) (hf.f h1)
   rw[l1.nd hr.2];cases b with
   | true=>rw[hf.t rfl];have:=(iY hp.pk).1;omega
   | false=>exact hf.f rfl
 ·refine cS hr.2 (ya (w:=[]) (g:=0) i0 (dw i0 hp.pk) ⟨⟨Int.le_refl _,bN _⟩,λ k=>dU (a:=7) (b:=2) k,λ k=>absurd k (kB (.inr (.inl rfl))),λ _=>rfl⟩ (λ k=>dU (a:=7) (b:=2) k) (λ υ f l1 i1 af=>?_));have hp1:=hp.up i0 i1 l1;have hc1:=hp1.cell i1;have e0:(υ.nd m).prev=(σ.nd m).prev:=by rw[l1.nd hr.2]
  rw[e0] at hc1;have h7:(υ.nd f).kind=7/\(υ.nd f).bS=p:=by rw[af.nd];exact⟨rfl,rfl⟩
  have hf1:=af.r1;have hf2:=af.r2;refine El hc1.1 hc1.2.1 i1 (λ τ l2 i2 _=>?_) (λ ρ l _ _=>hX.r0 _ _ _ _ (λ i' h=>?_) (λ h=>?_)) (λ τ b l2 i2 hf=>?_)
  ·have e:τ.ct (σ.nd m).prev=.prev m:=by rw[l2.ct _ hc1.2.1];exact hc1.2.2
   refine⟨by omega,by have:=l2.len;omega,λ i' h=>?_,λ m' h=>⟨(hp1.up i1 i2 l2).pk,.inr ?_⟩,λ d h=>?_,λ h=>?_,λ h=>?_⟩;·rw[e] at h;cases h
   ·rw[l2.nd hf2];exact h7
   ·rw[e] at h;cases h
   ·rw[e] at h;cases h
   ·rw[e] at h;cases h
  ·rw[l.ct _ hc1.2.1,hc1.2.2] at h;cases h
  ·rw[l.ct _ hc1.2.1,hc1.2.2] at h;cases h
  ·have hp2:=hp1.up i1 i2 l2;have l12:=l1.trans i0 i1 l2
   have f1:X.b=false->Kf υ τ i:=λ hb=>by
    rcases hf.s hb with⟨_,_,h⟩|⟨_,h⟩;·exact Ga h (.inr ⟨m,hc1.2.2⟩)
    ·rw[h];exact .refl υ i
   have c1:X.b=false->τ.ce (τ.nd i).main=m:=λ hb=>by
    rw[l12.nd hi.in.2];rcases hf.s hb with⟨_,_,h⟩|⟨_,h⟩;·rw[h.other _ (Ne.symm hne),af.ce hmc.2.1];exact hc0 hb
    ·rw[h,af.ce hmc.2.1];exact hc0 hb
   refine K3 hX i2 ((hi.up l1).up l2) ((hm.up l1).up l2) c1 hp2 ?_ (λ hb h=>absurd (hcm hb h) (by assumption)) ((hK.up i0 i1 hi l1 λ _=>af.frm l1).up i1 i2 (hi.up l1) l2 f1);rw[l2.nd (by have:=l1.len;omega),e0];cases b with
   | true=>rw[hf.t rfl];intro e;have:=hp1.pk;rw[<- e] at this;exact absurd this (kB (.inr (.inl h7.1)))
   | false=>exact hf.f rfl
def DsF(σ τ:Kw)(t:dW):Prop:=∀v,σ.ce t.root=v->(σ.nd v).kind=8->σ.ce (σ.nd v).status=0->(τ.ce t.root=v/\τ.ce (σ.nd v).status=0)∨(τ.ce t.root=(σ.nd v).bS/\τ.ce (σ.nd v).status=2)
theorem DsF.refl(σ:Kw)(t:dW):DsF σ σ t:=λ _ h1 _ h2=>.inl ⟨h1,h2⟩
theorem xC(hT:bY σ t)(f:Kf σ τ i):τ.ce t.root=σ.ce t.root:=by have h:=hT.2.2;refine f _ hT.1 hT.2.1 ?_ λ m=>?_<;>rw[h]<;>unfold ctR<;>split<;>(intro h;cases h)
theorem Qj{H:ByteArray->Nat}(i0:Inv H σ)(h:(σ.nd v).kind=8)(f:Kf σ τ i):τ.ce (σ.nd v).status=σ.ce (σ.nd v).status:=by have hd:=i0.desc h;exact f _ hd.2.2.2.1 hd.2.2.2.2.1 (by rw[hd.2.2.2.2.2];intro h;cases h) (λ m=>by rw[hd.2.2.2.2.2];intro h;cases h)
theorem vo{H:ByteArray->Nat}(hT:bY σ t)(i0:Inv H σ)(f:Kf σ τ i):DsF σ τ t:=λ _ h1 h2 h3=>.inl ⟨(xC hT f).trans h1,(Qj i0 h2 f).trans h3⟩
theorem DsF.frm{H:ByteArray->Nat}(hT:bY σ t)(i0:Inv H σ)(i1:Inv H τ)(l:Le σ τ)(h:DsF σ τ t)(f:Kf τ υ i):DsF σ υ t:=λ v h1 h2 h3=>by have hd:=i0.desc h2;have e:τ.nd v=σ.nd v:=l.nd hd.1;have es:=Qj (v:=v) i1 (by rw[e];exact h2) f;rw[e] at es;rw[xC (hT.up l) f,es];exact h v h1 h2 h3
def FrR(σ τ:Kw):Prop:=∀c:Int,1<=c->c<=σ.cl->σ.ct c≠.root->(∀d,σ.ct c≠.stat d)->τ.ce c=σ.ce c
theorem FrR.refl(σ:Kw):FrR σ σ:=λ _ _ _ _ _=>rfl
theorem uj{H:ByteArray->Nat}{c v:Int}(h:ph H σ υ c v)(hc:σ.ct c=.root∨∃d,σ.ct c=.stat d):FrR σ υ:=λ x _ _ a b=>h.other x λ e=>by
 subst e;rcases hc with hc|⟨m,hc⟩;·exact a hc
 ·exact b m hc
theorem FrR.trans(l:Le σ τ)(h:FrR σ τ)(h2:FrR τ υ):FrR σ υ:=λ c h1 hc a b=>by have e:=l.ct c hc;rw[h2 c h1 (by have:=l.cl;omega) (by rw[e];exact a) (λ m=>by rw[e];exact b m)];exact h c h1 hc a b
theorem K4{s:Int}{K:Int->Tr}(hX:aw X)(hT:bY σ t)(hro:t.ro=false)(i0:Inv X.H σ)(h:(σ.nd v).kind=8)
  (hc:X.b=false->σ.ce t.root=v∨σ.ce t.root=if s=1 then(σ.nd v).new else(σ.nd v).bS)
  (hK:∀τ,Le σ τ->Inv X.H τ->uW τ (if s=1 then(σ.nd v).new else(σ.nd v).bS) []->τ.ce t.root≠v->(X.b=false->τ.ce t.root=(if s=1 then(σ.nd v).new else(σ.nd v).bS)/\∀x,x≠t.root->τ.ce x=σ.ce x)->XT X (K (if s=1 then(σ.nd v).new else(σ.nd v).bS)) n τ):XT X (pT t v s K) (n+1) σ:=by
 have hd:=i0.desc h;refine cS hd.1 ?_;show XT X (.kG t.root v (if s=1 then(σ.nd v).new else(σ.nd v).bS) λ _=>K (if s=1 then(σ.nd v).new else(σ.nd v).bS)) (n+1) σ
 have hw:uW σ (if s=1 then(σ.nd v).new else(σ.nd v).bS) []:=by split;exact hd.2.2.1;exact hd.2.1
 generalize (if s=1 then(σ.nd v).new else(σ.nd v).bS)=w at hw hc hK ⊢;have hwv:w≠v:=λ e=>by rw[<- e,hw.1] at h;exact absurd h (by decide)
 refine El hT.1 hT.2.1 i0 (λ τ l1 i1 _=>?_) (λ υ l _ _=>hX.r3 _ _ _ _ ((hT.up l).rw hro) (hw.up l).1) (λ τ b l1 i1 hf=>hK τ l1 i1 (hw.up l1) ?_ λ hb=>?_);·have e:=(hT.up l1).rw hro;have hw1:=hw.up l1;refine⟨by have:=hw1.in;omega,hw1.in.2,λ i' h=>?_,λ m' h=>?_,λ d h=>?_,λ h=>.inl hw1,λ h=>?_⟩<;>rw[e] at h<;>cases h
 ·cases b with
  | true=>rw[hf.t rfl];exact hwv
  | false=>exact hf.f rfl
 ·rcases hf.s hb with⟨_,_,h⟩|⟨h1,h2⟩;·exact⟨h.at',h.other⟩
  ·subst h2;exact⟨(hc hb).resolve_left (hf.f h1),λ _ _=>rfl⟩
structure RtF(X:Xp)(σ τ:Kw)(t:dW)(r:Int):Prop where
 s:X.b=false->(σ.nd (σ.ce t.root)).kind=2->τ=σ/\r=σ.ce t.root
 d:X.b=false->DsF σ τ t
 c:X.b=false->FrR σ τ
theorem aAP{K:Int->Tr}(hX:aw X)(hT:bY σ t)(i0:Inv X.H σ)(hK:∀τ r,Le σ τ->Inv X.H τ->uW τ r []->RtF X σ τ t r->XT X (K r) n τ):XT X (zU t K) (n+5) σ:=by
 refine pX λ τ hg=>?_;have l1:=hg.le;have i1:=hg.inv;have hT1:=hT.up l1;have hv:=l7 hT1 i1;have hvs:X.b=false->σ.ce t.root=τ.ce t.root:=λ hb=>by rw[hg.solo hb]
 generalize hve:τ.ce t.root=v at hv hvs ⊢;refine cS hv.1 ?_;try dsimp only
 split
 ·rename_i h2;rcases hv.2 with h|h;·exact(hK τ v l1 i1 h ⟨λ hb _=>⟨hg.solo hb,(hvs hb).symm⟩,λ hb=>by rw[hg.solo hb];exact .refl σ t,λ hb=>by rw[hg.solo hb];exact .refl σ⟩).mono (by omega)
  ·rw[h.1] at h2;exact absurd h2 (by decide)
 ·rename_i h2;have h8r:(τ.nd v).kind=8/\t.ro=false:=by
   rcases hv.2 with h|h;·exact absurd h.1 h2
   ·exact h
  obtain⟨h8,hro⟩:=h8r;have hd:=i1.desc h8;have hno:X.b=false->¬(σ.nd (σ.ce t.root)).kind=2:=λ hb h=>by have e:=hg.solo hb;subst e;rw[hve] at h;exact h2 h
  refine cS hv.1 (pX λ υ hg2=>?_);have l2:=hg2.le;have i2:=hg2.inv;have en:υ.nd v=τ.nd v:=l2.nd hv.1;have h8':(υ.nd v).kind=8:=by rw[en];exact h8
  have hv':v<=υ.len:=by have:=l2.len;have:=hv.1;omega
  have hd2:=i2.desc h8';have l12:=l1.trans i0 i1 l2;have hg12:=hg.trans i0 hg2;have hve2:X.b=false->υ.ce t.root=v:=λ hb=>by rw[hg2.solo hb];exact hve
  have hrs:t.root≠(υ.nd v).status:=λ e=>by have h3:=hd2.2.2.2.2.2;rw[<- e,(hT.up l12).rw hro] at h3;cases h3
  rw[<- en];try dsimp only
  split
  ·rename_i hs;refine cS hv' (El hd2.2.2.2.1 hd2.2.2.2.2.1 i2 (λ ρ l3 i3 _=>S8 i2 h8' (.inr rfl) l3 i3) (λ ρ l _ _=>hX.r0 _ _ _ _ (λ i' h=>?_) (λ h=>?_)) (λ ρ b l3 i3 hf=>cS (by have:=l3.len;omega) (pX λ χ hg4=>?_)));·rw[l.ct _ hd2.2.2.2.2.1,hd2.2.2.2.2.2] at h;cases h
   ·rw[l.ct _ hd2.2.2.2.2.1,hd2.2.2.2.2.2] at h;cases h
   have l4:=hg4.le;have i4:=hg4.inv;have e3:ρ.nd v=υ.nd v:=l3.nd hv';have e4:χ.nd v=υ.nd v:=by rw[l4.nd (by have:=l3.len;omega),e3]
   have st2:X.b=false->υ.ce (υ.nd v).status=0:=λ hb=>by rw[hg2.solo hb,<- hg2.solo hb];exact hs
   have hset:X.b=false->ph X.H υ χ (υ.nd v).status 2:=λ hb=>by
    rw[hg4.solo hb];rcases hf.s hb with⟨_,_,h⟩|⟨h1,h2⟩;·exact h
    ·subst h2;exact absurd (st2 hb) (hf.f h1)
   have l24:=l3.trans i2 i3 l4;have l04:=l12.trans i0 i2 l24;rw[e3];refine K4 hX (hT.up l04) hro i4 (by rw[e4];exact h8') (λ hb=>.inl ?_) λ ψ l5 i5 hI _ hc=>?_
   ·rw[(hset hb).other _ hrs];exact hve2 hb
   ·refine(hK ψ _ (l04.trans i0 i4 l5) i5 hI ⟨λ hb h=>absurd h (hno hb),λ hb v' h1 _ _=>?_,λ hb=>?_⟩);·have e:=hg12.solo hb;have e1:=hset hb;have e2:=hve2 hb;subst e;have ev:v'=v:=h1.symm.trans e2;subst ev;have hst:χ.ce (υ.nd v').status=2:=e1.at';have h3:=hc hb;rw[hst,if_neg (by decide),e4] at h3;exact .inr ⟨h3.1,by rw[h3.2 _ (Ne.symm hrs)];exact hst⟩
    ·have e:=hg12.solo hb;have e1:=hset hb;subst e;refine(uj e1 (.inr ⟨v,hd2.2.2.2.2.2⟩)).trans l24 λ x _ _ a _=>(hc hb).2 x λ ex=>?_;rw[ex] at a;exact a ((hT.up l24).rw hro)
  ·rename_i hs;refine(K4 hX (hT.up l12) hro i2 h8' (λ hb=>.inl (hve2 hb)) λ ψ l5 i5 hI _ hc=>?_).mono (by omega:n+1<=n+3);refine hK ψ _ (l12.trans i0 i2 l5) i5 hI ⟨λ hb h=>absurd h (hno hb),λ hb v' h1 h2 h3=>?_,λ hb=>?_⟩;·have e:=hg12.solo hb;have e2:=hve2 hb;subst e;have ev:v'=v:=h1.symm.trans e2;subst ev;exact absurd h3 hs
   ·have e:=hg12.solo hb;subst e;exact λ x _ _ a _=>(hc hb).2 x λ ex=>by rw[ex] at a;exact a (hT.rw hro)
end
end
section
section
variable{X:Xp}{σ τ υ:Kw}{i m p g v:Int}{w:List Nat}{t:dW}{n:Nat}
structure RdF(X:Xp)(σ τ:Kw)(t:dW)(i v:Int):Prop where
 e:X.b=false->bC σ (σ.ce (σ.nd i).main)->τ=σ/\v=σ.ce (σ.nd i).main
 s:X.b=false->(σ.nd (σ.ce t.root)).kind=2->τ.ce (σ.nd i).main=v/\Kf σ τ i
 d:X.b=false->DsF σ τ t
abbrev KR'(X:Xp)(σ:Kw)(t:dW)(i:Int)(w:List Nat)(g:Int)(K:Int->Tr)(n:Nat):Prop:=∀τ v,Le σ τ->Inv X.H τ->oQ τ v w g->bC τ v->RdF X σ τ t i v->XT X (K v) n τ
def CmO(σ:Kw)(t:dW)(i m:Int):Prop:=t.ro=false/\(σ.nd (σ.ce t.root)).kind=2/\(σ.nd (σ.ce t.root)).gen=(σ.nd i).gen/\cB (σ.nd (σ.ce (σ.nd m).prev))
theorem Jg{K:Int->Tr}(hX:aw X)(hT:bY σ t)(i0:Inv X.H σ)(hi:qU σ i w g)(hm:oQ σ m w g)(hc0:X.b=false->σ.ce (σ.nd i).main=m)
  (hK:∀τ v,Le σ τ->Inv X.H τ->oQ τ v w g->bC τ v->(τ.ce (σ.nd i).main≠m∨bC τ m)->RdF X σ τ t i v->(X.b=false->CmO σ t i m->v=m)->XT X (K v) n τ):XT X (oO t i m K) (n+9) σ:=by
 have hr:=hm.in;refine cS hr.2 (pX λ τ hg=>?_);have l1:=hg.le;have i1:=hg.inv;have e1:(τ.nd m).prev=(σ.nd m).prev:=by rw[l1.nd hr.2]
 have eni:(τ.nd i).main=(σ.nd i).main:=by rw[l1.nd hi.in.2]
 have hc1:1<=(σ.nd m).prev/\(σ.nd m).prev<=τ.cl/\τ.ct (σ.nd m).prev=.prev m:=by rw[<- e1];exact i1.kR (hm.up l1).1
 have hce:=i1.ce _ hc1.1 hc1.2.1;have hp:=hce.prev m hc1.2.2;have hhi:=hce.hi;have hcm:X.b=false->τ.ce (τ.nd i).main=m:=λ hb=>by rw[hg.solo hb];exact hc0 hb
 try dsimp only
 split
 ·rename_i e0;have hs:bC τ m:=by unfold bC;rw[e1];exact e0
  exact(hK τ m l1 i1 (hm.up l1) hs (.inr hs) ⟨λ hb _=>⟨hg.solo hb,(hc0 hb).symm⟩,λ hb _=>⟨by rw[<- eni];exact hcm hb,hg.frm hb⟩,λ hb=>by rw[hg.solo hb];exact .refl σ t⟩ (λ _ _=>rfl)).mono (by omega)
 ·rename_i e0;have hns:X.b=false->¬bC σ (σ.ce (σ.nd i).main):=λ hb h=>by rw[hc0 hb] at h;rw[hg.solo hb] at e0;exact e0 h
  have hKC:KC X τ i m w g (CmO σ t i m) K n:=λ υ u l2 i2 hu hs f=>hK υ u (l1.trans i0 i1 l2) i2 hu hs (by rw[<- eni];exact f.ok) ⟨λ hb h=>absurd h (hns hb),λ hb _=>⟨by rw[<- eni];exact(f.s hb).1,(hg.frm hb).trans l1 (f.s hb).2⟩,λ hb=>by
   have e:=hg.solo hb;have f2:=(f.s hb).2;rw[e] at f2
   exact vo hT i0 f2⟩ f.c
  refine cS hhi ?_;try dsimp only
  split
  ·rename_i hk;have hpm:rJ τ m (τ.ce (σ.nd m).prev):=by
    rcases hp.2 with h|h|h;·exact absurd h e0
    ·exact h
    ·exact absurd hk (kB (.inr (.inl h.1)))
   have hpend:Su τ m (τ.ce (σ.nd m).prev):=⟨hp.1,hk,hpm,.inl (by rw[e1])⟩;try dsimp only
   split;·exact(rr hX i1 (hi.up l1) (hm.up l1) hcm hpend (λ _=>by rw[e1]) (λ _ h=>absurd h.1 (by rw[‹t.ro=true›];decide)) hKC).mono (by omega)
   ·refine aAP hX (n:=n+3) (hT.up l1) i1 λ υ r l2 i2 hr2 hrt=>cS hr2.in.2 (cS ((hi.up l1).up l2).in.2 ?_);have eni2:(υ.nd i).main=(τ.nd i).main:=by rw[l2.nd (hi.up l1).in.2]
    have hmc:=i1.eH (hi.up l1).1.1;have hpcl:=hpend.cell i1;refine rr (cm:=CmO σ t i m) hX i2 ((hi.up l1).up l2) ((hm.up l1).up l2) (λ hb=>?_) (hpend.up i1 i2 l2) (λ hb=>?_) (λ hb h=>?_) λ ρ u l3 i3 hu hs f=>?_
    ·rw[eni2,hrt.c hb _ hmc.1 hmc.2.1 (by rw[hmc.2.2];intro h;cases h) (λ d=>by rw[hmc.2.2];intro h;cases h)];exact hcm hb
    ·rw[l2.nd (hm.up l1).in.2,hrt.c hb _ hpcl.1 hpcl.2.1 (by rw[hpcl.2.2];intro h;cases h) (λ d=>by rw[hpcl.2.2];intro h;cases h),e1]
    ·have e:=hg.solo hb;subst e;have e2:=hrt.s hb h.2.1;obtain⟨e3,e4⟩:=e2
     subst e3;rw[e4,h.2.2.1];exact beq_self_eq_true _
    ·refine hK ρ u ((l1.trans i0 i1 l2).trans i0 i2 l3) i3 hu hs (by rw[<- eni,<- eni2];exact f.ok) ⟨λ hb h=>absurd h (hns hb),λ hb hk2=>?_,λ hb=>?_⟩ ?_;·have e:=hg.solo hb;subst e;have e2:=(hrt.s hb hk2).1;subst e2;exact f.s hb
     ·have e:=hg.solo hb;subst e;exact(hrt.d hb).frm hT i0 i2 l2 (f.s hb).2
     ·exact f.c
  ·rename_i hk;rcases hp.2 with h|h|h;·exact absurd h e0
   ·exact absurd h.1.1 hk
   ·exact(aAf hX i1 (hi.up l1) (hm.up l1) hcm (by unfold bC;rw[e1];exact e0) h.1 h.2 (λ hb hc=>by have e:=hg.solo hb;subst e;exact absurd hc.2.2.2 (kB (.inr (.inl h.1)))) hKC).mono (by omega)
theorem pR{K:Int->Tr}(hX:aw X)(hT:bY σ t)(i0:Inv X.H σ)(hi:qU σ i w g)(hK:KR' X σ t i w g K n):XT X (iM t i K) (n+10) σ:=by
 refine cS hi.in.2 (pX λ τ hg=>?_);have l1:=hg.le;have i1:=hg.inv;have hi1:=hi.up l1;have hm:=hi1.ib i1;have eni:τ.nd i=σ.nd i:=l1.nd hi.in.2;rw[eni] at hm;refine Jg hX (hT.up l1) i1 hi1 hm (λ hb=>by rw[eni]) λ υ u l2 i2 hu hs _ f _=>hK υ u (l1.trans i0 i1 l2) i2 hu hs ?_;refine⟨λ hb=>?_,λ hb=>?_,λ hb=>?_⟩<;>have e:=hg.solo hb<;>subst e
 ·exact f.e hb
 ·exact f.s hb
 ·exact f.d hb
structure DcF(X:Xp)(σ τ:Kw)(t:dW)(v:Int):Prop where
 a:X.b=false->σ.ce t.root=v->σ.ce (σ.nd v).status=0->(τ.ce t.root=v/\τ.ce (σ.nd v).status≠0)∨(τ.ce t.root=(σ.nd v).bS/\τ.ce (σ.nd v).status=2)
 b:X.b=false->σ.ce t.root=v->σ.ce (σ.nd v).status=0->σ.ce (σ.nd (σ.nd v).bS).main=(σ.nd v).exp->bC σ (σ.nd v).exp->τ.ce t.root=v/\τ.ce (σ.nd v).status=1
theorem Io{K:Tr}(hX:aw X)(hT:bY σ t)(hro:t.ro=false)(i0:Inv X.H σ)(h:(σ.nd v).kind=8)(hK:∀τ,Le σ τ->Inv X.H τ->DcF X σ τ t v->XT X K n τ):XT X (qD t v K) (n+11) σ:=by
 have hd:=i0.desc h;refine cS hd.1 (pR hX hT i0 (g:=(σ.nd (σ.nd v).bS).gen) ⟨hd.2.1,rfl⟩ λ τ m l1 i1 _ _ fr=>cS (by have:=l1.len;omega) (cS (by have:=l1.len;omega) ?_));have en:τ.nd v=σ.nd v:=l1.nd hd.1;have h8:(τ.nd v).kind=8:=by rw[en];exact h
 have hd1:=i1.desc h8;have hrs:t.root≠(σ.nd v).status:=λ e=>by have h3:=hd.2.2.2.2.2;rw[<- e,hT.rw hro] at h3;cases h3
 refine El hd1.2.2.2.1 hd1.2.2.2.2.1 i1 (λ ρ l3 i3 _=>S8 i1 h8 (by split<;>simp) l3 i3) (λ ρ l _ _=>hX.r0 _ _ _ _ (λ i' h=>?_) (λ h=>?_)) (λ ρ b l3 i3 hf=>hK ρ (l1.trans i0 i1 l3) i3 ⟨λ hb h1 h2=>?_,λ hb h1 h2 h3 h4=>?_⟩);·rw[l.ct _ hd1.2.2.2.2.1,hd1.2.2.2.2.2] at h;cases h
 ·rw[l.ct _ hd1.2.2.2.2.1,hd1.2.2.2.2.2] at h;cases h
 ·have hds:=fr.d hb v h1 h h2;rw[en] at hf;rcases hf.s hb with⟨_,_,hs⟩|⟨h5,h6⟩
  ·rcases hds with⟨d1,d2⟩|⟨d1,d2⟩;·refine .inl ⟨by rw[hs.other _ hrs];exact d1,?_⟩;rw[hs.at'];split<;>decide
   ·have := ‹τ.ce (σ.nd v).status=0›;rw[d2] at this;exact absurd this (by decide)
  ·subst h6;rcases hds with⟨d1,d2⟩|⟨d1,d2⟩;·exact absurd d2 (hf.f h5)
   ·exact .inr ⟨d1,d2⟩
 ·have e:=fr.e hb (by rw[h3];exact h4);obtain⟨e1,e2⟩:=e;subst e1;rw[h3] at e2;rcases hf.s hb with⟨_,_,hs⟩|⟨h5,h6⟩;·refine⟨by rw[hs.other _ hrs];exact h1,?_⟩;rw[hs.at',if_pos e2]
  ·subst h6;exact absurd h2 (hf.f h5)
structure HpF(X:Xp)(σ τ:Kw)(t:dW)(r:Int):Prop where
 r:X.b=false->τ.ce t.root=r
 e:X.b=false->(σ.nd (σ.ce t.root)).kind=2->τ=σ
theorem xA{K:Int->Tr}(hX:aw X)(hT:bY σ t)(i0:Inv X.H σ)(hK:∀τ r,Le σ τ->Inv X.H τ->uW τ r []->HpF X σ τ t r->XT X (K r) n τ):XT X (kI t K) (n+15) σ:=by
 refine pX λ τ hg=>?_;have l1:=hg.le;have i1:=hg.inv;have hT1:=hT.up l1;have hv:=l7 hT1 i1;generalize hve:τ.ce t.root=v at hv ⊢;refine cS hv.1 ?_;try dsimp only
 split
 ·rename_i h2;rcases hv.2 with h|h;·exact(hK τ v l1 i1 h ⟨λ _=>hve,λ hb _=>hg.solo hb⟩).mono (by omega)
  ·rw[h.1] at h2;exact absurd h2 (by decide)
 ·rename_i h2;have h8r:(τ.nd v).kind=8/\t.ro=false:=by
   rcases hv.2 with h|h;·exact absurd h.1 h2
   ·exact h
  obtain⟨h8,hro⟩:=h8r;have hno:X.b=false->¬(σ.nd (σ.ce t.root)).kind=2:=λ hb h=>by have e:=hg.solo hb;subst e;rw[hve] at h;exact h2 h
  refine cS hv.1 (pX λ υ hg2=>?_);have l2:=hg2.le;have i2:=hg2.inv;have en:υ.nd v=τ.nd v:=l2.nd hv.1;have h8':(υ.nd v).kind=8:=by rw[en];exact h8
  have hv':v<=υ.len:=by have:=l2.len;have:=hv.1;omega
  have hd2:=i2.desc h8';have l12:=l1.trans i0 i1 l2;have hve2:X.b=false->υ.ce t.root=v:=λ hb=>by rw[hg2.solo hb];exact hve
  rw[<- en];try dsimp only
  split
  ·rename_i hs;refine Io hX (n:=n+2) (hT.up l12) hro i2 h8' λ ρ l3 i3 hdc=>cS (by have:=l3.len;omega) (pX λ χ hg4=>?_);have l4:=hg4.le;have i4:=hg4.inv;have e3:ρ.nd v=υ.nd v:=l3.nd hv';have e4:χ.nd v=υ.nd v:=by rw[l4.nd (by have:=l3.len;omega),e3]
   rw[e3];refine K4 hX (((hT.up l12).up l3).up l4) hro i4 (by rw[e4];exact h8') (λ hb=>?_) λ ψ l5 i5 hI _ hc=>?_
   ·have st2:υ.ce (υ.nd v).status=0:=by rw[hg2.solo hb] at hs ⊢;exact hs
    rcases hdc.a hb (hve2 hb) st2 with⟨h5,_⟩|⟨h5,h6⟩;·exact .inl (by rw[hg4.solo hb];exact h5)
    ·refine .inr ?_;rw[hg4.solo hb] at e4 ⊢;rw[h6,if_neg (by decide),h5,e4]
   ·exact(hK ψ _ (((l12.trans i0 i2 l3).trans i0 i3 l4).trans i0 i4 l5) i5 hI ⟨λ hb=>(hc hb).1,λ hb h=>absurd h (hno hb)⟩).mono (by omega)
  ·rename_i hs;exact(K4 hX (hT.up l12) hro i2 h8' (λ hb=>.inl (hve2 hb)) λ ψ l5 i5 hI _ hc=>hK ψ _ (l12.trans i0 i2 l5) i5 hI ⟨λ hb=>(hc hb).1,λ hb h=>absurd h (hno hb)⟩).mono (by omega)
end
end
section
section
variable{X:Xp}{σ τ υ:Kw}{i m p g v:Int}{w:List Nat}{t:dW}{n:Nat}
structure GcS(X:Xp)(σ:Kw)(t:dW)(i g o m:Int):Prop where
 b:X.b=false
 ro:t.ro=false
 k2:(σ.nd (σ.ce t.root)).kind=2
 gen:(σ.nd (σ.ce t.root)).gen=g
 ma:σ.ce (σ.nd i).main=o
 pr:σ.ce (σ.nd m).prev=o
 mo:cB (σ.nd o)
structure GcR(σ τ:Kw)(i m:Int)(bb:Bool):Prop where
 t:bb=true
 ma:τ.ce (σ.nd i).main=m
 st:bC τ m
 fr:Kf σ τ i
theorem Dt{o:Int}{K:Bool->Tr}(hX:aw X)(hT:bY σ t)(i0:Inv X.H σ)(hi:qU σ i w g)(hn:oQ σ m w g)
  (hK:∀τ bb,Le σ τ->Inv X.H τ->(GcS X σ t i g o m->GcR σ τ i m bb)->XT X (K bb) n τ):XT X (lH t i o m K) (n+10) σ:=by
 have hc:=i0.eH hi.1.1;refine cS hi.in.2 (El hc.1 hc.2.1 i0 (λ τ l1 i1 _=>S9 i0 hi hn l1 i1) (λ υ l i1 _=>?_) (λ τ b l1 i1 hf=>?_))
 ·have:=hX.r2 υ t i w g m (λ v=>K (v==m)) i1 (hT.up l) (hi.up l) (hn.up l);rw[l.nd hi.in.2] at this;exact this
 ·try dsimp only
  have eni:τ.nd i=σ.nd i:=l1.nd hi.in.2;have enm:τ.nd m=σ.nd m:=l1.nd hn.in.2;have hne:=Yn i0 hn.1 hi.1.1;split
  ·rename_i hb;subst hb;refine Jg hX (hT.up l1) i1 (hi.up l1) (hn.up l1) (λ _=>by rw[eni];exact hf.t rfl) λ υ u l2 i2 hu hs _ f hcm=>hK υ _ (l1.trans i0 i1 l2) i2 λ hg=>?_;rcases hf.s hg.b with⟨_,_,h⟩|⟨h1,_⟩
   ·have hroot:=hT.rw hg.ro;have hrne:t.root≠(σ.nd i).main:=λ e=>by rw[e,hc.2.2] at hroot;cases hroot
    have er:τ.ce t.root=σ.ce t.root:=h.other _ hrne;have enr:τ.nd (τ.ce t.root)=σ.nd (σ.ce t.root):=by rw[er];exact l1.nd (i0.ce _ hT.1 hT.2.1).hi
    have hk2:(τ.nd (τ.ce t.root)).kind=2:=by rw[enr];exact hg.k2
    have hcmo:CmO τ t i m:=⟨hg.ro,hk2,by rw[enr,eni,hi.2];exact hg.gen,by rw[enm,h.other _ hne,hg.pr,l1.nd (iY hg.mo).2];exact hg.mo⟩;have ev:=hcm hg.b hcmo;have fs:=f.s hg.b hk2;rw[ev] at hs fs;exact⟨by rw[ev];exact beq_self_eq_true m,by rw[<- eni];exact fs.1,hs,(Ga h (.inl hc.2.2)).trans l1 fs.2⟩
   ·cases h1
  ·rename_i hb;have hb':b=false:=by simpa using hb
   subst hb';refine(hK τ false l1 i1 λ hg=>?_).mono (by omega);rcases hf.s hg.b with⟨h1,_,_⟩|⟨_,h⟩;·cases h1
   ·subst h;exact absurd hg.ma (hf.f rfl)
structure Fm(X:Xp):Prop extends aw X where
 al:X.al=false
structure RcS(X:Xp)(σ:Kw)(t:dW)(o e:Int):Prop where
 b:X.b=false
 ro:σ.ce t.root=o
 ma:σ.ce (σ.nd o).main=e
 st:bC σ e
theorem Nr{o e nw:Int}{K:Bool->Tr}(hX:Fm X)(hT:bY σ t)(hro:t.ro=false)(i0:Inv X.H σ)(ho:uW σ o [])(hn:uW σ nw [])(he1:1<=e)(he2:e<=σ.len)
  (hK:∀τ bb,Le σ τ->Inv X.H τ->(RcS X σ t o e->bb=true)->XT X (K bb) n τ):XT X (wI t o e nw K) (n+14) σ:=by
 refine jM (w:=[]) (g:=0) hX.al i0 (rb i0 ho he1 he2 hn) ⟨⟨Int.le_refl _,bN _⟩,λ k=>dU (a:=8) (b:=2) k,λ k=>absurd k (kB (.inr (.inr (.inr (.inl rfl))))),λ _=>rfl⟩ (λ υ d l1 i1 af=>?_);have h8:(υ.nd d).kind=8:=by rw[af.nd];rfl
 have hdo:(υ.nd d).bS=o/\(υ.nd d).exp=e:=by rw[af.nd];exact⟨rfl,rfl⟩
 have hd2:=af.r2;have hT1:=hT.up l1;have hst0:=af.stat rfl;refine El hT1.1 hT1.2.1 i1 (λ τ l2 i2 _=>?_) (λ ρ l i2 _=>?_) (λ τ b l2 i2 hf=>?_)
 ·have e:=(hT1.up l2).rw hro;refine⟨by have:=af.r1;omega,by have:=l2.len;omega,λ i' h=>?_,λ m' h=>?_,λ d h=>?_,λ h=>.inr (by rw[l2.nd hd2];exact h8),λ h=>?_⟩<;>rw[e] at h<;>cases h
 ·exact hX.r4 ρ t d (λ s _=>K (s==1)) i2 (hT1.up l) hro (by rw[l.nd hd2];exact h8)
 ·have en:τ.nd d=υ.nd d:=l2.nd hd2;have h8':(τ.nd d).kind=8:=by rw[en];exact h8
  have hd2':d<=τ.len:=by have:=l2.len;omega
  have hdd:=i2.desc h8';have l12:=l1.trans i0 i1 l2
  have hrs:t.root≠(υ.nd d).status:=λ e=>by have h3:=hdd.2.2.2.2.2;rw[en,<- e,(hT.up l12).rw hro] at h3;cases h3
  try dsimp only
  split
  ·rename_i hb;have hsol:X.b=false->τ.ce t.root=d/\τ.ce (τ.nd d).status=0/\ph X.H υ τ t.root d/\υ.ce t.root=o:=λ hb2=>by
    rcases hf.s hb2 with⟨_,h2,h⟩|⟨h1,_⟩;·exact⟨h.at',by rw[en,h.other _ (Ne.symm hrs)];exact hst0,h,h2⟩
    ·rw[hb] at h1;cases h1
   refine Io hX.toaw (n:=n+2) (hT1.up l2) hro i2 h8' λ ρ l3 i3 hdc=>cS (by have:=l3.len;omega) (pX λ χ hg4=>?_);have l4:=hg4.le;have i4:=hg4.inv;have e3:ρ.nd d=τ.nd d:=l3.nd hd2';have e4:χ.nd d=τ.nd d:=by rw[l4.nd (by have:=l3.len;omega),e3]
   rw[e3];refine K4 hX.toaw (((hT1.up l2).up l3).up l4) hro i4 (by rw[e4];exact h8') (λ hb2=>?_) λ ψ l5 i5 _ _ _=>?_
   ·obtain⟨s1,s2,_,_⟩:=hsol hb2;rcases hdc.a hb2 s1 s2 with⟨h5,_⟩|⟨h5,h6⟩;·exact .inl (by rw[hg4.solo hb2];exact h5)
    ·refine .inr ?_;rw[hg4.solo hb2] at e4 ⊢;rw[h6,if_neg (by decide),h5,e4]
   ·refine(hK ψ _ (((l12.trans i0 i2 l3).trans i0 i3 l4).trans i0 i4 l5) i5 λ hr=>?_).mono (by omega);obtain⟨s1,s2,s3,_⟩:=hsol hr.b;have hmc:=i0.eH ho.1;have hrm:t.root≠(σ.nd o).main:=λ e=>by have h3:=hmc.2.2;rw[<- e,hT.rw hro] at h3;cases h3
    have hcur:=(i0.ce _ hmc.1 hmc.2.1).main o hmc.2.2;rw[hr.ma] at hcur;have hmk:=hcur.2.1;have h7:=hdc.b hr.b s1 s2 (by rw[en,hdo.1,hdo.2,l12.nd ho.in.2,s3.other _ (Ne.symm hrm),af.ce hmc.2.1];exact hr.ma) (by rw[en,hdo.2];exact bC.up i0 hmk hr.st l12);rw[hg4.solo hr.b,h7.2];rfl
  ·rename_i hb;refine(hK τ false l12 i2 λ hr=>?_).mono (by omega);have hb':b=false:=by simpa using hb
   subst hb';rcases hf.s hr.b with⟨h1,_,_⟩|⟨_,h⟩;·cases h1
   ·subst h;exact absurd (by rw[af.ce hT.2.1];exact hr.ro) (hf.f rfl)
def OkM(i m:Int)(σ:Kw):Prop:=σ.ce (σ.nd i).main≠m∨bC σ m
def OkR(c d:Int)(σ:Kw):Prop:=σ.ce c≠d
def X0(H:ByteArray->Nat)(G:Kw->Prop):Xp:=⟨H,λ _ _=>False,λ _=>False,0,G,λ _ _ _ _=>True,true,true⟩
theorem sq(H:ByteArray->Nat)(G:Kw->Prop):aw (X0 H G):=⟨λ _ _ _ _ _ _=>trivial,λ _ _ _ _ _ _ _=>trivial,λ _ _ _ _ _ _ _ _ _ _ _=>trivial,λ _ _ _ _ _ _=>trivial,λ _ _ _ _ _ _ _ _=>trivial⟩
def RF(H:ByteArray->Nat)(c v:Int)(t:Tr)(υ:Kw):Prop:=(∀i,υ.ct c=.main i->bC υ v∨∃n,XT (X0 H (OkM i v)) t n υ)/\(υ.ct c=.root->(υ.nd v).kind=2∨∃n,XT (X0 H (OkR c v)) t n υ)
theorem Yb{X:Xp}(hR:X.R=RF X.H):aw X:=by
 refine⟨λ c v t υ h1 h2=>?_,λ c v t υ i h1 h2=>?_,λ υ t i w g m K i0 hT hi hm=>?_,λ c v t υ h1 h2=>?_,λ υ t d K i0 hT hro h8=>?_⟩<;>rw[hR];·exact⟨λ i h=>absurd h (h1 i),λ h=>absurd h h2⟩
 ·exact⟨λ i' h=>.inl h2,λ h=>by rw[h1] at h;cases h⟩
 ·have hc:=i0.eH hi.1.1;refine⟨λ i' h=>.inr ⟨0+9,?_⟩,λ h=>by rw[hc.2.2] at h;cases h⟩;rw[hc.2.2] at h;cases h
  refine Jg (X:=X0 X.H (OkM i m)) (sq _ _) hT i0 hi hm (λ h=>nomatch h) λ τ v l1 i1 _ _ hok _ _=>XT.stop (show OkM i m τ from ?_);unfold OkM;rw[l1.nd hi.in.2];exact hok
 ·exact⟨λ i h=>(by rw[h1] at h;cases h),λ _=>.inl h2⟩
 ·have hr:=hT.rw hro;refine⟨λ i h=>(by rw[hr] at h;cases h),λ _=>.inr ⟨2+11,?_⟩⟩;have hdd:=i0.desc h8;refine Io (X:=X0 X.H (OkR t.root d)) (sq _ _) (n:=0+2) hT hro i0 h8 λ ρ l3 i3 _=>cS (by have:=l3.len;have:=hdd.1;omega) (pX λ χ hg4=>?_);have l4:=hg4.le;refine K4 (sq _ _) ((hT.up l3).up l4) hro hg4.inv (by rw[l4.nd (by have:=l3.len;have:=hdd.1;omega),l3.nd hdd.1];exact h8) (λ h=>nomatch h) λ ψ _ _ _ h _=>XT.stop h
end
end
section
section
variable{X:Xp}{σ τ υ:Kw}{i m p g v:Int}{w:List Nat}{t:dW}{n:Nat}
structure FL(t:dW)(L:Nat)(σ τ:Kw):Prop where
 root:τ.ce t.root=σ.ce t.root
 main:∀p,(σ.nd p).kind=2->(σ.way p).length<L->τ.ce (σ.nd p).main=σ.ce (σ.nd p).main
theorem FL.refl(t:dW)(L:Nat)(σ:Kw):FL t L σ σ:=⟨rfl,λ _ _ _=>rfl⟩
theorem kD{k:Int}(h:(σ.nd p).kind=k)(hk:k≠0:=by decide):p<=σ.len:=(eU (N:=σ.mm.nodes) (i:=p) (by simp only[Kw.nd] at h;rw[h];exact hk)).2
theorem FL.trans{L:Nat}(l:Le σ τ)(h:FL t L σ τ)(h2:FL t L τ υ):FL t L σ υ:=⟨h2.root.trans h.root,λ p hk hp=>by
 have e:=l.nd (kD hk);have:=h2.main p (by rw[e];exact hk) (by rw[l.way p (kD hk)];exact hp);rw[e] at this
 exact this.trans (h.main p hk hp)⟩
theorem FL.less{L L':Nat}(h:FL t L σ τ)(hl:L'<=L):FL t L' σ τ:=⟨h.root,λ p hk hp=>h.main p hk (by omega)⟩
theorem zb{H:ByteArray->Nat}(i0:Inv H σ){i j:Int}(hi:(σ.nd i).kind=2)(hj:(σ.nd j).kind=2)(hne:i≠j):σ.ct (σ.nd i).main≠.main j:=λ h=>by rw[(i0.eH hi).2.2] at h;cases h;exact hne rfl
theorem M4{H:ByteArray->Nat}(hT:bY σ t)(i0:Inv H σ)(f:Kf σ τ i):FL t (σ.way i).length σ τ:=⟨xC hT f,λ p hk hp=>by
 have hc:=i0.eH hk;refine f _ hc.1 hc.2.1 (λ h=>?_) (λ m h=>?_)
 ·rw[hc.2.2] at h;cases h;omega
 ·rw[hc.2.2] at h;cases h⟩
theorem tf.fl{H:ByteArray->Nat}{nd:Nv}{c r:Int}{L:Nat}(hT:bY σ t)(i0:Inv H σ)(a:tf σ υ nd c r w g):FL t L σ υ:=⟨a.ce hT.2.1,λ p hk _=>a.ce (i0.eH hk).2.1⟩
structure yx(σ:Kw)(p:Int)(k:Nat)(b:Int):Prop where
 st:bC σ (σ.ce (σ.nd p).main)
 lk:iU (σ.nd (σ.ce (σ.nd p).main)) (k:Int)=some b
structure od(σ:Kw)(p:Int)(k:Nat):Prop where
 st:bC σ (σ.ce (σ.nd p).main)
 no:∀b,iU (σ.nd (σ.ce (σ.nd p).main)) (k:Int)=some b->(σ.nd b).kind≠2
structure K5(X:Xp)(σ:Kw)(t:dW)(g:Int):Prop where
 b:X.b=false
 ro:t.ro=false
 k2:(σ.nd (σ.ce t.root)).kind=2
 gen:(σ.nd (σ.ce t.root)).gen=g
variable{r o:Int}{b k:Nat}{xs:List Int}
theorem K5.fl{H:ByteArray->Nat}{L:Nat}(i0:Inv H σ)(hT:bY σ t)(l:Le σ τ)(f:FL t L σ τ)(h:K5 X σ t g):K5 X τ t g:=by
 have e:τ.nd (τ.ce t.root)=σ.nd (σ.ce t.root):=by rw[f.root];exact l.nd (i0.ce _ hT.1 hT.2.1).hi
 exact⟨h.b,h.ro,by rw[e];exact h.k2,by rw[e];exact h.gen⟩
theorem Bl{K:Int->Tr}{g':Int}(hX:Fm X)(i0:Inv X.H σ)(h1:1<=g)(h2:g<=σ.mm.gen)(hw:w.length<=11)(hm:oQ σ m w g')(hs:bC σ m)(hg:g'<=g)(hK:∀τ j,Le σ τ->Inv X.H τ->qU τ j w g->tf σ τ (oA g) m j w 0->XT X (K j) n τ):XT X (.alloc (oA g) m K) n σ :=jM (w:=w) (g:=0) hX.al i0 (Dg hw h1 h2) ⟨⟨by have:=hm.in;omega,hm.in.2⟩,λ _=>hm.le hg,λ k=>absurd k (kB (.inr (.inr (.inl rfl)))),λ k=>dU (a:=2) (b:=8) k⟩ (λ υ j l1 i1 a=>hK υ j l1 i1 ⟨⟨by rw[a.nd];rfl,a.way⟩,by rw[a.nd];rfl⟩ a) λ _=>hs
theorem qc{K:Int->Tr}(hX:Fm X)(i0:Inv X.H σ)(hK:∀υ,Le σ υ->Inv X.H υ->υ.mm=⟨σ.mm.nodes,σ.mm.cs,σ.mm.gen+1⟩->XT X (K (σ.mm.gen+1)) n υ):XT X (.gen K) n σ:=by obtain⟨υ,l,i,e,_⟩:WT X.H (λ _ _=>True) (.gen λ _=>.done Rs.zero) σ:=ow i0 λ _ _ _ _=>trivial;exact .inr ⟨λ _ υ l i e=>hK υ l i e,λ _=>⟨υ,l,i,e,hK υ l i e⟩⟩
theorem To{K:Int->Tr}(hX:Fm X)(ro:Bool)(i0:Inv X.H σ)(hr:uW σ r [])(hK:∀υ c,Le σ υ->Inv X.H υ->0<c->bY υ ⟨c,ro⟩->XT X (K c) n υ):XT X (.cell r K) n σ:=by obtain⟨υ,l,i,e,h1,h2⟩:WT X.H (λ r υ=>0<r.root/\bY υ ⟨r.root,ro⟩) (.cell r λ c=>.done (Ki c ro)) σ:=Y2 ro i0 hr λ _ _ _ _ h0 ht=>⟨h0,ht⟩;exact .inr ⟨hr.1,λ h=>(by rw[hX.al] at h;cases h),λ _=>⟨υ,l,i,e,hK υ _ l i h1 h2⟩⟩
theorem oz{K:Int->Tr}(hX:Fm X)(i0:Inv X.H σ)(hm:oQ σ m w g)(hs:bC σ m)(hc:nQ σ m w g b xs)(hk:k<64)(ho:iU (σ.nd m) (k:Int)=some o)(hr:Nm σ (w++[k]) g r)(h0:0<w.length->xs.length=1->(σ.nd r).kind=2)(hK:∀τ v,Le σ τ->Inv X.H τ->oQ τ v w g->tf σ τ (Up (σ.nd m) (k:Int) r) m v w g->cB (Up (σ.nd m) (k:Int) r)->iU (τ.nd v) (k:Int)=some r->XT X (K v) n τ):XT X (Ik m (k:Int) r K) n σ:=by
 have hmk:cB (Up (σ.nd m) (k:Int) r):=.inl (Rg hc hk ho hr.in.1);refine cS hm.in.2 (jM hX.al i0 (qa i0 hc hk ho hr h0) (yN hmk hm hs) λ υ n l1 i1 a=>?_);have hn:=oJ (cl:=0) hmk a.nd a.way a.gb;refine hK υ n l1 i1 hn a hmk ?_;have hcn:=hn.rR i1 (by rw[a.nd];exact Rg hc hk ho hr.in.1);obtain⟨f1,f2,f3,_⟩:=hc.up hk ho hr.in.1
 rw[hcn.lk hk,a.nd];show nW (Up (σ.nd m) (k:Int) r).bm.toNat (Up (σ.nd m) (k:Int) r).xs k=some r;rw[f1,show(Ck b (rV xs (fQ b k) r)).bm.toNat=b from Int.toNat_natCast _,show(Ck b (rV xs (fQ b k) r)).xs=rV xs (fQ b k) r from rfl,f3 k hk];unfold Lk;rw[if_pos rfl]
theorem we{K:Int->Tr}(hX:Fm X)(hT:bY σ t)(i0:Inv X.H σ)(hi:qU σ i w g)(hm:oQ σ m w g)(hs:bC σ m)(hc:nQ σ m w g b xs)(hk:k<64)(ho:iU (σ.nd m) (k:Int)=some o)(h2:(σ.nd o).kind=2)(hK:∀τ v,Le σ τ->Inv X.H τ->(v=0∨qU τ v (w++[k]) g)->(K5 X σ t g->σ.ce (σ.nd i).main=m->v≠0/\yx τ i k v/\FL t w.length σ τ)->XT X (K v) n τ):XT X (Oq t i m (k:Int) K) (n+20) σ:=by
 have hb:uW σ o (w++[k])/\(σ.nd o).gen<=g:=by
  have ho2:=ho;rw[hc.lk hk] at ho2;rcases hc.br k hk o ho2 with h|h
  ·rw[h2] at h;exact absurd h.1 (by decide)
  ·exact⟨⟨h.1,h.2.1⟩,h.2.2⟩
 have hg:=hi.E6 i0;refine cS hm.in.2 ?_;try dsimp only
 rw[show(iU (σ.nd m) (k:Int)).getD 0=o by rw[ho];rfl];refine pR hX.toaw (n:=n+10) hT i0 (g:=(σ.nd o).gen) ⟨hb.1,rfl⟩ λ τ v l1 i1 hv hsv fr=>cS (by have:=l1.len;have:=hi.in.2;omega) ?_;have hi1:=hi.up l1;try dsimp only
 rw[hi1.2];refine Bl hX i1 hg.1 (by have:=l1.gen;omega) E0r hv hsv hb.2 λ υ j l2 i2 hj aj=>?_;have l12:=l1.trans i0 i1 l2;have ho2:iU (υ.nd m) (k:Int)=some o:=by rw[l12.nd hm.in.2];exact ho
 refine oz hX i2 (hm.up l12) (bC.up i0 hm.1 hs l12) (hc.upL l12) hk ho2 (.inr ⟨hj.1.1,hj.1.2,by rw[hj.2];exact Int.le_refl _⟩) (λ _ _=>hj.1.1) λ ρ n l3 i3 hn an hmk hlk=>?_;have l13:=l12.trans i0 i2 l3;refine Dt hX.toaw (hT.up l13) i3 (hi.up l13) hn λ χ ok l4 i4 hgr=>hK χ _ (l13.trans i0 i3 l4) i4 ?_ λ hso hma=>?_
 ·try dsimp only
  split;·exact .inr ((hj.up l3).up l4)
  ·exact .inl rfl
 ·have fo:=fr.s hso.b hso.k2;have hne:i≠o:=λ e=>by have h1:=hi.1.2;rw[e,hb.1.2] at h1;have:=congrArg List.length h1;simp at this
  have hmi:=i0.eH hi.1.1;have emi:τ.ce (σ.nd i).main=m:=(fo.2 _ hmi.1 hmi.2.1 (zb i0 hi.1.1 hb.1.1 hne) (λ q h=>by rw[hmi.2.2] at h;cases h)).trans hma;have fl1:FL t w.length σ τ:=(M4 hT i0 fo.2).less (by rw[hb.1.2];simp);have fl2:FL t w.length τ υ:=aj.fl (hT.up l1) i1;have fl3:FL t w.length υ ρ:=an.fl (hT.up l12) i2;have fl13:=(fl1.trans l1 fl2).trans l12 fl3;have hso3:=hso.fl i0 hT l13 fl13;have hml:m<=σ.len:=hm.in.2
  have hgc:GcS X ρ t i g m n:=⟨hso3.b,hso3.ro,hso3.k2,hso3.gen,by rw[l13.nd hi.in.2,an.ce (by have:=l12.cl;have:=hmi.2.1;omega),aj.ce (by have:=l1.cl;have:=hmi.2.1;omega)];exact emi,an.prev hmk,by rw[l13.nd hml];exact hm.1⟩;have r:=hgr hgc;rw[if_pos r.t];have ema:χ.ce (χ.nd i).main=n:=by rw[l4.nd (hi.up l13).in.2];exact r.ma
  have hj1:=hj.in;refine⟨by omega,⟨by rw[ema];exact r.st,by rw[ema,l4.nd hn.in.2];exact hlk⟩,fl13.trans l13 ((M4 (hT.up l13) i3 r.fr).less (by rw[(hi.up l13).1.2];exact Nat.le_refl _))⟩
end
end
section
section
variable{X:Xp}{σ τ υ:Kw}{i m p g v:Int}{w:List Nat}{t:dW}{n:Nat}{c:Cl}{h:Nat}
def Kd(σ τ:Kw):Prop:=∀x:Int,x<=σ.cl->τ.ce x=σ.ce x
theorem Kd.refl(σ:Kw):Kd σ σ:=λ _ _=>rfl
theorem Kd.trans(l:Le σ τ)(h:Kd σ τ)(h2:Kd τ υ):Kd σ υ:=λ x hx=>(h2 x (by have:=l.cl;omega)).trans (h x hx)
theorem o7{nd:Nv}{y:Int}(em:υ.mm=σ.mm.push nd y):Kd σ υ:=λ x hx=>by
 have e2:υ.mm.cs=fL nd.kind σ.mm.cs y:=by rw[em];rfl
 show bK υ.mm.cs x=_;rw[e2];unfold fL;split;·exact tK hx
 ·rfl
theorem tf.Sl{nd:Nv}{x r:Int}(a:tf σ υ nd x r w g):Kd σ υ:=λ _ h=>a.ce h
theorem Kd.fl{H:ByteArray->Nat}{L:Nat}(hT:bY σ t)(i0:Inv H σ)(h:Kd σ τ):FL t L σ τ:=⟨h _ hT.2.1,λ p hk _=>h _ (i0.eH hk).2.1⟩
theorem K5.Sl(i0:Inv X.H σ)(hT:bY σ t)(l:Le σ τ)(f:Kd σ τ)(h:K5 X σ t g):K5 X τ t g:=h.fl i0 hT l (f.fl (L:=0) hT i0)
theorem F2{nd:Nv}{r:Int}(i0:Inv X.H σ)(i1:Inv X.H τ)(hT:bY σ t)(hi:qU σ i w g)(hm:oQ σ m w g)(l:Le σ τ)(l2:Le τ υ)(f:Kd σ τ)(a:tf τ υ nd m r w g)(hk:cB nd)(h:K5 X σ t g)(hma:σ.ce (σ.nd i).main=m):GcS X υ t i g m r:=by have l02:=l.trans i0 i1 l2;have f2:=f.trans l a.Sl;have h2:=h.Sl i0 hT l02 f2;exact⟨h2.b,h2.ro,h2.k2,h2.gen,by rw[l02.nd hi.in.2,f2 _ (i0.eH hi.1.1).2.1];exact hma,a.prev hk,by rw[l02.nd hm.in.2];exact hm.1⟩
structure ClS(X:Xp)(σ:Kw)(t:dW)(g p child:Int)(k:Nat):Prop where
 so:K5 X σ t g
 lk:yx σ p k child
 st:bC σ (σ.ce (σ.nd child).main)
 k5:(σ.nd (σ.ce (σ.nd child).main)).kind=5
theorem O4{level:Int}{parent child:Int}{K:Bool->Tr}(hX:Fm X)(hT:bY σ t)(i0:Inv X.H σ)(hp:qU σ parent w g)(hl:level=(w.length:Int))(hch:(σ.nd child).kind=2)
  (hK:∀τ b,Le σ τ->Inv X.H τ->(ClS X σ t g parent child (sl h w.length)->od τ parent (sl h w.length)/\FL t w.length σ τ)->XT X (K b) n τ):XT X (xU t parent child h level K) (n+30) σ:=by
 refine pR hX.toaw (n:=n+20) hT i0 hp λ τ m l1 i1 hm hs fr=>cS hm.in.2 ?_;try dsimp only
 split
 ·rename_i hlk;have h3:=lJ hlk;have hc:=hm.rR i1 h3;have hlev:eZ h level=((sl h w.length:Nat):Int):=by rw[hl];exact Ap hc.wl
  rw[hlev] at hlk ⊢;have hk:=xN h w.length;have hch1:(τ.nd child).kind=2:=by rw[l1.nd (kD hch)];exact hch
  have hb:uW τ child (w++[sl h w.length]):=by
   have h':=hlk;rw[hc.lk hk] at h';rcases hc.br _ hk _ h' with h|h
   ·rw[hch1] at h;exact absurd h.1 (by decide)
   ·exact⟨h.1,h.2.1⟩
  refine pR hX.toaw (n:=n+10) (hT.up l1) i1 (g:=(τ.nd child).gen) ⟨hb,rfl⟩ λ υ mc l2 i2 hmc _ fr2=>cS hmc.in.2 ?_;have l02:=l1.trans i0 i1 l2
  have hsame:ClS X σ t g parent child (sl h w.length)->υ=σ/\m=σ.ce (σ.nd parent).main/\mc=σ.ce (σ.nd child).main:=λ q=>by obtain⟨e1,e2⟩:=fr.e q.so.b q.lk.st;subst e1;obtain⟨e3,e4⟩:=fr2.e q.so.b q.st;exact⟨e3,e2,e4⟩
  try dsimp only
  split
  ·rename_i h5;have hlf:=i2.leaf (.inr h5);have hu:fT (υ.nd mc).hash.toNat (w++[sl h w.length]):=by have:=((i2.nd mc hmc.in.1 hmc.in.2).k5 h5).2.2.2.1;rwa [hmc.2.1] at this
   rw[s6 h5,yz hlf];refine jM (w:=[]) (g:=0) hX.al i2 (Be i2 hlf.sz hlf.ha hlf.hl) ⟨⟨Int.le_refl _,bN _⟩,λ k=>dU (a:=4) (b:=2) k,λ k=>by unfold cB at k;rcases k with k|k|k;exact dU (a:=4) (b:=3) k;exact dU (a:=4) (b:=5) k;exact dU (a:=4) (b:=6) k,λ _=>rfl⟩ λ ρ s l3 i3 asg=>?_;have l23:=l2.trans i1 i2 l3;have l03:=l02.trans i0 i2 l3;have hm3:=hm.up l23;have hc3:=hc.upL l23;have hlk3:iU (ρ.nd m) ((sl h w.length:Nat):Int)=some child:=by rw[l23.nd hm.in.2];exact hlk
   have hs4:(ρ.nd s).kind=4:=by rw[asg.nd];rfl
   have hbr:Nm ρ (w++[sl h w.length]) g s:=.inl ⟨hs4,by rw[asg.nd];exact hu⟩;refine cS hm3.in.2 ?_;have hup:=hc3.up hk hlk3 asg.r1
   have hfin:∀nd,cB nd->lF X.H ρ nd w g->(∀χ r,Le ρ χ->Inv X.H χ->tf ρ χ nd m r w g->∀b,iU (χ.nd r) ((sl h w.length:Nat):Int)=some b->(χ.nd b).kind≠2)->XT X (.alloc nd m λ r=>lH t parent m r K) (n+10) ρ:=λ nd hmk hn hno =>
    jM hX.al i3 hn (yN hmk hm3 (bC.up i1 hm.1 hs l23)) λ χ r l4 i4 ar=>by
     have l04:=l03.trans i0 i3 l4;have hr:=oJ (cl:=0) hmk ar.nd ar.way ar.gb;refine Dt hX.toaw (hT.up l04) i4 (hp.up l04) hr λ ψ ok l5 i5 hgr=>hK ψ ok (l04.trans i0 i4 l5) i5 λ q=>?_;obtain⟨e1,e2,e3⟩:=hsame q
     subst e1;have r1:=hgr (F2 i2 i3 (hT.up l02) (hp.up l02) (hm.up l2) l3 l4 asg.Sl ar hmk q.so e2.symm);have ema:ψ.ce (ψ.nd parent).main=r:=by rw[l5.nd (hp.up l04).in.2];exact r1.ma
     refine⟨⟨by rw[ema];exact r1.st,λ b hb=>?_⟩,((asg.Sl.fl (hT.up l02) i2).trans l3 (ar.Sl.fl (hT.up l03) i3)).trans (l3.trans i2 i3 l4) ((M4 (hT.up l04) i4 r1.fr).less (by rw[(hp.up l04).1.2];exact Nat.le_refl _))⟩;rw[ema,l5.nd hr.in.2] at hb;have hbk:=hno χ r l4 i4 ar b hb;have hbin:=((hr.rR i4 (lJ hb)).br _ hk b (by rw[<- (hr.rR i4 (lJ hb)).lk hk];exact hb)).in;rw[l5.nd hbin.2];exact hbk
   try dsimp only
   rw[hup.1,pq hup.2.1];try dsimp only
   split;·rename_i hx;refine hfin _ (.inr (.inl rfl)) (I6 i3 hlf.sz hlf.ha hlf.hl (by omega) (by have:=hc.wl;omega) (tL hu)) λ χ r l4 i4 ar b hb=>?_;have:=lJ hb;rw[ar.nd] at this;exact dU (a:=5) (b:=3) this
   ·rename_i hx;refine hfin _ (.inl rfl) ?_ λ χ r l4 i4 ar b hb=>?_;·rw[<- hup.1];refine qa i3 hc3 hk hlk3 hbr λ h0 h1=>absurd ⟨?_,by omega,rfl⟩ hx;rw[wP hup.2.2.2];exact h1
    ·have hr:=oJ (cl:=0) (σ:=χ) (.inl rfl) ar.nd ar.way ar.gb;have hcn:=hr.rR i4 (lJ hb);rw[hcn.lk hk,ar.nd] at hb
     have hb':nW (τ.nd m).bm.toNat (rV (τ.nd m).xs (fQ (τ.nd m).bm.toNat (sl h w.length)) s) (sl h w.length)=some b:=by rw[<- hb];show _=nW (Ck (τ.nd m).bm.toNat (rV (τ.nd m).xs (fQ (τ.nd m).bm.toNat (sl h w.length)) s)).bm.toNat (rV (τ.nd m).xs (fQ (τ.nd m).bm.toNat (sl h w.length)) s) _;rw[show(Ck (τ.nd m).bm.toNat (rV (τ.nd m).xs (fQ (τ.nd m).bm.toNat (sl h w.length)) s)).bm.toNat=(τ.nd m).bm.toNat from Int.toNat_natCast _]
     rw[hup.2.2.1 _ hk] at hb';unfold Lk at hb';rw[if_pos rfl] at hb';cases hb';rw[l4.nd asg.r2,hs4];decide
  ·rename_i h5;refine(hK υ _ l02 i2 λ q=>?_).mono (by omega);obtain⟨e1,e2,e3⟩:=hsame q;exact absurd (by rw[e3,e1];exact q.k5) h5
 ·rename_i hlk;refine(hK τ _ l1 i1 λ q=>?_).mono (by omega);obtain⟨e1,e2⟩:=fr.e q.so.b q.lk.st;refine absurd ?_ hlk;have hlk2:=q.lk.lk;have hc:w.length<=10:=((hp.ib i0).rR i0 (lJ hlk2)).wl;rw[hl,Ap hc,e1,e2];exact hlk2
theorem jn{key:ByteArray}{K:Rs->Tr}(hX:Fm X)(hT:bY σ t)(i0:Inv X.H σ)(hK:∀τ r,Le σ τ->Inv X.H τ->r.root=0->XT X (K r) n τ):∀(q:Nat) (σ':Kw) (i:Int) (w:List Nat) (g level:Int),Le σ σ'->Inv X.H σ'->qU σ' i w g->XT X (lE t h key K q i level) (n+10*(12-w.length)) σ'
 | 0,_,_,_,_,_,_,_,_=>trivial
 | q+1,σ',i,w,g,level,l,i1,hi=>by
  have hw:=(hi.E6 i1).2.2;have e:n+10*(12-w.length)=(n+10*(11-w.length))+10:=by omega
  rw[e];refine pR hX.toaw (hT.up l) i1 hi λ τ m l1 i2 hm _ _=>cS hm.in.2 ?_;have l01:=l.trans i0 i1 l1;try dsimp only
  split;·(try dsimp only);split<;>exact(hK τ _ l01 i2 rfl).mono (by omega)
  try dsimp only
  split;·exact(hK τ _ l01 i2 rfl).mono (by omega)
  cases hlk:iU (τ.nd m) (eZ h level) with
  | none=>exact(hK τ _ l01 i2 rfl).mono (by omega)
  | some b=>
   obtain⟨k,hk,ek⟩:=Po h level;rw[ek] at hlk;have hc:=hm.rR i2 (lJ hlk);rw[hc.lk hk] at hlk;have hb:=hc.br k hk b hlk;refine cS hb.in.2 ?_;try dsimp only
   split;·(try dsimp only);split<;>exact(hK τ _ l01 i2 rfl).mono (by omega)
   ·rename_i h4;rcases hb with hb|hb;·exact absurd hb.1 h4
    ·have:=jn (key:=key) hX hT i0 hK q τ b (w++[k]) (τ.nd b).gen (level+1) l01 i2 ⟨⟨hb.1,hb.2.1⟩,rfl⟩;rw[List.length_append,List.length_singleton] at this;exact this.mono (by omega)
theorem aCy{x:Int}{h0 h:Nat}{pk:ByteArray}{pv:Int}{k:ByteArray}{u:Int}{q:Nat}{K:Int->Tr}(hX:Fm X)(hh0:h0<18446744073709551616)(hh:h<18446744073709551616)(hH:X.H k=h)(hk:k.size<=64)(hg1:1<=g)(hne:pk≠k)(hpk:pk.size<=64)(hpH:X.H pk=h0) :
  ∀(n lvl:Nat) (σ:Kw) (r:Int) (f:Nat),lvl+n=kX h0 h->Inv X.H σ->(σ.nd x).kind=4->(σ.nd x).hash.toNat=h0->g<=σ.mm.gen->f=σ.len+1 ->
  (∀υ,Le σ υ->Inv X.H υ->Kd σ υ->υ.len=σ.len+(dN x h0 h (pk,pv) k u g f n lvl).length->oQ υ ((f-1+(dN x h0 h (pk,pv) k u g f n lvl).length:Nat):Int) (uR h lvl) g->bC υ ((f-1+(dN x h0 h (pk,pv) k u g f n lvl).length:Nat):Int)->XT X (K ((f-1+(dN x h0 h (pk,pv) k u g f n lvl).length:Nat):Int)) q υ) ->
  XT X (Ba (dN x h0 h (pk,pv) k u g f n lvl) r K) q σ
 | 0,lvl,σ,r,f,hn,i0,hx4,hxh,hgg,hf,hK=>by
  have hx:=eU (N:=σ.mm.nodes) (i:=x) (by have:=hx4;simp only[Kw.nd] at this;rw[this];decide);have hcl:=Aa h0 h;unfold dN at hK ⊢;try dsimp only
  split
  ·rename_i e
   rw[if_pos e] at hK;subst e;have heq:h0=h:=jw hh0 hh λ j hj=>T5 (by omega);obtain⟨o1,o2,o3⟩:=vy (p:=(pk,pv)) (q:=(k,u)) hne
   have hnew:lF X.H σ (Wi ((h:Nat):Int) (zE [(pk,pv),(k,u)])) (uR h 11) g:=Gw i0 o1 (nD.2 o2) (yE.2 λ p hp=>by rcases o3 p hp with rfl|rfl;exact hpk;exact hk) (λ p hp=>by rcases o3 p hp with rfl|rfl;exact hpH.trans heq;exact hH) hh (fY h 11) (uB h 11);refine jM hX.al i0 hnew (sK i0 (λ e=>dU (a:=6) (b:=2) e)) λ υ r' l1 i1 a1=>?_;have er:=a1.re;have em:=a1.mm;have e1:=a1.nd;have e2:=a1.way;have e3:=a1.gb;have h1:=a1.r1;have h2:=a1.r2;have hr':r'=((f-1+[I2 h (zE [(pk,pv),(k,u)])].length:Nat):Int):=by rw[er,hf];simp
   have hlen:υ.len=σ.len+1:=by simp[Kw.len,em,Mm.push]
   show XT X (K r') q υ
   rw[hr'];refine hK υ l1 i1 a1.Sl hlen ?_ ?_<;>rw[<- hr']
   ·exact oJ (cl:=0) (.inr (.inr rfl)) e1 e2 e3
   ·exact a1.prev (.inr (.inr rfl))
  ·rename_i e
   rw[if_neg e] at hK;have hlv:lvl=kX h0 h:=by omega
   have hne2:sl h0 lvl≠sl h lvl:=by rw[hlv];exact Nz (by omega)
   refine jM (w:=[]) (g:=0) hX.al i0 (Be i0 hk hH hh) (sK i0 (λ e=>dU (a:=4) (b:=2) e)) λ υ s l1 i1 a1=>?_;have er:=a1.re;have em:=a1.mm;have e1:=a1.nd;have hs1:=a1.r1;have hs2:=a1.r2;have hlen:υ.len=σ.len+1:=by simp[Kw.len,em,Mm.push]
   have hsf:s=(f:Int):=by rw[er,hf]
   obtain⟨b1,b2⟩:=aB4 (xN h0 lvl) (xN h lvl) hne2 (x:=x) (s:=s) hx.1 hs1
   have hx4':(υ.nd x).kind=4:=by rw[l1.nd hx.2];exact hx4
   have hxh':(υ.nd x).hash.toNat=h0:=by rw[l1.nd hx.2];exact hxh
   have hnew:lF X.H υ (Ck (dY (dY 0 (sl h0 lvl:Int)) (sl h lvl:Int)) (two (sl h0 lvl) (sl h lvl) x s)) (uR h lvl) g:=by
    refine nY i1 b1 (λ j hj v hv=>?_) (by rw[fY];omega) (λ _=>⟨λ e=>?_,λ b hb=>?_⟩)
    ·rcases b2 j hj v hv with⟨rfl,rfl⟩|⟨rfl,rfl⟩
     ·refine .inl ⟨hx4',?_⟩;rw[hxh'];have:=rQ (Zl (a:=h0) (b:=h) (l:=lvl) (by omega));rwa [fY] at this
     ·refine .inl ⟨by rw[e1];rfl,?_⟩;rw[e1];have:=rQ (uB h lvl);rw[fY] at this;exact this
    ·unfold two at e;split at e<;>cases e
    ·unfold two at hb;split at hb<;>cases hb
   rw[hsf] at hnew
   show XT X (.alloc (Ck (dY (dY 0 (sl h0 lvl:Int)) (sl h lvl:Int)) (two (sl h0 lvl) (sl h lvl) x (f:Int))) 0 K) q υ
   refine jM hX.al i1 hnew (sK i1 (λ e=>dU (a:=3) (b:=2) e)) λ ρ r' l2 i2 a2=>?_;have er2:=a2.re;have em2:=a2.mm;have e4:=a2.nd;have e5:=a2.way;have e6:=a2.gb;have h1:=a2.r1;have h2:=a2.r2;have hlen2:ρ.len=υ.len+1:=by simp[Kw.len,em2,Mm.push]
   have hr':r'=((f-1+[xJ h k u,jg (dY (dY 0 (sl h0 lvl:Int)) (sl h lvl:Int)) (two (sl h0 lvl) (sl h lvl) x (f:Int))].length:Nat):Int):=by
    rw[er2];simp only[List.length_cons,List.length_nil];omega
   rw[hr'];refine hK ρ (l1.trans i0 i1 l2) i2 (a1.Sl.trans l1 a2.Sl) (by simp only[List.length_cons,List.length_nil];omega) ?_ ?_<;>rw[<- hr']
   ·exact oJ (cl:=0) (.inl rfl) e4 e5 e6
   ·exact a2.prev (.inl rfl)
 | n+1,lvl,σ,r,f,hn,i0,hx4,hxh,hgg,hf,hK=>by
  have hx:=eU (N:=σ.mm.nodes) (i:=x) (by have:=hx4;simp only[Kw.nd] at this;rw[this];decide);have hcl:=Aa h0 h;unfold dN at hK ⊢;rw[Q7];refine aCy hX hh0 hh hH hk hg1 hne hpk hpH n (lvl+1) σ r f (by omega) i0 hx4 hxh hgg hf λ υ l1 i1 f1 el hm hst=>?_;generalize hd:(dN x h0 h (pk,pv) k u g f n (lvl+1)).length=d at *;show XT X (.alloc (oA g) ((f-1+d:Nat):Int) λ _=>.alloc (Ck (dY 0 (sl h lvl:Int)) [((f+d:Nat):Int)]) 0 K) q υ
  refine jM (w:=uR h (lvl+1)) (g:=0) hX.al i1 (Dg (by rw[fY];omega) hg1 (by have:=l1.gen;omega)) ⟨⟨by omega,hm.in.2⟩,λ _=>hm,λ k=>absurd k (kB (.inr (.inr (.inl rfl)))),λ k=>dU (a:=2) (b:=8) k⟩ (λ ρ j l2 i2 a2=>?_) (λ _=>hst);have er:=a2.re;have em:=a2.mm;have e1:=a2.nd;have e2:=a2.way;have hj1:=a2.r1;have hj2:=a2.r2;have hlen:ρ.len=υ.len+1:=by simp[Kw.len,em,Mm.push]
  have hj:j=((f+d:Nat):Int):=by rw[er];omega
  obtain⟨b1,b2⟩:=gf (xN h lvl) (r:=j) hj1
  have hnew:lF X.H ρ (Ck (dY 0 (sl h lvl:Int)) [j]) (uR h lvl) g:=by
   refine nY i2 b1 (λ q hq v hv=>?_) (by rw[fY];omega) (λ _=>⟨by simp,λ b hb=>?_⟩)
   ·obtain⟨rfl,rfl⟩:=b2 q hq v hv
    exact .inr ⟨by rw[e1];rfl,by rw[e2,K1],by rw[e1];exact Int.le_refl _⟩
   ·cases hb;rw[e1];rfl
  rw[hj] at hnew;refine jM hX.al i2 hnew (sK i2 (λ e=>dU (a:=3) (b:=2) e)) λ χ r' l3 i3 a3=>?_;have er2:=a3.re;have em2:=a3.mm;have e4:=a3.nd;have e5:=a3.way;have e6:=a3.gb;have h1:=a3.r1;have h2:=a3.r2;have hlen2:χ.len=ρ.len+1:=by simp[Kw.len,em2,Mm.push]
  have hr':r'=((f-1+(d+2):Nat):Int):=by rw[er2];omega
  have hL:(dN x h0 h (pk,pv) k u g f n (lvl+1)++[sJ g ((f-1+d:Nat):Int),jg (dY 0 (sl h lvl:Int)) [((f+d:Nat):Int)]]).length=d+2:=by rw[List.length_append,hd];rfl
  rw[hL] at hK;rw[hr'];refine hK χ ((l1.trans i0 i1 l2).trans i0 i2 l3) i3 ((f1.trans l1 a2.Sl).trans (l1.trans i0 i1 l2) a3.Sl) (by omega) ?_ ?_<;>rw[<- hr']
  ·exact oJ (cl:=0) (.inl rfl) e4 e5 e6
  ·exact a3.prev (.inl rfl)
theorem aA5{b:Int}{level:Nat}{K:Int->Tr}(hX:Fm X)(i0:Inv X.H σ)(hb4:(σ.nd b).kind=4)(hu0:fT (σ.nd b).hash.toNat w)(hu:fT h w)(hl:level=w.length)(hw:w.length<=11)(hh:h<18446744073709551616)(hH:X.H c.key=h)(hk:c.key.size<=64)(hg1:1<=g)(hgg:g<=σ.mm.gen)(hne:(σ.nd b).key≠c.key)
  (hK:∀υ d,Le σ υ->Inv X.H υ->Kd σ υ->oQ υ d w g->bC υ d->XT X (K d) n υ):XT X (Wt c b h level g K) n σ:=by
 have hlf:=i0.leaf (.inl hb4);have hb:=eU (N:=σ.mm.nodes) (i:=b) (by have:=hb4;simp only[Kw.nd] at this;rw[this];decide)
 have hcom:level<=kX (σ.nd b).hash.toNat h:=by
  have hw11:=Aa (σ.nd b).hash.toNat h;by_cases hlt:level<=kX (σ.nd b).hash.toNat h;·exact hlt
  ·exact absurd ((hu0 _ (by omega)).trans (hu _ (by omega)).symm) (Nz (by omega))
 refine cS hb.2 ?_;generalize hn:kX (σ.nd b).hash.toNat h-level=nd;have hlv:kX (σ.nd b).hash.toNat h-nd=level:=by omega
 obtain⟨a,ha⟩:=Yu (x:=b) (h0:=(σ.nd b).hash.toNat) (h:=h) (p:=((σ.nd b).key,(σ.nd b).val)) (k:=c.key) (u:=c.val) (g:=g) nd level;have hP:∀f,dP b (σ.nd b).hash.toNat h ((σ.nd b).key,(σ.nd b).val) c.key c.val g f level=dN b (σ.nd b).hash.toNat h ((σ.nd b).key,(σ.nd b).val) c.key c.val g f nd level:=λ f=>by unfold dP;rw[hn,hlv]
 obtain⟨l0,hl0⟩:=ha 0;try dsimp only
 rw[hP 0,hl0];show XT X (.alloc a.c0 a.init λ f=>Ba (dP b (σ.nd b).hash.toNat h ((σ.nd b).key,(σ.nd b).val) c.key c.val g f.toNat level).tail f K) n σ
 obtain⟨l1,hl1⟩:=ha (σ.len+1);have key:XT X (Ba (dN b (σ.nd b).hash.toNat h ((σ.nd b).key,(σ.nd b).val) c.key c.val g (σ.len+1) nd level) 0 K) n σ:=by refine aCy hX hlf.hl hh hH hk hg1 hne hlf.sz hlf.ha nd level σ 0 (σ.len+1) (by omega) i0 hb4 rfl hgg rfl λ υ l2 i2 f2 _ hm hst=>hK υ _ l2 i2 f2 ?_ hst;rw[uz hu,<- hl];exact hm
 rw[hl1] at key;rcases key with h|⟨h1,h2,h3⟩;·exact .inl h
 ·refine .inr ⟨h1,λ h=>(by rw[hX.al] at h;cases h),λ h=>?_⟩;obtain⟨υ,l2,i2,e2,hw2⟩:=h3 h;refine⟨υ,l2,i2,e2,?_⟩;dsimp only;rw[hP,show(((σ.len+1:Nat):Int)).toNat=σ.len+1 from Int.toNat_natCast _,hl1];exact hw2
end
end
section
section
variable{X:Xp}{σ τ υ:Kw}{i m p g v:Int}{w:List Nat}{t:dW}{n:Nat}{c:Cl}{h:Nat}
abbrev KLx(X:Xp)(σ:Kw)(t:dW)(i m g:Int)(h level:Nat)(K:Rs->Int->Tr)(n:Nat):Prop:=∀τ r what,Le σ τ->Inv X.H τ->r.root=0->(what=0∨what=1∨(Fur σ m h level/\τ=σ))->(K5 X σ t g->σ.ce (σ.nd i).main=m->what≠0)->XT X (K r what) n τ
variable{level:Nat}
theorem Z2{K:Rs->Int->Tr}(hX:Fm X)(hT:bY σ c.t)(i0:Inv X.H σ)(hk:Pn X.H c h)(hi:qU σ i w g)(hm:oQ σ m w g)(hs:bC σ m)(hu:fT h w)(hl:level=w.length)(h5:(σ.nd m).kind≠5)(hK:KLx X σ c.t i m g h level K n):XT X (jU c i m h level g K) (n+10) σ:=by
 have hg:=hi.E6 i0;have gc:∀{nd:Nv} {R:Rs},R.root=0->cB nd->∀υ,Le σ υ->Inv X.H υ->Kd σ υ->lF X.H υ nd w g->XT X (.alloc nd m λ r=>lH c.t i m r λ ok=>K R (if ok=true then 1 else 0)) (n+10) υ:=λ{nd R} hR hmk υ l1 i1 f1 hn =>jM hX.al i1 hn (yN hmk (hm.up l1) (bC.up i0 hm.1 hs l1)) λ χ r l2 i2 a=>by have l:=l1.trans i0 i1 l2;exact Dt hX.toaw (hT.up l) i2 (hi.up l) (oJ (cl:=0) hmk a.nd a.way a.gb) λ ψ ok l3 i3 hg=>hK ψ _ _ (l.trans i0 i2 l3) i3 hR (q0 ok) λ so hma=>by rw[(hg (F2 i0 i1 hT hi hm l1 l2 f1 a hmk so hma)).t];decide
 have gr:∀{R:Rs} {k:Nat} {o r:Int},R.root=0->∀υ,Le σ υ->Inv X.H υ->Kd σ υ->k<64->iU (υ.nd m) (k:Int)=some o->Nm υ (w++[k]) g r->(0<w.length->(υ.nd m).xs.length=1->(υ.nd r).kind=2)->(υ.nd m).kind=3->XT X (Ik m (k:Int) r λ n=>lH c.t i m n λ ok=>K R (if ok=true then 1 else 0)) (n+10) υ:=λ{R k o r} hR υ l1 i1 f1 hk64 ho hr h0 h3=>by
  have hm1:=hm.up l1;refine oz hX i1 hm1 (bC.up i0 hm.1 hs l1) (hm1.rR i1 h3) hk64 ho hr h0 λ χ n l2 i2 hn a hmk _=>?_;have l:=l1.trans i0 i1 l2
  exact Dt hX.toaw (hT.up l) i2 (hi.up l) hn λ ψ ok l3 i3 hg=>hK ψ _ _ (l.trans i0 i2 l3) i3 hR (q0 ok) λ so hma=>by rw[(hg (F2 i0 i1 hT hi hm l1 l2 f1 a hmk so hma)).t];decide
 refine cS hm.in.2 ?_;try dsimp only
 split
 ·rename_i h6;have hln:=hm.Xb i0 h6;try dsimp only
  split;·have hh:=py hk.hl hln.hl hu hln.un hln.wl;have:=aBN (w:=w) (g:=g) i0 hln (k:=c.key) (u:=c.val) hk.sz (hk.ha.trans hh);exact gc rfl this.1 σ (Le.refl σ) i0 (.refl σ) this.2
  ·exact(hK σ _ _ (Le.refl σ) i0 rfl (.inr (.inl rfl)) λ _ _=>by decide).mono (by omega)
 ·rename_i h6;have h3:(σ.nd m).kind=3:=by
   rcases hm.1 with h|h|h;·exact h
   ·exact absurd h h5
   ·exact absurd h h6
  have hc:=hm.rR i0 h3;have hlev:eZ h (level:Int)=((sl h w.length:Nat):Int):=by rw[hl];exact Ap hc.wl
  have hk64:=xN h w.length;have hu1:=rQ hu;have hsing:∀υ s cl,υ.nd s=dI (zY h c.key c.val) cl->Nm υ (w++[sl h w.length]) g s:=λ υ s cl e=>.inl ⟨by rw[e];rfl,by rw[e];exact hu1⟩;unfold KLx Fur at hK;rw[hlev] at hK ⊢;cases hlk:iU (σ.nd m) ((sl h w.length:Nat):Int) with
  | none=>
   simp only[];try dsimp only
   split
   ·refine jM (w:=[]) (g:=0) hX.al i0 (Be i0 hk.sz hk.ha hk.hl) (sK i0 (λ e=>dU (a:=4) (b:=2) e)) λ υ s l1 i1 a=>?_;have hc1:=hc.upL l1;have hlk1:iU (υ.nd m) ((sl h w.length:Nat):Int)=none:=by rw[l1.nd hm.in.2];exact hlk
    obtain⟨f1,f2,f3,f4⟩:=hc1.ins hk64 hlk1 a.r1;try dsimp only
    rw[<- l1.nd hm.in.2,f1];refine gc rfl (.inl rfl) υ l1 i1 a.Sl (nY i1 f2 (λ j hj v hv=>?_) hc.wl (λ h0=>⟨λ e=>?_,λ b hb=>?_⟩))
    ·rw[f3 j hj] at hv;unfold Lk at hv;split at hv;·rename_i ej;cases hv;rw[ej];exact hsing υ s _ a.nd
     ·exact hc1.br j hj v hv
    ·rw[e] at f4;simp at f4
    ·rw[hb] at f4;have:=(hc1.ne h0).1;cases hx:(σ.nd m).xs with
     | nil=>exact absurd hx this
     | cons _ _=>rw[hx] at f4;simp at f4
   ·exact(hK σ _ _ (Le.refl σ) i0 rfl (.inr (.inl rfl)) λ _ _=>by decide).mono (by omega)
  | some b=>
   simp only[];have hb:=hc.br _ hk64 b E0s;refine cS hb.in.2 ?_;try dsimp only
   split;·rename_i h2;exact(hK σ _ _ (Le.refl σ) i0 rfl (.inr (.inr ⟨⟨b,hlk,h2⟩,rfl⟩)) λ _ _=>by decide).mono (by omega)
   ·rename_i h2;have hb4:(σ.nd b).kind=4/\fT (σ.nd b).hash.toNat (w++[sl h w.length]):=by
     rcases hb with h|h;·exact h
     ·exact absurd h.1 h2
    have hno:0<w.length->(σ.nd m).xs.length=1->False:=λ h0 h1=>by
     have hlt:(σ.nd m).xs=[b]:=by
      have hmem:=Wm hc.bv hk64 (x:=b) E0s;cases hx:(σ.nd m).xs with
      | nil=>rw[hx] at h1;simp at h1
      | cons a t=>
       rw[hx] at h1 hmem;cases t with
       | nil=>rw[List.mem_singleton.1 hmem]
       | cons _ _=>simp at h1
     exact h2 ((hc.ne h0).2 b hlt)
    try dsimp only
    split
    ·try dsimp only
     split;·refine jM (w:=[]) (g:=0) hX.al i0 (Be i0 hk.sz hk.ha hk.hl) (sK i0 (λ e=>dU (a:=4) (b:=2) e)) λ υ s l1 i1 a=>?_;exact gr rfl υ l1 i1 a.Sl hk64 (o:=b) (by rw[l1.nd hm.in.2];exact hlk) (hsing υ s _ a.nd) (λ h0 h1=>(hno h0 (by rw[<- l1.nd hm.in.2];exact h1)).elim) (by rw[l1.nd hm.in.2];exact h3)
     ·exact(hK σ _ _ (Le.refl σ) i0 rfl (.inr (.inl rfl)) λ _ _=>by decide).mono (by omega)
    ·rename_i hne;try dsimp only
     split;·refine aA5 (w:=w++[sl h w.length]) hX i0 hb4.1 hb4.2 hu1 (by rw[List.length_append,hl];rfl) E0r hk.hl hk.ha hk.sz hg.1 hg.2.1 hne λ υ d l1 i1 fd hd hds=>?_;refine Bl hX i1 hg.1 (by have:=l1.gen;have:=hg.2.1;omega) E0r hd hds (Int.le_refl _) λ ρ j l2 i2 hj aj=>?_;have l12:=l1.trans i0 i1 l2;exact gr rfl ρ l12 i2 (fd.trans l1 aj.Sl) hk64 (o:=b) (by rw[l12.nd hm.in.2];exact hlk) (.inr ⟨hj.1.1,hj.1.2,by rw[hj.2];exact Int.le_refl _⟩) (λ _ _=>hj.1.1) (by rw[l12.nd hm.in.2];exact h3)
     ·exact(hK σ _ _ (Le.refl σ) i0 rfl (.inr (.inl rfl)) λ _ _=>by decide).mono (by omega)
theorem V0{K:Rs->Int->Tr}(hX:Fm X)(hT:bY σ c.t)(i0:Inv X.H σ)(hi:qU σ i w g)(hm:oQ σ m w g)(hs:bC σ m)(hu:fT h w)(hl:level=w.length)(h5:(σ.nd m).kind≠5)(hK:KLx X σ c.t i m g h level K n):XT X (lA c i m h level K) (n+10) σ:=by
 have gc:∀{nd:Nv} {R:Rs},R.root=0->cB nd->lF X.H σ nd w g->XT X (.alloc nd m λ r=>lH c.t i m r λ ok=>K R (if ok=true then 1 else 0)) (n+10) σ:=λ{nd R} hR hmk hn =>jM hX.al i0 hn (yN hmk hm hs) λ χ r l2 i2 a =>Dt hX.toaw (hT.up l2) i2 (hi.up l2) (oJ (cl:=0) hmk a.nd a.way a.gb) λ ψ ok l3 i3 hg=>hK ψ _ _ (l2.trans i0 i2 l3) i3 hR (q0 ok) λ so hma=>by rw[(hg (F2 i0 i0 hT hi hm (Le.refl σ) l2 (.refl σ) a hmk so hma)).t];decide
 refine cS hm.in.2 ?_;try dsimp only
 split
 ·rename_i h6;have hln:=hm.Xb i0 h6;try dsimp only
  split;·exact(hK σ _ _ (Le.refl σ) i0 rfl (.inr (.inl rfl)) λ _ _=>by decide).mono (by omega)
  ·rename_i hn;have hf:(cL (σ.nd m).ys c.key).isSome=true:=by
    cases hx:(cL (σ.nd m).ys c.key).isSome with
    | true=>rfl
    | false=>exact absurd (.inl hx) hn
   have:=aAW (w:=w) (g:=g) i0 hln (k:=c.key) hf;exact gc rfl this.1 this.2
 ·rename_i h6;have h3:(σ.nd m).kind=3:=by
   rcases hm.1 with h|h|h;·exact h
   ·exact absurd h h5
   ·exact absurd h h6
  have hc:=hm.rR i0 h3;have hlev:eZ h (level:Int)=((sl h w.length:Nat):Int):=by rw[hl];exact Ap hc.wl
  have hk64:=xN h w.length;unfold KLx Fur at hK;rw[hlev] at hK ⊢;cases hlk:iU (σ.nd m) ((sl h w.length:Nat):Int) with
  | none=>simp only[];exact(hK σ _ _ (Le.refl σ) i0 rfl (.inr (.inl rfl)) λ _ _=>by decide).mono (by omega)
  | some b=>
   simp only[];have hb:=hc.br _ hk64 b E0s;refine cS hb.in.2 ?_;try dsimp only
   split;·rename_i h2;exact(hK σ _ _ (Le.refl σ) i0 rfl (.inr (.inr ⟨⟨b,hlk,h2⟩,rfl⟩)) λ _ _=>by decide).mono (by omega)
   rename_i h2;try dsimp only
   split;·exact(hK σ _ _ (Le.refl σ) i0 rfl (.inr (.inl rfl)) λ _ _=>by decide).mono (by omega)
   try dsimp only
   split;·exact(hK σ _ _ (Le.refl σ) i0 rfl (.inr (.inl rfl)) λ _ _=>by decide).mono (by omega)
   obtain⟨f1,f2,f3,f4⟩:=hc.re hk64 hlk;have hso:(Na (Pg (σ.nd m) ((sl h w.length:Nat):Int))).getD 0<=σ.len:=by
    rw[f1,M9 f2];try dsimp only
    split
    ·rename_i e1;have hmem:(tE (σ.nd m).xs (fQ (σ.nd m).bm.toNat (sl h w.length))).getD 0 0∈tE (σ.nd m).xs (fQ (σ.nd m).bm.toNat (sl h w.length)):=Dw (by omega);obtain⟨j,hj,hv⟩:=Mr f2 hmem;rw[f3 j hj] at hv;unfold Lk at hv;split at hv;·cases hv
     ·exact(hc.br j hj _ hv).in.2
    ·exact bN _
   refine cS hso ?_;try dsimp only
   rw[f1] at hso ⊢;rw[pq f2];try dsimp only
   split
   ·rename_i hx;have e1:=hx.1;rw[M9 f2,if_pos e1] at hx ⊢;simp only[Option.getD_some] at hx ⊢;generalize hs0:(tE (σ.nd m).xs (fQ (σ.nd m).bm.toNat (sl h w.length))).getD 0 0=s at hx ⊢;have hmem:s∈tE (σ.nd m).xs (fQ (σ.nd m).bm.toNat (sl h w.length)):=by rw[<- hs0];exact Dw (by omega)
    obtain⟨j,hj,hv⟩:=Mr f2 hmem;have hbr:Nm σ (w++[j]) g s:=by
     rw[f3 j hj] at hv;unfold Lk at hv;split at hv;·cases hv
     ·exact hc.br j hj _ hv
    have hlf:=i0.leaf (.inl hx.2.2);have hus:fT (σ.nd s).hash.toNat (w++[j]):=by
     rcases hbr with h'|h';·exact h'.2
     ·have:=h'.1;have:=hx.2.2;omega
    have e5:tmV (σ.nd s)=jz (((σ.nd s).hash.toNat:Nat):Int) (σ.nd s).key (σ.nd s).val:=by rw[<- hlf.hn];rfl
    rw[e5];exact gc rfl (.inr (.inl rfl)) (I6 i0 hlf.sz hlf.ha hlf.hl (by omega) (by have:=hc.wl;omega) (tL hus))
   ·rename_i hx;refine gc rfl (.inl rfl) (nY i0 f2 (λ j hj v hv=>?_) hc.wl (λ h0=>⟨λ e=>?_,λ b' hb'=>?_⟩))
    ·rw[f3 j hj] at hv;unfold Lk at hv;split at hv;·cases hv
     ·exact hc.br j hj v hv
    ·rw[e] at f4;have h1:(σ.nd m).xs.length=1:=by simpa using f4.symm
     have hlt:(σ.nd m).xs=[b]:=by
      have hmem:=Wm hc.bv hk64 (x:=b) E0s;cases hxs:(σ.nd m).xs with
      | nil=>rw[hxs] at h1;simp at h1
      | cons a t=>
       rw[hxs] at h1 hmem;cases t with
       | nil=>rw[List.mem_singleton.1 hmem]
       | cons _ _=>simp at h1
     exact h2 ((hc.ne h0).2 b hlt)
    ·have e1:(tE (σ.nd m).xs (fQ (σ.nd m).bm.toNat (sl h w.length))).length=1:=by rw[hb'];rfl
     rw[M9 f2,if_pos e1] at hx;rw[hb'] at hx f2 f3;have hbr:∃j,Nm σ (w++[j]) g b':=by
      obtain⟨j,hj,hv⟩:=Mr f2 (List.mem_singleton.2 rfl:b'∈[b']);rw[f3 j hj] at hv;unfold Lk at hv;split at hv;·cases hv
      ·exact⟨j,hc.br j hj _ hv⟩
     obtain⟨j,hbr⟩:=hbr;rcases hbr with h'|h';·exact absurd ⟨rfl,by omega,h'.1⟩ hx
     ·exact h'.1
theorem Xn{K:Int->Tr}(hX:Fm X)(hT:bY σ c.t)(i0:Inv X.H σ)(hi:qU σ i w g)(hm:oQ σ m w g)(hs:bC σ m)(hl:level=w.length)(hf:Fur σ m h level)(hK:∀τ b,Le σ τ->Inv X.H τ->(b=0∨qU τ b (w++[sl h level]) g)->(K5 X σ c.t g->σ.ce (σ.nd i).main=m->b≠0/\yx τ i (sl h level) b/\FL c.t w.length σ τ/\∀b',iU (σ.nd m) ((sl h level:Nat):Int)=some b'->(σ.nd b').gen=g->τ=σ)->XT X (K b) n τ):XT X (Cy c i m (eZ h level) g K) (n+20) σ:=by
 obtain⟨b,hlk,h2⟩:=hf;have hc:=hm.rR i0 (lJ hlk);have hk64:=xN h w.length;subst hl;rw[Ap hc.wl] at hlk ⊢;have hb:=hc.br _ hk64 b E0s;refine cS hm.in.2 ?_;try dsimp only
 rw[show(iU (σ.nd m) ((sl h w.length:Nat):Int)).getD 0=b by rw[hlk];rfl];refine cS hb.in.2 ?_;try dsimp only
 split
 ·rename_i e;rcases hb with h'|h';·rw[h2] at h';exact absurd h'.1 (by decide)
  ·exact(hK σ b (Le.refl σ) i0 (.inr ⟨⟨h'.1,h'.2.1⟩,e⟩) λ so hma=>⟨by have:=eU (N:=σ.mm.nodes) (i:=b) (by simp only[Kw.nd] at h2;rw[h2];decide);omega,⟨by rw[hma];exact hs,by rw[hma];exact hlk⟩,.refl _ _ _,λ _ _ _=>rfl⟩).mono (by omega)
 ·rename_i hgb;refine we hX hT i0 hi hm hs hc hk64 hlk h2 λ τ v l1 i1 hv hf=>hK τ v l1 i1 hv λ so hma=>?_;obtain⟨h1,h3,h4⟩:=hf so hma;exact⟨h1,h3,h4,λ b' hb' hg'=>absurd (by rw[hlk] at hb';cases hb';exact hg') hgb⟩
end
end
end Go.Proofs.YtbajmaoegmbfgaaGreat
