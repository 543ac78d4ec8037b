/- Procedures among others or alone: COMMIT, ROOT, SETTLE, READ. -/
import Derived.Test.YtadnboagdhcedaaGreatDoorGSh14

set_option linter.unusedSimpArgs false
set_option linter.unusedVariables false
namespace Go.Proofs.YtadnboagdhcedaaGreatDoor
section
open Go Go.RowKit Go.Ct
section
variable{X:Xp}{σ τ υ:Kw}{i m p g v:Int}{w:List Nat}{t:eQ}{n:Nat}
structure y4(X:Xp)(σ τ:Kw)(i m v:Int)(cm:Prop):Prop where
 ok:τ.ce (σ.nd i).main≠m∨aV τ m
 s:X.b=false->τ.ce (σ.nd i).main=v/\Eo σ τ i
 c:X.b=false->cm->v=m
abbrev KC(X:Xp)(σ:Kw)(i m:Int)(w:List Nat)(g:Int)(cm:Prop)(K:Int->Tr)(n:Nat):Prop:=∀τ v,Le σ τ->Inv X.H τ->lP τ v w g->aV τ v->y4 X σ τ i m v cm->XT X (K v) n τ
theorem KC.up{cm:Prop}{K:Int->Tr}(i0:Inv X.H σ)(i1:Inv X.H τ)(hi:mU σ i w g)(h:KC X σ i m w g cm K n)(l:Le σ τ)(f:X.b=false->Eo σ τ i):KC X τ i m w g cm K n:=λ υ v l2 i2 hm hs hv=>h υ v (l.trans i0 i1 l2) i2 hm hs ⟨by rw[<- l.nd hi.in.2];exact hv.ok,λ hb=>⟨by rw[<- l.nd hi.in.2];exact(hv.s hb).1,(f hb).trans l (hv.s hb).2⟩,hv.c⟩
theorem Gg.mb(h:Gg X σ τ):X.b=false->Eo σ τ i:=λ hb=>by rw[h.solo hb];exact .refl σ i
theorem Rn(i0:Inv X.H σ)(hm:bU (σ.nd m))(hi:(σ.nd i).kind=2):(σ.nd m).prev≠(σ.nd i).main:=λ e=>by
 have h1:=(i0.iK hm).2.2
 rw[e,(i0.dI hi).2.2] at h1
 cases h1
theorem kf{cm:Prop}{K:Int->Tr}(hX:Sk X)(i0:Inv X.H σ)(hi:mU σ i w g)(hm:lP σ m w g)(hc0:X.b=false->σ.ce (σ.nd i).main=m)(hd:¬aV σ m)(h7:(σ.nd p).kind=7)(hp:nU σ m (σ.nd p).bL)(hcm:X.b=false->¬cm)(hK:KC X σ i m w g cm K n):XT X (Yo i m p K) (n+1) σ:=by
 have hr:1<=p/\p<=σ.len:=cY (N:=σ.mm.nodes) (i:=p) (by rw[h7];decide)
 have hc:=i0.dI hi.1.1
 have hold:lP σ (σ.nd p).bL w g:=by have:=hp.1;rw[hm.2.1] at this;exact this.le hm.2.2
 have hno:(σ.nd p).bL≠m:=λ e=>hd (by rw[<- e];exact hp.2)
 refine cG hi.in.2 (cG hr.2 (Am hc.1 hc.2.1 i0 (λ τ l1 i1 _=>Ld i0 hi hold l1 i1) (λ υ l _ _=>hX.r1 _ _ _ _ i (by rw[l.ct _ hc.2.1];exact hc.2.2) (aV.up i0 hold.1 hp.2 l)) λ τ bb l1 i1 hf=>cG (by have:=l1.len;have:=hr.2;omega) ?_))
 rw[l1.nd hr.2]
 refine hK τ _ l1 i1 (hold.up l1) (aV.up i0 hold.1 hp.2 l1) ⟨.inl ?_,λ hb=>?_,λ hb h=>absurd h (hcm hb)⟩
 ·cases bb with
  | true=>rw[hf.t rfl];exact hno
  | false=>exact hf.f rfl
 ·rcases hf.s hb with⟨_,_,h⟩|⟨h1,h2⟩
  ·exact⟨h.at',Bm h (.inl hc.2.2)⟩
  ·subst h2
   exact absurd (hc0 hb) (hf.f h1)
theorem F3{cm:Prop}{K:Int->Tr}(hX:Sk X)(i0:Inv X.H σ)(hi:mU σ i w g)(hm:lP σ m w g)(hc0:X.b=false->σ.ce (σ.nd i).main=m)(hp:Lu σ m p)(hd:σ.ce (σ.nd m).prev≠p)(hcm:X.b=false->cm->σ.ce (σ.nd m).prev=0)(hK:KC X σ i m w g cm K n):XT X (tQ i m K) (n+2) σ:=by
 have hc:=hp.cell i0
 have hr:=hm.in
 refine cG hr.2 (mH λ τ hg=>?_)
 have l1:=hg.le
 have i1:=hg.inv
 have hp1:=hp.up i0 i1 l1
 have e1:(τ.nd m).prev=(σ.nd m).prev:=by rw[l1.nd hr.2]
 have hce:=hp1.ce
 rw[e1] at hce
 have hne:τ.ce (σ.nd m).prev≠p:=by
  have hx:=l1.nxt hc.1 hc.2.1 hc.2.2
  have hk:¬bU (σ.nd (σ.ce (σ.nd m).prev)):=by
   rcases hp.ce with e|e|e
   ·exact absurd e hd
   ·rw[e];exact iA (.inl (uO _))
   ·exact iA (.inr (.inl e.1))
  rw[hx.1 hk]
  exact hd
 have hc1:X.b=false->τ.ce (τ.nd i).main=m:=λ hb=>by rw[hg.solo hb];exact hc0 hb
 try dsimp only
 split
 ·rename_i e0
  have hs:aV τ m:=by unfold aV;rw[e1];exact e0
  exact(hK τ m l1 i1 (hm.up l1) hs ⟨.inr hs,λ hb=>⟨by rw[<- l1.nd hi.in.2];exact hc1 hb,hg.mb hb⟩,λ _ _=>rfl⟩).mono (by omega)
 ·rename_i e0
  rcases hce with e|e|⟨e,e2⟩
  ·exact absurd e hne
  ·exact absurd e e0
  ·exact kf hX i1 (hi.up l1) (hm.up l1) hc1 (by unfold aV;rw[e1];exact e0) e (by rw[e2];exact hp1.pm) (λ hb h=>e0 (by rw[hg.solo hb];exact hcm hb h)) (hK.up i0 i1 hi l1 hg.mb)
theorem Za{cm:Prop}{K:Int->Tr}{c:Bool}(hX:Sk X)(i0:Inv X.H σ)(hi:mU σ i w g)(hm:lP σ m w g)(hc0:X.b=false->σ.ce (σ.nd i).main=m)(hp:Lu σ m p)(hpc:X.b=false->σ.ce (σ.nd m).prev=p)(hcm:X.b=false->cm->c=true)(hK:KC X σ i m w g cm K n):XT X (Bo i m p c K) (n+3) σ:=by
 have hr:=hm.in
 have hc:=hp.cell i0
 have hmc:=i0.dI hi.1.1
 have hne:=Rn i0 hm.1 hi.1.1
 unfold Bo
 try dsimp only
 split
 ·refine cG hr.2 (Am hc.1 hc.2.1 i0 (λ τ l1 i1 _=>?_) (λ υ l _ _=>hX.r0 _ _ _ _ (λ i' h=>?_) (λ h=>?_)) λ τ b l1 i1 hf=>?_)
  ·have e:τ.ct (σ.nd m).prev=.prev m:=by rw[l1.ct _ hc.2.1];exact hc.2.2
   refine⟨Int.le_refl _,bE _,λ i' h=>?_,λ m' h=>⟨(hp.up i0 i1 l1).pk,.inl rfl⟩,λ d h=>.inl rfl,λ h=>?_,λ h=>?_⟩<;>rw[e] at h<;>cases h
  ·rw[l.ct _ hc.2.1,hc.2.2] at h;cases h
  ·rw[l.ct _ hc.2.1,hc.2.2] at h;cases h
  ·have f1:X.b=false->Eo σ τ i:=λ hb=>by
    rcases hf.s hb with⟨_,_,h⟩|⟨_,h⟩
    ·exact Bm h (.inr ⟨m,hc.2.2⟩)
    ·rw[h];exact .refl σ i
   have c1:X.b=false->τ.ce (τ.nd i).main=m:=λ hb=>by
    rw[l1.nd hi.in.2]
    rcases hf.s hb with⟨_,_,h⟩|⟨_,h⟩
    ·rw[h.other _ (Ne.symm hne)];exact hc0 hb
    ·rw[h];exact hc0 hb
   refine F3 hX i1 (hi.up l1) (hm.up l1) c1 (hp.up i0 i1 l1) ?_ (λ hb _=>?_) (hK.up i0 i1 hi l1 f1)
   rotate_left
   ·rw[l1.nd hr.2]
    rcases hf.s hb with⟨_,_,h⟩|⟨h1,h⟩
    ·exact h.at'
    ·subst h;exact absurd (hpc hb) (hf.f h1)
   rw[l1.nd hr.2]
   cases b with
   | true=>rw[hf.t rfl];have:=(gC hp.pk).1;omega
   | false=>exact hf.f rfl
 ·refine cG hr.2 (fg (w:=[]) (g:=0) i0 (Wq i0 hp.pk) ⟨⟨Int.le_refl _,bE _⟩,λ k=>cX (a:=7) (b:=2) k,λ k=>absurd k (iA (.inr (.inl rfl))),λ _=>rfl⟩ (λ k=>cX (a:=7) (b:=2) k) (λ υ f l1 i1 af=>?_))
  have hp1:=hp.up i0 i1 l1
  have hc1:=hp1.cell i1
  have e0:(υ.nd m).prev=(σ.nd m).prev:=by rw[l1.nd hr.2]
  rw[e0] at hc1
  have h7:(υ.nd f).kind=7/\(υ.nd f).bL=p:=by rw[af.nd];exact⟨rfl,rfl⟩
  have hf1:=af.r1
  have hf2:=af.r2
  refine Am hc1.1 hc1.2.1 i1 (λ τ l2 i2 _=>?_) (λ ρ l _ _=>hX.r0 _ _ _ _ (λ i' h=>?_) (λ h=>?_)) (λ τ b l2 i2 hf=>?_)
  ·have e:τ.ct (σ.nd m).prev=.prev m:=by rw[l2.ct _ hc1.2.1];exact hc1.2.2
   refine⟨by omega,by have:=l2.len;omega,λ i' h=>?_,λ m' h=>⟨(hp1.up i1 i2 l2).pk,.inr ?_⟩,λ d h=>?_,λ h=>?_,λ h=>?_⟩
   ·rw[e] at h;cases h
   ·rw[l2.nd hf2];exact h7
   ·rw[e] at h;cases h
   ·rw[e] at h;cases h
   ·rw[e] at h;cases h
  ·rw[l.ct _ hc1.2.1,hc1.2.2] at h;cases h
  ·rw[l.ct _ hc1.2.1,hc1.2.2] at h;cases h
  ·have hp2:=hp1.up i1 i2 l2
   have l12:=l1.trans i0 i1 l2
   have f1:X.b=false->Eo υ τ i:=λ hb=>by
    rcases hf.s hb with⟨_,_,h⟩|⟨_,h⟩
    ·exact Bm h (.inr ⟨m,hc1.2.2⟩)
    ·rw[h];exact .refl υ i
   have c1:X.b=false->τ.ce (τ.nd i).main=m:=λ hb=>by
    rw[l12.nd hi.in.2]
    rcases hf.s hb with⟨_,_,h⟩|⟨_,h⟩
    ·rw[h.other _ (Ne.symm hne),af.ce hmc.2.1];exact hc0 hb
    ·rw[h,af.ce hmc.2.1];exact hc0 hb
   refine F3 hX i2 ((hi.up l1).up l2) ((hm.up l1).up l2) c1 hp2 ?_ (λ hb h=>absurd (hcm hb h) (by assumption)) ((hK.up i0 i1 hi l1 λ _=>af.mb l1).up i1 i2 (hi.up l1) l2 f1)
   rw[l2.nd (by have:=l1.len;omega),e0]
   cases b with
   | true =>
    rw[hf.t rfl]
    intro e
    have:=hp1.pk
    rw[<- e] at this
    exact absurd this (iA (.inr (.inl h7.1)))
   | false=>exact hf.f rfl
def lu(σ τ:Kw)(t:eQ):Prop:=∀v,σ.ce t.root=v->(σ.nd v).kind=8->σ.ce (σ.nd v).status=0->(τ.ce t.root=v/\τ.ce (σ.nd v).status=0)∨(τ.ce t.root=(σ.nd v).bL/\τ.ce (σ.nd v).status=2)
theorem lu.refl(σ:Kw)(t:eQ):lu σ σ t:=λ _ h1 _ h2=>.inl ⟨h1,h2⟩
theorem tE(hT:bR σ t)(f:Eo σ τ i):τ.ce t.root=σ.ce t.root:=by
 have h:=hT.2.2
 refine f _ hT.1 hT.2.1 ?_ λ m=>?_<;>rw[h]<;>unfold w9<;>split<;>(intro h;cases h)
theorem Jp{H:ByteArray->Nat}(i0:Inv H σ)(h:(σ.nd v).kind=8)(f:Eo σ τ i):τ.ce (σ.nd v).status=σ.ce (σ.nd v).status:=by
 have hd:=i0.desc h
 exact f _ hd.2.2.2.1 hd.2.2.2.2.1 (by rw[hd.2.2.2.2.2];intro h;cases h) (λ m=>by rw[hd.2.2.2.2.2];intro h;cases h)
theorem b9{H:ByteArray->Nat}(hT:bR σ t)(i0:Inv H σ)(f:Eo σ τ i):lu σ τ t:=λ _ h1 h2 h3=>.inl ⟨(tE hT f).trans h1,(Jp i0 h2 f).trans h3⟩
theorem lu.mb{H:ByteArray->Nat}(hT:bR σ t)(i0:Inv H σ)(i1:Inv H τ)(l:Le σ τ)(h:lu σ τ t)(f:Eo τ υ i):lu σ υ t:=λ v h1 h2 h3=>by
 have hd:=i0.desc h2
 have e:τ.nd v=σ.nd v:=l.nd hd.1
 have es:=Jp (v:=v) i1 (by rw[e];exact h2) f
 rw[e] at es
 rw[tE (hT.up l) f,es]
 exact h v h1 h2 h3
def jt(σ τ:Kw):Prop:=∀c:Int,1<=c->c<=σ.cl->σ.ct c≠.root->(∀d,σ.ct c≠.stat d)->τ.ce c=σ.ce c
theorem jt.refl(σ:Kw):jt σ σ:=λ _ _ _ _ _=>rfl
theorem ft{H:ByteArray->Nat}{c v:Int}(h:Zb H σ υ c v)(hc:σ.ct c=.root∨∃d,σ.ct c=.stat d):jt σ υ:=λ x _ _ a b=>h.other x λ e=>by
 subst e
 rcases hc with hc|⟨m,hc⟩
 ·exact a hc
 ·exact b m hc
theorem jt.trans(l:Le σ τ)(h:jt σ τ)(h2:jt τ υ):jt σ υ:=λ c h1 hc a b=>by
 have e:=l.ct c hc
 rw[h2 c h1 (by have:=l.cl;omega) (by rw[e];exact a) (λ m=>by rw[e];exact b m)]
 exact h c h1 hc a b
theorem Fz{s:Int}{K:Int->Tr}(hX:Sk X)(hT:bR σ t)(hro:t.ro=false)(i0:Inv X.H σ)(h:(σ.nd v).kind=8)
  (hc:X.b=false->σ.ce t.root=v∨σ.ce t.root=if s=1 then(σ.nd v).new else(σ.nd v).bL)
  (hK:∀τ,Le σ τ->Inv X.H τ->rI τ (if s=1 then(σ.nd v).new else(σ.nd v).bL) []->τ.ce t.root≠v->(X.b=false->τ.ce t.root=(if s=1 then(σ.nd v).new else(σ.nd v).bL)/\∀x,x≠t.root->τ.ce x=σ.ce x)->XT X (K (if s=1 then(σ.nd v).new else(σ.nd v).bL)) n τ):XT X (E1 t v s K) (n+1) σ:=by
 have hd:=i0.desc h
 refine cG hd.1 ?_
 show XT X (.nW t.root v (if s=1 then(σ.nd v).new else(σ.nd v).bL) λ _=>K (if s=1 then(σ.nd v).new else(σ.nd v).bL)) (n+1) σ
 have hw:rI σ (if s=1 then(σ.nd v).new else(σ.nd v).bL) []:=by split;exact hd.2.2.1;exact hd.2.1
 generalize (if s=1 then(σ.nd v).new else(σ.nd v).bL)=w at hw hc hK ⊢
 have hwv:w≠v:=λ e=>by rw[<- e,hw.1] at h;exact absurd h (by decide)
 refine Am hT.1 hT.2.1 i0 (λ τ l1 i1 _=>?_) (λ υ l _ _=>hX.r3 _ _ _ _ ((hT.up l).rw hro) (hw.up l).1) (λ τ b l1 i1 hf=>hK τ l1 i1 (hw.up l1) ?_ λ hb=>?_)
 ·have e:=(hT.up l1).rw hro
  have hw1:=hw.up l1
  refine⟨by have:=hw1.in;omega,hw1.in.2,λ i' h=>?_,λ m' h=>?_,λ d h=>?_,λ h=>.inl hw1,λ h=>?_⟩<;>rw[e] at h<;>cases h
 ·cases b with
  | true=>rw[hf.t rfl];exact hwv
  | false=>exact hf.f rfl
 ·rcases hf.s hb with⟨_,_,h⟩|⟨h1,h2⟩
  ·exact⟨h.at',h.other⟩
  ·subst h2
   exact⟨(hc hb).resolve_left (hf.f h1),λ _ _=>rfl⟩
structure RtF(X:Xp)(σ τ:Kw)(t:eQ)(r:Int):Prop where
 s:X.b=false->(σ.nd (σ.ce t.root)).kind=2->τ=σ/\r=σ.ce t.root
 d:X.b=false->lu σ τ t
 c:X.b=false->jt σ τ
theorem r9{K:Int->Tr}(hX:Sk X)(hT:bR σ t)(i0:Inv X.H σ)(hK:∀τ r,Le σ τ->Inv X.H τ->rI τ r []->RtF X σ τ t r->XT X (K r) n τ):XT X (Pg t K) (n+5) σ:=by
 refine mH λ τ hg=>?_
 have l1:=hg.le
 have i1:=hg.inv
 have hT1:=hT.up l1
 have hv:=Us hT1 i1
 have hvs:X.b=false->σ.ce t.root=τ.ce t.root:=λ hb=>by rw[hg.solo hb]
 generalize hve:τ.ce t.root=v at hv hvs ⊢
 refine cG hv.1 ?_
 try dsimp only
 split
 ·rename_i h2
  rcases hv.2 with h|h
  ·exact(hK τ v l1 i1 h ⟨λ hb _=>⟨hg.solo hb,(hvs hb).symm⟩,λ hb=>by rw[hg.solo hb];exact .refl σ t,λ hb=>by rw[hg.solo hb];exact .refl σ⟩).mono (by omega)
  ·rw[h.1] at h2;exact absurd h2 (by decide)
 ·rename_i h2
  have h8r:(τ.nd v).kind=8/\t.ro=false:=by
   rcases hv.2 with h|h
   ·exact absurd h.1 h2
   ·exact h
  obtain⟨h8,hro⟩:=h8r
  have hd:=i1.desc h8
  have hno:X.b=false->¬(σ.nd (σ.ce t.root)).kind=2:=λ hb h=>by
   have e:=hg.solo hb
   subst e
   rw[hve] at h;exact h2 h
  refine cG hv.1 (mH λ υ hg2=>?_)
  have l2:=hg2.le
  have i2:=hg2.inv
  have en:υ.nd v=τ.nd v:=l2.nd hv.1
  have h8':(υ.nd v).kind=8:=by rw[en];exact h8
  have hv':v<=υ.len:=by have:=l2.len;have:=hv.1;omega
  have hd2:=i2.desc h8'
  have l12:=l1.trans i0 i1 l2
  have hg12:=hg.trans i0 hg2
  have hve2:X.b=false->υ.ce t.root=v:=λ hb=>by rw[hg2.solo hb];exact hve
  have hrs:t.root≠(υ.nd v).status:=λ e=>by
   have h3:=hd2.2.2.2.2.2
   rw[<- e,(hT.up l12).rw hro] at h3;cases h3
  rw[<- en]
  try dsimp only
  split
  ·rename_i hs
   refine cG hv' (Am hd2.2.2.2.1 hd2.2.2.2.2.1 i2 (λ ρ l3 i3 _=>Jl i2 h8' (.inr rfl) l3 i3) (λ ρ l _ _=>hX.r0 _ _ _ _ (λ i' h=>?_) (λ h=>?_)) (λ ρ b l3 i3 hf=>cG (by have:=l3.len;omega) (mH λ χ hg4=>?_)))
   ·rw[l.ct _ hd2.2.2.2.2.1,hd2.2.2.2.2.2] at h;cases h
   ·rw[l.ct _ hd2.2.2.2.2.1,hd2.2.2.2.2.2] at h;cases h
   have l4:=hg4.le
   have i4:=hg4.inv
   have e3:ρ.nd v=υ.nd v:=l3.nd hv'
   have e4:χ.nd v=υ.nd v:=by rw[l4.nd (by have:=l3.len;omega),e3]
   have st2:X.b=false->υ.ce (υ.nd v).status=0:=λ hb=>by rw[hg2.solo hb,<- hg2.solo hb];exact hs
   have hset:X.b=false->Zb X.H υ χ (υ.nd v).status 2:=λ hb=>by
    rw[hg4.solo hb]
    rcases hf.s hb with⟨_,_,h⟩|⟨h1,h2⟩
    ·exact h
    ·subst h2
     exact absurd (st2 hb) (hf.f h1)
   have l24:=l3.trans i2 i3 l4
   have l04:=l12.trans i0 i2 l24
   rw[e3]
   refine Fz hX (hT.up l04) hro i4 (by rw[e4];exact h8') (λ hb=>.inl ?_) λ ψ l5 i5 hI _ hc=>?_
   ·rw[(hset hb).other _ hrs];exact hve2 hb
   ·refine(hK ψ _ (l04.trans i0 i4 l5) i5 hI ⟨λ hb h=>absurd h (hno hb),λ hb v' h1 _ _=>?_,λ hb=>?_⟩)
    ·have e:=hg12.solo hb
     have e1:=hset hb
     have e2:=hve2 hb
     subst e
     have ev:v'=v:=h1.symm.trans e2
     subst ev
     have hst:χ.ce (υ.nd v').status=2:=e1.at'
     have h3:=hc hb
     rw[hst,if_neg (by decide),e4] at h3
     exact .inr ⟨h3.1,by rw[h3.2 _ (Ne.symm hrs)];exact hst⟩
    ·have e:=hg12.solo hb
     have e1:=hset hb
     subst e
     refine(ft e1 (.inr ⟨v,hd2.2.2.2.2.2⟩)).trans l24 λ x _ _ a _=>(hc hb).2 x λ ex=>?_
     rw[ex] at a
     exact a ((hT.up l24).rw hro)
  ·rename_i hs
   refine(Fz hX (hT.up l12) hro i2 h8' (λ hb=>.inl (hve2 hb)) λ ψ l5 i5 hI _ hc=>?_).mono (by omega:n+1<=n+3)
   refine hK ψ _ (l12.trans i0 i2 l5) i5 hI ⟨λ hb h=>absurd h (hno hb),λ hb v' h1 h2 h3=>?_,λ hb=>?_⟩
   ·have e:=hg12.solo hb
    have e2:=hve2 hb
    subst e
    have ev:v'=v:=h1.symm.trans e2
    subst ev
    exact absurd h3 hs
   ·have e:=hg12.solo hb
    subst e
    exact λ x _ _ a _=>(hc hb).2 x λ ex=>by
     rw[ex] at a
     exact a (hT.rw hro)
end
end

/- Procedures among others or alone: SETTLE, READ, DECIDE, HELP, GCAS, RDCSS. -/
section
open Go Go.RowKit Go.Ct
section
variable{X:Xp}{σ τ υ:Kw}{i m p g v:Int}{w:List Nat}{t:eQ}{n:Nat}
structure yr(X:Xp)(σ τ:Kw)(t:eQ)(i v:Int):Prop where
 e:X.b=false->aV σ (σ.ce (σ.nd i).main)->τ=σ/\v=σ.ce (σ.nd i).main
 s:X.b=false->(σ.nd (σ.ce t.root)).kind=2->τ.ce (σ.nd i).main=v/\Eo σ τ i
 d:X.b=false->lu σ τ t
abbrev KR'(X:Xp)(σ:Kw)(t:eQ)(i:Int)(w:List Nat)(g:Int)(K:Int->Tr)(n:Nat):Prop:=∀τ v,Le σ τ->Inv X.H τ->lP τ v w g->aV τ v->yr X σ τ t i v->XT X (K v) n τ
def ya(σ:Kw)(t:eQ)(i m:Int):Prop:=t.ro=false/\(σ.nd (σ.ce t.root)).kind=2/\(σ.nd (σ.ce t.root)).gen=(σ.nd i).gen/\bU (σ.nd (σ.ce (σ.nd m).prev))
theorem Dx{K:Int->Tr}(hX:Sk X)(hT:bR σ t)(i0:Inv X.H σ)(hi:mU σ i w g)(hm:lP σ m w g)(hc0:X.b=false->σ.ce (σ.nd i).main=m)
  (hK:∀τ v,Le σ τ->Inv X.H τ->lP τ v w g->aV τ v->(τ.ce (σ.nd i).main≠m∨aV τ m)->yr X σ τ t i v->(X.b=false->ya σ t i m->v=m)->XT X (K v) n τ):XT X (uN t i m K) (n+9) σ:=by
 have hr:=hm.in
 refine cG hr.2 (mH λ τ hg=>?_)
 have l1:=hg.le
 have i1:=hg.inv
 have e1:(τ.nd m).prev=(σ.nd m).prev:=by rw[l1.nd hr.2]
 have eni:(τ.nd i).main=(σ.nd i).main:=by rw[l1.nd hi.in.2]
 have hc1:1<=(σ.nd m).prev/\(σ.nd m).prev<=τ.cl/\τ.ct (σ.nd m).prev=.prev m:=by rw[<- e1];exact i1.iK (hm.up l1).1
 have hce:=i1.ce _ hc1.1 hc1.2.1
 have hp:=hce.prev m hc1.2.2
 have hhi:=hce.hi
 have hcm:X.b=false->τ.ce (τ.nd i).main=m:=λ hb=>by rw[hg.solo hb];exact hc0 hb
 try dsimp only
 split
 ·rename_i e0
  have hs:aV τ m:=by unfold aV;rw[e1];exact e0
  exact(hK τ m l1 i1 (hm.up l1) hs (.inr hs) ⟨λ hb _=>⟨hg.solo hb,(hc0 hb).symm⟩,λ hb _=>⟨by rw[<- eni];exact hcm hb,hg.mb hb⟩,λ hb=>by rw[hg.solo hb];exact .refl σ t⟩ (λ _ _=>rfl)).mono (by omega)
 ·rename_i e0
  have hns:X.b=false->¬aV σ (σ.ce (σ.nd i).main):=λ hb h=>by
   rw[hc0 hb] at h
   rw[hg.solo hb] at e0
   exact e0 h
  have hKC:KC X τ i m w g (ya σ t i m) K n:=λ υ u l2 i2 hu hs f=>hK υ u (l1.trans i0 i1 l2) i2 hu hs (by rw[<- eni];exact f.ok) ⟨λ hb h=>absurd h (hns hb),λ hb _=>⟨by rw[<- eni];exact(f.s hb).1,(hg.mb hb).trans l1 (f.s hb).2⟩,λ hb=>by
   have e:=hg.solo hb
   have f2:=(f.s hb).2
   rw[e] at f2
   exact b9 hT i0 f2⟩ f.c
  refine cG hhi ?_
  try dsimp only
  split
  ·rename_i hk
   have hpm:nU τ m (τ.ce (σ.nd m).prev):=by
    rcases hp.2 with h|h|h
    ·exact absurd h e0
    ·exact h
    ·exact absurd hk (iA (.inr (.inl h.1)))
   have hpend:Lu τ m (τ.ce (σ.nd m).prev):=⟨hp.1,hk,hpm,.inl (by rw[e1])⟩
   try dsimp only
   split
   ·exact(Za hX i1 (hi.up l1) (hm.up l1) hcm hpend (λ _=>by rw[e1]) (λ _ h=>absurd h.1 (by rw[‹t.ro=true›];decide)) hKC).mono (by omega)
   ·refine r9 hX (n:=n+3) (hT.up l1) i1 λ υ r l2 i2 hr2 hrt=>cG hr2.in.2 (cG ((hi.up l1).up l2).in.2 ?_)
    have eni2:(υ.nd i).main=(τ.nd i).main:=by rw[l2.nd (hi.up l1).in.2]
    have hmc:=i1.dI (hi.up l1).1.1
    have hpcl:=hpend.cell i1
    refine Za (cm:=ya σ t i m) hX i2 ((hi.up l1).up l2) ((hm.up l1).up l2) (λ hb=>?_) (hpend.up i1 i2 l2) (λ hb=>?_) (λ hb h=>?_) λ ρ u l3 i3 hu hs f=>?_
    ·rw[eni2,hrt.c hb _ hmc.1 hmc.2.1 (by rw[hmc.2.2];intro h;cases h) (λ d=>by rw[hmc.2.2];intro h;cases h)]
     exact hcm hb
    ·rw[l2.nd (hm.up l1).in.2,hrt.c hb _ hpcl.1 hpcl.2.1 (by rw[hpcl.2.2];intro h;cases h) (λ d=>by rw[hpcl.2.2];intro h;cases h),e1]
    ·have e:=hg.solo hb
     subst e
     have e2:=hrt.s hb h.2.1
     obtain⟨e3,e4⟩:=e2
     subst e3
     rw[e4,h.2.2.1]
     exact beq_self_eq_true _
    ·refine hK ρ u ((l1.trans i0 i1 l2).trans i0 i2 l3) i3 hu hs (by rw[<- eni,<- eni2];exact f.ok) ⟨λ hb h=>absurd h (hns hb),λ hb hk2=>?_,λ hb=>?_⟩ ?_
     ·have e:=hg.solo hb
      subst e
      have e2:=(hrt.s hb hk2).1
      subst e2
      exact f.s hb
     ·have e:=hg.solo hb
      subst e
      exact(hrt.d hb).mb hT i0 i2 l2 (f.s hb).2
     ·exact f.c
  ·rename_i hk
   rcases hp.2 with h|h|h
   ·exact absurd h e0
   ·exact absurd h.1.1 hk
   ·exact(kf hX i1 (hi.up l1) (hm.up l1) hcm (by unfold aV;rw[e1];exact e0) h.1 h.2 (λ hb hc=>by have e:=hg.solo hb;subst e;exact absurd hc.2.2.2 (iA (.inr (.inl h.1)))) hKC).mono (by omega)
theorem mN{K:Int->Tr}(hX:Sk X)(hT:bR σ t)(i0:Inv X.H σ)(hi:mU σ i w g)(hK:KR' X σ t i w g K n):XT X (kX t i K) (n+10) σ:=by
 refine cG hi.in.2 (mH λ τ hg=>?_)
 have l1:=hg.le
 have i1:=hg.inv
 have hi1:=hi.up l1
 have hm:=hi1.Yq i1
 have eni:τ.nd i=σ.nd i:=l1.nd hi.in.2
 rw[eni] at hm
 refine Dx hX (hT.up l1) i1 hi1 hm (λ hb=>by rw[eni]) λ υ u l2 i2 hu hs _ f _=>hK υ u (l1.trans i0 i1 l2) i2 hu hs ?_
 refine⟨λ hb=>?_,λ hb=>?_,λ hb=>?_⟩<;>have e:=hg.solo hb<;>subst e
 ·exact f.e hb
 ·exact f.s hb
 ·exact f.d hb
structure DcF(X:Xp)(σ τ:Kw)(t:eQ)(v:Int):Prop where
 a:X.b=false->σ.ce t.root=v->σ.ce (σ.nd v).status=0->(τ.ce t.root=v/\τ.ce (σ.nd v).status≠0)∨(τ.ce t.root=(σ.nd v).bL/\τ.ce (σ.nd v).status=2)
 b:X.b=false->σ.ce t.root=v->σ.ce (σ.nd v).status=0->σ.ce (σ.nd (σ.nd v).bL).main=(σ.nd v).exp->aV σ (σ.nd v).exp->τ.ce t.root=v/\τ.ce (σ.nd v).status=1
theorem D8{K:Tr}(hX:Sk X)(hT:bR σ t)(hro:t.ro=false)(i0:Inv X.H σ)(h:(σ.nd v).kind=8)(hK:∀τ,Le σ τ->Inv X.H τ->DcF X σ τ t v->XT X K n τ):XT X (uG t v K) (n+11) σ:=by
 have hd:=i0.desc h
 refine cG hd.1 (mN hX hT i0 (g:=(σ.nd (σ.nd v).bL).gen) ⟨hd.2.1,rfl⟩ λ τ m l1 i1 _ _ fr=>cG (by have:=l1.len;omega) (cG (by have:=l1.len;omega) ?_))
 have en:τ.nd v=σ.nd v:=l1.nd hd.1
 have h8:(τ.nd v).kind=8:=by rw[en];exact h
 have hd1:=i1.desc h8
 have hrs:t.root≠(σ.nd v).status:=λ e=>by
  have h3:=hd.2.2.2.2.2
  rw[<- e,hT.rw hro] at h3;cases h3
 refine Am hd1.2.2.2.1 hd1.2.2.2.2.1 i1 (λ ρ l3 i3 _=>Jl i1 h8 (by split<;>simp) l3 i3) (λ ρ l _ _=>hX.r0 _ _ _ _ (λ i' h=>?_) (λ h=>?_)) (λ ρ b l3 i3 hf=>hK ρ (l1.trans i0 i1 l3) i3 ⟨λ hb h1 h2=>?_,λ hb h1 h2 h3 h4=>?_⟩)
 ·rw[l.ct _ hd1.2.2.2.2.1,hd1.2.2.2.2.2] at h;cases h
 ·rw[l.ct _ hd1.2.2.2.2.1,hd1.2.2.2.2.2] at h;cases h
 ·have hds:=fr.d hb v h1 h h2
  rw[en] at hf
  rcases hf.s hb with⟨_,_,hs⟩|⟨h5,h6⟩
  ·rcases hds with⟨d1,d2⟩|⟨d1,d2⟩
   ·refine .inl ⟨by rw[hs.other _ hrs];exact d1,?_⟩
    rw[hs.at']
    split<;>decide
   ·have := ‹τ.ce (σ.nd v).status=0›
    rw[d2] at this
    exact absurd this (by decide)
  ·subst h6
   rcases hds with⟨d1,d2⟩|⟨d1,d2⟩
   ·exact absurd d2 (hf.f h5)
   ·exact .inr ⟨d1,d2⟩
 ·have e:=fr.e hb (by rw[h3];exact h4)
  obtain⟨e1,e2⟩:=e
  subst e1
  rw[h3] at e2
  rcases hf.s hb with⟨_,_,hs⟩|⟨h5,h6⟩
  ·refine⟨by rw[hs.other _ hrs];exact h1,?_⟩
   rw[hs.at',if_pos e2]
  ·subst h6
   exact absurd h2 (hf.f h5)
structure HpF(X:Xp)(σ τ:Kw)(t:eQ)(r:Int):Prop where
 r:X.b=false->τ.ce t.root=r
 e:X.b=false->(σ.nd (σ.ce t.root)).kind=2->τ=σ
theorem zA{K:Int->Tr}(hX:Sk X)(hT:bR σ t)(i0:Inv X.H σ)(hK:∀τ r,Le σ τ->Inv X.H τ->rI τ r []->HpF X σ τ t r->XT X (K r) n τ):XT X (rH t K) (n+15) σ:=by
 refine mH λ τ hg=>?_
 have l1:=hg.le
 have i1:=hg.inv
 have hT1:=hT.up l1
 have hv:=Us hT1 i1
 generalize hve:τ.ce t.root=v at hv ⊢
 refine cG hv.1 ?_
 try dsimp only
 split
 ·rename_i h2
  rcases hv.2 with h|h
  ·exact(hK τ v l1 i1 h ⟨λ _=>hve,λ hb _=>hg.solo hb⟩).mono (by omega)
  ·rw[h.1] at h2;exact absurd h2 (by decide)
 ·rename_i h2
  have h8r:(τ.nd v).kind=8/\t.ro=false:=by
   rcases hv.2 with h|h
   ·exact absurd h.1 h2
   ·exact h
  obtain⟨h8,hro⟩:=h8r
  have hno:X.b=false->¬(σ.nd (σ.ce t.root)).kind=2:=λ hb h=>by
   have e:=hg.solo hb
   subst e
   rw[hve] at h;exact h2 h
  refine cG hv.1 (mH λ υ hg2=>?_)
  have l2:=hg2.le
  have i2:=hg2.inv
  have en:υ.nd v=τ.nd v:=l2.nd hv.1
  have h8':(υ.nd v).kind=8:=by rw[en];exact h8
  have hv':v<=υ.len:=by have:=l2.len;have:=hv.1;omega
  have hd2:=i2.desc h8'
  have l12:=l1.trans i0 i1 l2
  have hve2:X.b=false->υ.ce t.root=v:=λ hb=>by rw[hg2.solo hb];exact hve
  rw[<- en]
  try dsimp only
  split
  ·rename_i hs
   refine D8 hX (n:=n+2) (hT.up l12) hro i2 h8' λ ρ l3 i3 hdc=>cG (by have:=l3.len;omega) (mH λ χ hg4=>?_)
   have l4:=hg4.le
   have i4:=hg4.inv
   have e3:ρ.nd v=υ.nd v:=l3.nd hv'
   have e4:χ.nd v=υ.nd v:=by rw[l4.nd (by have:=l3.len;omega),e3]
   rw[e3]
   refine Fz hX (((hT.up l12).up l3).up l4) hro i4 (by rw[e4];exact h8') (λ hb=>?_) λ ψ l5 i5 hI _ hc=>?_
   ·have st2:υ.ce (υ.nd v).status=0:=by rw[hg2.solo hb] at hs ⊢;exact hs
    rcases hdc.a hb (hve2 hb) st2 with⟨h5,_⟩|⟨h5,h6⟩
    ·exact .inl (by rw[hg4.solo hb];exact h5)
    ·refine .inr ?_
     rw[hg4.solo hb] at e4 ⊢
     rw[h6,if_neg (by decide),h5,e4]
   ·exact(hK ψ _ (((l12.trans i0 i2 l3).trans i0 i3 l4).trans i0 i4 l5) i5 hI ⟨λ hb=>(hc hb).1,λ hb h=>absurd h (hno hb)⟩).mono (by omega)
  ·rename_i hs
   exact(Fz hX (hT.up l12) hro i2 h8' (λ hb=>.inl (hve2 hb)) λ ψ l5 i5 hI _ hc=>hK ψ _ (l12.trans i0 i2 l5) i5 hI ⟨λ hb=>(hc hb).1,λ hb h=>absurd h (hno hb)⟩).mono (by omega)
end
end

end Go.Proofs.YtadnboagdhcedaaGreatDoor
