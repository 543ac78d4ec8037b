/- Merged. -/
import Derived.Test.YtbajmaoegmbfgaaGreatGKw5
set_option linter.unusedSimpArgs false
set_option linter.unusedVariables false
namespace Go.Proofs.YtbajmaoegmbfgaaGreat
section
open Go Go.RowKit Go.Ct
section
variable{X:Xp}{σ τ υ:Kw}{i m p g v:Int}{w:List Nat}{t:dV}{n:Nat}
structure RdF(X:Xp)(σ τ:Kw)(t:dV)(i v:Int):Prop where
 e:X.b=false->bC σ (σ.ce (σ.nd i).main)->τ=σ/\v=σ.ce (σ.nd i).main
 s:X.b=false->(σ.nd (σ.ce t.root)).kind=2->τ.ce (σ.nd i).main=v/\Ka σ τ i
 d:X.b=false->DsF σ τ t
abbrev KR'(X:Xp)(σ:Kw)(t:dV)(i:Int)(w:List Nat)(g:Int)(K:Int->Tr)(n:Nat):Prop:=∀τ v,Le σ τ->Inv X.H τ->oS τ v w g->bC τ v->RdF X σ τ t i v->XT X (K v) n τ
def CmO(σ:Kw)(t:dV)(i m:Int):Prop:=t.ro=false/\(σ.nd (σ.ce t.root)).kind=2/\(σ.nd (σ.ce t.root)).gen=(σ.nd i).gen/\cB (σ.nd (σ.ce (σ.nd m).prev))
theorem I6{K:Int->Tr}(hX:aq X)(hT:bX σ t)(i0:Inv X.H σ)(hi:qP σ i w g)(hm:oS σ m w g)(hc0:X.b=false->σ.ce (σ.nd i).main=m)
  (hK:∀τ v,Le σ τ->Inv X.H τ->oS τ v w g->bC τ v->(τ.ce (σ.nd i).main≠m∨bC τ m)->RdF X σ τ t i v->(X.b=false->CmO σ t i m->v=m)->XT X (K v) n τ):XT X (oJ t i m K) (n+9) σ:=by
 have hr:=hm.in;refine cS hr.2 (pT λ τ hg=>?_);have l1:=hg.le;have i1:=hg.inv;have e1:(τ.nd m).prev=(σ.nd m).prev:=by rw[l1.nd hr.2]
 have eni:(τ.nd i).main=(σ.nd i).main:=by rw[l1.nd hi.in.2]
 have hc1:1<=(σ.nd m).prev/\(σ.nd m).prev<=τ.cl/\τ.ct (σ.nd m).prev=.prev m:=by rw[<- e1];exact i1.kK (hm.up l1).1
 have hce:=i1.ce _ hc1.1 hc1.2.1;have hp:=hce.prev m hc1.2.2;have hhi:=hce.hi;have hcm:X.b=false->τ.ce (τ.nd i).main=m:=λ hb=>by rw[hg.solo hb];exact hc0 hb
 try dsimp only
 split
 ·rename_i e0;have hs:bC τ m:=by unfold bC;rw[e1];exact e0
  exact(hK τ m l1 i1 (hm.up l1) hs (.inr hs) ⟨λ hb _=>⟨hg.solo hb,(hc0 hb).symm⟩,λ hb _=>⟨by rw[<- eni];exact hcm hb,hg.zl hb⟩,λ hb=>by rw[hg.solo hb];exact .refl σ t⟩ (λ _ _=>rfl)).mono (by omega)
 ·rename_i e0;have hns:X.b=false->¬bC σ (σ.ce (σ.nd i).main):=λ hb h=>by rw[hc0 hb] at h;rw[hg.solo hb] at e0;exact e0 h
  have hKC:KC X τ i m w g (CmO σ t i m) K n:=λ υ u l2 i2 hu hs f=>hK υ u (l1.trans i0 i1 l2) i2 hu hs (by rw[<- eni];exact f.ok) ⟨λ hb h=>absurd h (hns hb),λ hb _=>⟨by rw[<- eni];exact(f.s hb).1,(hg.zl hb).trans l1 (f.s hb).2⟩,λ hb=>by
   have e:=hg.solo hb;have f2:=(f.s hb).2;rw[e] at f2
   exact uc hT i0 f2⟩ f.c
  refine cS hhi ?_;try dsimp only
  split
  ·rename_i hk;have hpm:qW τ m (τ.ce (σ.nd m).prev):=by
    rcases hp.2 with h|h|h;·exact absurd h e0
    ·exact h
    ·exact absurd hk (jZ (.inr (.inl h.1)))
   have hpend:P0 τ m (τ.ce (σ.nd m).prev):=⟨hp.1,hk,hpm,.inl (by rw[e1])⟩;try dsimp only
   split;·exact(dr hX i1 (hi.up l1) (hm.up l1) hcm hpend (λ _=>by rw[e1]) (λ _ h=>absurd h.1 (by rw[‹t.ro=true›];decide)) hKC).mono (by omega)
   ·refine aAM hX (n:=n+3) (hT.up l1) i1 λ υ r l2 i2 hr2 hrt=>cS hr2.in.2 (cS ((hi.up l1).up l2).in.2 ?_);have eni2:(υ.nd i).main=(τ.nd i).main:=by rw[l2.nd (hi.up l1).in.2]
    have hmc:=i1.eG (hi.up l1).1.1;have hpcl:=hpend.cell i1;refine dr (cm:=CmO σ t i m) hX i2 ((hi.up l1).up l2) ((hm.up l1).up l2) (λ hb=>?_) (hpend.up i1 i2 l2) (λ hb=>?_) (λ hb h=>?_) λ ρ u l3 i3 hu hs f=>?_
    ·rw[eni2,hrt.c hb _ hmc.1 hmc.2.1 (by rw[hmc.2.2];intro h;cases h) (λ d=>by rw[hmc.2.2];intro h;cases h)];exact hcm hb
    ·rw[l2.nd (hm.up l1).in.2,hrt.c hb _ hpcl.1 hpcl.2.1 (by rw[hpcl.2.2];intro h;cases h) (λ d=>by rw[hpcl.2.2];intro h;cases h),e1]
    ·have e:=hg.solo hb;subst e;have e2:=hrt.s hb h.2.1;obtain⟨e3,e4⟩:=e2
     subst e3;rw[e4,h.2.2.1];exact beq_self_eq_true _
    ·refine hK ρ u ((l1.trans i0 i1 l2).trans i0 i2 l3) i3 hu hs (by rw[<- eni,<- eni2];exact f.ok) ⟨λ hb h=>absurd h (hns hb),λ hb hk2=>?_,λ hb=>?_⟩ ?_;·have e:=hg.solo hb;subst e;have e2:=(hrt.s hb hk2).1;subst e2;exact f.s hb
     ·have e:=hg.solo hb;subst e;exact(hrt.d hb).zl hT i0 i2 l2 (f.s hb).2
     ·exact f.c
  ·rename_i hk;rcases hp.2 with h|h|h;·exact absurd h e0
   ·exact absurd h.1.1 hk
   ·exact(zo hX i1 (hi.up l1) (hm.up l1) hcm (by unfold bC;rw[e1];exact e0) h.1 h.2 (λ hb hc=>by have e:=hg.solo hb;subst e;exact absurd hc.2.2.2 (jZ (.inr (.inl h.1)))) hKC).mono (by omega)
theorem pU{K:Int->Tr}(hX:aq X)(hT:bX σ t)(i0:Inv X.H σ)(hi:qP σ i w g)(hK:KR' X σ t i w g K n):XT X (iK t i K) (n+10) σ:=by
 refine cS hi.in.2 (pT λ τ hg=>?_);have l1:=hg.le;have i1:=hg.inv;have hi1:=hi.up l1;have hm:=hi1.rb i1;have eni:τ.nd i=σ.nd i:=l1.nd hi.in.2;rw[eni] at hm;refine I6 hX (hT.up l1) i1 hi1 hm (λ hb=>by rw[eni]) λ υ u l2 i2 hu hs _ f _=>hK υ u (l1.trans i0 i1 l2) i2 hu hs ?_;refine⟨λ hb=>?_,λ hb=>?_,λ hb=>?_⟩<;>have e:=hg.solo hb<;>subst e
 ·exact f.e hb
 ·exact f.s hb
 ·exact f.d hb
structure DcF(X:Xp)(σ τ:Kw)(t:dV)(v:Int):Prop where
 a:X.b=false->σ.ce t.root=v->σ.ce (σ.nd v).status=0->(τ.ce t.root=v/\τ.ce (σ.nd v).status≠0)∨(τ.ce t.root=(σ.nd v).bR/\τ.ce (σ.nd v).status=2)
 b:X.b=false->σ.ce t.root=v->σ.ce (σ.nd v).status=0->σ.ce (σ.nd (σ.nd v).bR).main=(σ.nd v).exp->bC σ (σ.nd v).exp->τ.ce t.root=v/\τ.ce (σ.nd v).status=1
theorem G6{K:Tr}(hX:aq X)(hT:bX σ t)(hro:t.ro=false)(i0:Inv X.H σ)(h:(σ.nd v).kind=8)(hK:∀τ,Le σ τ->Inv X.H τ->DcF X σ τ t v->XT X K n τ):XT X (qC t v K) (n+11) σ:=by
 have hd:=i0.desc h;refine cS hd.1 (pU hX hT i0 (g:=(σ.nd (σ.nd v).bR).gen) ⟨hd.2.1,rfl⟩ λ τ m l1 i1 _ _ fr=>cS (by have:=l1.len;omega) (cS (by have:=l1.len;omega) ?_));have en:τ.nd v=σ.nd v:=l1.nd hd.1;have h8:(τ.nd v).kind=8:=by rw[en];exact h
 have hd1:=i1.desc h8;have hrs:t.root≠(σ.nd v).status:=λ e=>by have h3:=hd.2.2.2.2.2;rw[<- e,hT.rw hro] at h3;cases h3
 refine Ef hd1.2.2.2.1 hd1.2.2.2.2.1 i1 (λ ρ l3 i3 _=>Qo i1 h8 (by split<;>simp) l3 i3) (λ ρ l _ _=>hX.r0 _ _ _ _ (λ i' h=>?_) (λ h=>?_)) (λ ρ b l3 i3 hf=>hK ρ (l1.trans i0 i1 l3) i3 ⟨λ hb h1 h2=>?_,λ hb h1 h2 h3 h4=>?_⟩);·rw[l.ct _ hd1.2.2.2.2.1,hd1.2.2.2.2.2] at h;cases h
 ·rw[l.ct _ hd1.2.2.2.2.1,hd1.2.2.2.2.2] at h;cases h
 ·have hds:=fr.d hb v h1 h h2;rw[en] at hf;rcases hf.s hb with⟨_,_,hs⟩|⟨h5,h6⟩
  ·rcases hds with⟨d1,d2⟩|⟨d1,d2⟩;·refine .inl ⟨by rw[hs.other _ hrs];exact d1,?_⟩;rw[hs.at'];split<;>decide
   ·have := ‹τ.ce (σ.nd v).status=0›;rw[d2] at this;exact absurd this (by decide)
  ·subst h6;rcases hds with⟨d1,d2⟩|⟨d1,d2⟩;·exact absurd d2 (hf.f h5)
   ·exact .inr ⟨d1,d2⟩
 ·have e:=fr.e hb (by rw[h3];exact h4);obtain⟨e1,e2⟩:=e;subst e1;rw[h3] at e2;rcases hf.s hb with⟨_,_,hs⟩|⟨h5,h6⟩;·refine⟨by rw[hs.other _ hrs];exact h1,?_⟩;rw[hs.at',if_pos e2]
  ·subst h6;exact absurd h2 (hf.f h5)
structure HpF(X:Xp)(σ τ:Kw)(t:dV)(r:Int):Prop where
 r:X.b=false->τ.ce t.root=r
 e:X.b=false->(σ.nd (σ.ce t.root)).kind=2->τ=σ
theorem vX{K:Int->Tr}(hX:aq X)(hT:bX σ t)(i0:Inv X.H σ)(hK:∀τ r,Le σ τ->Inv X.H τ->uV τ r []->HpF X σ τ t r->XT X (K r) n τ):XT X (kP t K) (n+15) σ:=by
 refine pT λ τ hg=>?_;have l1:=hg.le;have i1:=hg.inv;have hT1:=hT.up l1;have hv:=oz hT1 i1;generalize hve:τ.ce t.root=v at hv ⊢;refine cS hv.1 ?_;try dsimp only
 split
 ·rename_i h2;rcases hv.2 with h|h;·exact(hK τ v l1 i1 h ⟨λ _=>hve,λ hb _=>hg.solo hb⟩).mono (by omega)
  ·rw[h.1] at h2;exact absurd h2 (by decide)
 ·rename_i h2;have h8r:(τ.nd v).kind=8/\t.ro=false:=by
   rcases hv.2 with h|h;·exact absurd h.1 h2
   ·exact h
  obtain⟨h8,hro⟩:=h8r;have hno:X.b=false->¬(σ.nd (σ.ce t.root)).kind=2:=λ hb h=>by have e:=hg.solo hb;subst e;rw[hve] at h;exact h2 h
  refine cS hv.1 (pT λ υ hg2=>?_);have l2:=hg2.le;have i2:=hg2.inv;have en:υ.nd v=τ.nd v:=l2.nd hv.1;have h8':(υ.nd v).kind=8:=by rw[en];exact h8
  have hv':v<=υ.len:=by have:=l2.len;have:=hv.1;omega
  have hd2:=i2.desc h8';have l12:=l1.trans i0 i1 l2;have hve2:X.b=false->υ.ce t.root=v:=λ hb=>by rw[hg2.solo hb];exact hve
  rw[<- en];try dsimp only
  split
  ·rename_i hs;refine G6 hX (n:=n+2) (hT.up l12) hro i2 h8' λ ρ l3 i3 hdc=>cS (by have:=l3.len;omega) (pT λ χ hg4=>?_);have l4:=hg4.le;have i4:=hg4.inv;have e3:ρ.nd v=υ.nd v:=l3.nd hv';have e4:χ.nd v=υ.nd v:=by rw[l4.nd (by have:=l3.len;omega),e3]
   rw[e3];refine Li hX (((hT.up l12).up l3).up l4) hro i4 (by rw[e4];exact h8') (λ hb=>?_) λ ψ l5 i5 hI _ hc=>?_
   ·have st2:υ.ce (υ.nd v).status=0:=by rw[hg2.solo hb] at hs ⊢;exact hs
    rcases hdc.a hb (hve2 hb) st2 with⟨h5,_⟩|⟨h5,h6⟩;·exact .inl (by rw[hg4.solo hb];exact h5)
    ·refine .inr ?_;rw[hg4.solo hb] at e4 ⊢;rw[h6,if_neg (by decide),h5,e4]
   ·exact(hK ψ _ (((l12.trans i0 i2 l3).trans i0 i3 l4).trans i0 i4 l5) i5 hI ⟨λ hb=>(hc hb).1,λ hb h=>absurd h (hno hb)⟩).mono (by omega)
  ·rename_i hs;exact(Li hX (hT.up l12) hro i2 h8' (λ hb=>.inl (hve2 hb)) λ ψ l5 i5 hI _ hc=>hK ψ _ (l12.trans i0 i2 l5) i5 hI ⟨λ hb=>(hc hb).1,λ hb h=>absurd h (hno hb)⟩).mono (by omega)
end
end
section
open Go Go.RowKit Go.Ct
section
variable{X:Xp}{σ τ υ:Kw}{i m p g v:Int}{w:List Nat}{t:dV}{n:Nat}
structure GcS(X:Xp)(σ:Kw)(t:dV)(i g o m:Int):Prop where
 b:X.b=false
 ro:t.ro=false
 k2:(σ.nd (σ.ce t.root)).kind=2
 gen:(σ.nd (σ.ce t.root)).gen=g
 ma:σ.ce (σ.nd i).main=o
 pr:σ.ce (σ.nd m).prev=o
 mo:cB (σ.nd o)
structure GcR(σ τ:Kw)(i m:Int)(bb:Bool):Prop where
 t:bb=true
 ma:τ.ce (σ.nd i).main=m
 st:bC τ m
 fr:Ka σ τ i
theorem C5{o:Int}{K:Bool->Tr}(hX:aq X)(hT:bX σ t)(i0:Inv X.H σ)(hi:qP σ i w g)(hn:oS σ m w g)
  (hK:∀τ bb,Le σ τ->Inv X.H τ->(GcS X σ t i g o m->GcR σ τ i m bb)->XT X (K bb) n τ):XT X (lE t i o m K) (n+10) σ:=by
 have hc:=i0.eG hi.1.1;refine cS hi.in.2 (Ef hc.1 hc.2.1 i0 (λ τ l1 i1 _=>Su i0 hi hn l1 i1) (λ υ l i1 _=>?_) (λ τ b l1 i1 hf=>?_))
 ·have:=hX.r2 υ t i w g m (λ v=>K (v==m)) i1 (hT.up l) (hi.up l) (hn.up l);rw[l.nd hi.in.2] at this;exact this
 ·try dsimp only
  have eni:τ.nd i=σ.nd i:=l1.nd hi.in.2;have enm:τ.nd m=σ.nd m:=l1.nd hn.in.2;have hne:=We i0 hn.1 hi.1.1;split
  ·rename_i hb;subst hb;refine I6 hX (hT.up l1) i1 (hi.up l1) (hn.up l1) (λ _=>by rw[eni];exact hf.t rfl) λ υ u l2 i2 hu hs _ f hcm=>hK υ _ (l1.trans i0 i1 l2) i2 λ hg=>?_;rcases hf.s hg.b with⟨_,_,h⟩|⟨h1,_⟩
   ·have hroot:=hT.rw hg.ro;have hrne:t.root≠(σ.nd i).main:=λ e=>by rw[e,hc.2.2] at hroot;cases hroot
    have er:τ.ce t.root=σ.ce t.root:=h.other _ hrne;have enr:τ.nd (τ.ce t.root)=σ.nd (σ.ce t.root):=by rw[er];exact l1.nd (i0.ce _ hT.1 hT.2.1).hi
    have hk2:(τ.nd (τ.ce t.root)).kind=2:=by rw[enr];exact hg.k2
    have hcmo:CmO τ t i m:=⟨hg.ro,hk2,by rw[enr,eni,hi.2];exact hg.gen,by rw[enm,h.other _ hne,hg.pr,l1.nd (iY hg.mo).2];exact hg.mo⟩;have ev:=hcm hg.b hcmo;have fs:=f.s hg.b hk2;rw[ev] at hs fs;exact⟨by rw[ev];exact beq_self_eq_true m,by rw[<- eni];exact fs.1,hs,(Fu h (.inl hc.2.2)).trans l1 fs.2⟩
   ·cases h1
  ·rename_i hb;have hb':b=false:=by simpa using hb
   subst hb';refine(hK τ false l1 i1 λ hg=>?_).mono (by omega);rcases hf.s hg.b with⟨h1,_,_⟩|⟨_,h⟩;·cases h1
   ·subst h;exact absurd hg.ma (hf.f rfl)
structure E4(X:Xp):Prop extends aq X where
 al:X.al=false
structure RcS(X:Xp)(σ:Kw)(t:dV)(o e:Int):Prop where
 b:X.b=false
 ro:σ.ce t.root=o
 ma:σ.ce (σ.nd o).main=e
 st:bC σ e
theorem Mz{o e nw:Int}{K:Bool->Tr}(hX:E4 X)(hT:bX σ t)(hro:t.ro=false)(i0:Inv X.H σ)(ho:uV σ o [])(hn:uV σ nw [])(he1:1<=e)(he2:e<=σ.len)
  (hK:∀τ bb,Le σ τ->Inv X.H τ->(RcS X σ t o e->bb=true)->XT X (K bb) n τ):XT X (wK t o e nw K) (n+14) σ:=by
 refine jL (w:=[]) (g:=0) hX.al i0 (od i0 ho he1 he2 hn) ⟨⟨Int.le_refl _,bM _⟩,λ k=>dR (a:=8) (b:=2) k,λ k=>absurd k (jZ (.inr (.inr (.inr (.inl rfl))))),λ _=>rfl⟩ (λ υ d l1 i1 af=>?_);have h8:(υ.nd d).kind=8:=by rw[af.nd];rfl
 have hdo:(υ.nd d).bR=o/\(υ.nd d).exp=e:=by rw[af.nd];exact⟨rfl,rfl⟩
 have hd2:=af.r2;have hT1:=hT.up l1;have hst0:=af.stat rfl;refine Ef hT1.1 hT1.2.1 i1 (λ τ l2 i2 _=>?_) (λ ρ l i2 _=>?_) (λ τ b l2 i2 hf=>?_)
 ·have e:=(hT1.up l2).rw hro;refine⟨by have:=af.r1;omega,by have:=l2.len;omega,λ i' h=>?_,λ m' h=>?_,λ d h=>?_,λ h=>.inr (by rw[l2.nd hd2];exact h8),λ h=>?_⟩<;>rw[e] at h<;>cases h
 ·exact hX.r4 ρ t d (λ s _=>K (s==1)) i2 (hT1.up l) hro (by rw[l.nd hd2];exact h8)
 ·have en:τ.nd d=υ.nd d:=l2.nd hd2;have h8':(τ.nd d).kind=8:=by rw[en];exact h8
  have hd2':d<=τ.len:=by have:=l2.len;omega
  have hdd:=i2.desc h8';have l12:=l1.trans i0 i1 l2
  have hrs:t.root≠(υ.nd d).status:=λ e=>by have h3:=hdd.2.2.2.2.2;rw[en,<- e,(hT.up l12).rw hro] at h3;cases h3
  try dsimp only
  split
  ·rename_i hb;have hsol:X.b=false->τ.ce t.root=d/\τ.ce (τ.nd d).status=0/\o8 X.H υ τ t.root d/\υ.ce t.root=o:=λ hb2=>by
    rcases hf.s hb2 with⟨_,h2,h⟩|⟨h1,_⟩;·exact⟨h.at',by rw[en,h.other _ (Ne.symm hrs)];exact hst0,h,h2⟩
    ·rw[hb] at h1;cases h1
   refine G6 hX.toaq (n:=n+2) (hT1.up l2) hro i2 h8' λ ρ l3 i3 hdc=>cS (by have:=l3.len;omega) (pT λ χ hg4=>?_);have l4:=hg4.le;have i4:=hg4.inv;have e3:ρ.nd d=τ.nd d:=l3.nd hd2';have e4:χ.nd d=τ.nd d:=by rw[l4.nd (by have:=l3.len;omega),e3]
   rw[e3];refine Li hX.toaq (((hT1.up l2).up l3).up l4) hro i4 (by rw[e4];exact h8') (λ hb2=>?_) λ ψ l5 i5 _ _ _=>?_
   ·obtain⟨s1,s2,_,_⟩:=hsol hb2;rcases hdc.a hb2 s1 s2 with⟨h5,_⟩|⟨h5,h6⟩;·exact .inl (by rw[hg4.solo hb2];exact h5)
    ·refine .inr ?_;rw[hg4.solo hb2] at e4 ⊢;rw[h6,if_neg (by decide),h5,e4]
   ·refine(hK ψ _ (((l12.trans i0 i2 l3).trans i0 i3 l4).trans i0 i4 l5) i5 λ hr=>?_).mono (by omega);obtain⟨s1,s2,s3,_⟩:=hsol hr.b;have hmc:=i0.eG ho.1;have hrm:t.root≠(σ.nd o).main:=λ e=>by have h3:=hmc.2.2;rw[<- e,hT.rw hro] at h3;cases h3
    have hcur:=(i0.ce _ hmc.1 hmc.2.1).main o hmc.2.2;rw[hr.ma] at hcur;have hmk:=hcur.2.1;have h7:=hdc.b hr.b s1 s2 (by rw[en,hdo.1,hdo.2,l12.nd ho.in.2,s3.other _ (Ne.symm hrm),af.ce hmc.2.1];exact hr.ma) (by rw[en,hdo.2];exact bC.up i0 hmk hr.st l12);rw[hg4.solo hr.b,h7.2];rfl
  ·rename_i hb;refine(hK τ false l12 i2 λ hr=>?_).mono (by omega);have hb':b=false:=by simpa using hb
   subst hb';rcases hf.s hr.b with⟨h1,_,_⟩|⟨_,h⟩;·cases h1
   ·subst h;exact absurd (by rw[af.ce hT.2.1];exact hr.ro) (hf.f rfl)
def OkM(i m:Int)(σ:Kw):Prop:=σ.ce (σ.nd i).main≠m∨bC σ m
def OkR(c d:Int)(σ:Kw):Prop:=σ.ce c≠d
def X0(H:ByteArray->Nat)(G:Kw->Prop):Xp:=⟨H,λ _ _=>False,λ _=>False,0,G,λ _ _ _ _=>True,true,true⟩
theorem je(H:ByteArray->Nat)(G:Kw->Prop):aq (X0 H G):=⟨λ _ _ _ _ _ _=>trivial,λ _ _ _ _ _ _ _=>trivial,λ _ _ _ _ _ _ _ _ _ _ _=>trivial,λ _ _ _ _ _ _=>trivial,λ _ _ _ _ _ _ _ _=>trivial⟩
def RF(H:ByteArray->Nat)(c v:Int)(t:Tr)(υ:Kw):Prop:=(∀i,υ.ct c=.main i->bC υ v∨∃n,XT (X0 H (OkM i v)) t n υ)/\(υ.ct c=.root->(υ.nd v).kind=2∨∃n,XT (X0 H (OkR c v)) t n υ)
theorem Xf{X:Xp}(hR:X.R=RF X.H):aq X:=by
 refine⟨λ c v t υ h1 h2=>?_,λ c v t υ i h1 h2=>?_,λ υ t i w g m K i0 hT hi hm=>?_,λ c v t υ h1 h2=>?_,λ υ t d K i0 hT hro h8=>?_⟩<;>rw[hR];·exact⟨λ i h=>absurd h (h1 i),λ h=>absurd h h2⟩
 ·exact⟨λ i' h=>.inl h2,λ h=>by rw[h1] at h;cases h⟩
 ·have hc:=i0.eG hi.1.1;refine⟨λ i' h=>.inr ⟨0+9,?_⟩,λ h=>by rw[hc.2.2] at h;cases h⟩;rw[hc.2.2] at h;cases h
  refine I6 (X:=X0 X.H (OkM i m)) (je _ _) hT i0 hi hm (λ h=>nomatch h) λ τ v l1 i1 _ _ hok _ _=>XT.stop (show OkM i m τ from ?_);unfold OkM;rw[l1.nd hi.in.2];exact hok
 ·exact⟨λ i h=>(by rw[h1] at h;cases h),λ _=>.inl h2⟩
 ·have hr:=hT.rw hro;refine⟨λ i h=>(by rw[hr] at h;cases h),λ _=>.inr ⟨2+11,?_⟩⟩;have hdd:=i0.desc h8;refine G6 (X:=X0 X.H (OkR t.root d)) (je _ _) (n:=0+2) hT hro i0 h8 λ ρ l3 i3 _=>cS (by have:=l3.len;have:=hdd.1;omega) (pT λ χ hg4=>?_);have l4:=hg4.le;refine Li (je _ _) ((hT.up l3).up l4) hro hg4.inv (by rw[l4.nd (by have:=l3.len;have:=hdd.1;omega),l3.nd hdd.1];exact h8) (λ h=>nomatch h) λ ψ _ _ _ h _=>XT.stop h
end
end
section
open Go.Ct
theorem Py(h:Nat)(level:Int):∃k:Nat,k<64/\eZ h level=(k:Int):=by
 unfold eZ;try dsimp only
 split;·exact⟨0,by decide,rfl⟩
 ·exact⟨_,vW _ _,rfl⟩
theorem Af{h l:Nat}(hl:l<=10):eZ h ((l:Nat):Int)=((sl h l:Nat):Int):=by unfold eZ;rw[if_neg (by omega),Int.toNat_natCast]
theorem sU{h k:Nat}{w:List Nat}(hu:fQ h (w++[k])):fQ h w:=λ j hj=>by have:=hu j (by simp;omega);rw[this,jA,List.getElem?_append_left hj,<- jA]
theorem Ls(h:Nat):fQ h []:=λ k hk=>absurd hk (Nat.not_lt_zero k)
theorem rG{h:Nat}{w:List Nat}(hu:fQ h w):fQ h (w++[sl h w.length]):=λ j hj=>by
 rw[List.length_append,List.length_singleton] at hj;by_cases e:j<w.length;·rw[hu j e,jA,jA,List.getElem?_append_left e]
 ·have:j=w.length:=by omega
  subst this;simp[jA]
theorem Y2{xs:List Int}{p:Nat}{r b:Int}(hp:p<xs.length)(h:rT xs p r=[b]):b=r/\xs.length=1:=by
 have hl:=wY hp r;rw[h] at hl;have h1:xs.length=1:=by simpa using hl.symm
 have hp0:p=0:=by omega
 subst hp0;have:=Nf (xs:=xs) (p:=0) hp r 0;rw[h,if_pos rfl] at this;exact⟨by simpa using this,h1⟩
section
variable{H:ByteArray->Nat}{Q:Rs->Kw->Prop}{σ τ υ:Kw}{i m p g:Int}{w:List Nat}{t:dV}
variable{v n:Nv}{k b:Nat}{r o:Int}{xs:List Int}
theorem lQ{k b:Int}(h:iO v k=some b):v.kind=3:=by unfold iO at h;have:=Be (show(Ew v.nd v.xs v.ys v.bm.toNat k).isSome=true by rw[h];rfl);exact this.1.1
theorem oA{cl:Int}{c:Nat}(hm:cB n)(e:σ.nd r=dJ n c)(hw:σ.way r=w)(hg:σ.gb r=g):oS σ r w g:=⟨by rw[e];exact hm,hw,by rw[hg];exact Int.le_refl _⟩
theorem yL(hn:cB n)(h:oS σ m w g)(hs:bC σ m):bj σ n m w g :=⟨⟨by have:=h.in;omega,h.in.2⟩,λ k=>by unfold cB at hn;omega,λ _=>.inr ⟨h,hs⟩,λ k=>by unfold cB at hn;omega⟩
theorem nJ.upL(h:nJ σ m w g b xs)(l:Le σ τ):nJ τ m w g b xs:=by have hr:=eQ (N:=σ.mm.nodes) (i:=m) (by have:=h.kd;simp only[Kw.nd] at this;rw[this];decide);have e:=l.nd hr.2;refine⟨by rw[e];exact h.kd,by rw[e];exact h.bm,by rw[e];exact h.el,by rw[e];exact h.cv,h.bv,h.wl,λ k hk r hr=>(h.br k hk r hr).up l,λ h0=>⟨(h.ne h0).1,λ b hb=>?_⟩⟩;have:=(h.ne h0).2 b hb;rw[l.nd (eQ (N:=σ.mm.nodes) (i:=b) (by rw[this];decide)).2];exact this
theorem cq(i0:Inv H σ)(hc:nJ σ m w g b xs)(hk:k<64)(ho:iO (σ.nd m) (k:Int)=some o)(hr:Mi σ (w++[k]) g r)(h0:0<w.length->xs.length=1->(σ.nd r).kind=2):lD H σ (T4 (σ.nd m) (k:Int) r) w g:=by
 obtain⟨e,h1,h2,h3⟩:=hc.up hk ho hr.in.1;rw[e];refine nP i0 h1 (λ j hj v hv=>?_) hc.wl (λ hw=>⟨λ e=>?_,λ b hb=>?_⟩)
 ·rw[h2 j hj] at hv;unfold Lw at hv;split at hv;·rename_i ej;cases hv;rw[ej];exact hr
  ·exact hc.br j hj v hv
 ·have:=wY h3 r;rw[e] at this;simp at this;omega
 ·obtain⟨e1,e2⟩:=Y2 h3 hb;rw[e1];exact h0 hw e2
theorem Qt(hc:nJ σ m w g b xs)(hk:k<64)(ho:iO (σ.nd m) (k:Int)=some o)(hr:1<=r):(T4 (σ.nd m) (k:Int) r).kind=3:=by rw[(hc.up hk ho hr).1];rfl
theorem qP.Ez(i0:Inv H σ)(h:qP σ i w g):1<=g/\g<=σ.mm.gen/\w.length<=11:=by
 have hn:=i0.nd i h.in.1 h.in.2;have h2:=hn.k2 h.1.1;have hv:=hn.valid.2.2.2.2;have hg:=hn.gen;rw[h.2] at hg;refine⟨?_,hg,by rw[<- h.1.2];exact h2.1⟩;have hk:=h.1.1;rcases hv with h|h|h|h|h|h|h
 ·exact absurd (hk.symm.trans h) (by decide)
 ·have:=h.2;rw[<- ‹qP σ i w g›.2];exact this
 ·exact absurd (hk.symm.trans h.1) (by decide)
 ·rcases h.1 with h|h<;>exact absurd (hk.symm.trans h) (by decide)
 ·exact absurd (hk.symm.trans h.1) (by decide)
 ·exact absurd (hk.symm.trans h.1) (by decide)
 ·exact absurd (hk.symm.trans h.1) (by decide)
theorem gg{K:Int->Tr}{g':Int}(i0:Inv H σ)(h1:1<=g)(h2:g<=σ.mm.gen)(hw:w.length<=11)(hm:oS σ m w g')(hg:g'<=g)(hK:∀τ j,Le σ τ->Inv H τ->qP τ j w g->WT H Q (K j) τ):WT H Q (.alloc (nL g) m K) σ :=Qd (w:=w) (g:=0) i0 (Cv hw h1 h2) ⟨⟨by have:=hm.in;omega,hm.in.2⟩,λ _=>hm.le hg,λ k=>absurd k (jZ (.inr (.inr (.inl rfl)))),λ k=>dR (a:=2) (b:=8) k⟩ λ υ j cl l1 i1 _ _ e1 e2 _ _ _=>hK υ j l1 i1 ⟨⟨by rw[e1];rfl,e2⟩,by rw[e1];rfl⟩
theorem rj(h:v.kind=5):unV v=zP v.hash v.key v.val:=by unfold unV G5;rw[if_pos (show v.nd.kind=5 from h)];rfl
theorem Mk(h:BV b xs):Od (B7 b xs)=if xs.length=1 then some (xs.getD 0 0) else none:=by
 have hcv:CV (B7 b xs).nd xs []:=by have:=aBk h (none,0);exact y8.1 this
 unfold Od po;by_cases e:xs.length=1;·rw[if_pos e,if_pos ⟨hcv,e⟩];rfl
 ·rw[if_neg e,if_neg λ h=>e h.2]
theorem ie{s:Nv}{level:Int}(h:BV b xs):coV (B7 b xs) level s=if xs.length=1/\0<level/\s.kind=4 then tmV s else B7 b xs:=by
 have e:Tb (B7 b xs).nd (B7 b xs).xs (B7 b xs).ys level s.nd=decide (xs.length=1/\0<level/\s.kind=4):=by
  unfold Tb;have h1:po (B7 b xs).nd (B7 b xs).xs (B7 b xs).ys=Od (B7 b xs):=rfl;rw[h1,Mk h];refine decide_eq_decide.2 ⟨λ h=>⟨?_,h.2⟩,λ h=>⟨?_,h.2⟩⟩
  ·have:=h.1;split at this;·assumption
   ·cases this
  ·rw[if_pos h.1];rfl
 unfold coV;rw[e];by_cases hx:xs.length=1/\0<level/\s.kind=4;·rw[if_pos hx,if_pos (decide_eq_true hx)]
 ·rw[if_neg hx,if_neg (by rw[decide_eq_false hx];decide)]
structure aCL(H:ByteArray->Nat)(v:Nv):Prop where
 sz:v.key.size<=64
 ha:H v.key=v.hash.toNat
 hn:v.hash=((v.hash.toNat:Nat):Int)
 hl:v.hash.toNat<18446744073709551616
theorem Inv.leaf(i0:Inv H σ){s:Int}(h:(σ.nd s).kind=4∨(σ.nd s).kind=5):aCL H (σ.nd s):=by
 have hr:=eQ (N:=σ.mm.nodes) (i:=s) (by rcases h with h|h<;>(simp only[Kw.nd] at h;rw[h];decide));have hn:=i0.nd s hr.1 hr.2;obtain⟨b,hb1,hb2⟩:=hn.bd.hash
 refine⟨?_,?_,by omega,by omega⟩
 ·have hv:=hn.valid.2.2.2.2;rcases hv with h'|h'|h'|h'|h'|h'|h'
  ·have:(σ.nd s).kind=1:=h';omega
  ·have:(σ.nd s).kind=2:=h'.1;omega
  ·have:(σ.nd s).kind=3:=h'.1;omega
  ·exact h'.2
  ·have:(σ.nd s).kind=6:=h'.1;omega
  ·have:(σ.nd s).kind=8:=h'.1;omega
  ·have:(σ.nd s).kind=7:=h'.1;omega
 ·rcases h with h|h;·exact hn.k4 h
  ·exact(hn.k5 h).2.2.1
theorem xr{v:Nv}(h:aCL H v):zP v.hash v.key v.val=zP ((v.hash.toNat:Nat):Int) v.key v.val:=by rw[<- h.hn]
end
end
section
open Go.Ct
theorem yO{l:List Pr}:Ha l↔∀p∈l,p.1.size<=64:=by
 constructor;·intro h p hp;obtain⟨i,hi,e⟩:=List.mem_iff_getElem.1 hp;have:=h i hi;rw[gW hi,e] at this;exact this
 ·intro h i hi;rw[gW hi];exact h _ (List.getElem_mem hi)
theorem qw{a b:Nat}(ha:a<18446744073709551616)(hb:b<18446744073709551616)(h:∀j,j<11->sl a j=sl b j):a=b:=by
 have key:∀d j,j+d=11->a >>> (6*j)=b >>> (6*j):=by
  intro d;induction d with
  | zero=>
   intro j hj;have hj:j=11:=by omega
   subst hj;rw[Nat.shiftRight_eq_div_pow,Nat.shiftRight_eq_div_pow,Nat.div_eq_of_lt (by omega),Nat.div_eq_of_lt (by omega)]
  | succ d ih=>intro j hj;have h1:=ih (j+1) (by omega);have h2:=h j (by omega);unfold sl at h2;rw[<- M6,<- M6] at h1;omega
 have:=key 11 0 rfl;simpa using this
theorem ls{a b:Nat}{w:List Nat}(ha:a<18446744073709551616)(hb:b<18446744073709551616)(h1:fQ a w)(h2:fQ b w)(hw:w.length=11):a=b:=qw ha hb λ j hj=>by rw[h1 j (by omega),h2 j (by omega)]
section
variable{H:ByteArray->Nat}{Q:Rs->Kw->Prop}{σ τ υ:Kw}{i m p g:Int}{w:List Nat}{t:dV}
structure pu(H:ByteArray->Nat)(σ:Kw)(m:Int)(w:List Nat)(h:Nat):Prop where
 kd:(σ.nd m).kind=6
 hs:(σ.nd m).hash=((h:Nat):Int)
 hl:h<18446744073709551616
 lv:LV (σ.nd m).nd (σ.nd m).xs (σ.nd m).ys
 two:2<=(σ.nd m).ys.length
 sa:SA (σ.nd m).ys
 sh:∀p∈(σ.nd m).ys,p.1.size<=64
 ha:∀p∈(σ.nd m).ys,H p.1=h
 wl:w.length=11
 un:fQ h w
theorem oS.Xq(i0:Inv H σ)(h:oS σ m w g)(k:(σ.nd m).kind=6):pu H σ m w (σ.nd m).hash.toNat:=by
 have hr:=h.in;have hn:=i0.nd m hr.1 hr.2;obtain⟨h1,h2,h3,_⟩:=hn.k6 k
 obtain⟨b,hb1,hb2⟩:=hn.bd.hash;have hv:=hn.valid.2.2.2.2;have hl:2<=(σ.nd m).ys.length/\z7 (σ.nd m).ys/\Ha (σ.nd m).ys:=by
  rcases hv with h'|h'|h'|h'|h'|h'|h';·have:(σ.nd m).kind=1:=h';omega
  ·have:(σ.nd m).kind=2:=h'.1;omega
  ·have:(σ.nd m).kind=3:=h'.1;omega
  ·rcases h'.1 with h''|h'';·have:(σ.nd m).kind=4:=h'';omega
   ·have:(σ.nd m).kind=5:=h'';omega
  ·exact h'.2
  ·have:(σ.nd m).kind=8:=h'.1;omega
  ·have:(σ.nd m).kind=7:=h'.1;omega
 rw[h.2.1] at h1 h2;exact⟨k,by omega,by omega,⟨k,hn.valid⟩,hl.1,mR.1 hl.2.1,yO.1 hl.2.2,h3,h1,h2⟩
theorem aAy(i0:Inv H σ){h:Nat}(hl:pu H σ m w h){k:ByteArray}{u:Int}(hk:k.size<=64)(hH:H k=h):cB (grV (σ.nd m) k u)/\lD H σ (grV (σ.nd m) k u) w g:=by
 have e:grV (σ.nd m) k u=Wg ((h:Nat):Int) (lM (σ.nd m).ys k u):=by unfold grV lJ Pa;rw[if_pos ⟨hl.lv,hk⟩,if_pos hl.sa,hl.hs];rfl
 rw[e];refine⟨.inr (.inr rfl),Gk i0 ?_ (mR.2 (yT hl.sa)) (yO.2 λ p hp=>?_) (λ p hp=>?_) hl.hl hl.wl hl.un⟩;·rw[yM hl.sa];have:=hl.two;(try dsimp only);split<;>omega
 ·rcases Aw hp with rfl|hp;·exact hk
  ·exact hl.sh p hp
 ·rcases Aw hp with rfl|hp;·exact hH
  ·exact hl.ha p hp
theorem aBZ(i0:Inv H σ){h:Nat}(hl:pu H σ m w h){k:ByteArray}(hf:(cK (σ.nd m).ys k).isSome=true):cB (uq (σ.nd m) k)/\lD H σ (uq (σ.nd m) k) w g:=by
 have hf2:(pJ (σ.nd m).ys k).isSome=true:=by unfold cK at hf;rwa [if_pos hl.sa] at hf
 have hlen:=Sf (k:=k) hl.sa;rw[if_pos hf2] at hlen;have hmem:∀p∈jE (σ.nd m).ys k,p∈(σ.nd m).ys:=λ p hp=>(List.mem_filter.1 hp).1;have htwo:=hl.two;by_cases h1:(jE (σ.nd m).ys k).length=1
 ·have e:uq (σ.nd m) k=jx ((h:Nat):Int) ((jE (σ.nd m).ys k).getD 0 (⟨#[]⟩,0)).1 ((jE (σ.nd m).ys k).getD 0 (⟨#[]⟩,0)).2:=by unfold uq rL tC;rw[if_pos ⟨hl.lv,hf⟩,if_pos hl.sa,hl.hs];unfold Oy Ji;dsimp only;rw[if_pos h1,if_pos h1];rfl
  rw[e];have hp:(jE (σ.nd m).ys k).getD 0 (⟨#[]⟩,0)∈(σ.nd m).ys:=hmem _ (by rw[gW (by omega)];exact List.getElem_mem _);exact⟨.inr (.inl rfl),I1 i0 (hl.sh _ hp) (hl.ha _ hp) hl.hl (by rw[hl.wl];decide) (by rw[hl.wl];decide) hl.un⟩
 ·have e:uq (σ.nd m) k=Wg ((h:Nat):Int) (jE (σ.nd m).ys k):=by unfold uq rL tC;rw[if_pos ⟨hl.lv,hf⟩,if_pos hl.sa,hl.hs];unfold Oy Ji;dsimp only;rw[if_neg h1,if_neg h1];rfl
  rw[e];exact⟨.inr (.inr rfl),Gk i0 (by omega) (mR.2 (wF k hl.sa)) (yO.2 λ p hp=>hl.sh p (hmem p hp)) (λ p hp=>hl.ha p (hmem p hp)) hl.hl hl.wl hl.un⟩
def tV(h l:Nat):List Nat:=(List.range l).map (sl h)
theorem fY(h l:Nat):(tV h l).length=l:=by simp[tV]
theorem Kl(h l:Nat):tV h (l+1)=tV h l++[sl h l]:=by simp[tV,List.range_succ]
theorem uA(h l:Nat):fQ h (tV h l):=λ k hk=>by rw[fY] at hk;simp[tV,jA,hk]
theorem vk{h:Nat}{w:List Nat}(hu:fQ h w):w=tV h w.length:=by
 refine List.ext_getElem (by rw[fY]) λ k h1 h2=>?_;have:=hu k h1;rw[jA,List.getElem?_eq_getElem h1] at this;simp only[tV,List.getElem_map,List.getElem_range]
 exact this.symm
theorem Zs{a b l:Nat}(hl:l<=kZ a b):fQ a (tV b l):=λ k hk=>by rw[fY] at hk;rw[<- uA b l k (by rw[fY];exact hk)];exact Tt (by omega)
theorem L7:BV 0 []:=⟨by decide,by decide,λ i hi=>absurd hi (Nat.not_lt_zero i)⟩
theorem Ij:∀k,fP 0 k=0
 | 0=>rfl
 | k+1=>by simp only[fP,Ij k,Nat.zero_testBit];rfl
theorem l8{k:Nat}(hk:k<64){r:Int}(hr:1<=r):BV (dX 0 (k:Int)) [r]/\∀j,j<64->∀v,nY (dX 0 (k:Int)) [r] j=some v->j=k/\v=r:=by
 rw[qQ 0 hk];have h:=Ix L7 hk (by simp) hr;rw[Ij,show uY [] 0 r=[r] from rfl] at h;refine⟨h.1,λ j hj v hv=>?_⟩;rw[h.2 j hj] at hv;unfold Lw at hv;split at hv
 ·cases hv;exact⟨by assumption,rfl⟩
 ·simp[nY] at hv
theorem aBK{k l:Nat}(hk:k<64)(hl:l<64)(hne:k≠l){x s:Int}(hx:1<=x)(hs:1<=s):BV (dX (dX 0 (k:Int)) (l:Int)) (two k l x s)/\∀j,j<64->∀v,nY (dX (dX 0 (k:Int)) (l:Int)) (two k l x s) j=some v->(j=k/\v=x)∨(j=l/\v=s):=by
 have h1:=l8 hk hx;rw[qQ 0 hk] at h1 ⊢;rw[qQ _ hl];have hb:(0 ||| 2^k).testBit l=false:=by rw[Bd];simp;omega
 have h:=Ix h1.1 hl hb hs;have hc:fP (0 ||| 2^k) l=if k<l then 1 else 0:=by have:=By (b:=0) (b':=0 ||| 2^k) (i:=k) (by simp) (λ j _=>Bd 0 k j) l (by omega);rw[this,Ij];omega
 have e:uY [x] (fP (0 ||| 2^k) l) s=two k l x s:=by
  rw[hc];unfold two;by_cases hkl:k<l;·rw[if_pos hkl,if_pos hkl];rfl
  ·rw[if_neg hkl,if_neg hkl];rfl
 rw[e] at h;refine⟨h.1,λ j hj v hv=>?_⟩;rw[h.2 j hj] at hv;unfold Lw at hv;split at hv;·cases hv;exact .inr ⟨by assumption,rfl⟩
 ·exact .inl (h1.2 j hj v hv)
theorem Rg:∀(a b:List NI) (r:Int) (K:Int->Tr),A9 (a++b) r K=A9 a r λ r=>A9 b r K
 | [],_,_,_=>rfl
 | x::a,b,r,K=>by simp only[List.cons_append,A9,Rg a b]
theorem rV{n:Nv}(i0:Inv H σ)(h2:n.kind≠2):bj σ n 0 w g:=⟨⟨Int.le_refl _,bM _⟩,λ k=>absurd k h2,λ _=>.inl rfl,λ _=>rfl⟩
theorem u6{p q:Pr}(hne:p.1≠q.1):2<=(E6 [p,q]).length/\SA (E6 [p,q])/\∀r∈E6 [p,q],r=p∨r=q:=by
 refine⟨?_,rz _,λ r hr=>?_⟩
 ·have h1:E6 [p]=[p]:=rfl;rw[show [p,q]=[p]++[q] from rfl,wX,h1,yM (by simp[SA])];have:pJ [p] q.1=none:=oT λ r hr=>by rw[List.mem_singleton.1 hr];exact hne
  rw[this];simp
 ·rw[show [p,q]=[p]++[q] from rfl,wX] at hr;rcases Aw hr with h|h;·exact .inr h
  ·have h1:E6 [p]=[p]:=rfl;rw[h1] at h;exact .inl (List.mem_singleton.1 h)
theorem Yh{x:Int}{h0 h:Nat}{p:Pr}{k:ByteArray}{u g:Int}:∀(n lvl:Nat),∃a:NI,∀f,∃l,dN x h0 h p k u g f n lvl=a::l
 | 0,lvl=>by
  by_cases e:lvl=11
  ·exact⟨Gw h (E6 [p,(k,u)]),λ f=>⟨[],by unfold dN;rw[if_pos e]⟩⟩
  ·exact⟨vZ h k u,λ f=>⟨_,by unfold dN;rw[if_neg e]⟩⟩
 | n+1,lvl=>by
  obtain⟨a,ha⟩:=Yh (x:=x) (h0:=h0) (h:=h) (p:=p) (k:=k) (u:=u) (g:=g) n (lvl+1)
  refine⟨a,λ f=>?_⟩
  obtain⟨l,hl⟩:=ha f
  exact⟨_,by unfold dN;rw[hl];rfl⟩
end
end
section
open Go.Ct
section
variable{H:ByteArray->Nat}{Q:Rs->Kw->Prop}{σ τ υ:Kw}{i m p g:Int}{w:List Nat}{c:Cl}{h:Nat}
structure Ss(H:ByteArray->Nat)(c:Cl)(h:Nat):Prop where
 sz:c.key.size<=64
 ha:H c.key=h
 hl:h<18446744073709551616
def Fur(σ:Kw)(m:Int)(h:Nat)(level:Nat):Prop:=∃b,iO (σ.nd m) (eZ h level)=some b/\(σ.nd b).kind=2
theorem ew{p:Prop}(b:Bool):(if b=true then(1:Int) else 0)=0∨(if b=true then(1:Int) else 0)=1∨p:=by cases b;exact .inl rfl;exact .inr (.inl rfl)
def Em(σ:Kw)(path:List Int)(h:Nat)(g:Int):Prop:=∀k,k<path.length->qP σ (path.getD k 0) (tV h k) g
theorem Em.up{path:List Int}(hp:Em σ path h g)(l:Le σ τ):Em τ path h g:=λ k hk=>(hp k hk).up l
theorem Em.snoc{path:List Int}{b:Int}(hp:Em σ path h g)(hb:qP σ b (tV h path.length) g):Em σ (path++[b]) h g:=λ k hk=>by
 rw[List.length_append,List.length_singleton] at hk;rw[jA];by_cases e:k<path.length;·rw[List.getElem?_append_left e,<- jA];exact hp k e
 ·have:k=path.length:=by omega
  subst this;simpa using hb
theorem jf{K:Int->Tr}(i0:Inv H σ)(hK:∀υ,Le σ υ->Inv H υ->υ.mm.gen=σ.mm.gen+1->WT H Q (K (σ.mm.gen+1)) υ):WT H Q (.gen K) σ:=by have e:Ext σ ⟨⟨σ.mm.nodes,σ.mm.cs,σ.mm.gen+1⟩,σ.way,σ.gb,σ.ct⟩:=⟨⟨[],by simp⟩,⟨[],by simp⟩,by show σ.mm.gen<=σ.mm.gen+1;omega,λ _ _=>rfl,λ _ _=>rfl,λ _ _=>rfl⟩;have hp:gL σ.mm.nodes σ.mm.cs (σ.mm.gen+1):=⟨i0.prop.two,by have:=i0.prop.gen0;omega,i0.prop.m0,i0.prop.m1,i0.prop.cells,λ k hk=>⟨(i0.prop.nodes k hk).1,by have:=(i0.prop.nodes k hk).2.1;omega,(i0.prop.nodes k hk).2.2⟩,i0.prop.marks⟩;have i1:=M1 i0 e hp (λ r h1 h2=>absurd h2 (by simp only[Kw.len] at *;omega)) (λ c h1 h2=>absurd h2 (by simp only[Kw.cl] at *;omega));exact⟨_,e.le,i1,rfl,hK _ e.le i1 rfl⟩
theorem Wh{r:Int}{K:Int->Tr}(ro:Bool)(i0:Inv H σ)(hr:uV σ r [])(hK:∀υ c,Le σ υ->Inv H υ->0<c->bX υ ⟨c,ro⟩->WT H Q (K c) υ):WT H Q (.cell r K) σ:=by
 have e:Ext σ ⟨⟨σ.mm.nodes,σ.mm.cs++[r],σ.mm.gen⟩,σ.way,σ.gb,λ c=>if c<=σ.cl then σ.ct c else ctR ro⟩:=⟨⟨[],by simp⟩,⟨[r],rfl⟩,Int.le_refl _,λ _ _=>rfl,λ _ _=>rfl,λ c hc=>if_pos hc⟩;have hcl:(σ.mm.cs++[r]).length=σ.cl+1:=by simp[Kw.cl]
 have hct:(if((σ.cl+1:Nat):Int)<=σ.cl then σ.ct ((σ.cl+1:Nat):Int) else ctR ro)=ctR ro:=if_neg (by omega);have hin:=hr.in
 have i1:=M1 i0 e (gL.cell i0.prop ⟨by omega,hin.2⟩) (λ r h1 h2=>absurd h2 (by simp only[Kw.len] at *;omega)) (λ c h1 h2=>by
  simp only[Kw.cl] at h1 h2;rw[hcl] at h2;have hc:c=((σ.cl+1:Nat):Int):=by simp only[Kw.cl] at *;omega
  subst hc;have hv:bJ (σ.mm.cs++[r]) ((σ.cl+1:Nat):Int)=r:=by unfold bJ;rw[if_pos ⟨by omega,by rw[hcl];exact Int.le_refl _⟩,show(((σ.cl+1:Nat):Int)-1).toNat=σ.mm.cs.length by simp only[Kw.cl];omega];simp[jA]
  refine⟨by simp only[Kw.ce,hv];omega,by simp only[Kw.ce,hv];exact hin.2,λ i' k=>?_,λ m k=>?_,λ d k=>?_,λ k=>.inl ?_,λ k=>?_⟩;·simp only[hct] at k;cases ro<;>cases k
  ·simp only[hct] at k;cases ro<;>cases k
  ·simp only[hct] at k;cases ro<;>cases k
  ·simp only[Kw.ce,hv];exact hr
  ·simp only[Kw.ce,hv];exact hr)
 refine⟨_,e.le,i1,rfl,hK _ _ e.le i1 (by omega) ⟨by show 1<=((σ.cl+1:Nat):Int);omega,by show((σ.cl+1:Nat):Int)<=((σ.mm.cs++[r]).length:Nat);rw[hcl];exact Int.le_refl _,hct⟩⟩
def Q0(r:Rs)(σ:Kw):Prop:=0<r.root->bX σ ⟨r.root,r.ro⟩
theorem Q0.up{r:Rs}(h:Q0 r σ)(l:Le σ τ):Q0 r τ:=λ h0=>(h h0).up l
theorem uV.I5(hr:uV σ i w):qP σ i w (σ.nd i).gen:=⟨hr,rfl⟩
structure Tz(H:ByteArray->Nat)(σ:Kw)(c:Cl)(h:Nat):Prop where
 t:bX σ c.t
 hl:h<18446744073709551616
 ha:H c.key=h
 ro:c.kind=8∨c.kind=9∨c.kind=12∨c.kind=4->c.t.ro=false
 k:(7<=c.kind/\c.kind<=12)∨c.kind=3∨(c.kind=1/\∃w g,qP σ c.a w g)∨(c.kind=2/\∃w g,qP σ c.a w g/\oS σ c.n w g)∨(c.kind=4/\uV σ c.a []/\uV σ c.n []/\1<=c.b/\c.b<=σ.len)
theorem Lc(h:refuse c=0)(hk:c.kind=7∨c.kind=8∨c.kind=9):c.key.size<=64:=by
 unfold refuse at h;split at h
 ·split at h;·assumption
  ·cases h
 split at h
 ·split at h;·rename_i hx;exact hx.1
  ·cases h
 ·omega
end
end
section
open Go Go.RowKit Go.Ct
section
variable{X:Xp}{σ τ υ:Kw}{i m p g v:Int}{w:List Nat}{t:dV}{n:Nat}
structure FL(t:dV)(L:Nat)(σ τ:Kw):Prop where
 root:τ.ce t.root=σ.ce t.root
 main:∀p,(σ.nd p).kind=2->(σ.way p).length<L->τ.ce (σ.nd p).main=σ.ce (σ.nd p).main
theorem FL.refl(t:dV)(L:Nat)(σ:Kw):FL t L σ σ:=⟨rfl,λ _ _ _=>rfl⟩
theorem kB{k:Int}(h:(σ.nd p).kind=k)(hk:k≠0:=by decide):p<=σ.len:=(eQ (N:=σ.mm.nodes) (i:=p) (by simp only[Kw.nd] at h;rw[h];exact hk)).2
theorem FL.trans{L:Nat}(l:Le σ τ)(h:FL t L σ τ)(h2:FL t L τ υ):FL t L σ υ:=⟨h2.root.trans h.root,λ p hk hp=>by
 have e:=l.nd (kB hk);have:=h2.main p (by rw[e];exact hk) (by rw[l.way p (kB hk)];exact hp);rw[e] at this
 exact this.trans (h.main p hk hp)⟩
theorem FL.less{L L':Nat}(h:FL t L σ τ)(hl:L'<=L):FL t L' σ τ:=⟨h.root,λ p hk hp=>h.main p hk (by omega)⟩
theorem wj{H:ByteArray->Nat}(i0:Inv H σ){i j:Int}(hi:(σ.nd i).kind=2)(hj:(σ.nd j).kind=2)(hne:i≠j):σ.ct (σ.nd i).main≠.main j:=λ h=>by rw[(i0.eG hi).2.2] at h;cases h;exact hne rfl
theorem Nk{H:ByteArray->Nat}(hT:bX σ t)(i0:Inv H σ)(f:Ka σ τ i):FL t (σ.way i).length σ τ:=⟨xT hT f,λ p hk hp=>by
 have hc:=i0.eG hk;refine f _ hc.1 hc.2.1 (λ h=>?_) (λ m h=>?_)
 ·rw[hc.2.2] at h;cases h;omega
 ·rw[hc.2.2] at h;cases h⟩
theorem xe.fl{H:ByteArray->Nat}{nd:Nv}{c r:Int}{L:Nat}(hT:bX σ t)(i0:Inv H σ)(a:xe σ υ nd c r w g):FL t L σ υ:=⟨a.ce hT.2.1,λ p hk _=>a.ce (i0.eG hk).2.1⟩
structure uy(σ:Kw)(p:Int)(k:Nat)(b:Int):Prop where
 st:bC σ (σ.ce (σ.nd p).main)
 lk:iO (σ.nd (σ.ce (σ.nd p).main)) (k:Int)=some b
structure me(σ:Kw)(p:Int)(k:Nat):Prop where
 st:bC σ (σ.ce (σ.nd p).main)
 no:∀b,iO (σ.nd (σ.ce (σ.nd p).main)) (k:Int)=some b->(σ.nd b).kind≠2
structure Ku(X:Xp)(σ:Kw)(t:dV)(g:Int):Prop where
 b:X.b=false
 ro:t.ro=false
 k2:(σ.nd (σ.ce t.root)).kind=2
 gen:(σ.nd (σ.ce t.root)).gen=g
variable{r o:Int}{b k:Nat}{xs:List Int}
theorem Ku.fl{H:ByteArray->Nat}{L:Nat}(i0:Inv H σ)(hT:bX σ t)(l:Le σ τ)(f:FL t L σ τ)(h:Ku X σ t g):Ku X τ t g:=by
 have e:τ.nd (τ.ce t.root)=σ.nd (σ.ce t.root):=by rw[f.root];exact l.nd (i0.ce _ hT.1 hT.2.1).hi
 exact⟨h.b,h.ro,by rw[e];exact h.k2,by rw[e];exact h.gen⟩
theorem Bc{K:Int->Tr}{g':Int}(hX:E4 X)(i0:Inv X.H σ)(h1:1<=g)(h2:g<=σ.mm.gen)(hw:w.length<=11)(hm:oS σ m w g')(hs:bC σ m)(hg:g'<=g)(hK:∀τ j,Le σ τ->Inv X.H τ->qP τ j w g->xe σ τ (nL g) m j w 0->XT X (K j) n τ):XT X (.alloc (nL g) m K) n σ :=jL (w:=w) (g:=0) hX.al i0 (Cv hw h1 h2) ⟨⟨by have:=hm.in;omega,hm.in.2⟩,λ _=>hm.le hg,λ k=>absurd k (jZ (.inr (.inr (.inl rfl)))),λ k=>dR (a:=2) (b:=8) k⟩ (λ υ j l1 i1 a=>hK υ j l1 i1 ⟨⟨by rw[a.nd];rfl,a.way⟩,by rw[a.nd];rfl⟩ a) λ _=>hs
theorem j5{K:Int->Tr}(hX:E4 X)(i0:Inv X.H σ)(hK:∀υ,Le σ υ->Inv X.H υ->υ.mm=⟨σ.mm.nodes,σ.mm.cs,σ.mm.gen+1⟩->XT X (K (σ.mm.gen+1)) n υ):XT X (.gen K) n σ:=by obtain⟨υ,l,i,e,_⟩:WT X.H (λ _ _=>True) (.gen λ _=>.done Rs.zero) σ:=jf i0 λ _ _ _ _=>trivial;exact .inr ⟨λ _ υ l i e=>hK υ l i e,λ _=>⟨υ,l,i,e,hK υ l i e⟩⟩
theorem Tp{K:Int->Tr}(hX:E4 X)(ro:Bool)(i0:Inv X.H σ)(hr:uV σ r [])(hK:∀υ c,Le σ υ->Inv X.H υ->0<c->bX υ ⟨c,ro⟩->XT X (K c) n υ):XT X (.cell r K) n σ:=by obtain⟨υ,l,i,e,h1,h2⟩:WT X.H (λ r υ=>0<r.root/\bX υ ⟨r.root,ro⟩) (.cell r λ c=>.done (Jy c ro)) σ:=Wh ro i0 hr λ _ _ _ _ h0 ht=>⟨h0,ht⟩;exact .inr ⟨hr.1,λ h=>(by rw[hX.al] at h;cases h),λ _=>⟨υ,l,i,e,hK υ _ l i h1 h2⟩⟩
theorem ov{K:Int->Tr}(hX:E4 X)(i0:Inv X.H σ)(hm:oS σ m w g)(hs:bC σ m)(hc:nJ σ m w g b xs)(hk:k<64)(ho:iO (σ.nd m) (k:Int)=some o)(hr:Mi σ (w++[k]) g r)(h0:0<w.length->xs.length=1->(σ.nd r).kind=2)(hK:∀τ v,Le σ τ->Inv X.H τ->oS τ v w g->xe σ τ (T4 (σ.nd m) (k:Int) r) m v w g->cB (T4 (σ.nd m) (k:Int) r)->iO (τ.nd v) (k:Int)=some r->XT X (K v) n τ):XT X (Gt m (k:Int) r K) n σ:=by
 have hmk:cB (T4 (σ.nd m) (k:Int) r):=.inl (Qt hc hk ho hr.in.1);refine cS hm.in.2 (jL hX.al i0 (cq i0 hc hk ho hr h0) (yL hmk hm hs) λ υ n l1 i1 a=>?_);have hn:=oA (cl:=0) hmk a.nd a.way a.gb;refine hK υ n l1 i1 hn a hmk ?_;have hcn:=hn.qT i1 (by rw[a.nd];exact Qt hc hk ho hr.in.1);obtain⟨f1,f2,f3,_⟩:=hc.up hk ho hr.in.1
 rw[hcn.lk hk,a.nd];show nY (T4 (σ.nd m) (k:Int) r).bm.toNat (T4 (σ.nd m) (k:Int) r).xs k=some r;rw[f1,show(B7 b (rT xs (fP b k) r)).bm.toNat=b from Int.toNat_natCast _,show(B7 b (rT xs (fP b k) r)).xs=rT xs (fP b k) r from rfl,f3 k hk];unfold Lw;rw[if_pos rfl]
theorem wh{K:Int->Tr}(hX:E4 X)(hT:bX σ t)(i0:Inv X.H σ)(hi:qP σ i w g)(hm:oS σ m w g)(hs:bC σ m)(hc:nJ σ m w g b xs)(hk:k<64)(ho:iO (σ.nd m) (k:Int)=some o)(h2:(σ.nd o).kind=2)(hK:∀τ v,Le σ τ->Inv X.H τ->(v=0∨qP τ v (w++[k]) g)->(Ku X σ t g->σ.ce (σ.nd i).main=m->v≠0/\uy τ i k v/\FL t w.length σ τ)->XT X (K v) n τ):XT X (N7 t i m (k:Int) K) (n+20) σ:=by
 have hb:uV σ o (w++[k])/\(σ.nd o).gen<=g:=by
  have ho2:=ho;rw[hc.lk hk] at ho2;rcases hc.br k hk o ho2 with h|h
  ·rw[h2] at h;exact absurd h.1 (by decide)
  ·exact⟨⟨h.1,h.2.1⟩,h.2.2⟩
 have hg:=hi.Ez i0;refine cS hm.in.2 ?_;try dsimp only
 rw[show(iO (σ.nd m) (k:Int)).getD 0=o by rw[ho];rfl];refine pU hX.toaq (n:=n+10) hT i0 (g:=(σ.nd o).gen) ⟨hb.1,rfl⟩ λ τ v l1 i1 hv hsv fr=>cS (by have:=l1.len;have:=hi.in.2;omega) ?_;have hi1:=hi.up l1;try dsimp only
 rw[hi1.2];refine Bc hX i1 hg.1 (by have:=l1.gen;omega) E0r hv hsv hb.2 λ υ j l2 i2 hj aj=>?_;have l12:=l1.trans i0 i1 l2;have ho2:iO (υ.nd m) (k:Int)=some o:=by rw[l12.nd hm.in.2];exact ho
 refine ov hX i2 (hm.up l12) (bC.up i0 hm.1 hs l12) (hc.upL l12) hk ho2 (.inr ⟨hj.1.1,hj.1.2,by rw[hj.2];exact Int.le_refl _⟩) (λ _ _=>hj.1.1) λ ρ n l3 i3 hn an hmk hlk=>?_;have l13:=l12.trans i0 i2 l3;refine C5 hX.toaq (hT.up l13) i3 (hi.up l13) hn λ χ ok l4 i4 hgr=>hK χ _ (l13.trans i0 i3 l4) i4 ?_ λ hso hma=>?_
 ·try dsimp only
  split;·exact .inr ((hj.up l3).up l4)
  ·exact .inl rfl
 ·have fo:=fr.s hso.b hso.k2;have hne:i≠o:=λ e=>by have h1:=hi.1.2;rw[e,hb.1.2] at h1;have:=congrArg List.length h1;simp at this
  have hmi:=i0.eG hi.1.1;have emi:τ.ce (σ.nd i).main=m:=(fo.2 _ hmi.1 hmi.2.1 (wj i0 hi.1.1 hb.1.1 hne) (λ q h=>by rw[hmi.2.2] at h;cases h)).trans hma;have fl1:FL t w.length σ τ:=(Nk hT i0 fo.2).less (by rw[hb.1.2];simp);have fl2:FL t w.length τ υ:=aj.fl (hT.up l1) i1;have fl3:FL t w.length υ ρ:=an.fl (hT.up l12) i2;have fl13:=(fl1.trans l1 fl2).trans l12 fl3;have hso3:=hso.fl i0 hT l13 fl13;have hml:m<=σ.len:=hm.in.2
  have hgc:GcS X ρ t i g m n:=⟨hso3.b,hso3.ro,hso3.k2,hso3.gen,by rw[l13.nd hi.in.2,an.ce (by have:=l12.cl;have:=hmi.2.1;omega),aj.ce (by have:=l1.cl;have:=hmi.2.1;omega)];exact emi,an.prev hmk,by rw[l13.nd hml];exact hm.1⟩;have r:=hgr hgc;rw[if_pos r.t];have ema:χ.ce (χ.nd i).main=n:=by rw[l4.nd (hi.up l13).in.2];exact r.ma
  have hj1:=hj.in;refine⟨by omega,⟨by rw[ema];exact r.st,by rw[ema,l4.nd hn.in.2];exact hlk⟩,fl13.trans l13 ((Nk (hT.up l13) i3 r.fr).less (by rw[(hi.up l13).1.2];exact Nat.le_refl _))⟩
end
end
end Go.Proofs.YtbajmaoegmbfgaaGreat
