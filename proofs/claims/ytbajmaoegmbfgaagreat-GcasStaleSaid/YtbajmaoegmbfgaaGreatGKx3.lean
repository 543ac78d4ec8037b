/- Merged. -/
import Derived.Test.YtbajmaoegmbfgaaGreatGKw5
set_option linter.unusedSimpArgs false
set_option linter.unusedVariables false
namespace Go.Proofs.YtbajmaoegmbfgaaGreat
section
open Go Go.RowKit Go.Ct
section
variable{X:Xp}{σ τ υ:Kw}{i m p g v:Int}{w:List Nat}{t:dL}{n:Nat}
structure RdF(X:Xp)(σ τ:Kw)(t:dL)(i v:Int):Prop where
 e:X.b=false->bA σ (σ.ce (σ.nd i).main)->τ=σ/\v=σ.ce (σ.nd i).main
 s:X.b=false->(σ.nd (σ.ce t.root)).kind=2->τ.ce (σ.nd i).main=v/\Ir σ τ i
 d:X.b=false->vw σ τ t
abbrev KR'(X:Xp)(σ:Kw)(t:dL)(i:Int)(w:List Nat)(g:Int)(K:Int->Tr)(n:Nat):Prop:=∀τ v,Le σ τ->Inv X.H τ->oS τ v w g->bA τ v->RdF X σ τ t i v->XT X (K v) n τ
def CmO(σ:Kw)(t:dL)(i m:Int):Prop:=t.ro=false/\(σ.nd (σ.ce t.root)).kind=2/\(σ.nd (σ.ce t.root)).gen=(σ.nd i).gen/\bQ (σ.nd (σ.ce (σ.nd m).prev))
theorem Fz{K:Int->Tr}(hX:X7 X)(hT:bW σ t)(i0:Inv X.H σ)(hi:qR σ i w g)(hm:oS σ m w g)(hc0:X.b=false->σ.ce (σ.nd i).main=m)
  (hK:∀τ v,Le σ τ->Inv X.H τ->oS τ v w g->bA τ v->(τ.ce (σ.nd i).main≠m∨bA τ m)->RdF X σ τ t i v->(X.b=false->CmO σ t i m->v=m)->XT X (K v) n τ):XT X (pJ t i m K) (n+9) σ:=by
 have hr:=hm.in
 refine cI hr.2 (oZ λ τ hg=>?_)
 have l1:=hg.le
 have i1:=hg.inv
 have e1:(τ.nd m).prev=(σ.nd m).prev:=by rw[l1.nd hr.2]
 have eni:(τ.nd i).main=(σ.nd i).main:=by rw[l1.nd hi.in.2]
 have hc1:1<=(σ.nd m).prev/\(σ.nd m).prev<=τ.cl/\τ.ct (σ.nd m).prev=.prev m:=by rw[<- e1];exact i1.jI (hm.up l1).1
 have hce:=i1.ce _ hc1.1 hc1.2.1
 have hp:=hce.prev m hc1.2.2
 have hhi:=hce.hi
 have hcm:X.b=false->τ.ce (τ.nd i).main=m:=λ hb=>by rw[hg.solo hb];exact hc0 hb
 try dsimp only
 split
 ·rename_i e0
  have hs:bA τ m:=by unfold bA;rw[e1];exact e0
  exact(hK τ m l1 i1 (hm.up l1) hs (.inr hs) ⟨λ hb _=>⟨hg.solo hb,(hc0 hb).symm⟩,λ hb _=>⟨by rw[<- eni];exact hcm hb,hg.we hb⟩,λ hb=>by rw[hg.solo hb];exact .refl σ t⟩ (λ _ _=>rfl)).mono (by omega)
 ·rename_i e0
  have hns:X.b=false->¬bA σ (σ.ce (σ.nd i).main):=λ hb h=>by
   rw[hc0 hb] at h
   rw[hg.solo hb] at e0
   exact e0 h
  have hKC:KC X τ i m w g (CmO σ t i m) K n:=λ υ u l2 i2 hu hs f=>hK υ u (l1.trans i0 i1 l2) i2 hu hs (by rw[<- eni];exact f.ok) ⟨λ hb h=>absurd h (hns hb),λ hb _=>⟨by rw[<- eni];exact(f.s hb).1,(hg.we hb).trans l1 (f.s hb).2⟩,λ hb=>by
   have e:=hg.solo hb
   have f2:=(f.s hb).2
   rw[e] at f2
   exact qe hT i0 f2⟩ f.c
  refine cI hhi ?_
  try dsimp only
  split
  ·rename_i hk
   have hpm:qL τ m (τ.ce (σ.nd m).prev):=by
    rcases hp.2 with h|h|h
    ·exact absurd h e0
    ·exact h
    ·exact absurd hk (jM (.inr (.inl h.1)))
   have hpend:O4 τ m (τ.ce (σ.nd m).prev):=⟨hp.1,hk,hpm,.inl (by rw[e1])⟩
   try dsimp only
   split
   ·exact(l7 hX i1 (hi.up l1) (hm.up l1) hcm hpend (λ _=>by rw[e1]) (λ _ h=>absurd h.1 (by rw[‹t.ro=true›];decide)) hKC).mono (by omega)
   ·refine yu hX (n:=n+3) (hT.up l1) i1 λ υ r l2 i2 hr2 hrt=>cI hr2.in.2 (cI ((hi.up l1).up l2).in.2 ?_)
    have eni2:(υ.nd i).main=(τ.nd i).main:=by rw[l2.nd (hi.up l1).in.2]
    have hmc:=i1.dO (hi.up l1).1.1
    have hpcl:=hpend.cell i1
    refine l7 (cm:=CmO σ t i m) hX i2 ((hi.up l1).up l2) ((hm.up l1).up l2) (λ hb=>?_) (hpend.up i1 i2 l2) (λ hb=>?_) (λ hb h=>?_) λ ρ u l3 i3 hu hs f=>?_
    ·rw[eni2,hrt.c hb _ hmc.1 hmc.2.1 (by rw[hmc.2.2];intro h;cases h) (λ d=>by rw[hmc.2.2];intro h;cases h)]
     exact hcm hb
    ·rw[l2.nd (hm.up l1).in.2,hrt.c hb _ hpcl.1 hpcl.2.1 (by rw[hpcl.2.2];intro h;cases h) (λ d=>by rw[hpcl.2.2];intro h;cases h),e1]
    ·have e:=hg.solo hb
     subst e
     have e2:=hrt.s hb h.2.1
     obtain⟨e3,e4⟩:=e2
     subst e3
     rw[e4,h.2.2.1]
     exact beq_self_eq_true _
    ·refine hK ρ u ((l1.trans i0 i1 l2).trans i0 i2 l3) i3 hu hs (by rw[<- eni,<- eni2];exact f.ok) ⟨λ hb h=>absurd h (hns hb),λ hb hk2=>?_,λ hb=>?_⟩ ?_
     ·have e:=hg.solo hb
      subst e
      have e2:=(hrt.s hb hk2).1
      subst e2
      exact f.s hb
     ·have e:=hg.solo hb
      subst e
      exact(hrt.d hb).we hT i0 i2 l2 (f.s hb).2
     ·exact f.c
  ·rename_i hk
   rcases hp.2 with h|h|h
   ·exact absurd h e0
   ·exact absurd h.1.1 hk
   ·exact(vi hX i1 (hi.up l1) (hm.up l1) hcm (by unfold bA;rw[e1];exact e0) h.1 h.2 (λ hb hc=>by have e:=hg.solo hb;subst e;exact absurd hc.2.2.2 (jM (.inr (.inl h.1)))) hKC).mono (by omega)
theorem pA{K:Int->Tr}(hX:X7 X)(hT:bW σ t)(i0:Inv X.H σ)(hi:qR σ i w g)(hK:KR' X σ t i w g K n):XT X (nC t i K) (n+10) σ:=by
 refine cI hi.in.2 (oZ λ τ hg=>?_)
 have l1:=hg.le
 have i1:=hg.inv
 have hi1:=hi.up l1
 have hm:=hi1.ju i1
 have eni:τ.nd i=σ.nd i:=l1.nd hi.in.2
 rw[eni] at hm
 refine Fz hX (hT.up l1) i1 hi1 hm (λ hb=>by rw[eni]) λ υ u l2 i2 hu hs _ f _=>hK υ u (l1.trans i0 i1 l2) i2 hu hs ?_
 refine⟨λ hb=>?_,λ hb=>?_,λ hb=>?_⟩<;>have e:=hg.solo hb<;>subst e
 ·exact f.e hb
 ·exact f.s hb
 ·exact f.d hb
structure DcF(X:Xp)(σ τ:Kw)(t:dL)(v:Int):Prop where
 a:X.b=false->σ.ce t.root=v->σ.ce (σ.nd v).status=0->(τ.ce t.root=v/\τ.ce (σ.nd v).status≠0)∨(τ.ce t.root=(σ.nd v).bJ/\τ.ce (σ.nd v).status=2)
 b:X.b=false->σ.ce t.root=v->σ.ce (σ.nd v).status=0->σ.ce (σ.nd (σ.nd v).bJ).main=(σ.nd v).exp->bA σ (σ.nd v).exp->τ.ce t.root=v/\τ.ce (σ.nd v).status=1
theorem F6{K:Tr}(hX:X7 X)(hT:bW σ t)(hro:t.ro=false)(i0:Inv X.H σ)(h:(σ.nd v).kind=8)(hK:∀τ,Le σ τ->Inv X.H τ->DcF X σ τ t v->XT X K n τ):XT X (xY t v K) (n+11) σ:=by
 have hd:=i0.desc h
 refine cI hd.1 (pA hX hT i0 (g:=(σ.nd (σ.nd v).bJ).gen) ⟨hd.2.1,rfl⟩ λ τ m l1 i1 _ _ fr=>cI (by have:=l1.len;omega) (cI (by have:=l1.len;omega) ?_))
 have en:τ.nd v=σ.nd v:=l1.nd hd.1
 have h8:(τ.nd v).kind=8:=by rw[en];exact h
 have hd1:=i1.desc h8
 have hrs:t.root≠(σ.nd v).status:=λ e=>by
  have h3:=hd.2.2.2.2.2
  rw[<- e,hT.rw hro] at h3;cases h3
 refine D0 hd1.2.2.2.1 hd1.2.2.2.2.1 i1 (λ ρ l3 i3 _=>Ot i1 h8 (by split<;>simp) l3 i3) (λ ρ l _ _=>hX.r0 _ _ _ _ (λ i' h=>?_) (λ h=>?_)) (λ ρ b l3 i3 hf=>hK ρ (l1.trans i0 i1 l3) i3 ⟨λ hb h1 h2=>?_,λ hb h1 h2 h3 h4=>?_⟩)
 ·rw[l.ct _ hd1.2.2.2.2.1,hd1.2.2.2.2.2] at h;cases h
 ·rw[l.ct _ hd1.2.2.2.2.1,hd1.2.2.2.2.2] at h;cases h
 ·have hds:=fr.d hb v h1 h h2
  rw[en] at hf
  rcases hf.s hb with⟨_,_,hs⟩|⟨h5,h6⟩
  ·rcases hds with⟨d1,d2⟩|⟨d1,d2⟩
   ·refine .inl ⟨by rw[hs.other _ hrs];exact d1,?_⟩
    rw[hs.at']
    split<;>decide
   ·have := ‹τ.ce (σ.nd v).status=0›
    rw[d2] at this
    exact absurd this (by decide)
  ·subst h6
   rcases hds with⟨d1,d2⟩|⟨d1,d2⟩
   ·exact absurd d2 (hf.f h5)
   ·exact .inr ⟨d1,d2⟩
 ·have e:=fr.e hb (by rw[h3];exact h4)
  obtain⟨e1,e2⟩:=e
  subst e1
  rw[h3] at e2
  rcases hf.s hb with⟨_,_,hs⟩|⟨h5,h6⟩
  ·refine⟨by rw[hs.other _ hrs];exact h1,?_⟩
   rw[hs.at',if_pos e2]
  ·subst h6
   exact absurd h2 (hf.f h5)
structure HpF(X:Xp)(σ τ:Kw)(t:dL)(r:Int):Prop where
 r:X.b=false->τ.ce t.root=r
 e:X.b=false->(σ.nd (σ.ce t.root)).kind=2->τ=σ
theorem vG{K:Int->Tr}(hX:X7 X)(hT:bW σ t)(i0:Inv X.H σ)(hK:∀τ r,Le σ τ->Inv X.H τ->uF τ r []->HpF X σ τ t r->XT X (K r) n τ):XT X (uK t K) (n+15) σ:=by
 refine oZ λ τ hg=>?_
 have l1:=hg.le
 have i1:=hg.inv
 have hT1:=hT.up l1
 have hv:=jc hT1 i1
 generalize hve:τ.ce t.root=v at hv ⊢
 refine cI hv.1 ?_
 try dsimp only
 split
 ·rename_i h2
  rcases hv.2 with h|h
  ·exact(hK τ v l1 i1 h ⟨λ _=>hve,λ hb _=>hg.solo hb⟩).mono (by omega)
  ·rw[h.1] at h2;exact absurd h2 (by decide)
 ·rename_i h2
  have h8r:(τ.nd v).kind=8/\t.ro=false:=by
   rcases hv.2 with h|h
   ·exact absurd h.1 h2
   ·exact h
  obtain⟨h8,hro⟩:=h8r
  have hno:X.b=false->¬(σ.nd (σ.ce t.root)).kind=2:=λ hb h=>by
   have e:=hg.solo hb
   subst e
   rw[hve] at h;exact h2 h
  refine cI hv.1 (oZ λ υ hg2=>?_)
  have l2:=hg2.le
  have i2:=hg2.inv
  have en:υ.nd v=τ.nd v:=l2.nd hv.1
  have h8':(υ.nd v).kind=8:=by rw[en];exact h8
  have hv':v<=υ.len:=by have:=l2.len;have:=hv.1;omega
  have hd2:=i2.desc h8'
  have l12:=l1.trans i0 i1 l2
  have hve2:X.b=false->υ.ce t.root=v:=λ hb=>by rw[hg2.solo hb];exact hve
  rw[<- en]
  try dsimp only
  split
  ·rename_i hs
   refine F6 hX (n:=n+2) (hT.up l12) hro i2 h8' λ ρ l3 i3 hdc=>cI (by have:=l3.len;omega) (oZ λ χ hg4=>?_)
   have l4:=hg4.le
   have i4:=hg4.inv
   have e3:ρ.nd v=υ.nd v:=l3.nd hv'
   have e4:χ.nd v=υ.nd v:=by rw[l4.nd (by have:=l3.len;omega),e3]
   rw[e3]
   refine Jp hX (((hT.up l12).up l3).up l4) hro i4 (by rw[e4];exact h8') (λ hb=>?_) λ ψ l5 i5 hI _ hc=>?_
   ·have st2:υ.ce (υ.nd v).status=0:=by rw[hg2.solo hb] at hs ⊢;exact hs
    rcases hdc.a hb (hve2 hb) st2 with⟨h5,_⟩|⟨h5,h6⟩
    ·exact .inl (by rw[hg4.solo hb];exact h5)
    ·refine .inr ?_
     rw[hg4.solo hb] at e4 ⊢
     rw[h6,if_neg (by decide),h5,e4]
   ·exact(hK ψ _ (((l12.trans i0 i2 l3).trans i0 i3 l4).trans i0 i4 l5) i5 hI ⟨λ hb=>(hc hb).1,λ hb h=>absurd h (hno hb)⟩).mono (by omega)
  ·rename_i hs
   exact(Jp hX (hT.up l12) hro i2 h8' (λ hb=>.inl (hve2 hb)) λ ψ l5 i5 hI _ hc=>hK ψ _ (l12.trans i0 i2 l5) i5 hI ⟨λ hb=>(hc hb).1,λ hb h=>absurd h (hno hb)⟩).mono (by omega)
end
end
section
open Go Go.RowKit Go.Ct
section
variable{X:Xp}{σ τ υ:Kw}{i m p g v:Int}{w:List Nat}{t:dL}{n:Nat}
structure GcS(X:Xp)(σ:Kw)(t:dL)(i g o m:Int):Prop where
 b:X.b=false
 ro:t.ro=false
 k2:(σ.nd (σ.ce t.root)).kind=2
 gen:(σ.nd (σ.ce t.root)).gen=g
 ma:σ.ce (σ.nd i).main=o
 pr:σ.ce (σ.nd m).prev=o
 mo:bQ (σ.nd o)
structure GcR(σ τ:Kw)(i m:Int)(bb:Bool):Prop where
 t:bb=true
 ma:τ.ce (σ.nd i).main=m
 st:bA τ m
 fr:Ir σ τ i
theorem Bs{o:Int}{K:Bool->Tr}(hX:X7 X)(hT:bW σ t)(i0:Inv X.H σ)(hi:qR σ i w g)(hn:oS σ m w g)
  (hK:∀τ bb,Le σ τ->Inv X.H τ->(GcS X σ t i g o m->GcR σ τ i m bb)->XT X (K bb) n τ):XT X (jT t i o m K) (n+10) σ:=by
 have hc:=i0.dO hi.1.1
 refine cI hi.in.2 (D0 hc.1 hc.2.1 i0 (λ τ l1 i1 _=>O5 i0 hi hn l1 i1) (λ υ l i1 _=>?_) (λ τ b l1 i1 hf=>?_))
 ·have:=hX.r2 υ t i w g m (λ v=>K (v==m)) i1 (hT.up l) (hi.up l) (hn.up l)
  rw[l.nd hi.in.2] at this
  exact this
 ·try dsimp only
  have eni:τ.nd i=σ.nd i:=l1.nd hi.in.2
  have enm:τ.nd m=σ.nd m:=l1.nd hn.in.2
  have hne:=Vz i0 hn.1 hi.1.1
  split
  ·rename_i hb
   subst hb
   refine Fz hX (hT.up l1) i1 (hi.up l1) (hn.up l1) (λ _=>by rw[eni];exact hf.t rfl) λ υ u l2 i2 hu hs _ f hcm=>hK υ _ (l1.trans i0 i1 l2) i2 λ hg=>?_
   rcases hf.s hg.b with⟨_,_,h⟩|⟨h1,_⟩
   ·have hroot:=hT.rw hg.ro
    have hrne:t.root≠(σ.nd i).main:=λ e=>by
     rw[e,hc.2.2] at hroot;cases hroot
    have er:τ.ce t.root=σ.ce t.root:=h.other _ hrne
    have enr:τ.nd (τ.ce t.root)=σ.nd (σ.ce t.root):=by rw[er];exact l1.nd (i0.ce _ hT.1 hT.2.1).hi
    have hk2:(τ.nd (τ.ce t.root)).kind=2:=by rw[enr];exact hg.k2
    have hcmo:CmO τ t i m:=⟨hg.ro,hk2,by rw[enr,eni,hi.2];exact hg.gen,by
     rw[enm,h.other _ hne,hg.pr,l1.nd (gP hg.mo).2];exact hg.mo⟩
    have ev:=hcm hg.b hcmo
    have fs:=f.s hg.b hk2
    rw[ev] at hs fs
    exact⟨by rw[ev];exact beq_self_eq_true m,by rw[<- eni];exact fs.1,hs,(Es h (.inl hc.2.2)).trans l1 fs.2⟩
   ·cases h1
  ·rename_i hb
   have hb':b=false:=by simpa using hb
   subst hb'
   refine(hK τ false l1 i1 λ hg=>?_).mono (by omega)
   rcases hf.s hg.b with⟨h1,_,_⟩|⟨_,h⟩
   ·cases h1
   ·subst h
    exact absurd hg.ma (hf.f rfl)
structure Ec(X:Xp):Prop extends X7 X where
 al:X.al=false
structure RcS(X:Xp)(σ:Kw)(t:dL)(o e:Int):Prop where
 b:X.b=false
 ro:σ.ce t.root=o
 ma:σ.ce (σ.nd o).main=e
 st:bA σ e
theorem Mc{o e nw:Int}{K:Bool->Tr}(hX:Ec X)(hT:bW σ t)(hro:t.ro=false)(i0:Inv X.H σ)(ho:uF σ o [])(hn:uF σ nw [])(he1:1<=e)(he2:e<=σ.len)
  (hK:∀τ bb,Le σ τ->Inv X.H τ->(RcS X σ t o e->bb=true)->XT X (K bb) n τ):XT X (vR t o e nw K) (n+14) σ:=by
 refine jB (w:=[]) (g:=0) hX.al i0 (Z6 i0 ho he1 he2 hn) ⟨⟨Int.le_refl _,bK _⟩,λ k=>dG (a:=8) (b:=2) k,λ k=>absurd k (jM (.inr (.inr (.inr (.inl rfl))))),λ _=>rfl⟩ (λ υ d l1 i1 af=>?_)
 have h8:(υ.nd d).kind=8:=by rw[af.nd];rfl
 have hdo:(υ.nd d).bJ=o/\(υ.nd d).exp=e:=by rw[af.nd];exact⟨rfl,rfl⟩
 have hd2:=af.r2
 have hT1:=hT.up l1
 have hst0:=af.stat rfl
 refine D0 hT1.1 hT1.2.1 i1 (λ τ l2 i2 _=>?_) (λ ρ l i2 _=>?_) (λ τ b l2 i2 hf=>?_)
 ·have e:=(hT1.up l2).rw hro
  refine⟨by have:=af.r1;omega,by have:=l2.len;omega,λ i' h=>?_,λ m' h=>?_,λ d h=>?_,λ h=>.inr (by rw[l2.nd hd2];exact h8),λ h=>?_⟩<;>rw[e] at h<;>cases h
 ·exact hX.r4 ρ t d (λ s _=>K (s==1)) i2 (hT1.up l) hro (by rw[l.nd hd2];exact h8)
 ·have en:τ.nd d=υ.nd d:=l2.nd hd2
  have h8':(τ.nd d).kind=8:=by rw[en];exact h8
  have hd2':d<=τ.len:=by have:=l2.len;omega
  have hdd:=i2.desc h8'
  have l12:=l1.trans i0 i1 l2
  have hrs:t.root≠(υ.nd d).status:=λ e=>by
   have h3:=hdd.2.2.2.2.2
   rw[en,<- e,(hT.up l12).rw hro] at h3;cases h3
  try dsimp only
  split
  ·rename_i hb
   have hsol:X.b=false->τ.ce t.root=d/\τ.ce (τ.nd d).status=0/\jy X.H υ τ t.root d/\υ.ce t.root=o:=λ hb2=>by
    rcases hf.s hb2 with⟨_,h2,h⟩|⟨h1,_⟩
    ·exact⟨h.at',by rw[en,h.other _ (Ne.symm hrs)];exact hst0,h,h2⟩
    ·rw[hb] at h1;cases h1
   refine F6 hX.toX7 (n:=n+2) (hT1.up l2) hro i2 h8' λ ρ l3 i3 hdc=>cI (by have:=l3.len;omega) (oZ λ χ hg4=>?_)
   have l4:=hg4.le
   have i4:=hg4.inv
   have e3:ρ.nd d=τ.nd d:=l3.nd hd2'
   have e4:χ.nd d=τ.nd d:=by rw[l4.nd (by have:=l3.len;omega),e3]
   rw[e3]
   refine Jp hX.toX7 (((hT1.up l2).up l3).up l4) hro i4 (by rw[e4];exact h8') (λ hb2=>?_) λ ψ l5 i5 _ _ _=>?_
   ·obtain⟨s1,s2,_,_⟩:=hsol hb2
    rcases hdc.a hb2 s1 s2 with⟨h5,_⟩|⟨h5,h6⟩
    ·exact .inl (by rw[hg4.solo hb2];exact h5)
    ·refine .inr ?_
     rw[hg4.solo hb2] at e4 ⊢
     rw[h6,if_neg (by decide),h5,e4]
   ·refine(hK ψ _ (((l12.trans i0 i2 l3).trans i0 i3 l4).trans i0 i4 l5) i5 λ hr=>?_).mono (by omega)
    obtain⟨s1,s2,s3,_⟩:=hsol hr.b
    have hmc:=i0.dO ho.1
    have hrm:t.root≠(σ.nd o).main:=λ e=>by
     have h3:=hmc.2.2
     rw[<- e,hT.rw hro] at h3;cases h3
    have hcur:=(i0.ce _ hmc.1 hmc.2.1).main o hmc.2.2
    rw[hr.ma] at hcur
    have hmk:=hcur.2.1
    have h7:=hdc.b hr.b s1 s2 (by rw[en,hdo.1,hdo.2,l12.nd ho.in.2,s3.other _ (Ne.symm hrm),af.ce hmc.2.1];exact hr.ma) (by rw[en,hdo.2];exact bA.up i0 hmk hr.st l12)
    rw[hg4.solo hr.b,h7.2]
    rfl
  ·rename_i hb
   refine(hK τ false l12 i2 λ hr=>?_).mono (by omega)
   have hb':b=false:=by simpa using hb
   subst hb'
   rcases hf.s hr.b with⟨h1,_,_⟩|⟨_,h⟩
   ·cases h1
   ·subst h
    exact absurd (by rw[af.ce hT.2.1];exact hr.ro) (hf.f rfl)
def wg(i m:Int)(σ:Kw):Prop:=σ.ce (σ.nd i).main≠m∨bA σ m
def OkR(c d:Int)(σ:Kw):Prop:=σ.ce c≠d
def X0(H:ByteArray->Nat)(G:Kw->Prop):Xp:=⟨H,λ _ _=>False,λ _=>False,0,G,λ _ _ _ _=>True,true,true⟩
theorem fg(H:ByteArray->Nat)(G:Kw->Prop):X7 (X0 H G):=⟨λ _ _ _ _ _ _=>trivial,λ _ _ _ _ _ _ _=>trivial,λ _ _ _ _ _ _ _ _ _ _ _=>trivial,λ _ _ _ _ _ _=>trivial,λ _ _ _ _ _ _ _ _=>trivial⟩
def RF(H:ByteArray->Nat)(c v:Int)(t:Tr)(υ:Kw):Prop:=(∀i,υ.ct c=.main i->bA υ v∨∃n,XT (X0 H (wg i v)) t n υ)/\(υ.ct c=.root->(υ.nd v).kind=2∨∃n,XT (X0 H (OkR c v)) t n υ)
theorem W7{X:Xp}(hR:X.R=RF X.H):X7 X:=by
 refine⟨λ c v t υ h1 h2=>?_,λ c v t υ i h1 h2=>?_,λ υ t i w g m K i0 hT hi hm=>?_,λ c v t υ h1 h2=>?_,λ υ t d K i0 hT hro h8=>?_⟩<;>rw[hR]
 ·exact⟨λ i h=>absurd h (h1 i),λ h=>absurd h h2⟩
 ·exact⟨λ i' h=>.inl h2,λ h=>by rw[h1] at h;cases h⟩
 ·have hc:=i0.dO hi.1.1
  refine⟨λ i' h=>.inr ⟨0+9,?_⟩,λ h=>by rw[hc.2.2] at h;cases h⟩
  rw[hc.2.2] at h
  cases h
  refine Fz (X:=X0 X.H (wg i m)) (fg _ _) hT i0 hi hm (λ h=>nomatch h) λ τ v l1 i1 _ _ hok _ _=>XT.stop (show wg i m τ from ?_)
  unfold wg
  rw[l1.nd hi.in.2];exact hok
 ·exact⟨λ i h=>(by rw[h1] at h;cases h),λ _=>.inl h2⟩
 ·have hr:=hT.rw hro
  refine⟨λ i h=>(by rw[hr] at h;cases h),λ _=>.inr ⟨2+11,?_⟩⟩
  have hdd:=i0.desc h8
  refine F6 (X:=X0 X.H (OkR t.root d)) (fg _ _) (n:=0+2) hT hro i0 h8 λ ρ l3 i3 _=>cI (by have:=l3.len;have:=hdd.1;omega) (oZ λ χ hg4=>?_)
  have l4:=hg4.le
  refine Jp (fg _ _) ((hT.up l3).up l4) hro hg4.inv (by rw[l4.nd (by have:=l3.len;have:=hdd.1;omega),l3.nd hdd.1];exact h8) (λ h=>nomatch h) λ ψ _ _ _ h _=>XT.stop h
end
end
section
open Go.Ct
theorem bs(h:Nat)(level:Int):∃k:Nat,k<64/\gY h level=(k:Int):=by
 unfold gY
 try dsimp only
 split
 ·exact⟨0,by decide,rfl⟩
 ·exact⟨_,yM _ _,rfl⟩
theorem Bi{h l:Nat}(hl:l<=10):gY h ((l:Nat):Int)=((sl h l:Nat):Int):=by
 unfold gY
 rw[if_neg (by omega),Int.toNat_natCast]
theorem Kn{h k:Nat}{w:List Nat}(hu:iO h (w++[k])):iO h w:=λ j hj=>by
 have:=hu j (by simp;omega)
 rw[this,iM,List.getElem?_append_left hj,<- iM]
theorem Jy(h:Nat):iO h []:=λ k hk=>absurd hk (Nat.not_lt_zero k)
theorem tX{h:Nat}{w:List Nat}(hu:iO h w):iO h (w++[sl h w.length]):=λ j hj=>by
 rw[List.length_append,List.length_singleton] at hj
 by_cases e:j<w.length
 ·rw[hu j e,iM,iM,List.getElem?_append_left e]
 ·have:j=w.length:=by omega
  subst this
  simp[iM]
theorem Xi{xs:List Int}{p:Nat}{r b:Int}(hp:p<xs.length)(h:qT xs p r=[b]):b=r/\xs.length=1:=by
 have hl:=wA hp r
 rw[h] at hl
 have h1:xs.length=1:=by simpa using hl.symm
 have hp0:p=0:=by omega
 subst hp0
 have:=L8 (xs:=xs) (p:=0) hp r 0
 rw[h,if_pos rfl] at this
 exact⟨by simpa using this,h1⟩
section
variable{H:ByteArray->Nat}{Q:Rs->Kw->Prop}{σ τ υ:Kw}{i m p g:Int}{w:List Nat}{t:dL}
theorem mB{v:Nv}{k b:Int}(h:lA v k=some b):v.kind=3:=by
 unfold lA at h
 have:=Ap (show(L5 v.nd v.xs v.ys v.bm.toNat k).isSome=true by rw[h];rfl)
 exact this.1.1
theorem oD{r cl:Int}{n:Nv}{c:Nat}(hm:bQ n)(e:σ.nd r=cK n c)(hw:σ.way r=w)(hg:σ.gb r=g):oS σ r w g:=⟨by rw[e];exact hm,hw,by rw[hg];exact Int.le_refl _⟩
theorem xF{n:Nv}(hn:bQ n)(h:oS σ m w g)(hs:bA σ m):Xw σ n m w g :=
 ⟨⟨by have:=h.in;omega,h.in.2⟩,λ k=>by unfold bQ at hn;omega,λ _=>.inr ⟨h,hs⟩,λ k=>by unfold bQ at hn;omega⟩
theorem nB.upL{b:Nat}{xs:List Int}(h:nB σ m w g b xs)(l:Le σ τ):nB τ m w g b xs:=by
 have hr:=dJ (N:=σ.mm.nodes) (i:=m) (by have:=h.kd;simp only[Kw.nd] at this;rw[this];decide)
 have e:=l.nd hr.2
 refine⟨by rw[e];exact h.kd,by rw[e];exact h.bm,by rw[e];exact h.el,by rw[e];exact h.cv,h.bv,h.wl,λ k hk r hr=>(h.br k hk r hr).up l,λ h0=>⟨(h.ne h0).1,λ b hb=>?_⟩⟩
 have:=(h.ne h0).2 b hb
 rw[l.nd (dJ (N:=σ.mm.nodes) (i:=b) (by rw[this];decide)).2];exact this
theorem a9{b:Nat}{xs:List Int}(i0:Inv H σ)(hc:nB σ m w g b xs){k:Nat}(hk:k<64){o r:Int}(ho:lA (σ.nd m) (k:Int)=some o)(hr:Ni σ (w++[k]) g r)(h0:0<w.length->xs.length=1->(σ.nd r).kind=2):kR H σ (Tn (σ.nd m) (k:Int) r) w g:=by
 obtain⟨e,h1,h2,h3⟩:=hc.up hk ho hr.in.1
 rw[e]
 refine nV i0 h1 (λ j hj v hv=>?_) hc.wl (λ hw=>⟨λ e=>?_,λ b hb=>?_⟩)
 ·rw[h2 j hj] at hv
  unfold Jg at hv
  split at hv
  ·rename_i ej;cases hv;rw[ej];exact hr
  ·exact hc.br j hj v hv
 ·have:=wA h3 r
  rw[e] at this
  simp at this
  omega
 ·obtain⟨e1,e2⟩:=Xi h3 hb
  rw[e1];exact h0 hw e2
theorem Rn{b:Nat}{xs:List Int}(hc:nB σ m w g b xs){k:Nat}(hk:k<64){o r:Int}(ho:lA (σ.nd m) (k:Int)=some o)(hr:1<=r):(Tn (σ.nd m) (k:Int) r).kind=3:=by
 rw[(hc.up hk ho hr).1];rfl
theorem qR.Ls(i0:Inv H σ)(h:qR σ i w g):1<=g/\g<=σ.mm.gen/\w.length<=11:=by
 have hn:=i0.nd i h.in.1 h.in.2
 have h2:=hn.k2 h.1.1
 have hv:=hn.valid.2.2.2.2
 have hg:=hn.gen
 rw[h.2] at hg
 refine⟨?_,hg,by rw[<- h.1.2];exact h2.1⟩
 have hk:=h.1.1
 rcases hv with h|h|h|h|h|h|h
 ·exact absurd (hk.symm.trans h) (by decide)
 ·have:=h.2;rw[<- ‹qR σ i w g›.2];exact this
 ·exact absurd (hk.symm.trans h.1) (by decide)
 ·rcases h.1 with h|h<;>exact absurd (hk.symm.trans h) (by decide)
 ·exact absurd (hk.symm.trans h.1) (by decide)
 ·exact absurd (hk.symm.trans h.1) (by decide)
 ·exact absurd (hk.symm.trans h.1) (by decide)
theorem ml{K:Int->Tr}{g':Int}(i0:Inv H σ)(h1:1<=g)(h2:g<=σ.mm.gen)(hw:w.length<=11)(hm:oS σ m w g')(hg:g'<=g)(hK:∀τ j,Le σ τ->Inv H τ->qR τ j w g->WT H Q (K j) τ):WT H Q (.alloc (nJ g) m K) σ :=
 Oy (w:=w) (g:=0) i0 (Bg hw h1 h2) ⟨⟨by have:=hm.in;omega,hm.in.2⟩,λ _=>hm.le hg,λ k=>absurd k (jM (.inr (.inr (.inl rfl)))),λ k=>dG (a:=2) (b:=8) k⟩ λ υ j cl l1 i1 _ _ e1 e2 _ _ _=>hK υ j l1 i1 ⟨⟨by rw[e1];rfl,e2⟩,by rw[e1];rfl⟩
theorem ll{v:Nv}(h:v.kind=5):unV v=Ga v.hash v.key v.val:=by
 unfold unV Hz
 rw[if_pos (show v.nd.kind=5 from h)]
 rfl
theorem Lb{b:Nat}{xs:List Int}(h:BV b xs):Lr (Dr b xs)=if xs.length=1 then some (xs.getD 0 0) else none:=by
 have hcv:CV (Dr b xs).nd xs []:=by
  have:=yq h (none,0)
  exact aBp.1 this
 unfold Lr Zt
 by_cases e:xs.length=1
 ·rw[if_pos e,if_pos ⟨hcv,e⟩];rfl
 ·rw[if_neg e,if_neg λ h=>e h.2]
theorem fq{b:Nat}{xs:List Int}{s:Nv}{level:Int}(h:BV b xs):xj (Dr b xs) level s=if xs.length=1/\0<level/\s.kind=4 then tmV s else Dr b xs:=by
 have e:S6 (Dr b xs).nd (Dr b xs).xs (Dr b xs).ys level s.nd=decide (xs.length=1/\0<level/\s.kind=4):=by
  unfold S6
  have h1:Zt (Dr b xs).nd (Dr b xs).xs (Dr b xs).ys=Lr (Dr b xs):=rfl
  rw[h1,Lb h]
  refine decide_eq_decide.2 ⟨λ h=>⟨?_,h.2⟩,λ h=>⟨?_,h.2⟩⟩
  ·have:=h.1
   split at this
   ·assumption
   ·cases this
  ·rw[if_pos h.1];rfl
 unfold xj
 rw[e]
 by_cases hx:xs.length=1/\0<level/\s.kind=4
 ·rw[if_pos hx,if_pos (decide_eq_true hx)]
 ·rw[if_neg hx,if_neg (by rw[decide_eq_false hx];decide)]
structure aBE(H:ByteArray->Nat)(v:Nv):Prop where
 sz:v.key.size<=64
 ha:H v.key=v.hash.toNat
 hn:v.hash=((v.hash.toNat:Nat):Int)
 hl:v.hash.toNat<18446744073709551616
theorem Inv.leaf(i0:Inv H σ){s:Int}(h:(σ.nd s).kind=4∨(σ.nd s).kind=5):aBE H (σ.nd s):=by
 have hr:=dJ (N:=σ.mm.nodes) (i:=s) (by rcases h with h|h<;>(simp only[Kw.nd] at h;rw[h];decide))
 have hn:=i0.nd s hr.1 hr.2
 obtain⟨b,hb1,hb2⟩:=hn.bd.hash
 refine⟨?_,?_,by omega,by omega⟩
 ·have hv:=hn.valid.2.2.2.2
  rcases hv with h'|h'|h'|h'|h'|h'|h'
  ·have:(σ.nd s).kind=1:=h';omega
  ·have:(σ.nd s).kind=2:=h'.1;omega
  ·have:(σ.nd s).kind=3:=h'.1;omega
  ·exact h'.2
  ·have:(σ.nd s).kind=6:=h'.1;omega
  ·have:(σ.nd s).kind=8:=h'.1;omega
  ·have:(σ.nd s).kind=7:=h'.1;omega
 ·rcases h with h|h
  ·exact hn.k4 h
  ·exact(hn.k5 h).2.2.1
theorem rl{v:Nv}(h:aBE H v):Ga v.hash v.key v.val=Ga ((v.hash.toNat:Nat):Int) v.key v.val:=by rw[<- h.hn]
end
end
end Go.Proofs.YtbajmaoegmbfgaaGreat
