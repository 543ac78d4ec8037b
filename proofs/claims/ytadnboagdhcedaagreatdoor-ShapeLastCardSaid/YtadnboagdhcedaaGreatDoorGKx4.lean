/- Procedures among others or alone: GCAS, RDCSS; who settles what. -/
import Derived.Test.YtadnboagdhcedaaGreatDoorGKx2
import Derived.Test.YtadnboagdhcedaaGreatDoorGKw8

set_option linter.unusedSimpArgs false
set_option linter.unusedVariables false
namespace Go.Proofs.YtadnboagdhcedaaGreatDoor
section
open Go Go.RowKit Go.Ct
section
variable{X:Xp}{σ τ υ:Kw}{i m p g v:Int}{w:List Nat}{t:eQ}{n:Nat}
structure zs(X:Xp)(σ:Kw)(t:eQ)(i g o m:Int):Prop where
 b:X.b=false
 ro:t.ro=false
 k2:(σ.nd (σ.ce t.root)).kind=2
 gen:(σ.nd (σ.ce t.root)).gen=g
 ma:σ.ce (σ.nd i).main=o
 pr:σ.ce (σ.nd m).prev=o
 mo:bU (σ.nd o)
structure GcR(σ τ:Kw)(i m:Int)(bb:Bool):Prop where
 t:bb=true
 ma:τ.ce (σ.nd i).main=m
 st:aV τ m
 fr:Eo σ τ i
theorem zL{o:Int}{K:Bool->Tr}(hX:Sk X)(hT:bR σ t)(i0:Inv X.H σ)(hi:mU σ i w g)(hn:lP σ m w g)
  (hK:∀τ bb,Le σ τ->Inv X.H τ->(zs X σ t i g o m->GcR σ τ i m bb)->XT X (K bb) n τ):XT X (mA t i o m K) (n+10) σ:=by
 have hc:=i0.dI hi.1.1
 refine cG hi.in.2 (Am hc.1 hc.2.1 i0 (λ τ l1 i1 _=>Ld i0 hi hn l1 i1) (λ υ l i1 _=>?_) (λ τ b l1 i1 hf=>?_))
 ·have:=hX.r2 υ t i w g m (λ v=>K (v==m)) i1 (hT.up l) (hi.up l) (hn.up l)
  rw[l.nd hi.in.2] at this
  exact this
 ·try dsimp only
  have eni:τ.nd i=σ.nd i:=l1.nd hi.in.2
  have enm:τ.nd m=σ.nd m:=l1.nd hn.in.2
  have hne:=Rn i0 hn.1 hi.1.1
  split
  ·rename_i hb
   subst hb
   refine Dx hX (hT.up l1) i1 (hi.up l1) (hn.up l1) (λ _=>by rw[eni];exact hf.t rfl) λ υ u l2 i2 hu hs _ f hcm=>hK υ _ (l1.trans i0 i1 l2) i2 λ hg=>?_
   rcases hf.s hg.b with⟨_,_,h⟩|⟨h1,_⟩
   ·have hroot:=hT.rw hg.ro
    have hrne:t.root≠(σ.nd i).main:=λ e=>by
     rw[e,hc.2.2] at hroot;cases hroot
    have er:τ.ce t.root=σ.ce t.root:=h.other _ hrne
    have enr:τ.nd (τ.ce t.root)=σ.nd (σ.ce t.root):=by rw[er];exact l1.nd (i0.ce _ hT.1 hT.2.1).hi
    have hk2:(τ.nd (τ.ce t.root)).kind=2:=by rw[enr];exact hg.k2
    have hcmo:ya τ t i m:=⟨hg.ro,hk2,by rw[enr,eni,hi.2];exact hg.gen,by
     rw[enm,h.other _ hne,hg.pr,l1.nd (gC hg.mo).2];exact hg.mo⟩
    have ev:=hcm hg.b hcmo
    have fs:=f.s hg.b hk2
    rw[ev] at hs fs
    exact⟨by rw[ev];exact beq_self_eq_true m,by rw[<- eni];exact fs.1,hs,(Bm h (.inl hc.2.2)).trans l1 fs.2⟩
   ·cases h1
  ·rename_i hb
   have hb':b=false:=by simpa using hb
   subst hb'
   refine(hK τ false l1 i1 λ hg=>?_).mono (by omega)
   rcases hf.s hg.b with⟨h1,_,_⟩|⟨_,h⟩
   ·cases h1
   ·subst h
    exact absurd hg.ma (hf.f rfl)
structure Ek(X:Xp):Prop extends Sk X where
 al:X.al=false
structure RcS(X:Xp)(σ:Kw)(t:eQ)(o e:Int):Prop where
 b:X.b=false
 ro:σ.ce t.root=o
 ma:σ.ce (σ.nd o).main=e
 st:aV σ e
theorem Hd{o e nw:Int}{K:Bool->Tr}(hX:Ek X)(hT:bR σ t)(hro:t.ro=false)(i0:Inv X.H σ)(ho:rI σ o [])(hn:rI σ nw [])(he1:1<=e)(he2:e<=σ.len)
  (hK:∀τ bb,Le σ τ->Inv X.H τ->(RcS X σ t o e->bb=true)->XT X (K bb) n τ):XT X (tD t o e nw K) (n+14) σ:=by
 refine gP (w:=[]) (g:=0) hX.al i0 (Zt i0 ho he1 he2 hn) ⟨⟨Int.le_refl _,bE _⟩,λ k=>cX (a:=8) (b:=2) k,λ k=>absurd k (iA (.inr (.inr (.inr (.inl rfl))))),λ _=>rfl⟩ (λ υ d l1 i1 af=>?_)
 have h8:(υ.nd d).kind=8:=by rw[af.nd];rfl
 have hdo:(υ.nd d).bL=o/\(υ.nd d).exp=e:=by rw[af.nd];exact⟨rfl,rfl⟩
 have hd2:=af.r2
 have hT1:=hT.up l1
 have hst0:=af.stat rfl
 refine Am hT1.1 hT1.2.1 i1 (λ τ l2 i2 _=>?_) (λ ρ l i2 _=>?_) (λ τ b l2 i2 hf=>?_)
 ·have e:=(hT1.up l2).rw hro
  refine⟨by have:=af.r1;omega,by have:=l2.len;omega,λ i' h=>?_,λ m' h=>?_,λ d h=>?_,λ h=>.inr (by rw[l2.nd hd2];exact h8),λ h=>?_⟩<;>rw[e] at h<;>cases h
 ·exact hX.r4 ρ t d (λ s _=>K (s==1)) i2 (hT1.up l) hro (by rw[l.nd hd2];exact h8)
 ·have en:τ.nd d=υ.nd d:=l2.nd hd2
  have h8':(τ.nd d).kind=8:=by rw[en];exact h8
  have hd2':d<=τ.len:=by have:=l2.len;omega
  have hdd:=i2.desc h8'
  have l12:=l1.trans i0 i1 l2
  have hrs:t.root≠(υ.nd d).status:=λ e=>by
   have h3:=hdd.2.2.2.2.2
   rw[en,<- e,(hT.up l12).rw hro] at h3;cases h3
  try dsimp only
  split
  ·rename_i hb
   have hsol:X.b=false->τ.ce t.root=d/\τ.ce (τ.nd d).status=0/\Zb X.H υ τ t.root d/\υ.ce t.root=o:=λ hb2=>by
    rcases hf.s hb2 with⟨_,h2,h⟩|⟨h1,_⟩
    ·exact⟨h.at',by rw[en,h.other _ (Ne.symm hrs)];exact hst0,h,h2⟩
    ·rw[hb] at h1;cases h1
   refine D8 hX.toSk (n:=n+2) (hT1.up l2) hro i2 h8' λ ρ l3 i3 hdc=>cG (by have:=l3.len;omega) (mH λ χ hg4=>?_)
   have l4:=hg4.le
   have i4:=hg4.inv
   have e3:ρ.nd d=τ.nd d:=l3.nd hd2'
   have e4:χ.nd d=τ.nd d:=by rw[l4.nd (by have:=l3.len;omega),e3]
   rw[e3]
   refine Fz hX.toSk (((hT1.up l2).up l3).up l4) hro i4 (by rw[e4];exact h8') (λ hb2=>?_) λ ψ l5 i5 _ _ _=>?_
   ·obtain⟨s1,s2,_,_⟩:=hsol hb2
    rcases hdc.a hb2 s1 s2 with⟨h5,_⟩|⟨h5,h6⟩
    ·exact .inl (by rw[hg4.solo hb2];exact h5)
    ·refine .inr ?_
     rw[hg4.solo hb2] at e4 ⊢
     rw[h6,if_neg (by decide),h5,e4]
   ·refine(hK ψ _ (((l12.trans i0 i2 l3).trans i0 i3 l4).trans i0 i4 l5) i5 λ hr=>?_).mono (by omega)
    obtain⟨s1,s2,s3,_⟩:=hsol hr.b
    have hmc:=i0.dI ho.1
    have hrm:t.root≠(σ.nd o).main:=λ e=>by
     have h3:=hmc.2.2
     rw[<- e,hT.rw hro] at h3;cases h3
    have hcur:=(i0.ce _ hmc.1 hmc.2.1).main o hmc.2.2
    rw[hr.ma] at hcur
    have hmk:=hcur.2.1
    have h7:=hdc.b hr.b s1 s2 (by rw[en,hdo.1,hdo.2,l12.nd ho.in.2,s3.other _ (Ne.symm hrm),af.ce hmc.2.1];exact hr.ma) (by rw[en,hdo.2];exact aV.up i0 hmk hr.st l12)
    rw[hg4.solo hr.b,h7.2]
    rfl
  ·rename_i hb
   refine(hK τ false l12 i2 λ hr=>?_).mono (by omega)
   have hb':b=false:=by simpa using hb
   subst hb'
   rcases hf.s hr.b with⟨h1,_,_⟩|⟨_,h⟩
   ·cases h1
   ·subst h
    exact absurd (by rw[af.ce hT.2.1];exact hr.ro) (hf.f rfl)
def jr(i m:Int)(σ:Kw):Prop:=σ.ce (σ.nd i).main≠m∨aV σ m
def vx(c d:Int)(σ:Kw):Prop:=σ.ce c≠d
def X0(H:ByteArray->Nat)(G:Kw->Prop):Xp:=⟨H,λ _ _=>False,λ _=>False,0,G,λ _ _ _ _=>True,true,true⟩
theorem Yw(H:ByteArray->Nat)(G:Kw->Prop):Sk (X0 H G):=⟨λ _ _ _ _ _ _=>trivial,λ _ _ _ _ _ _ _=>trivial,λ _ _ _ _ _ _ _ _ _ _ _=>trivial,λ _ _ _ _ _ _=>trivial,λ _ _ _ _ _ _ _ _=>trivial⟩
def RF(H:ByteArray->Nat)(c v:Int)(t:Tr)(υ:Kw):Prop:=(∀i,υ.ct c=.main i->aV υ v∨∃n,XT (X0 H (jr i v)) t n υ)/\(υ.ct c=.root->(υ.nd v).kind=2∨∃n,XT (X0 H (vx c v)) t n υ)
theorem Uq{X:Xp}(hR:X.R=RF X.H):Sk X:=by
 refine⟨λ c v t υ h1 h2=>?_,λ c v t υ i h1 h2=>?_,λ υ t i w g m K i0 hT hi hm=>?_,λ c v t υ h1 h2=>?_,λ υ t d K i0 hT hro h8=>?_⟩<;>rw[hR]
 ·exact⟨λ i h=>absurd h (h1 i),λ h=>absurd h h2⟩
 ·exact⟨λ i' h=>.inl h2,λ h=>by rw[h1] at h;cases h⟩
 ·have hc:=i0.dI hi.1.1
  refine⟨λ i' h=>.inr ⟨0+9,?_⟩,λ h=>by rw[hc.2.2] at h;cases h⟩
  rw[hc.2.2] at h
  cases h
  refine Dx (X:=X0 X.H (jr i m)) (Yw _ _) hT i0 hi hm (λ h=>nomatch h) λ τ v l1 i1 _ _ hok _ _=>XT.stop (show jr i m τ from ?_)
  unfold jr
  rw[l1.nd hi.in.2];exact hok
 ·exact⟨λ i h=>(by rw[h1] at h;cases h),λ _=>.inl h2⟩
 ·have hr:=hT.rw hro
  refine⟨λ i h=>(by rw[hr] at h;cases h),λ _=>.inr ⟨2+11,?_⟩⟩
  have hdd:=i0.desc h8
  refine D8 (X:=X0 X.H (vx t.root d)) (Yw _ _) (n:=0+2) hT hro i0 h8 λ ρ l3 i3 _=>cG (by have:=l3.len;have:=hdd.1;omega) (mH λ χ hg4=>?_)
  have l4:=hg4.le
  refine Fz (Yw _ _) ((hT.up l3).up l4) hro hg4.inv (by rw[l4.nd (by have:=l3.len;have:=hdd.1;omega),l3.nd hdd.1];exact h8) (λ h=>nomatch h) λ ψ _ _ _ h _=>XT.stop h
end
end

/- Procedures among others or alone: RENEW, CLEAN, FIND; what stays of the levels above. -/
section
open Go Go.RowKit Go.Ct
section
variable{X:Xp}{σ τ υ:Kw}{i m p g v:Int}{w:List Nat}{t:eQ}{n:Nat}
structure FL(t:eQ)(L:Nat)(σ τ:Kw):Prop where
 root:τ.ce t.root=σ.ce t.root
 main:∀p,(σ.nd p).kind=2->(σ.way p).length<L->τ.ce (σ.nd p).main=σ.ce (σ.nd p).main
theorem FL.refl(t:eQ)(L:Nat)(σ:Kw):FL t L σ σ:=⟨rfl,λ _ _ _=>rfl⟩
theorem iC{k:Int}(h:(σ.nd p).kind=k)(hk:k≠0:=by decide):p<=σ.len:=(cY (N:=σ.mm.nodes) (i:=p) (by simp only[Kw.nd] at h;rw[h];exact hk)).2
theorem FL.trans{L:Nat}(l:Le σ τ)(h:FL t L σ τ)(h2:FL t L τ υ):FL t L σ υ:=⟨h2.root.trans h.root,λ p hk hp=>by
 have e:=l.nd (iC hk)
 have:=h2.main p (by rw[e];exact hk) (by rw[l.way p (iC hk)];exact hp)
 rw[e] at this
 exact this.trans (h.main p hk hp)⟩
theorem FL.less{L L':Nat}(h:FL t L σ τ)(hl:L'<=L):FL t L' σ τ:=⟨h.root,λ p hk hp=>h.main p hk (by omega)⟩
theorem df{H:ByteArray->Nat}(i0:Inv H σ){i j:Int}(hi:(σ.nd i).kind=2)(hj:(σ.nd j).kind=2)(hne:i≠j):σ.ct (σ.nd i).main≠.main j:=λ h=>by
 rw[(i0.dI hi).2.2] at h
 cases h
 exact hne rfl
theorem Hs{H:ByteArray->Nat}(hT:bR σ t)(i0:Inv H σ)(f:Eo σ τ i):FL t (σ.way i).length σ τ:=⟨tE hT f,λ p hk hp=>by
 have hc:=i0.dI hk
 refine f _ hc.1 hc.2.1 (λ h=>?_) (λ m h=>?_)
 ·rw[hc.2.2] at h;cases h;omega
 ·rw[hc.2.2] at h;cases h⟩
theorem jb.fl{H:ByteArray->Nat}{nd:Nv}{c r:Int}{L:Nat}(hT:bR σ t)(i0:Inv H σ)(a:jb σ υ nd c r w g):FL t L σ υ:=⟨a.ce hT.2.1,λ p hk _=>a.ce (i0.dI hk).2.1⟩
structure fp(σ:Kw)(p:Int)(k:Nat)(b:Int):Prop where
 st:aV σ (σ.ce (σ.nd p).main)
 lk:jF (σ.nd (σ.ce (σ.nd p).main)) (k:Int)=some b
structure Wi(σ:Kw)(p:Int)(k:Nat):Prop where
 st:aV σ (σ.ce (σ.nd p).main)
 no:∀b,jF (σ.nd (σ.ce (σ.nd p).main)) (k:Int)=some b->(σ.nd b).kind≠2
structure Mb(X:Xp)(σ:Kw)(t:eQ)(g:Int):Prop where
 b:X.b=false
 ro:t.ro=false
 k2:(σ.nd (σ.ce t.root)).kind=2
 gen:(σ.nd (σ.ce t.root)).gen=g
theorem Mb.fl{H:ByteArray->Nat}{L:Nat}(i0:Inv H σ)(hT:bR σ t)(l:Le σ τ)(f:FL t L σ τ)(h:Mb X σ t g):Mb X τ t g:=by
 have e:τ.nd (τ.ce t.root)=σ.nd (σ.ce t.root):=by rw[f.root];exact l.nd (i0.ce _ hT.1 hT.2.1).hi
 exact⟨h.b,h.ro,by rw[e];exact h.k2,by rw[e];exact h.gen⟩
theorem wK{K:Int->Tr}{g':Int}(hX:Ek X)(i0:Inv X.H σ)(h1:1<=g)(h2:g<=σ.mm.gen)(hw:w.length<=11)(hm:lP σ m w g')(hs:aV σ m)(hg:g'<=g)(hK:∀τ j,Le σ τ->Inv X.H τ->mU τ j w g->jb σ τ (lG g) m j w 0->XT X (K j) n τ):XT X (.alloc (lG g) m K) n σ :=
 gP (w:=w) (g:=0) hX.al i0 (yR hw h1 h2) ⟨⟨by have:=hm.in;omega,hm.in.2⟩,λ _=>hm.le hg,λ k=>absurd k (iA (.inr (.inr (.inl rfl)))),λ k=>cX (a:=2) (b:=8) k⟩ (λ υ j l1 i1 a=>hK υ j l1 i1 ⟨⟨by rw[a.nd];rfl,a.way⟩,by rw[a.nd];rfl⟩ a) λ _=>hs
theorem Zo{K:Int->Tr}(hX:Ek X)(i0:Inv X.H σ)(hK:∀υ,Le σ υ->Inv X.H υ->υ.mm=⟨σ.mm.nodes,σ.mm.cs,σ.mm.gen+1⟩->XT X (K (σ.mm.gen+1)) n υ):XT X (.gen K) n σ:=by
 obtain⟨υ,l,i,e,_⟩:WT X.H (λ _ _=>True) (.gen λ _=>.done Rs.zero) σ:=U4 i0 λ _ _ _ _=>trivial
 exact .inr ⟨λ _ υ l i e=>hK υ l i e,λ _=>⟨υ,l,i,e,hK υ l i e⟩⟩
theorem M8{r:Int}{K:Int->Tr}(hX:Ek X)(ro:Bool)(i0:Inv X.H σ)(hr:rI σ r [])(hK:∀υ c,Le σ υ->Inv X.H υ->0<c->bR υ ⟨c,ro⟩->XT X (K c) n υ):XT X (.cell r K) n σ:=by
 obtain⟨υ,l,i,e,h1,h2⟩:WT X.H (λ r υ=>0<r.root/\bR υ ⟨r.root,ro⟩) (.cell r λ c=>.done (En c ro)) σ:=Rr ro i0 hr λ _ _ _ _ h0 ht=>⟨h0,ht⟩
 exact .inr ⟨hr.1,λ h=>(by rw[hX.al] at h;cases h),λ _=>⟨υ,l,i,e,hK υ _ l i h1 h2⟩⟩
theorem X6{b:Nat}{xs:List Int}{K:Int->Tr}(hX:Ek X)(i0:Inv X.H σ)(hm:lP σ m w g)(hs:aV σ m)(hc:jV σ m w g b xs){k:Nat}(hk:k<64){o r:Int}(ho:jF (σ.nd m) (k:Int)=some o)(hr:Hy σ (w++[k]) g r)(h0:0<w.length->xs.length=1->(σ.nd r).kind=2)
  (hK:∀τ v,Le σ τ->Inv X.H τ->lP τ v w g->jb σ τ (Np (σ.nd m) (k:Int) r) m v w g->bU (Np (σ.nd m) (k:Int) r)->jF (τ.nd v) (k:Int)=some r->XT X (K v) n τ):XT X (Cq m (k:Int) r K) n σ:=by
 have hmk:bU (Np (σ.nd m) (k:Int) r):=.inl (L8 hc hk ho hr.in.1)
 refine cG hm.in.2 (gP hX.al i0 (Vr i0 hc hk ho hr h0) (uB hmk hm hs) λ υ n l1 i1 a=>?_)
 have hn:=lS (cl:=0) hmk a.nd a.way a.gb
 refine hK υ n l1 i1 hn a hmk ?_
 have hcn:=hn.kY i1 (by rw[a.nd];exact L8 hc hk ho hr.in.1)
 obtain⟨f1,f2,f3,_⟩:=hc.up hk ho hr.in.1
 rw[hcn.lk hk,a.nd]
 show nT (Np (σ.nd m) (k:Int) r).bm.toNat (Np (σ.nd m) (k:Int) r).xs k=some r
 rw[f1,show(Ax b (oG xs (eE b k) r)).bm.toNat=b from Int.toNat_natCast _,show(Ax b (oG xs (eE b k) r)).xs=oG xs (eE b k) r from rfl,f3 k hk]
 unfold Ff
 rw[if_pos rfl]
theorem ia{b:Nat}{xs:List Int}{K:Int->Tr}(hX:Ek X)(hT:bR σ t)(i0:Inv X.H σ)(hi:mU σ i w g)(hm:lP σ m w g)(hs:aV σ m)(hc:jV σ m w g b xs){k:Nat}(hk:k<64){o:Int}(ho:jF (σ.nd m) (k:Int)=some o)(h2:(σ.nd o).kind=2)
  (hK:∀τ v,Le σ τ->Inv X.H τ->(v=0∨mU τ v (w++[k]) g)->(Mb X σ t g->σ.ce (σ.nd i).main=m->v≠0/\fp τ i k v/\FL t w.length σ τ)->XT X (K v) n τ):XT X (Gw t i m (k:Int) K) (n+20) σ:=by
 have hb:rI σ o (w++[k])/\(σ.nd o).gen<=g:=by
  have ho2:=ho
  rw[hc.lk hk] at ho2
  rcases hc.br k hk o ho2 with h|h
  ·rw[h2] at h;exact absurd h.1 (by decide)
  ·exact⟨⟨h.1,h.2.1⟩,h.2.2⟩
 have hg:=hi.Cd i0
 refine cG hm.in.2 ?_
 try dsimp only
 rw[show(jF (σ.nd m) (k:Int)).getD 0=o by rw[ho];rfl]
 refine mN hX.toSk (n:=n+10) hT i0 (g:=(σ.nd o).gen) ⟨hb.1,rfl⟩ λ τ v l1 i1 hv hsv fr=>cG (by have:=l1.len;have:=hi.in.2;omega) ?_
 have hi1:=hi.up l1
 try dsimp only
 rw[hi1.2]
 refine wK hX i1 hg.1 (by have:=l1.gen;omega) (by rw[List.length_append,List.length_singleton];have:=hc.wl;omega) hv hsv hb.2 λ υ j l2 i2 hj aj=>?_
 have l12:=l1.trans i0 i1 l2
 have ho2:jF (υ.nd m) (k:Int)=some o:=by rw[l12.nd hm.in.2];exact ho
 refine X6 hX i2 (hm.up l12) (aV.up i0 hm.1 hs l12) (hc.y5 l12) hk ho2 (.inr ⟨hj.1.1,hj.1.2,by rw[hj.2];exact Int.le_refl _⟩) (λ _ _=>hj.1.1) λ ρ n l3 i3 hn an hmk hlk=>?_
 have l13:=l12.trans i0 i2 l3
 refine zL hX.toSk (hT.up l13) i3 (hi.up l13) hn λ χ ok l4 i4 hgr=>hK χ _ (l13.trans i0 i3 l4) i4 ?_ λ hso hma=>?_
 ·try dsimp only
  split
  ·exact .inr ((hj.up l3).up l4)
  ·exact .inl rfl
 ·have fo:=fr.s hso.b hso.k2
  have hne:i≠o:=λ e=>by
   have h1:=hi.1.2
   rw[e,hb.1.2] at h1
   have:=congrArg List.length h1
   simp at this
  have hmi:=i0.dI hi.1.1
  have emi:τ.ce (σ.nd i).main=m:=(fo.2 _ hmi.1 hmi.2.1 (df i0 hi.1.1 hb.1.1 hne) (λ q h=>by rw[hmi.2.2] at h;cases h)).trans hma
  have ss:FL t w.length σ τ:=(Hs hT i0 fo.2).less (by rw[hb.1.2];simp)
  have fl2:FL t w.length τ υ:=aj.fl (hT.up l1) i1
  have fl3:FL t w.length υ ρ:=an.fl (hT.up l12) i2
  have fl13:=(ss.trans l1 fl2).trans l12 fl3
  have hso3:=hso.fl i0 hT l13 fl13
  have hml:m<=σ.len:=hm.in.2
  have hgc:zs X ρ t i g m n:=⟨hso3.b,hso3.ro,hso3.k2,hso3.gen,by
   rw[l13.nd hi.in.2,an.ce (by have:=l12.cl;have:=hmi.2.1;omega),aj.ce (by have:=l1.cl;have:=hmi.2.1;omega)];exact emi,an.prev hmk,by rw[l13.nd hml];exact hm.1⟩
  have r:=hgr hgc
  rw[if_pos r.t]
  have ema:χ.ce (χ.nd i).main=n:=by rw[l4.nd (hi.up l13).in.2];exact r.ma
  have hj1:=hj.in
  refine⟨by omega,⟨by rw[ema];exact r.st,by rw[ema,l4.nd hn.in.2];exact hlk⟩,fl13.trans l13 ((Hs (hT.up l13) i3 r.fr).less (by rw[(hi.up l13).1.2];exact Nat.le_refl _))⟩
end
end

/- Procedures among others or alone: CLEAN, FIND, DUAL, one attempt at a leaf. -/
section
open Go Go.RowKit Go.Ct
section
variable{X:Xp}{σ τ υ:Kw}{i m p g v:Int}{w:List Nat}{t:eQ}{n:Nat}{c:Cl}{h:Nat}
def Eu(σ τ:Kw):Prop:=∀x:Int,x<=σ.cl->τ.ce x=σ.ce x
theorem Eu.refl(σ:Kw):Eu σ σ:=λ _ _=>rfl
theorem Eu.trans(l:Le σ τ)(h:Eu σ τ)(h2:Eu τ υ):Eu σ υ:=λ x hx=>(h2 x (by have:=l.cl;omega)).trans (h x hx)
theorem Xt{nd:Nv}{y:Int}(em:υ.mm=σ.mm.push nd y):Eu σ υ:=λ x hx=>by
 have e2:υ.mm.cs=fZ nd.kind σ.mm.cs y:=by rw[em];rfl
 show bW υ.mm.cs x=_
 rw[e2]
 unfold fZ
 split
 ·exact pQ hx
 ·rfl
theorem jb.Kb{nd:Nv}{x r:Int}(a:jb σ υ nd x r w g):Eu σ υ:=λ _ h=>a.ce h
theorem Eu.fl{H:ByteArray->Nat}{L:Nat}(hT:bR σ t)(i0:Inv H σ)(h:Eu σ τ):FL t L σ τ:=⟨h _ hT.2.1,λ p hk _=>h _ (i0.dI hk).2.1⟩
theorem Mb.Kb(i0:Inv X.H σ)(hT:bR σ t)(l:Le σ τ)(f:Eu σ τ)(h:Mb X σ t g):Mb X τ t g:=h.fl i0 hT l (f.fl (L:=0) hT i0)
theorem Bi{nd:Nv}{r:Int}(i0:Inv X.H σ)(i1:Inv X.H τ)(hT:bR σ t)(hi:mU σ i w g)(hm:lP σ m w g)(l:Le σ τ)(l2:Le τ υ)(f:Eu σ τ)(a:jb τ υ nd m r w g)(hk:bU nd)(h:Mb X σ t g)(hma:σ.ce (σ.nd i).main=m):zs X υ t i g m r:=by
 have l02:=l.trans i0 i1 l2
 have f2:=f.trans l a.Kb
 have h2:=h.Kb i0 hT l02 f2
 exact⟨h2.b,h2.ro,h2.k2,h2.gen,by rw[l02.nd hi.in.2,f2 _ (i0.dI hi.1.1).2.1];exact hma,a.prev hk,by rw[l02.nd hm.in.2];exact hm.1⟩
structure yo(X:Xp)(σ:Kw)(t:eQ)(g p child:Int)(k:Nat):Prop where
 so:Mb X σ t g
 lk:fp σ p k child
 st:aV σ (σ.ce (σ.nd child).main)
 k5:(σ.nd (σ.ce (σ.nd child).main)).kind=5
theorem Hq{level:Int}{parent child:Int}{K:Bool->Tr}(hX:Ek X)(hT:bR σ t)(i0:Inv X.H σ)(hp:mU σ parent w g)(hl:level=(w.length:Int))(hch:(σ.nd child).kind=2)
  (hK:∀τ b,Le σ τ->Inv X.H τ->(yo X σ t g parent child (sl h w.length)->Wi τ parent (sl h w.length)/\FL t w.length σ τ)->XT X (K b) n τ):XT X (vP t parent child h level K) (n+30) σ:=by
 refine mN hX.toSk (n:=n+20) hT i0 hp λ τ m l1 i1 hm hs fr=>cG hm.in.2 ?_
 try dsimp only
 split
 ·rename_i hlk
  have h3:=kK hlk
  have hc:=hm.kY i1 h3
  have hlev:fM h level=((sl h w.length:Nat):Int):=by rw[hl];exact yZ hc.wl
  rw[hlev] at hlk ⊢
  have hk:=tM h w.length
  have hch1:(τ.nd child).kind=2:=by rw[l1.nd (iC hch)];exact hch
  have hb:rI τ child (w++[sl h w.length]):=by
   have h':=hlk
   rw[hc.lk hk] at h'
   rcases hc.br _ hk _ h' with h|h
   ·rw[hch1] at h;exact absurd h.1 (by decide)
   ·exact⟨h.1,h.2.1⟩
  refine mN hX.toSk (n:=n+10) (hT.up l1) i1 (g:=(τ.nd child).gen) ⟨hb,rfl⟩ λ υ mc l2 i2 hmc _ fr2=>cG hmc.in.2 ?_
  have l02:=l1.trans i0 i1 l2
  have hsame:yo X σ t g parent child (sl h w.length)->υ=σ/\m=σ.ce (σ.nd parent).main/\mc=σ.ce (σ.nd child).main:=λ q=>by
   obtain⟨e1,e2⟩:=fr.e q.so.b q.lk.st
   subst e1
   obtain⟨e3,e4⟩:=fr2.e q.so.b q.st
   exact⟨e3,e2,e4⟩
  try dsimp only
  split
  ·rename_i h5
   have hlf:=i2.leaf (.inr h5)
   have hu:fO (υ.nd mc).hash.toNat (w++[sl h w.length]):=by
    have:=((i2.nd mc hmc.in.1 hmc.in.2).k5 h5).2.2.2.1
    rwa [hmc.2.1] at this
   rw[Zv h5,da hlf]
   refine gP (w:=[]) (g:=0) hX.al i2 (xV i2 hlf.sz hlf.ha hlf.hl) ⟨⟨Int.le_refl _,bE _⟩,λ k=>cX (a:=4) (b:=2) k,λ k=>by unfold bU at k;rcases k with k|k|k;exact cX (a:=4) (b:=3) k;exact cX (a:=4) (b:=5) k;exact cX (a:=4) (b:=6) k,λ _=>rfl⟩ λ ρ s l3 i3 asg=>?_
   have l23:=l2.trans i1 i2 l3
   have l03:=l02.trans i0 i2 l3
   have hm3:=hm.up l23
   have hc3:=hc.y5 l23
   have hlk3:jF (ρ.nd m) ((sl h w.length:Nat):Int)=some child:=by rw[l23.nd hm.in.2];exact hlk
   have hs4:(ρ.nd s).kind=4:=by rw[asg.nd];rfl
   have hbr:Hy ρ (w++[sl h w.length]) g s:=.inl ⟨hs4,by rw[asg.nd];exact hu⟩
   refine cG hm3.in.2 ?_
   have hup:=hc3.up hk hlk3 asg.r1
   have hfin:∀nd,bU nd->iX X.H ρ nd w g->(∀χ r,Le ρ χ->Inv X.H χ->jb ρ χ nd m r w g->∀b,jF (χ.nd r) ((sl h w.length:Nat):Int)=some b->(χ.nd b).kind≠2)->XT X (.alloc nd m λ r=>mA t parent m r K) (n+10) ρ:=λ nd hmk hn hno =>
    gP hX.al i3 hn (uB hmk hm3 (aV.up i1 hm.1 hs l23)) λ χ r l4 i4 ar=>by
     have l04:=l03.trans i0 i3 l4
     have hr:=lS (cl:=0) hmk ar.nd ar.way ar.gb
     refine zL hX.toSk (hT.up l04) i4 (hp.up l04) hr λ ψ ok l5 i5 hgr=>hK ψ ok (l04.trans i0 i4 l5) i5 λ q=>?_
     obtain⟨e1,e2,e3⟩:=hsame q
     subst e1
     have r1:=hgr (Bi i2 i3 (hT.up l02) (hp.up l02) (hm.up l2) l3 l4 asg.Kb ar hmk q.so e2.symm)
     have ema:ψ.ce (ψ.nd parent).main=r:=by rw[l5.nd (hp.up l04).in.2];exact r1.ma
     refine⟨⟨by rw[ema];exact r1.st,λ b hb=>?_⟩,((asg.Kb.fl (hT.up l02) i2).trans l3 (ar.Kb.fl (hT.up l03) i3)).trans (l3.trans i2 i3 l4) ((Hs (hT.up l04) i4 r1.fr).less (by rw[(hp.up l04).1.2];exact Nat.le_refl _))⟩
     rw[ema,l5.nd hr.in.2] at hb
     have hbk:=hno χ r l4 i4 ar b hb
     have hbin:=((hr.kY i4 (kK hb)).br _ hk b (by rw[<- (hr.kY i4 (kK hb)).lk hk];exact hb)).in
     rw[l5.nd hbin.2]
     exact hbk
   try dsimp only
   rw[hup.1,Wo hup.2.1]
   try dsimp only
   split
   ·rename_i hx
    refine hfin _ (.inr (.inl rfl)) (C8 i3 hlf.sz hlf.ha hlf.hl (by omega) (by have:=hc.wl;omega) (Fh hu)) λ χ r l4 i4 ar b hb=>?_
    have:=kK hb
    rw[ar.nd] at this
    exact cX (a:=5) (b:=3) this
   ·rename_i hx
    refine hfin _ (.inl rfl) ?_ λ χ r l4 i4 ar b hb=>?_
    ·rw[<- hup.1]
     refine Vr i3 hc3 hk hlk3 hbr λ h0 h1=>absurd ⟨?_,by omega,rfl⟩ hx
     rw[sJ hup.2.2.2];exact h1
    ·have hr:=lS (cl:=0) (σ:=χ) (.inl rfl) ar.nd ar.way ar.gb
     have hcn:=hr.kY i4 (kK hb)
     rw[hcn.lk hk,ar.nd] at hb
     have hb':nT (τ.nd m).bm.toNat (oG (τ.nd m).xs (eE (τ.nd m).bm.toNat (sl h w.length)) s) (sl h w.length)=some b:=by
      rw[<- hb]
      show _=nT (Ax (τ.nd m).bm.toNat (oG (τ.nd m).xs (eE (τ.nd m).bm.toNat (sl h w.length)) s)).bm.toNat (oG (τ.nd m).xs (eE (τ.nd m).bm.toNat (sl h w.length)) s) _
      rw[show(Ax (τ.nd m).bm.toNat (oG (τ.nd m).xs (eE (τ.nd m).bm.toNat (sl h w.length)) s)).bm.toNat=(τ.nd m).bm.toNat from Int.toNat_natCast _]
     rw[hup.2.2.1 _ hk] at hb'
     unfold Ff at hb'
     rw[if_pos rfl] at hb'
     cases hb'
     rw[l4.nd asg.r2,hs4];decide
  ·rename_i h5
   refine(hK υ _ l02 i2 λ q=>?_).mono (by omega)
   obtain⟨e1,e2,e3⟩:=hsame q
   exact absurd (by rw[e3,e1];exact q.k5) h5
 ·rename_i hlk
  refine(hK τ _ l1 i1 λ q=>?_).mono (by omega)
  obtain⟨e1,e2⟩:=fr.e q.so.b q.lk.st
  refine absurd ?_ hlk
  have hlk2:=q.lk.lk
  have hc:w.length<=10:=((hp.Yq i0).kY i0 (kK hlk2)).wl
  rw[hl,yZ hc,e1,e2]
  exact hlk2
theorem Zj{key:ByteArray}{K:Rs->Tr}(hX:Ek X)(hT:bR σ t)(i0:Inv X.H σ)(hK:∀τ r,Le σ τ->Inv X.H τ->r.root=0->XT X (K r) n τ):∀(q:Nat) (σ':Kw) (i:Int) (w:List Nat) (g level:Int),Le σ σ'->Inv X.H σ'->mU σ' i w g->XT X (Ae t h key K q i level) (n+10*(12-w.length)) σ'
 | 0,_,_,_,_,_,_,_,_=>trivial
 | q+1,σ',i,w,g,level,l,i1,hi=>by
  have hw:=(hi.Cd i1).2.2
  have e:n+10*(12-w.length)=(n+10*(11-w.length))+10:=by omega
  rw[e]
  refine mN hX.toSk (hT.up l) i1 hi λ τ m l1 i2 hm _ _=>cG hm.in.2 ?_
  have l01:=l.trans i0 i1 l1
  try dsimp only
  split
  ·(try dsimp only);split<;>exact(hK τ _ l01 i2 rfl).mono (by omega)
  try dsimp only
  split
  ·exact(hK τ _ l01 i2 rfl).mono (by omega)
  cases hlk:jF (τ.nd m) (fM h level) with
  | none=>exact(hK τ _ l01 i2 rfl).mono (by omega)
  | some b =>
   obtain⟨k,hk,ek⟩:=Vs h level
   rw[ek] at hlk
   have hc:=hm.kY i2 (kK hlk)
   rw[hc.lk hk] at hlk
   have hb:=hc.br k hk b hlk
   refine cG hb.in.2 ?_
   try dsimp only
   split
   ·(try dsimp only);split<;>exact(hK τ _ l01 i2 rfl).mono (by omega)
   ·rename_i h4
    rcases hb with hb|hb
    ·exact absurd hb.1 h4
    ·have:=Zj (key:=key) hX hT i0 hK q τ b (w++[k]) (τ.nd b).gen (level+1) l01 i2 ⟨⟨hb.1,hb.2.1⟩,rfl⟩
     rw[List.length_append,List.length_singleton] at this
     exact this.mono (by omega)
theorem tz{x:Int}{h0 h:Nat}{pk:ByteArray}{pv:Int}{k:ByteArray}{u:Int}{q:Nat}{K:Int->Tr}(hX:Ek X)(hh0:h0<18446744073709551616)(hh:h<18446744073709551616)(hH:X.H k=h)(hk:k.size<=64)(hg1:1<=g)(hne:pk≠k)(hpk:pk.size<=64)(hpH:X.H pk=h0) :
  ∀(n lvl:Nat) (σ:Kw) (r:Int) (f:Nat),lvl+n=jM h0 h->Inv X.H σ->(σ.nd x).kind=4->(σ.nd x).hash.toNat=h0->g<=σ.mm.gen->f=σ.len+1 ->
  (∀υ,Le σ υ->Inv X.H υ->Eu σ υ->υ.len=σ.len+(dN x h0 h (pk,pv) k u g f n lvl).length->lP υ ((f-1+(dN x h0 h (pk,pv) k u g f n lvl).length:Nat):Int) (rE h lvl) g->aV υ ((f-1+(dN x h0 h (pk,pv) k u g f n lvl).length:Nat):Int)->XT X (K ((f-1+(dN x h0 h (pk,pv) k u g f n lvl).length:Nat):Int)) q υ) ->
  XT X (xT (dN x h0 h (pk,pv) k u g f n lvl) r K) q σ
 | 0,lvl,σ,r,f,hn,i0,hx4,hxh,hgg,hf,hK=>by
  have hx:=cY (N:=σ.mm.nodes) (i:=x) (by have:=hx4;simp only[Kw.nd] at this;rw[this];decide)
  have hcl:=vY h0 h
  unfold dN at hK ⊢
  try dsimp only
  split
  ·rename_i e
   rw[if_pos e] at hK
   subst e
   have heq:h0=h:=Wj hh0 hh λ j hj=>Mk (by omega)
   obtain⟨o1,o2,o3⟩:=bh (p:=(pk,pv)) (q:=(k,u)) hne
   have hnew:iX X.H σ (Qw ((h:Nat):Int) (A4 [(pk,pv),(k,u)])) (rE h 11) g:=Co i0 o1 (nX.2 o2) (pG.2 λ p hp=>by rcases o3 p hp with rfl|rfl;exact hpk;exact hk) (λ p hp=>by rcases o3 p hp with rfl|rfl;exact hpH.trans heq;exact hH) hh (eM h 11) (qE h 11)
   refine gP hX.al i0 hnew (oQ i0 (λ e=>cX (a:=6) (b:=2) e)) λ υ r' l1 i1 a1=>?_
   have er:=a1.re
   have em:=a1.mm
   have e1:=a1.nd
   have e2:=a1.way
   have e3:=a1.gb
   have h1:=a1.r1
   have h2:=a1.r2
   have hr':r'=((f-1+[Bv h (A4 [(pk,pv),(k,u)])].length:Nat):Int):=by rw[er,hf];simp
   have hlen:υ.len=σ.len+1:=by simp[Kw.len,em,Mm.push]
   show XT X (K r') q υ
   rw[hr']
   refine hK υ l1 i1 a1.Kb hlen ?_ ?_<;>rw[<- hr']
   ·exact lS (cl:=0) (.inr (.inr rfl)) e1 e2 e3
   ·exact a1.prev (.inr (.inr rfl))
  ·rename_i e
   rw[if_neg e] at hK
   have hlv:lvl=jM h0 h:=by omega
   have hne2:sl h0 lvl≠sl h lvl:=by rw[hlv];exact Ig (by omega)
   refine gP (w:=[]) (g:=0) hX.al i0 (xV i0 hk hH hh) (oQ i0 (λ e=>cX (a:=4) (b:=2) e)) λ υ s l1 i1 a1=>?_
   have er:=a1.re
   have em:=a1.mm
   have e1:=a1.nd
   have hs1:=a1.r1
   have hs2:=a1.r2
   have hlen:υ.len=σ.len+1:=by simp[Kw.len,em,Mm.push]
   have hsf:s=(f:Int):=by rw[er,hf]
   obtain⟨b1,b2⟩:=nl (tM h0 lvl) (tM h lvl) hne2 (x:=x) (s:=s) hx.1 hs1
   have hx4':(υ.nd x).kind=4:=by rw[l1.nd hx.2];exact hx4
   have hxh':(υ.nd x).hash.toNat=h0:=by rw[l1.nd hx.2];exact hxh
   have hnew:iX X.H υ (Ax (dB (dB 0 (sl h0 lvl:Int)) (sl h lvl:Int)) (two (sl h0 lvl) (sl h lvl) x s)) (rE h lvl) g:=by
    refine lM i1 b1 (λ j hj v hv=>?_) (by rw[eM];omega) (λ _=>⟨λ e=>?_,λ b hb=>?_⟩)
    ·rcases b2 j hj v hv with⟨rfl,rfl⟩|⟨rfl,rfl⟩
     ·refine .inl ⟨hx4',?_⟩
      rw[hxh']
      have:=qR (Tx (a:=h0) (b:=h) (l:=lvl) (by omega))
      rwa [eM] at this
     ·refine .inl ⟨by rw[e1];rfl,?_⟩
      rw[e1]
      have:=qR (qE h lvl)
      rw[eM] at this
      exact this
    ·unfold two at e;split at e<;>cases e
    ·unfold two at hb;split at hb<;>cases hb
   rw[hsf] at hnew
   show XT X (.alloc (Ax (dB (dB 0 (sl h0 lvl:Int)) (sl h lvl:Int)) (two (sl h0 lvl) (sl h lvl) x (f:Int))) 0 K) q υ
   refine gP hX.al i1 hnew (oQ i1 (λ e=>cX (a:=3) (b:=2) e)) λ ρ r' l2 i2 a2=>?_
   have er2:=a2.re
   have em2:=a2.mm
   have e4:=a2.nd
   have e5:=a2.way
   have e6:=a2.gb
   have h1:=a2.r1
   have h2:=a2.r2
   have hlen2:ρ.len=υ.len+1:=by simp[Kw.len,em2,Mm.push]
   have hr':r'=((f-1+[tU h k u,Yf (dB (dB 0 (sl h0 lvl:Int)) (sl h lvl:Int)) (two (sl h0 lvl) (sl h lvl) x (f:Int))].length:Nat):Int):=by
    rw[er2];simp only[List.length_cons,List.length_nil];omega
   rw[hr']
   refine hK ρ (l1.trans i0 i1 l2) i2 (a1.Kb.trans l1 a2.Kb) (by simp only[List.length_cons,List.length_nil];omega) ?_ ?_<;>rw[<- hr']
   ·exact lS (cl:=0) (.inl rfl) e4 e5 e6
   ·exact a2.prev (.inl rfl)
 | n+1,lvl,σ,r,f,hn,i0,hx4,hxh,hgg,hf,hK=>by
  have hx:=cY (N:=σ.mm.nodes) (i:=x) (by have:=hx4;simp only[Kw.nd] at this;rw[this];decide)
  have hcl:=vY h0 h
  unfold dN at hK ⊢
  rw[K7]
  refine tz hX hh0 hh hH hk hg1 hne hpk hpH n (lvl+1) σ r f (by omega) i0 hx4 hxh hgg hf λ υ l1 i1 f1 el hm hst=>?_
  generalize hd:(dN x h0 h (pk,pv) k u g f n (lvl+1)).length=d at *
  show XT X (.alloc (lG g) ((f-1+d:Nat):Int) λ _=>.alloc (Ax (dB 0 (sl h lvl:Int)) [((f+d:Nat):Int)]) 0 K) q υ
  refine gP (w:=rE h (lvl+1)) (g:=0) hX.al i1 (yR (by rw[eM];omega) hg1 (by have:=l1.gen;omega)) ⟨⟨by omega,hm.in.2⟩,λ _=>hm,λ k=>absurd k (iA (.inr (.inr (.inl rfl)))),λ k=>cX (a:=2) (b:=8) k⟩ (λ ρ j l2 i2 a2=>?_) (λ _=>hst)
  have er:=a2.re
  have em:=a2.mm
  have e1:=a2.nd
  have e2:=a2.way
  have hj1:=a2.r1
  have hj2:=a2.r2
  have hlen:ρ.len=υ.len+1:=by simp[Kw.len,em,Mm.push]
  have hj:j=((f+d:Nat):Int):=by rw[er];omega
  obtain⟨b1,b2⟩:=Zm (tM h lvl) (r:=j) hj1
  have hnew:iX X.H ρ (Ax (dB 0 (sl h lvl:Int)) [j]) (rE h lvl) g:=by
   refine lM i2 b1 (λ q hq v hv=>?_) (by rw[eM];omega) (λ _=>⟨by simp,λ b hb=>?_⟩)
   ·obtain⟨rfl,rfl⟩:=b2 q hq v hv
    exact .inr ⟨by rw[e1];rfl,by rw[e2,Fu],by rw[e1];exact Int.le_refl _⟩
   ·cases hb;rw[e1];rfl
  rw[hj] at hnew
  refine gP hX.al i2 hnew (oQ i2 (λ e=>cX (a:=3) (b:=2) e)) λ χ r' l3 i3 a3=>?_
  have er2:=a3.re
  have em2:=a3.mm
  have e4:=a3.nd
  have e5:=a3.way
  have e6:=a3.gb
  have h1:=a3.r1
  have h2:=a3.r2
  have hlen2:χ.len=ρ.len+1:=by simp[Kw.len,em2,Mm.push]
  have hr':r'=((f-1+(d+2):Nat):Int):=by rw[er2];omega
  have hL:(dN x h0 h (pk,pv) k u g f n (lvl+1)++[oK g ((f-1+d:Nat):Int),Yf (dB 0 (sl h lvl:Int)) [((f+d:Nat):Int)]]).length=d+2:=by rw[List.length_append,hd];rfl
  rw[hL] at hK
  rw[hr']
  refine hK χ ((l1.trans i0 i1 l2).trans i0 i2 l3) i3 ((f1.trans l1 a2.Kb).trans (l1.trans i0 i1 l2) a3.Kb) (by omega) ?_ ?_<;>rw[<- hr']
  ·exact lS (cl:=0) (.inl rfl) e4 e5 e6
  ·exact a3.prev (.inl rfl)
theorem r8{b:Int}{level:Nat}{K:Int->Tr}(hX:Ek X)(i0:Inv X.H σ)(hb4:(σ.nd b).kind=4)(hu0:fO (σ.nd b).hash.toNat w)(hu:fO h w)(hl:level=w.length)(hw:w.length<=11)(hh:h<18446744073709551616)(hH:X.H c.key=h)(hk:c.key.size<=64)(hg1:1<=g)(hgg:g<=σ.mm.gen)(hne:(σ.nd b).key≠c.key)
  (hK:∀υ d,Le σ υ->Inv X.H υ->Eu σ υ->lP υ d w g->aV υ d->XT X (K d) n υ):XT X (Qd c b h level g K) n σ:=by
 have hlf:=i0.leaf (.inl hb4)
 have hb:=cY (N:=σ.mm.nodes) (i:=b) (by have:=hb4;simp only[Kw.nd] at this;rw[this];decide)
 have hcom:level<=jM (σ.nd b).hash.toNat h:=by
  have hw11:=vY (σ.nd b).hash.toNat h
  by_cases hlt:level<=jM (σ.nd b).hash.toNat h
  ·exact hlt
  ·exact absurd ((hu0 _ (by omega)).trans (hu _ (by omega)).symm) (Ig (by omega))
 refine cG hb.2 ?_
 generalize hn:jM (σ.nd b).hash.toNat h-level=nd
 have hlv:jM (σ.nd b).hash.toNat h-nd=level:=by omega
 obtain⟨a,ha⟩:=P6 (x:=b) (h0:=(σ.nd b).hash.toNat) (h:=h) (p:=((σ.nd b).key,(σ.nd b).val)) (k:=c.key) (u:=c.val) (g:=g) nd level
 have hP:∀f,dP b (σ.nd b).hash.toNat h ((σ.nd b).key,(σ.nd b).val) c.key c.val g f level=dN b (σ.nd b).hash.toNat h ((σ.nd b).key,(σ.nd b).val) c.key c.val g f nd level:=λ f=>by unfold dP;rw[hn,hlv]
 obtain⟨l0,hl0⟩:=ha 0
 try dsimp only
 rw[hP 0,hl0]
 show XT X (.alloc a.c0 a.init λ f=>xT (dP b (σ.nd b).hash.toNat h ((σ.nd b).key,(σ.nd b).val) c.key c.val g f.toNat level).tail f K) n σ
 obtain⟨l1,hl1⟩:=ha (σ.len+1)
 have key:XT X (xT (dN b (σ.nd b).hash.toNat h ((σ.nd b).key,(σ.nd b).val) c.key c.val g (σ.len+1) nd level) 0 K) n σ:=by
  refine tz hX hlf.hl hh hH hk hg1 hne hlf.sz hlf.ha nd level σ 0 (σ.len+1) (by omega) i0 hb4 rfl hgg rfl λ υ l2 i2 f2 _ hm hst=>hK υ _ l2 i2 f2 ?_ hst
  rw[gh hu,<- hl];exact hm
 rw[hl1] at key
 rcases key with h|⟨h1,h2,h3⟩
 ·exact .inl h
 ·refine .inr ⟨h1,λ h=>(by rw[hX.al] at h;cases h),λ h=>?_⟩
  obtain⟨υ,l2,i2,e2,hw2⟩:=h3 h
  refine⟨υ,l2,i2,e2,?_⟩
  dsimp only
  rw[hP,show(((σ.len+1:Nat):Int)).toNat=σ.len+1 from Int.toNat_natCast _,hl1]
  exact hw2
end
end

end Go.Proofs.YtadnboagdhcedaaGreatDoor
