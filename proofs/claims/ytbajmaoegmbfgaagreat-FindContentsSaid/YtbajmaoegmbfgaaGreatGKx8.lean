/- Merged. -/
import Derived.Test.YtbajmaoegmbfgaaGreatGKx2
import Derived.Test.YtbajmaoegmbfgaaGreatGRn1
import Derived.Test.YtbajmaoegmbfgaaGreatGEx11
import Derived.Test.YtbajmaoegmbfgaaGreatGPa1
set_option linter.unusedSimpArgs false
set_option linter.unusedVariables false
namespace Go.Proofs.YtbajmaoegmbfgaaGreat
open Go Go.RowKit Go.Ct
section
section
variable{X:Xp}{σ τ υ:Kw}{i m p g v:Int}{w:List Nat}{t:dW}{n:Nat}{c:Cl}{h:Nat}{H:ByteArray->Nat}
def SP(σ:Kw)(t:dW)(h:Nat)(g:Int):Nat->Int->Prop
 | 0,i=>σ.ce t.root=i/\(σ.nd i).kind=2/\(σ.way i).length=0
 | l+1,i=>(∃p,SP σ t h g l p/\yx σ p (sl h l) i)/\(σ.nd i).kind=2/\(σ.nd i).gen=g/\(σ.way i).length=l+1
theorem SP.k2:∀{l:Nat} {i:Int},SP σ t h g l i->(σ.nd i).kind=2
 | 0,_,h=>h.2.1
 | _+1,_,h=>h.2.1
theorem SP.len:∀{l:Nat} {i:Int},SP σ t h g l i->(σ.way i).length=l
 | 0,_,h=>h.2.2
 | _+1,_,h=>h.2.2.2
theorem SP.gen(so:K5 X σ t g):∀{l:Nat} {i:Int},SP σ t h g l i->(σ.nd i).gen=g
 | 0,_,h=>by rw[<- h.1];exact so.gen
 | _+1,_,h=>h.2.2.1
theorem SP.det:∀{l:Nat} {i j:Int},SP σ t h g l i->SP σ t h g l j->i=j
 | 0,_,_,h1,h2=>h1.1.symm.trans h2.1
 | l+1,i,j,h1,h2=>by obtain⟨p,hp,lp⟩:=h1.1;obtain⟨q,hq,lq⟩:=h2.1;have e:=SP.det hp hq;subst e;have:=lp.lk.symm.trans lq.lk;exact Option.some.inj this
theorem SP.down:∀{d l:Nat} {i j:Int},SP σ t h g (l+d+1) j->SP σ t h g l i->∃b,yx σ i (sl h l) b/\(σ.nd b).kind=2/\(σ.nd b).gen=g
 | 0,l,i,j,h1,h2=>by
  obtain⟨p,hp,lp⟩:=h1.1
  have e:=SP.det hp h2;subst e;exact⟨j,lp,h1.2.1,h1.2.2.1⟩
 | d+1,l,i,j,h1,h2=>by
  obtain⟨p,hp,_⟩:=h1.1
  exact SP.down (d:=d) hp h2
theorem yx.up{k:Nat}{b:Int}(i0:Inv H σ)(l:Le σ τ)(hk:(σ.nd p).kind=2)(e:τ.ce (σ.nd p).main=σ.ce (σ.nd p).main)(h:yx σ p k b):yx τ p k b:=by
 have hm:=qU.ib (i:=p) (w:=σ.way p) (g:=(σ.nd p).gen) i0 ⟨⟨hk,rfl⟩,rfl⟩;have en:=l.nd (kD hk);have e2:τ.ce (τ.nd p).main=σ.ce (σ.nd p).main:=by rw[en];exact e
 exact⟨by rw[e2];exact bC.up i0 hm.1 h.st l,by rw[e2,l.nd hm.in.2];exact h.lk⟩
theorem SP.fl{L:Nat}(i0:Inv H σ)(l1:Le σ τ)(f:FL t L σ τ):∀{l:Nat} {i:Int},l<=L->SP σ t h g l i->SP τ t h g l i
 | 0,i,_,hs=>⟨by rw[f.root];exact hs.1,by rw[l1.nd (kD hs.2.1)];exact hs.2.1,by rw[l1.way _ (kD hs.2.1)];exact hs.2.2⟩
 | l+1,i,hl,hs=>by obtain⟨p,hp,lp⟩:=hs.1;exact⟨⟨p,SP.fl i0 l1 f (by omega) hp,lp.up i0 l1 hp.k2 (f.main p hp.k2 (by rw[hp.len];omega))⟩,by rw[l1.nd (kD hs.2.1)];exact hs.2.1,by rw[l1.nd (kD hs.2.1)];exact hs.2.2.1,by rw[l1.way _ (kD hs.2.1)];exact hs.2.2.2⟩
def Ed(σ:Kw)(t:dW)(h:Nat)(g:Int)(J:Nat):Prop:=∃i,SP σ t h g J i/\od σ i (sl h J)
structure PS(X:Xp)(σ:Kw)(t:dW)(h:Nat)(g:Int)(J:Nat)(i:Int)(level:Nat):Prop where
 so:K5 X σ t g
 sp:SP σ t h g level i
 ed:J=12∨Ed σ t h g J
 le:level<=J
variable{J level nn:Nat}{σ0:Kw}
theorem PS.st{J level:Nat}(q:PS X σ t h g J i level):J=12∨bC σ (σ.ce (σ.nd i).main):=by
 rcases q.ed with e|⟨j,h1,h2⟩;·exact .inl e
 ·refine .inr ?_;by_cases hl:level=J;·subst hl;have e:=SP.det h1 q.sp;subst e;exact h2.st
  ·have hle:=q.le;obtain⟨d,hd⟩:∃d,J=level+d+1:=⟨J-level-1,by omega⟩;subst hd;obtain⟨b,hb,_⟩:=SP.down h1 q.sp;exact hb.st
theorem PS.read(i0:Inv X.H σ)(hT:bY σ t)(l:Le σ τ)(fr:RdF X σ τ t i m)(q:PS X σ t h g J i level):PS X τ t h g J i level/\τ.ce (σ.nd i).main=m/\FL t level σ τ:=by
 have fs:=fr.s q.so.b q.so.k2;have f:FL t level σ τ:=by have:=M4 hT i0 fs.2;rwa [q.sp.len] at this
 refine⟨⟨q.so.fl i0 hT l f,q.sp.fl i0 l f (Nat.le_refl _),?_,q.le⟩,fs.1,f⟩;rcases q.st with e|e;·exact .inl e
 ·have e2:=(fr.e q.so.b e).1;rw[e2];exact q.ed
theorem PS.r5{b:Int}(i0:Inv X.H σ)(hT:bY σ t)(hi:qU σ i w g)(hm:oQ σ m w g)(hl:level=w.length)(hma:σ.ce (σ.nd i).main=m)(hf:Fur σ m h level)(l:Le σ τ)(hb:qU τ b (w++[sl h level]) g)(hlk:yx τ i (sl h level) b)(f:FL t w.length σ τ)(hs:∀b',iU (σ.nd m) ((sl h level:Nat):Int)=some b'->(σ.nd b').gen=g->τ=σ)(q:PS X σ t h g J i level):PS X τ t h g J b (level+1):=by
 obtain⟨b0,hb0,hk0⟩:=hf;have hwl:w.length<=10:=(hm.rR i0 (lJ hb0)).wl;have hlev:eZ h (level:Int)=((sl h level:Nat):Int):=Ap (by omega);rw[hlev] at hb0;rw[<- hl] at f
 have hne:J≠12->level≠J:=λ h12 e=>by
  rcases q.ed with e2|⟨j,h1,h2⟩;·exact h12 e2
  ·subst e;have e:=SP.det h1 q.sp;subst e;exact h2.no b0 (by rw[hma];exact hb0) hk0
 have hle:=q.le;refine⟨q.so.fl i0 hT l f,⟨⟨i,q.sp.fl i0 l f (Nat.le_refl _),hlk⟩,hb.1.1,hb.2,by rw[hb.1.2,List.length_append,hl];rfl⟩,?_,by by_cases h12:J=12;omega;have:=hne h12;omega⟩;by_cases h12:J=12;·exact .inl h12
 ·have:=hne h12;rcases q.ed with e2|⟨j,h1,h2⟩
  ·exact .inl e2
  ·obtain⟨d,hd⟩:∃d,J=level+d+1:=⟨J-level-1,by omega⟩;have h1':=h1;rw[hd] at h1';obtain⟨b',lb,_,gb⟩:=SP.down h1' q.sp;have e:=hs b' (by rw[<- hma];exact lb.lk) gb;rw[e];exact .inr ⟨j,h1,h2⟩
theorem PS.clean{w0:List Nat}{g0:Int}(i0:Inv X.H σ)(hT:bY σ t)(hpn:qU σ p w0 g0)(hw:level=w0.length+1)(hsp:SP σ t h g (level-1) p)(hma:σ.ce (σ.nd i).main=m)(hs:bC σ m)(h5:(σ.nd m).kind=5)(l:Le σ τ)(q:PS X σ t h g J i level)(hc:ClS X σ t g0 p i (sl h w0.length)->od τ p (sl h w0.length)/\FL t w0.length σ τ):K5 X τ t g/\∃j,j<J/\Ed τ t h g j:=by
 have hl1:level-1=w0.length:=by omega
 have hsp':=q.sp;rw[hw] at hsp';obtain⟨p',hp',lp⟩:=hsp'.1;rw[hl1] at hsp;have e:=SP.det hp' hsp;subst e;have hg:g0=g:=hpn.2.symm.trans (SP.gen q.so hsp);subst hg;obtain⟨r1,r2⟩:=hc ⟨q.so,lp,by rw[hma];exact hs,by rw[hma];exact h5⟩
 have:=q.le;exact⟨q.so.fl i0 hT l r2,w0.length,by omega,p',hsp.fl i0 l r2 (Nat.le_refl _),r1⟩
theorem My{J nn:Nat}{σ0:Kw}{K:Rs->Tr}{again:Tr}(hX:Fm X)(hT:bY σ0 c.t)(i00:Inv X.H σ0)(hk:Pn X.H c h)(hK:∀τ r,Le σ0 τ->Inv X.H τ->r.root=0->XT X (K r) nn τ)
  (hA:∀τ,Le σ0 τ->Inv X.H τ->(X.b=false->K5 X τ c.t g/\∃j,j<J/\Ed τ c.t h g j)->XT X again nn τ):∀(q:Nat) (σ:Kw) (i parent:Int) (w:List Nat) (level:Nat),Le σ0 σ->Inv X.H σ->qU σ i w g->fT h w->level=w.length->(0<w.length->∃w0 g0,qU σ parent w0 g0/\w.length=w0.length+1) ->
  (X.b=false->PS X σ c.t h g J i level/\(0<level->SP σ c.t h g (level-1) parent))->XT X (sY c h K again g q i parent level) (nn+40*(12-level)) σ
 | 0,_,_,_,_,_,_,_,_,_,_,_,_=>trivial
 | q+1,σ,i,parent,w,level,l,i1,hi,hu,hl,hp,hs0=>by
  have hw:=(hi.E6 i1).2.2;have hT1:=hT.up l;have e:nn+40*(12-level)=(nn+40*(11-level)+30)+10:=by omega
  rw[e];refine pR hX.toaw hT1 i1 hi λ τ m l1 i2 hm hs fr=>cS hm.in.2 ?_;have l01:=l.trans i00 i1 l1;have hi2:=hi.up l1;have eni:(τ.nd i).main=(σ.nd i).main:=by rw[l1.nd hi.in.2]
  have hps:X.b=false->PS X τ c.t h g J i level/\τ.ce (τ.nd i).main=m/\(0<level->SP τ c.t h g (level-1) parent):=λ hb=>by obtain⟨q1,q2⟩:=hs0 hb;obtain⟨r1,r2,r3⟩:=q1.read i1 hT1 l1 fr;exact⟨r1,by rw[eni];exact r2,λ h0=>(q2 h0).fl i1 l1 r3 (by omega)⟩
  try dsimp only
  split;·rename_i h5;have h0:=((i2.nd m hm.in.1 hm.in.2).k5 h5).1;rw[hm.2.1] at h0;obtain⟨w0,g0,hp1,hp2⟩:=hp h0;refine(O4 hX (n:=nn+40*(11-level)) (hT.up l01) i2 (hp1.up l1) (by omega) hi2.1.1 λ υ _ l2 i3 hc=>(hA υ (l01.trans i00 i2 l2) i3 λ hb=>?_).mono (by omega));obtain⟨r1,r2,r3⟩:=hps hb;exact r1.clean i2 (hT.up l01) (hp1.up l1) (by omega) (r3 (by omega)) r2 hs h5 l2 hc
  ·rename_i h5;refine(Z2 hX (n:=nn+40*(11-level)+20) (hT.up l01) i2 hk hi2 hm hs hu hl h5 λ υ r what l2 i3 hr hf hw0=>?_);have l02:=l01.trans i00 i2 l2;try dsimp only
   split;·exact(hK υ r l02 i3 hr).mono (by omega)
   try dsimp only
   split;·rename_i hz;refine(hA υ l02 i3 λ hb=>?_).mono (by omega);obtain⟨r1,r2,r3⟩:=hps hb;exact absurd hz (hw0 r1.so r2)
   rename_i hw1 hw2;have hfu:Fur τ m h level/\υ=τ:=by
    rcases hf with h|h|h;·exact absurd h hw2
    ·exact absurd h hw1
    ·exact h
   obtain⟨hfu,eυ⟩:=hfu;subst eυ;refine Xn hX (hT.up l01) i2 hi2 hm hs hl hfu λ χ b l3 i4 hb hbf=>?_;have l03:=l01.trans i00 i2 l3;try dsimp only
   split;·rename_i hb0;refine(hA χ l03 i4 λ hx=>?_).mono (by omega);obtain⟨r1,r2,r3⟩:=hps hx;exact absurd hb0 (hbf r1.so r2).1
   ·rename_i hb0;rcases hb with hb|hb;·exact absurd hb hb0
    ·have hu2:fT h (w++[sl h level]):=by rw[hl];exact rQ hu
     have e2:nn+40*(11-level)=nn+40*(12-(level+1)):=by omega
     rw[e2];refine My hX hT i00 hk hK hA q χ b i (w++[sl h level]) (level+1) l03 i4 hb hu2 (by rw[List.length_append,hl];rfl) (λ _=>⟨w,g,hi2.up l3,by rw[List.length_append];rfl⟩) λ hx=>?_;obtain⟨r1,r2,r3⟩:=hps hx;obtain⟨b1,b2,b3,b4⟩:=hbf r1.so r2;exact⟨r1.r5 i2 (hT.up l01) hi2 hm hl r2 hfu l3 hb b2 b3 b4,λ _=>r1.sp.fl i2 l3 b3 (by omega)⟩
theorem aAg{σ0:Kw}{K:Rs->Tr}(hX:Fm X)(hb:X.b=true)(hC:500<=X.C)(hAp:∀q,X.A (vN c h K (q+1)))(hT:bY σ0 c.t)(i00:Inv X.H σ0)(hk:Pn X.H c h)(hK:∀τ r,Le σ0 τ->Inv X.H τ->r.root=0->XT X (K r) 0 τ):∀(q:Nat) (σ:Kw),Le σ0 σ->Inv X.H σ->XT X (vN c h K q) 0 σ
 | 0,_,_,_=>trivial
 | q+1,σ,l,i1=>by
  have hbf:∀{p:Prop},X.b=false->p:=λ h=>by rw[hb] at h;cases h
  refine XT.fresh (hAp q) ?_;refine XT.mono (show 0+480+15<=X.C+1 by omega) ?_;refine xA hX.toaw (hT.up l) i1 λ τ i l1 i2 hi _=>cS hi.in.2 ?_;have l01:=l.trans i00 i1 l1;exact My (J:=12) (g:=(τ.nd i).gen) hX hT i00 hk hK (λ υ l2 i3 _=>aAg hX hb hC hAp hT i00 hk hK q υ l2 i3) q τ i 0 [] 0 l01 i2 ⟨hi,rfl⟩ (Lr h) rfl (λ h=>absurd h (by decide)) hbf
theorem aDq{K:Rs->Tr}(hX:Fm X)(hro:c.t.ro=false)(hT:bY σ0 c.t)(i00:Inv X.H σ0)(hk:Pn X.H c h)(hK:∀τ r,Le σ0 τ->Inv X.H τ->r.root=0->XT X (K r) nn τ)(hb:X.b=false):∀(J:Nat),J<=12->∀(q:Nat) (σ:Kw),Le σ0 σ->Inv X.H σ->(J=12∨∃g,K5 X σ c.t g/\Ed σ c.t h g J)->XT X (vN c h K q) (nn+500*(J+1)) σ:=by
 intro J;induction J using Nat.strongRecOn with
 | ind J ih=>
  intro hJ q σ l i1 hE;cases q with
  | zero=>exact trivial
  | succ q=>
   refine XT.mono (show(nn+500*J)+480+15<=_ by omega) ?_;refine xA hX.toaw (hT.up l) i1 λ τ i l1 i2 hi hh=>cS hi.in.2 ?_;have l01:=l.trans i00 i1 l1;have hr:=hh.r hb;have so:K5 X τ c.t (τ.nd i).gen:=⟨hb,hro,by rw[hr];exact hi.1,by rw[hr]⟩;refine My (J:=J) (g:=(τ.nd i).gen) hX hT i00 hk (λ υ r a b d=>(hK υ r a b d).mono (by omega)) (λ υ l2 i3 hA=>?_) q τ i 0 [] 0 l01 i2 ⟨hi,rfl⟩ (Lr h) rfl (λ h=>absurd h (by decide)) λ _=>⟨⟨so,⟨hr,hi.1,by rw[hi.2];rfl⟩,?_,Nat.zero_le _⟩,λ h=>absurd h (by decide)⟩
   ·obtain⟨a,j,hj,he⟩:=hA hb;exact(ih j hj (by omega) q υ l2 i3 (.inr ⟨_,a,he⟩)).mono (by omega)
   ·rcases hE with e|⟨g,a,he⟩;·exact .inl e
    ·have e:=hh.e hb a.k2;subst e;have hg:g=(τ.nd i).gen:=by rw[<- a.gen,hr]
     rw[<- hg];exact .inr he
end
end
section
section
variable{X:Xp}{σ τ υ:Kw}{i m p g v:Int}{w:List Nat}{t:dW}{n:Nat}{c:Cl}{h:Nat}{H:ByteArray->Nat}
theorem aCJ{nn:Nat}{σ0:Kw}{path:List Int}{K:Tr}(hX:Fm X)(hT:bY σ0 t)(i0:Inv X.H σ0)(hp:D8 σ0 path h g)(hK:∀τ,Le σ0 τ->Inv X.H τ->XT X K nn τ):∀(l:Nat) (σ:Kw),Le σ0 σ->Inv X.H σ->l<path.length->XT X (upT t path h K l) (nn+40*l) σ
 | 0,σ,l,i1,_=>hK σ l i1
 | q+1,σ,l,i1,hl=>by
  have hp1:=hp.up l;have e:nn+40*(q+1)=nn+40*q+30+10:=by omega
  rw[e];refine pR hX.toaw (hT.up l) i1 (hp1 (q+1) hl) λ τ m l1 i2 hm _ _=>cS hm.in.2 ?_;have l01:=l.trans i0 i1 l1;try dsimp only
  split;·exact O4 hX (n:=nn+40*q) (hT.up l01) i2 ((hp1.up l1) q (by omega)) (by rw[fY]) ((hp1.up l1) (q+1) hl).1.1 λ υ _ l2 i3 _=>aCJ hX hT i0 hp hK q υ (l01.trans i0 i2 l2) i3 (by omega)
  ·exact(hK τ l01 i2).mono (by omega)
theorem Hi{J nk:Nat}{σ0:Kw}{K:Rs->Tr}{again:Tr}(hX:Fm X)(hT:bY σ0 c.t)(i00:Inv X.H σ0)(hK:∀τ r,Le σ0 τ->Inv X.H τ->r.root=0->XT X (K r) nk τ)
  (hA:∀τ,Le σ0 τ->Inv X.H τ->(X.b=false->K5 X τ c.t g/\∃j,j<J/\Ed τ c.t h g j)->XT X again (nk+440) τ):∀(q:Nat) (σ:Kw) (i:Int) (path:List Int) (level:Nat),Le σ0 σ->Inv X.H σ->qU σ i (uR h level) g->D8 σ path h g->path.length=level+1 ->
  (X.b=false->PS X σ c.t h g J i level/\∀k,k<path.length->SP σ c.t h g k (path.getD k 0))->XT X (xQ c h K again g q i path level) (nk+440+40*(12-level)) σ
 | 0,_,_,_,_,_,_,_,_,_,_=>trivial
 | q+1,σ,i,path,level,l,i1,hi,hp,hpl,hs0=>by
  have hw:=(hi.E6 i1).2.2;rw[fY] at hw;have hT1:=hT.up l;have e:nk+440+40*(12-level)=(nk+440+40*(11-level)+30)+10:=by omega
  rw[e];refine pR hX.toaw hT1 i1 hi λ τ m l1 i2 hm hs fr=>cS hm.in.2 ?_;have l01:=l.trans i00 i1 l1;have hi2:=hi.up l1;have hp2:=hp.up l1;have hlw:level=(uR h level).length:=(fY h level).symm;have eni:(τ.nd i).main=(σ.nd i).main:=by rw[l1.nd hi.in.2]
  have hps:X.b=false->PS X τ c.t h g J i level/\τ.ce (τ.nd i).main=m/\∀k,k<path.length->SP τ c.t h g k (path.getD k 0):=λ hb=>by obtain⟨q1,q2⟩:=hs0 hb;obtain⟨r1,r2,r3⟩:=q1.read i1 hT1 l1 fr;exact⟨r1,by rw[eni];exact r2,λ k hk=>(q2 k hk).fl i1 l1 r3 (by omega)⟩
  try dsimp only
  split
  ·rename_i h5;have h0:=((i2.nd m hm.in.1 hm.in.2).k5 h5).1;rw[hm.2.1,fY] at h0;refine(O4 hX (n:=nk+440+40*(11-level)) (hT.up l01) i2 (hp2 (level-1) (by omega)) (by rw[fY];omega) hi2.1.1 λ υ _ l2 i3 hc=>(hA υ (l01.trans i00 i2 l2) i3 λ hb=>?_).mono (by omega));obtain⟨r1,r2,r3⟩:=hps hb
   exact r1.clean i2 (hT.up l01) (hp2 (level-1) (by omega)) (by rw[fY];omega) (r3 (level-1) (by omega)) r2 hs h5 l2 hc
  ·rename_i h5;refine(V0 hX (n:=nk+440+40*(11-level)+20) (hT.up l01) i2 hi2 hm hs (uB h level) hlw h5 λ υ r what l2 i3 hr hf hw0=>?_);have l02:=l01.trans i00 i2 l2;try dsimp only
   split
   ·try dsimp only
    split;·refine(aCJ (nn:=nk) hX (hT.up l02) i3 (hp2.up l2) (λ χ l3 i4=>hK χ r (l02.trans i00 i3 l3) i4 hr) (path.length-1) υ (Le.refl υ) i3 (by omega)).mono (by omega)
    ·exact(hK υ r l02 i3 hr).mono (by omega)
   try dsimp only
   split;·rename_i hz;refine(hA υ l02 i3 λ hb=>?_).mono (by omega);obtain⟨r1,r2,r3⟩:=hps hb;exact absurd hz (hw0 r1.so r2)
   rename_i hw1 hw2;have hfu:Fur τ m h level/\υ=τ:=by
    rcases hf with h|h|h;·exact absurd h hw2
    ·exact absurd h hw1
    ·exact h
   obtain⟨hfu,eυ⟩:=hfu;subst eυ;refine Xn hX (hT.up l01) i2 hi2 hm hs hlw hfu λ χ b l3 i4 hb hbf=>?_;have l03:=l01.trans i00 i2 l3;try dsimp only
   split;·rename_i hb0;refine(hA χ l03 i4 λ hx=>?_).mono (by omega);obtain⟨r1,r2,r3⟩:=hps hx;exact absurd hb0 (hbf r1.so r2).1
   ·rename_i hb0;rcases hb with hb|hb;·exact absurd hb hb0
    ·have hb2:=hb;rw[<- K1] at hb;have e2:nk+440+40*(11-level)=nk+440+40*(12-(level+1)):=by omega
     rw[e2];refine Hi hX hT i00 hK hA q χ b (path++[b]) (level+1) l03 i4 hb ((hp2.up l3).snoc (by rw[hpl];exact hb)) (by rw[List.length_append,hpl];rfl) λ hx=>?_;obtain⟨r1,r2,r3⟩:=hps hx;obtain⟨b1,b2,b3,b4⟩:=hbf r1.so r2;have hd:=r1.r5 i2 (hT.up l01) hi2 hm hlw r2 hfu l3 hb2 b2 b3 b4;rw[fY] at b3;refine⟨hd,λ k hk=>?_⟩;rw[List.length_append,List.length_singleton] at hk;rw[iX];by_cases ek:k<path.length
     ·rw[List.getElem?_append_left ek,<- iX];exact(r3 k ek).fl i2 l3 b3 (by omega)
     ·have:k=path.length:=by omega
      subst this;have:=hd.sp;rw[<- hpl] at this;simpa using this
theorem nq{σ0:Kw}{K:Rs->Tr}(hX:Fm X)(hb:X.b=true)(hC:1000<=X.C)(hAp:∀q,X.A (sA c h K (q+1)))(hT:bY σ0 c.t)(i00:Inv X.H σ0)(hK:∀τ r,Le σ0 τ->Inv X.H τ->r.root=0->XT X (K r) 0 τ):∀(q:Nat) (σ:Kw),Le σ0 σ->Inv X.H σ->XT X (sA c h K q) 0 σ
 | 0,_,_,_=>trivial
 | q+1,σ,l,i1=>by
  have hbf:∀{p:Prop},X.b=false->p:=λ h=>by rw[hb] at h;cases h
  refine XT.fresh (hAp q) ?_;refine XT.mono (show 0+440+480+15<=X.C+1 by omega) ?_;refine xA hX.toaw (hT.up l) i1 λ τ i l1 i2 hi _=>cS hi.in.2 ?_;have l01:=l.trans i00 i1 l1;refine Hi (J:=12) (g:=(τ.nd i).gen) hX hT i00 hK (λ υ l2 i3 _=>(nq hX hb hC hAp hT i00 hK q υ l2 i3).mono (by omega)) q τ i [i] 0 l01 i2 ⟨hi,rfl⟩ (λ k hk=>?_) rfl hbf;have:k=0:=by simpa using hk
  subst this;exact⟨hi,rfl⟩
theorem aA4{nk:Nat}{σ0:Kw}{K:Rs->Tr}(hX:Fm X)(hro:c.t.ro=false)(hT:bY σ0 c.t)(i00:Inv X.H σ0)(hK:∀τ r,Le σ0 τ->Inv X.H τ->r.root=0->XT X (K r) nk τ)(hb:X.b=false):∀(J:Nat),J<=12->∀(q:Nat) (σ:Kw),Le σ0 σ->Inv X.H σ->(J=12∨∃g,K5 X σ c.t g/\Ed σ c.t h g J)->XT X (sA c h K q) (nk+440+500*(J+1)) σ:=by
 intro J;induction J using Nat.strongRecOn with
 | ind J ih=>
  intro hJ q σ l i1 hE;cases q with
  | zero=>exact trivial
  | succ q=>
   refine XT.mono (show(nk+500*J)+440+480+15<=_ by omega) ?_;refine xA hX.toaw (hT.up l) i1 λ τ i l1 i2 hi hh=>cS hi.in.2 ?_;have l01:=l.trans i00 i1 l1;have hr:=hh.r hb;have so:K5 X τ c.t (τ.nd i).gen:=⟨hb,hro,by rw[hr];exact hi.1,by rw[hr]⟩;have sp0:SP τ c.t h (τ.nd i).gen 0 i:=⟨hr,hi.1,by rw[hi.2];rfl⟩;refine Hi (J:=J) (g:=(τ.nd i).gen) hX hT i00 (λ υ r a b d=>(hK υ r a b d).mono (by omega)) (λ υ l2 i3 hA=>?_) q τ i [i] 0 l01 i2 ⟨hi,rfl⟩ (λ k hk=>?_) rfl λ _=>⟨⟨so,sp0,?_,Nat.zero_le _⟩,λ k hk=>?_⟩
   ·obtain⟨a,j,hj,he⟩:=hA hb;exact(ih j hj (by omega) q υ l2 i3 (.inr ⟨_,a,he⟩)).mono (by omega)
   ·have:k=0:=by simpa using hk
    subst this;exact⟨hi,rfl⟩
   ·rcases hE with e|⟨g,a,he⟩;·exact .inl e
    ·have e:=hh.e hb a.k2;subst e;have hg:g=(τ.nd i).gen:=by rw[<- a.gen,hr]
     rw[<- hg];exact .inr he
   ·have:k=0:=by simpa using hk
    subst this;exact sp0
end
end
section
section
variable{X:Xp}{σ τ υ:Kw}{i m p g v:Int}{w:List Nat}{t:dW}{n:Nat}{c:Cl}{h:Nat}{H:ByteArray->Nat}
structure Qok(X:Xp):Prop where
 q:∀r σ,Q0 r σ->X.Q r σ
theorem rB{r:Rs}(hq:Qok X)(h:Q0 r σ):XT X (.done r) n σ:=.inr (hq.q r σ h)
theorem sH{r:Rs}(h:r.root=0):Q0 r σ:=λ h0=>by rw[h] at h0;exact absurd h0 (by decide)
theorem m9{g':Int}(hX:Fm X)(hq:Qok X)(i0:Inv X.H σ)(hm:oQ σ m [] g')(hs:bC σ m)(hg:g'<=σ.mm.gen):XT X (L8 m .done) n σ:=by
 have hgen:=i0.gen;refine qc hX i0 λ υ l1 i1 e1=>?_;have e2:υ.mm.gen=σ.mm.gen+1:=by rw[e1]
 exact Bl (g:=σ.mm.gen+1) hX i1 (by omega) (by omega) (by simp) (hm.up l1) (bC.up i0 hm.1 hs l1) (by omega) λ τ j l2 i2 hj _=>To hX false i2 hj.1 λ ρ c l3 i3 h0 hc=>rB hq λ _=>hc
theorem N8(e:υ.mm=⟨σ.mm.nodes,σ.mm.cs,σ.mm.gen+1⟩):Kd σ υ:=λ x _=>by show bK υ.mm.cs x=_;rw[e]
theorem dp{r:Int}(hT:bY σ t)(i1:Inv X.H τ)(l2:Le τ υ)(hb:X.b=false)(hr:τ.ce t.root=r)(hI:uW τ r [])(hT1:bY τ t)(hm:τ.ce (τ.nd r).main=m)(hk:cB (τ.nd m))(hs:bC τ m)(f:Kd τ υ):RcS X υ t r m :=⟨hb,by rw[f _ hT1.2.1];exact hr,by rw[l2.nd hI.in.2,f _ (i1.eH hI.1).2.1];exact hm,bC.up i1 hk hs l2⟩
theorem W5{fz:Bool}{again:Tr}(hX:Fm X)(hq:Qok X)(hT:bY σ t)(hr0:t.ro=false)(i0:Inv X.H σ)(hA:∀τ,Le σ τ->Inv X.H τ->X.b=true->XT X again n τ) :
  XT X (kI t λ r=>iM t r λ m=>.gen λ g=>.alloc (oA g) m λ j=>wI t r m j λ ok =>
   if ok=true then(if fz=true then .cell r λ c=>.done (Ki c true) else L8 m .done) else again) (n+39) σ:=by
 refine xA hX.toaw (n:=n+24) hT i0 λ τ r l1 i2 hr hh=>?_;have hg:=hr.Jt.E6 i2;refine pR hX.toaw (n:=n+14) (hT.up l1) i2 hr.Jt λ υ m l2 i3 hm hs fr=>?_;have l02:=l1.trans i0 i2 l2;have hgen:=l2.gen;refine qc hX i3 λ ρ l3 i4 e3=>?_;have l03:=l02.trans i0 i3 l3;have e3':ρ.mm.gen=υ.mm.gen+1:=by rw[e3]
 refine Bl (g:=υ.mm.gen+1) hX i4 (by have:=i3.gen;omega) (by omega) (by simp) (hm.up l3) (bC.up i3 hm.1 hs l3) (by omega) λ χ j l4 i5 hj aj=>?_;have l04:=l03.trans i0 i4 l4;have l24:=(l2.trans i2 i3 l3).trans i2 i4 l4;have hm4:=(hm.up l3).up l4;refine Nr hX (hT.up l04) hr0 i5 (hr.up l24) hj.1 hm4.in.1 hm4.in.2 λ ψ ok l5 i6 hok=>?_;have l05:=l04.trans i0 i5 l5;try dsimp only
 split
 ·try dsimp only
  split;·exact To hX true i6 ((hr.up l24).up l5) λ ω c l6 i7 h0 hc=>rB hq λ _=>hc
  ·exact m9 hX hq i6 (hm4.up l5) (bC.up i3 hm.1 hs ((l3.trans i3 i4 l4).trans i3 i5 l5)) (by have:=l5.gen;have:=l4.gen;have:=l3.gen;omega)
 ·rename_i hno;cases hb:X.b with
  | true=>exact hA ψ l05 i6 hb
  | false=>have hr1:=hh.r hb;have fs:=fr.s hb (by rw[hr1];exact hr.1);have l34:=l3.trans i3 i4 l4;refine absurd (hok (dp (hT.up l02) i3 l34 hb ?_ (hr.up l2) (hT.up l02) (by rw[l2.nd hr.in.2];exact fs.1) hm.1 hs ((N8 e3).trans l3 aj.Sl))) hno;rw[xC (hT.up l1) fs.2];exact hr1
theorem Sc{again:Tr}(hX:Fm X)(hq:Qok X)(hT:bY σ t)(hr0:t.ro=false)(i0:Inv X.H σ)(hA:∀τ,Le σ τ->Inv X.H τ->X.b=true->XT X again n τ) :
  XT X (kI t λ r=>iM t r λ m=>.alloc Jm 0 λ c=>.gen λ g=>.alloc (oA g) c λ j=>wI t r m j λ ok=>if ok=true then .done (dM true 0) else again) (n+39) σ:=by
 refine xA hX.toaw (n:=n+24) hT i0 λ τ r l1 i2 hr hh=>?_;have hg:=hr.Jt.E6 i2;refine pR hX.toaw (n:=n+14) (hT.up l1) i2 hr.Jt λ υ m l2 i3 hm hs fr=>?_;have l02:=l1.trans i0 i2 l2;have hgu:=i3.gen;have hnew:lF X.H υ Jm ([]:List Nat) (υ.mm.gen+1):=nY (b:=0) (xs:=[]) i3 Nt (λ j hj v hv=>by simp[nW] at hv) (by simp) (λ h=>absurd h (by decide));refine jM hX.al i3 hnew (sK i3 (λ e=>dU (a:=3) (b:=2) e)) λ ρ e0 l3 i4 ae=>?_;have l03:=l02.trans i0 i3 l3;have hem:oQ ρ e0 [] (υ.mm.gen+1):=oJ (cl:=0) (.inl rfl) ae.nd ae.way ae.gb;have hgr:ρ.mm.gen=υ.mm.gen:=by rw[ae.mm];rfl
 refine qc hX i4 λ χ l4 i5 e4=>?_;have l04:=l03.trans i0 i4 l4;have e4':χ.mm.gen=ρ.mm.gen+1:=by rw[e4]
 refine Bl (g:=ρ.mm.gen+1) hX i5 (by omega) (by omega) (by simp) (hem.up l4) (bC.up i4 hem.1 (ae.prev (.inl rfl)) l4) (by omega) λ ψ j l5 i6 hj aj=>?_;have l05:=l04.trans i0 i5 l5;have l35:=(l3.trans i3 i4 l4).trans i3 i5 l5;have l25:=l2.trans i2 i3 l35;have hm5:=((hm.up l3).up l4).up l5;refine Nr hX (hT.up l05) hr0 i6 (hr.up l25) hj.1 hm5.in.1 hm5.in.2 λ ω ok l6 i7 hok=>?_;try dsimp only
 split;·exact rB hq (sH rfl)
 ·rename_i hno;cases hb:X.b with
  | true=>exact hA ω (l05.trans i0 i6 l6) i7 hb
  | false=>have hr1:=hh.r hb;have fs:=fr.s hb (by rw[hr1];exact hr.1);refine absurd (hok (dp (hT.up l02) i3 l35 hb ?_ (hr.up l2) (hT.up l02) (by rw[l2.nd hr.in.2];exact fs.1) hm.1 hs ((ae.Sl.trans l3 (N8 e4)).trans (l3.trans i3 i4 l4) aj.Sl))) hno;rw[xC (hT.up l1) fs.2];exact hr1
def Apt(c:Cl)(h:Nat)(t:Tr):Prop :=(c.kind=8/\refuse c=0/\∃q,t=vN c h .done (q+1))∨(c.kind=9/\∃q,t=sA c h .done (q+1))∨((c.kind=10∨c.kind=11)/\c.t.ro=false/\∃fz q,t=Jf c.t fz .done (q+1))∨(c.kind=12/\∃q,t=wT c.t .done (q+1))
def XF(H:ByteArray->Nat)(c:Cl)(h:Nat):Xp:=⟨H,Q0,Apt c h,1000,λ _=>False,RF H,true,false⟩
def s7(H:ByteArray->Nat):Xp:=⟨H,Q0,λ _=>False,0,λ _=>False,RF H,false,false⟩
theorem qy{fz:Bool}(hk:c.kind=10∨c.kind=11)(hT:bY σ c.t)(hr0:c.t.ro=false)(i0:Inv H σ):∀(q:Nat) (σ':Kw),Le σ σ'->Inv H σ'->XT (XF H c h) (Jf c.t fz .done q) 0 σ'
 | 0,_,_,_=>trivial
 | q+1,σ',l,i1=>XT.fresh (X:=XF H c h) (.inr (.inr (.inl ⟨hk,hr0,fz,q,rfl⟩))) (XT.mono (show 0+39<=1000+1 by omega) (W5 (X:=XF H c h) ⟨Yb rfl,rfl⟩ ⟨λ _ _ h=>h⟩ (hT.up l) hr0 i1 λ τ l2 i2 _=>qy hk hT hr0 i0 q τ (l.trans i0 i1 l2) i2))
theorem X4(hk:c.kind=12)(hT:bY σ c.t)(hr0:c.t.ro=false)(i0:Inv H σ):∀(q:Nat) (σ':Kw),Le σ σ'->Inv H σ'->XT (XF H c h) (wT c.t .done q) 0 σ'
 | 0,_,_,_=>trivial
 | q+1,σ',l,i1=>XT.fresh (X:=XF H c h) (.inr (.inr (.inr ⟨hk,q,rfl⟩))) (XT.mono (show 0+39<=1000+1 by omega) (Sc (X:=XF H c h) ⟨Yb rfl,rfl⟩ ⟨λ _ _ h=>h⟩ (hT.up l) hr0 i1 λ τ l2 i2 _=>X4 hk hT hr0 i0 q τ (l.trans i0 i1 l2) i2))
theorem aCc(i0:Inv H σ)(hc:Tp H σ c h)(q:Nat):XT (XF H c h) (kN c h q) 1000 σ:=by
 have hX:Fm (XF H c h):=⟨Yb rfl,rfl⟩;have hq:Qok (XF H c h):=⟨λ _ _ h=>h⟩;have i0':Inv (XF H c h).H σ:=i0;have hA:∀(τ:Kw) (r:Rs),Le σ τ->Inv (XF H c h).H τ->r.root=0->XT (XF H c h) (.done r) 0 τ:=λ τ r _ _ hr=>rB hq (sH hr);have ek:=hc.k;unfold kN;try dsimp only
 split;·exact rB hq (sH rfl)
 rename_i hr0;have hr:refuse c=0:=Classical.byContradiction hr0;have hkey:c.kind=7∨c.kind=8∨c.kind=9->Pn H c h:=λ e=>⟨Lb hr e,hc.ha,hc.hl⟩;try dsimp only
 split
 ·rename_i e;rcases ek with h|h|⟨_,w,g,h⟩|⟨h,_⟩|⟨h,_⟩;·omega
  ·omega
  ·exact(pR hX.toaw hc.t i0' h (n:=0) λ τ m l1 i1 _ _ _=>rB hq (sH rfl)).mono (by omega)
  ·omega
  ·omega
 try dsimp only
 split
 ·rename_i e1 e;rcases ek with h|h|⟨h,_⟩|⟨_,w,g,h1,h2⟩|⟨h,_⟩;·omega
  ·omega
  ·omega
  ·exact(Dt hX.toaw hc.t i0' h1 h2 (n:=0) λ τ b l1 i1 _=>rB hq (sH rfl)).mono (by omega)
  ·omega
 try dsimp only
 split;·exact(xA hX.toaw hc.t i0' (n:=0) λ τ r l1 i1 _ _=>rB hq (sH rfl)).mono (by omega)
 try dsimp only
 split
 ·rename_i e1 e2 e3 e;rcases ek with h|h|⟨h,_⟩|⟨h,_⟩|⟨_,h1,h2,h3,h4⟩;·omega
  ·omega
  ·omega
  ·omega
  ·exact(Nr hX hc.t (hc.ro (.inr (.inr (.inr (by assumption))))) i0' h1 h2 h3 h4 (n:=0) λ τ b l1 i1 _=>rB hq (sH rfl)).mono (by omega)
 try dsimp only
 split;·refine XT.mono (show 120+15<=1000 by omega) (xA hX.toaw hc.t i0' λ τ r l1 i1 hr _=>?_);exact(jn (K:=Tr.done) (n:=0) hX hc.t i0' hA q τ r [] _ 0 l1 i1 hr.Jt).mono (by simp)
 try dsimp only
 split;·rename_i e;exact(aAg hX rfl (show 500<=1000 by omega) (λ q=>.inl ⟨e,hr,q,rfl⟩) hc.t i0' (hkey (.inr (.inl e))) hA q σ (Le.refl σ) i0).mono (by omega)
 try dsimp only
 split;·rename_i e;exact(nq hX rfl (show 1000<=1000 by omega) (λ q=>.inr (.inl ⟨e,q,rfl⟩)) hc.t i0' hA q σ (Le.refl σ) i0).mono (by omega)
 have hsnap:∀fz,(c.kind=10∨c.kind=11)->XT (XF H c h) (uP c.t fz .done q) 1000 σ:=λ fz hk=>by
  unfold uP;try dsimp only
  split
  ·rename_i hro;refine XT.mono (show 10+1<=1000 by omega) (pX λ τ hg=>?_);have hv:=(hc.t.up hg.le).roI hg.inv hro;try dsimp only
   split;·exact To hX true hg.inv hv λ ω c l6 i7 h0 hc=>rB hq λ _=>hc
   ·have hgg:=hv.Jt.E6 hg.inv;exact pR hX.toaw (n:=0) (hc.t.up hg.le) hg.inv hv.Jt λ υ m l2 i2 hm hs _=>m9 hX hq i2 hm hs (by have:=l2.gen;omega)
  ·rename_i hro;exact(qy hk hc.t (by simpa using hro) i0 q σ (Le.refl σ) i0).mono (by omega)
 try dsimp only
 split;·exact hsnap false (.inl (by assumption))
 try dsimp only
 split;·exact hsnap true (.inr (by assumption))
 ·have hk:c.kind=12:=by omega
  exact(X4 hk hc.t (hc.ro (.inr (.inr (.inl hk)))) i0 q σ (Le.refl σ) i0).mono (by omega)
theorem aDw{t:Tr}(i0:Inv H σ)(hT:bY σ c.t)(hl:h<18446744073709551616)(ha:H c.key=h)(hro:c.kind=8∨c.kind=9∨c.kind=12∨c.kind=4->c.t.ro=false)(hp:Apt c h t):XT (s7 H) t 7000 σ:=by
 have hX:Fm (s7 H):=⟨Yb rfl,rfl⟩;have hq:Qok (s7 H):=⟨λ _ _ h=>h⟩;have i0':Inv (s7 H).H σ:=i0;have hA:∀(τ:Kw) (r:Rs),Le σ τ->Inv (s7 H).H τ->r.root=0->XT (s7 H) (.done r) 0 τ:=λ τ r _ _ hr=>rB hq (sH hr);rcases hp with⟨hk,hr,q,e⟩|⟨hk,q,e⟩|⟨hk,hr0,fz,q,e⟩|⟨hk,q,e⟩<;>subst e
 ·exact(aDq hX (hro (.inl hk)) hT i0' ⟨Lb hr (.inr (.inl hk)),ha,hl⟩ hA rfl 12 (Nat.le_refl _) (q+1) σ (Le.refl σ) i0 (.inl rfl)).mono (by omega)
 ·exact(aA4 hX (hro (.inr (.inl hk))) hT i0' hA rfl 12 (Nat.le_refl _) (q+1) σ (Le.refl σ) i0 (.inl rfl)).mono (by omega)
 ·exact XT.mono (show 0+39<=7000 by omega) (W5 hX hq hT hr0 i0' λ _ _ _ h=>nomatch h)
 ·exact XT.mono (show 0+39<=7000 by omega) (Sc hX hq hT (hro (.inr (.inr (.inl hk)))) i0' λ _ _ _ h=>nomatch h)
end
end
end Go.Proofs.YtbajmaoegmbfgaaGreat
namespace Go.Ct
open Go Go.RowKit
section
def Az:Mm:=⟨[fG.c,fG.c,dI (({Nd.zero with kind:=3}:Nd).c [] []) 0,dI (({Nd.zero with kind:=2,gen:=1}:Nd).c [] []) 1],[0,3,4],1⟩
end
end Go.Ct
namespace Go.Proofs.YtbajmaoegmbfgaaGreat
section
open Go Go.RowKit Go.Ct
open Classical in
noncomputable def H8 (m:Nat) (k:ByteArray):Nat:=if k∈gT then jQ k m else 18446744073709551616
theorem aAa{m h:Nat}{k:ByteArray}(e:H8 m k=h)(hl:h<18446744073709551616):k∈gT/\jQ k m=h:=by
 unfold H8 at e;split at e;·exact⟨by assumption,e⟩
 ·omega
inductive WR(H:ByteArray->Nat)(m:Nat):Mm->List dW->List Tr->Prop where
 | new:WR H m Az [⟨3,false⟩] []
 | start {s s':Mm} {ts:List dW} {rs:List Tr} {k:Cl} {n j:Nat} {t':Tr} (h:WR H m s ts rs) (hk:∀σ:Kw,σ.mm=s->Inv H σ->(∀t∈ts,bY σ t)->Tp H σ k (jQ k.key m)) (hr:Rc j (kN k (jQ k.key m) n) s t' s') (ha:dK t'=true):WR H m s' ts (t'::rs)
 | step {s s':Mm} {ts:List dW} {rs:List Tr} {j:Nat} {t t':Tr} (h:WR H m s ts (t::rs)) (hr:Rc j t s t' s') (ha:dK t'=true):WR H m s' ts (t'::rs)
 | perm {s:Mm} {ts:List dW} {rs rs':List Tr} (h:WR H m s ts rs) (hp:rs.Perm rs'):WR H m s ts rs'
 | drop {s:Mm} {ts:List dW} {rs:List Tr} {r:Rs} (h:WR H m s ts (.done r::rs)):WR H m s ts rs
 | add {s:Mm} {ts:List dW} {rs:List Tr} {r:Rs} (h:WR H m s ts (.done r::rs)) (h0:0<r.root):WR H m s (ts++[⟨r.root,r.ro⟩]) (.done r::rs)
def kw0:Kw:=⟨⟨[fG.c,fG.c],[],0⟩,λ _=>[],λ _=>0,λ _=>.no⟩
theorem aAN{r:Int}(h1:1<=r)(h2:r<=2):kw0.nd r=fG.c:=by
 have:r=1∨r=2:=by omega
 rcases this with rfl|rfl<;>rfl
theorem Xx(H:ByteArray->Nat):Inv H kw0:=by
 refine⟨by decide,rfl,rfl,Int.le_refl _,Rk (Int.le_refl _),λ r h1 h2=>?_,λ c h1 h2=>?_⟩
 ·have h2':r<=2:=h2;have e:=aAN h1 h2';have hok:=Ol (gen:=0) (n:=2) (Int.le_refl _);refine⟨by rw[e];exact hok.1,by rw[e];exact Int.le_refl _,by rw[e];exact⟨bN _,bN _,bN _,(λ r hr=>nomatch hr),bN _,bN _,bN _,jX,jX⟩,λ k=>?_,λ k=>?_,λ k=>?_,λ k=>?_,λ k=>?_,λ k=>?_,λ k=>?_⟩<;>rw[e] at k
  ·exact dU (a:=1) (b:=2) k
  ·exact dU (a:=1) (b:=3) k
  ·exact dU (a:=1) (b:=4) k
  ·exact dU (a:=1) (b:=5) k
  ·exact dU (a:=1) (b:=6) k
  ·exact dU (a:=1) (b:=7) k
  ·exact dU (a:=1) (b:=8) k
 ·exact absurd h2 (by show ¬c<=((0:Nat):Int);omega)
def Wp:Tr:=.alloc Jm 0 λ c=>.gen λ g=>.alloc (oA g) c λ j=>.cell j λ r=>.done (Ki r false)
theorem Zf{H:ByteArray->Nat}{σ:Kw}(i0:Inv H σ):WT H Q0 Wp σ:=by
 have hg:=i0.gen;have hnew:lF H σ Jm ([]:List Nat) (σ.mm.gen+1):=nY (b:=0) (xs:=[]) i0 Nt (λ j hj v hv=>by simp[nW] at hv) (by simp) (λ h=>absurd h (by decide));refine Q9 i0 hnew (sK i0 (λ e=>dU (a:=3) (b:=2) e)) λ ρ e0 cl l3 i4 _ em e1 e2 e3 h1 h2=>?_;have hem:oQ ρ e0 [] (σ.mm.gen+1):=oJ (cl:=0) (.inl rfl) e1 e2 e3;have hgr:ρ.mm.gen=σ.mm.gen:=by rw[em];rfl
 refine ow i4 λ χ l4 i5 e4=>?_;exact m4 (g:=ρ.mm.gen+1) i5 (by omega) (by omega) (by simp) (hem.up l4) (by omega) λ ψ j l5 i6 hj=>Y2 false i6 hj.1 λ ω c l6 i7 h0 hc=>λ _=>hc
theorem bs:Rc 0 Wp kw0.mm (.done (Ki 3 false)) Az :=.eF (.eF (.eF (.eF (Rc.refl _ _) (Sp.alloc _ _ _ _)) (Sp.gen _ _)) (Sp.alloc _ _ _ _)) (Sp.cell _ _ _)
end
section
open Go Go.RowKit Go.Ct
section
variable{H:ByteArray->Nat}{σ τ υ:Kw}
structure OpK(H:ByteArray->Nat)(t:Tr)(σ:Kw)(c:Cl)(h n:Nat):Prop where
 le:n<=1000
 xt:XT (XF H c h) t n σ
 ok:bY σ c.t
 hl:h<18446744073709551616
 ha:H c.key=h
 ro:c.kind=8∨c.kind=9∨c.kind=12∨c.kind=4->c.t.ro=false
def QM(H:ByteArray->Nat)(rs:List Tr)(σ:Kw):Prop:=∀i,(σ.nd i).kind=2->bC σ (σ.ce (σ.nd i).main)∨∃t∈rs,∃n,XT (X0 H (OkM i (σ.ce (σ.nd i).main))) t n σ
def QR(H:ByteArray->Nat)(rs:List Tr)(σ:Kw):Prop:=∀c:Int,1<=c->c<=σ.cl->σ.ct c=.root->(σ.nd (σ.ce c)).kind=2∨∃t∈rs,∃n,XT (X0 H (OkR c (σ.ce c))) t n σ
variable{t t':Tr}{n:Nat}{i:Int}{rs:List Tr}
theorem XT.up{X:Xp}(hb:X.b=true)(hQ:∀r,X.Q r σ->X.Q r υ)(i0:Inv X.H σ)(i1:Inv X.H υ)(l:Le σ υ)(ha:dK t=true)(h:XT X t n σ):X.E σ∨XT X t n υ:=by
 have hg:∀τ,Gg X υ τ->Gg X σ τ:=λ τ g=>⟨l.trans i0 i1 g.le,g.inv,λ e=>by rw[hb] at e;cases e⟩;cases t with
 | done r=>
  rcases h with h|h;·exact .inl h
  ·exact .inr (.inr (hQ r h))
 | load c k=>
  rcases h with h|⟨m,e,h⟩;·exact .inl h
  ·exact .inr (.inr ⟨m,e,λ τ g=>h τ (hg τ g)⟩)
 | kG c o v k=>
  rcases h with h|⟨m,e,h⟩;·exact .inl h
  ·exact .inr (.inr ⟨m,e,λ τ g=>h τ (hg τ g)⟩)
 | alloc n i k=>cases ha
 | cell i k=>cases ha
 | gen k=>cases ha
 | node r k=>cases ha
 | stuck=>cases ha
theorem OpK.up{t:Tr}{c:Cl}{h n:Nat}(i0:Inv H σ)(i1:Inv H υ)(l:Le σ υ)(ha:dK t=true)(k:OpK H t σ c h n):OpK H t υ c h n :=⟨k.le,(XT.up (X:=XF H c h) rfl (λ r hq=>hq.up l) i0 i1 l ha k.xt).resolve_left id,k.ok.up l,k.hl,k.ha,k.ro⟩
theorem zv{G:Kw->Prop}(i0:Inv H σ)(i1:Inv H υ)(l:Le σ υ)(ha:dK t=true)(h:XT (X0 H G) t n σ):G σ∨XT (X0 H G) t n υ:=XT.up (X:=X0 H G) (σ:=σ) (υ:=υ) rfl (λ _ h=>h) i0 i1 l ha h
theorem V8(h:OkM i (σ.ce (σ.nd i).main) σ):bC σ (σ.ce (σ.nd i).main):=h.resolve_left λ h=>h rfl
theorem ef(i0:Inv H σ)(hk:(σ.nd i).kind=2):cB (σ.nd (σ.ce (σ.nd i).main)):=(qU.ib (i:=i) (w:=σ.way i) (g:=(σ.nd i).gen) i0 ⟨⟨hk,rfl⟩,rfl⟩).1
theorem aBg(i0:Inv H σ)(i1:Inv H υ)(l:Le σ υ)(hrs:∀u∈rs,dK u=true)(hq:QM H (t::rs) σ)(hX:∀G n,XT (X0 H G) t n σ->G σ∨∃n',XT (X0 H G) t' n' υ)(hch:∀i,(σ.nd i).kind=2->υ.ce (σ.nd i).main≠σ.ce (σ.nd i).main->bC υ (υ.ce (σ.nd i).main)∨∃n,XT (X0 H (OkM i (υ.ce (σ.nd i).main))) t' n υ)(hnew:∀i,(υ.nd i).kind=2->(σ.len:Int)<i->bC υ (υ.ce (υ.nd i).main)):QM H (t'::rs) υ:=λ i hk=>by
 by_cases hi:i<=σ.len
 ·have en:=l.nd hi;rw[en] at hk ⊢;by_cases hs:υ.ce (σ.nd i).main=σ.ce (σ.nd i).main
  ·rw[hs];have hmk:=ef i0 hk;have hup:bC σ (σ.ce (σ.nd i).main)->bC υ (σ.ce (σ.nd i).main):=λ h=>bC.up i0 hmk h l;rcases hq i hk with h|⟨u,hu,n,h⟩
   ·exact .inl (hup h)
   ·rcases List.mem_cons.1 hu with e|hu
    ·subst e;rcases hX _ n h with h|⟨n',h⟩;·exact .inl (hup (V8 h))
     ·exact .inr ⟨t',List.mem_cons_self ..,n',h⟩
    ·rcases zv i0 i1 l (hrs u hu) h with h|h;·exact .inl (hup (V8 h))
     ·exact .inr ⟨u,List.mem_cons_of_mem _ hu,n,h⟩
  ·rcases hch i hk hs with h|⟨n,h⟩;·exact .inl h
   ·exact .inr ⟨t',List.mem_cons_self ..,n,h⟩
 ·exact .inl (hnew i hk (by omega))
theorem aAM(i0:Inv H σ)(i1:Inv H υ)(l:Le σ υ)(hrs:∀u∈rs,dK u=true)(hq:QR H (t::rs) σ)(hX:∀G n,XT (X0 H G) t n σ->G σ∨∃n',XT (X0 H G) t' n' υ)(hch:∀c:Int,1<=c->c<=σ.cl->σ.ct c=.root->υ.ce c≠σ.ce c->(υ.nd (υ.ce c)).kind=2∨∃n,XT (X0 H (OkR c (υ.ce c))) t' n υ)(hnew:∀c:Int,υ.ct c=.root->(σ.cl:Int)<c->c<=υ.cl->(υ.nd (υ.ce c)).kind=2):QR H (t'::rs) υ:=λ c h1 h2 hc=>by
 by_cases hi:c<=σ.cl
 ·rw[l.ct c hi] at hc;by_cases hs:υ.ce c=σ.ce c
  ·rw[hs];rcases hq c h1 hi hc with h|⟨u,hu,n,h⟩;·exact .inl (by rw[l.nd (kD h)];exact h)
   ·rcases List.mem_cons.1 hu with e|hu
    ·subst e;rcases hX _ n h with h|⟨n',h⟩;·exact absurd rfl h
     ·exact .inr ⟨t',List.mem_cons_self ..,n',h⟩
    ·rcases zv i0 i1 l (hrs u hu) h with h|h;·exact absurd rfl h
     ·exact .inr ⟨u,List.mem_cons_of_mem _ hu,n,h⟩
  ·rcases hch c h1 hi hc hs with h|⟨n,h⟩;·exact .inl h
   ·exact .inr ⟨t',List.mem_cons_self ..,n,h⟩
 ·exact .inl (hnew c hc (by omega) h2)
structure Ra(H:ByteArray->Nat)(s:Mm)(ts:List dW)(rs:List Tr)(t:Tr)(σ:Kw):Prop where
 mm:σ.mm=s
 inv:Inv H σ
 ts:∀t∈ts,bY σ t
 op:∃c h n,OpK H t σ c h n
 os:∀u∈rs,dK u=true/\∃c h n,OpK H u σ c h n
 qm:QM H (t::rs) σ
 qr:QR H (t::rs) σ
variable{s s':Mm}{x:Int}
theorem Ra.go{ts:List dW}{rs:List Tr}{t t':Tr}(w:Ra H s ts rs t σ)(l:Le σ υ)(i1:Inv H υ)(e:υ.mm=s')(hop:∃c h n,OpK H t' υ c h n)(hX:∀G n,XT (X0 H G) t n σ->G σ∨∃n',XT (X0 H G) t' n' υ)(h1:∀i,(σ.nd i).kind=2->υ.ce (σ.nd i).main≠σ.ce (σ.nd i).main->bC υ (υ.ce (σ.nd i).main)∨∃n,XT (X0 H (OkM i (υ.ce (σ.nd i).main))) t' n υ)(h2:∀i,(υ.nd i).kind=2->(σ.len:Int)<i->bC υ (υ.ce (υ.nd i).main))(h3:∀c:Int,1<=c->c<=σ.cl->σ.ct c=.root->υ.ce c≠σ.ce c->(υ.nd (υ.ce c)).kind=2∨∃n,XT (X0 H (OkR c (υ.ce c))) t' n υ)(h4:∀c:Int,υ.ct c=.root->(σ.cl:Int)<c->c<=υ.cl->(υ.nd (υ.ce c)).kind=2):∃υ,Le σ υ/\Ra H s' ts rs t' υ :=
 ⟨υ,l,e,i1,λ t ht=>(w.ts t ht).up l,hop,λ u hu=>by obtain⟨ha,c,h,n,k⟩:=w.os u hu;exact⟨ha,c,h,n,k.up w.inv i1 l ha⟩,aBg w.inv i1 l (λ u hu=>(w.os u hu).1) w.qm hX h1 h2,aAM w.inv i1 l (λ u hu=>(w.os u hu).1) w.qr hX h3 h4⟩
theorem n8{υ:Kw}(e:υ.mm=⟨σ.mm.nodes,σ.mm.cs++[x],σ.mm.gen⟩):Kd σ υ/\υ.cl=σ.cl+1/\υ.ce ((σ.cl+1:Nat):Int)=x:=by
 refine⟨λ y hy=>?_,by simp[Kw.cl,e],?_⟩;·show bK υ.mm.cs y=_;rw[e];exact tK hy
 ·show bK υ.mm.cs _=_;rw[e];exact Lt _ _
theorem u4{nd:Nv}(i1:Inv H υ)(e:υ.mm=σ.mm.push nd x){c:Int}(h1:(σ.cl:Int)<c)(h2:c<=υ.cl):υ.ct c≠.root:=λ hr=>by
 have a:=Hk e;have hcl:υ.mm.cs=fL nd.kind σ.mm.cs x:=by rw[e];rfl
 have hk:nd.kind=2∨nd.kind=3∨nd.kind=5∨nd.kind=6∨nd.kind=8:=Classical.byContradiction λ hk=>by
  have:υ.cl=σ.cl:=by simp only[Kw.cl,hcl];unfold fL;rw[if_neg hk]
  omega
 have hcl2:υ.cl=σ.cl+1:=by simp only[Kw.cl,hcl];unfold fL;rw[if_pos hk];simp
 have hc:c=((σ.cl+1:Nat):Int):=by omega
 have ek:(υ.nd ((σ.len+1:Nat):Int)).kind=nd.kind:=by rw[a.nd];rfl
 rw[hc] at hr;rcases hk with k|k|k|k|k;·have h:=(i1.eH (r:=((σ.len+1:Nat):Int)) (by rw[ek];exact k)).2.2;rw[a.nd,show(dI nd σ.cl).main=((σ.cl+1:Nat):Int) from if_pos k,hr] at h;cases h
 ·have h:=(i1.kR (m:=((σ.len+1:Nat):Int)) (.inl (by rw[ek];exact k))).2.2;rw[a.nd,show(dI nd σ.cl).prev=((σ.cl+1:Nat):Int) from if_pos (.inl k),hr] at h;cases h
 ·have h:=(i1.kR (m:=((σ.len+1:Nat):Int)) (.inr (.inl (by rw[ek];exact k)))).2.2;rw[a.nd,show(dI nd σ.cl).prev=((σ.cl+1:Nat):Int) from if_pos (.inr (.inl k)),hr] at h;cases h
 ·have h:=(i1.kR (m:=((σ.len+1:Nat):Int)) (.inr (.inr (by rw[ek];exact k)))).2.2;rw[a.nd,show(dI nd σ.cl).prev=((σ.cl+1:Nat):Int) from if_pos (.inr (.inr k)),hr] at h;cases h
 ·have h:=(i1.iq (r:=((σ.len+1:Nat):Int)) (by rw[ek];exact k)).2.2;rw[a.nd,show(dI nd σ.cl).status=((σ.cl+1:Nat):Int) from if_pos k,hr] at h;cases h
theorem Tb{x:List Int}{y:Int}(e:υ.mm=⟨σ.mm.nodes,x,y⟩):υ.len=σ.len:=by simp only[Kw.len,e]
theorem Ra.sp{ts:List dW}{rs:List Tr}{t t':Tr}(w:Ra H s ts rs t σ)(h:Sp t s t' s'):∃υ,Le σ υ/\Ra H s' ts rs t' υ:=by
 have em:=w.mm;subst em;obtain⟨c,hh,n,k⟩:=w.op;have noN:∀{υ:Kw},υ.len=σ.len->∀i,(υ.nd i).kind=2->(σ.len:Int)<i->bC υ (υ.ce (υ.nd i).main):=λ{υ} el i hk hi=>by have:=kD hk;omega
 cases h with
 | alloc nd i kt s=>
  obtain⟨hst,_,hx⟩:=k.xt.resolve_left id;obtain⟨υ,l,i1,e,hx⟩:=hx rfl;have f:Kd σ υ:=o7 e;refine w.go l i1 e ⟨c,hh,n,k.le,hx,k.ok.up l,k.hl,k.ha,k.ro⟩ (λ G n h=>?_) (λ i' hk hne=>absurd (f _ (w.inv.eH hk).2.1) hne) (λ i' hk hi=>?_) (λ c' _ h2 _ hne=>absurd (f _ h2) hne) (λ c' hc h1 h2=>absurd hc (u4 i1 e h1 h2))
  ·rcases h with h|⟨_,h,_⟩;·exact .inl h
   ·exact .inr ⟨n,h rfl υ l i1 e⟩
  ·have a:=Hk e;have hlen:υ.len=σ.len+1:=by simp only[Kw.len,e,Mm.push,List.length_append,List.length_cons,List.length_nil]
   have hi':i'=((σ.len+1:Nat):Int):=by have:=kD hk;omega
   subst hi';have hk2:nd.kind=2:=by rw[a.nd] at hk;exact hk
   have hmk:=ef i1 hk;rw[a.main hk2] at hmk ⊢;have hin:=iY hmk
   have hle:i<=σ.len:=by
    have:i≠((σ.len+1:Nat):Int):=λ e2=>by rw[e2] at hmk;unfold cB at hmk;omega
    have h3:i<=((υ.len:Nat):Int):=hin.2;rw[hlen] at h3;omega
   have hs:=hst hk2;unfold bC at hs ⊢;rw[l.nd hle,f _ (w.inv.nd i hin.1 hle).bd.prev];exact hs
 | cell i kt s=>
  obtain⟨hst,_,hx⟩:=k.xt.resolve_left id;obtain⟨υ,l,i1,e,hx⟩:=hx rfl;obtain⟨f,f2,f3⟩:=n8 e;refine w.go l i1 e ⟨c,hh,n,k.le,hx,k.ok.up l,k.hl,k.ha,k.ro⟩ (λ G n h=>?_) (λ i' hk hne=>absurd (f _ (w.inv.eH hk).2.1) hne) (noN (Tb e)) (λ c' _ h2 _ hne=>absurd (f _ h2) hne) (λ c' hc h1 h2=>?_)
  ·rcases h with h|⟨_,h,_⟩;·exact .inl h
   ·exact .inr ⟨n,h rfl υ l i1 e⟩
  ·have hc':c'=((σ.cl+1:Nat):Int):=by omega
   rw[hc',f3,l.nd (kD hst)];exact hst
 | gen kt s=>
  obtain⟨_,hx⟩:=k.xt.resolve_left id;obtain⟨υ,l,i1,e,hx⟩:=hx rfl;have f:Kd σ υ:=N8 e;refine w.go l i1 e ⟨c,hh,n,k.le,hx,k.ok.up l,k.hl,k.ha,k.ro⟩ (λ G n h=>?_) (λ i' hk hne=>absurd (f _ (w.inv.eH hk).2.1) hne) (noN (Tb e)) (λ c' _ h2 _ hne=>absurd (f _ h2) hne) (λ c' hc h1 h2=>?_)
  ·rcases h with h|⟨h,_⟩;·exact .inl h
   ·exact .inr ⟨n,h rfl υ l i1 e⟩
  ·have:υ.cl=σ.cl:=by simp only[Kw.cl,e]
   omega
 | node r kt s hr=>
  obtain⟨_,hx⟩:=k.xt.resolve_left id;refine w.go (Le.refl σ) w.inv rfl ⟨c,hh,n,k.le,hx,k.ok,k.hl,k.ha,k.ro⟩ (λ G n h=>?_) (λ _ _ hne=>absurd rfl hne) (noN rfl) (λ _ _ _ _ hne=>absurd rfl hne) (λ c' hc h1 h2=>by omega);rcases h with h|⟨_,h⟩
  ·exact .inl h
  ·exact .inr ⟨n,h⟩
theorem Ra.lp{ts:List dW}{rs:List Tr}{t t':Tr}(w:Ra H s ts rs t σ)(h:Lp t s t' s'):∃υ,Le σ υ/\Ra H s' ts rs t' υ:=by
 have em:=w.mm;subst em;obtain⟨c,hh,n,k⟩:=w.op;have noN:∀{υ:Kw},υ.len=σ.len->∀i,(υ.nd i).kind=2->(σ.len:Int)<i->bC υ (υ.ce (υ.nd i).main):=λ{υ} el i hk hi=>by have:=kD hk;omega
 have hbud:∀{m:Nat} {P:Prop},(n=m+1∨(P/\m=(XF H c hh).C))->m<=1000:=λ{m P} h=>by
  rcases h with h|⟨_,h⟩;·have:=k.le;omega
  ·rw[h];exact Nat.le_refl _
 cases h with
 | load cc kt s=>
  obtain⟨m,e,hx⟩:=k.xt.resolve_left id;refine w.go (Le.refl σ) w.inv rfl ⟨c,hh,m,hbud e,hx σ (Gg.refl w.inv),k.ok,k.hl,k.ha,k.ro⟩ (λ G n h=>?_) (λ _ _ hne=>absurd rfl hne) (noN rfl) (λ _ _ _ _ hne=>absurd rfl hne) (λ c' hc h1 h2=>by omega);rcases h with h|⟨m,_,h⟩
  ·exact .inl h
  ·exact .inr ⟨m,h σ (Gg.refl (X:=X0 H G) w.inv)⟩
 | kG cc o v kt s b hb=>
  obtain⟨m,e,hx⟩:=k.xt.resolve_left id;have hx:=hx σ (Gg.refl w.inv);have hm:m<=1000:=by have:=k.le;omega
  cases b with
  | true=>
   have hc:iQ σ.mm.cs cc o:=hb.1 rfl;obtain⟨l,i1,hR,hx⟩:=hx.1 hc;have hce:∀x,(σ.set cc o v).ce x=if x=cc then v else σ.ce x:=λ x=>kZ hc x;refine w.go l i1 rfl ⟨c,hh,m,hm,hx,k.ok.up l,k.hl,k.ha,k.ro⟩ (λ G n h=>?_) (λ i hk hne=>?_) (noN rfl) (λ c' h1 h2 hr hne=>?_) (λ c' hc h1 h2=>?_)
   ·rcases h with h|⟨m,_,h⟩;·exact .inl h
    ·exact .inr ⟨m,((h σ (Gg.refl (X:=X0 H G) w.inv)).1 hc).2.2.2⟩
   ·have ec:(σ.nd i).main=cc:=Classical.byContradiction λ h=>hne (by rw[hce,if_neg h]);have hct:=(w.inv.eH hk).2.2;rw[ec] at hct ⊢;rw[hce,if_pos rfl];exact hR.1 i hct
   ·have ec:c'=cc:=Classical.byContradiction λ h=>hne (by rw[hce,if_neg h]);subst ec;rw[hce,if_pos rfl];exact hR.2 hr
   ·have:(σ.set cc o v).cl=σ.cl:=gR;omega
  | false=>
   have hn:¬iQ σ.mm.cs cc o:=λ h=>by have:=hb.2 h;cases this
   have es:eL σ.mm.cs cc o v=σ.mm.cs:=uL hn;rw[es];refine w.go (Le.refl σ) w.inv rfl ⟨c,hh,m,hm,hx.2 hn,k.ok,k.hl,k.ha,k.ro⟩ (λ G n h=>?_) (λ _ _ hne=>absurd rfl hne) (noN rfl) (λ _ _ _ _ hne=>absurd rfl hne) (λ c' hc h1 h2=>by omega);rcases h with h|⟨m,_,h⟩
   ·exact .inl h
   ·exact .inr ⟨m,(h σ (Gg.refl (X:=X0 H G) w.inv)).2 hn⟩
theorem Ra.rc{ts:List dW}{rs:List Tr}{t t':Tr}{j:Nat}(h:Rc j t s t' s'):∀{σ:Kw},Ra H s ts rs t σ->∃υ,Le σ υ/\Ra H s' ts rs t' υ:=by
 induction h with
 | refl t s=>intro σ w;exact⟨σ,Le.refl σ,w⟩
 | eF _ hs ih=>intro σ w;obtain⟨υ,l1,w1⟩:=ih w;obtain⟨ρ,l2,w2⟩:=w1.sp hs;exact⟨ρ,l1.trans w.inv w1.inv l2,w2⟩
 | loud _ hs ih=>intro σ w;obtain⟨υ,l1,w1⟩:=ih w;obtain⟨ρ,l2,w2⟩:=w1.lp hs;exact⟨ρ,l1.trans w.inv w1.inv l2,w2⟩
end
end
section
open Go Go.RowKit Go.Ct
section
variable{H:ByteArray->Nat}{σ τ υ:Kw}
structure WQ(H:ByteArray->Nat)(s:Mm)(ts:List dW)(rs:List Tr)(σ:Kw):Prop where
 mm:σ.mm=s
 inv:Inv H σ
 ts:∀t∈ts,bY σ t
 os:∀u∈rs,dK u=true/\∃c h n,OpK H u σ c h n
 qm:QM H rs σ
 qr:QR H rs σ
variable{s:Mm}{t:Tr}{rs rs':List Tr}
theorem WQ.one{ts:List dW}(w:WQ H s ts (t::rs) σ):Ra H s ts rs t σ:=⟨w.mm,w.inv,w.ts,(w.os t (List.mem_cons_self ..)).2,λ u hu=>w.os u (List.mem_cons_of_mem _ hu),w.qm,w.qr⟩
theorem Ra.all{ts:List dW}(ha:dK t=true)(w:Ra H s ts rs t σ):WQ H s ts (t::rs) σ:=⟨w.mm,w.inv,w.ts,λ u hu=>by
 rcases List.mem_cons.1 hu with rfl|hu;·exact⟨ha,w.op⟩
 ·exact w.os u hu,w.qm,w.qr⟩
theorem QM.sub(h:QM H rs σ)(hs:∀t∈rs,t∈rs'):QM H rs' σ:=λ i hk=>(h i hk).imp id λ⟨t,ht,x⟩=>⟨t,hs t ht,x⟩
theorem QR.sub(h:QR H rs σ)(hs:∀t∈rs,t∈rs'):QR H rs' σ:=λ i h1 h2 hk=>(h i h1 h2 hk).imp id λ⟨t,ht,x⟩=>⟨t,hs t ht,x⟩
theorem aDd(i:Inv H σ)(e:σ.mm=Az):QM H [] σ/\QR H [] σ:=by
 have n1:σ.nd 1=fG.c:=by simp only[Kw.nd,e];rfl
 have n2:σ.nd 2=fG.c:=by simp only[Kw.nd,e];rfl
 have n3:σ.nd 3=dI (({Nd.zero with kind:=3}:Nd).c [] []) 0:=by simp only[Kw.nd,e];rfl
 have n4:σ.nd 4=dI (({Nd.zero with kind:=2,gen:=1}:Nd).c [] []) 1:=by simp only[Kw.nd,e];rfl
 have c1:σ.ce 1=0:=by simp only[Kw.ce,e];rfl
 have c2:σ.ce 2=3:=by simp only[Kw.ce,e];rfl
 have c3:σ.ce 3=4:=by simp only[Kw.ce,e];rfl
 have hl:σ.len=4:=by simp only[Kw.len,e];rfl
 have hcl:σ.cl=3:=by simp only[Kw.cl,e];rfl
 refine⟨λ i' hk=>.inl ?_,λ c h1 h2 hc=>.inl ?_⟩
 ·have hr:=eU (N:=σ.mm.nodes) (i:=i') (by rw[hk];decide);have hr2:i'<=4:=by have h2:i'<=(σ.len:Int):=hr.2;rw[hl] at h2;exact h2
  have:i'=1∨i'=2∨i'=3∨i'=4:=by have:=hr.1;omega
  rcases this with rfl|rfl|rfl|rfl;·rw[n1] at hk;exact dU (a:=1) (b:=2) hk
  ·rw[n2] at hk;exact dU (a:=1) (b:=2) hk
  ·rw[n3] at hk;exact dU (a:=3) (b:=2) hk
  ·have em:(σ.nd 4).main=2:=by rw[n4];rfl
   have ep:(σ.nd 3).prev=1:=by rw[n3];rfl
   unfold bC;rw[em,c2,ep];exact c1
 ·rw[hcl] at h2;have k3:(σ.nd 3).kind=3:=by rw[n3];rfl
  have k4:(σ.nd 4).kind=2:=by rw[n4];rfl
  have:c=1∨c=2∨c=3:=by omega
  rcases this with rfl|rfl|rfl;·have:=(i.kR (m:=3) (.inl k3)).2.2;rw[show(σ.nd 3).prev=1 by rw[n3];rfl,hc] at this;cases this
  ·have:=(i.eH (r:=4) k4).2.2;rw[show(σ.nd 4).main=2 by rw[n4];rfl,hc] at this;cases this
  ·rw[c3];exact k4
theorem WR.quiet{m:Nat}{ts:List dW}(h:WR H m s ts rs):∃σ,WQ H s ts rs σ:=by
 induction h with
 | new=>obtain⟨υ,l,i,e,hq⟩:=WT.rc bs rfl (Xx H) (Zf (Xx H));obtain⟨q1,q2⟩:=aDd i e;refine⟨υ,e,i,λ t ht=>?_,(λ t ht=>nomatch ht),q1,q2⟩;rw[List.mem_singleton.1 ht];exact hq (by decide)
 | start _ hk hr ha ih=>
  obtain⟨σ,w⟩:=ih;have hc:=hk σ w.mm w.inv w.ts;obtain⟨υ,l,w2⟩:=Ra.rc hr (σ:=σ) ⟨w.mm,w.inv,w.ts,⟨_,_,1000,Nat.le_refl _,aCc w.inv hc _,hc.t,hc.hl,hc.ha,hc.ro⟩,w.os,w.qm.sub λ t ht=>List.mem_cons_of_mem _ ht,w.qr.sub λ t ht=>List.mem_cons_of_mem _ ht⟩
  exact⟨υ,w2.all ha⟩
 | step _ hr ha ih=>obtain⟨σ,w⟩:=ih;obtain⟨υ,l,w2⟩:=Ra.rc hr w.one;exact⟨υ,w2.all ha⟩
 | perm _ hp ih=>obtain⟨σ,w⟩:=ih;exact⟨σ,w.mm,w.inv,w.ts,λ u hu=>w.os u (hp.mem_iff.2 hu),w.qm.sub λ t ht=>hp.mem_iff.1 ht,w.qr.sub λ t ht=>hp.mem_iff.1 ht⟩
 | drop _ ih=>
  obtain⟨σ,w⟩:=ih;refine⟨σ,w.mm,w.inv,w.ts,λ u hu=>w.os u (List.mem_cons_of_mem _ hu),λ i hk=>?_,λ c h1 h2 hc=>?_⟩
  ·rcases w.qm i hk with h|⟨t,ht,n,h⟩;·exact .inl h
   ·rcases List.mem_cons.1 ht with rfl|ht;·exact .inl (V8 (h.resolve_right id))
    ·exact .inr ⟨t,ht,n,h⟩
  ·rcases w.qr c h1 h2 hc with h|⟨t,ht,n,h⟩;·exact .inl h
   ·rcases List.mem_cons.1 ht with rfl|ht;·exact absurd rfl (h.resolve_right id)
    ·exact .inr ⟨t,ht,n,h⟩
 | add _ h0 ih=>
  obtain⟨σ,w⟩:=ih;refine⟨σ,w.mm,w.inv,λ t ht=>?_,w.os,w.qm,w.qr⟩;rcases List.mem_append.1 ht with ht|ht;·exact w.ts t ht
  ·rw[List.mem_singleton.1 ht];obtain⟨_,c,h,n,k⟩:=w.os _ (List.mem_cons_self ..);exact(k.xt.resolve_left id) h0
structure QS(H:ByteArray->Nat)(s:Mm)(ts:List dW)(σ:Kw):Prop where
 mm:σ.mm=s
 inv:Inv H σ
 ts:∀t∈ts,bY σ t
 st:∀i,(σ.nd i).kind=2->bC σ (σ.ce (σ.nd i).main)
 rt:∀c:Int,1<=c->c<=σ.cl->σ.ct c=.root->(σ.nd (σ.ce c)).kind=2
theorem WR.rest{m:Nat}{s:Mm}{ts:List dW}(h:WR H m s ts []):∃σ,QS H s ts σ:=by obtain⟨σ,w⟩:=h.quiet;exact⟨σ,w.mm,w.inv,w.ts,λ i hk=>(w.qm i hk).resolve_right (λ⟨t,ht,_⟩=>nomatch ht),λ c h1 h2 hc=>(w.qr c h1 h2 hc).resolve_right (λ⟨t,ht,_⟩=>nomatch ht)⟩
def Sol(H:ByteArray->Nat)(t:Tr)(σ:Kw)(n:Nat):Prop:=XT (s7 H) t n σ∨∃c h m,OpK H t σ c h m/\m+7000<=n
def Fin(H:ByteArray->Nat)(t:Tr)(s:Mm)(n:Nat):Prop:=∃σ,σ.mm=s/\Inv H σ/\Sol H t σ n
variable{t':Tr}{s':Mm}{n:Nat}
theorem Fin.sp{t:Tr}{s:Mm}(h:Fin H t s n)(hs:Sp t s t' s'):Fin H t' s' n:=by
 obtain⟨σ,rfl,i0,h⟩:=h;cases hs with
 | alloc nd i k s=>
  rcases h with h|⟨c,hh,m,k,hm⟩;·obtain⟨_,_,hx⟩:=h.resolve_left id;obtain⟨υ,l,i1,e,hx⟩:=hx rfl;exact⟨υ,e,i1,.inl hx⟩
  ·obtain⟨_,_,hx⟩:=k.xt.resolve_left id;obtain⟨υ,l,i1,e,hx⟩:=hx rfl;exact⟨υ,e,i1,.inr ⟨c,hh,m,⟨k.le,hx,k.ok.up l,k.hl,k.ha,k.ro⟩,hm⟩⟩
 | cell i k s=>
  rcases h with h|⟨c,hh,m,k,hm⟩;·obtain⟨_,_,hx⟩:=h.resolve_left id;obtain⟨υ,l,i1,e,hx⟩:=hx rfl;exact⟨υ,e,i1,.inl hx⟩
  ·obtain⟨_,_,hx⟩:=k.xt.resolve_left id;obtain⟨υ,l,i1,e,hx⟩:=hx rfl;exact⟨υ,e,i1,.inr ⟨c,hh,m,⟨k.le,hx,k.ok.up l,k.hl,k.ha,k.ro⟩,hm⟩⟩
 | gen k s=>
  rcases h with h|⟨c,hh,m,k,hm⟩;·obtain⟨_,hx⟩:=h.resolve_left id;obtain⟨υ,l,i1,e,hx⟩:=hx rfl;exact⟨υ,e,i1,.inl hx⟩
  ·obtain⟨_,hx⟩:=k.xt.resolve_left id;obtain⟨υ,l,i1,e,hx⟩:=hx rfl;exact⟨υ,e,i1,.inr ⟨c,hh,m,⟨k.le,hx,k.ok.up l,k.hl,k.ha,k.ro⟩,hm⟩⟩
 | node r k s hr=>
  rcases h with h|⟨c,hh,m,k,hm⟩;·exact⟨σ,rfl,i0,.inl (h.resolve_left id).2⟩
  ·exact⟨σ,rfl,i0,.inr ⟨c,hh,m,⟨k.le,(k.xt.resolve_left id).2,k.ok,k.hl,k.ha,k.ro⟩,hm⟩⟩
theorem XT.lp1{t:Tr}(i0:Inv H σ)(h:XT (s7 H) t n σ)(hs:Lp t σ.mm t' s'):∃m,n=m+1/\Fin H t' s' m:=by
 cases hs with
 | load cc kt s=>
  obtain⟨m,e,hx⟩:=h.resolve_left id;rcases e with e|e;·exact⟨m,e,σ,rfl,i0,.inl (hx σ (Gg.refl (X:=s7 H) i0))⟩
  ·exact e.1.elim
 | kG cc o v kt s b hb=>
  obtain⟨m,e,hx⟩:=h.resolve_left id;have hx:=hx σ (Gg.refl (X:=s7 H) i0);refine⟨m,e,?_⟩;cases b with
  | true=>obtain⟨l,i1,hR,hx⟩:=hx.1 (hb.1 rfl);exact⟨_,rfl,i1,.inl hx⟩
  | false=>
   have hn:¬iQ σ.mm.cs cc o:=λ h=>by have:=hb.2 h;cases this
   exact⟨σ,by rw[show eL σ.mm.cs cc o v=σ.mm.cs from uL hn],i0,.inl (hx.2 hn)⟩
theorem Fin.lp{t:Tr}{s:Mm}(h:Fin H t s n)(hs:Lp t s t' s'):∃m,n=m+1/\Fin H t' s' m:=by
 obtain⟨σ,rfl,i0,h⟩:=h;rcases h with h|⟨c,hh,m,k,hm⟩;·exact h.lp1 i0 hs
 ·have hgo:∀{m':Nat} {υ:Kw},Inv H υ->υ.mm=s'->Le σ υ->m=m'+1->XT (XF H c hh) t' m' υ->∃m,n=m+1/\Fin H t' s' m:=λ{m' υ} i1 e l em hx=>by have:=k.le;exact⟨n-1,by omega,υ,e,i1,.inr ⟨c,hh,m',⟨by omega,hx,k.ok.up l,k.hl,k.ha,k.ro⟩,by omega⟩⟩
  have hs':=hs;cases hs with
  | load cc kt s=>
   obtain⟨m',e,hx⟩:=k.xt.resolve_left id;rcases e with e|⟨ea,_⟩;·exact hgo i0 rfl (Le.refl σ) e (hx σ (Gg.refl (X:=XF H c hh) i0))
   ·obtain⟨q,eq,hf⟩:=(aDw i0 k.ok k.hl k.ha k.ro ea).lp1 i0 hs';obtain⟨υ,e1,i1,hf⟩:=hf;refine⟨n-1,by omega,υ,e1,i1,?_⟩;rcases hf with hf|⟨c2,h2,m2,k2,hm2⟩;·exact .inl (hf.mono (by omega))
    ·exact .inr ⟨c2,h2,m2,k2,by omega⟩
  | kG cc o v kt s b hb=>
   obtain⟨m',e,hx⟩:=k.xt.resolve_left id;have hx:=hx σ (Gg.refl (X:=XF H c hh) i0);cases b with
   | true=>obtain⟨l,i1,hR,hx⟩:=hx.1 (hb.1 rfl);exact hgo i1 rfl l e hx
   | false=>
    have hn:¬iQ σ.mm.cs cc o:=λ h=>by have:=hb.2 h;cases this
    exact hgo i0 (by rw[show eL σ.mm.cs cc o v=σ.mm.cs from uL hn]) (Le.refl σ) e (hx.2 hn)
theorem Fin.rc{t:Tr}{s:Mm}{j:Nat}(h:Rc j t s t' s'):∀{n:Nat},Fin H t s n->∃m,n=m+j/\Fin H t' s' m:=by
 induction h with
 | refl t s=>intro n h;exact⟨n,rfl,h⟩
 | eF _ hs ih=>intro n h;obtain⟨m,e,h⟩:=ih h;exact⟨m,e,h.sp hs⟩
 | loud _ hs ih=>intro n h;obtain⟨m,e,h⟩:=ih h;obtain⟨m',e',h⟩:=h.lp hs;exact⟨m',by omega,h⟩
theorem Fin.pos{t:Tr}{s:Mm}(h:Fin H t s n){a:Ac}(ha:t.acc=some a):1<=n:=by
 have hl:∃t' s',Lp t s t' s':=by
  cases t<;>simp only[Tr.acc,reduceCtorEq] at ha;·exact⟨_,_,Lp.load _ _ _⟩
  ·rename_i c o v k;by_cases hc:iQ s.cs c o;·exact⟨_,_,Lp.kG c o v k s true ⟨λ _=>hc,λ _=>rfl⟩⟩
   ·exact⟨_,_,Lp.kG c o v k s false ⟨λ h=>(nomatch h),λ h=>absurd h hc⟩⟩
 obtain⟨t',s',hl⟩:=hl;obtain⟨m,e,_⟩:=h.lp hl;omega
theorem WR.fin{m:Nat}{s:Mm}{ts:List dW}{t:Tr}{rs:List Tr}(h:WR H m s ts (t::rs)):Fin H t s 8000:=by obtain⟨σ,w⟩:=h.quiet;obtain⟨_,c,hh,n,k⟩:=w.os t (List.mem_cons_self ..);have:=k.le;exact⟨σ,w.mm,w.inv,.inr ⟨c,hh,n,k,by omega⟩⟩
end
end
section
open Go Go.RowKit Go.Ct
structure WI(H:ByteArray->Nat)(s:Mm)(ts:List dW)(σ:Kw):Prop where
 mm:σ.mm=s
 inv:Inv H σ
 ts:∀t∈ts,bY σ t
theorem WR.inv{H:ByteArray->Nat}{m:Nat}{s:Mm}{ts:List dW}{rs:List Tr}(h:WR H m s ts rs):∃σ,WI H s ts σ:=by obtain⟨σ,w⟩:=h.quiet;exact⟨σ,w.mm,w.inv,w.ts⟩
end
end Go.Proofs.YtbajmaoegmbfgaaGreat
