/- Merged. -/
import Derived.Test.YtdnklbipddigbaaGreatGKx6
import Derived.Test.YtdnklbipddigbaaGreatGKx4
import Derived.Test.YtdnklbipddigbaaGreatGEx11
import Derived.Test.YtdnklbipddigbaaGreatGTape
set_option linter.unusedSimpArgs false
set_option linter.unusedVariables false
namespace Go.Proofs.YtdnklbipddigbaaGreat
open Go Go.RowKit Go.Ct
section
section
variable{X:Xp}{σ τ υ:Kw}{i m p g v:Int}{w:List Nat}{t:Tri}{n:Nat}{c:Cl}{h:Nat}{H:ByteArray->Nat}
def SP(σ:Kw)(t:Tri)(h:Nat)(g:Int):Nat->Int->Prop
 | 0,i=>σ.ce t.root=i/\(σ.nd i).kind=2/\(σ.way i).length=0
 | l+1,i=>(∃p,SP σ t h g l p/\Lnk σ p (sl h l) i)/\(σ.nd i).kind=2/\(σ.nd i).gen=g/\(σ.way i).length=l+1
theorem SP.k2:∀{l:Nat} {i:Int},SP σ t h g l i->(σ.nd i).kind=2
 | 0,_,h=>h.2.1
 | _+1,_,h=>h.2.1
theorem SP.len:∀{l:Nat} {i:Int},SP σ t h g l i->(σ.way i).length=l
 | 0,_,h=>h.2.2
 | _+1,_,h=>h.2.2.2
theorem SP.gen(so:SoG X σ t g):∀{l:Nat} {i:Int},SP σ t h g l i->(σ.nd i).gen=g
 | 0,_,h=>by rw[<- h.1];exact so.gen
 | _+1,_,h=>h.2.2.1
theorem SP.det:∀{l:Nat} {i j:Int},SP σ t h g l i->SP σ t h g l j->i=j
 | 0,_,_,h1,h2=>h1.1.symm.trans h2.1
 | l+1,i,j,h1,h2=>by obtain⟨p,hp,lp⟩:=h1.1;obtain⟨q,hq,lq⟩:=h2.1;have e:=SP.det hp hq;subst e;have:=lp.lk.symm.trans lq.lk;exact Option.some.inj this
theorem SP.down:∀{d l:Nat} {i j:Int},SP σ t h g (l+d+1) j->SP σ t h g l i->∃b,Lnk σ i (sl h l) b/\(σ.nd b).kind=2/\(σ.nd b).gen=g
 | 0,l,i,j,h1,h2=>by
  obtain⟨p,hp,lp⟩:=h1.1
  have e:=SP.det hp h2
  subst e
  exact⟨j,lp,h1.2.1,h1.2.2.1⟩
 | d+1,l,i,j,h1,h2=>by
  obtain⟨p,hp,_⟩:=h1.1
  exact SP.down (d:=d) hp h2
theorem Lnk.up{k:Nat}{b:Int}(i0:Inv H σ)(l:Le σ τ)(hk:(σ.nd p).kind=2)(e:τ.ce (σ.nd p).main=σ.ce (σ.nd p).main)(h:Lnk σ p k b):Lnk τ p k b:=by
 have hm:=InG.cur (i:=p) (w:=σ.way p) (g:=(σ.nd p).gen) i0 ⟨⟨hk,rfl⟩,rfl⟩;have en:=l.nd (kind_le hk);have e2:τ.ce (τ.nd p).main=σ.ce (σ.nd p).main:=by rw[en];exact e
 exact⟨by rw[e2];exact Settled.up i0 hm.1 h.st l,by rw[e2,l.nd hm.in.2];exact h.lk⟩
theorem SP.fl{L:Nat}(i0:Inv H σ)(l1:Le σ τ)(f:FL t L σ τ):∀{l:Nat} {i:Int},l<=L->SP σ t h g l i->SP τ t h g l i
 | 0,i,_,hs=>⟨by rw[f.root];exact hs.1,by rw[l1.nd (kind_le hs.2.1)];exact hs.2.1,by rw[l1.way _ (kind_le hs.2.1)];exact hs.2.2⟩
 | l+1,i,hl,hs=>by obtain⟨p,hp,lp⟩:=hs.1;exact⟨⟨p,SP.fl i0 l1 f (by omega) hp,lp.up i0 l1 hp.k2 (f.main p hp.k2 (by rw[hp.len];omega))⟩,by rw[l1.nd (kind_le hs.2.1)];exact hs.2.1,by rw[l1.nd (kind_le hs.2.1)];exact hs.2.2.1,by rw[l1.way _ (kind_le hs.2.1)];exact hs.2.2.2⟩
def Ed(σ:Kw)(t:Tri)(h:Nat)(g:Int)(J:Nat):Prop:=∃i,SP σ t h g J i/\Ended σ i (sl h J)
structure PS(X:Xp)(σ:Kw)(t:Tri)(h:Nat)(g:Int)(J:Nat)(i:Int)(level:Nat):Prop where
 so:SoG X σ t g
 sp:SP σ t h g level i
 ed:J=12∨Ed σ t h g J
 le:level<=J
theorem PS.st{J level:Nat}(q:PS X σ t h g J i level):J=12∨Settled σ (σ.ce (σ.nd i).main):=by
 rcases q.ed with e|⟨j,h1,h2⟩;·exact .inl e
 ·refine .inr ?_;by_cases hl:level=J;·subst hl;have e:=SP.det h1 q.sp;subst e;exact h2.st
  ·have hle:=q.le;obtain⟨d,hd⟩:∃d,J=level+d+1:=⟨J-level-1,by omega⟩;subst hd;obtain⟨b,hb,_⟩:=SP.down h1 q.sp;exact hb.st
theorem PS.read{J level:Nat}(i0:Inv X.H σ)(hT:TrieOk σ t)(l:Le σ τ)(fr:RdF X σ τ t i m)(q:PS X σ t h g J i level):PS X τ t h g J i level/\τ.ce (σ.nd i).main=m/\FL t level σ τ:=by
 have fs:=fr.s q.so.b q.so.k2;have f:FL t level σ τ:=by have:=fl_frm hT i0 fs.2;rwa [q.sp.len] at this
 refine⟨⟨q.so.fl i0 hT l f,q.sp.fl i0 l f (Nat.le_refl _),?_,q.le⟩,fs.1,f⟩;rcases q.st with e|e;·exact .inl e
 ·have e2:=(fr.e q.so.b e).1;rw[e2];exact q.ed
theorem PS.deeper{J level:Nat}{b:Int}(i0:Inv X.H σ)(hT:TrieOk σ t)(hi:InG σ i w g)(hm:IsM σ m w g)(hl:level=w.length)(hma:σ.ce (σ.nd i).main=m)(hf:Fur σ m h level)(l:Le σ τ)(hb:InG τ b (w++[sl h level]) g)
  (hlk:Lnk τ i (sl h level) b) (f:FL t w.length σ τ) (hs:∀b',lkV (σ.nd m) ((sl h level:Nat):Int)=some b'->(σ.nd b').gen=g->τ=σ) (q:PS X σ t h g J i level):PS X τ t h g J b (level+1):=by
 obtain⟨b0,hb0,hk0⟩:=hf;have hwl:w.length<=10:=(hm.cnode i0 (lkV_kind hb0)).wl;have hlev:slI h (level:Int)=((sl h level:Nat):Int):=slI_at (by omega);rw[hlev] at hb0;rw[<- hl] at f;have hne:J≠12->level≠J:=λ h12 e=>by
  rcases q.ed with e2|⟨j,h1,h2⟩;·exact h12 e2
  ·subst e;have e:=SP.det h1 q.sp;subst e;exact h2.no b0 (by rw[hma];exact hb0) hk0
 have hle:=q.le;refine⟨q.so.fl i0 hT l f,⟨⟨i,q.sp.fl i0 l f (Nat.le_refl _),hlk⟩,hb.1.1,hb.2,by rw[hb.1.2,List.length_append,hl];rfl⟩,?_,by by_cases h12:J=12;omega;have:=hne h12;omega⟩;by_cases h12:J=12;·exact .inl h12
 ·have:=hne h12;rcases q.ed with e2|⟨j,h1,h2⟩;·exact .inl e2
  ·obtain⟨d,hd⟩:∃d,J=level+d+1:=⟨J-level-1,by omega⟩;have h1':=h1;rw[hd] at h1';obtain⟨b',lb,_,gb⟩:=SP.down h1' q.sp;have e:=hs b' (by rw[<- hma];exact lb.lk) gb;rw[e];exact .inr ⟨j,h1,h2⟩
theorem PS.clean{J level:Nat}{w0:List Nat}{g0:Int}(i0:Inv X.H σ)(hT:TrieOk σ t)(hpn:InG σ p w0 g0)(hw:level=w0.length+1)(hsp:SP σ t h g (level-1) p)(hma:σ.ce (σ.nd i).main=m)(hs:Settled σ m)(h5:(σ.nd m).kind=5)(l:Le σ τ)(q:PS X σ t h g J i level)
  (hc:ClS X σ t g0 p i (sl h w0.length)->Ended τ p (sl h w0.length)/\FL t w0.length σ τ):SoG X τ t g/\∃j,j<J/\Ed τ t h g j:=by
 have hl1:level-1=w0.length:=by omega
 have hsp':=q.sp;rw[hw] at hsp';obtain⟨p',hp',lp⟩:=hsp'.1;rw[hl1] at hsp;have e:=SP.det hp' hsp;subst e;have hg:g0=g:=hpn.2.symm.trans (SP.gen q.so hsp);subst hg;obtain⟨r1,r2⟩:=hc ⟨q.so,lp,by rw[hma];exact hs,by rw[hma];exact h5⟩;have:=q.le;exact⟨q.so.fl i0 hT l r2,w0.length,by omega,p',hsp.fl i0 l r2 (Nat.le_refl _),r1⟩
theorem putIn_x{J nn:Nat}{σ0:Kw}{K:Rs->Tr}{again:Tr}(hX:Xol X)(hT:TrieOk σ0 c.t)(i00:Inv X.H σ0)(hk:KeyOk X.H c h)(hK:∀τ r,Le σ0 τ->Inv X.H τ->r.root=0->XT X (K r) nn τ)
  (hA:∀τ,Le σ0 τ->Inv X.H τ->(X.b=false->SoG X τ c.t g/\∃j,j<J/\Ed τ c.t h g j)->XT X again nn τ):∀(q:Nat) (σ:Kw) (i parent:Int) (w:List Nat) (level:Nat),Le σ0 σ->Inv X.H σ->InG σ i w g->Under h w->level=w.length->(0<w.length->∃w0 g0,InG σ parent w0 g0/\w.length=w0.length+1) ->
  (X.b=false->PS X σ c.t h g J i level/\(0<level->SP σ c.t h g (level-1) parent))->XT X (putIn c h K again g q i parent level) (nn+40*(12-level)) σ
 | 0,_,_,_,_,_,_,_,_,_,_,_,_=>trivial
 | q+1,σ,i,parent,w,level,l,i1,hi,hu,hl,hp,hs0=>by
  have hw:=(hi.gens i1).2.2;have hT1:=hT.up l;have e:nn+40*(12-level)=(nn+40*(11-level)+30)+10:=by omega
  rw[e];refine read_x hX.toXok hT1 i1 hi λ τ m l1 i2 hm hs fr=>node_x hm.in.2 ?_;have l01:=l.trans i00 i1 l1;have hi2:=hi.up l1;have eni:(τ.nd i).main=(σ.nd i).main:=by rw[l1.nd hi.in.2]
  have hps:X.b=false->PS X τ c.t h g J i level/\τ.ce (τ.nd i).main=m/\(0<level->SP τ c.t h g (level-1) parent):=λ hb=>by obtain⟨q1,q2⟩:=hs0 hb;obtain⟨r1,r2,r3⟩:=q1.read i1 hT1 l1 fr;exact⟨r1,by rw[eni];exact r2,λ h0=>(q2 h0).fl i1 l1 r3 (by omega)⟩
  try dsimp only
  split;·rename_i h5;have h0:=((i2.nd m hm.in.1 hm.in.2).k5 h5).1;rw[hm.2.1] at h0;obtain⟨w0,g0,hp1,hp2⟩:=hp h0;refine(clean_x hX (n:=nn+40*(11-level)) (hT.up l01) i2 (hp1.up l1) (by omega) hi2.1.1 λ υ _ l2 i3 hc=>(hA υ (l01.trans i00 i2 l2) i3 λ hb=>?_).mono (by omega));obtain⟨r1,r2,r3⟩:=hps hb;exact r1.clean i2 (hT.up l01) (hp1.up l1) (by omega) (r3 (by omega)) r2 hs h5 l2 hc
  ·rename_i h5;refine(putLeaf_x hX (n:=nn+40*(11-level)+20) (hT.up l01) i2 hk hi2 hm hs hu hl h5 λ υ r what l2 i3 hr hf hw0=>?_);have l02:=l01.trans i00 i2 l2;try dsimp only
   split;·exact(hK υ r l02 i3 hr).mono (by omega)
   try dsimp only
   split;·rename_i hz;refine(hA υ l02 i3 λ hb=>?_).mono (by omega);obtain⟨r1,r2,r3⟩:=hps hb;exact absurd hz (hw0 r1.so r2)
   rename_i hw1 hw2;have hfu:Fur τ m h level/\υ=τ:=by
    rcases hf with h|h|h;·exact absurd h hw2
    ·exact absurd h hw1
    ·exact h
   obtain⟨hfu,eυ⟩:=hfu;subst eυ;refine below_x hX (hT.up l01) i2 hi2 hm hs hl hfu λ χ b l3 i4 hb hbf=>?_;have l03:=l01.trans i00 i2 l3;try dsimp only
   split;·rename_i hb0;refine(hA χ l03 i4 λ hx=>?_).mono (by omega);obtain⟨r1,r2,r3⟩:=hps hx;exact absurd hb0 (hbf r1.so r2).1
   ·rename_i hb0;rcases hb with hb|hb;·exact absurd hb hb0
    ·have hu2:Under h (w++[sl h level]):=by rw[hl];exact under_snoc hu
     have e2:nn+40*(11-level)=nn+40*(12-(level+1)):=by omega
     rw[e2];refine putIn_x hX hT i00 hk hK hA q χ b i (w++[sl h level]) (level+1) l03 i4 hb hu2 (by rw[List.length_append,hl];rfl) (λ _=>⟨w,g,hi2.up l3,by rw[List.length_append];rfl⟩) λ hx=>?_;obtain⟨r1,r2,r3⟩:=hps hx;obtain⟨b1,b2,b3,b4⟩:=hbf r1.so r2;exact⟨r1.deeper i2 (hT.up l01) hi2 hm hl r2 hfu l3 hb b2 b3 b4,λ _=>r1.sp.fl i2 l3 b3 (by omega)⟩
theorem put_x{σ0:Kw}{K:Rs->Tr}(hX:Xol X)(hb:X.b=true)(hC:500<=X.C)(hAp:∀q,X.A (putT c h K (q+1)))(hT:TrieOk σ0 c.t)(i00:Inv X.H σ0)(hk:KeyOk X.H c h)(hK:∀τ r,Le σ0 τ->Inv X.H τ->r.root=0->XT X (K r) 0 τ):∀(q:Nat) (σ:Kw),Le σ0 σ->Inv X.H σ->XT X (putT c h K q) 0 σ
 | 0,_,_,_=>trivial
 | q+1,σ,l,i1=>by
  have hbf:∀{p:Prop},X.b=false->p:=λ h=>by rw[hb] at h;cases h
  refine XT.fresh (hAp q) ?_;refine XT.mono (show 0+480+15<=X.C+1 by omega) ?_;refine help_x hX.toXok (hT.up l) i1 λ τ i l1 i2 hi _=>node_x hi.in.2 ?_;have l01:=l.trans i00 i1 l1;exact putIn_x (J:=12) (g:=(τ.nd i).gen) hX hT i00 hk hK (λ υ l2 i3 _=>put_x hX hb hC hAp hT i00 hk hK q υ l2 i3) q τ i 0 [] 0 l01 i2 ⟨hi,rfl⟩ (under_nil h) rfl (λ h=>absurd h (by decide)) hbf
theorem put_s{nn:Nat}{σ0:Kw}{K:Rs->Tr}(hX:Xol X)(hro:c.t.ro=false)(hT:TrieOk σ0 c.t)(i00:Inv X.H σ0)(hk:KeyOk X.H c h)(hK:∀τ r,Le σ0 τ->Inv X.H τ->r.root=0->XT X (K r) nn τ)(hb:X.b=false):∀(J:Nat),J<=12->∀(q:Nat) (σ:Kw),Le σ0 σ->Inv X.H σ->(J=12∨∃g,SoG X σ c.t g/\Ed σ c.t h g J)->XT X (putT c h K q) (nn+500*(J+1)) σ:=by
 intro J;induction J using Nat.strongRecOn with
 | ind J ih=>
  intro hJ q σ l i1 hE;cases q with
  | zero=>exact trivial
  | succ q=>
   refine XT.mono (show(nn+500*J)+480+15<=_ by omega) ?_;refine help_x hX.toXok (hT.up l) i1 λ τ i l1 i2 hi hh=>node_x hi.in.2 ?_;have l01:=l.trans i00 i1 l1;have hr:=hh.r hb;have so:SoG X τ c.t (τ.nd i).gen:=⟨hb,hro,by rw[hr];exact hi.1,by rw[hr]⟩;refine putIn_x (J:=J) (g:=(τ.nd i).gen) hX hT i00 hk (λ υ r a b d=>(hK υ r a b d).mono (by omega)) (λ υ l2 i3 hA=>?_) q τ i 0 [] 0 l01 i2 ⟨hi,rfl⟩ (under_nil h) rfl (λ h=>absurd h (by decide)) λ _=>⟨⟨so,⟨hr,hi.1,by rw[hi.2];rfl⟩,?_,Nat.zero_le _⟩,λ h=>absurd h (by decide)⟩;·obtain⟨a,j,hj,he⟩:=hA hb;exact(ih j hj (by omega) q υ l2 i3 (.inr ⟨_,a,he⟩)).mono (by omega)
   ·rcases hE with e|⟨g,a,he⟩;·exact .inl e
    ·have e:=hh.e hb a.k2;subst e;have hg:g=(τ.nd i).gen:=by rw[<- a.gen,hr]
     rw[<- hg];exact .inr he
end
end
section
section
variable{X:Xp}{σ τ υ:Kw}{i m p g v:Int}{w:List Nat}{t:Tri}{n:Nat}{c:Cl}{h:Nat}{H:ByteArray->Nat}
theorem up_x{nn:Nat}{σ0:Kw}{path:List Int}{K:Tr}(hX:Xol X)(hT:TrieOk σ0 t)(i0:Inv X.H σ0)(hp:PathG σ0 path h g)(hK:∀τ,Le σ0 τ->Inv X.H τ->XT X K nn τ):∀(l:Nat) (σ:Kw),Le σ0 σ->Inv X.H σ->l<path.length->XT X (upT t path h K l) (nn+40*l) σ
 | 0,σ,l,i1,_=>hK σ l i1
 | q+1,σ,l,i1,hl=>by
  have hp1:=hp.up l;have e:nn+40*(q+1)=nn+40*q+30+10:=by omega
  rw[e];refine read_x hX.toXok (hT.up l) i1 (hp1 (q+1) hl) λ τ m l1 i2 hm _ _=>node_x hm.in.2 ?_;have l01:=l.trans i0 i1 l1;try dsimp only
  split;·exact clean_x hX (n:=nn+40*q) (hT.up l01) i2 ((hp1.up l1) q (by omega)) (by rw[wayN_len]) ((hp1.up l1) (q+1) hl).1.1 λ υ _ l2 i3 _=>up_x hX hT i0 hp hK q υ (l01.trans i0 i2 l2) i3 (by omega)
  ·exact(hK τ l01 i2).mono (by omega)
theorem dropIn_x{J nk:Nat}{σ0:Kw}{K:Rs->Tr}{again:Tr}(hX:Xol X)(hT:TrieOk σ0 c.t)(i00:Inv X.H σ0)(hK:∀τ r,Le σ0 τ->Inv X.H τ->r.root=0->XT X (K r) nk τ)
  (hA:∀τ,Le σ0 τ->Inv X.H τ->(X.b=false->SoG X τ c.t g/\∃j,j<J/\Ed τ c.t h g j)->XT X again (nk+440) τ):∀(q:Nat) (σ:Kw) (i:Int) (path:List Int) (level:Nat),Le σ0 σ->Inv X.H σ->InG σ i (wayN h level) g->PathG σ path h g->path.length=level+1 ->
  (X.b=false->PS X σ c.t h g J i level/\∀k,k<path.length->SP σ c.t h g k (path.getD k 0))->XT X (dropIn c h K again g q i path level) (nk+440+40*(12-level)) σ
 | 0,_,_,_,_,_,_,_,_,_,_=>trivial
 | q+1,σ,i,path,level,l,i1,hi,hp,hpl,hs0=>by
  have hw:=(hi.gens i1).2.2;rw[wayN_len] at hw;have hT1:=hT.up l;have e:nk+440+40*(12-level)=(nk+440+40*(11-level)+30)+10:=by omega
  rw[e];refine read_x hX.toXok hT1 i1 hi λ τ m l1 i2 hm hs fr=>node_x hm.in.2 ?_;have l01:=l.trans i00 i1 l1;have hi2:=hi.up l1;have hp2:=hp.up l1;have hlw:level=(wayN h level).length:=(wayN_len h level).symm;have eni:(τ.nd i).main=(σ.nd i).main:=by rw[l1.nd hi.in.2]
  have hps:X.b=false->PS X τ c.t h g J i level/\τ.ce (τ.nd i).main=m/\∀k,k<path.length->SP τ c.t h g k (path.getD k 0):=λ hb=>by obtain⟨q1,q2⟩:=hs0 hb;obtain⟨r1,r2,r3⟩:=q1.read i1 hT1 l1 fr;exact⟨r1,by rw[eni];exact r2,λ k hk=>(q2 k hk).fl i1 l1 r3 (by omega)⟩
  try dsimp only
  split;·rename_i h5;have h0:=((i2.nd m hm.in.1 hm.in.2).k5 h5).1;rw[hm.2.1,wayN_len] at h0;refine(clean_x hX (n:=nk+440+40*(11-level)) (hT.up l01) i2 (hp2 (level-1) (by omega)) (by rw[wayN_len];omega) hi2.1.1 λ υ _ l2 i3 hc=>(hA υ (l01.trans i00 i2 l2) i3 λ hb=>?_).mono (by omega));obtain⟨r1,r2,r3⟩:=hps hb;exact r1.clean i2 (hT.up l01) (hp2 (level-1) (by omega)) (by rw[wayN_len];omega) (r3 (level-1) (by omega)) r2 hs h5 l2 hc
  ·rename_i h5;refine(dropLeaf_x hX (n:=nk+440+40*(11-level)+20) (hT.up l01) i2 hi2 hm hs (under_wayN h level) hlw h5 λ υ r what l2 i3 hr hf hw0=>?_);have l02:=l01.trans i00 i2 l2;try dsimp only
   split
   ·try dsimp only
    split;·refine(up_x (nn:=nk) hX (hT.up l02) i3 (hp2.up l2) (λ χ l3 i4=>hK χ r (l02.trans i00 i3 l3) i4 hr) (path.length-1) υ (Le.refl υ) i3 (by omega)).mono (by omega)
    ·exact(hK υ r l02 i3 hr).mono (by omega)
   try dsimp only
   split;·rename_i hz;refine(hA υ l02 i3 λ hb=>?_).mono (by omega);obtain⟨r1,r2,r3⟩:=hps hb;exact absurd hz (hw0 r1.so r2)
   rename_i hw1 hw2;have hfu:Fur τ m h level/\υ=τ:=by
    rcases hf with h|h|h;·exact absurd h hw2
    ·exact absurd h hw1
    ·exact h
   obtain⟨hfu,eυ⟩:=hfu;subst eυ;refine below_x hX (hT.up l01) i2 hi2 hm hs hlw hfu λ χ b l3 i4 hb hbf=>?_;have l03:=l01.trans i00 i2 l3;try dsimp only
   split;·rename_i hb0;refine(hA χ l03 i4 λ hx=>?_).mono (by omega);obtain⟨r1,r2,r3⟩:=hps hx;exact absurd hb0 (hbf r1.so r2).1
   ·rename_i hb0;rcases hb with hb|hb;·exact absurd hb hb0
    ·have hb2:=hb;rw[<- wayN_succ] at hb;have e2:nk+440+40*(11-level)=nk+440+40*(12-(level+1)):=by omega
     rw[e2];refine dropIn_x hX hT i00 hK hA q χ b (path++[b]) (level+1) l03 i4 hb ((hp2.up l3).snoc (by rw[hpl];exact hb)) (by rw[List.length_append,hpl];rfl) λ hx=>?_;obtain⟨r1,r2,r3⟩:=hps hx;obtain⟨b1,b2,b3,b4⟩:=hbf r1.so r2;have hd:=r1.deeper i2 (hT.up l01) hi2 hm hlw r2 hfu l3 hb2 b2 b3 b4;rw[wayN_len] at b3;refine⟨hd,λ k hk=>?_⟩;rw[List.length_append,List.length_singleton] at hk;rw[gdg];by_cases ek:k<path.length;·rw[List.getElem?_append_left ek,<- gdg];exact(r3 k ek).fl i2 l3 b3 (by omega)
     ·have:k=path.length:=by omega
      subst this;have:=hd.sp;rw[<- hpl] at this;simpa using this
theorem drop_x{σ0:Kw}{K:Rs->Tr}(hX:Xol X)(hb:X.b=true)(hC:1000<=X.C)(hAp:∀q,X.A (dropT c h K (q+1)))(hT:TrieOk σ0 c.t)(i00:Inv X.H σ0)(hK:∀τ r,Le σ0 τ->Inv X.H τ->r.root=0->XT X (K r) 0 τ):∀(q:Nat) (σ:Kw),Le σ0 σ->Inv X.H σ->XT X (dropT c h K q) 0 σ
 | 0,_,_,_=>trivial
 | q+1,σ,l,i1=>by
  have hbf:∀{p:Prop},X.b=false->p:=λ h=>by rw[hb] at h;cases h
  refine XT.fresh (hAp q) ?_;refine XT.mono (show 0+440+480+15<=X.C+1 by omega) ?_;refine help_x hX.toXok (hT.up l) i1 λ τ i l1 i2 hi _=>node_x hi.in.2 ?_;have l01:=l.trans i00 i1 l1;refine dropIn_x (J:=12) (g:=(τ.nd i).gen) hX hT i00 hK (λ υ l2 i3 _=>(drop_x hX hb hC hAp hT i00 hK q υ l2 i3).mono (by omega)) q τ i [i] 0 l01 i2 ⟨hi,rfl⟩ (λ k hk=>?_) rfl hbf;have:k=0:=by simpa using hk
  subst this;exact⟨hi,rfl⟩
theorem drop_s{nk:Nat}{σ0:Kw}{K:Rs->Tr}(hX:Xol X)(hro:c.t.ro=false)(hT:TrieOk σ0 c.t)(i00:Inv X.H σ0)(hK:∀τ r,Le σ0 τ->Inv X.H τ->r.root=0->XT X (K r) nk τ)(hb:X.b=false):∀(J:Nat),J<=12->∀(q:Nat) (σ:Kw),Le σ0 σ->Inv X.H σ->(J=12∨∃g,SoG X σ c.t g/\Ed σ c.t h g J)->XT X (dropT c h K q) (nk+440+500*(J+1)) σ:=by
 intro J;induction J using Nat.strongRecOn with
 | ind J ih=>
  intro hJ q σ l i1 hE;cases q with
  | zero=>exact trivial
  | succ q=>
   refine XT.mono (show(nk+500*J)+440+480+15<=_ by omega) ?_;refine help_x hX.toXok (hT.up l) i1 λ τ i l1 i2 hi hh=>node_x hi.in.2 ?_;have l01:=l.trans i00 i1 l1;have hr:=hh.r hb;have so:SoG X τ c.t (τ.nd i).gen:=⟨hb,hro,by rw[hr];exact hi.1,by rw[hr]⟩;have sp0:SP τ c.t h (τ.nd i).gen 0 i:=⟨hr,hi.1,by rw[hi.2];rfl⟩;refine dropIn_x (J:=J) (g:=(τ.nd i).gen) hX hT i00 (λ υ r a b d=>(hK υ r a b d).mono (by omega)) (λ υ l2 i3 hA=>?_) q τ i [i] 0 l01 i2 ⟨hi,rfl⟩ (λ k hk=>?_) rfl λ _=>⟨⟨so,sp0,?_,Nat.zero_le _⟩,λ k hk=>?_⟩;·obtain⟨a,j,hj,he⟩:=hA hb;exact(ih j hj (by omega) q υ l2 i3 (.inr ⟨_,a,he⟩)).mono (by omega)
   ·have:k=0:=by simpa using hk
    subst this;exact⟨hi,rfl⟩
   ·rcases hE with e|⟨g,a,he⟩;·exact .inl e
    ·have e:=hh.e hb a.k2;subst e;have hg:g=(τ.nd i).gen:=by rw[<- a.gen,hr]
     rw[<- hg];exact .inr he
   ·have:k=0:=by simpa using hk
    subst this;exact sp0
end
end
section
section
variable{X:Xp}{σ τ υ:Kw}{i m p g v:Int}{w:List Nat}{t:Tri}{n:Nat}{c:Cl}{h:Nat}{H:ByteArray->Nat}
structure Qok(X:Xp):Prop where
 q:∀r σ,Q0 r σ->X.Q r σ
theorem done_x{r:Rs}(hq:Qok X)(h:Q0 r σ):XT X (.done r) n σ:=.inr (hq.q r σ h)
theorem q0_zero{r:Rs}(h:r.root=0):Q0 r σ:=λ h0=>by rw[h] at h0;exact absurd h0 (by decide)
theorem copy_x{g':Int}(hX:Xol X)(hq:Qok X)(i0:Inv X.H σ)(hm:IsM σ m [] g')(hs:Settled σ m)(hg:g'<=σ.mm.gen):XT X (copyT m .done) n σ:=by
 have hgen:=i0.gen;refine gen_x hX i0 λ υ l1 i1 e1=>?_;have e2:υ.mm.gen=σ.mm.gen+1:=by rw[e1]
 exact inode_x (g:=σ.mm.gen+1) hX i1 (by omega) (by omega) (by simp) (hm.up l1) (Settled.up i0 hm.1 hs l1) (by omega) λ τ j l2 i2 hj _=>cell_x hX false i2 hj.1 λ ρ c l3 i3 h0 hc=>done_x hq λ _=>hc
theorem gen_ces(e:υ.mm=⟨σ.mm.nodes,σ.mm.cs,σ.mm.gen+1⟩):CeS σ υ:=λ x _=>by show cellV υ.mm.cs x=_;rw[e]
theorem rcS_of{r:Int}(hT:TrieOk σ t)(i1:Inv X.H τ)(l2:Le τ υ)(hb:X.b=false)(hr:τ.ce t.root=r)(hI:IsI τ r [])(hT1:TrieOk τ t)(hm:τ.ce (τ.nd r).main=m)(hk:MainK (τ.nd m))(hs:Settled τ m)(f:CeS τ υ):RcS X υ t r m :=⟨hb,by rw[f _ hT1.2.1];exact hr,by rw[l2.nd hI.in.2,f _ (i1.mainCell hI.1).2.1];exact hm,Settled.up i1 hk hs l2⟩
theorem snap1_x{fz:Bool}{again:Tr}(hX:Xol X)(hq:Qok X)(hT:TrieOk σ t)(hr0:t.ro=false)(i0:Inv X.H σ)(hA:∀τ,Le σ τ->Inv X.H τ->X.b=true->XT X again n τ) :
  XT X (helpT t λ r=>readT t r λ m=>.gen λ g=>.alloc (inodeV g) m λ j=>rdcssT t r m j λ ok =>
   if ok=true then(if fz=true then .cell r λ c=>.done (triR c true) else copyT m .done) else again) (n+39) σ:=by
 refine help_x hX.toXok (n:=n+24) hT i0 λ τ r l1 i2 hr hh=>?_;have hg:=hr.withG.gens i2;refine read_x hX.toXok (n:=n+14) (hT.up l1) i2 hr.withG λ υ m l2 i3 hm hs fr=>?_;have l02:=l1.trans i0 i2 l2;have hgen:=l2.gen;refine gen_x hX i3 λ ρ l3 i4 e3=>?_;have l03:=l02.trans i0 i3 l3;have e3':ρ.mm.gen=υ.mm.gen+1:=by rw[e3]
 refine inode_x (g:=υ.mm.gen+1) hX i4 (by have:=i3.gen;omega) (by omega) (by simp) (hm.up l3) (Settled.up i3 hm.1 hs l3) (by omega) λ χ j l4 i5 hj aj=>?_;have l04:=l03.trans i0 i4 l4;have l24:=(l2.trans i2 i3 l3).trans i2 i4 l4;have hm4:=(hm.up l3).up l4;refine rdcss_x hX (hT.up l04) hr0 i5 (hr.up l24) hj.1 hm4.in.1 hm4.in.2 λ ψ ok l5 i6 hok=>?_;have l05:=l04.trans i0 i5 l5;try dsimp only
 split
 ·try dsimp only
  split;·exact cell_x hX true i6 ((hr.up l24).up l5) λ ω c l6 i7 h0 hc=>done_x hq λ _=>hc
  ·exact copy_x hX hq i6 (hm4.up l5) (Settled.up i3 hm.1 hs ((l3.trans i3 i4 l4).trans i3 i5 l5)) (by have:=l5.gen;have:=l4.gen;have:=l3.gen;omega)
 ·rename_i hno;cases hb:X.b with
  | true=>exact hA ψ l05 i6 hb
  | false=>have hr1:=hh.r hb;have fs:=fr.s hb (by rw[hr1];exact hr.1);have l34:=l3.trans i3 i4 l4;refine absurd (hok (rcS_of (hT.up l02) i3 l34 hb ?_ (hr.up l2) (hT.up l02) (by rw[l2.nd hr.in.2];exact fs.1) hm.1 hs ((gen_ces e3).trans l3 aj.ces))) hno;rw[frm_root (hT.up l1) fs.2];exact hr1
theorem clear1_x{again:Tr}(hX:Xol X)(hq:Qok X)(hT:TrieOk σ t)(hr0:t.ro=false)(i0:Inv X.H σ)(hA:∀τ,Le σ τ->Inv X.H τ->X.b=true->XT X again n τ) :
  XT X (helpT t λ r=>readT t r λ m=>.alloc emptyV 0 λ c=>.gen λ g=>.alloc (inodeV g) c λ j=>rdcssT t r m j λ ok=>if ok=true then .done (valR true 0) else again) (n+39) σ:=by
 refine help_x hX.toXok (n:=n+24) hT i0 λ τ r l1 i2 hr hh=>?_;have hg:=hr.withG.gens i2;refine read_x hX.toXok (n:=n+14) (hT.up l1) i2 hr.withG λ υ m l2 i3 hm hs fr=>?_;have l02:=l1.trans i0 i2 l2;have hgu:=i3.gen;have hnew:NewOk X.H υ emptyV ([]:List Nat) (υ.mm.gen+1):=new_cnode (b:=0) (xs:=[]) i3 bv_zero (λ j hj v hv=>by simp[mOf] at hv) (by simp) (λ h=>absurd h (by decide))
 refine alloc_x hX.al i3 hnew (in_leaf i3 (λ e=>no_k (a:=3) (b:=2) e)) λ ρ e0 l3 i4 ae=>?_;have l03:=l02.trans i0 i3 l3;have hem:IsM ρ e0 [] (υ.mm.gen+1):=mk_main (cl:=0) (.inl rfl) ae.nd ae.way ae.gb;have hgr:ρ.mm.gen=υ.mm.gen:=by rw[ae.mm];rfl
 refine gen_x hX i4 λ χ l4 i5 e4=>?_;have l04:=l03.trans i0 i4 l4;have e4':χ.mm.gen=ρ.mm.gen+1:=by rw[e4]
 refine inode_x (g:=ρ.mm.gen+1) hX i5 (by omega) (by omega) (by simp) (hem.up l4) (Settled.up i4 hem.1 (ae.prev (.inl rfl)) l4) (by omega) λ ψ j l5 i6 hj aj=>?_;have l05:=l04.trans i0 i5 l5;have l35:=(l3.trans i3 i4 l4).trans i3 i5 l5;have l25:=l2.trans i2 i3 l35;have hm5:=((hm.up l3).up l4).up l5;refine rdcss_x hX (hT.up l05) hr0 i6 (hr.up l25) hj.1 hm5.in.1 hm5.in.2 λ ω ok l6 i7 hok=>?_;try dsimp only
 split;·exact done_x hq (q0_zero rfl)
 ·rename_i hno;cases hb:X.b with
  | true=>exact hA ω (l05.trans i0 i6 l6) i7 hb
  | false=>have hr1:=hh.r hb;have fs:=fr.s hb (by rw[hr1];exact hr.1);refine absurd (hok (rcS_of (hT.up l02) i3 l35 hb ?_ (hr.up l2) (hT.up l02) (by rw[l2.nd hr.in.2];exact fs.1) hm.1 hs ((ae.ces.trans l3 (gen_ces e4)).trans (l3.trans i3 i4 l4) aj.ces))) hno;rw[frm_root (hT.up l1) fs.2];exact hr1
def Apt(c:Cl)(h:Nat)(t:Tr):Prop :=(c.kind=8/\refuse c=0/\∃q,t=putT c h .done (q+1))∨(c.kind=9/\∃q,t=dropT c h .done (q+1))∨((c.kind=10∨c.kind=11)/\c.t.ro=false/\∃fz q,t=snapT c.t fz .done (q+1))∨(c.kind=12/\∃q,t=clearT c.t .done (q+1))
def XF(H:ByteArray->Nat)(c:Cl)(h:Nat):Xp:=⟨H,Q0,Apt c h,1000,λ _=>False,RF H,true,false⟩
def XS1(H:ByteArray->Nat):Xp:=⟨H,Q0,λ _=>False,0,λ _=>False,RF H,false,false⟩
theorem snap_x{fz:Bool}(hk:c.kind=10∨c.kind=11)(hT:TrieOk σ c.t)(hr0:c.t.ro=false)(i0:Inv H σ):∀(q:Nat) (σ':Kw),Le σ σ'->Inv H σ'->XT (XF H c h) (snapT c.t fz .done q) 0 σ'
 | 0,_,_,_=>trivial
 | q+1,σ',l,i1=>XT.fresh (X:=XF H c h) (.inr (.inr (.inl ⟨hk,hr0,fz,q,rfl⟩))) (XT.mono (show 0+39<=1000+1 by omega) (snap1_x (X:=XF H c h) ⟨rf_ok rfl,rfl⟩ ⟨λ _ _ h=>h⟩ (hT.up l) hr0 i1 λ τ l2 i2 _=>snap_x hk hT hr0 i0 q τ (l.trans i0 i1 l2) i2))
theorem clear_x(hk:c.kind=12)(hT:TrieOk σ c.t)(hr0:c.t.ro=false)(i0:Inv H σ):∀(q:Nat) (σ':Kw),Le σ σ'->Inv H σ'->XT (XF H c h) (clearT c.t .done q) 0 σ'
 | 0,_,_,_=>trivial
 | q+1,σ',l,i1=>XT.fresh (X:=XF H c h) (.inr (.inr (.inr ⟨hk,q,rfl⟩))) (XT.mono (show 0+39<=1000+1 by omega) (clear1_x (X:=XF H c h) ⟨rf_ok rfl,rfl⟩ ⟨λ _ _ h=>h⟩ (hT.up l) hr0 i1 λ τ l2 i2 _=>clear_x hk hT hr0 i0 q τ (l.trans i0 i1 l2) i2))
theorem call_x(i0:Inv H σ)(hc:CallOk H σ c h)(q:Nat):XT (XF H c h) (callT c h q) 1000 σ:=by
 have hX:Xol (XF H c h):=⟨rf_ok rfl,rfl⟩;have hq:Qok (XF H c h):=⟨λ _ _ h=>h⟩
 have i0':Inv (XF H c h).H σ:=i0;have hA:∀(τ:Kw) (r:Rs),Le σ τ->Inv (XF H c h).H τ->r.root=0->XT (XF H c h) (.done r) 0 τ:=λ τ r _ _ hr=>done_x hq (q0_zero hr)
 have ek:=hc.k;unfold callT;try dsimp only
 split;·exact done_x hq (q0_zero rfl)
 rename_i hr0;have hr:refuse c=0:=Classical.byContradiction hr0;have hkey:c.kind=7∨c.kind=8∨c.kind=9->KeyOk H c h:=λ e=>⟨refuse_sz hr e,hc.ha,hc.hl⟩
 try dsimp only
 split
 ·rename_i e;rcases ek with h|h|⟨_,w,g,h⟩|⟨h,_⟩|⟨h,_⟩;·omega
  ·omega
  ·exact(read_x hX.toXok hc.t i0' h (n:=0) λ τ m l1 i1 _ _ _=>done_x hq (q0_zero rfl)).mono (by omega)
  ·omega
  ·omega
 try dsimp only
 split
 ·rename_i e1 e;rcases ek with h|h|⟨h,_⟩|⟨_,w,g,h1,h2⟩|⟨h,_⟩;·omega
  ·omega
  ·omega
  ·exact(gcas_x hX.toXok hc.t i0' h1 h2 (n:=0) λ τ b l1 i1 _=>done_x hq (q0_zero rfl)).mono (by omega)
  ·omega
 try dsimp only
 split;·exact(help_x hX.toXok hc.t i0' (n:=0) λ τ r l1 i1 _ _=>done_x hq (q0_zero rfl)).mono (by omega)
 try dsimp only
 split
 ·rename_i e1 e2 e3 e;rcases ek with h|h|⟨h,_⟩|⟨h,_⟩|⟨_,h1,h2,h3,h4⟩;·omega
  ·omega
  ·omega
  ·omega
  ·exact(rdcss_x hX hc.t (hc.ro (.inr (.inr (.inr (by assumption))))) i0' h1 h2 h3 h4 (n:=0) λ τ b l1 i1 _=>done_x hq (q0_zero rfl)).mono (by omega)
 try dsimp only
 split;·refine XT.mono (show 120+15<=1000 by omega) (help_x hX.toXok hc.t i0' λ τ r l1 i1 hr _=>?_);exact(find_x (K:=Tr.done) (n:=0) hX hc.t i0' hA q τ r [] _ 0 l1 i1 hr.withG).mono (by simp)
 try dsimp only
 split;·rename_i e;exact(put_x hX rfl (show 500<=1000 by omega) (λ q=>.inl ⟨e,hr,q,rfl⟩) hc.t i0' (hkey (.inr (.inl e))) hA q σ (Le.refl σ) i0).mono (by omega)
 try dsimp only
 split;·rename_i e;exact(drop_x hX rfl (show 1000<=1000 by omega) (λ q=>.inr (.inl ⟨e,q,rfl⟩)) hc.t i0' hA q σ (Le.refl σ) i0).mono (by omega)
 have hsnap:∀fz,(c.kind=10∨c.kind=11)->XT (XF H c h) (snap0T c.t fz .done q) 1000 σ:=λ fz hk=>by
  unfold snap0T;try dsimp only
  split
  ·rename_i hro;refine XT.mono (show 10+1<=1000 by omega) (load_x λ τ hg=>?_);have hv:=(hc.t.up hg.le).roI hg.inv hro;try dsimp only
   split;·exact cell_x hX true hg.inv hv λ ω c l6 i7 h0 hc=>done_x hq λ _=>hc
   ·have hgg:=hv.withG.gens hg.inv;exact read_x hX.toXok (n:=0) (hc.t.up hg.le) hg.inv hv.withG λ υ m l2 i2 hm hs _=>copy_x hX hq i2 hm hs (by have:=l2.gen;omega)
  ·rename_i hro;exact(snap_x hk hc.t (by simpa using hro) i0 q σ (Le.refl σ) i0).mono (by omega)
 try dsimp only
 split;·exact hsnap false (.inl (by assumption))
 try dsimp only
 split;·exact hsnap true (.inr (by assumption))
 ·have hk:c.kind=12:=by omega
  exact(clear_x hk hc.t (hc.ro (.inr (.inr (.inl hk)))) i0 q σ (Le.refl σ) i0).mono (by omega)
theorem apt_s{t:Tr}(i0:Inv H σ)(hT:TrieOk σ c.t)(hl:h<18446744073709551616)(ha:H c.key=h)(hro:c.kind=8∨c.kind=9∨c.kind=12∨c.kind=4->c.t.ro=false)(hp:Apt c h t):XT (XS1 H) t 7000 σ:=by
 have hX:Xol (XS1 H):=⟨rf_ok rfl,rfl⟩;have hq:Qok (XS1 H):=⟨λ _ _ h=>h⟩
 have i0':Inv (XS1 H).H σ:=i0;have hA:∀(τ:Kw) (r:Rs),Le σ τ->Inv (XS1 H).H τ->r.root=0->XT (XS1 H) (.done r) 0 τ:=λ τ r _ _ hr=>done_x hq (q0_zero hr)
 rcases hp with⟨hk,hr,q,e⟩|⟨hk,q,e⟩|⟨hk,hr0,fz,q,e⟩|⟨hk,q,e⟩<;>subst e;·exact(put_s hX (hro (.inl hk)) hT i0' ⟨refuse_sz hr (.inr (.inl hk)),ha,hl⟩ hA rfl 12 (Nat.le_refl _) (q+1) σ (Le.refl σ) i0 (.inl rfl)).mono (by omega)
 ·exact(drop_s hX (hro (.inr (.inl hk))) hT i0' hA rfl 12 (Nat.le_refl _) (q+1) σ (Le.refl σ) i0 (.inl rfl)).mono (by omega)
 ·exact XT.mono (show 0+39<=7000 by omega) (snap1_x hX hq hT hr0 i0' λ _ _ _ h=>nomatch h)
 ·exact XT.mono (show 0+39<=7000 by omega) (clear1_x hX hq hT (hro (.inr (.inr (.inl hk)))) i0' λ _ _ _ h=>nomatch h)
end
end
end Go.Proofs.YtdnklbipddigbaaGreat
namespace Go.Ct
open Go Go.RowKit
section
def mm0:Mm:=⟨[markV.c,markV.c,alNv (({Nd.zero with kind:=3}:Nd).c [] []) 0,alNv (({Nd.zero with kind:=2,gen:=1}:Nd).c [] []) 1],[0,3,4],1⟩
end
end Go.Ct
namespace Go.Proofs.YtdnklbipddigbaaGreat
section
open Go Go.RowKit Go.Ct
open Classical in
noncomputable def H8 (m:Nat) (k:ByteArray):Nat:=if k∈keys8 then hsK k m else 18446744073709551616
theorem h8_lt{m h:Nat}{k:ByteArray}(e:H8 m k=h)(hl:h<18446744073709551616):k∈keys8/\hsK k m=h:=by
 unfold H8 at e;split at e;·exact⟨by assumption,e⟩
 ·omega
inductive WR(H:ByteArray->Nat)(m:Nat):Mm->List Tri->List Tr->Prop where
 | new:WR H m mm0 [⟨3,false⟩] []
 | start {s s':Mm} {ts:List Tri} {rs:List Tr} {k:Cl} {n j:Nat} {t':Tr} (h:WR H m s ts rs) (hk:∀σ:Kw,σ.mm=s->Inv H σ->(∀t∈ts,TrieOk σ t)->CallOk H σ k (hsK k.key m)) (hr:Rc j (callT k (hsK k.key m) n) s t' s') (ha:atRest t'=true):WR H m s' ts (t'::rs)
 | step {s s':Mm} {ts:List Tri} {rs:List Tr} {j:Nat} {t t':Tr} (h:WR H m s ts (t::rs)) (hr:Rc j t s t' s') (ha:atRest t'=true):WR H m s' ts (t'::rs)
 | perm {s:Mm} {ts:List Tri} {rs rs':List Tr} (h:WR H m s ts rs) (hp:rs.Perm rs'):WR H m s ts rs'
 | drop {s:Mm} {ts:List Tri} {rs:List Tr} {r:Rs} (h:WR H m s ts (.done r::rs)):WR H m s ts rs
 | add {s:Mm} {ts:List Tri} {rs:List Tr} {r:Rs} (h:WR H m s ts (.done r::rs)) (h0:0<r.root):WR H m s (ts++[⟨r.root,r.ro⟩]) (.done r::rs)
def kw0:Kw:=⟨⟨[markV.c,markV.c],[],0⟩,λ _=>[],λ _=>0,λ _=>.no⟩
theorem kw0_nd{r:Int}(h1:1<=r)(h2:r<=2):kw0.nd r=markV.c:=by
 have:r=1∨r=2:=by omega
 rcases this with rfl|rfl<;>rfl
theorem kw0_inv(H:ByteArray->Nat):Inv H kw0:=by
 refine⟨by decide,rfl,rfl,Int.le_refl _,properN_new (Int.le_refl _),λ r h1 h2=>?_,λ c h1 h2=>?_⟩
 ·have h2':r<=2:=h2;have e:=kw0_nd h1 h2';have hok:=ok_mark (gen:=0) (n:=2) (Int.le_refl _);refine⟨by rw[e];exact hok.1,by rw[e];exact Int.le_refl _,by rw[e];exact⟨nn0 _,nn0 _,nn0 _,(λ r hr=>nomatch hr),nn0 _,nn0 _,nn0 _,zero_b,zero_b⟩,λ k=>?_,λ k=>?_,λ k=>?_,λ k=>?_,λ k=>?_,λ k=>?_,λ k=>?_⟩<;>rw[e] at k;·exact no_k (a:=1) (b:=2) k
  ·exact no_k (a:=1) (b:=3) k
  ·exact no_k (a:=1) (b:=4) k
  ·exact no_k (a:=1) (b:=5) k
  ·exact no_k (a:=1) (b:=6) k
  ·exact no_k (a:=1) (b:=7) k
  ·exact no_k (a:=1) (b:=8) k
 ·exact absurd h2 (by show ¬c<=((0:Nat):Int);omega)
def createT:Tr:=.alloc emptyV 0 λ c=>.gen λ g=>.alloc (inodeV g) c λ j=>.cell j λ r=>.done (triR r false)
theorem create_wt{H:ByteArray->Nat}{σ:Kw}(i0:Inv H σ):WT H Q0 createT σ:=by
 have hg:=i0.gen;have hnew:NewOk H σ emptyV ([]:List Nat) (σ.mm.gen+1):=new_cnode (b:=0) (xs:=[]) i0 bv_zero (λ j hj v hv=>by simp[mOf] at hv) (by simp) (λ h=>absurd h (by decide))
 refine alloc_wt i0 hnew (in_leaf i0 (λ e=>no_k (a:=3) (b:=2) e)) λ ρ e0 cl l3 i4 _ em e1 e2 e3 h1 h2=>?_;have hem:IsM ρ e0 [] (σ.mm.gen+1):=mk_main (cl:=0) (.inl rfl) e1 e2 e3;have hgr:ρ.mm.gen=σ.mm.gen:=by rw[em];rfl
 refine gen_wt i4 λ χ l4 i5 e4=>?_;exact inode_wt (g:=ρ.mm.gen+1) i5 (by omega) (by omega) (by simp) (hem.up l4) (by omega) λ ψ j l5 i6 hj=>cell_wt false i6 hj.1 λ ω c l6 i7 h0 hc=>λ _=>hc
theorem create_rc:Rc 0 createT kw0.mm (.done (triR 3 false)) mm0 :=.sil (.sil (.sil (.sil (Rc.refl _ _) (Sp.alloc _ _ _ _)) (Sp.gen _ _)) (Sp.alloc _ _ _ _)) (Sp.cell _ _ _)
end
end Go.Proofs.YtdnklbipddigbaaGreat
