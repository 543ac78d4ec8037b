/- Merged. -/
import Derived.Test.YtbajmaoegmbfgaaGreatGKx3
set_option linter.unusedSimpArgs false
set_option linter.unusedVariables false
namespace Go.Proofs.YtbajmaoegmbfgaaGreat
open Go Go.RowKit Go.Ct
section
section
variable{X:Xp}{σ τ υ:Kw}{i m p g v:Int}{w:List Nat}{t:dV}{n:Nat}{c:Cl}{h:Nat}
def Jp(σ τ:Kw):Prop:=∀x:Int,x<=σ.cl->τ.ce x=σ.ce x
theorem Jp.refl(σ:Kw):Jp σ σ:=λ _ _=>rfl
theorem Jp.trans(l:Le σ τ)(h:Jp σ τ)(h2:Jp τ υ):Jp σ υ:=λ x hx=>(h2 x (by have:=l.cl;omega)).trans (h x hx)
theorem og{nd:Nv}{y:Int}(em:υ.mm=σ.mm.push nd y):Jp σ υ:=λ x hx=>by
 have e2:υ.mm.cs=fJ nd.kind σ.mm.cs y:=by rw[em];rfl
 show bJ υ.mm.cs x=_;rw[e2];unfold fJ;split;·exact sW hx
 ·rfl
theorem xe.Qj{nd:Nv}{x r:Int}(a:xe σ υ nd x r w g):Jp σ υ:=λ _ h=>a.ce h
theorem Jp.fl{H:ByteArray->Nat}{L:Nat}(hT:bX σ t)(i0:Inv H σ)(h:Jp σ τ):FL t L σ τ:=⟨h _ hT.2.1,λ p hk _=>h _ (i0.eG hk).2.1⟩
theorem Ku.Qj(i0:Inv X.H σ)(hT:bX σ t)(l:Le σ τ)(f:Jp σ τ)(h:Ku X σ t g):Ku X τ t g:=h.fl i0 hT l (f.fl (L:=0) hT i0)
theorem Fp{nd:Nv}{r:Int}(i0:Inv X.H σ)(i1:Inv X.H τ)(hT:bX σ t)(hi:qP σ i w g)(hm:oS σ m w g)(l:Le σ τ)(l2:Le τ υ)(f:Jp σ τ)(a:xe τ υ nd m r w g)(hk:cB nd)(h:Ku X σ t g)(hma:σ.ce (σ.nd i).main=m):GcS X υ t i g m r:=by have l02:=l.trans i0 i1 l2;have f2:=f.trans l a.Qj;have h2:=h.Qj i0 hT l02 f2;exact⟨h2.b,h2.ro,h2.k2,h2.gen,by rw[l02.nd hi.in.2,f2 _ (i0.eG hi.1.1).2.1];exact hma,a.prev hk,by rw[l02.nd hm.in.2];exact hm.1⟩
structure ClS(X:Xp)(σ:Kw)(t:dV)(g p child:Int)(k:Nat):Prop where
 so:Ku X σ t g
 lk:uy σ p k child
 st:bC σ (σ.ce (σ.nd child).main)
 k5:(σ.nd (σ.ce (σ.nd child).main)).kind=5
theorem Ma{level:Int}{parent child:Int}{K:Bool->Tr}(hX:E4 X)(hT:bX σ t)(i0:Inv X.H σ)(hp:qP σ parent w g)(hl:level=(w.length:Int))(hch:(σ.nd child).kind=2)
  (hK:∀τ b,Le σ τ->Inv X.H τ->(ClS X σ t g parent child (sl h w.length)->me τ parent (sl h w.length)/\FL t w.length σ τ)->XT X (K b) n τ):XT X (vY t parent child h level K) (n+30) σ:=by
 refine pU hX.toaq (n:=n+20) hT i0 hp λ τ m l1 i1 hm hs fr=>cS hm.in.2 ?_;try dsimp only
 split
 ·rename_i hlk;have h3:=lQ hlk;have hc:=hm.qT i1 h3;have hlev:eZ h level=((sl h w.length:Nat):Int):=by rw[hl];exact Af hc.wl
  rw[hlev] at hlk ⊢;have hk:=vW h w.length;have hch1:(τ.nd child).kind=2:=by rw[l1.nd (kB hch)];exact hch
  have hb:uV τ child (w++[sl h w.length]):=by
   have h':=hlk;rw[hc.lk hk] at h';rcases hc.br _ hk _ h' with h|h
   ·rw[hch1] at h;exact absurd h.1 (by decide)
   ·exact⟨h.1,h.2.1⟩
  refine pU hX.toaq (n:=n+10) (hT.up l1) i1 (g:=(τ.nd child).gen) ⟨hb,rfl⟩ λ υ mc l2 i2 hmc _ fr2=>cS hmc.in.2 ?_;have l02:=l1.trans i0 i1 l2
  have hsame:ClS X σ t g parent child (sl h w.length)->υ=σ/\m=σ.ce (σ.nd parent).main/\mc=σ.ce (σ.nd child).main:=λ q=>by obtain⟨e1,e2⟩:=fr.e q.so.b q.lk.st;subst e1;obtain⟨e3,e4⟩:=fr2.e q.so.b q.st;exact⟨e3,e2,e4⟩
  try dsimp only
  split
  ·rename_i h5;have hlf:=i2.leaf (.inr h5);have hu:fQ (υ.nd mc).hash.toNat (w++[sl h w.length]):=by have:=((i2.nd mc hmc.in.1 hmc.in.2).k5 h5).2.2.2.1;rwa [hmc.2.1] at this
   rw[rj h5,xr hlf];refine jL (w:=[]) (g:=0) hX.al i2 (B3 i2 hlf.sz hlf.ha hlf.hl) ⟨⟨Int.le_refl _,bM _⟩,λ k=>dR (a:=4) (b:=2) k,λ k=>by unfold cB at k;rcases k with k|k|k;exact dR (a:=4) (b:=3) k;exact dR (a:=4) (b:=5) k;exact dR (a:=4) (b:=6) k,λ _=>rfl⟩ λ ρ s l3 i3 asg=>?_;have l23:=l2.trans i1 i2 l3;have l03:=l02.trans i0 i2 l3;have hm3:=hm.up l23;have hc3:=hc.upL l23;have hlk3:iO (ρ.nd m) ((sl h w.length:Nat):Int)=some child:=by rw[l23.nd hm.in.2];exact hlk
   have hs4:(ρ.nd s).kind=4:=by rw[asg.nd];rfl
   have hbr:Mi ρ (w++[sl h w.length]) g s:=.inl ⟨hs4,by rw[asg.nd];exact hu⟩;refine cS hm3.in.2 ?_;have hup:=hc3.up hk hlk3 asg.r1
   have hfin:∀nd,cB nd->lD X.H ρ nd w g->(∀χ r,Le ρ χ->Inv X.H χ->xe ρ χ nd m r w g->∀b,iO (χ.nd r) ((sl h w.length:Nat):Int)=some b->(χ.nd b).kind≠2)->XT X (.alloc nd m λ r=>lE t parent m r K) (n+10) ρ:=λ nd hmk hn hno =>
    jL hX.al i3 hn (yL hmk hm3 (bC.up i1 hm.1 hs l23)) λ χ r l4 i4 ar=>by
     have l04:=l03.trans i0 i3 l4;have hr:=oA (cl:=0) hmk ar.nd ar.way ar.gb;refine C5 hX.toaq (hT.up l04) i4 (hp.up l04) hr λ ψ ok l5 i5 hgr=>hK ψ ok (l04.trans i0 i4 l5) i5 λ q=>?_;obtain⟨e1,e2,e3⟩:=hsame q
     subst e1;have r1:=hgr (Fp i2 i3 (hT.up l02) (hp.up l02) (hm.up l2) l3 l4 asg.Qj ar hmk q.so e2.symm);have ema:ψ.ce (ψ.nd parent).main=r:=by rw[l5.nd (hp.up l04).in.2];exact r1.ma
     refine⟨⟨by rw[ema];exact r1.st,λ b hb=>?_⟩,((asg.Qj.fl (hT.up l02) i2).trans l3 (ar.Qj.fl (hT.up l03) i3)).trans (l3.trans i2 i3 l4) ((Nk (hT.up l04) i4 r1.fr).less (by rw[(hp.up l04).1.2];exact Nat.le_refl _))⟩;rw[ema,l5.nd hr.in.2] at hb;have hbk:=hno χ r l4 i4 ar b hb;have hbin:=((hr.qT i4 (lQ hb)).br _ hk b (by rw[<- (hr.qT i4 (lQ hb)).lk hk];exact hb)).in;rw[l5.nd hbin.2];exact hbk
   try dsimp only
   rw[hup.1,ie hup.2.1];try dsimp only
   split;·rename_i hx;refine hfin _ (.inr (.inl rfl)) (I1 i3 hlf.sz hlf.ha hlf.hl (by omega) (by have:=hc.wl;omega) (sU hu)) λ χ r l4 i4 ar b hb=>?_;have:=lQ hb;rw[ar.nd] at this;exact dR (a:=5) (b:=3) this
   ·rename_i hx;refine hfin _ (.inl rfl) ?_ λ χ r l4 i4 ar b hb=>?_;·rw[<- hup.1];refine cq i3 hc3 hk hlk3 hbr λ h0 h1=>absurd ⟨?_,by omega,rfl⟩ hx;rw[wY hup.2.2.2];exact h1
    ·have hr:=oA (cl:=0) (σ:=χ) (.inl rfl) ar.nd ar.way ar.gb;have hcn:=hr.qT i4 (lQ hb);rw[hcn.lk hk,ar.nd] at hb
     have hb':nY (τ.nd m).bm.toNat (rT (τ.nd m).xs (fP (τ.nd m).bm.toNat (sl h w.length)) s) (sl h w.length)=some b:=by rw[<- hb];show _=nY (B7 (τ.nd m).bm.toNat (rT (τ.nd m).xs (fP (τ.nd m).bm.toNat (sl h w.length)) s)).bm.toNat (rT (τ.nd m).xs (fP (τ.nd m).bm.toNat (sl h w.length)) s) _;rw[show(B7 (τ.nd m).bm.toNat (rT (τ.nd m).xs (fP (τ.nd m).bm.toNat (sl h w.length)) s)).bm.toNat=(τ.nd m).bm.toNat from Int.toNat_natCast _]
     rw[hup.2.2.1 _ hk] at hb';unfold Lw at hb';rw[if_pos rfl] at hb';cases hb';rw[l4.nd asg.r2,hs4];decide
  ·rename_i h5;refine(hK υ _ l02 i2 λ q=>?_).mono (by omega);obtain⟨e1,e2,e3⟩:=hsame q;exact absurd (by rw[e3,e1];exact q.k5) h5
 ·rename_i hlk;refine(hK τ _ l1 i1 λ q=>?_).mono (by omega);obtain⟨e1,e2⟩:=fr.e q.so.b q.lk.st;refine absurd ?_ hlk;have hlk2:=q.lk.lk;have hc:w.length<=10:=((hp.rb i0).qT i0 (lQ hlk2)).wl;rw[hl,Af hc,e1,e2];exact hlk2
theorem lj{key:ByteArray}{K:Rs->Tr}(hX:E4 X)(hT:bX σ t)(i0:Inv X.H σ)(hK:∀τ r,Le σ τ->Inv X.H τ->r.root=0->XT X (K r) n τ):∀(q:Nat) (σ':Kw) (i:Int) (w:List Nat) (g level:Int),Le σ σ'->Inv X.H σ'->qP σ' i w g->XT X (lC t h key K q i level) (n+10*(12-w.length)) σ'
 | 0,_,_,_,_,_,_,_,_=>trivial
 | q+1,σ',i,w,g,level,l,i1,hi=>by
  have hw:=(hi.Ez i1).2.2;have e:n+10*(12-w.length)=(n+10*(11-w.length))+10:=by omega
  rw[e];refine pU hX.toaq (hT.up l) i1 hi λ τ m l1 i2 hm _ _=>cS hm.in.2 ?_;have l01:=l.trans i0 i1 l1;try dsimp only
  split;·(try dsimp only);split<;>exact(hK τ _ l01 i2 rfl).mono (by omega)
  try dsimp only
  split;·exact(hK τ _ l01 i2 rfl).mono (by omega)
  cases hlk:iO (τ.nd m) (eZ h level) with
  | none=>exact(hK τ _ l01 i2 rfl).mono (by omega)
  | some b=>
   obtain⟨k,hk,ek⟩:=Py h level;rw[ek] at hlk;have hc:=hm.qT i2 (lQ hlk);rw[hc.lk hk] at hlk;have hb:=hc.br k hk b hlk;refine cS hb.in.2 ?_;try dsimp only
   split;·(try dsimp only);split<;>exact(hK τ _ l01 i2 rfl).mono (by omega)
   ·rename_i h4;rcases hb with hb|hb;·exact absurd hb.1 h4
    ·have:=lj (key:=key) hX hT i0 hK q τ b (w++[k]) (τ.nd b).gen (level+1) l01 i2 ⟨⟨hb.1,hb.2.1⟩,rfl⟩;rw[List.length_append,List.length_singleton] at this;exact this.mono (by omega)
theorem aCI{x:Int}{h0 h:Nat}{pk:ByteArray}{pv:Int}{k:ByteArray}{u:Int}{q:Nat}{K:Int->Tr}(hX:E4 X)(hh0:h0<18446744073709551616)(hh:h<18446744073709551616)(hH:X.H k=h)(hk:k.size<=64)(hg1:1<=g)(hne:pk≠k)(hpk:pk.size<=64)(hpH:X.H pk=h0) :
  ∀(n lvl:Nat) (σ:Kw) (r:Int) (f:Nat),lvl+n=kZ h0 h->Inv X.H σ->(σ.nd x).kind=4->(σ.nd x).hash.toNat=h0->g<=σ.mm.gen->f=σ.len+1 ->
  (∀υ,Le σ υ->Inv X.H υ->Jp σ υ->υ.len=σ.len+(dN x h0 h (pk,pv) k u g f n lvl).length->oS υ ((f-1+(dN x h0 h (pk,pv) k u g f n lvl).length:Nat):Int) (tV h lvl) g->bC υ ((f-1+(dN x h0 h (pk,pv) k u g f n lvl).length:Nat):Int)->XT X (K ((f-1+(dN x h0 h (pk,pv) k u g f n lvl).length:Nat):Int)) q υ) ->
  XT X (A9 (dN x h0 h (pk,pv) k u g f n lvl) r K) q σ
 | 0,lvl,σ,r,f,hn,i0,hx4,hxh,hgg,hf,hK=>by
  have hx:=eQ (N:=σ.mm.nodes) (i:=x) (by have:=hx4;simp only[Kw.nd] at this;rw[this];decide);have hcl:=Ah h0 h;unfold dN at hK ⊢;try dsimp only
  split
  ·rename_i e
   rw[if_pos e] at hK;subst e;have heq:h0=h:=qw hh0 hh λ j hj=>Tt (by omega);obtain⟨o1,o2,o3⟩:=u6 (p:=(pk,pv)) (q:=(k,u)) hne
   have hnew:lD X.H σ (Wg ((h:Nat):Int) (E6 [(pk,pv),(k,u)])) (tV h 11) g:=Gk i0 o1 (mR.2 o2) (yO.2 λ p hp=>by rcases o3 p hp with rfl|rfl;exact hpk;exact hk) (λ p hp=>by rcases o3 p hp with rfl|rfl;exact hpH.trans heq;exact hH) hh (fY h 11) (uA h 11);refine jL hX.al i0 hnew (rV i0 (λ e=>dR (a:=6) (b:=2) e)) λ υ r' l1 i1 a1=>?_;have er:=a1.re;have em:=a1.mm;have e1:=a1.nd;have e2:=a1.way;have e3:=a1.gb;have h1:=a1.r1;have h2:=a1.r2;have hr':r'=((f-1+[Gw h (E6 [(pk,pv),(k,u)])].length:Nat):Int):=by rw[er,hf];simp
   have hlen:υ.len=σ.len+1:=by simp[Kw.len,em,Mm.push]
   show XT X (K r') q υ
   rw[hr'];refine hK υ l1 i1 a1.Qj hlen ?_ ?_<;>rw[<- hr']
   ·exact oA (cl:=0) (.inr (.inr rfl)) e1 e2 e3
   ·exact a1.prev (.inr (.inr rfl))
  ·rename_i e
   rw[if_neg e] at hK;have hlv:lvl=kZ h0 h:=by omega
   have hne2:sl h0 lvl≠sl h lvl:=by rw[hlv];exact Mx (by omega)
   refine jL (w:=[]) (g:=0) hX.al i0 (B3 i0 hk hH hh) (rV i0 (λ e=>dR (a:=4) (b:=2) e)) λ υ s l1 i1 a1=>?_;have er:=a1.re;have em:=a1.mm;have e1:=a1.nd;have hs1:=a1.r1;have hs2:=a1.r2;have hlen:υ.len=σ.len+1:=by simp[Kw.len,em,Mm.push]
   have hsf:s=(f:Int):=by rw[er,hf]
   obtain⟨b1,b2⟩:=aBK (vW h0 lvl) (vW h lvl) hne2 (x:=x) (s:=s) hx.1 hs1
   have hx4':(υ.nd x).kind=4:=by rw[l1.nd hx.2];exact hx4
   have hxh':(υ.nd x).hash.toNat=h0:=by rw[l1.nd hx.2];exact hxh
   have hnew:lD X.H υ (B7 (dX (dX 0 (sl h0 lvl:Int)) (sl h lvl:Int)) (two (sl h0 lvl) (sl h lvl) x s)) (tV h lvl) g:=by
    refine nP i1 b1 (λ j hj v hv=>?_) (by rw[fY];omega) (λ _=>⟨λ e=>?_,λ b hb=>?_⟩)
    ·rcases b2 j hj v hv with⟨rfl,rfl⟩|⟨rfl,rfl⟩
     ·refine .inl ⟨hx4',?_⟩;rw[hxh'];have:=rG (Zs (a:=h0) (b:=h) (l:=lvl) (by omega));rwa [fY] at this
     ·refine .inl ⟨by rw[e1];rfl,?_⟩;rw[e1];have:=rG (uA h lvl);rw[fY] at this;exact this
    ·unfold two at e;split at e<;>cases e
    ·unfold two at hb;split at hb<;>cases hb
   rw[hsf] at hnew
   show XT X (.alloc (B7 (dX (dX 0 (sl h0 lvl:Int)) (sl h lvl:Int)) (two (sl h0 lvl) (sl h lvl) x (f:Int))) 0 K) q υ
   refine jL hX.al i1 hnew (rV i1 (λ e=>dR (a:=3) (b:=2) e)) λ ρ r' l2 i2 a2=>?_;have er2:=a2.re;have em2:=a2.mm;have e4:=a2.nd;have e5:=a2.way;have e6:=a2.gb;have h1:=a2.r1;have h2:=a2.r2;have hlen2:ρ.len=υ.len+1:=by simp[Kw.len,em2,Mm.push]
   have hr':r'=((f-1+[vZ h k u,mj (dX (dX 0 (sl h0 lvl:Int)) (sl h lvl:Int)) (two (sl h0 lvl) (sl h lvl) x (f:Int))].length:Nat):Int):=by
    rw[er2];simp only[List.length_cons,List.length_nil];omega
   rw[hr'];refine hK ρ (l1.trans i0 i1 l2) i2 (a1.Qj.trans l1 a2.Qj) (by simp only[List.length_cons,List.length_nil];omega) ?_ ?_<;>rw[<- hr']
   ·exact oA (cl:=0) (.inl rfl) e4 e5 e6
   ·exact a2.prev (.inl rfl)
 | n+1,lvl,σ,r,f,hn,i0,hx4,hxh,hgg,hf,hK=>by
  have hx:=eQ (N:=σ.mm.nodes) (i:=x) (by have:=hx4;simp only[Kw.nd] at this;rw[this];decide);have hcl:=Ah h0 h;unfold dN at hK ⊢;rw[Rg];refine aCI hX hh0 hh hH hk hg1 hne hpk hpH n (lvl+1) σ r f (by omega) i0 hx4 hxh hgg hf λ υ l1 i1 f1 el hm hst=>?_;generalize hd:(dN x h0 h (pk,pv) k u g f n (lvl+1)).length=d at *;show XT X (.alloc (nL g) ((f-1+d:Nat):Int) λ _=>.alloc (B7 (dX 0 (sl h lvl:Int)) [((f+d:Nat):Int)]) 0 K) q υ
  refine jL (w:=tV h (lvl+1)) (g:=0) hX.al i1 (Cv (by rw[fY];omega) hg1 (by have:=l1.gen;omega)) ⟨⟨by omega,hm.in.2⟩,λ _=>hm,λ k=>absurd k (jZ (.inr (.inr (.inl rfl)))),λ k=>dR (a:=2) (b:=8) k⟩ (λ ρ j l2 i2 a2=>?_) (λ _=>hst);have er:=a2.re;have em:=a2.mm;have e1:=a2.nd;have e2:=a2.way;have hj1:=a2.r1;have hj2:=a2.r2;have hlen:ρ.len=υ.len+1:=by simp[Kw.len,em,Mm.push]
  have hj:j=((f+d:Nat):Int):=by rw[er];omega
  obtain⟨b1,b2⟩:=l8 (vW h lvl) (r:=j) hj1
  have hnew:lD X.H ρ (B7 (dX 0 (sl h lvl:Int)) [j]) (tV h lvl) g:=by
   refine nP i2 b1 (λ q hq v hv=>?_) (by rw[fY];omega) (λ _=>⟨by simp,λ b hb=>?_⟩)
   ·obtain⟨rfl,rfl⟩:=b2 q hq v hv
    exact .inr ⟨by rw[e1];rfl,by rw[e2,Kl],by rw[e1];exact Int.le_refl _⟩
   ·cases hb;rw[e1];rfl
  rw[hj] at hnew;refine jL hX.al i2 hnew (rV i2 (λ e=>dR (a:=3) (b:=2) e)) λ χ r' l3 i3 a3=>?_;have er2:=a3.re;have em2:=a3.mm;have e4:=a3.nd;have e5:=a3.way;have e6:=a3.gb;have h1:=a3.r1;have h2:=a3.r2;have hlen2:χ.len=ρ.len+1:=by simp[Kw.len,em2,Mm.push]
  have hr':r'=((f-1+(d+2):Nat):Int):=by rw[er2];omega
  have hL:(dN x h0 h (pk,pv) k u g f n (lvl+1)++[rX g ((f-1+d:Nat):Int),mj (dX 0 (sl h lvl:Int)) [((f+d:Nat):Int)]]).length=d+2:=by rw[List.length_append,hd];rfl
  rw[hL] at hK;rw[hr'];refine hK χ ((l1.trans i0 i1 l2).trans i0 i2 l3) i3 ((f1.trans l1 a2.Qj).trans (l1.trans i0 i1 l2) a3.Qj) (by omega) ?_ ?_<;>rw[<- hr']
  ·exact oA (cl:=0) (.inl rfl) e4 e5 e6
  ·exact a3.prev (.inl rfl)
theorem aAQ{b:Int}{level:Nat}{K:Int->Tr}(hX:E4 X)(i0:Inv X.H σ)(hb4:(σ.nd b).kind=4)(hu0:fQ (σ.nd b).hash.toNat w)(hu:fQ h w)(hl:level=w.length)(hw:w.length<=11)(hh:h<18446744073709551616)(hH:X.H c.key=h)(hk:c.key.size<=64)(hg1:1<=g)(hgg:g<=σ.mm.gen)(hne:(σ.nd b).key≠c.key)
  (hK:∀υ d,Le σ υ->Inv X.H υ->Jp σ υ->oS υ d w g->bC υ d->XT X (K d) n υ):XT X (Xb c b h level g K) n σ:=by
 have hlf:=i0.leaf (.inl hb4);have hb:=eQ (N:=σ.mm.nodes) (i:=b) (by have:=hb4;simp only[Kw.nd] at this;rw[this];decide)
 have hcom:level<=kZ (σ.nd b).hash.toNat h:=by
  have hw11:=Ah (σ.nd b).hash.toNat h;by_cases hlt:level<=kZ (σ.nd b).hash.toNat h;·exact hlt
  ·exact absurd ((hu0 _ (by omega)).trans (hu _ (by omega)).symm) (Mx (by omega))
 refine cS hb.2 ?_;generalize hn:kZ (σ.nd b).hash.toNat h-level=nd;have hlv:kZ (σ.nd b).hash.toNat h-nd=level:=by omega
 obtain⟨a,ha⟩:=Yh (x:=b) (h0:=(σ.nd b).hash.toNat) (h:=h) (p:=((σ.nd b).key,(σ.nd b).val)) (k:=c.key) (u:=c.val) (g:=g) nd level;have hP:∀f,dP b (σ.nd b).hash.toNat h ((σ.nd b).key,(σ.nd b).val) c.key c.val g f level=dN b (σ.nd b).hash.toNat h ((σ.nd b).key,(σ.nd b).val) c.key c.val g f nd level:=λ f=>by unfold dP;rw[hn,hlv]
 obtain⟨l0,hl0⟩:=ha 0;try dsimp only
 rw[hP 0,hl0];show XT X (.alloc a.c0 a.init λ f=>A9 (dP b (σ.nd b).hash.toNat h ((σ.nd b).key,(σ.nd b).val) c.key c.val g f.toNat level).tail f K) n σ
 obtain⟨l1,hl1⟩:=ha (σ.len+1);have key:XT X (A9 (dN b (σ.nd b).hash.toNat h ((σ.nd b).key,(σ.nd b).val) c.key c.val g (σ.len+1) nd level) 0 K) n σ:=by refine aCI hX hlf.hl hh hH hk hg1 hne hlf.sz hlf.ha nd level σ 0 (σ.len+1) (by omega) i0 hb4 rfl hgg rfl λ υ l2 i2 f2 _ hm hst=>hK υ _ l2 i2 f2 ?_ hst;rw[vk hu,<- hl];exact hm
 rw[hl1] at key;rcases key with h|⟨h1,h2,h3⟩;·exact .inl h
 ·refine .inr ⟨h1,λ h=>(by rw[hX.al] at h;cases h),λ h=>?_⟩;obtain⟨υ,l2,i2,e2,hw2⟩:=h3 h;refine⟨υ,l2,i2,e2,?_⟩;dsimp only;rw[hP,show(((σ.len+1:Nat):Int)).toNat=σ.len+1 from Int.toNat_natCast _,hl1];exact hw2
end
end
section
section
variable{X:Xp}{σ τ υ:Kw}{i m p g v:Int}{w:List Nat}{t:dV}{n:Nat}{c:Cl}{h:Nat}
abbrev KLx(X:Xp)(σ:Kw)(t:dV)(i m g:Int)(h level:Nat)(K:Rs->Int->Tr)(n:Nat):Prop:=∀τ r what,Le σ τ->Inv X.H τ->r.root=0->(what=0∨what=1∨(Fur σ m h level/\τ=σ))->(Ku X σ t g->σ.ce (σ.nd i).main=m->what≠0)->XT X (K r what) n τ
variable{level:Nat}
theorem Yr{K:Rs->Int->Tr}(hX:E4 X)(hT:bX σ c.t)(i0:Inv X.H σ)(hk:Ss X.H c h)(hi:qP σ i w g)(hm:oS σ m w g)(hs:bC σ m)(hu:fQ h w)(hl:level=w.length)(h5:(σ.nd m).kind≠5)(hK:KLx X σ c.t i m g h level K n):XT X (jQ c i m h level g K) (n+10) σ:=by
 have hg:=hi.Ez i0;have gc:∀{nd:Nv} {R:Rs},R.root=0->cB nd->∀υ,Le σ υ->Inv X.H υ->Jp σ υ->lD X.H υ nd w g->XT X (.alloc nd m λ r=>lE c.t i m r λ ok=>K R (if ok=true then 1 else 0)) (n+10) υ:=λ{nd R} hR hmk υ l1 i1 f1 hn =>jL hX.al i1 hn (yL hmk (hm.up l1) (bC.up i0 hm.1 hs l1)) λ χ r l2 i2 a=>by have l:=l1.trans i0 i1 l2;exact C5 hX.toaq (hT.up l) i2 (hi.up l) (oA (cl:=0) hmk a.nd a.way a.gb) λ ψ ok l3 i3 hg=>hK ψ _ _ (l.trans i0 i2 l3) i3 hR (ew ok) λ so hma=>by rw[(hg (Fp i0 i1 hT hi hm l1 l2 f1 a hmk so hma)).t];decide
 have gr:∀{R:Rs} {k:Nat} {o r:Int},R.root=0->∀υ,Le σ υ->Inv X.H υ->Jp σ υ->k<64->iO (υ.nd m) (k:Int)=some o->Mi υ (w++[k]) g r->(0<w.length->(υ.nd m).xs.length=1->(υ.nd r).kind=2)->(υ.nd m).kind=3->XT X (Gt m (k:Int) r λ n=>lE c.t i m n λ ok=>K R (if ok=true then 1 else 0)) (n+10) υ:=λ{R k o r} hR υ l1 i1 f1 hk64 ho hr h0 h3=>by
  have hm1:=hm.up l1;refine ov hX i1 hm1 (bC.up i0 hm.1 hs l1) (hm1.qT i1 h3) hk64 ho hr h0 λ χ n l2 i2 hn a hmk _=>?_;have l:=l1.trans i0 i1 l2
  exact C5 hX.toaq (hT.up l) i2 (hi.up l) hn λ ψ ok l3 i3 hg=>hK ψ _ _ (l.trans i0 i2 l3) i3 hR (ew ok) λ so hma=>by rw[(hg (Fp i0 i1 hT hi hm l1 l2 f1 a hmk so hma)).t];decide
 refine cS hm.in.2 ?_;try dsimp only
 split
 ·rename_i h6;have hln:=hm.Xq i0 h6;try dsimp only
  split;·have hh:=ls hk.hl hln.hl hu hln.un hln.wl;have:=aAy (w:=w) (g:=g) i0 hln (k:=c.key) (u:=c.val) hk.sz (hk.ha.trans hh);exact gc rfl this.1 σ (Le.refl σ) i0 (.refl σ) this.2
  ·exact(hK σ _ _ (Le.refl σ) i0 rfl (.inr (.inl rfl)) λ _ _=>by decide).mono (by omega)
 ·rename_i h6;have h3:(σ.nd m).kind=3:=by
   rcases hm.1 with h|h|h;·exact h
   ·exact absurd h h5
   ·exact absurd h h6
  have hc:=hm.qT i0 h3;have hlev:eZ h (level:Int)=((sl h w.length:Nat):Int):=by rw[hl];exact Af hc.wl
  have hk64:=vW h w.length;have hu1:=rG hu;have hsing:∀υ s cl,υ.nd s=dJ (zP h c.key c.val) cl->Mi υ (w++[sl h w.length]) g s:=λ υ s cl e=>.inl ⟨by rw[e];rfl,by rw[e];exact hu1⟩;unfold KLx Fur at hK;rw[hlev] at hK ⊢;cases hlk:iO (σ.nd m) ((sl h w.length:Nat):Int) with
  | none=>
   simp only[];try dsimp only
   split
   ·refine jL (w:=[]) (g:=0) hX.al i0 (B3 i0 hk.sz hk.ha hk.hl) (rV i0 (λ e=>dR (a:=4) (b:=2) e)) λ υ s l1 i1 a=>?_;have hc1:=hc.upL l1;have hlk1:iO (υ.nd m) ((sl h w.length:Nat):Int)=none:=by rw[l1.nd hm.in.2];exact hlk
    obtain⟨f1,f2,f3,f4⟩:=hc1.ins hk64 hlk1 a.r1;try dsimp only
    rw[<- l1.nd hm.in.2,f1];refine gc rfl (.inl rfl) υ l1 i1 a.Qj (nP i1 f2 (λ j hj v hv=>?_) hc.wl (λ h0=>⟨λ e=>?_,λ b hb=>?_⟩))
    ·rw[f3 j hj] at hv;unfold Lw at hv;split at hv;·rename_i ej;cases hv;rw[ej];exact hsing υ s _ a.nd
     ·exact hc1.br j hj v hv
    ·rw[e] at f4;simp at f4
    ·rw[hb] at f4;have:=(hc1.ne h0).1;cases hx:(σ.nd m).xs with
     | nil=>exact absurd hx this
     | cons _ _=>rw[hx] at f4;simp at f4
   ·exact(hK σ _ _ (Le.refl σ) i0 rfl (.inr (.inl rfl)) λ _ _=>by decide).mono (by omega)
  | some b=>
   simp only[];have hb:=hc.br _ hk64 b E0s;refine cS hb.in.2 ?_;try dsimp only
   split;·rename_i h2;exact(hK σ _ _ (Le.refl σ) i0 rfl (.inr (.inr ⟨⟨b,hlk,h2⟩,rfl⟩)) λ _ _=>by decide).mono (by omega)
   ·rename_i h2;have hb4:(σ.nd b).kind=4/\fQ (σ.nd b).hash.toNat (w++[sl h w.length]):=by
     rcases hb with h|h;·exact h
     ·exact absurd h.1 h2
    have hno:0<w.length->(σ.nd m).xs.length=1->False:=λ h0 h1=>by
     have hlt:(σ.nd m).xs=[b]:=by
      have hmem:=X8 hc.bv hk64 (x:=b) E0s;cases hx:(σ.nd m).xs with
      | nil=>rw[hx] at h1;simp at h1
      | cons a t=>
       rw[hx] at h1 hmem;cases t with
       | nil=>rw[List.mem_singleton.1 hmem]
       | cons _ _=>simp at h1
     exact h2 ((hc.ne h0).2 b hlt)
    try dsimp only
    split
    ·try dsimp only
     split;·refine jL (w:=[]) (g:=0) hX.al i0 (B3 i0 hk.sz hk.ha hk.hl) (rV i0 (λ e=>dR (a:=4) (b:=2) e)) λ υ s l1 i1 a=>?_;exact gr rfl υ l1 i1 a.Qj hk64 (o:=b) (by rw[l1.nd hm.in.2];exact hlk) (hsing υ s _ a.nd) (λ h0 h1=>(hno h0 (by rw[<- l1.nd hm.in.2];exact h1)).elim) (by rw[l1.nd hm.in.2];exact h3)
     ·exact(hK σ _ _ (Le.refl σ) i0 rfl (.inr (.inl rfl)) λ _ _=>by decide).mono (by omega)
    ·rename_i hne;try dsimp only
     split;·refine aAQ (w:=w++[sl h w.length]) hX i0 hb4.1 hb4.2 hu1 (by rw[List.length_append,hl];rfl) E0r hk.hl hk.ha hk.sz hg.1 hg.2.1 hne λ υ d l1 i1 fd hd hds=>?_;refine Bc hX i1 hg.1 (by have:=l1.gen;have:=hg.2.1;omega) E0r hd hds (Int.le_refl _) λ ρ j l2 i2 hj aj=>?_;have l12:=l1.trans i0 i1 l2;exact gr rfl ρ l12 i2 (fd.trans l1 aj.Qj) hk64 (o:=b) (by rw[l12.nd hm.in.2];exact hlk) (.inr ⟨hj.1.1,hj.1.2,by rw[hj.2];exact Int.le_refl _⟩) (λ _ _=>hj.1.1) (by rw[l12.nd hm.in.2];exact h3)
     ·exact(hK σ _ _ (Le.refl σ) i0 rfl (.inr (.inl rfl)) λ _ _=>by decide).mono (by omega)
theorem Vt{K:Rs->Int->Tr}(hX:E4 X)(hT:bX σ c.t)(i0:Inv X.H σ)(hi:qP σ i w g)(hm:oS σ m w g)(hs:bC σ m)(hu:fQ h w)(hl:level=w.length)(h5:(σ.nd m).kind≠5)(hK:KLx X σ c.t i m g h level K n):XT X (kY c i m h level K) (n+10) σ:=by
 have gc:∀{nd:Nv} {R:Rs},R.root=0->cB nd->lD X.H σ nd w g->XT X (.alloc nd m λ r=>lE c.t i m r λ ok=>K R (if ok=true then 1 else 0)) (n+10) σ:=λ{nd R} hR hmk hn =>jL hX.al i0 hn (yL hmk hm hs) λ χ r l2 i2 a =>C5 hX.toaq (hT.up l2) i2 (hi.up l2) (oA (cl:=0) hmk a.nd a.way a.gb) λ ψ ok l3 i3 hg=>hK ψ _ _ (l2.trans i0 i2 l3) i3 hR (ew ok) λ so hma=>by rw[(hg (Fp i0 i0 hT hi hm (Le.refl σ) l2 (.refl σ) a hmk so hma)).t];decide
 refine cS hm.in.2 ?_;try dsimp only
 split
 ·rename_i h6;have hln:=hm.Xq i0 h6;try dsimp only
  split;·exact(hK σ _ _ (Le.refl σ) i0 rfl (.inr (.inl rfl)) λ _ _=>by decide).mono (by omega)
  ·rename_i hn;have hf:(cK (σ.nd m).ys c.key).isSome=true:=by
    cases hx:(cK (σ.nd m).ys c.key).isSome with
    | true=>rfl
    | false=>exact absurd (.inl hx) hn
   have:=aBZ (w:=w) (g:=g) i0 hln (k:=c.key) hf;exact gc rfl this.1 this.2
 ·rename_i h6;have h3:(σ.nd m).kind=3:=by
   rcases hm.1 with h|h|h;·exact h
   ·exact absurd h h5
   ·exact absurd h h6
  have hc:=hm.qT i0 h3;have hlev:eZ h (level:Int)=((sl h w.length:Nat):Int):=by rw[hl];exact Af hc.wl
  have hk64:=vW h w.length;unfold KLx Fur at hK;rw[hlev] at hK ⊢;cases hlk:iO (σ.nd m) ((sl h w.length:Nat):Int) with
  | none=>simp only[];exact(hK σ _ _ (Le.refl σ) i0 rfl (.inr (.inl rfl)) λ _ _=>by decide).mono (by omega)
  | some b=>
   simp only[];have hb:=hc.br _ hk64 b E0s;refine cS hb.in.2 ?_;try dsimp only
   split;·rename_i h2;exact(hK σ _ _ (Le.refl σ) i0 rfl (.inr (.inr ⟨⟨b,hlk,h2⟩,rfl⟩)) λ _ _=>by decide).mono (by omega)
   rename_i h2;try dsimp only
   split;·exact(hK σ _ _ (Le.refl σ) i0 rfl (.inr (.inl rfl)) λ _ _=>by decide).mono (by omega)
   try dsimp only
   split;·exact(hK σ _ _ (Le.refl σ) i0 rfl (.inr (.inl rfl)) λ _ _=>by decide).mono (by omega)
   obtain⟨f1,f2,f3,f4⟩:=hc.re hk64 hlk;have hso:(Od (O2 (σ.nd m) ((sl h w.length:Nat):Int))).getD 0<=σ.len:=by
    rw[f1,Mk f2];try dsimp only
    split
    ·rename_i e1;have hmem:(tD (σ.nd m).xs (fP (σ.nd m).bm.toNat (sl h w.length))).getD 0 0∈tD (σ.nd m).xs (fP (σ.nd m).bm.toNat (sl h w.length)):=Di (by omega);obtain⟨j,hj,hv⟩:=M9 f2 hmem;rw[f3 j hj] at hv;unfold Lw at hv;split at hv;·cases hv
     ·exact(hc.br j hj _ hv).in.2
    ·exact bM _
   refine cS hso ?_;try dsimp only
   rw[f1] at hso ⊢;rw[ie f2];try dsimp only
   split
   ·rename_i hx;have e1:=hx.1;rw[Mk f2,if_pos e1] at hx ⊢;simp only[Option.getD_some] at hx ⊢;generalize hs0:(tD (σ.nd m).xs (fP (σ.nd m).bm.toNat (sl h w.length))).getD 0 0=s at hx ⊢;have hmem:s∈tD (σ.nd m).xs (fP (σ.nd m).bm.toNat (sl h w.length)):=by rw[<- hs0];exact Di (by omega)
    obtain⟨j,hj,hv⟩:=M9 f2 hmem;have hbr:Mi σ (w++[j]) g s:=by
     rw[f3 j hj] at hv;unfold Lw at hv;split at hv;·cases hv
     ·exact hc.br j hj _ hv
    have hlf:=i0.leaf (.inl hx.2.2);have hus:fQ (σ.nd s).hash.toNat (w++[j]):=by
     rcases hbr with h'|h';·exact h'.2
     ·have:=h'.1;have:=hx.2.2;omega
    have e5:tmV (σ.nd s)=jx (((σ.nd s).hash.toNat:Nat):Int) (σ.nd s).key (σ.nd s).val:=by rw[<- hlf.hn];rfl
    rw[e5];exact gc rfl (.inr (.inl rfl)) (I1 i0 hlf.sz hlf.ha hlf.hl (by omega) (by have:=hc.wl;omega) (sU hus))
   ·rename_i hx;refine gc rfl (.inl rfl) (nP i0 f2 (λ j hj v hv=>?_) hc.wl (λ h0=>⟨λ e=>?_,λ b' hb'=>?_⟩))
    ·rw[f3 j hj] at hv;unfold Lw at hv;split at hv;·cases hv
     ·exact hc.br j hj v hv
    ·rw[e] at f4;have h1:(σ.nd m).xs.length=1:=by simpa using f4.symm
     have hlt:(σ.nd m).xs=[b]:=by
      have hmem:=X8 hc.bv hk64 (x:=b) E0s;cases hxs:(σ.nd m).xs with
      | nil=>rw[hxs] at h1;simp at h1
      | cons a t=>
       rw[hxs] at h1 hmem;cases t with
       | nil=>rw[List.mem_singleton.1 hmem]
       | cons _ _=>simp at h1
     exact h2 ((hc.ne h0).2 b hlt)
    ·have e1:(tD (σ.nd m).xs (fP (σ.nd m).bm.toNat (sl h w.length))).length=1:=by rw[hb'];rfl
     rw[Mk f2,if_pos e1] at hx;rw[hb'] at hx f2 f3;have hbr:∃j,Mi σ (w++[j]) g b':=by
      obtain⟨j,hj,hv⟩:=M9 f2 (List.mem_singleton.2 rfl:b'∈[b']);rw[f3 j hj] at hv;unfold Lw at hv;split at hv;·cases hv
      ·exact⟨j,hc.br j hj _ hv⟩
     obtain⟨j,hbr⟩:=hbr;rcases hbr with h'|h';·exact absurd ⟨rfl,by omega,h'.1⟩ hx
     ·exact h'.1
theorem Ye{K:Int->Tr}(hX:E4 X)(hT:bX σ c.t)(i0:Inv X.H σ)(hi:qP σ i w g)(hm:oS σ m w g)(hs:bC σ m)(hl:level=w.length)(hf:Fur σ m h level)(hK:∀τ b,Le σ τ->Inv X.H τ->(b=0∨qP τ b (w++[sl h level]) g)->(Ku X σ c.t g->σ.ce (σ.nd i).main=m->b≠0/\uy τ i (sl h level) b/\FL c.t w.length σ τ/\∀b',iO (σ.nd m) ((sl h level:Nat):Int)=some b'->(σ.nd b').gen=g->τ=σ)->XT X (K b) n τ):XT X (Cz c i m (eZ h level) g K) (n+20) σ:=by
 obtain⟨b,hlk,h2⟩:=hf;have hc:=hm.qT i0 (lQ hlk);have hk64:=vW h w.length;subst hl;rw[Af hc.wl] at hlk ⊢;have hb:=hc.br _ hk64 b E0s;refine cS hm.in.2 ?_;try dsimp only
 rw[show(iO (σ.nd m) ((sl h w.length:Nat):Int)).getD 0=b by rw[hlk];rfl];refine cS hb.in.2 ?_;try dsimp only
 split
 ·rename_i e;rcases hb with h'|h';·rw[h2] at h';exact absurd h'.1 (by decide)
  ·exact(hK σ b (Le.refl σ) i0 (.inr ⟨⟨h'.1,h'.2.1⟩,e⟩) λ so hma=>⟨by have:=eQ (N:=σ.mm.nodes) (i:=b) (by simp only[Kw.nd] at h2;rw[h2];decide);omega,⟨by rw[hma];exact hs,by rw[hma];exact hlk⟩,.refl _ _ _,λ _ _ _=>rfl⟩).mono (by omega)
 ·rename_i hgb;refine wh hX hT i0 hi hm hs hc hk64 hlk h2 λ τ v l1 i1 hv hf=>hK τ v l1 i1 hv λ so hma=>?_;obtain⟨h1,h3,h4⟩:=hf so hma;exact⟨h1,h3,h4,λ b' hb' hg'=>absurd (by rw[hlk] at hb';cases hb';exact hg') hgb⟩
end
end
end Go.Proofs.YtbajmaoegmbfgaaGreat
