/- Merged. -/
import Derived.Test.YtbajmaoegmbfgaaGreatGKw7
set_option linter.unusedSimpArgs false
set_option linter.unusedVariables false
namespace Go.Proofs.YtbajmaoegmbfgaaGreat
open Go Go.RowKit Go.Ct
section
section
variable{X:Xp}{σ τ υ:Kw}{i m p g v:Int}{w:List Nat}{t:dO}{n:Nat}{c:Cl}{h:Nat}
def H7(σ τ:Kw):Prop:=∀x:Int,x<=σ.cl->τ.ce x=σ.ce x
theorem H7.refl(σ:Kw):H7 σ σ:=λ _ _=>rfl
theorem H7.trans(l:Le σ τ)(h:H7 σ τ)(h2:H7 τ υ):H7 σ υ:=λ x hx=>(h2 x (by have:=l.cl;omega)).trans (h x hx)
theorem jm{nd:Nv}{y:Int}(em:υ.mm=σ.mm.push nd y):H7 σ υ:=λ x hx=>by
 have e2:υ.mm.cs=eU nd.kind σ.mm.cs y:=by rw[em];rfl
 show aY υ.mm.cs x=_
 rw[e2]
 unfold eU
 split
 ·exact nJ hx
 ·rfl
theorem sr.Pg{nd:Nv}{x r:Int}(a:sr σ υ nd x r w g):H7 σ υ:=λ _ h=>a.ce h
theorem H7.fl{H:ByteArray->Nat}{L:Nat}(hT:bU σ t)(i0:Inv H σ)(h:H7 σ τ):FL t L σ τ:=⟨h _ hT.2.1,λ p hk _=>h _ (i0.dR hk).2.1⟩
theorem Ka.Pg(i0:Inv X.H σ)(hT:bU σ t)(l:Le σ τ)(f:H7 σ τ)(h:Ka X σ t g):Ka X τ t g:=h.fl i0 hT l (f.fl (L:=0) hT i0)
theorem Ef{nd:Nv}{r:Int}(i0:Inv X.H σ)(i1:Inv X.H τ)(hT:bU σ t)(hi:rD σ i w g)(hm:oO σ m w g)(l:Le σ τ)(l2:Le τ υ)(f:H7 σ τ)(a:sr τ υ nd m r w g)(hk:bZ nd)(h:Ka X σ t g)(hma:σ.ce (σ.nd i).main=m):GcS X υ t i g m r:=by
 have l02:=l.trans i0 i1 l2
 have f2:=f.trans l a.Pg
 have h2:=h.Pg i0 hT l02 f2
 exact⟨h2.b,h2.ro,h2.k2,h2.gen,by rw[l02.nd hi.in.2,f2 _ (i0.dR hi.1.1).2.1];exact hma,a.prev hk,by rw[l02.nd hm.in.2];exact hm.1⟩
structure ClS(X:Xp)(σ:Kw)(t:dO)(g p child:Int)(k:Nat):Prop where
 so:Ka X σ t g
 lk:rm σ p k child
 st:aZ σ (σ.ce (σ.nd child).main)
 k5:(σ.nd (σ.ce (σ.nd child).main)).kind=5
theorem Lk{level:Int}{parent child:Int}{K:Bool->Tr}(hX:Dw X)(hT:bU σ t)(i0:Inv X.H σ)(hp:rD σ parent w g)(hl:level=(w.length:Int))(hch:(σ.nd child).kind=2)
  (hK:∀τ b,Le σ τ->Inv X.H τ->(ClS X σ t g parent child (sl h w.length)->cw τ parent (sl h w.length)/\FL t w.length σ τ)->XT X (K b) n τ):XT X (yW t parent child h level K) (n+30) σ:=by
 refine oS hX.toWz (n:=n+20) hT i0 hp λ τ m l1 i1 hm hs fr=>cQ hm.in.2 ?_
 try dsimp only
 split
 ·rename_i hlk
  have h3:=mB hlk
  have hc:=hm.uC i1 h3
  have hlev:gJ h level=((sl h w.length:Nat):Int):=by rw[hl];exact Bf hc.wl
  rw[hlev] at hlk ⊢
  have hk:=yL h w.length
  have hch1:(τ.nd child).kind=2:=by rw[l1.nd (jO hch)];exact hch
  have hb:uK τ child (w++[sl h w.length]):=by
   have h':=hlk
   rw[hc.lk hk] at h'
   rcases hc.br _ hk _ h' with h|h
   ·rw[hch1] at h;exact absurd h.1 (by decide)
   ·exact⟨h.1,h.2.1⟩
  refine oS hX.toWz (n:=n+10) (hT.up l1) i1 (g:=(τ.nd child).gen) ⟨hb,rfl⟩ λ υ mc l2 i2 hmc _ fr2=>cQ hmc.in.2 ?_
  have l02:=l1.trans i0 i1 l2
  have hsame:ClS X σ t g parent child (sl h w.length)->υ=σ/\m=σ.ce (σ.nd parent).main/\mc=σ.ce (σ.nd child).main:=λ q=>by
   obtain⟨e1,e2⟩:=fr.e q.so.b q.lk.st
   subst e1
   obtain⟨e3,e4⟩:=fr2.e q.so.b q.st
   exact⟨e3,e2,e4⟩
  try dsimp only
  split
  ·rename_i h5
   have hlf:=i2.leaf (.inr h5)
   have hu:iI (υ.nd mc).hash.toNat (w++[sl h w.length]):=by
    have:=((i2.nd mc hmc.in.1 hmc.in.2).k5 h5).2.2.2.1
    rwa [hmc.2.1] at this
   rw[iu h5,oq hlf]
   refine iX (w:=[]) (g:=0) hX.al i2 (zV i2 hlf.sz hlf.ha hlf.hl) ⟨⟨Int.le_refl _,bH _⟩,λ k=>dK (a:=4) (b:=2) k,λ k=>by unfold bZ at k;rcases k with k|k|k;exact dK (a:=4) (b:=3) k;exact dK (a:=4) (b:=5) k;exact dK (a:=4) (b:=6) k,λ _=>rfl⟩ λ ρ s l3 i3 asg=>?_
   have l23:=l2.trans i1 i2 l3
   have l03:=l02.trans i0 i2 l3
   have hm3:=hm.up l23
   have hc3:=hc.upL l23
   have hlk3:kU (ρ.nd m) ((sl h w.length:Nat):Int)=some child:=by rw[l23.nd hm.in.2];exact hlk
   have hs4:(ρ.nd s).kind=4:=by rw[asg.nd];rfl
   have hbr:Ky ρ (w++[sl h w.length]) g s:=.inl ⟨hs4,by rw[asg.nd];exact hu⟩
   refine cQ hm3.in.2 ?_
   have hup:=hc3.up hk hlk3 asg.r1
   have hfin:∀nd,bZ nd->kO X.H ρ nd w g->(∀χ r,Le ρ χ->Inv X.H χ->sr ρ χ nd m r w g->∀b,kU (χ.nd r) ((sl h w.length:Nat):Int)=some b->(χ.nd b).kind≠2)->XT X (.alloc nd m λ r=>oI t parent m r K) (n+10) ρ:=λ nd hmk hn hno =>
    iX hX.al i3 hn (xT hmk hm3 (aZ.up i1 hm.1 hs l23)) λ χ r l4 i4 ar=>by
     have l04:=l03.trans i0 i3 l4
     have hr:=nN (cl:=0) hmk ar.nd ar.way ar.gb
     refine Bt hX.toWz (hT.up l04) i4 (hp.up l04) hr λ ψ ok l5 i5 hgr=>hK ψ ok (l04.trans i0 i4 l5) i5 λ q=>?_
     obtain⟨e1,e2,e3⟩:=hsame q
     subst e1
     have r1:=hgr (Ef i2 i3 (hT.up l02) (hp.up l02) (hm.up l2) l3 l4 asg.Pg ar hmk q.so e2.symm)
     have ema:ψ.ce (ψ.nd parent).main=r:=by rw[l5.nd (hp.up l04).in.2];exact r1.ma
     refine⟨⟨by rw[ema];exact r1.st,λ b hb=>?_⟩,((asg.Pg.fl (hT.up l02) i2).trans l3 (ar.Pg.fl (hT.up l03) i3)).trans (l3.trans i2 i3 l4) ((Ls (hT.up l04) i4 r1.fr).less (by rw[(hp.up l04).1.2];exact Nat.le_refl _))⟩
     rw[ema,l5.nd hr.in.2] at hb
     have hbk:=hno χ r l4 i4 ar b hb
     have hbin:=((hr.uC i4 (mB hb)).br _ hk b (by rw[<- (hr.uC i4 (mB hb)).lk hk];exact hb)).in
     rw[l5.nd hbin.2]
     exact hbk
   try dsimp only
   rw[hup.1,fh hup.2.1]
   try dsimp only
   split
   ·rename_i hx
    refine hfin _ (.inr (.inl rfl)) (Hu i3 hlf.sz hlf.ha hlf.hl (by omega) (by have:=hc.wl;omega) (Is hu)) λ χ r l4 i4 ar b hb=>?_
    have:=mB hb
    rw[ar.nd] at this
    exact dK (a:=5) (b:=3) this
   ·rename_i hx
    refine hfin _ (.inl rfl) ?_ λ χ r l4 i4 ar b hb=>?_
    ·rw[<- hup.1]
     refine kv i3 hc3 hk hlk3 hbr λ h0 h1=>absurd ⟨?_,by omega,rfl⟩ hx
     rw[vR hup.2.2.2];exact h1
    ·have hr:=nN (cl:=0) (σ:=χ) (.inl rfl) ar.nd ar.way ar.gb
     have hcn:=hr.uC i4 (mB hb)
     rw[hcn.lk hk,ar.nd] at hb
     have hb':rS (τ.nd m).bm.toNat (qQ (τ.nd m).xs (fY (τ.nd m).bm.toNat (sl h w.length)) s) (sl h w.length)=some b:=by
      rw[<- hb]
      show _=rS (Cw (τ.nd m).bm.toNat (qQ (τ.nd m).xs (fY (τ.nd m).bm.toNat (sl h w.length)) s)).bm.toNat (qQ (τ.nd m).xs (fY (τ.nd m).bm.toNat (sl h w.length)) s) _
      rw[show(Cw (τ.nd m).bm.toNat (qQ (τ.nd m).xs (fY (τ.nd m).bm.toNat (sl h w.length)) s)).bm.toNat=(τ.nd m).bm.toNat from Int.toNat_natCast _]
     rw[hup.2.2.1 _ hk] at hb'
     unfold Jj at hb'
     rw[if_pos rfl] at hb'
     cases hb'
     rw[l4.nd asg.r2,hs4];decide
  ·rename_i h5
   refine(hK υ _ l02 i2 λ q=>?_).mono (by omega)
   obtain⟨e1,e2,e3⟩:=hsame q
   exact absurd (by rw[e3,e1];exact q.k5) h5
 ·rename_i hlk
  refine(hK τ _ l1 i1 λ q=>?_).mono (by omega)
  obtain⟨e1,e2⟩:=fr.e q.so.b q.lk.st
  refine absurd ?_ hlk
  have hlk2:=q.lk.lk
  have hc:w.length<=10:=((hp.fk i0).uC i0 (mB hlk2)).wl
  rw[hl,Bf hc,e1,e2]
  exact hlk2
theorem eh{key:ByteArray}{K:Rs->Tr}(hX:Dw X)(hT:bU σ t)(i0:Inv X.H σ)(hK:∀τ r,Le σ τ->Inv X.H τ->r.root=0->XT X (K r) n τ):∀(q:Nat) (σ':Kw) (i:Int) (w:List Nat) (g level:Int),Le σ σ'->Inv X.H σ'->rD σ' i w g->XT X (Db t h key K q i level) (n+10*(12-w.length)) σ'
 | 0,_,_,_,_,_,_,_,_=>trivial
 | q+1,σ',i,w,g,level,l,i1,hi=>by
  have hw:=(hi.Ph i1).2.2
  have e:n+10*(12-w.length)=(n+10*(11-w.length))+10:=by omega
  rw[e]
  refine oS hX.toWz (hT.up l) i1 hi λ τ m l1 i2 hm _ _=>cQ hm.in.2 ?_
  have l01:=l.trans i0 i1 l1
  try dsimp only
  split
  ·(try dsimp only);split<;>exact(hK τ _ l01 i2 rfl).mono (by omega)
  try dsimp only
  split
  ·exact(hK τ _ l01 i2 rfl).mono (by omega)
  cases hlk:kU (τ.nd m) (gJ h level) with
  | none=>exact(hK τ _ l01 i2 rfl).mono (by omega)
  | some b =>
   obtain⟨k,hk,ek⟩:=a6 h level
   rw[ek] at hlk
   have hc:=hm.uC i2 (mB hlk)
   rw[hc.lk hk] at hlk
   have hb:=hc.br k hk b hlk
   refine cQ hb.in.2 ?_
   try dsimp only
   split
   ·(try dsimp only);split<;>exact(hK τ _ l01 i2 rfl).mono (by omega)
   ·rename_i h4
    rcases hb with hb|hb
    ·exact absurd hb.1 h4
    ·have:=eh (key:=key) hX hT i0 hK q τ b (w++[k]) (τ.nd b).gen (level+1) l01 i2 ⟨⟨hb.1,hb.2.1⟩,rfl⟩
     rw[List.length_append,List.length_singleton] at this
     exact this.mono (by omega)
theorem aBM{x:Int}{h0 h:Nat}{pk:ByteArray}{pv:Int}{k:ByteArray}{u:Int}{q:Nat}{K:Int->Tr}(hX:Dw X)(hh0:h0<18446744073709551616)(hh:h<18446744073709551616)(hH:X.H k=h)(hk:k.size<=64)(hg1:1<=g)(hne:pk≠k)(hpk:pk.size<=64)(hpH:X.H pk=h0) :
  ∀(n lvl:Nat) (σ:Kw) (r:Int) (f:Nat),lvl+n=lB h0 h->Inv X.H σ->(σ.nd x).kind=4->(σ.nd x).hash.toNat=h0->g<=σ.mm.gen->f=σ.len+1 ->
  (∀υ,Le σ υ->Inv X.H υ->H7 σ υ->υ.len=σ.len+(dN x h0 h (pk,pv) k u g f n lvl).length->oO υ ((f-1+(dN x h0 h (pk,pv) k u g f n lvl).length:Nat):Int) (sZ h lvl) g->aZ υ ((f-1+(dN x h0 h (pk,pv) k u g f n lvl).length:Nat):Int)->XT X (K ((f-1+(dN x h0 h (pk,pv) k u g f n lvl).length:Nat):Int)) q υ) ->
  XT X (Aj (dN x h0 h (pk,pv) k u g f n lvl) r K) q σ
 | 0,lvl,σ,r,f,hn,i0,hx4,hxh,hgg,hf,hK=>by
  have hx:=eS (N:=σ.mm.nodes) (i:=x) (by have:=hx4;simp only[Kw.nd] at this;rw[this];decide)
  have hcl:=zB h0 h
  unfold dN at hK ⊢
  try dsimp only
  split
  ·rename_i e
   rw[if_pos e] at hK
   subst e
   have heq:h0=h:=l9 hh0 hh λ j hj=>Sq (by omega)
   obtain⟨o1,o2,o3⟩:=r8 (p:=(pk,pv)) (q:=(k,u)) hne
   have hnew:kO X.H σ (Vd ((h:Nat):Int) (D0 [(pk,pv),(k,u)])) (sZ h 11) g:=Ex i0 o1 (qA.2 o2) (xQ.2 λ p hp=>by rcases o3 p hp with rfl|rfl;exact hpk;exact hk) (λ p hp=>by rcases o3 p hp with rfl|rfl;exact hpH.trans heq;exact hH) hh (fN h 11) (tF h 11)
   refine iX hX.al i0 hnew (qR i0 (λ e=>dK (a:=6) (b:=2) e)) λ υ r' l1 i1 a1=>?_
   have er:=a1.re
   have em:=a1.mm
   have e1:=a1.nd
   have e2:=a1.way
   have e3:=a1.gb
   have h1:=a1.r1
   have h2:=a1.r2
   have hr':r'=((f-1+[Es h (D0 [(pk,pv),(k,u)])].length:Nat):Int):=by rw[er,hf];simp
   have hlen:υ.len=σ.len+1:=by simp[Kw.len,em,Mm.push]
   show XT X (K r') q υ
   rw[hr']
   refine hK υ l1 i1 a1.Pg hlen ?_ ?_<;>rw[<- hr']
   ·exact nN (cl:=0) (.inr (.inr rfl)) e1 e2 e3
   ·exact a1.prev (.inr (.inr rfl))
  ·rename_i e
   rw[if_neg e] at hK
   have hlv:lvl=lB h0 h:=by omega
   have hne2:sl h0 lvl≠sl h lvl:=by rw[hlv];exact L6 (by omega)
   refine iX (w:=[]) (g:=0) hX.al i0 (zV i0 hk hH hh) (qR i0 (λ e=>dK (a:=4) (b:=2) e)) λ υ s l1 i1 a1=>?_
   have er:=a1.re
   have em:=a1.mm
   have e1:=a1.nd
   have hs1:=a1.r1
   have hs2:=a1.r2
   have hlen:υ.len=σ.len+1:=by simp[Kw.len,em,Mm.push]
   have hsf:s=(f:Int):=by rw[er,hf]
   obtain⟨b1,b2⟩:=xq (yL h0 lvl) (yL h lvl) hne2 (x:=x) (s:=s) hx.1 hs1
   have hx4':(υ.nd x).kind=4:=by rw[l1.nd hx.2];exact hx4
   have hxh':(υ.nd x).hash.toNat=h0:=by rw[l1.nd hx.2];exact hxh
   have hnew:kO X.H υ (Cw (dW (dW 0 (sl h0 lvl:Int)) (sl h lvl:Int)) (two (sl h0 lvl) (sl h lvl) x s)) (sZ h lvl) g:=by
    refine mY i1 b1 (λ j hj v hv=>?_) (by rw[fN];omega) (λ _=>⟨λ e=>?_,λ b hb=>?_⟩)
    ·rcases b2 j hj v hv with⟨rfl,rfl⟩|⟨rfl,rfl⟩
     ·refine .inl ⟨hx4',?_⟩
      rw[hxh']
      have:=tN (Xn (a:=h0) (b:=h) (l:=lvl) (by omega))
      rwa [fN] at this
     ·refine .inl ⟨by rw[e1];rfl,?_⟩
      rw[e1]
      have:=tN (tF h lvl)
      rw[fN] at this
      exact this
    ·unfold two at e;split at e<;>cases e
    ·unfold two at hb;split at hb<;>cases hb
   rw[hsf] at hnew
   show XT X (.alloc (Cw (dW (dW 0 (sl h0 lvl:Int)) (sl h lvl:Int)) (two (sl h0 lvl) (sl h lvl) x (f:Int))) 0 K) q υ
   refine iX hX.al i1 hnew (qR i1 (λ e=>dK (a:=3) (b:=2) e)) λ ρ r' l2 i2 a2=>?_
   have er2:=a2.re
   have em2:=a2.mm
   have e4:=a2.nd
   have e5:=a2.way
   have e6:=a2.gb
   have h1:=a2.r1
   have h2:=a2.r2
   have hlen2:ρ.len=υ.len+1:=by simp[Kw.len,em2,Mm.push]
   have hr':r'=((f-1+[wE h k u,il (dW (dW 0 (sl h0 lvl:Int)) (sl h lvl:Int)) (two (sl h0 lvl) (sl h lvl) x (f:Int))].length:Nat):Int):=by
    rw[er2];simp only[List.length_cons,List.length_nil];omega
   rw[hr']
   refine hK ρ (l1.trans i0 i1 l2) i2 (a1.Pg.trans l1 a2.Pg) (by simp only[List.length_cons,List.length_nil];omega) ?_ ?_<;>rw[<- hr']
   ·exact nN (cl:=0) (.inl rfl) e4 e5 e6
   ·exact a2.prev (.inl rfl)
 | n+1,lvl,σ,r,f,hn,i0,hx4,hxh,hgg,hf,hK=>by
  have hx:=eS (N:=σ.mm.nodes) (i:=x) (by have:=hx4;simp only[Kw.nd] at this;rw[this];decide)
  have hcl:=zB h0 h
  unfold dN at hK ⊢
  rw[Qd]
  refine aBM hX hh0 hh hH hk hg1 hne hpk hpH n (lvl+1) σ r f (by omega) i0 hx4 hxh hgg hf λ υ l1 i1 f1 el hm hst=>?_
  generalize hd:(dN x h0 h (pk,pv) k u g f n (lvl+1)).length=d at *
  show XT X (.alloc (fH g) ((f-1+d:Nat):Int) λ _=>.alloc (Cw (dW 0 (sl h lvl:Int)) [((f+d:Nat):Int)]) 0 K) q υ
  refine iX (w:=sZ h (lvl+1)) (g:=0) hX.al i1 (Bm (by rw[fN];omega) hg1 (by have:=l1.gen;omega)) ⟨⟨by omega,hm.in.2⟩,λ _=>hm,λ k=>absurd k (jJ (.inr (.inr (.inl rfl)))),λ k=>dK (a:=2) (b:=8) k⟩ (λ ρ j l2 i2 a2=>?_) (λ _=>hst)
  have er:=a2.re
  have em:=a2.mm
  have e1:=a2.nd
  have e2:=a2.way
  have hj1:=a2.r1
  have hj2:=a2.r2
  have hlen:ρ.len=υ.len+1:=by simp[Kw.len,em,Mm.push]
  have hj:j=((f+d:Nat):Int):=by rw[er];omega
  obtain⟨b1,b2⟩:=Zv (yL h lvl) (r:=j) hj1
  have hnew:kO X.H ρ (Cw (dW 0 (sl h lvl:Int)) [j]) (sZ h lvl) g:=by
   refine mY i2 b1 (λ q hq v hv=>?_) (by rw[fN];omega) (λ _=>⟨by simp,λ b hb=>?_⟩)
   ·obtain⟨rfl,rfl⟩:=b2 q hq v hv
    exact .inr ⟨by rw[e1];rfl,by rw[e2,Kl],by rw[e1];exact Int.le_refl _⟩
   ·cases hb;rw[e1];rfl
  rw[hj] at hnew
  refine iX hX.al i2 hnew (qR i2 (λ e=>dK (a:=3) (b:=2) e)) λ χ r' l3 i3 a3=>?_
  have er2:=a3.re
  have em2:=a3.mm
  have e4:=a3.nd
  have e5:=a3.way
  have e6:=a3.gb
  have h1:=a3.r1
  have h2:=a3.r2
  have hlen2:χ.len=ρ.len+1:=by simp[Kw.len,em2,Mm.push]
  have hr':r'=((f-1+(d+2):Nat):Int):=by rw[er2];omega
  have hL:(dN x h0 h (pk,pv) k u g f n (lvl+1)++[qX g ((f-1+d:Nat):Int),il (dW 0 (sl h lvl:Int)) [((f+d:Nat):Int)]]).length=d+2:=by rw[List.length_append,hd];rfl
  rw[hL] at hK
  rw[hr']
  refine hK χ ((l1.trans i0 i1 l2).trans i0 i2 l3) i3 ((f1.trans l1 a2.Pg).trans (l1.trans i0 i1 l2) a3.Pg) (by omega) ?_ ?_<;>rw[<- hr']
  ·exact nN (cl:=0) (.inl rfl) e4 e5 e6
  ·exact a3.prev (.inl rfl)
theorem zv{b:Int}{level:Nat}{K:Int->Tr}(hX:Dw X)(i0:Inv X.H σ)(hb4:(σ.nd b).kind=4)(hu0:iI (σ.nd b).hash.toNat w)(hu:iI h w)(hl:level=w.length)(hw:w.length<=11)(hh:h<18446744073709551616)(hH:X.H c.key=h)(hk:c.key.size<=64)(hg1:1<=g)(hgg:g<=σ.mm.gen)(hne:(σ.nd b).key≠c.key)
  (hK:∀υ d,Le σ υ->Inv X.H υ->H7 σ υ->oO υ d w g->aZ υ d->XT X (K d) n υ):XT X (Vl c b h level g K) n σ:=by
 have hlf:=i0.leaf (.inl hb4)
 have hb:=eS (N:=σ.mm.nodes) (i:=b) (by have:=hb4;simp only[Kw.nd] at this;rw[this];decide)
 have hcom:level<=lB (σ.nd b).hash.toNat h:=by
  have hw11:=zB (σ.nd b).hash.toNat h
  by_cases hlt:level<=lB (σ.nd b).hash.toNat h
  ·exact hlt
  ·exact absurd ((hu0 _ (by omega)).trans (hu _ (by omega)).symm) (L6 (by omega))
 refine cQ hb.2 ?_
 generalize hn:lB (σ.nd b).hash.toNat h-level=nd
 have hlv:lB (σ.nd b).hash.toNat h-nd=level:=by omega
 obtain⟨a,ha⟩:=Um (x:=b) (h0:=(σ.nd b).hash.toNat) (h:=h) (p:=((σ.nd b).key,(σ.nd b).val)) (k:=c.key) (u:=c.val) (g:=g) nd level
 have hP:∀f,dP b (σ.nd b).hash.toNat h ((σ.nd b).key,(σ.nd b).val) c.key c.val g f level=dN b (σ.nd b).hash.toNat h ((σ.nd b).key,(σ.nd b).val) c.key c.val g f nd level:=λ f=>by unfold dP;rw[hn,hlv]
 obtain⟨l0,hl0⟩:=ha 0
 try dsimp only
 rw[hP 0,hl0]
 show XT X (.alloc a.c0 a.init λ f=>Aj (dP b (σ.nd b).hash.toNat h ((σ.nd b).key,(σ.nd b).val) c.key c.val g f.toNat level).tail f K) n σ
 obtain⟨l1,hl1⟩:=ha (σ.len+1)
 have key:XT X (Aj (dN b (σ.nd b).hash.toNat h ((σ.nd b).key,(σ.nd b).val) c.key c.val g (σ.len+1) nd level) 0 K) n σ:=by
  refine aBM hX hlf.hl hh hH hk hg1 hne hlf.sz hlf.ha nd level σ 0 (σ.len+1) (by omega) i0 hb4 rfl hgg rfl λ υ l2 i2 f2 _ hm hst=>hK υ _ l2 i2 f2 ?_ hst
  rw[ur hu,<- hl];exact hm
 rw[hl1] at key
 rcases key with h|⟨h1,h2,h3⟩
 ·exact .inl h
 ·refine .inr ⟨h1,λ h=>(by rw[hX.al] at h;cases h),λ h=>?_⟩
  obtain⟨υ,l2,i2,e2,hw2⟩:=h3 h
  refine⟨υ,l2,i2,e2,?_⟩
  dsimp only
  rw[hP,show(((σ.len+1:Nat):Int)).toNat=σ.len+1 from Int.toNat_natCast _,hl1]
  exact hw2
end
end
section
section
variable{X:Xp}{σ τ υ:Kw}{i m p g v:Int}{w:List Nat}{t:dO}{n:Nat}{c:Cl}{h:Nat}
abbrev KLx(X:Xp)(σ:Kw)(t:dO)(i m g:Int)(h level:Nat)(K:Rs->Int->Tr)(n:Nat):Prop:=∀τ r what,Le σ τ->Inv X.H τ->r.root=0->(what=0∨what=1∨(Fur σ m h level/\τ=σ))->(Ka X σ t g->σ.ce (σ.nd i).main=m->what≠0)->XT X (K r what) n τ
theorem W1{level:Nat}{K:Rs->Int->Tr}(hX:Dw X)(hT:bU σ c.t)(i0:Inv X.H σ)(hk:Pq X.H c h)(hi:rD σ i w g)(hm:oO σ m w g)(hs:aZ σ m)(hu:iI h w)(hl:level=w.length)(h5:(σ.nd m).kind≠5)(hK:KLx X σ c.t i m g h level K n):XT X (lY c i m h level g K) (n+10) σ:=by
 have hg:=hi.Ph i0
 have gc:∀{nd:Nv} {R:Rs},R.root=0->bZ nd->∀υ,Le σ υ->Inv X.H υ->H7 σ υ->kO X.H υ nd w g->XT X (.alloc nd m λ r=>oI c.t i m r λ ok=>K R (if ok=true then 1 else 0)) (n+10) υ:=λ{nd R} hR hmk υ l1 i1 f1 hn =>
  iX hX.al i1 hn (xT hmk (hm.up l1) (aZ.up i0 hm.1 hs l1)) λ χ r l2 i2 a=>by
   have l:=l1.trans i0 i1 l2
   exact Bt hX.toWz (hT.up l) i2 (hi.up l) (nN (cl:=0) hmk a.nd a.way a.gb) λ ψ ok l3 i3 hg=>hK ψ _ _ (l.trans i0 i2 l3) i3 hR (ft ok) λ so hma=>by
    rw[(hg (Ef i0 i1 hT hi hm l1 l2 f1 a hmk so hma)).t];decide
 have gr:∀{R:Rs} {k:Nat} {o r:Int},R.root=0->∀υ,Le σ υ->Inv X.H υ->H7 σ υ->k<64->kU (υ.nd m) (k:Int)=some o->Ky υ (w++[k]) g r->(0<w.length->(υ.nd m).xs.length=1->(υ.nd r).kind=2)->(υ.nd m).kind=3->XT X (Eo m (k:Int) r λ n=>oI c.t i m n λ ok=>K R (if ok=true then 1 else 0)) (n+10) υ:=λ{R k o r} hR υ l1 i1 f1 hk64 ho hr h0 h3=>by
  have hm1:=hm.up l1
  refine l7 hX i1 hm1 (aZ.up i0 hm.1 hs l1) (hm1.uC i1 h3) hk64 ho hr h0 λ χ n l2 i2 hn a hmk _=>?_
  have l:=l1.trans i0 i1 l2
  exact Bt hX.toWz (hT.up l) i2 (hi.up l) hn λ ψ ok l3 i3 hg=>hK ψ _ _ (l.trans i0 i2 l3) i3 hR (ft ok) λ so hma=>by
   rw[(hg (Ef i0 i1 hT hi hm l1 l2 f1 a hmk so hma)).t];decide
 refine cQ hm.in.2 ?_
 try dsimp only
 split
 ·rename_i h6
  have hln:=hm.vr i0 h6
  try dsimp only
  split
  ·have hh:=gy hk.hl hln.hl hu hln.un hln.wl
   have:=yr (w:=w) (g:=g) i0 hln (k:=c.key) (u:=c.val) hk.sz (hk.ha.trans hh)
   exact gc rfl this.1 σ (Le.refl σ) i0 (.refl σ) this.2
  ·exact(hK σ _ _ (Le.refl σ) i0 rfl (.inr (.inl rfl)) λ _ _=>by decide).mono (by omega)
 ·rename_i h6
  have h3:(σ.nd m).kind=3:=by
   rcases hm.1 with h|h|h
   ·exact h
   ·exact absurd h h5
   ·exact absurd h h6
  have hc:=hm.uC i0 h3
  have hlev:gJ h (level:Int)=((sl h w.length:Nat):Int):=by rw[hl];exact Bf hc.wl
  have hk64:=yL h w.length
  have hu1:=tN hu
  have hsing:∀υ s cl,υ.nd s=cX (Gh h c.key c.val) cl->Ky υ (w++[sl h w.length]) g s:=λ υ s cl e=>.inl ⟨by rw[e];rfl,by rw[e];exact hu1⟩
  unfold KLx Fur at hK
  rw[hlev] at hK ⊢
  cases hlk:kU (σ.nd m) ((sl h w.length:Nat):Int) with
  | none =>
   simp only[]
   try dsimp only
   split
   ·refine iX (w:=[]) (g:=0) hX.al i0 (zV i0 hk.sz hk.ha hk.hl) (qR i0 (λ e=>dK (a:=4) (b:=2) e)) λ υ s l1 i1 a=>?_
    have hc1:=hc.upL l1
    have hlk1:kU (υ.nd m) ((sl h w.length:Nat):Int)=none:=by rw[l1.nd hm.in.2];exact hlk
    obtain⟨f1,f2,f3,f4⟩:=hc1.ins hk64 hlk1 a.r1
    try dsimp only
    rw[<- l1.nd hm.in.2,f1]
    refine gc rfl (.inl rfl) υ l1 i1 a.Pg (mY i1 f2 (λ j hj v hv=>?_) hc.wl (λ h0=>⟨λ e=>?_,λ b hb=>?_⟩))
    ·rw[f3 j hj] at hv
     unfold Jj at hv
     split at hv
     ·rename_i ej;cases hv;rw[ej];exact hsing υ s _ a.nd
     ·exact hc1.br j hj v hv
    ·rw[e] at f4;simp at f4
    ·rw[hb] at f4
     have:=(hc1.ne h0).1
     cases hx:(σ.nd m).xs with
     | nil=>exact absurd hx this
     | cons _ _=>rw[hx] at f4;simp at f4
   ·exact(hK σ _ _ (Le.refl σ) i0 rfl (.inr (.inl rfl)) λ _ _=>by decide).mono (by omega)
  | some b =>
   simp only[]
   have hb:=hc.br _ hk64 b (by rw[<- hc.lk hk64];exact hlk)
   refine cQ hb.in.2 ?_
   try dsimp only
   split
   ·rename_i h2
    exact(hK σ _ _ (Le.refl σ) i0 rfl (.inr (.inr ⟨⟨b,hlk,h2⟩,rfl⟩)) λ _ _=>by decide).mono (by omega)
   ·rename_i h2
    have hb4:(σ.nd b).kind=4/\iI (σ.nd b).hash.toNat (w++[sl h w.length]):=by
     rcases hb with h|h
     ·exact h
     ·exact absurd h.1 h2
    have hno:0<w.length->(σ.nd m).xs.length=1->False:=λ h0 h1=>by
     have hlt:(σ.nd m).xs=[b]:=by
      have hmem:=T5 hc.bv hk64 (x:=b) (by rw[<- hc.lk hk64];exact hlk)
      cases hx:(σ.nd m).xs with
      | nil=>rw[hx] at h1;simp at h1
      | cons a t =>
       rw[hx] at h1 hmem
       cases t with
       | nil=>rw[List.mem_singleton.1 hmem]
       | cons _ _=>simp at h1
     exact h2 ((hc.ne h0).2 b hlt)
    try dsimp only
    split
    ·try dsimp only
     split
     ·refine iX (w:=[]) (g:=0) hX.al i0 (zV i0 hk.sz hk.ha hk.hl) (qR i0 (λ e=>dK (a:=4) (b:=2) e)) λ υ s l1 i1 a=>?_
      exact gr rfl υ l1 i1 a.Pg hk64 (o:=b) (by rw[l1.nd hm.in.2];exact hlk) (hsing υ s _ a.nd) (λ h0 h1=>(hno h0 (by rw[<- l1.nd hm.in.2];exact h1)).elim) (by rw[l1.nd hm.in.2];exact h3)
     ·exact(hK σ _ _ (Le.refl σ) i0 rfl (.inr (.inl rfl)) λ _ _=>by decide).mono (by omega)
    ·rename_i hne
     try dsimp only
     split
     ·refine zv (w:=w++[sl h w.length]) hX i0 hb4.1 hb4.2 hu1 (by rw[List.length_append,hl];rfl) (by rw[List.length_append,List.length_singleton];have:=hc.wl;omega) hk.hl hk.ha hk.sz hg.1 hg.2.1 hne λ υ d l1 i1 fd hd hds=>?_
      refine Ag hX i1 hg.1 (by have:=l1.gen;have:=hg.2.1;omega) (by rw[List.length_append,List.length_singleton];have:=hc.wl;omega) hd hds (Int.le_refl _) λ ρ j l2 i2 hj aj=>?_
      have l12:=l1.trans i0 i1 l2
      exact gr rfl ρ l12 i2 (fd.trans l1 aj.Pg) hk64 (o:=b) (by rw[l12.nd hm.in.2];exact hlk) (.inr ⟨hj.1.1,hj.1.2,by rw[hj.2];exact Int.le_refl _⟩) (λ _ _=>hj.1.1) (by rw[l12.nd hm.in.2];exact h3)
     ·exact(hK σ _ _ (Le.refl σ) i0 rfl (.inr (.inl rfl)) λ _ _=>by decide).mono (by omega)
theorem R3{level:Nat}{K:Rs->Int->Tr}(hX:Dw X)(hT:bU σ c.t)(i0:Inv X.H σ)(hi:rD σ i w g)(hm:oO σ m w g)(hs:aZ σ m)(hu:iI h w)(hl:level=w.length)(h5:(σ.nd m).kind≠5)(hK:KLx X σ c.t i m g h level K n):XT X (kI c i m h level K) (n+10) σ:=by
 have gc:∀{nd:Nv} {R:Rs},R.root=0->bZ nd->kO X.H σ nd w g->XT X (.alloc nd m λ r=>oI c.t i m r λ ok=>K R (if ok=true then 1 else 0)) (n+10) σ:=λ{nd R} hR hmk hn =>
  iX hX.al i0 hn (xT hmk hm hs) λ χ r l2 i2 a =>
   Bt hX.toWz (hT.up l2) i2 (hi.up l2) (nN (cl:=0) hmk a.nd a.way a.gb) λ ψ ok l3 i3 hg=>hK ψ _ _ (l2.trans i0 i2 l3) i3 hR (ft ok) λ so hma=>by
    rw[(hg (Ef i0 i0 hT hi hm (Le.refl σ) l2 (.refl σ) a hmk so hma)).t];decide
 refine cQ hm.in.2 ?_
 try dsimp only
 split
 ·rename_i h6
  have hln:=hm.vr i0 h6
  try dsimp only
  split
  ·exact(hK σ _ _ (Le.refl σ) i0 rfl (.inr (.inl rfl)) λ _ _=>by decide).mono (by omega)
  ·rename_i hn
   have hf:(dV (σ.nd m).ys c.key).isSome=true:=by
    cases hx:(dV (σ.nd m).ys c.key).isSome with
    | true=>rfl
    | false=>exact absurd (.inl hx) hn
   have:=y4 (w:=w) (g:=g) i0 hln (k:=c.key) hf
   exact gc rfl this.1 this.2
 ·rename_i h6
  have h3:(σ.nd m).kind=3:=by
   rcases hm.1 with h|h|h
   ·exact h
   ·exact absurd h h5
   ·exact absurd h h6
  have hc:=hm.uC i0 h3
  have hlev:gJ h (level:Int)=((sl h w.length:Nat):Int):=by rw[hl];exact Bf hc.wl
  have hk64:=yL h w.length
  unfold KLx Fur at hK
  rw[hlev] at hK ⊢
  cases hlk:kU (σ.nd m) ((sl h w.length:Nat):Int) with
  | none =>
   simp only[]
   exact(hK σ _ _ (Le.refl σ) i0 rfl (.inr (.inl rfl)) λ _ _=>by decide).mono (by omega)
  | some b =>
   simp only[]
   have hb:=hc.br _ hk64 b (by rw[<- hc.lk hk64];exact hlk)
   refine cQ hb.in.2 ?_
   try dsimp only
   split
   ·rename_i h2
    exact(hK σ _ _ (Le.refl σ) i0 rfl (.inr (.inr ⟨⟨b,hlk,h2⟩,rfl⟩)) λ _ _=>by decide).mono (by omega)
   rename_i h2
   try dsimp only
   split
   ·exact(hK σ _ _ (Le.refl σ) i0 rfl (.inr (.inl rfl)) λ _ _=>by decide).mono (by omega)
   try dsimp only
   split
   ·exact(hK σ _ _ (Le.refl σ) i0 rfl (.inr (.inl rfl)) λ _ _=>by decide).mono (by omega)
   obtain⟨f1,f2,f3,f4⟩:=hc.re hk64 hlk
   have hso:(K9 (M9 (σ.nd m) ((sl h w.length:Nat):Int))).getD 0<=σ.len:=by
    rw[f1,Lh f2]
    try dsimp only
    split
    ·rename_i e1
     have hmem:(sD (σ.nd m).xs (fY (σ.nd m).bm.toNat (sl h w.length))).getD 0 0∈sD (σ.nd m).xs (fY (σ.nd m).bm.toNat (sl h w.length)):=B8 (by omega)
     obtain⟨j,hj,hv⟩:=Ml f2 hmem
     rw[f3 j hj] at hv
     unfold Jj at hv
     split at hv
     ·cases hv
     ·exact(hc.br j hj _ hv).in.2
    ·exact bH _
   refine cQ hso ?_
   try dsimp only
   rw[f1] at hso ⊢
   rw[fh f2]
   try dsimp only
   split
   ·rename_i hx
    have e1:=hx.1
    rw[Lh f2,if_pos e1] at hx ⊢
    simp only[Option.getD_some] at hx ⊢
    generalize hs0:(sD (σ.nd m).xs (fY (σ.nd m).bm.toNat (sl h w.length))).getD 0 0=s at hx ⊢
    have hmem:s∈sD (σ.nd m).xs (fY (σ.nd m).bm.toNat (sl h w.length)):=by rw[<- hs0];exact B8 (by omega)
    obtain⟨j,hj,hv⟩:=Ml f2 hmem
    have hbr:Ky σ (w++[j]) g s:=by
     rw[f3 j hj] at hv
     unfold Jj at hv
     split at hv
     ·cases hv
     ·exact hc.br j hj _ hv
    have hlf:=i0.leaf (.inl hx.2.2)
    have hus:iI (σ.nd s).hash.toNat (w++[j]):=by
     rcases hbr with h'|h'
     ·exact h'.2
     ·have:=h'.1;have:=hx.2.2;omega
    have e5:tmV (σ.nd s)=Zu (((σ.nd s).hash.toNat:Nat):Int) (σ.nd s).key (σ.nd s).val:=by rw[<- hlf.hn];rfl
    rw[e5]
    exact gc rfl (.inr (.inl rfl)) (Hu i0 hlf.sz hlf.ha hlf.hl (by omega) (by have:=hc.wl;omega) (Is hus))
   ·rename_i hx
    refine gc rfl (.inl rfl) (mY i0 f2 (λ j hj v hv=>?_) hc.wl (λ h0=>⟨λ e=>?_,λ b' hb'=>?_⟩))
    ·rw[f3 j hj] at hv
     unfold Jj at hv
     split at hv
     ·cases hv
     ·exact hc.br j hj v hv
    ·rw[e] at f4
     have h1:(σ.nd m).xs.length=1:=by simpa using f4.symm
     have hlt:(σ.nd m).xs=[b]:=by
      have hmem:=T5 hc.bv hk64 (x:=b) (by rw[<- hc.lk hk64];exact hlk)
      cases hxs:(σ.nd m).xs with
      | nil=>rw[hxs] at h1;simp at h1
      | cons a t =>
       rw[hxs] at h1 hmem
       cases t with
       | nil=>rw[List.mem_singleton.1 hmem]
       | cons _ _=>simp at h1
     exact h2 ((hc.ne h0).2 b hlt)
    ·have e1:(sD (σ.nd m).xs (fY (σ.nd m).bm.toNat (sl h w.length))).length=1:=by rw[hb'];rfl
     rw[Lh f2,if_pos e1] at hx
     rw[hb'] at hx f2 f3
     have hbr:∃j,Ky σ (w++[j]) g b':=by
      obtain⟨j,hj,hv⟩:=Ml f2 (List.mem_singleton.2 rfl:b'∈[b'])
      rw[f3 j hj] at hv
      unfold Jj at hv
      split at hv
      ·cases hv
      ·exact⟨j,hc.br j hj _ hv⟩
     obtain⟨j,hbr⟩:=hbr
     rcases hbr with h'|h'
     ·exact absurd ⟨rfl,by omega,h'.1⟩ hx
     ·exact h'.1
theorem Tw{level:Nat}{K:Int->Tr}(hX:Dw X)(hT:bU σ c.t)(i0:Inv X.H σ)(hi:rD σ i w g)(hm:oO σ m w g)(hs:aZ σ m)(hl:level=w.length)(hf:Fur σ m h level)
  (hK:∀τ b,Le σ τ->Inv X.H τ->(b=0∨rD τ b (w++[sl h level]) g)->(Ka X σ c.t g->σ.ce (σ.nd i).main=m->b≠0/\rm τ i (sl h level) b/\FL c.t w.length σ τ/\∀b',kU (σ.nd m) ((sl h level:Nat):Int)=some b'->(σ.nd b').gen=g->τ=σ)->XT X (K b) n τ):XT X (H2 c i m (gJ h level) g K) (n+20) σ:=by
 obtain⟨b,hlk,h2⟩:=hf
 have hc:=hm.uC i0 (mB hlk)
 have hk64:=yL h w.length
 subst hl
 rw[Bf hc.wl] at hlk ⊢
 have hb:=hc.br _ hk64 b (by rw[<- hc.lk hk64];exact hlk)
 refine cQ hm.in.2 ?_
 try dsimp only
 rw[show(kU (σ.nd m) ((sl h w.length:Nat):Int)).getD 0=b by rw[hlk];rfl]
 refine cQ hb.in.2 ?_
 try dsimp only
 split
 ·rename_i e
  rcases hb with h'|h'
  ·rw[h2] at h';exact absurd h'.1 (by decide)
  ·exact(hK σ b (Le.refl σ) i0 (.inr ⟨⟨h'.1,h'.2.1⟩,e⟩) λ so hma=>⟨by have:=eS (N:=σ.mm.nodes) (i:=b) (by simp only[Kw.nd] at h2;rw[h2];decide);omega,⟨by rw[hma];exact hs,by rw[hma];exact hlk⟩,.refl _ _ _,λ _ _ _=>rfl⟩).mono (by omega)
 ·rename_i hgb
  refine r6 hX hT i0 hi hm hs hc hk64 hlk h2 λ τ v l1 i1 hv hf=>hK τ v l1 i1 hv λ so hma=>?_
  obtain⟨h1,h3,h4⟩:=hf so hma
  exact⟨h1,h3,h4,λ b' hb' hg'=>absurd (by rw[hlk] at hb';cases hb';exact hg') hgb⟩
end
end
end Go.Proofs.YtbajmaoegmbfgaaGreat
