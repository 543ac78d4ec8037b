/- Merged. -/
import Derived.Test.YtbajmaoegmbfgaaGreatGKw7
set_option linter.unusedSimpArgs false
set_option linter.unusedVariables false
namespace Go.Proofs.YtbajmaoegmbfgaaGreat
open Go Go.RowKit Go.Ct
section
section
variable{X:Xp}{σ τ υ:Kw}{i m p g v:Int}{w:List Nat}{t:dL}{n:Nat}{c:Cl}{h:Nat}
def I6(σ τ:Kw):Prop:=∀x:Int,x<=σ.cl->τ.ce x=σ.ce x
theorem I6.refl(σ:Kw):I6 σ σ:=λ _ _=>rfl
theorem I6.trans(l:Le σ τ)(h:I6 σ τ)(h2:I6 τ υ):I6 σ υ:=λ x hx=>(h2 x (by have:=l.cl;omega)).trans (h x hx)
theorem dk{nd:Nv}{y:Int}(em:υ.mm=σ.mm.push nd y):I6 σ υ:=λ x hx=>by
 have e2:υ.mm.cs=eU nd.kind σ.mm.cs y:=by rw[em];rfl
 show aW υ.mm.cs x=_
 rw[e2]
 unfold eU
 split
 ·exact nQ hx
 ·rfl
theorem qk.Q7{nd:Nv}{x r:Int}(a:qk σ υ nd x r w g):I6 σ υ:=λ _ h=>a.ce h
theorem I6.fl{H:ByteArray->Nat}{L:Nat}(hT:bW σ t)(i0:Inv H σ)(h:I6 σ τ):FL t L σ τ:=⟨h _ hT.2.1,λ p hk _=>h _ (i0.dO hk).2.1⟩
theorem Kc.Q7(i0:Inv X.H σ)(hT:bW σ t)(l:Le σ τ)(f:I6 σ τ)(h:Kc X σ t g):Kc X τ t g:=h.fl i0 hT l (f.fl (L:=0) hT i0)
theorem E2{nd:Nv}{r:Int}(i0:Inv X.H σ)(i1:Inv X.H τ)(hT:bW σ t)(hi:qR σ i w g)(hm:oS σ m w g)(l:Le σ τ)(l2:Le τ υ)(f:I6 σ τ)(a:qk τ υ nd m r w g)(hk:bQ nd)(h:Kc X σ t g)(hma:σ.ce (σ.nd i).main=m):GcS X υ t i g m r:=by
 have l02:=l.trans i0 i1 l2
 have f2:=f.trans l a.Q7
 have h2:=h.Q7 i0 hT l02 f2
 exact⟨h2.b,h2.ro,h2.k2,h2.gen,by rw[l02.nd hi.in.2,f2 _ (i0.dO hi.1.1).2.1];exact hma,a.prev hk,by rw[l02.nd hm.in.2];exact hm.1⟩
structure ClS(X:Xp)(σ:Kw)(t:dL)(g p child:Int)(k:Nat):Prop where
 so:Kc X σ t g
 lk:qz σ p k child
 st:bA σ (σ.ce (σ.nd child).main)
 k5:(σ.nd (σ.ce (σ.nd child).main)).kind=5
theorem La{level:Int}{parent child:Int}{K:Bool->Tr}(hX:Ec X)(hT:bW σ t)(i0:Inv X.H σ)(hp:qR σ parent w g)(hl:level=(w.length:Int))(hch:(σ.nd child).kind=2)
  (hK:∀τ b,Le σ τ->Inv X.H τ->(ClS X σ t g parent child (sl h w.length)->n5 τ parent (sl h w.length)/\FL t w.length σ τ)->XT X (K b) n τ):XT X (zC t parent child h level K) (n+30) σ:=by
 refine pA hX.toX7 (n:=n+20) hT i0 hp λ τ m l1 i1 hm hs fr=>cI hm.in.2 ?_
 try dsimp only
 split
 ·rename_i hlk
  have h3:=mB hlk
  have hc:=hm.sH i1 h3
  have hlev:gY h level=((sl h w.length:Nat):Int):=by rw[hl];exact Bi hc.wl
  rw[hlev] at hlk ⊢
  have hk:=yM h w.length
  have hch1:(τ.nd child).kind=2:=by rw[l1.nd (jS hch)];exact hch
  have hb:uF τ child (w++[sl h w.length]):=by
   have h':=hlk
   rw[hc.lk hk] at h'
   rcases hc.br _ hk _ h' with h|h
   ·rw[hch1] at h;exact absurd h.1 (by decide)
   ·exact⟨h.1,h.2.1⟩
  refine pA hX.toX7 (n:=n+10) (hT.up l1) i1 (g:=(τ.nd child).gen) ⟨hb,rfl⟩ λ υ mc l2 i2 hmc _ fr2=>cI hmc.in.2 ?_
  have l02:=l1.trans i0 i1 l2
  have hsame:ClS X σ t g parent child (sl h w.length)->υ=σ/\m=σ.ce (σ.nd parent).main/\mc=σ.ce (σ.nd child).main:=λ q=>by
   obtain⟨e1,e2⟩:=fr.e q.so.b q.lk.st
   subst e1
   obtain⟨e3,e4⟩:=fr2.e q.so.b q.st
   exact⟨e3,e2,e4⟩
  try dsimp only
  split
  ·rename_i h5
   have hlf:=i2.leaf (.inr h5)
   have hu:iO (υ.nd mc).hash.toNat (w++[sl h w.length]):=by
    have:=((i2.nd mc hmc.in.1 hmc.in.2).k5 h5).2.2.2.1
    rwa [hmc.2.1] at this
   rw[ll h5,rl hlf]
   refine jB (w:=[]) (g:=0) hX.al i2 (A7 i2 hlf.sz hlf.ha hlf.hl) ⟨⟨Int.le_refl _,bK _⟩,λ k=>dG (a:=4) (b:=2) k,λ k=>by unfold bQ at k;rcases k with k|k|k;exact dG (a:=4) (b:=3) k;exact dG (a:=4) (b:=5) k;exact dG (a:=4) (b:=6) k,λ _=>rfl⟩ λ ρ s l3 i3 asg=>?_
   have l23:=l2.trans i1 i2 l3
   have l03:=l02.trans i0 i2 l3
   have hm3:=hm.up l23
   have hc3:=hc.upL l23
   have hlk3:lA (ρ.nd m) ((sl h w.length:Nat):Int)=some child:=by rw[l23.nd hm.in.2];exact hlk
   have hs4:(ρ.nd s).kind=4:=by rw[asg.nd];rfl
   have hbr:Ni ρ (w++[sl h w.length]) g s:=.inl ⟨hs4,by rw[asg.nd];exact hu⟩
   refine cI hm3.in.2 ?_
   have hup:=hc3.up hk hlk3 asg.r1
   have hfin:∀nd,bQ nd->kR X.H ρ nd w g->(∀χ r,Le ρ χ->Inv X.H χ->qk ρ χ nd m r w g->∀b,lA (χ.nd r) ((sl h w.length:Nat):Int)=some b->(χ.nd b).kind≠2)->XT X (.alloc nd m λ r=>jT t parent m r K) (n+10) ρ:=λ nd hmk hn hno =>
    jB hX.al i3 hn (xF hmk hm3 (bA.up i1 hm.1 hs l23)) λ χ r l4 i4 ar=>by
     have l04:=l03.trans i0 i3 l4
     have hr:=oD (cl:=0) hmk ar.nd ar.way ar.gb
     refine Bs hX.toX7 (hT.up l04) i4 (hp.up l04) hr λ ψ ok l5 i5 hgr=>hK ψ ok (l04.trans i0 i4 l5) i5 λ q=>?_
     obtain⟨e1,e2,e3⟩:=hsame q
     subst e1
     have r1:=hgr (E2 i2 i3 (hT.up l02) (hp.up l02) (hm.up l2) l3 l4 asg.Q7 ar hmk q.so e2.symm)
     have ema:ψ.ce (ψ.nd parent).main=r:=by rw[l5.nd (hp.up l04).in.2];exact r1.ma
     refine⟨⟨by rw[ema];exact r1.st,λ b hb=>?_⟩,((asg.Q7.fl (hT.up l02) i2).trans l3 (ar.Q7.fl (hT.up l03) i3)).trans (l3.trans i2 i3 l4) ((Lq (hT.up l04) i4 r1.fr).less (by rw[(hp.up l04).1.2];exact Nat.le_refl _))⟩
     rw[ema,l5.nd hr.in.2] at hb
     have hbk:=hno χ r l4 i4 ar b hb
     have hbin:=((hr.sH i4 (mB hb)).br _ hk b (by rw[<- (hr.sH i4 (mB hb)).lk hk];exact hb)).in
     rw[l5.nd hbin.2]
     exact hbk
   try dsimp only
   rw[hup.1,fq hup.2.1]
   try dsimp only
   split
   ·rename_i hx
    refine hfin _ (.inr (.inl rfl)) (Fv i3 hlf.sz hlf.ha hlf.hl (by omega) (by have:=hc.wl;omega) (Kn hu)) λ χ r l4 i4 ar b hb=>?_
    have:=mB hb
    rw[ar.nd] at this
    exact dG (a:=5) (b:=3) this
   ·rename_i hx
    refine hfin _ (.inl rfl) ?_ λ χ r l4 i4 ar b hb=>?_
    ·rw[<- hup.1]
     refine a9 i3 hc3 hk hlk3 hbr λ h0 h1=>absurd ⟨?_,by omega,rfl⟩ hx
     rw[wA hup.2.2.2];exact h1
    ·have hr:=oD (cl:=0) (σ:=χ) (.inl rfl) ar.nd ar.way ar.gb
     have hcn:=hr.sH i4 (mB hb)
     rw[hcn.lk hk,ar.nd] at hb
     have hb':qS (τ.nd m).bm.toNat (qT (τ.nd m).xs (gA (τ.nd m).bm.toNat (sl h w.length)) s) (sl h w.length)=some b:=by
      rw[<- hb]
      show _=qS (Dr (τ.nd m).bm.toNat (qT (τ.nd m).xs (gA (τ.nd m).bm.toNat (sl h w.length)) s)).bm.toNat (qT (τ.nd m).xs (gA (τ.nd m).bm.toNat (sl h w.length)) s) _
      rw[show(Dr (τ.nd m).bm.toNat (qT (τ.nd m).xs (gA (τ.nd m).bm.toNat (sl h w.length)) s)).bm.toNat=(τ.nd m).bm.toNat from Int.toNat_natCast _]
     rw[hup.2.2.1 _ hk] at hb'
     unfold Jg at hb'
     rw[if_pos rfl] at hb'
     cases hb'
     rw[l4.nd asg.r2,hs4];decide
  ·rename_i h5
   refine(hK υ _ l02 i2 λ q=>?_).mono (by omega)
   obtain⟨e1,e2,e3⟩:=hsame q
   exact absurd (by rw[e3,e1];exact q.k5) h5
 ·rename_i hlk
  refine(hK τ _ l1 i1 λ q=>?_).mono (by omega)
  obtain⟨e1,e2⟩:=fr.e q.so.b q.lk.st
  refine absurd ?_ hlk
  have hlk2:=q.lk.lk
  have hc:w.length<=10:=((hp.ju i0).sH i0 (mB hlk2)).wl
  rw[hl,Bi hc,e1,e2]
  exact hlk2
theorem ia{key:ByteArray}{K:Rs->Tr}(hX:Ec X)(hT:bW σ t)(i0:Inv X.H σ)(hK:∀τ r,Le σ τ->Inv X.H τ->r.root=0->XT X (K r) n τ):∀(q:Nat) (σ':Kw) (i:Int) (w:List Nat) (g level:Int),Le σ σ'->Inv X.H σ'->qR σ' i w g->XT X (Cx t h key K q i level) (n+10*(12-w.length)) σ'
 | 0,_,_,_,_,_,_,_,_=>trivial
 | q+1,σ',i,w,g,level,l,i1,hi=>by
  have hw:=(hi.Ls i1).2.2
  have e:n+10*(12-w.length)=(n+10*(11-w.length))+10:=by omega
  rw[e]
  refine pA hX.toX7 (hT.up l) i1 hi λ τ m l1 i2 hm _ _=>cI hm.in.2 ?_
  have l01:=l.trans i0 i1 l1
  try dsimp only
  split
  ·(try dsimp only);split<;>exact(hK τ _ l01 i2 rfl).mono (by omega)
  try dsimp only
  split
  ·exact(hK τ _ l01 i2 rfl).mono (by omega)
  cases hlk:lA (τ.nd m) (gY h level) with
  | none=>exact(hK τ _ l01 i2 rfl).mono (by omega)
  | some b =>
   obtain⟨k,hk,ek⟩:=bs h level
   rw[ek] at hlk
   have hc:=hm.sH i2 (mB hlk)
   rw[hc.lk hk] at hlk
   have hb:=hc.br k hk b hlk
   refine cI hb.in.2 ?_
   try dsimp only
   split
   ·(try dsimp only);split<;>exact(hK τ _ l01 i2 rfl).mono (by omega)
   ·rename_i h4
    rcases hb with hb|hb
    ·exact absurd hb.1 h4
    ·have:=ia (key:=key) hX hT i0 hK q τ b (w++[k]) (τ.nd b).gen (level+1) l01 i2 ⟨⟨hb.1,hb.2.1⟩,rfl⟩
     rw[List.length_append,List.length_singleton] at this
     exact this.mono (by omega)
theorem aBl{x:Int}{h0 h:Nat}{pk:ByteArray}{pv:Int}{k:ByteArray}{u:Int}{q:Nat}{K:Int->Tr}(hX:Ec X)(hh0:h0<18446744073709551616)(hh:h<18446744073709551616)(hH:X.H k=h)(hk:k.size<=64)(hg1:1<=g)(hne:pk≠k)(hpk:pk.size<=64)(hpH:X.H pk=h0) :
  ∀(n lvl:Nat) (σ:Kw) (r:Int) (f:Nat),lvl+n=lE h0 h->Inv X.H σ->(σ.nd x).kind=4->(σ.nd x).hash.toNat=h0->g<=σ.mm.gen->f=σ.len+1 ->
  (∀υ,Le σ υ->Inv X.H υ->I6 σ υ->υ.len=σ.len+(dN x h0 h (pk,pv) k u g f n lvl).length->oS υ ((f-1+(dN x h0 h (pk,pv) k u g f n lvl).length:Nat):Int) (uC h lvl) g->bA υ ((f-1+(dN x h0 h (pk,pv) k u g f n lvl).length:Nat):Int)->XT X (K ((f-1+(dN x h0 h (pk,pv) k u g f n lvl).length:Nat):Int)) q υ) ->
  XT X (Aq (dN x h0 h (pk,pv) k u g f n lvl) r K) q σ
 | 0,lvl,σ,r,f,hn,i0,hx4,hxh,hgg,hf,hK=>by
  have hx:=dJ (N:=σ.mm.nodes) (i:=x) (by have:=hx4;simp only[Kw.nd] at this;rw[this];decide)
  have hcl:=zK h0 h
  unfold dN at hK ⊢
  try dsimp only
  split
  ·rename_i e
   rw[if_pos e] at hK
   subst e
   have heq:h0=h:=mv hh0 hh λ j hj=>Sf (by omega)
   obtain⟨o1,o2,o3⟩:=rr (p:=(pk,pv)) (q:=(k,u)) hne
   have hnew:kR X.H σ (Wx ((h:Nat):Int) (D8 [(pk,pv),(k,u)])) (uC h 11) g:=G8 i0 o1 (oU.2 o2) (xI.2 λ p hp=>by rcases o3 p hp with rfl|rfl;exact hpk;exact hk) (λ p hp=>by rcases o3 p hp with rfl|rfl;exact hpH.trans heq;exact hH) hh (fR h 11) (tQ h 11)
   refine jB hX.al i0 hnew (rG i0 (λ e=>dG (a:=6) (b:=2) e)) λ υ r' l1 i1 a1=>?_
   have er:=a1.re
   have em:=a1.mm
   have e1:=a1.nd
   have e2:=a1.way
   have e3:=a1.gb
   have h1:=a1.r1
   have h2:=a1.r2
   have hr':r'=((f-1+[Hw h (D8 [(pk,pv),(k,u)])].length:Nat):Int):=by rw[er,hf];simp
   have hlen:υ.len=σ.len+1:=by simp[Kw.len,em,Mm.push]
   show XT X (K r') q υ
   rw[hr']
   refine hK υ l1 i1 a1.Q7 hlen ?_ ?_<;>rw[<- hr']
   ·exact oD (cl:=0) (.inr (.inr rfl)) e1 e2 e3
   ·exact a1.prev (.inr (.inr rfl))
  ·rename_i e
   rw[if_neg e] at hK
   have hlv:lvl=lE h0 h:=by omega
   have hne2:sl h0 lvl≠sl h lvl:=by rw[hlv];exact Lx (by omega)
   refine jB (w:=[]) (g:=0) hX.al i0 (A7 i0 hk hH hh) (rG i0 (λ e=>dG (a:=4) (b:=2) e)) λ υ s l1 i1 a1=>?_
   have er:=a1.re
   have em:=a1.mm
   have e1:=a1.nd
   have hs1:=a1.r1
   have hs2:=a1.r2
   have hlen:υ.len=σ.len+1:=by simp[Kw.len,em,Mm.push]
   have hsf:s=(f:Int):=by rw[er,hf]
   obtain⟨b1,b2⟩:=zg (yM h0 lvl) (yM h lvl) hne2 (x:=x) (s:=s) hx.1 hs1
   have hx4':(υ.nd x).kind=4:=by rw[l1.nd hx.2];exact hx4
   have hxh':(υ.nd x).hash.toNat=h0:=by rw[l1.nd hx.2];exact hxh
   have hnew:kR X.H υ (Dr (dU (dU 0 (sl h0 lvl:Int)) (sl h lvl:Int)) (two (sl h0 lvl) (sl h lvl) x s)) (uC h lvl) g:=by
    refine nV i1 b1 (λ j hj v hv=>?_) (by rw[fR];omega) (λ _=>⟨λ e=>?_,λ b hb=>?_⟩)
    ·rcases b2 j hj v hv with⟨rfl,rfl⟩|⟨rfl,rfl⟩
     ·refine .inl ⟨hx4',?_⟩
      rw[hxh']
      have:=tX (X5 (a:=h0) (b:=h) (l:=lvl) (by omega))
      rwa [fR] at this
     ·refine .inl ⟨by rw[e1];rfl,?_⟩
      rw[e1]
      have:=tX (tQ h lvl)
      rw[fR] at this
      exact this
    ·unfold two at e;split at e<;>cases e
    ·unfold two at hb;split at hb<;>cases hb
   rw[hsf] at hnew
   show XT X (.alloc (Dr (dU (dU 0 (sl h0 lvl:Int)) (sl h lvl:Int)) (two (sl h0 lvl) (sl h lvl) x (f:Int))) 0 K) q υ
   refine jB hX.al i1 hnew (rG i1 (λ e=>dG (a:=3) (b:=2) e)) λ ρ r' l2 i2 a2=>?_
   have er2:=a2.re
   have em2:=a2.mm
   have e4:=a2.nd
   have e5:=a2.way
   have e6:=a2.gb
   have h1:=a2.r1
   have h2:=a2.r2
   have hlen2:ρ.len=υ.len+1:=by simp[Kw.len,em2,Mm.push]
   have hr':r'=((f-1+[vQ h k u,dy (dU (dU 0 (sl h0 lvl:Int)) (sl h lvl:Int)) (two (sl h0 lvl) (sl h lvl) x (f:Int))].length:Nat):Int):=by
    rw[er2];simp only[List.length_cons,List.length_nil];omega
   rw[hr']
   refine hK ρ (l1.trans i0 i1 l2) i2 (a1.Q7.trans l1 a2.Q7) (by simp only[List.length_cons,List.length_nil];omega) ?_ ?_<;>rw[<- hr']
   ·exact oD (cl:=0) (.inl rfl) e4 e5 e6
   ·exact a2.prev (.inl rfl)
 | n+1,lvl,σ,r,f,hn,i0,hx4,hxh,hgg,hf,hK=>by
  have hx:=dJ (N:=σ.mm.nodes) (i:=x) (by have:=hx4;simp only[Kw.nd] at this;rw[this];decide)
  have hcl:=zK h0 h
  unfold dN at hK ⊢
  rw[Ra]
  refine aBl hX hh0 hh hH hk hg1 hne hpk hpH n (lvl+1) σ r f (by omega) i0 hx4 hxh hgg hf λ υ l1 i1 f1 el hm hst=>?_
  generalize hd:(dN x h0 h (pk,pv) k u g f n (lvl+1)).length=d at *
  show XT X (.alloc (nJ g) ((f-1+d:Nat):Int) λ _=>.alloc (Dr (dU 0 (sl h lvl:Int)) [((f+d:Nat):Int)]) 0 K) q υ
  refine jB (w:=uC h (lvl+1)) (g:=0) hX.al i1 (Bg (by rw[fR];omega) hg1 (by have:=l1.gen;omega)) ⟨⟨by omega,hm.in.2⟩,λ _=>hm,λ k=>absurd k (jM (.inr (.inr (.inl rfl)))),λ k=>dG (a:=2) (b:=8) k⟩ (λ ρ j l2 i2 a2=>?_) (λ _=>hst)
  have er:=a2.re
  have em:=a2.mm
  have e1:=a2.nd
  have e2:=a2.way
  have hj1:=a2.r1
  have hj2:=a2.r2
  have hlen:ρ.len=υ.len+1:=by simp[Kw.len,em,Mm.push]
  have hj:j=((f+d:Nat):Int):=by rw[er];omega
  obtain⟨b1,b2⟩:=ly (yM h lvl) (r:=j) hj1
  have hnew:kR X.H ρ (Dr (dU 0 (sl h lvl:Int)) [j]) (uC h lvl) g:=by
   refine nV i2 b1 (λ q hq v hv=>?_) (by rw[fR];omega) (λ _=>⟨by simp,λ b hb=>?_⟩)
   ·obtain⟨rfl,rfl⟩:=b2 q hq v hv
    exact .inr ⟨by rw[e1];rfl,by rw[e2,Jt],by rw[e1];exact Int.le_refl _⟩
   ·cases hb;rw[e1];rfl
  rw[hj] at hnew
  refine jB hX.al i2 hnew (rG i2 (λ e=>dG (a:=3) (b:=2) e)) λ χ r' l3 i3 a3=>?_
  have er2:=a3.re
  have em2:=a3.mm
  have e4:=a3.nd
  have e5:=a3.way
  have e6:=a3.gb
  have h1:=a3.r1
  have h2:=a3.r2
  have hlen2:χ.len=ρ.len+1:=by simp[Kw.len,em2,Mm.push]
  have hr':r'=((f-1+(d+2):Nat):Int):=by rw[er2];omega
  have hL:(dN x h0 h (pk,pv) k u g f n (lvl+1)++[rF g ((f-1+d:Nat):Int),dy (dU 0 (sl h lvl:Int)) [((f+d:Nat):Int)]]).length=d+2:=by rw[List.length_append,hd];rfl
  rw[hL] at hK
  rw[hr']
  refine hK χ ((l1.trans i0 i1 l2).trans i0 i2 l3) i3 ((f1.trans l1 a2.Q7).trans (l1.trans i0 i1 l2) a3.Q7) (by omega) ?_ ?_<;>rw[<- hr']
  ·exact oD (cl:=0) (.inl rfl) e4 e5 e6
  ·exact a3.prev (.inl rfl)
theorem zw{b:Int}{level:Nat}{K:Int->Tr}(hX:Ec X)(i0:Inv X.H σ)(hb4:(σ.nd b).kind=4)(hu0:iO (σ.nd b).hash.toNat w)(hu:iO h w)(hl:level=w.length)(hw:w.length<=11)(hh:h<18446744073709551616)(hH:X.H c.key=h)(hk:c.key.size<=64)(hg1:1<=g)(hgg:g<=σ.mm.gen)(hne:(σ.nd b).key≠c.key)
  (hK:∀υ d,Le σ υ->Inv X.H υ->I6 σ υ->oS υ d w g->bA υ d->XT X (K d) n υ):XT X (Vf c b h level g K) n σ:=by
 have hlf:=i0.leaf (.inl hb4)
 have hb:=dJ (N:=σ.mm.nodes) (i:=b) (by have:=hb4;simp only[Kw.nd] at this;rw[this];decide)
 have hcom:level<=lE (σ.nd b).hash.toNat h:=by
  have hw11:=zK (σ.nd b).hash.toNat h
  by_cases hlt:level<=lE (σ.nd b).hash.toNat h
  ·exact hlt
  ·exact absurd ((hu0 _ (by omega)).trans (hu _ (by omega)).symm) (Lx (by omega))
 refine cI hb.2 ?_
 generalize hn:lE (σ.nd b).hash.toNat h-level=nd
 have hlv:lE (σ.nd b).hash.toNat h-nd=level:=by omega
 obtain⟨a,ha⟩:=W6 (x:=b) (h0:=(σ.nd b).hash.toNat) (h:=h) (p:=((σ.nd b).key,(σ.nd b).val)) (k:=c.key) (u:=c.val) (g:=g) nd level
 have hP:∀f,dP b (σ.nd b).hash.toNat h ((σ.nd b).key,(σ.nd b).val) c.key c.val g f level=dN b (σ.nd b).hash.toNat h ((σ.nd b).key,(σ.nd b).val) c.key c.val g f nd level:=λ f=>by unfold dP;rw[hn,hlv]
 obtain⟨l0,hl0⟩:=ha 0
 try dsimp only
 rw[hP 0,hl0]
 show XT X (.alloc a.c0 a.init λ f=>Aq (dP b (σ.nd b).hash.toNat h ((σ.nd b).key,(σ.nd b).val) c.key c.val g f.toNat level).tail f K) n σ
 obtain⟨l1,hl1⟩:=ha (σ.len+1)
 have key:XT X (Aq (dN b (σ.nd b).hash.toNat h ((σ.nd b).key,(σ.nd b).val) c.key c.val g (σ.len+1) nd level) 0 K) n σ:=by
  refine aBl hX hlf.hl hh hH hk hg1 hne hlf.sz hlf.ha nd level σ 0 (σ.len+1) (by omega) i0 hb4 rfl hgg rfl λ υ l2 i2 f2 _ hm hst=>hK υ _ l2 i2 f2 ?_ hst
  rw[tv hu,<- hl];exact hm
 rw[hl1] at key
 rcases key with h|⟨h1,h2,h3⟩
 ·exact .inl h
 ·refine .inr ⟨h1,λ h=>(by rw[hX.al] at h;cases h),λ h=>?_⟩
  obtain⟨υ,l2,i2,e2,hw2⟩:=h3 h
  refine⟨υ,l2,i2,e2,?_⟩
  dsimp only
  rw[hP,show(((σ.len+1:Nat):Int)).toNat=σ.len+1 from Int.toNat_natCast _,hl1]
  exact hw2
end
end
section
section
variable{X:Xp}{σ τ υ:Kw}{i m p g v:Int}{w:List Nat}{t:dL}{n:Nat}{c:Cl}{h:Nat}
abbrev KLx(X:Xp)(σ:Kw)(t:dL)(i m g:Int)(h level:Nat)(K:Rs->Int->Tr)(n:Nat):Prop:=∀τ r what,Le σ τ->Inv X.H τ->r.root=0->(what=0∨what=1∨(Fur σ m h level/\τ=σ))->(Kc X σ t g->σ.ce (σ.nd i).main=m->what≠0)->XT X (K r what) n τ
theorem Xy{level:Nat}{K:Rs->Int->Tr}(hX:Ec X)(hT:bW σ c.t)(i0:Inv X.H σ)(hk:Rm X.H c h)(hi:qR σ i w g)(hm:oS σ m w g)(hs:bA σ m)(hu:iO h w)(hl:level=w.length)(h5:(σ.nd m).kind≠5)(hK:KLx X σ c.t i m g h level K n):XT X (mA c i m h level g K) (n+10) σ:=by
 have hg:=hi.Ls i0
 have gc:∀{nd:Nv} {R:Rs},R.root=0->bQ nd->∀υ,Le σ υ->Inv X.H υ->I6 σ υ->kR X.H υ nd w g->XT X (.alloc nd m λ r=>jT c.t i m r λ ok=>K R (if ok=true then 1 else 0)) (n+10) υ:=λ{nd R} hR hmk υ l1 i1 f1 hn =>
  jB hX.al i1 hn (xF hmk (hm.up l1) (bA.up i0 hm.1 hs l1)) λ χ r l2 i2 a=>by
   have l:=l1.trans i0 i1 l2
   exact Bs hX.toX7 (hT.up l) i2 (hi.up l) (oD (cl:=0) hmk a.nd a.way a.gb) λ ψ ok l3 i3 hg=>hK ψ _ _ (l.trans i0 i2 l3) i3 hR (dh ok) λ so hma=>by
    rw[(hg (E2 i0 i1 hT hi hm l1 l2 f1 a hmk so hma)).t];decide
 have gr:∀{R:Rs} {k:Nat} {o r:Int},R.root=0->∀υ,Le σ υ->Inv X.H υ->I6 σ υ->k<64->lA (υ.nd m) (k:Int)=some o->Ni υ (w++[k]) g r->(0<w.length->(υ.nd m).xs.length=1->(υ.nd r).kind=2)->(υ.nd m).kind=3->XT X (Fo m (k:Int) r λ n=>jT c.t i m n λ ok=>K R (if ok=true then 1 else 0)) (n+10) υ:=λ{R k o r} hR υ l1 i1 f1 hk64 ho hr h0 h3=>by
  have hm1:=hm.up l1
  refine av hX i1 hm1 (bA.up i0 hm.1 hs l1) (hm1.sH i1 h3) hk64 ho hr h0 λ χ n l2 i2 hn a hmk _=>?_
  have l:=l1.trans i0 i1 l2
  exact Bs hX.toX7 (hT.up l) i2 (hi.up l) hn λ ψ ok l3 i3 hg=>hK ψ _ _ (l.trans i0 i2 l3) i3 hR (dh ok) λ so hma=>by
   rw[(hg (E2 i0 i1 hT hi hm l1 l2 f1 a hmk so hma)).t];decide
 refine cI hm.in.2 ?_
 try dsimp only
 split
 ·rename_i h6
  have hln:=hm.u5 i0 h6
  try dsimp only
  split
  ·have hh:=ik hk.hl hln.hl hu hln.un hln.wl
   have:=yb (w:=w) (g:=g) i0 hln (k:=c.key) (u:=c.val) hk.sz (hk.ha.trans hh)
   exact gc rfl this.1 σ (Le.refl σ) i0 (.refl σ) this.2
  ·exact(hK σ _ _ (Le.refl σ) i0 rfl (.inr (.inl rfl)) λ _ _=>by decide).mono (by omega)
 ·rename_i h6
  have h3:(σ.nd m).kind=3:=by
   rcases hm.1 with h|h|h
   ·exact h
   ·exact absurd h h5
   ·exact absurd h h6
  have hc:=hm.sH i0 h3
  have hlev:gY h (level:Int)=((sl h w.length:Nat):Int):=by rw[hl];exact Bi hc.wl
  have hk64:=yM h w.length
  have hu1:=tX hu
  have hsing:∀υ s cl,υ.nd s=cK (Ga h c.key c.val) cl->Ni υ (w++[sl h w.length]) g s:=λ υ s cl e=>.inl ⟨by rw[e];rfl,by rw[e];exact hu1⟩
  unfold KLx Fur at hK
  rw[hlev] at hK ⊢
  cases hlk:lA (σ.nd m) ((sl h w.length:Nat):Int) with
  | none =>
   simp only[]
   try dsimp only
   split
   ·refine jB (w:=[]) (g:=0) hX.al i0 (A7 i0 hk.sz hk.ha hk.hl) (rG i0 (λ e=>dG (a:=4) (b:=2) e)) λ υ s l1 i1 a=>?_
    have hc1:=hc.upL l1
    have hlk1:lA (υ.nd m) ((sl h w.length:Nat):Int)=none:=by rw[l1.nd hm.in.2];exact hlk
    obtain⟨f1,f2,f3,f4⟩:=hc1.ins hk64 hlk1 a.r1
    try dsimp only
    rw[<- l1.nd hm.in.2,f1]
    refine gc rfl (.inl rfl) υ l1 i1 a.Q7 (nV i1 f2 (λ j hj v hv=>?_) hc.wl (λ h0=>⟨λ e=>?_,λ b hb=>?_⟩))
    ·rw[f3 j hj] at hv
     unfold Jg at hv
     split at hv
     ·rename_i ej;cases hv;rw[ej];exact hsing υ s _ a.nd
     ·exact hc1.br j hj v hv
    ·rw[e] at f4;simp at f4
    ·rw[hb] at f4
     have:=(hc1.ne h0).1
     cases hx:(σ.nd m).xs with
     | nil=>exact absurd hx this
     | cons _ _=>rw[hx] at f4;simp at f4
   ·exact(hK σ _ _ (Le.refl σ) i0 rfl (.inr (.inl rfl)) λ _ _=>by decide).mono (by omega)
  | some b =>
   simp only[]
   have hb:=hc.br _ hk64 b (by rw[<- hc.lk hk64];exact hlk)
   refine cI hb.in.2 ?_
   try dsimp only
   split
   ·rename_i h2
    exact(hK σ _ _ (Le.refl σ) i0 rfl (.inr (.inr ⟨⟨b,hlk,h2⟩,rfl⟩)) λ _ _=>by decide).mono (by omega)
   ·rename_i h2
    have hb4:(σ.nd b).kind=4/\iO (σ.nd b).hash.toNat (w++[sl h w.length]):=by
     rcases hb with h|h
     ·exact h
     ·exact absurd h.1 h2
    have hno:0<w.length->(σ.nd m).xs.length=1->False:=λ h0 h1=>by
     have hlt:(σ.nd m).xs=[b]:=by
      have hmem:=Vt hc.bv hk64 (x:=b) (by rw[<- hc.lk hk64];exact hlk)
      cases hx:(σ.nd m).xs with
      | nil=>rw[hx] at h1;simp at h1
      | cons a t =>
       rw[hx] at h1 hmem
       cases t with
       | nil=>rw[List.mem_singleton.1 hmem]
       | cons _ _=>simp at h1
     exact h2 ((hc.ne h0).2 b hlt)
    try dsimp only
    split
    ·try dsimp only
     split
     ·refine jB (w:=[]) (g:=0) hX.al i0 (A7 i0 hk.sz hk.ha hk.hl) (rG i0 (λ e=>dG (a:=4) (b:=2) e)) λ υ s l1 i1 a=>?_
      exact gr rfl υ l1 i1 a.Q7 hk64 (o:=b) (by rw[l1.nd hm.in.2];exact hlk) (hsing υ s _ a.nd) (λ h0 h1=>(hno h0 (by rw[<- l1.nd hm.in.2];exact h1)).elim) (by rw[l1.nd hm.in.2];exact h3)
     ·exact(hK σ _ _ (Le.refl σ) i0 rfl (.inr (.inl rfl)) λ _ _=>by decide).mono (by omega)
    ·rename_i hne
     try dsimp only
     split
     ·refine zw (w:=w++[sl h w.length]) hX i0 hb4.1 hb4.2 hu1 (by rw[List.length_append,hl];rfl) (by rw[List.length_append,List.length_singleton];have:=hc.wl;omega) hk.hl hk.ha hk.sz hg.1 hg.2.1 hne λ υ d l1 i1 fd hd hds=>?_
      refine Au hX i1 hg.1 (by have:=l1.gen;have:=hg.2.1;omega) (by rw[List.length_append,List.length_singleton];have:=hc.wl;omega) hd hds (Int.le_refl _) λ ρ j l2 i2 hj aj=>?_
      have l12:=l1.trans i0 i1 l2
      exact gr rfl ρ l12 i2 (fd.trans l1 aj.Q7) hk64 (o:=b) (by rw[l12.nd hm.in.2];exact hlk) (.inr ⟨hj.1.1,hj.1.2,by rw[hj.2];exact Int.le_refl _⟩) (λ _ _=>hj.1.1) (by rw[l12.nd hm.in.2];exact h3)
     ·exact(hK σ _ _ (Le.refl σ) i0 rfl (.inr (.inl rfl)) λ _ _=>by decide).mono (by omega)
theorem Sh{level:Nat}{K:Rs->Int->Tr}(hX:Ec X)(hT:bW σ c.t)(i0:Inv X.H σ)(hi:qR σ i w g)(hm:oS σ m w g)(hs:bA σ m)(hu:iO h w)(hl:level=w.length)(h5:(σ.nd m).kind≠5)(hK:KLx X σ c.t i m g h level K n):XT X (kO c i m h level K) (n+10) σ:=by
 have gc:∀{nd:Nv} {R:Rs},R.root=0->bQ nd->kR X.H σ nd w g->XT X (.alloc nd m λ r=>jT c.t i m r λ ok=>K R (if ok=true then 1 else 0)) (n+10) σ:=λ{nd R} hR hmk hn =>
  jB hX.al i0 hn (xF hmk hm hs) λ χ r l2 i2 a =>
   Bs hX.toX7 (hT.up l2) i2 (hi.up l2) (oD (cl:=0) hmk a.nd a.way a.gb) λ ψ ok l3 i3 hg=>hK ψ _ _ (l2.trans i0 i2 l3) i3 hR (dh ok) λ so hma=>by
    rw[(hg (E2 i0 i0 hT hi hm (Le.refl σ) l2 (.refl σ) a hmk so hma)).t];decide
 refine cI hm.in.2 ?_
 try dsimp only
 split
 ·rename_i h6
  have hln:=hm.u5 i0 h6
  try dsimp only
  split
  ·exact(hK σ _ _ (Le.refl σ) i0 rfl (.inr (.inl rfl)) λ _ _=>by decide).mono (by omega)
  ·rename_i hn
   have hf:(dV (σ.nd m).ys c.key).isSome=true:=by
    cases hx:(dV (σ.nd m).ys c.key).isSome with
    | true=>rfl
    | false=>exact absurd (.inl hx) hn
   have:=zd (w:=w) (g:=g) i0 hln (k:=c.key) hf
   exact gc rfl this.1 this.2
 ·rename_i h6
  have h3:(σ.nd m).kind=3:=by
   rcases hm.1 with h|h|h
   ·exact h
   ·exact absurd h h5
   ·exact absurd h h6
  have hc:=hm.sH i0 h3
  have hlev:gY h (level:Int)=((sl h w.length:Nat):Int):=by rw[hl];exact Bi hc.wl
  have hk64:=yM h w.length
  unfold KLx Fur at hK
  rw[hlev] at hK ⊢
  cases hlk:lA (σ.nd m) ((sl h w.length:Nat):Int) with
  | none =>
   simp only[]
   exact(hK σ _ _ (Le.refl σ) i0 rfl (.inr (.inl rfl)) λ _ _=>by decide).mono (by omega)
  | some b =>
   simp only[]
   have hb:=hc.br _ hk64 b (by rw[<- hc.lk hk64];exact hlk)
   refine cI hb.in.2 ?_
   try dsimp only
   split
   ·rename_i h2
    exact(hK σ _ _ (Le.refl σ) i0 rfl (.inr (.inr ⟨⟨b,hlk,h2⟩,rfl⟩)) λ _ _=>by decide).mono (by omega)
   rename_i h2
   try dsimp only
   split
   ·exact(hK σ _ _ (Le.refl σ) i0 rfl (.inr (.inl rfl)) λ _ _=>by decide).mono (by omega)
   try dsimp only
   split
   ·exact(hK σ _ _ (Le.refl σ) i0 rfl (.inr (.inl rfl)) λ _ _=>by decide).mono (by omega)
   obtain⟨f1,f2,f3,f4⟩:=hc.re hk64 hlk
   have hso:(Lr (Ny (σ.nd m) ((sl h w.length:Nat):Int))).getD 0<=σ.len:=by
    rw[f1,Lb f2]
    try dsimp only
    split
    ·rename_i e1
     have hmem:(sG (σ.nd m).xs (gA (σ.nd m).bm.toNat (sl h w.length))).getD 0 0∈sG (σ.nd m).xs (gA (σ.nd m).bm.toNat (sl h w.length)):=Bp (by omega)
     obtain⟨j,hj,hv⟩:=Mr f2 hmem
     rw[f3 j hj] at hv
     unfold Jg at hv
     split at hv
     ·cases hv
     ·exact(hc.br j hj _ hv).in.2
    ·exact bK _
   refine cI hso ?_
   try dsimp only
   rw[f1] at hso ⊢
   rw[fq f2]
   try dsimp only
   split
   ·rename_i hx
    have e1:=hx.1
    rw[Lb f2,if_pos e1] at hx ⊢
    simp only[Option.getD_some] at hx ⊢
    generalize hs0:(sG (σ.nd m).xs (gA (σ.nd m).bm.toNat (sl h w.length))).getD 0 0=s at hx ⊢
    have hmem:s∈sG (σ.nd m).xs (gA (σ.nd m).bm.toNat (sl h w.length)):=by rw[<- hs0];exact Bp (by omega)
    obtain⟨j,hj,hv⟩:=Mr f2 hmem
    have hbr:Ni σ (w++[j]) g s:=by
     rw[f3 j hj] at hv
     unfold Jg at hv
     split at hv
     ·cases hv
     ·exact hc.br j hj _ hv
    have hlf:=i0.leaf (.inl hx.2.2)
    have hus:iO (σ.nd s).hash.toNat (w++[j]):=by
     rcases hbr with h'|h'
     ·exact h'.2
     ·have:=h'.1;have:=hx.2.2;omega
    have e5:tmV (σ.nd s)=ig (((σ.nd s).hash.toNat:Nat):Int) (σ.nd s).key (σ.nd s).val:=by rw[<- hlf.hn];rfl
    rw[e5]
    exact gc rfl (.inr (.inl rfl)) (Fv i0 hlf.sz hlf.ha hlf.hl (by omega) (by have:=hc.wl;omega) (Kn hus))
   ·rename_i hx
    refine gc rfl (.inl rfl) (nV i0 f2 (λ j hj v hv=>?_) hc.wl (λ h0=>⟨λ e=>?_,λ b' hb'=>?_⟩))
    ·rw[f3 j hj] at hv
     unfold Jg at hv
     split at hv
     ·cases hv
     ·exact hc.br j hj v hv
    ·rw[e] at f4
     have h1:(σ.nd m).xs.length=1:=by simpa using f4.symm
     have hlt:(σ.nd m).xs=[b]:=by
      have hmem:=Vt hc.bv hk64 (x:=b) (by rw[<- hc.lk hk64];exact hlk)
      cases hxs:(σ.nd m).xs with
      | nil=>rw[hxs] at h1;simp at h1
      | cons a t =>
       rw[hxs] at h1 hmem
       cases t with
       | nil=>rw[List.mem_singleton.1 hmem]
       | cons _ _=>simp at h1
     exact h2 ((hc.ne h0).2 b hlt)
    ·have e1:(sG (σ.nd m).xs (gA (σ.nd m).bm.toNat (sl h w.length))).length=1:=by rw[hb'];rfl
     rw[Lb f2,if_pos e1] at hx
     rw[hb'] at hx f2 f3
     have hbr:∃j,Ni σ (w++[j]) g b':=by
      obtain⟨j,hj,hv⟩:=Mr f2 (List.mem_singleton.2 rfl:b'∈[b'])
      rw[f3 j hj] at hv
      unfold Jg at hv
      split at hv
      ·cases hv
      ·exact⟨j,hc.br j hj _ hv⟩
     obtain⟨j,hbr⟩:=hbr
     rcases hbr with h'|h'
     ·exact absurd ⟨rfl,by omega,h'.1⟩ hx
     ·exact h'.1
theorem U7{level:Nat}{K:Int->Tr}(hX:Ec X)(hT:bW σ c.t)(i0:Inv X.H σ)(hi:qR σ i w g)(hm:oS σ m w g)(hs:bA σ m)(hl:level=w.length)(hf:Fur σ m h level)
  (hK:∀τ b,Le σ τ->Inv X.H τ->(b=0∨qR τ b (w++[sl h level]) g)->(Kc X σ c.t g->σ.ce (σ.nd i).main=m->b≠0/\qz τ i (sl h level) b/\FL c.t w.length σ τ/\∀b',lA (σ.nd m) ((sl h level:Nat):Int)=some b'->(σ.nd b').gen=g->τ=σ)->XT X (K b) n τ):XT X (E4 c i m (gY h level) g K) (n+20) σ:=by
 obtain⟨b,hlk,h2⟩:=hf
 have hc:=hm.sH i0 (mB hlk)
 have hk64:=yM h w.length
 subst hl
 rw[Bi hc.wl] at hlk ⊢
 have hb:=hc.br _ hk64 b (by rw[<- hc.lk hk64];exact hlk)
 refine cI hm.in.2 ?_
 try dsimp only
 rw[show(lA (σ.nd m) ((sl h w.length:Nat):Int)).getD 0=b by rw[hlk];rfl]
 refine cI hb.in.2 ?_
 try dsimp only
 split
 ·rename_i e
  rcases hb with h'|h'
  ·rw[h2] at h';exact absurd h'.1 (by decide)
  ·exact(hK σ b (Le.refl σ) i0 (.inr ⟨⟨h'.1,h'.2.1⟩,e⟩) λ so hma=>⟨by have:=dJ (N:=σ.mm.nodes) (i:=b) (by simp only[Kw.nd] at h2;rw[h2];decide);omega,⟨by rw[hma];exact hs,by rw[hma];exact hlk⟩,.refl _ _ _,λ _ _ _=>rfl⟩).mono (by omega)
 ·rename_i hgb
  refine pu hX hT i0 hi hm hs hc hk64 hlk h2 λ τ v l1 i1 hv hf=>hK τ v l1 i1 hv λ so hma=>?_
  obtain⟨h1,h3,h4⟩:=hf so hma
  exact⟨h1,h3,h4,λ b' hb' hg'=>absurd (by rw[hlk] at hb';cases hb';exact hg') hgb⟩
end
end
end Go.Proofs.YtbajmaoegmbfgaaGreat
