/- Procedures among others or alone: one attempt at a leaf, one level deeper. -/
import Derived.Test.YtadnboagdhcedaaGreatDoorGKx4

set_option linter.unusedSimpArgs false
set_option linter.unusedVariables false
namespace Go.Proofs.YtadnboagdhcedaaGreatDoor
section
open Go Go.RowKit Go.Ct
section
variable{X:Xp}{σ τ υ:Kw}{i m p g v:Int}{w:List Nat}{t:eA}{n:Nat}{c:Cl}{h:Nat}
abbrev KLx(X:Xp)(σ:Kw)(t:eA)(i m g:Int)(h level:Nat)(K:Rs->Int->Tr)(n:Nat):Prop:=∀τ r what,Le σ τ->Inv X.H τ->r.root=0->(what=0∨what=1∨(vz σ m h level/\τ=σ))->(Nu X σ t g->σ.ce (σ.nd i).main=m->what≠0)->XT X (K r what) n τ
theorem Ui{level:Nat}{K:Rs->Int->Tr}(hX:Fm X)(hT:bU σ c.t)(i0:Inv X.H σ)(hk:Sy X.H c h)(hi:nJ σ i w g)(hm:mE σ m w g)(hs:aX σ m)(hu:fV h w)(hl:level=w.length)(h5:(σ.nd m).kind≠5)(hK:KLx X σ c.t i m g h level K n):XT X (kM c i m h level g K) (n+10) σ:=by
 have hg:=hi.Ep i0
 have gc:∀{nd:Nv} {R:Rs},R.root=0->bT nd->∀υ,Le σ υ->Inv X.H υ->F8 σ υ->jG X.H υ nd w g->XT X (.alloc nd m λ r=>mX c.t i m r λ ok=>K R (if ok=true then 1 else 0)) (n+10) υ:=λ{nd R} hR hmk υ l1 i1 f1 hn =>
  gX hX.al i1 hn (vJ hmk (hm.up l1) (aX.up i0 hm.1 hs l1)) λ χ r l2 i2 a=>by
   have l:=l1.trans i0 i1 l2
   exact zY hX.toVo (hT.up l) i2 (hi.up l) (lY (cl:=0) hmk a.nd a.way a.gb) λ ψ ok l3 i3 hg=>hK ψ _ _ (l.trans i0 i2 l3) i3 hR (Za ok) λ so hma=>by
    rw[(hg (Cb i0 i1 hT hi hm l1 l2 f1 a hmk so hma)).t];decide
 have gr:∀{R:Rs} {k:Nat} {o r:Int},R.root=0->∀υ,Le σ υ->Inv X.H υ->F8 σ υ->k<64->jT (υ.nd m) (k:Int)=some o->Ja υ (w++[k]) g r->(0<w.length->(υ.nd m).xs.length=1->(υ.nd r).kind=2)->(υ.nd m).kind=3->XT X (Co m (k:Int) r λ n=>mX c.t i m n λ ok=>K R (if ok=true then 1 else 0)) (n+10) υ:=λ{R k o r} hR υ l1 i1 f1 hk64 ho hr h0 h3=>by
  have hm1:=hm.up l1
  refine X8 hX i1 hm1 (aX.up i0 hm.1 hs l1) (hm1.lJ i1 h3) hk64 ho hr h0 λ χ n l2 i2 hn a hmk _=>?_
  have l:=l1.trans i0 i1 l2
  exact zY hX.toVo (hT.up l) i2 (hi.up l) hn λ ψ ok l3 i3 hg=>hK ψ _ _ (l.trans i0 i2 l3) i3 hR (Za ok) λ so hma=>by
   rw[(hg (Cb i0 i1 hT hi hm l1 l2 f1 a hmk so hma)).t];decide
 refine cK hm.in.2 ?_
 try dsimp only
 split
 ·rename_i h6
  have hln:=hm.n7 i0 h6
  try dsimp only
  split
  ·have hh:=Xa hk.hl hln.hl hu hln.un hln.wl
   have:=ud (w:=w) (g:=g) i0 hln (k:=c.key) (u:=c.val) hk.sz (hk.ha.trans hh)
   exact gc rfl this.1 σ (Le.refl σ) i0 (.refl σ) this.2
  ·exact(hK σ _ _ (Le.refl σ) i0 rfl (.inr (.inl rfl)) λ _ _=>by decide).mono (by omega)
 ·rename_i h6
  have h3:(σ.nd m).kind=3:=by
   rcases hm.1 with h|h|h
   ·exact h
   ·exact absurd h h5
   ·exact absurd h h6
  have hc:=hm.lJ i0 h3
  have hlev:fT h (level:Int)=((sl h w.length:Nat):Int):=by rw[hl];exact Ap hc.wl
  have hk64:=tV h w.length
  have hu1:=rI hu
  have hsing:∀υ s cl,υ.nd s=cS (Ek h c.key c.val) cl->Ja υ (w++[sl h w.length]) g s:=λ υ s cl e=>.inl ⟨by rw[e];rfl,by rw[e];exact hu1⟩
  unfold KLx vz at hK
  rw[hlev] at hK ⊢
  cases hlk:jT (σ.nd m) ((sl h w.length:Nat):Int) with
  | none =>
   simp only[]
   try dsimp only
   split
   ·refine gX (w:=[]) (g:=0) hX.al i0 (yY i0 hk.sz hk.ha hk.hl) (pL i0 (λ e=>cY (a:=4) (b:=2) e)) λ υ s l1 i1 a=>?_
    have hc1:=hc.upL l1
    have hlk1:jT (υ.nd m) ((sl h w.length:Nat):Int)=none:=by rw[l1.nd hm.in.2];exact hlk
    obtain⟨f1,f2,f3,f4⟩:=hc1.ins hk64 hlk1 a.r1
    try dsimp only
    rw[<- l1.nd hm.in.2,f1]
    refine gc rfl (.inl rfl) υ l1 i1 a.Mk (lR i1 f2 (λ j hj v hv=>?_) hc.wl (λ h0=>⟨λ e=>?_,λ b hb=>?_⟩))
    ·rw[f3 j hj] at hv
     unfold Gp at hv
     split at hv
     ·rename_i ej;cases hv;rw[ej];exact hsing υ s _ a.nd
     ·exact hc1.br j hj v hv
    ·rw[e] at f4;simp at f4
    ·rw[hb] at f4
     have:=(hc1.ne h0).1
     cases hx:(σ.nd m).xs with
     | nil=>exact absurd hx this
     | cons _ _=>rw[hx] at f4;simp at f4
   ·exact(hK σ _ _ (Le.refl σ) i0 rfl (.inr (.inl rfl)) λ _ _=>by decide).mono (by omega)
  | some b =>
   simp only[]
   have hb:=hc.br _ hk64 b (by rw[<- hc.lk hk64];exact hlk)
   refine cK hb.in.2 ?_
   try dsimp only
   split
   ·rename_i h2
    exact(hK σ _ _ (Le.refl σ) i0 rfl (.inr (.inr ⟨⟨b,hlk,h2⟩,rfl⟩)) λ _ _=>by decide).mono (by omega)
   ·rename_i h2
    have hb4:(σ.nd b).kind=4/\fV (σ.nd b).hash.toNat (w++[sl h w.length]):=by
     rcases hb with h|h
     ·exact h
     ·exact absurd h.1 h2
    have hno:0<w.length->(σ.nd m).xs.length=1->False:=λ h0 h1=>by
     have hlt:(σ.nd m).xs=[b]:=by
      have hmem:=Rf hc.bv hk64 (x:=b) (by rw[<- hc.lk hk64];exact hlk)
      cases hx:(σ.nd m).xs with
      | nil=>rw[hx] at h1;simp at h1
      | cons a t =>
       rw[hx] at h1 hmem
       cases t with
       | nil=>rw[List.mem_singleton.1 hmem]
       | cons _ _=>simp at h1
     exact h2 ((hc.ne h0).2 b hlt)
    try dsimp only
    split
    ·try dsimp only
     split
     ·refine gX (w:=[]) (g:=0) hX.al i0 (yY i0 hk.sz hk.ha hk.hl) (pL i0 (λ e=>cY (a:=4) (b:=2) e)) λ υ s l1 i1 a=>?_
      exact gr rfl υ l1 i1 a.Mk hk64 (o:=b) (by rw[l1.nd hm.in.2];exact hlk) (hsing υ s _ a.nd) (λ h0 h1=>(hno h0 (by rw[<- l1.nd hm.in.2];exact h1)).elim) (by rw[l1.nd hm.in.2];exact h3)
     ·exact(hK σ _ _ (Le.refl σ) i0 rfl (.inr (.inl rfl)) λ _ _=>by decide).mono (by omega)
    ·rename_i hne
     try dsimp only
     split
     ·refine uz (w:=w++[sl h w.length]) hX i0 hb4.1 hb4.2 hu1 (by rw[List.length_append,hl];rfl) (by rw[List.length_append,List.length_singleton];have:=hc.wl;omega) hk.hl hk.ha hk.sz hg.1 hg.2.1 hne λ υ d l1 i1 fd hd hds=>?_
      refine xP hX i1 hg.1 (by have:=l1.gen;have:=hg.2.1;omega) (by rw[List.length_append,List.length_singleton];have:=hc.wl;omega) hd hds (Int.le_refl _) λ ρ j l2 i2 hj aj=>?_
      have l12:=l1.trans i0 i1 l2
      exact gr rfl ρ l12 i2 (fd.trans l1 aj.Mk) hk64 (o:=b) (by rw[l12.nd hm.in.2];exact hlk) (.inr ⟨hj.1.1,hj.1.2,by rw[hj.2];exact Int.le_refl _⟩) (λ _ _=>hj.1.1) (by rw[l12.nd hm.in.2];exact h3)
     ·exact(hK σ _ _ (Le.refl σ) i0 rfl (.inr (.inl rfl)) λ _ _=>by decide).mono (by omega)
theorem Ol{level:Nat}{K:Rs->Int->Tr}(hX:Fm X)(hT:bU σ c.t)(i0:Inv X.H σ)(hi:nJ σ i w g)(hm:mE σ m w g)(hs:aX σ m)(hu:fV h w)(hl:level=w.length)(h5:(σ.nd m).kind≠5)(hK:KLx X σ c.t i m g h level K n):XT X (jE c i m h level K) (n+10) σ:=by
 have gc:∀{nd:Nv} {R:Rs},R.root=0->bT nd->jG X.H σ nd w g->XT X (.alloc nd m λ r=>mX c.t i m r λ ok=>K R (if ok=true then 1 else 0)) (n+10) σ:=λ{nd R} hR hmk hn =>
  gX hX.al i0 hn (vJ hmk hm hs) λ χ r l2 i2 a =>
   zY hX.toVo (hT.up l2) i2 (hi.up l2) (lY (cl:=0) hmk a.nd a.way a.gb) λ ψ ok l3 i3 hg=>hK ψ _ _ (l2.trans i0 i2 l3) i3 hR (Za ok) λ so hma=>by
    rw[(hg (Cb i0 i0 hT hi hm (Le.refl σ) l2 (.refl σ) a hmk so hma)).t];decide
 refine cK hm.in.2 ?_
 try dsimp only
 split
 ·rename_i h6
  have hln:=hm.n7 i0 h6
  try dsimp only
  split
  ·exact(hK σ _ _ (Le.refl σ) i0 rfl (.inr (.inl rfl)) λ _ _=>by decide).mono (by omega)
  ·rename_i hn
   have hf:(dG (σ.nd m).ys c.key).isSome=true:=by
    cases hx:(dG (σ.nd m).ys c.key).isSome with
    | true=>rfl
    | false=>exact absurd (.inl hx) hn
   have:=rl (w:=w) (g:=g) i0 hln (k:=c.key) hf
   exact gc rfl this.1 this.2
 ·rename_i h6
  have h3:(σ.nd m).kind=3:=by
   rcases hm.1 with h|h|h
   ·exact h
   ·exact absurd h h5
   ·exact absurd h h6
  have hc:=hm.lJ i0 h3
  have hlev:fT h (level:Int)=((sl h w.length:Nat):Int):=by rw[hl];exact Ap hc.wl
  have hk64:=tV h w.length
  unfold KLx vz at hK
  rw[hlev] at hK ⊢
  cases hlk:jT (σ.nd m) ((sl h w.length:Nat):Int) with
  | none =>
   simp only[]
   exact(hK σ _ _ (Le.refl σ) i0 rfl (.inr (.inl rfl)) λ _ _=>by decide).mono (by omega)
  | some b =>
   simp only[]
   have hb:=hc.br _ hk64 b (by rw[<- hc.lk hk64];exact hlk)
   refine cK hb.in.2 ?_
   try dsimp only
   split
   ·rename_i h2
    exact(hK σ _ _ (Le.refl σ) i0 rfl (.inr (.inr ⟨⟨b,hlk,h2⟩,rfl⟩)) λ _ _=>by decide).mono (by omega)
   rename_i h2
   try dsimp only
   split
   ·exact(hK σ _ _ (Le.refl σ) i0 rfl (.inr (.inl rfl)) λ _ _=>by decide).mono (by omega)
   try dsimp only
   split
   ·exact(hK σ _ _ (Le.refl σ) i0 rfl (.inr (.inl rfl)) λ _ _=>by decide).mono (by omega)
   obtain⟨f1,f2,f3,f4⟩:=hc.re hk64 hlk
   have hso:(Iz (Kn (σ.nd m) ((sl h w.length:Nat):Int))).getD 0<=σ.len:=by
    rw[f1,Jh f2]
    try dsimp only
    split
    ·rename_i e1
     have hmem:(qG (σ.nd m).xs (eM (σ.nd m).bm.toNat (sl h w.length))).getD 0 0∈qG (σ.nd m).xs (eM (σ.nd m).bm.toNat (sl h w.length)):=Ay (by omega)
     obtain⟨j,hj,hv⟩:=Il f2 hmem
     rw[f3 j hj] at hv
     unfold Gp at hv
     split at hv
     ·cases hv
     ·exact(hc.br j hj _ hv).in.2
    ·exact bF _
   refine cK hso ?_
   try dsimp only
   rw[f1] at hso ⊢
   rw[Z7 f2]
   try dsimp only
   split
   ·rename_i hx
    have e1:=hx.1
    rw[Jh f2,if_pos e1] at hx ⊢
    simp only[Option.getD_some] at hx ⊢
    generalize hs0:(qG (σ.nd m).xs (eM (σ.nd m).bm.toNat (sl h w.length))).getD 0 0=s at hx ⊢
    have hmem:s∈qG (σ.nd m).xs (eM (σ.nd m).bm.toNat (sl h w.length)):=by rw[<- hs0];exact Ay (by omega)
    obtain⟨j,hj,hv⟩:=Il f2 hmem
    have hbr:Ja σ (w++[j]) g s:=by
     rw[f3 j hj] at hv
     unfold Gp at hv
     split at hv
     ·cases hv
     ·exact hc.br j hj _ hv
    have hlf:=i0.leaf (.inl hx.2.2)
    have hus:fV (σ.nd s).hash.toNat (w++[j]):=by
     rcases hbr with h'|h'
     ·exact h'.2
     ·have:=h'.1;have:=hx.2.2;omega
    have e5:tmV (σ.nd s)=Xj (((σ.nd s).hash.toNat:Nat):Int) (σ.nd s).key (σ.nd s).val:=by rw[<- hlf.hn];rfl
    rw[e5]
    exact gc rfl (.inr (.inl rfl)) (E1 i0 hlf.sz hlf.ha hlf.hl (by omega) (by have:=hc.wl;omega) (H3 hus))
   ·rename_i hx
    refine gc rfl (.inl rfl) (lR i0 f2 (λ j hj v hv=>?_) hc.wl (λ h0=>⟨λ e=>?_,λ b' hb'=>?_⟩))
    ·rw[f3 j hj] at hv
     unfold Gp at hv
     split at hv
     ·cases hv
     ·exact hc.br j hj v hv
    ·rw[e] at f4
     have h1:(σ.nd m).xs.length=1:=by simpa using f4.symm
     have hlt:(σ.nd m).xs=[b]:=by
      have hmem:=Rf hc.bv hk64 (x:=b) (by rw[<- hc.lk hk64];exact hlk)
      cases hxs:(σ.nd m).xs with
      | nil=>rw[hxs] at h1;simp at h1
      | cons a t =>
       rw[hxs] at h1 hmem
       cases t with
       | nil=>rw[List.mem_singleton.1 hmem]
       | cons _ _=>simp at h1
     exact h2 ((hc.ne h0).2 b hlt)
    ·have e1:(qG (σ.nd m).xs (eM (σ.nd m).bm.toNat (sl h w.length))).length=1:=by rw[hb'];rfl
     rw[Jh f2,if_pos e1] at hx
     rw[hb'] at hx f2 f3
     have hbr:∃j,Ja σ (w++[j]) g b':=by
      obtain⟨j,hj,hv⟩:=Il f2 (List.mem_singleton.2 rfl:b'∈[b'])
      rw[f3 j hj] at hv
      unfold Gp at hv
      split at hv
      ·cases hv
      ·exact⟨j,hc.br j hj _ hv⟩
     obtain⟨j,hbr⟩:=hbr
     rcases hbr with h'|h'
     ·exact absurd ⟨rfl,by omega,h'.1⟩ hx
     ·exact h'.1
theorem Sh{level:Nat}{K:Int->Tr}(hX:Fm X)(hT:bU σ c.t)(i0:Inv X.H σ)(hi:nJ σ i w g)(hm:mE σ m w g)(hs:aX σ m)(hl:level=w.length)(hf:vz σ m h level)
  (hK:∀τ b,Le σ τ->Inv X.H τ->(b=0∨nJ τ b (w++[sl h level]) g)->(Nu X σ c.t g->σ.ce (σ.nd i).main=m->b≠0/\jn τ i (sl h level) b/\FL c.t w.length σ τ/\∀b',jT (σ.nd m) ((sl h level:Nat):Int)=some b'->(σ.nd b').gen=g->τ=σ)->XT X (K b) n τ):XT X (Es c i m (fT h level) g K) (n+20) σ:=by
 obtain⟨b,hlk,h2⟩:=hf
 have hc:=hm.lJ i0 (kZ hlk)
 have hk64:=tV h w.length
 subst hl
 rw[Ap hc.wl] at hlk ⊢
 have hb:=hc.br _ hk64 b (by rw[<- hc.lk hk64];exact hlk)
 refine cK hm.in.2 ?_
 try dsimp only
 rw[show(jT (σ.nd m) ((sl h w.length:Nat):Int)).getD 0=b by rw[hlk];rfl]
 refine cK hb.in.2 ?_
 try dsimp only
 split
 ·rename_i e
  rcases hb with h'|h'
  ·rw[h2] at h';exact absurd h'.1 (by decide)
  ·exact(hK σ b (Le.refl σ) i0 (.inr ⟨⟨h'.1,h'.2.1⟩,e⟩) λ so hma=>⟨by have:=dD (N:=σ.mm.nodes) (i:=b) (by simp only[Kw.nd] at h2;rw[h2];decide);omega,⟨by rw[hma];exact hs,by rw[hma];exact hlk⟩,.refl _ _ _,λ _ _ _=>rfl⟩).mono (by omega)
 ·rename_i hgb
  refine jx hX hT i0 hi hm hs hc hk64 hlk h2 λ τ v l1 i1 hv hf=>hK τ v l1 i1 hv λ so hma=>?_
  obtain⟨h1,h3,h4⟩:=hf so hma
  exact⟨h1,h3,h4,λ b' hb' hg'=>absurd (by rw[hlk] at hb';cases hb';exact hg') hgb⟩
end
end

/- Procedures among others or alone: the settled path of a hash value; PUT. -/
section
open Go Go.RowKit Go.Ct
section
variable{X:Xp}{σ τ υ:Kw}{i m p g v:Int}{w:List Nat}{t:eA}{n:Nat}{c:Cl}{h:Nat}{H:ByteArray->Nat}
def SP(σ:Kw)(t:eA)(h:Nat)(g:Int):Nat->Int->Prop
 | 0,i=>σ.ce t.root=i/\(σ.nd i).kind=2/\(σ.way i).length=0
 | l+1,i=>(∃p,SP σ t h g l p/\jn σ p (sl h l) i)/\(σ.nd i).kind=2/\(σ.nd i).gen=g/\(σ.way i).length=l+1
theorem SP.k2:∀{l:Nat} {i:Int},SP σ t h g l i->(σ.nd i).kind=2
 | 0,_,h=>h.2.1
 | _+1,_,h=>h.2.1
theorem SP.len:∀{l:Nat} {i:Int},SP σ t h g l i->(σ.way i).length=l
 | 0,_,h=>h.2.2
 | _+1,_,h=>h.2.2.2
theorem SP.gen(so:Nu X σ t g):∀{l:Nat} {i:Int},SP σ t h g l i->(σ.nd i).gen=g
 | 0,_,h=>by rw[<- h.1];exact so.gen
 | _+1,_,h=>h.2.2.1
theorem SP.yp:∀{l:Nat} {i j:Int},SP σ t h g l i->SP σ t h g l j->i=j
 | 0,_,_,h1,h2=>h1.1.symm.trans h2.1
 | l+1,i,j,h1,h2=>by
  obtain⟨p,hp,lp⟩:=h1.1
  obtain⟨q,hq,lq⟩:=h2.1
  have e:=SP.yp hp hq
  subst e
  have:=lp.lk.symm.trans lq.lk
  exact Option.some.inj this
theorem SP.down:∀{d l:Nat} {i j:Int},SP σ t h g (l+d+1) j->SP σ t h g l i->∃b,jn σ i (sl h l) b/\(σ.nd b).kind=2/\(σ.nd b).gen=g
 | 0,l,i,j,h1,h2=>by
  obtain⟨p,hp,lp⟩:=h1.1
  have e:=SP.yp hp h2
  subst e
  exact⟨j,lp,h1.2.1,h1.2.2.1⟩
 | d+1,l,i,j,h1,h2=>by
  obtain⟨p,hp,_⟩:=h1.1
  exact SP.down (d:=d) hp h2
theorem jn.up{k:Nat}{b:Int}(i0:Inv H σ)(l:Le σ τ)(hk:(σ.nd p).kind=2)(e:τ.ce (σ.nd p).main=σ.ce (σ.nd p).main)(h:jn σ p k b):jn τ p k b:=by
 have hm:=nJ.Yq (i:=p) (w:=σ.way p) (g:=(σ.nd p).gen) i0 ⟨⟨hk,rfl⟩,rfl⟩
 have en:=l.nd (iP hk)
 have e2:τ.ce (τ.nd p).main=σ.ce (σ.nd p).main:=by rw[en];exact e
 exact⟨by rw[e2];exact aX.up i0 hm.1 h.st l,by rw[e2,l.nd hm.in.2];exact h.lk⟩
theorem SP.fl{L:Nat}(i0:Inv H σ)(l1:Le σ τ)(f:FL t L σ τ):∀{l:Nat} {i:Int},l<=L->SP σ t h g l i->SP τ t h g l i
 | 0,i,_,hs=>⟨by rw[f.root];exact hs.1,by rw[l1.nd (iP hs.2.1)];exact hs.2.1,by rw[l1.way _ (iP hs.2.1)];exact hs.2.2⟩
 | l+1,i,hl,hs=>by
  obtain⟨p,hp,lp⟩:=hs.1
  exact⟨⟨p,SP.fl i0 l1 f (by omega) hp,lp.up i0 l1 hp.k2 (f.main p hp.k2 (by rw[hp.len];omega))⟩,by rw[l1.nd (iP hs.2.1)];exact hs.2.1,by rw[l1.nd (iP hs.2.1)];exact hs.2.2.1,by rw[l1.way _ (iP hs.2.1)];exact hs.2.2.2⟩
def Ed(σ:Kw)(t:eA)(h:Nat)(g:Int)(J:Nat):Prop:=∃i,SP σ t h g J i/\Wg σ i (sl h J)
structure PS(X:Xp)(σ:Kw)(t:eA)(h:Nat)(g:Int)(J:Nat)(i:Int)(level:Nat):Prop where
 so:Nu X σ t g
 sp:SP σ t h g level i
 ed:J=12∨Ed σ t h g J
 le:level<=J
theorem PS.st{J level:Nat}(q:PS X σ t h g J i level):J=12∨aX σ (σ.ce (σ.nd i).main):=by
 rcases q.ed with e|⟨j,h1,h2⟩
 ·exact .inl e
 ·refine .inr ?_
  by_cases hl:level=J
  ·subst hl
   have e:=SP.yp h1 q.sp
   subst e
   exact h2.st
  ·have hle:=q.le
   obtain⟨d,hd⟩:∃d,J=level+d+1:=⟨J-level-1,by omega⟩
   subst hd
   obtain⟨b,hb,_⟩:=SP.down h1 q.sp
   exact hb.st
theorem PS.read{J level:Nat}(i0:Inv X.H σ)(hT:bU σ t)(l:Le σ τ)(fr:RdF X σ τ t i m)(q:PS X σ t h g J i level):PS X τ t h g J i level/\τ.ce (σ.nd i).main=m/\FL t level σ τ:=by
 have fs:=fr.s q.so.b q.so.k2
 have f:FL t level σ τ:=by
  have:=It hT i0 fs.2
  rwa [q.sp.len] at this
 refine⟨⟨q.so.fl i0 hT l f,q.sp.fl i0 l f (Nat.le_refl _),?_,q.le⟩,fs.1,f⟩
 rcases q.st with e|e
 ·exact .inl e
 ·have e2:=(fr.e q.so.b e).1
  rw[e2]
  exact q.ed
theorem PS.cu{J level:Nat}{b:Int}(i0:Inv X.H σ)(hT:bU σ t)(hi:nJ σ i w g)(hm:mE σ m w g)(hl:level=w.length)(hma:σ.ce (σ.nd i).main=m)(hf:vz σ m h level)(l:Le σ τ)(hb:nJ τ b (w++[sl h level]) g)
  (hlk:jn τ i (sl h level) b) (f:FL t w.length σ τ) (hs:∀b',jT (σ.nd m) ((sl h level:Nat):Int)=some b'->(σ.nd b').gen=g->τ=σ) (q:PS X σ t h g J i level):PS X τ t h g J b (level+1):=by
 obtain⟨b0,hb0,hk0⟩:=hf
 have hwl:w.length<=10:=(hm.lJ i0 (kZ hb0)).wl
 have hlev:fT h (level:Int)=((sl h level:Nat):Int):=Ap (by omega)
 rw[hlev] at hb0
 rw[<- hl] at f
 have hne:J≠12->level≠J:=λ h12 e=>by
  rcases q.ed with e2|⟨j,h1,h2⟩
  ·exact h12 e2
  ·subst e
   have e:=SP.yp h1 q.sp
   subst e
   exact h2.no b0 (by rw[hma];exact hb0) hk0
 have hle:=q.le
 refine⟨q.so.fl i0 hT l f,⟨⟨i,q.sp.fl i0 l f (Nat.le_refl _),hlk⟩,hb.1.1,hb.2,by rw[hb.1.2,List.length_append,hl];rfl⟩,?_,by by_cases h12:J=12;omega;have:=hne h12;omega⟩
 by_cases h12:J=12
 ·exact .inl h12
 ·have:=hne h12
  rcases q.ed with e2|⟨j,h1,h2⟩
  ·exact .inl e2
  ·obtain⟨d,hd⟩:∃d,J=level+d+1:=⟨J-level-1,by omega⟩
   have h1':=h1
   rw[hd] at h1'
   obtain⟨b',lb,_,gb⟩:=SP.down h1' q.sp
   have e:=hs b' (by rw[<- hma];exact lb.lk) gb
   rw[e]
   exact .inr ⟨j,h1,h2⟩
theorem PS.clean{J level:Nat}{w0:List Nat}{g0:Int}(i0:Inv X.H σ)(hT:bU σ t)(hpn:nJ σ p w0 g0)(hw:level=w0.length+1)(hsp:SP σ t h g (level-1) p)(hma:σ.ce (σ.nd i).main=m)(hs:aX σ m)(h5:(σ.nd m).kind=5)(l:Le σ τ)(q:PS X σ t h g J i level)
  (hc:ClS X σ t g0 p i (sl h w0.length)->Wg τ p (sl h w0.length)/\FL t w0.length σ τ):Nu X τ t g/\∃j,j<J/\Ed τ t h g j:=by
 have hl1:level-1=w0.length:=by omega
 have hsp':=q.sp
 rw[hw] at hsp'
 obtain⟨p',hp',lp⟩:=hsp'.1
 rw[hl1] at hsp
 have e:=SP.yp hp' hsp
 subst e
 have hg:g0=g:=hpn.2.symm.trans (SP.gen q.so hsp)
 subst hg
 obtain⟨r1,r2⟩:=hc ⟨q.so,lp,by rw[hma];exact hs,by rw[hma];exact h5⟩
 have:=q.le
 exact⟨q.so.fl i0 hT l r2,w0.length,by omega,p',hsp.fl i0 l r2 (Nat.le_refl _),r1⟩
theorem Td{J nn:Nat}{σ0:Kw}{K:Rs->Tr}{again:Tr}(hX:Fm X)(hT:bU σ0 c.t)(i00:Inv X.H σ0)(hk:Sy X.H c h)(hK:∀τ r,Le σ0 τ->Inv X.H τ->r.root=0->XT X (K r) nn τ)
  (hA:∀τ,Le σ0 τ->Inv X.H τ->(X.b=false->Nu X τ c.t g/\∃j,j<J/\Ed τ c.t h g j)->XT X again nn τ):∀(q:Nat) (σ:Kw) (i parent:Int) (w:List Nat) (level:Nat),Le σ0 σ->Inv X.H σ->nJ σ i w g->fV h w->level=w.length->(0<w.length->∃w0 g0,nJ σ parent w0 g0/\w.length=w0.length+1) ->
  (X.b=false->PS X σ c.t h g J i level/\(0<level->SP σ c.t h g (level-1) parent))->XT X (Bh c h K again g q i parent level) (nn+40*(12-level)) σ
 | 0,_,_,_,_,_,_,_,_,_,_,_,_=>trivial
 | q+1,σ,i,parent,w,level,l,i1,hi,hu,hl,hp,hs0=>by
  have hw:=(hi.Ep i1).2.2
  have hT1:=hT.up l
  have e:nn+40*(12-level)=(nn+40*(11-level)+30)+10:=by omega
  rw[e]
  refine nD hX.toVo hT1 i1 hi λ τ m l1 i2 hm hs fr=>cK hm.in.2 ?_
  have l01:=l.trans i00 i1 l1
  have hi2:=hi.up l1
  have eni:(τ.nd i).main=(σ.nd i).main:=by rw[l1.nd hi.in.2]
  have hps:X.b=false->PS X τ c.t h g J i level/\τ.ce (τ.nd i).main=m/\(0<level->SP τ c.t h g (level-1) parent):=λ hb=>by
   obtain⟨q1,q2⟩:=hs0 hb
   obtain⟨r1,r2,r3⟩:=q1.read i1 hT1 l1 fr
   exact⟨r1,by rw[eni];exact r2,λ h0=>(q2 h0).fl i1 l1 r3 (by omega)⟩
  try dsimp only
  split
  ·rename_i h5
   have h0:=((i2.nd m hm.in.1 hm.in.2).k5 h5).1
   rw[hm.2.1] at h0
   obtain⟨w0,g0,hp1,hp2⟩:=hp h0
   refine(I5 hX (n:=nn+40*(11-level)) (hT.up l01) i2 (hp1.up l1) (by omega) hi2.1.1 λ υ _ l2 i3 hc=>(hA υ (l01.trans i00 i2 l2) i3 λ hb=>?_).mono (by omega))
   obtain⟨r1,r2,r3⟩:=hps hb
   exact r1.clean i2 (hT.up l01) (hp1.up l1) (by omega) (r3 (by omega)) r2 hs h5 l2 hc
  ·rename_i h5
   refine(Ui hX (n:=nn+40*(11-level)+20) (hT.up l01) i2 hk hi2 hm hs hu hl h5 λ υ r what l2 i3 hr hf hw0=>?_)
   have l02:=l01.trans i00 i2 l2
   try dsimp only
   split
   ·exact(hK υ r l02 i3 hr).mono (by omega)
   try dsimp only
   split
   ·rename_i hz
    refine(hA υ l02 i3 λ hb=>?_).mono (by omega)
    obtain⟨r1,r2,r3⟩:=hps hb
    exact absurd hz (hw0 r1.so r2)
   rename_i hw1 hw2
   have hfu:vz τ m h level/\υ=τ:=by
    rcases hf with h|h|h
    ·exact absurd h hw2
    ·exact absurd h hw1
    ·exact h
   obtain⟨hfu,eυ⟩:=hfu
   subst eυ
   refine Sh hX (hT.up l01) i2 hi2 hm hs hl hfu λ χ b l3 i4 hb hbf=>?_
   have l03:=l01.trans i00 i2 l3
   try dsimp only
   split
   ·rename_i hb0
    refine(hA χ l03 i4 λ hx=>?_).mono (by omega)
    obtain⟨r1,r2,r3⟩:=hps hx
    exact absurd hb0 (hbf r1.so r2).1
   ·rename_i hb0
    rcases hb with hb|hb
    ·exact absurd hb hb0
    ·have hu2:fV h (w++[sl h level]):=by rw[hl];exact rI hu
     have e2:nn+40*(11-level)=nn+40*(12-(level+1)):=by omega
     rw[e2]
     refine Td hX hT i00 hk hK hA q χ b i (w++[sl h level]) (level+1) l03 i4 hb hu2 (by rw[List.length_append,hl];rfl) (λ _=>⟨w,g,hi2.up l3,by rw[List.length_append];rfl⟩) λ hx=>?_
     obtain⟨r1,r2,r3⟩:=hps hx
     obtain⟨b1,b2,b3,b4⟩:=hbf r1.so r2
     exact⟨r1.cu i2 (hT.up l01) hi2 hm hl r2 hfu l3 hb b2 b3 b4,λ _=>r1.sp.fl i2 l3 b3 (by omega)⟩
theorem oi{σ0:Kw}{K:Rs->Tr}(hX:Fm X)(hb:X.b=true)(hC:500<=X.C)(hAp:∀q,X.A (Ak c h K (q+1)))(hT:bU σ0 c.t)(i00:Inv X.H σ0)(hk:Sy X.H c h)(hK:∀τ r,Le σ0 τ->Inv X.H τ->r.root=0->XT X (K r) 0 τ):∀(q:Nat) (σ:Kw),Le σ0 σ->Inv X.H σ->XT X (Ak c h K q) 0 σ
 | 0,_,_,_=>trivial
 | q+1,σ,l,i1=>by
  have hbf:∀{p:Prop},X.b=false->p:=λ h=>by rw[hb] at h;cases h
  refine XT.fresh (hAp q) ?_
  refine XT.mono (show 0+480+15<=X.C+1 by omega) ?_
  refine zU hX.toVo (hT.up l) i1 λ τ i l1 i2 hi _=>cK hi.in.2 ?_
  have l01:=l.trans i00 i1 l1
  exact Td (J:=12) (g:=(τ.nd i).gen) hX hT i00 hk hK (λ υ l2 i3 _=>oi hX hb hC hAp hT i00 hk hK q υ l2 i3) q τ i 0 [] 0 l01 i2 ⟨hi,rfl⟩ (Tu h) rfl (λ h=>absurd h (by decide)) hbf
end
end

end Go.Proofs.YtadnboagdhcedaaGreatDoor
