/- Procedures among others or alone: one attempt at a leaf, one level deeper. -/
import Derived.Test.YtadnboagdhcedaaGreatDoorGKx4

set_option linter.unusedSimpArgs false
set_option linter.unusedVariables false
namespace Go.Proofs.YtadnboagdhcedaaGreatDoor
section
open Go Go.RowKit Go.Ct
section
variable{X:Xp}{σ τ υ:Kw}{i m p g v:Int}{w:List Nat}{t:eQ}{n:Nat}{c:Cl}{h:Nat}
abbrev xz(X:Xp)(σ:Kw)(t:eQ)(i m g:Int)(h level:Nat)(K:Rs->Int->Tr)(n:Nat):Prop:=∀τ r what,Le σ τ->Inv X.H τ->r.root=0->(what=0∨what=1∨(qh σ m h level/\τ=σ))->(Mb X σ t g->σ.ce (σ.nd i).main=m->what≠0)->XT X (K r what) n τ
theorem Ty{level:Nat}{K:Rs->Int->Tr}(hX:Ek X)(hT:bR σ c.t)(i0:Inv X.H σ)(hk:Qr X.H c h)(hi:mU σ i w g)(hm:lP σ m w g)(hs:aV σ m)(hu:fO h w)(hl:level=w.length)(h5:(σ.nd m).kind≠5)(hK:xz X σ c.t i m g h level K n):XT X (kF c i m h level g K) (n+10) σ:=by
 have hg:=hi.Cd i0
 have gc:∀{nd:Nv} {R:Rs},R.root=0->bU nd->∀υ,Le σ υ->Inv X.H υ->Eu σ υ->iX X.H υ nd w g->XT X (.alloc nd m λ r=>mA c.t i m r λ ok=>K R (if ok=true then 1 else 0)) (n+10) υ:=λ{nd R} hR hmk υ l1 i1 f1 hn =>
  gP hX.al i1 hn (uB hmk (hm.up l1) (aV.up i0 hm.1 hs l1)) λ χ r l2 i2 a=>by
   have l:=l1.trans i0 i1 l2
   exact zL hX.toSk (hT.up l) i2 (hi.up l) (lS (cl:=0) hmk a.nd a.way a.gb) λ ψ ok l3 i3 hg=>hK ψ _ _ (l.trans i0 i2 l3) i3 hR (Zk ok) λ so hma=>by
    rw[(hg (Bi i0 i1 hT hi hm l1 l2 f1 a hmk so hma)).t];decide
 have gr:∀{R:Rs} {k:Nat} {o r:Int},R.root=0->∀υ,Le σ υ->Inv X.H υ->Eu σ υ->k<64->jF (υ.nd m) (k:Int)=some o->Hy υ (w++[k]) g r->(0<w.length->(υ.nd m).xs.length=1->(υ.nd r).kind=2)->(υ.nd m).kind=3->XT X (Cq m (k:Int) r λ n=>mA c.t i m n λ ok=>K R (if ok=true then 1 else 0)) (n+10) υ:=λ{R k o r} hR υ l1 i1 f1 hk64 ho hr h0 h3=>by
  have hm1:=hm.up l1
  refine X6 hX i1 hm1 (aV.up i0 hm.1 hs l1) (hm1.kY i1 h3) hk64 ho hr h0 λ χ n l2 i2 hn a hmk _=>?_
  have l:=l1.trans i0 i1 l2
  exact zL hX.toSk (hT.up l) i2 (hi.up l) hn λ ψ ok l3 i3 hg=>hK ψ _ _ (l.trans i0 i2 l3) i3 hR (Zk ok) λ so hma=>by
   rw[(hg (Bi i0 i1 hT hi hm l1 l2 f1 a hmk so hma)).t];decide
 refine cG hm.in.2 ?_
 try dsimp only
 split
 ·rename_i h6
  have hln:=hm.kj i0 h6
  try dsimp only
  split
  ·have hh:=Xf hk.hl hln.hl hu hln.un hln.wl
   have:=rq (w:=w) (g:=g) i0 hln (k:=c.key) (u:=c.val) hk.sz (hk.ha.trans hh)
   exact gc rfl this.1 σ (Le.refl σ) i0 (.refl σ) this.2
  ·exact(hK σ _ _ (Le.refl σ) i0 rfl (.inr (.inl rfl)) λ _ _=>by decide).mono (by omega)
 ·rename_i h6
  have h3:(σ.nd m).kind=3:=by
   rcases hm.1 with h|h|h
   ·exact h
   ·exact absurd h h5
   ·exact absurd h h6
  have hc:=hm.kY i0 h3
  have hlev:fM h (level:Int)=((sl h w.length:Nat):Int):=by rw[hl];exact yZ hc.wl
  have hk64:=tM h w.length
  have hu1:=qR hu
  have hsing:∀υ s cl,υ.nd s=cO (Cx h c.key c.val) cl->Hy υ (w++[sl h w.length]) g s:=λ υ s cl e=>.inl ⟨by rw[e];rfl,by rw[e];exact hu1⟩
  unfold xz qh at hK
  rw[hlev] at hK ⊢
  cases hlk:jF (σ.nd m) ((sl h w.length:Nat):Int) with
  | none =>
   simp only[]
   try dsimp only
   split
   ·refine gP (w:=[]) (g:=0) hX.al i0 (xV i0 hk.sz hk.ha hk.hl) (oQ i0 (λ e=>cX (a:=4) (b:=2) e)) λ υ s l1 i1 a=>?_
    have hc1:=hc.y5 l1
    have hlk1:jF (υ.nd m) ((sl h w.length:Nat):Int)=none:=by rw[l1.nd hm.in.2];exact hlk
    obtain⟨f1,f2,f3,f4⟩:=hc1.ins hk64 hlk1 a.r1
    try dsimp only
    rw[<- l1.nd hm.in.2,f1]
    refine gc rfl (.inl rfl) υ l1 i1 a.Kb (lM i1 f2 (λ j hj v hv=>?_) hc.wl (λ h0=>⟨λ e=>?_,λ b hb=>?_⟩))
    ·rw[f3 j hj] at hv
     unfold Ff at hv
     split at hv
     ·rename_i ej;cases hv;rw[ej];exact hsing υ s _ a.nd
     ·exact hc1.br j hj v hv
    ·rw[e] at f4;simp at f4
    ·rw[hb] at f4
     have:=(hc1.ne h0).1
     cases hx:(σ.nd m).xs with
     | nil=>exact absurd hx this
     | cons _ _=>rw[hx] at f4;simp at f4
   ·exact(hK σ _ _ (Le.refl σ) i0 rfl (.inr (.inl rfl)) λ _ _=>by decide).mono (by omega)
  | some b =>
   simp only[]
   have hb:=hc.br _ hk64 b (by rw[<- hc.lk hk64];exact hlk)
   refine cG hb.in.2 ?_
   try dsimp only
   split
   ·rename_i h2
    exact(hK σ _ _ (Le.refl σ) i0 rfl (.inr (.inr ⟨⟨b,hlk,h2⟩,rfl⟩)) λ _ _=>by decide).mono (by omega)
   ·rename_i h2
    have hb4:(σ.nd b).kind=4/\fO (σ.nd b).hash.toNat (w++[sl h w.length]):=by
     rcases hb with h|h
     ·exact h
     ·exact absurd h.1 h2
    have hno:0<w.length->(σ.nd m).xs.length=1->False:=λ h0 h1=>by
     have hlt:(σ.nd m).xs=[b]:=by
      have hmem:=Pn hc.bv hk64 (x:=b) (by rw[<- hc.lk hk64];exact hlk)
      cases hx:(σ.nd m).xs with
      | nil=>rw[hx] at h1;simp at h1
      | cons a t =>
       rw[hx] at h1 hmem
       cases t with
       | nil=>rw[List.mem_singleton.1 hmem]
       | cons _ _=>simp at h1
     exact h2 ((hc.ne h0).2 b hlt)
    try dsimp only
    split
    ·try dsimp only
     split
     ·refine gP (w:=[]) (g:=0) hX.al i0 (xV i0 hk.sz hk.ha hk.hl) (oQ i0 (λ e=>cX (a:=4) (b:=2) e)) λ υ s l1 i1 a=>?_
      exact gr rfl υ l1 i1 a.Kb hk64 (o:=b) (by rw[l1.nd hm.in.2];exact hlk) (hsing υ s _ a.nd) (λ h0 h1=>(hno h0 (by rw[<- l1.nd hm.in.2];exact h1)).elim) (by rw[l1.nd hm.in.2];exact h3)
     ·exact(hK σ _ _ (Le.refl σ) i0 rfl (.inr (.inl rfl)) λ _ _=>by decide).mono (by omega)
    ·rename_i hne
     try dsimp only
     split
     ·refine r8 (w:=w++[sl h w.length]) hX i0 hb4.1 hb4.2 hu1 (by rw[List.length_append,hl];rfl) (by rw[List.length_append,List.length_singleton];have:=hc.wl;omega) hk.hl hk.ha hk.sz hg.1 hg.2.1 hne λ υ d l1 i1 fd hd hds=>?_
      refine wK hX i1 hg.1 (by have:=l1.gen;have:=hg.2.1;omega) (by rw[List.length_append,List.length_singleton];have:=hc.wl;omega) hd hds (Int.le_refl _) λ ρ j l2 i2 hj aj=>?_
      have l12:=l1.trans i0 i1 l2
      exact gr rfl ρ l12 i2 (fd.trans l1 aj.Kb) hk64 (o:=b) (by rw[l12.nd hm.in.2];exact hlk) (.inr ⟨hj.1.1,hj.1.2,by rw[hj.2];exact Int.le_refl _⟩) (λ _ _=>hj.1.1) (by rw[l12.nd hm.in.2];exact h3)
     ·exact(hK σ _ _ (Le.refl σ) i0 rfl (.inr (.inl rfl)) λ _ _=>by decide).mono (by omega)
theorem N4{level:Nat}{K:Rs->Int->Tr}(hX:Ek X)(hT:bR σ c.t)(i0:Inv X.H σ)(hi:mU σ i w g)(hm:lP σ m w g)(hs:aV σ m)(hu:fO h w)(hl:level=w.length)(h5:(σ.nd m).kind≠5)(hK:xz X σ c.t i m g h level K n):XT X (iU c i m h level K) (n+10) σ:=by
 have gc:∀{nd:Nv} {R:Rs},R.root=0->bU nd->iX X.H σ nd w g->XT X (.alloc nd m λ r=>mA c.t i m r λ ok=>K R (if ok=true then 1 else 0)) (n+10) σ:=λ{nd R} hR hmk hn =>
  gP hX.al i0 hn (uB hmk hm hs) λ χ r l2 i2 a =>
   zL hX.toSk (hT.up l2) i2 (hi.up l2) (lS (cl:=0) hmk a.nd a.way a.gb) λ ψ ok l3 i3 hg=>hK ψ _ _ (l2.trans i0 i2 l3) i3 hR (Zk ok) λ so hma=>by
    rw[(hg (Bi i0 i0 hT hi hm (Le.refl σ) l2 (.refl σ) a hmk so hma)).t];decide
 refine cG hm.in.2 ?_
 try dsimp only
 split
 ·rename_i h6
  have hln:=hm.kj i0 h6
  try dsimp only
  split
  ·exact(hK σ _ _ (Le.refl σ) i0 rfl (.inr (.inl rfl)) λ _ _=>by decide).mono (by omega)
  ·rename_i hn
   have hf:(dA (σ.nd m).ys c.key).isSome=true:=by
    cases hx:(dA (σ.nd m).ys c.key).isSome with
    | true=>rfl
    | false=>exact absurd (.inl hx) hn
   have:=oq (w:=w) (g:=g) i0 hln (k:=c.key) hf
   exact gc rfl this.1 this.2
 ·rename_i h6
  have h3:(σ.nd m).kind=3:=by
   rcases hm.1 with h|h|h
   ·exact h
   ·exact absurd h h5
   ·exact absurd h h6
  have hc:=hm.kY i0 h3
  have hlev:fM h (level:Int)=((sl h w.length:Nat):Int):=by rw[hl];exact yZ hc.wl
  have hk64:=tM h w.length
  unfold xz qh at hK
  rw[hlev] at hK ⊢
  cases hlk:jF (σ.nd m) ((sl h w.length:Nat):Int) with
  | none =>
   simp only[]
   exact(hK σ _ _ (Le.refl σ) i0 rfl (.inr (.inl rfl)) λ _ _=>by decide).mono (by omega)
  | some b =>
   simp only[]
   have hb:=hc.br _ hk64 b (by rw[<- hc.lk hk64];exact hlk)
   refine cG hb.in.2 ?_
   try dsimp only
   split
   ·rename_i h2
    exact(hK σ _ _ (Le.refl σ) i0 rfl (.inr (.inr ⟨⟨b,hlk,h2⟩,rfl⟩)) λ _ _=>by decide).mono (by omega)
   rename_i h2
   try dsimp only
   split
   ·exact(hK σ _ _ (Le.refl σ) i0 rfl (.inr (.inl rfl)) λ _ _=>by decide).mono (by omega)
   try dsimp only
   split
   ·exact(hK σ _ _ (Le.refl σ) i0 rfl (.inr (.inl rfl)) λ _ _=>by decide).mono (by omega)
   obtain⟨f1,f2,f3,f4⟩:=hc.re hk64 hlk
   have hso:(Iq (I9 (σ.nd m) ((sl h w.length:Nat):Int))).getD 0<=σ.len:=by
    rw[f1,Hi f2]
    try dsimp only
    split
    ·rename_i e1
     have hmem:(pL (σ.nd m).xs (eE (σ.nd m).bm.toNat (sl h w.length))).getD 0 0∈pL (σ.nd m).xs (eE (σ.nd m).bm.toNat (sl h w.length)):=yM (by omega)
     obtain⟨j,hj,hv⟩:=Ir f2 hmem
     rw[f3 j hj] at hv
     unfold Ff at hv
     split at hv
     ·cases hv
     ·exact(hc.br j hj _ hv).in.2
    ·exact bE _
   refine cG hso ?_
   try dsimp only
   rw[f1] at hso ⊢
   rw[Wo f2]
   try dsimp only
   split
   ·rename_i hx
    have e1:=hx.1
    rw[Hi f2,if_pos e1] at hx ⊢
    simp only[Option.getD_some] at hx ⊢
    generalize hs0:(pL (σ.nd m).xs (eE (σ.nd m).bm.toNat (sl h w.length))).getD 0 0=s at hx ⊢
    have hmem:s∈pL (σ.nd m).xs (eE (σ.nd m).bm.toNat (sl h w.length)):=by rw[<- hs0];exact yM (by omega)
    obtain⟨j,hj,hv⟩:=Ir f2 hmem
    have hbr:Hy σ (w++[j]) g s:=by
     rw[f3 j hj] at hv
     unfold Ff at hv
     split at hv
     ·cases hv
     ·exact hc.br j hj _ hv
    have hlf:=i0.leaf (.inl hx.2.2)
    have hus:fO (σ.nd s).hash.toNat (w++[j]):=by
     rcases hbr with h'|h'
     ·exact h'.2
     ·have:=h'.1;have:=hx.2.2;omega
    have e5:zr (σ.nd s)=Vb (((σ.nd s).hash.toNat:Nat):Int) (σ.nd s).key (σ.nd s).val:=by rw[<- hlf.hn];rfl
    rw[e5]
    exact gc rfl (.inr (.inl rfl)) (C8 i0 hlf.sz hlf.ha hlf.hl (by omega) (by have:=hc.wl;omega) (Fh hus))
   ·rename_i hx
    refine gc rfl (.inl rfl) (lM i0 f2 (λ j hj v hv=>?_) hc.wl (λ h0=>⟨λ e=>?_,λ b' hb'=>?_⟩))
    ·rw[f3 j hj] at hv
     unfold Ff at hv
     split at hv
     ·cases hv
     ·exact hc.br j hj v hv
    ·rw[e] at f4
     have h1:(σ.nd m).xs.length=1:=by simpa using f4.symm
     have hlt:(σ.nd m).xs=[b]:=by
      have hmem:=Pn hc.bv hk64 (x:=b) (by rw[<- hc.lk hk64];exact hlk)
      cases hxs:(σ.nd m).xs with
      | nil=>rw[hxs] at h1;simp at h1
      | cons a t =>
       rw[hxs] at h1 hmem
       cases t with
       | nil=>rw[List.mem_singleton.1 hmem]
       | cons _ _=>simp at h1
     exact h2 ((hc.ne h0).2 b hlt)
    ·have e1:(pL (σ.nd m).xs (eE (σ.nd m).bm.toNat (sl h w.length))).length=1:=by rw[hb'];rfl
     rw[Hi f2,if_pos e1] at hx
     rw[hb'] at hx f2 f3
     have hbr:∃j,Hy σ (w++[j]) g b':=by
      obtain⟨j,hj,hv⟩:=Ir f2 (List.mem_singleton.2 rfl:b'∈[b'])
      rw[f3 j hj] at hv
      unfold Ff at hv
      split at hv
      ·cases hv
      ·exact⟨j,hc.br j hj _ hv⟩
     obtain⟨j,hbr⟩:=hbr
     rcases hbr with h'|h'
     ·exact absurd ⟨rfl,by omega,h'.1⟩ hx
     ·exact h'.1
theorem O0{level:Nat}{K:Int->Tr}(hX:Ek X)(hT:bR σ c.t)(i0:Inv X.H σ)(hi:mU σ i w g)(hm:lP σ m w g)(hs:aV σ m)(hl:level=w.length)(hf:qh σ m h level)
  (hK:∀τ b,Le σ τ->Inv X.H τ->(b=0∨mU τ b (w++[sl h level]) g)->(Mb X σ c.t g->σ.ce (σ.nd i).main=m->b≠0/\fp τ i (sl h level) b/\FL c.t w.length σ τ/\∀b',jF (σ.nd m) ((sl h level:Nat):Int)=some b'->(σ.nd b').gen=g->τ=σ)->XT X (K b) n τ):XT X (Ee c i m (fM h level) g K) (n+20) σ:=by
 obtain⟨b,hlk,h2⟩:=hf
 have hc:=hm.kY i0 (kK hlk)
 have hk64:=tM h w.length
 subst hl
 rw[yZ hc.wl] at hlk ⊢
 have hb:=hc.br _ hk64 b (by rw[<- hc.lk hk64];exact hlk)
 refine cG hm.in.2 ?_
 try dsimp only
 rw[show(jF (σ.nd m) ((sl h w.length:Nat):Int)).getD 0=b by rw[hlk];rfl]
 refine cG hb.in.2 ?_
 try dsimp only
 split
 ·rename_i e
  rcases hb with h'|h'
  ·rw[h2] at h';exact absurd h'.1 (by decide)
  ·exact(hK σ b (Le.refl σ) i0 (.inr ⟨⟨h'.1,h'.2.1⟩,e⟩) λ so hma=>⟨by have:=cY (N:=σ.mm.nodes) (i:=b) (by simp only[Kw.nd] at h2;rw[h2];decide);omega,⟨by rw[hma];exact hs,by rw[hma];exact hlk⟩,.refl _ _ _,λ _ _ _=>rfl⟩).mono (by omega)
 ·rename_i hgb
  refine ia hX hT i0 hi hm hs hc hk64 hlk h2 λ τ v l1 i1 hv hf=>hK τ v l1 i1 hv λ so hma=>?_
  obtain⟨h1,h3,h4⟩:=hf so hma
  exact⟨h1,h3,h4,λ b' hb' hg'=>absurd (by rw[hlk] at hb';cases hb';exact hg') hgb⟩
end
end

/- Procedures among others or alone: the settled path of a hash value; PUT. -/
section
open Go Go.RowKit Go.Ct
section
variable{X:Xp}{σ τ υ:Kw}{i m p g v:Int}{w:List Nat}{t:eQ}{n:Nat}{c:Cl}{h:Nat}{H:ByteArray->Nat}
def SP(σ:Kw)(t:eQ)(h:Nat)(g:Int):Nat->Int->Prop
 | 0,i=>σ.ce t.root=i/\(σ.nd i).kind=2/\(σ.way i).length=0
 | l+1,i=>(∃p,SP σ t h g l p/\fp σ p (sl h l) i)/\(σ.nd i).kind=2/\(σ.nd i).gen=g/\(σ.way i).length=l+1
theorem SP.k2:∀{l:Nat} {i:Int},SP σ t h g l i->(σ.nd i).kind=2
 | 0,_,h=>h.2.1
 | _+1,_,h=>h.2.1
theorem SP.len:∀{l:Nat} {i:Int},SP σ t h g l i->(σ.way i).length=l
 | 0,_,h=>h.2.2
 | _+1,_,h=>h.2.2.2
theorem SP.gen(so:Mb X σ t g):∀{l:Nat} {i:Int},SP σ t h g l i->(σ.nd i).gen=g
 | 0,_,h=>by rw[<- h.1];exact so.gen
 | _+1,_,h=>h.2.2.1
theorem SP.us:∀{l:Nat} {i j:Int},SP σ t h g l i->SP σ t h g l j->i=j
 | 0,_,_,h1,h2=>h1.1.symm.trans h2.1
 | l+1,i,j,h1,h2=>by
  obtain⟨p,hp,lp⟩:=h1.1
  obtain⟨q,hq,lq⟩:=h2.1
  have e:=SP.us hp hq
  subst e
  have:=lp.lk.symm.trans lq.lk
  exact Option.some.inj this
theorem SP.down:∀{d l:Nat} {i j:Int},SP σ t h g (l+d+1) j->SP σ t h g l i->∃b,fp σ i (sl h l) b/\(σ.nd b).kind=2/\(σ.nd b).gen=g
 | 0,l,i,j,h1,h2=>by
  obtain⟨p,hp,lp⟩:=h1.1
  have e:=SP.us hp h2
  subst e
  exact⟨j,lp,h1.2.1,h1.2.2.1⟩
 | d+1,l,i,j,h1,h2=>by
  obtain⟨p,hp,_⟩:=h1.1
  exact SP.down (d:=d) hp h2
theorem fp.up{k:Nat}{b:Int}(i0:Inv H σ)(l:Le σ τ)(hk:(σ.nd p).kind=2)(e:τ.ce (σ.nd p).main=σ.ce (σ.nd p).main)(h:fp σ p k b):fp τ p k b:=by
 have hm:=mU.Yq (i:=p) (w:=σ.way p) (g:=(σ.nd p).gen) i0 ⟨⟨hk,rfl⟩,rfl⟩
 have en:=l.nd (iC hk)
 have e2:τ.ce (τ.nd p).main=σ.ce (σ.nd p).main:=by rw[en];exact e
 exact⟨by rw[e2];exact aV.up i0 hm.1 h.st l,by rw[e2,l.nd hm.in.2];exact h.lk⟩
theorem SP.fl{L:Nat}(i0:Inv H σ)(l1:Le σ τ)(f:FL t L σ τ):∀{l:Nat} {i:Int},l<=L->SP σ t h g l i->SP τ t h g l i
 | 0,i,_,hs=>⟨by rw[f.root];exact hs.1,by rw[l1.nd (iC hs.2.1)];exact hs.2.1,by rw[l1.way _ (iC hs.2.1)];exact hs.2.2⟩
 | l+1,i,hl,hs=>by
  obtain⟨p,hp,lp⟩:=hs.1
  exact⟨⟨p,SP.fl i0 l1 f (by omega) hp,lp.up i0 l1 hp.k2 (f.main p hp.k2 (by rw[hp.len];omega))⟩,by rw[l1.nd (iC hs.2.1)];exact hs.2.1,by rw[l1.nd (iC hs.2.1)];exact hs.2.2.1,by rw[l1.way _ (iC hs.2.1)];exact hs.2.2.2⟩
def Ed(σ:Kw)(t:eQ)(h:Nat)(g:Int)(J:Nat):Prop:=∃i,SP σ t h g J i/\Wi σ i (sl h J)
structure PS(X:Xp)(σ:Kw)(t:eQ)(h:Nat)(g:Int)(J:Nat)(i:Int)(level:Nat):Prop where
 so:Mb X σ t g
 sp:SP σ t h g level i
 ed:J=12∨Ed σ t h g J
 le:level<=J
theorem PS.st{J level:Nat}(q:PS X σ t h g J i level):J=12∨aV σ (σ.ce (σ.nd i).main):=by
 rcases q.ed with e|⟨j,h1,h2⟩
 ·exact .inl e
 ·refine .inr ?_
  by_cases hl:level=J
  ·subst hl
   have e:=SP.us h1 q.sp
   subst e
   exact h2.st
  ·have hle:=q.le
   obtain⟨d,hd⟩:∃d,J=level+d+1:=⟨J-level-1,by omega⟩
   subst hd
   obtain⟨b,hb,_⟩:=SP.down h1 q.sp
   exact hb.st
theorem PS.read{J level:Nat}(i0:Inv X.H σ)(hT:bR σ t)(l:Le σ τ)(fr:yr X σ τ t i m)(q:PS X σ t h g J i level):PS X τ t h g J i level/\τ.ce (σ.nd i).main=m/\FL t level σ τ:=by
 have fs:=fr.s q.so.b q.so.k2
 have f:FL t level σ τ:=by
  have:=Hs hT i0 fs.2
  rwa [q.sp.len] at this
 refine⟨⟨q.so.fl i0 hT l f,q.sp.fl i0 l f (Nat.le_refl _),?_,q.le⟩,fs.1,f⟩
 rcases q.st with e|e
 ·exact .inl e
 ·have e2:=(fr.e q.so.b e).1
  rw[e2]
  exact q.ed
theorem PS.Vl{J level:Nat}{b:Int}(i0:Inv X.H σ)(hT:bR σ t)(hi:mU σ i w g)(hm:lP σ m w g)(hl:level=w.length)(hma:σ.ce (σ.nd i).main=m)(hf:qh σ m h level)(l:Le σ τ)(hb:mU τ b (w++[sl h level]) g)
  (hlk:fp τ i (sl h level) b) (f:FL t w.length σ τ) (hs:∀b',jF (σ.nd m) ((sl h level:Nat):Int)=some b'->(σ.nd b').gen=g->τ=σ) (q:PS X σ t h g J i level):PS X τ t h g J b (level+1):=by
 obtain⟨b0,hb0,hk0⟩:=hf
 have hwl:w.length<=10:=(hm.kY i0 (kK hb0)).wl
 have hlev:fM h (level:Int)=((sl h level:Nat):Int):=yZ (by omega)
 rw[hlev] at hb0
 rw[<- hl] at f
 have hne:J≠12->level≠J:=λ h12 e=>by
  rcases q.ed with e2|⟨j,h1,h2⟩
  ·exact h12 e2
  ·subst e
   have e:=SP.us h1 q.sp
   subst e
   exact h2.no b0 (by rw[hma];exact hb0) hk0
 have hle:=q.le
 refine⟨q.so.fl i0 hT l f,⟨⟨i,q.sp.fl i0 l f (Nat.le_refl _),hlk⟩,hb.1.1,hb.2,by rw[hb.1.2,List.length_append,hl];rfl⟩,?_,by by_cases h12:J=12;omega;have:=hne h12;omega⟩
 by_cases h12:J=12
 ·exact .inl h12
 ·have:=hne h12
  rcases q.ed with e2|⟨j,h1,h2⟩
  ·exact .inl e2
  ·obtain⟨d,hd⟩:∃d,J=level+d+1:=⟨J-level-1,by omega⟩
   have h1':=h1
   rw[hd] at h1'
   obtain⟨b',lb,_,gb⟩:=SP.down h1' q.sp
   have e:=hs b' (by rw[<- hma];exact lb.lk) gb
   rw[e]
   exact .inr ⟨j,h1,h2⟩
theorem PS.clean{J level:Nat}{w0:List Nat}{g0:Int}(i0:Inv X.H σ)(hT:bR σ t)(hpn:mU σ p w0 g0)(hw:level=w0.length+1)(hsp:SP σ t h g (level-1) p)(hma:σ.ce (σ.nd i).main=m)(hs:aV σ m)(h5:(σ.nd m).kind=5)(l:Le σ τ)(q:PS X σ t h g J i level)
  (hc:yo X σ t g0 p i (sl h w0.length)->Wi τ p (sl h w0.length)/\FL t w0.length σ τ):Mb X τ t g/\∃j,j<J/\Ed τ t h g j:=by
 have hl1:level-1=w0.length:=by omega
 have hsp':=q.sp
 rw[hw] at hsp'
 obtain⟨p',hp',lp⟩:=hsp'.1
 rw[hl1] at hsp
 have e:=SP.us hp' hsp
 subst e
 have hg:g0=g:=hpn.2.symm.trans (SP.gen q.so hsp)
 subst hg
 obtain⟨r1,r2⟩:=hc ⟨q.so,lp,by rw[hma];exact hs,by rw[hma];exact h5⟩
 have:=q.le
 exact⟨q.so.fl i0 hT l r2,w0.length,by omega,p',hsp.fl i0 l r2 (Nat.le_refl _),r1⟩
theorem P8{J nn:Nat}{σ0:Kw}{K:Rs->Tr}{again:Tr}(hX:Ek X)(hT:bR σ0 c.t)(i00:Inv X.H σ0)(hk:Qr X.H c h)(hK:∀τ r,Le σ0 τ->Inv X.H τ->r.root=0->XT X (K r) nn τ)
  (hA:∀τ,Le σ0 τ->Inv X.H τ->(X.b=false->Mb X τ c.t g/\∃j,j<J/\Ed τ c.t h g j)->XT X again nn τ):∀(q:Nat) (σ:Kw) (i parent:Int) (w:List Nat) (level:Nat),Le σ0 σ->Inv X.H σ->mU σ i w g->fO h w->level=w.length->(0<w.length->∃w0 g0,mU σ parent w0 g0/\w.length=w0.length+1) ->
  (X.b=false->PS X σ c.t h g J i level/\(0<level->SP σ c.t h g (level-1) parent))->XT X (zP c h K again g q i parent level) (nn+40*(12-level)) σ
 | 0,_,_,_,_,_,_,_,_,_,_,_,_=>trivial
 | q+1,σ,i,parent,w,level,l,i1,hi,hu,hl,hp,hs0=>by
  have hw:=(hi.Cd i1).2.2
  have hT1:=hT.up l
  have e:nn+40*(12-level)=(nn+40*(11-level)+30)+10:=by omega
  rw[e]
  refine mN hX.toSk hT1 i1 hi λ τ m l1 i2 hm hs fr=>cG hm.in.2 ?_
  have l01:=l.trans i00 i1 l1
  have hi2:=hi.up l1
  have eni:(τ.nd i).main=(σ.nd i).main:=by rw[l1.nd hi.in.2]
  have hps:X.b=false->PS X τ c.t h g J i level/\τ.ce (τ.nd i).main=m/\(0<level->SP τ c.t h g (level-1) parent):=λ hb=>by
   obtain⟨q1,q2⟩:=hs0 hb
   obtain⟨r1,r2,r3⟩:=q1.read i1 hT1 l1 fr
   exact⟨r1,by rw[eni];exact r2,λ h0=>(q2 h0).fl i1 l1 r3 (by omega)⟩
  try dsimp only
  split
  ·rename_i h5
   have h0:=((i2.nd m hm.in.1 hm.in.2).k5 h5).1
   rw[hm.2.1] at h0
   obtain⟨w0,g0,hp1,hp2⟩:=hp h0
   refine(Hq hX (n:=nn+40*(11-level)) (hT.up l01) i2 (hp1.up l1) (by omega) hi2.1.1 λ υ _ l2 i3 hc=>(hA υ (l01.trans i00 i2 l2) i3 λ hb=>?_).mono (by omega))
   obtain⟨r1,r2,r3⟩:=hps hb
   exact r1.clean i2 (hT.up l01) (hp1.up l1) (by omega) (r3 (by omega)) r2 hs h5 l2 hc
  ·rename_i h5
   refine(Ty hX (n:=nn+40*(11-level)+20) (hT.up l01) i2 hk hi2 hm hs hu hl h5 λ υ r what l2 i3 hr hf hw0=>?_)
   have l02:=l01.trans i00 i2 l2
   try dsimp only
   split
   ·exact(hK υ r l02 i3 hr).mono (by omega)
   try dsimp only
   split
   ·rename_i hz
    refine(hA υ l02 i3 λ hb=>?_).mono (by omega)
    obtain⟨r1,r2,r3⟩:=hps hb
    exact absurd hz (hw0 r1.so r2)
   rename_i hw1 hw2
   have hfu:qh τ m h level/\υ=τ:=by
    rcases hf with h|h|h
    ·exact absurd h hw2
    ·exact absurd h hw1
    ·exact h
   obtain⟨hfu,eυ⟩:=hfu
   subst eυ
   refine O0 hX (hT.up l01) i2 hi2 hm hs hl hfu λ χ b l3 i4 hb hbf=>?_
   have l03:=l01.trans i00 i2 l3
   try dsimp only
   split
   ·rename_i hb0
    refine(hA χ l03 i4 λ hx=>?_).mono (by omega)
    obtain⟨r1,r2,r3⟩:=hps hx
    exact absurd hb0 (hbf r1.so r2).1
   ·rename_i hb0
    rcases hb with hb|hb
    ·exact absurd hb hb0
    ·have hu2:fO h (w++[sl h level]):=by rw[hl];exact qR hu
     have e2:nn+40*(11-level)=nn+40*(12-(level+1)):=by omega
     rw[e2]
     refine P8 hX hT i00 hk hK hA q χ b i (w++[sl h level]) (level+1) l03 i4 hb hu2 (by rw[List.length_append,hl];rfl) (λ _=>⟨w,g,hi2.up l3,by rw[List.length_append];rfl⟩) λ hx=>?_
     obtain⟨r1,r2,r3⟩:=hps hx
     obtain⟨b1,b2,b3,b4⟩:=hbf r1.so r2
     exact⟨r1.Vl i2 (hT.up l01) hi2 hm hl r2 hfu l3 hb b2 b3 b4,λ _=>r1.sp.fl i2 l3 b3 (by omega)⟩
theorem k9{σ0:Kw}{K:Rs->Tr}(hX:Ek X)(hb:X.b=true)(hC:500<=X.C)(hAp:∀q,X.A (yG c h K (q+1)))(hT:bR σ0 c.t)(i00:Inv X.H σ0)(hk:Qr X.H c h)(hK:∀τ r,Le σ0 τ->Inv X.H τ->r.root=0->XT X (K r) 0 τ):∀(q:Nat) (σ:Kw),Le σ0 σ->Inv X.H σ->XT X (yG c h K q) 0 σ
 | 0,_,_,_=>trivial
 | q+1,σ,l,i1=>by
  have hbf:∀{p:Prop},X.b=false->p:=λ h=>by rw[hb] at h;cases h
  refine XT.fresh (hAp q) ?_
  refine XT.mono (show 0+480+15<=X.C+1 by omega) ?_
  refine zA hX.toSk (hT.up l) i1 λ τ i l1 i2 hi _=>cG hi.in.2 ?_
  have l01:=l.trans i00 i1 l1
  exact P8 (J:=12) (g:=(τ.nd i).gen) hX hT i00 hk hK (λ υ l2 i3 _=>k9 hX hb hC hAp hT i00 hk hK q υ l2 i3) q τ i 0 [] 0 l01 i2 ⟨hi,rfl⟩ (Ub h) rfl (λ h=>absurd h (by decide)) hbf
end
end

/- Procedures among others or alone: DROP. -/
section
open Go Go.RowKit Go.Ct
section
variable{X:Xp}{σ τ υ:Kw}{i m p g v:Int}{w:List Nat}{t:eQ}{n:Nat}{c:Cl}{h:Nat}{H:ByteArray->Nat}
theorem tq{nn:Nat}{σ0:Kw}{path:List Int}{K:Tr}(hX:Ek X)(hT:bR σ0 t)(i0:Inv X.H σ0)(hp:Ag σ0 path h g)(hK:∀τ,Le σ0 τ->Inv X.H τ->XT X K nn τ):∀(l:Nat) (σ:Kw),Le σ0 σ->Inv X.H σ->l<path.length->XT X (kw t path h K l) (nn+40*l) σ
 | 0,σ,l,i1,_=>hK σ l i1
 | q+1,σ,l,i1,hl=>by
  have hp1:=hp.up l
  have e:nn+40*(q+1)=nn+40*q+30+10:=by omega
  rw[e]
  refine mN hX.toSk (hT.up l) i1 (hp1 (q+1) hl) λ τ m l1 i2 hm _ _=>cG hm.in.2 ?_
  have l01:=l.trans i0 i1 l1
  try dsimp only
  split
  ·exact Hq hX (n:=nn+40*q) (hT.up l01) i2 ((hp1.up l1) q (by omega)) (by rw[eM]) ((hp1.up l1) (q+1) hl).1.1 λ υ _ l2 i3 _=>tq hX hT i0 hp hK q υ (l01.trans i0 i2 l2) i3 (by omega)
  ·exact(hK τ l01 i2).mono (by omega)
theorem Kt{J nk:Nat}{σ0:Kw}{K:Rs->Tr}{again:Tr}(hX:Ek X)(hT:bR σ0 c.t)(i00:Inv X.H σ0)(hK:∀τ r,Le σ0 τ->Inv X.H τ->r.root=0->XT X (K r) nk τ)
  (hA:∀τ,Le σ0 τ->Inv X.H τ->(X.b=false->Mb X τ c.t g/\∃j,j<J/\Ed τ c.t h g j)->XT X again (nk+440) τ):∀(q:Nat) (σ:Kw) (i:Int) (path:List Int) (level:Nat),Le σ0 σ->Inv X.H σ->mU σ i (rE h level) g->Ag σ path h g->path.length=level+1 ->
  (X.b=false->PS X σ c.t h g J i level/\∀k,k<path.length->SP σ c.t h g k (path.getD k 0))->XT X (tS c h K again g q i path level) (nk+440+40*(12-level)) σ
 | 0,_,_,_,_,_,_,_,_,_,_=>trivial
 | q+1,σ,i,path,level,l,i1,hi,hp,hpl,hs0=>by
  have hw:=(hi.Cd i1).2.2
  rw[eM] at hw
  have hT1:=hT.up l
  have e:nk+440+40*(12-level)=(nk+440+40*(11-level)+30)+10:=by omega
  rw[e]
  refine mN hX.toSk hT1 i1 hi λ τ m l1 i2 hm hs fr=>cG hm.in.2 ?_
  have l01:=l.trans i00 i1 l1
  have hi2:=hi.up l1
  have hp2:=hp.up l1
  have hlw:level=(rE h level).length:=(eM h level).symm
  have eni:(τ.nd i).main=(σ.nd i).main:=by rw[l1.nd hi.in.2]
  have hps:X.b=false->PS X τ c.t h g J i level/\τ.ce (τ.nd i).main=m/\∀k,k<path.length->SP τ c.t h g k (path.getD k 0):=λ hb=>by
   obtain⟨q1,q2⟩:=hs0 hb
   obtain⟨r1,r2,r3⟩:=q1.read i1 hT1 l1 fr
   exact⟨r1,by rw[eni];exact r2,λ k hk=>(q2 k hk).fl i1 l1 r3 (by omega)⟩
  try dsimp only
  split
  ·rename_i h5
   have h0:=((i2.nd m hm.in.1 hm.in.2).k5 h5).1
   rw[hm.2.1,eM] at h0
   refine(Hq hX (n:=nk+440+40*(11-level)) (hT.up l01) i2 (hp2 (level-1) (by omega)) (by rw[eM];omega) hi2.1.1 λ υ _ l2 i3 hc=>(hA υ (l01.trans i00 i2 l2) i3 λ hb=>?_).mono (by omega))
   obtain⟨r1,r2,r3⟩:=hps hb
   exact r1.clean i2 (hT.up l01) (hp2 (level-1) (by omega)) (by rw[eM];omega) (r3 (level-1) (by omega)) r2 hs h5 l2 hc
  ·rename_i h5
   refine(N4 hX (n:=nk+440+40*(11-level)+20) (hT.up l01) i2 hi2 hm hs (qE h level) hlw h5 λ υ r what l2 i3 hr hf hw0=>?_)
   have l02:=l01.trans i00 i2 l2
   try dsimp only
   split
   ·try dsimp only
    split
    ·refine(tq (nn:=nk) hX (hT.up l02) i3 (hp2.up l2) (λ χ l3 i4=>hK χ r (l02.trans i00 i3 l3) i4 hr) (path.length-1) υ (Le.refl υ) i3 (by omega)).mono (by omega)
    ·exact(hK υ r l02 i3 hr).mono (by omega)
   try dsimp only
   split
   ·rename_i hz
    refine(hA υ l02 i3 λ hb=>?_).mono (by omega)
    obtain⟨r1,r2,r3⟩:=hps hb
    exact absurd hz (hw0 r1.so r2)
   rename_i hw1 hw2
   have hfu:qh τ m h level/\υ=τ:=by
    rcases hf with h|h|h
    ·exact absurd h hw2
    ·exact absurd h hw1
    ·exact h
   obtain⟨hfu,eυ⟩:=hfu
   subst eυ
   refine O0 hX (hT.up l01) i2 hi2 hm hs hlw hfu λ χ b l3 i4 hb hbf=>?_
   have l03:=l01.trans i00 i2 l3
   try dsimp only
   split
   ·rename_i hb0
    refine(hA χ l03 i4 λ hx=>?_).mono (by omega)
    obtain⟨r1,r2,r3⟩:=hps hx
    exact absurd hb0 (hbf r1.so r2).1
   ·rename_i hb0
    rcases hb with hb|hb
    ·exact absurd hb hb0
    ·have hb2:=hb
     rw[<- Fu] at hb
     have e2:nk+440+40*(11-level)=nk+440+40*(12-(level+1)):=by omega
     rw[e2]
     refine Kt hX hT i00 hK hA q χ b (path++[b]) (level+1) l03 i4 hb ((hp2.up l3).snoc (by rw[hpl];exact hb)) (by rw[List.length_append,hpl];rfl) λ hx=>?_
     obtain⟨r1,r2,r3⟩:=hps hx
     obtain⟨b1,b2,b3,b4⟩:=hbf r1.so r2
     have hd:=r1.Vl i2 (hT.up l01) hi2 hm hlw r2 hfu l3 hb2 b2 b3 b4
     rw[eM] at b3
     refine⟨hd,λ k hk=>?_⟩
     rw[List.length_append,List.length_singleton] at hk
     rw[fQ]
     by_cases ek:k<path.length
     ·rw[List.getElem?_append_left ek,<- fQ]
      exact(r3 k ek).fl i2 l3 b3 (by omega)
     ·have:k=path.length:=by omega
      subst this
      have:=hd.sp
      rw[<- hpl] at this
      simpa using this
theorem Xy{σ0:Kw}{K:Rs->Tr}(hX:Ek X)(hb:X.b=true)(hC:1000<=X.C)(hAp:∀q,X.A (pJ c h K (q+1)))(hT:bR σ0 c.t)(i00:Inv X.H σ0)(hK:∀τ r,Le σ0 τ->Inv X.H τ->r.root=0->XT X (K r) 0 τ):∀(q:Nat) (σ:Kw),Le σ0 σ->Inv X.H σ->XT X (pJ c h K q) 0 σ
 | 0,_,_,_=>trivial
 | q+1,σ,l,i1=>by
  have hbf:∀{p:Prop},X.b=false->p:=λ h=>by rw[hb] at h;cases h
  refine XT.fresh (hAp q) ?_
  refine XT.mono (show 0+440+480+15<=X.C+1 by omega) ?_
  refine zA hX.toSk (hT.up l) i1 λ τ i l1 i2 hi _=>cG hi.in.2 ?_
  have l01:=l.trans i00 i1 l1
  refine Kt (J:=12) (g:=(τ.nd i).gen) hX hT i00 hK (λ υ l2 i3 _=>(Xy hX hb hC hAp hT i00 hK q υ l2 i3).mono (by omega)) q τ i [i] 0 l01 i2 ⟨hi,rfl⟩ (λ k hk=>?_) rfl hbf
  have:k=0:=by simpa using hk
  subst this
  exact⟨hi,rfl⟩
end
end

/- Procedures among others or alone: SNAPSHOT, FREEZE, CLEAR; calls. -/
section
open Go Go.RowKit Go.Ct
section
variable{X:Xp}{σ τ υ:Kw}{i m p g v:Int}{w:List Nat}{t:eQ}{n:Nat}{c:Cl}{h:Nat}{H:ByteArray->Nat}
structure w4(X:Xp):Prop where
 q:∀r σ,Q0 r σ->X.Q r σ
theorem oX{r:Rs}(hq:w4 X)(h:Q0 r σ):XT X (.done r) n σ:=.inr (hq.q r σ h)
theorem rA{r:Rs}(h:r.root=0):Q0 r σ:=λ h0=>by rw[h] at h0;exact absurd h0 (by decide)
theorem Ww{g':Int}(hX:Ek X)(hq:w4 X)(i0:Inv X.H σ)(hm:lP σ m [] g')(hs:aV σ m)(hg:g'<=σ.mm.gen):XT X (F7 m .done) n σ:=by
 have hgen:=i0.gen
 refine Zo hX i0 λ υ l1 i1 e1=>?_
 have e2:υ.mm.gen=σ.mm.gen+1:=by rw[e1]
 exact wK (g:=σ.mm.gen+1) hX i1 (by omega) (by omega) (by simp) (hm.up l1) (aV.up i0 hm.1 hs l1) (by omega) λ τ j l2 i2 hj _=>M8 hX false i2 hj.1 λ ρ c l3 i3 h0 hc=>oX hq λ _=>hc
theorem I8(e:υ.mm=⟨σ.mm.nodes,σ.mm.cs,σ.mm.gen+1⟩):Eu σ υ:=λ x _=>by
 show bW υ.mm.cs x=_
 rw[e]
theorem Vm{r:Int}(hT:bR σ t)(i1:Inv X.H τ)(l2:Le τ υ)(hb:X.b=false)(hr:τ.ce t.root=r)(hI:rI τ r [])(hT1:bR τ t)(hm:τ.ce (τ.nd r).main=m)(hk:bU (τ.nd m))(hs:aV τ m)(f:Eu τ υ):RcS X υ t r m :=
 ⟨hb,by rw[f _ hT1.2.1];exact hr,by rw[l2.nd hI.in.2,f _ (i1.dI hI.1).2.1];exact hm,aV.up i1 hk hs l2⟩
theorem fj{fz:Bool}{again:Tr}(hX:Ek X)(hq:w4 X)(hT:bR σ t)(hr0:t.ro=false)(i0:Inv X.H σ)(hA:∀τ,Le σ τ->Inv X.H τ->X.b=true->XT X again n τ) :
  XT X (rH t λ r=>kX t r λ m=>.gen λ g=>.alloc (lG g) m λ j=>tD t r m j λ ok =>
   if ok=true then(if fz=true then .cell r λ c=>.done (En c true) else F7 m .done) else again) (n+39) σ:=by
 refine zA hX.toSk (n:=n+24) hT i0 λ τ r l1 i2 hr hh=>?_
 have hg:=hr.B4.Cd i2
 refine mN hX.toSk (n:=n+14) (hT.up l1) i2 hr.B4 λ υ m l2 i3 hm hs fr=>?_
 have l02:=l1.trans i0 i2 l2
 have hgen:=l2.gen
 refine Zo hX i3 λ ρ l3 i4 e3=>?_
 have l03:=l02.trans i0 i3 l3
 have e3':ρ.mm.gen=υ.mm.gen+1:=by rw[e3]
 refine wK (g:=υ.mm.gen+1) hX i4 (by have:=i3.gen;omega) (by omega) (by simp) (hm.up l3) (aV.up i3 hm.1 hs l3) (by omega) λ χ j l4 i5 hj aj=>?_
 have l04:=l03.trans i0 i4 l4
 have l24:=(l2.trans i2 i3 l3).trans i2 i4 l4
 have hm4:=(hm.up l3).up l4
 refine Hd hX (hT.up l04) hr0 i5 (hr.up l24) hj.1 hm4.in.1 hm4.in.2 λ ψ ok l5 i6 hok=>?_
 have l05:=l04.trans i0 i5 l5
 try dsimp only
 split
 ·try dsimp only
  split
  ·exact M8 hX true i6 ((hr.up l24).up l5) λ ω c l6 i7 h0 hc=>oX hq λ _=>hc
  ·exact Ww hX hq i6 (hm4.up l5) (aV.up i3 hm.1 hs ((l3.trans i3 i4 l4).trans i3 i5 l5)) (by have:=l5.gen;have:=l4.gen;have:=l3.gen;omega)
 ·rename_i hno
  cases hb:X.b with
  | true=>exact hA ψ l05 i6 hb
  | false =>
   have hr1:=hh.r hb
   have fs:=fr.s hb (by rw[hr1];exact hr.1)
   have l34:=l3.trans i3 i4 l4
   refine absurd (hok (Vm (hT.up l02) i3 l34 hb ?_ (hr.up l2) (hT.up l02) (by rw[l2.nd hr.in.2];exact fs.1) hm.1 hs ((I8 e3).trans l3 aj.Kb))) hno
   rw[tE (hT.up l1) fs.2];exact hr1
theorem W5{again:Tr}(hX:Ek X)(hq:w4 X)(hT:bR σ t)(hr0:t.ro=false)(i0:Inv X.H σ)(hA:∀τ,Le σ τ->Inv X.H τ->X.b=true->XT X again n τ) :
  XT X (rH t λ r=>kX t r λ m=>.alloc Ca 0 λ c=>.gen λ g=>.alloc (lG g) c λ j=>tD t r m j λ ok=>if ok=true then .done (hZ true 0) else again) (n+39) σ:=by
 refine zA hX.toSk (n:=n+24) hT i0 λ τ r l1 i2 hr hh=>?_
 have hg:=hr.B4.Cd i2
 refine mN hX.toSk (n:=n+14) (hT.up l1) i2 hr.B4 λ υ m l2 i3 hm hs fr=>?_
 have l02:=l1.trans i0 i2 l2
 have hgu:=i3.gen
 have hnew:iX X.H υ Ca ([]:List Nat) (υ.mm.gen+1):=lM (b:=0) (xs:=[]) i3 Hl (λ j hj v hv=>by simp[nT] at hv) (by simp) (λ h=>absurd h (by decide))
 refine gP hX.al i3 hnew (oQ i3 (λ e=>cX (a:=3) (b:=2) e)) λ ρ e0 l3 i4 ae=>?_
 have l03:=l02.trans i0 i3 l3
 have hem:lP ρ e0 [] (υ.mm.gen+1):=lS (cl:=0) (.inl rfl) ae.nd ae.way ae.gb
 have hgr:ρ.mm.gen=υ.mm.gen:=by rw[ae.mm];rfl
 refine Zo hX i4 λ χ l4 i5 e4=>?_
 have l04:=l03.trans i0 i4 l4
 have e4':χ.mm.gen=ρ.mm.gen+1:=by rw[e4]
 refine wK (g:=ρ.mm.gen+1) hX i5 (by omega) (by omega) (by simp) (hem.up l4) (aV.up i4 hem.1 (ae.prev (.inl rfl)) l4) (by omega) λ ψ j l5 i6 hj aj=>?_
 have l05:=l04.trans i0 i5 l5
 have l35:=(l3.trans i3 i4 l4).trans i3 i5 l5
 have l25:=l2.trans i2 i3 l35
 have hm5:=((hm.up l3).up l4).up l5
 refine Hd hX (hT.up l05) hr0 i6 (hr.up l25) hj.1 hm5.in.1 hm5.in.2 λ ω ok l6 i7 hok=>?_
 try dsimp only
 split
 ·exact oX hq (rA rfl)
 ·rename_i hno
  cases hb:X.b with
  | true=>exact hA ω (l05.trans i0 i6 l6) i7 hb
  | false =>
   have hr1:=hh.r hb
   have fs:=fr.s hb (by rw[hr1];exact hr.1)
   refine absurd (hok (Vm (hT.up l02) i3 l35 hb ?_ (hr.up l2) (hT.up l02) (by rw[l2.nd hr.in.2];exact fs.1) hm.1 hs ((ae.Kb.trans l3 (I8 e4)).trans (l3.trans i3 i4 l4) aj.Kb))) hno
   rw[tE (hT.up l1) fs.2];exact hr1
def Apt(c:Cl)(h:Nat)(t:Tr):Prop :=
 (c.kind=8/\refuse c=0/\∃q,t=yG c h .done (q+1))∨(c.kind=9/\∃q,t=pJ c h .done (q+1))∨((c.kind=10∨c.kind=11)/\c.t.ro=false/\∃fz q,t=Dn c.t fz .done (q+1))∨(c.kind=12/\∃q,t=sQ c.t .done (q+1))
def XF(H:ByteArray->Nat)(c:Cl)(h:Nat):Xp:=⟨H,Q0,Apt c h,1000,λ _=>False,RF H,true,false⟩
theorem Vn{fz:Bool}(hk:c.kind=10∨c.kind=11)(hT:bR σ c.t)(hr0:c.t.ro=false)(i0:Inv H σ):∀(q:Nat) (σ':Kw),Le σ σ'->Inv H σ'->XT (XF H c h) (Dn c.t fz .done q) 0 σ'
 | 0,_,_,_=>trivial
 | q+1,σ',l,i1=>XT.fresh (X:=XF H c h) (.inr (.inr (.inl ⟨hk,hr0,fz,q,rfl⟩))) (XT.mono (show 0+39<=1000+1 by omega) (fj (X:=XF H c h) ⟨Uq rfl,rfl⟩ ⟨λ _ _ h=>h⟩ (hT.up l) hr0 i1 λ τ l2 i2 _=>Vn hk hT hr0 i0 q τ (l.trans i0 i1 l2) i2))
theorem Pu(hk:c.kind=12)(hT:bR σ c.t)(hr0:c.t.ro=false)(i0:Inv H σ):∀(q:Nat) (σ':Kw),Le σ σ'->Inv H σ'->XT (XF H c h) (sQ c.t .done q) 0 σ'
 | 0,_,_,_=>trivial
 | q+1,σ',l,i1=>XT.fresh (X:=XF H c h) (.inr (.inr (.inr ⟨hk,q,rfl⟩))) (XT.mono (show 0+39<=1000+1 by omega) (W5 (X:=XF H c h) ⟨Uq rfl,rfl⟩ ⟨λ _ _ h=>h⟩ (hT.up l) hr0 i1 λ τ l2 i2 _=>Pu hk hT hr0 i0 q τ (l.trans i0 i1 l2) i2))
theorem rm(i0:Inv H σ)(hc:Gy H σ c h)(q:Nat):XT (XF H c h) (kO c h q) 1000 σ:=by
 have hX:Ek (XF H c h):=⟨Uq rfl,rfl⟩
 have hq:w4 (XF H c h):=⟨λ _ _ h=>h⟩
 have i0':Inv (XF H c h).H σ:=i0
 have hA:∀(τ:Kw) (r:Rs),Le σ τ->Inv (XF H c h).H τ->r.root=0->XT (XF H c h) (.done r) 0 τ:=λ τ r _ _ hr=>oX hq (rA hr)
 have ek:=hc.k
 unfold kO
 try dsimp only
 split
 ·exact oX hq (rA rfl)
 rename_i hr0
 have hr:refuse c=0:=Classical.byContradiction hr0
 have hkey:c.kind=7∨c.kind=8∨c.kind=9->Qr H c h:=λ e=>⟨Td hr e,hc.ha,hc.hl⟩
 try dsimp only
 split
 ·rename_i e
  rcases ek with h|h|⟨_,w,g,h⟩|⟨h,_⟩|⟨h,_⟩
  ·omega
  ·omega
  ·exact(mN hX.toSk hc.t i0' h (n:=0) λ τ m l1 i1 _ _ _=>oX hq (rA rfl)).mono (by omega)
  ·omega
  ·omega
 try dsimp only
 split
 ·rename_i e1 e
  rcases ek with h|h|⟨h,_⟩|⟨_,w,g,h1,h2⟩|⟨h,_⟩
  ·omega
  ·omega
  ·omega
  ·exact(zL hX.toSk hc.t i0' h1 h2 (n:=0) λ τ b l1 i1 _=>oX hq (rA rfl)).mono (by omega)
  ·omega
 try dsimp only
 split
 ·exact(zA hX.toSk hc.t i0' (n:=0) λ τ r l1 i1 _ _=>oX hq (rA rfl)).mono (by omega)
 try dsimp only
 split
 ·rename_i e1 e2 e3 e
  rcases ek with h|h|⟨h,_⟩|⟨h,_⟩|⟨_,h1,h2,h3,h4⟩
  ·omega
  ·omega
  ·omega
  ·omega
  ·exact(Hd hX hc.t (hc.ro (.inr (.inr (.inr (by assumption))))) i0' h1 h2 h3 h4 (n:=0) λ τ b l1 i1 _=>oX hq (rA rfl)).mono (by omega)
 try dsimp only
 split
 ·refine XT.mono (show 120+15<=1000 by omega) (zA hX.toSk hc.t i0' λ τ r l1 i1 hr _=>?_)
  exact(Zj (K:=Tr.done) (n:=0) hX hc.t i0' hA q τ r [] _ 0 l1 i1 hr.B4).mono (by simp)
 try dsimp only
 split
 ·rename_i e
  exact(k9 hX rfl (show 500<=1000 by omega) (λ q=>.inl ⟨e,hr,q,rfl⟩) hc.t i0' (hkey (.inr (.inl e))) hA q σ (Le.refl σ) i0).mono (by omega)
 try dsimp only
 split
 ·rename_i e
  exact(Xy hX rfl (show 1000<=1000 by omega) (λ q=>.inr (.inl ⟨e,q,rfl⟩)) hc.t i0' hA q σ (Le.refl σ) i0).mono (by omega)
 have hsnap:∀fz,(c.kind=10∨c.kind=11)->XT (XF H c h) (qM c.t fz .done q) 1000 σ:=λ fz hk=>by
  unfold qM
  try dsimp only
  split
  ·rename_i hro
   refine XT.mono (show 10+1<=1000 by omega) (mH λ τ hg=>?_)
   have hv:=(hc.t.up hg.le).roI hg.inv hro
   try dsimp only
   split
   ·exact M8 hX true hg.inv hv λ ω c l6 i7 h0 hc=>oX hq λ _=>hc
   ·have hgg:=hv.B4.Cd hg.inv
    exact mN hX.toSk (n:=0) (hc.t.up hg.le) hg.inv hv.B4 λ υ m l2 i2 hm hs _=>Ww hX hq i2 hm hs (by have:=l2.gen;omega)
  ·rename_i hro
   exact(Vn hk hc.t (by simpa using hro) i0 q σ (Le.refl σ) i0).mono (by omega)
 try dsimp only
 split
 ·exact hsnap false (.inl (by assumption))
 try dsimp only
 split
 ·exact hsnap true (.inr (by assumption))
 ·have hk:c.kind=12:=by omega
  exact(Pu hk hc.t (hc.ro (.inr (.inr (.inl hk)))) i0 q σ (Le.refl σ) i0).mono (by omega)
end
end

end Go.Proofs.YtadnboagdhcedaaGreatDoor
