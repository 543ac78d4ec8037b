/- Procedures among others or alone: DROP. -/
import Derived.Test.YtadnboagdhcedaaGreatDoorGKx7
import Derived.Test.YtadnboagdhcedaaGreatDoorGKw8

set_option linter.unusedSimpArgs false
set_option linter.unusedVariables false
namespace Go.Proofs.YtadnboagdhcedaaGreatDoor
section
open Go Go.RowKit Go.Ct
section
variable{X:Xp}{σ τ υ:Kw}{i m p g v:Int}{w:List Nat}{t:eA}{n:Nat}{c:Cl}{h:Nat}{H:ByteArray->Nat}
theorem y7{nn:Nat}{σ0:Kw}{path:List Int}{K:Tr}(hX:Fm X)(hT:bU σ0 t)(i0:Inv X.H σ0)(hp:Bm σ0 path h g)(hK:∀τ,Le σ0 τ->Inv X.H τ->XT X K nn τ):∀(l:Nat) (σ:Kw),Le σ0 σ->Inv X.H σ->l<path.length->XT X (pb t path h K l) (nn+40*l) σ
 | 0,σ,l,i1,_=>hK σ l i1
 | q+1,σ,l,i1,hl=>by
  have hp1:=hp.up l
  have e:nn+40*(q+1)=nn+40*q+30+10:=by omega
  rw[e]
  refine nD hX.toVo (hT.up l) i1 (hp1 (q+1) hl) λ τ m l1 i2 hm _ _=>cK hm.in.2 ?_
  have l01:=l.trans i0 i1 l1
  try dsimp only
  split
  ·exact I5 hX (n:=nn+40*q) (hT.up l01) i2 ((hp1.up l1) q (by omega)) (by rw[eU]) ((hp1.up l1) (q+1) hl).1.1 λ υ _ l2 i3 _=>y7 hX hT i0 hp hK q υ (l01.trans i0 i2 l2) i3 (by omega)
  ·exact(hK τ l01 i2).mono (by omega)
theorem Mt{J nk:Nat}{σ0:Kw}{K:Rs->Tr}{again:Tr}(hX:Fm X)(hT:bU σ0 c.t)(i00:Inv X.H σ0)(hK:∀τ r,Le σ0 τ->Inv X.H τ->r.root=0->XT X (K r) nk τ)
  (hA:∀τ,Le σ0 τ->Inv X.H τ->(X.b=false->Nu X τ c.t g/\∃j,j<J/\Ed τ c.t h g j)->XT X again (nk+440) τ):∀(q:Nat) (σ:Kw) (i:Int) (path:List Int) (level:Nat),Le σ0 σ->Inv X.H σ->nJ σ i (qX h level) g->Bm σ path h g->path.length=level+1 ->
  (X.b=false->PS X σ c.t h g J i level/\∀k,k<path.length->SP σ c.t h g k (path.getD k 0))->XT X (tF c h K again g q i path level) (nk+440+40*(12-level)) σ
 | 0,_,_,_,_,_,_,_,_,_,_=>trivial
 | q+1,σ,i,path,level,l,i1,hi,hp,hpl,hs0=>by
  have hw:=(hi.Ep i1).2.2
  rw[eU] at hw
  have hT1:=hT.up l
  have e:nk+440+40*(12-level)=(nk+440+40*(11-level)+30)+10:=by omega
  rw[e]
  refine nD hX.toVo hT1 i1 hi λ τ m l1 i2 hm hs fr=>cK hm.in.2 ?_
  have l01:=l.trans i00 i1 l1
  have hi2:=hi.up l1
  have hp2:=hp.up l1
  have hlw:level=(qX h level).length:=(eU h level).symm
  have eni:(τ.nd i).main=(σ.nd i).main:=by rw[l1.nd hi.in.2]
  have hps:X.b=false->PS X τ c.t h g J i level/\τ.ce (τ.nd i).main=m/\∀k,k<path.length->SP τ c.t h g k (path.getD k 0):=λ hb=>by
   obtain⟨q1,q2⟩:=hs0 hb
   obtain⟨r1,r2,r3⟩:=q1.read i1 hT1 l1 fr
   exact⟨r1,by rw[eni];exact r2,λ k hk=>(q2 k hk).fl i1 l1 r3 (by omega)⟩
  try dsimp only
  split
  ·rename_i h5
   have h0:=((i2.nd m hm.in.1 hm.in.2).k5 h5).1
   rw[hm.2.1,eU] at h0
   refine(I5 hX (n:=nk+440+40*(11-level)) (hT.up l01) i2 (hp2 (level-1) (by omega)) (by rw[eU];omega) hi2.1.1 λ υ _ l2 i3 hc=>(hA υ (l01.trans i00 i2 l2) i3 λ hb=>?_).mono (by omega))
   obtain⟨r1,r2,r3⟩:=hps hb
   exact r1.clean i2 (hT.up l01) (hp2 (level-1) (by omega)) (by rw[eU];omega) (r3 (level-1) (by omega)) r2 hs h5 l2 hc
  ·rename_i h5
   refine(Ol hX (n:=nk+440+40*(11-level)+20) (hT.up l01) i2 hi2 hm hs (rM h level) hlw h5 λ υ r what l2 i3 hr hf hw0=>?_)
   have l02:=l01.trans i00 i2 l2
   try dsimp only
   split
   ·try dsimp only
    split
    ·refine(y7 (nn:=nk) hX (hT.up l02) i3 (hp2.up l2) (λ χ l3 i4=>hK χ r (l02.trans i00 i3 l3) i4 hr) (path.length-1) υ (Le.refl υ) i3 (by omega)).mono (by omega)
    ·exact(hK υ r l02 i3 hr).mono (by omega)
   try dsimp only
   split
   ·rename_i hz
    refine(hA υ l02 i3 λ hb=>?_).mono (by omega)
    obtain⟨r1,r2,r3⟩:=hps hb
    exact absurd hz (hw0 r1.so r2)
   rename_i hw1 hw2
   have hfu:vz τ m h level/\υ=τ:=by
    rcases hf with h|h|h
    ·exact absurd h hw2
    ·exact absurd h hw1
    ·exact h
   obtain⟨hfu,eυ⟩:=hfu
   subst eυ
   refine Sh hX (hT.up l01) i2 hi2 hm hs hlw hfu λ χ b l3 i4 hb hbf=>?_
   have l03:=l01.trans i00 i2 l3
   try dsimp only
   split
   ·rename_i hb0
    refine(hA χ l03 i4 λ hx=>?_).mono (by omega)
    obtain⟨r1,r2,r3⟩:=hps hx
    exact absurd hb0 (hbf r1.so r2).1
   ·rename_i hb0
    rcases hb with hb|hb
    ·exact absurd hb hb0
    ·have hb2:=hb
     rw[<- Hy] at hb
     have e2:nk+440+40*(11-level)=nk+440+40*(12-(level+1)):=by omega
     rw[e2]
     refine Mt hX hT i00 hK hA q χ b (path++[b]) (level+1) l03 i4 hb ((hp2.up l3).snoc (by rw[hpl];exact hb)) (by rw[List.length_append,hpl];rfl) λ hx=>?_
     obtain⟨r1,r2,r3⟩:=hps hx
     obtain⟨b1,b2,b3,b4⟩:=hbf r1.so r2
     have hd:=r1.cu i2 (hT.up l01) hi2 hm hlw r2 hfu l3 hb2 b2 b3 b4
     rw[eU] at b3
     refine⟨hd,λ k hk=>?_⟩
     rw[List.length_append,List.length_singleton] at hk
     rw[fM]
     by_cases ek:k<path.length
     ·rw[List.getElem?_append_left ek,<- fM]
      exact(r3 k ek).fl i2 l3 b3 (by omega)
     ·have:k=path.length:=by omega
      subst this
      have:=hd.sp
      rw[<- hpl] at this
      simpa using this
theorem X4{σ0:Kw}{K:Rs->Tr}(hX:Fm X)(hb:X.b=true)(hC:1000<=X.C)(hAp:∀q,X.A (qJ c h K (q+1)))(hT:bU σ0 c.t)(i00:Inv X.H σ0)(hK:∀τ r,Le σ0 τ->Inv X.H τ->r.root=0->XT X (K r) 0 τ):∀(q:Nat) (σ:Kw),Le σ0 σ->Inv X.H σ->XT X (qJ c h K q) 0 σ
 | 0,_,_,_=>trivial
 | q+1,σ,l,i1=>by
  have hbf:∀{p:Prop},X.b=false->p:=λ h=>by rw[hb] at h;cases h
  refine XT.fresh (hAp q) ?_
  refine XT.mono (show 0+440+480+15<=X.C+1 by omega) ?_
  refine zU hX.toVo (hT.up l) i1 λ τ i l1 i2 hi _=>cK hi.in.2 ?_
  have l01:=l.trans i00 i1 l1
  refine Mt (J:=12) (g:=(τ.nd i).gen) hX hT i00 hK (λ υ l2 i3 _=>(X4 hX hb hC hAp hT i00 hK q υ l2 i3).mono (by omega)) q τ i [i] 0 l01 i2 ⟨hi,rfl⟩ (λ k hk=>?_) rfl hbf
  have:k=0:=by simpa using hk
  subst this
  exact⟨hi,rfl⟩
end
end

/- Procedures among others or alone: SNAPSHOT, FREEZE, CLEAR; calls. -/
section
open Go Go.RowKit Go.Ct
section
variable{X:Xp}{σ τ υ:Kw}{i m p g v:Int}{w:List Nat}{t:eA}{n:Nat}{c:Cl}{h:Nat}{H:ByteArray->Nat}
structure Qok(X:Xp):Prop where
 q:∀r σ,Q0 r σ->X.Q r σ
theorem pS{r:Rs}(hq:Qok X)(h:Q0 r σ):XT X (.done r) n σ:=.inr (hq.q r σ h)
theorem qY{r:Rs}(h:r.root=0):Q0 r σ:=λ h0=>by rw[h] at h0;exact absurd h0 (by decide)
theorem W4{g':Int}(hX:Fm X)(hq:Qok X)(i0:Inv X.H σ)(hm:mE σ m [] g')(hs:aX σ m)(hg:g'<=σ.mm.gen):XT X (H4 m .done) n σ:=by
 have hgen:=i0.gen
 refine Wv hX i0 λ υ l1 i1 e1=>?_
 have e2:υ.mm.gen=σ.mm.gen+1:=by rw[e1]
 exact xP (g:=σ.mm.gen+1) hX i1 (by omega) (by omega) (by simp) (hm.up l1) (aX.up i0 hm.1 hs l1) (by omega) λ τ j l2 i2 hj _=>Ph hX false i2 hj.1 λ ρ c l3 i3 h0 hc=>pS hq λ _=>hc
theorem Ki(e:υ.mm=⟨σ.mm.nodes,σ.mm.cs,σ.mm.gen+1⟩):F8 σ υ:=λ x _=>by
 show bV υ.mm.cs x=_
 rw[e]
theorem W7{r:Int}(hT:bU σ t)(i1:Inv X.H τ)(l2:Le τ υ)(hb:X.b=false)(hr:τ.ce t.root=r)(hI:sA τ r [])(hT1:bU τ t)(hm:τ.ce (τ.nd r).main=m)(hk:bT (τ.nd m))(hs:aX τ m)(f:F8 τ υ):RcS X υ t r m :=
 ⟨hb,by rw[f _ hT1.2.1];exact hr,by rw[l2.nd hI.in.2,f _ (i1.dK hI.1).2.1];exact hm,aX.up i1 hk hs l2⟩
theorem gm{fz:Bool}{again:Tr}(hX:Fm X)(hq:Qok X)(hT:bU σ t)(hr0:t.ro=false)(i0:Inv X.H σ)(hA:∀τ,Le σ τ->Inv X.H τ->X.b=true->XT X again n τ) :
  XT X (rY t λ r=>lI t r λ m=>.gen λ g=>.alloc (lO g) m λ j=>tT t r m j λ ok =>
   if ok=true then(if fz=true then .cell r λ c=>.done (Gf c true) else H4 m .done) else again) (n+39) σ:=by
 refine zU hX.toVo (n:=n+24) hT i0 λ τ r l1 i2 hr hh=>?_
 have hg:=hr.Ds.Ep i2
 refine nD hX.toVo (n:=n+14) (hT.up l1) i2 hr.Ds λ υ m l2 i3 hm hs fr=>?_
 have l02:=l1.trans i0 i2 l2
 have hgen:=l2.gen
 refine Wv hX i3 λ ρ l3 i4 e3=>?_
 have l03:=l02.trans i0 i3 l3
 have e3':ρ.mm.gen=υ.mm.gen+1:=by rw[e3]
 refine xP (g:=υ.mm.gen+1) hX i4 (by have:=i3.gen;omega) (by omega) (by simp) (hm.up l3) (aX.up i3 hm.1 hs l3) (by omega) λ χ j l4 i5 hj aj=>?_
 have l04:=l03.trans i0 i4 l4
 have l24:=(l2.trans i2 i3 l3).trans i2 i4 l4
 have hm4:=(hm.up l3).up l4
 refine H7 hX (hT.up l04) hr0 i5 (hr.up l24) hj.1 hm4.in.1 hm4.in.2 λ ψ ok l5 i6 hok=>?_
 have l05:=l04.trans i0 i5 l5
 try dsimp only
 split
 ·try dsimp only
  split
  ·exact Ph hX true i6 ((hr.up l24).up l5) λ ω c l6 i7 h0 hc=>pS hq λ _=>hc
  ·exact W4 hX hq i6 (hm4.up l5) (aX.up i3 hm.1 hs ((l3.trans i3 i4 l4).trans i3 i5 l5)) (by have:=l5.gen;have:=l4.gen;have:=l3.gen;omega)
 ·rename_i hno
  cases hb:X.b with
  | true=>exact hA ψ l05 i6 hb
  | false =>
   have hr1:=hh.r hb
   have fs:=fr.s hb (by rw[hr1];exact hr.1)
   have l34:=l3.trans i3 i4 l4
   refine absurd (hok (W7 (hT.up l02) i3 l34 hb ?_ (hr.up l2) (hT.up l02) (by rw[l2.nd hr.in.2];exact fs.1) hm.1 hs ((Ki e3).trans l3 aj.Mk))) hno
   rw[uC (hT.up l1) fs.2];exact hr1
theorem Yf{again:Tr}(hX:Fm X)(hq:Qok X)(hT:bU σ t)(hr0:t.ro=false)(i0:Inv X.H σ)(hA:∀τ,Le σ τ->Inv X.H τ->X.b=true->XT X again n τ) :
  XT X (rY t λ r=>lI t r λ m=>.alloc E3 0 λ c=>.gen λ g=>.alloc (lO g) c λ j=>tT t r m j λ ok=>if ok=true then .done (iK true 0) else again) (n+39) σ:=by
 refine zU hX.toVo (n:=n+24) hT i0 λ τ r l1 i2 hr hh=>?_
 have hg:=hr.Ds.Ep i2
 refine nD hX.toVo (n:=n+14) (hT.up l1) i2 hr.Ds λ υ m l2 i3 hm hs fr=>?_
 have l02:=l1.trans i0 i2 l2
 have hgu:=i3.gen
 have hnew:jG X.H υ E3 ([]:List Nat) (υ.mm.gen+1):=lR (b:=0) (xs:=[]) i3 I1 (λ j hj v hv=>by simp[oS] at hv) (by simp) (λ h=>absurd h (by decide))
 refine gX hX.al i3 hnew (pL i3 (λ e=>cY (a:=3) (b:=2) e)) λ ρ e0 l3 i4 ae=>?_
 have l03:=l02.trans i0 i3 l3
 have hem:mE ρ e0 [] (υ.mm.gen+1):=lY (cl:=0) (.inl rfl) ae.nd ae.way ae.gb
 have hgr:ρ.mm.gen=υ.mm.gen:=by rw[ae.mm];rfl
 refine Wv hX i4 λ χ l4 i5 e4=>?_
 have l04:=l03.trans i0 i4 l4
 have e4':χ.mm.gen=ρ.mm.gen+1:=by rw[e4]
 refine xP (g:=ρ.mm.gen+1) hX i5 (by omega) (by omega) (by simp) (hem.up l4) (aX.up i4 hem.1 (ae.prev (.inl rfl)) l4) (by omega) λ ψ j l5 i6 hj aj=>?_
 have l05:=l04.trans i0 i5 l5
 have l35:=(l3.trans i3 i4 l4).trans i3 i5 l5
 have l25:=l2.trans i2 i3 l35
 have hm5:=((hm.up l3).up l4).up l5
 refine H7 hX (hT.up l05) hr0 i6 (hr.up l25) hj.1 hm5.in.1 hm5.in.2 λ ω ok l6 i7 hok=>?_
 try dsimp only
 split
 ·exact pS hq (qY rfl)
 ·rename_i hno
  cases hb:X.b with
  | true=>exact hA ω (l05.trans i0 i6 l6) i7 hb
  | false =>
   have hr1:=hh.r hb
   have fs:=fr.s hb (by rw[hr1];exact hr.1)
   refine absurd (hok (W7 (hT.up l02) i3 l35 hb ?_ (hr.up l2) (hT.up l02) (by rw[l2.nd hr.in.2];exact fs.1) hm.1 hs ((ae.Mk.trans l3 (Ki e4)).trans (l3.trans i3 i4 l4) aj.Mk))) hno
   rw[uC (hT.up l1) fs.2];exact hr1
def Apt(c:Cl)(h:Nat)(t:Tr):Prop :=
 (c.kind=8/\refuse c=0/\∃q,t=Ak c h .done (q+1))∨(c.kind=9/\∃q,t=qJ c h .done (q+1))∨((c.kind=10∨c.kind=11)/\c.t.ro=false/\∃fz q,t=Ea c.t fz .done (q+1))∨(c.kind=12/\∃q,t=tP c.t .done (q+1))
def XF(H:ByteArray->Nat)(c:Cl)(h:Nat):Xp:=⟨H,Q0,Apt c h,1000,λ _=>False,RF H,true,false⟩
theorem Wa{fz:Bool}(hk:c.kind=10∨c.kind=11)(hT:bU σ c.t)(hr0:c.t.ro=false)(i0:Inv H σ):∀(q:Nat) (σ':Kw),Le σ σ'->Inv H σ'->XT (XF H c h) (Ea c.t fz .done q) 0 σ'
 | 0,_,_,_=>trivial
 | q+1,σ',l,i1=>XT.fresh (X:=XF H c h) (.inr (.inr (.inl ⟨hk,hr0,fz,q,rfl⟩))) (XT.mono (show 0+39<=1000+1 by omega) (gm (X:=XF H c h) ⟨b9 rfl,rfl⟩ ⟨λ _ _ h=>h⟩ (hT.up l) hr0 i1 λ τ l2 i2 _=>Wa hk hT hr0 i0 q τ (l.trans i0 i1 l2) i2))
theorem Rq(hk:c.kind=12)(hT:bU σ c.t)(hr0:c.t.ro=false)(i0:Inv H σ):∀(q:Nat) (σ':Kw),Le σ σ'->Inv H σ'->XT (XF H c h) (tP c.t .done q) 0 σ'
 | 0,_,_,_=>trivial
 | q+1,σ',l,i1=>XT.fresh (X:=XF H c h) (.inr (.inr (.inr ⟨hk,q,rfl⟩))) (XT.mono (show 0+39<=1000+1 by omega) (Yf (X:=XF H c h) ⟨b9 rfl,rfl⟩ ⟨λ _ _ h=>h⟩ (hT.up l) hr0 i1 λ τ l2 i2 _=>Rq hk hT hr0 i0 q τ (l.trans i0 i1 l2) i2))
theorem q0(i0:Inv H σ)(hc:Jq H σ c h)(q:Nat):XT (XF H c h) (lA c h q) 1000 σ:=by
 have hX:Fm (XF H c h):=⟨b9 rfl,rfl⟩
 have hq:Qok (XF H c h):=⟨λ _ _ h=>h⟩
 have i0':Inv (XF H c h).H σ:=i0
 have hA:∀(τ:Kw) (r:Rs),Le σ τ->Inv (XF H c h).H τ->r.root=0->XT (XF H c h) (.done r) 0 τ:=λ τ r _ _ hr=>pS hq (qY hr)
 have ek:=hc.k
 unfold lA
 try dsimp only
 split
 ·exact pS hq (qY rfl)
 rename_i hr0
 have hr:refuse c=0:=Classical.byContradiction hr0
 have hkey:c.kind=7∨c.kind=8∨c.kind=9->Sy H c h:=λ e=>⟨Vt hr e,hc.ha,hc.hl⟩
 try dsimp only
 split
 ·rename_i e
  rcases ek with h|h|⟨_,w,g,h⟩|⟨h,_⟩|⟨h,_⟩
  ·omega
  ·omega
  ·exact(nD hX.toVo hc.t i0' h (n:=0) λ τ m l1 i1 _ _ _=>pS hq (qY rfl)).mono (by omega)
  ·omega
  ·omega
 try dsimp only
 split
 ·rename_i e1 e
  rcases ek with h|h|⟨h,_⟩|⟨_,w,g,h1,h2⟩|⟨h,_⟩
  ·omega
  ·omega
  ·omega
  ·exact(zY hX.toVo hc.t i0' h1 h2 (n:=0) λ τ b l1 i1 _=>pS hq (qY rfl)).mono (by omega)
  ·omega
 try dsimp only
 split
 ·exact(zU hX.toVo hc.t i0' (n:=0) λ τ r l1 i1 _ _=>pS hq (qY rfl)).mono (by omega)
 try dsimp only
 split
 ·rename_i e1 e2 e3 e
  rcases ek with h|h|⟨h,_⟩|⟨h,_⟩|⟨_,h1,h2,h3,h4⟩
  ·omega
  ·omega
  ·omega
  ·omega
  ·exact(H7 hX hc.t (hc.ro (.inr (.inr (.inr (by assumption))))) i0' h1 h2 h3 h4 (n:=0) λ τ b l1 i1 _=>pS hq (qY rfl)).mono (by omega)
 try dsimp only
 split
 ·refine XT.mono (show 120+15<=1000 by omega) (zU hX.toVo hc.t i0' λ τ r l1 i1 hr _=>?_)
  exact(W3 (K:=Tr.done) (n:=0) hX hc.t i0' hA q τ r [] _ 0 l1 i1 hr.Ds).mono (by simp)
 try dsimp only
 split
 ·rename_i e
  exact(oi hX rfl (show 500<=1000 by omega) (λ q=>.inl ⟨e,hr,q,rfl⟩) hc.t i0' (hkey (.inr (.inl e))) hA q σ (Le.refl σ) i0).mono (by omega)
 try dsimp only
 split
 ·rename_i e
  exact(X4 hX rfl (show 1000<=1000 by omega) (λ q=>.inr (.inl ⟨e,q,rfl⟩)) hc.t i0' hA q σ (Le.refl σ) i0).mono (by omega)
 have hsnap:∀fz,(c.kind=10∨c.kind=11)->XT (XF H c h) (rB c.t fz .done q) 1000 σ:=λ fz hk=>by
  unfold rB
  try dsimp only
  split
  ·rename_i hro
   refine XT.mono (show 10+1<=1000 by omega) (nF λ τ hg=>?_)
   have hv:=(hc.t.up hg.le).roI hg.inv hro
   try dsimp only
   split
   ·exact Ph hX true hg.inv hv λ ω c l6 i7 h0 hc=>pS hq λ _=>hc
   ·have hgg:=hv.Ds.Ep hg.inv
    exact nD hX.toVo (n:=0) (hc.t.up hg.le) hg.inv hv.Ds λ υ m l2 i2 hm hs _=>W4 hX hq i2 hm hs (by have:=l2.gen;omega)
  ·rename_i hro
   exact(Wa hk hc.t (by simpa using hro) i0 q σ (Le.refl σ) i0).mono (by omega)
 try dsimp only
 split
 ·exact hsnap false (.inl (by assumption))
 try dsimp only
 split
 ·exact hsnap true (.inr (by assumption))
 ·have hk:c.kind=12:=by omega
  exact(Rq hk hc.t (hc.ro (.inr (.inr (.inl hk)))) i0 q σ (Le.refl σ) i0).mono (by omega)
end
end

/- Worlds: what is pending has somebody who settles it; every operation ends if it runs alone. -/
section
open Go Go.RowKit Go.Ct
section
variable{H:ByteArray->Nat}{σ τ υ:Kw}
structure rr(H:ByteArray->Nat)(t:Tr)(σ:Kw)(c:Cl)(h n:Nat):Prop where
 le:n<=1000
 xt:XT (XF H c h) t n σ
 ok:bU σ c.t
 hl:h<18446744073709551616
 ha:H c.key=h
 ro:c.kind=8∨c.kind=9∨c.kind=12∨c.kind=4->c.t.ro=false
def QM(H:ByteArray->Nat)(rs:List Tr)(σ:Kw):Prop:=∀i,(σ.nd i).kind=2->aX σ (σ.ce (σ.nd i).main)∨∃t∈rs,∃n,XT (X0 H (nz i (σ.ce (σ.nd i).main))) t n σ
def QR(H:ByteArray->Nat)(rs:List Tr)(σ:Kw):Prop:=∀c:Int,1<=c->c<=σ.cl->σ.ct c=.root->(σ.nd (σ.ce c)).kind=2∨∃t∈rs,∃n,XT (X0 H (yf c (σ.ce c))) t n σ
theorem XT.up{X:Xp}(hb:X.b=true)(hQ:∀r,X.Q r σ->X.Q r υ)(i0:Inv X.H σ)(i1:Inv X.H υ)(l:Le σ υ){t:Tr}{n:Nat}(ha:oO t=true)(h:XT X t n σ):X.E σ∨XT X t n υ:=by
 have hg:∀τ,Gg X υ τ->Gg X σ τ:=λ τ g=>⟨l.trans i0 i1 g.le,g.inv,λ e=>by rw[hb] at e;cases e⟩
 cases t with
 | done r =>
  rcases h with h|h
  ·exact .inl h
  ·exact .inr (.inr (hQ r h))
 | load c k =>
  rcases h with h|⟨m,e,h⟩
  ·exact .inl h
  ·exact .inr (.inr ⟨m,e,λ τ g=>h τ (hg τ g)⟩)
 | oG c o v k =>
  rcases h with h|⟨m,e,h⟩
  ·exact .inl h
  ·exact .inr (.inr ⟨m,e,λ τ g=>h τ (hg τ g)⟩)
 | alloc n i k=>cases ha
 | cell i k=>cases ha
 | gen k=>cases ha
 | node r k=>cases ha
 | stuck=>cases ha
theorem rr.up{t:Tr}{c:Cl}{h n:Nat}(i0:Inv H σ)(i1:Inv H υ)(l:Le σ υ)(ha:oO t=true)(k:rr H t σ c h n):rr H t υ c h n :=
 ⟨k.le,(XT.up (X:=XF H c h) rfl (λ r hq=>hq.up l) i0 i1 l ha k.xt).resolve_left id,k.ok.up l,k.hl,k.ha,k.ro⟩
theorem o6{G:Kw->Prop}{t:Tr}{n:Nat}(i0:Inv H σ)(i1:Inv H υ)(l:Le σ υ)(ha:oO t=true)(h:XT (X0 H G) t n σ):G σ∨XT (X0 H G) t n υ:=XT.up (X:=X0 H G) (σ:=σ) (υ:=υ) rfl (λ _ h=>h) i0 i1 l ha h
theorem Pq{i:Int}(h:nz i (σ.ce (σ.nd i).main) σ):aX σ (σ.ce (σ.nd i).main):=h.resolve_left λ h=>h rfl
theorem W9(i0:Inv H σ){i:Int}(hk:(σ.nd i).kind=2):bT (σ.nd (σ.ce (σ.nd i).main)):=(nJ.Yq (i:=i) (w:=σ.way i) (g:=(σ.nd i).gen) i0 ⟨⟨hk,rfl⟩,rfl⟩).1
theorem ri{t t':Tr}{rs:List Tr}(i0:Inv H σ)(i1:Inv H υ)(l:Le σ υ)(hrs:∀u∈rs,oO u=true)(hq:QM H (t::rs) σ)
  (hX:∀G n,XT (X0 H G) t n σ->G σ∨∃n',XT (X0 H G) t' n' υ)
  (hch:∀i,(σ.nd i).kind=2->υ.ce (σ.nd i).main≠σ.ce (σ.nd i).main->aX υ (υ.ce (σ.nd i).main)∨∃n,XT (X0 H (nz i (υ.ce (σ.nd i).main))) t' n υ)
  (hnew:∀i,(υ.nd i).kind=2->(σ.len:Int)<i->aX υ (υ.ce (υ.nd i).main)):QM H (t'::rs) υ:=λ i hk=>by
 by_cases hi:i<=σ.len
 ·have en:=l.nd hi
  rw[en] at hk ⊢
  by_cases hs:υ.ce (σ.nd i).main=σ.ce (σ.nd i).main
  ·rw[hs]
   have hmk:=W9 i0 hk
   have hup:aX σ (σ.ce (σ.nd i).main)->aX υ (σ.ce (σ.nd i).main):=λ h=>aX.up i0 hmk h l
   rcases hq i hk with h|⟨u,hu,n,h⟩
   ·exact .inl (hup h)
   ·rcases List.mem_cons.1 hu with e|hu
    ·subst e
     rcases hX _ n h with h|⟨n',h⟩
     ·exact .inl (hup (Pq h))
     ·exact .inr ⟨t',List.mem_cons_self ..,n',h⟩
    ·rcases o6 i0 i1 l (hrs u hu) h with h|h
     ·exact .inl (hup (Pq h))
     ·exact .inr ⟨u,List.mem_cons_of_mem _ hu,n,h⟩
  ·rcases hch i hk hs with h|⟨n,h⟩
   ·exact .inl h
   ·exact .inr ⟨t',List.mem_cons_self ..,n,h⟩
 ·exact .inl (hnew i hk (by omega))
theorem vp{t t':Tr}{rs:List Tr}(i0:Inv H σ)(i1:Inv H υ)(l:Le σ υ)(hrs:∀u∈rs,oO u=true)(hq:QR H (t::rs) σ)
  (hX:∀G n,XT (X0 H G) t n σ->G σ∨∃n',XT (X0 H G) t' n' υ)
  (hch:∀c:Int,1<=c->c<=σ.cl->σ.ct c=.root->υ.ce c≠σ.ce c->(υ.nd (υ.ce c)).kind=2∨∃n,XT (X0 H (yf c (υ.ce c))) t' n υ)
  (hnew:∀c:Int,υ.ct c=.root->(σ.cl:Int)<c->c<=υ.cl->(υ.nd (υ.ce c)).kind=2):QR H (t'::rs) υ:=λ c h1 h2 hc=>by
 by_cases hi:c<=σ.cl
 ·rw[l.ct c hi] at hc
  by_cases hs:υ.ce c=σ.ce c
  ·rw[hs]
   rcases hq c h1 hi hc with h|⟨u,hu,n,h⟩
   ·exact .inl (by rw[l.nd (iP h)];exact h)
   ·rcases List.mem_cons.1 hu with e|hu
    ·subst e
     rcases hX _ n h with h|⟨n',h⟩
     ·exact absurd rfl h
     ·exact .inr ⟨t',List.mem_cons_self ..,n',h⟩
    ·rcases o6 i0 i1 l (hrs u hu) h with h|h
     ·exact absurd rfl h
     ·exact .inr ⟨u,List.mem_cons_of_mem _ hu,n,h⟩
  ·rcases hch c h1 hi hc hs with h|⟨n,h⟩
   ·exact .inl h
   ·exact .inr ⟨t',List.mem_cons_self ..,n,h⟩
 ·exact .inl (hnew c hc (by omega) h2)
structure Mw(H:ByteArray->Nat)(s:Mm)(ts:List eA)(rs:List Tr)(t:Tr)(σ:Kw):Prop where
 mm:σ.mm=s
 inv:Inv H σ
 ts:∀t∈ts,bU σ t
 op:∃c h n,rr H t σ c h n
 os:∀u∈rs,oO u=true/\∃c h n,rr H u σ c h n
 qm:QM H (t::rs) σ
 qr:QR H (t::rs) σ
theorem Mw.go{s s':Mm}{ts:List eA}{rs:List Tr}{t t':Tr}(w:Mw H s ts rs t σ)(l:Le σ υ)(i1:Inv H υ)(e:υ.mm=s')(hop:∃c h n,rr H t' υ c h n)
  (hX:∀G n,XT (X0 H G) t n σ->G σ∨∃n',XT (X0 H G) t' n' υ)
  (h1:∀i,(σ.nd i).kind=2->υ.ce (σ.nd i).main≠σ.ce (σ.nd i).main->aX υ (υ.ce (σ.nd i).main)∨∃n,XT (X0 H (nz i (υ.ce (σ.nd i).main))) t' n υ)
  (h2:∀i,(υ.nd i).kind=2->(σ.len:Int)<i->aX υ (υ.ce (υ.nd i).main))
  (h3:∀c:Int,1<=c->c<=σ.cl->σ.ct c=.root->υ.ce c≠σ.ce c->(υ.nd (υ.ce c)).kind=2∨∃n,XT (X0 H (yf c (υ.ce c))) t' n υ)
  (h4:∀c:Int,υ.ct c=.root->(σ.cl:Int)<c->c<=υ.cl->(υ.nd (υ.ce c)).kind=2):∃υ,Le σ υ/\Mw H s' ts rs t' υ :=
 ⟨υ,l,e,i1,λ t ht=>(w.ts t ht).up l,hop,λ u hu=>by
  obtain⟨ha,c,h,n,k⟩:=w.os u hu
  exact⟨ha,c,h,n,k.up w.inv i1 l ha⟩,ri w.inv i1 l (λ u hu=>(w.os u hu).1) w.qm hX h1 h2,vp w.inv i1 l (λ u hu=>(w.os u hu).1) w.qr hX h3 h4⟩
theorem Xg{x:Int}{υ:Kw}(e:υ.mm=⟨σ.mm.nodes,σ.mm.cs++[x],σ.mm.gen⟩):F8 σ υ/\υ.cl=σ.cl+1/\υ.ce ((σ.cl+1:Nat):Int)=x:=by
 refine⟨λ y hy=>?_,by simp[Kw.cl,e],?_⟩
 ·show bV υ.mm.cs y=_
  rw[e]
  exact qB hy
 ·show bV υ.mm.cs _=_
  rw[e]
  exact He _ _
theorem ku{nd:Nv}{x:Int}(i1:Inv H υ)(e:υ.mm=σ.mm.push nd x){c:Int}(h1:(σ.cl:Int)<c)(h2:c<=υ.cl):υ.ct c≠.root:=λ hr=>by
 have a:=Dd e
 have hcl:υ.mm.cs=gG nd.kind σ.mm.cs x:=by rw[e];rfl
 have hk:nd.kind=2∨nd.kind=3∨nd.kind=5∨nd.kind=6∨nd.kind=8:=Classical.byContradiction λ hk=>by
  have:υ.cl=σ.cl:=by simp only[Kw.cl,hcl];unfold gG;rw[if_neg hk]
  omega
 have hcl2:υ.cl=σ.cl+1:=by simp only[Kw.cl,hcl];unfold gG;rw[if_pos hk];simp
 have hc:c=((σ.cl+1:Nat):Int):=by omega
 have ek:(υ.nd ((σ.len+1:Nat):Int)).kind=nd.kind:=by rw[a.nd];rfl
 rw[hc] at hr
 rcases hk with k|k|k|k|k
 ·have h:=(i1.dK (r:=((σ.len+1:Nat):Int)) (by rw[ek];exact k)).2.2
  rw[a.nd,show(cS nd σ.cl).main=((σ.cl+1:Nat):Int) from if_pos k,hr] at h;cases h
 ·have h:=(i1.iD (m:=((σ.len+1:Nat):Int)) (.inl (by rw[ek];exact k))).2.2
  rw[a.nd,show(cS nd σ.cl).prev=((σ.cl+1:Nat):Int) from if_pos (.inl k),hr] at h;cases h
 ·have h:=(i1.iD (m:=((σ.len+1:Nat):Int)) (.inr (.inl (by rw[ek];exact k)))).2.2
  rw[a.nd,show(cS nd σ.cl).prev=((σ.cl+1:Nat):Int) from if_pos (.inr (.inl k)),hr] at h;cases h
 ·have h:=(i1.iD (m:=((σ.len+1:Nat):Int)) (.inr (.inr (by rw[ek];exact k)))).2.2
  rw[a.nd,show(cS nd σ.cl).prev=((σ.cl+1:Nat):Int) from if_pos (.inr (.inr k)),hr] at h;cases h
 ·have h:=(i1.Wp (r:=((σ.len+1:Nat):Int)) (by rw[ek];exact k)).2.2
  rw[a.nd,show(cS nd σ.cl).status=((σ.cl+1:Nat):Int) from if_pos k,hr] at h;cases h
theorem Na{x:List Int}{y:Int}(e:υ.mm=⟨σ.mm.nodes,x,y⟩):υ.len=σ.len:=by simp only[Kw.len,e]
theorem Mw.sp{s s':Mm}{ts:List eA}{rs:List Tr}{t t':Tr}(w:Mw H s ts rs t σ)(h:Sp t s t' s'):∃υ,Le σ υ/\Mw H s' ts rs t' υ:=by
 have em:=w.mm
 subst em
 obtain⟨c,hh,n,k⟩:=w.op
 have noN:∀{υ:Kw},υ.len=σ.len->∀i,(υ.nd i).kind=2->(σ.len:Int)<i->aX υ (υ.ce (υ.nd i).main):=λ{υ} el i hk hi=>by
  have:=iP hk
  omega
 cases h with
 | alloc nd i kt s =>
  obtain⟨hst,_,hx⟩:=k.xt.resolve_left id
  obtain⟨υ,l,i1,e,hx⟩:=hx rfl
  have f:F8 σ υ:=Ye e
  refine w.go l i1 e ⟨c,hh,n,k.le,hx,k.ok.up l,k.hl,k.ha,k.ro⟩ (λ G n h=>?_) (λ i' hk hne=>absurd (f _ (w.inv.dK hk).2.1) hne) (λ i' hk hi=>?_) (λ c' _ h2 _ hne=>absurd (f _ h2) hne) (λ c' hc h1 h2=>absurd hc (ku i1 e h1 h2))
  ·rcases h with h|⟨_,h,_⟩
   ·exact .inl h
   ·exact .inr ⟨n,h rfl υ l i1 e⟩
  ·have a:=Dd e
   have hlen:υ.len=σ.len+1:=by simp only[Kw.len,e,Mm.push,List.length_append,List.length_cons,List.length_nil]
   have hi':i'=((σ.len+1:Nat):Int):=by have:=iP hk;omega
   subst hi'
   have hk2:nd.kind=2:=by rw[a.nd] at hk;exact hk
   have hmk:=W9 i1 hk
   rw[a.main hk2] at hmk ⊢
   have hin:=gM hmk
   have hle:i<=σ.len:=by
    have:i≠((σ.len+1:Nat):Int):=λ e2=>by rw[e2] at hmk;unfold bT at hmk;omega
    have h3:i<=((υ.len:Nat):Int):=hin.2
    rw[hlen] at h3
    omega
   have hs:=hst hk2
   unfold aX at hs ⊢
   rw[l.nd hle,f _ (w.inv.nd i hin.1 hle).bd.prev]
   exact hs
 | cell i kt s =>
  obtain⟨hst,_,hx⟩:=k.xt.resolve_left id
  obtain⟨υ,l,i1,e,hx⟩:=hx rfl
  obtain⟨f,f2,f3⟩:=Xg e
  refine w.go l i1 e ⟨c,hh,n,k.le,hx,k.ok.up l,k.hl,k.ha,k.ro⟩ (λ G n h=>?_) (λ i' hk hne=>absurd (f _ (w.inv.dK hk).2.1) hne) (noN (Na e)) (λ c' _ h2 _ hne=>absurd (f _ h2) hne) (λ c' hc h1 h2=>?_)
  ·rcases h with h|⟨_,h,_⟩
   ·exact .inl h
   ·exact .inr ⟨n,h rfl υ l i1 e⟩
  ·have hc':c'=((σ.cl+1:Nat):Int):=by omega
   rw[hc',f3,l.nd (iP hst)]
   exact hst
 | gen kt s =>
  obtain⟨_,hx⟩:=k.xt.resolve_left id
  obtain⟨υ,l,i1,e,hx⟩:=hx rfl
  have f:F8 σ υ:=Ki e
  refine w.go l i1 e ⟨c,hh,n,k.le,hx,k.ok.up l,k.hl,k.ha,k.ro⟩ (λ G n h=>?_) (λ i' hk hne=>absurd (f _ (w.inv.dK hk).2.1) hne) (noN (Na e)) (λ c' _ h2 _ hne=>absurd (f _ h2) hne) (λ c' hc h1 h2=>?_)
  ·rcases h with h|⟨h,_⟩
   ·exact .inl h
   ·exact .inr ⟨n,h rfl υ l i1 e⟩
  ·have:υ.cl=σ.cl:=by simp only[Kw.cl,e]
   omega
 | node r kt s hr =>
  obtain⟨_,hx⟩:=k.xt.resolve_left id
  refine w.go (Le.refl σ) w.inv rfl ⟨c,hh,n,k.le,hx,k.ok,k.hl,k.ha,k.ro⟩ (λ G n h=>?_) (λ _ _ hne=>absurd rfl hne) (noN rfl) (λ _ _ _ _ hne=>absurd rfl hne) (λ c' hc h1 h2=>by omega)
  rcases h with h|⟨_,h⟩
  ·exact .inl h
  ·exact .inr ⟨n,h⟩
theorem Mw.lp{s s':Mm}{ts:List eA}{rs:List Tr}{t t':Tr}(w:Mw H s ts rs t σ)(h:Lp t s t' s'):∃υ,Le σ υ/\Mw H s' ts rs t' υ:=by
 have em:=w.mm
 subst em
 obtain⟨c,hh,n,k⟩:=w.op
 have noN:∀{υ:Kw},υ.len=σ.len->∀i,(υ.nd i).kind=2->(σ.len:Int)<i->aX υ (υ.ce (υ.nd i).main):=λ{υ} el i hk hi=>by
  have:=iP hk
  omega
 have hbud:∀{m:Nat} {P:Prop},(n=m+1∨(P/\m=(XF H c hh).C))->m<=1000:=λ{m P} h=>by
  rcases h with h|⟨_,h⟩
  ·have:=k.le;omega
  ·rw[h];exact Nat.le_refl _
 cases h with
 | load cc kt s =>
  obtain⟨m,e,hx⟩:=k.xt.resolve_left id
  refine w.go (Le.refl σ) w.inv rfl ⟨c,hh,m,hbud e,hx σ (Gg.refl w.inv),k.ok,k.hl,k.ha,k.ro⟩ (λ G n h=>?_) (λ _ _ hne=>absurd rfl hne) (noN rfl) (λ _ _ _ _ hne=>absurd rfl hne) (λ c' hc h1 h2=>by omega)
  rcases h with h|⟨m,_,h⟩
  ·exact .inl h
  ·exact .inr ⟨m,h σ (Gg.refl (X:=X0 H G) w.inv)⟩
 | oG cc o v kt s b hb =>
  obtain⟨m,e,hx⟩:=k.xt.resolve_left id
  have hx:=hx σ (Gg.refl w.inv)
  have hm:m<=1000:=by have:=k.le;omega
  cases b with
  | true =>
   have hc:iT σ.mm.cs cc o:=hb.1 rfl
   obtain⟨l,i1,hR,hx⟩:=hx.1 hc
   have hce:∀x,(σ.set cc o v).ce x=if x=cc then v else σ.ce x:=λ x=>iZ hc x
   refine w.go l i1 rfl ⟨c,hh,m,hm,hx,k.ok.up l,k.hl,k.ha,k.ro⟩ (λ G n h=>?_) (λ i hk hne=>?_) (noN rfl) (λ c' h1 h2 hr hne=>?_) (λ c' hc h1 h2=>?_)
   ·rcases h with h|⟨m,_,h⟩
    ·exact .inl h
    ·exact .inr ⟨m,((h σ (Gg.refl (X:=X0 H G) w.inv)).1 hc).2.2.2⟩
   ·have ec:(σ.nd i).main=cc:=Classical.byContradiction λ h=>hne (by rw[hce,if_neg h])
    have hct:=(w.inv.dK hk).2.2
    rw[ec] at hct ⊢
    rw[hce,if_pos rfl]
    exact hR.1 i hct
   ·have ec:c'=cc:=Classical.byContradiction λ h=>hne (by rw[hce,if_neg h])
    subst ec
    rw[hce,if_pos rfl]
    exact hR.2 hr
   ·have:(σ.set cc o v).cl=σ.cl:=kF
    omega
  | false =>
   have hn:¬iT σ.mm.cs cc o:=λ h=>by have:=hb.2 h;cases this
   have es:gF σ.mm.cs cc o v=σ.mm.cs:=zE hn
   rw[es]
   refine w.go (Le.refl σ) w.inv rfl ⟨c,hh,m,hm,hx.2 hn,k.ok,k.hl,k.ha,k.ro⟩ (λ G n h=>?_) (λ _ _ hne=>absurd rfl hne) (noN rfl) (λ _ _ _ _ hne=>absurd rfl hne) (λ c' hc h1 h2=>by omega)
   rcases h with h|⟨m,_,h⟩
   ·exact .inl h
   ·exact .inr ⟨m,(h σ (Gg.refl (X:=X0 H G) w.inv)).2 hn⟩
theorem Mw.rc{s s':Mm}{ts:List eA}{rs:List Tr}{t t':Tr}{j:Nat}(h:Rc j t s t' s'):∀{σ:Kw},Mw H s ts rs t σ->∃υ,Le σ υ/\Mw H s' ts rs t' υ:=by
 induction h with
 | refl t s=>intro σ w;exact⟨σ,Le.refl σ,w⟩
 | tG _ hs ih =>
  intro σ w
  obtain⟨υ,l1,w1⟩:=ih w
  obtain⟨ρ,l2,w2⟩:=w1.sp hs
  exact⟨ρ,l1.trans w.inv w1.inv l2,w2⟩
 | loud _ hs ih =>
  intro σ w
  obtain⟨υ,l1,w1⟩:=ih w
  obtain⟨ρ,l2,w2⟩:=w1.lp hs
  exact⟨ρ,l1.trans w.inv w1.inv l2,w2⟩
end
end

/- Worlds: what is pending has somebody who settles it; nothing is pending if no operation is left; an operation that runs alone ends. -/
section
open Go Go.RowKit Go.Ct
section
variable{H:ByteArray->Nat}{σ τ υ:Kw}
structure WQ(H:ByteArray->Nat)(s:Mm)(ts:List eA)(rs:List Tr)(σ:Kw):Prop where
 mm:σ.mm=s
 inv:Inv H σ
 ts:∀t∈ts,bU σ t
 os:∀u∈rs,oO u=true/\∃c h n,rr H u σ c h n
 qm:QM H rs σ
 qr:QR H rs σ
theorem WQ.one{s:Mm}{ts:List eA}{t:Tr}{rs:List Tr}(w:WQ H s ts (t::rs) σ):Mw H s ts rs t σ:=⟨w.mm,w.inv,w.ts,(w.os t (List.mem_cons_self ..)).2,λ u hu=>w.os u (List.mem_cons_of_mem _ hu),w.qm,w.qr⟩
theorem Mw.all{s:Mm}{ts:List eA}{t:Tr}{rs:List Tr}(ha:oO t=true)(w:Mw H s ts rs t σ):WQ H s ts (t::rs) σ:=⟨w.mm,w.inv,w.ts,λ u hu=>by
 rcases List.mem_cons.1 hu with rfl|hu
 ·exact⟨ha,w.op⟩
 ·exact w.os u hu,w.qm,w.qr⟩
theorem QM.sub{rs rs':List Tr}(h:QM H rs σ)(hs:∀t∈rs,t∈rs'):QM H rs' σ:=λ i hk=>(h i hk).imp id λ⟨t,ht,x⟩=>⟨t,hs t ht,x⟩
theorem QR.sub{rs rs':List Tr}(h:QR H rs σ)(hs:∀t∈rs,t∈rs'):QR H rs' σ:=λ i h1 h2 hk=>(h i h1 h2 hk).imp id λ⟨t,ht,x⟩=>⟨t,hs t ht,x⟩
theorem xl(i:Inv H σ)(e:σ.mm=vc):QM H [] σ/\QR H [] σ:=by
 have n1:σ.nd 1=cN.c:=by simp only[Kw.nd,e];rfl
 have n2:σ.nd 2=cN.c:=by simp only[Kw.nd,e];rfl
 have n3:σ.nd 3=cS (({Nd.zero with kind:=3}:Nd).c [] []) 0:=by simp only[Kw.nd,e];rfl
 have n4:σ.nd 4=cS (({Nd.zero with kind:=2,gen:=1}:Nd).c [] []) 1:=by simp only[Kw.nd,e];rfl
 have c1:σ.ce 1=0:=by simp only[Kw.ce,e];rfl
 have c2:σ.ce 2=3:=by simp only[Kw.ce,e];rfl
 have c3:σ.ce 3=4:=by simp only[Kw.ce,e];rfl
 have hl:σ.len=4:=by simp only[Kw.len,e];rfl
 have hcl:σ.cl=3:=by simp only[Kw.cl,e];rfl
 refine⟨λ i' hk=>.inl ?_,λ c h1 h2 hc=>.inl ?_⟩
 ·have hr:=dD (N:=σ.mm.nodes) (i:=i') (by rw[hk];decide)
  have hr2:i'<=4:=by have h2:i'<=(σ.len:Int):=hr.2;rw[hl] at h2;exact h2
  have:i'=1∨i'=2∨i'=3∨i'=4:=by have:=hr.1;omega
  rcases this with rfl|rfl|rfl|rfl
  ·rw[n1] at hk;exact cY (a:=1) (b:=2) hk
  ·rw[n2] at hk;exact cY (a:=1) (b:=2) hk
  ·rw[n3] at hk;exact cY (a:=3) (b:=2) hk
  ·have em:(σ.nd 4).main=2:=by rw[n4];rfl
   have ep:(σ.nd 3).prev=1:=by rw[n3];rfl
   unfold aX
   rw[em,c2,ep]
   exact c1
 ·rw[hcl] at h2
  have k3:(σ.nd 3).kind=3:=by rw[n3];rfl
  have k4:(σ.nd 4).kind=2:=by rw[n4];rfl
  have:c=1∨c=2∨c=3:=by omega
  rcases this with rfl|rfl|rfl
  ·have:=(i.iD (m:=3) (.inl k3)).2.2
   rw[show(σ.nd 3).prev=1 by rw[n3];rfl,hc] at this
   cases this
  ·have:=(i.dK (r:=4) k4).2.2
   rw[show(σ.nd 4).main=2 by rw[n4];rfl,hc] at this
   cases this
  ·rw[c3];exact k4
theorem WR.quiet{m:Nat}{s:Mm}{ts:List eA}{rs:List Tr}(h:WR H m s ts rs):∃σ,WQ H s ts rs σ:=by
 induction h with
 | new =>
  obtain⟨υ,l,i,e,hq⟩:=WT.rc Uw rfl (Qs H) (Ts (Qs H))
  obtain⟨q1,q2⟩:=xl i e
  refine⟨υ,e,i,λ t ht=>?_,(λ t ht=>nomatch ht),q1,q2⟩
  rw[List.mem_singleton.1 ht]
  exact hq (by decide)
 | start _ hk hr ha ih =>
  obtain⟨σ,w⟩:=ih
  have hc:=hk σ w.mm w.inv w.ts
  obtain⟨υ,l,w2⟩:=Mw.rc hr (σ:=σ) ⟨w.mm,w.inv,w.ts,⟨_,_,1000,Nat.le_refl _,q0 w.inv hc _,hc.t,hc.hl,hc.ha,hc.ro⟩,w.os,w.qm.sub λ t ht=>List.mem_cons_of_mem _ ht,w.qr.sub λ t ht=>List.mem_cons_of_mem _ ht⟩
  exact⟨υ,w2.all ha⟩
 | step _ hr ha ih =>
  obtain⟨σ,w⟩:=ih
  obtain⟨υ,l,w2⟩:=Mw.rc hr w.one
  exact⟨υ,w2.all ha⟩
 | perm _ hp ih =>
  obtain⟨σ,w⟩:=ih
  exact⟨σ,w.mm,w.inv,w.ts,λ u hu=>w.os u (hp.mem_iff.2 hu),w.qm.sub λ t ht=>hp.mem_iff.1 ht,w.qr.sub λ t ht=>hp.mem_iff.1 ht⟩
 | drop _ ih =>
  obtain⟨σ,w⟩:=ih
  refine⟨σ,w.mm,w.inv,w.ts,λ u hu=>w.os u (List.mem_cons_of_mem _ hu),λ i hk=>?_,λ c h1 h2 hc=>?_⟩
  ·rcases w.qm i hk with h|⟨t,ht,n,h⟩
   ·exact .inl h
   ·rcases List.mem_cons.1 ht with rfl|ht
    ·exact .inl (Pq (h.resolve_right id))
    ·exact .inr ⟨t,ht,n,h⟩
  ·rcases w.qr c h1 h2 hc with h|⟨t,ht,n,h⟩
   ·exact .inl h
   ·rcases List.mem_cons.1 ht with rfl|ht
    ·exact absurd rfl (h.resolve_right id)
    ·exact .inr ⟨t,ht,n,h⟩
 | add _ h0 ih =>
  obtain⟨σ,w⟩:=ih
  refine⟨σ,w.mm,w.inv,λ t ht=>?_,w.os,w.qm,w.qr⟩
  rcases List.mem_append.1 ht with ht|ht
  ·exact w.ts t ht
  ·rw[List.mem_singleton.1 ht]
   obtain⟨_,c,h,n,k⟩:=w.os _ (List.mem_cons_self ..)
   exact(k.xt.resolve_left id) h0
structure QS(H:ByteArray->Nat)(s:Mm)(ts:List eA)(σ:Kw):Prop where
 mm:σ.mm=s
 inv:Inv H σ
 ts:∀t∈ts,bU σ t
 st:∀i,(σ.nd i).kind=2->aX σ (σ.ce (σ.nd i).main)
 rt:∀c:Int,1<=c->c<=σ.cl->σ.ct c=.root->(σ.nd (σ.ce c)).kind=2
theorem WR.rest{m:Nat}{s:Mm}{ts:List eA}(h:WR H m s ts []):∃σ,QS H s ts σ:=by
 obtain⟨σ,w⟩:=h.quiet
 exact⟨σ,w.mm,w.inv,w.ts,λ i hk=>(w.qm i hk).resolve_right (λ⟨t,ht,_⟩=>nomatch ht),λ c h1 h2 hc=>(w.qr c h1 h2 hc).resolve_right (λ⟨t,ht,_⟩=>nomatch ht)⟩
end
end

/- Worlds keep the labels. -/
section
open Go Go.RowKit Go.Ct
structure WI(H:ByteArray->Nat)(s:Mm)(ts:List eA)(σ:Kw):Prop where
 mm:σ.mm=s
 inv:Inv H σ
 ts:∀t∈ts,bU σ t
theorem WR.inv{H:ByteArray->Nat}{m:Nat}{s:Mm}{ts:List eA}{rs:List Tr}(h:WR H m s ts rs):∃σ,WI H s ts σ:=by
 obtain⟨σ,w⟩:=h.quiet
 exact⟨σ,w.mm,w.inv,w.ts⟩
end

end Go.Proofs.YtadnboagdhcedaaGreatDoor
