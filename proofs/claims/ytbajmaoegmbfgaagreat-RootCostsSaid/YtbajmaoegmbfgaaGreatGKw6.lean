/- Tries of worlds: RENEW, CLEAN, FIND, UP keep the labels. -/
import Derived.Test.YtbajmaoegmbfgaaGreatGPc2

set_option linter.unusedSimpArgs false
set_option linter.unusedVariables false
namespace Go.Proofs.YtbajmaoegmbfgaaGreat
section
open Go.Ct
theorem bz(h:Nat)(level:Int):∃k:Nat,k<64/\iA h level=(k:Int):=by
 unfold iA
 try dsimp only
 split
 ·exact⟨0,by decide,rfl⟩
 ·exact⟨_,zC _ _,rfl⟩
theorem Lu{h l:Nat}(hl:l<=10):iA h ((l:Nat):Int)=((sl h l:Nat):Int):=by
 unfold iA
 rw[if_neg (by omega),Int.toNat_natCast]
theorem Jp{h k:Nat}{w:List Nat}(hu:iQ h (w++[k])):iQ h w:=λ j hj=>by
 have:=hu j (by simp;omega)
 rw[this,jN,List.getElem?_append_left hj,<- jN]
theorem Zm(h:Nat):iQ h []:=λ k hk=>absurd hk (Nat.not_lt_zero k)
theorem uF{h:Nat}{w:List Nat}(hu:iQ h w):iQ h (w++[sl h w.length]):=λ j hj=>by
 rw[List.length_append,List.length_singleton] at hj
 by_cases e:j<w.length
 ·rw[hu j e,jN,jN,List.getElem?_append_left e]
 ·have:j=w.length:=by omega
  subst this
  simp[jN]
theorem Yb{xs:List Int}{p:Nat}{r b:Int}(hp:p<xs.length)(h:zL xs p r=[b]):b=r/\xs.length=1:=by
 have hl:=vW hp r
 rw[h] at hl
 have h1:xs.length=1:=by simpa using hl.symm
 have hp0:p=0:=by omega
 subst hp0
 have:=Mn (xs:=xs) (p:=0) hp r 0
 rw[h,if_pos rfl] at this
 exact⟨by simpa using this,h1⟩
section
variable{H:ByteArray->Nat}{Q:Rs->Kw->Prop}{σ τ υ:Kw}{i m p g:Int}{w:List Nat}{t:eQ}
theorem H3{v:Nv}{k b:Int}(h:mE v k=some b):v.kind=3:=by
 unfold mE at h
 have:=Al (show(L7 v.nd v.xs v.ys v.bm.toNat k).isSome=true by rw[h];rfl)
 exact this.1.1
theorem pK{r cl:Int}{n:Nv}{c:Nat}(hm:cG n)(e:σ.nd r=dK n c)(hw:σ.way r=w)(hg:σ.gb r=g):oT σ r w g:=⟨by rw[e];exact hm,hw,by rw[hg];exact Int.le_refl _⟩
theorem xP{n:Nv}(hn:cG n)(h:oT σ m w g)(hs:dI σ m):sq σ n m w g :=
 ⟨⟨by have:=h.in;omega,h.in.2⟩,λ k=>by unfold cG at hn;omega,λ _=>.inr ⟨h,hs⟩,λ k=>by unfold cG at hn;omega⟩
abbrev KN(H:ByteArray->Nat)(Q:Rs->Kw->Prop)(σ:Kw)(w:List Nat)(g:Int)(K:Int->Tr):Prop:=∀τ v,Le σ τ->Inv H τ->oT τ v w g->WT H Q (K v) τ
theorem KB.up{K:Bool->Tr}(i0:Inv H σ)(i1:Inv H τ)(h:KB H Q σ K)(l:Le σ τ):KB H Q τ K:=λ υ v l2 i2=>h υ v (l.trans i0 i1 l2) i2
theorem nI.upL{b:Nat}{xs:List Int}(h:nI σ m w g b xs)(l:Le σ τ):nI τ m w g b xs:=by
 have hr:=dW (N:=σ.mm.nodes) (i:=m) (by have:=h.kd;simp only[Kw.nd] at this;rw[this];decide)
 have e:=l.nd hr.2
 refine⟨by rw[e];exact h.kd,by rw[e];exact h.bm,by rw[e];exact h.el,by rw[e];exact h.cv,h.bv,h.wl,λ k hk r hr=>(h.br k hk r hr).up l,λ h0=>⟨(h.ne h0).1,λ b hb=>?_⟩⟩
 have:=(h.ne h0).2 b hb
 rw[l.nd (dW (N:=σ.mm.nodes) (i:=b) (by rw[this];decide)).2];exact this
theorem cr{b:Nat}{xs:List Int}(i0:Inv H σ)(hc:nI σ m w g b xs){k:Nat}(hk:k<64){o r:Int}(ho:mE (σ.nd m) (k:Int)=some o)(hr:Ly σ (w++[k]) g r)(h0:0<w.length->xs.length=1->(σ.nd r).kind=2):lU H σ (ir (σ.nd m) (k:Int) r) w g:=by
 obtain⟨e,h1,h2,h3⟩:=hc.up hk ho hr.in.1
 rw[e]
 refine nT i0 h1 (λ j hj v hv=>?_) hc.wl (λ hw=>⟨λ e=>?_,λ b hb=>?_⟩)
 ·rw[h2 j hj] at hv
  unfold Nu at hv
  split at hv
  ·rename_i ej;cases hv;rw[ej];exact hr
  ·exact hc.br j hj v hv
 ·have:=vW h3 r
  rw[e] at this
  simp at this
  omega
 ·obtain⟨e1,e2⟩:=Yb h3 hb
  rw[e1];exact h0 hw e2
theorem Zy{b:Nat}{xs:List Int}(hc:nI σ m w g b xs){k:Nat}(hk:k<64){o r:Int}(ho:mE (σ.nd m) (k:Int)=some o)(hr:1<=r):(ir (σ.nd m) (k:Int) r).kind=3:=by
 rw[(hc.up hk ho hr).1];rfl
theorem Uy{b:Nat}{xs:List Int}{K:Int->Tr}(i0:Inv H σ)(hm:oT σ m w g)(hs:dI σ m)(hc:nI σ m w g b xs){k:Nat}(hk:k<64){o r:Int}(ho:mE (σ.nd m) (k:Int)=some o)(hr:Ly σ (w++[k]) g r)(h0:0<w.length->xs.length=1->(σ.nd r).kind=2)(hK:KN H Q σ w g K):WT H Q (G8 m (k:Int) r K) σ:=by
 have hmk:cG (ir (σ.nd m) (k:Int) r):=.inl (Zy hc hk ho hr.in.1)
 exact⟨hm.in.2,fX i0 (cr i0 hc hk ho hr h0) (xP hmk hm hs) λ υ n cl l1 i1 _ _ e1 e2 e3 _ _=>hK υ n l1 i1 (pK (cl:=0) hmk e1 e2 e3)⟩
theorem rS.Xy(i0:Inv H σ)(h:rS σ i w g):1<=g/\g<=σ.mm.gen/\w.length<=11:=by
 have hn:=i0.nd i h.in.1 h.in.2
 have h2:=hn.k2 h.1.1
 have hv:=hn.valid.2.2.2.2
 have hg:=hn.gen
 rw[h.2] at hg
 refine⟨?_,hg,by rw[<- h.1.2];exact h2.1⟩
 have hk:=h.1.1
 rcases hv with h|h|h|h|h|h|h
 ·exact absurd (hk.symm.trans h) (by decide)
 ·have:=h.2;rw[<- ‹rS σ i w g›.2];exact this
 ·exact absurd (hk.symm.trans h.1) (by decide)
 ·rcases h.1 with h|h<;>exact absurd (hk.symm.trans h) (by decide)
 ·exact absurd (hk.symm.trans h.1) (by decide)
 ·exact absurd (hk.symm.trans h.1) (by decide)
 ·exact absurd (hk.symm.trans h.1) (by decide)
theorem sQ{K:Int->Tr}{g':Int}(i0:Inv H σ)(h1:1<=g)(h2:g<=σ.mm.gen)(hw:w.length<=11)(hm:oT σ m w g')(hg:g'<=g)(hK:∀τ j,Le σ τ->Inv H τ->rS τ j w g->WT H Q (K j) τ):WT H Q (.alloc (iC g) m K) σ :=
 fX (w:=w) (g:=0) i0 (Kg hw h1 h2) ⟨⟨by have:=hm.in;omega,hm.in.2⟩,λ _=>hm.le hg,λ k=>absurd k (jF (.inr (.inr (.inl rfl)))),λ k=>eK (a:=2) (b:=8) k⟩ λ υ j cl l1 i1 _ _ e1 e2 _ _ _=>hK υ j l1 i1 ⟨⟨by rw[e1];rfl,e2⟩,by rw[e1];rfl⟩
theorem eh{b:Nat}{xs:List Int}{K:Int->Tr}(hT:cL σ t)(i0:Inv H σ)(hi:rS σ i w g)(hm:oT σ m w g)(hs:dI σ m)(hc:nI σ m w g b xs){k:Nat}(hk:k<64){o:Int}(ho:mE (σ.nd m) (k:Int)=some o)(h2:(σ.nd o).kind=2)
  (hK:∀τ v,Le σ τ->Inv H τ->(v=0∨rS τ v (w++[k]) g)->WT H Q (K v) τ):WT H Q (My t i m (k:Int) K) σ:=by
 have hb:rG σ o (w++[k])/\(σ.nd o).gen<=g:=by
  have ho2:=ho
  rw[hc.lk hk] at ho2
  rcases hc.br k hk o ho2 with h|h
  ·rw[h2] at h;exact absurd h.1 (by decide)
  ·exact⟨⟨h.1,h.2.1⟩,h.2.2⟩
 have hg:=hi.Xy i0
 refine⟨hm.in.2,?_⟩
 dsimp only
 rw[show(mE (σ.nd m) (k:Int)).getD 0=o by rw[ho];rfl]
 refine lE hT i0 (g:=(σ.nd o).gen) ⟨hb.1,rfl⟩ λ τ v l1 i1 hv _=>⟨by have:=l1.len;have:=hi.in.2;omega,?_⟩
 have hi1:=hi.up l1
 dsimp only
 rw[hi1.2]
 refine sQ i1 hg.1 (by have:=l1.gen;omega) (by rw[List.length_append,List.length_singleton];have:=hc.wl;omega) hv hb.2 λ υ j l2 i2 hj=>?_
 have l12:=l1.trans i0 i1 l2
 have ho2:mE (υ.nd m) (k:Int)=some o:=by rw[l12.nd hm.in.2];exact ho
 refine Uy i2 (hm.up l12) (dI.up i0 hm.1 hs l12) (hc.upL l12) hk ho2 (.inr ⟨hj.1.1,hj.1.2,by rw[hj.2];exact Int.le_refl _⟩) (λ _ _=>hj.1.1) λ ρ n l3 i3 hn=>?_
 have l13:=l12.trans i0 i2 l3
 refine xV (hT.up l13) i3 (hi.up l13) hn λ χ ok l4 i4=>hK χ _ (l13.trans i0 i3 l4) i4 ?_
 try dsimp only
 split
 ·exact .inr ((hj.up l3).up l4)
 ·exact .inl rfl
theorem m7{v:Nv}(h:v.kind=5):unV v=Iq v.hash v.key v.val:=by
 unfold unV Fa
 rw[if_pos (show v.nd.kind=5 from h)]
 rfl
theorem Me{b:Nat}{xs:List Int}(h:BV b xs):Lq (Iv b xs)=if xs.length=1 then some (xs.getD 0 0) else none:=by
 have hcv:CV (Iv b xs).nd xs []:=by
  have:=aAy h (none,0)
  exact aBe.1 this
 unfold Lq gh
 by_cases e:xs.length=1
 ·rw[if_pos e,if_pos ⟨hcv,e⟩];rfl
 ·rw[if_neg e,if_neg λ h=>e h.2]
theorem da{b:Nat}{xs:List Int}{s:Nv}{level:Int}(h:BV b xs):coV (Iv b xs) level s=if xs.length=1/\0<level/\s.kind=4 then tmV s else Iv b xs:=by
 have e:Uh (Iv b xs).nd (Iv b xs).xs (Iv b xs).ys level s.nd=decide (xs.length=1/\0<level/\s.kind=4):=by
  unfold Uh
  have h1:gh (Iv b xs).nd (Iv b xs).xs (Iv b xs).ys=Lq (Iv b xs):=rfl
  rw[h1,Me h]
  refine decide_eq_decide.2 ⟨λ h=>⟨?_,h.2⟩,λ h=>⟨?_,h.2⟩⟩
  ·have:=h.1
   split at this
   ·assumption
   ·cases this
  ·rw[if_pos h.1];rfl
 unfold coV
 rw[e]
 by_cases hx:xs.length=1/\0<level/\s.kind=4
 ·rw[if_pos hx,if_pos (decide_eq_true hx)]
 ·rw[if_neg hx,if_neg (by rw[decide_eq_false hx];decide)]
structure aBq(H:ByteArray->Nat)(v:Nv):Prop where
 sz:v.key.size<=64
 ha:H v.key=v.hash.toNat
 hn:v.hash=((v.hash.toNat:Nat):Int)
 hl:v.hash.toNat<18446744073709551616
theorem Inv.leaf(i0:Inv H σ){s:Int}(h:(σ.nd s).kind=4∨(σ.nd s).kind=5):aBq H (σ.nd s):=by
 have hr:=dW (N:=σ.mm.nodes) (i:=s) (by rcases h with h|h<;>(simp only[Kw.nd] at h;rw[h];decide))
 have hn:=i0.nd s hr.1 hr.2
 obtain⟨b,hb1,hb2⟩:=hn.bd.hash
 refine⟨?_,?_,by omega,by omega⟩
 ·have hv:=hn.valid.2.2.2.2
  rcases hv with h'|h'|h'|h'|h'|h'|h'
  ·have:(σ.nd s).kind=1:=h';omega
  ·have:(σ.nd s).kind=2:=h'.1;omega
  ·have:(σ.nd s).kind=3:=h'.1;omega
  ·exact h'.2
  ·have:(σ.nd s).kind=6:=h'.1;omega
  ·have:(σ.nd s).kind=8:=h'.1;omega
  ·have:(σ.nd s).kind=7:=h'.1;omega
 ·rcases h with h|h
  ·exact hn.k4 h
  ·exact(hn.k5 h).2.2.1
theorem uw{v:Nv}(h:aBq H v):Iq v.hash v.key v.val=Iq ((v.hash.toNat:Nat):Int) v.key v.val:=by rw[<- h.hn]
theorem Fo{level:Int}{parent child:Int}{h:Nat}{K:Bool->Tr}(hT:cL σ t)(i0:Inv H σ)(hp:rS σ parent w g)(hl:level=(w.length:Int))(hch:(σ.nd child).kind=2)(hK:KB H Q σ K):WT H Q (zR t parent child h level K) σ:=by
 refine lE hT i0 hp λ τ m l1 i1 hm hs=>⟨hm.in.2,?_⟩
 have hK1:=hK.up i0 i1 l1
 try dsimp only
 split
 ·rename_i hlk
  have h3:=H3 hlk
  have hc:=hm.Gp i1 h3
  have hlev:iA h level=((sl h w.length:Nat):Int):=by rw[hl];exact Lu hc.wl
  rw[hlev] at hlk ⊢
  have hk:=zC h w.length
  have hch1:(τ.nd child).kind=2:=by rw[l1.nd (dW (N:=σ.mm.nodes) (i:=child) (by rw[hch];decide)).2];exact hch
  have hb:rG τ child (w++[sl h w.length]):=by
   have h':=hlk
   rw[hc.lk hk] at h'
   rcases hc.br _ hk _ h' with h|h
   ·rw[hch1] at h;exact absurd h.1 (by decide)
   ·exact⟨h.1,h.2.1⟩
  refine lE (hT.up l1) i1 (g:=(τ.nd child).gen) ⟨hb,rfl⟩ λ υ mc l2 i2 hmc _=>⟨hmc.in.2,?_⟩
  try dsimp only
  split
  ·rename_i h5
   have hlf:=i2.leaf (.inr h5)
   have hu:iQ (υ.nd mc).hash.toNat (w++[sl h w.length]):=by
    have:=((i2.nd mc hmc.in.1 hmc.in.2).k5 h5).2.2.2.1
    rwa [hmc.2.1] at this
   rw[m7 h5,uw hlf]
   refine fX (w:=[]) (g:=0) i2 (Bf i2 hlf.sz hlf.ha hlf.hl) ⟨⟨Int.le_refl _,bL _⟩,λ k=>eK (a:=4) (b:=2) k,λ k=>by unfold cG at k;rcases k with k|k|k;exact eK (a:=4) (b:=3) k;exact eK (a:=4) (b:=5) k;exact eK (a:=4) (b:=6) k,λ _=>rfl⟩ λ ρ s cl l3 i3 _ _ e1 _ _ hs1 hs2=>?_
   have l23:=l2.trans i1 i2 l3
   have hm3:=hm.up l23
   have hc3:=hc.upL l23
   have hlk3:mE (ρ.nd m) ((sl h w.length:Nat):Int)=some child:=by rw[l23.nd hm.in.2];exact hlk
   have hbr:Ly ρ (w++[sl h w.length]) g s:=.inl ⟨by rw[e1];rfl,by rw[e1];exact hu⟩
   refine⟨hm3.in.2,?_⟩
   have hup:=hc3.up hk hlk3 hs1
   have hfin:∀n,cG n->lU H ρ n w g->WT H Q (.alloc n m λ r=>oS t parent m r K) ρ:=λ n hmk hn =>
    fX i3 hn (xP hmk hm3 (dI.up i1 hm.1 hs l23)) λ χ r cl l4 i4 _ _ f1 f2 f3 _ _=>by
     have l14:=(l1.trans i0 i1 l23).trans i0 i3 l4
     exact xV (hT.up l14) i4 (hp.up l14) (pK (cl:=0) hmk f1 f2 f3) (hK.up i0 i4 l14)
   dsimp only
   rw[hup.1,da hup.2.1]
   try dsimp only
   split
   ·rename_i hx
    exact hfin _ (.inr (.inl rfl)) (Ie i3 hlf.sz hlf.ha hlf.hl (by omega) (by have:=hc.wl;omega) (Jp hu))
   ·rename_i hx
    refine hfin _ (.inl rfl) ?_
    rw[<- hup.1]
    refine cr i3 hc3 hk hlk3 hbr λ h0 h1=>absurd ⟨?_,by omega,rfl⟩ hx
    rw[vW hup.2.2.2];exact h1
  ·exact hK1 υ _ l2 i2
 ·exact hK1 τ _ (Le.refl τ) i1
theorem W5{h:Nat}{key:ByteArray}{K:Rs->Tr}(hT:cL σ t)(i0:Inv H σ)(hK:∀τ r,Le σ τ->Inv H τ->r.root=0->WT H Q (K r) τ):∀(n:Nat) (σ':Kw) (i:Int) (w:List Nat) (g level:Int),Le σ σ'->Inv H σ'->rS σ' i w g->WT H Q (Dz t h key K n i level) σ'
 | 0,_,_,_,_,_,_,_,_=>trivial
 | n+1,σ',i,w,g,level,l,i1,hi=>by
  refine lE (hT.up l) i1 hi λ τ m l1 i2 hm _=>⟨hm.in.2,?_⟩
  have l01:=l.trans i0 i1 l1
  try dsimp only
  split
  ·(try dsimp only);split<;>exact hK τ _ l01 i2 rfl
  try dsimp only
  split
  ·exact hK τ _ l01 i2 rfl
  cases hlk:mE (τ.nd m) (iA h level) with
  | none=>exact hK τ _ l01 i2 rfl
  | some b =>
   obtain⟨k,hk,ek⟩:=bz h level
   rw[ek] at hlk
   have hc:=hm.Gp i2 (H3 hlk)
   rw[hc.lk hk] at hlk
   have hb:=hc.br k hk b hlk
   refine⟨hb.in.2,?_⟩
   try dsimp only
   split
   ·(try dsimp only);split<;>exact hK τ _ l01 i2 rfl
   ·rename_i h4
    rcases hb with hb|hb
    ·exact absurd hb.1 h4
    ·exact W5 hT i0 hK n τ b (w++[k]) (τ.nd b).gen (level+1) l01 i2 ⟨⟨hb.1,hb.2.1⟩,rfl⟩
end
end

/- Tries of worlds: the lists of the lowest level; the nodes for two keys. -/
section
open Go.Ct
theorem xU{l:List Pr}:Gl l↔∀p∈l,p.1.size<=64:=by
 constructor
 ·intro h p hp
  obtain⟨i,hi,e⟩:=List.mem_iff_getElem.1 hp
  have:=h i hi
  rw[iW hi,e] at this
  exact this
 ·intro h i hi
  rw[iW hi]
  exact h _ (List.getElem_mem hi)
theorem bb{a b:Nat}(ha:a<18446744073709551616)(hb:b<18446744073709551616)(h:∀j,j<11->sl a j=sl b j):a=b:=by
 have key:∀d j,j+d=11->a >>> (6*j)=b >>> (6*j):=by
  intro d
  induction d with
  | zero =>
   intro j hj
   have hj:j=11:=by omega
   subst hj
   rw[Nat.shiftRight_eq_div_pow,Nat.shiftRight_eq_div_pow,Nat.div_eq_of_lt (by omega),Nat.div_eq_of_lt (by omega)]
  | succ d ih =>
   intro j hj
   have h1:=ih (j+1) (by omega)
   have h2:=h j (by omega)
   unfold sl at h2
   rw[<- L6,<- L6] at h1
   omega
 have:=key 11 0 rfl
 simpa using this
theorem gi{a b:Nat}{w:List Nat}(ha:a<18446744073709551616)(hb:b<18446744073709551616)(h1:iQ a w)(h2:iQ b w)(hw:w.length=11):a=b:=bb ha hb λ j hj=>by rw[h1 j (by omega),h2 j (by omega)]
section
variable{H:ByteArray->Nat}{Q:Rs->Kw->Prop}{σ τ υ:Kw}{i m p g:Int}{w:List Nat}{t:eQ}
structure ax(H:ByteArray->Nat)(σ:Kw)(m:Int)(w:List Nat)(h:Nat):Prop where
 kd:(σ.nd m).kind=6
 hs:(σ.nd m).hash=((h:Nat):Int)
 hl:h<18446744073709551616
 lv:LV (σ.nd m).nd (σ.nd m).xs (σ.nd m).ys
 two:2<=(σ.nd m).ys.length
 sa:SA (σ.nd m).ys
 sh:∀p∈(σ.nd m).ys,p.1.size<=64
 ha:∀p∈(σ.nd m).ys,H p.1=h
 wl:w.length=11
 un:iQ h w
theorem oT.vc(i0:Inv H σ)(h:oT σ m w g)(k:(σ.nd m).kind=6):ax H σ m w (σ.nd m).hash.toNat:=by
 have hr:=h.in
 have hn:=i0.nd m hr.1 hr.2
 obtain⟨h1,h2,h3,_⟩:=hn.k6 k
 obtain⟨b,hb1,hb2⟩:=hn.bd.hash
 have hv:=hn.valid.2.2.2.2
 have hl:2<=(σ.nd m).ys.length/\wh (σ.nd m).ys/\Gl (σ.nd m).ys:=by
  rcases hv with h'|h'|h'|h'|h'|h'|h'
  ·have:(σ.nd m).kind=1:=h';omega
  ·have:(σ.nd m).kind=2:=h'.1;omega
  ·have:(σ.nd m).kind=3:=h'.1;omega
  ·rcases h'.1 with h''|h''
   ·have:(σ.nd m).kind=4:=h'';omega
   ·have:(σ.nd m).kind=5:=h'';omega
  ·exact h'.2
  ·have:(σ.nd m).kind=8:=h'.1;omega
  ·have:(σ.nd m).kind=7:=h'.1;omega
 rw[h.2.1] at h1 h2
 exact⟨k,by omega,by omega,⟨k,hn.valid⟩,hl.1,oV.1 hl.2.1,xU.1 hl.2.2,h3,h1,h2⟩
theorem zd(i0:Inv H σ){h:Nat}(hl:ax H σ m w h){k:ByteArray}{u:Int}(hk:k.size<=64)(hH:H k=h):cG (xc (σ.nd m) k u)/\lU H σ (xc (σ.nd m) k u) w g:=by
 have e:xc (σ.nd m) k u=V0 ((h:Nat):Int) (mQ (σ.nd m).ys k u):=by
  unfold xc kY O8
  rw[if_pos ⟨hl.lv,hk⟩,if_pos hl.sa,hl.hs]
  rfl
 rw[e]
 refine⟨.inr (.inr rfl),Fq i0 ?_ (oV.2 (xL hl.sa)) (xU.2 λ p hp=>?_) (λ p hp=>?_) hl.hl hl.wl hl.un⟩
 ·rw[yJ hl.sa]
  have:=hl.two
  (try dsimp only);split<;>omega
 ·rcases An hp with rfl|hp
  ·exact hk
  ·exact hl.sh p hp
 ·rcases An hp with rfl|hp
  ·exact hH
  ·exact hl.ha p hp
theorem ze(i0:Inv H σ){h:Nat}(hl:ax H σ m w h){k:ByteArray}(hf:(dU (σ.nd m).ys k).isSome=true):cG (qc (σ.nd m) k)/\lU H σ (qc (σ.nd m) k) w g:=by
 have hf2:(rT (σ.nd m).ys k).isSome=true:=by unfold dU at hf;rwa [if_pos hl.sa] at hf
 have hlen:=Oq (k:=k) hl.sa
 rw[if_pos hf2] at hlen
 have hmem:∀p∈iY (σ.nd m).ys k,p∈(σ.nd m).ys:=λ p hp=>(List.mem_filter.1 hp).1
 have htwo:=hl.two
 by_cases h1:(iY (σ.nd m).ys k).length=1
 ·have e:qc (σ.nd m) k=iy ((h:Nat):Int) ((iY (σ.nd m).ys k).getD 0 (⟨#[]⟩,0)).1 ((iY (σ.nd m).ys k).getD 0 (⟨#[]⟩,0)).2:=by
   unfold qc pY rV
   rw[if_pos ⟨hl.lv,hf⟩,if_pos hl.sa,hl.hs]
   unfold Nt Iw
   dsimp only
   rw[if_pos h1,if_pos h1]
   rfl
  rw[e]
  have hp:(iY (σ.nd m).ys k).getD 0 (⟨#[]⟩,0)∈(σ.nd m).ys:=hmem _ (by rw[iW (by omega)];exact List.getElem_mem _)
  exact⟨.inr (.inl rfl),Ie i0 (hl.sh _ hp) (hl.ha _ hp) hl.hl (by rw[hl.wl];decide) (by rw[hl.wl];decide) hl.un⟩
 ·have e:qc (σ.nd m) k=V0 ((h:Nat):Int) (iY (σ.nd m).ys k):=by
   unfold qc pY rV
   rw[if_pos ⟨hl.lv,hf⟩,if_pos hl.sa,hl.hs]
   unfold Nt Iw
   dsimp only
   rw[if_neg h1,if_neg h1]
   rfl
  rw[e]
  exact⟨.inr (.inr rfl),Fq i0 (by omega) (oV.2 (vT k hl.sa)) (xU.2 λ p hp=>hl.sh p (hmem p hp)) (λ p hp=>hl.ha p (hmem p hp)) hl.hl hl.wl hl.un⟩
def tK(h l:Nat):List Nat:=(List.range l).map (sl h)
theorem iI(h l:Nat):(tK h l).length=l:=by simp[tK]
theorem Js(h l:Nat):tK h (l+1)=tK h l++[sl h l]:=by simp[tK,List.range_succ]
theorem tC(h l:Nat):iQ h (tK h l):=λ k hk=>by
 rw[iI] at hk
 simp[tK,jN,hk]
theorem uf{h:Nat}{w:List Nat}(hu:iQ h w):w=tK h w.length:=by
 refine List.ext_getElem (by rw[iI]) λ k h1 h2=>?_
 have:=hu k h1
 rw[jN,List.getElem?_eq_getElem h1] at this
 simp only[tK,List.getElem_map,List.getElem_range]
 exact this.symm
theorem Xp{a b l:Nat}(hl:l<=lC a b):iQ a (tK b l):=λ k hk=>by
 rw[iI] at hk
 rw[<- tC b l k (by rw[iI];exact hk)]
 exact Ty (by omega)
theorem Mv:BV 0 []:=⟨by decide,by decide,λ i hi=>absurd hi (Nat.not_lt_zero i)⟩
theorem F4:∀k,gU 0 k=0
 | 0=>rfl
 | k+1=>by simp only[gU,F4 k,Nat.zero_testBit];rfl
theorem ml{k:Nat}(hk:k<64){r:Int}(hr:1<=r):BV (dO 0 (k:Int)) [r]/\∀j,j<64->∀v,rH (dO 0 (k:Int)) [r] j=some v->j=k/\v=r:=by
 rw[pW 0 hk]
 have h:=Ft Mv hk (by simp) hr
 rw[F4,show wV [] 0 r=[r] from rfl] at h
 refine⟨h.1,λ j hj v hv=>?_⟩
 rw[h.2 j hj] at hv
 unfold Nu at hv
 split at hv
 ·cases hv;exact⟨by assumption,rfl⟩
 ·simp[rH] at hv
theorem xe{k l:Nat}(hk:k<64)(hl:l<64)(hne:k≠l){x s:Int}(hx:1<=x)(hs:1<=s):BV (dO (dO 0 (k:Int)) (l:Int)) (two k l x s)/\∀j,j<64->∀v,rH (dO (dO 0 (k:Int)) (l:Int)) (two k l x s) j=some v->(j=k/\v=x)∨(j=l/\v=s):=by
 have h1:=ml hk hx
 rw[pW 0 hk] at h1 ⊢
 rw[pW _ hl]
 have hb:(0 ||| 2^k).testBit l=false:=by rw[As];simp;omega
 have h:=Ft h1.1 hl hb hs
 have hc:gU (0 ||| 2^k) l=if k<l then 1 else 0:=by
  have:=Be (b:=0) (b':=0 ||| 2^k) (i:=k) (by simp) (λ j _=>As 0 k j) l (by omega)
  rw[this,F4];omega
 have e:wV [x] (gU (0 ||| 2^k) l) s=two k l x s:=by
  rw[hc]
  unfold two
  by_cases hkl:k<l
  ·rw[if_pos hkl,if_pos hkl];rfl
  ·rw[if_neg hkl,if_neg hkl];rfl
 rw[e] at h
 refine⟨h.1,λ j hj v hv=>?_⟩
 rw[h.2 j hj] at hv
 unfold Nu at hv
 split at hv
 ·cases hv;exact .inr ⟨by assumption,rfl⟩
 ·exact .inl (h1.2 j hj v hv)
theorem Qa:∀(a b:List NI) (r:Int) (K:Int->Tr),A5 (a++b) r K=A5 a r λ r=>A5 b r K
 | [],_,_,_=>rfl
 | x::a,b,r,K=>by simp only[List.cons_append,A5,Qa a b]
theorem rA{n:Nv}(i0:Inv H σ)(h2:n.kind≠2):sq σ n 0 w g:=⟨⟨Int.le_refl _,bL _⟩,λ k=>absurd k h2,λ _=>.inl rfl,λ _=>rfl⟩
theorem oo{p q:Pr}(hne:p.1≠q.1):2<=(Ee [p,q]).length/\SA (Ee [p,q])/\∀r∈Ee [p,q],r=p∨r=q:=by
 refine⟨?_,fm _,λ r hr=>?_⟩
 ·have h1:Ee [p]=[p]:=rfl
  rw[show [p,q]=[p]++[q] from rfl,wZ,h1,yJ (by simp[SA])]
  have:rT [p] q.1=none:=qE λ r hr=>by rw[List.mem_singleton.1 hr];exact hne
  rw[this]
  simp
 ·rw[show [p,q]=[p]++[q] from rfl,wZ] at hr
  rcases An hr with h|h
  ·exact .inr h
  ·have h1:Ee [p]=[p]:=rfl
   rw[h1] at h
   exact .inl (List.mem_singleton.1 h)
theorem vi{x:Int}{h0 h:Nat}{pk:ByteArray}{pv:Int}{k:ByteArray}{u:Int}{K:Int->Tr}(hh0:h0<18446744073709551616)(hh:h<18446744073709551616)(hH:H k=h)(hk:k.size<=64)(hg1:1<=g)(hne:pk≠k)(hpk:pk.size<=64)(hpH:H pk=h0) :
  ∀(n lvl:Nat) (σ:Kw) (r:Int) (f:Nat),lvl+n=lC h0 h->Inv H σ->(σ.nd x).kind=4->(σ.nd x).hash.toNat=h0->g<=σ.mm.gen->f=σ.len+1 ->
  (∀υ,Le σ υ->Inv H υ->υ.len=σ.len+(dN x h0 h (pk,pv) k u g f n lvl).length->oT υ ((f-1+(dN x h0 h (pk,pv) k u g f n lvl).length:Nat):Int) (tK h lvl) g->WT H Q (K ((f-1+(dN x h0 h (pk,pv) k u g f n lvl).length:Nat):Int)) υ) ->
  WT H Q (A5 (dN x h0 h (pk,pv) k u g f n lvl) r K) σ
 | 0,lvl,σ,r,f,hn,i0,hx4,hxh,hgg,hf,hK=>by
  have hx:=dW (N:=σ.mm.nodes) (i:=x) (by have:=hx4;simp only[Kw.nd] at this;rw[this];decide)
  have hcl:=zT h0 h
  unfold dN at hK ⊢
  try dsimp only
  split
  ·rename_i e
   rw[if_pos e] at hK
   subst e
   have heq:h0=h:=bb hh0 hh λ j hj=>Ty (by omega)
   obtain⟨o1,o2,o3⟩:=oo (p:=(pk,pv)) (q:=(k,u)) hne
   have hnew:lU H σ (V0 ((h:Nat):Int) (Ee [(pk,pv),(k,u)])) (tK h 11) g:=Fq i0 o1 (oV.2 o2) (xU.2 λ p hp=>by rcases o3 p hp with rfl|rfl;exact hpk;exact hk) (λ p hp=>by rcases o3 p hp with rfl|rfl;exact hpH.trans heq;exact hH) hh (iI h 11) (tC h 11)
   refine fX i0 hnew (rA i0 (λ e=>eK (a:=6) (b:=2) e)) λ υ r' cl l1 i1 er em e1 e2 e3 h1 h2=>?_
   have hr':r'=((f-1+[Fu h (Ee [(pk,pv),(k,u)])].length:Nat):Int):=by rw[er,hf];simp
   have hlen:υ.len=σ.len+1:=by simp[Kw.len,em,Mm.push]
   show WT H Q (K r') υ
   rw[hr']
   refine hK υ l1 i1 hlen ?_
   rw[<- hr']
   exact pK (cl:=0) (.inr (.inr rfl)) e1 e2 e3
  ·rename_i e
   rw[if_neg e] at hK
   have hlv:lvl=lC h0 h:=by omega
   have hne2:sl h0 lvl≠sl h lvl:=by rw[hlv];exact Lf (by omega)
   refine fX (w:=[]) (g:=0) i0 (Bf i0 hk hH hh) (rA i0 (λ e=>eK (a:=4) (b:=2) e)) λ υ s cl l1 i1 er em e1 _ _ hs1 hs2=>?_
   have hlen:υ.len=σ.len+1:=by simp[Kw.len,em,Mm.push]
   have hsf:s=(f:Int):=by rw[er,hf]
   obtain⟨b1,b2⟩:=xe (zC h0 lvl) (zC h lvl) hne2 (x:=x) (s:=s) hx.1 hs1
   have hx4':(υ.nd x).kind=4:=by rw[l1.nd hx.2];exact hx4
   have hxh':(υ.nd x).hash.toNat=h0:=by rw[l1.nd hx.2];exact hxh
   have hnew:lU H υ (Iv (dO (dO 0 (sl h0 lvl:Int)) (sl h lvl:Int)) (two (sl h0 lvl) (sl h lvl) x s)) (tK h lvl) g:=by
    refine nT i1 b1 (λ j hj v hv=>?_) (by rw[iI];omega) (λ _=>⟨λ e=>?_,λ b hb=>?_⟩)
    ·rcases b2 j hj v hv with⟨rfl,rfl⟩|⟨rfl,rfl⟩
     ·refine .inl ⟨hx4',?_⟩
      rw[hxh']
      have:=uF (Xp (a:=h0) (b:=h) (l:=lvl) (by omega))
      rwa [iI] at this
     ·refine .inl ⟨by rw[e1];rfl,?_⟩
      rw[e1]
      have:=uF (tC h lvl)
      rw[iI] at this
      exact this
    ·unfold two at e;split at e<;>cases e
    ·unfold two at hb;split at hb<;>cases hb
   rw[hsf] at hnew
   show WT H Q (.alloc (Iv (dO (dO 0 (sl h0 lvl:Int)) (sl h lvl:Int)) (two (sl h0 lvl) (sl h lvl) x (f:Int))) 0 K) υ
   refine fX i1 hnew (rA i1 (λ e=>eK (a:=3) (b:=2) e)) λ ρ r' cl l2 i2 er2 em2 e4 e5 e6 h1 h2=>?_
   have hlen2:ρ.len=υ.len+1:=by simp[Kw.len,em2,Mm.push]
   have hr':r'=((f-1+[vO h k u,fh (dO (dO 0 (sl h0 lvl:Int)) (sl h lvl:Int)) (two (sl h0 lvl) (sl h lvl) x (f:Int))].length:Nat):Int):=by
    rw[er2];simp only[List.length_cons,List.length_nil];omega
   rw[hr']
   refine hK ρ (l1.trans i0 i1 l2) i2 (by simp only[List.length_cons,List.length_nil];omega) ?_
   rw[<- hr']
   exact pK (cl:=0) (.inl rfl) e4 e5 e6
 | n+1,lvl,σ,r,f,hn,i0,hx4,hxh,hgg,hf,hK=>by
  have hx:=dW (N:=σ.mm.nodes) (i:=x) (by have:=hx4;simp only[Kw.nd] at this;rw[this];decide)
  have hcl:=zT h0 h
  unfold dN at hK ⊢
  rw[Qa]
  refine vi hh0 hh hH hk hg1 hne hpk hpH n (lvl+1) σ r f (by omega) i0 hx4 hxh hgg hf λ υ l1 i1 el hm=>?_
  generalize hd:(dN x h0 h (pk,pv) k u g f n (lvl+1)).length=d at *
  show WT H Q (.alloc (iC g) ((f-1+d:Nat):Int) λ _=>.alloc (Iv (dO 0 (sl h lvl:Int)) [((f+d:Nat):Int)]) 0 K) υ
  refine fX (w:=tK h (lvl+1)) (g:=0) i1 (Kg (by rw[iI];omega) hg1 (by have:=l1.gen;omega)) ⟨⟨by omega,hm.in.2⟩,λ _=>hm,λ k=>absurd k (jF (.inr (.inr (.inl rfl)))),λ k=>eK (a:=2) (b:=8) k⟩ λ ρ j cl l2 i2 er em e1 e2 _ hj1 hj2=>?_
  have hlen:ρ.len=υ.len+1:=by simp[Kw.len,em,Mm.push]
  have hj:j=((f+d:Nat):Int):=by rw[er];omega
  obtain⟨b1,b2⟩:=ml (zC h lvl) (r:=j) hj1
  have hnew:lU H ρ (Iv (dO 0 (sl h lvl:Int)) [j]) (tK h lvl) g:=by
   refine nT i2 b1 (λ q hq v hv=>?_) (by rw[iI];omega) (λ _=>⟨by simp,λ b hb=>?_⟩)
   ·obtain⟨rfl,rfl⟩:=b2 q hq v hv
    exact .inr ⟨by rw[e1];rfl,by rw[e2,Js],by rw[e1];exact Int.le_refl _⟩
   ·cases hb;rw[e1];rfl
  rw[hj] at hnew
  refine fX i2 hnew (rA i2 (λ e=>eK (a:=3) (b:=2) e)) λ χ r' cl l3 i3 er2 em2 e4 e5 e6 h1 h2=>?_
  have hlen2:χ.len=ρ.len+1:=by simp[Kw.len,em2,Mm.push]
  have hr':r'=((f-1+(d+2):Nat):Int):=by rw[er2];omega
  have hL:(dN x h0 h (pk,pv) k u g f n (lvl+1)++[rC g ((f-1+d:Nat):Int),fh (dO 0 (sl h lvl:Int)) [((f+d:Nat):Int)]]).length=d+2:=by rw[List.length_append,hd];rfl
  rw[hL] at hK
  rw[hr']
  refine hK χ ((l1.trans i0 i1 l2).trans i0 i2 l3) i3 (by omega) ?_
  rw[<- hr']
  exact pK (cl:=0) (.inl rfl) e4 e5 e6
theorem Wp{x:Int}{h0 h:Nat}{p:Pr}{k:ByteArray}{u g:Int}:∀(n lvl:Nat),∃a:NI,∀f,∃l,dN x h0 h p k u g f n lvl=a::l
 | 0,lvl=>by
  by_cases e:lvl=11
  ·exact⟨Fu h (Ee [p,(k,u)]),λ f=>⟨[],by unfold dN;rw[if_pos e]⟩⟩
  ·exact⟨vO h k u,λ f=>⟨_,by unfold dN;rw[if_neg e]⟩⟩
 | n+1,lvl=>by
  obtain⟨a,ha⟩:=Wp (x:=x) (h0:=h0) (h:=h) (p:=p) (k:=k) (u:=u) (g:=g) n (lvl+1)
  refine⟨a,λ f=>?_⟩
  obtain⟨l,hl⟩:=ha f
  exact⟨_,by unfold dN;rw[hl];rfl⟩
theorem qn{c:Cl}{b:Int}{h level:Nat}{K:Int->Tr}(i0:Inv H σ)(hb4:(σ.nd b).kind=4)(hu0:iQ (σ.nd b).hash.toNat w)(hu:iQ h w)(hl:level=w.length)(hw:w.length<=11)(hh:h<18446744073709551616)(hH:H c.key=h)(hk:c.key.size<=64)(hg1:1<=g)(hgg:g<=σ.mm.gen)(hne:(σ.nd b).key≠c.key)
  (hK:∀υ d,Le σ υ->Inv H υ->oT υ d w g->WT H Q (K d) υ):WT H Q (U6 c b h level g K) σ:=by
 have hlf:=i0.leaf (.inl hb4)
 have hb:=dW (N:=σ.mm.nodes) (i:=b) (by have:=hb4;simp only[Kw.nd] at this;rw[this];decide)
 have hcom:level<=lC (σ.nd b).hash.toNat h:=by
  have hw11:=zT (σ.nd b).hash.toNat h
  by_cases hlt:level<=lC (σ.nd b).hash.toNat h
  ·exact hlt
  ·exact absurd ((hu0 _ (by omega)).trans (hu _ (by omega)).symm) (Lf (by omega))
 refine⟨hb.2,?_⟩
 generalize hn:lC (σ.nd b).hash.toNat h-level=n
 have hlv:lC (σ.nd b).hash.toNat h-n=level:=by omega
 obtain⟨a,ha⟩:=Wp (x:=b) (h0:=(σ.nd b).hash.toNat) (h:=h) (p:=((σ.nd b).key,(σ.nd b).val)) (k:=c.key) (u:=c.val) (g:=g) n level
 have hP:∀f,dP b (σ.nd b).hash.toNat h ((σ.nd b).key,(σ.nd b).val) c.key c.val g f level=dN b (σ.nd b).hash.toNat h ((σ.nd b).key,(σ.nd b).val) c.key c.val g f n level:=λ f=>by unfold dP;rw[hn,hlv]
 obtain⟨l0,hl0⟩:=ha 0
 dsimp only
 rw[hP 0,hl0]
 show WT H Q (.alloc a.c0 a.init λ f=>A5 (dP b (σ.nd b).hash.toNat h ((σ.nd b).key,(σ.nd b).val) c.key c.val g f.toNat level).tail f K) σ
 obtain⟨l1,hl1⟩:=ha (σ.len+1)
 have key:WT H Q (A5 (dN b (σ.nd b).hash.toNat h ((σ.nd b).key,(σ.nd b).val) c.key c.val g (σ.len+1) n level) 0 K) σ:=by
  refine vi hlf.hl hh hH hk hg1 hne hlf.sz hlf.ha n level σ 0 (σ.len+1) (by omega) i0 hb4 rfl hgg rfl λ υ l2 i2 _ hm=>hK υ _ l2 i2 ?_
  rw[uf hu,<- hl];exact hm
 rw[hl1] at key
 obtain⟨υ,l2,i2,e2,hw2⟩:=key
 refine⟨υ,l2,i2,e2,?_⟩
 dsimp only
 rw[hP,show(((σ.len+1:Nat):Int)).toNat=σ.len+1 from Int.toNat_natCast _,hl1]
 exact hw2
end
end

end Go.Proofs.YtbajmaoegmbfgaaGreat
