/- Tries of worlds: RENEW, CLEAN, FIND, UP keep the labels. -/
import Derived.Test.YtbajmaoegmbfgaaGreatGPc2

set_option linter.unusedSimpArgs false
set_option linter.unusedVariables false
namespace Go.Proofs.YtbajmaoegmbfgaaGreat
section
open Go.Ct
theorem cg(h:Nat)(level:Int):∃k:Nat,k<64/\hJ h level=(k:Int):=by
 unfold hJ
 try dsimp only
 split
 ·exact⟨0,by decide,rfl⟩
 ·exact⟨_,yX _ _,rfl⟩
theorem Nc{h l:Nat}(hl:l<=10):hJ h ((l:Nat):Int)=((sl h l:Nat):Int):=by
 unfold hJ
 rw[if_neg (by omega),Int.toNat_natCast]
theorem Jw{h k:Nat}{w:List Nat}(hu:iK h (w++[k])):iK h w:=λ j hj=>by
 have:=hu j (by simp;omega)
 rw[this,jH,List.getElem?_append_left hj,<- jH]
theorem X6(h:Nat):iK h []:=λ k hk=>absurd hk (Nat.not_lt_zero k)
theorem sQ{h:Nat}{w:List Nat}(hu:iK h w):iK h (w++[sl h w.length]):=λ j hj=>by
 rw[List.length_append,List.length_singleton] at hj
 by_cases e:j<w.length
 ·rw[hu j e,jH,jH,List.getElem?_append_left e]
 ·have:j=w.length:=by omega
  subst this
  simp[jH]
theorem Zc{xs:List Int}{p:Nat}{r b:Int}(hp:p<xs.length)(h:zP xs p r=[b]):b=r/\xs.length=1:=by
 have hl:=uX hp r
 rw[h] at hl
 have h1:xs.length=1:=by simpa using hl.symm
 have hp0:p=0:=by omega
 subst hp0
 have:=Me (xs:=xs) (p:=0) hp r 0
 rw[h,if_pos rfl] at this
 exact⟨by simpa using this,h1⟩
section
variable{H:ByteArray->Nat}{Q:Rs->Kw->Prop}{σ τ υ:Kw}{i m p g:Int}{w:List Nat}{t:gK}
theorem Ix{v:Nv}{k b:Int}(h:mL v k=some b):v.kind=3:=by
 unfold mL at h
 have:=Ba (show(Lq v.nd v.xs v.ys v.bm.toNat k).isSome=true by rw[h];rfl)
 exact this.1.1
theorem oX{r cl:Int}{n:Nv}{c:Nat}(hm:bZ n)(e:σ.nd r=dW n c)(hw:σ.way r=w)(hg:σ.gb r=g):qJ σ r w g:=⟨by rw[e];exact hm,hw,by rw[hg];exact Int.le_refl _⟩
theorem xK{n:Nv}(hn:bZ n)(h:qJ σ m w g)(hs:dV σ m):oz σ n m w g :=
 ⟨⟨by have:=h.in;omega,h.in.2⟩,λ k=>by unfold bZ at hn;omega,λ _=>.inr ⟨h,hs⟩,λ k=>by unfold bZ at hn;omega⟩
abbrev KN(H:ByteArray->Nat)(Q:Rs->Kw->Prop)(σ:Kw)(w:List Nat)(g:Int)(K:Int->Tr):Prop:=∀τ v,Le σ τ->Inv H τ->qJ τ v w g->WT H Q (K v) τ
theorem KB.up{K:Bool->Tr}(i0:Inv H σ)(i1:Inv H τ)(h:KB H Q σ K)(l:Le σ τ):KB H Q τ K:=λ υ v l2 i2=>h υ v (l.trans i0 i1 l2) i2
theorem mX.upL{b:Nat}{xs:List Int}(h:mX σ m w g b xs)(l:Le σ τ):mX τ m w g b xs:=by
 have hr:=eI (N:=σ.mm.nodes) (i:=m) (by have:=h.kd;simp only[Kw.nd] at this;rw[this];decide)
 have e:=l.nd hr.2
 refine⟨by rw[e];exact h.kd,by rw[e];exact h.bm,by rw[e];exact h.el,by rw[e];exact h.cv,h.bv,h.wl,λ k hk r hr=>(h.br k hk r hr).up l,λ h0=>⟨(h.ne h0).1,λ b hb=>?_⟩⟩
 have:=(h.ne h0).2 b hb
 rw[l.nd (eI (N:=σ.mm.nodes) (i:=b) (by rw[this];decide)).2];exact this
theorem kh{b:Nat}{xs:List Int}(i0:Inv H σ)(hc:mX σ m w g b xs){k:Nat}(hk:k<64){o r:Int}(ho:mL (σ.nd m) (k:Int)=some o)(hr:Mt σ (w++[k]) g r)(h0:0<w.length->xs.length=1->(σ.nd r).kind=2):lP H σ (Z8 (σ.nd m) (k:Int) r) w g:=by
 obtain⟨e,h1,h2,h3⟩:=hc.up hk ho hr.in.1
 rw[e]
 refine nB i0 h1 (λ j hj v hv=>?_) hc.wl (λ hw=>⟨λ e=>?_,λ b hb=>?_⟩)
 ·rw[h2 j hj] at hv
  unfold Np at hv
  split at hv
  ·rename_i ej;cases hv;rw[ej];exact hr
  ·exact hc.br j hj v hv
 ·have:=uX h3 r
  rw[e] at this
  simp at this
  omega
 ·obtain⟨e1,e2⟩:=Zc h3 hb
  rw[e1];exact h0 hw e2
theorem ln{b:Nat}{xs:List Int}(hc:mX σ m w g b xs){k:Nat}(hk:k<64){o r:Int}(ho:mL (σ.nd m) (k:Int)=some o)(hr:1<=r):(Z8 (σ.nd m) (k:Int) r).kind=3:=by
 rw[(hc.up hk ho hr).1];rfl
theorem Wx{b:Nat}{xs:List Int}{K:Int->Tr}(i0:Inv H σ)(hm:qJ σ m w g)(hs:dV σ m)(hc:mX σ m w g b xs){k:Nat}(hk:k<64){o r:Int}(ho:mL (σ.nd m) (k:Int)=some o)(hr:Mt σ (w++[k]) g r)(h0:0<w.length->xs.length=1->(σ.nd r).kind=2)(hK:KN H Q σ w g K):WT H Q (Ho m (k:Int) r K) σ:=by
 have hmk:bZ (Z8 (σ.nd m) (k:Int) r):=.inl (ln hc hk ho hr.in.1)
 exact⟨hm.in.2,fW i0 (kh i0 hc hk ho hr h0) (xK hmk hm hs) λ υ n cl l1 i1 _ _ e1 e2 e3 _ _=>hK υ n l1 i1 (oX (cl:=0) hmk e1 e2 e3)⟩
theorem uH.Zg(i0:Inv H σ)(h:uH σ i w g):1<=g/\g<=σ.mm.gen/\w.length<=11:=by
 have hn:=i0.nd i h.in.1 h.in.2
 have h2:=hn.k2 h.1.1
 have hv:=hn.valid.2.2.2.2
 have hg:=hn.gen
 rw[h.2] at hg
 refine⟨?_,hg,by rw[<- h.1.2];exact h2.1⟩
 have hk:=h.1.1
 rcases hv with h|h|h|h|h|h|h
 ·exact absurd (hk.symm.trans h) (by decide)
 ·have:=h.2;rw[<- ‹uH σ i w g›.2];exact this
 ·exact absurd (hk.symm.trans h.1) (by decide)
 ·rcases h.1 with h|h<;>exact absurd (hk.symm.trans h) (by decide)
 ·exact absurd (hk.symm.trans h.1) (by decide)
 ·exact absurd (hk.symm.trans h.1) (by decide)
 ·exact absurd (hk.symm.trans h.1) (by decide)
theorem rZ{K:Int->Tr}{g':Int}(i0:Inv H σ)(h1:1<=g)(h2:g<=σ.mm.gen)(hw:w.length<=11)(hm:qJ σ m w g')(hg:g'<=g)(hK:∀τ j,Le σ τ->Inv H τ->uH τ j w g->WT H Q (K j) τ):WT H Q (.alloc (sV g) m K) σ :=
 fW (w:=w) (g:=0) i0 (K6 hw h1 h2) ⟨⟨by have:=hm.in;omega,hm.in.2⟩,λ _=>hm.le hg,λ k=>absurd k (kK (.inr (.inr (.inl rfl)))),λ k=>eM (a:=2) (b:=8) k⟩ λ υ j cl l1 i1 _ _ e1 e2 _ _ _=>hK υ j l1 i1 ⟨⟨by rw[e1];rfl,e2⟩,by rw[e1];rfl⟩
theorem gk{b:Nat}{xs:List Int}{K:Int->Tr}(hT:dI σ t)(i0:Inv H σ)(hi:uH σ i w g)(hm:qJ σ m w g)(hs:dV σ m)(hc:mX σ m w g b xs){k:Nat}(hk:k<64){o:Int}(ho:mL (σ.nd m) (k:Int)=some o)(h2:(σ.nd o).kind=2)
  (hK:∀τ v,Le σ τ->Inv H τ->(v=0∨uH τ v (w++[k]) g)->WT H Q (K v) τ):WT H Q (Mz t i m (k:Int) K) σ:=by
 have hb:xZ σ o (w++[k])/\(σ.nd o).gen<=g:=by
  have ho2:=ho
  rw[hc.lk hk] at ho2
  rcases hc.br k hk o ho2 with h|h
  ·rw[h2] at h;exact absurd h.1 (by decide)
  ·exact⟨⟨h.1,h.2.1⟩,h.2.2⟩
 have hg:=hi.Zg i0
 refine⟨hm.in.2,?_⟩
 dsimp only
 rw[show(mL (σ.nd m) (k:Int)).getD 0=o by rw[ho];rfl]
 refine kW hT i0 (g:=(σ.nd o).gen) ⟨hb.1,rfl⟩ λ τ v l1 i1 hv _=>⟨by have:=l1.len;have:=hi.in.2;omega,?_⟩
 have hi1:=hi.up l1
 dsimp only
 rw[hi1.2]
 refine rZ i1 hg.1 (by have:=l1.gen;omega) (by rw[List.length_append,List.length_singleton];have:=hc.wl;omega) hv hb.2 λ υ j l2 i2 hj=>?_
 have l12:=l1.trans i0 i1 l2
 have ho2:mL (υ.nd m) (k:Int)=some o:=by rw[l12.nd hm.in.2];exact ho
 refine Wx i2 (hm.up l12) (dV.up i0 hm.1 hs l12) (hc.upL l12) hk ho2 (.inr ⟨hj.1.1,hj.1.2,by rw[hj.2];exact Int.le_refl _⟩) (λ _ _=>hj.1.1) λ ρ n l3 i3 hn=>?_
 have l13:=l12.trans i0 i2 l3
 refine xJ (hT.up l13) i3 (hi.up l13) hn λ χ ok l4 i4=>hK χ _ (l13.trans i0 i3 l4) i4 ?_
 try dsimp only
 split
 ·exact .inr ((hj.up l3).up l4)
 ·exact .inl rfl
theorem ad{v:Nv}(h:v.kind=5):unV v=Ha v.hash v.key v.val:=by
 unfold unV Ig
 rw[if_pos (show v.nd.kind=5 from h)]
 rfl
theorem M6{b:Nat}{xs:List Int}(h:BV b xs):Lr (I4 b xs)=if xs.length=1 then some (xs.getD 0 0) else none:=by
 have hcv:CV (I4 b xs).nd xs []:=by
  have:=aAh h (none,0)
  exact aAS.1 this
 unfold Lr az
 by_cases e:xs.length=1
 ·rw[if_pos e,if_pos ⟨hcv,e⟩];rfl
 ·rw[if_neg e,if_neg λ h=>e h.2]
theorem dz{b:Nat}{xs:List Int}{s:Nv}{level:Int}(h:BV b xs):yx (I4 b xs) level s=if xs.length=1/\0<level/\s.kind=4 then tmV s else I4 b xs:=by
 have e:T8 (I4 b xs).nd (I4 b xs).xs (I4 b xs).ys level s.nd=decide (xs.length=1/\0<level/\s.kind=4):=by
  unfold T8
  have h1:az (I4 b xs).nd (I4 b xs).xs (I4 b xs).ys=Lr (I4 b xs):=rfl
  rw[h1,M6 h]
  refine decide_eq_decide.2 ⟨λ h=>⟨?_,h.2⟩,λ h=>⟨?_,h.2⟩⟩
  ·have:=h.1
   split at this
   ·assumption
   ·cases this
  ·rw[if_pos h.1];rfl
 unfold yx
 rw[e]
 by_cases hx:xs.length=1/\0<level/\s.kind=4
 ·rw[if_pos hx,if_pos (decide_eq_true hx)]
 ·rw[if_neg hx,if_neg (by rw[decide_eq_false hx];decide)]
structure aA5(H:ByteArray->Nat)(v:Nv):Prop where
 sz:v.key.size<=64
 ha:H v.key=v.hash.toNat
 hn:v.hash=((v.hash.toNat:Nat):Int)
 hl:v.hash.toNat<18446744073709551616
theorem Inv.leaf(i0:Inv H σ){s:Int}(h:(σ.nd s).kind=4∨(σ.nd s).kind=5):aA5 H (σ.nd s):=by
 have hr:=eI (N:=σ.mm.nodes) (i:=s) (by rcases h with h|h<;>(simp only[Kw.nd] at h;rw[h];decide))
 have hn:=i0.nd s hr.1 hr.2
 obtain⟨b,hb1,hb2⟩:=hn.bd.hash
 refine⟨?_,?_,by omega,by omega⟩
 ·have hv:=hn.valid.2.2.2.2
  rcases hv with h'|h'|h'|h'|h'|h'|h'
  ·have:(σ.nd s).kind=1:=h';omega
  ·have:(σ.nd s).kind=2:=h'.1;omega
  ·have:(σ.nd s).kind=3:=h'.1;omega
  ·exact h'.2
  ·have:(σ.nd s).kind=6:=h'.1;omega
  ·have:(σ.nd s).kind=8:=h'.1;omega
  ·have:(σ.nd s).kind=7:=h'.1;omega
 ·rcases h with h|h
  ·exact hn.k4 h
  ·exact(hn.k5 h).2.2.1
theorem pz{v:Nv}(h:aA5 H v):Ha v.hash v.key v.val=Ha ((v.hash.toNat:Nat):Int) v.key v.val:=by rw[<- h.hn]
theorem Gh{level:Int}{parent child:Int}{h:Nat}{K:Bool->Tr}(hT:dI σ t)(i0:Inv H σ)(hp:uH σ parent w g)(hl:level=(w.length:Int))(hch:(σ.nd child).kind=2)(hK:KB H Q σ K):WT H Q (zC t parent child h level K) σ:=by
 refine kW hT i0 hp λ τ m l1 i1 hm hs=>⟨hm.in.2,?_⟩
 have hK1:=hK.up i0 i1 l1
 try dsimp only
 split
 ·rename_i hlk
  have h3:=Ix hlk
  have hc:=hm.E8 i1 h3
  have hlev:hJ h level=((sl h w.length:Nat):Int):=by rw[hl];exact Nc hc.wl
  rw[hlev] at hlk ⊢
  have hk:=yX h w.length
  have hch1:(τ.nd child).kind=2:=by rw[l1.nd (eI (N:=σ.mm.nodes) (i:=child) (by rw[hch];decide)).2];exact hch
  have hb:xZ τ child (w++[sl h w.length]):=by
   have h':=hlk
   rw[hc.lk hk] at h'
   rcases hc.br _ hk _ h' with h|h
   ·rw[hch1] at h;exact absurd h.1 (by decide)
   ·exact⟨h.1,h.2.1⟩
  refine kW (hT.up l1) i1 (g:=(τ.nd child).gen) ⟨hb,rfl⟩ λ υ mc l2 i2 hmc _=>⟨hmc.in.2,?_⟩
  try dsimp only
  split
  ·rename_i h5
   have hlf:=i2.leaf (.inr h5)
   have hu:iK (υ.nd mc).hash.toNat (w++[sl h w.length]):=by
    have:=((i2.nd mc hmc.in.1 hmc.in.2).k5 h5).2.2.2.1
    rwa [hmc.2.1] at this
   rw[ad h5,pz hlf]
   refine fW (w:=[]) (g:=0) i2 (A6 i2 hlf.sz hlf.ha hlf.hl) ⟨⟨Int.le_refl _,bH _⟩,λ k=>eM (a:=4) (b:=2) k,λ k=>by unfold bZ at k;rcases k with k|k|k;exact eM (a:=4) (b:=3) k;exact eM (a:=4) (b:=5) k;exact eM (a:=4) (b:=6) k,λ _=>rfl⟩ λ ρ s cl l3 i3 _ _ e1 _ _ hs1 hs2=>?_
   have l23:=l2.trans i1 i2 l3
   have hm3:=hm.up l23
   have hc3:=hc.upL l23
   have hlk3:mL (ρ.nd m) ((sl h w.length:Nat):Int)=some child:=by rw[l23.nd hm.in.2];exact hlk
   have hbr:Mt ρ (w++[sl h w.length]) g s:=.inl ⟨by rw[e1];rfl,by rw[e1];exact hu⟩
   refine⟨hm3.in.2,?_⟩
   have hup:=hc3.up hk hlk3 hs1
   have hfin:∀n,bZ n->lP H ρ n w g->WT H Q (.alloc n m λ r=>jO t parent m r K) ρ:=λ n hmk hn =>
    fW i3 hn (xK hmk hm3 (dV.up i1 hm.1 hs l23)) λ χ r cl l4 i4 _ _ f1 f2 f3 _ _=>by
     have l14:=(l1.trans i0 i1 l23).trans i0 i3 l4
     exact xJ (hT.up l14) i4 (hp.up l14) (oX (cl:=0) hmk f1 f2 f3) (hK.up i0 i4 l14)
   dsimp only
   rw[hup.1,dz hup.2.1]
   try dsimp only
   split
   ·rename_i hx
    exact hfin _ (.inr (.inl rfl)) (Gk i3 hlf.sz hlf.ha hlf.hl (by omega) (by have:=hc.wl;omega) (Jw hu))
   ·rename_i hx
    refine hfin _ (.inl rfl) ?_
    rw[<- hup.1]
    refine kh i3 hc3 hk hlk3 hbr λ h0 h1=>absurd ⟨?_,by omega,rfl⟩ hx
    rw[uX hup.2.2.2];exact h1
  ·exact hK1 υ _ l2 i2
 ·exact hK1 τ _ (Le.refl τ) i1
theorem Vl{h:Nat}{key:ByteArray}{K:Rs->Tr}(hT:dI σ t)(i0:Inv H σ)(hK:∀τ r,Le σ τ->Inv H τ->r.root=0->WT H Q (K r) τ):∀(n:Nat) (σ':Kw) (i:Int) (w:List Nat) (g level:Int),Le σ σ'->Inv H σ'->uH σ' i w g->WT H Q (Dc t h key K n i level) σ'
 | 0,_,_,_,_,_,_,_,_=>trivial
 | n+1,σ',i,w,g,level,l,i1,hi=>by
  refine kW (hT.up l) i1 hi λ τ m l1 i2 hm _=>⟨hm.in.2,?_⟩
  have l01:=l.trans i0 i1 l1
  try dsimp only
  split
  ·(try dsimp only);split<;>exact hK τ _ l01 i2 rfl
  try dsimp only
  split
  ·exact hK τ _ l01 i2 rfl
  cases hlk:mL (τ.nd m) (hJ h level) with
  | none=>exact hK τ _ l01 i2 rfl
  | some b =>
   obtain⟨k,hk,ek⟩:=cg h level
   rw[ek] at hlk
   have hc:=hm.E8 i2 (Ix hlk)
   rw[hc.lk hk] at hlk
   have hb:=hc.br k hk b hlk
   refine⟨hb.in.2,?_⟩
   try dsimp only
   split
   ·(try dsimp only);split<;>exact hK τ _ l01 i2 rfl
   ·rename_i h4
    rcases hb with hb|hb
    ·exact absurd hb.1 h4
    ·exact Vl hT i0 hK n τ b (w++[k]) (τ.nd b).gen (level+1) l01 i2 ⟨⟨hb.1,hb.2.1⟩,rfl⟩
end
end

/- Tries of worlds: the lists of the lowest level; the nodes for two keys. -/
section
open Go.Ct
theorem xY{l:List Pr}:E9 l↔∀p∈l,p.1.size<=64:=by
 constructor
 ·intro h p hp
  obtain⟨i,hi,e⟩:=List.mem_iff_getElem.1 hp
  have:=h i hi
  rw[iL hi,e] at this
  exact this
 ·intro h i hi
  rw[iL hi]
  exact h _ (List.getElem_mem hi)
theorem aj{a b:Nat}(ha:a<18446744073709551616)(hb:b<18446744073709551616)(h:∀j,j<11->sl a j=sl b j):a=b:=by
 have key:∀d j,j+d=11->a >>> (6*j)=b >>> (6*j):=by
  intro d
  induction d with
  | zero =>
   intro j hj
   have hj:j=11:=by omega
   subst hj
   rw[Nat.shiftRight_eq_div_pow,Nat.shiftRight_eq_div_pow,Nat.div_eq_of_lt (by omega),Nat.div_eq_of_lt (by omega)]
  | succ d ih =>
   intro j hj
   have h1:=ih (j+1) (by omega)
   have h2:=h j (by omega)
   unfold sl at h2
   rw[<- Lu,<- Lu] at h1
   omega
 have:=key 11 0 rfl
 simpa using this
theorem lj{a b:Nat}{w:List Nat}(ha:a<18446744073709551616)(hb:b<18446744073709551616)(h1:iK a w)(h2:iK b w)(hw:w.length=11):a=b:=aj ha hb λ j hj=>by rw[h1 j (by omega),h2 j (by omega)]
section
variable{H:ByteArray->Nat}{Q:Rs->Kw->Prop}{σ τ υ:Kw}{i m p g:Int}{w:List Nat}{t:gK}
structure eu(H:ByteArray->Nat)(σ:Kw)(m:Int)(w:List Nat)(h:Nat):Prop where
 kd:(σ.nd m).kind=6
 hs:(σ.nd m).hash=((h:Nat):Int)
 hl:h<18446744073709551616
 lv:LV (σ.nd m).nd (σ.nd m).xs (σ.nd m).ys
 two:2<=(σ.nd m).ys.length
 sa:SA (σ.nd m).ys
 sh:∀p∈(σ.nd m).ys,p.1.size<=64
 ha:∀p∈(σ.nd m).ys,H p.1=h
 wl:w.length=11
 un:iK h w
theorem qJ.vy(i0:Inv H σ)(h:qJ σ m w g)(k:(σ.nd m).kind=6):eu H σ m w (σ.nd m).hash.toNat:=by
 have hr:=h.in
 have hn:=i0.nd m hr.1 hr.2
 obtain⟨h1,h2,h3,_⟩:=hn.k6 k
 obtain⟨b,hb1,hb2⟩:=hn.bd.hash
 have hv:=hn.valid.2.2.2.2
 have hl:2<=(σ.nd m).ys.length/\vz (σ.nd m).ys/\E9 (σ.nd m).ys:=by
  rcases hv with h'|h'|h'|h'|h'|h'|h'
  ·have:(σ.nd m).kind=1:=h';omega
  ·have:(σ.nd m).kind=2:=h'.1;omega
  ·have:(σ.nd m).kind=3:=h'.1;omega
  ·rcases h'.1 with h''|h''
   ·have:(σ.nd m).kind=4:=h'';omega
   ·have:(σ.nd m).kind=5:=h'';omega
  ·exact h'.2
  ·have:(σ.nd m).kind=8:=h'.1;omega
  ·have:(σ.nd m).kind=7:=h'.1;omega
 rw[h.2.1] at h1 h2
 exact⟨k,by omega,by omega,⟨k,hn.valid⟩,hl.1,oK.1 hl.2.1,xY.1 hl.2.2,h3,h1,h2⟩
theorem xl(i0:Inv H σ){h:Nat}(hl:eu H σ m w h){k:ByteArray}{u:Int}(hk:k.size<=64)(hH:H k=h):bZ (w3 (σ.nd m) k u)/\lP H σ (w3 (σ.nd m) k u) w g:=by
 have e:w3 (σ.nd m) k u=W7 ((h:Nat):Int) (mH (σ.nd m).ys k u):=by
  unfold w3 kP Q4
  rw[if_pos ⟨hl.lv,hk⟩,if_pos hl.sa,hl.hs]
  rfl
 rw[e]
 refine⟨.inr (.inr rfl),Hp i0 ?_ (oK.2 (xV hl.sa)) (xY.2 λ p hp=>?_) (λ p hp=>?_) hl.hl hl.wl hl.un⟩
 ·rw[xN hl.sa]
  have:=hl.two
  (try dsimp only);split<;>omega
 ·rcases A4 hp with rfl|hp
  ·exact hk
  ·exact hl.sh p hp
 ·rcases A4 hp with rfl|hp
  ·exact hH
  ·exact hl.ha p hp
theorem wh(i0:Inv H σ){h:Nat}(hl:eu H σ m w h){k:ByteArray}(hf:(dS (σ.nd m).ys k).isSome=true):bZ (s4 (σ.nd m) k)/\lP H σ (s4 (σ.nd m) k) w g:=by
 have hf2:(rH (σ.nd m).ys k).isSome=true:=by unfold dS at hf;rwa [if_pos hl.sa] at hf
 have hlen:=Pw (k:=k) hl.sa
 rw[if_pos hf2] at hlen
 have hmem:∀p∈iU (σ.nd m).ys k,p∈(σ.nd m).ys:=λ p hp=>(List.mem_filter.1 hp).1
 have htwo:=hl.two
 by_cases h1:(iU (σ.nd m).ys k).length=1
 ·have e:s4 (σ.nd m) k=dy ((h:Nat):Int) ((iU (σ.nd m).ys k).getD 0 (⟨#[]⟩,0)).1 ((iU (σ.nd m).ys k).getD 0 (⟨#[]⟩,0)).2:=by
   unfold s4 pR rV
   rw[if_pos ⟨hl.lv,hf⟩,if_pos hl.sa,hl.hs]
   unfold Nt I3
   dsimp only
   rw[if_pos h1,if_pos h1]
   rfl
  rw[e]
  have hp:(iU (σ.nd m).ys k).getD 0 (⟨#[]⟩,0)∈(σ.nd m).ys:=hmem _ (by rw[iL (by omega)];exact List.getElem_mem _)
  exact⟨.inr (.inl rfl),Gk i0 (hl.sh _ hp) (hl.ha _ hp) hl.hl (by rw[hl.wl];decide) (by rw[hl.wl];decide) hl.un⟩
 ·have e:s4 (σ.nd m) k=W7 ((h:Nat):Int) (iU (σ.nd m).ys k):=by
   unfold s4 pR rV
   rw[if_pos ⟨hl.lv,hf⟩,if_pos hl.sa,hl.hs]
   unfold Nt I3
   dsimp only
   rw[if_neg h1,if_neg h1]
   rfl
  rw[e]
  exact⟨.inr (.inr rfl),Hp i0 (by omega) (oK.2 (vU k hl.sa)) (xY.2 λ p hp=>hl.sh p (hmem p hp)) (λ p hp=>hl.ha p (hmem p hp)) hl.hl hl.wl hl.un⟩
def sN(h l:Nat):List Nat:=(List.range l).map (sl h)
theorem iE(h l:Nat):(sN h l).length=l:=by simp[sN]
theorem Jz(h l:Nat):sN h (l+1)=sN h l++[sl h l]:=by simp[sN,List.range_succ]
theorem tE(h l:Nat):iK h (sN h l):=λ k hk=>by
 rw[iE] at hk
 simp[sN,jH,hk]
theorem qm{h:Nat}{w:List Nat}(hu:iK h w):w=sN h w.length:=by
 refine List.ext_getElem (by rw[iE]) λ k h1 h2=>?_
 have:=hu k h1
 rw[jH,List.getElem?_eq_getElem h1] at this
 simp only[sN,List.getElem_map,List.getElem_range]
 exact this.symm
theorem Yh{a b l:Nat}(hl:l<=lC a b):iK a (sN b l):=λ k hk=>by
 rw[iE] at hk
 rw[<- tE b l k (by rw[iE];exact hk)]
 exact Sj (by omega)
theorem M9:BV 0 []:=⟨by decide,by decide,λ i hi=>absurd hi (Nat.not_lt_zero i)⟩
theorem H6:∀k,gI 0 k=0
 | 0=>rfl
 | k+1=>by simp only[gI,H6 k,Nat.zero_testBit];rfl
theorem jw{k:Nat}(hk:k<64){r:Int}(hr:1<=r):BV (dU 0 (k:Int)) [r]/\∀j,j<64->∀v,rA (dU 0 (k:Int)) [r] j=some v->j=k/\v=r:=by
 rw[pC 0 hk]
 have h:=Gi M9 hk (by simp) hr
 rw[H6,show vG [] 0 r=[r] from rfl] at h
 refine⟨h.1,λ j hj v hv=>?_⟩
 rw[h.2 j hj] at hv
 unfold Np at hv
 split at hv
 ·cases hv;exact⟨by assumption,rfl⟩
 ·simp[rA] at hv
theorem wi{k l:Nat}(hk:k<64)(hl:l<64)(hne:k≠l){x s:Int}(hx:1<=x)(hs:1<=s):BV (dU (dU 0 (k:Int)) (l:Int)) (two k l x s)/\∀j,j<64->∀v,rA (dU (dU 0 (k:Int)) (l:Int)) (two k l x s) j=some v->(j=k/\v=x)∨(j=l/\v=s):=by
 have h1:=jw hk hx
 rw[pC 0 hk] at h1 ⊢
 rw[pC _ hl]
 have hb:(0 ||| 2^k).testBit l=false:=by rw[As];simp;omega
 have h:=Gi h1.1 hl hb hs
 have hc:gI (0 ||| 2^k) l=if k<l then 1 else 0:=by
  have:=Ar (b:=0) (b':=0 ||| 2^k) (i:=k) (by simp) (λ j _=>As 0 k j) l (by omega)
  rw[this,H6];omega
 have e:vG [x] (gI (0 ||| 2^k) l) s=two k l x s:=by
  rw[hc]
  unfold two
  by_cases hkl:k<l
  ·rw[if_pos hkl,if_pos hkl];rfl
  ·rw[if_neg hkl,if_neg hkl];rfl
 rw[e] at h
 refine⟨h.1,λ j hj v hv=>?_⟩
 rw[h.2 j hj] at hv
 unfold Np at hv
 split at hv
 ·cases hv;exact .inr ⟨by assumption,rfl⟩
 ·exact .inl (h1.2 j hj v hv)
theorem Qg:∀(a b:List NI) (r:Int) (K:Int->Tr),Ax (a++b) r K=Ax a r λ r=>Ax b r K
 | [],_,_,_=>rfl
 | x::a,b,r,K=>by simp only[List.cons_append,Ax,Qg a b]
theorem qP{n:Nv}(i0:Inv H σ)(h2:n.kind≠2):oz σ n 0 w g:=⟨⟨Int.le_refl _,bH _⟩,λ k=>absurd k h2,λ _=>.inl rfl,λ _=>rfl⟩
theorem pj{p q:Pr}(hne:p.1≠q.1):2<=(D1 [p,q]).length/\SA (D1 [p,q])/\∀r∈D1 [p,q],r=p∨r=q:=by
 refine⟨?_,gi _,λ r hr=>?_⟩
 ·have h1:D1 [p]=[p]:=rfl
  rw[show [p,q]=[p]++[q] from rfl,wP,h1,xN (by simp[SA])]
  have:rH [p] q.1=none:=pX λ r hr=>by rw[List.mem_singleton.1 hr];exact hne
  rw[this]
  simp
 ·rw[show [p,q]=[p]++[q] from rfl,wP] at hr
  rcases A4 hr with h|h
  ·exact .inr h
  ·have h1:D1 [p]=[p]:=rfl
   rw[h1] at h
   exact .inl (List.mem_singleton.1 h)
theorem vf{x:Int}{h0 h:Nat}{pk:ByteArray}{pv:Int}{k:ByteArray}{u:Int}{K:Int->Tr}(hh0:h0<18446744073709551616)(hh:h<18446744073709551616)(hH:H k=h)(hk:k.size<=64)(hg1:1<=g)(hne:pk≠k)(hpk:pk.size<=64)(hpH:H pk=h0) :
  ∀(n lvl:Nat) (σ:Kw) (r:Int) (f:Nat),lvl+n=lC h0 h->Inv H σ->(σ.nd x).kind=4->(σ.nd x).hash.toNat=h0->g<=σ.mm.gen->f=σ.len+1 ->
  (∀υ,Le σ υ->Inv H υ->υ.len=σ.len+(dN x h0 h (pk,pv) k u g f n lvl).length->qJ υ ((f-1+(dN x h0 h (pk,pv) k u g f n lvl).length:Nat):Int) (sN h lvl) g->WT H Q (K ((f-1+(dN x h0 h (pk,pv) k u g f n lvl).length:Nat):Int)) υ) ->
  WT H Q (Ax (dN x h0 h (pk,pv) k u g f n lvl) r K) σ
 | 0,lvl,σ,r,f,hn,i0,hx4,hxh,hgg,hf,hK=>by
  have hx:=eI (N:=σ.mm.nodes) (i:=x) (by have:=hx4;simp only[Kw.nd] at this;rw[this];decide)
  have hcl:=zL h0 h
  unfold dN at hK ⊢
  try dsimp only
  split
  ·rename_i e
   rw[if_pos e] at hK
   subst e
   have heq:h0=h:=aj hh0 hh λ j hj=>Sj (by omega)
   obtain⟨o1,o2,o3⟩:=pj (p:=(pk,pv)) (q:=(k,u)) hne
   have hnew:lP H σ (W7 ((h:Nat):Int) (D1 [(pk,pv),(k,u)])) (sN h 11) g:=Hp i0 o1 (oK.2 o2) (xY.2 λ p hp=>by rcases o3 p hp with rfl|rfl;exact hpk;exact hk) (λ p hp=>by rcases o3 p hp with rfl|rfl;exact hpH.trans heq;exact hH) hh (iE h 11) (tE h 11)
   refine fW i0 hnew (qP i0 (λ e=>eM (a:=6) (b:=2) e)) λ υ r' cl l1 i1 er em e1 e2 e3 h1 h2=>?_
   have hr':r'=((f-1+[H4 h (D1 [(pk,pv),(k,u)])].length:Nat):Int):=by rw[er,hf];simp
   have hlen:υ.len=σ.len+1:=by simp[Kw.len,em,Mm.push]
   show WT H Q (K r') υ
   rw[hr']
   refine hK υ l1 i1 hlen ?_
   rw[<- hr']
   exact oX (cl:=0) (.inr (.inr rfl)) e1 e2 e3
  ·rename_i e
   rw[if_neg e] at hK
   have hlv:lvl=lC h0 h:=by omega
   have hne2:sl h0 lvl≠sl h lvl:=by rw[hlv];exact M1 (by omega)
   refine fW (w:=[]) (g:=0) i0 (A6 i0 hk hH hh) (qP i0 (λ e=>eM (a:=4) (b:=2) e)) λ υ s cl l1 i1 er em e1 _ _ hs1 hs2=>?_
   have hlen:υ.len=σ.len+1:=by simp[Kw.len,em,Mm.push]
   have hsf:s=(f:Int):=by rw[er,hf]
   obtain⟨b1,b2⟩:=wi (yX h0 lvl) (yX h lvl) hne2 (x:=x) (s:=s) hx.1 hs1
   have hx4':(υ.nd x).kind=4:=by rw[l1.nd hx.2];exact hx4
   have hxh':(υ.nd x).hash.toNat=h0:=by rw[l1.nd hx.2];exact hxh
   have hnew:lP H υ (I4 (dU (dU 0 (sl h0 lvl:Int)) (sl h lvl:Int)) (two (sl h0 lvl) (sl h lvl) x s)) (sN h lvl) g:=by
    refine nB i1 b1 (λ j hj v hv=>?_) (by rw[iE];omega) (λ _=>⟨λ e=>?_,λ b hb=>?_⟩)
    ·rcases b2 j hj v hv with⟨rfl,rfl⟩|⟨rfl,rfl⟩
     ·refine .inl ⟨hx4',?_⟩
      rw[hxh']
      have:=sQ (Yh (a:=h0) (b:=h) (l:=lvl) (by omega))
      rwa [iE] at this
     ·refine .inl ⟨by rw[e1];rfl,?_⟩
      rw[e1]
      have:=sQ (tE h lvl)
      rw[iE] at this
      exact this
    ·unfold two at e;split at e<;>cases e
    ·unfold two at hb;split at hb<;>cases hb
   rw[hsf] at hnew
   show WT H Q (.alloc (I4 (dU (dU 0 (sl h0 lvl:Int)) (sl h lvl:Int)) (two (sl h0 lvl) (sl h lvl) x (f:Int))) 0 K) υ
   refine fW i1 hnew (qP i1 (λ e=>eM (a:=3) (b:=2) e)) λ ρ r' cl l2 i2 er2 em2 e4 e5 e6 h1 h2=>?_
   have hlen2:ρ.len=υ.len+1:=by simp[Kw.len,em2,Mm.push]
   have hr':r'=((f-1+[wD h k u,eb (dU (dU 0 (sl h0 lvl:Int)) (sl h lvl:Int)) (two (sl h0 lvl) (sl h lvl) x (f:Int))].length:Nat):Int):=by
    rw[er2];simp only[List.length_cons,List.length_nil];omega
   rw[hr']
   refine hK ρ (l1.trans i0 i1 l2) i2 (by simp only[List.length_cons,List.length_nil];omega) ?_
   rw[<- hr']
   exact oX (cl:=0) (.inl rfl) e4 e5 e6
 | n+1,lvl,σ,r,f,hn,i0,hx4,hxh,hgg,hf,hK=>by
  have hx:=eI (N:=σ.mm.nodes) (i:=x) (by have:=hx4;simp only[Kw.nd] at this;rw[this];decide)
  have hcl:=zL h0 h
  unfold dN at hK ⊢
  rw[Qg]
  refine vf hh0 hh hH hk hg1 hne hpk hpH n (lvl+1) σ r f (by omega) i0 hx4 hxh hgg hf λ υ l1 i1 el hm=>?_
  generalize hd:(dN x h0 h (pk,pv) k u g f n (lvl+1)).length=d at *
  show WT H Q (.alloc (sV g) ((f-1+d:Nat):Int) λ _=>.alloc (I4 (dU 0 (sl h lvl:Int)) [((f+d:Nat):Int)]) 0 K) υ
  refine fW (w:=sN h (lvl+1)) (g:=0) i1 (K6 (by rw[iE];omega) hg1 (by have:=l1.gen;omega)) ⟨⟨by omega,hm.in.2⟩,λ _=>hm,λ k=>absurd k (kK (.inr (.inr (.inl rfl)))),λ k=>eM (a:=2) (b:=8) k⟩ λ ρ j cl l2 i2 er em e1 e2 _ hj1 hj2=>?_
  have hlen:ρ.len=υ.len+1:=by simp[Kw.len,em,Mm.push]
  have hj:j=((f+d:Nat):Int):=by rw[er];omega
  obtain⟨b1,b2⟩:=jw (yX h lvl) (r:=j) hj1
  have hnew:lP H ρ (I4 (dU 0 (sl h lvl:Int)) [j]) (sN h lvl) g:=by
   refine nB i2 b1 (λ q hq v hv=>?_) (by rw[iE];omega) (λ _=>⟨by simp,λ b hb=>?_⟩)
   ·obtain⟨rfl,rfl⟩:=b2 q hq v hv
    exact .inr ⟨by rw[e1];rfl,by rw[e2,Jz],by rw[e1];exact Int.le_refl _⟩
   ·cases hb;rw[e1];rfl
  rw[hj] at hnew
  refine fW i2 hnew (qP i2 (λ e=>eM (a:=3) (b:=2) e)) λ χ r' cl l3 i3 er2 em2 e4 e5 e6 h1 h2=>?_
  have hlen2:χ.len=ρ.len+1:=by simp[Kw.len,em2,Mm.push]
  have hr':r'=((f-1+(d+2):Nat):Int):=by rw[er2];omega
  have hL:(dN x h0 h (pk,pv) k u g f n (lvl+1)++[qV g ((f-1+d:Nat):Int),eb (dU 0 (sl h lvl:Int)) [((f+d:Nat):Int)]]).length=d+2:=by rw[List.length_append,hd];rfl
  rw[hL] at hK
  rw[hr']
  refine hK χ ((l1.trans i0 i1 l2).trans i0 i2 l3) i3 (by omega) ?_
  rw[<- hr']
  exact oX (cl:=0) (.inl rfl) e4 e5 e6
theorem Vm{x:Int}{h0 h:Nat}{p:Pr}{k:ByteArray}{u g:Int}:∀(n lvl:Nat),∃a:NI,∀f,∃l,dN x h0 h p k u g f n lvl=a::l
 | 0,lvl=>by
  by_cases e:lvl=11
  ·exact⟨H4 h (D1 [p,(k,u)]),λ f=>⟨[],by unfold dN;rw[if_pos e]⟩⟩
  ·exact⟨wD h k u,λ f=>⟨_,by unfold dN;rw[if_neg e]⟩⟩
 | n+1,lvl=>by
  obtain⟨a,ha⟩:=Vm (x:=x) (h0:=h0) (h:=h) (p:=p) (k:=k) (u:=u) (g:=g) n (lvl+1)
  refine⟨a,λ f=>?_⟩
  obtain⟨l,hl⟩:=ha f
  exact⟨_,by unfold dN;rw[hl];rfl⟩
theorem og{c:Cl}{b:Int}{h level:Nat}{K:Int->Tr}(i0:Inv H σ)(hb4:(σ.nd b).kind=4)(hu0:iK (σ.nd b).hash.toNat w)(hu:iK h w)(hl:level=w.length)(hw:w.length<=11)(hh:h<18446744073709551616)(hH:H c.key=h)(hk:c.key.size<=64)(hg1:1<=g)(hgg:g<=σ.mm.gen)(hne:(σ.nd b).key≠c.key)
  (hK:∀υ d,Le σ υ->Inv H υ->qJ υ d w g->WT H Q (K d) υ):WT H Q (Wq c b h level g K) σ:=by
 have hlf:=i0.leaf (.inl hb4)
 have hb:=eI (N:=σ.mm.nodes) (i:=b) (by have:=hb4;simp only[Kw.nd] at this;rw[this];decide)
 have hcom:level<=lC (σ.nd b).hash.toNat h:=by
  have hw11:=zL (σ.nd b).hash.toNat h
  by_cases hlt:level<=lC (σ.nd b).hash.toNat h
  ·exact hlt
  ·exact absurd ((hu0 _ (by omega)).trans (hu _ (by omega)).symm) (M1 (by omega))
 refine⟨hb.2,?_⟩
 generalize hn:lC (σ.nd b).hash.toNat h-level=n
 have hlv:lC (σ.nd b).hash.toNat h-n=level:=by omega
 obtain⟨a,ha⟩:=Vm (x:=b) (h0:=(σ.nd b).hash.toNat) (h:=h) (p:=((σ.nd b).key,(σ.nd b).val)) (k:=c.key) (u:=c.val) (g:=g) n level
 have hP:∀f,dP b (σ.nd b).hash.toNat h ((σ.nd b).key,(σ.nd b).val) c.key c.val g f level=dN b (σ.nd b).hash.toNat h ((σ.nd b).key,(σ.nd b).val) c.key c.val g f n level:=λ f=>by unfold dP;rw[hn,hlv]
 obtain⟨l0,hl0⟩:=ha 0
 dsimp only
 rw[hP 0,hl0]
 show WT H Q (.alloc a.c0 a.init λ f=>Ax (dP b (σ.nd b).hash.toNat h ((σ.nd b).key,(σ.nd b).val) c.key c.val g f.toNat level).tail f K) σ
 obtain⟨l1,hl1⟩:=ha (σ.len+1)
 have key:WT H Q (Ax (dN b (σ.nd b).hash.toNat h ((σ.nd b).key,(σ.nd b).val) c.key c.val g (σ.len+1) n level) 0 K) σ:=by
  refine vf hlf.hl hh hH hk hg1 hne hlf.sz hlf.ha n level σ 0 (σ.len+1) (by omega) i0 hb4 rfl hgg rfl λ υ l2 i2 _ hm=>hK υ _ l2 i2 ?_
  rw[qm hu,<- hl];exact hm
 rw[hl1] at key
 obtain⟨υ,l2,i2,e2,hw2⟩:=key
 refine⟨υ,l2,i2,e2,?_⟩
 dsimp only
 rw[hP,show(((σ.len+1:Nat):Int)).toNat=σ.len+1 from Int.toNat_natCast _,hl1]
 exact hw2
end
end

end Go.Proofs.YtbajmaoegmbfgaaGreat
