/- Tries of worlds: PUT, DROP, SNAPSHOT, FREEZE, CLEAR keep the labels; calls. -/
import Derived.Test.YtadnboagdhcedaaGreatDoorGKw7
set_option linter.unusedSimpArgs false
set_option linter.unusedVariables false
namespace Go.Proofs.YtadnboagdhcedaaGreatDoor
open Go.Ct
section
variable{H:ByteArray->Nat}{Q:Rs->Kw->Prop}{σ τ υ:Kw}{i m p g:Int}{w:List Nat}{c:Cl}{h:Nat}
structure Vb(H:ByteArray->Nat)(c:Cl)(h:Nat):Prop where
 sz:c.key.size<=64
 ha:H c.key=h
 hl:h<18446744073709551616
abbrev KA(H:ByteArray->Nat)(Q:Rs->Kw->Prop)(σ:Kw)(K:Rs->Tr):Prop:=∀τ r,Le σ τ->Inv H τ->r.root=0->WT H Q (K r) τ
theorem KA.up{K:Rs->Tr}(i0:Inv H σ)(i1:Inv H τ)(hK:KA H Q σ K)(l:Le σ τ):KA H Q τ K:=λ υ v l2 i2=>hK υ v (l.trans i0 i1 l2) i2
def wq(σ:Kw)(m:Int)(h:Nat)(level:Nat):Prop:=∃b,mU (σ.nd m) (iE h level)=some b/\(σ.nd b).kind=2
abbrev KL(H:ByteArray->Nat)(Q:Rs->Kw->Prop)(σ:Kw)(m:Int)(h level:Nat)(K:Rs->Int->Tr):Prop:=∀τ r what,Le σ τ->Inv H τ->r.root=0->(what=0∨what=1∨wq σ m h level)->WT H Q (K r what) τ
theorem bc{p:Prop}(b:Bool):(if b=true then(1:Int) else 0)=0∨(if b=true then(1:Int) else 0)=1∨p:=by cases b;exact .inl rfl;exact .inr (.inl rfl)
theorem Tk{level:Nat}{K:Rs->Int->Tr}(hT:dX σ c.t)(i0:Inv H σ)(hk:Vb H c h)(hi:sN σ i w g)(hm:pP σ m w g)(hs:eO σ m)(hu:fQ h w)(hl:level=w.length)(h5:(σ.nd m).kind≠5)(hK:KL H Q σ m h level K):WT H Q (mQ c i m h level g K) σ:=by
 have hg:=hi.N5 i0
 have gc:∀{n:Nv} {R:Rs},R.root=0->cC n->∀υ,Le σ υ->Inv H υ->mE H υ n w g->WT H Q (.alloc n m λ r=>oP c.t i m r λ ok=>K R (if ok=true then 1 else 0)) υ:=λ{n R} hR hmk υ l1 i1 hn =>
  gN i1 hn (xR hmk (hm.up l1) (eO.up i0 hm.1 hs l1)) λ χ r cl l2 i2 _ _ f1 f2 f3 _ _=>by
   have l:=l1.trans i0 i1 l2;exact yH (hT.up l) i2 (hi.up l) (pF (cl:=0) hmk f1 f2 f3) λ ψ ok l3 i3=>hK ψ _ _ (l.trans i0 i2 l3) i3 hR (bc ok)
 have gr:∀{R:Rs} {k:Nat} {o r:Int},R.root=0->∀υ,Le σ υ->Inv H υ->k<64->mU (υ.nd m) (k:Int)=some o->Mz υ (w++[k]) g r->(0<w.length->(υ.nd m).xs.length=1->(υ.nd r).kind=2)->(υ.nd m).kind=3->WT H Q (F7 m (k:Int) r λ n=>oP c.t i m n λ ok=>K R (if ok=true then 1 else 0)) υ:=λ{R k o r} hR υ l1 i1 hk64 ho hr h0 h3=>by
  have hm1:=hm.up l1;refine W0 i1 hm1 (eO.up i0 hm.1 hs l1) (hm1.uF i1 h3) hk64 ho hr h0 λ χ n l2 i2 hn=>?_;have l:=l1.trans i0 i1 l2;exact yH (hT.up l) i2 (hi.up l) hn λ ψ ok l3 i3=>hK ψ _ _ (l.trans i0 i2 l3) i3 hR (bc ok)
 refine⟨hm.in.2,?_⟩;try dsimp only
 split
 ·rename_i h6
  have hln:=hm.vn i0 h6;try dsimp only
  split
  ·have hh:=ik hk.hl hln.hl hu hln.un hln.wl;have:=ze (w:=w) (g:=g) i0 hln (k:=c.key) (u:=c.val) hk.sz (hk.ha.trans hh);exact gc rfl this.1 σ (Le.refl σ) i0 this.2
  ·exact hK σ _ _ (Le.refl σ) i0 rfl (.inr (.inl rfl))
 ·rename_i h6
  have h3:(σ.nd m).kind=3:=by
   rcases hm.1 with h|h|h
   ·exact h
   ·exact absurd h h5
   ·exact absurd h h6
  have hc:=hm.uF i0 h3;have hlev:iE h (level:Int)=((sl h w.length:Nat):Int):=by rw[hl];exact Lt hc.wl
  have hk64:=vS h w.length;have hu1:=tA hu;have hsing:∀υ s cl,υ.nd s=eH (Hv h c.key c.val) cl->Mz υ (w++[sl h w.length]) g s:=λ υ s cl e=>.inl ⟨by rw[e];rfl,by rw[e];exact hu1⟩;unfold KL wq at hK;rw[hlev] at hK ⊢;cases hlk:mU (σ.nd m) ((sl h w.length:Nat):Int) with
  | none =>
   simp only[]
   try dsimp only
   split
   ·refine gN (w:=[]) (g:=0) i0 (Ba i0 hk.sz hk.ha hk.hl) (qX i0 (λ e=>fC (a:=4) (b:=2) e)) λ υ s cl l1 i1 _ _ e1 _ _ hs1 hs2=>?_;have hc1:=hc.upL l1;have hlk1:mU (υ.nd m) ((sl h w.length:Nat):Int)=none:=by rw[l1.nd hm.in.2];exact hlk
    obtain⟨f1,f2,f3,f4⟩:=hc1.ins hk64 hlk1 hs1
    try dsimp only
    rw[<- l1.nd hm.in.2,f1];refine gc rfl (.inl rfl) υ l1 i1 (nQ i1 f2 (λ j hj v hv=>?_) hc.wl (λ h0=>⟨λ e=>?_,λ b hb=>?_⟩))
    ·rw[f3 j hj] at hv
     unfold Nw at hv
     split at hv
     ·rename_i ej;cases hv;rw[ej];exact hsing υ s cl e1
     ·exact hc1.br j hj v hv
    ·rw[e] at f4;simp at f4
    ·rw[hb] at f4;have:=(hc1.ne h0).1;cases hx:(σ.nd m).xs with
     | nil=>exact absurd hx this
     | cons a t=>rw[hx] at f4;simp at f4
   ·exact hK σ _ _ (Le.refl σ) i0 rfl (.inr (.inl rfl))
  | some b =>
   simp only[]
   have hb:=hc.br _ hk64 b (by rw[<- hc.lk hk64];exact hlk);refine⟨hb.in.2,?_⟩;try dsimp only
   split
   ·rename_i h2
    exact hK σ _ _ (Le.refl σ) i0 rfl (.inr (.inr ⟨b,hlk,h2⟩))
   ·rename_i h2
    have hb4:(σ.nd b).kind=4/\fQ (σ.nd b).hash.toNat (w++[sl h w.length]):=by
     rcases hb with h|h
     ·exact h
     ·exact absurd h.1 h2
    have hno:0<w.length->(σ.nd m).xs.length=1->False:=λ h0 h1=>by
     have hlt:(σ.nd m).xs=[b]:=by
      have hmem:=V1 hc.bv hk64 (x:=b) (by rw[<- hc.lk hk64];exact hlk);cases hx:(σ.nd m).xs with
      | nil=>rw[hx] at h1;simp at h1
      | cons a t =>
       rw[hx] at h1 hmem
       cases t with
       | nil=>rw[List.mem_singleton.1 hmem]
       | cons _ _=>simp at h1
     exact h2 ((hc.ne h0).2 b hlt)
    try dsimp only
    split
    ·try dsimp only
     split
     ·refine gN (w:=[]) (g:=0) i0 (Ba i0 hk.sz hk.ha hk.hl) (qX i0 (λ e=>fC (a:=4) (b:=2) e)) λ υ s cl l1 i1 _ _ e1 _ _ hs1 hs2=>?_;exact gr rfl υ l1 i1 hk64 (o:=b) (by rw[l1.nd hm.in.2];exact hlk) (hsing υ s cl e1) (λ h0 h1=>(hno h0 (by rw[<- l1.nd hm.in.2];exact h1)).elim) (by rw[l1.nd hm.in.2];exact h3)
     ·exact hK σ _ _ (Le.refl σ) i0 rfl (.inr (.inl rfl))
    ·rename_i hne
     try dsimp only
     split
     ·refine qs (w:=w++[sl h w.length]) i0 hb4.1 hb4.2 hu1 (by rw[List.length_append,hl];rfl) (by rw[List.length_append,List.length_singleton];have:=hc.wl;omega) hk.hl hk.ha hk.sz hg.1 hg.2.1 hne λ υ d l1 i1 hd=>?_;refine sA i1 hg.1 (by have:=l1.gen;have:=hg.2.1;omega) (by rw[List.length_append,List.length_singleton];have:=hc.wl;omega) hd (Int.le_refl _) λ ρ j l2 i2 hj=>?_;have l12:=l1.trans i0 i1 l2;exact gr rfl ρ l12 i2 hk64 (o:=b) (by rw[l12.nd hm.in.2];exact hlk) (.inr ⟨hj.1.1,hj.1.2,by rw[hj.2];exact Int.le_refl _⟩) (λ _ _=>hj.1.1) (by rw[l12.nd hm.in.2];exact h3)
     ·exact hK σ _ _ (Le.refl σ) i0 rfl (.inr (.inl rfl))
theorem Qq{level:Nat}{K:Rs->Int->Tr}(hT:dX σ c.t)(i0:Inv H σ)(hi:sN σ i w g)(hm:pP σ m w g)(hs:eO σ m)(hu:fQ h w)(hl:level=w.length)(h5:(σ.nd m).kind≠5)(hK:KL H Q σ m h level K):WT H Q (kO c i m h level K) σ:=by
 have gc:∀{n:Nv} {R:Rs},R.root=0->cC n->mE H σ n w g->WT H Q (.alloc n m λ r=>oP c.t i m r λ ok=>K R (if ok=true then 1 else 0)) σ:=λ{n R} hR hmk hn =>
  gN i0 hn (xR hmk hm hs) λ χ r cl l2 i2 _ _ f1 f2 f3 _ _ =>
   yH (hT.up l2) i2 (hi.up l2) (pF (cl:=0) hmk f1 f2 f3) λ ψ ok l3 i3=>hK ψ _ _ (l2.trans i0 i2 l3) i3 hR (bc ok)
 refine⟨hm.in.2,?_⟩;try dsimp only
 split
 ·rename_i h6
  have hln:=hm.vn i0 h6;try dsimp only
  split
  ·exact hK σ _ _ (Le.refl σ) i0 rfl (.inr (.inl rfl))
  ·rename_i hn
   have hf:(eK (σ.nd m).ys c.key).isSome=true:=by
    cases hx:(eK (σ.nd m).ys c.key).isSome with
    | true=>rfl
    | false=>exact absurd (.inl hx) hn
   have:=yl (w:=w) (g:=g) i0 hln (k:=c.key) hf;exact gc rfl this.1 this.2
 ·rename_i h6
  have h3:(σ.nd m).kind=3:=by
   rcases hm.1 with h|h|h
   ·exact h
   ·exact absurd h h5
   ·exact absurd h h6
  have hc:=hm.uF i0 h3;have hlev:iE h (level:Int)=((sl h w.length:Nat):Int):=by rw[hl];exact Lt hc.wl
  have hk64:=vS h w.length;unfold KL wq at hK;rw[hlev] at hK ⊢;cases hlk:mU (σ.nd m) ((sl h w.length:Nat):Int) with
  | none =>
   simp only[]
   exact hK σ _ _ (Le.refl σ) i0 rfl (.inr (.inl rfl))
  | some b =>
   simp only[]
   have hb:=hc.br _ hk64 b (by rw[<- hc.lk hk64];exact hlk);refine⟨hb.in.2,?_⟩;try dsimp only
   split
   ·rename_i h2
    exact hK σ _ _ (Le.refl σ) i0 rfl (.inr (.inr ⟨b,hlk,h2⟩))
   rename_i h2
   try dsimp only
   split
   ·exact hK σ _ _ (Le.refl σ) i0 rfl (.inr (.inl rfl))
   try dsimp only
   split
   ·exact hK σ _ _ (Le.refl σ) i0 rfl (.inr (.inl rfl))
   obtain⟨f1,f2,f3,f4⟩:=hc.re hk64 hlk
   have hso:(Ly (Nr (σ.nd m) ((sl h w.length:Nat):Int))).getD 0<=σ.len:=by
    rw[f1,Nn f2];try dsimp only
    split
    ·rename_i e1
     have hmem:(sF (σ.nd m).xs (gB (σ.nd m).bm.toNat (sl h w.length))).getD 0 0∈sF (σ.nd m).xs (gB (σ.nd m).bm.toNat (sl h w.length)):=Cu (by omega);obtain⟨j,hj,hv⟩:=K6 f2 hmem
     rw[f3 j hj] at hv
     unfold Nw at hv
     split at hv
     ·cases hv
     ·exact(hc.br j hj _ hv).in.2
    ·exact bT _
   refine⟨hso,?_⟩;try dsimp only
   rw[f1] at hso ⊢;rw[ls f2];try dsimp only
   split
   ·rename_i hx
    have e1:=hx.1;rw[Nn f2,if_pos e1] at hx ⊢;simp only[Option.getD_some] at hx ⊢
    generalize hs0:(sF (σ.nd m).xs (gB (σ.nd m).bm.toNat (sl h w.length))).getD 0 0=s at hx ⊢;have hmem:s∈sF (σ.nd m).xs (gB (σ.nd m).bm.toNat (sl h w.length)):=by rw[<- hs0];exact Cu (by omega)
    obtain⟨j,hj,hv⟩:=K6 f2 hmem
    have hbr:Mz σ (w++[j]) g s:=by
     rw[f3 j hj] at hv
     unfold Nw at hv
     split at hv
     ·cases hv
     ·exact hc.br j hj _ hv
    have hlf:=i0.leaf (.inl hx.2.2)
    have hus:fQ (σ.nd s).hash.toNat (w++[j]):=by
     rcases hbr with h'|h'
     ·exact h'.2
     ·have:=h'.1;have:=hx.2.2;omega
    have e5:tmV (σ.nd s)=kf (((σ.nd s).hash.toNat:Nat):Int) (σ.nd s).key (σ.nd s).val:=by rw[<- hlf.hn];rfl
    rw[e5]
    exact gc rfl (.inr (.inl rfl)) (H4 i0 hlf.sz hlf.ha hlf.hl (by omega) (by have:=hc.wl;omega) (Ju hus))
   ·rename_i hx
    refine gc rfl (.inl rfl) (nQ i0 f2 (λ j hj v hv=>?_) hc.wl (λ h0=>⟨λ e=>?_,λ b' hb'=>?_⟩))
    ·rw[f3 j hj] at hv
     unfold Nw at hv
     split at hv
     ·cases hv
     ·exact hc.br j hj v hv
    ·rw[e] at f4;have h1:(σ.nd m).xs.length=1:=by simpa using f4.symm
     have hlt:(σ.nd m).xs=[b]:=by
      have hmem:=V1 hc.bv hk64 (x:=b) (by rw[<- hc.lk hk64];exact hlk);cases hxs:(σ.nd m).xs with
      | nil=>rw[hxs] at h1;simp at h1
      | cons a t =>
       rw[hxs] at h1 hmem
       cases t with
       | nil=>rw[List.mem_singleton.1 hmem]
       | cons _ _=>simp at h1
     exact h2 ((hc.ne h0).2 b hlt)
    ·have e1:(sF (σ.nd m).xs (gB (σ.nd m).bm.toNat (sl h w.length))).length=1:=by rw[hb'];rfl
     rw[Nn f2,if_pos e1] at hx
     rw[hb'] at hx f2 f3
     have hbr:∃j,Mz σ (w++[j]) g b':=by
      obtain⟨j,hj,hv⟩:=K6 f2 (List.mem_singleton.2 rfl:b'∈[b'])
      rw[f3 j hj] at hv
      unfold Nw at hv
      split at hv
      ·cases hv
      ·exact⟨j,hc.br j hj _ hv⟩
     obtain⟨j,hbr⟩:=hbr
     rcases hbr with h'|h'
     ·exact absurd ⟨rfl,by omega,h'.1⟩ hx
     ·exact h'.1
theorem Ol{level:Nat}{K:Int->Tr}(hT:dX σ c.t)(i0:Inv H σ)(hi:sN σ i w g)(hm:pP σ m w g)(hs:eO σ m)(hl:level=w.length)(hf:wq σ m h level)
  (hK:∀τ b,Le σ τ->Inv H τ->(b=0∨sN τ b (w++[sl h level]) g)->WT H Q (K b) τ):WT H Q (Fk c i m (iE h level) g K) σ:=by
 obtain⟨b,hlk,h2⟩:=hf
 have hc:=hm.uF i0 (Hw hlk);have hk64:=vS h w.length;subst hl;rw[Lt hc.wl] at hlk ⊢;have hb:=hc.br _ hk64 b (by rw[<- hc.lk hk64];exact hlk);refine⟨hm.in.2,?_⟩;dsimp only;rw[show(mU (σ.nd m) ((sl h w.length:Nat):Int)).getD 0=b by rw[hlk];rfl];refine⟨hb.in.2,?_⟩;try dsimp only
 split
 ·rename_i e
  rcases hb with h'|h'
  ·rw[h2] at h';exact absurd h'.1 (by decide)
  ·exact hK σ b (Le.refl σ) i0 (.inr ⟨⟨h'.1,h'.2.1⟩,e⟩)
 ·exact gk hT i0 hi hm hs hc hk64 hlk h2 hK
abbrev KG(H:ByteArray->Nat)(Q:Rs->Kw->Prop)(σ:Kw)(K:Tr):Prop:=∀τ,Le σ τ->Inv H τ->WT H Q K τ
theorem N9{K:Rs->Tr}{again:Tr}(hT:dX σ c.t)(i0:Inv H σ)(hk:Vb H c h)(hK:KA H Q σ K)(hA:KG H Q σ again):∀(n:Nat) (σ':Kw) (i parent:Int) (w:List Nat) (level:Nat),Le σ σ'->Inv H σ'->sN σ' i w g->fQ h w->level=w.length->(0<w.length->∃w0 g0,sN σ' parent w0 g0/\w.length=w0.length+1)->WT H Q (Dz c h K again g n i parent level) σ'
 | 0,_,_,_,_,_,_,_,_,_,_,_=>trivial
 | n+1,σ',i,parent,w,level,l,i1,hi,hu,hl,hp=>by
  refine lM (hT.up l) i1 hi λ τ m l1 i2 hm hs=>⟨hm.in.2,?_⟩;have l01:=l.trans i0 i1 l1;have hi2:=hi.up l1;try dsimp only
  split
  ·rename_i h5
   have h0:=((i2.nd m hm.in.1 hm.in.2).k5 h5).1;rw[hm.2.1] at h0;obtain⟨w0,g0,hp1,hp2⟩:=hp h0
   exact E8 (hT.up l01) i2 (hp1.up l1) (by omega) hi2.1.1 λ υ _ l2 i3=>hA υ (l01.trans i0 i2 l2) i3
  ·rename_i h5
   refine Tk (hT.up l01) i2 hk hi2 hm hs hu hl h5 λ υ r what l2 i3 hr hf=>?_;have l02:=l01.trans i0 i2 l2;try dsimp only
   split
   ·exact hK υ r l02 i3 hr
   try dsimp only
   split
   ·exact hA υ l02 i3
   rename_i hw1 hw2
   have hfu:wq τ m h level:=by
    rcases hf with h|h|h
    ·exact absurd h hw2
    ·exact absurd h hw1
    ·exact h
   have hfu2:wq υ m h level:=by
    obtain⟨b,f1,f2⟩:=hfu
    exact⟨b,by rw[l2.nd hm.in.2];exact f1,by rw[l2.nd (eF (N:=τ.mm.nodes) (i:=b) (by simp only[Kw.nd] at f2;rw[f2];decide)).2];exact f2⟩
   refine Ol (hT.up l02) i3 (hi2.up l2) (hm.up l2) (eO.up i2 hm.1 hs l2) hl hfu2 λ χ b l3 i4 hb=>?_;have l03:=l02.trans i0 i3 l3;try dsimp only
   split
   ·exact hA χ l03 i4
   ·rename_i hb0
    rcases hb with hb|hb
    ·exact absurd hb hb0
    ·have hu2:fQ h (w++[sl h level]):=by rw[hl];exact tA hu
     exact N9 hT i0 hk hK hA n χ b i (w++[sl h level]) (level+1) l03 i4 hb hu2 (by rw[List.length_append,hl];rfl) λ _=>⟨w,g,(hi2.up l2).up l3,by rw[List.length_append];rfl⟩
theorem j2{K:Rs->Tr}(hT:dX σ c.t)(i0:Inv H σ)(hk:Vb H c h)(hK:KA H Q σ K):∀(n:Nat) (σ':Kw),Le σ σ'->Inv H σ'->WT H Q (G0 c h K n) σ'
 | 0,_,_,_=>trivial
 | n+1,σ',l,i1=>by
  refine xX (hT.up l) i1 λ τ i l1 i2 hi=>⟨hi.in.2,?_⟩;have l01:=l.trans i0 i1 l1;refine N9 (g:=(τ.nd i).gen) (hT.up l01) i2 hk (hK.up i0 i2 l01) (λ υ l2 i3=>j2 hT i0 hk hK n υ (l01.trans i0 i2 l2) i3) n τ i 0 [] 0 (Le.refl τ) i2 ⟨hi,rfl⟩ (Yo h) rfl λ h=>absurd h (by decide)
def Ee(σ:Kw)(path:List Int)(h:Nat)(g:Int):Prop:=∀k,k<path.length->sN σ (path.getD k 0) (sW h k) g
theorem Ee.up{path:List Int}(hp:Ee σ path h g)(l:Le σ τ):Ee τ path h g:=λ k hk=>(hp k hk).up l
theorem Ee.snoc{path:List Int}{b:Int}(hp:Ee σ path h g)(hb:sN σ b (sW h path.length) g):Ee σ (path++[b]) h g:=λ k hk=>by
 rw[List.length_append,List.length_singleton] at hk
 rw[gF]
 by_cases e:k<path.length
 ·rw[List.getElem?_append_left e,<- gF]
  exact hp k e
 ·have:k=path.length:=by omega
  subst this
  simpa using hb
theorem u9{t:iS}{path:List Int}{K:Tr}(hT:dX σ t)(i0:Inv H σ)(hp:Ee σ path h g)(hK:KG H Q σ K):∀(l:Nat) (σ':Kw),Le σ σ'->Inv H σ'->l<path.length->WT H Q (uy t path h K l) σ'
 | 0,σ',l,i1,_=>hK σ' l i1
 | n+1,σ',l,i1,hl=>by
  have hp1:=hp.up l;refine lM (hT.up l) i1 (hp1 (n+1) hl) λ τ m l1 i2 hm _=>⟨hm.in.2,?_⟩;have l01:=l.trans i0 i1 l1;try dsimp only
  split
  ·refine E8 (hT.up l01) i2 ((hp1.up l1) n (by omega)) (by rw[iO]) ((hp1.up l1) (n+1) hl).1.1 λ υ _ l2 i3=>u9 hT i0 hp hK n υ (l01.trans i0 i2 l2) i3 (by omega)
  ·exact hK τ l01 i2
theorem Jb{K:Rs->Tr}{again:Tr}(hT:dX σ c.t)(i0:Inv H σ)(hK:KA H Q σ K)(hA:KG H Q σ again):∀(n:Nat) (σ':Kw) (i:Int) (path:List Int) (level:Nat),Le σ σ'->Inv H σ'->sN σ' i (sW h level) g->Ee σ' path h g->path.length=level+1->WT H Q (vY c h K again g n i path level) σ'
 | 0,_,_,_,_,_,_,_,_,_=>trivial
 | n+1,σ',i,path,level,l,i1,hi,hp,hpl=>by
  refine lM (hT.up l) i1 hi λ τ m l1 i2 hm hs=>⟨hm.in.2,?_⟩;have l01:=l.trans i0 i1 l1;have hi2:=hi.up l1;have hp2:=hp.up l1;have hlw:level=(sW h level).length:=(iO h level).symm;try dsimp only
  split
  ·rename_i h5
   have h0:=((i2.nd m hm.in.1 hm.in.2).k5 h5).1;rw[hm.2.1,iO] at h0;exact E8 (hT.up l01) i2 (hp2 (level-1) (by omega)) (by rw[iO];omega) hi2.1.1 λ υ _ l2 i3=>hA υ (l01.trans i0 i2 l2) i3
  ·rename_i h5
   refine Qq (hT.up l01) i2 hi2 hm hs (tF h level) hlw h5 λ υ r what l2 i3 hr hf=>?_;have l02:=l01.trans i0 i2 l2;try dsimp only
   split
   ·try dsimp only
    split
    ·exact u9 (hT.up l02) i3 (hp2.up l2) (λ χ l3 i4=>hK χ r (l02.trans i0 i3 l3) i4 hr) (path.length-1) υ (Le.refl υ) i3 (by omega)
    ·exact hK υ r l02 i3 hr
   try dsimp only
   split
   ·exact hA υ l02 i3
   rename_i hw1 hw2
   have hfu:wq τ m h level:=by
    rcases hf with h|h|h
    ·exact absurd h hw2
    ·exact absurd h hw1
    ·exact h
   have hfu2:wq υ m h level:=by
    obtain⟨b,f1,f2⟩:=hfu
    exact⟨b,by rw[l2.nd hm.in.2];exact f1,by rw[l2.nd (eF (N:=τ.mm.nodes) (i:=b) (by simp only[Kw.nd] at f2;rw[f2];decide)).2];exact f2⟩
   refine Ol (hT.up l02) i3 (hi2.up l2) (hm.up l2) (eO.up i2 hm.1 hs l2) hlw hfu2 λ χ b l3 i4 hb=>?_;have l03:=l02.trans i0 i3 l3;try dsimp only
   split
   ·exact hA χ l03 i4
   ·rename_i hb0
    rcases hb with hb|hb
    ·exact absurd hb hb0
    ·rw[<- Jv] at hb
     exact Jb hT i0 hK hA n χ b (path++[b]) (level+1) l03 i4 hb (((hp2.up l2).up l3).snoc (by rw[hpl];exact hb)) (by rw[List.length_append,hpl];rfl)
theorem Vv{K:Rs->Tr}(hT:dX σ c.t)(i0:Inv H σ)(hK:KA H Q σ K):∀(n:Nat) (σ':Kw),Le σ σ'->Inv H σ'->WT H Q (wM c h K n) σ'
 | 0,_,_,_=>trivial
 | n+1,σ',l,i1=>by
  refine xX (hT.up l) i1 λ τ i l1 i2 hi=>⟨hi.in.2,?_⟩;have l01:=l.trans i0 i1 l1;refine Jb (g:=(τ.nd i).gen) (hT.up l01) i2 (hK.up i0 i2 l01) (λ υ l2 i3=>Vv hT i0 hK n υ (l01.trans i0 i2 l2) i3) n τ i [i] 0 (Le.refl τ) i2 ⟨hi,rfl⟩ (λ k hk=>?_) rfl;have:k=0:=by simpa using hk
  subst this
  exact⟨hi,rfl⟩
theorem L8{K:Int->Tr}(i0:Inv H σ)(hK:∀υ,Le σ υ->Inv H υ->υ.mm.gen=σ.mm.gen+1->WT H Q (K (σ.mm.gen+1)) υ):WT H Q (.gen K) σ:=by
 have e:Ext σ ⟨⟨σ.mm.nodes,σ.mm.cs,σ.mm.gen+1⟩,σ.way,σ.gb,σ.ct⟩:=⟨⟨[],by simp⟩,⟨[],by simp⟩,by show σ.mm.gen<=σ.mm.gen+1;omega,λ _ _=>rfl,λ _ _=>rfl,λ _ _=>rfl⟩;have hp:fR σ.mm.nodes σ.mm.cs (σ.mm.gen+1):=⟨i0.prop.two,by have:=i0.prop.gen0;omega,i0.prop.m0,i0.prop.m1,i0.prop.cells,λ k hk=>⟨(i0.prop.nodes k hk).1,by have:=(i0.prop.nodes k hk).2.1;omega,(i0.prop.nodes k hk).2.2⟩,i0.prop.marks⟩;have i1:=Mf i0 e hp (λ r h1 h2=>absurd h2 (by simp only[Kw.len] at *;omega)) (λ c h1 h2=>absurd h2 (by simp only[Kw.cl] at *;omega));exact⟨_,e.le,i1,rfl,hK _ e.le i1 rfl⟩
theorem E0{r:Int}{K:Int->Tr}(ro:Bool)(i0:Inv H σ)(hr:xS σ r [])(hK:∀υ c,Le σ υ->Inv H υ->0<c->dX υ ⟨c,ro⟩->WT H Q (K c) υ):WT H Q (.cell r K) σ:=by
 have e:Ext σ ⟨⟨σ.mm.nodes,σ.mm.cs++[r],σ.mm.gen⟩,σ.way,σ.gb,λ c=>if c<=σ.cl then σ.ct c else ctR ro⟩:=⟨⟨[],by simp⟩,⟨[r],rfl⟩,Int.le_refl _,λ _ _=>rfl,λ _ _=>rfl,λ c hc=>if_pos hc⟩;have hcl:(σ.mm.cs++[r]).length=σ.cl+1:=by simp[Kw.cl]
 have hct:(if((σ.cl+1:Nat):Int)<=σ.cl then σ.ct ((σ.cl+1:Nat):Int) else ctR ro)=ctR ro:=if_neg (by omega);have hin:=hr.in
 have i1:=Mf i0 e (fR.cell i0.prop ⟨by omega,hin.2⟩) (λ r h1 h2=>absurd h2 (by simp only[Kw.len] at *;omega)) (λ c h1 h2=>by
  simp only[Kw.cl] at h1 h2
  rw[hcl] at h2;have hc:c=((σ.cl+1:Nat):Int):=by simp only[Kw.cl] at *;omega
  subst hc
  have hv:bV (σ.mm.cs++[r]) ((σ.cl+1:Nat):Int)=r:=by
   unfold bV
   rw[if_pos ⟨by omega,by rw[hcl];exact Int.le_refl _⟩,show(((σ.cl+1:Nat):Int)-1).toNat=σ.mm.cs.length by simp only[Kw.cl];omega]
   simp[gF]
  refine⟨by simp only[Kw.ce,hv];omega,by simp only[Kw.ce,hv];exact hin.2,λ i' k=>?_,λ m k=>?_,λ d k=>?_,λ k=>.inl ?_,λ k=>?_⟩
  ·simp only[hct] at k;cases ro<;>cases k
  ·simp only[hct] at k;cases ro<;>cases k
  ·simp only[hct] at k;cases ro<;>cases k
  ·simp only[Kw.ce,hv];exact hr
  ·simp only[Kw.ce,hv];exact hr)
 refine⟨_,e.le,i1,rfl,hK _ _ e.le i1 (by omega) ⟨by show 1<=((σ.cl+1:Nat):Int);omega,by show((σ.cl+1:Nat):Int)<=((σ.mm.cs++[r]).length:Nat);rw[hcl];exact Int.le_refl _,hct⟩⟩
def Q0(r:Rs)(σ:Kw):Prop:=0<r.root->dX σ ⟨r.root,r.ro⟩
theorem Q0.up{r:Rs}(h:Q0 r σ)(l:Le σ τ):Q0 r τ:=λ h0=>(h h0).up l
theorem Wx{g':Int}(i0:Inv H σ)(hm:pP σ m [] g')(hg:g'<=σ.mm.gen):WT H Q0 (O6 m .done) σ:=by
 have hgen:=i0.gen;refine L8 i0 λ υ l1 i1 e1=>sA (g:=σ.mm.gen+1) i1 (by omega) (by omega) (by simp) (hm.up l1) (by omega) λ τ j l2 i2 hj=>E0 false i2 hj.1 λ ρ c l3 i3 h0 hc=>λ _=>hc
theorem xS.Fs(hr:xS σ i w):sN σ i w (σ.nd i).gen:=⟨hr,rfl⟩
theorem Vt{t:iS}{fz:Bool}(hT:dX σ t)(hr0:t.ro=false)(i0:Inv H σ):∀(n:Nat) (σ':Kw),Le σ σ'->Inv H σ'->WT H Q0 (I8 t fz .done n) σ'
 | 0,_,_,_=>trivial
 | n+1,σ',l,i1=>by
  refine xX (hT.up l) i1 λ τ r l1 i2 hr=>?_;have l01:=l.trans i0 i1 l1;have hg:=hr.Fs.N5 i2;refine lM (hT.up l01) i2 hr.Fs λ υ m l2 i3 hm hs=>?_;have l02:=l01.trans i0 i2 l2;have hgen:=l2.gen;refine L8 i3 λ ρ l3 i4 e3=>?_;have l03:=l02.trans i0 i3 l3;refine sA (g:=υ.mm.gen+1) i4 (by have:=i3.gen;omega) (by omega) (by simp) (hm.up l3) (by omega) λ χ j l4 i5 hj=>?_;have l04:=l03.trans i0 i4 l4;have l24:=(l2.trans i2 i3 l3).trans i2 i4 l4;have hm4:=(hm.up l3).up l4;refine Gt (hT.up l04) hr0 i5 (hr.up l24) hj.1 hm4.in.1 hm4.in.2 λ ψ ok l5 i6=>?_;have l05:=l04.trans i0 i5 l5;try dsimp only
  split
  ·try dsimp only
   split
   ·exact E0 true i6 ((hr.up l24).up l5) λ ω c l6 i7 h0 hc=>λ _=>hc
   ·exact Wx i6 (hm4.up l5) (by have:=l5.gen;have:=l4.gen;have:=l3.gen;omega)
  ·exact Vt hT hr0 i0 n ψ l05 i6
theorem Q9{t:iS}{fz:Bool}(hT:dX σ t)(i0:Inv H σ)(n:Nat):WT H Q0 (tI t fz .done n) σ:=by
 unfold tI;try dsimp only
 split
 ·rename_i hr
  refine λ τ l1 i1=>?_;have hv:=(hT.up l1).roI i1 hr;try dsimp only
  split
  ·exact E0 true i1 hv λ ω c l6 i7 h0 hc=>λ _=>hc
  ·have hg:=hv.Fs.N5 i1;exact lM (hT.up l1) i1 hv.Fs λ υ m l2 i2 hm _=>Wx i2 hm (by have:=l2.gen;omega)
 ·rename_i hr;exact Vt hT (by simpa using hr) i0 n σ (Le.refl σ) i0
theorem Pm{t:iS}(hT:dX σ t)(hr0:t.ro=false)(i0:Inv H σ):∀(n:Nat) (σ':Kw),Le σ σ'->Inv H σ'->WT H Q0 (Ap t .done n) σ'
 | 0,_,_,_=>trivial
 | n+1,σ',l,i1=>by
  refine xX (hT.up l) i1 λ τ r l1 i2 hr=>?_;have l01:=l.trans i0 i1 l1;have hg:=hr.Fs.N5 i2;refine lM (hT.up l01) i2 hr.Fs λ υ m l2 i3 hm hs=>?_;have l02:=l01.trans i0 i2 l2;have hgu:=i3.gen;have hnew:mE H υ K5 ([]:List Nat) (υ.mm.gen+1):=nQ (b:=0) (xs:=[]) i3 Kz (λ j hj v hv=>by simp[rA] at hv) (by simp) (λ h=>absurd h (by decide));refine gN i3 hnew (qX i3 (λ e=>fC (a:=3) (b:=2) e)) λ ρ e0 cl l3 i4 _ em e1 e2 e3 h1 h2=>?_;have l03:=l02.trans i0 i3 l3;have hem:pP ρ e0 [] (υ.mm.gen+1):=pF (cl:=0) (.inl rfl) e1 e2 e3;have hgr:ρ.mm.gen=υ.mm.gen:=by rw[em];rfl
  refine L8 i4 λ χ l4 i5 e4=>?_;have l04:=l03.trans i0 i4 l4;refine sA (g:=ρ.mm.gen+1) i5 (by omega) (by omega) (by simp) (hem.up l4) (by omega) λ ψ j l5 i6 hj=>?_;have l05:=l04.trans i0 i5 l5;have l25:=((l2.trans i2 i3 l3).trans i2 i4 l4).trans i2 i5 l5;have hm5:=((hm.up l3).up l4).up l5;refine Gt (hT.up l05) hr0 i6 (hr.up l25) hj.1 hm5.in.1 hm5.in.2 λ ω ok l6 i7=>?_;try dsimp only
  split
  ·exact λ h=>absurd h (by decide)
  ·exact Pm hT hr0 i0 n ω (l05.trans i0 i6 l6) i7
structure Ta(H:ByteArray->Nat)(σ:Kw)(c:Cl)(h:Nat):Prop where
 t:dX σ c.t
 hl:h<18446744073709551616
 ha:H c.key=h
 ro:c.kind=8∨c.kind=9∨c.kind=12∨c.kind=4->c.t.ro=false
 k:(7<=c.kind/\c.kind<=12)∨c.kind=3∨(c.kind=1/\∃w g,sN σ c.a w g)∨(c.kind=2/\∃w g,sN σ c.a w g/\pP σ c.n w g)∨(c.kind=4/\xS σ c.a []/\xS σ c.n []/\1<=c.b/\c.b<=σ.len)
theorem Zl(h:refuse c=0)(hk:c.kind=7∨c.kind=8∨c.kind=9):c.key.size<=64:=by
 unfold refuse at h
 split at h
 ·split at h
  ·assumption
  ·cases h
 split at h
 ·split at h
  ·rename_i hx;exact hx.1
  ·cases h
 ·omega
theorem o9(i0:Inv H σ)(hc:Ta H σ c h)(n:Nat):WT H Q0 (mH c h n) σ:=by
 have hz:∀{σ:Kw} {r:Rs},r.root=0->Q0 r σ:=λ h h0=>by rw[h] at h0;exact absurd h0 (by decide)
 have hA:KA H Q0 σ .done:=λ τ r _ _ hr=>hz hr;have ek:=hc.k;unfold mH;try dsimp only
 split
 ·exact hz rfl
 rename_i hr0
 have hr:refuse c=0:=Classical.byContradiction hr0;have hkey:c.kind=7∨c.kind=8∨c.kind=9->Vb H c h:=λ e=>⟨Zl hr e,hc.ha,hc.hl⟩;try dsimp only
 split
 ·rename_i e
  rcases ek with h|h|⟨_,w,g,h⟩|⟨h,_⟩|⟨h,_⟩
  ·omega
  ·omega
  ·exact lM hc.t i0 h λ τ m l1 i1 _ _=>hz rfl
  ·omega
  ·omega
 try dsimp only
 split
 ·rename_i e1 e
  rcases ek with h|h|⟨h,_⟩|⟨_,w,g,h1,h2⟩|⟨h,_⟩
  ·omega
  ·omega
  ·omega
  ·exact yH hc.t i0 h1 h2 λ τ b l1 i1=>hz rfl
  ·omega
 try dsimp only
 split
 ·exact xX hc.t i0 λ τ r l1 i1 _=>hz rfl
 try dsimp only
 split
 ·rename_i e1 e2 e3 e
  rcases ek with h|h|⟨h,_⟩|⟨h,_⟩|⟨_,h1,h2,h3,h4⟩
  ·omega
  ·omega
  ·omega
  ·omega
  ·exact Gt hc.t (hc.ro (.inr (.inr (.inr (by assumption))))) i0 h1 h2 h3 h4 λ τ b l1 i1=>hz rfl
 try dsimp only
 split
 ·exact xX hc.t i0 λ τ r l1 i1 hr=>Vu (H:=H) (Q:=Q0) (K:=Tr.done) hc.t i0 hA n τ r [] _ 0 l1 i1 hr.Fs
 try dsimp only
 split
 ·rename_i e
  exact j2 hc.t i0 (hkey (.inr (.inl e))) hA n σ (Le.refl σ) i0
 try dsimp only
 split
 ·exact Vv hc.t i0 hA n σ (Le.refl σ) i0
 try dsimp only
 split
 ·exact Q9 hc.t i0 n
 try dsimp only
 split
 ·exact Q9 hc.t i0 n
 ·exact Pm hc.t (hc.ro (.inr (.inr (.inl (by omega))))) i0 n σ (Le.refl σ) i0
end
end Go.Proofs.YtadnboagdhcedaaGreatDoor
