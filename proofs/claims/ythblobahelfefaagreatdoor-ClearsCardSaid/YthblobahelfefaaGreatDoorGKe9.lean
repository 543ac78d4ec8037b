/- Merged. -/
import Derived.Test.YthblobahelfefaaGreatDoorGKe7
set_option linter.unusedSimpArgs false
set_option linter.unusedVariables false
namespace Go.Proofs.YthblobahelfefaaGreatDoor
open Go Go.RowKit Go.Ct
section
section
variable{C:KP}{B k d a0:Nat}{s s1 s2:Mm}{σ τ υ:Gs}{r x y v w f m i e:Int}{a:List Nat}{Q:Rs->Mm->Gs->Prop}{P P':Mm->Gs->Prop}{K:Int->Tr}{T:Tr}{u:Nat}
structure Ne(v e:Int)(s:Mm)(σ:Gs):Prop where
 hv:Hv v s σ
 ex:(aB s.nodes v).exp=e
 h:fH s v≠0∨cN s 4≠e
theorem Ne.ev(C:KP)(v e:Int):Ev C (Ne v e):=λ j s σ s1 τ j1 q g h=>by
 refine⟨Hv.ev C v j s σ s1 τ j1 q g h.hv,by rw[q.k.nd v h.hv.d.r.b];exact h.ex,?_⟩;by_cases z:fH s v=0
 ·have hc:aL s.cs 3=v:=by
   rcases h.hv.h with⟨_,h1⟩|h1|⟨h1,_⟩;·exact h1
   ·rw[z] at h1;cases h1
   ·rw[z] at h1;cases h1
  have hR0:σ.R=0:=by
   rcases j1.W2 hc h.hv.d with⟨_,h1,_⟩|⟨h1,_⟩|⟨h1,_⟩;·exact h1
   ·rw[z] at h1;cases h1
   ·rw[z] at h1;cases h1
  have h4:=h.h.resolve_left λ q=>q z;refine .inr ?_;cases yA j1 g with
  | same e5 _=>rw[(e5 4 j1.sF).1];exact h4
  | put r' q' ws hr z' hj hu c p e5 o e6 hs=>
   rcases hr with⟨q1,_⟩|⟨_,q2,_⟩;·subst q1;rw[e5];intro e7;rw[e7,<- h.ex,h.hv.d.z] at p;exact eA j1.m4.rg.1 p.symm
   ·exact absurd hR0 q2
  | mU r' y' u hr p y0' hu hn c e5 o e6 hs=>rw[e6 4 j1.sF];exact h4
  | fail y' f hR' p k w e5 o e6 hs=>exact absurd hR0 hR'
  | back y' f hR' p w e5 o e6 hs=>exact absurd hR0 hR'
 ·exact .inl (by rw[Aq j1 g h.hv.d z];exact z)
theorem kw(C:KP)(v e:Int):Ev C λ s (_:Gs)=>Rg s v/\(aB s.nodes v).exp=e:=λ j s σ s1 τ j1 q g ⟨h1,h2⟩=>⟨h1.le q.k.le,by rw[q.k.nd v h1.b];exact h2⟩
structure DcX(v e:Int)(b:Bool)(x:Int)(s:Mm)(σ:Gs):Prop where
 hv:Hv v s σ
 a:x=e->Am v s σ
 n:x≠e->Ne v e s σ
 b:b=true->x≠e
theorem DcX.ev(C:KP)(v e:Int)(b:Bool)(x:Int):Ev C (DcX v e b x):=λ j s σ s1 τ j1 q g h=>⟨Hv.ev C v j s σ s1 τ j1 q g h.hv,λ e1=>Am.ev C v j s σ s1 τ j1 q g (h.a e1),λ e1=>Ne.ev C v e j s σ s1 τ j1 q g (h.n e1),h.b⟩
theorem aBz(C:KP)(v c:Int):Ev C λ s (_:Gs)=>Rg s v/\(aB s.nodes v).status=c:=λ j s σ s1 τ j1 q g ⟨h1,h2⟩=>⟨h1.le q.k.le,by rw[q.k.nd v h1.b];exact h2⟩
theorem aCf(hk:k<3)(hP:nQ C k P)(g:∀s σ,At C B k s σ->P s σ->Hn v s σ->fY C B k Q 64 d T s σ)(h:At C B k s σ)(h0:P s σ)(ha:Am v s σ):fY C B k Q a0 (d+1) (.qG (aB s.nodes v).status 0 1 λ _=>T) s σ:=by
 obtain⟨c,hc⟩:∃c,c=(aB s.nodes v).status:=⟨_,rfl⟩;rw[<- hc];refine yM (P:=λ s σ=>P s σ/\(Am v s σ/\Rg s v/\(aB s.nodes v).status=c)) (P':=Hn v) hk (hP.ev ((Am.ev C v).and (aBz C v c))) (λ s σ hA ⟨h1,h2,h3,h4⟩=>?_) (λ s σ b hA ⟨h1,h2,_⟩ h3=>g s σ hA h1 h3) h ⟨h0,ha,ha.hv.d.r,hc.symm⟩;have hv:=h2.hv;obtain⟨a1,a2,a3,-,-⟩:=hA.j.ly.stat hv.d.r hv.d.k
 rw[h4] at a1 a2 a3;refine⟨a1,a2,λ e=>?_,λ e=>⟨hv,λ e2=>e (by rw[<- h4];exact e2)⟩⟩;have z:fH s v=0:=by unfold fH;rw[h4];exact e
 have c3:aL s.cs 3=v:=by
  rcases hv.h with⟨_,h5⟩|h5|⟨h5,_⟩;·exact h5
  ·rw[z] at h5;cases h5
  ·rw[z] at h5;cases h5
 have g1:=sY.yes (C:=C) (j:=Ka k) (σ:=σ) v c3 hv.d z (h2.a.resolve_left λ q=>q z);rw[h4] at g1;refine⟨_,g1,by show σ.kl<=_;omega,Hv.ev C v _ _ _ _ _ hA.j (Aa hA.j g1) g1 hv,?_⟩;rw[<- h4,(yE (n:=1) hA.j.ly hv.d z).2.2.2.2.1];decide
theorem aAO{n:Int}(hk:k<3)(hP:nQ C k P)(g:∀s σ,At C B k s σ->P s σ->Hn v s σ->fY C B k Q 64 d T s σ)(h:At C B k s σ)(h0:P s σ)(hn:Hn v s σ):fY C B k Q a0 (d+1) (.qG (aB s.nodes v).status 0 n λ _=>T) s σ:=by obtain⟨c,hc⟩:∃c,c=(aB s.nodes v).status:=⟨_,rfl⟩;rw[<- hc];refine yM (P:=λ s σ=>P s σ/\(Hn v s σ/\Rg s v/\(aB s.nodes v).status=c)) (P':=λ _ _=>True) hk (hP.ev ((Hn.ev C v).and (aBz C v c))) (λ s σ hA ⟨h1,h2,h3,h4⟩=>?_) (λ s σ b hA ⟨h1,h2,_⟩ h3=>g s σ hA h1 h2) h ⟨h0,hn,hn.hv.d.r,hc.symm⟩;obtain⟨a1,a2,a3,-,-⟩:=hA.j.ly.stat h2.hv.d.r h2.hv.d.k;rw[h4] at a1 a2 a3;exact⟨a1,a2,λ e=>absurd (show fH s v=0 by unfold fH;rw[h4];exact e) h2.n,λ _=>trivial⟩
theorem Ll(hk:k<3)(hP:nQ C k P)(hN:k=0->∀s σ,At C B k s σ->P s σ->∀v',aL s.cs 3=v'->tI s v'->fH s v'=0->v'=v)(g:∀s σ,At C B k s σ->P s σ->Hn v s σ->fY C B k Q 64 d T s σ)(h:At C B k s σ)(h0:P s σ)(hv:Hv v s σ):fY C B k Q a0 (d+11) (oB t3 v T) s σ:=by
 refine fP h hv.d.r ?_;rw[hv.d.o];obtain⟨e,he⟩:∃e,(aB s.nodes v).exp=e:=⟨_,rfl⟩;refine E4 (d:=d+1) (a:=[]) (P:=λ s σ=>P s σ/\(Hv v s σ/\(Rg s v/\(aB s.nodes v).exp=e))) (PX:=λ b x s σ=>(P s σ/\(Rg s v/\(aB s.nodes v).exp=e))/\DcX v e b x s σ) hk (hP.ev ((Hv.ev C v).and (kw C v e))) (λ b x=>(hP.ev (kw C v e)).ev (DcX.ev C v e b x)) (λ s σ _ _=>⟨.inl ⟨rfl,List.nil_suffix⟩⟩) (λ s σ hA ⟨h0,hv,hr,he⟩=>?_) (λ k0 x s σ hA ⟨⟨h0,hr,he⟩,hd⟩ v' c3 dd z=>?_) (λ b x s σ hA ⟨⟨h0,hr,he⟩,hd⟩ _=>?_) (λ x y f s σ hA ⟨⟨h0,hr,he⟩,hd⟩ _ hx=>?_) h ⟨h0,hv,hv.d.r,he⟩
 ·by_cases ea:cN s 4=e/\fH s v=0
  ·obtain⟨e1,z⟩:=ea;have c3:aL s.cs 3=v:=by
    rcases hv.h with⟨_,h5⟩|h5|⟨h5,_⟩;·exact h5
    ·rw[z] at h5;cases h5
    ·rw[z] at h5;cases h5
   have g1:=sY.arm (C:=C) (j:=Ka k) (σ:=σ) v c3 hv.d z (e1.trans he.symm);have q:=Aa hA.j g1;have hp:=(hP.ev (kw C v e)) _ _ _ _ _ (Oz hk) hA.j q g1 ⟨h0,hr,he⟩;have hv2:=Hv.ev C v _ _ _ _ _ hA.j q g1 hv;refine⟨_,.one (.inr rfl) g1 (Nat.le_refl _) (Nat.le_refl _) (Nat.le_refl _) (by omega),λ _=>⟨hp,hv2,λ _=>⟨hv2,.inr rfl⟩,λ ne=>absurd e1 ne,λ q=>(by cases q)⟩,λ p=>absurd ?_ p⟩;rw[e1,<- he];exact hv.d.z
  ·refine⟨σ,.refl,λ _=>⟨⟨h0,hr,he⟩,hv,λ e1=>⟨hv,.inl λ z=>ea ⟨e1,z⟩⟩,λ ne=>⟨hv,he,.inr ne⟩,λ q=>(by cases q)⟩,λ p=>⟨⟨h0,hr,he⟩,hv,λ e1=>⟨hv,.inl λ z=>ea ⟨e1,z⟩⟩,λ ne=>⟨hv,he,.inr ne⟩,λ _ e1=>p ?_⟩⟩;rw[e1,<- he];exact hv.d.z
 ·have ev:=hN k0 s σ hA h0 v' c3 dd z;subst ev;have:=(hd.n (hd.b rfl)).h.resolve_left λ q=>q z;rw[he];exact this
 ·refine fP hA hr (fP hA hr ?_);rw[he];by_cases ex:x=e;·rw[if_pos ex];exact aCf hk hP g hA h0 (hd.a ex)
  ·rw[if_neg ex];refine Yg (P:=λ s σ=>P s σ/\Ne v e s σ) hk (hP.ev (Ne.ev C v e)) (λ k0 s σ hA ⟨h0,hn⟩ v' c3 dd z=>?_) (λ s σ hA ⟨h0,_⟩ hn=>g s σ hA h0 hn) hA ⟨h0,hd.n ex⟩ hd.hv;have ev:=hN k0 s σ hA h0 v' c3 dd z;subst ev;rw[hn.ex];exact hn.h.resolve_left λ q=>q z
 ·refine fP hA hr (fP hA hr ?_);refine aAO hk hP g hA h0 ⟨hd.hv,λ z=>hx.R ?_⟩;have c3:aL s.cs 3=v:=by
   rcases hd.hv.h with⟨_,h5⟩|h5|⟨h5,_⟩;·exact h5
   ·rw[z] at h5;cases h5
   ·rw[z] at h5;cases h5
  rcases hA.j.W2 c3 hd.hv.d with⟨_,h1,_⟩|⟨h1,_⟩|⟨h1,_⟩;·exact h1
  ·rw[z] at h1;cases h1
  ·rw[z] at h1;cases h1
structure Hw(E:Prop)(a:List Nat)(v:Int)(s:Mm)(σ:Gs):Prop where
 hv:Hv v s σ
 h:(a <:+ jJ σ.us/\E)∨fH s v=1
theorem Hw.ev(C:KP)(E:Prop)(a:List Nat)(v:Int):Ev C (Hw E a v):=λ j s σ s1 τ j1 q g h=>⟨Hv.ev C v j s σ s1 τ j1 q g h.hv,h.h.imp (λ h1=>⟨h1.1.trans (Y1 q.u),h1.2⟩) λ h1=>(Aq j1 g h.hv.d (by rw[h1];decide)).trans h1⟩
theorem Hw.rk{E:Prop}(h:Hw E a v s σ)(j1:J C s σ)(hd:Dw v m w s σ)(hs:a <:+ σ.us):RK w a s σ/\(w=4->E):=by
 rcases hd.h with⟨h1,h2,h3⟩|⟨h1,h2⟩;·exact⟨⟨.inr ⟨⟨h3.symm,by rw[h3,h2];exact eA hd.d.n⟩,hs⟩⟩,λ e=>absurd (h2.symm.trans e) (hd.d.n4 j1)⟩
 ·rcases h.h with h4|h4;·exact⟨⟨.inl ⟨h2,h4.1⟩⟩,λ _=>h4.2⟩
  ·rw[hd.e,h1] at h4;cases h4
abbrev tn(K:Int->Tr)(v:Int):Tr:=.node v λ n=>if n.kind=2 then K v else .node v λ n=>.load n.status λ s=>if s=0 then oB t3 v (.node v λ n=>.load n.status λ s=>lM t3 v s K) else lM t3 v s K
theorem O6{E:Prop}(hE:∀s σ,At C B k s σ->P s σ->σ.R=0->E)(hk:k<3)(hP:nQ C k P)(hZ:k=0->∀s σ,At C B k s σ->P s σ->aL s.cs 3=4)(hS:∀s σ,At C B k s σ->P s σ->a <:+ σ.us)(g:∀r s σ,At C B k s σ->P s σ->RK r a s σ->(r=4->E)->fY C B k Q 64 d (K r) s σ)(h:At C B k s σ)(h0:P s σ):fY C B k Q a0 (d+15) (xO t3 K) s σ:=by
 refine Hp hP (λ s σ h h0=>?_) h h0;have hs:=hS s σ h h0;obtain⟨val,hval⟩:∃val,aL s.cs 3=val:=⟨_,rfl⟩
 show fY C B k Q 64 (d+14) (tn K (aL s.cs 3)) s σ;rw[hval];have desc:val≠4->Hw E a val s σ->fY C B k Q 64 (d+14) (tn K val) s σ:=λ h4 hw=>by
  have k0:k≠0:=λ e=>h4 (hval.symm.trans (hZ e s σ h h0));have hv:=hw.hv;refine fP h hv.d.r ?_;rw[if_neg (by rw[hv.d.k];decide)]
  have fin:∀s σ m,At C B k s σ->(P s σ/\Hw E a val s σ)->m=fH s val->m≠0->fY C B k Q 64 (d+1) (lM t3 val m K) s σ:=λ s σ m h ⟨h0,hw⟩ e e0=>by subst e;exact Mt (P:=λ s σ=>P s σ/\Hw E a val s σ) hk (hP.ev (Hw.ev C E a val)) (λ s σ h ⟨h0,hw⟩ hd _=>(λ q=>g _ s σ h h0 q.1 q.2) (hw.rk h.j hd (hS s σ h h0))) h ⟨h0,hw⟩ (hw.hv.dw e0)
  refine rz (d:=d+13) (P:=λ s σ=>P s σ/\Hw E a val s σ) (hP.ev (Hw.ev C E a val)) hv.d.r (λ s σ h ⟨h0,hw⟩=>?_) h ⟨h0,hw⟩;by_cases e0:fH s val=0;·rw[if_pos e0];refine Ll (d:=d+2) (P:=λ s σ=>P s σ/\Hw E a val s σ) hk (hP.ev (Hw.ev C E a val)) (λ e=>absurd e k0) (λ s σ h ⟨h0,hw⟩ hn=>?_) h ⟨h0,hw⟩ hw.hv;refine rz (d:=d+1) (P:=λ s σ=>(P s σ/\Hw E a val s σ)/\Hn val s σ) ((hP.ev (Hw.ev C E a val)).ev (Hn.ev C val)) hn.hv.d.r (λ s σ h ⟨h0,hn⟩=>?_) h ⟨⟨h0,hw⟩,hn⟩;exact fin s σ _ h h0 rfl hn.n
  ·rw[if_neg e0];exact(fin s σ _ h ⟨h0,hw⟩ rfl e0).mono (by omega)
 have plain:Rg s val->(aB s.nodes val).kind=2->RK val a s σ->(val=4->E)->fY C B k Q 64 (d+14) (tn K val) s σ:=λ hrg k2 hr hee=>by refine fP h hrg ?_;rw[if_pos k2];exact(g val s σ h h0 hr hee).mono (by omega)
 have n4:∀{v:Int},tI s v->v≠4:=λ dd e=>by have:=dd.k;rw[e,h.j.k4] at this;cases this
 cases h.j.rt with
 | a0 e h1 ha=>have:val=4:=hval.symm.trans e;subst this;exact plain h.j.sF h.j.k4 ⟨.inl ⟨rfl,by rw[h.j.new h1];exact hs⟩⟩ λ _=>hE s σ h h0 h1
 | a1 v' e dd z h1 uu ii aa=>have:val=v':=hval.symm.trans e;subst this;exact desc (n4 dd) ⟨⟨dd,.inl ⟨z,hval⟩⟩,.inl ⟨by rw[h.j.new h1];exact hs,hE s σ h h0 h1⟩⟩
 | a2 v' e dd z h1 ha=>have:val=v':=hval.symm.trans e;subst this;exact desc (n4 dd) ⟨⟨dd,.inr (.inl z)⟩,.inl ⟨by rw[h.j.new h1];exact hs,hE s σ h h0 h1⟩⟩
 | b1 v' e dd z h1 ha=>have:val=v':=hval.symm.trans e;subst this;exact desc (n4 dd) ⟨⟨dd,.inr (.inr ⟨z,h1⟩)⟩,.inr z⟩
 | b2 e h1 ha=>have:val=σ.R:=hval.symm.trans e;obtain⟨q1,q2,_⟩:=h.j.mR h1;exact plain (by rw[this];exact q1) (by rw[this];exact q2) ⟨.inr ⟨⟨this,h1⟩,hs⟩⟩ λ e4=>absurd (this.symm.trans e4) (h.j.R4 h1)
def lkR(o:Option Int):Rs:=dW o.isSome (o.getD 0)
abbrev Yf(C:KP)(u n:Nat)(lv m:Int):Tr:=.node m λ nm =>
  if nm.kind=5 then(if nm.key=C.ky u then .done (dW true nm.val) else .done (dW false 0))
  else if nm.kind=6 then .done (dW (cU nm.ys (C.ky u)).isSome ((cU nm.ys (C.ky u)).getD 0))
  else match lY nm (En (C.hs u) lv) with
   | none=>.done (dW false 0)
   | some b=>.node b λ s=>if s.kind=4 then(if s.key=C.ky u then .done (dW true s.val) else .done (dW false 0)) else uW t3 (C.hs u) (C.ky u) .done n b (lv+1)
theorem Y3{o:Option Int}(hP:nQ C k P)(hQ:∀s σ,At C B k s σ->P s σ->Q (lkR o) s σ):∀(f l n:Nat) (m:Int) (s:Mm) (σ:Gs) (a0:Nat),f<=n->At C B k s σ->P s σ->xN C s u f l m o->fY C B k Q a0 (2*f) (Yf C u n ((l:Nat):Int) m) s σ
 | 0,_,_,_,_,_,_,_,_,_,hp=>hp.elim
 | f+1,l,n,m,s,σ,a0,hn,h,h0,hp=>by
  have done:∀{r:Rs} {a0:Nat} {d:Nat} {s:Mm} {σ:Gs},At C B k s σ->P s σ->r=lkR o->fY C B k Q a0 d (.done r) s σ:=λ h h0 e=>by subst e;exact M7 λ s' σ' f=>hQ s' σ' (.fm f) (f.eH h hP h0)
  obtain⟨hr,hl,hc⟩:=hp;refine fP h hr ?_;rcases hc with⟨k3,h10,hc⟩|⟨k6,_,ho⟩
  ·rw[if_neg (by rw[k3];decide),if_neg (by rw[k3];decide)];rcases hc with⟨e1,e2⟩|⟨b,e1,hb,hc⟩;·rw[show En (C.hs u) ((l:Nat):Int)=gO (C.hs u) l from rfl,e1];exact done h h0 (by rw[e2];rfl)
   ·rw[show En (C.hs u) ((l:Nat):Int)=gO (C.hs u) l from rfl,e1];refine fP h hb ?_;rcases hc with⟨k4,e2⟩|⟨k2,g1,b4,z,hp⟩
    ·rw[if_pos k4];by_cases ek:(aB s.nodes b).key=C.ky u;·rw[if_pos ek] at e2 ⊢;exact done h h0 (by rw[e2];rfl)
     ·rw[if_neg ek] at e2 ⊢;exact done h h0 (by rw[e2];rfl)
    ·rw[if_neg (by rw[k2];decide)];obtain⟨n,rfl⟩:∃n',n=n'+1:=⟨n-1,by omega⟩;cases f with
     | zero=>exact hp.elim
     | succ f=>
      show fY C B k Q a0 (2*(f+1)+1+1) (xV t3 b λ mr=>Yf C u n (((l:Nat):Int)+1) mr) s σ
      refine fP h hb ?_;obtain⟨c,hc⟩:∃c,c=(aB s.nodes b).main:=⟨_,rfl⟩;obtain⟨m2,hm2⟩:∃m2,m2=cN s b:=⟨_,rfl⟩;rw[<- hm2] at z hp;rw[<- hc];have hE:Ev C λ s (_:Gs)=>((Rg s b/\(aB s.nodes b).main=c)/\((aB s.nodes b).kind=2/\(aB s.nodes b).gen=1/\cN s b=m2))/\(eT s m2=0/\xN C s u (f+1) (l+1) m2 o):=λ j s σ s1 τ j1 q g ⟨⟨⟨h1,h2⟩,h3,h4,h5⟩,h6,h7⟩=>⟨⟨⟨h1.le q.k.le,by rw[q.k.nd b h1.b];exact h2⟩,by rw[q.k.nd b h1.b];exact⟨h3,h4,(q.k.fx b h1 h3 h4 b4).trans h5⟩⟩,q.k.z m2 h7.1 h6,h7.kx q.k⟩;refine Hp (hP.ev hE) (λ s σ h ⟨h0,hh⟩=>?_) h ⟨h0,⟨⟨hb,hc.symm⟩,k2,g1,hm2.symm⟩,z,hp⟩;obtain⟨⟨⟨_,h2⟩,_,_,h5⟩,h6,h7⟩:=hh
      rw[<- h2,show aL s.cs (aB s.nodes b).main=m2 from h5];refine Rp (P:=λ s σ=>P s σ/\(eT s m2=0/\xN C s u (f+1) (l+1) m2 o)) (hP.ev λ j s σ s1 τ j1 q g ⟨h6,h7⟩=>⟨q.k.z m2 h7.1 h6,h7.kx q.k⟩) h7.1 (λ s σ h ⟨h0,h6,h7⟩=>?_) h ⟨h0,h6,h7⟩;rw[if_pos h6];exact Y3 hP hQ (f+1) (l+1) n m2 s σ 64 (by omega) h h0 h7
  ·rw[if_neg (by rw[k6];decide),if_pos k6];exact done h h0 (by rw[ho];rfl)
def QL(C:KP)(u:Nat)(a:List Nat)(r:Rs)(_:Mm)(σ:Gs):Prop:=∃ws,a <:+ ws/\ws <:+ σ.us/\r=lkR (if cont ws u=true then some (C.vl u) else none)
theorem QL.ev(C:KP)(u:Nat)(a:List Nat)(r:Rs):Ev C (QL C u a r):=λ j s σ s1 τ j1 q g ⟨ws,h1,h2,h3⟩=>⟨ws,h1,h2.trans q.u,h3⟩
theorem jm(C:KP)(a:List Nat):Ev C λ _ σ=>a <:+ σ.us:=λ j s σ s1 τ j1 q g h=>h.trans q.u
theorem Y5(C:KP):nQ C 0 λ s σ=>aL s.cs 3=4/\σ.R=0:=λ j s σ s1 τ hj j1 q g ⟨h1,h2⟩=>by
 have n4:∀{v:Int},tI s v->aL s.cs 3=v->False:=λ dd e=>by have:=dd.k;rw[<- e,h1,j1.k4] at this;cases this
 cases tC j1 g with
 | same e h hR ha hk=>exact⟨e.trans h1,hR.trans h2⟩
 | arm v' e d z m hs hR ha hk=>exact(n4 d e).elim
 | inst v' h0 e e1 d z h hR ha hk=>exact absurd h0 hj
 | kill v' hj' h3 e e1 d z z1 h hR ha hk=>exact(n4 d e).elim
 | yes v' e e1 d z z1 h h0 hR a0 ha hk=>exact(n4 d e).elim
 | comp v' e d z e1 h hR ha hk=>exact(n4 d e).elim
theorem yg{n:Nat}(hk:k<3)(h0k:k≠0)(hu:u<2)(hn:13<=n)(hP:nQ C k P)(h:At C B k s σ)(hs:a <:+ σ.us)(h0:P s σ):fY C B k (λ r s σ=>QL C u a r s σ/\P s σ) a0 52 (xO t3 λ i=>uW t3 (C.hs u) (C.ky u) .done (n+1) i 0) s σ:=by
 refine O6 (E:=True) (d:=37) (a:=a) (P:=λ s σ=>P s σ/\a <:+ σ.us) (λ _ _ _ _ _=>trivial) hk (hP.ev (jm C a)) (λ e=>absurd e h0k) (λ s σ _ h=>h.2) (λ r s σ h ⟨h0,hs⟩ hr _=>?_) h ⟨h0,hs⟩;have tail:∀m s σ,At C B k s σ->P s σ->Vm C a m s σ->fY C B k (λ r s σ=>QL C u a r s σ/\P s σ) 64 27 (Yf C u n ((0:Nat):Int) m) s σ:=λ m s σ h h0 hv=>by obtain⟨ws,h1,h2,c⟩:=hv.c;exact(Y3 (C:=C) (P:=λ s σ=>P s σ/\(a <:+ ws/\ws <:+ σ.us)) (hP.ev λ j s σ s1 τ j1 q g ⟨h1,h2⟩=>⟨h1,h2.trans q.u⟩) (λ s σ _ ⟨h0,h1,h2⟩=>⟨⟨ws,h1,h2,rfl⟩,h0⟩) 13 0 n m s σ 64 hn h ⟨h0,h1,h2⟩ (c.p u hu)).mono (by omega)
 show fY C B k _ 64 (27+10) (xV t3 r λ mr=>Yf C u n ((0:Nat):Int) mr) s σ
 exact E4 (a:=a) (P:=λ s σ=>P s σ/\RK r a s σ) (PX:=λ _ _ s σ=>P s σ) hk (hP.ev (RK.ev C r a)) (λ b x=>hP) (λ s σ _ h=>h.2) (λ s σ _ h=>⟨σ,.refl,λ _=>h.1,λ _=>h.1⟩) (λ e=>absurd e h0k) (λ b x s σ h h0 hv=>tail x s σ h h0 hv) (λ x y f s σ h h0 _ hx=>tail y s σ h h0 hx.yv) h ⟨h0,hr⟩
end
end
section
section
variable{C:KP}{B k d a0 j:Nat}{s s1 s2:Mm}{σ τ υ:Gs}{r x y v w f m q i e:Int}{a ws:List Nat}{p:Bool}
theorem l5(h:J C s σ)(g:sY C s j σ s1 τ):(τ.us=σ.us/\τ.R=σ.R)∨(τ.R=σ.R/\∃r y u,(r=4∨(r=σ.R/\σ.R≠0))/\u<2/\u∉σ.us/\τ.us=u::σ.us/\eT s (cN s r)=y/\y≠0/\Ct C s (cN s r) (cont (u::σ.us))/\eT s1 (cN s r)=0)∨(σ.R=0/\τ.us=2::σ.us/\∃v,tI s v/\Unt C s v/\τ.R=(aB s.nodes v).new/\cN s1 τ.R=cN s τ.R):=by
 cases g with
 | push w x=>exact .inl ⟨rfl,rfl⟩
 | gen g hg=>exact .inl ⟨rfl,rfl⟩
 | arm v e d z m=>exact .inl ⟨rfl,rfl⟩
 | inst v h0 hR e d z w i=>exact .inl ⟨rfl,rfl⟩
 | kill v hj h3 e d z=>exact .inl ⟨rfl,rfl⟩
 | yes v e d z a=>
  rcases h.W2 e d with⟨_,h1,h2,_⟩|⟨h1,_⟩|⟨h1,_⟩;·exact .inr (.inr ⟨h1,rfl,v,d,h2,rfl,((yE (n:=1) h.ly d z).2.2.2.2.2.1 _ d.n).1⟩)
  ·rw[z] at h1;cases h1
  ·rw[z] at h1;cases h1
 | comp v e d z=>exact .inl ⟨rfl,rfl⟩
 | put r q ws hr z hj hu c p=>exact .inl ⟨rfl,rfl⟩
 | mU r y u hr p y0 hu hn c=>exact .inr (.inl ⟨rfl,r,y,u,hr.imp_left λ h=>h.1,hu,hn,rfl,p,y0,c,(xZ (n:=0) h.ly c.r c.kd p).2.1⟩)
 | fail y f hR p hk w=>exact .inl ⟨rfl,rfl⟩
 | back y f hR p w=>exact .inl ⟨rfl,rfl⟩
theorem J.ct(h:J C s σ)(hr:r=4∨(r=σ.R/\σ.R≠0)):∃c,Ct C s (cN s r) c:=by
 rcases hr with e|⟨e,hR⟩<;>subst e
 ·obtain⟨y,h1,_,h3|⟨u,h3,h4,h5,h6⟩⟩:=h.m4;·rw[h3];exact⟨_,h1⟩
  ·exact⟨_,h5⟩
 ·obtain⟨_,_,_,y,h1,_,h3|⟨u,h3,h4,h5,h6⟩⟩:=h.mR hR;·rw[h3];exact⟨_,h1⟩
  ·exact⟨_,h5⟩
theorem Ez{u:Nat}(hu:u≠2)(ws:List Nat)(w:Nat):cont (u::ws) w=(u==w||cont ws w):=if_neg hu
theorem gQ{u:Nat}(hu:u≠2)(ws:List Nat):cont (u::ws) u=true:=by rw[Ez hu];simp
theorem Wc{u k:Nat}(hu:u≠2)(hk:k≠2)(h:k≠u)(hn:k∉ws):cont (u::ws) k=false:=oS hk (by simp only[List.mem_cons,not_or];exact⟨h,hn⟩)
theorem L4{us:List Nat}{u:Nat}(h2:u≠2)(h:cont us u=true):u∈us:=Classical.byContradiction λ hn=>by rw[oS h2 hn] at h;cases h
theorem Ct.cg{c c':Nat->Bool}(h:Ct C s m c)(e:∀w,w<2->c w=c' w):Ct C s m c':=⟨h.r,h.vc,λ u hu=>by rw[<- e u hu];exact h.p u hu,λ h1 k hk b hb=>by obtain⟨x,h2,h3,h4,h5⟩:=h.sg (by rw[e 0 (by decide),e 1 (by decide)];exact h1) k hk b hb;exact⟨x,h2,by rw[<- e x h2];exact h3,h4,h5⟩⟩
theorem mQ(h:J C s σ)(qq:AtQ C s σ s1 τ)(g:sY C s j σ s1 τ)(hr:r=4∨(r=σ.R/\σ.R≠0)):cN s1 r=cN s r∨(∃ws,(r=4/\ws=jJ σ.us∨r=σ.R/\σ.R≠0/\ws=σ.us)/\eT s (cN s r)=0/\j<2/\j∉σ.us/\Ct C s (cN s1 r) (cont (j::ws))/\eT s (cN s1 r)=cN s r)∨(r=4/\σ.R≠0/\∃f,eT s (cN s 4)=f/\Nz s f (cN s1 4)):=by
 have hrg:Rg s r:=by
  rcases hr with e|⟨e,hR⟩<;>subst e;·exact h.sF
  ·exact(h.mR hR).1
 cases yA h g with
 | same e _=>exact .inl (e r hrg).1
 | put r' q' ws hr' z hj hu c p e o e2 hs=>
  by_cases hrr:r=r';·subst hrr;rw[e];exact .inr (.inl ⟨ws,hr',z,hj,hu,c,p⟩)
  ·exact .inl (o r hrg hrr)
 | mU r' y u hr' p y0' hu hn c e o e2 hs=>exact .inl (e2 r hrg)
 | fail y' f' hR' p k w e o e2 hs=>exact .inl (e2 r hrg)
 | back y' f' hR' p w e o e2 hs=>
  by_cases hrr:r=4;·subst hrr;exact .inr (.inr ⟨rfl,hR',f',p,by rw[e];exact w⟩)
  ·exact .inl (o r hrg hrr)
theorem J.fld(h:J C s σ)(p:eT s (cN s 4)=f)(w:Nz s f y):∃u,u<2/\u∉jJ σ.us/\Ct C s (cN s 4) (cont (u::jJ σ.us))/\Ct C s y (cont (jJ σ.us))/\eT s y=0:=by
 obtain⟨y',h1,h2,h3|⟨u,h3,h4,h5,h6|⟨h7,f',h8,h9⟩⟩⟩:=h.m4;·rw[h3,h2] at p;exact absurd p.symm (eA w.r)
 ·have:=w.k;rw[<- p,h6,h1.kd] at this;cases this
 ·have ef:f=f':=p.symm.trans h8;subst ef;have ey:y=y':=w.o.symm.trans h9.o;subst ey;exact⟨u,h3,h4,h5,h1,h2⟩
structure Nu(C:KP)(k:Nat)(s:Mm)(σ:Gs):Prop where
 n:k∉σ.us
 m:∀r,(r=4∨(r=σ.R/\σ.R≠0))->∀c,Ct C s (cN s r) c->c k=false
theorem Nu.kp(hk:k<2):nQ C k (Nu C k):=λ j s σ s1 τ hj j1 qq g h=>by
 have step:∀r,(r=4∨(r=σ.R/\σ.R≠0))->∀c,Ct C s1 (cN s1 r) c->c k=false:=λ r hr c hc=>by
  rcases mQ j1 qq g hr with e|⟨ws,hw,z,hj2,hu,c2,p⟩|⟨e,hR,f,p,w⟩;·obtain⟨c0,h0⟩:=j1.ct hr;rw[e] at hc;rw[hc.eq (h0.kx qq.k) (by omega),h.m r hr c0 h0]
  ·rw[hc.eq (c2.kx qq.k) (by omega)];refine Wc (by omega) (by omega) (λ e=>hj e.symm) ?_;rcases hw with⟨_,e2⟩|⟨_,_,e2⟩<;>subst e2
   ·exact λ h1=>h.n ((gI _).subset h1)
   ·exact h.n
  ·subst e;obtain⟨u,_,_,_,c5,_⟩:=j1.fld p w;rw[hc.eq (c5.kx qq.k) (by omega)];exact oS (by omega) λ h1=>h.n ((gI _).subset h1)
 rcases l5 j1 g with⟨e1,e2⟩|⟨e2,r,y,u,hr,hu,hn,e1,p,y0,c,_⟩|⟨h0,e1,v,dd,w,e2,e3⟩;·exact⟨by rw[e1];exact h.n,λ r hr=>step r (by rw[e2] at hr;exact hr)⟩
 ·refine⟨?_,λ r hr=>step r (by rw[e2] at hr;exact hr)⟩;rw[e1];simp only[List.mem_cons,not_or];refine⟨λ e=>?_,h.n⟩;have:=h.m r hr _ c;rw[e,gQ (by omega)] at this;cases this
 ·refine⟨by rw[e1];simp only[List.mem_cons,not_or];exact⟨by omega,h.n⟩,λ r hr c hc=>?_⟩;rcases hr with hr|⟨hr,hR⟩;·exact step r (.inl hr) c hc
  ·subst hr;rw[e3,e2] at hc;rw[hc.eq (w.c.kx qq.k) (by omega)];rfl
structure St(C:KP)(k:Nat)(x:Int)(s:Mm)(σ:Gs):Prop where
 h:(k=0/\σ.R≠0)∨(cN s 4=x/\(∃c,Ct C s x c/\c (1-k)=true)/\(k=1->Nu C 1 s σ))
theorem St.kp(hk:k<2)(x:Int):nQ C k (St C k x):=λ j s σ s1 τ hj j1 qq g h=>by
 rcases h.h with⟨h1,hR⟩|⟨h1,⟨c,h2,h3⟩,h4⟩;·exact⟨.inl ⟨h1,by rw[yU j1 g hR];exact hR⟩⟩
 ·rcases mQ (r:=4) j1 qq g (.inl rfl) with e|⟨ws,hw,z,hj2,hu,c2,p⟩|⟨e,hR,f,p,w⟩;·refine⟨.inr ⟨e.trans h1,⟨c,h2.kx qq.k,h3⟩,λ e1=>?_⟩⟩;subst e1;exact Nu.kp (by decide) j s σ s1 τ hj j1 qq g (h4 rfl)
  ·have hws:ws=jJ σ.us:=by
    rcases hw with⟨_,e2⟩|⟨e1,hR,_⟩;·exact e2
    ·exact absurd e1.symm (j1.R4 hR)
   subst hws;have c3:=j1.m4.set z;rw[h1] at c3;have:1-k∈jJ σ.us:=L4 (by omega) (by rw[<- h2.eq c3 (u:=1-k) (by omega)];exact h3);have hjk:j=1-k:=by omega
   rw[hjk] at hu;exact absurd ((gI _).subset this) hu
  ·by_cases k0:k=0;·exact⟨.inl ⟨k0,by rw[yU j1 g hR];exact hR⟩⟩
   ·have k1:k=1:=by omega
    obtain⟨u,q1,q2,q3,_⟩:=j1.fld p w;have u1:u=1:=by have:=j1.u0 (j1.vi hR);have:u≠0:=λ e=>q2 (by rw[e];exact this);omega
    have:=(h4 k1).m 4 (.inl rfl) _ q3;rw[u1,gQ (by decide)] at this;cases this
structure Gr(C:KP)(k:Nat)(p:Bool)(r x:Int)(s:Mm)(σ:Gs):Prop where
 h:(r=4/\(St C k x s σ∨(p=false/\((cN s 4=x/\eT s x=0/\Rg s x)∨∃y,St C k y s σ))))∨((r=σ.R/\σ.R≠0)/\k=1/\cN s r=x/\eT s x=0/\Rg s x)
theorem Gr.kp(hk:k<2)(p:Bool)(r x:Int):nQ C k λ s σ=>Gr C k p r x s σ/\Nu C k s σ/\(k=0->σ.R=0):=λ j s σ s1 τ hj j1 qq g ⟨h,hn,hz⟩=>by
 have hn1:=Nu.kp hk j s σ s1 τ hj j1 qq g hn;have ev:∀y,St C k y s σ->St C k y s1 τ:=λ y hy=>St.kp hk y j s σ s1 τ hj j1 qq g hy;refine⟨⟨?_⟩,hn1,λ k0=>?_⟩
 ·rcases h.h with⟨h1,h2|⟨h2,⟨h3,h4,h5⟩|⟨y,h3⟩⟩⟩|⟨h1,h2,h3,h4,h5⟩;·exact .inl ⟨h1,.inl (ev _ h2)⟩
  ·refine .inl ⟨h1,.inr ⟨h2,?_⟩⟩;rcases mQ (r:=4) j1 qq g (.inl rfl) with e|⟨ws,hw,z,hj2,hu,c2,p2⟩|⟨e,hR,f,p2,w⟩
   ·exact .inl ⟨e.trans h3,qq.k.z x h5 h4,h5.le qq.k.le⟩
   ·refine .inr ⟨cN s1 4,⟨.inr ⟨rfl,⟨_,c2.kx qq.k,?_⟩,λ e1=>?_⟩⟩⟩;·rw[show 1-k=j by omega];exact gQ (by omega) _
    ·subst e1;exact hn1
   ·rw[h3,h4] at p2;exact absurd p2.symm (eA w.r)
  ·exact .inl ⟨h1,.inr ⟨h2,.inr ⟨y,ev _ h3⟩⟩⟩
  ·refine .inr ⟨de C r j s σ s1 τ j1 qq g h1,h2,?_,qq.k.z x h5 h4,h5.le qq.k.le⟩;rcases mQ (r:=r) j1 qq g (.inr h1) with e|⟨ws,hw,z,hj2,hu,c2,p2⟩|⟨e,hR,f,p2,w⟩
   ·exact e.trans h3
   ·have j0:j=0:=by omega
    have:=(gI _).subset (j1.u0 (j1.vi h1.2));rw[j0] at hu;exact absurd this hu
   ·exact absurd (h1.1.symm.trans e) (j1.R4 h1.2)
 ·rcases l5 j1 g with⟨_,e2⟩|⟨e2,_⟩|⟨h0,e1,v,dd,w,e2,e3⟩;·rw[e2];exact hz k0
  ·rw[e2];exact hz k0
  ·exfalso;subst k0;have h2:2∈τ.us:=by rw[e1];exact List.mem_cons_self ..
   have:=(gI _).subset (qq.j.u0 h2);exact hn1.n this
structure Own(C:KP)(k:Nat)(q m:Int)(ws:List Nat)(s:Mm)(σ:Gs):Prop where
 ct:Ct C s q (cont (k::ws))
 pv:eT s q=m
theorem Own.kp(hk:k<2)(q m:Int)(ws:List Nat):nQ C k λ s σ=>Own C k q m ws s σ/\Nu C k s σ:=λ j s σ s1 τ hj j1 qq g ⟨h,hn⟩=>by
 refine⟨⟨h.ct.kx qq.k,?_⟩,Nu.kp hk j s σ s1 τ hj j1 qq g hn⟩;have ne:∀r,(r=4∨(r=σ.R/\σ.R≠0))->q≠cN s r:=λ r hr e=>by have c:=h.ct;rw[e] at c;have:=hn.m r hr _ c;rw[gQ (by omega)] at this;cases this
 cases yA j1 g with
 | same e _=>exact(e q h.ct.r).2.trans h.pv
 | put r' q' ws hr' z hj hu c p e o e2 hs=>exact(e2 q h.ct.r).trans h.pv
 | mU r' y u hr' p y0' hu hn c e o e2 hs=>exact(o q h.ct.r (ne r' (hr'.imp_left λ h=>h.1))).trans h.pv
 | fail y' f' hR' p k w e o e2 hs=>exact(o q h.ct.r (ne 4 (.inl rfl))).trans h.pv
 | back y' f' hR' p w e o e2 hs=>exact(e2 q h.ct.r).trans h.pv
structure Ins(C:KP)(k:Nat)(q:Int)(ws:List Nat)(s:Mm)(σ:Gs):Prop where
 ct:Ct C s q (cont (k::ws))
 h:(k∈σ.us/\eT s q=0)∨(k∉σ.us/\∀r,(r=4∨(r=σ.R/\σ.R≠0))->∀c,Ct C s (cN s r) c->c k=true->cN s r=q)
theorem Ins.kp(hk:k<2)(q:Int)(ws:List Nat):nQ C k (Ins C k q ws):=λ j s σ s1 τ hj j1 qq g h=>by
 refine⟨h.ct.kx qq.k,?_⟩;rcases h.h with⟨h1,h2⟩|⟨h1,h2⟩;·exact .inl ⟨qq.u.subset h1,qq.k.z q h.ct.r h2⟩
 ·have step:∀r,(r=4∨(r=σ.R/\σ.R≠0))->∀c,Ct C s1 (cN s1 r) c->c k=true->cN s1 r=q:=λ r hr c hc ht=>by
   rcases mQ j1 qq g hr with e|⟨ws,hw,z,hj2,hu,c2,p⟩|⟨e,hR,f,p,w⟩;·obtain⟨c0,h0⟩:=j1.ct hr;rw[e] at hc ⊢;exact h2 r hr c0 h0 (by rw[<- hc.eq (h0.kx qq.k) (by omega)];exact ht)
   ·exfalso;rw[hc.eq (c2.kx qq.k) (by omega),Wc (by omega) (by omega) (λ e=>hj e.symm)] at ht;·cases ht
    ·rcases hw with⟨_,e2⟩|⟨_,_,e2⟩<;>subst e2;·exact λ h3=>h1 ((gI _).subset h3)
     ·exact h1
   ·exfalso;subst e;obtain⟨u,_,_,_,c5,_⟩:=j1.fld p w;rw[hc.eq (c5.kx qq.k) (by omega),oS (by omega) λ h3=>h1 ((gI _).subset h3)] at ht;cases ht
  rcases l5 j1 g with⟨e1,e2⟩|⟨e2,r,y,u,hr,hu,hn,e1,p,y0,c,p0⟩|⟨h0,e1,v,dd,w,e2,e3⟩;·exact .inr ⟨by rw[e1];exact h1,λ r hr=>step r (by rw[e2] at hr;exact hr)⟩
  ·by_cases uk:u=k;·subst uk;have:=h2 r hr _ c (gQ (by omega) _);rw[this] at p0;exact .inl ⟨by rw[e1];exact List.mem_cons_self ..,p0⟩
   ·exact .inr ⟨by rw[e1];simp only[List.mem_cons,not_or];exact⟨λ e=>uk e.symm,h1⟩,λ r hr=>step r (by rw[e2] at hr;exact hr)⟩
  ·refine .inr ⟨by rw[e1];simp only[List.mem_cons,not_or];exact⟨by omega,h1⟩,λ r hr c hc ht=>?_⟩;rcases hr with hr|⟨hr,hR⟩
   ·exact step r (.inl hr) c hc ht
   ·subst hr;rw[e3,e2] at hc;rw[hc.eq (w.c.kx qq.k) (by omega)] at ht;cases ht
end
end
end Go.Proofs.YthblobahelfefaaGreatDoor
