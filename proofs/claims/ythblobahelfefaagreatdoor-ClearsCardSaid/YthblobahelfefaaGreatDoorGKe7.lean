/- Merged. -/
import Derived.Test.YthblobahelfefaaGreatDoorGKe4
set_option linter.unusedSimpArgs false
set_option linter.unusedVariables false
namespace Go.Proofs.YthblobahelfefaaGreatDoor
open Go Go.RowKit Go.Ct
section
structure At(C:KP)(B k:Nat)(s:Mm)(σ:Gs):Prop where
 j:J C s σ
 b:k=0->σ.kl<=B
section
variable{C:KP}{B k d a0:Nat}{s s1 s2:Mm}{σ τ υ:Gs}{r x y v w f m i:Int}{a:List Nat}{Q:Rs->Mm->Gs->Prop}{P P':Mm->Gs->Prop}{K:Int->Tr}
theorem Oz(hk:k<3):Ka k≠k:=by unfold Ka;split<;>omega
theorem Ev.and(h:Ev C P)(g:Ev C P'):Ev C λ s σ=>P s σ/\P' s σ:=λ j s σ s1 τ j1 q st ⟨h1,h2⟩=>⟨h j s σ s1 τ j1 q st h1,g j s σ s1 τ j1 q st h2⟩
theorem nQ.and(h:nQ C k P)(g:nQ C k P'):nQ C k λ s σ=>P s σ/\P' s σ:=λ j s σ s1 τ hj j1 q st ⟨h1,h2⟩=>⟨h j s σ s1 τ hj j1 q st h1,g j s σ s1 τ hj j1 q st h2⟩
theorem nQ.ev(h:nQ C k P)(g:Ev C P'):nQ C k λ s σ=>P s σ/\P' s σ:=h.and (g.kpt k)
theorem At.refl(h:At C B k s σ):Is C B k s σ s σ:=.refl h.j h.b
theorem At.fm(f:Is C B k s σ s1 τ):At C B k s1 τ:=⟨f.j,f.b⟩
theorem Is.eH(f:Is C B k s σ s1 τ)(h:At C B k s σ)(hP:nQ C k P)(h0:P s σ):P s1 τ:=hP.run (λ j h=>h.1) f.r h.j h0
theorem zI.at_{c:Nat}{b:Nat}(st:zI C k b c s σ s1 τ)(h:At C B k s σ):At C B k s1 τ:=⟨(st.to h.j).j,st.fb h.b⟩
theorem Hp{c:Int}{kk:Int->Tr}(hP:nQ C k P)(g:∀s σ,At C B k s σ->P s σ->fY C B k Q 64 d (kk (aL s.cs c)) s σ)(h:At C B k s σ)(h0:P s σ):fY C B k Q a0 (d+1) (.load c kk) s σ:=aEm λ s' σ' f=>g s' σ' (.fm f) (f.eH h hP h0)
theorem fP{kk:Nv->Tr}(h:At C B k s σ)(hr:Rg s r)(g:fY C B k Q a0 d (kk (aB s.nodes r)) s σ):fY C B k Q a0 d (.node r kk) s σ:=aAt h.j hr.b g
theorem yM{c o n:Int}{kk:Bool->Tr}(hk:k<3)(hP:nQ C k P)(hc:∀s σ,At C B k s σ->P s σ->1<=c/\c<=s.cs.length/\(aL s.cs c=o->∃τ,sY C s (Ka k) σ (iB s c o n) τ/\τ.kl<=σ.kl+1/\P' (iB s c o n) τ)/\(aL s.cs c≠o->P' s σ))(g:∀s σ b,At C B k s σ->P s σ->P' s σ->fY C B k Q 64 d (kk b) s σ)(h:At C B k s σ)(h0:P s σ):fY C B k Q a0 (d+1) (.qG c o n kk) s σ:=Vj λ s' σ' f=>by
 have hA:At C B k s' σ':=.fm f;have hp:=f.eH h hP h0;obtain⟨h1,h2,h3,h4⟩:=hc s' σ' hA hp
 by_cases e:aL s'.cs c=o;·obtain⟨τ,g1,g2,g3⟩:=h3 e;have st:zI C k 0 1 s' σ' (iB s' c o n) τ:=.iB (.inr rfl) g1 g2;have hA2:=st.at_ hA;exact⟨τ,st,g _ _ _ hA2 (hP _ _ _ _ _ (Oz hk) hA.j (Aa hA.j g1) g1 hp) g3⟩
 ·obtain⟨e1,e2⟩:=ul (n:=n) e h1 h2;rw[e1];exact⟨σ',.refl,g _ _ _ hA hp (h4 e)⟩
structure Dw(v x w:Int)(s:Mm)(σ:Gs):Prop where
 d:tI s v
 e:fH s v=x
 h:(x=1/\w=(aB s.nodes v).new/\σ.R=w)∨(x=2/\w=4)
theorem yU{j:Nat}(j1:J C s σ)(g:sY C s j σ s1 τ)(h:σ.R≠0):τ.R=σ.R:=by
 cases tC j1 g with
 | same e h1 hR ha hk=>exact hR
 | arm v' e d z m hs hR ha hk=>exact hR
 | inst v' h0 e e1 d z h1 hR ha hk=>exact hR
 | kill v' hj h3 e e1 d z z1 h1 hR ha hk=>exact hR
 | yes v' e e1 d z z1 h1 h0 hR a0 ha hk=>exact absurd h0 h
 | comp v' e d z e1 h1 hR ha hk=>exact hR
theorem de(C:KP)(r:Int):Ev C λ _ σ=>r=σ.R/\σ.R≠0:=λ j s σ s1 τ j1 q g ⟨h1,h2⟩=>by have:=yU j1 g h2;exact⟨by rw[this];exact h1,by rw[this];exact h2⟩
theorem Aq{j:Nat}(j1:J C s σ)(g:sY C s j σ s1 τ)(d:tI s v)(h:fH s v≠0):fH s1 v=fH s v:=by
 cases tC j1 g with
 | same e h1 hR ha hk=>exact h1 v d.r
 | arm v' e d' z m hs hR ha hk=>rw[hs]
 | inst v' h0 e e1 d' z h1 hR ha hk=>exact h1 v d.r
 | kill v' hj h3 e e1 d' z z1 h1 hR ha hk=>exact h1 v d.r λ e2=>by rw[e2] at h;exact h z
 | yes v' e e1 d' z z1 h1 h0 hR a0 ha hk=>exact h1 v d.r λ e2=>by rw[e2] at h;exact h z
 | comp v' e d' z e1 h1 hR ha hk=>exact h1 v d.r
theorem Dw.ev(C:KP)(v x w:Int):Ev C (Dw v x w):=λ j s σ s1 τ j1 q g h=>by
 have hx:x≠0:=by rcases h.h with⟨h1,_⟩|⟨h1,_⟩<;>rw[h1]<;>decide
 refine⟨h.d.kx q.k,(Aq j1 g h.d (by rw[h.e];exact hx)).trans h.e,?_⟩;rw[q.k.nd v h.d.r.b];refine h.h.imp_left λ⟨h1,h2,h3⟩=>⟨h1,h2,?_⟩;exact(yU j1 g (by rw[h3,h2];exact eA h.d.n)).trans h3
theorem Hv.dw(h:Hv v s σ)(h0:fH s v≠0):Dw v (fH s v) (if fH s v=1 then(aB s.nodes v).new else 4) s σ:=⟨h.d,rfl,by
 rcases h.h with⟨h1,_⟩|h1|⟨h1,h2⟩;·exact absurd h1 h0
 ·rw[h1];exact .inr ⟨rfl,if_neg (by decide)⟩
 ·rw[h1];exact .inl ⟨rfl,if_pos rfl,by rw[if_pos rfl];exact h2⟩⟩
theorem Mt(hk:k<3)(hP:nQ C k P)(g:∀s σ,At C B k s σ->P s σ->Dw v x w s σ->aL s.cs 3≠v->fY C B k Q 64 d (K w) s σ)(h:At C B k s σ)(h0:P s σ)(hd:Dw v x w s σ):fY C B k Q a0 (d+1) (lM t3 v x K) s σ:=by
 refine fP h hd.d.r ?_;have ew:(if x=1 then(aB s.nodes v).new else(aB s.nodes v).old)=w:=by
  rcases hd.h with⟨h1,h2,_⟩|⟨h1,h2⟩;·rw[if_pos h1,h2]
  ·rw[if_neg (by omega),h2];exact hd.d.o
 rw[ew];refine yM (P:=λ s σ=>P s σ/\Dw v x w s σ) (P':=λ s _=>aL s.cs 3≠v) hk (hP.ev (Dw.ev C v x w)) (λ s σ hA ⟨h1,h2⟩=>⟨by decide,by have:=hA.j.ly.c;show(3:Int)<=_;omega,λ e=>⟨σ,?_,by omega,?_⟩,λ e=>e⟩) (λ s σ b hA ⟨h1,h2⟩ h3=>g s σ hA h1 h2 h3) h ⟨h0,hd⟩
 ·have e0:fH s v≠0:=by rw[h2.e];rcases h2.h with⟨h1,_⟩|⟨h1,_⟩<;>rw[h1]<;>decide
  have:=sY.comp (C:=C) (j:=Ka k) (σ:=σ) v e h2.d e0;have ew2:(if fH s v=1 then(aB s.nodes v).new else 4)=w:=by
   rw[h2.e];rcases h2.h with⟨h1,h3,_⟩|⟨h1,h3⟩;·rw[if_pos h1,h3]
   ·rw[if_neg (by omega),h3]
  rw[ew2] at this;exact this
 ·rw[show aL (iB s t3.root v w).cs 3=w from yH hA.j.ly e];intro e2;have k8:=h2.d.k;rw[<- e2] at k8;rcases h2.h with⟨_,h3,_⟩|⟨_,h3⟩
  ·rw[h3,h2.d.nk] at k8;cases k8
  ·rw[h3,hA.j.k4] at k8;cases k8
structure Hn(v:Int)(s:Mm)(σ:Gs):Prop where
 hv:Hv v s σ
 n:fH s v≠0
theorem Hn.ev(C:KP)(v:Int):Ev C (Hn v):=λ j s σ s1 τ j1 q g h=>⟨Hv.ev C v j s σ s1 τ j1 q g h.hv,by rw[Aq j1 g h.hv.d h.n];exact h.n⟩
theorem Yg{T:Tr}(hk:k<3)(hP:nQ C k P)(hN:k=0->∀s σ,At C B k s σ->P s σ->∀v,aL s.cs 3=v->tI s v->fH s v=0->cN s 4≠(aB s.nodes v).exp)(g:∀s σ,At C B k s σ->P s σ->Hn v s σ->fY C B k Q 64 d T s σ)(h:At C B k s σ)(h0:P s σ)(hv:Hv v s σ):fY C B k Q a0 (d+1) (.qG (aB s.nodes v).status 0 2 λ _=>T) s σ:=by
 have hst:=(h.j.ly.stat hv.d.r hv.d.k);obtain⟨c,hc⟩:∃c,c=(aB s.nodes v).status:=⟨_,rfl⟩;rw[<- hc];have hE:Ev C λ s (_:Gs)=>Rg s v/\(aB s.nodes v).status=c:=λ j s σ s1 τ j1 q g ⟨h1,h2⟩=>⟨h1.le q.k.le,by rw[q.k.nd v h1.b];exact h2⟩;refine yM (P:=λ s σ=>P s σ/\(Hv v s σ/\Rg s v/\(aB s.nodes v).status=c)) (P':=Hn v) hk (hP.ev ((Hv.ev C v).and hE)) (λ s σ hA ⟨h1,h2,h3,h4⟩=>?_) (λ s σ b hA ⟨h1,h2,_⟩ h3=>g s σ hA h1 h3) h ⟨h0,hv,hv.d.r,hc.symm⟩;obtain⟨a1,a2,a3,-,-⟩:=hA.j.ly.stat h2.d.r h2.d.k
 rw[h4] at a1 a2 a3;refine⟨a1,a2,λ e=>?_,λ e=>⟨h2,λ e2=>e (by rw[<- h4];exact e2)⟩⟩;have z:fH s v=0:=by unfold fH;rw[h4];exact e
 have c3:aL s.cs 3=v:=by
  rcases h2.h with⟨_,h5⟩|h5|⟨h5,_⟩;·exact h5
  ·rw[z] at h5;cases h5
  ·rw[z] at h5;cases h5
 have g1:=sY.kill (C:=C) (j:=Ka k) (σ:=σ) v (by unfold Ka;split<;>omega) (λ e=>hN (by unfold Ka at e;split at e;assumption;omega) s σ hA h1 v c3 h2.d z) c3 h2.d z;rw[h4] at g1;refine⟨_,g1,by show(if Ka k=3 then σ.kl else σ.kl+1)<=σ.kl+1;split<;>omega,Hv.ev C v _ _ _ _ _ hA.j (Aa hA.j g1) g1 h2,?_⟩;rw[<- h4,(yE (n:=2) hA.j.ly h2.d z).2.2.2.2.1];decide
structure Wr(r x y v:Int)(s:Mm)(σ:Gs):Prop where
 h:(r=4/\Wt x y v s σ)∨((r=σ.R/\σ.R≠0)/\Hv v s σ/\fH s v=1)
theorem Wr.hv(h:Wr r x y v s σ):Hv v s σ:=h.h.elim (λ h=>h.2.hv) λ h=>h.2.1
theorem Wr.ev(C:KP)(r x y v:Int):Ev C (Wr r x y v):=λ j s σ s1 τ j1 q g h=>⟨h.h.imp (λ⟨h1,h2⟩=>⟨h1,Wt.ev C x y v j s σ s1 τ j1 q g h2⟩) λ⟨h1,h2,h3⟩=>⟨de C r j s σ s1 τ j1 q g h1,Hv.ev C v j s σ s1 τ j1 q g h2,(Aq j1 g h2.d (by rw[h3];decide)).trans h3⟩⟩
structure Cm(r x y w:Int)(s:Mm)(σ:Gs):Prop where
 h:(w=4/\r=4/\CK x y s σ)∨(w=σ.R/\σ.R≠0)
theorem Wr.cm(h:Wr r x y v s σ)(hd:Dw v m w s σ):Cm r x y w s σ:=by
 rcases hd.h with⟨h1,h2,h3⟩|⟨h1,h2⟩;·exact⟨.inr ⟨h3.symm,by rw[h3,h2];exact eA hd.d.n⟩⟩
 ·rcases h.h with⟨h3,h4⟩|⟨_,_,h5⟩;·exact⟨.inl ⟨h2,h3,h4.c (hd.e.trans h1)⟩⟩
  ·rw[hd.e,h1] at h5;cases h5
theorem XK.y0(h:XK C r x y a s σ):y≠0:=eA h.yv.rg
abbrev mz(K:Int->Tr)(v:Int):Tr:=.node v λ n=>if n.kind=2 then K v else .node v λ n=>.load n.status λ s=>if s=0 then .node v λ n=>.qG n.status 0 2 λ _=>.node v λ n=>.load n.status λ s=>lM t3 v s K else lM t3 v s K
theorem we(hk:k<3)(hP:nQ C k P)(hN:k=0->∀s σ,At C B k s σ->P s σ->∀v,aL s.cs 3=v->tI s v->fH s v=0->cN s 4≠(aB s.nodes v).exp)(hr:∀s σ,At C B k s σ->P s σ->XK C r x y a s σ/\(r=4∨(r=σ.R/\σ.R≠0)))(g:∀w s σ,At C B k s σ->P s σ->Cm r x y w s σ->fY C B k Q 64 d (K w) s σ)(h:At C B k s σ)(h0:P s σ):fY C B k Q a0 (d+5) (V6 t3 K) s σ:=by
 refine Hp hP (λ s σ h h0=>?_) h h0;obtain⟨hx,hr4⟩:=hr s σ h h0;obtain⟨val,hval⟩:∃val,aL s.cs 3=val:=⟨_,rfl⟩;show fY C B k Q 64 (d+4) (mz K (aL s.cs 3)) s σ;rw[hval];have desc:Hv val s σ->Wr r x y val s σ->fY C B k Q 64 (d+4) (mz K val) s σ:=λ hv hw=>by
  refine fP h hv.d.r ?_;rw[if_neg (by rw[hv.d.k];decide)];refine fP h hv.d.r ?_;obtain⟨c,hc⟩:∃c,c=(aB s.nodes val).status:=⟨_,rfl⟩;rw[<- hc];have hE:Ev C λ s (_:Gs)=>Rg s val/\(aB s.nodes val).status=c:=λ j s σ s1 τ j1 q g ⟨h1,h2⟩=>⟨h1.le q.k.le,by rw[q.k.nd val h1.b];exact h2⟩;refine Hp (P:=λ s σ=>P s σ/\(Wr r x y val s σ/\Rg s val/\(aB s.nodes val).status=c)) (hP.ev ((Wr.ev C r x y val).and hE)) (λ s σ h ⟨h0,hw,hrg,h4⟩=>?_) h ⟨h0,hw,hv.d.r,hc.symm⟩;rw[<- h4];by_cases e0:fH s val=0
  ·rw[if_pos e0];refine fP h hrg ?_;refine Yg (P:=λ s σ=>P s σ/\Wr r x y val s σ) hk (hP.ev (Wr.ev C r x y val)) (λ k0 s σ hA ⟨h1,_⟩=>hN k0 s σ hA h1) (λ s σ h ⟨h0,hw⟩ hn=>?_) h ⟨h0,hw⟩ hw.hv;refine fP h hn.hv.d.r ?_;obtain⟨c2,hc2⟩:∃c,c=(aB s.nodes val).status:=⟨_,rfl⟩;rw[<- hc2];have hE2:Ev C λ s (_:Gs)=>(aB s.nodes val).status=c2/\Rg s val:=λ j s σ s1 τ j1 q g ⟨h2,h1⟩=>⟨by rw[q.k.nd val h1.b];exact h2,h1.le q.k.le⟩;refine Hp (P:=λ s σ=>P s σ/\(Wr r x y val s σ/\(Hn val s σ/\((aB s.nodes val).status=c2/\Rg s val)))) (hP.ev ((Wr.ev C r x y val).and ((Hn.ev C val).and hE2))) (λ s σ h ⟨h0,hw,hn,h4,_⟩=>?_) h ⟨h0,hw,hn,hc2.symm,hn.hv.d.r⟩;rw[<- h4];exact Mt (P:=λ s σ=>P s σ/\Wr r x y val s σ) hk (hP.ev (Wr.ev C r x y val)) (λ s σ h ⟨h0,hw⟩ hd _=>g _ s σ h h0 (hw.cm hd)) h ⟨h0,hw⟩ (hn.hv.dw hn.n)
  ·rw[if_neg e0];exact(Mt (P:=λ s σ=>P s σ/\Wr r x y val s σ) hk (hP.ev (Wr.ev C r x y val)) (λ s σ h ⟨h0,hw⟩ hd _=>g _ s σ h h0 (hw.cm hd)) h ⟨h0,hw⟩ (hw.hv.dw e0)).mono (by omega)
 have plain:Rg s val->(aB s.nodes val).kind=2->Cm r x y val s σ->fY C B k Q 64 (d+4) (mz K val) s σ:=λ hrg k2 hcm=>by refine fP h hrg ?_;rw[if_pos k2];exact(g val s σ h h0 hcm).mono (by omega)
 have y0:=hx.y0;cases h.j.rt with
 | a0 e h1 ha=>
  have:val=4:=hval.symm.trans e;subst this;have r4:r=4:=hr4.resolve_right λ q=>q.2 h1;refine plain h.j.sF h.j.k4 ⟨.inl ⟨rfl,r4,hx.xr,y0,?_⟩⟩;rcases hx.h with q|⟨q1,q2,_⟩|⟨_,q,_⟩
  ·exact .inl q.z
  ·exact .inr ⟨q1,by rw[<- r4];exact q2,h1,ha⟩
  ·exact absurd h1 q
 | a1 v' e dd z h1 uu ii aa=>
  have:val=v':=hval.symm.trans e;subst this;have r4:r=4:=hr4.resolve_right λ q=>q.2 h1;refine desc ⟨dd,.inl ⟨z,hval⟩⟩ ⟨.inl ⟨r4,⟨dd,.inl ⟨z,hval⟩⟩,hx.xr,y0,λ e2=>(by rw[z] at e2;cases e2),λ _=>?_⟩⟩;rcases hx.h with q|⟨q1,q2,_⟩|⟨_,q,_⟩
  ·exact .inl q.z
  ·exact .inr ⟨q1,by rw[<- r4];exact q2⟩
  ·exact absurd h1 q
 | a2 v' e dd z h1 ha=>
  have:val=v':=hval.symm.trans e;subst this;have r4:r=4:=hr4.resolve_right λ q=>q.2 h1;refine desc ⟨dd,.inr (.inl z)⟩ ⟨.inl ⟨r4,⟨dd,.inr (.inl z)⟩,hx.xr,y0,λ _=>⟨hx.xr,y0,?_⟩,λ e2=>(by rw[z] at e2;cases e2)⟩⟩;rcases hx.h with q|⟨q1,q2,_⟩|⟨_,q,_⟩
  ·exact .inl q.z
  ·exact .inr ⟨q1,by rw[<- r4];exact q2,h1,ha⟩
  ·exact absurd h1 q
 | b1 v' e dd z h1 ha=>
  have:val=v':=hval.symm.trans e;subst this;have hv:Hv val s σ:=⟨dd,.inr (.inr ⟨z,h1⟩)⟩;refine desc hv ?_;rcases hr4 with r4|hR
  ·exact⟨.inl ⟨r4,hv,hx.xr,y0,λ e2=>(by rw[z] at e2;cases e2),λ e2=>(by rw[z] at e2;cases e2)⟩⟩
  ·exact⟨.inr ⟨hR,hv,z⟩⟩
 | b2 e h1 ha=>have:val=σ.R:=hval.symm.trans e;obtain⟨q1,q2,_⟩:=h.j.mR h1;exact plain (by rw[this];exact q1) (by rw[this];exact q2) ⟨.inr ⟨this,h1⟩⟩
end
end
section
section
variable{C:KP}{B k d a0:Nat}{s s1 s2:Mm}{σ τ υ:Gs}{r x y v w f m i:Int}{a:List Nat}{Q:Rs->Mm->Gs->Prop}{P P':Mm->Gs->Prop}{K:Int->Tr}
theorem Rp{kk:Int->Tr}(hP:nQ C k P)(hx:Rg s x)(g:∀s σ,At C B k s σ->P s σ->fY C B k Q 64 d (kk (eT s x)) s σ)(h:At C B k s σ)(h0:P s σ):fY C B k Q a0 (d+1) (.node x λ n=>.load n.prev kk) s σ:=by refine fP h hx ?_;obtain⟨c,hc⟩:∃c,c=(aB s.nodes x).prev:=⟨_,rfl⟩;rw[<- hc];have hE:Ev C λ s (_:Gs)=>Rg s x/\(aB s.nodes x).prev=c:=λ j s σ s1 τ j1 q g ⟨h1,h2⟩=>⟨h1.le q.k.le,by rw[q.k.nd x h1.b];exact h2⟩;refine Hp (P:=λ s σ=>P s σ/\(Rg s x/\(aB s.nodes x).prev=c)) (hP.ev hE) (λ s σ h ⟨h0,_,h4⟩=>?_) h ⟨h0,hx,hc.symm⟩;rw[<- h4];exact g s σ h h0
theorem rz{kk:Int->Tr}(hP:nQ C k P)(hx:Rg s x)(g:∀s σ,At C B k s σ->P s σ->fY C B k Q 64 d (kk (fH s x)) s σ)(h:At C B k s σ)(h0:P s σ):fY C B k Q a0 (d+1) (.node x λ n=>.load n.status kk) s σ:=by refine fP h hx ?_;obtain⟨c,hc⟩:∃c,c=(aB s.nodes x).status:=⟨_,rfl⟩;rw[<- hc];have hE:Ev C λ s (_:Gs)=>Rg s x/\(aB s.nodes x).status=c:=λ j s σ s1 τ j1 q g ⟨h1,h2⟩=>⟨h1.le q.k.le,by rw[q.k.nd x h1.b];exact h2⟩;refine Hp (P:=λ s σ=>P s σ/\(Rg s x/\(aB s.nodes x).status=c)) (hP.ev hE) (λ s σ h ⟨h0,_,h4⟩=>?_) h ⟨h0,hx,hc.symm⟩;rw[<- h4];exact g s σ h h0
theorem aFE{n:Nv}{z:Int}{kk:Int->Tr}(hk:k<3)(hP:nQ C k P)(g:∀s σ,At C B k s σ->P s σ->At C B k (s.push n z) σ->P (s.push n z) σ->Kx s (s.push n z)->fY C B k Q a0 d (kk ((s.nodes.length+1:Nat):Int)) (s.push n z) σ)(h:At C B k s σ)(h0:P s σ):fY C B k Q (a0+1) d (.alloc n z kk) s σ:=kb λ s' σ' f=>by have hA:At C B k s' σ':=.fm f;have hp:=f.eH h hP h0;have g1:sY C s' (Ka k) σ' (s'.push n z) σ':=.push n z;have q:=Aa hA.j g1;exact g s' σ' hA hp ⟨q.j,hA.b⟩ (hP _ _ _ _ _ (Oz hk) hA.j q g1 hp) q.k
theorem W1{j:Nat}(j1:J C s σ)(g:sY C s j σ s1 τ)(hR:σ.R≠0)(hx:Rg s x)(p1:eT s x=f)(p2:Nz s f y):eT s1 x=f:=by
 have f0:f≠0:=eA p2.r;cases yA j1 g with
 | same e _=>exact(e x hx).2.trans p1
 | put r' q' ws hr z hj hu c p e o e2 hs=>exact(e2 x hx).trans p1
 | mU r' y' u hr' p y0' hu hn c e o e2 hs=>
  refine(o x hx λ e3=>?_).trans p1;rcases hr' with⟨_,q2,_⟩|⟨q1,q2⟩;·exact hR q2
  ·obtain⟨y2,h1,h2,h3|⟨u2,h3,h4,h5,h6|⟨h7,_⟩⟩⟩:=(j1.mR hR).2.2.2;·rw[q1] at e3;rw[e3,h3,h2] at p1;exact f0 p1.symm
   ·rw[q1] at e3;rw[e3,h6] at p1;have:=p2.k;rw[<- p1,h1.kd] at this;cases this
   ·exact h7
 | fail y' f' hR' p k w e o e2 hs=>refine(o x hx λ e3=>?_).trans p1;rw[<- e3,p1] at p;have:=p2.k;rw[p,k] at this;cases this
 | back y' f' hR' p w e o e2 hs=>exact(e2 x hx).trans p1
structure XF(C:KP)(x y:Int)(a:List Nat)(s:Mm)(σ:Gs):Prop where
 xr:Rg s x
 k:(aB s.nodes x).kind=3
 yv:Vm C a y s σ
 h:Vm C a x s σ∨(σ.R≠0/\∃f,eT s x=f/\Nz s f y)
theorem XF.ev(C:KP)(x y:Int)(a:List Nat):Ev C (XF C x y a):=λ j s σ s1 τ j1 q g h=>by
 refine⟨h.xr.le q.k.le,by rw[q.k.nd x h.xr.b];exact h.k,Vm.ev C a y j s σ s1 τ j1 q g h.yv,?_⟩;rcases h.h with h1|⟨hR,f,h1,h2⟩;·exact .inl (Vm.ev C a x j s σ s1 τ j1 q g h1)
 ·exact .inr ⟨by rw[yU j1 g hR];exact hR,f,W1 j1 g hR h.xr h1 h2,h2.kx q.k⟩
structure XT(C:KP)(x y f:Int)(a:List Nat)(s:Mm)(σ:Gs):Prop where
 xr:Rg s x
 yv:Vm C a y s σ
 R:σ.R≠0
 p:eT s x=f
 w:Nz s f y
theorem XT.ev(C:KP)(x y f:Int)(a:List Nat):Ev C (XT C x y f a):=λ j s σ s1 τ j1 q g h=>⟨h.xr.le q.k.le,Vm.ev C a y j s σ s1 τ j1 q g h.yv,by rw[yU j1 g h.R];exact h.R,W1 j1 g h.R h.xr h.p h.w,h.w.kx q.k⟩
theorem lj(hk:k<3)(hP:nQ C k P)(g:∀s σ,At C B k s σ->P s σ->XT C x y f a s σ->cN s 4≠x->fY C B k Q 64 d (K y) s σ)(h:At C B k s σ)(h0:P s σ)(hx:XT C x y f a s σ):fY C B k Q a0 (d+1) (ay 4 x f K) s σ:=by
 refine fP h h.j.sF ?_;refine fP h hx.w.r ?_;rw[h.j.n4,hx.w.o];refine yM (P:=λ s σ=>P s σ/\XT C x y f a s σ) (P':=λ s _=>cN s 4≠x) hk (hP.ev (XT.ev C x y f a)) (λ s σ hA ⟨h1,h2⟩=>⟨by decide,by have:=hA.j.ly.c;omega,λ e=>⟨σ,?_,by omega,?_⟩,λ e=>by rw[hA.j.two];exact e⟩) (λ s σ b hA ⟨h1,h2⟩ h3=>?_) h ⟨h0,hx⟩;·have e4:cN s 4=x:=hA.j.two.trans e;have:=sY.back (C:=C) (j:=Ka k) (σ:=σ) y f h2.R (by rw[e4];exact h2.p) h2.w;rw[e4] at this;exact this
 ·have e5:=(Bg (n:=y) hA.j.ly hA.j.sF hA.j.k4 (hA.j.two.trans e)).2.1;rw[hA.j.n4] at e5;rw[e5];intro e6;have:=h2.p;rw[<- e6,h2.yv.z] at this;exact eA h2.w.r this.symm
 ·refine fP hA h2.w.r ?_;rw[h2.w.o];exact g s σ hA h1 h2 h3
theorem aA1(hk:k<3)(hP:nQ C k P)(g1:∀s σ,At C B k s σ->P s σ->Vm C a x s σ->fY C B k Q 64 d (K x) s σ)(g2:∀f s σ,At C B k s σ->P s σ->XT C x y f a s σ->cN s 4≠x->fY C B k Q 64 d (K y) s σ)(h:At C B k s σ)(h0:P s σ)(hx:XF C x y a s σ):fY C B k Q a0 (d+2) (lD 4 x K) s σ:=by
 refine Rp (P:=λ s σ=>P s σ/\XF C x y a s σ) (hP.ev (XF.ev C x y a)) hx.xr (λ s σ h ⟨h0,hx⟩=>?_) h ⟨h0,hx⟩;by_cases e0:eT s x=0
 ·rw[if_pos e0];rcases hx.h with h1|⟨hR,f,h1,h2⟩;·exact(g1 s σ h h0 h1).mono (by omega)
  ·exact absurd (h1.symm.trans e0) (eA h2.r)
 ·rw[if_neg e0];rcases hx.h with h1|⟨hR,f,h1,h2⟩;·exact absurd h1.z e0
  ·rw[h1];exact lj hk hP (λ s σ h h0 hx hn=>g2 f s σ h h0 hx hn) h h0 ⟨hx.xr,hx.yv,hR,h1,h2⟩
theorem mx{r:Int}(hP:nQ C k P)(g1:∀s σ,At C B k s σ->P s σ->Vm C a x s σ->fY C B k Q 64 d (K x) s σ)(h:At C B k s σ)(h0:P s σ)(hx:Vm C a x s σ):fY C B k Q a0 (d+1) (lD r x K) s σ:=by refine Rp (P:=λ s σ=>P s σ/\Vm C a x s σ) (hP.ev (Vm.ev C a x)) hx.rg (λ s σ h ⟨h0,hx⟩=>?_) h ⟨h0,hx⟩;rw[if_pos hx.z];exact g1 s σ h h0 hx
structure CM(r x y:Int)(s:Mm)(σ:Gs):Prop where
 h:(r=4/\CK x y s σ)∨(r=σ.R/\σ.R≠0)
theorem CM.ev(C:KP)(r x y:Int):Ev C (CM r x y):=λ j s σ s1 τ j1 q g h=>⟨h.h.imp (λ⟨h1,h2⟩=>⟨h1,CK.ev C x y j s σ s1 τ j1 q g h2⟩) λ h1=>de C r j s σ s1 τ j1 q g h1⟩
theorem I8.aCy{ws:List Nat}{fo:Prop}(h:I8 C s r ws fo)(hf:¬fo)(p:eT s (cN s r)≠0):∃u,u<2/\u∉ws/\Ct C s (cN s r) (cont (u::ws)):=by
 obtain⟨y,h1,h2,h3|⟨u,h3,h4,h5,h6⟩⟩:=h;·rw[h3] at p;exact absurd h2 p
 ·exact⟨u,h3,h4,h5⟩
theorem m7(hk:k<3)(hP:nQ C k P)(g:∀s σ,At C B k s σ->P s σ->Vm C a x s σ->fY C B k Q 64 d (K x) s σ)(h:At C B k s σ)(h0:P s σ)(hx:XK C r x y a s σ)(hc:CM r x y s σ):fY C B k Q a0 (d+2) (qM r x y true K) s σ:=by
 unfold qM;rw[if_pos rfl];refine fP h hx.xr ?_;obtain⟨c,hc2⟩:∃c,c=(aB s.nodes x).prev:=⟨_,rfl⟩;rw[<- hc2];have hE:Ev C λ s (_:Gs)=>Rg s x/\(aB s.nodes x).prev=c:=λ j s σ s1 τ j1 q g ⟨h1,h2⟩=>⟨h1.le q.k.le,by rw[q.k.nd x h1.b];exact h2⟩;refine yM (P:=λ s σ=>P s σ/\(XK C r x y a s σ/\(CM r x y s σ/\(Rg s x/\(aB s.nodes x).prev=c)))) (P':=λ s σ=>eT s x=0) hk (hP.ev ((XK.ev C r x y a).and ((CM.ev C r x y).and hE))) (λ s σ hA ⟨h0,hx,hc,_,h4⟩=>?_) (λ s σ b hA ⟨h0,hx,hc,_⟩ e0=>?_) h ⟨h0,hx,hc,hx.xr,hc2.symm⟩
 ·obtain⟨a1,a2,a3,-,-⟩:=hA.j.ly.prev hx.xr (.inl hx.k);have yk:=hx.yv.kd;have y0:=hx.y0;rw[<- h4];refine⟨a1,a2,λ e=>?_,λ e=>?_⟩
  ·have e2:eT s x=y:=e;have e3:cN s r=x:=by
    rcases hx.h with h5|⟨_,h5,_⟩|⟨_,_,f,h5,h6⟩;·rw[h5.z] at e2;exact absurd e2.symm y0
    ·exact h5
    ·have:=h6.k;rw[<- h5,e2,yk] at this;cases this
   have hu:∃u,u<2/\u∉σ.us/\Ct C s (cN s r) (cont (u::σ.us)):=by
    rcases hc.h with⟨q1,q2⟩|⟨q1,q2⟩
    ·rcases q2.h with q3|⟨_,_,q3,_⟩;·rw[e2] at q3;exact absurd q3 y0
     ·have:=hA.j.m4.aCy (λ q=>q q3) (by rw[<- q1,e3,e2];exact y0);rw[hA.j.new q3,<- q1] at this;exact this
    ·have:=(hA.j.mR q2).2.2.2.aCy (λ q=>q) (by rw[<- q1,e3,e2];exact y0);rw[<- q1] at this;exact this
   obtain⟨u,hu1,hu2,hu3⟩:=hu
   have g1:=sY.mU (C:=C) (j:=Ka k) (s:=s) (σ:=σ) r y u (by
    rcases hc.h with⟨q1,q2⟩|q1
    ·rcases q2.h with q3|⟨_,_,q3,q4⟩;·rw[e2] at q3;exact absurd q3 y0
     ·exact .inl ⟨q1,q3,q4⟩
    ·exact .inr q1) (by rw[e3];exact e2) y0 hu1 hu2 hu3
   rw[e3] at g1;exact⟨_,g1,by show σ.kl<=_;omega,(xZ (n:=0) hA.j.ly hx.xr hx.k e2).2.1⟩
  ·rcases hx.h with h5|⟨h5,_⟩|⟨q1,q2,f,h5,h6⟩;·exact h5.z
   ·exact absurd h5 e
   ·rcases hc.h with⟨_,q3⟩|⟨q3,_⟩
    ·rcases q3.h with q4|⟨_,_,q4,_⟩;·exact q4
     ·exact absurd q4 q2
    ·exact absurd (q3.symm.trans q1) (hA.j.R4 q2)
 ·refine mx hP g hA h0 ?_;rcases hx.h with h5|⟨h5,_⟩|⟨q1,q2,f,h5,h6⟩
  ·exact h5
  ·exact absurd (h5.symm.trans e0) hx.y0
  ·exact absurd (h5.symm.trans e0) (eA h6.r)
theorem w5(hk:k<3)(hP:nQ C k P)(g1:∀s σ,At C B k s σ->P s σ->Vm C a x s σ->fY C B k Q 64 d (K x) s σ)(g2:∀f s σ,At C B k s σ->P s σ->XT C x y f a s σ->cN s 4≠x->fY C B k Q 64 d (K y) s σ)(h:At C B k s σ)(h0:P s σ)(hx:XK C 4 x y a s σ)(hR:w=σ.R/\σ.R≠0):fY C B k Q (a0+1) (d+3) (qM 4 x y false K) s σ:=by
 unfold qM;rw[if_neg (by decide)];refine fP h hx.xr ?_;obtain⟨c,hc2⟩:∃c,c=(aB s.nodes x).prev:=⟨_,rfl⟩;rw[<- hc2];have hE:Ev C λ s (_:Gs)=>Rg s x/\(aB s.nodes x).prev=c:=λ j s σ s1 τ j1 q g ⟨h1,h2⟩=>⟨h1.le q.k.le,by rw[q.k.nd x h1.b];exact h2⟩;have hE2:=(XK.ev C 4 x y a).and ((de C w).and hE);refine aFE (P:=λ s σ=>P s σ/\(XK C 4 x y a s σ/\((w=σ.R/\σ.R≠0)/\(Rg s x/\(aB s.nodes x).prev=c)))) hk (hP.ev hE2) (λ s σ hA _ hA2 hp2 kx=>?_) h ⟨h0,hx,hR,hx.xr,hc2.symm⟩;have hF:Nz (s.push (Ps y) 0) ((s.nodes.length+1:Nat):Int) y:=⟨⟨by omega,by rw[eV];omega⟩,by rw[gW];rfl,by rw[gW];rfl⟩;generalize s.push (Ps y) 0=s0 at hA2 hp2 hF kx;generalize ((s.nodes.length+1:Nat):Int)=f at hF;have hEF:Ev C λ s (_:Gs)=>Nz s f y:=λ j s σ s1 τ j1 q g h=>h.kx q.k;refine yM (P:=λ s σ=>(P s σ/\(XK C 4 x y a s σ/\((w=σ.R/\σ.R≠0)/\(Rg s x/\(aB s.nodes x).prev=c))))/\Nz s f y) (P':=λ s σ=>eT s x≠y) hk ((hP.ev hE2).ev hEF) (λ s σ hA ⟨⟨h0,hx,hR,_,h4⟩,hF⟩=>?_) (λ s σ b hA ⟨⟨h0,hx,hR,_⟩,hF⟩ e0=>?_) hA2 ⟨hp2,hF⟩
 ·obtain⟨a1,a2,a3,-,-⟩:=hA.j.ly.prev hx.xr (.inl hx.k);have yk:=hx.yv.kd;have y0:=hx.y0;rw[<- h4];refine⟨a1,a2,λ e=>?_,λ e=>e⟩;have e2:eT s x=y:=e
  have e3:cN s 4=x:=by
   rcases hx.h with h5|⟨_,h5,_⟩|⟨_,_,f,h5,h6⟩;·rw[h5.z] at e2;exact absurd e2.symm y0
   ·exact h5
   ·have:=h6.k;rw[<- h5,e2,yk] at this;cases this
  have g1:=sY.fail (C:=C) (j:=Ka k) (s:=s) (σ:=σ) y f hR.2 (by rw[e3];exact e2) yk hF;rw[e3] at g1;refine⟨_,g1,by omega,?_⟩;rw[(xZ (n:=f) hA.j.ly hx.xr hx.k e2).2.1];intro e5;have:=hF.k;rw[e5,yk] at this;cases this
 ·refine aA1 hk hP g1 g2 hA h0 ⟨hx.xr,hx.k,hx.yv,?_⟩;rcases hx.h with h5|⟨h5,_⟩|⟨q1,q2,f,h5,h6⟩
  ·exact .inl h5
  ·exact absurd h5 e0
  ·exact .inr ⟨q2,f,h5,h6⟩
theorem K3(hk:k<3)(hP:nQ C k P)(hN:k=0->∀s σ,At C B k s σ->P s σ->∀v,aL s.cs 3=v->tI s v->fH s v=0->cN s 4≠(aB s.nodes v).exp)(g1:∀s σ,At C B k s σ->P s σ->Vm C a x s σ->fY C B k Q 64 d (K x) s σ)(g2:∀f s σ,At C B k s σ->P s σ->r=4->XT C x y f a s σ->cN s 4≠x->fY C B k Q 64 d (K y) s σ)(h:At C B k s σ)(h0:P s σ)(hx:XK C r x y a s σ):fY C B k Q a0 (d+9) (rT t3 r x K) s σ:=by
 refine Rp (P:=λ s σ=>P s σ/\XK C r x y a s σ) (hP.ev (XK.ev C r x y a)) hx.xr (λ s σ h ⟨h0,hx⟩=>?_) h ⟨h0,hx⟩;by_cases e0:eT s x=0
 ·rw[if_pos e0];rcases hx.h with h5|⟨h5,_⟩|⟨q1,q2,f,h5,h6⟩;·exact(g1 s σ h h0 h5).mono (by omega)
  ·exact absurd (h5.symm.trans e0) hx.y0
  ·exact absurd (h5.symm.trans e0) (eA h6.r)
 ·rw[if_neg e0];rcases hx.h with h5|⟨h5,h6,h7⟩|⟨q1,q2,f,h5,h6⟩;·exact absurd h5.z e0
  ·rw[h5];refine fP h hx.yv.rg ?_;rw[if_pos (show Ap (aB s.nodes y) from .inl hx.yv.kd),if_neg (by decide)];have hRR:Ev C λ(_:Mm) σ=>r=4∨(r=σ.R/\σ.R≠0):=λ j s σ s1 τ j1 q g h=>h.imp_right (de C r j s σ s1 τ j1 q g);refine(we (d:=d+3) (P:=λ s σ=>P s σ/\(XK C r x y a s σ/\(r=4∨(r=σ.R/\σ.R≠0)))) hk (hP.ev ((XK.ev C r x y a).and hRR)) (λ k0 s σ hA ⟨h1,_⟩=>hN k0 s σ hA h1) (λ s σ _ ⟨_,h1⟩=>h1) (λ w s σ h ⟨h0,hx,hr⟩ hcm=>?_) h ⟨h0,hx,h7⟩).mono (by omega);rcases hcm.h with⟨q1,q2,q3⟩|⟨q1,q2⟩
   ·refine fP h (by rw[q1];exact h.j.sF) (fP h (by rw[q2];exact h.j.sF) ?_);rw[q1,q2,beq_self_eq_true];exact(m7 hk hP g1 h h0 (q2▸hx) ⟨.inl ⟨rfl,q3⟩⟩).mono (by omega)
   ·obtain⟨w1,w2,w3,_⟩:=h.j.mR q2;rcases hr with q3|⟨q3,_⟩;·refine fP h (by rw[q1];exact w1) (fP h (by rw[q3];exact h.j.sF) ?_);rw[q1,q3,h.j.g4,beq_false_of_ne w3];exact w5 (a0:=63) (w:=w) hk hP g1 (λ f s σ h h0 hx hn=>g2 f s σ h h0 q3 hx hn) h h0 (q3▸hx) ⟨q1,q2⟩
    ·refine fP h (by rw[q1];exact w1) (fP h (by rw[q3];exact w1) ?_);rw[q1,q3,beq_self_eq_true];exact(m7 hk hP g1 h h0 (q3▸hx) ⟨.inr ⟨rfl,q2⟩⟩).mono (by omega)
  ·rw[h5];refine fP h h6.r ?_;rw[if_neg (show ¬Ap (aB s.nodes f) from λ q=>by have:=h6.k;unfold Ap at q;omega)];rw[q1];exact(lj hk hP (λ s σ h h0 hx hn=>g2 f s σ h h0 q1 hx hn) h h0 ⟨hx.xr,hx.yv,q2,h5,h6⟩).mono (by omega)
structure RK(r:Int)(a:List Nat)(s:Mm)(σ:Gs):Prop where
 h:(r=4/\a <:+ jJ σ.us)∨((r=σ.R/\σ.R≠0)/\a <:+ σ.us)
theorem sr{u:Nat}{us:List Nat}:jJ us <:+ jJ (u::us):=by
 show _ <:+ (if u=2 then us else if 2∈us then jJ us else u::us);split;·exact gI us
 split;·exact List.suffix_refl _
 ·exact(gI us).trans (List.suffix_cons _ _)
theorem Y1{us vs:List Nat}(h:us <:+ vs):jJ us <:+ jJ vs:=by
 obtain⟨l,rfl⟩:=h;induction l with
 | nil=>exact List.suffix_refl _
 | cons u l ih=>exact ih.trans sr
theorem RK.ev(C:KP)(r:Int)(a:List Nat):Ev C (RK r a):=λ j s σ s1 τ j1 q g h=>⟨h.h.imp (λ⟨h1,h2⟩=>⟨h1,h2.trans (Y1 q.u)⟩) λ⟨h1,h2⟩=>⟨de C r j s σ s1 τ j1 q g h1,h2.trans q.u⟩⟩
theorem RK.rg(h:RK r a s σ)(j1:J C s σ):Rg s r/\(aB s.nodes r).kind=2:=by
 rcases h.h with⟨h1,_⟩|⟨⟨h1,h2⟩,_⟩;·rw[h1];exact⟨j1.sF,j1.k4⟩
 ·rw[h1];exact⟨(j1.mR h2).1,(j1.mR h2).2.1⟩
theorem RK.main(h:RK r a s σ)(j1:J C s σ):Vm C a (cN s r) s σ∨∃y,XK C r (cN s r) y a s σ/\eT s (cN s r)≠0/\((r=4/\∃u,u<2/\u∉jJ σ.us/\Ct C s (cN s r) (cont (u::jJ σ.us)))∨(r=σ.R/\∃u,u<2/\u∉σ.us/\Ct C s (cN s r) (cont (u::σ.us)))):=by
 rcases h.h with⟨h1,h2⟩|⟨⟨h1,h3⟩,h2⟩
 ·obtain⟨y,c1,c2,c3|⟨u,c3,c4,c5,c6⟩⟩:=j1.m4;·rw[h1,c3];exact .inl ⟨c2,_,h2,gI _,c1⟩
  ·refine .inr ⟨y,⟨by rw[h1];exact c5.r,by rw[h1];exact c5.kd,⟨c2,_,h2,gI _,c1⟩,.inr ?_⟩,λ e=>?_,.inl ⟨h1,u,c3,c4,by rw[h1];exact c5⟩⟩
   ·rw[h1];rcases c6 with c6|⟨c6,f,c7,c8⟩;·exact .inl ⟨c6,rfl,.inl rfl⟩
    ·exact .inr ⟨rfl,c6,f,c7,c8⟩
   ·rw[h1] at e;rcases c6 with c6|⟨_,f,c7,c8⟩;·exact eA c1.r (c6.symm.trans e)
    ·exact eA c8.r (c7.symm.trans e)
 ·obtain⟨_,_,_,y,c1,c2,c3|⟨u,c3,c4,c5,c6|⟨c6,_⟩⟩⟩:=j1.mR h3;·rw[h1,c3];exact .inl ⟨c2,_,h2,List.suffix_refl _,c1⟩
  ·refine .inr ⟨y,⟨by rw[h1];exact c5.r,by rw[h1];exact c5.kd,⟨c2,_,h2,List.suffix_refl _,c1⟩,.inr (.inl ⟨by rw[h1];exact c6,rfl,.inr ⟨h1,h3⟩⟩)⟩,λ e=>?_,.inr ⟨h1,u,c3,c4,by rw[h1];exact c5⟩⟩;rw[h1] at e;exact eA c1.r (c6.symm.trans e)
  ·exact c6.elim
theorem E4{PX:Bool->Int->Mm->Gs->Prop}(hk:k<3)(hP:nQ C k P)(hX:∀b x,nQ C k (PX b x))(hr:∀s σ,At C B k s σ->P s σ->RK r a s σ)(hL:∀s σ,At C B k s σ->P s σ->∃τ,zI C k 0 0 s σ s τ/\(eT s (cN s r)=0->PX false (cN s r) s τ)/\(eT s (cN s r)≠0->PX true (cN s r) s τ))(hN:k=0->∀x s σ,At C B k s σ->PX true x s σ->∀v,aL s.cs 3=v->tI s v->fH s v=0->cN s 4≠(aB s.nodes v).exp)
  (g1:∀b x s σ,At C B k s σ->PX b x s σ->Vm C a x s σ->fY C B k Q 64 d (K x) s σ) (g2:∀x y f s σ,At C B k s σ->PX true x s σ->r=4->XT C x y f a s σ->fY C B k Q 64 d (K y) s σ) (h:At C B k s σ) (h0:P s σ):fY C B k Q a0 (d+10) (xV t3 r K) s σ:=by
 obtain⟨r1,r2⟩:=(hr s σ h h0).rg h.j;refine fP h r1 ?_;obtain⟨c,hc⟩:∃c,c=(aB s.nodes r).main:=⟨_,rfl⟩;rw[<- hc];have hE:Ev C λ s (_:Gs)=>Rg s r/\(aB s.nodes r).main=c:=λ j s σ s1 τ j1 q g ⟨h1,h2⟩=>⟨h1.le q.k.le,by rw[q.k.nd r h1.b];exact h2⟩;refine Zk λ s' σ' f=>?_;have hA:At C B k s' σ':=.fm f;obtain⟨hp,_,h4⟩:=f.eH h (hP.ev hE) ⟨h0,r1,hc.symm⟩
 obtain⟨τ,st,hx1,hx2⟩:=hL s' σ' hA hp;refine⟨τ,st,?_⟩;have hA2:=st.at_ hA;have hrk:=(RK.ev C r a).run st.r hA.j (hr s' σ' hA hp);show fY C B k Q 64 (d+9) (rT t3 r (aL s'.cs c) K) s' τ
 rw[<- h4];rcases hrk.main hA2.j with hv|⟨y,hy,hne,_⟩;·refine(Rp (d:=d+8) (P:=λ s σ=>PX false (cN s' r) s σ/\Vm C a (cN s' r) s σ) ((hX _ _).ev (Vm.ev C a _)) hv.rg (λ s σ h ⟨h0,hx⟩=>?_) hA2 ⟨hx1 hv.z,hv⟩);rw[if_pos hx.z];exact(g1 _ _ s σ h h0 hx).mono (by omega)
 ·exact K3 (P:=λ s σ=>PX true (cN s' r) s σ/\Vm C a y s σ) hk ((hX _ _).ev (Vm.ev C a y)) (λ k0 s σ hA ⟨h1,_⟩=>hN k0 _ s σ hA h1) (λ s σ hA ⟨h1,_⟩ hv=>g1 _ _ s σ hA h1 hv) (λ f s σ hA ⟨h1,_⟩ q1 hx _=>g2 _ y f s σ hA h1 q1 hx) hA2 ⟨hx2 hne,hy.yv⟩ hy
end
end
end Go.Proofs.YthblobahelfefaaGreatDoor
