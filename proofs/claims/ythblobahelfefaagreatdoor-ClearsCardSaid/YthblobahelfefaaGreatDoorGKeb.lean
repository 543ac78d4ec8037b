/- Merged. -/
import Derived.Test.YthblobahelfefaaGreatDoorGKe9
set_option linter.unusedSimpArgs false
set_option linter.unusedVariables false
namespace Go.Proofs.YthblobahelfefaaGreatDoor
open Go Go.RowKit Go.Ct
section
section
variable{C:KP}{B k d a0 b j:Nat}{s s1 s2:Mm}{σ τ υ:Gs}{r x y v w f m q i e:Int}{a ws:List Nat}{p p':Bool}{P:Mm->Gs->Prop}{Q:Rs->Mm->Gs->Prop}{T:Tr}
structure Pu(C:KP)(k b:Nat)(s:Mm)(s2:Mm)(σ:Gs):Prop where
 r:Jm C (λ j=>j=Ka k) s σ s2 σ
 n:s2.nodes.length<=s.nodes.length+b
 l:s2.cs.length<=s.cs.length+b
 g:s2.gen<=s.gen+b
theorem Pu.refl:Pu C k 0 s s σ:=⟨.refl _ _,Nat.le_refl _,Nat.le_refl _,by omega⟩
theorem Pu.le{e:Nat}(h:Pu C k b s s2 σ)(hl:b<=e):Pu C k e s s2 σ:=⟨h.r,by have:=h.n;omega,by have:=h.l;omega,by have:=h.g;omega⟩
theorem Pu.push(h:Pu C k b s s2 σ)(v:Nv)(z:Int):Pu C k (b+1) s (s2.push v z) σ:=⟨.step h.r rfl (.push v z),by rw[eV];have:=h.n;omega,by have:=(Fi s2 v z).2;have:=h.l;omega,by have:=h.g;show s2.gen<=_;omega⟩
theorem Pu.list:∀{l:List NI} {b:Nat} {s2:Mm},Pu C k b s s2 σ->Pu C k (b+l.length) s (s2.fZ l) σ
 | [],_,_,h=>h
 | n::l,b,s2,h=>by have:=Pu.list (l:=l) (h.push n.c0 n.init);rw[List.length_cons,show b+(l.length+1)=b+1+l.length by omega];exact this
theorem Pu.eH(h:Pu C k b s s2 σ)(hk:k<3)(hA:At C B k s σ)(hP:nQ C k P)(h0:P s σ):At C B k s2 σ/\P s2 σ:=⟨⟨(h.r.to hA.j).j,hA.b⟩,hP.run (λ j e=>by rw[e];exact Oz hk) h.r hA.j h0⟩
theorem ki{t:Tr}(hk:k<3)(hP:nQ C k P)(g:∀s σ,At C B k s σ->P s σ->∃t2 s2,iR t s=iR t2 s2/\Pu C k b s s2 σ/\(At C B k s2 σ->P s2 σ->fY C B k Q 0 d t2 s2 σ))(h:At C B k s σ)(h0:P s σ):fY C B k Q b d t s σ:=λ s' σ' f=>by
 have hA:At C B k s' σ':=.fm f;have hp:=f.eH h hP h0;obtain⟨t2,s2,e,pu,g2⟩:=g s' σ' hA hp
 obtain⟨hA2,hp2⟩:=pu.eH hk hA hP hp;obtain⟨e1,σ4,st2,g3⟩:=g2 hA2 hp2 s2 σ' hA2.refl;have st:zI C k b 0 s' σ' s2 σ':=⟨pu.r.imp λ j e=>.inr e,pu.n,pu.l,Nat.le_refl _,pu.g⟩;rw[e];exact⟨e1,σ4,(st.trans st2).le (by omega) (by omega),g3⟩
structure PP(C:KP)(k:Nat)(a:List Nat)(p q:Bool)(s:Mm)(σ:Gs):Prop where
 nu:Nu C k s σ
 su:a <:+ σ.us
 st:p=true->∃x,St C k x s σ
 qR:q=true->σ.R≠0
 z:k=0->aL s.cs 3=4/\σ.R=0
theorem aAu(C:KP)(k:Nat):nQ C k λ s σ=>k=0->aL s.cs 3=4/\σ.R=0:=λ j s σ s1 τ hj j1 qq g h k0=>by subst k0;exact Y5 C j s σ s1 τ hj j1 qq g (h rfl)
theorem PP.kp{q:Bool}(hk:k<2):nQ C k (PP C k a p q):=λ j s σ s1 τ hj j1 qq g h=>⟨Nu.kp hk j s σ s1 τ hj j1 qq g h.nu,h.su.trans qq.u,λ e=>by obtain⟨x,hx⟩:=h.st e;exact⟨x,St.kp hk x j s σ s1 τ hj j1 qq g hx⟩,λ e=>by rw[yU j1 g (h.qR e)];exact h.qR e,aAu C k j s σ s1 τ hj j1 qq g h.z⟩
def QU(k:Nat)(r:Rs)(s:Mm)(σ:Gs):Prop:=(r=A7 false 0/\k∈σ.us)/\(k=0->aL s.cs 3=4/\σ.R=0)
theorem QU.kp(C:KP)(k:Nat)(r:Rs):nQ C k (QU k r):=λ j s σ s1 τ hj j1 q g h=>⟨⟨h.1.1,q.u.subset h.1.2⟩,aAu C k j s σ s1 τ hj j1 q g h.2⟩
structure Vc(C:KP)(a ws:List Nat)(m:Int)(s:Mm)(σ:Gs):Prop where
 z:eT s m=0
 c:Ct C s m (cont ws)
 h1:a <:+ ws
 h2:ws <:+ σ.us
theorem Vc.ev(C:KP)(a ws:List Nat)(m:Int):Ev C (Vc C a ws m):=λ j s σ s1 τ j1 q g h=>⟨q.k.z m h.c.r h.z,h.c.kx q.k,h.h1,h.h2.trans q.u⟩
theorem Vc.vm(h:Vc C a ws m s σ):Vm C a m s σ:=⟨h.z,ws,h.h1,h.h2,h.c⟩
theorem J.mRk(h:J C s σ)(hR:σ.R≠0)(p:eT s (cN s σ.R)=f)(k7:(aB s.nodes f).kind=7):False:=by
 obtain⟨_,_,_,y,h1,h2,h3|⟨u,h3,h4,h5,h6|⟨h7,_⟩⟩⟩:=h.mR hR;·rw[h3,h2] at p;exact eA (Yw k7 (by decide)) p.symm
 ·rw[h6] at p;rw[<- p,h1.kd] at k7;cases k7
 ·exact h7
theorem Xt{q':Bool}(hk:k<2)(hq4:r=4->q'=false)(hT1:p=false->∀s σ,At C B k s σ->PP C k a true q' s σ->fY C B k (QU k) 64 d T s σ)(hT2:q'=false->∀s σ,At C B k s σ->PP C k a p true s σ->fY C B k (QU k) 64 d T s σ)
  (h:At C B k s σ) (hp:PP C k a p q' s σ) (hg:Gr C k p r m s σ) (hv:Vc C a ws m s σ) (ho:Own C k q m ws s σ):fY C B k (QU k) a0 (d+10) (kQ t3 r m q (qP T false 0)) s σ:=by
 have hk3:k<3:=by omega
 have hr:r=4∨(r=σ.R/\σ.R≠0):=hg.h.imp (λ h=>h.1) λ h=>h.1
 have hrg:Rg s r/\(aB s.nodes r).kind=2:=by
  rcases hr with e|⟨e,hR⟩<;>rw[e];·exact⟨h.j.sF,h.j.k4⟩
  ·exact⟨(h.j.mR hR).1,(h.j.mR hR).2.1⟩
 refine fP h hrg.1 ?_;obtain⟨c,hc⟩:∃c,c=(aB s.nodes r).main:=⟨_,rfl⟩;rw[<- hc];have hE:Ev C λ s (_:Gs)=>Rg s r/\(aB s.nodes r).main=c/\(aB s.nodes r).kind=2/\(r=4∨(aB s.nodes r).gen≠1):=λ j s σ s1 τ j1 q g ⟨h1,h2,h3,h4⟩=>⟨h1.le q.k.le,by rw[q.k.nd r h1.b];exact⟨h2,h3,h4⟩⟩;have hK:=(PP.kp (C:=C) (a:=a) (p:=p) (q:=q') hk).and ((Gr.kp hk p r m).and (((Own.kp hk q m ws)).ev ((Vc.ev C a ws m).and hE)));refine Vj λ s' σ' f=>?_;have hA:At C B k s' σ':=.fm f;obtain⟨hp,⟨hg,_,_⟩,⟨ho,_⟩,hv,hrg',h4,k2,g4⟩:=f.eH h hK ⟨hp,⟨hg,hp.nu,λ e=>(hp.z e).2⟩,⟨ho,hp.nu⟩,hv,hrg.1,hc.symm,hrg.2,hr.imp_right λ⟨e,hR⟩=>by rw[e];exact(h.j.mR hR).2.2.1⟩
 have hr:r=4∨(r=σ'.R/\σ'.R≠0):=hg.h.imp (λ h=>h.1) λ h=>h.1;have hml:=hA.j.ly.main hrg' k2;by_cases em:cN s' r=m
 ·have hws:∃w',(r=4/\w'=jJ σ'.us∨r=σ'.R/\σ'.R≠0/\w'=σ'.us)/\Ct C s' m (cont w'):=by
   rcases hr with e|⟨e,hR⟩;·refine⟨_,.inl ⟨e,rfl⟩,?_⟩;have:=hA.j.m4.set (by rw[<- e,em];exact hv.z);rw[<- e,em] at this;exact this
   ·refine⟨_,.inr ⟨e,hR,rfl⟩,?_⟩;have:=(hA.j.mR hR).2.2.2.set (by rw[<- e,em];exact hv.z);rw[<- e,em] at this;exact this
  obtain⟨w',hw1,hw2⟩:=hws;have hct:Ct C s' q (cont (k::w')):=ho.ct.cg λ w hw=>by rw[Ez (by omega),Ez (by omega),hv.c.eq hw2 hw]
  have g1:=sY.put (C:=C) (j:=k) (s:=s') (σ:=σ') r q w' hw1 (by rw[em];exact hv.z) hk hp.nu.n hct (by rw[em];exact ho.pv);rw[em,h4] at g1;have st:zI C k 0 1 s' σ' (iB s' c m q) σ':=.iB (.inl rfl) g1 (by omega);refine⟨σ',st,?_⟩;have hA2:=st.at_ hA;have qq:=Aa hA.j g1;obtain⟨e1,e2,e3,e4⟩:=Bg (n:=q) hA.j.ly hrg' k2 em
  rw[h4] at e1 e2 e3 e4;have eB:Ic s'.cs c m=true:=by rw[<- h4];exact Zp em hml.1 hml.2.1
  rw[eB,if_pos rfl];have hx:XK C r q m a (iB s' c m q) σ':=⟨ho.ct.r.le qq.k.le,(by rw[qq.k.nd q ho.ct.r.b];exact ho.ct.kd),Vm.ev C a m _ _ _ _ _ hA.j qq g1 hv.vm,.inr (.inl ⟨(e3 q ho.ct.r).1.trans ho.pv,e2,hr⟩)⟩
  have hi:Ins C k q ws (iB s' c m q) σ':=⟨ho.ct.kx qq.k,.inr ⟨hp.nu.n,λ r0 hr0 c0 hc0 ht=>by
   by_cases err:r0=r;·rw[err];exact e2
   ·exfalso;have hr0g:Rg s' r0:=by
     rcases hr0 with e|⟨e,hR⟩<;>rw[e];·exact hA.j.sF
     ·exact(hA.j.mR hR).1
    obtain⟨c1,h1⟩:=hA.j.ct hr0;rw[e4 r0 hr0g err] at hc0;rw[hc0.eq (h1.kx qq.k) (by omega),hp.nu.m r0 hr0 c1 h1] at ht;cases ht⟩⟩
  have hz:k=0->aL (iB s' c m q).cs 3=4/\σ'.R=0:=λ k0=>⟨e1.trans (hp.z k0).1,(hp.z k0).2⟩;refine K3 (P:=λ s σ=>Ins C k q ws s σ/\((k=0->aL s.cs 3=4/\σ.R=0)/\a <:+ σ.us)) hk3 ((Ins.kp hk q ws).and ((aAu C k).ev (jm C a))) (λ k0 s σ hA ⟨_,hz,_⟩ v hv dd _=>?_) (λ s σ hA ⟨hi,hz,_⟩ hv=>?_) (λ f s σ hA ⟨hi,hz,hs⟩ r4 hx hn=>?_) hA2 ⟨hi,hz,hp.su⟩ hx
  ·have:=dd.k;rw[<- hv,(hz k0).1,hA.j.k4] at this;cases this
  ·rw[beq_self_eq_true];have hku:k∈σ.us:=by obtain⟨w2,_,h2,h3⟩:=hv.c;exact h2.subset (L4 (by omega) (by rw[<- hi.ct.eq h3 (by omega)];exact gQ (by omega) _))
   exact M7 λ s' σ' f=>⟨⟨rfl,(f.r.to hA.j).u.subset hku⟩,f.eH hA (aAu C k) hz⟩
  ·have hne:m≠q:=λ e=>by have h1:=hx.yv.z;rw[e,hx.p] at h1;exact eA hx.w.r h1
   rw[beq_false_of_ne hne];show fY C B k (QU k) 64 d T s σ;obtain⟨hn1,hn2⟩:=hi.h.resolve_left λ⟨_,h2⟩=>by rw[hx.p] at h2;exact eA hx.w.r h2
   have k1:k=1:=by have:k≠0:=λ k0=>hx.R (hz k0).2;omega
   have hNu:Nu C k s σ:=⟨hn1,λ r0 hr0 c0 hc0=>by
    cases ht:c0 k;·rfl
    ·exfalso;have hm:=hn2 r0 hr0 c0 hc0 ht;rcases hr0 with e|⟨e,hR⟩
     ·rw[e] at hm;exact hn hm
     ·refine hA.j.mRk hR (f:=f) ?_ hx.w.k;rw[<- e,hm];exact hx.p⟩
   refine hT2 (hq4 r4) s σ hA ⟨hNu,hs,λ _=>?_,λ _=>hx.R,hz⟩;obtain⟨c0,h1,h2⟩:=hA.j.m4.c0 (O5 hA.j.nd) (hA.j.u0 (hA.j.vi hx.R));exact⟨cN s 4,⟨.inr ⟨rfl,⟨c0,h1,by rw[k1];exact h2⟩,λ _=>by rw[<- k1];exact hNu⟩⟩⟩
 ·have em':aL s'.cs c≠m:=by rw[<- h4];exact em
  rw[h4] at hml;obtain⟨e1,e2⟩:=ul (n:=q) em' hml.1 hml.2.1;rw[e1,e2,if_neg (by decide)];refine⟨σ',.refl,?_⟩;show fY C B k (QU k) 64 (d+9) T s' σ';rcases hg.h with⟨r4,h5|⟨h5,⟨h6,_⟩|h6⟩⟩|⟨_,_,h5,_⟩
  ·rcases h5.h with⟨k0,hR⟩|⟨h6,_⟩;·exact absurd (hp.z k0).2 hR
   ·rw[<- r4] at h6;exact absurd h6 em
  ·rw[<- r4] at h6;exact absurd h6 em
  ·exact(hT1 h5 s' σ' hA ⟨hp.nu,hp.su,λ _=>h6,hp.qR,hp.z⟩).mono (by omega)
  ·exact absurd h5 em
theorem sq{q':Bool}{n:Nat}(ck:Q2 C)(hk:k<2)(hT1:p=false->∀s σ,At C B k s σ->PP C k a true q' s σ->fY C B k (QU k) 64 d (mF (jM C k) n) s σ)(hT2:q'=false->∀s σ,At C B k s σ->PP C k a p true s σ->fY C B k (QU k) 64 d (mF (jM C k) n) s σ)
  (h:At C B k s σ) (hp:PP C k a p q' s σ):fY C B k (QU k) a0 (d+35) (mF (jM C k) (n+1)) s σ:=by
 have hk3:k<3:=by omega
 refine O6 (E:=q'=false) (d:=d+20) (a:=a) (P:=PP C k a p q') (λ s σ _ h hR=>?_) hk3 (PP.kp hk) (λ k0 s σ _ h=>(h.z k0).1) (λ s σ _ h=>h.su) (λ r s σ h hp hr hq4=>?_) h hp
 ·cases q';·rfl
  ·exact absurd hR (h.qR rfl)
 have hrg:=hr.rg h.j;refine fP h hrg.1 ?_;obtain⟨gen,hgen⟩:∃gen,gen=(aB s.nodes r).gen:=⟨_,rfl⟩;rw[<- hgen];have hg4:r=4->gen=1:=λ e=>by rw[hgen,e];exact h.j.g4
 generalize hdown:xE (jM C k) (mF (jM C k) n) gen 11=down;show fY C B k (QU k) 64 (d+10+10) (xV t3 r λ m=>oR (jM C k) (mF (jM C k) n) gen (xE (jM C k) (mF (jM C k) n) gen 11) r 0 m) s σ
 rw[hdown];have dsc4:∀{s:Mm} {σ:Gs} {v:Int},At C B k s σ->aL s.cs 3=4->aL s.cs 3=v->tI s v->False:=λ hA e4 e dd=>by have:=dd.k;rw[<- e,e4,hA.j.k4] at this;cases this
 refine E4 (a:=a) (P:=λ s σ=>PP C k a p q' s σ/\RK r a s σ) (PX:=λ b x s σ=>(Gr C k p r x s σ/\Nu C k s σ/\(k=0->σ.R=0))/\(PP C k a p q' s σ/\(b=true->St C k x s σ))) hk3 ((PP.kp hk).ev (RK.ev C r a)) (λ b x=>(Gr.kp hk p r x).and ((PP.kp hk).and λ j s σ s1 τ hj j1 qq g h e=>St.kp hk x j s σ s1 τ hj j1 qq g (h e))) (λ s σ _ h=>h.2) (λ s σ hA ⟨hp,hr⟩=>?_) (λ k0 x s σ hA ⟨_,hp,_⟩ v e dd _=>(dsc4 hA (hp.z k0).1 e dd).elim) (λ b x s σ hA ⟨⟨hg,_⟩,hp,_⟩ hv=>?_) (λ x y f s σ hA ⟨_,hp,hst⟩ r4 hx=>?_) h ⟨hp,hr⟩
 ·refine⟨σ,.refl,λ pz=>⟨⟨⟨?_⟩,hp.nu,λ k0=>(hp.z k0).2⟩,hp,λ e=>(by cases e)⟩,λ pz=>?_⟩
  ·rcases hr.h with⟨r4,_⟩|⟨hR,_⟩
   ·refine .inl ⟨r4,?_⟩;subst r4;cases hpp:p;·exact .inr ⟨rfl,.inl ⟨rfl,pz,hA.j.m4.rg.1⟩⟩
    ·obtain⟨x,hx⟩:=hp.st hpp;rcases hx.h with⟨k0,hR⟩|⟨h1,h2⟩;·exact absurd (hp.z k0).2 hR
     ·rw[h1];exact .inl ⟨.inr ⟨h1,h2⟩⟩
   ·refine .inr ⟨hR,?_,rfl,pz,?_⟩;·have:k≠0:=λ k0=>hR.2 (hp.z k0).2;omega
    ·rw[hR.1];exact(hA.j.mR hR.2).2.2.2.rg.1
  ·rcases hr.main hA.j with hv|⟨y,hy,_,⟨r4,u,hu,hn,hc⟩|⟨rR,u,hu,hn,hc⟩⟩;·exact absurd hv.z pz
   ·have uk:u≠k:=λ e=>by have:=hp.nu.m r (.inl r4) _ hc;rw[e,gQ (by omega)] at this;cases this
    have hst:St C k (cN s r) s σ:=⟨.inr ⟨by rw[r4],⟨_,hc,(by rw[show 1-k=u by omega];exact gQ (by omega) _)⟩,λ k1=>by rw[<- k1];exact hp.nu⟩⟩;exact⟨⟨⟨.inl ⟨r4,.inl hst⟩⟩,hp.nu,λ k0=>(hp.z k0).2⟩,hp,λ _=>hst⟩
   ·exfalso;have hR:σ.R≠0:=by
     rcases hr.h with⟨r4,_⟩|⟨hR,_⟩;·rw[rR] at r4;intro e0;rw[e0] at r4;cases r4
     ·exact hR.2
    have u0:u≠0:=λ e=>hn (by rw[e];exact(gI _).subset (hA.j.u0 (hA.j.vi hR)));have k0:k≠0:=λ k0=>hR (hp.z k0).2;have:=hp.nu.m r (.inr ⟨rR,hR⟩) _ hc;rw[show u=k by omega,gQ (by omega)] at this;cases this
 ·obtain⟨ws,h1,h2,hc⟩:=hv.c;have hkw:cont ws k=false:=oS (by omega) λ e=>hp.nu.n (h2.subset e);refine(ki (b:=30) (d:=d+10) (P:=λ s σ=>((Gr C k p r x s σ/\Nu C k s σ/\(k=0->σ.R=0))/\PP C k a p q' s σ)/\Vc C a ws x s σ) hk3 (((Gr.kp hk p r x).and (PP.kp hk)).ev (Vc.ev C a ws x)) (λ s σ hA ⟨⟨⟨hg,hnu,hz⟩,hp⟩,hv⟩=>?_) hA ⟨⟨⟨hg,hp.nu,λ k0=>(hp.z k0).2⟩,hp⟩,hv.z,hc,h1,h2⟩).more (by omega);have k3:=hv.c.kd;have hperm:fG (jM C k) false 0=true:=rfl
  have e0:iR (oR (jM C k) (mF (jM C k) n) gen down r 0 x) s=iR (match lY (aB s.nodes x) (gO (C.hs k) 0) with
   | none=>U5 (jM C k) (mF (jM C k) n) r x 0 (aB s.nodes x)
   | some b=>.node b λ nb=>if nb.kind=4 then(if nb.key=C.ky k then Pp (jM C k) (mF (jM C k) n) r x 0 (aB s.nodes x) nb.val else Kc (jM C k) (mF (jM C k) n) gen r x 0 (aB s.nodes x) b)
    else if nb.kind=2/\nb.gen=gen then down b (0+1) else .stuck) s:=by
   show iR (if(aB s.nodes x).kind=6 then _ else _) s=_
   rw[if_neg (by rw[k3];decide),if_pos k3]
   rfl
  have hcw:∀w,w<2->cont (k::ws) w=(k==w||cont ws w):=λ w _=>Ez (by omega) ws w;cases hlk:lY (aB s.nodes x) (gO (C.hs k) 0) with
  | none=>obtain⟨v1,kx,nw⟩:=aCj ck hA.j.ly hv.c hk hkw hlk hcw;refine⟨kQ t3 r x ((s.nodes.length+1+1:Nat):Int) (qP (mF (jM C k) n) false 0),_,?_,((Pu.refl.push (Kb C k) 0).push (Tm (aB s.nodes x) (gO (C.hs k) 0) ((s.nodes.length+1:Nat):Int)) x).le (by omega),λ hA2 ⟨⟨⟨hg,_⟩,hp⟩,hv⟩=>Xt hk hq4 hT1 hT2 hA2 hp hg hv ⟨nw.ct,nw.pv⟩⟩;rw[e0,hlk];show iR (U5 (jM C k) (mF (jM C k) n) r x 0 (aB s.nodes x)) s=_;unfold U5;rw[if_pos hperm];show iR (if(K4 _ _ _ _ (gO (C.hs k) 0) ((s.nodes.length+1:Nat):Int)).isSome=true then _ else _) (s.push (Kb C k) 0)=_;rw[if_pos v1];show iR (kQ t3 r x (((s.push (Kb C k) 0).nodes.length+1:Nat):Int) _) _=_;rw[eV]
  | some b=>
   obtain⟨x2,hx2,hne,hcx,hsl,sx⟩:=aFD hv.c hk hkw hlk;have r4:r=4:=by
    rcases hg.h with⟨r4,_⟩|⟨⟨rR,hR⟩,k1,hm,hz,_⟩;·exact r4
    ·exfalso;have c1:=(hA.j.mR hR).2.2.2.set (by rw[<- rR,hm];exact hz);rw[<- rR,hm] at c1;have x0:x2=0:=by omega
     subst x0;rw[hv.c.eq c1 (by decide),Ab hA.j.nd (hA.j.vi hR) (hA.j.u0 (hA.j.vi hR))] at hcx;cases hcx
   have g1:gen=1:=hg4 r4;obtain⟨hdk,s1,hs1,hl1,v1,kx,nw⟩:=aCe ck hA.j.ly hA.j.l4 hv.c hk hx2 hne hcx hsl sx hlk hcw;have hl24:=aAN (jM C k) s b 1 1;have pu:Pu C k (0+(dL (jM C k) s b 1 1).length) s s1 σ:=by rw[<- hs1];exact Pu.refl.list
   refine⟨kQ t3 r x ((s1.nodes.length+1+1:Nat):Int) (qP (mF (jM C k) n) false 0),_,?_,((pu.push (dC 1) (s1.nodes.length:Int)).push (Kn (aB s.nodes x) (gO (C.hs k) 0) ((s1.nodes.length+1:Nat):Int)) x).le (by omega),λ hA2 ⟨⟨⟨hg,_⟩,hp⟩,hv⟩=>Xt hk hq4 hT1 hT2 hA2 hp hg hv ⟨nw.ct,nw.pv⟩⟩;rw[e0,hlk];show iR (if(aB s.nodes b).kind=4 then(if(aB s.nodes b).key=C.ky k then _ else Kc (jM C k) (mF (jM C k) n) gen r x 0 (aB s.nodes x) b) else _) s=_;rw[if_pos sx.k,if_neg (by rw[sx.y];exact ck.d hk hx2 hne)];unfold Kc;rw[if_pos hperm,g1];show iR (yD (jM C k) b 1 1 _) s=_;rw[R5 hdk,hs1,<- hl1];show iR (if(Jn _ _ _ _ (gO (C.hs k) 0) ((s1.nodes.length+1:Nat):Int)).isSome=true then _ else _) (s1.push (dC 1) (s1.nodes.length:Int))=_;rw[if_pos v1];show iR (kQ t3 r x (((s1.push (dC 1) (s1.nodes.length:Int)).nodes.length+1:Nat):Int) _) _=_;rw[eV]
 ·exfalso;have k1:k=1:=by have:k≠0:=λ k0=>hx.R (hp.z k0).2;omega
  rcases(hst rfl).h with⟨k0,_⟩|⟨h6,_⟩
  ·omega
  ·obtain⟨u,q1,q2,q3,_⟩:=hA.j.fld (by rw[h6];exact hx.p) hx.w;have u1:u=1:=by have:=hA.j.u0 (hA.j.vi hx.R);have:u≠0:=λ e=>q2 (by rw[e];exact this);omega
   have:=hp.nu.m 4 (.inl rfl) _ q3;rw[k1,u1,gQ (by decide)] at this;cases this
theorem Mk(ck:Q2 C)(hk:k<2):∀(e n:Nat) (p q':Bool) (s:Mm) (σ:Gs) (a0:Nat),(if p=true then 0 else 1)+(if q'=true then 0 else 1)<=e->e<n->At C B k s σ->PP C k a p q' s σ->fY C B k (QU k) a0 (35*(e+1)) (mF (jM C k) n) s σ
 | 0,n,p,q',s,σ,a0,he,hn,h,hp=>by
  obtain⟨n,rfl⟩:∃n',n=n'+1:=⟨n-1,by omega⟩
  refine sq (d:=0) ck hk (λ e=>?_) (λ e=>?_) h hp
  ·rw[e] at he;simp at he
  ·rw[e] at he;simp at he
 | e+1,n,p,q',s,σ,a0,he,hn,h,hp=>by
  obtain⟨n,rfl⟩:∃n',n=n'+1:=⟨n-1,by omega⟩
  refine sq (d:=35*(e+1)) ck hk (λ e1 s σ h hp=>?_) (λ e1 s σ h hp=>?_) h hp
  ·exact Mk ck hk e n true q' s σ 64 E1e (by omega) h hp
  ·exact Mk ck hk e n p true s σ 64 E1e (by omega) h hp
end
end
section
section
variable{C:KP}{B d a0 b c j:Nat}{s s1 s2:Mm}{σ τ υ:Gs}{r x y v w m q i e:Int}{f:Bool}{P:Mm->Gs->Prop}{Q:Rs->Mm->Gs->Prop}{T:Tr}
theorem X5(j1:J C s σ)(g:sY C s j σ s1 τ):σ.kl<=τ.kl:=by
 cases tC j1 g with
 | same e h1 hR ha hk=>omega
 | arm v' e d z m hs hR ha hk=>omega
 | inst v' h0 e e1 d z h1 hR ha hk=>omega
 | kill v' hj h3 e e1 d z z1 h1 hR ha hk=>rw[hk];split<;>omega
 | yes v' e e1 d z z1 h1 h0 hR a0 ha hk=>omega
 | comp v' e d z e1 h1 hR ha hk=>omega
structure PC(C:KP)(f:Bool)(c:Nat)(s:Mm)(σ:Gs):Prop where
 z:aL s.cs 3=4/\σ.R=0
 i:0∈σ.us
 st:f=true->∃x,St C 0 x s σ
 kl:c<=σ.kl
theorem PC.kp(f:Bool)(c:Nat):nQ C 0 (PC C f c):=λ j s σ s1 τ hj j1 qq g h=>⟨Y5 C j s σ s1 τ hj j1 qq g h.z,qq.u.subset h.i,λ e=>by obtain⟨x,hx⟩:=h.st e;exact⟨x,St.kp (by decide) x j s σ s1 τ hj j1 qq g hx⟩,Nat.le_trans h.kl (X5 j1 g)⟩
structure Gc(C:KP)(f:Bool)(x:Int)(s:Mm)(σ:Gs):Prop where
 h:St C 0 x s σ∨(f=false/\((cN s 4=x/\eT s x=0/\Rg s x)∨∃y,St C 0 y s σ))
theorem Gc.kp(f:Bool)(x:Int):nQ C 0 (Gc C f x):=λ j s σ s1 τ hj j1 qq g h=>by
 have ev:∀y,St C 0 y s σ->St C 0 y s1 τ:=λ y hy=>St.kp (by decide) y j s σ s1 τ hj j1 qq g hy;rcases h.h with h2|⟨h2,⟨h3,h4,h5⟩|⟨y,h3⟩⟩
 ·exact⟨.inl (ev _ h2)⟩
 ·refine⟨.inr ⟨h2,?_⟩⟩;rcases mQ (r:=4) j1 qq g (.inl rfl) with e|⟨ws,hw,z,hj2,hu,c2,p2⟩|⟨e,hR,f,p2,w⟩;·exact .inl ⟨e.trans h3,qq.k.z x h5 h4,h5.le qq.k.le⟩
  ·refine .inr ⟨cN s1 4,⟨.inr ⟨rfl,⟨_,c2.kx qq.k,?_⟩,λ e1=>(by cases e1)⟩⟩⟩;rw[show 1-0=j by omega];exact gQ (by omega) _
  ·rw[h3,h4] at p2;exact absurd p2.symm (eA w.r)
 ·exact⟨.inr ⟨h2,.inr ⟨y,ev _ h3⟩⟩⟩
structure Pv0(C:KP)(v e:Int)(s:Mm)(σ:Gs):Prop where
 z:aL s.cs 3=4/\σ.R=0
 d:tI s v
 ex:(aB s.nodes v).exp=e
 s0:fH s v=0
 u:Unt C s v
theorem Pv0.kp(v e:Int):nQ C 0 (Pv0 C v e):=λ j s σ s1 τ hj j1 qq g h=>by
 have n4:∀{v:Int},tI s v->aL s.cs 3=v->False:=λ dd e=>by have:=dd.k;rw[<- e,h.z.1,j1.k4] at this;cases this
 refine⟨Y5 C j s σ s1 τ hj j1 qq g h.z,h.d.kx qq.k,by rw[qq.k.nd v h.d.r.b];exact h.ex,?_,h.u.kx qq.k h.d.r.b ?_⟩
 ·cases tC j1 g with
  | same e h1 hR ha hk=>exact(h1 v h.d.r).trans h.s0
  | arm v' e d z m hs hR ha hk=>exact(n4 d e).elim
  | inst v' h0 e e1 d z h1 hR ha hk=>exact absurd h0 hj
  | kill v' hj' h3 e e1 d z z1 h1 hR ha hk=>exact(n4 d e).elim
  | yes v' e e1 d z z1 h1 h0 hR a0 ha hk=>exact(n4 d e).elim
  | comp v' e d z e1 h1 hR ha hk=>exact(n4 d e).elim
 ·cases yA j1 g with
  | same e _=>exact(e _ h.d.n).1
  | put r' q' ws hr' z hj hu c p e o e2 hs=>
   refine o _ h.d.n λ e3=>?_;rcases hr' with⟨e4,_⟩|⟨_,e4,_⟩
   ·exact h.d.n4 j1 (e3.trans e4)
   ·exact e4 h.z.2
  | mU r' y u hr' p y0' hu hn c e o e2 hs=>exact e2 _ h.d.n
  | fail y' f' hR' p k w e o e2 hs=>exact e2 _ h.d.n
  | back y' f' hR' p w e o e2 hs=>exact absurd h.z.2 hR'
structure Ov(v e:Int)(c:Nat)(s:Mm)(σ:Gs):Prop where
 hv:Hv v s σ
 ex:(aB s.nodes v).exp=e
 kl:c<=σ.kl
 cc:σ.R=0->aL s.cs 3=v∨aL s.cs 3=4
 two:fH s v=2->σ.R=0/\(c+1<=σ.kl∨cN s 4≠e)
theorem Ov.kp(v e:Int)(c:Nat):nQ C 0 (Ov v e c):=λ j s σ s1 τ hj j1 qq g h=>by
 have hv:=Hv.ev C v j s σ s1 τ j1 qq g h.hv;have hkl:=X5 j1 g
 have is_v:∀{v':Int},tI s v'->aL s.cs 3=v'->fH s v'=0->v'=v/\σ.R=0:=λ dd e z=>by
  have hR:σ.R=0:=by
   rcases j1.W2 e dd with⟨_,h1,_⟩|⟨h1,_⟩|⟨h1,_⟩;·exact h1
   ·rw[z] at h1;cases h1
   ·rw[z] at h1;cases h1
  refine⟨?_,hR⟩;rcases h.cc hR with h1|h1;·exact e.symm.trans h1
  ·have:=dd.k;rw[<- e,h1,j1.k4] at this;cases this
 have m4:σ.R=0->cN s 4≠e->cN s1 4≠e:=λ hR h4=>by
  rcases mQ (r:=4) j1 qq g (.inl rfl) with e5|⟨ws,hw,z,hj2,hu,c2,p2⟩|⟨_,hR',_⟩;·rw[e5];exact h4
  ·intro e7;rw[e7,<- h.ex,h.hv.d.z] at p2;exact eA j1.m4.rg.1 p2.symm
  ·exact absurd hR hR'
 have old:fH s1 v=fH s v->τ.R=σ.R->fH s1 v=2->τ.R=0/\(c+1<=τ.kl∨cN s1 4≠e):=λ e1 e2 e3=>by obtain⟨h1,h2⟩:=h.two (e1.symm.trans e3);exact⟨e2.trans h1,h2.imp (λ h=>by omega) (m4 h1)⟩
 refine⟨hv,by rw[qq.k.nd v h.hv.d.r.b];exact h.ex,Nat.le_trans h.kl hkl,?_,?_⟩
 ·cases tC j1 g with
  | same e h1 hR ha hk=>rw[e,hR];exact h.cc
  | arm v' e d z m hs hR ha hk=>rw[hs,hR];exact h.cc
  | inst v' h0 e e1 d z h1 hR ha hk=>exact absurd h0 hj
  | kill v' hj' h3 e e1 d z z1 h1 hR ha hk=>rw[e1,hR,<- e];exact h.cc
  | yes v' e e1 d z z1 h1 h0 hR a0 ha hk=>exact λ e=>absurd (hR.symm.trans e) (eA d.n)
  | comp v' e d z e1 h1 hR ha hk=>
   rw[e1,hR];intro hR0;rcases h.cc hR0 with h5|h5
   ·have:v'=v:=e.symm.trans h5;subst this;rcases j1.W2 e d with⟨h6,_⟩|⟨h6,_⟩|⟨_,h7,_⟩
    ·exact absurd h6 z
    ·rw[if_neg (by rw[h6];decide)];exact .inr rfl
    ·exact absurd (h7.symm.trans hR0) (eA d.n)
   ·have:=d.k;rw[<- e,h5,j1.k4] at this;cases this
 ·cases tC j1 g with
  | same e h1 hR ha hk=>exact old (h1 v h.hv.d.r) hR
  | arm v' e d z m hs hR ha hk=>exact old (by rw[hs]) hR
  | inst v' h0 e e1 d z h1 hR ha hk=>exact absurd h0 hj
  | kill v' hj' h3 e e1 d z z1 h1 hR ha hk=>
   obtain⟨ev,hR0⟩:=is_v d e z;refine λ _=>⟨hR.trans hR0,?_⟩;rw[hk];by_cases j3:j=3;·refine .inr (m4 hR0 ?_);have:=h3 j3;rw[ev,h.ex] at this;exact this
   ·rw[if_neg j3];exact .inl (by have:=h.kl;omega)
  | yes v' e e1 d z z1 h1 h0 hR a0 ha hk=>obtain⟨ev,hR0⟩:=is_v d e z;subst ev;intro e2;rw[z1] at e2;cases e2
  | comp v' e d z e1 h1 hR ha hk=>exact old (h1 v h.hv.d.r) hR
def QC(r:Rs)(_:Mm)(σ:Gs):Prop:=r=dW true 0/\2∈σ.us
theorem QC.ev(C:KP)(r:Rs):Ev C (QC r):=λ j s σ s1 τ j1 q g h=>⟨h.1,q.u.subset h.2⟩
theorem Ly.me(ly:Ly s)(v:Nv)(x:Int):aL (s.push v x).cs 3=aL s.cs 3:=C3 (k:=v.kind) (cs:=s.cs) (i:=x) (c:=3) (by have:=ly.c;omega)
theorem Pu.gen{k:Nat}(h:Pu C k b s s2 σ):Pu C k (b+1) s ⟨s2.nodes,s2.cs,s2.gen+1,s2.pv⟩ σ:=⟨.step h.r rfl (.gen _ (by omega)),Nat.le_succ_of_le h.n,Nat.le_succ_of_le h.l,by have:=h.g;show s2.gen+1<=_;omega⟩
theorem Qj(c:Nat):VC (mM cQ c) 0:=G3 L8 c
theorem I7(hr:Rg s m)(e:aB s.nodes m=mM cQ c):Ct C s m (cont []):=by
 have hlk:∀k:Nat,k<64->lY (aB s.nodes m) (k:Int)=none:=λ k hk=>by rw[e,(Qj c).lk hk];unfold Ti;rw[if_neg (by simp)]
 refine⟨hr,⟨0,by rw[e];exact Qj c⟩,λ u hu=>⟨hr,by omega,.inl ⟨by rw[e];rfl,by omega,.inl ⟨?_,rfl⟩⟩⟩,λ _ k hk b hb=>?_⟩;·rw[oX (by omega)];exact hlk _ (mI _ _)
 ·rw[hlk k hk] at hb;cases hb
theorem St.same(h:St C 0 x s σ)(k:Kx s s1)(e:cN s1 4=cN s 4):St C 0 x s1 σ:=⟨h.h.imp_right λ⟨h1,⟨c,h2,h3⟩,h4⟩=>⟨e.trans h1,⟨c,h2.kx k,h3⟩,λ e=>(by cases e)⟩⟩
theorem Gc.same(h:Gc C f x s σ)(k:Kx s s1)(e:cN s1 4=cN s 4):Gc C f x s1 σ:=⟨h.h.imp (λ h=>h.same k e) λ⟨h1,h2⟩=>⟨h1,h2.imp (λ⟨h3,h4,h5⟩=>⟨e.trans h3,k.z x h5 h4,h5.le k.le⟩) λ⟨y,h⟩=>⟨y,h.same k e⟩⟩⟩
theorem aAk(h:At C B 0 s σ)(hm:Rg s m)(hz:eT s m=0)(h4:aL s.cs 3=4/\σ.R=0) :
  Pv0 C ((s.nodes.length+1+1+1:Nat):Int) m (((⟨(s.push cQ 0).nodes,(s.push cQ 0).cs,(s.push cQ 0).gen+1,(s.push cQ 0).pv⟩:Mm).push (dC (s.gen+1)) ((s.nodes.length+1:Nat):Int)).push (oP 4 m ((s.nodes.length+1+1:Nat):Int)) 0) σ:=by
 have ly:=h.j.ly;have gn:=h.j.gn;have x1:=ly.W6 cQ 0;have ly1:=ly.push cQ 0;have l1:=eV s cQ 0;have e1:=gW s cQ 0;have p1:eT (s.push cQ 0) ((s.nodes.length+1:Nat):Int)=0:=wF (.inl rfl);have c1:aL (s.push cQ 0).cs 3=aL s.cs 3:=ly.me _ _;generalize s.push cQ 0=sa at x1 ly1 l1 e1 p1 c1 ⊢;have xg:Kx sa ⟨sa.nodes,sa.cs,sa.gen+1,sa.pv⟩:=vZ rfl rfl (λ _ _ e=>e) λ _ _ _ _ _=>rfl;have lyg:Ly ⟨sa.nodes,sa.cs,sa.gen+1,sa.pv⟩:=ly1.up rfl rfl;have pg:eT ⟨sa.nodes,sa.cs,sa.gen+1,sa.pv⟩ ((s.nodes.length+1:Nat):Int)=0:=p1;have eg:aB (⟨sa.nodes,sa.cs,sa.gen+1,sa.pv⟩:Mm).nodes ((s.nodes.length+1:Nat):Int)=mM cQ s.cs.length:=e1;have lg:(⟨sa.nodes,sa.cs,sa.gen+1,sa.pv⟩:Mm).nodes.length=s.nodes.length+1:=l1;have cg:aL (⟨sa.nodes,sa.cs,sa.gen+1,sa.pv⟩:Mm).cs 3=aL s.cs 3:=c1;generalize (⟨sa.nodes,sa.cs,sa.gen+1,sa.pv⟩:Mm)=sb at xg lyg pg eg lg cg ⊢;have x2:=lyg.W6 (dC (s.gen+1)) ((s.nodes.length+1:Nat):Int);have ly2:=lyg.push (dC (s.gen+1)) ((s.nodes.length+1:Nat):Int);have l2:=eV sb (dC (s.gen+1)) ((s.nodes.length+1:Nat):Int);have e2:=gW sb (dC (s.gen+1)) ((s.nodes.length+1:Nat):Int);have m2:cN (sb.push (dC (s.gen+1)) ((s.nodes.length+1:Nat):Int)) ((sb.nodes.length+1:Nat):Int)=((s.nodes.length+1:Nat):Int):=Mr rfl;have c2:aL (sb.push (dC (s.gen+1)) ((s.nodes.length+1:Nat):Int)).cs 3=aL sb.cs 3:=lyg.me _ _;rw[lg] at l2 e2 m2;generalize sb.push (dC (s.gen+1)) ((s.nodes.length+1:Nat):Int)=sc at x2 ly2 l2 e2 m2 c2 ⊢;have x3:=ly2.W6 (oP 4 m ((s.nodes.length+1+1:Nat):Int)) 0;have ly3:=ly2.push (oP 4 m ((s.nodes.length+1+1:Nat):Int)) 0;have l3:=eV sc (oP 4 m ((s.nodes.length+1+1:Nat):Int)) 0;have e3:=gW sc (oP 4 m ((s.nodes.length+1+1:Nat):Int)) 0;have s3:fH (sc.push (oP 4 m ((s.nodes.length+1+1:Nat):Int)) 0) ((sc.nodes.length+1:Nat):Int)=0:=aAL rfl;have c3:aL (sc.push (oP 4 m ((s.nodes.length+1+1:Nat):Int)) 0).cs 3=aL sc.cs 3:=ly2.me _ _;have m3:=(ly2.jA (oP 4 m ((s.nodes.length+1+1:Nat):Int)) 0 (r:=((s.nodes.length+1+1:Nat):Int)) ⟨by omega,by omega⟩).1;rw[l2] at l3 e3 s3;have ei:=x3.nd ((s.nodes.length+1+1:Nat):Int) (by omega);rw[e2] at ei;generalize sc.push (oP 4 m ((s.nodes.length+1+1:Nat):Int)) 0=sd at x3 ly3 l3 e3 s3 c3 m3 ei ⊢;have xx:Kx s sd:=((x1.trans xg).trans x2).trans x3;have x23:=x2.trans x3;have en:(aB sd.nodes ((s.nodes.length+1+1+1:Nat):Int)).new=((s.nodes.length+1+1:Nat):Int):=by rw[e3];rfl
 have ee:(aB sd.nodes ((s.nodes.length+1+1+1:Nat):Int)).exp=m:=by rw[e3];rfl
 have emn:cN sd ((s.nodes.length+1+1:Nat):Int)=((s.nodes.length+1:Nat):Int):=m3.trans m2;have ec:aB sd.nodes ((s.nodes.length+1:Nat):Int)=mM cQ s.cs.length:=(x23.nd _ (by omega)).trans eg;refine⟨⟨by rw[c3,c2,cg];exact h4.1,h4.2⟩,⟨⟨by omega,by omega⟩,by rw[e3];rfl,by rw[e3];rfl,by rw[ee];exact hm.le xx.le,by rw[ee];exact xx.z m hm hz,by rw[en];exact⟨by omega,by omega⟩,by rw[en,ei];rfl,?_⟩,ee,s3,⟨?_,?_⟩⟩
 ·rw[en,ei];show s.gen+1≠1;omega
 ·rw[en,emn];exact I7 ⟨by omega,by omega⟩ ec
 ·rw[en,emn];exact x23.z _ ⟨by omega,by omega⟩ pg
abbrev rdB(K:Bool->Tr)(v:Int):Tr:=.qG 3 4 v λ b=>if b=true then oB t3 v (.node v λ nd=>.load nd.status λ s'=>lM t3 v s' λ _=>K (s'==1)) else K false
abbrev fh(s:Mm):Mm:=(⟨(s.push cQ 0).nodes,(s.push cQ 0).cs,(s.push cQ 0).gen+1,(s.push cQ 0).pv⟩:Mm).push (dC (s.gen+1)) ((s.nodes.length+1:Nat):Int)
theorem ya(K:Bool->Tr)(m:Int)(s:Mm):iR (.alloc cQ 0 λ c=>.gen λ g=>.alloc (dC g) c λ i=>uE t3 4 m i K) s=iR (rdB K ((s.nodes.length+1+1+1:Nat):Int)) ((fh s).push (oP 4 m ((s.nodes.length+1+1:Nat):Int)) 0):=by
 have hn1:(s.push cQ 0).nodes.length=s.nodes.length+1:=eV ..;have hn2:(fh s).nodes.length=s.nodes.length+1+1:=by rw[eV];exact congrArg (· + 1) hn1
 have e1:iR (.alloc cQ 0 λ c=>.gen λ g=>.alloc (dC g) c λ i=>uE t3 4 m i K) s=iR (rdB K (((fh s).nodes.length+1:Nat):Int)) ((fh s).push (oP 4 m (((s.push cQ 0).nodes.length+1:Nat):Int)) 0):=rfl;rw[e1,hn2,hn1]
theorem Xh{n:Nat}(hT1:f=false->∀s σ,At C B 0 s σ->PC C true c s σ->fY C B 0 QC 64 d (jB t3 n) s σ)(hT2:∀s σ,At C B 0 s σ->PC C f (c+1) s σ->fY C B 0 QC 64 d (jB t3 n) s σ)
  (h:At C B 0 s σ) (hp:PC C f c s σ):fY C B 0 QC a0 (d+40) (jB t3 (n+1)) s σ:=by
 have dsc4:∀{s:Mm} {σ:Gs} {v:Int},At C B 0 s σ->aL s.cs 3=4->aL s.cs 3=v->tI s v->False:=λ hA e4 e dd=>by
  have:=dd.k;rw[<- e,e4,hA.j.k4] at this;cases this
 refine O6 (E:=True) (d:=d+25) (a:=[]) (P:=PC C f c) (λ _ _ _ _ _=>trivial) (by decide) (PC.kp f c) (λ _ s σ _ h=>h.z.1) (λ s σ _ _=>List.nil_suffix) (λ r s σ h hp hr _=>?_) h hp
 have r4:r=4:=by
  rcases hr.h with⟨h1,_⟩|⟨⟨_,h1⟩,_⟩
  ·exact h1
  ·exact absurd hp.z.2 h1
 subst r4;refine E4 (d:=d+15) (a:=[]) (P:=PC C f c) (PX:=λ _ x s σ=>PC C f c s σ/\Gc C f x s σ) (by decide) (PC.kp f c) (λ _ x=>(PC.kp f c).and (Gc.kp f x)) (λ s σ _ _=>⟨.inl ⟨rfl,List.nil_suffix⟩⟩) (λ s σ hA hp=>?_) (λ _ x s σ hA ⟨hp,_⟩ v e dd _=>(dsc4 hA hp.z.1 e dd).elim) (λ b x s σ hA ⟨hp,hg⟩ hv=>?_) (λ x y f s σ hA ⟨hp,_⟩ _ hx=>absurd hp.z.2 hx.R) h hp
 ·refine⟨σ,.refl,λ pz=>⟨hp,⟨?_⟩⟩,λ pz=>⟨hp,⟨?_⟩⟩⟩
  ·cases hf:f
   ·exact .inr ⟨rfl,.inl ⟨rfl,pz,hA.j.m4.rg.1⟩⟩
   ·obtain⟨x,hx⟩:=hp.st hf
    rcases hx.h with⟨_,hR⟩|⟨h1,h2⟩
    ·exact absurd hp.z.2 hR
    ·rw[h1];exact .inl ⟨.inr ⟨h1,h2⟩⟩
  ·have hnew:=hA.j.new hp.z.2;obtain⟨u,hu,hn,hc⟩:=hA.j.m4.aCy (λ q=>q hp.z.2) pz
   rw[hnew] at hn;have u0:u≠0:=λ e=>hn (by rw[e];exact hp.i);refine .inl ⟨.inr ⟨rfl,⟨_,hc,?_⟩,λ e=>(by cases e)⟩⟩;rw[show 1-0=u by omega];exact gQ (by omega) _
 ·refine(ki (k:=0) (b:=4) (d:=d+15) (P:=λ s σ=>(PC C f c s σ/\Gc C f x s σ)/\Vm C [] x s σ) (by decide) (((PC.kp f c).and (Gc.kp f x)).ev (Vm.ev C [] x)) (λ s σ hA ⟨⟨hp,hg⟩,hv⟩=>?_) hA ⟨⟨hp,hg⟩,hv⟩).more (by omega);have hpv:=aAk hA hv.rg hv.z hp.z;have pu:=((((Pu.refl (C:=C) (k:=0) (s:=s) (σ:=σ)).push cQ 0).gen.push (dC (s.gen+1)) ((s.nodes.length+1:Nat):Int)).push (oP 4 x ((s.nodes.length+1+1:Nat):Int)) 0).le (e:=4) (by omega);have e0:=ya (λ ok=>if ok=true then .done (dW true 0) else jB t3 n) x s;refine⟨_,_,e0,pu,λ hA2 ⟨⟨hp2,hg2⟩,_⟩=>?_⟩;clear e0 pu;change Pv0 C _ x ((fh s).push (oP 4 x ((s.nodes.length+1+1:Nat):Int)) 0) σ at hpv;generalize ((s.nodes.length+1+1+1:Nat):Int)=v at hpv ⊢;generalize (fh s).push (oP 4 x ((s.nodes.length+1+1:Nat):Int)) 0=s2 at hpv hA2 hp2 hg2 ⊢;refine Vj (d:=d+14) λ s' σ' fu=>?_;have hA:At C B 0 s' σ':=.fm fu;obtain⟨hpv,hp,hg⟩:=fu.eH hA2 ((Pv0.kp v x).and ((PC.kp f c).and (Gc.kp f x))) ⟨hpv,hp2,hg2⟩
  have ly:=hA.j.ly;have g1:=sY.inst (C:=C) (j:=0) (s:=s') (σ:=σ') v rfl hp.z.2 hp.z.1 hpv.d hpv.s0 hpv.u hp.i;have st:zI C 0 0 1 s' σ' (iB s' 3 4 v) σ':=.iB (.inl rfl) g1 (by omega);refine⟨σ',st,?_⟩;have hA3:=st.at_ hA;have kx:Kx s' (iB s' 3 4 v):=aCx ly hp.z.1;have e3:=λ t ht=>vF (n:=v) ly hp.z.1 (t:=t) ht;have eB:Ic s'.cs 3 4=true:=Zp hp.z.1 (by decide) (by have:=ly.c;omega);rw[eB,if_pos rfl];have hd3:=hpv.d.kx kx;have hv3:Hv v (iB s' 3 4 v) σ':=⟨hd3,.inl ⟨(e3 v hpv.d.r).2.2.trans hpv.s0,yH ly hp.z.1⟩⟩
  have ho3:Ov v x c (iB s' 3 4 v) σ':=⟨hv3,hpv.ex,hp.kl,λ _=>.inl (yH ly hp.z.1),λ e2=>by
   rw[(e3 v hpv.d.r).2.2,hpv.s0] at e2;cases e2⟩
  have hg3:Gc C f x (iB s' 3 4 v) σ':=hg.same kx (e3 4 hA.j.sF).1;have hi3:0∈σ'.us:=hp.i;have hI:Ev C λ(_:Mm) σ=>0∈σ.us:=λ j s σ s1 τ j1 q g h=>q.u.subset h;have hK:=((Ov.kp (C:=C) v x c).and (Gc.kp f x)).ev hI;refine Ll (k:=0) (d:=d+3) (P:=λ s σ=>(Ov v x c s σ/\Gc C f x s σ)/\0∈σ.us) (by decide) hK (λ _ s σ hA ⟨⟨ho,_⟩,_⟩ v' c3 dd z=>?_) (λ s σ hA hh hn=>?_) hA3 ⟨⟨ho3,hg3⟩,hi3⟩ hv3
  ·have hR:σ.R=0:=by
    rcases hA.j.W2 c3 dd with⟨_,h1,_⟩|⟨h1,_⟩|⟨h1,_⟩
    ·exact h1
    ·rw[z] at h1;cases h1
    ·rw[z] at h1;cases h1
   rcases ho.cc hR with h1|h1
   ·exact c3.symm.trans h1
   ·exact(dsc4 hA h1 c3 dd).elim
  ·refine rz (d:=d+2) (P:=λ s σ=>((Ov v x c s σ/\Gc C f x s σ)/\0∈σ.us)/\Hn v s σ) (hK.ev (Hn.ev C v)) hn.hv.d.r (λ s σ hA ⟨hh,hn⟩=>?_) hA ⟨hh,hn⟩;refine(Mt (k:=0) (d:=d) (P:=λ s σ=>(Ov v x c s σ/\Gc C f x s σ)/\0∈σ.us) (K:=λ _=>(λ ok:Bool=>if ok=true then Tr.done (dW true 0) else jB t3 n) (fH s v==1)) (by decide) hK (λ s2 σ2 hA ⟨⟨ho,hg⟩,hi⟩ hd h3=>?_) hA hh (hn.hv.dw hn.n)).mono (by omega);rcases hd.h with⟨h1,h2,h4⟩|⟨h1,h2⟩
   ·rw[h1,beq_self_eq_true];have hR:σ2.R≠0:=by rw[h4,h2];exact eA hd.d.n
    exact M7 λ s' σ' f=>⟨rfl,(f.r.to hA.j).u.subset (hA.j.vi hR)⟩
   ·rw[h1]
    show fY C B 0 QC 64 d (jB t3 n) s2 σ2
    obtain⟨hR,h5⟩:=ho.two (hd.e.trans h1)
    have z4:aL s2.cs 3=4/\σ2.R=0:=⟨(ho.cc hR).resolve_left h3,hR⟩;rcases h5 with h5|h5
    ·refine hT2 s2 σ2 hA ⟨z4,hi,λ e=>?_,h5⟩;rcases hg.h with h6|⟨h6,_⟩
     ·exact⟨_,h6⟩
     ·rw[e] at h6;cases h6
    ·rcases hg.h with h6|⟨h6,⟨h7,_⟩|h7⟩
     ·rcases h6.h with⟨_,h8⟩|⟨h8,_⟩
      ·exact absurd hR h8
      ·exact absurd h8 h5
     ·exact absurd h7 h5
     ·exact hT1 h6 s2 σ2 hA ⟨z4,hi,λ _=>h7,ho.kl⟩
theorem C5:∀(e n:Nat) (f:Bool) (c:Nat) (s:Mm) (σ:Gs) (a0:Nat),2*(B-c)+(if f=true then 0 else 1)<=e->c<=B->e<n->At C B 0 s σ->PC C f c s σ->fY C B 0 QC a0 (40*(e+1)) (jB t3 n) s σ
 | 0,n,f,c,s,σ,a0,he,hc,hn,h,hp=>by
  obtain⟨n,rfl⟩:∃n',n=n'+1:=⟨n-1,by omega⟩
  refine Xh (d:=0) (λ e=>?_) (λ s σ h hp=>?_) h hp
  ·rw[e] at he;simp at he
  ·have h1:=hp.kl;have h2:=h.b rfl;omega
 | e+1,n,f,c,s,σ,a0,he,hc,hn,h,hp=>by
  obtain⟨n,rfl⟩:∃n',n=n'+1:=⟨n-1,by omega⟩
  refine Xh (d:=40*(e+1)) (λ e1 s σ h hp=>?_) (λ s σ h hp=>?_) h hp
  ·exact C5 e n true c s σ 64 E1e hc (by omega) h hp
  ·have h1:=hp.kl;have h2:=h.b rfl;exact C5 e n f (c+1) s σ 64 (by split at he<;>split<;>omega) (by omega) (by omega) h hp
end
end
end Go.Proofs.YthblobahelfefaaGreatDoor
