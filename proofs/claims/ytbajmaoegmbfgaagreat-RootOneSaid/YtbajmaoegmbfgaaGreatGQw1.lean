/- Merged. -/
import Derived.Test.YtbajmaoegmbfgaaGreatGKx8
import Derived.Test.YtbajmaoegmbfgaaGreatGWo2
import Derived.Test.YtbajmaoegmbfgaaGreatWo4
set_option linter.unusedSimpArgs false
set_option linter.unusedVariables false
namespace Go.Proofs.YtbajmaoegmbfgaaGreat
open Go Go.RowKit Go.Ct
section
section
variable{H:ByteArray->Nat}{σ τ υ:Kw}
structure vj(H:ByteArray->Nat)(t:Tr)(σ:Kw)(c:Cl)(h n:Nat):Prop where
 le:n<=1000
 xt:XT (XF H c h) t n σ
 ok:bU σ c.t
 hl:h<18446744073709551616
 ha:H c.key=h
 ro:c.kind=8∨c.kind=9∨c.kind=12∨c.kind=4->c.t.ro=false
def QM(H:ByteArray->Nat)(rs:List Tr)(σ:Kw):Prop:=∀i,(σ.nd i).kind=2->aZ σ (σ.ce (σ.nd i).main)∨∃t∈rs,∃n,XT (X0 H (vf i (σ.ce (σ.nd i).main))) t n σ
def QR(H:ByteArray->Nat)(rs:List Tr)(σ:Kw):Prop:=∀c:Int,1<=c->c<=σ.cl->σ.ct c=.root->(σ.nd (σ.ce c)).kind=2∨∃t∈rs,∃n,XT (X0 H (OkR c (σ.ce c))) t n σ
theorem XT.up{X:Xp}(hb:X.b=true)(hQ:∀r,X.Q r σ->X.Q r υ)(i0:Inv X.H σ)(i1:Inv X.H υ)(l:Le σ υ){t:Tr}{n:Nat}(ha:cS t=true)(h:XT X t n σ):X.E σ∨XT X t n υ:=by
 have hg:∀τ,Gg X υ τ->Gg X σ τ:=λ τ g=>⟨l.trans i0 i1 g.le,g.inv,λ e=>by rw[hb] at e;cases e⟩
 cases t with
 | done r =>
  rcases h with h|h
  ·exact .inl h
  ·exact .inr (.inr (hQ r h))
 | load c k =>
  rcases h with h|⟨m,e,h⟩
  ·exact .inl h
  ·exact .inr (.inr ⟨m,e,λ τ g=>h τ (hg τ g)⟩)
 | iQ c o v k =>
  rcases h with h|⟨m,e,h⟩
  ·exact .inl h
  ·exact .inr (.inr ⟨m,e,λ τ g=>h τ (hg τ g)⟩)
 | alloc n i k=>cases ha
 | cell i k=>cases ha
 | gen k=>cases ha
 | node r k=>cases ha
 | stuck=>cases ha
theorem vj.up{t:Tr}{c:Cl}{h n:Nat}(i0:Inv H σ)(i1:Inv H υ)(l:Le σ υ)(ha:cS t=true)(k:vj H t σ c h n):vj H t υ c h n :=
 ⟨k.le,(XT.up (X:=XF H c h) rfl (λ r hq=>hq.up l) i0 i1 l ha k.xt).resolve_left id,k.ok.up l,k.hl,k.ha,k.ro⟩
theorem vv{G:Kw->Prop}{t:Tr}{n:Nat}(i0:Inv H σ)(i1:Inv H υ)(l:Le σ υ)(ha:cS t=true)(h:XT (X0 H G) t n σ):G σ∨XT (X0 H G) t n υ:=XT.up (X:=X0 H G) (σ:=σ) (υ:=υ) rfl (λ _ h=>h) i0 i1 l ha h
theorem Sg{i:Int}(h:vf i (σ.ce (σ.nd i).main) σ):aZ σ (σ.ce (σ.nd i).main):=h.resolve_left λ h=>h rfl
theorem Rn(i0:Inv H σ){i:Int}(hk:(σ.nd i).kind=2):bZ (σ.nd (σ.ce (σ.nd i).main)):=(rD.fk (i:=i) (w:=σ.way i) (g:=(σ.nd i).gen) i0 ⟨⟨hk,rfl⟩,rfl⟩).1
theorem xr{t t':Tr}{rs:List Tr}(i0:Inv H σ)(i1:Inv H υ)(l:Le σ υ)(hrs:∀u∈rs,cS u=true)(hq:QM H (t::rs) σ)
  (hX:∀G n,XT (X0 H G) t n σ->G σ∨∃n',XT (X0 H G) t' n' υ)
  (hch:∀i,(σ.nd i).kind=2->υ.ce (σ.nd i).main≠σ.ce (σ.nd i).main->aZ υ (υ.ce (σ.nd i).main)∨∃n,XT (X0 H (vf i (υ.ce (σ.nd i).main))) t' n υ)
  (hnew:∀i,(υ.nd i).kind=2->(σ.len:Int)<i->aZ υ (υ.ce (υ.nd i).main)):QM H (t'::rs) υ:=λ i hk=>by
 by_cases hi:i<=σ.len
 ·have en:=l.nd hi
  rw[en] at hk ⊢
  by_cases hs:υ.ce (σ.nd i).main=σ.ce (σ.nd i).main
  ·rw[hs]
   have hmk:=Rn i0 hk
   have hup:aZ σ (σ.ce (σ.nd i).main)->aZ υ (σ.ce (σ.nd i).main):=λ h=>aZ.up i0 hmk h l
   rcases hq i hk with h|⟨u,hu,n,h⟩
   ·exact .inl (hup h)
   ·rcases List.mem_cons.1 hu with e|hu
    ·subst e
     rcases hX _ n h with h|⟨n',h⟩
     ·exact .inl (hup (Sg h))
     ·exact .inr ⟨t',List.mem_cons_self ..,n',h⟩
    ·rcases vv i0 i1 l (hrs u hu) h with h|h
     ·exact .inl (hup (Sg h))
     ·exact .inr ⟨u,List.mem_cons_of_mem _ hu,n,h⟩
  ·rcases hch i hk hs with h|⟨n,h⟩
   ·exact .inl h
   ·exact .inr ⟨t',List.mem_cons_self ..,n,h⟩
 ·exact .inl (hnew i hk (by omega))
theorem yt{t t':Tr}{rs:List Tr}(i0:Inv H σ)(i1:Inv H υ)(l:Le σ υ)(hrs:∀u∈rs,cS u=true)(hq:QR H (t::rs) σ)
  (hX:∀G n,XT (X0 H G) t n σ->G σ∨∃n',XT (X0 H G) t' n' υ)
  (hch:∀c:Int,1<=c->c<=σ.cl->σ.ct c=.root->υ.ce c≠σ.ce c->(υ.nd (υ.ce c)).kind=2∨∃n,XT (X0 H (OkR c (υ.ce c))) t' n υ)
  (hnew:∀c:Int,υ.ct c=.root->(σ.cl:Int)<c->c<=υ.cl->(υ.nd (υ.ce c)).kind=2):QR H (t'::rs) υ:=λ c h1 h2 hc=>by
 by_cases hi:c<=σ.cl
 ·rw[l.ct c hi] at hc
  by_cases hs:υ.ce c=σ.ce c
  ·rw[hs]
   rcases hq c h1 hi hc with h|⟨u,hu,n,h⟩
   ·exact .inl (by rw[l.nd (jO h)];exact h)
   ·rcases List.mem_cons.1 hu with e|hu
    ·subst e
     rcases hX _ n h with h|⟨n',h⟩
     ·exact absurd rfl h
     ·exact .inr ⟨t',List.mem_cons_self ..,n',h⟩
    ·rcases vv i0 i1 l (hrs u hu) h with h|h
     ·exact absurd rfl h
     ·exact .inr ⟨u,List.mem_cons_of_mem _ hu,n,h⟩
  ·rcases hch c h1 hi hc hs with h|⟨n,h⟩
   ·exact .inl h
   ·exact .inr ⟨t',List.mem_cons_self ..,n,h⟩
 ·exact .inl (hnew c hc (by omega) h2)
structure Nc(H:ByteArray->Nat)(s:Mm)(ts:List dO)(rs:List Tr)(t:Tr)(σ:Kw):Prop where
 mm:σ.mm=s
 inv:Inv H σ
 ts:∀t∈ts,bU σ t
 op:∃c h n,vj H t σ c h n
 os:∀u∈rs,cS u=true/\∃c h n,vj H u σ c h n
 qm:QM H (t::rs) σ
 qr:QR H (t::rs) σ
theorem Nc.go{s s':Mm}{ts:List dO}{rs:List Tr}{t t':Tr}(w:Nc H s ts rs t σ)(l:Le σ υ)(i1:Inv H υ)(e:υ.mm=s')(hop:∃c h n,vj H t' υ c h n)
  (hX:∀G n,XT (X0 H G) t n σ->G σ∨∃n',XT (X0 H G) t' n' υ)
  (h1:∀i,(σ.nd i).kind=2->υ.ce (σ.nd i).main≠σ.ce (σ.nd i).main->aZ υ (υ.ce (σ.nd i).main)∨∃n,XT (X0 H (vf i (υ.ce (σ.nd i).main))) t' n υ)
  (h2:∀i,(υ.nd i).kind=2->(σ.len:Int)<i->aZ υ (υ.ce (υ.nd i).main))
  (h3:∀c:Int,1<=c->c<=σ.cl->σ.ct c=.root->υ.ce c≠σ.ce c->(υ.nd (υ.ce c)).kind=2∨∃n,XT (X0 H (OkR c (υ.ce c))) t' n υ)
  (h4:∀c:Int,υ.ct c=.root->(σ.cl:Int)<c->c<=υ.cl->(υ.nd (υ.ce c)).kind=2):∃υ,Le σ υ/\Nc H s' ts rs t' υ :=
 ⟨υ,l,e,i1,λ t ht=>(w.ts t ht).up l,hop,λ u hu=>by
  obtain⟨ha,c,h,n,k⟩:=w.os u hu
  exact⟨ha,c,h,n,k.up w.inv i1 l ha⟩,xr w.inv i1 l (λ u hu=>(w.os u hu).1) w.qm hX h1 h2,yt w.inv i1 l (λ u hu=>(w.os u hu).1) w.qr hX h3 h4⟩
theorem mi{x:Int}{υ:Kw}(e:υ.mm=⟨σ.mm.nodes,σ.mm.cs++[x],σ.mm.gen⟩):H7 σ υ/\υ.cl=σ.cl+1/\υ.ce ((σ.cl+1:Nat):Int)=x:=by
 refine⟨λ y hy=>?_,by simp[Kw.cl,e],?_⟩
 ·show aY υ.mm.cs y=_
  rw[e]
  exact nJ hy
 ·show aY υ.mm.cs _=_
  rw[e]
  exact I5 _ _
theorem n8{nd:Nv}{x:Int}(i1:Inv H υ)(e:υ.mm=σ.mm.push nd x){c:Int}(h1:(σ.cl:Int)<c)(h2:c<=υ.cl):υ.ct c≠.root:=λ hr=>by
 have a:=Fm e
 have hcl:υ.mm.cs=eU nd.kind σ.mm.cs x:=by rw[e];rfl
 have hk:nd.kind=2∨nd.kind=3∨nd.kind=5∨nd.kind=6∨nd.kind=8:=Classical.byContradiction λ hk=>by
  have:υ.cl=σ.cl:=by simp only[Kw.cl,hcl];unfold eU;rw[if_neg hk]
  omega
 have hcl2:υ.cl=σ.cl+1:=by simp only[Kw.cl,hcl];unfold eU;rw[if_pos hk];simp
 have hc:c=((σ.cl+1:Nat):Int):=by omega
 have ek:(υ.nd ((σ.len+1:Nat):Int)).kind=nd.kind:=by rw[a.nd];rfl
 rw[hc] at hr
 rcases hk with k|k|k|k|k
 ·have h:=(i1.dR (r:=((σ.len+1:Nat):Int)) (by rw[ek];exact k)).2.2
  rw[a.nd,show(cX nd σ.cl).main=((σ.cl+1:Nat):Int) from if_pos k,hr] at h;cases h
 ·have h:=(i1.jE (m:=((σ.len+1:Nat):Int)) (.inl (by rw[ek];exact k))).2.2
  rw[a.nd,show(cX nd σ.cl).prev=((σ.cl+1:Nat):Int) from if_pos (.inl k),hr] at h;cases h
 ·have h:=(i1.jE (m:=((σ.len+1:Nat):Int)) (.inr (.inl (by rw[ek];exact k)))).2.2
  rw[a.nd,show(cX nd σ.cl).prev=((σ.cl+1:Nat):Int) from if_pos (.inr (.inl k)),hr] at h;cases h
 ·have h:=(i1.jE (m:=((σ.len+1:Nat):Int)) (.inr (.inr (by rw[ek];exact k)))).2.2
  rw[a.nd,show(cX nd σ.cl).prev=((σ.cl+1:Nat):Int) from if_pos (.inr (.inr k)),hr] at h;cases h
 ·have h:=(i1.Zh (r:=((σ.len+1:Nat):Int)) (by rw[ek];exact k)).2.2
  rw[a.nd,show(cX nd σ.cl).status=((σ.cl+1:Nat):Int) from if_pos k,hr] at h;cases h
theorem Og{x:List Int}{y:Int}(e:υ.mm=⟨σ.mm.nodes,x,y⟩):υ.len=σ.len:=by simp only[Kw.len,e]
theorem Nc.sp{s s':Mm}{ts:List dO}{rs:List Tr}{t t':Tr}(w:Nc H s ts rs t σ)(h:Sp t s t' s'):∃υ,Le σ υ/\Nc H s' ts rs t' υ:=by
 have em:=w.mm
 subst em
 obtain⟨c,hh,n,k⟩:=w.op
 have noN:∀{υ:Kw},υ.len=σ.len->∀i,(υ.nd i).kind=2->(σ.len:Int)<i->aZ υ (υ.ce (υ.nd i).main):=λ{υ} el i hk hi=>by
  have:=jO hk
  omega
 cases h with
 | alloc nd i kt s =>
  obtain⟨hst,_,hx⟩:=k.xt.resolve_left id
  obtain⟨υ,l,i1,e,hx⟩:=hx rfl
  have f:H7 σ υ:=jm e
  refine w.go l i1 e ⟨c,hh,n,k.le,hx,k.ok.up l,k.hl,k.ha,k.ro⟩ (λ G n h=>?_) (λ i' hk hne=>absurd (f _ (w.inv.dR hk).2.1) hne) (λ i' hk hi=>?_) (λ c' _ h2 _ hne=>absurd (f _ h2) hne) (λ c' hc h1 h2=>absurd hc (n8 i1 e h1 h2))
  ·rcases h with h|⟨_,h,_⟩
   ·exact .inl h
   ·exact .inr ⟨n,h rfl υ l i1 e⟩
  ·have a:=Fm e
   have hlen:υ.len=σ.len+1:=by simp only[Kw.len,e,Mm.push,List.length_append,List.length_cons,List.length_nil]
   have hi':i'=((σ.len+1:Nat):Int):=by have:=jO hk;omega
   subst hi'
   have hk2:nd.kind=2:=by rw[a.nd] at hk;exact hk
   have hmk:=Rn i1 hk
   rw[a.main hk2] at hmk ⊢
   have hin:=gT hmk
   have hle:i<=σ.len:=by
    have:i≠((σ.len+1:Nat):Int):=λ e2=>by rw[e2] at hmk;unfold bZ at hmk;omega
    have h3:i<=((υ.len:Nat):Int):=hin.2
    rw[hlen] at h3
    omega
   have hs:=hst hk2
   unfold aZ at hs ⊢
   rw[l.nd hle,f _ (w.inv.nd i hin.1 hle).bd.prev]
   exact hs
 | cell i kt s =>
  obtain⟨hst,_,hx⟩:=k.xt.resolve_left id
  obtain⟨υ,l,i1,e,hx⟩:=hx rfl
  obtain⟨f,f2,f3⟩:=mi e
  refine w.go l i1 e ⟨c,hh,n,k.le,hx,k.ok.up l,k.hl,k.ha,k.ro⟩ (λ G n h=>?_) (λ i' hk hne=>absurd (f _ (w.inv.dR hk).2.1) hne) (noN (Og e)) (λ c' _ h2 _ hne=>absurd (f _ h2) hne) (λ c' hc h1 h2=>?_)
  ·rcases h with h|⟨_,h,_⟩
   ·exact .inl h
   ·exact .inr ⟨n,h rfl υ l i1 e⟩
  ·have hc':c'=((σ.cl+1:Nat):Int):=by omega
   rw[hc',f3,l.nd (jO hst)]
   exact hst
 | gen kt s =>
  obtain⟨_,hx⟩:=k.xt.resolve_left id
  obtain⟨υ,l,i1,e,hx⟩:=hx rfl
  have f:H7 σ υ:=K3 e
  refine w.go l i1 e ⟨c,hh,n,k.le,hx,k.ok.up l,k.hl,k.ha,k.ro⟩ (λ G n h=>?_) (λ i' hk hne=>absurd (f _ (w.inv.dR hk).2.1) hne) (noN (Og e)) (λ c' _ h2 _ hne=>absurd (f _ h2) hne) (λ c' hc h1 h2=>?_)
  ·rcases h with h|⟨h,_⟩
   ·exact .inl h
   ·exact .inr ⟨n,h rfl υ l i1 e⟩
  ·have:υ.cl=σ.cl:=by simp only[Kw.cl,e]
   omega
 | node r kt s hr =>
  obtain⟨_,hx⟩:=k.xt.resolve_left id
  refine w.go (Le.refl σ) w.inv rfl ⟨c,hh,n,k.le,hx,k.ok,k.hl,k.ha,k.ro⟩ (λ G n h=>?_) (λ _ _ hne=>absurd rfl hne) (noN rfl) (λ _ _ _ _ hne=>absurd rfl hne) (λ c' hc h1 h2=>by omega)
  rcases h with h|⟨_,h⟩
  ·exact .inl h
  ·exact .inr ⟨n,h⟩
theorem Nc.lp{s s':Mm}{ts:List dO}{rs:List Tr}{t t':Tr}(w:Nc H s ts rs t σ)(h:Lp t s t' s'):∃υ,Le σ υ/\Nc H s' ts rs t' υ:=by
 have em:=w.mm
 subst em
 obtain⟨c,hh,n,k⟩:=w.op
 have noN:∀{υ:Kw},υ.len=σ.len->∀i,(υ.nd i).kind=2->(σ.len:Int)<i->aZ υ (υ.ce (υ.nd i).main):=λ{υ} el i hk hi=>by
  have:=jO hk
  omega
 have hbud:∀{m:Nat} {P:Prop},(n=m+1∨(P/\m=(XF H c hh).C))->m<=1000:=λ{m P} h=>by
  rcases h with h|⟨_,h⟩
  ·have:=k.le;omega
  ·rw[h];exact Nat.le_refl _
 cases h with
 | load cc kt s =>
  obtain⟨m,e,hx⟩:=k.xt.resolve_left id
  refine w.go (Le.refl σ) w.inv rfl ⟨c,hh,m,hbud e,hx σ (Gg.refl w.inv),k.ok,k.hl,k.ha,k.ro⟩ (λ G n h=>?_) (λ _ _ hne=>absurd rfl hne) (noN rfl) (λ _ _ _ _ hne=>absurd rfl hne) (λ c' hc h1 h2=>by omega)
  rcases h with h|⟨m,_,h⟩
  ·exact .inl h
  ·exact .inr ⟨m,h σ (Gg.refl (X:=X0 H G) w.inv)⟩
 | iQ cc o v kt s b hb =>
  obtain⟨m,e,hx⟩:=k.xt.resolve_left id
  have hx:=hx σ (Gg.refl w.inv)
  have hm:m<=1000:=by have:=k.le;omega
  cases b with
  | true =>
   have hc:fI σ.mm.cs cc o:=hb.1 rfl
   obtain⟨l,i1,hR,hx⟩:=hx.1 hc
   have hce:∀x,(σ.set cc o v).ce x=if x=cc then v else σ.ce x:=λ x=>eR hc x
   refine w.go l i1 rfl ⟨c,hh,m,hm,hx,k.ok.up l,k.hl,k.ha,k.ro⟩ (λ G n h=>?_) (λ i hk hne=>?_) (noN rfl) (λ c' h1 h2 hr hne=>?_) (λ c' hc h1 h2=>?_)
   ·rcases h with h|⟨m,_,h⟩
    ·exact .inl h
    ·exact .inr ⟨m,((h σ (Gg.refl (X:=X0 H G) w.inv)).1 hc).2.2.2⟩
   ·have ec:(σ.nd i).main=cc:=Classical.byContradiction λ h=>hne (by rw[hce,if_neg h])
    have hct:=(w.inv.dR hk).2.2
    rw[ec] at hct ⊢
    rw[hce,if_pos rfl]
    exact hR.1 i hct
   ·have ec:c'=cc:=Classical.byContradiction λ h=>hne (by rw[hce,if_neg h])
    subst ec
    rw[hce,if_pos rfl]
    exact hR.2 hr
   ·have:(σ.set cc o v).cl=σ.cl:=eZ
    omega
  | false =>
   have hn:¬fI σ.mm.cs cc o:=λ h=>by have:=hb.2 h;cases this
   have es:eC σ.mm.cs cc o v=σ.mm.cs:=rB hn
   rw[es]
   refine w.go (Le.refl σ) w.inv rfl ⟨c,hh,m,hm,hx.2 hn,k.ok,k.hl,k.ha,k.ro⟩ (λ G n h=>?_) (λ _ _ hne=>absurd rfl hne) (noN rfl) (λ _ _ _ _ hne=>absurd rfl hne) (λ c' hc h1 h2=>by omega)
   rcases h with h|⟨m,_,h⟩
   ·exact .inl h
   ·exact .inr ⟨m,(h σ (Gg.refl (X:=X0 H G) w.inv)).2 hn⟩
theorem Nc.rc{s s':Mm}{ts:List dO}{rs:List Tr}{t t':Tr}{j:Nat}(h:Rc j t s t' s'):∀{σ:Kw},Nc H s ts rs t σ->∃υ,Le σ υ/\Nc H s' ts rs t' υ:=by
 induction h with
 | refl t s=>intro σ w;exact⟨σ,Le.refl σ,w⟩
 | gW _ hs ih =>
  intro σ w
  obtain⟨υ,l1,w1⟩:=ih w
  obtain⟨ρ,l2,w2⟩:=w1.sp hs
  exact⟨ρ,l1.trans w.inv w1.inv l2,w2⟩
 | loud _ hs ih =>
  intro σ w
  obtain⟨υ,l1,w1⟩:=ih w
  obtain⟨ρ,l2,w2⟩:=w1.lp hs
  exact⟨ρ,l1.trans w.inv w1.inv l2,w2⟩
end
end
section
section
variable{H:ByteArray->Nat}{σ τ υ:Kw}
structure WQ(H:ByteArray->Nat)(s:Mm)(ts:List dO)(rs:List Tr)(σ:Kw):Prop where
 mm:σ.mm=s
 inv:Inv H σ
 ts:∀t∈ts,bU σ t
 os:∀u∈rs,cS u=true/\∃c h n,vj H u σ c h n
 qm:QM H rs σ
 qr:QR H rs σ
theorem WQ.one{s:Mm}{ts:List dO}{t:Tr}{rs:List Tr}(w:WQ H s ts (t::rs) σ):Nc H s ts rs t σ:=⟨w.mm,w.inv,w.ts,(w.os t (List.mem_cons_self ..)).2,λ u hu=>w.os u (List.mem_cons_of_mem _ hu),w.qm,w.qr⟩
theorem Nc.all{s:Mm}{ts:List dO}{t:Tr}{rs:List Tr}(ha:cS t=true)(w:Nc H s ts rs t σ):WQ H s ts (t::rs) σ:=⟨w.mm,w.inv,w.ts,λ u hu=>by
 rcases List.mem_cons.1 hu with rfl|hu
 ·exact⟨ha,w.op⟩
 ·exact w.os u hu,w.qm,w.qr⟩
theorem QM.sub{rs rs':List Tr}(h:QM H rs σ)(hs:∀t∈rs,t∈rs'):QM H rs' σ:=λ i hk=>(h i hk).imp id λ⟨t,ht,x⟩=>⟨t,hs t ht,x⟩
theorem QR.sub{rs rs':List Tr}(h:QR H rs σ)(hs:∀t∈rs,t∈rs'):QR H rs' σ:=λ i h1 h2 hk=>(h i h1 h2 hk).imp id λ⟨t,ht,x⟩=>⟨t,hs t ht,x⟩
theorem aBx(i:Inv H σ)(e:σ.mm=mm0):QM H [] σ/\QR H [] σ:=by
 have n1:σ.nd 1=fA.c:=by simp only[Kw.nd,e];rfl
 have n2:σ.nd 2=fA.c:=by simp only[Kw.nd,e];rfl
 have n3:σ.nd 3=cX (({Nd.zero with kind:=3}:Nd).c [] []) 0:=by simp only[Kw.nd,e];rfl
 have n4:σ.nd 4=cX (({Nd.zero with kind:=2,gen:=1}:Nd).c [] []) 1:=by simp only[Kw.nd,e];rfl
 have c1:σ.ce 1=0:=by simp only[Kw.ce,e];rfl
 have c2:σ.ce 2=3:=by simp only[Kw.ce,e];rfl
 have c3:σ.ce 3=4:=by simp only[Kw.ce,e];rfl
 have hl:σ.len=4:=by simp only[Kw.len,e];rfl
 have hcl:σ.cl=3:=by simp only[Kw.cl,e];rfl
 refine⟨λ i' hk=>.inl ?_,λ c h1 h2 hc=>.inl ?_⟩
 ·have hr:=eS (N:=σ.mm.nodes) (i:=i') (by rw[hk];decide)
  have hr2:i'<=4:=by have h2:i'<=(σ.len:Int):=hr.2;rw[hl] at h2;exact h2
  have:i'=1∨i'=2∨i'=3∨i'=4:=by have:=hr.1;omega
  rcases this with rfl|rfl|rfl|rfl
  ·rw[n1] at hk;exact dK (a:=1) (b:=2) hk
  ·rw[n2] at hk;exact dK (a:=1) (b:=2) hk
  ·rw[n3] at hk;exact dK (a:=3) (b:=2) hk
  ·have em:(σ.nd 4).main=2:=by rw[n4];rfl
   have ep:(σ.nd 3).prev=1:=by rw[n3];rfl
   unfold aZ
   rw[em,c2,ep]
   exact c1
 ·rw[hcl] at h2
  have k3:(σ.nd 3).kind=3:=by rw[n3];rfl
  have k4:(σ.nd 4).kind=2:=by rw[n4];rfl
  have:c=1∨c=2∨c=3:=by omega
  rcases this with rfl|rfl|rfl
  ·have:=(i.jE (m:=3) (.inl k3)).2.2
   rw[show(σ.nd 3).prev=1 by rw[n3];rfl,hc] at this
   cases this
  ·have:=(i.dR (r:=4) k4).2.2
   rw[show(σ.nd 4).main=2 by rw[n4];rfl,hc] at this
   cases this
  ·rw[c3];exact k4
theorem WR.quiet{m:Nat}{s:Mm}{ts:List dO}{rs:List Tr}(h:WR H m s ts rs):∃σ,WQ H s ts rs σ:=by
 induction h with
 | new =>
  obtain⟨υ,l,i,e,hq⟩:=WT.rc Ya rfl (U3 H) (X2 (U3 H))
  obtain⟨q1,q2⟩:=aBx i e
  refine⟨υ,e,i,λ t ht=>?_,(λ t ht=>nomatch ht),q1,q2⟩
  rw[List.mem_singleton.1 ht]
  exact hq (by decide)
 | start _ hk hr ha ih =>
  obtain⟨σ,w⟩:=ih
  have hc:=hk σ w.mm w.inv w.ts
  obtain⟨υ,l,w2⟩:=Nc.rc hr (σ:=σ) ⟨w.mm,w.inv,w.ts,⟨_,_,1000,Nat.le_refl _,xw w.inv hc _,hc.t,hc.hl,hc.ha,hc.ro⟩,w.os,w.qm.sub λ t ht=>List.mem_cons_of_mem _ ht,w.qr.sub λ t ht=>List.mem_cons_of_mem _ ht⟩
  exact⟨υ,w2.all ha⟩
 | step _ hr ha ih =>
  obtain⟨σ,w⟩:=ih
  obtain⟨υ,l,w2⟩:=Nc.rc hr w.one
  exact⟨υ,w2.all ha⟩
 | perm _ hp ih =>
  obtain⟨σ,w⟩:=ih
  exact⟨σ,w.mm,w.inv,w.ts,λ u hu=>w.os u (hp.mem_iff.2 hu),w.qm.sub λ t ht=>hp.mem_iff.1 ht,w.qr.sub λ t ht=>hp.mem_iff.1 ht⟩
 | drop _ ih =>
  obtain⟨σ,w⟩:=ih
  refine⟨σ,w.mm,w.inv,w.ts,λ u hu=>w.os u (List.mem_cons_of_mem _ hu),λ i hk=>?_,λ c h1 h2 hc=>?_⟩
  ·rcases w.qm i hk with h|⟨t,ht,n,h⟩
   ·exact .inl h
   ·rcases List.mem_cons.1 ht with rfl|ht
    ·exact .inl (Sg (h.resolve_right id))
    ·exact .inr ⟨t,ht,n,h⟩
  ·rcases w.qr c h1 h2 hc with h|⟨t,ht,n,h⟩
   ·exact .inl h
   ·rcases List.mem_cons.1 ht with rfl|ht
    ·exact absurd rfl (h.resolve_right id)
    ·exact .inr ⟨t,ht,n,h⟩
 | add _ h0 ih =>
  obtain⟨σ,w⟩:=ih
  refine⟨σ,w.mm,w.inv,λ t ht=>?_,w.os,w.qm,w.qr⟩
  rcases List.mem_append.1 ht with ht|ht
  ·exact w.ts t ht
  ·rw[List.mem_singleton.1 ht]
   obtain⟨_,c,h,n,k⟩:=w.os _ (List.mem_cons_self ..)
   exact(k.xt.resolve_left id) h0
structure QS(H:ByteArray->Nat)(s:Mm)(ts:List dO)(σ:Kw):Prop where
 mm:σ.mm=s
 inv:Inv H σ
 ts:∀t∈ts,bU σ t
 st:∀i,(σ.nd i).kind=2->aZ σ (σ.ce (σ.nd i).main)
 rt:∀c:Int,1<=c->c<=σ.cl->σ.ct c=.root->(σ.nd (σ.ce c)).kind=2
theorem WR.rest{m:Nat}{s:Mm}{ts:List dO}(h:WR H m s ts []):∃σ,QS H s ts σ:=by
 obtain⟨σ,w⟩:=h.quiet
 exact⟨σ,w.mm,w.inv,w.ts,λ i hk=>(w.qm i hk).resolve_right (λ⟨t,ht,_⟩=>nomatch ht),λ c h1 h2 hc=>(w.qr c h1 h2 hc).resolve_right (λ⟨t,ht,_⟩=>nomatch ht)⟩
def Sol(H:ByteArray->Nat)(t:Tr)(σ:Kw)(n:Nat):Prop:=XT (na H) t n σ∨∃c h m,vj H t σ c h m/\m+7000<=n
def Fin(H:ByteArray->Nat)(t:Tr)(s:Mm)(n:Nat):Prop:=∃σ,σ.mm=s/\Inv H σ/\Sol H t σ n
theorem Fin.sp{t t':Tr}{s s':Mm}{n:Nat}(h:Fin H t s n)(hs:Sp t s t' s'):Fin H t' s' n:=by
 obtain⟨σ,rfl,i0,h⟩:=h
 cases hs with
 | alloc nd i k s =>
  rcases h with h|⟨c,hh,m,k,hm⟩
  ·obtain⟨_,_,hx⟩:=h.resolve_left id
   obtain⟨υ,l,i1,e,hx⟩:=hx rfl
   exact⟨υ,e,i1,.inl hx⟩
  ·obtain⟨_,_,hx⟩:=k.xt.resolve_left id
   obtain⟨υ,l,i1,e,hx⟩:=hx rfl
   exact⟨υ,e,i1,.inr ⟨c,hh,m,⟨k.le,hx,k.ok.up l,k.hl,k.ha,k.ro⟩,hm⟩⟩
 | cell i k s =>
  rcases h with h|⟨c,hh,m,k,hm⟩
  ·obtain⟨_,_,hx⟩:=h.resolve_left id
   obtain⟨υ,l,i1,e,hx⟩:=hx rfl
   exact⟨υ,e,i1,.inl hx⟩
  ·obtain⟨_,_,hx⟩:=k.xt.resolve_left id
   obtain⟨υ,l,i1,e,hx⟩:=hx rfl
   exact⟨υ,e,i1,.inr ⟨c,hh,m,⟨k.le,hx,k.ok.up l,k.hl,k.ha,k.ro⟩,hm⟩⟩
 | gen k s =>
  rcases h with h|⟨c,hh,m,k,hm⟩
  ·obtain⟨_,hx⟩:=h.resolve_left id
   obtain⟨υ,l,i1,e,hx⟩:=hx rfl
   exact⟨υ,e,i1,.inl hx⟩
  ·obtain⟨_,hx⟩:=k.xt.resolve_left id
   obtain⟨υ,l,i1,e,hx⟩:=hx rfl
   exact⟨υ,e,i1,.inr ⟨c,hh,m,⟨k.le,hx,k.ok.up l,k.hl,k.ha,k.ro⟩,hm⟩⟩
 | node r k s hr =>
  rcases h with h|⟨c,hh,m,k,hm⟩
  ·exact⟨σ,rfl,i0,.inl (h.resolve_left id).2⟩
  ·exact⟨σ,rfl,i0,.inr ⟨c,hh,m,⟨k.le,(k.xt.resolve_left id).2,k.ok,k.hl,k.ha,k.ro⟩,hm⟩⟩
theorem XT.lp1{t t':Tr}{s':Mm}{n:Nat}(i0:Inv H σ)(h:XT (na H) t n σ)(hs:Lp t σ.mm t' s'):∃m,n=m+1/\Fin H t' s' m:=by
 cases hs with
 | load cc kt s =>
  obtain⟨m,e,hx⟩:=h.resolve_left id
  rcases e with e|e
  ·exact⟨m,e,σ,rfl,i0,.inl (hx σ (Gg.refl (X:=na H) i0))⟩
  ·exact e.1.elim
 | iQ cc o v kt s b hb =>
  obtain⟨m,e,hx⟩:=h.resolve_left id
  have hx:=hx σ (Gg.refl (X:=na H) i0)
  refine⟨m,e,?_⟩
  cases b with
  | true =>
   obtain⟨l,i1,hR,hx⟩:=hx.1 (hb.1 rfl)
   exact⟨_,rfl,i1,.inl hx⟩
  | false =>
   have hn:¬fI σ.mm.cs cc o:=λ h=>by have:=hb.2 h;cases this
   exact⟨σ,by rw[show eC σ.mm.cs cc o v=σ.mm.cs from rB hn],i0,.inl (hx.2 hn)⟩
theorem Fin.lp{t t':Tr}{s s':Mm}{n:Nat}(h:Fin H t s n)(hs:Lp t s t' s'):∃m,n=m+1/\Fin H t' s' m:=by
 obtain⟨σ,rfl,i0,h⟩:=h
 rcases h with h|⟨c,hh,m,k,hm⟩
 ·exact h.lp1 i0 hs
 ·have hgo:∀{m':Nat} {υ:Kw},Inv H υ->υ.mm=s'->Le σ υ->m=m'+1->XT (XF H c hh) t' m' υ->∃m,n=m+1/\Fin H t' s' m:=λ{m' υ} i1 e l em hx=>by
   have:=k.le
   exact⟨n-1,by omega,υ,e,i1,.inr ⟨c,hh,m',⟨by omega,hx,k.ok.up l,k.hl,k.ha,k.ro⟩,by omega⟩⟩
  have hs':=hs
  cases hs with
  | load cc kt s =>
   obtain⟨m',e,hx⟩:=k.xt.resolve_left id
   rcases e with e|⟨ea,_⟩
   ·exact hgo i0 rfl (Le.refl σ) e (hx σ (Gg.refl (X:=XF H c hh) i0))
   ·obtain⟨q,eq,hf⟩:=(aBW i0 k.ok k.hl k.ha k.ro ea).lp1 i0 hs'
    obtain⟨υ,e1,i1,hf⟩:=hf
    refine⟨n-1,by omega,υ,e1,i1,?_⟩
    rcases hf with hf|⟨c2,h2,m2,k2,hm2⟩
    ·exact .inl (hf.mono (by omega))
    ·exact .inr ⟨c2,h2,m2,k2,by omega⟩
  | iQ cc o v kt s b hb =>
   obtain⟨m',e,hx⟩:=k.xt.resolve_left id
   have hx:=hx σ (Gg.refl (X:=XF H c hh) i0)
   cases b with
   | true =>
    obtain⟨l,i1,hR,hx⟩:=hx.1 (hb.1 rfl)
    exact hgo i1 rfl l e hx
   | false =>
    have hn:¬fI σ.mm.cs cc o:=λ h=>by have:=hb.2 h;cases this
    exact hgo i0 (by rw[show eC σ.mm.cs cc o v=σ.mm.cs from rB hn]) (Le.refl σ) e (hx.2 hn)
theorem Fin.rc{t t':Tr}{s s':Mm}{j:Nat}(h:Rc j t s t' s'):∀{n:Nat},Fin H t s n->∃m,n=m+j/\Fin H t' s' m:=by
 induction h with
 | refl t s=>intro n h;exact⟨n,rfl,h⟩
 | gW _ hs ih =>
  intro n h
  obtain⟨m,e,h⟩:=ih h
  exact⟨m,e,h.sp hs⟩
 | loud _ hs ih =>
  intro n h
  obtain⟨m,e,h⟩:=ih h
  obtain⟨m',e',h⟩:=h.lp hs
  exact⟨m',by omega,h⟩
theorem Fin.pos{t:Tr}{s:Mm}{n:Nat}(h:Fin H t s n){a:Ac}(ha:t.acc=some a):1<=n:=by
 have hl:∃t' s',Lp t s t' s':=by
  cases t<;>simp only[Tr.acc,reduceCtorEq] at ha
  ·exact⟨_,_,Lp.load _ _ _⟩
  ·rename_i c o v k
   by_cases hc:fI s.cs c o
   ·exact⟨_,_,Lp.iQ c o v k s true ⟨λ _=>hc,λ _=>rfl⟩⟩
   ·exact⟨_,_,Lp.iQ c o v k s false ⟨λ h=>(nomatch h),λ h=>absurd h hc⟩⟩
 obtain⟨t',s',hl⟩:=hl
 obtain⟨m,e,_⟩:=h.lp hl
 omega
theorem WR.fin{m:Nat}{s:Mm}{ts:List dO}{t:Tr}{rs:List Tr}(h:WR H m s ts (t::rs)):Fin H t s 8000:=by
 obtain⟨σ,w⟩:=h.quiet
 obtain⟨_,c,hh,n,k⟩:=w.os t (List.mem_cons_self ..)
 have:=k.le
 exact⟨σ,w.mm,w.inv,.inr ⟨c,hh,n,k,by omega⟩⟩
end
end
section
structure WI(H:ByteArray->Nat)(s:Mm)(ts:List dO)(σ:Kw):Prop where
 mm:σ.mm=s
 inv:Inv H σ
 ts:∀t∈ts,bU σ t
theorem WR.inv{H:ByteArray->Nat}{m:Nat}{s:Mm}{ts:List dO}{rs:List Tr}(h:WR H m s ts rs):∃σ,WI H s ts σ:=by
 obtain⟨σ,w⟩:=h.quiet
 exact⟨σ,w.mm,w.inv,w.ts⟩
end
end Go.Proofs.YtbajmaoegmbfgaaGreat
namespace Go.Ct
open Go Go.RowKit
section
section
variable{α:Type}
theorem nQ.pre:∀(es r:List α),nQ (es++r) (List.replicate es.length 0) es r
 | [],r=>.nil
 | a::es,r=>.cons .head (nQ.pre es r)
end
theorem Ek{P:Program}{f:FuncId}{vs:Array Value}{X:Type}{V:X->Value}{φ:X->Prop}{w0 w:World}{M:List Nat}{H hs H':List (Nat×Obj)}{A A0 F:Fr}{O os O':List Ow}{hs':X->List (Nat×Obj)}{os':X->List Ow}{Fc:X->Fr}
  (h:SF w0 M H A F O w) (pH:H.Perm (hs++H')) (pO:O.Perm (os++O')) (hA:bI A F O' A0)
  (hc:SF w (Ks hs os) hs A0 [] os w->Calls P f vs w λ e w'=>∃x,e=.returned (V x)/\φ x/\SF w (Ks hs os) (hs' x) [] (Fc x) (os' x) w') :
  Calls P f vs w λ e w'=>∃x,e=.returned (V x)/\φ x/\SF w0 M (hs' x++H') A (Fc x++F) (os' x++O') w':=by
 have h1:=h.perm pH.symm pO.symm
 refine(hc (h1.rY (nQ.pre hs H') (nQ.pre os O') hA)).mono λ e w' ⟨x,e1,hx,hw⟩=>⟨x,e1,hx,?_⟩
 have kperm:∀(a c:List (Nat×Obj)) (b d:List Ow),(Ks (a++c) (b++d)).Perm (Ks a b++Ks c d):=λ a c b d=>by
  unfold Ks
  rw[List.map_append,List.flatMap_append]
  simp only[List.append_assoc]
  refine List.Perm.append_left _ ?_
  rw[<- List.append_assoc,<- List.append_assoc]
  exact List.Perm.append_right _ List.perm_append_comm
 have nd0:=(kperm hs H' os O').nodup_iff.1 h1.dis
 have disj:∀b∈Ks hs os,b∉Ks H' O':=λ b hb hm=>(List.nodup_append.1 nd0).2.2 b hb b hm rfl
 exact h1.Y2 (D:=Ks hs os) (Hm:=[]) (Hc:=hs' x) (H1:=H') (Fc:=Fc x) (Om:=[]) (Oc:=os' x) (O1:=O') hw (λ b hb=>(kperm hs H' os O').mem_iff.2 (List.mem_append_left _ hb))
  (λ p hpm=>.inr ⟨List.mem_append_right _ hpm,λ hm=>disj _ hm (eF.2 (.inl ⟨p,hpm,rfl⟩))⟩)
  (λ o ho=>.inr ⟨List.mem_append_right _ ho,λ b hb hm=>disj _ hm (eF.2 (.inr ⟨o,ho,hb⟩))⟩)
  (List.nodup_append.1 nd0).2.1
end
end Go.Ct
namespace Go.Proofs.YtbajmaoegmbfgaaGreat
open Go Go.RowKit Go.Ct
section
structure EX where
 b:Nat
 k:Cl
 x:XS
 dn:Bool
 rs:Rs
 R:Tr
structure Wd where
 z:XS
 ts:List dO
 pt:Option Addr
 kt:Nat
 ex:List EX
 pe:Option Addr
 ke:Nat
def F7(bm:Nat)(l:List EX):List (Nat×Obj):=l.map λ e=>(e.b,xO e.k bm e.x e.dn e.rs)
def Dj(l:List EX):List Ow:=l.flatMap λ e=>[⟨e.x.pg,aH e.x.got,e.x.kg,37,1⟩,⟨e.x.pm,aH e.x.made,e.x.km,37,1⟩,⟨e.x.pl,aH e.x.cel,e.x.kl,27,1⟩,⟨e.x.pe,aH e.x.gns,e.x.ke,3,1⟩]
def oN(l:List EX):List Nat:=l.map EX.b
abbrev wH(m bw bm:Nat)(W:Wd):List (Nat×Obj):=(bw,lV bm (m:Int) W.pt W.ts.length W.kt W.pe (oN W.ex).length W.ke)::(bm,xM W.z)::F7 bm W.ex
abbrev wO(W:Wd):List Ow:=⟨W.pt,qP W.ts,W.kt,29,2⟩::⟨W.pe,uW (oN W.ex),W.ke,74,1⟩::⟨W.z.pn,gX W.z.L,W.z.cn,47,14⟩::⟨W.z.pc,aH W.z.cs,W.z.cc,37,1⟩::Dj W.ex
def XS.wm(x z:XS):XS:={x with L:=z.L,cs:=z.cs,gen:=z.gen,acc:=z.acc,pn:=z.pn,cn:=z.cn,pc:=z.pc,cc:=z.cc}
theorem ym{x z z':XS}{N:List aU}(h:(XS.wm x z).Ok)(h':z'.Ok)(e:z'.L=z.L++N):(XS.wm x z').Ok:=by
 have hl:z.L.length<=z'.L.length:=by rw[e,List.length_append];omega
 exact⟨h'.fit,h'.nd,h'.cs,λ v hv=>by have:=h.got v hv;show v<=z'.L.length;have h2:v<=z.L.length:=this;omega,λ v hv=>by have:=h.made v hv;show v<=z'.L.length;have h2:v<=z.L.length:=this;omega,h'.two,h'.lL,h'.lc,h.lg,h.la,h.lm,h.lk,h.le,h.fr,h'.ys,h'.gen0,h.ms,h.m1⟩
theorem qf{z:XS}(h:z.Ok):(XS.new z.L z.cs z.gen z.acc z.pn z.cn z.pc z.cc).Ok :=
 ⟨h.fit,h.nd,h.cs,(λ v hv=>nomatch hv),(λ v hv=>nomatch hv),h.two,h.lL,h.lc,Nat.zero_le _,Nat.le_refl _,Nat.le_refl _,Nat.le_refl _,Nat.le_refl _,Nat.zero_le _,h.ys,h.gen0,(λ i j _ hj=>absurd hj (Nat.not_lt_zero j)),(λ v hv=>nomatch hv)⟩
theorem yo{T:Tr}{x z z':XS}{dn:Bool}{rs:Rs}{R:Tr}{N:List aU}(h:qg T (XS.wm x z) dn rs R)(h':z'.Ok)(e:z'.L=z.L++N):qg T (XS.wm x z') dn rs R:=by
 refine⟨ym h.ok h' e,?_,h.Yv⟩
 have hw:=h.wk
 show Wk (z'.L.map aU.c) T x.got x.made x.cel x.gns R
 rw[e,List.map_append]
 exact Wk.mono hw
structure EOk(m C:Nat)(z:XS)(e:EX):Prop where
 i:qg (T0 e.k m) (XS.wm e.x z) e.dn e.rs e.R
 k:7<=e.k.kind/\e.k.kind<=12
 em:e.k.mask=(m:Int)
 ht:e.k.t.root<=9223372036854775807
 ha:e.k.a=0/\e.k.b=0/\e.k.n=0
 gl:e.x.got.length<=C
theorem EOk.wm{m C:Nat}{z z':XS}{e:EX}{N:List aU}(h:EOk m C z e)(h':z'.Ok)(he:z'.L=z.L++N):EOk m C z' e:=⟨yo h.i h' he,h.k,h.em,h.ht,h.ha,h.gl⟩
theorem Oa{T R:Tr}{x:XS}{dn:Bool}{rs:Rs}(h:qg T x dn rs R):cS R=true:=by
 rcases h.Yv with⟨_,e⟩|⟨_,e⟩
 ·rw[e];rfl
 ·cases R<;>first|rfl|(simp[Tr.acc] at e)
structure En(m B C E:Nat)(W:Wd):Prop where
 z:W.z.Ok
 sz:Sz W.z B
 ex:∀e∈W.ex,EOk m C W.z e
 t0:0<W.ts.length
 tr:(W.ts.getD 0 ⟨0,false⟩).ro=false
 tl:W.ts.length<=5
 el:W.ex.length<=E
 wr:WR (H8 m) m W.z.mm W.ts (W.ex.map EX.R)
theorem En.root{m B C E:Nat}{W:Wd}(h:En m B C E W)(hB:B<=1000000000000){t:dO}(ht:t∈W.ts):t.root<=9223372036854775807:=by
 obtain⟨σ,hi⟩:=h.wr.inv
 have h1:=(hi.ts t ht).2.1
 have h2:=h.sz.2.1
 have e:σ.cl=W.z.cs.length:=by simp only[Kw.cl,hi.mm];rfl
 omega
theorem Wh{m:Nat}{k:Cl}{ts:List dO}(hk:7<=k.kind/\k.kind<=12)(hm:m<18446744073709551616)(ht:k.t∈ts)(hky:k.key∈mV)(hro:wrK k.kind->k.t.ro=false){s:Mm}:∀σ:Kw,σ.mm=s->Inv (H8 m) σ->(∀t∈ts,bU σ t)->Tj (H8 m) σ k (mR k.key m):=λ σ _ _ h =>
 ⟨h _ ht,tT _ _,if_pos hky,hro,.inl hk⟩
section
variable{m B C E bw bm:Nat}{D:List Nat}{A:Fr}{w:World}
set_option maxHeartbeats 1000000 in
theorem qo{W:Wd}{q:Gw}{kind:Int}(steps:Nat)(hst:steps<=1048576)(hC:steps<=C)(hB:B<=100000000000)(hm:m<18446744073709551616)(hW:En m B C E W)(hE:E<=900)(hkd:7<=kind/\kind<=12)(hq:Qa kind W.ts q)(hA:∀f∈aL W.z.L,f∈A)(hs:SF w D (wH m bw bm W) A [] (wO W) w) :
  Calls Tryz.prog 67 #[.pointer (some ⟨bw,0,none⟩),.agg ⟨Qv (q.cl kind m)⟩,.int .i64 (steps:Int)] w λ e w'=>∃r:Wd×List aU,e=.returned (.tuple #[])/\(En m (B+64+128*steps) C (E+1) r.1/\r.1.z.L=W.z.L++r.2)/\SF w D (wH m bw bm r.1) [] (aL r.2) (wO r.1) w':=by
 have hwt:=hW.root (by omega) hq.mem
 have hlen:(oN W.ex).length=W.ex.length:=by simp[oN]
 have hel:=hW.el
 have htl:=hW.tl
 have:=Ek (f:=67) (H':=F7 bm W.ex) (O':=Dj W.ex) (hs:=[(bw,lV bm (m:Int) W.pt W.ts.length W.kt W.pe (oN W.ex).length W.ke),(bm,xM W.z)]) (os:=[⟨W.pt,qP W.ts,W.kt,29,2⟩,⟨W.pe,uW (oN W.ex),W.ke,74,1⟩,⟨W.z.pn,gX W.z.L,W.z.cn,47,14⟩,⟨W.z.pc,aH W.z.cs,W.z.cc,37,1⟩]) (A0:=aL W.z.L) hs (List.Perm.refl _) (List.Perm.refl _) (bI.of λ f hf=>.inr (.inl (hA f hf)))
  (λ h=>zg (k:=q.cl kind m) (m:=m) (B:=B) steps hst hB hW.sz (.inr ⟨hkd.1,hkd.2⟩) hm rfl hwt rfl rfl rfl (λ f hf=>hf) (qf hW.z) (by omega) (by omega) h)
 refine this.mono λ e w' ⟨⟨bx,y,kq⟩,e1,⟨hi,his,hk⟩,hw⟩=>?_
 replace his:y.i<=steps:=his
 replace hi:Lb (q.cl kind m) m (XS.new W.z.L W.z.cs W.z.gen W.z.acc W.z.pn W.z.cn W.z.pc W.z.cc) B y:=hi
 have hext:y.x.L=W.z.L++y.N:=hi.ext
 obtain⟨j,hrc⟩:=hi.rc
 have hstart:WR (H8 m) m y.x.mm W.ts (y.R::W.ex.map EX.R):=.start hW.wr (Wh hkd hm hq.mem hq.ky hq.ro) hrc (Oa hi.ex)
 have hszy:Sz y.x (B+64+128*steps):=by obtain⟨z1,z2,z3⟩:=hi.sz;exact⟨by omega,by omega,by omega⟩
 have hexs:∀e∈W.ex,EOk m C y.x e:=λ e he=>(hW.ex e he).wm hi.ex.ok hext
 rw[List.append_nil] at hw
 obtain⟨i,x,N,dn,rs,R⟩:=y
 cases dn with
 | true =>
  rcases hk with⟨hd,_⟩|⟨_,he,hts⟩
  ·cases hd
  ·have hR:R=.done rs:=by rcases hi.ex.Yv with⟨_,h⟩|⟨h,_⟩;exact h;cases h
   have hL:kq.ts.length<=5/\0<kq.ts.length/\(kq.ts.getD 0 ⟨0,false⟩).ro=false/\WR (H8 m) m x.mm kq.ts (W.ex.map EX.R):=by
    rcases hts with hts|⟨h0,h5,hts⟩
    ·rw[hts];exact⟨hW.tl,hW.t0,hW.tr,by subst hR;exact hstart.drop⟩
    ·refine⟨h5,by rw[hts];simp,?_,?_⟩
     ·rw[hts,jS,List.getElem?_append_left hW.t0,<- jS];exact hW.tr
     ·rw[hts]
      subst hR
      exact(hstart.add h0).drop
   refine⟨(⟨x,kq.ts,kq.pt,kq.kt,W.ex,kq.pe,kq.ke⟩,N),e1,⟨⟨hi.ex.ok,hszy,hexs,hL.2.1,hL.2.2.1,hL.1,by show W.ex.length<=E+1;omega,hL.2.2.2⟩,hext⟩,?_⟩
   have hes:kq.es=oN W.ex:=he
   dsimp only[wH,wO]
   rw[<- hes]
   exact hw.noA
 | false =>
  rcases hk with⟨_,he,hts⟩|⟨hd,_⟩
  ·have hes:oN (W.ex++[⟨bx,q.cl kind m,x,false,rs,R⟩])=kq.es:=by rw[he];simp[oN]
   refine⟨(⟨x,kq.ts,kq.pt,kq.kt,W.ex++[⟨bx,q.cl kind m,x,false,rs,R⟩],kq.pe,kq.ke⟩,N),e1,⟨⟨hi.ex.ok,hszy,λ e he=>?_,by rw[show kq.ts=W.ts from hts];exact hW.t0,by rw[show kq.ts=W.ts from hts];exact hW.tr,by rw[show kq.ts=W.ts from hts];exact hW.tl,by simp;omega,?_⟩,hext⟩,?_⟩
   ·rcases List.mem_append.1 he with he|he
    ·exact hexs e he
    ·rw[List.mem_singleton.1 he]
     exact⟨hi.ex,hkd,rfl,hwt,⟨rfl,rfl,rfl⟩,by have:=hi.gl;show x.got.length<=C;simp only at this his;omega⟩
   ·rw[show kq.ts=W.ts from hts,List.map_append]
    exact hstart.perm (List.perm_append_comm (l₁:=[R]))
   ·dsimp only[wH,wO]
    rw[hes]
    refine hw.noA.perm ?_ ?_
    ·have e2:F7 bm (W.ex++[⟨bx,q.cl kind m,x,false,rs,R⟩])=F7 bm W.ex++[(bx,xO (q.cl kind m) bm x false rs)]:=by simp[F7]
     rw[e2]
     exact(List.perm_append_comm (l₁:=(bw,_)::(bm,_)::F7 bm W.ex) (l₂:=[(bx,xO (q.cl kind m) bm x false rs)]))
    ·have e2:Dj (W.ex++[⟨bx,q.cl kind m,x,false,rs,R⟩])=Dj W.ex++xE4 x false:=by simp[Dj,xE4]
     rw[e2]
     exact(List.perm_append_comm (l₁:=_::_::_::_::Dj W.ex) (l₂:=xE4 x false))
  ·cases hd
abbrev Wd.go(W:Wd)(z:XS)(ex:List EX):Wd:=⟨z,W.ts,W.pt,W.kt,ex,W.pe,W.ke⟩
def StX(W:Wd)(i:Nat)(z:XS)(ex:List EX):Prop:=∃l1 e e' l2,W.ex=l1++e::l2/\l1.length=i/\ex=l1++e'::l2/\e'.b=e.b/\((e.dn=true/\e'=e)∨(e.dn=false/\∃j,j<=1/\(e'.dn=false->j=1)/\Rc j e.R W.z.mm e'.R z.mm))
theorem Hj{l:List EX}{i:Nat}(hi:i<l.length):∃l1 e l2,l=l1++e::l2/\l1.length=i:=by
 refine⟨l.take i,l[i],l.drop (i+1),?_,by simp;omega⟩
 rw[<- List.drop_eq_getElem_cons hi,List.take_append_drop]
theorem yh{W:Wd}{l1 l2:List EX}{e:EX}(hl:W.ex=l1++e::l2):(wH m bw bm W).Perm (xH e.k e.b bm (XS.wm e.x W.z) e.dn e.rs++((bw,lV bm (m:Int) W.pt W.ts.length W.kt W.pe (oN W.ex).length W.ke)::F7 bm (l1++l2))):=by
 have e1:F7 bm W.ex=F7 bm l1++(e.b,xO e.k bm (XS.wm e.x W.z) e.dn e.rs)::F7 bm l2:=by rw[hl];simp only[F7,List.map_append,List.map_cons];rfl
 have e2:F7 bm (l1++l2)=F7 bm l1++F7 bm l2:=by simp[F7]
 dsimp only[wH]
 rw[e1,e2]
 refine(List.Perm.swap _ _ _).trans ?_
 refine(((List.perm_middle (a:=(e.b,xO e.k bm (XS.wm e.x W.z) e.dn e.rs)) (l₁:=F7 bm l1) (l₂:=F7 bm l2)).cons _).cons _).trans ?_
 refine((List.Perm.swap _ _ _).cons _).trans ?_
 exact List.Perm.swap _ _ _
theorem aAu{W:Wd}{l1 l2:List EX}{e:EX}(hl:W.ex=l1++e::l2):(wO W).Perm (xW (XS.wm e.x W.z)++(⟨W.pt,qP W.ts,W.kt,29,2⟩::⟨W.pe,uW (oN W.ex),W.ke,74,1⟩::Dj (l1++l2))):=by
 have e1:Dj W.ex=Dj l1++(Dj [e]++Dj l2):=by rw[hl];simp[Dj]
 have e2:Dj (l1++l2)=Dj l1++Dj l2:=by simp[Dj]
 dsimp only[wO]
 rw[e1,e2]
 have hx:xW (XS.wm e.x W.z)=Dj [e]++[⟨W.z.pn,gX W.z.L,W.z.cn,47,14⟩,⟨W.z.pc,aH W.z.cs,W.z.cc,37,1⟩]:=rfl
 rw[hx]
 generalize Dj [e]=oe
 generalize Dj l1=o1
 generalize Dj l2=o2
 have p1:(o1++(oe++o2)).Perm (oe++(o1++o2)):=by
  rw[<- List.append_assoc,<- List.append_assoc]
  exact List.perm_append_comm.append_right _
 refine((((p1.cons _).cons _).cons _).cons _).trans ?_
 have p2:∀(a b c d:Ow) (l r:List Ow),(a::b::c::d::(l++r)).Perm (l++[c,d]++(a::b::r)):=λ a b c d l r=>by
  have h1:([a,b]++[c,d]++l++r).Perm (l++[c,d]++[a,b]++r):=by
   refine List.Perm.append_right r ?_
   refine List.perm_append_comm.trans ?_
   rw[List.append_assoc]
   exact List.Perm.append_left l List.perm_append_comm
  simpa using h1
 exact p2 _ _ _ _ _ _
theorem Nt{W:Wd}{i:Nat}(hi:i<W.ex.length)(hC:C<=1000000000)(hB:B<=100000000000)(hm:m<18446744073709551616)(hW:En m B C E W)(hA:∀f∈aL W.z.L,f∈A)(hs:SF w D (wH m bw bm W) A [] (wO W) w) :
  Calls Tryz.prog 68 #[.pointer (some ⟨(oN W.ex).getD i 0,0,none⟩)] w λ e w'=>∃q:XS×List EX×List aU,e=.returned (.tuple #[])/\(En m (B+128) (C+1) E (W.go q.1 q.2.1)/\q.1.L=W.z.L++q.2.2/\StX W i q.1 q.2.1)/\SF w D (wH m bw bm (W.go q.1 q.2.1)) [] (aL q.2.2) (wO (W.go q.1 q.2.1)) w':=by
 obtain⟨l1,e,l2,hl,hi1⟩:=Hj hi
 have hb:(oN W.ex).getD i 0=e.b:=by rw[hl,<- hi1];simp[oN]
 rw[hb]
 have he:=hW.ex e (by rw[hl];simp)
 have hsz:=hW.sz
 obtain⟨s1,s2,s3⟩:=hsz
 have hgl:=he.gl
 have pH:=yh (m:=m) (bw:=bw) (bm:=bm) hl
 have pO:=aAu hl
 have key:=Ek (f:=68) (A0:=aL W.z.L) hs pH pO (bI.of λ f hf=>.inr (.inl (hA f hf)))
  (λ h=>Zy (x:=XS.wm e.x W.z) (N:=e.x.got.length+1) (n:=1073741824) (m:=m) (qY e.k m (by omega)) (by omega) rfl ⟨by show W.z.L.length<=_;omega,by show W.z.cs.length<=_;omega,by show W.z.gen<=_;omega⟩ he.i (.inr he.k) (Nat.le_refl _) hm he.em he.ht (by rw[he.ha.1];exact bH _) (by rw[he.ha.2.1];exact bH _) (by rw[he.ha.2.2];exact bH _) (λ f hf=>hf) h)
 refine key.mono λ en w' ⟨⟨x',N,dn',rs'⟩,e1,hq,hw⟩=>?_
 rw[List.append_nil] at hw
 rcases hq with⟨hd,hq⟩|⟨hd,hq⟩
 ·have h1:x'=XS.wm e.x W.z:=congrArg (λ q:XS×List aU×Bool×Rs=>q.1) hq
  have h2:N=[]:=congrArg (λ q:XS×List aU×Bool×Rs=>q.2.1) hq
  have h3:dn'=true:=congrArg (λ q:XS×List aU×Bool×Rs=>q.2.2.1) hq
  have h4:rs'=e.rs:=congrArg (λ q:XS×List aU×Bool×Rs=>q.2.2.2) hq
  subst h1 h2 h3 h4
  refine⟨(W.z,W.ex,[]),e1,⟨⟨hW.z,⟨by show W.z.L.length<=_;omega,by show W.z.cs.length<=_;omega,by show W.z.gen<=_;omega⟩,λ x hx=>?_,hW.t0,hW.tr,hW.tl,hW.el,hW.wr⟩,by simp,l1,e,e,l2,hl,hi1,hl,rfl,.inl ⟨hd,rfl⟩⟩,?_⟩
  ·have:=hW.ex x hx
   exact⟨this.i,this.k,this.em,this.ht,this.ha,by have:=this.gl;omega⟩
  ·have hw2:=hw.noA.perm (H':=wH m bw bm W) (O':=wO W) (by rw[hd] at pH;exact pH) pO
   exact hw2
 ·obtain⟨R',j,h1,h2,h3,h4,h5,h6⟩:=A4.exI hq
  have hx':XS.wm x' x'=x':=rfl
  have hext:x'.L=W.z.L++N:=h5
  have hsz':Sz x' (B+128):=Jg he.i hd (qY e.k m (n:=e.x.got.length+1) (by omega)) (Nat.le_refl _) h4 h1 hW.sz
  have hwr:WR (H8 m) m x'.mm W.ts ((l1++⟨e.b,e.k,x',dn',rs',R'⟩::l2).map EX.R):=by
   have w1:=hW.wr
   rw[hl,List.map_append,List.map_cons] at w1
   have w2:=(w1.perm List.perm_middle).step h4 (Oa h3)
   rw[List.map_append,List.map_cons]
   exact w2.perm List.perm_middle.symm
  have hgl':=A4.gl hq
  have hexB:oN (l1++⟨e.b,e.k,x',dn',rs',R'⟩::l2)=oN W.ex:=by rw[hl];simp[oN]
  refine⟨(x',l1++⟨e.b,e.k,x',dn',rs',R'⟩::l2,N),e1,⟨⟨h3.ok,hsz',λ y hy=>?_,hW.t0,hW.tr,hW.tl,by have:=hW.el;rw[hl] at this;simpa using this,hwr⟩,hext,l1,e,⟨e.b,e.k,x',dn',rs',R'⟩,l2,hl,hi1,rfl,rfl,.inr ⟨hd,j,h1,h2,h4⟩⟩,?_⟩
  ·rcases List.mem_append.1 hy with hy|hy
   ·have:=(hW.ex y (by rw[hl];exact List.mem_append_left _ hy)).wm h3.ok hext
    exact⟨this.i,this.k,this.em,this.ht,this.ha,by have:=this.gl;omega⟩
   ·rcases List.mem_cons.1 hy with rfl|hy
    ·exact⟨h3,he.k,he.em,he.ht,he.ha,by show x'.got.length<=C+1;have:x'.got.length<=e.x.got.length+1:=hgl';omega⟩
    ·have:=(hW.ex y (by rw[hl];exact List.mem_append_right _ (List.mem_cons_of_mem _ hy))).wm h3.ok hext
     exact⟨this.i,this.k,this.em,this.ht,this.ha,by have:=this.gl;omega⟩
  ·rw[<- hexB] at hw
   exact hw.noA.perm (yh (W:=W.go x' (l1++⟨e.b,e.k,x',dn',rs',R'⟩::l2)) rfl) (aAu (W:=W.go x' (l1++⟨e.b,e.k,x',dn',rs',R'⟩::l2)) rfl)
theorem Zo{W:Wd}{i:Nat}(hi:i<W.ex.length)(hC:C<=1000000000)(hB:B<=100000000000)(hm:m<18446744073709551616)(hW:En m B C E W)(hA:∀f∈aL W.z.L,f∈A)(hs:SF w D (wH m bw bm W) A [] (wO W) w) :
  Calls Tryz.prog 68 #[.pointer (some ⟨(oN W.ex).getD i 0,0,none⟩)] w λ e w'=>∃r:Wd×List aU,e=.returned (.tuple #[])/\(En m (B+128) (C+1) E r.1/\r.1.ts=W.ts/\r.1.z.L=W.z.L++r.2)/\SF w D (wH m bw bm r.1) [] (aL r.2) (wO r.1) w' :=
 (Nt hi hC hB hm hW hA hs).mono λ _ _ ⟨q,e,h,hw⟩=>⟨(W.go q.1 q.2.1,q.2.2),e,⟨h.1,rfl,h.2.1⟩,hw⟩
end
end
end Go.Proofs.YtbajmaoegmbfgaaGreat
