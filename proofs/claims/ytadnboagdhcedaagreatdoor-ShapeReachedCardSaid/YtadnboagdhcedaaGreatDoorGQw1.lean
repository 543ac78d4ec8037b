/- Worlds: what is pending has somebody who settles it; every operation ends if it runs alone. -/
import Derived.Test.YtadnboagdhcedaaGreatDoorGKx7
import Derived.Test.YtadnboagdhcedaaGreatDoorGHs

set_option linter.unusedSimpArgs false
set_option linter.unusedVariables false
namespace Go.Proofs.YtadnboagdhcedaaGreatDoor
section
open Go Go.RowKit Go.Ct
section
variable{H:ByteArray->Nat}{σ τ υ:Kw}
structure og(H:ByteArray->Nat)(t:Tr)(σ:Kw)(c:Cl)(h n:Nat):Prop where
 le:n<=1000
 xt:XT (XF H c h) t n σ
 ok:bR σ c.t
 hl:h<18446744073709551616
 ha:H c.key=h
 ro:c.kind=8∨c.kind=9∨c.kind=12∨c.kind=4->c.t.ro=false
def QM(H:ByteArray->Nat)(rs:List Tr)(σ:Kw):Prop:=∀i,(σ.nd i).kind=2->aX σ (σ.ce (σ.nd i).main)∨∃t∈rs,∃n,XT (X0 H (o7 i (σ.ce (σ.nd i).main))) t n σ
def QR(H:ByteArray->Nat)(rs:List Tr)(σ:Kw):Prop:=∀c:Int,1<=c->c<=σ.cl->σ.ct c=.root->(σ.nd (σ.ce c)).kind=2∨∃t∈rs,∃n,XT (X0 H (vw c (σ.ce c))) t n σ
theorem XT.up{X:Xp}(hb:X.b=true)(hQ:∀r,X.Q r σ->X.Q r υ)(i0:Inv X.H σ)(i1:Inv X.H υ)(l:Le σ υ){t:Tr}{n:Nat}(ha:oH t=true)(h:XT X t n σ):X.E σ∨XT X t n υ:=by
 have hg:∀τ,Gg X υ τ->Gg X σ τ:=λ τ g=>⟨l.trans i0 i1 g.le,g.inv,λ e=>by rw[hb] at e;cases e⟩
 cases t with
 | done r =>
  rcases h with h|h
  ·exact .inl h
  ·exact .inr (.inr (hQ r h))
 | load c k =>
  rcases h with h|⟨m,e,h⟩
  ·exact .inl h
  ·exact .inr (.inr ⟨m,e,λ τ g=>h τ (hg τ g)⟩)
 | nV c o v k =>
  rcases h with h|⟨m,e,h⟩
  ·exact .inl h
  ·exact .inr (.inr ⟨m,e,λ τ g=>h τ (hg τ g)⟩)
 | alloc n i k=>cases ha
 | cell i k=>cases ha
 | gen k=>cases ha
 | node r k=>cases ha
 | stuck=>cases ha
theorem og.up{t:Tr}{c:Cl}{h n:Nat}(i0:Inv H σ)(i1:Inv H υ)(l:Le σ υ)(ha:oH t=true)(k:og H t σ c h n):og H t υ c h n :=
 ⟨k.le,(XT.up (X:=XF H c h) rfl (λ r hq=>hq.up l) i0 i1 l ha k.xt).resolve_left id,k.ok.up l,k.hl,k.ha,k.ro⟩
theorem o6{G:Kw->Prop}{t:Tr}{n:Nat}(i0:Inv H σ)(i1:Inv H υ)(l:Le σ υ)(ha:oH t=true)(h:XT (X0 H G) t n σ):G σ∨XT (X0 H G) t n υ:=XT.up (X:=X0 H G) (σ:=σ) (υ:=υ) rfl (λ _ h=>h) i0 i1 l ha h
theorem Pg{i:Int}(h:o7 i (σ.ce (σ.nd i).main) σ):aX σ (σ.ce (σ.nd i).main):=h.resolve_left λ h=>h rfl
theorem Yi(i0:Inv H σ){i:Int}(hk:(σ.nd i).kind=2):bU (σ.nd (σ.ce (σ.nd i).main)):=(nM.Yf (i:=i) (w:=σ.way i) (g:=(σ.nd i).gen) i0 ⟨⟨hk,rfl⟩,rfl⟩).1
theorem vc{t t':Tr}{rs:List Tr}(i0:Inv H σ)(i1:Inv H υ)(l:Le σ υ)(hrs:∀u∈rs,oH u=true)(hq:QM H (t::rs) σ)
  (hX:∀G n,XT (X0 H G) t n σ->G σ∨∃n',XT (X0 H G) t' n' υ)
  (hch:∀i,(σ.nd i).kind=2->υ.ce (σ.nd i).main≠σ.ce (σ.nd i).main->aX υ (υ.ce (σ.nd i).main)∨∃n,XT (X0 H (o7 i (υ.ce (σ.nd i).main))) t' n υ)
  (hnew:∀i,(υ.nd i).kind=2->(σ.len:Int)<i->aX υ (υ.ce (υ.nd i).main)):QM H (t'::rs) υ:=λ i hk=>by
 by_cases hi:i<=σ.len
 ·have en:=l.nd hi
  rw[en] at hk ⊢
  by_cases hs:υ.ce (σ.nd i).main=σ.ce (σ.nd i).main
  ·rw[hs]
   have hmk:=Yi i0 hk
   have hup:aX σ (σ.ce (σ.nd i).main)->aX υ (σ.ce (σ.nd i).main):=λ h=>aX.up i0 hmk h l
   rcases hq i hk with h|⟨u,hu,n,h⟩
   ·exact .inl (hup h)
   ·rcases List.mem_cons.1 hu with e|hu
    ·subst e
     rcases hX _ n h with h|⟨n',h⟩
     ·exact .inl (hup (Pg h))
     ·exact .inr ⟨t',List.mem_cons_self ..,n',h⟩
    ·rcases o6 i0 i1 l (hrs u hu) h with h|h
     ·exact .inl (hup (Pg h))
     ·exact .inr ⟨u,List.mem_cons_of_mem _ hu,n,h⟩
  ·rcases hch i hk hs with h|⟨n,h⟩
   ·exact .inl h
   ·exact .inr ⟨t',List.mem_cons_self ..,n,h⟩
 ·exact .inl (hnew i hk (by omega))
theorem rp{t t':Tr}{rs:List Tr}(i0:Inv H σ)(i1:Inv H υ)(l:Le σ υ)(hrs:∀u∈rs,oH u=true)(hq:QR H (t::rs) σ)
  (hX:∀G n,XT (X0 H G) t n σ->G σ∨∃n',XT (X0 H G) t' n' υ)
  (hch:∀c:Int,1<=c->c<=σ.cl->σ.ct c=.root->υ.ce c≠σ.ce c->(υ.nd (υ.ce c)).kind=2∨∃n,XT (X0 H (vw c (υ.ce c))) t' n υ)
  (hnew:∀c:Int,υ.ct c=.root->(σ.cl:Int)<c->c<=υ.cl->(υ.nd (υ.ce c)).kind=2):QR H (t'::rs) υ:=λ c h1 h2 hc=>by
 by_cases hi:c<=σ.cl
 ·rw[l.ct c hi] at hc
  by_cases hs:υ.ce c=σ.ce c
  ·rw[hs]
   rcases hq c h1 hi hc with h|⟨u,hu,n,h⟩
   ·exact .inl (by rw[l.nd (iO h)];exact h)
   ·rcases List.mem_cons.1 hu with e|hu
    ·subst e
     rcases hX _ n h with h|⟨n',h⟩
     ·exact absurd rfl h
     ·exact .inr ⟨t',List.mem_cons_self ..,n',h⟩
    ·rcases o6 i0 i1 l (hrs u hu) h with h|h
     ·exact absurd rfl h
     ·exact .inr ⟨u,List.mem_cons_of_mem _ hu,n,h⟩
  ·rcases hch c h1 hi hc hs with h|⟨n,h⟩
   ·exact .inl h
   ·exact .inr ⟨t',List.mem_cons_self ..,n,h⟩
 ·exact .inl (hnew c hc (by omega) h2)
structure Mb(H:ByteArray->Nat)(s:Mm)(ts:List dZ)(rs:List Tr)(t:Tr)(σ:Kw):Prop where
 mm:σ.mm=s
 inv:Inv H σ
 ts:∀t∈ts,bR σ t
 op:∃c h n,og H t σ c h n
 os:∀u∈rs,oH u=true/\∃c h n,og H u σ c h n
 qm:QM H (t::rs) σ
 qr:QR H (t::rs) σ
theorem Mb.go{s s':Mm}{ts:List dZ}{rs:List Tr}{t t':Tr}(w:Mb H s ts rs t σ)(l:Le σ υ)(i1:Inv H υ)(e:υ.mm=s')(hop:∃c h n,og H t' υ c h n)
  (hX:∀G n,XT (X0 H G) t n σ->G σ∨∃n',XT (X0 H G) t' n' υ)
  (h1:∀i,(σ.nd i).kind=2->υ.ce (σ.nd i).main≠σ.ce (σ.nd i).main->aX υ (υ.ce (σ.nd i).main)∨∃n,XT (X0 H (o7 i (υ.ce (σ.nd i).main))) t' n υ)
  (h2:∀i,(υ.nd i).kind=2->(σ.len:Int)<i->aX υ (υ.ce (υ.nd i).main))
  (h3:∀c:Int,1<=c->c<=σ.cl->σ.ct c=.root->υ.ce c≠σ.ce c->(υ.nd (υ.ce c)).kind=2∨∃n,XT (X0 H (vw c (υ.ce c))) t' n υ)
  (h4:∀c:Int,υ.ct c=.root->(σ.cl:Int)<c->c<=υ.cl->(υ.nd (υ.ce c)).kind=2):∃υ,Le σ υ/\Mb H s' ts rs t' υ :=
 ⟨υ,l,e,i1,λ t ht=>(w.ts t ht).up l,hop,λ u hu=>by
  obtain⟨ha,c,h,n,k⟩:=w.os u hu
  exact⟨ha,c,h,n,k.up w.inv i1 l ha⟩,vc w.inv i1 l (λ u hu=>(w.os u hu).1) w.qm hX h1 h2,rp w.inv i1 l (λ u hu=>(w.os u hu).1) w.qr hX h3 h4⟩
theorem Zh{x:Int}{υ:Kw}(e:υ.mm=⟨σ.mm.nodes,σ.mm.cs++[x],σ.mm.gen⟩):Gf σ υ/\υ.cl=σ.cl+1/\υ.ce ((σ.cl+1:Nat):Int)=x:=by
 refine⟨λ y hy=>?_,by simp[Kw.cl,e],?_⟩
 ·show bV υ.mm.cs y=_
  rw[e]
  exact qE hy
 ·show bV υ.mm.cs _=_
  rw[e]
  exact Hf _ _
theorem ki{nd:Nv}{x:Int}(i1:Inv H υ)(e:υ.mm=σ.mm.push nd x){c:Int}(h1:(σ.cl:Int)<c)(h2:c<=υ.cl):υ.ct c≠.root:=λ hr=>by
 have a:=Du e
 have hcl:υ.mm.cs=gH nd.kind σ.mm.cs x:=by rw[e];rfl
 have hk:nd.kind=2∨nd.kind=3∨nd.kind=5∨nd.kind=6∨nd.kind=8:=Classical.byContradiction λ hk=>by
  have:υ.cl=σ.cl:=by simp only[Kw.cl,hcl];unfold gH;rw[if_neg hk]
  omega
 have hcl2:υ.cl=σ.cl+1:=by simp only[Kw.cl,hcl];unfold gH;rw[if_pos hk];simp
 have hc:c=((σ.cl+1:Nat):Int):=by omega
 have ek:(υ.nd ((σ.len+1:Nat):Int)).kind=nd.kind:=by rw[a.nd];rfl
 rw[hc] at hr
 rcases hk with k|k|k|k|k
 ·have h:=(i1.dK (r:=((σ.len+1:Nat):Int)) (by rw[ek];exact k)).2.2
  rw[a.nd,show(cS nd σ.cl).main=((σ.cl+1:Nat):Int) from if_pos k,hr] at h;cases h
 ·have h:=(i1.iC (m:=((σ.len+1:Nat):Int)) (.inl (by rw[ek];exact k))).2.2
  rw[a.nd,show(cS nd σ.cl).prev=((σ.cl+1:Nat):Int) from if_pos (.inl k),hr] at h;cases h
 ·have h:=(i1.iC (m:=((σ.len+1:Nat):Int)) (.inr (.inl (by rw[ek];exact k)))).2.2
  rw[a.nd,show(cS nd σ.cl).prev=((σ.cl+1:Nat):Int) from if_pos (.inr (.inl k)),hr] at h;cases h
 ·have h:=(i1.iC (m:=((σ.len+1:Nat):Int)) (.inr (.inr (by rw[ek];exact k)))).2.2
  rw[a.nd,show(cS nd σ.cl).prev=((σ.cl+1:Nat):Int) from if_pos (.inr (.inr k)),hr] at h;cases h
 ·have h:=(i1.Zb (r:=((σ.len+1:Nat):Int)) (by rw[ek];exact k)).2.2
  rw[a.nd,show(cS nd σ.cl).status=((σ.cl+1:Nat):Int) from if_pos k,hr] at h;cases h
theorem Nn{x:List Int}{y:Int}(e:υ.mm=⟨σ.mm.nodes,x,y⟩):υ.len=σ.len:=by simp only[Kw.len,e]
theorem Mb.sp{s s':Mm}{ts:List dZ}{rs:List Tr}{t t':Tr}(w:Mb H s ts rs t σ)(h:Sp t s t' s'):∃υ,Le σ υ/\Mb H s' ts rs t' υ:=by
 have em:=w.mm
 subst em
 obtain⟨c,hh,n,k⟩:=w.op
 have noN:∀{υ:Kw},υ.len=σ.len->∀i,(υ.nd i).kind=2->(σ.len:Int)<i->aX υ (υ.ce (υ.nd i).main):=λ{υ} el i hk hi=>by
  have:=iO hk
  omega
 cases h with
 | alloc nd i kt s =>
  obtain⟨hst,_,hx⟩:=k.xt.resolve_left id
  obtain⟨υ,l,i1,e,hx⟩:=hx rfl
  have f:Gf σ υ:=V0 e
  refine w.go l i1 e ⟨c,hh,n,k.le,hx,k.ok.up l,k.hl,k.ha,k.ro⟩ (λ G n h=>?_) (λ i' hk hne=>absurd (f _ (w.inv.dK hk).2.1) hne) (λ i' hk hi=>?_) (λ c' _ h2 _ hne=>absurd (f _ h2) hne) (λ c' hc h1 h2=>absurd hc (ki i1 e h1 h2))
  ·rcases h with h|⟨_,h,_⟩
   ·exact .inl h
   ·exact .inr ⟨n,h rfl υ l i1 e⟩
  ·have a:=Du e
   have hlen:υ.len=σ.len+1:=by simp only[Kw.len,e,Mm.push,List.length_append,List.length_cons,List.length_nil]
   have hi':i'=((σ.len+1:Nat):Int):=by have:=iO hk;omega
   subst hi'
   have hk2:nd.kind=2:=by rw[a.nd] at hk;exact hk
   have hmk:=Yi i1 hk
   rw[a.main hk2] at hmk ⊢
   have hin:=gN hmk
   have hle:i<=σ.len:=by
    have:i≠((σ.len+1:Nat):Int):=λ e2=>by rw[e2] at hmk;unfold bU at hmk;omega
    have h3:i<=((υ.len:Nat):Int):=hin.2
    rw[hlen] at h3
    omega
   have hs:=hst hk2
   unfold aX at hs ⊢
   rw[l.nd hle,f _ (w.inv.nd i hin.1 hle).bd.prev]
   exact hs
 | cell i kt s =>
  obtain⟨hst,_,hx⟩:=k.xt.resolve_left id
  obtain⟨υ,l,i1,e,hx⟩:=hx rfl
  obtain⟨f,f2,f3⟩:=Zh e
  refine w.go l i1 e ⟨c,hh,n,k.le,hx,k.ok.up l,k.hl,k.ha,k.ro⟩ (λ G n h=>?_) (λ i' hk hne=>absurd (f _ (w.inv.dK hk).2.1) hne) (noN (Nn e)) (λ c' _ h2 _ hne=>absurd (f _ h2) hne) (λ c' hc h1 h2=>?_)
  ·rcases h with h|⟨_,h,_⟩
   ·exact .inl h
   ·exact .inr ⟨n,h rfl υ l i1 e⟩
  ·have hc':c'=((σ.cl+1:Nat):Int):=by omega
   rw[hc',f3,l.nd (iO hst)]
   exact hst
 | gen kt s =>
  obtain⟨_,hx⟩:=k.xt.resolve_left id
  obtain⟨υ,l,i1,e,hx⟩:=hx rfl
  have f:Gf σ υ:=Ka e
  refine w.go l i1 e ⟨c,hh,n,k.le,hx,k.ok.up l,k.hl,k.ha,k.ro⟩ (λ G n h=>?_) (λ i' hk hne=>absurd (f _ (w.inv.dK hk).2.1) hne) (noN (Nn e)) (λ c' _ h2 _ hne=>absurd (f _ h2) hne) (λ c' hc h1 h2=>?_)
  ·rcases h with h|⟨h,_⟩
   ·exact .inl h
   ·exact .inr ⟨n,h rfl υ l i1 e⟩
  ·have:υ.cl=σ.cl:=by simp only[Kw.cl,e]
   omega
 | node r kt s hr =>
  obtain⟨_,hx⟩:=k.xt.resolve_left id
  refine w.go (Le.refl σ) w.inv rfl ⟨c,hh,n,k.le,hx,k.ok,k.hl,k.ha,k.ro⟩ (λ G n h=>?_) (λ _ _ hne=>absurd rfl hne) (noN rfl) (λ _ _ _ _ hne=>absurd rfl hne) (λ c' hc h1 h2=>by omega)
  rcases h with h|⟨_,h⟩
  ·exact .inl h
  ·exact .inr ⟨n,h⟩
theorem Mb.lp{s s':Mm}{ts:List dZ}{rs:List Tr}{t t':Tr}(w:Mb H s ts rs t σ)(h:Lp t s t' s'):∃υ,Le σ υ/\Mb H s' ts rs t' υ:=by
 have em:=w.mm
 subst em
 obtain⟨c,hh,n,k⟩:=w.op
 have noN:∀{υ:Kw},υ.len=σ.len->∀i,(υ.nd i).kind=2->(σ.len:Int)<i->aX υ (υ.ce (υ.nd i).main):=λ{υ} el i hk hi=>by
  have:=iO hk
  omega
 have hbud:∀{m:Nat} {P:Prop},(n=m+1∨(P/\m=(XF H c hh).C))->m<=1000:=λ{m P} h=>by
  rcases h with h|⟨_,h⟩
  ·have:=k.le;omega
  ·rw[h];exact Nat.le_refl _
 cases h with
 | load cc kt s =>
  obtain⟨m,e,hx⟩:=k.xt.resolve_left id
  refine w.go (Le.refl σ) w.inv rfl ⟨c,hh,m,hbud e,hx σ (Gg.refl w.inv),k.ok,k.hl,k.ha,k.ro⟩ (λ G n h=>?_) (λ _ _ hne=>absurd rfl hne) (noN rfl) (λ _ _ _ _ hne=>absurd rfl hne) (λ c' hc h1 h2=>by omega)
  rcases h with h|⟨m,_,h⟩
  ·exact .inl h
  ·exact .inr ⟨m,h σ (Gg.refl (X:=X0 H G) w.inv)⟩
 | nV cc o v kt s b hb =>
  obtain⟨m,e,hx⟩:=k.xt.resolve_left id
  have hx:=hx σ (Gg.refl w.inv)
  have hm:m<=1000:=by have:=k.le;omega
  cases b with
  | true =>
   have hc:iP σ.mm.cs cc o:=hb.1 rfl
   obtain⟨l,i1,hR,hx⟩:=hx.1 hc
   have hce:∀x,(σ.set cc o v).ce x=if x=cc then v else σ.ce x:=λ x=>jF hc x
   refine w.go l i1 rfl ⟨c,hh,m,hm,hx,k.ok.up l,k.hl,k.ha,k.ro⟩ (λ G n h=>?_) (λ i hk hne=>?_) (noN rfl) (λ c' h1 h2 hr hne=>?_) (λ c' hc h1 h2=>?_)
   ·rcases h with h|⟨m,_,h⟩
    ·exact .inl h
    ·exact .inr ⟨m,((h σ (Gg.refl (X:=X0 H G) w.inv)).1 hc).2.2.2⟩
   ·have ec:(σ.nd i).main=cc:=Classical.byContradiction λ h=>hne (by rw[hce,if_neg h])
    have hct:=(w.inv.dK hk).2.2
    rw[ec] at hct ⊢
    rw[hce,if_pos rfl]
    exact hR.1 i hct
   ·have ec:c'=cc:=Classical.byContradiction λ h=>hne (by rw[hce,if_neg h])
    subst ec
    rw[hce,if_pos rfl]
    exact hR.2 hr
   ·have:(σ.set cc o v).cl=σ.cl:=kF
    omega
  | false =>
   have hn:¬iP σ.mm.cs cc o:=λ h=>by have:=hb.2 h;cases this
   have es:fZ σ.mm.cs cc o v=σ.mm.cs:=qV hn
   rw[es]
   refine w.go (Le.refl σ) w.inv rfl ⟨c,hh,m,hm,hx.2 hn,k.ok,k.hl,k.ha,k.ro⟩ (λ G n h=>?_) (λ _ _ hne=>absurd rfl hne) (noN rfl) (λ _ _ _ _ hne=>absurd rfl hne) (λ c' hc h1 h2=>by omega)
   rcases h with h|⟨m,_,h⟩
   ·exact .inl h
   ·exact .inr ⟨m,(h σ (Gg.refl (X:=X0 H G) w.inv)).2 hn⟩
theorem Mb.rc{s s':Mm}{ts:List dZ}{rs:List Tr}{t t':Tr}{j:Nat}(h:Rc j t s t' s'):∀{σ:Kw},Mb H s ts rs t σ->∃υ,Le σ υ/\Mb H s' ts rs t' υ:=by
 induction h with
 | refl t s=>intro σ w;exact⟨σ,Le.refl σ,w⟩
 | Np _ hs ih =>
  intro σ w
  obtain⟨υ,l1,w1⟩:=ih w
  obtain⟨ρ,l2,w2⟩:=w1.sp hs
  exact⟨ρ,l1.trans w.inv w1.inv l2,w2⟩
 | loud _ hs ih =>
  intro σ w
  obtain⟨υ,l1,w1⟩:=ih w
  obtain⟨ρ,l2,w2⟩:=w1.lp hs
  exact⟨ρ,l1.trans w.inv w1.inv l2,w2⟩
end
end

/- Worlds: what is pending has somebody who settles it; nothing is pending if no operation is left; an operation that runs alone ends. -/
section
open Go Go.RowKit Go.Ct
section
variable{H:ByteArray->Nat}{σ τ υ:Kw}
structure WQ(H:ByteArray->Nat)(s:Mm)(ts:List dZ)(rs:List Tr)(σ:Kw):Prop where
 mm:σ.mm=s
 inv:Inv H σ
 ts:∀t∈ts,bR σ t
 os:∀u∈rs,oH u=true/\∃c h n,og H u σ c h n
 qm:QM H rs σ
 qr:QR H rs σ
theorem WQ.one{s:Mm}{ts:List dZ}{t:Tr}{rs:List Tr}(w:WQ H s ts (t::rs) σ):Mb H s ts rs t σ:=⟨w.mm,w.inv,w.ts,(w.os t (List.mem_cons_self ..)).2,λ u hu=>w.os u (List.mem_cons_of_mem _ hu),w.qm,w.qr⟩
theorem Mb.all{s:Mm}{ts:List dZ}{t:Tr}{rs:List Tr}(ha:oH t=true)(w:Mb H s ts rs t σ):WQ H s ts (t::rs) σ:=⟨w.mm,w.inv,w.ts,λ u hu=>by
 rcases List.mem_cons.1 hu with rfl|hu
 ·exact⟨ha,w.op⟩
 ·exact w.os u hu,w.qm,w.qr⟩
theorem QM.sub{rs rs':List Tr}(h:QM H rs σ)(hs:∀t∈rs,t∈rs'):QM H rs' σ:=λ i hk=>(h i hk).imp id λ⟨t,ht,x⟩=>⟨t,hs t ht,x⟩
theorem QR.sub{rs rs':List Tr}(h:QR H rs σ)(hs:∀t∈rs,t∈rs'):QR H rs' σ:=λ i h1 h2 hk=>(h i h1 h2 hk).imp id λ⟨t,ht,x⟩=>⟨t,hs t ht,x⟩
theorem w5(i:Inv H σ)(e:σ.mm=mm0):QM H [] σ/\QR H [] σ:=by
 have n1:σ.nd 1=cN.c:=by simp only[Kw.nd,e];rfl
 have n2:σ.nd 2=cN.c:=by simp only[Kw.nd,e];rfl
 have n3:σ.nd 3=cS (({Nd.zero with kind:=3}:Nd).c [] []) 0:=by simp only[Kw.nd,e];rfl
 have n4:σ.nd 4=cS (({Nd.zero with kind:=2,gen:=1}:Nd).c [] []) 1:=by simp only[Kw.nd,e];rfl
 have c1:σ.ce 1=0:=by simp only[Kw.ce,e];rfl
 have c2:σ.ce 2=3:=by simp only[Kw.ce,e];rfl
 have c3:σ.ce 3=4:=by simp only[Kw.ce,e];rfl
 have hl:σ.len=4:=by simp only[Kw.len,e];rfl
 have hcl:σ.cl=3:=by simp only[Kw.cl,e];rfl
 refine⟨λ i' hk=>.inl ?_,λ c h1 h2 hc=>.inl ?_⟩
 ·have hr:=dD (N:=σ.mm.nodes) (i:=i') (by rw[hk];decide)
  have hr2:i'<=4:=by have h2:i'<=(σ.len:Int):=hr.2;rw[hl] at h2;exact h2
  have:i'=1∨i'=2∨i'=3∨i'=4:=by have:=hr.1;omega
  rcases this with rfl|rfl|rfl|rfl
  ·rw[n1] at hk;exact cX (a:=1) (b:=2) hk
  ·rw[n2] at hk;exact cX (a:=1) (b:=2) hk
  ·rw[n3] at hk;exact cX (a:=3) (b:=2) hk
  ·have em:(σ.nd 4).main=2:=by rw[n4];rfl
   have ep:(σ.nd 3).prev=1:=by rw[n3];rfl
   unfold aX
   rw[em,c2,ep]
   exact c1
 ·rw[hcl] at h2
  have k3:(σ.nd 3).kind=3:=by rw[n3];rfl
  have k4:(σ.nd 4).kind=2:=by rw[n4];rfl
  have:c=1∨c=2∨c=3:=by omega
  rcases this with rfl|rfl|rfl
  ·have:=(i.iC (m:=3) (.inl k3)).2.2
   rw[show(σ.nd 3).prev=1 by rw[n3];rfl,hc] at this
   cases this
  ·have:=(i.dK (r:=4) k4).2.2
   rw[show(σ.nd 4).main=2 by rw[n4];rfl,hc] at this
   cases this
  ·rw[c3];exact k4
theorem WR.quiet{m:Nat}{s:Mm}{ts:List dZ}{rs:List Tr}(h:WR H m s ts rs):∃σ,WQ H s ts rs σ:=by
 induction h with
 | new =>
  obtain⟨υ,l,i,e,hq⟩:=WT.rc T8 rfl (Qp H) (Uv (Qp H))
  obtain⟨q1,q2⟩:=w5 i e
  refine⟨υ,e,i,λ t ht=>?_,(λ t ht=>nomatch ht),q1,q2⟩
  rw[List.mem_singleton.1 ht]
  exact hq (by decide)
 | start _ hk hr ha ih =>
  obtain⟨σ,w⟩:=ih
  have hc:=hk σ w.mm w.inv w.ts
  obtain⟨υ,l,w2⟩:=Mb.rc hr (σ:=σ) ⟨w.mm,w.inv,w.ts,⟨_,_,1000,Nat.le_refl _,qu w.inv hc _,hc.t,hc.hl,hc.ha,hc.ro⟩,w.os,w.qm.sub λ t ht=>List.mem_cons_of_mem _ ht,w.qr.sub λ t ht=>List.mem_cons_of_mem _ ht⟩
  exact⟨υ,w2.all ha⟩
 | step _ hr ha ih =>
  obtain⟨σ,w⟩:=ih
  obtain⟨υ,l,w2⟩:=Mb.rc hr w.one
  exact⟨υ,w2.all ha⟩
 | perm _ hp ih =>
  obtain⟨σ,w⟩:=ih
  exact⟨σ,w.mm,w.inv,w.ts,λ u hu=>w.os u (hp.mem_iff.2 hu),w.qm.sub λ t ht=>hp.mem_iff.1 ht,w.qr.sub λ t ht=>hp.mem_iff.1 ht⟩
 | drop _ ih =>
  obtain⟨σ,w⟩:=ih
  refine⟨σ,w.mm,w.inv,w.ts,λ u hu=>w.os u (List.mem_cons_of_mem _ hu),λ i hk=>?_,λ c h1 h2 hc=>?_⟩
  ·rcases w.qm i hk with h|⟨t,ht,n,h⟩
   ·exact .inl h
   ·rcases List.mem_cons.1 ht with rfl|ht
    ·exact .inl (Pg (h.resolve_right id))
    ·exact .inr ⟨t,ht,n,h⟩
  ·rcases w.qr c h1 h2 hc with h|⟨t,ht,n,h⟩
   ·exact .inl h
   ·rcases List.mem_cons.1 ht with rfl|ht
    ·exact absurd rfl (h.resolve_right id)
    ·exact .inr ⟨t,ht,n,h⟩
 | add _ h0 ih =>
  obtain⟨σ,w⟩:=ih
  refine⟨σ,w.mm,w.inv,λ t ht=>?_,w.os,w.qm,w.qr⟩
  rcases List.mem_append.1 ht with ht|ht
  ·exact w.ts t ht
  ·rw[List.mem_singleton.1 ht]
   obtain⟨_,c,h,n,k⟩:=w.os _ (List.mem_cons_self ..)
   exact(k.xt.resolve_left id) h0
structure QS(H:ByteArray->Nat)(s:Mm)(ts:List dZ)(σ:Kw):Prop where
 mm:σ.mm=s
 inv:Inv H σ
 ts:∀t∈ts,bR σ t
 st:∀i,(σ.nd i).kind=2->aX σ (σ.ce (σ.nd i).main)
 rt:∀c:Int,1<=c->c<=σ.cl->σ.ct c=.root->(σ.nd (σ.ce c)).kind=2
theorem WR.rest{m:Nat}{s:Mm}{ts:List dZ}(h:WR H m s ts []):∃σ,QS H s ts σ:=by
 obtain⟨σ,w⟩:=h.quiet
 exact⟨σ,w.mm,w.inv,w.ts,λ i hk=>(w.qm i hk).resolve_right (λ⟨t,ht,_⟩=>nomatch ht),λ c h1 h2 hc=>(w.qr c h1 h2 hc).resolve_right (λ⟨t,ht,_⟩=>nomatch ht)⟩
def Sol(H:ByteArray->Nat)(t:Tr)(σ:Kw)(n:Nat):Prop:=XT (da H) t n σ∨∃c h m,og H t σ c h m/\m+7000<=n
def Fin(H:ByteArray->Nat)(t:Tr)(s:Mm)(n:Nat):Prop:=∃σ,σ.mm=s/\Inv H σ/\Sol H t σ n
theorem Fin.sp{t t':Tr}{s s':Mm}{n:Nat}(h:Fin H t s n)(hs:Sp t s t' s'):Fin H t' s' n:=by
 obtain⟨σ,rfl,i0,h⟩:=h
 cases hs with
 | alloc nd i k s =>
  rcases h with h|⟨c,hh,m,k,hm⟩
  ·obtain⟨_,_,hx⟩:=h.resolve_left id
   obtain⟨υ,l,i1,e,hx⟩:=hx rfl
   exact⟨υ,e,i1,.inl hx⟩
  ·obtain⟨_,_,hx⟩:=k.xt.resolve_left id
   obtain⟨υ,l,i1,e,hx⟩:=hx rfl
   exact⟨υ,e,i1,.inr ⟨c,hh,m,⟨k.le,hx,k.ok.up l,k.hl,k.ha,k.ro⟩,hm⟩⟩
 | cell i k s =>
  rcases h with h|⟨c,hh,m,k,hm⟩
  ·obtain⟨_,_,hx⟩:=h.resolve_left id
   obtain⟨υ,l,i1,e,hx⟩:=hx rfl
   exact⟨υ,e,i1,.inl hx⟩
  ·obtain⟨_,_,hx⟩:=k.xt.resolve_left id
   obtain⟨υ,l,i1,e,hx⟩:=hx rfl
   exact⟨υ,e,i1,.inr ⟨c,hh,m,⟨k.le,hx,k.ok.up l,k.hl,k.ha,k.ro⟩,hm⟩⟩
 | gen k s =>
  rcases h with h|⟨c,hh,m,k,hm⟩
  ·obtain⟨_,hx⟩:=h.resolve_left id
   obtain⟨υ,l,i1,e,hx⟩:=hx rfl
   exact⟨υ,e,i1,.inl hx⟩
  ·obtain⟨_,hx⟩:=k.xt.resolve_left id
   obtain⟨υ,l,i1,e,hx⟩:=hx rfl
   exact⟨υ,e,i1,.inr ⟨c,hh,m,⟨k.le,hx,k.ok.up l,k.hl,k.ha,k.ro⟩,hm⟩⟩
 | node r k s hr =>
  rcases h with h|⟨c,hh,m,k,hm⟩
  ·exact⟨σ,rfl,i0,.inl (h.resolve_left id).2⟩
  ·exact⟨σ,rfl,i0,.inr ⟨c,hh,m,⟨k.le,(k.xt.resolve_left id).2,k.ok,k.hl,k.ha,k.ro⟩,hm⟩⟩
theorem XT.lp1{t t':Tr}{s':Mm}{n:Nat}(i0:Inv H σ)(h:XT (da H) t n σ)(hs:Lp t σ.mm t' s'):∃m,n=m+1/\Fin H t' s' m:=by
 cases hs with
 | load cc kt s =>
  obtain⟨m,e,hx⟩:=h.resolve_left id
  rcases e with e|e
  ·exact⟨m,e,σ,rfl,i0,.inl (hx σ (Gg.refl (X:=da H) i0))⟩
  ·exact e.1.elim
 | nV cc o v kt s b hb =>
  obtain⟨m,e,hx⟩:=h.resolve_left id
  have hx:=hx σ (Gg.refl (X:=da H) i0)
  refine⟨m,e,?_⟩
  cases b with
  | true =>
   obtain⟨l,i1,hR,hx⟩:=hx.1 (hb.1 rfl)
   exact⟨_,rfl,i1,.inl hx⟩
  | false =>
   have hn:¬iP σ.mm.cs cc o:=λ h=>by have:=hb.2 h;cases this
   exact⟨σ,by rw[show fZ σ.mm.cs cc o v=σ.mm.cs from qV hn],i0,.inl (hx.2 hn)⟩
theorem Fin.lp{t t':Tr}{s s':Mm}{n:Nat}(h:Fin H t s n)(hs:Lp t s t' s'):∃m,n=m+1/\Fin H t' s' m:=by
 obtain⟨σ,rfl,i0,h⟩:=h
 rcases h with h|⟨c,hh,m,k,hm⟩
 ·exact h.lp1 i0 hs
 ·have hgo:∀{m':Nat} {υ:Kw},Inv H υ->υ.mm=s'->Le σ υ->m=m'+1->XT (XF H c hh) t' m' υ->∃m,n=m+1/\Fin H t' s' m:=λ{m' υ} i1 e l em hx=>by
   have:=k.le
   exact⟨n-1,by omega,υ,e,i1,.inr ⟨c,hh,m',⟨by omega,hx,k.ok.up l,k.hl,k.ha,k.ro⟩,by omega⟩⟩
  have hs':=hs
  cases hs with
  | load cc kt s =>
   obtain⟨m',e,hx⟩:=k.xt.resolve_left id
   rcases e with e|⟨ea,_⟩
   ·exact hgo i0 rfl (Le.refl σ) e (hx σ (Gg.refl (X:=XF H c hh) i0))
   ·obtain⟨q,eq,hf⟩:=(zb i0 k.ok k.hl k.ha k.ro ea).lp1 i0 hs'
    obtain⟨υ,e1,i1,hf⟩:=hf
    refine⟨n-1,by omega,υ,e1,i1,?_⟩
    rcases hf with hf|⟨c2,h2,m2,k2,hm2⟩
    ·exact .inl (hf.mono (by omega))
    ·exact .inr ⟨c2,h2,m2,k2,by omega⟩
  | nV cc o v kt s b hb =>
   obtain⟨m',e,hx⟩:=k.xt.resolve_left id
   have hx:=hx σ (Gg.refl (X:=XF H c hh) i0)
   cases b with
   | true =>
    obtain⟨l,i1,hR,hx⟩:=hx.1 (hb.1 rfl)
    exact hgo i1 rfl l e hx
   | false =>
    have hn:¬iP σ.mm.cs cc o:=λ h=>by have:=hb.2 h;cases this
    exact hgo i0 (by rw[show fZ σ.mm.cs cc o v=σ.mm.cs from qV hn]) (Le.refl σ) e (hx.2 hn)
theorem Fin.rc{t t':Tr}{s s':Mm}{j:Nat}(h:Rc j t s t' s'):∀{n:Nat},Fin H t s n->∃m,n=m+j/\Fin H t' s' m:=by
 induction h with
 | refl t s=>intro n h;exact⟨n,rfl,h⟩
 | Np _ hs ih =>
  intro n h
  obtain⟨m,e,h⟩:=ih h
  exact⟨m,e,h.sp hs⟩
 | loud _ hs ih =>
  intro n h
  obtain⟨m,e,h⟩:=ih h
  obtain⟨m',e',h⟩:=h.lp hs
  exact⟨m',by omega,h⟩
theorem Fin.pos{t:Tr}{s:Mm}{n:Nat}(h:Fin H t s n){a:Ac}(ha:t.acc=some a):1<=n:=by
 have hl:∃t' s',Lp t s t' s':=by
  cases t<;>simp only[Tr.acc,reduceCtorEq] at ha
  ·exact⟨_,_,Lp.load _ _ _⟩
  ·rename_i c o v k
   by_cases hc:iP s.cs c o
   ·exact⟨_,_,Lp.nV c o v k s true ⟨λ _=>hc,λ _=>rfl⟩⟩
   ·exact⟨_,_,Lp.nV c o v k s false ⟨λ h=>(nomatch h),λ h=>absurd h hc⟩⟩
 obtain⟨t',s',hl⟩:=hl
 obtain⟨m,e,_⟩:=h.lp hl
 omega
theorem WR.fin{m:Nat}{s:Mm}{ts:List dZ}{t:Tr}{rs:List Tr}(h:WR H m s ts (t::rs)):Fin H t s 8000:=by
 obtain⟨σ,w⟩:=h.quiet
 obtain⟨_,c,hh,n,k⟩:=w.os t (List.mem_cons_self ..)
 have:=k.le
 exact⟨σ,w.mm,w.inv,.inr ⟨c,hh,n,k,by omega⟩⟩
end
end

/- Worlds keep the labels. -/
section
open Go Go.RowKit Go.Ct
structure WI(H:ByteArray->Nat)(s:Mm)(ts:List dZ)(σ:Kw):Prop where
 mm:σ.mm=s
 inv:Inv H σ
 ts:∀t∈ts,bR σ t
theorem WR.inv{H:ByteArray->Nat}{m:Nat}{s:Mm}{ts:List dZ}{rs:List Tr}(h:WR H m s ts rs):∃σ,WI H s ts σ:=by
 obtain⟨σ,w⟩:=h.quiet
 exact⟨σ,w.mm,w.inv,w.ts⟩
end

end Go.Proofs.YtadnboagdhcedaaGreatDoor
