/- Worlds: what is pending has somebody who settles it; every operation ends if it runs alone. -/
import Derived.Test.YtadnboagdhcedaaGreatDoorGKx7
import Derived.Test.YtadnboagdhcedaaGreatDoorGKw8
import Derived.Test.YtadnboagdhcedaaGreatDoorGEx24
import Derived.Test.YtadnboagdhcedaaGreatDoorGSh14
import Derived.Test.YtadnboagdhcedaaGreatDoorGVx0

set_option linter.unusedSimpArgs false
set_option linter.unusedVariables false
namespace Go.Proofs.YtadnboagdhcedaaGreatDoor
section
open Go Go.RowKit Go.Ct
section
variable{H:ByteArray->Nat}{σ τ υ:Kw}
structure na(H:ByteArray->Nat)(t:Tr)(σ:Kw)(c:Cl)(h n:Nat):Prop where
 le:n<=1000
 xt:XT (XF H c h) t n σ
 ok:bR σ c.t
 hl:h<18446744073709551616
 ha:H c.key=h
 ro:c.kind=8∨c.kind=9∨c.kind=12∨c.kind=4->c.t.ro=false
def QM(H:ByteArray->Nat)(rs:List Tr)(σ:Kw):Prop:=∀i,(σ.nd i).kind=2->aV σ (σ.ce (σ.nd i).main)∨∃t∈rs,∃n,XT (X0 H (jr i (σ.ce (σ.nd i).main))) t n σ
def QR(H:ByteArray->Nat)(rs:List Tr)(σ:Kw):Prop:=∀c:Int,1<=c->c<=σ.cl->σ.ct c=.root->(σ.nd (σ.ce c)).kind=2∨∃t∈rs,∃n,XT (X0 H (vx c (σ.ce c))) t n σ
theorem XT.up{X:Xp}(hb:X.b=true)(hQ:∀r,X.Q r σ->X.Q r υ)(i0:Inv X.H σ)(i1:Inv X.H υ)(l:Le σ υ){t:Tr}{n:Nat}(ha:oY t=true)(h:XT X t n σ):X.E σ∨XT X t n υ:=by
 have hg:∀τ,Gg X υ τ->Gg X σ τ:=λ τ g=>⟨l.trans i0 i1 g.le,g.inv,λ e=>by rw[hb] at e;cases e⟩
 cases t with
 | done r =>
  rcases h with h|h
  ·exact .inl h
  ·exact .inr (.inr (hQ r h))
 | load c k =>
  rcases h with h|⟨m,e,h⟩
  ·exact .inl h
  ·exact .inr (.inr ⟨m,e,λ τ g=>h τ (hg τ g)⟩)
 | nW c o v k =>
  rcases h with h|⟨m,e,h⟩
  ·exact .inl h
  ·exact .inr (.inr ⟨m,e,λ τ g=>h τ (hg τ g)⟩)
 | alloc n i k=>cases ha
 | cell i k=>cases ha
 | gen k=>cases ha
 | node r k=>cases ha
 | stuck=>cases ha
theorem na.up{t:Tr}{c:Cl}{h n:Nat}(i0:Inv H σ)(i1:Inv H υ)(l:Le σ υ)(ha:oY t=true)(k:na H t σ c h n):na H t υ c h n :=
 ⟨k.le,(XT.up (X:=XF H c h) rfl (λ r hq=>hq.up l) i0 i1 l ha k.xt).resolve_left id,k.ok.up l,k.hl,k.ha,k.ro⟩
theorem j2{G:Kw->Prop}{t:Tr}{n:Nat}(i0:Inv H σ)(i1:Inv H υ)(l:Le σ υ)(ha:oY t=true)(h:XT (X0 H G) t n σ):G σ∨XT (X0 H G) t n υ:=XT.up (X:=X0 H G) (σ:=σ) (υ:=υ) rfl (λ _ h=>h) i0 i1 l ha h
theorem Mv{i:Int}(h:jr i (σ.ce (σ.nd i).main) σ):aV σ (σ.ce (σ.nd i).main):=h.resolve_left λ h=>h rfl
theorem Yd(i0:Inv H σ){i:Int}(hk:(σ.nd i).kind=2):bU (σ.nd (σ.ce (σ.nd i).main)):=(mU.Yq (i:=i) (w:=σ.way i) (g:=(σ.nd i).gen) i0 ⟨⟨hk,rfl⟩,rfl⟩).1
theorem rh{t t':Tr}{rs:List Tr}(i0:Inv H σ)(i1:Inv H υ)(l:Le σ υ)(hrs:∀u∈rs,oY u=true)(hq:QM H (t::rs) σ)
  (hX:∀G n,XT (X0 H G) t n σ->G σ∨∃n',XT (X0 H G) t' n' υ)
  (hch:∀i,(σ.nd i).kind=2->υ.ce (σ.nd i).main≠σ.ce (σ.nd i).main->aV υ (υ.ce (σ.nd i).main)∨∃n,XT (X0 H (jr i (υ.ce (σ.nd i).main))) t' n υ)
  (hnew:∀i,(υ.nd i).kind=2->(σ.len:Int)<i->aV υ (υ.ce (υ.nd i).main)):QM H (t'::rs) υ:=λ i hk=>by
 by_cases hi:i<=σ.len
 ·have en:=l.nd hi
  rw[en] at hk ⊢
  by_cases hs:υ.ce (σ.nd i).main=σ.ce (σ.nd i).main
  ·rw[hs]
   have hmk:=Yd i0 hk
   have hup:aV σ (σ.ce (σ.nd i).main)->aV υ (σ.ce (σ.nd i).main):=λ h=>aV.up i0 hmk h l
   rcases hq i hk with h|⟨u,hu,n,h⟩
   ·exact .inl (hup h)
   ·rcases List.mem_cons.1 hu with e|hu
    ·subst e
     rcases hX _ n h with h|⟨n',h⟩
     ·exact .inl (hup (Mv h))
     ·exact .inr ⟨t',List.mem_cons_self ..,n',h⟩
    ·rcases j2 i0 i1 l (hrs u hu) h with h|h
     ·exact .inl (hup (Mv h))
     ·exact .inr ⟨u,List.mem_cons_of_mem _ hu,n,h⟩
  ·rcases hch i hk hs with h|⟨n,h⟩
   ·exact .inl h
   ·exact .inr ⟨t',List.mem_cons_self ..,n,h⟩
 ·exact .inl (hnew i hk (by omega))
theorem pz{t t':Tr}{rs:List Tr}(i0:Inv H σ)(i1:Inv H υ)(l:Le σ υ)(hrs:∀u∈rs,oY u=true)(hq:QR H (t::rs) σ)
  (hX:∀G n,XT (X0 H G) t n σ->G σ∨∃n',XT (X0 H G) t' n' υ)
  (hch:∀c:Int,1<=c->c<=σ.cl->σ.ct c=.root->υ.ce c≠σ.ce c->(υ.nd (υ.ce c)).kind=2∨∃n,XT (X0 H (vx c (υ.ce c))) t' n υ)
  (hnew:∀c:Int,υ.ct c=.root->(σ.cl:Int)<c->c<=υ.cl->(υ.nd (υ.ce c)).kind=2):QR H (t'::rs) υ:=λ c h1 h2 hc=>by
 by_cases hi:c<=σ.cl
 ·rw[l.ct c hi] at hc
  by_cases hs:υ.ce c=σ.ce c
  ·rw[hs]
   rcases hq c h1 hi hc with h|⟨u,hu,n,h⟩
   ·exact .inl (by rw[l.nd (iC h)];exact h)
   ·rcases List.mem_cons.1 hu with e|hu
    ·subst e
     rcases hX _ n h with h|⟨n',h⟩
     ·exact absurd rfl h
     ·exact .inr ⟨t',List.mem_cons_self ..,n',h⟩
    ·rcases j2 i0 i1 l (hrs u hu) h with h|h
     ·exact absurd rfl h
     ·exact .inr ⟨u,List.mem_cons_of_mem _ hu,n,h⟩
  ·rcases hch c h1 hi hc hs with h|⟨n,h⟩
   ·exact .inl h
   ·exact .inr ⟨t',List.mem_cons_self ..,n,h⟩
 ·exact .inl (hnew c hc (by omega) h2)
structure L0(H:ByteArray->Nat)(s:Mm)(ts:List eQ)(rs:List Tr)(t:Tr)(σ:Kw):Prop where
 mm:σ.mm=s
 inv:Inv H σ
 ts:∀t∈ts,bR σ t
 op:∃c h n,na H t σ c h n
 os:∀u∈rs,oY u=true/\∃c h n,na H u σ c h n
 qm:QM H (t::rs) σ
 qr:QR H (t::rs) σ
theorem L0.go{s s':Mm}{ts:List eQ}{rs:List Tr}{t t':Tr}(w:L0 H s ts rs t σ)(l:Le σ υ)(i1:Inv H υ)(e:υ.mm=s')(hop:∃c h n,na H t' υ c h n)
  (hX:∀G n,XT (X0 H G) t n σ->G σ∨∃n',XT (X0 H G) t' n' υ)
  (h1:∀i,(σ.nd i).kind=2->υ.ce (σ.nd i).main≠σ.ce (σ.nd i).main->aV υ (υ.ce (σ.nd i).main)∨∃n,XT (X0 H (jr i (υ.ce (σ.nd i).main))) t' n υ)
  (h2:∀i,(υ.nd i).kind=2->(σ.len:Int)<i->aV υ (υ.ce (υ.nd i).main))
  (h3:∀c:Int,1<=c->c<=σ.cl->σ.ct c=.root->υ.ce c≠σ.ce c->(υ.nd (υ.ce c)).kind=2∨∃n,XT (X0 H (vx c (υ.ce c))) t' n υ)
  (h4:∀c:Int,υ.ct c=.root->(σ.cl:Int)<c->c<=υ.cl->(υ.nd (υ.ce c)).kind=2):∃υ,Le σ υ/\L0 H s' ts rs t' υ :=
 ⟨υ,l,e,i1,λ t ht=>(w.ts t ht).up l,hop,λ u hu=>by
  obtain⟨ha,c,h,n,k⟩:=w.os u hu
  exact⟨ha,c,h,n,k.up w.inv i1 l ha⟩,rh w.inv i1 l (λ u hu=>(w.os u hu).1) w.qm hX h1 h2,pz w.inv i1 l (λ u hu=>(w.os u hu).1) w.qr hX h3 h4⟩
theorem Xu{x:Int}{υ:Kw}(e:υ.mm=⟨σ.mm.nodes,σ.mm.cs++[x],σ.mm.gen⟩):Eu σ υ/\υ.cl=σ.cl+1/\υ.ce ((σ.cl+1:Nat):Int)=x:=by
 refine⟨λ y hy=>?_,by simp[Kw.cl,e],?_⟩
 ·show bW υ.mm.cs y=_
  rw[e]
  exact pQ hy
 ·show bW υ.mm.cs _=_
  rw[e]
  exact Gp _ _
theorem iw{nd:Nv}{x:Int}(i1:Inv H υ)(e:υ.mm=σ.mm.push nd x){c:Int}(h1:(σ.cl:Int)<c)(h2:c<=υ.cl):υ.ct c≠.root:=λ hr=>by
 have a:=Dh e
 have hcl:υ.mm.cs=fZ nd.kind σ.mm.cs x:=by rw[e];rfl
 have hk:nd.kind=2∨nd.kind=3∨nd.kind=5∨nd.kind=6∨nd.kind=8:=Classical.byContradiction λ hk=>by
  have:υ.cl=σ.cl:=by simp only[Kw.cl,hcl];unfold fZ;rw[if_neg hk]
  omega
 have hcl2:υ.cl=σ.cl+1:=by simp only[Kw.cl,hcl];unfold fZ;rw[if_pos hk];simp
 have hc:c=((σ.cl+1:Nat):Int):=by omega
 have ek:(υ.nd ((σ.len+1:Nat):Int)).kind=nd.kind:=by rw[a.nd];rfl
 rw[hc] at hr
 rcases hk with k|k|k|k|k
 ·have h:=(i1.dI (r:=((σ.len+1:Nat):Int)) (by rw[ek];exact k)).2.2
  rw[a.nd,show(cO nd σ.cl).main=((σ.cl+1:Nat):Int) from if_pos k,hr] at h;cases h
 ·have h:=(i1.iK (m:=((σ.len+1:Nat):Int)) (.inl (by rw[ek];exact k))).2.2
  rw[a.nd,show(cO nd σ.cl).prev=((σ.cl+1:Nat):Int) from if_pos (.inl k),hr] at h;cases h
 ·have h:=(i1.iK (m:=((σ.len+1:Nat):Int)) (.inr (.inl (by rw[ek];exact k)))).2.2
  rw[a.nd,show(cO nd σ.cl).prev=((σ.cl+1:Nat):Int) from if_pos (.inr (.inl k)),hr] at h;cases h
 ·have h:=(i1.iK (m:=((σ.len+1:Nat):Int)) (.inr (.inr (by rw[ek];exact k)))).2.2
  rw[a.nd,show(cO nd σ.cl).prev=((σ.cl+1:Nat):Int) from if_pos (.inr (.inr k)),hr] at h;cases h
 ·have h:=(i1.Va (r:=((σ.len+1:Nat):Int)) (by rw[ek];exact k)).2.2
  rw[a.nd,show(cO nd σ.cl).status=((σ.cl+1:Nat):Int) from if_pos k,hr] at h;cases h
theorem Lm{x:List Int}{y:Int}(e:υ.mm=⟨σ.mm.nodes,x,y⟩):υ.len=σ.len:=by simp only[Kw.len,e]
theorem L0.sp{s s':Mm}{ts:List eQ}{rs:List Tr}{t t':Tr}(w:L0 H s ts rs t σ)(h:Sp t s t' s'):∃υ,Le σ υ/\L0 H s' ts rs t' υ:=by
 have em:=w.mm
 subst em
 obtain⟨c,hh,n,k⟩:=w.op
 have noN:∀{υ:Kw},υ.len=σ.len->∀i,(υ.nd i).kind=2->(σ.len:Int)<i->aV υ (υ.ce (υ.nd i).main):=λ{υ} el i hk hi=>by
  have:=iC hk
  omega
 cases h with
 | alloc nd i kt s =>
  obtain⟨hst,_,hx⟩:=k.xt.resolve_left id
  obtain⟨υ,l,i1,e,hx⟩:=hx rfl
  have f:Eu σ υ:=Xt e
  refine w.go l i1 e ⟨c,hh,n,k.le,hx,k.ok.up l,k.hl,k.ha,k.ro⟩ (λ G n h=>?_) (λ i' hk hne=>absurd (f _ (w.inv.dI hk).2.1) hne) (λ i' hk hi=>?_) (λ c' _ h2 _ hne=>absurd (f _ h2) hne) (λ c' hc h1 h2=>absurd hc (iw i1 e h1 h2))
  ·rcases h with h|⟨_,h,_⟩
   ·exact .inl h
   ·exact .inr ⟨n,h rfl υ l i1 e⟩
  ·have a:=Dh e
   have hlen:υ.len=σ.len+1:=by simp only[Kw.len,e,Mm.push,List.length_append,List.length_cons,List.length_nil]
   have hi':i'=((σ.len+1:Nat):Int):=by have:=iC hk;omega
   subst hi'
   have hk2:nd.kind=2:=by rw[a.nd] at hk;exact hk
   have hmk:=Yd i1 hk
   rw[a.main hk2] at hmk ⊢
   have hin:=gC hmk
   have hle:i<=σ.len:=by
    have:i≠((σ.len+1:Nat):Int):=λ e2=>by rw[e2] at hmk;unfold bU at hmk;omega
    have h3:i<=((υ.len:Nat):Int):=hin.2
    rw[hlen] at h3
    omega
   have hs:=hst hk2
   unfold aV at hs ⊢
   rw[l.nd hle,f _ (w.inv.nd i hin.1 hle).bd.prev]
   exact hs
 | cell i kt s =>
  obtain⟨hst,_,hx⟩:=k.xt.resolve_left id
  obtain⟨υ,l,i1,e,hx⟩:=hx rfl
  obtain⟨f,f2,f3⟩:=Xu e
  refine w.go l i1 e ⟨c,hh,n,k.le,hx,k.ok.up l,k.hl,k.ha,k.ro⟩ (λ G n h=>?_) (λ i' hk hne=>absurd (f _ (w.inv.dI hk).2.1) hne) (noN (Lm e)) (λ c' _ h2 _ hne=>absurd (f _ h2) hne) (λ c' hc h1 h2=>?_)
  ·rcases h with h|⟨_,h,_⟩
   ·exact .inl h
   ·exact .inr ⟨n,h rfl υ l i1 e⟩
  ·have hc':c'=((σ.cl+1:Nat):Int):=by omega
   rw[hc',f3,l.nd (iC hst)]
   exact hst
 | gen kt s =>
  obtain⟨_,hx⟩:=k.xt.resolve_left id
  obtain⟨υ,l,i1,e,hx⟩:=hx rfl
  have f:Eu σ υ:=I8 e
  refine w.go l i1 e ⟨c,hh,n,k.le,hx,k.ok.up l,k.hl,k.ha,k.ro⟩ (λ G n h=>?_) (λ i' hk hne=>absurd (f _ (w.inv.dI hk).2.1) hne) (noN (Lm e)) (λ c' _ h2 _ hne=>absurd (f _ h2) hne) (λ c' hc h1 h2=>?_)
  ·rcases h with h|⟨h,_⟩
   ·exact .inl h
   ·exact .inr ⟨n,h rfl υ l i1 e⟩
  ·have:υ.cl=σ.cl:=by simp only[Kw.cl,e]
   omega
 | node r kt s hr =>
  obtain⟨_,hx⟩:=k.xt.resolve_left id
  refine w.go (Le.refl σ) w.inv rfl ⟨c,hh,n,k.le,hx,k.ok,k.hl,k.ha,k.ro⟩ (λ G n h=>?_) (λ _ _ hne=>absurd rfl hne) (noN rfl) (λ _ _ _ _ hne=>absurd rfl hne) (λ c' hc h1 h2=>by omega)
  rcases h with h|⟨_,h⟩
  ·exact .inl h
  ·exact .inr ⟨n,h⟩
theorem L0.lp{s s':Mm}{ts:List eQ}{rs:List Tr}{t t':Tr}(w:L0 H s ts rs t σ)(h:Lp t s t' s'):∃υ,Le σ υ/\L0 H s' ts rs t' υ:=by
 have em:=w.mm
 subst em
 obtain⟨c,hh,n,k⟩:=w.op
 have noN:∀{υ:Kw},υ.len=σ.len->∀i,(υ.nd i).kind=2->(σ.len:Int)<i->aV υ (υ.ce (υ.nd i).main):=λ{υ} el i hk hi=>by
  have:=iC hk
  omega
 have hbud:∀{m:Nat} {P:Prop},(n=m+1∨(P/\m=(XF H c hh).C))->m<=1000:=λ{m P} h=>by
  rcases h with h|⟨_,h⟩
  ·have:=k.le;omega
  ·rw[h];exact Nat.le_refl _
 cases h with
 | load cc kt s =>
  obtain⟨m,e,hx⟩:=k.xt.resolve_left id
  refine w.go (Le.refl σ) w.inv rfl ⟨c,hh,m,hbud e,hx σ (Gg.refl w.inv),k.ok,k.hl,k.ha,k.ro⟩ (λ G n h=>?_) (λ _ _ hne=>absurd rfl hne) (noN rfl) (λ _ _ _ _ hne=>absurd rfl hne) (λ c' hc h1 h2=>by omega)
  rcases h with h|⟨m,_,h⟩
  ·exact .inl h
  ·exact .inr ⟨m,h σ (Gg.refl (X:=X0 H G) w.inv)⟩
 | nW cc o v kt s b hb =>
  obtain⟨m,e,hx⟩:=k.xt.resolve_left id
  have hx:=hx σ (Gg.refl w.inv)
  have hm:m<=1000:=by have:=k.le;omega
  cases b with
  | true =>
   have hc:iG σ.mm.cs cc o:=hb.1 rfl
   obtain⟨l,i1,hR,hx⟩:=hx.1 hc
   have hce:∀x,(σ.set cc o v).ce x=if x=cc then v else σ.ce x:=λ x=>iS hc x
   refine w.go l i1 rfl ⟨c,hh,m,hm,hx,k.ok.up l,k.hl,k.ha,k.ro⟩ (λ G n h=>?_) (λ i hk hne=>?_) (noN rfl) (λ c' h1 h2 hr hne=>?_) (λ c' hc h1 h2=>?_)
   ·rcases h with h|⟨m,_,h⟩
    ·exact .inl h
    ·exact .inr ⟨m,((h σ (Gg.refl (X:=X0 H G) w.inv)).1 hc).2.2.2⟩
   ·have ec:(σ.nd i).main=cc:=Classical.byContradiction λ h=>hne (by rw[hce,if_neg h])
    have hct:=(w.inv.dI hk).2.2
    rw[ec] at hct ⊢
    rw[hce,if_pos rfl]
    exact hR.1 i hct
   ·have ec:c'=cc:=Classical.byContradiction λ h=>hne (by rw[hce,if_neg h])
    subst ec
    rw[hce,if_pos rfl]
    exact hR.2 hr
   ·have:(σ.set cc o v).cl=σ.cl:=jX
    omega
  | false =>
   have hn:¬iG σ.mm.cs cc o:=λ h=>by have:=hb.2 h;cases this
   have es:fU σ.mm.cs cc o v=σ.mm.cs:=wJ hn
   rw[es]
   refine w.go (Le.refl σ) w.inv rfl ⟨c,hh,m,hm,hx.2 hn,k.ok,k.hl,k.ha,k.ro⟩ (λ G n h=>?_) (λ _ _ hne=>absurd rfl hne) (noN rfl) (λ _ _ _ _ hne=>absurd rfl hne) (λ c' hc h1 h2=>by omega)
   rcases h with h|⟨m,_,h⟩
   ·exact .inl h
   ·exact .inr ⟨m,(h σ (Gg.refl (X:=X0 H G) w.inv)).2 hn⟩
theorem L0.rc{s s':Mm}{ts:List eQ}{rs:List Tr}{t t':Tr}{j:Nat}(h:Rc j t s t' s'):∀{σ:Kw},L0 H s ts rs t σ->∃υ,Le σ υ/\L0 H s' ts rs t' υ:=by
 induction h with
 | refl t s=>intro σ w;exact⟨σ,Le.refl σ,w⟩
 | sG _ hs ih =>
  intro σ w
  obtain⟨υ,l1,w1⟩:=ih w
  obtain⟨ρ,l2,w2⟩:=w1.sp hs
  exact⟨ρ,l1.trans w.inv w1.inv l2,w2⟩
 | loud _ hs ih =>
  intro σ w
  obtain⟨υ,l1,w1⟩:=ih w
  obtain⟨ρ,l2,w2⟩:=w1.lp hs
  exact⟨ρ,l1.trans w.inv w1.inv l2,w2⟩
end
end

/- Worlds: what is pending has somebody who settles it; nothing is pending if no operation is left; an operation that runs alone ends. -/
section
open Go Go.RowKit Go.Ct
section
variable{H:ByteArray->Nat}{σ τ υ:Kw}
structure WQ(H:ByteArray->Nat)(s:Mm)(ts:List eQ)(rs:List Tr)(σ:Kw):Prop where
 mm:σ.mm=s
 inv:Inv H σ
 ts:∀t∈ts,bR σ t
 os:∀u∈rs,oY u=true/\∃c h n,na H u σ c h n
 qm:QM H rs σ
 qr:QR H rs σ
theorem WQ.one{s:Mm}{ts:List eQ}{t:Tr}{rs:List Tr}(w:WQ H s ts (t::rs) σ):L0 H s ts rs t σ:=⟨w.mm,w.inv,w.ts,(w.os t (List.mem_cons_self ..)).2,λ u hu=>w.os u (List.mem_cons_of_mem _ hu),w.qm,w.qr⟩
theorem L0.all{s:Mm}{ts:List eQ}{t:Tr}{rs:List Tr}(ha:oY t=true)(w:L0 H s ts rs t σ):WQ H s ts (t::rs) σ:=⟨w.mm,w.inv,w.ts,λ u hu=>by
 rcases List.mem_cons.1 hu with rfl|hu
 ·exact⟨ha,w.op⟩
 ·exact w.os u hu,w.qm,w.qr⟩
theorem QM.sub{rs rs':List Tr}(h:QM H rs σ)(hs:∀t∈rs,t∈rs'):QM H rs' σ:=λ i hk=>(h i hk).imp id λ⟨t,ht,x⟩=>⟨t,hs t ht,x⟩
theorem QR.sub{rs rs':List Tr}(h:QR H rs σ)(hs:∀t∈rs,t∈rs'):QR H rs' σ:=λ i h1 h2 hk=>(h i h1 h2 hk).imp id λ⟨t,ht,x⟩=>⟨t,hs t ht,x⟩
theorem v7(i:Inv H σ)(e:σ.mm=ri):QM H [] σ/\QR H [] σ:=by
 have n1:σ.nd 1=cK.c:=by simp only[Kw.nd,e];rfl
 have n2:σ.nd 2=cK.c:=by simp only[Kw.nd,e];rfl
 have n3:σ.nd 3=cO (({Nd.zero with kind:=3}:Nd).c [] []) 0:=by simp only[Kw.nd,e];rfl
 have n4:σ.nd 4=cO (({Nd.zero with kind:=2,gen:=1}:Nd).c [] []) 1:=by simp only[Kw.nd,e];rfl
 have c1:σ.ce 1=0:=by simp only[Kw.ce,e];rfl
 have c2:σ.ce 2=3:=by simp only[Kw.ce,e];rfl
 have c3:σ.ce 3=4:=by simp only[Kw.ce,e];rfl
 have hl:σ.len=4:=by simp only[Kw.len,e];rfl
 have hcl:σ.cl=3:=by simp only[Kw.cl,e];rfl
 refine⟨λ i' hk=>.inl ?_,λ c h1 h2 hc=>.inl ?_⟩
 ·have hr:=cY (N:=σ.mm.nodes) (i:=i') (by rw[hk];decide)
  have hr2:i'<=4:=by have h2:i'<=(σ.len:Int):=hr.2;rw[hl] at h2;exact h2
  have:i'=1∨i'=2∨i'=3∨i'=4:=by have:=hr.1;omega
  rcases this with rfl|rfl|rfl|rfl
  ·rw[n1] at hk;exact cX (a:=1) (b:=2) hk
  ·rw[n2] at hk;exact cX (a:=1) (b:=2) hk
  ·rw[n3] at hk;exact cX (a:=3) (b:=2) hk
  ·have em:(σ.nd 4).main=2:=by rw[n4];rfl
   have ep:(σ.nd 3).prev=1:=by rw[n3];rfl
   unfold aV
   rw[em,c2,ep]
   exact c1
 ·rw[hcl] at h2
  have k3:(σ.nd 3).kind=3:=by rw[n3];rfl
  have k4:(σ.nd 4).kind=2:=by rw[n4];rfl
  have:c=1∨c=2∨c=3:=by omega
  rcases this with rfl|rfl|rfl
  ·have:=(i.iK (m:=3) (.inl k3)).2.2
   rw[show(σ.nd 3).prev=1 by rw[n3];rfl,hc] at this
   cases this
  ·have:=(i.dI (r:=4) k4).2.2
   rw[show(σ.nd 4).main=2 by rw[n4];rfl,hc] at this
   cases this
  ·rw[c3];exact k4
theorem WR.quiet{m:Nat}{s:Mm}{ts:List eQ}{rs:List Tr}(h:WR H m s ts rs):∃σ,WQ H s ts rs σ:=by
 induction h with
 | new =>
  obtain⟨υ,l,i,e,hq⟩:=WT.rc R8 rfl (Pq H) (Sv (Pq H))
  obtain⟨q1,q2⟩:=v7 i e
  refine⟨υ,e,i,λ t ht=>?_,(λ t ht=>nomatch ht),q1,q2⟩
  rw[List.mem_singleton.1 ht]
  exact hq (by decide)
 | start _ hk hr ha ih =>
  obtain⟨σ,w⟩:=ih
  have hc:=hk σ w.mm w.inv w.ts
  obtain⟨υ,l,w2⟩:=L0.rc hr (σ:=σ) ⟨w.mm,w.inv,w.ts,⟨_,_,1000,Nat.le_refl _,rm w.inv hc _,hc.t,hc.hl,hc.ha,hc.ro⟩,w.os,w.qm.sub λ t ht=>List.mem_cons_of_mem _ ht,w.qr.sub λ t ht=>List.mem_cons_of_mem _ ht⟩
  exact⟨υ,w2.all ha⟩
 | step _ hr ha ih =>
  obtain⟨σ,w⟩:=ih
  obtain⟨υ,l,w2⟩:=L0.rc hr w.one
  exact⟨υ,w2.all ha⟩
 | perm _ hp ih =>
  obtain⟨σ,w⟩:=ih
  exact⟨σ,w.mm,w.inv,w.ts,λ u hu=>w.os u (hp.mem_iff.2 hu),w.qm.sub λ t ht=>hp.mem_iff.1 ht,w.qr.sub λ t ht=>hp.mem_iff.1 ht⟩
 | drop _ ih =>
  obtain⟨σ,w⟩:=ih
  refine⟨σ,w.mm,w.inv,w.ts,λ u hu=>w.os u (List.mem_cons_of_mem _ hu),λ i hk=>?_,λ c h1 h2 hc=>?_⟩
  ·rcases w.qm i hk with h|⟨t,ht,n,h⟩
   ·exact .inl h
   ·rcases List.mem_cons.1 ht with rfl|ht
    ·exact .inl (Mv (h.resolve_right id))
    ·exact .inr ⟨t,ht,n,h⟩
  ·rcases w.qr c h1 h2 hc with h|⟨t,ht,n,h⟩
   ·exact .inl h
   ·rcases List.mem_cons.1 ht with rfl|ht
    ·exact absurd rfl (h.resolve_right id)
    ·exact .inr ⟨t,ht,n,h⟩
 | add _ h0 ih =>
  obtain⟨σ,w⟩:=ih
  refine⟨σ,w.mm,w.inv,λ t ht=>?_,w.os,w.qm,w.qr⟩
  rcases List.mem_append.1 ht with ht|ht
  ·exact w.ts t ht
  ·rw[List.mem_singleton.1 ht]
   obtain⟨_,c,h,n,k⟩:=w.os _ (List.mem_cons_self ..)
   exact(k.xt.resolve_left id) h0
end
end

/- Worlds keep the labels. -/
section
open Go Go.RowKit Go.Ct
structure WI(H:ByteArray->Nat)(s:Mm)(ts:List eQ)(σ:Kw):Prop where
 mm:σ.mm=s
 inv:Inv H σ
 ts:∀t∈ts,bR σ t
theorem WR.inv{H:ByteArray->Nat}{m:Nat}{s:Mm}{ts:List eQ}{rs:List Tr}(h:WR H m s ts rs):∃σ,WI H s ts σ:=by
 obtain⟨σ,w⟩:=h.quiet
 exact⟨σ,w.mm,w.inv,w.ts⟩
end

/- Worlds: the state of a world; an operation is run in it, an execution makes a step. -/
end Go.Proofs.YtadnboagdhcedaaGreatDoor
namespace Go.Ct
section
open Go Go.RowKit
section
variable{α:Type}
theorem zX.pre:∀(es r:List α),zX (es++r) (List.replicate es.length 0) es r
 | [],r=>.nil
 | a::es,r=>.cons .head (zX.pre es r)
end
theorem dt{P:Program}{f:FuncId}{vs:Array Value}{X:Type}{V:X->Value}{φ:X->Prop}{w0 w:World}{M:List Nat}{H hs H':List (Nat×Obj)}{A A0 F:Fr}{O os O':List Ow}{hs':X->List (Nat×Obj)}{os':X->List Ow}{Fc:X->Fr}
  (h:SF w0 M H A F O w) (pH:H.Perm (hs++H')) (pO:O.Perm (os++O')) (hA:bT A F O' A0)
  (hc:SF w (Ks hs os) hs A0 [] os w->Calls P f vs w λ e w'=>∃x,e=.returned (V x)/\φ x/\SF w (Ks hs os) (hs' x) [] (Fc x) (os' x) w') :
  Calls P f vs w λ e w'=>∃x,e=.returned (V x)/\φ x/\SF w0 M (hs' x++H') A (Fc x++F) (os' x++O') w':=by
 have h1:=h.perm pH.symm pO.symm
 refine(hc (h1.D6 (zX.pre hs H') (zX.pre os O') hA)).mono λ e w' ⟨x,e1,hx,hw⟩=>⟨x,e1,hx,?_⟩
 have kperm:∀(a c:List (Nat×Obj)) (b d:List Ow),(Ks (a++c) (b++d)).Perm (Ks a b++Ks c d):=λ a c b d=>by
  unfold Ks
  rw[List.map_append,List.flatMap_append]
  simp only[List.append_assoc]
  refine List.Perm.append_left _ ?_
  rw[<- List.append_assoc,<- List.append_assoc]
  exact List.Perm.append_right _ List.perm_append_comm
 have nd0:=(kperm hs H' os O').nodup_iff.1 h1.dis
 have disj:∀b∈Ks hs os,b∉Ks H' O':=λ b hb hm=>(List.nodup_append.1 nd0).2.2 b hb b hm rfl
 exact h1.l9 (D:=Ks hs os) (Hm:=[]) (Hc:=hs' x) (H1:=H') (Fc:=Fc x) (Om:=[]) (Oc:=os' x) (O1:=O') hw (λ b hb=>(kperm hs H' os O').mem_iff.2 (List.mem_append_left _ hb))
  (λ p hpm=>.inr ⟨List.mem_append_right _ hpm,λ hm=>disj _ hm (dK.2 (.inl ⟨p,hpm,rfl⟩))⟩)
  (λ o ho=>.inr ⟨List.mem_append_right _ ho,λ b hb hm=>disj _ hm (dK.2 (.inr ⟨o,ho,hb⟩))⟩)
  (List.nodup_append.1 nd0).2.1
end
end Go.Ct
namespace Go.Proofs.YtadnboagdhcedaaGreatDoor
section
open Go Go.RowKit Go.Ct
structure EX where
 b:Nat
 k:Cl
 x:XS
 dn:Bool
 rs:Rs
 R:Tr
structure Wd where
 z:XS
 ts:List eQ
 pt:Option Addr
 kt:Nat
 ex:List EX
 pe:Option Addr
 ke:Nat
def XS.wm(x z:XS):XS:={x with L:=z.L,cs:=z.cs,gen:=z.gen,acc:=z.acc,pn:=z.pn,cn:=z.cn,pc:=z.pc,cc:=z.cc}
theorem Rt{z:XS}(h:z.Ok):(XS.new z.L z.cs z.gen z.acc z.pn z.cn z.pc z.cc).Ok :=
 ⟨h.fit,h.nd,h.cs,(λ v hv=>nomatch hv),(λ v hv=>nomatch hv),h.two,h.lL,h.lc,Nat.zero_le _,Nat.le_refl _,Nat.le_refl _,Nat.le_refl _,Nat.le_refl _,Nat.zero_le _,h.ys,h.gen0,(λ i j _ hj=>absurd hj (Nat.not_lt_zero j)),(λ v hv=>nomatch hv)⟩
structure EOk(m C:Nat)(z:XS)(e:EX):Prop where
 i:tp (T0 e.k m) (XS.wm e.x z) e.dn e.rs e.R
 k:7<=e.k.kind/\e.k.kind<=12
 em:e.k.mask=(m:Int)
 ht:e.k.t.root<=9223372036854775807
 ha:e.k.a=0/\e.k.b=0/\e.k.n=0
 gl:e.x.got.length<=C
structure s6(m B C E:Nat)(W:Wd):Prop where
 z:W.z.Ok
 sz:Sz W.z B
 ex:∀e∈W.ex,EOk m C W.z e
 t0:0<W.ts.length
 tr:(W.ts.getD 0 ⟨0,false⟩).ro=false
 tl:W.ts.length<=5
 el:W.ex.length<=E
 wr:WR (H8 m) m W.z.mm W.ts (W.ex.map EX.R)
theorem S5{m:Nat}{k:Cl}{ts:List eQ}(hk:7<=k.kind/\k.kind<=12)(hm:m<18446744073709551616)(ht:k.t∈ts)(hky:k.key∈An)(hro:z6 k.kind->k.t.ro=false){s:Mm}:∀σ:Kw,σ.mm=s->Inv (H8 m) σ->(∀t∈ts,bR σ t)->Gy (H8 m) σ k (jP k.key m):=λ σ _ _ h =>
 ⟨h _ ht,pV _ _,if_pos hky,hro,.inl hk⟩
section
variable{m B C E bw bm:Nat}{D:List Nat}{A:Fr}{w:World}
end
end

/- Shape: every trie of a world is well-formed, and the program's Check says so. -/
section
open Go Go.RowKit Go.Ct
theorem gdx{l:List Int}{k:Nat}(h:k<l.length):l.getD k 0=l[k]:=by simp[List.getD,h]
section
variable{H:ByteArray->Nat}{σ:Kw}
theorem V4(i0:Inv H σ):∀(n:Nat) (i:Int) (w:List Nat) (g:Int),mU σ i w g->12<=w.length+n->Ss σ.mm.nodes σ.mm.cs n i
 | 0,i,w,g,hi,hn=>by have:=(hi.Cd i0).2.2;omega
 | n+1,i,w,g,hi,hn=>by
  obtain⟨r,hb,hm⟩:=Hh i0 hi
  refine⟨r,hb,λ b hx=>?_⟩
  by_cases k3:(σ.nd r).kind=3
  ·have hc:=hm.kY i0 k3
   obtain⟨j,hj,he⟩:=List.mem_iff_getElem.1 (show b∈(σ.nd r).xs from hx)
   obtain⟨h1,h2⟩:=hc.at hj
   rw[gdx hj,he] at h2
   generalize mi (σ.nd r) j=jj at h1 h2
   rcases hc.br _ h1 _ h2 with hb2|hb2
   ·exact .inl hb2.1
   ·exact .inr ⟨hb2.1,V4 i0 n _ (w++[jj]) _ ⟨⟨hb2.1,hb2.2.1⟩,rfl⟩ (by rw[List.length_append,List.length_singleton];omega)⟩
  ·have hxs:=hm.xh i0 k3
   rw[show(cD σ.mm.nodes r).xs=[] from hxs] at hx
   exact nomatch hx
end
theorem Iy{x:XS}(h:x.Ok):vV x.L:=λ v hv=>by
 have hb:=h.nd v hv
 have h1:=hb.main
 have h2:=hb.prev
 have h3:=hb.status
 have h4:=h.lc
 have e1:v.c.main=v.nd.main:=rfl
 have e2:v.c.prev=v.nd.prev:=rfl
 have e3:v.c.status=v.nd.status:=rfl
 exact⟨hb.bm,by omega,by omega,by omega⟩
structure zw(m:Nat)(z:XS)(t:eQ)(r:Int)(l:List Int):Prop where
 root:fA (z.L.map aK.c) z.cs t.root=some r
 trav:vD z.L z.cs z.gen t.root=some l
 trb:Ss (z.L.map aK.c) z.cs 12 r
 wf:Ul (z.L.map aK.c) z.cs m 12 r [] 0
 sh:A6 z.L
 mn:xY z.L z.cs
 pr:dH z.L z.cs z.gen
 hd:∃t0,l=r::t0
 inl:∀j∈l,(cD (z.L.map aK.c) j).kind=2
theorem V9{m B C E:Nat}{W:Wd}(h:s6 m B C E W){t:eQ}(ht:t∈W.ts)(hl:W.z.L.length<=274877906944):∃r l,zw m W.z t r l:=by
 obtain⟨σ,hi⟩:=h.wr.inv
 have i0:=hi.inv
 have e1:σ.mm.nodes=W.z.L.map aK.c:=by rw[hi.mm];rfl
 have e2:σ.mm.cs=W.z.cs:=by rw[hi.mm];rfl
 have e3:σ.mm.gen=W.z.gen:=by rw[hi.mm];rfl
 obtain⟨r,hr,hir⟩:=bz i0 (hi.ts t ht)
 have hig:mU σ r [] (σ.nd r).gen:=⟨hir,rfl⟩
 obtain⟨v,hv,hbl,_⟩:=Zu i0 12 r [] _ [] hig (by decide) (λ j hj=>nomatch hj)
 have hp:dH W.z.L W.z.cs W.z.gen:=by have:=i0.prop;rw[e2,e3] at this;exact this.to e1.symm
 have h1:=V4 i0 12 r [] _ hig (by decide)
 have h2:=Yr i0 12 r [] _ 0 hig (.inl rfl) (by decide)
 have h3:=vn i0 e1 (Iy h.z) h.z.fit hl
 have h4:=my i0 e1 e2
 have h5:∀j∈v,(cD σ.mm.nodes j).kind=2:=λ j hj=>by
  obtain⟨_,_,hk2,_⟩:=hbl j hj
  exact hk2
 rw[e1,e2] at hr hv h1 h2
 rw[e1] at h5
 rw[List.nil_append] at hv
 obtain⟨t0,ht0⟩:=Qh 12 r [] v hv
 rw[List.nil_append] at ht0
 exact⟨r,v,hr,by rw[pN hp,hr];exact hv,h1,h2,h3,h4,hp,⟨t0,ht0⟩,h5⟩
theorem Zf{m:Nat}{z:XS}{t:eQ}{r:Int}{l:List Int}(k:zw m z t r l){pn pc:Option Addr}{cn cc:Nat}{w:World}(h:hY w z.L z.cs pn pc)(hT:Go.Ct.Cl w (some ⟨0,0,none⟩) (mR gY))(hr:vV z.L)(hc:z.cs.length<=274877906944)(hcn:z.L.length<=cn)(hm:m<18446744073709551616)(hi:t.root<=9223372036854775807) :
  Calls Tryz.prog 11 #[rF z.L z.cs z.gen pn cn pc cc,.agg ⟨[.int .i64 t.root,.bool t.ro]⟩,.int .u64 ((m:Nat):Int)] w λ e w'=>e=.returned (.int .i64 0)/\St w [] [] w' :=
 (Pt h hT k.sh k.mn k.pr hr hc hcn hm t.root t.ro hi k.trav k.root k.trb).mono λ e w' ⟨q,e1,h1,hw⟩=>⟨by rw[e1,h1.2 k.wf];rfl,hw.done⟩
end

end Go.Proofs.YtadnboagdhcedaaGreatDoor
