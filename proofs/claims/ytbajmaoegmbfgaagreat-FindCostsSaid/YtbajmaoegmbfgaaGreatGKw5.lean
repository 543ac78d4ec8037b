/- Merged. -/
import Derived.Test.YtbajmaoegmbfgaaGreatGWo4
set_option linter.unusedSimpArgs false
set_option linter.unusedVariables false
namespace Go.Proofs.YtbajmaoegmbfgaaGreat
section
open Go.Ct
def ctR(ro:Bool):CT:=if ro=true then .rort else .root
def bX(σ:Kw)(t:dV):Prop:=1<=t.root/\t.root<=σ.cl/\σ.ct t.root=ctR t.ro
def qP(σ:Kw)(i:Int)(w:List Nat)(g:Int):Prop:=uV σ i w/\(σ.nd i).gen=g
section
variable{H:ByteArray->Nat}{Q:Rs->Kw->Prop}{σ τ υ:Kw}{i m p g:Int}{w:List Nat}{t:dV}
theorem bX.up(h:bX σ t)(l:Le σ τ):bX τ t:=⟨h.1,by have:=h.2.1;have:=l.cl;omega,by rw[l.ct _ h.2.1];exact h.2.2⟩
theorem qP.up(h:qP σ i w g)(l:Le σ τ):qP τ i w g:=⟨h.1.up l,by rw[l.nd h.1.in.2];exact h.2⟩
theorem qP.in(h:qP σ i w g):1<=i/\i<=σ.len:=h.1.in
theorem qP.rb(i1:Inv H σ)(h:qP σ i w g):oS σ (σ.ce (σ.nd i).main) w g:=by have hc:=i1.eG h.1.1;have:=((i1.ce _ hc.1 hc.2.1).main i hc.2.2).2;rwa [h.1.2,h.2] at this
theorem aDO{cs:List Int}{c o:Int}(h1:1<=c)(h2:c<=cs.length)(h:¬iJ cs c o):bJ cs c≠o:=λ e=>h ⟨h1,h2,by unfold bJ at e;rwa [if_pos ⟨h1,h2⟩] at e⟩
theorem Qd{n:Nv}{c:Int}{k:Int->Tr}(i0:Inv H σ)(hn:lD H σ n w g)(hc:bj σ n c w g)
  (hk:∀υ r cl,Le σ υ->Inv H υ->r=((σ.len+1:Nat):Int)->υ.mm=σ.mm.push n c->υ.nd r=dJ n cl->υ.way r=w->υ.gb r=g->1<=r->r<=υ.len->WT H Q (k r) υ):WT H Q (.alloc n c k) σ:=by
 obtain⟨υ,l2,i2,e2,e3,e4,e5⟩:=gy i0 hn hc;refine⟨υ,l2,i2,e2,hk υ _ σ.cl l2 i2 rfl e2 e3 e4 e5 (by omega) ?_⟩;have:υ.len=σ.len+1:=by simp only[Kw.len,e2,Mm.push,List.length_append,List.length_cons,List.length_nil]
 omega
structure P0(σ:Kw)(m p:Int):Prop where
 mkd:cB (σ.nd m)
 pk:cB (σ.nd p)
 pm:qW σ m p
 ce:σ.ce (σ.nd m).prev=p∨σ.ce (σ.nd m).prev=0∨((σ.nd (σ.ce (σ.nd m).prev)).kind=7/\(σ.nd (σ.ce (σ.nd m).prev)).bR=p)
theorem qW.up(i0:Inv H σ)(hm:cB (σ.nd m))(h:qW σ m p)(l:Le σ τ):qW τ m p:=by have hr:1<=m/\m<=σ.len:=iY hm;exact⟨by rw[l.way m hr.2,l.gb m hr.2];exact h.1.up l,bC.up i0 h.1.1 h.2 l⟩
theorem P0.up(i0:Inv H σ)(i1:Inv H τ)(h:P0 σ m p)(l:Le σ τ):P0 τ m p:=by
 have hr:1<=m/\m<=σ.len:=iY h.mkd;have hp:1<=p/\p<=σ.len:=iY h.pk;have hc:=i0.kK h.mkd;have hx:=l.nxt hc.1 hc.2.1 hc.2.2;refine⟨by rw[l.nd hr.2];exact h.mkd,by rw[l.nd hp.2];exact h.pk,h.pm.up i0 h.mkd l,?_⟩;rw[l.nd hr.2];rcases h.ce with e|e|⟨e1,e2⟩
 ·rw[e] at hx;rcases hx.2 h.pk with h1|h1|h1;·exact .inl h1
  ·exact .inr (.inl h1)
  ·exact .inr (.inr h1)
 ·rw[e] at hx;exact .inr (.inl (hx.1 (jZ (.inl (yS _)))))
 ·have e3:=hx.1 (jZ (.inr (.inl e1)));rw[e3];rw[l.nd (eQ (N:=σ.mm.nodes) (i:=σ.ce (σ.nd m).prev) (by rw[e1];decide)).2];exact .inr (.inr ⟨e1,e2⟩)
theorem P0.cell(i0:Inv H σ)(h:P0 σ m p):1<=(σ.nd m).prev/\(σ.nd m).prev<=σ.cl/\σ.ct (σ.nd m).prev=.prev m:=i0.kK h.mkd
theorem Inv.desc(i0:Inv H σ){v:Int}(h:(σ.nd v).kind=8):v<=σ.len/\uV σ (σ.nd v).bR []/\uV σ (σ.nd v).new []/\1<=(σ.nd v).status/\(σ.nd v).status<=σ.cl/\σ.ct (σ.nd v).status=.stat v:=by have hr:1<=v/\v<=σ.len:=eQ (N:=σ.mm.nodes) (i:=v) (by rw[h];decide);have hn:=i0.nd v hr.1 hr.2;have h8:=hn.k8 h;exact⟨hr.2,h8.1,h8.2.1,h8.2.2.1,hn.bd.status,h8.2.2.2⟩
theorem bX.rw(hT:bX σ t)(hr:t.ro=false):σ.ct t.root=.root:=by rw[hT.2.2,hr];rfl
theorem Qo{v s:Int}(i0:Inv H σ)(h:(σ.nd v).kind=8)(hs:s=1∨s=2){o:Int}(l1:Le σ τ)(i1:Inv H τ):Xk τ (σ.nd v).status o s:=by
 have hd:=i0.desc h;have e:τ.ct (σ.nd v).status=.stat v:=by rw[l1.ct _ hd.2.2.2.2.1];exact hd.2.2.2.2.2
 refine⟨by omega,by have:=i1.two;omega,λ i' h=>?_,λ m' h=>?_,λ d h=>.inr hs,λ h=>?_,λ h=>?_⟩<;>rw[e] at h<;>cases h
theorem oz(hT:bX σ t)(i0:Inv H σ):σ.ce t.root<=σ.len/\(uV σ (σ.ce t.root) []∨((σ.nd (σ.ce t.root)).kind=8/\t.ro=false)):=by
 have h:=i0.ce _ hT.1 hT.2.1;refine⟨h.hi,?_⟩;cases hr:t.ro with
 | true=>exact .inl (h.rort (by rw[hT.2.2,hr];rfl))
 | false=>
  rcases h.root (hT.rw hr) with h1|h1;·exact .inl h1
  ·exact .inr ⟨h1,rfl⟩
theorem bX.roI(hT:bX σ t)(i0:Inv H σ)(hr:t.ro=true):uV σ (σ.ce t.root) []:=(i0.ce _ hT.1 hT.2.1).rort (by rw[hT.2.2,hr];rfl)
theorem Su{n o:Int}(i0:Inv H σ)(hi:qP σ i w g)(hn:oS σ n w g)(l1:Le σ τ)(i1:Inv H τ):Xk τ (σ.nd i).main o n:=by
 have hc:=i0.eG hi.1.1;have e:τ.ct (σ.nd i).main=.main i:=by rw[l1.ct _ hc.2.1];exact hc.2.2
 have hn1:=hn.up l1;refine⟨by have:=hn1.in;omega,hn1.in.2,λ i' h=>?_,λ m' h=>?_,λ d h=>?_,λ h=>?_,λ h=>?_⟩<;>rw[e] at h
 ·cases h;have:=hi.up l1;rw[this.1.2,this.2];exact hn1
 ·cases h
 ·cases h
 ·cases h
 ·cases h
end
end
section
open Go Go.RowKit Go.Ct
section
variable{H:ByteArray->Nat}{σ τ υ:Kw}
structure o8(H:ByteArray->Nat)(σ υ:Kw)(c v:Int):Prop where
 le:Le σ υ
 inv:Inv H υ
 at':υ.ce c=v
 other:∀x,x≠c->υ.ce x=σ.ce x
def Ka(σ τ:Kw)(i:Int):Prop:=∀c:Int,1<=c->c<=σ.cl->σ.ct c≠.main i->(∀m,σ.ct c≠.prev m)->τ.ce c=σ.ce c
theorem Ka.refl(σ:Kw)(i:Int):Ka σ σ i:=λ _ _ _ _ _=>rfl
theorem Ka.trans{i:Int}(l:Le σ τ)(h:Ka σ τ i)(h2:Ka τ υ i):Ka σ υ i:=λ c h1 hc a b=>by have e:=l.ct c hc;rw[h2 c h1 (by have:=l.cl;omega) (by rw[e];exact a) (λ m=>by rw[e];exact b m)];exact h c h1 hc a b
theorem Fu{c v i:Int}(h:o8 H σ υ c v)(hc:σ.ct c=.main i∨∃m,σ.ct c=.prev m):Ka σ υ i:=λ x _ _ a b=>h.other x λ e=>by
 subst e;rcases hc with hc|⟨m,hc⟩;·exact a hc
 ·exact b m hc
theorem iw{n:Nv}{x i:Int}(l:Le σ υ)(e:υ.mm=σ.mm.push n x):Ka σ υ i:=λ c' _ hc _ _=>by
 have e2:υ.mm.cs=fJ n.kind σ.mm.cs x:=by rw[e];rfl
 show bJ υ.mm.cs c'=_;rw[e2];unfold fJ;split;·exact sW hc
 ·rfl
end
end
section
open Go Go.RowKit Go.Ct
structure Xp where
 H:ByteArray->Nat
 Q:Rs->Kw->Prop
 A:Tr->Prop
 C:Nat
 E:Kw->Prop
 R:Int->Int->Tr->Kw->Prop
 b:Bool
 al:Bool
structure Gg(X:Xp)(σ τ:Kw):Prop where
 le:Le σ τ
 inv:Inv X.H τ
 solo:X.b=false->τ=σ
def XT(X:Xp):Tr->Nat->Kw->Prop
 | .done r,_,σ=>X.E σ∨X.Q r σ
 | .load c k,n,σ=>X.E σ∨∃m,(n=m+1∨(X.A (.load c k)/\m=X.C))/\∀τ,Gg X σ τ->XT X (k (τ.ce c)) m τ
 | .kH c o v k,n,σ=>X.E σ∨∃m,n=m+1/\∀τ,Gg X σ τ->(iJ τ.mm.cs c o->Le τ (τ.set c o v)/\Inv X.H (τ.set c o v)/\X.R c v (k true) (τ.set c o v)/\XT X (k true) m (τ.set c o v))/\(¬iJ τ.mm.cs c o->XT X (k false) m τ)
 | .alloc nd i k,n,σ=>X.E σ∨((nd.kind=2->bC σ i)/\(X.al=true->∀υ,Le σ υ->Inv X.H υ->υ.mm=σ.mm.push nd i->XT X (k ((σ.len+1:Nat):Int)) n υ)/\(X.al=false->∃υ,Le σ υ/\Inv X.H υ/\υ.mm=σ.mm.push nd i/\XT X (k ((σ.len+1:Nat):Int)) n υ))
 | .cell i k,n,σ=>X.E σ∨((σ.nd i).kind=2/\(X.al=true->∀υ,Le σ υ->Inv X.H υ->υ.mm=⟨σ.mm.nodes,σ.mm.cs++[i],σ.mm.gen⟩->XT X (k ((σ.cl+1:Nat):Int)) n υ)/\(X.al=false->∃υ,Le σ υ/\Inv X.H υ/\υ.mm=⟨σ.mm.nodes,σ.mm.cs++[i],σ.mm.gen⟩/\XT X (k ((σ.cl+1:Nat):Int)) n υ))
 | .gen k,n,σ=>X.E σ∨((X.al=true->∀υ,Le σ υ->Inv X.H υ->υ.mm=⟨σ.mm.nodes,σ.mm.cs,σ.mm.gen+1⟩->XT X (k (σ.mm.gen+1)) n υ)/\(X.al=false->∃υ,Le σ υ/\Inv X.H υ/\υ.mm=⟨σ.mm.nodes,σ.mm.cs,σ.mm.gen+1⟩/\XT X (k (σ.mm.gen+1)) n υ))
 | .node r k,n,σ=>X.E σ∨(r<=σ.len/\XT X (k (σ.nd r)) n σ)
 | .stuck,_,_=>True
section
variable{X:Xp}{σ τ υ:Kw}
variable{n:Nat}{c:Int}
theorem Gg.refl(i:Inv X.H σ):Gg X σ σ:=⟨Le.refl σ,i,λ _=>rfl⟩
theorem Gg.trans(i0:Inv X.H σ)(h:Gg X σ τ)(h2:Gg X τ υ):Gg X σ υ:=⟨h.le.trans i0 h.inv h2.le,h2.inv,λ e=>(h2.solo e).trans (h.solo e)⟩
theorem XT.stop{t:Tr}(h:X.E σ):XT X t n σ:=by cases t<;>first|exact .inl h|trivial
theorem XT.mono:∀{t:Tr} {n m:Nat} {σ:Kw},n<=m->XT X t n σ->XT X t m σ:=by
 intro t;induction t with
 | done r=>intro n m σ _ h;exact h
 | stuck=>intro n m σ _ _;trivial
 | load c k ih=>
  intro n m σ hnm h;rcases h with h|⟨q,e,h⟩;·exact .inl h
  ·rcases e with e|e;·exact .inr ⟨m-1,.inl (by omega),λ τ hg=>ih _ (by omega) (h τ hg)⟩
   ·exact .inr ⟨q,.inr e,h⟩
 | kH c o v k ih=>
  intro n m σ hnm h;rcases h with h|⟨q,e,h⟩;·exact .inl h
  ·refine .inr ⟨m-1,by omega,λ τ hg=>⟨λ hc=>?_,λ hc=>ih _ (by omega) ((h τ hg).2 hc)⟩⟩;obtain⟨a,b,r,d⟩:=(h τ hg).1 hc;exact⟨a,b,r,ih _ (by omega) d⟩
 | alloc nd i k ih=>
  intro n m σ hnm h;rcases h with h|⟨a,b,d⟩;·exact .inl h
  ·refine .inr ⟨a,λ ha υ l i1 e=>ih _ hnm (b ha υ l i1 e),λ ha=>?_⟩;obtain⟨υ,l,i1,e,d⟩:=d ha;exact⟨υ,l,i1,e,ih _ hnm d⟩
 | cell i k ih=>
  intro n m σ hnm h;rcases h with h|⟨a,b,d⟩;·exact .inl h
  ·refine .inr ⟨a,λ ha υ l i1 e=>ih _ hnm (b ha υ l i1 e),λ ha=>?_⟩;obtain⟨υ,l,i1,e,d⟩:=d ha;exact⟨υ,l,i1,e,ih _ hnm d⟩
 | gen k ih=>
  intro n m σ hnm h;rcases h with h|⟨b,d⟩;·exact .inl h
  ·refine .inr ⟨λ ha υ l i1 e=>ih _ hnm (b ha υ l i1 e),λ ha=>?_⟩;obtain⟨υ,l,i1,e,d⟩:=d ha;exact⟨υ,l,i1,e,ih _ hnm d⟩
 | node r k ih=>
  intro n m σ hnm h;rcases h with h|⟨a,d⟩;·exact .inl h
  ·exact .inr ⟨a,ih _ hnm d⟩
theorem XT.fresh{k:Int->Tr}(ha:X.A (.load c k))(h:XT X (.load c k) (X.C+1) σ):XT X (.load c k) n σ:=by
 rcases h with h|⟨q,e,h⟩;·exact .inl h
 ·refine .inr ⟨X.C,.inr ⟨ha,rfl⟩,λ τ hg=>?_⟩;have:=h τ hg;rcases e with e|e
  ·rwa [show q=X.C by omega] at this
  ·rwa [e.2] at this
theorem cS{r:Int}{k:Nv->Tr}(h:r<=σ.len)(w:XT X (k (σ.nd r)) n σ):XT X (.node r k) n σ:=.inr ⟨h,w⟩
theorem pT{k:Int->Tr}(h:∀τ,Gg X σ τ->XT X (k (τ.ce c)) n τ):XT X (.load c k) (n+1) σ:=.inr ⟨n,.inl rfl,h⟩
structure aEE(X:Xp)(σ τ:Kw)(c o v:Int)(bb:Bool):Prop where
 t:bb=true->τ.ce c=v
 f:bb=false->τ.ce c≠o
 s:X.b=false->(bb=true/\σ.ce c=o/\o8 X.H σ τ c v)∨(bb=false/\τ=σ)
structure aq(X:Xp):Prop where
 r0:∀c v t υ,(∀i,υ.ct c≠.main i)->υ.ct c≠.root->X.R c v t υ
 r1:∀c v t υ i,υ.ct c=.main i->bC υ v->X.R c v t υ
 r2:∀υ t i w g m K,Inv X.H υ->bX υ t->qP υ i w g->oS υ m w g->X.R (υ.nd i).main m (oJ t i m K) υ
 r3:∀c v t υ,υ.ct c=.root->(υ.nd v).kind=2->X.R c v t υ
 r4:∀υ t d (K:Int->Int->Tr),Inv X.H υ->bX υ t->t.ro=false->(υ.nd d).kind=8->X.R t.root d (qC t d (.node d λ nd=>.load nd.status λ s=>pM t d s (K s))) υ
theorem Ef{c o v:Int}{k:Bool->Tr}{n:Nat}(h1:1<=c)(h2:c<=σ.cl)(i0:Inv X.H σ)(hset:∀τ,Le σ τ->Inv X.H τ->iJ τ.mm.cs c o->Xk τ c o v)
  (hR:∀υ,Le σ υ->Inv X.H υ->υ.ce c=v->X.R c v (k true) υ)
  (hk:∀τ bb,Le σ τ->Inv X.H τ->aEE X σ τ c o v bb->XT X (k bb) n τ):XT X (.kH c o v k) (n+1) σ :=
 .inr ⟨n,rfl,λ τ hg=>⟨λ hc=>by
  obtain⟨l2,i2,e3⟩:=xj hg.inv hc (hset τ hg.le hg.inv hc)
  have l:=hg.le.trans i0 hg.inv l2;refine⟨l2,i2,hR _ l i2 e3,hk _ true l i2 ⟨λ _=>e3,λ h=>(nomatch h),λ hb=>.inl ⟨rfl,?_⟩⟩⟩;have e:=hg.solo hb;subst e;refine⟨wZ hc,l2,i2,e3,λ x hx=>?_⟩;show bJ (eK τ.mm.cs c o v) x=_
  rw[kW hc,if_neg hx],
 λ hc=>hk τ false hg.le hg.inv ⟨λ h=>(nomatch h),λ _=>aDO h1 (by have:=hg.le.cl;simp only[Kw.cl] at *;omega) hc,λ hb=>.inr ⟨rfl,hg.solo hb⟩⟩⟩⟩
variable{w:List Nat}{g:Int}
theorem Lb(cs:List Int)(x:Int):bJ (cs++[x]) ((cs.length+1:Nat):Int)=x:=by unfold bJ;rw[if_pos ⟨by omega,by simp⟩,show(((cs.length+1:Nat):Int)-1).toNat=cs.length by omega];simp[jA]
structure Uy(σ υ:Kw)(n:Nv)(c r:Int):Prop where
 mm:υ.mm=σ.mm.push n c
 re:r=((σ.len+1:Nat):Int)
 nd:υ.nd r=dJ n σ.cl
 r1:1<=r
 r2:r<=υ.len
structure xe(σ υ:Kw)(n:Nv)(c r:Int)(w:List Nat)(g:Int):Prop extends Uy σ υ n c r where
 way:υ.way r=w
 gb:υ.gb r=g
theorem Hh{n:Nv}{c:Int}(e:υ.mm=σ.mm.push n c):Uy σ υ n c ((σ.len+1:Nat):Int):=by
 have hl:υ.len=σ.len+1:=by simp only[Kw.len,e,Mm.push,List.length_append,List.length_cons,List.length_nil]
 refine⟨e,rfl,?_,by omega,by omega⟩;show bH υ.mm.nodes _=_;rw[e];simp only[Mm.push,bH,List.length_append,List.length_cons,List.length_nil];rw[if_pos ⟨by omega,by simp only[Kw.len];omega⟩];have e:(((σ.len+1:Nat):Int)-1).toNat=σ.mm.nodes.length:=by simp only[Kw.len];omega
 rw[e];simp[jA]
theorem Uy.ce{n:Nv}{c r x:Int}(h:Uy σ υ n c r)(hx:x<=σ.cl):υ.ce x=σ.ce x:=by
 have e2:υ.mm.cs=fJ n.kind σ.mm.cs c:=by rw[h.mm];rfl
 show bJ υ.mm.cs x=_;rw[e2];unfold fJ;split;·exact sW hx
 ·rfl
theorem Uy.zl{n:Nv}{c r i:Int}(h:Uy σ υ n c r)(l:Le σ υ):Ka σ υ i:=iw l h.mm
theorem Uy.new{n:Nv}{c r:Int}(h:Uy σ υ n c r)(hk:n.kind=2∨n.kind=3∨n.kind=5∨n.kind=6∨n.kind=8):υ.ce ((σ.cl+1:Nat):Int)=c:=by
 have e2:υ.mm.cs=σ.mm.cs++[c]:=by rw[h.mm];unfold Mm.push fJ;dsimp only;rw[if_pos hk]
 show bJ υ.mm.cs _=c;rw[e2];exact Lb _ _
theorem Uy.prev{n:Nv}{c r:Int}(h:Uy σ υ n c r)(hk:cB n):υ.ce (υ.nd r).prev=c:=by have hk':n.kind=3∨n.kind=5∨n.kind=6:=hk;rw[h.nd,show(dJ n σ.cl).prev=((σ.cl+1:Nat):Int) from if_pos hk'];exact h.new (by omega)
theorem Uy.main{n:Nv}{c r:Int}(h:Uy σ υ n c r)(hk:n.kind=2):υ.ce (υ.nd r).main=c:=by rw[h.nd,show(dJ n σ.cl).main=((σ.cl+1:Nat):Int) from if_pos hk];exact h.new (.inl hk)
theorem Uy.stat{n:Nv}{c r:Int}(h:Uy σ υ n c r)(hk:n.kind=8):υ.ce (υ.nd r).status=c:=by rw[h.nd,show(dJ n σ.cl).status=((σ.cl+1:Nat):Int) from if_pos hk];exact h.new (.inr (.inr (.inr (.inr hk))))
theorem jL{nd:Nv}{c:Int}{k:Int->Tr}{n:Nat}(hal:X.al=false)(i0:Inv X.H σ)(hn:lD X.H σ nd w g)(hc:bj σ nd c w g)
  (hk:∀υ r,Le σ υ->Inv X.H υ->xe σ υ nd c r w g->XT X (k r) n υ) (h2:nd.kind=2->bC σ c:=by intro h;first|exact dR (a:=3) (b:=2) h|exact dR (a:=4) (b:=2) h|exact dR (a:=5) (b:=2) h|exact dR (a:=6) (b:=2) h|exact dR (a:=7) (b:=2) h|exact dR (a:=8) (b:=2) h|exact absurd h (cB.ne0 (by assumption)).2.2.1):XT X (.alloc nd c k) n σ:=by obtain⟨υ,l2,i2,e2,e3,e4,e5⟩:=gy i0 hn hc;exact .inr ⟨h2,λ h=>(by rw[hal] at h;cases h),λ _=>⟨υ,l2,i2,e2,hk υ _ l2 i2 ⟨Hh e2,e4,e5⟩⟩⟩
theorem w7{nd:Nv}{c:Int}{k:Int->Tr}{n:Nat}(i0:Inv X.H σ)(hn:lD X.H σ nd w g)(hc:bj σ nd c w g)(h2:nd.kind≠2)
  (hk:∀υ r,Le σ υ->Inv X.H υ->Uy σ υ nd c r->XT X (k r) n υ):XT X (.alloc nd c k) n σ:=by obtain⟨υ,l2,i2,e2,e3,e4,e5⟩:=gy i0 hn hc;exact .inr ⟨λ h=>absurd h h2,λ _ υ l i1 e=>hk υ _ l i1 (Hh e),λ _=>⟨υ,l2,i2,e2,hk υ _ l2 i2 (Hh e2)⟩⟩
end
end
section
open Go Go.RowKit Go.Ct
section
variable{X:Xp}{σ τ υ:Kw}{i m p g v:Int}{w:List Nat}{t:dV}{n:Nat}
structure aEu(X:Xp)(σ τ:Kw)(i m v:Int)(cm:Prop):Prop where
 ok:τ.ce (σ.nd i).main≠m∨bC τ m
 s:X.b=false->τ.ce (σ.nd i).main=v/\Ka σ τ i
 c:X.b=false->cm->v=m
abbrev KC(X:Xp)(σ:Kw)(i m:Int)(w:List Nat)(g:Int)(cm:Prop)(K:Int->Tr)(n:Nat):Prop:=∀τ v,Le σ τ->Inv X.H τ->oS τ v w g->bC τ v->aEu X σ τ i m v cm->XT X (K v) n τ
variable{cm:Prop}
theorem KC.up{K:Int->Tr}(i0:Inv X.H σ)(i1:Inv X.H τ)(hi:qP σ i w g)(h:KC X σ i m w g cm K n)(l:Le σ τ)(f:X.b=false->Ka σ τ i):KC X τ i m w g cm K n:=λ υ v l2 i2 hm hs hv=>h υ v (l.trans i0 i1 l2) i2 hm hs ⟨by rw[<- l.nd hi.in.2];exact hv.ok,λ hb=>⟨by rw[<- l.nd hi.in.2];exact(hv.s hb).1,(f hb).trans l (hv.s hb).2⟩,hv.c⟩
theorem Gg.zl(h:Gg X σ τ):X.b=false->Ka σ τ i:=λ hb=>by rw[h.solo hb];exact .refl σ i
theorem We(i0:Inv X.H σ)(hm:cB (σ.nd m))(hi:(σ.nd i).kind=2):(σ.nd m).prev≠(σ.nd i).main:=λ e=>by have h1:=(i0.kK hm).2.2;rw[e,(i0.eG hi).2.2] at h1;cases h1
theorem zo{K:Int->Tr}(hX:aq X)(i0:Inv X.H σ)(hi:qP σ i w g)(hm:oS σ m w g)(hc0:X.b=false->σ.ce (σ.nd i).main=m)(hd:¬bC σ m)(h7:(σ.nd p).kind=7)(hp:qW σ m (σ.nd p).bR)(hcm:X.b=false->¬cm)(hK:KC X σ i m w g cm K n):XT X (Jj i m p K) (n+1) σ:=by
 have hr:1<=p/\p<=σ.len:=eQ (N:=σ.mm.nodes) (i:=p) (by rw[h7];decide);have hc:=i0.eG hi.1.1;have hold:oS σ (σ.nd p).bR w g:=by have:=hp.1;rw[hm.2.1] at this;exact this.le hm.2.2
 have hno:(σ.nd p).bR≠m:=λ e=>hd (by rw[<- e];exact hp.2);refine cS hi.in.2 (cS hr.2 (Ef hc.1 hc.2.1 i0 (λ τ l1 i1 _=>Su i0 hi hold l1 i1) (λ υ l _ _=>hX.r1 _ _ _ _ i (by rw[l.ct _ hc.2.1];exact hc.2.2) (bC.up i0 hold.1 hp.2 l)) λ τ bb l1 i1 hf=>cS (by have:=l1.len;have:=hr.2;omega) ?_));rw[l1.nd hr.2];refine hK τ _ l1 i1 (hold.up l1) (bC.up i0 hold.1 hp.2 l1) ⟨.inl ?_,λ hb=>?_,λ hb h=>absurd h (hcm hb)⟩
 ·cases bb with
  | true=>rw[hf.t rfl];exact hno
  | false=>exact hf.f rfl
 ·rcases hf.s hb with⟨_,_,h⟩|⟨h1,h2⟩;·exact⟨h.at',Fu h (.inl hc.2.2)⟩
  ·subst h2;exact absurd (hc0 hb) (hf.f h1)
theorem Kk{K:Int->Tr}(hX:aq X)(i0:Inv X.H σ)(hi:qP σ i w g)(hm:oS σ m w g)(hc0:X.b=false->σ.ce (σ.nd i).main=m)(hp:P0 σ m p)(hd:σ.ce (σ.nd m).prev≠p)(hcm:X.b=false->cm->σ.ce (σ.nd m).prev=0)(hK:KC X σ i m w g cm K n):XT X (kN i m K) (n+2) σ:=by
 have hc:=hp.cell i0;have hr:=hm.in;refine cS hr.2 (pT λ τ hg=>?_);have l1:=hg.le;have i1:=hg.inv;have hp1:=hp.up i0 i1 l1;have e1:(τ.nd m).prev=(σ.nd m).prev:=by rw[l1.nd hr.2]
 have hce:=hp1.ce;rw[e1] at hce;have hne:τ.ce (σ.nd m).prev≠p:=by
  have hx:=l1.nxt hc.1 hc.2.1 hc.2.2;have hk:¬cB (σ.nd (σ.ce (σ.nd m).prev)):=by
   rcases hp.ce with e|e|e;·exact absurd e hd
   ·rw[e];exact jZ (.inl (yS _))
   ·exact jZ (.inr (.inl e.1))
  rw[hx.1 hk];exact hd
 have hc1:X.b=false->τ.ce (τ.nd i).main=m:=λ hb=>by rw[hg.solo hb];exact hc0 hb
 try dsimp only
 split
 ·rename_i e0;have hs:bC τ m:=by unfold bC;rw[e1];exact e0
  exact(hK τ m l1 i1 (hm.up l1) hs ⟨.inr hs,λ hb=>⟨by rw[<- l1.nd hi.in.2];exact hc1 hb,hg.zl hb⟩,λ _ _=>rfl⟩).mono (by omega)
 ·rename_i e0;rcases hce with e|e|⟨e,e2⟩;·exact absurd e hne
  ·exact absurd e e0
  ·exact zo hX i1 (hi.up l1) (hm.up l1) hc1 (by unfold bC;rw[e1];exact e0) e (by rw[e2];exact hp1.pm) (λ hb h=>e0 (by rw[hg.solo hb];exact hcm hb h)) (hK.up i0 i1 hi l1 hg.zl)
theorem dr{K:Int->Tr}{c:Bool}(hX:aq X)(i0:Inv X.H σ)(hi:qP σ i w g)(hm:oS σ m w g)(hc0:X.b=false->σ.ce (σ.nd i).main=m)(hp:P0 σ m p)(hpc:X.b=false->σ.ce (σ.nd m).prev=p)(hcm:X.b=false->cm->c=true)(hK:KC X σ i m w g cm K n):XT X (lF i m p c K) (n+3) σ:=by
 have hr:=hm.in;have hc:=hp.cell i0;have hmc:=i0.eG hi.1.1;have hne:=We i0 hm.1 hi.1.1;unfold lF;try dsimp only
 split
 ·refine cS hr.2 (Ef hc.1 hc.2.1 i0 (λ τ l1 i1 _=>?_) (λ υ l _ _=>hX.r0 _ _ _ _ (λ i' h=>?_) (λ h=>?_)) λ τ b l1 i1 hf=>?_)
  ·have e:τ.ct (σ.nd m).prev=.prev m:=by rw[l1.ct _ hc.2.1];exact hc.2.2
   refine⟨Int.le_refl _,bM _,λ i' h=>?_,λ m' h=>⟨(hp.up i0 i1 l1).pk,.inl rfl⟩,λ d h=>.inl rfl,λ h=>?_,λ h=>?_⟩<;>rw[e] at h<;>cases h
  ·rw[l.ct _ hc.2.1,hc.2.2] at h;cases h
  ·rw[l.ct _ hc.2.1,hc.2.2] at h;cases h
  ·have f1:X.b=false->Ka σ τ i:=λ hb=>by
    rcases hf.s hb with⟨_,_,h⟩|⟨_,h⟩;·exact Fu h (.inr ⟨m,hc.2.2⟩)
    ·rw[h];exact .refl σ i
   have c1:X.b=false->τ.ce (τ.nd i).main=m:=λ hb=>by
    rw[l1.nd hi.in.2];rcases hf.s hb with⟨_,_,h⟩|⟨_,h⟩;·rw[h.other _ (Ne.symm hne)];exact hc0 hb
    ·rw[h];exact hc0 hb
   refine Kk hX i1 (hi.up l1) (hm.up l1) c1 (hp.up i0 i1 l1) ?_ (λ hb _=>?_) (hK.up i0 i1 hi l1 f1);rotate_left
   ·rw[l1.nd hr.2];rcases hf.s hb with⟨_,_,h⟩|⟨h1,h⟩;·exact h.at'
    ·subst h;exact absurd (hpc hb) (hf.f h1)
   rw[l1.nd hr.2];cases b with
   | true=>rw[hf.t rfl];have:=(iY hp.pk).1;omega
   | false=>exact hf.f rfl
 ·refine cS hr.2 (w7 (w:=[]) (g:=0) i0 (qz i0 hp.pk) ⟨⟨Int.le_refl _,bM _⟩,λ k=>dR (a:=7) (b:=2) k,λ k=>absurd k (jZ (.inr (.inl rfl))),λ _=>rfl⟩ (λ k=>dR (a:=7) (b:=2) k) (λ υ f l1 i1 af=>?_));have hp1:=hp.up i0 i1 l1;have hc1:=hp1.cell i1;have e0:(υ.nd m).prev=(σ.nd m).prev:=by rw[l1.nd hr.2]
  rw[e0] at hc1;have h7:(υ.nd f).kind=7/\(υ.nd f).bR=p:=by rw[af.nd];exact⟨rfl,rfl⟩
  have hf1:=af.r1;have hf2:=af.r2;refine Ef hc1.1 hc1.2.1 i1 (λ τ l2 i2 _=>?_) (λ ρ l _ _=>hX.r0 _ _ _ _ (λ i' h=>?_) (λ h=>?_)) (λ τ b l2 i2 hf=>?_)
  ·have e:τ.ct (σ.nd m).prev=.prev m:=by rw[l2.ct _ hc1.2.1];exact hc1.2.2
   refine⟨by omega,by have:=l2.len;omega,λ i' h=>?_,λ m' h=>⟨(hp1.up i1 i2 l2).pk,.inr ?_⟩,λ d h=>?_,λ h=>?_,λ h=>?_⟩;·rw[e] at h;cases h
   ·rw[l2.nd hf2];exact h7
   ·rw[e] at h;cases h
   ·rw[e] at h;cases h
   ·rw[e] at h;cases h
  ·rw[l.ct _ hc1.2.1,hc1.2.2] at h;cases h
  ·rw[l.ct _ hc1.2.1,hc1.2.2] at h;cases h
  ·have hp2:=hp1.up i1 i2 l2;have l12:=l1.trans i0 i1 l2
   have f1:X.b=false->Ka υ τ i:=λ hb=>by
    rcases hf.s hb with⟨_,_,h⟩|⟨_,h⟩;·exact Fu h (.inr ⟨m,hc1.2.2⟩)
    ·rw[h];exact .refl υ i
   have c1:X.b=false->τ.ce (τ.nd i).main=m:=λ hb=>by
    rw[l12.nd hi.in.2];rcases hf.s hb with⟨_,_,h⟩|⟨_,h⟩;·rw[h.other _ (Ne.symm hne),af.ce hmc.2.1];exact hc0 hb
    ·rw[h,af.ce hmc.2.1];exact hc0 hb
   refine Kk hX i2 ((hi.up l1).up l2) ((hm.up l1).up l2) c1 hp2 ?_ (λ hb h=>absurd (hcm hb h) (by assumption)) ((hK.up i0 i1 hi l1 λ _=>af.zl l1).up i1 i2 (hi.up l1) l2 f1);rw[l2.nd (by have:=l1.len;omega),e0];cases b with
   | true=>rw[hf.t rfl];intro e;have:=hp1.pk;rw[<- e] at this;exact absurd this (jZ (.inr (.inl h7.1)))
   | false=>exact hf.f rfl
def DsF(σ τ:Kw)(t:dV):Prop:=∀v,σ.ce t.root=v->(σ.nd v).kind=8->σ.ce (σ.nd v).status=0->(τ.ce t.root=v/\τ.ce (σ.nd v).status=0)∨(τ.ce t.root=(σ.nd v).bR/\τ.ce (σ.nd v).status=2)
theorem DsF.refl(σ:Kw)(t:dV):DsF σ σ t:=λ _ h1 _ h2=>.inl ⟨h1,h2⟩
theorem xT(hT:bX σ t)(f:Ka σ τ i):τ.ce t.root=σ.ce t.root:=by have h:=hT.2.2;refine f _ hT.1 hT.2.1 ?_ λ m=>?_<;>rw[h]<;>unfold ctR<;>split<;>(intro h;cases h)
theorem Rh{H:ByteArray->Nat}(i0:Inv H σ)(h:(σ.nd v).kind=8)(f:Ka σ τ i):τ.ce (σ.nd v).status=σ.ce (σ.nd v).status:=by have hd:=i0.desc h;exact f _ hd.2.2.2.1 hd.2.2.2.2.1 (by rw[hd.2.2.2.2.2];intro h;cases h) (λ m=>by rw[hd.2.2.2.2.2];intro h;cases h)
theorem uc{H:ByteArray->Nat}(hT:bX σ t)(i0:Inv H σ)(f:Ka σ τ i):DsF σ τ t:=λ _ h1 h2 h3=>.inl ⟨(xT hT f).trans h1,(Rh i0 h2 f).trans h3⟩
theorem DsF.zl{H:ByteArray->Nat}(hT:bX σ t)(i0:Inv H σ)(i1:Inv H τ)(l:Le σ τ)(h:DsF σ τ t)(f:Ka τ υ i):DsF σ υ t:=λ v h1 h2 h3=>by have hd:=i0.desc h2;have e:τ.nd v=σ.nd v:=l.nd hd.1;have es:=Rh (v:=v) i1 (by rw[e];exact h2) f;rw[e] at es;rw[xT (hT.up l) f,es];exact h v h1 h2 h3
def FrR(σ τ:Kw):Prop:=∀c:Int,1<=c->c<=σ.cl->σ.ct c≠.root->(∀d,σ.ct c≠.stat d)->τ.ce c=σ.ce c
theorem FrR.refl(σ:Kw):FrR σ σ:=λ _ _ _ _ _=>rfl
theorem xo{H:ByteArray->Nat}{c v:Int}(h:o8 H σ υ c v)(hc:σ.ct c=.root∨∃d,σ.ct c=.stat d):FrR σ υ:=λ x _ _ a b=>h.other x λ e=>by
 subst e;rcases hc with hc|⟨m,hc⟩;·exact a hc
 ·exact b m hc
theorem FrR.trans(l:Le σ τ)(h:FrR σ τ)(h2:FrR τ υ):FrR σ υ:=λ c h1 hc a b=>by have e:=l.ct c hc;rw[h2 c h1 (by have:=l.cl;omega) (by rw[e];exact a) (λ m=>by rw[e];exact b m)];exact h c h1 hc a b
theorem Li{s:Int}{K:Int->Tr}(hX:aq X)(hT:bX σ t)(hro:t.ro=false)(i0:Inv X.H σ)(h:(σ.nd v).kind=8)
  (hc:X.b=false->σ.ce t.root=v∨σ.ce t.root=if s=1 then(σ.nd v).new else(σ.nd v).bR)
  (hK:∀τ,Le σ τ->Inv X.H τ->uV τ (if s=1 then(σ.nd v).new else(σ.nd v).bR) []->τ.ce t.root≠v->(X.b=false->τ.ce t.root=(if s=1 then(σ.nd v).new else(σ.nd v).bR)/\∀x,x≠t.root->τ.ce x=σ.ce x)->XT X (K (if s=1 then(σ.nd v).new else(σ.nd v).bR)) n τ):XT X (pM t v s K) (n+1) σ:=by
 have hd:=i0.desc h;refine cS hd.1 ?_;show XT X (.kH t.root v (if s=1 then(σ.nd v).new else(σ.nd v).bR) λ _=>K (if s=1 then(σ.nd v).new else(σ.nd v).bR)) (n+1) σ
 have hw:uV σ (if s=1 then(σ.nd v).new else(σ.nd v).bR) []:=by split;exact hd.2.2.1;exact hd.2.1
 generalize (if s=1 then(σ.nd v).new else(σ.nd v).bR)=w at hw hc hK ⊢;have hwv:w≠v:=λ e=>by rw[<- e,hw.1] at h;exact absurd h (by decide)
 refine Ef hT.1 hT.2.1 i0 (λ τ l1 i1 _=>?_) (λ υ l _ _=>hX.r3 _ _ _ _ ((hT.up l).rw hro) (hw.up l).1) (λ τ b l1 i1 hf=>hK τ l1 i1 (hw.up l1) ?_ λ hb=>?_);·have e:=(hT.up l1).rw hro;have hw1:=hw.up l1;refine⟨by have:=hw1.in;omega,hw1.in.2,λ i' h=>?_,λ m' h=>?_,λ d h=>?_,λ h=>.inl hw1,λ h=>?_⟩<;>rw[e] at h<;>cases h
 ·cases b with
  | true=>rw[hf.t rfl];exact hwv
  | false=>exact hf.f rfl
 ·rcases hf.s hb with⟨_,_,h⟩|⟨h1,h2⟩;·exact⟨h.at',h.other⟩
  ·subst h2;exact⟨(hc hb).resolve_left (hf.f h1),λ _ _=>rfl⟩
structure RtF(X:Xp)(σ τ:Kw)(t:dV)(r:Int):Prop where
 s:X.b=false->(σ.nd (σ.ce t.root)).kind=2->τ=σ/\r=σ.ce t.root
 d:X.b=false->DsF σ τ t
 c:X.b=false->FrR σ τ
theorem aAM{K:Int->Tr}(hX:aq X)(hT:bX σ t)(i0:Inv X.H σ)(hK:∀τ r,Le σ τ->Inv X.H τ->uV τ r []->RtF X σ τ t r->XT X (K r) n τ):XT X (zN t K) (n+5) σ:=by
 refine pT λ τ hg=>?_;have l1:=hg.le;have i1:=hg.inv;have hT1:=hT.up l1;have hv:=oz hT1 i1;have hvs:X.b=false->σ.ce t.root=τ.ce t.root:=λ hb=>by rw[hg.solo hb]
 generalize hve:τ.ce t.root=v at hv hvs ⊢;refine cS hv.1 ?_;try dsimp only
 split
 ·rename_i h2;rcases hv.2 with h|h;·exact(hK τ v l1 i1 h ⟨λ hb _=>⟨hg.solo hb,(hvs hb).symm⟩,λ hb=>by rw[hg.solo hb];exact .refl σ t,λ hb=>by rw[hg.solo hb];exact .refl σ⟩).mono (by omega)
  ·rw[h.1] at h2;exact absurd h2 (by decide)
 ·rename_i h2;have h8r:(τ.nd v).kind=8/\t.ro=false:=by
   rcases hv.2 with h|h;·exact absurd h.1 h2
   ·exact h
  obtain⟨h8,hro⟩:=h8r;have hd:=i1.desc h8;have hno:X.b=false->¬(σ.nd (σ.ce t.root)).kind=2:=λ hb h=>by have e:=hg.solo hb;subst e;rw[hve] at h;exact h2 h
  refine cS hv.1 (pT λ υ hg2=>?_);have l2:=hg2.le;have i2:=hg2.inv;have en:υ.nd v=τ.nd v:=l2.nd hv.1;have h8':(υ.nd v).kind=8:=by rw[en];exact h8
  have hv':v<=υ.len:=by have:=l2.len;have:=hv.1;omega
  have hd2:=i2.desc h8';have l12:=l1.trans i0 i1 l2;have hg12:=hg.trans i0 hg2;have hve2:X.b=false->υ.ce t.root=v:=λ hb=>by rw[hg2.solo hb];exact hve
  have hrs:t.root≠(υ.nd v).status:=λ e=>by have h3:=hd2.2.2.2.2.2;rw[<- e,(hT.up l12).rw hro] at h3;cases h3
  rw[<- en];try dsimp only
  split
  ·rename_i hs;refine cS hv' (Ef hd2.2.2.2.1 hd2.2.2.2.2.1 i2 (λ ρ l3 i3 _=>Qo i2 h8' (.inr rfl) l3 i3) (λ ρ l _ _=>hX.r0 _ _ _ _ (λ i' h=>?_) (λ h=>?_)) (λ ρ b l3 i3 hf=>cS (by have:=l3.len;omega) (pT λ χ hg4=>?_)));·rw[l.ct _ hd2.2.2.2.2.1,hd2.2.2.2.2.2] at h;cases h
   ·rw[l.ct _ hd2.2.2.2.2.1,hd2.2.2.2.2.2] at h;cases h
   have l4:=hg4.le;have i4:=hg4.inv;have e3:ρ.nd v=υ.nd v:=l3.nd hv';have e4:χ.nd v=υ.nd v:=by rw[l4.nd (by have:=l3.len;omega),e3]
   have st2:X.b=false->υ.ce (υ.nd v).status=0:=λ hb=>by rw[hg2.solo hb,<- hg2.solo hb];exact hs
   have hset:X.b=false->o8 X.H υ χ (υ.nd v).status 2:=λ hb=>by
    rw[hg4.solo hb];rcases hf.s hb with⟨_,_,h⟩|⟨h1,h2⟩;·exact h
    ·subst h2;exact absurd (st2 hb) (hf.f h1)
   have l24:=l3.trans i2 i3 l4;have l04:=l12.trans i0 i2 l24;rw[e3];refine Li hX (hT.up l04) hro i4 (by rw[e4];exact h8') (λ hb=>.inl ?_) λ ψ l5 i5 hI _ hc=>?_
   ·rw[(hset hb).other _ hrs];exact hve2 hb
   ·refine(hK ψ _ (l04.trans i0 i4 l5) i5 hI ⟨λ hb h=>absurd h (hno hb),λ hb v' h1 _ _=>?_,λ hb=>?_⟩);·have e:=hg12.solo hb;have e1:=hset hb;have e2:=hve2 hb;subst e;have ev:v'=v:=h1.symm.trans e2;subst ev;have hst:χ.ce (υ.nd v').status=2:=e1.at';have h3:=hc hb;rw[hst,if_neg (by decide),e4] at h3;exact .inr ⟨h3.1,by rw[h3.2 _ (Ne.symm hrs)];exact hst⟩
    ·have e:=hg12.solo hb;have e1:=hset hb;subst e;refine(xo e1 (.inr ⟨v,hd2.2.2.2.2.2⟩)).trans l24 λ x _ _ a _=>(hc hb).2 x λ ex=>?_;rw[ex] at a;exact a ((hT.up l24).rw hro)
  ·rename_i hs;refine(Li hX (hT.up l12) hro i2 h8' (λ hb=>.inl (hve2 hb)) λ ψ l5 i5 hI _ hc=>?_).mono (by omega:n+1<=n+3);refine hK ψ _ (l12.trans i0 i2 l5) i5 hI ⟨λ hb h=>absurd h (hno hb),λ hb v' h1 h2 h3=>?_,λ hb=>?_⟩;·have e:=hg12.solo hb;have e2:=hve2 hb;subst e;have ev:v'=v:=h1.symm.trans e2;subst ev;exact absurd h3 hs
   ·have e:=hg12.solo hb;subst e;exact λ x _ _ a _=>(hc hb).2 x λ ex=>by rw[ex] at a;exact a (hT.rw hro)
end
end
end Go.Proofs.YtbajmaoegmbfgaaGreat
