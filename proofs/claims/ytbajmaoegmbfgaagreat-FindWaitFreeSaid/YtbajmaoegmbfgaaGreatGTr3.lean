/- An execution of the reference: what is kept by every function. -/
import Derived.Test.YtbajmaoegmbfgaaGreatTr2
import Derived.Test.YtbajmaoegmbfgaaGreatGVw1
import Derived.Test.YtbajmaoegmbfgaaGreatGBr2
import Derived.Test.YtbajmaoegmbfgaaGreatGPa4
import Derived.Test.YtbajmaoegmbfgaaGreatGNode3

set_option linter.unusedSimpArgs false
set_option linter.unusedVariables false
namespace Go.Ct
section
open Go Go.RowKit
structure mK(n c:Nat)(v:Nv):Prop where
 bN:v.bN<=n
 exp:v.exp<=n
 new:v.new<=n
 br:∀r∈v.xs,r<=n
 main:v.main<=c
 prev:v.prev<=c
 status:v.status<=c
 bm:∃b:Nat,v.bm=(b:Int)/\b<18446744073709551616
 hash:∃b:Nat,v.hash=(b:Int)/\b<18446744073709551616
theorem mK.mono{n c n' c':Nat}{v:Nv}(h:mK n c v)(h1:n<=n')(h2:c<=c'):mK n' c' v :=
 ⟨by have:=h.bN;omega,by have:=h.exp;omega,by have:=h.new;omega,λ r hr=>by have:=h.br r hr;omega,by have:=h.main;omega,by have:=h.prev;omega,by have:=h.status;omega,h.bm,h.hash⟩
theorem Py(n c:Nat):mK n c Nv.zero:=⟨bH _,bH _,bH _,(λ r hr=>nomatch hr),bH _,bH _,bH _,⟨0,rfl,by decide⟩,⟨0,rfl,by decide⟩⟩
structure XS.Ok(x:XS):Prop where
 fit:Fits x.L
 nd:∀v∈x.L,mK x.L.length x.cs.length v.c
 cs:∀v∈x.cs,v<=x.L.length
 got:∀v∈x.got,v<=x.L.length
 made:∀v∈x.made,v<=x.L.length
 two:2<=x.L.length
 lL:x.L.length<=137438953600
 lc:x.cs.length<=137438953600
 lg:x.got.length<=1073741824
 la:x.a<=x.got.length
 lm:x.m<=x.made.length
 lk:x.c<=x.cel.length
 le:x.g<=x.gns.length
 fr:x.fr<=1
 ys:∀v∈x.L,v.ys.length<=x.L.length
 gen0:0<=x.gen
 ms:∀i j:Nat,i<j->j<x.made.length->x.made.getD i 0<x.made.getD j 0
 m1:∀v∈x.made,1<=v
theorem mB{l:List Int}{n:Nat}(h:∀v∈l,v<=n)(k:Nat):l.getD k 0<=n:=by
 rw[kQ]
 cases hk:l[k]? with
 | none=>exact bH n
 | some v=>exact h v (List.mem_of_getElem? hk)
theorem XS.Ok.nv{x:XS}(h:x.Ok)(r:Int):mK x.L.length x.cs.length (aD x.L r).c:=by
 unfold aD
 split
 ·exact h.nd _ (iL (by omega))
 ·exact Py _ _
theorem XS.Ok.cell{x:XS}(h:x.Ok)(c:Int):cS x.cs c<=x.L.length:=by
 unfold cS
 split
 ·exact mB h.cs _
 ·exact bH _
structure Nx(g:Gx)(x x':XS)(N:List aZ)(t:Tr)(b:Int):Prop where
 go:fY g x' t
 ok:x'.Ok
 ext:x'.L=x.L++N
 lc:x.cs.length<=x'.cs.length
 bd:b<=x'.L.length
def Ch(x0 x:XS)(F:Fr):Prop:=∃N,x.L=x0.L++N/\∀f∈aM N,f.2=[]∨f∈F
theorem Ch.base{x0:XS}{F:Fr}:Ch x0 x0 F:=⟨[],by simp,λ f hf=>by simp[aM] at hf⟩
theorem Ch.ext{x0 x x':XS}{F:Fr}{N:List aZ}(h:Ch x0 x F)(e:x'.L=x.L++N):Ch x0 x' (aM N++F):=by
 obtain⟨M,h1,h2⟩:=h
 refine⟨M++N,by rw[e,h1,List.append_assoc],λ f hf=>?_⟩
 rw[cZ] at hf
 rcases List.mem_append.1 hf with hf|hf
 ·exact(h2 f hf).imp_right λ h=>List.mem_append_right _ h
 ·exact .inr (List.mem_append_left _ hf)
theorem Ch.nx{g:Gx}{x0 x x':XS}{F:Fr}{N:List aZ}{t:Tr}{b:Int}(h:Nx g x x' N t b)(hc:Ch x0 x F):Ch x0 x' (aM N++F):=hc.ext h.ext
theorem Ch.cons{x0 x:XS}{F:Fr}{f:Option Addr×List Value}(h:Ch x0 x F):Ch x0 x (f::F):=by
 obtain⟨M,h1,h2⟩:=h
 exact⟨M,h1,λ g hg=>(h2 g hg).imp_right λ h=>List.mem_cons_of_mem _ h⟩
theorem Ch.all{x0 x:XS}{A F:Fr}{O:List Ow}(h:Ch x0 x F)(hA:∀f∈aM x0.L,f∈A):aX A F O (aM x.L):=by
 obtain⟨M,h1,h2⟩:=h
 refine .of λ f hf=>?_
 rw[h1,cZ] at hf
 rcases List.mem_append.1 hf with hf|hf
 ·exact .inr (.inl (hA f hf))
 ·exact(h2 f hf).imp_right λ h=>.inr (.inl h)
theorem SF.ck{w0 w:World}{M:List Nat}{H:List (Nat×Obj)}{A F:Fr}{O:List Ow}{x0 x:XS}(h:SF w0 M H A F O w)(hc:Ch x0 x F)(hA:∀f∈aM x0.L,f∈A)(ok:x.Ok)(r:Int):qS w (aD x.L r).nd (aD x.L r).xs (aD x.L r).ys:=by
 unfold aD
 split
 ·have hv:=iL (L:=x.L) (k:=(r-1).toNat) (by omega)
  have hk:=(hc.all (O:=O) hA).get
  generalize x.L.getD (r-1).toNat aZ.zero=v at hv ⊢
  exact(ok.fit _ hv).rG (h.clH (hk (v.nd.brA,aG v.xs) (rJ.2 ⟨v,hv,by simp[aZ.fr]⟩))) (h.clH (hk (v.nd.prA,dH v.ys) (rJ.2 ⟨v,hv,by simp[aZ.fr]⟩)))
 ·exact P3.rG (Cl.nil _ _) (Cl.nil _ _)
end

/- Tries of worlds: what holds of every memory that results from operations, and what never changes. -/
end Go.Ct
namespace Go.Proofs.YtbajmaoegmbfgaaGreat
section
open Go.Ct
inductive CT where
 | no
 | main (i:Int)
 | prev (m:Int)
 | stat (d:Int)
 | root
 | rort
structure Kw where
 mm:Mm
 way:Int->List Nat
 gb:Int->Int
 ct:Int->CT
abbrev Kw.nd(σ:Kw)(r:Int):Nv:=eA σ.mm.nodes r
abbrev Kw.ce(σ:Kw)(c:Int):Int:=cS σ.mm.cs c
abbrev Kw.len(σ:Kw):Nat:=σ.mm.nodes.length
abbrev Kw.cl(σ:Kw):Nat:=σ.mm.cs.length
def iF(h:Nat)(w:List Nat):Prop:=∀k,k<w.length->sl h k=w.getD k 0
def wF(σ:Kw)(i:Int)(w:List Nat):Prop:=(σ.nd i).kind=2/\σ.way i=w
def oS(σ:Kw)(m:Int)(w:List Nat)(g:Int):Prop:=dS (σ.nd m)/\σ.way m=w/\σ.gb m<=g
def dV(σ:Kw)(m:Int):Prop:=σ.ce (σ.nd m).prev=0
def oP(σ:Kw)(m p:Int):Prop:=oS σ p (σ.way m) (σ.gb m)/\dV σ p
def Mx(σ:Kw)(w:List Nat)(g b:Int):Prop:=((σ.nd b).kind=4/\iF (σ.nd b).hash.toNat w)∨((σ.nd b).kind=2/\σ.way b=w/\(σ.nd b).gen<=g)
structure yg(H:ByteArray->Nat)(σ:Kw)(r:Int):Prop where
 valid:cC (σ.nd r).nd (σ.nd r).xs (σ.nd r).ys
 gen:(σ.nd r).gen<=σ.mm.gen
 bd:mK σ.len σ.cl (σ.nd r)
 k2:(σ.nd r).kind=2->(σ.way r).length<=11/\1<=(σ.nd r).main/\σ.ct (σ.nd r).main=.main r
 k3:(σ.nd r).kind=3->(σ.way r).length<=10/\(∀k:Nat,∀b,iU (σ.nd r) k=some b->Mx σ (σ.way r++[k]) (σ.gb r) b)/\(0<(σ.way r).length->(σ.nd r).xs≠[]/\∀b,(σ.nd r).xs=[b]->(σ.nd b).kind=2)/\1<=(σ.nd r).prev/\σ.ct (σ.nd r).prev=.prev r
 k4:(σ.nd r).kind=4->H (σ.nd r).key=(σ.nd r).hash.toNat
 k5:(σ.nd r).kind=5->0<(σ.way r).length/\(σ.way r).length<=11/\H (σ.nd r).key=(σ.nd r).hash.toNat/\iF (σ.nd r).hash.toNat (σ.way r)/\1<=(σ.nd r).prev/\σ.ct (σ.nd r).prev=.prev r
 k6:(σ.nd r).kind=6->(σ.way r).length=11/\iF (σ.nd r).hash.toNat (σ.way r)/\(∀p∈(σ.nd r).ys,H p.1=(σ.nd r).hash.toNat)/\1<=(σ.nd r).prev/\σ.ct (σ.nd r).prev=.prev r
 k7:(σ.nd r).kind=7->dS (σ.nd (σ.nd r).bN)
 k8:(σ.nd r).kind=8->wF σ (σ.nd r).bN []/\wF σ (σ.nd r).new []/\1<=(σ.nd r).status/\σ.ct (σ.nd r).status=.stat r
structure nw(σ:Kw)(c:Int):Prop where
 lo:0<=σ.ce c
 hi:σ.ce c<=σ.len
 main:∀i,σ.ct c=.main i->(σ.nd i).kind=2/\oS σ (σ.ce c) (σ.way i) (σ.nd i).gen
 prev:∀m,σ.ct c=.prev m->dS (σ.nd m)/\(σ.ce c=0∨oP σ m (σ.ce c)∨((σ.nd (σ.ce c)).kind=7/\oP σ m (σ.nd (σ.ce c)).bN))
 stat:∀d,σ.ct c=.stat d->σ.ce c=0∨σ.ce c=1∨σ.ce c=2
 root:σ.ct c=.root->wF σ (σ.ce c) []∨(σ.nd (σ.ce c)).kind=8
 rort:σ.ct c=.rort->wF σ (σ.ce c) []
structure Inv(H:ByteArray->Nat)(σ:Kw):Prop where
 two:2<=σ.len
 m1:(σ.nd 1).kind=1
 m2:(σ.nd 2).kind=1
 gen:0<=σ.mm.gen
 prop:gB σ.mm.nodes σ.mm.cs σ.mm.gen
 nd:∀r:Int,1<=r->r<=σ.len->yg H σ r
 ce:∀c:Int,1<=c->c<=σ.cl->nw σ c
structure Le(σ τ:Kw):Prop where
 nodes:∃N,τ.mm.nodes=σ.mm.nodes++N
 cl:σ.cl<=τ.cl
 gen:σ.mm.gen<=τ.mm.gen
 way:∀r:Int,r<=σ.len->τ.way r=σ.way r
 gb:∀r:Int,r<=σ.len->τ.gb r=σ.gb r
 ct:∀c:Int,c<=σ.cl->τ.ct c=σ.ct c
 done:∀(c m:Int),1<=c->c<=σ.cl->σ.ct c=.prev m->¬dS (σ.nd (σ.ce c))->τ.ce c=σ.ce c
 next:∀(c m:Int),1<=c->c<=σ.cl->σ.ct c=.prev m->dS (σ.nd (σ.ce c))->τ.ce c=σ.ce c∨τ.ce c=0∨((τ.nd (τ.ce c)).kind=7/\(τ.nd (τ.ce c)).bN=σ.ce c)
theorem Le.refl(σ:Kw):Le σ σ:=⟨⟨[],by simp⟩,Nat.le_refl _,Int.le_refl _,λ _ _=>rfl,λ _ _=>rfl,λ _ _=>rfl,λ _ _ _ _ _ _=>rfl,λ _ _ _ _ _ _=>.inl rfl⟩
section
variable{H:ByteArray->Nat}{σ τ υ:Kw}
theorem Le.len(h:Le σ τ):σ.len<=τ.len:=by obtain⟨N,e⟩:=h.nodes;simp only[Kw.len,e,List.length_append];omega
theorem Le.nd(h:Le σ τ){r:Int}(hr:r<=σ.len):τ.nd r=σ.nd r:=by obtain⟨N,e⟩:=h.nodes;simp only[Kw.nd,e];exact Fe hr
theorem jF{N:List Nv}{r:Int}(h:dS (eA N r)):1<=r/\r<=N.length:=eR (by unfold dS at h;omega)
theorem hY{n:Nv}(h:n.kind=0∨n.kind=7∨n.kind=2∨n.kind=8∨n.kind=1):¬dS n:=λ hm=>by unfold dS at hm;omega
theorem sO(N:List Nv):(eA N 0).kind=0:=by unfold eA;rw[if_neg (by omega)];rfl
def Nxt(σ τ:Kw)(v v':Int):Prop:=(¬dS (σ.nd v)->v'=v)/\(dS (σ.nd v)->v'=v∨v'=0∨((τ.nd v').kind=7/\(τ.nd v').bN=v))
theorem Le.nxt(h:Le σ τ){c m:Int}(h1:1<=c)(hc:c<=σ.cl)(e:σ.ct c=.prev m):Nxt σ τ (σ.ce c) (τ.ce c):=⟨h.done c m h1 hc e,h.next c m h1 hc e⟩
theorem Le.trans(i1:Inv H σ)(i2:Inv H τ)(h:Le σ τ)(h2:Le τ υ):Le σ υ:=by
 have hl:=h.len
 have hl2:=h2.len
 refine⟨?_,Nat.le_trans h.cl h2.cl,Int.le_trans h.gen h2.gen,λ r hr=>(h2.way r (by omega)).trans (h.way r hr),λ r hr=>(h2.gb r (by omega)).trans (h.gb r hr),λ c hc=>(h2.ct c (by have:=h.cl;omega)).trans (h.ct c hc),λ c m h1 hc e hk=>?_,λ c m h1 hc e hk=>?_⟩
 ·obtain⟨N,e⟩:=h.nodes
  obtain⟨N2,e2⟩:=h2.nodes
  exact⟨N++N2,by rw[e2,e,List.append_assoc]⟩
 ·have e1:=h.done c m h1 hc e hk
  have e2:τ.ct c=.prev m:=(h.ct c hc).trans e
  rw[<- e1]
  refine h2.done c m h1 (by have:=h.cl;omega) e2 ?_
  rw[e1,h.nd (i1.ce c h1 hc).hi]
  exact hk
 ·have e2:τ.ct c=.prev m:=(h.ct c hc).trans e
  have hc2:c<=τ.cl:=by have:=h.cl;omega
  rcases h.next c m h1 hc e hk with e1|e1|⟨e1,e3⟩
  ·rw[<- e1]
   refine h2.next c m h1 hc2 e2 ?_
   rw[e1,h.nd (i1.ce c h1 hc).hi]
   exact hk
  ·refine .inr (.inl ?_)
   rw[h2.done c m h1 hc2 e2 (by rw[e1];exact hY (.inl (sO _))),e1]
  ·refine .inr (.inr ?_)
   rw[h2.done c m h1 hc2 e2 (hY (.inr (.inl e1))),h2.nd (i2.ce c h1 hc2).hi]
   exact⟨e1,e3⟩
def WT(H:ByteArray->Nat)(Q:Rs->Kw->Prop):Tr->Kw->Prop
 | .done r,σ=>Q r σ
 | .load c k,σ=>∀τ,Le σ τ->Inv H τ->WT H Q (k (τ.ce c)) τ
 | .jN c o n k,σ=>∀τ,Le σ τ->Inv H τ->(iI τ.mm.cs c o->∃υ,Le τ υ/\Inv H υ/\υ.mm=⟨τ.mm.nodes,eD τ.mm.cs c o n,τ.mm.gen⟩/\WT H Q (k true) υ)/\(¬iI τ.mm.cs c o->WT H Q (k false) τ)
 | .alloc n i k,σ=>∃υ,Le σ υ/\Inv H υ/\υ.mm=σ.mm.push n i/\WT H Q (k ((σ.len+1:Nat):Int)) υ
 | .cell i k,σ=>∃υ,Le σ υ/\Inv H υ/\υ.mm=⟨σ.mm.nodes,σ.mm.cs++[i],σ.mm.gen⟩/\WT H Q (k ((σ.cl+1:Nat):Int)) υ
 | .gen k,σ=>∃υ,Le σ υ/\Inv H υ/\υ.mm=⟨σ.mm.nodes,σ.mm.cs,σ.mm.gen+1⟩/\WT H Q (k (σ.mm.gen+1)) υ
 | .node r k,σ=>r<=σ.len/\WT H Q (k (σ.nd r)) σ
 | .stuck,_=>True
def dG:Tr->Bool
 | .load _ _=>true
 | .jN _ _ _ _=>true
 | .done _=>true
 | _=>false
theorem WT.mono{Q:Rs->Kw->Prop}(hQ:∀r σ τ,Inv H σ->Inv H τ->Le σ τ->Q r σ->Q r τ){t:Tr}(ht:dG t=true){σ τ:Kw}(i1:Inv H σ)(i2:Inv H τ)(h:Le σ τ)(w:WT H Q t σ):WT H Q t τ:=by
 cases t with
 | done r=>exact hQ r σ τ i1 i2 h w
 | load c k=>exact λ υ h2 i3=>w υ (h.trans i1 i2 h2) i3
 | jN c o n k=>exact λ υ h2 i3=>w υ (h.trans i1 i2 h2) i3
 | alloc n i k=>cases ht
 | cell i k=>cases ht
 | gen k=>cases ht
 | node r k=>cases ht
 | stuck=>cases ht
theorem WT.sp{Q:Rs->Kw->Prop}{t t':Tr}{s':Mm}(i1:Inv H σ)(w:WT H Q t σ)(h:Sp t σ.mm t' s'):∃υ,Le σ υ/\Inv H υ/\υ.mm=s'/\WT H Q t' υ:=by
 cases h with
 | alloc n i k s=>exact w
 | cell i k s=>exact w
 | gen k s=>exact w
 | node r k s h=>exact⟨σ,Le.refl σ,i1,rfl,w.2⟩
theorem WT.lp{Q:Rs->Kw->Prop}{t t':Tr}{s':Mm}(i1:Inv H σ)(w:WT H Q t σ)(h:Lp t σ.mm t' s'):∃υ,Le σ υ/\Inv H υ/\υ.mm=s'/\WT H Q t' υ:=by
 cases h with
 | load c k s=>exact⟨σ,Le.refl σ,i1,rfl,w σ (Le.refl σ) i1⟩
 | jN c o n k s b hb =>
  obtain⟨w1,w2⟩:=w σ (Le.refl σ) i1
  cases b with
  | true=>exact w1 (hb.1 rfl)
  | false =>
   have hn:¬iI σ.mm.cs c o:=λ h=>by have:=hb.2 h;cases this
   refine⟨σ,Le.refl σ,i1,?_,w2 hn⟩
   rw[show eD σ.mm.cs c o n=σ.mm.cs from zX hn]
theorem WT.rc{Q:Rs->Kw->Prop}{t:Tr}{s:Mm}{j:Nat}{t':Tr}{s':Mm}(h:Rc j t s t' s'):∀{σ:Kw},σ.mm=s->Inv H σ->WT H Q t σ->∃υ,Le σ υ/\Inv H υ/\υ.mm=s'/\WT H Q t' υ:=by
 induction h with
 | refl t s=>intro σ e i w;exact⟨σ,Le.refl σ,i,e,w⟩
 | eV _ hs ih =>
  intro σ e i w
  obtain⟨υ,l1,i1,e1,w1⟩:=ih e i w
  subst e1
  obtain⟨ρ,l2,i2,e2,w2⟩:=w1.sp i1 hs
  exact⟨ρ,l1.trans i i1 l2,i2,e2,w2⟩
 | loud _ hs ih =>
  intro σ e i w
  obtain⟨υ,l1,i1,e1,w1⟩:=ih e i w
  subst e1
  obtain⟨ρ,l2,i2,e2,w2⟩:=w1.lp i1 hs
  exact⟨ρ,l1.trans i i1 l2,i2,e2,w2⟩
end
end

/- The reference of dual: the nodes that are allocated for two keys. -/
end Go.Proofs.YtbajmaoegmbfgaaGreat
namespace Go.Ct
section
open Go Go.RowKit
def two(i k:Nat)(x s:Int):List Int:=if i<k then [x,s] else [s,x]
structure NI where
 n:Nd
 xs:List Int
 ys:List Pr
 init:Int
def AX.no:AX:=⟨none,0,none,0,none,0,none,0⟩
def NI.c(a:NI)(c:Nat):Nv:=(oN a.n a.xs a.ys c AX.no).c
abbrev Fy(h:Nat)(ys:List Pr):NI:=⟨{Nd.zero with kind:=6,hash:=(h:Int)},[],ys,0⟩
abbrev uU(h:Nat)(k:ByteArray)(u:Int):NI:=⟨{Nd.zero with kind:=4,hash:=(h:Int),key:=k,val:=u},[],[],0⟩
abbrev qP(gen m:Int):NI:=⟨{Nd.zero with kind:=2,gen:=gen},[],[],m⟩
abbrev az(b:Nat)(xs:List Int):NI:=⟨{Nd.zero with kind:=3,bm:=(b:Int)},xs,[],0⟩
def NI.no:NI:=⟨Nd.zero,[],[],0⟩
structure Jf(v:aZ)(a:NI):Prop where
 xs:v.xs=a.xs
 ys:v.ys=a.ys
 kind:v.nd.kind=a.n.kind
 c:∀k,(oN v.nd v.xs v.ys k AX.no).c=a.c k
 fit:v.Fit
 sx:v.xs.length<=1000
 sy:v.ys.length<=1000
 c0:v.c=a.n.c a.xs a.ys
inductive oK:List aZ->List NI->Prop where
 | nil:oK [] []
 | cons {v:aZ} {a:NI} {L:List aZ} {l:List NI} (h:Jf v a) (hr:oK L l):oK (v::L) (a::l)
theorem oK.len{L:List aZ}{l:List NI}(h:oK L l):L.length=l.length:=by
 induction h with
 | nil=>rfl
 | cons _ _ ih=>simp[ih]
theorem oK.append{L M:List aZ}{l m:List NI}(h:oK L l)(h2:oK M m):oK (L++M) (l++m):=by
 induction h with
 | nil=>exact h2
 | cons h _ ih=>exact .cons h ih
theorem oK.at{L:List aZ}{l:List NI}(h:oK L l){i:Nat}(hi:i<L.length):∃a,l[i]?=some a/\Jf (L.getD i aZ.zero) a:=by
 induction h generalizing i with
 | nil=>simp at hi
 | @cons v a L l h _ ih =>
  cases i with
  | zero=>exact⟨a,rfl,h⟩
  | succ i =>
   obtain⟨b,h1,h2⟩:=ih (i:=i) (by simpa using hi)
   exact⟨b,by simpa using h1,by simpa using h2⟩
def G0(l:List NI):List Int:=l.map NI.init
theorem SF.aAC{w0 w:World}{M:List Nat}{H:List (Nat×Obj)}{A F:Fr}{O:List Ow}{f1 f2:Option Addr×List Value}(h:SF w0 M H A (f1::f2::F) O w):SF w0 M H A (f2::f1::F) O w:=h.fE λ f hf=>.inr (by
 simp only[List.mem_cons] at hf ⊢
 rcases hf with h|h|h
 ·exact .inr (.inl h)
 ·exact .inl h
 ·exact .inr (.inr h))
theorem SF.aBf{w0 w:World}{M:List Nat}{H:List (Nat×Obj)}{A F:Fr}{O:List Ow}{i c:Nat}{p:Option Addr}(h:SF w0 M H A F O w){l:List Int}{T:TypeId}(ho:xI O i p (aG l) c T 1):l.length<=c:=by
 rcases(h.own _ ho.mem).1 with⟨_,h2,_⟩|⟨b,rest,_,_,h3⟩
 ·have h2':aG l=[]:=h2
  have:(aG l).length=0:=by rw[h2'];rfl
  rw[iX] at this
  omega
 ·have h3':(aG l++rest).length=c*1:=h3
  rw[List.length_append,iX] at h3'
  omega
end
end Go.Ct
namespace Go.Proofs.YtbajmaoegmbfgaaGreat
section
open Go Go.RowKit Go.Ct
def dN(x:Int)(h0 h:Nat)(p0:Pr)(k:ByteArray)(u gen:Int)(f:Nat):Nat->Nat->List NI
 | 0,lvl=>if lvl=11 then [Fy h (D7 [p0,(k,u)])] else [uU h k u,az (dL (dL 0 (sl h0 lvl:Int)) (sl h lvl:Int)) (two (sl h0 lvl) (sl h lvl) x (f:Int))]
 | n+1,lvl=>dN x h0 h p0 k u gen f n (lvl+1)++[qP gen ((f-1+(dN x h0 h p0 k u gen f n (lvl+1)).length:Nat):Int),az (dL 0 (sl h lvl:Int)) [((f+(dN x h0 h p0 k u gen f n (lvl+1)).length:Nat):Int)]]
theorem Ts{x:Int}{h0 h:Nat}{p0:Pr}{k:ByteArray}{u gen:Int}{f:Nat}:∀n lvl,(dN x h0 h p0 k u gen f n lvl).length<=2+2*n
 | 0,lvl=>by
  unfold dN
  split<;>simp
 | n+1,lvl=>by
  have:=Ts (x:=x) (h0:=h0) (h:=h) (p0:=p0) (k:=k) (u:=u) (gen:=gen) (f:=f) n (lvl+1)
  unfold dN
  simp only[List.length_append,List.length_cons,List.length_nil]
  omega
theorem r9{i k:Nat}(hi:i<64)(hk:k<64)(hne:i≠k)(a b:Int)(w:World) :
  Calls Tryz.prog 261 #[.int .i64 (i:Int),.int .i64 a,.int .i64 (k:Int),.int .i64 b] w λ e w'=>∃p:Option Addr,e=.returned (.agg ⟨[.int .i64 3,.int .i64 0,.int .i64 0,.int .u64 ((dL (dL 0 (i:Int)) (k:Int):Nat):Int),.slice p 2 2,.int .u64 0,.string ⟨#[]⟩,.int .u64 0,.slice none 0 0,.int .i64 0,.int .i64 0,.int .i64 0,.int .i64 0,.int .i64 0]⟩)/\True/\SF w [] [] [] [(p,aG (two i k a b))] [] w':=by
 refine enter Tryz.func261 Tryz.ntmps261 rfl rfl (SF.s0 w) ?_
 simp only[bY]
 refine J0 ?_;refine aI (λ x8=>?_);refine aH ?_;refine J2 ?_;refine aR (cV (hc:=λ w1 hw=>mT (n:=0) (by decide) (i:Int) w1)) (λ x11=>?_);refine aA ?_;refine aR (cV (hc:=λ w1 hw=>mT (n:=dL 0 (i:Int)) (Ax (by decide) _) (k:Int) w1)) (λ x13=>?_);refine pY ?_;refine gX (λ x16=>?_);refine bJ ?_;refine aI (λ x9=>?_);refine J5 ?_;refine Df ?_;refine vX ?_
 refine bE (λ c20=>?_) (λ c20=>?_)
 ·refine Me ?_;refine gX (λ x23=>?_);refine uN ?_;refine pK ?_;refine J5 ?_
  refine bD Tryz.results261 (λ w hw=>?_)
  first
  | exact⟨some ⟨x23,0,none⟩,rfl,trivial,by rw[show two i k a b=[b,a] from if_neg (by omega)];exact hw.ret (List.nil_sublist _) (aY.iP λ f hf=>by rw[List.mem_singleton.1 hf];exact .head _) (List.Sublist.refl _)⟩
  | exact⟨some ⟨x16,0,none⟩,rfl,trivial,by rw[show two i k a b=[a,b] from if_pos (by omega)];exact hw.ret (List.nil_sublist _) (aY.iP λ f hf=>by rw[List.mem_singleton.1 hf];exact .head _) (List.Sublist.refl _)⟩
 ·refine bB ?_;refine pK ?_;refine J5 ?_
  refine bD Tryz.results261 (λ w hw=>?_)
  first
  | exact⟨some ⟨x16,0,none⟩,rfl,trivial,by rw[show two i k a b=[a,b] from if_pos (by omega)];exact hw.ret (List.nil_sublist _) (aY.iP λ f hf=>by rw[List.mem_singleton.1 hf];exact .head _) (List.Sublist.refl _)⟩
theorem qw{l:List Pr}{a:Option Addr}{c:Nat}{w:World}(ha:Cl w a (dH l))(hlen:l.length<=200000000000) :
  Calls Tryz.prog 61 #[.slice a l.length c] w λ e w'=>∃x:Option Addr×Nat,e=.returned (.slice x.1 (D7 l).length x.2)/\(D7 l).length<=x.2/\SF w [] [] [] [(x.1,dH (D7 l))] [] w':=(sq ha hlen).mono λ _ _ h=>h
theorem C6{h l:Nat}{i:Int}(hi:i=(l:Int))(hh:h<18446744073709551616)(hl:l<=10)(w:World):Calls Tryz.prog 218 #[.int .u64 (h:Int),.int .i64 i] w λ e w'=>e=.returned (.int .i64 ((sl h l:Nat):Int))/\St w [] [] w':=by
 subst hi
 exact pP hh hl w
abbrev L9(h:Nat)(ys:List Pr)(p:Option Addr)(c:Nat):aZ:=⟨{Nd.zero with kind:=6,hash:=(h:Int),prA:=p,prN:=ys.length,dH:=c},[],ys⟩
abbrev Ba(h:Nat)(k:ByteArray)(u:Int):aZ:=⟨{Nd.zero with kind:=4,hash:=(h:Int),key:=k,val:=u},[],[]⟩
abbrev wT(gen:Int):aZ:=⟨{Nd.zero with kind:=2,gen:=gen},[],[]⟩
abbrev oo(n b:Nat)(xs:List Int)(p:Option Addr):aZ:=⟨{Nd.zero with kind:=3,bm:=(b:Int),brA:=p,brN:=n,brC:=n},xs,[]⟩
theorem z35:(0:Nat)<=35184372088832:=Nat.zero_le _
theorem z11:(0:Nat)<=11728124029610:=Nat.zero_le _
theorem sb{h:Nat}{ys:List Pr}{p:Option Addr}{c:Nat}(hy:ys.length<=1000):Jf (L9 h ys p c) (Fy h ys):=⟨rfl,rfl,rfl,λ _=>rfl,⟨rfl,rfl,z35,by show ys.length<=_;omega⟩,Nat.zero_le _,hy,rfl⟩
theorem Yh{h:Nat}{k:ByteArray}{u:Int}:Jf (Ba h k u) (uU h k u):=⟨rfl,rfl,rfl,λ _=>rfl,⟨rfl,rfl,z35,z11⟩,Nat.zero_le _,Nat.zero_le _,rfl⟩
theorem kv{gen m:Int}:Jf (wT gen) (qP gen m):=⟨rfl,rfl,rfl,λ _=>rfl,⟨rfl,rfl,z35,z11⟩,Nat.zero_le _,Nat.zero_le _,rfl⟩
theorem aBH{n b:Nat}{xs:List Int}{p:Option Addr}(hn:n=xs.length)(hx:xs.length<=1000):Jf (oo n b xs p) (az b xs):=⟨rfl,rfl,rfl,λ _=>rfl,⟨hn,rfl,by show xs.length<=_;omega,z11⟩,hx,Nat.zero_le _,rfl⟩
structure RX where
 L:List aZ
 ini:List Int
 pn:Option Addr
 cn:Nat
 pc:Option Addr
 cc:Nat
structure Ir(r:RX)(l:List NI):Prop where
 m:oK r.L l
 ini:r.ini=G0 l
theorem Ir.len{r:RX}{l:List NI}(h:Ir r l):r.L.length=l.length/\r.ini.length=l.length:=⟨h.m.len,by rw[h.ini];simp[G0]⟩
theorem Ir.push{r:RX}{l:List NI}(h:Ir r l){gen m:Int}{n b:Nat}{xs:List Int}{p pn pc:Option Addr}{cn cc:Nat}(hn:n=xs.length)(hx:xs.length<=1000):Ir ⟨r.L++[wT gen,oo n b xs p],r.ini++[m,0],pn,cn,pc,cc⟩ (l++[qP gen m,az b xs]) :=
 ⟨h.m.append (.cons kv (.cons (aBH hn hx) .nil)),by show r.ini++_=_;rw[h.ini];simp[G0,qP,az]⟩
theorem S4{L:List aZ}{gen:Int}{b:Nat}{r:Int}{p:Option Addr}{F:Fr}{f:Option Addr×List Value}(hf:f∈aM (L++[wT gen,oo 1 b [r] p]))(h1:(p,aG [r])∈F)(h2:f∈aM L->f∈F):f.2=[]∨f∈F:=by
 simp only[aM,List.flatMap_append] at hf
 rcases List.mem_append.1 hf with hf|hf
 ·exact .inr (h2 hf)
 ·simp[aZ.fr] at hf
  rcases hf with rfl|rfl|rfl|rfl
  ·exact .inl rfl
  ·exact .inl rfl
  ·exact .inr h1
  ·exact .inl rfl
variable{v:aZ}{at':Int}{h0 h:Nat}{k:ByteArray}{u gen:Int}{fi lvl:Nat}
abbrev dQ(at':Int)(h0 h:Nat)(v:aZ)(k:ByteArray)(u gen:Int)(fi:Nat)(n:Nat):List NI:=dN at' h0 h (v.nd.key,v.nd.val) k u gen fi n (kZ h0 h-n)
theorem od{n:Nat}(hn:n<kZ h0 h):dQ at' h0 h v k u gen fi (n+1)=dQ at' h0 h v k u gen fi n++[qP gen ((fi-1+(dQ at' h0 h v k u gen fi n).length:Nat):Int),az (dL 0 (sl h (kZ h0 h-(n+1)):Int)) [((fi+(dQ at' h0 h v k u gen fi n).length:Nat):Int)]]:=by
 have e:kZ h0 h-(n+1)+1=kZ h0 h-n:=by omega
 unfold dQ
 rw[dN,e]
theorem w7{x y z:Option Addr}{c a b:Nat}(hc:kZ h0 h=11):Ir ⟨[L9 h (D7 [(v.nd.key,v.nd.val),(k,u)]) z c],[0],x,a,y,b⟩ (dQ at' h0 h v k u gen fi 0):=by
 have e:dQ at' h0 h v k u gen fi 0=[Fy h (D7 [(v.nd.key,v.nd.val),(k,u)])]:=by
  unfold dQ dN
  exact if_pos hc
 rw[e]
 exact⟨.cons (sb (Nat.le_trans (Uo _) (by simp))) .nil,rfl⟩
theorem wx{x y p:Option Addr}{a b:Nat}(hc:kZ h0 h≠11):Ir ⟨[Ba h k u,oo 2 (dL (dL 0 (sl h0 (kZ h0 h):Int)) (sl h (kZ h0 h):Int)) (two (sl h0 (kZ h0 h)) (sl h (kZ h0 h)) at' (fi:Int)) p],[0,0],x,a,y,b⟩ (dQ at' h0 h v k u gen fi 0):=by
 have e:dQ at' h0 h v k u gen fi 0=[uU h k u,az (dL (dL 0 (sl h0 (kZ h0 h):Int)) (sl h (kZ h0 h):Int)) (two (sl h0 (kZ h0 h)) (sl h (kZ h0 h)) at' (fi:Int))]:=by
  unfold dQ dN
  exact if_neg hc
 rw[e]
 exact⟨.cons Yh (.cons (aBH (by unfold two;split<;>rfl) (by unfold two;split<;>simp)) .nil),rfl⟩
theorem lu(hv:v.nd.hash=(h0:Int))(hh0:h0<18446744073709551616)(hh:h<18446744073709551616)(hf1:1<=fi)(hf2:fi<=274877906944)(w:World) :
    Calls Tryz.prog 257 #[.agg ⟨v.nd.cells⟩,.int .i64 at',.int .u64 (h:Int),.string k,.int .u64 u,.int .i64 (lvl:Int),.int .i64 gen,.int .i64 (fi:Int)] w λ e w' =>
      ∃d:RX,e=.returned (.tuple #[.slice d.pn d.L.length d.cn,.slice d.pc d.ini.length d.cc]) /\
      (Ir d (dQ at' h0 h v k u gen fi (kZ h0 h-lvl))/\d.L.length<=d.cn/\d.ini.length<=d.cc) /\
      SF w [] [] [] ((d.pn,gN d.L)::(d.pc,aG d.ini)::aM d.L) [] w':=by
  have hcl:=yQ h0 h
  refine enter Tryz.func257 Tryz.ntmps257 rfl rfl (SF.s0 w) ?_
  simp only[bY]
  refine J0 ?_;refine bO (λ x8=>?_);refine J8 ?_;refine gZ ?_;refine aA ?_;refine aR (cV (hc:=λ w1 hw=>by rw[hv];exact P8 hh0 hh w1)) (λ x26=>?_);refine iZ ?_
  refine eI [16,17,18,19,27,28,29,30,31,32,33,34,35,36,37,38,39,40,41,42,43,44,45,46,47,48,49,50,51,52,53,54,55,56,57,58,59] (λ q:RX=>[(16,.slice q.pn q.L.length q.cn),(17,.slice q.pc q.ini.length q.cc),(18,.int .i64 ((kZ h0 h:Nat):Int))]) (λ q=>Ir q (dQ at' h0 h v k u gen fi 0)/\q.L.length<=2) (λ q=>[]) (λ q=>aM q.L) (λ q=>[⟨q.pn,gN q.L,q.cn,47,14⟩,⟨q.pc,aG q.ini,q.cc,37,1⟩]) (by decide) (λ _=>by exact rfl) ?_ (λ q f hx=>?_)
  · refine aV ?_
    refine xZ ?_;refine kR ?_;refine aH ?_
    refine bE (λ c28=>?_) (λ c28=>?_)
    · refine gZ ?_;refine J3 ?_;refine bJ ?_;refine pY ?_;refine bJ ?_;refine gX (λ x37=>?_);refine aC (cF (V:=λ x:Option Addr×Nat=>.slice x.1 (D7 [(v.nd.key,v.nd.val),(k,u)]).length x.2) (hc:=λ w1 hw=>qw (l:=[(v.nd.key,v.nd.val),(k,u)]) (hw.cl (.new .head)) (by simp))) (λ x38 h38=>?_);refine wJ ?_;refine bJ ?_;refine aR (Si (c:=1) (sz:=14) rfl (λ _=>cP (cs:=gN [L9 h (D7 [(v.nd.key,v.nd.val),(k,u)]) x38.1 x38.2]) rT Ix rfl rfl rfl rfl rfl)) (λ x42=>?_);refine aR (Si (c:=1) (sz:=1) rfl (λ _=>cP (cs:=aG [0]) pT Ix rfl rfl rfl rfl rfl)) (λ x43=>?_);refine J8 ?_;refine dW ?_;refine J1 ?_
      refine fC ((⟨[L9 h (D7 [(v.nd.key,v.nd.val),(k,u)]) x38.1 x38.2],[0],some ⟨x42,0,none⟩,1,some ⟨x43,0,none⟩,1⟩:RX)) ?_ (hw1:=λ w hw=>(hw.mv.fE λ f hf=>by simp[aM,aZ.fr] at hf;rcases hf with rfl|rfl;exact .inl rfl;exact .inr (.head _)).sub (List.nil_sublist _) aY.all (List.Sublist.refl _))
      · have hne:kZ h0 h=11:=by omega
        exact⟨w7 hne,Nat.le_succ 1⟩
    · refine iO ?_;refine aA ?_;refine bJ ?_;refine J3 ?_;refine aA ?_;refine aR (cV (hc:=λ w1 hw=>by rw[hv];exact pP (l:=kZ h0 h) hh0 (by omega) w1)) (λ x51=>?_);refine pY ?_;refine aA ?_;refine aR (cV (hc:=λ w1 hw=>pP (l:=kZ h0 h) hh (by omega) w1)) (λ x55=>?_);refine aA ?_;refine aC (cF (hc:=λ w1 hw=>r9 (vQ h0 (kZ h0 h)) (vQ h (kZ h0 h)) (Lh (h:=h0) (k:=h) (by omega)) at' (fi:Int) w1)) (λ x57 h57=>?_);refine aR (Si (c:=2) (sz:=14) rfl (λ _=>cP (cs:=gN [Ba h k u,oo 2 (dL (dL 0 (sl h0 (kZ h0 h):Int)) (sl h (kZ h0 h):Int)) (two (sl h0 (kZ h0 h)) (sl h (kZ h0 h)) at' (fi:Int)) x57]) rT Ix rfl rfl rfl rfl rfl)) (λ x58=>?_);refine J1 ?_;refine dW ?_;refine aR (Si (c:=2) (sz:=1) rfl (λ _=>cP (cs:=aG [0,0]) pT Ix rfl rfl rfl rfl rfl)) (λ x59=>?_);refine J1 ?_
      refine fC ((⟨[Ba h k u,oo 2 (dL (dL 0 (sl h0 (kZ h0 h):Int)) (sl h (kZ h0 h):Int)) (two (sl h0 (kZ h0 h)) (sl h (kZ h0 h)) at' (fi:Int)) x57],[0,0],some ⟨x58,0,none⟩,2,some ⟨x59,0,none⟩,2⟩:RX)) ?_ (hw1:=λ w hw=>(hw.mv.fE λ f hf=>by simp[aM,aZ.fr] at hf;rcases hf with rfl|rfl|rfl|rfl;exact .inl rfl;exact .inl rfl;exact .inr (.head _);exact .inl rfl).sub (List.nil_sublist _) aY.all (List.Sublist.refl _))
      · have hne:kZ h0 h≠11:=by omega
        exact⟨wx hne,Nat.le_refl 2⟩
  dsimp only[gR,List.map,List.cons_append,List.nil_append]
  refine kM ?_;refine uR ?_;refine J1 ?_;refine cI ?_
  have hq2:=hx.1.len
  refine nA [16,17,20,21,22,62,63,64,65,66,67,68,69,70,71,72,73,74,75,76,77,78,79,80,81,82,83,84,85,86,87,88,89] (λ y:Nat×RX=>[(16,.slice y.2.pn y.2.L.length y.2.cn),(17,.slice y.2.pc y.2.ini.length y.2.cc),(20,.int .i64 (((kZ h0 h-y.1:Nat):Int)-1))]) (λ y=>y.1<=kZ h0 h-lvl/\Ir y.2 (dQ at' h0 h v k u gen fi y.1)/\y.2.L.length<=2+2*y.1) (λ _=>_) (λ y=>aM y.2.L) (λ y=>[⟨y.2.pn,gN y.2.L,y.2.cn,47,14⟩,⟨y.2.pc,aG y.2.ini,y.2.cc,37,1⟩]) (λ y=>kZ h0 h-lvl-y.1) ((0,q)) (⟨Nat.zero_le _,hx⟩) (λ y f hx=>?_) (hw0:=λ w hw=>hw.sub (List.Sublist.refl _) aY.all (List.Sublist.refl _))
  dsimp only[gR,List.map,List.cons_append,List.nil_append]
  obtain⟨hy1,hy2,hy3⟩:=hx
  obtain⟨hy4,hy5⟩:=hy2.len
  refine Df ?_;refine kR ?_;refine aH ?_
  refine bE (λ c64=>?_) (λ c64=>?_)
  · obtain⟨lv,elv⟩:∃lv:Nat,kZ h0 h-(y.1+1)=lv:=⟨_,rfl⟩
    have elv2:(((kZ h0 h-y.1:Nat):Int)-1)=(lv:Int):=by omega
    have hlv2:lv<=10:=by omega
    refine qI ?_;refine iO ?_;refine dI ?_;refine aB (oJ rf rf (by omega)) rfl ?_;refine aB (jJ (n:=1) rf rf (by omega) (by omega)) rfl ?_;refine wJ ?_;refine aR (cV (hc:=λ w1 hw=>C6 elv2 hh hlv2 w1)) (λ x74=>?_);refine wJ ?_;refine bJ ?_;refine aA ?_;refine aR (cV (hc:=λ w1 hw=>mT (n:=0) (by decide) (sl h lv:Int) w1)) (λ x79=>?_);refine aA ?_;refine aB (oJ (n:=1) rf rf (by omega)) rfl ?_;refine aR (I0 (λ _=>cP (cs:=aG [((fi+y.2.L.length-1+1:Nat):Int)]) pT Ix rfl rfl rfl rfl rfl)) (λ x82=>?_);refine bJ ?_;refine aR (I0 (λ _=>cP (cs:=gN [wT gen,oo 1 (dL 0 (sl h lv:Int)) [((fi+y.2.L.length-1+1:Nat):Int)] (some ⟨x82,0,none⟩)]) rT Ix rfl rfl rfl rfl rfl)) (λ x84=>?_);(refine aR (bF.eK (j9 (k:=2) (L2:=[wT gen,oo 1 (dL 0 (sl h lv:Int)) [((fi+y.2.L.length-1+1:Nat):Int)] (some ⟨x82,0,none⟩)]) rf rf yS rfl fin rfl Q7 rfl hX (by omega)) uO) (λ x85=>?_);try (refine eZ (λ h85=>?_)));refine J1 ?_;refine Me ?_;refine aR (I0 (λ _=>cP (cs:=aG [((fi+y.2.L.length-1:Nat):Int),0]) pT Ix rfl rfl rfl rfl rfl)) (λ x88=>?_);(refine aR (bF.eK (S3 (k:=2) (l2:=[((fi+y.2.L.length-1:Nat):Int),0]) rf rf yS rfl fin rfl nl hX (by omega)) uO) (λ x89=>?_);try (refine eZ (λ h89=>?_)));refine J1 ?_;refine eP ?_;refine xZ ?_;refine uR ?_;refine J1 ?_
    refine iJ ((y.1+1,(⟨y.2.L++[wT gen,oo 1 (dL 0 (sl h lv:Int)) [((fi+y.2.L.length-1+1:Nat):Int)] (some ⟨x82,0,none⟩)],y.2.ini++[((fi+y.2.L.length-1:Nat):Int),0],x85.1,x85.2,x89.1,x89.2⟩:RX))) ?_ (hw1:=λ w hw=>hw.fE λ f hf=>S4 hf (.tail _ (.tail _ (.head _))) (λ hf=>.tail _ (.tail _ (.tail _ hf))))
    · refine⟨by omega,?_,by simp only[List.length_append,List.length_cons,List.length_nil];omega⟩
      have e1:dQ at' h0 h v k u gen fi (y.1+1)=dQ at' h0 h v k u gen fi y.1++[qP gen ((fi+y.2.L.length-1:Nat):Int),az (dL 0 (sl h lv:Int)) [((fi+y.2.L.length-1+1:Nat):Int)]]:=by
       rw[od (by omega),elv,<- hy4,show fi-1+y.2.L.length=fi+y.2.L.length-1 by omega,show fi+y.2.L.length-1+1=fi+y.2.L.length by omega]
      rw[e1]
      exact hy2.push rfl (by simp)
  · have en:y.1=kZ h0 h-lvl:=by omega
    refine bM rfl ?_;refine iO ?_;refine J8 ?_
    refine bD Tryz.results257 (λ w hw=>?_)
    refine⟨y.2,rfl,⟨?_,?_,?_⟩,?_⟩
    · rw[<- en]
      exact hy2
    · exact hw.qp .head
    · exact hw.aBf (.tail .head)
    · exact((hw.freeze .head).freeze .head).aAC.ret (List.nil_sublist _) aY.all (List.nil_sublist _)
end

end Go.Proofs.YtbajmaoegmbfgaaGreat
