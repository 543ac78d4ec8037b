/- An execution of the reference: what is kept by every function. -/
import Derived.Test.YtbajmaoegmbfgaaGreatTr2
import Derived.Test.YtbajmaoegmbfgaaGreatGVw1
import Derived.Test.YtbajmaoegmbfgaaGreatGBr2
import Derived.Test.YtbajmaoegmbfgaaGreatGPa4
import Derived.Test.YtbajmaoegmbfgaaGreatGNode3

set_option linter.unusedSimpArgs false
set_option linter.unusedVariables false
namespace Go.Ct
section
open Go Go.RowKit
structure mH(n c:Nat)(v:Nv):Prop where
 bO:v.bO<=n
 exp:v.exp<=n
 new:v.new<=n
 br:∀r∈v.xs,r<=n
 main:v.main<=c
 prev:v.prev<=c
 status:v.status<=c
 bm:∃b:Nat,v.bm=(b:Int)/\b<18446744073709551616
 hash:∃b:Nat,v.hash=(b:Int)/\b<18446744073709551616
theorem mH.mono{n c n' c':Nat}{v:Nv}(h:mH n c v)(h1:n<=n')(h2:c<=c'):mH n' c' v :=
 ⟨by have:=h.bO;omega,by have:=h.exp;omega,by have:=h.new;omega,λ r hr=>by have:=h.br r hr;omega,by have:=h.main;omega,by have:=h.prev;omega,by have:=h.status;omega,h.bm,h.hash⟩
theorem N3(n c:Nat):mH n c Nv.zero:=⟨bI _,bI _,bI _,(λ r hr=>nomatch hr),bI _,bI _,bI _,⟨0,rfl,by decide⟩,⟨0,rfl,by decide⟩⟩
structure XS.Ok(x:XS):Prop where
 fit:Fits x.L
 nd:∀v∈x.L,mH x.L.length x.cs.length v.c
 cs:∀v∈x.cs,v<=x.L.length
 got:∀v∈x.got,v<=x.L.length
 made:∀v∈x.made,v<=x.L.length
 two:2<=x.L.length
 lL:x.L.length<=137438953600
 lc:x.cs.length<=137438953600
 lg:x.got.length<=1073741824
 la:x.a<=x.got.length
 lm:x.m<=x.made.length
 lk:x.c<=x.cel.length
 le:x.g<=x.gns.length
 fr:x.fr<=1
 ys:∀v∈x.L,v.ys.length<=x.L.length
 gen0:0<=x.gen
 ms:∀i j:Nat,i<j->j<x.made.length->x.made.getD i 0<x.made.getD j 0
 m1:∀v∈x.made,1<=v
theorem mC{l:List Int}{n:Nat}(h:∀v∈l,v<=n)(k:Nat):l.getD k 0<=n:=by
 rw[kP]
 cases hk:l[k]? with
 | none=>exact bI n
 | some v=>exact h v (List.mem_of_getElem? hk)
theorem XS.Ok.nv{x:XS}(h:x.Ok)(r:Int):mH x.L.length x.cs.length (aD x.L r).c:=by
 unfold aD
 split
 ·exact h.nd _ (iJ (by omega))
 ·exact N3 _ _
theorem XS.Ok.cell{x:XS}(h:x.Ok)(c:Int):cZ x.cs c<=x.L.length:=by
 unfold cZ
 split
 ·exact mC h.cs _
 ·exact bI _
structure Nx(g:Gx)(x x':XS)(N:List aY)(t:Tr)(b:Int):Prop where
 go:fW g x' t
 ok:x'.Ok
 ext:x'.L=x.L++N
 lc:x.cs.length<=x'.cs.length
 bd:b<=x'.L.length
def Ch(x0 x:XS)(F:Fr):Prop:=∃N,x.L=x0.L++N/\∀f∈aM N,f.2=[]∨f∈F
theorem Ch.base{x0:XS}{F:Fr}:Ch x0 x0 F:=⟨[],by simp,λ f hf=>by simp[aM] at hf⟩
theorem Ch.ext{x0 x x':XS}{F:Fr}{N:List aY}(h:Ch x0 x F)(e:x'.L=x.L++N):Ch x0 x' (aM N++F):=by
 obtain⟨M,h1,h2⟩:=h
 refine⟨M++N,by rw[e,h1,List.append_assoc],λ f hf=>?_⟩
 rw[cY] at hf
 rcases List.mem_append.1 hf with hf|hf
 ·exact(h2 f hf).imp_right λ h=>List.mem_append_right _ h
 ·exact .inr (List.mem_append_left _ hf)
theorem Ch.nx{g:Gx}{x0 x x':XS}{F:Fr}{N:List aY}{t:Tr}{b:Int}(h:Nx g x x' N t b)(hc:Ch x0 x F):Ch x0 x' (aM N++F):=hc.ext h.ext
theorem Ch.cons{x0 x:XS}{F:Fr}{f:Option Addr×List Value}(h:Ch x0 x F):Ch x0 x (f::F):=by
 obtain⟨M,h1,h2⟩:=h
 exact⟨M,h1,λ g hg=>(h2 g hg).imp_right λ h=>List.mem_cons_of_mem _ h⟩
theorem Ch.all{x0 x:XS}{A F:Fr}{O:List Ow}(h:Ch x0 x F)(hA:∀f∈aM x0.L,f∈A):bA A F O (aM x.L):=by
 obtain⟨M,h1,h2⟩:=h
 refine .of λ f hf=>?_
 rw[h1,cY] at hf
 rcases List.mem_append.1 hf with hf|hf
 ·exact .inr (.inl (hA f hf))
 ·exact(h2 f hf).imp_right λ h=>.inr (.inl h)
theorem SF.ib{w0 w:World}{M:List Nat}{H:List (Nat×Obj)}{A F:Fr}{O:List Ow}{x0 x:XS}(h:SF w0 M H A F O w)(hc:Ch x0 x F)(hA:∀f∈aM x0.L,f∈A)(ok:x.Ok)(r:Int):qI w (aD x.L r).nd (aD x.L r).xs (aD x.L r).ys:=by
 unfold aD
 split
 ·have hv:=iJ (L:=x.L) (k:=(r-1).toNat) (by omega)
  have hk:=(hc.all (O:=O) hA).get
  generalize x.L.getD (r-1).toNat aY.zero=v at hv ⊢
  exact(ok.fit _ hv).rA (h.clH (hk (v.nd.brA,aH v.xs) (rH.2 ⟨v,hv,by simp[aY.fr]⟩))) (h.clH (hk (v.nd.prA,dE v.ys) (rH.2 ⟨v,hv,by simp[aY.fr]⟩)))
 ·exact M4.rA (Cl.nil _ _) (Cl.nil _ _)
end

/- Tries of worlds: what holds of every memory that results from operations, and what never changes. -/
end Go.Ct
namespace Go.Proofs.YtbajmaoegmbfgaaGreat
section
open Go.Ct
inductive CT where
 | no
 | main (i:Int)
 | prev (m:Int)
 | stat (d:Int)
 | root
 | rort
structure Kw where
 mm:Mm
 way:Int->List Nat
 gb:Int->Int
 ct:Int->CT
abbrev Kw.nd(σ:Kw)(r:Int):Nv:=eC σ.mm.nodes r
abbrev Kw.ce(σ:Kw)(c:Int):Int:=cZ σ.mm.cs c
abbrev Kw.len(σ:Kw):Nat:=σ.mm.nodes.length
abbrev Kw.cl(σ:Kw):Nat:=σ.mm.cs.length
def iH(h:Nat)(w:List Nat):Prop:=∀k,k<w.length->sl h k=w.getD k 0
def yJ(σ:Kw)(i:Int)(w:List Nat):Prop:=(σ.nd i).kind=2/\σ.way i=w
def qR(σ:Kw)(m:Int)(w:List Nat)(g:Int):Prop:=dY (σ.nd m)/\σ.way m=w/\σ.gb m<=g
def dS(σ:Kw)(m:Int):Prop:=σ.ce (σ.nd m).prev=0
def qA(σ:Kw)(m p:Int):Prop:=qR σ p (σ.way m) (σ.gb m)/\dS σ p
def Kg(σ:Kw)(w:List Nat)(g b:Int):Prop:=((σ.nd b).kind=4/\iH (σ.nd b).hash.toNat w)∨((σ.nd b).kind=2/\σ.way b=w/\(σ.nd b).gen<=g)
structure yf(H:ByteArray->Nat)(σ:Kw)(r:Int):Prop where
 valid:cD (σ.nd r).nd (σ.nd r).xs (σ.nd r).ys
 gen:(σ.nd r).gen<=σ.mm.gen
 bd:mH σ.len σ.cl (σ.nd r)
 k2:(σ.nd r).kind=2->(σ.way r).length<=11/\1<=(σ.nd r).main/\σ.ct (σ.nd r).main=.main r
 k3:(σ.nd r).kind=3->(σ.way r).length<=10/\(∀k:Nat,∀b,iR (σ.nd r) k=some b->Kg σ (σ.way r++[k]) (σ.gb r) b)/\(0<(σ.way r).length->(σ.nd r).xs≠[]/\∀b,(σ.nd r).xs=[b]->(σ.nd b).kind=2)/\1<=(σ.nd r).prev/\σ.ct (σ.nd r).prev=.prev r
 k4:(σ.nd r).kind=4->H (σ.nd r).key=(σ.nd r).hash.toNat
 k5:(σ.nd r).kind=5->0<(σ.way r).length/\(σ.way r).length<=11/\H (σ.nd r).key=(σ.nd r).hash.toNat/\iH (σ.nd r).hash.toNat (σ.way r)/\1<=(σ.nd r).prev/\σ.ct (σ.nd r).prev=.prev r
 k6:(σ.nd r).kind=6->(σ.way r).length=11/\iH (σ.nd r).hash.toNat (σ.way r)/\(∀p∈(σ.nd r).ys,H p.1=(σ.nd r).hash.toNat)/\1<=(σ.nd r).prev/\σ.ct (σ.nd r).prev=.prev r
 k7:(σ.nd r).kind=7->dY (σ.nd (σ.nd r).bO)
 k8:(σ.nd r).kind=8->yJ σ (σ.nd r).bO []/\yJ σ (σ.nd r).new []/\1<=(σ.nd r).status/\σ.ct (σ.nd r).status=.stat r
structure ma(σ:Kw)(c:Int):Prop where
 lo:0<=σ.ce c
 hi:σ.ce c<=σ.len
 main:∀i,σ.ct c=.main i->(σ.nd i).kind=2/\qR σ (σ.ce c) (σ.way i) (σ.nd i).gen
 prev:∀m,σ.ct c=.prev m->dY (σ.nd m)/\(σ.ce c=0∨qA σ m (σ.ce c)∨((σ.nd (σ.ce c)).kind=7/\qA σ m (σ.nd (σ.ce c)).bO))
 stat:∀d,σ.ct c=.stat d->σ.ce c=0∨σ.ce c=1∨σ.ce c=2
 root:σ.ct c=.root->yJ σ (σ.ce c) []∨(σ.nd (σ.ce c)).kind=8
 rort:σ.ct c=.rort->yJ σ (σ.ce c) []
structure Inv(H:ByteArray->Nat)(σ:Kw):Prop where
 two:2<=σ.len
 m1:(σ.nd 1).kind=1
 m2:(σ.nd 2).kind=1
 gen:0<=σ.mm.gen
 prop:fZ σ.mm.nodes σ.mm.cs σ.mm.gen
 nd:∀r:Int,1<=r->r<=σ.len->yf H σ r
 ce:∀c:Int,1<=c->c<=σ.cl->ma σ c
structure Le(σ τ:Kw):Prop where
 nodes:∃N,τ.mm.nodes=σ.mm.nodes++N
 cl:σ.cl<=τ.cl
 gen:σ.mm.gen<=τ.mm.gen
 way:∀r:Int,r<=σ.len->τ.way r=σ.way r
 gb:∀r:Int,r<=σ.len->τ.gb r=σ.gb r
 ct:∀c:Int,c<=σ.cl->τ.ct c=σ.ct c
 done:∀(c m:Int),1<=c->c<=σ.cl->σ.ct c=.prev m->¬dY (σ.nd (σ.ce c))->τ.ce c=σ.ce c
 next:∀(c m:Int),1<=c->c<=σ.cl->σ.ct c=.prev m->dY (σ.nd (σ.ce c))->τ.ce c=σ.ce c∨τ.ce c=0∨((τ.nd (τ.ce c)).kind=7/\(τ.nd (τ.ce c)).bO=σ.ce c)
theorem Le.refl(σ:Kw):Le σ σ:=⟨⟨[],by simp⟩,Nat.le_refl _,Int.le_refl _,λ _ _=>rfl,λ _ _=>rfl,λ _ _=>rfl,λ _ _ _ _ _ _=>rfl,λ _ _ _ _ _ _=>.inl rfl⟩
section
variable{H:ByteArray->Nat}{σ τ υ:Kw}
theorem Le.len(h:Le σ τ):σ.len<=τ.len:=by obtain⟨N,e⟩:=h.nodes;simp only[Kw.len,e,List.length_append];omega
theorem Le.nd(h:Le σ τ){r:Int}(hr:r<=σ.len):τ.nd r=σ.nd r:=by obtain⟨N,e⟩:=h.nodes;simp only[Kw.nd,e];exact Gr hr
theorem jT{N:List Nv}{r:Int}(h:dY (eC N r)):1<=r/\r<=N.length:=fD (by unfold dY at h;omega)
theorem kM{n:Nv}(h:n.kind=0∨n.kind=7∨n.kind=2∨n.kind=8∨n.kind=1):¬dY n:=λ hm=>by unfold dY at hm;omega
theorem xB(N:List Nv):(eC N 0).kind=0:=by unfold eC;rw[if_neg (by omega)];rfl
def Nxt(σ τ:Kw)(v v':Int):Prop:=(¬dY (σ.nd v)->v'=v)/\(dY (σ.nd v)->v'=v∨v'=0∨((τ.nd v').kind=7/\(τ.nd v').bO=v))
theorem Le.nxt(h:Le σ τ){c m:Int}(h1:1<=c)(hc:c<=σ.cl)(e:σ.ct c=.prev m):Nxt σ τ (σ.ce c) (τ.ce c):=⟨h.done c m h1 hc e,h.next c m h1 hc e⟩
theorem Le.trans(i1:Inv H σ)(i2:Inv H τ)(h:Le σ τ)(h2:Le τ υ):Le σ υ:=by
 have hl:=h.len
 have hl2:=h2.len
 refine⟨?_,Nat.le_trans h.cl h2.cl,Int.le_trans h.gen h2.gen,λ r hr=>(h2.way r (by omega)).trans (h.way r hr),λ r hr=>(h2.gb r (by omega)).trans (h.gb r hr),λ c hc=>(h2.ct c (by have:=h.cl;omega)).trans (h.ct c hc),λ c m h1 hc e hk=>?_,λ c m h1 hc e hk=>?_⟩
 ·obtain⟨N,e⟩:=h.nodes
  obtain⟨N2,e2⟩:=h2.nodes
  exact⟨N++N2,by rw[e2,e,List.append_assoc]⟩
 ·have e1:=h.done c m h1 hc e hk
  have e2:τ.ct c=.prev m:=(h.ct c hc).trans e
  rw[<- e1]
  refine h2.done c m h1 (by have:=h.cl;omega) e2 ?_
  rw[e1,h.nd (i1.ce c h1 hc).hi]
  exact hk
 ·have e2:τ.ct c=.prev m:=(h.ct c hc).trans e
  have hc2:c<=τ.cl:=by have:=h.cl;omega
  rcases h.next c m h1 hc e hk with e1|e1|⟨e1,e3⟩
  ·rw[<- e1]
   refine h2.next c m h1 hc2 e2 ?_
   rw[e1,h.nd (i1.ce c h1 hc).hi]
   exact hk
  ·refine .inr (.inl ?_)
   rw[h2.done c m h1 hc2 e2 (by rw[e1];exact kM (.inl (xB _))),e1]
  ·refine .inr (.inr ?_)
   rw[h2.done c m h1 hc2 e2 (kM (.inr (.inl e1))),h2.nd (i2.ce c h1 hc2).hi]
   exact⟨e1,e3⟩
def WT(H:ByteArray->Nat)(Q:Rs->Kw->Prop):Tr->Kw->Prop
 | .done r,σ=>Q r σ
 | .load c k,σ=>∀τ,Le σ τ->Inv H τ->WT H Q (k (τ.ce c)) τ
 | .kO c o n k,σ=>∀τ,Le σ τ->Inv H τ->(kF τ.mm.cs c o->∃υ,Le τ υ/\Inv H υ/\υ.mm=⟨τ.mm.nodes,eJ τ.mm.cs c o n,τ.mm.gen⟩/\WT H Q (k true) υ)/\(¬kF τ.mm.cs c o->WT H Q (k false) τ)
 | .alloc n i k,σ=>∃υ,Le σ υ/\Inv H υ/\υ.mm=σ.mm.push n i/\WT H Q (k ((σ.len+1:Nat):Int)) υ
 | .cell i k,σ=>∃υ,Le σ υ/\Inv H υ/\υ.mm=⟨σ.mm.nodes,σ.mm.cs++[i],σ.mm.gen⟩/\WT H Q (k ((σ.cl+1:Nat):Int)) υ
 | .gen k,σ=>∃υ,Le σ υ/\Inv H υ/\υ.mm=⟨σ.mm.nodes,σ.mm.cs,σ.mm.gen+1⟩/\WT H Q (k (σ.mm.gen+1)) υ
 | .node r k,σ=>r<=σ.len/\WT H Q (k (σ.nd r)) σ
 | .stuck,_=>True
def dU:Tr->Bool
 | .load _ _=>true
 | .kO _ _ _ _=>true
 | .done _=>true
 | _=>false
theorem WT.mono{Q:Rs->Kw->Prop}(hQ:∀r σ τ,Inv H σ->Inv H τ->Le σ τ->Q r σ->Q r τ){t:Tr}(ht:dU t=true){σ τ:Kw}(i1:Inv H σ)(i2:Inv H τ)(h:Le σ τ)(w:WT H Q t σ):WT H Q t τ:=by
 cases t with
 | done r=>exact hQ r σ τ i1 i2 h w
 | load c k=>exact λ υ h2 i3=>w υ (h.trans i1 i2 h2) i3
 | kO c o n k=>exact λ υ h2 i3=>w υ (h.trans i1 i2 h2) i3
 | alloc n i k=>cases ht
 | cell i k=>cases ht
 | gen k=>cases ht
 | node r k=>cases ht
 | stuck=>cases ht
theorem WT.sp{Q:Rs->Kw->Prop}{t t':Tr}{s':Mm}(i1:Inv H σ)(w:WT H Q t σ)(h:Sp t σ.mm t' s'):∃υ,Le σ υ/\Inv H υ/\υ.mm=s'/\WT H Q t' υ:=by
 cases h with
 | alloc n i k s=>exact w
 | cell i k s=>exact w
 | gen k s=>exact w
 | node r k s h=>exact⟨σ,Le.refl σ,i1,rfl,w.2⟩
theorem WT.lp{Q:Rs->Kw->Prop}{t t':Tr}{s':Mm}(i1:Inv H σ)(w:WT H Q t σ)(h:Lp t σ.mm t' s'):∃υ,Le σ υ/\Inv H υ/\υ.mm=s'/\WT H Q t' υ:=by
 cases h with
 | load c k s=>exact⟨σ,Le.refl σ,i1,rfl,w σ (Le.refl σ) i1⟩
 | kO c o n k s b hb =>
  obtain⟨w1,w2⟩:=w σ (Le.refl σ) i1
  cases b with
  | true=>exact w1 (hb.1 rfl)
  | false =>
   have hn:¬kF σ.mm.cs c o:=λ h=>by have:=hb.2 h;cases this
   refine⟨σ,Le.refl σ,i1,?_,w2 hn⟩
   rw[show eJ σ.mm.cs c o n=σ.mm.cs from D8 hn]
theorem WT.rc{Q:Rs->Kw->Prop}{t:Tr}{s:Mm}{j:Nat}{t':Tr}{s':Mm}(h:Rc j t s t' s'):∀{σ:Kw},σ.mm=s->Inv H σ->WT H Q t σ->∃υ,Le σ υ/\Inv H υ/\υ.mm=s'/\WT H Q t' υ:=by
 induction h with
 | refl t s=>intro σ e i w;exact⟨σ,Le.refl σ,i,e,w⟩
 | fP _ hs ih =>
  intro σ e i w
  obtain⟨υ,l1,i1,e1,w1⟩:=ih e i w
  subst e1
  obtain⟨ρ,l2,i2,e2,w2⟩:=w1.sp i1 hs
  exact⟨ρ,l1.trans i i1 l2,i2,e2,w2⟩
 | loud _ hs ih =>
  intro σ e i w
  obtain⟨υ,l1,i1,e1,w1⟩:=ih e i w
  subst e1
  obtain⟨ρ,l2,i2,e2,w2⟩:=w1.lp i1 hs
  exact⟨ρ,l1.trans i i1 l2,i2,e2,w2⟩
end
end

/- The reference of dual: the nodes that are allocated for two keys. -/
end Go.Proofs.YtbajmaoegmbfgaaGreat
namespace Go.Ct
section
open Go Go.RowKit
def two(i k:Nat)(x s:Int):List Int:=if i<k then [x,s] else [s,x]
structure NI where
 n:Nd
 xs:List Int
 ys:List Pr
 init:Int
def AX.no:AX:=⟨none,0,none,0,none,0,none,0⟩
def NI.c(a:NI)(c:Nat):Nv:=(oE a.n a.xs a.ys c AX.no).c
abbrev Es(h:Nat)(ys:List Pr):NI:=⟨{Nd.zero with kind:=6,hash:=(h:Int)},[],ys,0⟩
abbrev vY(h:Nat)(k:ByteArray)(u:Int):NI:=⟨{Nd.zero with kind:=4,hash:=(h:Int),key:=k,val:=u},[],[],0⟩
abbrev qB(gen m:Int):NI:=⟨{Nd.zero with kind:=2,gen:=gen},[],[],m⟩
abbrev bl(b:Nat)(xs:List Int):NI:=⟨{Nd.zero with kind:=3,bm:=(b:Int)},xs,[],0⟩
def NI.no:NI:=⟨Nd.zero,[],[],0⟩
structure It(v:aY)(a:NI):Prop where
 xs:v.xs=a.xs
 ys:v.ys=a.ys
 kind:v.nd.kind=a.n.kind
 c:∀k,(oE v.nd v.xs v.ys k AX.no).c=a.c k
 fit:v.Fit
 sx:v.xs.length<=1000
 sy:v.ys.length<=1000
 c0:v.c=a.n.c a.xs a.ys
inductive oD:List aY->List NI->Prop where
 | nil:oD [] []
 | cons {v:aY} {a:NI} {L:List aY} {l:List NI} (h:It v a) (hr:oD L l):oD (v::L) (a::l)
theorem oD.len{L:List aY}{l:List NI}(h:oD L l):L.length=l.length:=by
 induction h with
 | nil=>rfl
 | cons _ _ ih=>simp[ih]
theorem oD.append{L M:List aY}{l m:List NI}(h:oD L l)(h2:oD M m):oD (L++M) (l++m):=by
 induction h with
 | nil=>exact h2
 | cons h _ ih=>exact .cons h ih
theorem oD.at{L:List aY}{l:List NI}(h:oD L l){i:Nat}(hi:i<L.length):∃a,l[i]?=some a/\It (L.getD i aY.zero) a:=by
 induction h generalizing i with
 | nil=>simp at hi
 | @cons v a L l h _ ih =>
  cases i with
  | zero=>exact⟨a,rfl,h⟩
  | succ i =>
   obtain⟨b,h1,h2⟩:=ih (i:=i) (by simpa using hi)
   exact⟨b,by simpa using h1,by simpa using h2⟩
def Hj(l:List NI):List Int:=l.map NI.init
theorem SF.aAe{w0 w:World}{M:List Nat}{H:List (Nat×Obj)}{A F:Fr}{O:List Ow}{f1 f2:Option Addr×List Value}(h:SF w0 M H A (f1::f2::F) O w):SF w0 M H A (f2::f1::F) O w:=h.fC λ f hf=>.inr (by
 simp only[List.mem_cons] at hf ⊢
 rcases hf with h|h|h
 ·exact .inr (.inl h)
 ·exact .inl h
 ·exact .inr (.inr h))
theorem SF.aAU{w0 w:World}{M:List Nat}{H:List (Nat×Obj)}{A F:Fr}{O:List Ow}{i c:Nat}{p:Option Addr}(h:SF w0 M H A F O w){l:List Int}{T:TypeId}(ho:wZ O i p (aH l) c T 1):l.length<=c:=by
 rcases(h.own _ ho.mem).1 with⟨_,h2,_⟩|⟨b,rest,_,_,h3⟩
 ·have h2':aH l=[]:=h2
  have:(aH l).length=0:=by rw[h2'];rfl
  rw[iW] at this
  omega
 ·have h3':(aH l++rest).length=c*1:=h3
  rw[List.length_append,iW] at h3'
  omega
end
end Go.Ct
namespace Go.Proofs.YtbajmaoegmbfgaaGreat
section
open Go Go.RowKit Go.Ct
def dN(x:Int)(h0 h:Nat)(p0:Pr)(k:ByteArray)(u gen:Int)(f:Nat):Nat->Nat->List NI
 | 0,lvl=>if lvl=11 then [Es h (Df [p0,(k,u)])] else [vY h k u,bl (dI (dI 0 (sl h0 lvl:Int)) (sl h lvl:Int)) (two (sl h0 lvl) (sl h lvl) x (f:Int))]
 | n+1,lvl=>dN x h0 h p0 k u gen f n (lvl+1)++[qB gen ((f-1+(dN x h0 h p0 k u gen f n (lvl+1)).length:Nat):Int),bl (dI 0 (sl h lvl:Int)) [((f+(dN x h0 h p0 k u gen f n (lvl+1)).length:Nat):Int)]]
theorem R5{x:Int}{h0 h:Nat}{p0:Pr}{k:ByteArray}{u gen:Int}{f:Nat}:∀n lvl,(dN x h0 h p0 k u gen f n lvl).length<=2+2*n
 | 0,lvl=>by
  unfold dN
  split<;>simp
 | n+1,lvl=>by
  have:=R5 (x:=x) (h0:=h0) (h:=h) (p0:=p0) (k:=k) (u:=u) (gen:=gen) (f:=f) n (lvl+1)
  unfold dN
  simp only[List.length_append,List.length_cons,List.length_nil]
  omega
theorem qg{i k:Nat}(hi:i<64)(hk:k<64)(hne:i≠k)(a b:Int)(w:World) :
  Calls Tryz.prog 261 #[.int .i64 (i:Int),.int .i64 a,.int .i64 (k:Int),.int .i64 b] w λ e w'=>∃p:Option Addr,e=.returned (.agg ⟨[.int .i64 3,.int .i64 0,.int .i64 0,.int .u64 ((dI (dI 0 (i:Int)) (k:Int):Nat):Int),.slice p 2 2,.int .u64 0,.string ⟨#[]⟩,.int .u64 0,.slice none 0 0,.int .i64 0,.int .i64 0,.int .i64 0,.int .i64 0,.int .i64 0]⟩)/\True/\SF w [] [] [] [(p,aH (two i k a b))] [] w':=by
 refine enter Tryz.func261 Tryz.ntmps261 rfl rfl (SF.s0 w) ?_
 simp only[bY]
 refine J0 ?_;refine aI (λ x8=>?_);refine aG ?_;refine J2 ?_;refine aQ (cV (hc:=λ w1 hw=>mZ (n:=0) (by decide) (i:Int) w1)) (λ x11=>?_);refine aA ?_;refine aQ (cV (hc:=λ w1 hw=>mZ (n:=dI 0 (i:Int)) (Ae (by decide) _) (k:Int) w1)) (λ x13=>?_);refine pV ?_;refine gW (λ x16=>?_);refine bJ ?_;refine aI (λ x9=>?_);refine J5 ?_;refine Dg ?_;refine xD ?_
 refine bE (λ c20=>?_) (λ c20=>?_)
 ·refine Lq ?_;refine gW (λ x23=>?_);refine uE ?_;refine oV ?_;refine J5 ?_
  refine bC Tryz.results261 (λ w hw=>?_)
  first
  | exact⟨some ⟨x23,0,none⟩,rfl,trivial,by rw[show two i k a b=[b,a] from if_neg (by omega)];exact hw.ret (List.nil_sublist _) (aX.hX λ f hf=>by rw[List.mem_singleton.1 hf];exact .head _) (List.Sublist.refl _)⟩
  | exact⟨some ⟨x16,0,none⟩,rfl,trivial,by rw[show two i k a b=[a,b] from if_pos (by omega)];exact hw.ret (List.nil_sublist _) (aX.hX λ f hf=>by rw[List.mem_singleton.1 hf];exact .head _) (List.Sublist.refl _)⟩
 ·refine aZ ?_;refine oV ?_;refine J5 ?_
  refine bC Tryz.results261 (λ w hw=>?_)
  first
  | exact⟨some ⟨x16,0,none⟩,rfl,trivial,by rw[show two i k a b=[a,b] from if_pos (by omega)];exact hw.ret (List.nil_sublist _) (aX.hX λ f hf=>by rw[List.mem_singleton.1 hf];exact .head _) (List.Sublist.refl _)⟩
theorem oi{l:List Pr}{a:Option Addr}{c:Nat}{w:World}(ha:Cl w a (dE l))(hlen:l.length<=200000000000) :
  Calls Tryz.prog 61 #[.slice a l.length c] w λ e w'=>∃x:Option Addr×Nat,e=.returned (.slice x.1 (Df l).length x.2)/\(Df l).length<=x.2/\SF w [] [] [] [(x.1,dE (Df l))] [] w':=(n9 ha hlen).mono λ _ _ h=>h
theorem Cu{h l:Nat}{i:Int}(hi:i=(l:Int))(hh:h<18446744073709551616)(hl:l<=10)(w:World):Calls Tryz.prog 218 #[.int .u64 (h:Int),.int .i64 i] w λ e w'=>e=.returned (.int .i64 ((sl h l:Nat):Int))/\St w [] [] w':=by
 subst hi
 exact pN hh hl w
abbrev Lr(h:Nat)(ys:List Pr)(p:Option Addr)(c:Nat):aY:=⟨{Nd.zero with kind:=6,hash:=(h:Int),prA:=p,prN:=ys.length,dE:=c},[],ys⟩
abbrev zW(h:Nat)(k:ByteArray)(u:Int):aY:=⟨{Nd.zero with kind:=4,hash:=(h:Int),key:=k,val:=u},[],[]⟩
abbrev wR(gen:Int):aY:=⟨{Nd.zero with kind:=2,gen:=gen},[],[]⟩
abbrev my(n b:Nat)(xs:List Int)(p:Option Addr):aY:=⟨{Nd.zero with kind:=3,bm:=(b:Int),brA:=p,brN:=n,brC:=n},xs,[]⟩
theorem z35:(0:Nat)<=35184372088832:=Nat.zero_le _
theorem z11:(0:Nat)<=11728124029610:=Nat.zero_le _
theorem qp{h:Nat}{ys:List Pr}{p:Option Addr}{c:Nat}(hy:ys.length<=1000):It (Lr h ys p c) (Es h ys):=⟨rfl,rfl,rfl,λ _=>rfl,⟨rfl,rfl,z35,by show ys.length<=_;omega⟩,Nat.zero_le _,hy,rfl⟩
theorem W6{h:Nat}{k:ByteArray}{u:Int}:It (zW h k u) (vY h k u):=⟨rfl,rfl,rfl,λ _=>rfl,⟨rfl,rfl,z35,z11⟩,Nat.zero_le _,Nat.zero_le _,rfl⟩
theorem Y9{gen m:Int}:It (wR gen) (qB gen m):=⟨rfl,rfl,rfl,λ _=>rfl,⟨rfl,rfl,z35,z11⟩,Nat.zero_le _,Nat.zero_le _,rfl⟩
theorem aA1{n b:Nat}{xs:List Int}{p:Option Addr}(hn:n=xs.length)(hx:xs.length<=1000):It (my n b xs p) (bl b xs):=⟨rfl,rfl,rfl,λ _=>rfl,⟨hn,rfl,by show xs.length<=_;omega,z11⟩,hx,Nat.zero_le _,rfl⟩
structure RX where
 L:List aY
 ini:List Int
 pn:Option Addr
 cn:Nat
 pc:Option Addr
 cc:Nat
structure H5(r:RX)(l:List NI):Prop where
 m:oD r.L l
 ini:r.ini=Hj l
theorem H5.len{r:RX}{l:List NI}(h:H5 r l):r.L.length=l.length/\r.ini.length=l.length:=⟨h.m.len,by rw[h.ini];simp[Hj]⟩
theorem H5.push{r:RX}{l:List NI}(h:H5 r l){gen m:Int}{n b:Nat}{xs:List Int}{p pn pc:Option Addr}{cn cc:Nat}(hn:n=xs.length)(hx:xs.length<=1000):H5 ⟨r.L++[wR gen,my n b xs p],r.ini++[m,0],pn,cn,pc,cc⟩ (l++[qB gen m,bl b xs]) :=
 ⟨h.m.append (.cons Y9 (.cons (aA1 hn hx) .nil)),by show r.ini++_=_;rw[h.ini];simp[Hj,qB,bl]⟩
theorem Sd{L:List aY}{gen:Int}{b:Nat}{r:Int}{p:Option Addr}{F:Fr}{f:Option Addr×List Value}(hf:f∈aM (L++[wR gen,my 1 b [r] p]))(h1:(p,aH [r])∈F)(h2:f∈aM L->f∈F):f.2=[]∨f∈F:=by
 simp only[aM,List.flatMap_append] at hf
 rcases List.mem_append.1 hf with hf|hf
 ·exact .inr (h2 hf)
 ·simp[aY.fr] at hf
  rcases hf with rfl|rfl|rfl|rfl
  ·exact .inl rfl
  ·exact .inl rfl
  ·exact .inr h1
  ·exact .inl rfl
variable{v:aY}{at':Int}{h0 h:Nat}{k:ByteArray}{u gen:Int}{fi lvl:Nat}
abbrev dQ(at':Int)(h0 h:Nat)(v:aY)(k:ByteArray)(u gen:Int)(fi:Nat)(n:Nat):List NI:=dN at' h0 h (v.nd.key,v.nd.val) k u gen fi n (kW h0 h-n)
theorem r8{n:Nat}(hn:n<kW h0 h):dQ at' h0 h v k u gen fi (n+1)=dQ at' h0 h v k u gen fi n++[qB gen ((fi-1+(dQ at' h0 h v k u gen fi n).length:Nat):Int),bl (dI 0 (sl h (kW h0 h-(n+1)):Int)) [((fi+(dQ at' h0 h v k u gen fi n).length:Nat):Int)]]:=by
 have e:kW h0 h-(n+1)+1=kW h0 h-n:=by omega
 unfold dQ
 rw[dN,e]
theorem wq{x y z:Option Addr}{c a b:Nat}(hc:kW h0 h=11):H5 ⟨[Lr h (Df [(v.nd.key,v.nd.val),(k,u)]) z c],[0],x,a,y,b⟩ (dQ at' h0 h v k u gen fi 0):=by
 have e:dQ at' h0 h v k u gen fi 0=[Es h (Df [(v.nd.key,v.nd.val),(k,u)])]:=by
  unfold dQ dN
  exact if_pos hc
 rw[e]
 exact⟨.cons (qp (Nat.le_trans (Ud _) (by simp))) .nil,rfl⟩
theorem yt{x y p:Option Addr}{a b:Nat}(hc:kW h0 h≠11):H5 ⟨[zW h k u,my 2 (dI (dI 0 (sl h0 (kW h0 h):Int)) (sl h (kW h0 h):Int)) (two (sl h0 (kW h0 h)) (sl h (kW h0 h)) at' (fi:Int)) p],[0,0],x,a,y,b⟩ (dQ at' h0 h v k u gen fi 0):=by
 have e:dQ at' h0 h v k u gen fi 0=[vY h k u,bl (dI (dI 0 (sl h0 (kW h0 h):Int)) (sl h (kW h0 h):Int)) (two (sl h0 (kW h0 h)) (sl h (kW h0 h)) at' (fi:Int))]:=by
  unfold dQ dN
  exact if_neg hc
 rw[e]
 exact⟨.cons W6 (.cons (aA1 (by unfold two;split<;>rfl) (by unfold two;split<;>simp)) .nil),rfl⟩
theorem Z2(hv:v.nd.hash=(h0:Int))(hh0:h0<18446744073709551616)(hh:h<18446744073709551616)(hf1:1<=fi)(hf2:fi<=274877906944)(w:World) :
    Calls Tryz.prog 257 #[.agg ⟨v.nd.cells⟩,.int .i64 at',.int .u64 (h:Int),.string k,.int .u64 u,.int .i64 (lvl:Int),.int .i64 gen,.int .i64 (fi:Int)] w λ e w' =>
      ∃d:RX,e=.returned (.tuple #[.slice d.pn d.L.length d.cn,.slice d.pc d.ini.length d.cc]) /\
      (H5 d (dQ at' h0 h v k u gen fi (kW h0 h-lvl))/\d.L.length<=d.cn/\d.ini.length<=d.cc) /\
      SF w [] [] [] ((d.pn,gY d.L)::(d.pc,aH d.ini)::aM d.L) [] w':=by
  have hcl:=yS h0 h
  refine enter Tryz.func257 Tryz.ntmps257 rfl rfl (SF.s0 w) ?_
  simp only[bY]
  refine J0 ?_;refine bN (λ x8=>?_);refine J8 ?_;refine hJ ?_;refine aA ?_;refine aQ (cV (hc:=λ w1 hw=>by rw[hv];exact Nm hh0 hh w1)) (λ x26=>?_);refine iT ?_
  refine eE [16,17,18,19,27,28,29,30,31,32,33,34,35,36,37,38,39,40,41,42,43,44,45,46,47,48,49,50,51,52,53,54,55,56,57,58,59] (λ q:RX=>[(16,.slice q.pn q.L.length q.cn),(17,.slice q.pc q.ini.length q.cc),(18,.int .i64 ((kW h0 h:Nat):Int))]) (λ q=>H5 q (dQ at' h0 h v k u gen fi 0)/\q.L.length<=2) (λ q=>[]) (λ q=>aM q.L) (λ q=>[⟨q.pn,gY q.L,q.cn,47,14⟩,⟨q.pc,aH q.ini,q.cc,37,1⟩]) (by decide) (λ _=>by exact rfl) ?_ (λ q f hx=>?_)
  · refine aV ?_
    refine wQ ?_;refine kR ?_;refine aG ?_
    refine bE (λ c28=>?_) (λ c28=>?_)
    · refine hJ ?_;refine J3 ?_;refine bJ ?_;refine pV ?_;refine bJ ?_;refine gW (λ x37=>?_);refine aC (cF (V:=λ x:Option Addr×Nat=>.slice x.1 (Df [(v.nd.key,v.nd.val),(k,u)]).length x.2) (hc:=λ w1 hw=>oi (l:=[(v.nd.key,v.nd.val),(k,u)]) (hw.cl (.new .head)) (by simp))) (λ x38 h38=>?_);refine vP ?_;refine bJ ?_;refine aQ (Sa (c:=1) (sz:=14) rfl (λ _=>cP (cs:=gY [Lr h (Df [(v.nd.key,v.nd.val),(k,u)]) x38.1 x38.2]) rF Jp rfl rfl rfl rfl rfl)) (λ x42=>?_);refine aQ (Sa (c:=1) (sz:=1) rfl (λ _=>cP (cs:=aH [0]) pQ Jp rfl rfl rfl rfl rfl)) (λ x43=>?_);refine J8 ?_;refine dW ?_;refine J1 ?_
      refine eT ((⟨[Lr h (Df [(v.nd.key,v.nd.val),(k,u)]) x38.1 x38.2],[0],some ⟨x42,0,none⟩,1,some ⟨x43,0,none⟩,1⟩:RX)) ?_ (hw1:=λ w hw=>(hw.cf.fC λ f hf=>by simp[aM,aY.fr] at hf;rcases hf with rfl|rfl;exact .inl rfl;exact .inr (.head _)).sub (List.nil_sublist _) aX.all (List.Sublist.refl _))
      · have hne:kW h0 h=11:=by omega
        exact⟨wq hne,Nat.le_succ 1⟩
    · refine iM ?_;refine aA ?_;refine bJ ?_;refine J3 ?_;refine aA ?_;refine aQ (cV (hc:=λ w1 hw=>by rw[hv];exact pN (l:=kW h0 h) hh0 (by omega) w1)) (λ x51=>?_);refine pV ?_;refine aA ?_;refine aQ (cV (hc:=λ w1 hw=>pN (l:=kW h0 h) hh (by omega) w1)) (λ x55=>?_);refine aA ?_;refine aC (cF (hc:=λ w1 hw=>qg (vM h0 (kW h0 h)) (vM h (kW h0 h)) (Lu (h:=h0) (k:=h) (by omega)) at' (fi:Int) w1)) (λ x57 h57=>?_);refine aQ (Sa (c:=2) (sz:=14) rfl (λ _=>cP (cs:=gY [zW h k u,my 2 (dI (dI 0 (sl h0 (kW h0 h):Int)) (sl h (kW h0 h):Int)) (two (sl h0 (kW h0 h)) (sl h (kW h0 h)) at' (fi:Int)) x57]) rF Jp rfl rfl rfl rfl rfl)) (λ x58=>?_);refine J1 ?_;refine dW ?_;refine aQ (Sa (c:=2) (sz:=1) rfl (λ _=>cP (cs:=aH [0,0]) pQ Jp rfl rfl rfl rfl rfl)) (λ x59=>?_);refine J1 ?_
      refine eT ((⟨[zW h k u,my 2 (dI (dI 0 (sl h0 (kW h0 h):Int)) (sl h (kW h0 h):Int)) (two (sl h0 (kW h0 h)) (sl h (kW h0 h)) at' (fi:Int)) x57],[0,0],some ⟨x58,0,none⟩,2,some ⟨x59,0,none⟩,2⟩:RX)) ?_ (hw1:=λ w hw=>(hw.cf.fC λ f hf=>by simp[aM,aY.fr] at hf;rcases hf with rfl|rfl|rfl|rfl;exact .inl rfl;exact .inl rfl;exact .inr (.head _);exact .inl rfl).sub (List.nil_sublist _) aX.all (List.Sublist.refl _))
      · have hne:kW h0 h≠11:=by omega
        exact⟨yt hne,Nat.le_refl 2⟩
  dsimp only[gU,List.map,List.cons_append,List.nil_append]
  refine kK ?_;refine vF ?_;refine J1 ?_;refine cO ?_
  have hq2:=hx.1.len
  refine oB [16,17,20,21,22,62,63,64,65,66,67,68,69,70,71,72,73,74,75,76,77,78,79,80,81,82,83,84,85,86,87,88,89] (λ y:Nat×RX=>[(16,.slice y.2.pn y.2.L.length y.2.cn),(17,.slice y.2.pc y.2.ini.length y.2.cc),(20,.int .i64 (((kW h0 h-y.1:Nat):Int)-1))]) (λ y=>y.1<=kW h0 h-lvl/\H5 y.2 (dQ at' h0 h v k u gen fi y.1)/\y.2.L.length<=2+2*y.1) (λ _=>_) (λ y=>aM y.2.L) (λ y=>[⟨y.2.pn,gY y.2.L,y.2.cn,47,14⟩,⟨y.2.pc,aH y.2.ini,y.2.cc,37,1⟩]) (λ y=>kW h0 h-lvl-y.1) ((0,q)) (⟨Nat.zero_le _,hx⟩) (λ y f hx=>?_) (hw0:=λ w hw=>hw.sub (List.Sublist.refl _) aX.all (List.Sublist.refl _))
  dsimp only[gU,List.map,List.cons_append,List.nil_append]
  obtain⟨hy1,hy2,hy3⟩:=hx
  obtain⟨hy4,hy5⟩:=hy2.len
  refine Dg ?_;refine kR ?_;refine aG ?_
  refine bE (λ c64=>?_) (λ c64=>?_)
  · obtain⟨lv,elv⟩:∃lv:Nat,kW h0 h-(y.1+1)=lv:=⟨_,rfl⟩
    have elv2:(((kW h0 h-y.1:Nat):Int)-1)=(lv:Int):=by omega
    have hlv2:lv<=10:=by omega
    refine qP ?_;refine iM ?_;refine dG ?_;refine aB (oF rf rf (by omega)) rfl ?_;refine aB (jF (n:=1) rf rf (by omega) (by omega)) rfl ?_;refine vP ?_;refine aQ (cV (hc:=λ w1 hw=>Cu elv2 hh hlv2 w1)) (λ x74=>?_);refine vP ?_;refine bJ ?_;refine aA ?_;refine aQ (cV (hc:=λ w1 hw=>mZ (n:=0) (by decide) (sl h lv:Int) w1)) (λ x79=>?_);refine aA ?_;refine aB (oF (n:=1) rf rf (by omega)) rfl ?_;refine aQ (H6 (λ _=>cP (cs:=aH [((fi+y.2.L.length-1+1:Nat):Int)]) pQ Jp rfl rfl rfl rfl rfl)) (λ x82=>?_);refine bJ ?_;refine aQ (H6 (λ _=>cP (cs:=gY [wR gen,my 1 (dI 0 (sl h lv:Int)) [((fi+y.2.L.length-1+1:Nat):Int)] (some ⟨x82,0,none⟩)]) rF Jp rfl rfl rfl rfl rfl)) (λ x84=>?_);(refine aQ (bF.eN (gi (k:=2) (L2:=[wR gen,my 1 (dI 0 (sl h lv:Int)) [((fi+y.2.L.length-1+1:Nat):Int)] (some ⟨x82,0,none⟩)]) rf rf zH rfl fin rfl Qd rfl hY (by omega)) vJ) (λ x85=>?_);try (refine eX (λ h85=>?_)));refine J1 ?_;refine Lq ?_;refine aQ (H6 (λ _=>cP (cs:=aH [((fi+y.2.L.length-1:Nat):Int),0]) pQ Jp rfl rfl rfl rfl rfl)) (λ x88=>?_);(refine aQ (bF.eN (R7 (k:=2) (l2:=[((fi+y.2.L.length-1:Nat):Int),0]) rf rf zH rfl fin rfl l7 hY (by omega)) vJ) (λ x89=>?_);try (refine eX (λ h89=>?_)));refine J1 ?_;refine eU ?_;refine wQ ?_;refine vF ?_;refine J1 ?_
    refine iS ((y.1+1,(⟨y.2.L++[wR gen,my 1 (dI 0 (sl h lv:Int)) [((fi+y.2.L.length-1+1:Nat):Int)] (some ⟨x82,0,none⟩)],y.2.ini++[((fi+y.2.L.length-1:Nat):Int),0],x85.1,x85.2,x89.1,x89.2⟩:RX))) ?_ (hw1:=λ w hw=>hw.fC λ f hf=>Sd hf (.tail _ (.tail _ (.head _))) (λ hf=>.tail _ (.tail _ (.tail _ hf))))
    · refine⟨by omega,?_,by simp only[List.length_append,List.length_cons,List.length_nil];omega⟩
      have e1:dQ at' h0 h v k u gen fi (y.1+1)=dQ at' h0 h v k u gen fi y.1++[qB gen ((fi+y.2.L.length-1:Nat):Int),bl (dI 0 (sl h lv:Int)) [((fi+y.2.L.length-1+1:Nat):Int)]]:=by
       rw[r8 (by omega),elv,<- hy4,show fi-1+y.2.L.length=fi+y.2.L.length-1 by omega,show fi+y.2.L.length-1+1=fi+y.2.L.length by omega]
      rw[e1]
      exact hy2.push rfl (by simp)
  · have en:y.1=kW h0 h-lvl:=by omega
    refine bM rfl ?_;refine iM ?_;refine J8 ?_
    refine bC Tryz.results257 (λ w hw=>?_)
    refine⟨y.2,rfl,⟨?_,?_,?_⟩,?_⟩
    · rw[<- en]
      exact hy2
    · exact hw.qm .head
    · exact hw.aAU (.tail .head)
    · exact((hw.freeze .head).freeze .head).aAe.ret (List.nil_sublist _) aX.all (List.nil_sublist _)
end

end Go.Proofs.YtbajmaoegmbfgaaGreat
