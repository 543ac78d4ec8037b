/- An execution of the reference: what is kept by every function. -/
import Derived.Test.YtbajmaoegmbfgaaGreatTr2
import Derived.Test.YtbajmaoegmbfgaaGreatGVw1

set_option linter.unusedSimpArgs false
set_option linter.unusedVariables false
namespace Go.Ct
section
open Go Go.RowKit
structure mB(n c:Nat)(v:Nv):Prop where
 bA:v.bA<=n
 exp:v.exp<=n
 new:v.new<=n
 br:∀r∈v.xs,r<=n
 main:v.main<=c
 prev:v.prev<=c
 status:v.status<=c
 bm:∃b:Nat,v.bm=(b:Int)/\b<18446744073709551616
 hash:∃b:Nat,v.hash=(b:Int)/\b<18446744073709551616
theorem mB.mono{n c n' c':Nat}{v:Nv}(h:mB n c v)(h1:n<=n')(h2:c<=c'):mB n' c' v :=
 ⟨by have:=h.bA;omega,by have:=h.exp;omega,by have:=h.new;omega,λ r hr=>by have:=h.br r hr;omega,by have:=h.main;omega,by have:=h.prev;omega,by have:=h.status;omega,h.bm,h.hash⟩
theorem Og(n c:Nat):mB n c Nv.zero:=⟨bL _,bL _,bL _,(λ r hr=>nomatch hr),bL _,bL _,bL _,⟨0,rfl,by decide⟩,⟨0,rfl,by decide⟩⟩
structure XS.Ok(x:XS):Prop where
 fit:Fits x.L
 nd:∀v∈x.L,mB x.L.length x.cs.length v.c
 cs:∀v∈x.cs,v<=x.L.length
 got:∀v∈x.got,v<=x.L.length
 made:∀v∈x.made,v<=x.L.length
 two:2<=x.L.length
 lL:x.L.length<=137438953600
 lc:x.cs.length<=137438953600
 lg:x.got.length<=1073741824
 la:x.a<=x.got.length
 lm:x.m<=x.made.length
 lk:x.c<=x.cel.length
 le:x.g<=x.gns.length
 fr:x.fr<=1
 ys:∀v∈x.L,v.ys.length<=x.L.length
 gen0:0<=x.gen
 ms:∀i j:Nat,i<j->j<x.made.length->x.made.getD i 0<x.made.getD j 0
 m1:∀v∈x.made,1<=v
theorem mN{l:List Int}{n:Nat}(h:∀v∈l,v<=n)(k:Nat):l.getD k 0<=n:=by
 rw[jN]
 cases hk:l[k]? with
 | none=>exact bL n
 | some v=>exact h v (List.mem_of_getElem? hk)
theorem XS.Ok.nv{x:XS}(h:x.Ok)(r:Int):mB x.L.length x.cs.length (aB x.L r).c:=by
 unfold aB
 split
 ·exact h.nd _ (fY (by omega))
 ·exact Og _ _
theorem XS.Ok.cell{x:XS}(h:x.Ok)(c:Int):bE x.cs c<=x.L.length:=by
 unfold bE
 split
 ·exact mN h.cs _
 ·exact bL _
structure Nx(g:Gx)(x x':XS)(N:List aP)(t:Tr)(b:Int):Prop where
 go:gD g x' t
 ok:x'.Ok
 ext:x'.L=x.L++N
 lc:x.cs.length<=x'.cs.length
 bd:b<=x'.L.length
def Ch(x0 x:XS)(F:Fr):Prop:=∃N,x.L=x0.L++N/\∀f∈aL N,f.2=[]∨f∈F
theorem Ch.base{x0:XS}{F:Fr}:Ch x0 x0 F:=⟨[],by simp,λ f hf=>by simp[aL] at hf⟩
theorem Ch.ext{x0 x x':XS}{F:Fr}{N:List aP}(h:Ch x0 x F)(e:x'.L=x.L++N):Ch x0 x' (aL N++F):=by
 obtain⟨M,h1,h2⟩:=h
 refine⟨M++N,by rw[e,h1,List.append_assoc],λ f hf=>?_⟩
 rw[dE] at hf
 rcases List.mem_append.1 hf with hf|hf
 ·exact(h2 f hf).imp_right λ h=>List.mem_append_right _ h
 ·exact .inr (List.mem_append_left _ hf)
theorem Ch.nx{g:Gx}{x0 x x':XS}{F:Fr}{N:List aP}{t:Tr}{b:Int}(h:Nx g x x' N t b)(hc:Ch x0 x F):Ch x0 x' (aL N++F):=hc.ext h.ext
theorem Ch.cons{x0 x:XS}{F:Fr}{f:Option Addr×List Value}(h:Ch x0 x F):Ch x0 x (f::F):=by
 obtain⟨M,h1,h2⟩:=h
 exact⟨M,h1,λ g hg=>(h2 g hg).imp_right λ h=>List.mem_cons_of_mem _ h⟩
theorem Ch.all{x0 x:XS}{A F:Fr}{O:List Ow}(h:Ch x0 x F)(hA:∀f∈aL x0.L,f∈A):bB A F O (aL x.L):=by
 obtain⟨M,h1,h2⟩:=h
 refine .of λ f hf=>?_
 rw[h1,dE] at hf
 rcases List.mem_append.1 hf with hf|hf
 ·exact .inr (.inl (hA f hf))
 ·exact(h2 f hf).imp_right λ h=>.inr (.inl h)
theorem SF.ak{w0 w:World}{M:List Nat}{H:List (Nat×Obj)}{A F:Fr}{O:List Ow}{x0 x:XS}(h:SF w0 M H A F O w)(hc:Ch x0 x F)(hA:∀f∈aL x0.L,f∈A)(ok:x.Ok)(r:Int):sE w (aB x.L r).nd (aB x.L r).xs (aB x.L r).ys:=by
 unfold aB
 split
 ·have hv:=fY (L:=x.L) (k:=(r-1).toNat) (by omega)
  have hk:=(hc.all (O:=O) hA).get
  generalize x.L.getD (r-1).toNat aP.zero=v at hv ⊢
  exact(ok.fit _ hv).sF (h.clH (hk (v.nd.brA,aH v.xs) (sP.2 ⟨v,hv,by simp[aP.fr]⟩))) (h.clH (hk (v.nd.prA,cZ v.ys) (sP.2 ⟨v,hv,by simp[aP.fr]⟩)))
 ·exact P7.sF (Cl.nil _ _) (Cl.nil _ _)
end

/- Tries of worlds: what holds of every memory that results from operations, and what never changes. -/
end Go.Ct
namespace Go.Proofs.YtbajmaoegmbfgaaGreat
section
open Go.Ct
inductive CT where
 | no
 | main (i:Int)
 | prev (m:Int)
 | stat (d:Int)
 | root
 | rort
structure Kw where
 mm:Mm
 way:Int->List Nat
 gb:Int->Int
 ct:Int->CT
abbrev Kw.nd(σ:Kw)(r:Int):Nv:=bQ σ.mm.nodes r
abbrev Kw.ce(σ:Kw)(c:Int):Int:=bE σ.mm.cs c
abbrev Kw.len(σ:Kw):Nat:=σ.mm.nodes.length
abbrev Kw.cl(σ:Kw):Nat:=σ.mm.cs.length
def iQ(h:Nat)(w:List Nat):Prop:=∀k,k<w.length->sl h k=w.getD k 0
def rG(σ:Kw)(i:Int)(w:List Nat):Prop:=(σ.nd i).kind=2/\σ.way i=w
def oT(σ:Kw)(m:Int)(w:List Nat)(g:Int):Prop:=cG (σ.nd m)/\σ.way m=w/\σ.gb m<=g
def dI(σ:Kw)(m:Int):Prop:=σ.ce (σ.nd m).prev=0
def oF(σ:Kw)(m p:Int):Prop:=oT σ p (σ.way m) (σ.gb m)/\dI σ p
def Ly(σ:Kw)(w:List Nat)(g b:Int):Prop:=((σ.nd b).kind=4/\iQ (σ.nd b).hash.toNat w)∨((σ.nd b).kind=2/\σ.way b=w/\(σ.nd b).gen<=g)
structure NdI(H:ByteArray->Nat)(σ:Kw)(r:Int):Prop where
 valid:cE (σ.nd r).nd (σ.nd r).xs (σ.nd r).ys
 gen:(σ.nd r).gen<=σ.mm.gen
 bd:mB σ.len σ.cl (σ.nd r)
 k2:(σ.nd r).kind=2->(σ.way r).length<=11/\1<=(σ.nd r).main/\σ.ct (σ.nd r).main=.main r
 k3:(σ.nd r).kind=3->(σ.way r).length<=10/\(∀k:Nat,∀b,mE (σ.nd r) k=some b->Ly σ (σ.way r++[k]) (σ.gb r) b)/\(0<(σ.way r).length->(σ.nd r).xs≠[]/\∀b,(σ.nd r).xs=[b]->(σ.nd b).kind=2)/\1<=(σ.nd r).prev/\σ.ct (σ.nd r).prev=.prev r
 k4:(σ.nd r).kind=4->H (σ.nd r).key=(σ.nd r).hash.toNat
 k5:(σ.nd r).kind=5->0<(σ.way r).length/\(σ.way r).length<=11/\H (σ.nd r).key=(σ.nd r).hash.toNat/\iQ (σ.nd r).hash.toNat (σ.way r)/\1<=(σ.nd r).prev/\σ.ct (σ.nd r).prev=.prev r
 k6:(σ.nd r).kind=6->(σ.way r).length=11/\iQ (σ.nd r).hash.toNat (σ.way r)/\(∀p∈(σ.nd r).ys,H p.1=(σ.nd r).hash.toNat)/\1<=(σ.nd r).prev/\σ.ct (σ.nd r).prev=.prev r
 k7:(σ.nd r).kind=7->cG (σ.nd (σ.nd r).bA)
 k8:(σ.nd r).kind=8->rG σ (σ.nd r).bA []/\rG σ (σ.nd r).new []/\1<=(σ.nd r).status/\σ.ct (σ.nd r).status=.stat r
structure ns(σ:Kw)(c:Int):Prop where
 lo:0<=σ.ce c
 hi:σ.ce c<=σ.len
 main:∀i,σ.ct c=.main i->(σ.nd i).kind=2/\oT σ (σ.ce c) (σ.way i) (σ.nd i).gen
 prev:∀m,σ.ct c=.prev m->cG (σ.nd m)/\(σ.ce c=0∨oF σ m (σ.ce c)∨((σ.nd (σ.ce c)).kind=7/\oF σ m (σ.nd (σ.ce c)).bA))
 stat:∀d,σ.ct c=.stat d->σ.ce c=0∨σ.ce c=1∨σ.ce c=2
 root:σ.ct c=.root->rG σ (σ.ce c) []∨(σ.nd (σ.ce c)).kind=8
 rort:σ.ct c=.rort->rG σ (σ.ce c) []
structure Inv(H:ByteArray->Nat)(σ:Kw):Prop where
 two:2<=σ.len
 m1:(σ.nd 1).kind=1
 m2:(σ.nd 2).kind=1
 gen:0<=σ.mm.gen
 prop:gG σ.mm.nodes σ.mm.cs σ.mm.gen
 nd:∀r:Int,1<=r->r<=σ.len->NdI H σ r
 ce:∀c:Int,1<=c->c<=σ.cl->ns σ c
structure Le(σ τ:Kw):Prop where
 nodes:∃N,τ.mm.nodes=σ.mm.nodes++N
 cl:σ.cl<=τ.cl
 gen:σ.mm.gen<=τ.mm.gen
 way:∀r:Int,r<=σ.len->τ.way r=σ.way r
 gb:∀r:Int,r<=σ.len->τ.gb r=σ.gb r
 ct:∀c:Int,c<=σ.cl->τ.ct c=σ.ct c
 done:∀(c m:Int),1<=c->c<=σ.cl->σ.ct c=.prev m->¬cG (σ.nd (σ.ce c))->τ.ce c=σ.ce c
 next:∀(c m:Int),1<=c->c<=σ.cl->σ.ct c=.prev m->cG (σ.nd (σ.ce c))->τ.ce c=σ.ce c∨τ.ce c=0∨((τ.nd (τ.ce c)).kind=7/\(τ.nd (τ.ce c)).bA=σ.ce c)
theorem Le.refl(σ:Kw):Le σ σ:=⟨⟨[],by simp⟩,Nat.le_refl _,Int.le_refl _,λ _ _=>rfl,λ _ _=>rfl,λ _ _=>rfl,λ _ _ _ _ _ _=>rfl,λ _ _ _ _ _ _=>.inl rfl⟩
section
variable{H:ByteArray->Nat}{σ τ υ:Kw}
theorem Le.len(h:Le σ τ):σ.len<=τ.len:=by obtain⟨N,e⟩:=h.nodes;simp only[Kw.len,e,List.length_append];omega
theorem Le.nd(h:Le σ τ){r:Int}(hr:r<=σ.len):τ.nd r=σ.nd r:=by obtain⟨N,e⟩:=h.nodes;simp only[Kw.nd,e];exact sH hr
theorem jL{N:List Nv}{r:Int}(h:cG (bQ N r)):1<=r/\r<=N.length:=dW (by unfold cG at h;omega)
theorem cG.ne0{n:Nv}(h:cG n):n.kind≠0/\n.kind≠7/\n.kind≠2/\n.kind≠8:=by unfold cG at h;omega
theorem jF{n:Nv}(h:n.kind=0∨n.kind=7∨n.kind=2∨n.kind=8∨n.kind=1):¬cG n:=λ hm=>by unfold cG at hm;omega
theorem xY(N:List Nv):(bQ N 0).kind=0:=by unfold bQ;rw[if_neg (by omega)];rfl
def Nxt(σ τ:Kw)(v v':Int):Prop:=(¬cG (σ.nd v)->v'=v)/\(cG (σ.nd v)->v'=v∨v'=0∨((τ.nd v').kind=7/\(τ.nd v').bA=v))
theorem Le.nxt(h:Le σ τ){c m:Int}(h1:1<=c)(hc:c<=σ.cl)(e:σ.ct c=.prev m):Nxt σ τ (σ.ce c) (τ.ce c):=⟨h.done c m h1 hc e,h.next c m h1 hc e⟩
theorem Le.trans(i1:Inv H σ)(i2:Inv H τ)(h:Le σ τ)(h2:Le τ υ):Le σ υ:=by
 have hl:=h.len
 have hl2:=h2.len
 refine⟨?_,Nat.le_trans h.cl h2.cl,Int.le_trans h.gen h2.gen,λ r hr=>(h2.way r (by omega)).trans (h.way r hr),λ r hr=>(h2.gb r (by omega)).trans (h.gb r hr),λ c hc=>(h2.ct c (by have:=h.cl;omega)).trans (h.ct c hc),λ c m h1 hc e hk=>?_,λ c m h1 hc e hk=>?_⟩
 ·obtain⟨N,e⟩:=h.nodes
  obtain⟨N2,e2⟩:=h2.nodes
  exact⟨N++N2,by rw[e2,e,List.append_assoc]⟩
 ·have e1:=h.done c m h1 hc e hk
  have e2:τ.ct c=.prev m:=(h.ct c hc).trans e
  rw[<- e1]
  refine h2.done c m h1 (by have:=h.cl;omega) e2 ?_
  rw[e1,h.nd (i1.ce c h1 hc).hi]
  exact hk
 ·have e2:τ.ct c=.prev m:=(h.ct c hc).trans e
  have hc2:c<=τ.cl:=by have:=h.cl;omega
  rcases h.next c m h1 hc e hk with e1|e1|⟨e1,e3⟩
  ·rw[<- e1]
   refine h2.next c m h1 hc2 e2 ?_
   rw[e1,h.nd (i1.ce c h1 hc).hi]
   exact hk
  ·refine .inr (.inl ?_)
   rw[h2.done c m h1 hc2 e2 (by rw[e1];exact jF (.inl (xY _))),e1]
  ·refine .inr (.inr ?_)
   rw[h2.done c m h1 hc2 e2 (jF (.inr (.inl e1))),h2.nd (i2.ce c h1 hc2).hi]
   exact⟨e1,e3⟩
def WT(H:ByteArray->Nat)(Q:Rs->Kw->Prop):Tr->Kw->Prop
 | .done r,σ=>Q r σ
 | .load c k,σ=>∀τ,Le σ τ->Inv H τ->WT H Q (k (τ.ce c)) τ
 | .hY c o n k,σ=>∀τ,Le σ τ->Inv H τ->(gP τ.mm.cs c o->∃υ,Le τ υ/\Inv H υ/\υ.mm=⟨τ.mm.nodes,dL τ.mm.cs c o n,τ.mm.gen⟩/\WT H Q (k true) υ)/\(¬gP τ.mm.cs c o->WT H Q (k false) τ)
 | .alloc n i k,σ=>∃υ,Le σ υ/\Inv H υ/\υ.mm=σ.mm.push n i/\WT H Q (k ((σ.len+1:Nat):Int)) υ
 | .cell i k,σ=>∃υ,Le σ υ/\Inv H υ/\υ.mm=⟨σ.mm.nodes,σ.mm.cs++[i],σ.mm.gen⟩/\WT H Q (k ((σ.cl+1:Nat):Int)) υ
 | .gen k,σ=>∃υ,Le σ υ/\Inv H υ/\υ.mm=⟨σ.mm.nodes,σ.mm.cs,σ.mm.gen+1⟩/\WT H Q (k (σ.mm.gen+1)) υ
 | .node r k,σ=>r<=σ.len/\WT H Q (k (σ.nd r)) σ
 | .stuck,_=>True
def eS:Tr->Bool
 | .load _ _=>true
 | .hY _ _ _ _=>true
 | .done _=>true
 | _=>false
theorem WT.mono{Q:Rs->Kw->Prop}(hQ:∀r σ τ,Inv H σ->Inv H τ->Le σ τ->Q r σ->Q r τ){t:Tr}(ht:eS t=true){σ τ:Kw}(i1:Inv H σ)(i2:Inv H τ)(h:Le σ τ)(w:WT H Q t σ):WT H Q t τ:=by
 cases t with
 | done r=>exact hQ r σ τ i1 i2 h w
 | load c k=>exact λ υ h2 i3=>w υ (h.trans i1 i2 h2) i3
 | hY c o n k=>exact λ υ h2 i3=>w υ (h.trans i1 i2 h2) i3
 | alloc n i k=>cases ht
 | cell i k=>cases ht
 | gen k=>cases ht
 | node r k=>cases ht
 | stuck=>cases ht
theorem WT.sp{Q:Rs->Kw->Prop}{t t':Tr}{s':Mm}(i1:Inv H σ)(w:WT H Q t σ)(h:Sp t σ.mm t' s'):∃υ,Le σ υ/\Inv H υ/\υ.mm=s'/\WT H Q t' υ:=by
 cases h with
 | alloc n i k s=>exact w
 | cell i k s=>exact w
 | gen k s=>exact w
 | node r k s h=>exact⟨σ,Le.refl σ,i1,rfl,w.2⟩
theorem WT.lp{Q:Rs->Kw->Prop}{t t':Tr}{s':Mm}(i1:Inv H σ)(w:WT H Q t σ)(h:Lp t σ.mm t' s'):∃υ,Le σ υ/\Inv H υ/\υ.mm=s'/\WT H Q t' υ:=by
 cases h with
 | load c k s=>exact⟨σ,Le.refl σ,i1,rfl,w σ (Le.refl σ) i1⟩
 | hY c o n k s b hb =>
  obtain⟨w1,w2⟩:=w σ (Le.refl σ) i1
  cases b with
  | true=>exact w1 (hb.1 rfl)
  | false =>
   have hn:¬gP σ.mm.cs c o:=λ h=>by have:=hb.2 h;cases this
   refine⟨σ,Le.refl σ,i1,?_,w2 hn⟩
   rw[show dL σ.mm.cs c o n=σ.mm.cs from Bh hn]
theorem WT.rc{Q:Rs->Kw->Prop}{t:Tr}{s:Mm}{j:Nat}{t':Tr}{s':Mm}(h:Rc j t s t' s'):∀{σ:Kw},σ.mm=s->Inv H σ->WT H Q t σ->∃υ,Le σ υ/\Inv H υ/\υ.mm=s'/\WT H Q t' υ:=by
 induction h with
 | refl t s=>intro σ e i w;exact⟨σ,Le.refl σ,i,e,w⟩
 | eD _ hs ih =>
  intro σ e i w
  obtain⟨υ,l1,i1,e1,w1⟩:=ih e i w
  subst e1
  obtain⟨ρ,l2,i2,e2,w2⟩:=w1.sp i1 hs
  exact⟨ρ,l1.trans i i1 l2,i2,e2,w2⟩
 | loud _ hs ih =>
  intro σ e i w
  obtain⟨υ,l1,i1,e1,w1⟩:=ih e i w
  subst e1
  obtain⟨ρ,l2,i2,e2,w2⟩:=w1.lp i1 hs
  exact⟨ρ,l1.trans i i1 l2,i2,e2,w2⟩
end
end

end Go.Proofs.YtbajmaoegmbfgaaGreat
