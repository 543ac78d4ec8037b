/- Merged. -/
import Derived.Test.YtbajmaoegmbfgaaGreatTr2
import Derived.Test.YtbajmaoegmbfgaaGreatGTo2
import Derived.Test.YtbajmaoegmbfgaaGreatGPa1
set_option linter.unusedSimpArgs false
set_option linter.unusedVariables false
namespace Go.Ct
open Go Go.RowKit
section
structure mX(n c:Nat)(v:Nv):Prop where
 bS:v.bS<=n
 exp:v.exp<=n
 new:v.new<=n
 br:∀r∈v.xs,r<=n
 main:v.main<=c
 prev:v.prev<=c
 status:v.status<=c
 bm:∃b:Nat,v.bm=(b:Int)/\b<18446744073709551616
 hash:∃b:Nat,v.hash=(b:Int)/\b<18446744073709551616
theorem mX.mono{n c n' c':Nat}{v:Nv}(h:mX n c v)(h1:n<=n')(h2:c<=c'):mX n' c' v :=⟨by have:=h.bS;omega,by have:=h.exp;omega,by have:=h.new;omega,λ r hr=>by have:=h.br r hr;omega,by have:=h.main;omega,by have:=h.prev;omega,by have:=h.status;omega,h.bm,h.hash⟩
theorem Qb(n c:Nat):mX n c Nv.zero:=⟨bN _,bN _,bN _,(λ r hr=>nomatch hr),bN _,bN _,bN _,⟨0,rfl,by decide⟩,⟨0,rfl,by decide⟩⟩
structure XS.Ok(x:XS):Prop where
 fit:Fits x.L
 nd:∀v∈x.L,mX x.L.length x.cs.length v.c
 cs:∀v∈x.cs,v<=x.L.length
 got:∀v∈x.got,v<=x.L.length
 made:∀v∈x.made,v<=x.L.length
 two:2<=x.L.length
 lL:x.L.length<=137438953600
 lc:x.cs.length<=137438953600
 lg:x.got.length<=1073741824
 la:x.a<=x.got.length
 lm:x.m<=x.made.length
 lk:x.c<=x.cel.length
 le:x.g<=x.gns.length
 fr:x.fr<=1
 ys:∀v∈x.L,v.ys.length<=x.L.length
 gen0:0<=x.gen
 ms:∀i j:Nat,i<j->j<x.made.length->x.made.getD i 0<x.made.getD j 0
 m1:∀v∈x.made,1<=v
theorem mU{l:List Int}{n:Nat}(h:∀v∈l,v<=n)(k:Nat):l.getD k 0<=n:=by
 rw[iX];cases hk:l[k]? with
 | none=>exact bN n
 | some v=>exact h v (List.mem_of_getElem? hk)
theorem XS.Ok.nv{x:XS}(h:x.Ok)(r:Int):mX x.L.length x.cs.length (aB x.L r).c:=by
 unfold aB;split;·exact h.nd _ (fH (by omega))
 ·exact Qb _ _
theorem XS.Ok.cell{x:XS}(h:x.Ok)(c:Int):bK x.cs c<=x.L.length:=by
 unfold bK;split;·exact mU h.cs _
 ·exact bN _
structure Nx(g:Gx)(x x':XS)(N:List aQ)(t:Tr)(b:Int):Prop where
 go:gI g x' t
 ok:x'.Ok
 ext:x'.L=x.L++N
 lc:x.cs.length<=x'.cs.length
 bd:b<=x'.L.length
def Ch(x0 x:XS)(F:Fr):Prop:=∃N,x.L=x0.L++N/\∀f∈aN N,f.2=[]∨f∈F
variable{x0 x x':XS}{F A:Fr}{O:List Ow}
theorem Ch.base:Ch x0 x0 F:=⟨[],by simp,λ f hf=>by simp[aN] at hf⟩
theorem Ch.ext{N:List aQ}(h:Ch x0 x F)(e:x'.L=x.L++N):Ch x0 x' (aN N++F):=by
 obtain⟨M,h1,h2⟩:=h;refine⟨M++N,by rw[e,h1,List.append_assoc],λ f hf=>?_⟩;rw[cX] at hf;rcases List.mem_append.1 hf with hf|hf;·exact(h2 f hf).imp_right λ h=>List.mem_append_right _ h
 ·exact .inr (List.mem_append_left _ hf)
theorem Ch.nx{g:Gx}{N:List aQ}{t:Tr}{b:Int}(h:Nx g x x' N t b)(hc:Ch x0 x F):Ch x0 x' (aN N++F):=hc.ext h.ext
theorem Ch.cons{f:Option Addr×List Value}(h:Ch x0 x F):Ch x0 x (f::F):=by obtain⟨M,h1,h2⟩:=h;exact⟨M,h1,λ g hg=>(h2 g hg).imp_right λ h=>List.mem_cons_of_mem _ h⟩
theorem Ch.all(h:Ch x0 x F)(hA:∀f∈aN x0.L,f∈A):bH A F O (aN x.L):=by
 obtain⟨M,h1,h2⟩:=h;refine .of λ f hf=>?_;rw[h1,cX] at hf;rcases List.mem_append.1 hf with hf|hf
 ·exact .inr (.inl (hA f hf))
 ·exact(h2 f hf).imp_right λ h=>.inr (.inl h)
theorem SF.fq{w0 w:World}{M:List Nat}{H:List (Nat×Obj)}(h:SF w0 M H A F O w)(hc:Ch x0 x F)(hA:∀f∈aN x0.L,f∈A)(ok:x.Ok)(r:Int):sG w (aB x.L r).nd (aB x.L r).xs (aB x.L r).ys:=by
 unfold aB;split;·have hv:=fH (L:=x.L) (k:=(r-1).toNat) (by omega);have hk:=(hc.all (O:=O) hA).get;generalize x.L.getD (r-1).toNat aQ.zero=v at hv ⊢;exact(ok.fit _ hv).sU (h.clH (hk (v.nd.brA,aH v.xs) (tM.2 ⟨v,hv,by simp[aQ.fr]⟩))) (h.clH (hk (v.nd.prA,dF v.ys) (tM.2 ⟨v,hv,by simp[aQ.fr]⟩)))
 ·exact P6.sU (Cl.nil _ _) (Cl.nil _ _)
end
end Go.Ct
namespace Go.Proofs.YtbajmaoegmbfgaaGreat
open Go.Ct
section
inductive CT where
 | no
 | main (i:Int)
 | prev (m:Int)
 | stat (d:Int)
 | root
 | rort
structure Kw where
 mm:Mm
 way:Int->List Nat
 gb:Int->Int
 ct:Int->CT
abbrev Kw.nd(σ:Kw)(r:Int):Nv:=bE σ.mm.nodes r
abbrev Kw.ce(σ:Kw)(c:Int):Int:=bK σ.mm.cs c
abbrev Kw.len(σ:Kw):Nat:=σ.mm.nodes.length
abbrev Kw.cl(σ:Kw):Nat:=σ.mm.cs.length
def fT(h:Nat)(w:List Nat):Prop:=∀k,k<w.length->sl h k=w.getD k 0
def uW(σ:Kw)(i:Int)(w:List Nat):Prop:=(σ.nd i).kind=2/\σ.way i=w
def oQ(σ:Kw)(m:Int)(w:List Nat)(g:Int):Prop:=cB (σ.nd m)/\σ.way m=w/\σ.gb m<=g
def bC(σ:Kw)(m:Int):Prop:=σ.ce (σ.nd m).prev=0
def rJ(σ:Kw)(m p:Int):Prop:=oQ σ p (σ.way m) (σ.gb m)/\bC σ p
def Nm(σ:Kw)(w:List Nat)(g b:Int):Prop:=((σ.nd b).kind=4/\fT (σ.nd b).hash.toNat w)∨((σ.nd b).kind=2/\σ.way b=w/\(σ.nd b).gen<=g)
structure NdI(H:ByteArray->Nat)(σ:Kw)(r:Int):Prop where
 valid:cK (σ.nd r).nd (σ.nd r).xs (σ.nd r).ys
 gen:(σ.nd r).gen<=σ.mm.gen
 bd:mX σ.len σ.cl (σ.nd r)
 k2:(σ.nd r).kind=2->(σ.way r).length<=11/\1<=(σ.nd r).main/\σ.ct (σ.nd r).main=.main r
 k3:(σ.nd r).kind=3->(σ.way r).length<=10/\(∀k:Nat,∀b,iU (σ.nd r) k=some b->Nm σ (σ.way r++[k]) (σ.gb r) b)/\(0<(σ.way r).length->(σ.nd r).xs≠[]/\∀b,(σ.nd r).xs=[b]->(σ.nd b).kind=2)/\1<=(σ.nd r).prev/\σ.ct (σ.nd r).prev=.prev r
 k4:(σ.nd r).kind=4->H (σ.nd r).key=(σ.nd r).hash.toNat
 k5:(σ.nd r).kind=5->0<(σ.way r).length/\(σ.way r).length<=11/\H (σ.nd r).key=(σ.nd r).hash.toNat/\fT (σ.nd r).hash.toNat (σ.way r)/\1<=(σ.nd r).prev/\σ.ct (σ.nd r).prev=.prev r
 k6:(σ.nd r).kind=6->(σ.way r).length=11/\fT (σ.nd r).hash.toNat (σ.way r)/\(∀p∈(σ.nd r).ys,H p.1=(σ.nd r).hash.toNat)/\1<=(σ.nd r).prev/\σ.ct (σ.nd r).prev=.prev r
 k7:(σ.nd r).kind=7->cB (σ.nd (σ.nd r).bS)
 k8:(σ.nd r).kind=8->uW σ (σ.nd r).bS []/\uW σ (σ.nd r).new []/\1<=(σ.nd r).status/\σ.ct (σ.nd r).status=.stat r
structure s9(σ:Kw)(c:Int):Prop where
 lo:0<=σ.ce c
 hi:σ.ce c<=σ.len
 main:∀i,σ.ct c=.main i->(σ.nd i).kind=2/\oQ σ (σ.ce c) (σ.way i) (σ.nd i).gen
 prev:∀m,σ.ct c=.prev m->cB (σ.nd m)/\(σ.ce c=0∨rJ σ m (σ.ce c)∨((σ.nd (σ.ce c)).kind=7/\rJ σ m (σ.nd (σ.ce c)).bS))
 stat:∀d,σ.ct c=.stat d->σ.ce c=0∨σ.ce c=1∨σ.ce c=2
 root:σ.ct c=.root->uW σ (σ.ce c) []∨(σ.nd (σ.ce c)).kind=8
 rort:σ.ct c=.rort->uW σ (σ.ce c) []
structure Inv(H:ByteArray->Nat)(σ:Kw):Prop where
 two:2<=σ.len
 m1:(σ.nd 1).kind=1
 m2:(σ.nd 2).kind=1
 gen:0<=σ.mm.gen
 prop:gN σ.mm.nodes σ.mm.cs σ.mm.gen
 nd:∀r:Int,1<=r->r<=σ.len->NdI H σ r
 ce:∀c:Int,1<=c->c<=σ.cl->s9 σ c
structure Le(σ τ:Kw):Prop where
 nodes:∃N,τ.mm.nodes=σ.mm.nodes++N
 cl:σ.cl<=τ.cl
 gen:σ.mm.gen<=τ.mm.gen
 way:∀r:Int,r<=σ.len->τ.way r=σ.way r
 gb:∀r:Int,r<=σ.len->τ.gb r=σ.gb r
 ct:∀c:Int,c<=σ.cl->τ.ct c=σ.ct c
 done:∀(c m:Int),1<=c->c<=σ.cl->σ.ct c=.prev m->¬cB (σ.nd (σ.ce c))->τ.ce c=σ.ce c
 next:∀(c m:Int),1<=c->c<=σ.cl->σ.ct c=.prev m->cB (σ.nd (σ.ce c))->τ.ce c=σ.ce c∨τ.ce c=0∨((τ.nd (τ.ce c)).kind=7/\(τ.nd (τ.ce c)).bS=σ.ce c)
theorem Le.refl(σ:Kw):Le σ σ:=⟨⟨[],by simp⟩,Nat.le_refl _,Int.le_refl _,λ _ _=>rfl,λ _ _=>rfl,λ _ _=>rfl,λ _ _ _ _ _ _=>rfl,λ _ _ _ _ _ _=>.inl rfl⟩
section
variable{H:ByteArray->Nat}{σ τ υ:Kw}
theorem Le.len(h:Le σ τ):σ.len<=τ.len:=by obtain⟨N,e⟩:=h.nodes;simp only[Kw.len,e,List.length_append];omega
theorem Le.nd(h:Le σ τ){r:Int}(hr:r<=σ.len):τ.nd r=σ.nd r:=by obtain⟨N,e⟩:=h.nodes;simp only[Kw.nd,e];exact Jb hr
theorem iY{N:List Nv}{r:Int}(h:cB (bE N r)):1<=r/\r<=N.length:=eU (by unfold cB at h;omega)
theorem cB.ne0{n:Nv}(h:cB n):n.kind≠0/\n.kind≠7/\n.kind≠2/\n.kind≠8:=by unfold cB at h;omega
theorem kB{n:Nv}(h:n.kind=0∨n.kind=7∨n.kind=2∨n.kind=8∨n.kind=1):¬cB n:=λ hm=>by unfold cB at hm;omega
theorem yR(N:List Nv):(bE N 0).kind=0:=by unfold bE;rw[if_neg (by omega)];rfl
def Nxt(σ τ:Kw)(v v':Int):Prop:=(¬cB (σ.nd v)->v'=v)/\(cB (σ.nd v)->v'=v∨v'=0∨((τ.nd v').kind=7/\(τ.nd v').bS=v))
theorem Le.nxt(h:Le σ τ){c m:Int}(h1:1<=c)(hc:c<=σ.cl)(e:σ.ct c=.prev m):Nxt σ τ (σ.ce c) (τ.ce c):=⟨h.done c m h1 hc e,h.next c m h1 hc e⟩
theorem Le.trans(i1:Inv H σ)(i2:Inv H τ)(h:Le σ τ)(h2:Le τ υ):Le σ υ:=by
 have hl:=h.len;have hl2:=h2.len;refine⟨?_,Nat.le_trans h.cl h2.cl,Int.le_trans h.gen h2.gen,λ r hr=>(h2.way r (by omega)).trans (h.way r hr),λ r hr=>(h2.gb r (by omega)).trans (h.gb r hr),λ c hc=>(h2.ct c (by have:=h.cl;omega)).trans (h.ct c hc),λ c m h1 hc e hk=>?_,λ c m h1 hc e hk=>?_⟩
 ·obtain⟨N,e⟩:=h.nodes;obtain⟨N2,e2⟩:=h2.nodes;exact⟨N++N2,by rw[e2,e,List.append_assoc]⟩
 ·have e1:=h.done c m h1 hc e hk;have e2:τ.ct c=.prev m:=(h.ct c hc).trans e;rw[<- e1];refine h2.done c m h1 (by have:=h.cl;omega) e2 ?_;rw[e1,h.nd (i1.ce c h1 hc).hi];exact hk
 ·have e2:τ.ct c=.prev m:=(h.ct c hc).trans e;have hc2:c<=τ.cl:=by have:=h.cl;omega
  rcases h.next c m h1 hc e hk with e1|e1|⟨e1,e3⟩;·rw[<- e1];refine h2.next c m h1 hc2 e2 ?_;rw[e1,h.nd (i1.ce c h1 hc).hi];exact hk
  ·refine .inr (.inl ?_);rw[h2.done c m h1 hc2 e2 (by rw[e1];exact kB (.inl (yR _))),e1]
  ·refine .inr (.inr ?_);rw[h2.done c m h1 hc2 e2 (kB (.inr (.inl e1))),h2.nd (i2.ce c h1 hc2).hi];exact⟨e1,e3⟩
def WT(H:ByteArray->Nat)(Q:Rs->Kw->Prop):Tr->Kw->Prop
 | .done r,σ=>Q r σ
 | .load c k,σ=>∀τ,Le σ τ->Inv H τ->WT H Q (k (τ.ce c)) τ
 | .kG c o n k,σ=>∀τ,Le σ τ->Inv H τ->(iQ τ.mm.cs c o->∃υ,Le τ υ/\Inv H υ/\υ.mm=⟨τ.mm.nodes,eL τ.mm.cs c o n,τ.mm.gen⟩/\WT H Q (k true) υ)/\(¬iQ τ.mm.cs c o->WT H Q (k false) τ)
 | .alloc n i k,σ=>∃υ,Le σ υ/\Inv H υ/\υ.mm=σ.mm.push n i/\WT H Q (k ((σ.len+1:Nat):Int)) υ
 | .cell i k,σ=>∃υ,Le σ υ/\Inv H υ/\υ.mm=⟨σ.mm.nodes,σ.mm.cs++[i],σ.mm.gen⟩/\WT H Q (k ((σ.cl+1:Nat):Int)) υ
 | .gen k,σ=>∃υ,Le σ υ/\Inv H υ/\υ.mm=⟨σ.mm.nodes,σ.mm.cs,σ.mm.gen+1⟩/\WT H Q (k (σ.mm.gen+1)) υ
 | .node r k,σ=>r<=σ.len/\WT H Q (k (σ.nd r)) σ
 | .stuck,_=>True
def dK:Tr->Bool
 | .load _ _=>true
 | .kG _ _ _ _=>true
 | .done _=>true
 | _=>false
variable{t t':Tr}{s':Mm}
theorem WT.sp{Q:Rs->Kw->Prop}(i1:Inv H σ)(w:WT H Q t σ)(h:Sp t σ.mm t' s'):∃υ,Le σ υ/\Inv H υ/\υ.mm=s'/\WT H Q t' υ:=by
 cases h with
 | alloc n i k s=>exact w
 | cell i k s=>exact w
 | gen k s=>exact w
 | node r k s h=>exact⟨σ,Le.refl σ,i1,rfl,w.2⟩
theorem WT.lp{Q:Rs->Kw->Prop}(i1:Inv H σ)(w:WT H Q t σ)(h:Lp t σ.mm t' s'):∃υ,Le σ υ/\Inv H υ/\υ.mm=s'/\WT H Q t' υ:=by
 cases h with
 | load c k s=>exact⟨σ,Le.refl σ,i1,rfl,w σ (Le.refl σ) i1⟩
 | kG c o n k s b hb=>
  obtain⟨w1,w2⟩:=w σ (Le.refl σ) i1;cases b with
  | true=>exact w1 (hb.1 rfl)
  | false=>
   have hn:¬iQ σ.mm.cs c o:=λ h=>by have:=hb.2 h;cases this
   refine⟨σ,Le.refl σ,i1,?_,w2 hn⟩;rw[show eL σ.mm.cs c o n=σ.mm.cs from uL hn]
theorem WT.rc{Q:Rs->Kw->Prop}{s:Mm}{j:Nat}(h:Rc j t s t' s'):∀{σ:Kw},σ.mm=s->Inv H σ->WT H Q t σ->∃υ,Le σ υ/\Inv H υ/\υ.mm=s'/\WT H Q t' υ:=by
 induction h with
 | refl t s=>intro σ e i w;exact⟨σ,Le.refl σ,i,e,w⟩
 | eF _ hs ih=>intro σ e i w;obtain⟨υ,l1,i1,e1,w1⟩:=ih e i w;subst e1;obtain⟨ρ,l2,i2,e2,w2⟩:=w1.sp i1 hs;exact⟨ρ,l1.trans i i1 l2,i2,e2,w2⟩
 | loud _ hs ih=>intro σ e i w;obtain⟨υ,l1,i1,e1,w1⟩:=ih e i w;subst e1;obtain⟨ρ,l2,i2,e2,w2⟩:=w1.lp i1 hs;exact⟨ρ,l1.trans i i1 l2,i2,e2,w2⟩
end
end
section
section
variable{H:ByteArray->Nat}{σ τ υ:Kw}{r:Int}{w:List Nat}
variable{cs:List Int}{c o v g:Int}
theorem kZ(h:iQ cs c o)(c':Int):bK (eL cs c o v) c'=if c'=c then v else bK cs c':=by
 have hl:=gR (cs:=cs) (c:=c) (bS:=o) (new:=v);obtain⟨h1,h2,h3⟩:=h;have e:eL cs c o v=cs.set (c-1).toNat v:=if_pos ⟨h1,h2,h3⟩;unfold bK;rw[hl];by_cases hc:1<=c'/\c'<=cs.length
 ·rw[if_pos hc,if_pos hc,e];by_cases e2:c'=c;·subst e2;rw[if_pos rfl];rw[iX,List.getElem?_set,if_pos rfl,if_pos (by omega)];rfl
  ·rw[if_neg e2];rw[iX,List.getElem?_set,if_neg (by omega),iX]
 ·rw[if_neg hc,if_neg hc,if_neg (by omega)]
theorem wZ(h:iQ cs c o):bK cs c=o:=by obtain⟨h1,h2,h3⟩:=h;unfold bK;rw[if_pos ⟨h1,h2⟩,h3]
theorem uW.in(h:uW σ r w):1<=r/\r<=σ.len:=eU (by rw[h.1];decide)
theorem oQ.in(h:oQ σ r w g):1<=r/\r<=σ.len:=iY h.1
theorem Inv.kR(i:Inv H σ){m:Int}(h:cB (σ.nd m)):1<=(σ.nd m).prev/\(σ.nd m).prev<=σ.cl/\σ.ct (σ.nd m).prev=.prev m:=by
 have hr:=iY h;have hn:=i.nd m hr.1 hr.2;have hb:=hn.bd.prev;rcases h with h|h|h
 ·have:=hn.k3 h;exact⟨this.2.2.2.1,hb,this.2.2.2.2⟩
 ·have:=hn.k5 h;exact⟨this.2.2.2.2.1,hb,this.2.2.2.2.2⟩
 ·have:=hn.k6 h;exact⟨this.2.2.2.1,hb,this.2.2.2.2⟩
theorem Inv.eH(i:Inv H σ){r:Int}(h:(σ.nd r).kind=2):1<=(σ.nd r).main/\(σ.nd r).main<=σ.cl/\σ.ct (σ.nd r).main=.main r:=by have hr:=eU (N:=σ.mm.nodes) (i:=r) (by rw[h];decide);have hn:=i.nd r hr.1 hr.2;exact⟨(hn.k2 h).2.1,hn.bd.main,(hn.k2 h).2.2⟩
theorem Inv.iq(i:Inv H σ){r:Int}(h:(σ.nd r).kind=8):1<=(σ.nd r).status/\(σ.nd r).status<=σ.cl/\σ.ct (σ.nd r).status=.stat r:=by have hr:=eU (N:=σ.mm.nodes) (i:=r) (by rw[h];decide);have hn:=i.nd r hr.1 hr.2;exact⟨(hn.k8 h).2.2.1,hn.bd.status,(hn.k8 h).2.2.2⟩
theorem uW.up(h:uW σ r w)(l:Le σ τ):uW τ r w:=by have hr:=h.in;exact⟨by rw[l.nd hr.2];exact h.1,by rw[l.way r hr.2];exact h.2⟩
theorem oQ.up(h:oQ σ r w g)(l:Le σ τ):oQ τ r w g:=by have hr:=h.in;exact⟨by rw[l.nd hr.2];exact h.1,by rw[l.way r hr.2];exact h.2.1,by rw[l.gb r hr.2];exact h.2.2⟩
theorem oQ.le{g':Int}(h:oQ σ r w g)(hg:g<=g'):oQ σ r w g':=⟨h.1,h.2.1,Int.le_trans h.2.2 hg⟩
theorem bC.up(i:Inv H σ)(hm:cB (σ.nd r))(h:bC σ r)(l:Le σ τ):bC τ r:=by have hc:=i.kR hm;unfold bC;rw[l.nd (iY hm).2,l.done _ r hc.1 hc.2.1 hc.2.2 (by rw[h];exact kB (.inl (yR _)))];exact h
theorem s9.same(h:s9 σ c)(hm:υ.mm.nodes=σ.mm.nodes)(hw:υ.way=σ.way)(hg:υ.gb=σ.gb)(hct:υ.ct=σ.ct)(hc:υ.ce c=σ.ce c)(hs:∀p,cB (σ.nd p)->bC σ p->bC υ p):s9 υ c:=by
 have hl:υ.len=σ.len:=by simp only[Kw.len,hm]
 have hn:∀r,υ.nd r=σ.nd r:=λ r=>by simp only[Kw.nd,hm]
 have hM:∀p w g,oQ σ p w g->oQ υ p w g:=λ p w g h=>⟨by rw[hn];exact h.1,by rw[hw];exact h.2.1,by rw[hg];exact h.2.2⟩;have hP:∀m p,rJ σ m p->rJ υ m p:=λ m p h=>⟨by rw[hw,hg];exact hM _ _ _ h.1,hs p h.1.1 h.2⟩;refine⟨by rw[hc];exact h.lo,by rw[hc,hl];exact h.hi,λ i e=>?_,λ m e=>?_,λ d e=>?_,λ e=>?_,λ e=>?_⟩
 ·rw[hc,hw,hn];obtain⟨h0,h1⟩:=h.main i (by rw[<- hct];exact e);exact⟨h0,hM _ _ _ h1⟩
 ·rw[hc,hn,hn];obtain⟨h0,h⟩:=h.prev m (by rw[<- hct];exact e);refine⟨h0,?_⟩;rcases h with h1|h1|⟨h1,h2⟩;·exact .inl h1
  ·exact .inr (.inl (hP _ _ h1))
  ·exact .inr (.inr ⟨h1,hP _ _ h2⟩)
 ·rw[hc];exact h.stat d (by rw[<- hct];exact e)
 ·rw[hc,hn];rcases h.root (by rw[<- hct];exact e) with h1|h1;·exact .inl ⟨by rw[hn];exact h1.1,by rw[hw];exact h1.2⟩
  ·exact .inr h1
 ·rw[hc];have h1:=h.rort (by rw[<- hct];exact e);exact⟨by rw[hn];exact h1.1,by rw[hw];exact h1.2⟩
theorem gN.kG{N:List Nv}{gen:Int}(h:gN N cs gen)(lo:0<=v)(hi:v<=N.length):gN N (eL cs c o v) gen:=by
 unfold eL;split
 ·refine⟨h.two,h.gen0,h.m0,h.m1,λ i hi'=>?_,h.nodes,by rw[List.length_set];exact h.marks⟩;rw[List.length_set] at hi';rw[iX,List.getElem?_set];split;·rw[if_pos (by omega)];exact⟨lo,by rw[List.length_map];exact hi⟩
  ·rw[<- iX];exact h.cells i hi'
 ·exact h
structure Wy(σ:Kw)(c o v:Int):Prop where
 lo:0<=v
 hi:v<=σ.len
 main:∀i,σ.ct c=.main i->oQ σ v (σ.way i) (σ.nd i).gen
 prev:∀m,σ.ct c=.prev m->cB (σ.nd o)/\(v=0∨((σ.nd v).kind=7/\(σ.nd v).bS=o))
 stat:∀d,σ.ct c=.stat d->v=0∨v=1∨v=2
 root:σ.ct c=.root->uW σ v []∨(σ.nd v).kind=8
 rort:σ.ct c=.rort->uW σ v []
def Kw.set(σ:Kw)(c o v:Int):Kw:=⟨⟨σ.mm.nodes,eL σ.mm.cs c o v,σ.mm.gen⟩,σ.way,σ.gb,σ.ct⟩
theorem uh{c o v:Int}(i:Inv H σ)(hk:iQ σ.mm.cs c o)(hs:Wy σ c o v):Le σ (σ.set c o v)/\Inv H (σ.set c o v)/\(σ.set c o v).ce c=v:=by
 unfold Kw.set;refine⟨?_,?_,by show bK (eL _ _ _ _) c=v;rw[kZ hk,if_pos rfl]⟩
 ·refine⟨⟨[],by simp⟩,by simp only[Kw.cl,gR];exact Nat.le_refl _,Int.le_refl _,λ _ _=>rfl,λ _ _=>rfl,λ _ _=>rfl,λ c' m h1 hc e hm=>?_,λ c' m h1 hc e hm=>?_⟩
  ·show bK (eL _ _ _ _) c'=_;rw[kZ hk];split;·rename_i e2;subst e2;exact absurd (by rw[show σ.ce c'=o from wZ hk];exact(hs.prev m e).1) hm
   ·rfl
  ·show bK (eL _ _ _ _) c'=_∨bK (eL _ _ _ _) c'=_∨_;rw[kZ hk];split
   ·rename_i e2;subst e2;have e3:σ.ce c'=o:=wZ hk;rcases(hs.prev m e).2 with h|h
    ·exact .inr (.inl h)
    ·refine .inr (.inr ?_);show(bE σ.mm.nodes (bK (eL _ _ _ _) c')).kind=7/\(bE σ.mm.nodes (bK (eL _ _ _ _) c')).bS=_;rw[kZ hk,if_pos rfl,e3];exact h
   ·exact .inl rfl
 ·have hcl:(eL σ.mm.cs c o v).length=σ.cl:=gR;refine⟨i.two,i.m1,i.m2,i.gen,gN.kG i.prop hs.lo hs.hi,λ r h1 h2=>?_,λ c' h1 h2=>?_⟩
  ·have h:=i.nd r h1 h2;exact⟨h.valid,h.gen,by simp only[Kw.cl,hcl];exact h.bd,h.k2,h.k3,h.k4,h.k5,h.k6,h.k7,h.k8⟩
  ·simp only[Kw.cl,hcl] at h2;have hset:∀p,cB (σ.nd p)->bC σ p->bK (eL σ.mm.cs c o v) (σ.nd p).prev=0:=λ p hm hp=>by
    rw[kZ hk];split;·rename_i e;have hc:=(i.kR hm).2.2;rw[e] at hc;have h0:σ.ce (σ.nd p).prev=0:=hp;rw[e,show σ.ce c=o from wZ hk] at h0;have:=(hs.prev p hc).1;rw[h0] at this;exact absurd this (kB (.inl (yR _)))
    ·exact hp
   by_cases e:c'=c
   ·subst e;have e2:bK (eL σ.mm.cs c' o v) c'=v:=by rw[kZ hk,if_pos rfl]
    have e3:σ.ce c'=o:=wZ hk;refine⟨by simp only[Kw.ce,e2];exact hs.lo,by simp only[Kw.ce,e2];exact hs.hi,λ i' h=>?_,λ m h=>?_,λ d h=>?_,λ h=>?_,λ h=>?_⟩
    ·simp only[Kw.ce,e2];exact⟨((i.ce c' h1 h2).main i' h).1,hs.main i' h⟩
    ·simp only[Kw.ce,e2];have hp:=hs.prev m h;have hold:rJ σ m o:=by
      rcases((i.ce c' h1 h2).prev m h).2 with h3|h3|h3
      ·rw[e3] at h3;rw[h3] at hp;exact absurd hp.1 (kB (.inl (yR _)))
      ·rwa [e3] at h3
      ·rw[e3] at h3;exact absurd hp.1 (kB (.inr (.inl h3.1)))
     refine⟨((i.ce c' h1 h2).prev m h).1,?_⟩;rcases hp.2 with h3|⟨h3,h4⟩;·exact .inl h3
     ·refine .inr (.inr ⟨h3,?_⟩);show rJ _ m (σ.nd v).bS;rw[h4];exact⟨hold.1,hset _ hp.1 hold.2⟩
    ·simp only[Kw.ce,e2];exact hs.stat d h
    ·simp only[Kw.ce,e2];exact hs.root h
    ·simp only[Kw.ce,e2];exact hs.rort h
   ·exact(i.ce c' h1 h2).same rfl rfl rfl rfl (by show bK (eL _ _ _ _) c'=_;rw[kZ hk,if_neg e]) hset
structure Ext(σ υ:Kw):Prop where
 nodes:∃N,υ.mm.nodes=σ.mm.nodes++N
 cs:∃C,υ.mm.cs=σ.mm.cs++C
 gen:σ.mm.gen<=υ.mm.gen
 way:∀r:Int,r<=σ.len->υ.way r=σ.way r
 gb:∀r:Int,r<=σ.len->υ.gb r=σ.gb r
 ct:∀c:Int,c<=σ.cl->υ.ct c=σ.ct c
theorem tK{cs C:List Int}{c:Int}(h:c<=cs.length):bK (cs++C) c=bK cs c:=by
 unfold bK;by_cases h1:1<=c;·rw[if_pos ⟨h1,by simp;omega⟩,if_pos ⟨h1,h⟩,iX,iX,List.getElem?_append_left (by omega)]
 ·rw[if_neg (by omega),if_neg (by omega)]
theorem Ext.ce(e:Ext σ υ){c:Int}(h:c<=σ.cl):υ.ce c=σ.ce c:=by obtain⟨C,h2⟩:=e.cs;simp only[Kw.ce,h2];exact tK h
theorem Ext.cl(e:Ext σ υ):σ.cl<=υ.cl:=by obtain⟨C,h2⟩:=e.cs;simp only[Kw.cl,h2,List.length_append];omega
theorem Ext.le(e:Ext σ υ):Le σ υ:=⟨e.nodes,e.cl,e.gen,e.way,e.gb,e.ct,λ _ _ _ h _ _=>e.ce h,λ _ _ _ h _ _=>.inl (e.ce h)⟩
theorem Nm.up{g b:Int}(h:Nm σ w g b)(l:Le σ υ):Nm υ w g b:=by
 rcases h with h|h;·have hr:=eU (N:=σ.mm.nodes) (i:=b) (by rw[h.1];decide);exact .inl (by rw[l.nd hr.2];exact h)
 ·have hr:=eU (N:=σ.mm.nodes) (i:=b) (by rw[h.1];decide);exact .inr (by rw[l.nd hr.2,l.way b hr.2];exact h)
theorem NdI.ext(h:NdI H σ r)(hr:r<=σ.len)(e:Ext σ υ):NdI H υ r:=by
 have l:=e.le;have hn:=l.nd hr;have hw:=l.way r hr;have hk:∀b,(σ.nd b).kind=2->(υ.nd b).kind=2:=λ b hb=>by rw[l.nd (eU (N:=σ.mm.nodes) (i:=b) (by rw[hb];decide)).2];exact hb
 refine⟨by rw[hn];exact h.valid,by rw[hn];have:=h.gen;have:=e.gen;omega,by rw[hn];exact h.bd.mono l.len l.cl,λ k=>?_,λ k=>?_,λ k=>?_,λ k=>?_,λ k=>?_,λ k=>?_,λ k=>?_⟩<;>rw[hn] at k ⊢;·obtain⟨h1,h2,h3⟩:=h.k2 k;exact⟨by rw[hw];exact h1,h2,by rw[l.ct _ h.bd.main];exact h3⟩
 ·obtain⟨h1,h2,h3,h4,h5⟩:=h.k3 k;rw[hw];refine⟨h1,λ k' b hb=>by rw[l.gb r hr];exact(h2 k' b hb).up l,λ h0=>⟨(h3 h0).1,λ b hb=>hk b ((h3 h0).2 b hb)⟩,h4,by rw[l.ct _ h.bd.prev];exact h5⟩
 ·exact h.k4 k
 ·rw[hw,l.ct _ h.bd.prev];exact h.k5 k
 ·rw[hw,l.ct _ h.bd.prev];exact h.k6 k
 ·have:=h.k7 k;rw[l.nd (iY this).2];exact this
 ·obtain⟨h1,h2,h3,h4⟩:=h.k8 k;exact⟨h1.up l,h2.up l,h3,by rw[l.ct _ h.bd.status];exact h4⟩
theorem s9.ext{c:Int}(i:Inv H σ)(h:s9 σ c)(hc:c<=σ.cl)(e:Ext σ υ):s9 υ c:=by
 have l:=e.le;have hv:=e.ce hc;have hP:∀m p:Int,m<=σ.len->rJ σ m p->rJ υ m p:=λ m p hm hp=>⟨by rw[l.way m hm,l.gb m hm];exact hp.1.up l,bC.up i hp.1.1 hp.2 l⟩;refine⟨by rw[hv];exact h.lo,by rw[hv];have:=h.hi;have:=l.len;omega,λ i' k=>?_,λ m k=>?_,λ d k=>?_,λ k=>?_,λ k=>?_⟩<;>rw[l.ct c hc] at k<;>rw[hv]
 ·obtain⟨h1,h2⟩:=h.main i' k;have hr:=eU (N:=σ.mm.nodes) (i:=i') (by rw[h1];decide);rw[l.nd hr.2,l.way i' hr.2];exact⟨h1,h2.up l⟩
 ·obtain⟨h1,h2⟩:=h.prev m k;have hr:=iY h1;rw[l.nd hr.2];refine⟨h1,?_⟩;rcases h2 with h2|h2|⟨h2,h3⟩
  ·exact .inl h2
  ·exact .inr (.inl (hP m _ hr.2 h2))
  ·refine .inr (.inr ?_);rw[l.nd h.hi];exact⟨h2,hP m _ hr.2 h3⟩
 ·exact h.stat d k
 ·rcases h.root k with h1|h1;·exact .inl (h1.up l)
  ·exact .inr (by rw[l.nd h.hi];exact h1)
 ·exact(h.rort k).up l
theorem Oi(i:Inv H σ)(e:Ext σ υ)(hp:gN υ.mm.nodes υ.mm.cs υ.mm.gen)(hn:∀r:Int,σ.len<r->r<=υ.len->NdI H υ r)(hc:∀c:Int,σ.cl<c->c<=υ.cl->s9 υ c):Inv H υ:=by
 have l:=e.le;refine⟨Nat.le_trans i.two l.len,by rw[l.nd (by have:=i.two;omega)];exact i.m1,by rw[l.nd (by have:=i.two;omega)];exact i.m2,Int.le_trans i.gen e.gen,hp,λ r h1 h2=>?_,λ c h1 h2=>?_⟩
 ·rcases Int.lt_or_le σ.len r with h|h;·exact hn r h h2
  ·exact(i.nd r h1 h).ext h e
 ·rcases Int.lt_or_le σ.cl c with h|h;·exact hc c h h2
  ·exact s9.ext i (i.ce c h1 h) h e
def Kw.add(σ:Kw)(n:Nv)(i:Int)(w:List Nat)(g:Int)(t:CT):Kw :=⟨σ.mm.push n i,λ r=>if r<=σ.len then σ.way r else w,λ r=>if r<=σ.len then σ.gb r else g,λ c=>if c<=σ.cl then σ.ct c else t⟩
theorem Xw(σ:Kw)(n:Nv)(i:Int)(w:List Nat)(g:Int)(t:CT):Ext σ (σ.add n i w g t) :=⟨⟨_,rfl⟩,by unfold Kw.add Mm.push fL;dsimp only;split;exact⟨_,rfl⟩;exact⟨[],by simp⟩,Int.le_refl _,λ r hr=>if_pos hr,λ r hr=>if_pos hr,λ c hc=>if_pos hc⟩
theorem Yp(σ:Kw)(n:Nv)(i:Int)(w:List Nat)(g:Int)(t:CT):(σ.add n i w g t).len=σ.len+1:=by simp[Kw.len,Kw.add,Mm.push]
theorem aCf(σ:Kw)(n:Nv)(i:Int)(w:List Nat)(g:Int)(t:CT):(σ.add n i w g t).nd ((σ.len+1:Nat):Int)=dI n σ.cl:=by
 simp only[Kw.nd,Kw.add,Mm.push,bE,List.length_append,List.length_cons,List.length_nil];rw[if_pos ⟨by omega,by simp only[Kw.len];omega⟩];have e:(((σ.len+1:Nat):Int)-1).toNat=σ.mm.nodes.length:=by simp only[Kw.len];omega
 rw[e];simp[iX]
theorem wa(σ:Kw)(n:Nv)(i:Int)(w:List Nat)(g:Int)(t:CT):(σ.add n i w g t).way ((σ.len+1:Nat):Int)=w:=if_neg (by omega)
theorem aBu(σ:Kw)(n:Nv)(i:Int)(w:List Nat)(g:Int)(t:CT):(σ.add n i w g t).gb ((σ.len+1:Nat):Int)=g:=if_neg (by omega)
theorem aBy(σ:Kw)(n:Nv)(i:Int)(w:List Nat)(g:Int)(t:CT):(σ.add n i w g t).ct ((σ.cl+1:Nat):Int)=t:=if_neg (by omega)
theorem aBq(σ:Kw){n:Nv}(i:Int)(w:List Nat)(g:Int)(t:CT)(h:n.kind=2∨n.kind=3∨n.kind=5∨n.kind=6∨n.kind=8):(σ.add n i w g t).cl=σ.cl+1/\(σ.add n i w g t).ce ((σ.cl+1:Nat):Int)=i:=by
 have e:(σ.add n i w g t).mm.cs=σ.mm.cs++[i]:=by simp only[Kw.add,Mm.push,fL];exact if_pos h
 refine⟨by simp[Kw.cl,e],?_⟩;simp only[Kw.ce,e,bK,List.length_append,List.length_cons,List.length_nil];rw[if_pos ⟨by omega,by simp only[Kw.cl];omega⟩];have e2:(((σ.cl+1:Nat):Int)-1).toNat=σ.mm.cs.length:=by simp only[Kw.cl];omega
 rw[e2];simp[iX]
theorem xr(σ:Kw){n:Nv}(i:Int)(w:List Nat)(g:Int)(t:CT)(h:¬(n.kind=2∨n.kind=3∨n.kind=5∨n.kind=6∨n.kind=8)):(σ.add n i w g t).cl=σ.cl:=by
 have e:(σ.add n i w g t).mm.cs=σ.mm.cs:=by simp only[Kw.add,Mm.push,fL];exact if_neg h
 simp[Kw.cl,e]
theorem xg{n:Nv}{i:Int}{g:Int}{t:CT}(h:Inv H σ)(hok:nK σ.mm.gen (σ.len+1) (dI n σ.cl).dv)(hi:Fs i σ.len)(hn:NdI H (σ.add n i w g t) ((σ.len+1:Nat):Int))(hc:(σ.add n i w g t).cl=σ.cl+1->s9 (σ.add n i w g t) ((σ.cl+1:Nat):Int))(hcl:(σ.add n i w g t).cl<=σ.cl+1):Inv H (σ.add n i w g t):=by
 refine Oi h (Xw σ n i w g t) (gN.push h.prop hok hi) (λ r h1 h2=>?_) (λ c h1 h2=>?_);·rw[Yp] at h2;rw[show r=((σ.len+1:Nat):Int) by omega];exact hn
 ·rw[show c=((σ.cl+1:Nat):Int) by omega];exact hc (by omega)
end
end
end Go.Proofs.YtbajmaoegmbfgaaGreat
namespace Go.Ct
section
section
variable{gen:Int}{n c:Nat}
theorem Ol(h:0<=gen):nK gen n fG.c.dv:=⟨⟨by simp[sX,Nd.own,Nd.jV,Nd.jR,fG,Nd.zero,aQ.c,Nd.c,Nv.dv,Nv.nd],by decide,by decide,by decide,.inl rfl⟩,h,λ i hi=>by simp[fG,aQ.c,Nd.c,Nv.dv] at hi,⟨by decide,bN n⟩,⟨by decide,bN n⟩,⟨by decide,bN n⟩⟩
theorem fZ:Fs 0 n:=⟨Int.le_refl _,bN n⟩
theorem Za{h u:Int}{k:ByteArray}(hg:0<=gen)(hk:k.size<=64):nK gen n (dI (({Nd.zero with kind:=4,hash:=h,key:=k,val:=u}:Nd).c [] []) c).dv :=⟨⟨by simp[sX,Nd.own,Nd.jV,Nd.jR,Nd.zero,dI,Nd.c,Nv.dv,Nv.nd],by simp[dI,Nd.c,Nv.dv,Nv.nd,Nd.zero],by simp[dI,Nd.c,Nv.dv,Nv.nd,Nd.zero],by simp[dI,Nd.c,Nv.dv,Nv.nd,Nd.zero],.inr (.inr (.inr (.inl ⟨.inl rfl,hk⟩)))⟩,hg,λ i hi=>by simp[dI,Nd.c,Nv.dv] at hi,fZ,fZ,fZ⟩
theorem ox{g:Int}(hg:g<=gen)(h1:1<=g):nK gen n (dI (({Nd.zero with kind:=2,gen:=g}:Nd).c [] []) c).dv :=⟨⟨by simp[sX,Nd.own,Nd.jV,Nd.jR,Nd.zero,dI,Nd.c,Nv.dv,Nv.nd],by simp[dI,Nd.c,Nv.dv,Nv.nd,Nd.zero];omega,by simp[dI,Nd.c,Nv.dv,Nv.nd,Nd.zero],by simp[dI,Nd.c,Nv.dv,Nv.nd,Nd.zero],.inr (.inl ⟨rfl,h1⟩)⟩,hg,λ i hi=>by simp[dI,Nd.c,Nv.dv] at hi,fZ,fZ,fZ⟩
theorem mz{b:Nat}{xs:List Int}(hg:0<=gen)(hb:BV b xs)(hx:∀r∈xs,r<=n):nK gen n (dI (({Nd.zero with kind:=3,bm:=(b:Int)}:Nd).c xs []) c).dv :=
 ⟨⟨by simp[sX,Nd.own,Nd.jV,Nd.jR,Nd.zero,dI,Nd.c,Nv.dv,Nv.nd],by simp[dI,Nd.c,Nv.dv,Nv.nd,Nd.zero],by simp[dI,Nd.c,Nv.dv,Nv.nd,Nd.zero];omega,by simp[dI,Nd.c,Nv.dv,Nv.nd,Nd.zero],.inr (.inr (.inl ⟨rfl,by show(xs.length:Int)=wG (b:Int);rw[nT hb.lt,hb.len],hb.pos⟩))⟩,hg,λ i hi=>by
  have h1:=hb.pos i hi;have hi':i<xs.length:=hi;refine⟨by show 0<=xs.getD i 0;omega,hx _ ?_⟩;show xs.getD i 0∈xs
  rw[iX,List.getElem?_eq_getElem hi'];exact List.getElem_mem hi',fZ,fZ,fZ⟩
theorem wv{h:Int}{ys:List Pr}(hg:0<=gen)(h2:2<=ys.length)(ha:zx ys)(hs:Jl ys):nK gen n (dI (({Nd.zero with kind:=6,hash:=h}:Nd).c [] ys) c).dv :=⟨⟨by simp[sX,Nd.own,Nd.jV,Nd.jR,Nd.zero,dI,Nd.c,Nv.dv,Nv.nd],by simp[dI,Nd.c,Nv.dv,Nv.nd,Nd.zero],by simp[dI,Nd.c,Nv.dv,Nv.nd,Nd.zero];omega,by simp[dI,Nd.c,Nv.dv,Nv.nd,Nd.zero],.inr (.inr (.inr (.inr (.inl ⟨rfl,h2,ha,hs⟩))))⟩,hg,λ i hi=>by simp[dI,Nd.c,Nv.dv] at hi,fZ,fZ,fZ⟩
theorem Rk(h:0<=gen):gN [fG.c,fG.c] [] gen:=by
 refine⟨by simp,h,rfl,rfl,λ i hi=>by simp at hi,λ i hi=>?_,by simp[marks,eW,gK,fG,Nd.zero,aQ.c,Nd.c,Nv.dv,Nv.nd]⟩;simp only[List.map_cons,List.map_nil,List.length_cons,List.length_nil] at hi;have:i=0∨i=1:=by omega
 rcases this with rfl|rfl;·exact Ol h
 ·exact Ol h
end
end
end Go.Ct
namespace Go.Proofs.YtbajmaoegmbfgaaGreat
open Go.Ct
section
def Mt(k:Int)(r:Int):CT:=if k=2 then .main r else if k=8 then .stat r else .prev r
structure lF(H:ByteArray->Nat)(σ:Kw)(n:Nv)(w:List Nat)(g:Int):Prop where
 kd:n.kind=2∨n.kind=3∨n.kind=4∨n.kind=5∨n.kind=6∨n.kind=7∨n.kind=8
 ok:nK σ.mm.gen (σ.len+1) (dI n σ.cl).dv
 bd:mX (σ.len+1) (σ.cl+1) (dI n σ.cl)
 k2:n.kind=2->w.length<=11
 k3:n.kind=3->w.length<=10/\(∀k:Nat,∀b,iU (dI n σ.cl) k=some b->Nm σ (w++[k]) g b)/\(0<w.length->n.xs≠[]/\∀b,n.xs=[b]->(σ.nd b).kind=2)
 k4:n.kind=4->H n.key=n.hash.toNat
 k5:n.kind=5->0<w.length/\w.length<=11/\H n.key=n.hash.toNat/\fT n.hash.toNat w
 k6:n.kind=6->w.length=11/\fT n.hash.toNat w/\∀p∈n.ys,H p.1=n.hash.toNat
 k7:n.kind=7->cB (σ.nd n.bS)
 k8:n.kind=8->uW σ n.bS []/\uW σ n.new []
structure ck(σ:Kw)(n:Nv)(i:Int)(w:List Nat)(g:Int):Prop where
 ins:Fs i σ.len
 k2:n.kind=2->oQ σ i w n.gen
 kp:cB n->i=0∨(oQ σ i w g/\bC σ i)
 k8:n.kind=8->i=0
section
variable{H:ByteArray->Nat}{σ τ υ:Kw}{r:Int}{w:List Nat}
theorem Zc(n:Nv)(c:Nat):(dI n c).kind=n.kind:=rfl
theorem sk{n:Nv}{i g:Int}(h:Inv H σ)(hn:lF H σ n w g)(hi:ck σ n i w g):∃υ,Le σ υ/\Inv H υ/\υ.mm=σ.mm.push n i/\υ.nd ((σ.len+1:Nat):Int)=dI n σ.cl/\υ.way ((σ.len+1:Nat):Int)=w/\υ.gb ((σ.len+1:Nat):Int)=g:=by
 have e:=Xw σ n i w g (Mt n.kind ((σ.len+1:Nat):Int));have l:=e.le;have hnd:=aCf σ n i w g (Mt n.kind ((σ.len+1:Nat):Int));have hway:=wa σ n i w g (Mt n.kind ((σ.len+1:Nat):Int));have hgb:=aBu σ n i w g (Mt n.kind ((σ.len+1:Nat):Int));have hct:=aBy σ n i w g (Mt n.kind ((σ.len+1:Nat):Int));have hlen:=Yp σ n i w g (Mt n.kind ((σ.len+1:Nat):Int));have hce:=λ h=>aBq σ (n:=n) i w g (Mt n.kind ((σ.len+1:Nat):Int)) h;have hc0:=λ h=>xr σ (n:=n) i w g (Mt n.kind ((σ.len+1:Nat):Int)) h;have hpush:(σ.add n i w g (Mt n.kind ((σ.len+1:Nat):Int))).mm=σ.mm.push n i:=rfl;generalize hυ:σ.add n i w g (Mt n.kind ((σ.len+1:Nat):Int))=υ at *;have hgen:υ.mm.gen=σ.mm.gen:=by rw[hpush];rfl
 have hcl:υ.cl<=σ.cl+1:=by
  by_cases hk:n.kind=2∨n.kind=3∨n.kind=5∨n.kind=6∨n.kind=8;·rw[(hce hk).1];exact Nat.le_refl _
  ·rw[hc0 hk];omega
 have hcl2:(n.kind=2∨n.kind=3∨n.kind=5∨n.kind=6∨n.kind=8)->((σ.cl+1:Nat):Int)=((σ.mm.cs.length+1:Nat):Int):=λ _=>rfl
 have hnd':NdI H υ ((σ.len+1:Nat):Int):=by
  refine⟨by rw[hnd];exact hn.ok.1,by rw[hnd,hgen];exact hn.ok.2.1,?_,λ k=>?_,λ k=>?_,λ k=>?_,λ k=>?_,λ k=>?_,λ k=>?_,λ k=>?_⟩
  ·rw[hnd,hlen];have hb:=hn.bd;by_cases hk:n.kind=2∨n.kind=3∨n.kind=5∨n.kind=6∨n.kind=8
   ·rw[(hce hk).1];exact hb
   ·rw[hc0 hk];refine⟨hb.bS,hb.exp,hb.new,hb.br,?_,?_,?_,hb.bm,hb.hash⟩;·show(if n.kind=2 then _ else(0:Int))<=_;rw[if_neg (by omega)];exact bN _
    ·show(if n.kind=3∨n.kind=5∨n.kind=6 then _ else(0:Int))<=_;rw[if_neg (by omega)];exact bN _
    ·show(if n.kind=8 then _ else(0:Int))<=_;rw[if_neg (by omega)];exact bN _
  all_goals rw[hnd] at k ⊢
  all_goals rw[Zc] at k
  ·rw[hway];refine⟨hn.k2 k,?_⟩;rw[show(dI n σ.cl).main=((σ.cl+1:Nat):Int) from if_pos k,hct];exact⟨by omega,if_pos k⟩
  ·rw[hway,hgb];obtain⟨h1,h2,h3⟩:=hn.k3 k;rw[show(dI n σ.cl).prev=((σ.cl+1:Nat):Int) from if_pos (.inl k),hct];refine⟨h1,λ k' b hb=>(h2 k' b hb).up l,λ h0=>⟨(h3 h0).1,λ b hb=>?_⟩,by omega,?_⟩;·have:=(h3 h0).2 b hb;rw[l.nd (eU (N:=σ.mm.nodes) (i:=b) (by rw[this];decide)).2];exact this
   ·unfold Mt;rw[if_neg (by omega),if_neg (by omega)]
  ·exact hn.k4 k
  ·rw[hway];obtain⟨h1,h2,h3,h4⟩:=hn.k5 k;rw[show(dI n σ.cl).prev=((σ.cl+1:Nat):Int) from if_pos (.inr (.inl k)),hct];refine⟨h1,h2,h3,h4,by omega,?_⟩;unfold Mt;rw[if_neg (by omega),if_neg (by omega)]
  ·rw[hway];obtain⟨h1,h2,h3⟩:=hn.k6 k;rw[show(dI n σ.cl).prev=((σ.cl+1:Nat):Int) from if_pos (.inr (.inr k)),hct];refine⟨h1,h2,h3,by omega,?_⟩;unfold Mt;rw[if_neg (by omega),if_neg (by omega)]
  ·have:=hn.k7 k;show cB (υ.nd n.bS);rw[l.nd (iY this).2];exact this
  ·obtain⟨h1,h2⟩:=hn.k8 k;rw[show(dI n σ.cl).status=((σ.cl+1:Nat):Int) from if_pos k,hct];refine⟨h1.up l,h2.up l,by omega,?_⟩;unfold Mt;rw[if_neg (by omega),if_pos k]
 refine⟨υ,l,?_,hpush,hnd,hway,hgb⟩;rw[<- hυ];refine xg h hn.ok hi.ins (by rw[hυ];exact hnd') (λ hc=>?_) (by rw[hυ];exact hcl);rw[hυ] at hc ⊢;have hk:n.kind=2∨n.kind=3∨n.kind=5∨n.kind=6∨n.kind=8:=Classical.byContradiction λ hk=>by have:=hc0 hk;omega
 have hv:=(hce hk).2;refine⟨by rw[hv];exact hi.ins.1,by rw[hv,hlen];have:=hi.ins.2;omega,λ i' k=>?_,λ m k=>?_,λ d k=>?_,λ k=>?_,λ k=>?_⟩<;>rw[hct] at k<;>rw[hv]
 ·unfold Mt at k;split at k;·rename_i h2;cases k;rw[hnd,hway];exact⟨h2,(hi.k2 h2).up l⟩
  ·split at k<;>cases k
 ·unfold Mt at k;split at k;·cases k
  ·split at k;·cases k
   ·cases k;have hm:cB n:=by unfold cB;omega
    rw[hnd];refine⟨hm,?_⟩;rcases hi.kp hm with h1|⟨h1,h2⟩;·exact .inl h1
    ·exact .inr (.inl ⟨by rw[hway,hgb];exact h1.up l,bC.up h h1.1 h2 l⟩)
 ·unfold Mt at k;split at k;·cases k
  ·split at k;·rename_i h8;exact .inl (hi.k8 h8)
   ·cases k
 ·unfold Mt at k;split at k;·cases k
  ·split at k<;>cases k
 ·unfold Mt at k;split at k;·cases k
  ·split at k<;>cases k
end
end
end Go.Proofs.YtbajmaoegmbfgaaGreat
