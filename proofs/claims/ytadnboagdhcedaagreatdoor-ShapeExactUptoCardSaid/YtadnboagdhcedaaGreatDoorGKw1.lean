/- Tries of worlds: what holds of every memory that results from operations, and what never changes. -/
import Derived.Test.YtadnboagdhcedaaGreatDoorGArS
import Derived.Test.YtadnboagdhcedaaGreatDoorGSh6
import Derived.Test.YtadnboagdhcedaaGreatDoorGPaX
import Derived.Test.YtadnboagdhcedaaGreatDoorGRn1

set_option linter.unusedSimpArgs false
set_option linter.unusedVariables false
namespace Go.Proofs.YtadnboagdhcedaaGreatDoor
section
open Go.Ct
inductive CT where
 | no
 | main (i:Int)
 | prev (m:Int)
 | stat (d:Int)
 | root
 | rort
structure Kw where
 mm:Mm
 way:Int->List Nat
 gb:Int->Int
 ct:Int->CT
abbrev Kw.nd(σ:Kw)(r:Int):Nv:=bH σ.mm.nodes r
abbrev Kw.ce(σ:Kw)(c:Int):Int:=bV σ.mm.cs c
abbrev Kw.len(σ:Kw):Nat:=σ.mm.nodes.length
abbrev Kw.cl(σ:Kw):Nat:=σ.mm.cs.length
def fQ(h:Nat)(w:List Nat):Prop:=∀k,k<w.length->sl h k=w.getD k 0
def xS(σ:Kw)(i:Int)(w:List Nat):Prop:=(σ.nd i).kind=2/\σ.way i=w
def pP(σ:Kw)(m:Int)(w:List Nat)(g:Int):Prop:=cC (σ.nd m)/\σ.way m=w/\σ.gb m<=g
def eO(σ:Kw)(m:Int):Prop:=σ.ce (σ.nd m).prev=0
def pX(σ:Kw)(m p:Int):Prop:=pP σ p (σ.way m) (σ.gb m)/\eO σ p
def Mz(σ:Kw)(w:List Nat)(g b:Int):Prop:=((σ.nd b).kind=4/\fQ (σ.nd b).hash.toNat w)∨((σ.nd b).kind=2/\σ.way b=w/\(σ.nd b).gen<=g)
structure zh(H:ByteArray->Nat)(σ:Kw)(r:Int):Prop where
 valid:cK (σ.nd r).nd (σ.nd r).xs (σ.nd r).ys
 gen:(σ.nd r).gen<=σ.mm.gen
 bd:pJ σ.len σ.cl (σ.nd r)
 k2:(σ.nd r).kind=2->(σ.way r).length<=11/\1<=(σ.nd r).main/\σ.ct (σ.nd r).main=.main r
 k3:(σ.nd r).kind=3->(σ.way r).length<=10/\(∀k:Nat,∀b,mU (σ.nd r) k=some b->Mz σ (σ.way r++[k]) (σ.gb r) b)/\(0<(σ.way r).length->(σ.nd r).xs≠[]/\∀b,(σ.nd r).xs=[b]->(σ.nd b).kind=2)/\1<=(σ.nd r).prev/\σ.ct (σ.nd r).prev=.prev r
 k4:(σ.nd r).kind=4->H (σ.nd r).key=(σ.nd r).hash.toNat
 k5:(σ.nd r).kind=5->0<(σ.way r).length/\(σ.way r).length<=11/\H (σ.nd r).key=(σ.nd r).hash.toNat/\fQ (σ.nd r).hash.toNat (σ.way r)/\1<=(σ.nd r).prev/\σ.ct (σ.nd r).prev=.prev r
 k6:(σ.nd r).kind=6->(σ.way r).length=11/\fQ (σ.nd r).hash.toNat (σ.way r)/\(∀p∈(σ.nd r).ys,H p.1=(σ.nd r).hash.toNat)/\1<=(σ.nd r).prev/\σ.ct (σ.nd r).prev=.prev r
 k7:(σ.nd r).kind=7->cC (σ.nd (σ.nd r).bO)
 k8:(σ.nd r).kind=8->xS σ (σ.nd r).bO []/\xS σ (σ.nd r).new []/\1<=(σ.nd r).status/\σ.ct (σ.nd r).status=.stat r
structure my(σ:Kw)(c:Int):Prop where
 lo:0<=σ.ce c
 hi:σ.ce c<=σ.len
 main:∀i,σ.ct c=.main i->(σ.nd i).kind=2/\pP σ (σ.ce c) (σ.way i) (σ.nd i).gen
 prev:∀m,σ.ct c=.prev m->cC (σ.nd m)/\(σ.ce c=0∨pX σ m (σ.ce c)∨((σ.nd (σ.ce c)).kind=7/\pX σ m (σ.nd (σ.ce c)).bO))
 stat:∀d,σ.ct c=.stat d->σ.ce c=0∨σ.ce c=1∨σ.ce c=2
 root:σ.ct c=.root->xS σ (σ.ce c) []∨(σ.nd (σ.ce c)).kind=8
 rort:σ.ct c=.rort->xS σ (σ.ce c) []
structure Inv(H:ByteArray->Nat)(σ:Kw):Prop where
 two:2<=σ.len
 m1:(σ.nd 1).kind=1
 m2:(σ.nd 2).kind=1
 gen:0<=σ.mm.gen
 prop:fR σ.mm.nodes σ.mm.cs σ.mm.gen
 nd:∀r:Int,1<=r->r<=σ.len->zh H σ r
 ce:∀c:Int,1<=c->c<=σ.cl->my σ c
structure Le(σ τ:Kw):Prop where
 nodes:∃N,τ.mm.nodes=σ.mm.nodes++N
 cl:σ.cl<=τ.cl
 gen:σ.mm.gen<=τ.mm.gen
 way:∀r:Int,r<=σ.len->τ.way r=σ.way r
 gb:∀r:Int,r<=σ.len->τ.gb r=σ.gb r
 ct:∀c:Int,c<=σ.cl->τ.ct c=σ.ct c
 done:∀(c m:Int),1<=c->c<=σ.cl->σ.ct c=.prev m->¬cC (σ.nd (σ.ce c))->τ.ce c=σ.ce c
 next:∀(c m:Int),1<=c->c<=σ.cl->σ.ct c=.prev m->cC (σ.nd (σ.ce c))->τ.ce c=σ.ce c∨τ.ce c=0∨((τ.nd (τ.ce c)).kind=7/\(τ.nd (τ.ce c)).bO=σ.ce c)
theorem Le.refl(σ:Kw):Le σ σ:=⟨⟨[],by simp⟩,Nat.le_refl _,Int.le_refl _,λ _ _=>rfl,λ _ _=>rfl,λ _ _=>rfl,λ _ _ _ _ _ _=>rfl,λ _ _ _ _ _ _=>.inl rfl⟩
section
variable{H:ByteArray->Nat}{σ τ υ:Kw}
theorem Le.len(h:Le σ τ):σ.len<=τ.len:=by obtain⟨N,e⟩:=h.nodes;simp only[Kw.len,e,List.length_append];omega
theorem Le.nd(h:Le σ τ){r:Int}(hr:r<=σ.len):τ.nd r=σ.nd r:=by obtain⟨N,e⟩:=h.nodes;simp only[Kw.nd,e];exact Ra hr
theorem kG{N:List Nv}{r:Int}(h:cC (bH N r)):1<=r/\r<=N.length:=eF (by unfold cC at h;omega)
theorem cC.ne0{n:Nv}(h:cC n):n.kind≠0/\n.kind≠7/\n.kind≠2/\n.kind≠8:=by unfold cC at h;omega
theorem kZ{n:Nv}(h:n.kind=0∨n.kind=7∨n.kind=2∨n.kind=8∨n.kind=1):¬cC n:=λ hm=>by unfold cC at hm;omega
theorem xU(N:List Nv):(bH N 0).kind=0:=by unfold bH;rw[if_neg (by omega)];rfl
def Nxt(σ τ:Kw)(v v':Int):Prop:=(¬cC (σ.nd v)->v'=v)/\(cC (σ.nd v)->v'=v∨v'=0∨((τ.nd v').kind=7/\(τ.nd v').bO=v))
theorem Le.nxt(h:Le σ τ){c m:Int}(h1:1<=c)(hc:c<=σ.cl)(e:σ.ct c=.prev m):Nxt σ τ (σ.ce c) (τ.ce c):=⟨h.done c m h1 hc e,h.next c m h1 hc e⟩
theorem Le.trans(i1:Inv H σ)(i2:Inv H τ)(h:Le σ τ)(h2:Le τ υ):Le σ υ:=by
 have hl:=h.len;have hl2:=h2.len;refine⟨?_,Nat.le_trans h.cl h2.cl,Int.le_trans h.gen h2.gen,λ r hr=>(h2.way r (by omega)).trans (h.way r hr),λ r hr=>(h2.gb r (by omega)).trans (h.gb r hr),λ c hc=>(h2.ct c (by have:=h.cl;omega)).trans (h.ct c hc),λ c m h1 hc e hk=>?_,λ c m h1 hc e hk=>?_⟩
 ·obtain⟨N,e⟩:=h.nodes
  obtain⟨N2,e2⟩:=h2.nodes
  exact⟨N++N2,by rw[e2,e,List.append_assoc]⟩
 ·have e1:=h.done c m h1 hc e hk;have e2:τ.ct c=.prev m:=(h.ct c hc).trans e;rw[<- e1];refine h2.done c m h1 (by have:=h.cl;omega) e2 ?_;rw[e1,h.nd (i1.ce c h1 hc).hi];exact hk
 ·have e2:τ.ct c=.prev m:=(h.ct c hc).trans e;have hc2:c<=τ.cl:=by have:=h.cl;omega
  rcases h.next c m h1 hc e hk with e1|e1|⟨e1,e3⟩
  ·rw[<- e1];refine h2.next c m h1 hc2 e2 ?_;rw[e1,h.nd (i1.ce c h1 hc).hi];exact hk
  ·refine .inr (.inl ?_);rw[h2.done c m h1 hc2 e2 (by rw[e1];exact kZ (.inl (xU _))),e1]
  ·refine .inr (.inr ?_);rw[h2.done c m h1 hc2 e2 (kZ (.inr (.inl e1))),h2.nd (i2.ce c h1 hc2).hi];exact⟨e1,e3⟩
def WT(H:ByteArray->Nat)(Q:Rs->Kw->Prop):Tr->Kw->Prop
 | .done r,σ=>Q r σ
 | .load c k,σ=>∀τ,Le σ τ->Inv H τ->WT H Q (k (τ.ce c)) τ
 | .rP c o n k,σ=>∀τ,Le σ τ->Inv H τ->(nD τ.mm.cs c o->∃υ,Le τ υ/\Inv H υ/\υ.mm=⟨τ.mm.nodes,iR τ.mm.cs c o n,τ.mm.gen⟩/\WT H Q (k true) υ)/\(¬nD τ.mm.cs c o->WT H Q (k false) τ)
 | .alloc n i k,σ=>∃υ,Le σ υ/\Inv H υ/\υ.mm=σ.mm.push n i/\WT H Q (k ((σ.len+1:Nat):Int)) υ
 | .cell i k,σ=>∃υ,Le σ υ/\Inv H υ/\υ.mm=⟨σ.mm.nodes,σ.mm.cs++[i],σ.mm.gen⟩/\WT H Q (k ((σ.cl+1:Nat):Int)) υ
 | .gen k,σ=>∃υ,Le σ υ/\Inv H υ/\υ.mm=⟨σ.mm.nodes,σ.mm.cs,σ.mm.gen+1⟩/\WT H Q (k (σ.mm.gen+1)) υ
 | .node r k,σ=>r<=σ.len/\WT H Q (k (σ.nd r)) σ
 | .stuck,_=>True
def Fe:Tr->Bool
 | .load _ _=>true
 | .rP _ _ _ _=>true
 | .done _=>true
 | _=>false
theorem WT.mono{Q:Rs->Kw->Prop}(hQ:∀r σ τ,Inv H σ->Inv H τ->Le σ τ->Q r σ->Q r τ){t:Tr}(ht:Fe t=true){σ τ:Kw}(i1:Inv H σ)(i2:Inv H τ)(h:Le σ τ)(w:WT H Q t σ):WT H Q t τ:=by
 cases t with
 | done r=>exact hQ r σ τ i1 i2 h w
 | load c k=>exact λ υ h2 i3=>w υ (h.trans i1 i2 h2) i3
 | rP c o n k=>exact λ υ h2 i3=>w υ (h.trans i1 i2 h2) i3
 | alloc n i k=>cases ht
 | cell i k=>cases ht
 | gen k=>cases ht
 | node r k=>cases ht
 | stuck=>cases ht
theorem WT.sp{Q:Rs->Kw->Prop}{t t':Tr}{s':Mm}(i1:Inv H σ)(w:WT H Q t σ)(h:Sp t σ.mm t' s'):∃υ,Le σ υ/\Inv H υ/\υ.mm=s'/\WT H Q t' υ:=by
 cases h with
 | alloc n i k s=>exact w
 | cell i k s=>exact w
 | gen k s=>exact w
 | node r k s h=>exact⟨σ,Le.refl σ,i1,rfl,w.2⟩
theorem WT.lp{Q:Rs->Kw->Prop}{t t':Tr}{s':Mm}(i1:Inv H σ)(w:WT H Q t σ)(h:Lp t σ.mm t' s'):∃υ,Le σ υ/\Inv H υ/\υ.mm=s'/\WT H Q t' υ:=by
 cases h with
 | load c k s=>exact⟨σ,Le.refl σ,i1,rfl,w σ (Le.refl σ) i1⟩
 | rP c o n k s b hb =>
  obtain⟨w1,w2⟩:=w σ (Le.refl σ) i1
  cases b with
  | true=>exact w1 (hb.1 rfl)
  | false =>
   have hn:¬nD σ.mm.cs c o:=λ h=>by have:=hb.2 h;cases this
   refine⟨σ,Le.refl σ,i1,?_,w2 hn⟩
   rw[show iR σ.mm.cs c o n=σ.mm.cs from Ey hn]
theorem WT.rc{Q:Rs->Kw->Prop}{t:Tr}{s:Mm}{j:Nat}{t':Tr}{s':Mm}(h:Rc j t s t' s'):∀{σ:Kw},σ.mm=s->Inv H σ->WT H Q t σ->∃υ,Le σ υ/\Inv H υ/\υ.mm=s'/\WT H Q t' υ:=by
 induction h with
 | refl t s=>intro σ e i w;exact⟨σ,Le.refl σ,i,e,w⟩
 | Um _ hs ih =>
  intro σ e i w
  obtain⟨υ,l1,i1,e1,w1⟩:=ih e i w
  subst e1
  obtain⟨ρ,l2,i2,e2,w2⟩:=w1.sp i1 hs
  exact⟨ρ,l1.trans i i1 l2,i2,e2,w2⟩
 | loud _ hs ih =>
  intro σ e i w
  obtain⟨υ,l1,i1,e1,w1⟩:=ih e i w
  subst e1
  obtain⟨ρ,l2,i2,e2,w2⟩:=w1.lp i1 hs
  exact⟨ρ,l1.trans i i1 l2,i2,e2,w2⟩
end
end

/- Tries of worlds: a cell is set; nodes and cells are added. -/
section
open Go.Ct
section
variable{H:ByteArray->Nat}{σ τ υ:Kw}{r:Int}{w:List Nat}
theorem nN{cs:List Int}{c o v:Int}(h:nD cs c o)(c':Int):bV (iR cs c o v) c'=if c'=c then v else bV cs c':=by
 have hl:=oI (cs:=cs) (c:=c) (bO:=o) (new:=v);obtain⟨h1,h2,h3⟩:=h
 have e:iR cs c o v=cs.set (c-1).toNat v:=if_pos ⟨h1,h2,h3⟩;unfold bV;rw[hl];by_cases hc:1<=c'/\c'<=cs.length
 ·rw[if_pos hc,if_pos hc,e]
  by_cases e2:c'=c
  ·subst e2
   rw[if_pos rfl]
   rw[gF,List.getElem?_set,if_pos rfl,if_pos (by omega)]
   rfl
  ·rw[if_neg e2]
   rw[gF,List.getElem?_set,if_neg (by omega),gF]
 ·rw[if_neg hc,if_neg hc,if_neg (by omega)]
theorem Cd{cs:List Int}{c o:Int}(h:nD cs c o):bV cs c=o:=by
 obtain⟨h1,h2,h3⟩:=h
 unfold bV
 rw[if_pos ⟨h1,h2⟩,h3]
theorem xS.in(h:xS σ r w):1<=r/\r<=σ.len:=eF (by rw[h.1];decide)
theorem pP.in{g:Int}(h:pP σ r w g):1<=r/\r<=σ.len:=kG h.1
theorem Inv.pV(i:Inv H σ){m:Int}(h:cC (σ.nd m)):1<=(σ.nd m).prev/\(σ.nd m).prev<=σ.cl/\σ.ct (σ.nd m).prev=.prev m:=by
 have hr:=kG h;have hn:=i.nd m hr.1 hr.2;have hb:=hn.bd.prev;rcases h with h|h|h
 ·have:=hn.k3 h;exact⟨this.2.2.2.1,hb,this.2.2.2.2⟩
 ·have:=hn.k5 h;exact⟨this.2.2.2.2.1,hb,this.2.2.2.2.2⟩
 ·have:=hn.k6 h;exact⟨this.2.2.2.1,hb,this.2.2.2.2⟩
theorem Inv.Cc(i:Inv H σ){r:Int}(h:(σ.nd r).kind=2):1<=(σ.nd r).main/\(σ.nd r).main<=σ.cl/\σ.ct (σ.nd r).main=.main r:=by
 have hr:=eF (N:=σ.mm.nodes) (i:=r) (by rw[h];decide);have hn:=i.nd r hr.1 hr.2;exact⟨(hn.k2 h).2.1,hn.bd.main,(hn.k2 h).2.2⟩
theorem xS.up(h:xS σ r w)(l:Le σ τ):xS τ r w:=by
 have hr:=h.in;exact⟨by rw[l.nd hr.2];exact h.1,by rw[l.way r hr.2];exact h.2⟩
theorem pP.up{g:Int}(h:pP σ r w g)(l:Le σ τ):pP τ r w g:=by
 have hr:=h.in;exact⟨by rw[l.nd hr.2];exact h.1,by rw[l.way r hr.2];exact h.2.1,by rw[l.gb r hr.2];exact h.2.2⟩
theorem pP.le{g g':Int}(h:pP σ r w g)(hg:g<=g'):pP σ r w g':=⟨h.1,h.2.1,Int.le_trans h.2.2 hg⟩
theorem eO.up(i:Inv H σ)(hm:cC (σ.nd r))(h:eO σ r)(l:Le σ τ):eO τ r:=by
 have hc:=i.pV hm;unfold eO;rw[l.nd (kG hm).2,l.done _ r hc.1 hc.2.1 hc.2.2 (by rw[h];exact kZ (.inl (xU _)))];exact h
theorem my.same{c:Int}(h:my σ c)(hm:υ.mm.nodes=σ.mm.nodes)(hw:υ.way=σ.way)(hg:υ.gb=σ.gb)(hct:υ.ct=σ.ct)(hc:υ.ce c=σ.ce c)(hs:∀p,cC (σ.nd p)->eO σ p->eO υ p):my υ c:=by
 have hl:υ.len=σ.len:=by simp only[Kw.len,hm]
 have hn:∀r,υ.nd r=σ.nd r:=λ r=>by simp only[Kw.nd,hm]
 have hM:∀p w g,pP σ p w g->pP υ p w g:=λ p w g h=>⟨by rw[hn];exact h.1,by rw[hw];exact h.2.1,by rw[hg];exact h.2.2⟩;have hP:∀m p,pX σ m p->pX υ m p:=λ m p h=>⟨by rw[hw,hg];exact hM _ _ _ h.1,hs p h.1.1 h.2⟩;refine⟨by rw[hc];exact h.lo,by rw[hc,hl];exact h.hi,λ i e=>?_,λ m e=>?_,λ d e=>?_,λ e=>?_,λ e=>?_⟩
 ·rw[hc,hw,hn]
  obtain⟨h0,h1⟩:=h.main i (by rw[<- hct];exact e)
  exact⟨h0,hM _ _ _ h1⟩
 ·rw[hc,hn,hn]
  obtain⟨h0,h⟩:=h.prev m (by rw[<- hct];exact e)
  refine⟨h0,?_⟩
  rcases h with h1|h1|⟨h1,h2⟩
  ·exact .inl h1
  ·exact .inr (.inl (hP _ _ h1))
  ·exact .inr (.inr ⟨h1,hP _ _ h2⟩)
 ·rw[hc];exact h.stat d (by rw[<- hct];exact e)
 ·rw[hc,hn]
  rcases h.root (by rw[<- hct];exact e) with h1|h1
  ·exact .inl ⟨by rw[hn];exact h1.1,by rw[hw];exact h1.2⟩
  ·exact .inr h1
 ·rw[hc];have h1:=h.rort (by rw[<- hct];exact e);exact⟨by rw[hn];exact h1.1,by rw[hw];exact h1.2⟩
theorem fR.rP{N:List Nv}{cs:List Int}{gen c o v:Int}(h:fR N cs gen)(lo:0<=v)(hi:v<=N.length):fR N (iR cs c o v) gen:=by
 unfold iR
 split
 ·refine⟨h.two,h.gen0,h.m0,h.m1,λ i hi'=>?_,h.nodes,by rw[List.length_set];exact h.marks⟩
  rw[List.length_set] at hi'
  rw[gF,List.getElem?_set]
  split
  ·rw[if_pos (by omega)]
   exact⟨lo,by rw[List.length_map];exact hi⟩
  ·rw[<- gF]
   exact h.cells i hi'
 ·exact h
structure P6(σ:Kw)(c o v:Int):Prop where
 lo:0<=v
 hi:v<=σ.len
 main:∀i,σ.ct c=.main i->pP σ v (σ.way i) (σ.nd i).gen
 prev:∀m,σ.ct c=.prev m->cC (σ.nd o)/\(v=0∨((σ.nd v).kind=7/\(σ.nd v).bO=o))
 stat:∀d,σ.ct c=.stat d->v=0∨v=1∨v=2
 root:σ.ct c=.root->xS σ v []∨(σ.nd v).kind=8
 rort:σ.ct c=.rort->xS σ v []
def Kw.set(σ:Kw)(c o v:Int):Kw:=⟨⟨σ.mm.nodes,iR σ.mm.cs c o v,σ.mm.gen⟩,σ.way,σ.gb,σ.ct⟩
theorem Mq{c o v:Int}(i:Inv H σ)(hk:nD σ.mm.cs c o)(hs:P6 σ c o v):Le σ (σ.set c o v)/\Inv H (σ.set c o v)/\(σ.set c o v).ce c=v:=by
 unfold Kw.set
 refine⟨?_,?_,by show bV (iR _ _ _ _) c=v;rw[nN hk,if_pos rfl]⟩
 ·refine⟨⟨[],by simp⟩,by simp only[Kw.cl,oI];exact Nat.le_refl _,Int.le_refl _,λ _ _=>rfl,λ _ _=>rfl,λ _ _=>rfl,λ c' m h1 hc e hm=>?_,λ c' m h1 hc e hm=>?_⟩
  ·show bV (iR _ _ _ _) c'=_
   rw[nN hk]
   split
   ·rename_i e2
    subst e2
    exact absurd (by rw[show σ.ce c'=o from Cd hk];exact(hs.prev m e).1) hm
   ·rfl
  ·show bV (iR _ _ _ _) c'=_∨bV (iR _ _ _ _) c'=_∨_
   rw[nN hk]
   split
   ·rename_i e2
    subst e2;have e3:σ.ce c'=o:=Cd hk;rcases(hs.prev m e).2 with h|h
    ·exact .inr (.inl h)
    ·refine .inr (.inr ?_);show(bH σ.mm.nodes (bV (iR _ _ _ _) c')).kind=7/\(bH σ.mm.nodes (bV (iR _ _ _ _) c')).bO=_
     rw[nN hk,if_pos rfl,e3]
     exact h
   ·exact .inl rfl
 ·have hcl:(iR σ.mm.cs c o v).length=σ.cl:=oI;refine⟨i.two,i.m1,i.m2,i.gen,fR.rP i.prop hs.lo hs.hi,λ r h1 h2=>?_,λ c' h1 h2=>?_⟩
  ·have h:=i.nd r h1 h2;exact⟨h.valid,h.gen,by simp only[Kw.cl,hcl];exact h.bd,h.k2,h.k3,h.k4,h.k5,h.k6,h.k7,h.k8⟩
  ·simp only[Kw.cl,hcl] at h2
   have hset:∀p,cC (σ.nd p)->eO σ p->bV (iR σ.mm.cs c o v) (σ.nd p).prev=0:=λ p hm hp=>by
    rw[nN hk]
    split
    ·rename_i e
     have hc:=(i.pV hm).2.2;rw[e] at hc;have h0:σ.ce (σ.nd p).prev=0:=hp;rw[e,show σ.ce c=o from Cd hk] at h0;have:=(hs.prev p hc).1;rw[h0] at this;exact absurd this (kZ (.inl (xU _)))
    ·exact hp
   by_cases e:c'=c
   ·subst e;have e2:bV (iR σ.mm.cs c' o v) c'=v:=by rw[nN hk,if_pos rfl]
    have e3:σ.ce c'=o:=Cd hk;refine⟨by simp only[Kw.ce,e2];exact hs.lo,by simp only[Kw.ce,e2];exact hs.hi,λ i' h=>?_,λ m h=>?_,λ d h=>?_,λ h=>?_,λ h=>?_⟩
    ·simp only[Kw.ce,e2];exact⟨((i.ce c' h1 h2).main i' h).1,hs.main i' h⟩
    ·simp only[Kw.ce,e2]
     have hp:=hs.prev m h
     have hold:pX σ m o:=by
      rcases((i.ce c' h1 h2).prev m h).2 with h3|h3|h3
      ·rw[e3] at h3;rw[h3] at hp;exact absurd hp.1 (kZ (.inl (xU _)))
      ·rwa [e3] at h3
      ·rw[e3] at h3;exact absurd hp.1 (kZ (.inr (.inl h3.1)))
     refine⟨((i.ce c' h1 h2).prev m h).1,?_⟩
     rcases hp.2 with h3|⟨h3,h4⟩
     ·exact .inl h3
     ·refine .inr (.inr ⟨h3,?_⟩);show pX _ m (σ.nd v).bO
      rw[h4]
      exact⟨hold.1,hset _ hp.1 hold.2⟩
    ·simp only[Kw.ce,e2];exact hs.stat d h
    ·simp only[Kw.ce,e2];exact hs.root h
    ·simp only[Kw.ce,e2];exact hs.rort h
   ·exact(i.ce c' h1 h2).same rfl rfl rfl rfl (by show bV (iR _ _ _ _) c'=_;rw[nN hk,if_neg e]) hset
theorem aAG{c o v:Int}(i:Inv H σ)(hk:nD σ.mm.cs c o)(hs:P6 σ c o v):∃υ,Le σ υ/\Inv H υ/\υ.mm=⟨σ.mm.nodes,iR σ.mm.cs c o v,σ.mm.gen⟩/\υ.ce c=v:=⟨σ.set c o v,(Mq i hk hs).1,(Mq i hk hs).2.1,rfl,(Mq i hk hs).2.2⟩
structure Ext(σ υ:Kw):Prop where
 nodes:∃N,υ.mm.nodes=σ.mm.nodes++N
 cs:∃C,υ.mm.cs=σ.mm.cs++C
 gen:σ.mm.gen<=υ.mm.gen
 way:∀r:Int,r<=σ.len->υ.way r=σ.way r
 gb:∀r:Int,r<=σ.len->υ.gb r=σ.gb r
 ct:∀c:Int,c<=σ.cl->υ.ct c=σ.ct c
theorem X3{cs C:List Int}{c:Int}(h:c<=cs.length):bV (cs++C) c=bV cs c:=by
 unfold bV
 by_cases h1:1<=c
 ·rw[if_pos ⟨h1,by simp;omega⟩,if_pos ⟨h1,h⟩,gF,gF,List.getElem?_append_left (by omega)]
 ·rw[if_neg (by omega),if_neg (by omega)]
theorem Ext.ce(e:Ext σ υ){c:Int}(h:c<=σ.cl):υ.ce c=σ.ce c:=by obtain⟨C,h2⟩:=e.cs;simp only[Kw.ce,h2];exact X3 h
theorem Ext.cl(e:Ext σ υ):σ.cl<=υ.cl:=by obtain⟨C,h2⟩:=e.cs;simp only[Kw.cl,h2,List.length_append];omega
theorem Ext.le(e:Ext σ υ):Le σ υ:=⟨e.nodes,e.cl,e.gen,e.way,e.gb,e.ct,λ _ _ _ h _ _=>e.ce h,λ _ _ _ h _ _=>.inl (e.ce h)⟩
theorem Mz.up{g b:Int}(h:Mz σ w g b)(l:Le σ υ):Mz υ w g b:=by
 rcases h with h|h
 ·have hr:=eF (N:=σ.mm.nodes) (i:=b) (by rw[h.1];decide);exact .inl (by rw[l.nd hr.2];exact h)
 ·have hr:=eF (N:=σ.mm.nodes) (i:=b) (by rw[h.1];decide);exact .inr (by rw[l.nd hr.2,l.way b hr.2];exact h)
theorem zh.ext(h:zh H σ r)(hr:r<=σ.len)(e:Ext σ υ):zh H υ r:=by
 have l:=e.le;have hn:=l.nd hr;have hw:=l.way r hr;have hk:∀b,(σ.nd b).kind=2->(υ.nd b).kind=2:=λ b hb=>by rw[l.nd (eF (N:=σ.mm.nodes) (i:=b) (by rw[hb];decide)).2];exact hb
 refine⟨by rw[hn];exact h.valid,by rw[hn];have:=h.gen;have:=e.gen;omega,by rw[hn];exact h.bd.mono l.len l.cl,λ k=>?_,λ k=>?_,λ k=>?_,λ k=>?_,λ k=>?_,λ k=>?_,λ k=>?_⟩<;>rw[hn] at k ⊢
 ·obtain⟨h1,h2,h3⟩:=h.k2 k
  exact⟨by rw[hw];exact h1,h2,by rw[l.ct _ h.bd.main];exact h3⟩
 ·obtain⟨h1,h2,h3,h4,h5⟩:=h.k3 k
  rw[hw]
  refine⟨h1,λ k' b hb=>by rw[l.gb r hr];exact(h2 k' b hb).up l,λ h0=>⟨(h3 h0).1,λ b hb=>hk b ((h3 h0).2 b hb)⟩,h4,by rw[l.ct _ h.bd.prev];exact h5⟩
 ·exact h.k4 k
 ·rw[hw,l.ct _ h.bd.prev];exact h.k5 k
 ·rw[hw,l.ct _ h.bd.prev];exact h.k6 k
 ·have:=h.k7 k;rw[l.nd (kG this).2];exact this
 ·obtain⟨h1,h2,h3,h4⟩:=h.k8 k
  exact⟨h1.up l,h2.up l,h3,by rw[l.ct _ h.bd.status];exact h4⟩
theorem my.ext{c:Int}(i:Inv H σ)(h:my σ c)(hc:c<=σ.cl)(e:Ext σ υ):my υ c:=by
 have l:=e.le;have hv:=e.ce hc;have hP:∀m p:Int,m<=σ.len->pX σ m p->pX υ m p:=λ m p hm hp=>⟨by rw[l.way m hm,l.gb m hm];exact hp.1.up l,eO.up i hp.1.1 hp.2 l⟩;refine⟨by rw[hv];exact h.lo,by rw[hv];have:=h.hi;have:=l.len;omega,λ i' k=>?_,λ m k=>?_,λ d k=>?_,λ k=>?_,λ k=>?_⟩<;>rw[l.ct c hc] at k<;>rw[hv]
 ·obtain⟨h1,h2⟩:=h.main i' k
  have hr:=eF (N:=σ.mm.nodes) (i:=i') (by rw[h1];decide);rw[l.nd hr.2,l.way i' hr.2];exact⟨h1,h2.up l⟩
 ·obtain⟨h1,h2⟩:=h.prev m k
  have hr:=kG h1;rw[l.nd hr.2];refine⟨h1,?_⟩;rcases h2 with h2|h2|⟨h2,h3⟩
  ·exact .inl h2
  ·exact .inr (.inl (hP m _ hr.2 h2))
  ·refine .inr (.inr ?_);rw[l.nd h.hi];exact⟨h2,hP m _ hr.2 h3⟩
 ·exact h.stat d k
 ·rcases h.root k with h1|h1
  ·exact .inl (h1.up l)
  ·exact .inr (by rw[l.nd h.hi];exact h1)
 ·exact(h.rort k).up l
theorem Mf(i:Inv H σ)(e:Ext σ υ)(hp:fR υ.mm.nodes υ.mm.cs υ.mm.gen)(hn:∀r:Int,σ.len<r->r<=υ.len->zh H υ r)(hc:∀c:Int,σ.cl<c->c<=υ.cl->my υ c):Inv H υ:=by
 have l:=e.le;refine⟨Nat.le_trans i.two l.len,by rw[l.nd (by have:=i.two;omega)];exact i.m1,by rw[l.nd (by have:=i.two;omega)];exact i.m2,Int.le_trans i.gen e.gen,hp,λ r h1 h2=>?_,λ c h1 h2=>?_⟩
 ·rcases Int.lt_or_le σ.len r with h|h
  ·exact hn r h h2
  ·exact(i.nd r h1 h).ext h e
 ·rcases Int.lt_or_le σ.cl c with h|h
  ·exact hc c h h2
  ·exact my.ext i (i.ce c h1 h) h e
def Kw.add(σ:Kw)(n:Nv)(i:Int)(w:List Nat)(g:Int)(t:CT):Kw :=
 ⟨σ.mm.push n i,λ r=>if r<=σ.len then σ.way r else w,λ r=>if r<=σ.len then σ.gb r else g,λ c=>if c<=σ.cl then σ.ct c else t⟩
theorem Vp(σ:Kw)(n:Nv)(i:Int)(w:List Nat)(g:Int)(t:CT):Ext σ (σ.add n i w g t) :=
 ⟨⟨_,rfl⟩,by unfold Kw.add Mm.push kU;dsimp only;split;exact⟨_,rfl⟩;exact⟨[],by simp⟩,Int.le_refl _,λ r hr=>if_pos hr,λ r hr=>if_pos hr,λ c hc=>if_pos hc⟩
theorem Wl(σ:Kw)(n:Nv)(i:Int)(w:List Nat)(g:Int)(t:CT):(σ.add n i w g t).len=σ.len+1:=by simp[Kw.len,Kw.add,Mm.push]
theorem aAe(σ:Kw)(n:Nv)(i:Int)(w:List Nat)(g:Int)(t:CT):(σ.add n i w g t).nd ((σ.len+1:Nat):Int)=eH n σ.cl:=by
 simp only[Kw.nd,Kw.add,Mm.push,bH,List.length_append,List.length_cons,List.length_nil]
 rw[if_pos ⟨by omega,by simp only[Kw.len];omega⟩];have e:(((σ.len+1:Nat):Int)-1).toNat=σ.mm.nodes.length:=by simp only[Kw.len];omega
 rw[e]
 simp[gF]
theorem oq(σ:Kw)(n:Nv)(i:Int)(w:List Nat)(g:Int)(t:CT):(σ.add n i w g t).way ((σ.len+1:Nat):Int)=w:=if_neg (by omega)
theorem w7(σ:Kw)(n:Nv)(i:Int)(w:List Nat)(g:Int)(t:CT):(σ.add n i w g t).gb ((σ.len+1:Nat):Int)=g:=if_neg (by omega)
theorem xe(σ:Kw)(n:Nv)(i:Int)(w:List Nat)(g:Int)(t:CT):(σ.add n i w g t).ct ((σ.cl+1:Nat):Int)=t:=if_neg (by omega)
theorem yw(σ:Kw){n:Nv}(i:Int)(w:List Nat)(g:Int)(t:CT)(h:n.kind=2∨n.kind=3∨n.kind=5∨n.kind=6∨n.kind=8):(σ.add n i w g t).cl=σ.cl+1/\(σ.add n i w g t).ce ((σ.cl+1:Nat):Int)=i:=by
 have e:(σ.add n i w g t).mm.cs=σ.mm.cs++[i]:=by simp only[Kw.add,Mm.push,kU];exact if_pos h
 refine⟨by simp[Kw.cl,e],?_⟩
 simp only[Kw.ce,e,bV,List.length_append,List.length_cons,List.length_nil]
 rw[if_pos ⟨by omega,by simp only[Kw.cl];omega⟩];have e2:(((σ.cl+1:Nat):Int)-1).toNat=σ.mm.cs.length:=by simp only[Kw.cl];omega
 rw[e2]
 simp[gF]
theorem sr(σ:Kw){n:Nv}(i:Int)(w:List Nat)(g:Int)(t:CT)(h:¬(n.kind=2∨n.kind=3∨n.kind=5∨n.kind=6∨n.kind=8)):(σ.add n i w g t).cl=σ.cl:=by
 have e:(σ.add n i w g t).mm.cs=σ.mm.cs:=by simp only[Kw.add,Mm.push,kU];exact if_neg h
 simp[Kw.cl,e]
theorem oz{n:Nv}{i:Int}{g:Int}{t:CT}(h:Inv H σ)(hok:kI σ.mm.gen (σ.len+1) (eH n σ.cl).dv)(hi:Eg i σ.len)(hn:zh H (σ.add n i w g t) ((σ.len+1:Nat):Int))(hc:(σ.add n i w g t).cl=σ.cl+1->my (σ.add n i w g t) ((σ.cl+1:Nat):Int))(hcl:(σ.add n i w g t).cl<=σ.cl+1):Inv H (σ.add n i w g t):=by
 refine Mf h (Vp σ n i w g t) (fR.push h.prop hok hi) (λ r h1 h2=>?_) (λ c h1 h2=>?_)
 ·rw[Wl] at h2
  rw[show r=((σ.len+1:Nat):Int) by omega];exact hn
 ·rw[show c=((σ.cl+1:Nat):Int) by omega];exact hc (by omega)
end
end

/- Nodes of proper states. -/
end Go.Proofs.YtadnboagdhcedaaGreatDoor
namespace Go.Ct
section
section
variable{gen:Int}{n c:Nat}
theorem L3(h:0<=gen):kI gen n dH.c.dv:=⟨⟨by simp[rG,Nd.own,Nd.iB,Nd.gY,dH,Nd.zero,aI.c,Nd.c,Nv.dv,Nv.nd],by decide,by decide,by decide,.inl rfl⟩,h,λ i hi=>by simp[dH,aI.c,Nd.c,Nv.dv] at hi,⟨by decide,bT n⟩,⟨by decide,bT n⟩,⟨by decide,bT n⟩⟩
theorem gL:Eg 0 n:=⟨Int.le_refl _,bT n⟩
theorem I4{h u:Int}{k:ByteArray}(hg:0<=gen)(hk:k.size<=64):kI gen n (eH (({Nd.zero with kind:=4,hash:=h,key:=k,val:=u}:Nd).c [] []) c).dv :=
 ⟨⟨by simp[rG,Nd.own,Nd.iB,Nd.gY,Nd.zero,eH,Nd.c,Nv.dv,Nv.nd],by simp[eH,Nd.c,Nv.dv,Nv.nd,Nd.zero],by simp[eH,Nd.c,Nv.dv,Nv.nd,Nd.zero],by simp[eH,Nd.c,Nv.dv,Nv.nd,Nd.zero],.inr (.inr (.inr (.inl ⟨.inl rfl,hk⟩)))⟩,hg,λ i hi=>by simp[eH,Nd.c,Nv.dv] at hi,gL,gL,gL⟩
theorem Bx{g:Int}(hg:g<=gen)(h1:1<=g):kI gen n (eH (({Nd.zero with kind:=2,gen:=g}:Nd).c [] []) c).dv :=
 ⟨⟨by simp[rG,Nd.own,Nd.iB,Nd.gY,Nd.zero,eH,Nd.c,Nv.dv,Nv.nd],by simp[eH,Nd.c,Nv.dv,Nv.nd,Nd.zero];omega,by simp[eH,Nd.c,Nv.dv,Nv.nd,Nd.zero],by simp[eH,Nd.c,Nv.dv,Nv.nd,Nd.zero],.inr (.inl ⟨rfl,h1⟩)⟩,hg,λ i hi=>by simp[eH,Nd.c,Nv.dv] at hi,gL,gL,gL⟩
theorem Cf{b:Nat}{xs:List Int}(hg:0<=gen)(hb:BV b xs)(hx:∀r∈xs,r<=n):kI gen n (eH (({Nd.zero with kind:=3,bm:=(b:Int)}:Nd).c xs []) c).dv :=
 ⟨⟨by simp[rG,Nd.own,Nd.iB,Nd.gY,Nd.zero,eH,Nd.c,Nv.dv,Nv.nd],by simp[eH,Nd.c,Nv.dv,Nv.nd,Nd.zero],by simp[eH,Nd.c,Nv.dv,Nv.nd,Nd.zero];omega,by simp[eH,Nd.c,Nv.dv,Nv.nd,Nd.zero],.inr (.inr (.inl ⟨rfl,by show(xs.length:Int)=zE (b:Int);rw[nL hb.lt,hb.len],hb.pos⟩))⟩,hg,λ i hi=>by
  have h1:=hb.pos i hi;have hi':i<xs.length:=hi;refine⟨by show 0<=xs.getD i 0;omega,hx _ ?_⟩;show xs.getD i 0∈xs
  rw[gF,List.getElem?_eq_getElem hi']
  exact List.getElem_mem hi',gL,gL,gL⟩
theorem sk{h:Int}{ys:List Pr}(hg:0<=gen)(h2:2<=ys.length)(ha:rk ys)(hs:Dv ys):kI gen n (eH (({Nd.zero with kind:=6,hash:=h}:Nd).c [] ys) c).dv :=
 ⟨⟨by simp[rG,Nd.own,Nd.iB,Nd.gY,Nd.zero,eH,Nd.c,Nv.dv,Nv.nd],by simp[eH,Nd.c,Nv.dv,Nv.nd,Nd.zero],by simp[eH,Nd.c,Nv.dv,Nv.nd,Nd.zero];omega,by simp[eH,Nd.c,Nv.dv,Nv.nd,Nd.zero],.inr (.inr (.inr (.inr (.inl ⟨rfl,h2,ha,hs⟩))))⟩,hg,λ i hi=>by simp[eH,Nd.c,Nv.dv] at hi,gL,gL,gL⟩
theorem vK(h:0<=gen):fR [dH.c,dH.c] [] gen:=by
 refine⟨by simp,h,rfl,rfl,λ i hi=>by simp at hi,λ i hi=>?_,by simp[marks,eZ,gD,dH,Nd.zero,aI.c,Nd.c,Nv.dv,Nv.nd]⟩
 simp only[List.map_cons,List.map_nil,List.length_cons,List.length_nil] at hi
 have:i=0∨i=1:=by omega
 rcases this with rfl|rfl
 ·exact L3 h
 ·exact L3 h
end
end

/- Tries of worlds: new nodes of each kind, new cells, new generations. -/
end Go.Ct
namespace Go.Proofs.YtadnboagdhcedaaGreatDoor
section
open Go.Ct
def Lu(k:Int)(r:Int):CT:=if k=2 then .main r else if k=8 then .stat r else .prev r
structure mE(H:ByteArray->Nat)(σ:Kw)(n:Nv)(w:List Nat)(g:Int):Prop where
 kd:n.kind=2∨n.kind=3∨n.kind=4∨n.kind=5∨n.kind=6∨n.kind=7∨n.kind=8
 ok:kI σ.mm.gen (σ.len+1) (eH n σ.cl).dv
 bd:pJ (σ.len+1) (σ.cl+1) (eH n σ.cl)
 k2:n.kind=2->w.length<=11
 k3:n.kind=3->w.length<=10/\(∀k:Nat,∀b,mU (eH n σ.cl) k=some b->Mz σ (w++[k]) g b)/\(0<w.length->n.xs≠[]/\∀b,n.xs=[b]->(σ.nd b).kind=2)
 k4:n.kind=4->H n.key=n.hash.toNat
 k5:n.kind=5->0<w.length/\w.length<=11/\H n.key=n.hash.toNat/\fQ n.hash.toNat w
 k6:n.kind=6->w.length=11/\fQ n.hash.toNat w/\∀p∈n.ys,H p.1=n.hash.toNat
 k7:n.kind=7->cC (σ.nd n.bO)
 k8:n.kind=8->xS σ n.bO []/\xS σ n.new []
structure sj(σ:Kw)(n:Nv)(i:Int)(w:List Nat)(g:Int):Prop where
 ins:Eg i σ.len
 k2:n.kind=2->pP σ i w n.gen
 kp:cC n->i=0∨(pP σ i w g/\eO σ i)
 k8:n.kind=8->i=0
section
variable{H:ByteArray->Nat}{σ τ υ:Kw}{r:Int}{w:List Nat}
theorem Ym(n:Nv)(c:Nat):(eH n c).kind=n.kind:=rfl
theorem aCa{n:Nv}{i g:Int}(h:Inv H σ)(hn:mE H σ n w g)(hi:sj σ n i w g):∃υ,Le σ υ/\Inv H υ/\υ.mm=σ.mm.push n i/\υ.nd ((σ.len+1:Nat):Int)=eH n σ.cl/\υ.way ((σ.len+1:Nat):Int)=w/\υ.gb ((σ.len+1:Nat):Int)=g:=by
 have e:=Vp σ n i w g (Lu n.kind ((σ.len+1:Nat):Int));have l:=e.le;have hnd:=aAe σ n i w g (Lu n.kind ((σ.len+1:Nat):Int));have hway:=oq σ n i w g (Lu n.kind ((σ.len+1:Nat):Int));have hgb:=w7 σ n i w g (Lu n.kind ((σ.len+1:Nat):Int));have hct:=xe σ n i w g (Lu n.kind ((σ.len+1:Nat):Int));have hlen:=Wl σ n i w g (Lu n.kind ((σ.len+1:Nat):Int));have hce:=λ h=>yw σ (n:=n) i w g (Lu n.kind ((σ.len+1:Nat):Int)) h;have hc0:=λ h=>sr σ (n:=n) i w g (Lu n.kind ((σ.len+1:Nat):Int)) h;have hpush:(σ.add n i w g (Lu n.kind ((σ.len+1:Nat):Int))).mm=σ.mm.push n i:=rfl;generalize hυ:σ.add n i w g (Lu n.kind ((σ.len+1:Nat):Int))=υ at *;have hgen:υ.mm.gen=σ.mm.gen:=by rw[hpush];rfl
 have hcl:υ.cl<=σ.cl+1:=by
  by_cases hk:n.kind=2∨n.kind=3∨n.kind=5∨n.kind=6∨n.kind=8
  ·rw[(hce hk).1];exact Nat.le_refl _
  ·rw[hc0 hk];omega
 have hcl2:(n.kind=2∨n.kind=3∨n.kind=5∨n.kind=6∨n.kind=8)->((σ.cl+1:Nat):Int)=((σ.mm.cs.length+1:Nat):Int):=λ _=>rfl
 have hnd':zh H υ ((σ.len+1:Nat):Int):=by
  refine⟨by rw[hnd];exact hn.ok.1,by rw[hnd,hgen];exact hn.ok.2.1,?_,λ k=>?_,λ k=>?_,λ k=>?_,λ k=>?_,λ k=>?_,λ k=>?_,λ k=>?_⟩
  ·rw[hnd,hlen];have hb:=hn.bd;by_cases hk:n.kind=2∨n.kind=3∨n.kind=5∨n.kind=6∨n.kind=8
   ·rw[(hce hk).1];exact hb
   ·rw[hc0 hk]
    refine⟨hb.bO,hb.exp,hb.new,hb.br,?_,?_,?_,hb.bm,hb.hash⟩
    ·show(if n.kind=2 then _ else(0:Int))<=_;rw[if_neg (by omega)];exact bT _
    ·show(if n.kind=3∨n.kind=5∨n.kind=6 then _ else(0:Int))<=_;rw[if_neg (by omega)];exact bT _
    ·show(if n.kind=8 then _ else(0:Int))<=_;rw[if_neg (by omega)];exact bT _
  all_goals rw[hnd] at k ⊢
  all_goals rw[Ym] at k
  ·rw[hway]
   refine⟨hn.k2 k,?_⟩
   rw[show(eH n σ.cl).main=((σ.cl+1:Nat):Int) from if_pos k,hct]
   exact⟨by omega,if_pos k⟩
  ·rw[hway,hgb]
   obtain⟨h1,h2,h3⟩:=hn.k3 k
   rw[show(eH n σ.cl).prev=((σ.cl+1:Nat):Int) from if_pos (.inl k),hct]
   refine⟨h1,λ k' b hb=>(h2 k' b hb).up l,λ h0=>⟨(h3 h0).1,λ b hb=>?_⟩,by omega,?_⟩
   ·have:=(h3 h0).2 b hb;rw[l.nd (eF (N:=σ.mm.nodes) (i:=b) (by rw[this];decide)).2];exact this
   ·unfold Lu;rw[if_neg (by omega),if_neg (by omega)]
  ·exact hn.k4 k
  ·rw[hway]
   obtain⟨h1,h2,h3,h4⟩:=hn.k5 k
   rw[show(eH n σ.cl).prev=((σ.cl+1:Nat):Int) from if_pos (.inr (.inl k)),hct]
   refine⟨h1,h2,h3,h4,by omega,?_⟩
   unfold Lu;rw[if_neg (by omega),if_neg (by omega)]
  ·rw[hway]
   obtain⟨h1,h2,h3⟩:=hn.k6 k
   rw[show(eH n σ.cl).prev=((σ.cl+1:Nat):Int) from if_pos (.inr (.inr k)),hct]
   refine⟨h1,h2,h3,by omega,?_⟩
   unfold Lu;rw[if_neg (by omega),if_neg (by omega)]
  ·have:=hn.k7 k;show cC (υ.nd n.bO)
   rw[l.nd (kG this).2];exact this
  ·obtain⟨h1,h2⟩:=hn.k8 k
   rw[show(eH n σ.cl).status=((σ.cl+1:Nat):Int) from if_pos k,hct]
   refine⟨h1.up l,h2.up l,by omega,?_⟩
   unfold Lu;rw[if_neg (by omega),if_pos k]
 refine⟨υ,l,?_,hpush,hnd,hway,hgb⟩;rw[<- hυ];refine oz h hn.ok hi.ins (by rw[hυ];exact hnd') (λ hc=>?_) (by rw[hυ];exact hcl);rw[hυ] at hc ⊢;have hk:n.kind=2∨n.kind=3∨n.kind=5∨n.kind=6∨n.kind=8:=Classical.byContradiction λ hk=>by have:=hc0 hk;omega
 have hv:=(hce hk).2;refine⟨by rw[hv];exact hi.ins.1,by rw[hv,hlen];have:=hi.ins.2;omega,λ i' k=>?_,λ m k=>?_,λ d k=>?_,λ k=>?_,λ k=>?_⟩<;>rw[hct] at k<;>rw[hv]
 ·unfold Lu at k
  split at k
  ·rename_i h2
   cases k
   rw[hnd,hway]
   exact⟨h2,(hi.k2 h2).up l⟩
  ·split at k<;>cases k
 ·unfold Lu at k
  split at k
  ·cases k
  ·split at k
   ·cases k
   ·cases k
    have hm:cC n:=by unfold cC;omega
    rw[hnd]
    refine⟨hm,?_⟩
    rcases hi.kp hm with h1|⟨h1,h2⟩
    ·exact .inl h1
    ·exact .inr (.inl ⟨by rw[hway,hgb];exact h1.up l,eO.up h h1.1 h2 l⟩)
 ·unfold Lu at k
  split at k
  ·cases k
  ·split at k
   ·rename_i h8
    exact .inl (hi.k8 h8)
   ·cases k
 ·unfold Lu at k
  split at k
  ·cases k
  ·split at k<;>cases k
 ·unfold Lu at k
  split at k
  ·cases k
  ·split at k<;>cases k
end
end

/- Tries of worlds: the nodes that the procedures make. -/
section
open Go.Ct
theorem fC{a b:Int}{p:Prop}(k:a=b)(h:a≠b:=by decide):p:=absurd k h
theorem qk{gen h u:Int}{k:ByteArray}{n c:Nat}(hg:0<=gen)(hk:k.size<=64):kI gen n (eH (({Nd.zero with kind:=5,hash:=h,key:=k,val:=u}:Nd).c [] []) c).dv :=
 ⟨⟨by simp[rG,Nd.own,Nd.iB,Nd.gY,Nd.zero,eH,Nd.c,Nv.dv,Nv.nd],by simp[eH,Nd.c,Nv.dv,Nv.nd,Nd.zero],by simp[eH,Nd.c,Nv.dv,Nv.nd,Nd.zero];omega,by simp[eH,Nd.c,Nv.dv,Nv.nd,Nd.zero],.inr (.inr (.inr (.inl ⟨.inr rfl,hk⟩)))⟩,hg,λ i hi=>by simp[eH,Nd.c,Nv.dv] at hi,gL,gL,gL⟩
theorem qt{gen p:Int}{n c:Nat}(hg:0<=gen)(h1:1<=p)(h2:p<=n):kI gen n (eH (D2 p) c).dv :=
 ⟨⟨by simp[rG,Nd.own,Nd.iB,Nd.gY,Nd.zero,eH,Nd.c,Nv.dv,Nv.nd,D2],by simp[eH,Nd.c,Nv.dv,Nv.nd,Nd.zero,D2],by simp[eH,Nd.c,Nv.dv,Nv.nd,Nd.zero,D2],by simp[eH,Nd.c,Nv.dv,Nv.nd,Nd.zero,D2],.inr (.inr (.inr (.inr (.inr (.inr ⟨rfl,h1⟩)))))⟩,hg,λ i hi=>by simp[eH,Nd.c,Nv.dv,D2] at hi,⟨by show 0<=p;omega,h2⟩,gL,gL⟩
theorem ra{gen a b d:Int}{n c:Nat}(hg:0<=gen)(a1:1<=a)(a2:a<=n)(b1:1<=b)(b2:b<=n)(d1:1<=d)(d2:d<=n):kI gen n (eH (Dw a b d) c).dv :=
 ⟨⟨by simp[rG,Nd.own,Nd.iB,Nd.gY,Nd.zero,eH,Nd.c,Nv.dv,Nv.nd,Dw],by simp[eH,Nd.c,Nv.dv,Nv.nd,Nd.zero,Dw],by simp[eH,Nd.c,Nv.dv,Nv.nd,Nd.zero,Dw],by simp[eH,Nd.c,Nv.dv,Nv.nd,Nd.zero,Dw];omega,.inr (.inr (.inr (.inr (.inr (.inl ⟨rfl,b1,d1,a1⟩)))))⟩,hg,λ i hi=>by simp[eH,Nd.c,Nv.dv,Dw] at hi,⟨by show 0<=a;omega,a2⟩,⟨by show 0<=b;omega,b2⟩,⟨by show 0<=d;omega,d2⟩⟩
theorem zW{n:Nv}{N c:Nat}(h1:n.bO<=N)(h2:n.exp<=N)(h3:n.new<=N)(h4:∀r∈n.xs,r<=N)(hb:∃b:Nat,n.bm=(b:Int)/\b<18446744073709551616)(hh:∃b:Nat,n.hash=(b:Int)/\b<18446744073709551616):pJ N (c+1) (eH n c) :=
 ⟨h1,h2,h3,h4,by show(if n.kind=2 then((c+1:Nat):Int) else 0)<=((c+1:Nat):Int);split<;>omega,by show(if n.kind=3∨n.kind=5∨n.kind=6 then((c+1:Nat):Int) else 0)<=((c+1:Nat):Int);split<;>omega,by show(if n.kind=8 then((c+1:Nat):Int) else 0)<=((c+1:Nat):Int);split<;>omega,hb,hh⟩
theorem jP:∃b:Nat,(0:Int)=(b:Int)/\b<18446744073709551616:=⟨0,rfl,by decide⟩
section
variable{H:ByteArray->Nat}{σ τ υ:Kw}{r:Int}{w:List Nat}
theorem al{p g:Int}(h:Inv H σ)(hp:cC (σ.nd p)):mE H σ (D2 p) w g:=by
 have hr:1<=p/\p<=σ.len:=kG hp
 exact⟨.inr (.inr (.inr (.inr (.inr (.inl rfl))))),qt h.gen hr.1 (by have:=hr.2;omega),zW (by show p<=_;have:=hr.2;omega) (bT _) (bT _) (λ r hr=>nomatch hr) jP jP,
  λ k=>fC (a:=7) (b:=2) k,λ k=>fC (a:=7) (b:=3) k,λ k=>fC (a:=7) (b:=4) k,λ k=>fC (a:=7) (b:=5) k,λ k=>fC (a:=7) (b:=6) k,λ _=>hp,λ k=>fC (a:=7) (b:=8) k⟩
theorem Ix{g g':Int}(hw:w.length<=11)(h1:1<=g')(h2:g'<=σ.mm.gen):mE H σ (uB g') w g :=
 ⟨.inl rfl,Bx h2 h1,zW (bT _) (bT _) (bT _) (λ r hr=>nomatch hr) jP jP,
  λ _=>hw,λ k=>fC (a:=2) (b:=3) k,λ k=>fC (a:=2) (b:=4) k,λ k=>fC (a:=2) (b:=5) k,λ k=>fC (a:=2) (b:=6) k,λ k=>fC (a:=2) (b:=7) k,λ k=>fC (a:=2) (b:=8) k⟩
theorem im{a b d g:Int}(h:Inv H σ)(ha:xS σ a [])(hb1:1<=b)(hb2:b<=σ.len)(hd:xS σ d []):mE H σ (Dw a b d) w g:=by
 have h1:=ha.in;have h2:=hd.in
 exact⟨.inr (.inr (.inr (.inr (.inr (.inr rfl))))),ra h.gen h1.1 (by omega) hb1 (by omega) h2.1 (by omega),zW (by show a<=_;omega) (by show b<=_;omega) (by show d<=_;omega) (λ r hr=>nomatch hr) jP jP,
  λ k=>fC (a:=8) (b:=2) k,λ k=>fC (a:=8) (b:=3) k,λ k=>fC (a:=8) (b:=4) k,λ k=>fC (a:=8) (b:=5) k,λ k=>fC (a:=8) (b:=6) k,λ k=>fC (a:=8) (b:=7) k,λ _=>⟨ha,hd⟩⟩
theorem Ba{h:Nat}{k:ByteArray}{u g:Int}(i:Inv H σ)(hk:k.size<=64)(hh:H k=h)(hl:h<18446744073709551616):mE H σ (Hv h k u) w g :=
 ⟨.inr (.inr (.inl rfl)),I4 i.gen hk,zW (bT _) (bT _) (bT _) (λ r hr=>nomatch hr) jP ⟨h,rfl,hl⟩,
  λ k=>fC (a:=4) (b:=2) k,λ k=>fC (a:=4) (b:=3) k,λ _=>hh,λ k=>fC (a:=4) (b:=5) k,λ k=>fC (a:=4) (b:=6) k,λ k=>fC (a:=4) (b:=7) k,λ k=>fC (a:=4) (b:=8) k⟩
def kf(h:Int)(k:ByteArray)(u:Int):Nv:=({Nd.zero with kind:=5,hash:=h,key:=k,val:=u}:Nd).c [] []
theorem H4{h:Nat}{k:ByteArray}{u g:Int}(i:Inv H σ)(hk:k.size<=64)(hh:H k=h)(hl:h<18446744073709551616)(w0:0<w.length)(w1:w.length<=11)(hu:fQ h w):mE H σ (kf h k u) w g :=
 ⟨.inr (.inr (.inr (.inl rfl))),qk i.gen hk,zW (bT _) (bT _) (bT _) (λ r hr=>nomatch hr) jP ⟨h,rfl,hl⟩,
  λ k=>fC (a:=5) (b:=2) k,λ k=>fC (a:=5) (b:=3) k,λ k=>fC (a:=5) (b:=4) k,λ _=>⟨w0,w1,hh,hu⟩,λ k=>fC (a:=5) (b:=6) k,λ k=>fC (a:=5) (b:=7) k,λ k=>fC (a:=5) (b:=8) k⟩
def U8(h:Int)(ys:List Pr):Nv:=({Nd.zero with kind:=6,hash:=h}:Nd).c [] ys
theorem Gk{h:Nat}{ys:List Pr}{g:Int}(i:Inv H σ)(h2:2<=ys.length)(ha:rk ys)(hs:Dv ys)(hh:∀p∈ys,H p.1=h)(hl:h<18446744073709551616)(w1:w.length=11)(hu:fQ h w):mE H σ (U8 h ys) w g :=
 ⟨.inr (.inr (.inr (.inr (.inl rfl)))),sk i.gen h2 ha hs,zW (bT _) (bT _) (bT _) (λ r hr=>nomatch hr) jP ⟨h,rfl,hl⟩,
  λ k=>fC (a:=6) (b:=2) k,λ k=>fC (a:=6) (b:=3) k,λ k=>fC (a:=6) (b:=4) k,λ k=>fC (a:=6) (b:=5) k,λ _=>⟨w1,hu,hh⟩,λ k=>fC (a:=6) (b:=7) k,λ k=>fC (a:=6) (b:=8) k⟩
theorem Vd{m:Nat->Option Int}{x:Int}:∀{k:Nat},x∈pY m k->∃j,j<k/\m j=some x
 | 0,h=>nomatch h
 | k+1,h=>by
  simp only[pY,List.mem_append,Option.mem_toList] at h
  rcases h with h|h
  ·obtain⟨j,h1,h2⟩:=Vd h
   exact⟨j,by omega,h2⟩
  ·exact⟨k,Nat.lt_succ_self k,h⟩
theorem K6{b:Nat}{xs:List Int}(h:BV b xs){x:Int}(hx:x∈xs):∃j,j<64/\rA b xs j=some x:=by
 rw[<- (Rx h).2] at hx
 exact Vd hx
theorem V1{b:Nat}{xs:List Int}(h:BV b xs){k:Nat}(hk:k<64){x:Int}(hx:rA b xs k=some x):x∈xs:=by
 unfold rA at hx
 split at hx
 ·rename_i hb
  cases hx
  exact Cu (by rw[h.len];exact oX hk hb)
 ·cases hx
theorem ye{v:Nv}{k:Nat}(hk:64<=k):mU v (k:Int)=none:=by
 unfold mU Lh
 rw[V9 _ (by omega)]
 simp
theorem Lx{v:Nv}(hcv:CV v.nd v.xs v.ys){k:Nat}(hk:k<64):mU v (k:Int)=rA v.bm.toNat v.xs k:=Wb hcv hk
theorem Mz.le{g g' b:Int}(h:Mz σ w g b)(hg:g<=g'):Mz σ w g' b:=by
 rcases h with h|h
 ·exact .inl h
 ·exact .inr ⟨h.1,h.2.1,Int.le_trans h.2.2 hg⟩
theorem Mz.in{g b:Int}(h:Mz σ w g b):1<=b/\b<=σ.len:=by
 rcases h with h|h<;>exact eF (N:=σ.mm.nodes) (i:=b) (by rw[h.1];decide)
theorem nQ{b:Nat}{xs:List Int}{g:Int}(i:Inv H σ)(hb:BV b xs)(hx:∀k:Nat,k<64->∀r,rA b xs k=some r->Mz σ (w++[k]) g r)(hw:w.length<=10)(h0:0<w.length->xs≠[]/\∀b,xs=[b]->(σ.nd b).kind=2):mE H σ (Ij b xs) w g:=by
 have hr:∀r∈xs,1<=r/\r<=σ.len:=λ r hr=>by
  obtain⟨j,h1,h2⟩:=K6 hb hr
  exact(hx j h1 r h2).in
 have hok:kI σ.mm.gen (σ.len+1) (eH (Ij b xs) σ.cl).dv:=Cf i.gen hb (λ r h=>by have:=(hr r h).2;omega)
 refine⟨.inr (.inl rfl),hok,zW (bT _) (bT _) (bT _) (λ r h=>by have:=(hr r h).2;omega) ⟨b,rfl,hb.lt⟩ jP,
  λ k=>fC (a:=3) (b:=2) k,λ _=>⟨hw,λ k r hk=>?_,h0⟩,λ k=>fC (a:=3) (b:=4) k,λ k=>fC (a:=3) (b:=5) k,λ k=>fC (a:=3) (b:=6) k,λ k=>fC (a:=3) (b:=7) k,λ k=>fC (a:=3) (b:=8) k⟩
 by_cases h64:k<64
 ·rw[Lx (v:=eH (Ij b xs) σ.cl) ⟨rfl,hok.1⟩ h64] at hk
  exact hx k h64 r hk
 ·rw[ye (by omega)] at hk
  cases hk
structure mB(σ:Kw)(m:Int)(w:List Nat)(g:Int)(b:Nat)(xs:List Int):Prop where
 kd:(σ.nd m).kind=3
 bm:(σ.nd m).bm.toNat=b
 el:(σ.nd m).xs=xs
 cv:CV (σ.nd m).nd (σ.nd m).xs (σ.nd m).ys
 bv:BV b xs
 wl:w.length<=10
 br:∀k:Nat,k<64->∀r,rA b xs k=some r->Mz σ (w++[k]) g r
 ne:0<w.length->xs≠[]/\∀b,xs=[b]->(σ.nd b).kind=2
theorem pP.uF{m g:Int}(i:Inv H σ)(h:pP σ m w g)(k:(σ.nd m).kind=3):mB σ m w g (σ.nd m).bm.toNat (σ.nd m).xs:=by
 have hr:=h.in;have hn:=i.nd m hr.1 hr.2;obtain⟨h1,h2,h3,_⟩:=hn.k3 k
 have hcv:CV (σ.nd m).nd (σ.nd m).xs (σ.nd m).ys:=⟨k,hn.valid⟩;obtain⟨b,hb1,hb2⟩:=hn.bd.bm
 have hb:(σ.nd m).bm.toNat=b:=by omega
 rw[h.2.1] at h1 h2 h3
 refine⟨k,rfl,rfl,hcv,by rw[hb];exact hcv.bv hb1 hb2,h1,λ k' hk r hr=>?_,h3⟩
 exact(h2 k' r (by rw[Lx hcv hk];exact hr)).le h.2.2
theorem mB.lk{m g:Int}{b:Nat}{xs:List Int}(h:mB σ m w g b xs){k:Nat}(hk:k<64):mU (σ.nd m) (k:Int)=rA b xs k:=by rw[Lx h.cv hk,h.bm,h.el]
theorem mB.up{m g r:Int}{b:Nat}{xs:List Int}(h:mB σ m w g b xs){k:Nat}(hk:k<64){o:Int}(ho:mU (σ.nd m) (k:Int)=some o)(hr:1<=r):jl (σ.nd m) (k:Int) r=Ij b (Ae xs (gB b k) r)/\BV b (Ae xs (gB b k) r)/\(∀j,j<64->rA b (Ae xs (gB b k) r) j=Nw (rA b xs) k (some r) j)/\gB b k<xs.length:=by
 rw[h.lk hk] at ho;have hb:b.testBit k=true:=by unfold rA at ho;split at ho;assumption;cases ho
 have hu:=Tq h.bv hk hb hr;refine⟨?_,hu.1,hu.2,by rw[h.bv.len];exact oX hk hb⟩;unfold jl mq;rw[if_pos ⟨h.cv,hr,by rw[h.bm,qG b hk];exact hb⟩,h.bm,h.el,oC b hk];rfl
theorem mB.ins{m g r:Int}{b:Nat}{xs:List Int}(h:mB σ m w g b xs){k:Nat}(hk:k<64)(ho:mU (σ.nd m) (k:Int)=none)(hr:1<=r):yf (σ.nd m) (k:Int) r=Ij (b ||| 2^k) (vR xs (gB b k) r)/\BV (b ||| 2^k) (vR xs (gB b k) r)/\(∀j,j<64->rA (b ||| 2^k) (vR xs (gB b k) r) j=Nw (rA b xs) k (some r) j)/\(vR xs (gB b k) r).length=xs.length+1:=by
 rw[h.lk hk] at ho
 have hb:b.testBit k=false:=by
  unfold rA at ho
  cases hb:b.testBit k with
  | false=>rfl
  | true=>rw[hb] at ho;simp at ho
 have hu:=Hn h.bv hk hb hr;refine⟨?_,hu.1,hu.2,H9 (by rw[h.bv.len];have:=vG b k (64-k);rwa [show k+(64-k)=64 by omega] at this) r⟩;unfold yf mw;rw[if_pos ⟨h.cv,⟨by omega,by omega⟩,hr,by rw[h.bm,qG b hk];exact hb⟩,h.bm,h.el,oC b hk,pU b hk];rfl
theorem mB.re{m g:Int}{b:Nat}{xs:List Int}(h:mB σ m w g b xs){k:Nat}(hk:k<64){o:Int}(ho:mU (σ.nd m) (k:Int)=some o):Nr (σ.nd m) (k:Int)=Ij (b ^^^ (b &&& 2^k)) (sF xs (gB b k))/\BV (b ^^^ (b &&& 2^k)) (sF xs (gB b k))/\(∀j,j<64->rA (b ^^^ (b &&& 2^k)) (sF xs (gB b k)) j=Nw (rA b xs) k none j)/\(sF xs (gB b k)).length+1=xs.length:=by
 rw[h.lk hk] at ho;have hb:b.testBit k=true:=by unfold rA at ho;split at ho;assumption;cases ho
 have hu:=Sf h.bv hk hb;refine⟨?_,hu.1,hu.2,H3 (by rw[h.bv.len];exact oX hk hb)⟩;unfold Nr mv;rw[if_pos ⟨h.cv,by rw[h.bm,qG b hk];exact hb⟩,h.bm,h.el,oC b hk,tP b hk];rfl
end
end

end Go.Proofs.YtadnboagdhcedaaGreatDoor
