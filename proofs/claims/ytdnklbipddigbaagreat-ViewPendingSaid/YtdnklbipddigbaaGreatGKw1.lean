/- Merged. -/
import Derived.Test.YtdnklbipddigbaaGreatGVw1
import Derived.Test.YtdnklbipddigbaaGreatGTr2
import Derived.Test.YtdnklbipddigbaaGreatGRn1
import Derived.Test.YtdnklbipddigbaaGreatGRs0
set_option linter.unusedSimpArgs false
set_option linter.unusedVariables false
namespace Go.Proofs.YtdnklbipddigbaaGreat
open Go.Ct
section
inductive CT where
 | no
 | main (i:Int)
 | prev (m:Int)
 | stat (d:Int)
 | root
 | rort
structure Kw where
 mm:Mm
 way:Int->List Nat
 gb:Int->Int
 ct:Int->CT
abbrev Kw.nd(σ:Kw)(r:Int):Nv:=ndAt σ.mm.nodes r
abbrev Kw.ce(σ:Kw)(c:Int):Int:=cellV σ.mm.cs c
abbrev Kw.len(σ:Kw):Nat:=σ.mm.nodes.length
abbrev Kw.cl(σ:Kw):Nat:=σ.mm.cs.length
def Under(h:Nat)(w:List Nat):Prop:=∀k,k<w.length->sl h k=w.getD k 0
def IsI(σ:Kw)(i:Int)(w:List Nat):Prop:=(σ.nd i).kind=2/\σ.way i=w
def IsM(σ:Kw)(m:Int)(w:List Nat)(g:Int):Prop:=MainK (σ.nd m)/\σ.way m=w/\σ.gb m<=g
def Settled(σ:Kw)(m:Int):Prop:=σ.ce (σ.nd m).prev=0
def PrevM(σ:Kw)(m p:Int):Prop:=IsM σ p (σ.way m) (σ.gb m)/\Settled σ p
def BrI(σ:Kw)(w:List Nat)(g b:Int):Prop:=((σ.nd b).kind=4/\Under (σ.nd b).hash.toNat w)∨((σ.nd b).kind=2/\σ.way b=w/\(σ.nd b).gen<=g)
structure NdI(H:ByteArray->Nat)(σ:Kw)(r:Int):Prop where
 valid:NdValid (σ.nd r).nd (σ.nd r).xs (σ.nd r).ys
 gen:(σ.nd r).gen<=σ.mm.gen
 bd:NvB σ.len σ.cl (σ.nd r)
 k2:(σ.nd r).kind=2->(σ.way r).length<=11/\1<=(σ.nd r).main/\σ.ct (σ.nd r).main=.main r
 k3:(σ.nd r).kind=3->(σ.way r).length<=10/\(∀k:Nat,∀b,lkV (σ.nd r) k=some b->BrI σ (σ.way r++[k]) (σ.gb r) b)/\(0<(σ.way r).length->(σ.nd r).xs≠[]/\∀b,(σ.nd r).xs=[b]->(σ.nd b).kind=2)/\1<=(σ.nd r).prev/\σ.ct (σ.nd r).prev=.prev r
 k4:(σ.nd r).kind=4->H (σ.nd r).key=(σ.nd r).hash.toNat
 k5:(σ.nd r).kind=5->0<(σ.way r).length/\(σ.way r).length<=11/\H (σ.nd r).key=(σ.nd r).hash.toNat/\Under (σ.nd r).hash.toNat (σ.way r)/\1<=(σ.nd r).prev/\σ.ct (σ.nd r).prev=.prev r
 k6:(σ.nd r).kind=6->(σ.way r).length=11/\Under (σ.nd r).hash.toNat (σ.way r)/\(∀p∈(σ.nd r).ys,H p.1=(σ.nd r).hash.toNat)/\1<=(σ.nd r).prev/\σ.ct (σ.nd r).prev=.prev r
 k7:(σ.nd r).kind=7->MainK (σ.nd (σ.nd r).old)
 k8:(σ.nd r).kind=8->IsI σ (σ.nd r).old []/\IsI σ (σ.nd r).new []/\1<=(σ.nd r).status/\σ.ct (σ.nd r).status=.stat r
structure CeI(σ:Kw)(c:Int):Prop where
 lo:0<=σ.ce c
 hi:σ.ce c<=σ.len
 main:∀i,σ.ct c=.main i->(σ.nd i).kind=2/\IsM σ (σ.ce c) (σ.way i) (σ.nd i).gen
 prev:∀m,σ.ct c=.prev m->MainK (σ.nd m)/\(σ.ce c=0∨PrevM σ m (σ.ce c)∨((σ.nd (σ.ce c)).kind=7/\PrevM σ m (σ.nd (σ.ce c)).old))
 stat:∀d,σ.ct c=.stat d->σ.ce c=0∨σ.ce c=1∨σ.ce c=2
 root:σ.ct c=.root->IsI σ (σ.ce c) []∨(σ.nd (σ.ce c)).kind=8
 rort:σ.ct c=.rort->IsI σ (σ.ce c) []
structure Inv(H:ByteArray->Nat)(σ:Kw):Prop where
 two:2<=σ.len
 m1:(σ.nd 1).kind=1
 m2:(σ.nd 2).kind=1
 gen:0<=σ.mm.gen
 prop:ProperN σ.mm.nodes σ.mm.cs σ.mm.gen
 nd:∀r:Int,1<=r->r<=σ.len->NdI H σ r
 ce:∀c:Int,1<=c->c<=σ.cl->CeI σ c
structure Le(σ τ:Kw):Prop where
 nodes:∃N,τ.mm.nodes=σ.mm.nodes++N
 cl:σ.cl<=τ.cl
 gen:σ.mm.gen<=τ.mm.gen
 way:∀r:Int,r<=σ.len->τ.way r=σ.way r
 gb:∀r:Int,r<=σ.len->τ.gb r=σ.gb r
 ct:∀c:Int,c<=σ.cl->τ.ct c=σ.ct c
 done:∀(c m:Int),1<=c->c<=σ.cl->σ.ct c=.prev m->¬MainK (σ.nd (σ.ce c))->τ.ce c=σ.ce c
 next:∀(c m:Int),1<=c->c<=σ.cl->σ.ct c=.prev m->MainK (σ.nd (σ.ce c))->τ.ce c=σ.ce c∨τ.ce c=0∨((τ.nd (τ.ce c)).kind=7/\(τ.nd (τ.ce c)).old=σ.ce c)
theorem Le.refl(σ:Kw):Le σ σ:=⟨⟨[],by simp⟩,Nat.le_refl _,Int.le_refl _,λ _ _=>rfl,λ _ _=>rfl,λ _ _=>rfl,λ _ _ _ _ _ _=>rfl,λ _ _ _ _ _ _=>.inl rfl⟩
section
variable{H:ByteArray->Nat}{σ τ υ:Kw}
theorem Le.len(h:Le σ τ):σ.len<=τ.len:=by obtain⟨N,e⟩:=h.nodes;simp only[Kw.len,e,List.length_append];omega
theorem Le.nd(h:Le σ τ){r:Int}(hr:r<=σ.len):τ.nd r=σ.nd r:=by obtain⟨N,e⟩:=h.nodes;simp only[Kw.nd,e];exact ndAt_app hr
theorem mainK_in{N:List Nv}{r:Int}(h:MainK (ndAt N r)):1<=r/\r<=N.length:=kind_in (by unfold MainK at h;omega)
theorem MainK.ne0{n:Nv}(h:MainK n):n.kind≠0/\n.kind≠7/\n.kind≠2/\n.kind≠8:=by unfold MainK at h;omega
theorem mk_dec{n:Nv}(h:n.kind=0∨n.kind=7∨n.kind=2∨n.kind=8∨n.kind=1):¬MainK n:=λ hm=>by unfold MainK at hm;omega
theorem nd_zero(N:List Nv):(ndAt N 0).kind=0:=by unfold ndAt;rw[if_neg (by omega)];rfl
def Nxt(σ τ:Kw)(v v':Int):Prop:=(¬MainK (σ.nd v)->v'=v)/\(MainK (σ.nd v)->v'=v∨v'=0∨((τ.nd v').kind=7/\(τ.nd v').old=v))
theorem Le.nxt(h:Le σ τ){c m:Int}(h1:1<=c)(hc:c<=σ.cl)(e:σ.ct c=.prev m):Nxt σ τ (σ.ce c) (τ.ce c):=⟨h.done c m h1 hc e,h.next c m h1 hc e⟩
theorem Le.trans(i1:Inv H σ)(i2:Inv H τ)(h:Le σ τ)(h2:Le τ υ):Le σ υ:=by
 have hl:=h.len;have hl2:=h2.len;refine⟨?_,Nat.le_trans h.cl h2.cl,Int.le_trans h.gen h2.gen,λ r hr=>(h2.way r (by omega)).trans (h.way r hr),λ r hr=>(h2.gb r (by omega)).trans (h.gb r hr),λ c hc=>(h2.ct c (by have:=h.cl;omega)).trans (h.ct c hc),λ c m h1 hc e hk=>?_,λ c m h1 hc e hk=>?_⟩;·obtain⟨N,e⟩:=h.nodes;obtain⟨N2,e2⟩:=h2.nodes;exact⟨N++N2,by rw[e2,e,List.append_assoc]⟩
 ·have e1:=h.done c m h1 hc e hk;have e2:τ.ct c=.prev m:=(h.ct c hc).trans e;rw[<- e1];refine h2.done c m h1 (by have:=h.cl;omega) e2 ?_;rw[e1,h.nd (i1.ce c h1 hc).hi];exact hk
 ·have e2:τ.ct c=.prev m:=(h.ct c hc).trans e;have hc2:c<=τ.cl:=by have:=h.cl;omega
  rcases h.next c m h1 hc e hk with e1|e1|⟨e1,e3⟩;·rw[<- e1];refine h2.next c m h1 hc2 e2 ?_;rw[e1,h.nd (i1.ce c h1 hc).hi];exact hk
  ·refine .inr (.inl ?_);rw[h2.done c m h1 hc2 e2 (by rw[e1];exact mk_dec (.inl (nd_zero _))),e1]
  ·refine .inr (.inr ?_);rw[h2.done c m h1 hc2 e2 (mk_dec (.inr (.inl e1))),h2.nd (i2.ce c h1 hc2).hi];exact⟨e1,e3⟩
def WT(H:ByteArray->Nat)(Q:Rs->Kw->Prop):Tr->Kw->Prop
 | .done r,σ=>Q r σ
 | .load c k,σ=>∀τ,Le σ τ->Inv H τ->WT H Q (k (τ.ce c)) τ
 | .cas c o n k,σ=>∀τ,Le σ τ->Inv H τ->(CasOk τ.mm.cs c o->∃υ,Le τ υ/\Inv H υ/\υ.mm=⟨τ.mm.nodes,casL τ.mm.cs c o n,τ.mm.gen⟩/\WT H Q (k true) υ)/\(¬CasOk τ.mm.cs c o->WT H Q (k false) τ)
 | .alloc n i k,σ=>∃υ,Le σ υ/\Inv H υ/\υ.mm=σ.mm.push n i/\WT H Q (k ((σ.len+1:Nat):Int)) υ
 | .cell i k,σ=>∃υ,Le σ υ/\Inv H υ/\υ.mm=⟨σ.mm.nodes,σ.mm.cs++[i],σ.mm.gen⟩/\WT H Q (k ((σ.cl+1:Nat):Int)) υ
 | .gen k,σ=>∃υ,Le σ υ/\Inv H υ/\υ.mm=⟨σ.mm.nodes,σ.mm.cs,σ.mm.gen+1⟩/\WT H Q (k (σ.mm.gen+1)) υ
 | .node r k,σ=>r<=σ.len/\WT H Q (k (σ.nd r)) σ
 | .stuck,_=>True
def atRest:Tr->Bool
 | .load _ _=>true
 | .cas _ _ _ _=>true
 | .done _=>true
 | _=>false
theorem WT.sp{Q:Rs->Kw->Prop}{t t':Tr}{s':Mm}(i1:Inv H σ)(w:WT H Q t σ)(h:Sp t σ.mm t' s'):∃υ,Le σ υ/\Inv H υ/\υ.mm=s'/\WT H Q t' υ:=by
 cases h with
 | alloc n i k s=>exact w
 | cell i k s=>exact w
 | gen k s=>exact w
 | node r k s h=>exact⟨σ,Le.refl σ,i1,rfl,w.2⟩
theorem WT.lp{Q:Rs->Kw->Prop}{t t':Tr}{s':Mm}(i1:Inv H σ)(w:WT H Q t σ)(h:Lp t σ.mm t' s'):∃υ,Le σ υ/\Inv H υ/\υ.mm=s'/\WT H Q t' υ:=by
 cases h with
 | load c k s=>exact⟨σ,Le.refl σ,i1,rfl,w σ (Le.refl σ) i1⟩
 | cas c o n k s b hb=>
  obtain⟨w1,w2⟩:=w σ (Le.refl σ) i1;cases b with
  | true=>exact w1 (hb.1 rfl)
  | false=>
   have hn:¬CasOk σ.mm.cs c o:=λ h=>by have:=hb.2 h;cases this
   refine⟨σ,Le.refl σ,i1,?_,w2 hn⟩;rw[show casL σ.mm.cs c o n=σ.mm.cs from casL_no hn]
theorem WT.rc{Q:Rs->Kw->Prop}{t:Tr}{s:Mm}{j:Nat}{t':Tr}{s':Mm}(h:Rc j t s t' s'):∀{σ:Kw},σ.mm=s->Inv H σ->WT H Q t σ->∃υ,Le σ υ/\Inv H υ/\υ.mm=s'/\WT H Q t' υ:=by
 induction h with
 | refl t s=>intro σ e i w;exact⟨σ,Le.refl σ,i,e,w⟩
 | sil _ hs ih=>intro σ e i w;obtain⟨υ,l1,i1,e1,w1⟩:=ih e i w;subst e1;obtain⟨ρ,l2,i2,e2,w2⟩:=w1.sp i1 hs;exact⟨ρ,l1.trans i i1 l2,i2,e2,w2⟩
 | loud _ hs ih=>intro σ e i w;obtain⟨υ,l1,i1,e1,w1⟩:=ih e i w;subst e1;obtain⟨ρ,l2,i2,e2,w2⟩:=w1.lp i1 hs;exact⟨ρ,l1.trans i i1 l2,i2,e2,w2⟩
end
end
end Go.Proofs.YtdnklbipddigbaaGreat
namespace Go.Ct
open Go Go.RowKit
section
structure AS where
 L:List NdV
 cs:List Int
 gen:Int
 acc:Int
 pn:Option Addr
 cn:Nat
 pc:Option Addr
 cc:Nat
end
end Go.Ct
namespace Go.Proofs.YtdnklbipddigbaaGreat
open Go Go.RowKit Go.Ct
section
section
variable{b:Nat}{f:FuncId}{cap arg:List Value}{B B2:Fr}{s s1 s2:Mm}{t:Tr}{c:Cd}
end
section
variable{S:List (Nat×Value)}{w0 w:World}{M:List Nat}{H:List (Nat×Obj)}{A F:Fr}{O:List Ow}{ty:TypeId}{pos:String}{af:Array Edge}{gd:Option (Nat×Bool)}{X:Type}{V:X->Value}
end
end
end Go.Proofs.YtdnklbipddigbaaGreat
namespace Go.Ct
open Go Go.RowKit
section
end
end Go.Ct
namespace Go.Proofs.YtdnklbipddigbaaGreat
open Go Go.RowKit Go.Ct
section
section
variable{D:List Nat}{A B:Fr}{L:List NdV}{cs:List Int}{gen acc:Int}{pn pc:Option Addr}{cn cc b bt n:Nat}{w:World}{c:Cd}
end
end
end Go.Proofs.YtdnklbipddigbaaGreat
namespace Go.Ct
open Go Go.RowKit
section
end
end Go.Ct
namespace Go.Proofs.YtdnklbipddigbaaGreat
section
open Go Go.RowKit Go.Ct
section
variable{D:List Nat}{A B:Fr}{a:AS}{b bt n:Nat}{w:World}{c:Cd}{t:Tr}{f:FuncId}{cap:List Value}
end
end
section
open Go Go.RowKit Go.Ct
section
variable{D:List Nat}{A B:Fr}{a:AS}{b bt n:Nat}{w:World}{c:Cd}{t:Tr}
end
end
section
open Go Go.RowKit Go.Ct
section
variable{t:Tri}{i m p v:Int}{n:Nat}
end
end
section
open Go.Ct
section
variable{H:ByteArray->Nat}{σ τ υ:Kw}{r:Int}{w:List Nat}
theorem cellV_cas{cs:List Int}{c o v:Int}(h:CasOk cs c o)(c':Int):cellV (casL cs c o v) c'=if c'=c then v else cellV cs c':=by
 have hl:=casL_length (cs:=cs) (c:=c) (old:=o) (new:=v);obtain⟨h1,h2,h3⟩:=h;have e:casL cs c o v=cs.set (c-1).toNat v:=if_pos ⟨h1,h2,h3⟩;unfold cellV;rw[hl];by_cases hc:1<=c'/\c'<=cs.length
 ·rw[if_pos hc,if_pos hc,e];by_cases e2:c'=c;·subst e2;rw[if_pos rfl];rw[gdg,List.getElem?_set,if_pos rfl,if_pos (by omega)];rfl
  ·rw[if_neg e2];rw[gdg,List.getElem?_set,if_neg (by omega),gdg]
 ·rw[if_neg hc,if_neg hc,if_neg (by omega)]
theorem casOk_ce{cs:List Int}{c o:Int}(h:CasOk cs c o):cellV cs c=o:=by obtain⟨h1,h2,h3⟩:=h;unfold cellV;rw[if_pos ⟨h1,h2⟩,h3]
theorem IsI.in(h:IsI σ r w):1<=r/\r<=σ.len:=kind_in (by rw[h.1];decide)
theorem IsM.in{g:Int}(h:IsM σ r w g):1<=r/\r<=σ.len:=mainK_in h.1
theorem Inv.prevCell(i:Inv H σ){m:Int}(h:MainK (σ.nd m)):1<=(σ.nd m).prev/\(σ.nd m).prev<=σ.cl/\σ.ct (σ.nd m).prev=.prev m:=by
 have hr:=mainK_in h;have hn:=i.nd m hr.1 hr.2;have hb:=hn.bd.prev;rcases h with h|h|h;·have:=hn.k3 h;exact⟨this.2.2.2.1,hb,this.2.2.2.2⟩
 ·have:=hn.k5 h;exact⟨this.2.2.2.2.1,hb,this.2.2.2.2.2⟩
 ·have:=hn.k6 h;exact⟨this.2.2.2.1,hb,this.2.2.2.2⟩
theorem Inv.mainCell(i:Inv H σ){r:Int}(h:(σ.nd r).kind=2):1<=(σ.nd r).main/\(σ.nd r).main<=σ.cl/\σ.ct (σ.nd r).main=.main r:=by have hr:=kind_in (N:=σ.mm.nodes) (i:=r) (by rw[h];decide);have hn:=i.nd r hr.1 hr.2;exact⟨(hn.k2 h).2.1,hn.bd.main,(hn.k2 h).2.2⟩
theorem Inv.statCell(i:Inv H σ){r:Int}(h:(σ.nd r).kind=8):1<=(σ.nd r).status/\(σ.nd r).status<=σ.cl/\σ.ct (σ.nd r).status=.stat r:=by have hr:=kind_in (N:=σ.mm.nodes) (i:=r) (by rw[h];decide);have hn:=i.nd r hr.1 hr.2;exact⟨(hn.k8 h).2.2.1,hn.bd.status,(hn.k8 h).2.2.2⟩
theorem IsI.up(h:IsI σ r w)(l:Le σ τ):IsI τ r w:=by have hr:=h.in;exact⟨by rw[l.nd hr.2];exact h.1,by rw[l.way r hr.2];exact h.2⟩
theorem IsM.up{g:Int}(h:IsM σ r w g)(l:Le σ τ):IsM τ r w g:=by have hr:=h.in;exact⟨by rw[l.nd hr.2];exact h.1,by rw[l.way r hr.2];exact h.2.1,by rw[l.gb r hr.2];exact h.2.2⟩
theorem IsM.le{g g':Int}(h:IsM σ r w g)(hg:g<=g'):IsM σ r w g':=⟨h.1,h.2.1,Int.le_trans h.2.2 hg⟩
theorem Settled.up(i:Inv H σ)(hm:MainK (σ.nd r))(h:Settled σ r)(l:Le σ τ):Settled τ r:=by have hc:=i.prevCell hm;unfold Settled;rw[l.nd (mainK_in hm).2,l.done _ r hc.1 hc.2.1 hc.2.2 (by rw[h];exact mk_dec (.inl (nd_zero _)))];exact h
theorem CeI.same{c:Int}(h:CeI σ c)(hm:υ.mm.nodes=σ.mm.nodes)(hw:υ.way=σ.way)(hg:υ.gb=σ.gb)(hct:υ.ct=σ.ct)(hc:υ.ce c=σ.ce c)(hs:∀p,MainK (σ.nd p)->Settled σ p->Settled υ p):CeI υ c:=by
 have hl:υ.len=σ.len:=by simp only[Kw.len,hm]
 have hn:∀r,υ.nd r=σ.nd r:=λ r=>by simp only[Kw.nd,hm]
 have hM:∀p w g,IsM σ p w g->IsM υ p w g:=λ p w g h=>⟨by rw[hn];exact h.1,by rw[hw];exact h.2.1,by rw[hg];exact h.2.2⟩
 have hP:∀m p,PrevM σ m p->PrevM υ m p:=λ m p h=>⟨by rw[hw,hg];exact hM _ _ _ h.1,hs p h.1.1 h.2⟩
 refine⟨by rw[hc];exact h.lo,by rw[hc,hl];exact h.hi,λ i e=>?_,λ m e=>?_,λ d e=>?_,λ e=>?_,λ e=>?_⟩;·rw[hc,hw,hn];obtain⟨h0,h1⟩:=h.main i (by rw[<- hct];exact e);exact⟨h0,hM _ _ _ h1⟩
 ·rw[hc,hn,hn];obtain⟨h0,h⟩:=h.prev m (by rw[<- hct];exact e);refine⟨h0,?_⟩;rcases h with h1|h1|⟨h1,h2⟩;·exact .inl h1
  ·exact .inr (.inl (hP _ _ h1))
  ·exact .inr (.inr ⟨h1,hP _ _ h2⟩)
 ·rw[hc];exact h.stat d (by rw[<- hct];exact e)
 ·rw[hc,hn];rcases h.root (by rw[<- hct];exact e) with h1|h1;·exact .inl ⟨by rw[hn];exact h1.1,by rw[hw];exact h1.2⟩
  ·exact .inr h1
 ·rw[hc];have h1:=h.rort (by rw[<- hct];exact e);exact⟨by rw[hn];exact h1.1,by rw[hw];exact h1.2⟩
theorem ProperN.cas{N:List Nv}{cs:List Int}{gen c o v:Int}(h:ProperN N cs gen)(lo:0<=v)(hi:v<=N.length):ProperN N (casL cs c o v) gen:=by
 unfold casL;split
 ·refine⟨h.two,h.gen0,h.m0,h.m1,λ i hi'=>?_,h.nodes,by rw[List.length_set];exact h.marks⟩;rw[List.length_set] at hi';rw[gdg,List.getElem?_set];split;·rw[if_pos (by omega)];exact⟨lo,by rw[List.length_map];exact hi⟩
  ·rw[<- gdg];exact h.cells i hi'
 ·exact h
structure SetOk(σ:Kw)(c o v:Int):Prop where
 lo:0<=v
 hi:v<=σ.len
 main:∀i,σ.ct c=.main i->IsM σ v (σ.way i) (σ.nd i).gen
 prev:∀m,σ.ct c=.prev m->MainK (σ.nd o)/\(v=0∨((σ.nd v).kind=7/\(σ.nd v).old=o))
 stat:∀d,σ.ct c=.stat d->v=0∨v=1∨v=2
 root:σ.ct c=.root->IsI σ v []∨(σ.nd v).kind=8
 rort:σ.ct c=.rort->IsI σ v []
def Kw.set(σ:Kw)(c o v:Int):Kw:=⟨⟨σ.mm.nodes,casL σ.mm.cs c o v,σ.mm.gen⟩,σ.way,σ.gb,σ.ct⟩
theorem set_okC{c o v:Int}(i:Inv H σ)(hk:CasOk σ.mm.cs c o)(hs:SetOk σ c o v):Le σ (σ.set c o v)/\Inv H (σ.set c o v)/\(σ.set c o v).ce c=v:=by
 unfold Kw.set;refine⟨?_,?_,by show cellV (casL _ _ _ _) c=v;rw[cellV_cas hk,if_pos rfl]⟩
 ·refine⟨⟨[],by simp⟩,by simp only[Kw.cl,casL_length];exact Nat.le_refl _,Int.le_refl _,λ _ _=>rfl,λ _ _=>rfl,λ _ _=>rfl,λ c' m h1 hc e hm=>?_,λ c' m h1 hc e hm=>?_⟩
  ·show cellV (casL _ _ _ _) c'=_;rw[cellV_cas hk];split;·rename_i e2;subst e2;exact absurd (by rw[show σ.ce c'=o from casOk_ce hk];exact(hs.prev m e).1) hm
   ·rfl
  ·show cellV (casL _ _ _ _) c'=_∨cellV (casL _ _ _ _) c'=_∨_;rw[cellV_cas hk];split
   ·rename_i e2;subst e2;have e3:σ.ce c'=o:=casOk_ce hk;rcases(hs.prev m e).2 with h|h
    ·exact .inr (.inl h)
    ·refine .inr (.inr ?_);show(ndAt σ.mm.nodes (cellV (casL _ _ _ _) c')).kind=7/\(ndAt σ.mm.nodes (cellV (casL _ _ _ _) c')).old=_;rw[cellV_cas hk,if_pos rfl,e3];exact h
   ·exact .inl rfl
 ·have hcl:(casL σ.mm.cs c o v).length=σ.cl:=casL_length;refine⟨i.two,i.m1,i.m2,i.gen,ProperN.cas i.prop hs.lo hs.hi,λ r h1 h2=>?_,λ c' h1 h2=>?_⟩;·have h:=i.nd r h1 h2;exact⟨h.valid,h.gen,by simp only[Kw.cl,hcl];exact h.bd,h.k2,h.k3,h.k4,h.k5,h.k6,h.k7,h.k8⟩
  ·simp only[Kw.cl,hcl] at h2;have hset:∀p,MainK (σ.nd p)->Settled σ p->cellV (casL σ.mm.cs c o v) (σ.nd p).prev=0:=λ p hm hp=>by
    rw[cellV_cas hk];split;·rename_i e;have hc:=(i.prevCell hm).2.2;rw[e] at hc;have h0:σ.ce (σ.nd p).prev=0:=hp;rw[e,show σ.ce c=o from casOk_ce hk] at h0;have:=(hs.prev p hc).1;rw[h0] at this;exact absurd this (mk_dec (.inl (nd_zero _)))
    ·exact hp
   by_cases e:c'=c
   ·subst e;have e2:cellV (casL σ.mm.cs c' o v) c'=v:=by rw[cellV_cas hk,if_pos rfl]
    have e3:σ.ce c'=o:=casOk_ce hk;refine⟨by simp only[Kw.ce,e2];exact hs.lo,by simp only[Kw.ce,e2];exact hs.hi,λ i' h=>?_,λ m h=>?_,λ d h=>?_,λ h=>?_,λ h=>?_⟩;·simp only[Kw.ce,e2];exact⟨((i.ce c' h1 h2).main i' h).1,hs.main i' h⟩
    ·simp only[Kw.ce,e2];have hp:=hs.prev m h;have hold:PrevM σ m o:=by
      rcases((i.ce c' h1 h2).prev m h).2 with h3|h3|h3
      ·rw[e3] at h3;rw[h3] at hp;exact absurd hp.1 (mk_dec (.inl (nd_zero _)))
      ·rwa [e3] at h3
      ·rw[e3] at h3;exact absurd hp.1 (mk_dec (.inr (.inl h3.1)))
     refine⟨((i.ce c' h1 h2).prev m h).1,?_⟩;rcases hp.2 with h3|⟨h3,h4⟩;·exact .inl h3
     ·refine .inr (.inr ⟨h3,?_⟩);show PrevM _ m (σ.nd v).old;rw[h4];exact⟨hold.1,hset _ hp.1 hold.2⟩
    ·simp only[Kw.ce,e2];exact hs.stat d h
    ·simp only[Kw.ce,e2];exact hs.root h
    ·simp only[Kw.ce,e2];exact hs.rort h
   ·exact(i.ce c' h1 h2).same rfl rfl rfl rfl (by show cellV (casL _ _ _ _) c'=_;rw[cellV_cas hk,if_neg e]) hset
structure Ext(σ υ:Kw):Prop where
 nodes:∃N,υ.mm.nodes=σ.mm.nodes++N
 cs:∃C,υ.mm.cs=σ.mm.cs++C
 gen:σ.mm.gen<=υ.mm.gen
 way:∀r:Int,r<=σ.len->υ.way r=σ.way r
 gb:∀r:Int,r<=σ.len->υ.gb r=σ.gb r
 ct:∀c:Int,c<=σ.cl->υ.ct c=σ.ct c
theorem cellV_app{cs C:List Int}{c:Int}(h:c<=cs.length):cellV (cs++C) c=cellV cs c:=by
 unfold cellV;by_cases h1:1<=c;·rw[if_pos ⟨h1,by simp;omega⟩,if_pos ⟨h1,h⟩,gdg,gdg,List.getElem?_append_left (by omega)]
 ·rw[if_neg (by omega),if_neg (by omega)]
theorem Ext.ce(e:Ext σ υ){c:Int}(h:c<=σ.cl):υ.ce c=σ.ce c:=by obtain⟨C,h2⟩:=e.cs;simp only[Kw.ce,h2];exact cellV_app h
theorem Ext.cl(e:Ext σ υ):σ.cl<=υ.cl:=by obtain⟨C,h2⟩:=e.cs;simp only[Kw.cl,h2,List.length_append];omega
theorem Ext.le(e:Ext σ υ):Le σ υ:=⟨e.nodes,e.cl,e.gen,e.way,e.gb,e.ct,λ _ _ _ h _ _=>e.ce h,λ _ _ _ h _ _=>.inl (e.ce h)⟩
theorem BrI.up{g b:Int}(h:BrI σ w g b)(l:Le σ υ):BrI υ w g b:=by
 rcases h with h|h;·have hr:=kind_in (N:=σ.mm.nodes) (i:=b) (by rw[h.1];decide);exact .inl (by rw[l.nd hr.2];exact h)
 ·have hr:=kind_in (N:=σ.mm.nodes) (i:=b) (by rw[h.1];decide);exact .inr (by rw[l.nd hr.2,l.way b hr.2];exact h)
theorem NdI.ext(h:NdI H σ r)(hr:r<=σ.len)(e:Ext σ υ):NdI H υ r:=by
 have l:=e.le;have hn:=l.nd hr;have hw:=l.way r hr;have hk:∀b,(σ.nd b).kind=2->(υ.nd b).kind=2:=λ b hb=>by rw[l.nd (kind_in (N:=σ.mm.nodes) (i:=b) (by rw[hb];decide)).2];exact hb
 refine⟨by rw[hn];exact h.valid,by rw[hn];have:=h.gen;have:=e.gen;omega,by rw[hn];exact h.bd.mono l.len l.cl,λ k=>?_,λ k=>?_,λ k=>?_,λ k=>?_,λ k=>?_,λ k=>?_,λ k=>?_⟩<;>rw[hn] at k ⊢;·obtain⟨h1,h2,h3⟩:=h.k2 k;exact⟨by rw[hw];exact h1,h2,by rw[l.ct _ h.bd.main];exact h3⟩
 ·obtain⟨h1,h2,h3,h4,h5⟩:=h.k3 k;rw[hw];refine⟨h1,λ k' b hb=>by rw[l.gb r hr];exact(h2 k' b hb).up l,λ h0=>⟨(h3 h0).1,λ b hb=>hk b ((h3 h0).2 b hb)⟩,h4,by rw[l.ct _ h.bd.prev];exact h5⟩
 ·exact h.k4 k
 ·rw[hw,l.ct _ h.bd.prev];exact h.k5 k
 ·rw[hw,l.ct _ h.bd.prev];exact h.k6 k
 ·have:=h.k7 k;rw[l.nd (mainK_in this).2];exact this
 ·obtain⟨h1,h2,h3,h4⟩:=h.k8 k;exact⟨h1.up l,h2.up l,h3,by rw[l.ct _ h.bd.status];exact h4⟩
theorem CeI.ext{c:Int}(i:Inv H σ)(h:CeI σ c)(hc:c<=σ.cl)(e:Ext σ υ):CeI υ c:=by
 have l:=e.le;have hv:=e.ce hc;have hP:∀m p:Int,m<=σ.len->PrevM σ m p->PrevM υ m p:=λ m p hm hp=>⟨by rw[l.way m hm,l.gb m hm];exact hp.1.up l,Settled.up i hp.1.1 hp.2 l⟩
 refine⟨by rw[hv];exact h.lo,by rw[hv];have:=h.hi;have:=l.len;omega,λ i' k=>?_,λ m k=>?_,λ d k=>?_,λ k=>?_,λ k=>?_⟩<;>rw[l.ct c hc] at k<;>rw[hv];·obtain⟨h1,h2⟩:=h.main i' k;have hr:=kind_in (N:=σ.mm.nodes) (i:=i') (by rw[h1];decide);rw[l.nd hr.2,l.way i' hr.2];exact⟨h1,h2.up l⟩
 ·obtain⟨h1,h2⟩:=h.prev m k;have hr:=mainK_in h1;rw[l.nd hr.2];refine⟨h1,?_⟩;rcases h2 with h2|h2|⟨h2,h3⟩;·exact .inl h2
  ·exact .inr (.inl (hP m _ hr.2 h2))
  ·refine .inr (.inr ?_);rw[l.nd h.hi];exact⟨h2,hP m _ hr.2 h3⟩
 ·exact h.stat d k
 ·rcases h.root k with h1|h1;·exact .inl (h1.up l)
  ·exact .inr (by rw[l.nd h.hi];exact h1)
 ·exact(h.rort k).up l
theorem ext_inv(i:Inv H σ)(e:Ext σ υ)(hp:ProperN υ.mm.nodes υ.mm.cs υ.mm.gen)(hn:∀r:Int,σ.len<r->r<=υ.len->NdI H υ r)(hc:∀c:Int,σ.cl<c->c<=υ.cl->CeI υ c):Inv H υ:=by
 have l:=e.le;refine⟨Nat.le_trans i.two l.len,by rw[l.nd (by have:=i.two;omega)];exact i.m1,by rw[l.nd (by have:=i.two;omega)];exact i.m2,Int.le_trans i.gen e.gen,hp,λ r h1 h2=>?_,λ c h1 h2=>?_⟩
 ·rcases Int.lt_or_le σ.len r with h|h;·exact hn r h h2
  ·exact(i.nd r h1 h).ext h e
 ·rcases Int.lt_or_le σ.cl c with h|h;·exact hc c h h2
  ·exact CeI.ext i (i.ce c h1 h) h e
def Kw.add(σ:Kw)(n:Nv)(i:Int)(w:List Nat)(g:Int)(t:CT):Kw :=⟨σ.mm.push n i,λ r=>if r<=σ.len then σ.way r else w,λ r=>if r<=σ.len then σ.gb r else g,λ c=>if c<=σ.cl then σ.ct c else t⟩
theorem add_ext(σ:Kw)(n:Nv)(i:Int)(w:List Nat)(g:Int)(t:CT):Ext σ (σ.add n i w g t) :=⟨⟨_,rfl⟩,by unfold Kw.add Mm.push alCs;dsimp only;split;exact⟨_,rfl⟩;exact⟨[],by simp⟩,Int.le_refl _,λ r hr=>if_pos hr,λ r hr=>if_pos hr,λ c hc=>if_pos hc⟩
theorem add_len(σ:Kw)(n:Nv)(i:Int)(w:List Nat)(g:Int)(t:CT):(σ.add n i w g t).len=σ.len+1:=by simp[Kw.len,Kw.add,Mm.push]
theorem add_nd(σ:Kw)(n:Nv)(i:Int)(w:List Nat)(g:Int)(t:CT):(σ.add n i w g t).nd ((σ.len+1:Nat):Int)=alNv n σ.cl:=by
 simp only[Kw.nd,Kw.add,Mm.push,ndAt,List.length_append,List.length_cons,List.length_nil];rw[if_pos ⟨by omega,by simp only[Kw.len];omega⟩];have e:(((σ.len+1:Nat):Int)-1).toNat=σ.mm.nodes.length:=by simp only[Kw.len];omega
 rw[e];simp[gdg]
theorem add_way(σ:Kw)(n:Nv)(i:Int)(w:List Nat)(g:Int)(t:CT):(σ.add n i w g t).way ((σ.len+1:Nat):Int)=w:=if_neg (by omega)
theorem add_gb(σ:Kw)(n:Nv)(i:Int)(w:List Nat)(g:Int)(t:CT):(σ.add n i w g t).gb ((σ.len+1:Nat):Int)=g:=if_neg (by omega)
theorem add_ct(σ:Kw)(n:Nv)(i:Int)(w:List Nat)(g:Int)(t:CT):(σ.add n i w g t).ct ((σ.cl+1:Nat):Int)=t:=if_neg (by omega)
theorem add_ce(σ:Kw){n:Nv}(i:Int)(w:List Nat)(g:Int)(t:CT)(h:n.kind=2∨n.kind=3∨n.kind=5∨n.kind=6∨n.kind=8):(σ.add n i w g t).cl=σ.cl+1/\(σ.add n i w g t).ce ((σ.cl+1:Nat):Int)=i:=by
 have e:(σ.add n i w g t).mm.cs=σ.mm.cs++[i]:=by simp only[Kw.add,Mm.push,alCs];exact if_pos h
 refine⟨by simp[Kw.cl,e],?_⟩;simp only[Kw.ce,e,cellV,List.length_append,List.length_cons,List.length_nil];rw[if_pos ⟨by omega,by simp only[Kw.cl];omega⟩];have e2:(((σ.cl+1:Nat):Int)-1).toNat=σ.mm.cs.length:=by simp only[Kw.cl];omega
 rw[e2];simp[gdg]
theorem add_cl0(σ:Kw){n:Nv}(i:Int)(w:List Nat)(g:Int)(t:CT)(h:¬(n.kind=2∨n.kind=3∨n.kind=5∨n.kind=6∨n.kind=8)):(σ.add n i w g t).cl=σ.cl:=by
 have e:(σ.add n i w g t).mm.cs=σ.mm.cs:=by simp only[Kw.add,Mm.push,alCs];exact if_neg h
 simp[Kw.cl,e]
theorem add_inv{n:Nv}{i:Int}{g:Int}{t:CT}(h:Inv H σ)(hok:NdOk σ.mm.gen (σ.len+1) (alNv n σ.cl).dv)(hi:Ins i σ.len)(hn:NdI H (σ.add n i w g t) ((σ.len+1:Nat):Int))(hc:(σ.add n i w g t).cl=σ.cl+1->CeI (σ.add n i w g t) ((σ.cl+1:Nat):Int))(hcl:(σ.add n i w g t).cl<=σ.cl+1):Inv H (σ.add n i w g t):=by
 refine ext_inv h (add_ext σ n i w g t) (ProperN.push h.prop hok hi) (λ r h1 h2=>?_) (λ c h1 h2=>?_);·rw[add_len] at h2;rw[show r=((σ.len+1:Nat):Int) by omega];exact hn
 ·rw[show c=((σ.cl+1:Nat):Int) by omega];exact hc (by omega)
end
end
end Go.Proofs.YtdnklbipddigbaaGreat
