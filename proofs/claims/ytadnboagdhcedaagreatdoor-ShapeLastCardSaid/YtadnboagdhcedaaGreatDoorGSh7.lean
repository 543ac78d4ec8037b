/- The program's shape, part 1: nodes, main nodes. -/
import Derived.Test.YtadnboagdhcedaaGreatDoorGSh6
import Derived.Test.YtadnboagdhcedaaGreatDoorGSh24
import Derived.Test.YtadnboagdhcedaaGreatDoorGJoin
import Derived.Test.YtadnboagdhcedaaGreatDoorGArS

set_option linter.unusedSimpArgs false
set_option linter.unusedVariables false
namespace Go.Proofs.YtadnboagdhcedaaGreatDoor
section
open Go Go.RowKit Go.Ct
section
variable{L:List aK}{cs:List Int}{gen:Int}{m:Nat}{pn pc:Option Addr}{cn cc:Nat}{w:World}{D:List Nat}{b:Nat}
abbrev jN(L:List aK)(cs:List Int)(gen:Int)(m:Nat)(pn:Option Addr)(cn:Nat)(pc:Option Addr)(cc:Nat):Obj:=.cells ⟨[.slice pn L.length cn,.slice pc cs.length cc,.int .i64 gen,.int .u64 ((m:Nat):Int)]⟩ 87 (0,0)
abbrev uK(L:List aK)(cs:List Int)(pn pc:Option Addr):Fr:=(pn,jC L)::(pc,aG cs)::(some ⟨0,0,none⟩,mR gY)::aY L
theorem jK(hs:SF w D [(b,jN L cs gen m pn cn pc cc)] (uK L cs pn pc) [] [] w){k:Nat}(hk:k<L.length)(hl:L.length<=274877906944):Calls Tryz.prog 36 #[.pointer (some ⟨b,0,none⟩),.int .i64 ((k+1:Nat):Int)] w λ e w'=>∃q:Unit,e=.returned (aA L ((k+1:Nat):Int)).nd.v/\True/\SF w D [(b,jN L cs gen m pn cn pc cc)] [] [] [] w':=by
 refine enter Tryz.func36 Tryz.ntmps36 rfl rfl hs ?_
 simp only[cR]
 refine J0 ?_;refine aP (λ x4=>?_);refine aI ?_;refine E0 ?_;refine J3 ?_;refine aB ?_;refine oP ?_;refine Ue ?_;refine J5 ?_
 refine bJ Tryz.results36 (λ w hw=>?_)
 exact⟨(),by rw[fH (by omega)];rfl,trivial,hw.aU⟩
def z0(L:List aK)(cs:List Int)(v:Nd)(r:Nat):Prop:=∃c k p:Nat,v.main=((c+1:Nat):Int)/\c<cs.length/\cs.getD c 0=((k+1:Nat):Int)/\k<L.length/\(aA L ((k+1:Nat):Int)).nd.prev=((p+1:Nat):Int)/\p<cs.length /\
 ((cs.getD p 0=0/\r=k)∨∃q:Nat,cs.getD p 0=((q+1:Nat):Int)/\q<L.length/\(((aA L ((q+1:Nat):Int)).nd.kind=7/\(aA L ((q+1:Nat):Int)).nd.bL=((r+1:Nat):Int))∨((aA L ((q+1:Nat):Int)).nd.kind≠7/\r=q)))
set_option maxRecDepth 100000 in
theorem xB(hs:SF w D [(b,jN L cs gen m pn cn pc cc)] (uK L cs pn pc) [] [] w){v:Nd}{r:Nat}(ho:z0 L cs v r)(hr:r<L.length)(hl:L.length<=274877906944)(hc:cs.length<=274877906944):Calls Tryz.prog 38 #[.pointer (some ⟨b,0,none⟩),v.v] w λ e w'=>∃q:Unit,e=.returned (aA L ((r+1:Nat):Int)).nd.v/\True/\SF w D [(b,jN L cs gen m pn cn pc cc)] [] [] [] w':=by
  obtain⟨c,k,p,hv,hc1,e1,hk,e2,hp,h3⟩:=ho
  refine enter Tryz.func38 Tryz.ntmps38 rfl rfl hs ?_
  simp only[cR]
  simp only[Nd.v,Nd.cells]
  refine J0 ?_;refine bP (λ x3=>?_);refine aP (λ x4=>?_);refine Xs ?_
  refine eL [5,8,9,10,11,12,13,14,15,16,17,18,19] (λ j:Nat=>[(5,.pointer (some ⟨j,0,none⟩))]) (λ _=>True) (λ j=>[(j,.cells ⟨(aA L ((k+1:Nat):Int)).nd.cells⟩ 77 (0,0)),(x4,.cells ⟨Nd.zero.cells⟩ 77 (0,0)),(x3,.cells ⟨v.cells⟩ 77 (0,0)),(b,jN L cs gen m pn cn pc cc)]) (λ _=>[]) (λ _=>[]) (by decide) (λ _=>by exact rfl) ?_ (λ j f hx=>?_)
  · refine gV (.one 0 [] (.one 1 [] (.one 2 [] (.one 3 [] (.one 4 [] (.one 5 [] (.one 6 [] (.one 7 [] (.one 8 [] (.one 9 [] (.one 10 [] (.two 11 [] (.one 12 [5,7,9,10] (.one 13 [] .nil)) 0 [] (.two 12 [5,7,9,10] (.one 11 [] (.one 13 [] .nil)) 0 [] .nil))))))))))))) ?_
    refine aT ?_;refine tA ?_;refine lR ?_;refine vG ?_;refine bM (i:=9) (hq:=(bX (k:=c) rf (by rw[show((c:Nat):Int)=v.main-1 by omega];exact rfl) fK wn (.bL (.tail .head)) hc1 hc1)) (h:=?_);refine bM (i:=10) (hq:=(cP (lst:=cs) (q:=c) rf wn (.bL (.tail .head)) hc1)) (h:=?_)
    refine kH (E:=[11,12]) (by decide +kernel) ((.cons ?_ (.cons ?_ .nil)))
    · refine qB (i:=11) (hq:=(cM (V:=λ _:Unit=>(aA L ((k+1:Nat):Int)).nd.v) (hs:=[(b,jN L cs gen m pn cn pc cc)]) (os:=[]) (hs':=λ _=>[(b,jN L cs gen m pn cn pc cc)]) (os':=λ _=>[]) (Fc:=λ _=>[]) (A0:=uK L cs pn pc) (hA:=bT.of λ f hf=>.inr (.inl hf)) (hc:=λ w1 hw=>by rw[e1];exact jK hw hk hl))) (h:=λ x19 h19=>?_)
      refine fS (hfire:=(λ _=>by((repeat (first|exact aM.nil|refine aM.cons (by first|exact eT|exact eI (hq:=bX (k:=c) rf (by rw[show((c:Nat):Int)=v.main-1 by omega];exact rfl) fK wn (.bL (.tail .head)) hc1 hc1)) ?_));done))) (h:=λ x5=>?_);refine Ei ?_
      refine gA (x5) ?_ (hw1:=λ w hw=>hw)
      · trivial
    · refine jL (i:=12) (hfire:=(λ _=>by((repeat (first|exact aM.nil|refine aM.cons (by first|exact eT|exact eI (hq:=bX (k:=c) rf (by rw[show((c:Nat):Int)=v.main-1 by omega];exact rfl) fK wn (.bL (.tail .head)) hc1 hc1)) ?_));done))) (h:=λ x5=>?_)
      refine bS (i:=11) (hq:=(cM (V:=λ _:Unit=>(aA L ((k+1:Nat):Int)).nd.v) (hs:=[(b,jN L cs gen m pn cn pc cc)]) (os:=[]) (hs':=λ _=>[(b,jN L cs gen m pn cn pc cc)]) (os':=λ _=>[]) (Fc:=λ _=>[]) (A0:=uK L cs pn pc) (hA:=bT.of λ f hf=>.inr (.inl hf)) (hc:=λ w1 hw=>by rw[e1];exact jK hw hk hl))) (h:=λ x19 h19=>?_);refine Ei ?_
      refine gA (x5) ?_ (hw1:=λ w hw=>hw)
      · trivial
  dsimp only[gG,List.map,List.cons_append,List.nil_append]
  refine aS ?_;refine gB [0,1,2,3,4,5,6,7,8,9,10] ?_;refine tA ?_;refine lR ?_;refine vG ?_;refine bM (i:=8) (hq:=(bX (k:=p) rf (by rw[show((p:Nat):Int)=(aA L ((k+1:Nat):Int)).nd.prev-1 by omega];exact rfl) fK wn (.bL (.tail .head)) hp hp)) (h:=?_);refine bM (i:=9) (hq:=(cP (lst:=cs) (q:=p) rf wn (.bL (.tail .head)) hp)) (h:=?_);refine J7 ?_;refine kT ?_;refine rR ?_
  refine aZ (λ c31=>?_) (λ c31=>?_)
  · try (exfalso;omega)
    have hrk:r=k:=by
     rcases h3 with⟨_,h⟩|⟨q,h,_⟩
     · exact h
     · omega
    refine Kb1 ?_
    refine bJ Tryz.results38 (λ w hw=>?_)
    first
    | (subst hrk;exact⟨(),rfl,trivial,hw.aU⟩)
    | (subst hrq;exact⟨(),rfl,trivial,hw.aU⟩)
    | exact⟨(),rfl,trivial,hw.aU⟩
  · try (exfalso;omega)
    obtain⟨q,hq,hql,h4⟩:=h3.resolve_left (λ h=>c31 h.1)
    refine yT ?_;refine aC (cM (V:=λ _:Unit=>(aA L ((q+1:Nat):Int)).nd.v) (hs:=[(b,jN L cs gen m pn cn pc cc)]) (os:=[]) (hs':=λ _=>[(b,jN L cs gen m pn cn pc cc)]) (os':=λ _=>[]) (Fc:=λ _=>[]) (A0:=uK L cs pn pc) (hA:=bT.of λ f hf=>.inr (.inl hf)) (hc:=λ w1 hw=>by rw[hq];exact jK hw hql hl)) (λ x35 h35=>?_);refine aP (λ x7=>?_);refine J5 ?_;refine yU ?_;refine rR ?_
    refine aZ (λ c38=>?_) (λ c38=>?_)
    · try (exfalso;omega)
      have hold:=(h4.resolve_right (λ h=>h.1 c38)).2
      refine J2 ?_;refine J3 ?_;refine aC (cM (V:=λ _:Unit=>(aA L ((r+1:Nat):Int)).nd.v) (hs:=[(b,jN L cs gen m pn cn pc cc)]) (os:=[]) (hs':=λ _=>[(b,jN L cs gen m pn cn pc cc)]) (os':=λ _=>[]) (Fc:=λ _=>[]) (A0:=uK L cs pn pc) (hA:=bT.of λ f hf=>.inr (.inl hf)) (hc:=λ w1 hw=>by rw[hold];exact jK hw hr hl)) (λ x42 h42=>?_);refine J5 ?_
      refine bJ Tryz.results38 (λ w hw=>?_)
      first
      | (subst hrk;exact⟨(),rfl,trivial,hw.aU⟩)
      | (subst hrq;exact⟨(),rfl,trivial,hw.aU⟩)
      | exact⟨(),rfl,trivial,hw.aU⟩
    · try (exfalso;omega)
      have hrq:=(h4.resolve_left (λ h=>c38 h.1)).2
      refine bA ?_;refine Kb1 ?_
      refine bJ Tryz.results38 (λ w hw=>?_)
      first
      | (subst hrk;exact⟨(),rfl,trivial,hw.aU⟩)
      | (subst hrq;exact⟨(),rfl,trivial,hw.aU⟩)
      | exact⟨(),rfl,trivial,hw.aU⟩
end
end

/- Tries of worlds: what holds of every memory that results from operations, and what never changes. -/
section
open Go.Ct
inductive CT where
 | no
 | main (i:Int)
 | prev (m:Int)
 | stat (d:Int)
 | root
 | rort
structure Kw where
 mm:Mm
 way:Int->List Nat
 gb:Int->Int
 ct:Int->CT
abbrev Kw.nd(σ:Kw)(r:Int):Nv:=cD σ.mm.nodes r
abbrev Kw.ce(σ:Kw)(c:Int):Int:=bW σ.mm.cs c
abbrev Kw.len(σ:Kw):Nat:=σ.mm.nodes.length
abbrev Kw.cl(σ:Kw):Nat:=σ.mm.cs.length
def fO(h:Nat)(w:List Nat):Prop:=∀k,k<w.length->sl h k=w.getD k 0
def rI(σ:Kw)(i:Int)(w:List Nat):Prop:=(σ.nd i).kind=2/\σ.way i=w
def lP(σ:Kw)(m:Int)(w:List Nat)(g:Int):Prop:=bU (σ.nd m)/\σ.way m=w/\σ.gb m<=g
def aV(σ:Kw)(m:Int):Prop:=σ.ce (σ.nd m).prev=0
def nU(σ:Kw)(m p:Int):Prop:=lP σ p (σ.way m) (σ.gb m)/\aV σ p
def Hy(σ:Kw)(w:List Nat)(g b:Int):Prop:=((σ.nd b).kind=4/\fO (σ.nd b).hash.toNat w)∨((σ.nd b).kind=2/\σ.way b=w/\(σ.nd b).gen<=g)
structure mv(H:ByteArray->Nat)(σ:Kw)(r:Int):Prop where
 valid:bY (σ.nd r).nd (σ.nd r).xs (σ.nd r).ys
 gen:(σ.nd r).gen<=σ.mm.gen
 bd:nE σ.len σ.cl (σ.nd r)
 k2:(σ.nd r).kind=2->(σ.way r).length<=11/\1<=(σ.nd r).main/\σ.ct (σ.nd r).main=.main r
 k3:(σ.nd r).kind=3->(σ.way r).length<=10/\(∀k:Nat,∀b,jF (σ.nd r) k=some b->Hy σ (σ.way r++[k]) (σ.gb r) b)/\(0<(σ.way r).length->(σ.nd r).xs≠[]/\∀b,(σ.nd r).xs=[b]->(σ.nd b).kind=2)/\1<=(σ.nd r).prev/\σ.ct (σ.nd r).prev=.prev r
 k4:(σ.nd r).kind=4->H (σ.nd r).key=(σ.nd r).hash.toNat
 k5:(σ.nd r).kind=5->0<(σ.way r).length/\(σ.way r).length<=11/\H (σ.nd r).key=(σ.nd r).hash.toNat/\fO (σ.nd r).hash.toNat (σ.way r)/\1<=(σ.nd r).prev/\σ.ct (σ.nd r).prev=.prev r
 k6:(σ.nd r).kind=6->(σ.way r).length=11/\fO (σ.nd r).hash.toNat (σ.way r)/\(∀p∈(σ.nd r).ys,H p.1=(σ.nd r).hash.toNat)/\1<=(σ.nd r).prev/\σ.ct (σ.nd r).prev=.prev r
 k7:(σ.nd r).kind=7->bU (σ.nd (σ.nd r).bL)
 k8:(σ.nd r).kind=8->rI σ (σ.nd r).bL []/\rI σ (σ.nd r).new []/\1<=(σ.nd r).status/\σ.ct (σ.nd r).status=.stat r
structure Z3(σ:Kw)(c:Int):Prop where
 lo:0<=σ.ce c
 hi:σ.ce c<=σ.len
 main:∀i,σ.ct c=.main i->(σ.nd i).kind=2/\lP σ (σ.ce c) (σ.way i) (σ.nd i).gen
 prev:∀m,σ.ct c=.prev m->bU (σ.nd m)/\(σ.ce c=0∨nU σ m (σ.ce c)∨((σ.nd (σ.ce c)).kind=7/\nU σ m (σ.nd (σ.ce c)).bL))
 stat:∀d,σ.ct c=.stat d->σ.ce c=0∨σ.ce c=1∨σ.ce c=2
 root:σ.ct c=.root->rI σ (σ.ce c) []∨(σ.nd (σ.ce c)).kind=8
 rort:σ.ct c=.rort->rI σ (σ.ce c) []
structure Inv(H:ByteArray->Nat)(σ:Kw):Prop where
 two:2<=σ.len
 m1:(σ.nd 1).kind=1
 m2:(σ.nd 2).kind=1
 gen:0<=σ.mm.gen
 prop:dX σ.mm.nodes σ.mm.cs σ.mm.gen
 nd:∀r:Int,1<=r->r<=σ.len->mv H σ r
 ce:∀c:Int,1<=c->c<=σ.cl->Z3 σ c
structure Le(σ τ:Kw):Prop where
 nodes:∃N,τ.mm.nodes=σ.mm.nodes++N
 cl:σ.cl<=τ.cl
 gen:σ.mm.gen<=τ.mm.gen
 way:∀r:Int,r<=σ.len->τ.way r=σ.way r
 gb:∀r:Int,r<=σ.len->τ.gb r=σ.gb r
 ct:∀c:Int,c<=σ.cl->τ.ct c=σ.ct c
 done:∀(c m:Int),1<=c->c<=σ.cl->σ.ct c=.prev m->¬bU (σ.nd (σ.ce c))->τ.ce c=σ.ce c
 next:∀(c m:Int),1<=c->c<=σ.cl->σ.ct c=.prev m->bU (σ.nd (σ.ce c))->τ.ce c=σ.ce c∨τ.ce c=0∨((τ.nd (τ.ce c)).kind=7/\(τ.nd (τ.ce c)).bL=σ.ce c)
theorem Le.refl(σ:Kw):Le σ σ:=⟨⟨[],by simp⟩,Nat.le_refl _,Int.le_refl _,λ _ _=>rfl,λ _ _=>rfl,λ _ _=>rfl,λ _ _ _ _ _ _=>rfl,λ _ _ _ _ _ _=>.inl rfl⟩
section
variable{H:ByteArray->Nat}{σ τ υ:Kw}
theorem Le.len(h:Le σ τ):σ.len<=τ.len:=by obtain⟨N,e⟩:=h.nodes;simp only[Kw.len,e,List.length_append];omega
theorem Le.nd(h:Le σ τ){r:Int}(hr:r<=σ.len):τ.nd r=σ.nd r:=by obtain⟨N,e⟩:=h.nodes;simp only[Kw.nd,e];exact Kz hr
theorem gC{N:List Nv}{r:Int}(h:bU (cD N r)):1<=r/\r<=N.length:=cY (by unfold bU at h;omega)
theorem bU.ne0{n:Nv}(h:bU n):n.kind≠0/\n.kind≠7/\n.kind≠2/\n.kind≠8:=by unfold bU at h;omega
theorem iA{n:Nv}(h:n.kind=0∨n.kind=7∨n.kind=2∨n.kind=8∨n.kind=1):¬bU n:=λ hm=>by unfold bU at hm;omega
theorem uO(N:List Nv):(cD N 0).kind=0:=by unfold cD;rw[if_neg (by omega)];rfl
def Nxt(σ τ:Kw)(v v':Int):Prop:=(¬bU (σ.nd v)->v'=v)/\(bU (σ.nd v)->v'=v∨v'=0∨((τ.nd v').kind=7/\(τ.nd v').bL=v))
theorem Le.nxt(h:Le σ τ){c m:Int}(h1:1<=c)(hc:c<=σ.cl)(e:σ.ct c=.prev m):Nxt σ τ (σ.ce c) (τ.ce c):=⟨h.done c m h1 hc e,h.next c m h1 hc e⟩
theorem Le.trans(i1:Inv H σ)(i2:Inv H τ)(h:Le σ τ)(h2:Le τ υ):Le σ υ:=by
 have hl:=h.len
 have hl2:=h2.len
 refine⟨?_,Nat.le_trans h.cl h2.cl,Int.le_trans h.gen h2.gen,λ r hr=>(h2.way r (by omega)).trans (h.way r hr),λ r hr=>(h2.gb r (by omega)).trans (h.gb r hr),λ c hc=>(h2.ct c (by have:=h.cl;omega)).trans (h.ct c hc),λ c m h1 hc e hk=>?_,λ c m h1 hc e hk=>?_⟩
 ·obtain⟨N,e⟩:=h.nodes
  obtain⟨N2,e2⟩:=h2.nodes
  exact⟨N++N2,by rw[e2,e,List.append_assoc]⟩
 ·have e1:=h.done c m h1 hc e hk
  have e2:τ.ct c=.prev m:=(h.ct c hc).trans e
  rw[<- e1]
  refine h2.done c m h1 (by have:=h.cl;omega) e2 ?_
  rw[e1,h.nd (i1.ce c h1 hc).hi]
  exact hk
 ·have e2:τ.ct c=.prev m:=(h.ct c hc).trans e
  have hc2:c<=τ.cl:=by have:=h.cl;omega
  rcases h.next c m h1 hc e hk with e1|e1|⟨e1,e3⟩
  ·rw[<- e1]
   refine h2.next c m h1 hc2 e2 ?_
   rw[e1,h.nd (i1.ce c h1 hc).hi]
   exact hk
  ·refine .inr (.inl ?_)
   rw[h2.done c m h1 hc2 e2 (by rw[e1];exact iA (.inl (uO _))),e1]
  ·refine .inr (.inr ?_)
   rw[h2.done c m h1 hc2 e2 (iA (.inr (.inl e1))),h2.nd (i2.ce c h1 hc2).hi]
   exact⟨e1,e3⟩
def WT(H:ByteArray->Nat)(Q:Rs->Kw->Prop):Tr->Kw->Prop
 | .done r,σ=>Q r σ
 | .load c k,σ=>∀τ,Le σ τ->Inv H τ->WT H Q (k (τ.ce c)) τ
 | .nW c o n k,σ=>∀τ,Le σ τ->Inv H τ->(iG τ.mm.cs c o->∃υ,Le τ υ/\Inv H υ/\υ.mm=⟨τ.mm.nodes,fU τ.mm.cs c o n,τ.mm.gen⟩/\WT H Q (k true) υ)/\(¬iG τ.mm.cs c o->WT H Q (k false) τ)
 | .alloc n i k,σ=>∃υ,Le σ υ/\Inv H υ/\υ.mm=σ.mm.push n i/\WT H Q (k ((σ.len+1:Nat):Int)) υ
 | .cell i k,σ=>∃υ,Le σ υ/\Inv H υ/\υ.mm=⟨σ.mm.nodes,σ.mm.cs++[i],σ.mm.gen⟩/\WT H Q (k ((σ.cl+1:Nat):Int)) υ
 | .gen k,σ=>∃υ,Le σ υ/\Inv H υ/\υ.mm=⟨σ.mm.nodes,σ.mm.cs,σ.mm.gen+1⟩/\WT H Q (k (σ.mm.gen+1)) υ
 | .node r k,σ=>r<=σ.len/\WT H Q (k (σ.nd r)) σ
 | .stuck,_=>True
def oY:Tr->Bool
 | .load _ _=>true
 | .nW _ _ _ _=>true
 | .done _=>true
 | _=>false
theorem WT.sp{Q:Rs->Kw->Prop}{t t':Tr}{s':Mm}(i1:Inv H σ)(w:WT H Q t σ)(h:Sp t σ.mm t' s'):∃υ,Le σ υ/\Inv H υ/\υ.mm=s'/\WT H Q t' υ:=by
 cases h with
 | alloc n i k s=>exact w
 | cell i k s=>exact w
 | gen k s=>exact w
 | node r k s h=>exact⟨σ,Le.refl σ,i1,rfl,w.2⟩
theorem WT.lp{Q:Rs->Kw->Prop}{t t':Tr}{s':Mm}(i1:Inv H σ)(w:WT H Q t σ)(h:Lp t σ.mm t' s'):∃υ,Le σ υ/\Inv H υ/\υ.mm=s'/\WT H Q t' υ:=by
 cases h with
 | load c k s=>exact⟨σ,Le.refl σ,i1,rfl,w σ (Le.refl σ) i1⟩
 | nW c o n k s b hb =>
  obtain⟨w1,w2⟩:=w σ (Le.refl σ) i1
  cases b with
  | true=>exact w1 (hb.1 rfl)
  | false =>
   have hn:¬iG σ.mm.cs c o:=λ h=>by have:=hb.2 h;cases this
   refine⟨σ,Le.refl σ,i1,?_,w2 hn⟩
   rw[show fU σ.mm.cs c o n=σ.mm.cs from wJ hn]
theorem WT.rc{Q:Rs->Kw->Prop}{t:Tr}{s:Mm}{j:Nat}{t':Tr}{s':Mm}(h:Rc j t s t' s'):∀{σ:Kw},σ.mm=s->Inv H σ->WT H Q t σ->∃υ,Le σ υ/\Inv H υ/\υ.mm=s'/\WT H Q t' υ:=by
 induction h with
 | refl t s=>intro σ e i w;exact⟨σ,Le.refl σ,i,e,w⟩
 | sG _ hs ih =>
  intro σ e i w
  obtain⟨υ,l1,i1,e1,w1⟩:=ih e i w
  subst e1
  obtain⟨ρ,l2,i2,e2,w2⟩:=w1.sp i1 hs
  exact⟨ρ,l1.trans i i1 l2,i2,e2,w2⟩
 | loud _ hs ih =>
  intro σ e i w
  obtain⟨υ,l1,i1,e1,w1⟩:=ih e i w
  subst e1
  obtain⟨ρ,l2,i2,e2,w2⟩:=w1.lp i1 hs
  exact⟨ρ,l1.trans i i1 l2,i2,e2,w2⟩
end
end

/- Tries of worlds: a cell is set; nodes and cells are added. -/
section
open Go.Ct
section
variable{H:ByteArray->Nat}{σ τ υ:Kw}{r:Int}{w:List Nat}
theorem iS{cs:List Int}{c o v:Int}(h:iG cs c o)(c':Int):bW (fU cs c o v) c'=if c'=c then v else bW cs c':=by
 have hl:=jX (cs:=cs) (c:=c) (bL:=o) (new:=v)
 obtain⟨h1,h2,h3⟩:=h
 have e:fU cs c o v=cs.set (c-1).toNat v:=if_pos ⟨h1,h2,h3⟩
 unfold bW
 rw[hl]
 by_cases hc:1<=c'/\c'<=cs.length
 ·rw[if_pos hc,if_pos hc,e]
  by_cases e2:c'=c
  ·subst e2
   rw[if_pos rfl]
   rw[fQ,List.getElem?_set,if_pos rfl,if_pos (by omega)]
   rfl
  ·rw[if_neg e2]
   rw[fQ,List.getElem?_set,if_neg (by omega),fQ]
 ·rw[if_neg hc,if_neg hc,if_neg (by omega)]
theorem sK{cs:List Int}{c o:Int}(h:iG cs c o):bW cs c=o:=by
 obtain⟨h1,h2,h3⟩:=h
 unfold bW
 rw[if_pos ⟨h1,h2⟩,h3]
theorem rI.in(h:rI σ r w):1<=r/\r<=σ.len:=cY (by rw[h.1];decide)
theorem lP.in{g:Int}(h:lP σ r w g):1<=r/\r<=σ.len:=gC h.1
theorem Inv.iK(i:Inv H σ){m:Int}(h:bU (σ.nd m)):1<=(σ.nd m).prev/\(σ.nd m).prev<=σ.cl/\σ.ct (σ.nd m).prev=.prev m:=by
 have hr:=gC h
 have hn:=i.nd m hr.1 hr.2
 have hb:=hn.bd.prev
 rcases h with h|h|h
 ·have:=hn.k3 h;exact⟨this.2.2.2.1,hb,this.2.2.2.2⟩
 ·have:=hn.k5 h;exact⟨this.2.2.2.2.1,hb,this.2.2.2.2.2⟩
 ·have:=hn.k6 h;exact⟨this.2.2.2.1,hb,this.2.2.2.2⟩
theorem Inv.dI(i:Inv H σ){r:Int}(h:(σ.nd r).kind=2):1<=(σ.nd r).main/\(σ.nd r).main<=σ.cl/\σ.ct (σ.nd r).main=.main r:=by
 have hr:=cY (N:=σ.mm.nodes) (i:=r) (by rw[h];decide)
 have hn:=i.nd r hr.1 hr.2
 exact⟨(hn.k2 h).2.1,hn.bd.main,(hn.k2 h).2.2⟩
theorem Inv.Va(i:Inv H σ){r:Int}(h:(σ.nd r).kind=8):1<=(σ.nd r).status/\(σ.nd r).status<=σ.cl/\σ.ct (σ.nd r).status=.stat r:=by
 have hr:=cY (N:=σ.mm.nodes) (i:=r) (by rw[h];decide)
 have hn:=i.nd r hr.1 hr.2
 exact⟨(hn.k8 h).2.2.1,hn.bd.status,(hn.k8 h).2.2.2⟩
theorem rI.up(h:rI σ r w)(l:Le σ τ):rI τ r w:=by
 have hr:=h.in
 exact⟨by rw[l.nd hr.2];exact h.1,by rw[l.way r hr.2];exact h.2⟩
theorem lP.up{g:Int}(h:lP σ r w g)(l:Le σ τ):lP τ r w g:=by
 have hr:=h.in
 exact⟨by rw[l.nd hr.2];exact h.1,by rw[l.way r hr.2];exact h.2.1,by rw[l.gb r hr.2];exact h.2.2⟩
theorem lP.le{g g':Int}(h:lP σ r w g)(hg:g<=g'):lP σ r w g':=⟨h.1,h.2.1,Int.le_trans h.2.2 hg⟩
theorem aV.up(i:Inv H σ)(hm:bU (σ.nd r))(h:aV σ r)(l:Le σ τ):aV τ r:=by
 have hc:=i.iK hm
 unfold aV
 rw[l.nd (gC hm).2,l.done _ r hc.1 hc.2.1 hc.2.2 (by rw[h];exact iA (.inl (uO _)))]
 exact h
theorem Z3.same{c:Int}(h:Z3 σ c)(hm:υ.mm.nodes=σ.mm.nodes)(hw:υ.way=σ.way)(hg:υ.gb=σ.gb)(hct:υ.ct=σ.ct)(hc:υ.ce c=σ.ce c)(hs:∀p,bU (σ.nd p)->aV σ p->aV υ p):Z3 υ c:=by
 have hl:υ.len=σ.len:=by simp only[Kw.len,hm]
 have hn:∀r,υ.nd r=σ.nd r:=λ r=>by simp only[Kw.nd,hm]
 have hM:∀p w g,lP σ p w g->lP υ p w g:=λ p w g h=>⟨by rw[hn];exact h.1,by rw[hw];exact h.2.1,by rw[hg];exact h.2.2⟩
 have hP:∀m p,nU σ m p->nU υ m p:=λ m p h=>⟨by rw[hw,hg];exact hM _ _ _ h.1,hs p h.1.1 h.2⟩
 refine⟨by rw[hc];exact h.lo,by rw[hc,hl];exact h.hi,λ i e=>?_,λ m e=>?_,λ d e=>?_,λ e=>?_,λ e=>?_⟩
 ·rw[hc,hw,hn]
  obtain⟨h0,h1⟩:=h.main i (by rw[<- hct];exact e)
  exact⟨h0,hM _ _ _ h1⟩
 ·rw[hc,hn,hn]
  obtain⟨h0,h⟩:=h.prev m (by rw[<- hct];exact e)
  refine⟨h0,?_⟩
  rcases h with h1|h1|⟨h1,h2⟩
  ·exact .inl h1
  ·exact .inr (.inl (hP _ _ h1))
  ·exact .inr (.inr ⟨h1,hP _ _ h2⟩)
 ·rw[hc];exact h.stat d (by rw[<- hct];exact e)
 ·rw[hc,hn]
  rcases h.root (by rw[<- hct];exact e) with h1|h1
  ·exact .inl ⟨by rw[hn];exact h1.1,by rw[hw];exact h1.2⟩
  ·exact .inr h1
 ·rw[hc]
  have h1:=h.rort (by rw[<- hct];exact e)
  exact⟨by rw[hn];exact h1.1,by rw[hw];exact h1.2⟩
theorem dX.nW{N:List Nv}{cs:List Int}{gen c o v:Int}(h:dX N cs gen)(lo:0<=v)(hi:v<=N.length):dX N (fU cs c o v) gen:=by
 unfold fU
 split
 ·refine⟨h.two,h.gen0,h.m0,h.m1,λ i hi'=>?_,h.nodes,by rw[List.length_set];exact h.marks⟩
  rw[List.length_set] at hi'
  rw[fQ,List.getElem?_set]
  split
  ·rw[if_pos (by omega)]
   exact⟨lo,by rw[List.length_map];exact hi⟩
  ·rw[<- fQ]
   exact h.cells i hi'
 ·exact h
structure Rm(σ:Kw)(c o v:Int):Prop where
 lo:0<=v
 hi:v<=σ.len
 main:∀i,σ.ct c=.main i->lP σ v (σ.way i) (σ.nd i).gen
 prev:∀m,σ.ct c=.prev m->bU (σ.nd o)/\(v=0∨((σ.nd v).kind=7/\(σ.nd v).bL=o))
 stat:∀d,σ.ct c=.stat d->v=0∨v=1∨v=2
 root:σ.ct c=.root->rI σ v []∨(σ.nd v).kind=8
 rort:σ.ct c=.rort->rI σ v []
def Kw.set(σ:Kw)(c o v:Int):Kw:=⟨⟨σ.mm.nodes,fU σ.mm.cs c o v,σ.mm.gen⟩,σ.way,σ.gb,σ.ct⟩
theorem bo{c o v:Int}(i:Inv H σ)(hk:iG σ.mm.cs c o)(hs:Rm σ c o v):Le σ (σ.set c o v)/\Inv H (σ.set c o v)/\(σ.set c o v).ce c=v:=by
 unfold Kw.set
 refine⟨?_,?_,by show bW (fU _ _ _ _) c=v;rw[iS hk,if_pos rfl]⟩
 ·refine⟨⟨[],by simp⟩,by simp only[Kw.cl,jX];exact Nat.le_refl _,Int.le_refl _,λ _ _=>rfl,λ _ _=>rfl,λ _ _=>rfl,λ c' m h1 hc e hm=>?_,λ c' m h1 hc e hm=>?_⟩
  ·show bW (fU _ _ _ _) c'=_
   rw[iS hk]
   split
   ·rename_i e2
    subst e2
    exact absurd (by rw[show σ.ce c'=o from sK hk];exact(hs.prev m e).1) hm
   ·rfl
  ·show bW (fU _ _ _ _) c'=_∨bW (fU _ _ _ _) c'=_∨_
   rw[iS hk]
   split
   ·rename_i e2
    subst e2
    have e3:σ.ce c'=o:=sK hk
    rcases(hs.prev m e).2 with h|h
    ·exact .inr (.inl h)
    ·refine .inr (.inr ?_)
     show(cD σ.mm.nodes (bW (fU _ _ _ _) c')).kind=7/\(cD σ.mm.nodes (bW (fU _ _ _ _) c')).bL=_
     rw[iS hk,if_pos rfl,e3]
     exact h
   ·exact .inl rfl
 ·have hcl:(fU σ.mm.cs c o v).length=σ.cl:=jX
  refine⟨i.two,i.m1,i.m2,i.gen,dX.nW i.prop hs.lo hs.hi,λ r h1 h2=>?_,λ c' h1 h2=>?_⟩
  ·have h:=i.nd r h1 h2
   exact⟨h.valid,h.gen,by simp only[Kw.cl,hcl];exact h.bd,h.k2,h.k3,h.k4,h.k5,h.k6,h.k7,h.k8⟩
  ·simp only[Kw.cl,hcl] at h2
   have hset:∀p,bU (σ.nd p)->aV σ p->bW (fU σ.mm.cs c o v) (σ.nd p).prev=0:=λ p hm hp=>by
    rw[iS hk]
    split
    ·rename_i e
     have hc:=(i.iK hm).2.2
     rw[e] at hc
     have h0:σ.ce (σ.nd p).prev=0:=hp
     rw[e,show σ.ce c=o from sK hk] at h0
     have:=(hs.prev p hc).1
     rw[h0] at this
     exact absurd this (iA (.inl (uO _)))
    ·exact hp
   by_cases e:c'=c
   ·subst e
    have e2:bW (fU σ.mm.cs c' o v) c'=v:=by rw[iS hk,if_pos rfl]
    have e3:σ.ce c'=o:=sK hk
    refine⟨by simp only[Kw.ce,e2];exact hs.lo,by simp only[Kw.ce,e2];exact hs.hi,λ i' h=>?_,λ m h=>?_,λ d h=>?_,λ h=>?_,λ h=>?_⟩
    ·simp only[Kw.ce,e2];exact⟨((i.ce c' h1 h2).main i' h).1,hs.main i' h⟩
    ·simp only[Kw.ce,e2]
     have hp:=hs.prev m h
     have hold:nU σ m o:=by
      rcases((i.ce c' h1 h2).prev m h).2 with h3|h3|h3
      ·rw[e3] at h3;rw[h3] at hp;exact absurd hp.1 (iA (.inl (uO _)))
      ·rwa [e3] at h3
      ·rw[e3] at h3;exact absurd hp.1 (iA (.inr (.inl h3.1)))
     refine⟨((i.ce c' h1 h2).prev m h).1,?_⟩
     rcases hp.2 with h3|⟨h3,h4⟩
     ·exact .inl h3
     ·refine .inr (.inr ⟨h3,?_⟩)
      show nU _ m (σ.nd v).bL
      rw[h4]
      exact⟨hold.1,hset _ hp.1 hold.2⟩
    ·simp only[Kw.ce,e2];exact hs.stat d h
    ·simp only[Kw.ce,e2];exact hs.root h
    ·simp only[Kw.ce,e2];exact hs.rort h
   ·exact(i.ce c' h1 h2).same rfl rfl rfl rfl (by show bW (fU _ _ _ _) c'=_;rw[iS hk,if_neg e]) hset
structure Ext(σ υ:Kw):Prop where
 nodes:∃N,υ.mm.nodes=σ.mm.nodes++N
 cs:∃C,υ.mm.cs=σ.mm.cs++C
 gen:σ.mm.gen<=υ.mm.gen
 way:∀r:Int,r<=σ.len->υ.way r=σ.way r
 gb:∀r:Int,r<=σ.len->υ.gb r=σ.gb r
 ct:∀c:Int,c<=σ.cl->υ.ct c=σ.ct c
theorem pQ{cs C:List Int}{c:Int}(h:c<=cs.length):bW (cs++C) c=bW cs c:=by
 unfold bW
 by_cases h1:1<=c
 ·rw[if_pos ⟨h1,by simp;omega⟩,if_pos ⟨h1,h⟩,fQ,fQ,List.getElem?_append_left (by omega)]
 ·rw[if_neg (by omega),if_neg (by omega)]
theorem Ext.ce(e:Ext σ υ){c:Int}(h:c<=σ.cl):υ.ce c=σ.ce c:=by obtain⟨C,h2⟩:=e.cs;simp only[Kw.ce,h2];exact pQ h
theorem Ext.cl(e:Ext σ υ):σ.cl<=υ.cl:=by obtain⟨C,h2⟩:=e.cs;simp only[Kw.cl,h2,List.length_append];omega
theorem Ext.le(e:Ext σ υ):Le σ υ:=⟨e.nodes,e.cl,e.gen,e.way,e.gb,e.ct,λ _ _ _ h _ _=>e.ce h,λ _ _ _ h _ _=>.inl (e.ce h)⟩
theorem Hy.up{g b:Int}(h:Hy σ w g b)(l:Le σ υ):Hy υ w g b:=by
 rcases h with h|h
 ·have hr:=cY (N:=σ.mm.nodes) (i:=b) (by rw[h.1];decide)
  exact .inl (by rw[l.nd hr.2];exact h)
 ·have hr:=cY (N:=σ.mm.nodes) (i:=b) (by rw[h.1];decide)
  exact .inr (by rw[l.nd hr.2,l.way b hr.2];exact h)
theorem mv.ext(h:mv H σ r)(hr:r<=σ.len)(e:Ext σ υ):mv H υ r:=by
 have l:=e.le
 have hn:=l.nd hr
 have hw:=l.way r hr
 have hk:∀b,(σ.nd b).kind=2->(υ.nd b).kind=2:=λ b hb=>by rw[l.nd (cY (N:=σ.mm.nodes) (i:=b) (by rw[hb];decide)).2];exact hb
 refine⟨by rw[hn];exact h.valid,by rw[hn];have:=h.gen;have:=e.gen;omega,by rw[hn];exact h.bd.mono l.len l.cl,λ k=>?_,λ k=>?_,λ k=>?_,λ k=>?_,λ k=>?_,λ k=>?_,λ k=>?_⟩<;>rw[hn] at k ⊢
 ·obtain⟨h1,h2,h3⟩:=h.k2 k
  exact⟨by rw[hw];exact h1,h2,by rw[l.ct _ h.bd.main];exact h3⟩
 ·obtain⟨h1,h2,h3,h4,h5⟩:=h.k3 k
  rw[hw]
  refine⟨h1,λ k' b hb=>by rw[l.gb r hr];exact(h2 k' b hb).up l,λ h0=>⟨(h3 h0).1,λ b hb=>hk b ((h3 h0).2 b hb)⟩,h4,by rw[l.ct _ h.bd.prev];exact h5⟩
 ·exact h.k4 k
 ·rw[hw,l.ct _ h.bd.prev];exact h.k5 k
 ·rw[hw,l.ct _ h.bd.prev];exact h.k6 k
 ·have:=h.k7 k
  rw[l.nd (gC this).2];exact this
 ·obtain⟨h1,h2,h3,h4⟩:=h.k8 k
  exact⟨h1.up l,h2.up l,h3,by rw[l.ct _ h.bd.status];exact h4⟩
theorem Z3.ext{c:Int}(i:Inv H σ)(h:Z3 σ c)(hc:c<=σ.cl)(e:Ext σ υ):Z3 υ c:=by
 have l:=e.le
 have hv:=e.ce hc
 have hP:∀m p:Int,m<=σ.len->nU σ m p->nU υ m p:=λ m p hm hp=>⟨by rw[l.way m hm,l.gb m hm];exact hp.1.up l,aV.up i hp.1.1 hp.2 l⟩
 refine⟨by rw[hv];exact h.lo,by rw[hv];have:=h.hi;have:=l.len;omega,λ i' k=>?_,λ m k=>?_,λ d k=>?_,λ k=>?_,λ k=>?_⟩<;>rw[l.ct c hc] at k<;>rw[hv]
 ·obtain⟨h1,h2⟩:=h.main i' k
  have hr:=cY (N:=σ.mm.nodes) (i:=i') (by rw[h1];decide)
  rw[l.nd hr.2,l.way i' hr.2]
  exact⟨h1,h2.up l⟩
 ·obtain⟨h1,h2⟩:=h.prev m k
  have hr:=gC h1
  rw[l.nd hr.2]
  refine⟨h1,?_⟩
  rcases h2 with h2|h2|⟨h2,h3⟩
  ·exact .inl h2
  ·exact .inr (.inl (hP m _ hr.2 h2))
  ·refine .inr (.inr ?_)
   rw[l.nd h.hi]
   exact⟨h2,hP m _ hr.2 h3⟩
 ·exact h.stat d k
 ·rcases h.root k with h1|h1
  ·exact .inl (h1.up l)
  ·exact .inr (by rw[l.nd h.hi];exact h1)
 ·exact(h.rort k).up l
theorem Ih(i:Inv H σ)(e:Ext σ υ)(hp:dX υ.mm.nodes υ.mm.cs υ.mm.gen)(hn:∀r:Int,σ.len<r->r<=υ.len->mv H υ r)(hc:∀c:Int,σ.cl<c->c<=υ.cl->Z3 υ c):Inv H υ:=by
 have l:=e.le
 refine⟨Nat.le_trans i.two l.len,by rw[l.nd (by have:=i.two;omega)];exact i.m1,by rw[l.nd (by have:=i.two;omega)];exact i.m2,Int.le_trans i.gen e.gen,hp,λ r h1 h2=>?_,λ c h1 h2=>?_⟩
 ·rcases Int.lt_or_le σ.len r with h|h
  ·exact hn r h h2
  ·exact(i.nd r h1 h).ext h e
 ·rcases Int.lt_or_le σ.cl c with h|h
  ·exact hc c h h2
  ·exact Z3.ext i (i.ce c h1 h) h e
def Kw.add(σ:Kw)(n:Nv)(i:Int)(w:List Nat)(g:Int)(t:CT):Kw :=
 ⟨σ.mm.push n i,λ r=>if r<=σ.len then σ.way r else w,λ r=>if r<=σ.len then σ.gb r else g,λ c=>if c<=σ.cl then σ.ct c else t⟩
theorem O2(σ:Kw)(n:Nv)(i:Int)(w:List Nat)(g:Int)(t:CT):Ext σ (σ.add n i w g t) :=
 ⟨⟨_,rfl⟩,by unfold Kw.add Mm.push fZ;dsimp only;split;exact⟨_,rfl⟩;exact⟨[],by simp⟩,Int.le_refl _,λ r hr=>if_pos hr,λ r hr=>if_pos hr,λ c hc=>if_pos hc⟩
theorem O7(σ:Kw)(n:Nv)(i:Int)(w:List Nat)(g:Int)(t:CT):(σ.add n i w g t).len=σ.len+1:=by simp[Kw.len,Kw.add,Mm.push]
theorem pi(σ:Kw)(n:Nv)(i:Int)(w:List Nat)(g:Int)(t:CT):(σ.add n i w g t).nd ((σ.len+1:Nat):Int)=cO n σ.cl:=by
 simp only[Kw.nd,Kw.add,Mm.push,cD,List.length_append,List.length_cons,List.length_nil]
 rw[if_pos ⟨by omega,by simp only[Kw.len];omega⟩]
 have e:(((σ.len+1:Nat):Int)-1).toNat=σ.mm.nodes.length:=by simp only[Kw.len];omega
 rw[e]
 simp[fQ]
theorem bs(σ:Kw)(n:Nv)(i:Int)(w:List Nat)(g:Int)(t:CT):(σ.add n i w g t).way ((σ.len+1:Nat):Int)=w:=if_neg (by omega)
theorem px(σ:Kw)(n:Nv)(i:Int)(w:List Nat)(g:Int)(t:CT):(σ.add n i w g t).gb ((σ.len+1:Nat):Int)=g:=if_neg (by omega)
theorem n8(σ:Kw)(n:Nv)(i:Int)(w:List Nat)(g:Int)(t:CT):(σ.add n i w g t).ct ((σ.cl+1:Nat):Int)=t:=if_neg (by omega)
theorem nj(σ:Kw){n:Nv}(i:Int)(w:List Nat)(g:Int)(t:CT)(h:n.kind=2∨n.kind=3∨n.kind=5∨n.kind=6∨n.kind=8):(σ.add n i w g t).cl=σ.cl+1/\(σ.add n i w g t).ce ((σ.cl+1:Nat):Int)=i:=by
 have e:(σ.add n i w g t).mm.cs=σ.mm.cs++[i]:=by simp only[Kw.add,Mm.push,fZ];exact if_pos h
 refine⟨by simp[Kw.cl,e],?_⟩
 simp only[Kw.ce,e,bW,List.length_append,List.length_cons,List.length_nil]
 rw[if_pos ⟨by omega,by simp only[Kw.cl];omega⟩]
 have e2:(((σ.cl+1:Nat):Int)-1).toNat=σ.mm.cs.length:=by simp only[Kw.cl];omega
 rw[e2]
 simp[fQ]
theorem fy(σ:Kw){n:Nv}(i:Int)(w:List Nat)(g:Int)(t:CT)(h:¬(n.kind=2∨n.kind=3∨n.kind=5∨n.kind=6∨n.kind=8)):(σ.add n i w g t).cl=σ.cl:=by
 have e:(σ.add n i w g t).mm.cs=σ.mm.cs:=by simp only[Kw.add,Mm.push,fZ];exact if_neg h
 simp[Kw.cl,e]
theorem dm{n:Nv}{i:Int}{g:Int}{t:CT}(h:Inv H σ)(hok:lE σ.mm.gen (σ.len+1) (cO n σ.cl).dv)(hi:C9 i σ.len)(hn:mv H (σ.add n i w g t) ((σ.len+1:Nat):Int))(hc:(σ.add n i w g t).cl=σ.cl+1->Z3 (σ.add n i w g t) ((σ.cl+1:Nat):Int))(hcl:(σ.add n i w g t).cl<=σ.cl+1):Inv H (σ.add n i w g t):=by
 refine Ih h (O2 σ n i w g t) (dX.push h.prop hok hi) (λ r h1 h2=>?_) (λ c h1 h2=>?_)
 ·rw[O7] at h2
  rw[show r=((σ.len+1:Nat):Int) by omega];exact hn
 ·rw[show c=((σ.cl+1:Nat):Int) by omega];exact hc (by omega)
end
end

end Go.Proofs.YtadnboagdhcedaaGreatDoor
