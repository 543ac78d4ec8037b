/- Merged. -/
import Derived.Test.YtdeecdfockjoiaaGreatDoorGVc1
import Derived.Test.YtdeecdfockjoiaaGreatDoorGCmh
set_option linter.unusedSimpArgs false
set_option linter.unusedVariables false
namespace Go.Proofs.YtdeecdfockjoiaaGreatDoor
open Go Go.RowKit Go.Ct
section
def Al(B:Nat)(Q:Rs->Mm->Prop):Tr->Nat->Mm->Prop
 | .done r,_,s=>Q r s
 | .load c k,d,s=>∃e,d=e+1/\Al B Q (k (aG s.cs c)) e s
 | .sJ c o n k,d,s=>∃e,d=e+1/\Al B Q (k (Jx s.cs c o)) e ⟨s.nodes,cU s.cs c o n,s.gen,s.pv⟩
 | .alloc n i k,d,s=>(s.nodes.length+1<=B/\s.cs.length+1<=B)/\Al B Q (k ((s.nodes.length+1:Nat):Int)) d (s.push n i)
 | .node r k,d,s=>Al B Q (k (aD s.nodes r)) d s
 | .cell _ _,_,_=>False
 | .gen _,_,_=>False
 | .stuck,_,_=>False
section
variable{B d:Nat}{Q:Rs->Mm->Prop}{s:Mm}
theorem Pb:∀{T:Tr} {d:Nat} {s:Mm},Al B Q T d s->(jT T s).1≠.stuck/\Al B Q (jT T s).1 d (jT T s).2/\(s.nodes.length<=B/\s.cs.length<=B->(jT T s).2.nodes.length<=B/\(jT T s).2.cs.length<=B)
 | .done r,_,s,h=>⟨λ e=>Tr.noConfusion e,h,id⟩
 | .load c k,_,s,h=>⟨λ e=>Tr.noConfusion e,h,id⟩
 | .sJ c o n k,_,s,h=>⟨λ e=>Tr.noConfusion e,h,id⟩
 | .alloc n i k,d,s,h=>by
  obtain⟨h1,h2,h3⟩:=Pb (T:=k ((s.nodes.length+1:Nat):Int)) h.2
  refine⟨h1,h2,λ _=>h3 ⟨?_,Nat.le_trans eJ.2 h.1.2⟩⟩
  show(s.nodes++[_]).length<=B
  rw[List.length_append];exact h.1.1
 | .node r k,d,s,h=>Pb (T:=k (aD s.nodes r)) h
theorem aCK{T:Tr}(h:Al B Q T d s)(hl:T.live=true)(ha:fI T=true):∃e,d=e+1/\(mC (T,s)).1≠.stuck/\Al B Q (mC (T,s)).1 e (mC (T,s)).2/\(s.nodes.length<=B/\s.cs.length<=B->(mC (T,s)).2.nodes.length<=B/\(mC (T,s)).2.cs.length<=B):=by
 cases T with
 | done r=>cases hl
 | load c k=>obtain⟨e,rfl,h2⟩:=h;exact⟨e,rfl,Pb h2⟩
 | sJ c o n k=>obtain⟨e,rfl,h2⟩:=h;obtain⟨h3,h4,h5⟩:=Pb h2;exact⟨e,rfl,h3,h4,λ h6=>h5 ⟨h6.1,by show(cU _ _ _ _).length<=B;rw[gO];exact h6.2⟩⟩
 | alloc n i k=>cases ha
 | cell i k=>cases ha
 | gen k=>cases ha
 | node r k=>cases ha
 | stuck=>cases ha
theorem xI:∀{T:Tr} {d e:Nat} {s:Mm},Al B Q T d s->d<=e->Al B Q T e s
 | .done r,_,_,s,h,_=>h
 | .load c k,_,e,s,⟨f,e1,h⟩,hl=>⟨e-1,by omega,xI (T:=k (aG s.cs c)) h (by omega)⟩
 | .sJ c o n k,_,e,s,⟨f,e1,h⟩,hl=>⟨e-1,by omega,xI (T:=k (Jx s.cs c o)) h (by omega)⟩
 | .alloc n i k,_,_,s,h,hl=>⟨h.1,xI (T:=k ((s.nodes.length+1:Nat):Int)) h.2 hl⟩
 | .node r k,_,_,s,h,hl=>xI (T:=k (aD s.nodes r)) h hl
theorem o7{K:Int->Tr}:∀(l:List NI) (r:Int) (s:Mm),s.nodes.length+l.length<=B->s.cs.length+l.length<=B->Al B Q (K (if l=[] then r else((s.nodes.length+l.length:Nat):Int))) d (s.gB l)->Al B Q (Bi l r K) d s
 | [],r,s,_,_,h=>h
 | a::l,r,s,h1,h2,h=>by
  simp only[List.length_cons] at h1 h2;have e:(s.push a.c0 a.init).nodes.length=s.nodes.length+1:=by show(_++[_]).length=_;simp
  have hc:=eJ (k:=a.c0.kind) (cs:=s.cs) (init:=a.init);refine⟨⟨by omega,by omega⟩,o7 l _ _ (by omega) (by show(gH a.c0.kind s.cs a.init).length+_<=B;omega) ?_⟩;rw[e];rw[if_neg (List.cons_ne_nil a l)] at h;cases l with
  | nil=>exact h
  | cons a2 l=>rw[if_neg (List.cons_ne_nil a2 l)];rw[show s.nodes.length+1+(a2::l).length=s.nodes.length+(a::a2::l).length by simp only[List.length_cons];omega];exact h
theorem uc{c:jQ}{x gen:Int}{level:Nat}{K:Int->Tr}(hok:lS c (aD s.nodes x) level gen x)(h1:s.nodes.length+(dL c s x gen level).length<=B)(h2:s.cs.length+(dL c s x gen level).length<=B)
  (h:Al B Q (K ((s.nodes.length+(dL c s x gen level).length:Nat):Int)) d (s.gB (dL c s x gen level))):Al B Q (yH c x level gen K) d s:=by
 obtain⟨a,l,e,h3⟩:=xF (s:=s) hok;show Al B Q (if lS c (aD s.nodes x) level gen x then _ else _) d s;rw[h3];have h4:=o7 (B:=B) (Q:=Q) (d:=d) (K:=K) (a::l) 0 s;rw[if_neg (List.cons_ne_nil a l)] at h4;have h5:=h4 (by rw[<- e];exact h1) (by rw[<- e];exact h2) (by rw[e] at h;exact h);refine⟨h5.1,?_⟩;have h6:=h5.2;show Al B Q (Bi (dL c s x gen level).tail ((s.nodes.length+1:Nat):Int) K) d (s.push a.c0 a.init)
 rw[e];exact h6
end
def Nq(n h k:Nat):Prop:=∀j,j<n->sl h j=sl k j
abbrev Il:=Int->Nat×Nat
section
variable(H:ByteArray->Nat)(lb:Il)(s:Mm)
structure BrO(l h k:Nat)(b:Int):Prop where
 le:b<=s.nodes.length
 c:((aD s.nodes b).kind=4/\(aD s.nodes b).hash=(H (aD s.nodes b).key:Int)/\(aD s.nodes b).key.size<=64/\Nq l (H (aD s.nodes b).key) h/\sl (H (aD s.nodes b).key) l=k) ∨
  ((aD s.nodes b).kind=2/\(lb b).1=l+1/\Nq l (lb b).2 h/\sl (lb b).2 l=k)
structure Sf(l h:Nat)(m:Int):Prop where
 r:1<=m/\m<=s.nodes.length
 c:(l<=10/\(∃b,VC (aD s.nodes m) b)/\∀k:Nat,k<64->∀b,iU (aD s.nodes m) (k:Int)=some b->BrO H lb s l h k b) ∨
  (l=11/\LV (aD s.nodes m).nd (aD s.nodes m).xs (aD s.nodes m).ys/\(aD s.nodes m).ys.length<=s.nodes.length)
structure InO(i:Int):Prop where
 g:(aD s.nodes i).gen=1
 m:Sf H lb s (lb i).1 (lb i).2 (aG s.cs (aD s.nodes i).main)
 z:aG s.cs (aD s.nodes (aG s.cs (aD s.nodes i).main)).prev=0
structure Qt:Prop where
 ly:M4 s
 rt:aG s.cs 3=4
 l4:4<=s.nodes.length
 k4:(aD s.nodes 4).kind=2
 b4:(lb 4).1=0
 all:∀i:Int,1<=i->i<=s.nodes.length->(aD s.nodes i).kind=2->InO H lb s i
end
def uQ(lb:Il)(s:Mm)(key:ByteArray)(h:Nat)(u:Int):Nat->Nat->Int->Prop
 | 0,l,m=>((aD s.nodes m).kind=3/\∃r,iU (aD s.nodes m) (eP h l)=some r/\(aD s.nodes r).kind=4/\(aD s.nodes r).key=key/\(aD s.nodes r).val=u)∨((aD s.nodes m).kind=6/\cS (aD s.nodes m).ys key=some u)
 | n+1,l,m=>(aD s.nodes m).kind=3/\∃i,iU (aD s.nodes m) (eP h l)=some i/\(aD s.nodes i).kind=2/\(lb i).1=l+1/\uQ lb s key h u n (l+1) (aG s.cs (aD s.nodes i).main)
section
variable{H:ByteArray->Nat}{lb lb2:Il}{s s2:Mm}{l h k n:Nat}{b m i q x:Int}{v:Nv}
theorem Nq.trans{n a b c:Nat}(h:Nq n a b)(g:Nq n b c):Nq n a c:=λ j hj=>(h j hj).trans (g j hj)
theorem Nq.symm{n a b:Nat}(h:Nq n a b):Nq n b a:=λ j hj=>(h j hj).symm
theorem Nq.succ{n a b:Nat}(h:Nq n a b)(e:sl a n=sl b n):Nq (n+1) a b:=λ j hj=>by
 by_cases h2:j=n;·subst h2;exact e
 ·exact h j (by omega)
structure Ex(lb lb2:Il)(s s2:Mm):Prop where
 le:s.nodes.length<=s2.nodes.length
 nd:∀r:Int,r<=s.nodes.length->aD s2.nodes r=aD s.nodes r
 lb:∀r:Int,r<=s.nodes.length->lb2 r=lb r
theorem Ex.refl(lb:Il)(s:Mm):Ex lb lb s s:=⟨Nat.le_refl _,λ _ _=>rfl,λ _ _=>rfl⟩
theorem Ex.trans{lb3:Il}{s3:Mm}(h:Ex lb lb2 s s2)(g:Ex lb2 lb3 s2 s3):Ex lb lb3 s s3:=⟨Nat.le_trans h.le g.le,λ r hr=>(g.nd r (by have:=h.le;omega)).trans (h.nd r hr),λ r hr=>(g.lb r (by have:=h.le;omega)).trans (h.lb r hr)⟩
theorem BrO.ex(h:BrO H lb s l n k b)(e:Ex lb lb2 s s2):BrO H lb2 s2 l n k b:=⟨by have:=h.le;have:=e.le;omega,by rw[e.nd b h.le,e.lb b h.le];exact h.c⟩
theorem Sf.ex(h:Sf H lb s l n m)(e:Ex lb lb2 s s2):Sf H lb2 s2 l n m:=⟨⟨h.r.1,by have:=h.r.2;have:=e.le;omega⟩,by rw[e.nd m h.r.2];exact h.c.imp (λ⟨h1,h2,h3⟩=>⟨h1,h2,λ k hk b hb=>(h3 k hk b hb).ex e⟩) λ⟨h1,h2,h3⟩=>⟨h1,h2,Nat.le_trans h3 e.le⟩⟩
theorem mL(lb:Il)(s:Mm)(v:Nv)(x:Int):Ex lb lb s (s.push v x):=⟨by show _<=(_++[_]).length;simp,λ r hr=>qE hr,λ _ _=>rfl⟩
theorem D4(lb:Il)(s:Mm)(v:Nv)(x:Int)(p:Nat×Nat):Ex lb (λ r=>if r=((s.nodes.length+1:Nat):Int) then p else lb r) s (s.push v x):=⟨(mL lb s v x).le,(mL lb s v x).nd,λ r hr=>if_neg (by omega)⟩
theorem M4.main(ly:M4 s)(h1:1<=i)(h2:i<=s.nodes.length)(k:(aD s.nodes i).kind=2):(aD s.nodes i).main<=s.cs.length:=(ly.i i h1 h2 k).2.2.1
theorem M4.prev(ly:M4 s)(h1:1<=m)(h2:m<=s.nodes.length):(aD s.nodes m).prev<=s.cs.length:=by
 by_cases hk:(aD s.nodes m).kind=2;·have:=ly.i m h1 h2 hk;omega
 ·have:=ly.m m h1 h2 hk;omega
theorem InO.push(h:InO H lb s i)(ly:M4 s)(h1:1<=i)(h2:i<=s.nodes.length)(k:(aD s.nodes i).kind=2)(e:Ex lb lb2 s (s.push v x)):InO H lb2 (s.push v x) i:=by
 have e1:aD (s.push v x).nodes i=aD s.nodes i:=e.nd i h2;have e2:aG (s.push v x).cs (aD s.nodes i).main=aG s.cs (aD s.nodes i).main:=jL (ly.main h1 h2 k);have h3:=h.m.r;have e3:=e.nd _ h3.2;refine⟨by rw[e1];exact h.g,?_,?_⟩
 ·rw[e.lb i h2,e1,e2];exact h.m.ex e
 ·rw[e1,e2,e3];exact(jL (ly.prev h3.1 h3.2)).trans h.z
theorem wM(q:Qt H lb s)(h2:v.kind≠2)(h8:v.kind≠8)(x:Int):Qt H lb (s.push v x):=by
 have hl:(s.push v x).nodes.length=s.nodes.length+1:=by show(_++[_]).length=_;simp
 have e:=mL lb s v x;refine⟨q.ly.push v x h8,(jL (by have:=q.ly.c;omega)).trans q.rt,by have:=q.l4;omega,by rw[e.nd 4 (by have:=q.l4;omega)];exact q.k4,q.b4,λ i a b k=>?_⟩;by_cases h:i<=s.nodes.length
 ·rw[e.nd i h] at k;exact(q.all i a h k).push q.ly a h k e
 ·have:i=((s.nodes.length+1:Nat):Int):=by omega
  subst this;exact absurd ((congrArg Nv.kind (kC s.nodes (fY v s.cs.length))).symm.trans k) h2
theorem K9(q:Qt H lb s){l h:Nat}{m:Int}(hm:Sf H lb s l h m)(hz:aG s.cs (aD s.nodes m).prev=0):Qt H (λ r=>if r=((s.nodes.length+1:Nat):Int) then(l,h) else lb r) (s.push (eY 1) m):=by
 have hl:(s.push (eY 1) m).nodes.length=s.nodes.length+1:=by show(_++[_]).length=_;simp
 have e:=D4 lb s (eY 1) m (l,h);have h4:=q.l4;refine⟨q.ly.push (eY 1) m (by decide),((jL (k:=(eY 1).kind) (by have:=q.ly.c;omega)).trans q.rt),by omega,by rw[e.nd 4 (by omega)];exact q.k4,?_,λ i a b k=>?_⟩
 ·show(if(4:Int)=_ then _ else _:Nat×Nat).1=0;rw[if_neg (by omega)];exact q.b4
 by_cases h:i<=s.nodes.length;·rw[e.nd i h] at k;exact(q.all i a h k).push q.ly a h k e
 ·have:i=((s.nodes.length+1:Nat):Int):=by omega
  subst this;have en:aD (s.push (eY 1) m).nodes ((s.nodes.length+1:Nat):Int)=fY (eY 1) s.cs.length:=kC _ _;have ec:aG (s.push (eY 1) m).cs ((s.cs.length+1:Nat):Int)=m:=sE _ _;refine⟨by rw[en];rfl,?_,?_⟩
  ·rw[en];show Sf H _ _ (if _=_ then _ else _:Nat×Nat).1 (if _=_ then _ else _:Nat×Nat).2 (aG _ ((s.cs.length+1:Nat):Int));rw[if_pos rfl,ec];exact hm.ex e
  ·rw[en];show aG _ (aD _ (aG (s.push (eY 1) m).cs ((s.cs.length+1:Nat):Int))).prev=0;rw[ec,e.nd m hm.r.2];exact(jL (k:=(eY 1).kind) (q.ly.prev hm.r.1 hm.r.2)).trans hz
theorem Kz{L:List Nv}{r:Int}{k:Int}(h:(aD L r).kind=k)(h0:k≠0):1<=r/\r<=L.length:=by refine Classical.byContradiction λ hn=>h0 ?_;unfold aD at h;rw[if_neg hn] at h;exact h.symm
theorem uQ.iT{key:ByteArray}{h:Nat}{u:Int}(he:∀r:Int,aD s.nodes r≠Nv.zero->aD s2.nodes r=aD s.nodes r/\lb2 r=lb r){l0:Nat}(hc:∀i:Int,(aD s.nodes i).kind=2->l0<(lb i).1->aG s2.cs (aD s.nodes i).main=aG s.cs (aD s.nodes i).main) :
  ∀{n l:Nat} {m:Int},l0<=l->uQ lb s key h u n l m->uQ lb2 s2 key h u n l m:=by
 have hz:∀{r:Int} {k:Int},(aD s.nodes r).kind=k->k≠0->aD s.nodes r≠Nv.zero:=λ h h2 e=>h2 (by rw[<- h,e];rfl);intro n
 induction n with
 | zero=>
  intro l m hl g;rcases g with⟨g1,r,g2,g3,g4⟩|g;·exact .inl (by rw[(he m (hz g1 (by decide))).1];exact⟨g1,r,g2,by rw[(he r (hz g3 (by decide))).1];exact⟨g3,g4⟩⟩)
  ·exact .inr (by rw[(he m (hz g.1 (by decide))).1];exact g)
 | succ n ih=>intro l m hl ⟨g1,i,g2,g3,g4,g5⟩;have e:=he i (hz g3 (by decide));refine⟨by rw[(he m (hz g1 (by decide))).1];exact g1,i,by rw[(he m (hz g1 (by decide))).1];exact g2,by rw[e.1];exact g3,by rw[e.2];exact g4,?_⟩;rw[e.1,hc i g3 (by omega)];exact ih (by omega) g5
theorem Ex.iT(e:Ex lb lb2 s s2)(r:Int)(h:aD s.nodes r≠Nv.zero):aD s2.nodes r=aD s.nodes r/\lb2 r=lb r:=by
 have hr:r<=s.nodes.length:=by refine Classical.byContradiction λ hn=>h ?_;unfold aD;rw[if_neg (by omega)]
 exact⟨e.nd r hr,e.lb r hr⟩
end
end
section
def Ff(s:Mm)(i q:Int):Mm:=⟨s.nodes,cU (cU s.cs (aD s.nodes i).main (aG s.cs (aD s.nodes i).main) q) (aD s.nodes q).prev (aG s.cs (aD s.nodes i).main) 0,s.gen,s.pv⟩
section
variable{H:ByteArray->Nat}{lb lb2:Il}{s s2:Mm}{l h k n B d:Nat}{b m i q x:Int}{v:Nv}{Q:Rs->Mm->Prop}
structure NwO(s:Mm)(i q:Int):Prop where
 i1:1<=i/\i<=s.nodes.length
 ik:(aD s.nodes i).kind=2
 r:1<=q/\q<=s.nodes.length
 k:(aD s.nodes q).kind=3∨(aD s.nodes q).kind=6
 p:aG s.cs (aD s.nodes q).prev=aG s.cs (aD s.nodes i).main
 m:1<=aG s.cs (aD s.nodes i).main/\aG s.cs (aD s.nodes i).main<=s.nodes.length
theorem pG(ly:M4 s)(o:NwO s i q)(c:Int):aG (cU s.cs (aD s.nodes i).main (aG s.cs (aD s.nodes i).main) q) c=(if c=(aD s.nodes i).main then q else aG s.cs c)/\aG (Ff s i q).cs c=if c=(aD s.nodes q).prev then 0 else if c=(aD s.nodes i).main then q else aG s.cs c:=by
 have hi:=ly.i i o.i1.1 o.i1.2 o.ik;have hq:=ly.m q o.r.1 o.r.2 (by have:=o.k;omega);have hne:=ly.mp o.i1.1 o.i1.2 o.r.1 o.r.2 o.ik;have h1:∀c,aG (cU s.cs (aD s.nodes i).main (aG s.cs (aD s.nodes i).main) q) c=if c=(aD s.nodes i).main then q else aG s.cs c:=λ c=>Bx hi.2.1 hi.2.2.1 rfl;refine⟨h1 c,?_⟩;have hk:=o.k;show aG (cU (cU s.cs _ _ q) _ _ 0) c=_
 rw[Bx (by have:=hq.2.2.2.2;omega) (by rw[gO];exact hq.2.2.1) (by rw[h1,if_neg (λ e=>hne e.symm)];exact o.p)];rw[h1]
theorem py{t:oB}{K:Int->Tr}(hz:aG s.cs (aD s.nodes (aG s.cs (aD s.nodes i).main)).prev=0)(g:Al B Q (K (aG s.cs (aD s.nodes i).main)) d s):Al B Q (nG t i K) (d+2) s:=by refine⟨d+1,rfl,d,rfl,?_⟩;show Al B Q (if aG s.cs (aD s.nodes (aG s.cs (aD s.nodes i).main)).prev=0 then _ else _) d s;rw[hz,if_pos rfl];exact g
theorem ry{K:Bool->Tr}(ly:M4 s)(hrt:aG s.cs 3=4)(k4:(aD s.nodes 4).kind=2/\(aD s.nodes 4).gen=1)(hg:(aD s.nodes i).gen=1)(o:NwO s i q)(hm:yE (aD s.nodes (aG s.cs (aD s.nodes i).main)))(g:Al B Q (K true) d (Ff s i q)):Al B Q (iN t3 i (aG s.cs (aD s.nodes i).main) q K) (d+5) s:=by
 have hi:=ly.i i o.i1.1 o.i1.2 o.ik;have hq:=ly.m q o.r.1 o.r.2 (by have:=o.k;omega);have hne:=ly.mp o.i1.1 o.i1.2 o.r.1 o.r.2 o.ik;have hc:=λ c=>(pG ly o c).1;refine⟨d+4,rfl,?_⟩;rw[Ya rfl hi.2.1 hi.2.2.1];show Al B Q (if true=true then tQ t3 i q (λ m=>K (m==q)) else K false) (d+4) _
 rw[if_pos rfl];refine⟨d+3,rfl,?_⟩;show Al B Q (if aG (cU _ _ _ _) (aD s.nodes q).prev=0 then _ else _) (d+3) _;rw[hc,if_neg (show ¬(aD s.nodes q).prev=(aD s.nodes i).main from λ e=>hne e.symm),o.p,if_neg (by have:=o.m;omega)];show Al B Q (if yE (aD s.nodes _) then _ else _) (d+3) _;rw[if_pos hm,if_neg (by decide)];refine⟨d+2,rfl,?_⟩;rw[hc,if_neg (show ¬(3:Int)=(aD s.nodes i).main from λ e=>hi.2.2.2 e.symm),hrt];show Al B Q (if(aD s.nodes 4).kind=2 then _ else _) (d+2) _;rw[if_pos k4.1];show Al B Q (yG i q _ ((aD s.nodes 4).gen==(aD s.nodes i).gen) _) (d+2) _;rw[k4.2,hg];refine⟨d+1,rfl,d,rfl,?_⟩;have hc2:=(pG ly o (aD s.nodes q).prev).2;rw[if_pos rfl] at hc2;show Al B Q (if aG (Ff s i q).cs (aD s.nodes q).prev=0 then K (q==q) else _) d (Ff s i q)
 rw[hc2,if_pos rfl,beq_self_eq_true];exact g
theorem aAX(qt:Qt H lb s)(o:NwO s i q)(hq:Sf H lb s (lb i).1 (lb i).2 q):Qt H lb (Ff s i q):=by
 have hc:=λ c=>(pG qt.ly o c).2;have hi:=qt.ly.i i o.i1.1 o.i1.2 o.ik;have hqp:=qt.ly.m q o.r.1 o.r.2 (by have:=o.k;omega);refine⟨qt.ly.up rfl (by show(cU (cU _ _ _ _) _ _ _).length=_;rw[gO,gO]),?_,qt.l4,qt.k4,qt.b4,λ j a b k=>?_⟩
 ·rw[hc,if_neg (λ e=>hqp.2.2.2.1 e.symm),if_neg (λ e=>hi.2.2.2 e.symm)];exact qt.rt
 have hj:=qt.all j a b k;have hmj:=qt.ly.mp a b o.r.1 o.r.2 k;by_cases e:j=i
 ·subst e;refine⟨hj.g,?_,?_⟩;·show Sf H lb _ _ _ (aG (Ff s j q).cs (aD s.nodes j).main);rw[hc,if_neg hmj,if_pos rfl];exact hq.ex ⟨Nat.le_refl _,λ _ _=>rfl,λ _ _=>rfl⟩
  ·show aG (Ff s j q).cs (aD s.nodes (aG (Ff s j q).cs (aD s.nodes j).main)).prev=0;rw[hc (aD s.nodes j).main,if_neg hmj,if_pos rfl,hc,if_pos rfl]
 ·have hmi:(aD s.nodes j).main≠(aD s.nodes i).main:=λ h=>e (qt.ly.mm a b o.i1.1 o.i1.2 k o.ik h);refine⟨hj.g,?_,?_⟩
  ·show Sf H lb _ _ _ (aG (Ff s i q).cs (aD s.nodes j).main);rw[hc,if_neg hmj,if_neg hmi];exact hj.m.ex ⟨Nat.le_refl _,λ _ _=>rfl,λ _ _=>rfl⟩
  ·show aG (Ff s i q).cs (aD s.nodes (aG (Ff s i q).cs (aD s.nodes j).main)).prev=0;rw[hc (aD s.nodes j).main,if_neg hmj,if_neg hmi,hc];split;·rfl
   ·rw[if_neg (λ h=>qt.ly.mp o.i1.1 o.i1.2 hj.m.r.1 hj.m.r.2 o.ik h.symm)];exact hj.z
theorem Sf.kd(h:Sf H lb s l n m):(aD s.nodes m).kind=3∨(aD s.nodes m).kind=6:=by
 rcases h.c with⟨_,⟨b,h1⟩,_⟩|⟨_,h1,_⟩;·exact .inl h1.kd
 ·exact .inr h1.1
theorem Sf.l11(h:Sf H lb s l n m):l<=11:=by rcases h.c with⟨h1,_⟩|⟨h1,_⟩<;>omega
structure Wb(H:ByteArray->Nat)(lb:Il)(s:Mm)(c:jQ)(l:Nat)(i:Int)(s2:Mm):Prop where
 ex:∃lb2,Qt H lb2 s2/\Ex lb lb2 s s2/\∃n,uQ lb2 s2 c.key c.h c.val n l (aG s2.cs (aD s.nodes i).main)
 up:∀j:Int,1<=j->j<=s.nodes.length->(aD s.nodes j).kind=2->(lb j).1<l->aG s2.cs (aD s.nodes j).main=aG s.cs (aD s.nodes j).main
 n:s2.nodes.length<=s.nodes.length+30/\s2.cs.length<=s.cs.length+30
theorem tq{c:jQ}{s1:Mm}{lb1:Il}{K:Bool->Tr}(hl:(lb i).1=l)(i1:1<=i/\i<=s.nodes.length)(ik:(aD s.nodes i).kind=2)(qt:Qt H lb s)(q1:Qt H lb1 s1)(e:Ex lb lb1 s s1)(hcs:∀x:Int,x<=s.cs.length->aG s1.cs x=aG s.cs x)
  (hn:s1.nodes.length<=s.nodes.length+29/\s1.cs.length<=s.cs.length+29) (hB:s.nodes.length+30<=B/\s.cs.length+30<=B) (hk:v.kind=3∨v.kind=6)
  (hm:Sf H lb1 (s1.push v (aG s.cs (aD s.nodes i).main)) l (lb i).2 ((s1.nodes.length+1:Nat):Int)) (hh:∃n,uQ lb1 (s1.push v (aG s.cs (aD s.nodes i).main)) c.key c.h c.val n l ((s1.nodes.length+1:Nat):Int))
  (g:∀s2,Wb H lb s c l i s2->Al B Q (K true) d s2):Al B Q (.alloc v (aG s.cs (aD s.nodes i).main) λ q=>iN t3 i (aG s.cs (aD s.nodes i).main) q K) (d+5) s1:=by
 have ei:=e.nd i i1.2;have eli:=e.lb i i1.2;have e1:=mL lb1 s1 v (aG s.cs (aD s.nodes i).main);have q2:=wM q1 (v:=v) (by omega) (by omega) (aG s.cs (aD s.nodes i).main);have ii:=qt.all i i1.1 i1.2 ik;have hi1:i<=s1.nodes.length:=by have:=e.le;omega
 have ei1:=e1.nd i hi1;have hml:=qt.ly.main i1.1 i1.2 ik
 have ecm:aG (s1.push v (aG s.cs (aD s.nodes i).main)).cs (aD s.nodes i).main=aG s.cs (aD s.nodes i).main:=by rw[<- hcs _ hml];exact jL (by have:=q1.ly.main i1.1 hi1 (by rw[ei];exact ik);rw[ei] at this;exact this)
 have enq:aD (s1.push v (aG s.cs (aD s.nodes i).main)).nodes ((s1.nodes.length+1:Nat):Int)=fY v s1.cs.length:=kC _ _;have hlen:(s1.push v (aG s.cs (aD s.nodes i).main)).nodes.length=s1.nodes.length+1:=by show(_++[_]).length=_;simp
 have eprev:(aD (s1.push v (aG s.cs (aD s.nodes i).main)).nodes ((s1.nodes.length+1:Nat):Int)).prev=((s1.cs.length+1:Nat):Int):=by rw[enq];show(if v.kind=3∨v.kind=5∨v.kind=6 then _ else _)=_;rw[if_pos (by omega)]
 have ecp:aG (s1.push v (aG s.cs (aD s.nodes i).main)).cs ((s1.cs.length+1:Nat):Int)=aG s.cs (aD s.nodes i).main:=by show aG (gH v.kind s1.cs _) _=_;unfold gH;rw[if_pos (by omega)];exact sE _ _
 have o:NwO (s1.push v (aG s.cs (aD s.nodes i).main)) i ((s1.nodes.length+1:Nat):Int):=⟨⟨i1.1,by omega⟩,by rw[ei1,ei];exact ik,⟨by omega,by omega⟩,by rw[enq];exact hk,by rw[eprev,ei1,ei,ecm,ecp],by rw[ei1,ei,ecm];exact⟨ii.m.r.1,by have:=ii.m.r.2;have:=e.le;omega⟩⟩;have h4:=q2.l4;have g4:=(q2.all 4 (by decide) (by omega) q2.k4).g
 have hmk:yE (aD (s1.push v (aG s.cs (aD s.nodes i).main)).nodes (aG (s1.push v (aG s.cs (aD s.nodes i).main)).cs (aD (s1.push v (aG s.cs (aD s.nodes i).main)).nodes i).main)):=by have h6:=(q2.all i i1.1 (by omega) o.ik).m.kd;exact h6.elim .inl λ h=>.inr (.inr h)
 refine⟨⟨by omega,by omega⟩,?_⟩;have hal:=ry (B:=B) (Q:=Q) (d:=d) (K:=K) q2.ly q2.rt ⟨q2.k4,g4⟩ (q2.all i i1.1 (by omega) o.ik).g o hmk;rw[show aG (s1.push v (aG s.cs (aD s.nodes i).main)).cs (aD (s1.push v (aG s.cs (aD s.nodes i).main)).nodes i).main=aG s.cs (aD s.nodes i).main by rw[ei1,ei,ecm]] at hal;refine hal (g _ ⟨⟨lb1,aAX q2 o (by rw[eli,hl];exact hm),?_,?_⟩,λ j a b k hj=>?_,?_⟩)
 ·exact e.trans ⟨e1.le,e1.nd,λ _ _=>rfl⟩
 ·obtain⟨n,hh⟩:=hh;refine⟨n,?_⟩;have e5:=(pG q2.ly o (aD s.nodes i).main).2;have hne:=q2.ly.mp o.i1.1 o.i1.2 o.r.1 o.r.2 o.ik;rw[ei1,ei] at hne e5;rw[e5,if_neg hne,if_pos rfl];refine uQ.iT (lb:=lb1) (s:=s1.push v (aG s.cs (aD s.nodes i).main)) (s2:=Ff (s1.push v (aG s.cs (aD s.nodes i).main)) i ((s1.nodes.length+1:Nat):Int)) (λ r _=>⟨rfl,rfl⟩) (l0:=l) (λ j k hj=>?_) (Nat.le_refl _) hh;have hjr:=Kz k (by decide);rw[(pG q2.ly o _).2,if_neg (q2.ly.mp hjr.1 hjr.2 o.r.1 o.r.2 k),if_neg];intro h
  have:=q2.ly.mm hjr.1 hjr.2 o.i1.1 o.i1.2 k o.ik h;subst this;rw[eli] at hj;omega
 ·have hj1:j<=s1.nodes.length:=by have:=e.le;omega
  have ej:=(e1.nd j hj1).trans (e.nd j b);have kj:(aD (s1.push v (aG s.cs (aD s.nodes i).main)).nodes j).kind=2:=by rw[ej];exact k
  have h7:=(pG q2.ly o (aD s.nodes j).main).2;have h8:=q2.ly.mp a (by omega) o.r.1 o.r.2 kj;rw[ej] at h8;rw[h7,if_neg h8,if_neg]
  ·rw[<- hcs _ (qt.ly.main a b k)];exact jL (by have:=q1.ly.main a hj1 (by rw[e.nd j b];exact k);rw[e.nd j b] at this;exact this)
  ·intro h;rw[<- ej] at h;have:=q2.ly.mm a (by omega) o.i1.1 o.i1.2 kj o.ik h;subst this;omega
 ·have:=eJ (k:=v.kind) (cs:=s1.cs) (init:=aG s.cs (aD s.nodes i).main);refine⟨?_,?_⟩;·show(s1.push v (aG s.cs (aD s.nodes i).main)).nodes.length<=s.nodes.length+30;omega
  ·show(cU (cU _ _ _ _) _ _ _).length<=_;rw[gO,gO];show(gH v.kind s1.cs _).length<=_;omega
end
end
end Go.Proofs.YtdeecdfockjoiaaGreatDoor
