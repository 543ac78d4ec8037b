/- Merged. -/
import Derived.Test.YthblobahelfefaaGreatDoorGKe2
set_option linter.unusedSimpArgs false
set_option linter.unusedVariables false
namespace Go.Proofs.YthblobahelfefaaGreatDoor
open Go Go.RowKit Go.Ct
section
section
variable{C:KP}{s s1 s2:Mm}{σ τ:Gs}{r t a b m v c o n x y f:Int}{j u:Nat}{ws:List Nat}{fo:Prop}
theorem xN.fn:∀{f e l:Nat} {m:Int} {r q:Option Int},xN C s u f l m r->xN C s u e l m q->r=q
 | 0,_,_,_,_,_,g,_=>g.elim
 | _,0,_,_,_,_,_,g=>g.elim
 | f+1,e+1,l,m,r,q,⟨_,_,g⟩,⟨_,_,g'⟩=>by
  rcases g with⟨k,_,g⟩|⟨k,_,g⟩<;>rcases g' with⟨k',_,g'⟩|⟨k',_,g'⟩
  ·rcases g with⟨e1,e2⟩|⟨b,e1,_,g⟩<;>rcases g' with⟨e1',e2'⟩|⟨b',e1',_,g'⟩;·rw[e2,e2']
   ·rw[e1] at e1';cases e1'
   ·rw[e1] at e1';cases e1'
   ·rw[e1] at e1';injection e1' with e1'
    subst e1';rcases g with⟨k1,g⟩|⟨k1,_,_,_,g⟩<;>rcases g' with⟨k2,g'⟩|⟨k2,_,_,_,g'⟩;·rw[g,g']
    ·rw[k1] at k2;cases k2
    ·rw[k1] at k2;cases k2
    ·exact xN.fn g g'
  ·rw[k] at k';cases k'
  ·rw[k] at k';cases k'
  ·rw[g,g']
theorem Ct.eq{c c':Nat->Bool}(h:Ct C s m c)(g:Ct C s m c')(hu:u<2):c u=c' u:=by have e:=(h.p u hu).fn (g.p u hu);cases h1:c u<;>cases h2:c' u<;>rw[h1,h2] at e<;>cases e
theorem O5:∀{us:List Nat},us.Nodup->2∉jJ us
 | [],_=>List.not_mem_nil
 | x::us,h=>by
  rw[List.nodup_cons] at h;unfold jJ;split;·rename_i e;rw[e] at h;exact h.1
  split;·exact O5 h.2
  ·rename_i h1 h2;simp only[List.mem_cons,not_or];exact⟨λ e=>h1 e.symm,h2⟩
theorem Ab:∀{us:List Nat},us.Nodup->2∈us->0∈jJ us->cont us 0=false
 | x::us,h,h2,h0=>by
  rw[List.nodup_cons] at h;show(if x=2 then false else x==0||cont us 0)=false;split;·rfl
  ·rename_i hx;have h2':2∈us:=(List.mem_cons.1 h2).resolve_left λ e=>hx e.symm;rw[wW h2' hx] at h0;rw[Ab h.2 h2' h0,Bool.or_false,beq_eq_false_iff_ne];intro e
   rw[e] at h;exact h.1 ((gI us).subset h0)
theorem I8.c0(h:I8 C s r ws fo)(h2:2∉ws)(h0:0∈ws):∃c,Ct C s (cN s r) c/\c 0=true:=by
 obtain⟨y,h1,_,h3|⟨u,h3,h4,h5,h6⟩⟩:=h;·rw[h3];exact⟨_,h1,Oy h2 h0⟩
 ·exact⟨_,h5,Oy (by simp only[List.mem_cons,not_or];exact⟨by omega,h2⟩) (List.mem_cons_of_mem _ h0)⟩
theorem I8.c1(h:I8 C s r ws fo)(hd:ws.Nodup)(h2:2∈ws)(h0:0∈jJ ws):∃c,Ct C s (cN s r) c/\c 0=false:=by
 obtain⟨y,h1,_,h3|⟨u,h3,h4,h5,h6⟩⟩:=h;·rw[h3];exact⟨_,h1,Ab hd h2 h0⟩
 ·exact⟨_,h5,Ab (List.nodup_cons.2 ⟨h4,hd⟩) (List.mem_cons_of_mem _ h2) (by rw[wW h2 (by omega)];exact h0)⟩
theorem J.vi(h:J C s σ)(hR:σ.R≠0):2∈σ.us:=Classical.byContradiction λ hn=>hR (h.ph.2 hn)
theorem J.mm(h:J C s σ)(hR:σ.R≠0):cN s σ.R≠cN s 4:=λ e=>by have h2:=h.vi hR;obtain⟨c,h3,h4⟩:=h.m4.c0 (O5 h.nd) (h.u0 h2);obtain⟨d,h5,h6⟩:=(h.mR hR).2.2.2.c1 h.nd h2 (h.u0 h2);rw[e] at h5;have:=h3.eq h5 (u:=0) (by decide);rw[h4,h6] at this;cases this
theorem J.W2(h:J C s σ)(e:aL s.cs 3=v)(d:tI s v):(fH s v=0/\σ.R=0/\Unt C s v/\0∈σ.us/\(σ.ar=true->cN s 4=(aB s.nodes v).exp∨eT s (cN s 4)=(aB s.nodes v).exp))∨(fH s v=2/\σ.R=0/\σ.ar=false)∨(fH s v=1/\σ.R=(aB s.nodes v).new/\σ.ar=false):=by
 have hk:=d.k;cases h.rt with
 | a0 e1 _ _=>rw[<- e,e1,h.k4] at hk;cases hk
 | a1 v' e1 d' z h1 u i a=>rw[e1] at e;subst e;exact .inl ⟨z,h1,u,i,a⟩
 | a2 v' e1 d' z h1 a=>rw[e1] at e;subst e;exact .inr (.inl ⟨z,h1,a⟩)
 | b1 v' e1 d' z h1 a=>rw[e1] at e;subst e;exact .inr (.inr ⟨z,h1,a⟩)
 | b2 e1 h1 _=>rw[<- e,e1,(h.mR h1).2.1] at hk;cases hk
theorem J.rt4(h:J C s σ)(e:aL s.cs 3=4):σ.R=0/\σ.ar=false:=by
 cases h.rt with
 | a0 e1 h1 h2=>exact⟨h1,h2⟩
 | a1 v' e1 d' z h1 u i a=>rw[e1] at e;subst e;have:=d'.k;rw[h.k4] at this;cases this
 | a2 v' e1 d' z h1 a=>rw[e1] at e;subst e;have:=d'.k;rw[h.k4] at this;cases this
 | b1 v' e1 d' z h1 a=>rw[e1] at e;subst e;have:=d'.k;rw[h.k4] at this;cases this
 | b2 e1 h1 _=>rw[e1] at e;exact absurd e (h.R4 h1)
theorem u6(us:List Nat):cont (2::us)=cont []:=by funext u;show(if 2=2 then false else _)=_;rw[if_pos rfl];rfl
theorem J.new(h:J C s σ)(hR:σ.R=0):jJ σ.us=σ.us:=V8 (h.ph.1 hR)
structure AtQ(C:KP)(s:Mm)(σ:Gs)(s1:Mm)(τ:Gs):Prop where
 j:J C s1 τ
 k:Kx s s1
 u:σ.us <:+ τ.us
theorem Aa(h:J C s σ)(g:sY C s j σ s1 τ):AtQ C s σ s1 τ:=by
 have ly:=h.ly;have m4r:=h.m4.rg;cases g with
 | push w x=>exact⟨h.same (ly.push w x) (ly.W6 w x) (C3 (by have:=ly.c;omega)) (λ t ht=>ly.jA w x ht) (Int.le_refl _),ly.W6 w x,List.suffix_refl _⟩
 | gen g hg=>have k:Kx s ⟨s.nodes,s.cs,g,s.pv⟩:=vZ rfl rfl (λ _ _ e=>e) λ _ _ _ _ _=>rfl;exact⟨h.same (ly.up rfl rfl) k rfl (λ t ht=>⟨rfl,rfl,rfl⟩) hg,k,List.suffix_refl _⟩
 | arm v e d z m=>
  rcases h.W2 e d with⟨_,h1,h2,h3,_⟩|⟨h1,_⟩|⟨h1,_⟩;·exact⟨⟨ly,h.l4,h.k4,h.g4,h.n4,.a1 v e d z h1 h2 h3 λ _=>.inl m,h.m4,h.mR,h.ph,h.nd,h.u0,h.gn⟩,.refl s,List.suffix_refl _⟩
  ·rw[z] at h1;cases h1
  ·rw[z] at h1;cases h1
 | inst v h0 hR e d z w i=>have k:Kx s (iB s 3 4 v):=aCx ly e;have e2:=λ t ht=>vF (n:=v) ly e (t:=t) ht;exact⟨⟨ly.iB,h.l4,h.k4,h.g4,h.n4,.a1 v (yH ly e) (d.kx k) ((e2 v d.r).2.2.trans z) hR (w.kx k d.r.b (e2 _ d.n).1) i (λ a=>by rw[(h.rt4 e).2] at a;cases a),h.m4.kx k (e2 _ h.sF).1 (e2 _ m4r.1).2.1,λ hR'=>absurd hR hR',h.ph,h.nd,h.u0,h.gn⟩,k,List.suffix_refl _⟩
 | kill v hj h3 e d z=>
  have k:Kx s (iB s (aB s.nodes v).status 0 2):=aBU ly d z;obtain⟨-,-,-,e1,e2,e3,-⟩:=yE (n:=2) ly d z;rcases h.W2 e d with⟨_,h1,_⟩|⟨h1,_⟩|⟨h1,_⟩;·exact⟨⟨ly.iB,h.l4,h.k4,h.g4,h.n4,.a2 v (e1.trans e) (d.kx k) e2 h1 rfl,h.m4.kx k (e3 _ h.sF).1 (e3 _ m4r.1).2,λ hR'=>absurd h1 hR',h.ph,h.nd,h.u0,h.gn⟩,k,List.suffix_refl _⟩
  ·rw[z] at h1;cases h1
  ·rw[z] at h1;cases h1
 | yes v e d z a=>
  have k:Kx s (iB s (aB s.nodes v).status 0 1):=aBU ly d z;obtain⟨-,-,-,e1,e2,e3,-⟩:=yE (n:=1) ly d z;rcases h.W2 e d with⟨_,h1,h2,h3,_⟩|⟨h1,_⟩|⟨h1,_⟩
  ·have hn:=h.ph.1 h1;refine⟨⟨ly.iB,h.l4,h.k4,h.g4,h.n4,.b1 v (e1.trans e) (d.kx k) e2 rfl rfl,?_,λ _=>⟨⟨d.n.a,d.n.b⟩,d.nk,d.ng,cN s (aB s.nodes v).new,?_,?_,.inl (e3 _ d.n).1⟩,?_,List.nodup_cons.2 ⟨hn,h.nd⟩,λ _=>?_,h.gn⟩,k,List.suffix_cons _ _⟩
   ·show I8 C _ 4 (jJ (2::σ.us)) _;rw[Sy,<- h.new h1];exact(h.m4.kx k (e3 _ h.sF).1 (e3 _ m4r.1).2).imp λ q=>absurd h1 q
   ·show Ct C _ _ (cont (2::σ.us));rw[u6];exact h2.c.kx k
   ·exact k.z _ h2.c.r h2.z
   ·show(aB s.nodes v).new=0↔2∉2::σ.us;exact⟨λ q=>absurd q (eA d.n),λ q=>absurd (List.mem_cons_self ..) q⟩
   ·show 0∈jJ (2::σ.us);rw[Sy];exact h3
  ·rw[z] at h1;cases h1
  ·rw[z] at h1;cases h1
 | comp v e d z=>
  have k:Kx s (iB s 3 v (if fH s v=1 then(aB s.nodes v).new else 4)):=aCx ly e;have e2:=λ t ht=>vF (n:=if fH s v=1 then(aB s.nodes v).new else 4) ly e (t:=t) ht;have e3:aL (iB s 3 v (if fH s v=1 then(aB s.nodes v).new else 4)).cs 3=if fH s v=1 then(aB s.nodes v).new else 4:=yH ly e;refine⟨⟨ly.iB,h.l4,h.k4,h.g4,h.n4,?_,h.m4.kx k (e2 _ h.sF).1 (e2 _ m4r.1).2.1,λ hR=>?_,h.ph,h.nd,h.u0,h.gn⟩,k,List.suffix_refl _⟩
  ·rcases h.W2 e d with⟨h1,_⟩|⟨h1,h2,h3⟩|⟨h1,h2,h3⟩;·exact absurd h1 z
   ·exact .a0 (e3.trans (if_neg (by rw[h1];decide))) h2 h3
   ·exact .b2 (e3.trans ((if_pos h1).trans h2.symm)) (by rw[h2];exact eA d.n) h3
  ·obtain⟨h1,h2,h3,h4⟩:=h.mR hR;exact⟨⟨h1.a,h1.b⟩,h2,h3,h4.kx k (e2 _ h1).1 (e2 _ h4.rg.1).2.1⟩
 | put r q ws hr z hj hu c p=>
  have hR2:Rg s r/\(aB s.nodes r).kind=2/\(r=4∨(aB s.nodes r).gen≠1)/\∃fo,I8 C s r ws fo:=by
   rcases hr with⟨e1,e2⟩|⟨e1,h1,e2⟩<;>subst e1 e2;·exact⟨h.sF,h.k4,.inl rfl,_,h.m4⟩
   ·obtain⟨q1,q2,q3,q4⟩:=h.mR h1;exact⟨q1,q2,.inr q3,_,q4⟩
  obtain⟨hrg,hk,hg,fo0,hM⟩:=hR2;have k:Kx s (iB s (aB s.nodes r).main (cN s r) q):=aBx ly hrg hk hg rfl;obtain⟨e1,e2,e3,e4⟩:=Bg (n:=q) ly hrg hk rfl;have hws:j∉ws:=by
   rcases hr with⟨_,e2⟩|⟨_,_,e2⟩<;>subst e2;·exact λ h=>hu ((gI _).subset h)
   ·exact hu
  have hnew:∀fo',I8 C (iB s (aB s.nodes r).main (cN s r) q) r ws fo':=λ fo'=>by
   refine⟨cN s r,(hM.set z).kx k,(e3 _ hM.rg.1).1.trans z,.inr ⟨j,hj,hws,?_,.inl ?_⟩⟩;·rw[e2];exact c.kx k
   ·rw[e2,(e3 q c.r).1];exact p
  refine⟨⟨ly.iB,h.l4,h.k4,h.g4,h.n4,?_,?_,λ hR=>?_,h.ph,h.nd,h.u0,h.gn⟩,k,List.suffix_refl _⟩
  ·cases h.rt with
   | a0 e5 h1 a=>exact .a0 (e1.trans e5) h1 a
   | a1 v e5 d z5 h1 u i a=>
    have hr4:r=4:=by
     rcases hr with⟨e,_⟩|⟨_,e,_⟩;·exact e
     ·exact absurd h1 e
    refine .a1 v (e1.trans e5) (d.kx k) ((e3 v d.r).2.trans z5) h1 (u.kx k d.r.b (e4 _ d.n (by rw[hr4];exact d.n4 h))) i λ q1=>.inr ?_;rw[show cN (iB s (aB s.nodes r).main (cN s r) q) 4=q by rw[<- hr4];exact e2,(e3 q c.r).1,p,hr4];rcases a q1 with a|a
    ·exact a
    ·rw[<- hr4,z] at a;exact absurd a.symm (eA d.e)
   | a2 v e5 d z5 h1 a=>exact .a2 v (e1.trans e5) (d.kx k) ((e3 v d.r).2.trans z5) h1 a
   | b1 v e5 d z5 h1 a=>exact .b1 v (e1.trans e5) (d.kx k) ((e3 v d.r).2.trans z5) h1 a
   | b2 e5 h1 a=>exact .b2 (e1.trans e5) h1 a
  ·rcases hr with⟨q1,q2⟩|⟨q1,q3,q2⟩;·subst q1;rw[<- q2];exact hnew _
   ·exact h.m4.kx k (e4 4 h.sF (by rw[q1];exact λ e=>h.R4 q3 e.symm)) (e3 _ m4r.1).1
  ·obtain⟨h1,h2,h3,h5⟩:=h.mR hR;refine⟨⟨h1.a,h1.b⟩,h2,h3,?_⟩;rcases hr with⟨q1,q2⟩|⟨q1,q3,q2⟩;·exact h5.kx k (e4 _ h1 (by rw[q1];exact h.R4 hR)) (e3 _ h5.rg.1).1
   ·subst q1;rw[<- q2];exact hnew _
 | mU r y u hr p y0 hu hn c=>
  have hR2:Rg s (cN s r)/\(aB s.nodes (cN s r)).kind=3:=⟨c.r,c.kd⟩;have k:Kx s (iB s (aB s.nodes (cN s r)).prev y 0):=aBg ly hR2.1 hR2.2 p y0;obtain⟨e1,e2,e3,e4⟩:=xZ (n:=0) ly hR2.1 hR2.2 p
  have hrt:∀v,tI s v->Rg s v:=λ v d=>d.r;refine⟨⟨ly.iB,h.l4,h.k4,h.g4,h.n4,?_,?_,λ hR=>?_,?_,List.nodup_cons.2 ⟨hn,h.nd⟩,λ h2=>?_,h.gn⟩,k,List.suffix_cons _ _⟩
  ·cases h.rt with
   | a0 e5 h1 a=>exact .a0 (e1.trans e5) h1 a
   | a1 v e5 d z5 h1 u' i a=>
    refine .a1 v (e1.trans e5) (d.kx k) ((e3 v d.r).2.trans z5) h1 (u'.kx k d.r.b (e3 _ d.n).1) (List.mem_cons_of_mem _ i) λ q1=>?_;rcases hr with⟨_,_,q2⟩|⟨_,q2⟩
    ·have q1':σ.ar=true:=q1;rw[q2] at q1';cases q1'
    ·exact absurd h1 q2
   | a2 v e5 d z5 h1 a=>exact .a2 v (e1.trans e5) (d.kx k) ((e3 v d.r).2.trans z5) h1 a
   | b1 v e5 d z5 h1 a=>exact .b1 v (e1.trans e5) (d.kx k) ((e3 v d.r).2.trans z5) h1 a
   | b2 e5 h1 a=>exact .b2 (e1.trans e5) h1 a
  ·show I8 C _ 4 (jJ (u::σ.us)) _;rcases hr with⟨q1,q2,q3⟩|⟨q1,q2⟩;·subst q1;have:=h.ph.1 q2;rw[V8 (by simp only[List.mem_cons,not_or];exact⟨by omega,this⟩)];exact⟨cN s 4,c.kx k,e2,.inl (e3 4 h.sF).1⟩
   ·rw[wW (h.vi q2) (by omega)];exact h.m4.kx k (e3 4 h.sF).1 (e4 _ m4r.1 (by rw[q1];exact λ e=>h.mm q2 e.symm))
  ·obtain⟨h1,h2,h3,h5⟩:=h.mR hR;refine⟨⟨h1.a,h1.b⟩,h2,h3,?_⟩;rcases hr with⟨q1,q2,q3⟩|⟨q1,q2⟩;·exact absurd q2 hR
   ·subst q1;exact⟨cN s σ.R,c.kx k,e2,.inl (e3 _ h1).1⟩
  ·show σ.R=0↔2∉u::σ.us;rw[h.ph];simp only[List.mem_cons,not_or];exact⟨λ q=>⟨by omega,q⟩,λ q=>q.2⟩
  ·have h2':2∈σ.us:=(List.mem_cons.1 h2).resolve_left (by omega);show 0∈jJ (u::σ.us);rw[wW h2' (by omega)];exact h.u0 h2'
 | fail y f hR p hk w=>
  have y0:y≠0:=eA (Yw hk (by decide));have k:Kx s (iB s (aB s.nodes (cN s 4)).prev y f):=aBg ly m4r.1 m4r.2 p y0;obtain⟨e1,e2,e3,e4⟩:=xZ (n:=f) ly m4r.1 m4r.2 p
  refine⟨⟨ly.iB,h.l4,h.k4,h.g4,h.n4,?_,?_,λ hR=>?_,h.ph,h.nd,h.u0,h.gn⟩,k,List.suffix_refl _⟩
  ·cases h.rt with
   | a0 e5 h1 a=>exact absurd h1 hR
   | a1 v e5 d z5 h1 u' i a=>exact absurd h1 hR
   | a2 v e5 d z5 h1 a=>exact absurd h1 hR
   | b1 v e5 d z5 h1 a=>exact .b1 v (e1.trans e5) (d.kx k) ((e3 v d.r).2.trans z5) h1 a
   | b2 e5 h1 a=>exact .b2 (e1.trans e5) h1 a
  ·obtain⟨y',h1,h2,h3|⟨u,h3,h4,h5,h6|⟨h7,f',h8,h9⟩⟩⟩:=h.m4;·rw[h3,h2] at p;exact absurd p.symm y0
   ·have ey:y=y':=p.symm.trans h6;subst ey;refine⟨y,h1.kx k,k.z _ h1.r h2,.inr ⟨u,h3,h4,?_,.inr ⟨hR,f,?_,w.kx k⟩⟩⟩;·rw[(e3 4 h.sF).1];exact h5.kx k
    ·rw[(e3 4 h.sF).1];exact e2
   ·have:=h9.k;rw[<- h8,p,hk] at this;cases this
  ·obtain⟨h1,h2,h3,h5⟩:=h.mR hR;exact⟨⟨h1.a,h1.b⟩,h2,h3,h5.kx k (e3 _ h1).1 (e4 _ h5.rg.1 (h.mm hR))⟩
 | back y f hR p w=>
  have ho:aL s.cs 2=cN s 4:=h.two.symm;have k:Kx s (iB s (aB s.nodes 4).main (cN s 4) y):=aBx ly h.sF h.k4 (.inl rfl) rfl;obtain⟨e1,e2,e3,e4⟩:=Bg (n:=y) ly h.sF h.k4 rfl
  rw[h.n4] at k e1 e2 e3 e4;refine⟨⟨ly.iB,h.l4,h.k4,h.g4,h.n4,?_,?_,λ hR=>?_,h.ph,h.nd,h.u0,h.gn⟩,k,List.suffix_refl _⟩
  ·cases h.rt with
   | a0 e5 h1 a=>exact absurd h1 hR
   | a1 v e5 d z5 h1 u' i a=>exact absurd h1 hR
   | a2 v e5 d z5 h1 a=>exact absurd h1 hR
   | b1 v e5 d z5 h1 a=>exact .b1 v (e1.trans e5) (d.kx k) ((e3 v d.r).2.trans z5) h1 a
   | b2 e5 h1 a=>exact .b2 (e1.trans e5) h1 a
  ·obtain⟨y',h1,h2,h3|⟨u,h3,h4,h5,h6|⟨h7,f',h8,h9⟩⟩⟩:=h.m4;·rw[h3,h2] at p;exact absurd p.symm (eA w.r)
   ·have:=w.k;rw[<- p,h6,h1.kd] at this;cases this
   ·have ef:f=f':=p.symm.trans h8;subst ef;have ey:y=y':=w.o.symm.trans h9.o;subst ey;exact⟨y,h1.kx k,k.z _ h1.r h2,.inl e2⟩
  ·obtain⟨h1,h2,h3,h5⟩:=h.mR hR;exact⟨⟨h1.a,h1.b⟩,h2,h3,h5.kx k (e4 _ h1 (h.R4 hR)) (e3 _ h5.rg.1).1⟩
end
end
section
inductive Jm(C:KP)(p:Nat->Prop):Mm->Gs->Mm->Gs->Prop where
 | refl (s σ):Jm C p s σ s σ
 | step {s σ s1 τ s2 υ} {j:Nat} (h:Jm C p s σ s1 τ) (hp:p j) (g:sY C s1 j τ s2 υ):Jm C p s σ s2 υ
section
variable{C:KP}{B k a b d j:Nat}{s s1 s2:Mm}{σ τ υ:Gs}{p p2:Nat->Prop}{Q:Rs->Gs->Prop}{t:Tr}
theorem Jm.trans(h:Jm C p s σ s1 τ)(g:Jm C p s1 τ s2 υ):Jm C p s σ s2 υ:=by
 induction g with
 | refl=>exact h
 | step _ hp g ih=>exact .step ih hp g
theorem Jm.imp(h:Jm C p s σ s1 τ)(i:∀j,p j->p2 j):Jm C p2 s σ s1 τ:=by
 induction h with
 | refl=>exact .refl _ _
 | step _ hp g ih=>exact .step ih (i _ hp) g
theorem Jm.to(h:Jm C p s σ s1 τ)(j1:J C s σ):AtQ C s σ s1 τ:=by
 induction h with
 | refl=>exact⟨j1,.refl _,List.suffix_refl _⟩
 | step _ _ g ih=>have q1:=ih;have q2:=Aa q1.j g;exact⟨q2.j,q1.k.trans q2.k,q1.u.trans q2.u⟩
def nQ(C:KP)(k:Nat)(P:Mm->Gs->Prop):Prop:=∀j s σ s1 τ,j≠k->J C s σ->AtQ C s σ s1 τ->sY C s j σ s1 τ->P s σ->P s1 τ
theorem nQ.run{P:Mm->Gs->Prop}{p:Nat->Prop}(hp:∀j,p j->j≠k)(h:nQ C k P)(g:Jm C p s σ s1 τ)(j1:J C s σ)(h0:P s σ):P s1 τ:=by
 induction g with
 | refl=>exact h0
 | step g hj g2 ih=>have q1:=g.to j1;exact h _ _ _ _ _ (hp _ hj) q1.j (Aa q1.j g2) g2 ih
def Ka(k:Nat):Nat:=if k=0 then 3 else 4
section
variable(C B k)
structure Is(s:Mm)(σ:Gs)(s':Mm)(σ':Gs):Prop where
 r:Jm C (λ j=>j≠k/\(k=0->j≠3)) s σ s' σ'
 j:J C s' σ'
 b:k=0->σ'.kl<=B
structure zI(a c:Nat)(s:Mm)(σ:Gs)(s':Mm)(σ':Gs):Prop where
 r:Jm C (λ j=>j=k∨j=Ka k) s σ s' σ'
 n:s'.nodes.length<=s.nodes.length+a
 l:s'.cs.length<=s.cs.length+a
 b:σ'.kl<=σ.kl+c
 g:s'.gen<=s.gen+a
def Gd(Q:Rs->Mm->Gs->Prop):Nat->Tr->Mm->Gs->Prop
 | 0,T,s,σ=>∃r,T=.done r/\Q r s σ
 | d+1,T,s,σ=>(∃r,T=.done r/\Q r s σ)∨(T.live=true/\fB T=true/\∀s' σ',Is C B k s σ s' σ'->(mJ (T,s')).1≠.stuck/\∃σ2,zI C k 64 1 s' σ' (mJ (T,s')).2 σ2/\Gd Q d (mJ (T,s')).1 (mJ (T,s')).2 σ2)
def fY(Q:Rs->Mm->Gs->Prop)(a d:Nat)(t:Tr)(s:Mm)(σ:Gs):Prop :=∀s' σ',Is C B k s σ s' σ'->(iR t s').1≠.stuck/\∃σ2,zI C k a 0 s' σ' (iR t s').2 σ2/\Gd C B k Q d (iR t s').1 (iR t s').2 σ2
end
variable{Q:Rs->Mm->Gs->Prop}
variable{c e:Nat}{o n:Int}{r:Rs}
theorem Is.refl(j1:J C s σ)(hb:k=0->σ.kl<=B):Is C B k s σ s σ:=⟨.refl _ _,j1,hb⟩
theorem Is.trans(h:Is C B k s σ s1 τ)(g:Is C B k s1 τ s2 υ):Is C B k s σ s2 υ:=⟨h.r.trans g.r,g.j,g.b⟩
theorem Is.kx(h:Is C B k s σ s1 τ)(j1:J C s σ):Kx s s1:=(h.r.to j1).k
theorem zI.refl{c:Nat}:zI C k a c s σ s σ:=⟨.refl _ _,by omega,by omega,by omega,by omega⟩
theorem zI.trans{c e:Nat}(h:zI C k a c s σ s1 τ)(g:zI C k b e s1 τ s2 υ):zI C k (a+b) (c+e) s σ s2 υ:=⟨h.r.trans g.r,by have:=h.n;have:=g.n;omega,by have:=h.l;have:=g.l;omega,by have:=h.b;have:=g.b;omega,by have:=h.g;have:=g.g;omega⟩
theorem zI.le(h:zI C k a c s σ s1 τ)(h1:a<=b)(h2:c<=e):zI C k b e s σ s1 τ:=⟨h.r,by have:=h.n;omega,by have:=h.l;omega,by have:=h.b;omega,by have:=h.g;omega⟩
theorem zI.one(hj:j=k∨j=Ka k)(g:sY C s j σ s1 τ)(hn:s1.nodes.length<=s.nodes.length+a)(hl:s1.cs.length<=s.cs.length+a)(hb:τ.kl<=σ.kl+c)(hg:s1.gen<=s.gen+a):zI C k a c s σ s1 τ:=⟨.step (.refl _ _) hj g,hn,hl,hb,hg⟩
theorem zI.iB{c o n:Int}{e:Nat}(hj:j=k∨j=Ka k)(g:sY C s j σ (iB s c o n) τ)(hb:τ.kl<=σ.kl+e):zI C k 0 e s σ (iB s c o n) τ:=.one hj g (Nat.le_refl _) (by show(gG _ _ _ _).length<=_;rw[gY];exact Nat.le_refl _) hb (by show s.gen<=s.gen+0;omega)
theorem sY.k0(g:sY C s j σ s1 τ)(hj:j=0∨j=3):τ.kl=σ.kl:=by
 cases g with
 | kill v hj0 h3 e d z=>exact if_pos (hj.resolve_left hj0)
 | _=>rfl
theorem Jm.k0(h:Jm C (λ j=>j=k∨j=Ka k) s σ s1 τ)(h0:k=0):τ.kl=σ.kl:=by
 induction h with
 | refl=>rfl
 | step _ hp g ih=>subst h0;exact(g.k0 hp).trans ih
theorem zI.fb(h:zI C k a c s σ s1 τ)(hb:k=0->σ.kl<=B):k=0->τ.kl<=B:=λ h0=>by rw[h.r.k0 h0];exact hb h0
theorem zI.to{c:Nat}(h:zI C k a c s σ s1 τ)(j1:J C s σ):AtQ C s σ s1 τ:=h.r.to j1
theorem Gd.aBA:∀{d:Nat} {T:Tr} {s:Mm} {σ:Gs},Gd C B k Q d T s σ->Gd C B k Q (d+1) T s σ
 | 0,_,_,_,g=>.inl g
 | d+1,_,_,_,g=>g.imp_right λ⟨h1,h2,h3⟩=>⟨h1,h2,λ s' σ' f=>by obtain⟨a,σ2,b,c⟩:=h3 s' σ' f;exact⟨a,σ2,b,Gd.aBA c⟩⟩
theorem Gd.mono{d:Nat}{T:Tr}(g:Gd C B k Q d T s σ)(hl:d<=e):Gd C B k Q e T s σ:=by
 obtain⟨c,rfl⟩:=Nat.exists_eq_add_of_le hl;clear hl;induction c with
 | zero=>exact g
 | succ c ih=>exact ih.aBA
theorem Gd.fm(hQ:∀r,nQ C k (Q r))(j1:J C s σ):∀{d:Nat} {T:Tr},Gd C B k Q d T s σ->Is C B k s σ s1 τ->Gd C B k Q d T s1 τ
 | 0,_,⟨r,e,q⟩,f=>⟨r,e,(hQ r).run (λ j h=>h.1) f.r j1 q⟩
 | d+1,_,.inl ⟨r,e,q⟩,f=>.inl ⟨r,e,(hQ r).run (λ j h=>h.1) f.r j1 q⟩
 | d+1,_,.inr ⟨h1,h2,h3⟩,f=>.inr ⟨h1,h2,λ s' σ' f2=>h3 s' σ' (f.trans f2)⟩
theorem fY.mono{e:Nat}(g:fY C B k Q a d t s σ)(hl:d<=e):fY C B k Q a e t s σ:=λ s' σ' f2=>by obtain⟨h,σ2,b,c⟩:=g s' σ' f2;exact⟨h,σ2,b,c.mono hl⟩
theorem fY.more(g:fY C B k Q a d t s σ)(hl:a<=e):fY C B k Q e d t s σ:=λ s' σ' f2=>by obtain⟨h,σ2,b,c⟩:=g s' σ' f2;exact⟨h,σ2,b.le hl (Nat.le_refl _),c⟩
theorem wj(q:Q r s σ):Gd C B k Q d (.done r) s σ:=by
 cases d with
 | zero=>exact⟨r,rfl,q⟩
 | succ d=>exact .inl ⟨r,rfl,q⟩
theorem M7(q:∀s' σ',Is C B k s σ s' σ'->Q r s' σ'):fY C B k Q a d (.done r) s σ:=λ s' σ' f=>⟨λ e=>Tr.noConfusion e,σ',.refl,wj (q s' σ' f)⟩
theorem Zk{c:Int}{kk:Int->Tr}(g:∀s' σ',Is C B k s σ s' σ'->∃σ2,zI C k 0 0 s' σ' s' σ2/\fY C B k Q 64 d (kk (aL s'.cs c)) s' σ2):fY C B k Q a (d+1) (.load c kk) s σ:=λ s' σ' f =>
 ⟨λ e=>Tr.noConfusion e,σ',.refl,.inr ⟨rfl,rfl,λ s2 σ2 f2=>by obtain⟨σ3,st,g2⟩:=g s2 σ2 (f.trans f2);obtain⟨e,σ4,st2,g3⟩:=g2 s2 σ3 (.refl (st.to f2.j).j (st.fb f2.b));exact⟨e,σ4,(st.trans st2).le (by omega) (by omega),g3⟩⟩⟩
theorem aEm{c:Int}{kk:Int->Tr}(g:∀s' σ',Is C B k s σ s' σ'->fY C B k Q 64 d (kk (aL s'.cs c)) s' σ'):fY C B k Q a (d+1) (.load c kk) s σ:=Zk λ s' σ' f=>⟨σ',.refl,g s' σ' f⟩
theorem Vj{c:Int}{kk:Bool->Tr}(g:∀s' σ',Is C B k s σ s' σ'->∃σ2,zI C k 0 1 s' σ' (iB s' c o n) σ2/\fY C B k Q 64 d (kk (Ic s'.cs c o)) (iB s' c o n) σ2):fY C B k Q a (d+1) (.qG c o n kk) s σ:=λ s' σ' f =>
 ⟨λ e=>Tr.noConfusion e,σ',.refl,.inr ⟨rfl,rfl,λ s2 σ2 f2=>by obtain⟨σ3,st,g2⟩:=g s2 σ2 (f.trans f2);obtain⟨e,σ4,st2,g3⟩:=g2 _ σ3 (.refl (st.to f2.j).j (st.fb f2.b));exact⟨e,σ4,(st.trans st2).le (by omega) (by omega),g3⟩⟩⟩
theorem ul{c:Int}(h:aL s.cs c≠o)(h1:1<=c)(h2:c<=s.cs.length):iB s c o n=s/\Ic s.cs c o=false:=by obtain⟨e1,e2⟩:=aCN (n:=n) h h1 h2;exact⟨by show Mm.mk s.nodes (gG s.cs c o n) s.gen s.pv=s;rw[e1],e2⟩
theorem aBY{t2:Tr}(e:∀s' σ',Is C B k s σ s' σ'->iR t s'=iR t2 s')(g:fY C B k Q a d t2 s σ):fY C B k Q a d t s σ:=λ s' σ' f=>by rw[e s' σ' f];exact g s' σ' f
theorem aAt{r:Int}{kk:Nv->Tr}(j1:J C s σ)(hr:r<=s.nodes.length)(g:fY C B k Q a d (kk (aB s.nodes r)) s σ):fY C B k Q a d (.node r kk) s σ:=aBY (λ s' σ' f=>by rw[iR,(f.kx j1).nd r hr]) g
theorem kb{v:Nv}{x:Int}{kk:Int->Tr}(g:∀s' σ',Is C B k s σ s' σ'->fY C B k Q a d (kk ((s'.nodes.length+1:Nat):Int)) (s'.push v x) σ'):fY C B k Q (a+1) d (.alloc v x kk) s σ:=λ s' σ' f=>by have st:zI C k 1 0 s' σ' (s'.push v x) σ':=.one (.inl rfl) (.push v x) (by rw[eV];exact Nat.le_refl _) (Fi s' v x).2 (Nat.le_refl _) (by show s'.gen<=s'.gen+1;omega);obtain⟨e,σ4,st2,g3⟩:=g s' σ' f _ σ' (.refl (st.to f.j).j (st.fb f.b));exact⟨e,σ4,(st.trans st2).le (by omega) (by omega),g3⟩
end
end
section
section
variable(C:KP)(j:Nat)(s:Mm)(σ:Gs)(s1:Mm)(τ:Gs)
inductive SmS:Prop where
 | same (e:aL s1.cs 3=aL s.cs 3) (h:∀t,Rg s t->fH s1 t=fH s t) (hR:τ.R=σ.R) (ha:τ.ar=σ.ar) (hk:τ.kl=σ.kl)
 | arm (v:Int) (e:aL s.cs 3=v) (d:tI s v) (z:fH s v=0) (m:cN s 4=(aB s.nodes v).exp) (hs:s1=s) (hR:τ.R=σ.R) (ha:τ.ar=true) (hk:τ.kl=σ.kl)
 | inst (v:Int) (h0:j=0) (e:aL s.cs 3=4) (e1:aL s1.cs 3=v) (d:tI s v) (z:fH s v=0) (h:∀t,Rg s t->fH s1 t=fH s t) (hR:τ.R=σ.R) (ha:τ.ar=σ.ar) (hk:τ.kl=σ.kl)
 | kill (v:Int) (hj:j≠0) (h3:j=3->cN s 4≠(aB s.nodes v).exp) (e:aL s.cs 3=v) (e1:aL s1.cs 3=v) (d:tI s v) (z:fH s v=0) (z1:fH s1 v=2) (h:∀t,Rg s t->t≠v->fH s1 t=fH s t) (hR:τ.R=σ.R) (ha:τ.ar=false) (hk:τ.kl=if j=3 then σ.kl else σ.kl+1)
 | yes (v:Int) (e:aL s.cs 3=v) (e1:aL s1.cs 3=v) (d:tI s v) (z:fH s v=0) (z1:fH s1 v=1) (h:∀t,Rg s t->t≠v->fH s1 t=fH s t) (h0:σ.R=0) (hR:τ.R=(aB s.nodes v).new) (a0:σ.ar=true) (ha:τ.ar=false) (hk:τ.kl=σ.kl)
 | comp (v:Int) (e:aL s.cs 3=v) (d:tI s v) (z:fH s v≠0) (e1:aL s1.cs 3=if fH s v=1 then(aB s.nodes v).new else 4) (h:∀t,Rg s t->fH s1 t=fH s t) (hR:τ.R=σ.R) (ha:τ.ar=σ.ar) (hk:τ.kl=σ.kl)
inductive SmM:Prop where
 | same (h:∀t,Rg s t->cN s1 t=cN s t/\eT s1 t=eT s t) (hR:τ.R=σ.R∨σ.R=0)
 | put (r q:Int) (ws:List Nat) (hr:(r=4/\ws=jJ σ.us)∨(r=σ.R/\σ.R≠0/\ws=σ.us)) (z:eT s (cN s r)=0) (hj:j<2) (hu:j∉σ.us) (c:Ct C s q (cont (j::ws))) (p:eT s q=cN s r) (e:cN s1 r=q) (o:∀t,Rg s t->t≠r->cN s1 t=cN s t) (h:∀t,Rg s t->eT s1 t=eT s t) (hs:τ=σ)
 | mU (r y:Int) (u:Nat) (hr:(r=4/\σ.R=0/\σ.ar=false)∨(r=σ.R/\σ.R≠0)) (p:eT s (cN s r)=y) (y0:y≠0) (hu:u<2) (hn:u∉σ.us) (c:Ct C s (cN s r) (cont (u::σ.us))) (e:eT s1 (cN s r)=0) (o:∀t,Rg s t->t≠cN s r->eT s1 t=eT s t) (h:∀t,Rg s t->cN s1 t=cN s t) (hs:τ=⟨u::σ.us,σ.R,σ.ar,σ.kl⟩)
 | fail (y f:Int) (hR:σ.R≠0) (p:eT s (cN s 4)=y) (k:(aB s.nodes y).kind=3) (w:Nz s f y) (e:eT s1 (cN s 4)=f) (o:∀t,Rg s t->t≠cN s 4->eT s1 t=eT s t) (h:∀t,Rg s t->cN s1 t=cN s t) (hs:τ=σ)
 | back (y f:Int) (hR:σ.R≠0) (p:eT s (cN s 4)=f) (w:Nz s f y) (e:cN s1 4=y) (o:∀t,Rg s t->t≠4->cN s1 t=cN s t) (h:∀t,Rg s t->eT s1 t=eT s t) (hs:τ=σ)
end
section
variable{C:KP}{s s1 s2:Mm}{σ τ:Gs}{r t m v x y f:Int}{j u:Nat}{ws a:List Nat}
theorem tC(h:J C s σ)(g:sY C s j σ s1 τ):SmS j s σ s1 τ:=by
 have ly:=h.ly;have m4r:=h.m4.rg;cases g with
 | push w x=>exact .same (C3 (by have:=ly.c;omega)) (λ t ht=>(ly.jA w x ht).2.2) rfl rfl rfl
 | gen g hg=>exact .same rfl (λ _ _=>rfl) rfl rfl rfl
 | arm v e d z m=>exact .arm v e d z m rfl rfl rfl rfl
 | inst v h0 hR e d z w i=>exact .inst v h0 e (yH ly e) d z (λ t ht=>(vF ly e ht).2.2) rfl rfl rfl
 | kill v hj h3 e d z=>obtain⟨-,-,-,e1,e2,-,e4⟩:=yE (n:=2) ly d z;exact .kill v hj h3 e (e1.trans e) d z e2 e4 rfl rfl rfl
 | yes v e d z a=>
  obtain⟨-,-,-,e1,e2,-,e4⟩:=yE (n:=1) ly d z;refine .yes v e (e1.trans e) d z e2 e4 ?_ rfl a rfl rfl;rcases h.W2 e d with⟨_,h1,_⟩|⟨h1,_⟩|⟨h1,_⟩
  ·exact h1
  ·rw[z] at h1;cases h1
  ·rw[z] at h1;cases h1
 | comp v e d z=>exact .comp v e d z (yH ly e) (λ t ht=>(vF ly e ht).2.2) rfl rfl rfl
 | put r q ws hr z hj hu c p=>
  have hR2:Rg s r/\(aB s.nodes r).kind=2:=by
   rcases hr with⟨e1,_⟩|⟨e1,h1,_⟩<;>subst e1;·exact⟨h.sF,h.k4⟩
   ·exact⟨(h.mR h1).1,(h.mR h1).2.1⟩
  obtain⟨e1,-,e3,-⟩:=Bg (n:=q) ly hR2.1 hR2.2 rfl;exact .same e1 (λ t ht=>(e3 t ht).2) rfl rfl rfl
 | mU r y u hr p y0 hu hn c=>obtain⟨e1,-,e3,-⟩:=xZ (n:=0) ly c.r c.kd p;exact .same e1 (λ t ht=>(e3 t ht).2) rfl rfl rfl
 | fail y f hR p hk w=>obtain⟨e1,-,e3,-⟩:=xZ (n:=f) ly m4r.1 m4r.2 p;exact .same e1 (λ t ht=>(e3 t ht).2) rfl rfl rfl
 | back y f hR p w=>obtain⟨e1,-,e3,-⟩:=Bg (n:=y) ly h.sF h.k4 rfl;rw[h.n4] at e1 e3;exact .same e1 (λ t ht=>(e3 t ht).2) rfl rfl rfl
theorem yA(h:J C s σ)(g:sY C s j σ s1 τ):SmM C j s σ s1 τ:=by
 have ly:=h.ly;have m4r:=h.m4.rg;cases g with
 | push w x=>exact .same (λ t ht=>⟨(ly.jA w x ht).1,(ly.jA w x ht).2.1⟩) (.inl rfl)
 | gen g hg=>exact .same (λ _ _=>⟨rfl,rfl⟩) (.inl rfl)
 | arm v e d z m=>exact .same (λ _ _=>⟨rfl,rfl⟩) (.inl rfl)
 | inst v h0 hR e d z w i=>exact .same (λ t ht=>⟨(vF ly e ht).1,(vF ly e ht).2.1⟩) (.inl rfl)
 | kill v hj h3 e d z=>obtain⟨-,-,-,-,-,e3,-⟩:=yE (n:=2) ly d z;exact .same e3 (.inl rfl)
 | yes v e d z a=>
  obtain⟨-,-,-,-,-,e3,-⟩:=yE (n:=1) ly d z;refine .same e3 (.inr ?_);rcases h.W2 e d with⟨_,h1,_⟩|⟨h1,_⟩|⟨h1,_⟩
  ·exact h1
  ·rw[z] at h1;cases h1
  ·rw[z] at h1;cases h1
 | comp v e d z=>exact .same (λ t ht=>⟨(vF ly e ht).1,(vF ly e ht).2.1⟩) (.inl rfl)
 | put r q ws hr z hj hu c p=>
  have hR2:Rg s r/\(aB s.nodes r).kind=2:=by
   rcases hr with⟨e1,_⟩|⟨e1,h1,_⟩<;>subst e1;·exact⟨h.sF,h.k4⟩
   ·exact⟨(h.mR h1).1,(h.mR h1).2.1⟩
  obtain⟨-,e2,e3,e4⟩:=Bg (n:=q) ly hR2.1 hR2.2 rfl;exact .put r q ws hr z hj hu c p e2 e4 (λ t ht=>(e3 t ht).1) rfl
 | mU r y u hr p y0 hu hn c=>obtain⟨-,e2,e3,e4⟩:=xZ (n:=0) ly c.r c.kd p;exact .mU r y u hr p y0 hu hn c e2 e4 (λ t ht=>(e3 t ht).1) rfl
 | fail y f hR p hk w=>obtain⟨-,e2,e3,e4⟩:=xZ (n:=f) ly m4r.1 m4r.2 p;exact .fail y f hR p hk w e2 e4 (λ t ht=>(e3 t ht).1) rfl
 | back y f hR p w=>obtain⟨-,e2,e3,e4⟩:=Bg (n:=y) ly h.sF h.k4 rfl;rw[h.n4] at e2 e3 e4;exact .back y f hR p w e2 e4 (λ t ht=>(e3 t ht).1) rfl
def Ev(C:KP)(P:Mm->Gs->Prop):Prop:=∀j s σ s1 τ,J C s σ->AtQ C s σ s1 τ->sY C s j σ s1 τ->P s σ->P s1 τ
theorem Ev.kpt{P:Mm->Gs->Prop}(h:Ev C P)(k:Nat):nQ C k P:=λ j s σ s1 τ _=>h j s σ s1 τ
theorem Ev.run{P:Mm->Gs->Prop}{p:Nat->Prop}(h:Ev C P)(g:Jm C p s σ s1 τ)(j1:J C s σ)(h0:P s σ):P s1 τ:=by
 induction g with
 | refl=>exact h0
 | step g hp g2 ih=>have q1:=g.to j1;exact h _ _ _ _ _ q1.j (Aa q1.j g2) g2 ih
structure Vm(C:KP)(a:List Nat)(m:Int)(s:Mm)(σ:Gs):Prop where
 z:eT s m=0
 c:∃ws,a <:+ ws/\ws <:+ σ.us/\Ct C s m (cont ws)
theorem Vm.rg(h:Vm C a m s σ):Rg s m:=by obtain⟨ws,_,_,c⟩:=h.c;exact c.r
theorem Vm.kd(h:Vm C a m s σ):(aB s.nodes m).kind=3:=by obtain⟨ws,_,_,c⟩:=h.c;exact c.kd
theorem Vm.suf(h:Vm C a m s σ):a <:+ σ.us:=by obtain⟨ws,h1,h2,c⟩:=h.c;exact h1.trans h2
theorem Vm.ev(C:KP)(a:List Nat)(m:Int):Ev C (Vm C a m):=λ j s σ s1 τ j1 q g h=>by obtain⟨ws,h1,h2,c⟩:=h.c;exact⟨q.k.z m c.r h.z,ws,h1,h2.trans q.u,c.kx q.k⟩
structure Hv(v:Int)(s:Mm)(σ:Gs):Prop where
 d:tI s v
 h:(fH s v=0/\aL s.cs 3=v)∨fH s v=2∨(fH s v=1/\σ.R=(aB s.nodes v).new)
theorem Hv.ev(C:KP)(v:Int):Ev C (Hv v):=λ j s σ s1 τ j1 q g h=>by
 refine⟨h.d.kx q.k,?_⟩;rw[q.k.nd v h.d.r.b];have key:(fH s1 v=fH s v/\τ.R=σ.R/\(fH s v=0->aL s.cs 3=v->aL s1.cs 3=v))->(fH s1 v=0/\aL s1.cs 3=v)∨fH s1 v=2∨(fH s1 v=1/\τ.R=(aB s.nodes v).new):=λ⟨e1,e2,e3⟩=>by rw[e1,e2];exact h.h.imp_left λ⟨h1,h2⟩=>⟨h1,e3 h1 h2⟩
 cases tC j1 g with
 | same e h1 hR ha hk=>exact key ⟨h1 v h.d.r,hR,λ _ e2=>e.trans e2⟩
 | arm v' e d z m hs hR ha hk=>subst hs;exact key ⟨rfl,hR,λ _ e2=>e2⟩
 | inst v' h0 e e1 d z h1 hR ha hk=>exact key ⟨h1 v h.d.r,hR,λ _ e2=>by have:=h.d.k;rw[<- e2,e,j1.k4] at this;cases this⟩
 | kill v' hj3 h3 e e1 d z z1 h1 hR ha hk=>
  by_cases hv:v=v';·subst hv;exact .inr (.inl z1)
  ·exact key ⟨h1 v h.d.r hv,hR,λ _ e2=>absurd (e2.symm.trans e) hv⟩
 | yes v' e e1 d z z1 h1 h0 hR a0 ha hk=>
  by_cases hv:v=v';·subst hv;exact .inr (.inr ⟨z1,hR⟩)
  ·rw[h1 v h.d.r hv];rcases h.h with⟨_,h3⟩|h3|⟨_,h3⟩;·exact absurd (h3.symm.trans e) hv
   ·exact .inr (.inl h3)
   ·rw[h0] at h3;exact absurd h3.symm (eA h.d.n)
 | comp v' e d z e1 h1 hR ha hk=>exact key ⟨h1 v h.d.r,hR,λ h3 e2=>by have:v=v':=e2.symm.trans e;subst this;exact absurd h3 z⟩
structure XK(C:KP)(r x y:Int)(a:List Nat)(s:Mm)(σ:Gs):Prop where
 xr:Rg s x
 k:(aB s.nodes x).kind=3
 yv:Vm C a y s σ
 h:Vm C a x s σ∨(eT s x=y/\cN s r=x/\(r=4∨(r=σ.R/\σ.R≠0)))∨(r=4/\σ.R≠0/\∃f,eT s x=f/\Nz s f y)
theorem XK.ev(C:KP)(r x y:Int)(a:List Nat):Ev C (XK C r x y a):=λ j s σ s1 τ j1 q g h=>by
 have hy:=Vm.ev C a y j s σ s1 τ j1 q g h.yv;have yk:=h.yv.kd;refine⟨h.xr.le q.k.le,by rw[q.k.nd x h.xr.b];exact h.k,hy,?_⟩;rcases h.h with hv|⟨p1,p2,p3⟩|⟨hr,hR,f,p1,p2⟩
 ·exact .inl (Vm.ev C a x j s σ s1 τ j1 q g hv)
 ·have y0:y≠0:=eA h.yv.rg;have hrg:Rg s r:=by
   rcases p3 with p3|⟨p3,p4⟩;·rw[p3];exact j1.sF
   ·rw[p3];exact(j1.mR p4).1
  have eH:eT s1 x=eT s x->cN s1 r=cN s r->(τ.R=σ.R∨σ.R=0)->Vm C a x s1 τ∨(eT s1 x=y/\cN s1 r=x/\(r=4∨(r=τ.R/\τ.R≠0)))∨(r=4/\τ.R≠0/\∃f,eT s1 x=f/\Nz s1 f y):=λ e1 e2 e3=>.inr (.inl ⟨e1.trans p1,e2.trans p2,p3.imp_right λ⟨h1,h2⟩=>by
   rcases e3 with e3|e3;·rw[e3];exact⟨h1,h2⟩
   ·exact absurd e3 h2⟩)
  cases yA j1 g with
  | same e hR=>exact eH (e x h.xr).2 (e r hrg).1 hR
  | put r' q' ws hr z hj hu c p e o e2 hs=>
   have hne:r≠r':=λ e3=>by rw[<- e3,p2,p1] at z;exact y0 z
   exact eH (e2 x h.xr) (o r hrg hne) (.inl (by rw[hs]))
  | mU r' y' u hr p y0' hu hn c e o e2 hs=>
   by_cases hrr:r'=r;·subst hrr;refine .inl ⟨by rw[<- p2];exact e,u::σ.us,h.yv.suf.trans (List.suffix_cons _ _),by rw[hs];exact List.suffix_refl _,?_⟩;rw[<- p2];exact c.kx q.k
   ·refine eH (o x h.xr λ e3=>?_) (e2 r hrg) (.inl (by rw[hs]));rw[<- p2] at e3;rcases p3 with p3|⟨p3,p4⟩<;>rcases hr with⟨q1,q2,_⟩|⟨q1,q2⟩
    ·exact hrr (q1.trans p3.symm)
    ·rw[p3,q1] at e3;exact j1.mm q2 e3.symm
    ·exact p4 q2
    ·exact hrr (q1.trans p3.symm)
  | fail y' f hR p k w e o e2 hs=>
   by_cases hrr:r=4;·subst hrr;rw[p2] at p e;have:y'=y:=p.symm.trans p1;subst this;exact .inr (.inr ⟨rfl,by rw[hs];exact hR,f,e,w.kx q.k⟩)
   ·refine eH (o x h.xr λ e3=>?_) (e2 r hrg) (.inl (by rw[hs]));rcases p3 with p3|⟨p3,p4⟩
    ·exact hrr p3
    ·rw[<- p2,p3] at e3;exact j1.mm p4 e3
  | back y' f hR p w e o e2 hs=>refine eH (e2 x h.xr) (o r hrg λ e3=>?_) (.inl (by rw[hs]));rw[<- e3,p2,p1] at p;have:=w.k;rw[<- p,yk] at this;cases this
 ·have f0:f≠0:=eA p2.r
  have eH:eT s1 x=eT s x->τ.R=σ.R∨σ.R=0->Vm C a x s1 τ∨(eT s1 x=y/\cN s1 r=x/\(r=4∨(r=τ.R/\τ.R≠0)))∨(r=4/\τ.R≠0/\∃f,eT s1 x=f/\Nz s1 f y):=λ e1 e3=>.inr (.inr ⟨hr,by
   rcases e3 with e3|e3;·rw[e3];exact hR
   ·exact absurd e3 hR,f,e1.trans p1,p2.kx q.k⟩)
  cases yA j1 g with
  | same e hR=>exact eH (e x h.xr).2 hR
  | put r' q' ws hr z hj hu c p e o e2 hs=>exact eH (e2 x h.xr) (.inl (by rw[hs]))
  | mU r' y' u hr' p y0' hu hn c e o e2 hs=>
   refine eH (o x h.xr λ e3=>?_) (.inl (by rw[hs]));rcases hr' with⟨_,q2,_⟩|⟨q1,q2⟩
   ·exact hR q2
   ·obtain⟨y2,h1,h2,h3|⟨u2,h3,h4,h5,h6|⟨h7,_⟩⟩⟩:=(j1.mR hR).2.2.2;·rw[q1] at e3;rw[e3,h3,h2] at p1;exact f0 p1.symm
    ·rw[q1] at e3;rw[e3,h6] at p1;have:=p2.k;rw[<- p1,h1.kd] at this;cases this
    ·exact h7
  | fail y' f' hR' p k w e o e2 hs=>refine eH (o x h.xr λ e3=>?_) (.inl (by rw[hs]));rw[<- e3,p1] at p;have:=p2.k;rw[p,k] at this;cases this
  | back y' f' hR' p w e o e2 hs=>exact eH (e2 x h.xr) (.inl (by rw[hs]))
structure CK(x y:Int)(s:Mm)(σ:Gs):Prop where
 xr:Rg s x
 y0:y≠0
 h:eT s x=0∨(eT s x=y/\cN s 4=x/\σ.R=0/\σ.ar=false)
theorem CK.ev(C:KP)(x y:Int):Ev C (CK x y):=λ j s σ s1 τ j1 q g h=>by
 refine⟨h.xr.le q.k.le,h.y0,?_⟩;rcases h.h with h1|⟨p1,p2,p3,p4⟩;·exact .inl (q.k.z x h.xr h1)
 ·have y0:=h.y0;have hS:τ.R=0/\τ.ar=false:=by
   cases tC j1 g with
   | same e h1 hR ha hk=>exact⟨hR.trans p3,ha.trans p4⟩
   | arm v' e d z m hs hR ha hk=>rw[p2] at m;have:=d.z;rw[<- m,p1] at this;exact absurd this y0
   | inst v' h0 e e1 d z h1 hR ha hk=>exact⟨hR.trans p3,ha.trans p4⟩
   | kill v' hj3 h3 e e1 d z z1 h1 hR ha hk=>exact⟨hR.trans p3,ha⟩
   | yes v' e e1 d z z1 h1 h0 hR a0 ha hk=>rw[p4] at a0;cases a0
   | comp v' e d z e1 h1 hR ha hk=>exact⟨hR.trans p3,ha.trans p4⟩
  have eH:eT s1 x=eT s x->cN s1 4=cN s 4->eT s1 x=0∨(eT s1 x=y/\cN s1 4=x/\τ.R=0/\τ.ar=false):=λ e1 e2=>.inr ⟨e1.trans p1,e2.trans p2,hS⟩;cases yA j1 g with
  | same e hR=>exact eH (e x h.xr).2 (e 4 j1.sF).1
  | put r' q' ws hr z hj hu c p e o e2 hs=>refine eH (e2 x h.xr) (o 4 j1.sF λ e3=>?_);rw[<- e3,p2,p1] at z;exact y0 z
  | mU r' y' u hr p y0' hu hn c e o e2 hs=>
   rcases hr with⟨q1,q2,_⟩|⟨q1,q2⟩;·subst q1;rw[p2] at e;exact .inl e
   ·exact absurd p3 q2
  | fail y' f hR p k w e o e2 hs=>exact absurd p3 hR
  | back y' f hR p w e o e2 hs=>exact absurd p3 hR
structure Wt(x y v:Int)(s:Mm)(σ:Gs):Prop where
 hv:Hv v s σ
 xr:Rg s x
 y0:y≠0
 c:fH s v=2->CK x y s σ
 z:fH s v=0->eT s x=0∨(eT s x=y/\cN s 4=x)
theorem Wt.ev(C:KP)(x y v:Int):Ev C (Wt x y v):=λ j s σ s1 τ j1 q g h=>by
 have hv:=Hv.ev C v j s σ s1 τ j1 q g h.hv;have same:fH s1 v=fH s v->(fH s1 v=2->CK x y s1 τ):=λ e e2=>CK.ev C x y j s σ s1 τ j1 q g (h.c (e.symm.trans e2));refine⟨hv,h.xr.le q.k.le,h.y0,λ e2=>?_,λ e0=>?_⟩
 ·cases tC j1 g with
  | same e h1 hR ha hk=>exact same (h1 v h.hv.d.r) e2
  | arm v' e d z m hs hR ha hk=>exact same (by rw[hs]) e2
  | inst v' h0 e e1 d z h1 hR ha hk=>exact same (h1 v h.hv.d.r) e2
  | kill v' hj3 h3 e e1 d z z1 h1 hR ha hk=>
   by_cases hvv:v=v'
   ·subst hvv;refine⟨h.xr.le q.k.le,h.y0,?_⟩;have hR0:σ.R=0:=by
     rcases j1.W2 e d with⟨_,h1,_⟩|⟨h1,_⟩|⟨h1,_⟩;·exact h1
     ·rw[z] at h1;cases h1
     ·rw[z] at h1;cases h1
    rcases h.z z with h3|⟨h3,h4⟩;·exact .inl (q.k.z x h.xr h3)
    ·cases yA j1 g with
     | same e5 _=>exact .inr ⟨(e5 x h.xr).2.trans h3,(e5 4 j1.sF).1.trans h4,hR.trans hR0,ha⟩
     | put r' q' ws hr z' hj hu c p e5 o e6 hs=>refine .inr ⟨(e6 x h.xr).trans h3,(o 4 j1.sF λ e7=>?_).trans h4,hR.trans hR0,ha⟩;rw[<- e7,h4,h3] at z';exact h.y0 z'
     | mU r' y' u hr p y0' hu hn c e5 o e6 hs=>
      rcases hr with⟨q1,q2,_⟩|⟨q1,q2⟩;·subst q1;rw[h4] at e5;exact .inl e5
      ·exact absurd hR0 q2
     | fail y' f hR' p k w e5 o e6 hs=>exact absurd hR0 hR'
     | back y' f hR' p w e5 o e6 hs=>exact absurd hR0 hR'
   ·exact same (h1 v h.hv.d.r hvv) e2
  | yes v' e e1 d z z1 h1 h0 hR a0 ha hk=>
   by_cases hvv:v=v';·subst hvv;rw[z1] at e2;cases e2
   ·exact same (h1 v h.hv.d.r hvv) e2
  | comp v' e d z e1 h1 hR ha hk=>exact same (h1 v h.hv.d.r) e2
 ·have e0':fH s v=0:=by
   cases tC j1 g with
   | same e h1 hR ha hk=>exact(h1 v h.hv.d.r).symm.trans e0
   | arm v' e d z m hs hR ha hk=>rw[hs] at e0;exact e0
   | inst v' h0 e e1 d z h1 hR ha hk=>exact(h1 v h.hv.d.r).symm.trans e0
   | kill v' hj3 h3 e e1 d z z1 h1 hR ha hk=>
    by_cases hvv:v=v';·subst hvv;exact z
    ·exact(h1 v h.hv.d.r hvv).symm.trans e0
   | yes v' e e1 d z z1 h1 h0 hR a0 ha hk=>
    by_cases hvv:v=v';·subst hvv;exact z
    ·exact(h1 v h.hv.d.r hvv).symm.trans e0
   | comp v' e d z e1 h1 hR ha hk=>exact(h1 v h.hv.d.r).symm.trans e0
  have hc:aL s.cs 3=v:=by
   rcases h.hv.h with⟨_,h1⟩|h1|⟨h1,_⟩;·exact h1
   ·rw[e0'] at h1;cases h1
   ·rw[e0'] at h1;cases h1
  have hR0:σ.R=0:=by
   rcases j1.W2 hc h.hv.d with⟨_,h1,_⟩|⟨h1,_⟩|⟨h1,_⟩;·exact h1
   ·rw[e0'] at h1;cases h1
   ·rw[e0'] at h1;cases h1
  rcases h.z e0' with h3|⟨h3,h4⟩;·exact .inl (q.k.z x h.xr h3)
  ·cases yA j1 g with
   | same e5 _=>exact .inr ⟨(e5 x h.xr).2.trans h3,(e5 4 j1.sF).1.trans h4⟩
   | put r' q' ws hr z' hj hu c p e5 o e6 hs=>refine .inr ⟨(e6 x h.xr).trans h3,(o 4 j1.sF λ e7=>?_).trans h4⟩;rw[<- e7,h4,h3] at z';exact h.y0 z'
   | mU r' y' u hr p y0' hu hn c e5 o e6 hs=>
    rcases hr with⟨q1,q2,_⟩|⟨q1,q2⟩;·subst q1;rw[h4] at e5;exact .inl e5
    ·exact absurd hR0 q2
   | fail y' f hR' p k w e5 o e6 hs=>exact absurd hR0 hR'
   | back y' f hR' p w e5 o e6 hs=>exact absurd hR0 hR'
structure Am(v:Int)(s:Mm)(σ:Gs):Prop where
 hv:Hv v s σ
 a:fH s v≠0∨σ.ar=true
theorem Am.ev(C:KP)(v:Int):Ev C (Am v):=λ j s σ s1 τ j1 q g h=>by
 refine⟨Hv.ev C v j s σ s1 τ j1 q g h.hv,?_⟩;cases tC j1 g with
 | same e h1 hR ha hk=>rw[h1 v h.hv.d.r,ha];exact h.a
 | arm v' e d z m hs hR ha hk=>exact .inr ha
 | inst v' h0 e e1 d z h1 hR ha hk=>rw[h1 v h.hv.d.r,ha];exact h.a
 | kill v' hj3 h3 e e1 d z z1 h1 hR ha hk=>
  by_cases hvv:v=v';·subst hvv;exact .inl (by rw[z1];decide)
  ·rw[h1 v h.hv.d.r hvv];refine .inl λ h0=>?_;rcases h.hv.h with⟨_,h2⟩|h2|⟨h2,_⟩
   ·exact hvv (h2.symm.trans e)
   ·rw[h0] at h2;cases h2
   ·rw[h0] at h2;cases h2
 | yes v' e e1 d z z1 h1 h0 hR a0 ha hk=>
  by_cases hvv:v=v';·subst hvv;exact .inl (by rw[z1];decide)
  ·rw[h1 v h.hv.d.r hvv];refine .inl λ h0=>?_;rcases h.hv.h with⟨_,h2⟩|h2|⟨h2,_⟩
   ·exact hvv (h2.symm.trans e)
   ·rw[h0] at h2;cases h2
   ·rw[h0] at h2;cases h2
 | comp v' e d z e1 h1 hR ha hk=>rw[h1 v h.hv.d.r,ha];exact h.a
end
end
end Go.Proofs.YthblobahelfefaaGreatDoor
