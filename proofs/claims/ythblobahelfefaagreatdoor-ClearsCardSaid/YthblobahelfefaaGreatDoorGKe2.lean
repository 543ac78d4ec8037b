/- Merged. -/
import Derived.Test.YthblobahelfefaaGreatDoorGPc2
set_option linter.unusedSimpArgs false
set_option linter.unusedVariables false
namespace Go.Proofs.YthblobahelfefaaGreatDoor
open Go Go.RowKit Go.Ct
section
theorem oX{h l:Nat}(hl:l<=10):gO h l=((sl h l:Nat):Int):=by unfold gO En;rw[if_neg (by omega)];rfl
structure Q2(C:KP):Prop where
 ne:C.ky 0≠C.ky 1
 sz:∀u,u<2->(C.ky u).size<=64
theorem Q2.d{C:KP}(h:Q2 C){u x:Nat}(hu:u<2)(hx:x<2)(e:x≠u):C.ky x≠C.ky u:=by
 have h1:(u=0/\x=1)∨(u=1/\x=0):=by omega
 rcases h1 with⟨rfl,rfl⟩|⟨rfl,rfl⟩;·exact λ e=>h.ne e.symm
 ·exact h.ne
section
variable{C:KP}{s s1 s2:Mm}{r t a b m q:Int}{u x w:Nat}{c c':Nat->Bool}
theorem vu{p q:Pr}(hne:p.1≠q.1):tR (yN [p,q]) p.1=some p.2:=by have h0:yN [p,q]=pE [p] q.1 q.2:=uV [p] q;rw[h0,Bi p.1 (by simp[SA]),if_neg hne];exact if_pos rfl
structure Chk(C:KP)(s s1:Mm)(u x lvl n:Nat):Prop where
 kx:Kx s s1
 ly:Ly s1
 pu:xN C s1 u (n+2) lvl (s1.nodes.length:Int) (some (C.vl u))
 px:xN C s1 x (n+2) lvl (s1.nodes.length:Int) (some (C.vl x))
 z:eT s1 (s1.nodes.length:Int)=0
theorem Zo(hk:Q2 C)(hu:u<2)(hxu:x<2)(hne:x≠u):∀(n lvl:Nat) (s:Mm),SgX C s x b->lvl+n=mU (C.hs x) (C.hs u)->4<=s.nodes.length->Ly s->Chk C s (s.fZ (dN b (C.hs x) (C.hs u) (C.ky x,C.vl x) (C.ky u) (C.vl u) 1 (s.nodes.length+1) n lvl)) u x lvl n
 | 0,lvl,s,hx,hl,h4,ly=>by
  have hkne:=hk.d hu hxu hne;have hcl:=rJ (C.hs x) (C.hs u);unfold dN;by_cases h11:lvl=11
  ·rw[if_pos h11]
   subst h11
   obtain⟨o1,o2,o3,o4⟩:=aAG (p:=(C.ky x,C.vl x)) (q:=(C.ky u,C.vl u)) hkne
   have o5:=vu (p:=(C.ky x,C.vl x)) (q:=(C.ky u,C.vl u)) hkne;have e1:s.fZ [Od (C.hs u) (yN [(C.ky x,C.vl x),(C.ky u,C.vl u)])]=s.push (({Nd.zero with kind:=6,hash:=(C.hs u:Int)}:Nd).c [] (yN [(C.ky x,C.vl x),(C.ky u,C.vl u)])) 0:=rfl;rw[e1];have hol:=W3 [(C.ky x,C.vl x),(C.ky u,C.vl u)];simp only[List.length_cons,List.length_nil] at hol
   generalize yN [(C.ky x,C.vl x),(C.ky u,C.vl u)]=L at o1 o2 o3 o4 o5 hol;have hnl:=eV s (({Nd.zero with kind:=6,hash:=(C.hs u:Int)}:Nd).c [] L) 0;have en:=gW s (({Nd.zero with kind:=6,hash:=(C.hs u:Int)}:Nd).c [] L) 0;have hrg:Rg (s.push (({Nd.zero with kind:=6,hash:=(C.hs u:Int)}:Nd).c [] L) 0) ((s.nodes.length+1:Nat):Int):=⟨by omega,by omega⟩;have hp:∀v,tR L (C.ky v)=some (C.vl v)->xN C (s.push (({Nd.zero with kind:=6,hash:=(C.hs u:Int)}:Nd).c [] L) 0) v 2 11 ((s.nodes.length+1:Nat):Int) (some (C.vl v)):=λ v hv=>⟨hrg,by omega,.inr ⟨by rw[en];rfl,by rw[en];show L.length<=1000;omega,by rw[en];show _=cU L _;rw[oz o2];exact hv.symm⟩⟩;refine⟨ly.W6 _ _,ly.push _ _,?_,?_,?_⟩
   ·rw[hnl];exact hp u o4
   ·rw[hnl];exact hp x o5
   ·rw[hnl];exact wF (.inr rfl)
  ·rw[if_neg h11];have hlv:lvl=mU (C.hs x) (C.hs u):=by omega
   have hsn:sl (C.hs x) lvl≠sl (C.hs u) lvl:=by rw[hlv];exact N8 (by omega)
   obtain⟨t1,t2⟩:=aEF (x:=b) (s:=((s.nodes.length+1:Nat):Int)) (mI (C.hs x) lvl) (mI (C.hs u) lvl) hsn hx.r.a (by omega)
   generalize hb0:dF (dF 0 (sl (C.hs x) lvl:Int)) (sl (C.hs u) lvl:Int)=b0 at t1 t2;generalize hxs:two (sl (C.hs x) lvl) (sl (C.hs u) lvl) b ((s.nodes.length+1:Nat):Int)=xs0 at t1 t2;have e1:s.fZ [vM (C.hs u) (C.ky u) (C.vl u),y3 b0 xs0]=(s.push (qZ (C.hs u:Int) (C.ky u) (C.vl u)) 0).push (Pd b0 xs0) 0:=rfl;rw[e1];have x1:=ly.W6 (qZ (C.hs u:Int) (C.ky u) (C.vl u)) 0;have ly1:=ly.push (qZ (C.hs u:Int) (C.ky u) (C.vl u)) 0;have l1:=eV s (qZ (C.hs u:Int) (C.ky u) (C.vl u)) 0;have es:=gW s (qZ (C.hs u:Int) (C.ky u) (C.vl u)) 0;generalize s.push (qZ (C.hs u:Int) (C.ky u) (C.vl u)) 0=sa at x1 ly1 l1 es;have x2:=ly1.W6 (Pd b0 xs0) 0;have l2:=eV sa (Pd b0 xs0) 0;have en:=gW sa (Pd b0 xs0) 0;have es2:=x2.nd ((s.nodes.length+1:Nat):Int) (by omega);rw[es] at es2;have vc:=G3 t1 sa.cs.length;have hlk:∀k:Nat,k<64->lY (mM (Pd b0 xs0) sa.cs.length) (k:Int)=if k=sl (C.hs u) lvl then some ((s.nodes.length+1:Nat):Int) else if k=sl (C.hs x) lvl then some b else none:=λ k hk=>(vc.lk hk).trans (t2 k hk);have hrg:Rg (sa.push (Pd b0 xs0) 0) ((sa.nodes.length+1:Nat):Int):=⟨by omega,by omega⟩;have hx2:=hx.kx (x1.trans x2);refine⟨x1.trans x2,ly1.push _ _,?_,?_,?_⟩
   ·rw[l2]
    refine⟨hrg,by omega,.inl ⟨by rw[en];rfl,by omega,.inr ⟨((s.nodes.length+1:Nat):Int),?_,⟨by omega,by omega⟩,.inl ⟨by rw[es2];rfl,?_⟩⟩⟩⟩
    ·rw[en,oX (by omega),hlk _ (mI _ _),if_pos rfl]
    ·rw[es2];exact(if_pos rfl).symm
   ·rw[l2]
    refine⟨hrg,by omega,.inl ⟨by rw[en];rfl,by omega,.inr ⟨b,?_,hx2.r,.inl ⟨hx2.k,?_⟩⟩⟩⟩
    ·rw[en,oX (by omega),hlk _ (mI _ _),if_neg hsn,if_pos rfl]
    ·rw[if_pos hx2.y,hx2.v]
   ·rw[l2];exact wF (.inl rfl)
 | n+1,lvl,s,hx,hl,h4,ly=>by
  have hcl:=rJ (C.hs x) (C.hs u);obtain⟨kx,ly1,pu,px,hz⟩:=Zo hk hu hxu hne n (lvl+1) s hx (by omega) h4 ly
  unfold dN;rw[Lh];generalize hs1:s.fZ (dN b (C.hs x) (C.hs u) (C.ky x,C.vl x) (C.ky u) (C.vl u) 1 (s.nodes.length+1) n (lvl+1))=s1 at kx ly1 pu px hz ⊢;have hlen:s1.nodes.length=s.nodes.length+(dN b (C.hs x) (C.hs u) (C.ky x,C.vl x) (C.ky u) (C.vl u) 1 (s.nodes.length+1) n (lvl+1)).length:=by rw[<- hs1,mK]
  rw[show s.nodes.length+1-1+(dN b (C.hs x) (C.hs u) (C.ky x,C.vl x) (C.ky u) (C.vl u) 1 (s.nodes.length+1) n (lvl+1)).length=s1.nodes.length by omega,show s.nodes.length+1+(dN b (C.hs x) (C.hs u) (C.ky x,C.vl x) (C.ky u) (C.vl u) 1 (s.nodes.length+1) n (lvl+1)).length=s1.nodes.length+1 by omega];have hse:sl (C.hs x) lvl=sl (C.hs u) lvl:=V0 (by omega);obtain⟨t1,t2⟩:=aBk (mI (C.hs u) lvl) (r:=((s1.nodes.length+1:Nat):Int)) (by omega)
  generalize hb0:dF 0 (sl (C.hs u) lvl:Int)=b0 at t1 t2 ⊢;have e1:s1.fZ [A4 1 ((s1.nodes.length:Nat):Int),y3 b0 [((s1.nodes.length+1:Nat):Int)]]=(s1.push (dC 1) ((s1.nodes.length:Nat):Int)).push (Pd b0 [((s1.nodes.length+1:Nat):Int)]) 0:=rfl;rw[e1];have h4':=kx.le;have x2:=ly1.W6 (dC 1) ((s1.nodes.length:Nat):Int);have ly2:=ly1.push (dC 1) ((s1.nodes.length:Nat):Int);have l2:=eV s1 (dC 1) ((s1.nodes.length:Nat):Int);have ei:=gW s1 (dC 1) ((s1.nodes.length:Nat):Int);have em:cN (s1.push (dC 1) ((s1.nodes.length:Nat):Int)) ((s1.nodes.length+1:Nat):Int)=(s1.nodes.length:Int):=Mr rfl;generalize s1.push (dC 1) ((s1.nodes.length:Nat):Int)=s2 at x2 ly2 l2 ei em;have x3:=ly2.W6 (Pd b0 [((s1.nodes.length+1:Nat):Int)]) 0;have l3:=eV s2 (Pd b0 [((s1.nodes.length+1:Nat):Int)]) 0;have en:=gW s2 (Pd b0 [((s1.nodes.length+1:Nat):Int)]) 0;have vc:=G3 t1 s2.cs.length;have hlk:∀k:Nat,k<64->lY (mM (Pd b0 [((s1.nodes.length+1:Nat):Int)]) s2.cs.length) (k:Int)=if k=sl (C.hs u) lvl then some ((s1.nodes.length+1:Nat):Int) else none:=λ k hk=>(vc.lk hk).trans (t2 k hk);have hri:Rg s2 ((s1.nodes.length+1:Nat):Int):=⟨by omega,by omega⟩;have em3:=(ly2.jA (Pd b0 [((s1.nodes.length+1:Nat):Int)]) 0 hri).1.trans em;have ei3:=x3.nd ((s1.nodes.length+1:Nat):Int) (by omega);rw[ei] at ei3;have hrg:Rg (s2.push (Pd b0 [((s1.nodes.length+1:Nat):Int)]) 0) ((s2.nodes.length+1:Nat):Int):=⟨by omega,by omega⟩;have x23:=x2.trans x3;have hp:∀v,sl (C.hs v) lvl=sl (C.hs u) lvl->xN C s1 v (n+2) (lvl+1) (s1.nodes.length:Int) (some (C.vl v))->xN C (s2.push (Pd b0 [((s1.nodes.length+1:Nat):Int)]) 0) v (n+2+1) lvl ((s2.nodes.length+1:Nat):Int) (some (C.vl v)):=λ v hv hp=>⟨hrg,by omega,.inl ⟨by rw[en];rfl,by omega,.inr ⟨((s1.nodes.length+1:Nat):Int),by rw[en,oX (by omega),hlk _ (mI _ _),if_pos hv],⟨by omega,by omega⟩,.inr ⟨by rw[ei3];rfl,by rw[ei3];rfl,by omega,by rw[em3];exact x23.z _ hp.1 hz,by rw[em3];exact hp.kx x23⟩⟩⟩⟩;refine⟨kx.trans x23,ly2.push _ _,?_,?_,?_⟩
  ·rw[l3];exact hp u rfl pu
  ·rw[l3];exact hp x hse px
  ·rw[l3];exact wF (.inl rfl)
theorem xN.same{f:Nat}{r:Option Int}(g:xN C s w (f+1) 0 m r)(hq:Rg s q)(k3:(aB s.nodes m).kind=3)(kq:(aB s.nodes q).kind=3)(e:lY (aB s.nodes q) (gO (C.hs w) 0)=lY (aB s.nodes m) (gO (C.hs w) 0)):xN C s w (f+1) 0 q r:=by
 obtain⟨g1,g2,g3⟩:=g;refine⟨hq,g2,?_⟩;rcases g3 with⟨h1,h2,h3⟩|⟨h1,_⟩;·exact .inl ⟨kq,h2,by rw[e];exact h3⟩
 ·rw[k3] at h1;cases h1
theorem xN.noB{f:Nat}{r:Option Int}(g:xN C s w (f+1) 0 m r)(k3:(aB s.nodes m).kind=3)(e:lY (aB s.nodes m) (gO (C.hs w) 0)=none):r=none:=by
 obtain⟨g1,g2,g3⟩:=g;rcases g3 with⟨h1,h2,h3|⟨b,h3,_⟩⟩|⟨h1,_⟩;·exact h3.2
 ·rw[e] at h3;cases h3
 ·rw[k3] at h1;cases h1
theorem aCb{p:Bool}{v:Int}(h:(if p=true then some v else none)=none):p=false:=by
 cases p;·rfl
 ·cases h
structure Nw(C:KP)(s:Mm)(m q:Int)(c':Nat->Bool):Prop where
 ly:Ly s
 ct:Ct C s q c'
 pv:eT s q=m
abbrev Kb(C:KP)(u:Nat):Nv:=qZ (C.hs u:Int) (C.ky u) (C.vl u)
theorem aCj(hk:Q2 C)(ly:Ly s)(g:Ct C s m c)(hu:u<2)(hcu:c u=false)(hn:lY (aB s.nodes m) (gO (C.hs u) 0)=none)(hc:∀w,w<2->c' w=(u==w||c w)) :
  (K4 (aB s.nodes m).nd (aB s.nodes m).xs (aB s.nodes m).ys (aB s.nodes m).bm.toNat (gO (C.hs u) 0) ((s.nodes.length+1:Nat):Int)).isSome=true /\
  Kx s ((s.push (Kb C u) 0).push (Tm (aB s.nodes m) (gO (C.hs u) 0) ((s.nodes.length+1:Nat):Int)) m) /\
  Nw C ((s.push (Kb C u) 0).push (Tm (aB s.nodes m) (gO (C.hs u) 0) ((s.nodes.length+1:Nat):Int)) m) m ((s.nodes.length+1+1:Nat):Int) c':=by
 obtain⟨bb,vc⟩:=g.vc;rw[oX (by omega)] at hn ⊢;obtain⟨v1,v2,v3⟩:=aE5 vc (mI (C.hs u) 0) (r:=((s.nodes.length+1:Nat):Int)) (by omega) hn;have x1:=ly.W6 (Kb C u) 0;have ly1:=ly.push (Kb C u) 0;have l1:=eV s (Kb C u) 0;have es:=gW s (Kb C u) 0;generalize s.push (Kb C u) 0=sa at x1 ly1 l1 es;obtain⟨b',w1,w2⟩:=v3 sa.cs.length
 generalize Tm (aB s.nodes m) ((sl (C.hs u) 0:Nat):Int) ((s.nodes.length+1:Nat):Int)=v at v2 w1 w2;have x2:=ly1.W6 v m;have l2:=eV sa v m;have en:=gW sa v m;rw[l1] at en;have es2:=x2.nd ((s.nodes.length+1:Nat):Int) (by omega);rw[es] at es2;have hpv:eT (sa.push v m) ((sa.nodes.length+1:Nat):Int)=m:=wF (.inl v2);rw[l1] at hpv;have kx:=x1.trans x2;have hq:Rg (sa.push v m) ((s.nodes.length+1+1:Nat):Int):=⟨by omega,by omega⟩;have g2:=g.kx kx;have sg:SgX C (sa.push v m) u ((s.nodes.length+1:Nat):Int):=⟨⟨by omega,by omega⟩,by rw[es2];rfl,by rw[es2];rfl,by rw[es2];rfl,by rw[es2];rfl⟩;have em:=kx.nd m g.r.b;refine⟨v1,kx,ly1.push _ _,⟨hq,⟨b',by rw[en];exact w1⟩,λ w hw=>?_,λ h1 k hk2 b hb=>?_⟩,hpv⟩
 ·by_cases hs:sl (C.hs w) 0=sl (C.hs u) 0
  ·have hlk:lY (aB (sa.push v m).nodes ((s.nodes.length+1+1:Nat):Int)) (gO (C.hs w) 0)=some ((s.nodes.length+1:Nat):Int):=by rw[en,oX (by omega),hs,w2 _ (mI _ _),if_pos rfl]
   refine⟨hq,by omega,.inl ⟨by rw[en];exact v2,by omega,.inr ⟨_,hlk,sg.r,.inl ⟨sg.k,?_⟩⟩⟩⟩;rw[sg.y,sg.v,hc w hw];by_cases hwu:w=u;·subst hwu;rw[beq_self_eq_true,Bool.true_or,if_pos rfl,if_pos rfl]
   ·have h0:c w=false:=aCb ((g.p w hw).noB vc.kd (by rw[oX (by omega),hs];exact hn));rw[h0,beq_false_of_ne (λ e=>hwu e.symm),if_neg (by decide),if_neg (λ e=>hk.d hw hu (λ e=>hwu e.symm) e)]
  ·have hwu:w≠u:=λ e=>hs (by rw[e]);rw[hc w hw,beq_false_of_ne (λ e=>hwu e.symm),Bool.false_or];refine(g2.p w hw).same hq (by rw[em];exact vc.kd) (by rw[en];exact v2) ?_;rw[en,em,oX (by omega),w2 _ (mI _ _),if_neg hs]
 ·rw[en,w2 k hk2] at hb;by_cases hkk:k=sl (C.hs u) 0
  ·rw[if_pos hkk] at hb;injection hb with hb
   subst hb;exact⟨u,hu,by rw[hc u hu];simp,hkk,sg⟩
  ·rw[if_neg hkk,<- em] at hb;obtain⟨x,hx,h2,h3,h4⟩:=g2.sg (λ h=>h1 ⟨by rw[hc 0 (by decide),h.1];simp,by rw[hc 1 (by decide),h.2];simp⟩) k hk2 b hb;exact⟨x,hx,by rw[hc x hx,h2];simp,h3,h4⟩
theorem aFD(g:Ct C s m c)(hu:u<2)(hcu:c u=false)(hb:lY (aB s.nodes m) (gO (C.hs u) 0)=some b):∃x,x<2/\x≠u/\c x=true/\sl (C.hs x) 0=sl (C.hs u) 0/\SgX C s x b:=by
 rw[oX (by omega)] at hb;have h1:¬(c 0=true/\c 1=true):=λ h=>by
  have:u=0∨u=1:=by omega
  rcases this with rfl|rfl;·rw[h.1] at hcu;cases hcu
  ·rw[h.2] at hcu;cases hcu
 obtain⟨x,hx,h2,h3,h4⟩:=g.sg h1 _ (mI _ _) b hb;exact⟨x,hx,(λ e=>by rw[e,hcu] at h2;cases h2),h2,h3.symm,h4⟩
abbrev jM(C:KP)(u:Nat):jG:=⟨t3,C.ky u,C.hs u,C.vl u,0,0⟩
theorem aCe(hk:Q2 C)(ly:Ly s)(h4:4<=s.nodes.length)(g:Ct C s m c)(hu:u<2)(hxu:x<2)(hne:x≠u)(hcx:c x=true)(hsl:sl (C.hs x) 0=sl (C.hs u) 0)(sx:SgX C s x b)(hb:lY (aB s.nodes m) (gO (C.hs u) 0)=some b)(hc:∀w,w<2->c' w=(u==w||c w)) :
  lO (jM C u) (aB s.nodes b) 1 1 b/\∃s1:Mm,s.fZ (dL (jM C u) s b 1 1)=s1/\s1.nodes.length=s.nodes.length+(dL (jM C u) s b 1 1).length /\
  (Jn (aB s.nodes m).nd (aB s.nodes m).xs (aB s.nodes m).ys (aB s.nodes m).bm.toNat (gO (C.hs u) 0) ((s1.nodes.length+1:Nat):Int)).isSome=true /\
  Kx s ((s1.push (dC 1) (s1.nodes.length:Int)).push (Kn (aB s.nodes m) (gO (C.hs u) 0) ((s1.nodes.length+1:Nat):Int)) m) /\
  Nw C ((s1.push (dC 1) (s1.nodes.length:Int)).push (Kn (aB s.nodes m) (gO (C.hs u) 0) ((s1.nodes.length+1:Nat):Int)) m) m ((s1.nodes.length+1+1:Nat):Int) c':=by
 obtain⟨bb,vc⟩:=g.vc;have hkne:=hk.d hu hxu hne;have hnat:(aB s.nodes b).hash.toNat=C.hs x:=by rw[sx.h];rfl
 have hcom:1<=mU (C.hs x) (C.hs u):=aDk (by omega) λ j hj=>by
  have:j=0:=by omega
  subst this;exact hsl
 have hdk:lO (jM C u) (aB s.nodes b) 1 1 b:=⟨sx.k,hk.sz u hu,λ e=>hkne (by rw[<- sx.y];exact e.symm),by rw[hnat];exact hcom,by omega,by decide,sx.r.a⟩;have hch:=Zo hk hu hxu hne (b:=b) (mU (C.hs x) (C.hs u)-1) 1 s sx (by omega) h4 ly
 have hdl:dN b (C.hs x) (C.hs u) (C.ky x,C.vl x) (C.ky u) (C.vl u) 1 (s.nodes.length+1) (mU (C.hs x) (C.hs u)-1) 1=dL (jM C u) s b 1 1:=by unfold dL ma;rw[hnat,sx.y,sx.v]
 rw[hdl] at hch;have hpl:=mK (dL (jM C u) s b 1 1) s;refine⟨hdk,_,rfl,hpl,?_⟩;generalize s.fZ (dL (jM C u) s b 1 1)=s1 at hch hpl ⊢;obtain⟨kx,ly1,pu,px,hz⟩:=hch
 have h4':=kx.le;have hcl:=rJ (C.hs x) (C.hs u);rw[oX (by omega)] at hb ⊢;obtain⟨v1,v2,v3⟩:=aEV vc (mI (C.hs u) 0) (r:=((s1.nodes.length+1:Nat):Int)) (by omega) (by rw[hb];rfl)
 refine⟨v1,?_⟩;have x2:=ly1.W6 (dC 1) (s1.nodes.length:Int);have ly2:=ly1.push (dC 1) (s1.nodes.length:Int);have l2:=eV s1 (dC 1) (s1.nodes.length:Int);have ei:=gW s1 (dC 1) (s1.nodes.length:Int);have em:cN (s1.push (dC 1) (s1.nodes.length:Int)) ((s1.nodes.length+1:Nat):Int)=(s1.nodes.length:Int):=Mr rfl;generalize s1.push (dC 1) (s1.nodes.length:Int)=s2 at x2 ly2 l2 ei em;obtain⟨b',w1,w2⟩:=v3 s2.cs.length
 generalize Kn (aB s.nodes m) ((sl (C.hs u) 0:Nat):Int) ((s1.nodes.length+1:Nat):Int)=v at v2 w1 w2;have x3:=ly2.W6 v m;have l3:=eV s2 v m;have en:=gW s2 v m;rw[l2] at en;have hpv:eT (s2.push v m) ((s2.nodes.length+1:Nat):Int)=m:=wF (.inl v2);rw[l2] at hpv;have hri:Rg s2 ((s1.nodes.length+1:Nat):Int):=⟨by omega,by omega⟩;have em3:=(ly2.jA v m hri).1.trans em;have ei3:=x3.nd ((s1.nodes.length+1:Nat):Int) (by omega);rw[ei] at ei3;have x23:=x2.trans x3;have kx3:=kx.trans x23;have hq:Rg (s2.push v m) ((s1.nodes.length+1+1:Nat):Int):=⟨by omega,by omega⟩
 have hp:∀w,sl (C.hs w) 0=sl (C.hs u) 0->xN C s1 w (mU (C.hs x) (C.hs u)-1+2) 1 (s1.nodes.length:Int) (some (C.vl w))->xN C (s2.push v m) w 13 0 ((s1.nodes.length+1+1:Nat):Int) (some (C.vl w)):=λ w hw hp=>by have hp1:=(hp.le (e:=12) (by omega)).kx x23;exact⟨hq,by omega,.inl ⟨by rw[en];exact v2,by omega,.inr ⟨((s1.nodes.length+1:Nat):Int),by rw[en,oX (by omega),hw,w2 _ (mI _ _),if_pos rfl],hri.le x3.le,.inr ⟨by rw[ei3];rfl,by rw[ei3];rfl,by omega,by rw[em3];exact x23.z _ hp.1 hz,by rw[em3];exact hp1⟩⟩⟩⟩
 have hall:∀w,w<2->c' w=true:=λ w hw=>by
  rw[hc w hw];by_cases e:w=u;·subst e;simp
  ·have:w=x:=by omega
   subst this;rw[hcx];simp
 refine⟨kx3,ly2.push _ _,⟨hq,⟨b',by rw[en];exact w1⟩,λ w hw=>?_,λ h1=>absurd ⟨hall 0 (by decide),hall 1 (by decide)⟩ h1⟩,hpv⟩;rw[if_pos (hall w hw)];by_cases e:w=u;·subst e;exact hp w rfl pu
 ·have:w=x:=by omega
  subst this;exact hp w hsl px
end
end
section
section
variable(C:KP)(s:Mm)
structure tI(v:Int):Prop where
 r:Rg s v
 k:(aB s.nodes v).kind=8
 o:(aB s.nodes v).old=4
 e:Rg s (aB s.nodes v).exp
 z:eT s (aB s.nodes v).exp=0
 n:Rg s (aB s.nodes v).new
 nk:(aB s.nodes (aB s.nodes v).new).kind=2
 ng:(aB s.nodes (aB s.nodes v).new).gen≠1
structure Unt(v:Int):Prop where
 c:Ct C s (cN s (aB s.nodes v).new) (cont [])
 z:eT s (cN s (aB s.nodes v).new)=0
structure Nz(f y:Int):Prop where
 r:Rg s f
 k:(aB s.nodes f).kind=7
 o:(aB s.nodes f).old=y
def I8(r:Int)(ws:List Nat)(fo:Prop):Prop:=∃y,Ct C s y (cont ws)/\eT s y=0/\(cN s r=y∨∃u,u<2/\u∉ws/\Ct C s (cN s r) (cont (u::ws))/\(eT s (cN s r)=y∨(fo/\∃f,eT s (cN s r)=f/\Nz s f y)))
inductive RtO(σ:Gs):Prop where
 | a0 (e:aL s.cs 3=4) (h:σ.R=0) (a:σ.ar=false)
 | a1 (v:Int) (e:aL s.cs 3=v) (d:tI s v) (z:fH s v=0) (h:σ.R=0) (u:Unt C s v) (i:0∈σ.us) (a:σ.ar=true->cN s 4=(aB s.nodes v).exp∨eT s (cN s 4)=(aB s.nodes v).exp)
 | a2 (v:Int) (e:aL s.cs 3=v) (d:tI s v) (z:fH s v=2) (h:σ.R=0) (a:σ.ar=false)
 | b1 (v:Int) (e:aL s.cs 3=v) (d:tI s v) (z:fH s v=1) (h:σ.R=(aB s.nodes v).new) (a:σ.ar=false)
 | b2 (e:aL s.cs 3=σ.R) (h:σ.R≠0) (a:σ.ar=false)
structure J(σ:Gs):Prop where
 ly:Ly s
 l4:4<=s.nodes.length
 k4:(aB s.nodes 4).kind=2
 g4:(aB s.nodes 4).gen=1
 n4:(aB s.nodes 4).main=2
 rt:RtO C s σ
 m4:I8 C s 4 (jJ σ.us) (σ.R≠0)
 mR:σ.R≠0->Rg s σ.R/\(aB s.nodes σ.R).kind=2/\(aB s.nodes σ.R).gen≠1/\I8 C s σ.R σ.us False
 ph:σ.R=0↔2∉σ.us
 nd:σ.us.Nodup
 u0:2∈σ.us->0∈jJ σ.us
 gn:1<=s.gen
inductive sY(j:Nat)(σ:Gs):Mm->Gs->Prop where
 | push (v:Nv) (x:Int):sY j σ (s.push v x) σ
 | gen (g:Int) (hg:s.gen<=g):sY j σ ⟨s.nodes,s.cs,g,s.pv⟩ σ
 | arm (v:Int) (e:aL s.cs 3=v) (d:tI s v) (z:fH s v=0) (m:cN s 4=(aB s.nodes v).exp):sY j σ s ⟨σ.us,σ.R,true,σ.kl⟩
 | inst (v:Int) (h0:j=0) (h:σ.R=0) (e:aL s.cs 3=4) (d:tI s v) (z:fH s v=0) (u:Unt C s v) (i:0∈σ.us):sY j σ (iB s 3 4 v) σ
 | kill (v:Int) (hj:j≠0) (h3:j=3->cN s 4≠(aB s.nodes v).exp) (e:aL s.cs 3=v) (d:tI s v) (z:fH s v=0):sY j σ (iB s (aB s.nodes v).status 0 2) ⟨σ.us,σ.R,false,if j=3 then σ.kl else σ.kl+1⟩
 | yes (v:Int) (e:aL s.cs 3=v) (d:tI s v) (z:fH s v=0) (a:σ.ar=true):sY j σ (iB s (aB s.nodes v).status 0 1) ⟨2::σ.us,(aB s.nodes v).new,false,σ.kl⟩
 | comp (v:Int) (e:aL s.cs 3=v) (d:tI s v) (z:fH s v≠0):sY j σ (iB s 3 v (if fH s v=1 then(aB s.nodes v).new else 4)) σ
 | put (r q:Int) (ws:List Nat) (h:(r=4/\ws=jJ σ.us)∨(r=σ.R/\σ.R≠0/\ws=σ.us)) (z:eT s (cN s r)=0) (hj:j<2) (hu:j∉σ.us) (c:Ct C s q (cont (j::ws))) (p:eT s q=cN s r):sY j σ (iB s (aB s.nodes r).main (cN s r) q) σ
 | mU (r y:Int) (u:Nat) (h:(r=4/\σ.R=0/\σ.ar=false)∨(r=σ.R/\σ.R≠0)) (p:eT s (cN s r)=y) (y0:y≠0) (hu:u<2) (hn:u∉σ.us) (c:Ct C s (cN s r) (cont (u::σ.us))):sY j σ (iB s (aB s.nodes (cN s r)).prev y 0) ⟨u::σ.us,σ.R,σ.ar,σ.kl⟩
 | fail (y f:Int) (h:σ.R≠0) (p:eT s (cN s 4)=y) (k:(aB s.nodes y).kind=3) (w:Nz s f y):sY j σ (iB s (aB s.nodes (cN s 4)).prev y f) σ
 | back (y f:Int) (h:σ.R≠0) (p:eT s (cN s 4)=f) (w:Nz s f y):sY j σ (iB s 2 (cN s 4) y) σ
end
section
variable{C:KP}{s s1 s2:Mm}{σ τ:Gs}{r t a b m v c o n x y f:Int}{j u:Nat}{ws:List Nat}{fo:Prop}
theorem eA{m:Int}(h:Rg s m):m≠0:=by have:=h.a;omega
theorem oH(ly:Ly s)(ha:Rg s a)(hc:c=zV (aB s.nodes a))(h1:1<=c)(ho:aL s.cs c=o)(ht:Rg s t)(hne:t≠a):cN (iB s c o n) t=cN s t/\eT (iB s c o n) t=eT s t/\fH (iB s c o n) t=fH s t:=by
 have h2:c<=s.cs.length:=by obtain⟨-,-,-,-⟩:=ly.fit ha;obtain⟨d,q⟩:=ly.k a ha;have e1:=q.m;have e2:=q.p;have e3:=q.s;have h1:=q.a;have h2:=q.b;unfold zV at hc;split at e1<;>split at e2<;>split at e3<;>omega
 obtain⟨f1,f2,f3⟩:=ly.off ha ht hne (by omega);rw[<- hc] at f1 f2 f3;have hx:∀x,aL (gG s.cs c o n) x=if x=c then n else aL s.cs x:=λ x=>uR h1 h2 ho;exact⟨(hx _).trans (if_neg f1),(hx _).trans (if_neg f2),(hx _).trans (if_neg f3)⟩
theorem vF(ly:Ly s)(ho:aL s.cs 3=o)(ht:Rg s t):cN (iB s 3 o n) t=cN s t/\eT (iB s 3 o n) t=eT s t/\fH (iB s 3 o n) t=fH s t:=by obtain⟨f1,f2,f3,-⟩:=ly.fit ht;have hx:∀x,aL (gG s.cs 3 o n) x=if x=3 then n else aL s.cs x:=λ x=>uR (by omega) (by have:=ly.c;omega) ho;exact⟨(hx _).trans (if_neg f1.2.2),(hx _).trans (if_neg f2.2.2),(hx _).trans (if_neg f3.2.2)⟩
theorem yH(ly:Ly s)(ho:aL s.cs 3=o):aL (iB s 3 o n).cs 3=n:=by have:=ly.c;exact(uR (by omega) (by omega) ho).trans (if_pos rfl)
theorem Vv(h1:1<=c)(h2:c<=s.cs.length)(h3:c≠3)(ho:aL s.cs c=o):aL (iB s c o n).cs 3=aL s.cs 3:=(uR h1 h2 ho).trans (if_neg (λ e=>h3 e.symm))
theorem T5(h1:1<=c)(h2:c<=s.cs.length)(ho:aL s.cs c=o):aL (iB s c o n).cs c=n:=(uR h1 h2 ho).trans (if_pos rfl)
theorem Ly.iB(ly:Ly s):Ly (iB s c o n):=ly.up rfl gY
theorem tI.kx(d:tI s v)(h:Kx s s1):tI s1 v:=by have e:=h.nd v d.r.b;exact⟨d.r.le h.le,by rw[e];exact d.k,by rw[e];exact d.o,by rw[e];exact d.e.le h.le,by rw[e];exact h.z _ d.e d.z,by rw[e];exact d.n.le h.le,by rw[e,h.nd _ d.n.b];exact d.nk,by rw[e,h.nd _ d.n.b];exact d.ng⟩
theorem Unt.kx(w:Unt C s v)(h:Kx s s1)(hv:v<=s.nodes.length)(e:cN s1 (aB s.nodes v).new=cN s (aB s.nodes v).new):Unt C s1 v:=⟨by rw[h.nd v hv,e];exact w.c.kx h,by rw[h.nd v hv,e];exact h.z _ w.c.r w.z⟩
theorem Nz.kx(w:Nz s f y)(h:Kx s s1):Nz s1 f y:=⟨w.r.le h.le,by rw[h.nd f w.r.b];exact w.k,by rw[h.nd f w.r.b];exact w.o⟩
theorem I8.rg(h:I8 C s r ws fo):Rg s (cN s r)/\(aB s.nodes (cN s r)).kind=3:=by
 obtain⟨y,h1,h2,h3|⟨u,h3,h4,h5,h6⟩⟩:=h;·rw[h3];exact⟨h1.r,h1.kd⟩
 ·exact⟨h5.r,h5.kd⟩
theorem I8.kx(h:I8 C s r ws fo)(k:Kx s s1)(e1:cN s1 r=cN s r)(e2:eT s1 (cN s r)=eT s (cN s r)):I8 C s1 r ws fo:=by obtain⟨y,h1,h2,h3⟩:=h;refine⟨y,h1.kx k,k.z _ h1.r h2,?_⟩;rw[e1];refine h3.imp_right λ⟨u,h3,h4,h5,h6⟩=>⟨u,h3,h4,h5.kx k,?_⟩;rw[e2];exact h6.imp_right λ⟨h7,f,h8,h9⟩=>⟨h7,f,h8,h9.kx k⟩
theorem I8.imp{fo':Prop}(h:I8 C s r ws fo)(hf:fo->fo'):I8 C s r ws fo':=by obtain⟨y,h1,h2,h3⟩:=h;exact⟨y,h1,h2,h3.imp_right λ⟨u,h3,h4,h5,h6⟩=>⟨u,h3,h4,h5,h6.imp_right λ⟨h7,h8⟩=>⟨hf h7,h8⟩⟩⟩
theorem I8.set(h:I8 C s r ws fo)(z:eT s (cN s r)=0):Ct C s (cN s r) (cont ws):=by
 obtain⟨y,h1,h2,h3|⟨u,h3,h4,h5,h6|⟨h7,f,h8,h9⟩⟩⟩:=h;·rw[h3];exact h1
 ·exact absurd (h6.symm.trans z) (eA h1.r)
 ·exact absurd (h8.symm.trans z) (eA h9.r)
theorem J.sF(h:J C s σ):Rg s 4:=⟨by decide,by have:=h.l4;omega⟩
theorem J.two(h:J C s σ):cN s 4=aL s.cs 2:=by unfold cN;rw[h.n4]
theorem J.same(h:J C s σ)(ly:Ly s1)(k:Kx s s1)(e3:aL s1.cs 3=aL s.cs 3)(e:∀t,Rg s t->cN s1 t=cN s t/\eT s1 t=eT s t/\fH s1 t=fH s t)(hg:s.gen<=s1.gen):J C s1 σ:=by
 have h4:=k.nd 4 (by have:=h.l4;omega);have m4r:=h.m4.rg.1;refine⟨ly,Nat.le_trans h.l4 k.le,by rw[h4];exact h.k4,by rw[h4];exact h.g4,by rw[h4];exact h.n4,?_,h.m4.kx k (e 4 h.sF).1 (e _ m4r).2.1,λ hR=>?_,h.ph,h.nd,h.u0,by have:=h.gn;omega⟩
 ·cases h.rt with
  | a0 e1 h1 a=>exact .a0 (e3.trans e1) h1 a
  | a1 v e1 d z h1 u i a=>exact .a1 v (e3.trans e1) (d.kx k) ((e v d.r).2.2.trans z) h1 (u.kx k d.r.b (e _ d.n).1) i (by rw[(e 4 h.sF).1,k.nd v d.r.b,(e _ m4r).2.1];exact a)
  | a2 v e1 d z h1 a=>exact .a2 v (e3.trans e1) (d.kx k) ((e v d.r).2.2.trans z) h1 a
  | b1 v e1 d z h1 a=>exact .b1 v (e3.trans e1) (d.kx k) ((e v d.r).2.2.trans z) (by rw[k.nd v d.r.b];exact h1) a
  | b2 e1 h1 a=>exact .b2 (e3.trans e1) h1 a
 ·obtain⟨h1,h2,h3,h5⟩:=h.mR hR;exact⟨h1.le k.le,by rw[k.nd _ h1.b];exact h2,by rw[k.nd _ h1.b];exact h3,h5.kx k (e _ h1).1 (e _ h5.rg.1).2.1⟩
theorem vZ(hl:s1.nodes=s.nodes)(hc:s1.cs.length=s.cs.length)(z:∀m,Rg s m->eT s m=0->eT s1 m=0)(fx:∀b,Rg s b->(aB s.nodes b).kind=2->(aB s.nodes b).gen=1->b≠4->cN s1 b=cN s b):Kx s s1:=⟨by rw[hl];exact Nat.le_refl _,λ r _=>by rw[hl],by omega,z,fx⟩
theorem aCx(ly:Ly s)(ho:aL s.cs 3=o):Kx s (iB s 3 o n):=vZ rfl gY (λ m hm e=>(vF ly ho hm).2.1.trans e) λ b hb _ _ _=>(vF ly ho hb).1
theorem yE(ly:Ly s)(d:tI s v)(ho:fH s v=o):1<=(aB s.nodes v).status/\(aB s.nodes v).status<=s.cs.length/\(aB s.nodes v).status≠3/\aL (iB s (aB s.nodes v).status o n).cs 3=aL s.cs 3/\fH (iB s (aB s.nodes v).status o n) v=n/\(∀t,Rg s t->cN (iB s (aB s.nodes v).status o n) t=cN s t/\eT (iB s (aB s.nodes v).status o n) t=eT s t)/\∀t,Rg s t->t≠v->fH (iB s (aB s.nodes v).status o n) t=fH s t:=by
 obtain⟨a1,a2,a3,a4,a5⟩:=ly.stat d.r d.k;have hc:(aB s.nodes v).status=zV (aB s.nodes v):=by unfold zV;omega
 refine⟨a1,a2,a3,Vv a1 a2 a3 ho,T5 a1 a2 ho,λ t ht=>?_,λ t ht hne=>(oH ly d.r hc a1 ho ht hne).2.2⟩;by_cases e:t=v;·subst e;unfold cN eT;show aL (gG _ _ _ _) (aB s.nodes t).main=aL s.cs (aB s.nodes t).main/\aL (gG _ _ _ _) (aB s.nodes t).prev=aL s.cs (aB s.nodes t).prev;rw[a4,a5,jH (by omega),jH (by omega)];exact⟨rfl,rfl⟩
 ·exact⟨(oH ly d.r hc a1 ho ht e).1,(oH ly d.r hc a1 ho ht e).2.1⟩
theorem aBU(ly:Ly s)(d:tI s v)(ho:fH s v=o):Kx s (iB s (aB s.nodes v).status o n):=by obtain⟨-,-,-,-,-,h,-⟩:=yE (n:=n) ly d ho;exact vZ rfl gY (λ m hm e=>(h m hm).2.trans e) λ b hb _ _ _=>(h b hb).1
theorem Bg(ly:Ly s)(hr:Rg s r)(k:(aB s.nodes r).kind=2)(ho:cN s r=o):aL (iB s (aB s.nodes r).main o n).cs 3=aL s.cs 3/\cN (iB s (aB s.nodes r).main o n) r=n/\(∀t,Rg s t->eT (iB s (aB s.nodes r).main o n) t=eT s t/\fH (iB s (aB s.nodes r).main o n) t=fH s t)/\∀t,Rg s t->t≠r->cN (iB s (aB s.nodes r).main o n) t=cN s t:=by
 obtain⟨a1,a2,a3,a4,a5⟩:=ly.main hr k;have hc:(aB s.nodes r).main=zV (aB s.nodes r):=by unfold zV;omega
 refine⟨Vv a1 a2 a3 ho,T5 a1 a2 ho,λ t ht=>?_,λ t ht hne=>(oH ly hr hc a1 ho ht hne).1⟩;by_cases e:t=r;·subst e;unfold eT fH;show aL (gG _ _ _ _) (aB s.nodes t).prev=aL s.cs (aB s.nodes t).prev/\aL (gG _ _ _ _) (aB s.nodes t).status=aL s.cs (aB s.nodes t).status;rw[a4,a5,jH (by omega),jH (by omega)];exact⟨rfl,rfl⟩
 ·exact⟨(oH ly hr hc a1 ho ht e).2.1,(oH ly hr hc a1 ho ht e).2.2⟩
theorem aBx(ly:Ly s)(hr:Rg s r)(k:(aB s.nodes r).kind=2)(hg:r=4∨(aB s.nodes r).gen≠1)(ho:cN s r=o):Kx s (iB s (aB s.nodes r).main o n):=by
 obtain⟨-,-,h,h2⟩:=Bg (n:=n) ly hr k ho;refine vZ rfl gY (λ m hm e=>(h m hm).1.trans e) λ b hb k2 g1 h4=>h2 b hb λ e=>?_;rw[e] at g1 h4;rcases hg with hg|hg
 ·exact h4 hg
 ·exact hg g1
theorem xZ(ly:Ly s)(hr:Rg s m)(k:(aB s.nodes m).kind=3)(ho:eT s m=o):aL (iB s (aB s.nodes m).prev o n).cs 3=aL s.cs 3/\eT (iB s (aB s.nodes m).prev o n) m=n/\(∀t,Rg s t->cN (iB s (aB s.nodes m).prev o n) t=cN s t/\fH (iB s (aB s.nodes m).prev o n) t=fH s t)/\∀t,Rg s t->t≠m->eT (iB s (aB s.nodes m).prev o n) t=eT s t:=by
 obtain⟨a1,a2,a3,a4,a5⟩:=ly.prev hr (.inl k);have hc:(aB s.nodes m).prev=zV (aB s.nodes m):=by unfold zV;omega
 refine⟨Vv a1 a2 a3 ho,T5 a1 a2 ho,λ t ht=>?_,λ t ht hne=>(oH ly hr hc a1 ho ht hne).2.1⟩;by_cases e:t=m;·subst e;unfold cN fH;show aL (gG _ _ _ _) (aB s.nodes t).main=aL s.cs (aB s.nodes t).main/\aL (gG _ _ _ _) (aB s.nodes t).status=aL s.cs (aB s.nodes t).status;rw[a4,a5,jH (by omega),jH (by omega)];exact⟨rfl,rfl⟩
 ·exact⟨(oH ly hr hc a1 ho ht e).1,(oH ly hr hc a1 ho ht e).2.2⟩
theorem aBg(ly:Ly s)(hr:Rg s m)(k:(aB s.nodes m).kind=3)(ho:eT s m=o)(h0:o≠0):Kx s (iB s (aB s.nodes m).prev o n):=by obtain⟨-,-,h,h2⟩:=xZ (n:=n) ly hr k ho;refine vZ rfl gY (λ t ht e=>(h2 t ht λ e2=>?_).trans e) λ b hb k2 g1 h4=>(h b hb).1;rw[e2] at e;exact h0 (ho.symm.trans e)
theorem J.R4(h:J C s σ)(hR:σ.R≠0):σ.R≠4:=λ e=>by have:=(h.mR hR).2.2.1;rw[e] at this;exact this h.g4
theorem tI.n4(d:tI s v)(h:J C s σ):(aB s.nodes v).new≠4:=λ e=>by have:=d.ng;rw[e] at this;exact this h.g4
end
end
end Go.Proofs.YthblobahelfefaaGreatDoor
