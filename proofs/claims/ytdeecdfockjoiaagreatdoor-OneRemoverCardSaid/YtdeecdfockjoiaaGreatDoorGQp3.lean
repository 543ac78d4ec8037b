/- Merged. -/
import Derived.Test.YtdeecdfockjoiaaGreatDoorGQp1
import Derived.Test.YtdeecdfockjoiaaGreatDoorGVc1
set_option linter.unusedSimpArgs false
set_option linter.unusedVariables false
namespace Go.Proofs.YtdeecdfockjoiaaGreatDoor
open Go Go.RowKit Go.Ct
section
theorem K7{l:List Pr}:Ql l↔∀p∈l,p.1.size<=64:=by
 constructor;·intro h p hp;obtain⟨i,hi,e⟩:=List.mem_iff_getElem.1 hp;have:=h i hi;rw[iO hi,e] at this;exact this
 ·intro h i hi;rw[iO hi];exact h _ (List.getElem_mem hi)
theorem yk{k:Nat}(hk:k<64){r:Int}(hr:1<=r):BV (eI 0 (k:Int)) [r]/\∀j:Nat,j<64->G8 (eI 0 (k:Int)) [r] j=if j=k then some r else none:=by
 refine⟨ot hk hr,?_⟩;have h:=Ob Wj hk (by simp) hr;have e:=aCE hk r;rw[oL 0 hk] at e;rw[wJ 0 hk];rw[e] at h;intro j hj
 refine(h.2 j hj).trans ?_;unfold yz;by_cases h2:j=k;·rw[if_pos h2,if_pos h2]
 ·rw[if_neg h2,if_neg h2];simp[G8]
theorem aCb{k l:Nat}(hk:k<64)(hl:l<64)(hne:k≠l){x s:Int}(hx:1<=x)(hs:1<=s):BV (eI (eI 0 (k:Int)) (l:Int)) (two k l x s)/\∀j:Nat,j<64->G8 (eI (eI 0 (k:Int)) (l:Int)) (two k l x s) j=if j=l then some s else if j=k then some x else none:=by
 have h1:=yk hk hx;have hb:=aCp hk hl hne;rw[rX _ hl] at hb;have h:=Ob h1.1 hl hb hs;have e:=aCH hk hl x s;rw[oL _ hl] at e;rw[e] at h;rw[wJ _ hl];refine⟨h.1,λ j hj=>(h.2 j hj).trans ?_⟩;unfold yz;by_cases h2:j=l
 ·rw[if_pos h2,if_pos h2]
 ·rw[if_neg h2,if_neg h2];exact h1.2 j hj
theorem se{p q:Pr}(hne:p.1≠q.1):2<=(xV [p,q]).length/\SA (xV [p,q])/\(∀r∈xV [p,q],r=p∨r=q)/\qI (xV [p,q]) q.1=some q.2:=by
 have h0:xV [p,q]=qK [p] q.1 q.2:=Ay [p] q;have hs:SA [p]:=by simp[SA]
 refine⟨?_,Nu _,λ r hr=>?_,by rw[h0,B5 q.1 hs,if_pos rfl]⟩
 ·rw[h0,B6 hs];have:qI [p] q.1=none:=oG λ r hr=>by rw[List.mem_singleton.1 hr];exact hne
  rw[this];simp
 ·rw[h0] at hr;rcases Ho hr with h|h;·exact .inr h
  ·exact .inl (List.mem_singleton.1 h)
theorem Lw:∀(l r:List NI) (s:Mm),s.gB (l++r)=(s.gB l).gB r
 | [],_,_=>rfl
 | a::l,r,s=>Lw l r (s.push a.c0 a.init)
theorem Dh:∀(l:List NI) (s:Mm),s.cs.length<=(s.gB l).cs.length
 | [],_=>Nat.le_refl _
 | a::l,s=>Nat.le_trans (eJ (k:=a.c0.kind) (init:=a.init)).1 (Dh l (s.push a.c0 a.init))
theorem Kv:∀(l:List NI) (s:Mm),s.cs.length<=(s.gB l).cs.length/\(s.gB l).cs.length<=s.cs.length+l.length
 | [],_=>⟨Nat.le_refl _,Nat.le_refl _⟩
 | a::l,s=>by have h1:=eJ (k:=a.c0.kind) (cs:=s.cs) (init:=a.init);have h2:=Kv l (s.push a.c0 a.init);have h3:(s.push a.c0 a.init).cs.length=(gH a.c0.kind s.cs a.init).length:=rfl;exact⟨by show s.cs.length<=((s.push a.c0 a.init).gB l).cs.length;omega,by show((s.push a.c0 a.init).gB l).cs.length<=_;simp only[List.length_cons];omega⟩
theorem ru(c:jQ)(s:Mm)(x gen:Int)(level:Nat):(dL c s x gen level).length<=24:=by refine K2t ?_;intro h1 h2;show(dN x (aD s.nodes x).hash.toNat c.h ((aD s.nodes x).key,(aD s.nodes x).val) c.key c.val gen (s.nodes.length+1) (xR (aD s.nodes x).hash.toNat c.h-level) level).length<=24;omega
theorem zq{a b n:Nat}(hn:n<=11)(h:Nq n a b):n<=xR a b:=by refine Classical.byContradiction λ h2=>?_;exact Nn (h:=a) (k:=b) (by omega) (h _ (by omega))
theorem ux{a b n:Nat}(h:n<=xR a b):Nq n a b:=λ j hj=>Tp (by omega)
theorem W9{h:Int}{ys:List Pr}(h2:2<=ys.length)(hs:SA ys)(hsh:∀p∈ys,p.1.size<=64)(c:Nat):LV (fY (({Nd.zero with kind:=6,hash:=h}:Nd).c [] ys) c).nd (fY (({Nd.zero with kind:=6,hash:=h}:Nd).c [] ys) c).xs (fY (({Nd.zero with kind:=6,hash:=h}:Nd).c [] ys) c).ys:=⟨rfl,(wc (gen:=0) (n:=0) (c:=c) (h:=h) (Int.le_refl _) h2 (pV.2 hs) (K7.2 hsh)).1⟩
section
variable{H:ByteArray->Nat}{lb:Il}{s:Mm}{x:Int}{key:ByteArray}{u:Int}{p:Pr}
structure pi(H:ByteArray->Nat)(s:Mm)(x:Int)(k0:ByteArray):Prop where
 r:1<=x/\x<=s.nodes.length
 kd:(aD s.nodes x).kind=4
 hs:(aD s.nodes x).hash=(H k0:Int)
 ky:(aD s.nodes x).key=k0
 sz:k0.size<=64
theorem pi.ex{lb lb2:Il}{s2:Mm}{k0:ByteArray}(h:pi H s x k0)(e:Ex lb lb2 s s2):pi H s2 x k0:=⟨⟨h.r.1,by have:=h.r.2;have:=e.le;omega⟩,by rw[e.nd x h.r.2];exact h.kd,by rw[e.nd x h.r.2];exact h.hs,by rw[e.nd x h.r.2];exact h.ky,h.sz⟩
theorem pi.br{k0:ByteArray}{l h:Nat}(g:pi H s x k0)(ha:Nq l (H k0) h):BrO H lb s l h (sl (H k0) l) x:=⟨g.r.2,.inl ⟨g.kd,by rw[g.ky];exact g.hs,by rw[g.ky];exact g.sz,by rw[g.ky];exact ha,by rw[g.ky]⟩⟩
structure ChO(H:ByteArray->Nat)(lb:Il)(s s1:Mm)(key:ByteArray)(u:Int)(lvl:Nat):Prop where
 ex:∃lb1,Qt H lb1 s1/\Ex lb lb1 s s1/\Sf H lb1 s1 lvl (H key) (s1.nodes.length:Int)/\∃n,uQ lb1 s1 key (H key) u n lvl (s1.nodes.length:Int)
 z:aG s1.cs (aD s1.nodes (s1.nodes.length:Int)).prev=0
 cs:∀y:Int,y<=s.cs.length->aG s1.cs y=aG s.cs y
theorem Iz{s:Mm}{v:Nv}{i:Int}(h:v.kind=3∨v.kind=6):aG (s.push v i).cs (aD (s.push v i).nodes ((s.nodes.length+1:Nat):Int)).prev=i:=by rw[show aD (s.push v i).nodes ((s.nodes.length+1:Nat):Int)=fY v s.cs.length from kC _ _];show aG (gH v.kind s.cs i) (if v.kind=3∨v.kind=5∨v.kind=6 then _ else _)=_;rw[if_pos (by omega)];unfold gH;rw[if_pos (by omega)];exact sE _ _
theorem V3(hx0:pi H s x p.1)(hne:p.1≠key)(hks:key.size<=64):∀(n lvl:Nat) (s:Mm) (lb:Il),pi H s x p.1->lvl+n=xR (H p.1) (H key)->Qt H lb s->ChO H lb s (s.gB (dN x (H p.1) (H key) p key u 1 (s.nodes.length+1) n lvl)) key u lvl
 | 0,lvl,s,lb,hx,hl,qt=>by
  have hcl:=zZ (H p.1) (H key);unfold dN;by_cases h11:lvl=11
  ·rw[if_pos h11]
   subst h11
   obtain⟨o1,o2,o3,o4⟩:=se (p:=p) (q:=(key,u)) hne
   have e1:s.gB [Pa (H key) (xV [p,(key,u)])]=s.push (({Nd.zero with kind:=6,hash:=(H key:Int)}:Nd).c [] (xV [p,(key,u)])) 0:=rfl;rw[e1];have hlen:(s.push (({Nd.zero with kind:=6,hash:=(H key:Int)}:Nd).c [] (xV [p,(key,u)])) 0).nodes.length=s.nodes.length+1:=by show(_++[_]).length=_;simp
   have en:aD (s.push (({Nd.zero with kind:=6,hash:=(H key:Int)}:Nd).c [] (xV [p,(key,u)])) 0).nodes ((s.nodes.length+1:Nat):Int)=fY (({Nd.zero with kind:=6,hash:=(H key:Int)}:Nd).c [] (xV [p,(key,u)])) s.cs.length:=kC _ _;have hol:=X7 [p,(key,u)];simp only[List.length_cons,List.length_nil] at hol
   refine⟨⟨lb,wM qt (show(6:Int)≠2 by decide) (show(6:Int)≠8 by decide) 0,mL _ _ _ _,⟨⟨by omega,Int.le_refl _⟩,.inr ⟨rfl,?_,?_⟩⟩,0,?_⟩,?_,λ y hy=>jL (k:=(6:Int)) (i:=0) hy⟩
   ·rw[hlen,en]
    exact W9 o1 o2 (λ r hr=>by
     rcases o3 r hr with h|h<;>rw[h]
     ·exact hx.sz
     ·exact hks) _
   ·rw[hlen,en]
    show(xV [p,(key,u)]).length<=_
    have:=qt.l4;omega
   ·rw[hlen];refine .inr ⟨by rw[en];rfl,?_⟩;rw[en];show cS (xV [p,(key,u)]) key=some u
    rw[vW o2];exact o4
   ·rw[hlen];exact Iz (.inr rfl)
  ·rw[if_neg h11];have hlv:lvl=xR (H p.1) (H key):=by omega
   have hsn:sl (H p.1) lvl≠sl (H key) lvl:=by rw[hlv];exact Nn (by omega)
   have ha:Nq lvl (H p.1) (H key):=ux (by omega);obtain⟨t1,t2⟩:=aCb (x:=x) (s:=((s.nodes.length+1:Nat):Int)) (nJ (H p.1) lvl) (nJ (H key) lvl) hsn hx.r.1 (by omega)
   generalize hb0:eI (eI 0 (sl (H p.1) lvl:Int)) (sl (H key) lvl:Int)=b0 at t1 t2;generalize hxs:two (sl (H p.1) lvl) (sl (H key) lvl) x ((s.nodes.length+1:Nat):Int)=xs0 at t1 t2;have e1:s.gB [vQ (H key) key u,u4 b0 xs0]=(s.push (gA (H key:Int) key u) 0).push (Fq b0 xs0) 0:=rfl;rw[e1];have q1:=wM qt (v:=gA (H key:Int) key u) (show(4:Int)≠2 by decide) (show(4:Int)≠8 by decide) 0;have x1:=mL lb s (gA (H key:Int) key u) 0;have l1:(s.push (gA (H key:Int) key u) 0).nodes.length=s.nodes.length+1:=by show(_++[_]).length=_;simp
   have q2:=wM q1 (v:=Fq b0 xs0) (show(3:Int)≠2 by decide) (show(3:Int)≠8 by decide) 0;have x2:=mL lb (s.push (gA (H key:Int) key u) 0) (Fq b0 xs0) 0;have l2:((s.push (gA (H key:Int) key u) 0).push (Fq b0 xs0) 0).nodes.length=(s.push (gA (H key:Int) key u) 0).nodes.length+1:=by show(_++[_]).length=_;simp
   have en:aD ((s.push (gA (H key:Int) key u) 0).push (Fq b0 xs0) 0).nodes (((s.push (gA (H key:Int) key u) 0).nodes.length+1:Nat):Int)=fY (Fq b0 xs0) (s.push (gA (H key:Int) key u) 0).cs.length:=kC _ _;have es:aD (s.push (gA (H key:Int) key u) 0).nodes ((s.nodes.length+1:Nat):Int)=fY (gA (H key:Int) key u) s.cs.length:=kC _ _;have es2:=x2.nd ((s.nodes.length+1:Nat):Int) (by omega);rw[es] at es2;have sg:pi H ((s.push (gA (H key:Int) key u) 0).push (Fq b0 xs0) 0) ((s.nodes.length+1:Nat):Int) key:=⟨⟨by omega,by omega⟩,by rw[es2];rfl,by rw[es2];rfl,by rw[es2];rfl,hks⟩;have vc:=Et t1 (s.push (gA (H key:Int) key u) 0).cs.length;have hlk:∀k:Nat,k<64->iU (fY (Fq b0 xs0) (s.push (gA (H key:Int) key u) 0).cs.length) (k:Int)=if k=sl (H key) lvl then some ((s.nodes.length+1:Nat):Int) else if k=sl (H p.1) lvl then some x else none:=λ k hk=>(vc.lk hk).trans (t2 k hk);refine⟨⟨lb,q2,x1.trans x2,⟨⟨by omega,Int.le_refl _⟩,.inl ⟨by omega,⟨b0,by rw[l2,en];exact vc⟩,λ k hk b hb=>?_⟩⟩,0,?_⟩,?_,λ y hy=>?_⟩
   ·rw[l2,en,hlk k hk] at hb
    by_cases h1:k=sl (H key) lvl
    ·rw[if_pos h1] at hb;injection hb with hb
     rw[h1,<- hb];exact sg.br λ _ _=>rfl
    ·rw[if_neg h1] at hb
     by_cases h2:k=sl (H p.1) lvl
     ·rw[if_pos h2] at hb;injection hb with hb
      rw[h2,<- hb];exact(hx.ex (x1.trans x2)).br ha
     ·rw[if_neg h2] at hb;cases hb
   ·rw[l2];refine .inl ⟨by rw[en];rfl,_,?_,sg.kd,sg.ky,by rw[es2];rfl⟩;rw[en];unfold eP oU;rw[if_neg (by omega)];show iU _ ((sl (H key) lvl:Nat):Int)=_
    rw[hlk _ (nJ _ _),if_pos rfl]
   ·rw[l2];exact Iz (.inl rfl)
   ·refine(jL (k:=(3:Int)) (cs:=(s.push (gA (H key:Int) key u) 0).cs) (i:=0) ?_).trans (jL (k:=(4:Int)) (i:=0) hy);have:=eJ (k:=(4:Int)) (cs:=s.cs) (init:=0);show y<=((gH 4 s.cs 0).length:Int)
    omega
 | n+1,lvl,s,lb,hx,hl,qt=>by
  have hcl:=zZ (H p.1) (H key);obtain⟨⟨lb1,q1,x1,mn,n1,hm⟩,hz,hcs⟩:=V3 hx0 hne hks n (lvl+1) s lb hx (by omega) qt
  unfold dN;rw[Lw];generalize hs1:s.gB (dN x (H p.1) (H key) p key u 1 (s.nodes.length+1) n (lvl+1))=s1 at q1 x1 mn hm hz hcs ⊢;have hlen:s1.nodes.length=s.nodes.length+(dN x (H p.1) (H key) p key u 1 (s.nodes.length+1) n (lvl+1)).length:=by rw[<- hs1,nT]
  rw[show s.nodes.length+1-1+(dN x (H p.1) (H key) p key u 1 (s.nodes.length+1) n (lvl+1)).length=s1.nodes.length by omega,show s.nodes.length+1+(dN x (H p.1) (H key) p key u 1 (s.nodes.length+1) n (lvl+1)).length=s1.nodes.length+1 by omega]
  obtain⟨t1,t2⟩:=yk (nJ (H key) lvl) (r:=((s1.nodes.length+1:Nat):Int)) (by omega)
  generalize hb0:eI 0 (sl (H key) lvl:Int)=b0 at t1 t2 ⊢;have e1:s1.gB [Au 1 ((s1.nodes.length:Nat):Int),u4 b0 [((s1.nodes.length+1:Nat):Int)]]=(s1.push (eY 1) ((s1.nodes.length:Nat):Int)).push (Fq b0 [((s1.nodes.length+1:Nat):Int)]) 0:=rfl;rw[e1];have q2:=K9 q1 mn hz;have x2:=D4 lb1 s1 (eY 1) ((s1.nodes.length:Nat):Int) (lvl+1,H key);have l2:(s1.push (eY 1) ((s1.nodes.length:Nat):Int)).nodes.length=s1.nodes.length+1:=by show(_++[_]).length=_;simp
  generalize hlb:(λ r=>if r=((s1.nodes.length+1:Nat):Int) then(lvl+1,H key) else lb1 r:Il)=lb2 at q2 x2;have hlb2:lb2 ((s1.nodes.length+1:Nat):Int)=(lvl+1,H key):=by rw[<- hlb];exact if_pos rfl
  refine K3a ?_;intro ei ec;have hcl2:(s1.push (eY 1) ((s1.nodes.length:Nat):Int)).cs.length=s1.cs.length+1:=by show(gH 2 s1.cs _).length=_;unfold gH;rw[if_pos (by decide)];simp
  generalize hs2:s1.push (eY 1) ((s1.nodes.length:Nat):Int)=s2 at q2 x2 l2 ei ec hcl2 ⊢;have q3:=wM q2 (v:=Fq b0 [((s1.nodes.length+1:Nat):Int)]) (show(3:Int)≠2 by decide) (show(3:Int)≠8 by decide) 0;have x3:=mL lb2 s2 (Fq b0 [((s1.nodes.length+1:Nat):Int)]) 0;have l3:(s2.push (Fq b0 [((s1.nodes.length+1:Nat):Int)]) 0).nodes.length=s2.nodes.length+1:=by show(_++[_]).length=_;simp
  have en:aD (s2.push (Fq b0 [((s1.nodes.length+1:Nat):Int)]) 0).nodes ((s2.nodes.length+1:Nat):Int)=fY (Fq b0 [((s1.nodes.length+1:Nat):Int)]) s2.cs.length:=kC _ _;have vc:=Et t1 s2.cs.length;have hlk:∀k:Nat,k<64->iU (fY (Fq b0 [((s1.nodes.length+1:Nat):Int)]) s2.cs.length) (k:Int)=if k=sl (H key) lvl then some ((s1.nodes.length+1:Nat):Int) else none:=λ k hk=>(vc.lk hk).trans (t2 k hk);have ei3:=x3.nd ((s1.nodes.length+1:Nat):Int) (by omega);rw[ei] at ei3;have mainc:(fY (eY 1) s1.cs.length).main=((s1.cs.length+1:Nat):Int):=rfl;refine⟨⟨lb2,q3,(x1.trans x2).trans x3,⟨⟨by omega,Int.le_refl _⟩,.inl ⟨by omega,⟨b0,by rw[l3,en];exact vc⟩,λ k hk b hb=>?_⟩⟩,n1+1,?_⟩,?_,λ y hy=>?_⟩
  ·rw[l3,en,hlk k hk] at hb
   by_cases h1:k=sl (H key) lvl
   ·rw[if_pos h1] at hb;injection hb with hb
    rw[h1,<- hb]
    exact⟨by omega,.inr ⟨by rw[ei3];rfl,by rw[hlb2],by rw[hlb2];exact λ _ _=>rfl,by rw[hlb2]⟩⟩
   ·rw[if_neg h1] at hb;cases hb
  ·rw[l3]
   refine⟨by rw[en];rfl,((s1.nodes.length+1:Nat):Int),?_,by rw[ei3];rfl,by rw[hlb2],?_⟩
   ·rw[en]
    unfold eP oU
    rw[if_neg (by omega)]
    show iU _ ((sl (H key) lvl:Nat):Int)=_
    rw[hlk _ (nJ _ _),if_pos rfl]
   ·rw[ei3,mainc];have e9:aG (s2.push (Fq b0 [((s1.nodes.length+1:Nat):Int)]) 0).cs ((s1.cs.length+1:Nat):Int)=(s1.nodes.length:Int):=(jL (k:=(3:Int)) (i:=0) (by rw[hcl2];exact Int.le_refl _)).trans ec;rw[e9];refine uQ.iT (s:=s1) (s2:=s2.push (Fq b0 [((s1.nodes.length+1:Nat):Int)]) 0) (lb:=lb1) (lb2:=lb2) (λ r hr=>(x2.trans x3).iT r hr) (l0:=0) (λ j hj _=>?_) (Nat.zero_le _) hm;have hjr:=Kz hj (by decide);have hmj:=q1.ly.main hjr.1 hjr.2 hj;refine(jL (k:=(3:Int)) (cs:=s2.cs) (i:=0) (by omega)).trans ?_;rw[<- hs2];exact jL (k:=(2:Int)) hmj
  ·rw[l3];exact Iz (.inl rfl)
  ·refine(jL (k:=(3:Int)) (cs:=s2.cs) (i:=0) ?_).trans ?_
   ·rw[hcl2];have:s.cs.length<=s1.cs.length:=by rw[<- hs1];exact Dh _ _
    omega
   ·rw[<- hs2];refine(jL (k:=(2:Int)) (cs:=s1.cs) ?_).trans (hcs y hy);have:s.cs.length<=s1.cs.length:=by rw[<- hs1];exact Dh _ _
    omega
end
end
section
theorem pA{h l:Nat}(hl:l<=10):eP h l=((sl h l:Nat):Int):=by unfold eP oU;rw[if_neg (by omega)];rfl
theorem LV.sa{v:Nv}(h:LV v.nd v.xs v.ys):2<=v.ys.length/\SA v.ys/\∀p∈v.ys,p.1.size<=64:=by
 have hk:v.kind=6:=h.1;rcases h.2.2.2.2.2 with h|h|h|h|h|h|h
 ·exact absurd (h.symm.trans hk) (by decide)
 ·exact absurd (h.1.symm.trans hk) (by decide)
 ·exact absurd (h.1.symm.trans hk) (by decide)
 ·rcases h.1 with h|h<;>exact absurd (h.symm.trans hk) (by decide)
 ·exact⟨h.2.1,pV.1 h.2.2.1,K7.1 h.2.2.2⟩
 ·exact absurd (h.1.symm.trans hk) (by decide)
 ·exact absurd (h.1.symm.trans hk) (by decide)
theorem bs{l:List Pr}{k:ByteArray}{v:Int}(h:SA l){q:Pr}(hq:q∈rF l k v):q=(k,v)∨q∈l:=by rw[Fp h] at hq;exact Ho hq
section
variable{H:ByteArray->Nat}{B d:Nat}{Q:Rs->Mm->Prop}{c:jQ}
theorem jr{lb:Il}{s:Mm}{l h0 i:Nat}{v:Nv}{r:Int}{old:Nv}(hl:l<=10)(h1:∃b,VC (fY v s.cs.length) b)(h2:∀k:Nat,k<64->iU (fY v s.cs.length) (k:Int)=if k=i then some r else iU old (k:Int))(x:Int)
  (hb:∀k:Nat,k<64->∀b,iU old (k:Int)=some b->BrO H lb s l h0 k b) (hr:BrO H lb s l h0 i r):Sf H lb (s.push v x) l h0 ((s.nodes.length+1:Nat):Int):=by
 have en:aD (s.push v x).nodes ((s.nodes.length+1:Nat):Int)=fY v s.cs.length:=kC _ _;have e:=mL lb s v x;refine⟨⟨by omega,by show _<=(((s.nodes++[_]).length:Nat):Int);simp⟩,.inl ⟨hl,by rw[en];exact h1,λ k hk b hk2=>?_⟩⟩;rw[en,h2 k hk] at hk2;by_cases h3:k=i
 ·rw[if_pos h3] at hk2;injection hk2 with hk2
  rw[h3,<- hk2];exact hr.ex e
 ·rw[if_neg h3] at hk2;exact(hb k hk b hk2).ex e
theorem Xa(ht:c.t=t3)(hp:c.pol=0)(hh:c.h=H c.key)(hks:c.key.size<=64)(hH:∀k,H k<18446744073709551616){T:Tr}:∀(n l:Nat) (i:Int) (s:Mm) (lb:Il),Qt H lb s->(1<=i/\i<=s.nodes.length)->(aD s.nodes i).kind=2->(lb i).1=l->Nq l (lb i).2 c.h->12<=l+n->s.nodes.length<=1000->(s.nodes.length+30<=B/\s.cs.length+30<=B)->(∀s2 r,Wb H lb s c l i s2->Q r s2)->Al B Q (uS c T 1 n i l) (2*n+5) s
 | 0,l,i,s,lb,qt,hi,ki,hl,ha,hn,_,_,_=>by
  have:=(qt.all i hi.1 hi.2 ki).m.l11;omega
 | n+1,l,i,s,lb,qt,hi,ki,hl,ha,hn,hN,hB,hQ=>by
  have ii:=qt.all i hi.1 hi.2 ki;have mm:=ii.m;rw[hl] at mm;have hperm:∀f v,fQ c f v=true:=λ f v=>by unfold fQ;rw[hp];rfl
  show Al B Q (nG c.t i λ m=>qM c T 1 (uS c T 1 n) i l m) (2*n+5+2) s
  refine py ii.z ?_;have hlast:=λ{s1 lb1} {v:Nv} {K:Bool->Tr} (q1:Qt H lb1 s1) (e:Ex lb lb1 s s1) hcs hnn hk hm hh2 hK=>xI (e:=2*n+5) (tq (v:=v) (c:=c) (B:=B) (Q:=Q) (d:=0) (K:=K) hl hi ki qt q1 e hcs hnn hB hk hm hh2 hK) (by omega);rcases mm.c with⟨hl10,⟨b,vc⟩,hbr⟩|⟨hl11,hlv,hys⟩
  ·have hsl:=nJ c.h l;show Al B Q (if(aD s.nodes _).kind=6 then _ else if(aD s.nodes _).kind=3 then _ else _) (2*n+5) s
   rw[if_neg (by rw[vc.kd];decide),if_pos vc.kd]
   have hone:∀r':Int,pi H (s.push (gA c.h c.key c.val) 0) ((s.nodes.length+1:Nat):Int) c.key:=λ _=>by
    have es:aD (s.push (gA c.h c.key c.val) 0).nodes ((s.nodes.length+1:Nat):Int)=fY (gA c.h c.key c.val) s.cs.length:=kC _ _;exact⟨⟨by omega,by show _<=(((s.nodes++[_]).length:Nat):Int);simp⟩,by rw[es];rfl,by rw[es];show(c.h:Int)=_;rw[hh],by rw[es];rfl,hks⟩
   have q1:=wM qt (v:=gA c.h c.key c.val) (show(4:Int)≠2 by decide) (show(4:Int)≠8 by decide) 0;have x1:=mL lb s (gA c.h c.key c.val) 0;have l1:(s.push (gA c.h c.key c.val) 0).nodes.length=s.nodes.length+1:=by show(_++[_]).length=_;simp
   have c1:(s.push (gA c.h c.key c.val) 0).cs.length=s.cs.length:=rfl;have hagr:Nq l (H c.key) (lb i).2:=by rw[<- hh];exact ha.symm
   have hput:∀(v:Nv) (f:Bool) (u:Int),v.kind=3->(∀k,∃b',VC (fY v k) b'/\∀j:Nat,j<64->iU (fY v k) (j:Int)=if j=sl c.h l then some ((s.nodes.length+1:Nat):Int) else iU (aD s.nodes (aG s.cs (aD s.nodes i).main)) (j:Int)) ->
     Al B Q (.alloc v (aG s.cs (aD s.nodes i).main) λ q=>iN c.t i (aG s.cs (aD s.nodes i).main) q (uN T f u)) (2*n+5) (s.push (gA c.h c.key c.val) 0):=λ v f u hk hv=>by
    rw[ht]
    obtain⟨b',v1,v2⟩:=hv (s.push (gA c.h c.key c.val) 0).cs.length
    have sg:=hone 0;refine hlast q1 x1 (λ y _=>rfl) ⟨by omega,by omega⟩ (.inl hk) (jr hl10 ⟨b',v1⟩ v2 _ (λ k hk2 b2 e2=>(hbr k hk2 b2 e2).ex x1) ?_) ⟨0,?_⟩ λ s2 h2=>?_
    ·have h9:=sg.br (lb:=lb) hagr;rw[<- hh] at h9;exact h9
    ·have en:aD ((s.push (gA c.h c.key c.val) 0).push v (aG s.cs (aD s.nodes i).main)).nodes (((s.push (gA c.h c.key c.val) 0).nodes.length+1:Nat):Int)=fY v (s.push (gA c.h c.key c.val) 0).cs.length:=kC _ _;have es:=(mL lb (s.push (gA c.h c.key c.val) 0) v (aG s.cs (aD s.nodes i).main)).nd ((s.nodes.length+1:Nat):Int) (by omega);have es2:aD (s.push (gA c.h c.key c.val) 0).nodes ((s.nodes.length+1:Nat):Int)=fY (gA c.h c.key c.val) s.cs.length:=kC _ _;refine .inl ⟨by rw[en];exact hk,_,?_,by rw[es];exact sg.kd,by rw[es];exact sg.ky,by rw[es,es2];rfl⟩;rw[en,pA hl10,v2 _ hsl,if_pos rfl]
    ·exact hQ s2 _ h2
   cases hlk:iU (aD s.nodes (aG s.cs (aD s.nodes i).main)) (eP c.h l) with
   | none =>
    show Al B Q (if fQ c false 0=true then _ else _) (2*n+5) s
    rw[if_pos (hperm _ _)]
    refine⟨⟨by omega,by omega⟩,?_⟩
    rw[pA hl10] at hlk
    obtain⟨w1,w2,w3⟩:=aCD vc hsl (r:=((s.nodes.length+1:Nat):Int)) (by omega) hlk
    rw[<- pA hl10] at w1 w2 w3
    show Al B Q (if(O0 _ _ _ _ (eP c.h l) _).isSome=true then _ else _) (2*n+5) _
    rw[if_pos w1]
    exact hput _ _ _ w2 w3
   | some r =>
    have hlk2:=hlk;rw[pA hl10] at hlk2;have hbo:=hbr _ hsl r hlk2;have hr1:=vc.pos hsl hlk2;show Al B Q (if(aD s.nodes r).kind=4 then _ else if(aD s.nodes r).kind=2/\(aD s.nodes r).gen=1 then _ else _) (2*n+5) s
    rcases hbo.c with⟨k4,g1,g2,g3,g4⟩|⟨k2,g1,g2,g3⟩
    ·rw[if_pos k4]
     by_cases hkey:(aD s.nodes r).key=c.key
     ·rw[if_pos hkey]
      show Al B Q (if fQ c true _=true then _ else _) (2*n+5) s
      rw[if_pos (hperm _ _)]
      refine⟨⟨by omega,by omega⟩,?_⟩
      obtain⟨w1,w2,w3⟩:=ia vc hsl (r:=((s.nodes.length+1:Nat):Int)) (by omega) (by rw[hlk2];rfl)
      rw[<- pA hl10] at w1 w2 w3
      show Al B Q (if(Cy _ _ _ _ (eP c.h l) _).isSome=true then _ else _) (2*n+5) _
      rw[if_pos w1]
      exact hput _ _ _ w2 w3
     ·rw[if_neg hkey]
      show Al B Q (if fQ c false 0=true then _ else _) (2*n+5) s
      rw[if_pos (hperm _ _)];have hx0:pi H s r (aD s.nodes r).key:=⟨⟨hr1,hbo.le⟩,k4,g1,rfl,g2⟩;have hcom:l+1<=xR (H (aD s.nodes r).key) c.h:=zq (by omega) ((g3.trans ha).succ g4);have hnat:(aD s.nodes r).hash.toNat=H (aD s.nodes r).key:=by rw[g1];rfl
      have hdk:lS c (aD s.nodes r) (l+1) 1 r:=⟨k4,hks,λ e=>hkey e.symm,by rw[hnat];exact hcom,by omega,by decide,hr1⟩;have hl24:=ru c s r 1 (l+1);refine uc hdk (by omega) (by omega) ?_;have hch:=V3 (u:=c.val) hx0 hkey hks (xR (H (aD s.nodes r).key) (H c.key)-(l+1)) (l+1) s lb hx0 (by show l+1+(xR (H (aD s.nodes r).key) (H c.key)-(l+1))=xR (H (aD s.nodes r).key) (H c.key);rw[<- hh];omega) qt (p:=((aD s.nodes r).key,(aD s.nodes r).val))
      have hdl:dN r (H (aD s.nodes r).key) (H c.key) ((aD s.nodes r).key,(aD s.nodes r).val) c.key c.val 1 (s.nodes.length+1) (xR (H (aD s.nodes r).key) (H c.key)-(l+1)) (l+1)=dL c s r 1 (l+1):=by
       unfold dL dk;rw[hnat,hh]
      rw[hdl] at hch;have hpl:=nT (dL c s r 1 (l+1)) s;have hpc:=Kv (dL c s r 1 (l+1)) s;rw[<- hpl];generalize s.gB (dL c s r 1 (l+1))=s1 at hch hpl hpc ⊢;obtain⟨⟨lb1,q2,x2,mn,n1,hm⟩,hz,hcs⟩:=hch
      have q3:=K9 q2 mn hz;have x3:=D4 lb1 s1 (eY 1) ((s1.nodes.length:Nat):Int) (l+1,H c.key);have l3:(s1.push (eY 1) ((s1.nodes.length:Nat):Int)).nodes.length=s1.nodes.length+1:=by show(_++[_]).length=_;simp
      generalize hlb:(λ r=>if r=((s1.nodes.length+1:Nat):Int) then(l+1,H c.key) else lb1 r:Il)=lb2 at q3 x3;have hlb2:lb2 ((s1.nodes.length+1:Nat):Int)=(l+1,H c.key):=by rw[<- hlb];exact if_pos rfl
      refine K3a ?_;intro ei ec;have hcl3:(s1.push (eY 1) ((s1.nodes.length:Nat):Int)).cs.length=s1.cs.length+1:=by show(gH 2 s1.cs _).length=_;unfold gH;rw[if_pos (by decide)];simp
      refine⟨⟨by omega,by omega⟩,?_⟩
      have hsc:s.cs.length<=s1.cs.length:=by
       have h3:=qt.ly.c;refine Classical.byContradiction λ h=>?_;have e9:=hcs (s.cs.length:Int) (Int.le_refl _);have:=hpc.1;omega
      have hcs3:∀y:Int,y<=s.cs.length->aG (s1.push (eY 1) ((s1.nodes.length:Nat):Int)).cs y=aG s.cs y:=λ y hy=>(jL (k:=(2:Int)) (cs:=s1.cs) (by omega)).trans (hcs y hy);have keep3:uQ lb2 (s1.push (eY 1) ((s1.nodes.length:Nat):Int)) c.key (H c.key) c.val n1 (l+1) (s1.nodes.length:Int):=uQ.iT (s:=s1) (lb:=lb1) (λ r hr=>x3.iT r hr) (l0:=0) (λ j hj _=>jL (k:=(2:Int)) (q2.ly.main (Kz hj (by decide)).1 (Kz hj (by decide)).2 hj)) (Nat.zero_le _) hm;generalize s1.push (eY 1) ((s1.nodes.length:Nat):Int)=s3 at q3 x3 l3 ei ec hcl3 hcs3 keep3 ⊢;obtain⟨w1,w2,w3⟩:=ia vc hsl (r:=((s1.nodes.length+1:Nat):Int)) (by omega) (by rw[hlk2];rfl)
      rw[<- pA hl10] at w1 w2 w3
      show Al B Q (if(Cy _ _ _ _ (eP c.h l) _).isSome=true then _ else _) (2*n+5) _
      rw[if_pos w1,ht]
      obtain⟨b',v1,v2⟩:=w3 s3.cs.length
      have x13:=x2.trans x3;refine hlast q3 x13 hcs3 ⟨by omega,by omega⟩ (.inl w2) (jr hl10 ⟨b',v1⟩ v2 _ (λ k hk2 b2 e2=>(hbr k hk2 b2 e2).ex x13) ⟨by omega,.inr ⟨by rw[ei];rfl,by rw[hlb2],by rw[hlb2];exact hagr,by rw[hlb2,hh]⟩⟩) ⟨n1+1,?_⟩ λ s2 h2=>hQ s2 _ h2;have en:aD (s3.push (Cj (aD s.nodes (aG s.cs (aD s.nodes i).main)) (eP c.h l) ((s1.nodes.length+1:Nat):Int)) (aG s.cs (aD s.nodes i).main)).nodes ((s3.nodes.length+1:Nat):Int)=fY (Cj (aD s.nodes (aG s.cs (aD s.nodes i).main)) (eP c.h l) ((s1.nodes.length+1:Nat):Int)) s3.cs.length:=kC _ _;have x4:=mL lb2 s3 (Cj (aD s.nodes (aG s.cs (aD s.nodes i).main)) (eP c.h l) ((s1.nodes.length+1:Nat):Int)) (aG s.cs (aD s.nodes i).main);have ei4:=x4.nd ((s1.nodes.length+1:Nat):Int) (by omega);rw[ei] at ei4;refine⟨by rw[en];exact w2,((s1.nodes.length+1:Nat):Int),?_,by rw[ei4];rfl,by rw[hlb2],?_⟩
      ·rw[en];exact(congrArg (iU _) (pA hl10)).trans ((v2 _ hsl).trans (if_pos rfl))
      ·rw[ei4];have e9:aG (s3.push (Cj (aD s.nodes (aG s.cs (aD s.nodes i).main)) (eP c.h l) ((s1.nodes.length+1:Nat):Int)) (aG s.cs (aD s.nodes i).main)).cs ((s1.cs.length+1:Nat):Int)=(s1.nodes.length:Int):=(jL (by rw[hcl3];exact Int.le_refl _)).trans ec;show uQ lb2 _ c.key c.h c.val n1 (l+1) (aG _ ((s1.cs.length+1:Nat):Int))
       rw[e9]
       rw[<- hh] at keep3
       exact uQ.iT (s:=s3) (lb:=lb2) (λ r hr=>x4.iT r hr) (l0:=0) (λ j hj _=>jL (q3.ly.main (Kz hj (by decide)).1 (Kz hj (by decide)).2 hj)) (Nat.zero_le _) keep3
    ·rw[if_neg (by rw[k2];decide),if_pos ⟨k2,(qt.all r hr1 hbo.le k2).g⟩];refine xI (Xa ht hp hh hks hH n (l+1) r s lb qt ⟨hr1,hbo.le⟩ k2 g1 ((g2.trans ha).succ g3) (by omega) hN hB λ s2 res h2=>?_) (by omega);refine hQ s2 res ⟨?_,λ j a1 b1 k1 hj=>h2.up j a1 b1 k1 (by omega),h2.n⟩;obtain⟨lb2,q2,x2,n1,hm⟩:=h2.ex
     refine⟨lb2,q2,x2,n1+1,?_⟩
     rw[h2.up i hi.1 hi.2 ki (by omega)]
     refine⟨by rw[x2.nd _ mm.r.2];exact vc.kd,r,by rw[x2.nd _ mm.r.2];exact hlk,by rw[x2.nd r hbo.le];exact k2,by rw[x2.lb r hbo.le];exact g1,?_⟩
     rw[x2.nd r hbo.le];exact hm
  ·have hk6:(aD s.nodes (aG s.cs (aD s.nodes i).main)).kind=6:=hlv.1;obtain⟨y2,ysa,ysh⟩:=hlv.sa
   show Al B Q (if(aD s.nodes _).kind=6 then _ else _) (2*n+5) s
   rw[if_pos hk6]
   show Al B Q (if(aD s.nodes _).ys.length<=1000 then(if fQ c _ _=true then _ else _) else _) (2*n+5) s
   rw[if_pos (by omega),if_pos (hperm _ _)];have hg:iY (aD s.nodes (aG s.cs (aD s.nodes i).main)).nd (aD s.nodes (aG s.cs (aD s.nodes i).main)).xs (aD s.nodes (aG s.cs (aD s.nodes i).main)).ys c.key c.val=some (rF (aD s.nodes (aG s.cs (aD s.nodes i).main)).ys c.key c.val):=if_pos ⟨hlv,hks⟩;rw[if_pos (by rw[hg];rfl),ht]
   have hgv:grV (aD s.nodes (aG s.cs (aD s.nodes i).main)) c.key c.val=({Nd.zero with kind:=6,hash:=(aD s.nodes (aG s.cs (aD s.nodes i).main)).hash}:Nd).c [] (rF (aD s.nodes (aG s.cs (aD s.nodes i).main)).ys c.key c.val):=by
    unfold grV;rw[hg];rfl
   rw[hgv];have hle:=Mt (aD s.nodes (aG s.cs (aD s.nodes i).main)).ys c.key c.val;have hge:2<=(rF (aD s.nodes (aG s.cs (aD s.nodes i).main)).ys c.key c.val).length:=by rw[lu ysa];split<;>omega
   have hlv2:=W9 (h:=(aD s.nodes (aG s.cs (aD s.nodes i).main)).hash) hge (Wm ysa c.key c.val) (λ q hq=>by
    rcases bs ysa hq with h|h
    ·rw[h];exact hks
    ·exact ysh q h) s.cs.length
   have hfi:=Yo ysa c.key c.val;generalize hvv:({Nd.zero with kind:=6,hash:=(aD s.nodes (aG s.cs (aD s.nodes i).main)).hash}:Nd).c [] (rF (aD s.nodes (aG s.cs (aD s.nodes i).main)).ys c.key c.val)=vv at hlv2 ⊢;have hvk:vv.kind=6:=by rw[<- hvv];rfl
   have hvy:vv.ys=rF (aD s.nodes (aG s.cs (aD s.nodes i).main)).ys c.key c.val:=by rw[<- hvv];rfl
   have en:aD (s.push vv (aG s.cs (aD s.nodes i).main)).nodes ((s.nodes.length+1:Nat):Int)=fY vv s.cs.length:=kC _ _;have l1:(s.push vv (aG s.cs (aD s.nodes i).main)).nodes.length=s.nodes.length+1:=by show(_++[_]).length=_;simp
   refine hlast qt (Ex.refl lb s) (λ y _=>rfl) ⟨by omega,by omega⟩ (.inr hvk) ⟨⟨by omega,by omega⟩,.inr ⟨hl11,by rw[en];exact hlv2,?_⟩⟩ ⟨0,.inr ⟨by rw[en];exact hvk,?_⟩⟩ λ s2 h2=>hQ s2 _ h2
   ·rw[en];show vv.ys.length<=_;rw[hvy];omega
   ·rw[en];show cS vv.ys _=_;rw[hvy];exact hfi
theorem qx(ht:c.t=t3)(hp:c.pol=0)(hh:c.h=H c.key)(hks:c.key.size<=64)(hH:∀k,H k<18446744073709551616){n:Nat}{s:Mm}{lb:Il}(qt:Qt H lb s)(hN:s.nodes.length<=1000)(hB:s.nodes.length+30<=B/\s.cs.length+30<=B)(hQ:∀s2 r,Wb H lb s c 0 4 s2->Q r s2):Al B Q (wE c (n+1)) 30 s:=by
 have h4:=qt.l4;have g4:=(qt.all 4 (by decide) (by omega) qt.k4).g;have k4:=qt.k4;show Al B Q (B7 c.t λ r=>.node r λ nr=>uS c (wE c n) nr.gen 12 r 0) (29+1) s
 rw[ht];refine⟨29,rfl,?_⟩;rw[qt.rt];show Al B Q (if(aD s.nodes 4).kind=2 then _ else _) 29 s;rw[if_pos k4];show Al B Q (uS c (wE c n) (aD s.nodes 4).gen 12 4 0) 29 s;rw[g4];exact Xa ht hp hh hks hH 12 0 4 s lb qt ⟨by decide,by omega⟩ k4 qt.b4 (λ j hj=>absurd hj (Nat.not_lt_zero j)) (by decide) hN hB hQ
end
end
section
def pI(s:Mm)(h:Nat):Nat->Int
 | 0=>4
 | j+1=>(iU (aD s.nodes (aG s.cs (aD s.nodes (pI s h j)).main)) (eP h j)).getD 0
abbrev pX(s:Mm)(h j:Nat):Int:=(aD s.nodes (pI s h j)).main
abbrev pM(s:Mm)(h j:Nat):Int:=aG s.cs (pX s h j)
section
variable{H:ByteArray->Nat}{lb:Il}{s:Mm}{key:ByteArray}{h:Nat}{u:Int}
structure PiO(lb:Il)(s:Mm)(h j:Nat):Prop where
 r:1<=pI s h j/\pI s h j<=s.nodes.length
 k:(aD s.nodes (pI s h j)).kind=2
 l:(lb (pI s h j)).1=j
 a:Nq j (lb (pI s h j)).2 h
theorem xq(qt:Qt H lb s):∀(n l:Nat),uQ lb s key h u n l (pM s h l)->PiO lb s h l ->
  (∀j,l<=j->j<l+n->(aD s.nodes (pM s h j)).kind=3/\iU (aD s.nodes (pM s h j)) (eP h j)=some (pI s h (j+1)))/\(∀j,l<=j->j<=l+n->PiO lb s h j)/\uQ lb s key h u 0 (l+n) (pM s h (l+n))
 | 0,l,hm,p=>⟨λ j a b=>by omega,λ j a b=>by
  have:j=l:=by omega
  subst this;exact p,hm⟩
 | n+1,l,⟨g1,i,g2,g3,g4,g5⟩,p=>by
  have ei:pI s h (l+1)=i:=by show(iU (aD s.nodes (pM s h l)) (eP h l)).getD 0=i;rw[g2];rfl
  have ii:=(qt.all _ p.r.1 p.r.2 p.k).m;rw[p.l] at ii
  have p2:PiO lb s h (l+1):=by
   rcases ii.c with⟨hl,⟨b,vc⟩,hbr⟩|⟨_,hlv,_⟩
   ·have g2':=g2;rw[pA hl] at g2';have hb:=hbr _ (nJ h l) i g2';rcases hb.c with⟨k4,_⟩|⟨_,b1,b2,b3⟩
    ·rw[g3] at k4;cases k4
    ·exact⟨by rw[ei];exact⟨vc.pos (nJ h l) g2',hb.le⟩,by rw[ei];exact g3,by rw[ei];exact g4,by rw[ei];exact(b2.trans p.a).succ b3⟩
   ·have:(aD s.nodes (aG s.cs (aD s.nodes (pI s h l)).main)).kind=6:=hlv.1;have g1':(aD s.nodes (aG s.cs (aD s.nodes (pI s h l)).main)).kind=3:=g1;rw[this] at g1';cases g1'
  obtain⟨h1,h2,h3⟩:=xq qt n (l+1) (by show uQ lb s key h u n (l+1) (aG s.cs (aD s.nodes (pI s h (l+1))).main);rw[ei];exact g5) p2
  refine⟨λ j a b=>?_,λ j a b=>?_,by rw[show l+(n+1)=l+1+n by omega];exact h3⟩
  ·by_cases e:j=l
   ·subst e;exact⟨g1,by rw[ei];exact g2⟩
   ·exact h1 j (by omega) (by omega)
  ·by_cases e:j=l
   ·subst e;exact p
   ·exact h2 j (by omega) (by omega)
theorem aAv(qt:Qt H lb s)(hh:h=H key)(hN:s.nodes.length<=1000){n:Nat}(hm:uQ lb s key h u n 0 (aG s.cs (aD s.nodes 4).main)):Jd ⟨key,h,u,n,pI s h,pX s h,pM s h⟩ s none:=by
 have h4:=qt.l4;obtain⟨h1,h2,h3⟩:=xq qt n 0 hm ⟨⟨by show(1:Int)<=4;decide,by show(4:Int)<=_;omega⟩,qt.k4,qt.b4,λ j hj=>absurd hj (Nat.not_lt_zero j)⟩
 rw[Nat.zero_add] at h3;have pj:=λ j (hj:j<=n)=>h2 j (Nat.zero_le _) (by omega);have io:=λ j (hj:j<=n)=>qt.all _ (pj j hj).r.1 (pj j hj).r.2 (pj j hj).k
 have mo:∀j,j<=n->Sf H lb s j (lb (pI s h j)).2 (pM s h j):=λ j hj=>by have:=(io j hj).m;rw[(pj j hj).l] at this;exact this
 refine⟨⟨(mo n (Nat.le_refl _)).l11,rfl,λ j hj=>⟨(pj j hj).r.1,(pj j hj).r.2,(pj j hj).k,(io j hj).g,rfl⟩,λ j k hj hk e=>?_,λ j hj=>(mo j hj).r,λ j hj=>?_,?_⟩,qt.ly,qt.rt,λ j hj=>(io j hj).z,λ j hj=>.inl rfl,λ j hj e=>absurd rfl e,⟨λ _=>rfl,λ _=>rfl⟩⟩;·have a:=pj j hj;have b:=pj k hk;have:=qt.ly.mm a.r.1 a.r.2 b.r.1 b.r.2 a.k b.k e;rw[<- a.l,this,b.l]
 ·have hj':j<n:=hj;obtain⟨k3,lk⟩:=h1 j (Nat.zero_le _) (by omega);rcases(mo j (by omega)).c with⟨_,vc,_⟩|⟨_,hlv,_⟩
  ·exact⟨vc,lk⟩
  ·have:(aD s.nodes (pM s h j)).kind=6:=hlv.1;rw[this] at k3;cases k3
 ·rcases(mo n (Nat.le_refl _)).c with⟨hl,⟨b,vc⟩,hbr⟩|⟨hl11,hlv,hys⟩
  ·rcases h3 with⟨_,r,g2,g3,g4,g5⟩|⟨g,_⟩
   ·have g2':=g2;rw[pA hl] at g2';refine .inl ⟨hl,⟨b,vc⟩,⟨r,g2,(hbr _ (nJ h n) r g2').le,g3,g4,g5⟩,λ k hk hne r2 e2=>⟨(hbr k hk r2 e2).le,λ k4 hkey=>?_⟩⟩;rcases(hbr k hk r2 e2).c with⟨_,_,_,_,b4⟩|⟨k2,_⟩
    ·rw[hkey,<- hh] at b4;exact hne b4.symm
    ·rw[k4] at k2;cases k2
   ·rw[vc.kd] at g;cases g
  ·rcases h3 with⟨g,_⟩|⟨_,g⟩;·have:(aD s.nodes (pM s h n)).kind=6:=hlv.1;rw[this] at g;cases g
   ·exact .inr ⟨hlv,by show 1<=n;omega,by show(aD s.nodes (pM s h n)).ys.length<=1000;omega,g⟩
end
abbrev N0:List Nv:=[Eh.c,Eh.c,fY Mc 0,fY (eY 1) 1]
theorem aDG:(aD N0 4).prev=0/\1<=(aD N0 4).main/\(aD N0 4).main<=3/\(aD N0 4).main≠3:=by decide
theorem aDu:∀k:Fin 3,(aD N0 ((k.val+1:Nat):Int)).main=0/\0<=(aD N0 ((k.val+1:Nat):Int)).prev/\(aD N0 ((k.val+1:Nat):Int)).prev<=3/\(aD N0 ((k.val+1:Nat):Int)).prev≠3/\((aD N0 ((k.val+1:Nat):Int)).kind=3∨(aD N0 ((k.val+1:Nat):Int)).kind=5∨(aD N0 ((k.val+1:Nat):Int)).kind=6->1<=(aD N0 ((k.val+1:Nat):Int)).prev):=by decide
theorem aDv:∀k l:Fin 4,k.val<l.val->(aD N0 ((l.val+1:Nat):Int)).main+(aD N0 ((l.val+1:Nat):Int)).prev≠0->(aD N0 ((k.val+1:Nat):Int)).main+(aD N0 ((k.val+1:Nat):Int)).prev<(aD N0 ((l.val+1:Nat):Int)).main+(aD N0 ((l.val+1:Nat):Int)).prev:=by decide
theorem aB5:∀k:Fin 3,(aD N0 ((k.val+1:Nat):Int)).kind≠2:=by decide
theorem rr{H:ByteArray->Nat}(pv:Pv):Qt H (λ _=>(0,0)) ⟨N0,[0,3,4],1,pv⟩:=by
 have e3:VC (fY Mc 0) 0:=Et (xs:=[]) ⟨by decide,by decide,λ i hi=>absurd hi (Nat.not_lt_zero i)⟩ 0;have hall:∀r:Int,1<=r->r<=4->∃k:Fin 4,r=((k.val+1:Nat):Int):=λ r a b=>⟨⟨(r-1).toNat,by omega⟩,by show r=(((r-1).toNat+1:Nat):Int);omega⟩
 have hsp:∀r:Int,1<=r->r<=4->r=4∨∃k:Fin 3,r=((k.val+1:Nat):Int):=λ r a b=>by
  by_cases h:r=4;·exact .inl h
  ·exact .inr ⟨⟨(r-1).toNat,by omega⟩,by show r=(((r-1).toNat+1:Nat):Int);omega⟩
 refine⟨⟨λ r a b k=>?_,λ r a b k=>?_,λ r t a b c e=>?_,Nat.le_refl 3⟩,rfl,Nat.le_refl 4,rfl,rfl,λ i a b k=>?_⟩
 ·rcases hsp r a b with rfl|⟨q,rfl⟩;·exact aDG
  ·exact absurd k (aB5 q)
 ·rcases hsp r a b with rfl|⟨q,rfl⟩;·exact absurd rfl k
  ·exact aDu q
 ·have c4:t<=4:=c;obtain⟨q,rfl⟩:=hall r a (by omega);obtain⟨q2,rfl⟩:=hall t (by omega) c4;exact aDv q q2 (by omega) e
 ·rcases hsp i a b with rfl|⟨q,rfl⟩;·refine⟨rfl,⟨⟨show(1:Int)<=3 by decide,show(3:Int)<=4 by decide⟩,.inl ⟨show(0:Nat)<=10 by decide,⟨0,e3⟩,λ k hk b hb=>?_⟩⟩,rfl⟩;have:iU (fY Mc 0) (k:Int)=some b:=hb;rw[e3.lk hk] at this;simp[G8] at this
  ·exact absurd k (aB5 q)
end
end Go.Proofs.YtdeecdfockjoiaaGreatDoor
