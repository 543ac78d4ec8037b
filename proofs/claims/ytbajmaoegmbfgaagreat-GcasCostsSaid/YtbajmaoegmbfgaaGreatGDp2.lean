/- gcas: how many accesses a read and a swap make. -/
import Derived.Test.YtbajmaoegmbfgaaGreatGTt3
import Derived.Test.YtbajmaoegmbfgaaGreatGPc2
import Derived.Test.YtbajmaoegmbfgaaGreatGR9r
import Derived.Test.YtbajmaoegmbfgaaGreatGTt1
import Derived.Test.YtbajmaoegmbfgaaGreatGWr1
import Derived.Test.YtbajmaoegmbfgaaGreatGArN

set_option linter.unusedSimpArgs false
set_option linter.unusedVariables false
namespace Go.Proofs.YtbajmaoegmbfgaaGreat
section
open Go Go.RowKit Go.Ct
section
variable{H:ByteArray->Nat}{Q:Rs->Kw->Prop}{σ:Kw}
theorem qU:∀{u:Tr} {σ:Kw},Inv H σ->WT H Q u σ->∃υ,Le σ υ/\Inv H υ/\υ.mm=(Ct.dY u σ.mm).2/\WT H Q (Ct.dY u σ.mm).1 υ:=by
 intro u
 induction u with
 | done r=>intro σ i0 h;exact⟨σ,Le.refl σ,i0,rfl,h⟩
 | stuck=>intro σ i0 h;exact⟨σ,Le.refl σ,i0,rfl,h⟩
 | load c k ih=>intro σ i0 h;exact⟨σ,Le.refl σ,i0,rfl,h⟩
 | jP c o v k ih=>intro σ i0 h;exact⟨σ,Le.refl σ,i0,rfl,h⟩
 | alloc nd i k ih =>
  intro σ i0 h
  obtain⟨υ,l,i1,e,hb⟩:=h
  obtain⟨ρ,l2,i2,e2,h2⟩:=ih _ i1 hb
  rw[e] at e2 h2
  exact⟨ρ,l.trans i0 i1 l2,i2,e2,h2⟩
 | cell i k ih =>
  intro σ i0 h
  obtain⟨υ,l,i1,e,hb⟩:=h
  obtain⟨ρ,l2,i2,e2,h2⟩:=ih _ i1 hb
  rw[e] at e2 h2
  exact⟨ρ,l.trans i0 i1 l2,i2,e2,h2⟩
 | gen k ih =>
  intro σ i0 h
  obtain⟨υ,l,i1,e,hb⟩:=h
  obtain⟨ρ,l2,i2,e2,h2⟩:=ih _ i1 hb
  rw[e] at e2 h2
  exact⟨ρ,l.trans i0 i1 l2,i2,e2,h2⟩
 | node r k ih=>intro σ i0 h;exact ih _ i0 h.2
theorem aAI{u:Tr}(i0:Inv H σ)(h:WT H Q u σ):∃υ,Le σ υ/\Inv H υ/\υ.mm=(xK (u,σ.mm)).2/\WT H Q (xK (u,σ.mm)).1 υ:=by
 cases u with
 | load c k=>exact qU i0 (h σ (Le.refl σ) i0)
 | jP c o v k =>
  obtain⟨w1,w2⟩:=h σ (Le.refl σ) i0
  by_cases hc:iB σ.mm.cs c o
  ·obtain⟨υ,l,i1,e,hb⟩:=w1 hc
   obtain⟨ρ,l2,i2,e2,h2⟩:=qU i1 hb
   have eb:xQ σ.mm.cs c o=true:=(zO (r:=true) ⟨λ _=>hc,λ _=>rfl⟩).symm
   rw[e] at e2 h2
   refine⟨ρ,l.trans i0 i1 l2,i2,?_⟩
   show _=(Ct.dY (k (xQ σ.mm.cs c o)) _).2/\WT H Q (Ct.dY (k (xQ σ.mm.cs c o)) _).1 _
   rw[eb]
   exact⟨e2,h2⟩
  ·obtain⟨ρ,l2,i2,e2,h2⟩:=qU i0 (w2 hc)
   have eb:xQ σ.mm.cs c o=false:=(zO (r:=false) ⟨λ h=>(nomatch h),λ h=>absurd h hc⟩).symm
   have es:(⟨σ.mm.nodes,dD σ.mm.cs c o v,σ.mm.gen⟩:Mm)=σ.mm:=by rw[zY hc]
   refine⟨ρ,l2,i2,?_⟩
   show _=(Ct.dY (k (xQ σ.mm.cs c o)) ⟨σ.mm.nodes,dD σ.mm.cs c o v,σ.mm.gen⟩).2/\WT H Q (Ct.dY (k (xQ σ.mm.cs c o)) ⟨σ.mm.nodes,dD σ.mm.cs c o v,σ.mm.gen⟩).1 _
   rw[eb,es]
   exact⟨e2,h2⟩
 | done r=>exact qU i0 h
 | stuck=>exact qU i0 h
 | alloc nd i k=>exact qU i0 h
 | cell i k=>exact qU i0 h
 | gen k=>exact qU i0 h
 | node r k=>exact qU i0 h
theorem ew{u:Tr}(i0:Inv H σ)(h:WT H Q u σ):∀k,∃υ,Le σ υ/\Inv H υ/\υ.mm=(iM (Ct.dY u σ.mm) k).2/\WT H Q (iM (Ct.dY u σ.mm) k).1 υ
 | 0=>qU i0 h
 | k+1=>by
  obtain⟨υ,l,i1,e,hb⟩:=ew i0 h k
  obtain⟨ρ,l2,i2,e2,h2⟩:=aAI i1 hb
  rw[e] at e2 h2
  exact⟨ρ,l.trans i0 i1 l2,i2,e2,h2⟩
end
abbrev q0(t:fG)(i:Int):Tr:=jR t i λ r=>.done (gG r false)
abbrev Td(t:fG)(i m n:Int):Tr:=jD t i m n λ ok=>.done (gG 0 ok)
theorem sb(t:fG)(i:Int):Dp (q0 t i) 10:=qd (n:=0) λ _=>trivial
theorem rm(t:fG)(i m n:Int):Dp (Td t i m n) 10:=qe (n:=0) λ _=>trivial
section
variable{H:ByteArray->Nat}{σ:Kw}{t:fG}{i:Int}
theorem l9{Q:Rs->Kw->Prop}{p:Tr×Mm}(h1:∃x,p.1=.done x)(h2:∃υ,Le σ υ/\Inv H υ/\υ.mm=p.2/\WT H Q p.1 υ):∃x υ,p=(.done x,υ.mm)/\Le σ υ/\Inv H υ/\Q x υ:=by
 obtain⟨x,e⟩:=h1
 obtain⟨υ,l,i1,em,hq⟩:=h2
 obtain⟨u,s⟩:=p
 simp only at e em hq
 subst e
 exact⟨x,υ,by rw[em],l,i1,hq⟩
theorem vq{N:Nat}(hN:10<N)(i0:Inv H σ)(hT:cU σ t)(hi:(σ.nd i).kind=2):∃x υ,iM (Ct.dY (q0 t i) σ.mm) N=(.done x,υ.mm)/\Le σ υ/\Inv H υ/\bV (υ.nd x.ref):=by
 have hK:KM H (λ r τ=>bV (τ.nd r.ref)) σ (σ.way i) (σ.nd i).gen (λ r=>.done (gG r false)):=λ τ v _ _ hv _=>hv.1
 exact l9 (Q:=λ r τ=>bV (τ.nd r.ref)) ((sb t i).fin (k:=N) (s:=σ.mm) hN).1 (ew i0 (kC hT i0 ⟨⟨hi,rfl⟩,rfl⟩ hK) N)
end
section
variable{s:Mm}{t:fG}{i m n c pc:Int}{K:Int->Tr}
theorem Ky{k:Int->Tr}:xK (.load c k,s)=Ct.dY (k (bD s.cs c)) s:=rfl
theorem xm{o:Int}{k:Bool->Tr}:xK (.jP c o n k,s)=Ct.dY (k (xQ s.cs c o)) ⟨s.nodes,dD s.cs c o n,s.gen⟩:=rfl
theorem fh(h:vt s.nodes s.cs i):iM (Ct.dY (q0 t i) s) 2=(.done (gG (bD s.cs (bH s.nodes i).main) false),s):=by
 have e1:iM (Ct.dY (q0 t i) s) 1=(.load (bH s.nodes (bD s.cs (bH s.nodes i).main)).prev λ p=>if p=0 then .done (gG (bD s.cs (bH s.nodes i).main) false) else .node p λ np =>
  if bV np then(if t.ro=true then gP i (bD s.cs (bH s.nodes i).main) p false (λ r=>.done (gG r false)) else yK t λ r=>.node r λ nr=>.node i λ ni=>gP i (bD s.cs (bH s.nodes i).main) p (nr.gen==ni.gen) (λ r=>.done (gG r false)))
  else Bm i (bD s.cs (bH s.nodes i).main) p (λ r=>.done (gG r false)),s):=rfl
 show xK (iM _ 1)=_
 have h':bD s.cs (bH s.nodes (bD s.cs (bH s.nodes i).main)).prev=0:=h
 rw[e1,Ky,if_pos h']
 rfl
theorem Tw{cs:List Int}{c o:Int}(h1:1<=c)(h2:c<=cs.length)(h:bD cs c=o):xQ cs c o=true/\iB cs c o:=by
 have hc:iB cs c o:=⟨h1,h2,by unfold bD at h;rwa [if_pos ⟨h1,h2⟩] at h⟩
 exact⟨(zO (r:=true) ⟨λ _=>hc,λ _=>rfl⟩).symm,hc⟩
theorem Yq(hp:(bH s.nodes n).prev=pc)(h1:1<=pc)(h2:pc<=s.cs.length)(hv:bD s.cs pc=m):∃s',iM (Ct.dY (gP i n m true K) s) 2=Ct.dY (K n) s'/\(iM (Ct.dY (gP i n m true K) s) 1).1.live=true:=by
 obtain⟨eb,hc⟩:=Tw h1 h2 hv
 have e0:iM (Ct.dY (gP i n m true K) s) 1=(.load (bH s.nodes n).prev λ p=>if p=0 then K n else Bm i n p K,⟨s.nodes,dD s.cs (bH s.nodes n).prev m 0,s.gen⟩):=rfl
 refine⟨⟨s.nodes,dD s.cs pc m 0,s.gen⟩,?_,by rw[e0];rfl⟩
 show xK (iM _ 1)=_
 rw[e0,hp,Ky]
 dsimp only
 rw[iL hc,if_pos rfl,if_pos rfl]
theorem Ot(hn:n<=s.nodes.length)(hi:i<=s.nodes.length)(hp:(bH s.nodes n).prev=pc)(h1:1<=pc)(h2:pc<=s.cs.length)(hv:bD s.cs pc=m):∃s',iM (Ct.dY (gP i n m false K) s) 3=Ct.dY (K m) s'/\(iM (Ct.dY (gP i n m false K) s) 2).1.live=true/\s'=⟨s.nodes++[dG (tT m) s.cs.length],dD (dD s.cs pc m ((s.nodes.length+1:Nat):Int)) (bH s.nodes i).main n m,s.gen⟩:=by
 obtain⟨eb,hc⟩:=Tw h1 h2 hv
 obtain⟨f,hf⟩:∃f:Int,f=((s.nodes.length+1:Nat):Int):=⟨_,rfl⟩
 obtain⟨N,hN⟩:∃N:List Nv,N=s.nodes++[dG (tT m) s.cs.length]:=⟨_,rfl⟩
 have hnn:bH N n=bH s.nodes n:=by rw[hN];exact nQ hn
 have hni:bH N i=bH s.nodes i:=by rw[hN];exact nQ hi
 have hnf:(bH N f).bJ=m:=by
  unfold bH
  rw[hf,hN,if_pos ⟨by omega,by simp⟩,jC,show(((s.nodes.length+1:Nat):Int)-1).toNat=s.nodes.length by omega]
  simp
  rfl
 have e1:iM (Ct.dY (gP i n m false K) s) 1=(.load (bH N n).prev λ p=>if p=0 then K n else Bm i n p K,⟨N,dD s.cs (bH s.nodes n).prev m f,s.gen⟩):=by rw[hN,hf];rfl
 have e2:iM (Ct.dY (gP i n m false K) s) 2=(.jP (bH N i).main n m λ _=>.node f λ np=>K np.bJ,⟨N,dD s.cs pc m f,s.gen⟩):=by
  show xK (iM _ 1)=_
  rw[e1,hnn,hp,Ky]
  dsimp only
  rw[iL hc,if_pos rfl,if_neg (by omega)]
  show(Tr.jP (bH N i).main n (bH N f).bJ λ _=>.node f λ np=>K np.bJ,(⟨N,dD s.cs pc m f,s.gen⟩:Mm))=_
  rw[hnf]
 refine⟨⟨N,dD (dD s.cs pc m f) (bH N i).main n m,s.gen⟩,?_,by rw[e2];rfl,by rw[hni,hN,hf]⟩
 show xK (iM _ 2)=_
 rw[e2,xm]
 show Ct.dY (K (bH N f).bJ) _=_
 rw[hnf]
theorem Gc{T:Tr}{k N:Nat}(h:Dp T N)(hl:(iM (Ct.dY T s) k).1.live=true):nB (Ct.dY T s) (k+1)=k+1:=by
 obtain⟨_,_,_,_,h4⟩:=h.run (s:=s) k
 show nB _ k+(if _ then 1 else 0)=_
 rw[h4 hl,if_pos hl]
theorem di(hn:n<=s.nodes.length)(hi:i<=s.nodes.length)(hm:m<=s.nodes.length)(hm0:m≠0)(hmn:m≠n)(hc:c=(bH s.nodes i).main)(hp:(bH s.nodes n).prev=pc)(h1:1<=pc)(h2:pc<=s.cs.length)(hv:bD s.cs pc=m)(hcp:pc≠c)(hk:bV (bH s.nodes m))(hrc:t.ro=false->t.root≠c)(hr:t.ro=false->(bH s.nodes (bD s.cs t.root)).kind=2) :
  ∃j s' b,iM (Ct.dY (Td t i m n) s) j=(.done (gG 0 b),s')/\nB (Ct.dY (Td t i m n) s) j=j/\(b=true->j=5)/\j<=6:=by
 subst hc
 have e1:iM (Ct.dY (Td t i m n) s) 1=Ct.dY (if xQ s.cs (bH s.nodes i).main m=true then nP t i n (λ v=>.done (gG 0 (v==n))) else .done (gG 0 false)) ⟨s.nodes,dD s.cs (bH s.nodes i).main m n,s.gen⟩:=rfl
 have hd:=rm t i m n
 have h0:nB (Ct.dY (Td t i m n) s) 1=1:=rfl
 generalize hK:(λ v:Int=>Tr.done (gG 0 (v==n)))=K at e1
 cases hb:xQ s.cs (bH s.nodes i).main m with
 | false =>
  rw[hb,if_neg (by decide)] at e1
  exact⟨1,_,false,e1,h0,(λ h=>nomatch h),by decide⟩
 | true =>
  have hcas:iB s.cs (bH s.nodes i).main m:=by
   by_cases hc:iB s.cs (bH s.nodes i).main m
   ·exact hc
   ·have:false=xQ s.cs (bH s.nodes i).main m:=zO (r:=false) ⟨λ h=>(nomatch h),λ h=>absurd h hc⟩
    rw[hb] at this;cases this
  rw[hb,if_pos rfl] at e1
  obtain⟨cs1,hcs1⟩:∃cs1,cs1=dD s.cs (bH s.nodes i).main m n:=⟨_,rfl⟩
  rw[<- hcs1] at e1
  have hl1:cs1.length=s.cs.length:=by rw[hcs1];exact gE
  have hv1:bD cs1 pc=m:=by rw[hcs1,iL hcas,if_neg hcp];exact hv
  have e1':iM (Ct.dY (Td t i m n) s) 1=(.load pc λ p=>if p=0 then K n else .node p λ np=>if bV np then(if t.ro=true then gP i n p false K else yK t λ r=>.node r λ nr=>.node i λ ni=>gP i n p (nr.gen==ni.gen) K) else Bm i n p K,⟨s.nodes,cs1,s.gen⟩):=by rw[e1,<- hp];rfl
  have e2:iM (Ct.dY (Td t i m n) s) 2=Ct.dY (if t.ro=true then gP i n m false K else yK t λ r=>.node r λ nr=>.node i λ ni=>gP i n m (nr.gen==ni.gen) K) ⟨s.nodes,cs1,s.gen⟩:=by
   show xK (iM _ 1)=_
   rw[e1',Ky]
   dsimp only
   rw[hv1,if_neg hm0]
   show Ct.dY (if bV (bH s.nodes m) then _ else _) _=_
   rw[if_pos hk]
  cases hro:t.ro with
  | true =>
   rw[hro,if_pos rfl] at e2
   obtain⟨s',h3,h4,_⟩:=Ot (s:=⟨s.nodes,cs1,s.gen⟩) (K:=K) hn hi hp h1 (by show pc<=cs1.length;rw[hl1];exact h2) hv1
   rw[<- e2,<- Eh] at h3 h4
   refine⟨5,s',false,?_,Gc hd h4,(λ h=>nomatch h),by decide⟩
   rw[h3,<- hK]
   show(Tr.done (gG 0 (m==n)),s')=_
   rw[show(m==n)=false from beq_eq_false_iff_ne.2 hmn]
  | false =>
   rw[hro,if_neg (by decide)] at e2
   have hrv:bD cs1 t.root=bD s.cs t.root:=by rw[hcs1,iL hcas,if_neg (hrc hro)]
   have e3:iM (Ct.dY (Td t i m n) s) 3=Ct.dY (gP i n m ((bH s.nodes (bD s.cs t.root)).gen==(bH s.nodes i).gen) K) ⟨s.nodes,cs1,s.gen⟩:=by
    show xK (iM _ 2)=_
    rw[e2]
    show Ct.dY (if(bH s.nodes (bD cs1 t.root)).kind=2 then(Tr.node (bD cs1 t.root) λ nr=>.node i λ ni=>gP i n m (nr.gen==ni.gen) K) else _) _=_
    rw[hrv,if_pos (hr hro)]
    rfl
   cases hg:((bH s.nodes (bD s.cs t.root)).gen==(bH s.nodes i).gen) with
   | true =>
    rw[hg] at e3
    obtain⟨s',h3,h4⟩:=Yq (i:=i) (s:=⟨s.nodes,cs1,s.gen⟩) (K:=K) hp h1 (by show pc<=cs1.length;rw[hl1];exact h2) hv1
    rw[<- e3,<- Eh] at h3 h4
    refine⟨5,s',true,?_,Gc hd h4,λ _=>rfl,by decide⟩
    rw[h3,<- hK]
    show(Tr.done (gG 0 (n==n)),s')=_
    rw[show(n==n)=true from beq_self_eq_true n]
   | false =>
    rw[hg] at e3
    obtain⟨s',h3,h4,_⟩:=Ot (s:=⟨s.nodes,cs1,s.gen⟩) (K:=K) hn hi hp h1 (by show pc<=cs1.length;rw[hl1];exact h2) hv1
    rw[<- e3,<- Eh] at h3 h4
    refine⟨6,s',false,?_,Gc hd h4,(λ h=>nomatch h),by decide⟩
    rw[h3,<- hK]
    show(Tr.done (gG 0 (m==n)),s')=_
    rw[show(m==n)=false from beq_eq_false_iff_ne.2 hmn]
end
end

/- gcas: a swap of a copy, alone. -/
section
open Go Go.RowKit Go.Ct
theorem Xd(N:List Nv)(v:Nv):bH (N++[v]) ((N.length+1:Nat):Int)=v:=by
 unfold bH
 rw[if_pos ⟨by omega,by simp⟩,jC,show(((N.length+1:Nat):Int)-1).toNat=N.length by omega]
 simp
theorem Sf(cs:List Int)(m:Int):bD (cs++[m]) ((cs.length+1:Nat):Int)=m:=by
 unfold bD
 rw[if_pos ⟨by omega,by simp⟩,jC,show(((cs.length+1:Nat):Int)-1).toNat=cs.length by omega]
 simp
section
variable{H:ByteArray->Nat}{σ:Kw}{t:fG}{i m:Int}
theorem qv(i0:Inv H σ)(hT:cU σ t)(hi:(σ.nd i).kind=2)(hm:bV (σ.nd m))(hR:t.ro=false->(σ.nd (σ.ce t.root)).kind=2) :
  ∃j s' b,iM (Ct.dY (Td t i m ((σ.len+1:Nat):Int)) (σ.mm.push (σ.nd m) m)) j=(.done (gG 0 b),s')/\nB (Ct.dY (Td t i m ((σ.len+1:Nat):Int)) (σ.mm.push (σ.nd m) m)) j=j/\(b=true->j=5)/\j<=6:=by
 have hmr:=iG hm
 have hir:=dV (N:=σ.mm.nodes) (i:=i) (by rw[show(bH σ.mm.nodes i).kind=2 from hi];decide)
 have hc:=i0.uX hi
 have hcs:(σ.mm.push (σ.nd m) m).cs=σ.mm.cs++[m]:=by
  show fS _ _ _=_
  unfold fS
  exact if_pos (by have h:bV (σ.nd m):=hm;unfold bV at h;omega)
 have hns:(σ.mm.push (σ.nd m) m).nodes=σ.mm.nodes++[dG (σ.nd m) σ.mm.cs.length]:=rfl
 have hprev:(dG (σ.nd m) σ.mm.cs.length).prev=((σ.mm.cs.length+1:Nat):Int):=by
  show(if _ then _ else _)=_
  exact if_pos (by have h:bV (σ.nd m):=hm;unfold bV at h;omega)
 have hi1:bH (σ.mm.push (σ.nd m) m).nodes i=σ.nd i:=by rw[hns];exact nQ hir.2
 have hm1:bH (σ.mm.push (σ.nd m) m).nodes m=σ.nd m:=by rw[hns];exact nQ hmr.2
 have hn1:bH (σ.mm.push (σ.nd m) m).nodes ((σ.len+1:Nat):Int)=dG (σ.nd m) σ.mm.cs.length:=by rw[hns];exact Xd _ _
 have hlen:(σ.mm.push (σ.nd m) m).nodes.length=σ.len+1:=by rw[hns,List.length_append];rfl
 have hcl:(σ.mm.push (σ.nd m) m).cs.length=σ.mm.cs.length+1:=by rw[hcs,List.length_append];rfl
 have hce:∀x:Int,x<=σ.cl->bD (σ.mm.push (σ.nd m) m).cs x=σ.ce x:=λ x hx=>by rw[hcs];exact Jq hx
 have hcl2:(σ.nd i).main<=σ.mm.cs.length:=hc.2.1
 refine di (c:=(σ.nd i).main) (pc:=((σ.mm.cs.length+1:Nat):Int)) (by rw[hlen];exact Int.le_refl _) (by rw[hlen];have:=hir.2;show i<=((σ.mm.nodes.length+1:Nat):Int);omega) (by rw[hlen];have:=hmr.2;show m<=((σ.mm.nodes.length+1:Nat):Int);omega) (by have:=hmr.1;omega) (by have:=hmr.2;show m≠((σ.mm.nodes.length+1:Nat):Int);omega) (by rw[hi1]) (by rw[hn1];exact hprev) (by omega) (by rw[hcl];exact Int.le_refl _) (by rw[hcs];exact Sf _ _) (by omega) (by rw[hm1];exact hm) (λ hro e=>?_) (λ hro=>?_)
 ·have h1:=hT.rw hro
  rw[e,hc.2.2] at h1
  cases h1
 ·rw[hce _ hT.2.1,hns]
  have h1:=(i0.ce _ hT.1 hT.2.1).hi
  rw[nQ h1]
  exact hR hro
theorem eu{N:Nat}(hN:10<N)(i0:Inv H σ)(hT:cU σ t)(hi:(σ.nd i).kind=2)(hm:bV (σ.nd m))(hR:t.ro=false->(σ.nd (σ.ce t.root)).kind=2){x:Rs}{s':Mm}(he:iM (Ct.dY (Td t i m ((σ.len+1:Nat):Int)) (σ.mm.push (σ.nd m) m)) N=(.done x,s'))(hx:x.found=true):nB (Ct.dY (Td t i m ((σ.len+1:Nat):Int)) (σ.mm.push (σ.nd m) m)) N=5:=by
 obtain⟨j,s2,b,h1,h2,h3,h4⟩:=qv i0 hT hi hm hR
 obtain⟨h5,h6⟩:=Bh (p:=Ct.dY (Td t i m ((σ.len+1:Nat):Int)) (σ.mm.push (σ.nd m) m)) (j:=j) (k:=N) (by rw[h1];rfl) (by omega)
 rw[h6,h2]
 rw[h5,h1] at he
 have e1:gG 0 b=x:=Tr.done.inj (congrArg Prod.fst he)
 rw[<- e1] at hx
 exact h3 hx
theorem Wj{N:Nat}(hN:10<N){s:Mm}(h:vt s.nodes s.cs i):iM (Ct.dY (q0 t i) s) N=(.done (gG (bD s.cs (bH s.nodes i).main) false),s)/\nB (Ct.dY (q0 t i) s) N=2:=by
 have h1:=fh (t:=t) h
 obtain⟨h5,h6⟩:=Bh (p:=Ct.dY (q0 t i) s) (j:=2) (k:=N) (by rw[h1];rfl) (by omega)
 exact⟨h5.trans h1,h6.trans rfl⟩
end
end

/- Tasks of the program side by side with executions of the reference: the state; one of the two makes a step. -/
end Go.Proofs.YtbajmaoegmbfgaaGreat
namespace Go.Ct
section
open Go Go.RowKit
section
variable{α:Type}
end
inductive Wv:Nat->Mm×List (Tr×Nat)->Mm×List (Tr×Nat)->Prop where
 | refl (p):Wv 0 p p
 | step {i p s l1 l2 R n}:Wv i p (s,l1++(R,n)::l2)->R.live=true->Wv (i+1) p ((xK (R,s)).2,l1++((xK (R,s)).1,n+1)::l2)
end
end Go.Ct
namespace Go.Proofs.YtbajmaoegmbfgaaGreat
section
open Go Go.RowKit Go.Ct
structure PX where
 e:EX
 m:Nat
 tb:Nat
 c:Cd
 n:Nat
structure LS where
 a:AS
 z:XS
 l:List PX
 B:Fr
structure POk(C:Nat)(z:XS)(p:PX):Prop where
 i:li (T0 p.e.k p.m) (XS.wm p.e.x z) p.e.dn p.e.rs p.e.R
 kk:gu p.e.k
 m:p.m<18446744073709551616
 em:p.e.k.mask=(p.m:Int)
 ht:p.e.k.t.root<=9223372036854775807
 ha:p.e.k.a<=z.L.length
 hb:p.e.k.b<=z.L.length
 hn:p.e.k.n<=z.L.length
 gl:p.e.x.got.length=p.n
 gc:p.n<=C
structure LOk(ba Bz C:Nat)(S:LS):Prop where
 z:S.z.Ok
 a:S.a.Ok
 mm:S.a.mm=S.z.mm
 sz:Sz S.z Bz
 p:∀p∈S.l,POk C S.z p
 rp:∀p∈S.l,mA ba p.e.R S.z.mm p.c S.z.mm S.B
section
variable{ba bm:Nat}
end
section
variable{ba bm Bz C:Nat}{D:List Nat}{A:Fr}{w:World}{a:AS}{z:XS}{l1 l2:List PX}{p:PX}{B:Fr}
end
end

/- Structs of numbers, bools and strings are compared. -/
end Go.Proofs.YtbajmaoegmbfgaaGreat
namespace Go.Ct
section
open Go Go.RowKit
section
variable{P:Program}{w:World}
inductive VEq:Nat->Value->Value->Bool->Prop where
 | int (k:IntKind) (a b:Int):VEq 0 (.int k a) (.int k b) (a==b)
 | bool (a b:Bool):VEq 1 (.bool a) (.bool b) (a==b)
 | str (a b:ByteArray):VEq 2 (.string a) (.string b) (decide (a=b))
inductive ye:List Nat->List Value->List Value->Bool->Prop where
 | nil:ye [] [] [] true
 | cons {k:Nat} {ks:List Nat} {u v:Value} {us vs:List Value} {r r2:Bool} (h:VEq k u v r) (hs:ye ks us vs r2):ye (k::ks) (u::us) (v::vs) (r&&r2)
variable{S:List (Nat×Value)}{G:World->Prop}{d:Nat}{ty t t':TypeId}{pos:String}{af:Array Edge}{gd:Option (Nat×Bool)}{x y:Operand}
instance:DecidableEq Ac:=λ a b=>if h:a.k=b.k/\a.c=b.c/\a.o=b.o/\a.n=b.n then isTrue (by cases a;cases b;simp_all) else isFalse (λ e=>h (by subst e;exact⟨rfl,rfl,rfl,rfl⟩))
instance:DecidableEq Rs:=λ a b=>if h:a.err=b.err/\a.found=b.found/\a.val=b.val/\a.key=b.key/\a.gJ=b.gJ/\a.ref=b.ref/\a.root=b.root/\a.ro=b.ro then isTrue (by cases a;cases b;simp_all) else isFalse (λ e=>h (by subst e;exact⟨rfl,rfl,rfl,rfl,rfl,rfl,rfl,rfl⟩))
end
end
end Go.Ct
namespace Go.Proofs.YtbajmaoegmbfgaaGreat
section
open Go Go.RowKit Go.Ct
end

/- Pairs: whether a task and an execution are at the same point. -/
section
open Go Go.RowKit Go.Ct
section
variable{k:Cl}{ba bx bm tb n:Nat}{x:XS}{c:Cd}{rs:Rs}{D:List Nat}{A:Fr}{w:World}
theorem O6{bt:Nat}{d:Bool}(hd:(c.a.k==0)=d)(h:w.heap[bt]?=some (tO ba c n)):Calls Tryz.prog 33 #[.pointer (some ⟨bt,0,none⟩)] w λ e w'=>e=.returned (.bool d)/\St w [] [] w':=by
 subst hd
 exact zL h
theorem pE{bt:Nat}{d:Bool}{r:Rs}(hd:(c.a.k==0)=d)(ha:(if d=true then c.r else Rs.zero)=r)(h:w.heap[bt]?=some (tO ba c n)):Calls Tryz.prog 34 #[.pointer (some ⟨bt,0,none⟩)] w λ e w'=>e=.returned (.agg ⟨r.cells⟩)/\St w [] [] w':=by
 subst hd ha
 have:=Sw h
 simp only[beq_iff_eq] at this ⊢
 exact this
end
end

end Go.Proofs.YtbajmaoegmbfgaaGreat
