/- Merged. -/
import Derived.Test.YtdeecdfockjoiaaGreatDoorGVc1
import Derived.Test.YtdeecdfockjoiaaGreatDoorGDu2
set_option linter.unusedSimpArgs false
set_option linter.unusedVariables false
namespace Go.Proofs.YtdeecdfockjoiaaGreatDoor
open Go Go.RowKit Go.Ct
section
section
variable{W:Ke}{k j l a d:Nat}{s s1 s2:Mm}{σ τ υ:Option Nat}{Q:Rs->Option Nat->Prop}{n r m q:Int}{v:Nv}
theorem Q7(hk:v.kind=3∨v.kind=5∨v.kind=6)(h8:v.kind≠8)(j1:Jd W s σ)(hg:∀c,yJ W s j (fY v c)):Zb W (s.push v (W.M j)) j ((s.nodes.length+1:Nat):Int):=by
 have e:aD (s.push v (W.M j)).nodes ((s.nodes.length+1:Nat):Int)=fY v s.cs.length:=kC _ _;have st:=Ag (k:=0) j1 v (W.M j) h8;refine⟨⟨by omega,by rw[Ai];exact Int.le_refl _⟩,?_,.inr ?_⟩
 ·show yJ W _ j (aD _ _);rw[e];exact(hg _).kp st.1
 ·rw[e];show aG (gH v.kind s.cs (W.M j)) (if v.kind=3∨v.kind=5∨v.kind=6 then _ else _)=_;rw[if_pos hk];unfold gH;rw[if_pos (by omega)];exact sE _ _
theorem aCl(h:v.kind=5):(F6 v).kind=4/\(F6 v).key=v.key:=by have e:mG v.nd={Nd.zero with kind:=4,hash:=v.nd.hash,key:=v.nd.key,val:=v.nd.val}:=if_pos h;unfold F6;rw[e];exact⟨rfl,rfl⟩
theorem zd(u so:Nv)(level:Int):(Pd u level so=tmV so/\(uX u).isSome=true/\0<level/\so.kind=4)∨Pd u level so=u:=by
 unfold Pd;by_cases h:Jm u.nd u.xs u.ys level so.nd=true;·rw[if_pos h];exact .inl ⟨rfl,of_decide_eq_true h⟩
 ·rw[if_neg h];exact .inr rfl
theorem aCy(g:yJ W s l v)(h:v.kind=5):v.key≠W.key/\1<=l:=by
 rcases g with⟨g,_⟩|⟨g,_⟩|g;·rw[h] at g;cases g
 ·rw[h] at g;cases g
 ·exact g.2
theorem Rq{K:Bool->Tr}(hj:j<W.d)(j1:Jd W s σ)(ht:Tm W s (j+1))(g:∀s' σ' b,xA W k s σ s' σ'->aG s'.cs (W.X j)≠W.M j->qG W k Q 2 d (K b) s' σ'):qG W k Q a (d+15) (tL t3 (W.I j) (W.I (j+1)) W.h ((j:Nat):Int) K) s σ:=by
 have h10:j<=10:=by have:=j1.ws.d11;omega
 refine Fm (d:=d+10) (Nat.le_of_lt hj) j1 (λ s1 σ1 f1 e1=>?_) (λ s1 σ1 m f1 e1 ix ez=>?_)
 ·obtain⟨⟨b,hb⟩,hlk⟩:=f1.2.1.ws.mc j hj;have hM:=f1.2.1.ws.ml j (Nat.le_of_lt hj);have t1:=ht.Z0 j1 hj f1;refine fZ hM.2 ?_;rw[if_pos hlk];refine Fm (d:=d+5) hj f1.2.1 (λ s2 σ2 f2 e2=>absurd e2 (t1.Z0 f1.2.1 hj f2).ne) λ s2 σ2 mc f2 e2 ix ez=>?_;have t2:=t1.Z0 f1.2.1 hj f2;have hmc:mc<=s2.nodes.length:=by rw[<- e2];exact ix.l.2
  have h5:(aD s2.nodes mc).kind=5:=by rw[<- e2];exact t2.kd
  have hgn:(aD s2.nodes mc).key≠W.key:=by have:=ix.g;rw[e2] at this;exact(aCy this h5).1
  obtain⟨u1,u2⟩:=aCl h5;refine fZ hmc ?_;rw[if_pos h5];refine Hj (a:=1) (by rw[u1];decide) λ s3 σ3 f3=>?_;have st3:=Ag (k:=k) f3.2.1 (F6 (aD s2.nodes mc)) 0 (by rw[u1];decide);have hS:aD (s3.push (F6 (aD s2.nodes mc)) 0).nodes ((s3.nodes.length+1:Nat):Int)=fY (F6 (aD s2.nodes mc)) s3.cs.length:=kC _ _;have f13:xA W k s1 σ1 (s3.push (F6 (aD s2.nodes mc)) 0) σ3:=(f2.trans f3).trans ⟨st3.1,st3.2.1,.inl rfl⟩;have eM:aD (s3.push (F6 (aD s2.nodes mc)) 0).nodes (W.M j)=aD s1.nodes (W.M j):=f13.1.nd _ hM.2;refine fZ (by have:=f13.1.le;omega) ?_;rw[eM];obtain⟨v1,v2,v3⟩:=ia hb (nJ W.h j) (r:=((s3.nodes.length+1:Nat):Int)) (by omega) (by rw[<- wT h10,hlk];rfl)
  rw[<- wT h10] at v1 v2;show qG W k Q 1 (d+5) (if(Cy _ _ _ _ (eP W.h j) _).isSome=true then _ else _) _ _;rw[if_pos v1];have hco:=zd (Cj (aD s1.nodes (W.M j)) (eP W.h j) ((s3.nodes.length+1:Nat):Int)) (F6 (aD s2.nodes mc)) ((j:Nat):Int)
  have hk:(Pd (Cj (aD s1.nodes (W.M j)) (eP W.h j) ((s3.nodes.length+1:Nat):Int)) ((j:Nat):Int) (F6 (aD s2.nodes mc))).kind=3∨(Pd (Cj (aD s1.nodes (W.M j)) (eP W.h j) ((s3.nodes.length+1:Nat):Int)) ((j:Nat):Int) (F6 (aD s2.nodes mc))).kind=5:=by
   rcases hco with h|h;·rw[h.1];exact .inr rfl
   ·rw[h];exact .inl v2
  have hk8:∀x:Int,(x=3∨x=5)->x≠8/\(x=3∨x=5∨x=6):=λ x h=>by omega
  refine Hj (a:=0) (hk8 _ hk).1 λ s4 σ4 f4=>?_;have st4:=Ag (k:=k) f4.2.1 (Pd (Cj (aD s1.nodes (W.M j)) (eP W.h j) ((s3.nodes.length+1:Nat):Int)) ((j:Nat):Int) (F6 (aD s2.nodes mc))) (W.M j) (hk8 _ hk).1;have hS4:aD s4.nodes ((s3.nodes.length+1:Nat):Int)=fY (F6 (aD s2.nodes mc)) s3.cs.length:=(f4.1.nd _ (by rw[Ai];exact Int.le_refl _)).trans hS;have f14:=f13.trans f4;have f5:xA W k s1 σ1 (s4.push (Pd (Cj (aD s1.nodes (W.M j)) (eP W.h j) ((s3.nodes.length+1:Nat):Int)) ((j:Nat):Int) (F6 (aD s2.nodes mc))) (W.M j)) σ4:=f14.trans ⟨st4.1,st4.2.1,.inl rfl⟩;refine X1 (Nat.le_of_lt hj) st4.2.1 (Q7 (hk8 _ hk).2 (hk8 _ hk).1 f4.2.1 λ c=>?_) (λ _=>t1.Z0 f1.2.1 hj f5) (λ s6 σ6 _ _ _ f6 e6=>g s6 σ6 true ((f1.trans f5).trans (f6 hj)) e6) λ s6 σ6 f6 e6=>g s6 σ6 false ((f1.trans f5).trans f6) e6;rcases hco with h|h
  ·rw[h.1];exact .inr (.inr ⟨rfl,by show(F6 _).key≠_;rw[u2];exact hgn,by omega⟩)
  ·rw[h];obtain⟨b',w1,w2⟩:=v3 c;have w3:=w2 _ (nJ W.h j);rw[if_pos rfl,<- wT h10] at w3;refine .inl ⟨v2,.inr ⟨_,w3,?_,?_,?_⟩⟩;·have:=f4.1.le;rw[Ai] at this;omega
   ·rw[hS4];exact u1
   ·rw[hS4];show(F6 _).key≠_;rw[u2];exact hgn
 ·have hm:m<=s1.nodes.length:=by rw[<- e1];exact ix.l.2
  have gn:=ix.g;rw[e1] at gn;refine fZ hm ?_;have hno:iU (aD s1.nodes m) (oU W.h ((j:Nat):Int))≠some (W.I (j+1)):=λ e=>by
   rcases gn with⟨_,h|⟨b,e2,_,e4,_⟩⟩|⟨h,_⟩|⟨h,_⟩;·rw[show iU (aD s1.nodes m) (oU W.h ((j:Nat):Int))=none from h] at e;cases e
   ·rw[show iU (aD s1.nodes m) (oU W.h ((j:Nat):Int))=some b from e2] at e;injection e with e;have:=(f1.2.1.ws.il (j+1) hj).2.2.1;rw[<- e,e4] at this;cases this
   ·rw[Xj (by rw[h];decide)] at e;cases e
   ·rw[Xj (by rw[h];decide)] at e;cases e
  rw[if_neg hno];exact(g s1 σ1 false f1 ix.ne).mono (by omega)
theorem yt{path:List Int}(hp:∀i,i<=W.d->path.getD i 0=W.I i)(hQ:Q (gP true W.v) (some k)):∀{l:Nat} {s:Mm},l<=W.d->Jd W s (some k)->aG s.cs (W.X l)≠W.M l->qG W k Q 2 (20*l) (zl t3 path W.h (.done (gP true W.v)) l) s (some k)
 | 0,s,_,j1,_=>N6 λ s' σ' f=>by
  rcases f.2.2 with e|⟨e,_⟩
  ·rw[e];exact hQ
  ·cases e
 | l+1,s,hl,j1,hc=>by
  have hs:∀{s' σ'},xA W k s (some k) s' σ'->σ'=some k:=λ f=>by
   rcases f.2.2 with e|⟨e,_⟩
   ·exact e
   ·cases e
  show qG W k Q 2 (20*l+15+5) (nG t3 (path.getD (l+1) 0) _) s (some k)
  rw[hp _ hl,hp l (by omega)];refine Fm hl j1 (λ s1 σ1 f1 e1=>absurd e1 (f1.ch hl hc)) λ s1 σ1 m f1 e1 ix ez=>?_;have hm:m<=s1.nodes.length:=by rw[<- e1];exact ix.l.2
  refine fZ hm ?_;have e3:=hs f1;subst e3;by_cases h5:(aD s1.nodes m).kind=5
  ·rw[if_pos h5];have ht:Tm W s1 (l+1):=⟨ix.ne,by rw[e1];exact h5,by rw[e1];exact ez⟩;refine Rq hl f1.2.1 ht λ s2 σ2 b f2 e2=>?_
   have e4:σ2=some k:=by
    rcases f2.2.2 with e|⟨e,_⟩
    ·exact e
    ·cases e
   subst e4
   exact yt hp hQ (by omega) f2.2.1 e2
  ·rw[if_neg h5]
   exact N6 λ s2 σ2 f2=>by rw[hs (f1.trans f2)];exact hQ
end
end
section
def Qr(W:Ke)(k:Nat)(r:Rs)(σ:Option Nat):Prop:=(σ=some k/\r=gP true W.v)∨∃w,σ=some w/\w≠k/\r=eG false 0
section
variable{W:Ke}{k j l a d:Nat}{s s1 s2:Mm}{σ τ υ:Option Nat}{n r m q:Int}{v:Nv}{T:Tr}{path:List Int}
theorem sW(h:σ≠some k)(f:xA W k s σ s1 τ):τ≠some k:=λ e=>by
 rcases f.2.2 with e2|⟨_,w,e2,hw⟩;·exact h (by rw[<- e2,e])
 ·rw[e] at e2;injection e2 with e2;exact hw e2.symm
theorem lost(j1:Jd W s σ)(hj:j<=W.d)(hc:aG s.cs (W.X j)≠W.M j)(h:σ≠some k):∃w,σ=some w/\w≠k:=by
 cases e:σ with
 | none=>exact absurd (j1.wn.1 e) (j1.chU (Nat.le_refl _) hc hj)
 | some w=>exact⟨w,rfl,λ e2=>h (by rw[e,e2])⟩
theorem ql(j1:Jd W s σ)(hj:j<=W.d)(hc:aG s.cs (W.X j)≠W.M j)(h:σ≠some k):qG W k (Qr W k) a d (.done (eG false 0)) s σ:=N6 λ s' σ' f=>by obtain⟨w,e,hw⟩:=lost f.2.1 hj (f.ch hj hc) (sW h f);exact .inr ⟨w,e,hw,rfl⟩
theorem gy{E:Nat}(hE:220<=E)(hp:∀i,i<=W.d->path.getD i 0=W.I i)(hl:path.length=W.d+1)(j1:Jd W s σ)(h:σ≠some k)(hk:v.kind=3∨v.kind=5∨v.kind=6)(hg:∀s' c,Kp W s s'->yJ W s' W.d (fY v c))
  (hT:∀s' σ',xA W k s σ s' σ'->σ'≠some k->aG s'.cs (W.X W.d)≠W.M W.d->qG W k (Qr W k) 2 E T s' σ'):qG W k (Qr W k) 2 (E+5) (.alloc v (W.M W.d) λ r=>iN t3 (path.getD (path.length-1) 0) (W.M W.d) r (B3 ⟨t3,W.key,W.h⟩ T path W.v)) s σ:=by
 have e:path.length-1=W.d:=by omega
 refine Hj (a:=1) (by omega) λ s1 σ1 f1=>?_;have st:=Ag (k:=k) f1.2.1 v (W.M W.d) (by omega);have f2:xA W k s σ (s1.push v (W.M W.d)) σ1:=f1.trans ⟨st.1,st.2.1,.inl rfl⟩;rw[e,hp _ (Nat.le_refl _)];refine X1 (Nat.le_refl _) st.2.1 (Q7 hk (by omega) f1.2.1 λ c=>hg s1 c f1.1) (λ h=>absurd h (Nat.lt_irrefl _)) (λ s3 σ3 k3 j3 e3 _ c3=>?_) λ s3 σ3 f3 c3=>?_
 ·rw[e3 rfl] at j3 ⊢;rw[B3,if_pos rfl,e];exact(yt hp (.inl ⟨rfl,rfl⟩) (Nat.le_refl _) j3 c3).mono (by have:=j3.ws.d11;omega)
 ·rw[B3,if_neg (by decide)];exact hT s3 σ3 (f2.trans f3) (sW h (f2.trans f3)) c3
theorem X4{N E:Nat}(hE:220<=E)(hN:N<=W.d+1)(hT:∀(s':Mm) (σ':Option Nat) (j:Nat),j<N->Jd W s' σ'->σ'≠some k->aG s'.cs (W.X j)≠W.M j->qG W k (Qr W k) 2 E T s' σ') :
  ∀(n l:Nat) (path:List Int) (s:Mm) (σ:Option Nat),l<=W.d->W.d+1<=l+n->l<=N->path.length=l+1->(∀i,i<=l->path.getD i 0=W.I i)->Jd W s σ->σ≠some k->(N<=W.d->aG s.cs (W.X N)≠W.M N)->qG W k (Qr W k) 2 (5*n+15+E) (Ab ⟨t3,W.key,W.h⟩ T 1 n path) s σ
 | 0,l,path,s,σ,hl,hn,_,_,_,_,_,_=>by omega
 | n+1,l,path,s,σ,hl,hn,hlN,hpl,hp,j1,hk,hc=>by
  have el:path.length-1=l:=by omega
  show qG W k (Qr W k) 2 (5*(n+1)+15+E) (nG t3 (path.getD (path.length-1) 0) λ m=>sK ⟨t3,W.key,W.h⟩ T 1 (Ab ⟨t3,W.key,W.h⟩ T 1 n) path m) s σ
  rw[el,hp l (Nat.le_refl _),show 5*(n+1)+15+E=(5*n+15+E)+5 by omega];refine Fm hl j1 (λ s1 σ1 f1 e1=>?_) (λ s1 σ1 m f1 e1 ix ez=>?_)
  ·have hlt:l<N:=by
    refine Classical.byContradiction λ h=>?_;have h2:N<=W.d:=by omega
    exact f1.2.1.chU hl (f1.ch h2 (hc h2)) (by omega) e1
   have hM:=f1.2.1.ws.ml l hl;refine fZ hM.2 ?_;by_cases hd:l<W.d
   ·obtain⟨⟨b,hb⟩,hlk⟩:=f1.2.1.ws.mc l hd;have hI:=f1.2.1.ws.il (l+1) hd;rw[if_neg (by rw[hb.kd];decide),if_neg (by rw[hb.kd];decide),if_pos hb.kd,el];show qG W k _ 2 _ (match iU (aD s1.nodes (W.M l)) (eP W.h l) with|none=>_|some b=>_) _ _;rw[hlk];refine fZ hI.2.1 ?_;rw[if_neg (by rw[hI.2.2.1];decide),if_pos ⟨hI.2.2.1,hI.2.2.2.1⟩];refine(X4 hE hN hT n (l+1) (path++[W.I (l+1)]) s1 σ1 hd (by omega) hlt (by simp[hpl]) (λ i hi=>?_) f1.2.1 (sW hk f1) λ h=>f1.ch h (hc h));by_cases hi2:i<=l;·rw[Gp,List.getElem?_append_left (by omega),<- Gp];exact hp i hi2
    ·have:i=l+1:=by omega
     subst this;rw[Gp,List.getElem?_append_right (by omega),hpl];simp
   ·have hld:l=W.d:=by omega
    subst hld;have hT2:∀s' σ',xA W k s1 σ1 s' σ'->σ'≠some k->aG s'.cs (W.X W.d)≠W.M W.d->qG W k (Qr W k) 2 E T s' σ':=λ s' σ' f h1 h2=>hT s' σ' W.d hlt f.2.1 h1 h2;rcases f1.2.1.ws.md with⟨h10,⟨b,hb⟩,⟨r,e2,e3,e4,e5,e6⟩,hoth⟩|⟨hlv,h1d,hys,hf⟩
    ·rw[if_neg (by rw[hb.kd];decide),if_neg (by rw[hb.kd];decide),if_pos hb.kd,el];show qG W k _ 2 _ (match iU (aD s1.nodes (W.M W.d)) (eP W.h W.d) with|none=>_|some b=>_) _ _;rw[e2];refine fZ e3 ?_;rw[if_pos e4,if_pos e5,e6];obtain⟨v1,b',xs',v2,v3,v4⟩:=aC8 hb (nJ W.h W.d) (by rw[<- wT h10,e2];rfl);rw[<- wT h10] at v1 v3;unfold Rw;rw[el];show qG W k _ 2 _ (if(R4 _ _ _ _ (eP W.h W.d)).isSome=true then _ else _) _ _;rw[if_pos v1];have hso:∀r2,uX (uL (aD s1.nodes (W.M W.d)) (eP W.h W.d))=some r2->r2<=s1.nodes.length/\((aD s1.nodes r2).kind=4->(aD s1.nodes r2).key≠W.key):=λ r2 e=>by
      rw[v3] at e;obtain⟨k2,hk2,e7⟩:=aCN v2 e;have e8:=v4 k2 hk2;rw[e7] at e8;have hne:k2≠sl W.h W.d:=λ h=>by rw[if_pos h] at e8;cases e8
      rw[if_neg hne] at e8;exact hoth k2 hk2 hne r2 e8.symm
     refine fZ ?_ ?_
     ·show(uX (uL (aD s1.nodes (W.M W.d)) (eP W.h W.d))).getD 0<=_;cases e:uX (uL (aD s1.nodes (W.M W.d)) (eP W.h W.d)) with
      | none=>show(0:Int)<=_;omega
      | some r2=>exact(hso r2 e).1
     have hco:=zd (uL (aD s1.nodes (W.M W.d)) (eP W.h W.d)) (aD s1.nodes ((uX (uL (aD s1.nodes (W.M W.d)) (eP W.h W.d))).getD 0)) ((W.d:Nat):Int)
     have:=gy (T:=T) hE hp hpl f1.2.1 (sW hk f1) (v:=Pd (uL (aD s1.nodes (W.M W.d)) (eP W.h W.d)) ((W.d:Nat):Int) (aD s1.nodes ((uX (uL (aD s1.nodes (W.M W.d)) (eP W.h W.d))).getD 0))) (by
      rcases hco with h|h;·rw[h.1];exact .inr (.inl rfl)
      ·rw[h,v3];exact .inl rfl) (λ s' c _=>by
      rcases hco with⟨h,h1,h2,h3⟩|h;·rw[h];obtain⟨r2,e⟩:=Option.isSome_iff_exists.1 h1;have h4:=(hso r2 e).2;rw[e] at h3 ⊢;exact .inr (.inr ⟨rfl,h4 h3,by omega⟩)
      ·rw[h,v3];refine .inl ⟨rfl,.inl ?_⟩;rw[wT h10,(Et v2 c).lk (nJ _ _)];exact(v4 _ (nJ _ _)).trans (if_pos rfl)) hT2
     rw[el] at this;exact this.mono (by omega)
    ·have hk6:(aD s1.nodes (W.M W.d)).kind=6:=hlv.1;rw[if_neg (by rw[hk6];decide),if_pos hk6];unfold Li;show qG W k _ 2 _ (if(aD s1.nodes (W.M W.d)).ys.length<=1000 then(if(cS (aD s1.nodes (W.M W.d)).ys W.key).isSome=true then _ else _) else _) _ _;have hsh:mE (aD s1.nodes (W.M W.d)).nd (aD s1.nodes (W.M W.d)).xs (aD s1.nodes (W.M W.d)).ys W.key=some (kQ (aD s1.nodes (W.M W.d)).ys W.key):=if_pos ⟨hlv,by rw[hf];rfl⟩;rw[if_pos hys,if_pos (by rw[hf];rfl),if_pos (by show(mE _ _ _ W.key).isSome=true;rw[hsh];rfl),hf];have hsa:SA (aD s1.nodes (W.M W.d)).ys:=by
      rcases hlv.2.2.2.2.2 with h|h|h|h|h|h|h;·exact absurd (h.symm.trans hk6) (by decide)
      ·exact absurd (h.1.symm.trans hk6) (by decide)
      ·exact absurd (h.1.symm.trans hk6) (by decide)
      ·rcases h.1 with h|h<;>exact absurd (h.symm.trans hk6) (by decide)
      ·exact pV.1 h.2.2.1
      ·exact absurd (h.1.symm.trans hk6) (by decide)
      ·exact absurd (h.1.symm.trans hk6) (by decide)
     have hdl:=Ik (aD s1.nodes (W.M W.d)).ys W.key;have hdf:=Uf hsa W.key
     have hcase:(∃p,kQ (aD s1.nodes (W.M W.d)).ys W.key=[p]/\bc (aD s1.nodes (W.M W.d)) W.key=({Nd.zero with kind:=5,hash:=(aD s1.nodes (W.M W.d)).hash,key:=p.1,val:=p.2}:Nd).c [] []/\p.1≠W.key)∨((bc (aD s1.nodes (W.M W.d)) W.key).kind=6/\(bc (aD s1.nodes (W.M W.d)) W.key).ys=kQ (aD s1.nodes (W.M W.d)).ys W.key):=by
      unfold bc;rw[hsh];unfold Sy H6;by_cases h1:(kQ (aD s1.nodes (W.M W.d)).ys W.key).length=1
      ·obtain⟨p,hp1⟩:=List.length_eq_one_iff.1 h1;refine .inl ⟨p,hp1,?_,λ e=>?_⟩;·simp only[if_pos h1];rw[hp1];rfl
       ·rw[vW (Su hsa _),hp1] at hdf;unfold qI at hdf;rw[if_pos e] at hdf;cases hdf
      ·refine .inr ?_;simp only[if_neg h1];exact⟨rfl,rfl⟩
     have:=gy (T:=T) hE hp hpl f1.2.1 (sW hk f1) (v:=bc (aD s1.nodes (W.M W.d)) W.key) (by
      rcases hcase with⟨p,_,h,_⟩|⟨h,_⟩;·rw[h];exact .inr (.inl rfl)
      ·exact .inr (.inr h)) (λ s' c _=>by
      rcases hcase with⟨p,_,h,h2⟩|⟨h,h2⟩;·rw[h];exact .inr (.inr ⟨rfl,h2,h1d⟩)
      ·refine .inr (.inl ⟨h,?_,?_⟩);·show(bc _ _).ys.length<=_;rw[h2];omega
       ·show cS (bc _ _).ys _=none;rw[h2];exact hdf) hT2
     exact this.mono (by omega)
  ·have hm:m<=s1.nodes.length:=by rw[<- e1];exact ix.l.2
   have gn:=ix.g;rw[e1] at gn;have hlo:=λ a d=>ql (a:=a) (d:=d) f1.2.1 hl ix.ne (sW hk f1);refine fZ hm ?_;rcases gn with⟨h3,hb⟩|⟨h6,hy,hf⟩|⟨h5,_,hl1⟩
   ·rw[if_neg (by rw[h3];decide),if_neg (by rw[h3];decide),if_pos h3,el];show qG W k _ 2 _ (match iU (aD s1.nodes m) (eP W.h l) with|none=>_|some b=>_) _ _;rcases hb with hb|⟨b,hb,hb1,hb2,hb3⟩;·rw[hb];exact hlo _ _
    ·rw[hb];refine fZ hb1 ?_;rw[if_pos hb2,if_neg hb3];exact hlo _ _
   ·rw[if_neg (by rw[h6];decide),if_pos h6];unfold Li;show qG W k _ 2 _ (if(aD s1.nodes m).ys.length<=1000 then(if(cS (aD s1.nodes m).ys W.key).isSome=true then _ else _) else _) _ _;rw[if_pos hy,if_neg (by rw[hf];decide)];exact hlo _ _
   ·obtain⟨l,rfl⟩:∃l',l=l'+1:=⟨l-1,by omega⟩;rw[if_pos h5,if_pos (by omega),el,show path.length-2=l by omega,hp (l+1) (Nat.le_refl _),hp l (by omega)];have ht:Tm W s1 (l+1):=⟨ix.ne,by rw[e1];exact h5,by rw[e1];exact ez⟩;refine(Rq (d:=E) hl f1.2.1 ht λ s2 σ2 b f2 e2=>?_).mono (by omega);exact hT s2 σ2 l (by omega) f2.2.1 (sW hk (f1.trans f2)) e2
theorem aAm:∀(N f:Nat) (s:Mm) (σ:Option Nat),N<=W.d+1->Jd W s σ->σ≠some k->(N<=W.d->aG s.cs (W.X N)≠W.M N)->qG W k (Qr W k) 2 (400*(N+1)) (sS ⟨t3,W.key,W.h⟩ (N+1+f)) s σ:=λ N=>by
 induction N using Nat.strongRecOn with
 | ind N ih=>
  intro f s σ hN j1 hk hc;rw[show N+1+f=(N+f)+1 by omega];show qG W k _ 2 _ (B7 t3 λ r=>.node r λ nr=>Ab ⟨t3,W.key,W.h⟩ (sS ⟨t3,W.key,W.h⟩ (N+f)) nr.gen 12 [r]) s σ
  rw[show 400*(N+1)=(400*(N+1)-1)+1 by omega];refine Bb λ s1 σ1 f1=>?_;rw[f1.2.1.rt];obtain⟨r1,r2,r3⟩:=f1.2.1.root;refine fZ r3 ?_;rw[if_pos r1];refine fZ r3 ?_;rw[r2];refine(X4 (E:=400*N+220) (by omega) hN (λ s' σ' j hj j2 hk2 hc2=>?_) 12 0 [4] s1 σ1 (Nat.zero_le _) (by have:=j1.ws.d11;omega) (Nat.zero_le _) rfl (λ i hi=>by rw[Nat.le_zero.1 hi];exact j1.ws.i0.symm) f1.2.1 (sW hk f1) λ h=>f1.ch h (hc h)).mono (by omega);have:=ih j hj (N+f-(j+1)) s' σ' (by omega) j2 hk2 λ _=>hc2;rw[show j+1+(N+f-(j+1))=N+f by omega] at this;exact this.mono (by omega)
end
end
section
def AM.iG(Z:AM):Bool:=Z.th.all λ t=>decide (t.ops.length<=t.idx)
def Ch(m n r:Nat):Nat->AM->AM
 | 0,Z=>Z
 | i+1,Z=>fD m ((r+i)%n) (Ch m n r i Z)
theorem sC(m n r:Nat)(Z:AM):∀i,Ch m n r (i+1) Z=Ch m n (r+1) i (fD m (r%n) Z)
 | 0=>rfl
 | i+1=>by show fD m ((r+(i+1))%n) (Ch m n r (i+1) Z)=fD m ((r+1+i)%n) (Ch m n (r+1) i (fD m (r%n) Z));rw[sC m n r Z i,show r+(i+1)=r+1+i by omega]
def C8(m:Nat):List Nat->AM->AM
 | [],Z=>Z
 | k::l,Z=>C8 m l (fD m k Z)
theorem Lk(m:Nat):∀(l:List Nat) (k:Nat) (Z:AM),C8 m (l++[k]) Z=fD m k (C8 m l Z)
 | [],_,_=>rfl
 | j::l,k,Z=>Lk m l k (fD m j Z)
end
section
abbrev Kd(key:ByteArray):jX:=⟨5,0,key,0,0⟩
inductive TD(W:Ke)(k:Nat)(ops:List jX)(i:Nat)(s:Mm)(l:List oR)(σ:Option Nat):X5->Nat->Prop where
 | a (hn:σ≠some k) (r0:mY l k i=none):TD W k ops i s l σ ⟨ops,i,none⟩ 5300
 | b {T:Tr} {d:Nat} (g:Gd W k (Qr W k) d T s σ) (hl:T.live=true) (hd:d<=5200) (r0:mY l k i=none):TD W k ops i s l σ ⟨ops,i,some T⟩ (d+1)
 | f {r:Rs} (q:Qr W k r σ) (r0:mY l k i=some (He r)):TD W k ops i s l σ ⟨ops,i+1,none⟩ 0
section
variable{W:Ke}{k j i m n:Nat}{ops:List jX}{s s1:Mm}{l l2:List oR}{σ τ:Option Nat}{t:X5}{Z:AM}
theorem ew(r:Rs)(σ σ':Option Nat)(q:Qr W k r σ)(f:σ'=σ∨(σ=none/\∃w,σ'=some w/\w≠k)):Qr W k r σ':=by
 rcases f with e|⟨e,_⟩;·rw[e];exact q
 ·rcases q with⟨e2,_⟩|⟨w,e2,_⟩<;>rw[e] at e2<;>cases e2
theorem TD.Z0(x:TD W k ops i s l σ t n)(f:xA W k s σ s1 τ)(e:mY l2 k i=mY l k i):TD W k ops i s1 l2 τ t n:=by
 cases x with
 | a hn r0=>exact .a (sW hn f) (e.trans r0)
 | b g hl hd r0=>exact .b (g.Z0 ew f) hl hd (e.trans r0)
 | f q r0=>exact .f (ew _ _ _ q f.2.2) (e.trans r0)
theorem uq{Q:Rs->Option Nat->Prop}{d:Nat}{T:Tr}(g:Gd W k Q d T s σ):(∃r,T=.done r/\Q r σ)∨T.live=true:=by
 cases T with
 | done r=>
  refine .inl ⟨r,rfl,?_⟩;cases d with
  | zero=>obtain⟨r',e,q⟩:=g;cases e;exact q
  | succ d=>
   rcases g with⟨r',e,q⟩|⟨h1,_⟩;·cases e;exact q
   ·cases h1
 | load c k=>exact .inr rfl
 | sJ c o n k=>exact .inr rfl
 | alloc n i k=>exact .inr rfl
 | cell i k=>exact .inr rfl
 | gen k=>exact .inr rfl
 | node r k=>exact .inr rfl
 | stuck=>exact .inr rfl
theorem vn{Q:Rs->Option Nat->Prop}{d:Nat}{T:Tr}(g:Gd W k Q d T s σ)(hl:T.live=true)(j1:Jd W s σ):∃d',d=d'+1/\(mC (T,s)).1≠.stuck/\∃σ2,S3 W k 2 s σ (mC (T,s)).2 σ2/\Gd W k Q d' (mC (T,s)).1 (mC (T,s)).2 σ2:=by
 cases d with
 | zero=>obtain⟨r,e,_⟩:=g;rw[e] at hl;cases hl
 | succ d=>
  rcases g with⟨r,e,_⟩|⟨h1,h2,h3⟩;·rw[e] at hl;cases hl
  ·exact⟨d,rfl,h3 s σ (.refl j1)⟩
theorem j4(hn:σ≠some k)(j1:Jd W s σ):Gd W k (Qr W k) 5200 (sS ⟨t3,W.key,W.h⟩ jW) s σ:=by
 have h11:=j1.ws.d11;have g:=aAm (W:=W) (k:=k) (W.d+1) (jW-(W.d+2)) s σ (Nat.le_refl _) j1 hn (λ h=>by omega);rw[show W.d+1+1+(jW-(W.d+2))=(jW-1)+1 by unfold jW;omega] at g;obtain⟨_,σ2,st,g2⟩:=g s σ (.refl j1)
 have e:σ2=σ:=by
  rcases st.2.2.1 with e|⟨e1,e2⟩;·exact e
  ·have a:=j1.wn.1 e1;have b:σ2=none:=st.2.1.wn.2 a;rw[e2] at b;cases b
 rw[e] at g2;exact Gd.mono g2 (by omega)
structure PkD(W:Ke)(k m:Nat)(ops:List jX)(i:Nat)(Z:AM)(σ:Option Nat)(n:Nat):Prop where
 ok:Uw m k Z
 to:∃σ2 t n',n'<n/\S3 W k 2 Z.s σ (fD m k Z).s σ2/\(fD m k Z).th=Z.th.set k t/\TD W k ops i (fD m k Z).s (fD m k Z).hist σ2 t n'/\∀j i,j≠k->mY (fD m k Z).hist j i=mY Z.hist j i
theorem j8(hh:W.h=mV W.key m)(ho:ops[i]?=some (Kd W.key))(ht:Z.th[k]?=some t)(x:TD W k ops i Z.s Z.hist σ t n)(j1:Jd W Z.s σ)(h0:n≠0):PkD W k m ops i Z σ n:=by
 cases x with
 | a hn r0=>
  have g:=j4 hn j1;have eo:pS m (Kd W.key)=sS ⟨t3,W.key,W.h⟩ jW:=by rw[hh];rfl
  have es:jT (pS m (Kd W.key)) Z.s=(sS ⟨t3,W.key,W.h⟩ jW,Z.s):=by rw[eo];rfl
  have e:fD m k Z=⟨Z.s,Z.th.set k ⟨ops,i,some (sS ⟨t3,W.key,W.h⟩ jW)⟩,Z.hist++[⟨k,i,false,Rs.zero⟩]⟩:=by unfold fD;rw[ht];dsimp only;rw[ho];dsimp only;rw[es,nL rfl]
  refine⟨λ t' o h1 h2=>?_,σ,⟨ops,i,some (sS ⟨t3,W.key,W.h⟩ jW)⟩,5200+1,by omega,?_⟩;·rw[ht] at h1;cases h1;have h2':ops[i]?=some o:=h2;rw[ho] at h2';cases h2';show(jT (pS m (Kd W.key)) Z.s).1≠_;rw[es];exact λ e=>Tr.noConfusion e
  ·rw[e];exact⟨.refl j1,rfl,.b g rfl (Nat.le_refl _) ((Bd ..).trans r0),λ j i hj=>Bd ..⟩
 | @b T d g hl hd r0=>
  obtain⟨d',rfl,hns,σ2,st,g2⟩:=vn g hl j1;have e0:fD m k Z=uD Z k ⟨ops,i,some T⟩ (mC (T,Z.s)) Z.hist:=by unfold fD;rw[ht];dsimp only;rw[ho]
  have hok:Uw m k Z:=λ t' o h1 h2=>by rw[ht] at h1;cases h1;exact hns
  rcases uq g2 with⟨r,er,q⟩|hl2;·rw[zQ er] at e0;refine⟨hok,σ2,⟨ops,i+1,none⟩,0,by omega,?_⟩;rw[e0];exact⟨st,rfl,.f q (wm _ r0),λ j i hj=>M5 _ _ _ (.inl (λ e=>hj e.symm))⟩
  ·rw[nL hl2] at e0;refine⟨hok,σ2,⟨ops,i,some (mC (T,Z.s)).1⟩,d'+1,by omega,?_⟩;rw[e0];exact⟨st,rfl,.b g2 hl2 (by omega) r0,λ j i hj=>rfl⟩
 | f q r0=>exact absurd rfl h0
theorem TD.Lx(x:TD W k ops i s l σ t n):n=0↔t.idx=i+1:=by
 cases x with
 | a=>simp
 | b=>simp
 | f=>simp
theorem TD.aA6(x:TD W k ops i s l σ t n):t.ops=ops:=by cases x<;>rfl
end
structure SPo(m:Nat)(W:Ke)(ops:Nat->List jX)(ix:Nat->Nat):Prop where
 op:∀k,k<3->(ops k)[ix k]?=some (Kd W.key)
 len:∀k,k<3->(ops k).length=ix k+1
 h:W.h=mV W.key m
structure G3(W:Ke)(m:Nat)(ops:Nat->List jX)(ix:Nat->Nat)(Z:AM)(N:Nat):Prop where
 sp:SPo m W ops ix
 ex:∃(σ:Option Nat) (t:Nat->X5) (n:Nat->Nat),(∀w,σ=some w->w<3)/\Jd W Z.s σ/\Z.th=[t 0,t 1,t 2]/\N=n 0+n 1+n 2/\∀k,k<3->TD W k (ops k) (ix k) Z.s Z.hist σ (t k) (n k)
 sn:Z.s.nodes.length+2*N<=40000
 sc:Z.s.cs.length+2*N<=40000
def Und(Z:AM)(ix:Nat->Nat)(k:Nat):Prop:=∃t,Z.th[k]?=some t/\t.idx≠ix k+1
section
variable{W:Ke}{m N:Nat}{ops:Nat->List jX}{ix:Nat->Nat}{Z:AM}{k:Nat}
theorem W7{t:Nat->X5}(e:Z.th=[t 0,t 1,t 2])(hk:k<3):Z.th[k]?=some (t k):=by
 have h3:k=0∨k=1∨k=2:=by omega
 rcases h3 with rfl|rfl|rfl<;>rw[e]<;>rfl
theorem zw{t:Nat->X5}(x:X5)(hk:k<3):[t 0,t 1,t 2].set k x=[(if 0=k then x else t 0),(if 1=k then x else t 1),(if 2=k then x else t 2)]:=by
 have h3:k=0∨k=1∨k=2:=by omega
 rcases h3 with rfl|rfl|rfl<;>rfl
theorem G3.pick(w:G3 W m ops ix Z N)(hk:k<3):Uw m k Z/\∃N',N'<=N/\G3 W m ops ix (fD m k Z) N'/\(Und Z ix k->N'<N)/\(¬Und Z ix k->fD m k Z=Z/\N'=N):=by
 obtain⟨σ,t,n,hw3,j1,hth,hN,x⟩:=w.ex;have ht:=W7 hth hk;have xk:=x k hk;have hs1:=w.sn;have hs2:=w.sc;by_cases h0:n k=0
 ·have hidx:=xk.Lx.1 h0;have e:fD m k Z=Z:=by
   have e1:(t k).ops[(t k).idx]?=none:=by rw[xk.aA6,hidx];exact List.getElem?_eq_none (by rw[w.sp.len k hk];exact Nat.le_refl _)
   unfold fD;rw[ht];dsimp only;rw[e1]
  rw[e];refine⟨λ t' o h1 h2=>?_,N,Nat.le_refl _,w,λ⟨t',h1,h2⟩=>?_,λ _=>⟨rfl,rfl⟩⟩;·rw[ht] at h1;cases h1;rw[xk.aA6,hidx,List.getElem?_eq_none (by rw[w.sp.len k hk];exact Nat.le_refl _)] at h2;cases h2
  ·rw[ht] at h1;cases h1;exact absurd hidx h2
 ·obtain⟨ok,σ2,t',n',hl,st,eth,x',hr⟩:=j8 w.sp.h (w.sp.op k hk) ht xk j1 h0;have hund:Und Z ix k:=⟨t k,ht,λ e=>h0 (xk.Lx.2 e)⟩;have h3:k=0∨k=1∨k=2:=by omega
  refine⟨ok,(if 0=k then n' else n 0)+(if 1=k then n' else n 1)+(if 2=k then n' else n 2),?_,⟨w.sp,⟨σ2,λ j=>if j=k then t' else t j,λ j=>if j=k then n' else n j,λ q e=>?_,st.2.1,?_,rfl,λ j hj=>?_⟩,?_,?_⟩,λ _=>?_,λ h=>absurd hund h⟩;·rcases h3 with rfl|rfl|rfl<;>simp<;>omega
  ·rcases st.2.2.1 with e2|⟨_,e2⟩;·exact hw3 q (e2▸e)
   ·rw[e] at e2;injection e2 with e2;omega
  ·rw[eth,hth,zw t' hk]
  ·by_cases e:j=k;·subst e;simp only[if_pos];exact x'
   ·simp only[if_neg e];exact(x j hj).Z0 (st.Z0 e) (hr j (ix j) e)
  ·have:=st.2.2.2.1;rcases h3 with rfl|rfl|rfl<;>simp at * <;> omega
  ·have:=st.2.2.2.2;rcases h3 with rfl|rfl|rfl<;>simp at * <;> omega
  ·rcases h3 with rfl|rfl|rfl<;>simp at * <;> omega
theorem G3.iG(w:G3 W m ops ix Z N):Z.iG=decide (N=0):=by
 obtain⟨σ,t,n,hw3,j1,hth,hN,x⟩:=w.ex;have dn:∀k,k<3->((t k).ops.length<=(t k).idx↔n k=0):=λ k hk=>by
  rw[(x k hk).Lx,(x k hk).aA6,w.sp.len k hk];have:(t k).idx=ix k∨(t k).idx=ix k+1:=by
   have xk:=x k hk;generalize t k=tk at xk;generalize n k=nk at xk;cases xk with
   | a=>exact .inl rfl
   | b=>exact .inl rfl
   | f=>exact .inr rfl
  omega
 unfold AM.iG;rw[hth,Bool.eq_iff_iff];simp only[List.all_cons,List.all_nil,Bool.and_true,Bool.and_eq_true,decide_eq_true_eq,dn 0 (by decide),dn 1 (by decide),dn 2 (by decide)];omega
theorem G3.und(w:G3 W m ops ix Z N)(h:N≠0):∃k,k<3/\Und Z ix k:=by
 obtain⟨σ,t,n,hw3,j1,hth,hN,x⟩:=w.ex;have:n 0≠0∨n 1≠0∨n 2≠0:=by omega
 rcases this with h|h|h;·exact⟨0,by decide,t 0,W7 hth (by decide),λ e=>h ((x 0 (by decide)).Lx.2 e)⟩
 ·exact⟨1,by decide,t 1,W7 hth (by decide),λ e=>h ((x 1 (by decide)).Lx.2 e)⟩
 ·exact⟨2,by decide,t 2,W7 hth (by decide),λ e=>h ((x 2 (by decide)).Lx.2 e)⟩
theorem G3.len(w:G3 W m ops ix Z N):Z.th.length=3:=by obtain⟨σ,t,n,hw3,j1,hth,hN,x⟩:=w.ex;rw[hth];rfl
theorem R3:∀(M:Nat) {Z:AM} {N r:Nat},G3 W m ops ix Z N->(N=0∨∃d,d<=2/\Und Z ix ((r+d)%3)/\3*N+d<=M)->∃K,K<=M/\G3 W m ops ix (Ch m 3 r K Z) 0/\∀i,i<K->∃N',N'≠0/\N'<=N/\G3 W m ops ix (Ch m 3 r i Z) N'
 | M,Z,0,r,w,_=>⟨0,Nat.zero_le _,w,λ i h=>absurd h (Nat.not_lt_zero i)⟩
 | 0,Z,N+1,r,w,h=>by
  rcases h with h|⟨d,_,_,h⟩
  ·cases h
  ·omega
 | M+1,Z,N+1,r,w,h=>by
  rcases h with h|⟨d,hd,hu,hm⟩
  ·cases h
  ·obtain⟨_,N',h2,h3,h4,h5⟩:=w.pick (k:=r%3) (Nat.mod_lt _ (by decide))
   have key:N'=0∨∃d,d<=2/\Und (fD m (r%3) Z) ix ((r+1+d)%3)/\3*N'+d<=M:=by
    by_cases hr:Und Z ix (r%3)
    ·have:=h4 hr;by_cases h0:N'=0
     ·exact .inl h0
     ·obtain⟨j,hj,hu'⟩:=h3.und h0
      have:∃d,d<=2/\(r+1+d)%3=j:=by
       have:(r+1)%3=0∨(r+1)%3=1∨(r+1)%3=2:=by omega
       have hj3:j=0∨j=1∨j=2:=by omega
       by_cases a:(r+1+0)%3=j
       ·exact⟨0,by decide,a⟩
       by_cases b:(r+1+1)%3=j
       ·exact⟨1,by decide,b⟩
       ·exact⟨2,by decide,by omega⟩
      obtain⟨d',hd',rfl⟩:=this
      exact .inr ⟨d',hd',hu',by omega⟩
    ·obtain⟨e1,e2⟩:=h5 hr
     cases d with
     | zero=>exact absurd hu hr
     | succ d=>exact .inr ⟨d,by omega,by rw[e1,show r+1+d=r+(d+1) by omega];exact hu,by omega⟩
   obtain⟨K,hK,hw,hi⟩:=R3 M h3 key
   refine⟨K+1,by omega,by rw[sC];exact hw,λ i hl=>?_⟩
   cases i with
   | zero=>exact⟨N+1,by omega,Nat.le_refl _,w⟩
   | succ i =>
    obtain⟨N2,a,b,c⟩:=hi i (by omega)
    exact⟨N2,a,by omega,by rw[sC];exact c⟩
theorem G3.drain(w:G3 W m ops ix Z N):∃K,K<=3*N+2/\G3 W m ops ix (Ch m 3 0 K Z) 0/\∀i,i<K->∃N',N'≠0/\N'<=N/\G3 W m ops ix (Ch m 3 0 i Z) N':=by
 refine R3 _ w ?_;by_cases h0:N=0;·exact .inl h0
 ·obtain⟨j,hj,hu⟩:=w.und h0;exact .inr ⟨j,by omega,by rw[Nat.zero_add,Nat.mod_eq_of_lt hj];exact hu,by omega⟩
theorem G3.end(w:G3 W m ops ix Z 0):∃j,j<3/\∀k,k<3->mY Z.hist k (ix k)=some (if k=j then gP true W.v else eG false 0):=by
 obtain⟨σ,t,n,hw3,j1,hth,hN,x⟩:=w.ex;have hx:∀k,k<3->∃r,Qr W k r σ/\mY Z.hist k (ix k)=some (He r):=λ k hk=>by
  have xk:=x k hk;have h0:n k=0:=by
   have h3:k=0∨k=1∨k=2:=by omega
   rcases h3 with rfl|rfl|rfl<;>omega
  generalize t k=tk at xk;rw[h0] at xk;generalize e0:(0:Nat)=nk at xk;cases xk with
  | a=>cases e0
  | b=>cases e0
  | f q r0=>exact⟨_,q,r0⟩
 obtain⟨j,rfl⟩:∃j,σ=some j:=by
  obtain⟨r,q,_⟩:=hx 0 (by decide);rcases q with⟨e,_⟩|⟨w,e,_⟩;·exact⟨_,e⟩
  ·exact⟨_,e⟩
 refine⟨j,hw3 j rfl,λ k hk=>?_⟩;obtain⟨r,q,hr⟩:=hx k hk;rcases q with⟨e,rfl⟩|⟨w,e,hw,rfl⟩
 ·injection e with e
  rw[if_pos e.symm];exact hr
 ·injection e with e
  rw[if_neg (λ e2=>hw (by rw[<- e,e2]))];exact hr
end
end
end Go.Proofs.YtdeecdfockjoiaaGreatDoor
