/- Merged. -/
import Derived.Test.YtbajmaoegmbfgaaGreatGKx3
set_option linter.unusedSimpArgs false
set_option linter.unusedVariables false
namespace Go.Proofs.YtbajmaoegmbfgaaGreat
section
open Go.Ct
theorem xQ{l:List Pr}:Ev l↔∀p∈l,p.1.size<=64:=by
 constructor
 ·intro h p hp
  obtain⟨i,hi,e⟩:=List.mem_iff_getElem.1 hp
  have:=h i hi
  rw[iN hi,e] at this
  exact this
 ·intro h i hi
  rw[iN hi]
  exact h _ (List.getElem_mem hi)
theorem l9{a b:Nat}(ha:a<18446744073709551616)(hb:b<18446744073709551616)(h:∀j,j<11->sl a j=sl b j):a=b:=by
 have key:∀d j,j+d=11->a >>> (6*j)=b >>> (6*j):=by
  intro d
  induction d with
  | zero =>
   intro j hj
   have hj:j=11:=by omega
   subst hj
   rw[Nat.shiftRight_eq_div_pow,Nat.shiftRight_eq_div_pow,Nat.div_eq_of_lt (by omega),Nat.div_eq_of_lt (by omega)]
  | succ d ih =>
   intro j hj
   have h1:=ih (j+1) (by omega)
   have h2:=h j (by omega)
   unfold sl at h2
   rw[<- L3,<- L3] at h1
   omega
 have:=key 11 0 rfl
 simpa using this
theorem gy{a b:Nat}{w:List Nat}(ha:a<18446744073709551616)(hb:b<18446744073709551616)(h1:iI a w)(h2:iI b w)(hw:w.length=11):a=b:=l9 ha hb λ j hj=>by rw[h1 j (by omega),h2 j (by omega)]
section
variable{H:ByteArray->Nat}{Q:Rs->Kw->Prop}{σ τ υ:Kw}{i m p g:Int}{w:List Nat}{t:dO}
structure jn(H:ByteArray->Nat)(σ:Kw)(m:Int)(w:List Nat)(h:Nat):Prop where
 kd:(σ.nd m).kind=6
 hs:(σ.nd m).hash=((h:Nat):Int)
 hl:h<18446744073709551616
 lv:LV (σ.nd m).nd (σ.nd m).xs (σ.nd m).ys
 two:2<=(σ.nd m).ys.length
 sa:SA (σ.nd m).ys
 sh:∀p∈(σ.nd m).ys,p.1.size<=64
 ha:∀p∈(σ.nd m).ys,H p.1=h
 wl:w.length=11
 un:iI h w
theorem oO.vr(i0:Inv H σ)(h:oO σ m w g)(k:(σ.nd m).kind=6):jn H σ m w (σ.nd m).hash.toNat:=by
 have hr:=h.in
 have hn:=i0.nd m hr.1 hr.2
 obtain⟨h1,h2,h3,_⟩:=hn.k6 k
 obtain⟨b,hb1,hb2⟩:=hn.bd.hash
 have hv:=hn.valid.2.2.2.2
 have hl:2<=(σ.nd m).ys.length/\vu (σ.nd m).ys/\Ev (σ.nd m).ys:=by
  rcases hv with h'|h'|h'|h'|h'|h'|h'
  ·have:(σ.nd m).kind=1:=h';omega
  ·have:(σ.nd m).kind=2:=h'.1;omega
  ·have:(σ.nd m).kind=3:=h'.1;omega
  ·rcases h'.1 with h''|h''
   ·have:(σ.nd m).kind=4:=h'';omega
   ·have:(σ.nd m).kind=5:=h'';omega
  ·exact h'.2
  ·have:(σ.nd m).kind=8:=h'.1;omega
  ·have:(σ.nd m).kind=7:=h'.1;omega
 rw[h.2.1] at h1 h2
 exact⟨k,by omega,by omega,⟨k,hn.valid⟩,hl.1,qA.1 hl.2.1,xQ.1 hl.2.2,h3,h1,h2⟩
theorem yr(i0:Inv H σ){h:Nat}(hl:jn H σ m w h){k:ByteArray}{u:Int}(hk:k.size<=64)(hH:H k=h):bZ (grV (σ.nd m) k u)/\kO H σ (grV (σ.nd m) k u) w g:=by
 have e:grV (σ.nd m) k u=Vd ((h:Nat):Int) (mI (σ.nd m).ys k u):=by
  unfold grV kV Oj
  rw[if_pos ⟨hl.lv,hk⟩,if_pos hl.sa,hl.hs]
  rfl
 rw[e]
 refine⟨.inr (.inr rfl),Ex i0 ?_ (qA.2 (xA hl.sa)) (xQ.2 λ p hp=>?_) (λ p hp=>?_) hl.hl hl.wl hl.un⟩
 ·rw[wY hl.sa]
  have:=hl.two
  (try dsimp only);split<;>omega
 ·rcases Ak hp with rfl|hp
  ·exact hk
  ·exact hl.sh p hp
 ·rcases Ak hp with rfl|hp
  ·exact hH
  ·exact hl.ha p hp
theorem y4(i0:Inv H σ){h:Nat}(hl:jn H σ m w h){k:ByteArray}(hf:(dV (σ.nd m).ys k).isSome=true):bZ (pf (σ.nd m) k)/\kO H σ (pf (σ.nd m) k) w g:=by
 have hf2:(rR (σ.nd m).ys k).isSome=true:=by unfold dV at hf;rwa [if_pos hl.sa] at hf
 have hlen:=Nr (k:=k) hl.sa
 rw[if_pos hf2] at hlen
 have hmem:∀p∈iR (σ.nd m).ys k,p∈(σ.nd m).ys:=λ p hp=>(List.mem_filter.1 hp).1
 have htwo:=hl.two
 by_cases h1:(iR (σ.nd m).ys k).length=1
 ·have e:pf (σ.nd m) k=Zu ((h:Nat):Int) ((iR (σ.nd m).ys k).getD 0 (⟨#[]⟩,0)).1 ((iR (σ.nd m).ys k).getD 0 (⟨#[]⟩,0)).2:=by
   unfold pf pS rZ
   rw[if_pos ⟨hl.lv,hf⟩,if_pos hl.sa,hl.hs]
   unfold Na H5
   dsimp only
   rw[if_pos h1,if_pos h1]
   rfl
  rw[e]
  have hp:(iR (σ.nd m).ys k).getD 0 (⟨#[]⟩,0)∈(σ.nd m).ys:=hmem _ (by rw[iN (by omega)];exact List.getElem_mem _)
  exact⟨.inr (.inl rfl),Hu i0 (hl.sh _ hp) (hl.ha _ hp) hl.hl (by rw[hl.wl];decide) (by rw[hl.wl];decide) hl.un⟩
 ·have e:pf (σ.nd m) k=Vd ((h:Nat):Int) (iR (σ.nd m).ys k):=by
   unfold pf pS rZ
   rw[if_pos ⟨hl.lv,hf⟩,if_pos hl.sa,hl.hs]
   unfold Na H5
   dsimp only
   rw[if_neg h1,if_neg h1]
   rfl
  rw[e]
  exact⟨.inr (.inr rfl),Ex i0 (by omega) (qA.2 (vX k hl.sa)) (xQ.2 λ p hp=>hl.sh p (hmem p hp)) (λ p hp=>hl.ha p (hmem p hp)) hl.hl hl.wl hl.un⟩
def sZ(h l:Nat):List Nat:=(List.range l).map (sl h)
theorem fN(h l:Nat):(sZ h l).length=l:=by simp[sZ]
theorem Kl(h l:Nat):sZ h (l+1)=sZ h l++[sl h l]:=by simp[sZ,List.range_succ]
theorem tF(h l:Nat):iI h (sZ h l):=λ k hk=>by
 rw[fN] at hk
 simp[sZ,jS,hk]
theorem ur{h:Nat}{w:List Nat}(hu:iI h w):w=sZ h w.length:=by
 refine List.ext_getElem (by rw[fN]) λ k h1 h2=>?_
 have:=hu k h1
 rw[jS,List.getElem?_eq_getElem h1] at this
 simp only[sZ,List.getElem_map,List.getElem_range]
 exact this.symm
theorem Xn{a b l:Nat}(hl:l<=lB a b):iI a (sZ b l):=λ k hk=>by
 rw[fN] at hk
 rw[<- tF b l k (by rw[fN];exact hk)]
 exact Sq (by omega)
theorem L7:BV 0 []:=⟨by decide,by decide,λ i hi=>absurd hi (Nat.not_lt_zero i)⟩
theorem Fz:∀k,fY 0 k=0
 | 0=>rfl
 | k+1=>by simp only[fY,Fz k,Nat.zero_testBit];rfl
theorem Zv{k:Nat}(hk:k<64){r:Int}(hr:1<=r):BV (dW 0 (k:Int)) [r]/\∀j,j<64->∀v,rS (dW 0 (k:Int)) [r] j=some v->j=k/\v=r:=by
 rw[pK 0 hk]
 have h:=Gj L7 hk (by simp) hr
 rw[Fz,show wQ [] 0 r=[r] from rfl] at h
 refine⟨h.1,λ j hj v hv=>?_⟩
 rw[h.2 j hj] at hv
 unfold Jj at hv
 split at hv
 ·cases hv;exact⟨by assumption,rfl⟩
 ·simp[rS] at hv
theorem xq{k l:Nat}(hk:k<64)(hl:l<64)(hne:k≠l){x s:Int}(hx:1<=x)(hs:1<=s):BV (dW (dW 0 (k:Int)) (l:Int)) (two k l x s)/\∀j,j<64->∀v,rS (dW (dW 0 (k:Int)) (l:Int)) (two k l x s) j=some v->(j=k/\v=x)∨(j=l/\v=s):=by
 have h1:=Zv hk hx
 rw[pK 0 hk] at h1 ⊢
 rw[pK _ hl]
 have hb:(0 ||| 2^k).testBit l=false:=by rw[zQ];simp;omega
 have h:=Gj h1.1 hl hb hs
 have hc:fY (0 ||| 2^k) l=if k<l then 1 else 0:=by
  have:=zZ (b:=0) (b':=0 ||| 2^k) (i:=k) (by simp) (λ j _=>zQ 0 k j) l (by omega)
  rw[this,Fz];omega
 have e:wQ [x] (fY (0 ||| 2^k) l) s=two k l x s:=by
  rw[hc]
  unfold two
  by_cases hkl:k<l
  ·rw[if_pos hkl,if_pos hkl];rfl
  ·rw[if_neg hkl,if_neg hkl];rfl
 rw[e] at h
 refine⟨h.1,λ j hj v hv=>?_⟩
 rw[h.2 j hj] at hv
 unfold Jj at hv
 split at hv
 ·cases hv;exact .inr ⟨by assumption,rfl⟩
 ·exact .inl (h1.2 j hj v hv)
theorem Qd:∀(a b:List NI) (r:Int) (K:Int->Tr),Aj (a++b) r K=Aj a r λ r=>Aj b r K
 | [],_,_,_=>rfl
 | x::a,b,r,K=>by simp only[List.cons_append,Aj,Qd a b]
theorem qR{n:Nv}(i0:Inv H σ)(h2:n.kind≠2):W0 σ n 0 w g:=⟨⟨Int.le_refl _,bH _⟩,λ k=>absurd k h2,λ _=>.inl rfl,λ _=>rfl⟩
theorem r8{p q:Pr}(hne:p.1≠q.1):2<=(D0 [p,q]).length/\SA (D0 [p,q])/\∀r∈D0 [p,q],r=p∨r=q:=by
 refine⟨?_,ad _,λ r hr=>?_⟩
 ·have h1:D0 [p]=[p]:=rfl
  rw[show [p,q]=[p]++[q] from rfl,wS,h1,wY (by simp[SA])]
  have:rR [p] q.1=none:=qE λ r hr=>by rw[List.mem_singleton.1 hr];exact hne
  rw[this]
  simp
 ·rw[show [p,q]=[p]++[q] from rfl,wS] at hr
  rcases Ak hr with h|h
  ·exact .inr h
  ·have h1:D0 [p]=[p]:=rfl
   rw[h1] at h
   exact .inl (List.mem_singleton.1 h)
theorem Um{x:Int}{h0 h:Nat}{p:Pr}{k:ByteArray}{u g:Int}:∀(n lvl:Nat),∃a:NI,∀f,∃l,dN x h0 h p k u g f n lvl=a::l
 | 0,lvl=>by
  by_cases e:lvl=11
  ·exact⟨Es h (D0 [p,(k,u)]),λ f=>⟨[],by unfold dN;rw[if_pos e]⟩⟩
  ·exact⟨wE h k u,λ f=>⟨_,by unfold dN;rw[if_neg e]⟩⟩
 | n+1,lvl=>by
  obtain⟨a,ha⟩:=Um (x:=x) (h0:=h0) (h:=h) (p:=p) (k:=k) (u:=u) (g:=g) n (lvl+1)
  refine⟨a,λ f=>?_⟩
  obtain⟨l,hl⟩:=ha f
  exact⟨_,by unfold dN;rw[hl];rfl⟩
end
end
section
open Go.Ct
section
variable{H:ByteArray->Nat}{Q:Rs->Kw->Prop}{σ τ υ:Kw}{i m p g:Int}{w:List Nat}{c:Cl}{h:Nat}
structure Pq(H:ByteArray->Nat)(c:Cl)(h:Nat):Prop where
 sz:c.key.size<=64
 ha:H c.key=h
 hl:h<18446744073709551616
def Fur(σ:Kw)(m:Int)(h:Nat)(level:Nat):Prop:=∃b,kU (σ.nd m) (gJ h level)=some b/\(σ.nd b).kind=2
theorem ft{p:Prop}(b:Bool):(if b=true then(1:Int) else 0)=0∨(if b=true then(1:Int) else 0)=1∨p:=by cases b;exact .inl rfl;exact .inr (.inl rfl)
def C7(σ:Kw)(path:List Int)(h:Nat)(g:Int):Prop:=∀k,k<path.length->rD σ (path.getD k 0) (sZ h k) g
theorem C7.up{path:List Int}(hp:C7 σ path h g)(l:Le σ τ):C7 τ path h g:=λ k hk=>(hp k hk).up l
theorem C7.snoc{path:List Int}{b:Int}(hp:C7 σ path h g)(hb:rD σ b (sZ h path.length) g):C7 σ (path++[b]) h g:=λ k hk=>by
 rw[List.length_append,List.length_singleton] at hk
 rw[jS]
 by_cases e:k<path.length
 ·rw[List.getElem?_append_left e,<- jS]
  exact hp k e
 ·have:k=path.length:=by omega
  subst this
  simpa using hb
theorem my{K:Int->Tr}(i0:Inv H σ)(hK:∀υ,Le σ υ->Inv H υ->υ.mm.gen=σ.mm.gen+1->WT H Q (K (σ.mm.gen+1)) υ):WT H Q (.gen K) σ:=by
 have e:Ext σ ⟨⟨σ.mm.nodes,σ.mm.cs,σ.mm.gen+1⟩,σ.way,σ.gb,σ.ct⟩:=⟨⟨[],by simp⟩,⟨[],by simp⟩,by show σ.mm.gen<=σ.mm.gen+1;omega,λ _ _=>rfl,λ _ _=>rfl,λ _ _=>rfl⟩
 have hp:fW σ.mm.nodes σ.mm.cs (σ.mm.gen+1):=⟨i0.prop.two,by have:=i0.prop.gen0;omega,i0.prop.m0,i0.prop.m1,i0.prop.cells,λ k hk=>⟨(i0.prop.nodes k hk).1,by have:=(i0.prop.nodes k hk).2.1;omega,(i0.prop.nodes k hk).2.2⟩,i0.prop.marks⟩
 have i1:=Kv i0 e hp (λ r h1 h2=>absurd h2 (by simp only[Kw.len] at *;omega)) (λ c h1 h2=>absurd h2 (by simp only[Kw.cl] at *;omega))
 exact⟨_,e.le,i1,rfl,hK _ e.le i1 rfl⟩
theorem Ud{r:Int}{K:Int->Tr}(ro:Bool)(i0:Inv H σ)(hr:uK σ r [])(hK:∀υ c,Le σ υ->Inv H υ->0<c->bU υ ⟨c,ro⟩->WT H Q (K c) υ):WT H Q (.cell r K) σ:=by
 have e:Ext σ ⟨⟨σ.mm.nodes,σ.mm.cs++[r],σ.mm.gen⟩,σ.way,σ.gb,λ c=>if c<=σ.cl then σ.ct c else ctR ro⟩:=⟨⟨[],by simp⟩,⟨[r],rfl⟩,Int.le_refl _,λ _ _=>rfl,λ _ _=>rfl,λ c hc=>if_pos hc⟩
 have hcl:(σ.mm.cs++[r]).length=σ.cl+1:=by simp[Kw.cl]
 have hct:(if((σ.cl+1:Nat):Int)<=σ.cl then σ.ct ((σ.cl+1:Nat):Int) else ctR ro)=ctR ro:=if_neg (by omega)
 have hin:=hr.in
 have i1:=Kv i0 e (fW.cell i0.prop ⟨by omega,hin.2⟩) (λ r h1 h2=>absurd h2 (by simp only[Kw.len] at *;omega)) (λ c h1 h2=>by
  simp only[Kw.cl] at h1 h2
  rw[hcl] at h2
  have hc:c=((σ.cl+1:Nat):Int):=by simp only[Kw.cl] at *;omega
  subst hc
  have hv:aY (σ.mm.cs++[r]) ((σ.cl+1:Nat):Int)=r:=by
   unfold aY
   rw[if_pos ⟨by omega,by rw[hcl];exact Int.le_refl _⟩,show(((σ.cl+1:Nat):Int)-1).toNat=σ.mm.cs.length by simp only[Kw.cl];omega]
   simp[jS]
  refine⟨by simp only[Kw.ce,hv];omega,by simp only[Kw.ce,hv];exact hin.2,λ i' k=>?_,λ m k=>?_,λ d k=>?_,λ k=>.inl ?_,λ k=>?_⟩
  ·simp only[hct] at k;cases ro<;>cases k
  ·simp only[hct] at k;cases ro<;>cases k
  ·simp only[hct] at k;cases ro<;>cases k
  ·simp only[Kw.ce,hv];exact hr
  ·simp only[Kw.ce,hv];exact hr)
 refine⟨_,e.le,i1,rfl,hK _ _ e.le i1 (by omega) ⟨by show 1<=((σ.cl+1:Nat):Int);omega,by show((σ.cl+1:Nat):Int)<=((σ.mm.cs++[r]).length:Nat);rw[hcl];exact Int.le_refl _,hct⟩⟩
def Q0(r:Rs)(σ:Kw):Prop:=0<r.root->bU σ ⟨r.root,r.ro⟩
theorem Q0.up{r:Rs}(h:Q0 r σ)(l:Le σ τ):Q0 r τ:=λ h0=>(h h0).up l
theorem uK.Gz(hr:uK σ i w):rD σ i w (σ.nd i).gen:=⟨hr,rfl⟩
structure Tj(H:ByteArray->Nat)(σ:Kw)(c:Cl)(h:Nat):Prop where
 t:bU σ c.t
 hl:h<18446744073709551616
 ha:H c.key=h
 ro:c.kind=8∨c.kind=9∨c.kind=12∨c.kind=4->c.t.ro=false
 k:(7<=c.kind/\c.kind<=12)∨c.kind=3∨(c.kind=1/\∃w g,rD σ c.a w g)∨(c.kind=2/\∃w g,rD σ c.a w g/\oO σ c.n w g)∨(c.kind=4/\uK σ c.a []/\uK σ c.n []/\1<=c.b/\c.b<=σ.len)
theorem Iz(h:refuse c=0)(hk:c.kind=7∨c.kind=8∨c.kind=9):c.key.size<=64:=by
 unfold refuse at h
 split at h
 ·split at h
  ·assumption
  ·cases h
 split at h
 ·split at h
  ·rename_i hx;exact hx.1
  ·cases h
 ·omega
end
end
section
open Go Go.RowKit Go.Ct
section
variable{X:Xp}{σ τ υ:Kw}{i m p g v:Int}{w:List Nat}{t:dO}{n:Nat}
structure FL(t:dO)(L:Nat)(σ τ:Kw):Prop where
 root:τ.ce t.root=σ.ce t.root
 main:∀p,(σ.nd p).kind=2->(σ.way p).length<L->τ.ce (σ.nd p).main=σ.ce (σ.nd p).main
theorem FL.refl(t:dO)(L:Nat)(σ:Kw):FL t L σ σ:=⟨rfl,λ _ _ _=>rfl⟩
theorem jO{k:Int}(h:(σ.nd p).kind=k)(hk:k≠0:=by decide):p<=σ.len:=(eS (N:=σ.mm.nodes) (i:=p) (by simp only[Kw.nd] at h;rw[h];exact hk)).2
theorem FL.trans{L:Nat}(l:Le σ τ)(h:FL t L σ τ)(h2:FL t L τ υ):FL t L σ υ:=⟨h2.root.trans h.root,λ p hk hp=>by
 have e:=l.nd (jO hk)
 have:=h2.main p (by rw[e];exact hk) (by rw[l.way p (jO hk)];exact hp)
 rw[e] at this
 exact this.trans (h.main p hk hp)⟩
theorem FL.less{L L':Nat}(h:FL t L σ τ)(hl:L'<=L):FL t L' σ τ:=⟨h.root,λ p hk hp=>h.main p hk (by omega)⟩
theorem qi{H:ByteArray->Nat}(i0:Inv H σ){i j:Int}(hi:(σ.nd i).kind=2)(hj:(σ.nd j).kind=2)(hne:i≠j):σ.ct (σ.nd i).main≠.main j:=λ h=>by
 rw[(i0.dR hi).2.2] at h
 cases h
 exact hne rfl
theorem Ls{H:ByteArray->Nat}(hT:bU σ t)(i0:Inv H σ)(f:Im σ τ i):FL t (σ.way i).length σ τ:=⟨wT hT f,λ p hk hp=>by
 have hc:=i0.dR hk
 refine f _ hc.1 hc.2.1 (λ h=>?_) (λ m h=>?_)
 ·rw[hc.2.2] at h;cases h;omega
 ·rw[hc.2.2] at h;cases h⟩
theorem sr.fl{H:ByteArray->Nat}{nd:Nv}{c r:Int}{L:Nat}(hT:bU σ t)(i0:Inv H σ)(a:sr σ υ nd c r w g):FL t L σ υ:=⟨a.ce hT.2.1,λ p hk _=>a.ce (i0.dR hk).2.1⟩
structure rm(σ:Kw)(p:Int)(k:Nat)(b:Int):Prop where
 st:aZ σ (σ.ce (σ.nd p).main)
 lk:kU (σ.nd (σ.ce (σ.nd p).main)) (k:Int)=some b
structure cw(σ:Kw)(p:Int)(k:Nat):Prop where
 st:aZ σ (σ.ce (σ.nd p).main)
 no:∀b,kU (σ.nd (σ.ce (σ.nd p).main)) (k:Int)=some b->(σ.nd b).kind≠2
structure Ka(X:Xp)(σ:Kw)(t:dO)(g:Int):Prop where
 b:X.b=false
 ro:t.ro=false
 k2:(σ.nd (σ.ce t.root)).kind=2
 gen:(σ.nd (σ.ce t.root)).gen=g
theorem Ka.fl{H:ByteArray->Nat}{L:Nat}(i0:Inv H σ)(hT:bU σ t)(l:Le σ τ)(f:FL t L σ τ)(h:Ka X σ t g):Ka X τ t g:=by
 have e:τ.nd (τ.ce t.root)=σ.nd (σ.ce t.root):=by rw[f.root];exact l.nd (i0.ce _ hT.1 hT.2.1).hi
 exact⟨h.b,h.ro,by rw[e];exact h.k2,by rw[e];exact h.gen⟩
theorem Ag{K:Int->Tr}{g':Int}(hX:Dw X)(i0:Inv X.H σ)(h1:1<=g)(h2:g<=σ.mm.gen)(hw:w.length<=11)(hm:oO σ m w g')(hs:aZ σ m)(hg:g'<=g)(hK:∀τ j,Le σ τ->Inv X.H τ->rD τ j w g->sr σ τ (fH g) m j w 0->XT X (K j) n τ):XT X (.alloc (fH g) m K) n σ :=
 iX (w:=w) (g:=0) hX.al i0 (Bm hw h1 h2) ⟨⟨by have:=hm.in;omega,hm.in.2⟩,λ _=>hm.le hg,λ k=>absurd k (jJ (.inr (.inr (.inl rfl)))),λ k=>dK (a:=2) (b:=8) k⟩ (λ υ j l1 i1 a=>hK υ j l1 i1 ⟨⟨by rw[a.nd];rfl,a.way⟩,by rw[a.nd];rfl⟩ a) λ _=>hs
theorem ic{K:Int->Tr}(hX:Dw X)(i0:Inv X.H σ)(hK:∀υ,Le σ υ->Inv X.H υ->υ.mm=⟨σ.mm.nodes,σ.mm.cs,σ.mm.gen+1⟩->XT X (K (σ.mm.gen+1)) n υ):XT X (.gen K) n σ:=by
 obtain⟨υ,l,i,e,_⟩:WT X.H (λ _ _=>True) (.gen λ _=>.done Rs.zero) σ:=my i0 λ _ _ _ _=>trivial
 exact .inr ⟨λ _ υ l i e=>hK υ l i e,λ _=>⟨υ,l,i,e,hK υ l i e⟩⟩
theorem Rm{r:Int}{K:Int->Tr}(hX:Dw X)(ro:Bool)(i0:Inv X.H σ)(hr:uK σ r [])(hK:∀υ c,Le σ υ->Inv X.H υ->0<c->bU υ ⟨c,ro⟩->XT X (K c) n υ):XT X (.cell r K) n σ:=by
 obtain⟨υ,l,i,e,h1,h2⟩:WT X.H (λ r υ=>0<r.root/\bU υ ⟨r.root,ro⟩) (.cell r λ c=>.done (Io c ro)) σ:=Ud ro i0 hr λ _ _ _ _ h0 ht=>⟨h0,ht⟩
 exact .inr ⟨hr.1,λ h=>(by rw[hX.al] at h;cases h),λ _=>⟨υ,l,i,e,hK υ _ l i h1 h2⟩⟩
theorem l7{b:Nat}{xs:List Int}{K:Int->Tr}(hX:Dw X)(i0:Inv X.H σ)(hm:oO σ m w g)(hs:aZ σ m)(hc:oY σ m w g b xs){k:Nat}(hk:k<64){o r:Int}(ho:kU (σ.nd m) (k:Int)=some o)(hr:Ky σ (w++[k]) g r)(h0:0<w.length->xs.length=1->(σ.nd r).kind=2)
  (hK:∀τ v,Le σ τ->Inv X.H τ->oO τ v w g->sr σ τ (Rl (σ.nd m) (k:Int) r) m v w g->bZ (Rl (σ.nd m) (k:Int) r)->kU (τ.nd v) (k:Int)=some r->XT X (K v) n τ):XT X (Eo m (k:Int) r K) n σ:=by
 have hmk:bZ (Rl (σ.nd m) (k:Int) r):=.inl (N6 hc hk ho hr.in.1)
 refine cQ hm.in.2 (iX hX.al i0 (kv i0 hc hk ho hr h0) (xT hmk hm hs) λ υ n l1 i1 a=>?_)
 have hn:=nN (cl:=0) hmk a.nd a.way a.gb
 refine hK υ n l1 i1 hn a hmk ?_
 have hcn:=hn.uC i1 (by rw[a.nd];exact N6 hc hk ho hr.in.1)
 obtain⟨f1,f2,f3,_⟩:=hc.up hk ho hr.in.1
 rw[hcn.lk hk,a.nd]
 show rS (Rl (σ.nd m) (k:Int) r).bm.toNat (Rl (σ.nd m) (k:Int) r).xs k=some r
 rw[f1,show(Cw b (qQ xs (fY b k) r)).bm.toNat=b from Int.toNat_natCast _,show(Cw b (qQ xs (fY b k) r)).xs=qQ xs (fY b k) r from rfl,f3 k hk]
 unfold Jj
 rw[if_pos rfl]
theorem r6{b:Nat}{xs:List Int}{K:Int->Tr}(hX:Dw X)(hT:bU σ t)(i0:Inv X.H σ)(hi:rD σ i w g)(hm:oO σ m w g)(hs:aZ σ m)(hc:oY σ m w g b xs){k:Nat}(hk:k<64){o:Int}(ho:kU (σ.nd m) (k:Int)=some o)(h2:(σ.nd o).kind=2)
  (hK:∀τ v,Le σ τ->Inv X.H τ->(v=0∨rD τ v (w++[k]) g)->(Ka X σ t g->σ.ce (σ.nd i).main=m->v≠0/\rm τ i k v/\FL t w.length σ τ)->XT X (K v) n τ):XT X (Me t i m (k:Int) K) (n+20) σ:=by
 have hb:uK σ o (w++[k])/\(σ.nd o).gen<=g:=by
  have ho2:=ho
  rw[hc.lk hk] at ho2
  rcases hc.br k hk o ho2 with h|h
  ·rw[h2] at h;exact absurd h.1 (by decide)
  ·exact⟨⟨h.1,h.2.1⟩,h.2.2⟩
 have hg:=hi.Ph i0
 refine cQ hm.in.2 ?_
 try dsimp only
 rw[show(kU (σ.nd m) (k:Int)).getD 0=o by rw[ho];rfl]
 refine oS hX.toWz (n:=n+10) hT i0 (g:=(σ.nd o).gen) ⟨hb.1,rfl⟩ λ τ v l1 i1 hv hsv fr=>cQ (by have:=l1.len;have:=hi.in.2;omega) ?_
 have hi1:=hi.up l1
 try dsimp only
 rw[hi1.2]
 refine Ag hX i1 hg.1 (by have:=l1.gen;omega) (by rw[List.length_append,List.length_singleton];have:=hc.wl;omega) hv hsv hb.2 λ υ j l2 i2 hj aj=>?_
 have l12:=l1.trans i0 i1 l2
 have ho2:kU (υ.nd m) (k:Int)=some o:=by rw[l12.nd hm.in.2];exact ho
 refine l7 hX i2 (hm.up l12) (aZ.up i0 hm.1 hs l12) (hc.upL l12) hk ho2 (.inr ⟨hj.1.1,hj.1.2,by rw[hj.2];exact Int.le_refl _⟩) (λ _ _=>hj.1.1) λ ρ n l3 i3 hn an hmk hlk=>?_
 have l13:=l12.trans i0 i2 l3
 refine Bt hX.toWz (hT.up l13) i3 (hi.up l13) hn λ χ ok l4 i4 hgr=>hK χ _ (l13.trans i0 i3 l4) i4 ?_ λ hso hma=>?_
 ·try dsimp only
  split
  ·exact .inr ((hj.up l3).up l4)
  ·exact .inl rfl
 ·have fo:=fr.s hso.b hso.k2
  have hne:i≠o:=λ e=>by
   have h1:=hi.1.2
   rw[e,hb.1.2] at h1
   have:=congrArg List.length h1
   simp at this
  have hmi:=i0.dR hi.1.1
  have emi:τ.ce (σ.nd i).main=m:=(fo.2 _ hmi.1 hmi.2.1 (qi i0 hi.1.1 hb.1.1 hne) (λ q h=>by rw[hmi.2.2] at h;cases h)).trans hma
  have wb:FL t w.length σ τ:=(Ls hT i0 fo.2).less (by rw[hb.1.2];simp)
  have fl2:FL t w.length τ υ:=aj.fl (hT.up l1) i1
  have fl3:FL t w.length υ ρ:=an.fl (hT.up l12) i2
  have fl13:=(wb.trans l1 fl2).trans l12 fl3
  have hso3:=hso.fl i0 hT l13 fl13
  have hml:m<=σ.len:=hm.in.2
  have hgc:GcS X ρ t i g m n:=⟨hso3.b,hso3.ro,hso3.k2,hso3.gen,by
   rw[l13.nd hi.in.2,an.ce (by have:=l12.cl;have:=hmi.2.1;omega),aj.ce (by have:=l1.cl;have:=hmi.2.1;omega)];exact emi,an.prev hmk,by rw[l13.nd hml];exact hm.1⟩
  have r:=hgr hgc
  rw[if_pos r.t]
  have ema:χ.ce (χ.nd i).main=n:=by rw[l4.nd (hi.up l13).in.2];exact r.ma
  have hj1:=hj.in
  refine⟨by omega,⟨by rw[ema];exact r.st,by rw[ema,l4.nd hn.in.2];exact hlk⟩,fl13.trans l13 ((Ls (hT.up l13) i3 r.fr).less (by rw[(hi.up l13).1.2];exact Nat.le_refl _))⟩
end
end
end Go.Proofs.YtbajmaoegmbfgaaGreat
