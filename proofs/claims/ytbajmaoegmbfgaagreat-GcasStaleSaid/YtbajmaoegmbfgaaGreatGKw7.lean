/- Merged. -/
import Derived.Test.YtbajmaoegmbfgaaGreatGKx3
set_option linter.unusedSimpArgs false
set_option linter.unusedVariables false
namespace Go.Proofs.YtbajmaoegmbfgaaGreat
section
open Go.Ct
theorem xI{l:List Pr}:E3 l↔∀p∈l,p.1.size<=64:=by
 constructor
 ·intro h p hp
  obtain⟨i,hi,e⟩:=List.mem_iff_getElem.1 hp
  have:=h i hi
  rw[iQ hi,e] at this
  exact this
 ·intro h i hi
  rw[iQ hi]
  exact h _ (List.getElem_mem hi)
theorem mv{a b:Nat}(ha:a<18446744073709551616)(hb:b<18446744073709551616)(h:∀j,j<11->sl a j=sl b j):a=b:=by
 have key:∀d j,j+d=11->a >>> (6*j)=b >>> (6*j):=by
  intro d
  induction d with
  | zero =>
   intro j hj
   have hj:j=11:=by omega
   subst hj
   rw[Nat.shiftRight_eq_div_pow,Nat.shiftRight_eq_div_pow,Nat.div_eq_of_lt (by omega),Nat.div_eq_of_lt (by omega)]
  | succ d ih =>
   intro j hj
   have h1:=ih (j+1) (by omega)
   have h2:=h j (by omega)
   unfold sl at h2
   rw[<- Nh,<- Nh] at h1
   omega
 have:=key 11 0 rfl
 simpa using this
theorem ik{a b:Nat}{w:List Nat}(ha:a<18446744073709551616)(hb:b<18446744073709551616)(h1:iO a w)(h2:iO b w)(hw:w.length=11):a=b:=mv ha hb λ j hj=>by rw[h1 j (by omega),h2 j (by omega)]
section
variable{H:ByteArray->Nat}{Q:Rs->Kw->Prop}{σ τ υ:Kw}{i m p g:Int}{w:List Nat}{t:dL}
structure im(H:ByteArray->Nat)(σ:Kw)(m:Int)(w:List Nat)(h:Nat):Prop where
 kd:(σ.nd m).kind=6
 hs:(σ.nd m).hash=((h:Nat):Int)
 hl:h<18446744073709551616
 lv:LV (σ.nd m).nd (σ.nd m).xs (σ.nd m).ys
 two:2<=(σ.nd m).ys.length
 sa:SA (σ.nd m).ys
 sh:∀p∈(σ.nd m).ys,p.1.size<=64
 ha:∀p∈(σ.nd m).ys,H p.1=h
 wl:w.length=11
 un:iO h w
theorem oS.u5(i0:Inv H σ)(h:oS σ m w g)(k:(σ.nd m).kind=6):im H σ m w (σ.nd m).hash.toNat:=by
 have hr:=h.in
 have hn:=i0.nd m hr.1 hr.2
 obtain⟨h1,h2,h3,_⟩:=hn.k6 k
 obtain⟨b,hb1,hb2⟩:=hn.bd.hash
 have hv:=hn.valid.2.2.2.2
 have hl:2<=(σ.nd m).ys.length/\wx (σ.nd m).ys/\E3 (σ.nd m).ys:=by
  rcases hv with h'|h'|h'|h'|h'|h'|h'
  ·have:(σ.nd m).kind=1:=h';omega
  ·have:(σ.nd m).kind=2:=h'.1;omega
  ·have:(σ.nd m).kind=3:=h'.1;omega
  ·rcases h'.1 with h''|h''
   ·have:(σ.nd m).kind=4:=h'';omega
   ·have:(σ.nd m).kind=5:=h'';omega
  ·exact h'.2
  ·have:(σ.nd m).kind=8:=h'.1;omega
  ·have:(σ.nd m).kind=7:=h'.1;omega
 rw[h.2.1] at h1 h2
 exact⟨k,by omega,by omega,⟨k,hn.valid⟩,hl.1,oU.1 hl.2.1,xI.1 hl.2.2,h3,h1,h2⟩
theorem yb(i0:Inv H σ){h:Nat}(hl:im H σ m w h){k:ByteArray}{u:Int}(hk:k.size<=64)(hH:H k=h):bQ (yf (σ.nd m) k u)/\kR H σ (yf (σ.nd m) k u) w g:=by
 have e:yf (σ.nd m) k u=Wx ((h:Nat):Int) (mH (σ.nd m).ys k u):=by
  unfold yf kY O9
  rw[if_pos ⟨hl.lv,hk⟩,if_pos hl.sa,hl.hs]
  rfl
 rw[e]
 refine⟨.inr (.inr rfl),G8 i0 ?_ (oU.2 (xX hl.sa)) (xI.2 λ p hp=>?_) (λ p hp=>?_) hl.hl hl.wl hl.un⟩
 ·rw[xD hl.sa]
  have:=hl.two
  (try dsimp only);split<;>omega
 ·rcases A5 hp with rfl|hp
  ·exact hk
  ·exact hl.sh p hp
 ·rcases A5 hp with rfl|hp
  ·exact hH
  ·exact hl.ha p hp
theorem zd(i0:Inv H σ){h:Nat}(hl:im H σ m w h){k:ByteArray}(hf:(dV (σ.nd m).ys k).isSome=true):bQ (sj (σ.nd m) k)/\kR H σ (sj (σ.nd m) k) w g:=by
 have hf2:(rV (σ.nd m).ys k).isSome=true:=by unfold dV at hf;rwa [if_pos hl.sa] at hf
 have hlen:=O7 (k:=k) hl.sa
 rw[if_pos hf2] at hlen
 have hmem:∀p∈iW (σ.nd m).ys k,p∈(σ.nd m).ys:=λ p hp=>(List.mem_filter.1 hp).1
 have htwo:=hl.two
 by_cases h1:(iW (σ.nd m).ys k).length=1
 ·have e:sj (σ.nd m) k=ig ((h:Nat):Int) ((iW (σ.nd m).ys k).getD 0 (⟨#[]⟩,0)).1 ((iW (σ.nd m).ys k).getD 0 (⟨#[]⟩,0)).2:=by
   unfold sj qC sO
   rw[if_pos ⟨hl.lv,hf⟩,if_pos hl.sa,hl.hs]
   unfold N4 Ij
   dsimp only
   rw[if_pos h1,if_pos h1]
   rfl
  rw[e]
  have hp:(iW (σ.nd m).ys k).getD 0 (⟨#[]⟩,0)∈(σ.nd m).ys:=hmem _ (by rw[iQ (by omega)];exact List.getElem_mem _)
  exact⟨.inr (.inl rfl),Fv i0 (hl.sh _ hp) (hl.ha _ hp) hl.hl (by rw[hl.wl];decide) (by rw[hl.wl];decide) hl.un⟩
 ·have e:sj (σ.nd m) k=Wx ((h:Nat):Int) (iW (σ.nd m).ys k):=by
   unfold sj qC sO
   rw[if_pos ⟨hl.lv,hf⟩,if_pos hl.sa,hl.hs]
   unfold N4 Ij
   dsimp only
   rw[if_neg h1,if_neg h1]
   rfl
  rw[e]
  exact⟨.inr (.inr rfl),G8 i0 (by omega) (oU.2 (wF k hl.sa)) (xI.2 λ p hp=>hl.sh p (hmem p hp)) (λ p hp=>hl.ha p (hmem p hp)) hl.hl hl.wl hl.un⟩
def uC(h l:Nat):List Nat:=(List.range l).map (sl h)
theorem fR(h l:Nat):(uC h l).length=l:=by simp[uC]
theorem Jt(h l:Nat):uC h (l+1)=uC h l++[sl h l]:=by simp[uC,List.range_succ]
theorem tQ(h l:Nat):iO h (uC h l):=λ k hk=>by
 rw[fR] at hk
 simp[uC,iM,hk]
theorem tv{h:Nat}{w:List Nat}(hu:iO h w):w=uC h w.length:=by
 refine List.ext_getElem (by rw[fR]) λ k h1 h2=>?_
 have:=hu k h1
 rw[iM,List.getElem?_eq_getElem h1] at this
 simp only[uC,List.getElem_map,List.getElem_range]
 exact this.symm
theorem X5{a b l:Nat}(hl:l<=lE a b):iO a (uC b l):=λ k hk=>by
 rw[fR] at hk
 rw[<- tQ b l k (by rw[fR];exact hk)]
 exact Sf (by omega)
theorem Lz:BV 0 []:=⟨by decide,by decide,λ i hi=>absurd hi (Nat.not_lt_zero i)⟩
theorem Fs:∀k,gA 0 k=0
 | 0=>rfl
 | k+1=>by simp only[gA,Fs k,Nat.zero_testBit];rfl
theorem ly{k:Nat}(hk:k<64){r:Int}(hr:1<=r):BV (dU 0 (k:Int)) [r]/\∀j,j<64->∀v,qS (dU 0 (k:Int)) [r] j=some v->j=k/\v=r:=by
 rw[pM 0 hk]
 have h:=Ge Lz hk (by simp) hr
 rw[Fs,show wI [] 0 r=[r] from rfl] at h
 refine⟨h.1,λ j hj v hv=>?_⟩
 rw[h.2 j hj] at hv
 unfold Jg at hv
 split at hv
 ·cases hv;exact⟨by assumption,rfl⟩
 ·simp[qS] at hv
theorem zg{k l:Nat}(hk:k<64)(hl:l<64)(hne:k≠l){x s:Int}(hx:1<=x)(hs:1<=s):BV (dU (dU 0 (k:Int)) (l:Int)) (two k l x s)/\∀j,j<64->∀v,qS (dU (dU 0 (k:Int)) (l:Int)) (two k l x s) j=some v->(j=k/\v=x)∨(j=l/\v=s):=by
 have h1:=ly hk hx
 rw[pM 0 hk] at h1 ⊢
 rw[pM _ hl]
 have hb:(0 ||| 2^k).testBit l=false:=by rw[Bd];simp;omega
 have h:=Ge h1.1 hl hb hs
 have hc:gA (0 ||| 2^k) l=if k<l then 1 else 0:=by
  have:=zY (b:=0) (b':=0 ||| 2^k) (i:=k) (by simp) (λ j _=>Bd 0 k j) l (by omega)
  rw[this,Fs];omega
 have e:wI [x] (gA (0 ||| 2^k) l) s=two k l x s:=by
  rw[hc]
  unfold two
  by_cases hkl:k<l
  ·rw[if_pos hkl,if_pos hkl];rfl
  ·rw[if_neg hkl,if_neg hkl];rfl
 rw[e] at h
 refine⟨h.1,λ j hj v hv=>?_⟩
 rw[h.2 j hj] at hv
 unfold Jg at hv
 split at hv
 ·cases hv;exact .inr ⟨by assumption,rfl⟩
 ·exact .inl (h1.2 j hj v hv)
theorem Ra:∀(a b:List NI) (r:Int) (K:Int->Tr),Aq (a++b) r K=Aq a r λ r=>Aq b r K
 | [],_,_,_=>rfl
 | x::a,b,r,K=>by simp only[List.cons_append,Aq,Ra a b]
theorem rG{n:Nv}(i0:Inv H σ)(h2:n.kind≠2):Xw σ n 0 w g:=⟨⟨Int.le_refl _,bK _⟩,λ k=>absurd k h2,λ _=>.inl rfl,λ _=>rfl⟩
theorem rr{p q:Pr}(hne:p.1≠q.1):2<=(D8 [p,q]).length/\SA (D8 [p,q])/\∀r∈D8 [p,q],r=p∨r=q:=by
 refine⟨?_,ki _,λ r hr=>?_⟩
 ·have h1:D8 [p]=[p]:=rfl
  rw[show [p,q]=[p]++[q] from rfl,vO,h1,xD (by simp[SA])]
  have:rV [p] q.1=none:=pU λ r hr=>by rw[List.mem_singleton.1 hr];exact hne
  rw[this]
  simp
 ·rw[show [p,q]=[p]++[q] from rfl,vO] at hr
  rcases A5 hr with h|h
  ·exact .inr h
  ·have h1:D8 [p]=[p]:=rfl
   rw[h1] at h
   exact .inl (List.mem_singleton.1 h)
theorem W6{x:Int}{h0 h:Nat}{p:Pr}{k:ByteArray}{u g:Int}:∀(n lvl:Nat),∃a:NI,∀f,∃l,dN x h0 h p k u g f n lvl=a::l
 | 0,lvl=>by
  by_cases e:lvl=11
  ·exact⟨Hw h (D8 [p,(k,u)]),λ f=>⟨[],by unfold dN;rw[if_pos e]⟩⟩
  ·exact⟨vQ h k u,λ f=>⟨_,by unfold dN;rw[if_neg e]⟩⟩
 | n+1,lvl=>by
  obtain⟨a,ha⟩:=W6 (x:=x) (h0:=h0) (h:=h) (p:=p) (k:=k) (u:=u) (g:=g) n (lvl+1)
  refine⟨a,λ f=>?_⟩
  obtain⟨l,hl⟩:=ha f
  exact⟨_,by unfold dN;rw[hl];rfl⟩
end
end
section
open Go.Ct
section
variable{H:ByteArray->Nat}{Q:Rs->Kw->Prop}{σ τ υ:Kw}{i m p g:Int}{w:List Nat}{c:Cl}{h:Nat}
structure Rm(H:ByteArray->Nat)(c:Cl)(h:Nat):Prop where
 sz:c.key.size<=64
 ha:H c.key=h
 hl:h<18446744073709551616
def Fur(σ:Kw)(m:Int)(h:Nat)(level:Nat):Prop:=∃b,lA (σ.nd m) (gY h level)=some b/\(σ.nd b).kind=2
theorem dh{p:Prop}(b:Bool):(if b=true then(1:Int) else 0)=0∨(if b=true then(1:Int) else 0)=1∨p:=by cases b;exact .inl rfl;exact .inr (.inl rfl)
def Ds(σ:Kw)(path:List Int)(h:Nat)(g:Int):Prop:=∀k,k<path.length->qR σ (path.getD k 0) (uC h k) g
theorem Ds.up{path:List Int}(hp:Ds σ path h g)(l:Le σ τ):Ds τ path h g:=λ k hk=>(hp k hk).up l
theorem Ds.snoc{path:List Int}{b:Int}(hp:Ds σ path h g)(hb:qR σ b (uC h path.length) g):Ds σ (path++[b]) h g:=λ k hk=>by
 rw[List.length_append,List.length_singleton] at hk
 rw[iM]
 by_cases e:k<path.length
 ·rw[List.getElem?_append_left e,<- iM]
  exact hp k e
 ·have:k=path.length:=by omega
  subst this
  simpa using hb
theorem ax{K:Int->Tr}(i0:Inv H σ)(hK:∀υ,Le σ υ->Inv H υ->υ.mm.gen=σ.mm.gen+1->WT H Q (K (σ.mm.gen+1)) υ):WT H Q (.gen K) σ:=by
 have e:Ext σ ⟨⟨σ.mm.nodes,σ.mm.cs,σ.mm.gen+1⟩,σ.way,σ.gb,σ.ct⟩:=⟨⟨[],by simp⟩,⟨[],by simp⟩,by show σ.mm.gen<=σ.mm.gen+1;omega,λ _ _=>rfl,λ _ _=>rfl,λ _ _=>rfl⟩
 have hp:dY σ.mm.nodes σ.mm.cs (σ.mm.gen+1):=⟨i0.prop.two,by have:=i0.prop.gen0;omega,i0.prop.m0,i0.prop.m1,i0.prop.cells,λ k hk=>⟨(i0.prop.nodes k hk).1,by have:=(i0.prop.nodes k hk).2.1;omega,(i0.prop.nodes k hk).2.2⟩,i0.prop.marks⟩
 have i1:=Li i0 e hp (λ r h1 h2=>absurd h2 (by simp only[Kw.len] at *;omega)) (λ c h1 h2=>absurd h2 (by simp only[Kw.cl] at *;omega))
 exact⟨_,e.le,i1,rfl,hK _ e.le i1 rfl⟩
theorem Vh{r:Int}{K:Int->Tr}(ro:Bool)(i0:Inv H σ)(hr:uF σ r [])(hK:∀υ c,Le σ υ->Inv H υ->0<c->bW υ ⟨c,ro⟩->WT H Q (K c) υ):WT H Q (.cell r K) σ:=by
 have e:Ext σ ⟨⟨σ.mm.nodes,σ.mm.cs++[r],σ.mm.gen⟩,σ.way,σ.gb,λ c=>if c<=σ.cl then σ.ct c else ctR ro⟩:=⟨⟨[],by simp⟩,⟨[r],rfl⟩,Int.le_refl _,λ _ _=>rfl,λ _ _=>rfl,λ c hc=>if_pos hc⟩
 have hcl:(σ.mm.cs++[r]).length=σ.cl+1:=by simp[Kw.cl]
 have hct:(if((σ.cl+1:Nat):Int)<=σ.cl then σ.ct ((σ.cl+1:Nat):Int) else ctR ro)=ctR ro:=if_neg (by omega)
 have hin:=hr.in
 have i1:=Li i0 e (dY.cell i0.prop ⟨by omega,hin.2⟩) (λ r h1 h2=>absurd h2 (by simp only[Kw.len] at *;omega)) (λ c h1 h2=>by
  simp only[Kw.cl] at h1 h2
  rw[hcl] at h2
  have hc:c=((σ.cl+1:Nat):Int):=by simp only[Kw.cl] at *;omega
  subst hc
  have hv:aW (σ.mm.cs++[r]) ((σ.cl+1:Nat):Int)=r:=by
   unfold aW
   rw[if_pos ⟨by omega,by rw[hcl];exact Int.le_refl _⟩,show(((σ.cl+1:Nat):Int)-1).toNat=σ.mm.cs.length by simp only[Kw.cl];omega]
   simp[iM]
  refine⟨by simp only[Kw.ce,hv];omega,by simp only[Kw.ce,hv];exact hin.2,λ i' k=>?_,λ m k=>?_,λ d k=>?_,λ k=>.inl ?_,λ k=>?_⟩
  ·simp only[hct] at k;cases ro<;>cases k
  ·simp only[hct] at k;cases ro<;>cases k
  ·simp only[hct] at k;cases ro<;>cases k
  ·simp only[Kw.ce,hv];exact hr
  ·simp only[Kw.ce,hv];exact hr)
 refine⟨_,e.le,i1,rfl,hK _ _ e.le i1 (by omega) ⟨by show 1<=((σ.cl+1:Nat):Int);omega,by show((σ.cl+1:Nat):Int)<=((σ.mm.cs++[r]).length:Nat);rw[hcl];exact Int.le_refl _,hct⟩⟩
def Q0(r:Rs)(σ:Kw):Prop:=0<r.root->bW σ ⟨r.root,r.ro⟩
theorem Q0.up{r:Rs}(h:Q0 r σ)(l:Le σ τ):Q0 r τ:=λ h0=>(h h0).up l
theorem uF.E8(hr:uF σ i w):qR σ i w (σ.nd i).gen:=⟨hr,rfl⟩
structure Te(H:ByteArray->Nat)(σ:Kw)(c:Cl)(h:Nat):Prop where
 t:bW σ c.t
 hl:h<18446744073709551616
 ha:H c.key=h
 ro:c.kind=8∨c.kind=9∨c.kind=12∨c.kind=4->c.t.ro=false
 k:(7<=c.kind/\c.kind<=12)∨c.kind=3∨(c.kind=1/\∃w g,qR σ c.a w g)∨(c.kind=2/\∃w g,qR σ c.a w g/\oS σ c.n w g)∨(c.kind=4/\uF σ c.a []/\uF σ c.n []/\1<=c.b/\c.b<=σ.len)
theorem Kh(h:refuse c=0)(hk:c.kind=7∨c.kind=8∨c.kind=9):c.key.size<=64:=by
 unfold refuse at h
 split at h
 ·split at h
  ·assumption
  ·cases h
 split at h
 ·split at h
  ·rename_i hx;exact hx.1
  ·cases h
 ·omega
end
end
section
open Go Go.RowKit Go.Ct
section
variable{X:Xp}{σ τ υ:Kw}{i m p g v:Int}{w:List Nat}{t:dL}{n:Nat}
structure FL(t:dL)(L:Nat)(σ τ:Kw):Prop where
 root:τ.ce t.root=σ.ce t.root
 main:∀p,(σ.nd p).kind=2->(σ.way p).length<L->τ.ce (σ.nd p).main=σ.ce (σ.nd p).main
theorem FL.refl(t:dL)(L:Nat)(σ:Kw):FL t L σ σ:=⟨rfl,λ _ _ _=>rfl⟩
theorem jS{k:Int}(h:(σ.nd p).kind=k)(hk:k≠0:=by decide):p<=σ.len:=(dJ (N:=σ.mm.nodes) (i:=p) (by simp only[Kw.nd] at h;rw[h];exact hk)).2
theorem FL.trans{L:Nat}(l:Le σ τ)(h:FL t L σ τ)(h2:FL t L τ υ):FL t L σ υ:=⟨h2.root.trans h.root,λ p hk hp=>by
 have e:=l.nd (jS hk)
 have:=h2.main p (by rw[e];exact hk) (by rw[l.way p (jS hk)];exact hp)
 rw[e] at this
 exact this.trans (h.main p hk hp)⟩
theorem FL.less{L L':Nat}(h:FL t L σ τ)(hl:L'<=L):FL t L' σ τ:=⟨h.root,λ p hk hp=>h.main p hk (by omega)⟩
theorem ph{H:ByteArray->Nat}(i0:Inv H σ){i j:Int}(hi:(σ.nd i).kind=2)(hj:(σ.nd j).kind=2)(hne:i≠j):σ.ct (σ.nd i).main≠.main j:=λ h=>by
 rw[(i0.dO hi).2.2] at h
 cases h
 exact hne rfl
theorem Lq{H:ByteArray->Nat}(hT:bW σ t)(i0:Inv H σ)(f:Ir σ τ i):FL t (σ.way i).length σ τ:=⟨vY hT f,λ p hk hp=>by
 have hc:=i0.dO hk
 refine f _ hc.1 hc.2.1 (λ h=>?_) (λ m h=>?_)
 ·rw[hc.2.2] at h;cases h;omega
 ·rw[hc.2.2] at h;cases h⟩
theorem qk.fl{H:ByteArray->Nat}{nd:Nv}{c r:Int}{L:Nat}(hT:bW σ t)(i0:Inv H σ)(a:qk σ υ nd c r w g):FL t L σ υ:=⟨a.ce hT.2.1,λ p hk _=>a.ce (i0.dO hk).2.1⟩
structure qz(σ:Kw)(p:Int)(k:Nat)(b:Int):Prop where
 st:bA σ (σ.ce (σ.nd p).main)
 lk:lA (σ.nd (σ.ce (σ.nd p).main)) (k:Int)=some b
structure n5(σ:Kw)(p:Int)(k:Nat):Prop where
 st:bA σ (σ.ce (σ.nd p).main)
 no:∀b,lA (σ.nd (σ.ce (σ.nd p).main)) (k:Int)=some b->(σ.nd b).kind≠2
structure Kc(X:Xp)(σ:Kw)(t:dL)(g:Int):Prop where
 b:X.b=false
 ro:t.ro=false
 k2:(σ.nd (σ.ce t.root)).kind=2
 gen:(σ.nd (σ.ce t.root)).gen=g
theorem Kc.fl{H:ByteArray->Nat}{L:Nat}(i0:Inv H σ)(hT:bW σ t)(l:Le σ τ)(f:FL t L σ τ)(h:Kc X σ t g):Kc X τ t g:=by
 have e:τ.nd (τ.ce t.root)=σ.nd (σ.ce t.root):=by rw[f.root];exact l.nd (i0.ce _ hT.1 hT.2.1).hi
 exact⟨h.b,h.ro,by rw[e];exact h.k2,by rw[e];exact h.gen⟩
theorem Au{K:Int->Tr}{g':Int}(hX:Ec X)(i0:Inv X.H σ)(h1:1<=g)(h2:g<=σ.mm.gen)(hw:w.length<=11)(hm:oS σ m w g')(hs:bA σ m)(hg:g'<=g)(hK:∀τ j,Le σ τ->Inv X.H τ->qR τ j w g->qk σ τ (nJ g) m j w 0->XT X (K j) n τ):XT X (.alloc (nJ g) m K) n σ :=
 jB (w:=w) (g:=0) hX.al i0 (Bg hw h1 h2) ⟨⟨by have:=hm.in;omega,hm.in.2⟩,λ _=>hm.le hg,λ k=>absurd k (jM (.inr (.inr (.inl rfl)))),λ k=>dG (a:=2) (b:=8) k⟩ (λ υ j l1 i1 a=>hK υ j l1 i1 ⟨⟨by rw[a.nd];rfl,a.way⟩,by rw[a.nd];rfl⟩ a) λ _=>hs
theorem ka{K:Int->Tr}(hX:Ec X)(i0:Inv X.H σ)(hK:∀υ,Le σ υ->Inv X.H υ->υ.mm=⟨σ.mm.nodes,σ.mm.cs,σ.mm.gen+1⟩->XT X (K (σ.mm.gen+1)) n υ):XT X (.gen K) n σ:=by
 obtain⟨υ,l,i,e,_⟩:WT X.H (λ _ _=>True) (.gen λ _=>.done Rs.zero) σ:=ax i0 λ _ _ _ _=>trivial
 exact .inr ⟨λ _ υ l i e=>hK υ l i e,λ _=>⟨υ,l,i,e,hK υ l i e⟩⟩
theorem Sw{r:Int}{K:Int->Tr}(hX:Ec X)(ro:Bool)(i0:Inv X.H σ)(hr:uF σ r [])(hK:∀υ c,Le σ υ->Inv X.H υ->0<c->bW υ ⟨c,ro⟩->XT X (K c) n υ):XT X (.cell r K) n σ:=by
 obtain⟨υ,l,i,e,h1,h2⟩:WT X.H (λ r υ=>0<r.root/\bW υ ⟨r.root,ro⟩) (.cell r λ c=>.done (Ix c ro)) σ:=Vh ro i0 hr λ _ _ _ _ h0 ht=>⟨h0,ht⟩
 exact .inr ⟨hr.1,λ h=>(by rw[hX.al] at h;cases h),λ _=>⟨υ,l,i,e,hK υ _ l i h1 h2⟩⟩
theorem av{b:Nat}{xs:List Int}{K:Int->Tr}(hX:Ec X)(i0:Inv X.H σ)(hm:oS σ m w g)(hs:bA σ m)(hc:nB σ m w g b xs){k:Nat}(hk:k<64){o r:Int}(ho:lA (σ.nd m) (k:Int)=some o)(hr:Ni σ (w++[k]) g r)(h0:0<w.length->xs.length=1->(σ.nd r).kind=2)
  (hK:∀τ v,Le σ τ->Inv X.H τ->oS τ v w g->qk σ τ (Tn (σ.nd m) (k:Int) r) m v w g->bQ (Tn (σ.nd m) (k:Int) r)->lA (τ.nd v) (k:Int)=some r->XT X (K v) n τ):XT X (Fo m (k:Int) r K) n σ:=by
 have hmk:bQ (Tn (σ.nd m) (k:Int) r):=.inl (Rn hc hk ho hr.in.1)
 refine cI hm.in.2 (jB hX.al i0 (a9 i0 hc hk ho hr h0) (xF hmk hm hs) λ υ n l1 i1 a=>?_)
 have hn:=oD (cl:=0) hmk a.nd a.way a.gb
 refine hK υ n l1 i1 hn a hmk ?_
 have hcn:=hn.sH i1 (by rw[a.nd];exact Rn hc hk ho hr.in.1)
 obtain⟨f1,f2,f3,_⟩:=hc.up hk ho hr.in.1
 rw[hcn.lk hk,a.nd]
 show qS (Tn (σ.nd m) (k:Int) r).bm.toNat (Tn (σ.nd m) (k:Int) r).xs k=some r
 rw[f1,show(Dr b (qT xs (gA b k) r)).bm.toNat=b from Int.toNat_natCast _,show(Dr b (qT xs (gA b k) r)).xs=qT xs (gA b k) r from rfl,f3 k hk]
 unfold Jg
 rw[if_pos rfl]
theorem pu{b:Nat}{xs:List Int}{K:Int->Tr}(hX:Ec X)(hT:bW σ t)(i0:Inv X.H σ)(hi:qR σ i w g)(hm:oS σ m w g)(hs:bA σ m)(hc:nB σ m w g b xs){k:Nat}(hk:k<64){o:Int}(ho:lA (σ.nd m) (k:Int)=some o)(h2:(σ.nd o).kind=2)
  (hK:∀τ v,Le σ τ->Inv X.H τ->(v=0∨qR τ v (w++[k]) g)->(Kc X σ t g->σ.ce (σ.nd i).main=m->v≠0/\qz τ i k v/\FL t w.length σ τ)->XT X (K v) n τ):XT X (No t i m (k:Int) K) (n+20) σ:=by
 have hb:uF σ o (w++[k])/\(σ.nd o).gen<=g:=by
  have ho2:=ho
  rw[hc.lk hk] at ho2
  rcases hc.br k hk o ho2 with h|h
  ·rw[h2] at h;exact absurd h.1 (by decide)
  ·exact⟨⟨h.1,h.2.1⟩,h.2.2⟩
 have hg:=hi.Ls i0
 refine cI hm.in.2 ?_
 try dsimp only
 rw[show(lA (σ.nd m) (k:Int)).getD 0=o by rw[ho];rfl]
 refine pA hX.toX7 (n:=n+10) hT i0 (g:=(σ.nd o).gen) ⟨hb.1,rfl⟩ λ τ v l1 i1 hv hsv fr=>cI (by have:=l1.len;have:=hi.in.2;omega) ?_
 have hi1:=hi.up l1
 try dsimp only
 rw[hi1.2]
 refine Au hX i1 hg.1 (by have:=l1.gen;omega) (by rw[List.length_append,List.length_singleton];have:=hc.wl;omega) hv hsv hb.2 λ υ j l2 i2 hj aj=>?_
 have l12:=l1.trans i0 i1 l2
 have ho2:lA (υ.nd m) (k:Int)=some o:=by rw[l12.nd hm.in.2];exact ho
 refine av hX i2 (hm.up l12) (bA.up i0 hm.1 hs l12) (hc.upL l12) hk ho2 (.inr ⟨hj.1.1,hj.1.2,by rw[hj.2];exact Int.le_refl _⟩) (λ _ _=>hj.1.1) λ ρ n l3 i3 hn an hmk hlk=>?_
 have l13:=l12.trans i0 i2 l3
 refine Bs hX.toX7 (hT.up l13) i3 (hi.up l13) hn λ χ ok l4 i4 hgr=>hK χ _ (l13.trans i0 i3 l4) i4 ?_ λ hso hma=>?_
 ·try dsimp only
  split
  ·exact .inr ((hj.up l3).up l4)
  ·exact .inl rfl
 ·have fo:=fr.s hso.b hso.k2
  have hne:i≠o:=λ e=>by
   have h1:=hi.1.2
   rw[e,hb.1.2] at h1
   have:=congrArg List.length h1
   simp at this
  have hmi:=i0.dO hi.1.1
  have emi:τ.ce (σ.nd i).main=m:=(fo.2 _ hmi.1 hmi.2.1 (ph i0 hi.1.1 hb.1.1 hne) (λ q h=>by rw[hmi.2.2] at h;cases h)).trans hma
  have vz:FL t w.length σ τ:=(Lq hT i0 fo.2).less (by rw[hb.1.2];simp)
  have fl2:FL t w.length τ υ:=aj.fl (hT.up l1) i1
  have fl3:FL t w.length υ ρ:=an.fl (hT.up l12) i2
  have fl13:=(vz.trans l1 fl2).trans l12 fl3
  have hso3:=hso.fl i0 hT l13 fl13
  have hml:m<=σ.len:=hm.in.2
  have hgc:GcS X ρ t i g m n:=⟨hso3.b,hso3.ro,hso3.k2,hso3.gen,by
   rw[l13.nd hi.in.2,an.ce (by have:=l12.cl;have:=hmi.2.1;omega),aj.ce (by have:=l1.cl;have:=hmi.2.1;omega)];exact emi,an.prev hmk,by rw[l13.nd hml];exact hm.1⟩
  have r:=hgr hgc
  rw[if_pos r.t]
  have ema:χ.ce (χ.nd i).main=n:=by rw[l4.nd (hi.up l13).in.2];exact r.ma
  have hj1:=hj.in
  refine⟨by omega,⟨by rw[ema];exact r.st,by rw[ema,l4.nd hn.in.2];exact hlk⟩,fl13.trans l13 ((Lq (hT.up l13) i3 r.fr).less (by rw[(hi.up l13).1.2];exact Nat.le_refl _))⟩
end
end
end Go.Proofs.YtbajmaoegmbfgaaGreat
