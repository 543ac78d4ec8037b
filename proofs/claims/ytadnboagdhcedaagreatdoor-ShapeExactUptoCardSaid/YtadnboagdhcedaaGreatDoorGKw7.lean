/- Tries of worlds: the lists of the lowest level; the nodes for two keys. -/
import Derived.Test.YtadnboagdhcedaaGreatDoorGKw5
import Derived.Test.YtadnboagdhcedaaGreatDoorGArS

set_option linter.unusedSimpArgs false
set_option linter.unusedVariables false
namespace Go.Proofs.YtadnboagdhcedaaGreatDoor
section
open Go.Ct
theorem rY{l:List Pr}:Dv l↔∀p∈l,p.1.size<=64:=by
 constructor
 ·intro h p hp
  obtain⟨i,hi,e⟩:=List.mem_iff_getElem.1 hp
  have:=h i hi;rw[iU hi,e] at this;exact this
 ·intro h i hi
  rw[iU hi]
  exact h _ (List.getElem_mem hi)
theorem Z5{a b:Nat}(ha:a<18446744073709551616)(hb:b<18446744073709551616)(h:∀j,j<11->sl a j=sl b j):a=b:=by
 have key:∀d j,j+d=11->a >>> (6*j)=b >>> (6*j):=by
  intro d
  induction d with
  | zero =>
   intro j hj
   have hj:j=11:=by omega
   subst hj
   rw[Nat.shiftRight_eq_div_pow,Nat.shiftRight_eq_div_pow,Nat.div_eq_of_lt (by omega),Nat.div_eq_of_lt (by omega)]
  | succ d ih =>
   intro j hj
   have h1:=ih (j+1) (by omega);have h2:=h j (by omega);unfold sl at h2;rw[<- Lc,<- Lc] at h1;omega
 have:=key 11 0 rfl;simpa using this
theorem ik{a b:Nat}{w:List Nat}(ha:a<18446744073709551616)(hb:b<18446744073709551616)(h1:fQ a w)(h2:fQ b w)(hw:w.length=11):a=b:=Z5 ha hb λ j hj=>by rw[h1 j (by omega),h2 j (by omega)]
section
variable{H:ByteArray->Nat}{Q:Rs->Kw->Prop}{σ τ υ:Kw}{i m p g:Int}{w:List Nat}{t:iS}
structure Z7(H:ByteArray->Nat)(σ:Kw)(m:Int)(w:List Nat)(h:Nat):Prop where
 kd:(σ.nd m).kind=6
 hs:(σ.nd m).hash=((h:Nat):Int)
 hl:h<18446744073709551616
 lv:LV (σ.nd m).nd (σ.nd m).xs (σ.nd m).ys
 two:2<=(σ.nd m).ys.length
 sa:SA (σ.nd m).ys
 sh:∀p∈(σ.nd m).ys,p.1.size<=64
 ha:∀p∈(σ.nd m).ys,H p.1=h
 wl:w.length=11
 un:fQ h w
theorem pP.vn(i0:Inv H σ)(h:pP σ m w g)(k:(σ.nd m).kind=6):Z7 H σ m w (σ.nd m).hash.toNat:=by
 have hr:=h.in;have hn:=i0.nd m hr.1 hr.2;obtain⟨h1,h2,h3,_⟩:=hn.k6 k
 obtain⟨b,hb1,hb2⟩:=hn.bd.hash
 have hv:=hn.valid.2.2.2.2
 have hl:2<=(σ.nd m).ys.length/\rk (σ.nd m).ys/\Dv (σ.nd m).ys:=by
  rcases hv with h'|h'|h'|h'|h'|h'|h'
  ·have:(σ.nd m).kind=1:=h';omega
  ·have:(σ.nd m).kind=2:=h'.1;omega
  ·have:(σ.nd m).kind=3:=h'.1;omega
  ·rcases h'.1 with h''|h''
   ·have:(σ.nd m).kind=4:=h'';omega
   ·have:(σ.nd m).kind=5:=h'';omega
  ·exact h'.2
  ·have:(σ.nd m).kind=8:=h'.1;omega
  ·have:(σ.nd m).kind=7:=h'.1;omega
 rw[h.2.1] at h1 h2
 exact⟨k,by omega,by omega,⟨k,hn.valid⟩,hl.1,oW.1 hl.2.1,rY.1 hl.2.2,h3,h1,h2⟩
theorem ze(i0:Inv H σ){h:Nat}(hl:Z7 H σ m w h){k:ByteArray}{u:Int}(hk:k.size<=64)(hH:H k=h):cC (xg (σ.nd m) k u)/\mE H σ (xg (σ.nd m) k u) w g:=by
 have e:xg (σ.nd m) k u=U8 ((h:Nat):Int) (mN (σ.nd m).ys k u):=by
  unfold xg lH Qb
  rw[if_pos ⟨hl.lv,hk⟩,if_pos hl.sa,hl.hs]
  rfl
 rw[e]
 refine⟨.inr (.inr rfl),Gk i0 ?_ (oW.2 (xV hl.sa)) (rY.2 λ p hp=>?_) (λ p hp=>?_) hl.hl hl.wl hl.un⟩
 ·rw[xY hl.sa];have:=hl.two;(try dsimp only);split<;>omega
 ·rcases Bj hp with rfl|hp
  ·exact hk
  ·exact hl.sh p hp
 ·rcases Bj hp with rfl|hp
  ·exact hH
  ·exact hl.ha p hp
theorem yl(i0:Inv H σ){h:Nat}(hl:Z7 H σ m w h){k:ByteArray}(hf:(eK (σ.nd m).ys k).isSome=true):cC (ub (σ.nd m) k)/\mE H σ (ub (σ.nd m) k) w g:=by
 have hf2:(rQ (σ.nd m).ys k).isSome=true:=by unfold eK at hf;rwa [if_pos hl.sa] at hf
 have hlen:=Pn (k:=k) hl.sa;rw[if_pos hf2] at hlen;have hmem:∀p∈jC (σ.nd m).ys k,p∈(σ.nd m).ys:=λ p hp=>(List.mem_filter.1 hp).1;have htwo:=hl.two;by_cases h1:(jC (σ.nd m).ys k).length=1
 ·have e:ub (σ.nd m) k=kf ((h:Nat):Int) ((jC (σ.nd m).ys k).getD 0 (⟨#[]⟩,0)).1 ((jC (σ.nd m).ys k).getD 0 (⟨#[]⟩,0)).2:=by
   unfold ub pZ sD;rw[if_pos ⟨hl.lv,hf⟩,if_pos hl.sa,hl.hs];unfold Nz Ie;dsimp only;rw[if_pos h1,if_pos h1];rfl
  rw[e];have hp:(jC (σ.nd m).ys k).getD 0 (⟨#[]⟩,0)∈(σ.nd m).ys:=hmem _ (by rw[iU (by omega)];exact List.getElem_mem _);exact⟨.inr (.inl rfl),H4 i0 (hl.sh _ hp) (hl.ha _ hp) hl.hl (by rw[hl.wl];decide) (by rw[hl.wl];decide) hl.un⟩
 ·have e:ub (σ.nd m) k=U8 ((h:Nat):Int) (jC (σ.nd m).ys k):=by
   unfold ub pZ sD;rw[if_pos ⟨hl.lv,hf⟩,if_pos hl.sa,hl.hs];unfold Nz Ie;dsimp only;rw[if_neg h1,if_neg h1];rfl
  rw[e]
  exact⟨.inr (.inr rfl),Gk i0 (by omega) (oW.2 (xL k hl.sa)) (rY.2 λ p hp=>hl.sh p (hmem p hp)) (λ p hp=>hl.ha p (hmem p hp)) hl.hl hl.wl hl.un⟩
def sW(h l:Nat):List Nat:=(List.range l).map (sl h)
theorem iO(h l:Nat):(sW h l).length=l:=by simp[sW]
theorem Jv(h l:Nat):sW h (l+1)=sW h l++[sl h l]:=by simp[sW,List.range_succ]
theorem tF(h l:Nat):fQ h (sW h l):=λ k hk=>by
 rw[iO] at hk
 simp[sW,gF,hk]
theorem ng{h:Nat}{w:List Nat}(hu:fQ h w):w=sW h w.length:=by
 refine List.ext_getElem (by rw[iO]) λ k h1 h2=>?_;have:=hu k h1;rw[gF,List.getElem?_eq_getElem h1] at this;simp only[sW,List.getElem_map,List.getElem_range]
 exact this.symm
theorem X6{a b l:Nat}(hl:l<=lN a b):fQ a (sW b l):=λ k hk=>by
 rw[iO] at hk
 rw[<- tF b l k (by rw[iO];exact hk)]
 exact Tn (by omega)
theorem Kz:BV 0 []:=⟨by decide,by decide,λ i hi=>absurd hi (Nat.not_lt_zero i)⟩
theorem sM:∀k,gB 0 k=0
 | 0=>rfl
 | k+1=>by simp only[gB,sM k,Nat.zero_testBit];rfl
theorem dx{k:Nat}(hk:k<64){r:Int}(hr:1<=r):BV (eL 0 (k:Int)) [r]/\∀j,j<64->∀v,rA (eL 0 (k:Int)) [r] j=some v->j=k/\v=r:=by
 rw[pU 0 hk];have h:=Hn Kz hk (by simp) hr;rw[sM,show vR [] 0 r=[r] from rfl] at h;refine⟨h.1,λ j hj v hv=>?_⟩;rw[h.2 j hj] at hv;unfold Nw at hv;split at hv
 ·cases hv;exact⟨by assumption,rfl⟩
 ·simp[rA] at hv
theorem yg{k l:Nat}(hk:k<64)(hl:l<64)(hne:k≠l){x s:Int}(hx:1<=x)(hs:1<=s):BV (eL (eL 0 (k:Int)) (l:Int)) (two k l x s)/\∀j,j<64->∀v,rA (eL (eL 0 (k:Int)) (l:Int)) (two k l x s) j=some v->(j=k/\v=x)∨(j=l/\v=s):=by
 have h1:=dx hk hx;rw[pU 0 hk] at h1 ⊢;rw[pU _ hl];have hb:(0 ||| 2^k).testBit l=false:=by rw[B1];simp;omega
 have h:=Hn h1.1 hl hb hs
 have hc:gB (0 ||| 2^k) l=if k<l then 1 else 0:=by
  have:=Ax (b:=0) (b':=0 ||| 2^k) (i:=k) (by simp) (λ j _=>B1 0 k j) l (by omega);rw[this,sM];omega
 have e:vR [x] (gB (0 ||| 2^k) l) s=two k l x s:=by
  rw[hc]
  unfold two
  by_cases hkl:k<l
  ·rw[if_pos hkl,if_pos hkl];rfl
  ·rw[if_neg hkl,if_neg hkl];rfl
 rw[e] at h
 refine⟨h.1,λ j hj v hv=>?_⟩
 rw[h.2 j hj] at hv
 unfold Nw at hv
 split at hv
 ·cases hv;exact .inr ⟨by assumption,rfl⟩
 ·exact .inl (h1.2 j hj v hv)
theorem Ri:∀(a b:List NI) (r:Int) (K:Int->Tr),Bp (a++b) r K=Bp a r λ r=>Bp b r K
 | [],_,_,_=>rfl
 | x::a,b,r,K=>by simp only[List.cons_append,Bp,Ri a b]
theorem qX{n:Nv}(i0:Inv H σ)(h2:n.kind≠2):sj σ n 0 w g:=⟨⟨Int.le_refl _,bT _⟩,λ k=>absurd k h2,λ _=>.inl rfl,λ _=>rfl⟩
theorem s8{p q:Pr}(hne:p.1≠q.1):2<=(Eh [p,q]).length/\SA (Eh [p,q])/\∀r∈Eh [p,q],r=p∨r=q:=by
 refine⟨?_,ap _,λ r hr=>?_⟩
 ·have h1:Eh [p]=[p]:=rfl;rw[show [p,q]=[p]++[q] from rfl,wB,h1,xY (by simp[SA])];have:rQ [p] q.1=none:=qD λ r hr=>by rw[List.mem_singleton.1 hr];exact hne
  rw[this]
  simp
 ·rw[show [p,q]=[p]++[q] from rfl,wB] at hr
  rcases Bj hr with h|h
  ·exact .inr h
  ·have h1:Eh [p]=[p]:=rfl;rw[h1] at h;exact .inl (List.mem_singleton.1 h)
theorem wb{x:Int}{h0 h:Nat}{pk:ByteArray}{pv:Int}{k:ByteArray}{u:Int}{K:Int->Tr}(hh0:h0<18446744073709551616)(hh:h<18446744073709551616)(hH:H k=h)(hk:k.size<=64)(hg1:1<=g)(hne:pk≠k)(hpk:pk.size<=64)(hpH:H pk=h0) :
  ∀(n lvl:Nat) (σ:Kw) (r:Int) (f:Nat),lvl+n=lN h0 h->Inv H σ->(σ.nd x).kind=4->(σ.nd x).hash.toNat=h0->g<=σ.mm.gen->f=σ.len+1 ->
  (∀υ,Le σ υ->Inv H υ->υ.len=σ.len+(dN x h0 h (pk,pv) k u g f n lvl).length->pP υ ((f-1+(dN x h0 h (pk,pv) k u g f n lvl).length:Nat):Int) (sW h lvl) g->WT H Q (K ((f-1+(dN x h0 h (pk,pv) k u g f n lvl).length:Nat):Int)) υ) ->
  WT H Q (Bp (dN x h0 h (pk,pv) k u g f n lvl) r K) σ
 | 0,lvl,σ,r,f,hn,i0,hx4,hxh,hgg,hf,hK=>by
  have hx:=eF (N:=σ.mm.nodes) (i:=x) (by have:=hx4;simp only[Kw.nd] at this;rw[this];decide);have hcl:=An h0 h;unfold dN at hK ⊢;try dsimp only
  split
  ·rename_i e
   rw[if_pos e] at hK;subst e;have heq:h0=h:=Z5 hh0 hh λ j hj=>Tn (by omega);obtain⟨o1,o2,o3⟩:=s8 (p:=(pk,pv)) (q:=(k,u)) hne
   have hnew:mE H σ (U8 ((h:Nat):Int) (Eh [(pk,pv),(k,u)])) (sW h 11) g:=Gk i0 o1 (oW.2 o2) (rY.2 λ p hp=>by rcases o3 p hp with rfl|rfl;exact hpk;exact hk) (λ p hp=>by rcases o3 p hp with rfl|rfl;exact hpH.trans heq;exact hH) hh (iO h 11) (tF h 11);refine gN i0 hnew (qX i0 (λ e=>fC (a:=6) (b:=2) e)) λ υ r' cl l1 i1 er em e1 e2 e3 h1 h2=>?_;have hr':r'=((f-1+[Fo h (Eh [(pk,pv),(k,u)])].length:Nat):Int):=by rw[er,hf];simp
   have hlen:υ.len=σ.len+1:=by simp[Kw.len,em,Mm.push]
   show WT H Q (K r') υ
   rw[hr'];refine hK υ l1 i1 hlen ?_;rw[<- hr'];exact pF (cl:=0) (.inr (.inr rfl)) e1 e2 e3
  ·rename_i e
   rw[if_neg e] at hK;have hlv:lvl=lN h0 h:=by omega
   have hne2:sl h0 lvl≠sl h lvl:=by rw[hlv];exact L0 (by omega)
   refine gN (w:=[]) (g:=0) i0 (Ba i0 hk hH hh) (qX i0 (λ e=>fC (a:=4) (b:=2) e)) λ υ s cl l1 i1 er em e1 _ _ hs1 hs2=>?_;have hlen:υ.len=σ.len+1:=by simp[Kw.len,em,Mm.push]
   have hsf:s=(f:Int):=by rw[er,hf]
   obtain⟨b1,b2⟩:=yg (vS h0 lvl) (vS h lvl) hne2 (x:=x) (s:=s) hx.1 hs1
   have hx4':(υ.nd x).kind=4:=by rw[l1.nd hx.2];exact hx4
   have hxh':(υ.nd x).hash.toNat=h0:=by rw[l1.nd hx.2];exact hxh
   have hnew:mE H υ (Ij (eL (eL 0 (sl h0 lvl:Int)) (sl h lvl:Int)) (two (sl h0 lvl) (sl h lvl) x s)) (sW h lvl) g:=by
    refine nQ i1 b1 (λ j hj v hv=>?_) (by rw[iO];omega) (λ _=>⟨λ e=>?_,λ b hb=>?_⟩)
    ·rcases b2 j hj v hv with⟨rfl,rfl⟩|⟨rfl,rfl⟩
     ·refine .inl ⟨hx4',?_⟩;rw[hxh'];have:=tA (X6 (a:=h0) (b:=h) (l:=lvl) (by omega));rwa [iO] at this
     ·refine .inl ⟨by rw[e1];rfl,?_⟩;rw[e1];have:=tA (tF h lvl);rw[iO] at this;exact this
    ·unfold two at e;split at e<;>cases e
    ·unfold two at hb;split at hb<;>cases hb
   rw[hsf] at hnew
   show WT H Q (.alloc (Ij (eL (eL 0 (sl h0 lvl:Int)) (sl h lvl:Int)) (two (sl h0 lvl) (sl h lvl) x (f:Int))) 0 K) υ
   refine gN i1 hnew (qX i1 (λ e=>fC (a:=3) (b:=2) e)) λ ρ r' cl l2 i2 er2 em2 e4 e5 e6 h1 h2=>?_;have hlen2:ρ.len=υ.len+1:=by simp[Kw.len,em2,Mm.push]
   have hr':r'=((f-1+[wJ h k u,bj (eL (eL 0 (sl h0 lvl:Int)) (sl h lvl:Int)) (two (sl h0 lvl) (sl h lvl) x (f:Int))].length:Nat):Int):=by
    rw[er2];simp only[List.length_cons,List.length_nil];omega
   rw[hr'];refine hK ρ (l1.trans i0 i1 l2) i2 (by simp only[List.length_cons,List.length_nil];omega) ?_;rw[<- hr'];exact pF (cl:=0) (.inl rfl) e4 e5 e6
 | n+1,lvl,σ,r,f,hn,i0,hx4,hxh,hgg,hf,hK=>by
  have hx:=eF (N:=σ.mm.nodes) (i:=x) (by have:=hx4;simp only[Kw.nd] at this;rw[this];decide);have hcl:=An h0 h;unfold dN at hK ⊢;rw[Ri];refine wb hh0 hh hH hk hg1 hne hpk hpH n (lvl+1) σ r f (by omega) i0 hx4 hxh hgg hf λ υ l1 i1 el hm=>?_;generalize hd:(dN x h0 h (pk,pv) k u g f n (lvl+1)).length=d at *;show WT H Q (.alloc (uB g) ((f-1+d:Nat):Int) λ _=>.alloc (Ij (eL 0 (sl h lvl:Int)) [((f+d:Nat):Int)]) 0 K) υ
  refine gN (w:=sW h (lvl+1)) (g:=0) i1 (Ix (by rw[iO];omega) hg1 (by have:=l1.gen;omega)) ⟨⟨by omega,hm.in.2⟩,λ _=>hm,λ k=>absurd k (kZ (.inr (.inr (.inl rfl)))),λ k=>fC (a:=2) (b:=8) k⟩ λ ρ j cl l2 i2 er em e1 e2 _ hj1 hj2=>?_;have hlen:ρ.len=υ.len+1:=by simp[Kw.len,em,Mm.push]
  have hj:j=((f+d:Nat):Int):=by rw[er];omega
  obtain⟨b1,b2⟩:=dx (vS h lvl) (r:=j) hj1
  have hnew:mE H ρ (Ij (eL 0 (sl h lvl:Int)) [j]) (sW h lvl) g:=by
   refine nQ i2 b1 (λ q hq v hv=>?_) (by rw[iO];omega) (λ _=>⟨by simp,λ b hb=>?_⟩)
   ·obtain⟨rfl,rfl⟩:=b2 q hq v hv
    exact .inr ⟨by rw[e1];rfl,by rw[e2,Jv],by rw[e1];exact Int.le_refl _⟩
   ·cases hb;rw[e1];rfl
  rw[hj] at hnew;refine gN i2 hnew (qX i2 (λ e=>fC (a:=3) (b:=2) e)) λ χ r' cl l3 i3 er2 em2 e4 e5 e6 h1 h2=>?_;have hlen2:χ.len=ρ.len+1:=by simp[Kw.len,em2,Mm.push]
  have hr':r'=((f-1+(d+2):Nat):Int):=by rw[er2];omega
  have hL:(dN x h0 h (pk,pv) k u g f n (lvl+1)++[qZ g ((f-1+d:Nat):Int),bj (eL 0 (sl h lvl:Int)) [((f+d:Nat):Int)]]).length=d+2:=by rw[List.length_append,hd];rfl
  rw[hL] at hK;rw[hr'];refine hK χ ((l1.trans i0 i1 l2).trans i0 i2 l3) i3 (by omega) ?_;rw[<- hr'];exact pF (cl:=0) (.inl rfl) e4 e5 e6
theorem Wy{x:Int}{h0 h:Nat}{p:Pr}{k:ByteArray}{u g:Int}:∀(n lvl:Nat),∃a:NI,∀f,∃l,dN x h0 h p k u g f n lvl=a::l
 | 0,lvl=>by
  by_cases e:lvl=11
  ·exact⟨Fo h (Eh [p,(k,u)]),λ f=>⟨[],by unfold dN;rw[if_pos e]⟩⟩
  ·exact⟨wJ h k u,λ f=>⟨_,by unfold dN;rw[if_neg e]⟩⟩
 | n+1,lvl=>by
  obtain⟨a,ha⟩:=Wy (x:=x) (h0:=h0) (h:=h) (p:=p) (k:=k) (u:=u) (g:=g) n (lvl+1)
  refine⟨a,λ f=>?_⟩
  obtain⟨l,hl⟩:=ha f
  exact⟨_,by unfold dN;rw[hl];rfl⟩
theorem qs{c:Cl}{b:Int}{h level:Nat}{K:Int->Tr}(i0:Inv H σ)(hb4:(σ.nd b).kind=4)(hu0:fQ (σ.nd b).hash.toNat w)(hu:fQ h w)(hl:level=w.length)(hw:w.length<=11)(hh:h<18446744073709551616)(hH:H c.key=h)(hk:c.key.size<=64)(hg1:1<=g)(hgg:g<=σ.mm.gen)(hne:(σ.nd b).key≠c.key)
  (hK:∀υ d,Le σ υ->Inv H υ->pP υ d w g->WT H Q (K d) υ):WT H Q (W3 c b h level g K) σ:=by
 have hlf:=i0.leaf (.inl hb4);have hb:=eF (N:=σ.mm.nodes) (i:=b) (by have:=hb4;simp only[Kw.nd] at this;rw[this];decide)
 have hcom:level<=lN (σ.nd b).hash.toNat h:=by
  have hw11:=An (σ.nd b).hash.toNat h;by_cases hlt:level<=lN (σ.nd b).hash.toNat h
  ·exact hlt
  ·exact absurd ((hu0 _ (by omega)).trans (hu _ (by omega)).symm) (L0 (by omega))
 refine⟨hb.2,?_⟩;generalize hn:lN (σ.nd b).hash.toNat h-level=n;have hlv:lN (σ.nd b).hash.toNat h-n=level:=by omega
 obtain⟨a,ha⟩:=Wy (x:=b) (h0:=(σ.nd b).hash.toNat) (h:=h) (p:=((σ.nd b).key,(σ.nd b).val)) (k:=c.key) (u:=c.val) (g:=g) n level
 have hP:∀f,dP b (σ.nd b).hash.toNat h ((σ.nd b).key,(σ.nd b).val) c.key c.val g f level=dN b (σ.nd b).hash.toNat h ((σ.nd b).key,(σ.nd b).val) c.key c.val g f n level:=λ f=>by unfold dP;rw[hn,hlv]
 obtain⟨l0,hl0⟩:=ha 0
 dsimp only;rw[hP 0,hl0];show WT H Q (.alloc a.c0 a.init λ f=>Bp (dP b (σ.nd b).hash.toNat h ((σ.nd b).key,(σ.nd b).val) c.key c.val g f.toNat level).tail f K) σ
 obtain⟨l1,hl1⟩:=ha (σ.len+1)
 have key:WT H Q (Bp (dN b (σ.nd b).hash.toNat h ((σ.nd b).key,(σ.nd b).val) c.key c.val g (σ.len+1) n level) 0 K) σ:=by
  refine wb hlf.hl hh hH hk hg1 hne hlf.sz hlf.ha n level σ 0 (σ.len+1) (by omega) i0 hb4 rfl hgg rfl λ υ l2 i2 _ hm=>hK υ _ l2 i2 ?_;rw[ng hu,<- hl];exact hm
 rw[hl1] at key
 obtain⟨υ,l2,i2,e2,hw2⟩:=key
 refine⟨υ,l2,i2,e2,?_⟩;dsimp only;rw[hP,show(((σ.len+1:Nat):Int)).toNat=σ.len+1 from Int.toNat_natCast _,hl1];exact hw2
end
end

/- The order of keys. -/
end Go.Proofs.YtadnboagdhcedaaGreatDoor
namespace Go.Ct
section
open Go Go.RowKit
end
end Go.Ct
namespace Go.Proofs.YtadnboagdhcedaaGreatDoor
section
open Go Go.RowKit Go.Ct
end

/- Tries that keep the labels: their I-nodes and their contents. -/
section
open Go.RowKit Go.Ct
section
variable{H:ByteArray->Nat}{σ:Kw}{i m p g:Int}{w:List Nat}{t:iS}
theorem Ml(i0:Inv H σ)(hi:sN σ i w g):∃p,dB σ.mm.nodes σ.mm.cs i=some p/\pP σ p w g:=by
 have hm:=hi.vz i0;have hc:=i0.pV hm.1;have hp:=(i0.ce _ hc.1 hc.2.1).prev _ hc.2.2;have e1:kC σ.mm.nodes σ.mm.cs i=σ.ce (σ.nd i).main:=rfl;have e2:hX σ.mm.nodes σ.mm.cs i=σ.ce (σ.nd (σ.ce (σ.nd i).main)).prev:=rfl;have e3:jU σ.mm.nodes σ.mm.cs i=if(σ.nd (hX σ.mm.nodes σ.mm.cs i)).kind=7 then(σ.nd (hX σ.mm.nodes σ.mm.cs i)).bO else hX σ.mm.nodes σ.mm.cs i:=rfl;unfold dB;rw[if_pos ⟨hi.1.1,by rw[e1];exact hm.1⟩];have key:∀q,pX σ (σ.ce (σ.nd i).main) q->pP σ q w g:=λ q hq=>by have:=hq.1;rw[hm.2.1] at this;exact this.le hm.2.2
 by_cases h0:hX σ.mm.nodes σ.mm.cs i=0
 ·rw[if_pos h0,e1]
  exact⟨_,rfl,hm⟩
 ·rw[if_neg h0,e3]
  rw[e2] at h0 ⊢
  rcases hp.2 with h|h|h
  ·exact absurd h h0
  ·have hk:=h.1.1;rw[if_neg (cC.ne0 hk).2.1,if_pos hk];exact⟨_,rfl,key _ h⟩
  ·rw[if_pos h.1,if_pos h.2.1.1]
   exact⟨_,rfl,key _ h.2⟩
theorem sc(i0:Inv H σ)(hT:dX σ t):∃r,eD σ.mm.nodes σ.mm.cs t.root=some r/\xS σ r []:=by
 have hv:=(ld hT i0).2;have e:lG σ.mm.nodes σ.mm.cs t.root=if(σ.nd (σ.ce t.root)).kind=8 then(if σ.ce (σ.nd (σ.ce t.root)).status=1 then(σ.nd (σ.ce t.root)).new else(σ.nd (σ.ce t.root)).bO) else σ.ce t.root:=rfl;have key:∀r,lG σ.mm.nodes σ.mm.cs t.root=r->xS σ r []->∃r,eD σ.mm.nodes σ.mm.cs t.root=some r/\xS σ r []:=λ r er hr=>⟨r,by unfold eD;rw[er];exact if_pos hr.1,hr⟩;rcases hv with h|h
 ·exact key _ (e.trans (if_neg (by rw[h.1];decide))) h
 ·have hd:=i0.desc h.1;by_cases hs:σ.ce (σ.nd (σ.ce t.root)).status=1
  ·exact key _ (e.trans ((if_pos h.1).trans (if_pos hs))) hd.2.2.1
  ·exact key _ (e.trans ((if_pos h.1).trans (if_neg hs))) hd.2.1
theorem pP.aA8(i0:Inv H σ)(h:pP σ m w g)(h3:(σ.nd m).kind≠3):(σ.nd m).xs=[]:=by
 have hn:=i0.nd m h.in.1 h.in.2;have he:(σ.nd m).xs=(σ.nd m).nd.iB (σ.nd m).xs:=congrArg Nv.xs (wA.1 hn.valid.1);rw[he];unfold Nd.iB;exact if_neg (by simpa[Nv.nd] using h3)
theorem mB.lof{b:Nat}{xs:List Int}(h:mB σ m w g b xs):pY (rA b xs) 64=xs:=(Rx h.bv).2
def yx(σ:Kw)(w:List Nat)(j:Int):Prop:=∃v,σ.way j=w++v/\(σ.nd j).kind=2/\(dB σ.mm.nodes σ.mm.cs j).isSome=true
theorem yx.up{k:Nat}{j:Int}(h:yx σ (w++[k]) j):yx σ w j:=by
 obtain⟨v,h1,h2⟩:=h
 exact⟨k::v,by rw[h1,List.append_assoc];rfl,h2⟩
theorem Vr{a b:Nat}{w u v:List Nat}(h:w++[a]++u=w++[b]++v):a=b:=by
 rw[List.append_assoc,List.append_assoc] at h;have:=List.append_cancel_left h;simpa using(List.cons.inj this).1
theorem jk(i0:Inv H σ):∀(n:Nat) (i:Int) (w:List Nat) (g:Int) (l:List Int),sN σ i w g->12<=w.length+n->(∀j∈l,¬∃v,σ.way j=w++v)->∃r,yX σ.mm.nodes σ.mm.cs n i l=some (l++r)/\(∀j∈r,yx σ w j)/\r.Nodup
 | 0,i,w,g,l,hi,hn,_=>by have:=(hi.N5 i0).2.2;omega
 | n+1,i,w,g,l,hi,hn,hl=>by
  obtain⟨p,hp,hm⟩:=Ml i0 hi
  have hbi:yx σ w i:=⟨[],by rw[hi.1.2,List.append_nil],hi.1.1,by rw[hp];rfl⟩;unfold yX;rw[if_neg (λ h=>hl i h ⟨[],by rw[hi.1.2,List.append_nil]⟩),hp];show ∃r,iZ σ.mm.nodes (yX σ.mm.nodes σ.mm.cs n) (σ.nd p).xs (l++[i])=some (l++r)/\_
  by_cases h3:(σ.nd p).kind=3
  ·have hc:=hm.uF i0 h3
   have key:∀k,k<=64->∃r,iZ σ.mm.nodes (yX σ.mm.nodes σ.mm.cs n) (pY (rA (σ.nd p).bm.toNat (σ.nd p).xs) k) (l++[i])=some (l++[i]++r)/\(∀j∈r,∃k',k'<k/\yx σ (w++[k']) j)/\r.Nodup:=by
    intro k
    induction k with
    | zero=>intro _;exact⟨[],by simp[pY,iZ],(λ j hj=>nomatch hj),List.nodup_nil⟩
    | succ k ih =>
     intro hk
     obtain⟨r,h1,h2,h4⟩:=ih (by omega)
     simp only[pY]
     rw[wE,h1]
     cases hmo:rA (σ.nd p).bm.toNat (σ.nd p).xs k with
     | none=>exact⟨r,by simp[iZ],(λ j hj=>by obtain⟨k',h5,h6⟩:=h2 j hj;exact⟨k',by omega,h6⟩),h4⟩
     | some b =>
      have hb:=hc.br k (by omega) b hmo;show ∃r',iZ σ.mm.nodes (yX σ.mm.nodes σ.mm.cs n) [b] (l++[i]++r)=some (l++[i]++r')/\(∀j∈r',∃k',k'<k+1/\yx σ (w++[k']) j)/\r'.Nodup
      rcases hb with hb|hb
      ·refine⟨r,?_,(λ j hj=>by obtain⟨k',h5,h6⟩:=h2 j hj;exact⟨k',by omega,h6⟩),h4⟩
       simp only[iZ]
       rw[if_pos hb.1]
      ·have hbg:sN σ b (w++[k]) (σ.nd b).gen:=⟨⟨hb.1,hb.2.1⟩,rfl⟩
       obtain⟨r2,h5,h6,h7⟩:=jk i0 n b (w++[k]) _ (l++[i]++r) hbg (by rw[List.length_append,List.length_singleton];omega) (λ j hj=>by
        rintro ⟨v,hv⟩
        rcases List.mem_append.1 hj with hj|hj
        ·rcases List.mem_append.1 hj with hj|hj
         ·exact hl j hj ⟨k::v,by rw[hv,List.append_assoc];rfl⟩
         ·rw[List.mem_singleton.1 hj,hi.1.2] at hv;have:=congrArg List.length hv;simp at this
        ·obtain⟨k',h5,v',h6,_⟩:=h2 j hj
         rw[h6] at hv;have:=Vr hv
         omega)
       refine⟨r++r2,?_,λ j hj=>?_,?_⟩
       ·simp only[iZ]
        rw[if_neg (by rw[hb.1];decide),if_pos hb.1,h5]
        simp[iZ]
       ·rcases List.mem_append.1 hj with hj|hj
        ·obtain⟨k',h8,h9⟩:=h2 j hj;exact⟨k',by omega,h9⟩
        ·exact⟨k,by omega,h6 j hj⟩
       ·refine List.nodup_append.2 ⟨h4,h7,λ a ha b' hb' e=>?_⟩;subst e;obtain⟨k',h8,v,h9,_⟩:=h2 a ha
        obtain⟨v2,h10,_⟩:=h6 a hb'
        rw[h9] at h10;have:=Vr h10;omega
   obtain⟨r,h1,h2,h4⟩:=key 64 (Nat.le_refl _)
   rw[hc.lof] at h1
   refine⟨i::r,by rw[h1];simp,λ j hj=>?_,?_⟩
   ·rcases List.mem_cons.1 hj with rfl|hj
    ·exact hbi
    ·obtain⟨k',_,h6⟩:=h2 j hj;exact h6.up
   ·refine List.nodup_cons.2 ⟨λ hj=>?_,h4⟩;obtain⟨k',_,v,h6,_⟩:=h2 i hj
    rw[hi.1.2] at h6;have:=congrArg List.length h6;simp at this
  ·rw[hm.aA8 i0 h3]
   exact⟨[i],rfl,(λ j hj=>by rw[List.mem_singleton.1 hj];exact hbi),by simp⟩
end
end

end Go.Proofs.YtadnboagdhcedaaGreatDoor
