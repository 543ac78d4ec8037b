/- Merged. -/
import Derived.Test.YtdnklbipddigbaaGreatGKw5
import Derived.Test.YtdnklbipddigbaaGreatGVw1
import Derived.Test.YtdnklbipddigbaaGreatGTr2
import Derived.Test.YtdnklbipddigbaaGreatGRn1
import Derived.Test.YtdnklbipddigbaaGreatGRs0
set_option linter.unusedSimpArgs false
set_option linter.unusedVariables false
namespace Go.Proofs.YtdnklbipddigbaaGreat
open Go.Ct
section
theorem slI_some(h:Nat)(level:Int):∃k:Nat,k<64/\slI h level=(k:Int):=by
 unfold slI;try dsimp only
 split;·exact⟨0,by decide,rfl⟩
 ·exact⟨_,sl_lt _ _,rfl⟩
theorem slI_at{h l:Nat}(hl:l<=10):slI h ((l:Nat):Int)=((sl h l:Nat):Int):=by unfold slI;rw[if_neg (by omega),Int.toNat_natCast]
theorem under_pre{h k:Nat}{w:List Nat}(hu:Under h (w++[k])):Under h w:=λ j hj=>by have:=hu j (by simp;omega);rw[this,gdg,List.getElem?_append_left hj,<- gdg]
theorem under_nil(h:Nat):Under h []:=λ k hk=>absurd hk (Nat.not_lt_zero k)
theorem under_snoc{h:Nat}{w:List Nat}(hu:Under h w):Under h (w++[sl h w.length]):=λ j hj=>by
 rw[List.length_append,List.length_singleton] at hj;by_cases e:j<w.length;·rw[hu j e,gdg,gdg,List.getElem?_append_left e]
 ·have:j=w.length:=by omega
  subst this;simp[gdg]
theorem updL_sole{xs:List Int}{p:Nat}{r b:Int}(hp:p<xs.length)(h:updL xs p r=[b]):b=r/\xs.length=1:=by
 have hl:=updL_len hp r;rw[h] at hl;have h1:xs.length=1:=by simpa using hl.symm
 have hp0:p=0:=by omega
 subst hp0;have:=updL_at (xs:=xs) (p:=0) hp r 0;rw[h,if_pos rfl] at this;exact⟨by simpa using this,h1⟩
section
variable{H:ByteArray->Nat}{Q:Rs->Kw->Prop}{σ τ υ:Kw}{i m p g:Int}{w:List Nat}{t:Tri}
theorem lkV_kind{v:Nv}{k b:Int}(h:lkV v k=some b):v.kind=3:=by unfold lkV at h;have:=lkO_some (show(lkO v.nd v.xs v.ys v.bm.toNat k).isSome=true by rw[h];rfl);exact this.1.1
theorem mk_main{r cl:Int}{n:Nv}{c:Nat}(hm:MainK n)(e:σ.nd r=alNv n c)(hw:σ.way r=w)(hg:σ.gb r=g):IsM σ r w g:=⟨by rw[e];exact hm,hw,by rw[hg];exact Int.le_refl _⟩
theorem over_main{n:Nv}(hn:MainK n)(h:IsM σ m w g)(hs:Settled σ m):InOk σ n m w g :=⟨⟨by have:=h.in;omega,h.in.2⟩,λ k=>by unfold MainK at hn;omega,λ _=>.inr ⟨h,hs⟩,λ k=>by unfold MainK at hn;omega⟩
theorem CNode.upL{b:Nat}{xs:List Int}(h:CNode σ m w g b xs)(l:Le σ τ):CNode τ m w g b xs:=by have hr:=kind_in (N:=σ.mm.nodes) (i:=m) (by have:=h.kd;simp only[Kw.nd] at this;rw[this];decide);have e:=l.nd hr.2;refine⟨by rw[e];exact h.kd,by rw[e];exact h.bm,by rw[e];exact h.el,by rw[e];exact h.cv,h.bv,h.wl,λ k hk r hr=>(h.br k hk r hr).up l,λ h0=>⟨(h.ne h0).1,λ b hb=>?_⟩⟩;have:=(h.ne h0).2 b hb;rw[l.nd (kind_in (N:=σ.mm.nodes) (i:=b) (by rw[this];decide)).2];exact this
theorem new_up{b:Nat}{xs:List Int}(i0:Inv H σ)(hc:CNode σ m w g b xs){k:Nat}(hk:k<64){o r:Int}(ho:lkV (σ.nd m) (k:Int)=some o)(hr:BrI σ (w++[k]) g r)(h0:0<w.length->xs.length=1->(σ.nd r).kind=2):NewOk H σ (upV (σ.nd m) (k:Int) r) w g:=by
 obtain⟨e,h1,h2,h3⟩:=hc.up hk ho hr.in.1;rw[e];refine new_cnode i0 h1 (λ j hj v hv=>?_) hc.wl (λ hw=>⟨λ e=>?_,λ b hb=>?_⟩)
 ·rw[h2 j hj] at hv;unfold upd at hv;split at hv;·rename_i ej;cases hv;rw[ej];exact hr
  ·exact hc.br j hj v hv
 ·have:=updL_len h3 r;rw[e] at this;simp at this;omega
 ·obtain⟨e1,e2⟩:=updL_sole h3 hb;rw[e1];exact h0 hw e2
theorem upV_kind{b:Nat}{xs:List Int}(hc:CNode σ m w g b xs){k:Nat}(hk:k<64){o r:Int}(ho:lkV (σ.nd m) (k:Int)=some o)(hr:1<=r):(upV (σ.nd m) (k:Int) r).kind=3:=by rw[(hc.up hk ho hr).1];rfl
theorem InG.gens(i0:Inv H σ)(h:InG σ i w g):1<=g/\g<=σ.mm.gen/\w.length<=11:=by
 have hn:=i0.nd i h.in.1 h.in.2;have h2:=hn.k2 h.1.1;have hv:=hn.valid.2.2.2.2;have hg:=hn.gen;rw[h.2] at hg;refine⟨?_,hg,by rw[<- h.1.2];exact h2.1⟩;have hk:=h.1.1;rcases hv with h|h|h|h|h|h|h;·exact absurd (hk.symm.trans h) (by decide)
 ·have:=h.2;rw[<- ‹InG σ i w g›.2];exact this
 ·exact absurd (hk.symm.trans h.1) (by decide)
 ·rcases h.1 with h|h<;>exact absurd (hk.symm.trans h) (by decide)
 ·exact absurd (hk.symm.trans h.1) (by decide)
 ·exact absurd (hk.symm.trans h.1) (by decide)
 ·exact absurd (hk.symm.trans h.1) (by decide)
theorem inode_wt{K:Int->Tr}{g':Int}(i0:Inv H σ)(h1:1<=g)(h2:g<=σ.mm.gen)(hw:w.length<=11)(hm:IsM σ m w g')(hg:g'<=g)(hK:∀τ j,Le σ τ->Inv H τ->InG τ j w g->WT H Q (K j) τ):WT H Q (.alloc (inodeV g) m K) σ :=alloc_wt (w:=w) (g:=0) i0 (new_inode hw h1 h2) ⟨⟨by have:=hm.in;omega,hm.in.2⟩,λ _=>hm.le hg,λ k=>absurd k (mk_dec (.inr (.inr (.inl rfl)))),λ k=>no_k (a:=2) (b:=8) k⟩ λ υ j cl l1 i1 _ _ e1 e2 _ _ _=>hK υ j l1 i1 ⟨⟨by rw[e1];rfl,e2⟩,by rw[e1];rfl⟩
theorem unV_tomb{v:Nv}(h:v.kind=5):unV v=singV v.hash v.key v.val:=by unfold unV unN;rw[if_pos (show v.nd.kind=5 from h)];rfl
theorem soV_cn{b:Nat}{xs:List Int}(h:BV b xs):soV (cnV b xs)=if xs.length=1 then some (xs.getD 0 0) else none:=by
 have hcv:CV (cnV b xs).nd xs []:=by have:=cv_cn0 h (none,0);exact cv_c.1 this
 unfold soV soO;by_cases e:xs.length=1;·rw[if_pos e,if_pos ⟨hcv,e⟩];rfl
 ·rw[if_neg e,if_neg λ h=>e h.2]
theorem coV_cn{b:Nat}{xs:List Int}{s:Nv}{level:Int}(h:BV b xs):coV (cnV b xs) level s=if xs.length=1/\0<level/\s.kind=4 then tmV s else cnV b xs:=by
 have e:coT (cnV b xs).nd (cnV b xs).xs (cnV b xs).ys level s.nd=decide (xs.length=1/\0<level/\s.kind=4):=by
  unfold coT;have h1:soO (cnV b xs).nd (cnV b xs).xs (cnV b xs).ys=soV (cnV b xs):=rfl;rw[h1,soV_cn h];refine decide_eq_decide.2 ⟨λ h=>⟨?_,h.2⟩,λ h=>⟨?_,h.2⟩⟩
  ·have:=h.1;split at this;·assumption
   ·cases this
  ·rw[if_pos h.1];rfl
 unfold coV;rw[e];by_cases hx:xs.length=1/\0<level/\s.kind=4;·rw[if_pos hx,if_pos (decide_eq_true hx)]
 ·rw[if_neg hx,if_neg (by rw[decide_eq_false hx];decide)]
structure Leaf(H:ByteArray->Nat)(v:Nv):Prop where
 sz:v.key.size<=64
 ha:H v.key=v.hash.toNat
 hn:v.hash=((v.hash.toNat:Nat):Int)
 hl:v.hash.toNat<18446744073709551616
theorem Inv.leaf(i0:Inv H σ){s:Int}(h:(σ.nd s).kind=4∨(σ.nd s).kind=5):Leaf H (σ.nd s):=by
 have hr:=kind_in (N:=σ.mm.nodes) (i:=s) (by rcases h with h|h<;>(simp only[Kw.nd] at h;rw[h];decide));have hn:=i0.nd s hr.1 hr.2;obtain⟨b,hb1,hb2⟩:=hn.bd.hash;refine⟨?_,?_,by omega,by omega⟩
 ·have hv:=hn.valid.2.2.2.2;rcases hv with h'|h'|h'|h'|h'|h'|h';·have:(σ.nd s).kind=1:=h';omega
  ·have:(σ.nd s).kind=2:=h'.1;omega
  ·have:(σ.nd s).kind=3:=h'.1;omega
  ·exact h'.2
  ·have:(σ.nd s).kind=6:=h'.1;omega
  ·have:(σ.nd s).kind=8:=h'.1;omega
  ·have:(σ.nd s).kind=7:=h'.1;omega
 ·rcases h with h|h;·exact hn.k4 h
  ·exact(hn.k5 h).2.2.1
theorem sing_of{v:Nv}(h:Leaf H v):singV v.hash v.key v.val=singV ((v.hash.toNat:Nat):Int) v.key v.val:=by rw[<- h.hn]
end
end
section
theorem short_iff{l:List Pr}:Short l↔∀p∈l,p.1.size<=64:=by
 constructor;·intro h p hp;obtain⟨i,hi,e⟩:=List.mem_iff_getElem.1 hp;have:=h i hi;rw[getD_get hi,e] at this;exact this
 ·intro h i hi;rw[getD_get hi];exact h _ (List.getElem_mem hi)
theorem sl_all{a b:Nat}(ha:a<18446744073709551616)(hb:b<18446744073709551616)(h:∀j,j<11->sl a j=sl b j):a=b:=by
 have key:∀d j,j+d=11->a >>> (6*j)=b >>> (6*j):=by
  intro d;induction d with
  | zero=>
   intro j hj;have hj:j=11:=by omega
   subst hj;rw[Nat.shiftRight_eq_div_pow,Nat.shiftRight_eq_div_pow,Nat.div_eq_of_lt (by omega),Nat.div_eq_of_lt (by omega)]
  | succ d ih=>intro j hj;have h1:=ih (j+1) (by omega);have h2:=h j (by omega);unfold sl at h2;rw[<- sr_next,<- sr_next] at h1;omega
 have:=key 11 0 rfl;simpa using this
theorem under_eq{a b:Nat}{w:List Nat}(ha:a<18446744073709551616)(hb:b<18446744073709551616)(h1:Under a w)(h2:Under b w)(hw:w.length=11):a=b:=sl_all ha hb λ j hj=>by rw[h1 j (by omega),h2 j (by omega)]
section
variable{H:ByteArray->Nat}{Q:Rs->Kw->Prop}{σ τ υ:Kw}{i m p g:Int}{w:List Nat}{t:Tri}
structure LNode(H:ByteArray->Nat)(σ:Kw)(m:Int)(w:List Nat)(h:Nat):Prop where
 kd:(σ.nd m).kind=6
 hs:(σ.nd m).hash=((h:Nat):Int)
 hl:h<18446744073709551616
 lv:LV (σ.nd m).nd (σ.nd m).xs (σ.nd m).ys
 two:2<=(σ.nd m).ys.length
 sa:SA (σ.nd m).ys
 sh:∀p∈(σ.nd m).ys,p.1.size<=64
 ha:∀p∈(σ.nd m).ys,H p.1=h
 wl:w.length=11
 un:Under h w
theorem IsM.lnode(i0:Inv H σ)(h:IsM σ m w g)(k:(σ.nd m).kind=6):LNode H σ m w (σ.nd m).hash.toNat:=by
 have hr:=h.in;have hn:=i0.nd m hr.1 hr.2;obtain⟨h1,h2,h3,_⟩:=hn.k6 k;obtain⟨b,hb1,hb2⟩:=hn.bd.hash;have hv:=hn.valid.2.2.2.2;have hl:2<=(σ.nd m).ys.length/\Asc (σ.nd m).ys/\Short (σ.nd m).ys:=by
  rcases hv with h'|h'|h'|h'|h'|h'|h';·have:(σ.nd m).kind=1:=h';omega
  ·have:(σ.nd m).kind=2:=h'.1;omega
  ·have:(σ.nd m).kind=3:=h'.1;omega
  ·rcases h'.1 with h''|h'';·have:(σ.nd m).kind=4:=h'';omega
   ·have:(σ.nd m).kind=5:=h'';omega
  ·exact h'.2
  ·have:(σ.nd m).kind=8:=h'.1;omega
  ·have:(σ.nd m).kind=7:=h'.1;omega
 rw[h.2.1] at h1 h2;exact⟨k,by omega,by omega,⟨k,hn.valid⟩,hl.1,asc_sa.1 hl.2.1,short_iff.1 hl.2.2,h3,h1,h2⟩
theorem grV_ok(i0:Inv H σ){h:Nat}(hl:LNode H σ m w h){k:ByteArray}{u:Int}(hk:k.size<=64)(hH:H k=h):MainK (grV (σ.nd m) k u)/\NewOk H σ (grV (σ.nd m) k u) w g:=by
 have e:grV (σ.nd m) k u=listV ((h:Nat):Int) (putL (σ.nd m).ys k u):=by unfold grV growO putO;rw[if_pos ⟨hl.lv,hk⟩,if_pos hl.sa,hl.hs];rfl
 rw[e];refine⟨.inr (.inr rfl),new_list i0 ?_ (asc_sa.2 (putL_sa hl.sa)) (short_iff.2 λ p hp=>?_) (λ p hp=>?_) hl.hl hl.wl hl.un⟩;·rw[put_len hl.sa];have:=hl.two;(try dsimp only);split<;>omega
 ·rcases putL_mem hp with rfl|hp;·exact hk
  ·exact hl.sh p hp
 ·rcases putL_mem hp with rfl|hp;·exact hH
  ·exact hl.ha p hp
theorem shV_ok(i0:Inv H σ){h:Nat}(hl:LNode H σ m w h){k:ByteArray}(hf:(findO (σ.nd m).ys k).isSome=true):MainK (shV (σ.nd m) k)/\NewOk H σ (shV (σ.nd m) k) w g:=by
 have hf2:(fnd (σ.nd m).ys k).isSome=true:=by unfold findO at hf;rwa [if_pos hl.sa] at hf
 have hlen:=drop_len (k:=k) hl.sa;rw[if_pos hf2] at hlen;have hmem:∀p∈dropL (σ.nd m).ys k,p∈(σ.nd m).ys:=λ p hp=>(List.mem_filter.1 hp).1
 have htwo:=hl.two;by_cases h1:(dropL (σ.nd m).ys k).length=1
 ·have e:shV (σ.nd m) k=tombV ((h:Nat):Int) ((dropL (σ.nd m).ys k).getD 0 (⟨#[]⟩,0)).1 ((dropL (σ.nd m).ys k).getD 0 (⟨#[]⟩,0)).2:=by unfold shV shrO dropO;rw[if_pos ⟨hl.lv,hf⟩,if_pos hl.sa,hl.hs];unfold shN shL;dsimp only;rw[if_pos h1,if_pos h1];rfl
  rw[e];have hp:(dropL (σ.nd m).ys k).getD 0 (⟨#[]⟩,0)∈(σ.nd m).ys:=hmem _ (by rw[getD_get (by omega)];exact List.getElem_mem _);exact⟨.inr (.inl rfl),new_tomb i0 (hl.sh _ hp) (hl.ha _ hp) hl.hl (by rw[hl.wl];decide) (by rw[hl.wl];decide) hl.un⟩
 ·have e:shV (σ.nd m) k=listV ((h:Nat):Int) (dropL (σ.nd m).ys k):=by unfold shV shrO dropO;rw[if_pos ⟨hl.lv,hf⟩,if_pos hl.sa,hl.hs];unfold shN shL;dsimp only;rw[if_neg h1,if_neg h1];rfl
  rw[e];exact⟨.inr (.inr rfl),new_list i0 (by omega) (asc_sa.2 (dropL_sa k hl.sa)) (short_iff.2 λ p hp=>hl.sh p (hmem p hp)) (λ p hp=>hl.ha p (hmem p hp)) hl.hl hl.wl hl.un⟩
def wayN(h l:Nat):List Nat:=(List.range l).map (sl h)
theorem wayN_len(h l:Nat):(wayN h l).length=l:=by simp[wayN]
theorem wayN_succ(h l:Nat):wayN h (l+1)=wayN h l++[sl h l]:=by simp[wayN,List.range_succ]
theorem under_wayN(h l:Nat):Under h (wayN h l):=λ k hk=>by rw[wayN_len] at hk;simp[wayN,gdg,hk]
theorem wayN_of{h:Nat}{w:List Nat}(hu:Under h w):w=wayN h w.length:=by refine List.ext_getElem (by rw[wayN_len]) λ k h1 h2=>?_;have:=hu k h1;rw[gdg,List.getElem?_eq_getElem h1] at this;simp only[wayN,List.getElem_map,List.getElem_range];exact this.symm
theorem under_com{a b l:Nat}(hl:l<=com a b):Under a (wayN b l):=λ k hk=>by rw[wayN_len] at hk;rw[<- under_wayN b l k (by rw[wayN_len];exact hk)];exact com_eq (by omega)
theorem bv_zero:BV 0 []:=⟨by decide,by decide,λ i hi=>absurd hi (Nat.not_lt_zero i)⟩
theorem cnt_zero:∀k,cnt 0 k=0
 | 0=>rfl
 | k+1=>by simp only[cnt,cnt_zero k,Nat.zero_testBit];rfl
theorem bv_one{k:Nat}(hk:k<64){r:Int}(hr:1<=r):BV (withI 0 (k:Int)) [r]/\∀j,j<64->∀v,mOf (withI 0 (k:Int)) [r] j=some v->j=k/\v=r:=by
 rw[withI_nat 0 hk];have h:=ins_bv bv_zero hk (by simp) hr;rw[cnt_zero,show insL [] 0 r=[r] from rfl] at h;refine⟨h.1,λ j hj v hv=>?_⟩;rw[h.2 j hj] at hv;unfold upd at hv;split at hv;·cases hv;exact⟨by assumption,rfl⟩
 ·simp[mOf] at hv
theorem bv_two{k l:Nat}(hk:k<64)(hl:l<64)(hne:k≠l){x s:Int}(hx:1<=x)(hs:1<=s):BV (withI (withI 0 (k:Int)) (l:Int)) (two k l x s)/\∀j,j<64->∀v,mOf (withI (withI 0 (k:Int)) (l:Int)) (two k l x s) j=some v->(j=k/\v=x)∨(j=l/\v=s):=by
 have h1:=bv_one hk hx;rw[withI_nat 0 hk] at h1 ⊢;rw[withI_nat _ hl];have hb:(0 ||| 2^k).testBit l=false:=by rw[with_bit];simp;omega
 have h:=ins_bv h1.1 hl hb hs;have hc:cnt (0 ||| 2^k) l=if k<l then 1 else 0:=by
  have:=cnt_more (b:=0) (b':=0 ||| 2^k) (i:=k) (by simp) (λ j _=>with_bit 0 k j) l (by omega)
  rw[this,cnt_zero];omega
 have e:insL [x] (cnt (0 ||| 2^k) l) s=two k l x s:=by
  rw[hc];unfold two;by_cases hkl:k<l;·rw[if_pos hkl,if_pos hkl];rfl
  ·rw[if_neg hkl,if_neg hkl];rfl
 rw[e] at h;refine⟨h.1,λ j hj v hv=>?_⟩;rw[h.2 j hj] at hv;unfold upd at hv;split at hv;·cases hv;exact .inr ⟨by assumption,rfl⟩
 ·exact .inl (h1.2 j hj v hv)
theorem alsT_app:∀(a b:List NI) (r:Int) (K:Int->Tr),alsT (a++b) r K=alsT a r λ r=>alsT b r K
 | [],_,_,_=>rfl
 | x::a,b,r,K=>by simp only[List.cons_append,alsT,alsT_app a b]
theorem in_leaf{n:Nv}(i0:Inv H σ)(h2:n.kind≠2):InOk σ n 0 w g:=⟨⟨Int.le_refl _,nn0 _⟩,λ k=>absurd k h2,λ _=>.inl rfl,λ _=>rfl⟩
theorem ofL_two{p q:Pr}(hne:p.1≠q.1):2<=(ofL [p,q]).length/\SA (ofL [p,q])/\∀r∈ofL [p,q],r=p∨r=q:=by
 refine⟨?_,ofL_sa _,λ r hr=>?_⟩
 ·have h1:ofL [p]=[p]:=rfl;rw[show [p,q]=[p]++[q] from rfl,ofL_snoc,h1,put_len (by simp[SA])];have:fnd [p] q.1=none:=fnd_none λ r hr=>by rw[List.mem_singleton.1 hr];exact hne
  rw[this];simp
 ·rw[show [p,q]=[p]++[q] from rfl,ofL_snoc] at hr;rcases putL_mem hr with h|h;·exact .inr h
  ·have h1:ofL [p]=[p]:=rfl;rw[h1] at h;exact .inl (List.mem_singleton.1 h)
theorem dN_cons{x:Int}{h0 h:Nat}{p:Pr}{k:ByteArray}{u g:Int}:∀(n lvl:Nat),∃a:NI,∀f,∃l,dN x h0 h p k u g f n lvl=a::l
 | 0,lvl=>by
  by_cases e:lvl=11
  ·exact⟨niList h (ofL [p,(k,u)]),λ f=>⟨[],by unfold dN;rw[if_pos e]⟩⟩
  ·exact⟨niSingle h k u,λ f=>⟨_,by unfold dN;rw[if_neg e]⟩⟩
 | n+1,lvl=>by
  obtain⟨a,ha⟩:=dN_cons (x:=x) (h0:=h0) (h:=h) (p:=p) (k:=k) (u:=u) (g:=g) n (lvl+1)
  refine⟨a,λ f=>?_⟩
  obtain⟨l,hl⟩:=ha f
  exact⟨_,by unfold dN;rw[hl];rfl⟩
end
end
end Go.Proofs.YtdnklbipddigbaaGreat
namespace Go.Ct
open Go Go.RowKit
section
end
end Go.Ct
namespace Go.Proofs.YtdnklbipddigbaaGreat
section
open Go Go.RowKit Go.Ct
end
section
open Go.RowKit Go.Ct
section
variable{H:ByteArray->Nat}{σ:Kw}{i m p g:Int}{w:List Nat}{t:Tri}
theorem body_ok(i0:Inv H σ)(hi:InG σ i w g):∃p,bodyO σ.mm.nodes σ.mm.cs i=some p/\IsM σ p w g:=by
 have hm:=hi.cur i0;have hc:=i0.prevCell hm.1;have hp:=(i0.ce _ hc.1 hc.2.1).prev _ hc.2.2;have e1:bodyM σ.mm.nodes σ.mm.cs i=σ.ce (σ.nd i).main:=rfl;have e2:bodyP σ.mm.nodes σ.mm.cs i=σ.ce (σ.nd (σ.ce (σ.nd i).main)).prev:=rfl;have e3:bodyQ σ.mm.nodes σ.mm.cs i=if(σ.nd (bodyP σ.mm.nodes σ.mm.cs i)).kind=7 then(σ.nd (bodyP σ.mm.nodes σ.mm.cs i)).old else bodyP σ.mm.nodes σ.mm.cs i:=rfl
 unfold bodyO;rw[if_pos ⟨hi.1.1,by rw[e1];exact hm.1⟩];have key:∀q,PrevM σ (σ.ce (σ.nd i).main) q->IsM σ q w g:=λ q hq=>by have:=hq.1;rw[hm.2.1] at this;exact this.le hm.2.2
 by_cases h0:bodyP σ.mm.nodes σ.mm.cs i=0;·rw[if_pos h0,e1];exact⟨_,rfl,hm⟩
 ·rw[if_neg h0,e3];rw[e2] at h0 ⊢;rcases hp.2 with h|h|h;·exact absurd h h0
  ·have hk:=h.1.1;rw[if_neg (MainK.ne0 hk).2.1,if_pos hk];exact⟨_,rfl,key _ h⟩
  ·rw[if_pos h.1,if_pos h.2.1.1];exact⟨_,rfl,key _ h.2⟩
theorem root_ok(i0:Inv H σ)(hT:TrieOk σ t):∃r,rootO σ.mm.nodes σ.mm.cs t.root=some r/\IsI σ r []:=by
 have hv:=(rootV hT i0).2;have e:rootP σ.mm.nodes σ.mm.cs t.root=if(σ.nd (σ.ce t.root)).kind=8 then(if σ.ce (σ.nd (σ.ce t.root)).status=1 then(σ.nd (σ.ce t.root)).new else(σ.nd (σ.ce t.root)).old) else σ.ce t.root:=rfl
 have key:∀r,rootP σ.mm.nodes σ.mm.cs t.root=r->IsI σ r []->∃r,rootO σ.mm.nodes σ.mm.cs t.root=some r/\IsI σ r []:=λ r er hr=>⟨r,by unfold rootO;rw[er];exact if_pos hr.1,hr⟩
 rcases hv with h|h;·exact key _ (e.trans (if_neg (by rw[h.1];decide))) h
 ·have hd:=i0.desc h.1;by_cases hs:σ.ce (σ.nd (σ.ce t.root)).status=1;·exact key _ (e.trans ((if_pos h.1).trans (if_pos hs))) hd.2.2.1
  ·exact key _ (e.trans ((if_pos h.1).trans (if_neg hs))) hd.2.1
theorem CNode.lof{b:Nat}{xs:List Int}(h:CNode σ m w g b xs):lOf (mOf b xs) 64=xs:=(of_mOf h.bv).2
def Bel(σ:Kw)(w:List Nat)(j:Int):Prop:=∃v,σ.way j=w++v/\(σ.nd j).kind=2/\(bodyO σ.mm.nodes σ.mm.cs j).isSome=true
theorem Bel.up{k:Nat}{j:Int}(h:Bel σ (w++[k]) j):Bel σ w j:=by obtain⟨v,h1,h2⟩:=h;exact⟨k::v,by rw[h1,List.append_assoc];rfl,h2⟩
theorem app_inj{a b:Nat}{w u v:List Nat}(h:w++[a]++u=w++[b]++v):a=b:=by rw[List.append_assoc,List.append_assoc] at h;have:=List.append_cancel_left h;simpa using(List.cons.inj this).1
end
end
section
open Go Go.RowKit Go.Ct
def xoC(k:Cl)(bm:Nat)(x:XS)(dn:Bool)(rs:Rs):List Value:=[.pointer (some ⟨bm,0,none⟩),
 .int .i64 k.kind,.int .i64 k.t.root,.bool k.t.ro,.int .i64 k.a,.int .i64 k.b,.int .i64 k.n,.int .i64 k.index,.int .u64 k.hash,.int .u64 k.mask,.string k.key,.int .u64 k.val,.int .u64 k.exp,.int .i64 k.pol,.bool k.only,
 .bool false,.slice none 0 0,.slice none 0 0,.int .i64 0,.bool false,.int .u64 0,.string ⟨#[]⟩,.int .i64 0,.int .i64 0,.int .i64 0,.bool false,
 .slice x.pg x.got.length x.kg,.slice x.pm x.made.length x.km,.slice x.pl x.cel.length x.kl,.slice x.pe x.gns.length x.ke,
 .int .i64 ((x.a:Nat):Int),.int .i64 ((x.m:Nat):Int),.int .i64 ((x.c:Nat):Int),.int .i64 ((x.g:Nat):Int),.int .i64 ((x.fr:Nat):Int),.bool x.st,
 .int .i64 x.nx.k,.int .i64 x.nx.c,.int .i64 x.nx.o,.int .i64 x.nx.n,.bool dn,
 .int .i64 rs.err,.bool rs.found,.int .u64 rs.val,.string rs.key,.int .i64 rs.cnt,.int .i64 rs.ref,.int .i64 rs.root,.bool rs.ro,
 .bool false,.slice none 0 0,.slice none 0 0]
abbrev xO(k:Cl)(bm:Nat)(x:XS)(dn:Bool)(rs:Rs):Obj:=.cells ⟨xoC k bm x dn rs⟩ 149 (0,0)
abbrev xM(x:XS):Obj:=mO x.L x.cs x.gen x.acc x.pn x.cn x.pc x.cc
abbrev xW(x:XS):List Ow:=[⟨x.pg,refsC x.got,x.kg,28,1⟩,⟨x.pm,refsC x.made,x.km,28,1⟩,⟨x.pl,refsC x.cel,x.kl,33,1⟩,⟨x.pe,refsC x.gns,x.ke,3,1⟩,⟨x.pn,nvC x.L,x.cn,45,14⟩,⟨x.pc,refsC x.cs,x.cc,28,1⟩]
abbrev xH(k:Cl)(bx bm:Nat)(x:XS)(dn:Bool)(rs:Rs):List (Nat×Obj):=[(bx,xO k bm x dn rs),(bm,xM x)]
theorem xOpen{w0 w:World}{D:List Nat}{k:Cl}{bx bm:Nat}{x:XS}{dn:Bool}{rs:Rs}{A F:Fr}(h:SF w0 D (xH k bx bm x dn rs) A F (xW x) w) :
  SF w0 D [(bx,.cells ⟨[.pointer (some ⟨bm,0,none⟩),
 .int .i64 k.kind,.int .i64 k.t.root,.bool k.t.ro,.int .i64 k.a,.int .i64 k.b,.int .i64 k.n,.int .i64 k.index,.int .u64 k.hash,.int .u64 k.mask,.string k.key,.int .u64 k.val,.int .u64 k.exp,.int .i64 k.pol,.bool k.only,
 .bool false,.slice none 0 0,.slice none 0 0,.int .i64 0,.bool false,.int .u64 0,.string ⟨#[]⟩,.int .i64 0,.int .i64 0,.int .i64 0,.bool false,
 .slice x.pg x.got.length x.kg,.slice x.pm x.made.length x.km,.slice x.pl x.cel.length x.kl,.slice x.pe x.gns.length x.ke,
 .int .i64 ((x.a:Nat):Int),.int .i64 ((x.m:Nat):Int),.int .i64 ((x.c:Nat):Int),.int .i64 ((x.g:Nat):Int),.int .i64 ((x.fr:Nat):Int),.bool x.st,
 .int .i64 x.nx.k,.int .i64 x.nx.c,.int .i64 x.nx.o,.int .i64 x.nx.n,.bool dn,
 .int .i64 rs.err,.bool rs.found,.int .u64 rs.val,.string rs.key,.int .i64 rs.cnt,.int .i64 rs.ref,.int .i64 rs.root,.bool rs.ro,
 .bool false,.slice none 0 0,.slice none 0 0]⟩ 149 (0,0)),(bm,mO x.L x.cs x.gen x.acc x.pn x.cn x.pc x.cc)] A F [⟨x.pg,refsC x.got,x.kg,28,1⟩,⟨x.pm,refsC x.made,x.km,28,1⟩,⟨x.pl,refsC x.cel,x.kl,33,1⟩,⟨x.pe,refsC x.gns,x.ke,3,1⟩,⟨x.pn,nvC x.L,x.cn,45,14⟩,⟨x.pc,refsC x.cs,x.cc,28,1⟩] w:=h
theorem xOpen2{w0 w:World}{D:List Nat}{k:Cl}{bx bm:Nat}{x:XS}{dn:Bool}{rs:Rs}{A F:Fr}(h:SF w0 D (xH k bx bm x dn rs) A F (xW x) w) :
  SF w0 D [(bx,.cells ⟨xoC k bm x dn rs⟩ 149 (0,0)),(bm,mO x.L x.cs x.gen x.acc x.pn x.cn x.pc x.cc)] A F [⟨x.pg,refsC x.got,x.kg,28,1⟩,⟨x.pm,refsC x.made,x.km,28,1⟩,⟨x.pl,refsC x.cel,x.kl,33,1⟩,⟨x.pe,refsC x.gns,x.ke,3,1⟩,⟨x.pn,nvC x.L,x.cn,45,14⟩,⟨x.pc,refsC x.cs,x.cc,28,1⟩] w:=h
end
end Go.Proofs.YtdnklbipddigbaaGreat
namespace Go.Ct
section
def XS.kn(x:XS)(a:Ac):XS:=if x.st=true then x else if x.a<x.got.length then{x with a:=x.a+1} else if x.fr=0 then{x with st:=true,nx:=a} else{x with fr:=x.fr-1}
def XS.old(x:XS):Bool:=!x.st&&decide (x.a<x.got.length)
def XS.now(x:XS):Bool:=!x.st&&!decide (x.a<x.got.length)&&!decide (x.fr=0)
theorem XS.kn_st{x:XS}{a:Ac}(h:x.st=true):x.kn a=x/\x.old=false/\x.now=false:=⟨if_pos h,by simp[XS.old,h],by simp[XS.now,h]⟩
theorem XS.kn_old{x:XS}{a:Ac}(h:x.st=false)(h1:x.a<x.got.length):x.kn a={x with a:=x.a+1}/\x.old=true/\x.now=false:=⟨by unfold XS.kn;rw[if_neg (by rw[h];decide),if_pos h1],by simp[XS.old,h,h1],by simp[XS.now,h1]⟩
theorem XS.kn_no{x:XS}{a:Ac}(h:x.st=false)(h1:¬x.a<x.got.length)(h2:x.fr=0):x.kn a={x with st:=true,nx:=a}/\x.old=false/\x.now=false:=⟨by unfold XS.kn;rw[if_neg (by rw[h];decide),if_neg h1,if_pos h2],by simp[XS.old,h1],by simp[XS.now,h2]⟩
theorem XS.kn_now{x:XS}{a:Ac}(h:x.st=false)(h1:¬x.a<x.got.length)(h2:¬x.fr=0):x.kn a={x with fr:=x.fr-1}/\x.old=false/\x.now=true:=⟨by unfold XS.kn;rw[if_neg (by rw[h];decide),if_neg h1,if_neg h2],by simp[XS.old,h1],by simp[XS.now,h,h1,h2]⟩
end
end Go.Ct
namespace Go.Proofs.YtdnklbipddigbaaGreat
open Go.Proofs.Tryz (prog)
open Go Go.RowKit Go.Ct
section
section
variable{k:Cl}{bx bm:Nat}{x:XS}{dn:Bool}{rs:Rs}{D:List Nat}{A:Fr}{w:World}
theorem known_c(a:Ac)(ok:x.Ok)(hs:SF w D (xH k bx bm x dn rs) A [] (xW x) w):Calls prog 230 #[.pointer (some ⟨bx,0,none⟩),.agg ⟨a.cells⟩] w λ e w'=>∃q:Unit,e=.returned (.tuple #[.bool x.old,.bool x.now])/\True/\SF w D (xH k bx bm (x.kn a) dn rs) [] [] (xW (x.kn a)) w':=by
 have h1:=ok.lg;have h2:=ok.la;have h3:=ok.fr;refine enter Tryz.func230 Tryz.ntmps230 rfl rfl (xOpen hs) ?_;simp only[mkS];refine J0 ?_;refine j_box (λ x3=>?_);refine Kd8 ?_;refine Kc3 ?_;refine kif (λ c9=>?_) (λ c9=>?_);·refine J66 ?_;refine k_rt Tryz.results230 (λ w hw=>?_);obtain⟨e1,e2,e3⟩:=XS.kn_st (a:=a) c9;rw[e1,e2,e3];exact⟨(),rfl,trivial,hw.finH⟩
 ·refine J16 ?_;refine k_seq ?_;refine k_dq [0,1,2,3,4,5,6,7,8,9] ?_;refine Kf1 ?_;refine r_lss ?_;refine r_fin ?_;refine kif (λ c19=>?_) (λ c19=>?_);·refine J26 ?_;refine j_inc ?_;refine J61 ?_;refine J66 ?_;refine k_rt Tryz.results230 (λ w hw=>?_);obtain⟨e1,e2,e3⟩:=XS.kn_old (a:=a) c9 (by omega);rw[e1,e2,e3];exact⟨(),rfl,trivial,hw.finH⟩
  ·refine J16 ?_;refine J26 ?_;refine J50 ?_;refine kif (λ c31=>?_) (λ c31=>?_);·refine k_seq ?_;refine k_dp [(0,[]),(1,[]),(2,[]),(3,[]),(4,[]),(5,[2]),(6,[]),(7,[]),(8,[])] ?_;refine J17 ?_;refine r_load ?_;refine J4 ?_;refine r_store (h:=λ _=>?_);refine J4 ?_;refine r_own0 (i:=8) (hq:=(lSF λ _=>o_storePart (off:=36) (vs:=a.cells) rf atT rf rfl ag1 (Nat.le_of_ble_eq_true rfl) rf se2)) (h:=λ _=>?_);refine r_fin ?_;refine J66 ?_;refine k_rt Tryz.results230 (λ w hw=>?_);obtain⟨e1,e2,e3⟩:=XS.kn_no (a:=a) c9 (by omega) (by omega);rw[e1,e2,e3];exact⟨(),rfl,trivial,hw.finH⟩
   ·refine J83 ?_;refine j_dec ?_;refine J61 ?_;refine J66 ?_;refine k_rt Tryz.results230 (λ w hw=>?_);obtain⟨e1,e2,e3⟩:=XS.kn_now (a:=a) c9 (by omega) (by omega);rw[e1,e2,e3];exact⟨(),rfl,trivial,hw.finH⟩
theorem known_st(a:Ac)(ok:x.Ok)(h:x.st=true)(hs:SF w D (xH k bx bm x dn rs) A [] (xW x) w):Calls prog 230 #[.pointer (some ⟨bx,0,none⟩),.agg ⟨a.cells⟩] w λ e w'=>∃q:Unit,e=.returned (.tuple #[.bool false,.bool false])/\True/\SF w D (xH k bx bm x dn rs) [] [] (xW x) w':=by obtain⟨e1,e2,e3⟩:=XS.kn_st (a:=a) h;have:=known_c (k:=k) (bx:=bx) (bm:=bm) (dn:=dn) (rs:=rs) (D:=D) (A:=A) (w:=w) a ok hs;rw[e1,e2,e3] at this;exact this
theorem known_old(a:Ac)(ok:x.Ok)(h:x.st=false)(h1:x.a<x.got.length)(hs:SF w D (xH k bx bm x dn rs) A [] (xW x) w):Calls prog 230 #[.pointer (some ⟨bx,0,none⟩),.agg ⟨a.cells⟩] w λ e w'=>∃q:Unit,e=.returned (.tuple #[.bool true,.bool false])/\True/\SF w D (xH k bx bm {x with a:=x.a+1} dn rs) [] [] (xW {x with a:=x.a+1}) w':=by obtain⟨e1,e2,e3⟩:=XS.kn_old (a:=a) h h1;have:=known_c (k:=k) (bx:=bx) (bm:=bm) (dn:=dn) (rs:=rs) (D:=D) (A:=A) (w:=w) a ok hs;rw[e1,e2,e3] at this;exact this
theorem known_no(a:Ac)(ok:x.Ok)(h:x.st=false)(h1:¬x.a<x.got.length)(h2:x.fr=0)(hs:SF w D (xH k bx bm x dn rs) A [] (xW x) w):Calls prog 230 #[.pointer (some ⟨bx,0,none⟩),.agg ⟨a.cells⟩] w λ e w'=>∃q:Unit,e=.returned (.tuple #[.bool false,.bool false])/\True/\SF w D (xH k bx bm {x with st:=true,nx:=a} dn rs) [] [] (xW {x with st:=true,nx:=a}) w':=by obtain⟨e1,e2,e3⟩:=XS.kn_no (a:=a) h h1 h2;have:=known_c (k:=k) (bx:=bx) (bm:=bm) (dn:=dn) (rs:=rs) (D:=D) (A:=A) (w:=w) a ok hs;rw[e1,e2,e3] at this;exact this
theorem known_now(a:Ac)(ok:x.Ok)(h:x.st=false)(h1:¬x.a<x.got.length)(h2:¬x.fr=0)(hs:SF w D (xH k bx bm x dn rs) A [] (xW x) w):Calls prog 230 #[.pointer (some ⟨bx,0,none⟩),.agg ⟨a.cells⟩] w λ e w'=>∃q:Unit,e=.returned (.tuple #[.bool false,.bool true])/\True/\SF w D (xH k bx bm {x with fr:=x.fr-1} dn rs) [] [] (xW {x with fr:=x.fr-1}) w':=by obtain⟨e1,e2,e3⟩:=XS.kn_now (a:=a) h h1 h2;have:=known_c (k:=k) (bx:=bx) (bm:=bm) (dn:=dn) (rs:=rs) (D:=D) (A:=A) (w:=w) a ok hs;rw[e1,e2,e3] at this;exact this
theorem load_st(c:Int)(ok:x.Ok)(h:x.st=true)(hs:SF w D (xH k bx bm x dn rs) A [] (xW x) w):Calls prog 202 #[.pointer (some ⟨bx,0,none⟩),.int .i64 c] w λ e w'=>∃q:Unit,e=.returned (.int .i64 0)/\True/\SF w D (xH k bx bm x dn rs) [] [] (xW x) w':=by
 refine enter Tryz.func202 Tryz.ntmps202 rfl rfl (xOpen2 hs) ?_;simp only[mkS];refine Kf6 ?_;refine j_build ?_;refine j_ownF (cM (hs:=xH k bx bm x dn rs) (os:=xW x) (hc:=λ w hs=>known_st ⟨1,c,0,0⟩ ok h hs)) (λ x11 h11=>?_);refine Kb9 ?_;refine l_nil ?_;refine kif (λ c14=>?_) (λ c14=>?_);·exact nv c14
 ·try (exact abt)
  refine J16 ?_;refine J2 ?_;refine J59 ?_;(refine Ka3 ?_);refine Kd3 ?_;refine kif (λ c43=>?_) (λ c43=>?_)
  ·try (exact abt)
   refine J10 ?_;refine k_rv Tryz.results202 (λ w hw=>?_);exact⟨(),rfl,trivial,hw.finH⟩
  ·exact nv c43
theorem load_no(c:Int)(ok:x.Ok)(h:x.st=false)(h1:¬x.a<x.got.length)(h2:x.fr=0)(hs:SF w D (xH k bx bm x dn rs) A [] (xW x) w):Calls prog 202 #[.pointer (some ⟨bx,0,none⟩),.int .i64 c] w λ e w'=>∃q:Unit,e=.returned (.int .i64 0)/\True/\SF w D (xH k bx bm {x with st:=true,nx:=⟨1,c,0,0⟩} dn rs) [] [] (xW {x with st:=true,nx:=⟨1,c,0,0⟩}) w':=by
 refine enter Tryz.func202 Tryz.ntmps202 rfl rfl (xOpen2 hs) ?_;simp only[mkS];refine Kf6 ?_;refine j_build ?_;refine j_ownF (cM (hs:=xH k bx bm x dn rs) (os:=xW x) (hc:=λ w hs=>known_no ⟨1,c,0,0⟩ ok h h1 h2 hs)) (λ x11 h11=>?_);refine Kb9 ?_;refine l_nil ?_;refine kif (λ c14=>?_) (λ c14=>?_);·exact nv c14
 ·try (exact abt)
  refine J16 ?_;refine J2 ?_;refine J59 ?_;(refine Ka3 ?_);refine Kd3 ?_;refine kif (λ c43=>?_) (λ c43=>?_)
  ·try (exact abt)
   refine J10 ?_;refine k_rv Tryz.results202 (λ w hw=>?_);exact⟨(),rfl,trivial,hw.finH⟩
  ·exact nv c43
theorem load_old(c:Int)(ok:x.Ok)(h:x.st=false)(h1:x.a<x.got.length)(hs:SF w D (xH k bx bm x dn rs) A [] (xW x) w):Calls prog 202 #[.pointer (some ⟨bx,0,none⟩),.int .i64 c] w λ e w'=>∃q:Unit,e=.returned (.int .i64 (x.got.getD x.a 0))/\True/\SF w D (xH k bx bm {x with a:=x.a+1} dn rs) [] [] (xW {x with a:=x.a+1}) w':=by
 have hg:=ok.lg;refine enter Tryz.func202 Tryz.ntmps202 rfl rfl (xOpen2 hs) ?_;simp only[mkS];refine Kf6 ?_;refine j_build ?_;refine j_ownF (cM (hs:=xH k bx bm x dn rs) (os:=xW x) (hc:=λ w hs=>known_old ⟨1,c,0,0⟩ ok h h1 hs)) (λ x11 h11=>?_);refine Kb9 ?_;refine l_nil ?_;refine kif (λ c14=>?_) (λ c14=>?_);·exact nv c14
 ·try (exact abt)
  refine J16 ?_;refine J2 ?_;refine J59 ?_;refine j_un ?_;refine Kd3 ?_;refine kif (λ c43=>?_) (λ c43=>?_);·exact nv c43
  ·try (exact abt)
   refine J16 ?_;refine k_dq [0,1,2,3,4,5,6,7,8,9,10,11] ?_;refine J42 ?_;refine r_ownP (i:=8) (hq:=(o_subN (m:=x.a+1) (n:=1) rf rf (by omega) (by omega))) (h:=?_);refine r_ownQ (i:=9) (hq:=(o_indexR (m:=x.got.length) (k:=x.a+1-1) (lst:=x.got) rf rf sl1 on1 (.own .head) (by omega) (by omega))) (h:=?_);refine r_ownQ (i:=10) (hq:=(o_loadR (q:=x.a+1-1) (lst:=x.got) rf on1 (.own .head) (by omega))) (h:=?_);refine J7 ?_;refine k_rv Tryz.results202 (λ w hw=>?_);exact⟨(),by rw[Nat.add_sub_cancel];rfl,trivial,hw.finH⟩
theorem load_now(c:Int)(hc:c<=9223372036854775807)(ok:x.Ok)(h:x.st=false)(h1:¬x.a<x.got.length)(h2:¬x.fr=0)(hs:SF w D (xH k bx bm x dn rs) A [] (xW x) w):Calls prog 202 #[.pointer (some ⟨bx,0,none⟩),.int .i64 c] w λ e w'=>∃q:Option Addr×Nat,e=.returned (.int .i64 (cellV x.cs c))/\True/\SF w D (xH k bx bm {x with fr:=x.fr-1,acc:=up x.acc,got:=x.got++[cellV x.cs c],pg:=q.1,kg:=q.2,a:=x.a+1} dn rs) [] [] (xW {x with fr:=x.fr-1,acc:=up x.acc,got:=x.got++[cellV x.cs c],pg:=q.1,kg:=q.2,a:=x.a+1}) w':=by
 have hg:=ok.lg;have ha:=ok.la;have hlc:=ok.lc;refine enter Tryz.func202 Tryz.ntmps202 rfl rfl (xOpen2 hs) ?_;simp only[mkS];refine Kf6 ?_;refine j_build ?_;refine j_ownF (cM (hs:=xH k bx bm x dn rs) (os:=xW x) (hc:=λ w hs=>known_now ⟨1,c,0,0⟩ ok h h1 h2 hs)) (λ x11 h11=>?_);refine Kb9 ?_;refine l_nil ?_;refine kif (λ c14=>?_) (λ c14=>?_)
 ·try (exact abt)
  refine k_dp [(0,[]),(1,[]),(2,[]),(3,[]),(4,[]),(5,[]),(6,[]),(7,[]),(8,[]),(9,[]),(10,[]),(14,[]),(15,[]),(16,[]),(17,[]),(18,[]),(11,[5,17]),(12,[5,17]),(13,[17]),(19,[]),(20,[]),(21,[]),(22,[]),(23,[]),(24,[])] ?_;refine J17 ?_;refine J42 ?_;refine J67 ?_;refine r_ownP (i:=18) (hq:=(o_addN (m:=x.a) (n:=1) rf rf (by omega))) (h:=?_);refine r_ownF (i:=11) (hq:=(cM (hc:=λ w hs=>mLoad_c (L:=x.L) (cs:=x.cs) hs c hc (by omega)))) (h:=λ x26 h26=>?_);refine r_buildSlice (h:=λ x27=>?_);((refine r_own (i:=13) (hq:=(Loud.convOF (o_appR1 (l:=x.got) (v:=cellV x.cs c) (m:=x.got.length) rf rf .head rfl fin er1 sl1 (by omega)) co1)) (h:=λ x28=>?_);try (refine r_fact (λ h28=>?_))));refine J4 ?_;refine r_own0 (i:=21) (hq:=(by exact lSF λ _=>o_store rf atT wn rf on1 rf rf se2)) (h:=λ _=>?_);refine J4 ?_;refine r_own0 (i:=24) (hq:=(by exact lSF λ _=>o_store rf atT wn rf on1 rf rf se2)) (h:=λ _=>?_);refine r_fin ?_;refine J32 ?_;refine J59 ?_;(refine Ka3 ?_);refine Kd3 ?_;refine kif (λ c43=>?_) (λ c43=>?_);·exact nv c43
  ·try (exact abt)
   refine J16 ?_;refine k_dq [0,1,2,3,4,5,6,7,8,9,10,11] ?_;refine J42 ?_;refine r_ownP (i:=8) (hq:=(o_subN (m:=x.a+1) (n:=1) rf rf (by omega) (by omega))) (h:=?_);refine r_ownQ (i:=9) (hq:=(o_indexR (m:=x.got.length+1) (k:=x.a+1-1) (lst:=x.got++[cellV x.cs c]) rf rf sl1 on1 (.own .head) (by omega) (by rw[List.length_append,List.length_cons,List.length_nil];omega))) (h:=?_);refine r_ownQ (i:=10) (hq:=(o_loadR (q:=x.a+1-1) (lst:=x.got++[cellV x.cs c]) rf on1 (.own .head) (by rw[List.length_append,List.length_cons,List.length_nil];omega))) (h:=?_);refine J7 ?_;refine k_rv Tryz.results202 (λ w hw=>?_);rw[show x.got.length+1=(x.got++[cellV x.cs c]).length by simp] at hw;exact⟨x28,by rw[show(x.got++[cellV x.cs c]).getD (x.a+1-1) 0=cellV x.cs c by rw[show x.a+1-1=x.got.length by omega,gdg,List.getElem?_append_right (Nat.le_refl _)];simp];rfl,trivial,hw.finH⟩
 ·exact nv c14
end
end
end Go.Proofs.YtdnklbipddigbaaGreat
