/- Tries of worlds: READ, SETTLE, ROOT, HELP, DECIDE, GCAS, RDCSS keep the labels. -/
import Derived.Test.YtadnboagdhcedaaGreatDoorGPc2
import Derived.Test.YtadnboagdhcedaaGreatDoorGArS

set_option linter.unusedSimpArgs false
set_option linter.unusedVariables false
namespace Go.Proofs.YtadnboagdhcedaaGreatDoor
section
open Go.Ct
def w9(ro:Bool):CT:=if ro=true then .rort else .root
def bR(σ:Kw)(t:eQ):Prop:=1<=t.root/\t.root<=σ.cl/\σ.ct t.root=w9 t.ro
def mU(σ:Kw)(i:Int)(w:List Nat)(g:Int):Prop:=rI σ i w/\(σ.nd i).gen=g
section
variable{H:ByteArray->Nat}{Q:Rs->Kw->Prop}{σ τ υ:Kw}{i m p g:Int}{w:List Nat}{t:eQ}
theorem bR.up(h:bR σ t)(l:Le σ τ):bR τ t:=⟨h.1,by have:=h.2.1;have:=l.cl;omega,by rw[l.ct _ h.2.1];exact h.2.2⟩
theorem mU.up(h:mU σ i w g)(l:Le σ τ):mU τ i w g:=⟨h.1.up l,by rw[l.nd h.1.in.2];exact h.2⟩
theorem mU.in(h:mU σ i w g):1<=i/\i<=σ.len:=h.1.in
theorem mU.Yq(i1:Inv H σ)(h:mU σ i w g):lP σ (σ.ce (σ.nd i).main) w g:=by
 have hc:=i1.dI h.1.1
 have:=((i1.ce _ hc.1 hc.2.1).main i hc.2.2).2
 rwa [h.1.2,h.2] at this
theorem wc{cs:List Int}{c o:Int}(h1:1<=c)(h2:c<=cs.length)(h:¬iG cs c o):bW cs c≠o:=λ e=>h ⟨h1,h2,by unfold bW at e;rwa [if_pos ⟨h1,h2⟩] at e⟩
theorem Jh{n:Nv}{c:Int}{k:Int->Tr}(i0:Inv H σ)(hn:iX H σ n w g)(hc:R4 σ n c w g)
  (hk:∀υ r cl,Le σ υ->Inv H υ->r=((σ.len+1:Nat):Int)->υ.mm=σ.mm.push n c->υ.nd r=cO n cl->υ.way r=w->υ.gb r=g->1<=r->r<=υ.len->WT H Q (k r) υ):WT H Q (.alloc n c k) σ:=by
 obtain⟨υ,l2,i2,e2,e3,e4,e5⟩:=Vi i0 hn hc
 refine⟨υ,l2,i2,e2,hk υ _ σ.cl l2 i2 rfl e2 e3 e4 e5 (by omega) ?_⟩
 have:υ.len=σ.len+1:=by simp only[Kw.len,e2,Mm.push,List.length_append,List.length_cons,List.length_nil]
 omega
structure Lu(σ:Kw)(m p:Int):Prop where
 mkd:bU (σ.nd m)
 pk:bU (σ.nd p)
 pm:nU σ m p
 ce:σ.ce (σ.nd m).prev=p∨σ.ce (σ.nd m).prev=0∨((σ.nd (σ.ce (σ.nd m).prev)).kind=7/\(σ.nd (σ.ce (σ.nd m).prev)).bL=p)
theorem nU.up(i0:Inv H σ)(hm:bU (σ.nd m))(h:nU σ m p)(l:Le σ τ):nU τ m p:=by
 have hr:1<=m/\m<=σ.len:=gC hm
 exact⟨by rw[l.way m hr.2,l.gb m hr.2];exact h.1.up l,aV.up i0 h.1.1 h.2 l⟩
theorem Lu.up(i0:Inv H σ)(i1:Inv H τ)(h:Lu σ m p)(l:Le σ τ):Lu τ m p:=by
 have hr:1<=m/\m<=σ.len:=gC h.mkd
 have hp:1<=p/\p<=σ.len:=gC h.pk
 have hc:=i0.iK h.mkd
 have hx:=l.nxt hc.1 hc.2.1 hc.2.2
 refine⟨by rw[l.nd hr.2];exact h.mkd,by rw[l.nd hp.2];exact h.pk,h.pm.up i0 h.mkd l,?_⟩
 rw[l.nd hr.2]
 rcases h.ce with e|e|⟨e1,e2⟩
 ·rw[e] at hx
  rcases hx.2 h.pk with h1|h1|h1
  ·exact .inl h1
  ·exact .inr (.inl h1)
  ·exact .inr (.inr h1)
 ·rw[e] at hx
  exact .inr (.inl (hx.1 (iA (.inl (uO _)))))
 ·have e3:=hx.1 (iA (.inr (.inl e1)))
  rw[e3]
  rw[l.nd (cY (N:=σ.mm.nodes) (i:=σ.ce (σ.nd m).prev) (by rw[e1];decide)).2]
  exact .inr (.inr ⟨e1,e2⟩)
theorem Lu.cell(i0:Inv H σ)(h:Lu σ m p):1<=(σ.nd m).prev/\(σ.nd m).prev<=σ.cl/\σ.ct (σ.nd m).prev=.prev m:=i0.iK h.mkd
theorem Inv.desc(i0:Inv H σ){v:Int}(h:(σ.nd v).kind=8):v<=σ.len/\rI σ (σ.nd v).bL []/\rI σ (σ.nd v).new []/\1<=(σ.nd v).status/\(σ.nd v).status<=σ.cl/\σ.ct (σ.nd v).status=.stat v:=by
 have hr:1<=v/\v<=σ.len:=cY (N:=σ.mm.nodes) (i:=v) (by rw[h];decide)
 have hn:=i0.nd v hr.1 hr.2
 have h8:=hn.k8 h
 exact⟨hr.2,h8.1,h8.2.1,h8.2.2.1,hn.bd.status,h8.2.2.2⟩
theorem bR.rw(hT:bR σ t)(hr:t.ro=false):σ.ct t.root=.root:=by rw[hT.2.2,hr];rfl
theorem Jl{v s:Int}(i0:Inv H σ)(h:(σ.nd v).kind=8)(hs:s=1∨s=2){o:Int}(l1:Le σ τ)(i1:Inv H τ):Rm τ (σ.nd v).status o s:=by
 have hd:=i0.desc h
 have e:τ.ct (σ.nd v).status=.stat v:=by rw[l1.ct _ hd.2.2.2.2.1];exact hd.2.2.2.2.2
 refine⟨by omega,by have:=i1.two;omega,λ i' h=>?_,λ m' h=>?_,λ d h=>.inr hs,λ h=>?_,λ h=>?_⟩<;>rw[e] at h<;>cases h
theorem Us(hT:bR σ t)(i0:Inv H σ):σ.ce t.root<=σ.len/\(rI σ (σ.ce t.root) []∨((σ.nd (σ.ce t.root)).kind=8/\t.ro=false)):=by
 have h:=i0.ce _ hT.1 hT.2.1
 refine⟨h.hi,?_⟩
 cases hr:t.ro with
 | true=>exact .inl (h.rort (by rw[hT.2.2,hr];rfl))
 | false =>
  rcases h.root (hT.rw hr) with h1|h1
  ·exact .inl h1
  ·exact .inr ⟨h1,rfl⟩
theorem bR.roI(hT:bR σ t)(i0:Inv H σ)(hr:t.ro=true):rI σ (σ.ce t.root) []:=(i0.ce _ hT.1 hT.2.1).rort (by rw[hT.2.2,hr];rfl)
theorem Ld{n o:Int}(i0:Inv H σ)(hi:mU σ i w g)(hn:lP σ n w g)(l1:Le σ τ)(i1:Inv H τ):Rm τ (σ.nd i).main o n:=by
 have hc:=i0.dI hi.1.1
 have e:τ.ct (σ.nd i).main=.main i:=by rw[l1.ct _ hc.2.1];exact hc.2.2
 have hn1:=hn.up l1
 refine⟨by have:=hn1.in;omega,hn1.in.2,λ i' h=>?_,λ m' h=>?_,λ d h=>?_,λ h=>?_,λ h=>?_⟩<;>rw[e] at h
 ·cases h
  have:=hi.up l1
  rw[this.1.2,this.2];exact hn1
 ·cases h
 ·cases h
 ·cases h
 ·cases h
end
end

/- Tries of worlds: RENEW, CLEAN, FIND, UP keep the labels. -/
section
open Go.Ct
theorem Vs(h:Nat)(level:Int):∃k:Nat,k<64/\fM h level=(k:Int):=by
 unfold fM
 try dsimp only
 split
 ·exact⟨0,by decide,rfl⟩
 ·exact⟨_,tM _ _,rfl⟩
theorem yZ{h l:Nat}(hl:l<=10):fM h ((l:Nat):Int)=((sl h l:Nat):Int):=by
 unfold fM
 rw[if_neg (by omega),Int.toNat_natCast]
theorem Fh{h k:Nat}{w:List Nat}(hu:fO h (w++[k])):fO h w:=λ j hj=>by
 have:=hu j (by simp;omega)
 rw[this,fQ,List.getElem?_append_left hj,<- fQ]
theorem Ub(h:Nat):fO h []:=λ k hk=>absurd hk (Nat.not_lt_zero k)
theorem qR{h:Nat}{w:List Nat}(hu:fO h w):fO h (w++[sl h w.length]):=λ j hj=>by
 rw[List.length_append,List.length_singleton] at hj
 by_cases e:j<w.length
 ·rw[hu j e,fQ,fQ,List.getElem?_append_left e]
 ·have:j=w.length:=by omega
  subst this
  simp[fQ]
theorem S3{xs:List Int}{p:Nat}{r b:Int}(hp:p<xs.length)(h:oG xs p r=[b]):b=r/\xs.length=1:=by
 have hl:=sJ hp r
 rw[h] at hl
 have h1:xs.length=1:=by simpa using hl.symm
 have hp0:p=0:=by omega
 subst hp0
 have:=Iv (xs:=xs) (p:=0) hp r 0
 rw[h,if_pos rfl] at this
 exact⟨by simpa using this,h1⟩
section
variable{H:ByteArray->Nat}{Q:Rs->Kw->Prop}{σ τ υ:Kw}{i m p g:Int}{w:List Nat}{t:eQ}
theorem kK{v:Nv}{k b:Int}(h:jF v k=some b):v.kind=3:=by
 unfold jF at h
 have:=xC (show(G6 v.nd v.xs v.ys v.bm.toNat k).isSome=true by rw[h];rfl)
 exact this.1.1
theorem lS{r cl:Int}{n:Nv}{c:Nat}(hm:bU n)(e:σ.nd r=cO n c)(hw:σ.way r=w)(hg:σ.gb r=g):lP σ r w g:=⟨by rw[e];exact hm,hw,by rw[hg];exact Int.le_refl _⟩
theorem uB{n:Nv}(hn:bU n)(h:lP σ m w g)(hs:aV σ m):R4 σ n m w g :=
 ⟨⟨by have:=h.in;omega,h.in.2⟩,λ k=>by unfold bU at hn;omega,λ _=>.inr ⟨h,hs⟩,λ k=>by unfold bU at hn;omega⟩
theorem jV.y5{b:Nat}{xs:List Int}(h:jV σ m w g b xs)(l:Le σ τ):jV τ m w g b xs:=by
 have hr:=cY (N:=σ.mm.nodes) (i:=m) (by have:=h.kd;simp only[Kw.nd] at this;rw[this];decide)
 have e:=l.nd hr.2
 refine⟨by rw[e];exact h.kd,by rw[e];exact h.bm,by rw[e];exact h.el,by rw[e];exact h.cv,h.bv,h.wl,λ k hk r hr=>(h.br k hk r hr).up l,λ h0=>⟨(h.ne h0).1,λ b hb=>?_⟩⟩
 have:=(h.ne h0).2 b hb
 rw[l.nd (cY (N:=σ.mm.nodes) (i:=b) (by rw[this];decide)).2];exact this
theorem Vr{b:Nat}{xs:List Int}(i0:Inv H σ)(hc:jV σ m w g b xs){k:Nat}(hk:k<64){o r:Int}(ho:jF (σ.nd m) (k:Int)=some o)(hr:Hy σ (w++[k]) g r)(h0:0<w.length->xs.length=1->(σ.nd r).kind=2):iX H σ (Np (σ.nd m) (k:Int) r) w g:=by
 obtain⟨e,h1,h2,h3⟩:=hc.up hk ho hr.in.1
 rw[e]
 refine lM i0 h1 (λ j hj v hv=>?_) hc.wl (λ hw=>⟨λ e=>?_,λ b hb=>?_⟩)
 ·rw[h2 j hj] at hv
  unfold Ff at hv
  split at hv
  ·rename_i ej;cases hv;rw[ej];exact hr
  ·exact hc.br j hj v hv
 ·have:=sJ h3 r
  rw[e] at this
  simp at this
  omega
 ·obtain⟨e1,e2⟩:=S3 h3 hb
  rw[e1];exact h0 hw e2
theorem L8{b:Nat}{xs:List Int}(hc:jV σ m w g b xs){k:Nat}(hk:k<64){o r:Int}(ho:jF (σ.nd m) (k:Int)=some o)(hr:1<=r):(Np (σ.nd m) (k:Int) r).kind=3:=by
 rw[(hc.up hk ho hr).1];rfl
theorem mU.Cd(i0:Inv H σ)(h:mU σ i w g):1<=g/\g<=σ.mm.gen/\w.length<=11:=by
 have hn:=i0.nd i h.in.1 h.in.2
 have h2:=hn.k2 h.1.1
 have hv:=hn.valid.2.2.2.2
 have hg:=hn.gen
 rw[h.2] at hg
 refine⟨?_,hg,by rw[<- h.1.2];exact h2.1⟩
 have hk:=h.1.1
 rcases hv with h|h|h|h|h|h|h
 ·exact absurd (hk.symm.trans h) (by decide)
 ·have:=h.2;rw[<- ‹mU σ i w g›.2];exact this
 ·exact absurd (hk.symm.trans h.1) (by decide)
 ·rcases h.1 with h|h<;>exact absurd (hk.symm.trans h) (by decide)
 ·exact absurd (hk.symm.trans h.1) (by decide)
 ·exact absurd (hk.symm.trans h.1) (by decide)
 ·exact absurd (hk.symm.trans h.1) (by decide)
theorem Vv{K:Int->Tr}{g':Int}(i0:Inv H σ)(h1:1<=g)(h2:g<=σ.mm.gen)(hw:w.length<=11)(hm:lP σ m w g')(hg:g'<=g)(hK:∀τ j,Le σ τ->Inv H τ->mU τ j w g->WT H Q (K j) τ):WT H Q (.alloc (lG g) m K) σ :=
 Jh (w:=w) (g:=0) i0 (yR hw h1 h2) ⟨⟨by have:=hm.in;omega,hm.in.2⟩,λ _=>hm.le hg,λ k=>absurd k (iA (.inr (.inr (.inl rfl)))),λ k=>cX (a:=2) (b:=8) k⟩ λ υ j cl l1 i1 _ _ e1 e2 _ _ _=>hK υ j l1 i1 ⟨⟨by rw[e1];rfl,e2⟩,by rw[e1];rfl⟩
theorem Zv{v:Nv}(h:v.kind=5):sr v=Cx v.hash v.key v.val:=by
 unfold sr Eb
 rw[if_pos (show v.nd.kind=5 from h)]
 rfl
theorem Hi{b:Nat}{xs:List Int}(h:BV b xs):Iq (Ax b xs)=if xs.length=1 then some (xs.getD 0 0) else none:=by
 have hcv:CV (Ax b xs).nd xs []:=by
  have:=oi h (none,0)
  exact vv.1 this
 unfold Iq Vj
 by_cases e:xs.length=1
 ·rw[if_pos e,if_pos ⟨hcv,e⟩];rfl
 ·rw[if_neg e,if_neg λ h=>e h.2]
theorem Wo{b:Nat}{xs:List Int}{s:Nv}{level:Int}(h:BV b xs):oy (Ax b xs) level s=if xs.length=1/\0<level/\s.kind=4 then zr s else Ax b xs:=by
 have e:M5 (Ax b xs).nd (Ax b xs).xs (Ax b xs).ys level s.nd=decide (xs.length=1/\0<level/\s.kind=4):=by
  unfold M5
  have h1:Vj (Ax b xs).nd (Ax b xs).xs (Ax b xs).ys=Iq (Ax b xs):=rfl
  rw[h1,Hi h]
  refine decide_eq_decide.2 ⟨λ h=>⟨?_,h.2⟩,λ h=>⟨?_,h.2⟩⟩
  ·have:=h.1
   split at this
   ·assumption
   ·cases this
  ·rw[if_pos h.1];rfl
 unfold oy
 rw[e]
 by_cases hx:xs.length=1/\0<level/\s.kind=4
 ·rw[if_pos hx,if_pos (decide_eq_true hx)]
 ·rw[if_neg hx,if_neg (by rw[decide_eq_false hx];decide)]
structure td(H:ByteArray->Nat)(v:Nv):Prop where
 sz:v.key.size<=64
 ha:H v.key=v.hash.toNat
 hn:v.hash=((v.hash.toNat:Nat):Int)
 hl:v.hash.toNat<18446744073709551616
theorem Inv.leaf(i0:Inv H σ){s:Int}(h:(σ.nd s).kind=4∨(σ.nd s).kind=5):td H (σ.nd s):=by
 have hr:=cY (N:=σ.mm.nodes) (i:=s) (by rcases h with h|h<;>(simp only[Kw.nd] at h;rw[h];decide))
 have hn:=i0.nd s hr.1 hr.2
 obtain⟨b,hb1,hb2⟩:=hn.bd.hash
 refine⟨?_,?_,by omega,by omega⟩
 ·have hv:=hn.valid.2.2.2.2
  rcases hv with h'|h'|h'|h'|h'|h'|h'
  ·have:(σ.nd s).kind=1:=h';omega
  ·have:(σ.nd s).kind=2:=h'.1;omega
  ·have:(σ.nd s).kind=3:=h'.1;omega
  ·exact h'.2
  ·have:(σ.nd s).kind=6:=h'.1;omega
  ·have:(σ.nd s).kind=8:=h'.1;omega
  ·have:(σ.nd s).kind=7:=h'.1;omega
 ·rcases h with h|h
  ·exact hn.k4 h
  ·exact(hn.k5 h).2.2.1
theorem da{v:Nv}(h:td H v):Cx v.hash v.key v.val=Cx ((v.hash.toNat:Nat):Int) v.key v.val:=by rw[<- h.hn]
end
end

/- Tries of worlds: the lists of the lowest level; the nodes for two keys. -/
section
open Go.Ct
theorem pG{l:List Pr}:Aj l↔∀p∈l,p.1.size<=64:=by
 constructor
 ·intro h p hp
  obtain⟨i,hi,e⟩:=List.mem_iff_getElem.1 hp
  have:=h i hi
  rw[gF hi,e] at this
  exact this
 ·intro h i hi
  rw[gF hi]
  exact h _ (List.getElem_mem hi)
theorem Wj{a b:Nat}(ha:a<18446744073709551616)(hb:b<18446744073709551616)(h:∀j,j<11->sl a j=sl b j):a=b:=by
 have key:∀d j,j+d=11->a >>> (6*j)=b >>> (6*j):=by
  intro d
  induction d with
  | zero =>
   intro j hj
   have hj:j=11:=by omega
   subst hj
   rw[Nat.shiftRight_eq_div_pow,Nat.shiftRight_eq_div_pow,Nat.div_eq_of_lt (by omega),Nat.div_eq_of_lt (by omega)]
  | succ d ih =>
   intro j hj
   have h1:=ih (j+1) (by omega)
   have h2:=h j (by omega)
   unfold sl at h2
   rw[<- I7,<- I7] at h1
   omega
 have:=key 11 0 rfl
 simpa using this
theorem Xf{a b:Nat}{w:List Nat}(ha:a<18446744073709551616)(hb:b<18446744073709551616)(h1:fO a w)(h2:fO b w)(hw:w.length=11):a=b:=Wj ha hb λ j hj=>by rw[h1 j (by omega),h2 j (by omega)]
section
variable{H:ByteArray->Nat}{Q:Rs->Kw->Prop}{σ τ υ:Kw}{i m p g:Int}{w:List Nat}{t:eQ}
structure W3(H:ByteArray->Nat)(σ:Kw)(m:Int)(w:List Nat)(h:Nat):Prop where
 kd:(σ.nd m).kind=6
 hs:(σ.nd m).hash=((h:Nat):Int)
 hl:h<18446744073709551616
 lv:LV (σ.nd m).nd (σ.nd m).xs (σ.nd m).ys
 two:2<=(σ.nd m).ys.length
 sa:SA (σ.nd m).ys
 sh:∀p∈(σ.nd m).ys,p.1.size<=64
 ha:∀p∈(σ.nd m).ys,H p.1=h
 wl:w.length=11
 un:fO h w
theorem lP.kj(i0:Inv H σ)(h:lP σ m w g)(k:(σ.nd m).kind=6):W3 H σ m w (σ.nd m).hash.toNat:=by
 have hr:=h.in
 have hn:=i0.nd m hr.1 hr.2
 obtain⟨h1,h2,h3,_⟩:=hn.k6 k
 obtain⟨b,hb1,hb2⟩:=hn.bd.hash
 have hv:=hn.valid.2.2.2.2
 have hl:2<=(σ.nd m).ys.length/\ir (σ.nd m).ys/\Aj (σ.nd m).ys:=by
  rcases hv with h'|h'|h'|h'|h'|h'|h'
  ·have:(σ.nd m).kind=1:=h';omega
  ·have:(σ.nd m).kind=2:=h'.1;omega
  ·have:(σ.nd m).kind=3:=h'.1;omega
  ·rcases h'.1 with h''|h''
   ·have:(σ.nd m).kind=4:=h'';omega
   ·have:(σ.nd m).kind=5:=h'';omega
  ·exact h'.2
  ·have:(σ.nd m).kind=8:=h'.1;omega
  ·have:(σ.nd m).kind=7:=h'.1;omega
 rw[h.2.1] at h1 h2
 exact⟨k,by omega,by omega,⟨k,hn.valid⟩,hl.1,nX.1 hl.2.1,pG.1 hl.2.2,h3,h1,h2⟩
theorem rq(i0:Inv H σ){h:Nat}(hl:W3 H σ m w h){k:ByteArray}{u:Int}(hk:k.size<=64)(hH:H k=h):bU (ox (σ.nd m) k u)/\iX H σ (ox (σ.nd m) k u) w g:=by
 have e:ox (σ.nd m) k u=Qw ((h:Nat):Int) (kS (σ.nd m).ys k u):=by
  unfold ox jI Jm
  rw[if_pos ⟨hl.lv,hk⟩,if_pos hl.sa,hl.hs]
  rfl
 rw[e]
 refine⟨.inr (.inr rfl),Co i0 ?_ (nX.2 (uC hl.sa)) (pG.2 λ p hp=>?_) (λ p hp=>?_) hl.hl hl.wl hl.un⟩
 ·rw[uD hl.sa]
  have:=hl.two
  (try dsimp only);split<;>omega
 ·rcases xK hp with rfl|hp
  ·exact hk
  ·exact hl.sh p hp
 ·rcases xK hp with rfl|hp
  ·exact hH
  ·exact hl.ha p hp
theorem oq(i0:Inv H σ){h:Nat}(hl:W3 H σ m w h){k:ByteArray}(hf:(dA (σ.nd m).ys k).isSome=true):bU (cf (σ.nd m) k)/\iX H σ (cf (σ.nd m) k) w g:=by
 have hf2:(pB (σ.nd m).ys k).isSome=true:=by unfold dA at hf;rwa [if_pos hl.sa] at hf
 have hlen:=Jo (k:=k) hl.sa
 rw[if_pos hf2] at hlen
 have hmem:∀p∈gO (σ.nd m).ys k,p∈(σ.nd m).ys:=λ p hp=>(List.mem_filter.1 hp).1
 have htwo:=hl.two
 by_cases h1:(gO (σ.nd m).ys k).length=1
 ·have e:cf (σ.nd m) k=Vb ((h:Nat):Int) ((gO (σ.nd m).ys k).getD 0 (⟨#[]⟩,0)).1 ((gO (σ.nd m).ys k).getD 0 (⟨#[]⟩,0)).2:=by
   unfold cf nY pR
   rw[if_pos ⟨hl.lv,hf⟩,if_pos hl.sa,hl.hs]
   unfold Ja Ej
   dsimp only
   rw[if_pos h1,if_pos h1]
   rfl
  rw[e]
  have hp:(gO (σ.nd m).ys k).getD 0 (⟨#[]⟩,0)∈(σ.nd m).ys:=hmem _ (by rw[gF (by omega)];exact List.getElem_mem _)
  exact⟨.inr (.inl rfl),C8 i0 (hl.sh _ hp) (hl.ha _ hp) hl.hl (by rw[hl.wl];decide) (by rw[hl.wl];decide) hl.un⟩
 ·have e:cf (σ.nd m) k=Qw ((h:Nat):Int) (gO (σ.nd m).ys k):=by
   unfold cf nY pR
   rw[if_pos ⟨hl.lv,hf⟩,if_pos hl.sa,hl.hs]
   unfold Ja Ej
   dsimp only
   rw[if_neg h1,if_neg h1]
   rfl
  rw[e]
  exact⟨.inr (.inr rfl),Co i0 (by omega) (nX.2 (tP k hl.sa)) (pG.2 λ p hp=>hl.sh p (hmem p hp)) (λ p hp=>hl.ha p (hmem p hp)) hl.hl hl.wl hl.un⟩
def rE(h l:Nat):List Nat:=(List.range l).map (sl h)
theorem eM(h l:Nat):(rE h l).length=l:=by simp[rE]
theorem Fu(h l:Nat):rE h (l+1)=rE h l++[sl h l]:=by simp[rE,List.range_succ]
theorem qE(h l:Nat):fO h (rE h l):=λ k hk=>by
 rw[eM] at hk
 simp[rE,fQ,hk]
theorem gh{h:Nat}{w:List Nat}(hu:fO h w):w=rE h w.length:=by
 refine List.ext_getElem (by rw[eM]) λ k h1 h2=>?_
 have:=hu k h1
 rw[fQ,List.getElem?_eq_getElem h1] at this
 simp only[rE,List.getElem_map,List.getElem_range]
 exact this.symm
theorem Tx{a b l:Nat}(hl:l<=jM a b):fO a (rE b l):=λ k hk=>by
 rw[eM] at hk
 rw[<- qE b l k (by rw[eM];exact hk)]
 exact Mk (by omega)
theorem Hl:BV 0 []:=⟨by decide,by decide,λ i hi=>absurd hi (Nat.not_lt_zero i)⟩
theorem pE:∀k,eE 0 k=0
 | 0=>rfl
 | k+1=>by simp only[eE,pE k,Nat.zero_testBit];rfl
theorem Zm{k:Nat}(hk:k<64){r:Int}(hr:1<=r):BV (dB 0 (k:Int)) [r]/\∀j,j<64->∀v,nT (dB 0 (k:Int)) [r] j=some v->j=k/\v=r:=by
 rw[nJ 0 hk]
 have h:=Cn Hl hk (by simp) hr
 rw[pE,show tX [] 0 r=[r] from rfl] at h
 refine⟨h.1,λ j hj v hv=>?_⟩
 rw[h.2 j hj] at hv
 unfold Ff at hv
 split at hv
 ·cases hv;exact⟨by assumption,rfl⟩
 ·simp[nT] at hv
theorem nl{k l:Nat}(hk:k<64)(hl:l<64)(hne:k≠l){x s:Int}(hx:1<=x)(hs:1<=s):BV (dB (dB 0 (k:Int)) (l:Int)) (two k l x s)/\∀j,j<64->∀v,nT (dB (dB 0 (k:Int)) (l:Int)) (two k l x s) j=some v->(j=k/\v=x)∨(j=l/\v=s):=by
 have h1:=Zm hk hx
 rw[nJ 0 hk] at h1 ⊢
 rw[nJ _ hl]
 have hb:(0 ||| 2^k).testBit l=false:=by rw[wS];simp;omega
 have h:=Cn h1.1 hl hb hs
 have hc:eE (0 ||| 2^k) l=if k<l then 1 else 0:=by
  have:=wX (b:=0) (b':=0 ||| 2^k) (i:=k) (by simp) (λ j _=>wS 0 k j) l (by omega)
  rw[this,pE];omega
 have e:tX [x] (eE (0 ||| 2^k) l) s=two k l x s:=by
  rw[hc]
  unfold two
  by_cases hkl:k<l
  ·rw[if_pos hkl,if_pos hkl];rfl
  ·rw[if_neg hkl,if_neg hkl];rfl
 rw[e] at h
 refine⟨h.1,λ j hj v hv=>?_⟩
 rw[h.2 j hj] at hv
 unfold Ff at hv
 split at hv
 ·cases hv;exact .inr ⟨by assumption,rfl⟩
 ·exact .inl (h1.2 j hj v hv)
theorem K7:∀(a b:List NI) (r:Int) (K:Int->Tr),xT (a++b) r K=xT a r λ r=>xT b r K
 | [],_,_,_=>rfl
 | x::a,b,r,K=>by simp only[List.cons_append,xT,K7 a b]
theorem oQ{n:Nv}(i0:Inv H σ)(h2:n.kind≠2):R4 σ n 0 w g:=⟨⟨Int.le_refl _,bE _⟩,λ k=>absurd k h2,λ _=>.inl rfl,λ _=>rfl⟩
theorem bh{p q:Pr}(hne:p.1≠q.1):2<=(A4 [p,q]).length/\SA (A4 [p,q])/\∀r∈A4 [p,q],r=p∨r=q:=by
 refine⟨?_,W2 _,λ r hr=>?_⟩
 ·have h1:A4 [p]=[p]:=rfl
  rw[show [p,q]=[p]++[q] from rfl,sY,h1,uD (by simp[SA])]
  have:pB [p] q.1=none:=oD λ r hr=>by rw[List.mem_singleton.1 hr];exact hne
  rw[this]
  simp
 ·rw[show [p,q]=[p]++[q] from rfl,sY] at hr
  rcases xK hr with h|h
  ·exact .inr h
  ·have h1:A4 [p]=[p]:=rfl
   rw[h1] at h
   exact .inl (List.mem_singleton.1 h)
theorem P6{x:Int}{h0 h:Nat}{p:Pr}{k:ByteArray}{u g:Int}:∀(n lvl:Nat),∃a:NI,∀f,∃l,dN x h0 h p k u g f n lvl=a::l
 | 0,lvl=>by
  by_cases e:lvl=11
  ·exact⟨Bv h (A4 [p,(k,u)]),λ f=>⟨[],by unfold dN;rw[if_pos e]⟩⟩
  ·exact⟨tU h k u,λ f=>⟨_,by unfold dN;rw[if_neg e]⟩⟩
 | n+1,lvl=>by
  obtain⟨a,ha⟩:=P6 (x:=x) (h0:=h0) (h:=h) (p:=p) (k:=k) (u:=u) (g:=g) n (lvl+1)
  refine⟨a,λ f=>?_⟩
  obtain⟨l,hl⟩:=ha f
  exact⟨_,by unfold dN;rw[hl];rfl⟩
end
end

/- The order of keys. -/
end Go.Proofs.YtadnboagdhcedaaGreatDoor
namespace Go.Ct
section
open Go Go.RowKit
end
end Go.Ct
namespace Go.Proofs.YtadnboagdhcedaaGreatDoor
section
open Go Go.RowKit Go.Ct
end

/- Tries that keep the labels: their I-nodes and their contents. -/
section
open Go.RowKit Go.Ct
section
variable{H:ByteArray->Nat}{σ:Kw}{i m p g:Int}{w:List Nat}{t:eQ}
theorem Hh(i0:Inv H σ)(hi:mU σ i w g):∃p,eA σ.mm.nodes σ.mm.cs i=some p/\lP σ p w g:=by
 have hm:=hi.Yq i0
 have hc:=i0.iK hm.1
 have hp:=(i0.ce _ hc.1 hc.2.1).prev _ hc.2.2
 have e1:nS σ.mm.nodes σ.mm.cs i=σ.ce (σ.nd i).main:=rfl
 have e2:iE σ.mm.nodes σ.mm.cs i=σ.ce (σ.nd (σ.ce (σ.nd i).main)).prev:=rfl
 have e3:lY σ.mm.nodes σ.mm.cs i=if(σ.nd (iE σ.mm.nodes σ.mm.cs i)).kind=7 then(σ.nd (iE σ.mm.nodes σ.mm.cs i)).bL else iE σ.mm.nodes σ.mm.cs i:=rfl
 unfold eA
 rw[if_pos ⟨hi.1.1,by rw[e1];exact hm.1⟩]
 have key:∀q,nU σ (σ.ce (σ.nd i).main) q->lP σ q w g:=λ q hq=>by have:=hq.1;rw[hm.2.1] at this;exact this.le hm.2.2
 by_cases h0:iE σ.mm.nodes σ.mm.cs i=0
 ·rw[if_pos h0,e1]
  exact⟨_,rfl,hm⟩
 ·rw[if_neg h0,e3]
  rw[e2] at h0 ⊢
  rcases hp.2 with h|h|h
  ·exact absurd h h0
  ·have hk:=h.1.1
   rw[if_neg (bU.ne0 hk).2.1,if_pos hk]
   exact⟨_,rfl,key _ h⟩
  ·rw[if_pos h.1,if_pos h.2.1.1]
   exact⟨_,rfl,key _ h.2⟩
theorem bz(i0:Inv H σ)(hT:bR σ t):∃r,fA σ.mm.nodes σ.mm.cs t.root=some r/\rI σ r []:=by
 have hv:=(Us hT i0).2
 have e:rL σ.mm.nodes σ.mm.cs t.root=if(σ.nd (σ.ce t.root)).kind=8 then(if σ.ce (σ.nd (σ.ce t.root)).status=1 then(σ.nd (σ.ce t.root)).new else(σ.nd (σ.ce t.root)).bL) else σ.ce t.root:=rfl
 have key:∀r,rL σ.mm.nodes σ.mm.cs t.root=r->rI σ r []->∃r,fA σ.mm.nodes σ.mm.cs t.root=some r/\rI σ r []:=λ r er hr=>⟨r,by unfold fA;rw[er];exact if_pos hr.1,hr⟩
 rcases hv with h|h
 ·exact key _ (e.trans (if_neg (by rw[h.1];decide))) h
 ·have hd:=i0.desc h.1
  by_cases hs:σ.ce (σ.nd (σ.ce t.root)).status=1
  ·exact key _ (e.trans ((if_pos h.1).trans (if_pos hs))) hd.2.2.1
  ·exact key _ (e.trans ((if_pos h.1).trans (if_neg hs))) hd.2.1
theorem lP.xh(i0:Inv H σ)(h:lP σ m w g)(h3:(σ.nd m).kind≠3):(σ.nd m).xs=[]:=by
 have hn:=i0.nd m h.in.1 h.in.2
 have he:(σ.nd m).xs=(σ.nd m).nd.fI (σ.nd m).xs:=congrArg Nv.xs (wD.1 hn.valid.1)
 rw[he]
 unfold Nd.fI
 exact if_neg (by simpa[Nv.nd] using h3)
theorem jV.lof{b:Nat}{xs:List Int}(h:jV σ m w g b xs):oA (nT b xs) 64=xs:=(Nk h.bv).2
def og(σ:Kw)(w:List Nat)(j:Int):Prop:=∃v,σ.way j=w++v/\(σ.nd j).kind=2/\(eA σ.mm.nodes σ.mm.cs j).isSome=true
theorem og.up{k:Nat}{j:Int}(h:og σ (w++[k]) j):og σ w j:=by
 obtain⟨v,h1,h2⟩:=h
 exact⟨k::v,by rw[h1,List.append_assoc];rfl,h2⟩
theorem Rl{a b:Nat}{w u v:List Nat}(h:w++[a]++u=w++[b]++v):a=b:=by
 rw[List.append_assoc,List.append_assoc] at h
 have:=List.append_cancel_left h
 simpa using(List.cons.inj this).1
theorem Zu(i0:Inv H σ):∀(n:Nat) (i:Int) (w:List Nat) (g:Int) (l:List Int),mU σ i w g->12<=w.length+n->(∀j∈l,¬∃v,σ.way j=w++v)->∃r,Ad σ.mm.nodes σ.mm.cs n i l=some (l++r)/\(∀j∈r,og σ w j)/\r.Nodup
 | 0,i,w,g,l,hi,hn,_=>by have:=(hi.Cd i0).2.2;omega
 | n+1,i,w,g,l,hi,hn,hl=>by
  obtain⟨p,hp,hm⟩:=Hh i0 hi
  have hbi:og σ w i:=⟨[],by rw[hi.1.2,List.append_nil],hi.1.1,by rw[hp];rfl⟩
  unfold Ad
  rw[if_neg (λ h=>hl i h ⟨[],by rw[hi.1.2,List.append_nil]⟩),hp]
  show ∃r,jB σ.mm.nodes (Ad σ.mm.nodes σ.mm.cs n) (σ.nd p).xs (l++[i])=some (l++r)/\_
  by_cases h3:(σ.nd p).kind=3
  ·have hc:=hm.kY i0 h3
   have key:∀k,k<=64->∃r,jB σ.mm.nodes (Ad σ.mm.nodes σ.mm.cs n) (oA (nT (σ.nd p).bm.toNat (σ.nd p).xs) k) (l++[i])=some (l++[i]++r)/\(∀j∈r,∃k',k'<k/\og σ (w++[k']) j)/\r.Nodup:=by
    intro k
    induction k with
    | zero=>intro _;exact⟨[],by simp[oA,jB],(λ j hj=>nomatch hj),List.nodup_nil⟩
    | succ k ih =>
     intro hk
     obtain⟨r,h1,h2,h4⟩:=ih (by omega)
     simp only[oA]
     rw[tH,h1]
     cases hmo:nT (σ.nd p).bm.toNat (σ.nd p).xs k with
     | none=>exact⟨r,by simp[jB],(λ j hj=>by obtain⟨k',h5,h6⟩:=h2 j hj;exact⟨k',by omega,h6⟩),h4⟩
     | some b =>
      have hb:=hc.br k (by omega) b hmo
      show ∃r',jB σ.mm.nodes (Ad σ.mm.nodes σ.mm.cs n) [b] (l++[i]++r)=some (l++[i]++r')/\(∀j∈r',∃k',k'<k+1/\og σ (w++[k']) j)/\r'.Nodup
      rcases hb with hb|hb
      ·refine⟨r,?_,(λ j hj=>by obtain⟨k',h5,h6⟩:=h2 j hj;exact⟨k',by omega,h6⟩),h4⟩
       simp only[jB]
       rw[if_pos hb.1]
      ·have hbg:mU σ b (w++[k]) (σ.nd b).gen:=⟨⟨hb.1,hb.2.1⟩,rfl⟩
       obtain⟨r2,h5,h6,h7⟩:=Zu i0 n b (w++[k]) _ (l++[i]++r) hbg (by rw[List.length_append,List.length_singleton];omega) (λ j hj=>by
        rintro ⟨v,hv⟩
        rcases List.mem_append.1 hj with hj|hj
        ·rcases List.mem_append.1 hj with hj|hj
         ·exact hl j hj ⟨k::v,by rw[hv,List.append_assoc];rfl⟩
         ·rw[List.mem_singleton.1 hj,hi.1.2] at hv
          have:=congrArg List.length hv
          simp at this
        ·obtain⟨k',h5,v',h6,_⟩:=h2 j hj
         rw[h6] at hv
         have:=Rl hv
         omega)
       refine⟨r++r2,?_,λ j hj=>?_,?_⟩
       ·simp only[jB]
        rw[if_neg (by rw[hb.1];decide),if_pos hb.1,h5]
        simp[jB]
       ·rcases List.mem_append.1 hj with hj|hj
        ·obtain⟨k',h8,h9⟩:=h2 j hj;exact⟨k',by omega,h9⟩
        ·exact⟨k,by omega,h6 j hj⟩
       ·refine List.nodup_append.2 ⟨h4,h7,λ a ha b' hb' e=>?_⟩
        subst e
        obtain⟨k',h8,v,h9,_⟩:=h2 a ha
        obtain⟨v2,h10,_⟩:=h6 a hb'
        rw[h9] at h10
        have:=Rl h10
        omega
   obtain⟨r,h1,h2,h4⟩:=key 64 (Nat.le_refl _)
   rw[hc.lof] at h1
   refine⟨i::r,by rw[h1];simp,λ j hj=>?_,?_⟩
   ·rcases List.mem_cons.1 hj with rfl|hj
    ·exact hbi
    ·obtain⟨k',_,h6⟩:=h2 j hj;exact h6.up
   ·refine List.nodup_cons.2 ⟨λ hj=>?_,h4⟩
    obtain⟨k',_,v,h6,_⟩:=h2 i hj
    rw[hi.1.2] at h6
    have:=congrArg List.length h6
    simp at this
  ·rw[hm.xh i0 h3]
   exact⟨[i],rfl,(λ j hj=>by rw[List.mem_singleton.1 hj];exact hbi),by simp⟩
end
end

end Go.Proofs.YtadnboagdhcedaaGreatDoor
