/- Merged. -/
import Derived.Test.YtdnklbipddigbaaGreatGKx4
set_option linter.unusedSimpArgs false
set_option linter.unusedVariables false
namespace Go.Proofs.YtdnklbipddigbaaGreat
open Go Go.RowKit Go.Ct
section
section
variable{X:Xp}{σ τ υ:Kw}{i m p g v:Int}{w:List Nat}{t:Tri}{n:Nat}{c:Cl}{h:Nat}
def CeS(σ τ:Kw):Prop:=∀x:Int,x<=σ.cl->τ.ce x=σ.ce x
theorem CeS.refl(σ:Kw):CeS σ σ:=λ _ _=>rfl
theorem CeS.trans(l:Le σ τ)(h:CeS σ τ)(h2:CeS τ υ):CeS σ υ:=λ x hx=>(h2 x (by have:=l.cl;omega)).trans (h x hx)
theorem push_ces{nd:Nv}{y:Int}(em:υ.mm=σ.mm.push nd y):CeS σ υ:=λ x hx=>by
 have e2:υ.mm.cs=alCs nd.kind σ.mm.cs y:=by rw[em];rfl
 show cellV υ.mm.cs x=_;rw[e2];unfold alCs;split;·exact cellV_app hx
 ·rfl
theorem AlF.ces{nd:Nv}{x r:Int}(a:AlF σ υ nd x r w g):CeS σ υ:=λ _ h=>a.ce h
theorem CeS.fl{H:ByteArray->Nat}{L:Nat}(hT:TrieOk σ t)(i0:Inv H σ)(h:CeS σ τ):FL t L σ τ:=⟨h _ hT.2.1,λ p hk _=>h _ (i0.mainCell hk).2.1⟩
theorem SoG.ces(i0:Inv X.H σ)(hT:TrieOk σ t)(l:Le σ τ)(f:CeS σ τ)(h:SoG X σ t g):SoG X τ t g:=h.fl i0 hT l (f.fl (L:=0) hT i0)
theorem gcS_new{nd:Nv}{r:Int}(i0:Inv X.H σ)(i1:Inv X.H τ)(hT:TrieOk σ t)(hi:InG σ i w g)(hm:IsM σ m w g)(l:Le σ τ)(l2:Le τ υ)(f:CeS σ τ)(a:AlF τ υ nd m r w g)(hk:MainK nd)(h:SoG X σ t g)(hma:σ.ce (σ.nd i).main=m):GcS X υ t i g m r:=by have l02:=l.trans i0 i1 l2;have f2:=f.trans l a.ces;have h2:=h.ces i0 hT l02 f2;exact⟨h2.b,h2.ro,h2.k2,h2.gen,by rw[l02.nd hi.in.2,f2 _ (i0.mainCell hi.1.1).2.1];exact hma,a.prev hk,by rw[l02.nd hm.in.2];exact hm.1⟩
structure ClS(X:Xp)(σ:Kw)(t:Tri)(g p child:Int)(k:Nat):Prop where
 so:SoG X σ t g
 lk:Lnk σ p k child
 st:Settled σ (σ.ce (σ.nd child).main)
 k5:(σ.nd (σ.ce (σ.nd child).main)).kind=5
theorem clean_x{level:Int}{parent child:Int}{K:Bool->Tr}(hX:Xol X)(hT:TrieOk σ t)(i0:Inv X.H σ)(hp:InG σ parent w g)(hl:level=(w.length:Int))(hch:(σ.nd child).kind=2)
  (hK:∀τ b,Le σ τ->Inv X.H τ->(ClS X σ t g parent child (sl h w.length)->Ended τ parent (sl h w.length)/\FL t w.length σ τ)->XT X (K b) n τ):XT X (cleanT t parent child h level K) (n+30) σ:=by
 refine read_x hX.toXok (n:=n+20) hT i0 hp λ τ m l1 i1 hm hs fr=>node_x hm.in.2 ?_;try dsimp only
 split
 ·rename_i hlk;have h3:=lkV_kind hlk;have hc:=hm.cnode i1 h3;have hlev:slI h level=((sl h w.length:Nat):Int):=by rw[hl];exact slI_at hc.wl
  rw[hlev] at hlk ⊢;have hk:=sl_lt h w.length;have hch1:(τ.nd child).kind=2:=by rw[l1.nd (kind_le hch)];exact hch
  have hb:IsI τ child (w++[sl h w.length]):=by
   have h':=hlk;rw[hc.lk hk] at h';rcases hc.br _ hk _ h' with h|h;·rw[hch1] at h;exact absurd h.1 (by decide)
   ·exact⟨h.1,h.2.1⟩
  refine read_x hX.toXok (n:=n+10) (hT.up l1) i1 (g:=(τ.nd child).gen) ⟨hb,rfl⟩ λ υ mc l2 i2 hmc _ fr2=>node_x hmc.in.2 ?_;have l02:=l1.trans i0 i1 l2;have hsame:ClS X σ t g parent child (sl h w.length)->υ=σ/\m=σ.ce (σ.nd parent).main/\mc=σ.ce (σ.nd child).main:=λ q=>by obtain⟨e1,e2⟩:=fr.e q.so.b q.lk.st;subst e1;obtain⟨e3,e4⟩:=fr2.e q.so.b q.st;exact⟨e3,e2,e4⟩
  try dsimp only
  split
  ·rename_i h5;have hlf:=i2.leaf (.inr h5);have hu:Under (υ.nd mc).hash.toNat (w++[sl h w.length]):=by have:=((i2.nd mc hmc.in.1 hmc.in.2).k5 h5).2.2.2.1;rwa [hmc.2.1] at this
   rw[unV_tomb h5,sing_of hlf];refine alloc_x (w:=[]) (g:=0) hX.al i2 (new_sing i2 hlf.sz hlf.ha hlf.hl) ⟨⟨Int.le_refl _,nn0 _⟩,λ k=>no_k (a:=4) (b:=2) k,λ k=>by unfold MainK at k;rcases k with k|k|k;exact no_k (a:=4) (b:=3) k;exact no_k (a:=4) (b:=5) k;exact no_k (a:=4) (b:=6) k,λ _=>rfl⟩ λ ρ s l3 i3 asg=>?_;have l23:=l2.trans i1 i2 l3;have l03:=l02.trans i0 i2 l3;have hm3:=hm.up l23;have hc3:=hc.upL l23;have hlk3:lkV (ρ.nd m) ((sl h w.length:Nat):Int)=some child:=by rw[l23.nd hm.in.2];exact hlk
   have hs4:(ρ.nd s).kind=4:=by rw[asg.nd];rfl
   have hbr:BrI ρ (w++[sl h w.length]) g s:=.inl ⟨hs4,by rw[asg.nd];exact hu⟩;refine node_x hm3.in.2 ?_;have hup:=hc3.up hk hlk3 asg.r1;have hfin:∀nd,MainK nd->NewOk X.H ρ nd w g->(∀χ r,Le ρ χ->Inv X.H χ->AlF ρ χ nd m r w g->∀b,lkV (χ.nd r) ((sl h w.length:Nat):Int)=some b->(χ.nd b).kind≠2)->XT X (.alloc nd m λ r=>gcasT t parent m r K) (n+10) ρ:=λ nd hmk hn hno =>
    alloc_x hX.al i3 hn (over_main hmk hm3 (Settled.up i1 hm.1 hs l23)) λ χ r l4 i4 ar=>by
     have l04:=l03.trans i0 i3 l4;have hr:=mk_main (cl:=0) hmk ar.nd ar.way ar.gb;refine gcas_x hX.toXok (hT.up l04) i4 (hp.up l04) hr λ ψ ok l5 i5 hgr=>hK ψ ok (l04.trans i0 i4 l5) i5 λ q=>?_;obtain⟨e1,e2,e3⟩:=hsame q;subst e1;have r1:=hgr (gcS_new i2 i3 (hT.up l02) (hp.up l02) (hm.up l2) l3 l4 asg.ces ar hmk q.so e2.symm);have ema:ψ.ce (ψ.nd parent).main=r:=by rw[l5.nd (hp.up l04).in.2];exact r1.ma
     refine⟨⟨by rw[ema];exact r1.st,λ b hb=>?_⟩,((asg.ces.fl (hT.up l02) i2).trans l3 (ar.ces.fl (hT.up l03) i3)).trans (l3.trans i2 i3 l4) ((fl_frm (hT.up l04) i4 r1.fr).less (by rw[(hp.up l04).1.2];exact Nat.le_refl _))⟩;rw[ema,l5.nd hr.in.2] at hb;have hbk:=hno χ r l4 i4 ar b hb;have hbin:=((hr.cnode i4 (lkV_kind hb)).br _ hk b (by rw[<- (hr.cnode i4 (lkV_kind hb)).lk hk];exact hb)).in;rw[l5.nd hbin.2];exact hbk
   try dsimp only
   rw[hup.1,coV_cn hup.2.1];try dsimp only
   split;·rename_i hx;refine hfin _ (.inr (.inl rfl)) (new_tomb i3 hlf.sz hlf.ha hlf.hl (by omega) (by have:=hc.wl;omega) (under_pre hu)) λ χ r l4 i4 ar b hb=>?_;have:=lkV_kind hb;rw[ar.nd] at this;exact no_k (a:=5) (b:=3) this
   ·rename_i hx;refine hfin _ (.inl rfl) ?_ λ χ r l4 i4 ar b hb=>?_;·rw[<- hup.1];refine new_up i3 hc3 hk hlk3 hbr λ h0 h1=>absurd ⟨?_,by omega,rfl⟩ hx;rw[updL_len hup.2.2.2];exact h1
    ·have hr:=mk_main (cl:=0) (σ:=χ) (.inl rfl) ar.nd ar.way ar.gb;have hcn:=hr.cnode i4 (lkV_kind hb);rw[hcn.lk hk,ar.nd] at hb;have hb':mOf (τ.nd m).bm.toNat (updL (τ.nd m).xs (cnt (τ.nd m).bm.toNat (sl h w.length)) s) (sl h w.length)=some b:=by rw[<- hb];show _=mOf (cnV (τ.nd m).bm.toNat (updL (τ.nd m).xs (cnt (τ.nd m).bm.toNat (sl h w.length)) s)).bm.toNat (updL (τ.nd m).xs (cnt (τ.nd m).bm.toNat (sl h w.length)) s) _;rw[show(cnV (τ.nd m).bm.toNat (updL (τ.nd m).xs (cnt (τ.nd m).bm.toNat (sl h w.length)) s)).bm.toNat=(τ.nd m).bm.toNat from Int.toNat_natCast _]
     rw[hup.2.2.1 _ hk] at hb';unfold upd at hb';rw[if_pos rfl] at hb';cases hb';rw[l4.nd asg.r2,hs4];decide
  ·rename_i h5;refine(hK υ _ l02 i2 λ q=>?_).mono (by omega);obtain⟨e1,e2,e3⟩:=hsame q;exact absurd (by rw[e3,e1];exact q.k5) h5
 ·rename_i hlk;refine(hK τ _ l1 i1 λ q=>?_).mono (by omega);obtain⟨e1,e2⟩:=fr.e q.so.b q.lk.st;refine absurd ?_ hlk;have hlk2:=q.lk.lk;have hc:w.length<=10:=((hp.cur i0).cnode i0 (lkV_kind hlk2)).wl;rw[hl,slI_at hc,e1,e2];exact hlk2
theorem find_x{key:ByteArray}{K:Rs->Tr}(hX:Xol X)(hT:TrieOk σ t)(i0:Inv X.H σ)(hK:∀τ r,Le σ τ->Inv X.H τ->r.root=0->XT X (K r) n τ):∀(q:Nat) (σ':Kw) (i:Int) (w:List Nat) (g level:Int),Le σ σ'->Inv X.H σ'->InG σ' i w g->XT X (findT t h key K q i level) (n+10*(12-w.length)) σ'
 | 0,_,_,_,_,_,_,_,_=>trivial
 | q+1,σ',i,w,g,level,l,i1,hi=>by
  have hw:=(hi.gens i1).2.2;have e:n+10*(12-w.length)=(n+10*(11-w.length))+10:=by omega
  rw[e];refine read_x hX.toXok (hT.up l) i1 hi λ τ m l1 i2 hm _ _=>node_x hm.in.2 ?_;have l01:=l.trans i0 i1 l1;try dsimp only
  split;·(try dsimp only);split<;>exact(hK τ _ l01 i2 rfl).mono (by omega)
  try dsimp only
  split;·exact(hK τ _ l01 i2 rfl).mono (by omega)
  cases hlk:lkV (τ.nd m) (slI h level) with
  | none=>exact(hK τ _ l01 i2 rfl).mono (by omega)
  | some b=>
   obtain⟨k,hk,ek⟩:=slI_some h level;rw[ek] at hlk;have hc:=hm.cnode i2 (lkV_kind hlk);rw[hc.lk hk] at hlk;have hb:=hc.br k hk b hlk;refine node_x hb.in.2 ?_;try dsimp only
   split;·(try dsimp only);split<;>exact(hK τ _ l01 i2 rfl).mono (by omega)
   ·rename_i h4;rcases hb with hb|hb;·exact absurd hb.1 h4
    ·have:=find_x (key:=key) hX hT i0 hK q τ b (w++[k]) (τ.nd b).gen (level+1) l01 i2 ⟨⟨hb.1,hb.2.1⟩,rfl⟩;rw[List.length_append,List.length_singleton] at this;exact this.mono (by omega)
theorem dn_x{x:Int}{h0 h:Nat}{pk:ByteArray}{pv:Int}{k:ByteArray}{u:Int}{q:Nat}{K:Int->Tr}(hX:Xol X)(hh0:h0<18446744073709551616)(hh:h<18446744073709551616)(hH:X.H k=h)(hk:k.size<=64)(hg1:1<=g)(hne:pk≠k)(hpk:pk.size<=64)(hpH:X.H pk=h0) :
  ∀(n lvl:Nat) (σ:Kw) (r:Int) (f:Nat),lvl+n=com h0 h->Inv X.H σ->(σ.nd x).kind=4->(σ.nd x).hash.toNat=h0->g<=σ.mm.gen->f=σ.len+1 ->
  (∀υ,Le σ υ->Inv X.H υ->CeS σ υ->υ.len=σ.len+(dN x h0 h (pk,pv) k u g f n lvl).length->IsM υ ((f-1+(dN x h0 h (pk,pv) k u g f n lvl).length:Nat):Int) (wayN h lvl) g->Settled υ ((f-1+(dN x h0 h (pk,pv) k u g f n lvl).length:Nat):Int)->XT X (K ((f-1+(dN x h0 h (pk,pv) k u g f n lvl).length:Nat):Int)) q υ) ->
  XT X (alsT (dN x h0 h (pk,pv) k u g f n lvl) r K) q σ
 | 0,lvl,σ,r,f,hn,i0,hx4,hxh,hgg,hf,hK=>by
  have hx:=kind_in (N:=σ.mm.nodes) (i:=x) (by have:=hx4;simp only[Kw.nd] at this;rw[this];decide)
  have hcl:=com_le h0 h
  unfold dN at hK ⊢
  try dsimp only
  split
  ·rename_i e
   rw[if_pos e] at hK
   subst e
   have heq:h0=h:=sl_all hh0 hh λ j hj=>com_eq (by omega)
   obtain⟨o1,o2,o3⟩:=ofL_two (p:=(pk,pv)) (q:=(k,u)) hne
   have hnew:NewOk X.H σ (listV ((h:Nat):Int) (ofL [(pk,pv),(k,u)])) (wayN h 11) g:=new_list i0 o1 (asc_sa.2 o2) (short_iff.2 λ p hp=>by rcases o3 p hp with rfl|rfl;exact hpk;exact hk) (λ p hp=>by rcases o3 p hp with rfl|rfl;exact hpH.trans heq;exact hH) hh (wayN_len h 11) (under_wayN h 11)
   refine alloc_x hX.al i0 hnew (in_leaf i0 (λ e=>no_k (a:=6) (b:=2) e)) λ υ r' l1 i1 a1=>?_
   have er:=a1.re
   have em:=a1.mm
   have e1:=a1.nd
   have e2:=a1.way
   have e3:=a1.gb
   have h1:=a1.r1
   have h2:=a1.r2
   have hr':r'=((f-1+[niList h (ofL [(pk,pv),(k,u)])].length:Nat):Int):=by rw[er,hf];simp
   have hlen:υ.len=σ.len+1:=by simp[Kw.len,em,Mm.push]
   show XT X (K r') q υ
   rw[hr']
   refine hK υ l1 i1 a1.ces hlen ?_ ?_<;>rw[<- hr']
   ·exact mk_main (cl:=0) (.inr (.inr rfl)) e1 e2 e3
   ·exact a1.prev (.inr (.inr rfl))
  ·rename_i e
   rw[if_neg e] at hK
   have hlv:lvl=com h0 h:=by omega
   have hne2:sl h0 lvl≠sl h lvl:=by rw[hlv];exact com_ne (by omega)
   refine alloc_x (w:=[]) (g:=0) hX.al i0 (new_sing i0 hk hH hh) (in_leaf i0 (λ e=>no_k (a:=4) (b:=2) e)) λ υ s l1 i1 a1=>?_
   have er:=a1.re
   have em:=a1.mm
   have e1:=a1.nd
   have hs1:=a1.r1
   have hs2:=a1.r2
   have hlen:υ.len=σ.len+1:=by simp[Kw.len,em,Mm.push]
   have hsf:s=(f:Int):=by rw[er,hf]
   obtain⟨b1,b2⟩:=bv_two (sl_lt h0 lvl) (sl_lt h lvl) hne2 (x:=x) (s:=s) hx.1 hs1
   have hx4':(υ.nd x).kind=4:=by rw[l1.nd hx.2];exact hx4
   have hxh':(υ.nd x).hash.toNat=h0:=by rw[l1.nd hx.2];exact hxh
   have hnew:NewOk X.H υ (cnV (withI (withI 0 (sl h0 lvl:Int)) (sl h lvl:Int)) (two (sl h0 lvl) (sl h lvl) x s)) (wayN h lvl) g:=by
    refine new_cnode i1 b1 (λ j hj v hv=>?_) (by rw[wayN_len];omega) (λ _=>⟨λ e=>?_,λ b hb=>?_⟩)
    ·rcases b2 j hj v hv with⟨rfl,rfl⟩|⟨rfl,rfl⟩
     ·refine .inl ⟨hx4',?_⟩
      rw[hxh']
      have:=under_snoc (under_com (a:=h0) (b:=h) (l:=lvl) (by omega))
      rwa [wayN_len] at this
     ·refine .inl ⟨by rw[e1];rfl,?_⟩
      rw[e1]
      have:=under_snoc (under_wayN h lvl)
      rw[wayN_len] at this
      exact this
    ·unfold two at e;split at e<;>cases e
    ·unfold two at hb;split at hb<;>cases hb
   rw[hsf] at hnew
   show XT X (.alloc (cnV (withI (withI 0 (sl h0 lvl:Int)) (sl h lvl:Int)) (two (sl h0 lvl) (sl h lvl) x (f:Int))) 0 K) q υ
   refine alloc_x hX.al i1 hnew (in_leaf i1 (λ e=>no_k (a:=3) (b:=2) e)) λ ρ r' l2 i2 a2=>?_
   have er2:=a2.re
   have em2:=a2.mm
   have e4:=a2.nd
   have e5:=a2.way
   have e6:=a2.gb
   have h1:=a2.r1
   have h2:=a2.r2
   have hlen2:ρ.len=υ.len+1:=by simp[Kw.len,em2,Mm.push]
   have hr':r'=((f-1+[niSingle h k u,niC (withI (withI 0 (sl h0 lvl:Int)) (sl h lvl:Int)) (two (sl h0 lvl) (sl h lvl) x (f:Int))].length:Nat):Int):=by
    rw[er2];simp only[List.length_cons,List.length_nil];omega
   rw[hr']
   refine hK ρ (l1.trans i0 i1 l2) i2 (a1.ces.trans l1 a2.ces) (by simp only[List.length_cons,List.length_nil];omega) ?_ ?_<;>rw[<- hr']
   ·exact mk_main (cl:=0) (.inl rfl) e4 e5 e6
   ·exact a2.prev (.inl rfl)
 | n+1,lvl,σ,r,f,hn,i0,hx4,hxh,hgg,hf,hK=>by
  have hx:=kind_in (N:=σ.mm.nodes) (i:=x) (by have:=hx4;simp only[Kw.nd] at this;rw[this];decide)
  have hcl:=com_le h0 h
  unfold dN at hK ⊢
  rw[alsT_app]
  refine dn_x hX hh0 hh hH hk hg1 hne hpk hpH n (lvl+1) σ r f (by omega) i0 hx4 hxh hgg hf λ υ l1 i1 f1 el hm hst=>?_
  generalize hd:(dN x h0 h (pk,pv) k u g f n (lvl+1)).length=d at *
  show XT X (.alloc (inodeV g) ((f-1+d:Nat):Int) λ _=>.alloc (cnV (withI 0 (sl h lvl:Int)) [((f+d:Nat):Int)]) 0 K) q υ
  refine alloc_x (w:=wayN h (lvl+1)) (g:=0) hX.al i1 (new_inode (by rw[wayN_len];omega) hg1 (by have:=l1.gen;omega)) ⟨⟨by omega,hm.in.2⟩,λ _=>hm,λ k=>absurd k (mk_dec (.inr (.inr (.inl rfl)))),λ k=>no_k (a:=2) (b:=8) k⟩ (λ ρ j l2 i2 a2=>?_) (λ _=>hst)
  have er:=a2.re
  have em:=a2.mm
  have e1:=a2.nd
  have e2:=a2.way
  have hj1:=a2.r1
  have hj2:=a2.r2
  have hlen:ρ.len=υ.len+1:=by simp[Kw.len,em,Mm.push]
  have hj:j=((f+d:Nat):Int):=by rw[er];omega
  obtain⟨b1,b2⟩:=bv_one (sl_lt h lvl) (r:=j) hj1
  have hnew:NewOk X.H ρ (cnV (withI 0 (sl h lvl:Int)) [j]) (wayN h lvl) g:=by
   refine new_cnode i2 b1 (λ q hq v hv=>?_) (by rw[wayN_len];omega) (λ _=>⟨by simp,λ b hb=>?_⟩)
   ·obtain⟨rfl,rfl⟩:=b2 q hq v hv
    exact .inr ⟨by rw[e1];rfl,by rw[e2,wayN_succ],by rw[e1];exact Int.le_refl _⟩
   ·cases hb;rw[e1];rfl
  rw[hj] at hnew
  refine alloc_x hX.al i2 hnew (in_leaf i2 (λ e=>no_k (a:=3) (b:=2) e)) λ χ r' l3 i3 a3=>?_
  have er2:=a3.re
  have em2:=a3.mm
  have e4:=a3.nd
  have e5:=a3.way
  have e6:=a3.gb
  have h1:=a3.r1
  have h2:=a3.r2
  have hlen2:χ.len=ρ.len+1:=by simp[Kw.len,em2,Mm.push]
  have hr':r'=((f-1+(d+2):Nat):Int):=by rw[er2];omega
  have hL:(dN x h0 h (pk,pv) k u g f n (lvl+1)++[niInner g ((f-1+d:Nat):Int),niC (withI 0 (sl h lvl:Int)) [((f+d:Nat):Int)]]).length=d+2:=by rw[List.length_append,hd];rfl
  rw[hL] at hK
  rw[hr']
  refine hK χ ((l1.trans i0 i1 l2).trans i0 i2 l3) i3 ((f1.trans l1 a2.ces).trans (l1.trans i0 i1 l2) a3.ces) (by omega) ?_ ?_<;>rw[<- hr']
  ·exact mk_main (cl:=0) (.inl rfl) e4 e5 e6
  ·exact a3.prev (.inl rfl)
theorem dual_x{b:Int}{level:Nat}{K:Int->Tr}(hX:Xol X)(i0:Inv X.H σ)(hb4:(σ.nd b).kind=4)(hu0:Under (σ.nd b).hash.toNat w)(hu:Under h w)(hl:level=w.length)(hw:w.length<=11)(hh:h<18446744073709551616)(hH:X.H c.key=h)(hk:c.key.size<=64)(hg1:1<=g)(hgg:g<=σ.mm.gen)(hne:(σ.nd b).key≠c.key)
  (hK:∀υ d,Le σ υ->Inv X.H υ->CeS σ υ->IsM υ d w g->Settled υ d->XT X (K d) n υ):XT X (dualT c b h level g K) n σ:=by
 have hlf:=i0.leaf (.inl hb4);have hb:=kind_in (N:=σ.mm.nodes) (i:=b) (by have:=hb4;simp only[Kw.nd] at this;rw[this];decide);have hcom:level<=com (σ.nd b).hash.toNat h:=by
  have hw11:=com_le (σ.nd b).hash.toNat h;by_cases hlt:level<=com (σ.nd b).hash.toNat h;·exact hlt
  ·exact absurd ((hu0 _ (by omega)).trans (hu _ (by omega)).symm) (com_ne (by omega))
 refine node_x hb.2 ?_;generalize hn:com (σ.nd b).hash.toNat h-level=nd;have hlv:com (σ.nd b).hash.toNat h-nd=level:=by omega
 obtain⟨a,ha⟩:=dN_cons (x:=b) (h0:=(σ.nd b).hash.toNat) (h:=h) (p:=((σ.nd b).key,(σ.nd b).val)) (k:=c.key) (u:=c.val) (g:=g) nd level;have hP:∀f,dP b (σ.nd b).hash.toNat h ((σ.nd b).key,(σ.nd b).val) c.key c.val g f level=dN b (σ.nd b).hash.toNat h ((σ.nd b).key,(σ.nd b).val) c.key c.val g f nd level:=λ f=>by unfold dP;rw[hn,hlv]
 obtain⟨l0,hl0⟩:=ha 0;try dsimp only
 rw[hP 0,hl0];show XT X (.alloc a.c0 a.init λ f=>alsT (dP b (σ.nd b).hash.toNat h ((σ.nd b).key,(σ.nd b).val) c.key c.val g f.toNat level).tail f K) n σ
 obtain⟨l1,hl1⟩:=ha (σ.len+1);have key:XT X (alsT (dN b (σ.nd b).hash.toNat h ((σ.nd b).key,(σ.nd b).val) c.key c.val g (σ.len+1) nd level) 0 K) n σ:=by refine dn_x hX hlf.hl hh hH hk hg1 hne hlf.sz hlf.ha nd level σ 0 (σ.len+1) (by omega) i0 hb4 rfl hgg rfl λ υ l2 i2 f2 _ hm hst=>hK υ _ l2 i2 f2 ?_ hst;rw[wayN_of hu,<- hl];exact hm
 rw[hl1] at key;rcases key with h|⟨h1,h2,h3⟩;·exact .inl h
 ·refine .inr ⟨h1,λ h=>(by rw[hX.al] at h;cases h),λ h=>?_⟩;obtain⟨υ,l2,i2,e2,hw2⟩:=h3 h;refine⟨υ,l2,i2,e2,?_⟩;dsimp only;rw[hP,show(((σ.len+1:Nat):Int)).toNat=σ.len+1 from Int.toNat_natCast _,hl1];exact hw2
end
end
section
section
variable{X:Xp}{σ τ υ:Kw}{i m p g v:Int}{w:List Nat}{t:Tri}{n:Nat}{c:Cl}{h:Nat}
abbrev KLx(X:Xp)(σ:Kw)(t:Tri)(i m g:Int)(h level:Nat)(K:Rs->Int->Tr)(n:Nat):Prop:=∀τ r what,Le σ τ->Inv X.H τ->r.root=0->(what=0∨what=1∨(Fur σ m h level/\τ=σ))->(SoG X σ t g->σ.ce (σ.nd i).main=m->what≠0)->XT X (K r what) n τ
theorem putLeaf_x{level:Nat}{K:Rs->Int->Tr}(hX:Xol X)(hT:TrieOk σ c.t)(i0:Inv X.H σ)(hk:KeyOk X.H c h)(hi:InG σ i w g)(hm:IsM σ m w g)(hs:Settled σ m)(hu:Under h w)(hl:level=w.length)(h5:(σ.nd m).kind≠5)(hK:KLx X σ c.t i m g h level K n):XT X (putLeafT c i m h level g K) (n+10) σ:=by
 have hg:=hi.gens i0;have gc:∀{nd:Nv} {R:Rs},R.root=0->MainK nd->∀υ,Le σ υ->Inv X.H υ->CeS σ υ->NewOk X.H υ nd w g->XT X (.alloc nd m λ r=>gcasT c.t i m r λ ok=>K R (if ok=true then 1 else 0)) (n+10) υ:=λ{nd R} hR hmk υ l1 i1 f1 hn =>alloc_x hX.al i1 hn (over_main hmk (hm.up l1) (Settled.up i0 hm.1 hs l1)) λ χ r l2 i2 a=>by have l:=l1.trans i0 i1 l2;exact gcas_x hX.toXok (hT.up l) i2 (hi.up l) (mk_main (cl:=0) hmk a.nd a.way a.gb) λ ψ ok l3 i3 hg=>hK ψ _ _ (l.trans i0 i2 l3) i3 hR (z_one ok) λ so hma=>by rw[(hg (gcS_new i0 i1 hT hi hm l1 l2 f1 a hmk so hma)).t];decide
 have gr:∀{R:Rs} {k:Nat} {o r:Int},R.root=0->∀υ,Le σ υ->Inv X.H υ->CeS σ υ->k<64->lkV (υ.nd m) (k:Int)=some o->BrI υ (w++[k]) g r->(0<w.length->(υ.nd m).xs.length=1->(υ.nd r).kind=2)->(υ.nd m).kind=3->XT X (replT m (k:Int) r λ n=>gcasT c.t i m n λ ok=>K R (if ok=true then 1 else 0)) (n+10) υ:=λ{R k o r} hR υ l1 i1 f1 hk64 ho hr h0 h3=>by have hm1:=hm.up l1;refine repl_x hX i1 hm1 (Settled.up i0 hm.1 hs l1) (hm1.cnode i1 h3) hk64 ho hr h0 λ χ n l2 i2 hn a hmk _=>?_;have l:=l1.trans i0 i1 l2;exact gcas_x hX.toXok (hT.up l) i2 (hi.up l) hn λ ψ ok l3 i3 hg=>hK ψ _ _ (l.trans i0 i2 l3) i3 hR (z_one ok) λ so hma=>by rw[(hg (gcS_new i0 i1 hT hi hm l1 l2 f1 a hmk so hma)).t];decide
 refine node_x hm.in.2 ?_;try dsimp only
 split
 ·rename_i h6;have hln:=hm.lnode i0 h6;try dsimp only
  split;·have hh:=under_eq hk.hl hln.hl hu hln.un hln.wl;have:=grV_ok (w:=w) (g:=g) i0 hln (k:=c.key) (u:=c.val) hk.sz (hk.ha.trans hh);exact gc rfl this.1 σ (Le.refl σ) i0 (.refl σ) this.2
  ·exact(hK σ _ _ (Le.refl σ) i0 rfl (.inr (.inl rfl)) λ _ _=>by decide).mono (by omega)
 ·rename_i h6;have h3:(σ.nd m).kind=3:=by
   rcases hm.1 with h|h|h;·exact h
   ·exact absurd h h5
   ·exact absurd h h6
  have hc:=hm.cnode i0 h3;have hlev:slI h (level:Int)=((sl h w.length:Nat):Int):=by rw[hl];exact slI_at hc.wl
  have hk64:=sl_lt h w.length;have hu1:=under_snoc hu;have hsing:∀υ s cl,υ.nd s=alNv (singV h c.key c.val) cl->BrI υ (w++[sl h w.length]) g s:=λ υ s cl e=>.inl ⟨by rw[e];rfl,by rw[e];exact hu1⟩
  unfold KLx Fur at hK;rw[hlev] at hK ⊢;cases hlk:lkV (σ.nd m) ((sl h w.length:Nat):Int) with
  | none=>
   simp only[];try dsimp only
   split
   ·refine alloc_x (w:=[]) (g:=0) hX.al i0 (new_sing i0 hk.sz hk.ha hk.hl) (in_leaf i0 (λ e=>no_k (a:=4) (b:=2) e)) λ υ s l1 i1 a=>?_;have hc1:=hc.upL l1;have hlk1:lkV (υ.nd m) ((sl h w.length:Nat):Int)=none:=by rw[l1.nd hm.in.2];exact hlk
    obtain⟨f1,f2,f3,f4⟩:=hc1.ins hk64 hlk1 a.r1;try dsimp only
    rw[<- l1.nd hm.in.2,f1];refine gc rfl (.inl rfl) υ l1 i1 a.ces (new_cnode i1 f2 (λ j hj v hv=>?_) hc.wl (λ h0=>⟨λ e=>?_,λ b hb=>?_⟩))
    ·rw[f3 j hj] at hv;unfold upd at hv;split at hv;·rename_i ej;cases hv;rw[ej];exact hsing υ s _ a.nd
     ·exact hc1.br j hj v hv
    ·rw[e] at f4;simp at f4
    ·rw[hb] at f4;have:=(hc1.ne h0).1;cases hx:(σ.nd m).xs with
     | nil=>exact absurd hx this
     | cons _ _=>rw[hx] at f4;simp at f4
   ·exact(hK σ _ _ (Le.refl σ) i0 rfl (.inr (.inl rfl)) λ _ _=>by decide).mono (by omega)
  | some b=>
   simp only[];have hb:=hc.br _ hk64 b (by rw[<- hc.lk hk64];exact hlk);refine node_x hb.in.2 ?_;try dsimp only
   split;·rename_i h2;exact(hK σ _ _ (Le.refl σ) i0 rfl (.inr (.inr ⟨⟨b,hlk,h2⟩,rfl⟩)) λ _ _=>by decide).mono (by omega)
   ·rename_i h2;have hb4:(σ.nd b).kind=4/\Under (σ.nd b).hash.toNat (w++[sl h w.length]):=by
     rcases hb with h|h;·exact h
     ·exact absurd h.1 h2
    have hno:0<w.length->(σ.nd m).xs.length=1->False:=λ h0 h1=>by
     have hlt:(σ.nd m).xs=[b]:=by
      have hmem:=mOf_mem hc.bv hk64 (x:=b) (by rw[<- hc.lk hk64];exact hlk);cases hx:(σ.nd m).xs with
      | nil=>rw[hx] at h1;simp at h1
      | cons a t=>
       rw[hx] at h1 hmem;cases t with
       | nil=>rw[List.mem_singleton.1 hmem]
       | cons _ _=>simp at h1
     exact h2 ((hc.ne h0).2 b hlt)
    try dsimp only
    split
    ·try dsimp only
     split;·refine alloc_x (w:=[]) (g:=0) hX.al i0 (new_sing i0 hk.sz hk.ha hk.hl) (in_leaf i0 (λ e=>no_k (a:=4) (b:=2) e)) λ υ s l1 i1 a=>?_;exact gr rfl υ l1 i1 a.ces hk64 (o:=b) (by rw[l1.nd hm.in.2];exact hlk) (hsing υ s _ a.nd) (λ h0 h1=>(hno h0 (by rw[<- l1.nd hm.in.2];exact h1)).elim) (by rw[l1.nd hm.in.2];exact h3)
     ·exact(hK σ _ _ (Le.refl σ) i0 rfl (.inr (.inl rfl)) λ _ _=>by decide).mono (by omega)
    ·rename_i hne;try dsimp only
     split;·refine dual_x (w:=w++[sl h w.length]) hX i0 hb4.1 hb4.2 hu1 (by rw[List.length_append,hl];rfl) (by rw[List.length_append,List.length_singleton];have:=hc.wl;omega) hk.hl hk.ha hk.sz hg.1 hg.2.1 hne λ υ d l1 i1 fd hd hds=>?_;refine inode_x hX i1 hg.1 (by have:=l1.gen;have:=hg.2.1;omega) (by rw[List.length_append,List.length_singleton];have:=hc.wl;omega) hd hds (Int.le_refl _) λ ρ j l2 i2 hj aj=>?_;have l12:=l1.trans i0 i1 l2;exact gr rfl ρ l12 i2 (fd.trans l1 aj.ces) hk64 (o:=b) (by rw[l12.nd hm.in.2];exact hlk) (.inr ⟨hj.1.1,hj.1.2,by rw[hj.2];exact Int.le_refl _⟩) (λ _ _=>hj.1.1) (by rw[l12.nd hm.in.2];exact h3)
     ·exact(hK σ _ _ (Le.refl σ) i0 rfl (.inr (.inl rfl)) λ _ _=>by decide).mono (by omega)
theorem dropLeaf_x{level:Nat}{K:Rs->Int->Tr}(hX:Xol X)(hT:TrieOk σ c.t)(i0:Inv X.H σ)(hi:InG σ i w g)(hm:IsM σ m w g)(hs:Settled σ m)(hu:Under h w)(hl:level=w.length)(h5:(σ.nd m).kind≠5)(hK:KLx X σ c.t i m g h level K n):XT X (dropLeafT c i m h level K) (n+10) σ:=by
 have gc:∀{nd:Nv} {R:Rs},R.root=0->MainK nd->NewOk X.H σ nd w g->XT X (.alloc nd m λ r=>gcasT c.t i m r λ ok=>K R (if ok=true then 1 else 0)) (n+10) σ:=λ{nd R} hR hmk hn =>alloc_x hX.al i0 hn (over_main hmk hm hs) λ χ r l2 i2 a =>gcas_x hX.toXok (hT.up l2) i2 (hi.up l2) (mk_main (cl:=0) hmk a.nd a.way a.gb) λ ψ ok l3 i3 hg=>hK ψ _ _ (l2.trans i0 i2 l3) i3 hR (z_one ok) λ so hma=>by rw[(hg (gcS_new i0 i0 hT hi hm (Le.refl σ) l2 (.refl σ) a hmk so hma)).t];decide
 refine node_x hm.in.2 ?_;try dsimp only
 split
 ·rename_i h6;have hln:=hm.lnode i0 h6;try dsimp only
  split;·exact(hK σ _ _ (Le.refl σ) i0 rfl (.inr (.inl rfl)) λ _ _=>by decide).mono (by omega)
  ·rename_i hn;have hf:(findO (σ.nd m).ys c.key).isSome=true:=by
    cases hx:(findO (σ.nd m).ys c.key).isSome with
    | true=>rfl
    | false=>exact absurd (.inl hx) hn
   have:=shV_ok (w:=w) (g:=g) i0 hln (k:=c.key) hf;exact gc rfl this.1 this.2
 ·rename_i h6;have h3:(σ.nd m).kind=3:=by
   rcases hm.1 with h|h|h;·exact h
   ·exact absurd h h5
   ·exact absurd h h6
  have hc:=hm.cnode i0 h3;have hlev:slI h (level:Int)=((sl h w.length:Nat):Int):=by rw[hl];exact slI_at hc.wl
  have hk64:=sl_lt h w.length;unfold KLx Fur at hK;rw[hlev] at hK ⊢;cases hlk:lkV (σ.nd m) ((sl h w.length:Nat):Int) with
  | none=>simp only[];exact(hK σ _ _ (Le.refl σ) i0 rfl (.inr (.inl rfl)) λ _ _=>by decide).mono (by omega)
  | some b=>
   simp only[];have hb:=hc.br _ hk64 b (by rw[<- hc.lk hk64];exact hlk);refine node_x hb.in.2 ?_;try dsimp only
   split;·rename_i h2;exact(hK σ _ _ (Le.refl σ) i0 rfl (.inr (.inr ⟨⟨b,hlk,h2⟩,rfl⟩)) λ _ _=>by decide).mono (by omega)
   rename_i h2;try dsimp only
   split;·exact(hK σ _ _ (Le.refl σ) i0 rfl (.inr (.inl rfl)) λ _ _=>by decide).mono (by omega)
   try dsimp only
   split;·exact(hK σ _ _ (Le.refl σ) i0 rfl (.inr (.inl rfl)) λ _ _=>by decide).mono (by omega)
   obtain⟨f1,f2,f3,f4⟩:=hc.re hk64 hlk;have hso:(soV (reV (σ.nd m) ((sl h w.length:Nat):Int))).getD 0<=σ.len:=by
    rw[f1,soV_cn f2];try dsimp only
    split
    ·rename_i e1;have hmem:(remL (σ.nd m).xs (cnt (σ.nd m).bm.toNat (sl h w.length))).getD 0 0∈remL (σ.nd m).xs (cnt (σ.nd m).bm.toNat (sl h w.length)):=getD_memI (by omega);obtain⟨j,hj,hv⟩:=bv_mem f2 hmem;rw[f3 j hj] at hv;unfold upd at hv;split at hv;·cases hv
     ·exact(hc.br j hj _ hv).in.2
    ·exact nn0 _
   refine node_x hso ?_;try dsimp only
   rw[f1] at hso ⊢;rw[coV_cn f2];try dsimp only
   split
   ·rename_i hx;have e1:=hx.1;rw[soV_cn f2,if_pos e1] at hx ⊢;simp only[Option.getD_some] at hx ⊢;generalize hs0:(remL (σ.nd m).xs (cnt (σ.nd m).bm.toNat (sl h w.length))).getD 0 0=s at hx ⊢;have hmem:s∈remL (σ.nd m).xs (cnt (σ.nd m).bm.toNat (sl h w.length)):=by rw[<- hs0];exact getD_memI (by omega)
    obtain⟨j,hj,hv⟩:=bv_mem f2 hmem;have hbr:BrI σ (w++[j]) g s:=by
     rw[f3 j hj] at hv;unfold upd at hv;split at hv;·cases hv
     ·exact hc.br j hj _ hv
    have hlf:=i0.leaf (.inl hx.2.2);have hus:Under (σ.nd s).hash.toNat (w++[j]):=by
     rcases hbr with h'|h';·exact h'.2
     ·have:=h'.1;have:=hx.2.2;omega
    have e5:tmV (σ.nd s)=tombV (((σ.nd s).hash.toNat:Nat):Int) (σ.nd s).key (σ.nd s).val:=by rw[<- hlf.hn];rfl
    rw[e5];exact gc rfl (.inr (.inl rfl)) (new_tomb i0 hlf.sz hlf.ha hlf.hl (by omega) (by have:=hc.wl;omega) (under_pre hus))
   ·rename_i hx;refine gc rfl (.inl rfl) (new_cnode i0 f2 (λ j hj v hv=>?_) hc.wl (λ h0=>⟨λ e=>?_,λ b' hb'=>?_⟩))
    ·rw[f3 j hj] at hv;unfold upd at hv;split at hv;·cases hv
     ·exact hc.br j hj v hv
    ·rw[e] at f4;have h1:(σ.nd m).xs.length=1:=by simpa using f4.symm
     have hlt:(σ.nd m).xs=[b]:=by
      have hmem:=mOf_mem hc.bv hk64 (x:=b) (by rw[<- hc.lk hk64];exact hlk);cases hxs:(σ.nd m).xs with
      | nil=>rw[hxs] at h1;simp at h1
      | cons a t=>
       rw[hxs] at h1 hmem;cases t with
       | nil=>rw[List.mem_singleton.1 hmem]
       | cons _ _=>simp at h1
     exact h2 ((hc.ne h0).2 b hlt)
    ·have e1:(remL (σ.nd m).xs (cnt (σ.nd m).bm.toNat (sl h w.length))).length=1:=by rw[hb'];rfl
     rw[soV_cn f2,if_pos e1] at hx;rw[hb'] at hx f2 f3;have hbr:∃j,BrI σ (w++[j]) g b':=by
      obtain⟨j,hj,hv⟩:=bv_mem f2 (List.mem_singleton.2 rfl:b'∈[b']);rw[f3 j hj] at hv;unfold upd at hv;split at hv;·cases hv
      ·exact⟨j,hc.br j hj _ hv⟩
     obtain⟨j,hbr⟩:=hbr;rcases hbr with h'|h';·exact absurd ⟨rfl,by omega,h'.1⟩ hx
     ·exact h'.1
theorem below_x{level:Nat}{K:Int->Tr}(hX:Xol X)(hT:TrieOk σ c.t)(i0:Inv X.H σ)(hi:InG σ i w g)(hm:IsM σ m w g)(hs:Settled σ m)(hl:level=w.length)(hf:Fur σ m h level)
  (hK:∀τ b,Le σ τ->Inv X.H τ->(b=0∨InG τ b (w++[sl h level]) g)->(SoG X σ c.t g->σ.ce (σ.nd i).main=m->b≠0/\Lnk τ i (sl h level) b/\FL c.t w.length σ τ/\∀b',lkV (σ.nd m) ((sl h level:Nat):Int)=some b'->(σ.nd b').gen=g->τ=σ)->XT X (K b) n τ):XT X (belowT c i m (slI h level) g K) (n+20) σ:=by
 obtain⟨b,hlk,h2⟩:=hf;have hc:=hm.cnode i0 (lkV_kind hlk);have hk64:=sl_lt h w.length;subst hl;rw[slI_at hc.wl] at hlk ⊢;have hb:=hc.br _ hk64 b (by rw[<- hc.lk hk64];exact hlk);refine node_x hm.in.2 ?_;try dsimp only
 rw[show(lkV (σ.nd m) ((sl h w.length:Nat):Int)).getD 0=b by rw[hlk];rfl];refine node_x hb.in.2 ?_;try dsimp only
 split
 ·rename_i e;rcases hb with h'|h';·rw[h2] at h';exact absurd h'.1 (by decide)
  ·exact(hK σ b (Le.refl σ) i0 (.inr ⟨⟨h'.1,h'.2.1⟩,e⟩) λ so hma=>⟨by have:=kind_in (N:=σ.mm.nodes) (i:=b) (by simp only[Kw.nd] at h2;rw[h2];decide);omega,⟨by rw[hma];exact hs,by rw[hma];exact hlk⟩,.refl _ _ _,λ _ _ _=>rfl⟩).mono (by omega)
 ·rename_i hgb;refine renew_x hX hT i0 hi hm hs hc hk64 hlk h2 λ τ v l1 i1 hv hf=>hK τ v l1 i1 hv λ so hma=>?_;obtain⟨h1,h3,h4⟩:=hf so hma;exact⟨h1,h3,h4,λ b' hb' hg'=>absurd (by rw[hlk] at hb';cases hb';exact hg') hgb⟩
end
end
end Go.Proofs.YtdnklbipddigbaaGreat
