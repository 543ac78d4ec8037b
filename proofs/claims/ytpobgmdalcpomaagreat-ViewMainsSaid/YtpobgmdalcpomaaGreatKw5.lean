/- Tries of worlds: READ, SETTLE, ROOT, HELP, DECIDE, GCAS, RDCSS keep the labels. -/
import Derived.Test.YtpobgmdalcpomaaGreatGPc2
set_option linter.unusedSimpArgs false
set_option linter.unusedVariables false
namespace Go.Proofs.YtpobgmdalcpomaaGreat
open Go.Ct
def ctR(ro:Bool):CT:=if ro=true then .rort else .root
def TrieOk(σ:Kw)(t:Tri):Prop:=1<=t.root/\t.root<=σ.cl/\σ.ct t.root=ctR t.ro
def InG(σ:Kw)(i:Int)(w:List Nat)(g:Int):Prop:=IsI σ i w/\(σ.nd i).gen=g
section
variable{H:ByteArray->Nat}{Q:Rs->Kw->Prop}{σ τ υ:Kw}{i m p g:Int}{w:List Nat}{t:Tri}
theorem TrieOk.up(h:TrieOk σ t)(l:Le σ τ):TrieOk τ t:=⟨h.1,by have:=h.2.1;have:=l.cl;omega,by rw[l.ct _ h.2.1];exact h.2.2⟩
theorem InG.up(h:InG σ i w g)(l:Le σ τ):InG τ i w g:=⟨h.1.up l,by rw[l.nd h.1.in.2];exact h.2⟩
theorem InG.in(h:InG σ i w g):1<=i/\i<=σ.len:=h.1.in
theorem InG.cur(i1:Inv H σ)(h:InG σ i w g):IsM σ (σ.ce (σ.nd i).main) w g:=by
 have hc:=i1.mainCell h.1.1
 have:=((i1.ce _ hc.1 hc.2.1).main i hc.2.2).2
 rwa [h.1.2,h.2] at this
theorem casNo{cs:List Int}{c o:Int}(h1:1<=c)(h2:c<=cs.length)(h:¬CasOk cs c o):cellV cs c≠o:=λ e=>h ⟨h1,h2,by unfold cellV at e;rwa [if_pos ⟨h1,h2⟩] at e⟩
theorem cas_wt{c o v:Int}{k:Bool->Tr}(h1:1<=c)(h2:c<=σ.cl)(i0:Inv H σ)(hset:∀τ,Le σ τ->Inv H τ->CasOk τ.mm.cs c o->SetOk τ c o v)
  (hk:∀τ b,Le σ τ->Inv H τ->(b=true->τ.ce c=v)->(b=false->τ.ce c≠o)->WT H Q (k b) τ):WT H Q (.cas c o v k) σ:=λ τ l1 i1 =>
 ⟨λ hc=>by
  obtain⟨υ,l2,i2,e2,e3⟩:=set_ok i1 hc (hset τ l1 i1 hc)
  exact⟨υ,l2,i2,e2,hk υ true (l1.trans i0 i1 l2) i2 (λ _=>e3) (λ h=>nomatch h)⟩,
 λ hc=>hk τ false l1 i1 (λ h=>nomatch h) (λ _=>casNo h1 (by have:=l1.cl;simp only[Kw.cl] at *;omega) hc)⟩
theorem alloc_wt{n:Nv}{c:Int}{k:Int->Tr}(i0:Inv H σ)(hn:NewOk H σ n w g)(hc:InOk σ n c w g)
  (hk:∀υ r cl,Le σ υ->Inv H υ->r=((σ.len+1:Nat):Int)->υ.mm=σ.mm.push n c->υ.nd r=alNv n cl->υ.way r=w->υ.gb r=g->1<=r->r<=υ.len->WT H Q (k r) υ):WT H Q (.alloc n c k) σ:=by
 obtain⟨υ,l2,i2,e2,e3,e4,e5⟩:=al_ok i0 hn hc
 refine⟨υ,l2,i2,e2,hk υ _ σ.cl l2 i2 rfl e2 e3 e4 e5 (by omega) ?_⟩
 have:υ.len=σ.len+1:=by simp only[Kw.len,e2,Mm.push,List.length_append,List.length_cons,List.length_nil]
 omega
structure Pend(σ:Kw)(m p:Int):Prop where
 mkd:MainK (σ.nd m)
 pk:MainK (σ.nd p)
 pm:PrevM σ m p
 ce:σ.ce (σ.nd m).prev=p∨σ.ce (σ.nd m).prev=0∨((σ.nd (σ.ce (σ.nd m).prev)).kind=7/\(σ.nd (σ.ce (σ.nd m).prev)).old=p)
theorem PrevM.up(i0:Inv H σ)(hm:MainK (σ.nd m))(h:PrevM σ m p)(l:Le σ τ):PrevM τ m p:=by
 have hr:1<=m/\m<=σ.len:=mainK_in hm
 exact⟨by rw[l.way m hr.2,l.gb m hr.2];exact h.1.up l,Settled.up i0 h.1.1 h.2 l⟩
theorem Pend.up(i0:Inv H σ)(i1:Inv H τ)(h:Pend σ m p)(l:Le σ τ):Pend τ m p:=by
 have hr:1<=m/\m<=σ.len:=mainK_in h.mkd
 have hp:1<=p/\p<=σ.len:=mainK_in h.pk
 have hc:=i0.prevCell h.mkd
 have hx:=l.nxt hc.1 hc.2.1 hc.2.2
 refine⟨by rw[l.nd hr.2];exact h.mkd,by rw[l.nd hp.2];exact h.pk,h.pm.up i0 h.mkd l,?_⟩
 rw[l.nd hr.2]
 rcases h.ce with e|e|⟨e1,e2⟩
 ·rw[e] at hx
  rcases hx.2 h.pk with h1|h1|h1
  ·exact .inl h1
  ·exact .inr (.inl h1)
  ·exact .inr (.inr h1)
 ·rw[e] at hx
  exact .inr (.inl (hx.1 (mk_dec (.inl (nd_zero _)))))
 ·have e3:=hx.1 (mk_dec (.inr (.inl e1)))
  rw[e3]
  rw[l.nd (kind_in (N:=σ.mm.nodes) (i:=σ.ce (σ.nd m).prev) (by rw[e1];decide)).2]
  exact .inr (.inr ⟨e1,e2⟩)
theorem Pend.cell(i0:Inv H σ)(h:Pend σ m p):1<=(σ.nd m).prev/\(σ.nd m).prev<=σ.cl/\σ.ct (σ.nd m).prev=.prev m:=i0.prevCell h.mkd
abbrev KM(H:ByteArray->Nat)(Q:Rs->Kw->Prop)(σ:Kw)(w:List Nat)(g:Int)(K:Int->Tr):Prop:=∀τ v,Le σ τ->Inv H τ->IsM τ v w g->Settled τ v->WT H Q (K v) τ
theorem KM.up{K:Int->Tr}(i0:Inv H σ)(i1:Inv H τ)(h:KM H Q σ w g K)(l:Le σ τ):KM H Q τ w g K:=λ υ v l2 i2=>h υ v (l.trans i0 i1 l2) i2
theorem fin_wt{K:Int->Tr}(i0:Inv H σ)(hi:InG σ i w g)(hm:IsM σ m w g)(h7:(σ.nd p).kind=7)(hp:PrevM σ m (σ.nd p).old)(hK:KM H Q σ w g K):WT H Q (finT i m p K) σ:=by
 have hr:1<=p/\p<=σ.len:=kind_in (N:=σ.mm.nodes) (i:=p) (by rw[h7];decide)
 have hc:=i0.mainCell hi.1.1
 have hold:IsM σ (σ.nd p).old w g:=by have:=hp.1;rw[hm.2.1] at this;exact this.le hm.2.2
 refine⟨hi.in.2,hr.2,cas_wt hc.1 hc.2.1 i0 (λ τ l1 i1 _=>?_) (λ τ b l1 i1 _ _=>⟨by have:=l1.len;have:=hr.2;omega,?_⟩)⟩
 ·have e:τ.ct (σ.nd i).main=.main i:=by rw[l1.ct _ hc.2.1];exact hc.2.2
  have ho:=hold.up l1
  refine⟨by have:=ho.in;omega,ho.in.2,λ i' h=>?_,λ m' h=>?_,λ d h=>?_,λ h=>?_,λ h=>?_⟩<;>rw[e] at h
  ·cases h
   have:=hi.up l1
   rw[this.1.2,this.2];exact ho
  ·cases h
  ·cases h
  ·cases h
  ·cases h
 ·rw[l1.nd hr.2]
  exact hK τ _ l1 i1 (hold.up l1) (Settled.up i0 hold.1 hp.2 l1)
theorem settle2_wt{K:Int->Tr}(i0:Inv H σ)(hi:InG σ i w g)(hm:IsM σ m w g)(hp:Pend σ m p)(hd:σ.ce (σ.nd m).prev≠p)(hK:KM H Q σ w g K):WT H Q (settle2T i m K) σ:=by
 have hc:=hp.cell i0
 have hr:=hm.in
 refine⟨hr.2,λ τ l1 i1=>?_⟩
 have hp1:=hp.up i0 i1 l1
 have e1:(τ.nd m).prev=(σ.nd m).prev:=by rw[l1.nd hr.2]
 have hce:=hp1.ce
 rw[e1] at hce
 have hne:τ.ce (σ.nd m).prev≠p:=by
  have hx:=l1.nxt hc.1 hc.2.1 hc.2.2
  have hk:¬MainK (σ.nd (σ.ce (σ.nd m).prev)):=by
   rcases hp.ce with e|e|e
   ·exact absurd e hd
   ·rw[e];exact mk_dec (.inl (nd_zero _))
   ·exact mk_dec (.inr (.inl e.1))
  rw[hx.1 hk]
  exact hd
 try dsimp only
 split
 ·rename_i e0
  refine hK τ m l1 i1 (hm.up l1) ?_
  unfold Settled
  rw[e1];exact e0
 ·rename_i e0
  rcases hce with e|e|⟨e,e2⟩
  ·exact absurd e hne
  ·exact absurd e e0
  ·exact fin_wt i1 (hi.up l1) (hm.up l1) e (by rw[e2];exact hp1.pm) (hK.up i0 i1 l1)
theorem comm_wt{K:Int->Tr}{c:Bool}(i0:Inv H σ)(hi:InG σ i w g)(hm:IsM σ m w g)(hp:Pend σ m p)(hK:KM H Q σ w g K):WT H Q (commT i m p c K) σ:=by
 have hr:=hm.in
 have hc:=hp.cell i0
 unfold commT
 try dsimp only
 split
 ·refine⟨hr.2,cas_wt hc.1 hc.2.1 i0 (λ τ l1 i1 _=>?_) (λ τ b l1 i1 ht hf=>?_)⟩
  ·have e:τ.ct (σ.nd m).prev=.prev m:=by rw[l1.ct _ hc.2.1];exact hc.2.2
   refine⟨Int.le_refl _,Int.natCast_nonneg _,λ i' h=>?_,λ m' h=>⟨(hp.up i0 i1 l1).pk,.inl rfl⟩,λ d h=>.inl rfl,λ h=>?_,λ h=>?_⟩<;>rw[e] at h<;>cases h
  ·refine settle2_wt i1 (hi.up l1) (hm.up l1) (hp.up i0 i1 l1) ?_ (hK.up i0 i1 l1)
   rw[l1.nd hr.2]
   cases b with
   | true=>rw[ht rfl];have:=(mainK_in hp.pk).1;omega
   | false=>exact hf rfl
 ·refine⟨hr.2,alloc_wt (w:=[]) (g:=0) i0 (new_fail i0 hp.pk) ⟨⟨Int.le_refl _,Int.natCast_nonneg _⟩,λ k=>no_k (a:=7) (b:=2) k,λ k=>absurd k (mk_dec (.inr (.inl rfl))),λ _=>rfl⟩ (λ υ f cl l1 i1 _ _ e1 _ _ hf1 hf2=>?_)⟩
  ·have hp1:=hp.up i0 i1 l1
   have hc1:=hp1.cell i1
   have e0:(υ.nd m).prev=(σ.nd m).prev:=by rw[l1.nd hr.2]
   rw[e0] at hc1
   have h7:(υ.nd f).kind=7/\(υ.nd f).old=p:=by rw[e1];exact⟨rfl,rfl⟩
   refine cas_wt hc1.1 hc1.2.1 i1 (λ τ l2 i2 _=>?_) (λ τ b l2 i2 ht hf=>?_)
   ·have e:τ.ct (σ.nd m).prev=.prev m:=by rw[l2.ct _ hc1.2.1];exact hc1.2.2
    refine⟨by omega,by have:=l2.len;omega,λ i' h=>?_,λ m' h=>⟨(hp1.up i1 i2 l2).pk,.inr ?_⟩,λ d h=>?_,λ h=>?_,λ h=>?_⟩
    ·rw[e] at h;cases h
    ·rw[l2.nd hf2];exact h7
    ·rw[e] at h;cases h
    ·rw[e] at h;cases h
    ·rw[e] at h;cases h
   ·have hp2:=hp1.up i1 i2 l2
    refine settle2_wt i2 ((hi.up l1).up l2) ((hm.up l1).up l2) hp2 ?_ ((hK.up i0 i1 l1).up i1 i2 l2)
    rw[l2.nd (by have:=l1.len;omega),e0]
    cases b with
    | true =>
     rw[ht rfl]
     intro e
     have:=hp1.pk
     rw[<- e] at this
     exact absurd this (mk_dec (.inr (.inl h7.1)))
    | false=>exact hf rfl
abbrev KR(H:ByteArray->Nat)(Q:Rs->Kw->Prop)(σ:Kw)(K:Int->Tr):Prop:=∀τ r,Le σ τ->Inv H τ->IsI τ r []->WT H Q (K r) τ
theorem KR.up{K:Int->Tr}(i0:Inv H σ)(i1:Inv H τ)(h:KR H Q σ K)(l:Le σ τ):KR H Q τ K:=λ υ v l2 i2=>h υ v (l.trans i0 i1 l2) i2
theorem Inv.desc(i0:Inv H σ){v:Int}(h:(σ.nd v).kind=8):v<=σ.len/\IsI σ (σ.nd v).old []/\IsI σ (σ.nd v).new []/\1<=(σ.nd v).status/\(σ.nd v).status<=σ.cl/\σ.ct (σ.nd v).status=.stat v:=by
 have hr:1<=v/\v<=σ.len:=kind_in (N:=σ.mm.nodes) (i:=v) (by rw[h];decide)
 have hn:=i0.nd v hr.1 hr.2
 have h8:=hn.k8 h
 exact⟨hr.2,h8.1,h8.2.1,h8.2.2.1,hn.bd.status,h8.2.2.2⟩
theorem TrieOk.rw(hT:TrieOk σ t)(hr:t.ro=false):σ.ct t.root=.root:=by rw[hT.2.2,hr];rfl
theorem cmp_wt{v s:Int}{K:Int->Tr}(hT:TrieOk σ t)(hro:t.ro=false)(i0:Inv H σ)(h:(σ.nd v).kind=8)(hK:KR H Q σ K):WT H Q (cmpT t v s K) σ:=by
 have hd:=i0.desc h
 refine⟨hd.1,?_⟩
 show WT H Q (.cas t.root v (if s=1 then(σ.nd v).new else(σ.nd v).old) λ _=>K (if s=1 then(σ.nd v).new else(σ.nd v).old)) σ
 have hw:IsI σ (if s=1 then(σ.nd v).new else(σ.nd v).old) []:=by split;exact hd.2.2.1;exact hd.2.1
 generalize (if s=1 then(σ.nd v).new else(σ.nd v).old)=w at hw ⊢
 refine cas_wt hT.1 hT.2.1 i0 (λ τ l1 i1 _=>?_) (λ τ b l1 i1 _ _=>hK τ w l1 i1 (hw.up l1))
 have e:=(hT.up l1).rw hro
 have hw1:=hw.up l1
 refine⟨by have:=hw1.in;omega,hw1.in.2,λ i' h=>?_,λ m' h=>?_,λ d h=>?_,λ h=>.inl hw1,λ h=>?_⟩<;>rw[e] at h<;>cases h
theorem stat_set{v s:Int}(i0:Inv H σ)(h:(σ.nd v).kind=8)(hs:s=1∨s=2){o:Int}(l1:Le σ τ)(i1:Inv H τ):SetOk τ (σ.nd v).status o s:=by
 have hd:=i0.desc h
 have e:τ.ct (σ.nd v).status=.stat v:=by rw[l1.ct _ hd.2.2.2.2.1];exact hd.2.2.2.2.2
 refine⟨by omega,by have:=i1.two;omega,λ i' h=>?_,λ m' h=>?_,λ d h=>.inr hs,λ h=>?_,λ h=>?_⟩<;>rw[e] at h<;>cases h
theorem rootV(hT:TrieOk σ t)(i0:Inv H σ):σ.ce t.root<=σ.len/\(IsI σ (σ.ce t.root) []∨((σ.nd (σ.ce t.root)).kind=8/\t.ro=false)):=by
 have h:=i0.ce _ hT.1 hT.2.1
 refine⟨h.hi,?_⟩
 cases hr:t.ro with
 | true=>exact .inl (h.rort (by rw[hT.2.2,hr];rfl))
 | false =>
  rcases h.root (hT.rw hr) with h1|h1
  ·exact .inl h1
  ·exact .inr ⟨h1,rfl⟩
theorem TrieOk.roI(hT:TrieOk σ t)(i0:Inv H σ)(hr:t.ro=true):IsI σ (σ.ce t.root) []:=(i0.ce _ hT.1 hT.2.1).rort (by rw[hT.2.2,hr];rfl)
theorem root_wt{K:Int->Tr}(hT:TrieOk σ t)(i0:Inv H σ)(hK:KR H Q σ K):WT H Q (rootT t K) σ:=λ τ l1 i1=>by
 have hT1:=hT.up l1
 have hv:=rootV hT1 i1
 generalize τ.ce t.root=v at hv ⊢
 refine⟨hv.1,?_⟩
 try dsimp only
 split
 ·rename_i h2
  rcases hv.2 with h|h
  ·exact hK τ v l1 i1 h
  ·rw[h.1] at h2;exact absurd h2 (by decide)
 ·rename_i h2
  have h8r:(τ.nd v).kind=8/\t.ro=false:=by
   rcases hv.2 with h|h
   ·exact absurd h.1 h2
   ·exact h
  have h8:=h8r.1
  have hd:=i1.desc h8
  refine⟨hv.1,λ υ l2 i2=>?_⟩
  have h8':(υ.nd v).kind=8:=by rw[l2.nd hv.1];exact h8
  have hv':v<=υ.len:=by have:=l2.len;have:=hv.1;omega
  have hK1:=hK.up i0 i1 l1
  try dsimp only
  split
  ·refine⟨hv',cas_wt (i2.desc h8').2.2.2.1 (i2.desc h8').2.2.2.2.1 i2 (λ ρ l3 i3 _=>stat_set i2 h8' (.inr rfl) l3 i3) (λ ρ b l3 i3 _ _=>⟨by have:=l3.len;omega,λ χ l4 i4=>?_⟩)⟩
   refine cmp_wt ((((hT1.up l2).up l3)).up l4) h8r.2 i4 (by rw[l4.nd (by have:=l3.len;omega),l3.nd hv'];exact h8') (((hK1.up i1 i2 l2).up i2 i3 l3).up i3 i4 l4)
  ·exact cmp_wt (hT1.up l2) h8r.2 i2 h8' (hK1.up i1 i2 l2)
theorem settle_wt{K:Int->Tr}(hT:TrieOk σ t)(i0:Inv H σ)(hi:InG σ i w g)(hm:IsM σ m w g)(hK:KM H Q σ w g K):WT H Q (settleT t i m K) σ:=by
 have hr:=hm.in
 have hc:=i0.prevCell hm.1
 refine⟨hr.2,λ τ l1 i1=>?_⟩
 have e1:(τ.nd m).prev=(σ.nd m).prev:=by rw[l1.nd hr.2]
 have hc1:1<=(σ.nd m).prev/\(σ.nd m).prev<=τ.cl/\τ.ct (σ.nd m).prev=.prev m:=by rw[<- e1];exact i1.prevCell (hm.up l1).1
 have hce:=i1.ce _ hc1.1 hc1.2.1
 have hp:=hce.prev m hc1.2.2
 have hhi:=hce.hi
 try dsimp only
 split
 ·rename_i e0
  refine hK τ m l1 i1 (hm.up l1) ?_
  unfold Settled
  rw[e1];exact e0
 ·rename_i e0
  refine⟨hhi,?_⟩
  try dsimp only
  split
  ·rename_i hk
   have hpm:PrevM τ m (τ.ce (σ.nd m).prev):=by
    rcases hp.2 with h|h|h
    ·exact absurd h e0
    ·exact h
    ·exact absurd hk (mk_dec (.inr (.inl h.1)))
   have hpend:Pend τ m (τ.ce (σ.nd m).prev):=⟨hp.1,hk,hpm,.inl (by rw[e1])⟩
   try dsimp only
   split
   ·exact comm_wt i1 (hi.up l1) (hm.up l1) hpend (hK.up i0 i1 l1)
   ·refine root_wt (hT.up l1) i1 λ υ r l2 i2 hr2=>⟨hr2.in.2,((hi.up l1).up l2).in.2,?_⟩
    exact comm_wt i2 ((hi.up l1).up l2) ((hm.up l1).up l2) (hpend.up i1 i2 l2) ((hK.up i0 i1 l1).up i1 i2 l2)
  ·rename_i hk
   rcases hp.2 with h|h|h
   ·exact absurd h e0
   ·exact absurd h.1.1 hk
   ·exact fin_wt i1 (hi.up l1) (hm.up l1) h.1 h.2 (hK.up i0 i1 l1)
theorem read_wt{K:Int->Tr}(hT:TrieOk σ t)(i0:Inv H σ)(hi:InG σ i w g)(hK:KM H Q σ w g K):WT H Q (readT t i K) σ:=⟨hi.in.2,λ τ l1 i1=>by
 have hi1:=hi.up l1
 have hm:=hi1.cur i1
 rw[l1.nd hi.in.2] at hm
 exact settle_wt (hT.up l1) i1 hi1 hm (hK.up i0 i1 l1)⟩
theorem decide_wt{v:Int}{K:Tr}(hT:TrieOk σ t)(i0:Inv H σ)(h:(σ.nd v).kind=8)(hK:∀τ,Le σ τ->Inv H τ->WT H Q K τ):WT H Q (decideT t v K) σ:=by
 have hd:=i0.desc h
 refine⟨hd.1,read_wt hT i0 (g:=(σ.nd (σ.nd v).old).gen) ⟨hd.2.1,rfl⟩ λ τ m l1 i1 _ _=>⟨by have:=l1.len;omega,by have:=l1.len;omega,?_⟩⟩
 have h8:(τ.nd v).kind=8:=by rw[l1.nd hd.1];exact h
 have hd1:=i1.desc h8
 refine cas_wt hd1.2.2.2.1 hd1.2.2.2.2.1 i1 (λ ρ l3 i3 _=>stat_set i1 h8 (by split<;>simp) l3 i3) (λ ρ b l3 i3 _ _=>hK ρ (l1.trans i0 i1 l3) i3)
theorem help_wt{K:Int->Tr}(hT:TrieOk σ t)(i0:Inv H σ)(hK:KR H Q σ K):WT H Q (helpT t K) σ:=λ τ l1 i1=>by
 have hT1:=hT.up l1
 have hv:=rootV hT1 i1
 generalize τ.ce t.root=v at hv ⊢
 refine⟨hv.1,?_⟩
 try dsimp only
 split
 ·rename_i h2
  rcases hv.2 with h|h
  ·exact hK τ v l1 i1 h
  ·rw[h.1] at h2;exact absurd h2 (by decide)
 ·rename_i h2
  have h8r:(τ.nd v).kind=8/\t.ro=false:=by
   rcases hv.2 with h|h
   ·exact absurd h.1 h2
   ·exact h
  have h8:=h8r.1
  refine⟨hv.1,λ υ l2 i2=>?_⟩
  have h8':(υ.nd v).kind=8:=by rw[l2.nd hv.1];exact h8
  have hv':v<=υ.len:=by have:=l2.len;have:=hv.1;omega
  have hK1:=hK.up i0 i1 l1
  try dsimp only
  split
  ·refine decide_wt (hT1.up l2) i2 h8' λ ρ l3 i3=>⟨by have:=l3.len;omega,λ χ l4 i4=>?_⟩
   refine cmp_wt ((((hT1.up l2).up l3)).up l4) h8r.2 i4 (by rw[l4.nd (by have:=l3.len;omega),l3.nd hv'];exact h8') (((hK1.up i1 i2 l2).up i2 i3 l3).up i3 i4 l4)
  ·exact cmp_wt (hT1.up l2) h8r.2 i2 h8' (hK1.up i1 i2 l2)
abbrev KB(H:ByteArray->Nat)(Q:Rs->Kw->Prop)(σ:Kw)(K:Bool->Tr):Prop:=∀τ b,Le σ τ->Inv H τ->WT H Q (K b) τ
theorem main_set{n o:Int}(i0:Inv H σ)(hi:InG σ i w g)(hn:IsM σ n w g)(l1:Le σ τ)(i1:Inv H τ):SetOk τ (σ.nd i).main o n:=by
 have hc:=i0.mainCell hi.1.1
 have e:τ.ct (σ.nd i).main=.main i:=by rw[l1.ct _ hc.2.1];exact hc.2.2
 have hn1:=hn.up l1
 refine⟨by have:=hn1.in;omega,hn1.in.2,λ i' h=>?_,λ m' h=>?_,λ d h=>?_,λ h=>?_,λ h=>?_⟩<;>rw[e] at h
 ·cases h
  have:=hi.up l1
  rw[this.1.2,this.2];exact hn1
 ·cases h
 ·cases h
 ·cases h
 ·cases h
theorem gcas_wt{o n:Int}{K:Bool->Tr}(hT:TrieOk σ t)(i0:Inv H σ)(hi:InG σ i w g)(hn:IsM σ n w g)(hK:KB H Q σ K):WT H Q (gcasT t i o n K) σ:=by
 have hc:=i0.mainCell hi.1.1
 refine⟨hi.in.2,cas_wt hc.1 hc.2.1 i0 (λ τ l1 i1 _=>main_set i0 hi hn l1 i1) (λ τ b l1 i1 _ _=>?_)⟩
 try dsimp only
 split
 ·exact settle_wt (hT.up l1) i1 (hi.up l1) (hn.up l1) λ υ v l2 i2 _ _=>hK υ _ (l1.trans i0 i1 l2) i2
 ·exact hK τ _ l1 i1
theorem rdcss_wt{o e n:Int}{K:Bool->Tr}(hT:TrieOk σ t)(hro:t.ro=false)(i0:Inv H σ)(ho:IsI σ o [])(hn:IsI σ n [])(he1:1<=e)(he2:e<=σ.len)(hK:KB H Q σ K):WT H Q (rdcssT t o e n K) σ:=by
 refine alloc_wt (w:=[]) (g:=0) i0 (new_desc i0 ho he1 he2 hn) ⟨⟨Int.le_refl _,Int.natCast_nonneg _⟩,λ k=>no_k (a:=8) (b:=2) k,λ k=>absurd k (mk_dec (.inr (.inr (.inr (.inl rfl))))),λ _=>rfl⟩ (λ υ d cl l1 i1 _ _ e1 _ _ hd1 hd2=>?_)
 ·have h8:(υ.nd d).kind=8:=by rw[e1];rfl
  have hT1:=hT.up l1
  refine cas_wt hT1.1 hT1.2.1 i1 (λ τ l2 i2 _=>?_) (λ τ b l2 i2 _ _=>?_)
  ·have e:=(hT1.up l2).rw hro
   refine⟨by omega,by have:=l2.len;omega,λ i' h=>?_,λ m' h=>?_,λ d h=>?_,λ h=>.inr (by rw[l2.nd hd2];exact h8),λ h=>?_⟩<;>rw[e] at h<;>cases h
  ·have h8':(τ.nd d).kind=8:=by rw[l2.nd hd2];exact h8
   have hd2':d<=τ.len:=by have:=l2.len;omega
   try dsimp only
   split
   ·refine decide_wt (hT1.up l2) i2 h8' λ ρ l3 i3=>⟨by have:=l3.len;omega,λ χ l4 i4=>?_⟩
    refine cmp_wt (((hT1.up l2).up l3).up l4) hro i4 (by rw[l4.nd (by have:=l3.len;omega),l3.nd hd2'];exact h8') λ ψ _ l5 i5 _=>?_
    exact hK ψ _ (((l1.trans i0 i1 l2).trans i0 i2 l3 |>.trans i0 i3 l4).trans i0 i4 l5) i5
   ·exact hK τ _ (l1.trans i0 i1 l2) i2
end
end Go.Proofs.YtpobgmdalcpomaaGreat
