/- Tries of worlds: READ, SETTLE, ROOT, HELP, DECIDE, GCAS, RDCSS keep the labels. -/
import Derived.Test.YtadnboagdhcedaaGreatDoorGKw1

set_option linter.unusedSimpArgs false
set_option linter.unusedVariables false
namespace Go.Proofs.YtadnboagdhcedaaGreatDoor
section
open Go.Ct
def ctR(ro:Bool):CT:=if ro=true then .rort else .root
def dX(σ:Kw)(t:iS):Prop:=1<=t.root/\t.root<=σ.cl/\σ.ct t.root=ctR t.ro
def sN(σ:Kw)(i:Int)(w:List Nat)(g:Int):Prop:=xS σ i w/\(σ.nd i).gen=g
section
variable{H:ByteArray->Nat}{Q:Rs->Kw->Prop}{σ τ υ:Kw}{i m p g:Int}{w:List Nat}{t:iS}
theorem dX.up(h:dX σ t)(l:Le σ τ):dX τ t:=⟨h.1,by have:=h.2.1;have:=l.cl;omega,by rw[l.ct _ h.2.1];exact h.2.2⟩
theorem sN.up(h:sN σ i w g)(l:Le σ τ):sN τ i w g:=⟨h.1.up l,by rw[l.nd h.1.in.2];exact h.2⟩
theorem sN.in(h:sN σ i w g):1<=i/\i<=σ.len:=h.1.in
theorem sN.vz(i1:Inv H σ)(h:sN σ i w g):pP σ (σ.ce (σ.nd i).main) w g:=by
 have hc:=i1.Cc h.1.1;have:=((i1.ce _ hc.1 hc.2.1).main i hc.2.2).2;rwa [h.1.2,h.2] at this
theorem aBz{cs:List Int}{c o:Int}(h1:1<=c)(h2:c<=cs.length)(h:¬nD cs c o):bV cs c≠o:=λ e=>h ⟨h1,h2,by unfold bV at e;rwa [if_pos ⟨h1,h2⟩] at e⟩
theorem xN{c o v:Int}{k:Bool->Tr}(h1:1<=c)(h2:c<=σ.cl)(i0:Inv H σ)(hset:∀τ,Le σ τ->Inv H τ->nD τ.mm.cs c o->P6 τ c o v)
  (hk:∀τ b,Le σ τ->Inv H τ->(b=true->τ.ce c=v)->(b=false->τ.ce c≠o)->WT H Q (k b) τ):WT H Q (.rP c o v k) σ:=λ τ l1 i1 =>
 ⟨λ hc=>by
  obtain⟨υ,l2,i2,e2,e3⟩:=aAG i1 hc (hset τ l1 i1 hc)
  exact⟨υ,l2,i2,e2,hk υ true (l1.trans i0 i1 l2) i2 (λ _=>e3) (λ h=>nomatch h)⟩,
 λ hc=>hk τ false l1 i1 (λ h=>nomatch h) (λ _=>aBz h1 (by have:=l1.cl;simp only[Kw.cl] at *;omega) hc)⟩
theorem gN{n:Nv}{c:Int}{k:Int->Tr}(i0:Inv H σ)(hn:mE H σ n w g)(hc:sj σ n c w g)
  (hk:∀υ r cl,Le σ υ->Inv H υ->r=((σ.len+1:Nat):Int)->υ.mm=σ.mm.push n c->υ.nd r=eH n cl->υ.way r=w->υ.gb r=g->1<=r->r<=υ.len->WT H Q (k r) υ):WT H Q (.alloc n c k) σ:=by
 obtain⟨υ,l2,i2,e2,e3,e4,e5⟩:=aCa i0 hn hc
 refine⟨υ,l2,i2,e2,hk υ _ σ.cl l2 i2 rfl e2 e3 e4 e5 (by omega) ?_⟩;have:υ.len=σ.len+1:=by simp only[Kw.len,e2,Mm.push,List.length_append,List.length_cons,List.length_nil]
 omega
structure Pa(σ:Kw)(m p:Int):Prop where
 mkd:cC (σ.nd m)
 pk:cC (σ.nd p)
 pm:pX σ m p
 ce:σ.ce (σ.nd m).prev=p∨σ.ce (σ.nd m).prev=0∨((σ.nd (σ.ce (σ.nd m).prev)).kind=7/\(σ.nd (σ.ce (σ.nd m).prev)).bO=p)
theorem pX.up(i0:Inv H σ)(hm:cC (σ.nd m))(h:pX σ m p)(l:Le σ τ):pX τ m p:=by
 have hr:1<=m/\m<=σ.len:=kG hm;exact⟨by rw[l.way m hr.2,l.gb m hr.2];exact h.1.up l,eO.up i0 h.1.1 h.2 l⟩
theorem Pa.up(i0:Inv H σ)(i1:Inv H τ)(h:Pa σ m p)(l:Le σ τ):Pa τ m p:=by
 have hr:1<=m/\m<=σ.len:=kG h.mkd;have hp:1<=p/\p<=σ.len:=kG h.pk;have hc:=i0.pV h.mkd;have hx:=l.nxt hc.1 hc.2.1 hc.2.2;refine⟨by rw[l.nd hr.2];exact h.mkd,by rw[l.nd hp.2];exact h.pk,h.pm.up i0 h.mkd l,?_⟩;rw[l.nd hr.2];rcases h.ce with e|e|⟨e1,e2⟩
 ·rw[e] at hx
  rcases hx.2 h.pk with h1|h1|h1
  ·exact .inl h1
  ·exact .inr (.inl h1)
  ·exact .inr (.inr h1)
 ·rw[e] at hx
  exact .inr (.inl (hx.1 (kZ (.inl (xU _)))))
 ·have e3:=hx.1 (kZ (.inr (.inl e1)));rw[e3];rw[l.nd (eF (N:=σ.mm.nodes) (i:=σ.ce (σ.nd m).prev) (by rw[e1];decide)).2];exact .inr (.inr ⟨e1,e2⟩)
theorem Pa.cell(i0:Inv H σ)(h:Pa σ m p):1<=(σ.nd m).prev/\(σ.nd m).prev<=σ.cl/\σ.ct (σ.nd m).prev=.prev m:=i0.pV h.mkd
abbrev KM(H:ByteArray->Nat)(Q:Rs->Kw->Prop)(σ:Kw)(w:List Nat)(g:Int)(K:Int->Tr):Prop:=∀τ v,Le σ τ->Inv H τ->pP τ v w g->eO τ v->WT H Q (K v) τ
theorem KM.up{K:Int->Tr}(i0:Inv H σ)(i1:Inv H τ)(h:KM H Q σ w g K)(l:Le σ τ):KM H Q τ w g K:=λ υ v l2 i2=>h υ v (l.trans i0 i1 l2) i2
theorem mh{K:Int->Tr}(i0:Inv H σ)(hi:sN σ i w g)(hm:pP σ m w g)(h7:(σ.nd p).kind=7)(hp:pX σ m (σ.nd p).bO)(hK:KM H Q σ w g K):WT H Q (ku i m p K) σ:=by
 have hr:1<=p/\p<=σ.len:=eF (N:=σ.mm.nodes) (i:=p) (by rw[h7];decide);have hc:=i0.Cc hi.1.1;have hold:pP σ (σ.nd p).bO w g:=by have:=hp.1;rw[hm.2.1] at this;exact this.le hm.2.2
 refine⟨hi.in.2,hr.2,xN hc.1 hc.2.1 i0 (λ τ l1 i1 _=>?_) (λ τ b l1 i1 _ _=>⟨by have:=l1.len;have:=hr.2;omega,?_⟩)⟩
 ·have e:τ.ct (σ.nd i).main=.main i:=by rw[l1.ct _ hc.2.1];exact hc.2.2
  have ho:=hold.up l1;refine⟨by have:=ho.in;omega,ho.in.2,λ i' h=>?_,λ m' h=>?_,λ d h=>?_,λ h=>?_,λ h=>?_⟩<;>rw[e] at h
  ·cases h
   have:=hi.up l1;rw[this.1.2,this.2];exact ho
  ·cases h
  ·cases h
  ·cases h
  ·cases h
 ·rw[l1.nd hr.2]
  exact hK τ _ l1 i1 (hold.up l1) (eO.up i0 hold.1 hp.2 l1)
theorem Ht{K:Int->Tr}(i0:Inv H σ)(hi:sN σ i w g)(hm:pP σ m w g)(hp:Pa σ m p)(hd:σ.ce (σ.nd m).prev≠p)(hK:KM H Q σ w g K):WT H Q (vL i m K) σ:=by
 have hc:=hp.cell i0;have hr:=hm.in;refine⟨hr.2,λ τ l1 i1=>?_⟩;have hp1:=hp.up i0 i1 l1;have e1:(τ.nd m).prev=(σ.nd m).prev:=by rw[l1.nd hr.2]
 have hce:=hp1.ce;rw[e1] at hce
 have hne:τ.ce (σ.nd m).prev≠p:=by
  have hx:=l1.nxt hc.1 hc.2.1 hc.2.2
  have hk:¬cC (σ.nd (σ.ce (σ.nd m).prev)):=by
   rcases hp.ce with e|e|e
   ·exact absurd e hd
   ·rw[e];exact kZ (.inl (xU _))
   ·exact kZ (.inr (.inl e.1))
  rw[hx.1 hk]
  exact hd
 try dsimp only
 split
 ·rename_i e0
  refine hK τ m l1 i1 (hm.up l1) ?_;unfold eO;rw[e1];exact e0
 ·rename_i e0
  rcases hce with e|e|⟨e,e2⟩
  ·exact absurd e hne
  ·exact absurd e e0
  ·exact mh i1 (hi.up l1) (hm.up l1) e (by rw[e2];exact hp1.pm) (hK.up i0 i1 l1)
theorem Wa{K:Int->Tr}{c:Bool}(i0:Inv H σ)(hi:sN σ i w g)(hm:pP σ m w g)(hp:Pa σ m p)(hK:KM H Q σ w g K):WT H Q (Gn i m p c K) σ:=by
 have hr:=hm.in;have hc:=hp.cell i0;unfold Gn;try dsimp only
 split
 ·refine⟨hr.2,xN hc.1 hc.2.1 i0 (λ τ l1 i1 _=>?_) (λ τ b l1 i1 ht hf=>?_)⟩
  ·have e:τ.ct (σ.nd m).prev=.prev m:=by rw[l1.ct _ hc.2.1];exact hc.2.2
   refine⟨Int.le_refl _,bT _,λ i' h=>?_,λ m' h=>⟨(hp.up i0 i1 l1).pk,.inl rfl⟩,λ d h=>.inl rfl,λ h=>?_,λ h=>?_⟩<;>rw[e] at h<;>cases h
  ·refine Ht i1 (hi.up l1) (hm.up l1) (hp.up i0 i1 l1) ?_ (hK.up i0 i1 l1);rw[l1.nd hr.2];cases b with
   | true=>rw[ht rfl];have:=(kG hp.pk).1;omega
   | false=>exact hf rfl
 ·refine⟨hr.2,gN (w:=[]) (g:=0) i0 (al i0 hp.pk) ⟨⟨Int.le_refl _,bT _⟩,λ k=>fC (a:=7) (b:=2) k,λ k=>absurd k (kZ (.inr (.inl rfl))),λ _=>rfl⟩ (λ υ f cl l1 i1 _ _ e1 _ _ hf1 hf2=>?_)⟩
  ·have hp1:=hp.up i0 i1 l1;have hc1:=hp1.cell i1;have e0:(υ.nd m).prev=(σ.nd m).prev:=by rw[l1.nd hr.2]
   rw[e0] at hc1;have h7:(υ.nd f).kind=7/\(υ.nd f).bO=p:=by rw[e1];exact⟨rfl,rfl⟩
   refine xN hc1.1 hc1.2.1 i1 (λ τ l2 i2 _=>?_) (λ τ b l2 i2 ht hf=>?_)
   ·have e:τ.ct (σ.nd m).prev=.prev m:=by rw[l2.ct _ hc1.2.1];exact hc1.2.2
    refine⟨by omega,by have:=l2.len;omega,λ i' h=>?_,λ m' h=>⟨(hp1.up i1 i2 l2).pk,.inr ?_⟩,λ d h=>?_,λ h=>?_,λ h=>?_⟩
    ·rw[e] at h;cases h
    ·rw[l2.nd hf2];exact h7
    ·rw[e] at h;cases h
    ·rw[e] at h;cases h
    ·rw[e] at h;cases h
   ·have hp2:=hp1.up i1 i2 l2;refine Ht i2 ((hi.up l1).up l2) ((hm.up l1).up l2) hp2 ?_ ((hK.up i0 i1 l1).up i1 i2 l2);rw[l2.nd (by have:=l1.len;omega),e0];cases b with
    | true =>
     rw[ht rfl]
     intro e
     have:=hp1.pk;rw[<- e] at this;exact absurd this (kZ (.inr (.inl h7.1)))
    | false=>exact hf rfl
abbrev KR(H:ByteArray->Nat)(Q:Rs->Kw->Prop)(σ:Kw)(K:Int->Tr):Prop:=∀τ r,Le σ τ->Inv H τ->xS τ r []->WT H Q (K r) τ
theorem KR.up{K:Int->Tr}(i0:Inv H σ)(i1:Inv H τ)(h:KR H Q σ K)(l:Le σ τ):KR H Q τ K:=λ υ v l2 i2=>h υ v (l.trans i0 i1 l2) i2
theorem Inv.desc(i0:Inv H σ){v:Int}(h:(σ.nd v).kind=8):v<=σ.len/\xS σ (σ.nd v).bO []/\xS σ (σ.nd v).new []/\1<=(σ.nd v).status/\(σ.nd v).status<=σ.cl/\σ.ct (σ.nd v).status=.stat v:=by
 have hr:1<=v/\v<=σ.len:=eF (N:=σ.mm.nodes) (i:=v) (by rw[h];decide);have hn:=i0.nd v hr.1 hr.2;have h8:=hn.k8 h;exact⟨hr.2,h8.1,h8.2.1,h8.2.2.1,hn.bd.status,h8.2.2.2⟩
theorem dX.rw(hT:dX σ t)(hr:t.ro=false):σ.ct t.root=.root:=by rw[hT.2.2,hr];rfl
theorem Fp{v s:Int}{K:Int->Tr}(hT:dX σ t)(hro:t.ro=false)(i0:Inv H σ)(h:(σ.nd v).kind=8)(hK:KR H Q σ K):WT H Q (Kt t v s K) σ:=by
 have hd:=i0.desc h;refine⟨hd.1,?_⟩;show WT H Q (.rP t.root v (if s=1 then(σ.nd v).new else(σ.nd v).bO) λ _=>K (if s=1 then(σ.nd v).new else(σ.nd v).bO)) σ
 have hw:xS σ (if s=1 then(σ.nd v).new else(σ.nd v).bO) []:=by split;exact hd.2.2.1;exact hd.2.1
 generalize (if s=1 then(σ.nd v).new else(σ.nd v).bO)=w at hw ⊢;refine xN hT.1 hT.2.1 i0 (λ τ l1 i1 _=>?_) (λ τ b l1 i1 _ _=>hK τ w l1 i1 (hw.up l1));have e:=(hT.up l1).rw hro;have hw1:=hw.up l1;refine⟨by have:=hw1.in;omega,hw1.in.2,λ i' h=>?_,λ m' h=>?_,λ d h=>?_,λ h=>.inl hw1,λ h=>?_⟩<;>rw[e] at h<;>cases h
theorem Oi{v s:Int}(i0:Inv H σ)(h:(σ.nd v).kind=8)(hs:s=1∨s=2){o:Int}(l1:Le σ τ)(i1:Inv H τ):P6 τ (σ.nd v).status o s:=by
 have hd:=i0.desc h;have e:τ.ct (σ.nd v).status=.stat v:=by rw[l1.ct _ hd.2.2.2.2.1];exact hd.2.2.2.2.2
 refine⟨by omega,by have:=i1.two;omega,λ i' h=>?_,λ m' h=>?_,λ d h=>.inr hs,λ h=>?_,λ h=>?_⟩<;>rw[e] at h<;>cases h
theorem ld(hT:dX σ t)(i0:Inv H σ):σ.ce t.root<=σ.len/\(xS σ (σ.ce t.root) []∨((σ.nd (σ.ce t.root)).kind=8/\t.ro=false)):=by
 have h:=i0.ce _ hT.1 hT.2.1;refine⟨h.hi,?_⟩;cases hr:t.ro with
 | true=>exact .inl (h.rort (by rw[hT.2.2,hr];rfl))
 | false =>
  rcases h.root (hT.rw hr) with h1|h1
  ·exact .inl h1
  ·exact .inr ⟨h1,rfl⟩
theorem dX.roI(hT:dX σ t)(i0:Inv H σ)(hr:t.ro=true):xS σ (σ.ce t.root) []:=(i0.ce _ hT.1 hT.2.1).rort (by rw[hT.2.2,hr];rfl)
theorem ru{K:Int->Tr}(hT:dX σ t)(i0:Inv H σ)(hK:KR H Q σ K):WT H Q (Uy t K) σ:=λ τ l1 i1=>by
 have hT1:=hT.up l1;have hv:=ld hT1 i1;generalize τ.ce t.root=v at hv ⊢;refine⟨hv.1,?_⟩;try dsimp only
 split
 ·rename_i h2
  rcases hv.2 with h|h
  ·exact hK τ v l1 i1 h
  ·rw[h.1] at h2;exact absurd h2 (by decide)
 ·rename_i h2
  have h8r:(τ.nd v).kind=8/\t.ro=false:=by
   rcases hv.2 with h|h
   ·exact absurd h.1 h2
   ·exact h
  have h8:=h8r.1;have hd:=i1.desc h8;refine⟨hv.1,λ υ l2 i2=>?_⟩;have h8':(υ.nd v).kind=8:=by rw[l2.nd hv.1];exact h8
  have hv':v<=υ.len:=by have:=l2.len;have:=hv.1;omega
  have hK1:=hK.up i0 i1 l1;try dsimp only
  split
  ·refine⟨hv',xN (i2.desc h8').2.2.2.1 (i2.desc h8').2.2.2.2.1 i2 (λ ρ l3 i3 _=>Oi i2 h8' (.inr rfl) l3 i3) (λ ρ b l3 i3 _ _=>⟨by have:=l3.len;omega,λ χ l4 i4=>?_⟩)⟩;refine Fp ((((hT1.up l2).up l3)).up l4) h8r.2 i4 (by rw[l4.nd (by have:=l3.len;omega),l3.nd hv'];exact h8') (((hK1.up i1 i2 l2).up i2 i3 l3).up i3 i4 l4)
  ·exact Fp (hT1.up l2) h8r.2 i2 h8' (hK1.up i1 i2 l2)
theorem I0{K:Int->Tr}(hT:dX σ t)(i0:Inv H σ)(hi:sN σ i w g)(hm:pP σ m w g)(hK:KM H Q σ w g K):WT H Q (A4 t i m K) σ:=by
 have hr:=hm.in;have hc:=i0.pV hm.1;refine⟨hr.2,λ τ l1 i1=>?_⟩;have e1:(τ.nd m).prev=(σ.nd m).prev:=by rw[l1.nd hr.2]
 have hc1:1<=(σ.nd m).prev/\(σ.nd m).prev<=τ.cl/\τ.ct (σ.nd m).prev=.prev m:=by rw[<- e1];exact i1.pV (hm.up l1).1
 have hce:=i1.ce _ hc1.1 hc1.2.1;have hp:=hce.prev m hc1.2.2;have hhi:=hce.hi;try dsimp only
 split
 ·rename_i e0
  refine hK τ m l1 i1 (hm.up l1) ?_;unfold eO;rw[e1];exact e0
 ·rename_i e0
  refine⟨hhi,?_⟩;try dsimp only
  split
  ·rename_i hk
   have hpm:pX τ m (τ.ce (σ.nd m).prev):=by
    rcases hp.2 with h|h|h
    ·exact absurd h e0
    ·exact h
    ·exact absurd hk (kZ (.inr (.inl h.1)))
   have hpend:Pa τ m (τ.ce (σ.nd m).prev):=⟨hp.1,hk,hpm,.inl (by rw[e1])⟩;try dsimp only
   split
   ·exact Wa i1 (hi.up l1) (hm.up l1) hpend (hK.up i0 i1 l1)
   ·refine ru (hT.up l1) i1 λ υ r l2 i2 hr2=>⟨hr2.in.2,((hi.up l1).up l2).in.2,?_⟩;exact Wa i2 ((hi.up l1).up l2) ((hm.up l1).up l2) (hpend.up i1 i2 l2) ((hK.up i0 i1 l1).up i1 i2 l2)
  ·rename_i hk
   rcases hp.2 with h|h|h
   ·exact absurd h e0
   ·exact absurd h.1.1 hk
   ·exact mh i1 (hi.up l1) (hm.up l1) h.1 h.2 (hK.up i0 i1 l1)
theorem lM{K:Int->Tr}(hT:dX σ t)(i0:Inv H σ)(hi:sN σ i w g)(hK:KM H Q σ w g K):WT H Q (pA t i K) σ:=⟨hi.in.2,λ τ l1 i1=>by
 have hi1:=hi.up l1;have hm:=hi1.vz i1;rw[l1.nd hi.in.2] at hm
 exact I0 (hT.up l1) i1 hi1 hm (hK.up i0 i1 l1)⟩
theorem Jq{v:Int}{K:Tr}(hT:dX σ t)(i0:Inv H σ)(h:(σ.nd v).kind=8)(hK:∀τ,Le σ τ->Inv H τ->WT H Q K τ):WT H Q (B0 t v K) σ:=by
 have hd:=i0.desc h;refine⟨hd.1,lM hT i0 (g:=(σ.nd (σ.nd v).bO).gen) ⟨hd.2.1,rfl⟩ λ τ m l1 i1 _ _=>⟨by have:=l1.len;omega,by have:=l1.len;omega,?_⟩⟩;have h8:(τ.nd v).kind=8:=by rw[l1.nd hd.1];exact h
 have hd1:=i1.desc h8;refine xN hd1.2.2.2.1 hd1.2.2.2.2.1 i1 (λ ρ l3 i3 _=>Oi i1 h8 (by split<;>simp) l3 i3) (λ ρ b l3 i3 _ _=>hK ρ (l1.trans i0 i1 l3) i3)
theorem xX{K:Int->Tr}(hT:dX σ t)(i0:Inv H σ)(hK:KR H Q σ K):WT H Q (zQ t K) σ:=λ τ l1 i1=>by
 have hT1:=hT.up l1;have hv:=ld hT1 i1;generalize τ.ce t.root=v at hv ⊢;refine⟨hv.1,?_⟩;try dsimp only
 split
 ·rename_i h2
  rcases hv.2 with h|h
  ·exact hK τ v l1 i1 h
  ·rw[h.1] at h2;exact absurd h2 (by decide)
 ·rename_i h2
  have h8r:(τ.nd v).kind=8/\t.ro=false:=by
   rcases hv.2 with h|h
   ·exact absurd h.1 h2
   ·exact h
  have h8:=h8r.1;refine⟨hv.1,λ υ l2 i2=>?_⟩;have h8':(υ.nd v).kind=8:=by rw[l2.nd hv.1];exact h8
  have hv':v<=υ.len:=by have:=l2.len;have:=hv.1;omega
  have hK1:=hK.up i0 i1 l1;try dsimp only
  split
  ·refine Jq (hT1.up l2) i2 h8' λ ρ l3 i3=>⟨by have:=l3.len;omega,λ χ l4 i4=>?_⟩;refine Fp ((((hT1.up l2).up l3)).up l4) h8r.2 i4 (by rw[l4.nd (by have:=l3.len;omega),l3.nd hv'];exact h8') (((hK1.up i1 i2 l2).up i2 i3 l3).up i3 i4 l4)
  ·exact Fp (hT1.up l2) h8r.2 i2 h8' (hK1.up i1 i2 l2)
abbrev KB(H:ByteArray->Nat)(Q:Rs->Kw->Prop)(σ:Kw)(K:Bool->Tr):Prop:=∀τ b,Le σ τ->Inv H τ->WT H Q (K b) τ
theorem bl{n o:Int}(i0:Inv H σ)(hi:sN σ i w g)(hn:pP σ n w g)(l1:Le σ τ)(i1:Inv H τ):P6 τ (σ.nd i).main o n:=by
 have hc:=i0.Cc hi.1.1;have e:τ.ct (σ.nd i).main=.main i:=by rw[l1.ct _ hc.2.1];exact hc.2.2
 have hn1:=hn.up l1;refine⟨by have:=hn1.in;omega,hn1.in.2,λ i' h=>?_,λ m' h=>?_,λ d h=>?_,λ h=>?_,λ h=>?_⟩<;>rw[e] at h
 ·cases h
  have:=hi.up l1;rw[this.1.2,this.2];exact hn1
 ·cases h
 ·cases h
 ·cases h
 ·cases h
theorem yH{o n:Int}{K:Bool->Tr}(hT:dX σ t)(i0:Inv H σ)(hi:sN σ i w g)(hn:pP σ n w g)(hK:KB H Q σ K):WT H Q (oP t i o n K) σ:=by
 have hc:=i0.Cc hi.1.1;refine⟨hi.in.2,xN hc.1 hc.2.1 i0 (λ τ l1 i1 _=>bl i0 hi hn l1 i1) (λ τ b l1 i1 _ _=>?_)⟩;try dsimp only
 split
 ·exact I0 (hT.up l1) i1 (hi.up l1) (hn.up l1) λ υ v l2 i2 _ _=>hK υ _ (l1.trans i0 i1 l2) i2
 ·exact hK τ _ l1 i1
theorem Gt{o e n:Int}{K:Bool->Tr}(hT:dX σ t)(hro:t.ro=false)(i0:Inv H σ)(ho:xS σ o [])(hn:xS σ n [])(he1:1<=e)(he2:e<=σ.len)(hK:KB H Q σ K):WT H Q (Cp t o e n K) σ:=by
 refine gN (w:=[]) (g:=0) i0 (im i0 ho he1 he2 hn) ⟨⟨Int.le_refl _,bT _⟩,λ k=>fC (a:=8) (b:=2) k,λ k=>absurd k (kZ (.inr (.inr (.inr (.inl rfl))))),λ _=>rfl⟩ (λ υ d cl l1 i1 _ _ e1 _ _ hd1 hd2=>?_)
 ·have h8:(υ.nd d).kind=8:=by rw[e1];rfl
  have hT1:=hT.up l1;refine xN hT1.1 hT1.2.1 i1 (λ τ l2 i2 _=>?_) (λ τ b l2 i2 _ _=>?_)
  ·have e:=(hT1.up l2).rw hro;refine⟨by omega,by have:=l2.len;omega,λ i' h=>?_,λ m' h=>?_,λ d h=>?_,λ h=>.inr (by rw[l2.nd hd2];exact h8),λ h=>?_⟩<;>rw[e] at h<;>cases h
  ·have h8':(τ.nd d).kind=8:=by rw[l2.nd hd2];exact h8
   have hd2':d<=τ.len:=by have:=l2.len;omega
   try dsimp only
   split
   ·refine Jq (hT1.up l2) i2 h8' λ ρ l3 i3=>⟨by have:=l3.len;omega,λ χ l4 i4=>?_⟩;refine Fp (((hT1.up l2).up l3).up l4) hro i4 (by rw[l4.nd (by have:=l3.len;omega),l3.nd hd2'];exact h8') λ ψ _ l5 i5 _=>?_;exact hK ψ _ (((l1.trans i0 i1 l2).trans i0 i2 l3 |>.trans i0 i3 l4).trans i0 i4 l5) i5
   ·exact hK τ _ (l1.trans i0 i1 l2) i2
end
end

/- Tries of worlds: RENEW, CLEAN, FIND, UP keep the labels. -/
section
open Go.Ct
theorem dw(h:Nat)(level:Int):∃k:Nat,k<64/\iE h level=(k:Int):=by
 unfold iE;try dsimp only
 split
 ·exact⟨0,by decide,rfl⟩
 ·exact⟨_,vS _ _,rfl⟩
theorem Lt{h l:Nat}(hl:l<=10):iE h ((l:Nat):Int)=((sl h l:Nat):Int):=by
 unfold iE
 rw[if_neg (by omega),Int.toNat_natCast]
theorem Ju{h k:Nat}{w:List Nat}(hu:fQ h (w++[k])):fQ h w:=λ j hj=>by
 have:=hu j (by simp;omega);rw[this,gF,List.getElem?_append_left hj,<- gF]
theorem Yo(h:Nat):fQ h []:=λ k hk=>absurd hk (Nat.not_lt_zero k)
theorem tA{h:Nat}{w:List Nat}(hu:fQ h w):fQ h (w++[sl h w.length]):=λ j hj=>by
 rw[List.length_append,List.length_singleton] at hj
 by_cases e:j<w.length
 ·rw[hu j e,gF,gF,List.getElem?_append_left e]
 ·have:j=w.length:=by omega
  subst this
  simp[gF]
theorem Xy{xs:List Int}{p:Nat}{r b:Int}(hp:p<xs.length)(h:Ae xs p r=[b]):b=r/\xs.length=1:=by
 have hl:=vT hp r;rw[h] at hl;have h1:xs.length=1:=by simpa using hl.symm
 have hp0:p=0:=by omega
 subst hp0;have:=Nl (xs:=xs) (p:=0) hp r 0;rw[h,if_pos rfl] at this;exact⟨by simpa using this,h1⟩
section
variable{H:ByteArray->Nat}{Q:Rs->Kw->Prop}{σ τ υ:Kw}{i m p g:Int}{w:List Nat}{t:iS}
theorem Hw{v:Nv}{k b:Int}(h:mU v k=some b):v.kind=3:=by
 unfold mU at h;have:=B4 (show(Lh v.nd v.xs v.ys v.bm.toNat k).isSome=true by rw[h];rfl);exact this.1.1
theorem pF{r cl:Int}{n:Nv}{c:Nat}(hm:cC n)(e:σ.nd r=eH n c)(hw:σ.way r=w)(hg:σ.gb r=g):pP σ r w g:=⟨by rw[e];exact hm,hw,by rw[hg];exact Int.le_refl _⟩
theorem xR{n:Nv}(hn:cC n)(h:pP σ m w g)(hs:eO σ m):sj σ n m w g :=
 ⟨⟨by have:=h.in;omega,h.in.2⟩,λ k=>by unfold cC at hn;omega,λ _=>.inr ⟨h,hs⟩,λ k=>by unfold cC at hn;omega⟩
abbrev KN(H:ByteArray->Nat)(Q:Rs->Kw->Prop)(σ:Kw)(w:List Nat)(g:Int)(K:Int->Tr):Prop:=∀τ v,Le σ τ->Inv H τ->pP τ v w g->WT H Q (K v) τ
theorem KB.up{K:Bool->Tr}(i0:Inv H σ)(i1:Inv H τ)(h:KB H Q σ K)(l:Le σ τ):KB H Q τ K:=λ υ v l2 i2=>h υ v (l.trans i0 i1 l2) i2
theorem mB.upL{b:Nat}{xs:List Int}(h:mB σ m w g b xs)(l:Le σ τ):mB τ m w g b xs:=by
 have hr:=eF (N:=σ.mm.nodes) (i:=m) (by have:=h.kd;simp only[Kw.nd] at this;rw[this];decide);have e:=l.nd hr.2;refine⟨by rw[e];exact h.kd,by rw[e];exact h.bm,by rw[e];exact h.el,by rw[e];exact h.cv,h.bv,h.wl,λ k hk r hr=>(h.br k hk r hr).up l,λ h0=>⟨(h.ne h0).1,λ b hb=>?_⟩⟩;have:=(h.ne h0).2 b hb;rw[l.nd (eF (N:=σ.mm.nodes) (i:=b) (by rw[this];decide)).2];exact this
theorem fk{b:Nat}{xs:List Int}(i0:Inv H σ)(hc:mB σ m w g b xs){k:Nat}(hk:k<64){o r:Int}(ho:mU (σ.nd m) (k:Int)=some o)(hr:Mz σ (w++[k]) g r)(h0:0<w.length->xs.length=1->(σ.nd r).kind=2):mE H σ (jl (σ.nd m) (k:Int) r) w g:=by
 obtain⟨e,h1,h2,h3⟩:=hc.up hk ho hr.in.1
 rw[e];refine nQ i0 h1 (λ j hj v hv=>?_) hc.wl (λ hw=>⟨λ e=>?_,λ b hb=>?_⟩)
 ·rw[h2 j hj] at hv
  unfold Nw at hv
  split at hv
  ·rename_i ej;cases hv;rw[ej];exact hr
  ·exact hc.br j hj v hv
 ·have:=vT h3 r;rw[e] at this;simp at this
  omega
 ·obtain⟨e1,e2⟩:=Xy h3 hb
  rw[e1];exact h0 hw e2
theorem bg{b:Nat}{xs:List Int}(hc:mB σ m w g b xs){k:Nat}(hk:k<64){o r:Int}(ho:mU (σ.nd m) (k:Int)=some o)(hr:1<=r):(jl (σ.nd m) (k:Int) r).kind=3:=by
 rw[(hc.up hk ho hr).1];rfl
theorem W0{b:Nat}{xs:List Int}{K:Int->Tr}(i0:Inv H σ)(hm:pP σ m w g)(hs:eO σ m)(hc:mB σ m w g b xs){k:Nat}(hk:k<64){o r:Int}(ho:mU (σ.nd m) (k:Int)=some o)(hr:Mz σ (w++[k]) g r)(h0:0<w.length->xs.length=1->(σ.nd r).kind=2)(hK:KN H Q σ w g K):WT H Q (F7 m (k:Int) r K) σ:=by
 have hmk:cC (jl (σ.nd m) (k:Int) r):=.inl (bg hc hk ho hr.in.1);exact⟨hm.in.2,gN i0 (fk i0 hc hk ho hr h0) (xR hmk hm hs) λ υ n cl l1 i1 _ _ e1 e2 e3 _ _=>hK υ n l1 i1 (pF (cl:=0) hmk e1 e2 e3)⟩
theorem sN.N5(i0:Inv H σ)(h:sN σ i w g):1<=g/\g<=σ.mm.gen/\w.length<=11:=by
 have hn:=i0.nd i h.in.1 h.in.2;have h2:=hn.k2 h.1.1;have hv:=hn.valid.2.2.2.2;have hg:=hn.gen;rw[h.2] at hg;refine⟨?_,hg,by rw[<- h.1.2];exact h2.1⟩;have hk:=h.1.1;rcases hv with h|h|h|h|h|h|h
 ·exact absurd (hk.symm.trans h) (by decide)
 ·have:=h.2;rw[<- ‹sN σ i w g›.2];exact this
 ·exact absurd (hk.symm.trans h.1) (by decide)
 ·rcases h.1 with h|h<;>exact absurd (hk.symm.trans h) (by decide)
 ·exact absurd (hk.symm.trans h.1) (by decide)
 ·exact absurd (hk.symm.trans h.1) (by decide)
 ·exact absurd (hk.symm.trans h.1) (by decide)
theorem sA{K:Int->Tr}{g':Int}(i0:Inv H σ)(h1:1<=g)(h2:g<=σ.mm.gen)(hw:w.length<=11)(hm:pP σ m w g')(hg:g'<=g)(hK:∀τ j,Le σ τ->Inv H τ->sN τ j w g->WT H Q (K j) τ):WT H Q (.alloc (uB g) m K) σ :=
 gN (w:=w) (g:=0) i0 (Ix hw h1 h2) ⟨⟨by have:=hm.in;omega,hm.in.2⟩,λ _=>hm.le hg,λ k=>absurd k (kZ (.inr (.inr (.inl rfl)))),λ k=>fC (a:=2) (b:=8) k⟩ λ υ j cl l1 i1 _ _ e1 e2 _ _ _=>hK υ j l1 i1 ⟨⟨by rw[e1];rfl,e2⟩,by rw[e1];rfl⟩
theorem gk{b:Nat}{xs:List Int}{K:Int->Tr}(hT:dX σ t)(i0:Inv H σ)(hi:sN σ i w g)(hm:pP σ m w g)(hs:eO σ m)(hc:mB σ m w g b xs){k:Nat}(hk:k<64){o:Int}(ho:mU (σ.nd m) (k:Int)=some o)(h2:(σ.nd o).kind=2)
  (hK:∀τ v,Le σ τ->Inv H τ->(v=0∨sN τ v (w++[k]) g)->WT H Q (K v) τ):WT H Q (Mo t i m (k:Int) K) σ:=by
 have hb:xS σ o (w++[k])/\(σ.nd o).gen<=g:=by
  have ho2:=ho;rw[hc.lk hk] at ho2;rcases hc.br k hk o ho2 with h|h
  ·rw[h2] at h;exact absurd h.1 (by decide)
  ·exact⟨⟨h.1,h.2.1⟩,h.2.2⟩
 have hg:=hi.N5 i0;refine⟨hm.in.2,?_⟩;dsimp only;rw[show(mU (σ.nd m) (k:Int)).getD 0=o by rw[ho];rfl];refine lM hT i0 (g:=(σ.nd o).gen) ⟨hb.1,rfl⟩ λ τ v l1 i1 hv _=>⟨by have:=l1.len;have:=hi.in.2;omega,?_⟩;have hi1:=hi.up l1;dsimp only;rw[hi1.2];refine sA i1 hg.1 (by have:=l1.gen;omega) (by rw[List.length_append,List.length_singleton];have:=hc.wl;omega) hv hb.2 λ υ j l2 i2 hj=>?_;have l12:=l1.trans i0 i1 l2;have ho2:mU (υ.nd m) (k:Int)=some o:=by rw[l12.nd hm.in.2];exact ho
 refine W0 i2 (hm.up l12) (eO.up i0 hm.1 hs l12) (hc.upL l12) hk ho2 (.inr ⟨hj.1.1,hj.1.2,by rw[hj.2];exact Int.le_refl _⟩) (λ _ _=>hj.1.1) λ ρ n l3 i3 hn=>?_;have l13:=l12.trans i0 i2 l3;refine yH (hT.up l13) i3 (hi.up l13) hn λ χ ok l4 i4=>hK χ _ (l13.trans i0 i3 l4) i4 ?_;try dsimp only
 split
 ·exact .inr ((hj.up l3).up l4)
 ·exact .inl rfl
theorem iu{v:Nv}(h:v.kind=5):unV v=Hv v.hash v.key v.val:=by
 unfold unV Ft
 rw[if_pos (show v.nd.kind=5 from h)]
 rfl
theorem Nn{b:Nat}{xs:List Int}(h:BV b xs):Ly (Ij b xs)=if xs.length=1 then some (xs.getD 0 0) else none:=by
 have hcv:CV (Ij b xs).nd xs []:=by
  have:=aAp h (none,0);exact aCb.1 this
 unfold Ly j8
 by_cases e:xs.length=1
 ·rw[if_pos e,if_pos ⟨hcv,e⟩];rfl
 ·rw[if_neg e,if_neg λ h=>e h.2]
theorem ls{b:Nat}{xs:List Int}{s:Nv}{level:Int}(h:BV b xs):xy (Ij b xs) level s=if xs.length=1/\0<level/\s.kind=4 then tmV s else Ij b xs:=by
 have e:Ry (Ij b xs).nd (Ij b xs).xs (Ij b xs).ys level s.nd=decide (xs.length=1/\0<level/\s.kind=4):=by
  unfold Ry;have h1:j8 (Ij b xs).nd (Ij b xs).xs (Ij b xs).ys=Ly (Ij b xs):=rfl;rw[h1,Nn h];refine decide_eq_decide.2 ⟨λ h=>⟨?_,h.2⟩,λ h=>⟨?_,h.2⟩⟩
  ·have:=h.1;split at this
   ·assumption
   ·cases this
  ·rw[if_pos h.1];rfl
 unfold xy
 rw[e]
 by_cases hx:xs.length=1/\0<level/\s.kind=4
 ·rw[if_pos hx,if_pos (decide_eq_true hx)]
 ·rw[if_neg hx,if_neg (by rw[decide_eq_false hx];decide)]
structure aB9(H:ByteArray->Nat)(v:Nv):Prop where
 sz:v.key.size<=64
 ha:H v.key=v.hash.toNat
 hn:v.hash=((v.hash.toNat:Nat):Int)
 hl:v.hash.toNat<18446744073709551616
theorem Inv.leaf(i0:Inv H σ){s:Int}(h:(σ.nd s).kind=4∨(σ.nd s).kind=5):aB9 H (σ.nd s):=by
 have hr:=eF (N:=σ.mm.nodes) (i:=s) (by rcases h with h|h<;>(simp only[Kw.nd] at h;rw[h];decide));have hn:=i0.nd s hr.1 hr.2;obtain⟨b,hb1,hb2⟩:=hn.bd.hash
 refine⟨?_,?_,by omega,by omega⟩
 ·have hv:=hn.valid.2.2.2.2;rcases hv with h'|h'|h'|h'|h'|h'|h'
  ·have:(σ.nd s).kind=1:=h';omega
  ·have:(σ.nd s).kind=2:=h'.1;omega
  ·have:(σ.nd s).kind=3:=h'.1;omega
  ·exact h'.2
  ·have:(σ.nd s).kind=6:=h'.1;omega
  ·have:(σ.nd s).kind=8:=h'.1;omega
  ·have:(σ.nd s).kind=7:=h'.1;omega
 ·rcases h with h|h
  ·exact hn.k4 h
  ·exact(hn.k5 h).2.2.1
theorem tj{v:Nv}(h:aB9 H v):Hv v.hash v.key v.val=Hv ((v.hash.toNat:Nat):Int) v.key v.val:=by rw[<- h.hn]
theorem E8{level:Int}{parent child:Int}{h:Nat}{K:Bool->Tr}(hT:dX σ t)(i0:Inv H σ)(hp:sN σ parent w g)(hl:level=(w.length:Int))(hch:(σ.nd child).kind=2)(hK:KB H Q σ K):WT H Q (zZ t parent child h level K) σ:=by
 refine lM hT i0 hp λ τ m l1 i1 hm hs=>⟨hm.in.2,?_⟩;have hK1:=hK.up i0 i1 l1;try dsimp only
 split
 ·rename_i hlk
  have h3:=Hw hlk;have hc:=hm.uF i1 h3;have hlev:iE h level=((sl h w.length:Nat):Int):=by rw[hl];exact Lt hc.wl
  rw[hlev] at hlk ⊢;have hk:=vS h w.length;have hch1:(τ.nd child).kind=2:=by rw[l1.nd (eF (N:=σ.mm.nodes) (i:=child) (by rw[hch];decide)).2];exact hch
  have hb:xS τ child (w++[sl h w.length]):=by
   have h':=hlk;rw[hc.lk hk] at h';rcases hc.br _ hk _ h' with h|h
   ·rw[hch1] at h;exact absurd h.1 (by decide)
   ·exact⟨h.1,h.2.1⟩
  refine lM (hT.up l1) i1 (g:=(τ.nd child).gen) ⟨hb,rfl⟩ λ υ mc l2 i2 hmc _=>⟨hmc.in.2,?_⟩;try dsimp only
  split
  ·rename_i h5
   have hlf:=i2.leaf (.inr h5)
   have hu:fQ (υ.nd mc).hash.toNat (w++[sl h w.length]):=by
    have:=((i2.nd mc hmc.in.1 hmc.in.2).k5 h5).2.2.2.1;rwa [hmc.2.1] at this
   rw[iu h5,tj hlf];refine gN (w:=[]) (g:=0) i2 (Ba i2 hlf.sz hlf.ha hlf.hl) ⟨⟨Int.le_refl _,bT _⟩,λ k=>fC (a:=4) (b:=2) k,λ k=>by unfold cC at k;rcases k with k|k|k;exact fC (a:=4) (b:=3) k;exact fC (a:=4) (b:=5) k;exact fC (a:=4) (b:=6) k,λ _=>rfl⟩ λ ρ s cl l3 i3 _ _ e1 _ _ hs1 hs2=>?_;have l23:=l2.trans i1 i2 l3;have hm3:=hm.up l23;have hc3:=hc.upL l23;have hlk3:mU (ρ.nd m) ((sl h w.length:Nat):Int)=some child:=by rw[l23.nd hm.in.2];exact hlk
   have hbr:Mz ρ (w++[sl h w.length]) g s:=.inl ⟨by rw[e1];rfl,by rw[e1];exact hu⟩;refine⟨hm3.in.2,?_⟩;have hup:=hc3.up hk hlk3 hs1
   have hfin:∀n,cC n->mE H ρ n w g->WT H Q (.alloc n m λ r=>oP t parent m r K) ρ:=λ n hmk hn =>
    gN i3 hn (xR hmk hm3 (eO.up i1 hm.1 hs l23)) λ χ r cl l4 i4 _ _ f1 f2 f3 _ _=>by
     have l14:=(l1.trans i0 i1 l23).trans i0 i3 l4;exact yH (hT.up l14) i4 (hp.up l14) (pF (cl:=0) hmk f1 f2 f3) (hK.up i0 i4 l14)
   dsimp only;rw[hup.1,ls hup.2.1];try dsimp only
   split
   ·rename_i hx
    exact hfin _ (.inr (.inl rfl)) (H4 i3 hlf.sz hlf.ha hlf.hl (by omega) (by have:=hc.wl;omega) (Ju hu))
   ·rename_i hx
    refine hfin _ (.inl rfl) ?_;rw[<- hup.1];refine fk i3 hc3 hk hlk3 hbr λ h0 h1=>absurd ⟨?_,by omega,rfl⟩ hx;rw[vT hup.2.2.2];exact h1
  ·exact hK1 υ _ l2 i2
 ·exact hK1 τ _ (Le.refl τ) i1
theorem Vu{h:Nat}{key:ByteArray}{K:Rs->Tr}(hT:dX σ t)(i0:Inv H σ)(hK:∀τ r,Le σ τ->Inv H τ->r.root=0->WT H Q (K r) τ):∀(n:Nat) (σ':Kw) (i:Int) (w:List Nat) (g level:Int),Le σ σ'->Inv H σ'->sN σ' i w g->WT H Q (Dj t h key K n i level) σ'
 | 0,_,_,_,_,_,_,_,_=>trivial
 | n+1,σ',i,w,g,level,l,i1,hi=>by
  refine lM (hT.up l) i1 hi λ τ m l1 i2 hm _=>⟨hm.in.2,?_⟩;have l01:=l.trans i0 i1 l1;try dsimp only
  split
  ·(try dsimp only);split<;>exact hK τ _ l01 i2 rfl
  try dsimp only
  split
  ·exact hK τ _ l01 i2 rfl
  cases hlk:mU (τ.nd m) (iE h level) with
  | none=>exact hK τ _ l01 i2 rfl
  | some b =>
   obtain⟨k,hk,ek⟩:=dw h level
   rw[ek] at hlk;have hc:=hm.uF i2 (Hw hlk);rw[hc.lk hk] at hlk;have hb:=hc.br k hk b hlk;refine⟨hb.in.2,?_⟩;try dsimp only
   split
   ·(try dsimp only);split<;>exact hK τ _ l01 i2 rfl
   ·rename_i h4
    rcases hb with hb|hb
    ·exact absurd hb.1 h4
    ·exact Vu hT i0 hK n τ b (w++[k]) (τ.nd b).gen (level+1) l01 i2 ⟨⟨hb.1,hb.2.1⟩,rfl⟩
end
end

end Go.Proofs.YtadnboagdhcedaaGreatDoor
