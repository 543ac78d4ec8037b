/- Merged. -/
import Derived.Test.YtdnklbipddigbaaGreatGKx2
import Derived.Test.YtdnklbipddigbaaGreatGKw6
set_option linter.unusedSimpArgs false
set_option linter.unusedVariables false
namespace Go.Proofs.YtdnklbipddigbaaGreat
section
open Go Go.RowKit Go.Ct
section
variable{X:Xp}{σ τ υ:Kw}{i m p g v:Int}{w:List Nat}{t:Tri}{n:Nat}
structure GcS(X:Xp)(σ:Kw)(t:Tri)(i g o m:Int):Prop where
 b:X.b=false
 ro:t.ro=false
 k2:(σ.nd (σ.ce t.root)).kind=2
 gen:(σ.nd (σ.ce t.root)).gen=g
 ma:σ.ce (σ.nd i).main=o
 pr:σ.ce (σ.nd m).prev=o
 mo:MainK (σ.nd o)
structure GcR(σ τ:Kw)(i m:Int)(bb:Bool):Prop where
 t:bb=true
 ma:τ.ce (σ.nd i).main=m
 st:Settled τ m
 fr:Frm σ τ i
theorem gcas_x{o:Int}{K:Bool->Tr}(hX:Xok X)(hT:TrieOk σ t)(i0:Inv X.H σ)(hi:InG σ i w g)(hn:IsM σ m w g)
  (hK:∀τ bb,Le σ τ->Inv X.H τ->(GcS X σ t i g o m->GcR σ τ i m bb)->XT X (K bb) n τ):XT X (gcasT t i o m K) (n+10) σ:=by
 have hc:=i0.mainCell hi.1.1;refine node_x hi.in.2 (cas_x hc.1 hc.2.1 i0 (λ τ l1 i1 _=>main_set i0 hi hn l1 i1) (λ υ l i1 _=>?_) (λ τ b l1 i1 hf=>?_))
 ·have:=hX.r2 υ t i w g m (λ v=>K (v==m)) i1 (hT.up l) (hi.up l) (hn.up l)
  rw[l.nd hi.in.2] at this;exact this
 ·try dsimp only
  have eni:τ.nd i=σ.nd i:=l1.nd hi.in.2;have enm:τ.nd m=σ.nd m:=l1.nd hn.in.2;have hne:=prev_ne i0 hn.1 hi.1.1;split
  ·rename_i hb;subst hb;refine settle_x hX (hT.up l1) i1 (hi.up l1) (hn.up l1) (λ _=>by rw[eni];exact hf.t rfl) λ υ u l2 i2 hu hs _ f hcm=>hK υ _ (l1.trans i0 i1 l2) i2 λ hg=>?_;rcases hf.s hg.b with⟨_,_,h⟩|⟨h1,_⟩
   ·have hroot:=hT.rw hg.ro;have hrne:t.root≠(σ.nd i).main:=λ e=>by rw[e,hc.2.2] at hroot;cases hroot
    have er:τ.ce t.root=σ.ce t.root:=h.other _ hrne;have enr:τ.nd (τ.ce t.root)=σ.nd (σ.ce t.root):=by rw[er];exact l1.nd (i0.ce _ hT.1 hT.2.1).hi
    have hk2:(τ.nd (τ.ce t.root)).kind=2:=by rw[enr];exact hg.k2
    have hcmo:CmO τ t i m:=⟨hg.ro,hk2,by rw[enr,eni,hi.2];exact hg.gen,by rw[enm,h.other _ hne,hg.pr,l1.nd (mainK_in hg.mo).2];exact hg.mo⟩;have ev:=hcm hg.b hcmo;have fs:=f.s hg.b hk2;rw[ev] at hs fs;exact⟨by rw[ev];exact beq_self_eq_true m,by rw[<- eni];exact fs.1,hs,(frm_set h (.inl hc.2.2)).trans l1 fs.2⟩
   ·cases h1
  ·rename_i hb;have hb':b=false:=by simpa using hb
   subst hb';refine(hK τ false l1 i1 λ hg=>?_).mono (by omega);rcases hf.s hg.b with⟨h1,_,_⟩|⟨_,h⟩;·cases h1
   ·subst h;exact absurd hg.ma (hf.f rfl)
structure Xol(X:Xp):Prop extends Xok X where
 al:X.al=false
structure RcS(X:Xp)(σ:Kw)(t:Tri)(o e:Int):Prop where
 b:X.b=false
 ro:σ.ce t.root=o
 ma:σ.ce (σ.nd o).main=e
 st:Settled σ e
theorem rdcss_x{o e nw:Int}{K:Bool->Tr}(hX:Xol X)(hT:TrieOk σ t)(hro:t.ro=false)(i0:Inv X.H σ)(ho:IsI σ o [])(hn:IsI σ nw [])(he1:1<=e)(he2:e<=σ.len)
  (hK:∀τ bb,Le σ τ->Inv X.H τ->(RcS X σ t o e->bb=true)->XT X (K bb) n τ):XT X (rdcssT t o e nw K) (n+14) σ:=by
 refine alloc_x (w:=[]) (g:=0) hX.al i0 (new_desc i0 ho he1 he2 hn) ⟨⟨Int.le_refl _,nn0 _⟩,λ k=>no_k (a:=8) (b:=2) k,λ k=>absurd k (mk_dec (.inr (.inr (.inr (.inl rfl))))),λ _=>rfl⟩ (λ υ d l1 i1 af=>?_);have h8:(υ.nd d).kind=8:=by rw[af.nd];rfl
 have hdo:(υ.nd d).old=o/\(υ.nd d).exp=e:=by rw[af.nd];exact⟨rfl,rfl⟩
 have hd2:=af.r2;have hT1:=hT.up l1;have hst0:=af.stat rfl;refine cas_x hT1.1 hT1.2.1 i1 (λ τ l2 i2 _=>?_) (λ ρ l i2 _=>?_) (λ τ b l2 i2 hf=>?_);·have e:=(hT1.up l2).rw hro;refine⟨by have:=af.r1;omega,by have:=l2.len;omega,λ i' h=>?_,λ m' h=>?_,λ d h=>?_,λ h=>.inr (by rw[l2.nd hd2];exact h8),λ h=>?_⟩<;>rw[e] at h<;>cases h
 ·exact hX.r4 ρ t d (λ s _=>K (s==1)) i2 (hT1.up l) hro (by rw[l.nd hd2];exact h8)
 ·have en:τ.nd d=υ.nd d:=l2.nd hd2;have h8':(τ.nd d).kind=8:=by rw[en];exact h8
  have hd2':d<=τ.len:=by have:=l2.len;omega
  have hdd:=i2.desc h8';have l12:=l1.trans i0 i1 l2;have hrs:t.root≠(υ.nd d).status:=λ e=>by have h3:=hdd.2.2.2.2.2;rw[en,<- e,(hT.up l12).rw hro] at h3;cases h3
  try dsimp only
  split
  ·rename_i hb;have hsol:X.b=false->τ.ce t.root=d/\τ.ce (τ.nd d).status=0/\Set1 X.H υ τ t.root d/\υ.ce t.root=o:=λ hb2=>by
    rcases hf.s hb2 with⟨_,h2,h⟩|⟨h1,_⟩;·exact⟨h.at',by rw[en,h.other _ (Ne.symm hrs)];exact hst0,h,h2⟩
    ·rw[hb] at h1;cases h1
   refine decide_x hX.toXok (n:=n+2) (hT1.up l2) hro i2 h8' λ ρ l3 i3 hdc=>node_x (by have:=l3.len;omega) (load_x λ χ hg4=>?_);have l4:=hg4.le;have i4:=hg4.inv;have e3:ρ.nd d=τ.nd d:=l3.nd hd2';have e4:χ.nd d=τ.nd d:=by rw[l4.nd (by have:=l3.len;omega),e3]
   rw[e3];refine cmp_x hX.toXok (((hT1.up l2).up l3).up l4) hro i4 (by rw[e4];exact h8') (λ hb2=>?_) λ ψ l5 i5 _ _ _=>?_
   ·obtain⟨s1,s2,_,_⟩:=hsol hb2;rcases hdc.a hb2 s1 s2 with⟨h5,_⟩|⟨h5,h6⟩;·exact .inl (by rw[hg4.solo hb2];exact h5)
    ·refine .inr ?_;rw[hg4.solo hb2] at e4 ⊢;rw[h6,if_neg (by decide),h5,e4]
   ·refine(hK ψ _ (((l12.trans i0 i2 l3).trans i0 i3 l4).trans i0 i4 l5) i5 λ hr=>?_).mono (by omega);obtain⟨s1,s2,s3,_⟩:=hsol hr.b;have hmc:=i0.mainCell ho.1;have hrm:t.root≠(σ.nd o).main:=λ e=>by have h3:=hmc.2.2;rw[<- e,hT.rw hro] at h3;cases h3
    have hcur:=(i0.ce _ hmc.1 hmc.2.1).main o hmc.2.2;rw[hr.ma] at hcur;have hmk:=hcur.2.1;have h7:=hdc.b hr.b s1 s2 (by rw[en,hdo.1,hdo.2,l12.nd ho.in.2,s3.other _ (Ne.symm hrm),af.ce hmc.2.1];exact hr.ma) (by rw[en,hdo.2];exact Settled.up i0 hmk hr.st l12);rw[hg4.solo hr.b,h7.2];rfl
  ·rename_i hb;refine(hK τ false l12 i2 λ hr=>?_).mono (by omega);have hb':b=false:=by simpa using hb
   subst hb';rcases hf.s hr.b with⟨h1,_,_⟩|⟨_,h⟩;·cases h1
   ·subst h;exact absurd (by rw[af.ce hT.2.1];exact hr.ro) (hf.f rfl)
def OkM(i m:Int)(σ:Kw):Prop:=σ.ce (σ.nd i).main≠m∨Settled σ m
def OkR(c d:Int)(σ:Kw):Prop:=σ.ce c≠d
def X0(H:ByteArray->Nat)(G:Kw->Prop):Xp:=⟨H,λ _ _=>False,λ _=>False,0,G,λ _ _ _ _=>True,true,true⟩
theorem x0_ok(H:ByteArray->Nat)(G:Kw->Prop):Xok (X0 H G):=⟨λ _ _ _ _ _ _=>trivial,λ _ _ _ _ _ _ _=>trivial,λ _ _ _ _ _ _ _ _ _ _ _=>trivial,λ _ _ _ _ _ _=>trivial,λ _ _ _ _ _ _ _ _=>trivial⟩
def RF(H:ByteArray->Nat)(c v:Int)(t:Tr)(υ:Kw):Prop:=(∀i,υ.ct c=.main i->Settled υ v∨∃n,XT (X0 H (OkM i v)) t n υ)/\(υ.ct c=.root->(υ.nd v).kind=2∨∃n,XT (X0 H (OkR c v)) t n υ)
theorem rf_ok{X:Xp}(hR:X.R=RF X.H):Xok X:=by
 refine⟨λ c v t υ h1 h2=>?_,λ c v t υ i h1 h2=>?_,λ υ t i w g m K i0 hT hi hm=>?_,λ c v t υ h1 h2=>?_,λ υ t d K i0 hT hro h8=>?_⟩<;>rw[hR];·exact⟨λ i h=>absurd h (h1 i),λ h=>absurd h h2⟩
 ·exact⟨λ i' h=>.inl h2,λ h=>by rw[h1] at h;cases h⟩
 ·have hc:=i0.mainCell hi.1.1;refine⟨λ i' h=>.inr ⟨0+9,?_⟩,λ h=>by rw[hc.2.2] at h;cases h⟩;rw[hc.2.2] at h;cases h;refine settle_x (X:=X0 X.H (OkM i m)) (x0_ok _ _) hT i0 hi hm (λ h=>nomatch h) λ τ v l1 i1 _ _ hok _ _=>XT.stop (show OkM i m τ from ?_);unfold OkM;rw[l1.nd hi.in.2];exact hok
 ·exact⟨λ i h=>(by rw[h1] at h;cases h),λ _=>.inl h2⟩
 ·have hr:=hT.rw hro;refine⟨λ i h=>(by rw[hr] at h;cases h),λ _=>.inr ⟨2+11,?_⟩⟩;have hdd:=i0.desc h8;refine decide_x (X:=X0 X.H (OkR t.root d)) (x0_ok _ _) (n:=0+2) hT hro i0 h8 λ ρ l3 i3 _=>node_x (by have:=l3.len;have:=hdd.1;omega) (load_x λ χ hg4=>?_);have l4:=hg4.le;refine cmp_x (x0_ok _ _) ((hT.up l3).up l4) hro hg4.inv (by rw[l4.nd (by have:=l3.len;have:=hdd.1;omega),l3.nd hdd.1];exact h8) (λ h=>nomatch h) λ ψ _ _ _ h _=>XT.stop h
end
end
section
open Go.Ct
section
variable{H:ByteArray->Nat}{Q:Rs->Kw->Prop}{σ τ υ:Kw}{i m p g:Int}{w:List Nat}{c:Cl}{h:Nat}
structure KeyOk(H:ByteArray->Nat)(c:Cl)(h:Nat):Prop where
 sz:c.key.size<=64
 ha:H c.key=h
 hl:h<18446744073709551616
def Fur(σ:Kw)(m:Int)(h:Nat)(level:Nat):Prop:=∃b,lkV (σ.nd m) (slI h level)=some b/\(σ.nd b).kind=2
theorem z_one{p:Prop}(b:Bool):(if b=true then(1:Int) else 0)=0∨(if b=true then(1:Int) else 0)=1∨p:=by cases b;exact .inl rfl;exact .inr (.inl rfl)
def PathG(σ:Kw)(path:List Int)(h:Nat)(g:Int):Prop:=∀k,k<path.length->InG σ (path.getD k 0) (wayN h k) g
theorem PathG.up{path:List Int}(hp:PathG σ path h g)(l:Le σ τ):PathG τ path h g:=λ k hk=>(hp k hk).up l
theorem PathG.snoc{path:List Int}{b:Int}(hp:PathG σ path h g)(hb:InG σ b (wayN h path.length) g):PathG σ (path++[b]) h g:=λ k hk=>by
 rw[List.length_append,List.length_singleton] at hk;rw[gdg];by_cases e:k<path.length;·rw[List.getElem?_append_left e,<- gdg];exact hp k e
 ·have:k=path.length:=by omega
  subst this;simpa using hb
theorem gen_wt{K:Int->Tr}(i0:Inv H σ)(hK:∀υ,Le σ υ->Inv H υ->υ.mm.gen=σ.mm.gen+1->WT H Q (K (σ.mm.gen+1)) υ):WT H Q (.gen K) σ:=by
 have e:Ext σ ⟨⟨σ.mm.nodes,σ.mm.cs,σ.mm.gen+1⟩,σ.way,σ.gb,σ.ct⟩:=⟨⟨[],by simp⟩,⟨[],by simp⟩,by show σ.mm.gen<=σ.mm.gen+1;omega,λ _ _=>rfl,λ _ _=>rfl,λ _ _=>rfl⟩
 have hp:ProperN σ.mm.nodes σ.mm.cs (σ.mm.gen+1):=⟨i0.prop.two,by have:=i0.prop.gen0;omega,i0.prop.m0,i0.prop.m1,i0.prop.cells,λ k hk=>⟨(i0.prop.nodes k hk).1,by have:=(i0.prop.nodes k hk).2.1;omega,(i0.prop.nodes k hk).2.2⟩,i0.prop.marks⟩
 have i1:=ext_inv i0 e hp (λ r h1 h2=>absurd h2 (by simp only[Kw.len] at *;omega)) (λ c h1 h2=>absurd h2 (by simp only[Kw.cl] at *;omega))
 exact⟨_,e.le,i1,rfl,hK _ e.le i1 rfl⟩
theorem cell_wt{r:Int}{K:Int->Tr}(ro:Bool)(i0:Inv H σ)(hr:IsI σ r [])(hK:∀υ c,Le σ υ->Inv H υ->0<c->TrieOk υ ⟨c,ro⟩->WT H Q (K c) υ):WT H Q (.cell r K) σ:=by
 have e:Ext σ ⟨⟨σ.mm.nodes,σ.mm.cs++[r],σ.mm.gen⟩,σ.way,σ.gb,λ c=>if c<=σ.cl then σ.ct c else ctR ro⟩:=⟨⟨[],by simp⟩,⟨[r],rfl⟩,Int.le_refl _,λ _ _=>rfl,λ _ _=>rfl,λ c hc=>if_pos hc⟩
 have hcl:(σ.mm.cs++[r]).length=σ.cl+1:=by simp[Kw.cl]
 have hct:(if((σ.cl+1:Nat):Int)<=σ.cl then σ.ct ((σ.cl+1:Nat):Int) else ctR ro)=ctR ro:=if_neg (by omega);have hin:=hr.in
 have i1:=ext_inv i0 e (ProperN.cell i0.prop ⟨by omega,hin.2⟩) (λ r h1 h2=>absurd h2 (by simp only[Kw.len] at *;omega)) (λ c h1 h2=>by
  simp only[Kw.cl] at h1 h2;rw[hcl] at h2;have hc:c=((σ.cl+1:Nat):Int):=by simp only[Kw.cl] at *;omega
  subst hc;have hv:cellV (σ.mm.cs++[r]) ((σ.cl+1:Nat):Int)=r:=by unfold cellV;rw[if_pos ⟨by omega,by rw[hcl];exact Int.le_refl _⟩,show(((σ.cl+1:Nat):Int)-1).toNat=σ.mm.cs.length by simp only[Kw.cl];omega];simp[gdg]
  refine⟨by simp only[Kw.ce,hv];omega,by simp only[Kw.ce,hv];exact hin.2,λ i' k=>?_,λ m k=>?_,λ d k=>?_,λ k=>.inl ?_,λ k=>?_⟩;·simp only[hct] at k;cases ro<;>cases k
  ·simp only[hct] at k;cases ro<;>cases k
  ·simp only[hct] at k;cases ro<;>cases k
  ·simp only[Kw.ce,hv];exact hr
  ·simp only[Kw.ce,hv];exact hr)
 refine⟨_,e.le,i1,rfl,hK _ _ e.le i1 (by omega) ⟨by show 1<=((σ.cl+1:Nat):Int);omega,by show((σ.cl+1:Nat):Int)<=((σ.mm.cs++[r]).length:Nat);rw[hcl];exact Int.le_refl _,hct⟩⟩
def Q0(r:Rs)(σ:Kw):Prop:=0<r.root->TrieOk σ ⟨r.root,r.ro⟩
theorem Q0.up{r:Rs}(h:Q0 r σ)(l:Le σ τ):Q0 r τ:=λ h0=>(h h0).up l
theorem IsI.withG(hr:IsI σ i w):InG σ i w (σ.nd i).gen:=⟨hr,rfl⟩
structure CallOk(H:ByteArray->Nat)(σ:Kw)(c:Cl)(h:Nat):Prop where
 t:TrieOk σ c.t
 hl:h<18446744073709551616
 ha:H c.key=h
 ro:c.kind=8∨c.kind=9∨c.kind=12∨c.kind=4->c.t.ro=false
 k:(7<=c.kind/\c.kind<=12)∨c.kind=3∨(c.kind=1/\∃w g,InG σ c.a w g)∨(c.kind=2/\∃w g,InG σ c.a w g/\IsM σ c.n w g)∨(c.kind=4/\IsI σ c.a []/\IsI σ c.n []/\1<=c.b/\c.b<=σ.len)
theorem refuse_sz(h:refuse c=0)(hk:c.kind=7∨c.kind=8∨c.kind=9):c.key.size<=64:=by
 unfold refuse at h;split at h
 ·split at h;·assumption
  ·cases h
 split at h
 ·split at h;·rename_i hx;exact hx.1
  ·cases h
 ·omega
end
end
section
open Go Go.RowKit Go.Ct
section
variable{X:Xp}{σ τ υ:Kw}{i m p g v:Int}{w:List Nat}{t:Tri}{n:Nat}
structure FL(t:Tri)(L:Nat)(σ τ:Kw):Prop where
 root:τ.ce t.root=σ.ce t.root
 main:∀p,(σ.nd p).kind=2->(σ.way p).length<L->τ.ce (σ.nd p).main=σ.ce (σ.nd p).main
theorem FL.refl(t:Tri)(L:Nat)(σ:Kw):FL t L σ σ:=⟨rfl,λ _ _ _=>rfl⟩
theorem kind_le{k:Int}(h:(σ.nd p).kind=k)(hk:k≠0:=by decide):p<=σ.len:=(kind_in (N:=σ.mm.nodes) (i:=p) (by simp only[Kw.nd] at h;rw[h];exact hk)).2
theorem FL.trans{L:Nat}(l:Le σ τ)(h:FL t L σ τ)(h2:FL t L τ υ):FL t L σ υ:=⟨h2.root.trans h.root,λ p hk hp=>by have e:=l.nd (kind_le hk);have:=h2.main p (by rw[e];exact hk) (by rw[l.way p (kind_le hk)];exact hp);rw[e] at this;exact this.trans (h.main p hk hp)⟩
theorem FL.less{L L':Nat}(h:FL t L σ τ)(hl:L'<=L):FL t L' σ τ:=⟨h.root,λ p hk hp=>h.main p hk (by omega)⟩
theorem main_ne{H:ByteArray->Nat}(i0:Inv H σ){i j:Int}(hi:(σ.nd i).kind=2)(hj:(σ.nd j).kind=2)(hne:i≠j):σ.ct (σ.nd i).main≠.main j:=λ h=>by rw[(i0.mainCell hi).2.2] at h;cases h;exact hne rfl
theorem fl_frm{H:ByteArray->Nat}(hT:TrieOk σ t)(i0:Inv H σ)(f:Frm σ τ i):FL t (σ.way i).length σ τ:=⟨frm_root hT f,λ p hk hp=>by
 have hc:=i0.mainCell hk;refine f _ hc.1 hc.2.1 (λ h=>?_) (λ m h=>?_);·rw[hc.2.2] at h;cases h;omega
 ·rw[hc.2.2] at h;cases h⟩
theorem AlF.fl{H:ByteArray->Nat}{nd:Nv}{c r:Int}{L:Nat}(hT:TrieOk σ t)(i0:Inv H σ)(a:AlF σ υ nd c r w g):FL t L σ υ:=⟨a.ce hT.2.1,λ p hk _=>a.ce (i0.mainCell hk).2.1⟩
structure Lnk(σ:Kw)(p:Int)(k:Nat)(b:Int):Prop where
 st:Settled σ (σ.ce (σ.nd p).main)
 lk:lkV (σ.nd (σ.ce (σ.nd p).main)) (k:Int)=some b
structure Ended(σ:Kw)(p:Int)(k:Nat):Prop where
 st:Settled σ (σ.ce (σ.nd p).main)
 no:∀b,lkV (σ.nd (σ.ce (σ.nd p).main)) (k:Int)=some b->(σ.nd b).kind≠2
structure SoG(X:Xp)(σ:Kw)(t:Tri)(g:Int):Prop where
 b:X.b=false
 ro:t.ro=false
 k2:(σ.nd (σ.ce t.root)).kind=2
 gen:(σ.nd (σ.ce t.root)).gen=g
theorem SoG.fl{H:ByteArray->Nat}{L:Nat}(i0:Inv H σ)(hT:TrieOk σ t)(l:Le σ τ)(f:FL t L σ τ)(h:SoG X σ t g):SoG X τ t g:=by
 have e:τ.nd (τ.ce t.root)=σ.nd (σ.ce t.root):=by rw[f.root];exact l.nd (i0.ce _ hT.1 hT.2.1).hi
 exact⟨h.b,h.ro,by rw[e];exact h.k2,by rw[e];exact h.gen⟩
theorem inode_x{K:Int->Tr}{g':Int}(hX:Xol X)(i0:Inv X.H σ)(h1:1<=g)(h2:g<=σ.mm.gen)(hw:w.length<=11)(hm:IsM σ m w g')(hs:Settled σ m)(hg:g'<=g)(hK:∀τ j,Le σ τ->Inv X.H τ->InG τ j w g->AlF σ τ (inodeV g) m j w 0->XT X (K j) n τ):XT X (.alloc (inodeV g) m K) n σ :=alloc_x (w:=w) (g:=0) hX.al i0 (new_inode hw h1 h2) ⟨⟨by have:=hm.in;omega,hm.in.2⟩,λ _=>hm.le hg,λ k=>absurd k (mk_dec (.inr (.inr (.inl rfl)))),λ k=>no_k (a:=2) (b:=8) k⟩ (λ υ j l1 i1 a=>hK υ j l1 i1 ⟨⟨by rw[a.nd];rfl,a.way⟩,by rw[a.nd];rfl⟩ a) λ _=>hs
theorem gen_x{K:Int->Tr}(hX:Xol X)(i0:Inv X.H σ)(hK:∀υ,Le σ υ->Inv X.H υ->υ.mm=⟨σ.mm.nodes,σ.mm.cs,σ.mm.gen+1⟩->XT X (K (σ.mm.gen+1)) n υ):XT X (.gen K) n σ:=by obtain⟨υ,l,i,e,_⟩:WT X.H (λ _ _=>True) (.gen λ _=>.done Rs.zero) σ:=gen_wt i0 λ _ _ _ _=>trivial;exact .inr ⟨λ _ υ l i e=>hK υ l i e,λ _=>⟨υ,l,i,e,hK υ l i e⟩⟩
theorem cell_x{r:Int}{K:Int->Tr}(hX:Xol X)(ro:Bool)(i0:Inv X.H σ)(hr:IsI σ r [])(hK:∀υ c,Le σ υ->Inv X.H υ->0<c->TrieOk υ ⟨c,ro⟩->XT X (K c) n υ):XT X (.cell r K) n σ:=by obtain⟨υ,l,i,e,h1,h2⟩:WT X.H (λ r υ=>0<r.root/\TrieOk υ ⟨r.root,ro⟩) (.cell r λ c=>.done (triR c ro)) σ:=cell_wt ro i0 hr λ _ _ _ _ h0 ht=>⟨h0,ht⟩;exact .inr ⟨hr.1,λ h=>(by rw[hX.al] at h;cases h),λ _=>⟨υ,l,i,e,hK υ _ l i h1 h2⟩⟩
theorem repl_x{b:Nat}{xs:List Int}{K:Int->Tr}(hX:Xol X)(i0:Inv X.H σ)(hm:IsM σ m w g)(hs:Settled σ m)(hc:CNode σ m w g b xs){k:Nat}(hk:k<64){o r:Int}(ho:lkV (σ.nd m) (k:Int)=some o)(hr:BrI σ (w++[k]) g r)(h0:0<w.length->xs.length=1->(σ.nd r).kind=2)
  (hK:∀τ v,Le σ τ->Inv X.H τ->IsM τ v w g->AlF σ τ (upV (σ.nd m) (k:Int) r) m v w g->MainK (upV (σ.nd m) (k:Int) r)->lkV (τ.nd v) (k:Int)=some r->XT X (K v) n τ):XT X (replT m (k:Int) r K) n σ:=by have hmk:MainK (upV (σ.nd m) (k:Int) r):=.inl (upV_kind hc hk ho hr.in.1);refine node_x hm.in.2 (alloc_x hX.al i0 (new_up i0 hc hk ho hr h0) (over_main hmk hm hs) λ υ n l1 i1 a=>?_);have hn:=mk_main (cl:=0) hmk a.nd a.way a.gb;refine hK υ n l1 i1 hn a hmk ?_;have hcn:=hn.cnode i1 (by rw[a.nd];exact upV_kind hc hk ho hr.in.1);obtain⟨f1,f2,f3,_⟩:=hc.up hk ho hr.in.1;rw[hcn.lk hk,a.nd];show mOf (upV (σ.nd m) (k:Int) r).bm.toNat (upV (σ.nd m) (k:Int) r).xs k=some r;rw[f1,show(cnV b (updL xs (cnt b k) r)).bm.toNat=b from Int.toNat_natCast _,show(cnV b (updL xs (cnt b k) r)).xs=updL xs (cnt b k) r from rfl,f3 k hk];unfold upd;rw[if_pos rfl]
theorem renew_x{b:Nat}{xs:List Int}{K:Int->Tr}(hX:Xol X)(hT:TrieOk σ t)(i0:Inv X.H σ)(hi:InG σ i w g)(hm:IsM σ m w g)(hs:Settled σ m)(hc:CNode σ m w g b xs){k:Nat}(hk:k<64){o:Int}(ho:lkV (σ.nd m) (k:Int)=some o)(h2:(σ.nd o).kind=2)
  (hK:∀τ v,Le σ τ->Inv X.H τ->(v=0∨InG τ v (w++[k]) g)->(SoG X σ t g->σ.ce (σ.nd i).main=m->v≠0/\Lnk τ i k v/\FL t w.length σ τ)->XT X (K v) n τ):XT X (renewT t i m (k:Int) K) (n+20) σ:=by
 have hb:IsI σ o (w++[k])/\(σ.nd o).gen<=g:=by
  have ho2:=ho;rw[hc.lk hk] at ho2;rcases hc.br k hk o ho2 with h|h;·rw[h2] at h;exact absurd h.1 (by decide)
  ·exact⟨⟨h.1,h.2.1⟩,h.2.2⟩
 have hg:=hi.gens i0;refine node_x hm.in.2 ?_;try dsimp only
 rw[show(lkV (σ.nd m) (k:Int)).getD 0=o by rw[ho];rfl];refine read_x hX.toXok (n:=n+10) hT i0 (g:=(σ.nd o).gen) ⟨hb.1,rfl⟩ λ τ v l1 i1 hv hsv fr=>node_x (by have:=l1.len;have:=hi.in.2;omega) ?_;have hi1:=hi.up l1;try dsimp only
 rw[hi1.2];refine inode_x hX i1 hg.1 (by have:=l1.gen;omega) (by rw[List.length_append,List.length_singleton];have:=hc.wl;omega) hv hsv hb.2 λ υ j l2 i2 hj aj=>?_;have l12:=l1.trans i0 i1 l2;have ho2:lkV (υ.nd m) (k:Int)=some o:=by rw[l12.nd hm.in.2];exact ho
 refine repl_x hX i2 (hm.up l12) (Settled.up i0 hm.1 hs l12) (hc.upL l12) hk ho2 (.inr ⟨hj.1.1,hj.1.2,by rw[hj.2];exact Int.le_refl _⟩) (λ _ _=>hj.1.1) λ ρ n l3 i3 hn an hmk hlk=>?_;have l13:=l12.trans i0 i2 l3;refine gcas_x hX.toXok (hT.up l13) i3 (hi.up l13) hn λ χ ok l4 i4 hgr=>hK χ _ (l13.trans i0 i3 l4) i4 ?_ λ hso hma=>?_
 ·try dsimp only
  split;·exact .inr ((hj.up l3).up l4)
  ·exact .inl rfl
 ·have fo:=fr.s hso.b hso.k2;have hne:i≠o:=λ e=>by have h1:=hi.1.2;rw[e,hb.1.2] at h1;have:=congrArg List.length h1;simp at this
  have hmi:=i0.mainCell hi.1.1;have emi:τ.ce (σ.nd i).main=m:=(fo.2 _ hmi.1 hmi.2.1 (main_ne i0 hi.1.1 hb.1.1 hne) (λ q h=>by rw[hmi.2.2] at h;cases h)).trans hma
  have fl1:FL t w.length σ τ:=(fl_frm hT i0 fo.2).less (by rw[hb.1.2];simp);have fl2:FL t w.length τ υ:=aj.fl (hT.up l1) i1;have fl3:FL t w.length υ ρ:=an.fl (hT.up l12) i2;have fl13:=(fl1.trans l1 fl2).trans l12 fl3;have hso3:=hso.fl i0 hT l13 fl13;have hml:m<=σ.len:=hm.in.2;have hgc:GcS X ρ t i g m n:=⟨hso3.b,hso3.ro,hso3.k2,hso3.gen,by rw[l13.nd hi.in.2,an.ce (by have:=l12.cl;have:=hmi.2.1;omega),aj.ce (by have:=l1.cl;have:=hmi.2.1;omega)];exact emi,an.prev hmk,by rw[l13.nd hml];exact hm.1⟩;have r:=hgr hgc;rw[if_pos r.t];have ema:χ.ce (χ.nd i).main=n:=by rw[l4.nd (hi.up l13).in.2];exact r.ma
  have hj1:=hj.in;refine⟨by omega,⟨by rw[ema];exact r.st,by rw[ema,l4.nd hn.in.2];exact hlk⟩,fl13.trans l13 ((fl_frm (hT.up l13) i3 r.fr).less (by rw[(hi.up l13).1.2];exact Nat.le_refl _))⟩
end
end
end Go.Proofs.YtdnklbipddigbaaGreat
