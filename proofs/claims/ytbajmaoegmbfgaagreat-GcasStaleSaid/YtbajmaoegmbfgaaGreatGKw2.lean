/- Merged. -/
import Derived.Test.YtbajmaoegmbfgaaGreatGWo4
import Derived.Test.YtbajmaoegmbfgaaGreatGBr6
import Derived.Test.YtbajmaoegmbfgaaGreatGBitsE
import Derived.Test.YtbajmaoegmbfgaaGreatGRn1
set_option linter.unusedSimpArgs false
set_option linter.unusedVariables false
namespace Go.Proofs.YtbajmaoegmbfgaaGreat
open Go.Ct
section
section
variable{H:ByteArray->Nat}{σ τ υ:Kw}{r:Int}{w:List Nat}
theorem fY{cs:List Int}{c o v:Int}(h:fZ cs c o)(c':Int):aW (dE cs c o v) c'=if c'=c then v else aW cs c':=by
 have hl:=fI (cs:=cs) (c:=c) (bJ:=o) (new:=v)
 obtain⟨h1,h2,h3⟩:=h
 have e:dE cs c o v=cs.set (c-1).toNat v:=if_pos ⟨h1,h2,h3⟩
 unfold aW
 rw[hl]
 by_cases hc:1<=c'/\c'<=cs.length
 ·rw[if_pos hc,if_pos hc,e]
  by_cases e2:c'=c
  ·subst e2
   rw[if_pos rfl]
   rw[iM,List.getElem?_set,if_pos rfl,if_pos (by omega)]
   rfl
  ·rw[if_neg e2]
   rw[iM,List.getElem?_set,if_neg (by omega),iM]
 ·rw[if_neg hc,if_neg hc,if_neg (by omega)]
theorem wV{cs:List Int}{c o:Int}(h:fZ cs c o):aW cs c=o:=by
 obtain⟨h1,h2,h3⟩:=h
 unfold aW
 rw[if_pos ⟨h1,h2⟩,h3]
theorem uF.in(h:uF σ r w):1<=r/\r<=σ.len:=dJ (by rw[h.1];decide)
theorem oS.in{g:Int}(h:oS σ r w g):1<=r/\r<=σ.len:=gP h.1
theorem Inv.jI(i:Inv H σ){m:Int}(h:bQ (σ.nd m)):1<=(σ.nd m).prev/\(σ.nd m).prev<=σ.cl/\σ.ct (σ.nd m).prev=.prev m:=by
 have hr:=gP h
 have hn:=i.nd m hr.1 hr.2
 have hb:=hn.bd.prev
 rcases h with h|h|h
 ·have:=hn.k3 h;exact⟨this.2.2.2.1,hb,this.2.2.2.2⟩
 ·have:=hn.k5 h;exact⟨this.2.2.2.2.1,hb,this.2.2.2.2.2⟩
 ·have:=hn.k6 h;exact⟨this.2.2.2.1,hb,this.2.2.2.2⟩
theorem Inv.dO(i:Inv H σ){r:Int}(h:(σ.nd r).kind=2):1<=(σ.nd r).main/\(σ.nd r).main<=σ.cl/\σ.ct (σ.nd r).main=.main r:=by
 have hr:=dJ (N:=σ.mm.nodes) (i:=r) (by rw[h];decide)
 have hn:=i.nd r hr.1 hr.2
 exact⟨(hn.k2 h).2.1,hn.bd.main,(hn.k2 h).2.2⟩
theorem Inv.lz(i:Inv H σ){r:Int}(h:(σ.nd r).kind=8):1<=(σ.nd r).status/\(σ.nd r).status<=σ.cl/\σ.ct (σ.nd r).status=.stat r:=by
 have hr:=dJ (N:=σ.mm.nodes) (i:=r) (by rw[h];decide)
 have hn:=i.nd r hr.1 hr.2
 exact⟨(hn.k8 h).2.2.1,hn.bd.status,(hn.k8 h).2.2.2⟩
theorem uF.up(h:uF σ r w)(l:Le σ τ):uF τ r w:=by
 have hr:=h.in
 exact⟨by rw[l.nd hr.2];exact h.1,by rw[l.way r hr.2];exact h.2⟩
theorem oS.up{g:Int}(h:oS σ r w g)(l:Le σ τ):oS τ r w g:=by
 have hr:=h.in
 exact⟨by rw[l.nd hr.2];exact h.1,by rw[l.way r hr.2];exact h.2.1,by rw[l.gb r hr.2];exact h.2.2⟩
theorem oS.le{g g':Int}(h:oS σ r w g)(hg:g<=g'):oS σ r w g':=⟨h.1,h.2.1,Int.le_trans h.2.2 hg⟩
theorem bA.up(i:Inv H σ)(hm:bQ (σ.nd r))(h:bA σ r)(l:Le σ τ):bA τ r:=by
 have hc:=i.jI hm
 unfold bA
 rw[l.nd (gP hm).2,l.done _ r hc.1 hc.2.1 hc.2.2 (by rw[h];exact jM (.inl (xL _)))]
 exact h
theorem n8.same{c:Int}(h:n8 σ c)(hm:υ.mm.nodes=σ.mm.nodes)(hw:υ.way=σ.way)(hg:υ.gb=σ.gb)(hct:υ.ct=σ.ct)(hc:υ.ce c=σ.ce c)(hs:∀p,bQ (σ.nd p)->bA σ p->bA υ p):n8 υ c:=by
 have hl:υ.len=σ.len:=by simp only[Kw.len,hm]
 have hn:∀r,υ.nd r=σ.nd r:=λ r=>by simp only[Kw.nd,hm]
 have hM:∀p w g,oS σ p w g->oS υ p w g:=λ p w g h=>⟨by rw[hn];exact h.1,by rw[hw];exact h.2.1,by rw[hg];exact h.2.2⟩
 have hP:∀m p,qL σ m p->qL υ m p:=λ m p h=>⟨by rw[hw,hg];exact hM _ _ _ h.1,hs p h.1.1 h.2⟩
 refine⟨by rw[hc];exact h.lo,by rw[hc,hl];exact h.hi,λ i e=>?_,λ m e=>?_,λ d e=>?_,λ e=>?_,λ e=>?_⟩
 ·rw[hc,hw,hn]
  obtain⟨h0,h1⟩:=h.main i (by rw[<- hct];exact e)
  exact⟨h0,hM _ _ _ h1⟩
 ·rw[hc,hn,hn]
  obtain⟨h0,h⟩:=h.prev m (by rw[<- hct];exact e)
  refine⟨h0,?_⟩
  rcases h with h1|h1|⟨h1,h2⟩
  ·exact .inl h1
  ·exact .inr (.inl (hP _ _ h1))
  ·exact .inr (.inr ⟨h1,hP _ _ h2⟩)
 ·rw[hc];exact h.stat d (by rw[<- hct];exact e)
 ·rw[hc,hn]
  rcases h.root (by rw[<- hct];exact e) with h1|h1
  ·exact .inl ⟨by rw[hn];exact h1.1,by rw[hw];exact h1.2⟩
  ·exact .inr h1
 ·rw[hc]
  have h1:=h.rort (by rw[<- hct];exact e)
  exact⟨by rw[hn];exact h1.1,by rw[hw];exact h1.2⟩
theorem dY.jE{N:List Nv}{cs:List Int}{gen c o v:Int}(h:dY N cs gen)(lo:0<=v)(hi:v<=N.length):dY N (dE cs c o v) gen:=by
 unfold dE
 split
 ·refine⟨h.two,h.gen0,h.m0,h.m1,λ i hi'=>?_,h.nodes,by rw[List.length_set];exact h.marks⟩
  rw[List.length_set] at hi'
  rw[iM,List.getElem?_set]
  split
  ·rw[if_pos (by omega)]
   exact⟨lo,by rw[List.length_map];exact hi⟩
  ·rw[<- iM]
   exact h.cells i hi'
 ·exact h
structure Wm(σ:Kw)(c o v:Int):Prop where
 lo:0<=v
 hi:v<=σ.len
 main:∀i,σ.ct c=.main i->oS σ v (σ.way i) (σ.nd i).gen
 prev:∀m,σ.ct c=.prev m->bQ (σ.nd o)/\(v=0∨((σ.nd v).kind=7/\(σ.nd v).bJ=o))
 stat:∀d,σ.ct c=.stat d->v=0∨v=1∨v=2
 root:σ.ct c=.root->uF σ v []∨(σ.nd v).kind=8
 rort:σ.ct c=.rort->uF σ v []
def Kw.set(σ:Kw)(c o v:Int):Kw:=⟨⟨σ.mm.nodes,dE σ.mm.cs c o v,σ.mm.gen⟩,σ.way,σ.gb,σ.ct⟩
theorem q8{c o v:Int}(i:Inv H σ)(hk:fZ σ.mm.cs c o)(hs:Wm σ c o v):Le σ (σ.set c o v)/\Inv H (σ.set c o v)/\(σ.set c o v).ce c=v:=by
 unfold Kw.set
 refine⟨?_,?_,by show aW (dE _ _ _ _) c=v;rw[fY hk,if_pos rfl]⟩
 ·refine⟨⟨[],by simp⟩,by simp only[Kw.cl,fI];exact Nat.le_refl _,Int.le_refl _,λ _ _=>rfl,λ _ _=>rfl,λ _ _=>rfl,λ c' m h1 hc e hm=>?_,λ c' m h1 hc e hm=>?_⟩
  ·show aW (dE _ _ _ _) c'=_
   rw[fY hk]
   split
   ·rename_i e2
    subst e2
    exact absurd (by rw[show σ.ce c'=o from wV hk];exact(hs.prev m e).1) hm
   ·rfl
  ·show aW (dE _ _ _ _) c'=_∨aW (dE _ _ _ _) c'=_∨_
   rw[fY hk]
   split
   ·rename_i e2
    subst e2
    have e3:σ.ce c'=o:=wV hk
    rcases(hs.prev m e).2 with h|h
    ·exact .inr (.inl h)
    ·refine .inr (.inr ?_)
     show(aS σ.mm.nodes (aW (dE _ _ _ _) c')).kind=7/\(aS σ.mm.nodes (aW (dE _ _ _ _) c')).bJ=_
     rw[fY hk,if_pos rfl,e3]
     exact h
   ·exact .inl rfl
 ·have hcl:(dE σ.mm.cs c o v).length=σ.cl:=fI
  refine⟨i.two,i.m1,i.m2,i.gen,dY.jE i.prop hs.lo hs.hi,λ r h1 h2=>?_,λ c' h1 h2=>?_⟩
  ·have h:=i.nd r h1 h2
   exact⟨h.valid,h.gen,by simp only[Kw.cl,hcl];exact h.bd,h.k2,h.k3,h.k4,h.k5,h.k6,h.k7,h.k8⟩
  ·simp only[Kw.cl,hcl] at h2
   have hset:∀p,bQ (σ.nd p)->bA σ p->aW (dE σ.mm.cs c o v) (σ.nd p).prev=0:=λ p hm hp=>by
    rw[fY hk]
    split
    ·rename_i e
     have hc:=(i.jI hm).2.2
     rw[e] at hc
     have h0:σ.ce (σ.nd p).prev=0:=hp
     rw[e,show σ.ce c=o from wV hk] at h0
     have:=(hs.prev p hc).1
     rw[h0] at this
     exact absurd this (jM (.inl (xL _)))
    ·exact hp
   by_cases e:c'=c
   ·subst e
    have e2:aW (dE σ.mm.cs c' o v) c'=v:=by rw[fY hk,if_pos rfl]
    have e3:σ.ce c'=o:=wV hk
    refine⟨by simp only[Kw.ce,e2];exact hs.lo,by simp only[Kw.ce,e2];exact hs.hi,λ i' h=>?_,λ m h=>?_,λ d h=>?_,λ h=>?_,λ h=>?_⟩
    ·simp only[Kw.ce,e2];exact⟨((i.ce c' h1 h2).main i' h).1,hs.main i' h⟩
    ·simp only[Kw.ce,e2]
     have hp:=hs.prev m h
     have hold:qL σ m o:=by
      rcases((i.ce c' h1 h2).prev m h).2 with h3|h3|h3
      ·rw[e3] at h3;rw[h3] at hp;exact absurd hp.1 (jM (.inl (xL _)))
      ·rwa [e3] at h3
      ·rw[e3] at h3;exact absurd hp.1 (jM (.inr (.inl h3.1)))
     refine⟨((i.ce c' h1 h2).prev m h).1,?_⟩
     rcases hp.2 with h3|⟨h3,h4⟩
     ·exact .inl h3
     ·refine .inr (.inr ⟨h3,?_⟩)
      show qL _ m (σ.nd v).bJ
      rw[h4]
      exact⟨hold.1,hset _ hp.1 hold.2⟩
    ·simp only[Kw.ce,e2];exact hs.stat d h
    ·simp only[Kw.ce,e2];exact hs.root h
    ·simp only[Kw.ce,e2];exact hs.rort h
   ·exact(i.ce c' h1 h2).same rfl rfl rfl rfl (by show aW (dE _ _ _ _) c'=_;rw[fY hk,if_neg e]) hset
structure Ext(σ υ:Kw):Prop where
 nodes:∃N,υ.mm.nodes=σ.mm.nodes++N
 cs:∃C,υ.mm.cs=σ.mm.cs++C
 gen:σ.mm.gen<=υ.mm.gen
 way:∀r:Int,r<=σ.len->υ.way r=σ.way r
 gb:∀r:Int,r<=σ.len->υ.gb r=σ.gb r
 ct:∀c:Int,c<=σ.cl->υ.ct c=σ.ct c
theorem nQ{cs C:List Int}{c:Int}(h:c<=cs.length):aW (cs++C) c=aW cs c:=by
 unfold aW
 by_cases h1:1<=c
 ·rw[if_pos ⟨h1,by simp;omega⟩,if_pos ⟨h1,h⟩,iM,iM,List.getElem?_append_left (by omega)]
 ·rw[if_neg (by omega),if_neg (by omega)]
theorem Ext.ce(e:Ext σ υ){c:Int}(h:c<=σ.cl):υ.ce c=σ.ce c:=by obtain⟨C,h2⟩:=e.cs;simp only[Kw.ce,h2];exact nQ h
theorem Ext.cl(e:Ext σ υ):σ.cl<=υ.cl:=by obtain⟨C,h2⟩:=e.cs;simp only[Kw.cl,h2,List.length_append];omega
theorem Ext.le(e:Ext σ υ):Le σ υ:=⟨e.nodes,e.cl,e.gen,e.way,e.gb,e.ct,λ _ _ _ h _ _=>e.ce h,λ _ _ _ h _ _=>.inl (e.ce h)⟩
theorem Ni.up{g b:Int}(h:Ni σ w g b)(l:Le σ υ):Ni υ w g b:=by
 rcases h with h|h
 ·have hr:=dJ (N:=σ.mm.nodes) (i:=b) (by rw[h.1];decide)
  exact .inl (by rw[l.nd hr.2];exact h)
 ·have hr:=dJ (N:=σ.mm.nodes) (i:=b) (by rw[h.1];decide)
  exact .inr (by rw[l.nd hr.2,l.way b hr.2];exact h)
theorem zs.ext(h:zs H σ r)(hr:r<=σ.len)(e:Ext σ υ):zs H υ r:=by
 have l:=e.le
 have hn:=l.nd hr
 have hw:=l.way r hr
 have hk:∀b,(σ.nd b).kind=2->(υ.nd b).kind=2:=λ b hb=>by rw[l.nd (dJ (N:=σ.mm.nodes) (i:=b) (by rw[hb];decide)).2];exact hb
 refine⟨by rw[hn];exact h.valid,by rw[hn];have:=h.gen;have:=e.gen;omega,by rw[hn];exact h.bd.mono l.len l.cl,λ k=>?_,λ k=>?_,λ k=>?_,λ k=>?_,λ k=>?_,λ k=>?_,λ k=>?_⟩<;>rw[hn] at k ⊢
 ·obtain⟨h1,h2,h3⟩:=h.k2 k
  exact⟨by rw[hw];exact h1,h2,by rw[l.ct _ h.bd.main];exact h3⟩
 ·obtain⟨h1,h2,h3,h4,h5⟩:=h.k3 k
  rw[hw]
  refine⟨h1,λ k' b hb=>by rw[l.gb r hr];exact(h2 k' b hb).up l,λ h0=>⟨(h3 h0).1,λ b hb=>hk b ((h3 h0).2 b hb)⟩,h4,by rw[l.ct _ h.bd.prev];exact h5⟩
 ·exact h.k4 k
 ·rw[hw,l.ct _ h.bd.prev];exact h.k5 k
 ·rw[hw,l.ct _ h.bd.prev];exact h.k6 k
 ·have:=h.k7 k
  rw[l.nd (gP this).2];exact this
 ·obtain⟨h1,h2,h3,h4⟩:=h.k8 k
  exact⟨h1.up l,h2.up l,h3,by rw[l.ct _ h.bd.status];exact h4⟩
theorem n8.ext{c:Int}(i:Inv H σ)(h:n8 σ c)(hc:c<=σ.cl)(e:Ext σ υ):n8 υ c:=by
 have l:=e.le
 have hv:=e.ce hc
 have hP:∀m p:Int,m<=σ.len->qL σ m p->qL υ m p:=λ m p hm hp=>⟨by rw[l.way m hm,l.gb m hm];exact hp.1.up l,bA.up i hp.1.1 hp.2 l⟩
 refine⟨by rw[hv];exact h.lo,by rw[hv];have:=h.hi;have:=l.len;omega,λ i' k=>?_,λ m k=>?_,λ d k=>?_,λ k=>?_,λ k=>?_⟩<;>rw[l.ct c hc] at k<;>rw[hv]
 ·obtain⟨h1,h2⟩:=h.main i' k
  have hr:=dJ (N:=σ.mm.nodes) (i:=i') (by rw[h1];decide)
  rw[l.nd hr.2,l.way i' hr.2]
  exact⟨h1,h2.up l⟩
 ·obtain⟨h1,h2⟩:=h.prev m k
  have hr:=gP h1
  rw[l.nd hr.2]
  refine⟨h1,?_⟩
  rcases h2 with h2|h2|⟨h2,h3⟩
  ·exact .inl h2
  ·exact .inr (.inl (hP m _ hr.2 h2))
  ·refine .inr (.inr ?_)
   rw[l.nd h.hi]
   exact⟨h2,hP m _ hr.2 h3⟩
 ·exact h.stat d k
 ·rcases h.root k with h1|h1
  ·exact .inl (h1.up l)
  ·exact .inr (by rw[l.nd h.hi];exact h1)
 ·exact(h.rort k).up l
theorem Li(i:Inv H σ)(e:Ext σ υ)(hp:dY υ.mm.nodes υ.mm.cs υ.mm.gen)(hn:∀r:Int,σ.len<r->r<=υ.len->zs H υ r)(hc:∀c:Int,σ.cl<c->c<=υ.cl->n8 υ c):Inv H υ:=by
 have l:=e.le
 refine⟨Nat.le_trans i.two l.len,by rw[l.nd (by have:=i.two;omega)];exact i.m1,by rw[l.nd (by have:=i.two;omega)];exact i.m2,Int.le_trans i.gen e.gen,hp,λ r h1 h2=>?_,λ c h1 h2=>?_⟩
 ·rcases Int.lt_or_le σ.len r with h|h
  ·exact hn r h h2
  ·exact(i.nd r h1 h).ext h e
 ·rcases Int.lt_or_le σ.cl c with h|h
  ·exact hc c h h2
  ·exact n8.ext i (i.ce c h1 h) h e
def Kw.add(σ:Kw)(n:Nv)(i:Int)(w:List Nat)(g:Int)(t:CT):Kw :=
 ⟨σ.mm.push n i,λ r=>if r<=σ.len then σ.way r else w,λ r=>if r<=σ.len then σ.gb r else g,λ c=>if c<=σ.cl then σ.ct c else t⟩
theorem V7(σ:Kw)(n:Nv)(i:Int)(w:List Nat)(g:Int)(t:CT):Ext σ (σ.add n i w g t) :=
 ⟨⟨_,rfl⟩,by unfold Kw.add Mm.push eU;dsimp only;split;exact⟨_,rfl⟩;exact⟨[],by simp⟩,Int.le_refl _,λ r hr=>if_pos hr,λ r hr=>if_pos hr,λ c hc=>if_pos hc⟩
theorem Vd(σ:Kw)(n:Nv)(i:Int)(w:List Nat)(g:Int)(t:CT):(σ.add n i w g t).len=σ.len+1:=by simp[Kw.len,Kw.add,Mm.push]
theorem zx(σ:Kw)(n:Nv)(i:Int)(w:List Nat)(g:Int)(t:CT):(σ.add n i w g t).nd ((σ.len+1:Nat):Int)=cK n σ.cl:=by
 simp only[Kw.nd,Kw.add,Mm.push,aS,List.length_append,List.length_cons,List.length_nil]
 rw[if_pos ⟨by omega,by simp only[Kw.len];omega⟩]
 have e:(((σ.len+1:Nat):Int)-1).toNat=σ.mm.nodes.length:=by simp only[Kw.len];omega
 rw[e]
 simp[iM]
theorem se(σ:Kw)(n:Nv)(i:Int)(w:List Nat)(g:Int)(t:CT):(σ.add n i w g t).way ((σ.len+1:Nat):Int)=w:=if_neg (by omega)
theorem xu(σ:Kw)(n:Nv)(i:Int)(w:List Nat)(g:Int)(t:CT):(σ.add n i w g t).gb ((σ.len+1:Nat):Int)=g:=if_neg (by omega)
theorem yz(σ:Kw)(n:Nv)(i:Int)(w:List Nat)(g:Int)(t:CT):(σ.add n i w g t).ct ((σ.cl+1:Nat):Int)=t:=if_neg (by omega)
theorem z8(σ:Kw){n:Nv}(i:Int)(w:List Nat)(g:Int)(t:CT)(h:n.kind=2∨n.kind=3∨n.kind=5∨n.kind=6∨n.kind=8):(σ.add n i w g t).cl=σ.cl+1/\(σ.add n i w g t).ce ((σ.cl+1:Nat):Int)=i:=by
 have e:(σ.add n i w g t).mm.cs=σ.mm.cs++[i]:=by simp only[Kw.add,Mm.push,eU];exact if_pos h
 refine⟨by simp[Kw.cl,e],?_⟩
 simp only[Kw.ce,e,aW,List.length_append,List.length_cons,List.length_nil]
 rw[if_pos ⟨by omega,by simp only[Kw.cl];omega⟩]
 have e2:(((σ.cl+1:Nat):Int)-1).toNat=σ.mm.cs.length:=by simp only[Kw.cl];omega
 rw[e2]
 simp[iM]
theorem qi(σ:Kw){n:Nv}(i:Int)(w:List Nat)(g:Int)(t:CT)(h:¬(n.kind=2∨n.kind=3∨n.kind=5∨n.kind=6∨n.kind=8)):(σ.add n i w g t).cl=σ.cl:=by
 have e:(σ.add n i w g t).mm.cs=σ.mm.cs:=by simp only[Kw.add,Mm.push,eU];exact if_neg h
 simp[Kw.cl,e]
theorem rn{n:Nv}{i:Int}{g:Int}{t:CT}(h:Inv H σ)(hok:lO σ.mm.gen (σ.len+1) (cK n σ.cl).dv)(hi:Cn i σ.len)(hn:zs H (σ.add n i w g t) ((σ.len+1:Nat):Int))(hc:(σ.add n i w g t).cl=σ.cl+1->n8 (σ.add n i w g t) ((σ.cl+1:Nat):Int))(hcl:(σ.add n i w g t).cl<=σ.cl+1):Inv H (σ.add n i w g t):=by
 refine Li h (V7 σ n i w g t) (dY.push h.prop hok hi) (λ r h1 h2=>?_) (λ c h1 h2=>?_)
 ·rw[Vd] at h2
  rw[show r=((σ.len+1:Nat):Int) by omega];exact hn
 ·rw[show c=((σ.cl+1:Nat):Int) by omega];exact hc (by omega)
end
end
end Go.Proofs.YtbajmaoegmbfgaaGreat
namespace Go.Ct
section
section
variable{gen:Int}{n c:Nat}
theorem L7(h:0<=gen):lO gen n fF.c.dv:=⟨⟨by simp[rQ,Nd.own,Nd.jV,Nd.iV,fF,Nd.zero,aP.c,Nd.c,Nv.dv,Nv.nd],by decide,by decide,by decide,.inl rfl⟩,h,λ i hi=>by simp[fF,aP.c,Nd.c,Nv.dv] at hi,⟨by decide,bK n⟩,⟨by decide,bK n⟩,⟨by decide,bK n⟩⟩
theorem fT:Cn 0 n:=⟨Int.le_refl _,bK n⟩
theorem Yn{h u:Int}{k:ByteArray}(hg:0<=gen)(hk:k.size<=64):lO gen n (cK (({Nd.zero with kind:=4,hash:=h,key:=k,val:=u}:Nd).c [] []) c).dv :=
 ⟨⟨by simp[rQ,Nd.own,Nd.jV,Nd.iV,Nd.zero,cK,Nd.c,Nv.dv,Nv.nd],by simp[cK,Nd.c,Nv.dv,Nv.nd,Nd.zero],by simp[cK,Nd.c,Nv.dv,Nv.nd,Nd.zero],by simp[cK,Nd.c,Nv.dv,Nv.nd,Nd.zero],.inr (.inr (.inr (.inl ⟨.inl rfl,hk⟩)))⟩,hg,λ i hi=>by simp[cK,Nd.c,Nv.dv] at hi,fT,fT,fT⟩
theorem il{g:Int}(hg:g<=gen)(h1:1<=g):lO gen n (cK (({Nd.zero with kind:=2,gen:=g}:Nd).c [] []) c).dv :=
 ⟨⟨by simp[rQ,Nd.own,Nd.jV,Nd.iV,Nd.zero,cK,Nd.c,Nv.dv,Nv.nd],by simp[cK,Nd.c,Nv.dv,Nv.nd,Nd.zero];omega,by simp[cK,Nd.c,Nv.dv,Nv.nd,Nd.zero],by simp[cK,Nd.c,Nv.dv,Nv.nd,Nd.zero],.inr (.inl ⟨rfl,h1⟩)⟩,hg,λ i hi=>by simp[cK,Nd.c,Nv.dv] at hi,fT,fT,fT⟩
theorem Zz{b:Nat}{xs:List Int}(hg:0<=gen)(hb:BV b xs)(hx:∀r∈xs,r<=n):lO gen n (cK (({Nd.zero with kind:=3,bm:=(b:Int)}:Nd).c xs []) c).dv :=
 ⟨⟨by simp[rQ,Nd.own,Nd.jV,Nd.iV,Nd.zero,cK,Nd.c,Nv.dv,Nv.nd],by simp[cK,Nd.c,Nv.dv,Nv.nd,Nd.zero],by simp[cK,Nd.c,Nv.dv,Nv.nd,Nd.zero];omega,by simp[cK,Nd.c,Nv.dv,Nv.nd,Nd.zero],.inr (.inr (.inl ⟨rfl,by show(xs.length:Int)=yT (b:Int);rw[sI hb.lt,hb.len],hb.pos⟩))⟩,hg,λ i hi=>by
  have h1:=hb.pos i hi
  have hi':i<xs.length:=hi
  refine⟨by show 0<=xs.getD i 0;omega,hx _ ?_⟩
  show xs.getD i 0∈xs
  rw[iM,List.getElem?_eq_getElem hi']
  exact List.getElem_mem hi',fT,fT,fT⟩
theorem uf{h:Int}{ys:List Pr}(hg:0<=gen)(h2:2<=ys.length)(ha:wx ys)(hs:E3 ys):lO gen n (cK (({Nd.zero with kind:=6,hash:=h}:Nd).c [] ys) c).dv :=
 ⟨⟨by simp[rQ,Nd.own,Nd.jV,Nd.iV,Nd.zero,cK,Nd.c,Nv.dv,Nv.nd],by simp[cK,Nd.c,Nv.dv,Nv.nd,Nd.zero],by simp[cK,Nd.c,Nv.dv,Nv.nd,Nd.zero];omega,by simp[cK,Nd.c,Nv.dv,Nv.nd,Nd.zero],.inr (.inr (.inr (.inr (.inl ⟨rfl,h2,ha,hs⟩))))⟩,hg,λ i hi=>by simp[cK,Nd.c,Nv.dv] at hi,fT,fT,fT⟩
theorem Q9(h:0<=gen):dY [fF.c,fF.c] [] gen:=by
 refine⟨by simp,h,rfl,rfl,λ i hi=>by simp at hi,λ i hi=>?_,by simp[marks,eP,gD,fF,Nd.zero,aP.c,Nd.c,Nv.dv,Nv.nd]⟩
 simp only[List.map_cons,List.map_nil,List.length_cons,List.length_nil] at hi
 have:i=0∨i=1:=by omega
 rcases this with rfl|rfl
 ·exact L7 h
 ·exact L7 h
end
end
end Go.Ct
namespace Go.Proofs.YtbajmaoegmbfgaaGreat
open Go.Ct
section
def Nn(k:Int)(r:Int):CT:=if k=2 then .main r else if k=8 then .stat r else .prev r
structure kR(H:ByteArray->Nat)(σ:Kw)(n:Nv)(w:List Nat)(g:Int):Prop where
 kd:n.kind=2∨n.kind=3∨n.kind=4∨n.kind=5∨n.kind=6∨n.kind=7∨n.kind=8
 ok:lO σ.mm.gen (σ.len+1) (cK n σ.cl).dv
 bd:lX (σ.len+1) (σ.cl+1) (cK n σ.cl)
 k2:n.kind=2->w.length<=11
 k3:n.kind=3->w.length<=10/\(∀k:Nat,∀b,lA (cK n σ.cl) k=some b->Ni σ (w++[k]) g b)/\(0<w.length->n.xs≠[]/\∀b,n.xs=[b]->(σ.nd b).kind=2)
 k4:n.kind=4->H n.key=n.hash.toNat
 k5:n.kind=5->0<w.length/\w.length<=11/\H n.key=n.hash.toNat/\iO n.hash.toNat w
 k6:n.kind=6->w.length=11/\iO n.hash.toNat w/\∀p∈n.ys,H p.1=n.hash.toNat
 k7:n.kind=7->bQ (σ.nd n.bJ)
 k8:n.kind=8->uF σ n.bJ []/\uF σ n.new []
structure Xw(σ:Kw)(n:Nv)(i:Int)(w:List Nat)(g:Int):Prop where
 ins:Cn i σ.len
 k2:n.kind=2->oS σ i w n.gen
 kp:bQ n->i=0∨(oS σ i w g/\bA σ i)
 k8:n.kind=8->i=0
section
variable{H:ByteArray->Nat}{σ τ υ:Kw}{r:Int}{w:List Nat}
theorem Zj(n:Nv)(c:Nat):(cK n c).kind=n.kind:=rfl
theorem Zr{n:Nv}{i g:Int}(h:Inv H σ)(hn:kR H σ n w g)(hi:Xw σ n i w g):∃υ,Le σ υ/\Inv H υ/\υ.mm=σ.mm.push n i/\υ.nd ((σ.len+1:Nat):Int)=cK n σ.cl/\υ.way ((σ.len+1:Nat):Int)=w/\υ.gb ((σ.len+1:Nat):Int)=g:=by
 have e:=V7 σ n i w g (Nn n.kind ((σ.len+1:Nat):Int))
 have l:=e.le
 have hnd:=zx σ n i w g (Nn n.kind ((σ.len+1:Nat):Int))
 have hway:=se σ n i w g (Nn n.kind ((σ.len+1:Nat):Int))
 have hgb:=xu σ n i w g (Nn n.kind ((σ.len+1:Nat):Int))
 have hct:=yz σ n i w g (Nn n.kind ((σ.len+1:Nat):Int))
 have hlen:=Vd σ n i w g (Nn n.kind ((σ.len+1:Nat):Int))
 have hce:=λ h=>z8 σ (n:=n) i w g (Nn n.kind ((σ.len+1:Nat):Int)) h
 have hc0:=λ h=>qi σ (n:=n) i w g (Nn n.kind ((σ.len+1:Nat):Int)) h
 have hpush:(σ.add n i w g (Nn n.kind ((σ.len+1:Nat):Int))).mm=σ.mm.push n i:=rfl
 generalize hυ:σ.add n i w g (Nn n.kind ((σ.len+1:Nat):Int))=υ at *
 have hgen:υ.mm.gen=σ.mm.gen:=by rw[hpush];rfl
 have hcl:υ.cl<=σ.cl+1:=by
  by_cases hk:n.kind=2∨n.kind=3∨n.kind=5∨n.kind=6∨n.kind=8
  ·rw[(hce hk).1];exact Nat.le_refl _
  ·rw[hc0 hk];omega
 have hcl2:(n.kind=2∨n.kind=3∨n.kind=5∨n.kind=6∨n.kind=8)->((σ.cl+1:Nat):Int)=((σ.mm.cs.length+1:Nat):Int):=λ _=>rfl
 have hnd':zs H υ ((σ.len+1:Nat):Int):=by
  refine⟨by rw[hnd];exact hn.ok.1,by rw[hnd,hgen];exact hn.ok.2.1,?_,λ k=>?_,λ k=>?_,λ k=>?_,λ k=>?_,λ k=>?_,λ k=>?_,λ k=>?_⟩
  ·rw[hnd,hlen]
   have hb:=hn.bd
   by_cases hk:n.kind=2∨n.kind=3∨n.kind=5∨n.kind=6∨n.kind=8
   ·rw[(hce hk).1];exact hb
   ·rw[hc0 hk]
    refine⟨hb.bJ,hb.exp,hb.new,hb.br,?_,?_,?_,hb.bm,hb.hash⟩
    ·show(if n.kind=2 then _ else(0:Int))<=_;rw[if_neg (by omega)];exact bK _
    ·show(if n.kind=3∨n.kind=5∨n.kind=6 then _ else(0:Int))<=_;rw[if_neg (by omega)];exact bK _
    ·show(if n.kind=8 then _ else(0:Int))<=_;rw[if_neg (by omega)];exact bK _
  all_goals rw[hnd] at k ⊢
  all_goals rw[Zj] at k
  ·rw[hway]
   refine⟨hn.k2 k,?_⟩
   rw[show(cK n σ.cl).main=((σ.cl+1:Nat):Int) from if_pos k,hct]
   exact⟨by omega,if_pos k⟩
  ·rw[hway,hgb]
   obtain⟨h1,h2,h3⟩:=hn.k3 k
   rw[show(cK n σ.cl).prev=((σ.cl+1:Nat):Int) from if_pos (.inl k),hct]
   refine⟨h1,λ k' b hb=>(h2 k' b hb).up l,λ h0=>⟨(h3 h0).1,λ b hb=>?_⟩,by omega,?_⟩
   ·have:=(h3 h0).2 b hb
    rw[l.nd (dJ (N:=σ.mm.nodes) (i:=b) (by rw[this];decide)).2];exact this
   ·unfold Nn;rw[if_neg (by omega),if_neg (by omega)]
  ·exact hn.k4 k
  ·rw[hway]
   obtain⟨h1,h2,h3,h4⟩:=hn.k5 k
   rw[show(cK n σ.cl).prev=((σ.cl+1:Nat):Int) from if_pos (.inr (.inl k)),hct]
   refine⟨h1,h2,h3,h4,by omega,?_⟩
   unfold Nn;rw[if_neg (by omega),if_neg (by omega)]
  ·rw[hway]
   obtain⟨h1,h2,h3⟩:=hn.k6 k
   rw[show(cK n σ.cl).prev=((σ.cl+1:Nat):Int) from if_pos (.inr (.inr k)),hct]
   refine⟨h1,h2,h3,by omega,?_⟩
   unfold Nn;rw[if_neg (by omega),if_neg (by omega)]
  ·have:=hn.k7 k
   show bQ (υ.nd n.bJ)
   rw[l.nd (gP this).2];exact this
  ·obtain⟨h1,h2⟩:=hn.k8 k
   rw[show(cK n σ.cl).status=((σ.cl+1:Nat):Int) from if_pos k,hct]
   refine⟨h1.up l,h2.up l,by omega,?_⟩
   unfold Nn;rw[if_neg (by omega),if_pos k]
 refine⟨υ,l,?_,hpush,hnd,hway,hgb⟩
 rw[<- hυ]
 refine rn h hn.ok hi.ins (by rw[hυ];exact hnd') (λ hc=>?_) (by rw[hυ];exact hcl)
 rw[hυ] at hc ⊢
 have hk:n.kind=2∨n.kind=3∨n.kind=5∨n.kind=6∨n.kind=8:=Classical.byContradiction λ hk=>by have:=hc0 hk;omega
 have hv:=(hce hk).2
 refine⟨by rw[hv];exact hi.ins.1,by rw[hv,hlen];have:=hi.ins.2;omega,λ i' k=>?_,λ m k=>?_,λ d k=>?_,λ k=>?_,λ k=>?_⟩<;>rw[hct] at k<;>rw[hv]
 ·unfold Nn at k
  split at k
  ·rename_i h2
   cases k
   rw[hnd,hway]
   exact⟨h2,(hi.k2 h2).up l⟩
  ·split at k<;>cases k
 ·unfold Nn at k
  split at k
  ·cases k
  ·split at k
   ·cases k
   ·cases k
    have hm:bQ n:=by unfold bQ;omega
    rw[hnd]
    refine⟨hm,?_⟩
    rcases hi.kp hm with h1|⟨h1,h2⟩
    ·exact .inl h1
    ·exact .inr (.inl ⟨by rw[hway,hgb];exact h1.up l,bA.up h h1.1 h2 l⟩)
 ·unfold Nn at k
  split at k
  ·cases k
  ·split at k
   ·rename_i h8
    exact .inl (hi.k8 h8)
   ·cases k
 ·unfold Nn at k
  split at k
  ·cases k
  ·split at k<;>cases k
 ·unfold Nn at k
  split at k
  ·cases k
  ·split at k<;>cases k
end
end
section
theorem dG{a b:Int}{p:Prop}(k:a=b)(h:a≠b:=by decide):p:=absurd k h
theorem o9{gen h u:Int}{k:ByteArray}{n c:Nat}(hg:0<=gen)(hk:k.size<=64):lO gen n (cK (({Nd.zero with kind:=5,hash:=h,key:=k,val:=u}:Nd).c [] []) c).dv :=
 ⟨⟨by simp[rQ,Nd.own,Nd.jV,Nd.iV,Nd.zero,cK,Nd.c,Nv.dv,Nv.nd],by simp[cK,Nd.c,Nv.dv,Nv.nd,Nd.zero],by simp[cK,Nd.c,Nv.dv,Nv.nd,Nd.zero];omega,by simp[cK,Nd.c,Nv.dv,Nv.nd,Nd.zero],.inr (.inr (.inr (.inl ⟨.inr rfl,hk⟩)))⟩,hg,λ i hi=>by simp[cK,Nd.c,Nv.dv] at hi,fT,fT,fT⟩
theorem W1{gen p:Int}{n c:Nat}(hg:0<=gen)(h1:1<=p)(h2:p<=n):lO gen n (cK (oN p) c).dv :=
 ⟨⟨by simp[rQ,Nd.own,Nd.jV,Nd.iV,Nd.zero,cK,Nd.c,Nv.dv,Nv.nd,oN],by simp[cK,Nd.c,Nv.dv,Nv.nd,Nd.zero,oN],by simp[cK,Nd.c,Nv.dv,Nv.nd,Nd.zero,oN],by simp[cK,Nd.c,Nv.dv,Nv.nd,Nd.zero,oN],.inr (.inr (.inr (.inr (.inr (.inr ⟨rfl,h1⟩)))))⟩,hg,λ i hi=>by simp[cK,Nd.c,Nv.dv,oN] at hi,⟨by show 0<=p;omega,h2⟩,fT,fT⟩
theorem sf{gen a b d:Int}{n c:Nat}(hg:0<=gen)(a1:1<=a)(a2:a<=n)(b1:1<=b)(b2:b<=n)(d1:1<=d)(d2:d<=n):lO gen n (cK (Dt a b d) c).dv :=
 ⟨⟨by simp[rQ,Nd.own,Nd.jV,Nd.iV,Nd.zero,cK,Nd.c,Nv.dv,Nv.nd,Dt],by simp[cK,Nd.c,Nv.dv,Nv.nd,Nd.zero,Dt],by simp[cK,Nd.c,Nv.dv,Nv.nd,Nd.zero,Dt],by simp[cK,Nd.c,Nv.dv,Nv.nd,Nd.zero,Dt];omega,.inr (.inr (.inr (.inr (.inr (.inl ⟨rfl,b1,d1,a1⟩)))))⟩,hg,λ i hi=>by simp[cK,Nd.c,Nv.dv,Dt] at hi,⟨by show 0<=a;omega,a2⟩,⟨by show 0<=b;omega,b2⟩,⟨by show 0<=d;omega,d2⟩⟩
theorem zD{n:Nv}{N c:Nat}(h1:n.bJ<=N)(h2:n.exp<=N)(h3:n.new<=N)(h4:∀r∈n.xs,r<=N)(hb:∃b:Nat,n.bm=(b:Int)/\b<18446744073709551616)(hh:∃b:Nat,n.hash=(b:Int)/\b<18446744073709551616):lX N (c+1) (cK n c) :=
 ⟨h1,h2,h3,h4,by show(if n.kind=2 then((c+1:Nat):Int) else 0)<=((c+1:Nat):Int);split<;>omega,by show(if n.kind=3∨n.kind=5∨n.kind=6 then((c+1:Nat):Int) else 0)<=((c+1:Nat):Int);split<;>omega,by show(if n.kind=8 then((c+1:Nat):Int) else 0)<=((c+1:Nat):Int);split<;>omega,hb,hh⟩
theorem jL:∃b:Nat,(0:Int)=(b:Int)/\b<18446744073709551616:=⟨0,rfl,by decide⟩
section
variable{H:ByteArray->Nat}{σ τ υ:Kw}{r:Int}{w:List Nat}
theorem Z5{p g:Int}(h:Inv H σ)(hp:bQ (σ.nd p)):kR H σ (oN p) w g:=by
 have hr:1<=p/\p<=σ.len:=gP hp
 exact⟨.inr (.inr (.inr (.inr (.inr (.inl rfl))))),W1 h.gen hr.1 (by have:=hr.2;omega),zD (by show p<=_;have:=hr.2;omega) (bK _) (bK _) (λ r hr=>nomatch hr) jL jL,
  λ k=>dG (a:=7) (b:=2) k,λ k=>dG (a:=7) (b:=3) k,λ k=>dG (a:=7) (b:=4) k,λ k=>dG (a:=7) (b:=5) k,λ k=>dG (a:=7) (b:=6) k,λ _=>hp,λ k=>dG (a:=7) (b:=8) k⟩
theorem Bg{g g':Int}(hw:w.length<=11)(h1:1<=g')(h2:g'<=σ.mm.gen):kR H σ (nJ g') w g :=
 ⟨.inl rfl,il h2 h1,zD (bK _) (bK _) (bK _) (λ r hr=>nomatch hr) jL jL,
  λ _=>hw,λ k=>dG (a:=2) (b:=3) k,λ k=>dG (a:=2) (b:=4) k,λ k=>dG (a:=2) (b:=5) k,λ k=>dG (a:=2) (b:=6) k,λ k=>dG (a:=2) (b:=7) k,λ k=>dG (a:=2) (b:=8) k⟩
theorem Z6{a b d g:Int}(h:Inv H σ)(ha:uF σ a [])(hb1:1<=b)(hb2:b<=σ.len)(hd:uF σ d []):kR H σ (Dt a b d) w g:=by
 have h1:=ha.in
 have h2:=hd.in
 exact⟨.inr (.inr (.inr (.inr (.inr (.inr rfl))))),sf h.gen h1.1 (by omega) hb1 (by omega) h2.1 (by omega),zD (by show a<=_;omega) (by show b<=_;omega) (by show d<=_;omega) (λ r hr=>nomatch hr) jL jL,
  λ k=>dG (a:=8) (b:=2) k,λ k=>dG (a:=8) (b:=3) k,λ k=>dG (a:=8) (b:=4) k,λ k=>dG (a:=8) (b:=5) k,λ k=>dG (a:=8) (b:=6) k,λ k=>dG (a:=8) (b:=7) k,λ _=>⟨ha,hd⟩⟩
theorem A7{h:Nat}{k:ByteArray}{u g:Int}(i:Inv H σ)(hk:k.size<=64)(hh:H k=h)(hl:h<18446744073709551616):kR H σ (Ga h k u) w g :=
 ⟨.inr (.inr (.inl rfl)),Yn i.gen hk,zD (bK _) (bK _) (bK _) (λ r hr=>nomatch hr) jL ⟨h,rfl,hl⟩,
  λ k=>dG (a:=4) (b:=2) k,λ k=>dG (a:=4) (b:=3) k,λ _=>hh,λ k=>dG (a:=4) (b:=5) k,λ k=>dG (a:=4) (b:=6) k,λ k=>dG (a:=4) (b:=7) k,λ k=>dG (a:=4) (b:=8) k⟩
def ig(h:Int)(k:ByteArray)(u:Int):Nv:=({Nd.zero with kind:=5,hash:=h,key:=k,val:=u}:Nd).c [] []
theorem Fv{h:Nat}{k:ByteArray}{u g:Int}(i:Inv H σ)(hk:k.size<=64)(hh:H k=h)(hl:h<18446744073709551616)(w0:0<w.length)(w1:w.length<=11)(hu:iO h w):kR H σ (ig h k u) w g :=
 ⟨.inr (.inr (.inr (.inl rfl))),o9 i.gen hk,zD (bK _) (bK _) (bK _) (λ r hr=>nomatch hr) jL ⟨h,rfl,hl⟩,
  λ k=>dG (a:=5) (b:=2) k,λ k=>dG (a:=5) (b:=3) k,λ k=>dG (a:=5) (b:=4) k,λ _=>⟨w0,w1,hh,hu⟩,λ k=>dG (a:=5) (b:=6) k,λ k=>dG (a:=5) (b:=7) k,λ k=>dG (a:=5) (b:=8) k⟩
def Wx(h:Int)(ys:List Pr):Nv:=({Nd.zero with kind:=6,hash:=h}:Nd).c [] ys
theorem G8{h:Nat}{ys:List Pr}{g:Int}(i:Inv H σ)(h2:2<=ys.length)(ha:wx ys)(hs:E3 ys)(hh:∀p∈ys,H p.1=h)(hl:h<18446744073709551616)(w1:w.length=11)(hu:iO h w):kR H σ (Wx h ys) w g :=
 ⟨.inr (.inr (.inr (.inr (.inl rfl)))),uf i.gen h2 ha hs,zD (bK _) (bK _) (bK _) (λ r hr=>nomatch hr) jL ⟨h,rfl,hl⟩,
  λ k=>dG (a:=6) (b:=2) k,λ k=>dG (a:=6) (b:=3) k,λ k=>dG (a:=6) (b:=4) k,λ k=>dG (a:=6) (b:=5) k,λ _=>⟨w1,hu,hh⟩,λ k=>dG (a:=6) (b:=7) k,λ k=>dG (a:=6) (b:=8) k⟩
theorem U1{m:Nat->Option Int}{x:Int}:∀{k:Nat},x∈qF m k->∃j,j<k/\m j=some x
 | 0,h=>nomatch h
 | k+1,h=>by
  simp only[qF,List.mem_append,Option.mem_toList] at h
  rcases h with h|h
  ·obtain⟨j,h1,h2⟩:=U1 h
   exact⟨j,by omega,h2⟩
  ·exact⟨k,Nat.lt_succ_self k,h⟩
theorem Mr{b:Nat}{xs:List Int}(h:BV b xs){x:Int}(hx:x∈xs):∃j,j<64/\qS b xs j=some x:=by
 rw[<- (S7 h).2] at hx
 exact U1 hx
theorem Vt{b:Nat}{xs:List Int}(h:BV b xs){k:Nat}(hk:k<64){x:Int}(hx:qS b xs k=some x):x∈xs:=by
 unfold qS at hx
 split at hx
 ·rename_i hb
  cases hx
  exact Bp (by rw[h.len];exact oW hk hb)
 ·cases hx
theorem z9{v:Nv}{k:Nat}(hk:64<=k):lA v (k:Int)=none:=by
 unfold lA L5
 rw[W9 _ (by omega)]
 simp
theorem Nm{v:Nv}(hcv:CV v.nd v.xs v.ys){k:Nat}(hk:k<64):lA v (k:Int)=qS v.bm.toNat v.xs k:=V9 hcv hk
theorem Ni.le{g g' b:Int}(h:Ni σ w g b)(hg:g<=g'):Ni σ w g' b:=by
 rcases h with h|h
 ·exact .inl h
 ·exact .inr ⟨h.1,h.2.1,Int.le_trans h.2.2 hg⟩
theorem Ni.in{g b:Int}(h:Ni σ w g b):1<=b/\b<=σ.len:=by
 rcases h with h|h<;>exact dJ (N:=σ.mm.nodes) (i:=b) (by rw[h.1];decide)
theorem nV{b:Nat}{xs:List Int}{g:Int}(i:Inv H σ)(hb:BV b xs)(hx:∀k:Nat,k<64->∀r,qS b xs k=some r->Ni σ (w++[k]) g r)(hw:w.length<=10)(h0:0<w.length->xs≠[]/\∀b,xs=[b]->(σ.nd b).kind=2):kR H σ (Dr b xs) w g:=by
 have hr:∀r∈xs,1<=r/\r<=σ.len:=λ r hr=>by
  obtain⟨j,h1,h2⟩:=Mr hb hr
  exact(hx j h1 r h2).in
 have hok:lO σ.mm.gen (σ.len+1) (cK (Dr b xs) σ.cl).dv:=Zz i.gen hb (λ r h=>by have:=(hr r h).2;omega)
 refine⟨.inr (.inl rfl),hok,zD (bK _) (bK _) (bK _) (λ r h=>by have:=(hr r h).2;omega) ⟨b,rfl,hb.lt⟩ jL,
  λ k=>dG (a:=3) (b:=2) k,λ _=>⟨hw,λ k r hk=>?_,h0⟩,λ k=>dG (a:=3) (b:=4) k,λ k=>dG (a:=3) (b:=5) k,λ k=>dG (a:=3) (b:=6) k,λ k=>dG (a:=3) (b:=7) k,λ k=>dG (a:=3) (b:=8) k⟩
 by_cases h64:k<64
 ·rw[Nm (v:=cK (Dr b xs) σ.cl) ⟨rfl,hok.1⟩ h64] at hk
  exact hx k h64 r hk
 ·rw[z9 (by omega)] at hk
  cases hk
structure nB(σ:Kw)(m:Int)(w:List Nat)(g:Int)(b:Nat)(xs:List Int):Prop where
 kd:(σ.nd m).kind=3
 bm:(σ.nd m).bm.toNat=b
 el:(σ.nd m).xs=xs
 cv:CV (σ.nd m).nd (σ.nd m).xs (σ.nd m).ys
 bv:BV b xs
 wl:w.length<=10
 br:∀k:Nat,k<64->∀r,qS b xs k=some r->Ni σ (w++[k]) g r
 ne:0<w.length->xs≠[]/\∀b,xs=[b]->(σ.nd b).kind=2
theorem oS.sH{m g:Int}(i:Inv H σ)(h:oS σ m w g)(k:(σ.nd m).kind=3):nB σ m w g (σ.nd m).bm.toNat (σ.nd m).xs:=by
 have hr:=h.in
 have hn:=i.nd m hr.1 hr.2
 obtain⟨h1,h2,h3,_⟩:=hn.k3 k
 have hcv:CV (σ.nd m).nd (σ.nd m).xs (σ.nd m).ys:=⟨k,hn.valid⟩
 obtain⟨b,hb1,hb2⟩:=hn.bd.bm
 have hb:(σ.nd m).bm.toNat=b:=by omega
 rw[h.2.1] at h1 h2 h3
 refine⟨k,rfl,rfl,hcv,by rw[hb];exact hcv.bv hb1 hb2,h1,λ k' hk r hr=>?_,h3⟩
 exact(h2 k' r (by rw[Nm hcv hk];exact hr)).le h.2.2
theorem nB.lk{m g:Int}{b:Nat}{xs:List Int}(h:nB σ m w g b xs){k:Nat}(hk:k<64):lA (σ.nd m) (k:Int)=qS b xs k:=by rw[Nm h.cv hk,h.bm,h.el]
theorem nB.up{m g r:Int}{b:Nat}{xs:List Int}(h:nB σ m w g b xs){k:Nat}(hk:k<64){o:Int}(ho:lA (σ.nd m) (k:Int)=some o)(hr:1<=r):Tn (σ.nd m) (k:Int) r=Dr b (qT xs (gA b k) r)/\BV b (qT xs (gA b k) r)/\(∀j,j<64->qS b (qT xs (gA b k) r) j=Jg (qS b xs) k (some r) j)/\gA b k<xs.length:=by
 rw[h.lk hk] at ho
 have hb:b.testBit k=true:=by unfold qS at ho;split at ho;assumption;cases ho
 have hu:=S4 h.bv hk hb hr
 refine⟨?_,hu.1,hu.2,by rw[h.bv.len];exact oW hk hb⟩
 unfold Tn oa
 rw[if_pos ⟨h.cv,hr,by rw[h.bm,qP b hk];exact hb⟩,h.bm,h.el,oF b hk]
 rfl
theorem nB.ins{m g r:Int}{b:Nat}{xs:List Int}(h:nB σ m w g b xs){k:Nat}(hk:k<64)(ho:lA (σ.nd m) (k:Int)=none)(hr:1<=r):xn (σ.nd m) (k:Int) r=Dr (b ||| 2^k) (wI xs (gA b k) r)/\BV (b ||| 2^k) (wI xs (gA b k) r)/\(∀j,j<64->qS (b ||| 2^k) (wI xs (gA b k) r) j=Jg (qS b xs) k (some r) j)/\(wI xs (gA b k) r).length=xs.length+1:=by
 rw[h.lk hk] at ho
 have hb:b.testBit k=false:=by
  unfold qS at ho
  cases hb:b.testBit k with
  | false=>rfl
  | true=>rw[hb] at ho;simp at ho
 have hu:=Ge h.bv hk hb hr
 refine⟨?_,hu.1,hu.2,Hk (by rw[h.bv.len];have:=wR b k (64-k);rwa [show k+(64-k)=64 by omega] at this) r⟩
 unfold xn n6
 rw[if_pos ⟨h.cv,⟨by omega,by omega⟩,hr,by rw[h.bm,qP b hk];exact hb⟩,h.bm,h.el,oF b hk,pM b hk]
 rfl
theorem nB.re{m g:Int}{b:Nat}{xs:List Int}(h:nB σ m w g b xs){k:Nat}(hk:k<64){o:Int}(ho:lA (σ.nd m) (k:Int)=some o):Ny (σ.nd m) (k:Int)=Dr (b ^^^ (b &&& 2^k)) (sG xs (gA b k))/\BV (b ^^^ (b &&& 2^k)) (sG xs (gA b k))/\(∀j,j<64->qS (b ^^^ (b &&& 2^k)) (sG xs (gA b k)) j=Jg (qS b xs) k none j)/\(sG xs (gA b k)).length+1=xs.length:=by
 rw[h.lk hk] at ho
 have hb:b.testBit k=true:=by unfold qS at ho;split at ho;assumption;cases ho
 have hu:=R4 h.bv hk hb
 refine⟨?_,hu.1,hu.2,Hf (by rw[h.bv.len];exact oW hk hb)⟩
 unfold Ny ob
 rw[if_pos ⟨h.cv,by rw[h.bm,qP b hk];exact hb⟩,h.bm,h.el,oF b hk,tG b hk]
 rfl
end
end
end Go.Proofs.YtbajmaoegmbfgaaGreat
