/- Merged. -/
import Derived.Test.YtdnklbipddigbaaGreatGVw1
import Derived.Test.YtdnklbipddigbaaGreatGNode4
import Derived.Test.YtdnklbipddigbaaGreatGKw1
import Derived.Test.YtdnklbipddigbaaGreatGRn1
set_option linter.unusedSimpArgs false
set_option linter.unusedVariables false
namespace Go.Ct
section
section
variable{gen:Int}{n c:Nat}
theorem ok_mark(h:0<=gen):NdOk gen n markV.c.dv:=⟨⟨by simp[NdEq,Nd.own,Nd.xsOwn,Nd.ysOwn,markV,Nd.zero,NdV.c,Nd.c,Nv.dv,Nv.nd],by decide,by decide,by decide,.inl rfl⟩,h,λ i hi=>by simp[markV,NdV.c,Nd.c,Nv.dv] at hi,⟨by decide,nn0 n⟩,⟨by decide,nn0 n⟩,⟨by decide,nn0 n⟩⟩
theorem ins_zero:Ins 0 n:=⟨Int.le_refl _,nn0 n⟩
theorem ok_single{h u:Int}{k:ByteArray}(hg:0<=gen)(hk:k.size<=64):NdOk gen n (alNv (({Nd.zero with kind:=4,hash:=h,key:=k,val:=u}:Nd).c [] []) c).dv :=⟨⟨by simp[NdEq,Nd.own,Nd.xsOwn,Nd.ysOwn,Nd.zero,alNv,Nd.c,Nv.dv,Nv.nd],by simp[alNv,Nd.c,Nv.dv,Nv.nd,Nd.zero],by simp[alNv,Nd.c,Nv.dv,Nv.nd,Nd.zero],by simp[alNv,Nd.c,Nv.dv,Nv.nd,Nd.zero],.inr (.inr (.inr (.inl ⟨.inl rfl,hk⟩)))⟩,hg,λ i hi=>by simp[alNv,Nd.c,Nv.dv] at hi,ins_zero,ins_zero,ins_zero⟩
theorem ok_inner{g:Int}(hg:g<=gen)(h1:1<=g):NdOk gen n (alNv (({Nd.zero with kind:=2,gen:=g}:Nd).c [] []) c).dv :=⟨⟨by simp[NdEq,Nd.own,Nd.xsOwn,Nd.ysOwn,Nd.zero,alNv,Nd.c,Nv.dv,Nv.nd],by simp[alNv,Nd.c,Nv.dv,Nv.nd,Nd.zero];omega,by simp[alNv,Nd.c,Nv.dv,Nv.nd,Nd.zero],by simp[alNv,Nd.c,Nv.dv,Nv.nd,Nd.zero],.inr (.inl ⟨rfl,h1⟩)⟩,hg,λ i hi=>by simp[alNv,Nd.c,Nv.dv] at hi,ins_zero,ins_zero,ins_zero⟩
theorem ok_cnode{b:Nat}{xs:List Int}(hg:0<=gen)(hb:BV b xs)(hx:∀r∈xs,r<=n):NdOk gen n (alNv (({Nd.zero with kind:=3,bm:=(b:Int)}:Nd).c xs []) c).dv :=
 ⟨⟨by simp[NdEq,Nd.own,Nd.xsOwn,Nd.ysOwn,Nd.zero,alNv,Nd.c,Nv.dv,Nv.nd],by simp[alNv,Nd.c,Nv.dv,Nv.nd,Nd.zero],by simp[alNv,Nd.c,Nv.dv,Nv.nd,Nd.zero];omega,by simp[alNv,Nd.c,Nv.dv,Nv.nd,Nd.zero],.inr (.inr (.inl ⟨rfl,by show(xs.length:Int)=rOnes (b:Int);rw[rOnes_cnt hb.lt,hb.len],hb.pos⟩))⟩,hg,λ i hi=>by have h1:=hb.pos i hi;have hi':i<xs.length:=hi;refine⟨by show 0<=xs.getD i 0;omega,hx _ ?_⟩;show xs.getD i 0∈xs;rw[gdg,List.getElem?_eq_getElem hi'];exact List.getElem_mem hi',ins_zero,ins_zero,ins_zero⟩
theorem ok_list{h:Int}{ys:List Pr}(hg:0<=gen)(h2:2<=ys.length)(ha:Asc ys)(hs:Short ys):NdOk gen n (alNv (({Nd.zero with kind:=6,hash:=h}:Nd).c [] ys) c).dv :=⟨⟨by simp[NdEq,Nd.own,Nd.xsOwn,Nd.ysOwn,Nd.zero,alNv,Nd.c,Nv.dv,Nv.nd],by simp[alNv,Nd.c,Nv.dv,Nv.nd,Nd.zero],by simp[alNv,Nd.c,Nv.dv,Nv.nd,Nd.zero];omega,by simp[alNv,Nd.c,Nv.dv,Nv.nd,Nd.zero],.inr (.inr (.inr (.inr (.inl ⟨rfl,h2,ha,hs⟩))))⟩,hg,λ i hi=>by simp[alNv,Nd.c,Nv.dv] at hi,ins_zero,ins_zero,ins_zero⟩
theorem properN_new(h:0<=gen):ProperN [markV.c,markV.c] [] gen:=by
 refine⟨by simp,h,rfl,rfl,λ i hi=>by simp at hi,λ i hi=>?_,by simp[marks,markS,cellK,markV,Nd.zero,NdV.c,Nd.c,Nv.dv,Nv.nd]⟩;simp only[List.map_cons,List.map_nil,List.length_cons,List.length_nil] at hi;have:i=0∨i=1:=by omega
 rcases this with rfl|rfl;·exact ok_mark h
 ·exact ok_mark h
end
end
end Go.Ct
namespace Go.Proofs.YtdnklbipddigbaaGreat
open Go.Ct
section
def ctK(k:Int)(r:Int):CT:=if k=2 then .main r else if k=8 then .stat r else .prev r
structure NewOk(H:ByteArray->Nat)(σ:Kw)(n:Nv)(w:List Nat)(g:Int):Prop where
 kd:n.kind=2∨n.kind=3∨n.kind=4∨n.kind=5∨n.kind=6∨n.kind=7∨n.kind=8
 ok:NdOk σ.mm.gen (σ.len+1) (alNv n σ.cl).dv
 bd:NvB (σ.len+1) (σ.cl+1) (alNv n σ.cl)
 k2:n.kind=2->w.length<=11
 k3:n.kind=3->w.length<=10/\(∀k:Nat,∀b,lkV (alNv n σ.cl) k=some b->BrI σ (w++[k]) g b)/\(0<w.length->n.xs≠[]/\∀b,n.xs=[b]->(σ.nd b).kind=2)
 k4:n.kind=4->H n.key=n.hash.toNat
 k5:n.kind=5->0<w.length/\w.length<=11/\H n.key=n.hash.toNat/\Under n.hash.toNat w
 k6:n.kind=6->w.length=11/\Under n.hash.toNat w/\∀p∈n.ys,H p.1=n.hash.toNat
 k7:n.kind=7->MainK (σ.nd n.old)
 k8:n.kind=8->IsI σ n.old []/\IsI σ n.new []
structure InOk(σ:Kw)(n:Nv)(i:Int)(w:List Nat)(g:Int):Prop where
 ins:Ins i σ.len
 k2:n.kind=2->IsM σ i w n.gen
 kp:MainK n->i=0∨(IsM σ i w g/\Settled σ i)
 k8:n.kind=8->i=0
section
variable{H:ByteArray->Nat}{σ τ υ:Kw}{r:Int}{w:List Nat}
theorem alNv_kind(n:Nv)(c:Nat):(alNv n c).kind=n.kind:=rfl
theorem al_ok{n:Nv}{i g:Int}(h:Inv H σ)(hn:NewOk H σ n w g)(hi:InOk σ n i w g):∃υ,Le σ υ/\Inv H υ/\υ.mm=σ.mm.push n i/\υ.nd ((σ.len+1:Nat):Int)=alNv n σ.cl/\υ.way ((σ.len+1:Nat):Int)=w/\υ.gb ((σ.len+1:Nat):Int)=g:=by
 have e:=add_ext σ n i w g (ctK n.kind ((σ.len+1:Nat):Int));have l:=e.le;have hnd:=add_nd σ n i w g (ctK n.kind ((σ.len+1:Nat):Int));have hway:=add_way σ n i w g (ctK n.kind ((σ.len+1:Nat):Int));have hgb:=add_gb σ n i w g (ctK n.kind ((σ.len+1:Nat):Int));have hct:=add_ct σ n i w g (ctK n.kind ((σ.len+1:Nat):Int));have hlen:=add_len σ n i w g (ctK n.kind ((σ.len+1:Nat):Int));have hce:=λ h=>add_ce σ (n:=n) i w g (ctK n.kind ((σ.len+1:Nat):Int)) h
 have hc0:=λ h=>add_cl0 σ (n:=n) i w g (ctK n.kind ((σ.len+1:Nat):Int)) h
 have hpush:(σ.add n i w g (ctK n.kind ((σ.len+1:Nat):Int))).mm=σ.mm.push n i:=rfl;generalize hυ:σ.add n i w g (ctK n.kind ((σ.len+1:Nat):Int))=υ at *;have hgen:υ.mm.gen=σ.mm.gen:=by rw[hpush];rfl
 have hcl:υ.cl<=σ.cl+1:=by
  by_cases hk:n.kind=2∨n.kind=3∨n.kind=5∨n.kind=6∨n.kind=8;·rw[(hce hk).1];exact Nat.le_refl _
  ·rw[hc0 hk];omega
 have hcl2:(n.kind=2∨n.kind=3∨n.kind=5∨n.kind=6∨n.kind=8)->((σ.cl+1:Nat):Int)=((σ.mm.cs.length+1:Nat):Int):=λ _=>rfl
 have hnd':NdI H υ ((σ.len+1:Nat):Int):=by
  refine⟨by rw[hnd];exact hn.ok.1,by rw[hnd,hgen];exact hn.ok.2.1,?_,λ k=>?_,λ k=>?_,λ k=>?_,λ k=>?_,λ k=>?_,λ k=>?_,λ k=>?_⟩
  ·rw[hnd,hlen];have hb:=hn.bd;by_cases hk:n.kind=2∨n.kind=3∨n.kind=5∨n.kind=6∨n.kind=8;·rw[(hce hk).1];exact hb
   ·rw[hc0 hk];refine⟨hb.old,hb.exp,hb.new,hb.br,?_,?_,?_,hb.bm,hb.hash⟩;·show(if n.kind=2 then _ else(0:Int))<=_;rw[if_neg (by omega)];exact nn0 _
    ·show(if n.kind=3∨n.kind=5∨n.kind=6 then _ else(0:Int))<=_;rw[if_neg (by omega)];exact nn0 _
    ·show(if n.kind=8 then _ else(0:Int))<=_;rw[if_neg (by omega)];exact nn0 _
  all_goals rw[hnd] at k ⊢
  all_goals rw[alNv_kind] at k
  ·rw[hway];refine⟨hn.k2 k,?_⟩;rw[show(alNv n σ.cl).main=((σ.cl+1:Nat):Int) from if_pos k,hct];exact⟨by omega,if_pos k⟩
  ·rw[hway,hgb];obtain⟨h1,h2,h3⟩:=hn.k3 k;rw[show(alNv n σ.cl).prev=((σ.cl+1:Nat):Int) from if_pos (.inl k),hct];refine⟨h1,λ k' b hb=>(h2 k' b hb).up l,λ h0=>⟨(h3 h0).1,λ b hb=>?_⟩,by omega,?_⟩;·have:=(h3 h0).2 b hb;rw[l.nd (kind_in (N:=σ.mm.nodes) (i:=b) (by rw[this];decide)).2];exact this
   ·unfold ctK;rw[if_neg (by omega),if_neg (by omega)]
  ·exact hn.k4 k
  ·rw[hway];obtain⟨h1,h2,h3,h4⟩:=hn.k5 k;rw[show(alNv n σ.cl).prev=((σ.cl+1:Nat):Int) from if_pos (.inr (.inl k)),hct];refine⟨h1,h2,h3,h4,by omega,?_⟩;unfold ctK;rw[if_neg (by omega),if_neg (by omega)]
  ·rw[hway];obtain⟨h1,h2,h3⟩:=hn.k6 k;rw[show(alNv n σ.cl).prev=((σ.cl+1:Nat):Int) from if_pos (.inr (.inr k)),hct];refine⟨h1,h2,h3,by omega,?_⟩;unfold ctK;rw[if_neg (by omega),if_neg (by omega)]
  ·have:=hn.k7 k;show MainK (υ.nd n.old);rw[l.nd (mainK_in this).2];exact this
  ·obtain⟨h1,h2⟩:=hn.k8 k;rw[show(alNv n σ.cl).status=((σ.cl+1:Nat):Int) from if_pos k,hct];refine⟨h1.up l,h2.up l,by omega,?_⟩;unfold ctK;rw[if_neg (by omega),if_pos k]
 refine⟨υ,l,?_,hpush,hnd,hway,hgb⟩;rw[<- hυ];refine add_inv h hn.ok hi.ins (by rw[hυ];exact hnd') (λ hc=>?_) (by rw[hυ];exact hcl);rw[hυ] at hc ⊢;have hk:n.kind=2∨n.kind=3∨n.kind=5∨n.kind=6∨n.kind=8:=Classical.byContradiction λ hk=>by have:=hc0 hk;omega
 have hv:=(hce hk).2;refine⟨by rw[hv];exact hi.ins.1,by rw[hv,hlen];have:=hi.ins.2;omega,λ i' k=>?_,λ m k=>?_,λ d k=>?_,λ k=>?_,λ k=>?_⟩<;>rw[hct] at k<;>rw[hv]
 ·unfold ctK at k;split at k;·rename_i h2;cases k;rw[hnd,hway];exact⟨h2,(hi.k2 h2).up l⟩
  ·split at k<;>cases k
 ·unfold ctK at k;split at k;·cases k
  ·split at k;·cases k
   ·cases k;have hm:MainK n:=by unfold MainK;omega
    rw[hnd];refine⟨hm,?_⟩;rcases hi.kp hm with h1|⟨h1,h2⟩;·exact .inl h1
    ·exact .inr (.inl ⟨by rw[hway,hgb];exact h1.up l,Settled.up h h1.1 h2 l⟩)
 ·unfold ctK at k;split at k;·cases k
  ·split at k;·rename_i h8;exact .inl (hi.k8 h8)
   ·cases k
 ·unfold ctK at k;split at k;·cases k
  ·split at k<;>cases k
 ·unfold ctK at k;split at k;·cases k
  ·split at k<;>cases k
end
end
section
theorem no_k{a b:Int}{p:Prop}(k:a=b)(h:a≠b:=by decide):p:=absurd k h
theorem ok_tomb{gen h u:Int}{k:ByteArray}{n c:Nat}(hg:0<=gen)(hk:k.size<=64):NdOk gen n (alNv (({Nd.zero with kind:=5,hash:=h,key:=k,val:=u}:Nd).c [] []) c).dv :=⟨⟨by simp[NdEq,Nd.own,Nd.xsOwn,Nd.ysOwn,Nd.zero,alNv,Nd.c,Nv.dv,Nv.nd],by simp[alNv,Nd.c,Nv.dv,Nv.nd,Nd.zero],by simp[alNv,Nd.c,Nv.dv,Nv.nd,Nd.zero];omega,by simp[alNv,Nd.c,Nv.dv,Nv.nd,Nd.zero],.inr (.inr (.inr (.inl ⟨.inr rfl,hk⟩)))⟩,hg,λ i hi=>by simp[alNv,Nd.c,Nv.dv] at hi,ins_zero,ins_zero,ins_zero⟩
theorem ok_fail{gen p:Int}{n c:Nat}(hg:0<=gen)(h1:1<=p)(h2:p<=n):NdOk gen n (alNv (failV p) c).dv :=⟨⟨by simp[NdEq,Nd.own,Nd.xsOwn,Nd.ysOwn,Nd.zero,alNv,Nd.c,Nv.dv,Nv.nd,failV],by simp[alNv,Nd.c,Nv.dv,Nv.nd,Nd.zero,failV],by simp[alNv,Nd.c,Nv.dv,Nv.nd,Nd.zero,failV],by simp[alNv,Nd.c,Nv.dv,Nv.nd,Nd.zero,failV],.inr (.inr (.inr (.inr (.inr (.inr ⟨rfl,h1⟩)))))⟩,hg,λ i hi=>by simp[alNv,Nd.c,Nv.dv,failV] at hi,⟨by show 0<=p;omega,h2⟩,ins_zero,ins_zero⟩
theorem ok_desc{gen a b d:Int}{n c:Nat}(hg:0<=gen)(a1:1<=a)(a2:a<=n)(b1:1<=b)(b2:b<=n)(d1:1<=d)(d2:d<=n):NdOk gen n (alNv (descV a b d) c).dv :=⟨⟨by simp[NdEq,Nd.own,Nd.xsOwn,Nd.ysOwn,Nd.zero,alNv,Nd.c,Nv.dv,Nv.nd,descV],by simp[alNv,Nd.c,Nv.dv,Nv.nd,Nd.zero,descV],by simp[alNv,Nd.c,Nv.dv,Nv.nd,Nd.zero,descV],by simp[alNv,Nd.c,Nv.dv,Nv.nd,Nd.zero,descV];omega,.inr (.inr (.inr (.inr (.inr (.inl ⟨rfl,b1,d1,a1⟩)))))⟩,hg,λ i hi=>by simp[alNv,Nd.c,Nv.dv,descV] at hi,⟨by show 0<=a;omega,a2⟩,⟨by show 0<=b;omega,b2⟩,⟨by show 0<=d;omega,d2⟩⟩
theorem nvB_al{n:Nv}{N c:Nat}(h1:n.old<=N)(h2:n.exp<=N)(h3:n.new<=N)(h4:∀r∈n.xs,r<=N)(hb:∃b:Nat,n.bm=(b:Int)/\b<18446744073709551616)(hh:∃b:Nat,n.hash=(b:Int)/\b<18446744073709551616):NvB N (c+1) (alNv n c) :=⟨h1,h2,h3,h4,by show(if n.kind=2 then((c+1:Nat):Int) else 0)<=((c+1:Nat):Int);split<;>omega,by show(if n.kind=3∨n.kind=5∨n.kind=6 then((c+1:Nat):Int) else 0)<=((c+1:Nat):Int);split<;>omega,by show(if n.kind=8 then((c+1:Nat):Int) else 0)<=((c+1:Nat):Int);split<;>omega,hb,hh⟩
theorem zero_b:∃b:Nat,(0:Int)=(b:Int)/\b<18446744073709551616:=⟨0,rfl,by decide⟩
section
variable{H:ByteArray->Nat}{σ τ υ:Kw}{r:Int}{w:List Nat}
theorem new_fail{p g:Int}(h:Inv H σ)(hp:MainK (σ.nd p)):NewOk H σ (failV p) w g:=by
 have hr:1<=p/\p<=σ.len:=mainK_in hp
 exact⟨.inr (.inr (.inr (.inr (.inr (.inl rfl))))),ok_fail h.gen hr.1 (by have:=hr.2;omega),nvB_al (by show p<=_;have:=hr.2;omega) (nn0 _) (nn0 _) (λ r hr=>nomatch hr) zero_b zero_b,
  λ k=>no_k (a:=7) (b:=2) k,λ k=>no_k (a:=7) (b:=3) k,λ k=>no_k (a:=7) (b:=4) k,λ k=>no_k (a:=7) (b:=5) k,λ k=>no_k (a:=7) (b:=6) k,λ _=>hp,λ k=>no_k (a:=7) (b:=8) k⟩
theorem new_inode{g g':Int}(hw:w.length<=11)(h1:1<=g')(h2:g'<=σ.mm.gen):NewOk H σ (inodeV g') w g :=
 ⟨.inl rfl,ok_inner h2 h1,nvB_al (nn0 _) (nn0 _) (nn0 _) (λ r hr=>nomatch hr) zero_b zero_b,
  λ _=>hw,λ k=>no_k (a:=2) (b:=3) k,λ k=>no_k (a:=2) (b:=4) k,λ k=>no_k (a:=2) (b:=5) k,λ k=>no_k (a:=2) (b:=6) k,λ k=>no_k (a:=2) (b:=7) k,λ k=>no_k (a:=2) (b:=8) k⟩
theorem new_desc{a b d g:Int}(h:Inv H σ)(ha:IsI σ a [])(hb1:1<=b)(hb2:b<=σ.len)(hd:IsI σ d []):NewOk H σ (descV a b d) w g:=by
 have h1:=ha.in;have h2:=hd.in
 exact⟨.inr (.inr (.inr (.inr (.inr (.inr rfl))))),ok_desc h.gen h1.1 (by omega) hb1 (by omega) h2.1 (by omega),nvB_al (by show a<=_;omega) (by show b<=_;omega) (by show d<=_;omega) (λ r hr=>nomatch hr) zero_b zero_b,
  λ k=>no_k (a:=8) (b:=2) k,λ k=>no_k (a:=8) (b:=3) k,λ k=>no_k (a:=8) (b:=4) k,λ k=>no_k (a:=8) (b:=5) k,λ k=>no_k (a:=8) (b:=6) k,λ k=>no_k (a:=8) (b:=7) k,λ _=>⟨ha,hd⟩⟩
theorem new_sing{h:Nat}{k:ByteArray}{u g:Int}(i:Inv H σ)(hk:k.size<=64)(hh:H k=h)(hl:h<18446744073709551616):NewOk H σ (singV h k u) w g :=
 ⟨.inr (.inr (.inl rfl)),ok_single i.gen hk,nvB_al (nn0 _) (nn0 _) (nn0 _) (λ r hr=>nomatch hr) zero_b ⟨h,rfl,hl⟩,
  λ k=>no_k (a:=4) (b:=2) k,λ k=>no_k (a:=4) (b:=3) k,λ _=>hh,λ k=>no_k (a:=4) (b:=5) k,λ k=>no_k (a:=4) (b:=6) k,λ k=>no_k (a:=4) (b:=7) k,λ k=>no_k (a:=4) (b:=8) k⟩
def tombV(h:Int)(k:ByteArray)(u:Int):Nv:=({Nd.zero with kind:=5,hash:=h,key:=k,val:=u}:Nd).c [] []
theorem new_tomb{h:Nat}{k:ByteArray}{u g:Int}(i:Inv H σ)(hk:k.size<=64)(hh:H k=h)(hl:h<18446744073709551616)(w0:0<w.length)(w1:w.length<=11)(hu:Under h w):NewOk H σ (tombV h k u) w g :=
 ⟨.inr (.inr (.inr (.inl rfl))),ok_tomb i.gen hk,nvB_al (nn0 _) (nn0 _) (nn0 _) (λ r hr=>nomatch hr) zero_b ⟨h,rfl,hl⟩,
  λ k=>no_k (a:=5) (b:=2) k,λ k=>no_k (a:=5) (b:=3) k,λ k=>no_k (a:=5) (b:=4) k,λ _=>⟨w0,w1,hh,hu⟩,λ k=>no_k (a:=5) (b:=6) k,λ k=>no_k (a:=5) (b:=7) k,λ k=>no_k (a:=5) (b:=8) k⟩
def listV(h:Int)(ys:List Pr):Nv:=({Nd.zero with kind:=6,hash:=h}:Nd).c [] ys
theorem new_list{h:Nat}{ys:List Pr}{g:Int}(i:Inv H σ)(h2:2<=ys.length)(ha:Asc ys)(hs:Short ys)(hh:∀p∈ys,H p.1=h)(hl:h<18446744073709551616)(w1:w.length=11)(hu:Under h w):NewOk H σ (listV h ys) w g :=
 ⟨.inr (.inr (.inr (.inr (.inl rfl)))),ok_list i.gen h2 ha hs,nvB_al (nn0 _) (nn0 _) (nn0 _) (λ r hr=>nomatch hr) zero_b ⟨h,rfl,hl⟩,
  λ k=>no_k (a:=6) (b:=2) k,λ k=>no_k (a:=6) (b:=3) k,λ k=>no_k (a:=6) (b:=4) k,λ k=>no_k (a:=6) (b:=5) k,λ _=>⟨w1,hu,hh⟩,λ k=>no_k (a:=6) (b:=7) k,λ k=>no_k (a:=6) (b:=8) k⟩
theorem mem_lOf{m:Nat->Option Int}{x:Int}:∀{k:Nat},x∈lOf m k->∃j,j<k/\m j=some x
 | 0,h=>nomatch h
 | k+1,h=>by
  simp only[lOf,List.mem_append,Option.mem_toList] at h;rcases h with h|h;·obtain⟨j,h1,h2⟩:=mem_lOf h;exact⟨j,by omega,h2⟩
  ·exact⟨k,Nat.lt_succ_self k,h⟩
theorem bv_mem{b:Nat}{xs:List Int}(h:BV b xs){x:Int}(hx:x∈xs):∃j,j<64/\mOf b xs j=some x:=by rw[<- (of_mOf h).2] at hx;exact mem_lOf hx
theorem mOf_mem{b:Nat}{xs:List Int}(h:BV b xs){k:Nat}(hk:k<64){x:Int}(hx:mOf b xs k=some x):x∈xs:=by
 unfold mOf at hx;split at hx;·rename_i hb;cases hx;exact getD_memI (by rw[h.len];exact cnt_lt hk hb)
 ·cases hx
theorem lkV_hi{v:Nv}{k:Nat}(hk:64<=k):lkV v (k:Int)=none:=by unfold lkV lkO;rw[hasI_hi _ (by omega)];simp
theorem lkV_mOf{v:Nv}(hcv:CV v.nd v.xs v.ys){k:Nat}(hk:k<64):lkV v (k:Int)=mOf v.bm.toNat v.xs k:=lkO_mOf hcv hk
theorem BrI.le{g g' b:Int}(h:BrI σ w g b)(hg:g<=g'):BrI σ w g' b:=by
 rcases h with h|h;·exact .inl h
 ·exact .inr ⟨h.1,h.2.1,Int.le_trans h.2.2 hg⟩
theorem BrI.in{g b:Int}(h:BrI σ w g b):1<=b/\b<=σ.len:=by rcases h with h|h<;>exact kind_in (N:=σ.mm.nodes) (i:=b) (by rw[h.1];decide)
theorem new_cnode{b:Nat}{xs:List Int}{g:Int}(i:Inv H σ)(hb:BV b xs)(hx:∀k:Nat,k<64->∀r,mOf b xs k=some r->BrI σ (w++[k]) g r)(hw:w.length<=10)(h0:0<w.length->xs≠[]/\∀b,xs=[b]->(σ.nd b).kind=2):NewOk H σ (cnV b xs) w g:=by
 have hr:∀r∈xs,1<=r/\r<=σ.len:=λ r hr=>by obtain⟨j,h1,h2⟩:=bv_mem hb hr;exact(hx j h1 r h2).in
 have hok:NdOk σ.mm.gen (σ.len+1) (alNv (cnV b xs) σ.cl).dv:=ok_cnode i.gen hb (λ r h=>by have:=(hr r h).2;omega)
 refine⟨.inr (.inl rfl),hok,nvB_al (nn0 _) (nn0 _) (nn0 _) (λ r h=>by have:=(hr r h).2;omega) ⟨b,rfl,hb.lt⟩ zero_b,
  λ k=>no_k (a:=3) (b:=2) k,λ _=>⟨hw,λ k r hk=>?_,h0⟩,λ k=>no_k (a:=3) (b:=4) k,λ k=>no_k (a:=3) (b:=5) k,λ k=>no_k (a:=3) (b:=6) k,λ k=>no_k (a:=3) (b:=7) k,λ k=>no_k (a:=3) (b:=8) k⟩
 by_cases h64:k<64;·rw[lkV_mOf (v:=alNv (cnV b xs) σ.cl) ⟨rfl,hok.1⟩ h64] at hk;exact hx k h64 r hk
 ·rw[lkV_hi (by omega)] at hk;cases hk
structure CNode(σ:Kw)(m:Int)(w:List Nat)(g:Int)(b:Nat)(xs:List Int):Prop where
 kd:(σ.nd m).kind=3
 bm:(σ.nd m).bm.toNat=b
 el:(σ.nd m).xs=xs
 cv:CV (σ.nd m).nd (σ.nd m).xs (σ.nd m).ys
 bv:BV b xs
 wl:w.length<=10
 br:∀k:Nat,k<64->∀r,mOf b xs k=some r->BrI σ (w++[k]) g r
 ne:0<w.length->xs≠[]/\∀b,xs=[b]->(σ.nd b).kind=2
theorem IsM.cnode{m g:Int}(i:Inv H σ)(h:IsM σ m w g)(k:(σ.nd m).kind=3):CNode σ m w g (σ.nd m).bm.toNat (σ.nd m).xs:=by
 have hr:=h.in;have hn:=i.nd m hr.1 hr.2;obtain⟨h1,h2,h3,_⟩:=hn.k3 k;have hcv:CV (σ.nd m).nd (σ.nd m).xs (σ.nd m).ys:=⟨k,hn.valid⟩;obtain⟨b,hb1,hb2⟩:=hn.bd.bm;have hb:(σ.nd m).bm.toNat=b:=by omega
 rw[h.2.1] at h1 h2 h3;refine⟨k,rfl,rfl,hcv,by rw[hb];exact hcv.bv hb1 hb2,h1,λ k' hk r hr=>?_,h3⟩;exact(h2 k' r (by rw[lkV_mOf hcv hk];exact hr)).le h.2.2
theorem CNode.lk{m g:Int}{b:Nat}{xs:List Int}(h:CNode σ m w g b xs){k:Nat}(hk:k<64):lkV (σ.nd m) (k:Int)=mOf b xs k:=by rw[lkV_mOf h.cv hk,h.bm,h.el]
theorem CNode.up{m g r:Int}{b:Nat}{xs:List Int}(h:CNode σ m w g b xs){k:Nat}(hk:k<64){o:Int}(ho:lkV (σ.nd m) (k:Int)=some o)(hr:1<=r):upV (σ.nd m) (k:Int) r=cnV b (updL xs (cnt b k) r)/\BV b (updL xs (cnt b k) r)/\(∀j,j<64->mOf b (updL xs (cnt b k) r) j=upd (mOf b xs) k (some r) j)/\cnt b k<xs.length:=by
 rw[h.lk hk] at ho;have hb:b.testBit k=true:=by unfold mOf at ho;split at ho;assumption;cases ho
 have hu:=upd_bv h.bv hk hb hr;refine⟨?_,hu.1,hu.2,by rw[h.bv.len];exact cnt_lt hk hb⟩;unfold upV upO;rw[if_pos ⟨h.cv,hr,by rw[h.bm,hasI_nat b hk];exact hb⟩,h.bm,h.el,posN_nat b hk];rfl
theorem CNode.ins{m g r:Int}{b:Nat}{xs:List Int}(h:CNode σ m w g b xs){k:Nat}(hk:k<64)(ho:lkV (σ.nd m) (k:Int)=none)(hr:1<=r):inV (σ.nd m) (k:Int) r=cnV (b ||| 2^k) (insL xs (cnt b k) r)/\BV (b ||| 2^k) (insL xs (cnt b k) r)/\(∀j,j<64->mOf (b ||| 2^k) (insL xs (cnt b k) r) j=upd (mOf b xs) k (some r) j)/\(insL xs (cnt b k) r).length=xs.length+1:=by
 rw[h.lk hk] at ho;have hb:b.testBit k=false:=by
  unfold mOf at ho;cases hb:b.testBit k with
  | false=>rfl
  | true=>rw[hb] at ho;simp at ho
 have hu:=ins_bv h.bv hk hb hr;refine⟨?_,hu.1,hu.2,insL_len (by rw[h.bv.len];have:=cnt_mono b k (64-k);rwa [show k+(64-k)=64 by omega] at this) r⟩;unfold inV inO;rw[if_pos ⟨h.cv,⟨by omega,by omega⟩,hr,by rw[h.bm,hasI_nat b hk];exact hb⟩,h.bm,h.el,posN_nat b hk,withI_nat b hk];rfl
theorem CNode.re{m g:Int}{b:Nat}{xs:List Int}(h:CNode σ m w g b xs){k:Nat}(hk:k<64){o:Int}(ho:lkV (σ.nd m) (k:Int)=some o):reV (σ.nd m) (k:Int)=cnV (b ^^^ (b &&& 2^k)) (remL xs (cnt b k))/\BV (b ^^^ (b &&& 2^k)) (remL xs (cnt b k))/\(∀j,j<64->mOf (b ^^^ (b &&& 2^k)) (remL xs (cnt b k)) j=upd (mOf b xs) k none j)/\(remL xs (cnt b k)).length+1=xs.length:=by
 rw[h.lk hk] at ho;have hb:b.testBit k=true:=by unfold mOf at ho;split at ho;assumption;cases ho
 have hu:=rem_bv h.bv hk hb;refine⟨?_,hu.1,hu.2,remL_len (by rw[h.bv.len];exact cnt_lt hk hb)⟩;unfold reV reO;rw[if_pos ⟨h.cv,by rw[h.bm,hasI_nat b hk];exact hb⟩,h.bm,h.el,posN_nat b hk,withoutI_nat b hk];rfl
end
end
end Go.Proofs.YtdnklbipddigbaaGreat
