/- Nodes of proper states. -/
import Derived.Test.YtbajmaoegmbfgaaGreatGVw1
import Derived.Test.YtbajmaoegmbfgaaGreatGBit2
import Derived.Test.YtbajmaoegmbfgaaGreatGRt1
import Derived.Test.YtbajmaoegmbfgaaGreatGTp2

set_option linter.unusedSimpArgs false
set_option linter.unusedVariables false
namespace Go.Ct
section
section
variable{gen:Int}{n c:Nat}
theorem M9(h:0<=gen):nT gen n fA.c.dv:=⟨⟨by simp[rS,Nd.own,Nd.kC,Nd.jD,fA,Nd.zero,aZ.c,Nd.c,Nv.dv,Nv.nd],by decide,by decide,by decide,.inl rfl⟩,h,λ i hi=>by simp[fA,aZ.c,Nd.c,Nv.dv] at hi,⟨by decide,bH n⟩,⟨by decide,bH n⟩,⟨by decide,bH n⟩⟩
theorem fO:Ip 0 n:=⟨Int.le_refl _,bH n⟩
theorem X0{h u:Int}{k:ByteArray}(hg:0<=gen)(hk:k.size<=64):nT gen n (dK (({Nd.zero with kind:=4,hash:=h,key:=k,val:=u}:Nd).c [] []) c).dv :=
 ⟨⟨by simp[rS,Nd.own,Nd.kC,Nd.jD,Nd.zero,dK,Nd.c,Nv.dv,Nv.nd],by simp[dK,Nd.c,Nv.dv,Nv.nd,Nd.zero],by simp[dK,Nd.c,Nv.dv,Nv.nd,Nd.zero],by simp[dK,Nd.c,Nv.dv,Nv.nd,Nd.zero],.inr (.inr (.inr (.inl ⟨.inl rfl,hk⟩)))⟩,hg,λ i hi=>by simp[dK,Nd.c,Nv.dv] at hi,fO,fO,fO⟩
theorem jl{g:Int}(hg:g<=gen)(h1:1<=g):nT gen n (dK (({Nd.zero with kind:=2,gen:=g}:Nd).c [] []) c).dv :=
 ⟨⟨by simp[rS,Nd.own,Nd.kC,Nd.jD,Nd.zero,dK,Nd.c,Nv.dv,Nv.nd],by simp[dK,Nd.c,Nv.dv,Nv.nd,Nd.zero];omega,by simp[dK,Nd.c,Nv.dv,Nv.nd,Nd.zero],by simp[dK,Nd.c,Nv.dv,Nv.nd,Nd.zero],.inr (.inl ⟨rfl,h1⟩)⟩,hg,λ i hi=>by simp[dK,Nd.c,Nv.dv] at hi,fO,fO,fO⟩
theorem j7{b:Nat}{xs:List Int}(hg:0<=gen)(hb:BV b xs)(hx:∀r∈xs,r<=n):nT gen n (dK (({Nd.zero with kind:=3,bm:=(b:Int)}:Nd).c xs []) c).dv :=
 ⟨⟨by simp[rS,Nd.own,Nd.kC,Nd.jD,Nd.zero,dK,Nd.c,Nv.dv,Nv.nd],by simp[dK,Nd.c,Nv.dv,Nv.nd,Nd.zero],by simp[dK,Nd.c,Nv.dv,Nv.nd,Nd.zero];omega,by simp[dK,Nd.c,Nv.dv,Nv.nd,Nd.zero],.inr (.inr (.inl ⟨rfl,by show(xs.length:Int)=uW (b:Int);rw[pG hb.lt,hb.len],hb.pos⟩))⟩,hg,λ i hi=>by
  have h1:=hb.pos i hi
  have hi':i<xs.length:=hi
  refine⟨by show 0<=xs.getD i 0;omega,hx _ ?_⟩
  show xs.getD i 0∈xs
  rw[kQ,List.getElem?_eq_getElem hi']
  exact List.getElem_mem hi',fO,fO,fO⟩
theorem q6{h:Int}{ys:List Pr}(hg:0<=gen)(h2:2<=ys.length)(ha:vh ys)(hs:Hq ys):nT gen n (dK (({Nd.zero with kind:=6,hash:=h}:Nd).c [] ys) c).dv :=
 ⟨⟨by simp[rS,Nd.own,Nd.kC,Nd.jD,Nd.zero,dK,Nd.c,Nv.dv,Nv.nd],by simp[dK,Nd.c,Nv.dv,Nv.nd,Nd.zero],by simp[dK,Nd.c,Nv.dv,Nv.nd,Nd.zero];omega,by simp[dK,Nd.c,Nv.dv,Nv.nd,Nd.zero],.inr (.inr (.inr (.inr (.inl ⟨rfl,h2,ha,hs⟩))))⟩,hg,λ i hi=>by simp[dK,Nd.c,Nv.dv] at hi,fO,fO,fO⟩
theorem Nn(h:0<=gen):gB [fA.c,fA.c] [] gen:=by
 refine⟨by simp,h,rfl,rfl,λ i hi=>by simp at hi,λ i hi=>?_,by simp[marks,fN,jO,fA,Nd.zero,aZ.c,Nd.c,Nv.dv,Nv.nd]⟩
 simp only[List.map_cons,List.map_nil,List.length_cons,List.length_nil] at hi
 have:i=0∨i=1:=by omega
 rcases this with rfl|rfl
 ·exact M9 h
 ·exact M9 h
end
end

/- Tries of worlds: new nodes of each kind, new cells, new generations. -/
end Go.Ct
namespace Go.Proofs.YtbajmaoegmbfgaaGreat
section
open Go.Ct
def Ma(k:Int)(r:Int):CT:=if k=2 then .main r else if k=8 then .stat r else .prev r
structure lI(H:ByteArray->Nat)(σ:Kw)(n:Nv)(w:List Nat)(g:Int):Prop where
 kd:n.kind=2∨n.kind=3∨n.kind=4∨n.kind=5∨n.kind=6∨n.kind=7∨n.kind=8
 ok:nT σ.mm.gen (σ.len+1) (dK n σ.cl).dv
 bd:mK (σ.len+1) (σ.cl+1) (dK n σ.cl)
 k2:n.kind=2->w.length<=11
 k3:n.kind=3->w.length<=10/\(∀k:Nat,∀b,iU (dK n σ.cl) k=some b->Mx σ (w++[k]) g b)/\(0<w.length->n.xs≠[]/\∀b,n.xs=[b]->(σ.nd b).kind=2)
 k4:n.kind=4->H n.key=n.hash.toNat
 k5:n.kind=5->0<w.length/\w.length<=11/\H n.key=n.hash.toNat/\iF n.hash.toNat w
 k6:n.kind=6->w.length=11/\iF n.hash.toNat w/\∀p∈n.ys,H p.1=n.hash.toNat
 k7:n.kind=7->dS (σ.nd n.bN)
 k8:n.kind=8->wF σ n.bN []/\wF σ n.new []
structure s5(σ:Kw)(n:Nv)(i:Int)(w:List Nat)(g:Int):Prop where
 ins:Ip i σ.len
 k2:n.kind=2->oS σ i w n.gen
 kp:dS n->i=0∨(oS σ i w g/\dV σ i)
 k8:n.kind=8->i=0
section
variable{H:ByteArray->Nat}{σ τ υ:Kw}{r:Int}{w:List Nat}
theorem Xe(n:Nv)(c:Nat):(dK n c).kind=n.kind:=rfl
theorem uq{n:Nv}{i g:Int}(h:Inv H σ)(hn:lI H σ n w g)(hi:s5 σ n i w g):∃υ,Le σ υ/\Inv H υ/\υ.mm=σ.mm.push n i/\υ.nd ((σ.len+1:Nat):Int)=dK n σ.cl/\υ.way ((σ.len+1:Nat):Int)=w/\υ.gb ((σ.len+1:Nat):Int)=g:=by
 have e:=Ue σ n i w g (Ma n.kind ((σ.len+1:Nat):Int))
 have l:=e.le
 have hnd:=aAn σ n i w g (Ma n.kind ((σ.len+1:Nat):Int))
 have hway:=qi σ n i w g (Ma n.kind ((σ.len+1:Nat):Int))
 have hgb:=ym σ n i w g (Ma n.kind ((σ.len+1:Nat):Int))
 have hct:=yb σ n i w g (Ma n.kind ((σ.len+1:Nat):Int))
 have hlen:=U3 σ n i w g (Ma n.kind ((σ.len+1:Nat):Int))
 have hce:=λ h=>z9 σ (n:=n) i w g (Ma n.kind ((σ.len+1:Nat):Int)) h
 have hc0:=λ h=>o7 σ (n:=n) i w g (Ma n.kind ((σ.len+1:Nat):Int)) h
 have hpush:(σ.add n i w g (Ma n.kind ((σ.len+1:Nat):Int))).mm=σ.mm.push n i:=rfl
 generalize hυ:σ.add n i w g (Ma n.kind ((σ.len+1:Nat):Int))=υ at *
 have hgen:υ.mm.gen=σ.mm.gen:=by rw[hpush];rfl
 have hcl:υ.cl<=σ.cl+1:=by
  by_cases hk:n.kind=2∨n.kind=3∨n.kind=5∨n.kind=6∨n.kind=8
  ·rw[(hce hk).1];exact Nat.le_refl _
  ·rw[hc0 hk];omega
 have hcl2:(n.kind=2∨n.kind=3∨n.kind=5∨n.kind=6∨n.kind=8)->((σ.cl+1:Nat):Int)=((σ.mm.cs.length+1:Nat):Int):=λ _=>rfl
 have hnd':yg H υ ((σ.len+1:Nat):Int):=by
  refine⟨by rw[hnd];exact hn.ok.1,by rw[hnd,hgen];exact hn.ok.2.1,?_,λ k=>?_,λ k=>?_,λ k=>?_,λ k=>?_,λ k=>?_,λ k=>?_,λ k=>?_⟩
  ·rw[hnd,hlen]
   have hb:=hn.bd
   by_cases hk:n.kind=2∨n.kind=3∨n.kind=5∨n.kind=6∨n.kind=8
   ·rw[(hce hk).1];exact hb
   ·rw[hc0 hk]
    refine⟨hb.bN,hb.exp,hb.new,hb.br,?_,?_,?_,hb.bm,hb.hash⟩
    ·show(if n.kind=2 then _ else(0:Int))<=_;rw[if_neg (by omega)];exact bH _
    ·show(if n.kind=3∨n.kind=5∨n.kind=6 then _ else(0:Int))<=_;rw[if_neg (by omega)];exact bH _
    ·show(if n.kind=8 then _ else(0:Int))<=_;rw[if_neg (by omega)];exact bH _
  all_goals rw[hnd] at k ⊢
  all_goals rw[Xe] at k
  ·rw[hway]
   refine⟨hn.k2 k,?_⟩
   rw[show(dK n σ.cl).main=((σ.cl+1:Nat):Int) from if_pos k,hct]
   exact⟨by omega,if_pos k⟩
  ·rw[hway,hgb]
   obtain⟨h1,h2,h3⟩:=hn.k3 k
   rw[show(dK n σ.cl).prev=((σ.cl+1:Nat):Int) from if_pos (.inl k),hct]
   refine⟨h1,λ k' b hb=>(h2 k' b hb).up l,λ h0=>⟨(h3 h0).1,λ b hb=>?_⟩,by omega,?_⟩
   ·have:=(h3 h0).2 b hb
    rw[l.nd (eR (N:=σ.mm.nodes) (i:=b) (by rw[this];decide)).2];exact this
   ·unfold Ma;rw[if_neg (by omega),if_neg (by omega)]
  ·exact hn.k4 k
  ·rw[hway]
   obtain⟨h1,h2,h3,h4⟩:=hn.k5 k
   rw[show(dK n σ.cl).prev=((σ.cl+1:Nat):Int) from if_pos (.inr (.inl k)),hct]
   refine⟨h1,h2,h3,h4,by omega,?_⟩
   unfold Ma;rw[if_neg (by omega),if_neg (by omega)]
  ·rw[hway]
   obtain⟨h1,h2,h3⟩:=hn.k6 k
   rw[show(dK n σ.cl).prev=((σ.cl+1:Nat):Int) from if_pos (.inr (.inr k)),hct]
   refine⟨h1,h2,h3,by omega,?_⟩
   unfold Ma;rw[if_neg (by omega),if_neg (by omega)]
  ·have:=hn.k7 k
   show dS (υ.nd n.bN)
   rw[l.nd (jF this).2];exact this
  ·obtain⟨h1,h2⟩:=hn.k8 k
   rw[show(dK n σ.cl).status=((σ.cl+1:Nat):Int) from if_pos k,hct]
   refine⟨h1.up l,h2.up l,by omega,?_⟩
   unfold Ma;rw[if_neg (by omega),if_pos k]
 refine⟨υ,l,?_,hpush,hnd,hway,hgb⟩
 rw[<- hυ]
 refine tu h hn.ok hi.ins (by rw[hυ];exact hnd') (λ hc=>?_) (by rw[hυ];exact hcl)
 rw[hυ] at hc ⊢
 have hk:n.kind=2∨n.kind=3∨n.kind=5∨n.kind=6∨n.kind=8:=Classical.byContradiction λ hk=>by have:=hc0 hk;omega
 have hv:=(hce hk).2
 refine⟨by rw[hv];exact hi.ins.1,by rw[hv,hlen];have:=hi.ins.2;omega,λ i' k=>?_,λ m k=>?_,λ d k=>?_,λ k=>?_,λ k=>?_⟩<;>rw[hct] at k<;>rw[hv]
 ·unfold Ma at k
  split at k
  ·rename_i h2
   cases k
   rw[hnd,hway]
   exact⟨h2,(hi.k2 h2).up l⟩
  ·split at k<;>cases k
 ·unfold Ma at k
  split at k
  ·cases k
  ·split at k
   ·cases k
   ·cases k
    have hm:dS n:=by unfold dS;omega
    rw[hnd]
    refine⟨hm,?_⟩
    rcases hi.kp hm with h1|⟨h1,h2⟩
    ·exact .inl h1
    ·exact .inr (.inl ⟨by rw[hway,hgb];exact h1.up l,dV.up h h1.1 h2 l⟩)
 ·unfold Ma at k
  split at k
  ·cases k
  ·split at k
   ·rename_i h8
    exact .inl (hi.k8 h8)
   ·cases k
 ·unfold Ma at k
  split at k
  ·cases k
  ·split at k<;>cases k
 ·unfold Ma at k
  split at k
  ·cases k
  ·split at k<;>cases k
end
end

/- Tries of worlds: the nodes that the procedures make. -/
section
open Go.Ct
theorem eF{a b:Int}{p:Prop}(k:a=b)(h:a≠b:=by decide):p:=absurd k h
theorem ow{gen h u:Int}{k:ByteArray}{n c:Nat}(hg:0<=gen)(hk:k.size<=64):nT gen n (dK (({Nd.zero with kind:=5,hash:=h,key:=k,val:=u}:Nd).c [] []) c).dv :=
 ⟨⟨by simp[rS,Nd.own,Nd.kC,Nd.jD,Nd.zero,dK,Nd.c,Nv.dv,Nv.nd],by simp[dK,Nd.c,Nv.dv,Nv.nd,Nd.zero],by simp[dK,Nd.c,Nv.dv,Nv.nd,Nd.zero];omega,by simp[dK,Nd.c,Nv.dv,Nv.nd,Nd.zero],.inr (.inr (.inr (.inl ⟨.inr rfl,hk⟩)))⟩,hg,λ i hi=>by simp[dK,Nd.c,Nv.dv] at hi,fO,fO,fO⟩
theorem tx{gen p:Int}{n c:Nat}(hg:0<=gen)(h1:1<=p)(h2:p<=n):nT gen n (dK (yK p) c).dv :=
 ⟨⟨by simp[rS,Nd.own,Nd.kC,Nd.jD,Nd.zero,dK,Nd.c,Nv.dv,Nv.nd,yK],by simp[dK,Nd.c,Nv.dv,Nv.nd,Nd.zero,yK],by simp[dK,Nd.c,Nv.dv,Nv.nd,Nd.zero,yK],by simp[dK,Nd.c,Nv.dv,Nv.nd,Nd.zero,yK],.inr (.inr (.inr (.inr (.inr (.inr ⟨rfl,h1⟩)))))⟩,hg,λ i hi=>by simp[dK,Nd.c,Nv.dv,yK] at hi,⟨by show 0<=p;omega,h2⟩,fO,fO⟩
theorem ov{gen a b d:Int}{n c:Nat}(hg:0<=gen)(a1:1<=a)(a2:a<=n)(b1:1<=b)(b2:b<=n)(d1:1<=d)(d2:d<=n):nT gen n (dK (Dx a b d) c).dv :=
 ⟨⟨by simp[rS,Nd.own,Nd.kC,Nd.jD,Nd.zero,dK,Nd.c,Nv.dv,Nv.nd,Dx],by simp[dK,Nd.c,Nv.dv,Nv.nd,Nd.zero,Dx],by simp[dK,Nd.c,Nv.dv,Nv.nd,Nd.zero,Dx],by simp[dK,Nd.c,Nv.dv,Nv.nd,Nd.zero,Dx];omega,.inr (.inr (.inr (.inr (.inr (.inl ⟨rfl,b1,d1,a1⟩)))))⟩,hg,λ i hi=>by simp[dK,Nd.c,Nv.dv,Dx] at hi,⟨by show 0<=a;omega,a2⟩,⟨by show 0<=b;omega,b2⟩,⟨by show 0<=d;omega,d2⟩⟩
theorem zL{n:Nv}{N c:Nat}(h1:n.bN<=N)(h2:n.exp<=N)(h3:n.new<=N)(h4:∀r∈n.xs,r<=N)(hb:∃b:Nat,n.bm=(b:Int)/\b<18446744073709551616)(hh:∃b:Nat,n.hash=(b:Int)/\b<18446744073709551616):mK N (c+1) (dK n c) :=
 ⟨h1,h2,h3,h4,by show(if n.kind=2 then((c+1:Nat):Int) else 0)<=((c+1:Nat):Int);split<;>omega,by show(if n.kind=3∨n.kind=5∨n.kind=6 then((c+1:Nat):Int) else 0)<=((c+1:Nat):Int);split<;>omega,by show(if n.kind=8 then((c+1:Nat):Int) else 0)<=((c+1:Nat):Int);split<;>omega,hb,hh⟩
theorem jL:∃b:Nat,(0:Int)=(b:Int)/\b<18446744073709551616:=⟨0,rfl,by decide⟩
section
variable{H:ByteArray->Nat}{σ τ υ:Kw}{r:Int}{w:List Nat}
theorem Oy{p g:Int}(h:Inv H σ)(hp:dS (σ.nd p)):lI H σ (yK p) w g:=by
 have hr:1<=p/\p<=σ.len:=jF hp
 exact⟨.inr (.inr (.inr (.inr (.inr (.inl rfl))))),tx h.gen hr.1 (by have:=hr.2;omega),zL (by show p<=_;have:=hr.2;omega) (bH _) (bH _) (λ r hr=>nomatch hr) jL jL,
  λ k=>eF (a:=7) (b:=2) k,λ k=>eF (a:=7) (b:=3) k,λ k=>eF (a:=7) (b:=4) k,λ k=>eF (a:=7) (b:=5) k,λ k=>eF (a:=7) (b:=6) k,λ _=>hp,λ k=>eF (a:=7) (b:=8) k⟩
theorem Kh{g g':Int}(hw:w.length<=11)(h1:1<=g')(h2:g'<=σ.mm.gen):lI H σ (sG g') w g :=
 ⟨.inl rfl,jl h2 h1,zL (bH _) (bH _) (bH _) (λ r hr=>nomatch hr) jL jL,
  λ _=>hw,λ k=>eF (a:=2) (b:=3) k,λ k=>eF (a:=2) (b:=4) k,λ k=>eF (a:=2) (b:=5) k,λ k=>eF (a:=2) (b:=6) k,λ k=>eF (a:=2) (b:=7) k,λ k=>eF (a:=2) (b:=8) k⟩
theorem mn{a b d g:Int}(h:Inv H σ)(ha:wF σ a [])(hb1:1<=b)(hb2:b<=σ.len)(hd:wF σ d []):lI H σ (Dx a b d) w g:=by
 have h1:=ha.in
 have h2:=hd.in
 exact⟨.inr (.inr (.inr (.inr (.inr (.inr rfl))))),ov h.gen h1.1 (by omega) hb1 (by omega) h2.1 (by omega),zL (by show a<=_;omega) (by show b<=_;omega) (by show d<=_;omega) (λ r hr=>nomatch hr) jL jL,
  λ k=>eF (a:=8) (b:=2) k,λ k=>eF (a:=8) (b:=3) k,λ k=>eF (a:=8) (b:=4) k,λ k=>eF (a:=8) (b:=5) k,λ k=>eF (a:=8) (b:=6) k,λ k=>eF (a:=8) (b:=7) k,λ _=>⟨ha,hd⟩⟩
theorem A6{h:Nat}{k:ByteArray}{u g:Int}(i:Inv H σ)(hk:k.size<=64)(hh:H k=h)(hl:h<18446744073709551616):lI H σ (yJ h k u) w g :=
 ⟨.inr (.inr (.inl rfl)),X0 i.gen hk,zL (bH _) (bH _) (bH _) (λ r hr=>nomatch hr) jL ⟨h,rfl,hl⟩,
  λ k=>eF (a:=4) (b:=2) k,λ k=>eF (a:=4) (b:=3) k,λ _=>hh,λ k=>eF (a:=4) (b:=5) k,λ k=>eF (a:=4) (b:=6) k,λ k=>eF (a:=4) (b:=7) k,λ k=>eF (a:=4) (b:=8) k⟩
def Z9(h:Int)(k:ByteArray)(u:Int):Nv:=({Nd.zero with kind:=5,hash:=h,key:=k,val:=u}:Nd).c [] []
theorem E7{h:Nat}{k:ByteArray}{u g:Int}(i:Inv H σ)(hk:k.size<=64)(hh:H k=h)(hl:h<18446744073709551616)(w0:0<w.length)(w1:w.length<=11)(hu:iF h w):lI H σ (Z9 h k u) w g :=
 ⟨.inr (.inr (.inr (.inl rfl))),ow i.gen hk,zL (bH _) (bH _) (bH _) (λ r hr=>nomatch hr) jL ⟨h,rfl,hl⟩,
  λ k=>eF (a:=5) (b:=2) k,λ k=>eF (a:=5) (b:=3) k,λ k=>eF (a:=5) (b:=4) k,λ _=>⟨w0,w1,hh,hu⟩,λ k=>eF (a:=5) (b:=6) k,λ k=>eF (a:=5) (b:=7) k,λ k=>eF (a:=5) (b:=8) k⟩
def U8(h:Int)(ys:List Pr):Nv:=({Nd.zero with kind:=6,hash:=h}:Nd).c [] ys
theorem H9{h:Nat}{ys:List Pr}{g:Int}(i:Inv H σ)(h2:2<=ys.length)(ha:vh ys)(hs:Hq ys)(hh:∀p∈ys,H p.1=h)(hl:h<18446744073709551616)(w1:w.length=11)(hu:iF h w):lI H σ (U8 h ys) w g :=
 ⟨.inr (.inr (.inr (.inr (.inl rfl)))),q6 i.gen h2 ha hs,zL (bH _) (bH _) (bH _) (λ r hr=>nomatch hr) jL ⟨h,rfl,hl⟩,
  λ k=>eF (a:=6) (b:=2) k,λ k=>eF (a:=6) (b:=3) k,λ k=>eF (a:=6) (b:=4) k,λ k=>eF (a:=6) (b:=5) k,λ _=>⟨w1,hu,hh⟩,λ k=>eF (a:=6) (b:=7) k,λ k=>eF (a:=6) (b:=8) k⟩
theorem Ub{m:Nat->Option Int}{x:Int}:∀{k:Nat},x∈rA m k->∃j,j<k/\m j=some x
 | 0,h=>nomatch h
 | k+1,h=>by
  simp only[rA,List.mem_append,Option.mem_toList] at h
  rcases h with h|h
  ·obtain⟨j,h1,h2⟩:=Ub h
   exact⟨j,by omega,h2⟩
  ·exact⟨k,Nat.lt_succ_self k,h⟩
theorem Mp{b:Nat}{xs:List Int}(h:BV b xs){x:Int}(hx:x∈xs):∃j,j<64/\sH b xs j=some x:=by
 rw[<- (ak h).2] at hx
 exact Ub hx
theorem Uf{b:Nat}{xs:List Int}(h:BV b xs){k:Nat}(hk:k<64){x:Int}(hx:sH b xs k=some x):x∈xs:=by
 unfold sH at hx
 split at hx
 ·rename_i hb
  cases hx
  exact B8 (by rw[h.len];exact oL hk hb)
 ·cases hx
theorem z8{v:Nv}{k:Nat}(hk:64<=k):iU v (k:Int)=none:=by
 unfold iU Eg
 rw[Ut _ (by omega)]
 simp
theorem Mu{v:Nv}(hcv:CV v.nd v.xs v.ys){k:Nat}(hk:k<64):iU v (k:Int)=sH v.bm.toNat v.xs k:=Vr hcv hk
theorem Mx.le{g g' b:Int}(h:Mx σ w g b)(hg:g<=g'):Mx σ w g' b:=by
 rcases h with h|h
 ·exact .inl h
 ·exact .inr ⟨h.1,h.2.1,Int.le_trans h.2.2 hg⟩
theorem Mx.in{g b:Int}(h:Mx σ w g b):1<=b/\b<=σ.len:=by
 rcases h with h|h<;>exact eR (N:=σ.mm.nodes) (i:=b) (by rw[h.1];decide)
theorem nD{b:Nat}{xs:List Int}{g:Int}(i:Inv H σ)(hb:BV b xs)(hx:∀k:Nat,k<64->∀r,sH b xs k=some r->Mx σ (w++[k]) g r)(hw:w.length<=10)(h0:0<w.length->xs≠[]/\∀b,xs=[b]->(σ.nd b).kind=2):lI H σ (Er b xs) w g:=by
 have hr:∀r∈xs,1<=r/\r<=σ.len:=λ r hr=>by
  obtain⟨j,h1,h2⟩:=Mp hb hr
  exact(hx j h1 r h2).in
 have hok:nT σ.mm.gen (σ.len+1) (dK (Er b xs) σ.cl).dv:=j7 i.gen hb (λ r h=>by have:=(hr r h).2;omega)
 refine⟨.inr (.inl rfl),hok,zL (bH _) (bH _) (bH _) (λ r h=>by have:=(hr r h).2;omega) ⟨b,rfl,hb.lt⟩ jL,
  λ k=>eF (a:=3) (b:=2) k,λ _=>⟨hw,λ k r hk=>?_,h0⟩,λ k=>eF (a:=3) (b:=4) k,λ k=>eF (a:=3) (b:=5) k,λ k=>eF (a:=3) (b:=6) k,λ k=>eF (a:=3) (b:=7) k,λ k=>eF (a:=3) (b:=8) k⟩
 by_cases h64:k<64
 ·rw[Mu (v:=dK (Er b xs) σ.cl) ⟨rfl,hok.1⟩ h64] at hk
  exact hx k h64 r hk
 ·rw[z8 (by omega)] at hk
  cases hk
structure oR(σ:Kw)(m:Int)(w:List Nat)(g:Int)(b:Nat)(xs:List Int):Prop where
 kd:(σ.nd m).kind=3
 bm:(σ.nd m).bm.toNat=b
 el:(σ.nd m).xs=xs
 cv:CV (σ.nd m).nd (σ.nd m).xs (σ.nd m).ys
 bv:BV b xs
 wl:w.length<=10
 br:∀k:Nat,k<64->∀r,sH b xs k=some r->Mx σ (w++[k]) g r
 ne:0<w.length->xs≠[]/\∀b,xs=[b]->(σ.nd b).kind=2
theorem oS.F8{m g:Int}(i:Inv H σ)(h:oS σ m w g)(k:(σ.nd m).kind=3):oR σ m w g (σ.nd m).bm.toNat (σ.nd m).xs:=by
 have hr:=h.in
 have hn:=i.nd m hr.1 hr.2
 obtain⟨h1,h2,h3,_⟩:=hn.k3 k
 have hcv:CV (σ.nd m).nd (σ.nd m).xs (σ.nd m).ys:=⟨k,hn.valid⟩
 obtain⟨b,hb1,hb2⟩:=hn.bd.bm
 have hb:(σ.nd m).bm.toNat=b:=by omega
 rw[h.2.1] at h1 h2 h3
 refine⟨k,rfl,rfl,hcv,by rw[hb];exact hcv.bv hb1 hb2,h1,λ k' hk r hr=>?_,h3⟩
 exact(h2 k' r (by rw[Mu hcv hk];exact hr)).le h.2.2
theorem oR.lk{m g:Int}{b:Nat}{xs:List Int}(h:oR σ m w g b xs){k:Nat}(hk:k<64):iU (σ.nd m) (k:Int)=sH b xs k:=by rw[Mu h.cv hk,h.bm,h.el]
theorem oR.up{m g r:Int}{b:Nat}{xs:List Int}(h:oR σ m w g b xs){k:Nat}(hk:k<64){o:Int}(ho:iU (σ.nd m) (k:Int)=some o)(hr:1<=r):me (σ.nd m) (k:Int) r=Er b (zE xs (fZ b k) r)/\BV b (zE xs (fZ b k) r)/\(∀j,j<64->sH b (zE xs (fZ b k) r) j=Ng (sH b xs) k (some r) j)/\fZ b k<xs.length:=by
 rw[h.lk hk] at ho
 have hb:b.testBit k=true:=by unfold sH at ho;split at ho;assumption;cases ho
 have hu:=Tb h.bv hk hb hr
 refine⟨?_,hu.1,hu.2,by rw[h.bv.len];exact oL hk hb⟩
 unfold me nu
 rw[if_pos ⟨h.cv,hr,by rw[h.bm,pN b hk];exact hb⟩,h.bm,h.el,nZ b hk]
 rfl
theorem oR.ins{m g r:Int}{b:Nat}{xs:List Int}(h:oR σ m w g b xs){k:Nat}(hk:k<64)(ho:iU (σ.nd m) (k:Int)=none)(hr:1<=r):Z6 (σ.nd m) (k:Int) r=Er (b ||| 2^k) (uL xs (fZ b k) r)/\BV (b ||| 2^k) (uL xs (fZ b k) r)/\(∀j,j<64->sH (b ||| 2^k) (uL xs (fZ b k) r) j=Ng (sH b xs) k (some r) j)/\(uL xs (fZ b k) r).length=xs.length+1:=by
 rw[h.lk hk] at ho
 have hb:b.testBit k=false:=by
  unfold sH at ho
  cases hb:b.testBit k with
  | false=>rfl
  | true=>rw[hb] at ho;simp at ho
 have hu:=H0 h.bv hk hb hr
 refine⟨?_,hu.1,hu.2,Fh (by rw[h.bv.len];have:=vM b k (64-k);rwa [show k+(64-k)=64 by omega] at this) r⟩
 unfold Z6 cz
 rw[if_pos ⟨h.cv,⟨by omega,by omega⟩,hr,by rw[h.bm,pN b hk];exact hb⟩,h.bm,h.el,nZ b hk,pD b hk]
 rfl
theorem oR.re{m g:Int}{b:Nat}{xs:List Int}(h:oR σ m w g b xs){k:Nat}(hk:k<64){o:Int}(ho:iU (σ.nd m) (k:Int)=some o):Nb (σ.nd m) (k:Int)=Er (b ^^^ (b &&& 2^k)) (rK xs (fZ b k))/\BV (b ^^^ (b &&& 2^k)) (rK xs (fZ b k))/\(∀j,j<64->sH (b ^^^ (b &&& 2^k)) (rK xs (fZ b k)) j=Ng (sH b xs) k none j)/\(rK xs (fZ b k)).length+1=xs.length:=by
 rw[h.lk hk] at ho
 have hb:b.testBit k=true:=by unfold sH at ho;split at ho;assumption;cases ho
 have hu:=Sk h.bv hk hb
 refine⟨?_,hu.1,hu.2,Gb (by rw[h.bv.len];exact oL hk hb)⟩
 unfold Nb nk
 rw[if_pos ⟨h.cv,by rw[h.bm,pN b hk];exact hb⟩,h.bm,h.el,nZ b hk,sY b hk]
 rfl
end
end

end Go.Proofs.YtbajmaoegmbfgaaGreat
