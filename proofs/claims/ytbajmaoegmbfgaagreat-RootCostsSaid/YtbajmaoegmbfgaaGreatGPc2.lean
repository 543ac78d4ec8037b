/- Nodes of proper states. -/
import Derived.Test.YtbajmaoegmbfgaaGreatGVw1
import Derived.Test.YtbajmaoegmbfgaaGreatGBr
import Derived.Test.YtbajmaoegmbfgaaGreatGTt3
import Derived.Test.YtbajmaoegmbfgaaGreatGRn1

set_option linter.unusedSimpArgs false
set_option linter.unusedVariables false
namespace Go.Ct
section
section
variable{gen:Int}{n c:Nat}
theorem M9(h:0<=gen):nC gen n fK.c.dv:=⟨⟨by simp[sG,Nd.own,Nd.jX,Nd.jM,fK,Nd.zero,aP.c,Nd.c,Nv.dv,Nv.nd],by decide,by decide,by decide,.inl rfl⟩,h,λ i hi=>by simp[fK,aP.c,Nd.c,Nv.dv] at hi,⟨by decide,bL n⟩,⟨by decide,bL n⟩,⟨by decide,bL n⟩⟩
theorem fW:Ei 0 n:=⟨Int.le_refl _,bL n⟩
theorem X1{h u:Int}{k:ByteArray}(hg:0<=gen)(hk:k.size<=64):nC gen n (dK (({Nd.zero with kind:=4,hash:=h,key:=k,val:=u}:Nd).c [] []) c).dv :=
 ⟨⟨by simp[sG,Nd.own,Nd.jX,Nd.jM,Nd.zero,dK,Nd.c,Nv.dv,Nv.nd],by simp[dK,Nd.c,Nv.dv,Nv.nd,Nd.zero],by simp[dK,Nd.c,Nv.dv,Nv.nd,Nd.zero],by simp[dK,Nd.c,Nv.dv,Nv.nd,Nd.zero],.inr (.inr (.inr (.inl ⟨.inl rfl,hk⟩)))⟩,hg,λ i hi=>by simp[dK,Nd.c,Nv.dv] at hi,fW,fW,fW⟩
theorem au{g:Int}(hg:g<=gen)(h1:1<=g):nC gen n (dK (({Nd.zero with kind:=2,gen:=g}:Nd).c [] []) c).dv :=
 ⟨⟨by simp[sG,Nd.own,Nd.jX,Nd.jM,Nd.zero,dK,Nd.c,Nv.dv,Nv.nd],by simp[dK,Nd.c,Nv.dv,Nv.nd,Nd.zero];omega,by simp[dK,Nd.c,Nv.dv,Nv.nd,Nd.zero],by simp[dK,Nd.c,Nv.dv,Nv.nd,Nd.zero],.inr (.inl ⟨rfl,h1⟩)⟩,hg,λ i hi=>by simp[dK,Nd.c,Nv.dv] at hi,fW,fW,fW⟩
theorem m8{b:Nat}{xs:List Int}(hg:0<=gen)(hb:BV b xs)(hx:∀r∈xs,r<=n):nC gen n (dK (({Nd.zero with kind:=3,bm:=(b:Int)}:Nd).c xs []) c).dv :=
 ⟨⟨by simp[sG,Nd.own,Nd.jX,Nd.jM,Nd.zero,dK,Nd.c,Nv.dv,Nv.nd],by simp[dK,Nd.c,Nv.dv,Nv.nd,Nd.zero],by simp[dK,Nd.c,Nv.dv,Nv.nd,Nd.zero];omega,by simp[dK,Nd.c,Nv.dv,Nv.nd,Nd.zero],.inr (.inr (.inl ⟨rfl,by show(xs.length:Int)=zG (b:Int);rw[sR hb.lt,hb.len],hb.pos⟩))⟩,hg,λ i hi=>by
  have h1:=hb.pos i hi
  have hi':i<xs.length:=hi
  refine⟨by show 0<=xs.getD i 0;omega,hx _ ?_⟩
  show xs.getD i 0∈xs
  rw[jN,List.getElem?_eq_getElem hi']
  exact List.getElem_mem hi',fW,fW,fW⟩
theorem oi{h:Int}{ys:List Pr}(hg:0<=gen)(h2:2<=ys.length)(ha:wh ys)(hs:Gl ys):nC gen n (dK (({Nd.zero with kind:=6,hash:=h}:Nd).c [] ys) c).dv :=
 ⟨⟨by simp[sG,Nd.own,Nd.jX,Nd.jM,Nd.zero,dK,Nd.c,Nv.dv,Nv.nd],by simp[dK,Nd.c,Nv.dv,Nv.nd,Nd.zero],by simp[dK,Nd.c,Nv.dv,Nv.nd,Nd.zero];omega,by simp[dK,Nd.c,Nv.dv,Nv.nd,Nd.zero],.inr (.inr (.inr (.inr (.inl ⟨rfl,h2,ha,hs⟩))))⟩,hg,λ i hi=>by simp[dK,Nd.c,Nv.dv] at hi,fW,fW,fW⟩
theorem Qf(h:0<=gen):gG [fK.c,fK.c] [] gen:=by
 refine⟨by simp,h,rfl,rfl,λ i hi=>by simp at hi,λ i hi=>?_,by simp[marks,eR,gE,fK,Nd.zero,aP.c,Nd.c,Nv.dv,Nv.nd]⟩
 simp only[List.map_cons,List.map_nil,List.length_cons,List.length_nil] at hi
 have:i=0∨i=1:=by omega
 rcases this with rfl|rfl
 ·exact M9 h
 ·exact M9 h
end
end

/- Tries of worlds: new nodes of each kind, new cells, new generations. -/
end Go.Ct
namespace Go.Proofs.YtbajmaoegmbfgaaGreat
section
open Go.Ct
def Lv(k:Int)(r:Int):CT:=if k=2 then .main r else if k=8 then .stat r else .prev r
structure lU(H:ByteArray->Nat)(σ:Kw)(n:Nv)(w:List Nat)(g:Int):Prop where
 kd:n.kind=2∨n.kind=3∨n.kind=4∨n.kind=5∨n.kind=6∨n.kind=7∨n.kind=8
 ok:nC σ.mm.gen (σ.len+1) (dK n σ.cl).dv
 bd:mB (σ.len+1) (σ.cl+1) (dK n σ.cl)
 k2:n.kind=2->w.length<=11
 k3:n.kind=3->w.length<=10/\(∀k:Nat,∀b,mE (dK n σ.cl) k=some b->Ly σ (w++[k]) g b)/\(0<w.length->n.xs≠[]/\∀b,n.xs=[b]->(σ.nd b).kind=2)
 k4:n.kind=4->H n.key=n.hash.toNat
 k5:n.kind=5->0<w.length/\w.length<=11/\H n.key=n.hash.toNat/\iQ n.hash.toNat w
 k6:n.kind=6->w.length=11/\iQ n.hash.toNat w/\∀p∈n.ys,H p.1=n.hash.toNat
 k7:n.kind=7->cG (σ.nd n.bA)
 k8:n.kind=8->rG σ n.bA []/\rG σ n.new []
structure sq(σ:Kw)(n:Nv)(i:Int)(w:List Nat)(g:Int):Prop where
 ins:Ei i σ.len
 k2:n.kind=2->oT σ i w n.gen
 kp:cG n->i=0∨(oT σ i w g/\dI σ i)
 k8:n.kind=8->i=0
section
variable{H:ByteArray->Nat}{σ τ υ:Kw}{r:Int}{w:List Nat}
theorem Yh(n:Nv)(c:Nat):(dK n c).kind=n.kind:=rfl
theorem wz{n:Nv}{i g:Int}(h:Inv H σ)(hn:lU H σ n w g)(hi:sq σ n i w g):∃υ,Le σ υ/\Inv H υ/\υ.mm=σ.mm.push n i/\υ.nd ((σ.len+1:Nat):Int)=dK n σ.cl/\υ.way ((σ.len+1:Nat):Int)=w/\υ.gb ((σ.len+1:Nat):Int)=g:=by
 have e:=V8 σ n i w g (Lv n.kind ((σ.len+1:Nat):Int))
 have l:=e.le
 have hnd:=xj σ n i w g (Lv n.kind ((σ.len+1:Nat):Int))
 have hway:=s6 σ n i w g (Lv n.kind ((σ.len+1:Nat):Int))
 have hgb:=aAq σ n i w g (Lv n.kind ((σ.len+1:Nat):Int))
 have hct:=za σ n i w g (Lv n.kind ((σ.len+1:Nat):Int))
 have hlen:=V5 σ n i w g (Lv n.kind ((σ.len+1:Nat):Int))
 have hce:=λ h=>xq σ (n:=n) i w g (Lv n.kind ((σ.len+1:Nat):Int)) h
 have hc0:=λ h=>ow σ (n:=n) i w g (Lv n.kind ((σ.len+1:Nat):Int)) h
 have hpush:(σ.add n i w g (Lv n.kind ((σ.len+1:Nat):Int))).mm=σ.mm.push n i:=rfl
 generalize hυ:σ.add n i w g (Lv n.kind ((σ.len+1:Nat):Int))=υ at *
 have hgen:υ.mm.gen=σ.mm.gen:=by rw[hpush];rfl
 have hcl:υ.cl<=σ.cl+1:=by
  by_cases hk:n.kind=2∨n.kind=3∨n.kind=5∨n.kind=6∨n.kind=8
  ·rw[(hce hk).1];exact Nat.le_refl _
  ·rw[hc0 hk];omega
 have hcl2:(n.kind=2∨n.kind=3∨n.kind=5∨n.kind=6∨n.kind=8)->((σ.cl+1:Nat):Int)=((σ.mm.cs.length+1:Nat):Int):=λ _=>rfl
 have hnd':NdI H υ ((σ.len+1:Nat):Int):=by
  refine⟨by rw[hnd];exact hn.ok.1,by rw[hnd,hgen];exact hn.ok.2.1,?_,λ k=>?_,λ k=>?_,λ k=>?_,λ k=>?_,λ k=>?_,λ k=>?_,λ k=>?_⟩
  ·rw[hnd,hlen]
   have hb:=hn.bd
   by_cases hk:n.kind=2∨n.kind=3∨n.kind=5∨n.kind=6∨n.kind=8
   ·rw[(hce hk).1];exact hb
   ·rw[hc0 hk]
    refine⟨hb.bA,hb.exp,hb.new,hb.br,?_,?_,?_,hb.bm,hb.hash⟩
    ·show(if n.kind=2 then _ else(0:Int))<=_;rw[if_neg (by omega)];exact bL _
    ·show(if n.kind=3∨n.kind=5∨n.kind=6 then _ else(0:Int))<=_;rw[if_neg (by omega)];exact bL _
    ·show(if n.kind=8 then _ else(0:Int))<=_;rw[if_neg (by omega)];exact bL _
  all_goals rw[hnd] at k ⊢
  all_goals rw[Yh] at k
  ·rw[hway]
   refine⟨hn.k2 k,?_⟩
   rw[show(dK n σ.cl).main=((σ.cl+1:Nat):Int) from if_pos k,hct]
   exact⟨by omega,if_pos k⟩
  ·rw[hway,hgb]
   obtain⟨h1,h2,h3⟩:=hn.k3 k
   rw[show(dK n σ.cl).prev=((σ.cl+1:Nat):Int) from if_pos (.inl k),hct]
   refine⟨h1,λ k' b hb=>(h2 k' b hb).up l,λ h0=>⟨(h3 h0).1,λ b hb=>?_⟩,by omega,?_⟩
   ·have:=(h3 h0).2 b hb
    rw[l.nd (dW (N:=σ.mm.nodes) (i:=b) (by rw[this];decide)).2];exact this
   ·unfold Lv;rw[if_neg (by omega),if_neg (by omega)]
  ·exact hn.k4 k
  ·rw[hway]
   obtain⟨h1,h2,h3,h4⟩:=hn.k5 k
   rw[show(dK n σ.cl).prev=((σ.cl+1:Nat):Int) from if_pos (.inr (.inl k)),hct]
   refine⟨h1,h2,h3,h4,by omega,?_⟩
   unfold Lv;rw[if_neg (by omega),if_neg (by omega)]
  ·rw[hway]
   obtain⟨h1,h2,h3⟩:=hn.k6 k
   rw[show(dK n σ.cl).prev=((σ.cl+1:Nat):Int) from if_pos (.inr (.inr k)),hct]
   refine⟨h1,h2,h3,by omega,?_⟩
   unfold Lv;rw[if_neg (by omega),if_neg (by omega)]
  ·have:=hn.k7 k
   show cG (υ.nd n.bA)
   rw[l.nd (jL this).2];exact this
  ·obtain⟨h1,h2⟩:=hn.k8 k
   rw[show(dK n σ.cl).status=((σ.cl+1:Nat):Int) from if_pos k,hct]
   refine⟨h1.up l,h2.up l,by omega,?_⟩
   unfold Lv;rw[if_neg (by omega),if_pos k]
 refine⟨υ,l,?_,hpush,hnd,hway,hgb⟩
 rw[<- hυ]
 refine r3 h hn.ok hi.ins (by rw[hυ];exact hnd') (λ hc=>?_) (by rw[hυ];exact hcl)
 rw[hυ] at hc ⊢
 have hk:n.kind=2∨n.kind=3∨n.kind=5∨n.kind=6∨n.kind=8:=Classical.byContradiction λ hk=>by have:=hc0 hk;omega
 have hv:=(hce hk).2
 refine⟨by rw[hv];exact hi.ins.1,by rw[hv,hlen];have:=hi.ins.2;omega,λ i' k=>?_,λ m k=>?_,λ d k=>?_,λ k=>?_,λ k=>?_⟩<;>rw[hct] at k<;>rw[hv]
 ·unfold Lv at k
  split at k
  ·rename_i h2
   cases k
   rw[hnd,hway]
   exact⟨h2,(hi.k2 h2).up l⟩
  ·split at k<;>cases k
 ·unfold Lv at k
  split at k
  ·cases k
  ·split at k
   ·cases k
   ·cases k
    have hm:cG n:=by unfold cG;omega
    rw[hnd]
    refine⟨hm,?_⟩
    rcases hi.kp hm with h1|⟨h1,h2⟩
    ·exact .inl h1
    ·exact .inr (.inl ⟨by rw[hway,hgb];exact h1.up l,dI.up h h1.1 h2 l⟩)
 ·unfold Lv at k
  split at k
  ·cases k
  ·split at k
   ·rename_i h8
    exact .inl (hi.k8 h8)
   ·cases k
 ·unfold Lv at k
  split at k
  ·cases k
  ·split at k<;>cases k
 ·unfold Lv at k
  split at k
  ·cases k
  ·split at k<;>cases k
end
end

/- Tries of worlds: the nodes that the procedures make. -/
section
open Go.Ct
theorem eK{a b:Int}{p:Prop}(k:a=b)(h:a≠b:=by decide):p:=absurd k h
theorem tq{gen h u:Int}{k:ByteArray}{n c:Nat}(hg:0<=gen)(hk:k.size<=64):nC gen n (dK (({Nd.zero with kind:=5,hash:=h,key:=k,val:=u}:Nd).c [] []) c).dv :=
 ⟨⟨by simp[sG,Nd.own,Nd.jX,Nd.jM,Nd.zero,dK,Nd.c,Nv.dv,Nv.nd],by simp[dK,Nd.c,Nv.dv,Nv.nd,Nd.zero],by simp[dK,Nd.c,Nv.dv,Nv.nd,Nd.zero];omega,by simp[dK,Nd.c,Nv.dv,Nv.nd,Nd.zero],.inr (.inr (.inr (.inl ⟨.inr rfl,hk⟩)))⟩,hg,λ i hi=>by simp[dK,Nd.c,Nv.dv] at hi,fW,fW,fW⟩
theorem s8{gen p:Int}{n c:Nat}(hg:0<=gen)(h1:1<=p)(h2:p<=n):nC gen n (dK (yV p) c).dv :=
 ⟨⟨by simp[sG,Nd.own,Nd.jX,Nd.jM,Nd.zero,dK,Nd.c,Nv.dv,Nv.nd,yV],by simp[dK,Nd.c,Nv.dv,Nv.nd,Nd.zero,yV],by simp[dK,Nd.c,Nv.dv,Nv.nd,Nd.zero,yV],by simp[dK,Nd.c,Nv.dv,Nv.nd,Nd.zero,yV],.inr (.inr (.inr (.inr (.inr (.inr ⟨rfl,h1⟩)))))⟩,hg,λ i hi=>by simp[dK,Nd.c,Nv.dv,yV] at hi,⟨by show 0<=p;omega,h2⟩,fW,fW⟩
theorem uz{gen a b d:Int}{n c:Nat}(hg:0<=gen)(a1:1<=a)(a2:a<=n)(b1:1<=b)(b2:b<=n)(d1:1<=d)(d2:d<=n):nC gen n (dK (Bp a b d) c).dv :=
 ⟨⟨by simp[sG,Nd.own,Nd.jX,Nd.jM,Nd.zero,dK,Nd.c,Nv.dv,Nv.nd,Bp],by simp[dK,Nd.c,Nv.dv,Nv.nd,Nd.zero,Bp],by simp[dK,Nd.c,Nv.dv,Nv.nd,Nd.zero,Bp],by simp[dK,Nd.c,Nv.dv,Nv.nd,Nd.zero,Bp];omega,.inr (.inr (.inr (.inr (.inr (.inl ⟨rfl,b1,d1,a1⟩)))))⟩,hg,λ i hi=>by simp[dK,Nd.c,Nv.dv,Bp] at hi,⟨by show 0<=a;omega,a2⟩,⟨by show 0<=b;omega,b2⟩,⟨by show 0<=d;omega,d2⟩⟩
theorem zZ{n:Nv}{N c:Nat}(h1:n.bA<=N)(h2:n.exp<=N)(h3:n.new<=N)(h4:∀r∈n.xs,r<=N)(hb:∃b:Nat,n.bm=(b:Int)/\b<18446744073709551616)(hh:∃b:Nat,n.hash=(b:Int)/\b<18446744073709551616):mB N (c+1) (dK n c) :=
 ⟨h1,h2,h3,h4,by show(if n.kind=2 then((c+1:Nat):Int) else 0)<=((c+1:Nat):Int);split<;>omega,by show(if n.kind=3∨n.kind=5∨n.kind=6 then((c+1:Nat):Int) else 0)<=((c+1:Nat):Int);split<;>omega,by show(if n.kind=8 then((c+1:Nat):Int) else 0)<=((c+1:Nat):Int);split<;>omega,hb,hh⟩
theorem jQ:∃b:Nat,(0:Int)=(b:Int)/\b<18446744073709551616:=⟨0,rfl,by decide⟩
section
variable{H:ByteArray->Nat}{σ τ υ:Kw}{r:Int}{w:List Nat}
theorem O4{p g:Int}(h:Inv H σ)(hp:cG (σ.nd p)):lU H σ (yV p) w g:=by
 have hr:1<=p/\p<=σ.len:=jL hp
 exact⟨.inr (.inr (.inr (.inr (.inr (.inl rfl))))),s8 h.gen hr.1 (by have:=hr.2;omega),zZ (by show p<=_;have:=hr.2;omega) (bL _) (bL _) (λ r hr=>nomatch hr) jQ jQ,
  λ k=>eK (a:=7) (b:=2) k,λ k=>eK (a:=7) (b:=3) k,λ k=>eK (a:=7) (b:=4) k,λ k=>eK (a:=7) (b:=5) k,λ k=>eK (a:=7) (b:=6) k,λ _=>hp,λ k=>eK (a:=7) (b:=8) k⟩
theorem Kg{g g':Int}(hw:w.length<=11)(h1:1<=g')(h2:g'<=σ.mm.gen):lU H σ (iC g') w g :=
 ⟨.inl rfl,au h2 h1,zZ (bL _) (bL _) (bL _) (λ r hr=>nomatch hr) jQ jQ,
  λ _=>hw,λ k=>eK (a:=2) (b:=3) k,λ k=>eK (a:=2) (b:=4) k,λ k=>eK (a:=2) (b:=5) k,λ k=>eK (a:=2) (b:=6) k,λ k=>eK (a:=2) (b:=7) k,λ k=>eK (a:=2) (b:=8) k⟩
theorem fw{a b d g:Int}(h:Inv H σ)(ha:rG σ a [])(hb1:1<=b)(hb2:b<=σ.len)(hd:rG σ d []):lU H σ (Bp a b d) w g:=by
 have h1:=ha.in
 have h2:=hd.in
 exact⟨.inr (.inr (.inr (.inr (.inr (.inr rfl))))),uz h.gen h1.1 (by omega) hb1 (by omega) h2.1 (by omega),zZ (by show a<=_;omega) (by show b<=_;omega) (by show d<=_;omega) (λ r hr=>nomatch hr) jQ jQ,
  λ k=>eK (a:=8) (b:=2) k,λ k=>eK (a:=8) (b:=3) k,λ k=>eK (a:=8) (b:=4) k,λ k=>eK (a:=8) (b:=5) k,λ k=>eK (a:=8) (b:=6) k,λ k=>eK (a:=8) (b:=7) k,λ _=>⟨ha,hd⟩⟩
theorem Bf{h:Nat}{k:ByteArray}{u g:Int}(i:Inv H σ)(hk:k.size<=64)(hh:H k=h)(hl:h<18446744073709551616):lU H σ (Iq h k u) w g :=
 ⟨.inr (.inr (.inl rfl)),X1 i.gen hk,zZ (bL _) (bL _) (bL _) (λ r hr=>nomatch hr) jQ ⟨h,rfl,hl⟩,
  λ k=>eK (a:=4) (b:=2) k,λ k=>eK (a:=4) (b:=3) k,λ _=>hh,λ k=>eK (a:=4) (b:=5) k,λ k=>eK (a:=4) (b:=6) k,λ k=>eK (a:=4) (b:=7) k,λ k=>eK (a:=4) (b:=8) k⟩
def iy(h:Int)(k:ByteArray)(u:Int):Nv:=({Nd.zero with kind:=5,hash:=h,key:=k,val:=u}:Nd).c [] []
theorem Ie{h:Nat}{k:ByteArray}{u g:Int}(i:Inv H σ)(hk:k.size<=64)(hh:H k=h)(hl:h<18446744073709551616)(w0:0<w.length)(w1:w.length<=11)(hu:iQ h w):lU H σ (iy h k u) w g :=
 ⟨.inr (.inr (.inr (.inl rfl))),tq i.gen hk,zZ (bL _) (bL _) (bL _) (λ r hr=>nomatch hr) jQ ⟨h,rfl,hl⟩,
  λ k=>eK (a:=5) (b:=2) k,λ k=>eK (a:=5) (b:=3) k,λ k=>eK (a:=5) (b:=4) k,λ _=>⟨w0,w1,hh,hu⟩,λ k=>eK (a:=5) (b:=6) k,λ k=>eK (a:=5) (b:=7) k,λ k=>eK (a:=5) (b:=8) k⟩
def V0(h:Int)(ys:List Pr):Nv:=({Nd.zero with kind:=6,hash:=h}:Nd).c [] ys
theorem Fq{h:Nat}{ys:List Pr}{g:Int}(i:Inv H σ)(h2:2<=ys.length)(ha:wh ys)(hs:Gl ys)(hh:∀p∈ys,H p.1=h)(hl:h<18446744073709551616)(w1:w.length=11)(hu:iQ h w):lU H σ (V0 h ys) w g :=
 ⟨.inr (.inr (.inr (.inr (.inl rfl)))),oi i.gen h2 ha hs,zZ (bL _) (bL _) (bL _) (λ r hr=>nomatch hr) jQ ⟨h,rfl,hl⟩,
  λ k=>eK (a:=6) (b:=2) k,λ k=>eK (a:=6) (b:=3) k,λ k=>eK (a:=6) (b:=4) k,λ k=>eK (a:=6) (b:=5) k,λ _=>⟨w1,hu,hh⟩,λ k=>eK (a:=6) (b:=7) k,λ k=>eK (a:=6) (b:=8) k⟩
theorem Wy{m:Nat->Option Int}{x:Int}:∀{k:Nat},x∈qC m k->∃j,j<k/\m j=some x
 | 0,h=>nomatch h
 | k+1,h=>by
  simp only[qC,List.mem_append,Option.mem_toList] at h
  rcases h with h|h
  ·obtain⟨j,h1,h2⟩:=Wy h
   exact⟨j,by omega,h2⟩
  ·exact⟨k,Nat.lt_succ_self k,h⟩
theorem Nc{b:Nat}{xs:List Int}(h:BV b xs){x:Int}(hx:x∈xs):∃j,j<64/\rH b xs j=some x:=by
 rw[<- (Si h).2] at hx
 exact Wy hx
theorem Wq{b:Nat}{xs:List Int}(h:BV b xs){k:Nat}(hk:k<64){x:Int}(hx:rH b xs k=some x):x∈xs:=by
 unfold rH at hx
 split at hx
 ·rename_i hb
  cases hx
  exact Cu (by rw[h.len];exact oX hk hb)
 ·cases hx
theorem yd{v:Nv}{k:Nat}(hk:64<=k):mE v (k:Int)=none:=by
 unfold mE L7
 rw[W1 _ (by omega)]
 simp
theorem Ma{v:Nv}(hcv:CV v.nd v.xs v.ys){k:Nat}(hk:k<64):mE v (k:Int)=rH v.bm.toNat v.xs k:=U7 hcv hk
theorem Ly.le{g g' b:Int}(h:Ly σ w g b)(hg:g<=g'):Ly σ w g' b:=by
 rcases h with h|h
 ·exact .inl h
 ·exact .inr ⟨h.1,h.2.1,Int.le_trans h.2.2 hg⟩
theorem Ly.in{g b:Int}(h:Ly σ w g b):1<=b/\b<=σ.len:=by
 rcases h with h|h<;>exact dW (N:=σ.mm.nodes) (i:=b) (by rw[h.1];decide)
theorem nT{b:Nat}{xs:List Int}{g:Int}(i:Inv H σ)(hb:BV b xs)(hx:∀k:Nat,k<64->∀r,rH b xs k=some r->Ly σ (w++[k]) g r)(hw:w.length<=10)(h0:0<w.length->xs≠[]/\∀b,xs=[b]->(σ.nd b).kind=2):lU H σ (Iv b xs) w g:=by
 have hr:∀r∈xs,1<=r/\r<=σ.len:=λ r hr=>by
  obtain⟨j,h1,h2⟩:=Nc hb hr
  exact(hx j h1 r h2).in
 have hok:nC σ.mm.gen (σ.len+1) (dK (Iv b xs) σ.cl).dv:=m8 i.gen hb (λ r h=>by have:=(hr r h).2;omega)
 refine⟨.inr (.inl rfl),hok,zZ (bL _) (bL _) (bL _) (λ r h=>by have:=(hr r h).2;omega) ⟨b,rfl,hb.lt⟩ jQ,
  λ k=>eK (a:=3) (b:=2) k,λ _=>⟨hw,λ k r hk=>?_,h0⟩,λ k=>eK (a:=3) (b:=4) k,λ k=>eK (a:=3) (b:=5) k,λ k=>eK (a:=3) (b:=6) k,λ k=>eK (a:=3) (b:=7) k,λ k=>eK (a:=3) (b:=8) k⟩
 by_cases h64:k<64
 ·rw[Ma (v:=dK (Iv b xs) σ.cl) ⟨rfl,hok.1⟩ h64] at hk
  exact hx k h64 r hk
 ·rw[yd (by omega)] at hk
  cases hk
structure nI(σ:Kw)(m:Int)(w:List Nat)(g:Int)(b:Nat)(xs:List Int):Prop where
 kd:(σ.nd m).kind=3
 bm:(σ.nd m).bm.toNat=b
 el:(σ.nd m).xs=xs
 cv:CV (σ.nd m).nd (σ.nd m).xs (σ.nd m).ys
 bv:BV b xs
 wl:w.length<=10
 br:∀k:Nat,k<64->∀r,rH b xs k=some r->Ly σ (w++[k]) g r
 ne:0<w.length->xs≠[]/\∀b,xs=[b]->(σ.nd b).kind=2
theorem oT.Gp{m g:Int}(i:Inv H σ)(h:oT σ m w g)(k:(σ.nd m).kind=3):nI σ m w g (σ.nd m).bm.toNat (σ.nd m).xs:=by
 have hr:=h.in
 have hn:=i.nd m hr.1 hr.2
 obtain⟨h1,h2,h3,_⟩:=hn.k3 k
 have hcv:CV (σ.nd m).nd (σ.nd m).xs (σ.nd m).ys:=⟨k,hn.valid⟩
 obtain⟨b,hb1,hb2⟩:=hn.bd.bm
 have hb:(σ.nd m).bm.toNat=b:=by omega
 rw[h.2.1] at h1 h2 h3
 refine⟨k,rfl,rfl,hcv,by rw[hb];exact hcv.bv hb1 hb2,h1,λ k' hk r hr=>?_,h3⟩
 exact(h2 k' r (by rw[Ma hcv hk];exact hr)).le h.2.2
theorem nI.lk{m g:Int}{b:Nat}{xs:List Int}(h:nI σ m w g b xs){k:Nat}(hk:k<64):mE (σ.nd m) (k:Int)=rH b xs k:=by rw[Ma h.cv hk,h.bm,h.el]
theorem nI.up{m g r:Int}{b:Nat}{xs:List Int}(h:nI σ m w g b xs){k:Nat}(hk:k<64){o:Int}(ho:mE (σ.nd m) (k:Int)=some o)(hr:1<=r):ir (σ.nd m) (k:Int) r=Iv b (zL xs (gU b k) r)/\BV b (zL xs (gU b k) r)/\(∀j,j<64->rH b (zL xs (gU b k) r) j=Nu (rH b xs) k (some r) j)/\gU b k<xs.length:=by
 rw[h.lk hk] at ho
 have hb:b.testBit k=true:=by unfold rH at ho;split at ho;assumption;cases ho
 have hu:=Tu h.bv hk hb hr
 refine⟨?_,hu.1,hu.2,by rw[h.bv.len];exact oX hk hb⟩
 unfold ir nq
 rw[if_pos ⟨h.cv,hr,by rw[h.bm,qP b hk];exact hb⟩,h.bm,h.el,oN b hk]
 rfl
theorem nI.ins{m g r:Int}{b:Nat}{xs:List Int}(h:nI σ m w g b xs){k:Nat}(hk:k<64)(ho:mE (σ.nd m) (k:Int)=none)(hr:1<=r):xd (σ.nd m) (k:Int) r=Iv (b ||| 2^k) (wV xs (gU b k) r)/\BV (b ||| 2^k) (wV xs (gU b k) r)/\(∀j,j<64->rH (b ||| 2^k) (wV xs (gU b k) r) j=Nu (rH b xs) k (some r) j)/\(wV xs (gU b k) r).length=xs.length+1:=by
 rw[h.lk hk] at ho
 have hb:b.testBit k=false:=by
  unfold rH at ho
  cases hb:b.testBit k with
  | false=>rfl
  | true=>rw[hb] at ho;simp at ho
 have hu:=Ft h.bv hk hb hr
 refine⟨?_,hu.1,hu.2,Ip (by rw[h.bv.len];have:=wW b k (64-k);rwa [show k+(64-k)=64 by omega] at this) r⟩
 unfold xd n0
 rw[if_pos ⟨h.cv,⟨by omega,by omega⟩,hr,by rw[h.bm,qP b hk];exact hb⟩,h.bm,h.el,oN b hk,pW b hk]
 rfl
theorem nI.re{m g:Int}{b:Nat}{xs:List Int}(h:nI σ m w g b xs){k:Nat}(hk:k<64){o:Int}(ho:mE (σ.nd m) (k:Int)=some o):Nr (σ.nd m) (k:Int)=Iv (b ^^^ (b &&& 2^k)) (sB xs (gU b k))/\BV (b ^^^ (b &&& 2^k)) (sB xs (gU b k))/\(∀j,j<64->rH (b ^^^ (b &&& 2^k)) (sB xs (gU b k)) j=Nu (rH b xs) k none j)/\(sB xs (gU b k)).length+1=xs.length:=by
 rw[h.lk hk] at ho
 have hb:b.testBit k=true:=by unfold rH at ho;split at ho;assumption;cases ho
 have hu:=T4 h.bv hk hb
 refine⟨?_,hu.1,hu.2,Gg (by rw[h.bv.len];exact oX hk hb)⟩
 unfold Nr nz
 rw[if_pos ⟨h.cv,by rw[h.bm,qP b hk];exact hb⟩,h.bm,h.el,oN b hk,tY b hk]
 rfl
end
end

/- Tries of worlds: READ, SETTLE, ROOT, HELP, DECIDE, GCAS, RDCSS keep the labels. -/
section
open Go.Ct
def ctR(ro:Bool):CT:=if ro=true then .rort else .root
def cL(σ:Kw)(t:eQ):Prop:=1<=t.root/\t.root<=σ.cl/\σ.ct t.root=ctR t.ro
def rS(σ:Kw)(i:Int)(w:List Nat)(g:Int):Prop:=rG σ i w/\(σ.nd i).gen=g
section
variable{H:ByteArray->Nat}{Q:Rs->Kw->Prop}{σ τ υ:Kw}{i m p g:Int}{w:List Nat}{t:eQ}
theorem cL.up(h:cL σ t)(l:Le σ τ):cL τ t:=⟨h.1,by have:=h.2.1;have:=l.cl;omega,by rw[l.ct _ h.2.1];exact h.2.2⟩
theorem rS.up(h:rS σ i w g)(l:Le σ τ):rS τ i w g:=⟨h.1.up l,by rw[l.nd h.1.in.2];exact h.2⟩
theorem rS.in(h:rS σ i w g):1<=i/\i<=σ.len:=h.1.in
theorem rS.uc(i1:Inv H σ)(h:rS σ i w g):oT σ (σ.ce (σ.nd i).main) w g:=by
 have hc:=i1.oJ h.1.1
 have:=((i1.ce _ hc.1 hc.2.1).main i hc.2.2).2
 rwa [h.1.2,h.2] at this
theorem aAG{cs:List Int}{c o:Int}(h1:1<=c)(h2:c<=cs.length)(h:¬gP cs c o):bE cs c≠o:=λ e=>h ⟨h1,h2,by unfold bE at e;rwa [if_pos ⟨h1,h2⟩] at e⟩
theorem vP{c o v:Int}{k:Bool->Tr}(h1:1<=c)(h2:c<=σ.cl)(i0:Inv H σ)(hset:∀τ,Le σ τ->Inv H τ->gP τ.mm.cs c o->Jz τ c o v)
  (hk:∀τ b,Le σ τ->Inv H τ->(b=true->τ.ce c=v)->(b=false->τ.ce c≠o)->WT H Q (k b) τ):WT H Q (.hY c o v k) σ:=λ τ l1 i1 =>
 ⟨λ hc=>by
  obtain⟨υ,l2,i2,e2,e3⟩:=bf i1 hc (hset τ l1 i1 hc)
  exact⟨υ,l2,i2,e2,hk υ true (l1.trans i0 i1 l2) i2 (λ _=>e3) (λ h=>nomatch h)⟩,
 λ hc=>hk τ false l1 i1 (λ h=>nomatch h) (λ _=>aAG h1 (by have:=l1.cl;simp only[Kw.cl] at *;omega) hc)⟩
theorem fX{n:Nv}{c:Int}{k:Int->Tr}(i0:Inv H σ)(hn:lU H σ n w g)(hc:sq σ n c w g)
  (hk:∀υ r cl,Le σ υ->Inv H υ->r=((σ.len+1:Nat):Int)->υ.mm=σ.mm.push n c->υ.nd r=dK n cl->υ.way r=w->υ.gb r=g->1<=r->r<=υ.len->WT H Q (k r) υ):WT H Q (.alloc n c k) σ:=by
 obtain⟨υ,l2,i2,e2,e3,e4,e5⟩:=wz i0 hn hc
 refine⟨υ,l2,i2,e2,hk υ _ σ.cl l2 i2 rfl e2 e3 e4 e5 (by omega) ?_⟩
 have:υ.len=σ.len+1:=by simp only[Kw.len,e2,Mm.push,List.length_append,List.length_cons,List.length_nil]
 omega
structure E7(σ:Kw)(m p:Int):Prop where
 mkd:cG (σ.nd m)
 pk:cG (σ.nd p)
 pm:oF σ m p
 ce:σ.ce (σ.nd m).prev=p∨σ.ce (σ.nd m).prev=0∨((σ.nd (σ.ce (σ.nd m).prev)).kind=7/\(σ.nd (σ.ce (σ.nd m).prev)).bA=p)
theorem oF.up(i0:Inv H σ)(hm:cG (σ.nd m))(h:oF σ m p)(l:Le σ τ):oF τ m p:=by
 have hr:1<=m/\m<=σ.len:=jL hm
 exact⟨by rw[l.way m hr.2,l.gb m hr.2];exact h.1.up l,dI.up i0 h.1.1 h.2 l⟩
theorem E7.up(i0:Inv H σ)(i1:Inv H τ)(h:E7 σ m p)(l:Le σ τ):E7 τ m p:=by
 have hr:1<=m/\m<=σ.len:=jL h.mkd
 have hp:1<=p/\p<=σ.len:=jL h.pk
 have hc:=i0.mT h.mkd
 have hx:=l.nxt hc.1 hc.2.1 hc.2.2
 refine⟨by rw[l.nd hr.2];exact h.mkd,by rw[l.nd hp.2];exact h.pk,h.pm.up i0 h.mkd l,?_⟩
 rw[l.nd hr.2]
 rcases h.ce with e|e|⟨e1,e2⟩
 ·rw[e] at hx
  rcases hx.2 h.pk with h1|h1|h1
  ·exact .inl h1
  ·exact .inr (.inl h1)
  ·exact .inr (.inr h1)
 ·rw[e] at hx
  exact .inr (.inl (hx.1 (jF (.inl (xY _)))))
 ·have e3:=hx.1 (jF (.inr (.inl e1)))
  rw[e3]
  rw[l.nd (dW (N:=σ.mm.nodes) (i:=σ.ce (σ.nd m).prev) (by rw[e1];decide)).2]
  exact .inr (.inr ⟨e1,e2⟩)
theorem E7.cell(i0:Inv H σ)(h:E7 σ m p):1<=(σ.nd m).prev/\(σ.nd m).prev<=σ.cl/\σ.ct (σ.nd m).prev=.prev m:=i0.mT h.mkd
abbrev KM(H:ByteArray->Nat)(Q:Rs->Kw->Prop)(σ:Kw)(w:List Nat)(g:Int)(K:Int->Tr):Prop:=∀τ v,Le σ τ->Inv H τ->oT τ v w g->dI τ v->WT H Q (K v) τ
theorem KM.up{K:Int->Tr}(i0:Inv H σ)(i1:Inv H τ)(h:KM H Q σ w g K)(l:Le σ τ):KM H Q τ w g K:=λ υ v l2 i2=>h υ v (l.trans i0 i1 l2) i2
theorem jn{K:Int->Tr}(i0:Inv H σ)(hi:rS σ i w g)(hm:oT σ m w g)(h7:(σ.nd p).kind=7)(hp:oF σ m (σ.nd p).bA)(hK:KM H Q σ w g K):WT H Q (Bb i m p K) σ:=by
 have hr:1<=p/\p<=σ.len:=dW (N:=σ.mm.nodes) (i:=p) (by rw[h7];decide)
 have hc:=i0.oJ hi.1.1
 have hold:oT σ (σ.nd p).bA w g:=by have:=hp.1;rw[hm.2.1] at this;exact this.le hm.2.2
 refine⟨hi.in.2,hr.2,vP hc.1 hc.2.1 i0 (λ τ l1 i1 _=>?_) (λ τ b l1 i1 _ _=>⟨by have:=l1.len;have:=hr.2;omega,?_⟩)⟩
 ·have e:τ.ct (σ.nd i).main=.main i:=by rw[l1.ct _ hc.2.1];exact hc.2.2
  have ho:=hold.up l1
  refine⟨by have:=ho.in;omega,ho.in.2,λ i' h=>?_,λ m' h=>?_,λ d h=>?_,λ h=>?_,λ h=>?_⟩<;>rw[e] at h
  ·cases h
   have:=hi.up l1
   rw[this.1.2,this.2];exact ho
  ·cases h
  ·cases h
  ·cases h
  ·cases h
 ·rw[l1.nd hr.2]
  exact hK τ _ l1 i1 (hold.up l1) (dI.up i0 hold.1 hp.2 l1)
theorem Hn{K:Int->Tr}(i0:Inv H σ)(hi:rS σ i w g)(hm:oT σ m w g)(hp:E7 σ m p)(hd:σ.ce (σ.nd m).prev≠p)(hK:KM H Q σ w g K):WT H Q (iK i m K) σ:=by
 have hc:=hp.cell i0
 have hr:=hm.in
 refine⟨hr.2,λ τ l1 i1=>?_⟩
 have hp1:=hp.up i0 i1 l1
 have e1:(τ.nd m).prev=(σ.nd m).prev:=by rw[l1.nd hr.2]
 have hce:=hp1.ce
 rw[e1] at hce
 have hne:τ.ce (σ.nd m).prev≠p:=by
  have hx:=l1.nxt hc.1 hc.2.1 hc.2.2
  have hk:¬cG (σ.nd (σ.ce (σ.nd m).prev)):=by
   rcases hp.ce with e|e|e
   ·exact absurd e hd
   ·rw[e];exact jF (.inl (xY _))
   ·exact jF (.inr (.inl e.1))
  rw[hx.1 hk]
  exact hd
 try dsimp only
 split
 ·rename_i e0
  refine hK τ m l1 i1 (hm.up l1) ?_
  unfold dI
  rw[e1];exact e0
 ·rename_i e0
  rcases hce with e|e|⟨e,e2⟩
  ·exact absurd e hne
  ·exact absurd e e0
  ·exact jn i1 (hi.up l1) (hm.up l1) e (by rw[e2];exact hp1.pm) (hK.up i0 i1 l1)
theorem Vo{K:Int->Tr}{c:Bool}(i0:Inv H σ)(hi:rS σ i w g)(hm:oT σ m w g)(hp:E7 σ m p)(hK:KM H Q σ w g K):WT H Q (jK i m p c K) σ:=by
 have hr:=hm.in
 have hc:=hp.cell i0
 unfold jK
 try dsimp only
 split
 ·refine⟨hr.2,vP hc.1 hc.2.1 i0 (λ τ l1 i1 _=>?_) (λ τ b l1 i1 ht hf=>?_)⟩
  ·have e:τ.ct (σ.nd m).prev=.prev m:=by rw[l1.ct _ hc.2.1];exact hc.2.2
   refine⟨Int.le_refl _,bL _,λ i' h=>?_,λ m' h=>⟨(hp.up i0 i1 l1).pk,.inl rfl⟩,λ d h=>.inl rfl,λ h=>?_,λ h=>?_⟩<;>rw[e] at h<;>cases h
  ·refine Hn i1 (hi.up l1) (hm.up l1) (hp.up i0 i1 l1) ?_ (hK.up i0 i1 l1)
   rw[l1.nd hr.2]
   cases b with
   | true=>rw[ht rfl];have:=(jL hp.pk).1;omega
   | false=>exact hf rfl
 ·refine⟨hr.2,fX (w:=[]) (g:=0) i0 (O4 i0 hp.pk) ⟨⟨Int.le_refl _,bL _⟩,λ k=>eK (a:=7) (b:=2) k,λ k=>absurd k (jF (.inr (.inl rfl))),λ _=>rfl⟩ (λ υ f cl l1 i1 _ _ e1 _ _ hf1 hf2=>?_)⟩
  ·have hp1:=hp.up i0 i1 l1
   have hc1:=hp1.cell i1
   have e0:(υ.nd m).prev=(σ.nd m).prev:=by rw[l1.nd hr.2]
   rw[e0] at hc1
   have h7:(υ.nd f).kind=7/\(υ.nd f).bA=p:=by rw[e1];exact⟨rfl,rfl⟩
   refine vP hc1.1 hc1.2.1 i1 (λ τ l2 i2 _=>?_) (λ τ b l2 i2 ht hf=>?_)
   ·have e:τ.ct (σ.nd m).prev=.prev m:=by rw[l2.ct _ hc1.2.1];exact hc1.2.2
    refine⟨by omega,by have:=l2.len;omega,λ i' h=>?_,λ m' h=>⟨(hp1.up i1 i2 l2).pk,.inr ?_⟩,λ d h=>?_,λ h=>?_,λ h=>?_⟩
    ·rw[e] at h;cases h
    ·rw[l2.nd hf2];exact h7
    ·rw[e] at h;cases h
    ·rw[e] at h;cases h
    ·rw[e] at h;cases h
   ·have hp2:=hp1.up i1 i2 l2
    refine Hn i2 ((hi.up l1).up l2) ((hm.up l1).up l2) hp2 ?_ ((hK.up i0 i1 l1).up i1 i2 l2)
    rw[l2.nd (by have:=l1.len;omega),e0]
    cases b with
    | true =>
     rw[ht rfl]
     intro e
     have:=hp1.pk
     rw[<- e] at this
     exact absurd this (jF (.inr (.inl h7.1)))
    | false=>exact hf rfl
abbrev KR(H:ByteArray->Nat)(Q:Rs->Kw->Prop)(σ:Kw)(K:Int->Tr):Prop:=∀τ r,Le σ τ->Inv H τ->rG τ r []->WT H Q (K r) τ
theorem KR.up{K:Int->Tr}(i0:Inv H σ)(i1:Inv H τ)(h:KR H Q σ K)(l:Le σ τ):KR H Q τ K:=λ υ v l2 i2=>h υ v (l.trans i0 i1 l2) i2
theorem Inv.desc(i0:Inv H σ){v:Int}(h:(σ.nd v).kind=8):v<=σ.len/\rG σ (σ.nd v).bA []/\rG σ (σ.nd v).new []/\1<=(σ.nd v).status/\(σ.nd v).status<=σ.cl/\σ.ct (σ.nd v).status=.stat v:=by
 have hr:1<=v/\v<=σ.len:=dW (N:=σ.mm.nodes) (i:=v) (by rw[h];decide)
 have hn:=i0.nd v hr.1 hr.2
 have h8:=hn.k8 h
 exact⟨hr.2,h8.1,h8.2.1,h8.2.2.1,hn.bd.status,h8.2.2.2⟩
theorem cL.rw(hT:cL σ t)(hr:t.ro=false):σ.ct t.root=.root:=by rw[hT.2.2,hr];rfl
theorem Fw{v s:Int}{K:Int->Tr}(hT:cL σ t)(hro:t.ro=false)(i0:Inv H σ)(h:(σ.nd v).kind=8)(hK:KR H Q σ K):WT H Q (iE t v s K) σ:=by
 have hd:=i0.desc h
 refine⟨hd.1,?_⟩
 show WT H Q (.hY t.root v (if s=1 then(σ.nd v).new else(σ.nd v).bA) λ _=>K (if s=1 then(σ.nd v).new else(σ.nd v).bA)) σ
 have hw:rG σ (if s=1 then(σ.nd v).new else(σ.nd v).bA) []:=by split;exact hd.2.2.1;exact hd.2.1
 generalize (if s=1 then(σ.nd v).new else(σ.nd v).bA)=w at hw ⊢
 refine vP hT.1 hT.2.1 i0 (λ τ l1 i1 _=>?_) (λ τ b l1 i1 _ _=>hK τ w l1 i1 (hw.up l1))
 have e:=(hT.up l1).rw hro
 have hw1:=hw.up l1
 refine⟨by have:=hw1.in;omega,hw1.in.2,λ i' h=>?_,λ m' h=>?_,λ d h=>?_,λ h=>.inl hw1,λ h=>?_⟩<;>rw[e] at h<;>cases h
theorem A6{v s:Int}(i0:Inv H σ)(h:(σ.nd v).kind=8)(hs:s=1∨s=2){o:Int}(l1:Le σ τ)(i1:Inv H τ):Jz τ (σ.nd v).status o s:=by
 have hd:=i0.desc h
 have e:τ.ct (σ.nd v).status=.stat v:=by rw[l1.ct _ hd.2.2.2.2.1];exact hd.2.2.2.2.2
 refine⟨by omega,by have:=i1.two;omega,λ i' h=>?_,λ m' h=>?_,λ d h=>.inr hs,λ h=>?_,λ h=>?_⟩<;>rw[e] at h<;>cases h
theorem Wc(hT:cL σ t)(i0:Inv H σ):σ.ce t.root<=σ.len/\(rG σ (σ.ce t.root) []∨((σ.nd (σ.ce t.root)).kind=8/\t.ro=false)):=by
 have h:=i0.ce _ hT.1 hT.2.1
 refine⟨h.hi,?_⟩
 cases hr:t.ro with
 | true=>exact .inl (h.rort (by rw[hT.2.2,hr];rfl))
 | false =>
  rcases h.root (hT.rw hr) with h1|h1
  ·exact .inl h1
  ·exact .inr ⟨h1,rfl⟩
theorem cL.roI(hT:cL σ t)(i0:Inv H σ)(hr:t.ro=true):rG σ (σ.ce t.root) []:=(i0.ce _ hT.1 hT.2.1).rort (by rw[hT.2.2,hr];rfl)
theorem rr{K:Int->Tr}(hT:cL σ t)(i0:Inv H σ)(hK:KR H Q σ K):WT H Q (yW t K) σ:=λ τ l1 i1=>by
 have hT1:=hT.up l1
 have hv:=Wc hT1 i1
 generalize τ.ce t.root=v at hv ⊢
 refine⟨hv.1,?_⟩
 try dsimp only
 split
 ·rename_i h2
  rcases hv.2 with h|h
  ·exact hK τ v l1 i1 h
  ·rw[h.1] at h2;exact absurd h2 (by decide)
 ·rename_i h2
  have h8r:(τ.nd v).kind=8/\t.ro=false:=by
   rcases hv.2 with h|h
   ·exact absurd h.1 h2
   ·exact h
  have h8:=h8r.1
  have hd:=i1.desc h8
  refine⟨hv.1,λ υ l2 i2=>?_⟩
  have h8':(υ.nd v).kind=8:=by rw[l2.nd hv.1];exact h8
  have hv':v<=υ.len:=by have:=l2.len;have:=hv.1;omega
  have hK1:=hK.up i0 i1 l1
  try dsimp only
  split
  ·refine⟨hv',vP (i2.desc h8').2.2.2.1 (i2.desc h8').2.2.2.2.1 i2 (λ ρ l3 i3 _=>A6 i2 h8' (.inr rfl) l3 i3) (λ ρ b l3 i3 _ _=>⟨by have:=l3.len;omega,λ χ l4 i4=>?_⟩)⟩
   refine Fw ((((hT1.up l2).up l3)).up l4) h8r.2 i4 (by rw[l4.nd (by have:=l3.len;omega),l3.nd hv'];exact h8') (((hK1.up i1 i2 l2).up i2 i3 l3).up i3 i4 l4)
  ·exact Fw (hT1.up l2) h8r.2 i2 h8' (hK1.up i1 i2 l2)
theorem Kc{K:Int->Tr}(hT:cL σ t)(i0:Inv H σ)(hi:rS σ i w g)(hm:oT σ m w g)(hK:KM H Q σ w g K):WT H Q (mI t i m K) σ:=by
 have hr:=hm.in
 have hc:=i0.mT hm.1
 refine⟨hr.2,λ τ l1 i1=>?_⟩
 have e1:(τ.nd m).prev=(σ.nd m).prev:=by rw[l1.nd hr.2]
 have hc1:1<=(σ.nd m).prev/\(σ.nd m).prev<=τ.cl/\τ.ct (σ.nd m).prev=.prev m:=by rw[<- e1];exact i1.mT (hm.up l1).1
 have hce:=i1.ce _ hc1.1 hc1.2.1
 have hp:=hce.prev m hc1.2.2
 have hhi:=hce.hi
 try dsimp only
 split
 ·rename_i e0
  refine hK τ m l1 i1 (hm.up l1) ?_
  unfold dI
  rw[e1];exact e0
 ·rename_i e0
  refine⟨hhi,?_⟩
  try dsimp only
  split
  ·rename_i hk
   have hpm:oF τ m (τ.ce (σ.nd m).prev):=by
    rcases hp.2 with h|h|h
    ·exact absurd h e0
    ·exact h
    ·exact absurd hk (jF (.inr (.inl h.1)))
   have hpend:E7 τ m (τ.ce (σ.nd m).prev):=⟨hp.1,hk,hpm,.inl (by rw[e1])⟩
   try dsimp only
   split
   ·exact Vo i1 (hi.up l1) (hm.up l1) hpend (hK.up i0 i1 l1)
   ·refine rr (hT.up l1) i1 λ υ r l2 i2 hr2=>⟨hr2.in.2,((hi.up l1).up l2).in.2,?_⟩
    exact Vo i2 ((hi.up l1).up l2) ((hm.up l1).up l2) (hpend.up i1 i2 l2) ((hK.up i0 i1 l1).up i1 i2 l2)
  ·rename_i hk
   rcases hp.2 with h|h|h
   ·exact absurd h e0
   ·exact absurd h.1.1 hk
   ·exact jn i1 (hi.up l1) (hm.up l1) h.1 h.2 (hK.up i0 i1 l1)
theorem lE{K:Int->Tr}(hT:cL σ t)(i0:Inv H σ)(hi:rS σ i w g)(hK:KM H Q σ w g K):WT H Q (lR t i K) σ:=⟨hi.in.2,λ τ l1 i1=>by
 have hi1:=hi.up l1
 have hm:=hi1.uc i1
 rw[l1.nd hi.in.2] at hm
 exact Kc (hT.up l1) i1 hi1 hm (hK.up i0 i1 l1)⟩
theorem Jf{v:Int}{K:Tr}(hT:cL σ t)(i0:Inv H σ)(h:(σ.nd v).kind=8)(hK:∀τ,Le σ τ->Inv H τ->WT H Q K τ):WT H Q (lG t v K) σ:=by
 have hd:=i0.desc h
 refine⟨hd.1,lE hT i0 (g:=(σ.nd (σ.nd v).bA).gen) ⟨hd.2.1,rfl⟩ λ τ m l1 i1 _ _=>⟨by have:=l1.len;omega,by have:=l1.len;omega,?_⟩⟩
 have h8:(τ.nd v).kind=8:=by rw[l1.nd hd.1];exact h
 have hd1:=i1.desc h8
 refine vP hd1.2.2.2.1 hd1.2.2.2.2.1 i1 (λ ρ l3 i3 _=>A6 i1 h8 (by split<;>simp) l3 i3) (λ ρ b l3 i3 _ _=>hK ρ (l1.trans i0 i1 l3) i3)
theorem yG{K:Int->Tr}(hT:cL σ t)(i0:Inv H σ)(hK:KR H Q σ K):WT H Q (mL t K) σ:=λ τ l1 i1=>by
 have hT1:=hT.up l1
 have hv:=Wc hT1 i1
 generalize τ.ce t.root=v at hv ⊢
 refine⟨hv.1,?_⟩
 try dsimp only
 split
 ·rename_i h2
  rcases hv.2 with h|h
  ·exact hK τ v l1 i1 h
  ·rw[h.1] at h2;exact absurd h2 (by decide)
 ·rename_i h2
  have h8r:(τ.nd v).kind=8/\t.ro=false:=by
   rcases hv.2 with h|h
   ·exact absurd h.1 h2
   ·exact h
  have h8:=h8r.1
  refine⟨hv.1,λ υ l2 i2=>?_⟩
  have h8':(υ.nd v).kind=8:=by rw[l2.nd hv.1];exact h8
  have hv':v<=υ.len:=by have:=l2.len;have:=hv.1;omega
  have hK1:=hK.up i0 i1 l1
  try dsimp only
  split
  ·refine Jf (hT1.up l2) i2 h8' λ ρ l3 i3=>⟨by have:=l3.len;omega,λ χ l4 i4=>?_⟩
   refine Fw ((((hT1.up l2).up l3)).up l4) h8r.2 i4 (by rw[l4.nd (by have:=l3.len;omega),l3.nd hv'];exact h8') (((hK1.up i1 i2 l2).up i2 i3 l3).up i3 i4 l4)
  ·exact Fw (hT1.up l2) h8r.2 i2 h8' (hK1.up i1 i2 l2)
abbrev KB(H:ByteArray->Nat)(Q:Rs->Kw->Prop)(σ:Kw)(K:Bool->Tr):Prop:=∀τ b,Le σ τ->Inv H τ->WT H Q (K b) τ
theorem Rk{n o:Int}(i0:Inv H σ)(hi:rS σ i w g)(hn:oT σ n w g)(l1:Le σ τ)(i1:Inv H τ):Jz τ (σ.nd i).main o n:=by
 have hc:=i0.oJ hi.1.1
 have e:τ.ct (σ.nd i).main=.main i:=by rw[l1.ct _ hc.2.1];exact hc.2.2
 have hn1:=hn.up l1
 refine⟨by have:=hn1.in;omega,hn1.in.2,λ i' h=>?_,λ m' h=>?_,λ d h=>?_,λ h=>?_,λ h=>?_⟩<;>rw[e] at h
 ·cases h
  have:=hi.up l1
  rw[this.1.2,this.2];exact hn1
 ·cases h
 ·cases h
 ·cases h
 ·cases h
theorem xV{o n:Int}{K:Bool->Tr}(hT:cL σ t)(i0:Inv H σ)(hi:rS σ i w g)(hn:oT σ n w g)(hK:KB H Q σ K):WT H Q (oS t i o n K) σ:=by
 have hc:=i0.oJ hi.1.1
 refine⟨hi.in.2,vP hc.1 hc.2.1 i0 (λ τ l1 i1 _=>Rk i0 hi hn l1 i1) (λ τ b l1 i1 _ _=>?_)⟩
 try dsimp only
 split
 ·exact Kc (hT.up l1) i1 (hi.up l1) (hn.up l1) λ υ v l2 i2 _ _=>hK υ _ (l1.trans i0 i1 l2) i2
 ·exact hK τ _ l1 i1
theorem Hp{o e n:Int}{K:Bool->Tr}(hT:cL σ t)(hro:t.ro=false)(i0:Inv H σ)(ho:rG σ o [])(hn:rG σ n [])(he1:1<=e)(he2:e<=σ.len)(hK:KB H Q σ K):WT H Q (lP t o e n K) σ:=by
 refine fX (w:=[]) (g:=0) i0 (fw i0 ho he1 he2 hn) ⟨⟨Int.le_refl _,bL _⟩,λ k=>eK (a:=8) (b:=2) k,λ k=>absurd k (jF (.inr (.inr (.inr (.inl rfl))))),λ _=>rfl⟩ (λ υ d cl l1 i1 _ _ e1 _ _ hd1 hd2=>?_)
 ·have h8:(υ.nd d).kind=8:=by rw[e1];rfl
  have hT1:=hT.up l1
  refine vP hT1.1 hT1.2.1 i1 (λ τ l2 i2 _=>?_) (λ τ b l2 i2 _ _=>?_)
  ·have e:=(hT1.up l2).rw hro
   refine⟨by omega,by have:=l2.len;omega,λ i' h=>?_,λ m' h=>?_,λ d h=>?_,λ h=>.inr (by rw[l2.nd hd2];exact h8),λ h=>?_⟩<;>rw[e] at h<;>cases h
  ·have h8':(τ.nd d).kind=8:=by rw[l2.nd hd2];exact h8
   have hd2':d<=τ.len:=by have:=l2.len;omega
   try dsimp only
   split
   ·refine Jf (hT1.up l2) i2 h8' λ ρ l3 i3=>⟨by have:=l3.len;omega,λ χ l4 i4=>?_⟩
    refine Fw (((hT1.up l2).up l3).up l4) hro i4 (by rw[l4.nd (by have:=l3.len;omega),l3.nd hd2'];exact h8') λ ψ _ l5 i5 _=>?_
    exact hK ψ _ (((l1.trans i0 i1 l2).trans i0 i2 l3 |>.trans i0 i3 l4).trans i0 i4 l5) i5
   ·exact hK τ _ (l1.trans i0 i1 l2) i2
end
end

end Go.Proofs.YtbajmaoegmbfgaaGreat
