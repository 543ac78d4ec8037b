/- Nodes of proper states. -/
import Derived.Test.YtbajmaoegmbfgaaGreatGVw1
import Derived.Test.YtbajmaoegmbfgaaGreatGBit2
import Derived.Test.YtbajmaoegmbfgaaGreatGRt1
import Derived.Test.YtbajmaoegmbfgaaGreatGTp2

set_option linter.unusedSimpArgs false
set_option linter.unusedVariables false
namespace Go.Ct
section
section
variable{gen:Int}{n c:Nat}
theorem K3(h:0<=gen):nU gen n eY.c.dv:=⟨⟨by simp[rM,Nd.own,Nd.jQ,Nd.iZ,eY,Nd.zero,aY.c,Nd.c,Nv.dv,Nv.nd],by decide,by decide,by decide,.inl rfl⟩,h,λ i hi=>by simp[eY,aY.c,Nd.c,Nv.dv] at hi,⟨by decide,bI n⟩,⟨by decide,bI n⟩,⟨by decide,bI n⟩⟩
theorem fK:Hn 0 n:=⟨Int.le_refl _,bI n⟩
theorem We{h u:Int}{k:ByteArray}(hg:0<=gen)(hk:k.size<=64):nU gen n (dJ (({Nd.zero with kind:=4,hash:=h,key:=k,val:=u}:Nd).c [] []) c).dv :=
 ⟨⟨by simp[rM,Nd.own,Nd.jQ,Nd.iZ,Nd.zero,dJ,Nd.c,Nv.dv,Nv.nd],by simp[dJ,Nd.c,Nv.dv,Nv.nd,Nd.zero],by simp[dJ,Nd.c,Nv.dv,Nv.nd,Nd.zero],by simp[dJ,Nd.c,Nv.dv,Nv.nd,Nd.zero],.inr (.inr (.inr (.inl ⟨.inl rfl,hk⟩)))⟩,hg,λ i hi=>by simp[dJ,Nd.c,Nv.dv] at hi,fK,fK,fK⟩
theorem k9{g:Int}(hg:g<=gen)(h1:1<=g):nU gen n (dJ (({Nd.zero with kind:=2,gen:=g}:Nd).c [] []) c).dv :=
 ⟨⟨by simp[rM,Nd.own,Nd.jQ,Nd.iZ,Nd.zero,dJ,Nd.c,Nv.dv,Nv.nd],by simp[dJ,Nd.c,Nv.dv,Nv.nd,Nd.zero];omega,by simp[dJ,Nd.c,Nv.dv,Nv.nd,Nd.zero],by simp[dJ,Nd.c,Nv.dv,Nv.nd,Nd.zero],.inr (.inl ⟨rfl,h1⟩)⟩,hg,λ i hi=>by simp[dJ,Nd.c,Nv.dv] at hi,fK,fK,fK⟩
theorem Zh{b:Nat}{xs:List Int}(hg:0<=gen)(hb:BV b xs)(hx:∀r∈xs,r<=n):nU gen n (dJ (({Nd.zero with kind:=3,bm:=(b:Int)}:Nd).c xs []) c).dv :=
 ⟨⟨by simp[rM,Nd.own,Nd.jQ,Nd.iZ,Nd.zero,dJ,Nd.c,Nv.dv,Nv.nd],by simp[dJ,Nd.c,Nv.dv,Nv.nd,Nd.zero],by simp[dJ,Nd.c,Nv.dv,Nv.nd,Nd.zero];omega,by simp[dJ,Nd.c,Nv.dv,Nv.nd,Nd.zero],.inr (.inr (.inl ⟨rfl,by show(xs.length:Int)=uQ (b:Int);rw[oY hb.lt,hb.len],hb.pos⟩))⟩,hg,λ i hi=>by
  have h1:=hb.pos i hi
  have hi':i<xs.length:=hi
  refine⟨by show 0<=xs.getD i 0;omega,hx _ ?_⟩
  show xs.getD i 0∈xs
  rw[kP,List.getElem?_eq_getElem hi']
  exact List.getElem_mem hi',fK,fK,fK⟩
theorem q9{h:Int}{ys:List Pr}(hg:0<=gen)(h2:2<=ys.length)(ha:tu ys)(hs:He ys):nU gen n (dJ (({Nd.zero with kind:=6,hash:=h}:Nd).c [] ys) c).dv :=
 ⟨⟨by simp[rM,Nd.own,Nd.jQ,Nd.iZ,Nd.zero,dJ,Nd.c,Nv.dv,Nv.nd],by simp[dJ,Nd.c,Nv.dv,Nv.nd,Nd.zero],by simp[dJ,Nd.c,Nv.dv,Nv.nd,Nd.zero];omega,by simp[dJ,Nd.c,Nv.dv,Nv.nd,Nd.zero],.inr (.inr (.inr (.inr (.inl ⟨rfl,h2,ha,hs⟩))))⟩,hg,λ i hi=>by simp[dJ,Nd.c,Nv.dv] at hi,fK,fK,fK⟩
theorem Mz(h:0<=gen):fZ [eY.c,eY.c] [] gen:=by
 refine⟨by simp,h,rfl,rfl,λ i hi=>by simp at hi,λ i hi=>?_,by simp[marks,fM,jJ,eY,Nd.zero,aY.c,Nd.c,Nv.dv,Nv.nd]⟩
 simp only[List.map_cons,List.map_nil,List.length_cons,List.length_nil] at hi
 have:i=0∨i=1:=by omega
 rcases this with rfl|rfl
 ·exact K3 h
 ·exact K3 h
end
end

/- Tries of worlds: new nodes of each kind, new cells, new generations. -/
end Go.Ct
namespace Go.Proofs.YtbajmaoegmbfgaaGreat
section
open Go.Ct
def Ju(k:Int)(r:Int):CT:=if k=2 then .main r else if k=8 then .stat r else .prev r
structure lG(H:ByteArray->Nat)(σ:Kw)(n:Nv)(w:List Nat)(g:Int):Prop where
 kd:n.kind=2∨n.kind=3∨n.kind=4∨n.kind=5∨n.kind=6∨n.kind=7∨n.kind=8
 ok:nU σ.mm.gen (σ.len+1) (dJ n σ.cl).dv
 bd:mH (σ.len+1) (σ.cl+1) (dJ n σ.cl)
 k2:n.kind=2->w.length<=11
 k3:n.kind=3->w.length<=10/\(∀k:Nat,∀b,iR (dJ n σ.cl) k=some b->Kg σ (w++[k]) g b)/\(0<w.length->n.xs≠[]/\∀b,n.xs=[b]->(σ.nd b).kind=2)
 k4:n.kind=4->H n.key=n.hash.toNat
 k5:n.kind=5->0<w.length/\w.length<=11/\H n.key=n.hash.toNat/\iH n.hash.toNat w
 k6:n.kind=6->w.length=11/\iH n.hash.toNat w/\∀p∈n.ys,H p.1=n.hash.toNat
 k7:n.kind=7->dY (σ.nd n.bO)
 k8:n.kind=8->yJ σ n.bO []/\yJ σ n.new []
structure r9(σ:Kw)(n:Nv)(i:Int)(w:List Nat)(g:Int):Prop where
 ins:Hn i σ.len
 k2:n.kind=2->qR σ i w n.gen
 kp:dY n->i=0∨(qR σ i w g/\dS σ i)
 k8:n.kind=8->i=0
section
variable{H:ByteArray->Nat}{σ τ υ:Kw}{r:Int}{w:List Nat}
theorem Ya(n:Nv)(c:Nat):(dJ n c).kind=n.kind:=rfl
theorem z4{n:Nv}{i g:Int}(h:Inv H σ)(hn:lG H σ n w g)(hi:r9 σ n i w g):∃υ,Le σ υ/\Inv H υ/\υ.mm=σ.mm.push n i/\υ.nd ((σ.len+1:Nat):Int)=dJ n σ.cl/\υ.way ((σ.len+1:Nat):Int)=w/\υ.gb ((σ.len+1:Nat):Int)=g:=by
 have e:=Ux σ n i w g (Ju n.kind ((σ.len+1:Nat):Int))
 have l:=e.le
 have hnd:=yp σ n i w g (Ju n.kind ((σ.len+1:Nat):Int))
 have hway:=oc σ n i w g (Ju n.kind ((σ.len+1:Nat):Int))
 have hgb:=vu σ n i w g (Ju n.kind ((σ.len+1:Nat):Int))
 have hct:=xw σ n i w g (Ju n.kind ((σ.len+1:Nat):Int))
 have hlen:=Vo σ n i w g (Ju n.kind ((σ.len+1:Nat):Int))
 have hce:=λ h=>vk σ (n:=n) i w g (Ju n.kind ((σ.len+1:Nat):Int)) h
 have hc0:=λ h=>qd σ (n:=n) i w g (Ju n.kind ((σ.len+1:Nat):Int)) h
 have hpush:(σ.add n i w g (Ju n.kind ((σ.len+1:Nat):Int))).mm=σ.mm.push n i:=rfl
 generalize hυ:σ.add n i w g (Ju n.kind ((σ.len+1:Nat):Int))=υ at *
 have hgen:υ.mm.gen=σ.mm.gen:=by rw[hpush];rfl
 have hcl:υ.cl<=σ.cl+1:=by
  by_cases hk:n.kind=2∨n.kind=3∨n.kind=5∨n.kind=6∨n.kind=8
  ·rw[(hce hk).1];exact Nat.le_refl _
  ·rw[hc0 hk];omega
 have hcl2:(n.kind=2∨n.kind=3∨n.kind=5∨n.kind=6∨n.kind=8)->((σ.cl+1:Nat):Int)=((σ.mm.cs.length+1:Nat):Int):=λ _=>rfl
 have hnd':yf H υ ((σ.len+1:Nat):Int):=by
  refine⟨by rw[hnd];exact hn.ok.1,by rw[hnd,hgen];exact hn.ok.2.1,?_,λ k=>?_,λ k=>?_,λ k=>?_,λ k=>?_,λ k=>?_,λ k=>?_,λ k=>?_⟩
  ·rw[hnd,hlen]
   have hb:=hn.bd
   by_cases hk:n.kind=2∨n.kind=3∨n.kind=5∨n.kind=6∨n.kind=8
   ·rw[(hce hk).1];exact hb
   ·rw[hc0 hk]
    refine⟨hb.bO,hb.exp,hb.new,hb.br,?_,?_,?_,hb.bm,hb.hash⟩
    ·show(if n.kind=2 then _ else(0:Int))<=_;rw[if_neg (by omega)];exact bI _
    ·show(if n.kind=3∨n.kind=5∨n.kind=6 then _ else(0:Int))<=_;rw[if_neg (by omega)];exact bI _
    ·show(if n.kind=8 then _ else(0:Int))<=_;rw[if_neg (by omega)];exact bI _
  all_goals rw[hnd] at k ⊢
  all_goals rw[Ya] at k
  ·rw[hway]
   refine⟨hn.k2 k,?_⟩
   rw[show(dJ n σ.cl).main=((σ.cl+1:Nat):Int) from if_pos k,hct]
   exact⟨by omega,if_pos k⟩
  ·rw[hway,hgb]
   obtain⟨h1,h2,h3⟩:=hn.k3 k
   rw[show(dJ n σ.cl).prev=((σ.cl+1:Nat):Int) from if_pos (.inl k),hct]
   refine⟨h1,λ k' b hb=>(h2 k' b hb).up l,λ h0=>⟨(h3 h0).1,λ b hb=>?_⟩,by omega,?_⟩
   ·have:=(h3 h0).2 b hb
    rw[l.nd (fD (N:=σ.mm.nodes) (i:=b) (by rw[this];decide)).2];exact this
   ·unfold Ju;rw[if_neg (by omega),if_neg (by omega)]
  ·exact hn.k4 k
  ·rw[hway]
   obtain⟨h1,h2,h3,h4⟩:=hn.k5 k
   rw[show(dJ n σ.cl).prev=((σ.cl+1:Nat):Int) from if_pos (.inr (.inl k)),hct]
   refine⟨h1,h2,h3,h4,by omega,?_⟩
   unfold Ju;rw[if_neg (by omega),if_neg (by omega)]
  ·rw[hway]
   obtain⟨h1,h2,h3⟩:=hn.k6 k
   rw[show(dJ n σ.cl).prev=((σ.cl+1:Nat):Int) from if_pos (.inr (.inr k)),hct]
   refine⟨h1,h2,h3,by omega,?_⟩
   unfold Ju;rw[if_neg (by omega),if_neg (by omega)]
  ·have:=hn.k7 k
   show dY (υ.nd n.bO)
   rw[l.nd (jT this).2];exact this
  ·obtain⟨h1,h2⟩:=hn.k8 k
   rw[show(dJ n σ.cl).status=((σ.cl+1:Nat):Int) from if_pos k,hct]
   refine⟨h1.up l,h2.up l,by omega,?_⟩
   unfold Ju;rw[if_neg (by omega),if_pos k]
 refine⟨υ,l,?_,hpush,hnd,hway,hgb⟩
 rw[<- hυ]
 refine ov h hn.ok hi.ins (by rw[hυ];exact hnd') (λ hc=>?_) (by rw[hυ];exact hcl)
 rw[hυ] at hc ⊢
 have hk:n.kind=2∨n.kind=3∨n.kind=5∨n.kind=6∨n.kind=8:=Classical.byContradiction λ hk=>by have:=hc0 hk;omega
 have hv:=(hce hk).2
 refine⟨by rw[hv];exact hi.ins.1,by rw[hv,hlen];have:=hi.ins.2;omega,λ i' k=>?_,λ m k=>?_,λ d k=>?_,λ k=>?_,λ k=>?_⟩<;>rw[hct] at k<;>rw[hv]
 ·unfold Ju at k
  split at k
  ·rename_i h2
   cases k
   rw[hnd,hway]
   exact⟨h2,(hi.k2 h2).up l⟩
  ·split at k<;>cases k
 ·unfold Ju at k
  split at k
  ·cases k
  ·split at k
   ·cases k
   ·cases k
    have hm:dY n:=by unfold dY;omega
    rw[hnd]
    refine⟨hm,?_⟩
    rcases hi.kp hm with h1|⟨h1,h2⟩
    ·exact .inl h1
    ·exact .inr (.inl ⟨by rw[hway,hgb];exact h1.up l,dS.up h h1.1 h2 l⟩)
 ·unfold Ju at k
  split at k
  ·cases k
  ·split at k
   ·rename_i h8
    exact .inl (hi.k8 h8)
   ·cases k
 ·unfold Ju at k
  split at k
  ·cases k
  ·split at k<;>cases k
 ·unfold Ju at k
  split at k
  ·cases k
  ·split at k<;>cases k
end
end

/- Tries of worlds: the nodes that the procedures make. -/
section
open Go.Ct
theorem eG{a b:Int}{p:Prop}(k:a=b)(h:a≠b:=by decide):p:=absurd k h
theorem rv{gen h u:Int}{k:ByteArray}{n c:Nat}(hg:0<=gen)(hk:k.size<=64):nU gen n (dJ (({Nd.zero with kind:=5,hash:=h,key:=k,val:=u}:Nd).c [] []) c).dv :=
 ⟨⟨by simp[rM,Nd.own,Nd.jQ,Nd.iZ,Nd.zero,dJ,Nd.c,Nv.dv,Nv.nd],by simp[dJ,Nd.c,Nv.dv,Nv.nd,Nd.zero],by simp[dJ,Nd.c,Nv.dv,Nv.nd,Nd.zero];omega,by simp[dJ,Nd.c,Nv.dv,Nv.nd,Nd.zero],.inr (.inr (.inr (.inl ⟨.inr rfl,hk⟩)))⟩,hg,λ i hi=>by simp[dJ,Nd.c,Nv.dv] at hi,fK,fK,fK⟩
theorem rq{gen p:Int}{n c:Nat}(hg:0<=gen)(h1:1<=p)(h2:p<=n):nU gen n (dJ (xV p) c).dv :=
 ⟨⟨by simp[rM,Nd.own,Nd.jQ,Nd.iZ,Nd.zero,dJ,Nd.c,Nv.dv,Nv.nd,xV],by simp[dJ,Nd.c,Nv.dv,Nv.nd,Nd.zero,xV],by simp[dJ,Nd.c,Nv.dv,Nv.nd,Nd.zero,xV],by simp[dJ,Nd.c,Nv.dv,Nv.nd,Nd.zero,xV],.inr (.inr (.inr (.inr (.inr (.inr ⟨rfl,h1⟩)))))⟩,hg,λ i hi=>by simp[dJ,Nd.c,Nv.dv,xV] at hi,⟨by show 0<=p;omega,h2⟩,fK,fK⟩
theorem oz{gen a b d:Int}{n c:Nat}(hg:0<=gen)(a1:1<=a)(a2:a<=n)(b1:1<=b)(b2:b<=n)(d1:1<=d)(d2:d<=n):nU gen n (dJ (Ck a b d) c).dv :=
 ⟨⟨by simp[rM,Nd.own,Nd.jQ,Nd.iZ,Nd.zero,dJ,Nd.c,Nv.dv,Nv.nd,Ck],by simp[dJ,Nd.c,Nv.dv,Nv.nd,Nd.zero,Ck],by simp[dJ,Nd.c,Nv.dv,Nv.nd,Nd.zero,Ck],by simp[dJ,Nd.c,Nv.dv,Nv.nd,Nd.zero,Ck];omega,.inr (.inr (.inr (.inr (.inr (.inl ⟨rfl,b1,d1,a1⟩)))))⟩,hg,λ i hi=>by simp[dJ,Nd.c,Nv.dv,Ck] at hi,⟨by show 0<=a;omega,a2⟩,⟨by show 0<=b;omega,b2⟩,⟨by show 0<=d;omega,d2⟩⟩
theorem yQ{n:Nv}{N c:Nat}(h1:n.bO<=N)(h2:n.exp<=N)(h3:n.new<=N)(h4:∀r∈n.xs,r<=N)(hb:∃b:Nat,n.bm=(b:Int)/\b<18446744073709551616)(hh:∃b:Nat,n.hash=(b:Int)/\b<18446744073709551616):mH N (c+1) (dJ n c) :=
 ⟨h1,h2,h3,h4,by show(if n.kind=2 then((c+1:Nat):Int) else 0)<=((c+1:Nat):Int);split<;>omega,by show(if n.kind=3∨n.kind=5∨n.kind=6 then((c+1:Nat):Int) else 0)<=((c+1:Nat):Int);split<;>omega,by show(if n.kind=8 then((c+1:Nat):Int) else 0)<=((c+1:Nat):Int);split<;>omega,hb,hh⟩
theorem jD:∃b:Nat,(0:Int)=(b:Int)/\b<18446744073709551616:=⟨0,rfl,by decide⟩
section
variable{H:ByteArray->Nat}{σ τ υ:Kw}{r:Int}{w:List Nat}
theorem cj{p g:Int}(h:Inv H σ)(hp:dY (σ.nd p)):lG H σ (xV p) w g:=by
 have hr:1<=p/\p<=σ.len:=jT hp
 exact⟨.inr (.inr (.inr (.inr (.inr (.inl rfl))))),rq h.gen hr.1 (by have:=hr.2;omega),yQ (by show p<=_;have:=hr.2;omega) (bI _) (bI _) (λ r hr=>nomatch hr) jD jD,
  λ k=>eG (a:=7) (b:=2) k,λ k=>eG (a:=7) (b:=3) k,λ k=>eG (a:=7) (b:=4) k,λ k=>eG (a:=7) (b:=5) k,λ k=>eG (a:=7) (b:=6) k,λ _=>hp,λ k=>eG (a:=7) (b:=8) k⟩
theorem Jl{g g':Int}(hw:w.length<=11)(h1:1<=g')(h2:g'<=σ.mm.gen):lG H σ (sO g') w g :=
 ⟨.inl rfl,k9 h2 h1,yQ (bI _) (bI _) (bI _) (λ r hr=>nomatch hr) jD jD,
  λ _=>hw,λ k=>eG (a:=2) (b:=3) k,λ k=>eG (a:=2) (b:=4) k,λ k=>eG (a:=2) (b:=5) k,λ k=>eG (a:=2) (b:=6) k,λ k=>eG (a:=2) (b:=7) k,λ k=>eG (a:=2) (b:=8) k⟩
theorem ic{a b d g:Int}(h:Inv H σ)(ha:yJ σ a [])(hb1:1<=b)(hb2:b<=σ.len)(hd:yJ σ d []):lG H σ (Ck a b d) w g:=by
 have h1:=ha.in
 have h2:=hd.in
 exact⟨.inr (.inr (.inr (.inr (.inr (.inr rfl))))),oz h.gen h1.1 (by omega) hb1 (by omega) h2.1 (by omega),yQ (by show a<=_;omega) (by show b<=_;omega) (by show d<=_;omega) (λ r hr=>nomatch hr) jD jD,
  λ k=>eG (a:=8) (b:=2) k,λ k=>eG (a:=8) (b:=3) k,λ k=>eG (a:=8) (b:=4) k,λ k=>eG (a:=8) (b:=5) k,λ k=>eG (a:=8) (b:=6) k,λ k=>eG (a:=8) (b:=7) k,λ _=>⟨ha,hd⟩⟩
theorem Ad{h:Nat}{k:ByteArray}{u g:Int}(i:Inv H σ)(hk:k.size<=64)(hh:H k=h)(hl:h<18446744073709551616):lG H σ (xZ h k u) w g :=
 ⟨.inr (.inr (.inl rfl)),We i.gen hk,yQ (bI _) (bI _) (bI _) (λ r hr=>nomatch hr) jD ⟨h,rfl,hl⟩,
  λ k=>eG (a:=4) (b:=2) k,λ k=>eG (a:=4) (b:=3) k,λ _=>hh,λ k=>eG (a:=4) (b:=5) k,λ k=>eG (a:=4) (b:=6) k,λ k=>eG (a:=4) (b:=7) k,λ k=>eG (a:=4) (b:=8) k⟩
def gu(h:Int)(k:ByteArray)(u:Int):Nv:=({Nd.zero with kind:=5,hash:=h,key:=k,val:=u}:Nd).c [] []
theorem Gc{h:Nat}{k:ByteArray}{u g:Int}(i:Inv H σ)(hk:k.size<=64)(hh:H k=h)(hl:h<18446744073709551616)(w0:0<w.length)(w1:w.length<=11)(hu:iH h w):lG H σ (gu h k u) w g :=
 ⟨.inr (.inr (.inr (.inl rfl))),rv i.gen hk,yQ (bI _) (bI _) (bI _) (λ r hr=>nomatch hr) jD ⟨h,rfl,hl⟩,
  λ k=>eG (a:=5) (b:=2) k,λ k=>eG (a:=5) (b:=3) k,λ k=>eG (a:=5) (b:=4) k,λ _=>⟨w0,w1,hh,hu⟩,λ k=>eG (a:=5) (b:=6) k,λ k=>eG (a:=5) (b:=7) k,λ k=>eG (a:=5) (b:=8) k⟩
def Uf(h:Int)(ys:List Pr):Nv:=({Nd.zero with kind:=6,hash:=h}:Nd).c [] ys
theorem Ha{h:Nat}{ys:List Pr}{g:Int}(i:Inv H σ)(h2:2<=ys.length)(ha:tu ys)(hs:He ys)(hh:∀p∈ys,H p.1=h)(hl:h<18446744073709551616)(w1:w.length=11)(hu:iH h w):lG H σ (Uf h ys) w g :=
 ⟨.inr (.inr (.inr (.inr (.inl rfl)))),q9 i.gen h2 ha hs,yQ (bI _) (bI _) (bI _) (λ r hr=>nomatch hr) jD ⟨h,rfl,hl⟩,
  λ k=>eG (a:=6) (b:=2) k,λ k=>eG (a:=6) (b:=3) k,λ k=>eG (a:=6) (b:=4) k,λ k=>eG (a:=6) (b:=5) k,λ _=>⟨w1,hu,hh⟩,λ k=>eG (a:=6) (b:=7) k,λ k=>eG (a:=6) (b:=8) k⟩
theorem Uc{m:Nat->Option Int}{x:Int}:∀{k:Nat},x∈qZ m k->∃j,j<k/\m j=some x
 | 0,h=>nomatch h
 | k+1,h=>by
  simp only[qZ,List.mem_append,Option.mem_toList] at h
  rcases h with h|h
  ·obtain⟨j,h1,h2⟩:=Uc h
   exact⟨j,by omega,h2⟩
  ·exact⟨k,Nat.lt_succ_self k,h⟩
theorem Mk{b:Nat}{xs:List Int}(h:BV b xs){x:Int}(hx:x∈xs):∃j,j<64/\sY b xs j=some x:=by
 rw[<- (aa h).2] at hx
 exact Uc hx
theorem Tc{b:Nat}{xs:List Int}(h:BV b xs){k:Nat}(hk:k<64){x:Int}(hx:sY b xs k=some x):x∈xs:=by
 unfold sY at hx
 split at hx
 ·rename_i hb
  cases hx
  exact Bx (by rw[h.len];exact oA hk hb)
 ·cases hx
theorem wx{v:Nv}{k:Nat}(hk:64<=k):iR v (k:Int)=none:=by
 unfold iR Dk
 rw[Ub _ (by omega)]
 simp
theorem Ke{v:Nv}(hcv:CV v.nd v.xs v.ys){k:Nat}(hk:k<64):iR v (k:Int)=sY v.bm.toNat v.xs k:=Vf hcv hk
theorem Kg.le{g g' b:Int}(h:Kg σ w g b)(hg:g<=g'):Kg σ w g' b:=by
 rcases h with h|h
 ·exact .inl h
 ·exact .inr ⟨h.1,h.2.1,Int.le_trans h.2.2 hg⟩
theorem Kg.in{g b:Int}(h:Kg σ w g b):1<=b/\b<=σ.len:=by
 rcases h with h|h<;>exact fD (N:=σ.mm.nodes) (i:=b) (by rw[h.1];decide)
theorem mT{b:Nat}{xs:List Int}{g:Int}(i:Inv H σ)(hb:BV b xs)(hx:∀k:Nat,k<64->∀r,sY b xs k=some r->Kg σ (w++[k]) g r)(hw:w.length<=10)(h0:0<w.length->xs≠[]/\∀b,xs=[b]->(σ.nd b).kind=2):lG H σ (Dz b xs) w g:=by
 have hr:∀r∈xs,1<=r/\r<=σ.len:=λ r hr=>by
  obtain⟨j,h1,h2⟩:=Mk hb hr
  exact(hx j h1 r h2).in
 have hok:nU σ.mm.gen (σ.len+1) (dJ (Dz b xs) σ.cl).dv:=Zh i.gen hb (λ r h=>by have:=(hr r h).2;omega)
 refine⟨.inr (.inl rfl),hok,yQ (bI _) (bI _) (bI _) (λ r h=>by have:=(hr r h).2;omega) ⟨b,rfl,hb.lt⟩ jD,
  λ k=>eG (a:=3) (b:=2) k,λ _=>⟨hw,λ k r hk=>?_,h0⟩,λ k=>eG (a:=3) (b:=4) k,λ k=>eG (a:=3) (b:=5) k,λ k=>eG (a:=3) (b:=6) k,λ k=>eG (a:=3) (b:=7) k,λ k=>eG (a:=3) (b:=8) k⟩
 by_cases h64:k<64
 ·rw[Ke (v:=dJ (Dz b xs) σ.cl) ⟨rfl,hok.1⟩ h64] at hk
  exact hx k h64 r hk
 ·rw[wx (by omega)] at hk
  cases hk
structure oH(σ:Kw)(m:Int)(w:List Nat)(g:Int)(b:Nat)(xs:List Int):Prop where
 kd:(σ.nd m).kind=3
 bm:(σ.nd m).bm.toNat=b
 el:(σ.nd m).xs=xs
 cv:CV (σ.nd m).nd (σ.nd m).xs (σ.nd m).ys
 bv:BV b xs
 wl:w.length<=10
 br:∀k:Nat,k<64->∀r,sY b xs k=some r->Kg σ (w++[k]) g r
 ne:0<w.length->xs≠[]/\∀b,xs=[b]->(σ.nd b).kind=2
theorem qR.Js{m g:Int}(i:Inv H σ)(h:qR σ m w g)(k:(σ.nd m).kind=3):oH σ m w g (σ.nd m).bm.toNat (σ.nd m).xs:=by
 have hr:=h.in
 have hn:=i.nd m hr.1 hr.2
 obtain⟨h1,h2,h3,_⟩:=hn.k3 k
 have hcv:CV (σ.nd m).nd (σ.nd m).xs (σ.nd m).ys:=⟨k,hn.valid⟩
 obtain⟨b,hb1,hb2⟩:=hn.bd.bm
 have hb:(σ.nd m).bm.toNat=b:=by omega
 rw[h.2.1] at h1 h2 h3
 refine⟨k,rfl,rfl,hcv,by rw[hb];exact hcv.bv hb1 hb2,h1,λ k' hk r hr=>?_,h3⟩
 exact(h2 k' r (by rw[Ke hcv hk];exact hr)).le h.2.2
theorem oH.lk{m g:Int}{b:Nat}{xs:List Int}(h:oH σ m w g b xs){k:Nat}(hk:k<64):iR (σ.nd m) (k:Int)=sY b xs k:=by rw[Ke h.cv hk,h.bm,h.el]
theorem oH.up{m g r:Int}{b:Nat}{xs:List Int}(h:oH σ m w g b xs){k:Nat}(hk:k<64){o:Int}(ho:iR (σ.nd m) (k:Int)=some o)(hr:1<=r):Za (σ.nd m) (k:Int) r=Dz b (yL xs (fX b k) r)/\BV b (yL xs (fX b k) r)/\(∀j,j<64->sY b (yL xs (fX b k) r) j=Mo (sY b xs) k (some r) j)/\fX b k<xs.length:=by
 rw[h.lk hk] at ho
 have hb:b.testBit k=true:=by unfold sY at ho;split at ho;assumption;cases ho
 have hu:=Qn h.bv hk hb hr
 refine⟨?_,hu.1,hu.2,by rw[h.bv.len];exact oA hk hb⟩
 unfold Za lx
 rw[if_pos ⟨h.cv,hr,by rw[h.bm,pS b hk];exact hb⟩,h.bm,h.el,nQ b hk]
 rfl
theorem oH.ins{m g r:Int}{b:Nat}{xs:List Int}(h:oH σ m w g b xs){k:Nat}(hk:k<64)(ho:iR (σ.nd m) (k:Int)=none)(hr:1<=r):ju (σ.nd m) (k:Int) r=Dz (b ||| 2^k) (tR xs (fX b k) r)/\BV (b ||| 2^k) (tR xs (fX b k) r)/\(∀j,j<64->sY (b ||| 2^k) (tR xs (fX b k) r) j=Mo (sY b xs) k (some r) j)/\(tR xs (fX b k) r).length=xs.length+1:=by
 rw[h.lk hk] at ho
 have hb:b.testBit k=false:=by
  unfold sY at ho
  cases hb:b.testBit k with
  | false=>rfl
  | true=>rw[hb] at ho;simp at ho
 have hu:=Gi h.bv hk hb hr
 refine⟨?_,hu.1,hu.2,E7 (by rw[h.bv.len];have:=vI b k (64-k);rwa [show k+(64-k)=64 by omega] at this) r⟩
 unfold ju bn
 rw[if_pos ⟨h.cv,⟨by omega,by omega⟩,hr,by rw[h.bm,pS b hk];exact hb⟩,h.bm,h.el,nQ b hk,oX b hk]
 rfl
theorem oH.re{m g:Int}{b:Nat}{xs:List Int}(h:oH σ m w g b xs){k:Nat}(hk:k<64){o:Int}(ho:iR (σ.nd m) (k:Int)=some o):Mq (σ.nd m) (k:Int)=Dz (b ^^^ (b &&& 2^k)) (rQ xs (fX b k))/\BV (b ^^^ (b &&& 2^k)) (rQ xs (fX b k))/\(∀j,j<64->sY (b ^^^ (b &&& 2^k)) (rQ xs (fX b k)) j=Mo (sY b xs) k none j)/\(rQ xs (fX b k)).length+1=xs.length:=by
 rw[h.lk hk] at ho
 have hb:b.testBit k=true:=by unfold sY at ho;split at ho;assumption;cases ho
 have hu:=Rh h.bv hk hb
 refine⟨?_,hu.1,hu.2,Fl (by rw[h.bv.len];exact oA hk hb)⟩
 unfold Mq ls
 rw[if_pos ⟨h.cv,by rw[h.bm,pS b hk];exact hb⟩,h.bm,h.el,nQ b hk,sX b hk]
 rfl
end
end

end Go.Proofs.YtbajmaoegmbfgaaGreat
