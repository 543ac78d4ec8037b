/- Nodes of proper states. -/
import Derived.Test.YtbajmaoegmbfgaaGreatGVw1
import Derived.Test.YtbajmaoegmbfgaaGreatGBr
import Derived.Test.YtbajmaoegmbfgaaGreatGWo4
import Derived.Test.YtbajmaoegmbfgaaGreatGTp2

set_option linter.unusedSimpArgs false
set_option linter.unusedVariables false
namespace Go.Ct
section
section
variable{gen:Int}{n c:Nat}
theorem K2(h:0<=gen):lZ gen n eW.c.dv:=⟨⟨by simp[qZ,Nd.own,Nd.jG,Nd.iT,eW,Nd.zero,aU.c,Nd.c,Nv.dv,Nv.nd],by decide,by decide,by decide,.inl rfl⟩,h,λ i hi=>by simp[eW,aU.c,Nd.c,Nv.dv] at hi,⟨by decide,bH n⟩,⟨by decide,bH n⟩,⟨by decide,bH n⟩⟩
theorem fG:C8 0 n:=⟨Int.le_refl _,bH n⟩
theorem Vx{h u:Int}{k:ByteArray}(hg:0<=gen)(hk:k.size<=64):lZ gen n (dR (({Nd.zero with kind:=4,hash:=h,key:=k,val:=u}:Nd).c [] []) c).dv :=
 ⟨⟨by simp[qZ,Nd.own,Nd.jG,Nd.iT,Nd.zero,dR,Nd.c,Nv.dv,Nv.nd],by simp[dR,Nd.c,Nv.dv,Nv.nd,Nd.zero],by simp[dR,Nd.c,Nv.dv,Nv.nd,Nd.zero],by simp[dR,Nd.c,Nv.dv,Nv.nd,Nd.zero],.inr (.inr (.inr (.inl ⟨.inl rfl,hk⟩)))⟩,hg,λ i hi=>by simp[dR,Nd.c,Nv.dv] at hi,fG,fG,fG⟩
theorem ia{g:Int}(hg:g<=gen)(h1:1<=g):lZ gen n (dR (({Nd.zero with kind:=2,gen:=g}:Nd).c [] []) c).dv :=
 ⟨⟨by simp[qZ,Nd.own,Nd.jG,Nd.iT,Nd.zero,dR,Nd.c,Nv.dv,Nv.nd],by simp[dR,Nd.c,Nv.dv,Nv.nd,Nd.zero];omega,by simp[dR,Nd.c,Nv.dv,Nv.nd,Nd.zero],by simp[dR,Nd.c,Nv.dv,Nv.nd,Nd.zero],.inr (.inl ⟨rfl,h1⟩)⟩,hg,λ i hi=>by simp[dR,Nd.c,Nv.dv] at hi,fG,fG,fG⟩
theorem Zh{b:Nat}{xs:List Int}(hg:0<=gen)(hb:BV b xs)(hx:∀r∈xs,r<=n):lZ gen n (dR (({Nd.zero with kind:=3,bm:=(b:Int)}:Nd).c xs []) c).dv :=
 ⟨⟨by simp[qZ,Nd.own,Nd.jG,Nd.iT,Nd.zero,dR,Nd.c,Nv.dv,Nv.nd],by simp[dR,Nd.c,Nv.dv,Nv.nd,Nd.zero],by simp[dR,Nd.c,Nv.dv,Nv.nd,Nd.zero];omega,by simp[dR,Nd.c,Nv.dv,Nv.nd,Nd.zero],.inr (.inr (.inl ⟨rfl,by show(xs.length:Int)=yF (b:Int);rw[xC hb.lt,hb.len],hb.pos⟩))⟩,hg,λ i hi=>by
  have h1:=hb.pos i hi
  have hi':i<xs.length:=hi
  refine⟨by show 0<=xs.getD i 0;omega,hx _ ?_⟩
  show xs.getD i 0∈xs
  rw[jY,List.getElem?_eq_getElem hi']
  exact List.getElem_mem hi',fG,fG,fG⟩
theorem pj{h:Int}{ys:List Pr}(hg:0<=gen)(h2:2<=ys.length)(ha:s5 ys)(hs:Gs ys):lZ gen n (dR (({Nd.zero with kind:=6,hash:=h}:Nd).c [] ys) c).dv :=
 ⟨⟨by simp[qZ,Nd.own,Nd.jG,Nd.iT,Nd.zero,dR,Nd.c,Nv.dv,Nv.nd],by simp[dR,Nd.c,Nv.dv,Nv.nd,Nd.zero],by simp[dR,Nd.c,Nv.dv,Nv.nd,Nd.zero];omega,by simp[dR,Nd.c,Nv.dv,Nv.nd,Nd.zero],.inr (.inr (.inr (.inr (.inl ⟨rfl,h2,ha,hs⟩))))⟩,hg,λ i hi=>by simp[dR,Nd.c,Nv.dv] at hi,fG,fG,fG⟩
theorem Pb(h:0<=gen):fT [eW.c,eW.c] [] gen:=by
 refine⟨by simp,h,rfl,rfl,λ i hi=>by simp at hi,λ i hi=>?_,by simp[marks,eH,fR,eW,Nd.zero,aU.c,Nd.c,Nv.dv,Nv.nd]⟩
 simp only[List.map_cons,List.map_nil,List.length_cons,List.length_nil] at hi
 have:i=0∨i=1:=by omega
 rcases this with rfl|rfl
 ·exact K2 h
 ·exact K2 h
end
end

/- Tries of worlds: new nodes of each kind, new cells, new generations. -/
end Go.Ct
namespace Go.Proofs.YtbajmaoegmbfgaaGreat
section
open Go.Ct
def Ll(k:Int)(r:Int):CT:=if k=2 then .main r else if k=8 then .stat r else .prev r
structure kY(H:ByteArray->Nat)(σ:Kw)(n:Nv)(w:List Nat)(g:Int):Prop where
 kd:n.kind=2∨n.kind=3∨n.kind=4∨n.kind=5∨n.kind=6∨n.kind=7∨n.kind=8
 ok:lZ σ.mm.gen (σ.len+1) (dR n σ.cl).dv
 bd:lD (σ.len+1) (σ.cl+1) (dR n σ.cl)
 k2:n.kind=2->w.length<=11
 k3:n.kind=3->w.length<=10/\(∀k:Nat,∀b,lN (dR n σ.cl) k=some b->Kp σ (w++[k]) g b)/\(0<w.length->n.xs≠[]/\∀b,n.xs=[b]->(σ.nd b).kind=2)
 k4:n.kind=4->H n.key=n.hash.toNat
 k5:n.kind=5->0<w.length/\w.length<=11/\H n.key=n.hash.toNat/\iC n.hash.toNat w
 k6:n.kind=6->w.length=11/\iC n.hash.toNat w/\∀p∈n.ys,H p.1=n.hash.toNat
 k7:n.kind=7->cI (σ.nd n.bC)
 k8:n.kind=8->wW σ n.bC []/\wW σ n.new []
structure ko(σ:Kw)(n:Nv)(i:Int)(w:List Nat)(g:Int):Prop where
 ins:C8 i σ.len
 k2:n.kind=2->pP σ i w n.gen
 kp:cI n->i=0∨(pP σ i w g/\dO σ i)
 k8:n.kind=8->i=0
section
variable{H:ByteArray->Nat}{σ τ υ:Kw}{r:Int}{w:List Nat}
theorem Xv(n:Nv)(c:Nat):(dR n c).kind=n.kind:=rfl
theorem yx{n:Nv}{i g:Int}(h:Inv H σ)(hn:kY H σ n w g)(hi:ko σ n i w g):∃υ,Le σ υ/\Inv H υ/\υ.mm=σ.mm.push n i/\υ.nd ((σ.len+1:Nat):Int)=dR n σ.cl/\υ.way ((σ.len+1:Nat):Int)=w/\υ.gb ((σ.len+1:Nat):Int)=g:=by
 have e:=To σ n i w g (Ll n.kind ((σ.len+1:Nat):Int))
 have l:=e.le
 have hnd:=xw σ n i w g (Ll n.kind ((σ.len+1:Nat):Int))
 have hway:=l7 σ n i w g (Ll n.kind ((σ.len+1:Nat):Int))
 have hgb:=yg σ n i w g (Ll n.kind ((σ.len+1:Nat):Int))
 have hct:=u9 σ n i w g (Ll n.kind ((σ.len+1:Nat):Int))
 have hlen:=Vu σ n i w g (Ll n.kind ((σ.len+1:Nat):Int))
 have hce:=λ h=>ur σ (n:=n) i w g (Ll n.kind ((σ.len+1:Nat):Int)) h
 have hc0:=λ h=>lb σ (n:=n) i w g (Ll n.kind ((σ.len+1:Nat):Int)) h
 have hpush:(σ.add n i w g (Ll n.kind ((σ.len+1:Nat):Int))).mm=σ.mm.push n i:=rfl
 generalize hυ:σ.add n i w g (Ll n.kind ((σ.len+1:Nat):Int))=υ at *
 have hgen:υ.mm.gen=σ.mm.gen:=by rw[hpush];rfl
 have hcl:υ.cl<=σ.cl+1:=by
  by_cases hk:n.kind=2∨n.kind=3∨n.kind=5∨n.kind=6∨n.kind=8
  ·rw[(hce hk).1];exact Nat.le_refl _
  ·rw[hc0 hk];omega
 have hcl2:(n.kind=2∨n.kind=3∨n.kind=5∨n.kind=6∨n.kind=8)->((σ.cl+1:Nat):Int)=((σ.mm.cs.length+1:Nat):Int):=λ _=>rfl
 have hnd':xp H υ ((σ.len+1:Nat):Int):=by
  refine⟨by rw[hnd];exact hn.ok.1,by rw[hnd,hgen];exact hn.ok.2.1,?_,λ k=>?_,λ k=>?_,λ k=>?_,λ k=>?_,λ k=>?_,λ k=>?_,λ k=>?_⟩
  ·rw[hnd,hlen]
   have hb:=hn.bd
   by_cases hk:n.kind=2∨n.kind=3∨n.kind=5∨n.kind=6∨n.kind=8
   ·rw[(hce hk).1];exact hb
   ·rw[hc0 hk]
    refine⟨hb.bC,hb.exp,hb.new,hb.br,?_,?_,?_,hb.bm,hb.hash⟩
    ·show(if n.kind=2 then _ else(0:Int))<=_;rw[if_neg (by omega)];exact bH _
    ·show(if n.kind=3∨n.kind=5∨n.kind=6 then _ else(0:Int))<=_;rw[if_neg (by omega)];exact bH _
    ·show(if n.kind=8 then _ else(0:Int))<=_;rw[if_neg (by omega)];exact bH _
  all_goals rw[hnd] at k ⊢
  all_goals rw[Xv] at k
  ·rw[hway]
   refine⟨hn.k2 k,?_⟩
   rw[show(dR n σ.cl).main=((σ.cl+1:Nat):Int) from if_pos k,hct]
   exact⟨by omega,if_pos k⟩
  ·rw[hway,hgb]
   obtain⟨h1,h2,h3⟩:=hn.k3 k
   rw[show(dR n σ.cl).prev=((σ.cl+1:Nat):Int) from if_pos (.inl k),hct]
   refine⟨h1,λ k' b hb=>(h2 k' b hb).up l,λ h0=>⟨(h3 h0).1,λ b hb=>?_⟩,by omega,?_⟩
   ·have:=(h3 h0).2 b hb
    rw[l.nd (fD (N:=σ.mm.nodes) (i:=b) (by rw[this];decide)).2];exact this
   ·unfold Ll;rw[if_neg (by omega),if_neg (by omega)]
  ·exact hn.k4 k
  ·rw[hway]
   obtain⟨h1,h2,h3,h4⟩:=hn.k5 k
   rw[show(dR n σ.cl).prev=((σ.cl+1:Nat):Int) from if_pos (.inr (.inl k)),hct]
   refine⟨h1,h2,h3,h4,by omega,?_⟩
   unfold Ll;rw[if_neg (by omega),if_neg (by omega)]
  ·rw[hway]
   obtain⟨h1,h2,h3⟩:=hn.k6 k
   rw[show(dR n σ.cl).prev=((σ.cl+1:Nat):Int) from if_pos (.inr (.inr k)),hct]
   refine⟨h1,h2,h3,by omega,?_⟩
   unfold Ll;rw[if_neg (by omega),if_neg (by omega)]
  ·have:=hn.k7 k
   show cI (υ.nd n.bC)
   rw[l.nd (jL this).2];exact this
  ·obtain⟨h1,h2⟩:=hn.k8 k
   rw[show(dR n σ.cl).status=((σ.cl+1:Nat):Int) from if_pos k,hct]
   refine⟨h1.up l,h2.up l,by omega,?_⟩
   unfold Ll;rw[if_neg (by omega),if_pos k]
 refine⟨υ,l,?_,hpush,hnd,hway,hgb⟩
 rw[<- hυ]
 refine o0 h hn.ok hi.ins (by rw[hυ];exact hnd') (λ hc=>?_) (by rw[hυ];exact hcl)
 rw[hυ] at hc ⊢
 have hk:n.kind=2∨n.kind=3∨n.kind=5∨n.kind=6∨n.kind=8:=Classical.byContradiction λ hk=>by have:=hc0 hk;omega
 have hv:=(hce hk).2
 refine⟨by rw[hv];exact hi.ins.1,by rw[hv,hlen];have:=hi.ins.2;omega,λ i' k=>?_,λ m k=>?_,λ d k=>?_,λ k=>?_,λ k=>?_⟩<;>rw[hct] at k<;>rw[hv]
 ·unfold Ll at k
  split at k
  ·rename_i h2
   cases k
   rw[hnd,hway]
   exact⟨h2,(hi.k2 h2).up l⟩
  ·split at k<;>cases k
 ·unfold Ll at k
  split at k
  ·cases k
  ·split at k
   ·cases k
   ·cases k
    have hm:cI n:=by unfold cI;omega
    rw[hnd]
    refine⟨hm,?_⟩
    rcases hi.kp hm with h1|⟨h1,h2⟩
    ·exact .inl h1
    ·exact .inr (.inl ⟨by rw[hway,hgb];exact h1.up l,dO.up h h1.1 h2 l⟩)
 ·unfold Ll at k
  split at k
  ·cases k
  ·split at k
   ·rename_i h8
    exact .inl (hi.k8 h8)
   ·cases k
 ·unfold Ll at k
  split at k
  ·cases k
  ·split at k<;>cases k
 ·unfold Ll at k
  split at k
  ·cases k
  ·split at k<;>cases k
end
end

/- Tries of worlds: the nodes that the procedures make. -/
section
open Go.Ct
theorem eC{a b:Int}{p:Prop}(k:a=b)(h:a≠b:=by decide):p:=absurd k h
theorem qa{gen h u:Int}{k:ByteArray}{n c:Nat}(hg:0<=gen)(hk:k.size<=64):lZ gen n (dR (({Nd.zero with kind:=5,hash:=h,key:=k,val:=u}:Nd).c [] []) c).dv :=
 ⟨⟨by simp[qZ,Nd.own,Nd.jG,Nd.iT,Nd.zero,dR,Nd.c,Nv.dv,Nv.nd],by simp[dR,Nd.c,Nv.dv,Nv.nd,Nd.zero],by simp[dR,Nd.c,Nv.dv,Nv.nd,Nd.zero];omega,by simp[dR,Nd.c,Nv.dv,Nv.nd,Nd.zero],.inr (.inr (.inr (.inl ⟨.inr rfl,hk⟩)))⟩,hg,λ i hi=>by simp[dR,Nd.c,Nv.dv] at hi,fG,fG,fG⟩
theorem py{gen p:Int}{n c:Nat}(hg:0<=gen)(h1:1<=p)(h2:p<=n):lZ gen n (dR (yI p) c).dv :=
 ⟨⟨by simp[qZ,Nd.own,Nd.jG,Nd.iT,Nd.zero,dR,Nd.c,Nv.dv,Nv.nd,yI],by simp[dR,Nd.c,Nv.dv,Nv.nd,Nd.zero,yI],by simp[dR,Nd.c,Nv.dv,Nv.nd,Nd.zero,yI],by simp[dR,Nd.c,Nv.dv,Nv.nd,Nd.zero,yI],.inr (.inr (.inr (.inr (.inr (.inr ⟨rfl,h1⟩)))))⟩,hg,λ i hi=>by simp[dR,Nd.c,Nv.dv,yI] at hi,⟨by show 0<=p;omega,h2⟩,fG,fG⟩
theorem l9{gen a b d:Int}{n c:Nat}(hg:0<=gen)(a1:1<=a)(a2:a<=n)(b1:1<=b)(b2:b<=n)(d1:1<=d)(d2:d<=n):lZ gen n (dR (Cb a b d) c).dv :=
 ⟨⟨by simp[qZ,Nd.own,Nd.jG,Nd.iT,Nd.zero,dR,Nd.c,Nv.dv,Nv.nd,Cb],by simp[dR,Nd.c,Nv.dv,Nv.nd,Nd.zero,Cb],by simp[dR,Nd.c,Nv.dv,Nv.nd,Nd.zero,Cb],by simp[dR,Nd.c,Nv.dv,Nv.nd,Nd.zero,Cb];omega,.inr (.inr (.inr (.inr (.inr (.inl ⟨rfl,b1,d1,a1⟩)))))⟩,hg,λ i hi=>by simp[dR,Nd.c,Nv.dv,Cb] at hi,⟨by show 0<=a;omega,a2⟩,⟨by show 0<=b;omega,b2⟩,⟨by show 0<=d;omega,d2⟩⟩
theorem yR{n:Nv}{N c:Nat}(h1:n.bC<=N)(h2:n.exp<=N)(h3:n.new<=N)(h4:∀r∈n.xs,r<=N)(hb:∃b:Nat,n.bm=(b:Int)/\b<18446744073709551616)(hh:∃b:Nat,n.hash=(b:Int)/\b<18446744073709551616):lD N (c+1) (dR n c) :=
 ⟨h1,h2,h3,h4,by show(if n.kind=2 then((c+1:Nat):Int) else 0)<=((c+1:Nat):Int);split<;>omega,by show(if n.kind=3∨n.kind=5∨n.kind=6 then((c+1:Nat):Int) else 0)<=((c+1:Nat):Int);split<;>omega,by show(if n.kind=8 then((c+1:Nat):Int) else 0)<=((c+1:Nat):Int);split<;>omega,hb,hh⟩
theorem iX:∃b:Nat,(0:Int)=(b:Int)/\b<18446744073709551616:=⟨0,rfl,by decide⟩
section
variable{H:ByteArray->Nat}{σ τ υ:Kw}{r:Int}{w:List Nat}
theorem dr{p g:Int}(h:Inv H σ)(hp:cI (σ.nd p)):kY H σ (yI p) w g:=by
 have hr:1<=p/\p<=σ.len:=jL hp
 exact⟨.inr (.inr (.inr (.inr (.inr (.inl rfl))))),py h.gen hr.1 (by have:=hr.2;omega),yR (by show p<=_;have:=hr.2;omega) (bH _) (bH _) (λ r hr=>nomatch hr) iX iX,
  λ k=>eC (a:=7) (b:=2) k,λ k=>eC (a:=7) (b:=3) k,λ k=>eC (a:=7) (b:=4) k,λ k=>eC (a:=7) (b:=5) k,λ k=>eC (a:=7) (b:=6) k,λ _=>hp,λ k=>eC (a:=7) (b:=8) k⟩
theorem Js{g g':Int}(hw:w.length<=11)(h1:1<=g')(h2:g'<=σ.mm.gen):kY H σ (qU g') w g :=
 ⟨.inl rfl,ia h2 h1,yR (bH _) (bH _) (bH _) (λ r hr=>nomatch hr) iX iX,
  λ _=>hw,λ k=>eC (a:=2) (b:=3) k,λ k=>eC (a:=2) (b:=4) k,λ k=>eC (a:=2) (b:=5) k,λ k=>eC (a:=2) (b:=6) k,λ k=>eC (a:=2) (b:=7) k,λ k=>eC (a:=2) (b:=8) k⟩
theorem ei{a b d g:Int}(h:Inv H σ)(ha:wW σ a [])(hb1:1<=b)(hb2:b<=σ.len)(hd:wW σ d []):kY H σ (Cb a b d) w g:=by
 have h1:=ha.in
 have h2:=hd.in
 exact⟨.inr (.inr (.inr (.inr (.inr (.inr rfl))))),l9 h.gen h1.1 (by omega) hb1 (by omega) h2.1 (by omega),yR (by show a<=_;omega) (by show b<=_;omega) (by show d<=_;omega) (λ r hr=>nomatch hr) iX iX,
  λ k=>eC (a:=8) (b:=2) k,λ k=>eC (a:=8) (b:=3) k,λ k=>eC (a:=8) (b:=4) k,λ k=>eC (a:=8) (b:=5) k,λ k=>eC (a:=8) (b:=6) k,λ k=>eC (a:=8) (b:=7) k,λ _=>⟨ha,hd⟩⟩
theorem Ar{h:Nat}{k:ByteArray}{u g:Int}(i:Inv H σ)(hk:k.size<=64)(hh:H k=h)(hl:h<18446744073709551616):kY H σ (G8 h k u) w g :=
 ⟨.inr (.inr (.inl rfl)),Vx i.gen hk,yR (bH _) (bH _) (bH _) (λ r hr=>nomatch hr) iX ⟨h,rfl,hl⟩,
  λ k=>eC (a:=4) (b:=2) k,λ k=>eC (a:=4) (b:=3) k,λ _=>hh,λ k=>eC (a:=4) (b:=5) k,λ k=>eC (a:=4) (b:=6) k,λ k=>eC (a:=4) (b:=7) k,λ k=>eC (a:=4) (b:=8) k⟩
def Yp(h:Int)(k:ByteArray)(u:Int):Nv:=({Nd.zero with kind:=5,hash:=h,key:=k,val:=u}:Nd).c [] []
theorem Hd{h:Nat}{k:ByteArray}{u g:Int}(i:Inv H σ)(hk:k.size<=64)(hh:H k=h)(hl:h<18446744073709551616)(w0:0<w.length)(w1:w.length<=11)(hu:iC h w):kY H σ (Yp h k u) w g :=
 ⟨.inr (.inr (.inr (.inl rfl))),qa i.gen hk,yR (bH _) (bH _) (bH _) (λ r hr=>nomatch hr) iX ⟨h,rfl,hl⟩,
  λ k=>eC (a:=5) (b:=2) k,λ k=>eC (a:=5) (b:=3) k,λ k=>eC (a:=5) (b:=4) k,λ _=>⟨w0,w1,hh,hu⟩,λ k=>eC (a:=5) (b:=6) k,λ k=>eC (a:=5) (b:=7) k,λ k=>eC (a:=5) (b:=8) k⟩
def Uv(h:Int)(ys:List Pr):Nv:=({Nd.zero with kind:=6,hash:=h}:Nd).c [] ys
theorem E2{h:Nat}{ys:List Pr}{g:Int}(i:Inv H σ)(h2:2<=ys.length)(ha:s5 ys)(hs:Gs ys)(hh:∀p∈ys,H p.1=h)(hl:h<18446744073709551616)(w1:w.length=11)(hu:iC h w):kY H σ (Uv h ys) w g :=
 ⟨.inr (.inr (.inr (.inr (.inl rfl)))),pj i.gen h2 ha hs,yR (bH _) (bH _) (bH _) (λ r hr=>nomatch hr) iX ⟨h,rfl,hl⟩,
  λ k=>eC (a:=6) (b:=2) k,λ k=>eC (a:=6) (b:=3) k,λ k=>eC (a:=6) (b:=4) k,λ k=>eC (a:=6) (b:=5) k,λ _=>⟨w1,hu,hh⟩,λ k=>eC (a:=6) (b:=7) k,λ k=>eC (a:=6) (b:=8) k⟩
theorem Uz{m:Nat->Option Int}{x:Int}:∀{k:Nat},x∈qL m k->∃j,j<k/\m j=some x
 | 0,h=>nomatch h
 | k+1,h=>by
  simp only[qL,List.mem_append,Option.mem_toList] at h
  rcases h with h|h
  ·obtain⟨j,h1,h2⟩:=Uz h
   exact⟨j,by omega,h2⟩
  ·exact⟨k,Nat.lt_succ_self k,h⟩
theorem Jy{b:Nat}{xs:List Int}(h:BV b xs){x:Int}(hx:x∈xs):∃j,j<64/\tG b xs j=some x:=by
 rw[<- (Z3 h).2] at hx
 exact Uz hx
theorem Tf{b:Nat}{xs:List Int}(h:BV b xs){k:Nat}(hk:k<64){x:Int}(hx:tG b xs k=some x):x∈xs:=by
 unfold tG at hx
 split at hx
 ·rename_i hb
  cases hx
  exact Bw (by rw[h.len];exact nT hk hb)
 ·cases hx
theorem yf{v:Nv}{k:Nat}(hk:64<=k):lN v (k:Int)=none:=by
 unfold lN K7
 rw[Vd _ (by omega)]
 simp
theorem Lk{v:Nv}(hcv:CV v.nd v.xs v.ys){k:Nat}(hk:k<64):lN v (k:Int)=tG v.bm.toNat v.xs k:=S9 hcv hk
theorem Kp.le{g g' b:Int}(h:Kp σ w g b)(hg:g<=g'):Kp σ w g' b:=by
 rcases h with h|h
 ·exact .inl h
 ·exact .inr ⟨h.1,h.2.1,Int.le_trans h.2.2 hg⟩
theorem Kp.in{g b:Int}(h:Kp σ w g b):1<=b/\b<=σ.len:=by
 rcases h with h|h<;>exact fD (N:=σ.mm.nodes) (i:=b) (by rw[h.1];decide)
theorem mM{b:Nat}{xs:List Int}{g:Int}(i:Inv H σ)(hb:BV b xs)(hx:∀k:Nat,k<64->∀r,tG b xs k=some r->Kp σ (w++[k]) g r)(hw:w.length<=10)(h0:0<w.length->xs≠[]/\∀b,xs=[b]->(σ.nd b).kind=2):kY H σ (Hv b xs) w g:=by
 have hr:∀r∈xs,1<=r/\r<=σ.len:=λ r hr=>by
  obtain⟨j,h1,h2⟩:=Jy hb hr
  exact(hx j h1 r h2).in
 have hok:lZ σ.mm.gen (σ.len+1) (dR (Hv b xs) σ.cl).dv:=Zh i.gen hb (λ r h=>by have:=(hr r h).2;omega)
 refine⟨.inr (.inl rfl),hok,yR (bH _) (bH _) (bH _) (λ r h=>by have:=(hr r h).2;omega) ⟨b,rfl,hb.lt⟩ iX,
  λ k=>eC (a:=3) (b:=2) k,λ _=>⟨hw,λ k r hk=>?_,h0⟩,λ k=>eC (a:=3) (b:=4) k,λ k=>eC (a:=3) (b:=5) k,λ k=>eC (a:=3) (b:=6) k,λ k=>eC (a:=3) (b:=7) k,λ k=>eC (a:=3) (b:=8) k⟩
 by_cases h64:k<64
 ·rw[Lk (v:=dR (Hv b xs) σ.cl) ⟨rfl,hok.1⟩ h64] at hk
  exact hx k h64 r hk
 ·rw[yf (by omega)] at hk
  cases hk
structure nU(σ:Kw)(m:Int)(w:List Nat)(g:Int)(b:Nat)(xs:List Int):Prop where
 kd:(σ.nd m).kind=3
 bm:(σ.nd m).bm.toNat=b
 el:(σ.nd m).xs=xs
 cv:CV (σ.nd m).nd (σ.nd m).xs (σ.nd m).ys
 bv:BV b xs
 wl:w.length<=10
 br:∀k:Nat,k<64->∀r,tG b xs k=some r->Kp σ (w++[k]) g r
 ne:0<w.length->xs≠[]/\∀b,xs=[b]->(σ.nd b).kind=2
theorem pP.Ik{m g:Int}(i:Inv H σ)(h:pP σ m w g)(k:(σ.nd m).kind=3):nU σ m w g (σ.nd m).bm.toNat (σ.nd m).xs:=by
 have hr:=h.in
 have hn:=i.nd m hr.1 hr.2
 obtain⟨h1,h2,h3,_⟩:=hn.k3 k
 have hcv:CV (σ.nd m).nd (σ.nd m).xs (σ.nd m).ys:=⟨k,hn.valid⟩
 obtain⟨b,hb1,hb2⟩:=hn.bd.bm
 have hb:(σ.nd m).bm.toNat=b:=by omega
 rw[h.2.1] at h1 h2 h3
 refine⟨k,rfl,rfl,hcv,by rw[hb];exact hcv.bv hb1 hb2,h1,λ k' hk r hr=>?_,h3⟩
 exact(h2 k' r (by rw[Lk hcv hk];exact hr)).le h.2.2
theorem nU.lk{m g:Int}{b:Nat}{xs:List Int}(h:nU σ m w g b xs){k:Nat}(hk:k<64):lN (σ.nd m) (k:Int)=tG b xs k:=by rw[Lk h.cv hk,h.bm,h.el]
theorem nU.up{m g r:Int}{b:Nat}{xs:List Int}(h:nU σ m w g b xs){k:Nat}(hk:k<64){o:Int}(ho:lN (σ.nd m) (k:Int)=some o)(hr:1<=r):Z0 (σ.nd m) (k:Int) r=Hv b (zF xs (fZ b k) r)/\BV b (zF xs (fZ b k) r)/\(∀j,j<64->tG b (zF xs (fZ b k) r) j=Mh (tG b xs) k (some r) j)/\fZ b k<xs.length:=by
 rw[h.lk hk] at ho
 have hb:b.testBit k=true:=by unfold tG at ho;split at ho;assumption;cases ho
 have hu:=Ru h.bv hk hb hr
 refine⟨?_,hu.1,hu.2,by rw[h.bv.len];exact nT hk hb⟩
 unfold Z0 ka
 rw[if_pos ⟨h.cv,hr,by rw[h.bm,oZ b hk];exact hb⟩,h.bm,h.el,mY b hk]
 rfl
theorem nU.ins{m g r:Int}{b:Nat}{xs:List Int}(h:nU σ m w g b xs){k:Nat}(hk:k<64)(ho:lN (σ.nd m) (k:Int)=none)(hr:1<=r):vo (σ.nd m) (k:Int) r=Hv (b ||| 2^k) (uS xs (fZ b k) r)/\BV (b ||| 2^k) (uS xs (fZ b k) r)/\(∀j,j<64->tG (b ||| 2^k) (uS xs (fZ b k) r) j=Mh (tG b xs) k (some r) j)/\(uS xs (fZ b k) r).length=xs.length+1:=by
 rw[h.lk hk] at ho
 have hb:b.testBit k=false:=by
  unfold tG at ho
  cases hb:b.testBit k with
  | false=>rfl
  | true=>rw[hb] at ho;simp at ho
 have hu:=Ej h.bv hk hb hr
 refine⟨?_,hu.1,hu.2,Hq (by rw[h.bv.len];have:=vA b k (64-k);rwa [show k+(64-k)=64 by omega] at this) r⟩
 unfold vo j9
 rw[if_pos ⟨h.cv,⟨by omega,by omega⟩,hr,by rw[h.bm,oZ b hk];exact hb⟩,h.bm,h.el,mY b hk,oN b hk]
 rfl
theorem nU.re{m g:Int}{b:Nat}{xs:List Int}(h:nU σ m w g b xs){k:Nat}(hk:k<64){o:Int}(ho:lN (σ.nd m) (k:Int)=some o):Mc (σ.nd m) (k:Int)=Hv (b ^^^ (b &&& 2^k)) (rS xs (fZ b k))/\BV (b ^^^ (b &&& 2^k)) (rS xs (fZ b k))/\(∀j,j<64->tG (b ^^^ (b &&& 2^k)) (rS xs (fZ b k)) j=Mh (tG b xs) k none j)/\(rS xs (fZ b k)).length+1=xs.length:=by
 rw[h.lk hk] at ho
 have hb:b.testBit k=true:=by unfold tG at ho;split at ho;assumption;cases ho
 have hu:=Q4 h.bv hk hb
 refine⟨?_,hu.1,hu.2,Ef (by rw[h.bv.len];exact nT hk hb)⟩
 unfold Mc kh
 rw[if_pos ⟨h.cv,by rw[h.bm,oZ b hk];exact hb⟩,h.bm,h.el,mY b hk,sA b hk]
 rfl
end
end

/- Tries of worlds: READ, SETTLE, ROOT, HELP, DECIDE, GCAS, RDCSS keep the labels. -/
section
open Go.Ct
def ctR(ro:Bool):CT:=if ro=true then .rort else .root
def dH(σ:Kw)(t:fY):Prop:=1<=t.root/\t.root<=σ.cl/\σ.ct t.root=ctR t.ro
def vT(σ:Kw)(i:Int)(w:List Nat)(g:Int):Prop:=wW σ i w/\(σ.nd i).gen=g
section
variable{H:ByteArray->Nat}{Q:Rs->Kw->Prop}{σ τ υ:Kw}{i m p g:Int}{w:List Nat}{t:fY}
theorem dH.up(h:dH σ t)(l:Le σ τ):dH τ t:=⟨h.1,by have:=h.2.1;have:=l.cl;omega,by rw[l.ct _ h.2.1];exact h.2.2⟩
theorem vT.up(h:vT σ i w g)(l:Le σ τ):vT τ i w g:=⟨h.1.up l,by rw[l.nd h.1.in.2];exact h.2⟩
theorem vT.in(h:vT σ i w g):1<=i/\i<=σ.len:=h.1.in
theorem vT.ra(i1:Inv H σ)(h:vT σ i w g):pP σ (σ.ce (σ.nd i).main) w g:=by
 have hc:=i1.Av h.1.1
 have:=((i1.ce _ hc.1 hc.2.1).main i hc.2.2).2
 rwa [h.1.2,h.2] at this
theorem y7{cs:List Int}{c o:Int}(h1:1<=c)(h2:c<=cs.length)(h:¬jV cs c o):bU cs c≠o:=λ e=>h ⟨h1,h2,by unfold bU at e;rwa [if_pos ⟨h1,h2⟩] at e⟩
theorem vV{c o v:Int}{k:Bool->Tr}(h1:1<=c)(h2:c<=σ.cl)(i0:Inv H σ)(hset:∀τ,Le σ τ->Inv H τ->jV τ.mm.cs c o->Vt τ c o v)
  (hk:∀τ b,Le σ τ->Inv H τ->(b=true->τ.ce c=v)->(b=false->τ.ce c≠o)->WT H Q (k b) τ):WT H Q (.jZ c o v k) σ:=λ τ l1 i1 =>
 ⟨λ hc=>by
  obtain⟨υ,l2,i2,e2,e3⟩:=tj i1 hc (hset τ l1 i1 hc)
  exact⟨υ,l2,i2,e2,hk υ true (l1.trans i0 i1 l2) i2 (λ _=>e3) (λ h=>nomatch h)⟩,
 λ hc=>hk τ false l1 i1 (λ h=>nomatch h) (λ _=>y7 h1 (by have:=l1.cl;simp only[Kw.cl] at *;omega) hc)⟩
theorem fE{n:Nv}{c:Int}{k:Int->Tr}(i0:Inv H σ)(hn:kY H σ n w g)(hc:ko σ n c w g)
  (hk:∀υ r cl,Le σ υ->Inv H υ->r=((σ.len+1:Nat):Int)->υ.mm=σ.mm.push n c->υ.nd r=dR n cl->υ.way r=w->υ.gb r=g->1<=r->r<=υ.len->WT H Q (k r) υ):WT H Q (.alloc n c k) σ:=by
 obtain⟨υ,l2,i2,e2,e3,e4,e5⟩:=yx i0 hn hc
 refine⟨υ,l2,i2,e2,hk υ _ σ.cl l2 i2 rfl e2 e3 e4 e5 (by omega) ?_⟩
 have:υ.len=σ.len+1:=by simp only[Kw.len,e2,Mm.push,List.length_append,List.length_cons,List.length_nil]
 omega
structure Oe(σ:Kw)(m p:Int):Prop where
 mkd:cI (σ.nd m)
 pk:cI (σ.nd p)
 pm:oS σ m p
 ce:σ.ce (σ.nd m).prev=p∨σ.ce (σ.nd m).prev=0∨((σ.nd (σ.ce (σ.nd m).prev)).kind=7/\(σ.nd (σ.ce (σ.nd m).prev)).bC=p)
theorem oS.up(i0:Inv H σ)(hm:cI (σ.nd m))(h:oS σ m p)(l:Le σ τ):oS τ m p:=by
 have hr:1<=m/\m<=σ.len:=jL hm
 exact⟨by rw[l.way m hr.2,l.gb m hr.2];exact h.1.up l,dO.up i0 h.1.1 h.2 l⟩
theorem Oe.up(i0:Inv H σ)(i1:Inv H τ)(h:Oe σ m p)(l:Le σ τ):Oe τ m p:=by
 have hr:1<=m/\m<=σ.len:=jL h.mkd
 have hp:1<=p/\p<=σ.len:=jL h.pk
 have hc:=i0.pA h.mkd
 have hx:=l.nxt hc.1 hc.2.1 hc.2.2
 refine⟨by rw[l.nd hr.2];exact h.mkd,by rw[l.nd hp.2];exact h.pk,h.pm.up i0 h.mkd l,?_⟩
 rw[l.nd hr.2]
 rcases h.ce with e|e|⟨e1,e2⟩
 ·rw[e] at hx
  rcases hx.2 h.pk with h1|h1|h1
  ·exact .inl h1
  ·exact .inr (.inl h1)
  ·exact .inr (.inr h1)
 ·rw[e] at hx
  exact .inr (.inl (hx.1 (jX (.inl (wF _)))))
 ·have e3:=hx.1 (jX (.inr (.inl e1)))
  rw[e3]
  rw[l.nd (fD (N:=σ.mm.nodes) (i:=σ.ce (σ.nd m).prev) (by rw[e1];decide)).2]
  exact .inr (.inr ⟨e1,e2⟩)
theorem Oe.cell(i0:Inv H σ)(h:Oe σ m p):1<=(σ.nd m).prev/\(σ.nd m).prev<=σ.cl/\σ.ct (σ.nd m).prev=.prev m:=i0.pA h.mkd
abbrev KM(H:ByteArray->Nat)(Q:Rs->Kw->Prop)(σ:Kw)(w:List Nat)(g:Int)(K:Int->Tr):Prop:=∀τ v,Le σ τ->Inv H τ->pP τ v w g->dO τ v->WT H Q (K v) τ
theorem KM.up{K:Int->Tr}(i0:Inv H σ)(i1:Inv H τ)(h:KM H Q σ w g K)(l:Le σ τ):KM H Q τ w g K:=λ υ v l2 i2=>h υ v (l.trans i0 i1 l2) i2
theorem Yt{K:Int->Tr}(i0:Inv H σ)(hi:vT σ i w g)(hm:pP σ m w g)(h7:(σ.nd p).kind=7)(hp:oS σ m (σ.nd p).bC)(hK:KM H Q σ w g K):WT H Q (O8 i m p K) σ:=by
 have hr:1<=p/\p<=σ.len:=fD (N:=σ.mm.nodes) (i:=p) (by rw[h7];decide)
 have hc:=i0.Av hi.1.1
 have hold:pP σ (σ.nd p).bC w g:=by have:=hp.1;rw[hm.2.1] at this;exact this.le hm.2.2
 refine⟨hi.in.2,hr.2,vV hc.1 hc.2.1 i0 (λ τ l1 i1 _=>?_) (λ τ b l1 i1 _ _=>⟨by have:=l1.len;have:=hr.2;omega,?_⟩)⟩
 ·have e:τ.ct (σ.nd i).main=.main i:=by rw[l1.ct _ hc.2.1];exact hc.2.2
  have ho:=hold.up l1
  refine⟨by have:=ho.in;omega,ho.in.2,λ i' h=>?_,λ m' h=>?_,λ d h=>?_,λ h=>?_,λ h=>?_⟩<;>rw[e] at h
  ·cases h
   have:=hi.up l1
   rw[this.1.2,this.2];exact ho
  ·cases h
  ·cases h
  ·cases h
  ·cases h
 ·rw[l1.nd hr.2]
  exact hK τ _ l1 i1 (hold.up l1) (dO.up i0 hold.1 hp.2 l1)
theorem Gp{K:Int->Tr}(i0:Inv H σ)(hi:vT σ i w g)(hm:pP σ m w g)(hp:Oe σ m p)(hd:σ.ce (σ.nd m).prev≠p)(hK:KM H Q σ w g K):WT H Q (jJ i m K) σ:=by
 have hc:=hp.cell i0
 have hr:=hm.in
 refine⟨hr.2,λ τ l1 i1=>?_⟩
 have hp1:=hp.up i0 i1 l1
 have e1:(τ.nd m).prev=(σ.nd m).prev:=by rw[l1.nd hr.2]
 have hce:=hp1.ce
 rw[e1] at hce
 have hne:τ.ce (σ.nd m).prev≠p:=by
  have hx:=l1.nxt hc.1 hc.2.1 hc.2.2
  have hk:¬cI (σ.nd (σ.ce (σ.nd m).prev)):=by
   rcases hp.ce with e|e|e
   ·exact absurd e hd
   ·rw[e];exact jX (.inl (wF _))
   ·exact jX (.inr (.inl e.1))
  rw[hx.1 hk]
  exact hd
 try dsimp only
 split
 ·rename_i e0
  refine hK τ m l1 i1 (hm.up l1) ?_
  unfold dO
  rw[e1];exact e0
 ·rename_i e0
  rcases hce with e|e|⟨e,e2⟩
  ·exact absurd e hne
  ·exact absurd e e0
  ·exact Yt i1 (hi.up l1) (hm.up l1) e (by rw[e2];exact hp1.pm) (hK.up i0 i1 l1)
theorem Tk{K:Int->Tr}{c:Bool}(i0:Inv H σ)(hi:vT σ i w g)(hm:pP σ m w g)(hp:Oe σ m p)(hK:KM H Q σ w g K):WT H Q (pX i m p c K) σ:=by
 have hr:=hm.in
 have hc:=hp.cell i0
 unfold pX
 try dsimp only
 split
 ·refine⟨hr.2,vV hc.1 hc.2.1 i0 (λ τ l1 i1 _=>?_) (λ τ b l1 i1 ht hf=>?_)⟩
  ·have e:τ.ct (σ.nd m).prev=.prev m:=by rw[l1.ct _ hc.2.1];exact hc.2.2
   refine⟨Int.le_refl _,bH _,λ i' h=>?_,λ m' h=>⟨(hp.up i0 i1 l1).pk,.inl rfl⟩,λ d h=>.inl rfl,λ h=>?_,λ h=>?_⟩<;>rw[e] at h<;>cases h
  ·refine Gp i1 (hi.up l1) (hm.up l1) (hp.up i0 i1 l1) ?_ (hK.up i0 i1 l1)
   rw[l1.nd hr.2]
   cases b with
   | true=>rw[ht rfl];have:=(jL hp.pk).1;omega
   | false=>exact hf rfl
 ·refine⟨hr.2,fE (w:=[]) (g:=0) i0 (dr i0 hp.pk) ⟨⟨Int.le_refl _,bH _⟩,λ k=>eC (a:=7) (b:=2) k,λ k=>absurd k (jX (.inr (.inl rfl))),λ _=>rfl⟩ (λ υ f cl l1 i1 _ _ e1 _ _ hf1 hf2=>?_)⟩
  ·have hp1:=hp.up i0 i1 l1
   have hc1:=hp1.cell i1
   have e0:(υ.nd m).prev=(σ.nd m).prev:=by rw[l1.nd hr.2]
   rw[e0] at hc1
   have h7:(υ.nd f).kind=7/\(υ.nd f).bC=p:=by rw[e1];exact⟨rfl,rfl⟩
   refine vV hc1.1 hc1.2.1 i1 (λ τ l2 i2 _=>?_) (λ τ b l2 i2 ht hf=>?_)
   ·have e:τ.ct (σ.nd m).prev=.prev m:=by rw[l2.ct _ hc1.2.1];exact hc1.2.2
    refine⟨by omega,by have:=l2.len;omega,λ i' h=>?_,λ m' h=>⟨(hp1.up i1 i2 l2).pk,.inr ?_⟩,λ d h=>?_,λ h=>?_,λ h=>?_⟩
    ·rw[e] at h;cases h
    ·rw[l2.nd hf2];exact h7
    ·rw[e] at h;cases h
    ·rw[e] at h;cases h
    ·rw[e] at h;cases h
   ·have hp2:=hp1.up i1 i2 l2
    refine Gp i2 ((hi.up l1).up l2) ((hm.up l1).up l2) hp2 ?_ ((hK.up i0 i1 l1).up i1 i2 l2)
    rw[l2.nd (by have:=l1.len;omega),e0]
    cases b with
    | true =>
     rw[ht rfl]
     intro e
     have:=hp1.pk
     rw[<- e] at this
     exact absurd this (jX (.inr (.inl h7.1)))
    | false=>exact hf rfl
abbrev KR(H:ByteArray->Nat)(Q:Rs->Kw->Prop)(σ:Kw)(K:Int->Tr):Prop:=∀τ r,Le σ τ->Inv H τ->wW τ r []->WT H Q (K r) τ
theorem KR.up{K:Int->Tr}(i0:Inv H σ)(i1:Inv H τ)(h:KR H Q σ K)(l:Le σ τ):KR H Q τ K:=λ υ v l2 i2=>h υ v (l.trans i0 i1 l2) i2
theorem Inv.desc(i0:Inv H σ){v:Int}(h:(σ.nd v).kind=8):v<=σ.len/\wW σ (σ.nd v).bC []/\wW σ (σ.nd v).new []/\1<=(σ.nd v).status/\(σ.nd v).status<=σ.cl/\σ.ct (σ.nd v).status=.stat v:=by
 have hr:1<=v/\v<=σ.len:=fD (N:=σ.mm.nodes) (i:=v) (by rw[h];decide)
 have hn:=i0.nd v hr.1 hr.2
 have h8:=hn.k8 h
 exact⟨hr.2,h8.1,h8.2.1,h8.2.2.1,hn.bd.status,h8.2.2.2⟩
theorem dH.rw(hT:dH σ t)(hr:t.ro=false):σ.ct t.root=.root:=by rw[hT.2.2,hr];rfl
theorem Et{v s:Int}{K:Int->Tr}(hT:dH σ t)(hro:t.ro=false)(i0:Inv H σ)(h:(σ.nd v).kind=8)(hK:KR H Q σ K):WT H Q (qN t v s K) σ:=by
 have hd:=i0.desc h
 refine⟨hd.1,?_⟩
 show WT H Q (.jZ t.root v (if s=1 then(σ.nd v).new else(σ.nd v).bC) λ _=>K (if s=1 then(σ.nd v).new else(σ.nd v).bC)) σ
 have hw:wW σ (if s=1 then(σ.nd v).new else(σ.nd v).bC) []:=by split;exact hd.2.2.1;exact hd.2.1
 generalize (if s=1 then(σ.nd v).new else(σ.nd v).bC)=w at hw ⊢
 refine vV hT.1 hT.2.1 i0 (λ τ l1 i1 _=>?_) (λ τ b l1 i1 _ _=>hK τ w l1 i1 (hw.up l1))
 have e:=(hT.up l1).rw hro
 have hw1:=hw.up l1
 refine⟨by have:=hw1.in;omega,hw1.in.2,λ i' h=>?_,λ m' h=>?_,λ d h=>?_,λ h=>.inl hw1,λ h=>?_⟩<;>rw[e] at h<;>cases h
theorem Po{v s:Int}(i0:Inv H σ)(h:(σ.nd v).kind=8)(hs:s=1∨s=2){o:Int}(l1:Le σ τ)(i1:Inv H τ):Vt τ (σ.nd v).status o s:=by
 have hd:=i0.desc h
 have e:τ.ct (σ.nd v).status=.stat v:=by rw[l1.ct _ hd.2.2.2.2.1];exact hd.2.2.2.2.2
 refine⟨by omega,by have:=i1.two;omega,λ i' h=>?_,λ m' h=>?_,λ d h=>.inr hs,λ h=>?_,λ h=>?_⟩<;>rw[e] at h<;>cases h
theorem Zr(hT:dH σ t)(i0:Inv H σ):σ.ce t.root<=σ.len/\(wW σ (σ.ce t.root) []∨((σ.nd (σ.ce t.root)).kind=8/\t.ro=false)):=by
 have h:=i0.ce _ hT.1 hT.2.1
 refine⟨h.hi,?_⟩
 cases hr:t.ro with
 | true=>exact .inl (h.rort (by rw[hT.2.2,hr];rfl))
 | false =>
  rcases h.root (hT.rw hr) with h1|h1
  ·exact .inl h1
  ·exact .inr ⟨h1,rfl⟩
theorem dH.roI(hT:dH σ t)(i0:Inv H σ)(hr:t.ro=true):wW σ (σ.ce t.root) []:=(i0.ce _ hT.1 hT.2.1).rort (by rw[hT.2.2,hr];rfl)
theorem n8{K:Int->Tr}(hT:dH σ t)(i0:Inv H σ)(hK:KR H Q σ K):WT H Q (Jg t K) σ:=λ τ l1 i1=>by
 have hT1:=hT.up l1
 have hv:=Zr hT1 i1
 generalize τ.ce t.root=v at hv ⊢
 refine⟨hv.1,?_⟩
 try dsimp only
 split
 ·rename_i h2
  rcases hv.2 with h|h
  ·exact hK τ v l1 i1 h
  ·rw[h.1] at h2;exact absurd h2 (by decide)
 ·rename_i h2
  have h8r:(τ.nd v).kind=8/\t.ro=false:=by
   rcases hv.2 with h|h
   ·exact absurd h.1 h2
   ·exact h
  have h8:=h8r.1
  have hd:=i1.desc h8
  refine⟨hv.1,λ υ l2 i2=>?_⟩
  have h8':(υ.nd v).kind=8:=by rw[l2.nd hv.1];exact h8
  have hv':v<=υ.len:=by have:=l2.len;have:=hv.1;omega
  have hK1:=hK.up i0 i1 l1
  try dsimp only
  split
  ·refine⟨hv',vV (i2.desc h8').2.2.2.1 (i2.desc h8').2.2.2.2.1 i2 (λ ρ l3 i3 _=>Po i2 h8' (.inr rfl) l3 i3) (λ ρ b l3 i3 _ _=>⟨by have:=l3.len;omega,λ χ l4 i4=>?_⟩)⟩
   refine Et ((((hT1.up l2).up l3)).up l4) h8r.2 i4 (by rw[l4.nd (by have:=l3.len;omega),l3.nd hv'];exact h8') (((hK1.up i1 i2 l2).up i2 i3 l3).up i3 i4 l4)
  ·exact Et (hT1.up l2) h8r.2 i2 h8' (hK1.up i1 i2 l2)
theorem Ic{K:Int->Tr}(hT:dH σ t)(i0:Inv H σ)(hi:vT σ i w g)(hm:pP σ m w g)(hK:KM H Q σ w g K):WT H Q (rX t i m K) σ:=by
 have hr:=hm.in
 have hc:=i0.pA hm.1
 refine⟨hr.2,λ τ l1 i1=>?_⟩
 have e1:(τ.nd m).prev=(σ.nd m).prev:=by rw[l1.nd hr.2]
 have hc1:1<=(σ.nd m).prev/\(σ.nd m).prev<=τ.cl/\τ.ct (σ.nd m).prev=.prev m:=by rw[<- e1];exact i1.pA (hm.up l1).1
 have hce:=i1.ce _ hc1.1 hc1.2.1
 have hp:=hce.prev m hc1.2.2
 have hhi:=hce.hi
 try dsimp only
 split
 ·rename_i e0
  refine hK τ m l1 i1 (hm.up l1) ?_
  unfold dO
  rw[e1];exact e0
 ·rename_i e0
  refine⟨hhi,?_⟩
  try dsimp only
  split
  ·rename_i hk
   have hpm:oS τ m (τ.ce (σ.nd m).prev):=by
    rcases hp.2 with h|h|h
    ·exact absurd h e0
    ·exact h
    ·exact absurd hk (jX (.inr (.inl h.1)))
   have hpend:Oe τ m (τ.ce (σ.nd m).prev):=⟨hp.1,hk,hpm,.inl (by rw[e1])⟩
   try dsimp only
   split
   ·exact Tk i1 (hi.up l1) (hm.up l1) hpend (hK.up i0 i1 l1)
   ·refine n8 (hT.up l1) i1 λ υ r l2 i2 hr2=>⟨hr2.in.2,((hi.up l1).up l2).in.2,?_⟩
    exact Tk i2 ((hi.up l1).up l2) ((hm.up l1).up l2) (hpend.up i1 i2 l2) ((hK.up i0 i1 l1).up i1 i2 l2)
  ·rename_i hk
   rcases hp.2 with h|h|h
   ·exact absurd h e0
   ·exact absurd h.1.1 hk
   ·exact Yt i1 (hi.up l1) (hm.up l1) h.1 h.2 (hK.up i0 i1 l1)
theorem kJ{K:Int->Tr}(hT:dH σ t)(i0:Inv H σ)(hi:vT σ i w g)(hK:KM H Q σ w g K):WT H Q (nF t i K) σ:=⟨hi.in.2,λ τ l1 i1=>by
 have hi1:=hi.up l1
 have hm:=hi1.ra i1
 rw[l1.nd hi.in.2] at hm
 exact Ic (hT.up l1) i1 hi1 hm (hK.up i0 i1 l1)⟩
theorem Ji{v:Int}{K:Tr}(hT:dH σ t)(i0:Inv H σ)(h:(σ.nd v).kind=8)(hK:∀τ,Le σ τ->Inv H τ->WT H Q K τ):WT H Q (tF t v K) σ:=by
 have hd:=i0.desc h
 refine⟨hd.1,kJ hT i0 (g:=(σ.nd (σ.nd v).bC).gen) ⟨hd.2.1,rfl⟩ λ τ m l1 i1 _ _=>⟨by have:=l1.len;omega,by have:=l1.len;omega,?_⟩⟩
 have h8:(τ.nd v).kind=8:=by rw[l1.nd hd.1];exact h
 have hd1:=i1.desc h8
 refine vV hd1.2.2.2.1 hd1.2.2.2.2.1 i1 (λ ρ l3 i3 _=>Po i1 h8 (by split<;>simp) l3 i3) (λ ρ b l3 i3 _ _=>hK ρ (l1.trans i0 i1 l3) i3)
theorem wQ{K:Int->Tr}(hT:dH σ t)(i0:Inv H σ)(hK:KR H Q σ K):WT H Q (yA t K) σ:=λ τ l1 i1=>by
 have hT1:=hT.up l1
 have hv:=Zr hT1 i1
 generalize τ.ce t.root=v at hv ⊢
 refine⟨hv.1,?_⟩
 try dsimp only
 split
 ·rename_i h2
  rcases hv.2 with h|h
  ·exact hK τ v l1 i1 h
  ·rw[h.1] at h2;exact absurd h2 (by decide)
 ·rename_i h2
  have h8r:(τ.nd v).kind=8/\t.ro=false:=by
   rcases hv.2 with h|h
   ·exact absurd h.1 h2
   ·exact h
  have h8:=h8r.1
  refine⟨hv.1,λ υ l2 i2=>?_⟩
  have h8':(υ.nd v).kind=8:=by rw[l2.nd hv.1];exact h8
  have hv':v<=υ.len:=by have:=l2.len;have:=hv.1;omega
  have hK1:=hK.up i0 i1 l1
  try dsimp only
  split
  ·refine Ji (hT1.up l2) i2 h8' λ ρ l3 i3=>⟨by have:=l3.len;omega,λ χ l4 i4=>?_⟩
   refine Et ((((hT1.up l2).up l3)).up l4) h8r.2 i4 (by rw[l4.nd (by have:=l3.len;omega),l3.nd hv'];exact h8') (((hK1.up i1 i2 l2).up i2 i3 l3).up i3 i4 l4)
  ·exact Et (hT1.up l2) h8r.2 i2 h8' (hK1.up i1 i2 l2)
abbrev KB(H:ByteArray->Nat)(Q:Rs->Kw->Prop)(σ:Kw)(K:Bool->Tr):Prop:=∀τ b,Le σ τ->Inv H τ->WT H Q (K b) τ
theorem cz{n o:Int}(i0:Inv H σ)(hi:vT σ i w g)(hn:pP σ n w g)(l1:Le σ τ)(i1:Inv H τ):Vt τ (σ.nd i).main o n:=by
 have hc:=i0.Av hi.1.1
 have e:τ.ct (σ.nd i).main=.main i:=by rw[l1.ct _ hc.2.1];exact hc.2.2
 have hn1:=hn.up l1
 refine⟨by have:=hn1.in;omega,hn1.in.2,λ i' h=>?_,λ m' h=>?_,λ d h=>?_,λ h=>?_,λ h=>?_⟩<;>rw[e] at h
 ·cases h
  have:=hi.up l1
  rw[this.1.2,this.2];exact hn1
 ·cases h
 ·cases h
 ·cases h
 ·cases h
theorem wY{o n:Int}{K:Bool->Tr}(hT:dH σ t)(i0:Inv H σ)(hi:vT σ i w g)(hn:pP σ n w g)(hK:KB H Q σ K):WT H Q (nG t i o n K) σ:=by
 have hc:=i0.Av hi.1.1
 refine⟨hi.in.2,vV hc.1 hc.2.1 i0 (λ τ l1 i1 _=>cz i0 hi hn l1 i1) (λ τ b l1 i1 _ _=>?_)⟩
 try dsimp only
 split
 ·exact Ic (hT.up l1) i1 (hi.up l1) (hn.up l1) λ υ v l2 i2 _ _=>hK υ _ (l1.trans i0 i1 l2) i2
 ·exact hK τ _ l1 i1
theorem Fa{o e n:Int}{K:Bool->Tr}(hT:dH σ t)(hro:t.ro=false)(i0:Inv H σ)(ho:wW σ o [])(hn:wW σ n [])(he1:1<=e)(he2:e<=σ.len)(hK:KB H Q σ K):WT H Q (nL t o e n K) σ:=by
 refine fE (w:=[]) (g:=0) i0 (ei i0 ho he1 he2 hn) ⟨⟨Int.le_refl _,bH _⟩,λ k=>eC (a:=8) (b:=2) k,λ k=>absurd k (jX (.inr (.inr (.inr (.inl rfl))))),λ _=>rfl⟩ (λ υ d cl l1 i1 _ _ e1 _ _ hd1 hd2=>?_)
 ·have h8:(υ.nd d).kind=8:=by rw[e1];rfl
  have hT1:=hT.up l1
  refine vV hT1.1 hT1.2.1 i1 (λ τ l2 i2 _=>?_) (λ τ b l2 i2 _ _=>?_)
  ·have e:=(hT1.up l2).rw hro
   refine⟨by omega,by have:=l2.len;omega,λ i' h=>?_,λ m' h=>?_,λ d h=>?_,λ h=>.inr (by rw[l2.nd hd2];exact h8),λ h=>?_⟩<;>rw[e] at h<;>cases h
  ·have h8':(τ.nd d).kind=8:=by rw[l2.nd hd2];exact h8
   have hd2':d<=τ.len:=by have:=l2.len;omega
   try dsimp only
   split
   ·refine Ji (hT1.up l2) i2 h8' λ ρ l3 i3=>⟨by have:=l3.len;omega,λ χ l4 i4=>?_⟩
    refine Et (((hT1.up l2).up l3).up l4) hro i4 (by rw[l4.nd (by have:=l3.len;omega),l3.nd hd2'];exact h8') λ ψ _ l5 i5 _=>?_
    exact hK ψ _ (((l1.trans i0 i1 l2).trans i0 i2 l3 |>.trans i0 i3 l4).trans i0 i4 l5) i5
   ·exact hK τ _ (l1.trans i0 i1 l2) i2
end
end

end Go.Proofs.YtbajmaoegmbfgaaGreat
