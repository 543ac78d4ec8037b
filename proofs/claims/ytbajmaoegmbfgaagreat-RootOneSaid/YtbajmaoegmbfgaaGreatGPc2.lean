/- Merged. -/
import Derived.Test.YtbajmaoegmbfgaaGreatGBr6
import Derived.Test.YtbajmaoegmbfgaaGreatGBitsE
import Derived.Test.YtbajmaoegmbfgaaGreatGKw1
import Derived.Test.YtbajmaoegmbfgaaGreatGRn1
set_option linter.unusedSimpArgs false
set_option linter.unusedVariables false
namespace Go.Ct
section
section
variable{gen:Int}{n c:Nat}
theorem K0(h:0<=gen):mT gen n fA.c.dv:=⟨⟨by simp[rW,Nd.own,Nd.jT,Nd.jD,fA,Nd.zero,aU.c,Nd.c,Nv.dv,Nv.nd],by decide,by decide,by decide,.inl rfl⟩,h,λ i hi=>by simp[fA,aU.c,Nd.c,Nv.dv] at hi,⟨by decide,bH n⟩,⟨by decide,bH n⟩,⟨by decide,bH n⟩⟩
theorem fO:Ds 0 n:=⟨Int.le_refl _,bH n⟩
theorem Wp{h u:Int}{k:ByteArray}(hg:0<=gen)(hk:k.size<=64):mT gen n (cX (({Nd.zero with kind:=4,hash:=h,key:=k,val:=u}:Nd).c [] []) c).dv :=
 ⟨⟨by simp[rW,Nd.own,Nd.jT,Nd.jD,Nd.zero,cX,Nd.c,Nv.dv,Nv.nd],by simp[cX,Nd.c,Nv.dv,Nv.nd,Nd.zero],by simp[cX,Nd.c,Nv.dv,Nv.nd,Nd.zero],by simp[cX,Nd.c,Nv.dv,Nv.nd,Nd.zero],.inr (.inr (.inr (.inl ⟨.inl rfl,hk⟩)))⟩,hg,λ i hi=>by simp[cX,Nd.c,Nv.dv] at hi,fO,fO,fO⟩
theorem j9{g:Int}(hg:g<=gen)(h1:1<=g):mT gen n (cX (({Nd.zero with kind:=2,gen:=g}:Nd).c [] []) c).dv :=
 ⟨⟨by simp[rW,Nd.own,Nd.jT,Nd.jD,Nd.zero,cX,Nd.c,Nv.dv,Nv.nd],by simp[cX,Nd.c,Nv.dv,Nv.nd,Nd.zero];omega,by simp[cX,Nd.c,Nv.dv,Nv.nd,Nd.zero],by simp[cX,Nd.c,Nv.dv,Nv.nd,Nd.zero],.inr (.inl ⟨rfl,h1⟩)⟩,hg,λ i hi=>by simp[cX,Nd.c,Nv.dv] at hi,fO,fO,fO⟩
theorem gh{b:Nat}{xs:List Int}(hg:0<=gen)(hb:BV b xs)(hx:∀r∈xs,r<=n):mT gen n (cX (({Nd.zero with kind:=3,bm:=(b:Int)}:Nd).c xs []) c).dv :=
 ⟨⟨by simp[rW,Nd.own,Nd.jT,Nd.jD,Nd.zero,cX,Nd.c,Nv.dv,Nv.nd],by simp[cX,Nd.c,Nv.dv,Nv.nd,Nd.zero],by simp[cX,Nd.c,Nv.dv,Nv.nd,Nd.zero];omega,by simp[cX,Nd.c,Nv.dv,Nv.nd,Nd.zero],.inr (.inr (.inl ⟨rfl,by show(xs.length:Int)=yD (b:Int);rw[xD hb.lt,hb.len],hb.pos⟩))⟩,hg,λ i hi=>by
  have h1:=hb.pos i hi
  have hi':i<xs.length:=hi
  refine⟨by show 0<=xs.getD i 0;omega,hx _ ?_⟩
  show xs.getD i 0∈xs
  rw[jS,List.getElem?_eq_getElem hi']
  exact List.getElem_mem hi',fO,fO,fO⟩
theorem uq{h:Int}{ys:List Pr}(hg:0<=gen)(h2:2<=ys.length)(ha:vu ys)(hs:Ev ys):mT gen n (cX (({Nd.zero with kind:=6,hash:=h}:Nd).c [] ys) c).dv :=
 ⟨⟨by simp[rW,Nd.own,Nd.jT,Nd.jD,Nd.zero,cX,Nd.c,Nv.dv,Nv.nd],by simp[cX,Nd.c,Nv.dv,Nv.nd,Nd.zero],by simp[cX,Nd.c,Nv.dv,Nv.nd,Nd.zero];omega,by simp[cX,Nd.c,Nv.dv,Nv.nd,Nd.zero],.inr (.inr (.inr (.inr (.inl ⟨rfl,h2,ha,hs⟩))))⟩,hg,λ i hi=>by simp[cX,Nd.c,Nv.dv] at hi,fO,fO,fO⟩
theorem Pf(h:0<=gen):fW [fA.c,fA.c] [] gen:=by
 refine⟨by simp,h,rfl,rfl,λ i hi=>by simp at hi,λ i hi=>?_,by simp[marks,eK,fV,fA,Nd.zero,aU.c,Nd.c,Nv.dv,Nv.nd]⟩
 simp only[List.map_cons,List.map_nil,List.length_cons,List.length_nil] at hi
 have:i=0∨i=1:=by omega
 rcases this with rfl|rfl
 ·exact K0 h
 ·exact K0 h
end
end
end Go.Ct
namespace Go.Proofs.YtbajmaoegmbfgaaGreat
open Go.Ct
section
def Lt(k:Int)(r:Int):CT:=if k=2 then .main r else if k=8 then .stat r else .prev r
structure kO(H:ByteArray->Nat)(σ:Kw)(n:Nv)(w:List Nat)(g:Int):Prop where
 kd:n.kind=2∨n.kind=3∨n.kind=4∨n.kind=5∨n.kind=6∨n.kind=7∨n.kind=8
 ok:mT σ.mm.gen (σ.len+1) (cX n σ.cl).dv
 bd:lX (σ.len+1) (σ.cl+1) (cX n σ.cl)
 k2:n.kind=2->w.length<=11
 k3:n.kind=3->w.length<=10/\(∀k:Nat,∀b,kU (cX n σ.cl) k=some b->Ky σ (w++[k]) g b)/\(0<w.length->n.xs≠[]/\∀b,n.xs=[b]->(σ.nd b).kind=2)
 k4:n.kind=4->H n.key=n.hash.toNat
 k5:n.kind=5->0<w.length/\w.length<=11/\H n.key=n.hash.toNat/\iI n.hash.toNat w
 k6:n.kind=6->w.length=11/\iI n.hash.toNat w/\∀p∈n.ys,H p.1=n.hash.toNat
 k7:n.kind=7->bZ (σ.nd n.bA)
 k8:n.kind=8->uK σ n.bA []/\uK σ n.new []
structure W0(σ:Kw)(n:Nv)(i:Int)(w:List Nat)(g:Int):Prop where
 ins:Ds i σ.len
 k2:n.kind=2->oO σ i w n.gen
 kp:bZ n->i=0∨(oO σ i w g/\aZ σ i)
 k8:n.kind=8->i=0
section
variable{H:ByteArray->Nat}{σ τ υ:Kw}{r:Int}{w:List Nat}
theorem Yb(n:Nv)(c:Nat):(cX n c).kind=n.kind:=rfl
theorem ix{n:Nv}{i g:Int}(h:Inv H σ)(hn:kO H σ n w g)(hi:W0 σ n i w g):∃υ,Le σ υ/\Inv H υ/\υ.mm=σ.mm.push n i/\υ.nd ((σ.len+1:Nat):Int)=cX n σ.cl/\υ.way ((σ.len+1:Nat):Int)=w/\υ.gb ((σ.len+1:Nat):Int)=g:=by
 have e:=Uf σ n i w g (Lt n.kind ((σ.len+1:Nat):Int))
 have l:=e.le
 have hnd:=zb σ n i w g (Lt n.kind ((σ.len+1:Nat):Int))
 have hway:=o8 σ n i w g (Lt n.kind ((σ.len+1:Nat):Int))
 have hgb:=yk σ n i w g (Lt n.kind ((σ.len+1:Nat):Int))
 have hct:=zy σ n i w g (Lt n.kind ((σ.len+1:Nat):Int))
 have hlen:=Wb σ n i w g (Lt n.kind ((σ.len+1:Nat):Int))
 have hce:=λ h=>xn σ (n:=n) i w g (Lt n.kind ((σ.len+1:Nat):Int)) h
 have hc0:=λ h=>sb σ (n:=n) i w g (Lt n.kind ((σ.len+1:Nat):Int)) h
 have hpush:(σ.add n i w g (Lt n.kind ((σ.len+1:Nat):Int))).mm=σ.mm.push n i:=rfl
 generalize hυ:σ.add n i w g (Lt n.kind ((σ.len+1:Nat):Int))=υ at *
 have hgen:υ.mm.gen=σ.mm.gen:=by rw[hpush];rfl
 have hcl:υ.cl<=σ.cl+1:=by
  by_cases hk:n.kind=2∨n.kind=3∨n.kind=5∨n.kind=6∨n.kind=8
  ·rw[(hce hk).1];exact Nat.le_refl _
  ·rw[hc0 hk];omega
 have hcl2:(n.kind=2∨n.kind=3∨n.kind=5∨n.kind=6∨n.kind=8)->((σ.cl+1:Nat):Int)=((σ.mm.cs.length+1:Nat):Int):=λ _=>rfl
 have hnd':y5 H υ ((σ.len+1:Nat):Int):=by
  refine⟨by rw[hnd];exact hn.ok.1,by rw[hnd,hgen];exact hn.ok.2.1,?_,λ k=>?_,λ k=>?_,λ k=>?_,λ k=>?_,λ k=>?_,λ k=>?_,λ k=>?_⟩
  ·rw[hnd,hlen]
   have hb:=hn.bd
   by_cases hk:n.kind=2∨n.kind=3∨n.kind=5∨n.kind=6∨n.kind=8
   ·rw[(hce hk).1];exact hb
   ·rw[hc0 hk]
    refine⟨hb.bA,hb.exp,hb.new,hb.br,?_,?_,?_,hb.bm,hb.hash⟩
    ·show(if n.kind=2 then _ else(0:Int))<=_;rw[if_neg (by omega)];exact bH _
    ·show(if n.kind=3∨n.kind=5∨n.kind=6 then _ else(0:Int))<=_;rw[if_neg (by omega)];exact bH _
    ·show(if n.kind=8 then _ else(0:Int))<=_;rw[if_neg (by omega)];exact bH _
  all_goals rw[hnd] at k ⊢
  all_goals rw[Yb] at k
  ·rw[hway]
   refine⟨hn.k2 k,?_⟩
   rw[show(cX n σ.cl).main=((σ.cl+1:Nat):Int) from if_pos k,hct]
   exact⟨by omega,if_pos k⟩
  ·rw[hway,hgb]
   obtain⟨h1,h2,h3⟩:=hn.k3 k
   rw[show(cX n σ.cl).prev=((σ.cl+1:Nat):Int) from if_pos (.inl k),hct]
   refine⟨h1,λ k' b hb=>(h2 k' b hb).up l,λ h0=>⟨(h3 h0).1,λ b hb=>?_⟩,by omega,?_⟩
   ·have:=(h3 h0).2 b hb
    rw[l.nd (eS (N:=σ.mm.nodes) (i:=b) (by rw[this];decide)).2];exact this
   ·unfold Lt;rw[if_neg (by omega),if_neg (by omega)]
  ·exact hn.k4 k
  ·rw[hway]
   obtain⟨h1,h2,h3,h4⟩:=hn.k5 k
   rw[show(cX n σ.cl).prev=((σ.cl+1:Nat):Int) from if_pos (.inr (.inl k)),hct]
   refine⟨h1,h2,h3,h4,by omega,?_⟩
   unfold Lt;rw[if_neg (by omega),if_neg (by omega)]
  ·rw[hway]
   obtain⟨h1,h2,h3⟩:=hn.k6 k
   rw[show(cX n σ.cl).prev=((σ.cl+1:Nat):Int) from if_pos (.inr (.inr k)),hct]
   refine⟨h1,h2,h3,by omega,?_⟩
   unfold Lt;rw[if_neg (by omega),if_neg (by omega)]
  ·have:=hn.k7 k
   show bZ (υ.nd n.bA)
   rw[l.nd (gT this).2];exact this
  ·obtain⟨h1,h2⟩:=hn.k8 k
   rw[show(cX n σ.cl).status=((σ.cl+1:Nat):Int) from if_pos k,hct]
   refine⟨h1.up l,h2.up l,by omega,?_⟩
   unfold Lt;rw[if_neg (by omega),if_pos k]
 refine⟨υ,l,?_,hpush,hnd,hway,hgb⟩
 rw[<- hυ]
 refine rj h hn.ok hi.ins (by rw[hυ];exact hnd') (λ hc=>?_) (by rw[hυ];exact hcl)
 rw[hυ] at hc ⊢
 have hk:n.kind=2∨n.kind=3∨n.kind=5∨n.kind=6∨n.kind=8:=Classical.byContradiction λ hk=>by have:=hc0 hk;omega
 have hv:=(hce hk).2
 refine⟨by rw[hv];exact hi.ins.1,by rw[hv,hlen];have:=hi.ins.2;omega,λ i' k=>?_,λ m k=>?_,λ d k=>?_,λ k=>?_,λ k=>?_⟩<;>rw[hct] at k<;>rw[hv]
 ·unfold Lt at k
  split at k
  ·rename_i h2
   cases k
   rw[hnd,hway]
   exact⟨h2,(hi.k2 h2).up l⟩
  ·split at k<;>cases k
 ·unfold Lt at k
  split at k
  ·cases k
  ·split at k
   ·cases k
   ·cases k
    have hm:bZ n:=by unfold bZ;omega
    rw[hnd]
    refine⟨hm,?_⟩
    rcases hi.kp hm with h1|⟨h1,h2⟩
    ·exact .inl h1
    ·exact .inr (.inl ⟨by rw[hway,hgb];exact h1.up l,aZ.up h h1.1 h2 l⟩)
 ·unfold Lt at k
  split at k
  ·cases k
  ·split at k
   ·rename_i h8
    exact .inl (hi.k8 h8)
   ·cases k
 ·unfold Lt at k
  split at k
  ·cases k
  ·split at k<;>cases k
 ·unfold Lt at k
  split at k
  ·cases k
  ·split at k<;>cases k
end
end
section
theorem dK{a b:Int}{p:Prop}(k:a=b)(h:a≠b:=by decide):p:=absurd k h
theorem qh{gen h u:Int}{k:ByteArray}{n c:Nat}(hg:0<=gen)(hk:k.size<=64):mT gen n (cX (({Nd.zero with kind:=5,hash:=h,key:=k,val:=u}:Nd).c [] []) c).dv :=
 ⟨⟨by simp[rW,Nd.own,Nd.jT,Nd.jD,Nd.zero,cX,Nd.c,Nv.dv,Nv.nd],by simp[cX,Nd.c,Nv.dv,Nv.nd,Nd.zero],by simp[cX,Nd.c,Nv.dv,Nv.nd,Nd.zero];omega,by simp[cX,Nd.c,Nv.dv,Nv.nd,Nd.zero],.inr (.inr (.inr (.inl ⟨.inr rfl,hk⟩)))⟩,hg,λ i hi=>by simp[cX,Nd.c,Nv.dv] at hi,fO,fO,fO⟩
theorem nl{gen p:Int}{n c:Nat}(hg:0<=gen)(h1:1<=p)(h2:p<=n):mT gen n (cX (yI p) c).dv :=
 ⟨⟨by simp[rW,Nd.own,Nd.jT,Nd.jD,Nd.zero,cX,Nd.c,Nv.dv,Nv.nd,yI],by simp[cX,Nd.c,Nv.dv,Nv.nd,Nd.zero,yI],by simp[cX,Nd.c,Nv.dv,Nv.nd,Nd.zero,yI],by simp[cX,Nd.c,Nv.dv,Nv.nd,Nd.zero,yI],.inr (.inr (.inr (.inr (.inr (.inr ⟨rfl,h1⟩)))))⟩,hg,λ i hi=>by simp[cX,Nd.c,Nv.dv,yI] at hi,⟨by show 0<=p;omega,h2⟩,fO,fO⟩
theorem tq{gen a b d:Int}{n c:Nat}(hg:0<=gen)(a1:1<=a)(a2:a<=n)(b1:1<=b)(b2:b<=n)(d1:1<=d)(d2:d<=n):mT gen n (cX (lR a b d) c).dv :=
 ⟨⟨by simp[rW,Nd.own,Nd.jT,Nd.jD,Nd.zero,cX,Nd.c,Nv.dv,Nv.nd,lR],by simp[cX,Nd.c,Nv.dv,Nv.nd,Nd.zero,lR],by simp[cX,Nd.c,Nv.dv,Nv.nd,Nd.zero,lR],by simp[cX,Nd.c,Nv.dv,Nv.nd,Nd.zero,lR];omega,.inr (.inr (.inr (.inr (.inr (.inl ⟨rfl,b1,d1,a1⟩)))))⟩,hg,λ i hi=>by simp[cX,Nd.c,Nv.dv,lR] at hi,⟨by show 0<=a;omega,a2⟩,⟨by show 0<=b;omega,b2⟩,⟨by show 0<=d;omega,d2⟩⟩
theorem yY{n:Nv}{N c:Nat}(h1:n.bA<=N)(h2:n.exp<=N)(h3:n.new<=N)(h4:∀r∈n.xs,r<=N)(hb:∃b:Nat,n.bm=(b:Int)/\b<18446744073709551616)(hh:∃b:Nat,n.hash=(b:Int)/\b<18446744073709551616):lX N (c+1) (cX n c) :=
 ⟨h1,h2,h3,h4,by show(if n.kind=2 then((c+1:Nat):Int) else 0)<=((c+1:Nat):Int);split<;>omega,by show(if n.kind=3∨n.kind=5∨n.kind=6 then((c+1:Nat):Int) else 0)<=((c+1:Nat):Int);split<;>omega,by show(if n.kind=8 then((c+1:Nat):Int) else 0)<=((c+1:Nat):Int);split<;>omega,hb,hh⟩
theorem jH:∃b:Nat,(0:Int)=(b:Int)/\b<18446744073709551616:=⟨0,rfl,by decide⟩
section
variable{H:ByteArray->Nat}{σ τ υ:Kw}{r:Int}{w:List Nat}
theorem ja{p g:Int}(h:Inv H σ)(hp:bZ (σ.nd p)):kO H σ (yI p) w g:=by
 have hr:1<=p/\p<=σ.len:=gT hp
 exact⟨.inr (.inr (.inr (.inr (.inr (.inl rfl))))),nl h.gen hr.1 (by have:=hr.2;omega),yY (by show p<=_;have:=hr.2;omega) (bH _) (bH _) (λ r hr=>nomatch hr) jH jH,
  λ k=>dK (a:=7) (b:=2) k,λ k=>dK (a:=7) (b:=3) k,λ k=>dK (a:=7) (b:=4) k,λ k=>dK (a:=7) (b:=5) k,λ k=>dK (a:=7) (b:=6) k,λ _=>hp,λ k=>dK (a:=7) (b:=8) k⟩
theorem Bm{g g':Int}(hw:w.length<=11)(h1:1<=g')(h2:g'<=σ.mm.gen):kO H σ (fH g') w g :=
 ⟨.inl rfl,j9 h2 h1,yY (bH _) (bH _) (bH _) (λ r hr=>nomatch hr) jH jH,
  λ _=>hw,λ k=>dK (a:=2) (b:=3) k,λ k=>dK (a:=2) (b:=4) k,λ k=>dK (a:=2) (b:=5) k,λ k=>dK (a:=2) (b:=6) k,λ k=>dK (a:=2) (b:=7) k,λ k=>dK (a:=2) (b:=8) k⟩
theorem j4{a b d g:Int}(h:Inv H σ)(ha:uK σ a [])(hb1:1<=b)(hb2:b<=σ.len)(hd:uK σ d []):kO H σ (lR a b d) w g:=by
 have h1:=ha.in
 have h2:=hd.in
 exact⟨.inr (.inr (.inr (.inr (.inr (.inr rfl))))),tq h.gen h1.1 (by omega) hb1 (by omega) h2.1 (by omega),yY (by show a<=_;omega) (by show b<=_;omega) (by show d<=_;omega) (λ r hr=>nomatch hr) jH jH,
  λ k=>dK (a:=8) (b:=2) k,λ k=>dK (a:=8) (b:=3) k,λ k=>dK (a:=8) (b:=4) k,λ k=>dK (a:=8) (b:=5) k,λ k=>dK (a:=8) (b:=6) k,λ k=>dK (a:=8) (b:=7) k,λ _=>⟨ha,hd⟩⟩
theorem zV{h:Nat}{k:ByteArray}{u g:Int}(i:Inv H σ)(hk:k.size<=64)(hh:H k=h)(hl:h<18446744073709551616):kO H σ (Gh h k u) w g :=
 ⟨.inr (.inr (.inl rfl)),Wp i.gen hk,yY (bH _) (bH _) (bH _) (λ r hr=>nomatch hr) jH ⟨h,rfl,hl⟩,
  λ k=>dK (a:=4) (b:=2) k,λ k=>dK (a:=4) (b:=3) k,λ _=>hh,λ k=>dK (a:=4) (b:=5) k,λ k=>dK (a:=4) (b:=6) k,λ k=>dK (a:=4) (b:=7) k,λ k=>dK (a:=4) (b:=8) k⟩
def Zu(h:Int)(k:ByteArray)(u:Int):Nv:=({Nd.zero with kind:=5,hash:=h,key:=k,val:=u}:Nd).c [] []
theorem Hu{h:Nat}{k:ByteArray}{u g:Int}(i:Inv H σ)(hk:k.size<=64)(hh:H k=h)(hl:h<18446744073709551616)(w0:0<w.length)(w1:w.length<=11)(hu:iI h w):kO H σ (Zu h k u) w g :=
 ⟨.inr (.inr (.inr (.inl rfl))),qh i.gen hk,yY (bH _) (bH _) (bH _) (λ r hr=>nomatch hr) jH ⟨h,rfl,hl⟩,
  λ k=>dK (a:=5) (b:=2) k,λ k=>dK (a:=5) (b:=3) k,λ k=>dK (a:=5) (b:=4) k,λ _=>⟨w0,w1,hh,hu⟩,λ k=>dK (a:=5) (b:=6) k,λ k=>dK (a:=5) (b:=7) k,λ k=>dK (a:=5) (b:=8) k⟩
def Vd(h:Int)(ys:List Pr):Nv:=({Nd.zero with kind:=6,hash:=h}:Nd).c [] ys
theorem Ex{h:Nat}{ys:List Pr}{g:Int}(i:Inv H σ)(h2:2<=ys.length)(ha:vu ys)(hs:Ev ys)(hh:∀p∈ys,H p.1=h)(hl:h<18446744073709551616)(w1:w.length=11)(hu:iI h w):kO H σ (Vd h ys) w g :=
 ⟨.inr (.inr (.inr (.inr (.inl rfl)))),uq i.gen h2 ha hs,yY (bH _) (bH _) (bH _) (λ r hr=>nomatch hr) jH ⟨h,rfl,hl⟩,
  λ k=>dK (a:=6) (b:=2) k,λ k=>dK (a:=6) (b:=3) k,λ k=>dK (a:=6) (b:=4) k,λ k=>dK (a:=6) (b:=5) k,λ _=>⟨w1,hu,hh⟩,λ k=>dK (a:=6) (b:=7) k,λ k=>dK (a:=6) (b:=8) k⟩
theorem Vn{m:Nat->Option Int}{x:Int}:∀{k:Nat},x∈rQ m k->∃j,j<k/\m j=some x
 | 0,h=>nomatch h
 | k+1,h=>by
  simp only[rQ,List.mem_append,Option.mem_toList] at h
  rcases h with h|h
  ·obtain⟨j,h1,h2⟩:=Vn h
   exact⟨j,by omega,h2⟩
  ·exact⟨k,Nat.lt_succ_self k,h⟩
theorem Ml{b:Nat}{xs:List Int}(h:BV b xs){x:Int}(hx:x∈xs):∃j,j<64/\rS b xs j=some x:=by
 rw[<- (dt h).2] at hx
 exact Vn hx
theorem T5{b:Nat}{xs:List Int}(h:BV b xs){k:Nat}(hk:k<64){x:Int}(hx:rS b xs k=some x):x∈xs:=by
 unfold rS at hx
 split at hx
 ·rename_i hb
  cases hx
  exact B8 (by rw[h.len];exact oW hk hb)
 ·cases hx
theorem aAo{v:Nv}{k:Nat}(hk:64<=k):kU v (k:Int)=none:=by
 unfold kU Mx
 rw[Wf _ (by omega)]
 simp
theorem Kx{v:Nv}(hcv:CV v.nd v.xs v.ys){k:Nat}(hk:k<64):kU v (k:Int)=rS v.bm.toNat v.xs k:=Vj hcv hk
theorem Ky.le{g g' b:Int}(h:Ky σ w g b)(hg:g<=g'):Ky σ w g' b:=by
 rcases h with h|h
 ·exact .inl h
 ·exact .inr ⟨h.1,h.2.1,Int.le_trans h.2.2 hg⟩
theorem Ky.in{g b:Int}(h:Ky σ w g b):1<=b/\b<=σ.len:=by
 rcases h with h|h<;>exact eS (N:=σ.mm.nodes) (i:=b) (by rw[h.1];decide)
theorem mY{b:Nat}{xs:List Int}{g:Int}(i:Inv H σ)(hb:BV b xs)(hx:∀k:Nat,k<64->∀r,rS b xs k=some r->Ky σ (w++[k]) g r)(hw:w.length<=10)(h0:0<w.length->xs≠[]/\∀b,xs=[b]->(σ.nd b).kind=2):kO H σ (Cw b xs) w g:=by
 have hr:∀r∈xs,1<=r/\r<=σ.len:=λ r hr=>by
  obtain⟨j,h1,h2⟩:=Ml hb hr
  exact(hx j h1 r h2).in
 have hok:mT σ.mm.gen (σ.len+1) (cX (Cw b xs) σ.cl).dv:=gh i.gen hb (λ r h=>by have:=(hr r h).2;omega)
 refine⟨.inr (.inl rfl),hok,yY (bH _) (bH _) (bH _) (λ r h=>by have:=(hr r h).2;omega) ⟨b,rfl,hb.lt⟩ jH,
  λ k=>dK (a:=3) (b:=2) k,λ _=>⟨hw,λ k r hk=>?_,h0⟩,λ k=>dK (a:=3) (b:=4) k,λ k=>dK (a:=3) (b:=5) k,λ k=>dK (a:=3) (b:=6) k,λ k=>dK (a:=3) (b:=7) k,λ k=>dK (a:=3) (b:=8) k⟩
 by_cases h64:k<64
 ·rw[Kx (v:=cX (Cw b xs) σ.cl) ⟨rfl,hok.1⟩ h64] at hk
  exact hx k h64 r hk
 ·rw[aAo (by omega)] at hk
  cases hk
structure oY(σ:Kw)(m:Int)(w:List Nat)(g:Int)(b:Nat)(xs:List Int):Prop where
 kd:(σ.nd m).kind=3
 bm:(σ.nd m).bm.toNat=b
 el:(σ.nd m).xs=xs
 cv:CV (σ.nd m).nd (σ.nd m).xs (σ.nd m).ys
 bv:BV b xs
 wl:w.length<=10
 br:∀k:Nat,k<64->∀r,rS b xs k=some r->Ky σ (w++[k]) g r
 ne:0<w.length->xs≠[]/\∀b,xs=[b]->(σ.nd b).kind=2
theorem oO.uC{m g:Int}(i:Inv H σ)(h:oO σ m w g)(k:(σ.nd m).kind=3):oY σ m w g (σ.nd m).bm.toNat (σ.nd m).xs:=by
 have hr:=h.in
 have hn:=i.nd m hr.1 hr.2
 obtain⟨h1,h2,h3,_⟩:=hn.k3 k
 have hcv:CV (σ.nd m).nd (σ.nd m).xs (σ.nd m).ys:=⟨k,hn.valid⟩
 obtain⟨b,hb1,hb2⟩:=hn.bd.bm
 have hb:(σ.nd m).bm.toNat=b:=by omega
 rw[h.2.1] at h1 h2 h3
 refine⟨k,rfl,rfl,hcv,by rw[hb];exact hcv.bv hb1 hb2,h1,λ k' hk r hr=>?_,h3⟩
 exact(h2 k' r (by rw[Kx hcv hk];exact hr)).le h.2.2
theorem oY.lk{m g:Int}{b:Nat}{xs:List Int}(h:oY σ m w g b xs){k:Nat}(hk:k<64):kU (σ.nd m) (k:Int)=rS b xs k:=by rw[Kx h.cv hk,h.bm,h.el]
theorem oY.up{m g r:Int}{b:Nat}{xs:List Int}(h:oY σ m w g b xs){k:Nat}(hk:k<64){o:Int}(ho:kU (σ.nd m) (k:Int)=some o)(hr:1<=r):Rl (σ.nd m) (k:Int) r=Cw b (qQ xs (fY b k) r)/\BV b (qQ xs (fY b k) r)/\(∀j,j<64->rS b (qQ xs (fY b k) r) j=Jj (rS b xs) k (some r) j)/\fY b k<xs.length:=by
 rw[h.lk hk] at ho
 have hb:b.testBit k=true:=by unfold rS at ho;split at ho;assumption;cases ho
 have hu:=Rg h.bv hk hb hr
 refine⟨?_,hu.1,hu.2,by rw[h.bv.len];exact oW hk hb⟩
 unfold Rl m6
 rw[if_pos ⟨h.cv,hr,by rw[h.bm,qM b hk];exact hb⟩,h.bm,h.el,oH b hk]
 rfl
theorem oY.ins{m g r:Int}{b:Nat}{xs:List Int}(h:oY σ m w g b xs){k:Nat}(hk:k<64)(ho:kU (σ.nd m) (k:Int)=none)(hr:1<=r):inV (σ.nd m) (k:Int) r=Cw (b ||| 2^k) (wQ xs (fY b k) r)/\BV (b ||| 2^k) (wQ xs (fY b k) r)/\(∀j,j<64->rS (b ||| 2^k) (wQ xs (fY b k) r) j=Jj (rS b xs) k (some r) j)/\(wQ xs (fY b k) r).length=xs.length+1:=by
 rw[h.lk hk] at ho
 have hb:b.testBit k=false:=by
  unfold rS at ho
  cases hb:b.testBit k with
  | false=>rfl
  | true=>rw[hb] at ho;simp at ho
 have hu:=Gj h.bv hk hb hr
 refine⟨?_,hu.1,hu.2,G6 (by rw[h.bv.len];have:=vH b k (64-k);rwa [show k+(64-k)=64 by omega] at this) r⟩
 unfold inV m8
 rw[if_pos ⟨h.cv,⟨by omega,by omega⟩,hr,by rw[h.bm,qM b hk];exact hb⟩,h.bm,h.el,oH b hk,pK b hk]
 rfl
theorem oY.re{m g:Int}{b:Nat}{xs:List Int}(h:oY σ m w g b xs){k:Nat}(hk:k<64){o:Int}(ho:kU (σ.nd m) (k:Int)=some o):M9 (σ.nd m) (k:Int)=Cw (b ^^^ (b &&& 2^k)) (sD xs (fY b k))/\BV (b ^^^ (b &&& 2^k)) (sD xs (fY b k))/\(∀j,j<64->rS (b ^^^ (b &&& 2^k)) (sD xs (fY b k)) j=Jj (rS b xs) k none j)/\(sD xs (fY b k)).length+1=xs.length:=by
 rw[h.lk hk] at ho
 have hb:b.testBit k=true:=by unfold rS at ho;split at ho;assumption;cases ho
 have hu:=Sm h.bv hk hb
 refine⟨?_,hu.1,hu.2,F4 (by rw[h.bv.len];exact oW hk hb)⟩
 unfold M9 ng
 rw[if_pos ⟨h.cv,by rw[h.bm,qM b hk];exact hb⟩,h.bm,h.el,oH b hk,tJ b hk]
 rfl
end
end
end Go.Proofs.YtbajmaoegmbfgaaGreat
