/- Nodes of proper states. -/
import Derived.Test.YtadnboagdhcedaaGreatDoorGArS
import Derived.Test.YtadnboagdhcedaaGreatDoorGPaX
import Derived.Test.YtadnboagdhcedaaGreatDoorGSh7
import Derived.Test.YtadnboagdhcedaaGreatDoorGRn1

set_option linter.unusedSimpArgs false
set_option linter.unusedVariables false
namespace Go.Ct
section
section
variable{gen:Int}{n c:Nat}
theorem Hp(h:0<=gen):lE gen n cK.c.dv:=⟨⟨by simp[oU,Nd.own,Nd.fI,Nd.eZ,cK,Nd.zero,aK.c,Nd.c,Nv.dv,Nv.nd],by decide,by decide,by decide,.inl rfl⟩,h,λ i hi=>by simp[cK,aK.c,Nd.c,Nv.dv] at hi,⟨by decide,bE n⟩,⟨by decide,bE n⟩,⟨by decide,bE n⟩⟩
theorem eO:C9 0 n:=⟨Int.le_refl _,bE n⟩
theorem E5{h u:Int}{k:ByteArray}(hg:0<=gen)(hk:k.size<=64):lE gen n (cO (({Nd.zero with kind:=4,hash:=h,key:=k,val:=u}:Nd).c [] []) c).dv :=
 ⟨⟨by simp[oU,Nd.own,Nd.fI,Nd.eZ,Nd.zero,cO,Nd.c,Nv.dv,Nv.nd],by simp[cO,Nd.c,Nv.dv,Nv.nd,Nd.zero],by simp[cO,Nd.c,Nv.dv,Nv.nd,Nd.zero],by simp[cO,Nd.c,Nv.dv,Nv.nd,Nd.zero],.inr (.inr (.inr (.inl ⟨.inl rfl,hk⟩)))⟩,hg,λ i hi=>by simp[cO,Nd.c,Nv.dv] at hi,eO,eO,eO⟩
theorem wG{g:Int}(hg:g<=gen)(h1:1<=g):lE gen n (cO (({Nd.zero with kind:=2,gen:=g}:Nd).c [] []) c).dv :=
 ⟨⟨by simp[oU,Nd.own,Nd.fI,Nd.eZ,Nd.zero,cO,Nd.c,Nv.dv,Nv.nd],by simp[cO,Nd.c,Nv.dv,Nv.nd,Nd.zero];omega,by simp[cO,Nd.c,Nv.dv,Nv.nd,Nd.zero],by simp[cO,Nd.c,Nv.dv,Nv.nd,Nd.zero],.inr (.inl ⟨rfl,h1⟩)⟩,hg,λ i hi=>by simp[cO,Nd.c,Nv.dv] at hi,eO,eO,eO⟩
theorem wF{b:Nat}{xs:List Int}(hg:0<=gen)(hb:BV b xs)(hx:∀r∈xs,r<=n):lE gen n (cO (({Nd.zero with kind:=3,bm:=(b:Int)}:Nd).c xs []) c).dv :=
 ⟨⟨by simp[oU,Nd.own,Nd.fI,Nd.eZ,Nd.zero,cO,Nd.c,Nv.dv,Nv.nd],by simp[cO,Nd.c,Nv.dv,Nv.nd,Nd.zero],by simp[cO,Nd.c,Nv.dv,Nv.nd,Nd.zero];omega,by simp[cO,Nd.c,Nv.dv,Nv.nd,Nd.zero],.inr (.inr (.inl ⟨rfl,by show(xs.length:Int)=vE (b:Int);rw[nI hb.lt,hb.len],hb.pos⟩))⟩,hg,λ i hi=>by
  have h1:=hb.pos i hi
  have hi':i<xs.length:=hi
  refine⟨by show 0<=xs.getD i 0;omega,hx _ ?_⟩
  show xs.getD i 0∈xs
  rw[fQ,List.getElem?_eq_getElem hi']
  exact List.getElem_mem hi',eO,eO,eO⟩
theorem bu{h:Int}{ys:List Pr}(hg:0<=gen)(h2:2<=ys.length)(ha:ir ys)(hs:Aj ys):lE gen n (cO (({Nd.zero with kind:=6,hash:=h}:Nd).c [] ys) c).dv :=
 ⟨⟨by simp[oU,Nd.own,Nd.fI,Nd.eZ,Nd.zero,cO,Nd.c,Nv.dv,Nv.nd],by simp[cO,Nd.c,Nv.dv,Nv.nd,Nd.zero],by simp[cO,Nd.c,Nv.dv,Nv.nd,Nd.zero];omega,by simp[cO,Nd.c,Nv.dv,Nv.nd,Nd.zero],.inr (.inr (.inr (.inr (.inl ⟨rfl,h2,ha,hs⟩))))⟩,hg,λ i hi=>by simp[cO,Nd.c,Nv.dv] at hi,eO,eO,eO⟩
theorem tJ(h:0<=gen):dX [cK.c,cK.c] [] gen:=by
 refine⟨by simp,h,rfl,rfl,λ i hi=>by simp at hi,λ i hi=>?_,by simp[marks,eJ,gD,cK,Nd.zero,aK.c,Nd.c,Nv.dv,Nv.nd]⟩
 simp only[List.map_cons,List.map_nil,List.length_cons,List.length_nil] at hi
 have:i=0∨i=1:=by omega
 rcases this with rfl|rfl
 ·exact Hp h
 ·exact Hp h
end
end

/- Tries of worlds: new nodes of each kind, new cells, new generations. -/
end Go.Ct
namespace Go.Proofs.YtadnboagdhcedaaGreatDoor
section
open Go.Ct
def Ha(k:Int)(r:Int):CT:=if k=2 then .main r else if k=8 then .stat r else .prev r
structure iX(H:ByteArray->Nat)(σ:Kw)(n:Nv)(w:List Nat)(g:Int):Prop where
 kd:n.kind=2∨n.kind=3∨n.kind=4∨n.kind=5∨n.kind=6∨n.kind=7∨n.kind=8
 ok:lE σ.mm.gen (σ.len+1) (cO n σ.cl).dv
 bd:nE (σ.len+1) (σ.cl+1) (cO n σ.cl)
 k2:n.kind=2->w.length<=11
 k3:n.kind=3->w.length<=10/\(∀k:Nat,∀b,jF (cO n σ.cl) k=some b->Hy σ (w++[k]) g b)/\(0<w.length->n.xs≠[]/\∀b,n.xs=[b]->(σ.nd b).kind=2)
 k4:n.kind=4->H n.key=n.hash.toNat
 k5:n.kind=5->0<w.length/\w.length<=11/\H n.key=n.hash.toNat/\fO n.hash.toNat w
 k6:n.kind=6->w.length=11/\fO n.hash.toNat w/\∀p∈n.ys,H p.1=n.hash.toNat
 k7:n.kind=7->bU (σ.nd n.bL)
 k8:n.kind=8->rI σ n.bL []/\rI σ n.new []
structure R4(σ:Kw)(n:Nv)(i:Int)(w:List Nat)(g:Int):Prop where
 ins:C9 i σ.len
 k2:n.kind=2->lP σ i w n.gen
 kp:bU n->i=0∨(lP σ i w g/\aV σ i)
 k8:n.kind=8->i=0
section
variable{H:ByteArray->Nat}{σ τ υ:Kw}{r:Int}{w:List Nat}
theorem T3(n:Nv)(c:Nat):(cO n c).kind=n.kind:=rfl
theorem Vi{n:Nv}{i g:Int}(h:Inv H σ)(hn:iX H σ n w g)(hi:R4 σ n i w g):∃υ,Le σ υ/\Inv H υ/\υ.mm=σ.mm.push n i/\υ.nd ((σ.len+1:Nat):Int)=cO n σ.cl/\υ.way ((σ.len+1:Nat):Int)=w/\υ.gb ((σ.len+1:Nat):Int)=g:=by
 have e:=O2 σ n i w g (Ha n.kind ((σ.len+1:Nat):Int))
 have l:=e.le
 have hnd:=pi σ n i w g (Ha n.kind ((σ.len+1:Nat):Int))
 have hway:=bs σ n i w g (Ha n.kind ((σ.len+1:Nat):Int))
 have hgb:=px σ n i w g (Ha n.kind ((σ.len+1:Nat):Int))
 have hct:=n8 σ n i w g (Ha n.kind ((σ.len+1:Nat):Int))
 have hlen:=O7 σ n i w g (Ha n.kind ((σ.len+1:Nat):Int))
 have hce:=λ h=>nj σ (n:=n) i w g (Ha n.kind ((σ.len+1:Nat):Int)) h
 have hc0:=λ h=>fy σ (n:=n) i w g (Ha n.kind ((σ.len+1:Nat):Int)) h
 have hpush:(σ.add n i w g (Ha n.kind ((σ.len+1:Nat):Int))).mm=σ.mm.push n i:=rfl
 generalize hυ:σ.add n i w g (Ha n.kind ((σ.len+1:Nat):Int))=υ at *
 have hgen:υ.mm.gen=σ.mm.gen:=by rw[hpush];rfl
 have hcl:υ.cl<=σ.cl+1:=by
  by_cases hk:n.kind=2∨n.kind=3∨n.kind=5∨n.kind=6∨n.kind=8
  ·rw[(hce hk).1];exact Nat.le_refl _
  ·rw[hc0 hk];omega
 have hcl2:(n.kind=2∨n.kind=3∨n.kind=5∨n.kind=6∨n.kind=8)->((σ.cl+1:Nat):Int)=((σ.mm.cs.length+1:Nat):Int):=λ _=>rfl
 have hnd':mv H υ ((σ.len+1:Nat):Int):=by
  refine⟨by rw[hnd];exact hn.ok.1,by rw[hnd,hgen];exact hn.ok.2.1,?_,λ k=>?_,λ k=>?_,λ k=>?_,λ k=>?_,λ k=>?_,λ k=>?_,λ k=>?_⟩
  ·rw[hnd,hlen]
   have hb:=hn.bd
   by_cases hk:n.kind=2∨n.kind=3∨n.kind=5∨n.kind=6∨n.kind=8
   ·rw[(hce hk).1];exact hb
   ·rw[hc0 hk]
    refine⟨hb.bL,hb.exp,hb.new,hb.br,?_,?_,?_,hb.bm,hb.hash⟩
    ·show(if n.kind=2 then _ else(0:Int))<=_;rw[if_neg (by omega)];exact bE _
    ·show(if n.kind=3∨n.kind=5∨n.kind=6 then _ else(0:Int))<=_;rw[if_neg (by omega)];exact bE _
    ·show(if n.kind=8 then _ else(0:Int))<=_;rw[if_neg (by omega)];exact bE _
  all_goals rw[hnd] at k ⊢
  all_goals rw[T3] at k
  ·rw[hway]
   refine⟨hn.k2 k,?_⟩
   rw[show(cO n σ.cl).main=((σ.cl+1:Nat):Int) from if_pos k,hct]
   exact⟨by omega,if_pos k⟩
  ·rw[hway,hgb]
   obtain⟨h1,h2,h3⟩:=hn.k3 k
   rw[show(cO n σ.cl).prev=((σ.cl+1:Nat):Int) from if_pos (.inl k),hct]
   refine⟨h1,λ k' b hb=>(h2 k' b hb).up l,λ h0=>⟨(h3 h0).1,λ b hb=>?_⟩,by omega,?_⟩
   ·have:=(h3 h0).2 b hb
    rw[l.nd (cY (N:=σ.mm.nodes) (i:=b) (by rw[this];decide)).2];exact this
   ·unfold Ha;rw[if_neg (by omega),if_neg (by omega)]
  ·exact hn.k4 k
  ·rw[hway]
   obtain⟨h1,h2,h3,h4⟩:=hn.k5 k
   rw[show(cO n σ.cl).prev=((σ.cl+1:Nat):Int) from if_pos (.inr (.inl k)),hct]
   refine⟨h1,h2,h3,h4,by omega,?_⟩
   unfold Ha;rw[if_neg (by omega),if_neg (by omega)]
  ·rw[hway]
   obtain⟨h1,h2,h3⟩:=hn.k6 k
   rw[show(cO n σ.cl).prev=((σ.cl+1:Nat):Int) from if_pos (.inr (.inr k)),hct]
   refine⟨h1,h2,h3,by omega,?_⟩
   unfold Ha;rw[if_neg (by omega),if_neg (by omega)]
  ·have:=hn.k7 k
   show bU (υ.nd n.bL)
   rw[l.nd (gC this).2];exact this
  ·obtain⟨h1,h2⟩:=hn.k8 k
   rw[show(cO n σ.cl).status=((σ.cl+1:Nat):Int) from if_pos k,hct]
   refine⟨h1.up l,h2.up l,by omega,?_⟩
   unfold Ha;rw[if_neg (by omega),if_pos k]
 refine⟨υ,l,?_,hpush,hnd,hway,hgb⟩
 rw[<- hυ]
 refine dm h hn.ok hi.ins (by rw[hυ];exact hnd') (λ hc=>?_) (by rw[hυ];exact hcl)
 rw[hυ] at hc ⊢
 have hk:n.kind=2∨n.kind=3∨n.kind=5∨n.kind=6∨n.kind=8:=Classical.byContradiction λ hk=>by have:=hc0 hk;omega
 have hv:=(hce hk).2
 refine⟨by rw[hv];exact hi.ins.1,by rw[hv,hlen];have:=hi.ins.2;omega,λ i' k=>?_,λ m k=>?_,λ d k=>?_,λ k=>?_,λ k=>?_⟩<;>rw[hct] at k<;>rw[hv]
 ·unfold Ha at k
  split at k
  ·rename_i h2
   cases k
   rw[hnd,hway]
   exact⟨h2,(hi.k2 h2).up l⟩
  ·split at k<;>cases k
 ·unfold Ha at k
  split at k
  ·cases k
  ·split at k
   ·cases k
   ·cases k
    have hm:bU n:=by unfold bU;omega
    rw[hnd]
    refine⟨hm,?_⟩
    rcases hi.kp hm with h1|⟨h1,h2⟩
    ·exact .inl h1
    ·exact .inr (.inl ⟨by rw[hway,hgb];exact h1.up l,aV.up h h1.1 h2 l⟩)
 ·unfold Ha at k
  split at k
  ·cases k
  ·split at k
   ·rename_i h8
    exact .inl (hi.k8 h8)
   ·cases k
 ·unfold Ha at k
  split at k
  ·cases k
  ·split at k<;>cases k
 ·unfold Ha at k
  split at k
  ·cases k
  ·split at k<;>cases k
end
end

/- Tries of worlds: the nodes that the procedures make. -/
section
open Go.Ct
theorem cX{a b:Int}{p:Prop}(k:a=b)(h:a≠b:=by decide):p:=absurd k h
theorem di{gen h u:Int}{k:ByteArray}{n c:Nat}(hg:0<=gen)(hk:k.size<=64):lE gen n (cO (({Nd.zero with kind:=5,hash:=h,key:=k,val:=u}:Nd).c [] []) c).dv :=
 ⟨⟨by simp[oU,Nd.own,Nd.fI,Nd.eZ,Nd.zero,cO,Nd.c,Nv.dv,Nv.nd],by simp[cO,Nd.c,Nv.dv,Nv.nd,Nd.zero],by simp[cO,Nd.c,Nv.dv,Nv.nd,Nd.zero];omega,by simp[cO,Nd.c,Nv.dv,Nv.nd,Nd.zero],.inr (.inr (.inr (.inl ⟨.inr rfl,hk⟩)))⟩,hg,λ i hi=>by simp[cO,Nd.c,Nv.dv] at hi,eO,eO,eO⟩
theorem jl{gen p:Int}{n c:Nat}(hg:0<=gen)(h1:1<=p)(h2:p<=n):lE gen n (cO (Au p) c).dv :=
 ⟨⟨by simp[oU,Nd.own,Nd.fI,Nd.eZ,Nd.zero,cO,Nd.c,Nv.dv,Nv.nd,Au],by simp[cO,Nd.c,Nv.dv,Nv.nd,Nd.zero,Au],by simp[cO,Nd.c,Nv.dv,Nv.nd,Nd.zero,Au],by simp[cO,Nd.c,Nv.dv,Nv.nd,Nd.zero,Au],.inr (.inr (.inr (.inr (.inr (.inr ⟨rfl,h1⟩)))))⟩,hg,λ i hi=>by simp[cO,Nd.c,Nv.dv,Au] at hi,⟨by show 0<=p;omega,h2⟩,eO,eO⟩
theorem dy{gen a b d:Int}{n c:Nat}(hg:0<=gen)(a1:1<=a)(a2:a<=n)(b1:1<=b)(b2:b<=n)(d1:1<=d)(d2:d<=n):lE gen n (cO (zT a b d) c).dv :=
 ⟨⟨by simp[oU,Nd.own,Nd.fI,Nd.eZ,Nd.zero,cO,Nd.c,Nv.dv,Nv.nd,zT],by simp[cO,Nd.c,Nv.dv,Nv.nd,Nd.zero,zT],by simp[cO,Nd.c,Nv.dv,Nv.nd,Nd.zero,zT],by simp[cO,Nd.c,Nv.dv,Nv.nd,Nd.zero,zT];omega,.inr (.inr (.inr (.inr (.inr (.inl ⟨rfl,b1,d1,a1⟩)))))⟩,hg,λ i hi=>by simp[cO,Nd.c,Nv.dv,zT] at hi,⟨by show 0<=a;omega,a2⟩,⟨by show 0<=b;omega,b2⟩,⟨by show 0<=d;omega,d2⟩⟩
theorem wA{n:Nv}{N c:Nat}(h1:n.bL<=N)(h2:n.exp<=N)(h3:n.new<=N)(h4:∀r∈n.xs,r<=N)(hb:∃b:Nat,n.bm=(b:Int)/\b<18446744073709551616)(hh:∃b:Nat,n.hash=(b:Int)/\b<18446744073709551616):nE N (c+1) (cO n c) :=
 ⟨h1,h2,h3,h4,by show(if n.kind=2 then((c+1:Nat):Int) else 0)<=((c+1:Nat):Int);split<;>omega,by show(if n.kind=3∨n.kind=5∨n.kind=6 then((c+1:Nat):Int) else 0)<=((c+1:Nat):Int);split<;>omega,by show(if n.kind=8 then((c+1:Nat):Int) else 0)<=((c+1:Nat):Int);split<;>omega,hb,hh⟩
theorem hU:∃b:Nat,(0:Int)=(b:Int)/\b<18446744073709551616:=⟨0,rfl,by decide⟩
section
variable{H:ByteArray->Nat}{σ τ υ:Kw}{r:Int}{w:List Nat}
theorem Wq{p g:Int}(h:Inv H σ)(hp:bU (σ.nd p)):iX H σ (Au p) w g:=by
 have hr:1<=p/\p<=σ.len:=gC hp
 exact⟨.inr (.inr (.inr (.inr (.inr (.inl rfl))))),jl h.gen hr.1 (by have:=hr.2;omega),wA (by show p<=_;have:=hr.2;omega) (bE _) (bE _) (λ r hr=>nomatch hr) hU hU,
  λ k=>cX (a:=7) (b:=2) k,λ k=>cX (a:=7) (b:=3) k,λ k=>cX (a:=7) (b:=4) k,λ k=>cX (a:=7) (b:=5) k,λ k=>cX (a:=7) (b:=6) k,λ _=>hp,λ k=>cX (a:=7) (b:=8) k⟩
theorem yR{g g':Int}(hw:w.length<=11)(h1:1<=g')(h2:g'<=σ.mm.gen):iX H σ (lG g') w g :=
 ⟨.inl rfl,wG h2 h1,wA (bE _) (bE _) (bE _) (λ r hr=>nomatch hr) hU hU,
  λ _=>hw,λ k=>cX (a:=2) (b:=3) k,λ k=>cX (a:=2) (b:=4) k,λ k=>cX (a:=2) (b:=5) k,λ k=>cX (a:=2) (b:=6) k,λ k=>cX (a:=2) (b:=7) k,λ k=>cX (a:=2) (b:=8) k⟩
theorem Zt{a b d g:Int}(h:Inv H σ)(ha:rI σ a [])(hb1:1<=b)(hb2:b<=σ.len)(hd:rI σ d []):iX H σ (zT a b d) w g:=by
 have h1:=ha.in
 have h2:=hd.in
 exact⟨.inr (.inr (.inr (.inr (.inr (.inr rfl))))),dy h.gen h1.1 (by omega) hb1 (by omega) h2.1 (by omega),wA (by show a<=_;omega) (by show b<=_;omega) (by show d<=_;omega) (λ r hr=>nomatch hr) hU hU,
  λ k=>cX (a:=8) (b:=2) k,λ k=>cX (a:=8) (b:=3) k,λ k=>cX (a:=8) (b:=4) k,λ k=>cX (a:=8) (b:=5) k,λ k=>cX (a:=8) (b:=6) k,λ k=>cX (a:=8) (b:=7) k,λ _=>⟨ha,hd⟩⟩
theorem xV{h:Nat}{k:ByteArray}{u g:Int}(i:Inv H σ)(hk:k.size<=64)(hh:H k=h)(hl:h<18446744073709551616):iX H σ (Cx h k u) w g :=
 ⟨.inr (.inr (.inl rfl)),E5 i.gen hk,wA (bE _) (bE _) (bE _) (λ r hr=>nomatch hr) hU ⟨h,rfl,hl⟩,
  λ k=>cX (a:=4) (b:=2) k,λ k=>cX (a:=4) (b:=3) k,λ _=>hh,λ k=>cX (a:=4) (b:=5) k,λ k=>cX (a:=4) (b:=6) k,λ k=>cX (a:=4) (b:=7) k,λ k=>cX (a:=4) (b:=8) k⟩
def Vb(h:Int)(k:ByteArray)(u:Int):Nv:=({Nd.zero with kind:=5,hash:=h,key:=k,val:=u}:Nd).c [] []
theorem C8{h:Nat}{k:ByteArray}{u g:Int}(i:Inv H σ)(hk:k.size<=64)(hh:H k=h)(hl:h<18446744073709551616)(w0:0<w.length)(w1:w.length<=11)(hu:fO h w):iX H σ (Vb h k u) w g :=
 ⟨.inr (.inr (.inr (.inl rfl))),di i.gen hk,wA (bE _) (bE _) (bE _) (λ r hr=>nomatch hr) hU ⟨h,rfl,hl⟩,
  λ k=>cX (a:=5) (b:=2) k,λ k=>cX (a:=5) (b:=3) k,λ k=>cX (a:=5) (b:=4) k,λ _=>⟨w0,w1,hh,hu⟩,λ k=>cX (a:=5) (b:=6) k,λ k=>cX (a:=5) (b:=7) k,λ k=>cX (a:=5) (b:=8) k⟩
def Qw(h:Int)(ys:List Pr):Nv:=({Nd.zero with kind:=6,hash:=h}:Nd).c [] ys
theorem Co{h:Nat}{ys:List Pr}{g:Int}(i:Inv H σ)(h2:2<=ys.length)(ha:ir ys)(hs:Aj ys)(hh:∀p∈ys,H p.1=h)(hl:h<18446744073709551616)(w1:w.length=11)(hu:fO h w):iX H σ (Qw h ys) w g :=
 ⟨.inr (.inr (.inr (.inr (.inl rfl)))),bu i.gen h2 ha hs,wA (bE _) (bE _) (bE _) (λ r hr=>nomatch hr) hU ⟨h,rfl,hl⟩,
  λ k=>cX (a:=6) (b:=2) k,λ k=>cX (a:=6) (b:=3) k,λ k=>cX (a:=6) (b:=4) k,λ k=>cX (a:=6) (b:=5) k,λ _=>⟨w1,hu,hh⟩,λ k=>cX (a:=6) (b:=7) k,λ k=>cX (a:=6) (b:=8) k⟩
theorem Ph{m:Nat->Option Int}{x:Int}:∀{k:Nat},x∈oA m k->∃j,j<k/\m j=some x
 | 0,h=>nomatch h
 | k+1,h=>by
  simp only[oA,List.mem_append,Option.mem_toList] at h
  rcases h with h|h
  ·obtain⟨j,h1,h2⟩:=Ph h
   exact⟨j,by omega,h2⟩
  ·exact⟨k,Nat.lt_succ_self k,h⟩
theorem Ir{b:Nat}{xs:List Int}(h:BV b xs){x:Int}(hx:x∈xs):∃j,j<64/\nT b xs j=some x:=by
 rw[<- (Nk h).2] at hx
 exact Ph hx
theorem Pn{b:Nat}{xs:List Int}(h:BV b xs){k:Nat}(hk:k<64){x:Int}(hx:nT b xs k=some x):x∈xs:=by
 unfold nT at hx
 split at hx
 ·rename_i hb
  cases hx
  exact yM (by rw[h.len];exact mS hk hb)
 ·cases hx
theorem rk{v:Nv}{k:Nat}(hk:64<=k):jF v (k:Int)=none:=by
 unfold jF G6
 rw[Pv _ (by omega)]
 simp
theorem H4{v:Nv}(hcv:CV v.nd v.xs v.ys){k:Nat}(hk:k<64):jF v (k:Int)=nT v.bm.toNat v.xs k:=Rb hcv hk
theorem Hy.le{g g' b:Int}(h:Hy σ w g b)(hg:g<=g'):Hy σ w g' b:=by
 rcases h with h|h
 ·exact .inl h
 ·exact .inr ⟨h.1,h.2.1,Int.le_trans h.2.2 hg⟩
theorem Hy.in{g b:Int}(h:Hy σ w g b):1<=b/\b<=σ.len:=by
 rcases h with h|h<;>exact cY (N:=σ.mm.nodes) (i:=b) (by rw[h.1];decide)
theorem lM{b:Nat}{xs:List Int}{g:Int}(i:Inv H σ)(hb:BV b xs)(hx:∀k:Nat,k<64->∀r,nT b xs k=some r->Hy σ (w++[k]) g r)(hw:w.length<=10)(h0:0<w.length->xs≠[]/\∀b,xs=[b]->(σ.nd b).kind=2):iX H σ (Ax b xs) w g:=by
 have hr:∀r∈xs,1<=r/\r<=σ.len:=λ r hr=>by
  obtain⟨j,h1,h2⟩:=Ir hb hr
  exact(hx j h1 r h2).in
 have hok:lE σ.mm.gen (σ.len+1) (cO (Ax b xs) σ.cl).dv:=wF i.gen hb (λ r h=>by have:=(hr r h).2;omega)
 refine⟨.inr (.inl rfl),hok,wA (bE _) (bE _) (bE _) (λ r h=>by have:=(hr r h).2;omega) ⟨b,rfl,hb.lt⟩ hU,
  λ k=>cX (a:=3) (b:=2) k,λ _=>⟨hw,λ k r hk=>?_,h0⟩,λ k=>cX (a:=3) (b:=4) k,λ k=>cX (a:=3) (b:=5) k,λ k=>cX (a:=3) (b:=6) k,λ k=>cX (a:=3) (b:=7) k,λ k=>cX (a:=3) (b:=8) k⟩
 by_cases h64:k<64
 ·rw[H4 (v:=cO (Ax b xs) σ.cl) ⟨rfl,hok.1⟩ h64] at hk
  exact hx k h64 r hk
 ·rw[rk (by omega)] at hk
  cases hk
structure jV(σ:Kw)(m:Int)(w:List Nat)(g:Int)(b:Nat)(xs:List Int):Prop where
 kd:(σ.nd m).kind=3
 bm:(σ.nd m).bm.toNat=b
 el:(σ.nd m).xs=xs
 cv:CV (σ.nd m).nd (σ.nd m).xs (σ.nd m).ys
 bv:BV b xs
 wl:w.length<=10
 br:∀k:Nat,k<64->∀r,nT b xs k=some r->Hy σ (w++[k]) g r
 ne:0<w.length->xs≠[]/\∀b,xs=[b]->(σ.nd b).kind=2
theorem lP.kY{m g:Int}(i:Inv H σ)(h:lP σ m w g)(k:(σ.nd m).kind=3):jV σ m w g (σ.nd m).bm.toNat (σ.nd m).xs:=by
 have hr:=h.in
 have hn:=i.nd m hr.1 hr.2
 obtain⟨h1,h2,h3,_⟩:=hn.k3 k
 have hcv:CV (σ.nd m).nd (σ.nd m).xs (σ.nd m).ys:=⟨k,hn.valid⟩
 obtain⟨b,hb1,hb2⟩:=hn.bd.bm
 have hb:(σ.nd m).bm.toNat=b:=by omega
 rw[h.2.1] at h1 h2 h3
 refine⟨k,rfl,rfl,hcv,by rw[hb];exact hcv.bv hb1 hb2,h1,λ k' hk r hr=>?_,h3⟩
 exact(h2 k' r (by rw[H4 hcv hk];exact hr)).le h.2.2
theorem jV.lk{m g:Int}{b:Nat}{xs:List Int}(h:jV σ m w g b xs){k:Nat}(hk:k<64):jF (σ.nd m) (k:Int)=nT b xs k:=by rw[H4 h.cv hk,h.bm,h.el]
theorem jV.up{m g r:Int}{b:Nat}{xs:List Int}(h:jV σ m w g b xs){k:Nat}(hk:k<64){o:Int}(ho:jF (σ.nd m) (k:Int)=some o)(hr:1<=r):Np (σ.nd m) (k:Int) r=Ax b (oG xs (eE b k) r)/\BV b (oG xs (eE b k) r)/\(∀j,j<64->nT b (oG xs (eE b k) r) j=Ff (nT b xs) k (some r) j)/\eE b k<xs.length:=by
 rw[h.lk hk] at ho
 have hb:b.testBit k=true:=by unfold nT at ho;split at ho;assumption;cases ho
 have hu:=M3 h.bv hk hb hr
 refine⟨?_,hu.1,hu.2,by rw[h.bv.len];exact mS hk hb⟩
 unfold Np Zz
 rw[if_pos ⟨h.cv,hr,by rw[h.bm,nV b hk];exact hb⟩,h.bm,h.el,mC b hk]
 rfl
theorem jV.ins{m g r:Int}{b:Nat}{xs:List Int}(h:jV σ m w g b xs){k:Nat}(hk:k<64)(ho:jF (σ.nd m) (k:Int)=none)(hr:1<=r):qe (σ.nd m) (k:Int) r=Ax (b ||| 2^k) (tX xs (eE b k) r)/\BV (b ||| 2^k) (tX xs (eE b k) r)/\(∀j,j<64->nT (b ||| 2^k) (tX xs (eE b k) r) j=Ff (nT b xs) k (some r) j)/\(tX xs (eE b k) r).length=xs.length+1:=by
 rw[h.lk hk] at ho
 have hb:b.testBit k=false:=by
  unfold nT at ho
  cases hb:b.testBit k with
  | false=>rfl
  | true=>rw[hb] at ho;simp at ho
 have hu:=Cn h.bv hk hb hr
 refine⟨?_,hu.1,hu.2,B8 (by rw[h.bv.len];have:=sW b k (64-k);rwa [show k+(64-k)=64 by omega] at this) r⟩
 unfold qe Zy
 rw[if_pos ⟨h.cv,⟨by omega,by omega⟩,hr,by rw[h.bm,nV b hk];exact hb⟩,h.bm,h.el,mC b hk,nJ b hk]
 rfl
theorem jV.re{m g:Int}{b:Nat}{xs:List Int}(h:jV σ m w g b xs){k:Nat}(hk:k<64){o:Int}(ho:jF (σ.nd m) (k:Int)=some o):I9 (σ.nd m) (k:Int)=Ax (b ^^^ (b &&& 2^k)) (pL xs (eE b k))/\BV (b ^^^ (b &&& 2^k)) (pL xs (eE b k))/\(∀j,j<64->nT (b ^^^ (b &&& 2^k)) (pL xs (eE b k)) j=Ff (nT b xs) k none j)/\(pL xs (eE b k)).length+1=xs.length:=by
 rw[h.lk hk] at ho
 have hb:b.testBit k=true:=by unfold nT at ho;split at ho;assumption;cases ho
 have hu:=Nj h.bv hk hb
 refine⟨?_,hu.1,hu.2,B2 (by rw[h.bv.len];exact mS hk hb)⟩
 unfold I9 Z0
 rw[if_pos ⟨h.cv,by rw[h.bm,nV b hk];exact hb⟩,h.bm,h.el,mC b hk,qP b hk]
 rfl
end
end

end Go.Proofs.YtadnboagdhcedaaGreatDoor
