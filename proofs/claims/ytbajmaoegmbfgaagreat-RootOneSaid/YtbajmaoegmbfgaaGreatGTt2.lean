/- Merged. -/
import Derived.Test.YtbajmaoegmbfgaaGreatGAutoD
import Derived.Test.YtbajmaoegmbfgaaGreatGQw1
import Derived.Test.YtbajmaoegmbfgaaGreatGWo7
import Derived.Test.YtbajmaoegmbfgaaGreatGBr6
set_option linter.unusedSimpArgs false
set_option linter.unusedVariables false
namespace Go.Ct
open Go Go.RowKit
section
abbrev AS.W8(a:AS)(cs:List Int):AS:={a with cs:=cs,acc:=up a.acc}
theorem AS.Ok.W8{a:AS}(ok:a.Ok){x o n:Int}(hn:n<=a.mm.nodes.length):(a.W8 (eC a.cs x o n)).Ok:=⟨ok.fit,ok.mo.iQ hn⟩
end
end Go.Ct
namespace Go.Proofs.YtbajmaoegmbfgaaGreat
open Go.Proofs.Tryz (prog)
open Go Go.RowKit Go.Ct
section
section
variable{D:List Nat}{A B:Fr}{a:AS}{b bt n:Nat}{w:World}{c:Cd}{t:Tr}{f:FuncId}{cap:List Value}
theorem cu(h:U2 b t a.mm f cap B)(ok:a.Ok)(hm:a.mm.Small)(hA:∀f∈aL a.L,f∈A)(hB:∀x∈B,x∈A)(hs:SF w D [(b,dL a)] A [] (dZ a) w) :
  Calls prog 118 #[.func (.func f) #[] ⟨cap⟩] w (Ax b (λ c' s' B'=>kB b t a.mm c' s' B') a B D w):=by
 obtain⟨hp,h⟩:=h
 refine Rk Tryz.func118 Tryz.ntmps118 rfl rfl hs ?_
 simp only[cE]
 refine fR ?_;refine dU ?_;refine wU (λ x2=>?_);refine iM ?_;refine fR ?_;refine dU ?_;(refine gH cD rfl ?_);refine He rfl ?_;refine iM ?_;refine fR ?_;refine fR ?_;refine dU ?_;refine pC ?_;refine gH (Mo rf rf (aBs _ _ _)) rfl ?_;refine iM ?_
 refine Je (λ c5=>?_) (λ c5=>?_)
 ·exact nv c5
 ·revert c5;(skip);intro c5
  refine Eb ?_;refine fR ?_;refine dU ?_;refine pC ?_;refine zT (cMf (V:=λ y:Cd×Fr×AS=>.agg ⟨y.1.cells⟩) (hs:=[(b,dL a)]) (os:=dZ a) (hs':=λ y=>[(b,dL y.2.2)]) (os':=λ y=>dZ y.2.2) (Fc:=λ y=>y.2.1) (A0:=A) (f:=f) (cap:=cap) (vs:=[]) (hp:=hp) (hc:=λ w1 hw=>h a.mm (Mm.Le.refl _) a _ A w1 rfl ok hm hA hB hw)) (λ x8 h8=>?_);refine Lo (gK λ _=>aW rf cR rf (cN _) eE rf jC) (λ _=>?_);refine iM ?_
  refine Hi (Rt _) (by kernel_rfl) Tryz.results118 (.cell rf cR eE .nil) (λ w hw=>?_)
  exact⟨x8,rfl,h8,hw.ret (by repeat (first|exact List.Sublist.refl _|apply List.Sublist.cons)) (aV.kN λ f hf=>by simpa using hf) (List.Sublist.refl _)⟩
theorem Gt{x:Int}{k:Int->Tr}(hr:kB b (.load x k) a.mm c a.mm B)(ok:a.Ok)(hm:a.mm.Small)(hA:∀f∈aL a.L,f∈A)(hB:∀x∈B,x∈A)(hs:SF w D [(b,dL a)] A [] (dZ a) w) :
  Calls prog 86 #[.iface 42 (.pointer (some ⟨b,0,none⟩)),.agg ⟨c.cells⟩] w (Ax b (λ c' s' B'=>kB b (k (aY a.cs x)) a.mm c' s' B') a B D w):=by
 obtain⟨_,hx,f,cap,rfl,hp,hk⟩:=hr
 have hl:a.cs.length<=274877906944:=by have:=hm.2;show a.mm.cs.length<=_;omega
 have hv:aY a.cs x<=a.mm.nodes.length:=ok.mo.cell x
 refine Rk Tryz.func86 Tryz.ntmps86 rfl rfl hs ?_
 simp only[cE]
 refine fR ?_;refine dU ?_;refine mw (λ x3=>?_);refine wU (λ x4=>?_);refine iM ?_;refine fR ?_;refine dU ?_;(refine gH cD rfl ?_);refine He rfl ?_;refine iM ?_;refine fR ?_;refine dU ?_;refine eI ?_;refine gH (aP (k:=4) (vs:=(nK x f cap).a.cells) rf cR eE rfl rfl) rfl ?_;refine wU (λ x5=>?_);refine O7 (λ _=>?_);refine iM ?_;refine fR ?_;refine fR ?_;refine dU ?_;refine eI ?_;refine nM ?_;refine ef ?_;refine iM ?_
 refine Je (λ c13=>?_) (λ c13=>?_)
 ·revert c13;(refine cv1 ?_);intro c13
  refine fR ?_;refine dU ?_;refine zL (λ _=>?_);refine iM ?_;refine fR ?_;refine fR ?_;refine dU ?_;refine pC ?_;refine gH (Tz rf rf (Di _)) rfl ?_;refine iM ?_
  refine Je (λ c15=>?_) (λ c15=>?_)
  ·revert c15;(skip);intro c15
   refine dU ?_;refine pC ?_;refine eI ?_;refine nM ?_;refine zT (cMI (V:=λ _:Unit=>.int .i64 (aY a.cs x)) (os':=λ _=>dZ (a.W8 a.cs)) (hs':=λ _=>[(b,dL (a.W8 a.cs))]) (Fc:=λ _=>[]) (A0:=A) (hm:=λ w=>l8 _ _ w) (hc:=λ w hw=>V9 hw x hx hl)) (λ x19 h19=>?_);refine zL (λ _=>?_);refine iM ?_;refine fR ?_;refine fR ?_;refine dU ?_;refine eI ?_;refine nM ?_;refine gH (Mo rf rf (aB4 _ _ _)) rfl ?_;refine iM ?_
   refine Je (λ c22=>?_) (λ c22=>?_)
   ·exact nv c22
   ·revert c22;(skip);intro c22
    refine Eb ?_;refine fR ?_;refine dU ?_;refine eI ?_;refine nM ?_;refine pC ?_;refine zT (cMf (V:=λ y:Cd×Fr×AS=>.agg ⟨y.1.cells⟩) (hs:=[(b,dL (a.W8 a.cs))]) (os:=dZ (a.W8 a.cs)) (hs':=λ y=>[(b,dL y.2.2)]) (os':=λ y=>dZ y.2.2) (Fc:=λ y=>y.2.1) (A0:=A) (f:=f) (cap:=cap) (vs:=[.int .i64 (aY a.cs x)]) (hp:=hp) (hc:=λ w1 hw=>hk (aY a.cs x) a.mm (Mm.Le.refl _) hv (a.W8 a.cs) _ A w1 rfl ⟨ok.fit,ok.mo⟩ hm hA hB hw)) (λ x27 h27=>?_);refine Lo (gK λ _=>aW rf cR rf (cN _) eE rf jC) (λ _=>?_);refine iM ?_
    refine Hi (yE _) (by kernel_rfl) Tryz.results86 (.cell rf cR eE .nil) (λ w hw=>?_)
    exact⟨x27,rfl,⟨h27.1,h27.2.1,⟨h27.2.2.le,h27.2.2.fam⟩⟩,hw.ret (by repeat (first|exact List.Sublist.refl _|apply List.Sublist.cons)) (aV.kN λ f hf=>by simpa using hf) (List.Sublist.refl _)⟩
  ·exact nv c15
 ·revert c13;(refine cv2 ?_);intro c13
  exact(c13 rfl).elim
theorem Ih{x o n:Int}{k:Bool->Tr}(hr:kB b (.iQ x o n k) a.mm c a.mm B)(ok:a.Ok)(hm:a.mm.Small)(hA:∀f∈aL a.L,f∈A)(hB:∀x∈B,x∈A)(hs:SF w D [(b,dL a)] A [] (dZ a) w) :
  Calls prog 86 #[.iface 42 (.pointer (some ⟨b,0,none⟩)),.agg ⟨c.cells⟩] w (Ax b (λ c' s' B'=>kB b (k (Mr a.cs x o)) ⟨a.mm.nodes,eC a.cs x o n,a.gen⟩ c' s' B') a B D w):=by
 obtain⟨_,hx,hn,f,cap,rfl,hp,hk⟩:=hr
 have hl:a.cs.length<=274877906944:=by have:=hm.2;show a.mm.cs.length<=_;omega
 have hle:a.mm.Le ⟨a.mm.nodes,eC a.cs x o n,a.gen⟩:=⟨⟨[],by simp⟩,by show a.cs.length<=(eC a.cs x o n).length;rw[eZ];exact Nat.le_refl _⟩
 have hm2:Mm.Small ⟨a.mm.nodes,eC a.cs x o n,a.gen⟩:=⟨hm.1,by show(eC a.cs x o n).length<=_;rw[eZ];exact hm.2⟩
 refine Rk Tryz.func86 Tryz.ntmps86 rfl rfl hs ?_
 simp only[cE]
 refine fR ?_;refine dU ?_;refine mw (λ x3=>?_);refine wU (λ x4=>?_);refine iM ?_;refine fR ?_;refine dU ?_;(refine gH cD rfl ?_);refine He rfl ?_;refine iM ?_;refine fR ?_;refine dU ?_;refine eI ?_;refine gH (aP (k:=4) (vs:=(uB x o n f cap).a.cells) rf cR eE rfl rfl) rfl ?_;refine wU (λ x5=>?_);refine O7 (λ _=>?_);refine iM ?_;refine fR ?_;refine fR ?_;refine dU ?_;refine eI ?_;refine nM ?_;refine ef ?_;refine iM ?_
 refine Je (λ c13=>?_) (λ c13=>?_)
 ·revert c13;(refine cv1 ?_);intro c13
  exact absurd (show(2:Int)=1 from c13) (by decide)
 ·revert c13;(refine cv2 ?_);intro c13
  refine Eb ?_;refine fR ?_;refine dU ?_;refine pC ?_;refine gH (Tz rf rf (Di _)) rfl ?_;refine pC ?_
  (refine vY ?_;refine pC ?_)
  ((refine vY ?_;refine eI ?_));((refine vY ?_;refine nM ?_));((refine vY ?_;refine eI ?_));((refine vY ?_;refine nM ?_));((refine vY ?_;refine eI ?_));((refine vY ?_;refine nM ?_));((refine vY ?_;refine zT (cMI (V:=Value.bool) (os':=λ _=>dZ (a.W8 (eC a.cs x o n))) (hs':=λ _=>[(b,dL (a.W8 (eC a.cs x o n)))]) (Fc:=λ _=>[]) (A0:=A) (hm:=λ w=>sj _ _ _ _ w) (hc:=λ w hw=>aAj hw x o n hx hl)) (λ x38 h38=>?_)));refine sf ?_;refine zL (λ _=>?_);refine iM ?_;refine fR ?_;refine fR ?_;refine dU ?_;refine eI ?_;refine nM ?_;refine gH (Mo rf rf (aB5 _ _ _)) rfl ?_;refine iM ?_
  refine Je (λ c42=>?_) (λ c42=>?_)
  ·exact nv c42
  ·revert c42;(skip);intro c42
   refine Eb ?_;refine fR ?_;refine dU ?_;refine eI ?_;refine nM ?_;refine pC ?_;refine zT (cMf (V:=λ y:Cd×Fr×AS=>.agg ⟨y.1.cells⟩) (hs:=[(b,dL (a.W8 (eC a.cs x o n)))]) (os:=dZ (a.W8 (eC a.cs x o n))) (hs':=λ y=>[(b,dL y.2.2)]) (os':=λ y=>dZ y.2.2) (Fc:=λ y=>y.2.1) (A0:=A) (f:=f) (cap:=cap) (vs:=[.bool x38]) (hp:=hp) (hc:=λ w1 hw=>hk x38 _ hle (a.W8 (eC a.cs x o n)) _ A w1 rfl (ok.W8 hn) hm2 hA hB hw)) (λ x47 h47=>?_);refine Lo (gK λ _=>aW rf cR rf (cN _) eE rf jC) (λ _=>?_);refine iM ?_
   refine Hi (yE _) (by kernel_rfl) Tryz.results86 (.cell rf cR eE .nil) (λ w hw=>?_)
   exact⟨x47,rfl,⟨D5 h38▸h47.1,h47.2.1,⟨hle.trans h47.2.2.le,h47.2.2.fam⟩⟩,hw.ret (by repeat (first|exact List.Sublist.refl _|apply List.Sublist.cons)) (aV.kN λ f hf=>by simpa using hf) (List.Sublist.refl _)⟩
def qN(b:Nat)(p:Tr×Mm)(a:AS)(B:Fr)(y:Cd×Fr×AS):Prop:=(kB b p.1 p.2 y.1 p.2 (y.2.1++B)/\y.2.2.mm=p.2)/\y.2.2.Ok/\a.gQ y.2.2 y.2.1
theorem qN.of{t0:Tr}{s0:Mm}{y:Cd×Fr×AS}{i m:Nat}(ht:bS t0 i m)(h:kB b t0 s0 y.1 y.2.2.mm (y.2.1++B)/\y.2.2.Ok/\a.gQ y.2.2 y.2.1):qN b (Ct.gW t0 s0) a B y/\cS (Ct.gW t0 s0).1=true:=by
 obtain⟨h1,h2,h3⟩:=kB.gW ht h.1
 exact⟨⟨⟨by rw[h1];exact h3,h1.symm⟩,h.2⟩,h2⟩
theorem P4{i m:Nat}(ht:bS t (i+1) m)(ha:cS t=true)(hlv:t.live=true)(hr:kB b t a.mm c a.mm B)(ok:a.Ok)(hm:a.mm.Small)(hA:∀f∈aL a.L,f∈A)(hB:∀x∈B,x∈A)(hs:SF w D [(b,dL a)] A [] (dZ a) w) :
  Calls prog 86 #[.iface 42 (.pointer (some ⟨b,0,none⟩)),.agg ⟨c.cells⟩] w λ e w'=>∃y:Cd×Fr×AS,e=.returned (.agg ⟨y.1.cells⟩)/\(qN b (vF (t,a.mm)) a B y/\cS (vF (t,a.mm)).1=true)/\SF w D [(b,dL y.2.2)] [] y.2.1 (dZ y.2.2) w':=by
 cases t with
 | done r=>cases hlv
 | load x k=>exact(Gt hr ok hm hA hB hs).mono λ e w' ⟨y,he,h,hw⟩=>⟨y,he,qN.of (ht _) h,hw⟩
 | iQ x o n k=>exact(Ih hr ok hm hA hB hs).mono λ e w' ⟨y,he,h,hw⟩=>⟨y,he,qN.of (ht _) h,hw⟩
 | alloc n i k=>cases ha
 | cell i k=>cases ha
 | gen k=>cases ha
 | node r k=>cases ha
 | stuck=>cases ha
theorem Jw{i m:Nat}(ht:bS t (i+1) m)(ha:cS t=true)(hlv:t.live=true)(hr:kB b t a.mm c a.mm B)(ok:a.Ok)(hm:a.mm.Small)(hn:n<1000000000)(hA:∀f∈aL a.L,f∈A)(hB:∀x∈B,x∈A)(hs:SF w D [(bt,tO b c n),(b,dL a)] A [] (dZ a) w) :
  Calls prog 37 #[.pointer (some ⟨bt,0,none⟩)] w λ e w'=>∃y:Cd×Fr×AS,e=.returned (.tuple #[])/\(qN b (vF (t,a.mm)) a B y/\cS (vF (t,a.mm)).1=true)/\SF w D [(bt,tO b y.1 (n+1)),(b,dL y.2.2)] [] y.2.1 (dZ y.2.2) w':=by
 have hk:c.a.k≠0:=λ e=>by have:=(hr.kind ha).1.1 e;rw[hlv] at this;cases this
 refine enter Tryz.func37 Tryz.ntmps37 rfl rfl hs ?_
 simp only[cE]
 refine lI ?_;refine aM (cV (hc:=λ w1 hw=>wD (hw.st.at cR))) (λ x3=>?_);refine aA ?_
 (refine eG 4 (λ g4=>?_) (λ g4=>?_)<;>(try (exfalso;omega))<;>((refine Ka3 ?_)))
 ((refine aF ?_;refine dG ?_));refine J6 ?_;refine cA ?_;refine aG ?_
 refine bE (λ c9=>?_) (λ c9=>?_)
 ·exact nv c9
 ·try (exfalso;omega)
  refine aS ?_;refine J13 ?_;refine wV ?_;refine lQ ?_;refine F6 ?_;refine K5 ?_;refine aR ?_;refine gM [0,1,2,3,4,5,6,7,8,9,10,11,12] ?_;refine Xo ?_;refine J9 ?_;refine bT (i:=8) (hq:=(aP (k:=14) (vs:=c.cells) rf cR eE rfl rfl)) (h:=?_);refine bG (i:=9) (hq:=(cM (V:=λ y:Cd×Fr×AS=>.agg ⟨y.1.cells⟩) (Fc:=λ y=>y.2.1) (hs:=[(b,dL a)]) (os:=dZ a) (A0:=A) (hs':=λ y=>[(b,dL y.2.2)]) (os':=λ y=>dZ y.2.2) (hc:=λ w hw=>P4 ht ha hlv hr ok hm hA hB hw))) (h:=λ x29 h29=>?_);refine J4 ?_;refine lE (i:=12) (hq:=(gK λ _=>lU (off:=1) (vs:=x29.1.cells) (cs:=tkC b x29.1 (n+1) true) rf cR rf (cN _) eE (Nat.le_of_ble_eq_true rfl) rf jC)) (h:=λ _=>?_);refine eO ?_;refine wZ ?_;refine K5 ?_
  refine B9 Tryz.results37 (λ w hw=>?_)
  exact⟨x29,rfl,h29,hw.ret (List.Sublist.refl _) (aV.kN λ f hf=>by simpa using hf) (List.Sublist.refl _)⟩
theorem jr{i m:Nat}(ht:bS t i m)(h:U2 b t a.mm f cap B)(ok:a.Ok)(hm:a.mm.Small)(hA:∀f∈aL a.L,f∈A)(hB:∀x∈B,x∈A)(hs:SF w D [(b,dL a)] A [] (dZ a) w) :
  Calls prog 73 #[.iface 42 (.pointer (some ⟨b,0,none⟩)),.func (.func f) #[] ⟨cap⟩] w λ e w'=>∃x:Nat×Cd×Fr×AS,e=.returned (.pointer (some ⟨x.1,0,none⟩))/\(qN b (Ct.gW t a.mm) a B x.2/\cS (Ct.gW t a.mm).1=true)/\SF w D [(x.1,tO b x.2.1 0),(b,dL x.2.2.2)] [] x.2.2.1 (dZ x.2.2.2) w':=by
 refine enter Tryz.func73 Tryz.ntmps73 rfl rfl hs ?_
 simp only[cE]
 refine Kc3 ?_;refine bK ?_;refine bN (λ x8=>?_);refine zM ?_;refine aC (cM (V:=λ y:Cd×Fr×AS=>.agg ⟨y.1.cells⟩) (Fc:=λ y=>y.2.1) (hs:=[(b,dL a)]) (os:=dZ a) (A0:=A) (hs':=λ y=>[(b,dL y.2.2)]) (os':=λ y=>dZ y.2.2) (hc:=λ w1 hw=>cu h ok hm hA hB hw)) (λ x11 h11=>?_);refine Mi ?_;refine cB (gK λ _=>lU (off:=1) (vs:=x11.1.cells) (cs:=tkC b x11.1 0 false) rf cR rf (cN _) eE (Nat.le_of_ble_eq_true rfl) rf jC) (λ _=>?_);refine aG ?_;refine Ka5 ?_
 refine aN Tryz.results73 (λ w hw=>?_)
 exact⟨(x8,x11),rfl,qN.of ht h11,hw.ret (List.Sublist.refl _) (aV.kN λ f hf=>by simpa using hf) (List.Sublist.refl _)⟩
end
end
section
theorem mQ:∀{t:Tr} {n c:Nat} (s:Mm),bS t n c->∀c',bS (gW t s).1 n c'
 | .done _,_,_,_,_,_=>trivial
 | .load _ _,0,_,_,_,_=>trivial
 | .load _ _,_+1,_,_,h,_=>h
 | .iQ _ _ _ _,0,_,_,_,_=>trivial
 | .iQ _ _ _ _,_+1,_,_,h,_=>h
 | .alloc _ _ _,_,0,_,h,_=>h.elim
 | .alloc n i k,_,_+1,s,h,c'=>mQ (s.push n i) (h _) c'
 | .cell _ _,_,0,_,h,_=>h.elim
 | .cell i k,_,_+1,s,h,c'=>mQ ⟨s.nodes,s.cs++[i],s.gen⟩ (h _) c'
 | .gen _,_,0,_,h,_=>h.elim
 | .gen k,_,_+1,s,h,c'=>mQ ⟨s.nodes,s.cs,s.gen+1⟩ (h _) c'
 | .node r k,_,_,s,h,c'=>mQ (t:=k (bD s.nodes r)) s (h (bD s.nodes r)) c'
 | .stuck,_,_,_,h,_=>h.elim
theorem oF:∀{t:Tr} {n c:Nat} (s:Mm),bS t n c->cS (gW t s).1=true
 | .done _,_,_,_,_=>rfl
 | .load _ _,_,_,_,_=>rfl
 | .iQ _ _ _ _,_,_,_,_=>rfl
 | .alloc _ _ _,_,0,_,h=>h.elim
 | .alloc n i k,_,_+1,s,h=>oF (s.push n i) (h _)
 | .cell _ _,_,0,_,h=>h.elim
 | .cell i k,_,_+1,s,h=>oF ⟨s.nodes,s.cs++[i],s.gen⟩ (h _)
 | .gen _,_,0,_,h=>h.elim
 | .gen k,_,_+1,s,h=>oF ⟨s.nodes,s.cs,s.gen+1⟩ (h _)
 | .node r k,_,_,s,h=>oF (t:=k (bD s.nodes r)) s (h (bD s.nodes r))
 | .stuck,_,_,_,h=>h.elim
theorem pV:∀{t:Tr} {n c:Nat} (s:Mm),bS t n c->(gW t s).2.nodes.length<=s.nodes.length+c/\(gW t s).2.cs.length<=s.cs.length+c
 | .done _,_,_,_,_=>⟨Nat.le_add_right _ _,Nat.le_add_right _ _⟩
 | .load _ _,_,_,_,_=>⟨Nat.le_add_right _ _,Nat.le_add_right _ _⟩
 | .iQ _ _ _ _,_,_,_,_=>⟨Nat.le_add_right _ _,Nat.le_add_right _ _⟩
 | .alloc _ _ _,_,0,_,h=>h.elim
 | .alloc n i k,_,c+1,s,h=>by
  have h2:=pV (s.push n i) (h ((s.nodes.length+1:Nat):Int))
  have hl:=kA (k:=n.kind) (cs:=s.cs) (init:=i)
  simp only[Mm.push,List.length_append,List.length_cons,List.length_nil] at h2
  show(gW (k _) (s.push n i)).2.nodes.length<=_/\(gW (k _) (s.push n i)).2.cs.length<=_
  simp only[Mm.push]
  omega
 | .cell _ _,_,0,_,h=>h.elim
 | .cell i k,_,c+1,s,h=>by
  have h2:=pV ⟨s.nodes,s.cs++[i],s.gen⟩ (h ((s.cs.length+1:Nat):Int))
  simp only[List.length_append,List.length_cons,List.length_nil] at h2
  show(gW (k _) _).2.nodes.length<=_/\(gW (k _) _).2.cs.length<=_
  omega
 | .gen _,_,0,_,h=>h.elim
 | .gen k,_,c+1,s,h=>by
  have h2:=pV ⟨s.nodes,s.cs,s.gen+1⟩ (h (s.gen+1))
  dsimp only at h2
  show(gW (k _) _).2.nodes.length<=_/\(gW (k _) _).2.cs.length<=_
  omega
 | .node r k,_,c,s,h=>pV (t:=k (bD s.nodes r)) s (h (bD s.nodes r))
 | .stuck,_,_,_,h=>h.elim
theorem N3{t:Tr}{n c:Nat}(s:Mm)(ht:bS t (n+1) c)(ha:cS t=true)(c':Nat):bS (vF (t,s)).1 n c':=by
 cases t with
 | done r=>trivial
 | load x k=>exact mQ _ (ht _) c'
 | iQ x o m k=>exact mQ _ (ht _) c'
 | alloc n i k=>cases ha
 | cell i k=>cases ha
 | gen k=>cases ha
 | node r k=>cases ha
 | stuck=>cases ha
theorem Z8{t:Tr}{n c:Nat}(s:Mm)(ht:bS t (n+1) c)(ha:cS t=true):cS (vF (t,s)).1=true:=by
 cases t with
 | done r=>rfl
 | load x k=>exact oF _ (ht _)
 | iQ x o m k=>exact oF _ (ht _)
 | alloc n i k=>cases ha
 | cell i k=>cases ha
 | gen k=>cases ha
 | node r k=>cases ha
 | stuck=>cases ha
theorem Ob{t:Tr}{n c:Nat}(s:Mm)(ht:bS t (n+1) c)(ha:cS t=true):(vF (t,s)).2.nodes.length<=s.nodes.length+64/\(vF (t,s)).2.cs.length<=s.cs.length+64:=by
 cases t with
 | done r=>exact⟨Nat.le_add_right _ _,Nat.le_add_right _ _⟩
 | load x k=>exact pV s (ht _)
 | iQ x o m k =>
  have:=pV ⟨s.nodes,eC s.cs x o m,s.gen⟩ (ht (Mr s.cs x o))
  simp only[eZ] at this
  exact this
 | alloc n i k=>cases ha
 | cell i k=>cases ha
 | gen k=>cases ha
 | node r k=>cases ha
 | stuck=>cases ha
theorem A2{t:Tr}{n:Nat}{s:Mm}(ht:bS t n 64)(ha:cS t=true):∀k,k<=n->bS (kP (t,s) k).1 (n-k) 64/\cS (kP (t,s) k).1=true/\(kP (t,s) k).2.nodes.length<=s.nodes.length+64*k/\(kP (t,s) k).2.cs.length<=s.cs.length+64*k
 | 0,_=>⟨ht,ha,Nat.le_refl _,Nat.le_refl _⟩
 | k+1,h=>by
  obtain⟨h1,h2,h3,h4⟩:=A2 ht ha k (by omega)
  rw[show n-k=n-(k+1)+1 by omega] at h1
  have h5:(vF (kP (t,s) k)).2.nodes.length<=(kP (t,s) k).2.nodes.length+64/\(vF (kP (t,s) k)).2.cs.length<=(kP (t,s) k).2.cs.length+64:=Ob (kP (t,s) k).2 h1 h2
  exact⟨N3 _ h1 h2 64,Z8 _ h1 h2,by show(vF (kP (t,s) k)).2.nodes.length<=_;omega,by show(vF (kP (t,s) k)).2.cs.length<=_;omega⟩
def rH(p:Tr×Mm):Nat->Nat
 | 0=>0
 | k+1=>rH p k+if(kP p k).1.live=true then 1 else 0
theorem Pc{p:Tr×Mm}(h:p.1.live=false):vF p=p:=by
 obtain⟨t,s⟩:=p
 cases t<;>first|rfl|cases h
theorem O2{p:Tr×Mm}{j:Nat}(h:(kP p j).1.live=false):∀k,kP p (j+k)=kP p j/\rH p (j+k)=rH p j
 | 0=>⟨rfl,rfl⟩
 | k+1=>by
  obtain⟨h1,h2⟩:=O2 h k
  refine⟨?_,?_⟩
  ·show vF (kP p (j+k))=_
   rw[h1,Pc h]
  ·show rH p (j+k)+(if(kP p (j+k)).1.live=true then 1 else 0)=_
   rw[h1,h2,h]
   rfl
theorem Ju{p:Tr×Mm}{j k:Nat}(h:(kP p j).1.live=false)(hk:j<=k):kP p k=kP p j/\rH p k=rH p j:=by
 have:=O2 h (k-j)
 rwa [show j+(k-j)=k by omega] at this
structure wh(b:Nat)(p:Tr×Mm)(a:AS)(B:Fr)(y:Cd×Fr×AS):Prop where
 rp:kB b p.1 p.2 y.1 p.2 (y.2.1++B)
 mm:y.2.2.mm=p.2
 ok:y.2.2.Ok
 gr:a.gQ y.2.2 y.2.1
theorem wh.of{b:Nat}{p:Tr×Mm}{a:AS}{B:Fr}{y:Cd×Fr×AS}(h:qN b p a B y):wh b p a B y:=⟨h.1.1,h.1.2,h.2.1,h.2.2⟩
theorem mb{b:Nat}{t:Tr}{s:Mm}{c:Cd}{B:Fr}(h:kB b t s c s B)(ha:cS t=true):(c.a.k≠0↔t.live=true):=by
 have:=(h.kind ha).1
 cases hl:t.live with
 | false=>rw[hl] at this;exact⟨λ hn=>absurd (this.2 rfl) hn,λ h=>nomatch h⟩
 | true=>rw[hl] at this;exact⟨λ _=>rfl,λ _ e=>nomatch this.1 e⟩
section
variable{D:List Nat}{A B:Fr}{a:AS}{b bt n:Nat}{w:World}{c:Cd}{t:Tr}
theorem Nu{most m:Nat}(ht:bS t m 64)(hmm:most<=m)(ha:cS t=true)(hr:kB b t a.mm c a.mm B)(ok:a.Ok)(hm:a.mm.nodes.length+64*most<=137438953472/\a.mm.cs.length+64*most<=137438953472)(hn:n+most<1000000000)(hA:∀f∈aL a.L,f∈A)(hB:∀x∈B,x∈A)(hs:SF w D [(bt,tO b c n),(b,dL a)] A [] (dZ a) w) :
    Calls prog 30 #[.pointer (some ⟨bt,0,none⟩),.int .i64 ((most:Nat):Int)] w λ e w'=>∃y:Cd×Fr×AS,e=.returned (.int .i64 ((rH (t,a.mm) most:Nat):Int))/\wh b (kP (t,a.mm) most) a B y/\SF w D [(bt,tO b y.1 (n+rH (t,a.mm) most)),(b,dL y.2.2)] [] y.2.1 (dZ y.2.2) w':=by
  have hall:=λ k hk=>A2 (s:=a.mm) ht ha k hk
  refine enter Tryz.func30 Tryz.ntmps30 rfl rfl hs ?_
  simp only[cE]
  refine cZ ?_;refine cZ ?_;refine Cz ?_
  refine nS [5,6,7,8,9,10,11,12,13,14,15,16,17,18,19,20,21,22,23,24] (λ y:Nat×Cd×Fr×AS=>[(5,.int .i64 ((y.1:Nat):Int))]) (λ y=>y.1<=most/\wh b (kP (t,a.mm) y.1) a B y.2/\rH (t,a.mm) y.1=y.1) (λ y=>[(bt,tO b y.2.1 (n+y.1)),(b,dL y.2.2.2)]) (λ y=>y.2.2.1) (λ y=>dZ y.2.2.2) (λ y=>most-y.1) ((0,c,[],a)) (⟨Nat.zero_le _,⟨hr,rfl,ok,AS.gQ.refl a⟩,rfl⟩) (λ y f hx=>?_) (hw0:=λ w hw=>hw)
  dsimp only[iB,List.map,List.cons_append,List.nil_append]
  obtain⟨h1,h2,h3,h4⟩:=hall y.1 (by omega)
  have hrp:kB b (kP (t,a.mm) y.1).1 y.2.2.2.mm y.2.1 y.2.2.2.mm (y.2.2.1++B):=by rw[hx.2.1.mm];exact hx.2.1.rp
  have hsm:y.2.2.2.mm.Small:=by rw[hx.2.1.mm];exact⟨by omega,by omega⟩
  have hli:=mb hx.2.1.rp h2
  refine Da ?_;refine A8 ?_
  (refine eG 9 (λ g9=>?_) (λ g9=>?_)<;>refine Ka0 ?_)
  all_goals ((first|refine aI ?_|(refine aF ?_;refine aM (cV (hc:=λ w1 hw=>wD (hw.st.at cR))) (λ x11=>?_)));refine Ib ?_;refine aA ?_)
  all_goals (first|refine aI ?_|(refine eG 14 (λ g14=>?_) (λ g14=>?_)<;>refine Ka0 ?_))
  all_goals (refine Kb4 ?_;refine J6 ?_;refine Kb9 ?_)
  all_goals
   refine bE (λ c20=>?_) (λ c20=>?_)
   · try exact nv c20
     all_goals (refine aS ?_;refine cY ?_;refine J2 ?_;refine aC (cM (V:=λ _:Cd×Fr×AS=>.tuple #[]) (hs:=[(bt,tO b y.2.1 (n+y.1)),(b,dL y.2.2.2)]) (os:=dZ y.2.2.2) (Fc:=λ z=>z.2.1) (A0:=aL y.2.2.2.L++(y.2.2.1++B)) (hs':=λ z=>[(bt,tO b z.1 (n+y.1+1)),(b,dL z.2.2)]) (os':=λ z=>dZ z.2.2) (hA:=bI.of λ f hf=>(List.mem_append.1 hf).elim (λ h1=>(hx.2.1.gr.fam f h1).elim .inl λ h2=>h2.elim (λ h3=>.inr (.inl (hA f h3))) λ h3=>.inr (.inr (.inl h3))) λ h1=>(List.mem_append.1 h1).elim (λ h2=>.inr (.inr (.inl h2))) λ h2=>.inr (.inl (hB f h2))) (hc:=λ w hw=>Jw (i:=m-(y.1+1)) (m:=64) (by rw[show m-(y.1+1)+1=m-y.1 by omega];exact h1) h2 (hli.1 g14) hrp hx.2.1.ok hsm (by omega) (λ f hf=>List.mem_append_left _ hf) (λ f hf=>List.mem_append_right _ hf) hw)) (λ x22 h22=>?_);refine aG ?_;refine xI ?_;refine eL ?_)
     all_goals
      refine gU ((y.1+1,x22.1,x22.2.1++y.2.2.1,x22.2.2)) ?_ (hw1:=λ w hw=>hw)
      · have e1:kP (t,a.mm) (y.1+1)=vF ((kP (t,a.mm) y.1).1,y.2.2.2.mm):=by rw[hx.2.1.mm];rfl
        have h5:=wh.of h22.1
        have hlv:=hli.1 g14
        refine⟨by show y.1+1<=most;omega,⟨?_,?_,h5.ok,hx.2.1.gr.trans h5.gr⟩,?_⟩
        · rw[e1]
          show kB b _ _ _ _ (x22.2.1++y.2.2.1++B)
          rw[List.append_assoc]
          exact h5.rp
        · rw[e1];exact h5.mm
        · show rH (t,a.mm) y.1+_=y.1+1
          rw[hlv,hx.2.2]
          rfl
   · try exact nv c20
     all_goals (refine bR rfl ?_;refine Ka5 ?_)
     all_goals
      refine aN Tryz.results30 (λ w hw=>?_)
      have e:kP (t,a.mm) most=kP (t,a.mm) y.1/\rH (t,a.mm) most=y.1:=by
       first
        | (have h:=Ju (Bool.eq_false_iff.2 λ h=>hli.2 h g14) hx.1;exact⟨h.1,h.2.trans hx.2.2⟩)
        | (have em:most=y.1:=(by have:=hx.1;omega);rw[em];exact⟨rfl,hx.2.2⟩)
      rw[e.1,e.2]
      exact⟨y.2,rfl,hx.2.1,hw.ret (List.Sublist.refl _) (aV.kN λ f hf=>hf) (List.Sublist.refl _)⟩
end
end
end Go.Proofs.YtbajmaoegmbfgaaGreat
namespace Go.Ct
open Go Go.RowKit
section
section
variable{α:Type}
end
end
end Go.Ct
namespace Go.Proofs.YtbajmaoegmbfgaaGreat
open Go Go.RowKit Go.Ct
section
structure PX where
 e:EX
 m:Nat
 tb:Nat
 c:Cd
 n:Nat
structure LS where
 a:AS
 z:XS
 l:List PX
 B:Fr
section
variable{ba bm:Nat}
end
section
variable{ba bm Bz C:Nat}{D:List Nat}{A:Fr}{w:World}{a:AS}{z:XS}{l1 l2:List PX}{p:PX}{B:Fr}
end
end
end Go.Proofs.YtbajmaoegmbfgaaGreat
namespace Go.Ct
open Go Go.RowKit
section
section
variable{P:Program}{w:World}
variable{S:List (Nat×Value)}{G:World->Prop}{d:Nat}{ty t t':TypeId}{pos:String}{af:Array Edge}{gd:Option (Nat×Bool)}{x y:Operand}
instance:DecidableEq Ac:=λ a b=>if h:a.k=b.k/\a.c=b.c/\a.o=b.o/\a.n=b.n then isTrue (by cases a;cases b;simp_all) else isFalse (λ e=>h (by subst e;exact⟨rfl,rfl,rfl,rfl⟩))
instance:DecidableEq Rs:=λ a b=>if h:a.err=b.err/\a.found=b.found/\a.val=b.val/\a.key=b.key/\a.fY=b.fY/\a.ref=b.ref/\a.root=b.root/\a.ro=b.ro then isTrue (by cases a;cases b;simp_all) else isFalse (λ e=>h (by subst e;exact⟨rfl,rfl,rfl,rfl,rfl,rfl,rfl,rfl⟩))
end
end
end Go.Ct
namespace Go.Proofs.YtbajmaoegmbfgaaGreat
open Go Go.RowKit Go.Ct
section
end
section
section
variable{k:Cl}{ba bx bm tb n:Nat}{x:XS}{c:Cd}{rs:Rs}{D:List Nat}{A:Fr}{w:World}
theorem Ai{bt:Nat}{d:Bool}(hd:(c.a.k==0)=d)(h:w.heap[bt]?=some (tO ba c n)):Calls Tryz.prog 33 #[.pointer (some ⟨bt,0,none⟩)] w λ e w'=>e=.returned (.bool d)/\St w [] [] w':=by
 subst hd
 exact wD h
theorem lG{bt:Nat}{d:Bool}{r:Rs}(hd:(c.a.k==0)=d)(ha:(if d=true then c.r else Rs.zero)=r)(h:w.heap[bt]?=some (tO ba c n)):Calls Tryz.prog 34 #[.pointer (some ⟨bt,0,none⟩)] w λ e w'=>e=.returned (.agg ⟨r.cells⟩)/\St w [] [] w':=by
 subst hd ha
 have:=Ru h
 simp only[beq_iff_eq] at this ⊢
 exact this
end
end
section
section
variable{ba bm Bz C:Nat}{D:List Nat}{A:Fr}{w:World}{S:LS}
end
section
variable{ba bm Bz C tp:Nat}{D:List Nat}{w:World}{S:LS}{l:List Int}{a pa:Option Addr}{c pc pos:Nat}
end
end
section
section
variable{ba bm Bz C:Nat}{D:List Nat}{A:Fr}{w:World}{S:LS}{ps:List (Nat×Nat)}
end
end
end Go.Proofs.YtbajmaoegmbfgaaGreat
namespace Go.Ct
open Go Go.RowKit
section
abbrev bx(b:Nat)(cs:List Value):Option Addr×List Value:=(some ⟨b,0,none⟩,cs)
abbrev pt(b:Nat):Value:=.pointer (some ⟨b,0,none⟩)
abbrev fn(f:FuncId)(cap:List Value):Value:=.func (.func f) #[] ⟨cap⟩
abbrev iv(n:Int):Value:=.int .i64 n
theorem Yd{α:Type}{l l' xs:List α}{is:List Nat}(h:nQ l is xs l':=by(repeat (first|exact nQ.nil|(apply nQ.cons;(focus ((repeat (first|exact Ba.head|apply Ba.tail));done));simp only[sM])));first|done|fail):nQ l is xs l':=h
theorem evD{S:List (Nat×Value)}{xs:List Operand}{vs:List Value}(h:rP S xs=vs:=by(repeat (first|exact cI _|(apply bY;focus ((conv=>{lhs;whnf});try exact rfl))));first|done|fail):rP S xs=vs:=h
section
variable{w0 w:World}{M:List Nat}{H H':List (Nat×Obj)}{A F:Fr}{O O':List Ow}
theorem SF.rI(h:SF w0 M H A F O w)(hH:H'.Sublist H:=by repeat (first|exact List.Sublist.refl _|apply List.Sublist.cons))(hO:O'.Sublist O:=by repeat (first|exact List.Sublist.refl _|apply List.Sublist.cons)):SF w0 M H' [] F O' w:=h.ret hH aV.all hO
theorem SF.rN(h:SF w0 M H A (F++[]) O w)(hH:H'.Sublist H:=by repeat (first|exact List.Sublist.refl _|apply List.Sublist.cons))(hO:O'.Sublist O:=by repeat (first|exact List.Sublist.refl _|apply List.Sublist.cons)):SF w0 M H' [] F O' w:=h.ret hH (aV.kN λ f hf=>by simpa using hf) hO
variable{P:Program}{S:List (Nat×Value)}{d:Nat}{ty t:TypeId}{pos:String}{af:Array Edge}{gd:Option (Nat×Bool)}{x:Operand}{v:Value}{vs:List Value}{B:Fr}
theorem nF(b:Nat)(cs:List Value)(q:Nat)(hB:∀x∈B,x∈A)(hq:cs[q]?=some v)(hx:ev S x=.pointer (some ⟨b,q,none⟩):=by exact rfl)(ht:one P t=true:=by first|exact Ma rfl|kernel_rfl)(hm:bx b cs∈B:=by simp):aK P S (SF w0 M H A F O) ⟨some d,.load t x,ty,pos,af,gd⟩ v :=
 de (a:=some ⟨b,0,none⟩) (q:=q) (hx.trans (by simp[dA,eH])) ht (.bA (zH.oQ (hB _ hm))) hq
theorem Pv(b:Nat)(cs:List Value)(q k:Nat)(hB:∀x∈B,x∈A)(hv:(cs.drop q).take k=vs)(hl:vs.length=k)(hx:ev S x=.pointer (some ⟨b,q,none⟩):=by exact rfl)(ht:kQ P t k=true:=by exact eE)(hm:bx b cs∈B:=by simp):aK P S (SF w0 M H A F O) ⟨some d,.load t x,ty,pos,af,gd⟩ (.agg ⟨vs⟩) :=
 Nw (a:=some ⟨b,0,none⟩) (q:=q) (hx.trans (by simp[dA,eH])) ht (.bA (zH.oQ (hB _ hm))) hv hl
end
end
end Go.Ct
namespace Go.Proofs.YtbajmaoegmbfgaaGreat
open Go.Proofs.Tryz (prog)
open Go Go.RowKit Go.Ct
section
abbrev oR(b:Nat)(f:FuncId)(cap arg:List Value)(B:Fr)(s:Mm)(T:Tr):Prop:=yS b f cap arg B s λ c' s' B'=>kB b T s c' s' B'
theorem yS.mr{b:Nat}{f:FuncId}{cap arg:List Value}{B B2:Fr}{s:Mm}{T:Tr}(h:oR b f cap arg B s T)(hb:∀x∈B,x∈B2):oR b f cap arg B2 s T:=h.more hb λ _ _ _ _ hC h=>h.more hC
section
variable{S:List (Nat×Value)}{w0 w:World}{M:List Nat}{H H':List (Nat×Obj)}{A A0 F B:Fr}{O O':List Ow}{ty:TypeId}{pos:String}{af:Array Edge}{gd:Option (Nat×Bool)}{b:Nat}{a:AS}{R:Cd->Mm->Fr->Prop}{is js:List Nat}{f:FuncId}{xs:List Operand}{at_:Array TypeId}{vs cap:List Value}{dst:Option Nat}{x:Operand}{H1:Cd×Fr×AS->List (Nat×Obj)}{F1:Cd×Fr×AS->Fr}{O1:Cd×Fr×AS->List Ow}
theorem Bi(hc:∀w,SF w (Ks [(b,dL a)] (dZ a)) [(b,dL a)] A0 [] (dZ a) w->Calls prog f ⟨vs⟩ w (Ax b R a B (Ks [(b,dL a)] (dZ a)) w))
  (ha:rP S xs=vs:=by exact evD) (hp:plain prog f=true:=by kernel_rfl) (hH:nQ H is [(b,dL a)] H':=by exact Yd) (hO:nQ O js (dZ a) O':=by exact Yd) (hA:bI A F O' A0:=by exact bI.of (λ _ h=>Or.inr (Or.inl h)))
  (hl1:is.length=1:=by exact rfl) (hl2:js.length=2:=by exact rfl)
  (hH1:∀y,jR is [(b,dL y.2.2)] H'=H1 y:=by intro x;simp only[jR,tM];exact rfl) (hF1:∀y,y.2.1++F=F1 y:=by intro x;exact rfl) (hO1:∀y,jR js (dZ y.2.2) O'=O1 y:=by intro x;simp only[jR,tM,mW];exact rfl) :
  bF prog S (SF w0 M H A F O) ⟨dst,.call {callee:=.value (.func f),args:=⟨xs⟩,argTypes:=at_},ty,pos,af,gd⟩ (Cd×Fr×AS) (λ y=>.agg ⟨y.1.cells⟩) (λ y w=>(R y.1 y.2.2.mm (y.2.1++B)/\y.2.2.Ok/\a.gQ y.2.2 y.2.1)/\SF w0 M (H1 y) A (F1 y) (O1 y) w) :=
 cM (hs:=[(b,dL a)]) (os:=dZ a) (hs':=λ y:Cd×Fr×AS=>[(b,dL y.2.2)]) (os':=λ y=>dZ y.2.2) (Fc:=λ y=>y.2.1) ha hp hc hH hO hA (λ _=>hl1) (λ _=>hl2) hH1 hF1 hO1
theorem Lg(hp:plain prog f=true)(hk:yS b f cap vs B a.mm R)(ok:a.Ok)(hm:a.mm.Small)(hA0:∀f∈aL a.L,f∈A)(hB:∀x∈B,x∈A)(hx:ev S x=.func (.func f) #[] ⟨cap⟩:=by exact rfl)
  (ha:rP S xs=vs:=by exact evD) (hH:nQ H is [(b,dL a)] H':=by exact Yd) (hO:nQ O js (dZ a) O':=by exact Yd)
  (hl1:is.length=1:=by exact rfl) (hl2:js.length=2:=by exact rfl)
  (hH1:∀y,jR is [(b,dL y.2.2)] H'=H1 y:=by intro x;simp only[jR,tM];exact rfl) (hF1:∀y,y.2.1++F=F1 y:=by intro x;exact rfl) (hO1:∀y,jR js (dZ y.2.2) O'=O1 y:=by intro x;simp only[jR,tM,mW];exact rfl) :
  bF prog S (SF w0 M H A F O) ⟨dst,.call {callee:=.value x,args:=⟨xs⟩,argTypes:=at_},ty,pos,af,gd⟩ (Cd×Fr×AS) (λ y=>.agg ⟨y.1.cells⟩) (λ y w=>(R y.1 y.2.2.mm (y.2.1++B)/\y.2.2.Ok/\a.gQ y.2.2 y.2.1)/\SF w0 M (H1 y) A (F1 y) (O1 y) w) :=
 cMf (V:=λ y:Cd×Fr×AS=>.agg ⟨y.1.cells⟩) (hs:=[(b,dL a)]) (os:=dZ a) (hs':=λ y:Cd×Fr×AS=>[(b,dL y.2.2)]) (os':=λ y=>dZ y.2.2) (Fc:=λ y=>y.2.1) (A0:=A) hx ha hp (λ w hw=>hk a _ A w rfl ok hm hA0 hB hw) hH hO (bI.of λ _ h=>.inr (.inl h)) (λ _=>hl1) (λ _=>hl2) hH1 hF1 hO1
end
end
end Go.Proofs.YtbajmaoegmbfgaaGreat
