/- Tasks on an arena: how they begin, how they go on. -/
import Derived.Test.YtbajmaoegmbfgaaGreatGAutoD
import Derived.Test.YtbajmaoegmbfgaaGreatGQw1
import Derived.Test.YtbajmaoegmbfgaaGreatGWo7
import Derived.Test.YtbajmaoegmbfgaaGreatGBr6

set_option linter.unusedSimpArgs false
set_option linter.unusedVariables false
namespace Go.Ct
section
open Go Go.RowKit
abbrev AS.Wq(a:AS)(cs:List Int):AS:={a with cs:=cs,acc:=up a.acc}
theorem AS.Ok.Wq{a:AS}(ok:a.Ok){x o n:Int}(hn:n<=a.mm.nodes.length):(a.Wq (dZ a.cs x o n)).Ok:=⟨ok.fit,ok.mo.iS hn⟩
end
end Go.Ct
namespace Go.Proofs.YtbajmaoegmbfgaaGreat
section
open Go Go.RowKit Go.Ct
section
variable{D:List Nat}{A B:Fr}{a:AS}{b bt n:Nat}{w:World}{c:Cd}{t:Tr}{f:FuncId}{cap:List Value}
theorem Zu(h:Wc b t a.mm f cap B)(ok:a.Ok)(hm:a.mm.Small)(hA:∀f∈aL a.L,f∈A)(hB:∀x∈B,x∈A)(hs:SF w D [(b,eS a)] A [] (eX a) w) :
  Calls Tryz.prog 118 #[.func (.func f) #[] ⟨cap⟩] w (Bf b (λ c' s' B'=>kR b t a.mm c' s' B') a B D w):=by
 obtain⟨hp,h⟩:=h
 refine Qs Tryz.func118 Tryz.ntmps118 rfl rfl hs ?_
 simp only[cD]
 refine fL ?_;refine dV ?_;refine wI (λ x2=>?_);refine hU ?_;refine fL ?_;refine dV ?_;(refine gA cL rfl ?_);refine Ha rfl ?_;refine hU ?_;refine fL ?_;refine fL ?_;refine dV ?_;refine oS ?_;refine gA (K5 rf rf (aAw _ _ _)) rfl ?_;refine hU ?_
 refine Ik (λ c5=>?_) (λ c5=>?_)
 ·exact nv c5
 ·revert c5;(skip);intro c5
  refine D1 ?_;refine fL ?_;refine dV ?_;refine oS ?_;refine zS (cMf (V:=λ y:Cd×Fr×AS=>.agg ⟨y.1.cells⟩) (hs:=[(b,eS a)]) (os:=eX a) (hs':=λ y=>[(b,eS y.2.2)]) (os':=λ y=>eX y.2.2) (Fc:=λ y=>y.2.1) (A0:=A) (f:=f) (cap:=cap) (vs:=[]) (hp:=hp) (hc:=λ w1 hw=>h a.mm (Mm.Le.refl _) a _ A w1 rfl ok hm hA hB hw)) (λ x8 h8=>?_);refine Kg (gS λ _=>bE rf cX rf (dA _) eH rf jV) (λ _=>?_);refine hU ?_
  refine Hl (Rm _) (by kernel_rfl) Tryz.results118 (.cell rf cX eH .nil) (λ w hw=>?_)
  exact⟨x8,rfl,h8,hw.ret (by repeat (first|exact List.Sublist.refl _|apply List.Sublist.cons)) (aY.kN λ f hf=>by simpa using hf) (List.Sublist.refl _)⟩
theorem Gl{x:Int}{k:Int->Tr}(hr:kR b (.load x k) a.mm c a.mm B)(ok:a.Ok)(hm:a.mm.Small)(hA:∀f∈aL a.L,f∈A)(hB:∀x∈B,x∈A)(hs:SF w D [(b,eS a)] A [] (eX a) w) :
  Calls Tryz.prog 86 #[.iface 42 (.pointer (some ⟨b,0,none⟩)),.agg ⟨c.cells⟩] w (Bf b (λ c' s' B'=>kR b (k (aQ a.cs x)) a.mm c' s' B') a B D w):=by
 obtain⟨_,hx,f,cap,rfl,hp,hk⟩:=hr
 have hl:a.cs.length<=274877906944:=by have:=hm.2;show a.mm.cs.length<=_;omega
 have hv:aQ a.cs x<=a.mm.nodes.length:=ok.mo.cell x
 refine Qs Tryz.func86 Tryz.ntmps86 rfl rfl hs ?_
 simp only[cD]
 refine fL ?_;refine dV ?_;refine X9 (λ x3=>?_);refine wI (λ x4=>?_);refine hU ?_;refine fL ?_;refine dV ?_;(refine gA cL rfl ?_);refine Ha rfl ?_;refine hU ?_;refine fL ?_;refine dV ?_;refine eF ?_;refine gA (aP (k:=4) (vs:=(qP x f cap).a.cells) rf cX eH rfl rfl) rfl ?_;refine wI (λ x5=>?_);refine M8 (λ _=>?_);refine hU ?_;refine fL ?_;refine fL ?_;refine dV ?_;refine eF ?_;refine nA ?_;refine Yw ?_;refine hU ?_
 refine Ik (λ c13=>?_) (λ c13=>?_)
 ·revert c13;(refine cv1 ?_);intro c13
  refine fL ?_;refine dV ?_;refine yN (λ _=>?_);refine hU ?_;refine fL ?_;refine fL ?_;refine dV ?_;refine oS ?_;refine gA (Vc rf rf (Cy _)) rfl ?_;refine hU ?_
  refine Ik (λ c15=>?_) (λ c15=>?_)
  ·revert c15;(skip);intro c15
   refine dV ?_;refine oS ?_;refine eF ?_;refine nA ?_;refine zS (zy (V:=λ _:Unit=>.int .i64 (aQ a.cs x)) (os':=λ _=>eX (a.Wq a.cs)) (hs':=λ _=>[(b,eS (a.Wq a.cs))]) (Fc:=λ _=>[]) (A0:=A) (hm:=λ w=>gu _ _ w) (hc:=λ w hw=>D7 hw x hx hl)) (λ x19 h19=>?_);refine yN (λ _=>?_);refine hU ?_;refine fL ?_;refine fL ?_;refine dV ?_;refine eF ?_;refine nA ?_;refine gA (K5 rf rf (aAk _ _ _)) rfl ?_;refine hU ?_
   refine Ik (λ c22=>?_) (λ c22=>?_)
   ·exact nv c22
   ·revert c22;(skip);intro c22
    refine D1 ?_;refine fL ?_;refine dV ?_;refine eF ?_;refine nA ?_;refine oS ?_;refine zS (cMf (V:=λ y:Cd×Fr×AS=>.agg ⟨y.1.cells⟩) (hs:=[(b,eS (a.Wq a.cs))]) (os:=eX (a.Wq a.cs)) (hs':=λ y=>[(b,eS y.2.2)]) (os':=λ y=>eX y.2.2) (Fc:=λ y=>y.2.1) (A0:=A) (f:=f) (cap:=cap) (vs:=[.int .i64 (aQ a.cs x)]) (hp:=hp) (hc:=λ w1 hw=>hk (aQ a.cs x) a.mm (Mm.Le.refl _) hv (a.Wq a.cs) _ A w1 rfl ⟨ok.fit,ok.mo⟩ hm hA hB hw)) (λ x27 h27=>?_);refine Kg (gS λ _=>bE rf cX rf (dA _) eH rf jV) (λ _=>?_);refine hU ?_
    refine Hl (xV _) (by kernel_rfl) Tryz.results86 (.cell rf cX eH .nil) (λ w hw=>?_)
    exact⟨x27,rfl,⟨h27.1,h27.2.1,⟨h27.2.2.le,h27.2.2.fam⟩⟩,hw.ret (by repeat (first|exact List.Sublist.refl _|apply List.Sublist.cons)) (aY.kN λ f hf=>by simpa using hf) (List.Sublist.refl _)⟩
  ·exact nv c15
 ·revert c13;(refine cv2 ?_);intro c13
  exact(c13 rfl).elim
theorem H2{x o n:Int}{k:Bool->Tr}(hr:kR b (.iS x o n k) a.mm c a.mm B)(ok:a.Ok)(hm:a.mm.Small)(hA:∀f∈aL a.L,f∈A)(hB:∀x∈B,x∈A)(hs:SF w D [(b,eS a)] A [] (eX a) w) :
  Calls Tryz.prog 86 #[.iface 42 (.pointer (some ⟨b,0,none⟩)),.agg ⟨c.cells⟩] w (Bf b (λ c' s' B'=>kR b (k (Q5 a.cs x o)) ⟨a.mm.nodes,dZ a.cs x o n,a.gen⟩ c' s' B') a B D w):=by
 obtain⟨_,hx,hn,f,cap,rfl,hp,hk⟩:=hr
 have hl:a.cs.length<=274877906944:=by have:=hm.2;show a.mm.cs.length<=_;omega
 have hle:a.mm.Le ⟨a.mm.nodes,dZ a.cs x o n,a.gen⟩:=⟨⟨[],by simp⟩,by show a.cs.length<=(dZ a.cs x o n).length;rw[eI];exact Nat.le_refl _⟩
 have hm2:Mm.Small ⟨a.mm.nodes,dZ a.cs x o n,a.gen⟩:=⟨hm.1,by show(dZ a.cs x o n).length<=_;rw[eI];exact hm.2⟩
 refine Qs Tryz.func86 Tryz.ntmps86 rfl rfl hs ?_
 simp only[cD]
 refine fL ?_;refine dV ?_;refine X9 (λ x3=>?_);refine wI (λ x4=>?_);refine hU ?_;refine fL ?_;refine dV ?_;(refine gA cL rfl ?_);refine Ha rfl ?_;refine hU ?_;refine fL ?_;refine dV ?_;refine eF ?_;refine gA (aP (k:=4) (vs:=(tR x o n f cap).a.cells) rf cX eH rfl rfl) rfl ?_;refine wI (λ x5=>?_);refine M8 (λ _=>?_);refine hU ?_;refine fL ?_;refine fL ?_;refine dV ?_;refine eF ?_;refine nA ?_;refine Yw ?_;refine hU ?_
 refine Ik (λ c13=>?_) (λ c13=>?_)
 ·revert c13;(refine cv1 ?_);intro c13
  exact absurd (show(2:Int)=1 from c13) (by decide)
 ·revert c13;(refine cv2 ?_);intro c13
  refine D1 ?_;refine fL ?_;refine dV ?_;refine oS ?_;refine gA (Vc rf rf (Cy _)) rfl ?_;refine oS ?_
  (refine uY ?_;refine oS ?_)
  ((refine uY ?_;refine eF ?_));((refine uY ?_;refine nA ?_));((refine uY ?_;refine eF ?_));((refine uY ?_;refine nA ?_));((refine uY ?_;refine eF ?_));((refine uY ?_;refine nA ?_));((refine uY ?_;refine zS (zy (V:=Value.bool) (os':=λ _=>eX (a.Wq (dZ a.cs x o n))) (hs':=λ _=>[(b,eS (a.Wq (dZ a.cs x o n)))]) (Fc:=λ _=>[]) (A0:=A) (hm:=λ w=>m4 _ _ _ _ w) (hc:=λ w hw=>zj hw x o n hx hl)) (λ x38 h38=>?_)));refine r9 ?_;refine yN (λ _=>?_);refine hU ?_;refine fL ?_;refine fL ?_;refine dV ?_;refine eF ?_;refine nA ?_;refine gA (K5 rf rf (z9 _ _ _)) rfl ?_;refine hU ?_
  refine Ik (λ c42=>?_) (λ c42=>?_)
  ·exact nv c42
  ·revert c42;(skip);intro c42
   refine D1 ?_;refine fL ?_;refine dV ?_;refine eF ?_;refine nA ?_;refine oS ?_;refine zS (cMf (V:=λ y:Cd×Fr×AS=>.agg ⟨y.1.cells⟩) (hs:=[(b,eS (a.Wq (dZ a.cs x o n)))]) (os:=eX (a.Wq (dZ a.cs x o n))) (hs':=λ y=>[(b,eS y.2.2)]) (os':=λ y=>eX y.2.2) (Fc:=λ y=>y.2.1) (A0:=A) (f:=f) (cap:=cap) (vs:=[.bool x38]) (hp:=hp) (hc:=λ w1 hw=>hk x38 _ hle (a.Wq (dZ a.cs x o n)) _ A w1 rfl (ok.Wq hn) hm2 hA hB hw)) (λ x47 h47=>?_);refine Kg (gS λ _=>bE rf cX rf (dA _) eH rf jV) (λ _=>?_);refine hU ?_
   refine Hl (xV _) (by kernel_rfl) Tryz.results86 (.cell rf cX eH .nil) (λ w hw=>?_)
   exact⟨x47,rfl,⟨Uh h38▸h47.1,h47.2.1,⟨hle.trans h47.2.2.le,h47.2.2.fam⟩⟩,hw.ret (by repeat (first|exact List.Sublist.refl _|apply List.Sublist.cons)) (aY.kN λ f hf=>by simpa using hf) (List.Sublist.refl _)⟩
def rS(b:Nat)(p:Tr×Mm)(a:AS)(B:Fr)(y:Cd×Fr×AS):Prop:=(kR b p.1 p.2 y.1 p.2 (y.2.1++B)/\y.2.2.mm=p.2)/\y.2.2.Ok/\a.iF y.2.2 y.2.1
theorem rS.of{t0:Tr}{s0:Mm}{y:Cd×Fr×AS}{i m:Nat}(ht:bR t0 i m)(h:kR b t0 s0 y.1 y.2.2.mm (y.2.1++B)/\y.2.2.Ok/\a.iF y.2.2 y.2.1):rS b (Ct.jH t0 s0) a B y/\dL (Ct.jH t0 s0).1=true:=by
 obtain⟨h1,h2,h3⟩:=kR.jH ht h.1
 exact⟨⟨⟨by rw[h1];exact h3,h1.symm⟩,h.2⟩,h2⟩
theorem On{i m:Nat}(ht:bR t (i+1) m)(ha:dL t=true)(hlv:t.live=true)(hr:kR b t a.mm c a.mm B)(ok:a.Ok)(hm:a.mm.Small)(hA:∀f∈aL a.L,f∈A)(hB:∀x∈B,x∈A)(hs:SF w D [(b,eS a)] A [] (eX a) w) :
  Calls Tryz.prog 86 #[.iface 42 (.pointer (some ⟨b,0,none⟩)),.agg ⟨c.cells⟩] w λ e w'=>∃y:Cd×Fr×AS,e=.returned (.agg ⟨y.1.cells⟩)/\(rS b (Cn (t,a.mm)) a B y/\dL (Cn (t,a.mm)).1=true)/\SF w D [(b,eS y.2.2)] [] y.2.1 (eX y.2.2) w':=by
 cases t with
 | done r=>cases hlv
 | load x k=>exact(Gl hr ok hm hA hB hs).mono λ e w' ⟨y,he,h,hw⟩=>⟨y,he,rS.of (ht _) h,hw⟩
 | iS x o n k=>exact(H2 hr ok hm hA hB hs).mono λ e w' ⟨y,he,h,hw⟩=>⟨y,he,rS.of (ht _) h,hw⟩
 | alloc n i k=>cases ha
 | cell i k=>cases ha
 | gen k=>cases ha
 | node r k=>cases ha
 | stuck=>cases ha
theorem Wt{i m:Nat}(ht:bR t (i+1) m)(ha:dL t=true)(hlv:t.live=true)(hr:kR b t a.mm c a.mm B)(ok:a.Ok)(hm:a.mm.Small)(hn:n<1000000000)(hA:∀f∈aL a.L,f∈A)(hB:∀x∈B,x∈A)(hs:SF w D [(bt,tO b c n),(b,eS a)] A [] (eX a) w) :
  Calls Tryz.prog 37 #[.pointer (some ⟨bt,0,none⟩)] w λ e w'=>∃y:Cd×Fr×AS,e=.returned (.tuple #[])/\(rS b (Cn (t,a.mm)) a B y/\dL (Cn (t,a.mm)).1=true)/\SF w D [(bt,tO b y.1 (n+1)),(b,eS y.2.2)] [] y.2.1 (eX y.2.2) w':=by
 have hk:c.a.k≠0:=λ e=>by have:=(hr.kind ha).1.1 e;rw[hlv] at this;cases this
 refine enter Tryz.func37 Tryz.ntmps37 rfl rfl hs ?_
 simp only[cD]
 refine mD ?_;refine aM (cV (hc:=λ w1 hw=>Aj (hw.st.at cX))) (λ x3=>?_);refine aA ?_
 (refine eC 4 (λ g4=>?_) (λ g4=>?_)<;>(try (exfalso;omega))<;>((refine Ka3 ?_)))
 ((refine aF ?_;refine cZ ?_));refine J6 ?_;refine bZ ?_;refine aG ?_
 refine bC (λ c9=>?_) (λ c9=>?_)
 ·exact nv c9
 ·try (exfalso;omega)
  refine aV ?_;refine J13 ?_;refine vK ?_;refine lD ?_;refine F5 ?_;refine K8 ?_;refine aR ?_;refine gE [0,1,2,3,4,5,6,7,8,9,10,11,12] ?_;refine Vn ?_;refine J9 ?_;refine bW (i:=8) (hq:=(aP (k:=14) (vs:=c.cells) rf cX eH rfl rfl)) (h:=?_);refine bG (i:=9) (hq:=(cM (V:=λ y:Cd×Fr×AS=>.agg ⟨y.1.cells⟩) (Fc:=λ y=>y.2.1) (hs:=[(b,eS a)]) (os:=eX a) (A0:=A) (hs':=λ y=>[(b,eS y.2.2)]) (os':=λ y=>eX y.2.2) (hc:=λ w hw=>On ht ha hlv hr ok hm hA hB hw))) (h:=λ x29 h29=>?_);refine J4 ?_;refine kZ (i:=12) (hq:=(gS λ _=>lE (off:=1) (vs:=x29.1.cells) (cs:=tkC b x29.1 (n+1) true) rf cX rf (dA _) eH (Nat.le_of_ble_eq_true rfl) rf jV)) (h:=λ _=>?_);refine eK ?_;refine yD ?_;refine K8 ?_
  refine Bl Tryz.results37 (λ w hw=>?_)
  exact⟨x29,rfl,h29,hw.ret (List.Sublist.refl _) (aY.kN λ f hf=>by simpa using hf) (List.Sublist.refl _)⟩
theorem gf{i m:Nat}(ht:bR t i m)(h:Wc b t a.mm f cap B)(ok:a.Ok)(hm:a.mm.Small)(hA:∀f∈aL a.L,f∈A)(hB:∀x∈B,x∈A)(hs:SF w D [(b,eS a)] A [] (eX a) w) :
  Calls Tryz.prog 73 #[.iface 42 (.pointer (some ⟨b,0,none⟩)),.func (.func f) #[] ⟨cap⟩] w λ e w'=>∃x:Nat×Cd×Fr×AS,e=.returned (.pointer (some ⟨x.1,0,none⟩))/\(rS b (Ct.jH t a.mm) a B x.2/\dL (Ct.jH t a.mm).1=true)/\SF w D [(x.1,tO b x.2.1 0),(b,eS x.2.2.2)] [] x.2.2.1 (eX x.2.2.2) w':=by
 refine enter Tryz.func73 Tryz.ntmps73 rfl rfl hs ?_
 simp only[cD]
 refine Kc2 ?_;refine bM ?_;refine bO (λ x8=>?_);refine zB ?_;refine aD (cM (V:=λ y:Cd×Fr×AS=>.agg ⟨y.1.cells⟩) (Fc:=λ y=>y.2.1) (hs:=[(b,eS a)]) (os:=eX a) (A0:=A) (hs':=λ y=>[(b,eS y.2.2)]) (os':=λ y=>eX y.2.2) (hc:=λ w1 hw=>Zu h ok hm hA hB hw)) (λ x11 h11=>?_);refine I7 ?_;refine cI (gS λ _=>lE (off:=1) (vs:=x11.1.cells) (cs:=tkC b x11.1 0 false) rf cX rf (dA _) eH (Nat.le_of_ble_eq_true rfl) rf jV) (λ _=>?_);refine aG ?_;refine Ka5 ?_
 refine aN Tryz.results73 (λ w hw=>?_)
 exact⟨(x8,x11),rfl,rS.of ht h11,hw.ret (List.Sublist.refl _) (aY.kN λ f hf=>by simpa using hf) (List.Sublist.refl _)⟩
end
end

/- Tasks on an arena: runs. -/
section
open Go Go.RowKit Go.Ct
theorem lV:∀{t:Tr} {n c:Nat} (s:Mm),bR t n c->∀c',bR (jH t s).1 n c'
 | .done _,_,_,_,_,_=>trivial
 | .load _ _,0,_,_,_,_=>trivial
 | .load _ _,_+1,_,_,h,_=>h
 | .iS _ _ _ _,0,_,_,_,_=>trivial
 | .iS _ _ _ _,_+1,_,_,h,_=>h
 | .alloc _ _ _,_,0,_,h,_=>h.elim
 | .alloc n i k,_,_+1,s,h,c'=>lV (s.push n i) (h _) c'
 | .cell _ _,_,0,_,h,_=>h.elim
 | .cell i k,_,_+1,s,h,c'=>lV ⟨s.nodes,s.cs++[i],s.gen⟩ (h _) c'
 | .gen _,_,0,_,h,_=>h.elim
 | .gen k,_,_+1,s,h,c'=>lV ⟨s.nodes,s.cs,s.gen+1⟩ (h _) c'
 | .node r k,_,_,s,h,c'=>lV (t:=k (bF s.nodes r)) s (h (bF s.nodes r)) c'
 | .stuck,_,_,_,h,_=>h.elim
theorem nM:∀{t:Tr} {n c:Nat} (s:Mm),bR t n c->dL (jH t s).1=true
 | .done _,_,_,_,_=>rfl
 | .load _ _,_,_,_,_=>rfl
 | .iS _ _ _ _,_,_,_,_=>rfl
 | .alloc _ _ _,_,0,_,h=>h.elim
 | .alloc n i k,_,_+1,s,h=>nM (s.push n i) (h _)
 | .cell _ _,_,0,_,h=>h.elim
 | .cell i k,_,_+1,s,h=>nM ⟨s.nodes,s.cs++[i],s.gen⟩ (h _)
 | .gen _,_,0,_,h=>h.elim
 | .gen k,_,_+1,s,h=>nM ⟨s.nodes,s.cs,s.gen+1⟩ (h _)
 | .node r k,_,_,s,h=>nM (t:=k (bF s.nodes r)) s (h (bF s.nodes r))
 | .stuck,_,_,_,h=>h.elim
theorem pZ:∀{t:Tr} {n c:Nat} (s:Mm),bR t n c->(jH t s).2.nodes.length<=s.nodes.length+c/\(jH t s).2.cs.length<=s.cs.length+c
 | .done _,_,_,_,_=>⟨Nat.le_add_right _ _,Nat.le_add_right _ _⟩
 | .load _ _,_,_,_,_=>⟨Nat.le_add_right _ _,Nat.le_add_right _ _⟩
 | .iS _ _ _ _,_,_,_,_=>⟨Nat.le_add_right _ _,Nat.le_add_right _ _⟩
 | .alloc _ _ _,_,0,_,h=>h.elim
 | .alloc n i k,_,c+1,s,h=>by
  have h2:=pZ (s.push n i) (h ((s.nodes.length+1:Nat):Int))
  have hl:=jO (k:=n.kind) (cs:=s.cs) (init:=i)
  simp only[Mm.push,List.length_append,List.length_cons,List.length_nil] at h2
  show(jH (k _) (s.push n i)).2.nodes.length<=_/\(jH (k _) (s.push n i)).2.cs.length<=_
  simp only[Mm.push]
  omega
 | .cell _ _,_,0,_,h=>h.elim
 | .cell i k,_,c+1,s,h=>by
  have h2:=pZ ⟨s.nodes,s.cs++[i],s.gen⟩ (h ((s.cs.length+1:Nat):Int))
  simp only[List.length_append,List.length_cons,List.length_nil] at h2
  show(jH (k _) _).2.nodes.length<=_/\(jH (k _) _).2.cs.length<=_
  omega
 | .gen _,_,0,_,h=>h.elim
 | .gen k,_,c+1,s,h=>by
  have h2:=pZ ⟨s.nodes,s.cs,s.gen+1⟩ (h (s.gen+1))
  dsimp only at h2
  show(jH (k _) _).2.nodes.length<=_/\(jH (k _) _).2.cs.length<=_
  omega
 | .node r k,_,c,s,h=>pZ (t:=k (bF s.nodes r)) s (h (bF s.nodes r))
 | .stuck,_,_,_,h=>h.elim
theorem Ya{t:Tr}{n c:Nat}(s:Mm)(ht:bR t (n+1) c)(ha:dL t=true)(c':Nat):bR (Cn (t,s)).1 n c':=by
 cases t with
 | done r=>trivial
 | load x k=>exact lV _ (ht _) c'
 | iS x o m k=>exact lV _ (ht _) c'
 | alloc n i k=>cases ha
 | cell i k=>cases ha
 | gen k=>cases ha
 | node r k=>cases ha
 | stuck=>cases ha
theorem aq{t:Tr}{n c:Nat}(s:Mm)(ht:bR t (n+1) c)(ha:dL t=true):dL (Cn (t,s)).1=true:=by
 cases t with
 | done r=>rfl
 | load x k=>exact nM _ (ht _)
 | iS x o m k=>exact nM _ (ht _)
 | alloc n i k=>cases ha
 | cell i k=>cases ha
 | gen k=>cases ha
 | node r k=>cases ha
 | stuck=>cases ha
theorem bu{t:Tr}{n c:Nat}(s:Mm)(ht:bR t (n+1) c)(ha:dL t=true):(Cn (t,s)).2.nodes.length<=s.nodes.length+64/\(Cn (t,s)).2.cs.length<=s.cs.length+64:=by
 cases t with
 | done r=>exact⟨Nat.le_add_right _ _,Nat.le_add_right _ _⟩
 | load x k=>exact pZ s (ht _)
 | iS x o m k =>
  have:=pZ ⟨s.nodes,dZ s.cs x o m,s.gen⟩ (ht (Q5 s.cs x o))
  simp only[eI] at this
  exact this
 | alloc n i k=>cases ha
 | cell i k=>cases ha
 | gen k=>cases ha
 | node r k=>cases ha
 | stuck=>cases ha
theorem Ap{t:Tr}{n:Nat}{s:Mm}(ht:bR t n 64)(ha:dL t=true):∀k,k<=n->bR (nE (t,s) k).1 (n-k) 64/\dL (nE (t,s) k).1=true/\(nE (t,s) k).2.nodes.length<=s.nodes.length+64*k/\(nE (t,s) k).2.cs.length<=s.cs.length+64*k
 | 0,_=>⟨ht,ha,Nat.le_refl _,Nat.le_refl _⟩
 | k+1,h=>by
  obtain⟨h1,h2,h3,h4⟩:=Ap ht ha k (by omega)
  rw[show n-k=n-(k+1)+1 by omega] at h1
  have h5:(Cn (nE (t,s) k)).2.nodes.length<=(nE (t,s) k).2.nodes.length+64/\(Cn (nE (t,s) k)).2.cs.length<=(nE (t,s) k).2.cs.length+64:=bu (nE (t,s) k).2 h1 h2
  exact⟨Ya _ h1 h2 64,aq _ h1 h2,by show(Cn (nE (t,s) k)).2.nodes.length<=_;omega,by show(Cn (nE (t,s) k)).2.cs.length<=_;omega⟩
def uE(p:Tr×Mm):Nat->Nat
 | 0=>0
 | k+1=>uE p k+if(nE p k).1.live=true then 1 else 0
theorem jq{p:Tr×Mm}(h:p.1.live=false):Cn p=p:=by
 obtain⟨t,s⟩:=p
 cases t<;>first|rfl|cases h
theorem O5{p:Tr×Mm}{j:Nat}(h:(nE p j).1.live=false):∀k,nE p (j+k)=nE p j/\uE p (j+k)=uE p j
 | 0=>⟨rfl,rfl⟩
 | k+1=>by
  obtain⟨h1,h2⟩:=O5 h k
  refine⟨?_,?_⟩
  ·show Cn (nE p (j+k))=_
   rw[h1,jq h]
  ·show uE p (j+k)+(if(nE p (j+k)).1.live=true then 1 else 0)=_
   rw[h1,h2,h]
   rfl
theorem I3{p:Tr×Mm}{j k:Nat}(h:(nE p j).1.live=false)(hk:j<=k):nE p k=nE p j/\uE p k=uE p j:=by
 have:=O5 h (k-j)
 rwa [show j+(k-j)=k by omega] at this
structure xa(b:Nat)(p:Tr×Mm)(a:AS)(B:Fr)(y:Cd×Fr×AS):Prop where
 rp:kR b p.1 p.2 y.1 p.2 (y.2.1++B)
 mm:y.2.2.mm=p.2
 ok:y.2.2.Ok
 gr:a.iF y.2.2 y.2.1
theorem xa.of{b:Nat}{p:Tr×Mm}{a:AS}{B:Fr}{y:Cd×Fr×AS}(h:rS b p a B y):xa b p a B y:=⟨h.1.1,h.1.2,h.2.1,h.2.2⟩
theorem Yr{b:Nat}{t:Tr}{s:Mm}{c:Cd}{B:Fr}(h:kR b t s c s B)(ha:dL t=true):(c.a.k≠0↔t.live=true):=by
 have:=(h.kind ha).1
 cases hl:t.live with
 | false=>rw[hl] at this;exact⟨λ hn=>absurd (this.2 rfl) hn,λ h=>nomatch h⟩
 | true=>rw[hl] at this;exact⟨λ _=>rfl,λ _ e=>nomatch this.1 e⟩
section
variable{D:List Nat}{A B:Fr}{a:AS}{b bt n:Nat}{w:World}{c:Cd}{t:Tr}
theorem N4{most m:Nat}(ht:bR t m 64)(hmm:most<=m)(ha:dL t=true)(hr:kR b t a.mm c a.mm B)(ok:a.Ok)(hm:a.mm.nodes.length+64*most<=137438953472/\a.mm.cs.length+64*most<=137438953472)(hn:n+most<1000000000)(hA:∀f∈aL a.L,f∈A)(hB:∀x∈B,x∈A)(hs:SF w D [(bt,tO b c n),(b,eS a)] A [] (eX a) w) :
    Calls Tryz.prog 30 #[.pointer (some ⟨bt,0,none⟩),.int .i64 ((most:Nat):Int)] w λ e w'=>∃y:Cd×Fr×AS,e=.returned (.int .i64 ((uE (t,a.mm) most:Nat):Int))/\xa b (nE (t,a.mm) most) a B y/\SF w D [(bt,tO b y.1 (n+uE (t,a.mm) most)),(b,eS y.2.2)] [] y.2.1 (eX y.2.2) w':=by
  have hall:=λ k hk=>Ap (s:=a.mm) ht ha k hk
  refine enter Tryz.func30 Tryz.ntmps30 rfl rfl hs ?_
  simp only[cD]
  refine cU ?_;refine cU ?_;refine C3 ?_
  refine oJ [5,6,7,8,9,10,11,12,13,14,15,16,17,18,19,20,21,22,23,24] (λ y:Nat×Cd×Fr×AS=>[(5,.int .i64 ((y.1:Nat):Int))]) (λ y=>y.1<=most/\xa b (nE (t,a.mm) y.1) a B y.2/\uE (t,a.mm) y.1=y.1) (λ y=>[(bt,tO b y.2.1 (n+y.1)),(b,eS y.2.2.2)]) (λ y=>y.2.2.1) (λ y=>eX y.2.2.2) (λ y=>most-y.1) ((0,c,[],a)) (⟨Nat.zero_le _,⟨hr,rfl,ok,AS.iF.refl a⟩,rfl⟩) (λ y f hx=>?_) (hw0:=λ w hw=>hw)
  dsimp only[gZ,List.map,List.cons_append,List.nil_append]
  obtain⟨h1,h2,h3,h4⟩:=hall y.1 (by omega)
  have hrp:kR b (nE (t,a.mm) y.1).1 y.2.2.2.mm y.2.1 y.2.2.2.mm (y.2.2.1++B):=by rw[hx.2.1.mm];exact hx.2.1.rp
  have hsm:y.2.2.2.mm.Small:=by rw[hx.2.1.mm];exact⟨by omega,by omega⟩
  have hli:=Yr hx.2.1.rp h2
  refine Cm ?_;refine A9 ?_
  (refine eC 9 (λ g9=>?_) (λ g9=>?_)<;>refine Ka0 ?_)
  all_goals ((first|refine aI ?_|(refine aF ?_;refine aM (cV (hc:=λ w1 hw=>Aj (hw.st.at cX))) (λ x11=>?_)));refine Mq ?_;refine aA ?_)
  all_goals (first|refine aI ?_|(refine eC 14 (λ g14=>?_) (λ g14=>?_)<;>refine Ka0 ?_))
  all_goals (refine Kb3 ?_;refine J6 ?_;refine Kc4 ?_)
  all_goals
   refine bC (λ c20=>?_) (λ c20=>?_)
   · try exact nv c20
     all_goals (refine aV ?_;refine cY ?_;refine J2 ?_;refine aD (cM (V:=λ _:Cd×Fr×AS=>.tuple #[]) (hs:=[(bt,tO b y.2.1 (n+y.1)),(b,eS y.2.2.2)]) (os:=eX y.2.2.2) (Fc:=λ z=>z.2.1) (A0:=aL y.2.2.2.L++(y.2.2.1++B)) (hs':=λ z=>[(bt,tO b z.1 (n+y.1+1)),(b,eS z.2.2)]) (os':=λ z=>eX z.2.2) (hA:=bJ.of λ f hf=>(List.mem_append.1 hf).elim (λ h1=>(hx.2.1.gr.fam f h1).elim .inl λ h2=>h2.elim (λ h3=>.inr (.inl (hA f h3))) λ h3=>.inr (.inr (.inl h3))) λ h1=>(List.mem_append.1 h1).elim (λ h2=>.inr (.inr (.inl h2))) λ h2=>.inr (.inl (hB f h2))) (hc:=λ w hw=>Wt (i:=m-(y.1+1)) (m:=64) (by rw[show m-(y.1+1)+1=m-y.1 by omega];exact h1) h2 (hli.1 g14) hrp hx.2.1.ok hsm (by omega) (λ f hf=>List.mem_append_left _ hf) (λ f hf=>List.mem_append_right _ hf) hw)) (λ x22 h22=>?_);refine aG ?_;refine yL ?_;refine fG ?_)
     all_goals
      refine iJ ((y.1+1,x22.1,x22.2.1++y.2.2.1,x22.2.2)) ?_ (hw1:=λ w hw=>hw)
      · have e1:nE (t,a.mm) (y.1+1)=Cn ((nE (t,a.mm) y.1).1,y.2.2.2.mm):=by rw[hx.2.1.mm];rfl
        have h5:=xa.of h22.1
        have hlv:=hli.1 g14
        refine⟨by show y.1+1<=most;omega,⟨?_,?_,h5.ok,hx.2.1.gr.trans h5.gr⟩,?_⟩
        · rw[e1]
          show kR b _ _ _ _ (x22.2.1++y.2.2.1++B)
          rw[List.append_assoc]
          exact h5.rp
        · rw[e1];exact h5.mm
        · show uE (t,a.mm) y.1+_=y.1+1
          rw[hlv,hx.2.2]
          rfl
   · try exact nv c20
     all_goals (refine bS rfl ?_;refine Ka5 ?_)
     all_goals
      refine aN Tryz.results30 (λ w hw=>?_)
      have e:nE (t,a.mm) most=nE (t,a.mm) y.1/\uE (t,a.mm) most=y.1:=by
       first
        | (have h:=I3 (Bool.eq_false_iff.2 λ h=>hli.2 h g14) hx.1;exact⟨h.1,h.2.trans hx.2.2⟩)
        | (have em:most=y.1:=(by have:=hx.1;omega);rw[em];exact⟨rfl,hx.2.2⟩)
      rw[e.1,e.2]
      exact⟨y.2,rfl,hx.2.1,hw.ret (List.Sublist.refl _) (aY.kN λ f hf=>hf) (List.Sublist.refl _)⟩
end
end

/- Tasks of the program side by side with executions of the reference: the state; one of the two makes a step. -/
end Go.Proofs.YtbajmaoegmbfgaaGreat
namespace Go.Ct
section
open Go Go.RowKit
section
variable{α:Type}
end
inductive V1:Nat->Mm×List (Tr×Nat)->Mm×List (Tr×Nat)->Prop where
 | refl (p):V1 0 p p
 | step {i p s l1 l2 R n}:V1 i p (s,l1++(R,n)::l2)->R.live=true->V1 (i+1) p ((Cn (R,s)).2,l1++((Cn (R,s)).1,n+1)::l2)
end
end Go.Ct
namespace Go.Proofs.YtbajmaoegmbfgaaGreat
section
open Go Go.RowKit Go.Ct
structure PX where
 e:EX
 m:Nat
 tb:Nat
 c:Cd
 n:Nat
structure LS where
 a:AS
 z:XS
 l:List PX
 B:Fr
structure POk(C:Nat)(z:XS)(p:PX):Prop where
 i:oc (T0 p.e.k p.m) (XS.wm p.e.x z) p.e.dn p.e.rs p.e.R
 kk:jf p.e.k
 m:p.m<18446744073709551616
 em:p.e.k.mask=(p.m:Int)
 ht:p.e.k.t.root<=9223372036854775807
 ha:p.e.k.a<=z.L.length
 hb:p.e.k.b<=z.L.length
 hn:p.e.k.n<=z.L.length
 gl:p.e.x.got.length=p.n
 gc:p.n<=C
structure LOk(ba Bz C:Nat)(S:LS):Prop where
 z:S.z.Ok
 a:S.a.Ok
 mm:S.a.mm=S.z.mm
 sz:Sz S.z Bz
 p:∀p∈S.l,POk C S.z p
 rp:∀p∈S.l,kR ba p.e.R S.z.mm p.c S.z.mm S.B
section
variable{ba bm:Nat}
end
section
variable{ba bm Bz C:Nat}{D:List Nat}{A:Fr}{w:World}{a:AS}{z:XS}{l1 l2:List PX}{p:PX}{B:Fr}
end
end

/- Structs of numbers, bools and strings are compared. -/
end Go.Proofs.YtbajmaoegmbfgaaGreat
namespace Go.Ct
section
open Go Go.RowKit
section
variable{P:Program}{w:World}
inductive VEq:Nat->Value->Value->Bool->Prop where
 | int (k:IntKind) (a b:Int):VEq 0 (.int k a) (.int k b) (a==b)
 | bool (a b:Bool):VEq 1 (.bool a) (.bool b) (a==b)
 | str (a b:ByteArray):VEq 2 (.string a) (.string b) (decide (a=b))
inductive v5:List Nat->List Value->List Value->Bool->Prop where
 | nil:v5 [] [] [] true
 | cons {k:Nat} {ks:List Nat} {u v:Value} {us vs:List Value} {r r2:Bool} (h:VEq k u v r) (hs:v5 ks us vs r2):v5 (k::ks) (u::us) (v::vs) (r&&r2)
variable{S:List (Nat×Value)}{G:World->Prop}{d:Nat}{ty t t':TypeId}{pos:String}{af:Array Edge}{gd:Option (Nat×Bool)}{x y:Operand}
instance:DecidableEq Ac:=λ a b=>if h:a.k=b.k/\a.c=b.c/\a.o=b.o/\a.n=b.n then isTrue (by cases a;cases b;simp_all) else isFalse (λ e=>h (by subst e;exact⟨rfl,rfl,rfl,rfl⟩))
instance:DecidableEq Rs:=λ a b=>if h:a.err=b.err/\a.found=b.found/\a.val=b.val/\a.key=b.key/\a.fT=b.fT/\a.ref=b.ref/\a.root=b.root/\a.ro=b.ro then isTrue (by cases a;cases b;simp_all) else isFalse (λ e=>h (by subst e;exact⟨rfl,rfl,rfl,rfl,rfl,rfl,rfl,rfl⟩))
end
end
end Go.Ct
namespace Go.Proofs.YtbajmaoegmbfgaaGreat
section
open Go Go.RowKit Go.Ct
end

/- Pairs: whether a task and an execution are at the same point. -/
section
open Go Go.RowKit Go.Ct
section
variable{k:Cl}{ba bx bm tb n:Nat}{x:XS}{c:Cd}{rs:Rs}{D:List Nat}{A:Fr}{w:World}
theorem O9{bt:Nat}{d:Bool}(hd:(c.a.k==0)=d)(h:w.heap[bt]?=some (tO ba c n)):Calls Tryz.prog 33 #[.pointer (some ⟨bt,0,none⟩)] w λ e w'=>e=.returned (.bool d)/\St w [] [] w':=by
 subst hd
 exact Aj h
theorem yS{bt:Nat}{d:Bool}{r:Rs}(hd:(c.a.k==0)=d)(ha:(if d=true then c.r else Rs.zero)=r)(h:w.heap[bt]?=some (tO ba c n)):Calls Tryz.prog 34 #[.pointer (some ⟨bt,0,none⟩)] w λ e w'=>e=.returned (.agg ⟨r.cells⟩)/\St w [] [] w':=by
 subst hd ha
 have:=Sx h
 simp only[beq_iff_eq] at this ⊢
 exact this
end
end

/- Pairs: the next one to step; the steps of pair number k. -/
section
open Go Go.RowKit Go.Ct
section
variable{ba bm Bz C:Nat}{D:List Nat}{A:Fr}{w:World}{S:LS}
end
section
variable{ba bm Bz C tp:Nat}{D:List Nat}{w:World}{S:LS}{l:List Int}{a pa:Option Addr}{c pc pos:Nat}
end
end

/- Pairs: Run. -/
section
open Go Go.RowKit Go.Ct
section
variable{ba bm Bz C:Nat}{D:List Nat}{A:Fr}{w:World}{S:LS}{ps:List (Nat×Nat)}
end
structure LY where
 i:Nat
 S:LS
 pos:Nat
 G:Fr
end

/- Calls with an arena; loads out of captured boxes. -/
end Go.Proofs.YtbajmaoegmbfgaaGreat
namespace Go.Ct
section
open Go Go.RowKit
abbrev bx(b:Nat)(cs:List Value):Option Addr×List Value:=(some ⟨b,0,none⟩,cs)
abbrev pt(b:Nat):Value:=.pointer (some ⟨b,0,none⟩)
abbrev fn(f:FuncId)(cap:List Value):Value:=.func (.func f) #[] ⟨cap⟩
abbrev iv(n:Int):Value:=.int .i64 n
theorem Wx{α:Type}{l l' xs:List α}{is:List Nat}(h:mY l is xs l':=by(repeat (first|exact mY.nil|(apply mY.cons;(focus ((repeat (first|exact Az.head|apply Az.tail));done));simp only[rW])));first|done|fail):mY l is xs l':=h
theorem evD{S:List (Nat×Value)}{xs:List Operand}{vs:List Value}(h:qU S xs=vs:=by(repeat (first|exact cP _|(apply cC;focus ((conv=>{lhs;whnf});try exact rfl))));first|done|fail):qU S xs=vs:=h
section
variable{w0 w:World}{M:List Nat}{H H':List (Nat×Obj)}{A F:Fr}{O O':List Ow}
theorem SF.rI(h:SF w0 M H A F O w)(hH:H'.Sublist H:=by repeat (first|exact List.Sublist.refl _|apply List.Sublist.cons))(hO:O'.Sublist O:=by repeat (first|exact List.Sublist.refl _|apply List.Sublist.cons)):SF w0 M H' [] F O' w:=h.ret hH aY.all hO
theorem SF.rN(h:SF w0 M H A (F++[]) O w)(hH:H'.Sublist H:=by repeat (first|exact List.Sublist.refl _|apply List.Sublist.cons))(hO:O'.Sublist O:=by repeat (first|exact List.Sublist.refl _|apply List.Sublist.cons)):SF w0 M H' [] F O' w:=h.ret hH (aY.kN λ f hf=>by simpa using hf) hO
variable{P:Program}{S:List (Nat×Value)}{d:Nat}{ty t:TypeId}{pos:String}{af:Array Edge}{gd:Option (Nat×Bool)}{x:Operand}{v:Value}{vs:List Value}{B:Fr}
theorem pA(b:Nat)(cs:List Value)(q:Nat)(hB:∀x∈B,x∈A)(hq:cs[q]?=some v)(hx:ev S x=.pointer (some ⟨b,q,none⟩):=by exact rfl)(ht:one P t=true:=by first|exact Ko rfl|kernel_rfl)(hm:bx b cs∈B:=by simp):aK P S (SF w0 M H A F O) ⟨some d,.load t x,ty,pos,af,gd⟩ v :=
 fm (a:=some ⟨b,0,none⟩) (q:=q) (hx.trans (by simp[cR,eD])) ht (.aZ (E3.Ln (hB _ hm))) hq
theorem Xx(b:Nat)(cs:List Value)(q k:Nat)(hB:∀x∈B,x∈A)(hv:(cs.drop q).take k=vs)(hl:vs.length=k)(hx:ev S x=.pointer (some ⟨b,q,none⟩):=by exact rfl)(ht:kC P t k=true:=by exact eH)(hm:bx b cs∈B:=by simp):aK P S (SF w0 M H A F O) ⟨some d,.load t x,ty,pos,af,gd⟩ (.agg ⟨vs⟩) :=
 Pw (a:=some ⟨b,0,none⟩) (q:=q) (hx.trans (by simp[cR,eD])) ht (.aZ (E3.Ln (hB _ hm))) hv hl
end
end
end Go.Ct
namespace Go.Proofs.YtbajmaoegmbfgaaGreat
section
open Go Go.RowKit Go.Ct
abbrev rM(b:Nat)(f:FuncId)(cap arg:List Value)(B:Fr)(s:Mm)(T:Tr):Prop:=Ad b f cap arg B s λ c' s' B'=>kR b T s c' s' B'
theorem Ad.mr{b:Nat}{f:FuncId}{cap arg:List Value}{B B2:Fr}{s:Mm}{T:Tr}(h:rM b f cap arg B s T)(hb:∀x∈B,x∈B2):rM b f cap arg B2 s T:=h.more hb λ _ _ _ _ hC h=>h.more hC
section
variable{S:List (Nat×Value)}{w0 w:World}{M:List Nat}{H H':List (Nat×Obj)}{A A0 F B:Fr}{O O':List Ow}{ty:TypeId}{pos:String}{af:Array Edge}{gd:Option (Nat×Bool)}{b:Nat}{a:AS}{R:Cd->Mm->Fr->Prop}{is js:List Nat}{f:FuncId}{xs:List Operand}{at_:Array TypeId}{vs cap:List Value}{dst:Option Nat}{x:Operand}{H1:Cd×Fr×AS->List (Nat×Obj)}{F1:Cd×Fr×AS->Fr}{O1:Cd×Fr×AS->List Ow}
theorem K4(hc:∀w,SF w (Ks [(b,eS a)] (eX a)) [(b,eS a)] A0 [] (eX a) w->Calls Tryz.prog f ⟨vs⟩ w (Bf b R a B (Ks [(b,eS a)] (eX a)) w))
  (ha:qU S xs=vs:=by exact evD) (hp:plain Tryz.prog f=true:=by kernel_rfl) (hH:mY H is [(b,eS a)] H':=by exact Wx) (hO:mY O js (eX a) O':=by exact Wx) (hA:bJ A F O' A0:=by exact bJ.of (λ _ h=>Or.inr (Or.inl h)))
  (hl1:is.length=1:=by exact rfl) (hl2:js.length=2:=by exact rfl)
  (hH1:∀y,jJ is [(b,eS y.2.2)] H'=H1 y:=by intro x;simp only[jJ,tL];exact rfl) (hF1:∀y,y.2.1++F=F1 y:=by intro x;exact rfl) (hO1:∀y,jJ js (eX y.2.2) O'=O1 y:=by intro x;simp only[jJ,tL,mW];exact rfl) :
  bD Tryz.prog S (SF w0 M H A F O) ⟨dst,.call {callee:=.value (.func f),args:=⟨xs⟩,argTypes:=at_},ty,pos,af,gd⟩ (Cd×Fr×AS) (λ y=>.agg ⟨y.1.cells⟩) (λ y w=>(R y.1 y.2.2.mm (y.2.1++B)/\y.2.2.Ok/\a.iF y.2.2 y.2.1)/\SF w0 M (H1 y) A (F1 y) (O1 y) w) :=
 cM (hs:=[(b,eS a)]) (os:=eX a) (hs':=λ y:Cd×Fr×AS=>[(b,eS y.2.2)]) (os':=λ y=>eX y.2.2) (Fc:=λ y=>y.2.1) ha hp hc hH hO hA (λ _=>hl1) (λ _=>hl2) hH1 hF1 hO1
theorem Og(hp:plain Tryz.prog f=true)(hk:Ad b f cap vs B a.mm R)(ok:a.Ok)(hm:a.mm.Small)(hA0:∀f∈aL a.L,f∈A)(hB:∀x∈B,x∈A)(hx:ev S x=.func (.func f) #[] ⟨cap⟩:=by exact rfl)
  (ha:qU S xs=vs:=by exact evD) (hH:mY H is [(b,eS a)] H':=by exact Wx) (hO:mY O js (eX a) O':=by exact Wx)
  (hl1:is.length=1:=by exact rfl) (hl2:js.length=2:=by exact rfl)
  (hH1:∀y,jJ is [(b,eS y.2.2)] H'=H1 y:=by intro x;simp only[jJ,tL];exact rfl) (hF1:∀y,y.2.1++F=F1 y:=by intro x;exact rfl) (hO1:∀y,jJ js (eX y.2.2) O'=O1 y:=by intro x;simp only[jJ,tL,mW];exact rfl) :
  bD Tryz.prog S (SF w0 M H A F O) ⟨dst,.call {callee:=.value x,args:=⟨xs⟩,argTypes:=at_},ty,pos,af,gd⟩ (Cd×Fr×AS) (λ y=>.agg ⟨y.1.cells⟩) (λ y w=>(R y.1 y.2.2.mm (y.2.1++B)/\y.2.2.Ok/\a.iF y.2.2 y.2.1)/\SF w0 M (H1 y) A (F1 y) (O1 y) w) :=
 cMf (V:=λ y:Cd×Fr×AS=>.agg ⟨y.1.cells⟩) (hs:=[(b,eS a)]) (os:=eX a) (hs':=λ y:Cd×Fr×AS=>[(b,eS y.2.2)]) (os':=λ y=>eX y.2.2) (Fc:=λ y=>y.2.1) (A0:=A) hx ha hp (λ w hw=>hk a _ A w rfl ok hm hA0 hB hw) hH hO (bJ.of λ _ h=>.inr (.inl h)) (λ _=>hl1) (λ _=>hl2) hH1 hF1 hO1
end
end

end Go.Proofs.YtbajmaoegmbfgaaGreat
