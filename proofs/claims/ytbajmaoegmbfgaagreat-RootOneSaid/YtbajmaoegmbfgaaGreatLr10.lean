/- Merged. -/
import Derived.Test.YtbajmaoegmbfgaaGreatGLr3
import Derived.Test.YtbajmaoegmbfgaaGreatGTg3
import Derived.Test.YtbajmaoegmbfgaaGreatGRt3
import Derived.Test.YtbajmaoegmbfgaaGreatGLe1
set_option linter.unusedSimpArgs false
set_option linter.unusedVariables false
namespace Go.Proofs.YtbajmaoegmbfgaaGreat
open Go Go.RowKit Go.Ct
theorem Ub{l:List Int}{a:Option Addr}{b c k:Nat}{w:World}(ht:mj w b a l c k) :
  Calls Tryz.prog 53 #[.pointer (some ⟨b,0,none⟩)] w λ e w' =>
  ∃v:Bool,e=.returned (.bool v)/\(v=true↔k<l.length)/\SF w [b] ((b,El a l c k)::[]) [] [] [] w':=by
 refine enter Tryz.func53 Tryz.ntmps53 rfl rfl ht.start ?_
 simp only[cE]
 refine Er ?_;refine gM [0,1,2,3,4,5,6,7,8,9,10] ?_;refine Dt ?_;refine nW ?_;refine Al ?_;refine J7 ?_
 refine aN Tryz.results53 (λ w hw=>?_)
 exact⟨_,rfl,by simp,hw.aX⟩
theorem qv:dS Tryz.prog 95 4 [.bool false]:=lZ (z:=.bool false) (by kernel_rfl) (by kernel_rfl) rfl
def Xj(r n0 n1:Int)(b:Bool)(k:Nat):Int:=if k=0 then r else if b=false then n0 else if k=1 then r else n1
section
variable{r n0 n1:Int}{bb:Bool}{k:Nat}{v:Int}
theorem aBw(h:k<2):(gG [!bb,bb])[k]?=some (.bool (if k=0 then !bb else bb)):=by
 have:k=0∨k=1:=by omega
 rcases this with rfl|rfl<;>rfl
theorem aA7(h:k<2)(hv:v=Xj r n0 n1 bb k)(c:(if k=0 then !bb else bb)=true):[n0,n1].getD k 0=Xj r n0 n1 bb (k+1):=by
 have:k=0∨k=1:=by omega
 rcases this with rfl|rfl<;>cases bb<;>first|rfl|exact absurd c (by decide)
theorem aBb(h:k<2)(hv:v=Xj r n0 n1 bb k)(c:(if k=0 then !bb else bb)=false):v=Xj r n0 n1 bb (k+1):=by
 subst hv
 have:k=0∨k=1:=by omega
 rcases this with rfl|rfl<;>cases bb<;>first|rfl|exact absurd c (by decide)
theorem aAY(h:k=2)(hv:v=Xj r n0 n1 bb k):v=two n0 n1 bb:=by
 subst hv h
 cases bb<;>rfl
end
set_option maxRecDepth 100000 in
set_option maxHeartbeats 4000000 in
theorem X3{l l2 l3:List Int}{a a2 a3:Option Addr}{c c2 c3:Nat}{w:World}(h1:Go.Ct.Cl w a (aH l))(hl:l.length<=17592186043904)(h2:Go.Ct.Cl w a2 (aH l2))(hl2:l2.length<=17592186043904)(h3:Go.Ct.Cl w a3 (aH l3))(hl3:l3.length<=17592186043904) :
    Calls Tryz.prog 11 #[.slice a l.length c,.slice a2 l2.length c2,.slice a3 l3.length c3] w λ e w'=>e=.returned (.bool true)/\St w [] [] w':=by
  refine enter Tryz.func11 Tryz.ntmps11 rfl rfl (SF.s3 h1 h2 h3) ?_
  simp only[cE]
  refine Kc3 ?_;refine aC (Yr (Hc:=λ q:Nat×Nat×Nat×Wd=>wH q.2.2.1 q.1 q.2.1 q.2.2.2) (H1:=λ q=>(q.1,lV q.2.1 (q.2.2.1:Int) q.2.2.2.pt q.2.2.2.ts.length q.2.2.2.kt q.2.2.2.pe (oN q.2.2.2.ex).length q.2.2.2.ke)::(q.2.1,xM q.2.2.2.z)::F7 q.2.1 q.2.2.2.ex) (Fc:=λ q=>aL q.2.2.2.z.L) (F1:=λ q=>aL q.2.2.2.z.L) (Oc:=λ q=>wO q.2.2.2) (O1:=λ q=>⟨q.2.2.2.pt,qP q.2.2.2.ts,q.2.2.2.kt,29,2⟩::⟨q.2.2.2.pe,uW (oN q.2.2.2.ex),q.2.2.2.ke,74,1⟩::⟨q.2.2.2.z.pn,gX q.2.2.2.z.L,q.2.2.2.z.cn,47,14⟩::⟨q.2.2.2.z.pc,aH q.2.2.2.z.cs,q.2.2.2.z.cc,37,1⟩::Dj q.2.2.2.ex) (hH1:=λ q=>List.append_nil _) (hF1:=λ q=>List.append_nil _) (hO1:=λ q=>List.append_nil _) (hc:=λ w1 hw=>mx (hw.cl fin) hl)) (λ x27 h27=>?_)
  have hm:=h27.1
  have hW:=h27.2
  have htl:=hW.tl
  have ht0:=hW.t0
  refine Ka4 ?_;refine aC (cT 0 0 (V:=λ _:XS×List aU=>.tuple #[]) (hs:=wH x27.2.2.1 x27.1 x27.2.1 x27.2.2.2) (os:=wO x27.2.2.2) (A0:=aL x27.2.2.2.z.L) (H1:=λ r:XS×List aU=>[(x27.1,lV x27.2.1 (x27.2.2.1:Int) x27.2.2.2.pt x27.2.2.2.ts.length x27.2.2.2.kt none 0 0),(x27.2.1,xM r.1)]) (O1:=λ r=>[⟨x27.2.2.2.pt,qP x27.2.2.2.ts,x27.2.2.2.kt,29,2⟩,⟨none,uW [],0,74,1⟩,⟨r.1.pn,gX r.1.L,r.1.cn,47,14⟩,⟨r.1.pc,aH r.1.cs,r.1.cc,37,1⟩]) (F1:=λ r=>aL r.1.L) (hc:=λ w hs=>gk (by decide) (by decide) (by decide) hm hW (λ f hf=>hf) hs) (hA:=bI.of λ f hf=>.inr (.inr (.inl hf))) (hF1:=λ r hr f hf=>by rw[hr.2,dF] at hf;exact .inr ((List.mem_append.1 hf).elim (λ h=>List.mem_append_right _ h) (λ h=>List.mem_append_left _ h)))) (λ x29 h29=>?_)
  have hZ:En x27.2.2.1 2434356874 1192612 0 (zW x27.2.2.2 x29.1):=h29.1
  have s1:x29.1.L.length<=2434356874:=hZ.sz.1
  have s2:x29.1.cs.length<=2434356874:=hZ.sz.2.1
  obtain⟨σ,hq⟩:=WR.rest (show WR (H8 x27.2.2.1) x27.2.2.1 x29.1.mm x27.2.2.2.ts [] from hZ.wr)
  refine Kd0 ?_;refine aC (Yr (Fc:=λ _=>[]) (Oc:=λ _=>[]) (hc:=λ w1 hw=>j3)) (λ x31 h31=>?_);refine iW ?_
  refine eJ [9,32,33,34,35,36,37,38,39,40,41,42,43,44] (λ j:Nat×Nat=>[(9,.pointer (some ⟨j.1,0,none⟩))]) (λ j=>j.2<x27.2.2.2.ts.length) (λ j=>[(j.1,.cells ⟨[.int .i64 (x27.2.2.2.ts.getD j.2 ⟨0,false⟩).root,.bool (x27.2.2.2.ts.getD j.2 ⟨0,false⟩).ro]⟩ 29 (0,0)),(x31,El a2 l2 c2 (kY l2 0)),(x27.1,lV x27.2.1 (x27.2.2.1:Int) x27.2.2.2.pt x27.2.2.2.ts.length x27.2.2.2.kt none 0 0),(x27.2.1,xM x29.1)]) (λ _=>aL x29.1.L) (λ _=>[⟨x27.2.2.2.pt,qP x27.2.2.2.ts,x27.2.2.2.kt,29,2⟩,⟨none,uW [],0,74,1⟩,⟨x29.1.pn,gX x29.1.L,x29.1.cn,47,14⟩,⟨x29.1.pc,aH x29.1.cs,x29.1.cc,37,1⟩]) (by decide) (λ _=>by exact rfl) ?_ (λ j f hx=>?_)
  · refine iD (.one 0 [] (.one 1 [] (.one 2 [] (.one 3 [] (.one 4 [] (.one 5 [] (.one 6 [] (.one 7 [] (.one 8 [] (.one 9 [] (.two 10 [3] (.one 11 [] (.one 12 [] (.one 13 [3,8,11,12] (.one 14 [] .nil)))) 0 [] (.two 13 [3,8] (.one 10 [3] (.one 11 [] (.one 12 [] (.one 14 [] .nil)))) 0 [] .nil)))))))))))) ?_
    refine lr ?_;refine Xo ?_;refine nW ?_
    refine iK (E:=[10,13]) (by decide +kernel) ((.cons ?_ (.cons ?_ .nil)))
    · refine mE (i:=10) (hq:=(vC (hc:=λ w1 hw=>eM x27.2.2.2.ts.length (hw.tape cR fin hl2) (by omega) (by omega)))) (h:=λ x42 h42=>?_)
      refine bT (i:=11) (hq:=(N5 (cs:=qP x27.2.2.2.ts) (k:=x42) rf rf gO eE (.own .head) (by omega) (by rw[lP];omega))) (h:=?_);refine bT (i:=12) (hq:=(Hd (ts:=x27.2.2.2.ts) (q:=x42) rf eE (.own .head) (by omega))) (h:=?_);refine iE (hfire:=(λ _=>by((repeat (first|exact aQ.nil|refine aQ.cons (by first|exact iF|exact iP (hq:=N5 (cs:=qP x27.2.2.2.ts) (k:=x42) rf rf gO eE (.own .head) (by omega) (by rw[lP];omega))|exact iP (hq:=Hd (ts:=x27.2.2.2.ts) (q:=x42) rf eE (.own .head) (by omega))) ?_));done))) (h:=λ x9=>?_);refine Bb ?_
      refine fF ((x9,x42)) ?_ (hw1:=λ w hw=>hw)
      · omega
    · refine iC (i:=13) (h:=λ x9=>?_)
      refine bG (i:=10) (hq:=(vC (hc:=λ w1 hw=>eM x27.2.2.2.ts.length (hw.tape cR fin hl2) (by omega) (by omega)))) (h:=λ x42 h42=>?_);refine bT (i:=11) (hq:=(N5 (cs:=qP x27.2.2.2.ts) (k:=x42) rf rf gO eE (.own .head) (by omega) (by rw[lP];omega))) (h:=?_);refine bT (i:=12) (hq:=(Hd (ts:=x27.2.2.2.ts) (q:=x42) rf eE (.own .head) (by omega))) (h:=?_);refine Bb ?_
      refine fF ((x9,x42)) ?_ (hw1:=λ w hw=>hw)
      · omega
  dsimp only[iB,List.map,List.cons_append,List.nil_append]
  have htm:=Gi hx
  have hrt:=hZ.root (by decide) htm
  refine lQ ?_;refine aC (ph (V:=λ q:Nat×AS=>.pointer (some ⟨q.1,0,none⟩)) (hs:=[(x27.2.1,xM x29.1)]) (os:=Xq x29.1) (hs':=λ _=>[(x27.2.1,xM x29.1.a0)]) (Hc:=λ q=>[(q.1,dL q.2)]) (os':=λ _=>Xq x29.1) (Oc:=λ q=>dZ q.2) (Fc:=λ q=>aL q.2.L) (A0:=aL x29.1.L) (hA:=bI.of λ f hf=>.inr (.inr (.inl hf))) (hc:=λ w1 hw=>Wu hZ.z (pF hZ) (by omega) (by omega) (λ f hf=>hf) hw)) (λ x49 h49=>?_)
  obtain⟨hmm0,hok0⟩:=h49
  have hln:x29.1.mm.nodes.length=x29.1.L.length:=by show(x29.1.L.map aU.c).length=_;rw[List.length_map]
  have hl0:x49.2.mm.nodes.length=x29.1.L.length:=by rw[hmm0];exact hln
  have hc0:x49.2.mm.cs.length=x29.1.cs.length:=by rw[hmm0];rfl
  have hgn:x49.2.gen=x29.1.gen:=congrArg Mm.gen hmm0
  have hak0:AK x49.2 (aL x49.2.L++aL x29.1.L) 2434356874:=⟨hok0,by omega,by omega,λ f hf=>.inr (List.mem_append_left _ hf)⟩
  obtain⟨r,p,hro0,hbo0,hr1,hr2,hp2⟩:=Td hZ htm
  have hrv:=hq.oL (M:=x29.1.mm) htm hro0
  have hbm:=hq.body (M:=x29.1.mm) hbo0
  have hRB:=zp hq htm hrv hbm.2
  have hg0:0<=x29.1.gen:=hZ.z.gen0
  have hg1:x29.1.gen<=2434356874:=hZ.sz.2.2
  replace hr2:r<=x29.1.L.length:=hr2
  replace hp2:p<=x29.1.L.length:=hp2
  refine iW ?_;refine gM [0,1,2,3,4,5,6,7,8,9,10,11,12,13] ?_;refine lr ?_;refine J4 ?_;refine bT (i:=6) (hq:=(aP (k:=3) rf cR eE (by simp only[List.drop_zero,List.take_succ_cons,List.take_zero];exact rfl) rfl)) (h:=?_);refine bX ?_;refine dC (i:=8) (hq:=(cV (v:=.tuple #[.int .i64 r,.bool true]) (hc:=λ w1 hw=>b8 (pF hZ) (hw.ij (by exact .inr (.inr (.inr ⟨_,.tail _ (.tail _ (.tail _ (.tail _ (.head _)))),rfl,rfl⟩))) (by exact .inr (.inr (.inr ⟨_,.tail _ (.tail _ (.tail _ (.tail _ (.tail _ (.head _))))),rfl,rfl⟩))) (λ f hf=>.inr (.inr (.inl (List.mem_append_right _ hf)))) hZ.z.fit) (V1 hZ.z) (by show x29.1.L.length<=_;omega) (by show x29.1.cs.length<=_;omega) _ _ hro0 hrt))) (h:=λ x59=>?_);refine bC ?_;refine Js ?_;refine Js ?_;refine ag ?_;refine lQ ?_;refine Mi ?_;refine aB (aP (k:=3) rf cR eE (by simp only[List.drop_zero,List.take_succ_cons,List.take_zero];exact rfl) rfl) rfl ?_;refine aA ?_;refine aM (cV (v:=.tuple #[.int .i64 p,.bool true]) (hc:=λ w1 hw=>Z1 (pF hZ) (hw.ij (by exact .inr (.inr (.inr ⟨_,.tail _ (.tail _ (.tail _ (.tail _ (.head _)))),rfl,rfl⟩))) (by exact .inr (.inr (.inr ⟨_,.tail _ (.tail _ (.tail _ (.tail _ (.tail _ (.head _))))),rfl,rfl⟩))) (λ f hf=>.inr (.inr (.inl (List.mem_append_right _ hf)))) hZ.z.fit) (V1 hZ.z) (by show x29.1.L.length<=_;omega) (by show x29.1.cs.length<=_;omega) _ hbo0 (by omega))) (λ x71=>?_);refine Kd2 ?_;refine kR ?_;refine aA ?_
  (refine Ka3 ?_)
  refine Ib ?_;refine aA ?_
  (refine Ka3 ?_)
  refine Ib ?_;refine aA ?_
  (refine aF ?_;refine aE ?_)
  ((refine aF ?_;refine bO ?_));refine cA ?_;refine aG ?_
  refine bE (λ c87=>?_) (λ c87=>?_)
  · try (first|contradiction|(exfalso;omega))
    refine J2 ?_;refine mA ?_;refine aA ?_
    (refine Ka3 ?_)
    refine Ka7 ?_
    (refine Ka3 ?_)
    refine Ka7 ?_
    (refine aF ?_;refine aM (cV (hc:=λ w1 hw=>I7 w1)) (λ x97=>?_))
    refine Kb7 ?_
    refine aN Tryz.results11 (λ w hw=>?_)
    first
    | exact⟨rfl,hw.done⟩
    | exact⟨by rw[huv];exact Kq _,hw.done⟩
    | (exfalso;simp_all;done)
  · try (first|contradiction|(exfalso;omega))
    refine D1 ?_;refine aC (cM (V:=λ _:Unit=>.int .i64 (x49.2.gen+1)) (hs:=[(x49.1,dL x49.2)]) (os:=dZ x49.2) (hs':=λ _=>[(x49.1,dL {x49.2 with gen:=x49.2.gen+1})]) (os':=λ _=>dZ x49.2) (Fc:=λ _=>[]) (A0:=[]) (hc:=λ w1 hw=>Jn (by omega) (by omega) hw)) (λ x101 h101=>?_);refine bK ?_;refine aA ?_;refine aC (cM (V:=λ _:AX=>.int .i64 ((x29.1.L.length+1:Nat):Int)) (hs:=[(x49.1,dL {x49.2 with gen:=x49.2.gen+1})]) (os:=dZ x49.2) (A0:=[(none,aH []),(none,dE [])]) (hs':=λ X=>[(x49.1,dL (({x49.2 with gen:=x49.2.gen+1}:AS).al (Mf (x49.2.gen+1)) [] [] p X))]) (os':=λ X=>dZ (({x49.2 with gen:=x49.2.gen+1}:AS).al (Mf (x49.2.gen+1)) [] [] p X)) (Fc:=λ X=>(kZ (Mf (x49.2.gen+1)) [] [] x49.2.cs.length X).fr) (hc:=λ w1 hw=>by rw[<- hl0];exact pZ (n:=Mf (x49.2.gen+1)) (xs:=[]) (ys:=[]) hak0.gen.ok (hak0.gen.small (by omega)) p rfl rfl (by simp) (by simp) (λ f hf=>hf) hw)) (λ x104 h104=>?_)
    have hak1:=hak0.gen.al (n:=Mf (x49.2.gen+1)) (xs:=[]) (ys:=[]) (init:=p) (by simp) (by simp) (ve _ _ _) (by show p<=(x49.2.mm.nodes.length:Int)+1;omega) x104
    have hmm1:(({x49.2 with gen:=x49.2.gen+1}:AS).al (Mf (x49.2.gen+1)) [] [] p x104).mm=(kS x29.1.mm).push (fH (x49.2.gen+1)) p:=by rw[lA,show({x49.2 with gen:=x49.2.gen+1}:AS).mm=kS x29.1.mm by rw[<- hmm0];rfl];rfl
    obtain⟨e1,he1⟩:∃e1,e1=(({x49.2 with gen:=x49.2.gen+1}:AS).al (Mf (x49.2.gen+1)) [] [] p x104):=⟨_,rfl⟩
    have hge1:e1.gen=x49.2.gen+1:=by rw[he1]
    obtain⟨G1,hG1⟩:∃G1:Fr,G1=(kZ (Mf (x49.2.gen+1)) [] [] x49.2.cs.length x104).fr++(aL x49.2.L++aL x29.1.L):=⟨_,rfl⟩
    rw[show(kZ (Mf (x49.2.gen+1)) [] [] ({x49.2 with gen:=x49.2.gen+1}:AS).cs.length x104).fr++(aL x49.2.L++aL x29.1.L)=G1 from hG1.symm,<- he1] at hak1
    rw[<- he1] at hmm1
    have hl1:e1.mm.nodes.length=x29.1.L.length+1:=by rw[hmm1,kC];show x29.1.mm.nodes.length+1=_;rw[hln]
    refine Sn (λ w hw=>(show SF _ _ [(x49.1,dL e1),(j.1,.cells ⟨[.int .i64 (x27.2.2.2.ts.getD j.2 ⟨0,false⟩).root,.bool (x27.2.2.2.ts.getD j.2 ⟨0,false⟩).ro]⟩ 29 (0,0)),(x31,El a2 l2 c2 (kY l2 0)),(x27.1,lV x27.2.1 (x27.2.2.1:Int) x27.2.2.2.pt x27.2.2.2.ts.length x27.2.2.2.kt none 0 0),(x27.2.1,xM x29.1.a0)] _ G1 [⟨e1.pn,gX e1.L,e1.cn,47,14⟩,⟨e1.pc,aH e1.cs,e1.cc,37,1⟩,⟨x27.2.2.2.pt,qP x27.2.2.2.ts,x27.2.2.2.kt,29,2⟩,⟨none,uW [],0,74,1⟩,⟨x29.1.pn,gX x29.1.L,x29.1.cn,47,14⟩,⟨x29.1.pc,aH x29.1.cs,x29.1.cc,37,1⟩] w from by rw[he1,hG1];exact hw)) ?_
    refine qJ ?_;refine aC (cM (V:=λ _:Unit=>.int .i64 (e1.gen+1)) (hs:=[(x49.1,dL e1)]) (os:=dZ e1) (hs':=λ _=>[(x49.1,dL {e1 with gen:=e1.gen+1})]) (os':=λ _=>dZ e1) (Fc:=λ _=>[]) (A0:=[]) (hc:=λ w1 hw=>Jn (by omega) (by omega) hw)) (λ x107 h107=>?_);refine bK ?_;refine aA ?_;refine aC (cM (V:=λ _:AX=>.int .i64 ((x29.1.L.length+1+1:Nat):Int)) (hs:=[(x49.1,dL {e1 with gen:=e1.gen+1})]) (os:=dZ e1) (A0:=[(none,aH []),(none,dE [])]) (hs':=λ X=>[(x49.1,dL (({e1 with gen:=e1.gen+1}:AS).al (Mf (e1.gen+1)) [] [] p X))]) (os':=λ X=>dZ (({e1 with gen:=e1.gen+1}:AS).al (Mf (e1.gen+1)) [] [] p X)) (Fc:=λ X=>(kZ (Mf (e1.gen+1)) [] [] e1.cs.length X).fr) (hc:=λ w1 hw=>by rw[<- hl1];exact pZ (n:=Mf (e1.gen+1)) (xs:=[]) (ys:=[]) hak1.gen.ok (hak1.gen.small (by omega)) p rfl rfl (by simp) (by simp) (λ f hf=>hf) hw)) (λ x110 h110=>?_)
    have hak2:=hak1.gen.al (n:=Mf (e1.gen+1)) (xs:=[]) (ys:=[]) (init:=p) (by simp) (by simp) (ve _ _ _) (by show p<=(e1.mm.nodes.length:Int)+1;omega) x110
    have hmm2:(({e1 with gen:=e1.gen+1}:AS).al (Mf (e1.gen+1)) [] [] p x110).mm=((kS x29.1.mm).push (fH (x49.2.gen+1)) p |> kS).push (fH (e1.gen+1)) p:=by rw[lA,show({e1 with gen:=e1.gen+1}:AS).mm=kS e1.mm from rfl,hmm1];rfl
    obtain⟨e2,he2⟩:∃e2,e2=(({e1 with gen:=e1.gen+1}:AS).al (Mf (e1.gen+1)) [] [] p x110):=⟨_,rfl⟩
    obtain⟨G2,hG2⟩:∃G2:Fr,G2=(kZ (Mf (e1.gen+1)) [] [] e1.cs.length x110).fr++G1:=⟨_,rfl⟩
    rw[show(kZ (Mf (e1.gen+1)) [] [] ({e1 with gen:=e1.gen+1}:AS).cs.length x110).fr++G1=G2 from hG2.symm,<- he2] at hak2
    rw[<- he2] at hmm2
    have hl2':e2.mm.nodes.length=x29.1.L.length+1+1:=by rw[hmm2,kC];show((kS x29.1.mm).push (fH (x49.2.gen+1)) p).nodes.length+1=_;rw[kC];show x29.1.mm.nodes.length+1+1=_;rw[hln]
    refine Sn (λ w hw=>(show SF _ _ [(x49.1,dL e2),(j.1,.cells ⟨[.int .i64 (x27.2.2.2.ts.getD j.2 ⟨0,false⟩).root,.bool (x27.2.2.2.ts.getD j.2 ⟨0,false⟩).ro]⟩ 29 (0,0)),(x31,El a2 l2 c2 (kY l2 0)),(x27.1,lV x27.2.1 (x27.2.2.1:Int) x27.2.2.2.pt x27.2.2.2.ts.length x27.2.2.2.kt none 0 0),(x27.2.1,xM x29.1.a0)] _ G2 [⟨e2.pn,gX e2.L,e2.cn,47,14⟩,⟨e2.pc,aH e2.cs,e2.cc,37,1⟩,⟨x27.2.2.2.pt,qP x27.2.2.2.ts,x27.2.2.2.kt,29,2⟩,⟨none,uW [],0,74,1⟩,⟨x29.1.pn,gX x29.1.L,x29.1.cn,47,14⟩,⟨x29.1.pc,aH x29.1.cs,x29.1.cc,37,1⟩] w from by rw[he2,hG2];exact hw)) ?_
    refine aM ((by exact F2 (λ _=>cL (cs:=aH [((x29.1.L.length+1:Nat):Int),((x29.1.L.length+1+1:Nat):Int)]) nY Ii rfl rfl rfl rfl rfl))) (λ x111=>?_)
    obtain⟨G,hG⟩:∃G:Fr,G=List.cons (some ⟨x111,0,none⟩,aH [((x29.1.L.length+1:Nat):Int),((x29.1.L.length+1+1:Nat):Int)]) G2:=⟨_,rfl⟩
    have hakG:AK e2 G 2434356876:=⟨hak2.ok,hak2.s1,hak2.s2,λ f hf=>(hak2.fam f hf).imp_right λ h=>by rw[hG];exact List.mem_cons_of_mem _ h⟩
    have hGm:(some ⟨x111,0,none⟩,aH [((x29.1.L.length+1:Nat):Int),((x29.1.L.length+1+1:Nat):Int)])∈G:=by rw[hG];exact List.mem_cons_self ..
    refine Sn (λ w hw=>(show SF _ _ [(x49.1,dL e2),(j.1,.cells ⟨[.int .i64 (x27.2.2.2.ts.getD j.2 ⟨0,false⟩).root,.bool (x27.2.2.2.ts.getD j.2 ⟨0,false⟩).ro]⟩ 29 (0,0)),(x31,El a2 l2 c2 (kY l2 0)),(x27.1,lV x27.2.1 (x27.2.2.1:Int) x27.2.2.2.pt x27.2.2.2.ts.length x27.2.2.2.kt none 0 0),(x27.2.1,xM x29.1.a0)] _ G [⟨e2.pn,gX e2.L,e2.cn,47,14⟩,⟨e2.pc,aH e2.cs,e2.cc,37,1⟩,⟨x27.2.2.2.pt,qP x27.2.2.2.ts,x27.2.2.2.kt,29,2⟩,⟨none,uW [],0,74,1⟩,⟨x29.1.pn,gX x29.1.L,x29.1.cn,47,14⟩,⟨x29.1.pc,aH x29.1.cs,x29.1.cc,37,1⟩] w from by rw[hG];exact hw)) ?_
    refine iW ?_;refine eQ [(0,[]),(1,[]),(2,[]),(3,[]),(4,[]),(5,[]),(6,[]),(7,[]),(9,[]),(10,[]),(11,[]),(12,[]),(13,[]),(14,[]),(15,[]),(16,[]),(18,[]),(19,[]),(20,[]),(8,[11,15,16,20]),(17,[20]),(21,[]),(22,[]),(23,[]),(24,[])] ?_;refine bC ?_;refine cP (i:=1) (hq:=(P3 rf (λ w=>sK _ w))) (h:=?_);refine Ka9 ?_;refine bC ?_;refine bT (i:=6) (hq:=(eD (k:=0) (lst:=[((x29.1.L.length+1:Nat):Int),((x29.1.L.length+1+1:Nat):Int)]) rf rf gO gA (.new (zH.oQ (by exact hGm))) (by omega) (by simp))) (h:=?_);refine bT (i:=7) (hq:=(fJ (q:=0) (lst:=[((x29.1.L.length+1:Nat):Int),((x29.1.L.length+1+1:Nat):Int)]) rf gA (.new (zH.oQ (by exact hGm))) (by simp))) (h:=?_);refine bC ?_;refine cP (i:=10) (hq:=(P3 rf (λ w=>sK _ w))) (h:=?_);refine Ka9 ?_;refine bC ?_;refine bT (i:=15) (hq:=(eD (k:=1) (lst:=[((x29.1.L.length+1:Nat):Int),((x29.1.L.length+1+1:Nat):Int)]) rf rf gO gA (.new (zH.oQ (by exact hGm))) (by omega) (by simp))) (h:=?_);refine bT (i:=16) (hq:=(fJ (q:=1) (lst:=[((x29.1.L.length+1:Nat):Int),((x29.1.L.length+1+1:Nat):Int)]) rf gA (.new (zH.oQ (by exact hGm))) (by simp))) (h:=?_);refine bC ?_;refine cP (i:=19) (hq:=(P3 rf (λ w=>sK _ w))) (h:=?_);refine bX ?_;refine bG (i:=8) (hq:=(ph (V:=λ x:Nat×TY=>.pointer (some ⟨x.1,0,none⟩)) (hs:=[(x49.1,dL e2)]) (os:=dZ e2) (hs':=λ x=>[(x49.1,dL x.2.a)]) (Hc:=λ x=>[(x.1,tO x49.1 x.2.c 0)]) (os':=λ x=>dZ x.2.a) (Oc:=λ _=>[]) (Fc:=λ x=>x.2.F) (A0:=aL e2.L) (hA:=hakG.n6) (hc:=λ w1 hw=>O4 (t:=(x27.2.2.2.ts.getD j.2 ⟨0,false⟩)) (bA:=r) (exp:=p) (nw:=((x29.1.L.length+1:Nat):Int)) hrt (by omega) (by omega) (by omega) hakG (by omega) (λ f hf=>hf) hw))) (hfire:=(λ _=>by(refine iV ?_;(repeat (first|exact aQ.nil|refine aQ.cons (by first|exact iF|exact iP (hq:=eD (k:=1) (lst:=[((x29.1.L.length+1:Nat):Int),((x29.1.L.length+1+1:Nat):Int)]) rf rf gO gA (.new (zH.oQ (by exact List.mem_append_right _ hGm))) (by omega) (by simp))|exact iP (hq:=fJ (q:=1) (lst:=[((x29.1.L.length+1:Nat):Int),((x29.1.L.length+1+1:Nat):Int)]) rf gA (.new (zH.oQ (by exact List.mem_append_right _ hGm))) (by simp))) ?_));done))) (h:=λ x120 h120=>?_)
    have hm8:x120.2.a.mm=e2.mm.push (lR r p ((x29.1.L.length+1:Nat):Int)) 0:=h120.mm
    have hak8:=h120.ak
    have hl8:x120.2.a.mm.nodes.length=x29.1.L.length+1+1+1:=by rw[hm8,kC,hl2']
    refine bG (i:=17) (hq:=(ph (V:=λ x:Nat×TY=>.pointer (some ⟨x.1,0,none⟩)) (hs:=[(x49.1,dL x120.2.a)]) (os:=dZ x120.2.a) (hs':=λ x=>[(x49.1,dL x.2.a)]) (Hc:=λ x=>[(x.1,tO x49.1 x.2.c 0)]) (os':=λ x=>dZ x.2.a) (Oc:=λ _=>[]) (Fc:=λ x=>x.2.F) (A0:=aL x120.2.a.L) (hA:=hak8.n6) (hc:=λ w1 hw=>O4 (t:=(x27.2.2.2.ts.getD j.2 ⟨0,false⟩)) (bA:=r) (exp:=p) (nw:=((x29.1.L.length+1+1:Nat):Int)) hrt (by omega) (by omega) (by omega) hak8 (by omega) (λ f hf=>hf) hw))) (h:=λ x129 h129=>?_)
    have hak9:=h129.ak
    refine bG (i:=21) (hq:=(ph (V:=λ x:Nat×TY=>.pointer (some ⟨x.1,0,none⟩)) (hs:=[(x49.1,dL x129.2.a)]) (os:=dZ x129.2.a) (hs':=λ x=>[(x49.1,dL x.2.a)]) (Hc:=λ x=>[(x.1,tO x49.1 x.2.c 0)]) (os':=λ x=>dZ x.2.a) (Oc:=λ _=>[]) (Fc:=λ x=>x.2.F) (A0:=aL x129.2.a.L) (hA:=hak9.n6) (hc:=λ w1 hw=>O5 (t:=(x27.2.2.2.ts.getD j.2 ⟨0,false⟩)) hrt hak9 (by omega) (λ f hf=>hf) hw))) (h:=λ x133 h133=>?_);refine Cm (h:=λ _=>?_);refine ag ?_;refine lI ?_;refine kR ?_;refine aA ?_
    (refine Ka3 ?_)
    refine Kb0 ?_
    (refine Ka3 ?_)
    refine uU ?_;refine aG ?_
    refine bE (λ c143=>?_) (λ c143=>?_)
    · try (contradiction)
    · try (first|contradiction|(exfalso;omega))
      refine aS ?_;refine J2 ?_;refine aC (Yr (Fc:=λ _=>[]) (Oc:=λ _=>[]) (hc:=λ w1 hw=>j3)) (λ x145 h145=>?_);refine Ka4 ?_;refine aC (vC (hc:=λ w1 hw=>Ub (hw.tape cR fin hl3))) (λ x147 h147=>?_);refine uI ?_;refine iW ?_;refine Gp ?_
      obtain⟨N,d,hN,hy0⟩:=cx (p:=0) (al:=x147=false) (G0:=G) (g1:=x49.2.gen+1) (g2:=e1.gen+1) hRB hmm2 (by rw[hln];exact h120) (by rw[hln];exact h129) h133 (by decide) (by decide) (by decide) (λ f hf=>hf)
      rw[hln] at hN hy0
      refine nS [21,149,150,151,152,153,154,155,156,157,158,159,160,161,162,163,164,165,166,167,168,169,170] (λ y:RZ3=>[(21,.int .i64 ((y.i:Nat):Int))]) (λ y=>Wm x49.1 N (x29.1.cs.length+4) (x27.2.2.2.ts.getD j.2 ⟨0,false⟩).root r p d (two ((x29.1.L.length+1:Nat):Int) ((x29.1.L.length+1+1:Nat):Int)) (x147=false) G 2434357068 y) (λ y=>[(x145,El a3 l3 c3 y.pos),(x133.1,tO x49.1 y.cz y.mz),(x129.1,tO x49.1 y.c1 y.m1),(x120.1,tO x49.1 y.c0 y.m0),(x49.1,dL y.a),(j.1,.cells ⟨[.int .i64 (x27.2.2.2.ts.getD j.2 ⟨0,false⟩).root,.bool (x27.2.2.2.ts.getD j.2 ⟨0,false⟩).ro]⟩ 29 (0,0)),(x31,El a2 l2 c2 (kY l2 0)),(x27.1,lV x27.2.1 (x27.2.2.1:Int) x27.2.2.2.pt x27.2.2.2.ts.length x27.2.2.2.kt none 0 0),(x27.2.1,xM x29.1.a0)]) (λ y=>y.G) (λ y=>[⟨y.a.pn,gX y.a.L,y.a.cn,47,14⟩,⟨y.a.pc,aH y.a.cs,y.a.cc,37,1⟩,⟨x27.2.2.2.pt,qP x27.2.2.2.ts,x27.2.2.2.kt,29,2⟩,⟨none,uW [],0,74,1⟩,⟨x29.1.pn,gX x29.1.L,x29.1.cn,47,14⟩,⟨x29.1.pc,aH x29.1.cs,x29.1.cc,37,1⟩]) (λ y=>40-y.i) (⟨0,0,ul (x27.2.2.2.ts.getD j.2 ⟨0,false⟩) r (d false),ul (x27.2.2.2.ts.getD j.2 ⟨0,false⟩) r (d true),vc (x27.2.2.2.ts.getD j.2 ⟨0,false⟩),1000,1000,1000,x120.2.c,x129.2.c,x133.2.c,0,0,0,x133.2.a,x133.2.F++(x129.2.F++(x120.2.F++G)),.idle⟩) (hy0) (λ y f hx=>?_) (hw0:=λ w hw=>hw.v6)
      dsimp only[iB,List.map,List.cons_append,List.nil_append]
      have hyi:=hx.hi
      have hyl0:=hx.l0
      have hyl1:=hx.l1
      have hylz:=hx.lz
      have hym0:=hx.m0
      have hym1:=hx.m1
      have hymz:=hx.mz
      refine Kb3 ?_
      (refine eG 151 (λ g151=>?_) (λ g151=>?_)<;>refine Ka0 ?_)
      all_goals ((first|refine aI ?_|(refine aF ?_;refine aC (vC (hc:=λ w1 hw=>Ub (hw.tape cR fin hl3))) (λ x153 h153=>?_)));refine cA ?_;refine aG ?_)
      all_goals
       refine bE (λ c154=>?_) (λ c154=>?_)
       · try exact nv c154
         all_goals (refine sA ?_;refine J2 ?_;refine aC (vC (hc:=λ w1 hw=>eM 3 (hw.tape cR fin hl3) (by decide) (by decide))) (λ x158 h158=>?_);refine aG ?_;refine cY ?_;refine lO ?_)
         all_goals
          refine bE (λ c159=>?_) (λ c159=>?_)
          · try (first|contradiction|(exfalso;omega))
            refine wZ ?_;refine aC (cM (V:=λ _:TY=>.tuple #[]) (hs:=[(x120.1,tO x49.1 y.c0 y.m0),(x49.1,dL y.a)]) (os:=dZ y.a) (hs':=λ u=>[(x120.1,tO x49.1 u.c u.n),(x49.1,dL u.a)]) (os':=λ u=>dZ u.a) (Fc:=λ u=>u.F) (A0:=aL y.a.L++y.G) (hA:=hx.ak.all) (hc:=λ w1 hw=>Bd (k:=y.b0-1) (by rw[show y.b0-1+1=y.b0 by omega];exact hx.k0) hx.ak (by omega) (by omega) (λ f hf=>List.mem_append_left _ hf) (λ f hf=>List.mem_append_right _ hf) hw)) (λ x162 h162=>?_)
            have hpos:y.pos<l3.length:=h153.1 (by assumption)
            have h147t:x147=true:=h147.2 (by omega)
            obtain⟨q2,hn2⟩:=hx.aCg (by rw[h147t];decide) (by omega) h162 (kY l3 y.pos)
            refine aG ?_;refine eL ?_;refine Kb2 ?_
            refine gU (by exact⟨y.i+1,kY l3 y.pos,(vF (y.t0,y.a.mm)).1,y.t1,y.tz,y.b0-1,y.b1,y.bz,x162.c,y.c1,y.cz,x162.n,y.m1,y.mz,x162.a,x162.F++y.G,q2⟩) ?_ (hw1:=λ w hw=>hw.v6)
            · exact hn2
          · try (first|contradiction|(exfalso;omega))
            refine lO ?_
            refine bE (λ c163=>?_) (λ c163=>?_)
            · try (first|contradiction|(exfalso;omega))
              refine wZ ?_;refine aC (cM (V:=λ _:TY=>.tuple #[]) (hs:=[(x129.1,tO x49.1 y.c1 y.m1),(x49.1,dL y.a)]) (os:=dZ y.a) (hs':=λ u=>[(x129.1,tO x49.1 u.c u.n),(x49.1,dL u.a)]) (os':=λ u=>dZ u.a) (Fc:=λ u=>u.F) (A0:=aL y.a.L++y.G) (hA:=hx.ak.all) (hc:=λ w1 hw=>Bd (k:=y.b1-1) (by rw[show y.b1-1+1=y.b1 by omega];exact hx.k1) hx.ak (by omega) (by omega) (λ f hf=>List.mem_append_left _ hf) (λ f hf=>List.mem_append_right _ hf) hw)) (λ x166 h166=>?_)
              have hpos:y.pos<l3.length:=h153.1 (by assumption)
              have h147t:x147=true:=h147.2 (by omega)
              obtain⟨q2,hn2⟩:=hx.aBm (by rw[h147t];decide) (by omega) h166 (kY l3 y.pos)
              refine aG ?_;refine eL ?_;refine Kb2 ?_
              refine gU (by exact⟨y.i+1,kY l3 y.pos,y.t0,(vF (y.t1,y.a.mm)).1,y.tz,y.b0,y.b1-1,y.bz,y.c0,x166.c,y.cz,y.m0,x166.n,y.mz,x166.a,x166.F++y.G,q2⟩) ?_ (hw1:=λ w hw=>hw.v6)
              · exact hn2
            · try (first|contradiction|(exfalso;omega))
              refine lO ?_
              refine bE (λ c167=>?_) (λ c167=>?_)
              · try (first|contradiction|(exfalso;omega))
                refine wZ ?_;refine aC (cM (V:=λ _:TY=>.tuple #[]) (hs:=[(x133.1,tO x49.1 y.cz y.mz),(x49.1,dL y.a)]) (os:=dZ y.a) (hs':=λ u=>[(x133.1,tO x49.1 u.c u.n),(x49.1,dL u.a)]) (os':=λ u=>dZ u.a) (Fc:=λ u=>u.F) (A0:=aL y.a.L++y.G) (hA:=hx.ak.all) (hc:=λ w1 hw=>Bd (k:=y.bz-1) (by rw[show y.bz-1+1=y.bz by omega];exact hx.kz) hx.ak (by omega) (by omega) (λ f hf=>List.mem_append_left _ hf) (λ f hf=>List.mem_append_right _ hf) hw)) (λ x170 h170=>?_)
                have hpos:y.pos<l3.length:=h153.1 (by assumption)
                have h147t:x147=true:=h147.2 (by omega)
                obtain⟨q2,hn2⟩:=hx.aB8 (by rw[h147t];decide) (by omega) h170 (kY l3 y.pos)
                refine aG ?_;refine eL ?_;refine Kb2 ?_
                refine gU (by exact⟨y.i+1,kY l3 y.pos,y.t0,y.t1,(vF (y.tz,y.a.mm)).1,y.b0,y.b1,y.bz-1,y.c0,y.c1,x170.c,y.m0,y.m1,x170.n,x170.a,x170.F++y.G,q2⟩) ?_ (hw1:=λ w hw=>hw.v6)
                · exact hn2
              · try ((exfalso;omega))
       · all_goals try (first|contradiction|(exfalso;omega))
         all_goals (refine bR rfl ?_;refine J2 ?_;refine aC (cM (V:=λ _:TY=>.int .i64 ((rH (y.t0,y.a.mm) 20:Nat):Int)) (hs:=[(x120.1,tO x49.1 y.c0 y.m0),(x49.1,dL y.a)]) (os:=dZ y.a) (hs':=λ u=>[(x120.1,tO x49.1 u.c u.n),(x49.1,dL u.a)]) (os':=λ u=>dZ u.a) (Fc:=λ u=>u.F) (A0:=aL y.a.L++y.G) (hA:=hx.ak.all) (hc:=λ w1 hw=>Af (most:=20) (k:=y.b0-20) (by rw[show y.b0-20+20=y.b0 by omega];exact hx.k0) hx.ak (by omega) (by omega) (λ f hf=>List.mem_append_left _ hf) (λ f hf=>List.mem_append_right _ hf) hw)) (λ x172 h172=>?_))
         all_goals
          have hk1:TK x49.1 y.t1 y.c1 x172.a (x172.F++y.G) (y.b1-20+20):=by rw[show y.b1-20+20=y.b1 by omega];exact hx.k1.to h172.le λ x hx=>List.mem_append_right _ hx
         all_goals (refine Kd0 ?_;refine aC (cM (V:=λ _:TY=>.int .i64 ((rH (y.t1,x172.a.mm) 20:Nat):Int)) (hs:=[(x129.1,tO x49.1 y.c1 y.m1),(x49.1,dL x172.a)]) (os:=dZ x172.a) (hs':=λ u=>[(x129.1,tO x49.1 u.c u.n),(x49.1,dL u.a)]) (os':=λ u=>dZ u.a) (Fc:=λ u=>u.F) (A0:=aL x172.a.L++(x172.F++y.G)) (hA:=h172.ak.all) (hc:=λ w1 hw=>Af (most:=20) (k:=y.b1-20) hk1 h172.ak (by omega) (by omega) (λ f hf=>List.mem_append_left _ hf) (λ f hf=>List.mem_append_right _ hf) hw)) (λ x174 h174=>?_))
         all_goals
          have hkz:TK x49.1 y.tz y.cz x174.a (x174.F++(x172.F++y.G)) (y.bz-20+20):=by rw[show y.bz-20+20=y.bz by omega];exact hx.kz.to (h172.le.trans h174.le) λ x hx=>List.mem_append_right _ (List.mem_append_right _ hx)
         all_goals (refine Kd0 ?_;refine aC (cM (V:=λ _:TY=>.int .i64 ((rH (y.tz,x174.a.mm) 20:Nat):Int)) (hs:=[(x133.1,tO x49.1 y.cz y.mz),(x49.1,dL x174.a)]) (os:=dZ x174.a) (hs':=λ u=>[(x133.1,tO x49.1 u.c u.n),(x49.1,dL u.a)]) (os':=λ u=>dZ u.a) (Fc:=λ u=>u.F) (A0:=aL x174.a.L++(x174.F++(x172.F++y.G))) (hA:=h174.ak.all) (hc:=λ w1 hw=>Af (most:=20) (k:=y.bz-20) hkz h174.ak (by omega) (by omega) (λ f hf=>List.mem_append_left _ hf) (λ f hf=>List.mem_append_right _ hf) hw)) (λ x176 h176=>?_))
         all_goals
          obtain⟨bb,hfin,hbal⟩:=hx.fin (j:=20) (by decide) h172 h174 h176
          have hakF:=hfin.ak
          obtain⟨vz,hkzd⟩:=hfin.kz
         all_goals (refine Kd0 ?_;refine aB (P3 rf (λ w=>sK _ w)) rfl ?_;refine bO ?_;refine aC (ph (V:=λ x:Nat×TY=>.pointer (some ⟨x.1,0,none⟩)) (hs:=[(x49.1,dL x176.a)]) (os:=dZ x176.a) (hs':=λ x=>[(x49.1,dL x.2.a)]) (Hc:=λ x=>[(x.1,tO x49.1 x.2.c 0)]) (os':=λ x=>dZ x.2.a) (Oc:=λ _=>[]) (Fc:=λ x=>x.2.F) (A0:=aL x176.a.L) (hA:=hakF.n6) (hc:=λ w1 hw=>O5 (t:=(x27.2.2.2.ts.getD j.2 ⟨0,false⟩)) hrt hakF (by omega) (λ f hf=>hf) hw)) (λ x180 h180=>?_);refine Kc8 ?_;refine kR ?_;refine aA ?_)
         all_goals ((refine Ka3 ?_))
         all_goals (((refine aF ?_;refine aM (cV (hc:=λ w1 hw=>Ai (d:=true) hfin.k0.done.1 (hw.st.at cR))) (λ x185=>?_)));refine Ib ?_;refine aA ?_)
         all_goals ((refine Ka3 ?_))
         all_goals (((refine aF ?_;refine aM (cV (hc:=λ w1 hw=>Ai (d:=true) hfin.k1.done.1 (hw.st.at cR))) (λ x190=>?_)));refine Ib ?_;refine aA ?_)
         all_goals ((refine Ka3 ?_))
         all_goals (((refine aF ?_;refine aM (cV (hc:=λ w1 hw=>Ai (d:=true) hkzd.done.1 (hw.st.at cR))) (λ x195=>?_)));refine Kb9 ?_)
         all_goals
          refine bE (λ c197=>?_) (λ c197=>?_)
          · exact nv c197
          · all_goals try (first|contradiction|(exfalso;omega))
            all_goals (refine aS ?_;refine J2 ?_;refine aC (cM (V:=λ _:TY=>.int .i64 ((rH ((Ct.gW (vc (x27.2.2.2.ts.getD j.2 ⟨0,false⟩)) x176.a.mm).1,x180.2.a.mm) 20:Nat):Int)) (hs:=[(x180.1,tO x49.1 x180.2.c 0),(x49.1,dL x180.2.a)]) (os:=dZ x180.2.a) (hs':=λ u=>[(x180.1,tO x49.1 u.c u.n),(x49.1,dL u.a)]) (os':=λ u=>dZ u.a) (Fc:=λ u=>u.F) (A0:=aL x180.2.a.L++(x180.2.F++(x176.F++(x174.F++(x172.F++y.G))))) (hA:=h180.ak.all) (hc:=λ w1 hw=>Af (most:=20) (k:=980) h180.tk h180.ak (by omega) (by omega) (λ f hf=>List.mem_append_left _ hf) (λ f hf=>List.mem_append_right _ hf) hw)) (λ x199 h199=>?_))
            all_goals
             obtain⟨hkl,_⟩:=hfin.read (j:=20) (by decide) hN rfl h180 h199
             have hGy:=hx.sub _ hGm
            all_goals (refine Kd0 ?_;refine Kc8 ?_;refine aM (cV (hc:=λ w1 hw=>lG (d:=true) hfin.k0.done.1 hfin.k0.done.2 (hw.st.at cR))) (λ x202=>?_);refine cC ?_;refine aA ?_;refine aM (cV (hc:=λ w1 hw=>lG (d:=true) hfin.k1.done.1 hfin.k1.done.2 (hw.st.at cR))) (λ x205=>?_);refine cC ?_;refine aM ((by exact F2 (λ _=>cL (cs:=gG [!bb,bb]) qv Ii rfl rfl rfl rfl rfl))) (λ x207=>?_);refine dX ?_;refine H4 ?_;refine cY ?_)
            all_goals
             refine nS [23,24,25,209,210,211,212,213,214,215,216,217,218,219] (λ u:Nat×Int=>[(209,.int .i64 ((u.1:Nat):Int)),(23,.int .i64 u.2)]) (λ u=>u.1<=2/\u.2=Xj r ((x29.1.L.length+1:Nat):Int) ((x29.1.L.length+1+1:Nat):Int) bb u.1) (λ _=>[(x180.1,tO x49.1 x199.c x199.n),(x145,El a3 l3 c3 y.pos),(x133.1,tO x49.1 x176.c x176.n),(x129.1,tO x49.1 x174.c x174.n),(x120.1,tO x49.1 x172.c x172.n),(x49.1,dL x199.a),(j.1,.cells ⟨[.int .i64 (x27.2.2.2.ts.getD j.2 ⟨0,false⟩).root,.bool (x27.2.2.2.ts.getD j.2 ⟨0,false⟩).ro]⟩ 29 (0,0)),(x31,El a2 l2 c2 (kY l2 0)),(x27.1,lV x27.2.1 (x27.2.2.1:Int) x27.2.2.2.pt x27.2.2.2.ts.length x27.2.2.2.kt none 0 0),(x27.2.1,xM x29.1.a0)]) (λ _=>List.cons (some ⟨x207,0,none⟩,gG [!bb,bb]) (x199.F++(x180.2.F++(x176.F++(x174.F++(x172.F++y.G)))))) (λ _=>[⟨x199.a.pn,gX x199.a.L,x199.a.cn,47,14⟩,⟨x199.a.pc,aH x199.a.cs,x199.a.cc,37,1⟩,⟨x27.2.2.2.pt,qP x27.2.2.2.ts,x27.2.2.2.kt,29,2⟩,⟨none,uW [],0,74,1⟩,⟨x29.1.pn,gX x29.1.L,x29.1.cn,47,14⟩,⟨x29.1.pc,aH x29.1.cs,x29.1.cc,37,1⟩]) (λ u=>2-u.1) ((0,r)) (⟨Nat.zero_le _,rfl⟩) (λ u f hx=>?_) (hw0:=λ w hw=>hw.v6)
             dsimp only[iB,List.map,List.cons_append,List.nil_append]
             obtain⟨hu1,huw⟩:=hx
             all_goals (refine J0 ?_;refine Bq ?_;refine aR ?_)
             all_goals
              refine bE (λ c210=>?_) (λ c210=>?_)
              · all_goals try (first|contradiction|(exfalso;omega))
                all_goals (refine sA ?_;refine J2 ?_;refine aB (Wa (cs:=gG [!bb,bb]) (k:=u.1) rf rf gO gA (.new .head) (by omega) (by simp[gG];omega)) rfl ?_;refine aB (V5 (cs:=gG [!bb,bb]) (q:=u.1) (v:=.bool (if u.1=0 then !bb else bb)) rf gA (.new .head) (aBw (by omega))) rfl ?_;refine J8 ?_;refine J2 ?_;refine aG ?_)
                all_goals
                 refine bE (λ c214=>?_) (λ c214=>?_)
                 · all_goals try (first|contradiction|(exfalso;omega))
                   all_goals (refine Jv ?_;refine aB (eD (k:=u.1) (lst:=[((x29.1.L.length+1:Nat):Int),((x29.1.L.length+1+1:Nat):Int)]) rf rf gO gA (.new (zH.oQ (List.mem_cons_of_mem _ (List.mem_append_right _ (List.mem_append_right _ (List.mem_append_right _ (List.mem_append_right _ (List.mem_append_right _ hGy)))))))) (by omega) (by simp;omega)) rfl ?_;refine aB (fJ (q:=u.1) (lst:=[((x29.1.L.length+1:Nat):Int),((x29.1.L.length+1+1:Nat):Int)]) rf gA (.new (zH.oQ (List.mem_cons_of_mem _ (List.mem_append_right _ (List.mem_append_right _ (List.mem_append_right _ (List.mem_append_right _ (List.mem_append_right _ hGy)))))))) (by simp;omega)) rfl ?_;refine J1 ?_;refine eL ?_;refine Yx ?_;refine H4 ?_)
                   all_goals
                    refine gU (by exact(λ(_:(if u.1=0 then !bb else bb)=true)=>(u.1+1,[((x29.1.L.length+1:Nat):Int),((x29.1.L.length+1+1:Nat):Int)].getD u.1 0)) c214) ?_ (hw1:=λ w hw=>hw.v6)
                    · (exact⟨by show u.1+1<=2;omega,aA7 (by omega) huw c214⟩)
                 · all_goals try (first|contradiction|(exfalso;omega))
                   all_goals (refine pM ?_;refine Yx ?_;refine H4 ?_)
                   all_goals
                    refine gU (by exact(u.1+1,u.2)) ?_ (hw1:=λ w hw=>hw.v6)
                    · (exact⟨by show u.1+1<=2;omega,aBb (by omega) huw c214⟩)
              · all_goals try (first|contradiction|(exfalso;omega))
                all_goals
                 have hu2:u.1=2:=by omega
                 have huv:=aAY hu2 huw
                 cases bb
                all_goals (refine bR rfl ?_;refine lI ?_;refine aM (cV (hc:=λ w1 hw=>lG (d:=true) hfin.k0.done.1 hfin.k0.done.2 (hw.st.at cR))) (λ x221=>?_);refine cC ?_;refine aA ?_)
                all_goals refine Ka0 ?_
                all_goals ((first|refine aI ?_|(refine aF ?_;refine aM (cV (hc:=λ w1 hw=>lG (d:=true) hfin.k1.done.1 hfin.k1.done.2 (hw.st.at cR))) (λ x225=>?_)));(first|refine aI ?_|(refine aF ?_;refine cC ?_));refine Ka7 ?_)
                all_goals ((refine Ka3 ?_))
                all_goals ((refine Ka3 ?_))
                all_goals ((refine eG 230 (λ g230=>?_) (λ g230=>?_)<;>refine Ka0 ?_))
                all_goals ((first|refine aI ?_|(refine aF ?_;refine aM (cV (hc:=λ w1 hw=>lG (d:=true) hfin.k0.done.1 hfin.k0.done.2 (hw.st.at cR))) (λ x232=>?_)));(first|refine aI ?_|(refine aF ?_;refine cC ?_));(first|refine aI ?_|(refine aF ?_;refine uI ?_));((refine aF ?_;refine cA ?_));refine cA ?_;refine aG ?_)
                all_goals
                 refine bE (λ c236=>?_) (λ c236=>?_)
                 · try exact nv c236
                   all_goals refine cZ ?_
                   all_goals
                    refine aN Tryz.results11 (λ w hw=>?_)
                    first
                    | exact⟨rfl,hw.done⟩
                    | exact⟨by rw[huv];exact Kq _,hw.done⟩
                    | (exfalso;simp_all;done)
                 · try exact nv c236
                   all_goals (refine aS ?_;refine J0 ?_;refine aM (cV (hc:=λ w1 hw=>I7 w1)) (λ x237=>?_);refine aA ?_)
                   all_goals ((refine Ka3 ?_))
                   all_goals (((refine aF ?_;refine aM (cV (hc:=λ w1 hw=>Ai (d:=true) hkl.done.1 (hw.st.at cR))) (λ x240=>?_)));refine Ka7 ?_)
                   all_goals ((refine Ka3 ?_))
                   all_goals (((refine aF ?_;refine aM (cV (hc:=λ w1 hw=>lG (d:=true) hkl.done.1 hkl.done.2 (hw.st.at cR))) (λ x244=>?_)));refine J81 ?_;refine uU ?_;refine J1 ?_)
                   all_goals
                    refine aN Tryz.results11 (λ w hw=>?_)
                    first
                    | exact⟨rfl,hw.done⟩
                    | exact⟨by rw[huv];exact Kq _,hw.done⟩
                    | (exfalso;simp_all;done)
end Go.Proofs.YtbajmaoegmbfgaaGreat
