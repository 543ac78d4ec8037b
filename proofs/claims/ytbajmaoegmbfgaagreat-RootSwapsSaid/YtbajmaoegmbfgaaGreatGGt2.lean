/- root: the tasks. -/
import Derived.Test.YtbajmaoegmbfgaaGreatGGc5
import Derived.Test.YtbajmaoegmbfgaaGreatGLk3
import Derived.Test.YtbajmaoegmbfgaaGreatGGc0
import Derived.Test.YtbajmaoegmbfgaaGreatGVw1
import Derived.Test.YtbajmaoegmbfgaaGreatGAr8
import Derived.Test.YtbajmaoegmbfgaaGreatGNode2

set_option linter.unusedSimpArgs false
set_option linter.unusedVariables false
namespace Go.Proofs.YtbajmaoegmbfgaaGreat
section
open Go Go.RowKit Go.Ct
section
variable{D:List Nat}{A B:Fr}{a:AS}{b:Nat}{w:World}{f:FuncId}{cap:List Value}{t:fY}
theorem uf{bC exp nw:Int}{s:Mm}{bo bi bl bn:Nat}(ht:t.root<=9223372036854775807)(ho:bC<=s.nodes.length)(he:exp<=s.nodes.length)(hnn:nw<=s.nodes.length):rB b 96 [pt bo,pt bi,pt bl,pt bn] [] (bx bo (lC b t)::bx bi [iv bC]::bx bl [iv exp]::bx bn [iv nw]::B) s (nL t bC exp nw λ ok=>.done (pR 0 ok)):=by
 intro a D A w em ok hm hA hB hw0
 subst em
 have hT:Q2 b (λ ok=>.done (pR 0 ok)) a.mm 98 [] (bx bo (lC b t)::bx bi [iv bC]::bx bl [iv exp]::bx bn [iv nw]::B):=⟨by kernel_rfl,λ v s1 l=>tx v⟩
 refine enter Tryz.func96 Tryz.ntmps96 rfl rfl hw0 ?_
 simp only[bW]
 refine J0 ?_;refine aJ (λ x4=>?_);refine aH ?_;refine J0 ?_;refine aB (Yb bo (lC b t) 0 3 hB rfl rfl) rfl ?_;refine aB (oL bi [.int .i64 bC] 0 hB rfl) rfl ?_;refine aB (oL bl [.int .i64 exp] 0 hB rfl) rfl ?_;refine aB (oL bn [.int .i64 nw] 0 hB rfl) rfl ?_;refine aC (L0 (λ w1 hw=>Q7 ht hT ho he hnn ok hm hA hB hw)) (λ x9 h9=>?_);refine cG (hY λ _=>bF rf cN rf (dA _) dV rf jP) (λ _=>?_);refine aH ?_
 refine aZ Tryz.results96 (λ w hw=>?_)
 exact⟨x9,rfl,h9,hw.rN⟩
theorem Oo{bC exp nw:Int}(ht:t.root<=9223372036854775807)(ho:bC<=a.mm.nodes.length)(he:exp<=a.mm.nodes.length)(hnn:nw<=a.mm.nodes.length){n m:Nat}(hT:bQ (nL t bC exp nw λ ok=>.done (pR 0 ok)) n m)(ok:a.Ok)(hm:a.mm.Small)(hA:∀f∈aL a.L,f∈A)(hB:∀x∈B,x∈A)(hs:SF w D [(b,eN a)] A [] (eS a) w) :
  Calls Tryz.prog 48 #[.iface 42 (.pointer (some ⟨b,0,none⟩)),.agg ⟨[.int .i64 t.root,.bool t.ro]⟩,.int .i64 bC,.int .i64 exp,.int .i64 nw] w λ e w'=>∃x:Nat×Cd×Fr×AS,e=.returned (.pointer (some ⟨x.1,0,none⟩))/\(nM b (Ct.iZ (nL t bC exp nw λ ok=>.done (pR 0 ok)) a.mm) a B x.2/\eE (Ct.iZ (nL t bC exp nw λ ok=>.done (pR 0 ok)) a.mm).1=true)/\SF w D [(x.1,tO b x.2.1 0),(b,eN x.2.2.2)] [] x.2.2.1 (eS x.2.2.2) w':=by
 refine enter Tryz.func48 Tryz.ntmps48 rfl rfl hs ?_
 simp only[bW]
 refine J0 ?_;refine bL (λ x6=>?_);refine bL (λ x7=>?_);refine bL (λ x8=>?_);refine bL (λ x9=>?_);refine J1 ?_;refine J2 ?_;refine bO ?_;refine bG ?_;refine aJ (λ x11=>?_);refine J5 ?_;refine J2 ?_;(refine aB (cJ (by(repeat (first|exact cL _|(apply bX;focus ((conv=>{lhs;whnf});try exact rfl))));done)) rfl ?_);(refine aR (bE.pre (λ w h=>(show SF _ _ [_,(b,eN a)] _ ([bx x11 (lC b t),bx x7 [iv bC],bx x8 [iv exp],bx x9 [iv nw]]:Fr) _ w from(((h.dD (.tail .head)).dD (.tail .head)).dD (.tail .head)).dD .head)) (v8 (V:=λ x:Nat×Cd×Fr×AS=>.pointer (some ⟨x.1,0,none⟩)) (hs:=[(b,eN a)]) (os:=eS a) (hs':=λ x=>[(b,eN x.2.2.2)]) (Hc:=λ x=>[(x.1,tO b x.2.1 0)]) (os':=λ x=>eS x.2.2.2) (Oc:=λ _=>[]) (Fc:=λ x=>x.2.2.1) (A0:=[bx x11 (lC b t),bx x7 [iv bC],bx x8 [iv exp],bx x9 [iv nw]]++A) (hA:=bA.vm) (hc:=λ w1 hw=>W8 (B:=[bx x11 (lC b t),bx x7 [iv bC],bx x8 [iv exp],bx x9 [iv nw]]++B) hT ⟨by kernel_rfl,λ s1 l=>uf ht (by have:=l.len;omega) (by have:=l.len;omega) (by have:=l.len;omega)⟩ ok hm (λ f hf=>List.mem_append_right _ (hA f hf)) (Rw hB) hw))) (λ x17=>?_);try (refine eY (λ h17=>?_)));refine J1 ?_
 refine aQ Tryz.results48 (λ w hw=>?_)
 exact⟨(x17.1,x17.2.1,x17.2.2.1++[bx x11 (lC b t),bx x7 [iv bC],bx x8 [iv exp],bx x9 [iv nw]],x17.2.2.2),rfl,⟨nM.app h17.1,h17.2⟩,hw.ret (by repeat (first|exact List.Sublist.refl _|apply List.Sublist.cons_cons|apply List.Sublist.cons)) (aX.iF λ f hf=>hf) (by repeat (exact List.Sublist.refl _))⟩
end
end

/- The laws of root: a world, an arena, a trie; the sanity check. -/
end Go.Proofs.YtbajmaoegmbfgaaGreat
namespace Go.Ct
section
open Go Go.RowKit
theorem SF.aAo{w0 w:World}{M:List Nat}{p q x:Nat×Obj}{E:List (Nat×Obj)}{A F:Fr}{O:List Ow}(h:SF w0 M (p::q::(E++[x])) A F O w):SF w0 M (x::p::q::E) A F O w:=h.perm (List.perm_append_comm (l₁:=[x]) (l₂:=p::q::E)) (List.Perm.refl _)
end
end Go.Ct
namespace Go.Proofs.YtbajmaoegmbfgaaGreat
section
open Go Go.RowKit Go.Ct
structure TQ where
 bw:Nat
 bm:Nat
 m:Nat
 W:Wd
 ba:Nat
 a:AS
 j:Nat
 tp:Nat
 pos:Nat
structure Z2(q:TQ):Prop where
 m:q.m<18446744073709551616
 W:R9 q.m 2415922570 1048594 18 q.W
 j:q.j<q.W.ts.length
 mm:q.a.mm=q.W.z.mm
 a:q.a.Ok
abbrev TQ.t(q:TQ):fY:=q.W.ts.getD q.j ⟨0,false⟩
theorem Z2.root{q:TQ}(h:Z2 q):q.t.root<=9223372036854775807:=h.W.root (by decide) (zR h.j)
theorem ry{z:XS}(h:z.Ok):z.a0.Ok:=⟨h.fit,h.nd,h.cs,h.got,h.made,h.two,h.lL,h.lc,h.lg,h.la,h.lm,h.lk,h.le,h.fr,h.ys,h.gen0,h.ms,h.m1⟩
theorem Z2.lok{q:TQ}(h:Z2 q):D8 q.ba 2415922570 0 ⟨q.a,q.W.z.a0,[],[]⟩:=.none (ry h.W.z) h.a h.mm h.W.sz
abbrev tqH(l:List Int)(a:Option Addr)(c:Nat)(q:TQ):List (Nat×Obj):=[(q.ba,eN q.a),(q.tp,Dh a l c q.pos),(q.bw,mK q.bm (q.m:Int) q.W.pt q.W.ts.length q.W.kt q.W.pe (rM q.W.ex).length q.W.ke),(q.bm,xM q.W.z.a0)]
abbrev tqO(q:TQ):List Ow:=eS q.a++nK q.W.z
set_option maxRecDepth 100000 in
set_option maxHeartbeats 1000000 in
theorem Yr{l l2:List Int}{a a2:Option Addr}{c c2:Nat}{w:World}(h1:Go.Ct.Cl w a (aG l))(hl:l.length<=17592186043904)(h2:Go.Ct.Cl w a2 (aG l2))(hl2:l2.length<=17592186043904) :
  Calls Tryz.prog 50 #[.slice a l.length c,.slice a2 l2.length c2] w λ e w'=>∃q:TQ,e=.returned (.tuple #[.pointer (some ⟨q.bw,0,none⟩),.pointer (some ⟨q.ba,0,none⟩),.agg ⟨[.int .i64 q.t.root,.bool q.t.ro]⟩,.pointer (some ⟨q.tp,0,none⟩)])/\Z2 q/\SF w [] (tqH l2 a2 c2 q) [] (aL q.a.L++aL q.W.z.L) (tqO q) w':=by
 refine enter Tryz.func50 Tryz.ntmps50 rfl rfl (SF.s2 h1 h2) ?_
 simp only[bW]
 refine J0 ?_;refine oK (λ _=>?_);refine oK (λ _=>?_);refine aJ (λ x6=>?_);refine J1 ?_;refine J2 ?_;refine aC (Sr (Hc:=λ q:Nat×Nat×Nat×Wd=>wH q.2.2.1 q.1 q.2.1 q.2.2.2) (H1:=λ q=>(q.1,mK q.2.1 (q.2.2.1:Int) q.2.2.2.pt q.2.2.2.ts.length q.2.2.2.kt q.2.2.2.pe (rM q.2.2.2.ex).length q.2.2.2.ke)::(q.2.1,xM q.2.2.2.z)::(qD q.2.1 q.2.2.2.ex++[(x6,.cells ⟨[.int .i64 0,.bool false]⟩ 29 (0,0))])) (Fc:=λ q=>aL q.2.2.2.z.L) (F1:=λ q=>aL q.2.2.2.z.L) (Oc:=λ q=>wO q.2.2.2) (O1:=λ q=>⟨q.2.2.2.pt,tA q.2.2.2.ts,q.2.2.2.kt,29,2⟩::⟨q.2.2.2.pe,Ag (rM q.2.2.2.ex),q.2.2.2.ke,74,1⟩::⟨q.2.2.2.z.pn,gL q.2.2.2.z.L,q.2.2.2.z.cn,47,14⟩::⟨q.2.2.2.z.pc,aG q.2.2.2.z.cs,q.2.2.2.z.cc,37,1⟩::oH q.2.2.2.ex) (hH1:=λ q=>by simp only[wH,List.cons_append]) (hF1:=λ q=>List.append_nil _) (hO1:=λ q=>List.append_nil _) (hc:=λ w1 hw=>Y2 (hw.cl (.bC .head)) hl)) (λ x12 h12=>?_)
 have hm:=h12.1
 have hW:=h12.2
 have htl:=hW.tl
 have ht0:=hW.t0
 obtain⟨s1,s2,s3⟩:=hW.sz
 refine ue (λ w hw=>SF.aAo hw) ?_
 refine J1 ?_;refine J2 ?_;refine aC (Sr (Fc:=λ _=>[]) (Oc:=λ _=>[]) (hc:=λ w1 hw=>ib)) (λ x14 h14=>?_);refine hJ ?_
 refine dW [10,15,16,17,18,19,20,21,22,23,24,25,26,27] (λ j:Nat×Nat=>[(10,.pointer (some ⟨j.1,0,none⟩))]) (λ j=>j.2<x12.2.2.2.ts.length) (λ j=>(j.1,.cells ⟨[.int .i64 (x12.2.2.2.ts.getD j.2 ⟨0,false⟩).root,.bool (x12.2.2.2.ts.getD j.2 ⟨0,false⟩).ro]⟩ 29 (0,0))::(x14,Dh a2 l2 c2 (kG l2 0))::(x6,.cells ⟨[.int .i64 0,.bool false]⟩ 29 (0,0))::(x12.1,mK x12.2.1 (x12.2.2.1:Int) x12.2.2.2.pt x12.2.2.2.ts.length x12.2.2.2.kt x12.2.2.2.pe (rM x12.2.2.2.ex).length x12.2.2.2.ke)::(x12.2.1,xM x12.2.2.2.z)::qD x12.2.1 x12.2.2.2.ex) (λ _=>aL x12.2.2.2.z.L) (λ _=>⟨x12.2.2.2.pt,tA x12.2.2.2.ts,x12.2.2.2.kt,29,2⟩::⟨x12.2.2.2.pe,Ag (rM x12.2.2.2.ex),x12.2.2.2.ke,74,1⟩::⟨x12.2.2.2.z.pn,gL x12.2.2.2.z.L,x12.2.2.2.z.cn,47,14⟩::⟨x12.2.2.2.z.pc,aG x12.2.2.2.z.cs,x12.2.2.2.z.cc,37,1⟩::oH x12.2.2.2.ex) (by decide) (λ _=>by exact rfl) ?_ (λ j f hx=>?_)
 ·refine gW (.one 0 [] (.one 1 [] (.one 2 [] (.one 3 [] (.one 4 [] (.one 5 [] (.one 6 [] (.one 7 [] (.one 8 [] (.one 9 [] (.two 10 [3] (.one 11 [] (.one 12 [] (.one 13 [3,8,11,12] (.one 14 [] .nil)))) 0 [] (.two 13 [3,8] (.one 10 [3] (.one 11 [] (.one 12 [] (.one 14 [] .nil)))) 0 [] .nil)))))))))))) ?_
  refine Yc ?_;refine Up ?_;refine nV ?_
  refine gY (E:=[10,13]) (by decide +kernel) ((.cons ?_ (.cons ?_ .nil)))
  ·refine kN (i:=10) (hq:=(uK (hc:=λ w1 hw=>eJ x12.2.2.2.ts.length (hw.tape cN fin hl2) (by omega) (by omega)))) (h:=λ x25 h25=>?_)
   refine bT (i:=11) (hq:=(vE (cs:=tA x12.2.2.2.ts) (k:=x25) rf rf gG dV (.own .head) (by omega) (by rw[kO];omega))) (h:=?_);refine bT (i:=12) (hq:=(Fs (ts:=x12.2.2.2.ts) (q:=x25) rf dV (.own .head) (by omega))) (h:=?_);refine gS (hfire:=(λ _=>by((repeat (first|exact aV.nil|refine aV.cons (by first|exact iN|exact hU (hq:=vE (cs:=tA x12.2.2.2.ts) (k:=x25) rf rf gG dV (.own .head) (by omega) (by rw[kO];omega))|exact hU (hq:=Fs (ts:=x12.2.2.2.ts) (q:=x25) rf dV (.own .head) (by omega))) ?_));done))) (h:=λ x10=>?_);refine yP ?_
   refine eP ((x10,x25)) ?_ (hw1:=λ w hw=>hw.back (hH:=by exact List.Sublist.refl _) (hF:=by exact aX.all) (hO:=by exact List.Sublist.refl _))
   ·omega
  ·refine gP (i:=13) (h:=λ x10=>?_)
   refine aY (i:=10) (hq:=(uK (hc:=λ w1 hw=>eJ x12.2.2.2.ts.length (hw.tape cN fin hl2) (by omega) (by omega)))) (h:=λ x25 h25=>?_);refine bT (i:=11) (hq:=(vE (cs:=tA x12.2.2.2.ts) (k:=x25) rf rf gG dV (.own .head) (by omega) (by rw[kO];omega))) (h:=?_);refine bT (i:=12) (hq:=(Fs (ts:=x12.2.2.2.ts) (q:=x25) rf dV (.own .head) (by omega))) (h:=?_);refine yP ?_
   refine eP ((x10,x25)) ?_ (hw1:=λ w hw=>hw.back (hH:=by exact List.Sublist.refl _) (hF:=by exact aX.all) (hO:=by exact List.Sublist.refl _))
   ·omega
 dsimp only[gU,List.map,List.cons_append,List.nil_append]
 refine aT ?_;refine dS [(0,[]),(1,[]),(2,[]),(3,[]),(4,[]),(6,[]),(7,[]),(5,[6]),(8,[6]),(9,[6]),(10,[]),(11,[])] ?_;refine Up ?_;refine bM ?_;refine aM ?_;refine aY (i:=5) (hq:=(v8 (V:=λ q:Nat×AS=>.pointer (some ⟨q.1,0,none⟩)) (hs:=[(x12.2.1,xM x12.2.2.2.z)]) (os:=nK x12.2.2.2.z) (hs':=λ _=>[(x12.2.1,xM x12.2.2.2.z.a0)]) (Hc:=λ q=>[(q.1,eN q.2)]) (os':=λ _=>nK x12.2.2.2.z) (Oc:=λ q=>eS q.2) (Fc:=λ q=>aL q.2.L) (A0:=aL x12.2.2.2.z.L) (hA:=bA.of λ f hf=>.inr (.inr (.inl hf))) (hc:=λ w1 hw=>Wx hW.z (tE hW) (by omega) (by omega) (λ f hf=>hf) hw))) (h:=λ x33 h33=>?_);refine xI (h:=λ _=>?_);refine xI (h:=λ _=>?_);refine Az ?_
 refine aZ Tryz.results50 (λ w hw=>?_)
 exact⟨⟨x12.1,x12.2.1,x12.2.2.1,x12.2.2.2,x33.1,x33.2,j.2,x14,kG l2 0⟩,rfl,⟨hm,hW,hx,h33.1,h33.2⟩,hw.ret (by repeat (first|exact List.nil_sublist _|apply List.Sublist.cons_cons|apply List.Sublist.cons)) (aX.iF λ f hf=>hf) (by repeat (first|exact List.nil_sublist _|apply List.Sublist.cons_cons|apply List.Sublist.cons))⟩
end

/- The laws of root: the sanity check. -/
section
open Go Go.RowKit Go.Ct
theorem W0(x y:AX):iG (L4 x y) [0,3,4] 1 :=
 tE (m:=0) (B:=8) (C:=0) (E:=0) (W:=⟨XS.new (L4 x y) [0,3,4] 1 0 none 0 none 0,[⟨3,false⟩],none,0,[],none,0⟩) ⟨Uk _ _ _ _ _ _ _,⟨by show 4<=8;decide,by show 3<=8;decide,by show(1:Int)<=((8:Nat):Int);decide⟩,(λ e he=>nomatch he),by show 0<1;decide,rfl,by show 1<=5;decide,Nat.le_refl _,.new⟩
section
variable{D:List Nat}{A B:Fr}{a0 a:AS}{b bt n m most:Nat}{w:World}{c:Cd}{F:Fr}{p:Tr×Mm}
theorem Yh(hp:nM b p a0 B (c,F,a))(ha:eE p.1=true)(ht:bQ p.1 m 64)(hmm:most<=m)(hm:p.2.nodes.length+64*most<=137438953472/\p.2.cs.length+64*most<=137438953472)(hn:n+most<1000000000)(hA:∀f∈aL a.L,f∈A)(hB:∀x∈F++B,x∈A)(hs:SF w D [(bt,tO b c n),(b,eN a)] A [] (eS a) w) :
  Calls Tryz.prog 30 #[.pointer (some ⟨bt,0,none⟩),.int .i64 ((most:Nat):Int)] w λ e w'=>∃y:Cd×Fr×AS,e=.returned (.int .i64 ((zI p most:Nat):Int))/\yo b (wS p most) a (F++B) y/\SF w D [(bt,tO b y.1 (n+zI p most)),(b,eN y.2.2)] [] y.2.1 (eS y.2.2) w':=by
 obtain⟨⟨h1,h2⟩,h3,h4⟩:=hp
 simp only at h1 h2 h3
 have e:(p.1,a.mm)=p:=by rw[h2]
 have:=fh (b:=b) (bt:=bt) (n:=n) (D:=D) (A:=A) (B:=F++B) (w:=w) (most:=most) ht hmm ha (a:=a) (c:=c) (by rw[h2];exact h1) h3 (by rw[h2];exact hm) hn hA hB hs
 rw[e] at this
 exact this
end
def Yd:Nd:={Nd.zero with kind:=2,gen:=1}
def P5:Mm:=zf.push (Yd.c [] []) 3
def Vp:Tr:=nL ⟨3,false⟩ 4 3 5 λ ok=>.done (pR 0 ok)
theorem zU:bQ Vp 20 64:=by
 have h:Vp=kA ⟨4,⟨3,false⟩,4,3,5,0,0,0,⟨#[]⟩,0,0,0,false⟩ 0 21:=by
  unfold Vp kA
  rfl
 rw[h]
 exact I4 (by decide)
theorem ud:wS (Ct.iZ Vp P5) 9=(.done (pR 0 true),(wS (Ct.iZ Vp P5) 9).2)/\zI (Ct.iZ Vp P5) 9=6/\bU (wS (Ct.iZ Vp P5) 9).2.cs 3=5:=⟨rfl,rfl,rfl⟩
theorem ug:(Ct.iZ Vp P5).2.nodes.length=6/\(Ct.iZ Vp P5).2.cs.length=5:=⟨rfl,rfl⟩
theorem mx{D:List Nat}{A B F:Fr}{a0 a:AS}{b bt:Nat}{c:Cd}{w:World}(hp:nM b (Ct.iZ Vp P5) a0 B (c,F,a))(hA:∀f∈aL a.L,f∈A)(hB:∀x∈F++B,x∈A)(hs:SF w D [(bt,tO b c 0),(b,eN a)] A [] (eS a) w) :
  Calls Tryz.prog 30 #[.pointer (some ⟨bt,0,none⟩),.int .i64 9] w λ e w'=>∃y:Fr×AS,e=.returned (.int .i64 6)/\(bU y.2.cs 3=5/\y.2.cs.length<=1000)/\SF w D [(bt,tO b (Bq (pR 0 true)) 6),(b,eN y.2)] [] y.1 (eS y.2) w':=by
 obtain⟨e1,e2,e3⟩:=ud
 obtain⟨g1,g2⟩:=ug
 refine(Yh (n:=0) (m:=20) (most:=9) hp (mV P5 zU) (nI P5 zU 64) (by decide) ⟨by omega,by omega⟩ (by decide) hA hB hs).mono λ e w' ⟨y,h1,h2,hw⟩=>?_
 have h3:=h2.rp
 rw[e1] at h3
 obtain⟨_,h4⟩:=h3
 have h5:y.2.2.cs=(wS (Ct.iZ Vp P5) 9).2.cs:=congrArg Mm.cs h2.mm
 obtain⟨_,_,_,h6⟩:=Ev (nI P5 zU 64) (mV P5 zU) 9 (by decide) (s:=(Ct.iZ Vp P5).2)
 rw[e2,h4] at hw
 refine⟨(y.2.1,y.2.2),by rw[h1,e2];rfl,⟨by show bU y.2.2.cs 3=5;rw[h5];exact e3,?_⟩,hw⟩
 show y.2.2.cs.length<=1000
 rw[h5]
 have:(wS (Ct.iZ Vp P5) 9).2.cs.length<=(Ct.iZ Vp P5).2.cs.length+64*9:=h6
 omega
set_option maxRecDepth 100000 in
set_option maxHeartbeats 1000000 in
theorem Ib(w:World):Calls Tryz.prog 45 #[] w λ e w'=>e=.returned (.bool true)/\St w [] [] w':=by
 refine enter Tryz.func45 Tryz.ntmps45 rfl rfl (SF.s0 w) ?_
 simp only[bW]
 refine cP ?_;refine J0 ?_;refine aC (Sr (Fc:=λ _=>[]) (hc:=λ w1 hw=>ig w1)) (λ x7 h7=>?_);refine J1 ?_;refine J2 ?_;refine aC (cM (hc:=λ w hs=>Ni hs)) (λ x9 h9=>?_);refine aJ (λ x2=>?_);refine J5 ?_;refine Ex ?_;refine aB (aN (k:=3) rf cN dV (by simp only[List.drop_zero,List.take_succ_cons,List.take_zero];exact rfl) rfl) rfl ?_;refine aC (Sr (V:=λ x:Nat×List aU×(Option Addr×Nat)×(Option Addr×Nat)=>.tuple #[.pointer (some ⟨x.1,0,none⟩),.int .i64 0]) (Hc:=λ x=>[(x.1,aO x.2.1 [0,3,4] 1 0 x.2.2.1.1 x.2.2.1.2 x.2.2.2.1 x.2.2.2.2)]) (Fc:=λ x=>aL x.2.1) (Oc:=λ x=>mW x.2.1 [0,3,4] x.2.2.1.1 x.2.2.1.2 x.2.2.2.1 x.2.2.2.2) (hc:=λ w1 hw=>bj (L:=L4 x9.1 x9.2.1) (cs:=[0,3,4]) (hw.Gf (.inr (.inr (.inr ⟨_,.head _,rfl,rfl⟩))) (.inr (.inr (.inr ⟨_,.tail _ (.head _),rfl,rfl⟩))) (λ f hf=>.inl (jw f hf)) (Uk x9.1 x9.2.1 0 none 0 none 0).fit) (by show 4<=_;decide) (by decide) (hw.xb .head) (W0 _ _))) (λ x15 h15=>?_)
 obtain⟨a0,ha0⟩:∃a:AS,a=⟨x15.2.1,[0,3,4],1,0,x15.2.2.1.1,x15.2.2.1.2,x15.2.2.2.1,x15.2.2.2.2⟩:=⟨_,rfl⟩
 have hmm:a0.mm=zf:=by rw[ha0];show Mm.mk ((cY x15.2.1).map aU.c) [0,3,4] 1=zf;rw[h15.1];rfl
 have hok:a0.Ok:=⟨by rw[ha0];exact h15.2,by rw[hmm];exact(Uk x9.1 x9.2.1 0 none 0 none 0).mo⟩
 have hsm:a0.mm.Small:=by rw[hmm];exact⟨by decide,by decide⟩
 have hoA:∀x:AX,(a0.al Yd [] [] 3 x).Ok:=λ x=>hok.al x (by simp) (by simp) ⟨bH _,bH _,bH _,(λ r hr=>nomatch hr),bH _,bH _,bH _,⟨0,rfl,by decide⟩,⟨0,rfl,by decide⟩⟩ (by rw[hmm];decide)
 have hmA:∀x:AX,(a0.al Yd [] [] 3 x).mm=P5:=λ x=>by rw[oA,hmm];rfl
 refine Jv ?_;refine J8 ?_;refine lA ?_;refine uI ?_
 refine bB (λ c19=>?_) (λ c19=>?_)
 ·try (contradiction)
 ·try (first|contradiction|(exfalso;omega))
  refine aW ?_;refine J2 ?_;refine bG ?_;refine aC (cM (V:=λ _:AX=>.int .i64 5) (hs:=[(x15.1,eN a0)]) (os:=eS a0) (A0:=[(none,aG []),(none,dB [])]) (hs':=λ x=>[(x15.1,eN (a0.al Yd [] [] 3 x))]) (os':=λ x=>eS (a0.al Yd [] [] 3 x)) (Fc:=λ x=>(jB Yd [] [] a0.cs.length x).fr) (hH:=by rw[ha0];exact .cons .head .nil) (hO:=by rw[ha0];exact .cons .head (.cons .head .nil)) (hc:=λ w1 hw=>by have:=rR (n:=Yd) (xs:=[]) (ys:=[]) hok hsm 3 rfl rfl (by simp) (by simp) (λ f hf=>hf) hw;rw[hmm] at this;exact this)) (λ x22 h22=>?_);refine J1 ?_;refine J2 ?_;refine aB (sn rf (λ w=>Iw _ w)) rfl ?_;refine bO ?_;refine aA ?_;refine aC (v8 (V:=λ x:Nat×Cd×Fr×AS=>.pointer (some ⟨x.1,0,none⟩)) (hs:=[(x15.1,eN (a0.al Yd [] [] 3 x22))]) (os:=eS (a0.al Yd [] [] 3 x22)) (hs':=λ x=>[(x15.1,eN x.2.2.2)]) (Hc:=λ x=>[(x.1,tO x15.1 x.2.1 0)]) (os':=λ x=>eS x.2.2.2) (Oc:=λ _=>[]) (Fc:=λ x=>x.2.2.1) (A0:=aL (a0.al Yd [] [] 3 x22).L) (hA:=bA.of λ f hf=>((AS.iV.al a0 Yd [] [] 3 x22).fam f hf).imp_right λ h=>.inr (.inl (h.elim (λ h=>List.mem_append_right _ (by rw[ha0] at h;exact List.mem_append_left _ h)) λ h=>List.mem_append_left _ h))) (hc:=λ w1 hw=>by have:=Vc (Oo (t:=⟨3,false⟩) (bC:=4) (exp:=3) (nw:=5) (B:=[]) (n:=20) (m:=64) (by decide) (by rw[hmA];decide) (by rw[hmA];decide) (by rw[hmA];decide) zU (hoA x22) (by rw[hmA];exact⟨by decide,by decide⟩) (λ f hf=>hf) (λ x hx=>nomatch hx) hw);rw[hmA] at this;exact this)) (λ x27 h27=>?_);refine J1 ?_;refine J2 ?_;refine kW ?_;refine aA ?_
  (refine aF ?_;refine aA ?_)
  ((refine aF ?_;refine aC (cM (V:=λ y:Fr×AS=>.int .i64 6) (hs:=[(x27.1,tO x15.1 x27.2.1 0),(x15.1,eN x27.2.2.2)]) (os:=eS x27.2.2.2) (hs':=λ y=>[(x27.1,tO x15.1 (Bq (pR 0 true)) 6),(x15.1,eN y.2)]) (os':=λ y=>eS y.2) (Fc:=λ y=>y.1) (A0:=aL x27.2.2.2.L++(x27.2.2.1++[])) (hA:=bA.of λ f hf=>(List.mem_append.1 hf).elim (λ h=>(h27.1.2.2.fam f h).elim .inl λ h=>h.elim (λ h=>((AS.iV.al a0 Yd [] [] 3 x22).fam f h).imp_right λ h=>.inr (.inl (h.elim (λ h=>List.mem_append_right _ (List.mem_append_right _ (by rw[ha0] at h;exact List.mem_append_left _ h))) λ h=>List.mem_append_right _ (List.mem_append_left _ h)))) λ h=>.inr (.inr (.inl (List.mem_append_left _ h)))) λ h=>.inr (.inr (.inl (List.mem_append_left _ (by simpa using h))))) (hc:=λ w1 hw=>mx h27.1 (λ f hf=>List.mem_append_left _ hf) (λ f hf=>List.mem_append_right _ hf) hw)) (λ x32 h32=>?_)));refine xG ?_;refine aA ?_
  (refine aF ?_;refine aA ?_)
  ((refine aF ?_;refine aR (cV (hc:=λ w1 hw=>yU (r:=pR 0 true) (d:=true) rfl (if_pos rfl) (hw.st.at cN))) (λ x37=>?_)));((refine aF ?_;refine bZ ?_));refine cH ?_;refine aA ?_
  (refine aF ?_;refine aA ?_)
  refine J6 ?_;((refine aF ?_;refine aC (cM (V:=λ _:Unit=>.int .i64 5) (hs:=[(x15.1,eN x32.2)]) (os:=eS x32.2) (hs':=λ _=>[(x15.1,eN {x32.2 with acc:=up x32.2.acc})]) (os':=λ _=>eS x32.2) (Fc:=λ _=>[]) (hc:=λ w1 hw=>by rw[<- h32.1];exact T8 hw 3 (by decide) (by omega))) (λ x44 h44=>?_)));((refine aF ?_;refine aA ?_));refine xG ?_;refine J1 ?_
  refine aQ Tryz.results45 (λ w hw=>?_)
  exact⟨rfl,hw.done⟩
end

/- RootReads: the walk. -/
section
open Go Go.RowKit Go.Ct
abbrev xz(x:XS):List Ow:=[⟨x.pg,aG x.got,x.kg,37,1⟩,⟨x.pm,aG x.made,x.km,37,1⟩,⟨x.pl,aG x.cel,x.kl,27,1⟩,⟨x.pe,aG x.gns,x.ke,3,1⟩]
theorem uq{w0 w:World}{M:List Nat}{H:List (Nat×Obj)}{A F:Fr}{O:List Ow}{ba bm:Nat}{a:AS}{p:PX}{B:Fr}(h:SF w0 M H A F O w)(hH:[(p.tb,tO ba p.c p.n),(p.e.b,xO p.e.k bm p.e.x p.e.dn p.e.rs),(ba,eN a),(bm,xM p.e.x)].Sublist H)(hO:(xz p.e.x++(eS a++nK p.e.x)).Sublist O):SF w0 M (qP ba bm ⟨a,p.e.x,[p],B⟩) A F (tC ⟨a,p.e.x,[p],B⟩) w :=
 (h.sub hH aX.all hO).perm (List.perm_append_comm (l₁:=[(ba,eN a),(bm,xM p.e.x)]) (l₂:=[(p.tb,tO ba p.c p.n),(p.e.b,xO p.e.k bm p.e.x p.e.dn p.e.rs)])) (List.perm_append_comm (l₁:=eS a++nK p.e.x) (l₂:=xz p.e.x))
end

/- Views: the root of a trie, the main node of an I-node. -/
end Go.Proofs.YtbajmaoegmbfgaaGreat
namespace Go.Ct
section
open Go Go.RowKit
theorem mZ.Jo{L:List aU}{cs:List Int}{pn pc:Option Addr}{w w0:World}{M:List Nat}{H:List (Nat×Obj)}{F:Fr}{O:List Ow}(h:mZ w0 L cs pn pc)(hw:SF w0 M H ((pn,gL L)::(pc,aG cs)::aL L) F O w):mZ w L cs pn pc:=hw.Gf (.inr (.inl (.head _))) (.inr (.inl (.tail _ (.head _)))) (λ f hf=>.inr (.inl (.tail _ (.tail _ hf)))) h.fit
theorem iB(L:List aU)(r:Int):eD (L.map aU.c) r=(aD L r).c:=(D0 L r).symm
end
end Go.Ct
namespace Go.Proofs.YtbajmaoegmbfgaaGreat
section
open Go Go.RowKit Go.Ct
section
variable{L:List aU}{cs:List Int}{gen:Int}{pn pc:Option Addr}{cn cc:Nat}{w:World}
abbrev Vj(L:List aU)(cs:List Int)(gen:Int)(pn:Option Addr)(cn:Nat)(pc:Option Addr)(cc:Nat):Value:=.agg ⟨[.slice pn L.length cn,.slice pc cs.length cc,.int .i64 gen]⟩
structure StB(L:List aU)(cs:List Int):Prop where
 cs:∀c,bU cs c<=9223372036854775807
 bC:∀r,(aD L r).nd.bC<=9223372036854775807
 new:∀r,(aD L r).nd.new<=9223372036854775807
 main:∀r,(aD L r).nd.main<=9223372036854775807
 prev:∀r,(aD L r).nd.prev<=9223372036854775807
 status:∀r,(aD L r).nd.status<=9223372036854775807
 br:∀r,∀b∈(aD L r).xs,b<=9223372036854775807
end
end

/- The reference of views: a node, a cell, the root, the main node of an I-node. -/
section
open Go Go.RowKit Go.Ct
section
variable{L:List aU}{cs:List Int}{gen:Int}{pn pc:Option Addr}{cn cc:Nat}{w:World}
theorem yh(h:mZ w L cs pn pc)(r:Int)(hr:r<1):Calls Tryz.prog 91 #[Vj L cs gen pn cn pc cc,.int .i64 r] w λ e w'=>e=.returned (aD L r).nd.v/\St w [] [] w':=by
 refine enter Tryz.func91 Tryz.ntmps91 rfl rfl h.start ?_
 simp only[bW]
 refine J0 ?_;refine bL (λ x2=>?_);refine aJ (λ x4=>?_);refine aH ?_;refine lA ?_;refine B6 ?_
 (refine dZ 7 (λ g7=>?_) (λ g7=>?_)<;>(try (exfalso;omega))<;>(refine aI ?_))
 refine Qs ?_;refine B8 ?_;refine aH ?_
 refine bB (λ c13=>?_) (λ c13=>?_)
 ·try (exfalso;omega)
  refine J0 ?_;refine uJ ?_
  refine aZ Tryz.results91 (λ w hw=>?_)
  exact⟨by rw[pC (by omega)];rfl,hw.done⟩
 ·exact nv c13
theorem wc(h:mZ w L cs pn pc){k:Nat}(hk:(k:Int)<9223372036854775807)(hl:L.length<=274877906944):Calls Tryz.prog 91 #[Vj L cs gen pn cn pc cc,.int .i64 ((k+1:Nat):Int)] w λ e w'=>e=.returned (aD L ((k+1:Nat):Int)).nd.v/\St w [] [] w':=by
 refine enter Tryz.func91 Tryz.ntmps91 rfl rfl h.start ?_
 simp only[bW]
 refine J0 ?_;refine bL (λ x2=>?_);refine aJ (λ x4=>?_);refine aH ?_;refine lA ?_;refine B6 ?_
 (refine aF ?_;refine aA ?_)
 refine Qs ?_;refine B8 ?_;refine aH ?_
 refine bB (λ c13=>?_) (λ c13=>?_)
 ·try (exfalso;omega)
  refine J0 ?_;refine uJ ?_
  refine aZ Tryz.results91 (λ w hw=>?_)
  (exact⟨by rw[pC (by omega)];rfl,hw.done⟩)
 ·try (exfalso;omega)
  refine aW ?_;refine gI ?_;refine aA ?_;refine rU ?_;refine P3 ?_;refine J5 ?_
  refine aZ Tryz.results91 (λ w hw=>?_)
  (exact⟨by rw[uN (by omega)];rfl,hw.done⟩)
theorem tN(h:mZ w L cs pn pc)(r:Int)(hr:r<=9223372036854775807)(hl:L.length<=274877906944):Calls Tryz.prog 91 #[Vj L cs gen pn cn pc cc,.int .i64 r] w λ e w'=>e=.returned (aD L r).nd.v/\St w [] [] w':=by
 rcases Int.lt_or_le r 1 with h1|h1
 ·exact yh h r h1
 ·obtain⟨k,rfl⟩:∃k:Nat,r=((k+1:Nat):Int):=⟨(r-1).toNat,by omega⟩
  exact wc h (by omega) hl
theorem cu(h:mZ w L cs pn pc)(r:Int)(hr:r<1):Calls Tryz.prog 90 #[Vj L cs gen pn cn pc cc,.int .i64 r] w λ e w'=>e=.returned (.int .i64 (bU cs r))/\St w [] [] w':=by
 refine enter Tryz.func90 Tryz.ntmps90 rfl rfl h.start ?_
 simp only[bW]
 refine J0 ?_;refine bL (λ x2=>?_);refine hJ ?_;refine J2 ?_;refine B6 ?_
 (refine dZ 7 (λ g7=>?_) (λ g7=>?_)<;>(try (exfalso;omega))<;>(refine aI ?_))
 refine Qs ?_;refine B8 ?_;refine aH ?_
 refine bB (λ c13=>?_) (λ c13=>?_)
 ·try (exfalso;omega)
  refine cP ?_
  refine aQ Tryz.results90 (λ w hw=>?_)
  exact⟨by rw[qW (by omega)];rfl,hw.done⟩
 ·exact nv c13
theorem Yy(h:mZ w L cs pn pc){k:Nat}(hk:(k:Int)<9223372036854775807)(hl:cs.length<=274877906944):Calls Tryz.prog 90 #[Vj L cs gen pn cn pc cc,.int .i64 ((k+1:Nat):Int)] w λ e w'=>e=.returned (.int .i64 (bU cs ((k+1:Nat):Int)))/\St w [] [] w':=by
 refine enter Tryz.func90 Tryz.ntmps90 rfl rfl h.start ?_
 simp only[bW]
 refine J0 ?_;refine bL (λ x2=>?_);refine hJ ?_;refine J2 ?_;refine B6 ?_
 (refine aF ?_;refine aA ?_)
 refine Qs ?_;refine B8 ?_;refine aH ?_
 refine bB (λ c13=>?_) (λ c13=>?_)
 ·try (exfalso;omega)
  refine cP ?_
  refine aQ Tryz.results90 (λ w hw=>?_)
  (exact⟨by rw[qW (by omega)];rfl,hw.done⟩)
 ·try (exfalso;omega)
  refine aW ?_;refine gI ?_;refine aA ?_;refine rU ?_;refine P3 ?_;refine J1 ?_
  refine aQ Tryz.results90 (λ w hw=>?_)
  (exact⟨by rw[Gb (by omega)];rfl,hw.done⟩)
theorem D9(h:mZ w L cs pn pc)(r:Int)(hr:r<=9223372036854775807)(hl:cs.length<=274877906944):Calls Tryz.prog 90 #[Vj L cs gen pn cn pc cc,.int .i64 r] w λ e w'=>e=.returned (.int .i64 (bU cs r))/\St w [] [] w':=by
 rcases Int.lt_or_le r 1 with h1|h1
 ·exact cu h r h1
 ·obtain⟨k,rfl⟩:∃k:Nat,r=((k+1:Nat):Int):=⟨(r-1).toNat,by omega⟩
  exact Yy h (by omega) hl
theorem m8(h:mZ w L cs pn pc)(hb:StB L cs)(hl:L.length<=274877906944)(hc:cs.length<=274877906944)(i:Int)(hi:i<=9223372036854775807):Calls Tryz.prog 83 #[Vj L cs gen pn cn pc cc,.int .i64 i] w λ e w'=>e=.returned (.tuple #[.int .i64 ((pN (L.map aU.c) cs i).getD 0),.bool (pN (L.map aU.c) cs i).isSome])/\St w [] [] w':=by
 refine enter Tryz.func83 Tryz.ntmps83 rfl rfl h.start ?_
 simp only[bW]
 simp only[Vj]
 refine J0 ?_;refine bL (λ x2=>?_);refine J8 ?_;refine aT ?_;refine Dd ?_;refine aR (cV (hc:=λ w1 hw=>tN (h.Jo hw) i hi hl)) (λ x10=>?_);refine bZ ?_;refine kW ?_;refine aH ?_
 refine bB (λ c12=>?_) (λ c12=>?_)
 ·refine Pe ?_
  refine aZ Tryz.results83 (λ w hw=>?_)
  refine⟨?_,hw.done⟩
  unfold pN yD nW vL
  simp only[iB,cI,aU.c,Nd.c]
  simp_all
  rfl
 ·refine kC ?_;refine dS [(0,[]),(1,[]),(2,[]),(3,[0]),(4,[]),(5,[]),(6,[])] ?_;refine bM ?_;refine bM ?_;refine aM ?_;refine cD (i:=3) (hq:=(cV (hc:=λ w1 hw=>tN (h.Jo hw) i hi hl))) (h:=λ x16=>?_);refine pS ?_;refine cD (i:=5) (hq:=(cV (hc:=λ w1 hw=>D9 (h.Jo hw) (aD L i).nd.main (hb.main i) hc))) (h:=λ x18=>?_);refine J7 ?_;refine aT ?_;refine Dd ?_;refine aR (cV (hc:=λ w1 hw=>tN (h.Jo hw) (bU cs (aD L i).nd.main) (hb.cs _) hl)) (λ x21=>?_);refine aC (c0 (V:=.bool) (hc:=λ w1 hw=>wU _ w1)) (λ x22 h22=>?_);refine nY ?_
  refine bB (λ c23=>?_) (λ c23=>?_)
  ·refine Pe ?_
   refine aZ Tryz.results83 (λ w hw=>?_)
   refine⟨?_,hw.done⟩
   unfold pN yD nW vL
   simp only[iB,cI,aU.c,Nd.c]
   simp_all
   rfl
  ·refine kC ?_;refine dS [(0,[]),(1,[]),(2,[]),(3,[0]),(4,[]),(5,[]),(6,[])] ?_;refine bM ?_;refine bM ?_;refine aM ?_;refine cD (i:=3) (hq:=(cV (hc:=λ w1 hw=>tN (h.Jo hw) (bU cs (aD L i).nd.main) (hb.cs _) hl))) (h:=λ x27=>?_);refine pS ?_;refine cD (i:=5) (hq:=(cV (hc:=λ w1 hw=>D9 (h.Jo hw) (aD L (bU cs (aD L i).nd.main)).nd.prev (hb.prev _) hc))) (h:=λ x29=>?_);refine J7 ?_;refine C4 ?_;refine J2 ?_;refine P9 ?_
   refine bB (λ c30=>?_) (λ c30=>?_)
   ·refine J2 ?_;refine J8 ?_
    refine aZ Tryz.results83 (λ w hw=>?_)
    refine⟨?_,hw.done⟩
    unfold pN yD nW vL
    simp only[iB,cI,aU.c,Nd.c]
    simp_all
    rfl
   ·refine Dd ?_;refine aR (cV (hc:=λ w1 hw=>tN (h.Jo hw) (bU cs (aD L (bU cs (aD L i).nd.main)).nd.prev) (hb.cs _) hl)) (λ x37=>?_);refine bZ ?_;refine P9 ?_
    refine bB (λ c34=>?_) (λ c34=>?_)
    ·refine dF ?_;refine bO ?_;refine aA ?_;refine aR (cV (hc:=λ w1 hw=>tN (h.Jo hw) (bU cs (aD L (bU cs (aD L i).nd.main)).nd.prev) (hb.cs _) hl)) (λ x42=>?_);refine bZ ?_;refine J1 ?_;refine fA ?_;refine aT ?_;refine Dd ?_;refine aR (cV (hc:=λ w1 hw=>tN (h.Jo hw) _ (by exact hb.bC _) hl)) (λ x46=>?_);refine aC (c0 (V:=.bool) (hc:=λ w1 hw=>wU _ w1)) (λ x47 h47=>?_);refine nY ?_
     refine bB (λ c48=>?_) (λ c48=>?_)
     ·refine Pe ?_
      refine aZ Tryz.results83 (λ w hw=>?_)
      refine⟨?_,hw.done⟩
      unfold pN yD nW vL
      simp only[iB,cI,aU.c,Nd.c]
      simp_all
      rfl
     ·refine aW ?_;refine J2 ?_;refine J8 ?_
      refine aZ Tryz.results83 (λ w hw=>?_)
      refine⟨?_,hw.done⟩
      unfold pN yD nW vL
      simp only[iB,cI,aU.c,Nd.c]
      simp_all
      rfl
    ·refine nR ?_;refine aT ?_;refine Dd ?_;refine aR (cV (hc:=λ w1 hw=>tN (h.Jo hw) _ (by exact hb.cs _) hl)) (λ x46=>?_);refine aC (c0 (V:=.bool) (hc:=λ w1 hw=>wU _ w1)) (λ x47 h47=>?_);refine nY ?_
     refine bB (λ c48=>?_) (λ c48=>?_)
     ·refine Pe ?_
      refine aZ Tryz.results83 (λ w hw=>?_)
      refine⟨?_,hw.done⟩
      unfold pN yD nW vL
      simp only[iB,cI,aU.c,Nd.c]
      simp_all
      rfl
     ·refine aW ?_;refine J2 ?_;refine J8 ?_
      refine aZ Tryz.results83 (λ w hw=>?_)
      refine⟨?_,hw.done⟩
      unfold pN yD nW vL
      simp only[iB,cI,aU.c,Nd.c]
      simp_all
      rfl
theorem ph(h:mZ w L cs pn pc)(hb:StB L cs)(hl:L.length<=274877906944)(hc:cs.length<=274877906944)(c:Int)(ro:Bool)(hi:c<=9223372036854775807):Calls Tryz.prog 95 #[Vj L cs gen pn cn pc cc,.agg ⟨[.int .i64 c,.bool ro]⟩] w λ e w'=>e=.returned (.tuple #[.int .i64 ((pJ (L.map aU.c) cs c).getD 0),.bool (pJ (L.map aU.c) cs c).isSome])/\St w [] [] w':=by
 refine enter Tryz.func95 Tryz.ntmps95 rfl rfl h.start ?_
 simp only[bW]
 simp only[Vj]
 refine J0 ?_;refine bL (λ x2=>?_);refine bL (λ x3=>?_);refine J8 ?_;refine nJ ?_;refine J3 ?_;refine aR (cV (hc:=λ w1 hw=>D9 (h.Jo hw) c hi hc)) (λ x11=>?_);refine hJ ?_;refine Dd ?_;refine aR (cV (hc:=λ w1 hw=>tN (h.Jo hw) (bU cs c) (hb.cs _) hl)) (λ x14=>?_);refine aJ (λ x7=>?_);refine J5 ?_;refine gI ?_;refine uI ?_
 refine bB (λ c17=>?_) (λ c17=>?_)
 ·refine gI ?_;refine J1 ?_;refine nJ ?_;refine J3 ?_;refine aR (cV (hc:=λ w1 hw=>D9 (h.Jo hw) (aD L (bU cs c)).nd.status (hb.status _) hc)) (λ x23=>?_);refine uI ?_
  refine bB (λ c24=>?_) (λ c24=>?_)
  ·refine dF ?_;refine J3 ?_;refine hJ ?_;refine Dd ?_;refine aR (cV (hc:=λ w1 hw=>tN (h.Jo hw) _ (by exact hb.new _) hl)) (λ x29=>?_);refine bZ ?_;refine kW ?_;refine aH ?_
   refine bB (λ c31=>?_) (λ c31=>?_)
   ·refine Pe ?_
    refine aZ Tryz.results95 (λ w hw=>?_)
    refine⟨?_,hw.done⟩
    unfold pJ yG
    simp only[iB,cI,aU.c,Nd.c]
    simp_all
    rfl
   ·refine aW ?_;refine J2 ?_;refine J8 ?_
    refine aZ Tryz.results95 (λ w hw=>?_)
    refine⟨?_,hw.done⟩
    unfold pJ yG
    simp only[iB,cI,aU.c,Nd.c]
    simp_all
    rfl
  ·refine kC ?_;refine Dd ?_;refine aR (cV (hc:=λ w1 hw=>tN (h.Jo hw) _ (by exact hb.bC _) hl)) (λ x29=>?_);refine bZ ?_;refine kW ?_;refine aH ?_
   refine bB (λ c31=>?_) (λ c31=>?_)
   ·refine Pe ?_
    refine aZ Tryz.results95 (λ w hw=>?_)
    refine⟨?_,hw.done⟩
    unfold pJ yG
    simp only[iB,cI,aU.c,Nd.c]
    simp_all
    rfl
   ·refine aW ?_;refine J2 ?_;refine J8 ?_
    refine aZ Tryz.results95 (λ w hw=>?_)
    refine⟨?_,hw.done⟩
    unfold pJ yG
    simp only[iB,cI,aU.c,Nd.c]
    simp_all
    rfl
 ·refine kC ?_;refine Dd ?_;refine aR (cV (hc:=λ w1 hw=>tN (h.Jo hw) _ (by exact hb.cs _) hl)) (λ x29=>?_);refine bZ ?_;refine kW ?_;refine aH ?_
  refine bB (λ c31=>?_) (λ c31=>?_)
  ·refine Pe ?_
   refine aZ Tryz.results95 (λ w hw=>?_)
   refine⟨?_,hw.done⟩
   unfold pJ yG
   simp only[iB,cI,aU.c,Nd.c]
   simp_all
   rfl
  ·refine aW ?_;refine J2 ?_;refine J8 ?_
   refine aZ Tryz.results95 (λ w hw=>?_)
   refine⟨?_,hw.done⟩
   unfold pJ yG
   simp only[iB,cI,aU.c,Nd.c]
   simp_all
   rfl
end
end

end Go.Proofs.YtbajmaoegmbfgaaGreat
