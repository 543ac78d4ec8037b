/- The laws of gcas: a world, an arena, a place. -/
import Derived.Test.YtbajmaoegmbfgaaGreatGGc5
import Derived.Test.YtbajmaoegmbfgaaGreatGLe1
import Derived.Test.YtbajmaoegmbfgaaGreatKw8

set_option linter.unusedSimpArgs false
set_option linter.unusedVariables false
namespace Go.Ct
section
open Go Go.RowKit
theorem SF.aBe{w0 w:World}{M:List Nat}{p q x y:Nat×Obj}{E:List (Nat×Obj)}{A F:Fr}{O:List Ow}(h:SF w0 M (p::q::(E++[x,y])) A F O w):SF w0 M (x::y::p::q::E) A F O w:=h.perm (List.perm_append_comm (l₁:=[x,y]) (l₂:=p::q::E)) (List.Perm.refl _)
end
end Go.Ct
namespace Go.Proofs.YtbajmaoegmbfgaaGreat
section
open Go Go.RowKit Go.Ct
structure yw(q:TQ×rX):Prop extends R8 q.1 where
 pl:ow q.1.W.z q.2.p
abbrev gqH(q:TQ×rX):List (Nat×Obj):=[(q.1.ba,fS q.1.a),(q.1.bw,mB q.1.bm (q.1.m:Int) q.1.W.pt q.1.W.ts.length q.1.W.kt q.1.W.pe (rA q.1.W.ex).length q.1.W.ke),(q.1.bm,xM q.1.W.z.a0)]
abbrev aAU:Obj:=.cells ⟨[.int .i64 0,.int .i64 0,.int .i64 0,.int .i64 0,.slice none 0 0]⟩ 39 (0,0)
set_option maxRecDepth 100000 in
set_option maxHeartbeats 2000000 in
theorem P8{l l2:List Int}{a a2:Option Addr}{c c2:Nat}{w:World}(h1:Go.Ct.Cl w a (aG l))(hl:l.length<=17592186043904)(h2:Go.Ct.Cl w a2 (aG l2))(hl2:l2.length<=17592186043904) :
  Calls Tryz.prog 39 #[.slice a l.length c,.slice a2 l2.length c2] w λ e w'=>∃q:TQ×rX,e=.returned (.tuple #[.pointer (some ⟨q.1.bw,0,none⟩),.pointer (some ⟨q.1.ba,0,none⟩),.agg ⟨q.2.cells⟩,.agg ⟨[.int .i64 q.1.t.root,.bool q.1.t.ro]⟩,.bool true])/\yw q/\SF w [] (gqH q) [] (aM q.1.a.L++aM q.1.W.z.L) (tqO q.1) w':=by
 refine enter Tryz.func39 Tryz.ntmps39 rfl rfl (SF.s2 h1 h2) ?_
 simp only[bX]
 refine J0 ?_;refine eG (λ _=>?_);refine eG (λ _=>?_);refine aJ (λ x6=>?_);refine aJ (λ x7=>?_);refine J1 ?_;refine J2 ?_;refine aD (Oh (Hc:=λ q:Nat×Nat×Nat×Wd=>wH q.2.2.1 q.1 q.2.1 q.2.2.2) (H1:=λ q=>(q.1,mB q.2.1 (q.2.2.1:Int) q.2.2.2.pt q.2.2.2.ts.length q.2.2.2.kt q.2.2.2.pe (rA q.2.2.2.ex).length q.2.2.2.ke)::(q.2.1,xM q.2.2.2.z)::(qM q.2.1 q.2.2.2.ex++[(x7,.cells ⟨[.int .i64 0,.bool false]⟩ 29 (0,0)),(x6,aAU)])) (Fc:=λ q=>aM q.2.2.2.z.L) (F1:=λ q=>aM q.2.2.2.z.L) (Oc:=λ q=>wO q.2.2.2) (O1:=λ q=>⟨q.2.2.2.pt,sG q.2.2.2.ts,q.2.2.2.kt,29,2⟩::⟨q.2.2.2.pe,Bc (rA q.2.2.2.ex),q.2.2.2.ke,74,1⟩::⟨q.2.2.2.z.pn,hZ q.2.2.2.z.L,q.2.2.2.z.cn,47,14⟩::⟨q.2.2.2.z.pc,aG q.2.2.2.z.cs,q.2.2.2.z.cc,37,1⟩::oQ q.2.2.2.ex) (hH1:=λ q=>by simp only[wH,List.cons_append]) (hF1:=λ q=>List.append_nil _) (hO1:=λ q=>List.append_nil _) (hc:=λ w1 hw=>bh (hw.cl (.bK .head)) hl)) (λ x16 h16=>?_)
 have hm:=h16.1
 have hW:=h16.2
 have htl:=hW.tl
 have ht0:=hW.t0
 obtain⟨s1,s2,s3⟩:=hW.sz
 refine zl (λ w hw=>SF.aBe hw) ?_
 refine J1 ?_;refine J2 ?_;refine aD (Oh (Fc:=λ _=>[]) (Oc:=λ _=>[]) (hc:=λ w1 hw=>Zq)) (λ x18 h18=>?_);refine iE ?_
 refine eQ [11,19,20,21,22,23,24,25,26,27,28,29,30,31] (λ j:Nat×Nat=>[(11,.pointer (some ⟨j.1,0,none⟩))]) (λ j=>j.2<x16.2.2.2.ts.length) (λ j=>(j.1,.cells ⟨[.int .i64 (x16.2.2.2.ts.getD j.2 ⟨0,false⟩).root,.bool (x16.2.2.2.ts.getD j.2 ⟨0,false⟩).ro]⟩ 29 (0,0))::(x18,Bd a2 l2 c2 (kD l2 0))::(x7,.cells ⟨[.int .i64 0,.bool false]⟩ 29 (0,0))::(x6,aAU)::(x16.1,mB x16.2.1 (x16.2.2.1:Int) x16.2.2.2.pt x16.2.2.2.ts.length x16.2.2.2.kt x16.2.2.2.pe (rA x16.2.2.2.ex).length x16.2.2.2.ke)::(x16.2.1,xM x16.2.2.2.z)::qM x16.2.1 x16.2.2.2.ex) (λ _=>aM x16.2.2.2.z.L) (λ _=>⟨x16.2.2.2.pt,sG x16.2.2.2.ts,x16.2.2.2.kt,29,2⟩::⟨x16.2.2.2.pe,Bc (rA x16.2.2.2.ex),x16.2.2.2.ke,74,1⟩::⟨x16.2.2.2.z.pn,hZ x16.2.2.2.z.L,x16.2.2.2.z.cn,47,14⟩::⟨x16.2.2.2.z.pc,aG x16.2.2.2.z.cs,x16.2.2.2.z.cc,37,1⟩::oQ x16.2.2.2.ex) (by decide) (λ _=>by exact rfl) ?_ (λ j f hx=>?_)
 ·refine gE (.one 0 [] (.one 1 [] (.one 2 [] (.one 3 [] (.one 4 [] (.one 5 [] (.one 6 [] (.one 7 [] (.one 8 [] (.one 9 [] (.two 10 [3] (.one 11 [] (.one 12 [] (.one 13 [3,8,11,12] (.one 14 [] .nil)))) 0 [] (.two 13 [3,8] (.one 10 [3] (.one 11 [] (.one 12 [] (.one 14 [] .nil)))) 0 [] .nil)))))))))))) ?_
  refine Zb ?_;refine X4 ?_;refine oD ?_
  refine gQ (E:=[10,13]) (by decide +kernel) ((.cons ?_ (.cons ?_ .nil)))
  ·refine mM (i:=10) (hq:=(uC (hc:=λ w1 hw=>eH x16.2.2.2.ts.length (hw.tape cQ fin hl2) (by omega) (by omega)))) (h:=λ x29 h29=>?_)
   refine bQ (i:=11) (hq:=(wA (cs:=sG x16.2.2.2.ts) (k:=x29) rf rf fT eC (.own .head) (by omega) (by rw[lD];omega))) (h:=?_);refine bQ (i:=12) (hq:=(F9 (ts:=x16.2.2.2.ts) (q:=x29) rf eC (.own .head) (by omega))) (h:=?_);refine gV (hfire:=(λ _=>by((repeat (first|exact aK.nil|refine aK.cons (by first|exact eV|exact fG (hq:=wA (cs:=sG x16.2.2.2.ts) (k:=x29) rf rf fT eC (.own .head) (by omega) (by rw[lD];omega))|exact fG (hq:=F9 (ts:=x16.2.2.2.ts) (q:=x29) rf eC (.own .head) (by omega))) ?_));done))) (h:=λ x11=>?_);refine zU ?_
   refine fD ((x11,x29)) ?_ (hw1:=λ w hw=>hw.back (hH:=by exact List.Sublist.refl _) (hF:=by exact aX.all) (hO:=by exact List.Sublist.refl _))
   ·omega
  ·refine gW (i:=13) (h:=λ x11=>?_)
   refine aZ (i:=10) (hq:=(uC (hc:=λ w1 hw=>eH x16.2.2.2.ts.length (hw.tape cQ fin hl2) (by omega) (by omega)))) (h:=λ x29 h29=>?_);refine bQ (i:=11) (hq:=(wA (cs:=sG x16.2.2.2.ts) (k:=x29) rf rf fT eC (.own .head) (by omega) (by rw[lD];omega))) (h:=?_);refine bQ (i:=12) (hq:=(F9 (ts:=x16.2.2.2.ts) (q:=x29) rf eC (.own .head) (by omega))) (h:=?_);refine zU ?_
   refine fD ((x11,x29)) ?_ (hw1:=λ w hw=>hw.back (hH:=by exact List.Sublist.refl _) (hF:=by exact aX.all) (hO:=by exact List.Sublist.refl _))
   ·omega
 dsimp only[gX,List.map,List.cons_append,List.nil_append]
 have htm:=Aj hx
 have hrt:=hW.root (by decide) htm
 refine J2 ?_;refine bP ?_;refine aA ?_;refine aD (cM (V:=λ v:rX=>.tuple #[.agg ⟨v.cells⟩,.bool true]) (hs:=[(x18,Bd a2 l2 c2 (kD l2 0)),(x16.1,mB x16.2.1 (x16.2.2.1:Int) x16.2.2.2.pt x16.2.2.2.ts.length x16.2.2.2.kt x16.2.2.2.pe (rA x16.2.2.2.ex).length x16.2.2.2.ke),(x16.2.1,xM x16.2.2.2.z)]) (os:=zC x16.2.2.2.z) (hs':=λ _=>[(x18,Bd a2 l2 c2 (kD l2 (kD l2 0))),(x16.1,mB x16.2.1 (x16.2.2.1:Int) x16.2.2.2.pt x16.2.2.2.ts.length x16.2.2.2.kt x16.2.2.2.pe (rA x16.2.2.2.ex).length x16.2.2.2.ke),(x16.2.1,xM x16.2.2.2.z)]) (os':=λ _=>zC x16.2.2.2.z) (Fc:=λ _=>[]) (A0:=(a2,aG l2)::aM x16.2.2.2.z.L) (hA:=bA.cons (.inr (.inl (.tail _ (.head _)))) (bA.of λ f hf=>.inr (.inr (.inl hf)))) (hc:=λ w1 hw=>dx hW (by decide) htm hrt hl2 (λ f hf=>List.mem_cons_of_mem _ hf) (List.mem_cons_self ..) hw)) (λ x36 h36=>?_);refine Ii ?_;refine aJ (λ x12=>?_);refine xX ?_;refine lP ?_;refine aD (vd (V:=λ q:Nat×AS=>.pointer (some ⟨q.1,0,none⟩)) (hs:=[(x16.2.1,xM x16.2.2.2.z)]) (os:=zC x16.2.2.2.z) (hs':=λ _=>[(x16.2.1,xM x16.2.2.2.z.a0)]) (Hc:=λ q=>[(q.1,fS q.2)]) (os':=λ _=>zC x16.2.2.2.z) (Oc:=λ q=>gI q.2) (Fc:=λ q=>aM q.2.L) (A0:=aM x16.2.2.2.z.L) (hA:=bA.of λ f hf=>.inr (.inr (.inl hf))) (hc:=λ w1 hw=>Xo hW.z (tF hW) (by omega) (by omega) (λ f hf=>hf) hw)) (λ x43 h43=>?_);refine iE ?_;refine dK [(0,[]),(1,[]),(2,[]),(3,[]),(4,[]),(5,[]),(6,[]),(7,[]),(8,[]),(9,[2,3]),(10,[2,3]),(11,[3]),(12,[]),(13,[])] ?_;refine iF ?_;refine bG ?_;refine bG ?_;refine iF ?_
 (refine aN ?_)
 ((refine Kg ?_));refine eS ?_;refine iI (h:=λ _=>?_);refine iI (h:=λ _=>?_);refine lW (h:=λ _=>?_);refine Bg ?_
 refine bC Tryz.results39 (λ w hw=>?_)
 exact⟨(⟨x16.1,x16.2.1,x16.2.2.1,x16.2.2.2,x43.1,x43.2,j.2,0,0⟩,x36),rfl,⟨⟨hm,hW,hx,h43.1,h43.2⟩,h36⟩,hw.ret (by repeat (first|exact List.nil_sublist _|apply List.Sublist.cons_cons|apply List.Sublist.cons)) (aX.hJ λ f hf=>hf) (by repeat (first|exact List.nil_sublist _|apply List.Sublist.cons_cons|apply List.Sublist.cons))⟩
end

/- RootSwaps: the walk. -/
section
open Go Go.RowKit Go.Ct
end

/- RootTogether: a memory with a trie keeps the labels behind a swap's beginning. -/
end Go.Proofs.YtbajmaoegmbfgaaGreat
namespace Go.Ct
section
open Go Go.RowKit
end
end Go.Ct
namespace Go.Proofs.YtbajmaoegmbfgaaGreat
section
open Go Go.RowKit Go.Ct
section
variable{m:Nat}{t:gO}{z:XS}
end
end

/- RootTogether: the walk. -/
end Go.Proofs.YtbajmaoegmbfgaaGreat
namespace Go.Ct
section
open Go Go.RowKit
end
end Go.Ct
namespace Go.Proofs.YtbajmaoegmbfgaaGreat
section
open Go Go.RowKit Go.Ct
structure RP where
 tb:Nat
 c:Cd
 F:Fr
 a:AS
 bx:Nat
 x:XS
 N:List aP
 dn:Bool
 rs:Rs
abbrev RP.of(x:Nat×Cd×Fr×AS)(q:Nat×XS×List aP×Bool×Rs):RP:=⟨x.1,x.2.1,x.2.2.1,x.2.2.2,q.1,q.2.1,q.2.2.1,q.2.2.2.1,q.2.2.2.2⟩
structure Sh(ba:Nat)(a:AS)(z:XS)(k:Cl)(q:RP):Prop where
 tk:oJ ba (Ct.iR (T0 k 0) a.mm) a [] (q.c,q.F,q.a)
 rp:sZ (T0 k 0) (T0 k 0) 0 0 Rs.zero (XS.new z.L z.cs z.gen z.acc z.pn z.cn z.pc z.cc) q.x q.N q.dn q.rs
abbrev pxR(q:RP)(k:Cl)(R:Tr):PX:=⟨⟨q.bx,k,q.x,q.dn,q.rs,R⟩,0,q.tb,q.c,0⟩
theorem Sh.ga{ba:Nat}{a:AS}{z:XS}{k:Cl}{q:RP}(h:Sh ba a z k q):∀f∈aM q.a.L,f.2=[]∨f∈q.F++aM a.L:=λ f hf=>(h.tk.2.2.fam f hf).imp_right λ h=>List.mem_append.2 h.symm
theorem Sh.gz{ba:Nat}{a:AS}{z:XS}{k:Cl}{q:RP}(h:Sh ba a z k q):∀f∈aM q.x.L,f∈aM q.N∨f∈aM z.L:=λ f hf=>by
 rw[show q.x.L=z.L++q.N from h.rp.ext,dH] at hf
 exact(List.mem_append.1 hf).symm
theorem Sh.has{ba:Nat}{a:AS}{z:XS}{k:Cl}{q:RP}(h:Sh ba a z k q){f:Option Addr×List Value}(hf:f∈aM q.a.L++aM q.x.L):f.2=[]∨f∈aM q.N++(q.F++(aM a.L++aM z.L)):=by
 simp only[List.mem_append]
 rcases List.mem_append.1 hf with hf|hf
 ·exact(h.ga f hf).imp_right λ h=>(List.mem_append.1 h).elim (λ h=>.inr (.inl h)) λ h=>.inr (.inr (.inl h))
 ·exact .inr ((h.gz f hf).imp_right λ h=>.inr (.inr h))
end

/- GcasReads: the walk. -/
section
open Go Go.RowKit Go.Ct
theorem yw.ile{q:TQ×rX}(h:yw q):q.2.p.i<=q.1.a.mm.nodes.length:=by
 have h1:=h.pl.in.2
 rw[h.mm]
 show _<=(((q.1.W.z.L.map aP.c).length:Nat):Int)
 rw[List.length_map]
 exact h1
set_option maxRecDepth 100000 in
set_option maxHeartbeats 2000000 in
theorem On{l l2:List Int}{a a2:Option Addr}{c c2:Nat}{w:World}(h1:Go.Ct.Cl w a (aG l))(hl:l.length<=17592186043904)(h2:Go.Ct.Cl w a2 (aG l2))(hl2:l2.length<=17592186043904) :
  Calls Tryz.prog 8 #[.slice a l.length c,.slice a2 l2.length c2] w λ e w'=>e=.returned (.bool true)/\St w [] [] w':=by
 refine enter Tryz.func8 Tryz.ntmps8 rfl rfl (SF.s2 h1 h2) ?_
 simp only[bX]
 refine cO ?_;refine iY ?_;refine aD (Oh (V:=λ q:TQ×rX=>.tuple #[.pointer (some ⟨q.1.bw,0,none⟩),.pointer (some ⟨q.1.ba,0,none⟩),.agg ⟨q.2.cells⟩,.agg ⟨[.int .i64 q.1.t.root,.bool q.1.t.ro]⟩,.bool true]) (Hc:=λ q=>gqH q) (Fc:=λ q=>aM q.1.a.L++aM q.1.W.z.L) (Oc:=λ q=>tqO q.1) (hc:=λ w1 hw=>P8 (hw.cl (.bK .head)) hl (hw.cl (.bK (.tail .head))) hl2)) (λ x14 h14=>?_)
 have hW:=h14.W
 have hrt:=h14.root
 have hpi:=h14.pl.in
 have hle:=h14.ile
 obtain⟨s1,s2,s3⟩:=hW.sz
 refine Ii ?_;refine J54 ?_;refine wV ?_;refine aJ (λ x7=>?_);refine aJ (λ x8=>?_);refine eG (λ _=>?_);refine eG (λ _=>?_);refine iA (λ _=>?_);refine iA (λ _=>?_);refine iE ?_;refine J2 ?_;refine nR ?_
 refine bB (λ c21=>?_) (λ c21=>?_)
 ·exact nv c21
 ·try (first|contradiction|(exfalso;omega))
  refine jU ?_;refine gL [0,1,2,3,4,5,6,7,8,9] ?_;refine Zb ?_;refine bG ?_;refine kX ?_;refine fU ?_;refine aZ (i:=8) (hq:=(vd (V:=λ q:Nat×XS×List aP×Bool×Rs=>.pointer (some ⟨q.1,0,none⟩)) (hs:=[(x14.1.bm,xM x14.1.W.z.a0)]) (os:=zC x14.1.W.z) (hs':=λ q=>[(x14.1.bm,xM q.2.1)]) (Hc:=λ q=>[(q.1,xO (kS 1 x14.1.t x14.2.p.i 0 0) x14.1.bm q.2.1 q.2.2.2.1 q.2.2.2.2)]) (os':=λ q=>zC q.2.1) (Oc:=λ q=>exL q.2.1) (Fc:=λ q=>aM q.2.2.1) (A0:=aM x14.1.W.z.L) (hA:=bA.of λ f hf=>.inr (.inr (.inl (by simp[hf])))) (hc:=λ w1 hw=>Qt (k:=kS 1 x14.1.t x14.2.p.i 0 0) (m:=0) (L:=x14.1.W.z.L) (cs:=x14.1.W.z.cs) (gen:=x14.1.W.z.gen) (acc:=0) ⟨by omega,by omega,by omega⟩ (ua (by decide) (by decide)) (by decide) rfl hrt hpi.2 (bH _) (bH _) (λ f hf=>hf) (V3 (tq hW.z)) hw))) (h:=λ x30 h30=>?_);refine J7 ?_;refine aV ?_;refine dK [(0,[]),(1,[]),(2,[]),(3,[]),(4,[]),(5,[]),(6,[]),(7,[]),(8,[]),(9,[]),(10,[]),(11,[]),(13,[]),(12,[6]),(14,[]),(15,[6]),(16,[]),(17,[]),(18,[])] ?_;refine cH (i:=0) (hq:=(cV (hc:=λ w1 hw=>Xn w1))) (h:=λ x31=>?_);refine aN ?_
  (refine aN ?_)
  ((refine aN ?_));refine J60 ?_;((refine bZ (i:=8) (hq:=(ug rf (λ w=>Jw _ w))) (h:=?_)));((refine bG ?_));refine aa ?_;((refine aN ?_));((refine aZ (i:=12) (hq:=(vd (V:=λ x:Nat×Cd×Fr×AS=>.pointer (some ⟨x.1,0,none⟩)) (hs:=[(x14.1.ba,fS x14.1.a)]) (os:=gI x14.1.a) (hs':=λ x=>[(x14.1.ba,fS x.2.2.2)]) (Hc:=λ x=>[(x.1,tO x14.1.ba x.2.1 0)]) (os':=λ x=>gI x.2.2.2) (Oc:=λ _=>[]) (Fc:=λ x=>x.2.2.1) (A0:=aM x14.1.a.L) (hA:=bA.of λ f hf=>.inr (.inr (.inl (by simp[hf])))) (hc:=λ w1 hw=>Us (Zr (B:=[]) (n:=0) (m:=64) hrt hle (mI (kS 1 x14.1.t x14.2.p.i 0 0) 0 (by decide)) h14.a h14.sm (λ f hf=>hf) (λ x hx=>nomatch hx) hw)))) (h:=λ x43 h43=>?_)))
  obtain⟨R,hL,_,_⟩:=Iy.add (bx:=x30.1) (tb:=x43.1) h14.lok h30 h43.1 (ua (by decide) (by decide)) (by decide) rfl hrt hpi.2 (bH _) (bH _)
  have hrp:Sh x14.1.ba x14.1.a x14.1.W.z.a0 (kS 1 x14.1.t x14.2.p.i 0 0) (RP.of x43 x30):=⟨h43.1,h30⟩
  have hf1:=λ f hf=>hrp.has (f:=f) hf
  ((refine fU ?_));((refine cH (i:=15) (hq:=((by exact Ix (λ _=>cJ (cs:=D8 [(x43.1,x30.1)]) S4 I1 rfl rfl rfl rfl rfl)))) (h:=λ x46=>?_)));((((refine cH (i:=16) (hq:=(bE.pre (λ w h=>wa (ba:=x14.1.ba) (bm:=x14.1.bm) (a:=x43.2.2.2) (p:=pxR (RP.of x43 x30) (kS 1 x14.1.t x14.2.p.i 0 0) R) (B:=x43.2.2.1++[]) h (by repeat (first|exact List.Sublist.refl _|apply List.Sublist.cons_cons|apply List.Sublist.cons)) (by repeat (exact List.Sublist.refl _))) (cT 0 0 (V:=λ _:LY=>.bool true) (hs:=rB x14.1.ba x14.1.bm ⟨x43.2.2.2,x30.2.1,[pxR (RP.of x43 x30) (kS 1 x14.1.t x14.2.p.i 0 0) R],x43.2.2.1++[]⟩) (os:=sM ⟨x43.2.2.2,x30.2.1,[pxR (RP.of x43 x30) (kS 1 x14.1.t x14.2.p.i 0 0) R],x43.2.2.1++[]⟩) (A0:=(some ⟨x46,0,none⟩,D8 [(x43.1,x30.1)])::(none,aG [])::(aM x30.2.2.1++(x43.2.2.1++(aM x14.1.a.L++aM x14.1.W.z.L)))) (hs':=λ y=>rB x14.1.ba x14.1.bm y.S) (os':=λ y=>sM y.S) (Fc:=λ y=>y.G) (F1:=λ y=>y.G) (hA:=bA.of λ f hf=>by simp only[List.mem_cons,List.mem_append] at hf;rcases hf with h|h|h|h|h|h;exact .inr (.inr (.inl (by simp[h])));exact .inl (by rw[h];rfl);exact .inr (.inr (.inl (by simp[h])));exact .inr (.inr (.inl (by simp[h])));exact .inr (.inr (.inl (by simp[h])));exact .inr (.inr (.inl (by simp[h])))) (hF1:=λ y _ f hf=>.inr (List.mem_append_left _ hf)) (hc:=λ w1 hw=>v5 (l:=[]) (a:=none) (c:=0) (ps:=[(x43.1,x30.1)]) rfl hL (by decide) (by decide) (by show 0<1;decide) (by show 1<=1000;decide) (by show 1<=1;decide) (by show 0<=_;decide) (λ f hf=>(hf1 f (List.mem_append_left _ hf)).imp_right λ h=>List.mem_cons_of_mem _ (List.mem_cons_of_mem _ h)) (λ f hf=>(hf1 f (List.mem_append_right _ hf)).imp_right λ h=>List.mem_cons_of_mem _ (List.mem_cons_of_mem _ h)) (λ f hf=>List.mem_cons_of_mem _ (List.mem_cons_of_mem _ (List.mem_append_right _ (List.mem_append_left _ (by simpa using hf))))) (List.mem_cons_self ..) (List.mem_cons_of_mem _ (List.mem_cons_self ..)) hw)))) (h:=λ x47=>?_);try (refine dZ (λ h47=>?_))))));refine eS ?_;refine J7 ?_
  refine aS Tryz.results8 (λ w hw=>?_)
  exact⟨rfl,hw.done⟩
end

end Go.Proofs.YtbajmaoegmbfgaaGreat
