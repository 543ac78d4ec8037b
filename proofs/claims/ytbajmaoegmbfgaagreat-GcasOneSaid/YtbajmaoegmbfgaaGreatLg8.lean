/- Merged. -/
import Derived.Test.YtbajmaoegmbfgaaGreatGRt2
set_option linter.unusedSimpArgs false
set_option linter.unusedVariables false
namespace Go.Proofs.YtbajmaoegmbfgaaGreat
open Go Go.RowKit Go.Ct
structure OY where
 i:Nat
 pos:Nat
 t0:Tr
 t1:Tr
 b0:Nat
 b1:Nat
 c0:Cd
 c1:Cd
 m0:Nat
 m1:Nat
 a:AS
 G:Fr
structure og(ba:Nat)(T0 T1:Tr×Mm)(G0:Fr)(B:Nat)(y:OY):Prop where
 hi:y.i<=30
 two:Zt T0 T1 y.t0 y.t1 y.a.mm
 k0:TK ba y.t0 y.c0 y.a y.G y.b0
 k1:TK ba y.t1 y.c1 y.a y.G y.b1
 l0:100<=y.b0+y.i
 l1:100<=y.b1+y.i
 ak:AK y.a y.G (B+64*y.i)
 m0:y.m0<=y.i
 m1:y.m1<=y.i
 sub:∀f∈G0,f∈y.G
section
variable{ba B:Nat}{t:dU}{i m n0 n1:Int}{s:Mm}{G0:Fr}{y:OY}{r:TY}
theorem og.aBB(h:Uy t i m n0 n1 s)(hy:og ba (pQ t i m n0 s) (pQ t i m n1 s) G0 B y)(hi:y.i<30)(hr:TYS ba (rB (y.t0,y.a.mm)) y.a y.G (y.b0-1) (B+64*y.i+64) (y.m0+1) r)(p:Nat) :
  og ba (pQ t i m n0 s) (pQ t i m n1 s) G0 B ⟨y.i+1,p,(rB (y.t0,y.a.mm)).1,y.t1,y.b0-1,y.b1,r.c,y.c1,r.n,y.m1,r.a,r.F++y.G⟩ :=
 ⟨hi,by have:=h.x hy.two;show Zt _ _ _ _ r.a.mm;rw[hr.mm];exact this,hr.tk,hy.k1.to hr.le λ x hx=>List.mem_append_right _ hx,by have:=hy.l0;show 100<=y.b0-1+(y.i+1);omega,by have:=hy.l1;show 100<=y.b1+(y.i+1);omega,hr.ak.mono (by show B+64*y.i+64<=B+64*(y.i+1);omega),by have:=hy.m0;have:=hr.n;show r.n<=y.i+1;omega,by have:=hy.m1;show y.m1<=y.i+1;omega,λ f hf=>List.mem_append_right _ (hy.sub f hf)⟩
theorem og.aCw(h:Uy t i m n0 n1 s)(hy:og ba (pQ t i m n0 s) (pQ t i m n1 s) G0 B y)(hi:y.i<30)(hr:TYS ba (rB (y.t1,y.a.mm)) y.a y.G (y.b1-1) (B+64*y.i+64) (y.m1+1) r)(p:Nat) :
  og ba (pQ t i m n0 s) (pQ t i m n1 s) G0 B ⟨y.i+1,p,y.t0,(rB (y.t1,y.a.mm)).1,y.b0,y.b1-1,y.c0,r.c,y.m0,r.n,r.a,r.F++y.G⟩ :=
 ⟨hi,by have:=h.y hy.two;show Zt _ _ _ _ r.a.mm;rw[hr.mm];exact this,hy.k0.to hr.le λ x hx=>List.mem_append_right _ hx,hr.tk,by have:=hy.l0;show 100<=y.b0+(y.i+1);omega,by have:=hy.l1;show 100<=y.b1-1+(y.i+1);omega,hr.ak.mono (by show B+64*y.i+64<=B+64*(y.i+1);omega),by have:=hy.m0;show y.m0<=y.i+1;omega,by have:=hy.m1;have:=hr.n;show r.n<=y.i+1;omega,λ f hf=>List.mem_append_right _ (hy.sub f hf)⟩
structure zu(ba B:Nat)(i n0 n1:Int)(N:List Nv)(r0 r1:TY)(G:Fr)(b:Bool):Prop where
 k0:TK ba (.done (fC 0 b)) r0.c r1.a G 0
 k1:TK ba (.done (fC 0 (!b))) r1.c r1.a G 0
 ak:AK r1.a G B
 nodes:r1.a.mm.nodes=N
 qu:QuP r1.a.mm.nodes r1.a.mm.cs i
 main:aS r1.a.mm.cs (bA r1.a.mm.nodes i).main=if b=true then n0 else n1
theorem og.fin{N:Nat}(hN:6<=N)(h:Uy t i m n0 n1 s)(hy:og ba (pQ t i m n0 s) (pQ t i m n1 s) G0 B y){r0 r1:TY}{k k' B0 B1 q q':Nat}
  (h0:TYS ba (gI (y.t0,y.a.mm) N) y.a y.G k B0 q r0) (h1:TYS ba (gI (y.t1,r0.a.mm) N) r0.a (r0.F++y.G) k' B1 q' r1):∃b,zu ba B1 i n0 n1 s.nodes r0 r1 (r1.F++(r0.F++y.G)) b:=by
 have he:=h.end hN hy.two
 rw[<- h0.mm] at he
 obtain⟨⟨b,e1,e2,e3,e4⟩,e5⟩:=he
 rw[<- h1.mm] at e3 e4 e5
 have en:r1.a.mm.nodes=s.nodes:=e5
 refine⟨b,(h0.tk.to h1.le λ x hx=>List.mem_append_right _ hx).zero e1,h1.tk.zero e2,h1.ak,en,?_,by rw[en];exact e3⟩
 unfold QuP
 rw[en,e3]
 exact e4
theorem zu.read{N:Nat}(hN:10<N){r0 r1:TY}{b:Bool}{L:List Nv}(h:zu ba B i n0 n1 L r0 r1 G0 b){z z2:TY}{k k' B0 B1 q':Nat}(hz:qc ba (X4 t i) r1.a G0 k B0 z)(hr:TYS ba (gI ((Ct.gF (X4 t i) r1.a.mm).1,z.a.mm) N) z.a (z.F++G0) k' B1 q' z2) :
  TK ba (.done (fC (if b=true then n0 else n1) false)) z2.c z2.a (z2.F++(z.F++G0)) 0/\r1.a.mm.Le z2.a.mm:=by
 obtain⟨e1,_⟩:=Y6 (t:=t) hN h.qu
 refine⟨hr.tk.zero ?_,hz.le.trans hr.le⟩
 rw[hz.mm,show((Ct.gF (X4 t i) r1.a.mm).1,(Ct.gF (X4 t i) r1.a.mm).2)=Ct.gF (X4 t i) r1.a.mm from rfl,e1,h.main]
end
set_option maxRecDepth 100000 in
set_option maxHeartbeats 4000000 in
theorem Xz{l l2 l3:List Int}{a a2 a3:Option Addr}{c c2 c3:Nat}{w:World}(h1:Go.Ct.Cl w a (aH l))(hl:l.length<=17592186043904)(h2:Go.Ct.Cl w a2 (aH l2))(hl2:l2.length<=17592186043904)(h3:Go.Ct.Cl w a3 (aH l3))(hl3:l3.length<=17592186043904) :
    Calls Tryz.prog 4 #[.slice a l.length c,.slice a2 l2.length c2,.slice a3 l3.length c3] w λ e w'=>e=.returned (.bool true)/\St w [] [] w':=by
  refine enter Tryz.func4 Tryz.ntmps4 rfl rfl (SF.s3 h1 h2 h3) ?_
  simp only[cG]
  refine Kc7 ?_;refine aE (U0 (Hc:=λ q:Nat×Nat×Nat×Wd=>wH q.2.2.1 q.1 q.2.1 q.2.2.2) (H1:=λ q=>(q.1,lB q.2.1 (q.2.2.1:Int) q.2.2.2.pt q.2.2.2.ts.length q.2.2.2.kt q.2.2.2.pe (nL q.2.2.2.ex).length q.2.2.2.ke)::(q.2.1,xM q.2.2.2.z)::G4 q.2.1 q.2.2.2.ex) (Fc:=λ q=>aN q.2.2.2.z.L) (F1:=λ q=>aN q.2.2.2.z.L) (Oc:=λ q=>wO q.2.2.2) (O1:=λ q=>⟨q.2.2.2.pt,rT q.2.2.2.ts,q.2.2.2.kt,29,2⟩::⟨q.2.2.2.pe,wX (nL q.2.2.2.ex),q.2.2.2.ke,74,1⟩::⟨q.2.2.2.z.pn,iI q.2.2.2.z.L,q.2.2.2.z.cn,47,14⟩::⟨q.2.2.2.z.pc,aH q.2.2.2.z.cs,q.2.2.2.z.cc,37,1⟩::Dd q.2.2.2.ex) (hH1:=λ q=>List.append_nil _) (hF1:=λ q=>List.append_nil _) (hO1:=λ q=>List.append_nil _) (hc:=λ w1 hw=>iu (hw.cl fin) hl)) (λ x22 h22=>?_)
  have hm:=h22.1
  have hW:=h22.2
  have htl:=hW.tl
  have ht0:=hW.t0
  refine Ka4 ?_;refine aE (cT 0 0 (V:=λ _:XS×List aQ=>.tuple #[]) (hs:=wH x22.2.2.1 x22.1 x22.2.1 x22.2.2.2) (os:=wO x22.2.2.2) (A0:=aN x22.2.2.2.z.L) (H1:=λ r:XS×List aQ=>[(x22.1,lB x22.2.1 (x22.2.2.1:Int) x22.2.2.2.pt x22.2.2.2.ts.length x22.2.2.2.kt none 0 0),(x22.2.1,xM r.1)]) (O1:=λ r=>[⟨x22.2.2.2.pt,rT x22.2.2.2.ts,x22.2.2.2.kt,29,2⟩,⟨none,wX [],0,74,1⟩,⟨r.1.pn,iI r.1.L,r.1.cn,47,14⟩,⟨r.1.pc,aH r.1.cs,r.1.cc,37,1⟩]) (F1:=λ r=>aN r.1.L) (hc:=λ w hs=>l8 (by decide) (by decide) (by decide) hm hW (λ f hf=>hf) hs) (hA:=bH.of λ f hf=>.inr (.inr (.inl hf))) (hF1:=λ r hr f hf=>by rw[hr.2,dE] at hf;exact .inr ((List.mem_append.1 hf).elim (λ h=>List.mem_append_right _ h) (λ h=>List.mem_append_left _ h)))) (λ x24 h24=>?_)
  have hZ:C1 x22.2.2.1 2434356874 1192612 0 (zW x22.2.2.2 x24.1):=h24.1
  have s1:x24.1.L.length<=2434356874:=hZ.sz.1
  have s2:x24.1.cs.length<=2434356874:=hZ.sz.2.1
  obtain⟨σ,hq⟩:=WR.rest (show WR (H8 x22.2.2.1) x22.2.2.1 x24.1.mm x22.2.2.2.ts [] from hZ.wr)
  refine aI ?_;refine J2 ?_;refine aE (U0 (Fc:=λ _=>[]) (Oc:=λ _=>[]) (hc:=λ w1 hw=>ny)) (λ x26 h26=>?_);refine iT ?_
  refine eP [9,27,28,29,30,31,32,33,34,35,36,37,38,39] (λ j:Nat×Nat=>[(9,.pointer (some ⟨j.1,0,none⟩))]) (λ j=>j.2<x22.2.2.2.ts.length) (λ j=>[(j.1,.cells ⟨[.int .i64 (x22.2.2.2.ts.getD j.2 ⟨0,false⟩).root,.bool (x22.2.2.2.ts.getD j.2 ⟨0,false⟩).ro]⟩ 29 (0,0)),(x26,E3 a2 l2 c2 (lA l2 0)),(x22.1,lB x22.2.1 (x22.2.2.1:Int) x22.2.2.2.pt x22.2.2.2.ts.length x22.2.2.2.kt none 0 0),(x22.2.1,xM x24.1)]) (λ _=>aN x24.1.L) (λ _=>[⟨x22.2.2.2.pt,rT x22.2.2.2.ts,x22.2.2.2.kt,29,2⟩,⟨none,wX [],0,74,1⟩,⟨x24.1.pn,iI x24.1.L,x24.1.cn,47,14⟩,⟨x24.1.pc,aH x24.1.cs,x24.1.cc,37,1⟩]) (by decide) (λ _=>by exact rfl) ?_ (λ j f hx=>?_)
  · refine gK (.one 0 [] (.one 1 [] (.one 2 [] (.one 3 [] (.one 4 [] (.one 5 [] (.one 6 [] (.one 7 [] (.one 8 [] (.one 9 [] (.two 10 [3] (.one 11 [] (.one 12 [] (.one 13 [3,8,11,12] (.one 14 [] .nil)))) 0 [] (.two 13 [3,8] (.one 10 [3] (.one 11 [] (.one 12 [] (.one 14 [] .nil)))) 0 [] .nil)))))))))))) ?_
    refine Zx ?_;refine Zg ?_;refine oE ?_
    refine gV (E:=[10,13]) (by decide +kernel) ((.cons ?_ (.cons ?_ .nil)))
    · refine mT (i:=10) (hq:=(vK (hc:=λ w1 hw=>eM x22.2.2.2.ts.length (hw.tape cS fin hl2) (by omega) (by omega)))) (h:=λ x37 h37=>?_)
      refine bU (i:=11) (hq:=(N7 (cs:=rT x22.2.2.2.ts) (k:=x37) rf rf fZ eT (.own .head) (by omega) (by rw[lQ];omega))) (h:=?_);refine bU (i:=12) (hq:=(G3 (ts:=x22.2.2.2.ts) (q:=x37) rf eT (.own .head) (by omega))) (h:=?_);refine gW (hfire:=(λ _=>by((repeat (first|exact aK.nil|refine aK.cons (by first|exact eN|exact fL (hq:=N7 (cs:=rT x22.2.2.2.ts) (k:=x37) rf rf fZ eT (.own .head) (by omega) (by rw[lQ];omega))|exact fL (hq:=G3 (ts:=x22.2.2.2.ts) (q:=x37) rf eT (.own .head) (by omega))) ?_));done))) (h:=λ x9=>?_);refine A7 ?_
      refine fH ((x9,x37)) ?_ (hw1:=λ w hw=>hw)
      · omega
    · refine gY (i:=13) (h:=λ x9=>?_)
      refine bE (i:=10) (hq:=(vK (hc:=λ w1 hw=>eM x22.2.2.2.ts.length (hw.tape cS fin hl2) (by omega) (by omega)))) (h:=λ x37 h37=>?_);refine bU (i:=11) (hq:=(N7 (cs:=rT x22.2.2.2.ts) (k:=x37) rf rf fZ eT (.own .head) (by omega) (by rw[lQ];omega))) (h:=?_);refine bU (i:=12) (hq:=(G3 (ts:=x22.2.2.2.ts) (q:=x37) rf eT (.own .head) (by omega))) (h:=?_);refine A7 ?_
      refine fH ((x9,x37)) ?_ (hw1:=λ w hw=>hw)
      · omega
  dsimp only[iC,List.map,List.cons_append,List.nil_append]
  have htm:=Gu hx
  have hrt:=hZ.root (by decide) htm
  refine Kb3 ?_;refine aB ?_;refine aE (cM (V:=λ v:vE=>.tuple #[.agg ⟨v.cells⟩,.bool true]) (hs:=[(x26,E3 a2 l2 c2 (lA l2 0)),(x22.1,lB x22.2.1 (x22.2.2.1:Int) x22.2.2.2.pt x22.2.2.2.ts.length x22.2.2.2.kt none 0 0),(x22.2.1,xM x24.1)]) (os:=yL x24.1) (hs':=λ _=>[(x26,E3 a2 l2 c2 (lA l2 (lA l2 0))),(x22.1,lB x22.2.1 (x22.2.2.1:Int) x22.2.2.2.pt x22.2.2.2.ts.length x22.2.2.2.kt none 0 0),(x22.2.1,xM x24.1)]) (os':=λ _=>yL x24.1) (Fc:=λ _=>[]) (A0:=(a2,aH l2)::aN x24.1.L) (hA:=bH.cons (.inr (.inl (.tail _ (.head _)))) (bH.of λ f hf=>.inr (.inr (.inl hf)))) (hc:=λ w1 hw=>oc hZ (by decide) htm hrt hl2 (λ f hf=>List.mem_cons_of_mem _ hf) (List.mem_cons_self ..) hw)) (λ x44 h44=>?_)
  have hpl:=h44.1
  have hpi:=hpl.in
  have hpm:=hpl.inm
  have hmk:=hpl.mk
  have hbm:=hq.body (M:=x24.1.mm) hpl.2
  obtain⟨r,_,hro0,_,hr1,hr2,_⟩:=Up hZ htm
  obtain⟨kr,rfl⟩:∃k:Nat,r=((k+1:Nat):Int):=⟨(r-1).toNat,by omega⟩
  have hrv:=hq.kE (M:=x24.1.mm) htm hro0
  replace hr2:((kr+1:Nat):Int)<=x24.1.L.length:=hr2
  obtain⟨u,hu⟩:∃u,u=aC x24.1.L x44.p.m:=⟨_,rfl⟩
  replace hpm:1<=x44.p.m/\x44.p.m<=x24.1.L.length:=hpm
  replace hpi:1<=x44.p.i/\x44.p.i<=x24.1.L.length:=hpi
  have hum:u∈x24.1.L:=by rw[hu];unfold aC;rw[if_pos hpm];exact fR (by omega)
  have huc:u.c=bA x24.1.mm.nodes x44.p.m:=by rw[hu];exact qX _ _
  have hfit:=hZ.z.fit u hum
  have hub:mC x24.1.L.length x24.1.cs.length {u.c with main:=0,prev:=0,status:=0}:=Zi (hZ.z.nd u hum)
  have huy:u.ys.length<=8:=Kl hZ u hum
  have hux:u.xs.length<=64:=by rw[hu];exact F4 (mU hZ) (Mb hZ.z) x44.p.m
  have hbr:(u.nd.brA,aH u.xs)∈aN x24.1.L:=oV.2 ⟨u,hum,by simp[aQ.fr]⟩
  have hpr:(u.nd.prA,cX u.ys)∈aN x24.1.L:=oV.2 ⟨u,hum,by simp[aQ.fr]⟩
  refine Nu ?_;refine aL (λ x10=>?_);refine Cg ?_;refine mK ?_;refine aE (th (V:=λ q:Nat×AS=>.pointer (some ⟨q.1,0,none⟩)) (hs:=[(x22.2.1,xM x24.1)]) (os:=yL x24.1) (hs':=λ _=>[(x22.2.1,xM x24.1.a0)]) (Hc:=λ q=>[(q.1,eV q.2)]) (os':=λ _=>yL x24.1) (Oc:=λ q=>fJ q.2) (Fc:=λ q=>aN q.2.L) (A0:=aN x24.1.L) (hA:=bH.of λ f hf=>.inr (.inr (.inl hf))) (hc:=λ w1 hw=>Zc hZ.z (mU hZ) (by omega) (by omega) (λ f hf=>hf) hw)) (λ x51 h51=>?_)
  obtain⟨hmm0,hok0⟩:=h51
  have hl0:x51.2.mm.nodes.length=x24.1.L.length:=by rw[hmm0];show(x24.1.L.map aQ.c).length=_;rw[List.length_map]
  have hc0:x51.2.mm.cs.length=x24.1.cs.length:=by rw[hmm0];rfl
  have hak0:AK x51.2 (aN x51.2.L++aN x24.1.L) 2434356874:=⟨hok0,by omega,by omega,λ f hf=>.inr (List.mem_append_left _ hf)⟩
  refine iT ?_;refine aV ?_;refine eH [(0,[]),(1,[]),(2,[]),(3,[]),(4,[]),(5,[]),(6,[]),(7,[]),(8,[]),(9,[]),(10,[]),(11,[]),(12,[]),(13,[]),(14,[]),(15,[]),(16,[]),(19,[]),(20,[]),(21,[]),(22,[]),(23,[]),(24,[]),(25,[]),(26,[]),(17,[22,25,26]),(18,[]),(27,[]),(28,[]),(29,[])] ?_;refine aR ?_;refine W1 ?_;refine aR ?_
  (refine aR ?_)
  refine J56 ?_;refine aR ?_
  (refine aW ?_)
  ((refine bS ?_));refine kY ?_;refine aR ?_
  (refine qa 62 (λ g62=>?_) (λ g62=>?_)<;>(first|refine fQ ?_|(refine aR ?_)))
  all_goals (refine xl ?_;refine J18 ?_;(first|refine fQ ?_|(refine aR ?_));refine xl ?_;(first|refine fQ ?_|(refine sX ?_));(first|refine fQ ?_|(refine aW ?_));(first|refine fQ ?_|(refine bU (i:=25) (hq:=(aU (k:=3) rf cS eT (by simp only[List.drop_zero,List.take_succ_cons,List.take_zero];exact rfl) rfl)) (h:=?_)));(first|refine fQ ?_|(refine bS ?_));(first|refine fQ ?_|(refine bE (i:=17) (hq:=(cM (V:=λ _:Unit=>(aC x24.1.L x44.p.i).nd.v) (hs:=[(x22.2.1,xM x24.1.a0)]) (os:=yL x24.1) (hs':=λ _=>[(x22.2.1,xM x24.1.a0)]) (os':=λ _=>yL x24.1) (Fc:=λ _=>[]) (A0:=[]) (hc:=λ w1 hw=>Ew hw x44.p.i (by omega) (by show x24.1.L.length<=_;omega)))) (hfire:=(λ _=>by(refine fA ?_;(repeat (first|exact aK.nil|refine aK.cons (by first|exact eN|exact fL (hq:=aU (k:=3) rf cS eT (by simp only[List.drop_zero,List.take_succ_cons,List.take_zero];exact rfl) rfl)) ?_));done))) (h:=λ x69 h69=>?_)));(first|refine fQ ?_|(refine oA ?_));(first|refine fQ ?_|(refine dC (i:=27) (hq:=(cV (hc:=λ w1 hw=>mg (k:=kr) (mU hZ) (hw.Jj (.inr (.inr (.inr ⟨_,.tail _ (.tail _ (.tail _ (.tail _ (.head _)))),rfl,rfl⟩))) (.inr (.inr (.inr ⟨_,.tail _ (.tail _ (.tail _ (.tail _ (.tail _ (.head _))))),rfl,rfl⟩))) (λ f hf=>.inr (.inr (.inl (by simp[hf])))) hZ.z.fit) (Mb hZ.z) (by show x24.1.L.length<=_;omega) (by show x24.1.cs.length<=_;omega) _ _ hro0 (by show kr<x24.1.L.length;omega) hrt))) (h:=λ x79=>?_)));(first|refine fQ ?_|(refine Xi ?_));refine kY ?_;refine eL ?_)
  all_goals
   refine bC (λ c81=>?_) (λ c81=>?_)
   · all_goals try (first|contradiction|(exfalso;omega))
     all_goals refine jF ?_
     all_goals ((refine Ka3 ?_))
     all_goals (refine Ry ?_;refine aB ?_)
     all_goals ((refine aF ?_;refine aP (cV (hc:=λ w1 hw=>B5 w1)) (λ x88=>?_)))
     all_goals (refine Kb7 ?_)
     all_goals
      refine aT Tryz.results4 (λ w hw=>?_)
      first
      | exact⟨rfl,hw.done⟩
      | exact⟨Mq _,hw.done⟩
   · try exact nv c81
     all_goals refine kZ ?_
     all_goals
      refine eP [13,90,91,92,93,94,95,96] (λ b:Nat=>[(13,.pointer (some ⟨b,0,none⟩))]) (λ _=>True) (λ b=>[(b,.cells ⟨u.nd.cells⟩ 47 (0,0)),(x51.1,eV x51.2),(x10,aAQ x44),(j.1,.cells ⟨[.int .i64 (x22.2.2.2.ts.getD j.2 ⟨0,false⟩).root,.bool (x22.2.2.2.ts.getD j.2 ⟨0,false⟩).ro]⟩ 29 (0,0)),(x26,E3 a2 l2 c2 (lA l2 (lA l2 0))),(x22.1,lB x22.2.1 (x22.2.2.1:Int) x22.2.2.2.pt x22.2.2.2.ts.length x22.2.2.2.kt none 0 0),(x22.2.1,xM x24.1.a0)]) (λ _=>aN x51.2.L++aN x24.1.L) (λ _=>⟨x51.2.pn,iI x51.2.L,x51.2.cn,47,14⟩::⟨x51.2.pc,aH x51.2.cs,x51.2.cc,37,1⟩::[⟨x22.2.2.2.pt,rT x22.2.2.2.ts,x22.2.2.2.kt,29,2⟩,⟨none,wX [],0,74,1⟩,⟨x24.1.pn,iI x24.1.L,x24.1.cn,47,14⟩,⟨x24.1.pc,aH x24.1.cs,x24.1.cc,37,1⟩]) (by decide) (λ _=>by exact rfl) ?_ (λ b f hx=>?_)
      · refine gK (.one 0 [] (.one 1 [] (.one 2 [] (.one 3 [] (.one 4 [] (.one 5 [] (.two 6 [] (.one 7 [3,5] (.one 8 [] .nil)) 0 [] (.two 7 [3,5] (.one 6 [] (.one 8 [] .nil)) 0 [] .nil)))))))) ?_
        refine Zx ?_;refine lK ?_
        refine gV (E:=[6,7]) (by decide +kernel) ((.cons ?_ (.cons ?_ .nil)))
        · refine mT (i:=6) (hq:=(cM (V:=λ _:Unit=>u.nd.v) (hs:=[(x22.2.1,xM x24.1.a0)]) (os:=yL x24.1) (hs':=λ _=>[(x22.2.1,xM x24.1.a0)]) (os':=λ _=>yL x24.1) (Fc:=λ _=>[]) (A0:=[]) (hc:=λ w1 hw=>by rw[hu];exact Ew hw x44.p.m (by omega) (by show x24.1.L.length<=_;omega)))) (h:=λ x96 h96=>?_)
          refine gW (h:=λ x13=>?_);refine A7 ?_
          refine fH (x13) ?_ (hw1:=λ w hw=>hw)
          · trivial
        · refine gY (i:=7) (h:=λ x13=>?_)
          refine bE (i:=6) (hq:=(cM (V:=λ _:Unit=>u.nd.v) (hs:=[(x22.2.1,xM x24.1.a0)]) (os:=yL x24.1) (hs':=λ _=>[(x22.2.1,xM x24.1.a0)]) (os':=λ _=>yL x24.1) (Fc:=λ _=>[]) (A0:=[]) (hc:=λ w1 hw=>by rw[hu];exact Ew hw x44.p.m (by omega) (by show x24.1.L.length<=_;omega)))) (h:=λ x96 h96=>?_);refine A7 ?_
          refine fH (x13) ?_ (hw1:=λ w hw=>hw)
          · trivial
      dsimp only[iC,List.map,List.cons_append,List.nil_append]
      have hro:(x22.2.2.2.ts.getD j.2 ⟨0,false⟩).ro=false:=by assumption
      have hge:(bA x24.1.mm.nodes x44.p.i).gen=(bA x24.1.mm.nodes ((kr+1:Nat):Int)).gen:=by
       rw[show bA x24.1.mm.nodes x44.p.i=(aC x24.1.L x44.p.i).c from(qX _ _).symm,show bA x24.1.mm.nodes ((kr+1:Nat):Int)=(aC x24.1.L ((kr+1:Nat):Int)).c from(qX _ _).symm]
       exact c81
     all_goals (refine aV ?_;refine eH [(0,[]),(1,[]),(2,[]),(3,[]),(5,[]),(6,[]),(7,[]),(8,[]),(4,[6,8]),(9,[]),(10,[]),(11,[])] ?_;refine Ka9 ?_;refine lK ?_;refine Ka9 ?_;refine lK ?_;refine bE (i:=4) (hq:=(cM (V:=λ _:AX=>.int .i64 ((x24.1.L.length+1:Nat):Int)) (hs:=[(x51.1,eV x51.2)]) (os:=fJ x51.2) (A0:=[(u.nd.brA,aH u.xs),(u.nd.prA,cX u.ys)]) (hA:=bH.of λ f hf=>.inr (.inr (.inl (List.mem_append_right _ (by simp only[List.mem_cons,List.not_mem_nil,or_false] at hf;rcases hf with rfl|rfl;exact hbr;exact hpr))))) (hs':=λ X=>[(x51.1,eV (x51.2.al u.nd u.xs u.ys x44.p.m X))]) (os':=λ X=>fJ (x51.2.al u.nd u.xs u.ys x44.p.m X)) (Fc:=λ X=>(mZ u.nd u.xs u.ys x51.2.cs.length X).fr) (hc:=λ w1 hw=>by rw[<- hl0];exact Bb (n:=u.nd) (xs:=u.xs) (ys:=u.ys) hok0 (hak0.small (by omega)) x44.p.m hfit.brN hfit.prN (by omega) (by omega) (λ f hf=>hf) hw))) (h:=λ x101 h101=>?_))
     all_goals
      have hak1:=hak0.al (n:=u.nd) (xs:=u.xs) (ys:=u.ys) (init:=x44.p.m) (by omega) (by omega) (by rw[hl0,hc0];exact hub) (by omega) x101
      have hmm1:(x51.2.al u.nd u.xs u.ys x44.p.m x101).mm=x24.1.mm.push u.c x44.p.m:=by rw[qY,hmm0];rfl
      have hl1:(x51.2.al u.nd u.xs u.ys x44.p.m x101).mm.nodes.length=x24.1.L.length+1:=by rw[hmm1];show(x24.1.mm.nodes++[_]).length=_;rw[List.length_append,<- hmm0,hl0];rfl
     all_goals (refine bE (i:=9) (hq:=(cM (V:=λ _:AX=>.int .i64 ((x24.1.L.length+1+1:Nat):Int)) (hs:=[(x51.1,eV (x51.2.al u.nd u.xs u.ys x44.p.m x101))]) (os:=fJ (x51.2.al u.nd u.xs u.ys x44.p.m x101)) (A0:=[(u.nd.brA,aH u.xs),(u.nd.prA,cX u.ys)]) (hA:=bH.of λ f hf=>.inr (.inr (.inl (List.mem_append_right _ (List.mem_append_right _ (by simp only[List.mem_cons,List.not_mem_nil,or_false] at hf;rcases hf with rfl|rfl;exact hbr;exact hpr)))))) (hs':=λ X=>[(x51.1,eV ((x51.2.al u.nd u.xs u.ys x44.p.m x101).al u.nd u.xs u.ys x44.p.m X))]) (os':=λ X=>fJ ((x51.2.al u.nd u.xs u.ys x44.p.m x101).al u.nd u.xs u.ys x44.p.m X)) (Fc:=λ X=>(mZ u.nd u.xs u.ys (x51.2.al u.nd u.xs u.ys x44.p.m x101).cs.length X).fr) (hc:=λ w1 hw=>by rw[<- hl1];exact Bb (n:=u.nd) (xs:=u.xs) (ys:=u.ys) hak1.ok (hak1.small (by omega)) x44.p.m hfit.brN hfit.prN (by omega) (by omega) (λ f hf=>hf) hw))) (h:=λ x106 h106=>?_);refine dC (i:=10) (hq:=((by exact I8 (λ _=>cN (cs:=aH [((x24.1.L.length+1:Nat):Int),((x24.1.L.length+1+1:Nat):Int)]) oI Jh rfl rfl rfl rfl rfl)))) (h:=λ x107=>?_);refine J7 ?_;refine aV ?_)
     all_goals
      have hak2:=hak1.al (n:=u.nd) (xs:=u.xs) (ys:=u.ys) (init:=x44.p.m) (by omega) (by omega) (by rw[hl1];exact⟨Int.le_trans hub.bK (by omega),Int.le_trans hub.exp (by omega),Int.le_trans hub.new (by omega),λ r hr=>Int.le_trans (hub.br r hr) (by omega),bL _,bL _,bL _,hub.bm,hub.hash⟩) (by omega) x106
      have hmm2:((x51.2.al u.nd u.xs u.ys x44.p.m x101).al u.nd u.xs u.ys x44.p.m x106).mm=(x24.1.mm.push u.c x44.p.m).push u.c x44.p.m:=by rw[qY,hmm1];rfl
      have hTw:=kw (u:=u.c) hq htm hbm.1 hbm.2 (by rw[huc];exact hmk) hro (by rw[hrv];exact hge.symm)
      have hln:x24.1.mm.nodes.length=x24.1.L.length:=by rw[<- hl0,hmm0]
      rw[<- hmm2,hln] at hTw
      have hlA:((x51.2.al u.nd u.xs u.ys x44.p.m x101).al u.nd u.xs u.ys x44.p.m x106).mm.nodes.length=x24.1.L.length+1+1:=by rw[hmm2];show((x24.1.mm.nodes++[_])++[_]).length=_;rw[List.length_append,List.length_append,hln];rfl
      obtain⟨aA,haA⟩:∃aA,aA=((x51.2.al u.nd u.xs u.ys x44.p.m x101).al u.nd u.xs u.ys x44.p.m x106):=⟨_,rfl⟩
      rw[<- haA] at hak2 hTw hlA
      obtain⟨G,hG⟩:∃G:Fr,G=List.cons (some ⟨x107,0,none⟩,aH [((x24.1.L.length+1:Nat):Int),((x24.1.L.length+1+1:Nat):Int)]) ((mZ u.nd u.xs u.ys (x51.2.al u.nd u.xs u.ys x44.p.m x101).cs.length x106).fr++((mZ u.nd u.xs u.ys x51.2.cs.length x101).fr++(aN x51.2.L++aN x24.1.L))):=⟨_,rfl⟩
      have hakG:AK aA G 2434356876:=⟨hak2.ok,hak2.s1,hak2.s2,λ f hf=>(hak2.fam f hf).imp_right λ h=>by rw[hG];exact List.mem_cons_of_mem _ h⟩
      have hGm:(some ⟨x107,0,none⟩,aH [((x24.1.L.length+1:Nat):Int),((x24.1.L.length+1+1:Nat):Int)])∈G:=by rw[hG];exact List.mem_cons_self ..
      refine Uu (λ w hw=>(show SF _ _ [(b,.cells ⟨u.nd.cells⟩ 47 (0,0)),(x51.1,eV aA),(x10,aAQ x44),(j.1,.cells ⟨[.int .i64 (x22.2.2.2.ts.getD j.2 ⟨0,false⟩).root,.bool (x22.2.2.2.ts.getD j.2 ⟨0,false⟩).ro]⟩ 29 (0,0)),(x26,E3 a2 l2 c2 (lA l2 (lA l2 0))),(x22.1,lB x22.2.1 (x22.2.2.1:Int) x22.2.2.2.pt x22.2.2.2.ts.length x22.2.2.2.kt none 0 0),(x22.2.1,xM x24.1.a0)] _ G [⟨aA.pn,iI aA.L,aA.cn,47,14⟩,⟨aA.pc,aH aA.cs,aA.cc,37,1⟩,⟨x22.2.2.2.pt,rT x22.2.2.2.ts,x22.2.2.2.kt,29,2⟩,⟨none,wX [],0,74,1⟩,⟨x24.1.pn,iI x24.1.L,x24.1.cn,47,14⟩,⟨x24.1.pc,aH x24.1.cs,x24.1.cc,37,1⟩] w from by rw[haA,hG];exact hw)) ?_
     all_goals (refine eH [(0,[]),(1,[]),(2,[]),(3,[]),(4,[]),(5,[]),(6,[]),(7,[]),(8,[]),(9,[]),(11,[]),(12,[]),(13,[]),(14,[]),(15,[]),(16,[]),(17,[]),(18,[]),(19,[]),(20,[]),(10,[13,15,17,19,20]),(21,[]),(22,[]),(23,[])] ?_;refine aR ?_;refine cK (i:=1) (hq:=(Wg rf (λ w=>xZ _ w))) (h:=?_);refine bS ?_;refine lK ?_;refine lK ?_;refine aR ?_;refine bU (i:=8) (hq:=(cP (k:=0) (lst:=[((x24.1.L.length+1:Nat):Int),((x24.1.L.length+1+1:Nat):Int)]) rf rf fZ fO (.new (uC.iM (by exact hGm))) (by omega) (by simp))) (h:=?_);refine bU (i:=9) (hq:=(eC (q:=0) (lst:=[((x24.1.L.length+1:Nat):Int),((x24.1.L.length+1+1:Nat):Int)]) rf fO (.new (uC.iM (by exact hGm))) (by simp))) (h:=?_);refine aR ?_;refine cK (i:=12) (hq:=(Wg rf (λ w=>xZ _ w))) (h:=?_);refine bS ?_;refine lK ?_;refine lK ?_;refine aR ?_;refine bU (i:=19) (hq:=(cP (k:=1) (lst:=[((x24.1.L.length+1:Nat):Int),((x24.1.L.length+1+1:Nat):Int)]) rf rf fZ fO (.new (uC.iM (by exact hGm))) (by omega) (by simp))) (h:=?_);refine bU (i:=20) (hq:=(eC (q:=1) (lst:=[((x24.1.L.length+1:Nat):Int),((x24.1.L.length+1+1:Nat):Int)]) rf fO (.new (uC.iM (by exact hGm))) (by simp))) (h:=?_);refine bE (i:=10) (hq:=(th (V:=λ x:Nat×TY=>.pointer (some ⟨x.1,0,none⟩)) (hs:=[(x51.1,eV aA)]) (os:=fJ aA) (hs':=λ x=>[(x51.1,eV x.2.a)]) (Hc:=λ x=>[(x.1,tO x51.1 x.2.c 0)]) (os':=λ x=>fJ x.2.a) (Oc:=λ _=>[]) (Fc:=λ x=>x.2.F) (A0:=aN aA.L) (hA:=hakG.xo) (hc:=λ w1 hw=>Pp (t:=(x22.2.2.2.ts.getD j.2 ⟨0,false⟩)) (i:=x44.p.i) (bK:=x44.p.m) (nw:=((x24.1.L.length+1:Nat):Int)) hrt (by omega) (by omega) hakG (by omega) (λ f hf=>hf) hw))) (hfire:=(λ _=>by(refine fA ?_;(repeat (first|exact aK.nil|refine aK.cons (by first|exact eN|exact fL (hq:=cP (k:=1) (lst:=[((x24.1.L.length+1:Nat):Int),((x24.1.L.length+1+1:Nat):Int)]) rf rf fZ fO (.new (uC.iM (by exact List.mem_append_right _ hGm))) (by omega) (by simp))|exact fL (hq:=eC (q:=1) (lst:=[((x24.1.L.length+1:Nat):Int),((x24.1.L.length+1+1:Nat):Int)]) rf fO (.new (uC.iM (by exact List.mem_append_right _ hGm))) (by simp))) ?_));done))) (h:=λ x118 h118=>?_))
     all_goals
      have hm8:x118.2.a.mm=aA.mm:=h118.mm
      have hak8:=h118.ak
      have hl8:x118.2.a.mm.nodes.length=x24.1.L.length+1+1:=by rw[hm8];exact hlA
     all_goals refine bE (i:=21) (hq:=(th (V:=λ x:Nat×TY=>.pointer (some ⟨x.1,0,none⟩)) (hs:=[(x51.1,eV x118.2.a)]) (os:=fJ x118.2.a) (hs':=λ x=>[(x51.1,eV x.2.a)]) (Hc:=λ x=>[(x.1,tO x51.1 x.2.c 0)]) (os':=λ x=>fJ x.2.a) (Oc:=λ _=>[]) (Fc:=λ x=>x.2.F) (A0:=aN x118.2.a.L) (hA:=hak8.xo) (hc:=λ w1 hw=>Pp (t:=(x22.2.2.2.ts.getD j.2 ⟨0,false⟩)) (i:=x44.p.i) (bK:=x44.p.m) (nw:=((x24.1.L.length+1+1:Nat):Int)) hrt (by omega) (by omega) hak8 (by omega) (λ f hf=>hf) hw))) (h:=λ x129 h129=>?_)
     all_goals
      have hm9:x129.2.a.mm=aA.mm:=h129.mm.trans hm8
      have hT9:TK x51.1 (pQ (x22.2.2.2.ts.getD j.2 ⟨0,false⟩) x44.p.i x44.p.m ((x24.1.L.length+1+1:Nat):Int) aA.mm).1 x129.2.c x129.2.a (x129.2.F++(x118.2.F++G)) 1000:=by have:=h129.tk;rw[hm8] at this;exact this
      have hY0:og x51.1 (pQ (x22.2.2.2.ts.getD j.2 ⟨0,false⟩) x44.p.i x44.p.m ((x24.1.L.length+1:Nat):Int) aA.mm) (pQ (x22.2.2.2.ts.getD j.2 ⟨0,false⟩) x44.p.i x44.p.m ((x24.1.L.length+1+1:Nat):Int) aA.mm) G 2434357004 ⟨0,0,(pQ (x22.2.2.2.ts.getD j.2 ⟨0,false⟩) x44.p.i x44.p.m ((x24.1.L.length+1:Nat):Int) aA.mm).1,(pQ (x22.2.2.2.ts.getD j.2 ⟨0,false⟩) x44.p.i x44.p.m ((x24.1.L.length+1+1:Nat):Int) aA.mm).1,1000,1000,x118.2.c,x129.2.c,0,0,x129.2.a,x129.2.F++(x118.2.F++G)⟩ :=
       ⟨Nat.zero_le _,by show Zt _ _ _ _ x129.2.a.mm;rw[hm9];exact Zt.none,h118.tk.to h129.le λ x hx=>List.mem_append_right _ hx,hT9,by show 100<=1000+0;decide,by show 100<=1000+0;decide,h129.ak.mono (by show 2434356874+1+1+64+64<=2434357004+64*0;decide),Nat.le_refl _,Nat.le_refl _,λ f hf=>List.mem_append_right _ (List.mem_append_right _ hf)⟩
     all_goals (refine Pf ?_;refine kT ?_;refine lF ?_;refine aB ?_)
     all_goals ((refine Ka3 ?_))
     all_goals (refine uM ?_;refine aI ?_)
     all_goals
      refine bC (λ c135=>?_) (λ c135=>?_)
      · try (contradiction)
      · try (first|contradiction|(exfalso;omega))
        refine aZ ?_;refine J2 ?_;refine aE (U0 (Fc:=λ _=>[]) (Oc:=λ _=>[]) (hc:=λ w1 hw=>ny)) (λ x137 h137=>?_);refine iT ?_;refine D8 ?_
        refine nT [18,138,139,140,141,142,143,144,145,146,147,148] (λ y:OY=>[(18,.int .i64 ((y.i:Nat):Int))]) (λ y=>og x51.1 (pQ (x22.2.2.2.ts.getD j.2 ⟨0,false⟩) x44.p.i x44.p.m ((x24.1.L.length+1:Nat):Int) aA.mm) (pQ (x22.2.2.2.ts.getD j.2 ⟨0,false⟩) x44.p.i x44.p.m ((x24.1.L.length+1+1:Nat):Int) aA.mm) G 2434357004 y) (λ y=>(x137,E3 a3 l3 c3 y.pos)::(x129.1,tO x51.1 y.c1 y.m1)::(x118.1,tO x51.1 y.c0 y.m0)::(b,.cells ⟨u.nd.cells⟩ 47 (0,0))::(x51.1,eV y.a)::(x10,aAQ x44)::(j.1,.cells ⟨[.int .i64 (x22.2.2.2.ts.getD j.2 ⟨0,false⟩).root,.bool (x22.2.2.2.ts.getD j.2 ⟨0,false⟩).ro]⟩ 29 (0,0))::(x26,E3 a2 l2 c2 (lA l2 (lA l2 0)))::(x22.1,lB x22.2.1 (x22.2.2.1:Int) x22.2.2.2.pt x22.2.2.2.ts.length x22.2.2.2.kt none 0 0)::[(x22.2.1,xM x24.1.a0)]) (λ y=>y.G) (λ y=>⟨y.a.pn,iI y.a.L,y.a.cn,47,14⟩::⟨y.a.pc,aH y.a.cs,y.a.cc,37,1⟩::[⟨x22.2.2.2.pt,rT x22.2.2.2.ts,x22.2.2.2.kt,29,2⟩,⟨none,wX [],0,74,1⟩,⟨x24.1.pn,iI x24.1.L,x24.1.cn,47,14⟩,⟨x24.1.pc,aH x24.1.cs,x24.1.cc,37,1⟩]) (λ y=>30-y.i) (⟨0,0,(pQ (x22.2.2.2.ts.getD j.2 ⟨0,false⟩) x44.p.i x44.p.m ((x24.1.L.length+1:Nat):Int) aA.mm).1,(pQ (x22.2.2.2.ts.getD j.2 ⟨0,false⟩) x44.p.i x44.p.m ((x24.1.L.length+1+1:Nat):Int) aA.mm).1,1000,1000,x118.2.c,x129.2.c,0,0,x129.2.a,x129.2.F++(x118.2.F++G)⟩) (hY0) (λ y f hx=>?_) (hw0:=λ w hw=>hw.v6)
        dsimp only[iC,List.map,List.cons_append,List.nil_append]
        have hyi:=hx.hi
        have hyl0:=hx.l0
        have hyl1:=hx.l1
        have hym0:=hx.m0
        have hym1:=hx.m1
        refine kT ?_;refine Bi ?_
        refine bC (λ c139=>?_) (λ c139=>?_)
        · try (first|contradiction|(exfalso;omega))
          refine rY ?_;refine J2 ?_;refine aE (vK (hc:=λ w1 hw=>eM 2 (hw.tape cS fin hl3) (by decide) (by decide))) (λ x143 h143=>?_);refine uQ ?_
          refine bC (λ c144=>?_) (λ c144=>?_)
          · try (first|contradiction|(exfalso;omega))
            refine xK ?_;refine aE (cM (V:=λ _:TY=>.tuple #[]) (hs:=[(x118.1,tO x51.1 y.c0 y.m0),(x51.1,eV y.a)]) (os:=fJ y.a) (hs':=λ r=>[(x118.1,tO x51.1 r.c r.n),(x51.1,eV r.a)]) (os':=λ r=>fJ r.a) (Fc:=λ r=>r.F) (A0:=aN y.a.L++y.G) (hA:=hx.ak.all) (hc:=λ w1 hw=>Lg (k:=y.b0-1) (by rw[show y.b0-1+1=y.b0 by omega];exact hx.k0) hx.ak (by omega) (by omega) (λ f hf=>List.mem_append_left _ hf) (λ f hf=>List.mem_append_right _ hf) hw)) (λ x146 h146=>?_);refine aI ?_;refine Ka8 ?_
            refine iO (by exact⟨y.i+1,lA l3 y.pos,(rB (y.t0,y.a.mm)).1,y.t1,y.b0-1,y.b1,x146.c,y.c1,x146.n,y.m1,x146.a,x146.F++y.G⟩) ?_ (hw1:=λ w hw=>hw.v6)
            · exact hx.aBB hTw (by omega) h146 _
          · try (first|contradiction|(exfalso;omega))
            refine xK ?_;refine aE (cM (V:=λ _:TY=>.tuple #[]) (hs:=[(x129.1,tO x51.1 y.c1 y.m1),(x51.1,eV y.a)]) (os:=fJ y.a) (hs':=λ r=>[(x129.1,tO x51.1 r.c r.n),(x51.1,eV r.a)]) (os':=λ r=>fJ r.a) (Fc:=λ r=>r.F) (A0:=aN y.a.L++y.G) (hA:=hx.ak.all) (hc:=λ w1 hw=>Lg (k:=y.b1-1) (by rw[show y.b1-1+1=y.b1 by omega];exact hx.k1) hx.ak (by omega) (by omega) (λ f hf=>List.mem_append_left _ hf) (λ f hf=>List.mem_append_right _ hf) hw)) (λ x148 h148=>?_);refine aI ?_;refine Ka8 ?_
            refine iO (by exact⟨y.i+1,lA l3 y.pos,y.t0,(rB (y.t1,y.a.mm)).1,y.b0,y.b1-1,y.c0,x148.c,y.m0,x148.n,x148.a,x148.F++y.G⟩) ?_ (hw1:=λ w hw=>hw.v6)
            · exact hx.aCw hTw (by omega) h148 _
        · try (first|contradiction|(exfalso;omega))
          refine bT rfl ?_;refine J2 ?_;refine aE (cM (V:=λ _:TY=>.int .i64 ((rR (y.t0,y.a.mm) 20:Nat):Int)) (hs:=[(x118.1,tO x51.1 y.c0 y.m0),(x51.1,eV y.a)]) (os:=fJ y.a) (hs':=λ r=>[(x118.1,tO x51.1 r.c r.n),(x51.1,eV r.a)]) (os':=λ r=>fJ r.a) (Fc:=λ r=>r.F) (A0:=aN y.a.L++y.G) (hA:=hx.ak.all) (hc:=λ w1 hw=>Hl (most:=20) (k:=y.b0-20) (by rw[show y.b0-20+20=y.b0 by omega];exact hx.k0) hx.ak (by omega) (by omega) (λ f hf=>List.mem_append_left _ hf) (λ f hf=>List.mem_append_right _ hf) hw)) (λ x150 h150=>?_)
          have hk10:TK x51.1 y.t1 y.c1 x150.a (x150.F++y.G) (y.b1-20+20):=by rw[show y.b1-20+20=y.b1 by omega];exact hx.k1.to h150.le λ x hx=>List.mem_append_right _ hx
          refine aI ?_;refine J2 ?_;refine aE (cM (V:=λ _:TY=>.int .i64 ((rR (y.t1,x150.a.mm) 20:Nat):Int)) (hs:=[(x129.1,tO x51.1 y.c1 y.m1),(x51.1,eV x150.a)]) (os:=fJ x150.a) (hs':=λ r=>[(x129.1,tO x51.1 r.c r.n),(x51.1,eV r.a)]) (os':=λ r=>fJ r.a) (Fc:=λ r=>r.F) (A0:=aN x150.a.L++(x150.F++y.G)) (hA:=h150.ak.all) (hc:=λ w1 hw=>Hl (most:=20) (k:=y.b1-20) hk10 h150.ak (by omega) (by omega) (λ f hf=>List.mem_append_left _ hf) (λ f hf=>List.mem_append_right _ hf) hw)) (λ x152 h152=>?_)
          obtain⟨bb,hfin⟩:=hx.fin (N:=20) (by decide) hTw h150 h152
          have hlF:x152.a.mm.nodes.length=x24.1.L.length+1+1:=by rw[hfin.nodes];exact hlA
          have hakF:=hfin.ak
          refine aI ?_;refine J2 ?_;refine aD (Wg rf (λ w=>xZ _ w)) rfl ?_;refine bQ ?_;refine J3 ?_;refine aE (th (V:=λ x:Nat×TY=>.pointer (some ⟨x.1,0,none⟩)) (hs:=[(x51.1,eV x152.a)]) (os:=fJ x152.a) (hs':=λ x=>[(x51.1,eV x.2.a)]) (Hc:=λ x=>[(x.1,tO x51.1 x.2.c 0)]) (os':=λ x=>fJ x.2.a) (Oc:=λ _=>[]) (Fc:=λ x=>x.2.F) (A0:=aN x152.a.L) (hA:=hakF.xo) (hc:=λ w1 hw=>dj (t:=(x22.2.2.2.ts.getD j.2 ⟨0,false⟩)) (i:=x44.p.i) hrt (by omega) hakF (by omega) (λ f hf=>hf) hw)) (λ x158 h158=>?_);refine Kc2 ?_;refine lF ?_;refine aB ?_
          (refine Ka3 ?_)
          ((refine aF ?_;refine aP (cV (hc:=λ w1 hw=>Af (d:=true) hfin.k0.done.1 (hw.st.at cS))) (λ x163=>?_)));refine Ny ?_;refine aB ?_
          (refine Ka3 ?_)
          ((refine aF ?_;refine aP (cV (hc:=λ w1 hw=>Af (d:=true) hfin.k1.done.1 (hw.st.at cS))) (λ x168=>?_)));refine Kc0 ?_
          refine bC (λ c170=>?_) (λ c170=>?_)
          · exact nv c170
          · try (first|contradiction|(exfalso;omega))
            refine aZ ?_;refine J2 ?_;refine aE (cM (V:=λ _:TY=>.int .i64 ((rR ((Ct.gF (X4 (x22.2.2.2.ts.getD j.2 ⟨0,false⟩) x44.p.i) x152.a.mm).1,x158.2.a.mm) 20:Nat):Int)) (hs:=[(x158.1,tO x51.1 x158.2.c 0),(x51.1,eV x158.2.a)]) (os:=fJ x158.2.a) (hs':=λ r=>[(x158.1,tO x51.1 r.c r.n),(x51.1,eV r.a)]) (os':=λ r=>fJ r.a) (Fc:=λ r=>r.F) (A0:=aN x158.2.a.L++(x158.2.F++(x152.F++(x150.F++y.G)))) (hA:=h158.ak.all) (hc:=λ w1 hw=>Hl (most:=20) (k:=980) h158.tk h158.ak (by omega) (by omega) (λ f hf=>List.mem_append_left _ hf) (λ f hf=>List.mem_append_right _ hf) hw)) (λ x172 h172=>?_)
            obtain⟨hk12,_⟩:=hfin.read (N:=20) (by decide) h158 h172
            cases bb
            all_goals (refine aI ?_;refine J2 ?_;refine aD (cP (k:=0) (lst:=[((x24.1.L.length+1:Nat):Int),((x24.1.L.length+1+1:Nat):Int)]) rf rf fZ fO (.new (uC.iM (List.mem_append_right _ (List.mem_append_right _ (List.mem_append_right _ (List.mem_append_right _ (hx.sub _ hGm))))))) (by omega) (by simp)) rfl ?_;refine aD (eC (q:=0) (lst:=[((x24.1.L.length+1:Nat):Int),((x24.1.L.length+1+1:Nat):Int)]) rf fO (.new (uC.iM (List.mem_append_right _ (List.mem_append_right _ (List.mem_append_right _ (List.mem_append_right _ (hx.sub _ hGm))))))) (by simp)) rfl ?_;refine Kc2 ?_;refine aP (cV (hc:=λ w1 hw=>kH (d:=true) hfin.k1.done.1 hfin.k1.done.2 (hw.st.at cS))) (λ x177=>?_);refine cB ?_;refine aI ?_)
            all_goals
             refine bC (λ c178=>?_) (λ c178=>?_)
             · try exact nv c178
               all_goals (refine xK ?_;refine aD (cP (k:=1) (lst:=[((x24.1.L.length+1:Nat):Int),((x24.1.L.length+1+1:Nat):Int)]) rf rf fZ fO (.new (uC.iM (List.mem_append_right _ (List.mem_append_right _ (List.mem_append_right _ (List.mem_append_right _ (hx.sub _ hGm))))))) (by omega) (by simp)) rfl ?_;refine aD (eC (q:=1) (lst:=[((x24.1.L.length+1:Nat):Int),((x24.1.L.length+1+1:Nat):Int)]) rf fO (.new (uC.iM (List.mem_append_right _ (List.mem_append_right _ (List.mem_append_right _ (List.mem_append_right _ (hx.sub _ hGm))))))) (by simp)) rfl ?_;refine J1 ?_;refine J0 ?_;refine aP (cV (hc:=λ w1 hw=>B5 w1)) (λ x182=>?_);refine aB ?_)
               all_goals ((refine Ka3 ?_))
               all_goals (((refine aF ?_;refine aP (cV (hc:=λ w1 hw=>kH (d:=true) hfin.k0.done.1 hfin.k0.done.2 (hw.st.at cS))) (λ x185=>?_)));refine we ?_;((refine aF ?_;refine aP (cV (hc:=λ w1 hw=>kH (d:=true) hfin.k1.done.1 hfin.k1.done.2 (hw.st.at cS))) (λ x188=>?_)));((refine aF ?_;refine cB ?_));((refine aF ?_;refine nu ?_));refine Ka6 ?_)
               all_goals ((refine Ka3 ?_))
               all_goals (((refine aF ?_;refine aP (cV (hc:=λ w1 hw=>Af (d:=true) hk12.done.1 (hw.st.at cS))) (λ x194=>?_)));refine Ka6 ?_)
               all_goals ((refine Ka3 ?_))
               all_goals (((refine aF ?_;refine aP (cV (hc:=λ w1 hw=>kH (d:=true) hk12.done.1 hk12.done.2 (hw.st.at cS))) (λ x198=>?_)));refine we ?_;refine uM ?_;refine J1 ?_)
               all_goals
                refine aT Tryz.results4 (λ w hw=>?_)
                first
                | exact⟨rfl,hw.done⟩
                | exact⟨Mq _,hw.done⟩
             · try exact nv c178
               all_goals (refine aZ ?_;refine J0 ?_;refine aP (cV (hc:=λ w1 hw=>B5 w1)) (λ x182=>?_);refine aB ?_)
               all_goals ((refine Ka3 ?_))
               all_goals (((refine aF ?_;refine aP (cV (hc:=λ w1 hw=>kH (d:=true) hfin.k0.done.1 hfin.k0.done.2 (hw.st.at cS))) (λ x185=>?_)));refine we ?_;((refine aF ?_;refine aP (cV (hc:=λ w1 hw=>kH (d:=true) hfin.k1.done.1 hfin.k1.done.2 (hw.st.at cS))) (λ x188=>?_)));((refine aF ?_;refine cB ?_));((refine aF ?_;refine nu ?_));refine Ka6 ?_)
               all_goals ((refine Ka3 ?_))
               all_goals (((refine aF ?_;refine aP (cV (hc:=λ w1 hw=>Af (d:=true) hk12.done.1 (hw.st.at cS))) (λ x194=>?_)));refine Ka6 ?_)
               all_goals ((refine Ka3 ?_))
               all_goals (((refine aF ?_;refine aP (cV (hc:=λ w1 hw=>kH (d:=true) hk12.done.1 hk12.done.2 (hw.st.at cS))) (λ x198=>?_)));refine we ?_;refine uM ?_;refine J1 ?_)
               all_goals
                refine aT Tryz.results4 (λ w hw=>?_)
                first
                | exact⟨rfl,hw.done⟩
                | exact⟨Mq _,hw.done⟩
end Go.Proofs.YtbajmaoegmbfgaaGreat
