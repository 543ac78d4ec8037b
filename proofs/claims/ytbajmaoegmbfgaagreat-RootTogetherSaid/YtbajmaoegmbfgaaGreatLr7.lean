/- RootTogether: the walk. -/
import Derived.Test.YtbajmaoegmbfgaaGreatGLe1
set_option linter.unusedSimpArgs false
set_option linter.unusedVariables false
namespace Go.Ct
open Go Go.RowKit
theorem Fq{α:Type}:∀H:List α,((List.range H.length).flatMap λ i=>(H.drop i).take 1)=H
 | []=>rfl
 | x::H=>by
  rw[List.length_cons,List.range_succ_eq_map,List.flatMap_cons,List.flatMap_map]
  show x::((List.range H.length).flatMap λ i=>(H.drop i).take 1)=x::H
  rw[Fq H]
theorem SF.pick{w0 w:World}{M:List Nat}{H:List (Nat×Obj)}{A F:Fr}{O:List Ow}(is js:List Nat)(n:Nat)(h:SF w0 M H A F O w)(hn:H.length=n:=by rfl)(hp:(List.range n).Perm (is++js):=by decide):SF w0 M (is.flatMap λ i=>(H.drop i).take 1) A F O w:=by
 have p:H.Perm ((is++js).flatMap λ i=>(H.drop i).take 1):=by
  have:=List.Perm.flatMap_right (λ i=>(H.drop i).take 1) hp
  rw[<- hn,Fq] at this
  exact this
 rw[List.flatMap_append] at p
 exact(h.perm p.symm (List.Perm.refl _)).sub (List.sublist_append_left _ _) aY.all (List.Sublist.refl _)
theorem SF.aA1{w0 w:World}{M:List Nat}{H:List (Nat×Obj)}{A F:Fr}{O:List Ow}(is:List Nat)(n:Nat)(h:SF w0 M H A F O w)(hn:O.length=n:=by rfl)(hp:(List.range n).Perm is:=by decide):SF w0 M H A F (is.flatMap λ i=>(O.drop i).take 1) w:=by
 have p:O.Perm (is.flatMap λ i=>(O.drop i).take 1):=by
  have:=List.Perm.flatMap_right (λ i=>(O.drop i).take 1) hp
  rw[<- hn,Fq] at this
  exact this
 exact h.perm (List.Perm.refl _) p.symm
end Go.Ct
namespace Go.Proofs.YtbajmaoegmbfgaaGreat
open Go Go.RowKit Go.Ct
structure RP where
 tb:Nat
 c:Cd
 F:Fr
 a:AS
 bx:Nat
 x:XS
 N:List aS
 dn:Bool
 rs:Rs
abbrev RP.of(x:Nat×Cd×Fr×AS)(q:Nat×XS×List aS×Bool×Rs):RP:=⟨x.1,x.2.1,x.2.2.1,x.2.2.2,q.1,q.2.1,q.2.2.1,q.2.2.2.1,q.2.2.2.2⟩
structure Oa(ba:Nat)(a:AS)(z:XS)(k:Cl)(q:RP):Prop where
 tk:mH ba (Ct.iU (T0 k 0) a.mm) a [] (q.c,q.F,q.a)
 rp:sG (T0 k 0) (T0 k 0) 0 0 Rs.zero (XS.new z.L z.cs z.gen z.acc z.pn z.cn z.pc z.cc) q.x q.N q.dn q.rs
abbrev pxR(q:RP)(k:Cl)(R:Tr):PX:=⟨⟨q.bx,k,q.x,q.dn,q.rs,R⟩,0,q.tb,q.c,0⟩
abbrev pxS(q:SW)(R:Tr):PX:=⟨⟨q.bx,q.k,q.x,q.dn,q.rs,R⟩,0,q.tb,q.c,0⟩
theorem Oa.ga{ba:Nat}{a:AS}{z:XS}{k:Cl}{q:RP}(h:Oa ba a z k q):∀f∈aK q.a.L,f.2=[]∨f∈q.F++aK a.L:=λ f hf=>(h.tk.2.2.fam f hf).imp_right λ h=>List.mem_append.2 h.symm
theorem Oa.gz{ba:Nat}{a:AS}{z:XS}{k:Cl}{q:RP}(h:Oa ba a z k q):∀f∈aK q.x.L,f∈aK q.N∨f∈aK z.L:=λ f hf=>by
 rw[show q.x.L=z.L++q.N from h.rp.ext,cS] at hf
 exact(List.mem_append.1 hf).symm
theorem Oa.has{ba:Nat}{a:AS}{z:XS}{k:Cl}{q:RP}(h:Oa ba a z k q){f:Option Addr×List Value}(hf:f∈aK q.a.L++aK q.x.L):f.2=[]∨f∈aK q.N++(q.F++(aK a.L++aK z.L)):=by
 simp only[List.mem_append]
 rcases List.mem_append.1 hf with hf|hf
 ·exact(h.ga f hf).imp_right λ h=>(List.mem_append.1 h).elim (λ h=>.inr (.inl h)) λ h=>.inr (.inr (.inl h))
 ·exact .inr ((h.gz f hf).imp_right λ h=>.inr (.inr h))
theorem R7.has{ba:Nat}{a:AS}{z:XS}{q:SW}{F:Fr}(h:R7 ba a z q)(hF:∀f∈aK a.L++aK z.L,f.2=[]∨f∈F):∀f∈aK q.a.L++aK q.x.L,f.2=[]∨f∈q.F++F:=λ f hf=>by
 have k1:∀f∈aK a.L,f.2=[]∨f∈F:=λ f hf=>hF f (List.mem_append_left _ hf)
 have k2:∀f∈aK z.L,f.2=[]∨f∈F:=λ f hf=>hF f (List.mem_append_right _ hf)
 simp only[List.mem_append] at hf ⊢
 rcases hf with hf|hf
 ·rcases h.ga f hf with h|h|h
  ·exact .inl h
  ·exact(k1 f h).imp_right .inr
  ·exact .inr (.inl h)
 ·rcases h.fz f hf with h|h|h
  ·exact .inl h
  ·exact(k2 f h).imp_right .inr
  ·exact .inr (.inl h)
theorem xh{ba Bz:Nat}{a:AS}{z:XS}{t:fR}{q:RP}(hS:Cg ba Bz 0 ⟨a,z,[],[]⟩)(h:Oa ba a z (kT 3 t) q)(ht:t.root<=9223372036854775807):∃R,Cg ba (Bz+64) 0 ⟨q.a,q.x,[pxR q (kT 3 t) R],q.F++[]⟩/\q.x.mm=z.mm:=by
 obtain⟨R,h1,h2,_⟩:=Cg.add (bx:=q.bx) (tb:=q.tb) (S:=⟨a,z,[],[]⟩) hS h.rp h.tk (U5 (by decide) (by decide)) (by decide) rfl ht (bH _) (bH _) (bH _)
 exact⟨R,h1,h2.trans (by rw[qp];rfl)⟩
theorem wN{z:XS}{B C:Nat}(h:Sz z B)(hc:B<=C):Sz z C:=⟨Nat.le_trans h.1 hc,Nat.le_trans h.2.1 hc,by have:=h.2.2;omega⟩
theorem aBw{F3 F2 G3 G2 F1 N E:Fr}{x y:Option Addr×List Value}(h3:∀f∈F3,f∈G3)(h2:∀f∈F2,f∈G2){f:Option Addr×List Value}(hf:f∈F3++(F2++(F1++[]))):f∈x::y::(G3++(G2++(N++(F1++E)))):=by
 simp only[List.mem_cons,List.mem_append] at hf ⊢
 rcases hf with h|h|h|h
 ·exact .inr (.inr (.inl (h3 f h)))
 ·exact .inr (.inr (.inr (.inl (h2 f h))))
 ·exact .inr (.inr (.inr (.inr (.inr (.inl h)))))
 ·exact nomatch h
set_option maxRecDepth 100000 in
set_option maxHeartbeats 4000000 in
theorem Fm{l l2 l3:List Int}{a a2 a3:Option Addr}{c c2 c3:Nat}{other:Bool}{w:World}(h1:Go.Ct.Cl w a (aH l))(hl:l.length<=17592186043904)(h2:Go.Ct.Cl w a2 (aH l2))(hl2:l2.length<=17592186043904)(h3:Go.Ct.Cl w a3 (aH l3))(hl3:l3.length<=17592186043904) :
  Calls Tryz.prog 14 #[.slice a l.length c,.slice a2 l2.length c2,.slice a3 l3.length c3,.bool other] w λ e w'=>e=.returned (.bool true)/\St w [] [] w':=by
 refine enter Tryz.func14 Tryz.ntmps14 rfl rfl (SF.s3 h1 h2 h3) ?_
 simp only[bX]
 refine cR ?_;refine jA ?_;refine aC (Sl (V:=λ q:TQ=>.tuple #[.pointer (some ⟨q.bw,0,none⟩),.pointer (some ⟨q.ba,0,none⟩),.agg ⟨[.int .i64 q.t.root,.bool q.t.ro]⟩,.pointer (some ⟨q.tp,0,none⟩)]) (Hc:=λ q=>tqH l2 a2 c2 q) (Fc:=λ q=>aK q.a.L++aK q.W.z.L) (Oc:=λ q=>tqO q) (hc:=λ w1 hw=>Zk (hw.cl (.bD .head)) hl (hw.cl (.bD (.tail .head))) hl2)) (λ x21 h21=>?_)
 have hW:=h21.W
 have hrt:=h21.root
 have hI0:=Sj hW (Av h21.j)
 obtain⟨s1,s2,s3⟩:=hW.sz
 refine Lw ?_;refine J54 ?_;refine aI (λ x11=>?_);refine oX (λ _=>?_);refine oX (λ _=>?_);refine iF (λ _=>?_);refine hZ ?_;refine J2 ?_;refine lI ?_;refine aA ?_
 (refine aF ?_;refine aE ?_)
 ((refine aF ?_;refine bN ?_));refine cJ ?_;refine aG ?_
 refine bC (λ c31=>?_) (λ c31=>?_)
 ·try (first|contradiction|(exfalso;omega))
  refine J2 ?_;refine kM ?_;refine aA ?_
  (refine aF ?_;refine aP (cV (hc:=λ w1 hw=>Ko w1)) (λ x35=>?_))
  refine cJ ?_;refine J1 ?_
  refine aR Tryz.results14 (λ w hw=>?_)
  exact⟨rfl,hw.done⟩
 ·try (first|contradiction|(exfalso;omega))
  refine kG ?_
  refine dJ [13,37,38,39,40,41,42,43,44,45,46,47,48] (λ j:Nat×RP=>[(13,.pointer (some ⟨j.1,0,none⟩))]) (λ j=>Oa x21.ba x21.a x21.W.z.a0 (kT 3 x21.t) j.2) (λ j=>[(j.1,.cells ⟨[.pointer (some ⟨j.2.tb,0,none⟩),.pointer (some ⟨j.2.bx,0,none⟩)]⟩ 76 (0,0)),(j.2.bx,xO (kT 3 x21.t) x21.bm j.2.x j.2.dn j.2.rs),(j.2.tb,tO x21.ba j.2.c 0),(x11,.cells ⟨[.int .i64 x21.t.root,.bool x21.t.ro]⟩ 29 (0,0)),(x21.ba,dS j.2.a),(x21.tp,C9 a2 l2 c2 x21.pos),(x21.bw,iT x21.bm (x21.m:Int) x21.W.pt x21.W.ts.length x21.W.kt x21.W.pe (nK x21.W.ex).length x21.W.ke),(x21.bm,xM j.2.x)]) (λ j=>aK j.2.N++(j.2.F++(aK x21.a.L++aK x21.W.z.L))) (λ j=>Pn j.2.x++(dZ j.2.a++iI j.2.x)) (by decide) (λ _=>by exact rfl) ?_ (λ j f hx=>?_)
  ·refine fP (.one 0 [] (.one 1 [] (.one 2 [] (.one 4 [] (.one 5 [] (.one 6 [] (.one 7 [] (.one 8 [] (.one 9 [] (.two 3 [7,8] (.two 10 [] (.one 11 [] (.one 12 [2,7,8] (.one 13 [] .nil))) 0 [] (.two 12 [2,7,8] (.one 10 [] (.one 11 [] (.one 13 [] .nil))) 0 [] .nil)) 0 [] (.two 12 [2,7,8] (.one 3 [7,8] (.one 10 [] (.one 11 [] (.one 13 [] .nil)))) 0 [] .nil))))))))))) ?_
   refine aM ?_;refine cC (i:=1) (hq:=(jg rf (λ w=>B3 _ w))) (h:=?_);refine bK ?_;refine Yb ?_;refine bK ?_;refine fX ?_
   refine fF (E:=[3,12]) (by decide +kernel) ((.cons ?_ (.cons ?_ .nil)))
   ·refine jG (i:=3) (hq:=(M1 (V:=λ x:Nat×Cd×Fr×AS=>.pointer (some ⟨x.1,0,none⟩)) (hs:=[(x21.ba,dS x21.a)]) (os:=dZ x21.a) (hs':=λ x=>[(x21.ba,dS x.2.2.2)]) (Hc:=λ x=>[(x.1,tO x21.ba x.2.1 0)]) (os':=λ x=>dZ x.2.2.2) (Oc:=λ _=>[]) (Fc:=λ x=>x.2.2.1) (A0:=aK x21.a.L) (hA:=aW.of λ f hf=>.inr (.inr (.inl (by simp[hf])))) (hc:=λ w1 hw=>Ej (Nt (B:=[]) (n:=0) (m:=64) hrt (jX (kT 3 x21.t) 0 (by decide)) h21.a h21.sm (λ f hf=>hf) (λ x hx=>nomatch hx) hw)))) (h:=λ x40 h40=>?_)
    refine fF (E:=[10,12]) (by decide +kernel) ((.cons ?_ (.cons ?_ .nil)))
    ·refine jG (i:=10) (hq:=(M1 (V:=λ q:Nat×XS×List aS×Bool×Rs=>.pointer (some ⟨q.1,0,none⟩)) (hs:=[(x21.bm,xM x21.W.z.a0)]) (os:=iI x21.W.z) (hs':=λ q=>[(x21.bm,xM q.2.1)]) (Hc:=λ q=>[(q.1,xO (kT 3 x21.t) x21.bm q.2.1 q.2.2.2.1 q.2.2.2.2)]) (os':=λ q=>iI q.2.1) (Oc:=λ q=>Pn q.2.1) (Fc:=λ q=>aK q.2.2.1) (A0:=aK x21.W.z.L) (hA:=aW.of λ f hf=>.inr (.inr (.inl (by simp[hf])))) (hc:=λ w1 hw=>vF (k:=kT 3 x21.t) (m:=0) (L:=x21.W.z.L) (cs:=x21.W.z.cs) (gen:=x21.W.z.gen) (acc:=0) ⟨by omega,by omega,by omega⟩ (U5 (by decide) (by decide)) (by decide) rfl hrt (bH _) (bH _) (bH _) (λ f hf=>hf) (zX (U9 hW.z)) hw))) (h:=λ x47 h47=>?_)
     refine fX ?_;refine fO (h:=λ x13=>?_);refine wU ?_
     refine eC ((x13,RP.of x40 x47)) ?_ (hw1:=λ w hw=>by rw[List.append_nil] at hw;exact hw)
     ·exact⟨h40.1,h47⟩
    ·refine eX (i:=12) (h:=λ x13=>?_)
     refine aZ (i:=10) (hq:=(M1 (V:=λ q:Nat×XS×List aS×Bool×Rs=>.pointer (some ⟨q.1,0,none⟩)) (hs:=[(x21.bm,xM x21.W.z.a0)]) (os:=iI x21.W.z) (hs':=λ q=>[(x21.bm,xM q.2.1)]) (Hc:=λ q=>[(q.1,xO (kT 3 x21.t) x21.bm q.2.1 q.2.2.2.1 q.2.2.2.2)]) (os':=λ q=>iI q.2.1) (Oc:=λ q=>Pn q.2.1) (Fc:=λ q=>aK q.2.2.1) (A0:=aK x21.W.z.L) (hA:=aW.of λ f hf=>.inr (.inr (.inl (by simp[hf])))) (hc:=λ w1 hw=>vF (k:=kT 3 x21.t) (m:=0) (L:=x21.W.z.L) (cs:=x21.W.z.cs) (gen:=x21.W.z.gen) (acc:=0) ⟨by omega,by omega,by omega⟩ (U5 (by decide) (by decide)) (by decide) rfl hrt (bH _) (bH _) (bH _) (λ f hf=>hf) (zX (U9 hW.z)) hw))) (h:=λ x47 h47=>?_);refine fX ?_;refine wU ?_
     refine eC ((x13,RP.of x40 x47)) ?_ (hw1:=λ w hw=>by rw[List.append_nil] at hw;exact hw.pick [1,0,2,3,4,5,6,7] [] 8)
     ·exact⟨h40.1,h47⟩
   ·refine eX (i:=12) (h:=λ x13=>?_)
    refine aZ (i:=3) (hq:=(M1 (V:=λ x:Nat×Cd×Fr×AS=>.pointer (some ⟨x.1,0,none⟩)) (hs:=[(x21.ba,dS x21.a)]) (os:=dZ x21.a) (hs':=λ x=>[(x21.ba,dS x.2.2.2)]) (Hc:=λ x=>[(x.1,tO x21.ba x.2.1 0)]) (os':=λ x=>dZ x.2.2.2) (Oc:=λ _=>[]) (Fc:=λ x=>x.2.2.1) (A0:=aK x21.a.L) (hA:=aW.of λ f hf=>.inr (.inr (.inl (by simp[hf])))) (hc:=λ w1 hw=>Ej (Nt (B:=[]) (n:=0) (m:=64) hrt (jX (kT 3 x21.t) 0 (by decide)) h21.a h21.sm (λ f hf=>hf) (λ x hx=>nomatch hx) hw)))) (h:=λ x40 h40=>?_);refine aZ (i:=10) (hq:=(M1 (V:=λ q:Nat×XS×List aS×Bool×Rs=>.pointer (some ⟨q.1,0,none⟩)) (hs:=[(x21.bm,xM x21.W.z.a0)]) (os:=iI x21.W.z) (hs':=λ q=>[(x21.bm,xM q.2.1)]) (Hc:=λ q=>[(q.1,xO (kT 3 x21.t) x21.bm q.2.1 q.2.2.2.1 q.2.2.2.2)]) (os':=λ q=>iI q.2.1) (Oc:=λ q=>Pn q.2.1) (Fc:=λ q=>aK q.2.2.1) (A0:=aK x21.W.z.L) (hA:=aW.of λ f hf=>.inr (.inr (.inl (by simp[hf])))) (hc:=λ w1 hw=>vF (k:=kT 3 x21.t) (m:=0) (L:=x21.W.z.L) (cs:=x21.W.z.cs) (gen:=x21.W.z.gen) (acc:=0) ⟨by omega,by omega,by omega⟩ (U5 (by decide) (by decide)) (by decide) rfl hrt (bH _) (bH _) (bH _) (λ f hf=>hf) (zX (U9 hW.z)) hw))) (h:=λ x47 h47=>?_);refine fX ?_;refine wU ?_
    refine eC ((x13,RP.of x40 x47)) ?_ (hw1:=λ w hw=>by rw[List.append_nil] at hw;exact hw.pick [2,0,1,3,4,5,6,7] [] 8)
    ·exact⟨h40.1,h47⟩
  dsimp only[gP,List.map,List.cons_append,List.nil_append]
  obtain⟨R1,hL1,hm1⟩:=xh h21.lok hx hrt
  have hI1:I1 x21.m x21.t j.2.x.mm:=hm1▸hI0
  have hf1:=λ f hf=>hx.has (f:=f) hf
  obtain⟨r1,p1,hr1,hb1,k1,k2,k3⟩:=hI1.root
  refine jA ?_;refine bN ?_;refine aC (M1 (V:=λ q:SW=>.tuple #[.agg ⟨[.pointer (some ⟨q.tb,0,none⟩),.pointer (some ⟨q.bx,0,none⟩)]⟩,.bool true]) (hs:=[(x21.ba,dS j.2.a),(x21.bm,xM j.2.x),(x21.bw,iT x21.bm (x21.m:Int) x21.W.pt x21.W.ts.length x21.W.kt x21.W.pe (nK x21.W.ex).length x21.W.ke)]) (os:=dZ j.2.a++iI j.2.x) (hs':=λ q=>[(x21.ba,dS q.a),(x21.bm,xM q.x),(x21.bw,iT x21.bm (x21.m:Int) x21.W.pt x21.W.ts.length x21.W.kt x21.W.pe (nK x21.W.ex).length x21.W.ke)]) (Hc:=λ q=>[(q.tb,tO x21.ba q.c 0),(q.bx,xO q.k x21.bm q.x q.dn q.rs)]) (os':=λ q=>dZ q.a++iI q.x) (Oc:=λ q=>Pn q.x) (Fc:=λ q=>q.F) (A0:=aK j.2.a.L++aK j.2.x.L) (hA:=aW.of λ f hf=>(hf1 f hf).imp_right λ h=>.inr (.inl h)) (hc:=λ w1 hw=>rF (t:=x21.t) (other:=false) hL1.z hL1.a hL1.mm (wN hL1.sz (by decide)) hI1.proper hr1 hb1 k2 k3 hrt (λ f hf=>List.mem_append_left _ hf) (λ f hf=>List.mem_append_right _ hf) hw)) (λ x53 h53=>?_)
  obtain⟨R2,F2,hF2,hL2,hm2⟩:=Y7 hL1 h53.1
  have hro:x21.t.ro=false:=by simpa using c31
  have hI2:=I1.swap hI1 hro h53.2 hm2
  have hf2:=h53.1.has hf1
  obtain⟨r2,p2,hr2,hb2,k4,k5,k6⟩:=hI2.root
  refine Lw ?_;refine aI (λ x14=>?_);refine iF (λ _=>?_);refine hZ ?_
  refine dJ [16,17,56,57,58,59,60,61,62,63,64,65,66,67,68] (λ i:Nat×SW=>[(16,.pointer (some ⟨i.1,0,none⟩)),(17,.bool true)]) (λ i=>R7 x21.ba x53.a x53.x i.2) (λ i=>[(i.1,.cells ⟨[.pointer (some ⟨i.2.tb,0,none⟩),.pointer (some ⟨i.2.bx,0,none⟩)]⟩ 76 (0,0)),(i.2.tb,tO x21.ba i.2.c 0),(i.2.bx,xO i.2.k x21.bm i.2.x i.2.dn i.2.rs),(x14,.cells ⟨[.pointer (some ⟨x53.tb,0,none⟩),.pointer (some ⟨x53.bx,0,none⟩)]⟩ 76 (0,0)),(x53.tb,tO x21.ba x53.c 0),(x53.bx,xO x53.k x21.bm x53.x x53.dn x53.rs),(j.1,.cells ⟨[.pointer (some ⟨j.2.tb,0,none⟩),.pointer (some ⟨j.2.bx,0,none⟩)]⟩ 76 (0,0)),(j.2.bx,xO (kT 3 x21.t) x21.bm j.2.x j.2.dn j.2.rs),(j.2.tb,tO x21.ba j.2.c 0),(x21.ba,dS i.2.a),(x21.bw,iT x21.bm (x21.m:Int) x21.W.pt x21.W.ts.length x21.W.kt x21.W.pe (nK x21.W.ex).length x21.W.ke),(x21.bm,xM i.2.x)]) (λ i=>i.2.F++(x53.F++(aK j.2.N++(j.2.F++(aK x21.a.L++aK x21.W.z.L))))) (λ i=>Pn i.2.x++(Pn x53.x++(Pn j.2.x++(dZ i.2.a++iI i.2.x)))) (by decide) (λ _=>by exact rfl) ?_ (λ i f hx=>?_)
  ·cases other
   ·refine fP (.one 0 [] (.one 1 [] (.one 2 [] (.one 3 [] (.one 4 [] (.one 5 [] (.two 6 [2] (.one 7 [] (.one 8 [] (.two 9 [] (.one 10 [] (.one 11 [] (.one 12 [] (.one 13 [2] (.one 14 [] (.one 15 [] .nil)))))) 0 [] (.two 13 [2] (.one 9 [] (.one 10 [] (.one 11 [] (.one 12 [] (.one 14 [] (.one 15 [] .nil)))))) 0 [] .nil)))) 0 [] (.two 13 [2] (.one 6 [2] (.one 7 [] (.one 8 [] (.one 9 [] (.one 10 [] (.one 11 [] (.one 12 [] (.one 14 [] (.one 15 [] .nil))))))))) 0 [] .nil)))))))) ?_
    refine gT ?_;refine bK ?_;refine gT ?_
    (refine aM ?_)
    refine fF (E:=[6,13]) (by decide +kernel) ((.cons ?_ (.cons ?_ .nil)))
    ·refine jG (i:=6) (hq:=(tU (hc:=λ w1 hw=>eH 4 (hw.tape cN fin hl2) (by omega) (by omega)))) (h:=λ x63 h63=>?_)
     refine uj ?_
     refine fF (E:=[9,13]) (by decide +kernel) ((.cons ?_ (.cons ?_ .nil)))
     ·(refine yI (i:=9) (hq:=((by exact M1 (V:=λ q:SW=>.tuple #[.agg ⟨[.pointer (some ⟨q.tb,0,none⟩),.pointer (some ⟨q.bx,0,none⟩)]⟩,.bool true]) (hs:=[(x21.ba,dS x53.a),(x21.bm,xM x53.x),(x21.bw,iT x21.bm (x21.m:Int) x21.W.pt x21.W.ts.length x21.W.kt x21.W.pe (nK x21.W.ex).length x21.W.ke)]) (os:=dZ x53.a++iI x53.x) (hs':=λ q=>[(x21.ba,dS q.a),(x21.bm,xM q.x),(x21.bw,iT x21.bm (x21.m:Int) x21.W.pt x21.W.ts.length x21.W.kt x21.W.pe (nK x21.W.ex).length x21.W.ke)]) (Hc:=λ q=>[(q.tb,tO x21.ba q.c 0),(q.bx,xO q.k x21.bm q.x q.dn q.rs)]) (os':=λ q=>dZ q.a++iI q.x) (Oc:=λ q=>Pn q.x) (Fc:=λ q=>q.F) (A0:=aK x53.a.L++aK x53.x.L) (hA:=aW.of λ f hf=>(hf2 f hf).imp_right λ h=>.inr (.inl h)) (hc:=λ w1 hw=>rF (t:=x21.t) (other:=decide (((x63:Nat):Int)=0)) hL2.z hL2.a hL2.mm (wN hL2.sz (by decide)) hI2.proper hr2 hb2 k5 k6 hrt (λ f hf=>List.mem_append_left _ hf) (λ f hf=>List.mem_append_right _ hf) hw)))) (h:=λ x66=>?_);try (refine eF (λ h66=>?_)))
      refine aM ?_;refine gV ?_;refine gV ?_;refine fO (h:=λ x16=>?_);refine yB ?_
      refine eC ((x16,x66)) ?_ (hw1:=λ w hw=>by exact hw.pick [0,1,2,3,4,5,6,7,8,10,12,13] [9,11] 14)
      ·exact h66.1
     ·refine eX (i:=13) (h:=λ x16=>?_)
      ((refine cB (i:=9) (hq:=((by exact M1 (V:=λ q:SW=>.tuple #[.agg ⟨[.pointer (some ⟨q.tb,0,none⟩),.pointer (some ⟨q.bx,0,none⟩)]⟩,.bool true]) (hs:=[(x21.ba,dS x53.a),(x21.bm,xM x53.x),(x21.bw,iT x21.bm (x21.m:Int) x21.W.pt x21.W.ts.length x21.W.kt x21.W.pe (nK x21.W.ex).length x21.W.ke)]) (os:=dZ x53.a++iI x53.x) (hs':=λ q=>[(x21.ba,dS q.a),(x21.bm,xM q.x),(x21.bw,iT x21.bm (x21.m:Int) x21.W.pt x21.W.ts.length x21.W.kt x21.W.pe (nK x21.W.ex).length x21.W.ke)]) (Hc:=λ q=>[(q.tb,tO x21.ba q.c 0),(q.bx,xO q.k x21.bm q.x q.dn q.rs)]) (os':=λ q=>dZ q.a++iI q.x) (Oc:=λ q=>Pn q.x) (Fc:=λ q=>q.F) (A0:=aK x53.a.L++aK x53.x.L) (hA:=aW.of λ f hf=>(hf2 f hf).imp_right λ h=>.inr (.inl h)) (hc:=λ w1 hw=>rF (t:=x21.t) (other:=decide (((x63:Nat):Int)=0)) hL2.z hL2.a hL2.mm (wN hL2.sz (by decide)) hI2.proper hr2 hb2 k5 k6 hrt (λ f hf=>List.mem_append_left _ hf) (λ f hf=>List.mem_append_right _ hf) hw)))) (h:=λ x66=>?_);try (refine eF (λ h66=>?_))));refine aM ?_;refine gV ?_;refine gV ?_;refine yB ?_
      refine eC ((x16,x66)) ?_ (hw1:=λ w hw=>by exact hw.pick [2,0,1,3,4,5,6,7,8,10,12,13] [9,11] 14)
      ·exact h66.1
    ·refine eX (i:=13) (h:=λ x16=>?_)
     ((refine aZ (i:=6) (hq:=(tU (hc:=λ w1 hw=>eH 4 (hw.tape cN fin hl2) (by omega) (by omega)))) (h:=λ x63 h63=>?_)));refine uj ?_;((refine cB (i:=9) (hq:=((by exact M1 (V:=λ q:SW=>.tuple #[.agg ⟨[.pointer (some ⟨q.tb,0,none⟩),.pointer (some ⟨q.bx,0,none⟩)]⟩,.bool true]) (hs:=[(x21.ba,dS x53.a),(x21.bm,xM x53.x),(x21.bw,iT x21.bm (x21.m:Int) x21.W.pt x21.W.ts.length x21.W.kt x21.W.pe (nK x21.W.ex).length x21.W.ke)]) (os:=dZ x53.a++iI x53.x) (hs':=λ q=>[(x21.ba,dS q.a),(x21.bm,xM q.x),(x21.bw,iT x21.bm (x21.m:Int) x21.W.pt x21.W.ts.length x21.W.kt x21.W.pe (nK x21.W.ex).length x21.W.ke)]) (Hc:=λ q=>[(q.tb,tO x21.ba q.c 0),(q.bx,xO q.k x21.bm q.x q.dn q.rs)]) (os':=λ q=>dZ q.a++iI q.x) (Oc:=λ q=>Pn q.x) (Fc:=λ q=>q.F) (A0:=aK x53.a.L++aK x53.x.L) (hA:=aW.of λ f hf=>(hf2 f hf).imp_right λ h=>.inr (.inl h)) (hc:=λ w1 hw=>rF (t:=x21.t) (other:=decide (((x63:Nat):Int)=0)) hL2.z hL2.a hL2.mm (wN hL2.sz (by decide)) hI2.proper hr2 hb2 k5 k6 hrt (λ f hf=>List.mem_append_left _ hf) (λ f hf=>List.mem_append_right _ hf) hw)))) (h:=λ x66=>?_);try (refine eF (λ h66=>?_))));refine aM ?_;refine gV ?_;refine gV ?_;refine yB ?_
     refine eC ((x16,x66)) ?_ (hw1:=λ w hw=>by exact hw.pick [2,0,1,3,4,5,6,7,8,10,12,13] [9,11] 14)
     ·exact h66.1
   ·refine fP (.one 0 [] (.one 1 [] (.one 2 [] (.one 3 [] (.one 4 [] (.one 5 [] (.one 6 [] (.one 7 [] (.one 8 [] (.two 9 [] (.one 10 [] (.one 11 [] (.one 12 [] (.one 13 [2] (.one 14 [] (.one 15 [] .nil)))))) 0 [] (.two 13 [2] (.one 9 [] (.one 10 [] (.one 11 [] (.one 12 [] (.one 14 [] (.one 15 [] .nil)))))) 0 [] .nil))))))))))) ?_
    refine gT ?_;refine bK ?_;refine gT ?_;refine cU ?_;refine cU ?_;refine cU ?_;refine eD ?_
    refine fF (E:=[9,13]) (by decide +kernel) ((.cons ?_ (.cons ?_ .nil)))
    ·(refine yI (i:=9) (hq:=((by exact M1 (V:=λ q:SW=>.tuple #[.agg ⟨[.pointer (some ⟨q.tb,0,none⟩),.pointer (some ⟨q.bx,0,none⟩)]⟩,.bool true]) (hs:=[(x21.ba,dS x53.a),(x21.bm,xM x53.x),(x21.bw,iT x21.bm (x21.m:Int) x21.W.pt x21.W.ts.length x21.W.kt x21.W.pe (nK x21.W.ex).length x21.W.ke)]) (os:=dZ x53.a++iI x53.x) (hs':=λ q=>[(x21.ba,dS q.a),(x21.bm,xM q.x),(x21.bw,iT x21.bm (x21.m:Int) x21.W.pt x21.W.ts.length x21.W.kt x21.W.pe (nK x21.W.ex).length x21.W.ke)]) (Hc:=λ q=>[(q.tb,tO x21.ba q.c 0),(q.bx,xO q.k x21.bm q.x q.dn q.rs)]) (os':=λ q=>dZ q.a++iI q.x) (Oc:=λ q=>Pn q.x) (Fc:=λ q=>q.F) (A0:=aK x53.a.L++aK x53.x.L) (hA:=aW.of λ f hf=>(hf2 f hf).imp_right λ h=>.inr (.inl h)) (hc:=λ w1 hw=>rF (t:=x21.t) (other:=true) hL2.z hL2.a hL2.mm (wN hL2.sz (by decide)) hI2.proper hr2 hb2 k5 k6 hrt (λ f hf=>List.mem_append_left _ hf) (λ f hf=>List.mem_append_right _ hf) hw)))) (h:=λ x66=>?_);try (refine eF (λ h66=>?_)))
     refine aM ?_;refine gV ?_;refine gV ?_;refine fO (h:=λ x16=>?_);refine yB ?_
     refine eC ((x16,x66)) ?_ (hw1:=λ w hw=>by exact hw.pick [0,1,2,3,4,5,6,7,8,10,12,13] [9,11] 14)
     ·exact h66.1
    ·refine eX (i:=13) (h:=λ x16=>?_)
     ((refine cB (i:=9) (hq:=((by exact M1 (V:=λ q:SW=>.tuple #[.agg ⟨[.pointer (some ⟨q.tb,0,none⟩),.pointer (some ⟨q.bx,0,none⟩)]⟩,.bool true]) (hs:=[(x21.ba,dS x53.a),(x21.bm,xM x53.x),(x21.bw,iT x21.bm (x21.m:Int) x21.W.pt x21.W.ts.length x21.W.kt x21.W.pe (nK x21.W.ex).length x21.W.ke)]) (os:=dZ x53.a++iI x53.x) (hs':=λ q=>[(x21.ba,dS q.a),(x21.bm,xM q.x),(x21.bw,iT x21.bm (x21.m:Int) x21.W.pt x21.W.ts.length x21.W.kt x21.W.pe (nK x21.W.ex).length x21.W.ke)]) (Hc:=λ q=>[(q.tb,tO x21.ba q.c 0),(q.bx,xO q.k x21.bm q.x q.dn q.rs)]) (os':=λ q=>dZ q.a++iI q.x) (Oc:=λ q=>Pn q.x) (Fc:=λ q=>q.F) (A0:=aK x53.a.L++aK x53.x.L) (hA:=aW.of λ f hf=>(hf2 f hf).imp_right λ h=>.inr (.inl h)) (hc:=λ w1 hw=>rF (t:=x21.t) (other:=true) hL2.z hL2.a hL2.mm (wN hL2.sz (by decide)) hI2.proper hr2 hb2 k5 k6 hrt (λ f hf=>List.mem_append_left _ hf) (λ f hf=>List.mem_append_right _ hf) hw)))) (h:=λ x66=>?_);try (refine eF (λ h66=>?_))));refine aM ?_;refine gV ?_;refine gV ?_;refine yB ?_
     refine eC ((x16,x66)) ?_ (hw1:=λ w hw=>by exact hw.pick [2,0,1,3,4,5,6,7,8,10,12,13] [9,11] 14)
     ·exact h66.1
  dsimp only[gP,List.map,List.cons_append,List.nil_append]
  obtain⟨R3,F3,hF3,hL3,hm3⟩:=Y7 hL2 hx
  have hf3:=hx.has hf2
  refine aT ?_;refine dV [(0,[]),(1,[]),(2,[]),(3,[]),(4,[]),(5,[]),(6,[]),(7,[]),(8,[]),(9,[]),(10,[]),(11,[]),(12,[]),(13,[]),(14,[]),(15,[]),(16,[]),(17,[12]),(18,[]),(19,[]),(20,[])] ?_;refine cB (i:=0) (hq:=(cV (hc:=λ w1 hw=>Ko w1))) (h:=λ x69=>?_);refine aM ?_
  (refine aM ?_)
  refine eD ?_;refine aM ?_
  (refine aM ?_)
  refine eD ?_;refine aM ?_
  (refine aM ?_)
  ((refine aM ?_));refine zi ?_;((refine bK ?_));((refine bK ?_));((refine bK ?_));((refine cB (i:=17) (hq:=((by exact I0 (λ _=>cO (cs:=Dy [(j.2.tb,j.2.bx),(x53.tb,x53.bx),(i.2.tb,i.2.bx)]) S7 Ji rfl rfl rfl rfl rfl)))) (h:=λ x86=>?_)));((((refine cB (i:=18) (hq:=(bF.pre (λ w h=>SF.aA1 [12,13,14,15,8,9,10,11,4,5,6,7,0,1,2,3] 16 (SF.pick [9,11,8,4,1,7,5,2] [0,3,6,10] 12 h)) (cT 0 0 (V:=λ _:LY=>.bool true) (hs:=rE x21.ba x21.bm ⟨i.2.a,i.2.x,[pxR j.2 (kT 3 x21.t) R1]++[pxS x53 R2]++[pxS i.2 R3],F3++(F2++(j.2.F++[]))⟩) (os:=tW ⟨i.2.a,i.2.x,[pxR j.2 (kT 3 x21.t) R1]++[pxS x53 R2]++[pxS i.2 R3],F3++(F2++(j.2.F++[]))⟩) (A0:=(some ⟨x86,0,none⟩,Dy [(j.2.tb,j.2.bx),(x53.tb,x53.bx),(i.2.tb,i.2.bx)])::(a3,aH l3)::(i.2.F++(x53.F++(aK j.2.N++(j.2.F++(aK x21.a.L++aK x21.W.z.L)))))) (hs':=λ y=>rE x21.ba x21.bm y.S) (os':=λ y=>tW y.S) (Fc:=λ y=>y.G) (F1:=λ y=>y.G) (hA:=aW.cons (.inr (.inr (.inl (List.mem_cons_self ..)))) (aW.cons (.inr (.inl (by simp))) (aW.of λ f hf=>.inr (.inr (.inl (List.mem_cons_of_mem _ hf)))))) (hF1:=λ y _ f hf=>.inr (List.mem_append_left _ hf)) (hc:=λ w1 hw=>vj (l:=l3) (a:=a3) (c:=c3) (ps:=[(j.2.tb,j.2.bx),(x53.tb,x53.bx),(i.2.tb,i.2.bx)]) rfl hL3 (by decide) (by decide) (by show 0<3;decide) (by show 3<=1000;decide) (by show 3<=3;decide) hl3 (λ f hf=>(hf3 f (List.mem_append_left _ hf)).imp_right λ h=>List.mem_cons_of_mem _ (List.mem_cons_of_mem _ h)) (λ f hf=>(hf3 f (List.mem_append_right _ hf)).imp_right λ h=>List.mem_cons_of_mem _ (List.mem_cons_of_mem _ h)) (λ f hf=>aBw hF3 hF2 hf) (List.mem_cons_self ..) (List.mem_cons_of_mem _ (List.mem_cons_self ..)) hw)))) (h:=λ x87=>?_);try (refine eF (λ h87=>?_))))));refine eD ?_;refine J7 ?_
  refine aR Tryz.results14 (λ w hw=>?_)
  exact⟨rfl,hw.done⟩
end Go.Proofs.YtbajmaoegmbfgaaGreat
