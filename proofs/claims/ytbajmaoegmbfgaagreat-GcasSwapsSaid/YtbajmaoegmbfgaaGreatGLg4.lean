/- The laws of gcas: a swap begins, on the arena and on the memory. -/
import Derived.Test.YtbajmaoegmbfgaaGreatGIxg

set_option linter.unusedSimpArgs false
set_option linter.unusedVariables false
namespace Go.Ct
section
open Go Go.RowKit
theorem kX.zero{n c:Nat}{v:Nv}(h:kX n c v):kX n c {v with main:=0,prev:=0,status:=0}:=⟨h.bI,h.exp,h.new,h.br,bH _,bH _,bH _,h.bm,h.hash⟩
end
end Go.Ct
namespace Go.Proofs.YtbajmaoegmbfgaaGreat
section
open Go Go.RowKit Go.Ct
set_option maxRecDepth 100000 in
set_option maxHeartbeats 4000000 in
theorem jt{ba bm bw:Nat}{a:AS}{z:XS}{t:gO}{v:rF}{D:List Nat}{A:Fr}{w:World}{rest:List Value}(hz:z.Ok)(ha:a.Ok)(hm:a.mm=z.mm)(hsz:Sz z 90000000000)(hpi:v.p.i<=z.L.length)(h1:1<=v.p.m)(h2:v.p.m<=z.L.length)(hu64:(aB z.L v.p.m).xs.length<=64)(ht:t.root<=9223372036854775807)(hA1:∀f∈aM a.L,f∈A)(hA2:∀f∈aM z.L,f∈A)
  (hs:SF w D [(ba,fT a),(bm,xM z),(bw,.cells ⟨.pointer (some ⟨bm,0,none⟩)::rest⟩ 35 (0,0))] A [] (gD a++nB z) w) :
  Calls Tryz.prog 42 #[.pointer (some ⟨bw,0,none⟩),.pointer (some ⟨ba,0,none⟩),.agg ⟨[.int .i64 t.root,.bool t.ro]⟩,.agg ⟨v.cells⟩] w λ e w'=>∃q:SW,e=.returned (.tuple #[.agg ⟨[.pointer (some ⟨q.tb,0,none⟩),.pointer (some ⟨q.bx,0,none⟩)]⟩,.bool true])/\m8 ba a z q /\
   SF w D ([(ba,fT q.a),(bm,xM q.x),(bw,.cells ⟨.pointer (some ⟨bm,0,none⟩)::rest⟩ 35 (0,0))]++[(q.tb,tO ba q.c 0),(q.bx,xO q.k bm q.x q.dn q.rs)]) [] q.F ((gD q.a++nB q.x)++exL q.x) w':=by
 obtain⟨s1,s2,s3⟩:=hsz
 obtain⟨u,hu⟩:∃u,u=aB z.L v.p.m:=⟨_,rfl⟩
 have hum:u∈z.L:=by
  rw[hu];unfold aB;rw[if_pos ⟨h1,h2⟩];exact eV (by omega)
 have hfit:=hz.fit u hum
 have hub:=(hz.nd u hum).zero
 have huy:=hz.ys u hum
 have ec:a.cs=z.cs:=congrArg Mm.cs hm
 have el:a.mm.nodes.length=z.L.length:=by rw[hm];show(z.L.map aP.c).length=_;rw[List.length_map]
 have hsm:a.mm.Small:=⟨by omega,by show a.cs.length<=_;rw[ec];omega⟩
 have hux:u.xs.length<=274877906944:=by rw[hu];omega
 have haA:∀x:AX,(a.al u.nd u.xs u.ys v.p.m x).Ok:=λ x=>ha.al x hux (by omega) (by show kX a.mm.nodes.length a.cs.length _;rw[el,ec];exact hub) (by omega)
 have hzA:∀x:AX,(z.al u.nd u.xs u.ys v.p.m x).Ok:=λ x=>hz.al x hux huy (by omega) (by omega) hub (by omega)
 have hmA:∀x y:AX,(a.al u.nd u.xs u.ys v.p.m x).mm=(z.al u.nd u.xs u.ys v.p.m y).mm:=λ x y=>by rw[Bc,s8,hm]
 have hlZ:∀x:AX,(z.al u.nd u.xs u.ys v.p.m x).L.length=z.L.length+1:=λ x=>by
  show(z.L++[_]).length=_
  simp
 have hlA:∀x:AX,(a.al u.nd u.xs u.ys v.p.m x).mm.nodes.length=z.L.length+1:=λ x=>by
  rw[hmA x x]
  show((z.L++[_]).map aP.c).length=_
  simp
 have hcZ:∀x:AX,(z.al u.nd u.xs u.ys v.p.m x).cs.length<=z.cs.length+1:=λ x=>(iG (k:=u.nd.kind) (cs:=z.cs) (init:=v.p.m)).2
 have hcZ':∀x:AX,z.cs.length<=(z.al u.nd u.xs u.ys v.p.m x).cs.length:=λ x=>(iG (k:=u.nd.kind) (cs:=z.cs) (init:=v.p.m)).1
 have hsA:∀x:AX,(a.al u.nd u.xs u.ys v.p.m x).mm.Small:=λ x=>by
  refine⟨by rw[hlA];omega,?_⟩
  rw[hmA x x]
  have:=hcZ x
  show(z.al u.nd u.xs u.ys v.p.m x).cs.length<=_
  omega
 have hk1:∀x:AX,∀y:Int,y<=z.L.length+1->y<=((z.al u.nd u.xs u.ys v.p.m x).L.length:Int):=λ x y h=>by rw[hlZ x];omega
 have hkA:∀x:AX,∀y:Int,y<=z.L.length+1->y<=((a.al u.nd u.xs u.ys v.p.m x).mm.nodes.length:Int):=λ x y h=>by rw[hlA x];omega
 have hbr:(u.nd.brA,aG u.xs)∈aM z.L:=oC.2 ⟨u,hum,by simp[aP.fr]⟩
 have hpr:(u.nd.prA,cR u.ys)∈aM z.L:=oC.2 ⟨u,hum,by simp[aP.fr]⟩
 refine enter Tryz.func42 Tryz.ntmps42 rfl rfl (xl hs) ?_
 simp only[bX]
 refine J0 ?_;refine bK (λ x6=>?_);refine bK (λ x7=>?_);refine aJ (λ x8=>?_);refine hZ ?_
 refine eF [10,13,14,15,16,17,18,19] (λ j:Nat=>[(10,.pointer (some ⟨j,0,none⟩))]) (λ _=>True) (λ j=>[(j,.cells ⟨u.nd.cells⟩ 47 (0,0)),(x8,.cells ⟨[.pointer none,.pointer none]⟩ 76 (0,0)),(x7,aCe v),(x6,.cells ⟨[.int .i64 t.root,.bool t.ro]⟩ 29 (0,0)),(ba,fT a),(bm,xM z),(bw,.cells ⟨.pointer (some ⟨bm,0,none⟩)::rest⟩ 35 (0,0))]) (λ _=>[]) (λ _=>gD a++nB z) (by decide) (λ _=>by exact rfl) ?_ (λ j f hx=>?_)
 ·refine fW (.one 0 [] (.one 1 [] (.one 2 [] (.one 3 [] (.one 4 [] (.one 5 [] (.two 6 [] (.one 7 [3,5] (.one 8 [] .nil)) 0 [] (.two 7 [3,5] (.one 6 [] (.one 8 [] .nil)) 0 [] .nil)))))))) ?_
  refine T6 ?_;refine kJ ?_
  refine gK (E:=[6,7]) (by decide +kernel) ((.cons ?_ (.cons ?_ .nil)))
  ·refine kZ (i:=6) (hq:=(cM (V:=λ _:Unit=>u.nd.v) (hs:=[(bm,xM z)]) (os:=nB z) (hs':=λ _=>[(bm,xM z)]) (os':=λ _=>nB z) (Fc:=λ _=>[]) (A0:=[]) (hc:=λ w1 hw=>by rw[hu];exact Lt hw v.p.m (by omega) (by omega)))) (h:=λ x19 h19=>?_)
   refine gI (h:=λ x10=>?_);refine yE ?_
   refine eW (x10) ?_ (hw1:=λ w hw=>hw.back)
   ·trivial
  ·refine gG (i:=7) (h:=λ x10=>?_)
   refine aZ (i:=6) (hq:=(cM (V:=λ _:Unit=>u.nd.v) (hs:=[(bm,xM z)]) (os:=nB z) (hs':=λ _=>[(bm,xM z)]) (os':=λ _=>nB z) (Fc:=λ _=>[]) (A0:=[]) (hc:=λ w1 hw=>by rw[hu];exact Lt hw v.p.m (by omega) (by omega)))) (h:=λ x19 h19=>?_);refine yE ?_
   refine eW (x10) ?_ (hw1:=λ w hw=>hw.back)
   ·trivial
 dsimp only[gX,List.map,List.cons_append,List.nil_append]
 refine aV ?_;refine gF [0,1,2,3,4,5,6,7,8] ?_;refine T6 ?_;refine bG ?_;refine kJ ?_;refine aZ (i:=7) (hq:=(cM (V:=λ _:AX=>.int .i64 ((z.L.length+1:Nat):Int)) (hs:=[(bm,xM z)]) (os:=nB z) (A0:=[(u.nd.brA,aG u.xs),(u.nd.prA,cR u.ys)]) (hA:=aY.of λ f hf=>.inr (.inl (hA2 f (by simp only[List.mem_cons,List.not_mem_nil,or_false] at hf;rcases hf with rfl|rfl;exact hbr;exact hpr)))) (hs':=λ x=>[(bm,xM (z.al u.nd u.xs u.ys v.p.m x))]) (os':=λ x=>nB (z.al u.nd u.xs u.ys v.p.m x)) (Fc:=λ x=>(kM u.nd u.xs u.ys z.cs.length x).fr) (hc:=λ w1 hw=>Aj (n:=u.nd) (xs:=u.xs) (ys:=u.ys) v.p.m hw hfit.brN hfit.prN hux (by omega) (by omega) (by omega)))) (h:=λ x27 h27=>?_);refine J7 ?_;refine jV ?_;refine bN ?_;refine J3 ?_;refine aD (cM (V:=λ _:AX=>.int .i64 ((z.L.length+1:Nat):Int)) (hs:=[(ba,fT a)]) (os:=gD a) (A0:=[(u.nd.brA,aG u.xs),(u.nd.prA,cR u.ys)]) (hA:=aY.of λ f hf=>.inr (.inl (hA2 f (by simp only[List.mem_cons,List.not_mem_nil,or_false] at hf;rcases hf with rfl|rfl;exact hbr;exact hpr)))) (hs':=λ x=>[(ba,fT (a.al u.nd u.xs u.ys v.p.m x))]) (os':=λ x=>gD (a.al u.nd u.xs u.ys v.p.m x)) (Fc:=λ x=>(kM u.nd u.xs u.ys a.cs.length x).fr) (hc:=λ w1 hw=>by rw[<- el];exact G5 (n:=u.nd) (xs:=u.xs) (ys:=u.ys) ha hsm v.p.m hfit.brN hfit.prN hux (by omega) (λ f hf=>hf) hw)) (λ x32 h32=>?_);refine aA ?_;refine lO ?_;refine aH ?_
 refine bB (λ c34=>?_) (λ c34=>?_)
 ·try (contradiction)
 ·try (first|contradiction|(exfalso;omega))
  refine jY ?_;refine gF [0,1,2,3,4,5,6,7,8,9,10,11,12] ?_;refine T6 ?_;refine bG ?_;refine kJ ?_;refine kJ ?_;refine aN ?_;refine gH ?_;refine aZ (i:=11) (hq:=(u6 (V:=λ q:Nat×XS×List aP×Bool×Rs=>.pointer (some ⟨q.1,0,none⟩)) (hs:=[(bm,xM (z.al u.nd u.xs u.ys v.p.m x27))]) (os:=nB (z.al u.nd u.xs u.ys v.p.m x27)) (hs':=λ q=>[(bm,xM q.2.1)]) (Hc:=λ q=>[(q.1,xO (kS 2 t v.p.i v.p.m ((z.L.length+1:Nat):Int)) bm q.2.1 q.2.2.2.1 q.2.2.2.2)]) (os':=λ q=>nB q.2.1) (Oc:=λ q=>exL q.2.1) (Fc:=λ q=>aM q.2.2.1) (A0:=aM (z.al u.nd u.xs u.ys v.p.m x27).L) (hA:=aY.of λ f hf=>.inr ((aAw hf).elim (λ h=>.inr (.inl (List.mem_append_right _ (List.mem_append_left _ h)))) λ h=>.inl (hA2 f h))) (hc:=λ w1 hw=>N9 (k:=kS 2 t v.p.i v.p.m ((z.L.length+1:Nat):Int)) (m:=0) (L:=(z.al u.nd u.xs u.ys v.p.m x27).L) (cs:=(z.al u.nd u.xs u.ys v.p.m x27).cs) (gen:=(z.al u.nd u.xs u.ys v.p.m x27).gen) (acc:=(z.al u.nd u.xs u.ys v.p.m x27).acc) ⟨by have:=hlZ x27;omega,by have:=hcZ x27;omega,by show z.gen<=_;omega⟩ (ux (by decide) (by decide)) (by decide) rfl ht (hk1 x27 _ (by show v.p.i<=_;omega)) (hk1 x27 _ (by show v.p.m<=_;omega)) (hk1 x27 _ (by show((z.L.length+1:Nat):Int)<=_;omega)) (λ f hf=>hf) (Wz (hzA x27)) hw))) (h:=λ x47 h47=>?_);refine J7 ?_;refine J2 ?_;refine aC (uh rf (λ w=>Kg _ w)) rfl ?_;refine bN ?_;refine J3 ?_;refine J3 ?_;refine aA ?_;refine aD (u6 (V:=λ x:Nat×Cd×Fr×AS=>.pointer (some ⟨x.1,0,none⟩)) (hs:=[(ba,fT (a.al u.nd u.xs u.ys v.p.m x32))]) (os:=gD (a.al u.nd u.xs u.ys v.p.m x32)) (hs':=λ x=>[(ba,fT x.2.2.2)]) (Hc:=λ x=>[(x.1,tO ba x.2.1 0)]) (os':=λ x=>gD x.2.2.2) (Oc:=λ _=>[]) (Fc:=λ x=>x.2.2.1) (A0:=aM (a.al u.nd u.xs u.ys v.p.m x32).L) (hA:=aY.of λ f hf=>((AS.jO.al a u.nd u.xs u.ys v.p.m x32).fam f hf).imp_right λ h=>h.elim (λ h=>.inl (hA1 f h)) λ h=>.inr (.inl (List.mem_append_right _ (List.mem_append_left _ h)))) (hc:=λ w1 hw=>Up (Qj (t:=t) (i:=v.p.i) (bI:=v.p.m) (nw:=((z.L.length+1:Nat):Int)) (B:=[]) (n:=0) (m:=64) ht (hkA x32 _ (by omega)) (hkA x32 _ (by omega)) (lX (kS 2 t v.p.i v.p.m ((z.L.length+1:Nat):Int)) 0 (by decide)) (haA x32) (hsA x32) (λ f hf=>hf) (λ x hx=>nomatch hx) hw))) (λ x56 h56=>?_);refine aA ?_;refine bJ ?_;refine xA ?_
  refine bC Tryz.results42 (λ w hw=>?_)
  have hext:=h47.ext
  refine⟨⟨a.al u.nd u.xs u.ys v.p.m x32,z.al u.nd u.xs u.ys v.p.m x27,kS 2 t v.p.i v.p.m ((z.L.length+1:Nat):Int),x56.1,x56.2.1,x56.2.2.1++(aM x47.2.2.1++((kM u.nd u.xs u.ys a.cs.length x32).fr++(kM u.nd u.xs u.ys z.cs.length x27).fr)),x56.2.2.2,x47.1,x47.2.1,x47.2.2.1,x47.2.2.2.1,x47.2.2.2.2⟩,rfl,⟨hzA x27,haA x32,hmA x32 x27,⟨_,rfl⟩,hcZ' x27,λ B hB=>⟨Nat.le_trans (Nat.le_of_eq (hlZ x27)) (Nat.succ_le_succ hB.1),Nat.le_trans (hcZ x27) (Nat.succ_le_succ hB.2.1),by have:=hB.2.2;show z.gen<=((B+1:Nat):Int);omega⟩,λ f hf=>?_,h47,⟨x56.2.2.1,λ f hf=>List.mem_append_left _ hf,h56.1⟩,λ f hf=>?_,ux (by decide) (by decide),rfl,ht,hk1 x27 _ (by show v.p.i<=_;omega),hk1 x27 _ (by show v.p.m<=_;omega),hk1 x27 _ (by show((z.L.length+1:Nat):Int)<=_;omega)⟩,?_⟩
  ·exact((AS.jO.al a u.nd u.xs u.ys v.p.m x32).fam f hf).imp_right λ h=>h.imp_right λ h=>List.mem_append_right _ (List.mem_append_right _ (List.mem_append_left _ h))
  ·have hf':f∈aM x47.2.1.L:=hf
   rw[hext,dB] at hf'
   rcases List.mem_append.1 hf' with h|h
   ·exact .inr ((aAw h).elim (λ h=>.inr (List.mem_append_right _ (List.mem_append_right _ (List.mem_append_right _ h)))) .inl)
   ·exact .inr (.inr (List.mem_append_right _ (List.mem_append_left _ h)))
  ·exact((hw.pick [6,7,8,0,1] [2,3,4,5] 9).aBj [4,5,6,7,0,1,2,3] 8).mq
end

/- GcasSwaps: the walk. -/
section
open Go Go.RowKit Go.Ct
set_option maxRecDepth 100000 in
set_option maxHeartbeats 2000000 in
theorem Qq{l l2:List Int}{a a2:Option Addr}{c c2:Nat}{w:World}(h1:Go.Ct.Cl w a (aG l))(hl:l.length<=17592186043904)(h2:Go.Ct.Cl w a2 (aG l2))(hl2:l2.length<=17592186043904) :
  Calls Tryz.prog 6 #[.slice a l.length c,.slice a2 l2.length c2] w λ e w'=>e=.returned (.bool true)/\St w [] [] w':=by
 refine enter Tryz.func6 Tryz.ntmps6 rfl rfl (SF.s2 h1 h2) ?_
 simp only[bX]
 refine cO ?_;refine iU ?_;refine aD (P0 (V:=λ q:TQ×rF=>.tuple #[.pointer (some ⟨q.1.bw,0,none⟩),.pointer (some ⟨q.1.ba,0,none⟩),.agg ⟨q.2.cells⟩,.agg ⟨[.int .i64 q.1.t.root,.bool q.1.t.ro]⟩,.bool true]) (Hc:=λ q=>gqH q) (Fc:=λ q=>aM q.1.a.L++aM q.1.W.z.L) (Oc:=λ q=>tqO q.1) (hc:=λ w1 hw=>Pt (hw.cl (.bI .head)) hl (hw.cl (.bI (.tail .head))) hl2)) (λ x15 h15=>?_)
 have hW:=h15.W
 have hrt:=h15.root
 have hpi:=h15.pl.in
 have hpm:=h15.pl.inm
 obtain⟨s1,s2,s3⟩:=hW.sz
 have hu64:=E1 (oP hW) (Va hW.z) x15.2.p.m
 refine E6 ?_;refine J54 ?_;refine wW ?_;refine aJ (λ x7=>?_);refine aJ (λ x8=>?_);refine eG (λ _=>?_);refine eG (λ _=>?_);refine gW (λ _=>?_);refine gW (λ _=>?_);refine hZ ?_;refine J2 ?_;refine Ci ?_
 (refine aF ?_;refine aE ?_)
 ((refine aF ?_;refine bN ?_));refine cA ?_;refine aH ?_
 refine bB (λ c26=>?_) (λ c26=>?_)
 ·try (first|contradiction|(exfalso;omega))
  refine iU ?_
  (refine aF ?_;refine aT (cV (hc:=λ w1 hw=>Jg w1)) (λ x29=>?_))
  refine cA ?_;refine J1 ?_
  refine aS Tryz.results6 (λ w hw=>?_)
  exact⟨rfl,hw.done⟩
 ·try (first|contradiction|(exfalso;omega))
  refine Af ?_;refine bN ?_;refine bN ?_;refine aD (u6 (V:=λ q:SW=>.tuple #[.agg ⟨[.pointer (some ⟨q.tb,0,none⟩),.pointer (some ⟨q.bx,0,none⟩)]⟩,.bool true]) (hs:=[(x15.1.ba,fT x15.1.a),(x15.1.bm,xM x15.1.W.z.a0),(x15.1.bw,lE x15.1.bm (x15.1.m:Int) x15.1.W.pt x15.1.W.ts.length x15.1.W.kt x15.1.W.pe (qG x15.1.W.ex).length x15.1.W.ke)]) (os:=gD x15.1.a++nB x15.1.W.z) (hs':=λ q=>[(x15.1.ba,fT q.a),(x15.1.bm,xM q.x),(x15.1.bw,lE x15.1.bm (x15.1.m:Int) x15.1.W.pt x15.1.W.ts.length x15.1.W.kt x15.1.W.pe (qG x15.1.W.ex).length x15.1.W.ke)]) (Hc:=λ q=>[(q.tb,tO x15.1.ba q.c 0),(q.bx,xO q.k x15.1.bm q.x q.dn q.rs)]) (os':=λ q=>gD q.a++nB q.x) (Oc:=λ q=>exL q.x) (Fc:=λ q=>q.F) (A0:=aM x15.1.a.L++aM x15.1.W.z.L) (hA:=aY.of λ f hf=>.inr (.inr (.inl (by simpa using hf)))) (hc:=λ w1 hw=>jt (z:=x15.1.W.z.a0) (t:=x15.1.t) (v:=x15.2) (vf hW.z) h15.a h15.mm ⟨by show x15.1.W.z.L.length<=_;omega,by show x15.1.W.z.cs.length<=_;omega,by show x15.1.W.z.gen<=_;omega⟩ hpi.2 hpm.1 hpm.2 hu64 hrt (λ f hf=>List.mem_append_left _ hf) (λ f hf=>List.mem_append_right _ hf) hw)) (λ x36 h36=>?_)
  obtain⟨R,F0,hF0,hL,_⟩:=z4 h15.lok h36
  have hfa:=h36.ga
  have hfz:=h36.fz
  refine E6 ?_;refine aJ (λ x10=>?_);refine gW (λ _=>?_);refine hZ ?_;refine dI [(0,[]),(1,[]),(2,[]),(3,[]),(4,[]),(5,[]),(6,[]),(7,[]),(8,[]),(9,[]),(10,[]),(11,[9]),(12,[]),(13,[]),(14,[])] ?_;refine cH (i:=0) (hq:=(cV (hc:=λ w1 hw=>Jg w1))) (h:=λ x39=>?_);refine aN ?_
  (refine aN ?_)
  refine eK ?_;refine aN ?_
  (refine aN ?_)
  ((refine aN ?_));refine vt ?_;((refine bG ?_));((refine cH (i:=11) (hq:=((by exact It (λ _=>cI (cs:=Dx [(x36.tb,x36.bx)]) R8 I5 rfl rfl rfl rfl rfl)))) (h:=λ x50=>?_)));((((refine cH (i:=12) (hq:=(bE.pre (λ w h=>xo (ba:=x15.1.ba) (bm:=x15.1.bm) (a:=x36.a) (p:=⟨⟨x36.bx,x36.k,x36.x,x36.dn,x36.rs,R⟩,0,x36.tb,x36.c,0⟩) (B:=F0++[]) h (by repeat (first|exact List.Sublist.refl _|apply List.Sublist.cons_cons|apply List.Sublist.cons)) (by repeat (exact List.Sublist.refl _))) (cT 0 0 (V:=λ _:LY=>.bool true) (hs:=qY x15.1.ba x15.1.bm ⟨x36.a,x36.x,[⟨⟨x36.bx,x36.k,x36.x,x36.dn,x36.rs,R⟩,0,x36.tb,x36.c,0⟩],F0++[]⟩) (os:=tD ⟨x36.a,x36.x,[⟨⟨x36.bx,x36.k,x36.x,x36.dn,x36.rs,R⟩,0,x36.tb,x36.c,0⟩],F0++[]⟩) (A0:=(some ⟨x50,0,none⟩,Dx [(x36.tb,x36.bx)])::(none,aG [])::(x36.F++(aM x15.1.a.L++aM x15.1.W.z.L))) (hs':=λ y=>qY x15.1.ba x15.1.bm y.S) (os':=λ y=>tD y.S) (Fc:=λ y=>y.G) (F1:=λ y=>y.G) (hA:=aY.of λ f hf=>by simp only[List.mem_cons,List.mem_append] at hf;rcases hf with h|h|h|h|h;exact .inr (.inr (.inl (by simp[h])));exact .inl (by rw[h];rfl);exact .inr (.inr (.inl (by simp[h])));exact .inr (.inr (.inl (by simp[h])));exact .inr (.inr (.inl (by simp[h])))) (hF1:=λ y _ f hf=>.inr (List.mem_append_left _ hf)) (hc:=λ w1 hw=>ye (l:=[]) (a:=none) (c:=0) (ps:=[(x36.tb,x36.bx)]) rfl hL (by decide) (by decide) (by show 0<1;decide) (by show 1<=1000;decide) (by show 1<=1;decide) (by show 0<=_;decide) (λ f hf=>(hfa f hf).imp_right λ h=>by simp only[List.mem_cons,List.mem_append];exact h.elim (λ h=>.inr (.inr (.inr (.inl h)))) λ h=>.inr (.inr (.inl h))) (λ f hf=>(hfz f hf).imp_right λ h=>by simp only[List.mem_cons,List.mem_append];exact h.elim (λ h=>.inr (.inr (.inr (.inr h)))) λ h=>.inr (.inr (.inl h))) (λ f hf=>by simp only[List.mem_cons,List.mem_append];exact .inr (.inr (.inl (hF0 f (by simpa using hf))))) (List.mem_cons_self ..) (List.mem_cons_of_mem _ (List.mem_cons_self ..)) hw)))) (h:=λ x51=>?_);try (refine dY (λ h51=>?_))))));refine eK ?_;refine J7 ?_
  refine aS Tryz.results6 (λ w hw=>?_)
  exact⟨rfl,hw.done⟩
end

end Go.Proofs.YtbajmaoegmbfgaaGreat
