/- The laws of gcas: a swap begins, on the arena and on the memory. -/
import Derived.Test.YtbajmaoegmbfgaaGreatGIxg

set_option linter.unusedSimpArgs false
set_option linter.unusedVariables false
namespace Go.Ct
section
open Go Go.RowKit
theorem lD.zero{n c:Nat}{v:Nv}(h:lD n c v):lD n c {v with main:=0,prev:=0,status:=0}:=⟨h.bK,h.exp,h.new,h.br,bH _,bH _,bH _,h.bm,h.hash⟩
end
end Go.Ct
namespace Go.Proofs.YtbajmaoegmbfgaaGreat
section
open Go Go.RowKit Go.Ct
set_option maxRecDepth 100000 in
set_option maxHeartbeats 4000000 in
theorem Ra{ba bm bw:Nat}{a:AS}{z:XS}{t:gK}{v:qX}{D:List Nat}{A:Fr}{w:World}{rest:List Value}(hz:z.Ok)(ha:a.Ok)(hm:a.mm=z.mm)(hsz:Sz z 90000000000)(hpi:v.p.i<=z.L.length)(h1:1<=v.p.m)(h2:v.p.m<=z.L.length)(hu64:(aB z.L v.p.m).xs.length<=64)(ht:t.root<=9223372036854775807)(hA1:∀f∈aK a.L,f∈A)(hA2:∀f∈aK z.L,f∈A)
  (hs:SF w D [(ba,fH a),(bm,xM z),(bw,.cells ⟨.pointer (some ⟨bm,0,none⟩)::rest⟩ 35 (0,0))] A [] (fM a++jZ z) w) :
  Calls Tryz.prog 42 #[.pointer (some ⟨bw,0,none⟩),.pointer (some ⟨ba,0,none⟩),.agg ⟨[.int .i64 t.root,.bool t.ro]⟩,.agg ⟨v.cells⟩] w λ e w'=>∃q:SW,e=.returned (.tuple #[.agg ⟨[.pointer (some ⟨q.tb,0,none⟩),.pointer (some ⟨q.bx,0,none⟩)]⟩,.bool true])/\Qp ba a z q /\
   SF w D ([(ba,fH q.a),(bm,xM q.x),(bw,.cells ⟨.pointer (some ⟨bm,0,none⟩)::rest⟩ 35 (0,0))]++[(q.tb,tO ba q.c 0),(q.bx,xO q.k bm q.x q.dn q.rs)]) [] q.F ((fM q.a++jZ q.x)++uj q.x) w':=by
 obtain⟨s1,s2,s3⟩:=hsz
 obtain⟨u,hu⟩:∃u,u=aB z.L v.p.m:=⟨_,rfl⟩
 have hum:u∈z.L:=by
  rw[hu];unfold aB;rw[if_pos ⟨h1,h2⟩];exact eV (by omega)
 have hfit:=hz.fit u hum
 have hub:=(hz.nd u hum).zero
 have huy:=hz.ys u hum
 have ec:a.cs=z.cs:=congrArg Mm.cs hm
 have el:a.mm.nodes.length=z.L.length:=by rw[hm];show(z.L.map aP.c).length=_;rw[List.length_map]
 have hsm:a.mm.Small:=⟨by omega,by show a.cs.length<=_;rw[ec];omega⟩
 have hux:u.xs.length<=274877906944:=by rw[hu];omega
 have haA:∀x:AX,(a.al u.nd u.xs u.ys v.p.m x).Ok:=λ x=>ha.al x hux (by omega) (by show lD a.mm.nodes.length a.cs.length _;rw[el,ec];exact hub) (by omega)
 have hzA:∀x:AX,(z.al u.nd u.xs u.ys v.p.m x).Ok:=λ x=>hz.al x hux huy (by omega) (by omega) hub (by omega)
 have hmA:∀x y:AX,(a.al u.nd u.xs u.ys v.p.m x).mm=(z.al u.nd u.xs u.ys v.p.m y).mm:=λ x y=>by rw[Bg,oh,hm]
 have hlZ:∀x:AX,(z.al u.nd u.xs u.ys v.p.m x).L.length=z.L.length+1:=λ x=>by
  show(z.L++[_]).length=_
  simp
 have hlA:∀x:AX,(a.al u.nd u.xs u.ys v.p.m x).mm.nodes.length=z.L.length+1:=λ x=>by
  rw[hmA x x]
  show((z.L++[_]).map aP.c).length=_
  simp
 have hcZ:∀x:AX,(z.al u.nd u.xs u.ys v.p.m x).cs.length<=z.cs.length+1:=λ x=>(iF (k:=u.nd.kind) (cs:=z.cs) (init:=v.p.m)).2
 have hcZ':∀x:AX,z.cs.length<=(z.al u.nd u.xs u.ys v.p.m x).cs.length:=λ x=>(iF (k:=u.nd.kind) (cs:=z.cs) (init:=v.p.m)).1
 have hsA:∀x:AX,(a.al u.nd u.xs u.ys v.p.m x).mm.Small:=λ x=>by
  refine⟨by rw[hlA];omega,?_⟩
  rw[hmA x x]
  have:=hcZ x
  show(z.al u.nd u.xs u.ys v.p.m x).cs.length<=_
  omega
 have hk1:∀x:AX,∀y:Int,y<=z.L.length+1->y<=((z.al u.nd u.xs u.ys v.p.m x).L.length:Int):=λ x y h=>by rw[hlZ x];omega
 have hkA:∀x:AX,∀y:Int,y<=z.L.length+1->y<=((a.al u.nd u.xs u.ys v.p.m x).mm.nodes.length:Int):=λ x y h=>by rw[hlA x];omega
 have hbr:(u.nd.brA,aG u.xs)∈aK z.L:=oD.2 ⟨u,hum,by simp[aP.fr]⟩
 have hpr:(u.nd.prA,cU u.ys)∈aK z.L:=oD.2 ⟨u,hum,by simp[aP.fr]⟩
 refine enter Tryz.func42 Tryz.ntmps42 rfl rfl (yo hs) ?_
 simp only[bX]
 refine J0 ?_;refine bI (λ x6=>?_);refine bI (λ x7=>?_);refine aJ (λ x8=>?_);refine iB ?_
 refine eA [10,13,14,15,16,17,18,19] (λ j:Nat=>[(10,.pointer (some ⟨j,0,none⟩))]) (λ _=>True) (λ j=>[(j,.cells ⟨u.nd.cells⟩ 47 (0,0)),(x8,.cells ⟨[.pointer none,.pointer none]⟩ 76 (0,0)),(x7,aB1 v),(x6,.cells ⟨[.int .i64 t.root,.bool t.ro]⟩ 29 (0,0)),(ba,fH a),(bm,xM z),(bw,.cells ⟨.pointer (some ⟨bm,0,none⟩)::rest⟩ 35 (0,0))]) (λ _=>[]) (λ _=>fM a++jZ z) (by decide) (λ _=>by exact rfl) ?_ (λ j f hx=>?_)
 ·refine fP (.one 0 [] (.one 1 [] (.one 2 [] (.one 3 [] (.one 4 [] (.one 5 [] (.two 6 [] (.one 7 [3,5] (.one 8 [] .nil)) 0 [] (.two 7 [3,5] (.one 6 [] (.one 8 [] .nil)) 0 [] .nil)))))))) ?_
  refine R7 ?_;refine kG ?_
  refine fV (E:=[6,7]) (by decide +kernel) ((.cons ?_ (.cons ?_ .nil)))
  ·refine jS (i:=6) (hq:=(cM (V:=λ _:Unit=>u.nd.v) (hs:=[(bm,xM z)]) (os:=jZ z) (hs':=λ _=>[(bm,xM z)]) (os':=λ _=>jZ z) (Fc:=λ _=>[]) (A0:=[]) (hc:=λ w1 hw=>by rw[hu];exact Mh hw v.p.m (by omega) (by omega)))) (h:=λ x19 h19=>?_)
   refine gA (h:=λ x10=>?_);refine vZ ?_
   refine eQ (x10) ?_ (hw1:=λ w hw=>hw.back)
   ·trivial
  ·refine fO (i:=7) (h:=λ x10=>?_)
   refine aZ (i:=6) (hq:=(cM (V:=λ _:Unit=>u.nd.v) (hs:=[(bm,xM z)]) (os:=jZ z) (hs':=λ _=>[(bm,xM z)]) (os':=λ _=>jZ z) (Fc:=λ _=>[]) (A0:=[]) (hc:=λ w1 hw=>by rw[hu];exact Mh hw v.p.m (by omega) (by omega)))) (h:=λ x19 h19=>?_);refine vZ ?_
   refine eQ (x10) ?_ (hw1:=λ w hw=>hw.back)
   ·trivial
 dsimp only[gU,List.map,List.cons_append,List.nil_append]
 refine aV ?_;refine gJ [0,1,2,3,4,5,6,7,8] ?_;refine R7 ?_;refine bG ?_;refine kG ?_;refine aZ (i:=7) (hq:=(cM (V:=λ _:AX=>.int .i64 ((z.L.length+1:Nat):Int)) (hs:=[(bm,xM z)]) (os:=jZ z) (A0:=[(u.nd.brA,aG u.xs),(u.nd.prA,cU u.ys)]) (hA:=aW.of λ f hf=>.inr (.inl (hA2 f (by simp only[List.mem_cons,List.not_mem_nil,or_false] at hf;rcases hf with rfl|rfl;exact hbr;exact hpr)))) (hs':=λ x=>[(bm,xM (z.al u.nd u.xs u.ys v.p.m x))]) (os':=λ x=>jZ (z.al u.nd u.xs u.ys v.p.m x)) (Fc:=λ x=>(kV u.nd u.xs u.ys z.cs.length x).fr) (hc:=λ w1 hw=>A3 (n:=u.nd) (xs:=u.xs) (ys:=u.ys) v.p.m hw hfit.brN hfit.prN hux (by omega) (by omega) (by omega)))) (h:=λ x27 h27=>?_);refine J7 ?_;refine kB ?_;refine bL ?_;refine J3 ?_;refine aD (cM (V:=λ _:AX=>.int .i64 ((z.L.length+1:Nat):Int)) (hs:=[(ba,fH a)]) (os:=fM a) (A0:=[(u.nd.brA,aG u.xs),(u.nd.prA,cU u.ys)]) (hA:=aW.of λ f hf=>.inr (.inl (hA2 f (by simp only[List.mem_cons,List.not_mem_nil,or_false] at hf;rcases hf with rfl|rfl;exact hbr;exact hpr)))) (hs':=λ x=>[(ba,fH (a.al u.nd u.xs u.ys v.p.m x))]) (os':=λ x=>fM (a.al u.nd u.xs u.ys v.p.m x)) (Fc:=λ x=>(kV u.nd u.xs u.ys a.cs.length x).fr) (hc:=λ w1 hw=>by rw[<- el];exact Gv (n:=u.nd) (xs:=u.xs) (ys:=u.ys) ha hsm v.p.m hfit.brN hfit.prN hux (by omega) (λ f hf=>hf) hw)) (λ x32 h32=>?_);refine aA ?_;refine lS ?_;refine aH ?_
 refine bB (λ c34=>?_) (λ c34=>?_)
 ·try (contradiction)
 ·try (first|contradiction|(exfalso;omega))
  refine jV ?_;refine gJ [0,1,2,3,4,5,6,7,8,9,10,11,12] ?_;refine R7 ?_;refine bG ?_;refine kG ?_;refine kG ?_;refine aN ?_;refine fA ?_;refine aZ (i:=11) (hq:=(Sh (V:=λ q:Nat×XS×List aP×Bool×Rs=>.pointer (some ⟨q.1,0,none⟩)) (hs:=[(bm,xM (z.al u.nd u.xs u.ys v.p.m x27))]) (os:=jZ (z.al u.nd u.xs u.ys v.p.m x27)) (hs':=λ q=>[(bm,xM q.2.1)]) (Hc:=λ q=>[(q.1,xO (kS 2 t v.p.i v.p.m ((z.L.length+1:Nat):Int)) bm q.2.1 q.2.2.2.1 q.2.2.2.2)]) (os':=λ q=>jZ q.2.1) (Oc:=λ q=>uj q.2.1) (Fc:=λ q=>aK q.2.2.1) (A0:=aK (z.al u.nd u.xs u.ys v.p.m x27).L) (hA:=aW.of λ f hf=>.inr ((aA4 hf).elim (λ h=>.inr (.inl (List.mem_append_right _ (List.mem_append_left _ h)))) λ h=>.inl (hA2 f h))) (hc:=λ w1 hw=>wC (k:=kS 2 t v.p.i v.p.m ((z.L.length+1:Nat):Int)) (m:=0) (L:=(z.al u.nd u.xs u.ys v.p.m x27).L) (cs:=(z.al u.nd u.xs u.ys v.p.m x27).cs) (gen:=(z.al u.nd u.xs u.ys v.p.m x27).gen) (acc:=(z.al u.nd u.xs u.ys v.p.m x27).acc) ⟨by have:=hlZ x27;omega,by have:=hcZ x27;omega,by show z.gen<=_;omega⟩ (Jq (by decide) (by decide)) (by decide) rfl ht (hk1 x27 _ (by show v.p.i<=_;omega)) (hk1 x27 _ (by show v.p.m<=_;omega)) (hk1 x27 _ (by show((z.L.length+1:Nat):Int)<=_;omega)) (λ f hf=>hf) (Ad (hzA x27)) hw))) (h:=λ x47 h47=>?_);refine J7 ?_;refine J2 ?_;refine aC (bh rf (λ w=>Cn _ w)) rfl ?_;refine bL ?_;refine J3 ?_;refine J3 ?_;refine aA ?_;refine aD (Sh (V:=λ x:Nat×Cd×Fr×AS=>.pointer (some ⟨x.1,0,none⟩)) (hs:=[(ba,fH (a.al u.nd u.xs u.ys v.p.m x32))]) (os:=fM (a.al u.nd u.xs u.ys v.p.m x32)) (hs':=λ x=>[(ba,fH x.2.2.2)]) (Hc:=λ x=>[(x.1,tO ba x.2.1 0)]) (os':=λ x=>fM x.2.2.2) (Oc:=λ _=>[]) (Fc:=λ x=>x.2.2.1) (A0:=aK (a.al u.nd u.xs u.ys v.p.m x32).L) (hA:=aW.of λ f hf=>((AS.jF.al a u.nd u.xs u.ys v.p.m x32).fam f hf).imp_right λ h=>h.elim (λ h=>.inl (hA1 f h)) λ h=>.inr (.inl (List.mem_append_right _ (List.mem_append_left _ h)))) (hc:=λ w1 hw=>En (Oh (t:=t) (i:=v.p.i) (bK:=v.p.m) (nw:=((z.L.length+1:Nat):Int)) (B:=[]) (n:=0) (m:=64) ht (hkA x32 _ (by omega)) (hkA x32 _ (by omega)) (jY (kS 2 t v.p.i v.p.m ((z.L.length+1:Nat):Int)) 0 (by decide)) (haA x32) (hsA x32) (λ f hf=>hf) (λ x hx=>nomatch hx) hw))) (λ x56 h56=>?_);refine aA ?_;refine bJ ?_;refine wJ ?_
  refine bC Tryz.results42 (λ w hw=>?_)
  have hext:=h47.ext
  refine⟨⟨a.al u.nd u.xs u.ys v.p.m x32,z.al u.nd u.xs u.ys v.p.m x27,kS 2 t v.p.i v.p.m ((z.L.length+1:Nat):Int),x56.1,x56.2.1,x56.2.2.1++(aK x47.2.2.1++((kV u.nd u.xs u.ys a.cs.length x32).fr++(kV u.nd u.xs u.ys z.cs.length x27).fr)),x56.2.2.2,x47.1,x47.2.1,x47.2.2.1,x47.2.2.2.1,x47.2.2.2.2⟩,rfl,⟨hzA x27,haA x32,hmA x32 x27,⟨_,rfl⟩,hcZ' x27,λ B hB=>⟨Nat.le_trans (Nat.le_of_eq (hlZ x27)) (Nat.succ_le_succ hB.1),Nat.le_trans (hcZ x27) (Nat.succ_le_succ hB.2.1),by have:=hB.2.2;show z.gen<=((B+1:Nat):Int);omega⟩,λ f hf=>?_,h47,⟨x56.2.2.1,λ f hf=>List.mem_append_left _ hf,h56.1⟩,λ f hf=>?_,Jq (by decide) (by decide),rfl,ht,hk1 x27 _ (by show v.p.i<=_;omega),hk1 x27 _ (by show v.p.m<=_;omega),hk1 x27 _ (by show((z.L.length+1:Nat):Int)<=_;omega)⟩,?_⟩
  ·exact((AS.jF.al a u.nd u.xs u.ys v.p.m x32).fam f hf).imp_right λ h=>h.imp_right λ h=>List.mem_append_right _ (List.mem_append_right _ (List.mem_append_left _ h))
  ·have hf':f∈aK x47.2.1.L:=hf
   rw[hext,dA] at hf'
   rcases List.mem_append.1 hf' with h|h
   ·exact .inr ((aA4 h).elim (λ h=>.inr (List.mem_append_right _ (List.mem_append_right _ (List.mem_append_right _ h)))) .inl)
   ·exact .inr (.inr (List.mem_append_right _ (List.mem_append_left _ h)))
  ·exact((hw.pick [6,7,8,0,1] [2,3,4,5] 9).vt [4,5,6,7,0,1,2,3] 8).nu
end

/- GcasSwaps: the walk. -/
section
open Go Go.RowKit Go.Ct
end

/- GcasTogether: the walk. -/
section
open Go Go.RowKit Go.Ct
theorem Ye{L N:List aP}{r:Int}(h:r<=L.length):aB (L++N) r=aB L r:=by
 unfold aB
 by_cases h1:1<=r
 ·rw[if_pos ⟨h1,by rw[List.length_append];omega⟩,if_pos ⟨h1,h⟩]
  rw[jH,jH,List.getElem?_append_left (by omega)]
 ·rw[if_neg (λ h=>h1 h.1),if_neg (λ h=>h1 h.1)]
theorem bf{L N L2:List aP}{i m:Int}(e:L2=L++N)(hi:i<=L.length)(hm:m<=L.length)(hu:(aB L m).xs.length<=64):i<=L2.length/\m<=L2.length/\(aB L2 m).xs.length<=64/\L.length<=L2.length:=by
 have:L.length<=L2.length:=by rw[e,List.length_append];omega
 exact⟨by omega,by omega,by rw[e,Ye hm];exact hu,this⟩
theorem Qp.lx{ba:Nat}{a:AS}{z:XS}{q:SW}(h:Qp ba a z q):∃N,q.x.L=z.L++N:=by
 obtain⟨v,hv⟩:=h.ext
 have h2:q.x.L=q.z1.L++q.N:=h.rp.ext
 exact⟨[v]++q.N,by rw[h2,hv,List.append_assoc]⟩
theorem tm{ba Bz:Nat}{a:AS}{z:XS}{t:gK}{i:Int}{q:RP}(hS:Bo ba Bz 0 ⟨a,z,[],[]⟩)(h:Pp ba a z (kS 1 t i 0 0) q)(ht:t.root<=9223372036854775807)(hi:i<=z.L.length):∃R,Bo ba (Bz+64) 0 ⟨q.a,q.x,[pxR q (kS 1 t i 0 0) R],q.F++[]⟩/\q.x.mm=(Ct.iO (T0 (kS 1 t i 0 0) 0) z.mm).2:=by
 obtain⟨R,h1,h2,_⟩:=Bo.add (bx:=q.bx) (tb:=q.tb) (S:=⟨a,z,[],[]⟩) hS h.rp h.tk (Jq (by decide) (by decide)) (by decide) rfl ht hi (bH _) (bH _)
 exact⟨R,h1,h2⟩
set_option maxRecDepth 100000 in
set_option maxHeartbeats 4000000 in
theorem Hw{l l2 l3:List Int}{a a2 a3:Option Addr}{c c2 c3:Nat}{w:World}(h1:Go.Ct.Cl w a (aG l))(hl:l.length<=17592186043904)(h2:Go.Ct.Cl w a2 (aG l2))(hl2:l2.length<=17592186043904)(h3:Go.Ct.Cl w a3 (aG l3))(hl3:l3.length<=17592186043904) :
  Calls Tryz.prog 9 #[.slice a l.length c,.slice a2 l2.length c2,.slice a3 l3.length c3] w λ e w'=>e=.returned (.bool true)/\St w [] [] w':=by
 refine enter Tryz.func9 Tryz.ntmps9 rfl rfl (SF.s3 h1 h2 h3) ?_
 simp only[bX]
 refine cO ?_;refine iR ?_;refine aD (Pn (V:=λ q:TQ×qX=>.tuple #[.pointer (some ⟨q.1.bw,0,none⟩),.pointer (some ⟨q.1.ba,0,none⟩),.agg ⟨q.2.cells⟩,.agg ⟨[.int .i64 q.1.t.root,.bool q.1.t.ro]⟩,.bool true]) (Hc:=λ q=>gqH q) (Fc:=λ q=>aK q.1.a.L++aK q.1.W.z.L) (Oc:=λ q=>tqO q.1) (hc:=λ w1 hw=>Pf (hw.cl (.bK .head)) hl (hw.cl (.bK (.tail .head))) hl2)) (λ x20 h20=>?_)
 have hW:=h20.W
 have hrt:=h20.root
 have hpi:=h20.pl.in
 have hpm:=h20.pl.inm
 have hle:=h20.ile
 obtain⟨s1,s2,s3⟩:=hW.sz
 have hu64:=Il (oT hW) (Wl hW.z) x20.2.p.m
 refine Ev ?_;refine J54 ?_;refine xI ?_;refine aJ (λ x9=>?_);refine aJ (λ x10=>?_);refine eJ (λ _=>?_);refine eJ (λ _=>?_);refine gY (λ _=>?_);refine gY (λ _=>?_);refine iB ?_;refine J2 ?_;refine Bt ?_
 (refine aF ?_;refine aE ?_)
 ((refine aF ?_;refine bL ?_));refine cB ?_;refine aH ?_
 refine bB (λ c31=>?_) (λ c31=>?_)
 ·try (first|contradiction|(exfalso;omega))
  refine iR ?_
  (refine aF ?_;refine aS (cV (hc:=λ w1 hw=>Ki w1)) (λ x34=>?_))
  refine cB ?_;refine J1 ?_
  refine aT Tryz.results9 (λ w hw=>?_)
  exact⟨rfl,hw.done⟩
 ·try (first|contradiction|(exfalso;omega))
  refine jV ?_
  refine eA [12,36,37,38,39,40,41,42,43,44,45,46,47,48,49,50,51] (λ j:Nat×RP=>[(12,.pointer (some ⟨j.1,0,none⟩))]) (λ j=>Pp x20.1.ba x20.1.a x20.1.W.z.a0 (kS 1 x20.1.t x20.2.p.i 0 0) j.2) (λ j=>[(j.1,.cells ⟨[.pointer (some ⟨j.2.tb,0,none⟩),.pointer (some ⟨j.2.bx,0,none⟩)]⟩ 76 (0,0)),(j.2.bx,xO (kS 1 x20.1.t x20.2.p.i 0 0) x20.1.bm j.2.x j.2.dn j.2.rs),(j.2.tb,tO x20.1.ba j.2.c 0),(x10,.cells ⟨[.int .i64 x20.1.t.root,.bool x20.1.t.ro]⟩ 29 (0,0)),(x9,aB1 x20.2),(x20.1.ba,fH j.2.a),(x20.1.bw,kD x20.1.bm (x20.1.m:Int) x20.1.W.pt x20.1.W.ts.length x20.1.W.kt x20.1.W.pe (pD x20.1.W.ex).length x20.1.W.ke),(x20.1.bm,xM j.2.x)]) (λ j=>aK j.2.N++(j.2.F++(aK x20.1.a.L++aK x20.1.W.z.L))) (λ j=>uj j.2.x++(fM j.2.a++jZ j.2.x)) (by decide) (λ _=>by exact rfl) ?_ (λ j f hx=>?_)
  ·refine fP (.one 0 [] (.one 1 [] (.one 2 [] (.one 3 [] (.one 4 [] (.one 6 [] (.one 7 [] (.one 8 [] (.one 9 [] (.one 10 [] (.one 11 [] (.one 12 [] (.one 13 [] (.two 5 [9,10,12] (.two 14 [] (.one 15 [] (.one 16 [2,4,9,10,12] (.one 17 [] .nil))) 0 [] (.two 16 [2,4,9,10,12] (.one 14 [] (.one 15 [] (.one 17 [] .nil))) 0 [] .nil)) 0 [] (.two 16 [2,4,9,10,12] (.one 5 [9,10,12] (.one 14 [] (.one 15 [] (.one 17 [] .nil)))) 0 [] .nil))))))))))))))) ?_
   refine aN ?_;refine cA (i:=1) (hq:=(bh rf (λ w=>Cn _ w))) (h:=?_);refine bG ?_;refine kG ?_;refine R7 ?_;refine bG ?_;refine kG ?_;refine fA ?_
   refine fV (E:=[5,16]) (by decide +kernel) ((.cons ?_ (.cons ?_ .nil)))
   ·refine jS (i:=5) (hq:=(Sh (V:=λ x:Nat×Cd×Fr×AS=>.pointer (some ⟨x.1,0,none⟩)) (hs:=[(x20.1.ba,fH x20.1.a)]) (os:=fM x20.1.a) (hs':=λ x=>[(x20.1.ba,fH x.2.2.2)]) (Hc:=λ x=>[(x.1,tO x20.1.ba x.2.1 0)]) (os':=λ x=>fM x.2.2.2) (Oc:=λ _=>[]) (Fc:=λ x=>x.2.2.1) (A0:=aK x20.1.a.L) (hA:=aW.of λ f hf=>.inr (.inr (.inl (by simp[hf])))) (hc:=λ w1 hw=>En (Qw (B:=[]) (n:=0) (m:=64) hrt hle (jY (kS 1 x20.1.t x20.2.p.i 0 0) 0 (by decide)) h20.a h20.sm (λ f hf=>hf) (λ x hx=>nomatch hx) hw)))) (h:=λ x41 h41=>?_)
    refine fV (E:=[14,16]) (by decide +kernel) ((.cons ?_ (.cons ?_ .nil)))
    ·refine jS (i:=14) (hq:=(Sh (V:=λ q:Nat×XS×List aP×Bool×Rs=>.pointer (some ⟨q.1,0,none⟩)) (hs:=[(x20.1.bm,xM x20.1.W.z.a0)]) (os:=jZ x20.1.W.z) (hs':=λ q=>[(x20.1.bm,xM q.2.1)]) (Hc:=λ q=>[(q.1,xO (kS 1 x20.1.t x20.2.p.i 0 0) x20.1.bm q.2.1 q.2.2.2.1 q.2.2.2.2)]) (os':=λ q=>jZ q.2.1) (Oc:=λ q=>uj q.2.1) (Fc:=λ q=>aK q.2.2.1) (A0:=aK x20.1.W.z.L) (hA:=aW.of λ f hf=>.inr (.inr (.inl (by simp[hf])))) (hc:=λ w1 hw=>wC (k:=kS 1 x20.1.t x20.2.p.i 0 0) (m:=0) (L:=x20.1.W.z.L) (cs:=x20.1.W.z.cs) (gen:=x20.1.W.z.gen) (acc:=0) ⟨by omega,by omega,by omega⟩ (Jq (by decide) (by decide)) (by decide) rfl hrt hpi.2 (bH _) (bH _) (λ f hf=>hf) (Ad (V2 hW.z)) hw))) (h:=λ x50 h50=>?_)
     refine fA ?_;refine gA (h:=λ x12=>?_);refine vZ ?_
     refine eQ ((x12,RP.of x41 x50)) ?_ (hw1:=λ w hw=>by rw[List.append_nil] at hw;exact hw)
     ·exact⟨h41.1,h50⟩
    ·refine fO (i:=16) (h:=λ x12=>?_)
     refine aZ (i:=14) (hq:=(Sh (V:=λ q:Nat×XS×List aP×Bool×Rs=>.pointer (some ⟨q.1,0,none⟩)) (hs:=[(x20.1.bm,xM x20.1.W.z.a0)]) (os:=jZ x20.1.W.z) (hs':=λ q=>[(x20.1.bm,xM q.2.1)]) (Hc:=λ q=>[(q.1,xO (kS 1 x20.1.t x20.2.p.i 0 0) x20.1.bm q.2.1 q.2.2.2.1 q.2.2.2.2)]) (os':=λ q=>jZ q.2.1) (Oc:=λ q=>uj q.2.1) (Fc:=λ q=>aK q.2.2.1) (A0:=aK x20.1.W.z.L) (hA:=aW.of λ f hf=>.inr (.inr (.inl (by simp[hf])))) (hc:=λ w1 hw=>wC (k:=kS 1 x20.1.t x20.2.p.i 0 0) (m:=0) (L:=x20.1.W.z.L) (cs:=x20.1.W.z.cs) (gen:=x20.1.W.z.gen) (acc:=0) ⟨by omega,by omega,by omega⟩ (Jq (by decide) (by decide)) (by decide) rfl hrt hpi.2 (bH _) (bH _) (λ f hf=>hf) (Ad (V2 hW.z)) hw))) (h:=λ x50 h50=>?_);refine fA ?_;refine vZ ?_
     refine eQ ((x12,RP.of x41 x50)) ?_ (hw1:=λ w hw=>by rw[List.append_nil] at hw;exact hw.pick [1,0,2,3,4,5,6,7] [] 8)
     ·exact⟨h41.1,h50⟩
   ·refine fO (i:=16) (h:=λ x12=>?_)
    refine aZ (i:=5) (hq:=(Sh (V:=λ x:Nat×Cd×Fr×AS=>.pointer (some ⟨x.1,0,none⟩)) (hs:=[(x20.1.ba,fH x20.1.a)]) (os:=fM x20.1.a) (hs':=λ x=>[(x20.1.ba,fH x.2.2.2)]) (Hc:=λ x=>[(x.1,tO x20.1.ba x.2.1 0)]) (os':=λ x=>fM x.2.2.2) (Oc:=λ _=>[]) (Fc:=λ x=>x.2.2.1) (A0:=aK x20.1.a.L) (hA:=aW.of λ f hf=>.inr (.inr (.inl (by simp[hf])))) (hc:=λ w1 hw=>En (Qw (B:=[]) (n:=0) (m:=64) hrt hle (jY (kS 1 x20.1.t x20.2.p.i 0 0) 0 (by decide)) h20.a h20.sm (λ f hf=>hf) (λ x hx=>nomatch hx) hw)))) (h:=λ x41 h41=>?_);refine aZ (i:=14) (hq:=(Sh (V:=λ q:Nat×XS×List aP×Bool×Rs=>.pointer (some ⟨q.1,0,none⟩)) (hs:=[(x20.1.bm,xM x20.1.W.z.a0)]) (os:=jZ x20.1.W.z) (hs':=λ q=>[(x20.1.bm,xM q.2.1)]) (Hc:=λ q=>[(q.1,xO (kS 1 x20.1.t x20.2.p.i 0 0) x20.1.bm q.2.1 q.2.2.2.1 q.2.2.2.2)]) (os':=λ q=>jZ q.2.1) (Oc:=λ q=>uj q.2.1) (Fc:=λ q=>aK q.2.2.1) (A0:=aK x20.1.W.z.L) (hA:=aW.of λ f hf=>.inr (.inr (.inl (by simp[hf])))) (hc:=λ w1 hw=>wC (k:=kS 1 x20.1.t x20.2.p.i 0 0) (m:=0) (L:=x20.1.W.z.L) (cs:=x20.1.W.z.cs) (gen:=x20.1.W.z.gen) (acc:=0) ⟨by omega,by omega,by omega⟩ (Jq (by decide) (by decide)) (by decide) rfl hrt hpi.2 (bH _) (bH _) (λ f hf=>hf) (Ad (V2 hW.z)) hw))) (h:=λ x50 h50=>?_);refine fA ?_;refine vZ ?_
    refine eQ ((x12,RP.of x41 x50)) ?_ (hw1:=λ w hw=>by rw[List.append_nil] at hw;exact hw.pick [2,0,1,3,4,5,6,7] [] 8)
    ·exact⟨h41.1,h50⟩
  dsimp only[gU,List.map,List.cons_append,List.nil_append]
  obtain⟨R1,hL1,hm1⟩:=tm h20.lok hx hrt hpi.2
  have hf1:=λ f hf=>hx.has (f:=f) hf
  have hx1:j.2.x.L=x20.1.W.z.L++j.2.N:=hx.rp.ext
  obtain⟨k1,k2,k3,k4⟩:=bf hx1 hpi.2 hpm.2 hu64
  refine iR ?_;refine bL ?_;refine bL ?_;refine aD (Sh (V:=λ q:SW=>.tuple #[.agg ⟨[.pointer (some ⟨q.tb,0,none⟩),.pointer (some ⟨q.bx,0,none⟩)]⟩,.bool true]) (hs:=[(x20.1.ba,fH j.2.a),(x20.1.bm,xM j.2.x),(x20.1.bw,kD x20.1.bm (x20.1.m:Int) x20.1.W.pt x20.1.W.ts.length x20.1.W.kt x20.1.W.pe (pD x20.1.W.ex).length x20.1.W.ke)]) (os:=fM j.2.a++jZ j.2.x) (hs':=λ q=>[(x20.1.ba,fH q.a),(x20.1.bm,xM q.x),(x20.1.bw,kD x20.1.bm (x20.1.m:Int) x20.1.W.pt x20.1.W.ts.length x20.1.W.kt x20.1.W.pe (pD x20.1.W.ex).length x20.1.W.ke)]) (Hc:=λ q=>[(q.tb,tO x20.1.ba q.c 0),(q.bx,xO q.k x20.1.bm q.x q.dn q.rs)]) (os':=λ q=>fM q.a++jZ q.x) (Oc:=λ q=>uj q.x) (Fc:=λ q=>q.F) (A0:=aK j.2.a.L++aK j.2.x.L) (hA:=aW.of λ f hf=>(hf1 f hf).imp_right λ h=>.inr (.inl h)) (hc:=λ w1 hw=>Ra (t:=x20.1.t) (v:=x20.2) hL1.z hL1.a hL1.mm (Us hL1.sz (by decide)) k1 hpm.1 k2 k3 hrt (λ f hf=>List.mem_append_left _ hf) (λ f hf=>List.mem_append_right _ hf) hw)) (λ x57 h57=>?_)
  obtain⟨R2,F2,hF2,hL2,hm2⟩:=dm hL1 h57
  have hf2:=h57.has hf1
  obtain⟨N2,hx2⟩:=h57.lx
  obtain⟨k5,k6,k7,k8⟩:=bf hx2 k1 k2 k3
  refine Ev ?_;refine aJ (λ x13=>?_);refine wJ ?_;refine iR ?_;refine bL ?_;refine bL ?_;refine aD (Sh (V:=λ q:SW=>.tuple #[.agg ⟨[.pointer (some ⟨q.tb,0,none⟩),.pointer (some ⟨q.bx,0,none⟩)]⟩,.bool true]) (hs:=[(x20.1.ba,fH x57.a),(x20.1.bm,xM x57.x),(x20.1.bw,kD x20.1.bm (x20.1.m:Int) x20.1.W.pt x20.1.W.ts.length x20.1.W.kt x20.1.W.pe (pD x20.1.W.ex).length x20.1.W.ke)]) (os:=fM x57.a++jZ x57.x) (hs':=λ q=>[(x20.1.ba,fH q.a),(x20.1.bm,xM q.x),(x20.1.bw,kD x20.1.bm (x20.1.m:Int) x20.1.W.pt x20.1.W.ts.length x20.1.W.kt x20.1.W.pe (pD x20.1.W.ex).length x20.1.W.ke)]) (Hc:=λ q=>[(q.tb,tO x20.1.ba q.c 0),(q.bx,xO q.k x20.1.bm q.x q.dn q.rs)]) (os':=λ q=>fM q.a++jZ q.x) (Oc:=λ q=>uj q.x) (Fc:=λ q=>q.F) (A0:=aK x57.a.L++aK x57.x.L) (hA:=aW.of λ f hf=>(hf2 f hf).imp_right λ h=>.inr (.inl h)) (hc:=λ w1 hw=>Ra (t:=x20.1.t) (v:=x20.2) hL2.z hL2.a hL2.mm (Us hL2.sz (by decide)) k5 hpm.1 k6 k7 hrt (λ f hf=>List.mem_append_left _ hf) (λ f hf=>List.mem_append_right _ hf) hw)) (λ x65 h65=>?_)
  obtain⟨R3,F3,hF3,hL3,hm3⟩:=dm hL2 h65
  have hf3:=h65.has hf2
  refine Ev ?_;refine aJ (λ x15=>?_);refine gY (λ _=>?_);refine iB ?_;refine dK [(0,[]),(1,[]),(2,[]),(3,[]),(4,[]),(5,[]),(6,[]),(7,[]),(8,[]),(9,[]),(10,[]),(11,[]),(12,[]),(13,[]),(14,[]),(15,[]),(16,[]),(17,[12]),(18,[]),(19,[]),(20,[])] ?_;refine cH (i:=0) (hq:=(cV (hc:=λ w1 hw=>Ki w1))) (h:=λ x68=>?_);refine aN ?_
  (refine aN ?_)
  refine eF ?_;refine aN ?_
  (refine aN ?_)
  refine eF ?_;refine aN ?_
  (refine aN ?_)
  ((refine aN ?_));refine J60 ?_;((refine bG ?_));((refine bG ?_));((refine bG ?_));((refine cH (i:=17) (hq:=((by exact Jj (λ _=>cJ (cs:=Ec [(j.2.tb,j.2.bx),(x57.tb,x57.bx),(x65.tb,x65.bx)]) Tk Jb rfl rfl rfl rfl rfl)))) (h:=λ x85=>?_)));((((refine cH (i:=18) (hq:=(bE.pre (λ w h=>SF.vt [12,13,14,15,8,9,10,11,4,5,6,7,0,1,2,3] 16 (SF.pick [11,13,8,4,1,7,5,2] [0,3,6,9,10,12] 14 h)) (cT 0 0 (V:=λ _:LY=>.bool true) (hs:=rG x20.1.ba x20.1.bm ⟨x65.a,x65.x,[pxR j.2 (kS 1 x20.1.t x20.2.p.i 0 0) R1]++[pxS x57 R2]++[pxS x65 R3],F3++(F2++(j.2.F++[]))⟩) (os:=tW ⟨x65.a,x65.x,[pxR j.2 (kS 1 x20.1.t x20.2.p.i 0 0) R1]++[pxS x57 R2]++[pxS x65 R3],F3++(F2++(j.2.F++[]))⟩) (A0:=(some ⟨x85,0,none⟩,Ec [(j.2.tb,j.2.bx),(x57.tb,x57.bx),(x65.tb,x65.bx)])::(a3,aG l3)::(x65.F++(x57.F++(aK j.2.N++(j.2.F++(aK x20.1.a.L++aK x20.1.W.z.L)))))) (hs':=λ y=>rG x20.1.ba x20.1.bm y.S) (os':=λ y=>tW y.S) (Fc:=λ y=>y.G) (F1:=λ y=>y.G) (hA:=aW.cons (.inr (.inr (.inl (List.mem_cons_self ..)))) (aW.cons (.inr (.inl (by simp))) (aW.of λ f hf=>.inr (.inr (.inl (List.mem_cons_of_mem _ hf)))))) (hF1:=λ y _ f hf=>.inr (List.mem_append_left _ hf)) (hc:=λ w1 hw=>z7 (l:=l3) (a:=a3) (c:=c3) (ps:=[(j.2.tb,j.2.bx),(x57.tb,x57.bx),(x65.tb,x65.bx)]) rfl hL3 (by decide) (by decide) (by show 0<3;decide) (by show 3<=1000;decide) (by show 3<=3;decide) hl3 (λ f hf=>(hf3 f (List.mem_append_left _ hf)).imp_right λ h=>List.mem_cons_of_mem _ (List.mem_cons_of_mem _ h)) (λ f hf=>(hf3 f (List.mem_append_right _ hf)).imp_right λ h=>List.mem_cons_of_mem _ (List.mem_cons_of_mem _ h)) (λ f hf=>aB6 hF3 hF2 hf) (List.mem_cons_self ..) (List.mem_cons_of_mem _ (List.mem_cons_self ..)) hw)))) (h:=λ x86=>?_);try (refine eC (λ h86=>?_))))));refine eF ?_;refine J7 ?_
  refine aT Tryz.results9 (λ w hw=>?_)
  exact⟨rfl,hw.done⟩
end

end Go.Proofs.YtbajmaoegmbfgaaGreat
