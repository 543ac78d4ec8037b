/- Views: the root of a trie, the main node of an I-node. -/
import Derived.Test.YtbajmaoegmbfgaaGreatGVw1
import Derived.Test.YtbajmaoegmbfgaaGreatGAr9
import Derived.Test.YtbajmaoegmbfgaaGreatGNode1
import Derived.Test.YtbajmaoegmbfgaaGreatGMst

set_option linter.unusedSimpArgs false
set_option linter.unusedVariables false
namespace Go.Ct
section
open Go Go.RowKit
theorem qT.Cz{L:List aP}{cs:List Int}{pn pc:Option Addr}{w w0:World}{M:List Nat}{H:List (Nat×Obj)}{F:Fr}{O:List Ow}(h:qT w0 L cs pn pc)(hw:SF w0 M H ((pn,iY L)::(pc,aG cs)::aM L) F O w):qT w L cs pn pc:=hw.H6 (.inr (.inl (.head _))) (.inr (.inl (.tail _ (.head _)))) (λ f hf=>.inr (.inl (.tail _ (.tail _ hf)))) h.fit
theorem cS(L:List aP)(r:Int):bH (L.map aP.c) r=(aB L r).c:=(qL L r).symm
end
end Go.Ct
namespace Go.Proofs.YtbajmaoegmbfgaaGreat
section
open Go Go.RowKit Go.Ct
section
variable{L:List aP}{cs:List Int}{gen:Int}{pn pc:Option Addr}{cn cc:Nat}{w:World}
abbrev Iy(L:List aP)(cs:List Int)(gen:Int)(pn:Option Addr)(cn:Nat)(pc:Option Addr)(cc:Nat):Value:=.agg ⟨[.slice pn L.length cn,.slice pc cs.length cc,.int .i64 gen]⟩
structure y6(L:List aP)(cs:List Int):Prop where
 cs:∀c,bD cs c<=9223372036854775807
 bJ:∀r,(aB L r).nd.bJ<=9223372036854775807
 new:∀r,(aB L r).nd.new<=9223372036854775807
 main:∀r,(aB L r).nd.main<=9223372036854775807
 prev:∀r,(aB L r).nd.prev<=9223372036854775807
 status:∀r,(aB L r).nd.status<=9223372036854775807
 br:∀r,∀b∈(aB L r).xs,b<=9223372036854775807
end
end

/- The reference of views: a node, a cell, the root, the main node of an I-node. -/
section
open Go Go.RowKit Go.Ct
section
variable{L:List aP}{cs:List Int}{gen:Int}{pn pc:Option Addr}{cn cc:Nat}{w:World}
theorem we(h:qT w L cs pn pc)(r:Int)(hr:r<1):Calls Tryz.prog 91 #[Iy L cs gen pn cn pc cc,.int .i64 r] w λ e w'=>e=.returned (aB L r).nd.v/\St w [] [] w':=by
 refine enter Tryz.func91 Tryz.ntmps91 rfl rfl h.start ?_
 simp only[cD]
 refine J0 ?_;refine bK (λ x2=>?_);refine aJ (λ x4=>?_);refine aH ?_;refine kX ?_;refine Az ?_
 (refine dX 7 (λ g7=>?_) (λ g7=>?_)<;>(try (exfalso;omega))<;>(refine aI ?_))
 refine Rh ?_;refine zJ ?_;refine aH ?_
 refine aZ (λ c13=>?_) (λ c13=>?_)
 ·try (exfalso;omega)
  refine J0 ?_;refine vL ?_
  refine aY Tryz.results91 (λ w hw=>?_)
  exact⟨by rw[pM (by omega)];rfl,hw.done⟩
 ·exact nv c13
theorem vk(h:qT w L cs pn pc){k:Nat}(hk:(k:Int)<9223372036854775807)(hl:L.length<=274877906944):Calls Tryz.prog 91 #[Iy L cs gen pn cn pc cc,.int .i64 ((k+1:Nat):Int)] w λ e w'=>e=.returned (aB L ((k+1:Nat):Int)).nd.v/\St w [] [] w':=by
 refine enter Tryz.func91 Tryz.ntmps91 rfl rfl h.start ?_
 simp only[cD]
 refine J0 ?_;refine bK (λ x2=>?_);refine aJ (λ x4=>?_);refine aH ?_;refine kX ?_;refine Az ?_
 (refine aE ?_;refine aA ?_)
 refine Rh ?_;refine zJ ?_;refine aH ?_
 refine aZ (λ c13=>?_) (λ c13=>?_)
 ·try (exfalso;omega)
  refine J0 ?_;refine vL ?_
  refine aY Tryz.results91 (λ w hw=>?_)
  (exact⟨by rw[pM (by omega)];rfl,hw.done⟩)
 ·try (exfalso;omega)
  refine aX ?_;refine hZ ?_;refine aA ?_;refine rM ?_;refine Qq ?_;refine J5 ?_
  refine aY Tryz.results91 (λ w hw=>?_)
  (exact⟨by rw[vZ (by omega)];rfl,hw.done⟩)
theorem mT(h:qT w L cs pn pc)(r:Int)(hr:r<=9223372036854775807)(hl:L.length<=274877906944):Calls Tryz.prog 91 #[Iy L cs gen pn cn pc cc,.int .i64 r] w λ e w'=>e=.returned (aB L r).nd.v/\St w [] [] w':=by
 rcases Int.lt_or_le r 1 with h1|h1
 ·exact we h r h1
 ·obtain⟨k,rfl⟩:∃k:Nat,r=((k+1:Nat):Int):=⟨(r-1).toNat,by omega⟩
  exact vk h (by omega) hl
theorem Z7(h:qT w L cs pn pc)(r:Int)(hr:r<1):Calls Tryz.prog 90 #[Iy L cs gen pn cn pc cc,.int .i64 r] w λ e w'=>e=.returned (.int .i64 (bD cs r))/\St w [] [] w':=by
 refine enter Tryz.func90 Tryz.ntmps90 rfl rfl h.start ?_
 simp only[cD]
 refine J0 ?_;refine bK (λ x2=>?_);refine iO ?_;refine J2 ?_;refine Az ?_
 (refine dX 7 (λ g7=>?_) (λ g7=>?_)<;>(try (exfalso;omega))<;>(refine aI ?_))
 refine Rh ?_;refine zJ ?_;refine aH ?_
 refine aZ (λ c13=>?_) (λ c13=>?_)
 ·try (exfalso;omega)
  refine cP ?_
  refine aQ Tryz.results90 (λ w hw=>?_)
  exact⟨by rw[rJ (by omega)];rfl,hw.done⟩
 ·exact nv c13
theorem jc(h:qT w L cs pn pc){k:Nat}(hk:(k:Int)<9223372036854775807)(hl:cs.length<=274877906944):Calls Tryz.prog 90 #[Iy L cs gen pn cn pc cc,.int .i64 ((k+1:Nat):Int)] w λ e w'=>e=.returned (.int .i64 (bD cs ((k+1:Nat):Int)))/\St w [] [] w':=by
 refine enter Tryz.func90 Tryz.ntmps90 rfl rfl h.start ?_
 simp only[cD]
 refine J0 ?_;refine bK (λ x2=>?_);refine iO ?_;refine J2 ?_;refine Az ?_
 (refine aE ?_;refine aA ?_)
 refine Rh ?_;refine zJ ?_;refine aH ?_
 refine aZ (λ c13=>?_) (λ c13=>?_)
 ·try (exfalso;omega)
  refine cP ?_
  refine aQ Tryz.results90 (λ w hw=>?_)
  (exact⟨by rw[rJ (by omega)];rfl,hw.done⟩)
 ·try (exfalso;omega)
  refine aX ?_;refine hZ ?_;refine aA ?_;refine rM ?_;refine Qq ?_;refine J1 ?_
  refine aQ Tryz.results90 (λ w hw=>?_)
  (exact⟨by rw[G7 (by omega)];rfl,hw.done⟩)
theorem tF(h:qT w L cs pn pc)(r:Int)(hr:r<=9223372036854775807)(hl:cs.length<=274877906944):Calls Tryz.prog 90 #[Iy L cs gen pn cn pc cc,.int .i64 r] w λ e w'=>e=.returned (.int .i64 (bD cs r))/\St w [] [] w':=by
 rcases Int.lt_or_le r 1 with h1|h1
 ·exact Z7 h r h1
 ·obtain⟨k,rfl⟩:∃k:Nat,r=((k+1:Nat):Int):=⟨(r-1).toNat,by omega⟩
  exact jc h (by omega) hl
theorem Vh(h:qT w L cs pn pc)(hb:y6 L cs)(hl:L.length<=274877906944)(hc:cs.length<=274877906944)(i:Int)(hi:i<=9223372036854775807):Calls Tryz.prog 83 #[Iy L cs gen pn cn pc cc,.int .i64 i] w λ e w'=>e=.returned (.tuple #[.int .i64 ((iN (L.map aP.c) cs i).getD 0),.bool (iN (L.map aP.c) cs i).isSome])/\St w [] [] w':=by
 refine enter Tryz.func83 Tryz.ntmps83 rfl rfl h.start ?_
 simp only[cD]
 simp only[Iy]
 refine J0 ?_;refine bK (λ x2=>?_);refine J8 ?_;refine aS ?_;refine Dy ?_;refine aN (cV (hc:=λ w1 hw=>mT (h.Cz hw) i hi hl)) (λ x10=>?_);refine bZ ?_;refine lU ?_;refine aH ?_
 refine aZ (λ c12=>?_) (λ c12=>?_)
 ·refine P2 ?_
  refine aY Tryz.results83 (λ w hw=>?_)
  refine⟨?_,hw.done⟩
  unfold iN yD oN vT
  simp only[cS,bV,aP.c,Nd.c]
  simp_all
  rfl
 ·refine kK ?_;refine dZ [(0,[]),(1,[]),(2,[]),(3,[0]),(4,[]),(5,[]),(6,[])] ?_;refine bN ?_;refine bN ?_;refine aT ?_;refine cL (i:=3) (hq:=(cV (hc:=λ w1 hw=>mT (h.Cz hw) i hi hl))) (h:=λ x16=>?_);refine kZ ?_;refine cL (i:=5) (hq:=(cV (hc:=λ w1 hw=>tF (h.Cz hw) (aB L i).nd.main (hb.main i) hc))) (h:=λ x18=>?_);refine J7 ?_;refine aS ?_;refine Dy ?_;refine aN (cV (hc:=λ w1 hw=>mT (h.Cz hw) (bD cs (aB L i).nd.main) (hb.cs _) hl)) (λ x21=>?_);refine aD (c0 (V:=.bool) (hc:=λ w1 hw=>rU _ w1)) (λ x22 h22=>?_);refine oU ?_
  refine aZ (λ c23=>?_) (λ c23=>?_)
  ·refine P2 ?_
   refine aY Tryz.results83 (λ w hw=>?_)
   refine⟨?_,hw.done⟩
   unfold iN yD oN vT
   simp only[cS,bV,aP.c,Nd.c]
   simp_all
   rfl
  ·refine kK ?_;refine dZ [(0,[]),(1,[]),(2,[]),(3,[0]),(4,[]),(5,[]),(6,[])] ?_;refine bN ?_;refine bN ?_;refine aT ?_;refine cL (i:=3) (hq:=(cV (hc:=λ w1 hw=>mT (h.Cz hw) (bD cs (aB L i).nd.main) (hb.cs _) hl))) (h:=λ x27=>?_);refine kZ ?_;refine cL (i:=5) (hq:=(cV (hc:=λ w1 hw=>tF (h.Cz hw) (aB L (bD cs (aB L i).nd.main)).nd.prev (hb.prev _) hc))) (h:=λ x29=>?_);refine J7 ?_;refine Co ?_;refine J2 ?_;refine Qs ?_
   refine aZ (λ c30=>?_) (λ c30=>?_)
   ·refine J2 ?_;refine J8 ?_
    refine aY Tryz.results83 (λ w hw=>?_)
    refine⟨?_,hw.done⟩
    unfold iN yD oN vT
    simp only[cS,bV,aP.c,Nd.c]
    simp_all
    rfl
   ·refine Dy ?_;refine aN (cV (hc:=λ w1 hw=>mT (h.Cz hw) (bD cs (aB L (bD cs (aB L i).nd.main)).nd.prev) (hb.cs _) hl)) (λ x37=>?_);refine bZ ?_;refine Qs ?_
    refine aZ (λ c34=>?_) (λ c34=>?_)
    ·refine dI ?_;refine bP ?_;refine aA ?_;refine aN (cV (hc:=λ w1 hw=>mT (h.Cz hw) (bD cs (aB L (bD cs (aB L i).nd.main)).nd.prev) (hb.cs _) hl)) (λ x42=>?_);refine bZ ?_;refine J1 ?_;refine fF ?_;refine aS ?_;refine Dy ?_;refine aN (cV (hc:=λ w1 hw=>mT (h.Cz hw) _ (by exact hb.bJ _) hl)) (λ x46=>?_);refine aD (c0 (V:=.bool) (hc:=λ w1 hw=>rU _ w1)) (λ x47 h47=>?_);refine oU ?_
     refine aZ (λ c48=>?_) (λ c48=>?_)
     ·refine P2 ?_
      refine aY Tryz.results83 (λ w hw=>?_)
      refine⟨?_,hw.done⟩
      unfold iN yD oN vT
      simp only[cS,bV,aP.c,Nd.c]
      simp_all
      rfl
     ·refine aX ?_;refine J2 ?_;refine J8 ?_
      refine aY Tryz.results83 (λ w hw=>?_)
      refine⟨?_,hw.done⟩
      unfold iN yD oN vT
      simp only[cS,bV,aP.c,Nd.c]
      simp_all
      rfl
    ·refine oP ?_;refine aS ?_;refine Dy ?_;refine aN (cV (hc:=λ w1 hw=>mT (h.Cz hw) _ (by exact hb.cs _) hl)) (λ x46=>?_);refine aD (c0 (V:=.bool) (hc:=λ w1 hw=>rU _ w1)) (λ x47 h47=>?_);refine oU ?_
     refine aZ (λ c48=>?_) (λ c48=>?_)
     ·refine P2 ?_
      refine aY Tryz.results83 (λ w hw=>?_)
      refine⟨?_,hw.done⟩
      unfold iN yD oN vT
      simp only[cS,bV,aP.c,Nd.c]
      simp_all
      rfl
     ·refine aX ?_;refine J2 ?_;refine J8 ?_
      refine aY Tryz.results83 (λ w hw=>?_)
      refine⟨?_,hw.done⟩
      unfold iN yD oN vT
      simp only[cS,bV,aP.c,Nd.c]
      simp_all
      rfl
theorem px(h:qT w L cs pn pc)(hb:y6 L cs)(hl:L.length<=274877906944)(hc:cs.length<=274877906944)(c:Int)(ro:Bool)(hi:c<=9223372036854775807):Calls Tryz.prog 95 #[Iy L cs gen pn cn pc cc,.agg ⟨[.int .i64 c,.bool ro]⟩] w λ e w'=>e=.returned (.tuple #[.int .i64 ((mP (L.map aP.c) cs c).getD 0),.bool (mP (L.map aP.c) cs c).isSome])/\St w [] [] w':=by
 refine enter Tryz.func95 Tryz.ntmps95 rfl rfl h.start ?_
 simp only[cD]
 simp only[Iy]
 refine J0 ?_;refine bK (λ x2=>?_);refine bK (λ x3=>?_);refine J8 ?_;refine oC ?_;refine J3 ?_;refine aN (cV (hc:=λ w1 hw=>tF (h.Cz hw) c hi hc)) (λ x11=>?_);refine iO ?_;refine Dy ?_;refine aN (cV (hc:=λ w1 hw=>mT (h.Cz hw) (bD cs c) (hb.cs _) hl)) (λ x14=>?_);refine aJ (λ x7=>?_);refine J5 ?_;refine hZ ?_;refine sH ?_
 refine aZ (λ c17=>?_) (λ c17=>?_)
 ·refine hZ ?_;refine J1 ?_;refine oC ?_;refine J3 ?_;refine aN (cV (hc:=λ w1 hw=>tF (h.Cz hw) (aB L (bD cs c)).nd.status (hb.status _) hc)) (λ x23=>?_);refine sH ?_
  refine aZ (λ c24=>?_) (λ c24=>?_)
  ·refine dI ?_;refine J3 ?_;refine iO ?_;refine Dy ?_;refine aN (cV (hc:=λ w1 hw=>mT (h.Cz hw) _ (by exact hb.new _) hl)) (λ x29=>?_);refine bZ ?_;refine lU ?_;refine aH ?_
   refine aZ (λ c31=>?_) (λ c31=>?_)
   ·refine P2 ?_
    refine aY Tryz.results95 (λ w hw=>?_)
    refine⟨?_,hw.done⟩
    unfold mP tY
    simp only[cS,bV,aP.c,Nd.c]
    simp_all
    rfl
   ·refine aX ?_;refine J2 ?_;refine J8 ?_
    refine aY Tryz.results95 (λ w hw=>?_)
    refine⟨?_,hw.done⟩
    unfold mP tY
    simp only[cS,bV,aP.c,Nd.c]
    simp_all
    rfl
  ·refine kK ?_;refine Dy ?_;refine aN (cV (hc:=λ w1 hw=>mT (h.Cz hw) _ (by exact hb.bJ _) hl)) (λ x29=>?_);refine bZ ?_;refine lU ?_;refine aH ?_
   refine aZ (λ c31=>?_) (λ c31=>?_)
   ·refine P2 ?_
    refine aY Tryz.results95 (λ w hw=>?_)
    refine⟨?_,hw.done⟩
    unfold mP tY
    simp only[cS,bV,aP.c,Nd.c]
    simp_all
    rfl
   ·refine aX ?_;refine J2 ?_;refine J8 ?_
    refine aY Tryz.results95 (λ w hw=>?_)
    refine⟨?_,hw.done⟩
    unfold mP tY
    simp only[cS,bV,aP.c,Nd.c]
    simp_all
    rfl
 ·refine kK ?_;refine Dy ?_;refine aN (cV (hc:=λ w1 hw=>mT (h.Cz hw) _ (by exact hb.cs _) hl)) (λ x29=>?_);refine bZ ?_;refine lU ?_;refine aH ?_
  refine aZ (λ c31=>?_) (λ c31=>?_)
  ·refine P2 ?_
   refine aY Tryz.results95 (λ w hw=>?_)
   refine⟨?_,hw.done⟩
   unfold mP tY
   simp only[cS,bV,aP.c,Nd.c]
   simp_all
   rfl
  ·refine aX ?_;refine J2 ?_;refine J8 ?_
   refine aY Tryz.results95 (λ w hw=>?_)
   refine⟨?_,hw.done⟩
   unfold mP tY
   simp only[cS,bV,aP.c,Nd.c]
   simp_all
   rfl
end
end

/- Views: which nodes have been visited; lists of nodes. -/
end Go.Proofs.YtbajmaoegmbfgaaGreat
namespace Go.Ct
section
open Go Go.RowKit
def an(n:Nat)(vs:List Bool)(l:List Int):Prop:=vs.length=n/\(∀k,k<n->(vs.getD k false=true↔((k+1:Nat):Int)∈l))/\l.length+vs.count false=n
theorem an.zero(n:Nat):an n (List.replicate n false) []:=⟨by simp,λ k hk=>by simp[jC,hk],by simp⟩
theorem count_set:∀(vs:List Bool) (k:Nat),k<vs.length->vs.getD k false=false->(vs.set k true).count false+1=vs.count false
 | [],_,h,_=>by simp at h
 | b::vs,0,_,h=>by
  have e:b=false:=by simpa using h
  subst e
  simp
 | b::vs,k+1,h,h2=>by
  have:=count_set vs k (by simpa using h) (by simpa using h2)
  rw[List.set_cons_succ,List.count_cons,List.count_cons]
  omega
theorem an.set{n k:Nat}{vs:List Bool}{l:List Int}(h:an n vs l)(hk:k<n)(hf:vs.getD k false=false):an n (vs.set k true) (l++[((k+1:Nat):Int)]):=by
 have h1:=h.1
 refine⟨by simp[h.1],λ j hj=>?_,?_⟩
 ·have h2:=h.2.1 j hj
  rw[jC] at h2
  rw[jC,List.getElem?_set]
  by_cases e:k=j
  ·subst e
   simp[show k<vs.length by omega]
  ·rw[if_neg e,h2]
   simp only[List.mem_append,List.mem_singleton]
   constructor
   ·exact .inl
   ·rintro (h3|h3)
    ·exact h3
    ·omega
 ·have:=count_set vs k (by omega) hf
  have:=h.2.2
  simp only[List.length_append,List.length_cons,List.length_nil]
  omega
theorem an.len{n:Nat}{vs:List Bool}{l:List Int}(h:an n vs l):l.length<=n:=by have:=h.2.2;omega
theorem V8{N:List Nv}{r:Int}(h:bV (bH N r)):1<=r/\r<=N.length:=dV (by unfold bV at h;omega)
theorem kz{L:List aP}{r:Int}(h:1<=r/\r<=L.length):((aB L r).nd.brA,aG (aB L r).xs)∈aM L:=by
 unfold aB
 rw[if_pos h]
 exact D7 (by omega)
theorem mj{L:List aP}{r:Int}(h:1<=r/\r<=L.length):((aB L r).nd.prA,cR (aB L r).ys)∈aM L:=by
 unfold aB
 rw[if_pos h]
 exact Ec (by omega)
theorem gv(L:List aP)(r:Int):(bH (L.map aP.c) r).xs=(aB L r).xs:=by rw[cS];rfl
theorem o5{L:List aP}{cs:List Int}{c r:Int}(h:mP (L.map aP.c) cs c=some r):∃k:Nat,r=((k+1:Nat):Int)/\k<L.length:=by
 unfold mP at h
 split at h
 ·rename_i hk
  cases h
  have:=dV (N:=L.map aP.c) (i:=tY (L.map aP.c) cs c) (by omega)
  rw[List.length_map] at this
  exact⟨(tY (L.map aP.c) cs c-1).toNat,by omega,by omega⟩
 ·cases h
end

/- Places of a trie in a state: what is computed (plain). -/
section
structure Pl where
 i:Int
 m:Int
 a:Int
 lv:Nat
 way:List Int
def rV(b:Nat):Nat->List Int
 | 0=>[]
 | k+1=>rV b k++(if b.testBit k then [(k:Int)] else [])
def yG(N:List Nv)(f:Int->List Int->List Int->Option (List Pl×List Pr))(way idx:List Int):List Int->Nat->List Int->Option (List Pl×List Pr)
 | [],_,_=>some ([],[])
 | b::r,j,s=>if(bH N b).kind=4 then(yG N f way idx r (j+1) s).map λ q=>(q.1,((bH N b).key,(bH N b).val)::q.2)
  else if(bH N b).kind=2 then(f b (way++[idx.getD j 0]) s).bind λ p=>(yG N f way idx r (j+1) (s++p.1.map Pl.i)).map λ q=>(p.1++q.1,p.2++q.2)
  else none
def Fl(N:List Nv)(cs:List Int):Nat->Int->Nat->Int->List Int->List Int->Option (List Pl×List Pr)
 | 0,_,_,_,_,_=>none
 | n+1,a,lv,i,way,s=>if i∈s then none else(iN N cs i).bind λ m =>
  if(bH N m).kind=5∨(bH N m).kind=6 then some ([⟨i,m,a,lv,way⟩],oi (bH N m))
  else(yG N (λ b w s=>Fl N cs n i (lv+1) b w s) way (rV (bH N m).bm.toNat 64) (bH N m).xs 0 (s++[i])).map λ q=>(⟨i,m,a,lv,way⟩::q.1,q.2)
end

/- The reference of views: the numbers of a bitmap's bits. -/
section
theorem Gf(b:Nat):∀k,(rV b k).length=gJ b k
 | 0=>rfl
 | k+1=>by
  simp only[rV,List.length_append,Gf b k,gJ]
  split<;>simp_all
end
end Go.Ct
namespace Go.Proofs.YtbajmaoegmbfgaaGreat
section
open Go Go.RowKit Go.Ct
theorem Ls{n:Nat}(hn:n<18446744073709551616)(w:World):Calls Tryz.prog 156 #[.int .u64 (n:Int)] w λ e w'=>∃x:Option Addr×Nat,e=.returned (.slice x.1 (rV n 64).length x.2)/\True/\SF w [] [] [] [(x.1,aG (rV n 64))] [] w':=by
 refine enter Tryz.func156 Tryz.ntmps156 rfl rfl ((SF.s0 w).kH 3 1) ?_
 simp only[cD]
 refine cP ?_;refine Ha ?_;refine Dn ?_
 refine oI [3,4,5,6,7,8,9,10,11,12,13,14,15] (λ y:Nat×Option Addr×Nat=>[(3,.slice y.2.1 (rV n y.1).length y.2.2),(4,.int .i64 ((y.1:Nat):Int))]) (λ y=>y.1<=64) (λ _=>_) (λ _=>_) (λ y=>[⟨y.2.1,aG (rV n y.1),y.2.2,3,1⟩]) (λ y=>64-y.1) ((0,none,0)) (by decide) (λ y f hx=>?_)
 dsimp only[iA,List.map,List.cons_append,List.nil_append]
 have hcl:=vE n y.1
 have hil:=Gf n y.1
 refine kX ?_;refine Cf ?_
 refine aZ (λ c6=>?_) (λ c6=>?_)
 ·refine rR ?_;refine jA ?_;refine aN (cV (hc:=λ w1 hw=>Et hn (y.1:Int) w1)) (λ x11=>?_);refine aH ?_
  refine aZ (λ c11=>?_) (λ c11=>?_)
  ·have e1:rV n (y.1+1)=rV n y.1++[(y.1:Int)]:=by rw[tE n (by omega) (by omega),Int.toNat_natCast] at c11;simp only[rV,c11,if_true]
   refine Ih ?_;refine eZ (λ x14=>?_);(refine eX (λ x15=>?_);try (refine eR (λ h15=>?_)));refine J1 ?_;refine fF ?_;refine uT ?_
   refine kQ ((by exact(y.1+1,x15))) ?_ ?_ (by repeat (first|(with_reducible exact yE.refl)|refine yE.cons (by exact rfl) ?_)) ?_ (λ w hw=>by simp only[e1];exact hw.back)
   ·omega
   ·repeat' (first|exact bG _|refine bA ?_ ?_)
    all_goals (first|exact rfl|(simp only[e1];(conv=>{lhs;whnf};simp;done)))
   ·(show y.1+1<=64;omega)
  ·have e1:rV n (y.1+1)=rV n y.1:=by rw[tE n (by omega) (by omega),Int.toNat_natCast] at c11;simp only[rV,c11];simp
   refine oP ?_;refine uT ?_
   refine kQ ((by exact(y.1+1,y.2))) ?_ ?_ (by repeat (first|(with_reducible exact yE.refl)|refine yE.cons (by exact rfl) ?_)) ?_ (λ w hw=>by simp only[e1];exact hw.back)
   ·omega
   ·repeat' (first|exact bG _|refine bA ?_ ?_)
    all_goals (first|exact rfl|(simp only[e1];exact rfl))
   ·(show y.1+1<=64;omega)
 ·refine bR rfl ?_;refine J2 ?_;refine J1 ?_
  refine aQ Tryz.results156 (λ w hw=>?_)
  have e2:y.1=64:=by omega
  rw[e2] at hw ⊢
  generalize rV n 64=B at hw ⊢
  exact⟨y.2,rfl,trivial,SF.frz hw.aV⟩
theorem H3{n:Nat}{b:Int}{ix:List Int}(hi:ix=rV n 64)(hn:n<18446744073709551616)(e:b=(n:Int))(w:World):Calls Tryz.prog 156 #[.int .u64 b] w λ e w'=>∃x:Option Addr×Nat,e=.returned (.slice x.1 ix.length x.2)/\True/\SF w [] [] [] [(x.1,aG ix)] [] w':=by
 rw[hi,e]
 with_reducible exact Ls hn w
end

/- Places of a trie: their lists in memory; steps of the loop over the branches. -/
end Go.Proofs.YtbajmaoegmbfgaaGreat
namespace Go.Ct
section
open Go Go.RowKit
structure qD where
 p:Pl
 wp:Option Addr
 wc:Nat
def qD.cells(v:qD):List Value:=[.int .i64 v.p.i,.int .i64 v.p.m,.int .i64 v.p.a,.int .i64 ((v.p.lv:Nat):Int),.slice v.wp v.p.way.length v.wc]
def qI(l:List qD):List Value:=l.flatMap qD.cells
def Ie(l:List qD):Fr:=l.map λ v=>(v.wp,aG v.p.way)
theorem vN:∀l:List qD,(qI l).length=l.length*5
 | []=>rfl
 | v::l=>by simp only[qI,List.flatMap_cons,List.length_append] at *;rw[show(List.flatMap qD.cells l).length=l.length*5 from vN l];simp[qD.cells];omega
theorem N7(l l2:List qD):qI (l++l2)=qI l++qI l2:=by simp[qI]
theorem An:∀l:List qD,(qI l).all (·.oneCell')=true
 | []=>rfl
 | v::l=>by simp only[qI,List.flatMap_cons,List.all_append];rw[show(List.flatMap qD.cells l).all (·.oneCell')=true from An l];rfl
section
variable{N:List Nv}{f:Int->List Int->List Int->Option (List Pl×List Pr)}{way idx xs s s2:List Int}{j:Nat}{r:List Pl×List Pr}
def Ao(N:List Nv)(f:Int->List Int->List Int->Option (List Pl×List Pr))(way idx xs s:List Int)(j:Nat)(tl:List Pl)(ps:List Pr):Prop :=
 yG N f way idx xs 0 s=(yG N f way idx (xs.drop j) j (s++tl.map Pl.i)).map λ q=>(tl++q.1,ps++q.2)
theorem Ao.zero:Ao N f way idx xs s 0 [] []:=by
 unfold Ao
 simp only[List.drop_zero,List.map_nil,List.append_nil,List.nil_append]
 cases yG N f way idx xs 0 s<;>rfl
theorem Ea{xs:List Int}{j:Nat}(h:j<xs.length):xs.drop j=xs.getD j 0::xs.drop (j+1):=by
 rw[List.drop_eq_getElem_cons h,jC,List.getElem?_eq_getElem h];rfl
theorem Ao.single{tl:List Pl}{ps:List Pr}(h:Ao N f way idx xs s j tl ps)(hj:j<xs.length)(hk:(bH N (xs.getD j 0)).kind=4):Ao N f way idx xs s (j+1) tl (ps++[((bH N (xs.getD j 0)).key,(bH N (xs.getD j 0)).val)]):=by
 unfold Ao at h ⊢
 rw[h,Ea hj]
 simp only[yG,hk,if_true]
 cases yG N f way idx (xs.drop (j+1)) (j+1) (s++tl.map Pl.i)<;>simp
theorem Ao.inner{tl:List Pl}{ps:List Pr}(h:Ao N f way idx xs s j tl ps)(hj:j<xs.length)(hk:(bH N (xs.getD j 0)).kind=2)(hf:f (xs.getD j 0) (way++[idx.getD j 0]) (s++tl.map Pl.i)=some r):Ao N f way idx xs s (j+1) (tl++r.1) (ps++r.2):=by
 unfold Ao at h ⊢
 rw[h,Ea hj]
 have h4:¬(bH N (xs.getD j 0)).kind=4:=by omega
 simp only[yG,h4,hk,if_true,if_false,hf,Option.bind_some,List.map_append,List.append_assoc]
 cases yG N f way idx (xs.drop (j+1)) (j+1) (s++(tl.map Pl.i++r.1.map Pl.i))<;>simp
theorem Ao.fail{tl:List Pl}{ps:List Pr}(h:Ao N f way idx xs s j tl ps)(hj:j<xs.length)(hk:(bH N (xs.getD j 0)).kind=2)(hf:f (xs.getD j 0) (way++[idx.getD j 0]) (s++tl.map Pl.i)=none):yG N f way idx xs 0 s=none:=by
 unfold Ao at h
 rw[h,Ea hj]
 have h4:¬(bH N (xs.getD j 0)).kind=4:=by omega
 simp only[yG,h4,hk,if_true,if_false,hf,Option.bind_none,Option.map_none,reduceCtorEq,show ¬((2:Int)=4) by decide]
theorem Ao.bad{tl:List Pl}{ps:List Pr}(h:Ao N f way idx xs s j tl ps)(hj:j<xs.length)(hk:(bH N (xs.getD j 0)).kind≠4)(hk2:(bH N (xs.getD j 0)).kind≠2):yG N f way idx xs 0 s=none:=by
 unfold Ao at h
 rw[h,Ea hj]
 simp only[yG,hk,hk2,if_false,Option.map_none]
theorem Ao.done{tl:List Pl}{ps:List Pr}(h:Ao N f way idx xs s j tl ps)(hj:xs.length<=j):yG N f way idx xs 0 s=some (tl,ps):=by
 unfold Ao at h
 rw[h,List.drop_eq_nil_of_le hj]
 simp[yG]
end
section
variable{N:List Nv}{cs:List Int}{a i m:Int}{lv n:Nat}{way s:List Int}
theorem dr(h:i∈s):∀{n:Nat},Fl N cs n a lv i way s=none
 | 0=>rfl
 | _+1=>if_pos h
theorem Z3(h:(iN N cs i).isSome=false):∀{n:Nat},Fl N cs n a lv i way s=none
 | 0=>rfl
 | n+1=>by
  unfold Fl
  cases hb:iN N cs i with
  | none=>split<;>rfl
  | some m=>rw[hb] at h;cases h
theorem Mh(h:¬i∈s)(h2:iN N cs i=some m)(h3:(bH N m).kind=5∨(bH N m).kind=6):Fl N cs (n+1) a lv i way s=some ([⟨i,m,a,lv,way⟩],oi (bH N m)):=by
 unfold Fl
 rw[if_neg h,h2,Option.bind_some,if_pos h3]
theorem ta(h:¬i∈s)(h2:iN N cs i=some m)(h3:¬((bH N m).kind=5∨(bH N m).kind=6)):Fl N cs (n+1) a lv i way s=(yG N (λ b w s=>Fl N cs n i (lv+1) b w s) way (rV (bH N m).bm.toNat 64) (bH N m).xs 0 (s++[i])).map λ q=>(⟨i,m,a,lv,way⟩::q.1,q.2):=by
 rw[Fl]
 rw[if_neg h,h2,Option.bind_some,if_neg h3]
end
end

/- Literals of lists that may be changed. -/
section
open Go Go.RowKit
section
variable{P:Program}{S:List (Nat×Value)}{G:World->Prop}{d:Nat}{ty t t' e:TypeId}{pos:String}{af:Array Edge}{gd:Option (Nat×Bool)}{x y:Operand}{w0 w:World}{M:List Nat}{H:List (Nat×Obj)}{A F:Fr}{O:List Ow}{a:Option Addr}
theorem SF.aBF{b c sz:Nat}{cs:List Value}{T:TypeId}(h:SF w0 M ((b,.cells ⟨cs⟩ T (0,0))::H) A F O w)(hl:cs.length=c*sz):SF w0 M H A F (⟨some ⟨b,0,none⟩,cs,c,T,sz⟩::O) w:=by
 have hp:(Ks H (⟨some ⟨b,0,none⟩,cs,c,T,sz⟩::O)).Perm (Ks ((b,.cells ⟨cs⟩ T (0,0))::H) O):=by
  unfold Ks
  simp only[List.flatMap_cons,iC,List.map_cons,List.cons_append,List.nil_append]
  exact List.perm_middle
 have hb:=h.st.has (b,.cells ⟨cs⟩ T (0,0)) (List.mem_cons_self ..)
 have hn:=h.st.new (b,.cells ⟨cs⟩ T (0,0)) (List.mem_cons_self ..)
 refine⟨h.st.sub (List.sublist_cons_self ..),λ f hf=>⟨(h.bJ f hf).1,λ hc hm=>(h.bJ f hf).2 hc (hp.mem_iff.1 hm)⟩,λ f hf=>⟨(h.new f hf).1,λ hc=>⟨λ hm=>((h.new f hf).2 hc).1 (hp.mem_iff.1 hm),((h.new f hf).2 hc).2⟩⟩,λ o ho=>?_,hp.nodup_iff.2 h.dis⟩
 rcases List.mem_cons.1 ho with rfl|ho
 ·refine⟨.inr ⟨b,[],rfl,by simpa using hb,by simpa using hl⟩,λ k hk=>?_⟩
  simp only[iC,List.mem_singleton] at hk
  subst hk
  exact hn.symm
 ·exact h.own o ho
theorem M8{len:Nat}{parts:List (Nat×Operand)}{ps:List (Nat×Value)}{zc cs:List Value}{sz:Nat}(he:dL P t e zc)(hv:jL S parts=ps)(hlen:ps.length=len)(hidx:ps.map Prod.fst=List.range' 0 ps.length)(h1:(ps.all λ p=>Nat.beq (mX p.2).length zc.length)=true)
  (hpos:(Nat.blt 0 len&&Nat.blt 0 zc.length&&Nat.ble (len*zc.length) 16777216)=true) (hcs:Da ps=cs) (hsz:cs.length=len*sz) :
  bC P S (SF w0 M H A F O) ⟨some d,.buildSlice t len ⟨parts⟩,ty,pos,af,gd⟩ Nat (λ b=>.slice (some ⟨b,0,none⟩) len len) (λ b=>SF w0 M H A F (⟨some ⟨b,0,none⟩,cs,len,e,sz⟩::O)) :=
 (jE λ _=>cN he hv hlen hidx h1 hpos hcs).conv λ b w h=>h.aBF hsz
end
end

end Go.Ct
