/- Views: the root of a trie, the main node of an I-node. -/
import Derived.Test.YtbajmaoegmbfgaaGreatGVw1
import Derived.Test.YtbajmaoegmbfgaaGreatGAr9
import Derived.Test.YtbajmaoegmbfgaaGreatGBits
import Derived.Test.YtbajmaoegmbfgaaGreatGMst

set_option linter.unusedSimpArgs false
set_option linter.unusedVariables false
namespace Go.Ct
section
open Go Go.RowKit
theorem qV.Br{L:List aP}{cs:List Int}{pn pc:Option Addr}{w w0:World}{M:List Nat}{H:List (Nat×Obj)}{F:Fr}{O:List Ow}(h:qV w0 L cs pn pc)(hw:SF w0 M H ((pn,iO L)::(pc,aH cs)::aL L) F O w):qV w L cs pn pc:=hw.Hi (.inr (.inl (.head _))) (.inr (.inl (.tail _ (.head _)))) (λ f hf=>.inr (.inl (.tail _ (.tail _ hf)))) h.fit
theorem dB(L:List aP)(r:Int):bQ (L.map aP.c) r=(aB L r).c:=(uH L r).symm
end
end Go.Ct
namespace Go.Proofs.YtbajmaoegmbfgaaGreat
section
open Go Go.RowKit Go.Ct
section
variable{L:List aP}{cs:List Int}{gen:Int}{pn pc:Option Addr}{cn cc:Nat}{w:World}
abbrev E0(L:List aP)(cs:List Int)(gen:Int)(pn:Option Addr)(cn:Nat)(pc:Option Addr)(cc:Nat):Value:=.agg ⟨[.slice pn L.length cn,.slice pc cs.length cc,.int .i64 gen]⟩
structure StB(L:List aP)(cs:List Int):Prop where
 cs:∀c,bE cs c<=9223372036854775807
 bA:∀r,(aB L r).nd.bA<=9223372036854775807
 new:∀r,(aB L r).nd.new<=9223372036854775807
 main:∀r,(aB L r).nd.main<=9223372036854775807
 prev:∀r,(aB L r).nd.prev<=9223372036854775807
 status:∀r,(aB L r).nd.status<=9223372036854775807
 br:∀r,∀b∈(aB L r).xs,b<=9223372036854775807
end
end

/- The reference of views: a node, a cell, the root, the main node of an I-node. -/
section
open Go Go.RowKit Go.Ct
section
variable{L:List aP}{cs:List Int}{gen:Int}{pn pc:Option Addr}{cn cc:Nat}{w:World}
theorem aAt(h:qV w L cs pn pc)(r:Int)(hr:r<1):Calls Tryz.prog 91 #[E0 L cs gen pn cn pc cc,.int .i64 r] w λ e w'=>e=.returned (aB L r).nd.v/\St w [] [] w':=by
 refine enter Tryz.func91 Tryz.ntmps91 rfl rfl h.start ?_
 simp only[cA]
 refine J0 ?_;refine bK (λ x2=>?_);refine aJ (λ x4=>?_);refine aG ?_;refine kR ?_;refine Bu ?_
 (refine dZ 7 (λ g7=>?_) (λ g7=>?_)<;>(try (exfalso;omega))<;>(refine aI ?_))
 refine Sb ?_;refine Ka8 ?_
 refine bD (λ c13=>?_) (λ c13=>?_)
 ·try (exfalso;omega)
  refine Kc0 ?_
  refine aY Tryz.results91 (λ w hw=>?_)
  exact⟨by rw[qD (by omega)];rfl,hw.done⟩
 ·exact nv c13
theorem zs(h:qV w L cs pn pc){k:Nat}(hk:(k:Int)<9223372036854775807)(hl:L.length<=274877906944):Calls Tryz.prog 91 #[E0 L cs gen pn cn pc cc,.int .i64 ((k+1:Nat):Int)] w λ e w'=>e=.returned (aB L ((k+1:Nat):Int)).nd.v/\St w [] [] w':=by
 refine enter Tryz.func91 Tryz.ntmps91 rfl rfl h.start ?_
 simp only[cA]
 refine J0 ?_;refine bK (λ x2=>?_);refine aJ (λ x4=>?_);refine aG ?_;refine kR ?_;refine Bu ?_
 (refine Ka3 ?_)
 refine Sb ?_;refine Ka8 ?_
 refine bD (λ c13=>?_) (λ c13=>?_)
 ·try (exfalso;omega)
  refine Kc0 ?_
  refine aY Tryz.results91 (λ w hw=>?_)
  (exact⟨by rw[qD (by omega)];rfl,hw.done⟩)
 ·try (exfalso;omega)
  refine aW ?_;refine Kd0 ?_;refine rY ?_;refine Ru ?_;refine J5 ?_
  refine aY Tryz.results91 (λ w hw=>?_)
  (exact⟨by rw[rW (by omega)];rfl,hw.done⟩)
theorem nE(h:qV w L cs pn pc)(r:Int)(hr:r<=9223372036854775807)(hl:L.length<=274877906944):Calls Tryz.prog 91 #[E0 L cs gen pn cn pc cc,.int .i64 r] w λ e w'=>e=.returned (aB L r).nd.v/\St w [] [] w':=by
 rcases Int.lt_or_le r 1 with h1|h1
 ·exact aAt h r h1
 ·obtain⟨k,rfl⟩:∃k:Nat,r=((k+1:Nat):Int):=⟨(r-1).toNat,by omega⟩
  exact zs h (by omega) hl
theorem jw(h:qV w L cs pn pc)(r:Int)(hr:r<1):Calls Tryz.prog 90 #[E0 L cs gen pn cn pc cc,.int .i64 r] w λ e w'=>e=.returned (.int .i64 (bE cs r))/\St w [] [] w':=by
 refine enter Tryz.func90 Tryz.ntmps90 rfl rfl h.start ?_
 simp only[cA]
 refine J0 ?_;refine bK (λ x2=>?_);refine Kc3 ?_;refine Bu ?_
 (refine dZ 7 (λ g7=>?_) (λ g7=>?_)<;>(try (exfalso;omega))<;>(refine aI ?_))
 refine Sb ?_;refine Ka8 ?_
 refine bD (λ c13=>?_) (λ c13=>?_)
 ·try (exfalso;omega)
  refine cS ?_
  refine aQ Tryz.results90 (λ w hw=>?_)
  exact⟨by rw[sL (by omega)];rfl,hw.done⟩
 ·exact nv c13
theorem lx(h:qV w L cs pn pc){k:Nat}(hk:(k:Int)<9223372036854775807)(hl:cs.length<=274877906944):Calls Tryz.prog 90 #[E0 L cs gen pn cn pc cc,.int .i64 ((k+1:Nat):Int)] w λ e w'=>e=.returned (.int .i64 (bE cs ((k+1:Nat):Int)))/\St w [] [] w':=by
 refine enter Tryz.func90 Tryz.ntmps90 rfl rfl h.start ?_
 simp only[cA]
 refine J0 ?_;refine bK (λ x2=>?_);refine Kc3 ?_;refine Bu ?_
 (refine Ka3 ?_)
 refine Sb ?_;refine Ka8 ?_
 refine bD (λ c13=>?_) (λ c13=>?_)
 ·try (exfalso;omega)
  refine cS ?_
  refine aQ Tryz.results90 (λ w hw=>?_)
  (exact⟨by rw[sL (by omega)];rfl,hw.done⟩)
 ·try (exfalso;omega)
  refine aW ?_;refine Kd0 ?_;refine rY ?_;refine Ru ?_;refine J1 ?_
  refine aQ Tryz.results90 (λ w hw=>?_)
  (exact⟨by rw[Hz (by omega)];rfl,hw.done⟩)
theorem uC(h:qV w L cs pn pc)(r:Int)(hr:r<=9223372036854775807)(hl:cs.length<=274877906944):Calls Tryz.prog 90 #[E0 L cs gen pn cn pc cc,.int .i64 r] w λ e w'=>e=.returned (.int .i64 (bE cs r))/\St w [] [] w':=by
 rcases Int.lt_or_le r 1 with h1|h1
 ·exact jw h r h1
 ·obtain⟨k,rfl⟩:∃k:Nat,r=((k+1:Nat):Int):=⟨(r-1).toNat,by omega⟩
  exact lx h (by omega) hl
theorem M6(h:qV w L cs pn pc)(hb:StB L cs)(hl:L.length<=274877906944)(hc:cs.length<=274877906944)(i:Int)(hi:i<=9223372036854775807):Calls Tryz.prog 83 #[E0 L cs gen pn cn pc cc,.int .i64 i] w λ e w'=>e=.returned (.tuple #[.int .i64 ((fQ (L.map aP.c) cs i).getD 0),.bool (fQ (L.map aP.c) cs i).isSome])/\St w [] [] w':=by
 refine enter Tryz.func83 Tryz.ntmps83 rfl rfl h.start ?_
 simp only[cA]
 simp only[E0]
 refine J0 ?_;refine bK (λ x2=>?_);refine J8 ?_;refine aS ?_;refine Dg ?_;refine aN (cV (hc:=λ w1 hw=>nE (h.Br hw) i hi hl)) (λ x10=>?_);refine cC ?_;refine Kc6 ?_
 refine bD (λ c12=>?_) (λ c12=>?_)
 ·refine Py ?_
  refine aY Tryz.results83 (λ w hw=>?_)
  refine⟨?_,hw.done⟩
  unfold fQ yY oM wN
  simp only[dB,cG,aP.c,Nd.c]
  simp_all
  rfl
 ·refine kO ?_;refine eG [(0,[]),(1,[]),(2,[]),(3,[0]),(4,[]),(5,[]),(6,[])] ?_;refine bO ?_;refine bO ?_;refine aT ?_;refine cO (i:=3) (hq:=(cV (hc:=λ w1 hw=>nE (h.Br hw) i hi hl))) (h:=λ x16=>?_);refine mZ ?_;refine cO (i:=5) (hq:=(cV (hc:=λ w1 hw=>uC (h.Br hw) (aB L i).nd.main (hb.main i) hc))) (h:=λ x18=>?_);refine J7 ?_;refine aS ?_;refine Dg ?_;refine aN (cV (hc:=λ w1 hw=>nE (h.Br hw) (bE cs (aB L i).nd.main) (hb.cs _) hl)) (λ x21=>?_);refine aD (c0 (V:=.bool) (hc:=λ w1 hw=>yH _ w1)) (λ x22 h22=>?_);refine pE ?_
  refine bD (λ c23=>?_) (λ c23=>?_)
  ·refine Py ?_
   refine aY Tryz.results83 (λ w hw=>?_)
   refine⟨?_,hw.done⟩
   unfold fQ yY oM wN
   simp only[dB,cG,aP.c,Nd.c]
   simp_all
   rfl
  ·refine kO ?_;refine eG [(0,[]),(1,[]),(2,[]),(3,[0]),(4,[]),(5,[]),(6,[])] ?_;refine bO ?_;refine bO ?_;refine aT ?_;refine cO (i:=3) (hq:=(cV (hc:=λ w1 hw=>nE (h.Br hw) (bE cs (aB L i).nd.main) (hb.cs _) hl))) (h:=λ x27=>?_);refine mZ ?_;refine cO (i:=5) (hq:=(cV (hc:=λ w1 hw=>uC (h.Br hw) (aB L (bE cs (aB L i).nd.main)).nd.prev (hb.prev _) hc))) (h:=λ x29=>?_);refine J7 ?_;refine Ds ?_;refine J2 ?_;refine Rq ?_
   refine bD (λ c30=>?_) (λ c30=>?_)
   ·refine J2 ?_;refine J8 ?_
    refine aY Tryz.results83 (λ w hw=>?_)
    refine⟨?_,hw.done⟩
    unfold fQ yY oM wN
    simp only[dB,cG,aP.c,Nd.c]
    simp_all
    rfl
   ·refine Dg ?_;refine aN (cV (hc:=λ w1 hw=>nE (h.Br hw) (bE cs (aB L (bE cs (aB L i).nd.main)).nd.prev) (hb.cs _) hl)) (λ x37=>?_);refine cC ?_;refine Rq ?_
    refine bD (λ c34=>?_) (λ c34=>?_)
    ·refine dG ?_;refine bM ?_;refine aA ?_;refine aN (cV (hc:=λ w1 hw=>nE (h.Br hw) (bE cs (aB L (bE cs (aB L i).nd.main)).nd.prev) (hb.cs _) hl)) (λ x42=>?_);refine cC ?_;refine J1 ?_;refine fG ?_;refine aS ?_;refine Dg ?_;refine aN (cV (hc:=λ w1 hw=>nE (h.Br hw) _ (by exact hb.bA _) hl)) (λ x46=>?_);refine aD (c0 (V:=.bool) (hc:=λ w1 hw=>yH _ w1)) (λ x47 h47=>?_);refine pE ?_
     refine bD (λ c48=>?_) (λ c48=>?_)
     ·refine Py ?_
      refine aY Tryz.results83 (λ w hw=>?_)
      refine⟨?_,hw.done⟩
      unfold fQ yY oM wN
      simp only[dB,cG,aP.c,Nd.c]
      simp_all
      rfl
     ·refine aW ?_;refine J2 ?_;refine J8 ?_
      refine aY Tryz.results83 (λ w hw=>?_)
      refine⟨?_,hw.done⟩
      unfold fQ yY oM wN
      simp only[dB,cG,aP.c,Nd.c]
      simp_all
      rfl
    ·refine pG ?_;refine aS ?_;refine Dg ?_;refine aN (cV (hc:=λ w1 hw=>nE (h.Br hw) _ (by exact hb.cs _) hl)) (λ x46=>?_);refine aD (c0 (V:=.bool) (hc:=λ w1 hw=>yH _ w1)) (λ x47 h47=>?_);refine pE ?_
     refine bD (λ c48=>?_) (λ c48=>?_)
     ·refine Py ?_
      refine aY Tryz.results83 (λ w hw=>?_)
      refine⟨?_,hw.done⟩
      unfold fQ yY oM wN
      simp only[dB,cG,aP.c,Nd.c]
      simp_all
      rfl
     ·refine aW ?_;refine J2 ?_;refine J8 ?_
      refine aY Tryz.results83 (λ w hw=>?_)
      refine⟨?_,hw.done⟩
      unfold fQ yY oM wN
      simp only[dB,cG,aP.c,Nd.c]
      simp_all
      rfl
theorem q8(h:qV w L cs pn pc)(hb:StB L cs)(hl:L.length<=274877906944)(hc:cs.length<=274877906944)(c:Int)(ro:Bool)(hi:c<=9223372036854775807):Calls Tryz.prog 95 #[E0 L cs gen pn cn pc cc,.agg ⟨[.int .i64 c,.bool ro]⟩] w λ e w'=>e=.returned (.tuple #[.int .i64 ((iR (L.map aP.c) cs c).getD 0),.bool (iR (L.map aP.c) cs c).isSome])/\St w [] [] w':=by
 refine enter Tryz.func95 Tryz.ntmps95 rfl rfl h.start ?_
 simp only[cA]
 simp only[E0]
 refine J0 ?_;refine bK (λ x2=>?_);refine bK (λ x3=>?_);refine J8 ?_;refine nF ?_;refine J3 ?_;refine aN (cV (hc:=λ w1 hw=>uC (h.Br hw) c hi hc)) (λ x11=>?_);refine iZ ?_;refine Dg ?_;refine aN (cV (hc:=λ w1 hw=>nE (h.Br hw) (bE cs c) (hb.cs _) hl)) (λ x14=>?_);refine aJ (λ x7=>?_);refine J5 ?_;refine iB ?_;refine sU ?_
 refine bD (λ c17=>?_) (λ c17=>?_)
 ·refine iB ?_;refine J1 ?_;refine nF ?_;refine J3 ?_;refine aN (cV (hc:=λ w1 hw=>uC (h.Br hw) (aB L (bE cs c)).nd.status (hb.status _) hc)) (λ x23=>?_);refine sU ?_
  refine bD (λ c24=>?_) (λ c24=>?_)
  ·refine dG ?_;refine J3 ?_;refine iZ ?_;refine Dg ?_;refine aN (cV (hc:=λ w1 hw=>nE (h.Br hw) _ (by exact hb.new _) hl)) (λ x29=>?_);refine cC ?_;refine Kc6 ?_
   refine bD (λ c31=>?_) (λ c31=>?_)
   ·refine Py ?_
    refine aY Tryz.results95 (λ w hw=>?_)
    refine⟨?_,hw.done⟩
    unfold iR sJ
    simp only[dB,cG,aP.c,Nd.c]
    simp_all
    rfl
   ·refine aW ?_;refine J2 ?_;refine J8 ?_
    refine aY Tryz.results95 (λ w hw=>?_)
    refine⟨?_,hw.done⟩
    unfold iR sJ
    simp only[dB,cG,aP.c,Nd.c]
    simp_all
    rfl
  ·refine kO ?_;refine Dg ?_;refine aN (cV (hc:=λ w1 hw=>nE (h.Br hw) _ (by exact hb.bA _) hl)) (λ x29=>?_);refine cC ?_;refine Kc6 ?_
   refine bD (λ c31=>?_) (λ c31=>?_)
   ·refine Py ?_
    refine aY Tryz.results95 (λ w hw=>?_)
    refine⟨?_,hw.done⟩
    unfold iR sJ
    simp only[dB,cG,aP.c,Nd.c]
    simp_all
    rfl
   ·refine aW ?_;refine J2 ?_;refine J8 ?_
    refine aY Tryz.results95 (λ w hw=>?_)
    refine⟨?_,hw.done⟩
    unfold iR sJ
    simp only[dB,cG,aP.c,Nd.c]
    simp_all
    rfl
 ·refine kO ?_;refine Dg ?_;refine aN (cV (hc:=λ w1 hw=>nE (h.Br hw) _ (by exact hb.cs _) hl)) (λ x29=>?_);refine cC ?_;refine Kc6 ?_
  refine bD (λ c31=>?_) (λ c31=>?_)
  ·refine Py ?_
   refine aY Tryz.results95 (λ w hw=>?_)
   refine⟨?_,hw.done⟩
   unfold iR sJ
   simp only[dB,cG,aP.c,Nd.c]
   simp_all
   rfl
  ·refine aW ?_;refine J2 ?_;refine J8 ?_
   refine aY Tryz.results95 (λ w hw=>?_)
   refine⟨?_,hw.done⟩
   unfold iR sJ
   simp only[dB,cG,aP.c,Nd.c]
   simp_all
   rfl
end
end

/- Views: which nodes have been visited; lists of nodes. -/
end Go.Proofs.YtbajmaoegmbfgaaGreat
namespace Go.Ct
section
open Go Go.RowKit
def ae(n:Nat)(vs:List Bool)(l:List Int):Prop:=vs.length=n/\(∀k,k<n->(vs.getD k false=true↔((k+1:Nat):Int)∈l))/\l.length+vs.count false=n
theorem ae.zero(n:Nat):ae n (List.replicate n false) []:=⟨by simp,λ k hk=>by simp[jN,hk],by simp⟩
theorem count_set:∀(vs:List Bool) (k:Nat),k<vs.length->vs.getD k false=false->(vs.set k true).count false+1=vs.count false
 | [],_,h,_=>by simp at h
 | b::vs,0,_,h=>by
  have e:b=false:=by simpa using h
  subst e
  simp
 | b::vs,k+1,h,h2=>by
  have:=count_set vs k (by simpa using h) (by simpa using h2)
  rw[List.set_cons_succ,List.count_cons,List.count_cons]
  omega
theorem ae.set{n k:Nat}{vs:List Bool}{l:List Int}(h:ae n vs l)(hk:k<n)(hf:vs.getD k false=false):ae n (vs.set k true) (l++[((k+1:Nat):Int)]):=by
 have h1:=h.1
 refine⟨by simp[h.1],λ j hj=>?_,?_⟩
 ·have h2:=h.2.1 j hj
  rw[jN] at h2
  rw[jN,List.getElem?_set]
  by_cases e:k=j
  ·subst e
   simp[show k<vs.length by omega]
  ·rw[if_neg e,h2]
   simp only[List.mem_append,List.mem_singleton]
   constructor
   ·exact .inl
   ·rintro (h3|h3)
    ·exact h3
    ·omega
 ·have:=count_set vs k (by omega) hf
  have:=h.2.2
  simp only[List.length_append,List.length_cons,List.length_nil]
  omega
theorem ae.len{n:Nat}{vs:List Bool}{l:List Int}(h:ae n vs l):l.length<=n:=by have:=h.2.2;omega
theorem Ys{N:List Nv}{r:Int}(h:cG (bQ N r)):1<=r/\r<=N.length:=dW (by unfold cG at h;omega)
theorem oc{L:List aP}{r:Int}(h:1<=r/\r<=L.length):((aB L r).nd.brA,aH (aB L r).xs)∈aL L:=by
 unfold aB
 rw[if_pos h]
 exact E3 (by omega)
theorem q7{L:List aP}{r:Int}(h:1<=r/\r<=L.length):((aB L r).nd.prA,cZ (aB L r).ys)∈aL L:=by
 unfold aB
 rw[if_pos h]
 exact Eu (by omega)
theorem l7(L:List aP)(r:Int):(bQ (L.map aP.c) r).xs=(aB L r).xs:=by rw[dB];rfl
theorem r0{L:List aP}{cs:List Int}{c r:Int}(h:iR (L.map aP.c) cs c=some r):∃k:Nat,r=((k+1:Nat):Int)/\k<L.length:=by
 unfold iR at h
 split at h
 ·rename_i hk
  cases h
  have:=dW (N:=L.map aP.c) (i:=sJ (L.map aP.c) cs c) (by omega)
  rw[List.length_map] at this
  exact⟨(sJ (L.map aP.c) cs c-1).toNat,by omega,by omega⟩
 ·cases h
end

/- Places of a trie in a state: what is computed (plain). -/
section
structure Pl where
 i:Int
 m:Int
 a:Int
 lv:Nat
 way:List Int
def sS(b:Nat):Nat->List Int
 | 0=>[]
 | k+1=>sS b k++(if b.testBit k then [(k:Int)] else [])
def zB(N:List Nv)(f:Int->List Int->List Int->Option (List Pl×List Pr))(way idx:List Int):List Int->Nat->List Int->Option (List Pl×List Pr)
 | [],_,_=>some ([],[])
 | b::r,j,s=>if(bQ N b).kind=4 then(zB N f way idx r (j+1) s).map λ q=>(q.1,((bQ N b).key,(bQ N b).val)::q.2)
  else if(bQ N b).kind=2 then(f b (way++[idx.getD j 0]) s).bind λ p=>(zB N f way idx r (j+1) (s++p.1.map Pl.i)).map λ q=>(p.1++q.1,p.2++q.2)
  else none
def Ef(N:List Nv)(cs:List Int):Nat->Int->Nat->Int->List Int->List Int->Option (List Pl×List Pr)
 | 0,_,_,_,_,_=>none
 | n+1,a,lv,i,way,s=>if i∈s then none else(fQ N cs i).bind λ m =>
  if(bQ N m).kind=5∨(bQ N m).kind=6 then some ([⟨i,m,a,lv,way⟩],ud (bQ N m))
  else(zB N (λ b w s=>Ef N cs n i (lv+1) b w s) way (sS (bQ N m).bm.toNat 64) (bQ N m).xs 0 (s++[i])).map λ q=>(⟨i,m,a,lv,way⟩::q.1,q.2)
end

/- The reference of views: the numbers of a bitmap's bits. -/
section
theorem Ik(b:Nat):∀k,(sS b k).length=gU b k
 | 0=>rfl
 | k+1=>by
  simp only[sS,List.length_append,Ik b k,gU]
  split<;>simp_all
end
end Go.Ct
namespace Go.Proofs.YtbajmaoegmbfgaaGreat
section
open Go Go.RowKit Go.Ct
theorem Lt{n:Nat}(hn:n<18446744073709551616)(w:World):Calls Tryz.prog 156 #[.int .u64 (n:Int)] w λ e w'=>∃x:Option Addr×Nat,e=.returned (.slice x.1 (sS n 64).length x.2)/\True/\SF w [] [] [] [(x.1,aH (sS n 64))] [] w':=by
 refine enter Tryz.func156 Tryz.ntmps156 rfl rfl ((SF.s0 w).kU 3 1) ?_
 simp only[cA]
 refine cS ?_;refine Gi ?_;refine Ea ?_
 refine oK [3,4,5,6,7,8,9,10,11,12,13,14,15] (λ y:Nat×Option Addr×Nat=>[(3,.slice y.2.1 (sS n y.1).length y.2.2),(4,.int .i64 ((y.1:Nat):Int))]) (λ y=>y.1<=64) (λ _=>_) (λ _=>_) (λ y=>[⟨y.2.1,aH (sS n y.1),y.2.2,3,1⟩]) (λ y=>64-y.1) ((0,none,0)) (by decide) (λ y f hx=>?_)
 dsimp only[hX,List.map,List.cons_append,List.nil_append]
 have hcl:=Af n y.1
 have hil:=Ik n y.1
 refine kR ?_;refine Bv ?_
 refine bD (λ c6=>?_) (λ c6=>?_)
 ·refine rR ?_;refine jJ ?_;refine aN (cV (hc:=λ w1 hw=>Hr hn (y.1:Int) w1)) (λ x11=>?_);refine aG ?_
  refine bD (λ c11=>?_) (λ c11=>?_)
  ·have e1:sS n (y.1+1)=sS n y.1++[(y.1:Int)]:=by rw[tL n (by omega) (by omega),Int.toNat_natCast] at c11;simp only[sS,c11,if_true]
   refine Jc ?_;refine fF (λ x14=>?_);(refine fE (λ x15=>?_);try (refine eN (λ h15=>?_)));refine J1 ?_;refine Kb2 ?_
   refine lB ((by exact(y.1+1,x15))) ?_ ?_ (by repeat (first|(with_reducible exact zF.refl)|refine zF.cons (by exact rfl) ?_)) ?_ (λ w hw=>by simp only[e1];exact hw.back)
   ·omega
   ·repeat' (first|exact bJ _|refine bF ?_ ?_)
    all_goals (first|exact rfl|(simp only[e1];(conv=>{lhs;whnf};simp;done)))
   ·(show y.1+1<=64;omega)
  ·have e1:sS n (y.1+1)=sS n y.1:=by rw[tL n (by omega) (by omega),Int.toNat_natCast] at c11;simp only[sS,c11];simp
   refine Kc2 ?_
   refine lB ((by exact(y.1+1,y.2))) ?_ ?_ (by repeat (first|(with_reducible exact zF.refl)|refine zF.cons (by exact rfl) ?_)) ?_ (λ w hw=>by simp only[e1];exact hw.back)
   ·omega
   ·repeat' (first|exact bJ _|refine bF ?_ ?_)
    all_goals (first|exact rfl|(simp only[e1];exact rfl))
   ·(show y.1+1<=64;omega)
 ·refine bR rfl ?_;refine Ka5 ?_
  refine aQ Tryz.results156 (λ w hw=>?_)
  have e2:y.1=64:=by omega
  rw[e2] at hw ⊢
  generalize sS n 64=B at hw ⊢
  exact⟨y.2,rfl,trivial,SF.frz hw.aX⟩
theorem I8{n:Nat}{b:Int}{ix:List Int}(hi:ix=sS n 64)(hn:n<18446744073709551616)(e:b=(n:Int))(w:World):Calls Tryz.prog 156 #[.int .u64 b] w λ e w'=>∃x:Option Addr×Nat,e=.returned (.slice x.1 ix.length x.2)/\True/\SF w [] [] [] [(x.1,aH ix)] [] w':=by
 rw[hi,e]
 with_reducible exact Lt hn w
end

/- Places of a trie: their lists in memory; steps of the loop over the branches. -/
end Go.Proofs.YtbajmaoegmbfgaaGreat
namespace Go.Ct
section
open Go Go.RowKit
structure vN where
 p:Pl
 wp:Option Addr
 wc:Nat
def vN.cells(v:vN):List Value:=[.int .i64 v.p.i,.int .i64 v.p.m,.int .i64 v.p.a,.int .i64 ((v.p.lv:Nat):Int),.slice v.wp v.p.way.length v.wc]
def qU(l:List vN):List Value:=l.flatMap vN.cells
def I4(l:List vN):Fr:=l.map λ v=>(v.wp,aH v.p.way)
theorem vR:∀l:List vN,(qU l).length=l.length*5
 | []=>rfl
 | v::l=>by simp only[qU,List.flatMap_cons,List.length_append] at *;rw[show(List.flatMap vN.cells l).length=l.length*5 from vR l];simp[vN.cells];omega
theorem Ra(l l2:List vN):qU (l++l2)=qU l++qU l2:=by simp[qU]
theorem Bg:∀l:List vN,(qU l).all (·.oneCell')=true
 | []=>rfl
 | v::l=>by simp only[qU,List.flatMap_cons,List.all_append];rw[show(List.flatMap vN.cells l).all (·.oneCell')=true from Bg l];rfl
section
variable{N:List Nv}{f:Int->List Int->List Int->Option (List Pl×List Pr)}{way idx xs s s2:List Int}{j:Nat}{r:List Pl×List Pr}
def Aw(N:List Nv)(f:Int->List Int->List Int->Option (List Pl×List Pr))(way idx xs s:List Int)(j:Nat)(tl:List Pl)(ps:List Pr):Prop :=
 zB N f way idx xs 0 s=(zB N f way idx (xs.drop j) j (s++tl.map Pl.i)).map λ q=>(tl++q.1,ps++q.2)
theorem Aw.zero:Aw N f way idx xs s 0 [] []:=by
 unfold Aw
 simp only[List.drop_zero,List.map_nil,List.append_nil,List.nil_append]
 cases zB N f way idx xs 0 s<;>rfl
theorem Ey{xs:List Int}{j:Nat}(h:j<xs.length):xs.drop j=xs.getD j 0::xs.drop (j+1):=by
 rw[List.drop_eq_getElem_cons h,jN,List.getElem?_eq_getElem h];rfl
theorem Aw.single{tl:List Pl}{ps:List Pr}(h:Aw N f way idx xs s j tl ps)(hj:j<xs.length)(hk:(bQ N (xs.getD j 0)).kind=4):Aw N f way idx xs s (j+1) tl (ps++[((bQ N (xs.getD j 0)).key,(bQ N (xs.getD j 0)).val)]):=by
 unfold Aw at h ⊢
 rw[h,Ey hj]
 simp only[zB,hk,if_true]
 cases zB N f way idx (xs.drop (j+1)) (j+1) (s++tl.map Pl.i)<;>simp
theorem Aw.inner{tl:List Pl}{ps:List Pr}(h:Aw N f way idx xs s j tl ps)(hj:j<xs.length)(hk:(bQ N (xs.getD j 0)).kind=2)(hf:f (xs.getD j 0) (way++[idx.getD j 0]) (s++tl.map Pl.i)=some r):Aw N f way idx xs s (j+1) (tl++r.1) (ps++r.2):=by
 unfold Aw at h ⊢
 rw[h,Ey hj]
 have h4:¬(bQ N (xs.getD j 0)).kind=4:=by omega
 simp only[zB,h4,hk,if_true,if_false,hf,Option.bind_some,List.map_append,List.append_assoc]
 cases zB N f way idx (xs.drop (j+1)) (j+1) (s++(tl.map Pl.i++r.1.map Pl.i))<;>simp
theorem Aw.fail{tl:List Pl}{ps:List Pr}(h:Aw N f way idx xs s j tl ps)(hj:j<xs.length)(hk:(bQ N (xs.getD j 0)).kind=2)(hf:f (xs.getD j 0) (way++[idx.getD j 0]) (s++tl.map Pl.i)=none):zB N f way idx xs 0 s=none:=by
 unfold Aw at h
 rw[h,Ey hj]
 have h4:¬(bQ N (xs.getD j 0)).kind=4:=by omega
 simp only[zB,h4,hk,if_true,if_false,hf,Option.bind_none,Option.map_none,reduceCtorEq,show ¬((2:Int)=4) by decide]
theorem Aw.bad{tl:List Pl}{ps:List Pr}(h:Aw N f way idx xs s j tl ps)(hj:j<xs.length)(hk:(bQ N (xs.getD j 0)).kind≠4)(hk2:(bQ N (xs.getD j 0)).kind≠2):zB N f way idx xs 0 s=none:=by
 unfold Aw at h
 rw[h,Ey hj]
 simp only[zB,hk,hk2,if_false,Option.map_none]
theorem Aw.done{tl:List Pl}{ps:List Pr}(h:Aw N f way idx xs s j tl ps)(hj:xs.length<=j):zB N f way idx xs 0 s=some (tl,ps):=by
 unfold Aw at h
 rw[h,List.drop_eq_nil_of_le hj]
 simp[zB]
end
section
variable{N:List Nv}{cs:List Int}{a i m:Int}{lv n:Nat}{way s:List Int}
theorem cx(h:i∈s):∀{n:Nat},Ef N cs n a lv i way s=none
 | 0=>rfl
 | _+1=>if_pos h
theorem l9(h:(fQ N cs i).isSome=false):∀{n:Nat},Ef N cs n a lv i way s=none
 | 0=>rfl
 | n+1=>by
  unfold Ef
  cases hb:fQ N cs i with
  | none=>split<;>rfl
  | some m=>rw[hb] at h;cases h
theorem Lc(h:¬i∈s)(h2:fQ N cs i=some m)(h3:(bQ N m).kind=5∨(bQ N m).kind=6):Ef N cs (n+1) a lv i way s=some ([⟨i,m,a,lv,way⟩],ud (bQ N m)):=by
 unfold Ef
 rw[if_neg h,h2,Option.bind_some,if_pos h3]
theorem v5(h:¬i∈s)(h2:fQ N cs i=some m)(h3:¬((bQ N m).kind=5∨(bQ N m).kind=6)):Ef N cs (n+1) a lv i way s=(zB N (λ b w s=>Ef N cs n i (lv+1) b w s) way (sS (bQ N m).bm.toNat 64) (bQ N m).xs 0 (s++[i])).map λ q=>(⟨i,m,a,lv,way⟩::q.1,q.2):=by
 rw[Ef]
 rw[if_neg h,h2,Option.bind_some,if_neg h3]
end
end

/- Literals of lists that may be changed. -/
section
open Go Go.RowKit
section
variable{P:Program}{S:List (Nat×Value)}{G:World->Prop}{d:Nat}{ty t t' e:TypeId}{pos:String}{af:Array Edge}{gd:Option (Nat×Bool)}{x y:Operand}{w0 w:World}{M:List Nat}{H:List (Nat×Obj)}{A F:Fr}{O:List Ow}{a:Option Addr}
theorem SF.aCv{b c sz:Nat}{cs:List Value}{T:TypeId}(h:SF w0 M ((b,.cells ⟨cs⟩ T (0,0))::H) A F O w)(hl:cs.length=c*sz):SF w0 M H A F (⟨some ⟨b,0,none⟩,cs,c,T,sz⟩::O) w:=by
 have hp:(Ks H (⟨some ⟨b,0,none⟩,cs,c,T,sz⟩::O)).Perm (Ks ((b,.cells ⟨cs⟩ T (0,0))::H) O):=by
  unfold Ks
  simp only[List.flatMap_cons,iP,List.map_cons,List.cons_append,List.nil_append]
  exact List.perm_middle
 have hb:=h.st.has (b,.cells ⟨cs⟩ T (0,0)) (List.mem_cons_self ..)
 have hn:=h.st.new (b,.cells ⟨cs⟩ T (0,0)) (List.mem_cons_self ..)
 refine⟨h.st.sub (List.sublist_cons_self ..),λ f hf=>⟨(h.bA f hf).1,λ hc hm=>(h.bA f hf).2 hc (hp.mem_iff.1 hm)⟩,λ f hf=>⟨(h.new f hf).1,λ hc=>⟨λ hm=>((h.new f hf).2 hc).1 (hp.mem_iff.1 hm),((h.new f hf).2 hc).2⟩⟩,λ o ho=>?_,hp.nodup_iff.2 h.dis⟩
 rcases List.mem_cons.1 ho with rfl|ho
 ·refine⟨.inr ⟨b,[],rfl,by simpa using hb,by simpa using hl⟩,λ k hk=>?_⟩
  simp only[iP,List.mem_singleton] at hk
  subst hk
  exact hn.symm
 ·exact h.own o ho
theorem Oy{len:Nat}{parts:List (Nat×Operand)}{ps:List (Nat×Value)}{zc cs:List Value}{sz:Nat}(he:dM P t e zc)(hv:jV S parts=ps)(hlen:ps.length=len)(hidx:ps.map Prod.fst=List.range' 0 ps.length)(h1:(ps.all λ p=>Nat.beq (nW p.2).length zc.length)=true)
  (hpos:(Nat.blt 0 len&&Nat.blt 0 zc.length&&Nat.ble (len*zc.length) 16777216)=true) (hcs:D2 ps=cs) (hsz:cs.length=len*sz) :
  bG P S (SF w0 M H A F O) ⟨some d,.buildSlice t len ⟨parts⟩,ty,pos,af,gd⟩ Nat (λ b=>.slice (some ⟨b,0,none⟩) len len) (λ b=>SF w0 M H A F (⟨some ⟨b,0,none⟩,cs,len,e,sz⟩::O)) :=
 (gV λ _=>cW he hv hlen hidx h1 hpos hcs).conv λ b w h=>h.aCv hsz
end
end

end Go.Ct
