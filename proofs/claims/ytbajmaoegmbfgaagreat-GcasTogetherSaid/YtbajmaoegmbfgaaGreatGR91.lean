/- The reference of views: a node, a cell, the root, the main node of an I-node. -/
import Derived.Test.YtbajmaoegmbfgaaGreatGGc5
import Derived.Test.YtbajmaoegmbfgaaGreatGNode2
import Derived.Test.YtbajmaoegmbfgaaGreatGVw1
import Derived.Test.YtbajmaoegmbfgaaGreatGBitsE

set_option linter.unusedSimpArgs false
set_option linter.unusedVariables false
namespace Go.Proofs.YtbajmaoegmbfgaaGreat
section
open Go Go.RowKit Go.Ct
section
variable{L:List aP}{cs:List Int}{gen:Int}{pn pc:Option Addr}{cn cc:Nat}{w:World}
theorem zl(h:oF w L cs pn pc)(r:Int)(hr:r<1):Calls Tryz.prog 91 #[Nr L cs gen pn cn pc cc,.int .i64 r] w λ e w'=>e=.returned (aB L r).nd.v/\St w [] [] w':=by
 refine enter Tryz.func91 Tryz.ntmps91 rfl rfl h.start ?_
 simp only[bX]
 refine J0 ?_;refine bI (λ x2=>?_);refine aJ (λ x4=>?_);refine aH ?_;refine kB ?_;refine Cq ?_
 (refine eE 7 (λ g7=>?_) (λ g7=>?_)<;>(try (exfalso;omega))<;>(refine aI ?_))
 refine S4 ?_;refine Bh ?_;refine aH ?_
 refine bB (λ c13=>?_) (λ c13=>?_)
 ·try (exfalso;omega)
  refine J0 ?_;refine vB ?_
  refine bC Tryz.results91 (λ w hw=>?_)
  exact⟨by rw[pL (by omega)];rfl,hw.done⟩
 ·exact nv c13
theorem xp(h:oF w L cs pn pc){k:Nat}(hk:(k:Int)<9223372036854775807)(hl:L.length<=274877906944):Calls Tryz.prog 91 #[Nr L cs gen pn cn pc cc,.int .i64 ((k+1:Nat):Int)] w λ e w'=>e=.returned (aB L ((k+1:Nat):Int)).nd.v/\St w [] [] w':=by
 refine enter Tryz.func91 Tryz.ntmps91 rfl rfl h.start ?_
 simp only[bX]
 refine J0 ?_;refine bI (λ x2=>?_);refine aJ (λ x4=>?_);refine aH ?_;refine kB ?_;refine Cq ?_
 (refine aF ?_;refine aA ?_)
 refine S4 ?_;refine Bh ?_;refine aH ?_
 refine bB (λ c13=>?_) (λ c13=>?_)
 ·try (exfalso;omega)
  refine J0 ?_;refine vB ?_
  refine bC Tryz.results91 (λ w hw=>?_)
  (exact⟨by rw[pL (by omega)];rfl,hw.done⟩)
 ·try (exfalso;omega)
  refine bA ?_;refine gZ ?_;refine aA ?_;refine rT ?_;refine Rl ?_;refine J5 ?_
  refine bC Tryz.results91 (λ w hw=>?_)
  (exact⟨by rw[sC (by omega)];rfl,hw.done⟩)
theorem pZ(h:oF w L cs pn pc)(r:Int)(hr:r<=9223372036854775807)(hl:L.length<=274877906944):Calls Tryz.prog 91 #[Nr L cs gen pn cn pc cc,.int .i64 r] w λ e w'=>e=.returned (aB L r).nd.v/\St w [] [] w':=by
 rcases Int.lt_or_le r 1 with h1|h1
 ·exact zl h r h1
 ·obtain⟨k,rfl⟩:∃k:Nat,r=((k+1:Nat):Int):=⟨(r-1).toNat,by omega⟩
  exact xp h (by omega) hl
theorem li(h:oF w L cs pn pc)(r:Int)(hr:r<1):Calls Tryz.prog 90 #[Nr L cs gen pn cn pc cc,.int .i64 r] w λ e w'=>e=.returned (.int .i64 (bU cs r))/\St w [] [] w':=by
 refine enter Tryz.func90 Tryz.ntmps90 rfl rfl h.start ?_
 simp only[bX]
 refine J0 ?_;refine bI (λ x2=>?_);refine iB ?_;refine J2 ?_;refine Cq ?_
 (refine eE 7 (λ g7=>?_) (λ g7=>?_)<;>(try (exfalso;omega))<;>(refine aI ?_))
 refine S4 ?_;refine Bh ?_;refine aH ?_
 refine bB (λ c13=>?_) (λ c13=>?_)
 ·try (exfalso;omega)
  refine cO ?_
  refine aT Tryz.results90 (λ w hw=>?_)
  exact⟨by rw[rL (by omega)];rfl,hw.done⟩
 ·exact nv c13
theorem ld(h:oF w L cs pn pc){k:Nat}(hk:(k:Int)<9223372036854775807)(hl:cs.length<=274877906944):Calls Tryz.prog 90 #[Nr L cs gen pn cn pc cc,.int .i64 ((k+1:Nat):Int)] w λ e w'=>e=.returned (.int .i64 (bU cs ((k+1:Nat):Int)))/\St w [] [] w':=by
 refine enter Tryz.func90 Tryz.ntmps90 rfl rfl h.start ?_
 simp only[bX]
 refine J0 ?_;refine bI (λ x2=>?_);refine iB ?_;refine J2 ?_;refine Cq ?_
 (refine aF ?_;refine aA ?_)
 refine S4 ?_;refine Bh ?_;refine aH ?_
 refine bB (λ c13=>?_) (λ c13=>?_)
 ·try (exfalso;omega)
  refine cO ?_
  refine aT Tryz.results90 (λ w hw=>?_)
  (exact⟨by rw[rL (by omega)];rfl,hw.done⟩)
 ·try (exfalso;omega)
  refine bA ?_;refine gZ ?_;refine aA ?_;refine rT ?_;refine Rl ?_;refine J1 ?_
  refine aT Tryz.results90 (λ w hw=>?_)
  (exact⟨by rw[Gj (by omega)];rfl,hw.done⟩)
theorem El(h:oF w L cs pn pc)(r:Int)(hr:r<=9223372036854775807)(hl:cs.length<=274877906944):Calls Tryz.prog 90 #[Nr L cs gen pn cn pc cc,.int .i64 r] w λ e w'=>e=.returned (.int .i64 (bU cs r))/\St w [] [] w':=by
 rcases Int.lt_or_le r 1 with h1|h1
 ·exact li h r h1
 ·obtain⟨k,rfl⟩:∃k:Nat,r=((k+1:Nat):Int):=⟨(r-1).toNat,by omega⟩
  exact ld h (by omega) hl
theorem Ux(h:oF w L cs pn pc)(hb:StB L cs)(hl:L.length<=274877906944)(hc:cs.length<=274877906944)(i:Int)(hi:i<=9223372036854775807):Calls Tryz.prog 83 #[Nr L cs gen pn cn pc cc,.int .i64 i] w λ e w'=>e=.returned (.tuple #[.int .i64 ((iD (L.map aP.c) cs i).getD 0),.bool (iD (L.map aP.c) cs i).isSome])/\St w [] [] w':=by
 refine enter Tryz.func83 Tryz.ntmps83 rfl rfl h.start ?_
 simp only[bX]
 simp only[Nr]
 refine J0 ?_;refine bI (λ x2=>?_);refine J8 ?_;refine aV ?_;refine D4 ?_;refine aS (cV (hc:=λ w1 hw=>pZ (h.L9 hw) i hi hl)) (λ x10=>?_);refine cC ?_;refine lS ?_;refine aH ?_
 refine bB (λ c12=>?_) (λ c12=>?_)
 ·refine P7 ?_
  refine bC Tryz.results83 (λ w hw=>?_)
  refine⟨?_,hw.done⟩
  unfold iD yU oN wS
  simp only[cY,bZ,aP.c,Nd.c]
  simp_all
  rfl
 ·refine jV ?_;refine dK [(0,[]),(1,[]),(2,[]),(3,[0]),(4,[]),(5,[]),(6,[])] ?_;refine bG ?_;refine bG ?_;refine aN ?_;refine cH (i:=3) (hq:=(cV (hc:=λ w1 hw=>pZ (h.L9 hw) i hi hl))) (h:=λ x16=>?_);refine oS ?_;refine cH (i:=5) (hq:=(cV (hc:=λ w1 hw=>El (h.L9 hw) (aB L i).nd.main (hb.main i) hc))) (h:=λ x18=>?_);refine J7 ?_;refine aV ?_;refine D4 ?_;refine aS (cV (hc:=λ w1 hw=>pZ (h.L9 hw) (bU cs (aB L i).nd.main) (hb.cs _) hl)) (λ x21=>?_);refine aD (c0 (V:=.bool) (hc:=λ w1 hw=>wX _ w1)) (λ x22 h22=>?_);refine oH ?_
  refine bB (λ c23=>?_) (λ c23=>?_)
  ·refine P7 ?_
   refine bC Tryz.results83 (λ w hw=>?_)
   refine⟨?_,hw.done⟩
   unfold iD yU oN wS
   simp only[cY,bZ,aP.c,Nd.c]
   simp_all
   rfl
  ·refine jV ?_;refine dK [(0,[]),(1,[]),(2,[]),(3,[0]),(4,[]),(5,[]),(6,[])] ?_;refine bG ?_;refine bG ?_;refine aN ?_;refine cH (i:=3) (hq:=(cV (hc:=λ w1 hw=>pZ (h.L9 hw) (bU cs (aB L i).nd.main) (hb.cs _) hl))) (h:=λ x27=>?_);refine oS ?_;refine cH (i:=5) (hq:=(cV (hc:=λ w1 hw=>El (h.L9 hw) (aB L (bU cs (aB L i).nd.main)).nd.prev (hb.prev _) hc))) (h:=λ x29=>?_);refine J7 ?_;refine Dg ?_;refine J2 ?_;refine Ro ?_
   refine bB (λ c30=>?_) (λ c30=>?_)
   ·refine J2 ?_;refine J8 ?_
    refine bC Tryz.results83 (λ w hw=>?_)
    refine⟨?_,hw.done⟩
    unfold iD yU oN wS
    simp only[cY,bZ,aP.c,Nd.c]
    simp_all
    rfl
   ·refine D4 ?_;refine aS (cV (hc:=λ w1 hw=>pZ (h.L9 hw) (bU cs (aB L (bU cs (aB L i).nd.main)).nd.prev) (hb.cs _) hl)) (λ x37=>?_);refine cC ?_;refine Ro ?_
    refine bB (λ c34=>?_) (λ c34=>?_)
    ·refine dL ?_;refine bL ?_;refine aA ?_;refine aS (cV (hc:=λ w1 hw=>pZ (h.L9 hw) (bU cs (aB L (bU cs (aB L i).nd.main)).nd.prev) (hb.cs _) hl)) (λ x42=>?_);refine cC ?_;refine J1 ?_;refine fK ?_;refine aV ?_;refine D4 ?_;refine aS (cV (hc:=λ w1 hw=>pZ (h.L9 hw) _ (by exact hb.bK _) hl)) (λ x46=>?_);refine aD (c0 (V:=.bool) (hc:=λ w1 hw=>wX _ w1)) (λ x47 h47=>?_);refine oH ?_
     refine bB (λ c48=>?_) (λ c48=>?_)
     ·refine P7 ?_
      refine bC Tryz.results83 (λ w hw=>?_)
      refine⟨?_,hw.done⟩
      unfold iD yU oN wS
      simp only[cY,bZ,aP.c,Nd.c]
      simp_all
      rfl
     ·refine bA ?_;refine J2 ?_;refine J8 ?_
      refine bC Tryz.results83 (λ w hw=>?_)
      refine⟨?_,hw.done⟩
      unfold iD yU oN wS
      simp only[cY,bZ,aP.c,Nd.c]
      simp_all
      rfl
    ·refine nZ ?_;refine aV ?_;refine D4 ?_;refine aS (cV (hc:=λ w1 hw=>pZ (h.L9 hw) _ (by exact hb.cs _) hl)) (λ x46=>?_);refine aD (c0 (V:=.bool) (hc:=λ w1 hw=>wX _ w1)) (λ x47 h47=>?_);refine oH ?_
     refine bB (λ c48=>?_) (λ c48=>?_)
     ·refine P7 ?_
      refine bC Tryz.results83 (λ w hw=>?_)
      refine⟨?_,hw.done⟩
      unfold iD yU oN wS
      simp only[cY,bZ,aP.c,Nd.c]
      simp_all
      rfl
     ·refine bA ?_;refine J2 ?_;refine J8 ?_
      refine bC Tryz.results83 (λ w hw=>?_)
      refine⟨?_,hw.done⟩
      unfold iD yU oN wS
      simp only[cY,bZ,aP.c,Nd.c]
      simp_all
      rfl
theorem qb(h:oF w L cs pn pc)(hb:StB L cs)(hl:L.length<=274877906944)(hc:cs.length<=274877906944)(c:Int)(ro:Bool)(hi:c<=9223372036854775807):Calls Tryz.prog 95 #[Nr L cs gen pn cn pc cc,.agg ⟨[.int .i64 c,.bool ro]⟩] w λ e w'=>e=.returned (.tuple #[.int .i64 ((oO (L.map aP.c) cs c).getD 0),.bool (oO (L.map aP.c) cs c).isSome])/\St w [] [] w':=by
 refine enter Tryz.func95 Tryz.ntmps95 rfl rfl h.start ?_
 simp only[bX]
 simp only[Nr]
 refine J0 ?_;refine bI (λ x2=>?_);refine bI (λ x3=>?_);refine J8 ?_;refine nQ ?_;refine J3 ?_;refine aS (cV (hc:=λ w1 hw=>El (h.L9 hw) c hi hc)) (λ x11=>?_);refine iB ?_;refine D4 ?_;refine aS (cV (hc:=λ w1 hw=>pZ (h.L9 hw) (bU cs c) (hb.cs _) hl)) (λ x14=>?_);refine aJ (λ x7=>?_);refine J5 ?_;refine gZ ?_;refine uG ?_
 refine bB (λ c17=>?_) (λ c17=>?_)
 ·refine gZ ?_;refine J1 ?_;refine nQ ?_;refine J3 ?_;refine aS (cV (hc:=λ w1 hw=>El (h.L9 hw) (aB L (bU cs c)).nd.status (hb.status _) hc)) (λ x23=>?_);refine uG ?_
  refine bB (λ c24=>?_) (λ c24=>?_)
  ·refine dL ?_;refine J3 ?_;refine iB ?_;refine D4 ?_;refine aS (cV (hc:=λ w1 hw=>pZ (h.L9 hw) _ (by exact hb.new _) hl)) (λ x29=>?_);refine cC ?_;refine lS ?_;refine aH ?_
   refine bB (λ c31=>?_) (λ c31=>?_)
   ·refine P7 ?_
    refine bC Tryz.results95 (λ w hw=>?_)
    refine⟨?_,hw.done⟩
    unfold oO tY
    simp only[cY,bZ,aP.c,Nd.c]
    simp_all
    rfl
   ·refine bA ?_;refine J2 ?_;refine J8 ?_
    refine bC Tryz.results95 (λ w hw=>?_)
    refine⟨?_,hw.done⟩
    unfold oO tY
    simp only[cY,bZ,aP.c,Nd.c]
    simp_all
    rfl
  ·refine jV ?_;refine D4 ?_;refine aS (cV (hc:=λ w1 hw=>pZ (h.L9 hw) _ (by exact hb.bK _) hl)) (λ x29=>?_);refine cC ?_;refine lS ?_;refine aH ?_
   refine bB (λ c31=>?_) (λ c31=>?_)
   ·refine P7 ?_
    refine bC Tryz.results95 (λ w hw=>?_)
    refine⟨?_,hw.done⟩
    unfold oO tY
    simp only[cY,bZ,aP.c,Nd.c]
    simp_all
    rfl
   ·refine bA ?_;refine J2 ?_;refine J8 ?_
    refine bC Tryz.results95 (λ w hw=>?_)
    refine⟨?_,hw.done⟩
    unfold oO tY
    simp only[cY,bZ,aP.c,Nd.c]
    simp_all
    rfl
 ·refine jV ?_;refine D4 ?_;refine aS (cV (hc:=λ w1 hw=>pZ (h.L9 hw) _ (by exact hb.cs _) hl)) (λ x29=>?_);refine cC ?_;refine lS ?_;refine aH ?_
  refine bB (λ c31=>?_) (λ c31=>?_)
  ·refine P7 ?_
   refine bC Tryz.results95 (λ w hw=>?_)
   refine⟨?_,hw.done⟩
   unfold oO tY
   simp only[cY,bZ,aP.c,Nd.c]
   simp_all
   rfl
  ·refine bA ?_;refine J2 ?_;refine J8 ?_
   refine bC Tryz.results95 (λ w hw=>?_)
   refine⟨?_,hw.done⟩
   unfold oO tY
   simp only[cY,bZ,aP.c,Nd.c]
   simp_all
   rfl
end
end

/- Views: which nodes have been visited; lists of nodes. -/
end Go.Proofs.YtbajmaoegmbfgaaGreat
namespace Go.Ct
section
open Go Go.RowKit
def au(n:Nat)(vs:List Bool)(l:List Int):Prop:=vs.length=n/\(∀k,k<n->(vs.getD k false=true↔((k+1:Nat):Int)∈l))/\l.length+vs.count false=n
theorem au.zero(n:Nat):au n (List.replicate n false) []:=⟨by simp,λ k hk=>by simp[jH,hk],by simp⟩
theorem count_set:∀(vs:List Bool) (k:Nat),k<vs.length->vs.getD k false=false->(vs.set k true).count false+1=vs.count false
 | [],_,h,_=>by simp at h
 | b::vs,0,_,h=>by
  have e:b=false:=by simpa using h
  subst e
  simp
 | b::vs,k+1,h,h2=>by
  have:=count_set vs k (by simpa using h) (by simpa using h2)
  rw[List.set_cons_succ,List.count_cons,List.count_cons]
  omega
theorem au.set{n k:Nat}{vs:List Bool}{l:List Int}(h:au n vs l)(hk:k<n)(hf:vs.getD k false=false):au n (vs.set k true) (l++[((k+1:Nat):Int)]):=by
 have h1:=h.1
 refine⟨by simp[h.1],λ j hj=>?_,?_⟩
 ·have h2:=h.2.1 j hj
  rw[jH] at h2
  rw[jH,List.getElem?_set]
  by_cases e:k=j
  ·subst e
   simp[show k<vs.length by omega]
  ·rw[if_neg e,h2]
   simp only[List.mem_append,List.mem_singleton]
   constructor
   ·exact .inl
   ·rintro (h3|h3)
    ·exact h3
    ·omega
 ·have:=count_set vs k (by omega) hf
  have:=h.2.2
  simp only[List.length_append,List.length_cons,List.length_nil]
  omega
theorem au.len{n:Nat}{vs:List Bool}{l:List Int}(h:au n vs l):l.length<=n:=by have:=h.2.2;omega
theorem X7{N:List Nv}{r:Int}(h:bZ (cD N r)):1<=r/\r<=N.length:=eI (by unfold bZ at h;omega)
theorem tw{L:List aP}{r:Int}(h:1<=r/\r<=L.length):((aB L r).nd.brA,aG (aB L r).xs)∈aK L:=by
 unfold aB
 rw[if_pos h]
 exact E2 (by omega)
theorem s7{L:List aP}{r:Int}(h:1<=r/\r<=L.length):((aB L r).nd.prA,cU (aB L r).ys)∈aK L:=by
 unfold aB
 rw[if_pos h]
 exact Ep (by omega)
theorem a9(L:List aP)(r:Int):(cD (L.map aP.c) r).xs=(aB L r).xs:=by rw[cY];rfl
theorem p9{L:List aP}{cs:List Int}{c r:Int}(h:oO (L.map aP.c) cs c=some r):∃k:Nat,r=((k+1:Nat):Int)/\k<L.length:=by
 unfold oO at h
 split at h
 ·rename_i hk
  cases h
  have:=eI (N:=L.map aP.c) (i:=tY (L.map aP.c) cs c) (by omega)
  rw[List.length_map] at this
  exact⟨(tY (L.map aP.c) cs c-1).toNat,by omega,by omega⟩
 ·cases h
end

/- Places of a trie in a state: what is computed (plain). -/
section
structure Pl where
 i:Int
 m:Int
 a:Int
 lv:Nat
 way:List Int
def sE(b:Nat):Nat->List Int
 | 0=>[]
 | k+1=>sE b k++(if b.testBit k then [(k:Int)] else [])
def yJ(N:List Nv)(f:Int->List Int->List Int->Option (List Pl×List Pr))(way idx:List Int):List Int->Nat->List Int->Option (List Pl×List Pr)
 | [],_,_=>some ([],[])
 | b::r,j,s=>if(cD N b).kind=4 then(yJ N f way idx r (j+1) s).map λ q=>(q.1,((cD N b).key,(cD N b).val)::q.2)
  else if(cD N b).kind=2 then(f b (way++[idx.getD j 0]) s).bind λ p=>(yJ N f way idx r (j+1) (s++p.1.map Pl.i)).map λ q=>(p.1++q.1,p.2++q.2)
  else none
def Ji(N:List Nv)(cs:List Int):Nat->Int->Nat->Int->List Int->List Int->Option (List Pl×List Pr)
 | 0,_,_,_,_,_=>none
 | n+1,a,lv,i,way,s=>if i∈s then none else(iD N cs i).bind λ m =>
  if(cD N m).kind=5∨(cD N m).kind=6 then some ([⟨i,m,a,lv,way⟩],oq (cD N m))
  else(yJ N (λ b w s=>Ji N cs n i (lv+1) b w s) way (sE (cD N m).bm.toNat 64) (cD N m).xs 0 (s++[i])).map λ q=>(⟨i,m,a,lv,way⟩::q.1,q.2)
end

/- The reference of views: the numbers of a bitmap's bits. -/
section
theorem Hq(b:Nat):∀k,(sE b k).length=gI b k
 | 0=>rfl
 | k+1=>by
  simp only[sE,List.length_append,Hq b k,gI]
  split<;>simp_all
end
end Go.Ct
namespace Go.Proofs.YtbajmaoegmbfgaaGreat
section
open Go Go.RowKit Go.Ct
theorem L3{n:Nat}(hn:n<18446744073709551616)(w:World):Calls Tryz.prog 156 #[.int .u64 (n:Int)] w λ e w'=>∃x:Option Addr×Nat,e=.returned (.slice x.1 (sE n 64).length x.2)/\True/\SF w [] [] [] [(x.1,aG (sE n 64))] [] w':=by
 refine enter Tryz.func156 Tryz.ntmps156 rfl rfl ((SF.s0 w).kL 3 1) ?_
 simp only[bX]
 refine cO ?_;refine G0 ?_;refine Du ?_
 refine mZ [3,4,5,6,7,8,9,10,11,12,13,14,15] (λ y:Nat×Option Addr×Nat=>[(3,.slice y.2.1 (sE n y.1).length y.2.2),(4,.int .i64 ((y.1:Nat):Int))]) (λ y=>y.1<=64) (λ _=>_) (λ _=>_) (λ y=>[⟨y.2.1,aG (sE n y.1),y.2.2,3,1⟩]) (λ y=>64-y.1) ((0,none,0)) (by decide) (λ y f hx=>?_)
 dsimp only[gU,List.map,List.cons_append,List.nil_append]
 have hcl:=zQ n y.1
 have hil:=Hq n y.1
 refine kB ?_;refine xA ?_
 refine bB (λ c6=>?_) (λ c6=>?_)
 ·refine qE ?_;refine iR ?_;refine aS (cV (hc:=λ w1 hw=>Fy hn (y.1:Int) w1)) (λ x11=>?_);refine aH ?_
  refine bB (λ c11=>?_) (λ c11=>?_)
  ·have e1:sE n (y.1+1)=sE n y.1++[(y.1:Int)]:=by rw[sI n (by omega) (by omega),Int.toNat_natCast] at c11;simp only[sE,c11,if_true]
   refine I2 ?_;refine fE (λ x14=>?_);(refine fG (λ x15=>?_);try (refine eX (λ h15=>?_)));refine J1 ?_;refine fK ?_;refine uN ?_
   refine kT ((by exact(y.1+1,x15))) ?_ ?_ (by repeat (first|(with_reducible exact yI.refl)|refine yI.cons (by exact rfl) ?_)) ?_ (λ w hw=>by simp only[e1];exact hw.back)
   ·omega
   ·repeat' (first|exact bD _|refine aX ?_ ?_)
    all_goals (first|exact rfl|(simp only[e1];(conv=>{lhs;whnf};simp;done)))
   ·(show y.1+1<=64;omega)
  ·have e1:sE n (y.1+1)=sE n y.1:=by rw[sI n (by omega) (by omega),Int.toNat_natCast] at c11;simp only[sE,c11];simp
   refine nZ ?_;refine uN ?_
   refine kT ((by exact(y.1+1,y.2))) ?_ ?_ (by repeat (first|(with_reducible exact yI.refl)|refine yI.cons (by exact rfl) ?_)) ?_ (λ w hw=>by simp only[e1];exact hw.back)
   ·omega
   ·repeat' (first|exact bD _|refine aX ?_ ?_)
    all_goals (first|exact rfl|(simp only[e1];exact rfl))
   ·(show y.1+1<=64;omega)
 ·refine bN rfl ?_;refine J2 ?_;refine J1 ?_
  refine aT Tryz.results156 (λ w hw=>?_)
  have e2:y.1=64:=by omega
  rw[e2] at hw ⊢
  generalize sE n 64=B at hw ⊢
  exact⟨y.2,rfl,trivial,SF.frz hw.aU⟩
theorem I8{n:Nat}{b:Int}{ix:List Int}(hi:ix=sE n 64)(hn:n<18446744073709551616)(e:b=(n:Int))(w:World):Calls Tryz.prog 156 #[.int .u64 b] w λ e w'=>∃x:Option Addr×Nat,e=.returned (.slice x.1 ix.length x.2)/\True/\SF w [] [] [] [(x.1,aG ix)] [] w':=by
 rw[hi,e]
 with_reducible exact L3 hn w
end

/- Places of a trie: their lists in memory; steps of the loop over the branches. -/
end Go.Proofs.YtbajmaoegmbfgaaGreat
namespace Go.Ct
section
open Go Go.RowKit
structure qX where
 p:Pl
 wp:Option Addr
 wc:Nat
def qX.cells(v:qX):List Value:=[.int .i64 v.p.i,.int .i64 v.p.m,.int .i64 v.p.a,.int .i64 ((v.p.lv:Nat):Int),.slice v.wp v.p.way.length v.wc]
def qG(l:List qX):List Value:=l.flatMap qX.cells
def I6(l:List qX):Fr:=l.map λ v=>(v.wp,aG v.p.way)
theorem vC:∀l:List qX,(qG l).length=l.length*5
 | []=>rfl
 | v::l=>by simp only[qG,List.flatMap_cons,List.length_append] at *;rw[show(List.flatMap qX.cells l).length=l.length*5 from vC l];simp[qX.cells];omega
theorem Ps(l l2:List qX):qG (l++l2)=qG l++qG l2:=by simp[qG]
theorem Az:∀l:List qX,(qG l).all (·.oneCell')=true
 | []=>rfl
 | v::l=>by simp only[qG,List.flatMap_cons,List.all_append];rw[show(List.flatMap qX.cells l).all (·.oneCell')=true from Az l];rfl
section
variable{N:List Nv}{f:Int->List Int->List Int->Option (List Pl×List Pr)}{way idx xs s s2:List Int}{j:Nat}{r:List Pl×List Pr}
def Aq(N:List Nv)(f:Int->List Int->List Int->Option (List Pl×List Pr))(way idx xs s:List Int)(j:Nat)(tl:List Pl)(ps:List Pr):Prop :=
 yJ N f way idx xs 0 s=(yJ N f way idx (xs.drop j) j (s++tl.map Pl.i)).map λ q=>(tl++q.1,ps++q.2)
theorem Aq.zero:Aq N f way idx xs s 0 [] []:=by
 unfold Aq
 simp only[List.drop_zero,List.map_nil,List.append_nil,List.nil_append]
 cases yJ N f way idx xs 0 s<;>rfl
theorem E1{xs:List Int}{j:Nat}(h:j<xs.length):xs.drop j=xs.getD j 0::xs.drop (j+1):=by
 rw[List.drop_eq_getElem_cons h,jH,List.getElem?_eq_getElem h];rfl
theorem Aq.single{tl:List Pl}{ps:List Pr}(h:Aq N f way idx xs s j tl ps)(hj:j<xs.length)(hk:(cD N (xs.getD j 0)).kind=4):Aq N f way idx xs s (j+1) tl (ps++[((cD N (xs.getD j 0)).key,(cD N (xs.getD j 0)).val)]):=by
 unfold Aq at h ⊢
 rw[h,E1 hj]
 simp only[yJ,hk,if_true]
 cases yJ N f way idx (xs.drop (j+1)) (j+1) (s++tl.map Pl.i)<;>simp
theorem Aq.inner{tl:List Pl}{ps:List Pr}(h:Aq N f way idx xs s j tl ps)(hj:j<xs.length)(hk:(cD N (xs.getD j 0)).kind=2)(hf:f (xs.getD j 0) (way++[idx.getD j 0]) (s++tl.map Pl.i)=some r):Aq N f way idx xs s (j+1) (tl++r.1) (ps++r.2):=by
 unfold Aq at h ⊢
 rw[h,E1 hj]
 have h4:¬(cD N (xs.getD j 0)).kind=4:=by omega
 simp only[yJ,h4,hk,if_true,if_false,hf,Option.bind_some,List.map_append,List.append_assoc]
 cases yJ N f way idx (xs.drop (j+1)) (j+1) (s++(tl.map Pl.i++r.1.map Pl.i))<;>simp
theorem Aq.fail{tl:List Pl}{ps:List Pr}(h:Aq N f way idx xs s j tl ps)(hj:j<xs.length)(hk:(cD N (xs.getD j 0)).kind=2)(hf:f (xs.getD j 0) (way++[idx.getD j 0]) (s++tl.map Pl.i)=none):yJ N f way idx xs 0 s=none:=by
 unfold Aq at h
 rw[h,E1 hj]
 have h4:¬(cD N (xs.getD j 0)).kind=4:=by omega
 simp only[yJ,h4,hk,if_true,if_false,hf,Option.bind_none,Option.map_none,reduceCtorEq,show ¬((2:Int)=4) by decide]
theorem Aq.bad{tl:List Pl}{ps:List Pr}(h:Aq N f way idx xs s j tl ps)(hj:j<xs.length)(hk:(cD N (xs.getD j 0)).kind≠4)(hk2:(cD N (xs.getD j 0)).kind≠2):yJ N f way idx xs 0 s=none:=by
 unfold Aq at h
 rw[h,E1 hj]
 simp only[yJ,hk,hk2,if_false,Option.map_none]
theorem Aq.done{tl:List Pl}{ps:List Pr}(h:Aq N f way idx xs s j tl ps)(hj:xs.length<=j):yJ N f way idx xs 0 s=some (tl,ps):=by
 unfold Aq at h
 rw[h,List.drop_eq_nil_of_le hj]
 simp[yJ]
end
section
variable{N:List Nv}{cs:List Int}{a i m:Int}{lv n:Nat}{way s:List Int}
theorem ee(h:i∈s):∀{n:Nat},Ji N cs n a lv i way s=none
 | 0=>rfl
 | _+1=>if_pos h
theorem im(h:(iD N cs i).isSome=false):∀{n:Nat},Ji N cs n a lv i way s=none
 | 0=>rfl
 | n+1=>by
  unfold Ji
  cases hb:iD N cs i with
  | none=>split<;>rfl
  | some m=>rw[hb] at h;cases h
theorem Nj(h:¬i∈s)(h2:iD N cs i=some m)(h3:(cD N m).kind=5∨(cD N m).kind=6):Ji N cs (n+1) a lv i way s=some ([⟨i,m,a,lv,way⟩],oq (cD N m)):=by
 unfold Ji
 rw[if_neg h,h2,Option.bind_some,if_pos h3]
theorem v8(h:¬i∈s)(h2:iD N cs i=some m)(h3:¬((cD N m).kind=5∨(cD N m).kind=6)):Ji N cs (n+1) a lv i way s=(yJ N (λ b w s=>Ji N cs n i (lv+1) b w s) way (sE (cD N m).bm.toNat 64) (cD N m).xs 0 (s++[i])).map λ q=>(⟨i,m,a,lv,way⟩::q.1,q.2):=by
 rw[Ji]
 rw[if_neg h,h2,Option.bind_some,if_neg h3]
end
end

end Go.Ct
