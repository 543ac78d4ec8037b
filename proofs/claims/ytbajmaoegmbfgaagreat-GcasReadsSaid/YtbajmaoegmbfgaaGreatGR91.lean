/- The reference of views: a node, a cell, the root, the main node of an I-node. -/
import Derived.Test.YtbajmaoegmbfgaaGreatGGc5
import Derived.Test.YtbajmaoegmbfgaaGreatGNode2
import Derived.Test.YtbajmaoegmbfgaaGreatGVw1
import Derived.Test.YtbajmaoegmbfgaaGreatGBitsE

set_option linter.unusedSimpArgs false
set_option linter.unusedVariables false
namespace Go.Proofs.YtbajmaoegmbfgaaGreat
section
open Go Go.RowKit Go.Ct
section
variable{L:List aP}{cs:List Int}{gen:Int}{pn pc:Option Addr}{cn cc:Nat}{w:World}
theorem yl(h:oA w L cs pn pc)(r:Int)(hr:r<1):Calls Tryz.prog 91 #[Nh L cs gen pn cn pc cc,.int .i64 r] w λ e w'=>e=.returned (aB L r).nd.v/\St w [] [] w':=by
 refine enter Tryz.func91 Tryz.ntmps91 rfl rfl h.start ?_
 simp only[bX]
 refine J0 ?_;refine bI (λ x2=>?_);refine aJ (λ x4=>?_);refine aH ?_;refine kA ?_;refine Ck ?_
 (refine eD 7 (λ g7=>?_) (λ g7=>?_)<;>(try (exfalso;omega))<;>(refine aI ?_))
 refine Ti ?_;refine Ae ?_;refine aH ?_
 refine bB (λ c13=>?_) (λ c13=>?_)
 ·try (exfalso;omega)
  refine J0 ?_;refine vS ?_
  refine bC Tryz.results91 (λ w hw=>?_)
  exact⟨by rw[pU (by omega)];rfl,hw.done⟩
 ·exact nv c13
theorem z4(h:oA w L cs pn pc){k:Nat}(hk:(k:Int)<9223372036854775807)(hl:L.length<=274877906944):Calls Tryz.prog 91 #[Nh L cs gen pn cn pc cc,.int .i64 ((k+1:Nat):Int)] w λ e w'=>e=.returned (aB L ((k+1:Nat):Int)).nd.v/\St w [] [] w':=by
 refine enter Tryz.func91 Tryz.ntmps91 rfl rfl h.start ?_
 simp only[bX]
 refine J0 ?_;refine bI (λ x2=>?_);refine aJ (λ x4=>?_);refine aH ?_;refine kA ?_;refine Ck ?_
 (refine aF ?_;refine aA ?_)
 refine Ti ?_;refine Ae ?_;refine aH ?_
 refine bB (λ c13=>?_) (λ c13=>?_)
 ·try (exfalso;omega)
  refine J0 ?_;refine vS ?_
  refine bC Tryz.results91 (λ w hw=>?_)
  (exact⟨by rw[pU (by omega)];rfl,hw.done⟩)
 ·try (exfalso;omega)
  refine aY ?_;refine gY ?_;refine aA ?_;refine rU ?_;refine Q4 ?_;refine J5 ?_
  refine bC Tryz.results91 (λ w hw=>?_)
  (exact⟨by rw[rO (by omega)];rfl,hw.done⟩)
theorem pV(h:oA w L cs pn pc)(r:Int)(hr:r<=9223372036854775807)(hl:L.length<=274877906944):Calls Tryz.prog 91 #[Nh L cs gen pn cn pc cc,.int .i64 r] w λ e w'=>e=.returned (aB L r).nd.v/\St w [] [] w':=by
 rcases Int.lt_or_le r 1 with h1|h1
 ·exact yl h r h1
 ·obtain⟨k,rfl⟩:∃k:Nat,r=((k+1:Nat):Int):=⟨(r-1).toNat,by omega⟩
  exact z4 h (by omega) hl
theorem iw(h:oA w L cs pn pc)(r:Int)(hr:r<1):Calls Tryz.prog 90 #[Nh L cs gen pn cn pc cc,.int .i64 r] w λ e w'=>e=.returned (.int .i64 (bU cs r))/\St w [] [] w':=by
 refine enter Tryz.func90 Tryz.ntmps90 rfl rfl h.start ?_
 simp only[bX]
 refine J0 ?_;refine bI (λ x2=>?_);refine iE ?_;refine J2 ?_;refine Ck ?_
 (refine eD 7 (λ g7=>?_) (λ g7=>?_)<;>(try (exfalso;omega))<;>(refine aI ?_))
 refine Ti ?_;refine Ae ?_;refine aH ?_
 refine bB (λ c13=>?_) (λ c13=>?_)
 ·try (exfalso;omega)
  refine cO ?_
  refine aS Tryz.results90 (λ w hw=>?_)
  exact⟨by rw[rS (by omega)];rfl,hw.done⟩
 ·exact nv c13
theorem ft(h:oA w L cs pn pc){k:Nat}(hk:(k:Int)<9223372036854775807)(hl:cs.length<=274877906944):Calls Tryz.prog 90 #[Nh L cs gen pn cn pc cc,.int .i64 ((k+1:Nat):Int)] w λ e w'=>e=.returned (.int .i64 (bU cs ((k+1:Nat):Int)))/\St w [] [] w':=by
 refine enter Tryz.func90 Tryz.ntmps90 rfl rfl h.start ?_
 simp only[bX]
 refine J0 ?_;refine bI (λ x2=>?_);refine iE ?_;refine J2 ?_;refine Ck ?_
 (refine aF ?_;refine aA ?_)
 refine Ti ?_;refine Ae ?_;refine aH ?_
 refine bB (λ c13=>?_) (λ c13=>?_)
 ·try (exfalso;omega)
  refine cO ?_
  refine aS Tryz.results90 (λ w hw=>?_)
  (exact⟨by rw[rS (by omega)];rfl,hw.done⟩)
 ·try (exfalso;omega)
  refine aY ?_;refine gY ?_;refine aA ?_;refine rU ?_;refine Q4 ?_;refine J1 ?_
  refine aS Tryz.results90 (λ w hw=>?_)
  (exact⟨by rw[Hh (by omega)];rfl,hw.done⟩)
theorem Ei(h:oA w L cs pn pc)(r:Int)(hr:r<=9223372036854775807)(hl:cs.length<=274877906944):Calls Tryz.prog 90 #[Nh L cs gen pn cn pc cc,.int .i64 r] w λ e w'=>e=.returned (.int .i64 (bU cs r))/\St w [] [] w':=by
 rcases Int.lt_or_le r 1 with h1|h1
 ·exact iw h r h1
 ·obtain⟨k,rfl⟩:∃k:Nat,r=((k+1:Nat):Int):=⟨(r-1).toNat,by omega⟩
  exact ft h (by omega) hl
theorem Ug(h:oA w L cs pn pc)(hb:StB L cs)(hl:L.length<=274877906944)(hc:cs.length<=274877906944)(i:Int)(hi:i<=9223372036854775807):Calls Tryz.prog 83 #[Nh L cs gen pn cn pc cc,.int .i64 i] w λ e w'=>e=.returned (.tuple #[.int .i64 ((iL (L.map aP.c) cs i).getD 0),.bool (iL (L.map aP.c) cs i).isSome])/\St w [] [] w':=by
 refine enter Tryz.func83 Tryz.ntmps83 rfl rfl h.start ?_
 simp only[bX]
 simp only[Nh]
 refine J0 ?_;refine bI (λ x2=>?_);refine J8 ?_;refine aV ?_;refine Dz ?_;refine aT (cV (hc:=λ w1 hw=>pV (h.Lc hw) i hi hl)) (λ x10=>?_);refine cA ?_;refine mK ?_;refine aH ?_
 refine bB (λ c12=>?_) (λ c12=>?_)
 ·refine Nk ?_
  refine bC Tryz.results83 (λ w hw=>?_)
  refine⟨?_,hw.done⟩
  unfold iL yI oN vO
  simp only[cX,cB,aP.c,Nd.c]
  simp_all
  rfl
 ·refine jU ?_;refine dK [(0,[]),(1,[]),(2,[]),(3,[0]),(4,[]),(5,[]),(6,[])] ?_;refine bG ?_;refine bG ?_;refine aN ?_;refine cH (i:=3) (hq:=(cV (hc:=λ w1 hw=>pV (h.Lc hw) i hi hl))) (h:=λ x16=>?_);refine oV ?_;refine cH (i:=5) (hq:=(cV (hc:=λ w1 hw=>Ei (h.Lc hw) (aB L i).nd.main (hb.main i) hc))) (h:=λ x18=>?_);refine J7 ?_;refine aV ?_;refine Dz ?_;refine aT (cV (hc:=λ w1 hw=>pV (h.Lc hw) (bU cs (aB L i).nd.main) (hb.cs _) hl)) (λ x21=>?_);refine aD (c0 (V:=.bool) (hc:=λ w1 hw=>wT _ w1)) (λ x22 h22=>?_);refine nR ?_
  refine bB (λ c23=>?_) (λ c23=>?_)
  ·refine Nk ?_
   refine bC Tryz.results83 (λ w hw=>?_)
   refine⟨?_,hw.done⟩
   unfold iL yI oN vO
   simp only[cX,cB,aP.c,Nd.c]
   simp_all
   rfl
  ·refine jU ?_;refine dK [(0,[]),(1,[]),(2,[]),(3,[0]),(4,[]),(5,[]),(6,[])] ?_;refine bG ?_;refine bG ?_;refine aN ?_;refine cH (i:=3) (hq:=(cV (hc:=λ w1 hw=>pV (h.Lc hw) (bU cs (aB L i).nd.main) (hb.cs _) hl))) (h:=λ x27=>?_);refine oV ?_;refine cH (i:=5) (hq:=(cV (hc:=λ w1 hw=>Ei (h.Lc hw) (aB L (bU cs (aB L i).nd.main)).nd.prev (hb.prev _) hc))) (h:=λ x29=>?_);refine J7 ?_;refine Cw ?_;refine J2 ?_;refine Ra ?_
   refine bB (λ c30=>?_) (λ c30=>?_)
   ·refine J2 ?_;refine J8 ?_
    refine bC Tryz.results83 (λ w hw=>?_)
    refine⟨?_,hw.done⟩
    unfold iL yI oN vO
    simp only[cX,cB,aP.c,Nd.c]
    simp_all
    rfl
   ·refine Dz ?_;refine aT (cV (hc:=λ w1 hw=>pV (h.Lc hw) (bU cs (aB L (bU cs (aB L i).nd.main)).nd.prev) (hb.cs _) hl)) (λ x37=>?_);refine cA ?_;refine Ra ?_
    refine bB (λ c34=>?_) (λ c34=>?_)
    ·refine dL ?_;refine bP ?_;refine aA ?_;refine aT (cV (hc:=λ w1 hw=>pV (h.Lc hw) (bU cs (aB L (bU cs (aB L i).nd.main)).nd.prev) (hb.cs _) hl)) (λ x42=>?_);refine cA ?_;refine J1 ?_;refine fH ?_;refine aV ?_;refine Dz ?_;refine aT (cV (hc:=λ w1 hw=>pV (h.Lc hw) _ (by exact hb.bK _) hl)) (λ x46=>?_);refine aD (c0 (V:=.bool) (hc:=λ w1 hw=>wT _ w1)) (λ x47 h47=>?_);refine nR ?_
     refine bB (λ c48=>?_) (λ c48=>?_)
     ·refine Nk ?_
      refine bC Tryz.results83 (λ w hw=>?_)
      refine⟨?_,hw.done⟩
      unfold iL yI oN vO
      simp only[cX,cB,aP.c,Nd.c]
      simp_all
      rfl
     ·refine aY ?_;refine J2 ?_;refine J8 ?_
      refine bC Tryz.results83 (λ w hw=>?_)
      refine⟨?_,hw.done⟩
      unfold iL yI oN vO
      simp only[cX,cB,aP.c,Nd.c]
      simp_all
      rfl
    ·refine nN ?_;refine aV ?_;refine Dz ?_;refine aT (cV (hc:=λ w1 hw=>pV (h.Lc hw) _ (by exact hb.cs _) hl)) (λ x46=>?_);refine aD (c0 (V:=.bool) (hc:=λ w1 hw=>wT _ w1)) (λ x47 h47=>?_);refine nR ?_
     refine bB (λ c48=>?_) (λ c48=>?_)
     ·refine Nk ?_
      refine bC Tryz.results83 (λ w hw=>?_)
      refine⟨?_,hw.done⟩
      unfold iL yI oN vO
      simp only[cX,cB,aP.c,Nd.c]
      simp_all
      rfl
     ·refine aY ?_;refine J2 ?_;refine J8 ?_
      refine bC Tryz.results83 (λ w hw=>?_)
      refine⟨?_,hw.done⟩
      unfold iL yI oN vO
      simp only[cX,cB,aP.c,Nd.c]
      simp_all
      rfl
theorem ry(h:oA w L cs pn pc)(hb:StB L cs)(hl:L.length<=274877906944)(hc:cs.length<=274877906944)(c:Int)(ro:Bool)(hi:c<=9223372036854775807):Calls Tryz.prog 95 #[Nh L cs gen pn cn pc cc,.agg ⟨[.int .i64 c,.bool ro]⟩] w λ e w'=>e=.returned (.tuple #[.int .i64 ((oL (L.map aP.c) cs c).getD 0),.bool (oL (L.map aP.c) cs c).isSome])/\St w [] [] w':=by
 refine enter Tryz.func95 Tryz.ntmps95 rfl rfl h.start ?_
 simp only[bX]
 simp only[Nh]
 refine J0 ?_;refine bI (λ x2=>?_);refine bI (λ x3=>?_);refine J8 ?_;refine nK ?_;refine J3 ?_;refine aT (cV (hc:=λ w1 hw=>Ei (h.Lc hw) c hi hc)) (λ x11=>?_);refine iE ?_;refine Dz ?_;refine aT (cV (hc:=λ w1 hw=>pV (h.Lc hw) (bU cs c) (hb.cs _) hl)) (λ x14=>?_);refine aJ (λ x7=>?_);refine J5 ?_;refine gY ?_;refine uK ?_
 refine bB (λ c17=>?_) (λ c17=>?_)
 ·refine gY ?_;refine J1 ?_;refine nK ?_;refine J3 ?_;refine aT (cV (hc:=λ w1 hw=>Ei (h.Lc hw) (aB L (bU cs c)).nd.status (hb.status _) hc)) (λ x23=>?_);refine uK ?_
  refine bB (λ c24=>?_) (λ c24=>?_)
  ·refine dL ?_;refine J3 ?_;refine iE ?_;refine Dz ?_;refine aT (cV (hc:=λ w1 hw=>pV (h.Lc hw) _ (by exact hb.new _) hl)) (λ x29=>?_);refine cA ?_;refine mK ?_;refine aH ?_
   refine bB (λ c31=>?_) (λ c31=>?_)
   ·refine Nk ?_
    refine bC Tryz.results95 (λ w hw=>?_)
    refine⟨?_,hw.done⟩
    unfold oL tY
    simp only[cX,cB,aP.c,Nd.c]
    simp_all
    rfl
   ·refine aY ?_;refine J2 ?_;refine J8 ?_
    refine bC Tryz.results95 (λ w hw=>?_)
    refine⟨?_,hw.done⟩
    unfold oL tY
    simp only[cX,cB,aP.c,Nd.c]
    simp_all
    rfl
  ·refine jU ?_;refine Dz ?_;refine aT (cV (hc:=λ w1 hw=>pV (h.Lc hw) _ (by exact hb.bK _) hl)) (λ x29=>?_);refine cA ?_;refine mK ?_;refine aH ?_
   refine bB (λ c31=>?_) (λ c31=>?_)
   ·refine Nk ?_
    refine bC Tryz.results95 (λ w hw=>?_)
    refine⟨?_,hw.done⟩
    unfold oL tY
    simp only[cX,cB,aP.c,Nd.c]
    simp_all
    rfl
   ·refine aY ?_;refine J2 ?_;refine J8 ?_
    refine bC Tryz.results95 (λ w hw=>?_)
    refine⟨?_,hw.done⟩
    unfold oL tY
    simp only[cX,cB,aP.c,Nd.c]
    simp_all
    rfl
 ·refine jU ?_;refine Dz ?_;refine aT (cV (hc:=λ w1 hw=>pV (h.Lc hw) _ (by exact hb.cs _) hl)) (λ x29=>?_);refine cA ?_;refine mK ?_;refine aH ?_
  refine bB (λ c31=>?_) (λ c31=>?_)
  ·refine Nk ?_
   refine bC Tryz.results95 (λ w hw=>?_)
   refine⟨?_,hw.done⟩
   unfold oL tY
   simp only[cX,cB,aP.c,Nd.c]
   simp_all
   rfl
  ·refine aY ?_;refine J2 ?_;refine J8 ?_
   refine bC Tryz.results95 (λ w hw=>?_)
   refine⟨?_,hw.done⟩
   unfold oL tY
   simp only[cX,cB,aP.c,Nd.c]
   simp_all
   rfl
end
end

/- Views: which nodes have been visited; lists of nodes. -/
end Go.Proofs.YtbajmaoegmbfgaaGreat
namespace Go.Ct
section
open Go Go.RowKit
def fv(n:Nat)(vs:List Bool)(l:List Int):Prop:=vs.length=n/\(∀k,k<n->(vs.getD k false=true↔((k+1:Nat):Int)∈l))/\l.length+vs.count false=n
theorem fv.zero(n:Nat):fv n (List.replicate n false) []:=⟨by simp,λ k hk=>by simp[jH,hk],by simp⟩
theorem count_set:∀(vs:List Bool) (k:Nat),k<vs.length->vs.getD k false=false->(vs.set k true).count false+1=vs.count false
 | [],_,h,_=>by simp at h
 | b::vs,0,_,h=>by
  have e:b=false:=by simpa using h
  subst e
  simp
 | b::vs,k+1,h,h2=>by
  have:=count_set vs k (by simpa using h) (by simpa using h2)
  rw[List.set_cons_succ,List.count_cons,List.count_cons]
  omega
theorem fv.set{n k:Nat}{vs:List Bool}{l:List Int}(h:fv n vs l)(hk:k<n)(hf:vs.getD k false=false):fv n (vs.set k true) (l++[((k+1:Nat):Int)]):=by
 have h1:=h.1
 refine⟨by simp[h.1],λ j hj=>?_,?_⟩
 ·have h2:=h.2.1 j hj
  rw[jH] at h2
  rw[jH,List.getElem?_set]
  by_cases e:k=j
  ·subst e
   simp[show k<vs.length by omega]
  ·rw[if_neg e,h2]
   simp only[List.mem_append,List.mem_singleton]
   constructor
   ·exact .inl
   ·rintro (h3|h3)
    ·exact h3
    ·omega
 ·have:=count_set vs k (by omega) hf
  have:=h.2.2
  simp only[List.length_append,List.length_cons,List.length_nil]
  omega
theorem fv.len{n:Nat}{vs:List Bool}{l:List Int}(h:fv n vs l):l.length<=n:=by have:=h.2.2;omega
theorem Yr{N:List Nv}{r:Int}(h:cB (cG N r)):1<=r/\r<=N.length:=eM (by unfold cB at h;omega)
theorem nz{L:List aP}{r:Int}(h:1<=r/\r<=L.length):((aB L r).nd.brA,aG (aB L r).xs)∈aM L:=by
 unfold aB
 rw[if_pos h]
 exact Eg (by omega)
theorem qw{L:List aP}{r:Int}(h:1<=r/\r<=L.length):((aB L r).nd.prA,cZ (aB L r).ys)∈aM L:=by
 unfold aB
 rw[if_pos h]
 exact Er (by omega)
theorem ie(L:List aP)(r:Int):(cG (L.map aP.c) r).xs=(aB L r).xs:=by rw[cX];rfl
theorem q9{L:List aP}{cs:List Int}{c r:Int}(h:oL (L.map aP.c) cs c=some r):∃k:Nat,r=((k+1:Nat):Int)/\k<L.length:=by
 unfold oL at h
 split at h
 ·rename_i hk
  cases h
  have:=eM (N:=L.map aP.c) (i:=tY (L.map aP.c) cs c) (by omega)
  rw[List.length_map] at this
  exact⟨(tY (L.map aP.c) cs c-1).toNat,by omega,by omega⟩
 ·cases h
end

/- Places of a trie in a state: what is computed (plain). -/
section
structure Pl where
 i:Int
 m:Int
 a:Int
 lv:Nat
 way:List Int
def sB(b:Nat):Nat->List Int
 | 0=>[]
 | k+1=>sB b k++(if b.testBit k then [(k:Int)] else [])
def yR(N:List Nv)(f:Int->List Int->List Int->Option (List Pl×List Pr))(way idx:List Int):List Int->Nat->List Int->Option (List Pl×List Pr)
 | [],_,_=>some ([],[])
 | b::r,j,s=>if(cG N b).kind=4 then(yR N f way idx r (j+1) s).map λ q=>(q.1,((cG N b).key,(cG N b).val)::q.2)
  else if(cG N b).kind=2 then(f b (way++[idx.getD j 0]) s).bind λ p=>(yR N f way idx r (j+1) (s++p.1.map Pl.i)).map λ q=>(p.1++q.1,p.2++q.2)
  else none
def Ip(N:List Nv)(cs:List Int):Nat->Int->Nat->Int->List Int->List Int->Option (List Pl×List Pr)
 | 0,_,_,_,_,_=>none
 | n+1,a,lv,i,way,s=>if i∈s then none else(iL N cs i).bind λ m =>
  if(cG N m).kind=5∨(cG N m).kind=6 then some ([⟨i,m,a,lv,way⟩],r8 (cG N m))
  else(yR N (λ b w s=>Ip N cs n i (lv+1) b w s) way (sB (cG N m).bm.toNat 64) (cG N m).xs 0 (s++[i])).map λ q=>(⟨i,m,a,lv,way⟩::q.1,q.2)
end

/- The reference of views: the numbers of a bitmap's bits. -/
section
theorem Gr(b:Nat):∀k,(sB b k).length=gC b k
 | 0=>rfl
 | k+1=>by
  simp only[sB,List.length_append,Gr b k,gC]
  split<;>simp_all
end
end Go.Ct
namespace Go.Proofs.YtbajmaoegmbfgaaGreat
section
open Go Go.RowKit Go.Ct
theorem Mn{n:Nat}(hn:n<18446744073709551616)(w:World):Calls Tryz.prog 156 #[.int .u64 (n:Int)] w λ e w'=>∃x:Option Addr×Nat,e=.returned (.slice x.1 (sB n 64).length x.2)/\True/\SF w [] [] [] [(x.1,aG (sB n 64))] [] w':=by
 refine enter Tryz.func156 Tryz.ntmps156 rfl rfl ((SF.s0 w).kC 3 1) ?_
 simp only[bX]
 refine cO ?_;refine Fs ?_;refine C4 ?_
 refine nD [3,4,5,6,7,8,9,10,11,12,13,14,15] (λ y:Nat×Option Addr×Nat=>[(3,.slice y.2.1 (sB n y.1).length y.2.2),(4,.int .i64 ((y.1:Nat):Int))]) (λ y=>y.1<=64) (λ _=>_) (λ _=>_) (λ y=>[⟨y.2.1,aG (sB n y.1),y.2.2,3,1⟩]) (λ y=>64-y.1) ((0,none,0)) (by decide) (λ y f hx=>?_)
 dsimp only[gX,List.map,List.cons_append,List.nil_append]
 have hcl:=zF n y.1
 have hil:=Gr n y.1
 refine kA ?_;refine xJ ?_
 refine bB (λ c6=>?_) (λ c6=>?_)
 ·refine qA ?_;refine iY ?_;refine aT (cV (hc:=λ w1 hw=>Gn hn (y.1:Int) w1)) (λ x11=>?_);refine aH ?_
  refine bB (λ c11=>?_) (λ c11=>?_)
  ·have e1:sB n (y.1+1)=sB n y.1++[(y.1:Int)]:=by rw[tE n (by omega) (by omega),Int.toNat_natCast] at c11;simp only[sB,c11,if_true]
   refine Ik ?_;refine eY (λ x14=>?_);(refine fE (λ x15=>?_);try (refine eW (λ h15=>?_)));refine J1 ?_;refine fH ?_;refine uF ?_
   refine kI ((by exact(y.1+1,x15))) ?_ ?_ (by repeat (first|(with_reducible exact yK.refl)|refine yK.cons (by exact rfl) ?_)) ?_ (λ w hw=>by simp only[e1];exact hw.back)
   ·omega
   ·repeat' (first|exact bD _|refine aW ?_ ?_)
    all_goals (first|exact rfl|(simp only[e1];(conv=>{lhs;whnf};simp;done)))
   ·(show y.1+1<=64;omega)
  ·have e1:sB n (y.1+1)=sB n y.1:=by rw[tE n (by omega) (by omega),Int.toNat_natCast] at c11;simp only[sB,c11];simp
   refine nN ?_;refine uF ?_
   refine kI ((by exact(y.1+1,y.2))) ?_ ?_ (by repeat (first|(with_reducible exact yK.refl)|refine yK.cons (by exact rfl) ?_)) ?_ (λ w hw=>by simp only[e1];exact hw.back)
   ·omega
   ·repeat' (first|exact bD _|refine aW ?_ ?_)
    all_goals (first|exact rfl|(simp only[e1];exact rfl))
   ·(show y.1+1<=64;omega)
 ·refine bM rfl ?_;refine J2 ?_;refine J1 ?_
  refine aS Tryz.results156 (λ w hw=>?_)
  have e2:y.1=64:=by omega
  rw[e2] at hw ⊢
  generalize sB n 64=B at hw ⊢
  exact⟨y.2,rfl,trivial,SF.frz hw.aU⟩
theorem Iz{n:Nat}{b:Int}{ix:List Int}(hi:ix=sB n 64)(hn:n<18446744073709551616)(e:b=(n:Int))(w:World):Calls Tryz.prog 156 #[.int .u64 b] w λ e w'=>∃x:Option Addr×Nat,e=.returned (.slice x.1 ix.length x.2)/\True/\SF w [] [] [] [(x.1,aG ix)] [] w':=by
 rw[hi,e]
 with_reducible exact Mn hn w
end

/- Places of a trie: their lists in memory; steps of the loop over the branches. -/
end Go.Proofs.YtbajmaoegmbfgaaGreat
namespace Go.Ct
section
open Go Go.RowKit
structure rX where
 p:Pl
 wp:Option Addr
 wc:Nat
def rX.cells(v:rX):List Value:=[.int .i64 v.p.i,.int .i64 v.p.m,.int .i64 v.p.a,.int .i64 ((v.p.lv:Nat):Int),.slice v.wp v.p.way.length v.wc]
def qB(l:List rX):List Value:=l.flatMap rX.cells
def Iw(l:List rX):Fr:=l.map λ v=>(v.wp,aG v.p.way)
theorem wC:∀l:List rX,(qB l).length=l.length*5
 | []=>rfl
 | v::l=>by simp only[qB,List.flatMap_cons,List.length_append] at *;rw[show(List.flatMap rX.cells l).length=l.length*5 from wC l];simp[rX.cells];omega
theorem P0(l l2:List rX):qB (l++l2)=qB l++qB l2:=by simp[qB]
theorem Aa:∀l:List rX,(qB l).all (·.oneCell')=true
 | []=>rfl
 | v::l=>by simp only[qB,List.flatMap_cons,List.all_append];rw[show(List.flatMap rX.cells l).all (·.oneCell')=true from Aa l];rfl
section
variable{N:List Nv}{f:Int->List Int->List Int->Option (List Pl×List Pr)}{way idx xs s s2:List Int}{j:Nat}{r:List Pl×List Pr}
def Ay(N:List Nv)(f:Int->List Int->List Int->Option (List Pl×List Pr))(way idx xs s:List Int)(j:Nat)(tl:List Pl)(ps:List Pr):Prop :=
 yR N f way idx xs 0 s=(yR N f way idx (xs.drop j) j (s++tl.map Pl.i)).map λ q=>(tl++q.1,ps++q.2)
theorem Ay.zero:Ay N f way idx xs s 0 [] []:=by
 unfold Ay
 simp only[List.drop_zero,List.map_nil,List.append_nil,List.nil_append]
 cases yR N f way idx xs 0 s<;>rfl
theorem Ef{xs:List Int}{j:Nat}(h:j<xs.length):xs.drop j=xs.getD j 0::xs.drop (j+1):=by
 rw[List.drop_eq_getElem_cons h,jH,List.getElem?_eq_getElem h];rfl
theorem Ay.single{tl:List Pl}{ps:List Pr}(h:Ay N f way idx xs s j tl ps)(hj:j<xs.length)(hk:(cG N (xs.getD j 0)).kind=4):Ay N f way idx xs s (j+1) tl (ps++[((cG N (xs.getD j 0)).key,(cG N (xs.getD j 0)).val)]):=by
 unfold Ay at h ⊢
 rw[h,Ef hj]
 simp only[yR,hk,if_true]
 cases yR N f way idx (xs.drop (j+1)) (j+1) (s++tl.map Pl.i)<;>simp
theorem Ay.inner{tl:List Pl}{ps:List Pr}(h:Ay N f way idx xs s j tl ps)(hj:j<xs.length)(hk:(cG N (xs.getD j 0)).kind=2)(hf:f (xs.getD j 0) (way++[idx.getD j 0]) (s++tl.map Pl.i)=some r):Ay N f way idx xs s (j+1) (tl++r.1) (ps++r.2):=by
 unfold Ay at h ⊢
 rw[h,Ef hj]
 have h4:¬(cG N (xs.getD j 0)).kind=4:=by omega
 simp only[yR,h4,hk,if_true,if_false,hf,Option.bind_some,List.map_append,List.append_assoc]
 cases yR N f way idx (xs.drop (j+1)) (j+1) (s++(tl.map Pl.i++r.1.map Pl.i))<;>simp
theorem Ay.fail{tl:List Pl}{ps:List Pr}(h:Ay N f way idx xs s j tl ps)(hj:j<xs.length)(hk:(cG N (xs.getD j 0)).kind=2)(hf:f (xs.getD j 0) (way++[idx.getD j 0]) (s++tl.map Pl.i)=none):yR N f way idx xs 0 s=none:=by
 unfold Ay at h
 rw[h,Ef hj]
 have h4:¬(cG N (xs.getD j 0)).kind=4:=by omega
 simp only[yR,h4,hk,if_true,if_false,hf,Option.bind_none,Option.map_none,reduceCtorEq,show ¬((2:Int)=4) by decide]
theorem Ay.bad{tl:List Pl}{ps:List Pr}(h:Ay N f way idx xs s j tl ps)(hj:j<xs.length)(hk:(cG N (xs.getD j 0)).kind≠4)(hk2:(cG N (xs.getD j 0)).kind≠2):yR N f way idx xs 0 s=none:=by
 unfold Ay at h
 rw[h,Ef hj]
 simp only[yR,hk,hk2,if_false,Option.map_none]
theorem Ay.done{tl:List Pl}{ps:List Pr}(h:Ay N f way idx xs s j tl ps)(hj:xs.length<=j):yR N f way idx xs 0 s=some (tl,ps):=by
 unfold Ay at h
 rw[h,List.drop_eq_nil_of_le hj]
 simp[yR]
end
section
variable{N:List Nv}{cs:List Int}{a i m:Int}{lv n:Nat}{way s:List Int}
theorem gu(h:i∈s):∀{n:Nat},Ip N cs n a lv i way s=none
 | 0=>rfl
 | _+1=>if_pos h
theorem dy(h:(iL N cs i).isSome=false):∀{n:Nat},Ip N cs n a lv i way s=none
 | 0=>rfl
 | n+1=>by
  unfold Ip
  cases hb:iL N cs i with
  | none=>split<;>rfl
  | some m=>rw[hb] at h;cases h
theorem My(h:¬i∈s)(h2:iL N cs i=some m)(h3:(cG N m).kind=5∨(cG N m).kind=6):Ip N cs (n+1) a lv i way s=some ([⟨i,m,a,lv,way⟩],r8 (cG N m)):=by
 unfold Ip
 rw[if_neg h,h2,Option.bind_some,if_pos h3]
theorem uf(h:¬i∈s)(h2:iL N cs i=some m)(h3:¬((cG N m).kind=5∨(cG N m).kind=6)):Ip N cs (n+1) a lv i way s=(yR N (λ b w s=>Ip N cs n i (lv+1) b w s) way (sB (cG N m).bm.toNat 64) (cG N m).xs 0 (s++[i])).map λ q=>(⟨i,m,a,lv,way⟩::q.1,q.2):=by
 rw[Ip]
 rw[if_neg h,h2,Option.bind_some,if_neg h3]
end
end

end Go.Ct
