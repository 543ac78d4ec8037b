/- The reference of views: a node, a cell, the root, the main node of an I-node. -/
import Derived.Test.YtbajmaoegmbfgaaGreatGGc5
import Derived.Test.YtbajmaoegmbfgaaGreatGNode2
import Derived.Test.YtbajmaoegmbfgaaGreatGVw1
import Derived.Test.YtbajmaoegmbfgaaGreatGBitsE

set_option linter.unusedSimpArgs false
set_option linter.unusedVariables false
namespace Go.Proofs.YtbajmaoegmbfgaaGreat
section
open Go Go.RowKit Go.Ct
section
variable{L:List aP}{cs:List Int}{gen:Int}{pn pc:Option Addr}{cn cc:Nat}{w:World}
theorem vo(h:oB w L cs pn pc)(r:Int)(hr:r<1):Calls Tryz.prog 91 #[Nc L cs gen pn cn pc cc,.int .i64 r] w λ e w'=>e=.returned (aB L r).nd.v/\St w [] [] w':=by
 refine enter Tryz.func91 Tryz.ntmps91 rfl rfl h.start ?_
 simp only[bX]
 refine J0 ?_;refine bK (λ x2=>?_);refine aJ (λ x4=>?_);refine aH ?_;refine jV ?_;refine Bq ?_
 (refine dZ 7 (λ g7=>?_) (λ g7=>?_)<;>(try (exfalso;omega))<;>(refine aI ?_))
 refine Sm ?_;refine Ae ?_;refine aH ?_
 refine bB (λ c13=>?_) (λ c13=>?_)
 ·try (exfalso;omega)
  refine J0 ?_;refine wG ?_
  refine bC Tryz.results91 (λ w hw=>?_)
  exact⟨by rw[pM (by omega)];rfl,hw.done⟩
 ·exact nv c13
theorem za(h:oB w L cs pn pc){k:Nat}(hk:(k:Int)<9223372036854775807)(hl:L.length<=274877906944):Calls Tryz.prog 91 #[Nc L cs gen pn cn pc cc,.int .i64 ((k+1:Nat):Int)] w λ e w'=>e=.returned (aB L ((k+1:Nat):Int)).nd.v/\St w [] [] w':=by
 refine enter Tryz.func91 Tryz.ntmps91 rfl rfl h.start ?_
 simp only[bX]
 refine J0 ?_;refine bK (λ x2=>?_);refine aJ (λ x4=>?_);refine aH ?_;refine jV ?_;refine Bq ?_
 (refine aF ?_;refine aA ?_)
 refine Sm ?_;refine Ae ?_;refine aH ?_
 refine bB (λ c13=>?_) (λ c13=>?_)
 ·try (exfalso;omega)
  refine J0 ?_;refine wG ?_
  refine bC Tryz.results91 (λ w hw=>?_)
  (exact⟨by rw[pM (by omega)];rfl,hw.done⟩)
 ·try (exfalso;omega)
  refine bA ?_;refine hX ?_;refine aA ?_;refine rX ?_;refine Rf ?_;refine J5 ?_
  refine bC Tryz.results91 (λ w hw=>?_)
  (exact⟨by rw[rQ (by omega)];rfl,hw.done⟩)
theorem pW(h:oB w L cs pn pc)(r:Int)(hr:r<=9223372036854775807)(hl:L.length<=274877906944):Calls Tryz.prog 91 #[Nc L cs gen pn cn pc cc,.int .i64 r] w λ e w'=>e=.returned (aB L r).nd.v/\St w [] [] w':=by
 rcases Int.lt_or_le r 1 with h1|h1
 ·exact vo h r h1
 ·obtain⟨k,rfl⟩:∃k:Nat,r=((k+1:Nat):Int):=⟨(r-1).toNat,by omega⟩
  exact za h (by omega) hl
theorem aw(h:oB w L cs pn pc)(r:Int)(hr:r<1):Calls Tryz.prog 90 #[Nc L cs gen pn cn pc cc,.int .i64 r] w λ e w'=>e=.returned (.int .i64 (bU cs r))/\St w [] [] w':=by
 refine enter Tryz.func90 Tryz.ntmps90 rfl rfl h.start ?_
 simp only[bX]
 refine J0 ?_;refine bK (λ x2=>?_);refine hZ ?_;refine J2 ?_;refine Bq ?_
 (refine dZ 7 (λ g7=>?_) (λ g7=>?_)<;>(try (exfalso;omega))<;>(refine aI ?_))
 refine Sm ?_;refine Ae ?_;refine aH ?_
 refine bB (λ c13=>?_) (λ c13=>?_)
 ·try (exfalso;omega)
  refine cO ?_
  refine aS Tryz.results90 (λ w hw=>?_)
  exact⟨by rw[rP (by omega)];rfl,hw.done⟩
 ·exact nv c13
theorem fm(h:oB w L cs pn pc){k:Nat}(hk:(k:Int)<9223372036854775807)(hl:cs.length<=274877906944):Calls Tryz.prog 90 #[Nc L cs gen pn cn pc cc,.int .i64 ((k+1:Nat):Int)] w λ e w'=>e=.returned (.int .i64 (bU cs ((k+1:Nat):Int)))/\St w [] [] w':=by
 refine enter Tryz.func90 Tryz.ntmps90 rfl rfl h.start ?_
 simp only[bX]
 refine J0 ?_;refine bK (λ x2=>?_);refine hZ ?_;refine J2 ?_;refine Bq ?_
 (refine aF ?_;refine aA ?_)
 refine Sm ?_;refine Ae ?_;refine aH ?_
 refine bB (λ c13=>?_) (λ c13=>?_)
 ·try (exfalso;omega)
  refine cO ?_
  refine aS Tryz.results90 (λ w hw=>?_)
  (exact⟨by rw[rP (by omega)];rfl,hw.done⟩)
 ·try (exfalso;omega)
  refine bA ?_;refine hX ?_;refine aA ?_;refine rX ?_;refine Rf ?_;refine J1 ?_
  refine aS Tryz.results90 (λ w hw=>?_)
  (exact⟨by rw[He (by omega)];rfl,hw.done⟩)
theorem Eg(h:oB w L cs pn pc)(r:Int)(hr:r<=9223372036854775807)(hl:cs.length<=274877906944):Calls Tryz.prog 90 #[Nc L cs gen pn cn pc cc,.int .i64 r] w λ e w'=>e=.returned (.int .i64 (bU cs r))/\St w [] [] w':=by
 rcases Int.lt_or_le r 1 with h1|h1
 ·exact aw h r h1
 ·obtain⟨k,rfl⟩:∃k:Nat,r=((k+1:Nat):Int):=⟨(r-1).toNat,by omega⟩
  exact fm h (by omega) hl
theorem V4(h:oB w L cs pn pc)(hb:StB L cs)(hl:L.length<=274877906944)(hc:cs.length<=274877906944)(i:Int)(hi:i<=9223372036854775807):Calls Tryz.prog 83 #[Nc L cs gen pn cn pc cc,.int .i64 i] w λ e w'=>e=.returned (.tuple #[.int .i64 ((iC (L.map aP.c) cs i).getD 0),.bool (iC (L.map aP.c) cs i).isSome])/\St w [] [] w':=by
 refine enter Tryz.func83 Tryz.ntmps83 rfl rfl h.start ?_
 simp only[bX]
 simp only[Nc]
 refine J0 ?_;refine bK (λ x2=>?_);refine J8 ?_;refine aV ?_;refine Dv ?_;refine aT (cV (hc:=λ w1 hw=>pW (h.Mn hw) i hi hl)) (λ x10=>?_);refine cD ?_;refine lO ?_;refine aH ?_
 refine bB (λ c12=>?_) (λ c12=>?_)
 ·refine Nm ?_
  refine bC Tryz.results83 (λ w hw=>?_)
  refine⟨?_,hw.done⟩
  unfold iC yN oN vV
  simp only[cX,bZ,aP.c,Nd.c]
  simp_all
  rfl
 ·refine jY ?_;refine dI [(0,[]),(1,[]),(2,[]),(3,[0]),(4,[]),(5,[]),(6,[])] ?_;refine bG ?_;refine bG ?_;refine aN ?_;refine cH (i:=3) (hq:=(cV (hc:=λ w1 hw=>pW (h.Mn hw) i hi hl))) (h:=λ x16=>?_);refine oX ?_;refine cH (i:=5) (hq:=(cV (hc:=λ w1 hw=>Eg (h.Mn hw) (aB L i).nd.main (hb.main i) hc))) (h:=λ x18=>?_);refine J7 ?_;refine aV ?_;refine Dv ?_;refine aT (cV (hc:=λ w1 hw=>pW (h.Mn hw) (bU cs (aB L i).nd.main) (hb.cs _) hl)) (λ x21=>?_);refine aD (c0 (V:=.bool) (hc:=λ w1 hw=>xF _ w1)) (λ x22 h22=>?_);refine oE ?_
  refine bB (λ c23=>?_) (λ c23=>?_)
  ·refine Nm ?_
   refine bC Tryz.results83 (λ w hw=>?_)
   refine⟨?_,hw.done⟩
   unfold iC yN oN vV
   simp only[cX,bZ,aP.c,Nd.c]
   simp_all
   rfl
  ·refine jY ?_;refine dI [(0,[]),(1,[]),(2,[]),(3,[0]),(4,[]),(5,[]),(6,[])] ?_;refine bG ?_;refine bG ?_;refine aN ?_;refine cH (i:=3) (hq:=(cV (hc:=λ w1 hw=>pW (h.Mn hw) (bU cs (aB L i).nd.main) (hb.cs _) hl))) (h:=λ x27=>?_);refine oX ?_;refine cH (i:=5) (hq:=(cV (hc:=λ w1 hw=>Eg (h.Mn hw) (aB L (bU cs (aB L i).nd.main)).nd.prev (hb.prev _) hc))) (h:=λ x29=>?_);refine J7 ?_;refine Cv ?_;refine J2 ?_;refine Rg ?_
   refine bB (λ c30=>?_) (λ c30=>?_)
   ·refine J2 ?_;refine J8 ?_
    refine bC Tryz.results83 (λ w hw=>?_)
    refine⟨?_,hw.done⟩
    unfold iC yN oN vV
    simp only[cX,bZ,aP.c,Nd.c]
    simp_all
    rfl
   ·refine Dv ?_;refine aT (cV (hc:=λ w1 hw=>pW (h.Mn hw) (bU cs (aB L (bU cs (aB L i).nd.main)).nd.prev) (hb.cs _) hl)) (λ x37=>?_);refine cD ?_;refine Rg ?_
    refine bB (λ c34=>?_) (λ c34=>?_)
    ·refine dJ ?_;refine bN ?_;refine aA ?_;refine aT (cV (hc:=λ w1 hw=>pW (h.Mn hw) (bU cs (aB L (bU cs (aB L i).nd.main)).nd.prev) (hb.cs _) hl)) (λ x42=>?_);refine cD ?_;refine J1 ?_;refine fH ?_;refine aV ?_;refine Dv ?_;refine aT (cV (hc:=λ w1 hw=>pW (h.Mn hw) _ (by exact hb.bI _) hl)) (λ x46=>?_);refine aD (c0 (V:=.bool) (hc:=λ w1 hw=>xF _ w1)) (λ x47 h47=>?_);refine oE ?_
     refine bB (λ c48=>?_) (λ c48=>?_)
     ·refine Nm ?_
      refine bC Tryz.results83 (λ w hw=>?_)
      refine⟨?_,hw.done⟩
      unfold iC yN oN vV
      simp only[cX,bZ,aP.c,Nd.c]
      simp_all
      rfl
     ·refine bA ?_;refine J2 ?_;refine J8 ?_
      refine bC Tryz.results83 (λ w hw=>?_)
      refine⟨?_,hw.done⟩
      unfold iC yN oN vV
      simp only[cX,bZ,aP.c,Nd.c]
      simp_all
      rfl
    ·refine nT ?_;refine aV ?_;refine Dv ?_;refine aT (cV (hc:=λ w1 hw=>pW (h.Mn hw) _ (by exact hb.cs _) hl)) (λ x46=>?_);refine aD (c0 (V:=.bool) (hc:=λ w1 hw=>xF _ w1)) (λ x47 h47=>?_);refine oE ?_
     refine bB (λ c48=>?_) (λ c48=>?_)
     ·refine Nm ?_
      refine bC Tryz.results83 (λ w hw=>?_)
      refine⟨?_,hw.done⟩
      unfold iC yN oN vV
      simp only[cX,bZ,aP.c,Nd.c]
      simp_all
      rfl
     ·refine bA ?_;refine J2 ?_;refine J8 ?_
      refine bC Tryz.results83 (λ w hw=>?_)
      refine⟨?_,hw.done⟩
      unfold iC yN oN vV
      simp only[cX,bZ,aP.c,Nd.c]
      simp_all
      rfl
theorem na(h:oB w L cs pn pc)(hb:StB L cs)(hl:L.length<=274877906944)(hc:cs.length<=274877906944)(c:Int)(ro:Bool)(hi:c<=9223372036854775807):Calls Tryz.prog 95 #[Nc L cs gen pn cn pc cc,.agg ⟨[.int .i64 c,.bool ro]⟩] w λ e w'=>e=.returned (.tuple #[.int .i64 ((oL (L.map aP.c) cs c).getD 0),.bool (oL (L.map aP.c) cs c).isSome])/\St w [] [] w':=by
 refine enter Tryz.func95 Tryz.ntmps95 rfl rfl h.start ?_
 simp only[bX]
 simp only[Nc]
 refine J0 ?_;refine bK (λ x2=>?_);refine bK (λ x3=>?_);refine J8 ?_;refine nK ?_;refine J3 ?_;refine aT (cV (hc:=λ w1 hw=>Eg (h.Mn hw) c hi hc)) (λ x11=>?_);refine hZ ?_;refine Dv ?_;refine aT (cV (hc:=λ w1 hw=>pW (h.Mn hw) (bU cs c) (hb.cs _) hl)) (λ x14=>?_);refine aJ (λ x7=>?_);refine J5 ?_;refine hX ?_;refine uB ?_
 refine bB (λ c17=>?_) (λ c17=>?_)
 ·refine hX ?_;refine J1 ?_;refine nK ?_;refine J3 ?_;refine aT (cV (hc:=λ w1 hw=>Eg (h.Mn hw) (aB L (bU cs c)).nd.status (hb.status _) hc)) (λ x23=>?_);refine uB ?_
  refine bB (λ c24=>?_) (λ c24=>?_)
  ·refine dJ ?_;refine J3 ?_;refine hZ ?_;refine Dv ?_;refine aT (cV (hc:=λ w1 hw=>pW (h.Mn hw) _ (by exact hb.new _) hl)) (λ x29=>?_);refine cD ?_;refine lO ?_;refine aH ?_
   refine bB (λ c31=>?_) (λ c31=>?_)
   ·refine Nm ?_
    refine bC Tryz.results95 (λ w hw=>?_)
    refine⟨?_,hw.done⟩
    unfold oL tX
    simp only[cX,bZ,aP.c,Nd.c]
    simp_all
    rfl
   ·refine bA ?_;refine J2 ?_;refine J8 ?_
    refine bC Tryz.results95 (λ w hw=>?_)
    refine⟨?_,hw.done⟩
    unfold oL tX
    simp only[cX,bZ,aP.c,Nd.c]
    simp_all
    rfl
  ·refine jY ?_;refine Dv ?_;refine aT (cV (hc:=λ w1 hw=>pW (h.Mn hw) _ (by exact hb.bI _) hl)) (λ x29=>?_);refine cD ?_;refine lO ?_;refine aH ?_
   refine bB (λ c31=>?_) (λ c31=>?_)
   ·refine Nm ?_
    refine bC Tryz.results95 (λ w hw=>?_)
    refine⟨?_,hw.done⟩
    unfold oL tX
    simp only[cX,bZ,aP.c,Nd.c]
    simp_all
    rfl
   ·refine bA ?_;refine J2 ?_;refine J8 ?_
    refine bC Tryz.results95 (λ w hw=>?_)
    refine⟨?_,hw.done⟩
    unfold oL tX
    simp only[cX,bZ,aP.c,Nd.c]
    simp_all
    rfl
 ·refine jY ?_;refine Dv ?_;refine aT (cV (hc:=λ w1 hw=>pW (h.Mn hw) _ (by exact hb.cs _) hl)) (λ x29=>?_);refine cD ?_;refine lO ?_;refine aH ?_
  refine bB (λ c31=>?_) (λ c31=>?_)
  ·refine Nm ?_
   refine bC Tryz.results95 (λ w hw=>?_)
   refine⟨?_,hw.done⟩
   unfold oL tX
   simp only[cX,bZ,aP.c,Nd.c]
   simp_all
   rfl
  ·refine bA ?_;refine J2 ?_;refine J8 ?_
   refine bC Tryz.results95 (λ w hw=>?_)
   refine⟨?_,hw.done⟩
   unfold oL tX
   simp only[cX,bZ,aP.c,Nd.c]
   simp_all
   rfl
end
end

/- Views: which nodes have been visited; lists of nodes. -/
end Go.Proofs.YtbajmaoegmbfgaaGreat
namespace Go.Ct
section
open Go Go.RowKit
def dz(n:Nat)(vs:List Bool)(l:List Int):Prop:=vs.length=n/\(∀k,k<n->(vs.getD k false=true↔((k+1:Nat):Int)∈l))/\l.length+vs.count false=n
theorem dz.zero(n:Nat):dz n (List.replicate n false) []:=⟨by simp,λ k hk=>by simp[jJ,hk],by simp⟩
theorem count_set:∀(vs:List Bool) (k:Nat),k<vs.length->vs.getD k false=false->(vs.set k true).count false+1=vs.count false
 | [],_,h,_=>by simp at h
 | b::vs,0,_,h=>by
  have e:b=false:=by simpa using h
  subst e
  simp
 | b::vs,k+1,h,h2=>by
  have:=count_set vs k (by simpa using h) (by simpa using h2)
  rw[List.set_cons_succ,List.count_cons,List.count_cons]
  omega
theorem dz.set{n k:Nat}{vs:List Bool}{l:List Int}(h:dz n vs l)(hk:k<n)(hf:vs.getD k false=false):dz n (vs.set k true) (l++[((k+1:Nat):Int)]):=by
 have h1:=h.1
 refine⟨by simp[h.1],λ j hj=>?_,?_⟩
 ·have h2:=h.2.1 j hj
  rw[jJ] at h2
  rw[jJ,List.getElem?_set]
  by_cases e:k=j
  ·subst e
   simp[show k<vs.length by omega]
  ·rw[if_neg e,h2]
   simp only[List.mem_append,List.mem_singleton]
   constructor
   ·exact .inl
   ·rintro (h3|h3)
    ·exact h3
    ·omega
 ·have:=count_set vs k (by omega) hf
  have:=h.2.2
  simp only[List.length_append,List.length_cons,List.length_nil]
  omega
theorem dz.len{n:Nat}{vs:List Bool}{l:List Int}(h:dz n vs l):l.length<=n:=by have:=h.2.2;omega
theorem W1{N:List Nv}{r:Int}(h:bZ (cB N r)):1<=r/\r<=N.length:=eE (by unfold bZ at h;omega)
theorem q0{L:List aP}{r:Int}(h:1<=r/\r<=L.length):((aB L r).nd.brA,aG (aB L r).xs)∈aM L:=by
 unfold aB
 rw[if_pos h]
 exact Ej (by omega)
theorem p8{L:List aP}{r:Int}(h:1<=r/\r<=L.length):((aB L r).nd.prA,cR (aB L r).ys)∈aM L:=by
 unfold aB
 rw[if_pos h]
 exact El (by omega)
theorem j6(L:List aP)(r:Int):(cB (L.map aP.c) r).xs=(aB L r).xs:=by rw[cX];rfl
theorem oq{L:List aP}{cs:List Int}{c r:Int}(h:oL (L.map aP.c) cs c=some r):∃k:Nat,r=((k+1:Nat):Int)/\k<L.length:=by
 unfold oL at h
 split at h
 ·rename_i hk
  cases h
  have:=eE (N:=L.map aP.c) (i:=tX (L.map aP.c) cs c) (by omega)
  rw[List.length_map] at this
  exact⟨(tX (L.map aP.c) cs c-1).toNat,by omega,by omega⟩
 ·cases h
end

/- Places of a trie in a state: what is computed (plain). -/
section
structure Pl where
 i:Int
 m:Int
 a:Int
 lv:Nat
 way:List Int
def rK(b:Nat):Nat->List Int
 | 0=>[]
 | k+1=>rK b k++(if b.testBit k then [(k:Int)] else [])
def yB(N:List Nv)(f:Int->List Int->List Int->Option (List Pl×List Pr))(way idx:List Int):List Int->Nat->List Int->Option (List Pl×List Pr)
 | [],_,_=>some ([],[])
 | b::r,j,s=>if(cB N b).kind=4 then(yB N f way idx r (j+1) s).map λ q=>(q.1,((cB N b).key,(cB N b).val)::q.2)
  else if(cB N b).kind=2 then(f b (way++[idx.getD j 0]) s).bind λ p=>(yB N f way idx r (j+1) (s++p.1.map Pl.i)).map λ q=>(p.1++q.1,p.2++q.2)
  else none
def I2(N:List Nv)(cs:List Int):Nat->Int->Nat->Int->List Int->List Int->Option (List Pl×List Pr)
 | 0,_,_,_,_,_=>none
 | n+1,a,lv,i,way,s=>if i∈s then none else(iC N cs i).bind λ m =>
  if(cB N m).kind=5∨(cB N m).kind=6 then some ([⟨i,m,a,lv,way⟩],sf (cB N m))
  else(yB N (λ b w s=>I2 N cs n i (lv+1) b w s) way (rK (cB N m).bm.toNat 64) (cB N m).xs 0 (s++[i])).map λ q=>(⟨i,m,a,lv,way⟩::q.1,q.2)
end

/- The reference of views: the numbers of a bitmap's bits. -/
section
theorem Gc(b:Nat):∀k,(rK b k).length=gE b k
 | 0=>rfl
 | k+1=>by
  simp only[rK,List.length_append,Gc b k,gE]
  split<;>simp_all
end
end Go.Ct
namespace Go.Proofs.YtbajmaoegmbfgaaGreat
section
open Go Go.RowKit Go.Ct
theorem K2{n:Nat}(hn:n<18446744073709551616)(w:World):Calls Tryz.prog 156 #[.int .u64 (n:Int)] w λ e w'=>∃x:Option Addr×Nat,e=.returned (.slice x.1 (rK n 64).length x.2)/\True/\SF w [] [] [] [(x.1,aG (rK n 64))] [] w':=by
 refine enter Tryz.func156 Tryz.ntmps156 rfl rfl ((SF.s0 w).kI 3 1) ?_
 simp only[bX]
 refine cO ?_;refine Fu ?_;refine Dd ?_
 refine mV [3,4,5,6,7,8,9,10,11,12,13,14,15] (λ y:Nat×Option Addr×Nat=>[(3,.slice y.2.1 (rK n y.1).length y.2.2),(4,.int .i64 ((y.1:Nat):Int))]) (λ y=>y.1<=64) (λ _=>_) (λ _=>_) (λ y=>[⟨y.2.1,aG (rK n y.1),y.2.2,3,1⟩]) (λ y=>64-y.1) ((0,none,0)) (by decide) (λ y f hx=>?_)
 dsimp only[gX,List.map,List.cons_append,List.nil_append]
 have hcl:=zC n y.1
 have hil:=Gc n y.1
 refine jV ?_;refine wT ?_
 refine bB (λ c6=>?_) (λ c6=>?_)
 ·refine qB ?_;refine iU ?_;refine aT (cV (hc:=λ w1 hw=>Ic hn (y.1:Int) w1)) (λ x11=>?_);refine aH ?_
  refine bB (λ c11=>?_) (λ c11=>?_)
  ·have e1:rK n (y.1+1)=rK n y.1++[(y.1:Int)]:=by rw[tE n (by omega) (by omega),Int.toNat_natCast] at c11;simp only[rK,c11,if_true]
   refine Io ?_;refine fA (λ x14=>?_);(refine fF (λ x15=>?_);try (refine eZ (λ h15=>?_)));refine J1 ?_;refine fH ?_;refine uJ ?_
   refine kO ((by exact(y.1+1,x15))) ?_ ?_ (by repeat (first|(with_reducible exact yD.refl)|refine yD.cons (by exact rfl) ?_)) ?_ (λ w hw=>by simp only[e1];exact hw.back)
   ·omega
   ·repeat' (first|exact bD _|refine aW ?_ ?_)
    all_goals (first|exact rfl|(simp only[e1];(conv=>{lhs;whnf};simp;done)))
   ·(show y.1+1<=64;omega)
  ·have e1:rK n (y.1+1)=rK n y.1:=by rw[tE n (by omega) (by omega),Int.toNat_natCast] at c11;simp only[rK,c11];simp
   refine nT ?_;refine uJ ?_
   refine kO ((by exact(y.1+1,y.2))) ?_ ?_ (by repeat (first|(with_reducible exact yD.refl)|refine yD.cons (by exact rfl) ?_)) ?_ (λ w hw=>by simp only[e1];exact hw.back)
   ·omega
   ·repeat' (first|exact bD _|refine aW ?_ ?_)
    all_goals (first|exact rfl|(simp only[e1];exact rfl))
   ·(show y.1+1<=64;omega)
 ·refine bM rfl ?_;refine J2 ?_;refine J1 ?_
  refine aS Tryz.results156 (λ w hw=>?_)
  have e2:y.1=64:=by omega
  rw[e2] at hw ⊢
  generalize rK n 64=B at hw ⊢
  exact⟨y.2,rfl,trivial,SF.frz hw.aU⟩
theorem Iv{n:Nat}{b:Int}{ix:List Int}(hi:ix=rK n 64)(hn:n<18446744073709551616)(e:b=(n:Int))(w:World):Calls Tryz.prog 156 #[.int .u64 b] w λ e w'=>∃x:Option Addr×Nat,e=.returned (.slice x.1 ix.length x.2)/\True/\SF w [] [] [] [(x.1,aG ix)] [] w':=by
 rw[hi,e]
 with_reducible exact K2 hn w
end

/- Places of a trie: their lists in memory; steps of the loop over the branches. -/
end Go.Proofs.YtbajmaoegmbfgaaGreat
namespace Go.Ct
section
open Go Go.RowKit
structure rF where
 p:Pl
 wp:Option Addr
 wc:Nat
def rF.cells(v:rF):List Value:=[.int .i64 v.p.i,.int .i64 v.p.m,.int .i64 v.p.a,.int .i64 ((v.p.lv:Nat):Int),.slice v.wp v.p.way.length v.wc]
def qD(l:List rF):List Value:=l.flatMap rF.cells
def I0(l:List rF):Fr:=l.map λ v=>(v.wp,aG v.p.way)
theorem vR:∀l:List rF,(qD l).length=l.length*5
 | []=>rfl
 | v::l=>by simp only[qD,List.flatMap_cons,List.length_append] at *;rw[show(List.flatMap rF.cells l).length=l.length*5 from vR l];simp[rF.cells];omega
theorem N5(l l2:List rF):qD (l++l2)=qD l++qD l2:=by simp[qD]
theorem Ad:∀l:List rF,(qD l).all (·.oneCell')=true
 | []=>rfl
 | v::l=>by simp only[qD,List.flatMap_cons,List.all_append];rw[show(List.flatMap rF.cells l).all (·.oneCell')=true from Ad l];rfl
section
variable{N:List Nv}{f:Int->List Int->List Int->Option (List Pl×List Pr)}{way idx xs s s2:List Int}{j:Nat}{r:List Pl×List Pr}
def Bd(N:List Nv)(f:Int->List Int->List Int->Option (List Pl×List Pr))(way idx xs s:List Int)(j:Nat)(tl:List Pl)(ps:List Pr):Prop :=
 yB N f way idx xs 0 s=(yB N f way idx (xs.drop j) j (s++tl.map Pl.i)).map λ q=>(tl++q.1,ps++q.2)
theorem Bd.zero:Bd N f way idx xs s 0 [] []:=by
 unfold Bd
 simp only[List.drop_zero,List.map_nil,List.append_nil,List.nil_append]
 cases yB N f way idx xs 0 s<;>rfl
theorem Es{xs:List Int}{j:Nat}(h:j<xs.length):xs.drop j=xs.getD j 0::xs.drop (j+1):=by
 rw[List.drop_eq_getElem_cons h,jJ,List.getElem?_eq_getElem h];rfl
theorem Bd.single{tl:List Pl}{ps:List Pr}(h:Bd N f way idx xs s j tl ps)(hj:j<xs.length)(hk:(cB N (xs.getD j 0)).kind=4):Bd N f way idx xs s (j+1) tl (ps++[((cB N (xs.getD j 0)).key,(cB N (xs.getD j 0)).val)]):=by
 unfold Bd at h ⊢
 rw[h,Es hj]
 simp only[yB,hk,if_true]
 cases yB N f way idx (xs.drop (j+1)) (j+1) (s++tl.map Pl.i)<;>simp
theorem Bd.inner{tl:List Pl}{ps:List Pr}(h:Bd N f way idx xs s j tl ps)(hj:j<xs.length)(hk:(cB N (xs.getD j 0)).kind=2)(hf:f (xs.getD j 0) (way++[idx.getD j 0]) (s++tl.map Pl.i)=some r):Bd N f way idx xs s (j+1) (tl++r.1) (ps++r.2):=by
 unfold Bd at h ⊢
 rw[h,Es hj]
 have h4:¬(cB N (xs.getD j 0)).kind=4:=by omega
 simp only[yB,h4,hk,if_true,if_false,hf,Option.bind_some,List.map_append,List.append_assoc]
 cases yB N f way idx (xs.drop (j+1)) (j+1) (s++(tl.map Pl.i++r.1.map Pl.i))<;>simp
theorem Bd.fail{tl:List Pl}{ps:List Pr}(h:Bd N f way idx xs s j tl ps)(hj:j<xs.length)(hk:(cB N (xs.getD j 0)).kind=2)(hf:f (xs.getD j 0) (way++[idx.getD j 0]) (s++tl.map Pl.i)=none):yB N f way idx xs 0 s=none:=by
 unfold Bd at h
 rw[h,Es hj]
 have h4:¬(cB N (xs.getD j 0)).kind=4:=by omega
 simp only[yB,h4,hk,if_true,if_false,hf,Option.bind_none,Option.map_none,reduceCtorEq,show ¬((2:Int)=4) by decide]
theorem Bd.bad{tl:List Pl}{ps:List Pr}(h:Bd N f way idx xs s j tl ps)(hj:j<xs.length)(hk:(cB N (xs.getD j 0)).kind≠4)(hk2:(cB N (xs.getD j 0)).kind≠2):yB N f way idx xs 0 s=none:=by
 unfold Bd at h
 rw[h,Es hj]
 simp only[yB,hk,hk2,if_false,Option.map_none]
theorem Bd.done{tl:List Pl}{ps:List Pr}(h:Bd N f way idx xs s j tl ps)(hj:xs.length<=j):yB N f way idx xs 0 s=some (tl,ps):=by
 unfold Bd at h
 rw[h,List.drop_eq_nil_of_le hj]
 simp[yB]
end
section
variable{N:List Nv}{cs:List Int}{a i m:Int}{lv n:Nat}{way s:List Int}
theorem ei(h:i∈s):∀{n:Nat},I2 N cs n a lv i way s=none
 | 0=>rfl
 | _+1=>if_pos h
theorem ja(h:(iC N cs i).isSome=false):∀{n:Nat},I2 N cs n a lv i way s=none
 | 0=>rfl
 | n+1=>by
  unfold I2
  cases hb:iC N cs i with
  | none=>split<;>rfl
  | some m=>rw[hb] at h;cases h
theorem M5(h:¬i∈s)(h2:iC N cs i=some m)(h3:(cB N m).kind=5∨(cB N m).kind=6):I2 N cs (n+1) a lv i way s=some ([⟨i,m,a,lv,way⟩],sf (cB N m)):=by
 unfold I2
 rw[if_neg h,h2,Option.bind_some,if_pos h3]
theorem vd(h:¬i∈s)(h2:iC N cs i=some m)(h3:¬((cB N m).kind=5∨(cB N m).kind=6)):I2 N cs (n+1) a lv i way s=(yB N (λ b w s=>I2 N cs n i (lv+1) b w s) way (rK (cB N m).bm.toNat 64) (cB N m).xs 0 (s++[i])).map λ q=>(⟨i,m,a,lv,way⟩::q.1,q.2):=by
 rw[I2]
 rw[if_neg h,h2,Option.bind_some,if_neg h3]
end
end

end Go.Ct
