/- Merged. -/
import Derived.Test.YtbajmaoegmbfgaaGreatGWo7
import Derived.Test.YtbajmaoegmbfgaaGreatGNode2
import Derived.Test.YtbajmaoegmbfgaaGreatGBr6
import Derived.Test.YtbajmaoegmbfgaaGreatGBitsE
set_option linter.unusedSimpArgs false
set_option linter.unusedVariables false
namespace Go.Proofs.YtbajmaoegmbfgaaGreat
open Go.Proofs.Tryz (prog)
open Go Go.RowKit Go.Ct
section
section
variable{L:List aP}{cs:List Int}{gen:Int}{pn pc:Option Addr}{cn cc:Nat}{w:World}
theorem zq(h:qV w L cs pn pc)(r:Int)(hr:r<1):Calls prog 91 #[Iu L cs gen pn cn pc cc,.int .i64 r] w λ e w'=>e=.returned (aB L r).nd.v/\St w [] [] w':=by
 refine enter Tryz.func91 Tryz.ntmps91 rfl rfl h.start ?_
 simp only[cC]
 refine J0 ?_;refine bM (λ x2=>?_);refine aK (λ x4=>?_);refine aH ?_;refine Kb6 ?_
 (refine eJ 7 (λ g7=>?_) (λ g7=>?_)<;>(try (exfalso;omega))<;>(refine aI ?_))
 refine Si ?_;refine Ka6 ?_
 refine bC (λ c13=>?_) (λ c13=>?_)
 ·try (exfalso;omega)
  refine Kb8 ?_
  refine bE Tryz.results91 (λ w hw=>?_)
  exact⟨by rw[pT (by omega)];rfl,hw.done⟩
 ·exact nv c13
theorem aAl(h:qV w L cs pn pc){k:Nat}(hk:(k:Int)<9223372036854775807)(hl:L.length<=274877906944):Calls prog 91 #[Iu L cs gen pn cn pc cc,.int .i64 ((k+1:Nat):Int)] w λ e w'=>e=.returned (aB L ((k+1:Nat):Int)).nd.v/\St w [] [] w':=by
 refine enter Tryz.func91 Tryz.ntmps91 rfl rfl h.start ?_
 simp only[cC]
 refine J0 ?_;refine bM (λ x2=>?_);refine aK (λ x4=>?_);refine aH ?_;refine Kb6 ?_
 (refine Ka3 ?_)
 refine Si ?_;refine Ka6 ?_
 refine bC (λ c13=>?_) (λ c13=>?_)
 ·try (exfalso;omega)
  refine Kb8 ?_
  refine bE Tryz.results91 (λ w hw=>?_)
  (exact⟨by rw[pT (by omega)];rfl,hw.done⟩)
 ·try (exfalso;omega)
  refine aZ ?_;refine Kb9 ?_;refine rD ?_;refine Rp ?_;refine J5 ?_
  refine bE Tryz.results91 (λ w hw=>?_)
  (exact⟨by rw[pR (by omega)];rfl,hw.done⟩)
theorem pW(h:qV w L cs pn pc)(r:Int)(hr:r<=9223372036854775807)(hl:L.length<=274877906944):Calls prog 91 #[Iu L cs gen pn cn pc cc,.int .i64 r] w λ e w'=>e=.returned (aB L r).nd.v/\St w [] [] w':=by
 rcases Int.lt_or_le r 1 with h1|h1
 ·exact zq h r h1
 ·obtain⟨k,rfl⟩:∃k:Nat,r=((k+1:Nat):Int):=⟨(r-1).toNat,by omega⟩
  exact aAl h (by omega) hl
theorem kv(h:qV w L cs pn pc)(r:Int)(hr:r<1):Calls prog 90 #[Iu L cs gen pn cn pc cc,.int .i64 r] w λ e w'=>e=.returned (.int .i64 (aW cs r))/\St w [] [] w':=by
 refine enter Tryz.func90 Tryz.ntmps90 rfl rfl h.start ?_
 simp only[cC]
 refine J0 ?_;refine bM (λ x2=>?_);refine jF ?_;refine J2 ?_;refine Cv ?_
 (refine eJ 7 (λ g7=>?_) (λ g7=>?_)<;>(try (exfalso;omega))<;>(refine aI ?_))
 refine Si ?_;refine Ka6 ?_
 refine bC (λ c13=>?_) (λ c13=>?_)
 ·try (exfalso;omega)
  refine cX ?_
  refine aR Tryz.results90 (λ w hw=>?_)
  exact⟨by rw[sD (by omega)];rfl,hw.done⟩
 ·exact nv c13
theorem cx(h:qV w L cs pn pc){k:Nat}(hk:(k:Int)<9223372036854775807)(hl:cs.length<=274877906944):Calls prog 90 #[Iu L cs gen pn cn pc cc,.int .i64 ((k+1:Nat):Int)] w λ e w'=>e=.returned (.int .i64 (aW cs ((k+1:Nat):Int)))/\St w [] [] w':=by
 refine enter Tryz.func90 Tryz.ntmps90 rfl rfl h.start ?_
 simp only[cC]
 refine J0 ?_;refine bM (λ x2=>?_);refine jF ?_;refine J2 ?_;refine Cv ?_
 (refine Ka3 ?_)
 refine Si ?_;refine Ka6 ?_
 refine bC (λ c13=>?_) (λ c13=>?_)
 ·try (exfalso;omega)
  refine cX ?_
  refine aR Tryz.results90 (λ w hw=>?_)
  (exact⟨by rw[sD (by omega)];rfl,hw.done⟩)
 ·try (exfalso;omega)
  refine aZ ?_;refine Kb9 ?_;refine rD ?_;refine Rp ?_;refine J1 ?_
  refine aR Tryz.results90 (λ w hw=>?_)
  (exact⟨by rw[Hn (by omega)];rfl,hw.done⟩)
theorem Ej(h:qV w L cs pn pc)(r:Int)(hr:r<=9223372036854775807)(hl:cs.length<=274877906944):Calls prog 90 #[Iu L cs gen pn cn pc cc,.int .i64 r] w λ e w'=>e=.returned (.int .i64 (aW cs r))/\St w [] [] w':=by
 rcases Int.lt_or_le r 1 with h1|h1
 ·exact kv h r h1
 ·obtain⟨k,rfl⟩:∃k:Nat,r=((k+1:Nat):Int):=⟨(r-1).toNat,by omega⟩
  exact cx h (by omega) hl
theorem Lo(h:qV w L cs pn pc)(hb:StB L cs)(hl:L.length<=274877906944)(hc:cs.length<=274877906944)(i:Int)(hi:i<=9223372036854775807):Calls prog 83 #[Iu L cs gen pn cn pc cc,.int .i64 i] w λ e w'=>e=.returned (.tuple #[.int .i64 ((fV (L.map aP.c) cs i).getD 0),.bool (fV (L.map aP.c) cs i).isSome])/\St w [] [] w':=by
 refine enter Tryz.func83 Tryz.ntmps83 rfl rfl h.start ?_
 simp only[cC]
 simp only[Iu]
 refine J0 ?_;refine bM (λ x2=>?_);refine J8 ?_;refine aV ?_;refine Dn ?_;refine aQ (cV (hc:=λ w1 hw=>pW (h.Ih hw) i hi hl)) (λ x10=>?_);refine cE ?_;refine Kc8 ?_
 refine bC (λ c12=>?_) (λ c12=>?_)
 ·refine N7 ?_
  refine bE Tryz.results83 (λ w hw=>?_)
  refine⟨?_,hw.done⟩
  unfold fV yO mK sM
  simp only[cZ,bQ,aP.c,Nd.c]
  simp_all
  rfl
 ·refine kW ?_;refine eC [(0,[]),(1,[]),(2,[]),(3,[0]),(4,[]),(5,[]),(6,[])] ?_;refine bT ?_;refine bT ?_;refine aN ?_;refine cR (i:=3) (hq:=(cV (hc:=λ w1 hw=>pW (h.Ih hw) i hi hl))) (h:=λ x16=>?_);refine lC ?_;refine cR (i:=5) (hq:=(cV (hc:=λ w1 hw=>Ej (h.Ih hw) (aB L i).nd.main (hb.main i) hc))) (h:=λ x18=>?_);refine J7 ?_;refine aV ?_;refine Dn ?_;refine aQ (cV (hc:=λ w1 hw=>pW (h.Ih hw) (aW cs (aB L i).nd.main) (hb.cs _) hl)) (λ x21=>?_);refine aD (c0 (V:=.bool) (hc:=λ w1 hw=>xK _ w1)) (λ x22 h22=>?_);refine oV ?_
  refine bC (λ c23=>?_) (λ c23=>?_)
  ·refine N7 ?_
   refine bE Tryz.results83 (λ w hw=>?_)
   refine⟨?_,hw.done⟩
   unfold fV yO mK sM
   simp only[cZ,bQ,aP.c,Nd.c]
   simp_all
   rfl
  ·refine kW ?_;refine eC [(0,[]),(1,[]),(2,[]),(3,[0]),(4,[]),(5,[]),(6,[])] ?_;refine bT ?_;refine bT ?_;refine aN ?_;refine cR (i:=3) (hq:=(cV (hc:=λ w1 hw=>pW (h.Ih hw) (aW cs (aB L i).nd.main) (hb.cs _) hl))) (h:=λ x27=>?_);refine lC ?_;refine cR (i:=5) (hq:=(cV (hc:=λ w1 hw=>Ej (h.Ih hw) (aB L (aW cs (aB L i).nd.main)).nd.prev (hb.prev _) hc))) (h:=λ x29=>?_);refine J7 ?_;refine Cw ?_;refine J2 ?_;refine Ro ?_
   refine bC (λ c30=>?_) (λ c30=>?_)
   ·refine J2 ?_;refine J8 ?_
    refine bE Tryz.results83 (λ w hw=>?_)
    refine⟨?_,hw.done⟩
    unfold fV yO mK sM
    simp only[cZ,bQ,aP.c,Nd.c]
    simp_all
    rfl
   ·refine Dn ?_;refine aQ (cV (hc:=λ w1 hw=>pW (h.Ih hw) (aW cs (aB L (aW cs (aB L i).nd.main)).nd.prev) (hb.cs _) hl)) (λ x37=>?_);refine cE ?_;refine Ro ?_
    refine bC (λ c34=>?_) (λ c34=>?_)
    ·refine dM ?_;refine bR ?_;refine aA ?_;refine aQ (cV (hc:=λ w1 hw=>pW (h.Ih hw) (aW cs (aB L (aW cs (aB L i).nd.main)).nd.prev) (hb.cs _) hl)) (λ x42=>?_);refine cE ?_;refine J1 ?_;refine fK ?_;refine aV ?_;refine Dn ?_;refine aQ (cV (hc:=λ w1 hw=>pW (h.Ih hw) _ (by exact hb.bJ _) hl)) (λ x46=>?_);refine aD (c0 (V:=.bool) (hc:=λ w1 hw=>xK _ w1)) (λ x47 h47=>?_);refine oV ?_
     refine bC (λ c48=>?_) (λ c48=>?_)
     ·refine N7 ?_
      refine bE Tryz.results83 (λ w hw=>?_)
      refine⟨?_,hw.done⟩
      unfold fV yO mK sM
      simp only[cZ,bQ,aP.c,Nd.c]
      simp_all
      rfl
     ·refine aZ ?_;refine J2 ?_;refine J8 ?_
      refine bE Tryz.results83 (λ w hw=>?_)
      refine⟨?_,hw.done⟩
      unfold fV yO mK sM
      simp only[cZ,bQ,aP.c,Nd.c]
      simp_all
      rfl
    ·refine pI ?_;refine aV ?_;refine Dn ?_;refine aQ (cV (hc:=λ w1 hw=>pW (h.Ih hw) _ (by exact hb.cs _) hl)) (λ x46=>?_);refine aD (c0 (V:=.bool) (hc:=λ w1 hw=>xK _ w1)) (λ x47 h47=>?_);refine oV ?_
     refine bC (λ c48=>?_) (λ c48=>?_)
     ·refine N7 ?_
      refine bE Tryz.results83 (λ w hw=>?_)
      refine⟨?_,hw.done⟩
      unfold fV yO mK sM
      simp only[cZ,bQ,aP.c,Nd.c]
      simp_all
      rfl
     ·refine aZ ?_;refine J2 ?_;refine J8 ?_
      refine bE Tryz.results83 (λ w hw=>?_)
      refine⟨?_,hw.done⟩
      unfold fV yO mK sM
      simp only[cZ,bQ,aP.c,Nd.c]
      simp_all
      rfl
theorem pi(h:qV w L cs pn pc)(hb:StB L cs)(hl:L.length<=274877906944)(hc:cs.length<=274877906944)(c:Int)(ro:Bool)(hi:c<=9223372036854775807):Calls prog 95 #[Iu L cs gen pn cn pc cc,.agg ⟨[.int .i64 c,.bool ro]⟩] w λ e w'=>e=.returned (.tuple #[.int .i64 ((kC (L.map aP.c) cs c).getD 0),.bool (kC (L.map aP.c) cs c).isSome])/\St w [] [] w':=by
 refine enter Tryz.func95 Tryz.ntmps95 rfl rfl h.start ?_
 simp only[cC]
 simp only[Iu]
 refine J0 ?_;refine bM (λ x2=>?_);refine bM (λ x3=>?_);refine J8 ?_;refine nI ?_;refine J3 ?_;refine aQ (cV (hc:=λ w1 hw=>Ej (h.Ih hw) c hi hc)) (λ x11=>?_);refine jF ?_;refine Dn ?_;refine aQ (cV (hc:=λ w1 hw=>pW (h.Ih hw) (aW cs c) (hb.cs _) hl)) (λ x14=>?_);refine aK (λ x7=>?_);refine J5 ?_;refine iI ?_;refine uI ?_
 refine bC (λ c17=>?_) (λ c17=>?_)
 ·refine iI ?_;refine J1 ?_;refine nI ?_;refine J3 ?_;refine aQ (cV (hc:=λ w1 hw=>Ej (h.Ih hw) (aB L (aW cs c)).nd.status (hb.status _) hc)) (λ x23=>?_);refine uI ?_
  refine bC (λ c24=>?_) (λ c24=>?_)
  ·refine dM ?_;refine J3 ?_;refine jF ?_;refine Dn ?_;refine aQ (cV (hc:=λ w1 hw=>pW (h.Ih hw) _ (by exact hb.new _) hl)) (λ x29=>?_);refine cE ?_;refine Kc8 ?_
   refine bC (λ c31=>?_) (λ c31=>?_)
   ·refine N7 ?_
    refine bE Tryz.results95 (λ w hw=>?_)
    refine⟨?_,hw.done⟩
    unfold kC rJ
    simp only[cZ,bQ,aP.c,Nd.c]
    simp_all
    rfl
   ·refine aZ ?_;refine J2 ?_;refine J8 ?_
    refine bE Tryz.results95 (λ w hw=>?_)
    refine⟨?_,hw.done⟩
    unfold kC rJ
    simp only[cZ,bQ,aP.c,Nd.c]
    simp_all
    rfl
  ·refine kW ?_;refine Dn ?_;refine aQ (cV (hc:=λ w1 hw=>pW (h.Ih hw) _ (by exact hb.bJ _) hl)) (λ x29=>?_);refine cE ?_;refine Kc8 ?_
   refine bC (λ c31=>?_) (λ c31=>?_)
   ·refine N7 ?_
    refine bE Tryz.results95 (λ w hw=>?_)
    refine⟨?_,hw.done⟩
    unfold kC rJ
    simp only[cZ,bQ,aP.c,Nd.c]
    simp_all
    rfl
   ·refine aZ ?_;refine J2 ?_;refine J8 ?_
    refine bE Tryz.results95 (λ w hw=>?_)
    refine⟨?_,hw.done⟩
    unfold kC rJ
    simp only[cZ,bQ,aP.c,Nd.c]
    simp_all
    rfl
 ·refine kW ?_;refine Dn ?_;refine aQ (cV (hc:=λ w1 hw=>pW (h.Ih hw) _ (by exact hb.cs _) hl)) (λ x29=>?_);refine cE ?_;refine Kc8 ?_
  refine bC (λ c31=>?_) (λ c31=>?_)
  ·refine N7 ?_
   refine bE Tryz.results95 (λ w hw=>?_)
   refine⟨?_,hw.done⟩
   unfold kC rJ
   simp only[cZ,bQ,aP.c,Nd.c]
   simp_all
   rfl
  ·refine aZ ?_;refine J2 ?_;refine J8 ?_
   refine bE Tryz.results95 (λ w hw=>?_)
   refine⟨?_,hw.done⟩
   unfold kC rJ
   simp only[cZ,bQ,aP.c,Nd.c]
   simp_all
   rfl
end
end
end Go.Proofs.YtbajmaoegmbfgaaGreat
namespace Go.Ct
open Go Go.RowKit
section
def nf(n:Nat)(vs:List Bool)(l:List Int):Prop:=vs.length=n/\(∀k,k<n->(vs.getD k false=true↔((k+1:Nat):Int)∈l))/\l.length+vs.count false=n
theorem nf.zero(n:Nat):nf n (List.replicate n false) []:=⟨by simp,λ k hk=>by simp[iM,hk],by simp⟩
theorem count_set:∀(vs:List Bool) (k:Nat),k<vs.length->vs.getD k false=false->(vs.set k true).count false+1=vs.count false
 | [],_,h,_=>by simp at h
 | b::vs,0,_,h=>by
  have e:b=false:=by simpa using h
  subst e
  simp
 | b::vs,k+1,h,h2=>by
  have:=count_set vs k (by simpa using h) (by simpa using h2)
  rw[List.set_cons_succ,List.count_cons,List.count_cons]
  omega
theorem nf.set{n k:Nat}{vs:List Bool}{l:List Int}(h:nf n vs l)(hk:k<n)(hf:vs.getD k false=false):nf n (vs.set k true) (l++[((k+1:Nat):Int)]):=by
 have h1:=h.1
 refine⟨by simp[h.1],λ j hj=>?_,?_⟩
 ·have h2:=h.2.1 j hj
  rw[iM] at h2
  rw[iM,List.getElem?_set]
  by_cases e:k=j
  ·subst e
   simp[show k<vs.length by omega]
  ·rw[if_neg e,h2]
   simp only[List.mem_append,List.mem_singleton]
   constructor
   ·exact .inl
   ·rintro (h3|h3)
    ·exact h3
    ·omega
 ·have:=count_set vs k (by omega) hf
  have:=h.2.2
  simp only[List.length_append,List.length_cons,List.length_nil]
  omega
theorem nf.len{n:Nat}{vs:List Bool}{l:List Int}(h:nf n vs l):l.length<=n:=by have:=h.2.2;omega
theorem Xs{N:List Nv}{r:Int}(h:bQ (aS N r)):1<=r/\r<=N.length:=dJ (by unfold bQ at h;omega)
theorem rv{L:List aP}{r:Int}(h:1<=r/\r<=L.length):((aB L r).nd.brA,aG (aB L r).xs)∈aM L:=by
 unfold aB
 rw[if_pos h]
 exact El (by omega)
theorem oy{L:List aP}{r:Int}(h:1<=r/\r<=L.length):((aB L r).nd.prA,cY (aB L r).ys)∈aM L:=by
 unfold aB
 rw[if_pos h]
 exact Er (by omega)
theorem jz(L:List aP)(r:Int):(aS (L.map aP.c) r).xs=(aB L r).xs:=by rw[cZ];rfl
theorem ub{L:List aP}{cs:List Int}{c r:Int}(h:kC (L.map aP.c) cs c=some r):∃k:Nat,r=((k+1:Nat):Int)/\k<L.length:=by
 unfold kC at h
 split at h
 ·rename_i hk
  cases h
  have:=dJ (N:=L.map aP.c) (i:=rJ (L.map aP.c) cs c) (by omega)
  rw[List.length_map] at this
  exact⟨(rJ (L.map aP.c) cs c-1).toNat,by omega,by omega⟩
 ·cases h
end
section
structure Pl where
 i:Int
 m:Int
 a:Int
 lv:Nat
 way:List Int
def sF(b:Nat):Nat->List Int
 | 0=>[]
 | k+1=>sF b k++(if b.testBit k then [(k:Int)] else [])
def yI(N:List Nv)(f:Int->List Int->List Int->Option (List Pl×List Pr))(way idx:List Int):List Int->Nat->List Int->Option (List Pl×List Pr)
 | [],_,_=>some ([],[])
 | b::r,j,s=>if(aS N b).kind=4 then(yI N f way idx r (j+1) s).map λ q=>(q.1,((aS N b).key,(aS N b).val)::q.2)
  else if(aS N b).kind=2 then(f b (way++[idx.getD j 0]) s).bind λ p=>(yI N f way idx r (j+1) (s++p.1.map Pl.i)).map λ q=>(p.1++q.1,p.2++q.2)
  else none
def Ii(N:List Nv)(cs:List Int):Nat->Int->Nat->Int->List Int->List Int->Option (List Pl×List Pr)
 | 0,_,_,_,_,_=>none
 | n+1,a,lv,i,way,s=>if i∈s then none else(fV N cs i).bind λ m =>
  if(aS N m).kind=5∨(aS N m).kind=6 then some ([⟨i,m,a,lv,way⟩],o7 (aS N m))
  else(yI N (λ b w s=>Ii N cs n i (lv+1) b w s) way (sF (aS N m).bm.toNat 64) (aS N m).xs 0 (s++[i])).map λ q=>(⟨i,m,a,lv,way⟩::q.1,q.2)
end
section
theorem Ho(b:Nat):∀k,(sF b k).length=gA b k
 | 0=>rfl
 | k+1=>by
  simp only[sF,List.length_append,Ho b k,gA]
  split<;>simp_all
end
end Go.Ct
namespace Go.Proofs.YtbajmaoegmbfgaaGreat
open Go Go.RowKit Go.Ct
section
theorem M3{n:Nat}(hn:n<18446744073709551616)(w:World):Calls Tryz.prog 156 #[.int .u64 (n:Int)] w λ e w'=>∃x:Option Addr×Nat,e=.returned (.slice x.1 (sF n 64).length x.2)/\True/\SF w [] [] [] [(x.1,aG (sF n 64))] [] w':=by
 refine enter Tryz.func156 Tryz.ntmps156 rfl rfl ((SF.s0 w).jX 3 1) ?_
 simp only[cC]
 refine cX ?_;refine Hg ?_;refine Ex ?_
 refine nT [3,4,5,6,7,8,9,10,11,12,13,14,15] (λ y:Nat×Option Addr×Nat=>[(3,.slice y.2.1 (sF n y.1).length y.2.2),(4,.int .i64 ((y.1:Nat):Int))]) (λ y=>y.1<=64) (λ _=>_) (λ _=>_) (λ y=>[⟨y.2.1,aG (sF n y.1),y.2.2,3,1⟩]) (λ y=>64-y.1) ((0,none,0)) (by decide) (λ y f hx=>?_)
 dsimp only[hY,List.map,List.cons_append,List.nil_append]
 have hcl:=zE n y.1
 have hil:=Ho n y.1
 refine kT ?_;refine Aj ?_
 refine bC (λ c6=>?_) (λ c6=>?_)
 ·refine rX ?_;refine jG ?_;refine aQ (cV (hc:=λ w1 hw=>Hh hn (y.1:Int) w1)) (λ x11=>?_);refine aH ?_
  refine bC (λ c11=>?_) (λ c11=>?_)
  ·have e1:sF n (y.1+1)=sF n y.1++[(y.1:Int)]:=by rw[sZ n (by omega) (by omega),Int.toNat_natCast] at c11;simp only[sF,c11,if_true]
   refine Iz ?_;refine eZ (λ x14=>?_);(refine fG (λ x15=>?_);try (refine fD (λ h15=>?_)));refine J1 ?_;refine Kb2 ?_
   refine lB ((by exact(y.1+1,x15))) ?_ ?_ (by repeat (first|(with_reducible exact yJ.refl)|refine yJ.cons (by exact rfl) ?_)) ?_ (λ w hw=>by simp only[e1];exact hw.back)
   ·omega
   ·repeat' (first|exact bI _|refine bD ?_ ?_)
    all_goals (first|exact rfl|(simp only[e1];(conv=>{lhs;whnf};simp;done)))
   ·(show y.1+1<=64;omega)
  ·have e1:sF n (y.1+1)=sF n y.1:=by rw[sZ n (by omega) (by omega),Int.toNat_natCast] at c11;simp only[sF,c11];simp
   refine Kc0 ?_
   refine lB ((by exact(y.1+1,y.2))) ?_ ?_ (by repeat (first|(with_reducible exact yJ.refl)|refine yJ.cons (by exact rfl) ?_)) ?_ (λ w hw=>by simp only[e1];exact hw.back)
   ·omega
   ·repeat' (first|exact bI _|refine bD ?_ ?_)
    all_goals (first|exact rfl|(simp only[e1];exact rfl))
   ·(show y.1+1<=64;omega)
 ·refine bP rfl ?_;refine Ka4 ?_
  refine aR Tryz.results156 (λ w hw=>?_)
  have e2:y.1=64:=by omega
  rw[e2] at hw ⊢
  generalize sF n 64=B at hw ⊢
  exact⟨y.2,rfl,trivial,SF.frz hw.aX⟩
theorem Iv{n:Nat}{b:Int}{ix:List Int}(hi:ix=sF n 64)(hn:n<18446744073709551616)(e:b=(n:Int))(w:World):Calls Tryz.prog 156 #[.int .u64 b] w λ e w'=>∃x:Option Addr×Nat,e=.returned (.slice x.1 ix.length x.2)/\True/\SF w [] [] [] [(x.1,aG ix)] [] w':=by
 rw[hi,e]
 with_reducible exact M3 hn w
end
end Go.Proofs.YtbajmaoegmbfgaaGreat
namespace Go.Ct
open Go Go.RowKit
section
structure vF where
 p:Pl
 wp:Option Addr
 wc:Nat
def vF.cells(v:vF):List Value:=[.int .i64 v.p.i,.int .i64 v.p.m,.int .i64 v.p.a,.int .i64 ((v.p.lv:Nat):Int),.slice v.wp v.p.way.length v.wc]
def qW(l:List vF):List Value:=l.flatMap vF.cells
def Is(l:List vF):Fr:=l.map λ v=>(v.wp,aG v.p.way)
theorem wZ:∀l:List vF,(qW l).length=l.length*5
 | []=>rfl
 | v::l=>by simp only[qW,List.flatMap_cons,List.length_append] at *;rw[show(List.flatMap vF.cells l).length=l.length*5 from wZ l];simp[vF.cells];omega
theorem Qu(l l2:List vF):qW (l++l2)=qW l++qW l2:=by simp[qW]
theorem A3:∀l:List vF,(qW l).all (·.oneCell')=true
 | []=>rfl
 | v::l=>by simp only[qW,List.flatMap_cons,List.all_append];rw[show(List.flatMap vF.cells l).all (·.oneCell')=true from A3 l];rfl
section
variable{N:List Nv}{f:Int->List Int->List Int->Option (List Pl×List Pr)}{way idx xs s s2:List Int}{j:Nat}{r:List Pl×List Pr}
def Ai(N:List Nv)(f:Int->List Int->List Int->Option (List Pl×List Pr))(way idx xs s:List Int)(j:Nat)(tl:List Pl)(ps:List Pr):Prop :=
 yI N f way idx xs 0 s=(yI N f way idx (xs.drop j) j (s++tl.map Pl.i)).map λ q=>(tl++q.1,ps++q.2)
theorem Ai.zero:Ai N f way idx xs s 0 [] []:=by
 unfold Ai
 simp only[List.drop_zero,List.map_nil,List.append_nil,List.nil_append]
 cases yI N f way idx xs 0 s<;>rfl
theorem En{xs:List Int}{j:Nat}(h:j<xs.length):xs.drop j=xs.getD j 0::xs.drop (j+1):=by
 rw[List.drop_eq_getElem_cons h,iM,List.getElem?_eq_getElem h];rfl
theorem Ai.single{tl:List Pl}{ps:List Pr}(h:Ai N f way idx xs s j tl ps)(hj:j<xs.length)(hk:(aS N (xs.getD j 0)).kind=4):Ai N f way idx xs s (j+1) tl (ps++[((aS N (xs.getD j 0)).key,(aS N (xs.getD j 0)).val)]):=by
 unfold Ai at h ⊢
 rw[h,En hj]
 simp only[yI,hk,if_true]
 cases yI N f way idx (xs.drop (j+1)) (j+1) (s++tl.map Pl.i)<;>simp
theorem Ai.inner{tl:List Pl}{ps:List Pr}(h:Ai N f way idx xs s j tl ps)(hj:j<xs.length)(hk:(aS N (xs.getD j 0)).kind=2)(hf:f (xs.getD j 0) (way++[idx.getD j 0]) (s++tl.map Pl.i)=some r):Ai N f way idx xs s (j+1) (tl++r.1) (ps++r.2):=by
 unfold Ai at h ⊢
 rw[h,En hj]
 have h4:¬(aS N (xs.getD j 0)).kind=4:=by omega
 simp only[yI,h4,hk,if_true,if_false,hf,Option.bind_some,List.map_append,List.append_assoc]
 cases yI N f way idx (xs.drop (j+1)) (j+1) (s++(tl.map Pl.i++r.1.map Pl.i))<;>simp
theorem Ai.fail{tl:List Pl}{ps:List Pr}(h:Ai N f way idx xs s j tl ps)(hj:j<xs.length)(hk:(aS N (xs.getD j 0)).kind=2)(hf:f (xs.getD j 0) (way++[idx.getD j 0]) (s++tl.map Pl.i)=none):yI N f way idx xs 0 s=none:=by
 unfold Ai at h
 rw[h,En hj]
 have h4:¬(aS N (xs.getD j 0)).kind=4:=by omega
 simp only[yI,h4,hk,if_true,if_false,hf,Option.bind_none,Option.map_none,reduceCtorEq,show ¬((2:Int)=4) by decide]
theorem Ai.bad{tl:List Pl}{ps:List Pr}(h:Ai N f way idx xs s j tl ps)(hj:j<xs.length)(hk:(aS N (xs.getD j 0)).kind≠4)(hk2:(aS N (xs.getD j 0)).kind≠2):yI N f way idx xs 0 s=none:=by
 unfold Ai at h
 rw[h,En hj]
 simp only[yI,hk,hk2,if_false,Option.map_none]
theorem Ai.done{tl:List Pl}{ps:List Pr}(h:Ai N f way idx xs s j tl ps)(hj:xs.length<=j):yI N f way idx xs 0 s=some (tl,ps):=by
 unfold Ai at h
 rw[h,List.drop_eq_nil_of_le hj]
 simp[yI]
end
section
variable{N:List Nv}{cs:List Int}{a i m:Int}{lv n:Nat}{way s:List Int}
theorem j3(h:i∈s):∀{n:Nat},Ii N cs n a lv i way s=none
 | 0=>rfl
 | _+1=>if_pos h
theorem lu(h:(fV N cs i).isSome=false):∀{n:Nat},Ii N cs n a lv i way s=none
 | 0=>rfl
 | n+1=>by
  unfold Ii
  cases hb:fV N cs i with
  | none=>split<;>rfl
  | some m=>rw[hb] at h;cases h
theorem M7(h:¬i∈s)(h2:fV N cs i=some m)(h3:(aS N m).kind=5∨(aS N m).kind=6):Ii N cs (n+1) a lv i way s=some ([⟨i,m,a,lv,way⟩],o7 (aS N m)):=by
 unfold Ii
 rw[if_neg h,h2,Option.bind_some,if_pos h3]
theorem vq(h:¬i∈s)(h2:fV N cs i=some m)(h3:¬((aS N m).kind=5∨(aS N m).kind=6)):Ii N cs (n+1) a lv i way s=(yI N (λ b w s=>Ii N cs n i (lv+1) b w s) way (sF (aS N m).bm.toNat 64) (aS N m).xs 0 (s++[i])).map λ q=>(⟨i,m,a,lv,way⟩::q.1,q.2):=by
 rw[Ii]
 rw[if_neg h,h2,Option.bind_some,if_neg h3]
end
end
end Go.Ct
