/- Merged. -/
import Derived.Test.YtbajmaoegmbfgaaGreatGBr6
import Derived.Test.YtbajmaoegmbfgaaGreatGAr9
import Derived.Test.YtbajmaoegmbfgaaGreatGNode2
import Derived.Test.YtbajmaoegmbfgaaGreatGBitsE
import Derived.Test.YtbajmaoegmbfgaaGreatOb
import Derived.Test.YtbajmaoegmbfgaaGreatGBr2
set_option linter.unusedSimpArgs false
set_option linter.unusedVariables false
namespace Go.Ct
open Go Go.RowKit
section
theorem rX.I2{L:List aU}{cs:List Int}{pn pc:Option Addr}{w w0:World}{M:List Nat}{H:List (Nat×Obj)}{F:Fr}{O:List Ow}(h:rX w0 L cs pn pc)(hw:SF w0 M H ((pn,gX L)::(pc,aH cs)::aL L) F O w):rX w L cs pn pc:=hw.ij (.inr (.inl (.head _))) (.inr (.inl (.tail _ (.head _)))) (λ f hf=>.inr (.inl (.tail _ (.tail _ hf)))) h.fit
theorem iG(L:List aU)(r:Int):bD (L.map aU.c) r=(aD L r).c:=(Ej L r).symm
end
end Go.Ct
namespace Go.Proofs.YtbajmaoegmbfgaaGreat
open Go.Proofs.Tryz (prog)
open Go Go.RowKit Go.Ct
section
section
variable{L:List aU}{cs:List Int}{gen:Int}{pn pc:Option Addr}{cn cc:Nat}{w:World}
abbrev Vv(L:List aU)(cs:List Int)(gen:Int)(pn:Option Addr)(cn:Nat)(pc:Option Addr)(cc:Nat):Value:=.agg ⟨[.slice pn L.length cn,.slice pc cs.length cc,.int .i64 gen]⟩
structure StB(L:List aU)(cs:List Int):Prop where
 cs:∀c,aY cs c<=9223372036854775807
 bA:∀r,(aD L r).nd.bA<=9223372036854775807
 new:∀r,(aD L r).nd.new<=9223372036854775807
 main:∀r,(aD L r).nd.main<=9223372036854775807
 prev:∀r,(aD L r).nd.prev<=9223372036854775807
 status:∀r,(aD L r).nd.status<=9223372036854775807
 br:∀r,∀b∈(aD L r).xs,b<=9223372036854775807
end
end
section
section
variable{L:List aU}{cs:List Int}{gen:Int}{pn pc:Option Addr}{cn cc:Nat}{w:World}
theorem aAd(h:rX w L cs pn pc)(r:Int)(hr:r<1):Calls prog 91 #[Vv L cs gen pn cn pc cc,.int .i64 r] w λ e w'=>e=.returned (aD L r).nd.v/\St w [] [] w':=by
 refine enter Tryz.func91 Tryz.ntmps91 rfl rfl h.start ?_
 simp only[cE]
 refine J0 ?_;refine bN (λ x2=>?_);refine aJ (λ x4=>?_);refine aG ?_;refine Kb3 ?_
 (refine eG 7 (λ g7=>?_) (λ g7=>?_)<;>(try (exfalso;omega))<;>(refine aI ?_))
 refine Rw ?_;refine Ka8 ?_
 refine bE (λ c13=>?_) (λ c13=>?_)
 ·try (exfalso;omega)
  refine Kb8 ?_
  refine bB Tryz.results91 (λ w hw=>?_)
  exact⟨by rw[pY (by omega)];rfl,hw.done⟩
 ·exact nv c13
theorem xy(h:rX w L cs pn pc){k:Nat}(hk:(k:Int)<9223372036854775807)(hl:L.length<=274877906944):Calls prog 91 #[Vv L cs gen pn cn pc cc,.int .i64 ((k+1:Nat):Int)] w λ e w'=>e=.returned (aD L ((k+1:Nat):Int)).nd.v/\St w [] [] w':=by
 refine enter Tryz.func91 Tryz.ntmps91 rfl rfl h.start ?_
 simp only[cE]
 refine J0 ?_;refine bN (λ x2=>?_);refine aJ (λ x4=>?_);refine aG ?_;refine Kb3 ?_
 (refine Ka3 ?_)
 refine Rw ?_;refine Ka8 ?_
 refine bE (λ c13=>?_) (λ c13=>?_)
 ·try (exfalso;omega)
  refine Kb8 ?_
  refine bB Tryz.results91 (λ w hw=>?_)
  (exact⟨by rw[pY (by omega)];rfl,hw.done⟩)
 ·try (exfalso;omega)
  refine aS ?_;refine Kc5 ?_;refine sB ?_;refine Qw ?_;refine J5 ?_
  refine bB Tryz.results91 (λ w hw=>?_)
  (exact⟨by rw[Ap (by omega)];rfl,hw.done⟩)
theorem uD(h:rX w L cs pn pc)(r:Int)(hr:r<=9223372036854775807)(hl:L.length<=274877906944):Calls prog 91 #[Vv L cs gen pn cn pc cc,.int .i64 r] w λ e w'=>e=.returned (aD L r).nd.v/\St w [] [] w':=by
 rcases Int.lt_or_le r 1 with h1|h1
 ·exact aAd h r h1
 ·obtain⟨k,rfl⟩:∃k:Nat,r=((k+1:Nat):Int):=⟨(r-1).toNat,by omega⟩
  exact xy h (by omega) hl
theorem dj(h:rX w L cs pn pc)(r:Int)(hr:r<1):Calls prog 90 #[Vv L cs gen pn cn pc cc,.int .i64 r] w λ e w'=>e=.returned (.int .i64 (aY cs r))/\St w [] [] w':=by
 refine enter Tryz.func90 Tryz.ntmps90 rfl rfl h.start ?_
 simp only[cE]
 refine J0 ?_;refine bN (λ x2=>?_);refine Kc8 ?_;refine A8 ?_
 (refine eG 7 (λ g7=>?_) (λ g7=>?_)<;>(try (exfalso;omega))<;>(refine aI ?_))
 refine Rw ?_;refine Ka8 ?_
 refine bE (λ c13=>?_) (λ c13=>?_)
 ·try (exfalso;omega)
  refine cZ ?_
  refine aN Tryz.results90 (λ w hw=>?_)
  exact⟨by rw[sL (by omega)];rfl,hw.done⟩
 ·exact nv c13
theorem av(h:rX w L cs pn pc){k:Nat}(hk:(k:Int)<9223372036854775807)(hl:cs.length<=274877906944):Calls prog 90 #[Vv L cs gen pn cn pc cc,.int .i64 ((k+1:Nat):Int)] w λ e w'=>e=.returned (.int .i64 (aY cs ((k+1:Nat):Int)))/\St w [] [] w':=by
 refine enter Tryz.func90 Tryz.ntmps90 rfl rfl h.start ?_
 simp only[cE]
 refine J0 ?_;refine bN (λ x2=>?_);refine Kc8 ?_;refine A8 ?_
 (refine Ka3 ?_)
 refine Rw ?_;refine Ka8 ?_
 refine bE (λ c13=>?_) (λ c13=>?_)
 ·try (exfalso;omega)
  refine cZ ?_
  refine aN Tryz.results90 (λ w hw=>?_)
  (exact⟨by rw[sL (by omega)];rfl,hw.done⟩)
 ·try (exfalso;omega)
  refine aS ?_;refine Kc5 ?_;refine sB ?_;refine Qw ?_;refine J1 ?_
  refine aN Tryz.results90 (λ w hw=>?_)
  (exact⟨by rw[E4 (by omega)];rfl,hw.done⟩)
theorem D8(h:rX w L cs pn pc)(r:Int)(hr:r<=9223372036854775807)(hl:cs.length<=274877906944):Calls prog 90 #[Vv L cs gen pn cn pc cc,.int .i64 r] w λ e w'=>e=.returned (.int .i64 (aY cs r))/\St w [] [] w':=by
 rcases Int.lt_or_le r 1 with h1|h1
 ·exact dj h r h1
 ·obtain⟨k,rfl⟩:∃k:Nat,r=((k+1:Nat):Int):=⟨(r-1).toNat,by omega⟩
  exact av h (by omega) hl
theorem uo(h:rX w L cs pn pc)(hb:StB L cs)(hl:L.length<=274877906944)(hc:cs.length<=274877906944)(i:Int)(hi:i<=9223372036854775807):Calls prog 83 #[Vv L cs gen pn cn pc cc,.int .i64 i] w λ e w'=>e=.returned (.tuple #[.int .i64 ((oK (L.map aU.c) cs i).getD 0),.bool (oK (L.map aU.c) cs i).isSome])/\St w [] [] w':=by
 refine enter Tryz.func83 Tryz.ntmps83 rfl rfl h.start ?_
 simp only[cE]
 simp only[Vv]
 refine J0 ?_;refine bN (λ x2=>?_);refine J8 ?_;refine aR ?_;refine Dv ?_;refine aM (cV (hc:=λ w1 hw=>uD (h.I2 hw) i hi hl)) (λ x10=>?_);refine cC ?_;refine Kd1 ?_
 refine bE (λ c12=>?_) (λ c12=>?_)
 ·refine Qh ?_
  refine bB Tryz.results83 (λ w hw=>?_)
  refine⟨?_,hw.done⟩
  unfold oK yK nZ wF
  simp only[iG,bZ,aU.c,Nd.c]
  simp_all
  rfl
 ·refine lW ?_;refine eQ [(0,[]),(1,[]),(2,[]),(3,[0]),(4,[]),(5,[]),(6,[])] ?_;refine bX ?_;refine bX ?_;refine bC ?_;refine dC (i:=3) (hq:=(cV (hc:=λ w1 hw=>uD (h.I2 hw) i hi hl))) (h:=λ x16=>?_);refine qT ?_;refine dC (i:=5) (hq:=(cV (hc:=λ w1 hw=>D8 (h.I2 hw) (aD L i).nd.main (hb.main i) hc))) (h:=λ x18=>?_);refine J7 ?_;refine aR ?_;refine Dv ?_;refine aM (cV (hc:=λ w1 hw=>uD (h.I2 hw) (aY cs (aD L i).nd.main) (hb.cs _) hl)) (λ x21=>?_);refine aC (c0 (V:=.bool) (hc:=λ w1 hw=>xX _ w1)) (λ x22 h22=>?_);refine pN ?_
  refine bE (λ c23=>?_) (λ c23=>?_)
  ·refine Qh ?_
   refine bB Tryz.results83 (λ w hw=>?_)
   refine⟨?_,hw.done⟩
   unfold oK yK nZ wF
   simp only[iG,bZ,aU.c,Nd.c]
   simp_all
   rfl
  ·refine lW ?_;refine eQ [(0,[]),(1,[]),(2,[]),(3,[0]),(4,[]),(5,[]),(6,[])] ?_;refine bX ?_;refine bX ?_;refine bC ?_;refine dC (i:=3) (hq:=(cV (hc:=λ w1 hw=>uD (h.I2 hw) (aY cs (aD L i).nd.main) (hb.cs _) hl))) (h:=λ x27=>?_);refine qT ?_;refine dC (i:=5) (hq:=(cV (hc:=λ w1 hw=>D8 (h.I2 hw) (aD L (aY cs (aD L i).nd.main)).nd.prev (hb.prev _) hc))) (h:=λ x29=>?_);refine J7 ?_;refine Cz ?_;refine J2 ?_;refine Qq ?_
   refine bE (λ c30=>?_) (λ c30=>?_)
   ·refine J2 ?_;refine J8 ?_
    refine bB Tryz.results83 (λ w hw=>?_)
    refine⟨?_,hw.done⟩
    unfold oK yK nZ wF
    simp only[iG,bZ,aU.c,Nd.c]
    simp_all
    rfl
   ·refine Dv ?_;refine aM (cV (hc:=λ w1 hw=>uD (h.I2 hw) (aY cs (aD L (aY cs (aD L i).nd.main)).nd.prev) (hb.cs _) hl)) (λ x37=>?_);refine cC ?_;refine Qq ?_
    refine bE (λ c34=>?_) (λ c34=>?_)
    ·refine dJ ?_;refine bO ?_;refine aA ?_;refine aM (cV (hc:=λ w1 hw=>uD (h.I2 hw) (aY cs (aD L (aY cs (aD L i).nd.main)).nd.prev) (hb.cs _) hl)) (λ x42=>?_);refine cC ?_;refine J1 ?_;refine eL ?_;refine aR ?_;refine Dv ?_;refine aM (cV (hc:=λ w1 hw=>uD (h.I2 hw) _ (by exact hb.bA _) hl)) (λ x46=>?_);refine aC (c0 (V:=.bool) (hc:=λ w1 hw=>xX _ w1)) (λ x47 h47=>?_);refine pN ?_
     refine bE (λ c48=>?_) (λ c48=>?_)
     ·refine Qh ?_
      refine bB Tryz.results83 (λ w hw=>?_)
      refine⟨?_,hw.done⟩
      unfold oK yK nZ wF
      simp only[iG,bZ,aU.c,Nd.c]
      simp_all
      rfl
     ·refine aS ?_;refine J2 ?_;refine J8 ?_
      refine bB Tryz.results83 (λ w hw=>?_)
      refine⟨?_,hw.done⟩
      unfold oK yK nZ wF
      simp only[iG,bZ,aU.c,Nd.c]
      simp_all
      rfl
    ·refine pM ?_;refine aR ?_;refine Dv ?_;refine aM (cV (hc:=λ w1 hw=>uD (h.I2 hw) _ (by exact hb.cs _) hl)) (λ x46=>?_);refine aC (c0 (V:=.bool) (hc:=λ w1 hw=>xX _ w1)) (λ x47 h47=>?_);refine pN ?_
     refine bE (λ c48=>?_) (λ c48=>?_)
     ·refine Qh ?_
      refine bB Tryz.results83 (λ w hw=>?_)
      refine⟨?_,hw.done⟩
      unfold oK yK nZ wF
      simp only[iG,bZ,aU.c,Nd.c]
      simp_all
      rfl
     ·refine aS ?_;refine J2 ?_;refine J8 ?_
      refine bB Tryz.results83 (λ w hw=>?_)
      refine⟨?_,hw.done⟩
      unfold oK yK nZ wF
      simp only[iG,bZ,aU.c,Nd.c]
      simp_all
      rfl
theorem td(h:rX w L cs pn pc)(hb:StB L cs)(hl:L.length<=274877906944)(hc:cs.length<=274877906944)(c:Int)(ro:Bool)(hi:c<=9223372036854775807):Calls prog 95 #[Vv L cs gen pn cn pc cc,.agg ⟨[.int .i64 c,.bool ro]⟩] w λ e w'=>e=.returned (.tuple #[.int .i64 ((oL (L.map aU.c) cs c).getD 0),.bool (oL (L.map aU.c) cs c).isSome])/\St w [] [] w':=by
 refine enter Tryz.func95 Tryz.ntmps95 rfl rfl h.start ?_
 simp only[cE]
 simp only[Vv]
 refine J0 ?_;refine bN (λ x2=>?_);refine bN (λ x3=>?_);refine J8 ?_;refine oX ?_;refine J3 ?_;refine aM (cV (hc:=λ w1 hw=>D8 (h.I2 hw) c hi hc)) (λ x11=>?_);refine iW ?_;refine Dv ?_;refine aM (cV (hc:=λ w1 hw=>uD (h.I2 hw) (aY cs c) (hb.cs _) hl)) (λ x14=>?_);refine aJ (λ x7=>?_);refine J5 ?_;refine gY ?_;refine uM ?_
 refine bE (λ c17=>?_) (λ c17=>?_)
 ·refine gY ?_;refine J1 ?_;refine oX ?_;refine J3 ?_;refine aM (cV (hc:=λ w1 hw=>D8 (h.I2 hw) (aD L (aY cs c)).nd.status (hb.status _) hc)) (λ x23=>?_);refine uM ?_
  refine bE (λ c24=>?_) (λ c24=>?_)
  ·refine dJ ?_;refine J3 ?_;refine iW ?_;refine Dv ?_;refine aM (cV (hc:=λ w1 hw=>uD (h.I2 hw) _ (by exact hb.new _) hl)) (λ x29=>?_);refine cC ?_;refine Kd1 ?_
   refine bE (λ c31=>?_) (λ c31=>?_)
   ·refine Qh ?_
    refine bB Tryz.results95 (λ w hw=>?_)
    refine⟨?_,hw.done⟩
    unfold oL uE
    simp only[iG,bZ,aU.c,Nd.c]
    simp_all
    rfl
   ·refine aS ?_;refine J2 ?_;refine J8 ?_
    refine bB Tryz.results95 (λ w hw=>?_)
    refine⟨?_,hw.done⟩
    unfold oL uE
    simp only[iG,bZ,aU.c,Nd.c]
    simp_all
    rfl
  ·refine lW ?_;refine Dv ?_;refine aM (cV (hc:=λ w1 hw=>uD (h.I2 hw) _ (by exact hb.bA _) hl)) (λ x29=>?_);refine cC ?_;refine Kd1 ?_
   refine bE (λ c31=>?_) (λ c31=>?_)
   ·refine Qh ?_
    refine bB Tryz.results95 (λ w hw=>?_)
    refine⟨?_,hw.done⟩
    unfold oL uE
    simp only[iG,bZ,aU.c,Nd.c]
    simp_all
    rfl
   ·refine aS ?_;refine J2 ?_;refine J8 ?_
    refine bB Tryz.results95 (λ w hw=>?_)
    refine⟨?_,hw.done⟩
    unfold oL uE
    simp only[iG,bZ,aU.c,Nd.c]
    simp_all
    rfl
 ·refine lW ?_;refine Dv ?_;refine aM (cV (hc:=λ w1 hw=>uD (h.I2 hw) _ (by exact hb.cs _) hl)) (λ x29=>?_);refine cC ?_;refine Kd1 ?_
  refine bE (λ c31=>?_) (λ c31=>?_)
  ·refine Qh ?_
   refine bB Tryz.results95 (λ w hw=>?_)
   refine⟨?_,hw.done⟩
   unfold oL uE
   simp only[iG,bZ,aU.c,Nd.c]
   simp_all
   rfl
  ·refine aS ?_;refine J2 ?_;refine J8 ?_
   refine bB Tryz.results95 (λ w hw=>?_)
   refine⟨?_,hw.done⟩
   unfold oL uE
   simp only[iG,bZ,aU.c,Nd.c]
   simp_all
   rfl
end
end
end Go.Proofs.YtbajmaoegmbfgaaGreat
namespace Go.Ct
open Go Go.RowKit
section
end
section
structure Pl where
 i:Int
 m:Int
 a:Int
 lv:Nat
 way:List Int
end
section
end
end Go.Ct
namespace Go.Proofs.YtbajmaoegmbfgaaGreat
open Go Go.RowKit Go.Ct
section
end
end Go.Proofs.YtbajmaoegmbfgaaGreat
namespace Go.Ct
open Go Go.RowKit
section
section
variable{N:List Nv}{f:Int->List Int->List Int->Option (List Pl×List Pr)}{way idx xs s s2:List Int}{j:Nat}{r:List Pl×List Pr}
end
section
variable{N:List Nv}{cs:List Int}{a i m:Int}{lv n:Nat}{way s:List Int}
end
end
section
end
end Go.Ct
namespace Go.Proofs.YtbajmaoegmbfgaaGreat
section
open Go Go.RowKit Go.Ct
section
variable{L:List aU}{cs:List Int}{gen:Int}{pn pc:Option Addr}{cn cc:Nat}{w:World}
end
end
section
open Go.RowKit Go.Ct
end
section
open Go.Ct
end
end Go.Proofs.YtbajmaoegmbfgaaGreat
namespace Go.Ct
section
end
end Go.Ct
namespace Go.Proofs.YtbajmaoegmbfgaaGreat
open Go.RowKit Go.Ct
section
end
end Go.Proofs.YtbajmaoegmbfgaaGreat
namespace Go.Ct
section
theorem E3{n:Nd}:(fV n).isSome=true↔n.kind=2∨n.kind=3∨n.kind=5∨n.kind=6∨n.kind=8:=by
 unfold fV
 split
 ·simp_all
 ·split
  ·simp_all;omega
  ·split
   ·simp_all
   ·simp_all
def aAc(n:Nd):Int:=Go.IntKind.i64.wrap (Go.IntKind.i64.wrap (n.main+n.prev)+n.status)
theorem s5{n:Nd}{xs:List Int}{ys:List Pr}(h:cG n xs ys)(hr:NdR n){c:Int}(hc:fV n=some c):aAc n=c:=by
 obtain⟨e,h1,h2,h3,_⟩:=h
 have e':=Au.1 e
 obtain⟨_,m1,m2,m3⟩:=hr
 simp only[Nd.c,Nv.mk.injEq] at e'
 obtain⟨_,_,em,_,_,_,_,_,_,ep,_,_,_,es⟩:=e'
 unfold fV at hc
 unfold aAc
 split at hc
 ·rename_i hk
  simp only[Option.some.injEq] at hc
  have a:n.prev=0:=by rw[ep];simp[Nd.own,hk,Nd.zero]
  have b:n.status=0:=by rw[es];simp[Nd.own,hk,Nd.zero]
  rw[wrap_i64 (i:=n.main+n.prev) (by omega) (by omega),wrap_i64 (by omega) (by omega)]
  omega
 ·split at hc
  ·rename_i hk
   simp only[Option.some.injEq] at hc
   have a:n.main=0:=by rw[em];rcases hk with hk|hk|hk<;>simp[Nd.own,hk,Nd.zero]
   have b:n.status=0:=by rw[es];rcases hk with hk|hk|hk<;>simp[Nd.own,hk,Nd.zero]
   rw[wrap_i64 (i:=n.main+n.prev) (by omega) (by omega),wrap_i64 (by omega) (by omega)]
   omega
  ·split at hc
   ·rename_i hk
    simp only[Option.some.injEq] at hc
    have a:n.main=0:=by rw[em];simp[Nd.own,hk,Nd.zero]
    have b:n.prev=0:=by rw[ep];simp[Nd.own,hk,Nd.zero]
    rw[wrap_i64 (i:=n.main+n.prev) (by omega) (by omega),wrap_i64 (by omega) (by omega)]
    omega
   ·cases hc
end
end Go.Ct
namespace Go.Proofs.YtbajmaoegmbfgaaGreat
open Go.RowKit Go.Ct
section
theorem H0{xs:List Int}{N c:Nat}{a:Option Addr}{w:World}(ha:Cl w a (aH xs))(hx:xs.length<4611686018427387904) :
  Calls Tryz.prog 125 #[.int .i64 ((N:Nat):Int),.slice a xs.length c] w λ e w'=>∃r:Bool,e=.returned (.bool r)/\(r=true↔∀i,i<xs.length->Ds (xs.getD i 0) N)/\St w [] [] w':=by
 refine enter Tryz.func125 Tryz.ntmps125 rfl rfl (SF.s1 ha) ?_
 simp only[cE]
 refine Er ?_;refine Gp ?_
 refine gV [4,5,6,7,8,9,10,11,12,13,14,15,16,17,18,19,20,21,22,23,24] (λ k=>[(5,.int .i64 ((k:Nat):Int))]) (λ k=>k<=xs.length/\∀i,i<k->Ds (xs.getD i 0) N) (λ k=>xs.length-k) (0) (⟨Nat.zero_le _,λ i hi=>absurd hi (Nat.not_lt_zero i)⟩) ?_ (λ k f hx=>?_)
 ·repeat (first|exact bQ _|refine bJ (by exact rfl) ?_)
 dsimp only[iB,List.map,List.cons_append,List.nil_append]
 refine Da ?_;refine dX ?_;refine Bq ?_
 refine bE (λ c9=>?_) (λ c9=>?_)
 ·refine sA ?_;refine jM ?_;refine Qw ?_;refine A8 ?_
  (refine eG 17 (λ g17=>?_) (λ g17=>?_)<;>refine Ka0 ?_)
  all_goals (refine Ka0 ?_;(first|refine aI ?_|(refine aF ?_;refine fZ ?_));refine aw ?_;refine Ka8 ?_)
  all_goals
  refine bE (λ c24=>?_) (λ c24=>?_)
  ·all_goals refine cZ ?_
   all_goals
    refine aN Tryz.results125 (λ w hw=>?_)
    exact⟨false,rfl,⟨(λ h=>nomatch h),λ h=>by have h1:=h k (by omega);obtain⟨h2,h3⟩:=h1;exfalso;omega⟩,hw.done⟩
  ·try exact nv c24
   all_goals (refine Kc7 ?_)
   all_goals
    refine fE (k+1) ?_ ?_ ?_
    ·omega
    ·repeat' (first|exact bQ _|refine bJ ?_ ?_)
     exact rfl
    ·exact⟨by omega,λ i hi=>by rcases Nat.lt_succ_iff_lt_or_eq.1 hi with h|rfl;exact hx.2 i h;exact⟨by omega,by omega⟩⟩
 ·refine bR rfl ?_;refine cZ ?_
  refine aN Tryz.results125 (λ w hw=>?_)
  exact⟨true,rfl,⟨λ _ i hi=>hx.2 i (by omega),λ _=>rfl⟩,hw.done⟩
theorem ab(n:Nd)(w:World):Calls Tryz.prog 127 #[.int .i64 n.kind] w λ e w'=>e=.returned (.bool (fV n).isSome)/\St w [] [] w':=by
 refine enter Tryz.func127 Tryz.ntmps127 rfl rfl (SF.s0 w) ?_
 simp only[cE]
 refine Kc3 ?_;refine kR ?_;refine aA ?_
 (refine eG 5 (λ g5=>?_) (λ g5=>?_)<;>refine Ka0 ?_)
 all_goals (refine Kb0 ?_)
 all_goals (first|refine aI ?_|(refine eG 9 (λ g9=>?_) (λ g9=>?_)<;>refine Ka0 ?_))
 all_goals (refine Kb0 ?_)
 all_goals (first|refine aI ?_|(refine eG 13 (λ g13=>?_) (λ g13=>?_)<;>refine Ka0 ?_))
 all_goals (refine Kb0 ?_)
 all_goals (first|refine aI ?_|(refine eG 17 (λ g17=>?_) (λ g17=>?_)<;>refine Ka0 ?_))
 all_goals (refine uU ?_;refine J1 ?_)
 all_goals
 refine aN Tryz.results127 (λ w hw=>?_)
 refine⟨?_,hw.done⟩
 first|(rw[E3.2 (by omega)];rfl)|(rw[show(fV n).isSome=(n.kind==8) from by rw[Bool.eq_iff_iff,beq_iff_eq,E3];omega];rfl)
theorem Wo(n:Nd)(w:World):Calls Tryz.prog 128 #[n.v] w λ e w'=>e=.returned (.int .i64 (aAc n))/\St w [] [] w':=by
 refine enter Tryz.func128 Tryz.ntmps128 rfl rfl (SF.s0 w) ?_
 simp only[cE]
 simp only[Nd.v,Nd.cells]
 refine J0 ?_;refine bN (λ x1=>?_);refine J1 ?_;refine gY ?_;refine J3 ?_;refine aB (oJ rf rf) rfl ?_;refine J3 ?_;refine aB (oJ rf rf) rfl ?_;refine J1 ?_
 refine aN Tryz.results128 (λ w hw=>?_)
 exact⟨rfl,hw.done⟩
set_option maxRecDepth 100000 in
theorem De{L:List aU}{cs:List Int}{gen:Int}{pn pc:Option Addr}{cn cc:Nat}{w:World}(h:rX w L cs pn pc)(hR:Xa L)(hL:L.length<=274877906944)(hC:cs.length<=274877906944) :
    Calls Tryz.prog 82 #[.agg ⟨[.slice pn L.length cn,.slice pc cs.length cc,.int .i64 gen]⟩] w λ e w'=>∃r:Bool,e=.returned (.bool r)/\(r=true↔jA L cs gen)/\St w [] [] w':=by
  refine enter Tryz.func82 Tryz.ntmps82 rfl rfl h.start ?_
  simp only[cE]
  refine J0 ?_;refine bN (λ x1=>?_);refine J1 ?_;refine gY ?_;refine dX ?_;refine Kc8 ?_;refine A8 ?_
  (refine eG 13 (λ g13=>?_) (λ g13=>?_)<;>refine Ka1 ?_)
  all_goals (refine Ka2 ?_;(first|refine aI ?_|(refine aF ?_;refine aB (sQ (k:=0) rf rf gO eE fin (by omega) (by omega)) rfl ?_));refine Ka1 ?_;(first|refine aI ?_|(refine aF ?_;refine aB (vZ (q:=0) rf gA fin (by omega)) rfl ?_));refine Tl ?_;refine aA ?_)
  all_goals (first|refine aI ?_|(refine eG 21 (λ g21=>?_) (λ g21=>?_)<;>refine Ka1 ?_))
  all_goals (refine Ka2 ?_;(first|refine aI ?_|(refine aF ?_;refine aB (sQ (k:=1) rf rf gO eE fin (by omega) (by omega)) rfl ?_));refine Ka1 ?_;(first|refine aI ?_|(refine aF ?_;refine aB (vZ (q:=1) rf gA fin (by omega)) rfl ?_));refine Tl ?_;refine aA ?_)
  all_goals (first|refine aI ?_|(refine eG 29 (λ g29=>?_) (λ g29=>?_)<;>refine Ka1 ?_))
  all_goals (refine J89 ?_;refine aA ?_)
  all_goals (first|refine aI ?_|(refine eG 34 (λ g34=>?_) (λ g34=>?_)<;>refine Ka0 ?_))
  all_goals (refine J6 ?_;(first|refine aI ?_|(refine aF ?_;refine aC (c0 (V:=.bool) (hc:=λ w1 hw=>H0 (hw.cl (.bA (.tail .head))) (by omega))) (λ x38 h38=>?_)));refine Kb9 ?_)
  all_goals
   refine bE (λ c40=>?_) (λ c40=>?_)
   · all_goals refine cZ ?_
     all_goals
      refine aN Tryz.results82 (λ w hw=>?_)
      exact⟨false,rfl,⟨(λ h=>nomatch h),λ hp=>by
       have h1:=hp.two
       have h2:=hp.gen0
       have h3:=hp.m0
       have h4:=hp.m1
       first|omega|(have h5:=h38.2 hp.cells;simp_all)⟩,hw.done⟩
   · try exact nv c40
     all_goals (refine aS ?_;refine gY ?_;refine dX ?_;refine wR (λ x44=>?_);refine iW ?_;refine Gp ?_)
     all_goals
      refine nS [2,5,6,7,45,46,47,48,49,50,51,52,53,54,55,56,57,58,59,60,61,62,63,64,65,66,67,68,69,70,71,72,73,74,75,76,77,78,79,80,81,82,83,84,85,86,87,88,89,90,91,92,93,94,95,96,97,98,99,100,101,102,103,104,105,106,107,108,109] (λ y:Nat×List Bool=>[(5,.int .i64 ((y.1:Nat):Int))]) (λ y=>y.1<=L.length/\marks cs.length (L.take y.1)=some y.2/\∀i,i<y.1->mT gen L.length (L.getD i aU.zero)) (λ _=>_) (λ _=>_) (λ y=>[⟨some ⟨x44,0,none⟩,gG y.2,cs.length,4,1⟩]) (λ y=>L.length-y.1) ((0,List.replicate cs.length false)) (⟨Nat.zero_le _,rfl,λ i hi=>absurd hi (Nat.not_lt_zero i)⟩) (λ y f hx=>?_)
      dsimp only[iB,List.map,List.cons_append,List.nil_append]
      have hu:=Ce hx.2.1
      refine Da ?_;refine Bq ?_
      refine bE (λ c47=>?_) (λ c47=>?_)
      · obtain⟨⟨bm,hbm,hbm2⟩,hr1,hr2,hr3⟩:=hR _ (gE (L:=L) (k:=y.1) (by omega))
        refine sA ?_;refine Kc5 ?_;refine Qw ?_;refine aJ (λ x6=>?_);refine J5 ?_;refine aR ?_;refine oX ?_;refine aC (c0 (V:=.bool) (hc:=λ w1 hw=>zC hbm hbm2 (hw.Pp h.fit (by omega)))) (λ x56 h56=>?_);refine Fy ?_
        (refine eG 58 (λ g58=>?_) (λ g58=>?_)<;>refine Ka1 ?_)
        all_goals (refine Bg ?_;refine Cf ?_;refine aA ?_)
        all_goals (first|refine aI ?_|(refine eG 65 (λ g65=>?_) (λ g65=>?_)<;>refine Ka0 ?_))
        all_goals (refine J6 ?_;(first|refine aI ?_|(refine aF ?_;refine aC (c0 (V:=.bool) (hc:=λ w1 hw=>by rw[(hw.Pp h.fit (k:=y.1) (by omega)).brN];exact H0 (hw.Pp h.fit (by omega)).br (hw.Pp h.fit (by omega)).brS)) (λ x69 h69=>?_)));refine Ib ?_;refine aA ?_)
        all_goals (first|refine aI ?_|(refine eG 72 (λ g72=>?_) (λ g72=>?_)<;>refine Ka0 ?_))
        all_goals (refine J6 ?_;refine J6 ?_;refine J6 ?_;(first|refine aI ?_|(refine aF ?_;refine fX (λ x80=>?_)));(first|refine aI ?_|(refine aF ?_;refine aC (c0 (V:=.bool) (hc:=λ w1 hw=>H0 (xs:=[(L.getD y.1 aU.zero).nd.bA,(L.getD y.1 aU.zero).nd.exp,(L.getD y.1 aU.zero).nd.new]) (hw.cl (.new .head)) (by simp only[List.length_cons,List.length_nil];decide))) (λ x81 h81=>?_)));refine Kb9 ?_)
        all_goals
         refine bE (λ c83=>?_) (λ c83=>?_)
         · all_goals refine cZ ?_
           all_goals
            refine aN Tryz.results82 (λ w hw=>?_)
            refine⟨false,rfl,⟨(λ h=>nomatch h),λ hp=>?_⟩,hw.done⟩
            obtain⟨q1,q2,q3,q4,q5,q6⟩:=hp.nodes y.1 (by omega)
            first|(exfalso;omega)|(have:=h56.2 q1;simp_all;done)|(have:=h81.2 (λ i hi=>by simp only[List.length_cons,List.length_nil] at hi;rcases(show i=0∨i=1∨i=2 by omega) with rfl|rfl|rfl;exact q4;exact q5;exact q6);simp_all;done)
         · try exact nv c83
           all_goals
            have hrr:=h81.1 c83
            have hok:mT gen L.length (L.getD y.1 aU.zero):=⟨h56.1 g58,by omega,h69.1 g72,hrr 0 (by simp),hrr 1 (by simp),hrr 2 (by simp)⟩
           all_goals (refine lW ?_;refine gY ?_;refine aM (cV (hc:=λ w1 hw=>ab (L.getD y.1 aU.zero).nd w1)) (λ x86=>?_);refine pN ?_)
           all_goals
            refine bE (λ c87=>?_) (λ c87=>?_)
            · have hmk:eK (some y.2) (L.getD y.1 aU.zero).nd=some y.2:=by
               have e:fV (L.getD y.1 aU.zero).nd=none:=by cases hq:fV (L.getD y.1 aU.zero).nd<;>simp_all
               simp only[eK,e]
              refine bR rfl ?_;refine xI ?_
              refine gU ((y.1+1,(eK (some y.2) (L.getD y.1 aU.zero).nd).getD y.2)) ?_ (hw1:=λ w hw=>by rw[hmk];exact hw.back (hO:=by exact List.Sublist.refl _))
              · refine⟨by omega,by rw[nG (by omega),hx.2.1,hmk];rfl,λ i hi=>?_⟩
                rcases Nat.lt_succ_iff_lt_or_eq.1 hi with h|rfl
                · exact hx.2.2 i h
                · exact hok
            · obtain⟨c,hc⟩:∃c,fV (L.getD y.1 aU.zero).nd=some c:=Option.isSome_iff_exists.1 c87
              have hs:=s5 hok.1 ⟨⟨bm,hbm,hbm2⟩,hr1,hr2,hr3⟩ hc
              refine aS ?_;refine oX ?_;refine aM (cV (hc:=λ w1 hw=>Wo (L.getD y.1 aU.zero).nd w1)) (λ x89=>?_);refine Kc8 ?_;refine A8 ?_
              (refine eG 92 (λ g92=>?_) (λ g92=>?_)<;>refine Ka0 ?_)
              all_goals (refine Rw ?_;refine Cf ?_;refine aA ?_)
              all_goals (first|refine aI ?_|(refine eG 99 (λ g99=>?_) (λ g99=>?_)<;>refine Ka0 ?_))
              all_goals (refine Ka0 ?_;(first|refine aI ?_|(refine aF ?_;refine aB (Lc rf rf (by omega) (by omega)) rfl ?_));(first|refine aI ?_|(refine aF ?_;refine aB (wX rf rf gO gA fin (by omega) (by omega)) rfl ?_));(first|refine aI ?_|(refine aF ?_;refine aB (K7 rf gA fin (by omega)) rfl ?_));refine cA ?_;refine aG ?_)
              all_goals
               refine bE (λ c105=>?_) (λ c105=>?_)
               · all_goals refine cZ ?_
                 all_goals
                  refine aN Tryz.results82 (λ w hw=>?_)
                  refine⟨false,rfl,⟨(λ h=>nomatch h),λ hp=>?_⟩,hw.done⟩
                  have hm:marks cs.length (L.take (y.1+1))=none:=by
                   rw[nG (by omega),hx.2.1]
                   simp only[eK,hc]
                   refine if_neg λ hh=>?_
                   obtain⟨q1,q2,q3⟩:=hh
                   first|(exfalso;omega)|(exfalso;rw[hs,q3] at c105;cases c105)
                  exact absurd (Gr hm) hp.marks
               · try exact nv c105
                 all_goals
                  rw[hs] at c105 g92 g99
                  have hmk:eK (some y.2) (L.getD y.1 aU.zero).nd=some (y.2.set (c-1).toNat true):=by
                   simp only[eK,hc]
                   rw[if_pos ⟨by omega,by omega,c105⟩]
                 all_goals (refine aS ?_;refine Jv ?_;refine aB (Lc rf rf (by omega) (by omega)) rfl ?_;refine aB (wX rf rf gO gA fin (by omega) (by omega)) rfl ?_;refine J5 ?_;refine Kb2 ?_)
                 all_goals
                  refine gU ((y.1+1,(eK (some y.2) (L.getD y.1 aU.zero).nd).getD y.2)) ?_ (hw1:=λ w hw=>by rw[hmk];(rw[hs] at hw;exact hw.back (hO:=by exact List.Sublist.refl _)))
                  · refine⟨by omega,by rw[nG (by omega),hx.2.1,hmk];rfl,λ i hi=>?_⟩
                    rcases Nat.lt_succ_iff_lt_or_eq.1 hi with h|rfl
                    · exact hx.2.2 i h
                    · exact hok
      · refine bR rfl ?_;refine cZ ?_
        refine aN Tryz.results82 (λ w hw=>?_)
        have hy:y.1=L.length:=by omega
        have hmm:marks cs.length L=some y.2:=by have:=hx.2.1;rwa [hy,List.take_length] at this
        exact⟨true,rfl,⟨λ _=>⟨by omega,by omega,by omega,by omega,h38.1 (by simp_all),λ i hi=>hx.2.2 i (by omega),by rw[hmm];exact λ h=>nomatch h⟩,λ _=>rfl⟩,hw.done⟩
end
end Go.Proofs.YtbajmaoegmbfgaaGreat
