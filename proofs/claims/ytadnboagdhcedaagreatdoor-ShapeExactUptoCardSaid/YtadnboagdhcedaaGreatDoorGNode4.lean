/- node.Valid. -/
import Derived.Test.YtadnboagdhcedaaGreatDoorGNode2
import Derived.Test.YtadnboagdhcedaaGreatDoorAuto

set_option linter.unusedSimpArgs false
set_option linter.unusedVariables false
namespace Go.Proofs.YtadnboagdhcedaaGreatDoor
section
open Go.RowKit Go.Ct
theorem y3(b:Int)(w:World):Calls Tryz.prog 100 #[.int .u64 b] w λ e w'=>e=.returned (.int .i64 (zE b))/\St w [] [] w':=by
 refine enter Tryz.func100 Tryz.ntmps100 rfl rfl (SF.s0 w) ?_;simp only[cP]
 refine cR ?_;refine J2 ?_;refine D4 ?_;refine A6 ?_;refine aB ?_;refine A6 ?_;refine Gb ?_;refine Ka6 ?_;refine D4 ?_;refine A6 ?_;refine aB ?_;refine A6 ?_;refine Gb ?_;refine Ka6 ?_;refine D4 ?_;refine aB ?_;refine Gb ?_;refine A6 ?_;refine vE ?_;refine D4 ?_;refine Gb ?_;refine vE ?_;refine D4 ?_;refine Gb ?_;refine vE ?_;refine D4 ?_;refine Gb ?_;refine Ka6 ?_;refine jO ?_;refine A6 ?_;refine J1 ?_;refine aR Tryz.results100 (λ w hw=>?_);exact⟨rfl,hw.done⟩
theorem Wz(b:Int)(w:World):Calls Tryz.prog 73 #[.int .u64 b] w λ e w'=>e=.returned (.int .i64 (zE b))/\St w [] [] w':=by
 refine enter Tryz.func73 Tryz.ntmps73 rfl rfl (SF.s0 w) ?_;simp only[cP]
 refine cR ?_;refine J2 ?_;refine aS (cV (hc:=λ w1 hw=>y3 b w1)) (λ x4=>?_);refine J1 ?_;refine aR Tryz.results73 (λ w hw=>?_);exact⟨rfl,hw.done⟩
theorem Zc{n:Nd}{xs:List Int}{ys:List Pr}{w:World}(hr:qR w n xs ys) :
  Calls Tryz.prog 131 #[n.v] w λ e w'=>∃r:Bool,e=.returned (.bool r)/\(r=true↔cK n xs ys)/\St w [] [] w':=by
 have e1:=hr.brN;have e2:=hr.prN;refine enter Tryz.func131 Tryz.ntmps131 rfl rfl (SF.s0 w) ?_;simp only[cP]
 refine K1k ?_;intro x1;refine gX ?_;refine aV ?_;refine dZ [(0,[]),(1,[]),(2,[0]),(3,[]),(4,[])] ?_;refine aZ ?_;refine aZ ?_;refine cA (i:=2) (hq:=(cV (hc:=λ w1 hw=>aAY n w1))) (h:=λ x5=>?_);refine bL (i:=3) (hq:=(c0 (V:=.bool) (hc:=λ w1 hw=>ym (hr.gU hw.st) (hr.gU hw.st).own))) (h:=λ x6 h6=>?_);refine zJ ?_;refine dJ ?_;refine bA (λ c7=>?_) (λ c7=>?_)
 ·refine cR ?_;refine K2l ?_;intro w hw;refine⟨_,rfl,?_,hw.done⟩;(simp_all[cK];done)
 ·refine jH ?_;refine gH ?_;refine zB ?_;(refine eM 11 (λ g11=>?_) (λ g11=>?_)<;>refine Ka1 ?_);all_goals (refine xw ?_;refine aB ?_)
  all_goals (first|refine aJ ?_|(refine eM 16 (λ g16=>?_) (λ g16=>?_)<;>refine Ka1 ?_))
  all_goals (refine xw ?_;refine aK ?_)
  all_goals
  refine bA (λ c20=>?_) (λ c20=>?_)
  ·all_goals refine cR ?_
   all_goals
    refine K2l ?_;intro w hw;refine⟨_,rfl,?_,hw.done⟩;(simp_all[cK];omega)
  ·try exact nv c20
   all_goals (refine jH ?_;refine gH ?_;refine Kc3 ?_;refine Ez ?_;refine Ez ?_;refine Ez ?_;refine Ez ?_;refine cE ?_;refine Ez ?_;refine Ez ?_;refine Ez ?_;refine aV ?_;refine aV ?_;refine jM ?_)
   all_goals
    refine bA (λ c23=>?_) (λ c23=>?_)
    ·refine bM rfl ?_;refine aV ?_;refine cR ?_;refine K2l ?_;intro w hw;refine⟨_,rfl,?_,hw.done⟩;(simp_all[cK];done)
    ·refine jH ?_;refine jM ?_;refine bA (λ c25=>?_) (λ c25=>?_)
     ·refine bM rfl ?_;refine Ce ?_;refine oD ?_;refine J1 ?_;refine K2l ?_;intro w hw;refine⟨_,rfl,?_,hw.done⟩;(simp_all[cK];done)
     ·refine jH ?_;refine jM ?_;refine bA (λ c27=>?_) (λ c27=>?_)
      ·refine bM rfl ?_;refine aV ?_;refine aV ?_;refine dZ [(0,[]),(1,[]),(2,[]),(3,[]),(4,[]),(5,[1]),(6,[]),(7,[]),(8,[]),(9,[]),(10,[]),(11,[]),(12,[])] ?_;refine iT ?_;refine iW ?_;refine iT ?_;refine cA (i:=5) (hq:=(cV (hc:=λ w1 hw=>Wz n.bm w1))) (h:=λ x47=>?_);refine jQ ?_;refine aL ?_;(refine Eu 49 (λ g49=>?_) (λ g49=>?_)<;>(first|refine bX ?_|(refine aN ?_)));all_goals ((first|refine bX ?_|(refine aZ ?_));(first|refine bX ?_|(refine bL (i:=10) (hq:=(c0 (V:=.bool) (hc:=λ w1 hw=>by rw[e1];exact Tb (hr.br.gU hw.st) hr.brS))) (h:=λ x52 h52=>?_)));refine eS ?_;refine J7 ?_)
       all_goals
       refine K2l ?_;intro w hw;refine⟨_,rfl,?_,hw.done⟩;(simp_all[cK];done)
      ·refine jH ?_;refine jM ?_;refine bA (λ c29=>?_) (λ c29=>?_)
       ·refine Zb ?_;refine Ce ?_;refine lF ?_;refine zM ?_;refine J1 ?_;refine K2l ?_;intro w hw;refine⟨_,rfl,?_,hw.done⟩;(simp_all[cK];omega)
       ·refine jH ?_;refine jM ?_;refine bA (λ c31=>?_) (λ c31=>?_)
        ·refine bM rfl ?_;refine Ce ?_;refine lF ?_;refine zM ?_;refine J1 ?_;refine K2l ?_;intro w hw;refine⟨_,rfl,?_,hw.done⟩;(simp_all[cK];omega)
        ·refine jH ?_;refine jM ?_;refine bA (λ c33=>?_) (λ c33=>?_)
         ·refine bM rfl ?_;refine Ce ?_;refine dE ?_;refine oD ?_;refine aB ?_;(refine eM 62 (λ g62=>?_) (λ g62=>?_)<;>refine Ka1 ?_);all_goals (refine Ka2 ?_;(first|refine aJ ?_|(refine aF ?_;refine aD (c0 (V:=.bool) (hc:=λ w1 hw=>by rw[e2];exact Zd (hr.pr.gU hw.st) hr.prS)) (λ x65 h65=>?_)));refine Kc4 ?_)
          all_goals (first|refine aJ ?_|(refine eM 67 (λ g67=>?_) (λ g67=>?_)<;>refine Ka1 ?_))
          all_goals (refine Ka2 ?_;(first|refine aJ ?_|(refine aF ?_;refine aD (c0 (V:=.bool) (hc:=λ w1 hw=>by rw[e2];exact N4 (hr.pr.gU hw.st) hr.prS)) (λ x70 h70=>?_)));refine Kd0 ?_)
          all_goals
          refine K2l ?_;intro w hw;refine⟨_,rfl,?_,hw.done⟩;first|(simp_all[cK];done)|(simp_all[cK];omega)
         ·refine jH ?_;refine jM ?_;refine bA (λ c35=>?_) (λ c35=>?_)
          ·refine bM rfl ?_;refine gH ?_;refine zB ?_;(refine eM 75 (λ g75=>?_) (λ g75=>?_)<;>refine Ka1 ?_);all_goals (refine xw ?_;refine aK ?_)
           all_goals
           refine bA (λ c79=>?_) (λ c79=>?_)
           ·all_goals refine cR ?_
            all_goals
             refine K2l ?_;intro w hw;refine⟨_,rfl,?_,hw.done⟩;(simp_all[cK];omega)
           ·try exact nv c79
            all_goals (refine kN ?_;refine Ce ?_;refine oD ?_;refine J1 ?_)
            all_goals
             refine K2l ?_;intro w hw;refine⟨_,rfl,?_,hw.done⟩;(simp_all[cK];done)
          ·refine bB ?_;refine jM ?_;refine bA (λ c37=>?_) (λ c37=>?_)
           ·refine bM rfl ?_;refine Ce ?_;refine oD ?_;refine J1 ?_;refine K2l ?_;intro w hw;refine⟨_,rfl,?_,hw.done⟩;(simp_all[cK];done)
           ·refine bB ?_;refine K0z ?_;refine K2l ?_;intro w hw;refine⟨_,rfl,?_,hw.done⟩;(simp_all[cK];done)
end

/- Proper states: the program's check. -/
end Go.Proofs.YtadnboagdhcedaaGreatDoor
namespace Go.Ct
section
def gD(n:Nd):Option Int:=if n.kind=2 then some n.main else if n.kind=3∨n.kind=5∨n.kind=6 then some n.prev else if n.kind=8 then some n.status else none
def eZ(u:Option (List Bool))(n:Nd):Option (List Bool) :=
 match u with
 | none=>none
 | some u=>match gD n with
  | none=>some u
  | some c=>if 1<=c/\c<=u.length/\u.getD (c-1).toNat false=false then some (u.set (c-1).toNat true) else none
def marks(m:Nat)(L:List aI):Option (List Bool):=L.foldl (λ u v=>eZ u v.nd) (some (List.replicate m false))
theorem lU{m:Nat}{L:List aI}{k:Nat}(h:k<L.length):marks m (L.take (k+1))=eZ (marks m (L.take k)) (L.getD k aI.zero).nd:=by
 rw[marks,List.take_succ_eq_append_getElem h,List.foldl_append,gF,List.getElem?_eq_getElem h]
 rfl
theorem zU{m:Nat}{L:List aI}{k:Nat}(h:marks m (L.take k)=none):marks m L=none:=by
 have e:L=L.take k++L.drop k:=(List.take_append_drop k L).symm;rw[e,marks,List.foldl_append];rw[marks] at h;rw[h];generalize L.drop k=l;induction l with
 | nil=>rfl
 | cons v l ih=>exact ih
theorem yN{m:Nat}:∀{L:List aI} {u:List Bool},marks m L=some u->u.length=m:=by
 intro L
 have key:∀(l:List aI) (u0:Option (List Bool)),(∀u,u0=some u->u.length=m)->∀u,l.foldl (λ u v=>eZ u v.nd) u0=some u->u.length=m:=by
  intro l
  induction l with
  | nil=>intro u0 h u hu;exact h u hu
  | cons v l ih =>
   intro u0 h u hu
   refine ih (eZ u0 v.nd) (λ u1 h1=>?_) u hu;cases u0 with
   | none=>simp[eZ] at h1
   | some u2 =>
    have:=h u2 rfl;simp only[eZ] at h1
    cases hc:gD v.nd with
    | none=>rw[hc] at h1;simp only[Option.some.injEq] at h1;rw[<- h1];exact this
    | some c =>
     rw[hc] at h1
     simp only at h1
     split at h1
     ·simp only[Option.some.injEq] at h1;rw[<- h1,List.length_set];exact this
     ·cases h1
 intro u hu
 exact key L _ (λ u h=>by simp only[Option.some.injEq] at h;rw[<- h];simp) u hu
def Eg(r:Int)(n:Nat):Prop:=0<=r/\r<=(n:Int)
instance (r:Int) (n:Nat):Decidable (Eg r n):=inferInstanceAs (Decidable (0<=r/\r<=(n:Int)))
theorem xi{r:Int}{n:Nat}(h:0<=r):decide (Eg r n)=decide (r<=(n:Int)):=by
 by_cases h2:r<=(n:Int)
 ·rw[decide_eq_true h2,decide_eq_true ⟨h,h2⟩]
 ·rw[decide_eq_false h2,decide_eq_false λ h3=>h2 h3.2]
def Te(n:Nd)(xs:List Int)(N:Nat):Prop:=(∀i,i<xs.length->Eg (xs.getD i 0) N)/\Eg n.bO N/\Eg n.exp N/\Eg n.new N
def kI(gen:Int)(N:Nat)(v:aI):Prop:=cK v.nd v.xs v.ys/\v.nd.gen<=gen/\Te v.nd v.xs N
structure cO(L:List aI)(cs:List Int)(gen:Int):Prop where
 two:2<=L.length
 gen0:0<=gen
 m0:(L.getD 0 aI.zero).nd.kind=1
 m1:(L.getD 1 aI.zero).nd.kind=1
 cells:∀i,i<cs.length->Eg (cs.getD i 0) L.length
 nodes:∀i,i<L.length->kI gen L.length (L.getD i aI.zero)
 marks:marks cs.length L≠none
end
end Go.Ct
namespace Go.Proofs.YtadnboagdhcedaaGreatDoor
section
open Go.RowKit Go.Ct
theorem wN(r:Int)(n:Nat)(w:World):Calls Tryz.prog 130 #[.int .i64 r,.int .i64 ((n:Nat):Int)] w λ e w'=>e=.returned (.bool (decide (Eg r n)))/\St w [] [] w':=by
 refine enter Tryz.func130 Tryz.ntmps130 rfl rfl (SF.s0 w) ?_;simp only[cP]
 refine cR ?_;refine J2 ?_;refine oD ?_;refine aB ?_;(refine eM 7 (λ g7=>?_) (λ g7=>?_)<;>refine Ka0 ?_);all_goals (refine Ka0 ?_;(first|refine aJ ?_|(refine aF ?_;refine zM ?_));refine Kd0 ?_)
 all_goals
 refine aR Tryz.results130 (λ w hw=>?_);refine⟨?_,hw.done⟩;first|(rw[decide_eq_false (show ¬Eg r n from λ h=>by have:=h.1;have:=h.2;omega)];rfl)|(rw[xi (by omega)];rfl)
theorem Md{n:Nd}{xs:List Int}{N:Nat}{w:World}(e1:n.brN=xs.length)(ha:Cl w n.brA (aH xs))(hx:xs.length<4611686018427387904) :
  Calls Tryz.prog 132 #[n.v,.int .i64 ((N:Nat):Int)] w λ e w'=>∃r:Bool,e=.returned (.bool r)/\(r=true↔Te n xs N)/\St w [] [] w':=by
 refine enter Tryz.func132 Tryz.ntmps132 rfl rfl (SF.s1 ha) ?_;simp only[cP]
 simp only[Nd.v,Nd.cells,e1]
 refine K0u ?_;intro x2;refine gX ?_;refine gH ?_;refine Kc6 ?_;refine kK [4,6,10,11,12,13,14,15,16,17,18] (λ k=>[(10,.int .i64 ((k:Nat):Int))]) (λ k=>k<=xs.length/\∀i,i<k->Eg (xs.getD i 0) N) (λ k=>_) (λ _=>_) (λ _=>_) (λ k=>xs.length-k) (0) (⟨Nat.zero_le _,λ i hi=>absurd hi (Nat.not_lt_zero i)⟩) (λ k f hx=>?_);refine K2p ?_;refine bA (λ c11=>?_) (λ c11=>?_)
 ·refine Ke1 ?_;refine Pb ?_;refine vE ?_;refine aS (cV (hc:=λ w1 hw=>wN _ N w1)) (λ x16=>?_);refine lA ?_;refine bA (λ c17=>?_) (λ c17=>?_)
  ·refine cR ?_;refine aR Tryz.results132 (λ w hw=>?_);exact⟨false,rfl,⟨(λ h=>nomatch h),λ h=>absurd (h.1 k (by omega)) (by assumption)⟩,hw.done⟩
  ·refine Kc9 ?_;refine gT (k+1) ?_
   ·exact⟨by omega,λ i hi=>by rcases Nat.lt_succ_iff_lt_or_eq.1 hi with h|rfl;exact hx.2 i h;assumption⟩
 ·refine bM rfl ?_;refine Ka9 ?_;refine aS (cV (hc:=λ w1 hw=>wN _ N w1)) (λ x22=>?_);refine aB ?_;(refine eM 23 (λ g23=>?_) (λ g23=>?_)<;>refine Ka1 ?_);all_goals (refine Zv ?_;(first|refine aJ ?_|(refine aF ?_;refine aS (cV (hc:=λ w1 hw=>wN _ N w1)) (λ x27=>?_)));refine Kc4 ?_)
  all_goals (first|refine aJ ?_|(refine eM 29 (λ g29=>?_) (λ g29=>?_)<;>refine Ka1 ?_))
  all_goals (refine Zv ?_;(first|refine aJ ?_|(refine aF ?_;refine aS (cV (hc:=λ w1 hw=>wN _ N w1)) (λ x33=>?_)));refine Kd0 ?_)
  all_goals
  refine aR Tryz.results132 (λ w hw=>?_);have hall:∀i,i<xs.length->Eg (xs.getD i 0) N:=λ i hi=>hx.2 i (by omega);first|exact⟨_,rfl,by simp_all[Te],hw.done⟩
theorem gh(n:Nd)(w:World):Calls Tryz.prog 133 #[n.v] w λ e w'=>e=.returned (.tuple #[.int .i64 ((gD n).getD 0),.bool (gD n).isSome])/\St w [] [] w':=by
 refine enter Tryz.func133 Tryz.ntmps133 rfl rfl (SF.s0 w) ?_;simp only[cP]
 simp only[Nd.v,Nd.cells]
 refine K1k ?_;intro x1;refine J8 ?_;refine Ez ?_;refine gH ?_;refine Oa ?_;refine bA (λ c4=>?_) (λ c4=>?_)
 ·refine gH ?_;refine J8 ?_;refine bK Tryz.results133 (λ w hw=>?_);refine⟨?_,hw.done⟩;(rw[show gD n=some n.main by simp[gD,c4]];rfl)
 ·refine iH ?_;refine aD (c0 (V:=.bool) (hc:=λ w1 hw=>Cr n w1)) (λ x12 h12=>?_);refine J1 ?_;refine bA (λ c10=>?_) (λ c10=>?_)
  ·have k22:n.kind=3∨n.kind=5∨n.kind=6:=h12.1 c10;refine gH ?_;refine J8 ?_;refine bK Tryz.results133 (λ w hw=>?_);refine⟨?_,hw.done⟩;(rw[show gD n=some n.prev by simp only[gD];rw[if_neg c4,if_pos k22]];rfl)
  ·have k22:¬(n.kind=3∨n.kind=5∨n.kind=6):=λ k=>by rw[h12.2 k] at c10;cases c10
   refine gH ?_;refine Oa ?_;refine bA (λ c15=>?_) (λ c15=>?_)
   ·refine gH ?_;refine J8 ?_;refine bK Tryz.results133 (λ w hw=>?_);refine⟨?_,hw.done⟩;(rw[show gD n=some n.status by simp only[gD];rw[if_neg c4,if_neg k22,if_pos c15]];rfl)
   ·refine kN ?_;refine Aw ?_;refine bK Tryz.results133 (λ w hw=>?_);refine⟨?_,hw.done⟩;(rw[show gD n=none by simp only[gD];rw[if_neg c4,if_neg k22,if_neg c15]];rfl)
end

/- Proper states: the walk through the program's check. -/
section
open Go.RowKit Go.Ct
set_option maxRecDepth 100000 in
theorem Oe{L:List aI}{cs:List Int}{gen:Int}{pn pc:Option Addr}{cn cc:Nat}{w:World}(h:eP w L cs pn pc)(hL:L.length<=274877906944)(hC:cs.length<=274877906944) :
    Calls Tryz.prog 96 #[.agg ⟨[.slice pn L.length cn,.slice pc cs.length cc,.int .i64 gen]⟩] w λ e w'=>∃r:Bool,e=.returned (.bool r)/\(r=true↔cO L cs gen)/\St w [] [] w':=by
  refine enter Tryz.func96 Tryz.ntmps96 rfl rfl h.start ?_;simp only[cP]
  refine K1k ?_;intro x1;refine gX ?_;refine gH ?_;refine dE ?_;refine zB ?_;(refine eM 14 (λ g14=>?_) (λ g14=>?_)<;>refine Ka1 ?_);all_goals (refine xw ?_;refine aK ?_)
  all_goals
   refine bA (λ c18=>?_) (λ c18=>?_)
   · all_goals refine cR ?_
     all_goals
      refine aR Tryz.results96 (λ w hw=>?_);exact⟨false,rfl,⟨(λ h=>nomatch h),λ hp=>by have h1:=hp.two;have h2:=hp.gen0;exfalso;omega⟩,hw.done⟩
   · try exact nv c18
     all_goals (refine jH ?_;refine gH ?_;refine aE (iC (k:=0) rf rf eC dR fin (by omega) (by omega)) rfl ?_;refine aC ?_;refine aE (wQ (q:=0) rf dC fin (by omega)) rfl ?_;refine iM ?_;refine aB ?_)
     all_goals ((refine eM 25 (λ g25=>?_) (λ g25=>?_)<;>refine Ka1 ?_))
     all_goals (refine Ka2 ?_;(first|refine aJ ?_|(refine aF ?_;refine aE (iC (k:=1) rf rf eC dR fin (by omega) (by omega)) rfl ?_));refine Ka1 ?_;(first|refine aJ ?_|(refine aF ?_;refine aE (wQ (q:=1) rf dC fin (by omega)) rfl ?_));refine Rq ?_;refine aK ?_)
     all_goals
      refine bA (λ c32=>?_) (λ c32=>?_)
      · all_goals refine cR ?_
        all_goals
         refine aR Tryz.results96 (λ w hw=>?_);exact⟨false,rfl,⟨(λ h=>nomatch h),λ hp=>by have h1:=hp.m0;have h2:=hp.m1;exfalso;omega⟩,hw.done⟩
      · try exact nv c32
        all_goals (refine jH ?_;refine gH ?_;refine Kc6 ?_)
        all_goals
         refine fK [2,4,36,37,38,39,40,41,42,43,44,45,46] (λ k=>[(36,.int .i64 ((k:Nat):Int))]) (λ k=>k<=cs.length/\∀i,i<k->Eg (cs.getD i 0) L.length) (λ k=>cs.length-k) (0) (⟨Nat.zero_le _,λ i hi=>absurd hi (Nat.not_lt_zero i)⟩) ?_ (λ k f hx=>?_)
         · repeat (first|exact bC _|refine aY (by exact rfl) ?_)
         refine K2p ?_;refine bA (λ c37=>?_) (λ c37=>?_)
         · refine Ke1 ?_;refine Pb ?_;refine Ka6 ?_;refine I3 ?_;refine aS (cV (hc:=λ w1 hw=>wN _ _ w1)) (λ x44=>?_);refine lA ?_;refine bA (λ c45=>?_) (λ c45=>?_)
           · refine cR ?_;refine aR Tryz.results96 (λ w hw=>?_);exact⟨false,rfl,⟨(λ h=>nomatch h),λ hp=>absurd (hp.cells k (by omega)) (by assumption)⟩,hw.done⟩
           · refine Kc9 ?_;refine dW (k+1) ?_ ?_ ?_
             · omega
             · repeat' (first|exact bC _|refine aY ?_ ?_)
               exact rfl
             · exact⟨by omega,λ i hi=>by rcases Nat.lt_succ_iff_lt_or_eq.1 hi with h|rfl;exact hx.2 i h;assumption⟩
         · refine bM rfl ?_;refine gH ?_;refine dE ?_;refine wW (λ x50=>?_);refine gX ?_;refine gH ?_;refine Kc6 ?_;have hcells:∀i,i<cs.length->Eg (cs.getD i 0) L.length:=λ i hi=>hx.2 i (by omega);clear hx;refine kK [2,7,8,9,54,55,56,57,58,59,60,61,62,63,64,65,66,67,68,69,70,71,72,73,74,75,76,77,78,79,80,81,82,83,84,85,86,87,88,89,90,91,92,93,94,95,96,97,98,99,100,101,102,103] (λ y:Nat×List Bool=>[(54,.int .i64 ((y.1:Nat):Int))]) (λ y=>y.1<=L.length/\marks cs.length (L.take y.1)=some y.2/\∀i,i<y.1->kI gen L.length (L.getD i aI.zero)) (λ _=>_) (λ _=>_) (λ y=>[⟨some ⟨x50,0,none⟩,iV y.2,cs.length,4,1⟩]) (λ y=>L.length-y.1) ((0,List.replicate cs.length false)) (⟨Nat.zero_le _,rfl,λ i hi=>absurd hi (Nat.not_lt_zero i)⟩) (λ y f hx=>?_);refine K0a ?_;have hu:=yN hx.2.1;refine Kc0 ?_;refine bA (λ c55=>?_) (λ c55=>?_)
           · refine Ke1 ?_;refine Pb ?_;refine aT (λ x7=>?_);refine J5 ?_;refine aV ?_;refine iH ?_;refine aD (c0 (V:=.bool) (hc:=λ w1 hw=>Zc (hw.Ov h.fit (by omega)))) (λ x59 h59=>?_);refine C6 ?_;(refine eM 61 (λ g61=>?_) (λ g61=>?_)<;>refine Ka1 ?_);all_goals (refine Ao ?_;refine Aj ?_;refine aB ?_)
             all_goals (first|refine aJ ?_|(refine eM 68 (λ g68=>?_) (λ g68=>?_)<;>refine Ka2 ?_))
             all_goals (refine Ny ?_;(first|refine aJ ?_|(refine aF ?_;refine aD (c0 (V:=.bool) (hc:=λ w1 hw=>Md (hw.Ov h.fit (by omega)).brN (hw.Ov h.fit (by omega)).br (hw.Ov h.fit (by omega)).brS)) (λ x73 h73=>?_)));refine Kd5 ?_)
             all_goals
              refine bA (λ c75=>?_) (λ c75=>?_)
              · all_goals refine cR ?_
                all_goals
                 refine aR Tryz.results96 (λ w hw=>?_);refine⟨false,rfl,⟨(λ h=>nomatch h),λ hp=>?_⟩,hw.done⟩;obtain⟨q1,q2,q3⟩:=hp.nodes y.1 (by omega)
                 first|(exfalso;omega)|(have:=h59.2 q1;simp_all;done) 
              · try exact nv c75
                all_goals
                 have hok:kI gen L.length (L.getD y.1 aI.zero):=⟨h59.1 (by simp_all),by omega,h73.1 (by simp_all)⟩
                all_goals (refine bB ?_;refine iH ?_;refine aS (cV (hc:=λ w1 hw=>gh (L.getD y.1 aI.zero).nd w1)) (λ x78=>?_);refine Kb1 ?_;refine lA ?_)
                all_goals
                 refine bA (λ c82=>?_) (λ c82=>?_)
                 · have hmk:eZ (some y.2) (L.getD y.1 aI.zero).nd=some y.2:=by
                    have e:gD (L.getD y.1 aI.zero).nd=none:=by cases hq:gD (L.getD y.1 aI.zero).nd<;>simp_all
                    simp only[eZ,e]
                   refine bM rfl ?_;refine Ka8 ?_;refine gT ((y.1+1,(eZ (some y.2) (L.getD y.1 aI.zero).nd).getD y.2)) ?_ (hw1:=λ w hw=>by rw[hmk];exact hw.back)
                   · refine⟨by omega,by rw[lU (by omega),hx.2.1,hmk];rfl,λ i hi=>?_⟩
                     rcases Nat.lt_succ_iff_lt_or_eq.1 hi with h|rfl
                     · exact hx.2.2 i h
                     · exact hok
                 · obtain⟨c,hc⟩:∃c,gD (L.getD y.1 aI.zero).nd=some c:=Option.isSome_iff_exists.1 c82
                   rw[hc,Option.getD_some];refine jH ?_;refine J2 ?_;refine zB ?_;(refine eM 85 (λ g85=>?_) (λ g85=>?_)<;>refine Ka0 ?_);all_goals (refine Ny ?_;refine Aj ?_;refine aB ?_)
                   all_goals (first|refine aJ ?_|(refine eM 92 (λ g92=>?_) (λ g92=>?_)<;>refine Ka0 ?_))
                   all_goals (refine Ka0 ?_;(first|refine aJ ?_|(refine aF ?_;refine aE (Ls rf rf (by omega) (by omega)) rfl ?_));(first|refine aJ ?_|(refine aF ?_;refine aE (lE rf rf eC dC fin (by omega) (by omega)) rfl ?_));(first|refine aJ ?_|(refine aF ?_;refine aE (yC rf dC fin (by omega)) rfl ?_));refine cI ?_;refine aK ?_)
                   all_goals
                    refine bA (λ c98=>?_) (λ c98=>?_)
                    · all_goals refine cR ?_
                      all_goals
                       refine aR Tryz.results96 (λ w hw=>?_);refine⟨false,rfl,⟨(λ h=>nomatch h),λ hp=>?_⟩,hw.done⟩
                       have hm:marks cs.length (L.take (y.1+1))=none:=by
                        rw[lU (by omega),hx.2.1]
                        simp only[eZ,hc]
                        refine if_neg λ hh=>?_;obtain⟨q1,q2,q3⟩:=hh
                        first|(exfalso;omega)|(exfalso;rw[q3] at c98;cases c98)
                       exact absurd (zU hm) hp.marks
                    · try exact nv c98
                      all_goals
                       have hmk:eZ (some y.2) (L.getD y.1 aI.zero).nd=some (y.2.set (c-1).toNat true):=by
                        simp only[eZ,hc]
                        rw[if_pos ⟨by omega,by omega,c98⟩]
                      all_goals (refine bB ?_;refine Il ?_;refine aE (Ls rf rf (by omega) (by omega)) rfl ?_;refine aE (lE rf rf eC dC fin (by omega) (by omega)) rfl ?_;refine J5 ?_;refine eX ?_;refine Ka8 ?_)
                      all_goals
                       refine gT ((y.1+1,(eZ (some y.2) (L.getD y.1 aI.zero).nd).getD y.2)) ?_ (hw1:=λ w hw=>by rw[hmk];exact hw.back)
                       · refine⟨by omega,by rw[lU (by omega),hx.2.1,hmk];rfl,λ i hi=>?_⟩
                         rcases Nat.lt_succ_iff_lt_or_eq.1 hi with h|rfl
                         · exact hx.2.2 i h
                         · exact hok
           · refine K0z ?_;refine aR Tryz.results96 (λ w hw=>?_);have hy:y.1=L.length:=by omega
             have hmm:marks cs.length L=some y.2:=by have:=hx.2.1;rwa [hy,List.take_length] at this
             exact⟨true,rfl,⟨λ _=>⟨by omega,by omega,by omega,by omega,hcells,λ i hi=>hx.2.2 i (by omega),by rw[hmm];exact λ h=>nomatch h⟩,λ _=>rfl⟩,hw.done⟩
end

/- An arena with a state. -/
end Go.Proofs.YtadnboagdhcedaaGreatDoor
namespace Go.Ct
section
theorem Gu{n:Nd}{xs:List Int}{ys:List Pr}(h:cK n xs ys)(hk:n.kind=1):n.c xs ys=dH.c:=by
 have e:=wA.1 h.1;rw[e];simp[Nd.own,Nd.iB,Nd.gY,hk,Nd.c,aI.c,dH,Nd.zero]
theorem cO.all{L L':List aI}{cs:List Int}{gen:Int}(h:cO L cs gen)(h2:L'.map aI.c=(L.drop 2).map aI.c):(yk L').map aI.c=L.map aI.c:=by
 have h0:=h.nodes 0 (by have:=h.two;omega);have h1:=h.nodes 1 (by have:=h.two;omega);have e0:(L.getD 0 aI.zero).c=dH.c:=Gu h0.1 h.m0;have e1:(L.getD 1 aI.zero).c=dH.c:=Gu h1.1 h.m1;have h3:=h.two;match L,h3 with
 | a::b::r,_ =>
  simp only[List.getD_cons_zero,List.getD_cons_succ] at e0 e1
  simp only[List.drop_succ_cons,List.drop_zero] at h2
  simp only[yk,List.map_cons,h2,e0,e1]
end
end Go.Ct
namespace Go.Proofs.YtadnboagdhcedaaGreatDoor
section
open Go.RowKit Go.Ct
theorem yu{L:List aI}{cs:List Int}{gen:Int}{pn pc:Option Addr}{cn cc:Nat}{w:World}(h:eP w L cs pn pc)(hL:L.length<=274877906944)(hC:cs.length<=274877906944)(hp:¬cO L cs gen) :
  Calls Tryz.prog 68 #[.agg ⟨[.slice pn L.length cn,.slice pc cs.length cc,.int .i64 gen]⟩] w λ e w'=>e=.returned (.tuple #[.pointer none,.int .i64 1])/\St w [] [] w':=by
 refine enter Tryz.func68 Tryz.ntmps68 rfl rfl h.start ?_;simp only[cP]
 refine K1k ?_;intro x1;refine K1s ?_;intro x8 h8;refine bA (λ c9=>?_) (λ c9=>?_)
 ·refine Aw ?_;refine bK Tryz.results68 (λ w hw=>?_);exact⟨rfl,hw.done⟩
 ·exact absurd (h8.1 c9) hp
theorem yj{L:List aI}{cs:List Int}{gen:Int}{pn pc:Option Addr}{cn cc:Nat}{w:World}(h:eP w L cs pn pc)(hL:L.length<=274877906944)(hC:cs.length<=274877906944)(hcn:L.length<=cn)(hp:cO L cs gen) :
  Calls Tryz.prog 68 #[.agg ⟨[.slice pn L.length cn,.slice pc cs.length cc,.int .i64 gen]⟩] w λ e w'=>∃x:Nat×List aI×(Option Addr×Nat)×(Option Addr×Nat),e=.returned (.tuple #[.pointer (some ⟨x.1,0,none⟩),.int .i64 0]) /\
   ((yk x.2.1).map aI.c=L.map aI.c/\Fits x.2.1)/\SF w [] [(x.1,aO x.2.1 cs gen 0 x.2.2.1.1 x.2.2.1.2 x.2.2.2.1 x.2.2.2.2)] [] (bD x.2.1) (mW x.2.1 cs x.2.2.1.1 x.2.2.1.2 x.2.2.2.1 x.2.2.2.2) w':=by
 have h2L:=hp.two;refine enter Tryz.func68 Tryz.ntmps68 rfl rfl h.start ?_;simp only[cP]
 refine K1k ?_;intro x1;refine K1s ?_;intro x8 h8;refine bA (λ c9=>?_) (λ c9=>?_)
 ·exact absurd hp (λ hp=>by rw[h8.2 hp] at c9;cases c9)
 ·refine jH ?_;refine dZ [(0,[]),(1,[]),(3,[]),(4,[]),(2,[4]),(5,[]),(6,[]),(7,[])] ?_;refine Ke2 ?_;refine bL (i:=2) (hq:=(Rr (Hc:=λ _=>[]) (Fc:=λ _=>[]) (hc:=λ w1 hw=>S4 (hw.cl fin) hC))) (h:=λ x12 h12=>?_);refine gQ ?_;refine bo (h:=λ x16=>?_);refine J7 ?_;refine J2 ?_;refine I3 ?_;refine aE (kF (n:=2) rf rf (by omega) (by omega)) rfl ?_;refine wW (λ x22=>?_);refine ln ?_;refine Ce ?_;(refine aS (pw (k:=2) rf rf eC (by exact uH rfl) (by omega) fin hcn rfl) (λ x27=>?_));refine Kc6 ?_;refine kK [6,29,30,31,32,33,34,35,36,37,38,39,40,41,42,43,44] (λ y:List aI×Option Addr×Nat=>[(29,.int .i64 ((y.1.length:Nat):Int))]) (λ y=>y.1.map aI.c=((L.drop 2).take y.1.length).map aI.c/\y.1.length<=L.length-2/\Fits y.1) (λ y=>[(x16,.cells ⟨[.slice y.2.1 y.1.length y.2.2,.slice x12.1 cs.length x12.2,.int .i64 gen,.int .i64 0]⟩ 153 (0,0)),(x1,.cells ⟨[.slice pn L.length cn,.slice pc cs.length cc,.int .i64 gen]⟩ 25 (0,0))]) (λ y=>bD y.1) (λ y=>[⟨y.2.1,fX y.1,y.2.2,77,14⟩,⟨x12.1,aH cs,x12.2,62,1⟩]) (λ y=>L.length-2-y.1.length) (([],some ⟨x22,0,none⟩,L.length-2)) (⟨rfl,Nat.zero_le _,λ _ h=>(List.not_mem_nil h).elim⟩) (λ y f hx=>?_) (hw0:=λ w hw=>hw.back);refine K2p ?_;refine bA (λ c30=>?_) (λ c30=>?_)
  ·refine Ke1 ?_;refine aE (iC rf rf eC dR fin (by omega) (by rw[List.length_drop];omega)) rfl ?_;refine aE (Nj rf dR fin (by rw[List.length_drop];omega)) rfl ?_;refine aT (λ x6=>?_);refine J5 ?_;refine dZ [(0,[]),(1,[]),(2,[]),(3,[]),(4,[]),(5,[]),(6,[4]),(7,[4]),(8,[]),(9,[]),(10,[]),(11,[])] ?_;refine J67 ?_;refine aZ ?_;refine bL (i:=6) (hq:=(cF (V:=λ p:Option Addr×Option Addr=>.agg ⟨(((L.drop 2).getD y.1.length aI.zero).at_ p.1 p.2).nd.cells⟩) (hc:=λ w1 hw=>qe (hw.aCN (L:=L) (λ f hf=>.inr (.inl (List.mem_cons_of_mem _ (List.mem_cons_of_mem _ (List.mem_cons_of_mem _ hf))))) h.fit (List.mem_of_mem_drop (eE (by rw[List.length_drop];omega)))) (h.fit _ (List.mem_of_mem_drop (eE (by rw[List.length_drop];omega)))).brS (h.fit _ (List.mem_of_mem_drop (eE (by rw[List.length_drop];omega)))).prS))) (h:=λ x39 h39=>?_);refine dA (h:=λ x40=>?_);((refine cA (i:=8) (hq:=(aX.gA (sv (((L.drop 2).getD y.1.length aI.zero).at_ x39.1 x39.2) rf rf fT rfl fin Yi rfl eC om) fM)) (h:=λ x41=>?_);try (refine dO (λ h41=>?_))));refine J88 ?_;refine eX ?_;refine Ka8 ?_
   refine gT ((y.1++[((L.drop 2).getD y.1.length aI.zero).at_ x39.1 x39.2],x41.1,x41.2)) ?_ (hw1:=λ w hw=>by
    have h3:=hw.aB7 (L:=y.1) (v:=((L.drop 2).getD y.1.length aI.zero).at_ x39.1 x39.2) (F':=[]) (List.mem_cons_of_mem _ (List.mem_cons_self ..)) (List.mem_cons_of_mem _ (List.mem_cons_of_mem _ (List.mem_cons_self ..))) (λ f hf=>List.mem_cons_of_mem _ (List.mem_cons_of_mem _ (List.mem_cons_of_mem _ hf)));have h4:=h3.sub (H':=[_,_]) (by repeat (first|exact List.Sublist.refl _|apply List.Sublist.cons)) aP.all (List.Sublist.refl _)
    simpa using h4) (hμ:=by simp only[List.length_append,List.length_cons,List.length_nil];omega)
   ·have hlt:y.1.length<(L.drop 2).length:=by rw[List.length_drop];omega
    refine⟨?_,by simp only[List.length_append,List.length_cons,List.length_nil];omega,λ v hv=>?_⟩
    ·rw[List.map_append,hx.1,List.length_append,List.length_singleton,List.take_succ_eq_append_getElem hlt,List.map_append,gF,List.getElem?_eq_getElem hlt]
     rfl
    ·rcases List.mem_append.1 hv with hv|hv
     ·exact hx.2.2 v hv
     ·simp only[List.mem_singleton] at hv
      subst hv
      exact aI.zd (h.fit _ (List.mem_of_mem_drop (eE hlt))) _ _
  ·refine bM rfl ?_;refine J2 ?_;refine J8 ?_;refine bK Tryz.results68 (λ w hw=>?_);have hlen:y.1.length=L.length-2:=by omega
   refine⟨(x16,y.1,(y.2.1,y.2.2),(x12.1,x12.2)),rfl,⟨hp.all (by rw[hx.1,hlen,List.take_of_length_le (by rw[List.length_drop];omega)]),hx.2.2⟩,?_⟩
   exact hw.ret (by repeat (first|exact List.nil_sublist _|apply List.Sublist.cons_cons)) aP.all (List.Sublist.refl _)
end

/- Proper states: a node more. -/
end Go.Proofs.YtadnboagdhcedaaGreatDoor
namespace Go.Ct
section
theorem Sy{u u':List Bool}{n:Nd}(h:eZ (some u) n=some u'):eZ (some (u++[false])) n=some (u'++[false]):=by
 simp only[eZ] at h ⊢
 cases hc:gD n with
 | none=>rw[hc] at h;simp only[Option.some.injEq] at h;rw[h]
 | some c =>
  rw[hc] at h
  simp only at h ⊢
  split at h
  ·rename_i hh
   simp only[Option.some.injEq] at h
   have hlt:(c-1).toNat<u.length:=by omega
   rw[if_pos ⟨hh.1,by simp only[List.length_append,List.length_cons,List.length_nil];omega,by rw[gF,List.getElem?_append_left hlt,<- gF];exact hh.2.2⟩,List.set_append_left _ _ hlt,h]
  ·cases h
theorem S7{m:Nat}:∀{L:List aI} {u:List Bool},marks m L=some u->marks (m+1) L=some (u++[false]):=by
 have key:∀(l:List aI) (u0:List Bool) (u:List Bool),l.foldl (λ u v=>eZ u v.nd) (some u0)=some u->l.foldl (λ u v=>eZ u v.nd) (some (u0++[false]))=some (u++[false]):=by
  intro l
  induction l with
  | nil=>intro u0 u h;simp only[List.foldl_nil,Option.some.injEq] at h ⊢;rw[h]
  | cons v l ih =>
   intro u0 u h
   simp only[List.foldl_cons] at h ⊢
   cases hm:eZ (some u0) v.nd with
   | none =>
    rw[hm] at h
    exfalso
    have:∀l:List aI,l.foldl (λ u v=>eZ u v.nd) none=none:=λ l=>by
     induction l with
     | nil=>rfl
     | cons v l ih=>exact ih
    rw[this] at h
    cases h
   | some u1 =>
    rw[hm] at h
    rw[Sy hm]
    exact ih u1 u h
 intro L u h
 have:=key L _ u h;rw[marks,List.replicate_succ',this]
theorem E7{m:Nat}{L:List aI}{v:aI}:marks m (L++[v])=eZ (marks m L) v.nd:=by rw[marks,List.foldl_append];rfl
theorem Da{L:List aI}{v:aI}{i:Nat}(h:i<L.length+1):(L++[v]).getD i aI.zero=if i<L.length then L.getD i aI.zero else v:=by
 rw[gF]
 split
 ·rename_i hi
  rw[List.getElem?_append_left hi,<- gF]
 ·rename_i hi
  rw[List.getElem?_append_right (by omega),show i-L.length=0 by omega]
  rfl
theorem Eg.mono{r:Int}{n m:Nat}(h:Eg r n)(hm:n<=m):Eg r m:=⟨h.1,Int.le_trans h.2 (by omega)⟩
theorem kI.mono{gen:Int}{n m:Nat}{v:aI}(h:kI gen n v)(hm:n<=m):kI gen m v:=⟨h.1,h.2.1,λ i hi=>(h.2.2.1 i hi).mono hm,h.2.2.2.1.mono hm,h.2.2.2.2.1.mono hm,h.2.2.2.2.2.mono hm⟩
theorem Ou{L:List aI}{cs:List Int}{gen init:Int}{v:aI}(h:cO L cs gen)(hv:kI gen (L.length+1) v)(hi:Eg init L.length){k:Int}(hk:(gD v.nd=none/\kU k cs init=cs)∨(gD v.nd=some ((cs.length+1:Nat):Int)/\kU k cs init=cs++[init])) :
  cO (L++[v]) (kU k cs init) gen:=by
 have hlen:(L++[v]).length=L.length+1:=by simp
 have h2:=h.two
 have nodes:∀i,i<(L++[v]).length->kI gen (L++[v]).length ((L++[v]).getD i aI.zero):=λ i hi=>by
  rw[hlen] at hi ⊢
  rw[Da hi]
  split
  ·exact(h.nodes i (by assumption)).mono (by omega)
  ·exact hv
 have k0:((L++[v]).getD 0 aI.zero).nd.kind=1:=by rw[Da (by omega),if_pos (by omega)];exact h.m0
 have k1:((L++[v]).getD 1 aI.zero).nd.kind=1:=by rw[Da (by omega),if_pos (by omega)];exact h.m1
 cases hm:marks cs.length L with
 | none=>exact absurd hm h.marks
 | some u =>
  have hu:=yN hm;rcases hk with⟨e1,e2⟩|⟨e1,e2⟩
  ·rw[e2]
   refine⟨by omega,h.gen0,k0,k1,λ i hi=>(h.cells i hi).mono (by omega),nodes,?_⟩
   rw[E7,hm]
   simp only[eZ,e1]
   exact λ h=>nomatch h
  ·rw[e2]
   refine⟨by omega,h.gen0,k0,k1,λ i hi'=>?_,nodes,?_⟩
   ·rw[gF]
    by_cases hlt:i<cs.length
    ·rw[List.getElem?_append_left hlt,<- gF]
     exact(h.cells i hlt).mono (by omega)
    ·simp only[List.length_append,List.length_cons,List.length_nil] at hi'
     rw[List.getElem?_append_right (by omega),show i-cs.length=0 by omega]
     exact hi.mono (by omega)
   ·rw[E7,show(cs++[init]).length=cs.length+1 by simp,S7 hm]
    simp only[eZ,e1]
    have e3:(((cs.length+1:Nat):Int)-1).toNat=cs.length:=by omega
    rw[e3,if_pos ⟨by omega,by simp only[List.length_append,List.length_cons,List.length_nil];omega,by rw[gF,List.getElem?_append_right (by omega),hu,Nat.sub_self];rfl⟩]
    exact λ h=>nomatch h
structure NdR(n:Nd):Prop where
 bm:∃b:Nat,n.bm=(b:Int)/\b<18446744073709551616
 main:n.main<=9223372036854775807
 prev:n.prev<=9223372036854775807
 status:n.status<=9223372036854775807
def iG(L:List aI):Prop:=∀v∈L,NdR v.nd
end

/- Tapes: choices out of a list of numbers. -/
end Go.Ct
namespace Go.Proofs.YtadnboagdhcedaaGreatDoor
section
open Go.RowKit Go.Ct
abbrev T4:=bb 106
abbrev p8(w:World):=Lj w 106
theorem vg(v n:Int)(w:World)(hn:IntKind.u64.wrap n≠0):Calls Tryz.prog 31 #[.int .i64 v,.int .i64 n] w λ e w'=>e=.returned (.int .i64 (kT v n))/\St w [] [] w':=by
 refine enter Tryz.func31 Tryz.ntmps31 rfl rfl (SF.s0 w) ?_;simp only[cP]
 refine cR ?_;refine J2 ?_;refine jO ?_;refine aB ?_;refine jO ?_;refine aBc ?_;refine jO ?_;refine J1 ?_;refine aR Tryz.results31 (λ w hw=>?_);exact⟨rfl,hw.done⟩
theorem aAT{l:List Int}{a:Option Addr}{c:Nat}{w:World}:Calls Tryz.prog 21 #[.slice a l.length c] w λ e w' =>
  ∃b:Nat,e=.returned (.pointer (some ⟨b,0,none⟩))/\True/\SF w [] [(b,T4 a l c 0)] [] [] [] w':=by
 refine enter Tryz.func21 Tryz.ntmps21 rfl rfl (SF.s0 w) ?_;simp only[cP]
 refine cR ?_;refine J2 ?_;refine bQ ?_;refine bF (λ x5=>?_);refine J1 ?_;refine aR Tryz.results21 (λ w hw=>?_);exact⟨x5,rfl,trivial,hw.aQ⟩
theorem fW{l:List Int}{a:Option Addr}{b c k:Nat}{w:World}(n:Int)(ht:p8 w b a l c k)(h0:0<n)(h1:n<=9223372036854775807) :
  Calls Tryz.prog 26 #[.pointer (some ⟨b,0,none⟩),.int .i64 n] w λ e w' =>
  ∃v:Nat,e=.returned (.int .i64 ((v:Nat):Int))/\((v:Int)<n/\v=tvN l k n)/\SF w [b] ((b,T4 a l c (oS l k))::[]) [] [] [] w':=by
 have hl:=ht.len;have hu:IntKind.u64.wrap n≠0:=by rw[wrap_u64];omega
 refine enter Tryz.func26 Tryz.ntmps26 rfl rfl ht.start ?_;simp only[cP]
 refine D6 ?_;refine aV ?_;refine gP [0,1,2,3,4,5,6,7,8,9] ?_;refine Er ?_;refine iW ?_;refine aBW ?_;refine dJ ?_;refine bA (λ c14=>?_) (λ c14=>?_)
 ·refine cR ?_;refine aR Tryz.results26 (λ w hw=>?_);exact⟨0,rfl,⟨by omega,by simp only[tvN];rw[if_neg (by omega)]⟩,by simp only[oS];rw[if_neg (by omega)];exact hw.aQ⟩
 ·refine J83 ?_;refine He ?_;refine ln ?_;refine aV ?_;refine gP [0,1,2,3,4,5,6,7,8,9,10,11,12,13] ?_;refine Er ?_;refine qK ?_;refine Tc ?_;refine aL ?_;refine cA (i:=12) (hq:=(cV (hc:=λ w1 hw=>vg (l.getD (k+1-1) 0) n w1 hu))) (h:=λ x34=>?_);refine J7 ?_;refine aR Tryz.results26 (λ w hw=>?_);have hb:=Aq (v:=l.getD k 0) h0 h1;exact⟨(kT (l.getD k 0) n).toNat,by rw[Int.toNat_of_nonneg hb.1];rfl,⟨by omega,by simp only[tvN];rw[if_pos (by omega)]⟩,by simp only[oS];rw[if_pos (by omega)];exact hw.aQ⟩
def mA:List ByteArray:=[⟨#[97]⟩,⟨#[98]⟩,⟨#[99]⟩,⟨#[100]⟩,⟨#[97,98]⟩,⟨#[]⟩,⟨#[98,48]⟩,⟨#[107,101,121]⟩]
theorem um{l:List Int}{a:Option Addr}{b c k:Nat}{w:World}(ht:p8 w b a l c k) :
  Calls Tryz.prog 48 #[.pointer (some ⟨b,0,none⟩)] w λ e w' =>
  ∃v:Nat,e=.returned (.string (mA.getD v ⟨#[]⟩))/\(v<8/\v=tvN l k 8)/\SF w [b] ((b,T4 a l c (oS l k))::[]) [] [] [] w':=by
 refine enter Tryz.func48 Tryz.ntmps48 rfl rfl ht.start ?_;simp only[cP]
 refine cR ?_;refine J0 ?_;refine fD (λ x3=>?_);refine aB ?_;refine aD (zS (hc:=λ w1 hw=>fW 8 (hw.tape dI fin ht.len) (by decide) (by decide))) (λ x5 h5=>?_);refine aE (ki (lst:=mA) rf rf eC dC fin (by omega) (by simp only[mA,List.length_cons,List.length_nil];omega)) rfl ?_;refine aE (m6 (lst:=mA) rf dC fin (by simp only[mA,List.length_cons,List.length_nil];omega)) rfl ?_;refine J1 ?_;refine aR Tryz.results48 (λ w hw=>?_);exact⟨x5,rfl,⟨by omega,h5.2⟩,hw.aQ⟩
end

end Go.Proofs.YtadnboagdhcedaaGreatDoor
