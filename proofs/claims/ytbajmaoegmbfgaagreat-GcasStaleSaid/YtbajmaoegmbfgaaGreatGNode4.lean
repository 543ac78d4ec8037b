/- Merged. -/
import Derived.Test.YtbajmaoegmbfgaaGreatGAr4
import Derived.Test.YtbajmaoegmbfgaaGreatGNode2
set_option linter.unusedSimpArgs false
set_option linter.unusedVariables false
namespace Go.Proofs.YtbajmaoegmbfgaaGreat
open Go.RowKit Go.Ct
section
theorem zi(b:Int)(w:World):Calls Tryz.prog 238 #[.int .u64 b] w λ e w'=>e=.returned (.int .i64 (yT b))/\St w [] [] w':=by
 refine enter Tryz.func238 Tryz.ntmps238 rfl rfl (SF.s0 w) ?_
 simp only[cC]
 refine Kc5 ?_;refine G0 ?_;refine Gb ?_;refine aA ?_;refine Gb ?_;refine Ic ?_;refine Ka5 ?_;refine G0 ?_;refine Gb ?_;refine aA ?_;refine Gb ?_;refine Ic ?_;refine Ka5 ?_;refine G0 ?_;refine aA ?_;refine Ic ?_;refine Gb ?_;refine zS ?_;refine G0 ?_;refine Ic ?_;refine zS ?_;refine G0 ?_;refine Ic ?_;refine zS ?_;refine G0 ?_;refine Ic ?_;refine Ka5 ?_;refine nN ?_;refine Gb ?_;refine J1 ?_
 refine aR Tryz.results238 (λ w hw=>?_)
 exact⟨rfl,hw.done⟩
theorem r5(b:Int)(w:World):Calls Tryz.prog 198 #[.int .u64 b] w λ e w'=>e=.returned (.int .i64 (yT b))/\St w [] [] w':=by
 refine enter Tryz.func198 Tryz.ntmps198 rfl rfl (SF.s0 w) ?_
 simp only[cC]
 refine Kc5 ?_;refine aQ (cV (hc:=λ w1 hw=>zi b w1)) (λ x4=>?_);refine J1 ?_
 refine aR Tryz.results198 (λ w hw=>?_)
 exact⟨rfl,hw.done⟩
theorem Yb{n:Nd}{xs:List Int}{ys:List Pr}{w:World}(hr:rY w n xs ys) :
  Calls Tryz.prog 158 #[n.v] w λ e w'=>∃r:Bool,e=.returned (.bool r)/\(r=true↔cA n xs ys)/\St w [] [] w':=by
 have e1:=hr.brN;have e2:=hr.prN
 refine enter Tryz.func158 Tryz.ntmps158 rfl rfl (SF.s0 w) ?_
 simp only[cC]
 refine J0 ?_;refine bM (λ x1=>?_);refine jF ?_;refine aV ?_;refine eC [(0,[]),(1,[]),(2,[0]),(3,[]),(4,[])] ?_;refine bT ?_;refine bT ?_;refine cR (i:=2) (hq:=(cV (hc:=λ w1 hw=>aBV n w1))) (h:=λ x5=>?_);refine bB (i:=3) (hq:=(c0 (V:=.bool) (hc:=λ w1 hw=>xy (hr.gG hw.st) (hr.gG hw.st).own))) (h:=λ x6 h6=>?_);refine K3 ?_;refine eL ?_
 refine bC (λ c7=>?_) (λ c7=>?_)
 ·refine cX ?_
  refine aR Tryz.results158 (λ w hw=>?_)
  refine⟨_,rfl,?_,hw.done⟩
  (simp_all[cA];done)
 ·refine kW ?_;refine iI ?_;refine Cv ?_
  (refine eJ 11 (λ g11=>?_) (λ g11=>?_)<;>refine Ka1 ?_)
  all_goals (refine J89 ?_;refine aA ?_)
  all_goals (first|refine aI ?_|(refine eJ 16 (λ g16=>?_) (λ g16=>?_)<;>refine Ka1 ?_))
  all_goals (refine J89 ?_;refine aH ?_)
  all_goals
  refine bC (λ c20=>?_) (λ c20=>?_)
  ·all_goals refine cX ?_
   all_goals
    refine aR Tryz.results158 (λ w hw=>?_)
    refine⟨_,rfl,?_,hw.done⟩
    (simp_all[cA];omega)
  ·try exact nv c20
   all_goals (refine kW ?_;refine iI ?_;refine aH ?_;refine cS ?_;refine Cw ?_;refine Cw ?_;refine Cw ?_;refine Cw ?_;refine cS ?_;refine Cw ?_;refine Cw ?_;refine Cw ?_;refine aV ?_;refine aV ?_;refine lQ ?_)
   all_goals
    refine bC (λ c23=>?_) (λ c23=>?_)
    ·refine bP rfl ?_;refine aV ?_;refine cX ?_
     refine aR Tryz.results158 (λ w hw=>?_)
     refine⟨_,rfl,?_,hw.done⟩
     (simp_all[cA];done)
    ·refine kW ?_;refine lQ ?_
     refine bC (λ c25=>?_) (λ c25=>?_)
     ·refine bP rfl ?_;refine Du ?_;refine oG ?_;refine J1 ?_
      refine aR Tryz.results158 (λ w hw=>?_)
      refine⟨_,rfl,?_,hw.done⟩
      (simp_all[cA];done)
     ·refine kW ?_;refine lQ ?_
      refine bC (λ c27=>?_) (λ c27=>?_)
      ·refine bP rfl ?_;refine aV ?_;refine aV ?_;refine eC [(0,[]),(1,[]),(2,[]),(3,[]),(4,[]),(5,[1]),(6,[]),(7,[]),(8,[]),(9,[]),(10,[]),(11,[]),(12,[])] ?_;refine lH ?_;refine oI ?_;refine lH ?_;refine cR (i:=5) (hq:=(cV (hc:=λ w1 hw=>r5 n.bm w1))) (h:=λ x47=>?_);refine nE ?_;refine aN ?_
       (refine n7 49 (λ g49=>?_) (λ g49=>?_)<;>(first|refine fN ?_|(refine aU ?_)))
       all_goals ((first|refine fN ?_|(refine bT ?_));(first|refine fN ?_|(refine bB (i:=10) (hq:=(c0 (V:=.bool) (hc:=λ w1 hw=>by rw[e1];exact Up (hr.br.gG hw.st) hr.brS))) (h:=λ x52 h52=>?_)));refine jD ?_;refine J7 ?_)
       all_goals
       refine aR Tryz.results158 (λ w hw=>?_)
       refine⟨_,rfl,?_,hw.done⟩
       (simp_all[cA];done)
      ·refine kW ?_;refine lQ ?_
       refine bC (λ c29=>?_) (λ c29=>?_)
       ·refine Xx ?_;refine Du ?_;refine lZ ?_;refine Bb ?_;refine J1 ?_
        refine aR Tryz.results158 (λ w hw=>?_)
        refine⟨_,rfl,?_,hw.done⟩
        (simp_all[cA];omega)
       ·refine kW ?_;refine lQ ?_
        refine bC (λ c31=>?_) (λ c31=>?_)
        ·refine bP rfl ?_;refine Du ?_;refine lZ ?_;refine Bb ?_;refine J1 ?_
         refine aR Tryz.results158 (λ w hw=>?_)
         refine⟨_,rfl,?_,hw.done⟩
         (simp_all[cA];omega)
        ·refine kW ?_;refine lQ ?_
         refine bC (λ c33=>?_) (λ c33=>?_)
         ·refine bP rfl ?_;refine Du ?_;refine dR ?_;refine oG ?_;refine aA ?_
          (refine eJ 62 (λ g62=>?_) (λ g62=>?_)<;>refine Ka1 ?_)
          all_goals (refine Ka2 ?_;(first|refine aI ?_|(refine aE ?_;refine aD (c0 (V:=.bool) (hc:=λ w1 hw=>by rw[e2];exact Y4 (hr.pr.gG hw.st) hr.prS)) (λ x65 h65=>?_)));refine Kb0 ?_)
          all_goals (first|refine aI ?_|(refine eJ 67 (λ g67=>?_) (λ g67=>?_)<;>refine Ka1 ?_))
          all_goals (refine Ka2 ?_;(first|refine aI ?_|(refine aE ?_;refine aD (c0 (V:=.bool) (hc:=λ w1 hw=>by rw[e2];exact Py (hr.pr.gG hw.st) hr.prS)) (λ x70 h70=>?_)));refine Kb7 ?_)
          all_goals
          refine aR Tryz.results158 (λ w hw=>?_)
          refine⟨_,rfl,?_,hw.done⟩
          first|(simp_all[cA];done)|(simp_all[cA];omega)
         ·refine kW ?_;refine lQ ?_
          refine bC (λ c35=>?_) (λ c35=>?_)
          ·refine bP rfl ?_;refine iI ?_;refine Cv ?_
           (refine eJ 75 (λ g75=>?_) (λ g75=>?_)<;>refine Ka1 ?_)
           all_goals (refine J89 ?_;refine aH ?_)
           all_goals
           refine bC (λ c79=>?_) (λ c79=>?_)
           ·all_goals refine cX ?_
            all_goals
             refine aR Tryz.results158 (λ w hw=>?_)
             refine⟨_,rfl,?_,hw.done⟩
             (simp_all[cA];omega)
           ·try exact nv c79
            all_goals (refine pI ?_;refine Du ?_;refine oG ?_;refine J1 ?_)
            all_goals
             refine aR Tryz.results158 (λ w hw=>?_)
             refine⟨_,rfl,?_,hw.done⟩
             (simp_all[cA];done)
          ·refine aZ ?_;refine lQ ?_
           refine bC (λ c37=>?_) (λ c37=>?_)
           ·refine bP rfl ?_;refine Du ?_;refine oG ?_;refine J1 ?_
            refine aR Tryz.results158 (λ w hw=>?_)
            refine⟨_,rfl,?_,hw.done⟩
            (simp_all[cA];done)
           ·refine aZ ?_;refine bP rfl ?_;refine cX ?_
            refine aR Tryz.results158 (λ w hw=>?_)
            refine⟨_,rfl,?_,hw.done⟩
            (simp_all[cA];done)
end
end Go.Proofs.YtbajmaoegmbfgaaGreat
namespace Go.Ct
section
def gD(n:Nd):Option Int:=if n.kind=2 then some n.main else if n.kind=3∨n.kind=5∨n.kind=6 then some n.prev else if n.kind=8 then some n.status else none
def eP(u:Option (List Bool))(n:Nd):Option (List Bool) :=
 match u with
 | none=>none
 | some u=>match gD n with
  | none=>some u
  | some c=>if 1<=c/\c<=u.length/\u.getD (c-1).toNat false=false then some (u.set (c-1).toNat true) else none
def marks(m:Nat)(L:List aP):Option (List Bool):=L.foldl (λ u v=>eP u v.nd) (some (List.replicate m false))
theorem nK{m:Nat}{L:List aP}{k:Nat}(h:k<L.length):marks m (L.take (k+1))=eP (marks m (L.take k)) (L.getD k aP.zero).nd:=by
 rw[marks,List.take_succ_eq_append_getElem h,List.foldl_append,iM,List.getElem?_eq_getElem h]
 rfl
theorem Hy{m:Nat}{L:List aP}{k:Nat}(h:marks m (L.take k)=none):marks m L=none:=by
 have e:L=L.take k++L.drop k:=(List.take_append_drop k L).symm
 rw[e,marks,List.foldl_append]
 rw[marks] at h
 rw[h]
 generalize L.drop k=l
 induction l with
 | nil=>rfl
 | cons v l ih=>exact ih
theorem Bh{m:Nat}:∀{L:List aP} {u:List Bool},marks m L=some u->u.length=m:=by
 intro L
 have key:∀(l:List aP) (u0:Option (List Bool)),(∀u,u0=some u->u.length=m)->∀u,l.foldl (λ u v=>eP u v.nd) u0=some u->u.length=m:=by
  intro l
  induction l with
  | nil=>intro u0 h u hu;exact h u hu
  | cons v l ih =>
   intro u0 h u hu
   refine ih (eP u0 v.nd) (λ u1 h1=>?_) u hu
   cases u0 with
   | none=>simp[eP] at h1
   | some u2 =>
    have:=h u2 rfl
    simp only[eP] at h1
    cases hc:gD v.nd with
    | none=>rw[hc] at h1;simp only[Option.some.injEq] at h1;rw[<- h1];exact this
    | some c =>
     rw[hc] at h1
     simp only at h1
     split at h1
     ·simp only[Option.some.injEq] at h1;rw[<- h1,List.length_set];exact this
     ·cases h1
 intro u hu
 exact key L _ (λ u h=>by simp only[Option.some.injEq] at h;rw[<- h];simp) u hu
def Cn(r:Int)(n:Nat):Prop:=0<=r/\r<=(n:Int)
instance (r:Int) (n:Nat):Decidable (Cn r n):=inferInstanceAs (Decidable (0<=r/\r<=(n:Int)))
theorem zy{r:Int}{n:Nat}(h:0<=r):decide (Cn r n)=decide (r<=(n:Int)):=by
 by_cases h2:r<=(n:Int)
 ·rw[decide_eq_true h2,decide_eq_true ⟨h,h2⟩]
 ·rw[decide_eq_false h2,decide_eq_false λ h3=>h2 h3.2]
def Sv(n:Nd)(xs:List Int)(N:Nat):Prop:=(∀i,i<xs.length->Cn (xs.getD i 0) N)/\Cn n.bJ N/\Cn n.exp N/\Cn n.new N
def lO(gen:Int)(N:Nat)(v:aP):Prop:=cA v.nd v.xs v.ys/\v.nd.gen<=gen/\Sv v.nd v.xs N
structure gC(L:List aP)(cs:List Int)(gen:Int):Prop where
 two:2<=L.length
 gen0:0<=gen
 m0:(L.getD 0 aP.zero).nd.kind=1
 m1:(L.getD 1 aP.zero).nd.kind=1
 cells:∀i,i<cs.length->Cn (cs.getD i 0) L.length
 nodes:∀i,i<L.length->lO gen L.length (L.getD i aP.zero)
 marks:marks cs.length L≠none
end
end Go.Ct
namespace Go.Proofs.YtbajmaoegmbfgaaGreat
open Go.RowKit Go.Ct
section
theorem wQ(r:Int)(n:Nat)(w:World):Calls Tryz.prog 157 #[.int .i64 r,.int .i64 ((n:Nat):Int)] w λ e w'=>e=.returned (.bool (decide (Cn r n)))/\St w [] [] w':=by
 refine enter Tryz.func157 Tryz.ntmps157 rfl rfl (SF.s0 w) ?_
 simp only[cC]
 refine Kc5 ?_;refine oG ?_;refine aA ?_
 (refine eJ 7 (λ g7=>?_) (λ g7=>?_)<;>refine Ka0 ?_)
 all_goals (refine Ka0 ?_;(first|refine aI ?_|(refine aE ?_;refine Bb ?_));refine Kb7 ?_)
 all_goals
 refine aR Tryz.results157 (λ w hw=>?_)
 refine⟨?_,hw.done⟩
 first|(rw[decide_eq_false (show ¬Cn r n from λ h=>by have:=h.1;have:=h.2;omega)];rfl)|(rw[zy (by omega)];rfl)
theorem Mf{n:Nd}{xs:List Int}{N:Nat}{w:World}(e1:n.brN=xs.length)(ha:Cl w n.brA (aG xs))(hx:xs.length<4611686018427387904) :
  Calls Tryz.prog 159 #[n.v,.int .i64 ((N:Nat):Int)] w λ e w'=>∃r:Bool,e=.returned (.bool r)/\(r=true↔Sv n xs N)/\St w [] [] w':=by
 refine enter Tryz.func159 Tryz.ntmps159 rfl rfl (SF.s1 ha) ?_
 simp only[cC]
 simp only[Nd.v,Nd.cells,e1]
 refine J0 ?_;refine bM (λ x2=>?_);refine jF ?_;refine iI ?_;refine dR ?_;refine Ip ?_;refine cS ?_
 refine nT [4,6,10,11,12,13,14,15,16,17,18] (λ k=>[(10,.int .i64 ((k:Nat):Int))]) (λ k=>k<=xs.length/\∀i,i<k->Cn (xs.getD i 0) N) (λ k=>_) (λ _=>_) (λ _=>_) (λ k=>xs.length-k) (0) (⟨Nat.zero_le _,λ i hi=>absurd hi (Nat.not_lt_zero i)⟩) (λ k f hx=>?_)
 dsimp only[hY,List.map,List.cons_append,List.nil_append]
 refine J0 ?_;refine Aj ?_;refine aV ?_
 refine bC (λ c11=>?_) (λ c11=>?_)
 ·refine rX ?_;refine J0 ?_;refine Rp ?_;refine zS ?_;refine aQ (cV (hc:=λ w1 hw=>wQ _ N w1)) (λ x16=>?_);refine oV ?_
  refine bC (λ c17=>?_) (λ c17=>?_)
  ·refine cX ?_
   refine aR Tryz.results159 (λ w hw=>?_)
   exact⟨false,rfl,⟨(λ h=>nomatch h),λ h=>absurd (h.1 k (by omega)) (by assumption)⟩,hw.done⟩
  ·refine pI ?_;refine a8 ?_;refine Ip ?_
   refine iS (k+1) ?_
   ·exact⟨by omega,λ i hi=>by rcases Nat.lt_succ_iff_lt_or_eq.1 hi with h|rfl;exact hx.2 i h;assumption⟩
 ·refine bP rfl ?_;refine Kb9 ?_;refine aQ (cV (hc:=λ w1 hw=>wQ _ N w1)) (λ x22=>?_);refine aA ?_
  (refine eJ 23 (λ g23=>?_) (λ g23=>?_)<;>refine Ka1 ?_)
  all_goals (refine db ?_;(first|refine aI ?_|(refine aE ?_;refine aQ (cV (hc:=λ w1 hw=>wQ _ N w1)) (λ x27=>?_)));refine Kb0 ?_)
  all_goals (first|refine aI ?_|(refine eJ 29 (λ g29=>?_) (λ g29=>?_)<;>refine Ka1 ?_))
  all_goals (refine db ?_;(first|refine aI ?_|(refine aE ?_;refine aQ (cV (hc:=λ w1 hw=>wQ _ N w1)) (λ x33=>?_)));refine Kb7 ?_)
  all_goals
  refine aR Tryz.results159 (λ w hw=>?_)
  have hall:∀i,i<xs.length->Cn (xs.getD i 0) N:=λ i hi=>hx.2 i (by omega)
  first|exact⟨_,rfl,by simp_all[Sv],hw.done⟩
theorem gh(n:Nd)(w:World):Calls Tryz.prog 160 #[n.v] w λ e w'=>e=.returned (.tuple #[.int .i64 ((gD n).getD 0),.bool (gD n).isSome])/\St w [] [] w':=by
 refine enter Tryz.func160 Tryz.ntmps160 rfl rfl (SF.s0 w) ?_
 simp only[cC]
 simp only[Nd.v,Nd.cells]
 refine J0 ?_;refine bM (λ x1=>?_);refine J8 ?_;refine Cw ?_;refine iI ?_;refine Ro ?_
 refine bC (λ c4=>?_) (λ c4=>?_)
 ·refine iI ?_;refine J8 ?_
  refine bE Tryz.results160 (λ w hw=>?_)
  refine⟨?_,hw.done⟩
  (rw[show gD n=some n.main by simp[gD,c4]];rfl)
 ·refine nI ?_;refine aD (c0 (V:=.bool) (hc:=λ w1 hw=>T8 n w1)) (λ x12 h12=>?_);refine J1 ?_
  refine bC (λ c10=>?_) (λ c10=>?_)
  ·have k22:n.kind=3∨n.kind=5∨n.kind=6:=h12.1 c10
   refine iI ?_;refine J8 ?_
   refine bE Tryz.results160 (λ w hw=>?_)
   refine⟨?_,hw.done⟩
   (rw[show gD n=some n.prev by simp only[gD];rw[if_neg c4,if_pos k22]];rfl)
  ·have k22:¬(n.kind=3∨n.kind=5∨n.kind=6):=λ k=>by rw[h12.2 k] at c10;cases c10
   refine iI ?_;refine Ro ?_
   refine bC (λ c15=>?_) (λ c15=>?_)
   ·refine iI ?_;refine J8 ?_
    refine bE Tryz.results160 (λ w hw=>?_)
    refine⟨?_,hw.done⟩
    (rw[show gD n=some n.status by simp only[gD];rw[if_neg c4,if_neg k22,if_pos c15]];rfl)
   ·refine pI ?_;refine N7 ?_
    refine bE Tryz.results160 (λ w hw=>?_)
    refine⟨?_,hw.done⟩
    (rw[show gD n=none by simp only[gD];rw[if_neg c4,if_neg k22,if_neg c15]];rfl)
end
section
set_option maxRecDepth 100000 in
theorem Oi{L:List aP}{cs:List Int}{gen:Int}{pn pc:Option Addr}{cn cc:Nat}{w:World}(h:qV w L cs pn pc)(hL:L.length<=274877906944)(hC:cs.length<=274877906944) :
    Calls Tryz.prog 117 #[.agg ⟨[.slice pn L.length cn,.slice pc cs.length cc,.int .i64 gen]⟩] w λ e w'=>∃r:Bool,e=.returned (.bool r)/\(r=true↔gC L cs gen)/\St w [] [] w':=by
  refine enter Tryz.func117 Tryz.ntmps117 rfl rfl h.start ?_
  simp only[cC]
  refine J0 ?_;refine bM (λ x1=>?_);refine jF ?_;refine iI ?_;refine dR ?_;refine Cv ?_
  (refine eJ 14 (λ g14=>?_) (λ g14=>?_)<;>refine Ka1 ?_)
  all_goals (refine J89 ?_;refine aH ?_)
  all_goals
   refine bC (λ c18=>?_) (λ c18=>?_)
   · all_goals refine cX ?_
     all_goals
      refine aR Tryz.results117 (λ w hw=>?_)
      exact⟨false,rfl,⟨(λ h=>nomatch h),λ hp=>by have h1:=hp.two;have h2:=hp.gen0;exfalso;omega⟩,hw.done⟩
   · try exact nv c18
     all_goals (refine kW ?_;refine iI ?_;refine aC (sC (k:=0) rf rf gE eT fin (by omega) (by omega)) rfl ?_;refine aF ?_;refine aC (vI (q:=0) rf fW fin (by omega)) rfl ?_;refine nD ?_;refine aA ?_)
     all_goals ((refine eJ 25 (λ g25=>?_) (λ g25=>?_)<;>refine Ka1 ?_))
     all_goals (refine Ka2 ?_;(first|refine aI ?_|(refine aE ?_;refine aC (sC (k:=1) rf rf gE eT fin (by omega) (by omega)) rfl ?_));refine Ka1 ?_;(first|refine aI ?_|(refine aE ?_;refine aC (vI (q:=1) rf fW fin (by omega)) rfl ?_));refine Rx ?_;refine aH ?_)
     all_goals
      refine bC (λ c32=>?_) (λ c32=>?_)
      · all_goals refine cX ?_
        all_goals
         refine aR Tryz.results117 (λ w hw=>?_)
         exact⟨false,rfl,⟨(λ h=>nomatch h),λ hp=>by have h1:=hp.m0;have h2:=hp.m1;exfalso;omega⟩,hw.done⟩
      · try exact nv c32
        all_goals (refine kW ?_;refine iI ?_;refine dR ?_;refine Ip ?_;refine cS ?_)
        all_goals
         refine iD [2,4,36,37,38,39,40,41,42,43,44,45,46] (λ k=>[(36,.int .i64 ((k:Nat):Int))]) (λ k=>k<=cs.length/\∀i,i<k->Cn (cs.getD i 0) L.length) (λ k=>cs.length-k) (0) (⟨Nat.zero_le _,λ i hi=>absurd hi (Nat.not_lt_zero i)⟩) ?_ (λ k f hx=>?_)
         · repeat (first|exact bI _|refine bD (by exact rfl) ?_)
         dsimp only[hY,List.map,List.cons_append,List.nil_append]
         refine J0 ?_;refine Aj ?_;refine aV ?_
         refine bC (λ c37=>?_) (λ c37=>?_)
         · refine rX ?_;refine J0 ?_;refine Rp ?_;refine Ka5 ?_;refine Rr ?_;refine aQ (cV (hc:=λ w1 hw=>wQ _ _ w1)) (λ x44=>?_);refine oV ?_
           refine bC (λ c45=>?_) (λ c45=>?_)
           · refine cX ?_
             refine aR Tryz.results117 (λ w hw=>?_)
             exact⟨false,rfl,⟨(λ h=>nomatch h),λ hp=>absurd (hp.cells k (by omega)) (by assumption)⟩,hw.done⟩
           · refine pI ?_;refine a8 ?_;refine Ip ?_
             refine fM (k+1) ?_ ?_ ?_
             · omega
             · repeat' (first|exact bI _|refine bD ?_ ?_)
               exact rfl
             · exact⟨by omega,λ i hi=>by rcases Nat.lt_succ_iff_lt_or_eq.1 hi with h|rfl;exact hx.2 i h;assumption⟩
         · refine bP rfl ?_;refine iI ?_;refine dR ?_;refine qZ (λ x50=>?_);refine jF ?_;refine iI ?_;refine dR ?_;refine Ip ?_;refine cS ?_
           have hcells:∀i,i<cs.length->Cn (cs.getD i 0) L.length:=λ i hi=>hx.2 i (by omega)
           clear hx
           refine nT [2,7,8,9,54,55,56,57,58,59,60,61,62,63,64,65,66,67,68,69,70,71,72,73,74,75,76,77,78,79,80,81,82,83,84,85,86,87,88,89,90,91,92,93,94,95,96,97,98,99,100,101,102,103] (λ y:Nat×List Bool=>[(54,.int .i64 ((y.1:Nat):Int))]) (λ y=>y.1<=L.length/\marks cs.length (L.take y.1)=some y.2/\∀i,i<y.1->lO gen L.length (L.getD i aP.zero)) (λ _=>_) (λ _=>_) (λ y=>[⟨some ⟨x50,0,none⟩,jO y.2,cs.length,4,1⟩]) (λ y=>L.length-y.1) ((0,List.replicate cs.length false)) (⟨Nat.zero_le _,rfl,λ i hi=>absurd hi (Nat.not_lt_zero i)⟩) (λ y f hx=>?_)
           dsimp only[hY,List.map,List.cons_append,List.nil_append]
           have hu:=Bh hx.2.1
           refine J0 ?_;refine Aj ?_;refine aV ?_
           refine bC (λ c55=>?_) (λ c55=>?_)
           · refine rX ?_;refine J0 ?_;refine Rp ?_;refine aK (λ x7=>?_);refine J5 ?_;refine aV ?_;refine nI ?_;refine aD (c0 (V:=.bool) (hc:=λ w1 hw=>Yb (hw.P6 h.fit (by omega)))) (λ x59 h59=>?_);refine Dg ?_
             (refine eJ 61 (λ g61=>?_) (λ g61=>?_)<;>refine Ka1 ?_)
             all_goals (refine B5 ?_;refine Am ?_;refine aA ?_)
             all_goals (first|refine aI ?_|(refine eJ 68 (λ g68=>?_) (λ g68=>?_)<;>refine Ka2 ?_))
             all_goals (refine Si ?_;(first|refine aI ?_|(refine aE ?_;refine aD (c0 (V:=.bool) (hc:=λ w1 hw=>Mf (hw.P6 h.fit (by omega)).brN (hw.P6 h.fit (by omega)).br (hw.P6 h.fit (by omega)).brS)) (λ x73 h73=>?_)));refine Kc6 ?_)
             all_goals
              refine bC (λ c75=>?_) (λ c75=>?_)
              · all_goals refine cX ?_
                all_goals
                 refine aR Tryz.results117 (λ w hw=>?_)
                 refine⟨false,rfl,⟨(λ h=>nomatch h),λ hp=>?_⟩,hw.done⟩
                 obtain⟨q1,q2,q3⟩:=hp.nodes y.1 (by omega)
                 first|(exfalso;omega)|(have:=h59.2 q1;simp_all;done) 
              · try exact nv c75
                all_goals
                 have hok:lO gen L.length (L.getD y.1 aP.zero):=⟨h59.1 (by simp_all),by omega,h73.1 (by simp_all)⟩
                all_goals (refine aZ ?_;refine nI ?_;refine aQ (cV (hc:=λ w1 hw=>gh (L.getD y.1 aP.zero).nd w1)) (λ x78=>?_);refine Kb5 ?_;refine oV ?_)
                all_goals
                 refine bC (λ c82=>?_) (λ c82=>?_)
                 · have hmk:eP (some y.2) (L.getD y.1 aP.zero).nd=some y.2:=by
                    have e:gD (L.getD y.1 aP.zero).nd=none:=by cases hq:gD (L.getD y.1 aP.zero).nd<;>simp_all
                    simp only[eP,e]
                   refine bP rfl ?_;refine a8 ?_;refine Ip ?_
                   refine iS ((y.1+1,(eP (some y.2) (L.getD y.1 aP.zero).nd).getD y.2)) ?_ (hw1:=λ w hw=>by rw[hmk];exact hw.back)
                   · refine⟨by omega,by rw[nK (by omega),hx.2.1,hmk];rfl,λ i hi=>?_⟩
                     rcases Nat.lt_succ_iff_lt_or_eq.1 hi with h|rfl
                     · exact hx.2.2 i h
                     · exact hok
                 · obtain⟨c,hc⟩:∃c,gD (L.getD y.1 aP.zero).nd=some c:=Option.isSome_iff_exists.1 c82
                   rw[hc,Option.getD_some]
                   refine kW ?_;refine J2 ?_;refine Cv ?_
                   (refine eJ 85 (λ g85=>?_) (λ g85=>?_)<;>refine Ka0 ?_)
                   all_goals (refine Si ?_;refine Am ?_;refine aA ?_)
                   all_goals (first|refine aI ?_|(refine eJ 92 (λ g92=>?_) (λ g92=>?_)<;>refine Ka0 ?_))
                   all_goals (refine Ka0 ?_;(first|refine aI ?_|(refine aE ?_;refine aC (Nb rf rf (by omega) (by omega)) rfl ?_));(first|refine aI ?_|(refine aE ?_;refine aC (oH rf rf gE fW fin (by omega) (by omega)) rfl ?_));(first|refine aI ?_|(refine aE ?_;refine aC (Ab rf fW fin (by omega)) rfl ?_));refine cD ?_;refine aH ?_)
                   all_goals
                    refine bC (λ c98=>?_) (λ c98=>?_)
                    · all_goals refine cX ?_
                      all_goals
                       refine aR Tryz.results117 (λ w hw=>?_)
                       refine⟨false,rfl,⟨(λ h=>nomatch h),λ hp=>?_⟩,hw.done⟩
                       have hm:marks cs.length (L.take (y.1+1))=none:=by
                        rw[nK (by omega),hx.2.1]
                        simp only[eP,hc]
                        refine if_neg λ hh=>?_
                        obtain⟨q1,q2,q3⟩:=hh
                        first|(exfalso;omega)|(exfalso;rw[q3] at c98;cases c98)
                       exact absurd (Hy hm) hp.marks
                    · try exact nv c98
                      all_goals
                       have hmk:eP (some y.2) (L.getD y.1 aP.zero).nd=some (y.2.set (c-1).toNat true):=by
                        simp only[eP,hc]
                        rw[if_pos ⟨by omega,by omega,c98⟩]
                      all_goals (refine aZ ?_;refine Iz ?_;refine aC (Nb rf rf (by omega) (by omega)) rfl ?_;refine aC (oH rf rf gE fW fin (by omega) (by omega)) rfl ?_;refine J5 ?_;refine fK ?_;refine a8 ?_;refine Ip ?_)
                      all_goals
                       refine iS ((y.1+1,(eP (some y.2) (L.getD y.1 aP.zero).nd).getD y.2)) ?_ (hw1:=λ w hw=>by rw[hmk];exact hw.back)
                       · refine⟨by omega,by rw[nK (by omega),hx.2.1,hmk];rfl,λ i hi=>?_⟩
                         rcases Nat.lt_succ_iff_lt_or_eq.1 hi with h|rfl
                         · exact hx.2.2 i h
                         · exact hok
           · refine bP rfl ?_;refine cX ?_
             refine aR Tryz.results117 (λ w hw=>?_)
             have hy:y.1=L.length:=by omega
             have hmm:marks cs.length L=some y.2:=by have:=hx.2.1;rwa [hy,List.take_length] at this
             exact⟨true,rfl,⟨λ _=>⟨by omega,by omega,by omega,by omega,hcells,λ i hi=>hx.2.2 i (by omega),by rw[hmm];exact λ h=>nomatch h⟩,λ _=>rfl⟩,hw.done⟩
end
end Go.Proofs.YtbajmaoegmbfgaaGreat
