/- node.Valid. -/
import Derived.Test.YtbajmaoegmbfgaaGreatGAr4
import Derived.Test.YtbajmaoegmbfgaaGreatGNode2

set_option linter.unusedSimpArgs false
set_option linter.unusedVariables false
namespace Go.Proofs.YtbajmaoegmbfgaaGreat
section
open Go.RowKit Go.Ct
theorem wz(b:Int)(w:World):Calls Tryz.prog 238 #[.int .u64 b] w λ e w'=>e=.returned (.int .i64 (yE b))/\St w [] [] w':=by
 refine enter Tryz.func238 Tryz.ntmps238 rfl rfl (SF.s0 w) ?_
 simp only[cD]
 refine Kc2 ?_;refine E1 ?_;refine Hk ?_;refine aA ?_;refine Hk ?_;refine Hi ?_;refine Ka4 ?_;refine E1 ?_;refine Hk ?_;refine aA ?_;refine Hk ?_;refine Hi ?_;refine Ka4 ?_;refine E1 ?_;refine aA ?_;refine Hi ?_;refine Hk ?_;refine zB ?_;refine E1 ?_;refine Hi ?_;refine zB ?_;refine E1 ?_;refine Hi ?_;refine zB ?_;refine E1 ?_;refine Hi ?_;refine Ka4 ?_;refine mQ ?_;refine Hk ?_;refine J1 ?_
 refine aN Tryz.results238 (λ w hw=>?_)
 exact⟨rfl,hw.done⟩
theorem my(b:Int)(w:World):Calls Tryz.prog 198 #[.int .u64 b] w λ e w'=>e=.returned (.int .i64 (yE b))/\St w [] [] w':=by
 refine enter Tryz.func198 Tryz.ntmps198 rfl rfl (SF.s0 w) ?_
 simp only[cD]
 refine Kc2 ?_;refine aM (cV (hc:=λ w1 hw=>wz b w1)) (λ x4=>?_);refine J1 ?_
 refine aN Tryz.results198 (λ w hw=>?_)
 exact⟨rfl,hw.done⟩
theorem Xk{n:Nd}{xs:List Int}{ys:List Pr}{w:World}(hr:sB w n xs ys) :
  Calls Tryz.prog 158 #[n.v] w λ e w'=>∃r:Bool,e=.returned (.bool r)/\(r=true↔cA n xs ys)/\St w [] [] w':=by
 have e1:=hr.brN;have e2:=hr.prN
 refine enter Tryz.func158 Tryz.ntmps158 rfl rfl (SF.s0 w) ?_
 simp only[cD]
 refine J0 ?_;refine bO (λ x1=>?_);refine iW ?_;refine aR ?_;refine eM [(0,[]),(1,[]),(2,[0]),(3,[]),(4,[])] ?_;refine bY ?_;refine bY ?_;refine dB (i:=2) (hq:=(cV (hc:=λ w1 hw=>aBs n w1))) (h:=λ x5=>?_);refine bG (i:=3) (hq:=(c0 (V:=.bool) (hc:=λ w1 hw=>yb (hr.fO hw.st) (hr.fO hw.st).own))) (h:=λ x6 h6=>?_);refine Yz ?_;refine eK ?_
 refine bC (λ c7=>?_) (λ c7=>?_)
 ·refine cU ?_
  refine aN Tryz.results158 (λ w hw=>?_)
  refine⟨_,rfl,?_,hw.done⟩
  (simp_all[cA];done)
 ·refine lI ?_;refine gP ?_;refine A9 ?_
  (refine eC 11 (λ g11=>?_) (λ g11=>?_)<;>refine Ka1 ?_)
  all_goals (refine yo ?_;refine aA ?_)
  all_goals (first|refine aI ?_|(refine eC 16 (λ g16=>?_) (λ g16=>?_)<;>refine Ka1 ?_))
  all_goals (refine yo ?_;refine aG ?_)
  all_goals
  refine bC (λ c20=>?_) (λ c20=>?_)
  ·all_goals refine cU ?_
   all_goals
    refine aN Tryz.results158 (λ w hw=>?_)
    refine⟨_,rfl,?_,hw.done⟩
    (simp_all[cA];omega)
  ·try exact nv c20
   all_goals (refine lI ?_;refine gP ?_;refine aG ?_;refine cY ?_;refine C3 ?_;refine C3 ?_;refine C3 ?_;refine C3 ?_;refine cY ?_;refine C3 ?_;refine C3 ?_;refine C3 ?_;refine aR ?_;refine aR ?_;refine lK ?_)
   all_goals
    refine bC (λ c23=>?_) (λ c23=>?_)
    ·refine bS rfl ?_;refine aR ?_;refine cU ?_
     refine aN Tryz.results158 (λ w hw=>?_)
     refine⟨_,rfl,?_,hw.done⟩
     (simp_all[cA];done)
    ·refine lI ?_;refine lK ?_
     refine bC (λ c25=>?_) (λ c25=>?_)
     ·refine bS rfl ?_;refine Ds ?_;refine nW ?_;refine J1 ?_
      refine aN Tryz.results158 (λ w hw=>?_)
      refine⟨_,rfl,?_,hw.done⟩
      (simp_all[cA];done)
     ·refine lI ?_;refine lK ?_
      refine bC (λ c27=>?_) (λ c27=>?_)
      ·refine bS rfl ?_;refine aR ?_;refine aR ?_;refine eM [(0,[]),(1,[]),(2,[]),(3,[]),(4,[]),(5,[1]),(6,[]),(7,[]),(8,[]),(9,[]),(10,[]),(11,[]),(12,[])] ?_;refine oW ?_;refine oF ?_;refine oW ?_;refine dB (i:=5) (hq:=(cV (hc:=λ w1 hw=>my n.bm w1))) (h:=λ x47=>?_);refine nK ?_;refine bB ?_
       (refine uz 49 (λ g49=>?_) (λ g49=>?_)<;>(first|refine gC ?_|(refine aS ?_)))
       all_goals ((first|refine gC ?_|(refine bY ?_));(first|refine gC ?_|(refine bG (i:=10) (hq:=(c0 (V:=.bool) (hc:=λ w1 hw=>by rw[e1];exact Sn (hr.br.fO hw.st) hr.brS))) (h:=λ x52 h52=>?_)));refine lO ?_;refine J7 ?_)
       all_goals
       refine aN Tryz.results158 (λ w hw=>?_)
       refine⟨_,rfl,?_,hw.done⟩
       (simp_all[cA];done)
      ·refine lI ?_;refine lK ?_
       refine bC (λ c29=>?_) (λ c29=>?_)
       ·refine V2 ?_;refine Ds ?_;refine lQ ?_;refine An ?_;refine J1 ?_
        refine aN Tryz.results158 (λ w hw=>?_)
        refine⟨_,rfl,?_,hw.done⟩
        (simp_all[cA];omega)
       ·refine lI ?_;refine lK ?_
        refine bC (λ c31=>?_) (λ c31=>?_)
        ·refine bS rfl ?_;refine Ds ?_;refine lQ ?_;refine An ?_;refine J1 ?_
         refine aN Tryz.results158 (λ w hw=>?_)
         refine⟨_,rfl,?_,hw.done⟩
         (simp_all[cA];omega)
        ·refine lI ?_;refine lK ?_
         refine bC (λ c33=>?_) (λ c33=>?_)
         ·refine bS rfl ?_;refine Ds ?_;refine dY ?_;refine nW ?_;refine aA ?_
          (refine eC 62 (λ g62=>?_) (λ g62=>?_)<;>refine Ka1 ?_)
          all_goals (refine Ka2 ?_;(first|refine aI ?_|(refine aF ?_;refine aD (c0 (V:=.bool) (hc:=λ w1 hw=>by rw[e2];exact Xc (hr.pr.fO hw.st) hr.prS)) (λ x65 h65=>?_)));refine Ka6 ?_)
          all_goals (first|refine aI ?_|(refine eC 67 (λ g67=>?_) (λ g67=>?_)<;>refine Ka1 ?_))
          all_goals (refine Ka2 ?_;(first|refine aI ?_|(refine aF ?_;refine aD (c0 (V:=.bool) (hc:=λ w1 hw=>by rw[e2];exact O7 (hr.pr.fO hw.st) hr.prS)) (λ x70 h70=>?_)));refine Kb6 ?_)
          all_goals
          refine aN Tryz.results158 (λ w hw=>?_)
          refine⟨_,rfl,?_,hw.done⟩
          first|(simp_all[cA];done)|(simp_all[cA];omega)
         ·refine lI ?_;refine lK ?_
          refine bC (λ c35=>?_) (λ c35=>?_)
          ·refine bS rfl ?_;refine gP ?_;refine A9 ?_
           (refine eC 75 (λ g75=>?_) (λ g75=>?_)<;>refine Ka1 ?_)
           all_goals (refine yo ?_;refine aG ?_)
           all_goals
           refine bC (λ c79=>?_) (λ c79=>?_)
           ·all_goals refine cU ?_
            all_goals
             refine aN Tryz.results158 (λ w hw=>?_)
             refine⟨_,rfl,?_,hw.done⟩
             (simp_all[cA];omega)
           ·try exact nv c79
            all_goals (refine pE ?_;refine Ds ?_;refine nW ?_;refine J1 ?_)
            all_goals
             refine aN Tryz.results158 (λ w hw=>?_)
             refine⟨_,rfl,?_,hw.done⟩
             (simp_all[cA];done)
          ·refine aV ?_;refine lK ?_
           refine bC (λ c37=>?_) (λ c37=>?_)
           ·refine bS rfl ?_;refine Ds ?_;refine nW ?_;refine J1 ?_
            refine aN Tryz.results158 (λ w hw=>?_)
            refine⟨_,rfl,?_,hw.done⟩
            (simp_all[cA];done)
           ·refine aV ?_;refine bS rfl ?_;refine cU ?_
            refine aN Tryz.results158 (λ w hw=>?_)
            refine⟨_,rfl,?_,hw.done⟩
            (simp_all[cA];done)
end

/- Proper states: the program's check. -/
end Go.Proofs.YtbajmaoegmbfgaaGreat
namespace Go.Ct
section
def fM(n:Nd):Option Int:=if n.kind=2 then some n.main else if n.kind=3∨n.kind=5∨n.kind=6 then some n.prev else if n.kind=8 then some n.status else none
def eG(u:Option (List Bool))(n:Nd):Option (List Bool) :=
 match u with
 | none=>none
 | some u=>match fM n with
  | none=>some u
  | some c=>if 1<=c/\c<=u.length/\u.getD (c-1).toNat false=false then some (u.set (c-1).toNat true) else none
def marks(m:Nat)(L:List aU):Option (List Bool):=L.foldl (λ u v=>eG u v.nd) (some (List.replicate m false))
theorem mJ{m:Nat}{L:List aU}{k:Nat}(h:k<L.length):marks m (L.take (k+1))=eG (marks m (L.take k)) (L.getD k aU.zero).nd:=by
 rw[marks,List.take_succ_eq_append_getElem h,List.foldl_append,jK,List.getElem?_eq_getElem h]
 rfl
theorem Gy{m:Nat}{L:List aU}{k:Nat}(h:marks m (L.take k)=none):marks m L=none:=by
 have e:L=L.take k++L.drop k:=(List.take_append_drop k L).symm
 rw[e,marks,List.foldl_append]
 rw[marks] at h
 rw[h]
 generalize L.drop k=l
 induction l with
 | nil=>rfl
 | cons v l ih=>exact ih
theorem Bm{m:Nat}:∀{L:List aU} {u:List Bool},marks m L=some u->u.length=m:=by
 intro L
 have key:∀(l:List aU) (u0:Option (List Bool)),(∀u,u0=some u->u.length=m)->∀u,l.foldl (λ u v=>eG u v.nd) u0=some u->u.length=m:=by
  intro l
  induction l with
  | nil=>intro u0 h u hu;exact h u hu
  | cons v l ih =>
   intro u0 h u hu
   refine ih (eG u0 v.nd) (λ u1 h1=>?_) u hu
   cases u0 with
   | none=>simp[eG] at h1
   | some u2 =>
    have:=h u2 rfl
    simp only[eG] at h1
    cases hc:fM v.nd with
    | none=>rw[hc] at h1;simp only[Option.some.injEq] at h1;rw[<- h1];exact this
    | some c =>
     rw[hc] at h1
     simp only at h1
     split at h1
     ·simp only[Option.some.injEq] at h1;rw[<- h1,List.length_set];exact this
     ·cases h1
 intro u hu
 exact key L _ (λ u h=>by simp only[Option.some.injEq] at h;rw[<- h];simp) u hu
def Db(r:Int)(n:Nat):Prop:=0<=r/\r<=(n:Int)
instance (r:Int) (n:Nat):Decidable (Db r n):=inferInstanceAs (Decidable (0<=r/\r<=(n:Int)))
theorem w3{r:Int}{n:Nat}(h:0<=r):decide (Db r n)=decide (r<=(n:Int)):=by
 by_cases h2:r<=(n:Int)
 ·rw[decide_eq_true h2,decide_eq_true ⟨h,h2⟩]
 ·rw[decide_eq_false h2,decide_eq_false λ h3=>h2 h3.2]
def Qn(n:Nd)(xs:List Int)(N:Nat):Prop:=(∀i,i<xs.length->Db (xs.getD i 0) N)/\Db n.aZ N/\Db n.exp N/\Db n.new N
def mF(gen:Int)(N:Nat)(v:aU):Prop:=cA v.nd v.xs v.ys/\v.nd.gen<=gen/\Qn v.nd v.xs N
structure iO(L:List aU)(cs:List Int)(gen:Int):Prop where
 two:2<=L.length
 gen0:0<=gen
 m0:(L.getD 0 aU.zero).nd.kind=1
 m1:(L.getD 1 aU.zero).nd.kind=1
 cells:∀i,i<cs.length->Db (cs.getD i 0) L.length
 nodes:∀i,i<L.length->mF gen L.length (L.getD i aU.zero)
 marks:marks cs.length L≠none
end
end Go.Ct
namespace Go.Proofs.YtbajmaoegmbfgaaGreat
section
open Go.RowKit Go.Ct
theorem wK(r:Int)(n:Nat)(w:World):Calls Tryz.prog 157 #[.int .i64 r,.int .i64 ((n:Nat):Int)] w λ e w'=>e=.returned (.bool (decide (Db r n)))/\St w [] [] w':=by
 refine enter Tryz.func157 Tryz.ntmps157 rfl rfl (SF.s0 w) ?_
 simp only[cD]
 refine Kc2 ?_;refine nW ?_;refine aA ?_
 (refine eC 7 (λ g7=>?_) (λ g7=>?_)<;>refine Ka0 ?_)
 all_goals (refine Ka0 ?_;(first|refine aI ?_|(refine aF ?_;refine An ?_));refine Kb6 ?_)
 all_goals
 refine aN Tryz.results157 (λ w hw=>?_)
 refine⟨?_,hw.done⟩
 first|(rw[decide_eq_false (show ¬Db r n from λ h=>by have:=h.1;have:=h.2;omega)];rfl)|(rw[w3 (by omega)];rfl)
theorem Kd{n:Nd}{xs:List Int}{N:Nat}{w:World}(e1:n.brN=xs.length)(ha:Cl w n.brA (aH xs))(hx:xs.length<4611686018427387904) :
  Calls Tryz.prog 159 #[n.v,.int .i64 ((N:Nat):Int)] w λ e w'=>∃r:Bool,e=.returned (.bool r)/\(r=true↔Qn n xs N)/\St w [] [] w':=by
 refine enter Tryz.func159 Tryz.ntmps159 rfl rfl (SF.s1 ha) ?_
 simp only[cD]
 simp only[Nd.v,Nd.cells,e1]
 refine J0 ?_;refine bO (λ x2=>?_);refine iW ?_;refine gP ?_;refine dY ?_;refine Lw ?_;refine cY ?_
 refine oJ [4,6,10,11,12,13,14,15,16,17,18] (λ k=>[(10,.int .i64 ((k:Nat):Int))]) (λ k=>k<=xs.length/\∀i,i<k->Db (xs.getD i 0) N) (λ k=>_) (λ _=>_) (λ _=>_) (λ k=>xs.length-k) (0) (⟨Nat.zero_le _,λ i hi=>absurd hi (Nat.not_lt_zero i)⟩) (λ k f hx=>?_)
 dsimp only[gZ,List.map,List.cons_append,List.nil_append]
 refine J0 ?_;refine C5 ?_;refine aR ?_
 refine bC (λ c11=>?_) (λ c11=>?_)
 ·refine tB ?_;refine J0 ?_;refine P9 ?_;refine zB ?_;refine aM (cV (hc:=λ w1 hw=>wK _ N w1)) (λ x16=>?_);refine pD ?_
  refine bC (λ c17=>?_) (λ c17=>?_)
  ·refine cU ?_
   refine aN Tryz.results159 (λ w hw=>?_)
   exact⟨false,rfl,⟨(λ h=>nomatch h),λ h=>absurd (h.1 k (by omega)) (by assumption)⟩,hw.done⟩
  ·refine pE ?_;refine ki ?_;refine Lw ?_
   refine iJ (k+1) ?_
   ·exact⟨by omega,λ i hi=>by rcases Nat.lt_succ_iff_lt_or_eq.1 hi with h|rfl;exact hx.2 i h;assumption⟩
 ·refine bS rfl ?_;refine Kc3 ?_;refine aM (cV (hc:=λ w1 hw=>wK _ N w1)) (λ x22=>?_);refine aA ?_
  (refine eC 23 (λ g23=>?_) (λ g23=>?_)<;>refine Ka1 ?_)
  all_goals (refine Yy ?_;(first|refine aI ?_|(refine aF ?_;refine aM (cV (hc:=λ w1 hw=>wK _ N w1)) (λ x27=>?_)));refine Ka6 ?_)
  all_goals (first|refine aI ?_|(refine eC 29 (λ g29=>?_) (λ g29=>?_)<;>refine Ka1 ?_))
  all_goals (refine Yy ?_;(first|refine aI ?_|(refine aF ?_;refine aM (cV (hc:=λ w1 hw=>wK _ N w1)) (λ x33=>?_)));refine Kb6 ?_)
  all_goals
  refine aN Tryz.results159 (λ w hw=>?_)
  have hall:∀i,i<xs.length->Db (xs.getD i 0) N:=λ i hi=>hx.2 i (by omega)
  first|exact⟨_,rfl,by simp_all[Qn],hw.done⟩
theorem bk(n:Nd)(w:World):Calls Tryz.prog 160 #[n.v] w λ e w'=>e=.returned (.tuple #[.int .i64 ((fM n).getD 0),.bool (fM n).isSome])/\St w [] [] w':=by
 refine enter Tryz.func160 Tryz.ntmps160 rfl rfl (SF.s0 w) ?_
 simp only[cD]
 simp only[Nd.v,Nd.cells]
 refine J0 ?_;refine bO (λ x1=>?_);refine J8 ?_;refine C3 ?_;refine gP ?_;refine Qc ?_
 refine bC (λ c4=>?_) (λ c4=>?_)
 ·refine gP ?_;refine J8 ?_
  refine bA Tryz.results160 (λ w hw=>?_)
  refine⟨?_,hw.done⟩
  (rw[show fM n=some n.main by simp[fM,c4]];rfl)
 ·refine oI ?_;refine aD (c0 (V:=.bool) (hc:=λ w1 hw=>Qj n w1)) (λ x12 h12=>?_);refine J1 ?_
  refine bC (λ c10=>?_) (λ c10=>?_)
  ·have k22:n.kind=3∨n.kind=5∨n.kind=6:=h12.1 c10
   refine gP ?_;refine J8 ?_
   refine bA Tryz.results160 (λ w hw=>?_)
   refine⟨?_,hw.done⟩
   (rw[show fM n=some n.prev by simp only[fM];rw[if_neg c4,if_pos k22]];rfl)
  ·have k22:¬(n.kind=3∨n.kind=5∨n.kind=6):=λ k=>by rw[h12.2 k] at c10;cases c10
   refine gP ?_;refine Qc ?_
   refine bC (λ c15=>?_) (λ c15=>?_)
   ·refine gP ?_;refine J8 ?_
    refine bA Tryz.results160 (λ w hw=>?_)
    refine⟨?_,hw.done⟩
    (rw[show fM n=some n.status by simp only[fM];rw[if_neg c4,if_neg k22,if_pos c15]];rfl)
   ·refine pE ?_;refine Na ?_
    refine bA Tryz.results160 (λ w hw=>?_)
    refine⟨?_,hw.done⟩
    (rw[show fM n=none by simp only[fM];rw[if_neg c4,if_neg k22,if_neg c15]];rfl)
end

/- Proper states: the walk through the program's check. -/
section
open Go.RowKit Go.Ct
set_option maxRecDepth 100000 in
theorem Pc{L:List aU}{cs:List Int}{gen:Int}{pn pc:Option Addr}{cn cc:Nat}{w:World}(h:rU w L cs pn pc)(hL:L.length<=274877906944)(hC:cs.length<=274877906944) :
    Calls Tryz.prog 117 #[.agg ⟨[.slice pn L.length cn,.slice pc cs.length cc,.int .i64 gen]⟩] w λ e w'=>∃r:Bool,e=.returned (.bool r)/\(r=true↔iO L cs gen)/\St w [] [] w':=by
  refine enter Tryz.func117 Tryz.ntmps117 rfl rfl h.start ?_
  simp only[cD]
  refine J0 ?_;refine bO (λ x1=>?_);refine iW ?_;refine gP ?_;refine dY ?_;refine A9 ?_
  (refine eC 14 (λ g14=>?_) (λ g14=>?_)<;>refine Ka1 ?_)
  all_goals (refine yo ?_;refine aG ?_)
  all_goals
   refine bC (λ c18=>?_) (λ c18=>?_)
   · all_goals refine cU ?_
     all_goals
      refine aN Tryz.results117 (λ w hw=>?_)
      exact⟨false,rfl,⟨(λ h=>nomatch h),λ hp=>by have h1:=hp.two;have h2:=hp.gen0;exfalso;omega⟩,hw.done⟩
   · try exact nv c18
     all_goals (refine lI ?_;refine gP ?_;refine aB (rX (k:=0) rf rf gQ eH fin (by omega) (by omega)) rfl ?_;refine aE ?_;refine aB (uX (q:=0) rf gN fin (by omega)) rfl ?_;refine mH ?_;refine aA ?_)
     all_goals ((refine eC 25 (λ g25=>?_) (λ g25=>?_)<;>refine Ka1 ?_))
     all_goals (refine Ka2 ?_;(first|refine aI ?_|(refine aF ?_;refine aB (rX (k:=1) rf rf gQ eH fin (by omega) (by omega)) rfl ?_));refine Ka1 ?_;(first|refine aI ?_|(refine aF ?_;refine aB (uX (q:=1) rf gN fin (by omega)) rfl ?_));refine R9 ?_;refine aG ?_)
     all_goals
      refine bC (λ c32=>?_) (λ c32=>?_)
      · all_goals refine cU ?_
        all_goals
         refine aN Tryz.results117 (λ w hw=>?_)
         exact⟨false,rfl,⟨(λ h=>nomatch h),λ hp=>by have h1:=hp.m0;have h2:=hp.m1;exfalso;omega⟩,hw.done⟩
      · try exact nv c32
        all_goals (refine lI ?_;refine gP ?_;refine dY ?_;refine Lw ?_;refine cY ?_)
        all_goals
         refine gI [2,4,36,37,38,39,40,41,42,43,44,45,46] (λ k=>[(36,.int .i64 ((k:Nat):Int))]) (λ k=>k<=cs.length/\∀i,i<k->Db (cs.getD i 0) L.length) (λ k=>cs.length-k) (0) (⟨Nat.zero_le _,λ i hi=>absurd hi (Nat.not_lt_zero i)⟩) ?_ (λ k f hx=>?_)
         · repeat (first|exact bQ _|refine bI (by exact rfl) ?_)
         dsimp only[gZ,List.map,List.cons_append,List.nil_append]
         refine J0 ?_;refine C5 ?_;refine aR ?_
         refine bC (λ c37=>?_) (λ c37=>?_)
         · refine tB ?_;refine J0 ?_;refine P9 ?_;refine Ka4 ?_;refine P6 ?_;refine aM (cV (hc:=λ w1 hw=>wK _ _ w1)) (λ x44=>?_);refine pD ?_
           refine bC (λ c45=>?_) (λ c45=>?_)
           · refine cU ?_
             refine aN Tryz.results117 (λ w hw=>?_)
             exact⟨false,rfl,⟨(λ h=>nomatch h),λ hp=>absurd (hp.cells k (by omega)) (by assumption)⟩,hw.done⟩
           · refine pE ?_;refine ki ?_;refine Lw ?_
             refine fA (k+1) ?_ ?_ ?_
             · omega
             · repeat' (first|exact bQ _|refine bI ?_ ?_)
               exact rfl
             · exact⟨by omega,λ i hi=>by rcases Nat.lt_succ_iff_lt_or_eq.1 hi with h|rfl;exact hx.2 i h;assumption⟩
         · refine bS rfl ?_;refine gP ?_;refine dY ?_;refine uW (λ x50=>?_);refine iW ?_;refine gP ?_;refine dY ?_;refine Lw ?_;refine cY ?_
           have hcells:∀i,i<cs.length->Db (cs.getD i 0) L.length:=λ i hi=>hx.2 i (by omega)
           clear hx
           refine oJ [2,7,8,9,54,55,56,57,58,59,60,61,62,63,64,65,66,67,68,69,70,71,72,73,74,75,76,77,78,79,80,81,82,83,84,85,86,87,88,89,90,91,92,93,94,95,96,97,98,99,100,101,102,103] (λ y:Nat×List Bool=>[(54,.int .i64 ((y.1:Nat):Int))]) (λ y=>y.1<=L.length/\marks cs.length (L.take y.1)=some y.2/\∀i,i<y.1->mF gen L.length (L.getD i aU.zero)) (λ _=>_) (λ _=>_) (λ y=>[⟨some ⟨x50,0,none⟩,jT y.2,cs.length,4,1⟩]) (λ y=>L.length-y.1) ((0,List.replicate cs.length false)) (⟨Nat.zero_le _,rfl,λ i hi=>absurd hi (Nat.not_lt_zero i)⟩) (λ y f hx=>?_)
           dsimp only[gZ,List.map,List.cons_append,List.nil_append]
           have hu:=Bm hx.2.1
           refine J0 ?_;refine C5 ?_;refine aR ?_
           refine bC (λ c55=>?_) (λ c55=>?_)
           · refine tB ?_;refine J0 ?_;refine P9 ?_;refine aJ (λ x7=>?_);refine J5 ?_;refine aR ?_;refine oI ?_;refine aD (c0 (V:=.bool) (hc:=λ w1 hw=>Xk (hw.M3 h.fit (by omega)))) (λ x59 h59=>?_);refine Et ?_
             (refine eC 61 (λ g61=>?_) (λ g61=>?_)<;>refine Ka1 ?_)
             all_goals (refine A3 ?_;refine Bs ?_;refine aA ?_)
             all_goals (first|refine aI ?_|(refine eC 68 (λ g68=>?_) (λ g68=>?_)<;>refine Ka2 ?_))
             all_goals (refine Rn ?_;(first|refine aI ?_|(refine aF ?_;refine aD (c0 (V:=.bool) (hc:=λ w1 hw=>Kd (hw.M3 h.fit (by omega)).brN (hw.M3 h.fit (by omega)).br (hw.M3 h.fit (by omega)).brS)) (λ x73 h73=>?_)));refine Kc4 ?_)
             all_goals
              refine bC (λ c75=>?_) (λ c75=>?_)
              · all_goals refine cU ?_
                all_goals
                 refine aN Tryz.results117 (λ w hw=>?_)
                 refine⟨false,rfl,⟨(λ h=>nomatch h),λ hp=>?_⟩,hw.done⟩
                 obtain⟨q1,q2,q3⟩:=hp.nodes y.1 (by omega)
                 first|(exfalso;omega)|(have:=h59.2 q1;simp_all;done) 
              · try exact nv c75
                all_goals
                 have hok:mF gen L.length (L.getD y.1 aU.zero):=⟨h59.1 (by simp_all),by omega,h73.1 (by simp_all)⟩
                all_goals (refine aV ?_;refine oI ?_;refine aM (cV (hc:=λ w1 hw=>bk (L.getD y.1 aU.zero).nd w1)) (λ x78=>?_);refine Kc7 ?_;refine pD ?_)
                all_goals
                 refine bC (λ c82=>?_) (λ c82=>?_)
                 · have hmk:eG (some y.2) (L.getD y.1 aU.zero).nd=some y.2:=by
                    have e:fM (L.getD y.1 aU.zero).nd=none:=by cases hq:fM (L.getD y.1 aU.zero).nd<;>simp_all
                    simp only[eG,e]
                   refine bS rfl ?_;refine ki ?_;refine Lw ?_
                   refine iJ ((y.1+1,(eG (some y.2) (L.getD y.1 aU.zero).nd).getD y.2)) ?_ (hw1:=λ w hw=>by rw[hmk];exact hw.back)
                   · refine⟨by omega,by rw[mJ (by omega),hx.2.1,hmk];rfl,λ i hi=>?_⟩
                     rcases Nat.lt_succ_iff_lt_or_eq.1 hi with h|rfl
                     · exact hx.2.2 i h
                     · exact hok
                 · obtain⟨c,hc⟩:∃c,fM (L.getD y.1 aU.zero).nd=some c:=Option.isSome_iff_exists.1 c82
                   rw[hc,Option.getD_some]
                   refine lI ?_;refine J2 ?_;refine A9 ?_
                   (refine eC 85 (λ g85=>?_) (λ g85=>?_)<;>refine Ka0 ?_)
                   all_goals (refine Rn ?_;refine Bs ?_;refine aA ?_)
                   all_goals (first|refine aI ?_|(refine eC 92 (λ g92=>?_) (λ g92=>?_)<;>refine Ka0 ?_))
                   all_goals (refine Ka0 ?_;(first|refine aI ?_|(refine aF ?_;refine aB (K1 rf rf (by omega) (by omega)) rfl ?_));(first|refine aI ?_|(refine aF ?_;refine aB (vE rf rf gQ gN fin (by omega) (by omega)) rfl ?_));(first|refine aI ?_|(refine aF ?_;refine aB (Lj rf gN fin (by omega)) rfl ?_));refine bZ ?_;refine aG ?_)
                   all_goals
                    refine bC (λ c98=>?_) (λ c98=>?_)
                    · all_goals refine cU ?_
                      all_goals
                       refine aN Tryz.results117 (λ w hw=>?_)
                       refine⟨false,rfl,⟨(λ h=>nomatch h),λ hp=>?_⟩,hw.done⟩
                       have hm:marks cs.length (L.take (y.1+1))=none:=by
                        rw[mJ (by omega),hx.2.1]
                        simp only[eG,hc]
                        refine if_neg λ hh=>?_
                        obtain⟨q1,q2,q3⟩:=hh
                        first|(exfalso;omega)|(exfalso;rw[q3] at c98;cases c98)
                       exact absurd (Gy hm) hp.marks
                    · try exact nv c98
                      all_goals
                       have hmk:eG (some y.2) (L.getD y.1 aU.zero).nd=some (y.2.set (c-1).toNat true):=by
                        simp only[eG,hc]
                        rw[if_pos ⟨by omega,by omega,c98⟩]
                      all_goals (refine aV ?_;refine L8 ?_;refine aB (K1 rf rf (by omega) (by omega)) rfl ?_;refine aB (vE rf rf gQ gN fin (by omega) (by omega)) rfl ?_;refine J5 ?_;refine fG ?_;refine ki ?_;refine Lw ?_)
                      all_goals
                       refine iJ ((y.1+1,(eG (some y.2) (L.getD y.1 aU.zero).nd).getD y.2)) ?_ (hw1:=λ w hw=>by rw[hmk];exact hw.back)
                       · refine⟨by omega,by rw[mJ (by omega),hx.2.1,hmk];rfl,λ i hi=>?_⟩
                         rcases Nat.lt_succ_iff_lt_or_eq.1 hi with h|rfl
                         · exact hx.2.2 i h
                         · exact hok
           · refine bS rfl ?_;refine cU ?_
             refine aN Tryz.results117 (λ w hw=>?_)
             have hy:y.1=L.length:=by omega
             have hmm:marks cs.length L=some y.2:=by have:=hx.2.1;rwa [hy,List.take_length] at this
             exact⟨true,rfl,⟨λ _=>⟨by omega,by omega,by omega,by omega,hcells,λ i hi=>hx.2.2 i (by omega),by rw[hmm];exact λ h=>nomatch h⟩,λ _=>rfl⟩,hw.done⟩
end

end Go.Proofs.YtbajmaoegmbfgaaGreat
