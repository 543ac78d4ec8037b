/- Merged. -/
import Derived.Test.YtbajmaoegmbfgaaGreatGAr4
import Derived.Test.YtbajmaoegmbfgaaGreatGNode2
set_option linter.unusedSimpArgs false
set_option linter.unusedVariables false
namespace Go.Proofs.YtbajmaoegmbfgaaGreat
open Go.RowKit Go.Ct
section
theorem aAm(b:Int)(w:World):Calls Tryz.prog 238 #[.int .u64 b] w λ e w'=>e=.returned (.int .i64 (yD b))/\St w [] [] w':=by
 refine enter Tryz.func238 Tryz.ntmps238 rfl rfl (SF.s0 w) ?_
 simp only[cE]
 refine Kc3 ?_;refine Hn ?_;refine Fl ?_;refine aA ?_;refine Fl ?_;refine E5 ?_;refine Ka4 ?_;refine Hn ?_;refine Fl ?_;refine aA ?_;refine Fl ?_;refine E5 ?_;refine Ka4 ?_;refine Hn ?_;refine aA ?_;refine E5 ?_;refine Fl ?_;refine zM ?_;refine Hn ?_;refine E5 ?_;refine zM ?_;refine Hn ?_;refine E5 ?_;refine zM ?_;refine Hn ?_;refine E5 ?_;refine Ka4 ?_;refine mX ?_;refine Fl ?_;refine J1 ?_
 refine aN Tryz.results238 (λ w hw=>?_)
 exact⟨rfl,hw.done⟩
theorem tc(b:Int)(w:World):Calls Tryz.prog 198 #[.int .u64 b] w λ e w'=>e=.returned (.int .i64 (yD b))/\St w [] [] w':=by
 refine enter Tryz.func198 Tryz.ntmps198 rfl rfl (SF.s0 w) ?_
 simp only[cE]
 refine Kc3 ?_;refine aM (cV (hc:=λ w1 hw=>aAm b w1)) (λ x4=>?_);refine J1 ?_
 refine aN Tryz.results198 (λ w hw=>?_)
 exact⟨rfl,hw.done⟩
theorem Yh{n:Nd}{xs:List Int}{ys:List Pr}{w:World}(hr:rV w n xs ys) :
  Calls Tryz.prog 158 #[n.v] w λ e w'=>∃r:Bool,e=.returned (.bool r)/\(r=true↔cG n xs ys)/\St w [] [] w':=by
 have e1:=hr.brN;have e2:=hr.prN
 refine enter Tryz.func158 Tryz.ntmps158 rfl rfl (SF.s0 w) ?_
 simp only[cE]
 refine J0 ?_;refine bN (λ x1=>?_);refine iW ?_;refine aR ?_;refine eQ [(0,[]),(1,[]),(2,[0]),(3,[]),(4,[])] ?_;refine bX ?_;refine bX ?_;refine dC (i:=2) (hq:=(cV (hc:=λ w1 hw=>aBi n w1))) (h:=λ x5=>?_);refine bG (i:=3) (hq:=(c0 (V:=.bool) (hc:=λ w1 hw=>y8 (hr.fU hw.st) (hr.fU hw.st).own))) (h:=λ x6 h6=>?_);refine cy ?_;refine eO ?_
 refine bE (λ c7=>?_) (λ c7=>?_)
 ·refine cZ ?_
  refine aN Tryz.results158 (λ w hw=>?_)
  refine⟨_,rfl,?_,hw.done⟩
  (simp_all[cG];done)
 ·refine lW ?_;refine gY ?_;refine A8 ?_
  (refine eG 11 (λ g11=>?_) (λ g11=>?_)<;>refine Ka1 ?_)
  all_goals (refine J89 ?_;refine aA ?_)
  all_goals (first|refine aI ?_|(refine eG 16 (λ g16=>?_) (λ g16=>?_)<;>refine Ka1 ?_))
  all_goals (refine J89 ?_;refine aG ?_)
  all_goals
  refine bE (λ c20=>?_) (λ c20=>?_)
  ·all_goals refine cZ ?_
   all_goals
    refine aN Tryz.results158 (λ w hw=>?_)
    refine⟨_,rfl,?_,hw.done⟩
    (simp_all[cG];omega)
  ·try exact nv c20
   all_goals (refine lW ?_;refine gY ?_;refine aG ?_;refine cY ?_;refine Cz ?_;refine Cz ?_;refine Cz ?_;refine Cz ?_;refine cY ?_;refine Cz ?_;refine Cz ?_;refine Cz ?_;refine aR ?_;refine aR ?_;refine lO ?_)
   all_goals
    refine bE (λ c23=>?_) (λ c23=>?_)
    ·refine bR rfl ?_;refine aR ?_;refine cZ ?_
     refine aN Tryz.results158 (λ w hw=>?_)
     refine⟨_,rfl,?_,hw.done⟩
     (simp_all[cG];done)
    ·refine lW ?_;refine lO ?_
     refine bE (λ c25=>?_) (λ c25=>?_)
     ·refine bR rfl ?_;refine D3 ?_;refine oG ?_;refine J1 ?_
      refine aN Tryz.results158 (λ w hw=>?_)
      refine⟨_,rfl,?_,hw.done⟩
      (simp_all[cG];done)
     ·refine lW ?_;refine lO ?_
      refine bE (λ c27=>?_) (λ c27=>?_)
      ·refine bR rfl ?_;refine aR ?_;refine aR ?_;refine eQ [(0,[]),(1,[]),(2,[]),(3,[]),(4,[]),(5,[1]),(6,[]),(7,[]),(8,[]),(9,[]),(10,[]),(11,[]),(12,[])] ?_;refine pG ?_;refine nW ?_;refine pG ?_;refine dC (i:=5) (hq:=(cV (hc:=λ w1 hw=>tc n.bm w1))) (h:=λ x47=>?_);refine oC ?_;refine bC ?_
       (refine wa 49 (λ g49=>?_) (λ g49=>?_)<;>(first|refine gL ?_|(refine aT ?_)))
       all_goals ((first|refine gL ?_|(refine bX ?_));(first|refine gL ?_|(refine bG (i:=10) (hq:=(c0 (V:=.bool) (hc:=λ w1 hw=>by rw[e1];exact R6 (hr.br.fU hw.st) hr.brS))) (h:=λ x52 h52=>?_)));refine mF ?_;refine J7 ?_)
       all_goals
       refine aN Tryz.results158 (λ w hw=>?_)
       refine⟨_,rfl,?_,hw.done⟩
       (simp_all[cG];done)
      ·refine lW ?_;refine lO ?_
       refine bE (λ c29=>?_) (λ c29=>?_)
       ·refine X9 ?_;refine D3 ?_;refine mN ?_;refine Am ?_;refine J1 ?_
        refine aN Tryz.results158 (λ w hw=>?_)
        refine⟨_,rfl,?_,hw.done⟩
        (simp_all[cG];omega)
       ·refine lW ?_;refine lO ?_
        refine bE (λ c31=>?_) (λ c31=>?_)
        ·refine bR rfl ?_;refine D3 ?_;refine mN ?_;refine Am ?_;refine J1 ?_
         refine aN Tryz.results158 (λ w hw=>?_)
         refine⟨_,rfl,?_,hw.done⟩
         (simp_all[cG];omega)
        ·refine lW ?_;refine lO ?_
         refine bE (λ c33=>?_) (λ c33=>?_)
         ·refine bR rfl ?_;refine D3 ?_;refine dX ?_;refine oG ?_;refine aA ?_
          (refine eG 62 (λ g62=>?_) (λ g62=>?_)<;>refine Ka1 ?_)
          all_goals (refine Ka2 ?_;(first|refine aI ?_|(refine aF ?_;refine aC (c0 (V:=.bool) (hc:=λ w1 hw=>by rw[e2];exact Wr (hr.pr.fU hw.st) hr.prS)) (λ x65 h65=>?_)));refine Ka7 ?_)
          all_goals (first|refine aI ?_|(refine eG 67 (λ g67=>?_) (λ g67=>?_)<;>refine Ka1 ?_))
          all_goals (refine Ka2 ?_;(first|refine aI ?_|(refine aF ?_;refine aC (c0 (V:=.bool) (hc:=λ w1 hw=>by rw[e2];exact On (hr.pr.fU hw.st) hr.prS)) (λ x70 h70=>?_)));refine Kb7 ?_)
          all_goals
          refine aN Tryz.results158 (λ w hw=>?_)
          refine⟨_,rfl,?_,hw.done⟩
          first|(simp_all[cG];done)|(simp_all[cG];omega)
         ·refine lW ?_;refine lO ?_
          refine bE (λ c35=>?_) (λ c35=>?_)
          ·refine bR rfl ?_;refine gY ?_;refine A8 ?_
           (refine eG 75 (λ g75=>?_) (λ g75=>?_)<;>refine Ka1 ?_)
           all_goals (refine J89 ?_;refine aG ?_)
           all_goals
           refine bE (λ c79=>?_) (λ c79=>?_)
           ·all_goals refine cZ ?_
            all_goals
             refine aN Tryz.results158 (λ w hw=>?_)
             refine⟨_,rfl,?_,hw.done⟩
             (simp_all[cG];omega)
           ·try exact nv c79
            all_goals (refine pM ?_;refine D3 ?_;refine oG ?_;refine J1 ?_)
            all_goals
             refine aN Tryz.results158 (λ w hw=>?_)
             refine⟨_,rfl,?_,hw.done⟩
             (simp_all[cG];done)
          ·refine aS ?_;refine lO ?_
           refine bE (λ c37=>?_) (λ c37=>?_)
           ·refine bR rfl ?_;refine D3 ?_;refine oG ?_;refine J1 ?_
            refine aN Tryz.results158 (λ w hw=>?_)
            refine⟨_,rfl,?_,hw.done⟩
            (simp_all[cG];done)
           ·refine aS ?_;refine bR rfl ?_;refine cZ ?_
            refine aN Tryz.results158 (λ w hw=>?_)
            refine⟨_,rfl,?_,hw.done⟩
            (simp_all[cG];done)
end
end Go.Proofs.YtbajmaoegmbfgaaGreat
namespace Go.Ct
section
def fV(n:Nd):Option Int:=if n.kind=2 then some n.main else if n.kind=3∨n.kind=5∨n.kind=6 then some n.prev else if n.kind=8 then some n.status else none
def eK(u:Option (List Bool))(n:Nd):Option (List Bool) :=
 match u with
 | none=>none
 | some u=>match fV n with
  | none=>some u
  | some c=>if 1<=c/\c<=u.length/\u.getD (c-1).toNat false=false then some (u.set (c-1).toNat true) else none
def marks(m:Nat)(L:List aU):Option (List Bool):=L.foldl (λ u v=>eK u v.nd) (some (List.replicate m false))
theorem nG{m:Nat}{L:List aU}{k:Nat}(h:k<L.length):marks m (L.take (k+1))=eK (marks m (L.take k)) (L.getD k aU.zero).nd:=by
 rw[marks,List.take_succ_eq_append_getElem h,List.foldl_append,jS,List.getElem?_eq_getElem h]
 rfl
theorem Gr{m:Nat}{L:List aU}{k:Nat}(h:marks m (L.take k)=none):marks m L=none:=by
 have e:L=L.take k++L.drop k:=(List.take_append_drop k L).symm
 rw[e,marks,List.foldl_append]
 rw[marks] at h
 rw[h]
 generalize L.drop k=l
 induction l with
 | nil=>rfl
 | cons v l ih=>exact ih
theorem Ce{m:Nat}:∀{L:List aU} {u:List Bool},marks m L=some u->u.length=m:=by
 intro L
 have key:∀(l:List aU) (u0:Option (List Bool)),(∀u,u0=some u->u.length=m)->∀u,l.foldl (λ u v=>eK u v.nd) u0=some u->u.length=m:=by
  intro l
  induction l with
  | nil=>intro u0 h u hu;exact h u hu
  | cons v l ih =>
   intro u0 h u hu
   refine ih (eK u0 v.nd) (λ u1 h1=>?_) u hu
   cases u0 with
   | none=>simp[eK] at h1
   | some u2 =>
    have:=h u2 rfl
    simp only[eK] at h1
    cases hc:fV v.nd with
    | none=>rw[hc] at h1;simp only[Option.some.injEq] at h1;rw[<- h1];exact this
    | some c =>
     rw[hc] at h1
     simp only at h1
     split at h1
     ·simp only[Option.some.injEq] at h1;rw[<- h1,List.length_set];exact this
     ·cases h1
 intro u hu
 exact key L _ (λ u h=>by simp only[Option.some.injEq] at h;rw[<- h];simp) u hu
def Ds(r:Int)(n:Nat):Prop:=0<=r/\r<=(n:Int)
instance (r:Int) (n:Nat):Decidable (Ds r n):=inferInstanceAs (Decidable (0<=r/\r<=(n:Int)))
theorem zl{r:Int}{n:Nat}(h:0<=r):decide (Ds r n)=decide (r<=(n:Int)):=by
 by_cases h2:r<=(n:Int)
 ·rw[decide_eq_true h2,decide_eq_true ⟨h,h2⟩]
 ·rw[decide_eq_false h2,decide_eq_false λ h3=>h2 h3.2]
def Si(n:Nd)(xs:List Int)(N:Nat):Prop:=(∀i,i<xs.length->Ds (xs.getD i 0) N)/\Ds n.bA N/\Ds n.exp N/\Ds n.new N
def mT(gen:Int)(N:Nat)(v:aU):Prop:=cG v.nd v.xs v.ys/\v.nd.gen<=gen/\Si v.nd v.xs N
structure jA(L:List aU)(cs:List Int)(gen:Int):Prop where
 two:2<=L.length
 gen0:0<=gen
 m0:(L.getD 0 aU.zero).nd.kind=1
 m1:(L.getD 1 aU.zero).nd.kind=1
 cells:∀i,i<cs.length->Ds (cs.getD i 0) L.length
 nodes:∀i,i<L.length->mT gen L.length (L.getD i aU.zero)
 marks:marks cs.length L≠none
end
end Go.Ct
namespace Go.Proofs.YtbajmaoegmbfgaaGreat
open Go.RowKit Go.Ct
section
theorem wI(r:Int)(n:Nat)(w:World):Calls Tryz.prog 157 #[.int .i64 r,.int .i64 ((n:Nat):Int)] w λ e w'=>e=.returned (.bool (decide (Ds r n)))/\St w [] [] w':=by
 refine enter Tryz.func157 Tryz.ntmps157 rfl rfl (SF.s0 w) ?_
 simp only[cE]
 refine Kc3 ?_;refine oG ?_;refine aA ?_
 (refine eG 7 (λ g7=>?_) (λ g7=>?_)<;>refine Ka0 ?_)
 all_goals (refine Ka0 ?_;(first|refine aI ?_|(refine aF ?_;refine Am ?_));refine Kb7 ?_)
 all_goals
 refine aN Tryz.results157 (λ w hw=>?_)
 refine⟨?_,hw.done⟩
 first|(rw[decide_eq_false (show ¬Ds r n from λ h=>by have:=h.1;have:=h.2;omega)];rfl)|(rw[zl (by omega)];rfl)
theorem Mv{n:Nd}{xs:List Int}{N:Nat}{w:World}(e1:n.brN=xs.length)(ha:Cl w n.brA (aH xs))(hx:xs.length<4611686018427387904) :
  Calls Tryz.prog 159 #[n.v,.int .i64 ((N:Nat):Int)] w λ e w'=>∃r:Bool,e=.returned (.bool r)/\(r=true↔Si n xs N)/\St w [] [] w':=by
 refine enter Tryz.func159 Tryz.ntmps159 rfl rfl (SF.s1 ha) ?_
 simp only[cE]
 simp only[Nd.v,Nd.cells,e1]
 refine J0 ?_;refine bN (λ x2=>?_);refine iW ?_;refine gY ?_;refine dX ?_;refine H4 ?_;refine cY ?_
 refine nS [4,6,10,11,12,13,14,15,16,17,18] (λ k=>[(10,.int .i64 ((k:Nat):Int))]) (λ k=>k<=xs.length/\∀i,i<k->Ds (xs.getD i 0) N) (λ k=>_) (λ _=>_) (λ _=>_) (λ k=>xs.length-k) (0) (⟨Nat.zero_le _,λ i hi=>absurd hi (Nat.not_lt_zero i)⟩) (λ k f hx=>?_)
 dsimp only[iB,List.map,List.cons_append,List.nil_append]
 refine J0 ?_;refine Bq ?_;refine aR ?_
 refine bE (λ c11=>?_) (λ c11=>?_)
 ·refine sA ?_;refine J0 ?_;refine Qw ?_;refine zM ?_;refine aM (cV (hc:=λ w1 hw=>wI _ N w1)) (λ x16=>?_);refine pN ?_
  refine bE (λ c17=>?_) (λ c17=>?_)
  ·refine cZ ?_
   refine aN Tryz.results159 (λ w hw=>?_)
   exact⟨false,rfl,⟨(λ h=>nomatch h),λ h=>absurd (h.1 k (by omega)) (by assumption)⟩,hw.done⟩
  ·refine pM ?_;refine Yx ?_;refine H4 ?_
   refine gU (k+1) ?_
   ·exact⟨by omega,λ i hi=>by rcases Nat.lt_succ_iff_lt_or_eq.1 hi with h|rfl;exact hx.2 i h;assumption⟩
 ·refine bR rfl ?_;refine Kc5 ?_;refine aM (cV (hc:=λ w1 hw=>wI _ N w1)) (λ x22=>?_);refine aA ?_
  (refine eG 23 (λ g23=>?_) (λ g23=>?_)<;>refine Ka1 ?_)
  all_goals (refine aw ?_;(first|refine aI ?_|(refine aF ?_;refine aM (cV (hc:=λ w1 hw=>wI _ N w1)) (λ x27=>?_)));refine Ka7 ?_)
  all_goals (first|refine aI ?_|(refine eG 29 (λ g29=>?_) (λ g29=>?_)<;>refine Ka1 ?_))
  all_goals (refine aw ?_;(first|refine aI ?_|(refine aF ?_;refine aM (cV (hc:=λ w1 hw=>wI _ N w1)) (λ x33=>?_)));refine Kb7 ?_)
  all_goals
  refine aN Tryz.results159 (λ w hw=>?_)
  have hall:∀i,i<xs.length->Ds (xs.getD i 0) N:=λ i hi=>hx.2 i (by omega)
  first|exact⟨_,rfl,by simp_all[Si],hw.done⟩
theorem Zs(n:Nd)(w:World):Calls Tryz.prog 160 #[n.v] w λ e w'=>e=.returned (.tuple #[.int .i64 ((fV n).getD 0),.bool (fV n).isSome])/\St w [] [] w':=by
 refine enter Tryz.func160 Tryz.ntmps160 rfl rfl (SF.s0 w) ?_
 simp only[cE]
 simp only[Nd.v,Nd.cells]
 refine J0 ?_;refine bN (λ x1=>?_);refine J8 ?_;refine Cz ?_;refine gY ?_;refine Qq ?_
 refine bE (λ c4=>?_) (λ c4=>?_)
 ·refine gY ?_;refine J8 ?_
  refine bB Tryz.results160 (λ w hw=>?_)
  refine⟨?_,hw.done⟩
  (rw[show fV n=some n.main by simp[fV,c4]];rfl)
 ·refine oX ?_;refine aC (c0 (V:=.bool) (hc:=λ w1 hw=>Ro n w1)) (λ x12 h12=>?_);refine J1 ?_
  refine bE (λ c10=>?_) (λ c10=>?_)
  ·have k22:n.kind=3∨n.kind=5∨n.kind=6:=h12.1 c10
   refine gY ?_;refine J8 ?_
   refine bB Tryz.results160 (λ w hw=>?_)
   refine⟨?_,hw.done⟩
   (rw[show fV n=some n.prev by simp only[fV];rw[if_neg c4,if_pos k22]];rfl)
  ·have k22:¬(n.kind=3∨n.kind=5∨n.kind=6):=λ k=>by rw[h12.2 k] at c10;cases c10
   refine gY ?_;refine Qq ?_
   refine bE (λ c15=>?_) (λ c15=>?_)
   ·refine gY ?_;refine J8 ?_
    refine bB Tryz.results160 (λ w hw=>?_)
    refine⟨?_,hw.done⟩
    (rw[show fV n=some n.status by simp only[fV];rw[if_neg c4,if_neg k22,if_pos c15]];rfl)
   ·refine pM ?_;refine Qh ?_
    refine bB Tryz.results160 (λ w hw=>?_)
    refine⟨?_,hw.done⟩
    (rw[show fV n=none by simp only[fV];rw[if_neg c4,if_neg k22,if_neg c15]];rfl)
end
section
set_option maxRecDepth 100000 in
theorem Qj{L:List aU}{cs:List Int}{gen:Int}{pn pc:Option Addr}{cn cc:Nat}{w:World}(h:rX w L cs pn pc)(hL:L.length<=274877906944)(hC:cs.length<=274877906944) :
    Calls Tryz.prog 117 #[.agg ⟨[.slice pn L.length cn,.slice pc cs.length cc,.int .i64 gen]⟩] w λ e w'=>∃r:Bool,e=.returned (.bool r)/\(r=true↔jA L cs gen)/\St w [] [] w':=by
  refine enter Tryz.func117 Tryz.ntmps117 rfl rfl h.start ?_
  simp only[cE]
  refine J0 ?_;refine bN (λ x1=>?_);refine iW ?_;refine gY ?_;refine dX ?_;refine A8 ?_
  (refine eG 14 (λ g14=>?_) (λ g14=>?_)<;>refine Ka1 ?_)
  all_goals (refine J89 ?_;refine aG ?_)
  all_goals
   refine bE (λ c18=>?_) (λ c18=>?_)
   · all_goals refine cZ ?_
     all_goals
      refine aN Tryz.results117 (λ w hw=>?_)
      exact⟨false,rfl,⟨(λ h=>nomatch h),λ hp=>by have h1:=hp.two;have h2:=hp.gen0;exfalso;omega⟩,hw.done⟩
   · try exact nv c18
     all_goals (refine lW ?_;refine gY ?_;refine aB (sQ (k:=0) rf rf gO eE fin (by omega) (by omega)) rfl ?_;refine aE ?_;refine aB (vZ (q:=0) rf gA fin (by omega)) rfl ?_;refine mA ?_;refine aA ?_)
     all_goals ((refine eG 25 (λ g25=>?_) (λ g25=>?_)<;>refine Ka1 ?_))
     all_goals (refine Ka2 ?_;(first|refine aI ?_|(refine aF ?_;refine aB (sQ (k:=1) rf rf gO eE fin (by omega) (by omega)) rfl ?_));refine Ka1 ?_;(first|refine aI ?_|(refine aF ?_;refine aB (vZ (q:=1) rf gA fin (by omega)) rfl ?_));refine Tl ?_;refine aG ?_)
     all_goals
      refine bE (λ c32=>?_) (λ c32=>?_)
      · all_goals refine cZ ?_
        all_goals
         refine aN Tryz.results117 (λ w hw=>?_)
         exact⟨false,rfl,⟨(λ h=>nomatch h),λ hp=>by have h1:=hp.m0;have h2:=hp.m1;exfalso;omega⟩,hw.done⟩
      · try exact nv c32
        all_goals (refine lW ?_;refine gY ?_;refine dX ?_;refine H4 ?_;refine cY ?_)
        all_goals
         refine gV [2,4,36,37,38,39,40,41,42,43,44,45,46] (λ k=>[(36,.int .i64 ((k:Nat):Int))]) (λ k=>k<=cs.length/\∀i,i<k->Ds (cs.getD i 0) L.length) (λ k=>cs.length-k) (0) (⟨Nat.zero_le _,λ i hi=>absurd hi (Nat.not_lt_zero i)⟩) ?_ (λ k f hx=>?_)
         · repeat (first|exact bQ _|refine bJ (by exact rfl) ?_)
         dsimp only[iB,List.map,List.cons_append,List.nil_append]
         refine J0 ?_;refine Bq ?_;refine aR ?_
         refine bE (λ c37=>?_) (λ c37=>?_)
         · refine sA ?_;refine J0 ?_;refine Qw ?_;refine Ka4 ?_;refine R4 ?_;refine aM (cV (hc:=λ w1 hw=>wI _ _ w1)) (λ x44=>?_);refine pN ?_
           refine bE (λ c45=>?_) (λ c45=>?_)
           · refine cZ ?_
             refine aN Tryz.results117 (λ w hw=>?_)
             exact⟨false,rfl,⟨(λ h=>nomatch h),λ hp=>absurd (hp.cells k (by omega)) (by assumption)⟩,hw.done⟩
           · refine pM ?_;refine Yx ?_;refine H4 ?_
             refine fE (k+1) ?_ ?_ ?_
             · omega
             · repeat' (first|exact bQ _|refine bJ ?_ ?_)
               exact rfl
             · exact⟨by omega,λ i hi=>by rcases Nat.lt_succ_iff_lt_or_eq.1 hi with h|rfl;exact hx.2 i h;assumption⟩
         · refine bR rfl ?_;refine gY ?_;refine dX ?_;refine wR (λ x50=>?_);refine iW ?_;refine gY ?_;refine dX ?_;refine H4 ?_;refine cY ?_
           have hcells:∀i,i<cs.length->Ds (cs.getD i 0) L.length:=λ i hi=>hx.2 i (by omega)
           clear hx
           refine nS [2,7,8,9,54,55,56,57,58,59,60,61,62,63,64,65,66,67,68,69,70,71,72,73,74,75,76,77,78,79,80,81,82,83,84,85,86,87,88,89,90,91,92,93,94,95,96,97,98,99,100,101,102,103] (λ y:Nat×List Bool=>[(54,.int .i64 ((y.1:Nat):Int))]) (λ y=>y.1<=L.length/\marks cs.length (L.take y.1)=some y.2/\∀i,i<y.1->mT gen L.length (L.getD i aU.zero)) (λ _=>_) (λ _=>_) (λ y=>[⟨some ⟨x50,0,none⟩,gG y.2,cs.length,4,1⟩]) (λ y=>L.length-y.1) ((0,List.replicate cs.length false)) (⟨Nat.zero_le _,rfl,λ i hi=>absurd hi (Nat.not_lt_zero i)⟩) (λ y f hx=>?_)
           dsimp only[iB,List.map,List.cons_append,List.nil_append]
           have hu:=Ce hx.2.1
           refine J0 ?_;refine Bq ?_;refine aR ?_
           refine bE (λ c55=>?_) (λ c55=>?_)
           · refine sA ?_;refine J0 ?_;refine Qw ?_;refine aJ (λ x7=>?_);refine J5 ?_;refine aR ?_;refine oX ?_;refine aC (c0 (V:=.bool) (hc:=λ w1 hw=>Yh (hw.Pp h.fit (by omega)))) (λ x59 h59=>?_);refine Fy ?_
             (refine eG 61 (λ g61=>?_) (λ g61=>?_)<;>refine Ka1 ?_)
             all_goals (refine Bg ?_;refine Cf ?_;refine aA ?_)
             all_goals (first|refine aI ?_|(refine eG 68 (λ g68=>?_) (λ g68=>?_)<;>refine Ka2 ?_))
             all_goals (refine Rw ?_;(first|refine aI ?_|(refine aF ?_;refine aC (c0 (V:=.bool) (hc:=λ w1 hw=>Mv (hw.Pp h.fit (by omega)).brN (hw.Pp h.fit (by omega)).br (hw.Pp h.fit (by omega)).brS)) (λ x73 h73=>?_)));refine Kb9 ?_)
             all_goals
              refine bE (λ c75=>?_) (λ c75=>?_)
              · all_goals refine cZ ?_
                all_goals
                 refine aN Tryz.results117 (λ w hw=>?_)
                 refine⟨false,rfl,⟨(λ h=>nomatch h),λ hp=>?_⟩,hw.done⟩
                 obtain⟨q1,q2,q3⟩:=hp.nodes y.1 (by omega)
                 first|(exfalso;omega)|(have:=h59.2 q1;simp_all;done) 
              · try exact nv c75
                all_goals
                 have hok:mT gen L.length (L.getD y.1 aU.zero):=⟨h59.1 (by simp_all),by omega,h73.1 (by simp_all)⟩
                all_goals (refine aS ?_;refine oX ?_;refine aM (cV (hc:=λ w1 hw=>Zs (L.getD y.1 aU.zero).nd w1)) (λ x78=>?_);refine Kd2 ?_;refine pN ?_)
                all_goals
                 refine bE (λ c82=>?_) (λ c82=>?_)
                 · have hmk:eK (some y.2) (L.getD y.1 aU.zero).nd=some y.2:=by
                    have e:fV (L.getD y.1 aU.zero).nd=none:=by cases hq:fV (L.getD y.1 aU.zero).nd<;>simp_all
                    simp only[eK,e]
                   refine bR rfl ?_;refine Yx ?_;refine H4 ?_
                   refine gU ((y.1+1,(eK (some y.2) (L.getD y.1 aU.zero).nd).getD y.2)) ?_ (hw1:=λ w hw=>by rw[hmk];exact hw.back)
                   · refine⟨by omega,by rw[nG (by omega),hx.2.1,hmk];rfl,λ i hi=>?_⟩
                     rcases Nat.lt_succ_iff_lt_or_eq.1 hi with h|rfl
                     · exact hx.2.2 i h
                     · exact hok
                 · obtain⟨c,hc⟩:∃c,fV (L.getD y.1 aU.zero).nd=some c:=Option.isSome_iff_exists.1 c82
                   rw[hc,Option.getD_some]
                   refine lW ?_;refine J2 ?_;refine A8 ?_
                   (refine eG 85 (λ g85=>?_) (λ g85=>?_)<;>refine Ka0 ?_)
                   all_goals (refine Rw ?_;refine Cf ?_;refine aA ?_)
                   all_goals (first|refine aI ?_|(refine eG 92 (λ g92=>?_) (λ g92=>?_)<;>refine Ka0 ?_))
                   all_goals (refine Ka0 ?_;(first|refine aI ?_|(refine aF ?_;refine aB (Lc rf rf (by omega) (by omega)) rfl ?_));(first|refine aI ?_|(refine aF ?_;refine aB (wX rf rf gO gA fin (by omega) (by omega)) rfl ?_));(first|refine aI ?_|(refine aF ?_;refine aB (K7 rf gA fin (by omega)) rfl ?_));refine cA ?_;refine aG ?_)
                   all_goals
                    refine bE (λ c98=>?_) (λ c98=>?_)
                    · all_goals refine cZ ?_
                      all_goals
                       refine aN Tryz.results117 (λ w hw=>?_)
                       refine⟨false,rfl,⟨(λ h=>nomatch h),λ hp=>?_⟩,hw.done⟩
                       have hm:marks cs.length (L.take (y.1+1))=none:=by
                        rw[nG (by omega),hx.2.1]
                        simp only[eK,hc]
                        refine if_neg λ hh=>?_
                        obtain⟨q1,q2,q3⟩:=hh
                        first|(exfalso;omega)|(exfalso;rw[q3] at c98;cases c98)
                       exact absurd (Gr hm) hp.marks
                    · try exact nv c98
                      all_goals
                       have hmk:eK (some y.2) (L.getD y.1 aU.zero).nd=some (y.2.set (c-1).toNat true):=by
                        simp only[eK,hc]
                        rw[if_pos ⟨by omega,by omega,c98⟩]
                      all_goals (refine aS ?_;refine Jv ?_;refine aB (Lc rf rf (by omega) (by omega)) rfl ?_;refine aB (wX rf rf gO gA fin (by omega) (by omega)) rfl ?_;refine J5 ?_;refine eL ?_;refine Yx ?_;refine H4 ?_)
                      all_goals
                       refine gU ((y.1+1,(eK (some y.2) (L.getD y.1 aU.zero).nd).getD y.2)) ?_ (hw1:=λ w hw=>by rw[hmk];exact hw.back)
                       · refine⟨by omega,by rw[nG (by omega),hx.2.1,hmk];rfl,λ i hi=>?_⟩
                         rcases Nat.lt_succ_iff_lt_or_eq.1 hi with h|rfl
                         · exact hx.2.2 i h
                         · exact hok
           · refine bR rfl ?_;refine cZ ?_
             refine aN Tryz.results117 (λ w hw=>?_)
             have hy:y.1=L.length:=by omega
             have hmm:marks cs.length L=some y.2:=by have:=hx.2.1;rwa [hy,List.take_length] at this
             exact⟨true,rfl,⟨λ _=>⟨by omega,by omega,by omega,by omega,hcells,λ i hi=>hx.2.2 i (by omega),by rw[hmm];exact λ h=>nomatch h⟩,λ _=>rfl⟩,hw.done⟩
end
end Go.Proofs.YtbajmaoegmbfgaaGreat
