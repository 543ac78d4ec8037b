/- Nodes of the program's arena are read; lists are cloned; the state is read. -/
import Derived.Test.YtadnboagdhcedaaGreatDoorGNode2
import Derived.Test.YtadnboagdhcedaaGreatDoorGMem
import Derived.Test.YtadnboagdhcedaaGreatDoorAuto

set_option linter.unusedSimpArgs false
set_option linter.unusedVariables false
namespace Go.Ct
section
theorem Cl.Vz{w:Go.World}{cs:List Go.Value}(h:Cl w none cs):cs=[]:=by
 cases cs with
 | nil=>rfl
 | cons v r=>exact absurd (h.ptr (by simp)) (by simp)
theorem Vm{l:List Int}(h:aG l=[]):l=[]:=by simpa[aG] using h
end
end Go.Ct
namespace Go.Proofs.YtadnboagdhcedaaGreatDoor
section
open Go.RowKit Go.Ct
variable{w:World}{D:List Nat}{b:Nat}{L:List aL}{cs:List Int}{gen acc:Int}{pn pc:Option Addr}{cn cc:Nat}{A:Fr}
theorem O0{l:List Int}{a:Option Addr}{c:Nat}{w:World}(ha:Cl w a (aG l))(hl:l.length<=274877906944):Calls Tryz.prog 97 #[.slice a l.length c] w λ e w' =>
  ∃x:Option Addr×Nat,e=.returned (.slice x.1 l.length x.2)/\True/\SF w [] [] [] [] [⟨x.1,aG l,x.2,62,1⟩] w':=by
 refine enter Tryz.func97 Tryz.ntmps97 rfl rfl (SF.s1 ha) ?_
 simp only[cO]
 refine Ka7 ?_;refine sX ?_
 refine aZ (λ c4=>?_) (λ c4=>?_)
 ·have e0:a=none:=by cases a with|none=>rfl|some _=>cases c4
  subst e0
  obtain rfl:=Vm ha.Vz
  refine cQ ?_
  refine aQ Tryz.results97 (λ w hw=>?_)
  exact⟨(none,0),rfl,trivial,(hw.kE 62 1).aS⟩
 ·refine bA ?_;refine J0 ?_;refine gO (λ x5=>?_);refine aB ?_;(refine eL (λ x7=>?_);try (refine fB (λ h7=>?_)));refine J1 ?_
  refine aQ Tryz.results97 (λ w hw=>?_)
  exact⟨x7,by simp only[Nat.zero_add];rfl,trivial,by simpa using hw.aS (F':=[]) (H':=[])⟩
end

/- The arena's state is read. -/
section
open Go.RowKit Go.Ct
variable{w:World}{D:List Nat}{b:Nat}{L:List aL}{cs:List Int}{gen acc:Int}{pn pc:Option Addr}{cn cc:Nat}{A:Fr}
end

/- Lists and the smallest functions of nodes. -/
section
open Go.RowKit Go.Ct
theorem z5(n:Nd)(w:World):Calls Tryz.prog 158 #[n.v] w λ e w'=>e=.returned n.own.v/\St w [] [] w':=by
 refine enter Tryz.func158 Tryz.ntmps158 rfl rfl (SF.s0 w) ?_
 simp only[cO]
 refine J0 ?_;refine bQ (λ x1=>?_);refine aN (λ x2=>?_);refine aI ?_;refine gU ?_;refine bG ?_;refine aN (λ x3=>?_);refine J5 ?_;refine Az ?_;refine Kc4 ?_;refine D8 ?_;refine D8 ?_;refine D8 ?_;refine D8 ?_;refine D8 ?_;refine D8 ?_;refine D8 ?_;refine aR ?_;refine aR ?_;refine jE ?_
 refine aZ (λ c9=>?_) (λ c9=>?_)
 ·refine bF rfl ?_;refine aR ?_;refine eG [(0,[]),(1,[]),(2,[]),(3,[]),(4,[]),(5,[3]),(6,[]),(7,[])] ?_;refine mF ?_;refine mF ?_;refine aP ?_;refine Pp ?_;refine zO ?_;refine bF rfl ?_;refine Ka9 ?_
  refine bK Tryz.results158 (λ w hw=>?_)
  exact⟨by simp only[Nd.own,beq_iff_eq, *,if_true,if_false];rfl,hw.done⟩
 ·refine jM ?_;refine jE ?_
  refine aZ (λ c11=>?_) (λ c11=>?_)
  ·refine bF rfl ?_;refine aR ?_;refine eG [(0,[]),(1,[]),(2,[]),(3,[]),(4,[]),(5,[]),(6,[]),(7,[3,5]),(8,[]),(9,[5]),(10,[]),(11,[])] ?_;refine mF ?_;refine mF ?_;refine mF ?_;refine aP ?_;refine Pp ?_;refine Pp ?_;refine zO ?_;refine bF rfl ?_;refine Ka9 ?_
   refine bK Tryz.results158 (λ w hw=>?_)
   exact⟨by simp only[Nd.own,beq_iff_eq, *,if_true,if_false];rfl,hw.done⟩
  ·refine jM ?_;refine jE ?_
   refine aZ (λ c13=>?_) (λ c13=>?_)
   ·refine bF rfl ?_;refine dL ?_;refine J3 ?_;refine xK ?_;refine eX ?_;refine aR ?_;refine eG [(0,[]),(1,[]),(2,[]),(3,[]),(4,[]),(5,[]),(6,[]),(7,[3,5]),(8,[]),(9,[5]),(10,[]),(11,[])] ?_;refine mF ?_;refine mF ?_;refine mF ?_;refine aP ?_;refine Pp ?_;refine Pp ?_;refine zO ?_;refine bF rfl ?_;refine Ka9 ?_
    refine bK Tryz.results158 (λ w hw=>?_)
    exact⟨by simp only[Nd.own,beq_iff_eq, *,if_true,if_false];rfl,hw.done⟩
   ·refine jM ?_;refine jE ?_
    refine aZ (λ c15=>?_) (λ c15=>?_)
    ·refine bF rfl ?_;refine aR ?_;refine eG [(0,[]),(1,[]),(2,[]),(3,[]),(4,[]),(5,[]),(6,[]),(7,[3,5]),(8,[]),(9,[5]),(10,[]),(11,[])] ?_;refine mF ?_;refine mF ?_;refine mF ?_;refine aP ?_;refine Pp ?_;refine Pp ?_;refine zO ?_;refine bF rfl ?_;refine Ka9 ?_
     refine bK Tryz.results158 (λ w hw=>?_)
     exact⟨by simp only[Nd.own,beq_iff_eq, *,if_true,if_false];rfl,hw.done⟩
    ·refine jM ?_;refine jE ?_
     refine aZ (λ c17=>?_) (λ c17=>?_)
     ·refine bF rfl ?_;refine aR ?_;refine eG [(0,[]),(1,[]),(2,[]),(3,[]),(4,[]),(5,[]),(6,[]),(7,[3,5]),(8,[]),(9,[5]),(10,[]),(11,[])] ?_;refine mF ?_;refine mF ?_;refine mF ?_;refine aP ?_;refine Pp ?_;refine Pp ?_;refine zO ?_;refine bF rfl ?_;refine Ka9 ?_
      refine bK Tryz.results158 (λ w hw=>?_)
      exact⟨by simp only[Nd.own,beq_iff_eq, *,if_true,if_false];rfl,hw.done⟩
     ·refine jM ?_;refine jE ?_
      refine aZ (λ c19=>?_) (λ c19=>?_)
      ·refine bF rfl ?_;refine eG [(0,[]),(1,[]),(2,[]),(3,[]),(4,[]),(5,[]),(6,[]),(7,[3,5]),(8,[]),(9,[5]),(10,[]),(11,[])] ?_;refine mF ?_;refine mF ?_;refine mF ?_;refine aP ?_;refine Pp ?_;refine Pp ?_;refine zO ?_;refine eX ?_;refine gU ?_;refine xK ?_;refine bF rfl ?_;refine Ka9 ?_
       refine bK Tryz.results158 (λ w hw=>?_)
       exact⟨by simp only[Nd.own,beq_iff_eq, *,if_true,if_false];rfl,hw.done⟩
      ·refine bA ?_;refine jE ?_
       refine aZ (λ c21=>?_) (λ c21=>?_)
       ·refine bF rfl ?_;refine gU ?_;refine xK ?_;refine bF rfl ?_;refine Ka9 ?_
        refine bK Tryz.results158 (λ w hw=>?_)
        exact⟨by simp only[Nd.own,beq_iff_eq, *,if_true,if_false];rfl,hw.done⟩
       ·refine bA ?_;refine bF rfl ?_;refine Ka9 ?_
        refine bK Tryz.results158 (λ w hw=>?_)
        exact⟨by simp only[Nd.own,beq_iff_eq, *,if_true,if_false];rfl,hw.done⟩
end

/- node.Valid. -/
section
open Go.RowKit Go.Ct
theorem ti(b:Int)(w:World):Calls Tryz.prog 100 #[.int .u64 b] w λ e w'=>e=.returned (.int .i64 (wD b))/\St w [] [] w':=by
 refine enter Tryz.func100 Tryz.ntmps100 rfl rfl (SF.s0 w) ?_
 simp only[cO]
 refine cQ ?_;refine J2 ?_;refine Bx ?_;refine zC ?_;refine aB ?_;refine zC ?_;refine C6 ?_;refine Ka4 ?_;refine Bx ?_;refine zC ?_;refine aB ?_;refine zC ?_;refine C6 ?_;refine Ka4 ?_;refine Bx ?_;refine aB ?_;refine C6 ?_;refine zC ?_;refine sZ ?_;refine Bx ?_;refine C6 ?_;refine sZ ?_;refine Bx ?_;refine C6 ?_;refine sZ ?_;refine Bx ?_;refine C6 ?_;refine Ka4 ?_;refine iE ?_;refine zC ?_;refine J1 ?_
 refine aQ Tryz.results100 (λ w hw=>?_)
 exact⟨rfl,hw.done⟩
theorem Si(b:Int)(w:World):Calls Tryz.prog 73 #[.int .u64 b] w λ e w'=>e=.returned (.int .i64 (wD b))/\St w [] [] w':=by
 refine enter Tryz.func73 Tryz.ntmps73 rfl rfl (SF.s0 w) ?_
 simp only[cO]
 refine cQ ?_;refine J2 ?_;refine aT (cV (hc:=λ w1 hw=>ti b w1)) (λ x4=>?_);refine J1 ?_
 refine aQ Tryz.results73 (λ w hw=>?_)
 exact⟨rfl,hw.done⟩
theorem U9{n:Nd}{xs:List Int}{ys:List Pr}{w:World}(hr:qQ w n xs ys) :
  Calls Tryz.prog 131 #[n.v] w λ e w'=>∃r:Bool,e=.returned (.bool r)/\(r=true↔bY n xs ys)/\St w [] [] w':=by
 have e1:=hr.brN;have e2:=hr.prN
 refine enter Tryz.func131 Tryz.ntmps131 rfl rfl (SF.s0 w) ?_
 simp only[cO]
 refine J0 ?_;refine bQ (λ x1=>?_);refine gQ ?_;refine aR ?_;refine eG [(0,[]),(1,[]),(2,[0]),(3,[]),(4,[])] ?_;refine bO ?_;refine bO ?_;refine cY (i:=2) (hq:=(cV (hc:=λ w1 hw=>z5 n w1))) (h:=λ x5=>?_);refine bC (i:=3) (hq:=(c0 (V:=.bool) (hc:=λ w1 hw=>s6 (hr.fE hw.st) (hr.fE hw.st).own))) (h:=λ x6 h6=>?_);refine L3 ?_;refine dS ?_
 refine aZ (λ c7=>?_) (λ c7=>?_)
 ·refine cQ ?_
  refine aQ Tryz.results131 (λ w hw=>?_)
  refine⟨_,rfl,?_,hw.done⟩
  (simp_all[bY];done)
 ·refine jM ?_;refine gU ?_;refine Fu ?_
  (refine eF 11 (λ g11=>?_) (λ g11=>?_)<;>refine Ka1 ?_)
  all_goals (refine vp ?_;refine aB ?_)
  all_goals (first|refine aH ?_|(refine eF 16 (λ g16=>?_) (λ g16=>?_)<;>refine Ka1 ?_))
  all_goals (refine vp ?_;refine aI ?_)
  all_goals
  refine aZ (λ c20=>?_) (λ c20=>?_)
  ·all_goals refine cQ ?_
   all_goals
    refine aQ Tryz.results131 (λ w hw=>?_)
    refine⟨_,rfl,?_,hw.done⟩
    (simp_all[bY];omega)
  ·try exact nv c20
   all_goals (refine jM ?_;refine gU ?_;refine Kc4 ?_;refine D8 ?_;refine D8 ?_;refine D8 ?_;refine D8 ?_;refine bW ?_;refine D8 ?_;refine D8 ?_;refine D8 ?_;refine aR ?_;refine aR ?_;refine jE ?_)
   all_goals
    refine aZ (λ c23=>?_) (λ c23=>?_)
    ·refine bF rfl ?_;refine aR ?_;refine cQ ?_
     refine aQ Tryz.results131 (λ w hw=>?_)
     refine⟨_,rfl,?_,hw.done⟩
     (simp_all[bY];done)
    ·refine jM ?_;refine jE ?_
     refine aZ (λ c25=>?_) (λ c25=>?_)
     ·refine bF rfl ?_;refine Az ?_;refine mM ?_;refine J1 ?_
      refine aQ Tryz.results131 (λ w hw=>?_)
      refine⟨_,rfl,?_,hw.done⟩
      (simp_all[bY];done)
     ·refine jM ?_;refine jE ?_
      refine aZ (λ c27=>?_) (λ c27=>?_)
      ·refine bF rfl ?_;refine aR ?_;refine aR ?_;refine eG [(0,[]),(1,[]),(2,[]),(3,[]),(4,[]),(5,[1]),(6,[]),(7,[]),(8,[]),(9,[]),(10,[]),(11,[]),(12,[])] ?_;refine mF ?_;refine lN ?_;refine mF ?_;refine cY (i:=5) (hq:=(cV (hc:=λ w1 hw=>Si n.bm w1))) (h:=λ x47=>?_);refine mZ ?_;refine aU ?_
       (refine ko 49 (λ g49=>?_) (λ g49=>?_)<;>(first|refine fT ?_|(refine aP ?_)))
       all_goals ((first|refine fT ?_|(refine bO ?_));(first|refine fT ?_|(refine bC (i:=10) (hq:=(c0 (V:=.bool) (hc:=λ w1 hw=>by rw[e1];exact N5 (hr.br.fE hw.st) hr.brS))) (h:=λ x52 h52=>?_)));refine iW ?_;refine J7 ?_)
       all_goals
       refine aQ Tryz.results131 (λ w hw=>?_)
       refine⟨_,rfl,?_,hw.done⟩
       (simp_all[bY];done)
      ·refine jM ?_;refine jE ?_
       refine aZ (λ c29=>?_) (λ c29=>?_)
       ·refine Uc ?_;refine Az ?_;refine jR ?_;refine A9 ?_;refine J1 ?_
        refine aQ Tryz.results131 (λ w hw=>?_)
        refine⟨_,rfl,?_,hw.done⟩
        (simp_all[bY];omega)
       ·refine jM ?_;refine jE ?_
        refine aZ (λ c31=>?_) (λ c31=>?_)
        ·refine bF rfl ?_;refine Az ?_;refine jR ?_;refine A9 ?_;refine J1 ?_
         refine aQ Tryz.results131 (λ w hw=>?_)
         refine⟨_,rfl,?_,hw.done⟩
         (simp_all[bY];omega)
        ·refine jM ?_;refine jE ?_
         refine aZ (λ c33=>?_) (λ c33=>?_)
         ·refine bF rfl ?_;refine Az ?_;refine dE ?_;refine mM ?_;refine aB ?_
          (refine eF 62 (λ g62=>?_) (λ g62=>?_)<;>refine Ka1 ?_)
          all_goals (refine Ka2 ?_;(first|refine aH ?_|(refine aF ?_;refine aC (c0 (V:=.bool) (hc:=λ w1 hw=>by rw[e2];exact Ub (hr.pr.fE hw.st) hr.prS)) (λ x65 h65=>?_)));refine Kc2 ?_)
          all_goals (first|refine aH ?_|(refine eF 67 (λ g67=>?_) (λ g67=>?_)<;>refine Ka1 ?_))
          all_goals (refine Ka2 ?_;(first|refine aH ?_|(refine aF ?_;refine aC (c0 (V:=.bool) (hc:=λ w1 hw=>by rw[e2];exact M8 (hr.pr.fE hw.st) hr.prS)) (λ x70 h70=>?_)));refine Kc9 ?_)
          all_goals
          refine aQ Tryz.results131 (λ w hw=>?_)
          refine⟨_,rfl,?_,hw.done⟩
          first|(simp_all[bY];done)|(simp_all[bY];omega)
         ·refine jM ?_;refine jE ?_
          refine aZ (λ c35=>?_) (λ c35=>?_)
          ·refine bF rfl ?_;refine gU ?_;refine Fu ?_
           (refine eF 75 (λ g75=>?_) (λ g75=>?_)<;>refine Ka1 ?_)
           all_goals (refine vp ?_;refine aI ?_)
           all_goals
           refine aZ (λ c79=>?_) (λ c79=>?_)
           ·all_goals refine cQ ?_
            all_goals
             refine aQ Tryz.results131 (λ w hw=>?_)
             refine⟨_,rfl,?_,hw.done⟩
             (simp_all[bY];omega)
           ·try exact nv c79
            all_goals (refine lG ?_;refine Az ?_;refine mM ?_;refine J1 ?_)
            all_goals
             refine aQ Tryz.results131 (λ w hw=>?_)
             refine⟨_,rfl,?_,hw.done⟩
             (simp_all[bY];done)
          ·refine bA ?_;refine jE ?_
           refine aZ (λ c37=>?_) (λ c37=>?_)
           ·refine bF rfl ?_;refine Az ?_;refine mM ?_;refine J1 ?_
            refine aQ Tryz.results131 (λ w hw=>?_)
            refine⟨_,rfl,?_,hw.done⟩
            (simp_all[bY];done)
           ·refine bA ?_;refine bF rfl ?_;refine cQ ?_
            refine aQ Tryz.results131 (λ w hw=>?_)
            refine⟨_,rfl,?_,hw.done⟩
            (simp_all[bY];done)
end

/- Proper states: the program's check. -/
end Go.Proofs.YtadnboagdhcedaaGreatDoor
namespace Go.Ct
section
def gM(n:Nd):Option Int:=if n.kind=2 then some n.main else if n.kind=3∨n.kind=5∨n.kind=6 then some n.prev else if n.kind=8 then some n.status else none
def eQ(u:Option (List Bool))(n:Nd):Option (List Bool) :=
 match u with
 | none=>none
 | some u=>match gM n with
  | none=>some u
  | some c=>if 1<=c/\c<=u.length/\u.getD (c-1).toNat false=false then some (u.set (c-1).toNat true) else none
def marks(m:Nat)(L:List aL):Option (List Bool):=L.foldl (λ u v=>eQ u v.nd) (some (List.replicate m false))
theorem rH{m:Nat}{L:List aL}{k:Nat}(h:k<L.length):marks m (L.take (k+1))=eQ (marks m (L.take k)) (L.getD k aL.zero).nd:=by
 rw[marks,List.take_succ_eq_append_getElem h,List.foldl_append,fI,List.getElem?_eq_getElem h]
 rfl
theorem Em{m:Nat}{L:List aL}{k:Nat}(h:marks m (L.take k)=none):marks m L=none:=by
 have e:L=L.take k++L.drop k:=(List.take_append_drop k L).symm
 rw[e,marks,List.foldl_append]
 rw[marks] at h
 rw[h]
 generalize L.drop k=l
 induction l with
 | nil=>rfl
 | cons v l ih=>exact ih
theorem Aj{m:Nat}:∀{L:List aL} {u:List Bool},marks m L=some u->u.length=m:=by
 intro L
 have key:∀(l:List aL) (u0:Option (List Bool)),(∀u,u0=some u->u.length=m)->∀u,l.foldl (λ u v=>eQ u v.nd) u0=some u->u.length=m:=by
  intro l
  induction l with
  | nil=>intro u0 h u hu;exact h u hu
  | cons v l ih =>
   intro u0 h u hu
   refine ih (eQ u0 v.nd) (λ u1 h1=>?_) u hu
   cases u0 with
   | none=>simp[eQ] at h1
   | some u2 =>
    have:=h u2 rfl
    simp only[eQ] at h1
    cases hc:gM v.nd with
    | none=>rw[hc] at h1;simp only[Option.some.injEq] at h1;rw[<- h1];exact this
    | some c =>
     rw[hc] at h1
     simp only at h1
     split at h1
     ·simp only[Option.some.injEq] at h1;rw[<- h1,List.length_set];exact this
     ·cases h1
 intro u hu
 exact key L _ (λ u h=>by simp only[Option.some.injEq] at h;rw[<- h];simp) u hu
def Da(r:Int)(n:Nat):Prop:=0<=r/\r<=(n:Int)
instance (r:Int) (n:Nat):Decidable (Da r n):=inferInstanceAs (Decidable (0<=r/\r<=(n:Int)))
theorem uv{r:Int}{n:Nat}(h:0<=r):decide (Da r n)=decide (r<=(n:Int)):=by
 by_cases h2:r<=(n:Int)
 ·rw[decide_eq_true h2,decide_eq_true ⟨h,h2⟩]
 ·rw[decide_eq_false h2,decide_eq_false λ h3=>h2 h3.2]
def Qc(n:Nd)(xs:List Int)(N:Nat):Prop:=(∀i,i<xs.length->Da (xs.getD i 0) N)/\Da n.bM N/\Da n.exp N/\Da n.new N
def mA(gen:Int)(N:Nat)(v:aL):Prop:=bY v.nd v.xs v.ys/\v.nd.gen<=gen/\Qc v.nd v.xs N
structure dM(L:List aL)(cs:List Int)(gen:Int):Prop where
 two:2<=L.length
 gen0:0<=gen
 m0:(L.getD 0 aL.zero).nd.kind=1
 m1:(L.getD 1 aL.zero).nd.kind=1
 cells:∀i,i<cs.length->Da (cs.getD i 0) L.length
 nodes:∀i,i<L.length->mA gen L.length (L.getD i aL.zero)
 marks:marks cs.length L≠none
end
end Go.Ct
namespace Go.Proofs.YtadnboagdhcedaaGreatDoor
section
open Go.RowKit Go.Ct
theorem tV(r:Int)(n:Nat)(w:World):Calls Tryz.prog 130 #[.int .i64 r,.int .i64 ((n:Nat):Int)] w λ e w'=>e=.returned (.bool (decide (Da r n)))/\St w [] [] w':=by
 refine enter Tryz.func130 Tryz.ntmps130 rfl rfl (SF.s0 w) ?_
 simp only[cO]
 refine cQ ?_;refine J2 ?_;refine mM ?_;refine aB ?_
 (refine eF 7 (λ g7=>?_) (λ g7=>?_)<;>refine Ka0 ?_)
 all_goals (refine Ka0 ?_;(first|refine aH ?_|(refine aF ?_;refine A9 ?_));refine Kc9 ?_)
 all_goals
 refine aQ Tryz.results130 (λ w hw=>?_)
 refine⟨?_,hw.done⟩
 first|(rw[decide_eq_false (show ¬Da r n from λ h=>by have:=h.1;have:=h.2;omega)];rfl)|(rw[uv (by omega)];rfl)
theorem I9{n:Nd}{xs:List Int}{N:Nat}{w:World}(e1:n.brN=xs.length)(ha:Cl w n.brA (aG xs))(hx:xs.length<4611686018427387904) :
  Calls Tryz.prog 132 #[n.v,.int .i64 ((N:Nat):Int)] w λ e w'=>∃r:Bool,e=.returned (.bool r)/\(r=true↔Qc n xs N)/\St w [] [] w':=by
 refine enter Tryz.func132 Tryz.ntmps132 rfl rfl (SF.s1 ha) ?_
 simp only[cO]
 simp only[Nd.v,Nd.cells,e1]
 refine J0 ?_;refine bQ (λ x2=>?_);refine gQ ?_;refine gU ?_;refine Kb5 ?_
 refine kZ [4,6,10,11,12,13,14,15,16,17,18] (λ k=>[(10,.int .i64 ((k:Nat):Int))]) (λ k=>k<=xs.length/\∀i,i<k->Da (xs.getD i 0) N) (λ k=>_) (λ _=>_) (λ _=>_) (λ k=>xs.length-k) (0) (⟨Nat.zero_le _,λ i hi=>absurd hi (Nat.not_lt_zero i)⟩) (λ k f hx=>?_)
 dsimp only[fY,List.map,List.cons_append,List.nil_append]
 refine Kb3 ?_
 refine aZ (λ c11=>?_) (λ c11=>?_)
 ·refine Kc5 ?_;refine Tl ?_;refine sZ ?_;refine aT (cV (hc:=λ w1 hw=>tV _ N w1)) (λ x16=>?_);refine mJ ?_
  refine aZ (λ c17=>?_) (λ c17=>?_)
  ·refine cQ ?_
   refine aQ Tryz.results132 (λ w hw=>?_)
   exact⟨false,rfl,⟨(λ h=>nomatch h),λ h=>absurd (h.1 k (by omega)) (by assumption)⟩,hw.done⟩
  ·refine Kc1 ?_
   refine fV (k+1) ?_
   ·exact⟨by omega,λ i hi=>by rcases Nat.lt_succ_iff_lt_or_eq.1 hi with h|rfl;exact hx.2 i h;assumption⟩
 ·refine bF rfl ?_;refine gU ?_;refine aB ?_;refine aT (cV (hc:=λ w1 hw=>tV _ N w1)) (λ x22=>?_);refine aB ?_
  (refine eF 23 (λ g23=>?_) (λ g23=>?_)<;>refine Ka1 ?_)
  all_goals (refine ng ?_;(first|refine aH ?_|(refine aF ?_;refine aT (cV (hc:=λ w1 hw=>tV _ N w1)) (λ x27=>?_)));refine Kc2 ?_)
  all_goals (first|refine aH ?_|(refine eF 29 (λ g29=>?_) (λ g29=>?_)<;>refine Ka1 ?_))
  all_goals (refine ng ?_;(first|refine aH ?_|(refine aF ?_;refine aT (cV (hc:=λ w1 hw=>tV _ N w1)) (λ x33=>?_)));refine Kc9 ?_)
  all_goals
  refine aQ Tryz.results132 (λ w hw=>?_)
  have hall:∀i,i<xs.length->Da (xs.getD i 0) N:=λ i hi=>hx.2 i (by omega)
  first|exact⟨_,rfl,by simp_all[Qc],hw.done⟩
theorem Yw(n:Nd)(w:World):Calls Tryz.prog 133 #[n.v] w λ e w'=>e=.returned (.tuple #[.int .i64 ((gM n).getD 0),.bool (gM n).isSome])/\St w [] [] w':=by
 refine enter Tryz.func133 Tryz.ntmps133 rfl rfl (SF.s0 w) ?_
 simp only[cO]
 simp only[Nd.v,Nd.cells]
 refine J0 ?_;refine bQ (λ x1=>?_);refine J8 ?_;refine D8 ?_;refine gU ?_;refine P5 ?_
 refine aZ (λ c4=>?_) (λ c4=>?_)
 ·refine gU ?_;refine J8 ?_
  refine bK Tryz.results133 (λ w hw=>?_)
  refine⟨?_,hw.done⟩
  (rw[show gM n=some n.main by simp[gM,c4]];rfl)
 ·refine kV ?_;refine aC (c0 (V:=.bool) (hc:=λ w1 hw=>Dv n w1)) (λ x12 h12=>?_);refine J1 ?_
  refine aZ (λ c10=>?_) (λ c10=>?_)
  ·have k22:n.kind=3∨n.kind=5∨n.kind=6:=h12.1 c10
   refine gU ?_;refine J8 ?_
   refine bK Tryz.results133 (λ w hw=>?_)
   refine⟨?_,hw.done⟩
   (rw[show gM n=some n.prev by simp only[gM];rw[if_neg c4,if_pos k22]];rfl)
  ·have k22:¬(n.kind=3∨n.kind=5∨n.kind=6):=λ k=>by rw[h12.2 k] at c10;cases c10
   refine gU ?_;refine P5 ?_
   refine aZ (λ c15=>?_) (λ c15=>?_)
   ·refine gU ?_;refine J8 ?_
    refine bK Tryz.results133 (λ w hw=>?_)
    refine⟨?_,hw.done⟩
    (rw[show gM n=some n.status by simp only[gM];rw[if_neg c4,if_neg k22,if_pos c15]];rfl)
   ·refine lG ?_;refine Gc ?_
    refine bK Tryz.results133 (λ w hw=>?_)
    refine⟨?_,hw.done⟩
    (rw[show gM n=none by simp only[gM];rw[if_neg c4,if_neg k22,if_neg c15]];rfl)
end

/- Proper states: the walk through the program's check. -/
section
open Go.RowKit Go.Ct
set_option maxRecDepth 100000 in
theorem Nf{L:List aL}{cs:List Int}{gen:Int}{pn pc:Option Addr}{cn cc:Nat}{w:World}(h:iQ w L cs pn pc)(hL:L.length<=274877906944)(hC:cs.length<=274877906944) :
    Calls Tryz.prog 96 #[.agg ⟨[.slice pn L.length cn,.slice pc cs.length cc,.int .i64 gen]⟩] w λ e w'=>∃r:Bool,e=.returned (.bool r)/\(r=true↔dM L cs gen)/\St w [] [] w':=by
  refine enter Tryz.func96 Tryz.ntmps96 rfl rfl h.start ?_
  simp only[cO]
  refine J0 ?_;refine bQ (λ x1=>?_);refine gQ ?_;refine gU ?_;refine dE ?_;refine Fu ?_
  (refine eF 14 (λ g14=>?_) (λ g14=>?_)<;>refine Ka1 ?_)
  all_goals (refine vp ?_;refine aI ?_)
  all_goals
   refine aZ (λ c18=>?_) (λ c18=>?_)
   · all_goals refine cQ ?_
     all_goals
      refine aQ Tryz.results96 (λ w hw=>?_)
      exact⟨false,rfl,⟨(λ h=>nomatch h),λ hp=>by have h1:=hp.two;have h2:=hp.gen0;exfalso;omega⟩,hw.done⟩
   · try exact nv c18
     all_goals (refine jM ?_;refine gU ?_;refine aE (nC (k:=0) rf rf fC fX fin (by omega) (by omega)) rfl ?_;refine aD ?_;refine aE (Dr (q:=0) rf gB fin (by omega)) rfl ?_;refine jP ?_;refine aB ?_)
     all_goals ((refine eF 25 (λ g25=>?_) (λ g25=>?_)<;>refine Ka1 ?_))
     all_goals (refine Ka2 ?_;(first|refine aH ?_|(refine aF ?_;refine aE (nC (k:=1) rf rf fC fX fin (by omega) (by omega)) rfl ?_));refine Ka1 ?_;(first|refine aH ?_|(refine aF ?_;refine aE (Dr (q:=1) rf gB fin (by omega)) rfl ?_));refine Ut ?_;refine aI ?_)
     all_goals
      refine aZ (λ c32=>?_) (λ c32=>?_)
      · all_goals refine cQ ?_
        all_goals
         refine aQ Tryz.results96 (λ w hw=>?_)
         exact⟨false,rfl,⟨(λ h=>nomatch h),λ hp=>by have h1:=hp.m0;have h2:=hp.m1;exfalso;omega⟩,hw.done⟩
      · try exact nv c32
        all_goals (refine jM ?_;refine gU ?_;refine Kb5 ?_)
        all_goals
         refine eY [2,4,36,37,38,39,40,41,42,43,44,45,46] (λ k=>[(36,.int .i64 ((k:Nat):Int))]) (λ k=>k<=cs.length/\∀i,i<k->Da (cs.getD i 0) L.length) (λ k=>cs.length-k) (0) (⟨Nat.zero_le _,λ i hi=>absurd hi (Nat.not_lt_zero i)⟩) ?_ (λ k f hx=>?_)
         · repeat (first|exact bB _|refine aY (by exact rfl) ?_)
         dsimp only[fY,List.map,List.cons_append,List.nil_append]
         refine Kb3 ?_
         refine aZ (λ c37=>?_) (λ c37=>?_)
         · refine Kc5 ?_;refine Tl ?_;refine Ka4 ?_;refine Li ?_;refine aT (cV (hc:=λ w1 hw=>tV _ _ w1)) (λ x44=>?_);refine mJ ?_
           refine aZ (λ c45=>?_) (λ c45=>?_)
           · refine cQ ?_
             refine aQ Tryz.results96 (λ w hw=>?_)
             exact⟨false,rfl,⟨(λ h=>nomatch h),λ hp=>absurd (hp.cells k (by omega)) (by assumption)⟩,hw.done⟩
           · refine Kc1 ?_
             refine dO (k+1) ?_ ?_ ?_
             · omega
             · repeat' (first|exact bB _|refine aY ?_ ?_)
               exact rfl
             · exact⟨by omega,λ i hi=>by rcases Nat.lt_succ_iff_lt_or_eq.1 hi with h|rfl;exact hx.2 i h;assumption⟩
         · refine bF rfl ?_;refine gU ?_;refine dE ?_;refine Bt (λ x50=>?_);refine gQ ?_;refine gU ?_;refine Kb5 ?_
           have hcells:∀i,i<cs.length->Da (cs.getD i 0) L.length:=λ i hi=>hx.2 i (by omega)
           clear hx
           refine kZ [2,7,8,9,54,55,56,57,58,59,60,61,62,63,64,65,66,67,68,69,70,71,72,73,74,75,76,77,78,79,80,81,82,83,84,85,86,87,88,89,90,91,92,93,94,95,96,97,98,99,100,101,102,103] (λ y:Nat×List Bool=>[(54,.int .i64 ((y.1:Nat):Int))]) (λ y=>y.1<=L.length/\marks cs.length (L.take y.1)=some y.2/\∀i,i<y.1->mA gen L.length (L.getD i aL.zero)) (λ _=>_) (λ _=>_) (λ y=>[⟨some ⟨x50,0,none⟩,iI y.2,cs.length,4,1⟩]) (λ y=>L.length-y.1) ((0,List.replicate cs.length false)) (⟨Nat.zero_le _,rfl,λ i hi=>absurd hi (Nat.not_lt_zero i)⟩) (λ y f hx=>?_)
           dsimp only[fY,List.map,List.cons_append,List.nil_append]
           have hu:=Aj hx.2.1
           refine Kb3 ?_
           refine aZ (λ c55=>?_) (λ c55=>?_)
           · refine Kc5 ?_;refine Tl ?_;refine aN (λ x7=>?_);refine J5 ?_;refine aR ?_;refine kV ?_;refine aC (c0 (V:=.bool) (hc:=λ w1 hw=>U9 (hw.dk h.fit (by omega)))) (λ x59 h59=>?_);refine E8 ?_
             (refine eF 61 (λ g61=>?_) (λ g61=>?_)<;>refine Ka1 ?_)
             all_goals (refine zP ?_;refine Fs ?_;refine aB ?_)
             all_goals (first|refine aH ?_|(refine eF 68 (λ g68=>?_) (λ g68=>?_)<;>refine Ka2 ?_))
             all_goals (refine Uw ?_;(first|refine aH ?_|(refine aF ?_;refine aC (c0 (V:=.bool) (hc:=λ w1 hw=>I9 (hw.dk h.fit (by omega)).brN (hw.dk h.fit (by omega)).br (hw.dk h.fit (by omega)).brS)) (λ x73 h73=>?_)));refine Rb ?_;refine aI ?_)
             all_goals
              refine aZ (λ c75=>?_) (λ c75=>?_)
              · all_goals refine cQ ?_
                all_goals
                 refine aQ Tryz.results96 (λ w hw=>?_)
                 refine⟨false,rfl,⟨(λ h=>nomatch h),λ hp=>?_⟩,hw.done⟩
                 obtain⟨q1,q2,q3⟩:=hp.nodes y.1 (by omega)
                 first|(exfalso;omega)|(have:=h59.2 q1;simp_all;done) 
              · try exact nv c75
                all_goals
                 have hok:mA gen L.length (L.getD y.1 aL.zero):=⟨h59.1 (by simp_all),by omega,h73.1 (by simp_all)⟩
                all_goals (refine bA ?_;refine kV ?_;refine aT (cV (hc:=λ w1 hw=>Yw (L.getD y.1 aL.zero).nd w1)) (λ x78=>?_);refine Kb8 ?_;refine mJ ?_)
                all_goals
                 refine aZ (λ c82=>?_) (λ c82=>?_)
                 · have hmk:eQ (some y.2) (L.getD y.1 aL.zero).nd=some y.2:=by
                    have e:gM (L.getD y.1 aL.zero).nd=none:=by cases hq:gM (L.getD y.1 aL.zero).nd<;>simp_all
                    simp only[eQ,e]
                   refine bF rfl ?_;refine Ka3 ?_
                   refine fV ((y.1+1,(eQ (some y.2) (L.getD y.1 aL.zero).nd).getD y.2)) ?_ (hw1:=λ w hw=>by rw[hmk];exact hw.back)
                   · refine⟨by omega,by rw[rH (by omega),hx.2.1,hmk];rfl,λ i hi=>?_⟩
                     rcases Nat.lt_succ_iff_lt_or_eq.1 hi with h|rfl
                     · exact hx.2.2 i h
                     · exact hok
                 · obtain⟨c,hc⟩:∃c,gM (L.getD y.1 aL.zero).nd=some c:=Option.isSome_iff_exists.1 c82
                   rw[hc,Option.getD_some]
                   refine jM ?_;refine J2 ?_;refine Fu ?_
                   (refine eF 85 (λ g85=>?_) (λ g85=>?_)<;>refine Ka0 ?_)
                   all_goals (refine Uw ?_;refine Fs ?_;refine aB ?_)
                   all_goals (first|refine aH ?_|(refine eF 92 (λ g92=>?_) (λ g92=>?_)<;>refine Ka0 ?_))
                   all_goals (refine Ka0 ?_;(first|refine aH ?_|(refine aF ?_;refine aE (Yu rf rf (by omega) (by omega)) rfl ?_));(first|refine aH ?_|(refine aF ?_;refine aE (uR rf rf fC gB fin (by omega) (by omega)) rfl ?_));(first|refine aH ?_|(refine aF ?_;refine aE (Jd rf gB fin (by omega)) rfl ?_));refine cK ?_;refine aI ?_)
                   all_goals
                    refine aZ (λ c98=>?_) (λ c98=>?_)
                    · all_goals refine cQ ?_
                      all_goals
                       refine aQ Tryz.results96 (λ w hw=>?_)
                       refine⟨false,rfl,⟨(λ h=>nomatch h),λ hp=>?_⟩,hw.done⟩
                       have hm:marks cs.length (L.take (y.1+1))=none:=by
                        rw[rH (by omega),hx.2.1]
                        simp only[eQ,hc]
                        refine if_neg λ hh=>?_
                        obtain⟨q1,q2,q3⟩:=hh
                        first|(exfalso;omega)|(exfalso;rw[q3] at c98;cases c98)
                       exact absurd (Em hm) hp.marks
                    · try exact nv c98
                      all_goals
                       have hmk:eQ (some y.2) (L.getD y.1 aL.zero).nd=some (y.2.set (c-1).toNat true):=by
                        simp only[eQ,hc]
                        rw[if_pos ⟨by omega,by omega,c98⟩]
                      all_goals (refine bA ?_;refine Kp ?_;refine aE (Yu rf rf (by omega) (by omega)) rfl ?_;refine aE (uR rf rf fC gB fin (by omega) (by omega)) rfl ?_;refine J5 ?_;refine eX ?_;refine Ka3 ?_)
                      all_goals
                       refine fV ((y.1+1,(eQ (some y.2) (L.getD y.1 aL.zero).nd).getD y.2)) ?_ (hw1:=λ w hw=>by rw[hmk];exact hw.back)
                       · refine⟨by omega,by rw[rH (by omega),hx.2.1,hmk];rfl,λ i hi=>?_⟩
                         rcases Nat.lt_succ_iff_lt_or_eq.1 hi with h|rfl
                         · exact hx.2.2 i h
                         · exact hok
           · refine bF rfl ?_;refine cQ ?_
             refine aQ Tryz.results96 (λ w hw=>?_)
             have hy:y.1=L.length:=by omega
             have hmm:marks cs.length L=some y.2:=by have:=hx.2.1;rwa [hy,List.take_length] at this
             exact⟨true,rfl,⟨λ _=>⟨by omega,by omega,by omega,by omega,hcells,λ i hi=>hx.2.2 i (by omega),by rw[hmm];exact λ h=>nomatch h⟩,λ _=>rfl⟩,hw.done⟩
end

end Go.Proofs.YtadnboagdhcedaaGreatDoor
