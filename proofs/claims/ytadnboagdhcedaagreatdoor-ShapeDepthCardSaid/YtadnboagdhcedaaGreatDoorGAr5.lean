/- Nodes of the program's arena are read; lists are cloned; the state is read. -/
import Derived.Test.YtadnboagdhcedaaGreatDoorGNode2
import Derived.Test.YtadnboagdhcedaaGreatDoorGFun
import Derived.Test.YtadnboagdhcedaaGreatDoorAuto

set_option linter.unusedSimpArgs false
set_option linter.unusedVariables false
namespace Go.Ct
section
theorem Cl.X6{w:Go.World}{cs:List Go.Value}(h:Cl w none cs):cs=[]:=by
 cases cs with
 | nil=>rfl
 | cons v r=>exact absurd (h.ptr (by simp)) (by simp)
theorem Ue{l:List Int}(h:aG l=[]):l=[]:=by simpa[aG] using h
end
end Go.Ct
namespace Go.Proofs.YtadnboagdhcedaaGreatDoor
section
open Go.RowKit Go.Ct
variable{w:World}{D:List Nat}{b:Nat}{L:List aL}{cs:List Int}{gen acc:Int}{pn pc:Option Addr}{cn cc:Nat}{A:Fr}
theorem N8{l:List Int}{a:Option Addr}{c:Nat}{w:World}(ha:Cl w a (aG l))(hl:l.length<=274877906944):Calls Tryz.prog 97 #[.slice a l.length c] w λ e w' =>
  ∃x:Option Addr×Nat,e=.returned (.slice x.1 l.length x.2)/\True/\SF w [] [] [] [] [⟨x.1,aG l,x.2,62,1⟩] w':=by
 refine enter Tryz.func97 Tryz.ntmps97 rfl rfl (SF.s1 ha) ?_
 simp only[cP]
 refine Ka7 ?_;refine sX ?_
 refine aZ (λ c4=>?_) (λ c4=>?_)
 ·have e0:a=none:=by cases a with|none=>rfl|some _=>cases c4
  subst e0
  obtain rfl:=Ue ha.X6
  refine cQ ?_
  refine aQ Tryz.results97 (λ w hw=>?_)
  exact⟨(none,0),rfl,trivial,(hw.kT 62 1).aT⟩
 ·refine bA ?_;refine J0 ?_;refine gL (λ x5=>?_);refine aB ?_;(refine eL (λ x7=>?_);try (refine eZ (λ h7=>?_)));refine J1 ?_
  refine aQ Tryz.results97 (λ w hw=>?_)
  exact⟨x7,by simp only[Nat.zero_add];rfl,trivial,by simpa using hw.aT (F':=[]) (H':=[])⟩
end

/- The arena's state is read. -/
section
open Go.RowKit Go.Ct
variable{w:World}{D:List Nat}{b:Nat}{L:List aL}{cs:List Int}{gen acc:Int}{pn pc:Option Addr}{cn cc:Nat}{A:Fr}
end

/- Lists and the smallest functions of nodes. -/
section
open Go.RowKit Go.Ct
theorem y5(n:Nd)(w:World):Calls Tryz.prog 158 #[n.v] w λ e w'=>e=.returned n.own.v/\St w [] [] w':=by
 refine enter Tryz.func158 Tryz.ntmps158 rfl rfl (SF.s0 w) ?_
 simp only[cP]
 refine J0 ?_;refine bP (λ x1=>?_);refine aP (λ x2=>?_);refine aI ?_;refine gU ?_;refine bD ?_;refine aP (λ x3=>?_);refine J5 ?_;refine An ?_;refine Kc3 ?_;refine Eb ?_;refine Eb ?_;refine Eb ?_;refine Eb ?_;refine Eb ?_;refine Eb ?_;refine Eb ?_;refine aR ?_;refine aR ?_;refine jC ?_
 refine aZ (λ c9=>?_) (λ c9=>?_)
 ·refine bI rfl ?_;refine aR ?_;refine eG [(0,[]),(1,[]),(2,[]),(3,[]),(4,[]),(5,[3]),(6,[]),(7,[])] ?_;refine mB ?_;refine mB ?_;refine aM ?_;refine Pe ?_;refine zG ?_;refine bI rfl ?_;refine Ka9 ?_
  refine bK Tryz.results158 (λ w hw=>?_)
  exact⟨by simp only[Nd.own,beq_iff_eq, *,if_true,if_false];rfl,hw.done⟩
 ·refine jM ?_;refine jC ?_
  refine aZ (λ c11=>?_) (λ c11=>?_)
  ·refine bI rfl ?_;refine aR ?_;refine eG [(0,[]),(1,[]),(2,[]),(3,[]),(4,[]),(5,[]),(6,[]),(7,[3,5]),(8,[]),(9,[5]),(10,[]),(11,[])] ?_;refine mB ?_;refine mB ?_;refine mB ?_;refine aM ?_;refine Pe ?_;refine Pe ?_;refine zG ?_;refine bI rfl ?_;refine Ka9 ?_
   refine bK Tryz.results158 (λ w hw=>?_)
   exact⟨by simp only[Nd.own,beq_iff_eq, *,if_true,if_false];rfl,hw.done⟩
  ·refine jM ?_;refine jC ?_
   refine aZ (λ c13=>?_) (λ c13=>?_)
   ·refine bI rfl ?_;refine dJ ?_;refine J3 ?_;refine xC ?_;refine eT ?_;refine aR ?_;refine eG [(0,[]),(1,[]),(2,[]),(3,[]),(4,[]),(5,[]),(6,[]),(7,[3,5]),(8,[]),(9,[5]),(10,[]),(11,[])] ?_;refine mB ?_;refine mB ?_;refine mB ?_;refine aM ?_;refine Pe ?_;refine Pe ?_;refine zG ?_;refine bI rfl ?_;refine Ka9 ?_
    refine bK Tryz.results158 (λ w hw=>?_)
    exact⟨by simp only[Nd.own,beq_iff_eq, *,if_true,if_false];rfl,hw.done⟩
   ·refine jM ?_;refine jC ?_
    refine aZ (λ c15=>?_) (λ c15=>?_)
    ·refine bI rfl ?_;refine aR ?_;refine eG [(0,[]),(1,[]),(2,[]),(3,[]),(4,[]),(5,[]),(6,[]),(7,[3,5]),(8,[]),(9,[5]),(10,[]),(11,[])] ?_;refine mB ?_;refine mB ?_;refine mB ?_;refine aM ?_;refine Pe ?_;refine Pe ?_;refine zG ?_;refine bI rfl ?_;refine Ka9 ?_
     refine bK Tryz.results158 (λ w hw=>?_)
     exact⟨by simp only[Nd.own,beq_iff_eq, *,if_true,if_false];rfl,hw.done⟩
    ·refine jM ?_;refine jC ?_
     refine aZ (λ c17=>?_) (λ c17=>?_)
     ·refine bI rfl ?_;refine aR ?_;refine eG [(0,[]),(1,[]),(2,[]),(3,[]),(4,[]),(5,[]),(6,[]),(7,[3,5]),(8,[]),(9,[5]),(10,[]),(11,[])] ?_;refine mB ?_;refine mB ?_;refine mB ?_;refine aM ?_;refine Pe ?_;refine Pe ?_;refine zG ?_;refine bI rfl ?_;refine Ka9 ?_
      refine bK Tryz.results158 (λ w hw=>?_)
      exact⟨by simp only[Nd.own,beq_iff_eq, *,if_true,if_false];rfl,hw.done⟩
     ·refine jM ?_;refine jC ?_
      refine aZ (λ c19=>?_) (λ c19=>?_)
      ·refine bI rfl ?_;refine eG [(0,[]),(1,[]),(2,[]),(3,[]),(4,[]),(5,[]),(6,[]),(7,[3,5]),(8,[]),(9,[5]),(10,[]),(11,[])] ?_;refine mB ?_;refine mB ?_;refine mB ?_;refine aM ?_;refine Pe ?_;refine Pe ?_;refine zG ?_;refine eT ?_;refine gU ?_;refine xC ?_;refine bI rfl ?_;refine Ka9 ?_
       refine bK Tryz.results158 (λ w hw=>?_)
       exact⟨by simp only[Nd.own,beq_iff_eq, *,if_true,if_false];rfl,hw.done⟩
      ·refine bA ?_;refine jC ?_
       refine aZ (λ c21=>?_) (λ c21=>?_)
       ·refine bI rfl ?_;refine gU ?_;refine xC ?_;refine bI rfl ?_;refine Ka9 ?_
        refine bK Tryz.results158 (λ w hw=>?_)
        exact⟨by simp only[Nd.own,beq_iff_eq, *,if_true,if_false];rfl,hw.done⟩
       ·refine bA ?_;refine bI rfl ?_;refine Ka9 ?_
        refine bK Tryz.results158 (λ w hw=>?_)
        exact⟨by simp only[Nd.own,beq_iff_eq, *,if_true,if_false];rfl,hw.done⟩
end

/- node.Valid. -/
section
open Go.RowKit Go.Ct
theorem s4(b:Int)(w:World):Calls Tryz.prog 100 #[.int .u64 b] w λ e w'=>e=.returned (.int .i64 (wI b))/\St w [] [] w':=by
 refine enter Tryz.func100 Tryz.ntmps100 rfl rfl (SF.s0 w) ?_
 simp only[cP]
 refine cQ ?_;refine J2 ?_;refine Bi ?_;refine yR ?_;refine aB ?_;refine yR ?_;refine Eu ?_;refine Ka3 ?_;refine Bi ?_;refine yR ?_;refine aB ?_;refine yR ?_;refine Eu ?_;refine Ka3 ?_;refine Bi ?_;refine aB ?_;refine Eu ?_;refine yR ?_;refine sV ?_;refine Bi ?_;refine Eu ?_;refine sV ?_;refine Bi ?_;refine Eu ?_;refine sV ?_;refine Bi ?_;refine Eu ?_;refine Ka3 ?_;refine iE ?_;refine yR ?_;refine J1 ?_
 refine aQ Tryz.results100 (λ w hw=>?_)
 exact⟨rfl,hw.done⟩
theorem Sq(b:Int)(w:World):Calls Tryz.prog 73 #[.int .u64 b] w λ e w'=>e=.returned (.int .i64 (wI b))/\St w [] [] w':=by
 refine enter Tryz.func73 Tryz.ntmps73 rfl rfl (SF.s0 w) ?_
 simp only[cP]
 refine cQ ?_;refine J2 ?_;refine aU (cV (hc:=λ w1 hw=>s4 b w1)) (λ x4=>?_);refine J1 ?_
 refine aQ Tryz.results73 (λ w hw=>?_)
 exact⟨rfl,hw.done⟩
theorem Vm{n:Nd}{xs:List Int}{ys:List Pr}{w:World}(hr:qP w n xs ys) :
  Calls Tryz.prog 131 #[n.v] w λ e w'=>∃r:Bool,e=.returned (.bool r)/\(r=true↔bY n xs ys)/\St w [] [] w':=by
 have e1:=hr.brN;have e2:=hr.prN
 refine enter Tryz.func131 Tryz.ntmps131 rfl rfl (SF.s0 w) ?_
 simp only[cP]
 refine J0 ?_;refine bP (λ x1=>?_);refine gP ?_;refine aR ?_;refine eG [(0,[]),(1,[]),(2,[0]),(3,[]),(4,[])] ?_;refine bO ?_;refine bO ?_;refine cX (i:=2) (hq:=(cV (hc:=λ w1 hw=>y5 n w1))) (h:=λ x5=>?_);refine bC (i:=3) (hq:=(c0 (V:=.bool) (hc:=λ w1 hw=>sq (hr.fC hw.st) (hr.fC hw.st).own))) (h:=λ x6 h6=>?_);refine R8 ?_;refine dW ?_
 refine aZ (λ c7=>?_) (λ c7=>?_)
 ·refine cQ ?_
  refine aQ Tryz.results131 (λ w hw=>?_)
  refine⟨_,rfl,?_,hw.done⟩
  (simp_all[bY];done)
 ·refine jM ?_;refine gU ?_;refine Ec ?_
  (refine eF 11 (λ g11=>?_) (λ g11=>?_)<;>refine Ka1 ?_)
  all_goals (refine wa ?_;refine aB ?_)
  all_goals (first|refine aH ?_|(refine eF 16 (λ g16=>?_) (λ g16=>?_)<;>refine Ka1 ?_))
  all_goals (refine wa ?_;refine aI ?_)
  all_goals
  refine aZ (λ c20=>?_) (λ c20=>?_)
  ·all_goals refine cQ ?_
   all_goals
    refine aQ Tryz.results131 (λ w hw=>?_)
    refine⟨_,rfl,?_,hw.done⟩
    (simp_all[bY];omega)
  ·try exact nv c20
   all_goals (refine jM ?_;refine gU ?_;refine Kc3 ?_;refine Eb ?_;refine Eb ?_;refine Eb ?_;refine Eb ?_;refine bW ?_;refine Eb ?_;refine Eb ?_;refine Eb ?_;refine aR ?_;refine aR ?_;refine jC ?_)
   all_goals
    refine aZ (λ c23=>?_) (λ c23=>?_)
    ·refine bI rfl ?_;refine aR ?_;refine cQ ?_
     refine aQ Tryz.results131 (λ w hw=>?_)
     refine⟨_,rfl,?_,hw.done⟩
     (simp_all[bY];done)
    ·refine jM ?_;refine jC ?_
     refine aZ (λ c25=>?_) (λ c25=>?_)
     ·refine bI rfl ?_;refine An ?_;refine mT ?_;refine J1 ?_
      refine aQ Tryz.results131 (λ w hw=>?_)
      refine⟨_,rfl,?_,hw.done⟩
      (simp_all[bY];done)
     ·refine jM ?_;refine jC ?_
      refine aZ (λ c27=>?_) (λ c27=>?_)
      ·refine bI rfl ?_;refine aR ?_;refine aR ?_;refine eG [(0,[]),(1,[]),(2,[]),(3,[]),(4,[]),(5,[1]),(6,[]),(7,[]),(8,[]),(9,[]),(10,[]),(11,[]),(12,[])] ?_;refine mB ?_;refine lK ?_;refine mB ?_;refine cX (i:=5) (hq:=(cV (hc:=λ w1 hw=>Sq n.bm w1))) (h:=λ x47=>?_);refine mK ?_;refine aS ?_
       (refine j3 49 (λ g49=>?_) (λ g49=>?_)<;>(first|refine fU ?_|(refine aM ?_)))
       all_goals ((first|refine fU ?_|(refine bO ?_));(first|refine fU ?_|(refine bC (i:=10) (hq:=(c0 (V:=.bool) (hc:=λ w1 hw=>by rw[e1];exact P3 (hr.br.fC hw.st) hr.brS))) (h:=λ x52 h52=>?_)));refine iU ?_;refine J7 ?_)
       all_goals
       refine aQ Tryz.results131 (λ w hw=>?_)
       refine⟨_,rfl,?_,hw.done⟩
       (simp_all[bY];done)
      ·refine jM ?_;refine jC ?_
       refine aZ (λ c29=>?_) (λ c29=>?_)
       ·refine V3 ?_;refine An ?_;refine jO ?_;refine Bs ?_;refine J1 ?_
        refine aQ Tryz.results131 (λ w hw=>?_)
        refine⟨_,rfl,?_,hw.done⟩
        (simp_all[bY];omega)
       ·refine jM ?_;refine jC ?_
        refine aZ (λ c31=>?_) (λ c31=>?_)
        ·refine bI rfl ?_;refine An ?_;refine jO ?_;refine Bs ?_;refine J1 ?_
         refine aQ Tryz.results131 (λ w hw=>?_)
         refine⟨_,rfl,?_,hw.done⟩
         (simp_all[bY];omega)
        ·refine jM ?_;refine jC ?_
         refine aZ (λ c33=>?_) (λ c33=>?_)
         ·refine bI rfl ?_;refine An ?_;refine dI ?_;refine mT ?_;refine aB ?_
          (refine eF 62 (λ g62=>?_) (λ g62=>?_)<;>refine Ka1 ?_)
          all_goals (refine Ka2 ?_;(first|refine aH ?_|(refine aF ?_;refine aC (c0 (V:=.bool) (hc:=λ w1 hw=>by rw[e2];exact T7 (hr.pr.fC hw.st) hr.prS)) (λ x65 h65=>?_)));refine Kc1 ?_)
          all_goals (first|refine aH ?_|(refine eF 67 (λ g67=>?_) (λ g67=>?_)<;>refine Ka1 ?_))
          all_goals (refine Ka2 ?_;(first|refine aH ?_|(refine aF ?_;refine aC (c0 (V:=.bool) (hc:=λ w1 hw=>by rw[e2];exact Mg (hr.pr.fC hw.st) hr.prS)) (λ x70 h70=>?_)));refine Kc8 ?_)
          all_goals
          refine aQ Tryz.results131 (λ w hw=>?_)
          refine⟨_,rfl,?_,hw.done⟩
          first|(simp_all[bY];done)|(simp_all[bY];omega)
         ·refine jM ?_;refine jC ?_
          refine aZ (λ c35=>?_) (λ c35=>?_)
          ·refine bI rfl ?_;refine gU ?_;refine Ec ?_
           (refine eF 75 (λ g75=>?_) (λ g75=>?_)<;>refine Ka1 ?_)
           all_goals (refine wa ?_;refine aI ?_)
           all_goals
           refine aZ (λ c79=>?_) (λ c79=>?_)
           ·all_goals refine cQ ?_
            all_goals
             refine aQ Tryz.results131 (λ w hw=>?_)
             refine⟨_,rfl,?_,hw.done⟩
             (simp_all[bY];omega)
           ·try exact nv c79
            all_goals (refine lM ?_;refine An ?_;refine mT ?_;refine J1 ?_)
            all_goals
             refine aQ Tryz.results131 (λ w hw=>?_)
             refine⟨_,rfl,?_,hw.done⟩
             (simp_all[bY];done)
          ·refine bA ?_;refine jC ?_
           refine aZ (λ c37=>?_) (λ c37=>?_)
           ·refine bI rfl ?_;refine An ?_;refine mT ?_;refine J1 ?_
            refine aQ Tryz.results131 (λ w hw=>?_)
            refine⟨_,rfl,?_,hw.done⟩
            (simp_all[bY];done)
           ·refine bA ?_;refine bI rfl ?_;refine cQ ?_
            refine aQ Tryz.results131 (λ w hw=>?_)
            refine⟨_,rfl,?_,hw.done⟩
            (simp_all[bY];done)
end

/- Proper states: the program's check. -/
end Go.Proofs.YtadnboagdhcedaaGreatDoor
namespace Go.Ct
section
def gO(n:Nd):Option Int:=if n.kind=2 then some n.main else if n.kind=3∨n.kind=5∨n.kind=6 then some n.prev else if n.kind=8 then some n.status else none
def eQ(u:Option (List Bool))(n:Nd):Option (List Bool) :=
 match u with
 | none=>none
 | some u=>match gO n with
  | none=>some u
  | some c=>if 1<=c/\c<=u.length/\u.getD (c-1).toNat false=false then some (u.set (c-1).toNat true) else none
def marks(m:Nat)(L:List aL):Option (List Bool):=L.foldl (λ u v=>eQ u v.nd) (some (List.replicate m false))
theorem rH{m:Nat}{L:List aL}{k:Nat}(h:k<L.length):marks m (L.take (k+1))=eQ (marks m (L.take k)) (L.getD k aL.zero).nd:=by
 rw[marks,List.take_succ_eq_append_getElem h,List.foldl_append,fM,List.getElem?_eq_getElem h]
 rfl
theorem Fe{m:Nat}{L:List aL}{k:Nat}(h:marks m (L.take k)=none):marks m L=none:=by
 have e:L=L.take k++L.drop k:=(List.take_append_drop k L).symm
 rw[e,marks,List.foldl_append]
 rw[marks] at h
 rw[h]
 generalize L.drop k=l
 induction l with
 | nil=>rfl
 | cons v l ih=>exact ih
theorem Av{m:Nat}:∀{L:List aL} {u:List Bool},marks m L=some u->u.length=m:=by
 intro L
 have key:∀(l:List aL) (u0:Option (List Bool)),(∀u,u0=some u->u.length=m)->∀u,l.foldl (λ u v=>eQ u v.nd) u0=some u->u.length=m:=by
  intro l
  induction l with
  | nil=>intro u0 h u hu;exact h u hu
  | cons v l ih =>
   intro u0 h u hu
   refine ih (eQ u0 v.nd) (λ u1 h1=>?_) u hu
   cases u0 with
   | none=>simp[eQ] at h1
   | some u2 =>
    have:=h u2 rfl
    simp only[eQ] at h1
    cases hc:gO v.nd with
    | none=>rw[hc] at h1;simp only[Option.some.injEq] at h1;rw[<- h1];exact this
    | some c =>
     rw[hc] at h1
     simp only at h1
     split at h1
     ·simp only[Option.some.injEq] at h1;rw[<- h1,List.length_set];exact this
     ·cases h1
 intro u hu
 exact key L _ (λ u h=>by simp only[Option.some.injEq] at h;rw[<- h];simp) u hu
def Db(r:Int)(n:Nat):Prop:=0<=r/\r<=(n:Int)
instance (r:Int) (n:Nat):Decidable (Db r n):=inferInstanceAs (Decidable (0<=r/\r<=(n:Int)))
theorem te{r:Int}{n:Nat}(h:0<=r):decide (Db r n)=decide (r<=(n:Int)):=by
 by_cases h2:r<=(n:Int)
 ·rw[decide_eq_true h2,decide_eq_true ⟨h,h2⟩]
 ·rw[decide_eq_false h2,decide_eq_false λ h3=>h2 h3.2]
def P0(n:Nd)(xs:List Int)(N:Nat):Prop:=(∀i,i<xs.length->Db (xs.getD i 0) N)/\Db n.bM N/\Db n.exp N/\Db n.new N
def lW(gen:Int)(N:Nat)(v:aL):Prop:=bY v.nd v.xs v.ys/\v.nd.gen<=gen/\P0 v.nd v.xs N
structure dM(L:List aL)(cs:List Int)(gen:Int):Prop where
 two:2<=L.length
 gen0:0<=gen
 m0:(L.getD 0 aL.zero).nd.kind=1
 m1:(L.getD 1 aL.zero).nd.kind=1
 cells:∀i,i<cs.length->Db (cs.getD i 0) L.length
 nodes:∀i,i<L.length->lW gen L.length (L.getD i aL.zero)
 marks:marks cs.length L≠none
end
end Go.Ct
namespace Go.Proofs.YtadnboagdhcedaaGreatDoor
section
open Go.RowKit Go.Ct
theorem uF(r:Int)(n:Nat)(w:World):Calls Tryz.prog 130 #[.int .i64 r,.int .i64 ((n:Nat):Int)] w λ e w'=>e=.returned (.bool (decide (Db r n)))/\St w [] [] w':=by
 refine enter Tryz.func130 Tryz.ntmps130 rfl rfl (SF.s0 w) ?_
 simp only[cP]
 refine cQ ?_;refine J2 ?_;refine mT ?_;refine aB ?_
 (refine eF 7 (λ g7=>?_) (λ g7=>?_)<;>refine Ka0 ?_)
 all_goals (refine Ka0 ?_;(first|refine aH ?_|(refine aF ?_;refine Bs ?_));refine Kc8 ?_)
 all_goals
 refine aQ Tryz.results130 (λ w hw=>?_)
 refine⟨?_,hw.done⟩
 first|(rw[decide_eq_false (show ¬Db r n from λ h=>by have:=h.1;have:=h.2;omega)];rfl)|(rw[te (by omega)];rfl)
theorem Jf{n:Nd}{xs:List Int}{N:Nat}{w:World}(e1:n.brN=xs.length)(ha:Cl w n.brA (aG xs))(hx:xs.length<4611686018427387904) :
  Calls Tryz.prog 132 #[n.v,.int .i64 ((N:Nat):Int)] w λ e w'=>∃r:Bool,e=.returned (.bool r)/\(r=true↔P0 n xs N)/\St w [] [] w':=by
 refine enter Tryz.func132 Tryz.ntmps132 rfl rfl (SF.s1 ha) ?_
 simp only[cP]
 simp only[Nd.v,Nd.cells,e1]
 refine J0 ?_;refine bP (λ x2=>?_);refine gP ?_;refine gU ?_;refine Kb8 ?_
 refine lE [4,6,10,11,12,13,14,15,16,17,18] (λ k=>[(10,.int .i64 ((k:Nat):Int))]) (λ k=>k<=xs.length/\∀i,i<k->Db (xs.getD i 0) N) (λ k=>_) (λ _=>_) (λ _=>_) (λ k=>xs.length-k) (0) (⟨Nat.zero_le _,λ i hi=>absurd hi (Nat.not_lt_zero i)⟩) (λ k f hx=>?_)
 dsimp only[fY,List.map,List.cons_append,List.nil_append]
 refine Kb4 ?_
 refine aZ (λ c11=>?_) (λ c11=>?_)
 ·refine Kc9 ?_;refine To ?_;refine sV ?_;refine aU (cV (hc:=λ w1 hw=>uF _ N w1)) (λ x16=>?_);refine mS ?_
  refine aZ (λ c17=>?_) (λ c17=>?_)
  ·refine cQ ?_
   refine aQ Tryz.results132 (λ w hw=>?_)
   exact⟨false,rfl,⟨(λ h=>nomatch h),λ h=>absurd (h.1 k (by omega)) (by assumption)⟩,hw.done⟩
  ·refine Kc4 ?_
   refine gC (k+1) ?_
   ·exact⟨by omega,λ i hi=>by rcases Nat.lt_succ_iff_lt_or_eq.1 hi with h|rfl;exact hx.2 i h;assumption⟩
 ·refine bI rfl ?_;refine gU ?_;refine aB ?_;refine aU (cV (hc:=λ w1 hw=>uF _ N w1)) (λ x22=>?_);refine aB ?_
  (refine eF 23 (λ g23=>?_) (λ g23=>?_)<;>refine Ka1 ?_)
  all_goals (refine pu ?_;(first|refine aH ?_|(refine aF ?_;refine aU (cV (hc:=λ w1 hw=>uF _ N w1)) (λ x27=>?_)));refine Kc1 ?_)
  all_goals (first|refine aH ?_|(refine eF 29 (λ g29=>?_) (λ g29=>?_)<;>refine Ka1 ?_))
  all_goals (refine pu ?_;(first|refine aH ?_|(refine aF ?_;refine aU (cV (hc:=λ w1 hw=>uF _ N w1)) (λ x33=>?_)));refine Kc8 ?_)
  all_goals
  refine aQ Tryz.results132 (λ w hw=>?_)
  have hall:∀i,i<xs.length->Db (xs.getD i 0) N:=λ i hi=>hx.2 i (by omega)
  first|exact⟨_,rfl,by simp_all[P0],hw.done⟩
theorem Zf(n:Nd)(w:World):Calls Tryz.prog 133 #[n.v] w λ e w'=>e=.returned (.tuple #[.int .i64 ((gO n).getD 0),.bool (gO n).isSome])/\St w [] [] w':=by
 refine enter Tryz.func133 Tryz.ntmps133 rfl rfl (SF.s0 w) ?_
 simp only[cP]
 simp only[Nd.v,Nd.cells]
 refine J0 ?_;refine bP (λ x1=>?_);refine J8 ?_;refine Eb ?_;refine gU ?_;refine Qd ?_
 refine aZ (λ c4=>?_) (λ c4=>?_)
 ·refine gU ?_;refine J8 ?_
  refine bK Tryz.results133 (λ w hw=>?_)
  refine⟨?_,hw.done⟩
  (rw[show gO n=some n.main by simp[gO,c4]];rfl)
 ·refine kN ?_;refine aC (c0 (V:=.bool) (hc:=λ w1 hw=>Dc n w1)) (λ x12 h12=>?_);refine J1 ?_
  refine aZ (λ c10=>?_) (λ c10=>?_)
  ·have k22:n.kind=3∨n.kind=5∨n.kind=6:=h12.1 c10
   refine gU ?_;refine J8 ?_
   refine bK Tryz.results133 (λ w hw=>?_)
   refine⟨?_,hw.done⟩
   (rw[show gO n=some n.prev by simp only[gO];rw[if_neg c4,if_pos k22]];rfl)
  ·have k22:¬(n.kind=3∨n.kind=5∨n.kind=6):=λ k=>by rw[h12.2 k] at c10;cases c10
   refine gU ?_;refine Qd ?_
   refine aZ (λ c15=>?_) (λ c15=>?_)
   ·refine gU ?_;refine J8 ?_
    refine bK Tryz.results133 (λ w hw=>?_)
    refine⟨?_,hw.done⟩
    (rw[show gO n=some n.status by simp only[gO];rw[if_neg c4,if_neg k22,if_pos c15]];rfl)
   ·refine lM ?_;refine F5 ?_
    refine bK Tryz.results133 (λ w hw=>?_)
    refine⟨?_,hw.done⟩
    (rw[show gO n=none by simp only[gO];rw[if_neg c4,if_neg k22,if_neg c15]];rfl)
end

/- Proper states: the walk through the program's check. -/
section
open Go.RowKit Go.Ct
set_option maxRecDepth 100000 in
theorem M2{L:List aL}{cs:List Int}{gen:Int}{pn pc:Option Addr}{cn cc:Nat}{w:World}(h:gS w L cs pn pc)(hL:L.length<=274877906944)(hC:cs.length<=274877906944) :
    Calls Tryz.prog 96 #[.agg ⟨[.slice pn L.length cn,.slice pc cs.length cc,.int .i64 gen]⟩] w λ e w'=>∃r:Bool,e=.returned (.bool r)/\(r=true↔dM L cs gen)/\St w [] [] w':=by
  refine enter Tryz.func96 Tryz.ntmps96 rfl rfl h.start ?_
  simp only[cP]
  refine J0 ?_;refine bP (λ x1=>?_);refine gP ?_;refine gU ?_;refine dI ?_;refine Ec ?_
  (refine eF 14 (λ g14=>?_) (λ g14=>?_)<;>refine Ka1 ?_)
  all_goals (refine wa ?_;refine aI ?_)
  all_goals
   refine aZ (λ c18=>?_) (λ c18=>?_)
   · all_goals refine cQ ?_
     all_goals
      refine aQ Tryz.results96 (λ w hw=>?_)
      exact⟨false,rfl,⟨(λ h=>nomatch h),λ hp=>by have h1:=hp.two;have h2:=hp.gen0;exfalso;omega⟩,hw.done⟩
   · try exact nv c18
     all_goals (refine jM ?_;refine gU ?_;refine aE (mV (k:=0) rf rf fE fX fin (by omega) (by omega)) rfl ?_;refine aD ?_;refine aE (E2 (q:=0) rf gA fin (by omega)) rfl ?_;refine jS ?_;refine aB ?_)
     all_goals ((refine eF 25 (λ g25=>?_) (λ g25=>?_)<;>refine Ka1 ?_))
     all_goals (refine Ka2 ?_;(first|refine aH ?_|(refine aF ?_;refine aE (mV (k:=1) rf rf fE fX fin (by omega) (by omega)) rfl ?_));refine Ka1 ?_;(first|refine aH ?_|(refine aF ?_;refine aE (E2 (q:=1) rf gA fin (by omega)) rfl ?_));refine Ua ?_;refine aI ?_)
     all_goals
      refine aZ (λ c32=>?_) (λ c32=>?_)
      · all_goals refine cQ ?_
        all_goals
         refine aQ Tryz.results96 (λ w hw=>?_)
         exact⟨false,rfl,⟨(λ h=>nomatch h),λ hp=>by have h1:=hp.m0;have h2:=hp.m1;exfalso;omega⟩,hw.done⟩
      · try exact nv c32
        all_goals (refine jM ?_;refine gU ?_;refine Kb8 ?_)
        all_goals
         refine eY [2,4,36,37,38,39,40,41,42,43,44,45,46] (λ k=>[(36,.int .i64 ((k:Nat):Int))]) (λ k=>k<=cs.length/\∀i,i<k->Db (cs.getD i 0) L.length) (λ k=>cs.length-k) (0) (⟨Nat.zero_le _,λ i hi=>absurd hi (Nat.not_lt_zero i)⟩) ?_ (λ k f hx=>?_)
         · repeat (first|exact bB _|refine aY (by exact rfl) ?_)
         dsimp only[fY,List.map,List.cons_append,List.nil_append]
         refine Kb4 ?_
         refine aZ (λ c37=>?_) (λ c37=>?_)
         · refine Kc9 ?_;refine To ?_;refine Ka3 ?_;refine Mx ?_;refine aU (cV (hc:=λ w1 hw=>uF _ _ w1)) (λ x44=>?_);refine mS ?_
           refine aZ (λ c45=>?_) (λ c45=>?_)
           · refine cQ ?_
             refine aQ Tryz.results96 (λ w hw=>?_)
             exact⟨false,rfl,⟨(λ h=>nomatch h),λ hp=>absurd (hp.cells k (by omega)) (by assumption)⟩,hw.done⟩
           · refine Kc4 ?_
             refine dO (k+1) ?_ ?_ ?_
             · omega
             · repeat' (first|exact bB _|refine aY ?_ ?_)
               exact rfl
             · exact⟨by omega,λ i hi=>by rcases Nat.lt_succ_iff_lt_or_eq.1 hi with h|rfl;exact hx.2 i h;assumption⟩
         · refine bI rfl ?_;refine gU ?_;refine dI ?_;refine Bo (λ x50=>?_);refine gP ?_;refine gU ?_;refine Kb8 ?_
           have hcells:∀i,i<cs.length->Db (cs.getD i 0) L.length:=λ i hi=>hx.2 i (by omega)
           clear hx
           refine lE [2,7,8,9,54,55,56,57,58,59,60,61,62,63,64,65,66,67,68,69,70,71,72,73,74,75,76,77,78,79,80,81,82,83,84,85,86,87,88,89,90,91,92,93,94,95,96,97,98,99,100,101,102,103] (λ y:Nat×List Bool=>[(54,.int .i64 ((y.1:Nat):Int))]) (λ y=>y.1<=L.length/\marks cs.length (L.take y.1)=some y.2/\∀i,i<y.1->lW gen L.length (L.getD i aL.zero)) (λ _=>_) (λ _=>_) (λ y=>[⟨some ⟨x50,0,none⟩,iH y.2,cs.length,4,1⟩]) (λ y=>L.length-y.1) ((0,List.replicate cs.length false)) (⟨Nat.zero_le _,rfl,λ i hi=>absurd hi (Nat.not_lt_zero i)⟩) (λ y f hx=>?_)
           dsimp only[fY,List.map,List.cons_append,List.nil_append]
           have hu:=Av hx.2.1
           refine Kb4 ?_
           refine aZ (λ c55=>?_) (λ c55=>?_)
           · refine Kc9 ?_;refine To ?_;refine aP (λ x7=>?_);refine J5 ?_;refine aR ?_;refine kN ?_;refine aC (c0 (V:=.bool) (hc:=λ w1 hw=>Vm (hw.fq h.fit (by omega)))) (λ x59 h59=>?_);refine C4 ?_
             (refine eF 61 (λ g61=>?_) (λ g61=>?_)<;>refine Ka1 ?_)
             all_goals (refine zI ?_;refine Ez ?_;refine aB ?_)
             all_goals (first|refine aH ?_|(refine eF 68 (λ g68=>?_) (λ g68=>?_)<;>refine Ka2 ?_))
             all_goals (refine Um ?_;(first|refine aH ?_|(refine aF ?_;refine aC (c0 (V:=.bool) (hc:=λ w1 hw=>Jf (hw.fq h.fit (by omega)).brN (hw.fq h.fit (by omega)).br (hw.fq h.fit (by omega)).brS)) (λ x73 h73=>?_)));refine Rx ?_;refine aI ?_)
             all_goals
              refine aZ (λ c75=>?_) (λ c75=>?_)
              · all_goals refine cQ ?_
                all_goals
                 refine aQ Tryz.results96 (λ w hw=>?_)
                 refine⟨false,rfl,⟨(λ h=>nomatch h),λ hp=>?_⟩,hw.done⟩
                 obtain⟨q1,q2,q3⟩:=hp.nodes y.1 (by omega)
                 first|(exfalso;omega)|(have:=h59.2 q1;simp_all;done) 
              · try exact nv c75
                all_goals
                 have hok:lW gen L.length (L.getD y.1 aL.zero):=⟨h59.1 (by simp_all),by omega,h73.1 (by simp_all)⟩
                all_goals (refine bA ?_;refine kN ?_;refine aU (cV (hc:=λ w1 hw=>Zf (L.getD y.1 aL.zero).nd w1)) (λ x78=>?_);refine Kb9 ?_;refine mS ?_)
                all_goals
                 refine aZ (λ c82=>?_) (λ c82=>?_)
                 · have hmk:eQ (some y.2) (L.getD y.1 aL.zero).nd=some y.2:=by
                    have e:gO (L.getD y.1 aL.zero).nd=none:=by cases hq:gO (L.getD y.1 aL.zero).nd<;>simp_all
                    simp only[eQ,e]
                   refine bI rfl ?_;refine Ka5 ?_
                   refine gC ((y.1+1,(eQ (some y.2) (L.getD y.1 aL.zero).nd).getD y.2)) ?_ (hw1:=λ w hw=>by rw[hmk];exact hw.back)
                   · refine⟨by omega,by rw[rH (by omega),hx.2.1,hmk];rfl,λ i hi=>?_⟩
                     rcases Nat.lt_succ_iff_lt_or_eq.1 hi with h|rfl
                     · exact hx.2.2 i h
                     · exact hok
                 · obtain⟨c,hc⟩:∃c,gO (L.getD y.1 aL.zero).nd=some c:=Option.isSome_iff_exists.1 c82
                   rw[hc,Option.getD_some]
                   refine jM ?_;refine J2 ?_;refine Ec ?_
                   (refine eF 85 (λ g85=>?_) (λ g85=>?_)<;>refine Ka0 ?_)
                   all_goals (refine Um ?_;refine Ez ?_;refine aB ?_)
                   all_goals (first|refine aH ?_|(refine eF 92 (λ g92=>?_) (λ g92=>?_)<;>refine Ka0 ?_))
                   all_goals (refine Ka0 ?_;(first|refine aH ?_|(refine aF ?_;refine aE (Xs rf rf (by omega) (by omega)) rfl ?_));(first|refine aH ?_|(refine aF ?_;refine aE (uL rf rf fE gA fin (by omega) (by omega)) rfl ?_));(first|refine aH ?_|(refine aF ?_;refine aE (Jk rf gA fin (by omega)) rfl ?_));refine cH ?_;refine aI ?_)
                   all_goals
                    refine aZ (λ c98=>?_) (λ c98=>?_)
                    · all_goals refine cQ ?_
                      all_goals
                       refine aQ Tryz.results96 (λ w hw=>?_)
                       refine⟨false,rfl,⟨(λ h=>nomatch h),λ hp=>?_⟩,hw.done⟩
                       have hm:marks cs.length (L.take (y.1+1))=none:=by
                        rw[rH (by omega),hx.2.1]
                        simp only[eQ,hc]
                        refine if_neg λ hh=>?_
                        obtain⟨q1,q2,q3⟩:=hh
                        first|(exfalso;omega)|(exfalso;rw[q3] at c98;cases c98)
                       exact absurd (Fe hm) hp.marks
                    · try exact nv c98
                      all_goals
                       have hmk:eQ (some y.2) (L.getD y.1 aL.zero).nd=some (y.2.set (c-1).toNat true):=by
                        simp only[eQ,hc]
                        rw[if_pos ⟨by omega,by omega,c98⟩]
                      all_goals (refine bA ?_;refine Kq ?_;refine aE (Xs rf rf (by omega) (by omega)) rfl ?_;refine aE (uL rf rf fE gA fin (by omega) (by omega)) rfl ?_;refine J5 ?_;refine eT ?_;refine Ka5 ?_)
                      all_goals
                       refine gC ((y.1+1,(eQ (some y.2) (L.getD y.1 aL.zero).nd).getD y.2)) ?_ (hw1:=λ w hw=>by rw[hmk];exact hw.back)
                       · refine⟨by omega,by rw[rH (by omega),hx.2.1,hmk];rfl,λ i hi=>?_⟩
                         rcases Nat.lt_succ_iff_lt_or_eq.1 hi with h|rfl
                         · exact hx.2.2 i h
                         · exact hok
           · refine bI rfl ?_;refine cQ ?_
             refine aQ Tryz.results96 (λ w hw=>?_)
             have hy:y.1=L.length:=by omega
             have hmm:marks cs.length L=some y.2:=by have:=hx.2.1;rwa [hy,List.take_length] at this
             exact⟨true,rfl,⟨λ _=>⟨by omega,by omega,by omega,by omega,hcells,λ i hi=>hx.2.2 i (by omega),by rw[hmm];exact λ h=>nomatch h⟩,λ _=>rfl⟩,hw.done⟩
end

end Go.Proofs.YtadnboagdhcedaaGreatDoor
