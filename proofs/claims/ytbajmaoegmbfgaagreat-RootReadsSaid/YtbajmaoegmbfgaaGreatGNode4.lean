/- node.Valid. -/
import Derived.Test.YtbajmaoegmbfgaaGreatGAr5
import Derived.Test.YtbajmaoegmbfgaaGreatGNode2

set_option linter.unusedSimpArgs false
set_option linter.unusedVariables false
namespace Go.Proofs.YtbajmaoegmbfgaaGreat
section
open Go.RowKit Go.Ct
theorem wu(b:Int)(w:World):Calls Tryz.prog 238 #[.int .u64 b] w λ e w'=>e=.returned (.int .i64 (yI b))/\St w [] [] w':=by
 refine enter Tryz.func238 Tryz.ntmps238 rfl rfl (SF.s0 w) ?_
 simp only[cN]
 all_goals (refine dC ?_;refine J2 ?_;refine F7 ?_;refine Ee ?_;refine aA ?_;refine Ee ?_;refine Gk ?_;refine J1 ?_;refine J2 ?_;refine F7 ?_;refine Ee ?_;refine aA ?_;refine Ee ?_;refine Gk ?_;refine J1 ?_;refine J2 ?_;refine F7 ?_;refine aA ?_;refine Gk ?_;refine Ee ?_;refine xT ?_;refine F7 ?_;refine Gk ?_;refine xT ?_;refine F7 ?_;refine Gk ?_;refine xT ?_;refine F7 ?_;refine Gk ?_;refine J1 ?_;refine J2 ?_;refine lP ?_;refine Ee ?_;refine J1 ?_)
 all_goals
 refine aU Tryz.results238 (λ w hw=>?_)
 exact⟨rfl,hw.done⟩
theorem ld(b:Int)(w:World):Calls Tryz.prog 198 #[.int .u64 b] w λ e w'=>e=.returned (.int .i64 (yI b))/\St w [] [] w':=by
 refine enter Tryz.func198 Tryz.ntmps198 rfl rfl (SF.s0 w) ?_
 simp only[cN]
 all_goals (refine dC ?_;refine J2 ?_;refine aY (cV (hc:=λ w1 hw=>wu b w1)) (λ x4=>?_);refine J1 ?_)
 all_goals
 refine aU Tryz.results198 (λ w hw=>?_)
 exact⟨rfl,hw.done⟩
theorem Xi{n:Nd}{xs:List Int}{ys:List Pr}{w:World}(hr:rK w n xs ys) :
  Calls Tryz.prog 158 #[n.v] w λ e w'=>∃r:Bool,e=.returned (.bool r)/\(r=true↔bI n xs ys)/\St w [] [] w':=by
 have e1:=hr.brN;have e2:=hr.prN
 refine enter Tryz.func158 Tryz.ntmps158 rfl rfl (SF.s0 w) ?_
 simp only[cN]
 all_goals (refine J0 ?_;refine bW (λ x1=>?_);refine jM ?_;refine aW ?_;refine dX [(0,[]),(1,[]),(2,[0]),(3,[]),(4,[])] ?_;refine bR ?_;refine bR ?_;refine cL (i:=2) (hq:=(cV (hc:=λ w1 hw=>aAg n w1))) (h:=λ x5=>?_);refine bA (i:=3) (hq:=(c0 (V:=.bool) (hc:=λ w1 hw=>s4 (hr.gM hw.st) (hr.gM hw.st).own))) (h:=λ x6 h6=>?_);refine G6 ?_;refine eC ?_)
 all_goals
 refine bG (λ c7=>?_) (λ c7=>?_)
 ·all_goals refine dC ?_
  all_goals
   refine aU Tryz.results158 (λ w hw=>?_)
   refine⟨_,rfl,?_,hw.done⟩
   first|(simp_all[bI];done)|(simp_all[bI];omega)
 ·all_goals (refine lG ?_;refine iZ ?_;refine Ju ?_)
  all_goals ((refine fS 11 (λ g11=>?_) (λ g11=>?_)<;>(first|refine aN ?_|(refine aF ?_;refine aE ?_))))
  all_goals (refine xe ?_;refine aA ?_)
  all_goals (first|refine aN ?_|(refine fS 16 (λ g16=>?_) (λ g16=>?_)<;>(first|refine aN ?_|(refine aF ?_;refine aE ?_))))
  all_goals (refine xe ?_;refine aH ?_)
  all_goals
   refine bG (λ c20=>?_) (λ c20=>?_)
   ·all_goals refine dC ?_
    all_goals
    refine aU Tryz.results158 (λ w hw=>?_)
    refine⟨_,rfl,?_,hw.done⟩
    first|(simp_all[bI];done)|(simp_all[bI];omega)
   ·try exact nv c20
    all_goals (refine lG ?_;refine iZ ?_;refine aH ?_;refine dE ?_;refine Da ?_;refine Da ?_;refine Da ?_;refine Da ?_;refine dE ?_;refine Da ?_;refine Da ?_;refine Da ?_;refine aW ?_;refine aW ?_;refine lR ?_)
    all_goals
    refine bG (λ c23=>?_) (λ c23=>?_)
    ·all_goals (refine bV rfl ?_;refine aW ?_;refine dC ?_)
     all_goals
      refine aU Tryz.results158 (λ w hw=>?_)
      refine⟨_,rfl,?_,hw.done⟩
      first|(simp_all[bI];done)|(simp_all[bI];omega)
    ·all_goals (refine lG ?_;refine lR ?_)
     all_goals
      refine bG (λ c25=>?_) (λ c25=>?_)
      ·all_goals (refine bV rfl ?_;refine Cs ?_;refine nS ?_;refine J1 ?_)
       all_goals
       refine aU Tryz.results158 (λ w hw=>?_)
       refine⟨_,rfl,?_,hw.done⟩
       first|(simp_all[bI];done)|(simp_all[bI];omega)
      ·all_goals (refine lG ?_;refine lR ?_)
       all_goals
       refine bG (λ c27=>?_) (λ c27=>?_)
       ·all_goals (refine bV rfl ?_;refine aW ?_;refine aW ?_;refine dX [(0,[]),(1,[]),(2,[]),(3,[]),(4,[]),(5,[1]),(6,[]),(7,[]),(8,[]),(9,[]),(10,[]),(11,[]),(12,[])] ?_;refine nA ?_;refine mP ?_;refine nA ?_;refine cL (i:=5) (hq:=(cV (hc:=λ w1 hw=>ld n.bm w1))) (h:=λ x47=>?_);refine kQ ?_;refine aQ ?_)
        all_goals ((refine Xv 49 (λ g49=>?_) (λ g49=>?_)<;>(first|refine dL ?_|(refine aT ?_))))
        all_goals ((first|refine dL ?_|(refine bR ?_));(first|refine dL ?_|(refine bA (i:=10) (hq:=(c0 (V:=.bool) (hc:=λ w1 hw=>by rw[e1];exact Q3 (hr.br.gM hw.st) hr.brS))) (h:=λ x52 h52=>?_)));refine fK ?_;refine J7 ?_)
        all_goals
         refine aU Tryz.results158 (λ w hw=>?_)
         refine⟨_,rfl,?_,hw.done⟩
         first|(simp_all[bI];done)|(simp_all[bI];omega)
       ·all_goals (refine lG ?_;refine lR ?_)
        all_goals
         refine bG (λ c29=>?_) (λ c29=>?_)
         ·all_goals (refine Xq ?_;refine Cs ?_;refine mL ?_;refine zO ?_;refine J1 ?_)
          all_goals
          refine aU Tryz.results158 (λ w hw=>?_)
          refine⟨_,rfl,?_,hw.done⟩
          first|(simp_all[bI];done)|(simp_all[bI];omega)
         ·all_goals (refine lG ?_;refine lR ?_)
          all_goals
          refine bG (λ c31=>?_) (λ c31=>?_)
          ·all_goals (refine bV rfl ?_;refine Cs ?_;refine mL ?_;refine zO ?_;refine J1 ?_)
           all_goals
            refine aU Tryz.results158 (λ w hw=>?_)
            refine⟨_,rfl,?_,hw.done⟩
            first|(simp_all[bI];done)|(simp_all[bI];omega)
          ·all_goals (refine lG ?_;refine lR ?_)
           all_goals
            refine bG (λ c33=>?_) (λ c33=>?_)
            ·all_goals (refine bV rfl ?_;refine Cs ?_;refine eH ?_;refine nS ?_;refine aA ?_)
             all_goals ((refine fS 62 (λ g62=>?_) (λ g62=>?_)<;>(first|refine aN ?_|(refine aF ?_;refine aE ?_))))
             all_goals ((first|refine aN ?_|(refine aF ?_;refine bX ?_));(first|refine aN ?_|(refine aF ?_;refine aC (c0 (V:=.bool) (hc:=λ w1 hw=>by rw[e2];exact Vk (hr.pr.gM hw.st) hr.prS)) (λ x65 h65=>?_)));refine cX ?_;refine aA ?_)
             all_goals (first|refine aN ?_|(refine fS 67 (λ g67=>?_) (λ g67=>?_)<;>(first|refine aN ?_|(refine aF ?_;refine aE ?_))))
             all_goals ((first|refine aN ?_|(refine aF ?_;refine bX ?_));(first|refine aN ?_|(refine aF ?_;refine aC (c0 (V:=.bool) (hc:=λ w1 hw=>by rw[e2];exact Pf (hr.pr.gM hw.st) hr.prS)) (λ x70 h70=>?_)));refine cX ?_;refine J1 ?_)
             all_goals
             refine aU Tryz.results158 (λ w hw=>?_)
             refine⟨_,rfl,?_,hw.done⟩
             first|(simp_all[bI];done)|(simp_all[bI];omega)
            ·all_goals (refine lG ?_;refine lR ?_)
             all_goals
             refine bG (λ c35=>?_) (λ c35=>?_)
             ·all_goals (refine bV rfl ?_;refine iZ ?_;refine Ju ?_)
              all_goals ((refine fS 75 (λ g75=>?_) (λ g75=>?_)<;>(first|refine aN ?_|(refine aF ?_;refine aE ?_))))
              all_goals (refine xe ?_;refine aH ?_)
              all_goals
               refine bG (λ c79=>?_) (λ c79=>?_)
               ·all_goals refine dC ?_
                all_goals
                refine aU Tryz.results158 (λ w hw=>?_)
                refine⟨_,rfl,?_,hw.done⟩
                first|(simp_all[bI];done)|(simp_all[bI];omega)
               ·try exact nv c79
                all_goals (refine oD ?_;refine Cs ?_;refine nS ?_;refine J1 ?_)
                all_goals
                refine aU Tryz.results158 (λ w hw=>?_)
                refine⟨_,rfl,?_,hw.done⟩
                first|(simp_all[bI];done)|(simp_all[bI];omega)
             ·all_goals (refine bD ?_;refine lR ?_)
              all_goals
               refine bG (λ c37=>?_) (λ c37=>?_)
               ·all_goals (refine bV rfl ?_;refine Cs ?_;refine nS ?_;refine J1 ?_)
                all_goals
                refine aU Tryz.results158 (λ w hw=>?_)
                refine⟨_,rfl,?_,hw.done⟩
                first|(simp_all[bI];done)|(simp_all[bI];omega)
               ·all_goals (refine bD ?_;refine bV rfl ?_;refine dC ?_)
                all_goals
                refine aU Tryz.results158 (λ w hw=>?_)
                refine⟨_,rfl,?_,hw.done⟩
                first|(simp_all[bI];done)|(simp_all[bI];omega)
end

/- Proper states: the program's check. -/
end Go.Proofs.YtbajmaoegmbfgaaGreat
namespace Go.Ct
section
def eP(n:Nd):Option Int:=if n.kind=2 then some n.main else if n.kind=3∨n.kind=5∨n.kind=6 then some n.prev else if n.kind=8 then some n.status else none
def gD(u:Option (List Bool))(n:Nd):Option (List Bool) :=
 match u with
 | none=>none
 | some u=>match eP n with
  | none=>some u
  | some c=>if 1<=c/\c<=u.length/\u.getD (c-1).toNat false=false then some (u.set (c-1).toNat true) else none
def marks(m:Nat)(L:List aX):Option (List Bool):=L.foldl (λ u v=>gD u v.nd) (some (List.replicate m false))
theorem yR{m:Nat}{L:List aX}{k:Nat}(h:k<L.length):marks m (L.take (k+1))=gD (marks m (L.take k)) (L.getD k aX.zero).nd:=by
 rw[marks,List.take_succ_eq_append_getElem h,List.foldl_append,lB,List.getElem?_eq_getElem h]
 rfl
theorem P7{m:Nat}{L:List aX}{k:Nat}(h:marks m (L.take k)=none):marks m L=none:=by
 have e:L=L.take k++L.drop k:=(List.take_append_drop k L).symm
 rw[e,marks,List.foldl_append]
 rw[marks] at h
 rw[h]
 generalize L.drop k=l
 induction l with
 | nil=>rfl
 | cons v l ih=>exact ih
theorem Jh{m:Nat}:∀{L:List aX} {u:List Bool},marks m L=some u->u.length=m:=by
 intro L
 have key:∀(l:List aX) (u0:Option (List Bool)),(∀u,u0=some u->u.length=m)->∀u,l.foldl (λ u v=>gD u v.nd) u0=some u->u.length=m:=by
  intro l
  induction l with
  | nil=>intro u0 h u hu;exact h u hu
  | cons v l ih =>
   intro u0 h u hu
   refine ih (gD u0 v.nd) (λ u1 h1=>?_) u hu
   cases u0 with
   | none=>simp[gD] at h1
   | some u2 =>
    have:=h u2 rfl
    simp only[gD] at h1
    cases hc:eP v.nd with
    | none=>rw[hc] at h1;simp only[Option.some.injEq] at h1;rw[<- h1];exact this
    | some c =>
     rw[hc] at h1
     simp only at h1
     split at h1
     ·simp only[Option.some.injEq] at h1;rw[<- h1,List.length_set];exact this
     ·cases h1
 intro u hu
 exact key L _ (λ u h=>by simp only[Option.some.injEq] at h;rw[<- h];simp) u hu
def F6(r:Int)(n:Nat):Prop:=0<=r/\r<=(n:Int)
instance (r:Int) (n:Nat):Decidable (F6 r n):=inferInstanceAs (Decidable (0<=r/\r<=(n:Int)))
theorem wx{r:Int}{n:Nat}(h:0<=r):decide (F6 r n)=decide (r<=(n:Int)):=by
 by_cases h2:r<=(n:Int)
 ·rw[decide_eq_true h2,decide_eq_true ⟨h,h2⟩]
 ·rw[decide_eq_false h2,decide_eq_false λ h3=>h2 h3.2]
def Qy(n:Nd)(xs:List Int)(N:Nat):Prop:=(∀i,i<xs.length->F6 (xs.getD i 0) N)/\F6 n.bF N/\F6 n.exp N/\F6 n.new N
def nQ(gen:Int)(N:Nat)(v:aX):Prop:=bI v.nd v.xs v.ys/\v.nd.gen<=gen/\Qy v.nd v.xs N
structure mD(L:List aX)(cs:List Int)(gen:Int):Prop where
 two:2<=L.length
 gen0:0<=gen
 m0:(L.getD 0 aX.zero).nd.kind=1
 m1:(L.getD 1 aX.zero).nd.kind=1
 cells:∀i,i<cs.length->F6 (cs.getD i 0) L.length
 nodes:∀i,i<L.length->nQ gen L.length (L.getD i aX.zero)
 marks:marks cs.length L≠none
end
end Go.Ct
namespace Go.Proofs.YtbajmaoegmbfgaaGreat
section
open Go.RowKit Go.Ct
theorem uY(r:Int)(n:Nat)(w:World):Calls Tryz.prog 157 #[.int .i64 r,.int .i64 ((n:Nat):Int)] w λ e w'=>e=.returned (.bool (decide (F6 r n)))/\St w [] [] w':=by
 refine enter Tryz.func157 Tryz.ntmps157 rfl rfl (SF.s0 w) ?_
 simp only[cN]
 all_goals (refine dC ?_;refine J2 ?_;refine nS ?_;refine aA ?_)
 all_goals ((refine fS 7 (λ g7=>?_) (λ g7=>?_)<;>(first|refine aN ?_|(refine aF ?_;refine aA ?_))))
 all_goals ((first|refine aN ?_|(refine aF ?_;refine aA ?_));(first|refine aN ?_|(refine aF ?_;refine zO ?_));refine cX ?_;refine J1 ?_)
 all_goals
 refine aU Tryz.results157 (λ w hw=>?_)
 refine⟨?_,hw.done⟩
 first|(rw[decide_eq_true (show F6 r n from⟨by omega,by omega⟩)];first|rfl|(rw[decide_eq_true (by omega)];rfl))|(rw[decide_eq_false (show ¬F6 r n from λ h=>by have:=h.1;have:=h.2;omega)];first|rfl|(rw[decide_eq_false (by omega)];rfl))|(rw[wx (by omega)];rfl)
theorem Ma{n:Nd}{xs:List Int}{N:Nat}{w:World}(e1:n.brN=xs.length)(ha:Cl w n.brA (aG xs))(hx:xs.length<4611686018427387904) :
  Calls Tryz.prog 159 #[n.v,.int .i64 ((N:Nat):Int)] w λ e w'=>∃r:Bool,e=.returned (.bool r)/\(r=true↔Qy n xs N)/\St w [] [] w':=by
 refine enter Tryz.func159 Tryz.ntmps159 rfl rfl (SF.s1 ha) ?_
 simp only[cN]
 simp only[Nd.v,Nd.cells,e1]
 all_goals (refine J0 ?_;refine bW (λ x2=>?_);refine jM ?_;refine iZ ?_;refine eH ?_;refine B5 ?_;refine dE ?_)
 all_goals
 refine oR [4,6,10,11,12,13,14,15,16,17,18] (λ k=>[(10,.int .i64 ((k:Nat):Int))]) (λ k=>k<=xs.length/\∀i,i<k->F6 (xs.getD i 0) N) (λ k=>_) (λ _=>_) (λ _=>_) (λ k=>xs.length-k) (0) (⟨Nat.zero_le _,λ i hi=>absurd hi (Nat.not_lt_zero i)⟩) (λ k f hx=>?_)
 dsimp only[iL,List.map,List.cons_append,List.nil_append]
 all_goals (refine J0 ?_;refine yQ ?_;refine aW ?_)
 all_goals
  refine bG (λ c11=>?_) (λ c11=>?_)
  ·all_goals (refine qD ?_;refine J0 ?_;refine S9 ?_;refine xT ?_;refine aY (cV (hc:=λ w1 hw=>uY _ N w1)) (λ x16=>?_);refine qT ?_)
   all_goals
   refine bG (λ c17=>?_) (λ c17=>?_)
   ·all_goals refine dC ?_
    all_goals
     refine aU Tryz.results159 (λ w hw=>?_)
     exact⟨false,rfl,⟨(λ h=>nomatch h),λ h=>absurd (h.1 k (by omega)) (by assumption)⟩,hw.done⟩
   ·all_goals (refine oD ?_;refine Ss ?_;refine B5 ?_)
    all_goals
     refine jJ (k+1) ?_
     ·exact⟨by omega,λ i hi=>by rcases Nat.lt_succ_iff_lt_or_eq.1 hi with h|rfl;exact hx.2 i h;assumption⟩
  ·all_goals (refine bV rfl ?_;refine iZ ?_;refine aA ?_;refine aY (cV (hc:=λ w1 hw=>uY _ N w1)) (λ x22=>?_);refine aA ?_)
   all_goals ((refine fS 23 (λ g23=>?_) (λ g23=>?_)<;>(first|refine aN ?_|(refine aF ?_;refine aE ?_))))
   all_goals (refine jb ?_;(first|refine aN ?_|(refine aF ?_;refine aY (cV (hc:=λ w1 hw=>uY _ N w1)) (λ x27=>?_)));refine cX ?_;refine aA ?_)
   all_goals (first|refine aN ?_|(refine fS 29 (λ g29=>?_) (λ g29=>?_)<;>(first|refine aN ?_|(refine aF ?_;refine aE ?_))))
   all_goals (refine jb ?_;(first|refine aN ?_|(refine aF ?_;refine aY (cV (hc:=λ w1 hw=>uY _ N w1)) (λ x33=>?_)));refine cX ?_;refine J1 ?_)
   all_goals
   refine aU Tryz.results159 (λ w hw=>?_)
   have hall:∀i,i<xs.length->F6 (xs.getD i 0) N:=λ i hi=>hx.2 i (by omega)
   first|exact⟨_,rfl,by simp_all[Qy],hw.done⟩
theorem gq(n:Nd)(w:World):Calls Tryz.prog 160 #[n.v] w λ e w'=>e=.returned (.tuple #[.int .i64 ((eP n).getD 0),.bool (eP n).isSome])/\St w [] [] w':=by
  refine enter Tryz.func160 Tryz.ntmps160 rfl rfl (SF.s0 w) ?_
  simp only[cN]
  simp only[Nd.v,Nd.cells]
  all_goals (refine J0 ?_;refine bW (λ x1=>?_);refine J8 ?_;refine Da ?_;refine iZ ?_;refine S2 ?_)
  all_goals
   refine bG (λ c4=>?_) (λ c4=>?_)
   · all_goals (refine iZ ?_;refine J8 ?_)
     all_goals
      refine bE Tryz.results160 (λ w hw=>?_)
      refine⟨?_,hw.done⟩
      first|(rw[show eP n=some n.main by simp[eP,c4]];rfl)|(rw[show eP n=some n.prev by simp only[eP];rw[if_neg c4,if_pos k22]];rfl)|(rw[show eP n=some n.status by simp only[eP];rw[if_neg c4,if_neg k22,if_pos c15]];rfl)|(rw[show eP n=none by simp only[eP];rw[if_neg c4,if_neg k22,if_neg c15]];rfl)
   · all_goals (refine qF ?_;refine aC (c0 (V:=.bool) (hc:=λ w1 hw=>Q1 n w1)) (λ x12 h12=>?_);refine J1 ?_)
     all_goals
      refine bG (λ c10=>?_) (λ c10=>?_)
      · all_goals
         have k22:n.kind=3∨n.kind=5∨n.kind=6:=h12.1 c10
        all_goals (refine iZ ?_;refine J8 ?_)
        all_goals
         refine bE Tryz.results160 (λ w hw=>?_)
         refine⟨?_,hw.done⟩
         first|(rw[show eP n=some n.main by simp[eP,c4]];rfl)|(rw[show eP n=some n.prev by simp only[eP];rw[if_neg c4,if_pos k22]];rfl)|(rw[show eP n=some n.status by simp only[eP];rw[if_neg c4,if_neg k22,if_pos c15]];rfl)|(rw[show eP n=none by simp only[eP];rw[if_neg c4,if_neg k22,if_neg c15]];rfl)
      · all_goals
         have k22:¬(n.kind=3∨n.kind=5∨n.kind=6):=λ k=>by rw[h12.2 k] at c10;cases c10
        all_goals (refine iZ ?_;refine S2 ?_)
        all_goals
         refine bG (λ c15=>?_) (λ c15=>?_)
         · all_goals (refine iZ ?_;refine J8 ?_)
           all_goals
            refine bE Tryz.results160 (λ w hw=>?_)
            refine⟨?_,hw.done⟩
            first|(rw[show eP n=some n.main by simp[eP,c4]];rfl)|(rw[show eP n=some n.prev by simp only[eP];rw[if_neg c4,if_pos k22]];rfl)|(rw[show eP n=some n.status by simp only[eP];rw[if_neg c4,if_neg k22,if_pos c15]];rfl)|(rw[show eP n=none by simp only[eP];rw[if_neg c4,if_neg k22,if_neg c15]];rfl)
         · all_goals (refine oD ?_;refine dh ?_)
           all_goals
            refine bE Tryz.results160 (λ w hw=>?_)
            refine⟨?_,hw.done⟩
            first|(rw[show eP n=some n.main by simp[eP,c4]];rfl)|(rw[show eP n=some n.prev by simp only[eP];rw[if_neg c4,if_pos k22]];rfl)|(rw[show eP n=some n.status by simp only[eP];rw[if_neg c4,if_neg k22,if_pos c15]];rfl)|(rw[show eP n=none by simp only[eP];rw[if_neg c4,if_neg k22,if_neg c15]];rfl)
end

/- Proper states: the walk through the program's check. -/
section
open Go.RowKit Go.Ct
set_option maxRecDepth 100000 in
theorem Np{L:List aX}{cs:List Int}{gen:Int}{pn pc:Option Addr}{cn cc:Nat}{w:World}(h:C8 w L cs pn pc)(hL:L.length<=274877906944)(hC:cs.length<=274877906944) :
    Calls Tryz.prog 117 #[.agg ⟨[.slice pn L.length cn,.slice pc cs.length cc,.int .i64 gen]⟩] w λ e w'=>∃r:Bool,e=.returned (.bool r)/\(r=true↔mD L cs gen)/\St w [] [] w':=by
  refine enter Tryz.func117 Tryz.ntmps117 rfl rfl h.start ?_
  simp only[cN]
  all_goals (refine J0 ?_;refine bW (λ x1=>?_);refine jM ?_;refine iZ ?_;refine eH ?_;refine Ju ?_)
  all_goals ((refine fS 14 (λ g14=>?_) (λ g14=>?_)<;>(first|refine aN ?_|(refine aF ?_;refine aE ?_))))
  all_goals (refine xe ?_;refine aH ?_)
  all_goals
   refine bG (λ c18=>?_) (λ c18=>?_)
   · all_goals refine dC ?_
     all_goals
      refine aU Tryz.results117 (λ w hw=>?_)
      exact⟨false,rfl,⟨(λ h=>nomatch h),λ hp=>by have h1:=hp.two;have h2:=hp.gen0;exfalso;omega⟩,hw.done⟩
   · try exact nv c18
     all_goals (refine lG ?_;refine iZ ?_;refine aB (zX (k:=0) rf rf gK cD fin (by omega) (by omega)) rfl ?_;refine aE ?_;refine aB (Hh (q:=0) rf cG fin (by omega)) rfl ?_;refine pP ?_;refine aA ?_)
     all_goals ((refine fS 25 (λ g25=>?_) (λ g25=>?_)<;>(first|refine aN ?_|(refine aF ?_;refine aE ?_))))
     all_goals ((first|refine aN ?_|(refine aF ?_;refine bX ?_));(first|refine aN ?_|(refine aF ?_;refine aB (zX (k:=1) rf rf gK cD fin (by omega) (by omega)) rfl ?_));(first|refine aN ?_|(refine aF ?_;refine aE ?_));(first|refine aN ?_|(refine aF ?_;refine aB (Hh (q:=1) rf cG fin (by omega)) rfl ?_));refine Sj ?_;refine aH ?_)
     all_goals
      refine bG (λ c32=>?_) (λ c32=>?_)
      · all_goals refine dC ?_
        all_goals
         refine aU Tryz.results117 (λ w hw=>?_)
         exact⟨false,rfl,⟨(λ h=>nomatch h),λ hp=>by have h1:=hp.m0;have h2:=hp.m1;exfalso;omega⟩,hw.done⟩
      · try exact nv c32
        all_goals (refine lG ?_;refine iZ ?_;refine eH ?_;refine B5 ?_;refine dE ?_)
        all_goals
         refine fZ [2,4,36,37,38,39,40,41,42,43,44,45,46] (λ k=>[(36,.int .i64 ((k:Nat):Int))]) (λ k=>k<=cs.length/\∀i,i<k->F6 (cs.getD i 0) L.length) (λ k=>cs.length-k) (0) (⟨Nat.zero_le _,λ i hi=>absurd hi (Nat.not_lt_zero i)⟩) ?_ (λ k f hx=>?_)
         · repeat (first|exact bK _|refine bC (by first|exact rfl|(conv=>{lhs;whnf};simp;done)) ?_)
         dsimp only[iL,List.map,List.cons_append,List.nil_append]
         all_goals (refine J0 ?_;refine yQ ?_;refine aW ?_)
         all_goals
          refine bG (λ c37=>?_) (λ c37=>?_)
          · all_goals (refine qD ?_;refine J0 ?_;refine S9 ?_;refine J1 ?_;refine J2 ?_;refine Hr ?_;refine aY (cV (hc:=λ w1 hw=>uY _ _ w1)) (λ x44=>?_);refine qT ?_)
            all_goals
             refine bG (λ c45=>?_) (λ c45=>?_)
             · all_goals refine dC ?_
               all_goals
                refine aU Tryz.results117 (λ w hw=>?_)
                exact⟨false,rfl,⟨(λ h=>nomatch h),λ hp=>absurd (hp.cells k (by omega)) (by assumption)⟩,hw.done⟩
             · all_goals (refine oD ?_;refine Ss ?_;refine B5 ?_)
               all_goals
                refine eU (k+1) ?_ ?_ ?_
                · first|omega|(simp only[];omega)
                · repeat' (first|exact bK _|refine bC ?_ ?_)
                  all_goals (first|exact rfl|(conv=>{lhs;whnf};simp;done)|(conv=>{lhs;whnf};congr 1;omega))
                · exact⟨by omega,λ i hi=>by rcases Nat.lt_succ_iff_lt_or_eq.1 hi with h|rfl;exact hx.2 i h;assumption⟩
          · all_goals (refine bV rfl ?_;refine iZ ?_;refine eH ?_;refine qU (λ x50=>?_);refine jM ?_;refine iZ ?_;refine eH ?_;refine B5 ?_;refine dE ?_)
            all_goals
             have hcells:∀i,i<cs.length->F6 (cs.getD i 0) L.length:=λ i hi=>hx.2 i (by omega)
             clear hx
             refine oR [2,7,8,9,54,55,56,57,58,59,60,61,62,63,64,65,66,67,68,69,70,71,72,73,74,75,76,77,78,79,80,81,82,83,84,85,86,87,88,89,90,91,92,93,94,95,96,97,98,99,100,101,102,103] (λ y:Nat×List Bool=>[(54,.int .i64 ((y.1:Nat):Int))]) (λ y=>y.1<=L.length/\marks cs.length (L.take y.1)=some y.2/\∀i,i<y.1->nQ gen L.length (L.getD i aX.zero)) (λ _=>_) (λ _=>_) (λ y=>[⟨some ⟨x50,0,none⟩,kV y.2,cs.length,4,1⟩]) (λ y=>L.length-y.1) ((0,List.replicate cs.length false)) (⟨Nat.zero_le _,rfl,λ i hi=>absurd hi (Nat.not_lt_zero i)⟩) (λ y f hx=>?_)
             dsimp only[iL,List.map,List.cons_append,List.nil_append]
             have hu:=Jh hx.2.1
             all_goals (refine J0 ?_;refine yQ ?_;refine aW ?_)
             all_goals
              refine bG (λ c55=>?_) (λ c55=>?_)
              · all_goals (refine qD ?_;refine J0 ?_;refine S9 ?_;refine aJ (λ x7=>?_);refine J5 ?_;refine aW ?_;refine qF ?_;refine aC (c0 (V:=.bool) (hc:=λ w1 hw=>Xi (hw.jq h.fit (by omega)))) (λ x59 h59=>?_);refine Hp ?_)
                all_goals ((refine fS 61 (λ g61=>?_) (λ g61=>?_)<;>(first|refine aN ?_|(refine aF ?_;refine aE ?_))))
                all_goals (refine A5 ?_;refine I3 ?_;refine aA ?_)
                all_goals (first|refine aN ?_|(refine fS 68 (λ g68=>?_) (λ g68=>?_)<;>(first|refine aN ?_|(refine aF ?_;refine bX ?_))))
                all_goals (refine je ?_;(first|refine aN ?_|(refine aF ?_;refine aC (c0 (V:=.bool) (hc:=λ w1 hw=>Ma (hw.jq h.fit (by omega)).brN (hw.jq h.fit (by omega)).br (hw.jq h.fit (by omega)).brS)) (λ x73 h73=>?_)));refine Sg ?_;refine aH ?_)
                all_goals
                 refine bG (λ c75=>?_) (λ c75=>?_)
                 · all_goals refine dC ?_
                   all_goals
                    refine aU Tryz.results117 (λ w hw=>?_)
                    refine⟨false,rfl,⟨(λ h=>nomatch h),λ hp=>?_⟩,hw.done⟩
                    obtain⟨q1,q2,q3⟩:=hp.nodes y.1 (by omega)
                    first|(exfalso;omega)|(have:=h59.2 q1;simp_all;done)|(have:=h73.2 q3;simp_all;done)
                 · try exact nv c75
                   all_goals
                    have hok:nQ gen L.length (L.getD y.1 aX.zero):=⟨h59.1 (by simp_all),by omega,h73.1 (by simp_all)⟩
                   all_goals (refine bD ?_;refine qF ?_;refine aY (cV (hc:=λ w1 hw=>gq (L.getD y.1 aX.zero).nd w1)) (λ x78=>?_);refine No ?_;refine J8 ?_;refine lW ?_;refine qT ?_)
                   all_goals
                    refine bG (λ c82=>?_) (λ c82=>?_)
                    · all_goals
                       have hmk:gD (some y.2) (L.getD y.1 aX.zero).nd=some y.2:=by
                        have e:eP (L.getD y.1 aX.zero).nd=none:=by cases hq:eP (L.getD y.1 aX.zero).nd<;>simp_all
                        simp only[gD,e]
                      all_goals (refine bV rfl ?_;refine Ss ?_;refine B5 ?_)
                      all_goals
                       refine jJ ((y.1+1,(gD (some y.2) (L.getD y.1 aX.zero).nd).getD y.2)) ?_ (hw1:=λ w hw=>by rw[hmk];exact hw.back)
                       · refine⟨by omega,by rw[yR (by omega),hx.2.1,hmk];rfl,λ i hi=>?_⟩
                         rcases Nat.lt_succ_iff_lt_or_eq.1 hi with h|rfl
                         · exact hx.2.2 i h
                         · exact hok
                    · all_goals
                       obtain⟨c,hc⟩:∃c,eP (L.getD y.1 aX.zero).nd=some c:=Option.isSome_iff_exists.1 c82
                       rw[hc,Option.getD_some]
                      all_goals (refine lG ?_;refine J2 ?_;refine Ju ?_)
                      all_goals ((refine fS 85 (λ g85=>?_) (λ g85=>?_)<;>(first|refine aN ?_|(refine aF ?_;refine aA ?_))))
                      all_goals (refine je ?_;refine I3 ?_;refine aA ?_)
                      all_goals (first|refine aN ?_|(refine fS 92 (λ g92=>?_) (λ g92=>?_)<;>(first|refine aN ?_|(refine aF ?_;refine aA ?_))))
                      all_goals ((first|refine aN ?_|(refine aF ?_;refine aA ?_));(first|refine aN ?_|(refine aF ?_;refine aB (gk rf rf (by omega) (by omega)) rfl ?_));(first|refine aN ?_|(refine aF ?_;refine aB (Fa rf rf gK cG fin (by omega) (by omega)) rfl ?_));(first|refine aN ?_|(refine aF ?_;refine aB (Uy rf cG fin (by omega)) rfl ?_));refine cX ?_;refine aH ?_)
                      all_goals
                       refine bG (λ c98=>?_) (λ c98=>?_)
                       · all_goals refine dC ?_
                         all_goals
                          refine aU Tryz.results117 (λ w hw=>?_)
                          refine⟨false,rfl,⟨(λ h=>nomatch h),λ hp=>?_⟩,hw.done⟩
                          have hm:marks cs.length (L.take (y.1+1))=none:=by
                           rw[yR (by omega),hx.2.1]
                           simp only[gD,hc]
                           refine if_neg λ hh=>?_
                           obtain⟨q1,q2,q3⟩:=hh
                           first|(exfalso;omega)|(exfalso;rw[q3] at c98;cases c98)
                          exact absurd (P7 hm) hp.marks
                       · try exact nv c98
                         all_goals
                          have hmk:gD (some y.2) (L.getD y.1 aX.zero).nd=some (y.2.set (c-1).toNat true):=by
                           simp only[gD,hc]
                           rw[if_pos ⟨by omega,by omega,c98⟩]
                         all_goals (refine bD ?_;refine Ic ?_;refine aB (gk rf rf (by omega) (by omega)) rfl ?_;refine aB (Fa rf rf gK cG fin (by omega) (by omega)) rfl ?_;refine J5 ?_;refine fT ?_;refine Ss ?_;refine B5 ?_)
                         all_goals
                          refine jJ ((y.1+1,(gD (some y.2) (L.getD y.1 aX.zero).nd).getD y.2)) ?_ (hw1:=λ w hw=>by rw[hmk];exact hw.back)
                          · refine⟨by omega,by rw[yR (by omega),hx.2.1,hmk];rfl,λ i hi=>?_⟩
                            rcases Nat.lt_succ_iff_lt_or_eq.1 hi with h|rfl
                            · exact hx.2.2 i h
                            · exact hok
              · all_goals (refine bV rfl ?_;refine dC ?_)
                all_goals
                 refine aU Tryz.results117 (λ w hw=>?_)
                 have hy:y.1=L.length:=by omega
                 have hmm:marks cs.length L=some y.2:=by have:=hx.2.1;rwa [hy,List.take_length] at this
                 exact⟨true,rfl,⟨λ _=>⟨by omega,by omega,by omega,by omega,hcells,λ i hi=>hx.2.2 i (by omega),by rw[hmm];exact λ h=>nomatch h⟩,λ _=>rfl⟩,hw.done⟩
end

end Go.Proofs.YtbajmaoegmbfgaaGreat
