/- Lists and the smallest functions of nodes. -/
import Derived.Test.YtbajmaoegmbfgaaGreatGMem
import Derived.Test.YtbajmaoegmbfgaaGreatAuto
import Derived.Test.YtbajmaoegmbfgaaGreatGSlices
import Derived.Test.YtbajmaoegmbfgaaGreatGBits

set_option linter.unusedSimpArgs false
set_option linter.unusedVariables false
namespace Go.Proofs.YtbajmaoegmbfgaaGreat
section
open Go.RowKit Go.Ct
theorem aAX (n : Nd) (w : World) : Calls Tryz.prog 197 #[n.v] w fun e w' => e = .returned n.own.v ∧ St w [] [] w' := by
  refine enter Tryz.func197 Tryz.ntmps197 rfl rfl (SF.s0 w) ?_
  simp only [cD]
  refine J0 ?_; refine bK (fun x1 => ?_); refine aJ (fun x2 => ?_); refine aH ?_; refine hZ ?_; refine bM ?_; refine aJ (fun x3 => ?_); refine J5 ?_; refine Cx ?_; refine aH ?_; refine cZ ?_; refine Co ?_; refine Co ?_; refine Co ?_; refine Co ?_; refine Co ?_; refine Co ?_; refine Co ?_; refine aS ?_; refine aS ?_; refine lP ?_
  refine aZ (fun c9 => ?_) (fun c9 => ?_)
  · refine bR rfl ?_; refine aS ?_; refine dZ [(0, []), (1, []), (2, []), (3, []), (4, []), (5, [3]), (6, []), (7, [])] ?_; refine mI ?_; refine mI ?_; refine aU ?_; refine Ri ?_; refine B8 ?_; refine bR rfl ?_; refine oC ?_; refine J5 ?_
    refine aY Tryz.results197 (fun w hw => ?_)
    exact ⟨by simp only [Nd.own, beq_iff_eq, *, if_true, if_false]; rfl, hw.done⟩
  · refine kK ?_; refine lP ?_
    refine aZ (fun c11 => ?_) (fun c11 => ?_)
    · refine bR rfl ?_; refine aS ?_; refine dZ [(0, []), (1, []), (2, []), (3, []), (4, []), (5, []), (6, []), (7, [3, 5]), (8, []), (9, [5]), (10, []), (11, [])] ?_; refine mI ?_; refine mI ?_; refine mI ?_; refine aU ?_; refine Ri ?_; refine Ri ?_; refine B8 ?_; refine bR rfl ?_; refine oC ?_; refine J5 ?_
      refine aY Tryz.results197 (fun w hw => ?_)
      exact ⟨by simp only [Nd.own, beq_iff_eq, *, if_true, if_false]; rfl, hw.done⟩
    · refine kK ?_; refine lP ?_
      refine aZ (fun c13 => ?_) (fun c13 => ?_)
      · refine bR rfl ?_; refine dI ?_; refine J3 ?_; refine uS ?_; refine fF ?_; refine aS ?_; refine dZ [(0, []), (1, []), (2, []), (3, []), (4, []), (5, []), (6, []), (7, [3, 5]), (8, []), (9, [5]), (10, []), (11, [])] ?_; refine mI ?_; refine mI ?_; refine mI ?_; refine aU ?_; refine Ri ?_; refine Ri ?_; refine B8 ?_; refine bR rfl ?_; refine oC ?_; refine J5 ?_
        refine aY Tryz.results197 (fun w hw => ?_)
        exact ⟨by simp only [Nd.own, beq_iff_eq, *, if_true, if_false]; rfl, hw.done⟩
      · refine kK ?_; refine lP ?_
        refine aZ (fun c15 => ?_) (fun c15 => ?_)
        · refine bR rfl ?_; refine aS ?_; refine dZ [(0, []), (1, []), (2, []), (3, []), (4, []), (5, []), (6, []), (7, [3, 5]), (8, []), (9, [5]), (10, []), (11, [])] ?_; refine mI ?_; refine mI ?_; refine mI ?_; refine aU ?_; refine Ri ?_; refine Ri ?_; refine B8 ?_; refine bR rfl ?_; refine oC ?_; refine J5 ?_
          refine aY Tryz.results197 (fun w hw => ?_)
          exact ⟨by simp only [Nd.own, beq_iff_eq, *, if_true, if_false]; rfl, hw.done⟩
        · refine kK ?_; refine lP ?_
          refine aZ (fun c17 => ?_) (fun c17 => ?_)
          · refine bR rfl ?_; refine aS ?_; refine dZ [(0, []), (1, []), (2, []), (3, []), (4, []), (5, []), (6, []), (7, [3, 5]), (8, []), (9, [5]), (10, []), (11, [])] ?_; refine mI ?_; refine mI ?_; refine mI ?_; refine aU ?_; refine Ri ?_; refine Ri ?_; refine B8 ?_; refine bR rfl ?_; refine oC ?_; refine J5 ?_
            refine aY Tryz.results197 (fun w hw => ?_)
            exact ⟨by simp only [Nd.own, beq_iff_eq, *, if_true, if_false]; rfl, hw.done⟩
          · refine kK ?_; refine lP ?_
            refine aZ (fun c19 => ?_) (fun c19 => ?_)
            · refine bR rfl ?_; refine dZ [(0, []), (1, []), (2, []), (3, []), (4, []), (5, []), (6, []), (7, [3, 5]), (8, []), (9, [5]), (10, []), (11, [])] ?_; refine mI ?_; refine mI ?_; refine mI ?_; refine aU ?_; refine Ri ?_; refine Ri ?_; refine B8 ?_; refine fF ?_; refine hZ ?_; refine uS ?_; refine bR rfl ?_; refine oC ?_; refine J5 ?_
              refine aY Tryz.results197 (fun w hw => ?_)
              exact ⟨by simp only [Nd.own, beq_iff_eq, *, if_true, if_false]; rfl, hw.done⟩
            · refine aX ?_; refine lP ?_
              refine aZ (fun c21 => ?_) (fun c21 => ?_)
              · refine bR rfl ?_; refine hZ ?_; refine uS ?_; refine bR rfl ?_; refine oC ?_; refine J5 ?_
                refine aY Tryz.results197 (fun w hw => ?_)
                exact ⟨by simp only [Nd.own, beq_iff_eq, *, if_true, if_false]; rfl, hw.done⟩
              · refine aX ?_; refine bR rfl ?_; refine oC ?_; refine J5 ?_
                refine aY Tryz.results197 (fun w hw => ?_)
                exact ⟨by simp only [Nd.own, beq_iff_eq, *, if_true, if_false]; rfl, hw.done⟩
end

/- Nodes are compared. -/
section
open Go.RowKit Go.Ct
theorem kh{a b:Nd}{x1 x2:List Int}{y1 y2:List Pr}{w:World}(ha:rX w a x1 y1)(hb:rX w b x2 y2) :
  Calls Tryz.prog 113 #[a.v,b.v] w λ e w'=>∃r:Bool,e=.returned (.bool r)/\(r=true↔rK a b x1 x2 y1 y2)/\St w [] [] w':=by
 have e1:=ha.brN;have e2:=hb.brN;have e3:=ha.prN;have e4:=hb.prN
 refine enter Tryz.func113 Tryz.ntmps113 rfl rfl (SF.s0 w) ?_
 simp only[cD]
 refine J0 ?_;refine bK (λ x2=>?_);refine bK (λ x3=>?_);refine iO ?_;refine hZ ?_;refine J3 ?_;refine lU ?_;refine aA ?_
 (refine dX 10 (λ g10=>?_) (λ g10=>?_)<;>(first|refine aI ?_|(refine aE ?_;refine aF ?_)))
 all_goals (refine Ci ?_;refine Q9 ?_;refine aA ?_)
 all_goals (first|refine aI ?_|(refine dX 17 (λ g17=>?_) (λ g17=>?_)<;>(first|refine aI ?_|(refine aE ?_;refine aF ?_))))
 all_goals (refine Ci ?_;refine Q9 ?_;refine aA ?_)
 all_goals (first|refine aI ?_|(refine dX 24 (λ g24=>?_) (λ g24=>?_)<;>(first|refine aI ?_|(refine aE ?_;refine aF ?_))))
 all_goals (refine Ci ?_;refine Q9 ?_;refine aA ?_)
 all_goals (first|refine aI ?_|(refine dX 31 (λ g31=>?_) (λ g31=>?_)<;>(first|refine aI ?_|(refine aE ?_;refine aF ?_))))
 all_goals (refine Ci ?_;refine Q9 ?_;refine aA ?_)
 all_goals (first|refine aI ?_|(refine dX 38 (λ g38=>?_) (λ g38=>?_)<;>(first|refine aI ?_|(refine aE ?_;refine aF ?_))))
 all_goals (refine Ci ?_;(first|refine aI ?_|(refine aE ?_;refine s5 ?_));refine bY ?_;refine aA ?_)
 all_goals (first|refine aI ?_|(refine dX 45 (λ g45=>?_) (λ g45=>?_)<;>(first|refine aI ?_|(refine aE ?_;refine aF ?_))))
 all_goals (refine Ci ?_;refine Q9 ?_;refine aH ?_)
 all_goals
 refine aZ (λ c51=>?_) (λ c51=>?_)
 ·all_goals refine cP ?_
  all_goals
   refine aQ Tryz.results113 (λ w hw=>?_)
   exact⟨_,rfl,by simp_all[rK],hw.done⟩
 ·try exact nv c51
  all_goals (refine aX ?_;refine hZ ?_;refine J3 ?_;refine aN (cV (hc:=λ w1 hw=>by simp only[e1,e2];exact yn (ha.br.fW hw.st) (hb.br.fW hw.st) ha.brS)) (λ x56=>?_);refine aA ?_)
  all_goals ((refine dX 57 (λ g57=>?_) (λ g57=>?_)<;>(first|refine aI ?_|(refine aE ?_;refine aF ?_))))
  all_goals (refine Ci ?_;(first|refine aI ?_|(refine aE ?_;refine aN (cV (hc:=λ w1 hw=>by simp only[e3,e4];exact z5 (ha.pr.fW hw.st) (hb.pr.fW hw.st) ha.prS)) (λ x62=>?_)));refine bY ?_;refine aA ?_)
  all_goals (first|refine aI ?_|(refine dX 64 (λ g64=>?_) (λ g64=>?_)<;>(first|refine aI ?_|(refine aE ?_;refine aF ?_))))
  all_goals (refine Ci ?_;refine vW ?_;refine aA ?_)
  all_goals (first|refine aI ?_|(refine dX 71 (λ g71=>?_) (λ g71=>?_)<;>(first|refine aI ?_|(refine aE ?_;refine aF ?_))))
  all_goals (refine Ci ?_;refine vW ?_;refine aA ?_)
  all_goals (first|refine aI ?_|(refine dX 78 (λ g78=>?_) (λ g78=>?_)<;>(first|refine aI ?_|(refine aE ?_;refine aF ?_))))
  all_goals (refine Ci ?_;refine vW ?_;refine aA ?_)
  all_goals (first|refine aI ?_|(refine dX 85 (λ g85=>?_) (λ g85=>?_)<;>(first|refine aI ?_|(refine aE ?_;refine aF ?_))))
  all_goals (refine Ci ?_;refine vW ?_;refine aA ?_)
  all_goals (first|refine aI ?_|(refine dX 92 (λ g92=>?_) (λ g92=>?_)<;>(first|refine aI ?_|(refine aE ?_;refine aF ?_))))
  all_goals (refine Ci ?_;refine vW ?_;refine J1 ?_)
  all_goals
   refine aQ Tryz.results113 (λ w hw=>?_)
   exact⟨_,rfl,by simp_all[rK],hw.done⟩
theorem vz{a b:Nd}{x1 x2:List Int}{y1 y2:List Pr}{w:World}(ha:rX w a x1 y1)(hb:rX w b x2 y2) :
  Calls Tryz.prog 196 #[a.v,b.v] w λ e w'=>∃r:Bool,e=.returned (.bool r)/\(r=true↔rK a b x1 x2 y1 y2)/\St w [] [] w':=by
 have e1:=ha.brN;have e2:=hb.brN;have e3:=ha.prN;have e4:=hb.prN
 refine enter Tryz.func196 Tryz.ntmps196 rfl rfl (SF.s0 w) ?_
 simp only[cD]
 refine J0 ?_;refine bK (λ x2=>?_);refine bK (λ x3=>?_);refine iO ?_;refine Wx (by dsimp only[List.append]) ?_;refine J3 ?_;refine J3 ?_;refine lK ?_;refine aA ?_
 (refine dX 10 (λ g10=>?_) (λ g10=>?_)<;>(first|refine aI ?_|(refine aE ?_;refine aF ?_)))
 all_goals (refine Ci ?_;refine vW ?_;refine aA ?_)
 all_goals (first|refine aI ?_|(refine dX 17 (λ g17=>?_) (λ g17=>?_)<;>(first|refine aI ?_|(refine aE ?_;refine aF ?_))))
 all_goals (refine Ci ?_;refine vW ?_;refine aA ?_)
 all_goals (first|refine aI ?_|(refine dX 24 (λ g24=>?_) (λ g24=>?_)<;>(first|refine aI ?_|(refine aE ?_;refine aF ?_))))
 all_goals (refine Ci ?_;refine vW ?_;refine aA ?_)
 all_goals (first|refine aI ?_|(refine dX 31 (λ g31=>?_) (λ g31=>?_)<;>(first|refine aI ?_|(refine aE ?_;refine aF ?_))))
 all_goals (refine Ci ?_;(first|refine aI ?_|(refine aE ?_;refine aN (cV (hc:=λ w1 hw=>by simp only[e1,e2];exact ku (ha.br.fW hw.st) (hb.br.fW hw.st) ha.brS)) (λ x36=>?_)));refine bY ?_;refine aA ?_)
 all_goals (first|refine aI ?_|(refine dX 38 (λ g38=>?_) (λ g38=>?_)<;>(first|refine aI ?_|(refine aE ?_;refine aF ?_))))
 all_goals (refine Ci ?_;refine vW ?_;refine aA ?_)
 all_goals (first|refine aI ?_|(refine dX 45 (λ g45=>?_) (λ g45=>?_)<;>(first|refine aI ?_|(refine aE ?_;refine aF ?_))))
 all_goals (refine Ci ?_;(first|refine aI ?_|(refine aE ?_;refine te ?_));refine bY ?_;refine aA ?_)
 all_goals (first|refine aI ?_|(refine dX 52 (λ g52=>?_) (λ g52=>?_)<;>(first|refine aI ?_|(refine aE ?_;refine aF ?_))))
 all_goals (refine Ci ?_;refine vW ?_;refine aA ?_)
 all_goals (first|refine aI ?_|(refine dX 59 (λ g59=>?_) (λ g59=>?_)<;>(first|refine aI ?_|(refine aE ?_;refine aF ?_))))
 all_goals (refine Ci ?_;(first|refine aI ?_|(refine aE ?_;refine aN (cV (hc:=λ w1 hw=>by simp only[e3,e4];exact v5 (ha.pr.fW hw.st) (hb.pr.fW hw.st) ha.prS)) (λ x64=>?_)));refine bY ?_;refine aA ?_)
 all_goals (first|refine aI ?_|(refine dX 66 (λ g66=>?_) (λ g66=>?_)<;>(first|refine aI ?_|(refine aE ?_;refine aF ?_))))
 all_goals (refine Ci ?_;refine vW ?_;refine aA ?_)
 all_goals (first|refine aI ?_|(refine dX 73 (λ g73=>?_) (λ g73=>?_)<;>(first|refine aI ?_|(refine aE ?_;refine aF ?_))))
 all_goals (refine Ci ?_;refine vW ?_;refine aA ?_)
 all_goals (first|refine aI ?_|(refine dX 80 (λ g80=>?_) (λ g80=>?_)<;>(first|refine aI ?_|(refine aE ?_;refine aF ?_))))
 all_goals (refine Ci ?_;refine vW ?_;refine aA ?_)
 all_goals (first|refine aI ?_|(refine dX 87 (λ g87=>?_) (λ g87=>?_)<;>(first|refine aI ?_|(refine aE ?_;refine aF ?_))))
 all_goals (refine Ci ?_;refine vW ?_;refine aA ?_)
 all_goals (first|refine aI ?_|(refine dX 94 (λ g94=>?_) (λ g94=>?_)<;>(first|refine aI ?_|(refine aE ?_;refine aF ?_))))
 all_goals (refine Ci ?_;refine vW ?_;refine J1 ?_)
 all_goals
 refine aQ Tryz.results196 (λ w hw=>?_)
 exact⟨_,rfl,by simp_all[rK],hw.done⟩
theorem Qy(a:Nd)(w:World):Calls Tryz.prog 80 #[a.v] w λ e w'=>∃r:Bool,e=.returned (.bool r)/\(r=true↔(a.kind=3∨a.kind=5∨a.kind=6))/\St w [] [] w':=by
 refine enter Tryz.func80 Tryz.ntmps80 rfl rfl (SF.s0 w) ?_
 simp only[cD]
 refine J0 ?_;refine bK (λ x1=>?_);refine iO ?_;refine hZ ?_;refine aH ?_;refine cZ ?_;refine aS ?_;refine lP ?_
 refine aZ (λ c5=>?_) (λ c5=>?_)
 ·refine aX ?_
  refine aZ (λ c5=>?_) (λ c5=>?_)
  ·refine cP ?_
   refine aQ Tryz.results80 (λ w hw=>?_)
   exact⟨_,rfl,by simp_all,hw.done⟩
  ·refine oP ?_;refine cP ?_
   refine aQ Tryz.results80 (λ w hw=>?_)
   exact⟨_,rfl,by simp_all,hw.done⟩
 ·refine lP ?_
  refine aZ (λ c5=>?_) (λ c5=>?_)
  ·refine aX ?_
   refine aZ (λ c5=>?_) (λ c5=>?_)
   ·refine cP ?_
    refine aQ Tryz.results80 (λ w hw=>?_)
    exact⟨_,rfl,by simp_all,hw.done⟩
   ·refine oP ?_;refine cP ?_
    refine aQ Tryz.results80 (λ w hw=>?_)
    exact⟨_,rfl,by simp_all,hw.done⟩
  ·refine dI ?_;refine Qs ?_
   refine aZ (λ c5=>?_) (λ c5=>?_)
   ·refine cP ?_
    refine aQ Tryz.results80 (λ w hw=>?_)
    exact⟨_,rfl,by simp_all,hw.done⟩
   ·refine oP ?_;refine cP ?_
    refine aQ Tryz.results80 (λ w hw=>?_)
    exact⟨_,rfl,by simp_all,hw.done⟩
theorem rU(a:Nd)(w:World):Calls Tryz.prog 41 #[a.v] w λ e w'=>∃r:Bool,e=.returned (.bool r)/\(r=true↔(a.kind=3∨a.kind=5∨a.kind=6))/\St w [] [] w':=by
 refine enter Tryz.func41 Tryz.ntmps41 rfl rfl (SF.s0 w) ?_
 simp only[cD]
 refine J0 ?_;refine bK (λ x1=>?_);refine J1 ?_;refine hZ ?_;refine lK ?_;refine aA ?_
 (refine dX 6 (λ g6=>?_) (λ g6=>?_)<;>(first|refine aI ?_|(refine aE ?_;refine aF ?_)))
 all_goals (refine u9 ?_;refine aA ?_)
 all_goals (first|refine aI ?_|(refine dX 11 (λ g11=>?_) (λ g11=>?_)<;>(first|refine aI ?_|(refine aE ?_;refine aF ?_))))
 all_goals (refine u9 ?_;refine J1 ?_)
 all_goals
 refine aQ Tryz.results41 (λ w hw=>?_)
 exact⟨_,rfl,by simp_all,hw.done⟩
end

/- node.Valid. -/
section
open Go.RowKit Go.Ct
theorem vw(b:Int)(w:World):Calls Tryz.prog 238 #[.int .u64 b] w λ e w'=>e=.returned (.int .i64 (yH b))/\St w [] [] w':=by
 refine enter Tryz.func238 Tryz.ntmps238 rfl rfl (SF.s0 w) ?_
 simp only[cD]
 refine cP ?_;refine J2 ?_;refine Gh ?_;refine Eo ?_;refine aA ?_;refine Eo ?_;refine Er ?_;refine J1 ?_;refine J2 ?_;refine Gh ?_;refine Eo ?_;refine aA ?_;refine Eo ?_;refine Er ?_;refine J1 ?_;refine J2 ?_;refine Gh ?_;refine aA ?_;refine Er ?_;refine Eo ?_;refine zI ?_;refine Gh ?_;refine Er ?_;refine zI ?_;refine Gh ?_;refine Er ?_;refine zI ?_;refine Gh ?_;refine Er ?_;refine J1 ?_;refine J2 ?_;refine mZ ?_;refine Eo ?_;refine J1 ?_
 refine aQ Tryz.results238 (λ w hw=>?_)
 exact⟨rfl,hw.done⟩
theorem oa(b:Int)(w:World):Calls Tryz.prog 198 #[.int .u64 b] w λ e w'=>e=.returned (.int .i64 (yH b))/\St w [] [] w':=by
 refine enter Tryz.func198 Tryz.ntmps198 rfl rfl (SF.s0 w) ?_
 simp only[cD]
 refine cP ?_;refine J2 ?_;refine aN (cV (hc:=λ w1 hw=>vw b w1)) (λ x4=>?_);refine J1 ?_
 refine aQ Tryz.results198 (λ w hw=>?_)
 exact⟨rfl,hw.done⟩
theorem Wg{n:Nd}{xs:List Int}{ys:List Pr}{w:World}(hr:rX w n xs ys) :
  Calls Tryz.prog 158 #[n.v] w λ e w'=>∃r:Bool,e=.returned (.bool r)/\(r=true↔cC n xs ys)/\St w [] [] w':=by
 have e1:=hr.brN;have e2:=hr.prN
 refine enter Tryz.func158 Tryz.ntmps158 rfl rfl (SF.s0 w) ?_
 simp only[cD]
 refine J0 ?_;refine bK (λ x1=>?_);refine iO ?_;refine aS ?_;refine dZ [(0,[]),(1,[]),(2,[0]),(3,[]),(4,[])] ?_;refine bN ?_;refine bN ?_;refine cL (i:=2) (hq:=(cV (hc:=λ w1 hw=>aAX n w1))) (h:=λ x5=>?_);refine bB (i:=3) (hq:=(c0 (V:=.bool) (hc:=λ w1 hw=>vz (hr.fW hw.st) (hr.fW hw.st).own))) (h:=λ x6 h6=>?_);refine Ym ?_;refine eJ ?_
 refine aZ (λ c7=>?_) (λ c7=>?_)
 ·refine cP ?_
  refine aQ Tryz.results158 (λ w hw=>?_)
  refine⟨_,rfl,?_,hw.done⟩
  (simp_all[cC];done)
 ·refine kK ?_;refine hZ ?_;refine Az ?_
  (refine dX 11 (λ g11=>?_) (λ g11=>?_)<;>(first|refine aI ?_|(refine aE ?_;refine aF ?_)))
  all_goals (refine yf ?_;refine aA ?_)
  all_goals (first|refine aI ?_|(refine dX 16 (λ g16=>?_) (λ g16=>?_)<;>(first|refine aI ?_|(refine aE ?_;refine aF ?_))))
  all_goals (refine yf ?_;refine aH ?_)
  all_goals
  refine aZ (λ c20=>?_) (λ c20=>?_)
  ·all_goals refine cP ?_
   all_goals
    refine aQ Tryz.results158 (λ w hw=>?_)
    refine⟨_,rfl,?_,hw.done⟩
    (simp_all[cC];omega)
  ·try exact nv c20
   all_goals (refine kK ?_;refine hZ ?_;refine aH ?_;refine cZ ?_;refine Co ?_;refine Co ?_;refine Co ?_;refine Co ?_;refine cZ ?_;refine Co ?_;refine Co ?_;refine Co ?_;refine aS ?_;refine aS ?_;refine lP ?_)
   all_goals
    refine aZ (λ c23=>?_) (λ c23=>?_)
    ·refine bR rfl ?_;refine aS ?_;refine cP ?_
     refine aQ Tryz.results158 (λ w hw=>?_)
     refine⟨_,rfl,?_,hw.done⟩
     (simp_all[cC];done)
    ·refine kK ?_;refine lP ?_
     refine aZ (λ c25=>?_) (λ c25=>?_)
     ·refine bR rfl ?_;refine Cx ?_;refine nT ?_;refine J1 ?_
      refine aQ Tryz.results158 (λ w hw=>?_)
      refine⟨_,rfl,?_,hw.done⟩
      (simp_all[cC];done)
     ·refine kK ?_;refine lP ?_
      refine aZ (λ c27=>?_) (λ c27=>?_)
      ·refine bR rfl ?_;refine aS ?_;refine aS ?_;refine dZ [(0,[]),(1,[]),(2,[]),(3,[]),(4,[]),(5,[1]),(6,[]),(7,[]),(8,[]),(9,[]),(10,[]),(11,[]),(12,[])] ?_;refine mI ?_;refine nV ?_;refine mI ?_;refine cL (i:=5) (hq:=(cV (hc:=λ w1 hw=>oa n.bm w1))) (h:=λ x47=>?_);refine mR ?_;refine aT ?_
       (refine n6 49 (λ g49=>?_) (λ g49=>?_)<;>(first|refine fT ?_|(refine aU ?_)))
       all_goals ((first|refine fT ?_|(refine bN ?_));(first|refine fT ?_|(refine bB (i:=10) (hq:=(c0 (V:=.bool) (hc:=λ w1 hw=>by rw[e1];exact Tf (hr.br.fW hw.st) hr.brS))) (h:=λ x52 h52=>?_)));refine lH ?_;refine J7 ?_)
       all_goals
       refine aQ Tryz.results158 (λ w hw=>?_)
       refine⟨_,rfl,?_,hw.done⟩
       (simp_all[cC];done)
      ·refine kK ?_;refine lP ?_
       refine aZ (λ c29=>?_) (λ c29=>?_)
       ·refine Yc ?_;refine Cx ?_;refine mD ?_;refine xY ?_;refine J1 ?_
        refine aQ Tryz.results158 (λ w hw=>?_)
        refine⟨_,rfl,?_,hw.done⟩
        (simp_all[cC];omega)
       ·refine kK ?_;refine lP ?_
        refine aZ (λ c31=>?_) (λ c31=>?_)
        ·refine bR rfl ?_;refine Cx ?_;refine mD ?_;refine xY ?_;refine J1 ?_
         refine aQ Tryz.results158 (λ w hw=>?_)
         refine⟨_,rfl,?_,hw.done⟩
         (simp_all[cC];omega)
        ·refine kK ?_;refine lP ?_
         refine aZ (λ c33=>?_) (λ c33=>?_)
         ·refine bR rfl ?_;refine Cx ?_;refine dJ ?_;refine nT ?_;refine aA ?_
          (refine dX 62 (λ g62=>?_) (λ g62=>?_)<;>(first|refine aI ?_|(refine aE ?_;refine aF ?_)))
          all_goals ((first|refine aI ?_|(refine aE ?_;refine bP ?_));(first|refine aI ?_|(refine aE ?_;refine aD (c0 (V:=.bool) (hc:=λ w1 hw=>by rw[e2];exact W9 (hr.pr.fW hw.st) hr.prS)) (λ x65 h65=>?_)));refine bY ?_;refine aA ?_)
          all_goals (first|refine aI ?_|(refine dX 67 (λ g67=>?_) (λ g67=>?_)<;>(first|refine aI ?_|(refine aE ?_;refine aF ?_))))
          all_goals ((first|refine aI ?_|(refine aE ?_;refine bP ?_));(first|refine aI ?_|(refine aE ?_;refine aD (c0 (V:=.bool) (hc:=λ w1 hw=>by rw[e2];exact M1 (hr.pr.fW hw.st) hr.prS)) (λ x70 h70=>?_)));refine bY ?_;refine J1 ?_)
          all_goals
          refine aQ Tryz.results158 (λ w hw=>?_)
          refine⟨_,rfl,?_,hw.done⟩
          first|(simp_all[cC];done)|(simp_all[cC];omega)
         ·refine kK ?_;refine lP ?_
          refine aZ (λ c35=>?_) (λ c35=>?_)
          ·refine bR rfl ?_;refine hZ ?_;refine Az ?_
           (refine dX 75 (λ g75=>?_) (λ g75=>?_)<;>(first|refine aI ?_|(refine aE ?_;refine aF ?_)))
           all_goals (refine yf ?_;refine aH ?_)
           all_goals
           refine aZ (λ c79=>?_) (λ c79=>?_)
           ·all_goals refine cP ?_
            all_goals
             refine aQ Tryz.results158 (λ w hw=>?_)
             refine⟨_,rfl,?_,hw.done⟩
             (simp_all[cC];omega)
           ·try exact nv c79
            all_goals (refine oP ?_;refine Cx ?_;refine nT ?_;refine J1 ?_)
            all_goals
             refine aQ Tryz.results158 (λ w hw=>?_)
             refine⟨_,rfl,?_,hw.done⟩
             (simp_all[cC];done)
          ·refine aX ?_;refine lP ?_
           refine aZ (λ c37=>?_) (λ c37=>?_)
           ·refine bR rfl ?_;refine Cx ?_;refine nT ?_;refine J1 ?_
            refine aQ Tryz.results158 (λ w hw=>?_)
            refine⟨_,rfl,?_,hw.done⟩
            (simp_all[cC];done)
           ·refine aX ?_;refine bR rfl ?_;refine cP ?_
            refine aQ Tryz.results158 (λ w hw=>?_)
            refine⟨_,rfl,?_,hw.done⟩
            (simp_all[cC];done)
end

/- The functions on bitmaps. -/
end Go.Proofs.YtbajmaoegmbfgaaGreat
namespace Go.Ct
section
open Go Go.RowKit
def pP(n:Nat)(i:Int):Bool:=decide (0<=i)&&(decide (i<64)&&n.testBit i.toNat)
theorem o9(n:Nat){i:Int}(h:i<0):pP n i=false:=by simp[pP];omega
theorem T5(n:Nat){i:Int}(h:64<=i):pP n i=false:=by simp[pP];omega
theorem tE(n:Nat){i:Int}(h0:0<=i)(h1:i<64):pP n i=n.testBit i.toNat:=by simp[pP,h0,h1]
theorem l8{n:Nat}(hn:n<18446744073709551616){i:Int}(h0:0<=i)(h1:i<64):(qB .u64 (qC .u64 (n:Int) i) 1==1)=pP n i:=by
 obtain⟨k,rfl⟩:=Int.eq_ofNat_of_zero_le h0
 rw[tE n h0 h1,pG (by omega)]
 have h2:qB .u64 ((n >>> k:Nat):Int) 1=(((n >>> k) &&& 1:Nat):Int):=pI (Nat.lt_of_le_of_lt (Nat.shiftRight_le _ _) hn) (m:=1) (by decide)
 rw[h2]
 simp only[Int.toNat_natCast,Nat.testBit,Nat.and_comm 1]
 rw[Nat.and_one_is_mod]
 rcases Nat.mod_two_eq_zero_or_one (n >>> k) with h|h<;>rw[h]<;>rfl
def rB(n:Nat)(i:Int):Nat:=gJ n (min i.toNat 64)
def dR(n:Nat)(i:Int):Nat:=if 0<=i/\i<64 then n ||| 2^i.toNat else n
def uU(n:Nat)(i:Int):Nat:=if 0<=i/\i<64 then n ^^^ (n &&& 2^i.toNat) else n
theorem ap{n:Nat}(hn:n<18446744073709551616){i:Int}(h0:0<=i)(h1:i<64):zb .u64 (n:Int) (jn .u64 1 i)=((dR n i:Nat):Int):=by
 obtain⟨k,rfl⟩:=Int.eq_ofNat_of_zero_le h0
 have hp:=Nat.pow_lt_pow_right (a:=2) (by decide) (show k<64 by omega)
 rw[gy (by omega),oh hn (by omega),dR,if_pos ⟨h0,h1⟩]
 rfl
theorem zU{n:Nat}(hn:n<18446744073709551616)(i:Int):dR n i<18446744073709551616:=by
 unfold dR
 split
 ·rename_i h
  have hp:=Nat.pow_lt_pow_right (a:=2) (by decide) (show i.toNat<64 by omega)
  exact Nat.or_lt_two_pow (n:=64) hn hp
 ·exact hn
end
end Go.Ct
namespace Go.Proofs.YtbajmaoegmbfgaaGreat
section
open Go.RowKit Go.Ct
theorem Et{n:Nat}(hn:n<18446744073709551616)(i:Int)(w:World):Calls Tryz.prog 195 #[.int .u64 (n:Int),.int .i64 i] w λ e w'=>e=.returned (.bool (pP n i))/\St w [] [] w':=by
 refine enter Tryz.func195 Tryz.ntmps195 rfl rfl (SF.s0 w) ?_
 simp only[cD]
 refine cP ?_;refine J2 ?_;refine nT ?_;refine aA ?_
 (refine dX 7 (λ g7=>?_) (λ g7=>?_)<;>(first|refine aI ?_|(refine aE ?_;refine aA ?_)))
 all_goals (refine ma ?_;refine aA ?_)
 all_goals (first|refine aI ?_|(refine dX 11 (λ g11=>?_) (λ g11=>?_)<;>(first|refine aI ?_|(refine aE ?_;refine aA ?_))))
 all_goals ((first|refine aI ?_|(refine aE ?_;refine aA ?_));(first|refine aI ?_|(refine aE ?_;refine mZ ?_));(first|refine aI ?_|(refine aE ?_;refine Gh ?_));(first|refine aI ?_|(refine aE ?_;refine Eo ?_));refine vW ?_;refine J1 ?_)
 all_goals
 refine aQ Tryz.results195 (λ w hw=>?_)
 first|(rw[o9 n (by omega)];exact⟨rfl,hw.done⟩)|(rw[T5 n (by omega)];exact⟨rfl,hw.done⟩)|(rw[<- l8 hn (by omega) (by omega)];exact⟨rfl,hw.done⟩)
theorem Pw{n:Nat}(hn:n<18446744073709551616)(i:Int)(w:World):Calls Tryz.prog 207 #[.int .u64 (n:Int),.int .i64 i] w λ e w'=>e=.returned (.int .i64 ((rB n i:Nat):Int))/\St w [] [] w':=by
 refine enter Tryz.func207 Tryz.ntmps207 rfl rfl (SF.s0 w) ?_
 simp only[cD]
 refine cP ?_;refine Ha ?_;refine Dn ?_
 refine hY [5,6,7,8,9,10,11,12,13,14,15,16,17,18,19,20] (λ k=>[(5,.int .i64 ((gJ n k:Nat):Int)),(6,.int .i64 ((k:Nat):Int))]) (λ k=>k<=64/\(k:Int)<=max i 0) (λ k=>64-k) (0) (⟨by decide,by omega⟩) ?_ (λ k f hx=>?_)
 ·repeat (first|exact bG _|refine bA (by exact rfl) ?_)
 dsimp only[iA,List.map,List.cons_append,List.nil_append]
 have hcl:=vE n k
 refine kX ?_;refine Az ?_
 (refine dX 9 (λ g9=>?_) (λ g9=>?_)<;>(first|refine aI ?_|(refine aE ?_;refine aA ?_)))
 all_goals ((first|refine aI ?_|(refine aE ?_;refine aA ?_));refine ma ?_;refine aH ?_)
 all_goals
 refine aZ (λ c13=>?_) (λ c13=>?_)
 ·try exact nv c13
  all_goals (refine rR ?_;refine jA ?_;refine aN (cV (hc:=λ w1 hw=>Et hn (k:Int) w1)) (λ x18=>?_);refine aH ?_)
  all_goals
   refine aZ (λ c18=>?_) (λ c18=>?_)
   ·refine uT ?_;refine fF ?_;refine uT ?_
    refine fD (k+1) ?_ ?_ ?_
    ·omega
    ·repeat' (first|exact bG _|refine bA ?_ ?_)
     all_goals (first|exact rfl|(rw[tE n (by omega) (by omega),Int.toNat_natCast] at *;conv=>{lhs;whnf};congr 2;simp only[gJ];simp_all;done))
    ·omega
   ·refine oP ?_;refine uT ?_
    refine fD (k+1) ?_ ?_ ?_
    ·omega
    ·repeat' (first|exact bG _|refine bA ?_ ?_)
     all_goals (first|exact rfl|(rw[tE n (by omega) (by omega),Int.toNat_natCast] at *;conv=>{lhs;whnf};congr 2;simp only[gJ];simp_all;done))
    ·omega
 ·all_goals (refine bR rfl ?_;refine J2 ?_;refine J1 ?_)
  all_goals
   refine aQ Tryz.results207 (λ w hw=>?_)
   have:rB n i=gJ n k:=by unfold rB;congr 1;omega
   rw[this]
   exact⟨rfl,hw.done⟩
theorem Tg{n:Nat}(hn:n<18446744073709551616)(w:World):Calls Tryz.prog 170 #[.int .u64 (n:Int)] w λ e w'=>e=.returned (.int .i64 ((gJ n 64:Nat):Int))/\St w [] [] w':=by
 refine enter Tryz.func170 Tryz.ntmps170 rfl rfl (SF.s0 w) ?_
 simp only[cD]
 refine cP ?_;refine J2 ?_;refine aN (cV (hc:=λ w1 hw=>Pw hn 64 w1)) (λ x4=>?_);refine J1 ?_
 refine aQ Tryz.results170 (λ w hw=>?_)
 exact⟨rfl,hw.done⟩
theorem nE{n:Nat}(hn:n<18446744073709551616)(i:Int)(w:World):Calls Tryz.prog 254 #[.int .u64 (n:Int),.int .i64 i] w λ e w'=>e=.returned (.int .u64 ((dR n i:Nat):Int))/\St w [] [] w':=by
 refine enter Tryz.func254 Tryz.ntmps254 rfl rfl (SF.s0 w) ?_
 simp only[cD]
 refine cP ?_;refine kX ?_;refine Az ?_
 (refine dX 7 (λ g7=>?_) (λ g7=>?_)<;>(first|refine aI ?_|(refine aE ?_;refine aA ?_)))
 all_goals (refine zJ ?_;refine aH ?_)
 all_goals
 refine aZ (λ c10=>?_) (λ c10=>?_)
 ·all_goals (refine J2 ?_;refine J1 ?_)
  all_goals
   refine aQ Tryz.results254 (λ w hw=>?_)
   (rw[show dR n i=n by unfold dR;rw[if_neg (by omega)]];exact⟨rfl,hw.done⟩)
 ·try exact nv c10
  all_goals (refine C6 ?_;refine mZ ?_;refine aAv ?_;refine aBB ?_;refine J1 ?_)
  all_goals
   refine aQ Tryz.results254 (λ w hw=>?_)
   (rw[<- ap hn (by omega) (by omega)];exact⟨rfl,hw.done⟩)
end

end Go.Proofs.YtbajmaoegmbfgaaGreat
