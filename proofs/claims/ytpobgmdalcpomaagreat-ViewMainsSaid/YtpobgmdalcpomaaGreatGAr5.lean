/- Nodes of the program's arena are read; lists are cloned; the state is read. -/
import Derived.Test.YtpobgmdalcpomaaGreatAr4
import Derived.Test.YtpobgmdalcpomaaGreatGMem
import Derived.Test.YtpobgmdalcpomaaGreatAuto
import Derived.Test.YtpobgmdalcpomaaGreatGRs0
import Derived.Test.YtpobgmdalcpomaaGreatGSlices2

set_option linter.unusedSimpArgs false
set_option linter.unusedVariables false
namespace Go.Ct
theorem Cl.none_nil{w:Go.World}{cs:List Go.Value}(h:Cl w none cs):cs=[]:=by
 cases cs with
 | nil=>rfl
 | cons v r=>exact absurd (h.ptr (by simp)) (by simp)
theorem refsC_nil{l:List Int}(h:refsC l=[]):l=[]:=by simpa[refsC] using h
end Go.Ct
namespace Go.Proofs.YtpobgmdalcpomaaGreat
open Go.RowKit Go.Ct
variable{w:World}{D:List Nat}{b:Nat}{L:List NdV}{cs:List Int}{gen acc:Int}{pn pc:Option Addr}{cn cc:Nat}{A:Fr}
theorem slCloneR_c{l:List Int}{a:Option Addr}{c:Nat}{w:World}(ha:Cl w a (refsC l))(hl:l.length<=274877906944):Calls Tryz.prog 67 #[.slice a l.length c] w λ e w' =>
  ∃x:Option Addr×Nat,e=.returned (.slice x.1 l.length x.2)/\True/\SF w [] [] [] [] [⟨x.1,refsC l,x.2,52,1⟩] w':=by
 refine enter Tryz.func67 Tryz.ntmps67 rfl rfl (SF.s1 ha) ?_
 simp only[mkS]
 all_goals (refine J10 ?_;refine J32 ?_;refine J50 ?_)
 all_goals
 refine kif (λ c4=>?_) (λ c4=>?_)
 ·try exact nv c4
  all_goals
   have e0:a=none:=by cases a with|none=>rfl|some _=>cases c4
   subst e0
   obtain rfl:=refsC_nil ha.none_nil
  all_goals refine J10 ?_
  all_goals
   refine k_rv Tryz.results67 (λ w hw=>?_)
   exact⟨(none,0),rfl,trivial,(hw.nilOwn 52 1).finH⟩
 ·try exact nv c4
  all_goals (refine k_skip ?_;refine J0 ?_;refine j_build0 (λ x5=>?_);refine j_move ?_;(refine j_append (λ x7=>?_);try (refine l_fact (λ h7=>?_)));refine J1 ?_)
  all_goals
   refine k_rv Tryz.results67 (λ w hw=>?_)
   exact⟨x7,by simp only[Nat.zero_add];rfl,trivial,by simpa using hw.finH (F':=[]) (H':=[])⟩
end Go.Proofs.YtpobgmdalcpomaaGreat

/- The arena's state is read. -/
namespace Go.Proofs.YtpobgmdalcpomaaGreat
open Go.RowKit Go.Ct
variable{w:World}{D:List Nat}{b:Nat}{L:List NdV}{cs:List Int}{gen acc:Int}{pn pc:Option Addr}{cn cc:Nat}{A:Fr}
end Go.Proofs.YtpobgmdalcpomaaGreat

/- Lists and the smallest functions of nodes. -/
namespace Go.Proofs.YtpobgmdalcpomaaGreat
open Go.RowKit Go.Ct
theorem own_c (n : Nd) (w : World) : Calls Tryz.prog 126 #[n.v] w fun e w' => e = .returned n.own.v ∧ St w [] [] w' := by
  refine enter Tryz.func126 Tryz.ntmps126 rfl rfl (SF.s0 w) ?_
  simp only [mkS]
  all_goals (refine J0 ?_; refine j_box (fun x1 => ?_); refine j_alloc (fun x2 => ?_); refine l_nil ?_; refine J24 ?_; refine j_build ?_; refine j_alloc (fun x3 => ?_); refine J5 ?_; refine J72 ?_; refine l_nil ?_; refine k_block ?_; refine J62 ?_; refine J62 ?_; refine J62 ?_; refine J62 ?_; refine J62 ?_; refine J62 ?_; refine J62 ?_; refine k_seq ?_; refine k_seq ?_; refine J39 ?_)
  all_goals
   refine kif (fun c9 => ?_) (fun c9 => ?_)
   · try exact nv c9
     all_goals (refine k_exit rfl ?_; refine k_seq ?_; refine k_dp [(0, []), (1, []), (2, []), (3, []), (4, []), (5, [3]), (6, []), (7, [])] ?_; refine J15 ?_; refine J15 ?_; refine r_fieldAddr ?_; refine J51 ?_; refine J19 ?_; refine k_exit rfl ?_; refine J25 ?_; refine J5 ?_)
     all_goals
      refine k_rt Tryz.results126 (fun w hw => ?_)
      exact ⟨by simp only [Nd.own, beq_iff_eq, *, if_true, if_false]; rfl, hw.done⟩
   · try exact nv c9
     all_goals (refine J16 ?_; refine J39 ?_)
     all_goals
      refine kif (fun c11 => ?_) (fun c11 => ?_)
      · try exact nv c11
        all_goals (refine k_exit rfl ?_; refine k_seq ?_; refine k_dp [(0, []), (1, []), (2, []), (3, []), (4, []), (5, []), (6, []), (7, [3, 5]), (8, []), (9, [5]), (10, []), (11, [])] ?_; refine J15 ?_; refine J15 ?_; refine J15 ?_; refine r_fieldAddr ?_; refine J51 ?_; refine J51 ?_; refine J19 ?_; refine k_exit rfl ?_; refine J25 ?_; refine J5 ?_)
        all_goals
         refine k_rt Tryz.results126 (fun w hw => ?_)
         exact ⟨by simp only [Nd.own, beq_iff_eq, *, if_true, if_false]; rfl, hw.done⟩
      · try exact nv c11
        all_goals (refine J16 ?_; refine J39 ?_)
        all_goals
         refine kif (fun c13 => ?_) (fun c13 => ?_)
         · try exact nv c13
           all_goals (refine k_exit rfl ?_; refine k_region ?_; refine J3 ?_; refine J23 ?_; refine k_blk ?_; refine k_seq ?_; refine k_dp [(0, []), (1, []), (2, []), (3, []), (4, []), (5, []), (6, []), (7, [3, 5]), (8, []), (9, [5]), (10, []), (11, [])] ?_; refine J15 ?_; refine J15 ?_; refine J15 ?_; refine r_fieldAddr ?_; refine J51 ?_; refine J51 ?_; refine J19 ?_; refine k_exit rfl ?_; refine J25 ?_; refine J5 ?_)
           all_goals
            refine k_rt Tryz.results126 (fun w hw => ?_)
            exact ⟨by simp only [Nd.own, beq_iff_eq, *, if_true, if_false]; rfl, hw.done⟩
         · try exact nv c13
           all_goals (refine J16 ?_; refine J39 ?_)
           all_goals
            refine kif (fun c15 => ?_) (fun c15 => ?_)
            · try exact nv c15
              all_goals (refine k_exit rfl ?_; refine k_seq ?_; refine k_dp [(0, []), (1, []), (2, []), (3, []), (4, []), (5, []), (6, []), (7, [3, 5]), (8, []), (9, [5]), (10, []), (11, [])] ?_; refine J15 ?_; refine J15 ?_; refine J15 ?_; refine r_fieldAddr ?_; refine J51 ?_; refine J51 ?_; refine J19 ?_; refine k_exit rfl ?_; refine J25 ?_; refine J5 ?_)
              all_goals
               refine k_rt Tryz.results126 (fun w hw => ?_)
               exact ⟨by simp only [Nd.own, beq_iff_eq, *, if_true, if_false]; rfl, hw.done⟩
            · try exact nv c15
              all_goals (refine J16 ?_; refine J39 ?_)
              all_goals
               refine kif (fun c17 => ?_) (fun c17 => ?_)
               · try exact nv c17
                 all_goals (refine k_exit rfl ?_; refine k_seq ?_; refine k_dp [(0, []), (1, []), (2, []), (3, []), (4, []), (5, []), (6, []), (7, [3, 5]), (8, []), (9, [5]), (10, []), (11, [])] ?_; refine J15 ?_; refine J15 ?_; refine J15 ?_; refine r_fieldAddr ?_; refine J51 ?_; refine J51 ?_; refine J19 ?_; refine k_exit rfl ?_; refine J25 ?_; refine J5 ?_)
                 all_goals
                  refine k_rt Tryz.results126 (fun w hw => ?_)
                  exact ⟨by simp only [Nd.own, beq_iff_eq, *, if_true, if_false]; rfl, hw.done⟩
               · try exact nv c17
                 all_goals (refine J16 ?_; refine J39 ?_)
                 all_goals
                  refine kif (fun c19 => ?_) (fun c19 => ?_)
                  · try exact nv c19
                    all_goals (refine k_exit rfl ?_; refine k_dp [(0, []), (1, []), (2, []), (3, []), (4, []), (5, []), (6, []), (7, [3, 5]), (8, []), (9, [5]), (10, []), (11, [])] ?_; refine J15 ?_; refine J15 ?_; refine J15 ?_; refine r_fieldAddr ?_; refine J51 ?_; refine J51 ?_; refine J19 ?_; refine k_blk ?_; refine J24 ?_; refine J23 ?_; refine k_exit rfl ?_; refine J25 ?_; refine J5 ?_)
                    all_goals
                     refine k_rt Tryz.results126 (fun w hw => ?_)
                     exact ⟨by simp only [Nd.own, beq_iff_eq, *, if_true, if_false]; rfl, hw.done⟩
                  · try exact nv c19
                    all_goals (refine k_skip ?_; refine J39 ?_)
                    all_goals
                     refine kif (fun c21 => ?_) (fun c21 => ?_)
                     · try exact nv c21
                       all_goals (refine k_exit rfl ?_; refine J24 ?_; refine J23 ?_; refine k_exit rfl ?_; refine J25 ?_; refine J5 ?_)
                       all_goals
                        refine k_rt Tryz.results126 (fun w hw => ?_)
                        exact ⟨by simp only [Nd.own, beq_iff_eq, *, if_true, if_false]; rfl, hw.done⟩
                     · try exact nv c21
                       all_goals (refine k_skip ?_; refine k_exit rfl ?_; refine J25 ?_; refine J5 ?_)
                       all_goals
                        refine k_rt Tryz.results126 (fun w hw => ?_)
                        exact ⟨by simp only [Nd.own, beq_iff_eq, *, if_true, if_false]; rfl, hw.done⟩
end Go.Proofs.YtpobgmdalcpomaaGreat

/- node.Valid. -/
namespace Go.Proofs.YtpobgmdalcpomaaGreat
open Go.RowKit Go.Ct
theorem ones_c(b:Int)(w:World):Calls Tryz.prog 146 #[.int .u64 b] w λ e w'=>e=.returned (.int .i64 (rOnes b))/\St w [] [] w':=by
 refine enter Tryz.func146 Tryz.ntmps146 rfl rfl (SF.s0 w) ?_
 simp only[mkS]
 all_goals (refine J10 ?_;refine J2 ?_;refine j_shr ?_;refine j_and ?_;refine j_move ?_;refine j_and ?_;refine j_add ?_;refine J1 ?_;refine J2 ?_;refine j_shr ?_;refine j_and ?_;refine j_move ?_;refine j_and ?_;refine j_add ?_;refine J1 ?_;refine J2 ?_;refine j_shr ?_;refine j_move ?_;refine j_add ?_;refine j_and ?_;refine J73 ?_;refine j_shr ?_;refine j_add ?_;refine J73 ?_;refine j_shr ?_;refine j_add ?_;refine J73 ?_;refine j_shr ?_;refine j_add ?_;refine J1 ?_;refine J2 ?_;refine j_convert ?_;refine j_and ?_;refine J1 ?_)
 all_goals
 refine k_rv Tryz.results146 (λ w hw=>?_)
 exact⟨rfl,hw.done⟩
theorem count_c(b:Int)(w:World):Calls Tryz.prog 127 #[.int .u64 b] w λ e w'=>e=.returned (.int .i64 (rOnes b))/\St w [] [] w':=by
 refine enter Tryz.func127 Tryz.ntmps127 rfl rfl (SF.s0 w) ?_
 simp only[mkS]
 all_goals (refine J10 ?_;refine J2 ?_;(refine j_own (cV (hc:=λ w1 hw=>ones_c b w1)) (λ x4=>?_);try (refine l_fact (λ h4=>?_)));refine J1 ?_)
 all_goals
 refine k_rv Tryz.results127 (λ w hw=>?_)
 exact⟨rfl,hw.done⟩
theorem ndValid_c{n:Nd}{xs:List Int}{ys:List Pr}{w:World}(hr:Rep w n xs ys) :
  Calls Tryz.prog 92 #[n.v] w λ e w'=>∃r:Bool,e=.returned (.bool r)/\(r=true↔NdValid n xs ys)/\St w [] [] w':=by
 have e1:=hr.brN;have e2:=hr.prN
 refine enter Tryz.func92 Tryz.ntmps92 rfl rfl (SF.s0 w) ?_
 simp only[mkS]
 all_goals (refine J0 ?_;refine j_box (λ x1=>?_);refine J27 ?_;refine k_seq ?_;refine k_dp [(0,[]),(1,[]),(2,[0]),(3,[]),(4,[])] ?_;refine r_load ?_;refine r_load ?_;((refine r_own (i:=2) (hq:=(cV (hc:=λ w1 hw=>own_c n w1))) (h:=λ x5=>?_);try (refine r_fact (λ h5=>?_))));((refine r_own (i:=3) (hq:=(c0 (V:=.bool) (hc:=λ w1 hw=>ndEq_c (hr.keep0 hw.st) (hr.keep0 hw.st).own))) (h:=λ x6=>?_);try (refine r_fact (λ h6=>?_))));refine r_not ?_;refine r_fin ?_)
 all_goals
 refine kif (λ c7=>?_) (λ c7=>?_)
 ·try exact nv c7
  all_goals refine J10 ?_
  all_goals
   refine k_rv Tryz.results92 (λ w hw=>?_)
   refine⟨_,rfl,?_,hw.done⟩
   first|(simp_all[NdValid];done)|(simp_all[NdValid];omega)
 ·try exact nv c7
  all_goals (refine J16 ?_;refine J24 ?_;refine J64 ?_)
  all_goals (first|refine j_un ?_|(refine j_yes ?_;refine j_fieldAddr ?_)|(refine lcs 11 (λ g11=>?_) (λ g11=>?_)<;>(first|refine j_un ?_|(refine j_yes ?_;refine j_fieldAddr ?_))))
  all_goals (refine J89 ?_;refine j_move ?_)
  all_goals (first|refine j_un ?_|(refine j_yes ?_;refine j_fieldAddr ?_)|(refine lcs 16 (λ g16=>?_) (λ g16=>?_)<;>(first|refine j_un ?_|(refine j_yes ?_;refine j_fieldAddr ?_))))
  all_goals (refine J89 ?_;refine l_nil ?_)
  all_goals
   refine kif (λ c20=>?_) (λ c20=>?_)
   ·try exact nv c20
    all_goals refine J10 ?_
    all_goals
    refine k_rv Tryz.results92 (λ w hw=>?_)
    refine⟨_,rfl,?_,hw.done⟩
    first|(simp_all[NdValid];done)|(simp_all[NdValid];omega)
   ·try exact nv c20
    all_goals (refine J16 ?_;refine J24 ?_;refine l_nil ?_;refine k_block ?_;refine J62 ?_;refine J62 ?_;refine J62 ?_;refine J62 ?_;refine k_block ?_;refine J62 ?_;refine J62 ?_;refine J62 ?_;refine k_seq ?_;refine k_seq ?_;refine J39 ?_)
    all_goals
    refine kif (λ c23=>?_) (λ c23=>?_)
    ·try exact nv c23
     all_goals (refine k_exit rfl ?_;refine k_seq ?_;refine J10 ?_)
     all_goals
      refine k_rv Tryz.results92 (λ w hw=>?_)
      refine⟨_,rfl,?_,hw.done⟩
      first|(simp_all[NdValid];done)|(simp_all[NdValid];omega)
    ·try exact nv c23
     all_goals (refine J16 ?_;refine J39 ?_)
     all_goals
      refine kif (λ c25=>?_) (λ c25=>?_)
      ·try exact nv c25
       all_goals (refine k_exit rfl ?_;refine J72 ?_;refine j_geq ?_;refine J1 ?_)
       all_goals
       refine k_rv Tryz.results92 (λ w hw=>?_)
       refine⟨_,rfl,?_,hw.done⟩
       first|(simp_all[NdValid];done)|(simp_all[NdValid];omega)
      ·try exact nv c25
       all_goals (refine J16 ?_;refine J39 ?_)
       all_goals
       refine kif (λ c27=>?_) (λ c27=>?_)
       ·try exact nv c27
        all_goals (refine k_exit rfl ?_;refine k_seq ?_;refine k_seq ?_;refine k_dp [(0,[]),(1,[]),(2,[]),(3,[]),(4,[]),(5,[1]),(6,[]),(7,[]),(8,[]),(9,[]),(10,[]),(11,[]),(12,[])] ?_;refine J15 ?_;refine r_len ?_;refine J15 ?_;((refine r_own (i:=5) (hq:=(cV (hc:=λ w1 hw=>count_c n.bm w1))) (h:=λ x47=>?_);try (refine r_fact (λ h47=>?_))));refine r_eql ?_;refine r_move ?_)
        all_goals (first|refine r_un ?_|(refine r_fieldAddr ?_)|(refine rcs 49 (λ g49=>?_) (λ g49=>?_)<;>(first|refine r_un ?_|(refine r_fieldAddr ?_))))
        all_goals ((first|refine r_un ?_|(refine r_load ?_));((first|refine r_un ?_|((refine r_own (i:=10) (hq:=(c0 (V:=.bool) (hc:=λ w1 hw=>by rw[e1];exact allNodes_c (hr.br.keep0 hw.st) hr.brS))) (h:=λ x52=>?_);try (refine r_fact (λ h52=>?_))))));refine r_pick ?_;refine J7 ?_)
        all_goals
         refine k_rv Tryz.results92 (λ w hw=>?_)
         refine⟨_,rfl,?_,hw.done⟩
         first|(simp_all[NdValid];done)|(simp_all[NdValid];omega)
       ·try exact nv c27
        all_goals (refine J16 ?_;refine J39 ?_)
        all_goals
         refine kif (λ c29=>?_) (λ c29=>?_)
         ·try exact nv c29
          all_goals (refine J84 ?_;refine J72 ?_;refine j_lenStr ?_;refine j_leq ?_;refine J1 ?_)
          all_goals
          refine k_rv Tryz.results92 (λ w hw=>?_)
          refine⟨_,rfl,?_,hw.done⟩
          first|(simp_all[NdValid];done)|(simp_all[NdValid];omega)
         ·try exact nv c29
          all_goals (refine J16 ?_;refine J39 ?_)
          all_goals
          refine kif (λ c31=>?_) (λ c31=>?_)
          ·try exact nv c31
           all_goals (refine k_exit rfl ?_;refine J72 ?_;refine j_lenStr ?_;refine j_leq ?_;refine J1 ?_)
           all_goals
            refine k_rv Tryz.results92 (λ w hw=>?_)
            refine⟨_,rfl,?_,hw.done⟩
            first|(simp_all[NdValid];done)|(simp_all[NdValid];omega)
          ·try exact nv c31
           all_goals (refine J16 ?_;refine J39 ?_)
           all_goals
            refine kif (λ c33=>?_) (λ c33=>?_)
            ·try exact nv c33
             all_goals (refine k_exit rfl ?_;refine J72 ?_;refine j_len ?_;refine j_geq ?_;refine j_move ?_)
             all_goals (first|refine j_un ?_|(refine j_yes ?_;refine j_fieldAddr ?_)|(refine lcs 62 (λ g62=>?_) (λ g62=>?_)<;>(first|refine j_un ?_|(refine j_yes ?_;refine j_fieldAddr ?_))))
             all_goals ((first|refine j_un ?_|(refine j_yes ?_;refine j_load ?_));((first|refine j_un ?_|(refine j_yes ?_;(refine j_own (c0 (V:=.bool) (hc:=λ w1 hw=>by rw[e2];exact prValid_c (hr.pr.keep0 hw.st) hr.prS)) (λ x65=>?_);try (refine l_fact (λ h65=>?_))))));refine j_pick ?_;refine j_move ?_)
             all_goals (first|refine j_un ?_|(refine j_yes ?_;refine j_fieldAddr ?_)|(refine lcs 67 (λ g67=>?_) (λ g67=>?_)<;>(first|refine j_un ?_|(refine j_yes ?_;refine j_fieldAddr ?_))))
             all_goals ((first|refine j_un ?_|(refine j_yes ?_;refine j_load ?_));((first|refine j_un ?_|(refine j_yes ?_;(refine j_own (c0 (V:=.bool) (hc:=λ w1 hw=>by rw[e2];exact shortKeys_c (hr.pr.keep0 hw.st) hr.prS)) (λ x70=>?_);try (refine l_fact (λ h70=>?_))))));refine j_pick ?_;refine J1 ?_)
             all_goals
             refine k_rv Tryz.results92 (λ w hw=>?_)
             refine⟨_,rfl,?_,hw.done⟩
             first|(simp_all[NdValid];done)|(simp_all[NdValid];omega)
            ·try exact nv c33
             all_goals (refine J16 ?_;refine J39 ?_)
             all_goals
             refine kif (λ c35=>?_) (λ c35=>?_)
             ·try exact nv c35
              all_goals (refine k_exit rfl ?_;refine J24 ?_;refine J64 ?_)
              all_goals (first|refine j_un ?_|(refine j_yes ?_;refine j_fieldAddr ?_)|(refine lcs 75 (λ g75=>?_) (λ g75=>?_)<;>(first|refine j_un ?_|(refine j_yes ?_;refine j_fieldAddr ?_))))
              all_goals (refine J89 ?_;refine l_nil ?_)
              all_goals
               refine kif (λ c79=>?_) (λ c79=>?_)
               ·try exact nv c79
                all_goals refine J10 ?_
                all_goals
                refine k_rv Tryz.results92 (λ w hw=>?_)
                refine⟨_,rfl,?_,hw.done⟩
                first|(simp_all[NdValid];done)|(simp_all[NdValid];omega)
               ·try exact nv c79
                all_goals (refine J34 ?_;refine J72 ?_;refine j_geq ?_;refine J1 ?_)
                all_goals
                refine k_rv Tryz.results92 (λ w hw=>?_)
                refine⟨_,rfl,?_,hw.done⟩
                first|(simp_all[NdValid];done)|(simp_all[NdValid];omega)
             ·try exact nv c35
              all_goals (refine k_skip ?_;refine J39 ?_)
              all_goals
               refine kif (λ c37=>?_) (λ c37=>?_)
               ·try exact nv c37
                all_goals (refine k_exit rfl ?_;refine J72 ?_;refine j_geq ?_;refine J1 ?_)
                all_goals
                refine k_rv Tryz.results92 (λ w hw=>?_)
                refine⟨_,rfl,?_,hw.done⟩
                first|(simp_all[NdValid];done)|(simp_all[NdValid];omega)
               ·try exact nv c37
                all_goals (refine k_skip ?_;refine k_exit rfl ?_;refine J10 ?_)
                all_goals
                refine k_rv Tryz.results92 (λ w hw=>?_)
                refine⟨_,rfl,?_,hw.done⟩
                first|(simp_all[NdValid];done)|(simp_all[NdValid];omega)
end Go.Proofs.YtpobgmdalcpomaaGreat
