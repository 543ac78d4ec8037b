/- Nodes of the program's arena are read; lists are cloned; the state is read. -/
import Derived.Test.YtpobgmdalcpomaaGreatAr4
import Derived.Test.YtpobgmdalcpomaaGreatGMem
import Derived.Test.YtpobgmdalcpomaaGreatAuto
import Derived.Test.YtpobgmdalcpomaaGreatGNode2

set_option linter.unusedSimpArgs false
set_option linter.unusedVariables false
namespace Go.Ct
section
theorem Cl.Yl{w:Go.World}{cs:List Go.Value}(h:Cl w none cs):cs=[]:=by
 cases cs with
 | nil=>rfl
 | cons v r=>exact absurd (h.ptr (by simp)) (by simp)
theorem Um{l:List Int}(h:aJ l=[]):l=[]:=by simpa[aJ] using h
end
end Go.Ct
namespace Go.Proofs.YtpobgmdalcpomaaGreat
section
open Go.RowKit Go.Ct
variable{w:World}{D:List Nat}{b:Nat}{L:List aQ}{cs:List Int}{gen acc:Int}{pn pc:Option Addr}{cn cc:Nat}{A:Fr}
theorem P6{l:List Int}{a:Option Addr}{c:Nat}{w:World}(ha:Cl w a (aJ l))(hl:l.length<=274877906944):Calls Tryz.prog 67 #[.slice a l.length c] w λ e w' =>
  ∃x:Option Addr×Nat,e=.returned (.slice x.1 l.length x.2)/\True/\SF w [] [] [] [] [⟨x.1,aJ l,x.2,52,1⟩] w':=by
 refine enter Tryz.func67 Tryz.ntmps67 rfl rfl (SF.s1 ha) ?_
 simp only[dB]
 all_goals (refine dH ?_;refine jS ?_;refine tE ?_)
 all_goals
 refine bF (λ c4=>?_) (λ c4=>?_)
 ·try exact nv c4
  all_goals
   have e0:a=none:=by cases a with|none=>rfl|some _=>cases c4
   subst e0
   obtain rfl:=Um ha.Yl
  all_goals refine dH ?_
  all_goals
   refine aR Tryz.results67 (λ w hw=>?_)
   exact⟨(none,0),rfl,trivial,(hw.jK 52 1).aV⟩
 ·try exact nv c4
  all_goals (refine aZ ?_;refine J0 ?_;refine eY (λ x5=>?_);refine aA ?_;(refine dM (λ x7=>?_);try (refine aB (λ h7=>?_)));refine J1 ?_)
  all_goals
   refine aR Tryz.results67 (λ w hw=>?_)
   exact⟨x7,by simp only[Nat.zero_add];rfl,trivial,by simpa using hw.aV (F':=[]) (H':=[])⟩
end

/- The arena's state is read. -/
section
open Go.RowKit Go.Ct
variable{w:World}{D:List Nat}{b:Nat}{L:List aQ}{cs:List Int}{gen acc:Int}{pn pc:Option Addr}{cn cc:Nat}{A:Fr}
end

/- Lists and the smallest functions of nodes. -/
section
open Go.RowKit Go.Ct
theorem xq (n : Nd) (w : World) : Calls Tryz.prog 126 #[n.v] w fun e w' => e = .returned n.own.v ∧ St w [] [] w' := by
  refine enter Tryz.func126 Tryz.ntmps126 rfl rfl (SF.s0 w) ?_
  simp only [dB]
  all_goals (refine J0 ?_; refine bM (fun x1 => ?_); refine aY (fun x2 => ?_); refine aN ?_; refine gR ?_; refine bV ?_; refine aY (fun x3 => ?_); refine J5 ?_; refine Aj ?_; refine aN ?_; refine cZ ?_; refine C6 ?_; refine C6 ?_; refine C6 ?_; refine C6 ?_; refine C6 ?_; refine C6 ?_; refine C6 ?_; refine aT ?_; refine aT ?_; refine kK ?_)
  all_goals
   refine bF (fun c9 => ?_) (fun c9 => ?_)
   · try exact nv c9
     all_goals (refine bQ rfl ?_; refine aT ?_; refine dL [(0, []), (1, []), (2, []), (3, []), (4, []), (5, [3]), (6, []), (7, [])] ?_; refine jP ?_; refine jP ?_; refine aX ?_; refine Q2 ?_; refine wW ?_; refine bQ rfl ?_; refine iU ?_; refine J5 ?_)
     all_goals
      refine bH Tryz.results126 (fun w hw => ?_)
      exact ⟨by simp only [Nd.own, beq_iff_eq, *, if_true, if_false]; rfl, hw.done⟩
   · try exact nv c9
     all_goals (refine iW ?_; refine kK ?_)
     all_goals
      refine bF (fun c11 => ?_) (fun c11 => ?_)
      · try exact nv c11
        all_goals (refine bQ rfl ?_; refine aT ?_; refine dL [(0, []), (1, []), (2, []), (3, []), (4, []), (5, []), (6, []), (7, [3, 5]), (8, []), (9, [5]), (10, []), (11, [])] ?_; refine jP ?_; refine jP ?_; refine jP ?_; refine aX ?_; refine Q2 ?_; refine Q2 ?_; refine wW ?_; refine bQ rfl ?_; refine iU ?_; refine J5 ?_)
        all_goals
         refine bH Tryz.results126 (fun w hw => ?_)
         exact ⟨by simp only [Nd.own, beq_iff_eq, *, if_true, if_false]; rfl, hw.done⟩
      · try exact nv c11
        all_goals (refine iW ?_; refine kK ?_)
        all_goals
         refine bF (fun c13 => ?_) (fun c13 => ?_)
         · try exact nv c13
           all_goals (refine bQ rfl ?_; refine dD ?_; refine J3 ?_; refine qS ?_; refine eV ?_; refine aT ?_; refine dL [(0, []), (1, []), (2, []), (3, []), (4, []), (5, []), (6, []), (7, [3, 5]), (8, []), (9, [5]), (10, []), (11, [])] ?_; refine jP ?_; refine jP ?_; refine jP ?_; refine aX ?_; refine Q2 ?_; refine Q2 ?_; refine wW ?_; refine bQ rfl ?_; refine iU ?_; refine J5 ?_)
           all_goals
            refine bH Tryz.results126 (fun w hw => ?_)
            exact ⟨by simp only [Nd.own, beq_iff_eq, *, if_true, if_false]; rfl, hw.done⟩
         · try exact nv c13
           all_goals (refine iW ?_; refine kK ?_)
           all_goals
            refine bF (fun c15 => ?_) (fun c15 => ?_)
            · try exact nv c15
              all_goals (refine bQ rfl ?_; refine aT ?_; refine dL [(0, []), (1, []), (2, []), (3, []), (4, []), (5, []), (6, []), (7, [3, 5]), (8, []), (9, [5]), (10, []), (11, [])] ?_; refine jP ?_; refine jP ?_; refine jP ?_; refine aX ?_; refine Q2 ?_; refine Q2 ?_; refine wW ?_; refine bQ rfl ?_; refine iU ?_; refine J5 ?_)
              all_goals
               refine bH Tryz.results126 (fun w hw => ?_)
               exact ⟨by simp only [Nd.own, beq_iff_eq, *, if_true, if_false]; rfl, hw.done⟩
            · try exact nv c15
              all_goals (refine iW ?_; refine kK ?_)
              all_goals
               refine bF (fun c17 => ?_) (fun c17 => ?_)
               · try exact nv c17
                 all_goals (refine bQ rfl ?_; refine aT ?_; refine dL [(0, []), (1, []), (2, []), (3, []), (4, []), (5, []), (6, []), (7, [3, 5]), (8, []), (9, [5]), (10, []), (11, [])] ?_; refine jP ?_; refine jP ?_; refine jP ?_; refine aX ?_; refine Q2 ?_; refine Q2 ?_; refine wW ?_; refine bQ rfl ?_; refine iU ?_; refine J5 ?_)
                 all_goals
                  refine bH Tryz.results126 (fun w hw => ?_)
                  exact ⟨by simp only [Nd.own, beq_iff_eq, *, if_true, if_false]; rfl, hw.done⟩
               · try exact nv c17
                 all_goals (refine iW ?_; refine kK ?_)
                 all_goals
                  refine bF (fun c19 => ?_) (fun c19 => ?_)
                  · try exact nv c19
                    all_goals (refine bQ rfl ?_; refine dL [(0, []), (1, []), (2, []), (3, []), (4, []), (5, []), (6, []), (7, [3, 5]), (8, []), (9, [5]), (10, []), (11, [])] ?_; refine jP ?_; refine jP ?_; refine jP ?_; refine aX ?_; refine Q2 ?_; refine Q2 ?_; refine wW ?_; refine eV ?_; refine gR ?_; refine qS ?_; refine bQ rfl ?_; refine iU ?_; refine J5 ?_)
                    all_goals
                     refine bH Tryz.results126 (fun w hw => ?_)
                     exact ⟨by simp only [Nd.own, beq_iff_eq, *, if_true, if_false]; rfl, hw.done⟩
                  · try exact nv c19
                    all_goals (refine aZ ?_; refine kK ?_)
                    all_goals
                     refine bF (fun c21 => ?_) (fun c21 => ?_)
                     · try exact nv c21
                       all_goals (refine bQ rfl ?_; refine gR ?_; refine qS ?_; refine bQ rfl ?_; refine iU ?_; refine J5 ?_)
                       all_goals
                        refine bH Tryz.results126 (fun w hw => ?_)
                        exact ⟨by simp only [Nd.own, beq_iff_eq, *, if_true, if_false]; rfl, hw.done⟩
                     · try exact nv c21
                       all_goals (refine aZ ?_; refine bQ rfl ?_; refine iU ?_; refine J5 ?_)
                       all_goals
                        refine bH Tryz.results126 (fun w hw => ?_)
                        exact ⟨by simp only [Nd.own, beq_iff_eq, *, if_true, if_false]; rfl, hw.done⟩
end

/- node.Valid. -/
section
open Go.RowKit Go.Ct
theorem px(b:Int)(w:World):Calls Tryz.prog 146 #[.int .u64 b] w λ e w'=>e=.returned (.int .i64 (xP b))/\St w [] [] w':=by
 refine enter Tryz.func146 Tryz.ntmps146 rfl rfl (SF.s0 w) ?_
 simp only[dB]
 all_goals (refine dH ?_;refine J2 ?_;refine F8 ?_;refine E3 ?_;refine aA ?_;refine E3 ?_;refine Hj ?_;refine J1 ?_;refine J2 ?_;refine F8 ?_;refine E3 ?_;refine aA ?_;refine E3 ?_;refine Hj ?_;refine J1 ?_;refine J2 ?_;refine F8 ?_;refine aA ?_;refine Hj ?_;refine E3 ?_;refine yQ ?_;refine F8 ?_;refine Hj ?_;refine yQ ?_;refine F8 ?_;refine Hj ?_;refine yQ ?_;refine F8 ?_;refine Hj ?_;refine J1 ?_;refine J2 ?_;refine lI ?_;refine E3 ?_;refine J1 ?_)
 all_goals
 refine aR Tryz.results146 (λ w hw=>?_)
 exact⟨rfl,hw.done⟩
theorem ij(b:Int)(w:World):Calls Tryz.prog 127 #[.int .u64 b] w λ e w'=>e=.returned (.int .i64 (xP b))/\St w [] [] w':=by
 refine enter Tryz.func127 Tryz.ntmps127 rfl rfl (SF.s0 w) ?_
 simp only[dB]
 all_goals (refine dH ?_;refine J2 ?_;(refine aF (cV (hc:=λ w1 hw=>px b w1)) (λ x4=>?_);try (refine aB (λ h4=>?_)));refine J1 ?_)
 all_goals
 refine aR Tryz.results127 (λ w hw=>?_)
 exact⟨rfl,hw.done⟩
theorem Uy{n:Nd}{xs:List Int}{ys:List Pr}{w:World}(hr:pQ w n xs ys) :
  Calls Tryz.prog 92 #[n.v] w λ e w'=>∃r:Bool,e=.returned (.bool r)/\(r=true↔bL n xs ys)/\St w [] [] w':=by
 have e1:=hr.brN;have e2:=hr.prN
 refine enter Tryz.func92 Tryz.ntmps92 rfl rfl (SF.s0 w) ?_
 simp only[dB]
 all_goals (refine J0 ?_;refine bM (λ x1=>?_);refine iI ?_;refine aT ?_;refine dL [(0,[]),(1,[]),(2,[0]),(3,[]),(4,[])] ?_;refine bT ?_;refine bT ?_;((refine bA (i:=2) (hq:=(cV (hc:=λ w1 hw=>xq n w1))) (h:=λ x5=>?_);try (refine aK (λ h5=>?_))));((refine bA (i:=3) (hq:=(c0 (V:=.bool) (hc:=λ w1 hw=>oh (hr.gA hw.st) (hr.gA hw.st).own))) (h:=λ x6=>?_);try (refine aK (λ h6=>?_))));refine bp ?_;refine eO ?_)
 all_goals
 refine bF (λ c7=>?_) (λ c7=>?_)
 ·try exact nv c7
  all_goals refine dH ?_
  all_goals
   refine aR Tryz.results92 (λ w hw=>?_)
   refine⟨_,rfl,?_,hw.done⟩
   first|(simp_all[bL];done)|(simp_all[bL];omega)
 ·try exact nv c7
  all_goals (refine iW ?_;refine gR ?_;refine Am ?_)
  all_goals (first|refine aG ?_|(refine aC ?_;refine aE ?_)|(refine dG 11 (λ g11=>?_) (λ g11=>?_)<;>(first|refine aG ?_|(refine aC ?_;refine aE ?_))))
  all_goals (refine ou ?_;refine aA ?_)
  all_goals (first|refine aG ?_|(refine aC ?_;refine aE ?_)|(refine dG 16 (λ g16=>?_) (λ g16=>?_)<;>(first|refine aG ?_|(refine aC ?_;refine aE ?_))))
  all_goals (refine ou ?_;refine aN ?_)
  all_goals
   refine bF (λ c20=>?_) (λ c20=>?_)
   ·try exact nv c20
    all_goals refine dH ?_
    all_goals
    refine aR Tryz.results92 (λ w hw=>?_)
    refine⟨_,rfl,?_,hw.done⟩
    first|(simp_all[bL];done)|(simp_all[bL];omega)
   ·try exact nv c20
    all_goals (refine iW ?_;refine gR ?_;refine aN ?_;refine cZ ?_;refine C6 ?_;refine C6 ?_;refine C6 ?_;refine C6 ?_;refine cZ ?_;refine C6 ?_;refine C6 ?_;refine C6 ?_;refine aT ?_;refine aT ?_;refine kK ?_)
    all_goals
    refine bF (λ c23=>?_) (λ c23=>?_)
    ·try exact nv c23
     all_goals (refine bQ rfl ?_;refine aT ?_;refine dH ?_)
     all_goals
      refine aR Tryz.results92 (λ w hw=>?_)
      refine⟨_,rfl,?_,hw.done⟩
      first|(simp_all[bL];done)|(simp_all[bL];omega)
    ·try exact nv c23
     all_goals (refine iW ?_;refine kK ?_)
     all_goals
      refine bF (λ c25=>?_) (λ c25=>?_)
      ·try exact nv c25
       all_goals (refine bQ rfl ?_;refine Aj ?_;refine oC ?_;refine J1 ?_)
       all_goals
       refine aR Tryz.results92 (λ w hw=>?_)
       refine⟨_,rfl,?_,hw.done⟩
       first|(simp_all[bL];done)|(simp_all[bL];omega)
      ·try exact nv c25
       all_goals (refine iW ?_;refine kK ?_)
       all_goals
       refine bF (λ c27=>?_) (λ c27=>?_)
       ·try exact nv c27
        all_goals (refine bQ rfl ?_;refine aT ?_;refine aT ?_;refine dL [(0,[]),(1,[]),(2,[]),(3,[]),(4,[]),(5,[1]),(6,[]),(7,[]),(8,[]),(9,[]),(10,[]),(11,[]),(12,[])] ?_;refine jP ?_;refine jD ?_;refine jP ?_;((refine bA (i:=5) (hq:=(cV (hc:=λ w1 hw=>ij n.bm w1))) (h:=λ x47=>?_);try (refine aK (λ h47=>?_))));refine mD ?_;refine aL ?_)
        all_goals (first|refine cB ?_|(refine aX ?_)|(refine wT 49 (λ g49=>?_) (λ g49=>?_)<;>(first|refine cB ?_|(refine aX ?_))))
        all_goals ((first|refine cB ?_|(refine bT ?_));((first|refine cB ?_|((refine bA (i:=10) (hq:=(c0 (V:=.bool) (hc:=λ w1 hw=>by rw[e1];exact Pt (hr.br.gA hw.st) hr.brS))) (h:=λ x52=>?_);try (refine aK (λ h52=>?_))))));refine hU ?_;refine J7 ?_)
        all_goals
         refine aR Tryz.results92 (λ w hw=>?_)
         refine⟨_,rfl,?_,hw.done⟩
         first|(simp_all[bL];done)|(simp_all[bL];omega)
       ·try exact nv c27
        all_goals (refine iW ?_;refine kK ?_)
        all_goals
         refine bF (λ c29=>?_) (λ c29=>?_)
         ·try exact nv c29
          all_goals (refine Wh ?_;refine Aj ?_;refine lR ?_;refine Ab ?_;refine J1 ?_)
          all_goals
          refine aR Tryz.results92 (λ w hw=>?_)
          refine⟨_,rfl,?_,hw.done⟩
          first|(simp_all[bL];done)|(simp_all[bL];omega)
         ·try exact nv c29
          all_goals (refine iW ?_;refine kK ?_)
          all_goals
          refine bF (λ c31=>?_) (λ c31=>?_)
          ·try exact nv c31
           all_goals (refine bQ rfl ?_;refine Aj ?_;refine lR ?_;refine Ab ?_;refine J1 ?_)
           all_goals
            refine aR Tryz.results92 (λ w hw=>?_)
            refine⟨_,rfl,?_,hw.done⟩
            first|(simp_all[bL];done)|(simp_all[bL];omega)
          ·try exact nv c31
           all_goals (refine iW ?_;refine kK ?_)
           all_goals
            refine bF (λ c33=>?_) (λ c33=>?_)
            ·try exact nv c33
             all_goals (refine bQ rfl ?_;refine Aj ?_;refine dW ?_;refine oC ?_;refine aA ?_)
             all_goals (first|refine aG ?_|(refine aC ?_;refine aE ?_)|(refine dG 62 (λ g62=>?_) (λ g62=>?_)<;>(first|refine aG ?_|(refine aC ?_;refine aE ?_))))
             all_goals ((first|refine aG ?_|(refine aC ?_;refine bJ ?_));((first|refine aG ?_|(refine aC ?_;(refine aF (c0 (V:=.bool) (hc:=λ w1 hw=>by rw[e2];exact Uj (hr.pr.gA hw.st) hr.prS)) (λ x65=>?_);try (refine aB (λ h65=>?_))))));refine cH ?_;refine aA ?_)
             all_goals (first|refine aG ?_|(refine aC ?_;refine aE ?_)|(refine dG 67 (λ g67=>?_) (λ g67=>?_)<;>(first|refine aG ?_|(refine aC ?_;refine aE ?_))))
             all_goals ((first|refine aG ?_|(refine aC ?_;refine bJ ?_));((first|refine aG ?_|(refine aC ?_;(refine aF (c0 (V:=.bool) (hc:=λ w1 hw=>by rw[e2];exact Ni (hr.pr.gA hw.st) hr.prS)) (λ x70=>?_);try (refine aB (λ h70=>?_))))));refine cH ?_;refine J1 ?_)
             all_goals
             refine aR Tryz.results92 (λ w hw=>?_)
             refine⟨_,rfl,?_,hw.done⟩
             first|(simp_all[bL];done)|(simp_all[bL];omega)
            ·try exact nv c33
             all_goals (refine iW ?_;refine kK ?_)
             all_goals
             refine bF (λ c35=>?_) (λ c35=>?_)
             ·try exact nv c35
              all_goals (refine bQ rfl ?_;refine gR ?_;refine Am ?_)
              all_goals (first|refine aG ?_|(refine aC ?_;refine aE ?_)|(refine dG 75 (λ g75=>?_) (λ g75=>?_)<;>(first|refine aG ?_|(refine aC ?_;refine aE ?_))))
              all_goals (refine ou ?_;refine aN ?_)
              all_goals
               refine bF (λ c79=>?_) (λ c79=>?_)
               ·try exact nv c79
                all_goals refine dH ?_
                all_goals
                refine aR Tryz.results92 (λ w hw=>?_)
                refine⟨_,rfl,?_,hw.done⟩
                first|(simp_all[bL];done)|(simp_all[bL];omega)
               ·try exact nv c79
                all_goals (refine mN ?_;refine Aj ?_;refine oC ?_;refine J1 ?_)
                all_goals
                refine aR Tryz.results92 (λ w hw=>?_)
                refine⟨_,rfl,?_,hw.done⟩
                first|(simp_all[bL];done)|(simp_all[bL];omega)
             ·try exact nv c35
              all_goals (refine aZ ?_;refine kK ?_)
              all_goals
               refine bF (λ c37=>?_) (λ c37=>?_)
               ·try exact nv c37
                all_goals (refine bQ rfl ?_;refine Aj ?_;refine oC ?_;refine J1 ?_)
                all_goals
                refine aR Tryz.results92 (λ w hw=>?_)
                refine⟨_,rfl,?_,hw.done⟩
                first|(simp_all[bL];done)|(simp_all[bL];omega)
               ·try exact nv c37
                all_goals (refine aZ ?_;refine bQ rfl ?_;refine dH ?_)
                all_goals
                refine aR Tryz.results92 (λ w hw=>?_)
                refine⟨_,rfl,?_,hw.done⟩
                first|(simp_all[bL];done)|(simp_all[bL];omega)
end

/- Proper states: the program's check. -/
end Go.Proofs.YtpobgmdalcpomaaGreat
namespace Go.Ct
section
def dR(n:Nd):Option Int:=if n.kind=2 then some n.main else if n.kind=3∨n.kind=5∨n.kind=6 then some n.prev else if n.kind=8 then some n.status else none
def fB(u:Option (List Bool))(n:Nd):Option (List Bool) :=
 match u with
 | none=>none
 | some u=>match dR n with
  | none=>some u
  | some c=>if 1<=c/\c<=u.length/\u.getD (c-1).toNat false=false then some (u.set (c-1).toNat true) else none
def marks(m:Nat)(L:List aQ):Option (List Bool):=L.foldl (λ u v=>fB u v.nd) (some (List.replicate m false))
theorem mL{m:Nat}{L:List aQ}{k:Nat}(h:k<L.length):marks m (L.take (k+1))=fB (marks m (L.take k)) (L.getD k aQ.zero).nd:=by
 rw[marks,List.take_succ_eq_append_getElem h,List.foldl_append,gdg,List.getElem?_eq_getElem h]
 rfl
theorem Ef{m:Nat}{L:List aQ}{k:Nat}(h:marks m (L.take k)=none):marks m L=none:=by
 have e:L=L.take k++L.drop k:=(List.take_append_drop k L).symm
 rw[e,marks,List.foldl_append]
 rw[marks] at h
 rw[h]
 generalize L.drop k=l
 induction l with
 | nil=>rfl
 | cons v l ih=>exact ih
theorem Bb{m:Nat}:∀{L:List aQ} {u:List Bool},marks m L=some u->u.length=m:=by
 intro L
 have key:∀(l:List aQ) (u0:Option (List Bool)),(∀u,u0=some u->u.length=m)->∀u,l.foldl (λ u v=>fB u v.nd) u0=some u->u.length=m:=by
  intro l
  induction l with
  | nil=>intro u0 h u hu;exact h u hu
  | cons v l ih =>
   intro u0 h u hu
   refine ih (fB u0 v.nd) (λ u1 h1=>?_) u hu
   cases u0 with
   | none=>simp[fB] at h1
   | some u2 =>
    have:=h u2 rfl
    simp only[fB] at h1
    cases hc:dR v.nd with
    | none=>rw[hc] at h1;simp only[Option.some.injEq] at h1;rw[<- h1];exact this
    | some c =>
     rw[hc] at h1
     simp only at h1
     split at h1
     ·simp only[Option.some.injEq] at h1;rw[<- h1,List.length_set];exact this
     ·cases h1
 intro u hu
 exact key L _ (λ u h=>by simp only[Option.some.injEq] at h;rw[<- h];simp) u hu
def B5(r:Int)(n:Nat):Prop:=0<=r/\r<=(n:Int)
instance (r:Int) (n:Nat):Decidable (B5 r n):=inferInstanceAs (Decidable (0<=r/\r<=(n:Int)))
theorem q7{r:Int}{n:Nat}(h:0<=r):decide (B5 r n)=decide (r<=(n:Int)):=by
 by_cases h2:r<=(n:Int)
 ·rw[decide_eq_true h2,decide_eq_true ⟨h,h2⟩]
 ·rw[decide_eq_false h2,decide_eq_false λ h3=>h2 h3.2]
def Q1(n:Nd)(xs:List Int)(N:Nat):Prop:=(∀i,i<xs.length->B5 (xs.getD i 0) N)/\B5 n.cE N/\B5 n.exp N/\B5 n.new N
def kG(gen:Int)(N:Nat)(v:aQ):Prop:=bL v.nd v.xs v.ys/\v.nd.gen<=gen/\Q1 v.nd v.xs N
structure dK(L:List aQ)(cs:List Int)(gen:Int):Prop where
 two:2<=L.length
 gen0:0<=gen
 m0:(L.getD 0 aQ.zero).nd.kind=1
 m1:(L.getD 1 aQ.zero).nd.kind=1
 cells:∀i,i<cs.length->B5 (cs.getD i 0) L.length
 nodes:∀i,i<L.length->kG gen L.length (L.getD i aQ.zero)
 marks:marks cs.length L≠none
end
end Go.Ct
namespace Go.Proofs.YtpobgmdalcpomaaGreat
section
open Go.RowKit Go.Ct
theorem vK(r:Int)(n:Nat)(w:World):Calls Tryz.prog 91 #[.int .i64 r,.int .i64 ((n:Nat):Int)] w λ e w'=>e=.returned (.bool (decide (B5 r n)))/\St w [] [] w':=by
 refine enter Tryz.func91 Tryz.ntmps91 rfl rfl (SF.s0 w) ?_
 simp only[dB]
 all_goals (refine dH ?_;refine J2 ?_;refine oC ?_;refine aA ?_)
 all_goals (first|refine aG ?_|(refine aC ?_;refine aA ?_)|(refine dG 7 (λ g7=>?_) (λ g7=>?_)<;>(first|refine aG ?_|(refine aC ?_;refine aA ?_))))
 all_goals ((first|refine aG ?_|(refine aC ?_;refine aA ?_));(first|refine aG ?_|(refine aC ?_;refine Ab ?_));refine cH ?_;refine J1 ?_)
 all_goals
 refine aR Tryz.results91 (λ w hw=>?_)
 refine⟨?_,hw.done⟩
 first|(rw[decide_eq_true (show B5 r n from⟨by omega,by omega⟩)];first|rfl|(rw[decide_eq_true (by omega)];rfl))|(rw[decide_eq_false (show ¬B5 r n from λ h=>by have:=h.1;have:=h.2;omega)];first|rfl|(rw[decide_eq_false (by omega)];rfl))|(rw[q7 (by omega)];rfl)
theorem K8{n:Nd}{xs:List Int}{N:Nat}{w:World}(e1:n.brN=xs.length)(ha:Cl w n.brA (aJ xs))(hx:xs.length<4611686018427387904) :
  Calls Tryz.prog 93 #[n.v,.int .i64 ((N:Nat):Int)] w λ e w'=>∃r:Bool,e=.returned (.bool r)/\(r=true↔Q1 n xs N)/\St w [] [] w':=by
 refine enter Tryz.func93 Tryz.ntmps93 rfl rfl (SF.s1 ha) ?_
 simp only[dB]
 simp only[Nd.v,Nd.cells,e1]
 all_goals (refine J0 ?_;refine bM (λ x2=>?_);refine iI ?_;refine gR ?_;refine dW ?_;refine uM ?_;refine cZ ?_)
 all_goals
 refine lO [4,6,10,11,12,13,14,15,16,17,18] (λ k=>[(10,.int .i64 ((k:Nat):Int))]) (λ k=>k<=xs.length/\∀i,i<k->B5 (xs.getD i 0) N) (λ k=>_) (λ _=>_) (λ _=>_) (λ k=>xs.length-k) (0) (⟨Nat.zero_le _,λ i hi=>absurd hi (Nat.not_lt_zero i)⟩) (λ k f hx=>?_)
 dsimp only[gW,List.map,List.cons_append,List.nil_append]
 all_goals (refine J0 ?_;refine uQ ?_;refine aT ?_)
 all_goals
  refine bF (λ c11=>?_) (λ c11=>?_)
  ·try exact nv c11
   all_goals (refine oD ?_;refine J0 ?_;refine Dc ?_;refine yQ ?_;(refine aF (cV (hc:=λ w1 hw=>vK _ N w1)) (λ x16=>?_);try (refine aB (λ h16=>?_)));refine kD ?_)
   all_goals
   refine bF (λ c17=>?_) (λ c17=>?_)
   ·try exact nv c17
    all_goals refine dH ?_
    all_goals
     refine aR Tryz.results93 (λ w hw=>?_)
     exact⟨false,rfl,⟨(λ h=>nomatch h),λ h=>absurd (h.1 k (by omega)) (by assumption)⟩,hw.done⟩
   ·try exact nv c17
    all_goals (refine mN ?_;refine Ld ?_;refine uM ?_)
    all_goals
     refine gY (k+1) ?_
     ·exact⟨by omega,λ i hi=>by rcases Nat.lt_succ_iff_lt_or_eq.1 hi with h|rfl;exact hx.2 i h;assumption⟩
  ·try exact nv c11
   all_goals (refine bQ rfl ?_;refine gR ?_;refine aA ?_;(refine aF (cV (hc:=λ w1 hw=>vK _ N w1)) (λ x22=>?_);try (refine aB (λ h22=>?_)));refine aA ?_)
   all_goals (first|refine aG ?_|(refine aC ?_;refine aE ?_)|(refine dG 23 (λ g23=>?_) (λ g23=>?_)<;>(first|refine aG ?_|(refine aC ?_;refine aE ?_))))
   all_goals (refine cq ?_;((first|refine aG ?_|(refine aC ?_;(refine aF (cV (hc:=λ w1 hw=>vK _ N w1)) (λ x27=>?_);try (refine aB (λ h27=>?_))))));refine cH ?_;refine aA ?_)
   all_goals (first|refine aG ?_|(refine aC ?_;refine aE ?_)|(refine dG 29 (λ g29=>?_) (λ g29=>?_)<;>(first|refine aG ?_|(refine aC ?_;refine aE ?_))))
   all_goals (refine cq ?_;((first|refine aG ?_|(refine aC ?_;(refine aF (cV (hc:=λ w1 hw=>vK _ N w1)) (λ x33=>?_);try (refine aB (λ h33=>?_))))));refine cH ?_;refine J1 ?_)
   all_goals
   refine aR Tryz.results93 (λ w hw=>?_)
   have hall:∀i,i<xs.length->B5 (xs.getD i 0) N:=λ i hi=>hx.2 i (by omega)
   first|exact⟨_,rfl,by simp_all[Q1],hw.done⟩
theorem bi(n:Nd)(w:World):Calls Tryz.prog 94 #[n.v] w λ e w'=>e=.returned (.tuple #[.int .i64 ((dR n).getD 0),.bool (dR n).isSome])/\St w [] [] w':=by
  refine enter Tryz.func94 Tryz.ntmps94 rfl rfl (SF.s0 w) ?_
  simp only[dB]
  simp only[Nd.v,Nd.cells]
  all_goals (refine J0 ?_;refine bM (λ x1=>?_);refine J8 ?_;refine C6 ?_;refine gR ?_;refine P0 ?_)
  all_goals
   refine bF (λ c4=>?_) (λ c4=>?_)
   · try exact nv c4
     all_goals (refine gR ?_;refine J8 ?_)
     all_goals
      refine bH Tryz.results94 (λ w hw=>?_)
      refine⟨?_,hw.done⟩
      first|(rw[show dR n=some n.main by simp[dR,c4]];rfl)|(rw[show dR n=some n.prev by simp only[dR];rw[if_neg c4,if_pos k22]];rfl)|(rw[show dR n=some n.status by simp only[dR];rw[if_neg c4,if_neg k22,if_pos c15]];rfl)|(rw[show dR n=none by simp only[dR];rw[if_neg c4,if_neg k22,if_neg c15]];rfl)
   · try exact nv c4
     all_goals (refine iU ?_;(refine aF (c0 (V:=.bool) (hc:=λ w1 hw=>Kj n w1)) (λ x12=>?_);try (refine aB (λ h12=>?_)));refine J1 ?_)
     all_goals
      refine bF (λ c10=>?_) (λ c10=>?_)
      · try exact nv c10
        all_goals
         have k22:n.kind=3∨n.kind=5∨n.kind=6:=h12.1 c10
        all_goals (refine gR ?_;refine J8 ?_)
        all_goals
         refine bH Tryz.results94 (λ w hw=>?_)
         refine⟨?_,hw.done⟩
         first|(rw[show dR n=some n.main by simp[dR,c4]];rfl)|(rw[show dR n=some n.prev by simp only[dR];rw[if_neg c4,if_pos k22]];rfl)|(rw[show dR n=some n.status by simp only[dR];rw[if_neg c4,if_neg k22,if_pos c15]];rfl)|(rw[show dR n=none by simp only[dR];rw[if_neg c4,if_neg k22,if_neg c15]];rfl)
      · try exact nv c10
        all_goals
         have k22:¬(n.kind=3∨n.kind=5∨n.kind=6):=λ k=>by rw[h12.2 k] at c10;cases c10
        all_goals (refine gR ?_;refine P0 ?_)
        all_goals
         refine bF (λ c15=>?_) (λ c15=>?_)
         · try exact nv c15
           all_goals (refine gR ?_;refine J8 ?_)
           all_goals
            refine bH Tryz.results94 (λ w hw=>?_)
            refine⟨?_,hw.done⟩
            first|(rw[show dR n=some n.main by simp[dR,c4]];rfl)|(rw[show dR n=some n.prev by simp only[dR];rw[if_neg c4,if_pos k22]];rfl)|(rw[show dR n=some n.status by simp only[dR];rw[if_neg c4,if_neg k22,if_pos c15]];rfl)|(rw[show dR n=none by simp only[dR];rw[if_neg c4,if_neg k22,if_neg c15]];rfl)
         · try exact nv c15
           all_goals (refine mN ?_;refine qE ?_)
           all_goals
            refine bH Tryz.results94 (λ w hw=>?_)
            refine⟨?_,hw.done⟩
            first|(rw[show dR n=some n.main by simp[dR,c4]];rfl)|(rw[show dR n=some n.prev by simp only[dR];rw[if_neg c4,if_pos k22]];rfl)|(rw[show dR n=some n.status by simp only[dR];rw[if_neg c4,if_neg k22,if_pos c15]];rfl)|(rw[show dR n=none by simp only[dR];rw[if_neg c4,if_neg k22,if_neg c15]];rfl)
end

/- Proper states: the walk through the program's check. -/
section
open Go.RowKit Go.Ct
set_option maxRecDepth 100000 in
theorem Oo{L:List aQ}{cs:List Int}{gen:Int}{pn pc:Option Addr}{cn cc:Nat}{w:World}(h:fV w L cs pn pc)(hL:L.length<=274877906944)(hC:cs.length<=274877906944) :
    Calls Tryz.prog 66 #[.agg ⟨[.slice pn L.length cn,.slice pc cs.length cc,.int .i64 gen]⟩] w λ e w'=>∃r:Bool,e=.returned (.bool r)/\(r=true↔dK L cs gen)/\St w [] [] w':=by
  refine enter Tryz.func66 Tryz.ntmps66 rfl rfl h.start ?_
  simp only[dB]
  all_goals (refine J0 ?_;refine bM (λ x1=>?_);refine iI ?_;refine gR ?_;refine dW ?_;refine Am ?_)
  all_goals (first|refine aG ?_|(refine aC ?_;refine aE ?_)|(refine dG 14 (λ g14=>?_) (λ g14=>?_)<;>(first|refine aG ?_|(refine aC ?_;refine aE ?_))))
  all_goals (refine ou ?_;refine aN ?_)
  all_goals
   refine bF (λ c18=>?_) (λ c18=>?_)
   · try exact nv c18
     all_goals refine dH ?_
     all_goals
      refine aR Tryz.results66 (λ w hw=>?_)
      exact⟨false,rfl,⟨(λ h=>nomatch h),λ hp=>by have h1:=hp.two;have h2:=hp.gen0;exfalso;omega⟩,hw.done⟩
   · try exact nv c18
     all_goals (refine iW ?_;refine gR ?_;refine aH (qX (k:=0) rf rf fG dS fin (by omega) (by omega)) rfl ?_;refine aE ?_;refine aH (vB (q:=0) rf bU fin (by omega)) rfl ?_;refine lY ?_;refine aA ?_)
     all_goals (first|refine aG ?_|(refine aC ?_;refine aE ?_)|(refine dG 25 (λ g25=>?_) (λ g25=>?_)<;>(first|refine aG ?_|(refine aC ?_;refine aE ?_))))
     all_goals ((first|refine aG ?_|(refine aC ?_;refine bJ ?_));(first|refine aG ?_|(refine aC ?_;refine aH (qX (k:=1) rf rf fG dS fin (by omega) (by omega)) rfl ?_));(first|refine aG ?_|(refine aC ?_;refine aE ?_));(first|refine aG ?_|(refine aC ?_;refine aH (vB (q:=1) rf bU fin (by omega)) rfl ?_));refine U8 ?_;refine aN ?_)
     all_goals
      refine bF (λ c32=>?_) (λ c32=>?_)
      · try exact nv c32
        all_goals refine dH ?_
        all_goals
         refine aR Tryz.results66 (λ w hw=>?_)
         exact⟨false,rfl,⟨(λ h=>nomatch h),λ hp=>by have h1:=hp.m0;have h2:=hp.m1;exfalso;omega⟩,hw.done⟩
      · try exact nv c32
        all_goals (refine iW ?_;refine gR ?_;refine dW ?_;refine uM ?_;refine cZ ?_)
        all_goals
         refine gE [2,4,36,37,38,39,40,41,42,43,44,45,46] (λ k=>[(36,.int .i64 ((k:Nat):Int))]) (λ k=>k<=cs.length/\∀i,i<k->B5 (cs.getD i 0) L.length) (λ k=>cs.length-k) (0) (⟨Nat.zero_le _,λ i hi=>absurd hi (Nat.not_lt_zero i)⟩) ?_ (λ k f hx=>?_)
         · repeat (first|exact bI _|refine bE (by first|exact rfl|(conv=>{lhs;whnf};simp;done)) ?_)
         dsimp only[gW,List.map,List.cons_append,List.nil_append]
         all_goals (refine J0 ?_;refine uQ ?_;refine aT ?_)
         all_goals
          refine bF (λ c37=>?_) (λ c37=>?_)
          · try exact nv c37
            all_goals (refine oD ?_;refine J0 ?_;refine Dc ?_;refine J1 ?_;refine J2 ?_;refine Gh ?_;(refine aF (cV (hc:=λ w1 hw=>vK _ _ w1)) (λ x44=>?_);try (refine aB (λ h44=>?_)));refine kD ?_)
            all_goals
             refine bF (λ c45=>?_) (λ c45=>?_)
             · try exact nv c45
               all_goals refine dH ?_
               all_goals
                refine aR Tryz.results66 (λ w hw=>?_)
                exact⟨false,rfl,⟨(λ h=>nomatch h),λ hp=>absurd (hp.cells k (by omega)) (by assumption)⟩,hw.done⟩
             · try exact nv c45
               all_goals (refine mN ?_;refine Ld ?_;refine uM ?_)
               all_goals
                refine fD (k+1) ?_ ?_ ?_
                · first|omega|(simp only[];omega)
                · repeat' (first|exact bI _|refine bE ?_ ?_)
                  all_goals (first|exact rfl|(conv=>{lhs;whnf};simp;done)|(conv=>{lhs;whnf};congr 1;omega))
                · exact⟨by omega,λ i hi=>by rcases Nat.lt_succ_iff_lt_or_eq.1 hi with h|rfl;exact hx.2 i h;assumption⟩
          · try exact nv c37
            all_goals (refine bQ rfl ?_;refine gR ?_;refine dW ?_;refine pV (λ x50=>?_);refine iI ?_;refine gR ?_;refine dW ?_;refine uM ?_;refine cZ ?_)
            all_goals
             have hcells:∀i,i<cs.length->B5 (cs.getD i 0) L.length:=λ i hi=>hx.2 i (by omega)
             clear hx
             refine lO [2,7,8,9,54,55,56,57,58,59,60,61,62,63,64,65,66,67,68,69,70,71,72,73,74,75,76,77,78,79,80,81,82,83,84,85,86,87,88,89,90,91,92,93,94,95,96,97,98,99,100,101,102,103] (λ y:Nat×List Bool=>[(54,.int .i64 ((y.1:Nat):Int))]) (λ y=>y.1<=L.length/\marks cs.length (L.take y.1)=some y.2/\∀i,i<y.1->kG gen L.length (L.getD i aQ.zero)) (λ _=>_) (λ _=>_) (λ y=>[⟨some ⟨x50,0,none⟩,iR y.2,cs.length,4,1⟩]) (λ y=>L.length-y.1) ((0,List.replicate cs.length false)) (⟨Nat.zero_le _,rfl,λ i hi=>absurd hi (Nat.not_lt_zero i)⟩) (λ y f hx=>?_)
             dsimp only[gW,List.map,List.cons_append,List.nil_append]
             have hu:=Bb hx.2.1
             all_goals (refine J0 ?_;refine uQ ?_;refine aT ?_)
             all_goals
              refine bF (λ c55=>?_) (λ c55=>?_)
              · try exact nv c55
                all_goals (refine oD ?_;refine J0 ?_;refine Dc ?_;refine aY (λ x7=>?_);refine J5 ?_;refine aT ?_;refine iU ?_;(refine aF (c0 (V:=.bool) (hc:=λ w1 hw=>Uy (hw.Mu h.fit (by omega)))) (λ x59=>?_);try (refine aB (λ h59=>?_)));refine As ?_)
                all_goals (first|refine aG ?_|(refine aC ?_;refine aE ?_)|(refine dG 61 (λ g61=>?_) (λ g61=>?_)<;>(first|refine aG ?_|(refine aC ?_;refine aE ?_))))
                all_goals (refine Ax ?_;refine xV ?_;refine aA ?_)
                all_goals (first|refine aG ?_|(refine aC ?_;refine bJ ?_)|(refine dG 68 (λ g68=>?_) (λ g68=>?_)<;>(first|refine aG ?_|(refine aC ?_;refine bJ ?_))))
                all_goals (refine Li ?_;((first|refine aG ?_|(refine aC ?_;(refine aF (c0 (V:=.bool) (hc:=λ w1 hw=>K8 (hw.Mu h.fit (by omega)).brN (hw.Mu h.fit (by omega)).br (hw.Mu h.fit (by omega)).brS)) (λ x73=>?_);try (refine aB (λ h73=>?_))))));refine Ju ?_;refine aN ?_)
                all_goals
                 refine bF (λ c75=>?_) (λ c75=>?_)
                 · try exact nv c75
                   all_goals refine dH ?_
                   all_goals
                    refine aR Tryz.results66 (λ w hw=>?_)
                    refine⟨false,rfl,⟨(λ h=>nomatch h),λ hp=>?_⟩,hw.done⟩
                    obtain⟨q1,q2,q3⟩:=hp.nodes y.1 (by omega)
                    first|(exfalso;omega)|(have:=h59.2 q1;simp_all;done)|(have:=h73.2 q3;simp_all;done)
                 · try exact nv c75
                   all_goals
                    have hok:kG gen L.length (L.getD y.1 aQ.zero):=⟨h59.1 (by simp_all),by omega,h73.1 (by simp_all)⟩
                   all_goals (refine aZ ?_;refine iU ?_;(refine aF (cV (hc:=λ w1 hw=>bi (L.getD y.1 aQ.zero).nd w1)) (λ x78=>?_);try (refine aB (λ h78=>?_)));refine pZ ?_;refine J8 ?_;refine jS ?_;refine kD ?_)
                   all_goals
                    refine bF (λ c82=>?_) (λ c82=>?_)
                    · try exact nv c82
                      all_goals
                       have hmk:fB (some y.2) (L.getD y.1 aQ.zero).nd=some y.2:=by
                        have e:dR (L.getD y.1 aQ.zero).nd=none:=by cases hq:dR (L.getD y.1 aQ.zero).nd<;>simp_all
                        simp only[fB,e]
                      all_goals (refine bQ rfl ?_;refine Ld ?_;refine uM ?_)
                      all_goals
                       refine gY ((y.1+1,(fB (some y.2) (L.getD y.1 aQ.zero).nd).getD y.2)) ?_ (hw1:=λ w hw=>by rw[hmk];exact hw.back)
                       · refine⟨by omega,by rw[mL (by omega),hx.2.1,hmk];rfl,λ i hi=>?_⟩
                         rcases Nat.lt_succ_iff_lt_or_eq.1 hi with h|rfl
                         · exact hx.2.2 i h
                         · exact hok
                    · try exact nv c82
                      all_goals
                       obtain⟨c,hc⟩:∃c,dR (L.getD y.1 aQ.zero).nd=some c:=Option.isSome_iff_exists.1 c82
                       rw[hc,Option.getD_some]
                      all_goals (refine iW ?_;refine J2 ?_;refine Am ?_)
                      all_goals (first|refine aG ?_|(refine aC ?_;refine aA ?_)|(refine dG 85 (λ g85=>?_) (λ g85=>?_)<;>(first|refine aG ?_|(refine aC ?_;refine aA ?_))))
                      all_goals (refine Li ?_;refine xV ?_;refine aA ?_)
                      all_goals (first|refine aG ?_|(refine aC ?_;refine aA ?_)|(refine dG 92 (λ g92=>?_) (λ g92=>?_)<;>(first|refine aG ?_|(refine aC ?_;refine aA ?_))))
                      all_goals ((first|refine aG ?_|(refine aC ?_;refine aA ?_));(first|refine aG ?_|(refine aC ?_;refine aH (K0 rf rf (by omega) (by omega)) rfl ?_));(first|refine aG ?_|(refine aC ?_;refine aH (kT rf rf fG bU fin (by omega) (by omega)) rfl ?_));(first|refine aG ?_|(refine aC ?_;refine aH (vS rf bU fin (by omega)) rfl ?_));refine cH ?_;refine aN ?_)
                      all_goals
                       refine bF (λ c98=>?_) (λ c98=>?_)
                       · try exact nv c98
                         all_goals refine dH ?_
                         all_goals
                          refine aR Tryz.results66 (λ w hw=>?_)
                          refine⟨false,rfl,⟨(λ h=>nomatch h),λ hp=>?_⟩,hw.done⟩
                          have hm:marks cs.length (L.take (y.1+1))=none:=by
                           rw[mL (by omega),hx.2.1]
                           simp only[fB,hc]
                           refine if_neg λ hh=>?_
                           obtain⟨q1,q2,q3⟩:=hh
                           first|(exfalso;omega)|(exfalso;rw[q3] at c98;cases c98)
                          exact absurd (Ef hm) hp.marks
                       · try exact nv c98
                         all_goals
                          have hmk:fB (some y.2) (L.getD y.1 aQ.zero).nd=some (y.2.set (c-1).toNat true):=by
                           simp only[fB,hc]
                           rw[if_pos ⟨by omega,by omega,c98⟩]
                         all_goals (refine aZ ?_;refine Fk ?_;refine aH (K0 rf rf (by omega) (by omega)) rfl ?_;refine aH (kT rf rf fG bU fin (by omega) (by omega)) rfl ?_;refine J5 ?_;refine eV ?_;refine Ld ?_;refine uM ?_)
                         all_goals
                          refine gY ((y.1+1,(fB (some y.2) (L.getD y.1 aQ.zero).nd).getD y.2)) ?_ (hw1:=λ w hw=>by rw[hmk];exact hw.back)
                          · refine⟨by omega,by rw[mL (by omega),hx.2.1,hmk];rfl,λ i hi=>?_⟩
                            rcases Nat.lt_succ_iff_lt_or_eq.1 hi with h|rfl
                            · exact hx.2.2 i h
                            · exact hok
              · try exact nv c55
                all_goals (refine bQ rfl ?_;refine dH ?_)
                all_goals
                 refine aR Tryz.results66 (λ w hw=>?_)
                 have hy:y.1=L.length:=by omega
                 have hmm:marks cs.length L=some y.2:=by have:=hx.2.1;rwa [hy,List.take_length] at this
                 exact⟨true,rfl,⟨λ _=>⟨by omega,by omega,by omega,by omega,hcells,λ i hi=>hx.2.2 i (by omega),by rw[hmm];exact λ h=>nomatch h⟩,λ _=>rfl⟩,hw.done⟩
end

end Go.Proofs.YtpobgmdalcpomaaGreat
