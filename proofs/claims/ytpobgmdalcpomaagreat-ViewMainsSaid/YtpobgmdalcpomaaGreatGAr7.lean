/- Proper states: the program's check. -/
import Derived.Test.YtpobgmdalcpomaaGreatGAr5

set_option linter.unusedSimpArgs false
set_option linter.unusedVariables false
namespace Go.Ct
def cellK(n:Nd):Option Int:=if n.kind=2 then some n.main else if n.kind=3∨n.kind=5∨n.kind=6 then some n.prev else if n.kind=8 then some n.status else none
def markS(u:Option (List Bool))(n:Nd):Option (List Bool) :=
 match u with
 | none=>none
 | some u=>match cellK n with
  | none=>some u
  | some c=>if 1<=c/\c<=u.length/\u.getD (c-1).toNat false=false then some (u.set (c-1).toNat true) else none
def marks(m:Nat)(L:List NdV):Option (List Bool):=L.foldl (λ u v=>markS u v.nd) (some (List.replicate m false))
theorem marks_take{m:Nat}{L:List NdV}{k:Nat}(h:k<L.length):marks m (L.take (k+1))=markS (marks m (L.take k)) (L.getD k NdV.zero).nd:=by
 rw[marks,List.take_succ_eq_append_getElem h,List.foldl_append,List.getD_eq_getElem?_getD,List.getElem?_eq_getElem h]
 rfl
theorem marks_none{m:Nat}{L:List NdV}{k:Nat}(h:marks m (L.take k)=none):marks m L=none:=by
 have e:L=L.take k++L.drop k:=(List.take_append_drop k L).symm
 rw[e,marks,List.foldl_append]
 rw[marks] at h
 rw[h]
 generalize L.drop k=l
 induction l with
 | nil=>rfl
 | cons v l ih=>exact ih
theorem marks_len{m:Nat}:∀{L:List NdV} {u:List Bool},marks m L=some u->u.length=m:=by
 intro L
 have key:∀(l:List NdV) (u0:Option (List Bool)),(∀u,u0=some u->u.length=m)->∀u,l.foldl (λ u v=>markS u v.nd) u0=some u->u.length=m:=by
  intro l
  induction l with
  | nil=>intro u0 h u hu;exact h u hu
  | cons v l ih =>
   intro u0 h u hu
   refine ih (markS u0 v.nd) (λ u1 h1=>?_) u hu
   cases u0 with
   | none=>simp[markS] at h1
   | some u2 =>
    have:=h u2 rfl
    simp only[markS] at h1
    cases hc:cellK v.nd with
    | none=>rw[hc] at h1;simp only[Option.some.injEq] at h1;rw[<- h1];exact this
    | some c =>
     rw[hc] at h1
     simp only at h1
     split at h1
     ·simp only[Option.some.injEq] at h1;rw[<- h1,List.length_set];exact this
     ·cases h1
 intro u hu
 exact key L _ (λ u h=>by simp only[Option.some.injEq] at h;rw[<- h];simp) u hu
def Ins(r:Int)(n:Nat):Prop:=0<=r/\r<=(n:Int)
instance (r:Int) (n:Nat):Decidable (Ins r n):=inferInstanceAs (Decidable (0<=r/\r<=(n:Int)))
theorem ins_le{r:Int}{n:Nat}(h:0<=r):decide (Ins r n)=decide (r<=(n:Int)):=by
 by_cases h2:r<=(n:Int)
 ·rw[decide_eq_true h2,decide_eq_true ⟨h,h2⟩]
 ·rw[decide_eq_false h2,decide_eq_false λ h3=>h2 h3.2]
def RefsIn(n:Nd)(xs:List Int)(N:Nat):Prop:=(∀i,i<xs.length->Ins (xs.getD i 0) N)/\Ins n.old N/\Ins n.exp N/\Ins n.new N
def NdOk(gen:Int)(N:Nat)(v:NdV):Prop:=NdValid v.nd v.xs v.ys/\v.nd.gen<=gen/\RefsIn v.nd v.xs N
structure Proper(L:List NdV)(cs:List Int)(gen:Int):Prop where
 two:2<=L.length
 gen0:0<=gen
 m0:(L.getD 0 NdV.zero).nd.kind=1
 m1:(L.getD 1 NdV.zero).nd.kind=1
 cells:∀i,i<cs.length->Ins (cs.getD i 0) L.length
 nodes:∀i,i<L.length->NdOk gen L.length (L.getD i NdV.zero)
 marks:marks cs.length L≠none
end Go.Ct
namespace Go.Proofs.YtpobgmdalcpomaaGreat
open Go.RowKit Go.Ct
theorem inside_c(r:Int)(n:Nat)(w:World):Calls Tryz.prog 91 #[.int .i64 r,.int .i64 ((n:Nat):Int)] w λ e w'=>e=.returned (.bool (decide (Ins r n)))/\St w [] [] w':=by
 refine enter Tryz.func91 Tryz.ntmps91 rfl rfl (SF.s0 w) ?_
 simp only[mkS]
 all_goals (refine J10 ?_;refine J2 ?_;refine j_geq ?_;refine j_move ?_)
 all_goals (first|refine j_un ?_|(refine j_yes ?_;refine j_move ?_)|(refine lcs 7 (λ g7=>?_) (λ g7=>?_)<;>(first|refine j_un ?_|(refine j_yes ?_;refine j_move ?_))))
 all_goals ((first|refine j_un ?_|(refine j_yes ?_;refine j_move ?_));(first|refine j_un ?_|(refine j_yes ?_;refine j_leq ?_));refine j_pick ?_;refine J1 ?_)
 all_goals
 refine k_rv Tryz.results91 (λ w hw=>?_)
 refine⟨?_,hw.done⟩
 first|(rw[decide_eq_true (show Ins r n from⟨by omega,by omega⟩)];first|rfl|(rw[decide_eq_true (by omega)];rfl))|(rw[decide_eq_false (show ¬Ins r n from λ h=>by have:=h.1;have:=h.2;omega)];first|rfl|(rw[decide_eq_false (by omega)];rfl))|(rw[ins_le (by omega)];rfl)
theorem properRefs_c{n:Nd}{xs:List Int}{N:Nat}{w:World}(e1:n.brN=xs.length)(ha:Cl w n.brA (refsC xs))(hx:xs.length<4611686018427387904) :
  Calls Tryz.prog 93 #[n.v,.int .i64 ((N:Nat):Int)] w λ e w'=>∃r:Bool,e=.returned (.bool r)/\(r=true↔RefsIn n xs N)/\St w [] [] w':=by
 refine enter Tryz.func93 Tryz.ntmps93 rfl rfl (SF.s1 ha) ?_
 simp only[mkS]
 simp only[Nd.v,Nd.cells,e1]
 all_goals (refine J0 ?_;refine j_box (λ x2=>?_);refine J27 ?_;refine J24 ?_;refine j_len ?_;refine J44 ?_;refine k_block ?_)
 all_goals
 refine k_lp [4,6,10,11,12,13,14,15,16,17,18] (λ k=>[(10,.int .i64 ((k:Nat):Int))]) (λ k=>k<=xs.length/\∀i,i<k->Ins (xs.getD i 0) N) (λ k=>_) (λ _=>_) (λ _=>_) (λ k=>xs.length-k) (0) (⟨Nat.zero_le _,λ i hi=>absurd hi (Nat.not_lt_zero i)⟩) (λ k f hx=>?_)
 dsimp only[mkU,List.map,List.cons_append,List.nil_append]
 all_goals (refine J0 ?_;refine J47 ?_;refine k_seq ?_)
 all_goals
  refine kif (λ c11=>?_) (λ c11=>?_)
  ·try exact nv c11
   all_goals (refine J37 ?_;refine J0 ?_;refine J53 ?_;refine J73 ?_;(refine j_own (cV (hc:=λ w1 hw=>inside_c _ N w1)) (λ x16=>?_);try (refine l_fact (λ h16=>?_)));refine J33 ?_)
   all_goals
   refine kif (λ c17=>?_) (λ c17=>?_)
   ·try exact nv c17
    all_goals refine J10 ?_
    all_goals
     refine k_rv Tryz.results93 (λ w hw=>?_)
     exact⟨false,rfl,⟨(λ h=>nomatch h),λ h=>absurd (h.1 k (by omega)) (by assumption)⟩,hw.done⟩
   ·try exact nv c17
    all_goals (refine J34 ?_;refine J77 ?_;refine J44 ?_)
    all_goals
     refine k_rd (k+1) ?_
     ·exact⟨by omega,λ i hi=>by rcases Nat.lt_succ_iff_lt_or_eq.1 hi with h|rfl;exact hx.2 i h;assumption⟩
  ·try exact nv c11
   all_goals (refine k_exit rfl ?_;refine J24 ?_;refine j_move ?_;(refine j_own (cV (hc:=λ w1 hw=>inside_c _ N w1)) (λ x22=>?_);try (refine l_fact (λ h22=>?_)));refine j_move ?_)
   all_goals (first|refine j_un ?_|(refine j_yes ?_;refine j_fieldAddr ?_)|(refine lcs 23 (λ g23=>?_) (λ g23=>?_)<;>(first|refine j_un ?_|(refine j_yes ?_;refine j_fieldAddr ?_))))
   all_goals (refine J29 ?_;((first|refine j_un ?_|(refine j_yes ?_;(refine j_own (cV (hc:=λ w1 hw=>inside_c _ N w1)) (λ x27=>?_);try (refine l_fact (λ h27=>?_))))));refine j_pick ?_;refine j_move ?_)
   all_goals (first|refine j_un ?_|(refine j_yes ?_;refine j_fieldAddr ?_)|(refine lcs 29 (λ g29=>?_) (λ g29=>?_)<;>(first|refine j_un ?_|(refine j_yes ?_;refine j_fieldAddr ?_))))
   all_goals (refine J29 ?_;((first|refine j_un ?_|(refine j_yes ?_;(refine j_own (cV (hc:=λ w1 hw=>inside_c _ N w1)) (λ x33=>?_);try (refine l_fact (λ h33=>?_))))));refine j_pick ?_;refine J1 ?_)
   all_goals
   refine k_rv Tryz.results93 (λ w hw=>?_)
   have hall:∀i,i<xs.length->Ins (xs.getD i 0) N:=λ i hi=>hx.2 i (by omega)
   first|exact⟨_,rfl,by simp_all[RefsIn],hw.done⟩
theorem cellOf_c(n:Nd)(w:World):Calls Tryz.prog 94 #[n.v] w λ e w'=>e=.returned (.tuple #[.int .i64 ((cellK n).getD 0),.bool (cellK n).isSome])/\St w [] [] w':=by
  refine enter Tryz.func94 Tryz.ntmps94 rfl rfl (SF.s0 w) ?_
  simp only[mkS]
  simp only[Nd.v,Nd.cells]
  all_goals (refine J0 ?_;refine j_box (λ x1=>?_);refine J8 ?_;refine J62 ?_;refine J24 ?_;refine J28 ?_)
  all_goals
   refine kif (λ c4=>?_) (λ c4=>?_)
   · try exact nv c4
     all_goals (refine J24 ?_;refine J8 ?_)
     all_goals
      refine k_rt Tryz.results94 (λ w hw=>?_)
      refine⟨?_,hw.done⟩
      first|(rw[show cellK n=some n.main by simp[cellK,c4]];rfl)|(rw[show cellK n=some n.prev by simp only[cellK];rw[if_neg c4,if_pos k22]];rfl)|(rw[show cellK n=some n.status by simp only[cellK];rw[if_neg c4,if_neg k22,if_pos c15]];rfl)|(rw[show cellK n=none by simp only[cellK];rw[if_neg c4,if_neg k22,if_neg c15]];rfl)
   · try exact nv c4
     all_goals (refine J25 ?_;(refine j_own (c0 (V:=.bool) (hc:=λ w1 hw=>main_c n w1)) (λ x12=>?_);try (refine l_fact (λ h12=>?_)));refine J1 ?_)
     all_goals
      refine kif (λ c10=>?_) (λ c10=>?_)
      · try exact nv c10
        all_goals
         have k22:n.kind=3∨n.kind=5∨n.kind=6:=h12.1 c10
        all_goals (refine J24 ?_;refine J8 ?_)
        all_goals
         refine k_rt Tryz.results94 (λ w hw=>?_)
         refine⟨?_,hw.done⟩
         first|(rw[show cellK n=some n.main by simp[cellK,c4]];rfl)|(rw[show cellK n=some n.prev by simp only[cellK];rw[if_neg c4,if_pos k22]];rfl)|(rw[show cellK n=some n.status by simp only[cellK];rw[if_neg c4,if_neg k22,if_pos c15]];rfl)|(rw[show cellK n=none by simp only[cellK];rw[if_neg c4,if_neg k22,if_neg c15]];rfl)
      · try exact nv c10
        all_goals
         have k22:¬(n.kind=3∨n.kind=5∨n.kind=6):=λ k=>by rw[h12.2 k] at c10;cases c10
        all_goals (refine J24 ?_;refine J28 ?_)
        all_goals
         refine kif (λ c15=>?_) (λ c15=>?_)
         · try exact nv c15
           all_goals (refine J24 ?_;refine J8 ?_)
           all_goals
            refine k_rt Tryz.results94 (λ w hw=>?_)
            refine⟨?_,hw.done⟩
            first|(rw[show cellK n=some n.main by simp[cellK,c4]];rfl)|(rw[show cellK n=some n.prev by simp only[cellK];rw[if_neg c4,if_pos k22]];rfl)|(rw[show cellK n=some n.status by simp only[cellK];rw[if_neg c4,if_neg k22,if_pos c15]];rfl)|(rw[show cellK n=none by simp only[cellK];rw[if_neg c4,if_neg k22,if_neg c15]];rfl)
         · try exact nv c15
           all_goals (refine J34 ?_;refine J66 ?_)
           all_goals
            refine k_rt Tryz.results94 (λ w hw=>?_)
            refine⟨?_,hw.done⟩
            first|(rw[show cellK n=some n.main by simp[cellK,c4]];rfl)|(rw[show cellK n=some n.prev by simp only[cellK];rw[if_neg c4,if_pos k22]];rfl)|(rw[show cellK n=some n.status by simp only[cellK];rw[if_neg c4,if_neg k22,if_pos c15]];rfl)|(rw[show cellK n=none by simp only[cellK];rw[if_neg c4,if_neg k22,if_neg c15]];rfl)
end Go.Proofs.YtpobgmdalcpomaaGreat

/- Proper states: the walk through the program's check. -/
namespace Go.Proofs.YtpobgmdalcpomaaGreat
open Go.RowKit Go.Ct
set_option maxRecDepth 100000 in
theorem proper_c{L:List NdV}{cs:List Int}{gen:Int}{pn pc:Option Addr}{cn cc:Nat}{w:World}(h:StAt w L cs pn pc)(hL:L.length<=274877906944)(hC:cs.length<=274877906944) :
    Calls Tryz.prog 66 #[.agg ⟨[.slice pn L.length cn,.slice pc cs.length cc,.int .i64 gen]⟩] w λ e w'=>∃r:Bool,e=.returned (.bool r)/\(r=true↔Proper L cs gen)/\St w [] [] w':=by
  refine enter Tryz.func66 Tryz.ntmps66 rfl rfl h.start ?_
  simp only[mkS]
  all_goals (refine J0 ?_;refine j_box (λ x1=>?_);refine J27 ?_;refine J24 ?_;refine j_len ?_;refine J64 ?_)
  all_goals (first|refine j_un ?_|(refine j_yes ?_;refine j_fieldAddr ?_)|(refine lcs 14 (λ g14=>?_) (λ g14=>?_)<;>(first|refine j_un ?_|(refine j_yes ?_;refine j_fieldAddr ?_))))
  all_goals (refine J89 ?_;refine l_nil ?_)
  all_goals
   refine kif (λ c18=>?_) (λ c18=>?_)
   · try exact nv c18
     all_goals refine J10 ?_
     all_goals
      refine k_rv Tryz.results66 (λ w hw=>?_)
      exact⟨false,rfl,⟨(λ h=>nomatch h),λ hp=>by have h1:=hp.two;have h2:=hp.gen0;exfalso;omega⟩,hw.done⟩
   · try exact nv c18
     all_goals (refine J16 ?_;refine J24 ?_;refine l_quiet (o_indexV (k:=0) rf rf sl1 ag1 fin (by omega) (by omega)) rfl ?_;refine j_fieldAddr ?_;refine l_quiet (o_loadV0 (q:=0) rf on1 fin (by omega)) rfl ?_;refine j_neq ?_;refine j_move ?_)
     all_goals (first|refine j_un ?_|(refine j_yes ?_;refine j_fieldAddr ?_)|(refine lcs 25 (λ g25=>?_) (λ g25=>?_)<;>(first|refine j_un ?_|(refine j_yes ?_;refine j_fieldAddr ?_))))
     all_goals ((first|refine j_un ?_|(refine j_yes ?_;refine j_load ?_));(first|refine j_un ?_|(refine j_yes ?_;refine l_quiet (o_indexV (k:=1) rf rf sl1 ag1 fin (by omega) (by omega)) rfl ?_));(first|refine j_un ?_|(refine j_yes ?_;refine j_fieldAddr ?_));(first|refine j_un ?_|(refine j_yes ?_;refine l_quiet (o_loadV0 (q:=1) rf on1 fin (by omega)) rfl ?_));refine J38 ?_;refine l_nil ?_)
     all_goals
      refine kif (λ c32=>?_) (λ c32=>?_)
      · try exact nv c32
        all_goals refine J10 ?_
        all_goals
         refine k_rv Tryz.results66 (λ w hw=>?_)
         exact⟨false,rfl,⟨(λ h=>nomatch h),λ hp=>by have h1:=hp.m0;have h2:=hp.m1;exfalso;omega⟩,hw.done⟩
      · try exact nv c32
        all_goals (refine J16 ?_;refine J24 ?_;refine j_len ?_;refine J44 ?_;refine k_block ?_)
        all_goals
         refine k_loopC [2,4,36,37,38,39,40,41,42,43,44,45,46] (λ k=>[(36,.int .i64 ((k:Nat):Int))]) (λ k=>k<=cs.length/\∀i,i<k->Ins (cs.getD i 0) L.length) (λ k=>cs.length-k) (0) (⟨Nat.zero_le _,λ i hi=>absurd hi (Nat.not_lt_zero i)⟩) ?_ (λ k f hx=>?_)
         · repeat (first|exact knows_nil _|refine knows_cons (by first|exact rfl|(conv=>{lhs;whnf};simp;done)) ?_)
         dsimp only[mkU,List.map,List.cons_append,List.nil_append]
         all_goals (refine J0 ?_;refine J47 ?_;refine k_seq ?_)
         all_goals
          refine kif (λ c37=>?_) (λ c37=>?_)
          · try exact nv c37
            all_goals (refine J37 ?_;refine J0 ?_;refine J53 ?_;refine J1 ?_;refine J2 ?_;refine J85 ?_;(refine j_own (cV (hc:=λ w1 hw=>inside_c _ _ w1)) (λ x44=>?_);try (refine l_fact (λ h44=>?_)));refine J33 ?_)
            all_goals
             refine kif (λ c45=>?_) (λ c45=>?_)
             · try exact nv c45
               all_goals refine J10 ?_
               all_goals
                refine k_rv Tryz.results66 (λ w hw=>?_)
                exact⟨false,rfl,⟨(λ h=>nomatch h),λ hp=>absurd (hp.cells k (by omega)) (by assumption)⟩,hw.done⟩
             · try exact nv c45
               all_goals (refine J34 ?_;refine J77 ?_;refine J44 ?_)
               all_goals
                refine k_roundC (k+1) ?_ ?_ ?_
                · first|omega|(simp only[];omega)
                · repeat' (first|exact knows_nil _|refine knows_cons ?_ ?_)
                  all_goals (first|exact rfl|(conv=>{lhs;whnf};simp;done)|(conv=>{lhs;whnf};congr 1;omega))
                · exact⟨by omega,λ i hi=>by rcases Nat.lt_succ_iff_lt_or_eq.1 hi with h|rfl;exact hx.2 i h;assumption⟩
          · try exact nv c37
            all_goals (refine k_exit rfl ?_;refine J24 ?_;refine j_len ?_;refine j_makeSlice (λ x50=>?_);refine J27 ?_;refine J24 ?_;refine j_len ?_;refine J44 ?_;refine k_block ?_)
            all_goals
             have hcells:∀i,i<cs.length->Ins (cs.getD i 0) L.length:=λ i hi=>hx.2 i (by omega)
             clear hx
             refine k_lp [2,7,8,9,54,55,56,57,58,59,60,61,62,63,64,65,66,67,68,69,70,71,72,73,74,75,76,77,78,79,80,81,82,83,84,85,86,87,88,89,90,91,92,93,94,95,96,97,98,99,100,101,102,103] (λ y:Nat×List Bool=>[(54,.int .i64 ((y.1:Nat):Int))]) (λ y=>y.1<=L.length/\marks cs.length (L.take y.1)=some y.2/\∀i,i<y.1->NdOk gen L.length (L.getD i NdV.zero)) (λ _=>_) (λ _=>_) (λ y=>[⟨some ⟨x50,0,none⟩,boolsC y.2,cs.length,4,1⟩]) (λ y=>L.length-y.1) ((0,List.replicate cs.length false)) (⟨Nat.zero_le _,rfl,λ i hi=>absurd hi (Nat.not_lt_zero i)⟩) (λ y f hx=>?_)
             dsimp only[mkU,List.map,List.cons_append,List.nil_append]
             have hu:=marks_len hx.2.1
             all_goals (refine J0 ?_;refine J47 ?_;refine k_seq ?_)
             all_goals
              refine kif (λ c55=>?_) (λ c55=>?_)
              · try exact nv c55
                all_goals (refine J37 ?_;refine J0 ?_;refine J53 ?_;refine j_alloc (λ x7=>?_);refine J5 ?_;refine k_seq ?_;refine J25 ?_;(refine j_own (c0 (V:=.bool) (hc:=λ w1 hw=>ndValid_c (hw.repA h.fit (by omega)))) (λ x59=>?_);try (refine l_fact (λ h59=>?_)));refine J59 ?_)
                all_goals (first|refine j_un ?_|(refine j_yes ?_;refine j_fieldAddr ?_)|(refine lcs 61 (λ g61=>?_) (λ g61=>?_)<;>(first|refine j_un ?_|(refine j_yes ?_;refine j_fieldAddr ?_))))
                all_goals (refine J21 ?_;refine J22 ?_;refine j_move ?_)
                all_goals (first|refine j_un ?_|(refine j_yes ?_;refine j_load ?_)|(refine lcs 68 (λ g68=>?_) (λ g68=>?_)<;>(first|refine j_un ?_|(refine j_yes ?_;refine j_load ?_))))
                all_goals (refine J43 ?_;((first|refine j_un ?_|(refine j_yes ?_;(refine j_own (c0 (V:=.bool) (hc:=λ w1 hw=>properRefs_c (hw.repA h.fit (by omega)).brN (hw.repA h.fit (by omega)).br (hw.repA h.fit (by omega)).brS)) (λ x73=>?_);try (refine l_fact (λ h73=>?_))))));refine J31 ?_;refine l_nil ?_)
                all_goals
                 refine kif (λ c75=>?_) (λ c75=>?_)
                 · try exact nv c75
                   all_goals refine J10 ?_
                   all_goals
                    refine k_rv Tryz.results66 (λ w hw=>?_)
                    refine⟨false,rfl,⟨(λ h=>nomatch h),λ hp=>?_⟩,hw.done⟩
                    obtain⟨q1,q2,q3⟩:=hp.nodes y.1 (by omega)
                    first|(exfalso;omega)|(have:=h59.2 q1;simp_all;done)|(have:=h73.2 q3;simp_all;done)
                 · try exact nv c75
                   all_goals
                    have hok:NdOk gen L.length (L.getD y.1 NdV.zero):=⟨h59.1 (by simp_all),by omega,h73.1 (by simp_all)⟩
                   all_goals (refine k_skip ?_;refine J25 ?_;(refine j_own (cV (hc:=λ w1 hw=>cellOf_c (L.getD y.1 NdV.zero).nd w1)) (λ x78=>?_);try (refine l_fact (λ h78=>?_)));refine J82 ?_;refine J8 ?_;refine J32 ?_;refine J33 ?_)
                   all_goals
                    refine kif (λ c82=>?_) (λ c82=>?_)
                    · try exact nv c82
                      all_goals
                       have hmk:markS (some y.2) (L.getD y.1 NdV.zero).nd=some y.2:=by
                        have e:cellK (L.getD y.1 NdV.zero).nd=none:=by cases hq:cellK (L.getD y.1 NdV.zero).nd<;>simp_all
                        simp only[markS,e]
                      all_goals (refine k_exit rfl ?_;refine J77 ?_;refine J44 ?_)
                      all_goals
                       refine k_rd ((y.1+1,(markS (some y.2) (L.getD y.1 NdV.zero).nd).getD y.2)) ?_ (hw1:=λ w hw=>by rw[hmk];exact hw.back)
                       · refine⟨by omega,by rw[marks_take (by omega),hx.2.1,hmk];rfl,λ i hi=>?_⟩
                         rcases Nat.lt_succ_iff_lt_or_eq.1 hi with h|rfl
                         · exact hx.2.2 i h
                         · exact hok
                    · try exact nv c82
                      all_goals
                       obtain⟨c,hc⟩:∃c,cellK (L.getD y.1 NdV.zero).nd=some c:=Option.isSome_iff_exists.1 c82
                       rw[hc,Option.getD_some]
                      all_goals (refine J16 ?_;refine J2 ?_;refine J64 ?_)
                      all_goals (first|refine j_un ?_|(refine j_yes ?_;refine j_move ?_)|(refine lcs 85 (λ g85=>?_) (λ g85=>?_)<;>(first|refine j_un ?_|(refine j_yes ?_;refine j_move ?_))))
                      all_goals (refine J43 ?_;refine J22 ?_;refine j_move ?_)
                      all_goals (first|refine j_un ?_|(refine j_yes ?_;refine j_move ?_)|(refine lcs 92 (λ g92=>?_) (λ g92=>?_)<;>(first|refine j_un ?_|(refine j_yes ?_;refine j_move ?_))))
                      all_goals ((first|refine j_un ?_|(refine j_yes ?_;refine j_move ?_));(first|refine j_un ?_|(refine j_yes ?_;refine l_quiet (o_decT rf rf (by omega) (by omega)) rfl ?_));(first|refine j_un ?_|(refine j_yes ?_;refine l_quiet (o_indexB rf rf sl1 on1 fin (by omega) (by omega)) rfl ?_));(first|refine j_un ?_|(refine j_yes ?_;refine l_quiet (o_loadB rf on1 fin (by omega)) rfl ?_));refine j_pick ?_;refine l_nil ?_)
                      all_goals
                       refine kif (λ c98=>?_) (λ c98=>?_)
                       · try exact nv c98
                         all_goals refine J10 ?_
                         all_goals
                          refine k_rv Tryz.results66 (λ w hw=>?_)
                          refine⟨false,rfl,⟨(λ h=>nomatch h),λ hp=>?_⟩,hw.done⟩
                          have hm:marks cs.length (L.take (y.1+1))=none:=by
                           rw[marks_take (by omega),hx.2.1]
                           simp only[markS,hc]
                           refine if_neg λ hh=>?_
                           obtain⟨q1,q2,q3⟩:=hh
                           first|(exfalso;omega)|(exfalso;rw[q3] at c98;cases c98)
                          exact absurd (marks_none hm) hp.marks
                       · try exact nv c98
                         all_goals
                          have hmk:markS (some y.2) (L.getD y.1 NdV.zero).nd=some (y.2.set (c-1).toNat true):=by
                           simp only[markS,hc]
                           rw[if_pos ⟨by omega,by omega,c98⟩]
                         all_goals (refine k_skip ?_;refine J76 ?_;refine l_quiet (o_decT rf rf (by omega) (by omega)) rfl ?_;refine l_quiet (o_indexB rf rf sl1 on1 fin (by omega) (by omega)) rfl ?_;refine J5 ?_;refine k_blk ?_;refine J77 ?_;refine J44 ?_)
                         all_goals
                          refine k_rd ((y.1+1,(markS (some y.2) (L.getD y.1 NdV.zero).nd).getD y.2)) ?_ (hw1:=λ w hw=>by rw[hmk];exact hw.back)
                          · refine⟨by omega,by rw[marks_take (by omega),hx.2.1,hmk];rfl,λ i hi=>?_⟩
                            rcases Nat.lt_succ_iff_lt_or_eq.1 hi with h|rfl
                            · exact hx.2.2 i h
                            · exact hok
              · try exact nv c55
                all_goals (refine k_exit rfl ?_;refine J10 ?_)
                all_goals
                 refine k_rv Tryz.results66 (λ w hw=>?_)
                 have hy:y.1=L.length:=by omega
                 have hmm:marks cs.length L=some y.2:=by have:=hx.2.1;rwa [hy,List.take_length] at this
                 exact⟨true,rfl,⟨λ _=>⟨by omega,by omega,by omega,by omega,hcells,λ i hi=>hx.2.2 i (by omega),by rw[hmm];exact λ h=>nomatch h⟩,λ _=>rfl⟩,hw.done⟩
end Go.Proofs.YtpobgmdalcpomaaGreat
