/- Accesses and results. -/
import Derived.Test.YtpobgmdalcpomaaGreatGJoin
import Derived.Test.YtpobgmdalcpomaaGreatGMem
import Derived.Test.YtpobgmdalcpomaaGreatAuto

set_option linter.unusedSimpArgs false
set_option linter.unusedVariables false
namespace Go.Ct
open Go Go.RowKit
structure Ac where
 k:Int
 c:Int
 o:Int
 n:Int
structure Rs where
 err:Int
 found:Bool
 val:Int
 key:ByteArray
 cnt:Int
 ref:Int
 root:Int
 ro:Bool
abbrev Ac.cells(a:Ac):List Value:=[.int .i64 a.k,.int .i64 a.c,.int .i64 a.o,.int .i64 a.n]
abbrev Rs.cells(r:Rs):List Value:=[.int .i64 r.err,.bool r.found,.int .u64 r.val,.string r.key,.int .i64 r.cnt,.int .i64 r.ref,.int .i64 r.root,.bool r.ro]
abbrev Rs.zero:Rs:=⟨0,false,0,⟨#[]⟩,0,0,0,false⟩
abbrev Ac.zero:Ac:=⟨0,0,0,0⟩
end Go.Ct

/- Loops over slices that are read: contracts. -/
namespace Go.Proofs.YtpobgmdalcpomaaGreat
open Go.RowKit Go.Ct
theorem beq_of_take{α} [BEq α] [LawfulBEq α] {xs ys:List α}{k:Nat}(h:xs.length=ys.length)(hk:¬k<xs.length)(ht:xs.take k=ys.take k):(xs==ys)=true:=by
 rw[List.take_of_length_le (by omega),List.take_of_length_le (by omega)] at ht
 simp[ht]
theorem beq_of_len{α} [BEq α] [LawfulBEq α] {xs ys:List α}(h:xs.length≠ys.length):(xs==ys)=false:=by
 simp only[beq_eq_false_iff_ne,ne_eq]
 intro e;rw[e] at h;exact h rfl
theorem beq_of_get{α} [BEq α] [LawfulBEq α] {xs ys:List α}{k:Nat}{d:α}(h:xs.getD k d≠ys.getD k d):(xs==ys)=false:=by
 simp only[beq_eq_false_iff_ne,ne_eq]
 intro e;rw[e] at h;exact h rfl
theorem dec_of_take{α} [DecidableEq α] {xs ys:List α}{k:Nat}(h:xs.length=ys.length)(hk:¬k<xs.length)(ht:xs.take k=ys.take k):decide (xs=ys)=true:=by
 rw[List.take_of_length_le (by omega),List.take_of_length_le (by omega)] at ht
 simp[ht]
theorem dec_of_len{α} [DecidableEq α] {xs ys:List α}(h:xs.length≠ys.length):decide (xs=ys)=false:=decide_eq_false λ e=>h (by rw[e])
theorem dec_of_get{α} [DecidableEq α] {xs ys:List α}{k:Nat}{d:α}(h:xs.getD k d≠ys.getD k d):decide (xs=ys)=false:=decide_eq_false λ e=>h (by rw[e])
theorem take_next{α}{xs ys:List α}{k:Nat}{d:α}(h:xs.take k=ys.take k)(hk:k<xs.length)(hl:xs.length=ys.length)(he:xs.getD k d=ys.getD k d):xs.take (k+1)=ys.take (k+1):=by
 rw[List.take_add_one,List.take_add_one,h,List.getElem?_eq_getElem hk,List.getElem?_eq_getElem (hl▸hk)]
 simp only[List.getD,List.getElem?_eq_getElem hk,List.getElem?_eq_getElem (hl▸hk:k<ys.length),Option.getD_some] at he
 rw[he]
theorem refs_c{xs ys:List Int}{a b:Option Addr}{ca cb:Nat}{w:World}(ha:Cl w a (refsC xs))(hb:Cl w b (refsC ys))(hx:xs.length<4611686018427387904) :
  Calls Tryz.prog 38 #[.slice a xs.length ca,.slice b ys.length cb] w λ e w'=>e=.returned (.bool (xs==ys))/\St w [] [] w':=by
 refine enter Tryz.func38 Tryz.ntmps38 rfl rfl (SF.s2 ha hb) ?_
 simp only[mkS]
 all_goals (refine J10 ?_;refine J32 ?_;refine j_len ?_;refine j_move ?_;refine j_len ?_;refine j_neq ?_;refine l_nil ?_)
 all_goals
 refine kif (λ c10=>?_) (λ c10=>?_)
 ·try exact nv c10
  all_goals refine J10 ?_
  all_goals
   refine k_rv Tryz.results38 (λ w hw=>?_)
   exact⟨by rw[beq_of_len (by omega)];rfl,hw.done⟩
 ·try exact nv c10
  all_goals (refine J16 ?_;refine J69 ?_)
  all_goals
   refine k_loopC [4,5,11,12,13,14,15,16,17,18,19,20,21,22,23,24,25] (λ k=>[(5,.int .i64 ((k:Nat):Int))]) (λ k=>k<=xs.length/\xs.take k=ys.take k) (λ k=>xs.length-k) (0) (⟨Nat.zero_le _,by simp⟩) ?_ (λ k f hx=>?_)
   ·repeat (first|exact knows_nil _|refine knows_cons (by first|exact rfl|(conv=>{lhs;whnf};simp;done)) ?_)
   dsimp only[mkU,List.map,List.cons_append,List.nil_append]
   all_goals (refine J65 ?_;refine j_len ?_;refine J47 ?_)
   all_goals
   refine kif (λ c14=>?_) (λ c14=>?_)
   ·try exact nv c14
    all_goals (refine J37 ?_;refine k_seq ?_;refine k_dq [0,1,2,3,4,5,6,7,8] ?_;refine J17 ?_;refine J48 ?_;refine J17 ?_;refine J48 ?_;refine r_neq ?_;refine r_fin ?_)
    all_goals
     refine kif (λ c25=>?_) (λ c25=>?_)
     ·try exact nv c25
      all_goals refine J10 ?_
      all_goals
      refine k_rv Tryz.results38 (λ w hw=>?_)
      exact⟨by rw[beq_of_get c25];rfl,hw.done⟩
     ·try exact nv c25
      all_goals (refine J34 ?_;refine J70 ?_)
      all_goals
      refine k_roundC (k+1) ?_ ?_ ?_
      ·first|omega|(simp only[];omega)
      ·repeat' (first|exact knows_nil _|refine knows_cons ?_ ?_)
       all_goals (first|exact rfl|(conv=>{lhs;whnf};simp;done)|(conv=>{lhs;whnf};congr 1;omega))
      ·exact⟨by omega,take_next hx.2 (by omega) (by omega) c25⟩
   ·try exact nv c14
    all_goals (refine k_exit rfl ?_;refine J10 ?_)
    all_goals
     refine k_rv Tryz.results38 (λ w hw=>?_)
     exact⟨by rw[beq_of_take (k:=k) (by omega) (by omega) hx.2];rfl,hw.done⟩
theorem prs_c{xs ys:List Pr}{a b:Option Addr}{ca cb:Nat}{w:World}(ha:Cl w a (prC xs))(hb:Cl w b (prC ys))(hx:xs.length<4611686018427387904) :
  Calls Tryz.prog 37 #[.slice a xs.length ca,.slice b ys.length cb] w λ e w'=>e=.returned (.bool (decide (xs=ys)))/\St w [] [] w':=by
 refine enter Tryz.func37 Tryz.ntmps37 rfl rfl (SF.s2 ha hb) ?_
 simp only[mkS]
 all_goals (refine J10 ?_;refine J32 ?_;refine j_len ?_;refine j_move ?_;refine j_len ?_;refine j_neq ?_;refine l_nil ?_)
 all_goals
 refine kif (λ c10=>?_) (λ c10=>?_)
 ·try exact nv c10
  all_goals refine J10 ?_
  all_goals
   refine k_rv Tryz.results37 (λ w hw=>?_)
   exact⟨by rw[dec_of_len (by omega)];rfl,hw.done⟩
 ·try exact nv c10
  all_goals (refine J16 ?_;refine J69 ?_)
  all_goals
   refine k_loopC [4,5,11,12,13,14,15,16,17,18,19,20,21,22,23,24,25] (λ k=>[(5,.int .i64 ((k:Nat):Int))]) (λ k=>k<=xs.length/\xs.take k=ys.take k) (λ k=>xs.length-k) (0) (⟨Nat.zero_le _,by simp⟩) ?_ (λ k f hx=>?_)
   ·repeat (first|exact knows_nil _|refine knows_cons (by first|exact rfl|(conv=>{lhs;whnf};simp;done)) ?_)
   dsimp only[mkU,List.map,List.cons_append,List.nil_append]
   all_goals (refine J65 ?_;refine j_len ?_;refine J47 ?_)
   all_goals
   refine kif (λ c14=>?_) (λ c14=>?_)
   ·try exact nv c14
    all_goals (refine J37 ?_;refine k_seq ?_;refine k_dq [0,1,2,3,4,5,6,7,8] ?_;refine J17 ?_;refine J48 ?_;refine J17 ?_;refine J48 ?_;refine r_neqPr ?_;refine r_fin ?_)
    all_goals
     refine kif (λ c25=>?_) (λ c25=>?_)
     ·try exact nv c25
      all_goals refine J10 ?_
      all_goals
      refine k_rv Tryz.results37 (λ w hw=>?_)
      exact⟨by rw[dec_of_get λ h=>c25 ⟨congrArg Prod.fst h,congrArg Prod.snd h⟩];rfl,hw.done⟩
     ·try exact nv c25
      all_goals (refine J34 ?_;refine J70 ?_)
      all_goals
      refine k_roundC (k+1) ?_ ?_ ?_
      ·first|omega|(simp only[];omega)
      ·repeat' (first|exact knows_nil _|refine knows_cons ?_ ?_)
       all_goals (first|exact rfl|(conv=>{lhs;whnf};simp;done)|(conv=>{lhs;whnf};congr 1;omega))
      ·exact⟨by omega,take_next hx.2 (by omega) (by omega) (Prod.ext c25.1 c25.2)⟩
   ·try exact nv c14
    all_goals (refine k_exit rfl ?_;refine J10 ?_)
    all_goals
     refine k_rv Tryz.results37 (λ w hw=>?_)
     exact⟨by rw[dec_of_take (k:=k) (by omega) (by omega) hx.2];rfl,hw.done⟩
theorem slRef_c{xs ys:List Int}{a b:Option Addr}{ca cb:Nat}{w:World}(ha:Cl w a (refsC xs))(hb:Cl w b (refsC ys))(hx:xs.length<4611686018427387904) :
  Calls Tryz.prog 144 #[.slice a xs.length ca,.slice b ys.length cb] w λ e w'=>e=.returned (.bool (xs==ys))/\St w [] [] w':=by
 refine enter Tryz.func144 Tryz.ntmps144 rfl rfl (SF.s2 ha hb) ?_
 simp only[mkS]
 all_goals (refine J10 ?_;refine J32 ?_;refine j_len ?_;refine j_move ?_;refine j_len ?_;refine j_neq ?_;refine l_nil ?_)
 all_goals
 refine kif (λ c10=>?_) (λ c10=>?_)
 ·try exact nv c10
  all_goals refine J10 ?_
  all_goals
   refine k_rv Tryz.results144 (λ w hw=>?_)
   exact⟨by rw[beq_of_len (by omega)];rfl,hw.done⟩
 ·try exact nv c10
  all_goals (refine J16 ?_;refine J2 ?_;refine j_len ?_;refine J44 ?_;refine k_block ?_)
  all_goals
   refine k_loopC [4,5,13,14,15,16,17,18,19,20,21,22,23,24,25] (λ k=>[(13,.int .i64 ((k:Nat):Int))]) (λ k=>k<=xs.length/\xs.take k=ys.take k) (λ k=>xs.length-k) (0) (⟨Nat.zero_le _,by simp⟩) ?_ (λ k f hx=>?_)
   ·repeat (first|exact knows_nil _|refine knows_cons (by first|exact rfl|(conv=>{lhs;whnf};simp;done)) ?_)
   dsimp only[mkU,List.map,List.cons_append,List.nil_append]
   all_goals (refine J0 ?_;refine J47 ?_;refine k_seq ?_)
   all_goals
   refine kif (λ c14=>?_) (λ c14=>?_)
   ·try exact nv c14
    all_goals (refine J37 ?_;refine J2 ?_;refine J27 ?_;refine k_dq [0,1,2,3,4,5,6,7,8] ?_;refine J17 ?_;refine J48 ?_;refine J17 ?_;refine J48 ?_;refine r_neq ?_;refine r_fin ?_)
    all_goals
     refine kif (λ c24=>?_) (λ c24=>?_)
     ·try exact nv c24
      all_goals refine J10 ?_
      all_goals
      refine k_rv Tryz.results144 (λ w hw=>?_)
      exact⟨by rw[beq_of_get c24];rfl,hw.done⟩
     ·try exact nv c24
      all_goals (refine J34 ?_;refine J77 ?_;refine J44 ?_)
      all_goals
      refine k_roundC (k+1) ?_ ?_ ?_
      ·first|omega|(simp only[];omega)
      ·repeat' (first|exact knows_nil _|refine knows_cons ?_ ?_)
       all_goals (first|exact rfl|(conv=>{lhs;whnf};simp;done)|(conv=>{lhs;whnf};congr 1;omega))
      ·exact⟨by omega,take_next hx.2 (by omega) (by omega) c24⟩
   ·try exact nv c14
    all_goals (refine k_exit rfl ?_;refine J10 ?_)
    all_goals
     refine k_rv Tryz.results144 (λ w hw=>?_)
     exact⟨by rw[beq_of_take (k:=k) (by omega) (by omega) hx.2];rfl,hw.done⟩
theorem slPr_c{xs ys:List Pr}{a b:Option Addr}{ca cb:Nat}{w:World}(ha:Cl w a (prC xs))(hb:Cl w b (prC ys))(hx:xs.length<4611686018427387904) :
  Calls Tryz.prog 145 #[.slice a xs.length ca,.slice b ys.length cb] w λ e w'=>e=.returned (.bool (decide (xs=ys)))/\St w [] [] w':=by
 refine enter Tryz.func145 Tryz.ntmps145 rfl rfl (SF.s2 ha hb) ?_
 simp only[mkS]
 all_goals (refine J10 ?_;refine J32 ?_;refine j_len ?_;refine j_move ?_;refine j_len ?_;refine j_neq ?_;refine l_nil ?_)
 all_goals
 refine kif (λ c10=>?_) (λ c10=>?_)
 ·try exact nv c10
  all_goals refine J10 ?_
  all_goals
   refine k_rv Tryz.results145 (λ w hw=>?_)
   exact⟨by rw[dec_of_len (by omega)];rfl,hw.done⟩
 ·try exact nv c10
  all_goals (refine J16 ?_;refine J2 ?_;refine j_len ?_;refine J44 ?_;refine k_block ?_)
  all_goals
   refine k_loopC [4,5,13,14,15,16,17,18,19,20,21,22,23,24,25] (λ k=>[(13,.int .i64 ((k:Nat):Int))]) (λ k=>k<=xs.length/\xs.take k=ys.take k) (λ k=>xs.length-k) (0) (⟨Nat.zero_le _,by simp⟩) ?_ (λ k f hx=>?_)
   ·repeat (first|exact knows_nil _|refine knows_cons (by first|exact rfl|(conv=>{lhs;whnf};simp;done)) ?_)
   dsimp only[mkU,List.map,List.cons_append,List.nil_append]
   all_goals (refine J0 ?_;refine J47 ?_;refine k_seq ?_)
   all_goals
   refine kif (λ c14=>?_) (λ c14=>?_)
   ·try exact nv c14
    all_goals (refine J37 ?_;refine J2 ?_;refine J27 ?_;refine k_dq [0,1,2,3,4,5,6,7,8] ?_;refine J17 ?_;refine J48 ?_;refine J17 ?_;refine J48 ?_;refine r_neqPr ?_;refine r_fin ?_)
    all_goals
     refine kif (λ c24=>?_) (λ c24=>?_)
     ·try exact nv c24
      all_goals refine J10 ?_
      all_goals
      refine k_rv Tryz.results145 (λ w hw=>?_)
      exact⟨by rw[dec_of_get λ h=>c24 ⟨congrArg Prod.fst h,congrArg Prod.snd h⟩];rfl,hw.done⟩
     ·try exact nv c24
      all_goals (refine J34 ?_;refine J77 ?_;refine J44 ?_)
      all_goals
      refine k_roundC (k+1) ?_ ?_ ?_
      ·first|omega|(simp only[];omega)
      ·repeat' (first|exact knows_nil _|refine knows_cons ?_ ?_)
       all_goals (first|exact rfl|(conv=>{lhs;whnf};simp;done)|(conv=>{lhs;whnf};congr 1;omega))
      ·exact⟨by omega,take_next hx.2 (by omega) (by omega) (Prod.ext c24.1 c24.2)⟩
   ·try exact nv c14
    all_goals (refine k_exit rfl ?_;refine J10 ?_)
    all_goals
     refine k_rv Tryz.results145 (λ w hw=>?_)
     exact⟨by rw[dec_of_take (k:=k) (by omega) (by omega) hx.2];rfl,hw.done⟩
end Go.Proofs.YtpobgmdalcpomaaGreat

/- Nodes are compared. -/
namespace Go.Proofs.YtpobgmdalcpomaaGreat
open Go.RowKit Go.Ct
theorem refEq_c{a b:Nd}{x1 x2:List Int}{y1 y2:List Pr}{w:World}(ha:Rep w a x1 y1)(hb:Rep w b x2 y2) :
  Calls Tryz.prog 97 #[a.v,b.v] w λ e w'=>∃r:Bool,e=.returned (.bool r)/\(r=true↔NdEq a b x1 x2 y1 y2)/\St w [] [] w':=by
 have e1:=ha.brN;have e2:=hb.brN;have e3:=ha.prN;have e4:=hb.prN
 refine enter Tryz.func97 Tryz.ntmps97 rfl rfl (SF.s0 w) ?_
 simp only[mkS]
 all_goals (refine J0 ?_;refine j_box (λ x2=>?_);refine j_box (λ x3=>?_);refine J27 ?_;refine J24 ?_;refine J3 ?_;refine j_neq ?_;refine j_move ?_)
 all_goals (first|refine j_un ?_|(refine j_yes ?_;refine j_fieldAddr ?_)|(refine lcs 10 (λ g10=>?_) (λ g10=>?_)<;>(first|refine j_un ?_|(refine j_yes ?_;refine j_fieldAddr ?_))))
 all_goals (refine J21 ?_;refine J38 ?_;refine j_move ?_)
 all_goals (first|refine j_un ?_|(refine j_yes ?_;refine j_fieldAddr ?_)|(refine lcs 17 (λ g17=>?_) (λ g17=>?_)<;>(first|refine j_un ?_|(refine j_yes ?_;refine j_fieldAddr ?_))))
 all_goals (refine J21 ?_;refine J38 ?_;refine j_move ?_)
 all_goals (first|refine j_un ?_|(refine j_yes ?_;refine j_fieldAddr ?_)|(refine lcs 24 (λ g24=>?_) (λ g24=>?_)<;>(first|refine j_un ?_|(refine j_yes ?_;refine j_fieldAddr ?_))))
 all_goals (refine J21 ?_;refine J38 ?_;refine j_move ?_)
 all_goals (first|refine j_un ?_|(refine j_yes ?_;refine j_fieldAddr ?_)|(refine lcs 31 (λ g31=>?_) (λ g31=>?_)<;>(first|refine j_un ?_|(refine j_yes ?_;refine j_fieldAddr ?_))))
 all_goals (refine J21 ?_;refine J38 ?_;refine j_move ?_)
 all_goals (first|refine j_un ?_|(refine j_yes ?_;refine j_fieldAddr ?_)|(refine lcs 38 (λ g38=>?_) (λ g38=>?_)<;>(first|refine j_un ?_|(refine j_yes ?_;refine j_fieldAddr ?_))))
 all_goals (refine J21 ?_;(first|refine j_un ?_|(refine j_yes ?_;refine j_sne ?_));refine j_pick ?_;refine j_move ?_)
 all_goals (first|refine j_un ?_|(refine j_yes ?_;refine j_fieldAddr ?_)|(refine lcs 45 (λ g45=>?_) (λ g45=>?_)<;>(first|refine j_un ?_|(refine j_yes ?_;refine j_fieldAddr ?_))))
 all_goals (refine J21 ?_;refine J38 ?_;refine l_nil ?_)
 all_goals
 refine kif (λ c51=>?_) (λ c51=>?_)
 ·try exact nv c51
  all_goals refine J10 ?_
  all_goals
   refine k_rv Tryz.results97 (λ w hw=>?_)
   exact⟨_,rfl,by simp_all[NdEq],hw.done⟩
 ·try exact nv c51
  all_goals (refine k_skip ?_;refine J24 ?_;refine J3 ?_;(refine j_own (cV (hc:=λ w1 hw=>by simp only[e1,e2];exact refs_c (ha.br.keep0 hw.st) (hb.br.keep0 hw.st) ha.brS)) (λ x56=>?_);try (refine l_fact (λ h56=>?_)));refine j_move ?_)
  all_goals (first|refine j_un ?_|(refine j_yes ?_;refine j_fieldAddr ?_)|(refine lcs 57 (λ g57=>?_) (λ g57=>?_)<;>(first|refine j_un ?_|(refine j_yes ?_;refine j_fieldAddr ?_))))
  all_goals (refine J21 ?_;((first|refine j_un ?_|(refine j_yes ?_;(refine j_own (cV (hc:=λ w1 hw=>by simp only[e3,e4];exact prs_c (ha.pr.keep0 hw.st) (hb.pr.keep0 hw.st) ha.prS)) (λ x62=>?_);try (refine l_fact (λ h62=>?_))))));refine j_pick ?_;refine j_move ?_)
  all_goals (first|refine j_un ?_|(refine j_yes ?_;refine j_fieldAddr ?_)|(refine lcs 64 (λ g64=>?_) (λ g64=>?_)<;>(first|refine j_un ?_|(refine j_yes ?_;refine j_fieldAddr ?_))))
  all_goals (refine J21 ?_;refine J12 ?_;refine j_move ?_)
  all_goals (first|refine j_un ?_|(refine j_yes ?_;refine j_fieldAddr ?_)|(refine lcs 71 (λ g71=>?_) (λ g71=>?_)<;>(first|refine j_un ?_|(refine j_yes ?_;refine j_fieldAddr ?_))))
  all_goals (refine J21 ?_;refine J12 ?_;refine j_move ?_)
  all_goals (first|refine j_un ?_|(refine j_yes ?_;refine j_fieldAddr ?_)|(refine lcs 78 (λ g78=>?_) (λ g78=>?_)<;>(first|refine j_un ?_|(refine j_yes ?_;refine j_fieldAddr ?_))))
  all_goals (refine J21 ?_;refine J12 ?_;refine j_move ?_)
  all_goals (first|refine j_un ?_|(refine j_yes ?_;refine j_fieldAddr ?_)|(refine lcs 85 (λ g85=>?_) (λ g85=>?_)<;>(first|refine j_un ?_|(refine j_yes ?_;refine j_fieldAddr ?_))))
  all_goals (refine J21 ?_;refine J12 ?_;refine j_move ?_)
  all_goals (first|refine j_un ?_|(refine j_yes ?_;refine j_fieldAddr ?_)|(refine lcs 92 (λ g92=>?_) (λ g92=>?_)<;>(first|refine j_un ?_|(refine j_yes ?_;refine j_fieldAddr ?_))))
  all_goals (refine J21 ?_;refine J12 ?_;refine J1 ?_)
  all_goals
   refine k_rv Tryz.results97 (λ w hw=>?_)
   exact⟨_,rfl,by simp_all[NdEq],hw.done⟩
theorem ndEq_c{a b:Nd}{x1 x2:List Int}{y1 y2:List Pr}{w:World}(ha:Rep w a x1 y1)(hb:Rep w b x2 y2) :
  Calls Tryz.prog 125 #[a.v,b.v] w λ e w'=>∃r:Bool,e=.returned (.bool r)/\(r=true↔NdEq a b x1 x2 y1 y2)/\St w [] [] w':=by
 have e1:=ha.brN;have e2:=hb.brN;have e3:=ha.prN;have e4:=hb.prN
 refine enter Tryz.func125 Tryz.ntmps125 rfl rfl (SF.s0 w) ?_
 simp only[mkS]
 all_goals (refine J0 ?_;refine j_box (λ x2=>?_);refine j_box (λ x3=>?_);refine J27 ?_;refine k_regionA (by dsimp only[List.append]) ?_;refine J3 ?_;refine J3 ?_;refine j_eql ?_;refine j_move ?_)
 all_goals (first|refine j_un ?_|(refine j_yes ?_;refine j_fieldAddr ?_)|(refine lcs 10 (λ g10=>?_) (λ g10=>?_)<;>(first|refine j_un ?_|(refine j_yes ?_;refine j_fieldAddr ?_))))
 all_goals (refine J21 ?_;refine J12 ?_;refine j_move ?_)
 all_goals (first|refine j_un ?_|(refine j_yes ?_;refine j_fieldAddr ?_)|(refine lcs 17 (λ g17=>?_) (λ g17=>?_)<;>(first|refine j_un ?_|(refine j_yes ?_;refine j_fieldAddr ?_))))
 all_goals (refine J21 ?_;refine J12 ?_;refine j_move ?_)
 all_goals (first|refine j_un ?_|(refine j_yes ?_;refine j_fieldAddr ?_)|(refine lcs 24 (λ g24=>?_) (λ g24=>?_)<;>(first|refine j_un ?_|(refine j_yes ?_;refine j_fieldAddr ?_))))
 all_goals (refine J21 ?_;refine J12 ?_;refine j_move ?_)
 all_goals (first|refine j_un ?_|(refine j_yes ?_;refine j_fieldAddr ?_)|(refine lcs 31 (λ g31=>?_) (λ g31=>?_)<;>(first|refine j_un ?_|(refine j_yes ?_;refine j_fieldAddr ?_))))
 all_goals (refine J21 ?_;((first|refine j_un ?_|(refine j_yes ?_;(refine j_own (cV (hc:=λ w1 hw=>by simp only[e1,e2];exact slRef_c (ha.br.keep0 hw.st) (hb.br.keep0 hw.st) ha.brS)) (λ x36=>?_);try (refine l_fact (λ h36=>?_))))));refine j_pick ?_;refine j_move ?_)
 all_goals (first|refine j_un ?_|(refine j_yes ?_;refine j_fieldAddr ?_)|(refine lcs 38 (λ g38=>?_) (λ g38=>?_)<;>(first|refine j_un ?_|(refine j_yes ?_;refine j_fieldAddr ?_))))
 all_goals (refine J21 ?_;refine J12 ?_;refine j_move ?_)
 all_goals (first|refine j_un ?_|(refine j_yes ?_;refine j_fieldAddr ?_)|(refine lcs 45 (λ g45=>?_) (λ g45=>?_)<;>(first|refine j_un ?_|(refine j_yes ?_;refine j_fieldAddr ?_))))
 all_goals (refine J21 ?_;(first|refine j_un ?_|(refine j_yes ?_;refine j_seq ?_));refine j_pick ?_;refine j_move ?_)
 all_goals (first|refine j_un ?_|(refine j_yes ?_;refine j_fieldAddr ?_)|(refine lcs 52 (λ g52=>?_) (λ g52=>?_)<;>(first|refine j_un ?_|(refine j_yes ?_;refine j_fieldAddr ?_))))
 all_goals (refine J21 ?_;refine J12 ?_;refine j_move ?_)
 all_goals (first|refine j_un ?_|(refine j_yes ?_;refine j_fieldAddr ?_)|(refine lcs 59 (λ g59=>?_) (λ g59=>?_)<;>(first|refine j_un ?_|(refine j_yes ?_;refine j_fieldAddr ?_))))
 all_goals (refine J21 ?_;((first|refine j_un ?_|(refine j_yes ?_;(refine j_own (cV (hc:=λ w1 hw=>by simp only[e3,e4];exact slPr_c (ha.pr.keep0 hw.st) (hb.pr.keep0 hw.st) ha.prS)) (λ x64=>?_);try (refine l_fact (λ h64=>?_))))));refine j_pick ?_;refine j_move ?_)
 all_goals (first|refine j_un ?_|(refine j_yes ?_;refine j_fieldAddr ?_)|(refine lcs 66 (λ g66=>?_) (λ g66=>?_)<;>(first|refine j_un ?_|(refine j_yes ?_;refine j_fieldAddr ?_))))
 all_goals (refine J21 ?_;refine J12 ?_;refine j_move ?_)
 all_goals (first|refine j_un ?_|(refine j_yes ?_;refine j_fieldAddr ?_)|(refine lcs 73 (λ g73=>?_) (λ g73=>?_)<;>(first|refine j_un ?_|(refine j_yes ?_;refine j_fieldAddr ?_))))
 all_goals (refine J21 ?_;refine J12 ?_;refine j_move ?_)
 all_goals (first|refine j_un ?_|(refine j_yes ?_;refine j_fieldAddr ?_)|(refine lcs 80 (λ g80=>?_) (λ g80=>?_)<;>(first|refine j_un ?_|(refine j_yes ?_;refine j_fieldAddr ?_))))
 all_goals (refine J21 ?_;refine J12 ?_;refine j_move ?_)
 all_goals (first|refine j_un ?_|(refine j_yes ?_;refine j_fieldAddr ?_)|(refine lcs 87 (λ g87=>?_) (λ g87=>?_)<;>(first|refine j_un ?_|(refine j_yes ?_;refine j_fieldAddr ?_))))
 all_goals (refine J21 ?_;refine J12 ?_;refine j_move ?_)
 all_goals (first|refine j_un ?_|(refine j_yes ?_;refine j_fieldAddr ?_)|(refine lcs 94 (λ g94=>?_) (λ g94=>?_)<;>(first|refine j_un ?_|(refine j_yes ?_;refine j_fieldAddr ?_))))
 all_goals (refine J21 ?_;refine J12 ?_;refine J1 ?_)
 all_goals
 refine k_rv Tryz.results125 (λ w hw=>?_)
 exact⟨_,rfl,by simp_all[NdEq],hw.done⟩
theorem main_c(a:Nd)(w:World):Calls Tryz.prog 58 #[a.v] w λ e w'=>∃r:Bool,e=.returned (.bool r)/\(r=true↔(a.kind=3∨a.kind=5∨a.kind=6))/\St w [] [] w':=by
 refine enter Tryz.func58 Tryz.ntmps58 rfl rfl (SF.s0 w) ?_
 simp only[mkS]
 all_goals (refine J0 ?_;refine j_box (λ x1=>?_);refine J27 ?_;refine J24 ?_;refine l_nil ?_;refine k_block ?_;refine k_seq ?_;refine J39 ?_)
 all_goals
 refine kif (λ c5=>?_) (λ c5=>?_)
 ·try exact nv c5
  all_goals refine k_skip ?_
  all_goals
   refine kif (λ c5=>?_) (λ c5=>?_)
   ·try exact nv c5
    all_goals refine J10 ?_
    all_goals
    refine k_rv Tryz.results58 (λ w hw=>?_)
    exact⟨_,rfl,by simp_all,hw.done⟩
   ·try exact nv c5
    all_goals (refine J34 ?_;refine J10 ?_)
    all_goals
    refine k_rv Tryz.results58 (λ w hw=>?_)
    exact⟨_,rfl,by simp_all,hw.done⟩
 ·try exact nv c5
  all_goals refine J39 ?_
  all_goals
   refine kif (λ c5=>?_) (λ c5=>?_)
   ·try exact nv c5
    all_goals refine k_skip ?_
    all_goals
    refine kif (λ c5=>?_) (λ c5=>?_)
    ·try exact nv c5
     all_goals refine J10 ?_
     all_goals
      refine k_rv Tryz.results58 (λ w hw=>?_)
      exact⟨_,rfl,by simp_all,hw.done⟩
    ·try exact nv c5
     all_goals (refine J34 ?_;refine J10 ?_)
     all_goals
      refine k_rv Tryz.results58 (λ w hw=>?_)
      exact⟨_,rfl,by simp_all,hw.done⟩
   ·try exact nv c5
    all_goals (refine k_region ?_;refine J28 ?_)
    all_goals
    refine kif (λ c5=>?_) (λ c5=>?_)
    ·try exact nv c5
     all_goals refine J10 ?_
     all_goals
      refine k_rv Tryz.results58 (λ w hw=>?_)
      exact⟨_,rfl,by simp_all,hw.done⟩
    ·try exact nv c5
     all_goals (refine J34 ?_;refine J10 ?_)
     all_goals
      refine k_rv Tryz.results58 (λ w hw=>?_)
      exact⟨_,rfl,by simp_all,hw.done⟩
theorem refMain_c(a:Nd)(w:World):Calls Tryz.prog 74 #[a.v] w λ e w'=>∃r:Bool,e=.returned (.bool r)/\(r=true↔(a.kind=3∨a.kind=5∨a.kind=6))/\St w [] [] w':=by
 refine enter Tryz.func74 Tryz.ntmps74 rfl rfl (SF.s0 w) ?_
 simp only[mkS]
 all_goals (refine J0 ?_;refine j_box (λ x1=>?_);refine J1 ?_;refine J24 ?_;refine j_eql ?_;refine j_move ?_)
 all_goals (first|refine j_un ?_|(refine j_yes ?_;refine j_fieldAddr ?_)|(refine lcs 6 (λ g6=>?_) (λ g6=>?_)<;>(first|refine j_un ?_|(refine j_yes ?_;refine j_fieldAddr ?_))))
 all_goals (refine J78 ?_;refine j_move ?_)
 all_goals (first|refine j_un ?_|(refine j_yes ?_;refine j_fieldAddr ?_)|(refine lcs 11 (λ g11=>?_) (λ g11=>?_)<;>(first|refine j_un ?_|(refine j_yes ?_;refine j_fieldAddr ?_))))
 all_goals (refine J78 ?_;refine J1 ?_)
 all_goals
 refine k_rv Tryz.results74 (λ w hw=>?_)
 exact⟨_,rfl,by simp_all,hw.done⟩
end Go.Proofs.YtpobgmdalcpomaaGreat
