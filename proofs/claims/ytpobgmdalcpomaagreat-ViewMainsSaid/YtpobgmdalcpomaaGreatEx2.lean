/- Executions of the reference: cas. -/
import Derived.Test.YtpobgmdalcpomaaGreatEx1
set_option linter.unusedSimpArgs false
set_option linter.unusedVariables false
namespace Go.Ct
def b01(b:Bool):Int:=if b=true then 1 else 0
theorem snoc_last(l:List Int)(v:Int):(l++[v]).getD l.length 0=v:=by rw[List.getD_eq_getElem?_getD,List.getElem?_append_right (Nat.le_refl _)];simp
end Go.Ct
namespace Go.Proofs.YtpobgmdalcpomaaGreat
open Go Go.RowKit Go.Ct
section
variable{k:Cl}{bx bm:Nat}{x:XS}{dn:Bool}{rs:Rs}{D:List Nat}{A:Fr}{w:World}
theorem cas_st(c o n:Int)(ok:x.Ok)(h:x.st=true)(hs:SF w D (xH k bx bm x dn rs) A [] (xW x) w):Calls Tryz.prog 106 #[.pointer (some ⟨bx,0,none⟩),.int .i64 c,.int .i64 o,.int .i64 n] w λ e w'=>∃q:Unit,e=.returned (.bool false)/\True/\SF w D (xH k bx bm x dn rs) [] [] (xW x) w':=by
 refine enter Tryz.func106 Tryz.ntmps106 rfl rfl (xOpen2 hs) ?_
 simp only[mkS]
 all_goals (refine J10 ?_;refine J11 ?_;refine J35 ?_;refine j_build ?_;(refine j_own (cM (hs:=xH k bx bm x dn rs) (os:=xW x) (hc:=λ w hs=>known_st ⟨2,c,o,n⟩ ok h hs)) (λ x18=>?_);try (refine l_fact (λ h18=>?_)));refine J82 ?_;refine J8 ?_;refine J32 ?_;refine l_nil ?_)
 all_goals
 refine kif (λ c21=>?_) (λ c21=>?_)
 ·try exact nv c21
  all_goals try (exact absurd (by assumption) (by decide:¬(true=false)))
  all_goals (refine J75 ?_;refine J26 ?_;refine J35 ?_;refine j_move ?_;(refine j_own (NO) (λ x29=>?_);try (refine l_fact (λ h29=>?_)));refine l_nil ?_)
  all_goals
   refine kif (λ c29=>?_) (λ c29=>?_)
   ·try exact nv c29
    all_goals try (exact absurd (by assumption) (by decide:¬(true=false)))
    all_goals (refine k_region ?_;refine J1 ?_;refine k_dp [(0,[]),(1,[]),(2,[]),(3,[]),(4,[]),(5,[]),(6,[]),(9,[]),(10,[]),(11,[]),(12,[]),(13,[]),(7,[5,12]),(8,[12]),(14,[]),(15,[]),(16,[]),(17,[]),(18,[]),(19,[])] ?_;refine J17 ?_;refine J14 ?_;refine J67 ?_;refine r_inc ?_;refine r_buildSlice (h:=λ x37=>?_);((refine r_append (h:=λ x38=>?_);try (refine r_fact (λ h38=>?_))));refine J4 ?_;refine r_store (h:=λ _=>?_);refine J88 ?_;refine k_seq ?_;refine k_dq [0,1,2,3,4,5,6,7,8,9,10,11,12,13,14,15,16,17,18] ?_;refine J17 ?_)
    all_goals (first|refine r_un ?_|(refine r_move ?_)|(refine rcs 49 (λ g49=>?_) (λ g49=>?_)<;>(try (exact absurd (by assumption) (by decide:¬(true=false))))<;>(first|refine r_un ?_|(refine r_move ?_))))
    all_goals (refine r_pick ?_;refine r_move ?_)
    all_goals (first|refine r_un ?_|(refine r_move ?_)|(refine rcs 52 (λ g52=>?_) (λ g52=>?_)<;>(try (exact absurd (by assumption) (by decide:¬(true=false))))<;>(first|refine r_un ?_|(refine r_move ?_))))
    all_goals (refine J60 ?_;refine J30 ?_;(first|refine r_un ?_|(refine r_dec ?_));refine J74 ?_;refine J56 ?_;refine J7 ?_)
    all_goals
    refine k_rv Tryz.results106 (λ w hw=>?_)
    exact⟨(),rfl,trivial,hw.finH⟩
   ·try exact nv c29
    all_goals try (exact absurd (by assumption) (by decide:¬(true=false)))
    all_goals (refine k_skip ?_;refine k_dp [(0,[]),(1,[]),(2,[]),(3,[]),(4,[]),(5,[]),(6,[]),(9,[]),(10,[]),(11,[]),(12,[]),(13,[]),(7,[5,12]),(8,[12]),(14,[]),(15,[]),(16,[]),(17,[]),(18,[]),(19,[])] ?_;refine J17 ?_;refine J14 ?_;refine J67 ?_;refine r_inc ?_;refine r_buildSlice (h:=λ x37=>?_);((refine r_append (h:=λ x38=>?_);try (refine r_fact (λ h38=>?_))));refine J4 ?_;refine r_store (h:=λ _=>?_);refine J88 ?_;refine k_seq ?_;refine k_dq [0,1,2,3,4,5,6,7,8,9,10,11,12,13,14,15,16,17,18] ?_;refine J17 ?_)
    all_goals (first|refine r_un ?_|(refine r_move ?_)|(refine rcs 49 (λ g49=>?_) (λ g49=>?_)<;>(try (exact absurd (by assumption) (by decide:¬(true=false))))<;>(first|refine r_un ?_|(refine r_move ?_))))
    all_goals (refine r_pick ?_;refine r_move ?_)
    all_goals (first|refine r_un ?_|(refine r_move ?_)|(refine rcs 52 (λ g52=>?_) (λ g52=>?_)<;>(try (exact absurd (by assumption) (by decide:¬(true=false))))<;>(first|refine r_un ?_|(refine r_move ?_))))
    all_goals (refine J60 ?_;refine J30 ?_;(first|refine r_un ?_|(refine r_dec ?_));refine J74 ?_;refine J56 ?_;refine J7 ?_)
    all_goals
    refine k_rv Tryz.results106 (λ w hw=>?_)
    exact⟨(),rfl,trivial,hw.finH⟩
 ·try exact nv c21
  all_goals try (exact absurd (by assumption) (by decide:¬(true=false)))
  all_goals (refine J16 ?_;refine k_dq [0,1,2,3,4,5,6,7,8,9,10,11,12,13,14,15,16,17,18] ?_;refine J17 ?_)
  all_goals (first|refine r_un ?_|(refine r_move ?_)|(refine rcs 49 (λ g49=>?_) (λ g49=>?_)<;>(try (exact absurd (by assumption) (by decide:¬(true=false))))<;>(first|refine r_un ?_|(refine r_move ?_))))
  all_goals (refine r_pick ?_;refine r_move ?_)
  all_goals (first|refine r_un ?_|(refine r_move ?_)|(refine rcs 52 (λ g52=>?_) (λ g52=>?_)<;>(try (exact absurd (by assumption) (by decide:¬(true=false))))<;>(first|refine r_un ?_|(refine r_move ?_))))
  all_goals (refine J60 ?_;refine J30 ?_;(first|refine r_un ?_|(refine r_dec ?_));refine J74 ?_;refine J56 ?_;refine J7 ?_)
  all_goals
   refine k_rv Tryz.results106 (λ w hw=>?_)
   exact⟨(),rfl,trivial,hw.finH⟩
theorem cas_no(c o n:Int)(ok:x.Ok)(h:x.st=false)(h1:¬x.a<x.got.length)(h2:x.fr=0)(hs:SF w D (xH k bx bm x dn rs) A [] (xW x) w):Calls Tryz.prog 106 #[.pointer (some ⟨bx,0,none⟩),.int .i64 c,.int .i64 o,.int .i64 n] w λ e w'=>∃q:Unit,e=.returned (.bool false)/\True/\SF w D (xH k bx bm {x with st:=true,nx:=⟨2,c,o,n⟩} dn rs) [] [] (xW {x with st:=true,nx:=⟨2,c,o,n⟩}) w':=by
 refine enter Tryz.func106 Tryz.ntmps106 rfl rfl (xOpen2 hs) ?_
 simp only[mkS]
 all_goals (refine J10 ?_;refine J11 ?_;refine J35 ?_;refine j_build ?_;(refine j_own (cM (hs:=xH k bx bm x dn rs) (os:=xW x) (hc:=λ w hs=>known_no ⟨2,c,o,n⟩ ok h h1 h2 hs)) (λ x18=>?_);try (refine l_fact (λ h18=>?_)));refine J82 ?_;refine J8 ?_;refine J32 ?_;refine l_nil ?_)
 all_goals
 refine kif (λ c21=>?_) (λ c21=>?_)
 ·try exact nv c21
  all_goals try (exact absurd (by assumption) (by decide:¬(true=false)))
  all_goals (refine J75 ?_;refine J26 ?_;refine J35 ?_;refine j_move ?_;(refine j_own (NO) (λ x29=>?_);try (refine l_fact (λ h29=>?_)));refine l_nil ?_)
  all_goals
   refine kif (λ c29=>?_) (λ c29=>?_)
   ·try exact nv c29
    all_goals try (exact absurd (by assumption) (by decide:¬(true=false)))
    all_goals (refine k_region ?_;refine J1 ?_;refine k_dp [(0,[]),(1,[]),(2,[]),(3,[]),(4,[]),(5,[]),(6,[]),(9,[]),(10,[]),(11,[]),(12,[]),(13,[]),(7,[5,12]),(8,[12]),(14,[]),(15,[]),(16,[]),(17,[]),(18,[]),(19,[])] ?_;refine J17 ?_;refine J14 ?_;refine J67 ?_;refine r_inc ?_;refine r_buildSlice (h:=λ x37=>?_);((refine r_append (h:=λ x38=>?_);try (refine r_fact (λ h38=>?_))));refine J4 ?_;refine r_store (h:=λ _=>?_);refine J88 ?_;refine k_seq ?_;refine k_dq [0,1,2,3,4,5,6,7,8,9,10,11,12,13,14,15,16,17,18] ?_;refine J17 ?_)
    all_goals (first|refine r_un ?_|(refine r_move ?_)|(refine rcs 49 (λ g49=>?_) (λ g49=>?_)<;>(try (exact absurd (by assumption) (by decide:¬(true=false))))<;>(first|refine r_un ?_|(refine r_move ?_))))
    all_goals (refine r_pick ?_;refine r_move ?_)
    all_goals (first|refine r_un ?_|(refine r_move ?_)|(refine rcs 52 (λ g52=>?_) (λ g52=>?_)<;>(try (exact absurd (by assumption) (by decide:¬(true=false))))<;>(first|refine r_un ?_|(refine r_move ?_))))
    all_goals (refine J60 ?_;refine J30 ?_;(first|refine r_un ?_|(refine r_dec ?_));refine J74 ?_;refine J56 ?_;refine J7 ?_)
    all_goals
    refine k_rv Tryz.results106 (λ w hw=>?_)
    exact⟨(),rfl,trivial,hw.finH⟩
   ·try exact nv c29
    all_goals try (exact absurd (by assumption) (by decide:¬(true=false)))
    all_goals (refine k_skip ?_;refine k_dp [(0,[]),(1,[]),(2,[]),(3,[]),(4,[]),(5,[]),(6,[]),(9,[]),(10,[]),(11,[]),(12,[]),(13,[]),(7,[5,12]),(8,[12]),(14,[]),(15,[]),(16,[]),(17,[]),(18,[]),(19,[])] ?_;refine J17 ?_;refine J14 ?_;refine J67 ?_;refine r_inc ?_;refine r_buildSlice (h:=λ x37=>?_);((refine r_append (h:=λ x38=>?_);try (refine r_fact (λ h38=>?_))));refine J4 ?_;refine r_store (h:=λ _=>?_);refine J88 ?_;refine k_seq ?_;refine k_dq [0,1,2,3,4,5,6,7,8,9,10,11,12,13,14,15,16,17,18] ?_;refine J17 ?_)
    all_goals (first|refine r_un ?_|(refine r_move ?_)|(refine rcs 49 (λ g49=>?_) (λ g49=>?_)<;>(try (exact absurd (by assumption) (by decide:¬(true=false))))<;>(first|refine r_un ?_|(refine r_move ?_))))
    all_goals (refine r_pick ?_;refine r_move ?_)
    all_goals (first|refine r_un ?_|(refine r_move ?_)|(refine rcs 52 (λ g52=>?_) (λ g52=>?_)<;>(try (exact absurd (by assumption) (by decide:¬(true=false))))<;>(first|refine r_un ?_|(refine r_move ?_))))
    all_goals (refine J60 ?_;refine J30 ?_;(first|refine r_un ?_|(refine r_dec ?_));refine J74 ?_;refine J56 ?_;refine J7 ?_)
    all_goals
    refine k_rv Tryz.results106 (λ w hw=>?_)
    exact⟨(),rfl,trivial,hw.finH⟩
 ·try exact nv c21
  all_goals try (exact absurd (by assumption) (by decide:¬(true=false)))
  all_goals (refine J16 ?_;refine k_dq [0,1,2,3,4,5,6,7,8,9,10,11,12,13,14,15,16,17,18] ?_;refine J17 ?_)
  all_goals (first|refine r_un ?_|(refine r_move ?_)|(refine rcs 49 (λ g49=>?_) (λ g49=>?_)<;>(try (exact absurd (by assumption) (by decide:¬(true=false))))<;>(first|refine r_un ?_|(refine r_move ?_))))
  all_goals (refine r_pick ?_;refine r_move ?_)
  all_goals (first|refine r_un ?_|(refine r_move ?_)|(refine rcs 52 (λ g52=>?_) (λ g52=>?_)<;>(try (exact absurd (by assumption) (by decide:¬(true=false))))<;>(first|refine r_un ?_|(refine r_move ?_))))
  all_goals (refine J60 ?_;refine J30 ?_;(first|refine r_un ?_|(refine r_dec ?_));refine J74 ?_;refine J56 ?_;refine J7 ?_)
  all_goals
   refine k_rv Tryz.results106 (λ w hw=>?_)
   exact⟨(),rfl,trivial,hw.finH⟩
theorem cas_old(c o n:Int)(ok:x.Ok)(h:x.st=false)(h1:x.a<x.got.length)(hs:SF w D (xH k bx bm x dn rs) A [] (xW x) w):Calls Tryz.prog 106 #[.pointer (some ⟨bx,0,none⟩),.int .i64 c,.int .i64 o,.int .i64 n] w λ e w'=>∃q:Unit,e=.returned (.bool (x.got.getD x.a 0==1))/\True/\SF w D (xH k bx bm {x with a:=x.a+1} dn rs) [] [] (xW {x with a:=x.a+1}) w':=by
 have hg:=ok.lg
 refine enter Tryz.func106 Tryz.ntmps106 rfl rfl (xOpen2 hs) ?_
 simp only[mkS]
 all_goals (refine J10 ?_;refine J11 ?_;refine J35 ?_;refine j_build ?_;(refine j_own (cM (hs:=xH k bx bm x dn rs) (os:=xW x) (hc:=λ w hs=>known_old ⟨2,c,o,n⟩ ok h h1 hs)) (λ x18=>?_);try (refine l_fact (λ h18=>?_)));refine J82 ?_;refine J8 ?_;refine J32 ?_;refine l_nil ?_)
 all_goals
 refine kif (λ c21=>?_) (λ c21=>?_)
 ·try exact nv c21
  all_goals try (exact absurd (by assumption) (by decide:¬(true=false)))
  all_goals (refine J75 ?_;refine J26 ?_;refine J35 ?_;refine j_move ?_;(refine j_own (NO) (λ x29=>?_);try (refine l_fact (λ h29=>?_)));refine l_nil ?_)
  all_goals
   refine kif (λ c29=>?_) (λ c29=>?_)
   ·try exact nv c29
    all_goals try (exact absurd (by assumption) (by decide:¬(true=false)))
    all_goals (refine k_region ?_;refine J1 ?_;refine k_dp [(0,[]),(1,[]),(2,[]),(3,[]),(4,[]),(5,[]),(6,[]),(9,[]),(10,[]),(11,[]),(12,[]),(13,[]),(7,[5,12]),(8,[12]),(14,[]),(15,[]),(16,[]),(17,[]),(18,[]),(19,[])] ?_;refine J17 ?_;refine J14 ?_;refine J67 ?_;refine r_inc ?_;refine r_buildSlice (h:=λ x37=>?_);((refine r_append (h:=λ x38=>?_);try (refine r_fact (λ h38=>?_))));refine J4 ?_;refine r_store (h:=λ _=>?_);refine J88 ?_;refine k_seq ?_;refine k_dq [0,1,2,3,4,5,6,7,8,9,10,11,12,13,14,15,16,17,18] ?_;refine J17 ?_)
    all_goals (first|refine r_un ?_|(refine r_move ?_)|(refine rcs 49 (λ g49=>?_) (λ g49=>?_)<;>(try (exact absurd (by assumption) (by decide:¬(true=false))))<;>(first|refine r_un ?_|(refine r_move ?_))))
    all_goals (refine r_pick ?_;refine r_move ?_)
    all_goals (first|refine r_un ?_|(refine r_move ?_)|(refine rcs 52 (λ g52=>?_) (λ g52=>?_)<;>(try (exact absurd (by assumption) (by decide:¬(true=false))))<;>(first|refine r_un ?_|(refine r_move ?_))))
    all_goals (refine J60 ?_;refine J30 ?_;(first|refine r_un ?_|(refine r_ownP (i:=13) (hq:=(o_subN (m:=x.a+1) (n:=1) rf rf (by omega) (by omega))) (h:=?_)));(first|refine r_un ?_|(refine r_ownQ (i:=14) (hq:=(o_indexR (m:=x.got.length) (k:=x.a+1-1) (lst:=x.got) rf rf sl1 on1 (.own .head) (by omega) (by omega))) (h:=?_)));(first|refine r_un ?_|(refine r_ownQ (i:=15) (hq:=(o_loadR (q:=x.a+1-1) (lst:=x.got) rf on1 (.own .head) (by omega))) (h:=?_)));refine J56 ?_;refine J7 ?_)
    all_goals
    refine k_rv Tryz.results106 (λ w hw=>?_)
    exact⟨(),by rw[Nat.add_sub_cancel];rfl,trivial,hw.finH⟩
   ·try exact nv c29
    all_goals try (exact absurd (by assumption) (by decide:¬(true=false)))
    all_goals (refine k_skip ?_;refine k_dp [(0,[]),(1,[]),(2,[]),(3,[]),(4,[]),(5,[]),(6,[]),(9,[]),(10,[]),(11,[]),(12,[]),(13,[]),(7,[5,12]),(8,[12]),(14,[]),(15,[]),(16,[]),(17,[]),(18,[]),(19,[])] ?_;refine J17 ?_;refine J14 ?_;refine J67 ?_;refine r_inc ?_;refine r_buildSlice (h:=λ x37=>?_);((refine r_append (h:=λ x38=>?_);try (refine r_fact (λ h38=>?_))));refine J4 ?_;refine r_store (h:=λ _=>?_);refine J88 ?_;refine k_seq ?_;refine k_dq [0,1,2,3,4,5,6,7,8,9,10,11,12,13,14,15,16,17,18] ?_;refine J17 ?_)
    all_goals (first|refine r_un ?_|(refine r_move ?_)|(refine rcs 49 (λ g49=>?_) (λ g49=>?_)<;>(try (exact absurd (by assumption) (by decide:¬(true=false))))<;>(first|refine r_un ?_|(refine r_move ?_))))
    all_goals (refine r_pick ?_;refine r_move ?_)
    all_goals (first|refine r_un ?_|(refine r_move ?_)|(refine rcs 52 (λ g52=>?_) (λ g52=>?_)<;>(try (exact absurd (by assumption) (by decide:¬(true=false))))<;>(first|refine r_un ?_|(refine r_move ?_))))
    all_goals (refine J60 ?_;refine J30 ?_;(first|refine r_un ?_|(refine r_ownP (i:=13) (hq:=(o_subN (m:=x.a+1) (n:=1) rf rf (by omega) (by omega))) (h:=?_)));(first|refine r_un ?_|(refine r_ownQ (i:=14) (hq:=(o_indexR (m:=x.got.length) (k:=x.a+1-1) (lst:=x.got) rf rf sl1 on1 (.own .head) (by omega) (by omega))) (h:=?_)));(first|refine r_un ?_|(refine r_ownQ (i:=15) (hq:=(o_loadR (q:=x.a+1-1) (lst:=x.got) rf on1 (.own .head) (by omega))) (h:=?_)));refine J56 ?_;refine J7 ?_)
    all_goals
    refine k_rv Tryz.results106 (λ w hw=>?_)
    exact⟨(),by rw[Nat.add_sub_cancel];rfl,trivial,hw.finH⟩
 ·try exact nv c21
  all_goals try (exact absurd (by assumption) (by decide:¬(true=false)))
  all_goals (refine J16 ?_;refine k_dq [0,1,2,3,4,5,6,7,8,9,10,11,12,13,14,15,16,17,18] ?_;refine J17 ?_)
  all_goals (first|refine r_un ?_|(refine r_move ?_)|(refine rcs 49 (λ g49=>?_) (λ g49=>?_)<;>(try (exact absurd (by assumption) (by decide:¬(true=false))))<;>(first|refine r_un ?_|(refine r_move ?_))))
  all_goals (refine r_pick ?_;refine r_move ?_)
  all_goals (first|refine r_un ?_|(refine r_move ?_)|(refine rcs 52 (λ g52=>?_) (λ g52=>?_)<;>(try (exact absurd (by assumption) (by decide:¬(true=false))))<;>(first|refine r_un ?_|(refine r_move ?_))))
  all_goals (refine J60 ?_;refine J30 ?_;(first|refine r_un ?_|(refine r_ownP (i:=13) (hq:=(o_subN (m:=x.a+1) (n:=1) rf rf (by omega) (by omega))) (h:=?_)));(first|refine r_un ?_|(refine r_ownQ (i:=14) (hq:=(o_indexR (m:=x.got.length) (k:=x.a+1-1) (lst:=x.got) rf rf sl1 on1 (.own .head) (by omega) (by omega))) (h:=?_)));(first|refine r_un ?_|(refine r_ownQ (i:=15) (hq:=(o_loadR (q:=x.a+1-1) (lst:=x.got) rf on1 (.own .head) (by omega))) (h:=?_)));refine J56 ?_;refine J7 ?_)
  all_goals
   refine k_rv Tryz.results106 (λ w hw=>?_)
   exact⟨(),by rw[Nat.add_sub_cancel];rfl,trivial,hw.finH⟩
theorem cas_now(c o n:Int)(hc:c<=9223372036854775807)(ok:x.Ok)(h:x.st=false)(h1:¬x.a<x.got.length)(h2:¬x.fr=0)(hs:SF w D (xH k bx bm x dn rs) A [] (xW x) w):Calls Tryz.prog 106 #[.pointer (some ⟨bx,0,none⟩),.int .i64 c,.int .i64 o,.int .i64 n] w λ e w'=>∃q:Bool×(Option Addr×Nat),e=.returned (.bool q.1)/\(q.1=true↔CasOk x.cs c o)/\SF w D (xH k bx bm {x with fr:=x.fr-1,cs:=casL x.cs c o n,acc:=up x.acc,got:=x.got++[b01 q.1],pg:=q.2.1,kg:=q.2.2,a:=x.a+1} dn rs) [] [] (xW {x with fr:=x.fr-1,cs:=casL x.cs c o n,acc:=up x.acc,got:=x.got++[b01 q.1],pg:=q.2.1,kg:=q.2.2,a:=x.a+1}) w':=by
  have hg:=ok.lg
  have ha:=ok.la
  have hlc:=ok.lc
  refine enter Tryz.func106 Tryz.ntmps106 rfl rfl (xOpen2 hs) ?_
  simp only[mkS]
  all_goals (refine J10 ?_;refine J11 ?_;refine J35 ?_;refine j_build ?_;(refine j_own (cM (hs:=xH k bx bm x dn rs) (os:=xW x) (hc:=λ w hs=>known_now ⟨2,c,o,n⟩ ok h h1 h2 hs)) (λ x18=>?_);try (refine l_fact (λ h18=>?_)));refine J82 ?_;refine J8 ?_;refine J32 ?_;refine l_nil ?_)
  all_goals
   refine kif (λ c21=>?_) (λ c21=>?_)
   · try exact nv c21
     all_goals try (exact absurd (by assumption) (by decide:¬(true=false)))
     all_goals (refine J75 ?_;refine J26 ?_;refine J35 ?_;refine j_move ?_;(refine j_own (cM (V:=.bool) (hc:=λ w hs=>mCAS_c (L:=x.L) (cs:=x.cs) hs c o n hc (by omega))) (λ x29=>?_);try (refine l_fact (λ h29=>?_)));refine l_nil ?_)
     all_goals
      refine kif (λ c29=>?_) (λ c29=>?_)
      · try exact nv c29
        all_goals try (exact absurd (by assumption) (by decide:¬(true=false)))
        all_goals
         have hv:(1:Int)=b01 x29:=by rw[c29];rfl
        all_goals (refine k_region ?_;refine J1 ?_;refine k_dp [(0,[]),(1,[]),(2,[]),(3,[]),(4,[]),(5,[]),(6,[]),(9,[]),(10,[]),(11,[]),(12,[]),(13,[]),(7,[5,12]),(8,[12]),(14,[]),(15,[]),(16,[]),(17,[]),(18,[]),(19,[])] ?_;refine J17 ?_;refine J14 ?_;refine J67 ?_;refine r_ownP (i:=13) (hq:=(o_addN (m:=x.a) (n:=1) rf rf (by omega))) (h:=?_);refine r_buildSlice (h:=λ x37=>?_);((refine r_own (i:=8) (hq:=(Loud.convOF (o_appR1 (l:=x.got) (m:=x.got.length) rf rf .head rfl fin er1 sl1 (by omega)) co1)) (h:=λ x38=>?_);try (refine r_fact (λ h38=>?_))));refine J4 ?_;refine r_own0 (i:=16) (hq:=(by first|exact lSF λ _=>o_store rf atT wn rf on1 rf rf se2|exact(lSF λ _=>o_store rf atT wn rf on1 rf se1 se2)|exact(lSF λ _=>o_storeAgg rf atT rf rf ag1 rf se2)|exact(Loud.convO (o_storeR rf rf on1 oaT om) co1)|exact(Loud.convO (o_storeB rf rf on1 oaT om) co1)|exact(Loud.convO (o_storePv rf rf on1 oaT om) co1)|exact(Loud.convO (o_storeP rf rf ag1 oaT om) co1))) (h:=λ _=>?_);refine J4 ?_;refine r_own0 (i:=19) (hq:=(by first|exact lSF λ _=>o_store rf atT wn rf on1 rf rf se2|exact(lSF λ _=>o_store rf atT wn rf on1 rf se1 se2)|exact(lSF λ _=>o_storeAgg rf atT rf rf ag1 rf se2)|exact(Loud.convO (o_storeR rf rf on1 oaT om) co1)|exact(Loud.convO (o_storeB rf rf on1 oaT om) co1)|exact(Loud.convO (o_storePv rf rf on1 oaT om) co1)|exact(Loud.convO (o_storeP rf rf ag1 oaT om) co1))) (h:=λ _=>?_);refine r_fin ?_;refine k_seq ?_;refine k_dq [0,1,2,3,4,5,6,7,8,9,10,11,12,13,14,15,16,17,18] ?_;refine J17 ?_)
        all_goals (first|refine r_un ?_|(refine r_move ?_)|(refine rcs 49 (λ g49=>?_) (λ g49=>?_)<;>(try (exact absurd (by assumption) (by decide:¬(true=false))))<;>(first|refine r_un ?_|(refine r_move ?_))))
        all_goals (refine r_pick ?_;refine r_move ?_)
        all_goals (first|refine r_un ?_|(refine r_move ?_)|(refine rcs 52 (λ g52=>?_) (λ g52=>?_)<;>(try (exact absurd (by assumption) (by decide:¬(true=false))))<;>(first|refine r_un ?_|(refine r_move ?_))))
        all_goals (refine J60 ?_;refine J30 ?_;(first|refine r_un ?_|(refine r_ownP (i:=13) (hq:=(o_subN (m:=x.a+1) (n:=1) rf rf (by omega) (by omega))) (h:=?_)));(first|refine r_un ?_|(refine r_ownQ (i:=14) (hq:=(o_indexR (m:=x.got.length+1) (k:=x.a+1-1) rf rf sl1 on1 (.own .head) (by omega) (by rw[List.length_append,List.length_cons,List.length_nil];omega))) (h:=?_)));(first|refine r_un ?_|(refine r_ownQ (i:=15) (hq:=(o_loadR (q:=x.a+1-1) rf on1 (.own .head) (by rw[List.length_append,List.length_cons,List.length_nil];omega))) (h:=?_)));refine J56 ?_;refine J7 ?_)
        all_goals
         refine k_rv Tryz.results106 (λ w hw=>?_)
         rw[hv] at hw
         rw[show x.got.length+1=(x.got++[b01 x29]).length by simp] at hw
         exact⟨(x29,x38),by rw[show x.a+1-1=x.got.length by omega,snoc_last,c29];rfl,h29,hw.finH⟩
      · try exact nv c29
        all_goals try (exact absurd (by assumption) (by decide:¬(true=false)))
        all_goals
         have hv:(0:Int)=b01 x29:=by rw[c29];rfl
        all_goals (refine k_skip ?_;refine k_dp [(0,[]),(1,[]),(2,[]),(3,[]),(4,[]),(5,[]),(6,[]),(9,[]),(10,[]),(11,[]),(12,[]),(13,[]),(7,[5,12]),(8,[12]),(14,[]),(15,[]),(16,[]),(17,[]),(18,[]),(19,[])] ?_;refine J17 ?_;refine J14 ?_;refine J67 ?_;refine r_ownP (i:=13) (hq:=(o_addN (m:=x.a) (n:=1) rf rf (by omega))) (h:=?_);refine r_buildSlice (h:=λ x37=>?_);((refine r_own (i:=8) (hq:=(Loud.convOF (o_appR1 (l:=x.got) (m:=x.got.length) rf rf .head rfl fin er1 sl1 (by omega)) co1)) (h:=λ x38=>?_);try (refine r_fact (λ h38=>?_))));refine J4 ?_;refine r_own0 (i:=16) (hq:=(by first|exact lSF λ _=>o_store rf atT wn rf on1 rf rf se2|exact(lSF λ _=>o_store rf atT wn rf on1 rf se1 se2)|exact(lSF λ _=>o_storeAgg rf atT rf rf ag1 rf se2)|exact(Loud.convO (o_storeR rf rf on1 oaT om) co1)|exact(Loud.convO (o_storeB rf rf on1 oaT om) co1)|exact(Loud.convO (o_storePv rf rf on1 oaT om) co1)|exact(Loud.convO (o_storeP rf rf ag1 oaT om) co1))) (h:=λ _=>?_);refine J4 ?_;refine r_own0 (i:=19) (hq:=(by first|exact lSF λ _=>o_store rf atT wn rf on1 rf rf se2|exact(lSF λ _=>o_store rf atT wn rf on1 rf se1 se2)|exact(lSF λ _=>o_storeAgg rf atT rf rf ag1 rf se2)|exact(Loud.convO (o_storeR rf rf on1 oaT om) co1)|exact(Loud.convO (o_storeB rf rf on1 oaT om) co1)|exact(Loud.convO (o_storePv rf rf on1 oaT om) co1)|exact(Loud.convO (o_storeP rf rf ag1 oaT om) co1))) (h:=λ _=>?_);refine r_fin ?_;refine k_seq ?_;refine k_dq [0,1,2,3,4,5,6,7,8,9,10,11,12,13,14,15,16,17,18] ?_;refine J17 ?_)
        all_goals (first|refine r_un ?_|(refine r_move ?_)|(refine rcs 49 (λ g49=>?_) (λ g49=>?_)<;>(try (exact absurd (by assumption) (by decide:¬(true=false))))<;>(first|refine r_un ?_|(refine r_move ?_))))
        all_goals (refine r_pick ?_;refine r_move ?_)
        all_goals (first|refine r_un ?_|(refine r_move ?_)|(refine rcs 52 (λ g52=>?_) (λ g52=>?_)<;>(try (exact absurd (by assumption) (by decide:¬(true=false))))<;>(first|refine r_un ?_|(refine r_move ?_))))
        all_goals (refine J60 ?_;refine J30 ?_;(first|refine r_un ?_|(refine r_ownP (i:=13) (hq:=(o_subN (m:=x.a+1) (n:=1) rf rf (by omega) (by omega))) (h:=?_)));(first|refine r_un ?_|(refine r_ownQ (i:=14) (hq:=(o_indexR (m:=x.got.length+1) (k:=x.a+1-1) rf rf sl1 on1 (.own .head) (by omega) (by rw[List.length_append,List.length_cons,List.length_nil];omega))) (h:=?_)));(first|refine r_un ?_|(refine r_ownQ (i:=15) (hq:=(o_loadR (q:=x.a+1-1) rf on1 (.own .head) (by rw[List.length_append,List.length_cons,List.length_nil];omega))) (h:=?_)));refine J56 ?_;refine J7 ?_)
        all_goals
         refine k_rv Tryz.results106 (λ w hw=>?_)
         rw[hv] at hw
         rw[show x.got.length+1=(x.got++[b01 x29]).length by simp] at hw
         exact⟨(x29,x38),by rw[show x.a+1-1=x.got.length by omega,snoc_last,c29];rfl,h29,hw.finH⟩
   · try exact nv c21
     all_goals try (exact absurd (by assumption) (by decide:¬(true=false)))
     all_goals (refine J16 ?_;refine k_dq [0,1,2,3,4,5,6,7,8,9,10,11,12,13,14,15,16,17,18] ?_;refine J17 ?_)
     all_goals (first|refine r_un ?_|(refine r_move ?_)|(refine rcs 49 (λ g49=>?_) (λ g49=>?_)<;>(try (exact absurd (by assumption) (by decide:¬(true=false))))<;>(first|refine r_un ?_|(refine r_move ?_))))
     all_goals (refine r_pick ?_;refine r_move ?_)
     all_goals (first|refine r_un ?_|(refine r_move ?_)|(refine rcs 52 (λ g52=>?_) (λ g52=>?_)<;>(try (exact absurd (by assumption) (by decide:¬(true=false))))<;>(first|refine r_un ?_|(refine r_move ?_))))
     all_goals (refine J60 ?_;refine J30 ?_;(first|refine r_un ?_|(refine r_ownP (i:=13) (hq:=(o_subN (m:=x.a+1) (n:=1) rf rf (by omega) (by omega))) (h:=?_)));(first|refine r_un ?_|(refine r_ownQ (i:=14) (hq:=(o_indexR (m:=x.got.length+1) (k:=x.a+1-1) rf rf sl1 on1 (.own .head) (by omega) (by rw[List.length_append,List.length_cons,List.length_nil];omega))) (h:=?_)));(first|refine r_un ?_|(refine r_ownQ (i:=15) (hq:=(o_loadR (q:=x.a+1-1) rf on1 (.own .head) (by rw[List.length_append,List.length_cons,List.length_nil];omega))) (h:=?_)));refine J56 ?_;refine J7 ?_)
     all_goals
      refine k_rv Tryz.results106 (λ w hw=>?_)
      rw[hv] at hw
      rw[show x.got.length+1=(x.got++[b01 x29]).length by simp] at hw
      exact⟨(x29,x38),by rw[show x.a+1-1=x.got.length by omega,snoc_last,c29];rfl,h29,hw.finH⟩
end
end Go.Proofs.YtpobgmdalcpomaaGreat
