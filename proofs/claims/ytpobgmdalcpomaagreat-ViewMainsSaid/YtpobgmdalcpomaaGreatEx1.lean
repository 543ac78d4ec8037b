/- Executions of the reference: known, load, cas. -/
import Derived.Test.YtpobgmdalcpomaaGreatGRn1
set_option linter.unusedSimpArgs false
set_option linter.unusedVariables false
namespace Go.Ct
def XS.kn(x:XS)(a:Ac):XS:=if x.st=true then x else if x.a<x.got.length then{x with a:=x.a+1} else if x.fr=0 then{x with st:=true,nx:=a} else{x with fr:=x.fr-1}
def XS.old(x:XS):Bool:=!x.st&&decide (x.a<x.got.length)
def XS.now(x:XS):Bool:=!x.st&&!decide (x.a<x.got.length)&&!decide (x.fr=0)
theorem XS.kn_st{x:XS}{a:Ac}(h:x.st=true):x.kn a=x/\x.old=false/\x.now=false:=⟨if_pos h,by simp[XS.old,h],by simp[XS.now,h]⟩
theorem XS.kn_old{x:XS}{a:Ac}(h:x.st=false)(h1:x.a<x.got.length):x.kn a={x with a:=x.a+1}/\x.old=true/\x.now=false:=⟨by unfold XS.kn;rw[if_neg (by rw[h];decide),if_pos h1],by simp[XS.old,h,h1],by simp[XS.now,h1]⟩
theorem XS.kn_no{x:XS}{a:Ac}(h:x.st=false)(h1:¬x.a<x.got.length)(h2:x.fr=0):x.kn a={x with st:=true,nx:=a}/\x.old=false/\x.now=false:=⟨by unfold XS.kn;rw[if_neg (by rw[h];decide),if_neg h1,if_pos h2],by simp[XS.old,h1],by simp[XS.now,h2]⟩
theorem XS.kn_now{x:XS}{a:Ac}(h:x.st=false)(h1:¬x.a<x.got.length)(h2:¬x.fr=0):x.kn a={x with fr:=x.fr-1}/\x.old=false/\x.now=true:=⟨by unfold XS.kn;rw[if_neg (by rw[h];decide),if_neg h1,if_neg h2],by simp[XS.old,h1],by simp[XS.now,h,h1,h2]⟩
end Go.Ct
namespace Go.Proofs.YtpobgmdalcpomaaGreat
open Go Go.RowKit Go.Ct
section
variable{k:Cl}{bx bm:Nat}{x:XS}{dn:Bool}{rs:Rs}{D:List Nat}{A:Fr}{w:World}
theorem known_c(a:Ac)(ok:x.Ok)(hs:SF w D (xH k bx bm x dn rs) A [] (xW x) w):Calls Tryz.prog 133 #[.pointer (some ⟨bx,0,none⟩),.agg ⟨a.cells⟩] w λ e w'=>∃q:Unit,e=.returned (.tuple #[.bool x.old,.bool x.now])/\True/\SF w D (xH k bx bm (x.kn a) dn rs) [] [] (xW (x.kn a)) w':=by
 have h1:=ok.lg
 have h2:=ok.la
 have h3:=ok.fr
 refine enter Tryz.func133 Tryz.ntmps133 rfl rfl (xOpen hs) ?_
 simp only[mkS]
 all_goals (refine J0 ?_;refine j_box (λ x3=>?_);refine J8 ?_;refine k_seq ?_;refine J26 ?_;refine l_nil ?_)
 all_goals
 refine kif (λ c9=>?_) (λ c9=>?_)
 ·try exact nv c9
  all_goals refine J66 ?_
  all_goals
   refine k_rt Tryz.results133 (λ w hw=>?_)
   obtain⟨e1,e2,e3⟩:=XS.kn_st (a:=a) c9
   rw[e1,e2,e3]
   exact⟨(),rfl,trivial,hw.finH⟩
 ·try exact nv c9
  all_goals (refine J16 ?_;refine k_seq ?_;refine k_dq [0,1,2,3,4,5,6,7,8,9] ?_;refine J42 ?_;refine r_len ?_;refine r_lss ?_;refine r_fin ?_)
  all_goals
   refine kif (λ c19=>?_) (λ c19=>?_)
   ·try exact nv c19
    all_goals (refine J26 ?_;refine j_inc ?_;refine J61 ?_;refine J66 ?_)
    all_goals
    refine k_rt Tryz.results133 (λ w hw=>?_)
    obtain⟨e1,e2,e3⟩:=XS.kn_old (a:=a) c9 (by omega)
    rw[e1,e2,e3]
    exact⟨(),rfl,trivial,hw.finH⟩
   ·try exact nv c19
    all_goals (refine J16 ?_;refine J26 ?_;refine J50 ?_)
    all_goals
    refine kif (λ c31=>?_) (λ c31=>?_)
    ·try exact nv c31
     all_goals (refine k_seq ?_;refine k_dp [(0,[]),(1,[]),(2,[]),(3,[]),(4,[]),(5,[2]),(6,[]),(7,[]),(8,[])] ?_;refine J17 ?_;refine r_load ?_;refine J4 ?_;refine r_store (h:=λ _=>?_);refine J4 ?_;refine r_own0 (i:=8) (hq:=(lSF λ _=>o_storePart (off:=36) (vs:=a.cells) rf atT rf rfl ag1 (Nat.le_of_ble_eq_true rfl) rf se2)) (h:=λ _=>?_);refine r_fin ?_;refine J66 ?_)
     all_goals
      refine k_rt Tryz.results133 (λ w hw=>?_)
      obtain⟨e1,e2,e3⟩:=XS.kn_no (a:=a) c9 (by omega) (by omega)
      rw[e1,e2,e3]
      exact⟨(),rfl,trivial,hw.finH⟩
    ·try exact nv c31
     all_goals (refine J83 ?_;refine j_dec ?_;refine J61 ?_;refine J66 ?_)
     all_goals
      refine k_rt Tryz.results133 (λ w hw=>?_)
      obtain⟨e1,e2,e3⟩:=XS.kn_now (a:=a) c9 (by omega) (by omega)
      rw[e1,e2,e3]
      exact⟨(),rfl,trivial,hw.finH⟩
theorem known_st(a:Ac)(ok:x.Ok)(h:x.st=true)(hs:SF w D (xH k bx bm x dn rs) A [] (xW x) w):Calls Tryz.prog 133 #[.pointer (some ⟨bx,0,none⟩),.agg ⟨a.cells⟩] w λ e w'=>∃q:Unit,e=.returned (.tuple #[.bool false,.bool false])/\True/\SF w D (xH k bx bm x dn rs) [] [] (xW x) w':=by
 obtain⟨e1,e2,e3⟩:=XS.kn_st (a:=a) h
 have:=known_c (k:=k) (bx:=bx) (bm:=bm) (dn:=dn) (rs:=rs) (D:=D) (A:=A) (w:=w) a ok hs
 rw[e1,e2,e3] at this
 exact this
theorem known_old(a:Ac)(ok:x.Ok)(h:x.st=false)(h1:x.a<x.got.length)(hs:SF w D (xH k bx bm x dn rs) A [] (xW x) w):Calls Tryz.prog 133 #[.pointer (some ⟨bx,0,none⟩),.agg ⟨a.cells⟩] w λ e w'=>∃q:Unit,e=.returned (.tuple #[.bool true,.bool false])/\True/\SF w D (xH k bx bm {x with a:=x.a+1} dn rs) [] [] (xW {x with a:=x.a+1}) w':=by
 obtain⟨e1,e2,e3⟩:=XS.kn_old (a:=a) h h1
 have:=known_c (k:=k) (bx:=bx) (bm:=bm) (dn:=dn) (rs:=rs) (D:=D) (A:=A) (w:=w) a ok hs
 rw[e1,e2,e3] at this
 exact this
theorem known_no(a:Ac)(ok:x.Ok)(h:x.st=false)(h1:¬x.a<x.got.length)(h2:x.fr=0)(hs:SF w D (xH k bx bm x dn rs) A [] (xW x) w):Calls Tryz.prog 133 #[.pointer (some ⟨bx,0,none⟩),.agg ⟨a.cells⟩] w λ e w'=>∃q:Unit,e=.returned (.tuple #[.bool false,.bool false])/\True/\SF w D (xH k bx bm {x with st:=true,nx:=a} dn rs) [] [] (xW {x with st:=true,nx:=a}) w':=by
 obtain⟨e1,e2,e3⟩:=XS.kn_no (a:=a) h h1 h2
 have:=known_c (k:=k) (bx:=bx) (bm:=bm) (dn:=dn) (rs:=rs) (D:=D) (A:=A) (w:=w) a ok hs
 rw[e1,e2,e3] at this
 exact this
theorem known_now(a:Ac)(ok:x.Ok)(h:x.st=false)(h1:¬x.a<x.got.length)(h2:¬x.fr=0)(hs:SF w D (xH k bx bm x dn rs) A [] (xW x) w):Calls Tryz.prog 133 #[.pointer (some ⟨bx,0,none⟩),.agg ⟨a.cells⟩] w λ e w'=>∃q:Unit,e=.returned (.tuple #[.bool false,.bool true])/\True/\SF w D (xH k bx bm {x with fr:=x.fr-1} dn rs) [] [] (xW {x with fr:=x.fr-1}) w':=by
 obtain⟨e1,e2,e3⟩:=XS.kn_now (a:=a) h h1 h2
 have:=known_c (k:=k) (bx:=bx) (bm:=bm) (dn:=dn) (rs:=rs) (D:=D) (A:=A) (w:=w) a ok hs
 rw[e1,e2,e3] at this
 exact this
theorem load_st(c:Int)(ok:x.Ok)(h:x.st=true)(hs:SF w D (xH k bx bm x dn rs) A [] (xW x) w):Calls Tryz.prog 104 #[.pointer (some ⟨bx,0,none⟩),.int .i64 c] w λ e w'=>∃q:Unit,e=.returned (.int .i64 0)/\True/\SF w D (xH k bx bm x dn rs) [] [] (xW x) w':=by
 refine enter Tryz.func104 Tryz.ntmps104 rfl rfl (xOpen2 hs) ?_
 simp only[mkS]
 all_goals (refine J10 ?_;refine J11 ?_;refine j_build ?_;(refine j_own (cM (hs:=xH k bx bm x dn rs) (os:=xW x) (hc:=λ w hs=>known_st ⟨1,c,0,0⟩ ok h hs)) (λ x11=>?_);try (refine l_fact (λ h11=>?_)));refine J82 ?_;refine J8 ?_;refine J32 ?_;refine l_nil ?_)
 all_goals
 refine kif (λ c14=>?_) (λ c14=>?_)
 ·try exact nv c14
  all_goals try (exact absurd (by assumption) (by decide:¬(true=false)))
  all_goals (refine k_dp [(0,[]),(1,[]),(2,[]),(3,[]),(4,[]),(5,[]),(6,[]),(7,[]),(8,[]),(9,[]),(10,[]),(14,[]),(15,[]),(16,[]),(17,[]),(18,[]),(11,[5,17]),(12,[5,17]),(13,[17]),(19,[]),(20,[]),(21,[]),(22,[]),(23,[]),(24,[])] ?_;refine J17 ?_;refine J42 ?_;refine J67 ?_;refine r_inc ?_;((refine r_own (i:=11) (hq:=(NO)) (h:=λ x26=>?_);try (refine r_fact (λ h26=>?_))));refine r_buildSlice (h:=λ x27=>?_);((refine r_append (h:=λ x28=>?_);try (refine r_fact (λ h28=>?_))));refine J4 ?_;refine r_store (h:=λ _=>?_);refine J88 ?_;refine J32 ?_;refine J59 ?_)
  all_goals (first|refine j_un ?_|(refine j_yes ?_;refine j_move ?_)|(refine lcs 40 (λ g40=>?_) (λ g40=>?_)<;>(try (exact absurd (by assumption) (by decide:¬(true=false))))<;>(first|refine j_un ?_|(refine j_yes ?_;refine j_move ?_))))
  all_goals (refine J31 ?_;refine l_nil ?_)
  all_goals
   refine kif (λ c43=>?_) (λ c43=>?_)
   ·try exact nv c43
    all_goals try (exact absurd (by assumption) (by decide:¬(true=false)))
    all_goals refine J10 ?_
    all_goals
    refine k_rv Tryz.results104 (λ w hw=>?_)
    exact⟨(),rfl,trivial,hw.finH⟩
   ·try exact nv c43
    all_goals try (exact absurd (by assumption) (by decide:¬(true=false)))
    all_goals (refine J16 ?_;refine k_dq [0,1,2,3,4,5,6,7,8,9,10,11] ?_;refine J42 ?_;refine r_dec ?_;refine J48 ?_;refine J7 ?_)
    all_goals
    refine k_rv Tryz.results104 (λ w hw=>?_)
    exact⟨(),rfl,trivial,hw.finH⟩
 ·try exact nv c14
  all_goals try (exact absurd (by assumption) (by decide:¬(true=false)))
  all_goals (refine J16 ?_;refine J2 ?_;refine J59 ?_)
  all_goals (first|refine j_un ?_|(refine j_yes ?_;refine j_move ?_)|(refine lcs 40 (λ g40=>?_) (λ g40=>?_)<;>(try (exact absurd (by assumption) (by decide:¬(true=false))))<;>(first|refine j_un ?_|(refine j_yes ?_;refine j_move ?_))))
  all_goals (refine J31 ?_;refine l_nil ?_)
  all_goals
   refine kif (λ c43=>?_) (λ c43=>?_)
   ·try exact nv c43
    all_goals try (exact absurd (by assumption) (by decide:¬(true=false)))
    all_goals refine J10 ?_
    all_goals
    refine k_rv Tryz.results104 (λ w hw=>?_)
    exact⟨(),rfl,trivial,hw.finH⟩
   ·try exact nv c43
    all_goals try (exact absurd (by assumption) (by decide:¬(true=false)))
    all_goals (refine J16 ?_;refine k_dq [0,1,2,3,4,5,6,7,8,9,10,11] ?_;refine J42 ?_;refine r_dec ?_;refine J48 ?_;refine J7 ?_)
    all_goals
    refine k_rv Tryz.results104 (λ w hw=>?_)
    exact⟨(),rfl,trivial,hw.finH⟩
theorem load_no(c:Int)(ok:x.Ok)(h:x.st=false)(h1:¬x.a<x.got.length)(h2:x.fr=0)(hs:SF w D (xH k bx bm x dn rs) A [] (xW x) w):Calls Tryz.prog 104 #[.pointer (some ⟨bx,0,none⟩),.int .i64 c] w λ e w'=>∃q:Unit,e=.returned (.int .i64 0)/\True/\SF w D (xH k bx bm {x with st:=true,nx:=⟨1,c,0,0⟩} dn rs) [] [] (xW {x with st:=true,nx:=⟨1,c,0,0⟩}) w':=by
 refine enter Tryz.func104 Tryz.ntmps104 rfl rfl (xOpen2 hs) ?_
 simp only[mkS]
 all_goals (refine J10 ?_;refine J11 ?_;refine j_build ?_;(refine j_own (cM (hs:=xH k bx bm x dn rs) (os:=xW x) (hc:=λ w hs=>known_no ⟨1,c,0,0⟩ ok h h1 h2 hs)) (λ x11=>?_);try (refine l_fact (λ h11=>?_)));refine J82 ?_;refine J8 ?_;refine J32 ?_;refine l_nil ?_)
 all_goals
 refine kif (λ c14=>?_) (λ c14=>?_)
 ·try exact nv c14
  all_goals try (exact absurd (by assumption) (by decide:¬(true=false)))
  all_goals (refine k_dp [(0,[]),(1,[]),(2,[]),(3,[]),(4,[]),(5,[]),(6,[]),(7,[]),(8,[]),(9,[]),(10,[]),(14,[]),(15,[]),(16,[]),(17,[]),(18,[]),(11,[5,17]),(12,[5,17]),(13,[17]),(19,[]),(20,[]),(21,[]),(22,[]),(23,[]),(24,[])] ?_;refine J17 ?_;refine J42 ?_;refine J67 ?_;refine r_inc ?_;((refine r_own (i:=11) (hq:=(NO)) (h:=λ x26=>?_);try (refine r_fact (λ h26=>?_))));refine r_buildSlice (h:=λ x27=>?_);((refine r_append (h:=λ x28=>?_);try (refine r_fact (λ h28=>?_))));refine J4 ?_;refine r_store (h:=λ _=>?_);refine J88 ?_;refine J32 ?_;refine J59 ?_)
  all_goals (first|refine j_un ?_|(refine j_yes ?_;refine j_move ?_)|(refine lcs 40 (λ g40=>?_) (λ g40=>?_)<;>(try (exact absurd (by assumption) (by decide:¬(true=false))))<;>(first|refine j_un ?_|(refine j_yes ?_;refine j_move ?_))))
  all_goals (refine J31 ?_;refine l_nil ?_)
  all_goals
   refine kif (λ c43=>?_) (λ c43=>?_)
   ·try exact nv c43
    all_goals try (exact absurd (by assumption) (by decide:¬(true=false)))
    all_goals refine J10 ?_
    all_goals
    refine k_rv Tryz.results104 (λ w hw=>?_)
    exact⟨(),rfl,trivial,hw.finH⟩
   ·try exact nv c43
    all_goals try (exact absurd (by assumption) (by decide:¬(true=false)))
    all_goals (refine J16 ?_;refine k_dq [0,1,2,3,4,5,6,7,8,9,10,11] ?_;refine J42 ?_;refine r_dec ?_;refine J48 ?_;refine J7 ?_)
    all_goals
    refine k_rv Tryz.results104 (λ w hw=>?_)
    exact⟨(),rfl,trivial,hw.finH⟩
 ·try exact nv c14
  all_goals try (exact absurd (by assumption) (by decide:¬(true=false)))
  all_goals (refine J16 ?_;refine J2 ?_;refine J59 ?_)
  all_goals (first|refine j_un ?_|(refine j_yes ?_;refine j_move ?_)|(refine lcs 40 (λ g40=>?_) (λ g40=>?_)<;>(try (exact absurd (by assumption) (by decide:¬(true=false))))<;>(first|refine j_un ?_|(refine j_yes ?_;refine j_move ?_))))
  all_goals (refine J31 ?_;refine l_nil ?_)
  all_goals
   refine kif (λ c43=>?_) (λ c43=>?_)
   ·try exact nv c43
    all_goals try (exact absurd (by assumption) (by decide:¬(true=false)))
    all_goals refine J10 ?_
    all_goals
    refine k_rv Tryz.results104 (λ w hw=>?_)
    exact⟨(),rfl,trivial,hw.finH⟩
   ·try exact nv c43
    all_goals try (exact absurd (by assumption) (by decide:¬(true=false)))
    all_goals (refine J16 ?_;refine k_dq [0,1,2,3,4,5,6,7,8,9,10,11] ?_;refine J42 ?_;refine r_dec ?_;refine J48 ?_;refine J7 ?_)
    all_goals
    refine k_rv Tryz.results104 (λ w hw=>?_)
    exact⟨(),rfl,trivial,hw.finH⟩
theorem load_old(c:Int)(ok:x.Ok)(h:x.st=false)(h1:x.a<x.got.length)(hs:SF w D (xH k bx bm x dn rs) A [] (xW x) w):Calls Tryz.prog 104 #[.pointer (some ⟨bx,0,none⟩),.int .i64 c] w λ e w'=>∃q:Unit,e=.returned (.int .i64 (x.got.getD x.a 0))/\True/\SF w D (xH k bx bm {x with a:=x.a+1} dn rs) [] [] (xW {x with a:=x.a+1}) w':=by
 have hg:=ok.lg
 refine enter Tryz.func104 Tryz.ntmps104 rfl rfl (xOpen2 hs) ?_
 simp only[mkS]
 all_goals (refine J10 ?_;refine J11 ?_;refine j_build ?_;(refine j_own (cM (hs:=xH k bx bm x dn rs) (os:=xW x) (hc:=λ w hs=>known_old ⟨1,c,0,0⟩ ok h h1 hs)) (λ x11=>?_);try (refine l_fact (λ h11=>?_)));refine J82 ?_;refine J8 ?_;refine J32 ?_;refine l_nil ?_)
 all_goals
 refine kif (λ c14=>?_) (λ c14=>?_)
 ·try exact nv c14
  all_goals try (exact absurd (by assumption) (by decide:¬(true=false)))
  all_goals (refine k_dp [(0,[]),(1,[]),(2,[]),(3,[]),(4,[]),(5,[]),(6,[]),(7,[]),(8,[]),(9,[]),(10,[]),(14,[]),(15,[]),(16,[]),(17,[]),(18,[]),(11,[5,17]),(12,[5,17]),(13,[17]),(19,[]),(20,[]),(21,[]),(22,[]),(23,[]),(24,[])] ?_;refine J17 ?_;refine J42 ?_;refine J67 ?_;refine r_inc ?_;((refine r_own (i:=11) (hq:=(NO)) (h:=λ x26=>?_);try (refine r_fact (λ h26=>?_))));refine r_buildSlice (h:=λ x27=>?_);((refine r_append (h:=λ x28=>?_);try (refine r_fact (λ h28=>?_))));refine J4 ?_;refine r_store (h:=λ _=>?_);refine J88 ?_;refine J32 ?_;refine J59 ?_)
  all_goals (first|refine j_un ?_|(refine j_yes ?_;refine j_move ?_)|(refine lcs 40 (λ g40=>?_) (λ g40=>?_)<;>(try (exact absurd (by assumption) (by decide:¬(true=false))))<;>(first|refine j_un ?_|(refine j_yes ?_;refine j_move ?_))))
  all_goals (refine J31 ?_;refine l_nil ?_)
  all_goals
   refine kif (λ c43=>?_) (λ c43=>?_)
   ·try exact nv c43
    all_goals try (exact absurd (by assumption) (by decide:¬(true=false)))
    all_goals refine J10 ?_
    all_goals
    refine k_rv Tryz.results104 (λ w hw=>?_)
    exact⟨(),by rw[Nat.add_sub_cancel];rfl,trivial,hw.finH⟩
   ·try exact nv c43
    all_goals try (exact absurd (by assumption) (by decide:¬(true=false)))
    all_goals (refine J16 ?_;refine k_dq [0,1,2,3,4,5,6,7,8,9,10,11] ?_;refine J42 ?_;refine r_ownP (i:=8) (hq:=(o_subN (m:=x.a+1) (n:=1) rf rf (by omega) (by omega))) (h:=?_);refine r_ownQ (i:=9) (hq:=(o_indexR (m:=x.got.length) (k:=x.a+1-1) (lst:=x.got) rf rf sl1 on1 (.own .head) (by omega) (by omega))) (h:=?_);refine r_ownQ (i:=10) (hq:=(o_loadR (q:=x.a+1-1) (lst:=x.got) rf on1 (.own .head) (by omega))) (h:=?_);refine J7 ?_)
    all_goals
    refine k_rv Tryz.results104 (λ w hw=>?_)
    exact⟨(),by rw[Nat.add_sub_cancel];rfl,trivial,hw.finH⟩
 ·try exact nv c14
  all_goals try (exact absurd (by assumption) (by decide:¬(true=false)))
  all_goals (refine J16 ?_;refine J2 ?_;refine J59 ?_)
  all_goals (first|refine j_un ?_|(refine j_yes ?_;refine j_move ?_)|(refine lcs 40 (λ g40=>?_) (λ g40=>?_)<;>(try (exact absurd (by assumption) (by decide:¬(true=false))))<;>(first|refine j_un ?_|(refine j_yes ?_;refine j_move ?_))))
  all_goals (refine J31 ?_;refine l_nil ?_)
  all_goals
   refine kif (λ c43=>?_) (λ c43=>?_)
   ·try exact nv c43
    all_goals try (exact absurd (by assumption) (by decide:¬(true=false)))
    all_goals refine J10 ?_
    all_goals
    refine k_rv Tryz.results104 (λ w hw=>?_)
    exact⟨(),by rw[Nat.add_sub_cancel];rfl,trivial,hw.finH⟩
   ·try exact nv c43
    all_goals try (exact absurd (by assumption) (by decide:¬(true=false)))
    all_goals (refine J16 ?_;refine k_dq [0,1,2,3,4,5,6,7,8,9,10,11] ?_;refine J42 ?_;refine r_ownP (i:=8) (hq:=(o_subN (m:=x.a+1) (n:=1) rf rf (by omega) (by omega))) (h:=?_);refine r_ownQ (i:=9) (hq:=(o_indexR (m:=x.got.length) (k:=x.a+1-1) (lst:=x.got) rf rf sl1 on1 (.own .head) (by omega) (by omega))) (h:=?_);refine r_ownQ (i:=10) (hq:=(o_loadR (q:=x.a+1-1) (lst:=x.got) rf on1 (.own .head) (by omega))) (h:=?_);refine J7 ?_)
    all_goals
    refine k_rv Tryz.results104 (λ w hw=>?_)
    exact⟨(),by rw[Nat.add_sub_cancel];rfl,trivial,hw.finH⟩
theorem load_now(c:Int)(hc:c<=9223372036854775807)(ok:x.Ok)(h:x.st=false)(h1:¬x.a<x.got.length)(h2:¬x.fr=0)(hs:SF w D (xH k bx bm x dn rs) A [] (xW x) w):Calls Tryz.prog 104 #[.pointer (some ⟨bx,0,none⟩),.int .i64 c] w λ e w'=>∃q:Option Addr×Nat,e=.returned (.int .i64 (cellV x.cs c))/\True/\SF w D (xH k bx bm {x with fr:=x.fr-1,acc:=up x.acc,got:=x.got++[cellV x.cs c],pg:=q.1,kg:=q.2,a:=x.a+1} dn rs) [] [] (xW {x with fr:=x.fr-1,acc:=up x.acc,got:=x.got++[cellV x.cs c],pg:=q.1,kg:=q.2,a:=x.a+1}) w':=by
 have hg:=ok.lg
 have ha:=ok.la
 have hlc:=ok.lc
 refine enter Tryz.func104 Tryz.ntmps104 rfl rfl (xOpen2 hs) ?_
 simp only[mkS]
 all_goals (refine J10 ?_;refine J11 ?_;refine j_build ?_;(refine j_own (cM (hs:=xH k bx bm x dn rs) (os:=xW x) (hc:=λ w hs=>known_now ⟨1,c,0,0⟩ ok h h1 h2 hs)) (λ x11=>?_);try (refine l_fact (λ h11=>?_)));refine J82 ?_;refine J8 ?_;refine J32 ?_;refine l_nil ?_)
 all_goals
 refine kif (λ c14=>?_) (λ c14=>?_)
 ·try exact nv c14
  all_goals try (exact absurd (by assumption) (by decide:¬(true=false)))
  all_goals (refine k_dp [(0,[]),(1,[]),(2,[]),(3,[]),(4,[]),(5,[]),(6,[]),(7,[]),(8,[]),(9,[]),(10,[]),(14,[]),(15,[]),(16,[]),(17,[]),(18,[]),(11,[5,17]),(12,[5,17]),(13,[17]),(19,[]),(20,[]),(21,[]),(22,[]),(23,[]),(24,[])] ?_;refine J17 ?_;refine J42 ?_;refine J67 ?_;refine r_ownP (i:=18) (hq:=(o_addN (m:=x.a) (n:=1) rf rf (by omega))) (h:=?_);((refine r_own (i:=11) (hq:=(cM (hc:=λ w hs=>mLoad_c (L:=x.L) (cs:=x.cs) hs c hc (by omega)))) (h:=λ x26=>?_);try (refine r_fact (λ h26=>?_))));refine r_buildSlice (h:=λ x27=>?_);((refine r_own (i:=13) (hq:=(Loud.convOF (o_appR1 (l:=x.got) (v:=cellV x.cs c) (m:=x.got.length) rf rf .head rfl fin er1 sl1 (by omega)) co1)) (h:=λ x28=>?_);try (refine r_fact (λ h28=>?_))));refine J4 ?_;refine r_own0 (i:=21) (hq:=(by first|exact lSF λ _=>o_store rf atT wn rf on1 rf rf se2|exact(lSF λ _=>o_store rf atT wn rf on1 rf se1 se2)|exact(lSF λ _=>o_storeAgg rf atT rf rf ag1 rf se2)|exact(Loud.convO (o_storeR rf rf on1 oaT om) co1)|exact(Loud.convO (o_storeB rf rf on1 oaT om) co1)|exact(Loud.convO (o_storePv rf rf on1 oaT om) co1)|exact(Loud.convO (o_storeP rf rf ag1 oaT om) co1))) (h:=λ _=>?_);refine J4 ?_;refine r_own0 (i:=24) (hq:=(by first|exact lSF λ _=>o_store rf atT wn rf on1 rf rf se2|exact(lSF λ _=>o_store rf atT wn rf on1 rf se1 se2)|exact(lSF λ _=>o_storeAgg rf atT rf rf ag1 rf se2)|exact(Loud.convO (o_storeR rf rf on1 oaT om) co1)|exact(Loud.convO (o_storeB rf rf on1 oaT om) co1)|exact(Loud.convO (o_storePv rf rf on1 oaT om) co1)|exact(Loud.convO (o_storeP rf rf ag1 oaT om) co1))) (h:=λ _=>?_);refine r_fin ?_;refine J32 ?_;refine J59 ?_)
  all_goals (first|refine j_un ?_|(refine j_yes ?_;refine j_move ?_)|(refine lcs 40 (λ g40=>?_) (λ g40=>?_)<;>(try (exact absurd (by assumption) (by decide:¬(true=false))))<;>(first|refine j_un ?_|(refine j_yes ?_;refine j_move ?_))))
  all_goals (refine J31 ?_;refine l_nil ?_)
  all_goals
   refine kif (λ c43=>?_) (λ c43=>?_)
   ·try exact nv c43
    all_goals try (exact absurd (by assumption) (by decide:¬(true=false)))
    all_goals refine J10 ?_
    all_goals
    refine k_rv Tryz.results104 (λ w hw=>?_)
    rw[show x.got.length+1=(x.got++[cellV x.cs c]).length by simp] at hw
    exact⟨x28,by rw[show(x.got++[cellV x.cs c]).getD (x.a+1-1) 0=cellV x.cs c by rw[show x.a+1-1=x.got.length by omega,List.getD_eq_getElem?_getD,List.getElem?_append_right (Nat.le_refl _)];simp];rfl,trivial,hw.finH⟩
   ·try exact nv c43
    all_goals try (exact absurd (by assumption) (by decide:¬(true=false)))
    all_goals (refine J16 ?_;refine k_dq [0,1,2,3,4,5,6,7,8,9,10,11] ?_;refine J42 ?_;refine r_ownP (i:=8) (hq:=(o_subN (m:=x.a+1) (n:=1) rf rf (by omega) (by omega))) (h:=?_);refine r_ownQ (i:=9) (hq:=(o_indexR (m:=x.got.length+1) (k:=x.a+1-1) (lst:=x.got++[cellV x.cs c]) rf rf sl1 on1 (.own .head) (by omega) (by rw[List.length_append,List.length_cons,List.length_nil];omega))) (h:=?_);refine r_ownQ (i:=10) (hq:=(o_loadR (q:=x.a+1-1) (lst:=x.got++[cellV x.cs c]) rf on1 (.own .head) (by rw[List.length_append,List.length_cons,List.length_nil];omega))) (h:=?_);refine J7 ?_)
    all_goals
    refine k_rv Tryz.results104 (λ w hw=>?_)
    rw[show x.got.length+1=(x.got++[cellV x.cs c]).length by simp] at hw
    exact⟨x28,by rw[show(x.got++[cellV x.cs c]).getD (x.a+1-1) 0=cellV x.cs c by rw[show x.a+1-1=x.got.length by omega,List.getD_eq_getElem?_getD,List.getElem?_append_right (Nat.le_refl _)];simp];rfl,trivial,hw.finH⟩
 ·try exact nv c14
  all_goals try (exact absurd (by assumption) (by decide:¬(true=false)))
  all_goals (refine J16 ?_;refine J2 ?_;refine J59 ?_)
  all_goals (first|refine j_un ?_|(refine j_yes ?_;refine j_move ?_)|(refine lcs 40 (λ g40=>?_) (λ g40=>?_)<;>(try (exact absurd (by assumption) (by decide:¬(true=false))))<;>(first|refine j_un ?_|(refine j_yes ?_;refine j_move ?_))))
  all_goals (refine J31 ?_;refine l_nil ?_)
  all_goals
   refine kif (λ c43=>?_) (λ c43=>?_)
   ·try exact nv c43
    all_goals try (exact absurd (by assumption) (by decide:¬(true=false)))
    all_goals refine J10 ?_
    all_goals
    refine k_rv Tryz.results104 (λ w hw=>?_)
    rw[show x.got.length+1=(x.got++[cellV x.cs c]).length by simp] at hw
    exact⟨x28,by rw[show(x.got++[cellV x.cs c]).getD (x.a+1-1) 0=cellV x.cs c by rw[show x.a+1-1=x.got.length by omega,List.getD_eq_getElem?_getD,List.getElem?_append_right (Nat.le_refl _)];simp];rfl,trivial,hw.finH⟩
   ·try exact nv c43
    all_goals try (exact absurd (by assumption) (by decide:¬(true=false)))
    all_goals (refine J16 ?_;refine k_dq [0,1,2,3,4,5,6,7,8,9,10,11] ?_;refine J42 ?_;refine r_ownP (i:=8) (hq:=(o_subN (m:=x.a+1) (n:=1) rf rf (by omega) (by omega))) (h:=?_);refine r_ownQ (i:=9) (hq:=(o_indexR (m:=x.got.length+1) (k:=x.a+1-1) (lst:=x.got++[cellV x.cs c]) rf rf sl1 on1 (.own .head) (by omega) (by rw[List.length_append,List.length_cons,List.length_nil];omega))) (h:=?_);refine r_ownQ (i:=10) (hq:=(o_loadR (q:=x.a+1-1) (lst:=x.got++[cellV x.cs c]) rf on1 (.own .head) (by rw[List.length_append,List.length_cons,List.length_nil];omega))) (h:=?_);refine J7 ?_)
    all_goals
    refine k_rv Tryz.results104 (λ w hw=>?_)
    rw[show x.got.length+1=(x.got++[cellV x.cs c]).length by simp] at hw
    exact⟨x28,by rw[show(x.got++[cellV x.cs c]).getD (x.a+1-1) 0=cellV x.cs c by rw[show x.a+1-1=x.got.length by omega,List.getD_eq_getElem?_getD,List.getElem?_append_right (Nat.le_refl _)];simp];rfl,trivial,hw.finH⟩
end
end Go.Proofs.YtpobgmdalcpomaaGreat
