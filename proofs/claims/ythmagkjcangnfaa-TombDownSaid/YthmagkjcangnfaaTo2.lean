/- Tombs: Grown, Shrunk: both sides; agrees. -/
import Derived.Test.YthmagkjcangnfaaTo1
set_option linter.unusedSimpArgs false
set_option linter.unusedVariables false
namespace Go.Proofs.Ythmagkjcangnfaa
open Go.RowKit Go.Ct
/-- A list node, or none. -/
def grN (o : Option (List Pr)) (h : Int) (x : Option Addr × Nat) : Nd := match o with | some m => { Nd.zero with kind := 6, hash := h, prA := x.1, prN := m.length, prC := x.2 } | none => Nd.zero
def grL (o : Option (List Pr)) : List Pr := o.getD []
/-- A list node, a tomb, or none. -/
def shN (o : Option (List Pr)) (h : Int) (x : Option Addr × Nat) : Nd := match o with | some m => if m.length = 1 then { Nd.zero with kind := 5, hash := h, key := (m.getD 0 (⟨#[]⟩, 0)).1, val := (m.getD 0 (⟨#[]⟩, 0)).2 } else { Nd.zero with kind := 6, hash := h, prA := x.1, prN := m.length, prC := x.2 } | none => Nd.zero
def shL (o : Option (List Pr)) : List Pr := match o with | some m => if m.length = 1 then [] else m | none => []
open Classical in
noncomputable def growO (n : Nd) (xs : List Int) (ys : List Pr) (k : ByteArray) (v : Int) : Option (List Pr) := if LV n xs ys ∧ k.size ≤ 64 then some (putO ys k v) else none
open Classical in
noncomputable def shrO (n : Nd) (xs : List Int) (ys : List Pr) (k : ByteArray) : Option (List Pr) := if LV n xs ys ∧ (findO ys k).isSome = true then some (dropO ys k) else none
def GRes (w : World) (o : Option (List Pr)) (h : Int) (e : Ending) (w' : World) : Prop := ∃ x : Option Addr × Nat, e = .returned (.tuple #[(grN o h x).v, .bool o.isSome]) ∧ (grL o).length ≤ x.2 ∧ SF w [] [] [] [(x.1, prC (grL o))] [] w'
def HRes (w : World) (o : Option (List Pr)) (h : Int) (e : Ending) (w' : World) : Prop := ∃ x : Option Addr × Nat, e = .returned (.tuple #[(shN o h x).v, .bool o.isSome]) ∧ (shL o).length ≤ x.2 ∧ SF w [] [] [] [(x.1, prC (shL o))] [] w'
section
variable {n s : Nd} {xs : List Int} {ys : List Pr} {w : World} {b : Nat}
theorem grown_c (k : ByteArray) (v : Int) (hr : Rep w n xs ys) (hc : ys.length ≤ n.prC) (hy : ys.length ≤ 1000) : Calls Try.prog 72 #[n.v, .string k, .int .u64 v] w (GRes w (growO n xs ys k v) n.hash) := by
  have e2 := hr.prN
  have hp := putO_le ys k v
  refine enter Try.func72 Try.ntmps72 rfl rfl (SF.s1 hr.pr) ?_
  simp only [mkS]
  simp only [Nd.v, Nd.cells, e2]
  all_goals (refine k_seq ?_)
  all_goals refine k_region ?_
  all_goals refine j_box (fun x3 => ?_)
  all_goals refine j_alloc (fun x6 => ?_)
  all_goals refine j_assignL (fun _ => ?_)
  all_goals refine l_nil ?_
  all_goals (refine k_seq ?_)
  all_goals (refine k_seq ?_)
  all_goals refine k_region ?_
  all_goals refine j_load ?_
  all_goals (refine j_own (c0 (V := .bool) (hc := fun w1 hw => by rw [← e2]; exact validList_c (n := n) (hr.keep0 hw.done))) (fun x9 => ?_); try (refine l_fact (fun h9 => ?_)))
  all_goals refine j_not ?_
  all_goals refine j_move ?_
  all_goals (first | refine j_un ?_ | (refine j_yes ?_; refine j_move ?_) | (refine l_case (g := 11) (by exact rfl) (fun g11 => ?_) (fun g11 => ?_) <;> (first | replace g11 := of_decide_eq_true g11 | replace g11 := of_decide_eq_false g11 | skip) <;> (first | refine j_un ?_ | (refine j_yes ?_; refine j_move ?_))))
  all_goals (first | refine j_un ?_ | (refine j_yes ?_; refine j_lenStr ?_) | (refine l_case (g := 11) (by exact rfl) (fun g11 => ?_) (fun g11 => ?_) <;> (first | replace g11 := of_decide_eq_true g11 | replace g11 := of_decide_eq_false g11 | skip) <;> (first | refine j_un ?_ | (refine j_yes ?_; refine j_lenStr ?_))))
  all_goals (first | refine j_un ?_ | (refine j_yes ?_; refine j_gtr ?_) | (refine l_case (g := 11) (by exact rfl) (fun g11 => ?_) (fun g11 => ?_) <;> (first | replace g11 := of_decide_eq_true g11 | replace g11 := of_decide_eq_false g11 | skip) <;> (first | refine j_un ?_ | (refine j_yes ?_; refine j_gtr ?_))))
  all_goals refine j_pick ?_
  all_goals refine l_nil ?_
  all_goals
    refine k_cond (by exact rfl) (fun c15 => ?_) (fun c15 => ?_)
    · try (exact absurd c15 (by decide))
      all_goals (first | replace c15 := of_decide_eq_true c15 | replace c15 := sbeq_t c15 | replace c15 := sbne_t c15 | replace c15 := ibeq_t c15 | replace c15 := ibne_t c15 | replace c15 := ndec_t c15 | replace c15 := not_t c15 | skip)
      all_goals (refine k_seq ?_)
      all_goals refine k_region ?_
      all_goals refine j_build ?_
      all_goals refine j_store (fun _ => ?_)
      all_goals refine j_assignL (fun _ => ?_)
      all_goals refine l_nil ?_
      all_goals
        refine k_retvF Try.results72 (.cell (by exact rfl) (by repeat (first | exact At.head | apply At.tail)) (by exact agg_of rfl) (.tmp (by conv => { lhs; whnf }) .nil)) (fun w hw => ?_)
        rw [show growO n xs ys k v = none from if_neg (by rintro ⟨t1, t2⟩; have := h9.2 t1; clear hw; first | omega | (simp_all; done) | (simp_all; omega))]; exact ⟨(none, 0), rfl, Nat.le_refl _, (hw.fnil none).fin⟩
    · try (exact absurd c15 (by decide))
      all_goals (first | replace c15 := of_decide_eq_false c15 | replace c15 := sbeq_f c15 | replace c15 := sbne_f c15 | replace c15 := ibeq_f c15 | replace c15 := ibne_f c15 | replace c15 := ndec_f c15 | replace c15 := not_f c15 | skip)
      all_goals (refine k_skip ?_)
      all_goals (refine k_seq ?_)
      all_goals refine k_drawF (.one 0 [] (.one 1 [] (.one 2 [] (.one 3 [] (.one 4 [] (.one 5 [] (.one 6 [1] (.one 7 [3] (.one 8 [] (.one 9 [] .nil)))))))))) ?_
      all_goals (refine r_fieldAddr (i := 0) ?_)
      all_goals (refine r_load (i := 1) ?_)
      all_goals (refine r_fieldAddr (i := 2) ?_)
      all_goals (refine r_load (i := 3) ?_)
      all_goals (refine r_move (i := 4) ?_)
      all_goals (refine r_move (i := 5) ?_)
      all_goals ((refine r_own (i := 6) (hq := (cF (hc := fun w1 hw => prPut_c (l := ys) k v (hw.cl (by first | exact .new .head | exact .new (.tail .head) | exact .new (.tail (.tail .head)) | exact .new (.tail (.tail (.tail .head))) | exact .new (.tail (.tail (.tail (.tail .head)))) | exact .new (.tail (.tail (.tail (.tail (.tail .head))))) | exact .new (.tail (.tail (.tail (.tail (.tail (.tail .head)))))) | exact .new (.tail (.tail (.tail (.tail (.tail (.tail (.tail .head))))))) | exact .new (.tail (.tail (.tail (.tail (.tail (.tail (.tail (.tail .head)))))))) | exact .new (.tail (.tail (.tail (.tail (.tail (.tail (.tail (.tail (.tail .head))))))))) | exact .old .head | exact .old (.tail .head) | exact .old (.tail (.tail .head)) | exact .old (.tail (.tail (.tail .head))) | exact .old (.tail (.tail (.tail (.tail .head)))) | exact .old (.tail (.tail (.tail (.tail (.tail .head))))) | exact .own .head | exact .own (.tail .head) | exact .own (.tail (.tail .head)) | exact .own (.tail (.tail (.tail .head))) | exact .own (.tail (.tail (.tail (.tail .head)))) | exact .own (.tail (.tail (.tail (.tail (.tail .head))))) | exact .own (.tail (.tail (.tail (.tail (.tail (.tail .head)))))) | exact .own (.tail (.tail (.tail (.tail (.tail (.tail (.tail .head))))))))) hc (by omega)))) (hfire := (fun _ => by first | (refine FireAll.cons (by first | exact a_load | exact a_un) ?_; exact FireAll.nil) | (refine fireall_fact ?_; refine FireAll.cons (by first | exact a_load | exact a_un) ?_; exact FireAll.nil))) (h := fun x23 => ?_); try (refine r_fact (fun h23 => ?_))))
      all_goals ((refine r_own (i := 7) (hq := (cF (hc := fun w1 hw => list_c (h := n.hash) (hw.cl (by first | exact .new .head | exact .new (.tail .head) | exact .new (.tail (.tail .head)) | exact .new (.tail (.tail (.tail .head))) | exact .new (.tail (.tail (.tail (.tail .head)))) | exact .new (.tail (.tail (.tail (.tail (.tail .head))))) | exact .new (.tail (.tail (.tail (.tail (.tail (.tail .head)))))) | exact .new (.tail (.tail (.tail (.tail (.tail (.tail (.tail .head))))))) | exact .new (.tail (.tail (.tail (.tail (.tail (.tail (.tail (.tail .head)))))))) | exact .new (.tail (.tail (.tail (.tail (.tail (.tail (.tail (.tail (.tail .head))))))))) | exact .old .head | exact .old (.tail .head) | exact .old (.tail (.tail .head)) | exact .old (.tail (.tail (.tail .head))) | exact .old (.tail (.tail (.tail (.tail .head)))) | exact .old (.tail (.tail (.tail (.tail (.tail .head))))) | exact .own .head | exact .own (.tail .head) | exact .own (.tail (.tail .head)) | exact .own (.tail (.tail (.tail .head))) | exact .own (.tail (.tail (.tail (.tail .head)))) | exact .own (.tail (.tail (.tail (.tail (.tail .head))))) | exact .own (.tail (.tail (.tail (.tail (.tail (.tail .head)))))) | exact .own (.tail (.tail (.tail (.tail (.tail (.tail (.tail .head))))))))) (by omega)))) (hfire := (fun _ => by first | (refine FireAll.cons (by first | exact a_load | exact a_un) ?_; exact FireAll.nil) | (refine fireall_fact ?_; refine FireAll.cons (by first | exact a_load | exact a_un) ?_; exact FireAll.nil))) (h := fun x24 => ?_); try (refine r_fact (fun h24 => ?_))))
      all_goals (refine r_store (i := 8) (hfire := (fun _ => .nil)) (h := fun _ => ?_))
      all_goals (refine r_assignL (i := 9) (hfire := (fun _ => .nil)) (h := fun _ => ?_))
      all_goals refine r_fin ?_
      all_goals
        refine k_retvF Try.results72 (.cell (by exact rfl) (by repeat (first | exact At.head | apply At.tail)) (by exact agg_of rfl) (.tmp (by conv => { lhs; whnf }) .nil)) (fun w hw => ?_)
        rw [show growO n xs ys k v = some (putO ys k v) from if_pos ⟨h9.1 (by clear hw; simp_all), by omega⟩]; exact ⟨(x24, (putO ys k v).length), rfl, Nat.le_refl _, hw.fin⟩
theorem refGrown_c (k : ByteArray) (v : Int) (hb : n.bm = (b : Int)) (hb2 : b < 18446744073709551616) (hr : Rep w n xs ys) (hy : ys.length ≤ 1000) : Calls Try.prog 115 #[n.v, .string k, .int .u64 v] w (GRes w (growO n xs ys k v) n.hash) := by
  have e2 := hr.prN
  refine enter Try.func115 Try.ntmps115 rfl rfl (SF.s1 hr.pr) ?_
  simp only [mkS]
  simp only [Nd.v, Nd.cells, e2]
  all_goals (refine k_seq ?_)
  all_goals refine k_region ?_
  all_goals refine j_box (fun x3 => ?_)
  all_goals refine j_alloc (fun x6 => ?_)
  all_goals refine j_assignL (fun _ => ?_)
  all_goals refine l_nil ?_
  all_goals (refine k_seq ?_)
  all_goals (refine k_seq ?_)
  all_goals refine k_region ?_
  all_goals refine j_load ?_
  all_goals (refine j_own (c0 (V := .bool) (hc := fun w1 hw => by rw [← e2]; exact refLst_c (n := n) hb hb2 (hr.keep0 hw.done))) (fun x9 => ?_); try (refine l_fact (fun h9 => ?_)))
  all_goals refine j_not ?_
  all_goals refine j_move ?_
  all_goals (first | refine j_un ?_ | (refine j_yes ?_; refine j_move ?_) | (refine l_case (g := 11) (by exact rfl) (fun g11 => ?_) (fun g11 => ?_) <;> (first | replace g11 := of_decide_eq_true g11 | replace g11 := of_decide_eq_false g11 | skip) <;> (first | refine j_un ?_ | (refine j_yes ?_; refine j_move ?_))))
  all_goals (first | refine j_un ?_ | (refine j_yes ?_; refine j_lenStr ?_) | (refine l_case (g := 11) (by exact rfl) (fun g11 => ?_) (fun g11 => ?_) <;> (first | replace g11 := of_decide_eq_true g11 | replace g11 := of_decide_eq_false g11 | skip) <;> (first | refine j_un ?_ | (refine j_yes ?_; refine j_lenStr ?_))))
  all_goals (first | refine j_un ?_ | (refine j_yes ?_; refine j_gtr ?_) | (refine l_case (g := 11) (by exact rfl) (fun g11 => ?_) (fun g11 => ?_) <;> (first | replace g11 := of_decide_eq_true g11 | replace g11 := of_decide_eq_false g11 | skip) <;> (first | refine j_un ?_ | (refine j_yes ?_; refine j_gtr ?_))))
  all_goals refine j_pick ?_
  all_goals refine l_nil ?_
  all_goals
    refine k_cond (by exact rfl) (fun c15 => ?_) (fun c15 => ?_)
    · try (exact absurd c15 (by decide))
      all_goals (first | replace c15 := of_decide_eq_true c15 | replace c15 := sbeq_t c15 | replace c15 := sbne_t c15 | replace c15 := ibeq_t c15 | replace c15 := ibne_t c15 | replace c15 := ndec_t c15 | replace c15 := not_t c15 | skip)
      all_goals (refine k_seq ?_)
      all_goals refine k_region ?_
      all_goals refine j_build ?_
      all_goals refine j_store (fun _ => ?_)
      all_goals refine j_assignL (fun _ => ?_)
      all_goals refine l_nil ?_
      all_goals
        refine k_retvF Try.results115 (.cell (by exact rfl) (by repeat (first | exact At.head | apply At.tail)) (by exact agg_of rfl) (.tmp (by conv => { lhs; whnf }) .nil)) (fun w hw => ?_)
        rw [show growO n xs ys k v = none from if_neg (by rintro ⟨t1, t2⟩; have := h9.2 t1; clear hw; first | omega | (simp_all; done) | (simp_all; omega))]; exact ⟨(none, 0), rfl, Nat.le_refl _, (hw.fnil none).fin⟩
    · try (exact absurd c15 (by decide))
      all_goals (first | replace c15 := of_decide_eq_false c15 | replace c15 := sbeq_f c15 | replace c15 := sbne_f c15 | replace c15 := ibeq_f c15 | replace c15 := ibne_f c15 | replace c15 := ndec_f c15 | replace c15 := not_f c15 | skip)
      all_goals (refine k_skip ?_)
      all_goals (refine k_seq ?_)
      all_goals refine k_drawF (.one 0 [] (.one 1 [] (.one 2 [] (.one 3 [] (.one 4 [] (.one 5 [] (.one 6 [1] (.one 7 [] (.one 8 [] (.one 9 [] .nil)))))))))) ?_
      all_goals (refine r_fieldAddr (i := 0) ?_)
      all_goals (refine r_load (i := 1) ?_)
      all_goals (refine r_fieldAddr (i := 2) ?_)
      all_goals (refine r_load (i := 3) ?_)
      all_goals (refine r_move (i := 4) ?_)
      all_goals (refine r_move (i := 5) ?_)
      all_goals ((refine r_own (i := 6) (hq := (cF (hc := fun w1 hw => refPut_c (l := ys) k v (hw.cl (by first | exact .new .head | exact .new (.tail .head) | exact .new (.tail (.tail .head)) | exact .new (.tail (.tail (.tail .head))) | exact .new (.tail (.tail (.tail (.tail .head)))) | exact .new (.tail (.tail (.tail (.tail (.tail .head))))) | exact .new (.tail (.tail (.tail (.tail (.tail (.tail .head)))))) | exact .new (.tail (.tail (.tail (.tail (.tail (.tail (.tail .head))))))) | exact .new (.tail (.tail (.tail (.tail (.tail (.tail (.tail (.tail .head)))))))) | exact .new (.tail (.tail (.tail (.tail (.tail (.tail (.tail (.tail (.tail .head))))))))) | exact .old .head | exact .old (.tail .head) | exact .old (.tail (.tail .head)) | exact .old (.tail (.tail (.tail .head))) | exact .old (.tail (.tail (.tail (.tail .head)))) | exact .old (.tail (.tail (.tail (.tail (.tail .head))))) | exact .own .head | exact .own (.tail .head) | exact .own (.tail (.tail .head)) | exact .own (.tail (.tail (.tail .head))) | exact .own (.tail (.tail (.tail (.tail .head)))) | exact .own (.tail (.tail (.tail (.tail (.tail .head))))) | exact .own (.tail (.tail (.tail (.tail (.tail (.tail .head)))))) | exact .own (.tail (.tail (.tail (.tail (.tail (.tail (.tail .head))))))))) (by omega)))) (hfire := (fun _ => by first | (refine FireAll.cons (by first | exact a_load | exact a_un) ?_; exact FireAll.nil) | (refine fireall_fact ?_; refine FireAll.cons (by first | exact a_load | exact a_un) ?_; exact FireAll.nil))) (h := fun x23 => ?_); try (refine r_fact (fun h23 => ?_))))
      all_goals (refine r_build (i := 7) ?_)
      all_goals (refine r_store (i := 8) (hfire := (fun _ => .nil)) (h := fun _ => ?_))
      all_goals (refine r_assignL (i := 9) (hfire := (fun _ => .nil)) (h := fun _ => ?_))
      all_goals refine r_fin ?_
      all_goals
        refine k_retvF Try.results115 (.cell (by exact rfl) (by repeat (first | exact At.head | apply At.tail)) (by exact agg_of rfl) (.tmp (by conv => { lhs; whnf }) .nil)) (fun w hw => ?_)
        rw [show growO n xs ys k v = some (putO ys k v) from if_pos ⟨h9.1 (by clear hw; simp_all), by omega⟩]; exact ⟨x23, rfl, h23, hw.fin⟩
theorem shrunk_c (k : ByteArray) (hr : Rep w n xs ys) (hc : ys.length ≤ n.prC) (hy : ys.length ≤ 1000) : Calls Try.prog 68 #[n.v, .string k] w (HRes w (shrO n xs ys k) n.hash) := by
  have e2 := hr.prN
  have hp := dropO_le ys k
  refine enter Try.func68 Try.ntmps68 rfl rfl (SF.s1 hr.pr) ?_
  simp only [mkS]
  simp only [Nd.v, Nd.cells, e2]
  all_goals (refine k_seq ?_)
  all_goals refine k_region ?_
  all_goals refine j_box (fun x2 => ?_)
  all_goals refine j_alloc (fun x4 => ?_)
  all_goals refine j_assignL (fun _ => ?_)
  all_goals refine l_nil ?_
  all_goals (refine k_seq ?_)
  all_goals (refine k_seq ?_)
  all_goals refine k_region ?_
  all_goals refine j_load ?_
  all_goals (refine j_own (c0 (V := .bool) (hc := fun w1 hw => by rw [← e2]; exact validList_c (n := n) (hr.keep0 hw.done))) (fun x10 => ?_); try (refine l_fact (fun h10 => ?_)))
  all_goals refine j_not ?_
  all_goals refine l_nil ?_
  all_goals
    refine k_cond (by exact rfl) (fun c11 => ?_) (fun c11 => ?_)
    · try (exact absurd c11 (by decide))
      all_goals (first | replace c11 := of_decide_eq_true c11 | replace c11 := sbeq_t c11 | replace c11 := sbne_t c11 | replace c11 := ibeq_t c11 | replace c11 := ibne_t c11 | replace c11 := ndec_t c11 | replace c11 := not_t c11 | skip)
      all_goals (refine k_seq ?_)
      all_goals refine k_region ?_
      all_goals refine j_build ?_
      all_goals refine j_store (fun _ => ?_)
      all_goals refine j_assignL (fun _ => ?_)
      all_goals refine l_nil ?_
      all_goals
        refine k_retvF Try.results68 (.cell (by exact rfl) (by repeat (first | exact At.head | apply At.tail)) (by exact agg_of rfl) (.tmp (by conv => { lhs; whnf }) .nil)) (fun w hw => ?_)
        rw [show shrO n xs ys k = none from if_neg (by rintro ⟨t1, t2⟩; have := h10.2 t1; clear hw; simp_all)]; exact ⟨(none, 0), rfl, Nat.le_refl _, (hw.fnil none).fin⟩
    · try (exact absurd c11 (by decide))
      all_goals (first | replace c11 := of_decide_eq_false c11 | replace c11 := sbeq_f c11 | replace c11 := sbne_f c11 | replace c11 := ibeq_f c11 | replace c11 := ibne_f c11 | replace c11 := ndec_f c11 | replace c11 := not_f c11 | skip)
      all_goals (refine k_skip ?_)
      all_goals (refine k_seq ?_)
      all_goals (refine k_seq ?_)
      all_goals refine k_region ?_
      all_goals refine j_fieldAddr ?_
      all_goals refine j_load ?_
      all_goals refine j_move ?_
      all_goals (refine j_own (cV (hc := fun w1 hw => prFind_c (l := ys) k (hw.cl (by first | exact .new .head | exact .new (.tail .head) | exact .new (.tail (.tail .head)) | exact .new (.tail (.tail (.tail .head))) | exact .new (.tail (.tail (.tail (.tail .head)))) | exact .new (.tail (.tail (.tail (.tail (.tail .head))))) | exact .new (.tail (.tail (.tail (.tail (.tail (.tail .head)))))) | exact .new (.tail (.tail (.tail (.tail (.tail (.tail (.tail .head))))))) | exact .new (.tail (.tail (.tail (.tail (.tail (.tail (.tail (.tail .head)))))))) | exact .new (.tail (.tail (.tail (.tail (.tail (.tail (.tail (.tail (.tail .head))))))))) | exact .old .head | exact .old (.tail .head) | exact .old (.tail (.tail .head)) | exact .old (.tail (.tail (.tail .head))) | exact .old (.tail (.tail (.tail (.tail .head)))) | exact .old (.tail (.tail (.tail (.tail (.tail .head))))) | exact .own .head | exact .own (.tail .head) | exact .own (.tail (.tail .head)) | exact .own (.tail (.tail (.tail .head))) | exact .own (.tail (.tail (.tail (.tail .head)))) | exact .own (.tail (.tail (.tail (.tail (.tail .head))))) | exact .own (.tail (.tail (.tail (.tail (.tail (.tail .head)))))) | exact .own (.tail (.tail (.tail (.tail (.tail (.tail (.tail .head))))))))) (by omega))) (fun x17 => ?_); try (refine l_fact (fun h17 => ?_)))
      all_goals refine j_move ?_
      all_goals refine l_quiet (o_extr (by exact rfl) rfl) rfl ?_
      all_goals refine l_quiet (o_extr (by exact rfl) rfl) rfl ?_
      all_goals refine j_assignL (fun _ => ?_)
      all_goals refine j_assignL (fun _ => ?_)
      all_goals refine l_nil ?_
      all_goals (refine k_seq ?_)
      all_goals refine k_region ?_
      all_goals refine j_move ?_
      all_goals refine j_not ?_
      all_goals refine l_nil ?_
      all_goals
        refine k_cond (by exact rfl) (fun c21 => ?_) (fun c21 => ?_)
        · try (exact absurd c21 (by decide))
          all_goals (first | replace c21 := of_decide_eq_true c21 | replace c21 := sbeq_t c21 | replace c21 := sbne_t c21 | replace c21 := ibeq_t c21 | replace c21 := ibne_t c21 | replace c21 := ndec_t c21 | replace c21 := not_t c21 | skip)
          all_goals (refine k_seq ?_)
          all_goals refine k_region ?_
          all_goals refine j_build ?_
          all_goals refine j_store (fun _ => ?_)
          all_goals refine j_assignL (fun _ => ?_)
          all_goals refine l_nil ?_
          all_goals
            refine k_retvF Try.results68 (.cell (by exact rfl) (by repeat (first | exact At.head | apply At.tail)) (by exact agg_of rfl) (.tmp (by conv => { lhs; whnf }) .nil)) (fun w hw => ?_)
            rw [show shrO n xs ys k = none from if_neg (by rintro ⟨t1, t2⟩; clear hw; simp_all)]; exact ⟨(none, 0), rfl, Nat.le_refl _, (hw.fnil none).fin⟩
        · try (exact absurd c21 (by decide))
          all_goals (first | replace c21 := of_decide_eq_false c21 | replace c21 := sbeq_f c21 | replace c21 := sbne_f c21 | replace c21 := ibeq_f c21 | replace c21 := ibne_f c21 | replace c21 := ndec_f c21 | replace c21 := not_f c21 | skip)
          all_goals (refine k_skip ?_)
          all_goals (refine k_seq ?_)
          all_goals refine k_region ?_
          all_goals refine j_fieldAddr ?_
          all_goals refine j_load ?_
          all_goals refine j_move ?_
          all_goals (refine j_own (cF (hc := fun w1 hw => prDrop_c (l := ys) k (hw.cl (by first | exact .new .head | exact .new (.tail .head) | exact .new (.tail (.tail .head)) | exact .new (.tail (.tail (.tail .head))) | exact .new (.tail (.tail (.tail (.tail .head)))) | exact .new (.tail (.tail (.tail (.tail (.tail .head))))) | exact .new (.tail (.tail (.tail (.tail (.tail (.tail .head)))))) | exact .new (.tail (.tail (.tail (.tail (.tail (.tail (.tail .head))))))) | exact .new (.tail (.tail (.tail (.tail (.tail (.tail (.tail (.tail .head)))))))) | exact .new (.tail (.tail (.tail (.tail (.tail (.tail (.tail (.tail (.tail .head))))))))) | exact .old .head | exact .old (.tail .head) | exact .old (.tail (.tail .head)) | exact .old (.tail (.tail (.tail .head))) | exact .old (.tail (.tail (.tail (.tail .head)))) | exact .old (.tail (.tail (.tail (.tail (.tail .head))))) | exact .own .head | exact .own (.tail .head) | exact .own (.tail (.tail .head)) | exact .own (.tail (.tail (.tail .head))) | exact .own (.tail (.tail (.tail (.tail .head)))) | exact .own (.tail (.tail (.tail (.tail (.tail .head))))) | exact .own (.tail (.tail (.tail (.tail (.tail (.tail .head)))))) | exact .own (.tail (.tail (.tail (.tail (.tail (.tail (.tail .head))))))))) hc (by omega))) (fun x26 => ?_); try (refine l_fact (fun h26 => ?_)))
          all_goals refine j_assignL (fun _ => ?_)
          all_goals refine l_nil ?_
          all_goals (refine k_seq ?_)
          all_goals (refine k_seq ?_)
          all_goals refine k_region ?_
          all_goals refine j_move ?_
          all_goals refine j_len ?_
          all_goals refine j_eql ?_
          all_goals refine l_nil ?_
          all_goals
            refine k_cond (by exact rfl) (fun c29 => ?_) (fun c29 => ?_)
            · try (exact absurd c29 (by decide))
              all_goals (first | replace c29 := of_decide_eq_true c29 | replace c29 := sbeq_t c29 | replace c29 := sbne_t c29 | replace c29 := ibeq_t c29 | replace c29 := ibne_t c29 | replace c29 := ndec_t c29 | replace c29 := not_t c29 | skip)
              all_goals (refine k_seq ?_)
              all_goals refine k_drawF (.one 0 [] (.one 1 [] (.one 2 [] (.one 3 [] (.one 4 [] (.one 5 [] (.one 6 [] (.one 7 [] (.one 8 [] (.one 9 [] (.one 10 [3, 7] (.one 11 [] (.one 12 [] .nil))))))))))))) ?_
              all_goals (refine r_fieldAddr (i := 0) ?_)
              all_goals (refine r_load (i := 1) ?_)
              all_goals (refine r_move (i := 2) ?_)
              all_goals (refine r_ownQ (i := 3) (hq := (o_indexP (k := 0) (by exact rfl) (by exact rfl) (by exact sl_of rfl) (by exact agg_of rfl) (by first | exact .new .head | exact .new (.tail .head) | exact .new (.tail (.tail .head)) | exact .new (.tail (.tail (.tail .head))) | exact .new (.tail (.tail (.tail (.tail .head)))) | exact .new (.tail (.tail (.tail (.tail (.tail .head))))) | exact .new (.tail (.tail (.tail (.tail (.tail (.tail .head)))))) | exact .new (.tail (.tail (.tail (.tail (.tail (.tail (.tail .head))))))) | exact .new (.tail (.tail (.tail (.tail (.tail (.tail (.tail (.tail .head)))))))) | exact .new (.tail (.tail (.tail (.tail (.tail (.tail (.tail (.tail (.tail .head))))))))) | exact .old .head | exact .old (.tail .head) | exact .old (.tail (.tail .head)) | exact .old (.tail (.tail (.tail .head))) | exact .old (.tail (.tail (.tail (.tail .head)))) | exact .old (.tail (.tail (.tail (.tail (.tail .head))))) | exact .own .head | exact .own (.tail .head) | exact .own (.tail (.tail .head)) | exact .own (.tail (.tail (.tail .head))) | exact .own (.tail (.tail (.tail (.tail .head)))) | exact .own (.tail (.tail (.tail (.tail (.tail .head))))) | exact .own (.tail (.tail (.tail (.tail (.tail (.tail .head)))))) | exact .own (.tail (.tail (.tail (.tail (.tail (.tail (.tail .head)))))))) (by omega) (by omega))) (h := ?_))
              all_goals (refine r_fieldAddr (i := 4) ?_)
              all_goals (refine r_load (i := 5) ?_)
              all_goals (refine r_move (i := 6) ?_)
              all_goals (refine r_ownQ (i := 7) (hq := (o_indexP (k := 0) (by exact rfl) (by exact rfl) (by exact sl_of rfl) (by exact agg_of rfl) (by first | exact .new .head | exact .new (.tail .head) | exact .new (.tail (.tail .head)) | exact .new (.tail (.tail (.tail .head))) | exact .new (.tail (.tail (.tail (.tail .head)))) | exact .new (.tail (.tail (.tail (.tail (.tail .head))))) | exact .new (.tail (.tail (.tail (.tail (.tail (.tail .head)))))) | exact .new (.tail (.tail (.tail (.tail (.tail (.tail (.tail .head))))))) | exact .new (.tail (.tail (.tail (.tail (.tail (.tail (.tail (.tail .head)))))))) | exact .new (.tail (.tail (.tail (.tail (.tail (.tail (.tail (.tail (.tail .head))))))))) | exact .old .head | exact .old (.tail .head) | exact .old (.tail (.tail .head)) | exact .old (.tail (.tail (.tail .head))) | exact .old (.tail (.tail (.tail (.tail .head)))) | exact .old (.tail (.tail (.tail (.tail (.tail .head))))) | exact .own .head | exact .own (.tail .head) | exact .own (.tail (.tail .head)) | exact .own (.tail (.tail (.tail .head))) | exact .own (.tail (.tail (.tail (.tail .head)))) | exact .own (.tail (.tail (.tail (.tail (.tail .head))))) | exact .own (.tail (.tail (.tail (.tail (.tail (.tail .head)))))) | exact .own (.tail (.tail (.tail (.tail (.tail (.tail (.tail .head)))))))) (by omega) (by omega))) (h := ?_))
              all_goals (refine r_fieldAddr (i := 8) ?_)
              all_goals (refine r_ownQ (i := 9) (hq := (o_loadPv (q := 0) (lst := dropO ys k) (by exact rfl) (by exact one_of rfl) (by first | exact .new .head | exact .new (.tail .head) | exact .new (.tail (.tail .head)) | exact .new (.tail (.tail (.tail .head))) | exact .new (.tail (.tail (.tail (.tail .head)))) | exact .new (.tail (.tail (.tail (.tail (.tail .head))))) | exact .new (.tail (.tail (.tail (.tail (.tail (.tail .head)))))) | exact .new (.tail (.tail (.tail (.tail (.tail (.tail (.tail .head))))))) | exact .new (.tail (.tail (.tail (.tail (.tail (.tail (.tail (.tail .head)))))))) | exact .new (.tail (.tail (.tail (.tail (.tail (.tail (.tail (.tail (.tail .head))))))))) | exact .old .head | exact .old (.tail .head) | exact .old (.tail (.tail .head)) | exact .old (.tail (.tail (.tail .head))) | exact .old (.tail (.tail (.tail (.tail .head)))) | exact .old (.tail (.tail (.tail (.tail (.tail .head))))) | exact .own .head | exact .own (.tail .head) | exact .own (.tail (.tail .head)) | exact .own (.tail (.tail (.tail .head))) | exact .own (.tail (.tail (.tail (.tail .head)))) | exact .own (.tail (.tail (.tail (.tail (.tail .head))))) | exact .own (.tail (.tail (.tail (.tail (.tail (.tail .head)))))) | exact .own (.tail (.tail (.tail (.tail (.tail (.tail (.tail .head)))))))) (by omega))) (h := ?_))
              all_goals ((refine r_own (i := 10) (hq := (cV (hc := fun w1 hw => tomb_c n.hash ((dropO ys k).getD 0 (⟨#[]⟩, 0)).1 ((dropO ys k).getD 0 (⟨#[]⟩, 0)).2 w1))) (hfire := (fun _ => by first | (refine FireAll.cons (by first | exact a_own (hq := o_indexP (k := 0) (by exact rfl) (by exact rfl) (by exact sl_of rfl) (by exact agg_of rfl) (by first | exact .new .head | exact .new (.tail .head) | exact .new (.tail (.tail .head)) | exact .new (.tail (.tail (.tail .head))) | exact .new (.tail (.tail (.tail (.tail .head)))) | exact .new (.tail (.tail (.tail (.tail (.tail .head))))) | exact .new (.tail (.tail (.tail (.tail (.tail (.tail .head)))))) | exact .new (.tail (.tail (.tail (.tail (.tail (.tail (.tail .head))))))) | exact .new (.tail (.tail (.tail (.tail (.tail (.tail (.tail (.tail .head)))))))) | exact .new (.tail (.tail (.tail (.tail (.tail (.tail (.tail (.tail (.tail .head))))))))) | exact .old .head | exact .old (.tail .head) | exact .old (.tail (.tail .head)) | exact .old (.tail (.tail (.tail .head))) | exact .old (.tail (.tail (.tail (.tail .head)))) | exact .old (.tail (.tail (.tail (.tail (.tail .head))))) | exact .own .head | exact .own (.tail .head) | exact .own (.tail (.tail .head)) | exact .own (.tail (.tail (.tail .head))) | exact .own (.tail (.tail (.tail (.tail .head)))) | exact .own (.tail (.tail (.tail (.tail (.tail .head))))) | exact .own (.tail (.tail (.tail (.tail (.tail (.tail .head)))))) | exact .own (.tail (.tail (.tail (.tail (.tail (.tail (.tail .head)))))))) (by omega) (by omega)) | exact a_un) ?_; refine FireAll.cons (by first | exact a_own (hq := o_indexP (k := 0) (by exact rfl) (by exact rfl) (by exact sl_of rfl) (by exact agg_of rfl) (by first | exact .new .head | exact .new (.tail .head) | exact .new (.tail (.tail .head)) | exact .new (.tail (.tail (.tail .head))) | exact .new (.tail (.tail (.tail (.tail .head)))) | exact .new (.tail (.tail (.tail (.tail (.tail .head))))) | exact .new (.tail (.tail (.tail (.tail (.tail (.tail .head)))))) | exact .new (.tail (.tail (.tail (.tail (.tail (.tail (.tail .head))))))) | exact .new (.tail (.tail (.tail (.tail (.tail (.tail (.tail (.tail .head)))))))) | exact .new (.tail (.tail (.tail (.tail (.tail (.tail (.tail (.tail (.tail .head))))))))) | exact .old .head | exact .old (.tail .head) | exact .old (.tail (.tail .head)) | exact .old (.tail (.tail (.tail .head))) | exact .old (.tail (.tail (.tail (.tail .head)))) | exact .old (.tail (.tail (.tail (.tail (.tail .head))))) | exact .own .head | exact .own (.tail .head) | exact .own (.tail (.tail .head)) | exact .own (.tail (.tail (.tail .head))) | exact .own (.tail (.tail (.tail (.tail .head)))) | exact .own (.tail (.tail (.tail (.tail (.tail .head))))) | exact .own (.tail (.tail (.tail (.tail (.tail (.tail .head)))))) | exact .own (.tail (.tail (.tail (.tail (.tail (.tail (.tail .head)))))))) (by omega) (by omega)) | exact a_un) ?_; exact FireAll.nil) | (refine fireall_fact ?_; refine FireAll.cons (by first | exact a_own (hq := o_indexP (k := 0) (by exact rfl) (by exact rfl) (by exact sl_of rfl) (by exact agg_of rfl) (by first | exact .new .head | exact .new (.tail .head) | exact .new (.tail (.tail .head)) | exact .new (.tail (.tail (.tail .head))) | exact .new (.tail (.tail (.tail (.tail .head)))) | exact .new (.tail (.tail (.tail (.tail (.tail .head))))) | exact .new (.tail (.tail (.tail (.tail (.tail (.tail .head)))))) | exact .new (.tail (.tail (.tail (.tail (.tail (.tail (.tail .head))))))) | exact .new (.tail (.tail (.tail (.tail (.tail (.tail (.tail (.tail .head)))))))) | exact .new (.tail (.tail (.tail (.tail (.tail (.tail (.tail (.tail (.tail .head))))))))) | exact .old .head | exact .old (.tail .head) | exact .old (.tail (.tail .head)) | exact .old (.tail (.tail (.tail .head))) | exact .old (.tail (.tail (.tail (.tail .head)))) | exact .old (.tail (.tail (.tail (.tail (.tail .head))))) | exact .own .head | exact .own (.tail .head) | exact .own (.tail (.tail .head)) | exact .own (.tail (.tail (.tail .head))) | exact .own (.tail (.tail (.tail (.tail .head)))) | exact .own (.tail (.tail (.tail (.tail (.tail .head))))) | exact .own (.tail (.tail (.tail (.tail (.tail (.tail .head)))))) | exact .own (.tail (.tail (.tail (.tail (.tail (.tail (.tail .head)))))))) (by omega) (by omega)) | exact a_un) ?_; refine FireAll.cons (by first | exact a_own (hq := o_indexP (k := 0) (by exact rfl) (by exact rfl) (by exact sl_of rfl) (by exact agg_of rfl) (by first | exact .new .head | exact .new (.tail .head) | exact .new (.tail (.tail .head)) | exact .new (.tail (.tail (.tail .head))) | exact .new (.tail (.tail (.tail (.tail .head)))) | exact .new (.tail (.tail (.tail (.tail (.tail .head))))) | exact .new (.tail (.tail (.tail (.tail (.tail (.tail .head)))))) | exact .new (.tail (.tail (.tail (.tail (.tail (.tail (.tail .head))))))) | exact .new (.tail (.tail (.tail (.tail (.tail (.tail (.tail (.tail .head)))))))) | exact .new (.tail (.tail (.tail (.tail (.tail (.tail (.tail (.tail (.tail .head))))))))) | exact .old .head | exact .old (.tail .head) | exact .old (.tail (.tail .head)) | exact .old (.tail (.tail (.tail .head))) | exact .old (.tail (.tail (.tail (.tail .head)))) | exact .old (.tail (.tail (.tail (.tail (.tail .head))))) | exact .own .head | exact .own (.tail .head) | exact .own (.tail (.tail .head)) | exact .own (.tail (.tail (.tail .head))) | exact .own (.tail (.tail (.tail (.tail .head)))) | exact .own (.tail (.tail (.tail (.tail (.tail .head))))) | exact .own (.tail (.tail (.tail (.tail (.tail (.tail .head)))))) | exact .own (.tail (.tail (.tail (.tail (.tail (.tail (.tail .head)))))))) (by omega) (by omega)) | exact a_un) ?_; exact FireAll.nil))) (h := fun x40 => ?_); try (refine r_fact (fun h40 => ?_))))
              all_goals (refine r_store (i := 11) (hfire := (fun _ => .nil)) (h := fun _ => ?_))
              all_goals (refine r_assignL (i := 12) (hfire := (fun _ => .nil)) (h := fun _ => ?_))
              all_goals refine r_fin ?_
              all_goals
                refine k_retvF Try.results68 (.cell (by exact rfl) (by repeat (first | exact At.head | apply At.tail)) (by exact agg_of rfl) (.tmp (by conv => { lhs; whnf }) .nil)) (fun w hw => ?_)
                have e1 : (dropO ys k).length = 1 := by omega
                rw [show shrO n xs ys k = some (dropO ys k) from if_pos ⟨h10.1 (by clear hw; simp_all), by clear hw; simp_all⟩]; exact ⟨(none, 0), by simp only [shN, if_pos e1]; rfl, by simp only [shL, if_pos e1]; exact Nat.le_refl _, by simp only [shL, if_pos e1]; exact (hw.fnil none).fin⟩
            · try (exact absurd c29 (by decide))
              all_goals (first | replace c29 := of_decide_eq_false c29 | replace c29 := sbeq_f c29 | replace c29 := sbne_f c29 | replace c29 := ibeq_f c29 | replace c29 := ibne_f c29 | replace c29 := ndec_f c29 | replace c29 := not_f c29 | skip)
              all_goals (refine k_skip ?_)
              all_goals (refine k_seq ?_)
              all_goals refine k_region ?_
              all_goals refine j_fieldAddr ?_
              all_goals refine j_load ?_
              all_goals refine j_move ?_
              all_goals (refine j_own (cF (hc := fun w1 hw => list_c (h := n.hash) (hw.cl (by first | exact .new .head | exact .new (.tail .head) | exact .new (.tail (.tail .head)) | exact .new (.tail (.tail (.tail .head))) | exact .new (.tail (.tail (.tail (.tail .head)))) | exact .new (.tail (.tail (.tail (.tail (.tail .head))))) | exact .new (.tail (.tail (.tail (.tail (.tail (.tail .head)))))) | exact .new (.tail (.tail (.tail (.tail (.tail (.tail (.tail .head))))))) | exact .new (.tail (.tail (.tail (.tail (.tail (.tail (.tail (.tail .head)))))))) | exact .new (.tail (.tail (.tail (.tail (.tail (.tail (.tail (.tail (.tail .head))))))))) | exact .old .head | exact .old (.tail .head) | exact .old (.tail (.tail .head)) | exact .old (.tail (.tail (.tail .head))) | exact .old (.tail (.tail (.tail (.tail .head)))) | exact .old (.tail (.tail (.tail (.tail (.tail .head))))) | exact .own .head | exact .own (.tail .head) | exact .own (.tail (.tail .head)) | exact .own (.tail (.tail (.tail .head))) | exact .own (.tail (.tail (.tail (.tail .head)))) | exact .own (.tail (.tail (.tail (.tail (.tail .head))))) | exact .own (.tail (.tail (.tail (.tail (.tail (.tail .head)))))) | exact .own (.tail (.tail (.tail (.tail (.tail (.tail (.tail .head))))))))) (by omega))) (fun x44 => ?_); try (refine l_fact (fun h44 => ?_)))
              all_goals refine j_store (fun _ => ?_)
              all_goals refine j_assignL (fun _ => ?_)
              all_goals refine l_nil ?_
              all_goals
                refine k_retvF Try.results68 (.cell (by exact rfl) (by repeat (first | exact At.head | apply At.tail)) (by exact agg_of rfl) (.tmp (by conv => { lhs; whnf }) .nil)) (fun w hw => ?_)
                have e1 : ¬ (dropO ys k).length = 1 := by omega
                rw [show shrO n xs ys k = some (dropO ys k) from if_pos ⟨h10.1 (by clear hw; simp_all), by clear hw; simp_all⟩]; exact ⟨(x44, (dropO ys k).length), by simp only [shN, if_neg e1]; rfl, by simp only [shL, if_neg e1]; exact Nat.le_refl _, by simp only [shL, if_neg e1]; exact hw.fin⟩
theorem refShrunk_c (k : ByteArray) (hb : n.bm = (b : Int)) (hb2 : b < 18446744073709551616) (hr : Rep w n xs ys) (hy : ys.length ≤ 1000) : Calls Try.prog 116 #[n.v, .string k] w (HRes w (shrO n xs ys k) n.hash) := by
  have e2 := hr.prN
  refine enter Try.func116 Try.ntmps116 rfl rfl (SF.s1 hr.pr) ?_
  simp only [mkS]
  simp only [Nd.v, Nd.cells, e2]
  all_goals (refine k_seq ?_)
  all_goals refine k_region ?_
  all_goals refine j_box (fun x2 => ?_)
  all_goals refine j_alloc (fun x4 => ?_)
  all_goals refine j_assignL (fun _ => ?_)
  all_goals refine l_nil ?_
  all_goals (refine k_seq ?_)
  all_goals (refine k_seq ?_)
  all_goals refine k_region ?_
  all_goals refine j_fieldAddr ?_
  all_goals refine j_load ?_
  all_goals refine j_move ?_
  all_goals (refine j_own (cV (hc := fun w1 hw => refFind_c (l := ys) k (hw.cl (by first | exact .new .head | exact .new (.tail .head) | exact .new (.tail (.tail .head)) | exact .new (.tail (.tail (.tail .head))) | exact .new (.tail (.tail (.tail (.tail .head)))) | exact .new (.tail (.tail (.tail (.tail (.tail .head))))) | exact .new (.tail (.tail (.tail (.tail (.tail (.tail .head)))))) | exact .new (.tail (.tail (.tail (.tail (.tail (.tail (.tail .head))))))) | exact .new (.tail (.tail (.tail (.tail (.tail (.tail (.tail (.tail .head)))))))) | exact .new (.tail (.tail (.tail (.tail (.tail (.tail (.tail (.tail (.tail .head))))))))) | exact .old .head | exact .old (.tail .head) | exact .old (.tail (.tail .head)) | exact .old (.tail (.tail (.tail .head))) | exact .old (.tail (.tail (.tail (.tail .head)))) | exact .old (.tail (.tail (.tail (.tail (.tail .head))))) | exact .own .head | exact .own (.tail .head) | exact .own (.tail (.tail .head)) | exact .own (.tail (.tail (.tail .head))) | exact .own (.tail (.tail (.tail (.tail .head)))) | exact .own (.tail (.tail (.tail (.tail (.tail .head))))) | exact .own (.tail (.tail (.tail (.tail (.tail (.tail .head)))))) | exact .own (.tail (.tail (.tail (.tail (.tail (.tail (.tail .head))))))))) (by omega))) (fun x13 => ?_); try (refine l_fact (fun h13 => ?_)))
  all_goals refine j_move ?_
  all_goals refine l_quiet (o_extr (by exact rfl) rfl) rfl ?_
  all_goals refine l_quiet (o_extr (by exact rfl) rfl) rfl ?_
  all_goals refine j_assignL (fun _ => ?_)
  all_goals refine j_assignL (fun _ => ?_)
  all_goals refine l_nil ?_
  all_goals (refine k_seq ?_)
  all_goals refine k_region ?_
  all_goals refine j_load ?_
  all_goals (refine j_own (c0 (V := .bool) (hc := fun w1 hw => by rw [← e2]; exact refLst_c (n := n) hb hb2 (hr.keep0 hw.done))) (fun x17 => ?_); try (refine l_fact (fun h17 => ?_)))
  all_goals refine j_not ?_
  all_goals refine j_move ?_
  all_goals (first | refine j_un ?_ | (refine j_yes ?_; refine j_move ?_) | (refine l_case (g := 19) (by exact rfl) (fun g19 => ?_) (fun g19 => ?_) <;> (first | replace g19 := of_decide_eq_true g19 | replace g19 := of_decide_eq_false g19 | skip) <;> (first | refine j_un ?_ | (refine j_yes ?_; refine j_move ?_))))
  all_goals (first | refine j_un ?_ | (refine j_yes ?_; refine j_not ?_) | (refine l_case (g := 19) (by exact rfl) (fun g19 => ?_) (fun g19 => ?_) <;> (first | replace g19 := of_decide_eq_true g19 | replace g19 := of_decide_eq_false g19 | skip) <;> (first | refine j_un ?_ | (refine j_yes ?_; refine j_not ?_))))
  all_goals refine j_pick ?_
  all_goals refine l_nil ?_
  all_goals
    refine k_cond (by exact rfl) (fun c22 => ?_) (fun c22 => ?_)
    · try (exact absurd c22 (by decide))
      all_goals (first | replace c22 := of_decide_eq_true c22 | replace c22 := sbeq_t c22 | replace c22 := sbne_t c22 | replace c22 := ibeq_t c22 | replace c22 := ibne_t c22 | replace c22 := ndec_t c22 | replace c22 := not_t c22 | skip)
      all_goals (refine k_seq ?_)
      all_goals refine k_region ?_
      all_goals refine j_build ?_
      all_goals refine j_store (fun _ => ?_)
      all_goals refine j_assignL (fun _ => ?_)
      all_goals refine l_nil ?_
      all_goals
        refine k_retvF Try.results116 (.cell (by exact rfl) (by repeat (first | exact At.head | apply At.tail)) (by exact agg_of rfl) (.tmp (by conv => { lhs; whnf }) .nil)) (fun w hw => ?_)
        rw [show shrO n xs ys k = none from if_neg (by rintro ⟨t1, t2⟩; have := h17.2 t1; clear hw; simp_all)]; exact ⟨(none, 0), rfl, Nat.le_refl _, (hw.fnil none).fin⟩
    · try (exact absurd c22 (by decide))
      all_goals (first | replace c22 := of_decide_eq_false c22 | replace c22 := sbeq_f c22 | replace c22 := sbne_f c22 | replace c22 := ibeq_f c22 | replace c22 := ibne_f c22 | replace c22 := ndec_f c22 | replace c22 := not_f c22 | skip)
      all_goals (refine k_skip ?_)
      all_goals (refine k_seq ?_)
      all_goals refine k_region ?_
      all_goals refine j_fieldAddr ?_
      all_goals refine j_load ?_
      all_goals refine j_move ?_
      all_goals (refine j_own (cF (hc := fun w1 hw => refDrop_c (l := ys) k (hw.cl (by first | exact .new .head | exact .new (.tail .head) | exact .new (.tail (.tail .head)) | exact .new (.tail (.tail (.tail .head))) | exact .new (.tail (.tail (.tail (.tail .head)))) | exact .new (.tail (.tail (.tail (.tail (.tail .head))))) | exact .new (.tail (.tail (.tail (.tail (.tail (.tail .head)))))) | exact .new (.tail (.tail (.tail (.tail (.tail (.tail (.tail .head))))))) | exact .new (.tail (.tail (.tail (.tail (.tail (.tail (.tail (.tail .head)))))))) | exact .new (.tail (.tail (.tail (.tail (.tail (.tail (.tail (.tail (.tail .head))))))))) | exact .old .head | exact .old (.tail .head) | exact .old (.tail (.tail .head)) | exact .old (.tail (.tail (.tail .head))) | exact .old (.tail (.tail (.tail (.tail .head)))) | exact .old (.tail (.tail (.tail (.tail (.tail .head))))) | exact .own .head | exact .own (.tail .head) | exact .own (.tail (.tail .head)) | exact .own (.tail (.tail (.tail .head))) | exact .own (.tail (.tail (.tail (.tail .head)))) | exact .own (.tail (.tail (.tail (.tail (.tail .head))))) | exact .own (.tail (.tail (.tail (.tail (.tail (.tail .head)))))) | exact .own (.tail (.tail (.tail (.tail (.tail (.tail (.tail .head))))))))) (by omega))) (fun x27 => ?_); try (refine l_fact (fun h27 => ?_)))
      all_goals refine j_assignL (fun _ => ?_)
      all_goals refine l_nil ?_
      all_goals (refine k_seq ?_)
      all_goals (refine k_seq ?_)
      all_goals refine k_region ?_
      all_goals refine j_move ?_
      all_goals refine j_len ?_
      all_goals refine j_eql ?_
      all_goals refine l_nil ?_
      all_goals
        refine k_cond (by exact rfl) (fun c30 => ?_) (fun c30 => ?_)
        · try (exact absurd c30 (by decide))
          all_goals (first | replace c30 := of_decide_eq_true c30 | replace c30 := sbeq_t c30 | replace c30 := sbne_t c30 | replace c30 := ibeq_t c30 | replace c30 := ibne_t c30 | replace c30 := ndec_t c30 | replace c30 := not_t c30 | skip)
          all_goals (refine k_seq ?_)
          all_goals refine k_drawF (.one 0 [] (.one 1 [] (.one 2 [] (.one 3 [] (.one 4 [] (.one 5 [] (.one 6 [] (.one 7 [] (.one 8 [] (.one 9 [] (.one 10 [] (.one 11 [] (.one 12 [] .nil))))))))))))) ?_
          all_goals (refine r_fieldAddr (i := 0) ?_)
          all_goals (refine r_load (i := 1) ?_)
          all_goals (refine r_move (i := 2) ?_)
          all_goals (refine r_ownQ (i := 3) (hq := (o_indexP (k := 0) (by exact rfl) (by exact rfl) (by exact sl_of rfl) (by exact agg_of rfl) (by first | exact .new .head | exact .new (.tail .head) | exact .new (.tail (.tail .head)) | exact .new (.tail (.tail (.tail .head))) | exact .new (.tail (.tail (.tail (.tail .head)))) | exact .new (.tail (.tail (.tail (.tail (.tail .head))))) | exact .new (.tail (.tail (.tail (.tail (.tail (.tail .head)))))) | exact .new (.tail (.tail (.tail (.tail (.tail (.tail (.tail .head))))))) | exact .new (.tail (.tail (.tail (.tail (.tail (.tail (.tail (.tail .head)))))))) | exact .new (.tail (.tail (.tail (.tail (.tail (.tail (.tail (.tail (.tail .head))))))))) | exact .old .head | exact .old (.tail .head) | exact .old (.tail (.tail .head)) | exact .old (.tail (.tail (.tail .head))) | exact .old (.tail (.tail (.tail (.tail .head)))) | exact .old (.tail (.tail (.tail (.tail (.tail .head))))) | exact .own .head | exact .own (.tail .head) | exact .own (.tail (.tail .head)) | exact .own (.tail (.tail (.tail .head))) | exact .own (.tail (.tail (.tail (.tail .head)))) | exact .own (.tail (.tail (.tail (.tail (.tail .head))))) | exact .own (.tail (.tail (.tail (.tail (.tail (.tail .head)))))) | exact .own (.tail (.tail (.tail (.tail (.tail (.tail (.tail .head)))))))) (by omega) (by omega))) (h := ?_))
          all_goals (refine r_fieldAddr (i := 4) ?_)
          all_goals (refine r_load (i := 5) ?_)
          all_goals (refine r_move (i := 6) ?_)
          all_goals (refine r_ownQ (i := 7) (hq := (o_indexP (k := 0) (by exact rfl) (by exact rfl) (by exact sl_of rfl) (by exact agg_of rfl) (by first | exact .new .head | exact .new (.tail .head) | exact .new (.tail (.tail .head)) | exact .new (.tail (.tail (.tail .head))) | exact .new (.tail (.tail (.tail (.tail .head)))) | exact .new (.tail (.tail (.tail (.tail (.tail .head))))) | exact .new (.tail (.tail (.tail (.tail (.tail (.tail .head)))))) | exact .new (.tail (.tail (.tail (.tail (.tail (.tail (.tail .head))))))) | exact .new (.tail (.tail (.tail (.tail (.tail (.tail (.tail (.tail .head)))))))) | exact .new (.tail (.tail (.tail (.tail (.tail (.tail (.tail (.tail (.tail .head))))))))) | exact .old .head | exact .old (.tail .head) | exact .old (.tail (.tail .head)) | exact .old (.tail (.tail (.tail .head))) | exact .old (.tail (.tail (.tail (.tail .head)))) | exact .old (.tail (.tail (.tail (.tail (.tail .head))))) | exact .own .head | exact .own (.tail .head) | exact .own (.tail (.tail .head)) | exact .own (.tail (.tail (.tail .head))) | exact .own (.tail (.tail (.tail (.tail .head)))) | exact .own (.tail (.tail (.tail (.tail (.tail .head))))) | exact .own (.tail (.tail (.tail (.tail (.tail (.tail .head)))))) | exact .own (.tail (.tail (.tail (.tail (.tail (.tail (.tail .head)))))))) (by omega) (by omega))) (h := ?_))
          all_goals (refine r_fieldAddr (i := 8) ?_)
          all_goals (refine r_ownQ (i := 9) (hq := (o_loadPv (q := 0) (lst := dropO ys k) (by exact rfl) (by exact one_of rfl) (by first | exact .new .head | exact .new (.tail .head) | exact .new (.tail (.tail .head)) | exact .new (.tail (.tail (.tail .head))) | exact .new (.tail (.tail (.tail (.tail .head)))) | exact .new (.tail (.tail (.tail (.tail (.tail .head))))) | exact .new (.tail (.tail (.tail (.tail (.tail (.tail .head)))))) | exact .new (.tail (.tail (.tail (.tail (.tail (.tail (.tail .head))))))) | exact .new (.tail (.tail (.tail (.tail (.tail (.tail (.tail (.tail .head)))))))) | exact .new (.tail (.tail (.tail (.tail (.tail (.tail (.tail (.tail (.tail .head))))))))) | exact .old .head | exact .old (.tail .head) | exact .old (.tail (.tail .head)) | exact .old (.tail (.tail (.tail .head))) | exact .old (.tail (.tail (.tail (.tail .head)))) | exact .old (.tail (.tail (.tail (.tail (.tail .head))))) | exact .own .head | exact .own (.tail .head) | exact .own (.tail (.tail .head)) | exact .own (.tail (.tail (.tail .head))) | exact .own (.tail (.tail (.tail (.tail .head)))) | exact .own (.tail (.tail (.tail (.tail (.tail .head))))) | exact .own (.tail (.tail (.tail (.tail (.tail (.tail .head)))))) | exact .own (.tail (.tail (.tail (.tail (.tail (.tail (.tail .head)))))))) (by omega))) (h := ?_))
          all_goals (refine r_build (i := 10) ?_)
          all_goals (refine r_store (i := 11) (hfire := (fun _ => .nil)) (h := fun _ => ?_))
          all_goals (refine r_assignL (i := 12) (hfire := (fun _ => .nil)) (h := fun _ => ?_))
          all_goals refine r_fin ?_
          all_goals
            refine k_retvF Try.results116 (.cell (by exact rfl) (by repeat (first | exact At.head | apply At.tail)) (by exact agg_of rfl) (.tmp (by conv => { lhs; whnf }) .nil)) (fun w hw => ?_)
            have e1 : (dropO ys k).length = 1 := by omega
            rw [show shrO n xs ys k = some (dropO ys k) from if_pos ⟨h17.1 (by clear hw; simp_all), by clear hw; simp_all⟩]; exact ⟨(none, 0), by simp only [shN, if_pos e1]; rfl, by simp only [shL, if_pos e1]; exact Nat.le_refl _, by simp only [shL, if_pos e1]; exact (hw.fnil none).fin⟩
        · try (exact absurd c30 (by decide))
          all_goals (first | replace c30 := of_decide_eq_false c30 | replace c30 := sbeq_f c30 | replace c30 := sbne_f c30 | replace c30 := ibeq_f c30 | replace c30 := ibne_f c30 | replace c30 := ndec_f c30 | replace c30 := not_f c30 | skip)
          all_goals (refine k_skip ?_)
          all_goals (refine k_seq ?_)
          all_goals refine k_region ?_
          all_goals refine j_fieldAddr ?_
          all_goals refine j_load ?_
          all_goals refine j_move ?_
          all_goals refine j_build ?_
          all_goals refine j_store (fun _ => ?_)
          all_goals refine j_assignL (fun _ => ?_)
          all_goals refine l_nil ?_
          all_goals
            refine k_retvF Try.results116 (.cell (by exact rfl) (by repeat (first | exact At.head | apply At.tail)) (by exact agg_of rfl) (.tmp (by conv => { lhs; whnf }) .nil)) (fun w hw => ?_)
            have e1 : ¬ (dropO ys k).length = 1 := by omega
            rw [show shrO n xs ys k = some (dropO ys k) from if_pos ⟨h17.1 (by clear hw; simp_all), by clear hw; simp_all⟩]; exact ⟨x27, by simp only [shN, if_neg e1]; rfl, by simp only [shL, if_neg e1]; exact h27, by simp only [shL, if_neg e1]; exact hw.fin⟩
end
end Go.Proofs.Ythmagkjcangnfaa
