/- Tombs: Untombed, Contracted, Grown, Shrunk: both sides. -/
import Derived.Test.YthmagkjcangnfaaPaX
import Derived.Test.YthmagkjcangnfaaCn
import Derived.Test.YthmagkjcangnfaaNode3
import Derived.Test.YthmagkjcangnfaaTape2
set_option linter.unusedSimpArgs false
set_option linter.unusedVariables false
namespace Go.Proofs.Ythmagkjcangnfaa
open Go.RowKit Go.Ct
/-- The tomb of a single. -/
def tmb (s : Nd) : Nd := { Nd.zero with kind := 5, hash := s.hash, key := s.key, val := s.val }
def unN (n : Nd) : Nd := if n.kind = 5 then { Nd.zero with kind := 4, hash := n.hash, key := n.key, val := n.val } else Nd.zero
theorem untombed_c (n : Nd) (w : World) : Calls Try.prog 70 #[n.v] w fun e w' => e = .returned (.tuple #[(unN n).v, .bool (decide (n.kind = 5))]) ∧ St w [] [] w' := by
  refine enter Try.func70 Try.ntmps70 rfl rfl (SF.s0 w) ?_
  simp only [mkS]
  simp only [Nd.v, Nd.cells]
  all_goals (refine k_seq ?_)
  all_goals refine k_region ?_
  all_goals refine j_box (fun x1 => ?_)
  all_goals refine j_alloc (fun x2 => ?_)
  all_goals refine j_assignL (fun _ => ?_)
  all_goals refine l_nil ?_
  all_goals (refine k_seq ?_)
  all_goals (refine k_seq ?_)
  all_goals refine k_region ?_
  all_goals refine j_fieldAddr ?_
  all_goals refine j_load ?_
  all_goals refine j_neq ?_
  all_goals refine l_nil ?_
  all_goals
    refine k_cond (by exact rfl) (fun c6 => ?_) (fun c6 => ?_)
    · try (exact absurd c6 (by decide))
      all_goals (first | replace c6 := of_decide_eq_true c6 | replace c6 := sbeq_t c6 | replace c6 := sbne_t c6 | replace c6 := ibeq_t c6 | replace c6 := ibne_t c6 | replace c6 := ndec_t c6 | replace c6 := not_t c6 | skip)
      all_goals (refine k_seq ?_)
      all_goals refine k_region ?_
      all_goals refine j_build ?_
      all_goals refine j_store (fun _ => ?_)
      all_goals refine j_assignL (fun _ => ?_)
      all_goals refine l_nil ?_
      all_goals
        refine k_retvF Try.results70 (.cell (by exact rfl) (by repeat (first | exact At.head | apply At.tail)) (by exact agg_of rfl) (.tmp (by conv => { lhs; whnf }) .nil)) (fun w hw => ?_)
        exact ⟨by rw [show unN n = Nd.zero from if_neg (by assumption), decide_eq_false (by assumption)]; rfl, hw.done⟩
    · try (exact absurd c6 (by decide))
      all_goals (first | replace c6 := of_decide_eq_false c6 | replace c6 := sbeq_f c6 | replace c6 := sbne_f c6 | replace c6 := ibeq_f c6 | replace c6 := ibne_f c6 | replace c6 := ndec_f c6 | replace c6 := not_f c6 | skip)
      all_goals (refine k_skip ?_)
      all_goals (refine k_seq ?_)
      all_goals refine k_region ?_
      all_goals refine j_fieldAddr ?_
      all_goals refine j_load ?_
      all_goals refine j_fieldAddr ?_
      all_goals refine j_load ?_
      all_goals refine j_fieldAddr ?_
      all_goals refine j_load ?_
      all_goals (refine j_own (cV (hc := fun w1 hw => single_c n.hash n.key n.val w1)) (fun x14 => ?_); try (refine l_fact (fun h14 => ?_)))
      all_goals refine j_store (fun _ => ?_)
      all_goals refine j_assignL (fun _ => ?_)
      all_goals refine l_nil ?_
      all_goals
        refine k_retvF Try.results70 (.cell (by exact rfl) (by repeat (first | exact At.head | apply At.tail)) (by exact agg_of rfl) (.tmp (by conv => { lhs; whnf }) .nil)) (fun w hw => ?_)
        exact ⟨by rw [show unN n = { Nd.zero with kind := 4, hash := n.hash, key := n.key, val := n.val } from if_pos (by omega), decide_eq_true (by omega)]; rfl, hw.done⟩
theorem refUntombed_c (n : Nd) (w : World) : Calls Try.prog 114 #[n.v] w fun e w' => e = .returned (.tuple #[(unN n).v, .bool (decide (n.kind = 5))]) ∧ St w [] [] w' := by
  refine enter Try.func114 Try.ntmps114 rfl rfl (SF.s0 w) ?_
  simp only [mkS]
  simp only [Nd.v, Nd.cells]
  all_goals (refine k_seq ?_)
  all_goals refine k_region ?_
  all_goals refine j_box (fun x1 => ?_)
  all_goals refine j_alloc (fun x2 => ?_)
  all_goals refine j_assignL (fun _ => ?_)
  all_goals refine l_nil ?_
  all_goals (refine k_seq ?_)
  all_goals (refine k_seq ?_)
  all_goals refine k_region ?_
  all_goals refine j_fieldAddr ?_
  all_goals refine j_load ?_
  all_goals refine j_neq ?_
  all_goals refine l_nil ?_
  all_goals
    refine k_cond (by exact rfl) (fun c6 => ?_) (fun c6 => ?_)
    · try (exact absurd c6 (by decide))
      all_goals (first | replace c6 := of_decide_eq_true c6 | replace c6 := sbeq_t c6 | replace c6 := sbne_t c6 | replace c6 := ibeq_t c6 | replace c6 := ibne_t c6 | replace c6 := ndec_t c6 | replace c6 := not_t c6 | skip)
      all_goals (refine k_seq ?_)
      all_goals refine k_region ?_
      all_goals refine j_build ?_
      all_goals refine j_store (fun _ => ?_)
      all_goals refine j_assignL (fun _ => ?_)
      all_goals refine l_nil ?_
      all_goals
        refine k_retvF Try.results114 (.cell (by exact rfl) (by repeat (first | exact At.head | apply At.tail)) (by exact agg_of rfl) (.tmp (by conv => { lhs; whnf }) .nil)) (fun w hw => ?_)
        exact ⟨by rw [show unN n = Nd.zero from if_neg (by assumption), decide_eq_false (by assumption)]; rfl, hw.done⟩
    · try (exact absurd c6 (by decide))
      all_goals (first | replace c6 := of_decide_eq_false c6 | replace c6 := sbeq_f c6 | replace c6 := sbne_f c6 | replace c6 := ibeq_f c6 | replace c6 := ibne_f c6 | replace c6 := ndec_f c6 | replace c6 := not_f c6 | skip)
      all_goals (refine k_skip ?_)
      all_goals (refine k_seq ?_)
      all_goals refine k_region ?_
      all_goals refine j_fieldAddr ?_
      all_goals refine j_load ?_
      all_goals refine j_fieldAddr ?_
      all_goals refine j_load ?_
      all_goals refine j_fieldAddr ?_
      all_goals refine j_load ?_
      all_goals refine j_build ?_
      all_goals refine j_store (fun _ => ?_)
      all_goals refine j_assignL (fun _ => ?_)
      all_goals refine l_nil ?_
      all_goals
        refine k_retvF Try.results114 (.cell (by exact rfl) (by repeat (first | exact At.head | apply At.tail)) (by exact agg_of rfl) (.tmp (by conv => { lhs; whnf }) .nil)) (fun w hw => ?_)
        exact ⟨by rw [show unN n = { Nd.zero with kind := 4, hash := n.hash, key := n.key, val := n.val } from if_pos (by omega), decide_eq_true (by omega)]; rfl, hw.done⟩
section
variable {n s : Nd} {xs : List Int} {ys : List Pr} {w : World} {b : Nat}
/-- A valid list node. -/
def LV (n : Nd) (xs : List Int) (ys : List Pr) : Prop := n.kind = 6 ∧ NdValid n xs ys
theorem validList_c (hr : Rep w n xs ys) : Calls Try.prog 113 #[n.v] w fun e w' => ∃ r : Bool, e = .returned (.bool r) ∧ (r = true ↔ LV n xs ys) ∧ St w [] [] w' := by
  refine enter Try.func113 Try.ntmps113 rfl rfl (SF.s0 w) ?_
  simp only [mkS]
  simp only [Nd.v, Nd.cells]
  all_goals (refine k_seq ?_)
  all_goals refine k_region ?_
  all_goals refine j_box (fun x1 => ?_)
  all_goals refine j_assignL (fun _ => ?_)
  all_goals refine l_nil ?_
  all_goals (refine k_seq ?_)
  all_goals refine k_region ?_
  all_goals refine j_fieldAddr ?_
  all_goals refine j_load ?_
  all_goals refine j_eql ?_
  all_goals refine j_move ?_
  all_goals (first | refine j_un ?_ | (refine j_yes ?_; refine j_load ?_) | (refine l_case (g := 6) (by exact rfl) (fun g6 => ?_) (fun g6 => ?_) <;> (first | replace g6 := of_decide_eq_true g6 | replace g6 := of_decide_eq_false g6 | skip) <;> (first | refine j_un ?_ | (refine j_yes ?_; refine j_load ?_))))
  all_goals (first | refine j_un ?_ | (refine j_yes ?_; (refine j_own (c0 (V := .bool) (hc := fun w1 hw => ndValid_c (n := n) (hr.keep0 hw.done))) (fun x8 => ?_); try (refine l_fact (fun h8 => ?_)))) | (refine l_case (g := 6) (by exact rfl) (fun g6 => ?_) (fun g6 => ?_) <;> (first | replace g6 := of_decide_eq_true g6 | replace g6 := of_decide_eq_false g6 | skip) <;> (first | refine j_un ?_ | (refine j_yes ?_; (refine j_own (c0 (V := .bool) (hc := fun w1 hw => ndValid_c (n := n) (hr.keep0 hw.done))) (fun x8 => ?_); try (refine l_fact (fun h8 => ?_)))))))
  all_goals refine j_pick ?_
  all_goals refine j_assignL (fun _ => ?_)
  all_goals refine l_nil ?_
  all_goals
    refine k_retvF Try.results113 (.tmp (by conv => { lhs; whnf }) .nil) (fun w hw => ?_)
    refine ⟨_, rfl, ?_, hw.done⟩
    simp_all [LV]
theorem refLst_c (hb : n.bm = (b : Int)) (hb2 : b < 18446744073709551616) (hr : Rep w n xs ys) : Calls Try.prog 129 #[n.v] w fun e w' => ∃ r : Bool, e = .returned (.bool r) ∧ (r = true ↔ LV n xs ys) ∧ St w [] [] w' := by
  refine enter Try.func129 Try.ntmps129 rfl rfl (SF.s0 w) ?_
  simp only [mkS]
  simp only [Nd.v, Nd.cells]
  all_goals (refine k_seq ?_)
  all_goals refine k_region ?_
  all_goals refine j_box (fun x1 => ?_)
  all_goals refine j_assignL (fun _ => ?_)
  all_goals refine l_nil ?_
  all_goals (refine k_seq ?_)
  all_goals refine k_region ?_
  all_goals refine j_fieldAddr ?_
  all_goals refine j_load ?_
  all_goals refine j_eql ?_
  all_goals refine j_move ?_
  all_goals (first | refine j_un ?_ | (refine j_yes ?_; refine j_load ?_) | (refine l_case (g := 6) (by exact rfl) (fun g6 => ?_) (fun g6 => ?_) <;> (first | replace g6 := of_decide_eq_true g6 | replace g6 := of_decide_eq_false g6 | skip) <;> (first | refine j_un ?_ | (refine j_yes ?_; refine j_load ?_))))
  all_goals (first | refine j_un ?_ | (refine j_yes ?_; (refine j_own (c0 (V := .bool) (hc := fun w1 hw => refValid_c (n := n) hb hb2 (hr.keep0 hw.done))) (fun x8 => ?_); try (refine l_fact (fun h8 => ?_)))) | (refine l_case (g := 6) (by exact rfl) (fun g6 => ?_) (fun g6 => ?_) <;> (first | replace g6 := of_decide_eq_true g6 | replace g6 := of_decide_eq_false g6 | skip) <;> (first | refine j_un ?_ | (refine j_yes ?_; (refine j_own (c0 (V := .bool) (hc := fun w1 hw => refValid_c (n := n) hb hb2 (hr.keep0 hw.done))) (fun x8 => ?_); try (refine l_fact (fun h8 => ?_)))))))
  all_goals refine j_pick ?_
  all_goals refine j_assignL (fun _ => ?_)
  all_goals refine l_nil ?_
  all_goals
    refine k_retvF Try.results129 (.tmp (by conv => { lhs; whnf }) .nil) (fun w hw => ?_)
    refine ⟨_, rfl, ?_, hw.done⟩
    simp_all [LV]
/-! ### Contracted -/
open Classical in
noncomputable def coT (n : Nd) (xs : List Int) (ys : List Pr) (level : Int) (s : Nd) : Bool := decide ((soO n xs ys).isSome = true ∧ 0 < level ∧ s.kind = 4)
def coN (t : Bool) (n s : Nd) (xs : List Int) (ys : List Pr) (x : Option Addr × Option Addr) : Nd := if t = true then tmb s else { n with brA := x.1, brC := xs.length, prA := x.2, prC := ys.length }
def reN (t : Bool) (n s : Nd) : Nd := if t = true then tmb s else n
def coX {α : Type} (t : Bool) (l : List α) : List α := if t = true then [] else l
theorem contracted_c (level : Int) (s : Nd) (hr : Rep w n xs ys) (hx : xs.length ≤ 1000) (hy : ys.length ≤ 1000) : Calls Try.prog 71 #[n.v, .int .i64 level, s.v] w fun e w' => ∃ x : Option Addr × Option Addr, e = .returned (coN (coT n xs ys level s) n s xs ys x).v ∧ True ∧ SF w [] [] [] [(x.1, refsC (coX (coT n xs ys level s) xs)), (x.2, prC (coX (coT n xs ys level s) ys))] [] w' := by
  refine enter Try.func71 Try.ntmps71 rfl rfl (SF.s0 w) ?_
  simp only [mkS]
  simp only [Nd.v, Nd.cells]
  all_goals (refine k_seq ?_)
  all_goals refine k_region ?_
  all_goals refine j_box (fun x3 => ?_)
  all_goals refine j_box (fun x5 => ?_)
  all_goals refine j_alloc (fun x6 => ?_)
  all_goals refine l_nil ?_
  all_goals (refine k_seq ?_)
  all_goals refine k_region ?_
  all_goals refine j_load ?_
  all_goals (refine j_own (cV (hc := fun w1 hw => sole_c (n := n) (hr.keep0 hw.done))) (fun x11 => ?_); try (refine l_fact (fun h11 => ?_)))
  all_goals refine j_move ?_
  all_goals refine l_quiet (o_extr (by exact rfl) rfl) rfl ?_
  all_goals refine l_quiet (o_extr (by exact rfl) rfl) rfl ?_
  all_goals refine j_assignL (fun _ => ?_)
  all_goals refine j_assignL (fun _ => ?_)
  all_goals refine l_nil ?_
  all_goals (refine k_seq ?_)
  all_goals (refine k_seq ?_)
  all_goals refine k_region ?_
  all_goals refine j_move ?_
  all_goals refine j_gtr ?_
  all_goals refine j_move ?_
  all_goals (first | refine j_un ?_ | (refine j_yes ?_; refine j_move ?_) | (refine l_case (g := 16) (by exact rfl) (fun g16 => ?_) (fun g16 => ?_) <;> (first | replace g16 := of_decide_eq_true g16 | replace g16 := of_decide_eq_false g16 | skip) <;> (first | refine j_un ?_ | (refine j_yes ?_; refine j_move ?_))))
  all_goals refine j_pick ?_
  all_goals refine j_move ?_
  all_goals (first | refine j_un ?_ | (refine j_yes ?_; refine j_fieldAddr ?_) | (refine l_case (g := 19) (by exact rfl) (fun g19 => ?_) (fun g19 => ?_) <;> (first | replace g19 := of_decide_eq_true g19 | replace g19 := of_decide_eq_false g19 | skip) <;> (first | refine j_un ?_ | (refine j_yes ?_; refine j_fieldAddr ?_))))
  all_goals (first | refine j_un ?_ | (refine j_yes ?_; refine j_load ?_) | (refine l_case (g := 19) (by exact rfl) (fun g19 => ?_) (fun g19 => ?_) <;> (first | replace g19 := of_decide_eq_true g19 | replace g19 := of_decide_eq_false g19 | skip) <;> (first | refine j_un ?_ | (refine j_yes ?_; refine j_load ?_))))
  all_goals (first | refine j_un ?_ | (refine j_yes ?_; refine j_eql ?_) | (refine l_case (g := 19) (by exact rfl) (fun g19 => ?_) (fun g19 => ?_) <;> (first | replace g19 := of_decide_eq_true g19 | replace g19 := of_decide_eq_false g19 | skip) <;> (first | refine j_un ?_ | (refine j_yes ?_; refine j_eql ?_))))
  all_goals refine j_pick ?_
  all_goals refine l_nil ?_
  all_goals
    refine k_cond (by exact rfl) (fun c23 => ?_) (fun c23 => ?_)
    · try (exact absurd c23 (by decide))
      all_goals (first | replace c23 := of_decide_eq_true c23 | replace c23 := sbeq_t c23 | replace c23 := sbne_t c23 | replace c23 := ibeq_t c23 | replace c23 := ibne_t c23 | replace c23 := ndec_t c23 | replace c23 := not_t c23 | skip)
      all_goals (refine k_seq ?_)
      all_goals refine k_region ?_
      all_goals refine j_fieldAddr ?_
      all_goals refine j_load ?_
      all_goals refine j_fieldAddr ?_
      all_goals refine j_load ?_
      all_goals refine j_fieldAddr ?_
      all_goals refine j_load ?_
      all_goals (refine j_own (cV (hc := fun w1 hw => tomb_c s.hash s.key s.val w1)) (fun x30 => ?_); try (refine l_fact (fun h30 => ?_)))
      all_goals refine j_store (fun _ => ?_)
      all_goals refine l_nil ?_
      all_goals
        refine k_retvF Try.results71 (.cell (by exact rfl) (by repeat (first | exact At.head | apply At.tail)) (by exact agg_of rfl) .nil) (fun w hw => ?_)
        rw [show coT n xs ys level s = true from decide_eq_true ⟨by assumption, by omega, by omega⟩]; exact ⟨(none, none), rfl, trivial, ((hw.fnil none).fnil none).fin⟩
    · try (exact absurd c23 (by decide))
      all_goals (first | replace c23 := of_decide_eq_false c23 | replace c23 := sbeq_f c23 | replace c23 := sbne_f c23 | replace c23 := ibeq_f c23 | replace c23 := ibne_f c23 | replace c23 := ndec_f c23 | replace c23 := not_f c23 | skip)
      all_goals (refine k_skip ?_)
      all_goals (refine k_seq ?_)
      all_goals refine k_region ?_
      all_goals refine j_load ?_
      all_goals (refine j_own (cF (hc := fun w1 hw => clone_c (n := n) (hr.keep0 hw.done) (by omega) (by omega))) (fun x32 => ?_); try (refine l_fact (fun h32 => ?_)))
      all_goals refine j_store (fun _ => ?_)
      all_goals refine l_nil ?_
      all_goals
        refine k_retvF Try.results71 (.cell (by exact rfl) (by repeat (first | exact At.head | apply At.tail)) (by exact agg_of rfl) .nil) (fun w hw => ?_)
        rw [show coT n xs ys level s = false from decide_eq_false (by rintro ⟨t1, t2, t3⟩; first | omega | (clear hw; simp_all; done))]; exact ⟨x32, rfl, trivial, hw.fin⟩
theorem refContracted_c (level : Int) (s : Nd) (hb : n.bm = (b : Int)) (hb2 : b < 18446744073709551616) (hr : Rep w n xs ys) : Calls Try.prog 117 #[n.v, .int .i64 level, s.v] w fun e w' => e = .returned (reN (coT n xs ys level s) n s).v ∧ St w [] [] w' := by
  refine enter Try.func117 Try.ntmps117 rfl rfl (SF.s0 w) ?_
  simp only [mkS]
  simp only [Nd.v, Nd.cells]
  all_goals (refine k_seq ?_)
  all_goals refine k_region ?_
  all_goals refine j_box (fun x3 => ?_)
  all_goals refine j_box (fun x5 => ?_)
  all_goals refine j_alloc (fun x6 => ?_)
  all_goals refine l_nil ?_
  all_goals (refine k_seq ?_)
  all_goals (refine k_seq ?_)
  all_goals refine k_region ?_
  all_goals refine j_load ?_
  all_goals (refine j_own (cV (hc := fun w1 hw => refSole_c (n := n) hb hb2 (hr.keep0 hw.done))) (fun x11 => ?_); try (refine l_fact (fun h11 => ?_)))
  all_goals refine j_move ?_
  all_goals refine l_quiet (o_extr (by exact rfl) rfl) rfl ?_
  all_goals refine l_quiet (o_extr (by exact rfl) rfl) rfl ?_
  all_goals refine j_assignL (fun _ => ?_)
  all_goals refine j_assignL (fun _ => ?_)
  all_goals refine l_nil ?_
  all_goals (refine k_seq ?_)
  all_goals refine k_region ?_
  all_goals refine j_move ?_
  all_goals refine j_move ?_
  all_goals (first | refine j_un ?_ | (refine j_yes ?_; refine j_move ?_) | (refine l_case (g := 15) (by exact rfl) (fun g15 => ?_) (fun g15 => ?_) <;> (first | replace g15 := of_decide_eq_true g15 | replace g15 := of_decide_eq_false g15 | skip) <;> (first | refine j_un ?_ | (refine j_yes ?_; refine j_move ?_))))
  all_goals (first | refine j_un ?_ | (refine j_yes ?_; refine j_gtr ?_) | (refine l_case (g := 15) (by exact rfl) (fun g15 => ?_) (fun g15 => ?_) <;> (first | replace g15 := of_decide_eq_true g15 | replace g15 := of_decide_eq_false g15 | skip) <;> (first | refine j_un ?_ | (refine j_yes ?_; refine j_gtr ?_))))
  all_goals refine j_pick ?_
  all_goals refine j_move ?_
  all_goals (first | refine j_un ?_ | (refine j_yes ?_; refine j_fieldAddr ?_) | (refine l_case (g := 19) (by exact rfl) (fun g19 => ?_) (fun g19 => ?_) <;> (first | replace g19 := of_decide_eq_true g19 | replace g19 := of_decide_eq_false g19 | skip) <;> (first | refine j_un ?_ | (refine j_yes ?_; refine j_fieldAddr ?_))))
  all_goals (first | refine j_un ?_ | (refine j_yes ?_; refine j_load ?_) | (refine l_case (g := 19) (by exact rfl) (fun g19 => ?_) (fun g19 => ?_) <;> (first | replace g19 := of_decide_eq_true g19 | replace g19 := of_decide_eq_false g19 | skip) <;> (first | refine j_un ?_ | (refine j_yes ?_; refine j_load ?_))))
  all_goals (first | refine j_un ?_ | (refine j_yes ?_; refine j_eql ?_) | (refine l_case (g := 19) (by exact rfl) (fun g19 => ?_) (fun g19 => ?_) <;> (first | replace g19 := of_decide_eq_true g19 | replace g19 := of_decide_eq_false g19 | skip) <;> (first | refine j_un ?_ | (refine j_yes ?_; refine j_eql ?_))))
  all_goals refine j_pick ?_
  all_goals refine l_nil ?_
  all_goals
    refine k_cond (by exact rfl) (fun c23 => ?_) (fun c23 => ?_)
    · try (exact absurd c23 (by decide))
      all_goals (first | replace c23 := of_decide_eq_true c23 | replace c23 := sbeq_t c23 | replace c23 := sbne_t c23 | replace c23 := ibeq_t c23 | replace c23 := ibne_t c23 | replace c23 := ndec_t c23 | replace c23 := not_t c23 | skip)
      all_goals (refine k_seq ?_)
      all_goals refine k_region ?_
      all_goals refine j_fieldAddr ?_
      all_goals refine j_load ?_
      all_goals refine j_fieldAddr ?_
      all_goals refine j_load ?_
      all_goals refine j_fieldAddr ?_
      all_goals refine j_load ?_
      all_goals refine j_build ?_
      all_goals refine j_store (fun _ => ?_)
      all_goals refine l_nil ?_
      all_goals
        refine k_retvF Try.results117 (.cell (by exact rfl) (by repeat (first | exact At.head | apply At.tail)) (by exact agg_of rfl) .nil) (fun w hw => ?_)
        rw [show coT n xs ys level s = true from decide_eq_true ⟨by assumption, by omega, by omega⟩]; exact ⟨rfl, hw.done⟩
    · try (exact absurd c23 (by decide))
      all_goals (first | replace c23 := of_decide_eq_false c23 | replace c23 := sbeq_f c23 | replace c23 := sbne_f c23 | replace c23 := ibeq_f c23 | replace c23 := ibne_f c23 | replace c23 := ndec_f c23 | replace c23 := not_f c23 | skip)
      all_goals (refine k_skip ?_)
      all_goals (refine k_seq ?_)
      all_goals refine k_region ?_
      all_goals refine j_load ?_
      all_goals refine j_store (fun _ => ?_)
      all_goals refine l_nil ?_
      all_goals
        refine k_retvF Try.results117 (.cell (by exact rfl) (by repeat (first | exact At.head | apply At.tail)) (by exact agg_of rfl) .nil) (fun w hw => ?_)
        rw [show coT n xs ys level s = false from decide_eq_false (by rintro ⟨t1, t2, t3⟩; first | omega | (clear hw; simp_all; done))]; exact ⟨rfl, hw.done⟩
end
end Go.Proofs.Ythmagkjcangnfaa
