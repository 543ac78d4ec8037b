/- Branches: Inserted, Updated, Removed. -/
import Derived.Test.YthmagkjcangnfaaBr3
import Derived.Test.YthmagkjcangnfaaNode3
set_option linter.unusedSimpArgs false
set_option linter.unusedVariables false
namespace Go.Proofs.Ythmagkjcangnfaa
open Go.RowKit Go.Ct
/-- A C-node of a bitmap and a list that lies at x.1. -/
def cn (b : Nat) (xs : List Int) (x : Option Addr × Nat) : Nd := { Nd.zero with kind := 3, bm := (b : Int), brA := x.1, brN := xs.length, brC := x.2 }
theorem cinner_c {L : List Sl} {a : Option Addr} {ca : Nat} {w : World} (b : Nat) (ha : Cl w a (slC L)) (hl : ∀ q ∈ L, Cl w q.1 (refsC q.2.1)) (h3 : L.length ≤ 3) (hB : ∀ q ∈ L, q.2.1.length ≤ 1000) :
    Calls Try.prog 102 #[.int .u64 (b : Int), .slice a L.length ca] w fun e w' => ∃ x : Option Addr × Nat, e = .returned (cn b (slL L) x).v ∧ (slL L).length ≤ x.2 ∧ SF w [] [] [] [(x.1, refsC (slL L))] [] w' := by
  refine enter Try.func102 Try.ntmps102 rfl rfl (SF.s0 w) ?_
  simp only [mkS]
  all_goals (refine k_seq ?_)
  all_goals refine k_region ?_
  all_goals refine j_alloc (fun x4 => ?_)
  all_goals refine l_nil ?_
  all_goals (refine k_seq ?_)
  all_goals refine k_region ?_
  all_goals refine j_move ?_
  all_goals refine j_move ?_
  all_goals (refine j_own (cFH (Hc := fun _ => []) (Fc := fun _ => []) (hc := fun w1 hw => joined_c (L := L) (ha.keep0 hw.done) (fun q hq => (hl q hq).keep0 hw.done) h3 hB)) (fun x7 => ?_); try (refine l_fact (fun h7 => ?_)))
  all_goals refine j_build ?_
  all_goals refine j_store (fun _ => ?_)
  all_goals refine l_nil ?_
  all_goals
    refine k_retvF Try.results102 (.cell (by exact rfl) (by repeat (first | exact At.head | apply At.tail)) (by exact agg_of rfl) .nil) (fun w hw => ?_)
    exact ⟨x7, rfl, h7, SF.frz hw.finH⟩
theorem inner3_c {a p1 p2 p3 : Option Addr} {l1 l2 l3 l : List Int} {m1 m2 m3 c1 c2 c3 ca : Nat} {w : World} (b : Nat) (ha : Cl w a [.slice p1 m1 c1, .slice p2 m2 c2, .slice p3 m3 c3]) (h1 : Cl w p1 (refsC l1)) (h2 : Cl w p2 (refsC l2)) (h3 : Cl w p3 (refsC l3))
    (e1 : l1.length = m1) (e2 : l2.length = m2) (e3 : l3.length = m3) (b1 : m1 ≤ 1000) (b2 : m2 ≤ 1000) (b3 : m3 ≤ 1000) (hl : l1 ++ (l2 ++ l3) = l) :
    Calls Try.prog 102 #[.int .u64 (b : Int), .slice a 3 ca] w fun e w' => ∃ x : Option Addr × Nat, e = .returned (cn b l x).v ∧ l.length ≤ x.2 ∧ SF w [] [] [] [(x.1, refsC l)] [] w' := by
  subst e1 e2 e3 hl
  have := cinner_c (L := [(p1, l1, c1), (p2, l2, c2), (p3, l3, c3)]) (a := a) (ca := ca) (w := w) b ha (by simp [h1, h2, h3]) (by simp) (by simp; omega)
  simpa [slL] using this
theorem inner2_c {a p1 p2 : Option Addr} {l1 l2 l : List Int} {m1 m2 c1 c2 ca : Nat} {w : World} (b : Nat) (ha : Cl w a [.slice p1 m1 c1, .slice p2 m2 c2]) (h1 : Cl w p1 (refsC l1)) (h2 : Cl w p2 (refsC l2))
    (e1 : l1.length = m1) (e2 : l2.length = m2) (b1 : m1 ≤ 1000) (b2 : m2 ≤ 1000) (hl : l1 ++ l2 = l) :
    Calls Try.prog 102 #[.int .u64 (b : Int), .slice a 2 ca] w fun e w' => ∃ x : Option Addr × Nat, e = .returned (cn b l x).v ∧ l.length ≤ x.2 ∧ SF w [] [] [] [(x.1, refsC l)] [] w' := by
  subst e1 e2 hl
  have := cinner_c (L := [(p1, l1, c1), (p2, l2, c2)]) (a := a) (ca := ca) (w := w) b ha (by simp [h1, h2]) (by simp) (by simp; omega)
  simpa [slL] using this
open Classical in
noncomputable def inO (n : Nd) (xs : List Int) (ys : List Pr) (b : Nat) (i r : Int) : Option (Nat × List Int) := if CV n xs ys ∧ (0 ≤ i ∧ i < 64) ∧ 1 ≤ r ∧ hasI b i = false then some (withI b i, insL xs (posN b i) r) else none
open Classical in
noncomputable def upO (n : Nd) (xs : List Int) (ys : List Pr) (b : Nat) (i r : Int) : Option (Nat × List Int) := if CV n xs ys ∧ 1 ≤ r ∧ hasI b i = true then some (b, updL xs (posN b i) r) else none
open Classical in
noncomputable def reO (n : Nd) (xs : List Int) (ys : List Pr) (b : Nat) (i : Int) : Option (Nat × List Int) := if CV n xs ys ∧ hasI b i = true then some (withoutI b i, remL xs (posN b i)) else none
def resN (o : Option (Nat × List Int)) (x : Option Addr × Nat) : Nd := match o with | some q => cn q.1 q.2 x | none => Nd.zero
def resL (o : Option (Nat × List Int)) : List Int := match o with | some q => q.2 | none => []
/-- What is said of a function that gives back a C-node and whether there is one. -/
def CRes (w : World) (o : Option (Nat × List Int)) (e : Ending) (w' : World) : Prop := ∃ x : Option Addr × Nat, e = .returned (.tuple #[(resN o x).v, .bool o.isSome]) ∧ (resL o).length ≤ x.2 ∧ SF w [] [] [] [(x.1, refsC (resL o))] [] w'
theorem posN_le {b : Nat} {xs : List Int} (h : BV b xs) (i : Int) : posN b i ≤ xs.length := by
  rw [h.len]
  unfold posN
  obtain ⟨d, hd⟩ := Nat.exists_eq_add_of_le (Nat.min_le_right i.toNat 64)
  have := cnt_mono b (min i.toNat 64) d
  rw [← hd] at this
  exact this
section
variable {n : Nd} {xs : List Int} {ys : List Pr} {w : World} {b : Nat}
theorem changeable_c (i : Int) (hr : Rep w n xs ys) : Calls Try.prog 100 #[n.v, .int .i64 i] w fun e w' => ∃ r : Bool, e = .returned (.bool r) ∧ (r = true ↔ CV n xs ys ∧ (0 ≤ i ∧ i < 64)) ∧ St w [] [] w' := by
  refine enter Try.func100 Try.ntmps100 rfl rfl (SF.s0 w) ?_
  simp only [mkS]
  simp only [Nd.v, Nd.cells]
  all_goals (refine k_seq ?_)
  all_goals refine k_region ?_
  all_goals refine j_box (fun x2 => ?_)
  all_goals refine j_assignL (fun _ => ?_)
  all_goals refine l_nil ?_
  all_goals (refine k_seq ?_)
  all_goals refine k_region ?_
  all_goals refine j_load ?_
  all_goals (refine j_own (c0 (V := .bool) (hc := fun w1 hw => cvalid_c (n := n) (hr.keep0 hw.done))) (fun x6 => ?_); try (refine l_fact (fun h6 => ?_)))
  all_goals refine j_move ?_
  all_goals (first | refine j_un ?_ | (refine j_yes ?_; refine j_move ?_) | (refine l_case (g := 7) (by exact rfl) (fun g7 => ?_) (fun g7 => ?_) <;> (first | replace g7 := of_decide_eq_true g7 | replace g7 := of_decide_eq_false g7 | skip) <;> (first | refine j_un ?_ | (refine j_yes ?_; refine j_move ?_))))
  all_goals (first | refine j_un ?_ | (refine j_yes ?_; refine j_geq ?_) | (refine l_case (g := 7) (by exact rfl) (fun g7 => ?_) (fun g7 => ?_) <;> (first | replace g7 := of_decide_eq_true g7 | replace g7 := of_decide_eq_false g7 | skip) <;> (first | refine j_un ?_ | (refine j_yes ?_; refine j_geq ?_))))
  all_goals refine j_pick ?_
  all_goals refine j_move ?_
  all_goals (first | refine j_un ?_ | (refine j_yes ?_; refine j_move ?_) | (refine l_case (g := 11) (by exact rfl) (fun g11 => ?_) (fun g11 => ?_) <;> (first | replace g11 := of_decide_eq_true g11 | replace g11 := of_decide_eq_false g11 | skip) <;> (first | refine j_un ?_ | (refine j_yes ?_; refine j_move ?_))))
  all_goals (first | refine j_un ?_ | (refine j_yes ?_; refine j_lss ?_) | (refine l_case (g := 11) (by exact rfl) (fun g11 => ?_) (fun g11 => ?_) <;> (first | replace g11 := of_decide_eq_true g11 | replace g11 := of_decide_eq_false g11 | skip) <;> (first | refine j_un ?_ | (refine j_yes ?_; refine j_lss ?_))))
  all_goals refine j_pick ?_
  all_goals refine j_assignL (fun _ => ?_)
  all_goals refine l_nil ?_
  all_goals
    refine k_retvF Try.results100 (.tmp (by conv => { lhs; whnf }) .nil) (fun w hw => ?_)
    refine ⟨_, rfl, ?_, hw.done⟩
    first | (simp_all; done) | (simp_all; omega)
theorem inserted_c (i r : Int) (hb : n.bm = (b : Int)) (hb2 : b < 18446744073709551616) (hr : Rep w n xs ys) (hc : xs.length ≤ n.brC) (hx : xs.length ≤ 1000) : Calls Try.prog 50 #[n.v, .int .i64 i, .int .i64 r] w (CRes w (inO n xs ys b i r)) := by
  have e1 := hr.brN
  refine enter Try.func50 Try.ntmps50 rfl rfl (SF.s2 hr.br hr.pr) ?_
  simp only [mkS]
  simp only [Nd.v, Nd.cells, hb, e1]
  all_goals (refine k_seq ?_)
  all_goals refine k_region ?_
  all_goals refine j_box (fun x3 => ?_)
  all_goals refine j_alloc (fun x6 => ?_)
  all_goals refine j_assignL (fun _ => ?_)
  all_goals refine l_nil ?_
  all_goals (refine k_seq ?_)
  all_goals (refine k_seq ?_)
  all_goals refine k_region ?_
  all_goals refine j_load ?_
  all_goals refine j_move ?_
  all_goals (refine j_own (c0 (V := .bool) (hc := fun w1 hw => by rw [← e1, ← hb]; exact changeable_c i (n := n) (hr.keep0 hw.done))) (fun x12 => ?_); try (refine l_fact (fun h12 => ?_)))
  all_goals refine j_not ?_
  all_goals refine j_move ?_
  all_goals (first | refine j_un ?_ | (refine j_yes ?_; refine j_move ?_) | (refine l_case (g := 14) (by exact rfl) (fun g14 => ?_) (fun g14 => ?_) <;> (first | replace g14 := of_decide_eq_true g14 | replace g14 := of_decide_eq_false g14 | skip) <;> (first | refine j_un ?_ | (refine j_yes ?_; refine j_move ?_))))
  all_goals (first | refine j_un ?_ | (refine j_yes ?_; refine j_lss ?_) | (refine l_case (g := 14) (by exact rfl) (fun g14 => ?_) (fun g14 => ?_) <;> (first | replace g14 := of_decide_eq_true g14 | replace g14 := of_decide_eq_false g14 | skip) <;> (first | refine j_un ?_ | (refine j_yes ?_; refine j_lss ?_))))
  all_goals refine j_pick ?_
  all_goals refine j_move ?_
  all_goals (first | refine j_un ?_ | (refine j_yes ?_; refine j_fieldAddr ?_) | (refine l_case (g := 18) (by exact rfl) (fun g18 => ?_) (fun g18 => ?_) <;> (first | replace g18 := of_decide_eq_true g18 | replace g18 := of_decide_eq_false g18 | skip) <;> (first | refine j_un ?_ | (refine j_yes ?_; refine j_fieldAddr ?_))))
  all_goals (first | refine j_un ?_ | (refine j_yes ?_; refine j_load ?_) | (refine l_case (g := 18) (by exact rfl) (fun g18 => ?_) (fun g18 => ?_) <;> (first | replace g18 := of_decide_eq_true g18 | replace g18 := of_decide_eq_false g18 | skip) <;> (first | refine j_un ?_ | (refine j_yes ?_; refine j_load ?_))))
  all_goals (first | refine j_un ?_ | (refine j_yes ?_; refine j_move ?_) | (refine l_case (g := 18) (by exact rfl) (fun g18 => ?_) (fun g18 => ?_) <;> (first | replace g18 := of_decide_eq_true g18 | replace g18 := of_decide_eq_false g18 | skip) <;> (first | refine j_un ?_ | (refine j_yes ?_; refine j_move ?_))))
  all_goals (first | refine j_un ?_ | (refine j_yes ?_; (refine j_own (cV (hc := fun w1 hw => has_c hb2 i w1)) (fun x22 => ?_); try (refine l_fact (fun h22 => ?_)))) | (refine l_case (g := 18) (by exact rfl) (fun g18 => ?_) (fun g18 => ?_) <;> (first | replace g18 := of_decide_eq_true g18 | replace g18 := of_decide_eq_false g18 | skip) <;> (first | refine j_un ?_ | (refine j_yes ?_; (refine j_own (cV (hc := fun w1 hw => has_c hb2 i w1)) (fun x22 => ?_); try (refine l_fact (fun h22 => ?_)))))))
  all_goals refine j_pick ?_
  all_goals refine l_nil ?_
  all_goals
    refine k_cond (by exact rfl) (fun c23 => ?_) (fun c23 => ?_)
    · try (exact absurd c23 (by decide))
      all_goals (first | replace c23 := of_decide_eq_true c23 | replace c23 := sbeq_t c23 | replace c23 := sbne_t c23 | replace c23 := ibeq_t c23 | replace c23 := ibne_t c23 | replace c23 := ndec_t c23 | replace c23 := not_t c23 | skip)
      all_goals (refine k_seq ?_)
      all_goals refine k_region ?_
      all_goals refine j_build ?_
      all_goals refine j_store (fun _ => ?_)
      all_goals refine j_assignL (fun _ => ?_)
      all_goals refine l_nil ?_
      all_goals
        refine k_retvF Try.results50 (.cell (by exact rfl) (by repeat (first | exact At.head | apply At.tail)) (by exact agg_of rfl) (.tmp (by conv => { lhs; whnf }) .nil)) (fun w hw => ?_)
        rw [show inO n xs ys b i r = none from if_neg (by rintro ⟨k1, k2, k3, k4⟩; have h := h12.2 ⟨k1, k2⟩; clear hw; first | omega | (simp_all; done))]; exact ⟨(none, 0), rfl, Nat.le_refl _, (hw.fnil none).fin⟩
    · try (exact absurd c23 (by decide))
      all_goals (first | replace c23 := of_decide_eq_false c23 | replace c23 := sbeq_f c23 | replace c23 := sbne_f c23 | replace c23 := ibeq_f c23 | replace c23 := ibne_f c23 | replace c23 := ndec_f c23 | replace c23 := not_f c23 | skip)
      all_goals
        have hcv := h12.1 (by simpa using g14)
        have hbv := hcv.1.bv hb hb2
        have hpl := posN_le hbv i
        refine k_mono (fun w hw => (hw.headA (k := posN b i) (by first | exact .new .head | exact .new (.tail .head) | exact .new (.tail (.tail .head)) | exact .new (.tail (.tail (.tail .head))) | exact .new (.tail (.tail (.tail (.tail .head)))) | exact .new (.tail (.tail (.tail (.tail (.tail .head))))) | exact .new (.tail (.tail (.tail (.tail (.tail (.tail .head)))))) | exact .new (.tail (.tail (.tail (.tail (.tail (.tail (.tail .head))))))) | exact .new (.tail (.tail (.tail (.tail (.tail (.tail (.tail (.tail .head)))))))) | exact .new (.tail (.tail (.tail (.tail (.tail (.tail (.tail (.tail (.tail .head))))))))) | exact .old .head | exact .old (.tail .head) | exact .old (.tail (.tail .head)) | exact .old (.tail (.tail (.tail .head))) | exact .old (.tail (.tail (.tail (.tail .head)))) | exact .old (.tail (.tail (.tail (.tail (.tail .head))))) | exact .own .head | exact .own (.tail .head) | exact .own (.tail (.tail .head)) | exact .own (.tail (.tail (.tail .head))) | exact .own (.tail (.tail (.tail (.tail .head)))) | exact .own (.tail (.tail (.tail (.tail (.tail .head))))) | exact .own (.tail (.tail (.tail (.tail (.tail (.tail .head)))))) | exact .own (.tail (.tail (.tail (.tail (.tail (.tail (.tail .head))))))))).tailA (k := posN b i) (c := n.brC) (by first | exact .new .head | exact .new (.tail .head) | exact .new (.tail (.tail .head)) | exact .new (.tail (.tail (.tail .head))) | exact .new (.tail (.tail (.tail (.tail .head)))) | exact .new (.tail (.tail (.tail (.tail (.tail .head))))) | exact .new (.tail (.tail (.tail (.tail (.tail (.tail .head)))))) | exact .new (.tail (.tail (.tail (.tail (.tail (.tail (.tail .head))))))) | exact .new (.tail (.tail (.tail (.tail (.tail (.tail (.tail (.tail .head)))))))) | exact .new (.tail (.tail (.tail (.tail (.tail (.tail (.tail (.tail (.tail .head))))))))) | exact .old .head | exact .old (.tail .head) | exact .old (.tail (.tail .head)) | exact .old (.tail (.tail (.tail .head))) | exact .old (.tail (.tail (.tail (.tail .head)))) | exact .old (.tail (.tail (.tail (.tail (.tail .head))))) | exact .own .head | exact .own (.tail .head) | exact .own (.tail (.tail .head)) | exact .own (.tail (.tail (.tail .head))) | exact .own (.tail (.tail (.tail (.tail .head)))) | exact .own (.tail (.tail (.tail (.tail (.tail .head))))) | exact .own (.tail (.tail (.tail (.tail (.tail (.tail .head)))))) | exact .own (.tail (.tail (.tail (.tail (.tail (.tail (.tail .head)))))))) hc) ?_
      all_goals (refine k_skip ?_)
      all_goals (refine k_seq ?_)
      all_goals refine k_region ?_
      all_goals refine j_fieldAddr ?_
      all_goals refine j_load ?_
      all_goals refine j_move ?_
      all_goals (refine j_own (cV (hc := fun w1 hw => pos_c hb2 i w1)) (fun x28 => ?_); try (refine l_fact (fun h28 => ?_)))
      all_goals refine j_assignL (fun _ => ?_)
      all_goals refine l_nil ?_
      all_goals (refine k_seq ?_)
      all_goals refine k_region ?_
      all_goals refine j_fieldAddr ?_
      all_goals refine j_load ?_
      all_goals refine j_move ?_
      all_goals (refine j_own (cV (hc := fun w1 hw => with_c hb2 i w1)) (fun x32 => ?_); try (refine l_fact (fun h32 => ?_)))
      all_goals refine j_assignL (fun _ => ?_)
      all_goals refine l_nil ?_
      all_goals (refine k_seq ?_)
      all_goals refine k_drawF (.one 0 [] (.one 1 [] (.one 2 [] (.one 3 [] (.one 4 [] (.one 5 [] (.one 7 [] (.one 8 [] (.one 9 [] (.one 10 [] (.one 6 [2, 8] (.one 11 [2, 8] (.one 12 [2, 8] (.one 13 [] (.one 14 [] .nil))))))))))))))) ?_
      all_goals (refine r_move (i := 0) ?_)
      all_goals (refine r_fieldAddr (i := 1) ?_)
      all_goals (refine r_load (i := 2) ?_)
      all_goals (refine r_move (i := 3) ?_)
      all_goals (refine r_ownP (i := 4) (hq := (o_sliceH (by exact rfl) (by exact rfl) (by exact sl_of rfl) (by exact sz_any rfl) (by omega))) (h := ?_))
      all_goals (refine r_move (i := 5) ?_)
      all_goals (refine r_fieldAddr (i := 7) ?_)
      all_goals (refine r_load (i := 8) ?_)
      all_goals (refine r_move (i := 9) ?_)
      all_goals (refine r_ownP (i := 10) (hq := (o_tailQ (by exact rfl) (by exact rfl) (by exact sl_of rfl) (by exact sz_of rfl) (by omega) (by omega))) (h := ?_))
      all_goals (refine r_buildSlice (i := 6) (hfire := (fun _ => by first | (refine FireAll.cons (by first | exact a_load | exact a_un) ?_; refine FireAll.cons (by first | exact a_load | exact a_un) ?_; exact FireAll.nil) | (refine fireall_fact ?_; refine FireAll.cons (by first | exact a_load | exact a_un) ?_; refine FireAll.cons (by first | exact a_load | exact a_un) ?_; exact FireAll.nil))) (h := fun x39 => ?_))
      all_goals (refine r_own (i := 11) (hq := (lSFF fun _ => o_buildSlice (elem_slT rfl) (by repeat (first | exact opParts_nil _ | (apply opParts_cons; (conv => { lhs; whnf })))) (by exact rfl) (by exact rfl) (by exact rfl) (by exact rfl) (by simp only [flatP, cellsL, List.cons_append, List.nil_append]; exact rfl))) (hfire := (fun _ => by first | (refine FireAll.cons (by first | exact a_load | exact a_un) ?_; refine FireAll.cons (by first | exact a_load | exact a_un) ?_; exact FireAll.nil) | (refine fireall_fact ?_; refine FireAll.cons (by first | exact a_load | exact a_un) ?_; refine FireAll.cons (by first | exact a_load | exact a_un) ?_; exact FireAll.nil))) (h := fun x44 => ?_))
      all_goals ((refine r_own (i := 12) (hq := (cF (hc := fun w1 hw => inner3_c (l := insL xs (posN b i) r) (withI b i) (hw.cl (by first | exact .new .head | exact .new (.tail .head) | exact .new (.tail (.tail .head)) | exact .new (.tail (.tail (.tail .head))) | exact .new (.tail (.tail (.tail (.tail .head)))) | exact .new (.tail (.tail (.tail (.tail (.tail .head))))) | exact .new (.tail (.tail (.tail (.tail (.tail (.tail .head)))))) | exact .new (.tail (.tail (.tail (.tail (.tail (.tail (.tail .head))))))) | exact .new (.tail (.tail (.tail (.tail (.tail (.tail (.tail (.tail .head)))))))) | exact .new (.tail (.tail (.tail (.tail (.tail (.tail (.tail (.tail (.tail .head))))))))) | exact .old .head | exact .old (.tail .head) | exact .old (.tail (.tail .head)) | exact .old (.tail (.tail (.tail .head))) | exact .old (.tail (.tail (.tail (.tail .head)))) | exact .old (.tail (.tail (.tail (.tail (.tail .head))))) | exact .own .head | exact .own (.tail .head) | exact .own (.tail (.tail .head)) | exact .own (.tail (.tail (.tail .head))) | exact .own (.tail (.tail (.tail (.tail .head)))) | exact .own (.tail (.tail (.tail (.tail (.tail .head))))) | exact .own (.tail (.tail (.tail (.tail (.tail (.tail .head)))))) | exact .own (.tail (.tail (.tail (.tail (.tail (.tail (.tail .head))))))))) (hw.cl (by first | exact .new .head | exact .new (.tail .head) | exact .new (.tail (.tail .head)) | exact .new (.tail (.tail (.tail .head))) | exact .new (.tail (.tail (.tail (.tail .head)))) | exact .new (.tail (.tail (.tail (.tail (.tail .head))))) | exact .new (.tail (.tail (.tail (.tail (.tail (.tail .head)))))) | exact .new (.tail (.tail (.tail (.tail (.tail (.tail (.tail .head))))))) | exact .new (.tail (.tail (.tail (.tail (.tail (.tail (.tail (.tail .head)))))))) | exact .new (.tail (.tail (.tail (.tail (.tail (.tail (.tail (.tail (.tail .head))))))))) | exact .old .head | exact .old (.tail .head) | exact .old (.tail (.tail .head)) | exact .old (.tail (.tail (.tail .head))) | exact .old (.tail (.tail (.tail (.tail .head)))) | exact .old (.tail (.tail (.tail (.tail (.tail .head))))) | exact .own .head | exact .own (.tail .head) | exact .own (.tail (.tail .head)) | exact .own (.tail (.tail (.tail .head))) | exact .own (.tail (.tail (.tail (.tail .head)))) | exact .own (.tail (.tail (.tail (.tail (.tail .head))))) | exact .own (.tail (.tail (.tail (.tail (.tail (.tail .head)))))) | exact .own (.tail (.tail (.tail (.tail (.tail (.tail (.tail .head))))))))) (l2 := [r]) (show Cl w1 (some ⟨x39, 0, none⟩) (refsC [r]) from hw.cl (by first | exact .new .head | exact .new (.tail .head) | exact .new (.tail (.tail .head)) | exact .new (.tail (.tail (.tail .head))) | exact .new (.tail (.tail (.tail (.tail .head)))) | exact .new (.tail (.tail (.tail (.tail (.tail .head))))) | exact .new (.tail (.tail (.tail (.tail (.tail (.tail .head)))))) | exact .new (.tail (.tail (.tail (.tail (.tail (.tail (.tail .head))))))) | exact .new (.tail (.tail (.tail (.tail (.tail (.tail (.tail (.tail .head)))))))) | exact .new (.tail (.tail (.tail (.tail (.tail (.tail (.tail (.tail (.tail .head))))))))) | exact .old .head | exact .old (.tail .head) | exact .old (.tail (.tail .head)) | exact .old (.tail (.tail (.tail .head))) | exact .old (.tail (.tail (.tail (.tail .head)))) | exact .old (.tail (.tail (.tail (.tail (.tail .head))))) | exact .own .head | exact .own (.tail .head) | exact .own (.tail (.tail .head)) | exact .own (.tail (.tail (.tail .head))) | exact .own (.tail (.tail (.tail (.tail .head)))) | exact .own (.tail (.tail (.tail (.tail (.tail .head))))) | exact .own (.tail (.tail (.tail (.tail (.tail (.tail .head)))))) | exact .own (.tail (.tail (.tail (.tail (.tail (.tail (.tail .head))))))))) (hw.cl (by first | exact .new .head | exact .new (.tail .head) | exact .new (.tail (.tail .head)) | exact .new (.tail (.tail (.tail .head))) | exact .new (.tail (.tail (.tail (.tail .head)))) | exact .new (.tail (.tail (.tail (.tail (.tail .head))))) | exact .new (.tail (.tail (.tail (.tail (.tail (.tail .head)))))) | exact .new (.tail (.tail (.tail (.tail (.tail (.tail (.tail .head))))))) | exact .new (.tail (.tail (.tail (.tail (.tail (.tail (.tail (.tail .head)))))))) | exact .new (.tail (.tail (.tail (.tail (.tail (.tail (.tail (.tail (.tail .head))))))))) | exact .old .head | exact .old (.tail .head) | exact .old (.tail (.tail .head)) | exact .old (.tail (.tail (.tail .head))) | exact .old (.tail (.tail (.tail (.tail .head)))) | exact .old (.tail (.tail (.tail (.tail (.tail .head))))) | exact .own .head | exact .own (.tail .head) | exact .own (.tail (.tail .head)) | exact .own (.tail (.tail (.tail .head))) | exact .own (.tail (.tail (.tail (.tail .head)))) | exact .own (.tail (.tail (.tail (.tail (.tail .head))))) | exact .own (.tail (.tail (.tail (.tail (.tail (.tail .head)))))) | exact .own (.tail (.tail (.tail (.tail (.tail (.tail (.tail .head))))))))) (by rw [List.length_take]; omega) rfl (by rw [List.length_drop]) (by omega) (show 1 ≤ 1000 by decide) (by omega) rfl))) (hfire := (fun _ => by first | (refine FireAll.cons (by first | exact a_load | exact a_un) ?_; refine FireAll.cons (by first | exact a_load | exact a_un) ?_; exact FireAll.nil) | (refine fireall_fact ?_; refine FireAll.cons (by first | exact a_load | exact a_un) ?_; refine FireAll.cons (by first | exact a_load | exact a_un) ?_; exact FireAll.nil))) (h := fun x45 => ?_); try (refine r_fact (fun h45 => ?_))))
      all_goals (refine r_store (i := 13) (hfire := (fun _ => .nil)) (h := fun _ => ?_))
      all_goals (refine r_assignL (i := 14) (hfire := (fun _ => .nil)) (h := fun _ => ?_))
      all_goals refine r_fin ?_
      all_goals
        refine k_retvF Try.results50 (.cell (by exact rfl) (by repeat (first | exact At.head | apply At.tail)) (by exact agg_of rfl) (.tmp (by conv => { lhs; whnf }) .nil)) (fun w hw => ?_)
        rw [show inO n xs ys b i r = some (withI b i, insL xs (posN b i) r) from if_pos ⟨hcv.1, hcv.2, by omega, c23⟩]; exact ⟨x45, rfl, h45, hw.fin⟩
theorem updated_c (i r : Int) (hb : n.bm = (b : Int)) (hb2 : b < 18446744073709551616) (hr : Rep w n xs ys) (hc : xs.length ≤ n.brC) (hx : xs.length ≤ 1000) : Calls Try.prog 51 #[n.v, .int .i64 i, .int .i64 r] w (CRes w (upO n xs ys b i r)) := by
  have e1 := hr.brN
  refine enter Try.func51 Try.ntmps51 rfl rfl (SF.s2 hr.br hr.pr) ?_
  simp only [mkS]
  simp only [Nd.v, Nd.cells, hb, e1]
  all_goals (refine k_seq ?_)
  all_goals refine k_region ?_
  all_goals refine j_box (fun x3 => ?_)
  all_goals refine j_alloc (fun x6 => ?_)
  all_goals refine j_assignL (fun _ => ?_)
  all_goals refine l_nil ?_
  all_goals (refine k_seq ?_)
  all_goals (refine k_seq ?_)
  all_goals refine k_region ?_
  all_goals refine j_load ?_
  all_goals refine j_move ?_
  all_goals (refine j_own (c0 (V := .bool) (hc := fun w1 hw => by rw [← e1, ← hb]; exact changeable_c i (n := n) (hr.keep0 hw.done))) (fun x11 => ?_); try (refine l_fact (fun h11 => ?_)))
  all_goals refine j_not ?_
  all_goals refine j_move ?_
  all_goals (first | refine j_un ?_ | (refine j_yes ?_; refine j_move ?_) | (refine l_case (g := 13) (by exact rfl) (fun g13 => ?_) (fun g13 => ?_) <;> (first | replace g13 := of_decide_eq_true g13 | replace g13 := of_decide_eq_false g13 | skip) <;> (first | refine j_un ?_ | (refine j_yes ?_; refine j_move ?_))))
  all_goals (first | refine j_un ?_ | (refine j_yes ?_; refine j_lss ?_) | (refine l_case (g := 13) (by exact rfl) (fun g13 => ?_) (fun g13 => ?_) <;> (first | replace g13 := of_decide_eq_true g13 | replace g13 := of_decide_eq_false g13 | skip) <;> (first | refine j_un ?_ | (refine j_yes ?_; refine j_lss ?_))))
  all_goals refine j_pick ?_
  all_goals refine j_move ?_
  all_goals (first | refine j_un ?_ | (refine j_yes ?_; refine j_fieldAddr ?_) | (refine l_case (g := 17) (by exact rfl) (fun g17 => ?_) (fun g17 => ?_) <;> (first | replace g17 := of_decide_eq_true g17 | replace g17 := of_decide_eq_false g17 | skip) <;> (first | refine j_un ?_ | (refine j_yes ?_; refine j_fieldAddr ?_))))
  all_goals (first | refine j_un ?_ | (refine j_yes ?_; refine j_load ?_) | (refine l_case (g := 17) (by exact rfl) (fun g17 => ?_) (fun g17 => ?_) <;> (first | replace g17 := of_decide_eq_true g17 | replace g17 := of_decide_eq_false g17 | skip) <;> (first | refine j_un ?_ | (refine j_yes ?_; refine j_load ?_))))
  all_goals (first | refine j_un ?_ | (refine j_yes ?_; refine j_move ?_) | (refine l_case (g := 17) (by exact rfl) (fun g17 => ?_) (fun g17 => ?_) <;> (first | replace g17 := of_decide_eq_true g17 | replace g17 := of_decide_eq_false g17 | skip) <;> (first | refine j_un ?_ | (refine j_yes ?_; refine j_move ?_))))
  all_goals (first | refine j_un ?_ | (refine j_yes ?_; (refine j_own (cV (hc := fun w1 hw => has_c hb2 i w1)) (fun x21 => ?_); try (refine l_fact (fun h21 => ?_)))) | (refine l_case (g := 17) (by exact rfl) (fun g17 => ?_) (fun g17 => ?_) <;> (first | replace g17 := of_decide_eq_true g17 | replace g17 := of_decide_eq_false g17 | skip) <;> (first | refine j_un ?_ | (refine j_yes ?_; (refine j_own (cV (hc := fun w1 hw => has_c hb2 i w1)) (fun x21 => ?_); try (refine l_fact (fun h21 => ?_)))))))
  all_goals (first | refine j_un ?_ | (refine j_yes ?_; refine j_not ?_) | (refine l_case (g := 17) (by exact rfl) (fun g17 => ?_) (fun g17 => ?_) <;> (first | replace g17 := of_decide_eq_true g17 | replace g17 := of_decide_eq_false g17 | skip) <;> (first | refine j_un ?_ | (refine j_yes ?_; refine j_not ?_))))
  all_goals refine j_pick ?_
  all_goals refine l_nil ?_
  all_goals
    refine k_cond (by exact rfl) (fun c23 => ?_) (fun c23 => ?_)
    · try (exact absurd c23 (by decide))
      all_goals (first | replace c23 := of_decide_eq_true c23 | replace c23 := sbeq_t c23 | replace c23 := sbne_t c23 | replace c23 := ibeq_t c23 | replace c23 := ibne_t c23 | replace c23 := ndec_t c23 | replace c23 := not_t c23 | skip)
      all_goals (refine k_seq ?_)
      all_goals refine k_region ?_
      all_goals refine j_build ?_
      all_goals refine j_store (fun _ => ?_)
      all_goals refine j_assignL (fun _ => ?_)
      all_goals refine l_nil ?_
      all_goals
        refine k_retvF Try.results51 (.cell (by exact rfl) (by repeat (first | exact At.head | apply At.tail)) (by exact agg_of rfl) (.tmp (by conv => { lhs; whnf }) .nil)) (fun w hw => ?_)
        rw [show upO n xs ys b i r = none from if_neg (by rintro ⟨k1, k3, k4⟩; have h := h11.2 ⟨k1, (hasI_elim k4).1, (hasI_elim k4).2.1⟩; clear hw; first | omega | (simp_all; done))]; exact ⟨(none, 0), rfl, Nat.le_refl _, (hw.fnil none).fin⟩
    · try (exact absurd c23 (by decide))
      all_goals (first | replace c23 := of_decide_eq_false c23 | replace c23 := sbeq_f c23 | replace c23 := sbne_f c23 | replace c23 := ibeq_f c23 | replace c23 := ibne_f c23 | replace c23 := ndec_f c23 | replace c23 := not_f c23 | skip)
      all_goals
        have hcv := h11.1 (by simpa using g13)
        have hbv := hcv.1.bv hb hb2
        have hpl := bv_lt hbv c23
        refine k_mono (fun w hw => (hw.headA (k := posN b i) (by first | exact .new .head | exact .new (.tail .head) | exact .new (.tail (.tail .head)) | exact .new (.tail (.tail (.tail .head))) | exact .new (.tail (.tail (.tail (.tail .head)))) | exact .new (.tail (.tail (.tail (.tail (.tail .head))))) | exact .new (.tail (.tail (.tail (.tail (.tail (.tail .head)))))) | exact .new (.tail (.tail (.tail (.tail (.tail (.tail (.tail .head))))))) | exact .new (.tail (.tail (.tail (.tail (.tail (.tail (.tail (.tail .head)))))))) | exact .new (.tail (.tail (.tail (.tail (.tail (.tail (.tail (.tail (.tail .head))))))))) | exact .old .head | exact .old (.tail .head) | exact .old (.tail (.tail .head)) | exact .old (.tail (.tail (.tail .head))) | exact .old (.tail (.tail (.tail (.tail .head)))) | exact .old (.tail (.tail (.tail (.tail (.tail .head))))) | exact .own .head | exact .own (.tail .head) | exact .own (.tail (.tail .head)) | exact .own (.tail (.tail (.tail .head))) | exact .own (.tail (.tail (.tail (.tail .head)))) | exact .own (.tail (.tail (.tail (.tail (.tail .head))))) | exact .own (.tail (.tail (.tail (.tail (.tail (.tail .head)))))) | exact .own (.tail (.tail (.tail (.tail (.tail (.tail (.tail .head))))))))).tailA (k := posN b i + 1) (c := n.brC) (by first | exact .new .head | exact .new (.tail .head) | exact .new (.tail (.tail .head)) | exact .new (.tail (.tail (.tail .head))) | exact .new (.tail (.tail (.tail (.tail .head)))) | exact .new (.tail (.tail (.tail (.tail (.tail .head))))) | exact .new (.tail (.tail (.tail (.tail (.tail (.tail .head)))))) | exact .new (.tail (.tail (.tail (.tail (.tail (.tail (.tail .head))))))) | exact .new (.tail (.tail (.tail (.tail (.tail (.tail (.tail (.tail .head)))))))) | exact .new (.tail (.tail (.tail (.tail (.tail (.tail (.tail (.tail (.tail .head))))))))) | exact .old .head | exact .old (.tail .head) | exact .old (.tail (.tail .head)) | exact .old (.tail (.tail (.tail .head))) | exact .old (.tail (.tail (.tail (.tail .head)))) | exact .old (.tail (.tail (.tail (.tail (.tail .head))))) | exact .own .head | exact .own (.tail .head) | exact .own (.tail (.tail .head)) | exact .own (.tail (.tail (.tail .head))) | exact .own (.tail (.tail (.tail (.tail .head)))) | exact .own (.tail (.tail (.tail (.tail (.tail .head))))) | exact .own (.tail (.tail (.tail (.tail (.tail (.tail .head)))))) | exact .own (.tail (.tail (.tail (.tail (.tail (.tail (.tail .head)))))))) hc) ?_
      all_goals (refine k_skip ?_)
      all_goals (refine k_seq ?_)
      all_goals refine k_region ?_
      all_goals refine j_fieldAddr ?_
      all_goals refine j_load ?_
      all_goals refine j_move ?_
      all_goals (refine j_own (cV (hc := fun w1 hw => pos_c hb2 i w1)) (fun x28 => ?_); try (refine l_fact (fun h28 => ?_)))
      all_goals refine j_assignL (fun _ => ?_)
      all_goals refine l_nil ?_
      all_goals (refine k_seq ?_)
      all_goals refine k_drawF (.one 0 [] (.one 1 [] (.one 2 [] (.one 3 [] (.one 4 [] (.one 5 [] (.one 6 [] (.one 8 [] (.one 9 [] (.one 10 [] (.one 11 [] (.one 12 [] (.one 7 [1, 3, 9] (.one 13 [1, 3, 9] (.one 14 [3, 9] (.one 15 [] (.one 16 [] .nil))))))))))))))))) ?_
      all_goals (refine r_fieldAddr (i := 0) ?_)
      all_goals (refine r_load (i := 1) ?_)
      all_goals (refine r_fieldAddr (i := 2) ?_)
      all_goals (refine r_load (i := 3) ?_)
      all_goals (refine r_move (i := 4) ?_)
      all_goals (refine r_ownP (i := 5) (hq := (o_sliceH (by exact rfl) (by exact rfl) (by exact sl_of rfl) (by exact sz_any rfl) (by omega))) (h := ?_))
      all_goals (refine r_move (i := 6) ?_)
      all_goals (refine r_fieldAddr (i := 8) ?_)
      all_goals (refine r_load (i := 9) ?_)
      all_goals (refine r_move (i := 10) ?_)
      all_goals (refine r_inc (i := 11) ?_)
      all_goals (refine r_ownP (i := 12) (hq := (o_tailQ (k := posN b i + 1) (by exact rfl) (by exact rfl) (by exact sl_of rfl) (by exact sz_of rfl) (by omega) (by omega))) (h := ?_))
      all_goals (refine r_buildSlice (i := 7) (hfire := (fun _ => by first | (refine FireAll.cons (by first | exact a_load | exact a_un) ?_; refine FireAll.cons (by first | exact a_load | exact a_un) ?_; refine FireAll.cons (by first | exact a_load | exact a_un) ?_; exact FireAll.nil) | (refine fireall_fact ?_; refine FireAll.cons (by first | exact a_load | exact a_un) ?_; refine FireAll.cons (by first | exact a_load | exact a_un) ?_; refine FireAll.cons (by first | exact a_load | exact a_un) ?_; exact FireAll.nil))) (h := fun x36 => ?_))
      all_goals (refine r_own (i := 13) (hq := (lSFF fun _ => o_buildSlice (elem_slT rfl) (by repeat (first | exact opParts_nil _ | (apply opParts_cons; (conv => { lhs; whnf })))) (by exact rfl) (by exact rfl) (by exact rfl) (by exact rfl) (by simp only [flatP, cellsL, List.cons_append, List.nil_append]; exact rfl))) (hfire := (fun _ => by first | (refine FireAll.cons (by first | exact a_load | exact a_un) ?_; refine FireAll.cons (by first | exact a_load | exact a_un) ?_; refine FireAll.cons (by first | exact a_load | exact a_un) ?_; exact FireAll.nil) | (refine fireall_fact ?_; refine FireAll.cons (by first | exact a_load | exact a_un) ?_; refine FireAll.cons (by first | exact a_load | exact a_un) ?_; refine FireAll.cons (by first | exact a_load | exact a_un) ?_; exact FireAll.nil))) (h := fun x42 => ?_))
      all_goals ((refine r_own (i := 14) (hq := (cF (hc := fun w1 hw => inner3_c (l := updL xs (posN b i) r) b (hw.cl (by first | exact .new .head | exact .new (.tail .head) | exact .new (.tail (.tail .head)) | exact .new (.tail (.tail (.tail .head))) | exact .new (.tail (.tail (.tail (.tail .head)))) | exact .new (.tail (.tail (.tail (.tail (.tail .head))))) | exact .new (.tail (.tail (.tail (.tail (.tail (.tail .head)))))) | exact .new (.tail (.tail (.tail (.tail (.tail (.tail (.tail .head))))))) | exact .new (.tail (.tail (.tail (.tail (.tail (.tail (.tail (.tail .head)))))))) | exact .new (.tail (.tail (.tail (.tail (.tail (.tail (.tail (.tail (.tail .head))))))))) | exact .old .head | exact .old (.tail .head) | exact .old (.tail (.tail .head)) | exact .old (.tail (.tail (.tail .head))) | exact .old (.tail (.tail (.tail (.tail .head)))) | exact .old (.tail (.tail (.tail (.tail (.tail .head))))) | exact .own .head | exact .own (.tail .head) | exact .own (.tail (.tail .head)) | exact .own (.tail (.tail (.tail .head))) | exact .own (.tail (.tail (.tail (.tail .head)))) | exact .own (.tail (.tail (.tail (.tail (.tail .head))))) | exact .own (.tail (.tail (.tail (.tail (.tail (.tail .head)))))) | exact .own (.tail (.tail (.tail (.tail (.tail (.tail (.tail .head))))))))) (hw.cl (by first | exact .new .head | exact .new (.tail .head) | exact .new (.tail (.tail .head)) | exact .new (.tail (.tail (.tail .head))) | exact .new (.tail (.tail (.tail (.tail .head)))) | exact .new (.tail (.tail (.tail (.tail (.tail .head))))) | exact .new (.tail (.tail (.tail (.tail (.tail (.tail .head)))))) | exact .new (.tail (.tail (.tail (.tail (.tail (.tail (.tail .head))))))) | exact .new (.tail (.tail (.tail (.tail (.tail (.tail (.tail (.tail .head)))))))) | exact .new (.tail (.tail (.tail (.tail (.tail (.tail (.tail (.tail (.tail .head))))))))) | exact .old .head | exact .old (.tail .head) | exact .old (.tail (.tail .head)) | exact .old (.tail (.tail (.tail .head))) | exact .old (.tail (.tail (.tail (.tail .head)))) | exact .old (.tail (.tail (.tail (.tail (.tail .head))))) | exact .own .head | exact .own (.tail .head) | exact .own (.tail (.tail .head)) | exact .own (.tail (.tail (.tail .head))) | exact .own (.tail (.tail (.tail (.tail .head)))) | exact .own (.tail (.tail (.tail (.tail (.tail .head))))) | exact .own (.tail (.tail (.tail (.tail (.tail (.tail .head)))))) | exact .own (.tail (.tail (.tail (.tail (.tail (.tail (.tail .head))))))))) (l2 := [r]) (show Cl w1 (some ⟨x36, 0, none⟩) (refsC [r]) from hw.cl (by first | exact .new .head | exact .new (.tail .head) | exact .new (.tail (.tail .head)) | exact .new (.tail (.tail (.tail .head))) | exact .new (.tail (.tail (.tail (.tail .head)))) | exact .new (.tail (.tail (.tail (.tail (.tail .head))))) | exact .new (.tail (.tail (.tail (.tail (.tail (.tail .head)))))) | exact .new (.tail (.tail (.tail (.tail (.tail (.tail (.tail .head))))))) | exact .new (.tail (.tail (.tail (.tail (.tail (.tail (.tail (.tail .head)))))))) | exact .new (.tail (.tail (.tail (.tail (.tail (.tail (.tail (.tail (.tail .head))))))))) | exact .old .head | exact .old (.tail .head) | exact .old (.tail (.tail .head)) | exact .old (.tail (.tail (.tail .head))) | exact .old (.tail (.tail (.tail (.tail .head)))) | exact .old (.tail (.tail (.tail (.tail (.tail .head))))) | exact .own .head | exact .own (.tail .head) | exact .own (.tail (.tail .head)) | exact .own (.tail (.tail (.tail .head))) | exact .own (.tail (.tail (.tail (.tail .head)))) | exact .own (.tail (.tail (.tail (.tail (.tail .head))))) | exact .own (.tail (.tail (.tail (.tail (.tail (.tail .head)))))) | exact .own (.tail (.tail (.tail (.tail (.tail (.tail (.tail .head))))))))) (hw.cl (by first | exact .new .head | exact .new (.tail .head) | exact .new (.tail (.tail .head)) | exact .new (.tail (.tail (.tail .head))) | exact .new (.tail (.tail (.tail (.tail .head)))) | exact .new (.tail (.tail (.tail (.tail (.tail .head))))) | exact .new (.tail (.tail (.tail (.tail (.tail (.tail .head)))))) | exact .new (.tail (.tail (.tail (.tail (.tail (.tail (.tail .head))))))) | exact .new (.tail (.tail (.tail (.tail (.tail (.tail (.tail (.tail .head)))))))) | exact .new (.tail (.tail (.tail (.tail (.tail (.tail (.tail (.tail (.tail .head))))))))) | exact .old .head | exact .old (.tail .head) | exact .old (.tail (.tail .head)) | exact .old (.tail (.tail (.tail .head))) | exact .old (.tail (.tail (.tail (.tail .head)))) | exact .old (.tail (.tail (.tail (.tail (.tail .head))))) | exact .own .head | exact .own (.tail .head) | exact .own (.tail (.tail .head)) | exact .own (.tail (.tail (.tail .head))) | exact .own (.tail (.tail (.tail (.tail .head)))) | exact .own (.tail (.tail (.tail (.tail (.tail .head))))) | exact .own (.tail (.tail (.tail (.tail (.tail (.tail .head)))))) | exact .own (.tail (.tail (.tail (.tail (.tail (.tail (.tail .head))))))))) (by rw [List.length_take]; omega) rfl (by rw [List.length_drop]) (by omega) (show 1 ≤ 1000 by decide) (by omega) rfl))) (hfire := (fun _ => by first | (refine FireAll.cons (by first | exact a_load | exact a_un) ?_; refine FireAll.cons (by first | exact a_load | exact a_un) ?_; exact FireAll.nil) | (refine fireall_fact ?_; refine FireAll.cons (by first | exact a_load | exact a_un) ?_; refine FireAll.cons (by first | exact a_load | exact a_un) ?_; exact FireAll.nil))) (h := fun x43 => ?_); try (refine r_fact (fun h43 => ?_))))
      all_goals (refine r_store (i := 15) (hfire := (fun _ => .nil)) (h := fun _ => ?_))
      all_goals (refine r_assignL (i := 16) (hfire := (fun _ => .nil)) (h := fun _ => ?_))
      all_goals refine r_fin ?_
      all_goals
        refine k_retvF Try.results51 (.cell (by exact rfl) (by repeat (first | exact At.head | apply At.tail)) (by exact agg_of rfl) (.tmp (by conv => { lhs; whnf }) .nil)) (fun w hw => ?_)
        rw [show upO n xs ys b i r = some (b, updL xs (posN b i) r) from if_pos ⟨hcv.1, by omega, c23⟩]; exact ⟨x43, rfl, h43, hw.fin⟩
theorem removed_c (i : Int) (hb : n.bm = (b : Int)) (hb2 : b < 18446744073709551616) (hr : Rep w n xs ys) (hc : xs.length ≤ n.brC) (hx : xs.length ≤ 1000) : Calls Try.prog 52 #[n.v, .int .i64 i] w (CRes w (reO n xs ys b i)) := by
  have e1 := hr.brN
  refine enter Try.func52 Try.ntmps52 rfl rfl (SF.s2 hr.br hr.pr) ?_
  simp only [mkS]
  simp only [Nd.v, Nd.cells, hb, e1]
  all_goals (refine k_seq ?_)
  all_goals refine k_region ?_
  all_goals refine j_box (fun x2 => ?_)
  all_goals refine j_alloc (fun x4 => ?_)
  all_goals refine j_assignL (fun _ => ?_)
  all_goals refine l_nil ?_
  all_goals (refine k_seq ?_)
  all_goals (refine k_seq ?_)
  all_goals refine k_region ?_
  all_goals refine j_load ?_
  all_goals refine j_move ?_
  all_goals (refine j_own (c0 (V := .bool) (hc := fun w1 hw => by rw [← e1, ← hb]; exact changeable_c i (n := n) (hr.keep0 hw.done))) (fun x10 => ?_); try (refine l_fact (fun h10 => ?_)))
  all_goals refine j_not ?_
  all_goals refine j_move ?_
  all_goals (first | refine j_un ?_ | (refine j_yes ?_; refine j_fieldAddr ?_) | (refine l_case (g := 12) (by exact rfl) (fun g12 => ?_) (fun g12 => ?_) <;> (first | replace g12 := of_decide_eq_true g12 | replace g12 := of_decide_eq_false g12 | skip) <;> (first | refine j_un ?_ | (refine j_yes ?_; refine j_fieldAddr ?_))))
  all_goals (first | refine j_un ?_ | (refine j_yes ?_; refine j_load ?_) | (refine l_case (g := 12) (by exact rfl) (fun g12 => ?_) (fun g12 => ?_) <;> (first | replace g12 := of_decide_eq_true g12 | replace g12 := of_decide_eq_false g12 | skip) <;> (first | refine j_un ?_ | (refine j_yes ?_; refine j_load ?_))))
  all_goals (first | refine j_un ?_ | (refine j_yes ?_; refine j_move ?_) | (refine l_case (g := 12) (by exact rfl) (fun g12 => ?_) (fun g12 => ?_) <;> (first | replace g12 := of_decide_eq_true g12 | replace g12 := of_decide_eq_false g12 | skip) <;> (first | refine j_un ?_ | (refine j_yes ?_; refine j_move ?_))))
  all_goals (first | refine j_un ?_ | (refine j_yes ?_; (refine j_own (cV (hc := fun w1 hw => has_c hb2 i w1)) (fun x16 => ?_); try (refine l_fact (fun h16 => ?_)))) | (refine l_case (g := 12) (by exact rfl) (fun g12 => ?_) (fun g12 => ?_) <;> (first | replace g12 := of_decide_eq_true g12 | replace g12 := of_decide_eq_false g12 | skip) <;> (first | refine j_un ?_ | (refine j_yes ?_; (refine j_own (cV (hc := fun w1 hw => has_c hb2 i w1)) (fun x16 => ?_); try (refine l_fact (fun h16 => ?_)))))))
  all_goals (first | refine j_un ?_ | (refine j_yes ?_; refine j_not ?_) | (refine l_case (g := 12) (by exact rfl) (fun g12 => ?_) (fun g12 => ?_) <;> (first | replace g12 := of_decide_eq_true g12 | replace g12 := of_decide_eq_false g12 | skip) <;> (first | refine j_un ?_ | (refine j_yes ?_; refine j_not ?_))))
  all_goals refine j_pick ?_
  all_goals refine l_nil ?_
  all_goals
    refine k_cond (by exact rfl) (fun c18 => ?_) (fun c18 => ?_)
    · try (exact absurd c18 (by decide))
      all_goals (first | replace c18 := of_decide_eq_true c18 | replace c18 := sbeq_t c18 | replace c18 := sbne_t c18 | replace c18 := ibeq_t c18 | replace c18 := ibne_t c18 | replace c18 := ndec_t c18 | replace c18 := not_t c18 | skip)
      all_goals (refine k_seq ?_)
      all_goals refine k_region ?_
      all_goals refine j_build ?_
      all_goals refine j_store (fun _ => ?_)
      all_goals refine j_assignL (fun _ => ?_)
      all_goals refine l_nil ?_
      all_goals
        refine k_retvF Try.results52 (.cell (by exact rfl) (by repeat (first | exact At.head | apply At.tail)) (by exact agg_of rfl) (.tmp (by conv => { lhs; whnf }) .nil)) (fun w hw => ?_)
        rw [show reO n xs ys b i = none from if_neg (by rintro ⟨k1, k4⟩; have h := h10.2 ⟨k1, (hasI_elim k4).1, (hasI_elim k4).2.1⟩; clear hw; first | omega | (simp_all; done))]; exact ⟨(none, 0), rfl, Nat.le_refl _, (hw.fnil none).fin⟩
    · try (exact absurd c18 (by decide))
      all_goals (first | replace c18 := of_decide_eq_false c18 | replace c18 := sbeq_f c18 | replace c18 := sbne_f c18 | replace c18 := ibeq_f c18 | replace c18 := ibne_f c18 | replace c18 := ndec_f c18 | replace c18 := not_f c18 | skip)
      all_goals
        have hcv := h10.1 (by simpa using g12)
        have hbv := hcv.1.bv hb hb2
        have hpl := bv_lt hbv c18
        refine k_mono (fun w hw => (hw.headA (k := posN b i) (by first | exact .new .head | exact .new (.tail .head) | exact .new (.tail (.tail .head)) | exact .new (.tail (.tail (.tail .head))) | exact .new (.tail (.tail (.tail (.tail .head)))) | exact .new (.tail (.tail (.tail (.tail (.tail .head))))) | exact .new (.tail (.tail (.tail (.tail (.tail (.tail .head)))))) | exact .new (.tail (.tail (.tail (.tail (.tail (.tail (.tail .head))))))) | exact .new (.tail (.tail (.tail (.tail (.tail (.tail (.tail (.tail .head)))))))) | exact .new (.tail (.tail (.tail (.tail (.tail (.tail (.tail (.tail (.tail .head))))))))) | exact .old .head | exact .old (.tail .head) | exact .old (.tail (.tail .head)) | exact .old (.tail (.tail (.tail .head))) | exact .old (.tail (.tail (.tail (.tail .head)))) | exact .old (.tail (.tail (.tail (.tail (.tail .head))))) | exact .own .head | exact .own (.tail .head) | exact .own (.tail (.tail .head)) | exact .own (.tail (.tail (.tail .head))) | exact .own (.tail (.tail (.tail (.tail .head)))) | exact .own (.tail (.tail (.tail (.tail (.tail .head))))) | exact .own (.tail (.tail (.tail (.tail (.tail (.tail .head)))))) | exact .own (.tail (.tail (.tail (.tail (.tail (.tail (.tail .head))))))))).tailA (k := posN b i + 1) (c := n.brC) (by first | exact .new .head | exact .new (.tail .head) | exact .new (.tail (.tail .head)) | exact .new (.tail (.tail (.tail .head))) | exact .new (.tail (.tail (.tail (.tail .head)))) | exact .new (.tail (.tail (.tail (.tail (.tail .head))))) | exact .new (.tail (.tail (.tail (.tail (.tail (.tail .head)))))) | exact .new (.tail (.tail (.tail (.tail (.tail (.tail (.tail .head))))))) | exact .new (.tail (.tail (.tail (.tail (.tail (.tail (.tail (.tail .head)))))))) | exact .new (.tail (.tail (.tail (.tail (.tail (.tail (.tail (.tail (.tail .head))))))))) | exact .old .head | exact .old (.tail .head) | exact .old (.tail (.tail .head)) | exact .old (.tail (.tail (.tail .head))) | exact .old (.tail (.tail (.tail (.tail .head)))) | exact .old (.tail (.tail (.tail (.tail (.tail .head))))) | exact .own .head | exact .own (.tail .head) | exact .own (.tail (.tail .head)) | exact .own (.tail (.tail (.tail .head))) | exact .own (.tail (.tail (.tail (.tail .head)))) | exact .own (.tail (.tail (.tail (.tail (.tail .head))))) | exact .own (.tail (.tail (.tail (.tail (.tail (.tail .head)))))) | exact .own (.tail (.tail (.tail (.tail (.tail (.tail (.tail .head)))))))) hc) ?_
      all_goals (refine k_skip ?_)
      all_goals (refine k_seq ?_)
      all_goals refine k_region ?_
      all_goals refine j_fieldAddr ?_
      all_goals refine j_load ?_
      all_goals refine j_move ?_
      all_goals (refine j_own (cV (hc := fun w1 hw => pos_c hb2 i w1)) (fun x23 => ?_); try (refine l_fact (fun h23 => ?_)))
      all_goals refine j_assignL (fun _ => ?_)
      all_goals refine l_nil ?_
      all_goals (refine k_seq ?_)
      all_goals refine k_region ?_
      all_goals refine j_fieldAddr ?_
      all_goals refine j_load ?_
      all_goals refine j_move ?_
      all_goals (refine j_own (cV (hc := fun w1 hw => without_c hb2 i w1)) (fun x27 => ?_); try (refine l_fact (fun h27 => ?_)))
      all_goals refine j_assignL (fun _ => ?_)
      all_goals refine l_nil ?_
      all_goals (refine k_seq ?_)
      all_goals refine k_drawF (.one 0 [] (.one 1 [] (.one 2 [] (.one 3 [] (.one 4 [] (.one 5 [] (.one 6 [] (.one 7 [] (.one 8 [] (.one 9 [] (.one 10 [2, 6] (.one 11 [2, 6] (.one 12 [] (.one 13 [] .nil)))))))))))))) ?_
      all_goals (refine r_move (i := 0) ?_)
      all_goals (refine r_fieldAddr (i := 1) ?_)
      all_goals (refine r_load (i := 2) ?_)
      all_goals (refine r_move (i := 3) ?_)
      all_goals (refine r_ownP (i := 4) (hq := (o_sliceH (by exact rfl) (by exact rfl) (by exact sl_of rfl) (by exact sz_any rfl) (by omega))) (h := ?_))
      all_goals (refine r_fieldAddr (i := 5) ?_)
      all_goals (refine r_load (i := 6) ?_)
      all_goals (refine r_move (i := 7) ?_)
      all_goals (refine r_inc (i := 8) ?_)
      all_goals (refine r_ownP (i := 9) (hq := (o_tailQ (k := posN b i + 1) (by exact rfl) (by exact rfl) (by exact sl_of rfl) (by exact sz_of rfl) (by omega) (by omega))) (h := ?_))
      all_goals (refine r_own (i := 10) (hq := (lSFF fun _ => o_buildSlice (elem_slT rfl) (by repeat (first | exact opParts_nil _ | (apply opParts_cons; (conv => { lhs; whnf })))) (by exact rfl) (by exact rfl) (by exact rfl) (by exact rfl) (by simp only [flatP, cellsL, List.cons_append, List.nil_append]; exact rfl))) (hfire := (fun _ => by first | (refine FireAll.cons (by first | exact a_load | exact a_un) ?_; refine FireAll.cons (by first | exact a_load | exact a_un) ?_; exact FireAll.nil) | (refine fireall_fact ?_; refine FireAll.cons (by first | exact a_load | exact a_un) ?_; refine FireAll.cons (by first | exact a_load | exact a_un) ?_; exact FireAll.nil))) (h := fun x38 => ?_))
      all_goals ((refine r_own (i := 11) (hq := (cF (hc := fun w1 hw => inner2_c (l := remL xs (posN b i)) (withoutI b i) (hw.cl (by first | exact .new .head | exact .new (.tail .head) | exact .new (.tail (.tail .head)) | exact .new (.tail (.tail (.tail .head))) | exact .new (.tail (.tail (.tail (.tail .head)))) | exact .new (.tail (.tail (.tail (.tail (.tail .head))))) | exact .new (.tail (.tail (.tail (.tail (.tail (.tail .head)))))) | exact .new (.tail (.tail (.tail (.tail (.tail (.tail (.tail .head))))))) | exact .new (.tail (.tail (.tail (.tail (.tail (.tail (.tail (.tail .head)))))))) | exact .new (.tail (.tail (.tail (.tail (.tail (.tail (.tail (.tail (.tail .head))))))))) | exact .old .head | exact .old (.tail .head) | exact .old (.tail (.tail .head)) | exact .old (.tail (.tail (.tail .head))) | exact .old (.tail (.tail (.tail (.tail .head)))) | exact .old (.tail (.tail (.tail (.tail (.tail .head))))) | exact .own .head | exact .own (.tail .head) | exact .own (.tail (.tail .head)) | exact .own (.tail (.tail (.tail .head))) | exact .own (.tail (.tail (.tail (.tail .head)))) | exact .own (.tail (.tail (.tail (.tail (.tail .head))))) | exact .own (.tail (.tail (.tail (.tail (.tail (.tail .head)))))) | exact .own (.tail (.tail (.tail (.tail (.tail (.tail (.tail .head))))))))) (hw.cl (by first | exact .new .head | exact .new (.tail .head) | exact .new (.tail (.tail .head)) | exact .new (.tail (.tail (.tail .head))) | exact .new (.tail (.tail (.tail (.tail .head)))) | exact .new (.tail (.tail (.tail (.tail (.tail .head))))) | exact .new (.tail (.tail (.tail (.tail (.tail (.tail .head)))))) | exact .new (.tail (.tail (.tail (.tail (.tail (.tail (.tail .head))))))) | exact .new (.tail (.tail (.tail (.tail (.tail (.tail (.tail (.tail .head)))))))) | exact .new (.tail (.tail (.tail (.tail (.tail (.tail (.tail (.tail (.tail .head))))))))) | exact .old .head | exact .old (.tail .head) | exact .old (.tail (.tail .head)) | exact .old (.tail (.tail (.tail .head))) | exact .old (.tail (.tail (.tail (.tail .head)))) | exact .old (.tail (.tail (.tail (.tail (.tail .head))))) | exact .own .head | exact .own (.tail .head) | exact .own (.tail (.tail .head)) | exact .own (.tail (.tail (.tail .head))) | exact .own (.tail (.tail (.tail (.tail .head)))) | exact .own (.tail (.tail (.tail (.tail (.tail .head))))) | exact .own (.tail (.tail (.tail (.tail (.tail (.tail .head)))))) | exact .own (.tail (.tail (.tail (.tail (.tail (.tail (.tail .head))))))))) (hw.cl (by first | exact .new .head | exact .new (.tail .head) | exact .new (.tail (.tail .head)) | exact .new (.tail (.tail (.tail .head))) | exact .new (.tail (.tail (.tail (.tail .head)))) | exact .new (.tail (.tail (.tail (.tail (.tail .head))))) | exact .new (.tail (.tail (.tail (.tail (.tail (.tail .head)))))) | exact .new (.tail (.tail (.tail (.tail (.tail (.tail (.tail .head))))))) | exact .new (.tail (.tail (.tail (.tail (.tail (.tail (.tail (.tail .head)))))))) | exact .new (.tail (.tail (.tail (.tail (.tail (.tail (.tail (.tail (.tail .head))))))))) | exact .old .head | exact .old (.tail .head) | exact .old (.tail (.tail .head)) | exact .old (.tail (.tail (.tail .head))) | exact .old (.tail (.tail (.tail (.tail .head)))) | exact .old (.tail (.tail (.tail (.tail (.tail .head))))) | exact .own .head | exact .own (.tail .head) | exact .own (.tail (.tail .head)) | exact .own (.tail (.tail (.tail .head))) | exact .own (.tail (.tail (.tail (.tail .head)))) | exact .own (.tail (.tail (.tail (.tail (.tail .head))))) | exact .own (.tail (.tail (.tail (.tail (.tail (.tail .head)))))) | exact .own (.tail (.tail (.tail (.tail (.tail (.tail (.tail .head))))))))) (by rw [List.length_take]; omega) (by rw [List.length_drop]) (by omega) (by omega) rfl))) (hfire := (fun _ => by first | (refine FireAll.cons (by first | exact a_load | exact a_un) ?_; refine FireAll.cons (by first | exact a_load | exact a_un) ?_; exact FireAll.nil) | (refine fireall_fact ?_; refine FireAll.cons (by first | exact a_load | exact a_un) ?_; refine FireAll.cons (by first | exact a_load | exact a_un) ?_; exact FireAll.nil))) (h := fun x39 => ?_); try (refine r_fact (fun h39 => ?_))))
      all_goals (refine r_store (i := 12) (hfire := (fun _ => .nil)) (h := fun _ => ?_))
      all_goals (refine r_assignL (i := 13) (hfire := (fun _ => .nil)) (h := fun _ => ?_))
      all_goals refine r_fin ?_
      all_goals
        refine k_retvF Try.results52 (.cell (by exact rfl) (by repeat (first | exact At.head | apply At.tail)) (by exact agg_of rfl) (.tmp (by conv => { lhs; whnf }) .nil)) (fun w hw => ?_)
        rw [show reO n xs ys b i = some (withoutI b i, remL xs (posN b i)) from if_pos ⟨hcv.1, c18⟩]; exact ⟨x39, rfl, h39, hw.fin⟩
end
end Go.Proofs.Ythmagkjcangnfaa
