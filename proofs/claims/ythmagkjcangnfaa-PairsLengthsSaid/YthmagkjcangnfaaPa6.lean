/- Sorting: the walks. -/
import Derived.Test.YthmagkjcangnfaaPa2
import Derived.Test.YthmagkjcangnfaaPa5
import Derived.Test.YthmagkjcangnfaaWipe
set_option linter.unusedSimpArgs false
set_option linter.unusedVariables false
namespace Go.Ct
open Go Go.RowKit
section
variable {P : Program} {S : List (Nat × Value)} {G : World → Prop} {d : Nat} {ty t t' : TypeId} {pos : String} {af : Array Edge} {gd : Option (Nat × Bool)} {x y : Operand} {m n : Nat}
theorem o_addN (hx : ev S x = .int .i64 ((m : Nat) : Int)) (hy : ev S y = .int .i64 ((n : Nat) : Int)) (h : m + n ≤ 9223372036854775807) :
    Quiet P S G ⟨some d, .binOp .add t x y t', ty, pos, af, gd⟩ (.int .i64 ((m + n : Nat) : Int)) := by
  have := o_add (P := P) (G := G) (d := d) (ty := ty) (pos := pos) (af := af) (gd := gd) (t := t) (t' := t') hx hy
  rw [wrap_i64 (by omega) (by omega)] at this
  rw [Int.natCast_add]
  exact this
theorem o_subN (hx : ev S x = .int .i64 ((m : Nat) : Int)) (hy : ev S y = .int .i64 ((n : Nat) : Int)) (h : n ≤ m) (h2 : m ≤ 9223372036854775807) :
    Quiet P S G ⟨some d, .binOp .sub t x y t', ty, pos, af, gd⟩ (.int .i64 ((m - n : Nat) : Int)) := by
  have := o_sub (P := P) (G := G) (d := d) (ty := ty) (pos := pos) (af := af) (gd := gd) (t := t) (t' := t') hx hy
  rw [wrap_i64 (by omega) (by omega)] at this
  rw [Int.natCast_sub h]
  exact this
theorem o_storeQ {w0 : World} {M : List Nat} {H : List (Nat × Obj)} {A F : Fr} {O : List Ow} {i c : Nat} {p : Option Addr} {e : TypeId} {q : Nat} {l : List Pr} {v : Pr} (hx : ev S x = .pointer (some ⟨ablk p, aoff p + 2 * q, none⟩)) (hy : ev S y = .agg ⟨[.string v.1, .int .u64 v.2]⟩) (ht : aggOf P t 2 = true) (ho : OAt O i p (prC l) c e 2) (hq : q < l.length) :
    Loud P S (SF w0 M H A F O) ⟨none, .store t x y, ty, pos, af, gd⟩ Unit (fun _ => undef) (fun _ => SF w0 M H A F (setO O i ⟨p, prC (l.set q v), c, e, 2⟩)) := o_storeP hx hy ht ho hq
end
end Go.Ct
namespace Go.Proofs.Ythmagkjcangnfaa
open Go.RowKit Go.Ct
theorem of1_c (p q : Pr) (w : World) : Calls Try.prog 105 #[.agg ⟨[.string p.1, .int .u64 p.2]⟩, .agg ⟨[.string q.1, .int .u64 q.2]⟩] w fun e w' => e = .returned (.int .i64 (cmpS p.1 q.1)) ∧ St w [] [] w' := by
  refine enter Try.func105 Try.ntmps105 rfl rfl (SF.s0 w) ?_
  simp only [mkS]
  all_goals (refine k_seq ?_)
  all_goals refine k_region ?_
  all_goals refine j_box (fun x2 => ?_)
  all_goals refine j_box (fun x3 => ?_)
  all_goals refine j_assignL (fun _ => ?_)
  all_goals refine l_nil ?_
  all_goals (refine k_seq ?_)
  all_goals refine k_region ?_
  all_goals refine j_fieldAddr ?_
  all_goals refine j_load ?_
  all_goals refine j_fieldAddr ?_
  all_goals refine j_load ?_
  all_goals (refine j_own (cV (hc := fun w1 hw => strCmp_c p.1 q.1 w1)) (fun x9 => ?_); try (refine l_fact (fun h9 => ?_)))
  all_goals refine j_assignL (fun _ => ?_)
  all_goals refine l_nil ?_
  all_goals
    refine k_retvF Try.results105 (.tmp (by conv => { lhs; whnf }) .nil) (fun w hw => ?_)
    exact ⟨rfl, hw.done⟩
abbrev fOf : Value := .func (.func 105) #[] #[]
section
variable {ys : List Pr} {p : Option Addr} {c a b m n N : Nat} {w : World}
theorem swapRange_c (a b n : Nat) (ho : OwOk w ⟨p, prC ys, c, 37, 2⟩) (hN : ys.length = N) (hl : N ≤ 1000000) (ha : a + n ≤ N) (hb : b + n ≤ N) :
    Calls Try.prog 134 #[.slice p N c, .int .i64 (a : Int), .int .i64 (b : Int), .int .i64 (n : Int), fOf] w fun e w' => ∃ x : Unit, e = .returned (.tuple #[]) ∧ True ∧ SF w (oblk p) [] [] [] [⟨p, prC (swapL ys a b n), c, 37, 2⟩] w' := by
  subst hN
  refine enter Try.func134 Try.ntmps134 rfl rfl (SF.o1 ho) ?_
  simp only [mkS]
  all_goals (refine k_seq ?_)
  all_goals refine k_region ?_
  all_goals refine j_assignL (fun _ => ?_)
  all_goals refine l_nil ?_
  all_goals (refine k_block ?_)
  all_goals
    refine k_loopF [10, 11, 12, 13, 14, 15, 16, 17, 18, 19, 20, 21, 22, 23, 24, 25, 26, 27, 28, 29, 30, 31, 32, 33, 34, 35, 36, 37] (fun k => [(10, .int .i64 ((k : Nat) : Int))]) (fun k => k ≤ n) (fun _ => _) (fun _ => _) (fun k => [⟨p, prC (swapL ys a b k), c, 37, 2⟩]) (fun k => n - k) (0) (by decide) (fun _ => by exact rfl) ?_ (Nat.zero_le _) (fun w hw => hw.back) (fun k f hx => ?_)
    · repeat (first | exact knows_nil _ | refine knows_cons (by first | exact rfl | (conv => { lhs; whnf }; simp; done)) ?_)
    dsimp only [mkU, List.map, List.cons_append, List.nil_append]
    have hlen := swapL_len ys a b k
    have hlen2 : ((swapL ys a b k).set (a + k) ((swapL ys a b k).getD (b + k) (⟨#[]⟩, 0))).length = ys.length := by rw [List.length_set]; exact hlen
    all_goals (refine k_seq ?_)
    all_goals (refine k_seq ?_)
    all_goals refine k_region ?_
    all_goals refine j_move ?_
    all_goals refine j_move ?_
    all_goals refine j_lss ?_
    all_goals refine l_nil ?_
    all_goals
      refine k_cond (by exact rfl) (fun c13 => ?_) (fun c13 => ?_)
      · try (exact absurd c13 (by decide))
        all_goals (first | replace c13 := of_decide_eq_true c13 | replace c13 := sbeq_t c13 | replace c13 := sbne_t c13 | replace c13 := ibeq_t c13 | replace c13 := ibne_t c13 | replace c13 := ndec_t c13 | replace c13 := not_t c13 | skip)
        all_goals (refine k_skip ?_)
        all_goals (refine k_seq ?_)
        all_goals (refine k_block ?_)
        all_goals refine k_drawF (.one 0 [] (.one 1 [] (.one 2 [] (.one 3 [] (.one 4 [] (.one 5 [] (.one 6 [] (.one 7 [] (.one 8 [] (.one 9 [] (.one 10 [] (.one 11 [] (.one 12 [] (.one 13 [] (.one 14 [] (.one 15 [] (.one 16 [] (.one 17 [] (.one 18 [] (.one 19 [] (.one 20 [] (.one 21 [18] (.one 22 [] (.one 23 [] .nil)))))))))))))))))))))))) ?_
        all_goals (refine r_move (i := 0) ?_)
        all_goals (refine r_move (i := 1) ?_)
        all_goals (refine r_move (i := 2) ?_)
        all_goals (refine r_ownP (i := 3) (hq := (by first | exact o_inc (by exact rfl) (by exact rfl) (by omega) | exact o_addN (by exact rfl) (by exact rfl) (by omega))) (h := ?_))
        all_goals (refine r_move (i := 4) ?_)
        all_goals (refine r_move (i := 5) ?_)
        all_goals (refine r_move (i := 6) ?_)
        all_goals (refine r_ownP (i := 7) (hq := (by first | exact o_inc (by exact rfl) (by exact rfl) (by omega) | exact o_addN (by exact rfl) (by exact rfl) (by omega))) (h := ?_))
        all_goals (refine r_move (i := 8) ?_)
        all_goals (refine r_move (i := 9) ?_)
        all_goals (refine r_move (i := 10) ?_)
        all_goals (refine r_ownP (i := 11) (hq := (by first | exact o_inc (by exact rfl) (by exact rfl) (by omega) | exact o_addN (by exact rfl) (by exact rfl) (by omega))) (h := ?_))
        all_goals (refine r_indexAddr (i := 12) ?_)
        all_goals (refine r_load (i := 13) ?_)
        all_goals (refine r_move (i := 14) ?_)
        all_goals (refine r_move (i := 15) ?_)
        all_goals (refine r_move (i := 16) ?_)
        all_goals (refine r_ownP (i := 17) (hq := (by first | exact o_inc (by exact rfl) (by exact rfl) (by omega) | exact o_addN (by exact rfl) (by exact rfl) (by omega))) (h := ?_))
        all_goals (refine r_indexAddr (i := 18) ?_)
        all_goals (refine r_load (i := 19) ?_)
        all_goals (refine r_indexAddr (i := 20) ?_)
        all_goals (refine r_own0 (i := 21) (hq := (Loud.convO (o_storeQ (by exact rfl) (by exact rfl) (by exact agg_of rfl) (by repeat (first | exact OAt.head | apply OAt.tail)) (by omega)) (by intro x; simp only [setO]; exact rfl))) (hfire := (fun _ => by first | (refine FireAll.cons (by first | exact a_indexAddr | exact a_un) ?_; exact FireAll.nil) | (refine fireall_fact ?_; refine FireAll.cons (by first | exact a_indexAddr | exact a_un) ?_; exact FireAll.nil))) (h := fun _ => ?_))
        all_goals (refine r_indexAddr (i := 22) ?_)
        all_goals (refine r_own0 (i := 23) (hq := (Loud.convO (o_storeQ (by exact rfl) (by exact rfl) (by exact agg_of rfl) (by repeat (first | exact OAt.head | apply OAt.tail)) (by omega)) (by intro x; simp only [setO]; exact rfl))) (hfire := (fun _ => .nil)) (h := fun _ => ?_))
        all_goals refine r_fin ?_
        all_goals (refine k_blk ?_)
        all_goals refine k_region ?_
        all_goals refine j_move ?_
        all_goals refine l_quiet (by first | exact o_inc (by exact rfl) (by exact rfl) (by omega) | exact o_addN (by exact rfl) (by exact rfl) (by omega)) rfl ?_
        all_goals refine j_assignL (fun _ => ?_)
        all_goals refine l_nil ?_
        all_goals
          refine k_roundF (k + 1) ?_ ?_ (by repeat (first | (with_reducible exact Pre.refl) | refine Pre.cons (by exact rfl) ?_)) ?_ (fun w hw => hw.back)
          · first | omega | (simp only []; omega)
          · repeat' (first | exact knows_nil _ | refine knows_cons ?_ ?_)
            all_goals (first | exact rfl | (conv => { lhs; whnf }; simp; done) | (conv => { lhs; whnf }; congr 1; omega))
          · omega
      · try (exact absurd c13 (by decide))
        all_goals (first | replace c13 := of_decide_eq_false c13 | replace c13 := sbeq_f c13 | replace c13 := sbne_f c13 | replace c13 := ibeq_f c13 | replace c13 := ibne_f c13 | replace c13 := ndec_f c13 | replace c13 := not_f c13 | skip)
        all_goals (refine k_exit rfl ?_)
        all_goals
          refine k_endvF Try.results134 .nil (fun w hw => ?_)
          have hk : k = n := by omega
          subst hk
          exact ⟨(), rfl, trivial, hw.finH⟩
theorem rotate_c (ho : OwOk w ⟨p, prC ys, c, 37, 2⟩) (hN : ys.length = N) (hl : N ≤ 1000000) (h1 : a < m) (h2 : m < b) (h3 : b ≤ N) :
    Calls Try.prog 133 #[.slice p N c, .int .i64 (a : Int), .int .i64 (m : Int), .int .i64 (b : Int), fOf] w fun e w' => ∃ x : Unit, e = .returned (.tuple #[]) ∧ True ∧ SF w (oblk p) [] [] [] [⟨p, prC (rotL ys a m b), c, 37, 2⟩] w' := by
  refine enter Try.func133 Try.ntmps133 rfl rfl (SF.o1 ho) ?_
  simp only [mkS]
  all_goals (refine k_seq ?_)
  all_goals refine k_region ?_
  all_goals refine j_move ?_
  all_goals refine j_move ?_
  all_goals refine l_quiet (o_subN (by exact rfl) (by exact rfl) (by omega) (by omega)) rfl ?_
  all_goals refine j_assignL (fun _ => ?_)
  all_goals refine l_nil ?_
  all_goals (refine k_seq ?_)
  all_goals refine k_region ?_
  all_goals refine j_move ?_
  all_goals refine j_move ?_
  all_goals refine l_quiet (o_subN (by exact rfl) (by exact rfl) (by omega) (by omega)) rfl ?_
  all_goals refine j_assignL (fun _ => ?_)
  all_goals refine l_nil ?_
  all_goals (refine k_seq ?_)
  all_goals (refine k_block ?_)
  all_goals
    refine k_loopF [10, 11, 18, 19, 20, 21, 22, 23, 24, 25, 26, 27, 28, 29, 30, 31, 32, 33, 34, 35, 36, 37, 38, 39, 40, 41, 42, 43, 44, 45, 46, 47, 48, 49] (fun z : Nat × Nat × List Pr => [(10, .int .i64 ((z.1 : Nat) : Int)), (11, .int .i64 ((z.2.1 : Nat) : Int))]) (fun z => Rot z.2.2 (rotL ys a m b) m z.1 z.2.1 ∧ z.2.2.length = N ∧ 0 < z.1 ∧ 0 < z.2.1) (fun _ => _) (fun _ => _) (fun z => [⟨p, prC z.2.2, c, 37, 2⟩]) (fun z => z.1 + z.2.1) ((m - a, b - m, ys)) (by decide) (fun _ => by exact rfl) ?_ (⟨rot_init (by omega) (by omega) (by rw [hN]; exact h3), hN, by show 0 < m - a; omega, by show 0 < b - m; omega⟩) (fun w hw => hw.back) (fun z f hx => ?_)
    · repeat (first | exact knows_nil _ | refine knows_cons (by first | exact rfl | (conv => { lhs; whnf }; simp; done)) ?_)
    dsimp only [mkU, List.map, List.cons_append, List.nil_append]
    obtain ⟨q1, q2, q3, q4⟩ := hx
    have q5 := q1.le
    all_goals (refine k_seq ?_)
    all_goals (refine k_seq ?_)
    all_goals refine k_region ?_
    all_goals refine j_move ?_
    all_goals refine j_move ?_
    all_goals refine j_neq ?_
    all_goals refine l_nil ?_
    all_goals
      refine k_cond (by exact rfl) (fun c20 => ?_) (fun c20 => ?_)
      · try (exact absurd c20 (by decide))
        all_goals (first | replace c20 := of_decide_eq_true c20 | replace c20 := sbeq_t c20 | replace c20 := sbne_t c20 | replace c20 := ibeq_t c20 | replace c20 := ibne_t c20 | replace c20 := ndec_t c20 | replace c20 := not_t c20 | skip)
        all_goals (refine k_skip ?_)
        all_goals (refine k_block ?_)
        all_goals (refine k_seq ?_)
        all_goals refine k_region ?_
        all_goals refine j_move ?_
        all_goals refine j_move ?_
        all_goals refine j_gtr ?_
        all_goals refine l_nil ?_
        all_goals
          refine k_cond (by exact rfl) (fun c23 => ?_) (fun c23 => ?_)
          · try (exact absurd c23 (by decide))
            all_goals (first | replace c23 := of_decide_eq_true c23 | replace c23 := sbeq_t c23 | replace c23 := sbne_t c23 | replace c23 := ibeq_t c23 | replace c23 := ibne_t c23 | replace c23 := ndec_t c23 | replace c23 := not_t c23 | skip)
            all_goals (refine k_seq ?_)
            all_goals refine k_region ?_
            all_goals refine j_move ?_
            all_goals refine j_move ?_
            all_goals refine j_move ?_
            all_goals refine l_quiet (o_subN (by exact rfl) (by exact rfl) (by omega) (by omega)) rfl ?_
            all_goals refine j_move ?_
            all_goals refine j_move ?_
            all_goals refine j_move ?_
            all_goals (refine j_own (by first | exact cFO (ho := (by repeat (first | exact OAt.head | apply OAt.tail))) (hc := fun w1 hw => swapRange_c (m - z.1) m z.2.1 (hw.ow (by repeat (first | exact OAt.head | apply OAt.tail))) q2 hl (by omega) (by omega)) | exact cFO (ho := (by repeat (first | exact OAt.head | apply OAt.tail))) (hc := fun w1 hw => swapRange_c (m - z.1) (m + z.2.1 - z.1) z.1 (hw.ow (by repeat (first | exact OAt.head | apply OAt.tail))) q2 hl (by omega) (by omega)) | exact cFO (ho := (by repeat (first | exact OAt.head | apply OAt.tail))) (hc := fun w1 hw => swapRange_c (m - z.1) m z.1 (hw.ow (by repeat (first | exact OAt.head | apply OAt.tail))) q2 hl (by omega) (by omega))) (fun x31 => ?_); try (refine l_fact (fun h31 => ?_)))
            all_goals refine l_nil ?_
            all_goals refine k_region ?_
            all_goals refine j_move ?_
            all_goals refine j_move ?_
            all_goals refine l_quiet (o_subN (by exact rfl) (by exact rfl) (by omega) (by omega)) rfl ?_
            all_goals refine j_assignL (fun _ => ?_)
            all_goals refine l_nil ?_
            all_goals (refine k_blk ?_)
            all_goals
              refine k_roundF ((by first | exact lfst (p := (z.1 : Int) > z.2.1) c23 (z.1 - z.2.1, z.2.1, swapL z.2.2 (m - z.1) m z.2.1) | exact (z.1, z.2.1 - z.1, swapL z.2.2 (m - z.1) (m + z.2.1 - z.1) z.1))) ?_ ?_ (by repeat (first | (with_reducible exact Pre.refl) | refine Pre.cons (by exact rfl) ?_)) ?_ (fun w hw => hw.back)
              · first | omega | (simp only []; omega)
              · repeat' (first | exact knows_nil _ | refine knows_cons ?_ ?_)
                all_goals (first | exact rfl | (conv => { lhs; whnf }; simp; done) | (conv => { lhs; whnf }; congr 1; omega))
              · first
                | exact ⟨q1.gt (by omega), (swapL_len _ _ _ _).trans q2, by show 0 < z.1 - z.2.1; omega, q4⟩
                | exact ⟨q1.lt (by omega), (swapL_len _ _ _ _).trans q2, q3, by show 0 < z.2.1 - z.1; omega⟩
          · try (exact absurd c23 (by decide))
            all_goals (first | replace c23 := of_decide_eq_false c23 | replace c23 := sbeq_f c23 | replace c23 := sbne_f c23 | replace c23 := ibeq_f c23 | replace c23 := ibne_f c23 | replace c23 := ndec_f c23 | replace c23 := not_f c23 | skip)
            all_goals (refine k_seq ?_)
            all_goals refine k_region ?_
            all_goals refine j_move ?_
            all_goals refine j_move ?_
            all_goals refine j_move ?_
            all_goals refine l_quiet (o_subN (by exact rfl) (by exact rfl) (by omega) (by omega)) rfl ?_
            all_goals refine j_move ?_
            all_goals refine j_move ?_
            all_goals refine l_quiet (o_addN (by exact rfl) (by exact rfl) (by omega)) rfl ?_
            all_goals refine j_move ?_
            all_goals refine l_quiet (o_subN (by exact rfl) (by exact rfl) (by omega) (by omega)) rfl ?_
            all_goals refine j_move ?_
            all_goals refine j_move ?_
            all_goals (refine j_own (by first | exact cFO (ho := (by repeat (first | exact OAt.head | apply OAt.tail))) (hc := fun w1 hw => swapRange_c (m - z.1) m z.2.1 (hw.ow (by repeat (first | exact OAt.head | apply OAt.tail))) q2 hl (by omega) (by omega)) | exact cFO (ho := (by repeat (first | exact OAt.head | apply OAt.tail))) (hc := fun w1 hw => swapRange_c (m - z.1) (m + z.2.1 - z.1) z.1 (hw.ow (by repeat (first | exact OAt.head | apply OAt.tail))) q2 hl (by omega) (by omega)) | exact cFO (ho := (by repeat (first | exact OAt.head | apply OAt.tail))) (hc := fun w1 hw => swapRange_c (m - z.1) m z.1 (hw.ow (by repeat (first | exact OAt.head | apply OAt.tail))) q2 hl (by omega) (by omega))) (fun x46 => ?_); try (refine l_fact (fun h46 => ?_)))
            all_goals refine l_nil ?_
            all_goals refine k_region ?_
            all_goals refine j_move ?_
            all_goals refine j_move ?_
            all_goals refine l_quiet (o_subN (by exact rfl) (by exact rfl) (by omega) (by omega)) rfl ?_
            all_goals refine j_assignL (fun _ => ?_)
            all_goals refine l_nil ?_
            all_goals (refine k_blk ?_)
            all_goals
              refine k_roundF ((by first | exact lfst (p := (z.1 : Int) > z.2.1) c23 (z.1 - z.2.1, z.2.1, swapL z.2.2 (m - z.1) m z.2.1) | exact (z.1, z.2.1 - z.1, swapL z.2.2 (m - z.1) (m + z.2.1 - z.1) z.1))) ?_ ?_ (by repeat (first | (with_reducible exact Pre.refl) | refine Pre.cons (by exact rfl) ?_)) ?_ (fun w hw => hw.back)
              · first | omega | (simp only []; omega)
              · repeat' (first | exact knows_nil _ | refine knows_cons ?_ ?_)
                all_goals (first | exact rfl | (conv => { lhs; whnf }; simp; done) | (conv => { lhs; whnf }; congr 1; omega))
              · first
                | exact ⟨q1.gt (by omega), (swapL_len _ _ _ _).trans q2, by show 0 < z.1 - z.2.1; omega, q4⟩
                | exact ⟨q1.lt (by omega), (swapL_len _ _ _ _).trans q2, q3, by show 0 < z.2.1 - z.1; omega⟩
      · try (exact absurd c20 (by decide))
        all_goals (first | replace c20 := of_decide_eq_false c20 | replace c20 := sbeq_f c20 | replace c20 := sbne_f c20 | replace c20 := ibeq_f c20 | replace c20 := ibne_f c20 | replace c20 := ndec_f c20 | replace c20 := not_f c20 | skip)
        all_goals (refine k_exit rfl ?_)
        all_goals refine k_region ?_
        all_goals refine j_move ?_
        all_goals refine j_move ?_
        all_goals refine j_move ?_
        all_goals refine l_quiet (o_subN (by exact rfl) (by exact rfl) (by omega) (by omega)) rfl ?_
        all_goals refine j_move ?_
        all_goals refine j_move ?_
        all_goals refine j_move ?_
        all_goals (refine j_own (by first | exact cFO (ho := (by repeat (first | exact OAt.head | apply OAt.tail))) (hc := fun w1 hw => swapRange_c (m - z.1) m z.2.1 (hw.ow (by repeat (first | exact OAt.head | apply OAt.tail))) q2 hl (by omega) (by omega)) | exact cFO (ho := (by repeat (first | exact OAt.head | apply OAt.tail))) (hc := fun w1 hw => swapRange_c (m - z.1) (m + z.2.1 - z.1) z.1 (hw.ow (by repeat (first | exact OAt.head | apply OAt.tail))) q2 hl (by omega) (by omega)) | exact cFO (ho := (by repeat (first | exact OAt.head | apply OAt.tail))) (hc := fun w1 hw => swapRange_c (m - z.1) m z.1 (hw.ow (by repeat (first | exact OAt.head | apply OAt.tail))) q2 hl (by omega) (by omega))) (fun x57 => ?_); try (refine l_fact (fun h57 => ?_)))
        all_goals refine l_nil ?_
        all_goals
          refine k_endvF Try.results133 .nil (fun w hw => ?_)
          have e : z.1 = z.2.1 := by omega
          have q6 := q1
          rw [← e] at q6
          rw [q6.eq] at hw
          exact ⟨(), rfl, trivial, hw.finH⟩
theorem insJ_go {a j : Nat} {ys : List Pr} (h : a < j) (h2 : sless (ys.getD j (⟨#[]⟩, 0)).1 (ys.getD (j - 1) (⟨#[]⟩, 0)).1 = true) : insJ a (j - 1) (sw ys j (j - 1)) = insJ a j ys := by
  cases j with
  | zero => omega
  | succ j => rw [Nat.add_sub_cancel] at h2 ⊢; rw [insJ]; exact (if_pos ⟨h, h2⟩).symm
theorem insJ_stop {a j : Nat} {ys : List Pr} (h : ¬ (a < j ∧ sless (ys.getD j (⟨#[]⟩, 0)).1 (ys.getD (j - 1) (⟨#[]⟩, 0)).1 = true)) : insJ a j ys = ys := by
  cases j with
  | zero => rfl
  | succ j => rw [Nat.add_sub_cancel] at h; rw [insJ]; exact if_neg h
theorem insertion_c (a b : Nat) (ho : OwOk w ⟨p, prC ys, c, 37, 2⟩) (hN : ys.length = N) (hl : N ≤ 1000000) (h3 : b ≤ N) (h4 : a ≤ N) :
    Calls Try.prog 130 #[.slice p N c, .int .i64 (a : Int), .int .i64 (b : Int), fOf] w fun e w' => ∃ x : Unit, e = .returned (.tuple #[]) ∧ True ∧ SF w (oblk p) [] [] [] [⟨p, prC (insI a (a + 1) (b - (a + 1)) ys), c, 37, 2⟩] w' := by
  refine enter Try.func130 Try.ntmps130 rfl rfl (SF.o1 ho) ?_
  simp only [mkS]
  all_goals (refine k_seq ?_)
  all_goals refine k_region ?_
  all_goals refine j_move ?_
  all_goals refine l_quiet (o_inc (by exact rfl) (by exact rfl) (by omega)) rfl ?_
  all_goals refine j_assignL (fun _ => ?_)
  all_goals refine l_nil ?_
  all_goals (refine k_block ?_)
  all_goals
    refine k_loopF [8, 9, 12, 13, 14, 15, 16, 17, 18, 19, 20, 21, 22, 23, 24, 25, 26, 27, 28, 29, 30, 31, 32, 33, 34, 35, 36, 37, 38, 39, 40, 41, 42, 43, 44, 45, 46, 47, 48, 49, 50, 51, 52] (fun z : Nat × List Pr => [(8, .int .i64 ((z.1 : Nat) : Int))]) (fun z => insI a z.1 (b - z.1) z.2 = insI a (a + 1) (b - (a + 1)) ys ∧ z.2.length = N ∧ a + 1 ≤ z.1 ∧ z.1 ≤ N + 1) (fun _ => _) (fun _ => _) (fun z => [⟨p, prC z.2, c, 37, 2⟩]) (fun z => b - z.1) ((a + 1, ys)) (by decide) (fun _ => by exact rfl) ?_ (⟨rfl, hN, Nat.le_refl _, by show a + 1 ≤ N + 1; omega⟩) (fun w hw => hw.back) (fun z f hx => ?_)
    · repeat (first | exact knows_nil _ | refine knows_cons (by first | exact rfl | (conv => { lhs; whnf }; simp; done)) ?_)
    dsimp only [mkU, List.map, List.cons_append, List.nil_append]
    obtain ⟨q1, q2, q3, q4⟩ := hx
    all_goals (refine k_seq ?_)
    all_goals (refine k_seq ?_)
    all_goals refine k_region ?_
    all_goals refine j_move ?_
    all_goals refine j_move ?_
    all_goals refine j_lss ?_
    all_goals refine l_nil ?_
    all_goals
      refine k_cond (by exact rfl) (fun c14 => ?_) (fun c14 => ?_)
      · try (exact absurd c14 (by decide))
        all_goals (first | replace c14 := of_decide_eq_true c14 | replace c14 := sbeq_t c14 | replace c14 := sbne_t c14 | replace c14 := ibeq_t c14 | replace c14 := ibne_t c14 | replace c14 := ndec_t c14 | replace c14 := not_t c14 | skip)
        all_goals (refine k_skip ?_)
        all_goals (refine k_seq ?_)
        all_goals (refine k_block ?_)
        all_goals (refine k_seq ?_)
        all_goals refine k_region ?_
        all_goals refine j_move ?_
        all_goals refine j_assignL (fun _ => ?_)
        all_goals refine l_nil ?_
        all_goals (refine k_block ?_)
        all_goals
          refine k_loopF [9, 18, 19, 20, 21, 22, 23, 24, 25, 26, 27, 28, 29, 30, 31, 32, 33, 34, 35, 36, 37, 38, 39, 40, 41, 42, 43, 44, 45, 46, 47, 48, 49, 50, 51, 52] (fun y : Nat × List Pr => [(9, .int .i64 ((y.1 : Nat) : Int))]) (fun y => insJ a y.1 y.2 = insJ a z.1 z.2 ∧ y.2.length = N ∧ a ≤ y.1 ∧ y.1 ≤ z.1) (fun _ => _) (fun _ => _) (fun y => [⟨p, prC y.2, c, 37, 2⟩]) (fun y => y.1) ((z.1, z.2)) (by decide) (fun _ => by exact rfl) ?_ (⟨rfl, q2, by show a ≤ z.1; omega, Nat.le_refl _⟩) (fun w hw => hw.back) (fun y f hx => ?_)
          · repeat (first | exact knows_nil _ | refine knows_cons (by first | exact rfl | (conv => { lhs; whnf }; simp; done)) ?_)
          dsimp only [mkU, List.map, List.cons_append, List.nil_append]
          obtain ⟨r1, r2, r3, r4⟩ := hx
          have r5 : ∀ t (v : Pr), (y.2.set t v).length = N := fun t v => by rw [List.length_set]; exact r2
          have r6 := r5 y.1 (y.2.getD (y.1 - 1) (⟨#[]⟩, 0))
          all_goals (refine k_seq ?_)
          all_goals (refine k_seq ?_)
          all_goals refine k_drawF (.one 0 [] (.one 1 [] (.one 2 [] (.one 3 [] (.one 4 [] (.one 5 [] (.one 6 [] (.one 7 [] (.one 8 [] (.one 9 [] (.one 10 [] (.one 11 [] (.one 12 [] (.one 13 [] (.one 14 [7, 12] (.one 15 [] (.one 16 [] .nil))))))))))))))))) ?_
          all_goals (refine r_move (i := 0) ?_)
          all_goals (refine r_move (i := 1) ?_)
          all_goals (refine r_gtr (i := 2) ?_)
          all_goals (refine r_move (i := 3) ?_)
          all_goals (first | refine r_un (i := 4) ?_ | (refine r_move (i := 4) ?_) | (refine r_case (g := 21) (by exact rfl) (fun g21 => ?_) (fun g21 => ?_) <;> (first | replace g21 := of_decide_eq_true g21 | replace g21 := of_decide_eq_false g21 | skip) <;> (first | refine r_un (i := 4) ?_ | (refine r_move (i := 4) ?_))))
          all_goals (first | refine r_un (i := 5) ?_ | (refine r_move (i := 5) ?_) | (refine r_case (g := 21) (by exact rfl) (fun g21 => ?_) (fun g21 => ?_) <;> (first | replace g21 := of_decide_eq_true g21 | replace g21 := of_decide_eq_false g21 | skip) <;> (first | refine r_un (i := 5) ?_ | (refine r_move (i := 5) ?_))))
          all_goals (first | refine r_un (i := 6) ?_ | (refine r_move (i := 6) ?_) | (refine r_case (g := 21) (by exact rfl) (fun g21 => ?_) (fun g21 => ?_) <;> (first | replace g21 := of_decide_eq_true g21 | replace g21 := of_decide_eq_false g21 | skip) <;> (first | refine r_un (i := 6) ?_ | (refine r_move (i := 6) ?_))))
          all_goals (first | refine r_un (i := 7) ?_ | (refine r_indexAddr (i := 7) ?_) | (refine r_case (g := 21) (by exact rfl) (fun g21 => ?_) (fun g21 => ?_) <;> (first | replace g21 := of_decide_eq_true g21 | replace g21 := of_decide_eq_false g21 | skip) <;> (first | refine r_un (i := 7) ?_ | (refine r_indexAddr (i := 7) ?_))))
          all_goals (first | refine r_un (i := 8) ?_ | (refine r_load (i := 8) ?_) | (refine r_case (g := 21) (by exact rfl) (fun g21 => ?_) (fun g21 => ?_) <;> (first | replace g21 := of_decide_eq_true g21 | replace g21 := of_decide_eq_false g21 | skip) <;> (first | refine r_un (i := 8) ?_ | (refine r_load (i := 8) ?_))))
          all_goals (first | refine r_un (i := 9) ?_ | (refine r_move (i := 9) ?_) | (refine r_case (g := 21) (by exact rfl) (fun g21 => ?_) (fun g21 => ?_) <;> (first | replace g21 := of_decide_eq_true g21 | replace g21 := of_decide_eq_false g21 | skip) <;> (first | refine r_un (i := 9) ?_ | (refine r_move (i := 9) ?_))))
          all_goals (first | refine r_un (i := 10) ?_ | (refine r_move (i := 10) ?_) | (refine r_case (g := 21) (by exact rfl) (fun g21 => ?_) (fun g21 => ?_) <;> (first | replace g21 := of_decide_eq_true g21 | replace g21 := of_decide_eq_false g21 | skip) <;> (first | refine r_un (i := 10) ?_ | (refine r_move (i := 10) ?_))))
          all_goals (first | refine r_un (i := 11) ?_ | (refine r_ownP (i := 11) (hq := (o_dec (by exact rfl) (by exact rfl) (by omega) (by omega))) (h := ?_)) | (refine r_case (g := 21) (by exact rfl) (fun g21 => ?_) (fun g21 => ?_) <;> (first | replace g21 := of_decide_eq_true g21 | replace g21 := of_decide_eq_false g21 | skip) <;> (first | refine r_un (i := 11) ?_ | (refine r_ownP (i := 11) (hq := (o_dec (by exact rfl) (by exact rfl) (by omega) (by omega))) (h := ?_)))))
          all_goals (first | refine r_un (i := 12) ?_ | (refine r_indexAddr (i := 12) ?_) | (refine r_case (g := 21) (by exact rfl) (fun g21 => ?_) (fun g21 => ?_) <;> (first | replace g21 := of_decide_eq_true g21 | replace g21 := of_decide_eq_false g21 | skip) <;> (first | refine r_un (i := 12) ?_ | (refine r_indexAddr (i := 12) ?_))))
          all_goals (first | refine r_un (i := 13) ?_ | (refine r_load (i := 13) ?_) | (refine r_case (g := 21) (by exact rfl) (fun g21 => ?_) (fun g21 => ?_) <;> (first | replace g21 := of_decide_eq_true g21 | replace g21 := of_decide_eq_false g21 | skip) <;> (first | refine r_un (i := 13) ?_ | (refine r_load (i := 13) ?_))))
          all_goals (first | refine r_un (i := 14) ?_ | ((refine r_own (i := 14) (hq := (cVd (by exact rfl) (by (repeat (first | exact evL_nil _ | (apply evL_cons; focus ((conv => { lhs; whnf }); try exact rfl)))); first | done | fail) (by kernel_rfl) (fun w1 hw => of1_c (y.2.getD y.1 (⟨#[]⟩, 0)) (y.2.getD (y.1 - 1) (⟨#[]⟩, 0)) w1))) (hfire := (fun _ => by first | (refine FireAll.cons (by first | exact a_indexAddr | exact a_un) ?_; refine FireAll.cons (by first | exact a_indexAddr | exact a_un) ?_; exact FireAll.nil) | (refine fireall_fact ?_; refine FireAll.cons (by first | exact a_indexAddr | exact a_un) ?_; refine FireAll.cons (by first | exact a_indexAddr | exact a_un) ?_; exact FireAll.nil))) (h := fun x32 => ?_); try (refine r_fact (fun h32 => ?_)))) | (refine r_case (g := 21) (by exact rfl) (fun g21 => ?_) (fun g21 => ?_) <;> (first | replace g21 := of_decide_eq_true g21 | replace g21 := of_decide_eq_false g21 | skip) <;> (first | refine r_un (i := 14) ?_ | ((refine r_own (i := 14) (hq := (cVd (by exact rfl) (by (repeat (first | exact evL_nil _ | (apply evL_cons; focus ((conv => { lhs; whnf }); try exact rfl)))); first | done | fail) (by kernel_rfl) (fun w1 hw => of1_c (y.2.getD y.1 (⟨#[]⟩, 0)) (y.2.getD (y.1 - 1) (⟨#[]⟩, 0)) w1))) (hfire := (fun _ => by first | (refine FireAll.cons (by first | exact a_indexAddr | exact a_un) ?_; refine FireAll.cons (by first | exact a_indexAddr | exact a_un) ?_; exact FireAll.nil) | (refine fireall_fact ?_; refine FireAll.cons (by first | exact a_indexAddr | exact a_un) ?_; refine FireAll.cons (by first | exact a_indexAddr | exact a_un) ?_; exact FireAll.nil))) (h := fun x32 => ?_); try (refine r_fact (fun h32 => ?_)))))))
          all_goals (first | refine r_un (i := 15) ?_ | (refine r_lss (i := 15) ?_) | (refine r_case (g := 21) (by exact rfl) (fun g21 => ?_) (fun g21 => ?_) <;> (first | replace g21 := of_decide_eq_true g21 | replace g21 := of_decide_eq_false g21 | skip) <;> (first | refine r_un (i := 15) ?_ | (refine r_lss (i := 15) ?_))))
          all_goals (refine r_pick (i := 16) ?_)
          all_goals refine r_fin ?_
          all_goals
            refine k_cond (by exact rfl) (fun c34 => ?_) (fun c34 => ?_)
            · try (exact absurd c34 (by decide))
              all_goals (first | replace c34 := of_decide_eq_true c34 | replace c34 := sbeq_t c34 | replace c34 := sbne_t c34 | replace c34 := ibeq_t c34 | replace c34 := ibne_t c34 | replace c34 := ndec_t c34 | replace c34 := not_t c34 | skip)
              all_goals (refine k_skip ?_)
              all_goals (refine k_seq ?_)
              all_goals (refine k_block ?_)
              all_goals refine k_drawF (.one 0 [] (.one 1 [] (.one 2 [] (.one 3 [] (.one 4 [] (.one 5 [] (.one 6 [] (.one 7 [] (.one 8 [] (.one 9 [] (.one 10 [] (.one 11 [] (.one 12 [] (.one 13 [] (.one 14 [] (.one 15 [12] (.one 16 [] (.one 17 [] .nil)))))))))))))))))) ?_
              all_goals (refine r_move (i := 0) ?_)
              all_goals (refine r_move (i := 1) ?_)
              all_goals (refine r_move (i := 2) ?_)
              all_goals (refine r_move (i := 3) ?_)
              all_goals (refine r_ownP (i := 4) (hq := (o_dec (by exact rfl) (by exact rfl) (by omega) (by omega))) (h := ?_))
              all_goals (refine r_move (i := 5) ?_)
              all_goals (refine r_move (i := 6) ?_)
              all_goals (refine r_ownP (i := 7) (hq := (o_dec (by exact rfl) (by exact rfl) (by omega) (by omega))) (h := ?_))
              all_goals (refine r_indexAddr (i := 8) ?_)
              all_goals (refine r_load (i := 9) ?_)
              all_goals (refine r_move (i := 10) ?_)
              all_goals (refine r_move (i := 11) ?_)
              all_goals (refine r_indexAddr (i := 12) ?_)
              all_goals (refine r_load (i := 13) ?_)
              all_goals (refine r_indexAddr (i := 14) ?_)
              all_goals (refine r_own0 (i := 15) (hq := (Loud.convO (o_storeQ (by exact rfl) (by exact rfl) (by exact agg_of rfl) (by repeat (first | exact OAt.head | apply OAt.tail)) (by omega)) (by intro x; simp only [setO]; exact rfl))) (hfire := (fun _ => by first | (refine FireAll.cons (by first | exact a_indexAddr | exact a_un) ?_; exact FireAll.nil) | (refine fireall_fact ?_; refine FireAll.cons (by first | exact a_indexAddr | exact a_un) ?_; exact FireAll.nil))) (h := fun _ => ?_))
              all_goals (refine r_indexAddr (i := 16) ?_)
              all_goals (refine r_own0 (i := 17) (hq := (Loud.convO (o_storeQ (by exact rfl) (by exact rfl) (by exact agg_of rfl) (by repeat (first | exact OAt.head | apply OAt.tail)) (by omega)) (by intro x; simp only [setO]; exact rfl))) (hfire := (fun _ => .nil)) (h := fun _ => ?_))
              all_goals refine r_fin ?_
              all_goals (refine k_blk ?_)
              all_goals refine k_region ?_
              all_goals refine j_move ?_
              all_goals refine l_quiet (o_dec (by exact rfl) (by exact rfl) (by omega) (by omega)) rfl ?_
              all_goals refine j_assignL (fun _ => ?_)
              all_goals refine l_nil ?_
              all_goals
                refine k_roundF ((y.1 - 1, sw y.2 y.1 (y.1 - 1))) ?_ ?_ (by repeat (first | (with_reducible exact Pre.refl) | refine Pre.cons (by exact rfl) ?_)) ?_ (fun w hw => hw.back)
                · first | omega | (simp only []; omega)
                · repeat' (first | exact knows_nil _ | refine knows_cons ?_ ?_)
                  all_goals (first | exact rfl | (conv => { lhs; whnf }; simp; done) | (conv => { lhs; whnf }; congr 1; omega))
                · exact ⟨(insJ_go (by omega) (cmpS_lt.1 (by assumption))).trans r1, (sw_len _ _ _).trans r2, by show a ≤ y.1 - 1; omega, by show y.1 - 1 ≤ z.1; omega⟩
            · try (exact absurd c34 (by decide))
              all_goals (first | replace c34 := of_decide_eq_false c34 | replace c34 := sbeq_f c34 | replace c34 := sbne_f c34 | replace c34 := ibeq_f c34 | replace c34 := ibne_f c34 | replace c34 := ndec_f c34 | replace c34 := not_f c34 | skip)
              all_goals (refine k_exit rfl ?_)
              all_goals (refine k_blk ?_)
              all_goals refine k_region ?_
              all_goals refine j_move ?_
              all_goals refine l_quiet (o_inc (by exact rfl) (by exact rfl) (by omega)) rfl ?_
              all_goals refine j_assignL (fun _ => ?_)
              all_goals refine l_nil ?_
              all_goals
                refine k_roundF ((z.1 + 1, y.2)) ?_ ?_ (by repeat (first | (with_reducible exact Pre.refl) | refine Pre.cons (by exact rfl) ?_)) ?_ (fun w hw => hw.back)
                · first | omega | (simp only []; omega)
                · repeat' (first | exact knows_nil _ | refine knows_cons ?_ ?_)
                  all_goals (first | exact rfl | (conv => { lhs; whnf }; simp; done) | (conv => { lhs; whnf }; congr 1; omega))
                · refine ⟨?_, r2, by show a + 1 ≤ z.1 + 1; omega, by show z.1 + 1 ≤ N + 1; omega⟩
                  rw [show b - z.1 = (b - (z.1 + 1)) + 1 by omega, insI, ← r1, insJ_stop ?_] at q1
                  · exact q1
                  · rintro ⟨s1, s2⟩
                    first | omega | exact absurd (cmpS_lt.2 s2) (by assumption) | (simp_all; done)
      · try (exact absurd c14 (by decide))
        all_goals (first | replace c14 := of_decide_eq_false c14 | replace c14 := sbeq_f c14 | replace c14 := sbne_f c14 | replace c14 := ibeq_f c14 | replace c14 := ibne_f c14 | replace c14 := ndec_f c14 | replace c14 := not_f c14 | skip)
        all_goals (refine k_exit rfl ?_)
        all_goals
          refine k_endvF Try.results130 .nil (fun w hw => ?_)
          rw [show b - z.1 = 0 by omega] at q1
          rw [← q1]
          exact ⟨(), rfl, trivial, hw.finH⟩
end
end Go.Proofs.Ythmagkjcangnfaa
