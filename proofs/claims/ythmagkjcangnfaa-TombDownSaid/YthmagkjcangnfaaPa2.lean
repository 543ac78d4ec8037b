/- Pairs: comparing, searching; Find, Put, Drop. -/
import Derived.Test.YthmagkjcangnfaaPa1
import Derived.Lib.Bytealg
import Derived.Laws.Externs
set_option linter.unusedSimpArgs false
set_option linter.unusedVariables false
namespace Go.Ct
open Go Go.RowKit
variable {P : Program} {S : List (Nat × Value)} {w0 w : World} {M : List Nat} {H : List (Nat × Obj)} {A F : Fr} {O : List Ow}
/-- The comparison of two strings. -/
def cmpS (a b : ByteArray) : Int := Lib.compareBytes a.data.toList b.data.toList
theorem cb_lt : ∀ a b : List UInt8, Lib.compareBytes a b < 0 ↔ Op.bytesLess a b = true
  | [], [] => by simp [Lib.compareBytes, Op.bytesLess]
  | [], _ :: _ => by simp [Lib.compareBytes, Op.bytesLess]
  | _ :: _, [] => by simp [Lib.compareBytes, Op.bytesLess]
  | x :: a, y :: b => by
    have ih := cb_lt a b
    simp only [Lib.compareBytes, Op.bytesLess]
    by_cases h : x < y
    · simp [h]
    · by_cases h2 : y < x
      · have : x ≠ y := fun e => by subst e; exact h h2
        simp [h, h2, this]
      · have : x = y := UInt8.le_antisymm (UInt8.not_lt.1 h2) (UInt8.not_lt.1 h)
        subst this
        simpa [h] using ih
theorem cb_eq : ∀ a b : List UInt8, Lib.compareBytes a b = 0 ↔ a = b
  | [], [] => by simp [Lib.compareBytes]
  | [], _ :: _ => by simp [Lib.compareBytes]
  | _ :: _, [] => by simp [Lib.compareBytes]
  | x :: a, y :: b => by
    have ih := cb_eq a b
    simp only [Lib.compareBytes]
    by_cases h : x < y
    · have : x ≠ y := fun e => by subst e; exact absurd h (UInt8.lt_irrefl _)
      simp [h, this]
    · by_cases h2 : y < x
      · have : x ≠ y := fun e => by subst e; exact h h2
        simp [h, h2, this]
      · have : x = y := UInt8.le_antisymm (UInt8.not_lt.1 h2) (UInt8.not_lt.1 h)
        subst this
        simpa [h] using ih
theorem cb_rng : ∀ a b : List UInt8, -1 ≤ Lib.compareBytes a b ∧ Lib.compareBytes a b ≤ 1
  | [], [] => by simp [Lib.compareBytes]
  | [], _ :: _ => by simp [Lib.compareBytes]
  | _ :: _, [] => by simp [Lib.compareBytes]
  | x :: a, y :: b => by
    have ih := cb_rng a b
    simp only [Lib.compareBytes]
    split
    · omega
    · split
      · omega
      · exact ih
theorem cmpS_lt {a b : ByteArray} : cmpS a b < 0 ↔ sless a b = true := by
  unfold cmpS sless
  rw [ByteArray.toList_eq, ByteArray.toList_eq]
  exact cb_lt _ _
theorem cmpS_ge {a b : ByteArray} : ¬ cmpS a b < 0 ↔ sless a b = false := by
  rw [cmpS_lt]; simp
theorem cmpS_eq {a b : ByteArray} : cmpS a b = 0 ↔ a = b := by
  unfold cmpS
  rw [cb_eq]
  exact ⟨fun h => toList_inj (by rw [ByteArray.toList_eq, ByteArray.toList_eq]; exact h), fun h => by rw [h]⟩
theorem run_callV {x : Operand} {f : FuncId} {os : List Operand} {at_ : Array TypeId} {vs : List Value} {d : Option Nat} {ty : TypeId} {pos : String} {af : Array Edge} {gd : Option (Nat × Bool)} (hx : ev S x = .func (.func f) #[] #[]) (hp : plain P f = true) (ha : evL S os = vs) (w : World) :
    (execOp (ev S) ⟨d, .call { callee := .value x, args := ⟨os⟩, argTypes := at_ }, ty, pos, af, gd⟩).run P w = .ok (.enter f ⟨vs⟩) w := by
  subst ha
  have hm : (os.map (ev S)).toArray = ⟨evL S os⟩ := by rw [evL_map]
  simp [execOp, resolve, hx, Deferred.ofValue, invoke, run_callFunc hp, hm]
/-- A call of a function value by a contract. -/
theorem cSFd {v : Value} {x : Operand} {f : FuncId} {xs : List Operand} {at_ : Array TypeId} {vs : List Value} {dst : Option Nat} {ty : TypeId} {pos : String} {af : Array Edge} {gd : Option (Nat × Bool)} (hx : ev S x = .func (.func f) #[] #[]) (hp : plain P f = true) (ha : evL S xs = vs)
    (hc : ∀ w, SF w0 M H A F O w → Calls P f ⟨vs⟩ w fun e w' => e = .returned v ∧ St w [] [] w') :
    Loud P S (SF w0 M H A F O) ⟨dst, .call { callee := .value x, args := ⟨xs⟩, argTypes := at_ }, ty, pos, af, gd⟩ Unit (fun _ => v) (fun _ => SF w0 M H A F O) :=
  loud_call (run_callV hx hp ha) fun w hw => (hc w hw).mono fun _ _ ⟨he, hs⟩ => ⟨(), he, by simpa using hw.call (SF.ofSt hs)⟩
theorem o_half {G : World → Prop} {d : Nat} {ty t t' : TypeId} {pos : String} {af : Array Edge} {gd : Option (Nat × Bool)} {x y : Operand} {a : Int} {n : Nat} (hx : ev S x = .int .u64 a) (hy : ev S y = .int .u64 1) (h : a = (n : Int)) :
    Quiet P S G ⟨some d, .binOp .shr t x y t', ty, pos, af, gd⟩ (.int .u64 ((n / 2 : Nat) : Int)) := by
  have := o_shr (P := P) (G := G) (d := d) (ty := ty) (pos := pos) (af := af) (gd := gd) (t := t) (t' := t') hx hy (by decide)
  rw [show rShr .u64 a 1 = ((n / 2 : Nat) : Int) by
    rw [h]; unfold rShr
    show (n : Int).fdiv 2 = _
    rw [Int.fdiv_eq_ediv_of_nonneg _ (by decide)]; rfl] at this
  exact this
theorem o_extr {G : World → Prop} {d : Nat} {ty : TypeId} {pos : String} {af : Array Edge} {gd : Option (Nat × Bool)} {x : Operand} {vs : List Value} {k : Nat} {v : Value} (hx : ev S x = .tuple ⟨vs⟩) (hk : vs[k]? = some v) : Quiet P S G ⟨some d, .extract x k, ty, pos, af, gd⟩ v := ⟨fun w _ => by
  simp [execOp, hx, Instr.extract, hk]⟩
/-- A value, where a fact is at hand. -/
@[reducible] def lfst {p : Prop} {α : Type} (_ : p) (a : α) : α := a
end Go.Ct
namespace Go.Proofs.Ythmagkjcangnfaa
open Go.RowKit Go.Ct
theorem o_cmpStr {S : List (Nat × Value)} {G : World → Prop} {d : Nat} {ty : TypeId} {pos : String} {af : Array Edge} {gd : Option (Nat × Bool)} {x y : Operand} {t t' : TypeId} {a b : ByteArray} (hx : ev S x = .string a) (hy : ev S y = .string b) :
    Quiet Try.prog S G ⟨some d, .call { callee := .value (.func 132), args := #[x, y], argTypes := #[t, t'] }, ty, pos, af, gd⟩ (.int .i64 (cmpS a b)) := ⟨fun w _ => by
  have := run_callFunc_extern (P := Try.prog) (f := 132) Try.func132 (by kernel_rfl) (by kernel_rfl) (by kernel_rfl) (e := Extern.BytealgCompare.compare) (by kernel_rfl) #[.string a, .string b] w
  rw [Lib.run_compareString] at this
  simp only [execOp, resolve, ev, Deferred.ofValue, invoke]
  simp [hx, hy, this, Result.andThen, cmpS]⟩
theorem cmpStr_c (a b : ByteArray) (w : World) : Calls Try.prog 126 #[.string a, .string b] w fun e w' => e = .returned (.int .i64 (cmpS a b)) ∧ St w [] [] w' := by
  refine enter Try.func126 Try.ntmps126 rfl rfl (SF.s0 w) ?_
  simp only [mkS]
  all_goals (refine k_seq ?_)
  all_goals refine k_region ?_
  all_goals refine j_assignL (fun _ => ?_)
  all_goals refine l_nil ?_
  all_goals (refine k_seq ?_)
  all_goals refine k_region ?_
  all_goals refine j_move ?_
  all_goals refine j_move ?_
  all_goals (refine j_own (loud_of_quiet (o_cmpStr (by exact rfl) (by exact rfl))) (fun x7 => ?_); try (refine l_fact (fun h7 => ?_)))
  all_goals refine j_assignL (fun _ => ?_)
  all_goals refine l_nil ?_
  all_goals
    refine k_retvF Try.results126 (.tmp (by conv => { lhs; whnf }) .nil) (fun w hw => ?_)
    exact ⟨rfl, hw.done⟩
theorem strCmp_c (a b : ByteArray) (w : World) : Calls Try.prog 106 #[.string a, .string b] w fun e w' => e = .returned (.int .i64 (cmpS a b)) ∧ St w [] [] w' := by
  refine enter Try.func106 Try.ntmps106 rfl rfl (SF.s0 w) ?_
  simp only [mkS]
  all_goals (refine k_seq ?_)
  all_goals refine k_region ?_
  all_goals refine j_assignL (fun _ => ?_)
  all_goals refine l_nil ?_
  all_goals (refine k_seq ?_)
  all_goals refine k_region ?_
  all_goals refine j_move ?_
  all_goals refine j_move ?_
  all_goals (refine j_own (cV (hc := fun w1 hw => cmpStr_c a b w1)) (fun x7 => ?_); try (refine l_fact (fun h7 => ?_)))
  all_goals refine j_assignL (fun _ => ?_)
  all_goals refine l_nil ?_
  all_goals
    refine k_retvF Try.results106 (.tmp (by conv => { lhs; whnf }) .nil) (fun w hw => ?_)
    exact ⟨rfl, hw.done⟩
theorem pos1_c (p : Pr) (k : ByteArray) (w : World) : Calls Try.prog 128 #[.agg ⟨[.string p.1, .int .u64 p.2]⟩, .string k] w fun e w' => e = .returned (.int .i64 (cmpS p.1 k)) ∧ St w [] [] w' := by
  refine enter Try.func128 Try.ntmps128 rfl rfl (SF.s0 w) ?_
  simp only [mkS]
  all_goals (refine k_seq ?_)
  all_goals refine k_region ?_
  all_goals refine j_box (fun x2 => ?_)
  all_goals refine j_assignL (fun _ => ?_)
  all_goals refine l_nil ?_
  all_goals (refine k_seq ?_)
  all_goals refine k_region ?_
  all_goals refine j_fieldAddr ?_
  all_goals refine j_load ?_
  all_goals refine j_move ?_
  all_goals (refine j_own (cV (hc := fun w1 hw => strCmp_c p.1 k w1)) (fun x8 => ?_); try (refine l_fact (fun h8 => ?_)))
  all_goals refine j_assignL (fun _ => ?_)
  all_goals refine l_nil ?_
  all_goals
    refine k_retvF Try.results128 (.tmp (by conv => { lhs; whnf }) .nil) (fun w hw => ?_)
    exact ⟨rfl, hw.done⟩
/-- A call of a function value. -/
theorem cVd {S : List (Nat × Value)} {w0 : World} {M : List Nat} {H : List (Nat × Obj)} {A F : Fr} {O : List Ow} {v : Value} {x : Operand} {f : FuncId} {xs : List Operand} {at_ : Array TypeId} {vs : List Value} {dst : Option Nat} {ty : TypeId} {pos : String} {af : Array Edge} {gd : Option (Nat × Bool)} (hx : ev S x = .func (.func f) #[] #[])
    (ha : evL S xs = vs) (hp : plain Try.prog f = true) 
    (hc : ∀ w, SF w0 M H A F O w → Calls Try.prog f ⟨vs⟩ w fun e w' => e = .returned v ∧ St w [] [] w') :
    Loud Try.prog S (SF w0 M H A F O) ⟨dst, .call { callee := .value x, args := ⟨xs⟩, argTypes := at_ }, ty, pos, af, gd⟩ Unit (fun _ => v) (fun _ => SF w0 M H A F O) := cSFd hx hp ha hc
theorem bs_up {l : List Pr} {k : ByteArray} {h : Nat} (hs : SA l) (hh : h < l.length) (hc : sless (l.getD h (⟨#[]⟩, 0)).1 k = true) (j : Nat) (hj : j < h + 1) : sless (l.getD j (⟨#[]⟩, 0)).1 k = true := by
  rcases Nat.lt_succ_iff_lt_or_eq.1 hj with h1 | rfl
  · have := List.pairwise_iff_getElem.1 hs j h (by omega) hh h1
    rw [← getD_get, ← getD_get] at this
    exact sless_trans this hc
  · exact hc
theorem bs_dn {l : List Pr} {k : ByteArray} {h : Nat} (hs : SA l) (hc : sless (l.getD h (⟨#[]⟩, 0)).1 k = false) (j : Nat) (h1 : h ≤ j) (hj : j < l.length) : sless (l.getD j (⟨#[]⟩, 0)).1 k = false := by
  rcases Nat.lt_or_eq_of_le h1 with h2 | rfl
  · have := List.pairwise_iff_getElem.1 hs h j (by omega) hj h2
    rw [← getD_get, ← getD_get] at this
    exact sle_le hc (sless_asymm this)
  · exact hc
theorem bsearch_c {l : List Pr} {a : Option Addr} {c : Nat} {k : ByteArray} {w : World} (ha : Cl w a (prC l)) (hs : SA l) (hlen : l.length ≤ 1099511627776) :
    Calls Try.prog 127 #[.slice a l.length c, .string k, .func (.func 128) #[] #[]] w fun e w' => ∃ i : Nat, e = .returned (.tuple #[.int .i64 (i : Int), .bool (decide (i < l.length ∧ (l.getD i (⟨#[]⟩, 0)).1 = k))]) ∧ PosAt l k i ∧ St w [] [] w' := by
  refine enter Try.func127 Try.ntmps127 rfl rfl (SF.s1 ha) ?_
  simp only [mkS]
  all_goals (refine k_seq ?_)
  all_goals refine k_region ?_
  all_goals refine j_assignL (fun _ => ?_)
  all_goals refine j_assignL (fun _ => ?_)
  all_goals refine l_nil ?_
  all_goals (refine k_seq ?_)
  all_goals refine k_region ?_
  all_goals refine j_move ?_
  all_goals refine j_len ?_
  all_goals refine j_assignL (fun _ => ?_)
  all_goals refine l_nil ?_
  all_goals (refine k_seq ?_)
  all_goals refine k_region ?_
  all_goals refine j_move ?_
  all_goals refine j_assignL (fun _ => ?_)
  all_goals refine j_assignL (fun _ => ?_)
  all_goals refine l_nil ?_
  all_goals (refine k_seq ?_)
  all_goals (refine k_block ?_)
  all_goals
    refine k_loopC [9, 10, 11, 15, 16, 17, 18, 19, 20, 21, 22, 23, 24, 25, 26, 27, 28, 29, 30, 31, 32, 33, 34] (fun x : Nat × Nat => [(9, .int .i64 ((x.1 : Nat) : Int)), (10, .int .i64 ((x.2 : Nat) : Int))]) (fun x => x.1 ≤ x.2 ∧ x.2 ≤ l.length ∧ (∀ j, j < x.1 → sless (l.getD j (⟨#[]⟩, 0)).1 k = true) ∧ (∀ j, x.2 ≤ j → j < l.length → sless (l.getD j (⟨#[]⟩, 0)).1 k = false)) (fun x => x.2 - x.1) ((0, l.length)) (⟨Nat.zero_le _, Nat.le_refl _, fun j hj => absurd hj (Nat.not_lt_zero j), fun j h1 h2 => by omega⟩) ?_ (fun x f hx => ?_)
    · repeat (first | exact knows_nil _ | refine knows_cons (by first | exact rfl | (conv => { lhs; whnf }; simp; done)) ?_)
    dsimp only [mkU, List.map, List.cons_append, List.nil_append]
    all_goals (refine k_seq ?_)
    all_goals (refine k_seq ?_)
    all_goals refine k_region ?_
    all_goals refine j_move ?_
    all_goals refine j_move ?_
    all_goals refine j_lss ?_
    all_goals refine l_nil ?_
    all_goals
      refine k_cond (by exact rfl) (fun c17 => ?_) (fun c17 => ?_)
      · try (exact absurd c17 (by decide))
        all_goals (first | replace c17 := of_decide_eq_true c17 | replace c17 := sbeq_t c17 | replace c17 := sbne_t c17 | replace c17 := ibeq_t c17 | replace c17 := ibne_t c17 | replace c17 := ndec_t c17 | replace c17 := not_t c17 | skip)
        all_goals (refine k_skip ?_)
        all_goals (refine k_block ?_)
        all_goals (refine k_seq ?_)
        all_goals refine k_region ?_
        all_goals refine j_move ?_
        all_goals refine j_move ?_
        all_goals refine j_add ?_
        all_goals refine j_convert ?_
        all_goals refine l_quiet (o_half (n := x.1 + x.2) (by exact rfl) (by exact rfl) (by omega)) rfl ?_
        all_goals refine j_convert ?_
        all_goals refine j_assignL (fun _ => ?_)
        all_goals refine l_nil ?_
        all_goals (refine k_seq ?_)
        all_goals refine k_region ?_
        all_goals refine j_move ?_
        all_goals refine j_move ?_
        all_goals refine j_move ?_
        all_goals refine j_indexAddr ?_
        all_goals refine j_load ?_
        all_goals refine j_move ?_
        all_goals (refine j_own (by first | exact cVd (v := .int .i64 (cmpS (l.getD ((x.1 + x.2) / 2) (⟨#[]⟩, 0)).1 k)) (by exact rfl) (by (repeat (first | exact evL_nil _ | (apply evL_cons; focus ((conv => { lhs; whnf }); try exact rfl)))); first | done | fail) (by kernel_rfl) (fun w1 hw => pos1_c _ k w1) | exact cVd (v := .int .i64 (cmpS (l.getD x.1 (⟨#[]⟩, 0)).1 k)) (by exact rfl) (by (repeat (first | exact evL_nil _ | (apply evL_cons; focus ((conv => { lhs; whnf }); try exact rfl)))); first | done | fail) (by kernel_rfl) (fun w1 hw => pos1_c _ k w1)) (fun x30 => ?_); try (refine l_fact (fun h30 => ?_)))
        all_goals refine j_lss ?_
        all_goals refine l_nil ?_
        all_goals
          refine k_cond (by exact rfl) (fun c31 => ?_) (fun c31 => ?_)
          · try (exact absurd c31 (by decide))
            all_goals (first | replace c31 := of_decide_eq_true c31 | replace c31 := sbeq_t c31 | replace c31 := sbne_t c31 | replace c31 := ibeq_t c31 | replace c31 := ibne_t c31 | replace c31 := ndec_t c31 | replace c31 := not_t c31 | skip)
            all_goals refine k_region ?_
            all_goals refine j_move ?_
            all_goals refine j_inc ?_
            all_goals refine j_assignL (fun _ => ?_)
            all_goals refine l_nil ?_
            all_goals (refine k_blk ?_)
            all_goals
              refine k_roundC ((by first | exact lfst (p := cmpS _ _ < 0) c31 ((x.1 + x.2) / 2 + 1, x.2) | exact (x.1, (x.1 + x.2) / 2))) ?_ ?_ ?_
              · first | omega | (simp only []; omega)
              · repeat' (first | exact knows_nil _ | refine knows_cons ?_ ?_)
                all_goals (first | exact rfl | (conv => { lhs; whnf }; simp; done) | (conv => { lhs; whnf }; congr 1; omega))
              · obtain ⟨q1, q2, q3, q4⟩ := hx
                first
                | exact ⟨by show (x.1 + x.2) / 2 + 1 ≤ x.2; omega, q2, bs_up hs (by omega) (cmpS_lt.1 c31), q4⟩
                | exact ⟨by show x.1 ≤ (x.1 + x.2) / 2; omega, by show (x.1 + x.2) / 2 ≤ l.length; omega, q3, bs_dn hs (cmpS_ge.1 c31)⟩
          · try (exact absurd c31 (by decide))
            all_goals (first | replace c31 := of_decide_eq_false c31 | replace c31 := sbeq_f c31 | replace c31 := sbne_f c31 | replace c31 := ibeq_f c31 | replace c31 := ibne_f c31 | replace c31 := ndec_f c31 | replace c31 := not_f c31 | skip)
            all_goals refine k_region ?_
            all_goals refine j_move ?_
            all_goals refine j_assignL (fun _ => ?_)
            all_goals refine l_nil ?_
            all_goals (refine k_blk ?_)
            all_goals
              refine k_roundC ((by first | exact lfst (p := cmpS _ _ < 0) c31 ((x.1 + x.2) / 2 + 1, x.2) | exact (x.1, (x.1 + x.2) / 2))) ?_ ?_ ?_
              · first | omega | (simp only []; omega)
              · repeat' (first | exact knows_nil _ | refine knows_cons ?_ ?_)
                all_goals (first | exact rfl | (conv => { lhs; whnf }; simp; done) | (conv => { lhs; whnf }; congr 1; omega))
              · obtain ⟨q1, q2, q3, q4⟩ := hx
                first
                | exact ⟨by show (x.1 + x.2) / 2 + 1 ≤ x.2; omega, q2, bs_up hs (by omega) (cmpS_lt.1 c31), q4⟩
                | exact ⟨by show x.1 ≤ (x.1 + x.2) / 2; omega, by show (x.1 + x.2) / 2 ≤ l.length; omega, q3, bs_dn hs (cmpS_ge.1 c31)⟩
      · try (exact absurd c17 (by decide))
        all_goals (first | replace c17 := of_decide_eq_false c17 | replace c17 := sbeq_f c17 | replace c17 := sbne_f c17 | replace c17 := ibeq_f c17 | replace c17 := ibne_f c17 | replace c17 := ndec_f c17 | replace c17 := not_f c17 | skip)
        all_goals (refine k_exit rfl ?_)
        all_goals (refine k_seq ?_)
        all_goals refine k_region ?_
        all_goals refine j_move ?_
        all_goals refine j_move ?_
        all_goals refine j_move ?_
        all_goals refine j_lss ?_
        all_goals refine j_move ?_
        all_goals (first | refine j_un ?_ | (refine j_yes ?_; refine j_move ?_) | (refine l_case (g := 39) (by exact rfl) (fun g39 => ?_) (fun g39 => ?_) <;> (first | replace g39 := of_decide_eq_true g39 | replace g39 := of_decide_eq_false g39 | skip) <;> (first | refine j_un ?_ | (refine j_yes ?_; refine j_move ?_))))
        all_goals (first | refine j_un ?_ | (refine j_yes ?_; refine j_move ?_) | (refine l_case (g := 39) (by exact rfl) (fun g39 => ?_) (fun g39 => ?_) <;> (first | replace g39 := of_decide_eq_true g39 | replace g39 := of_decide_eq_false g39 | skip) <;> (first | refine j_un ?_ | (refine j_yes ?_; refine j_move ?_))))
        all_goals (first | refine j_un ?_ | (refine j_yes ?_; refine j_move ?_) | (refine l_case (g := 39) (by exact rfl) (fun g39 => ?_) (fun g39 => ?_) <;> (first | replace g39 := of_decide_eq_true g39 | replace g39 := of_decide_eq_false g39 | skip) <;> (first | refine j_un ?_ | (refine j_yes ?_; refine j_move ?_))))
        all_goals (first | refine j_un ?_ | (refine j_yes ?_; refine j_indexAddr ?_) | (refine l_case (g := 39) (by exact rfl) (fun g39 => ?_) (fun g39 => ?_) <;> (first | replace g39 := of_decide_eq_true g39 | replace g39 := of_decide_eq_false g39 | skip) <;> (first | refine j_un ?_ | (refine j_yes ?_; refine j_indexAddr ?_))))
        all_goals (first | refine j_un ?_ | (refine j_yes ?_; refine j_load ?_) | (refine l_case (g := 39) (by exact rfl) (fun g39 => ?_) (fun g39 => ?_) <;> (first | replace g39 := of_decide_eq_true g39 | replace g39 := of_decide_eq_false g39 | skip) <;> (first | refine j_un ?_ | (refine j_yes ?_; refine j_load ?_))))
        all_goals (first | refine j_un ?_ | (refine j_yes ?_; refine j_move ?_) | (refine l_case (g := 39) (by exact rfl) (fun g39 => ?_) (fun g39 => ?_) <;> (first | replace g39 := of_decide_eq_true g39 | replace g39 := of_decide_eq_false g39 | skip) <;> (first | refine j_un ?_ | (refine j_yes ?_; refine j_move ?_))))
        all_goals (first | refine j_un ?_ | (refine j_yes ?_; (refine j_own (by first | exact cVd (v := .int .i64 (cmpS (l.getD ((x.1 + x.2) / 2) (⟨#[]⟩, 0)).1 k)) (by exact rfl) (by (repeat (first | exact evL_nil _ | (apply evL_cons; focus ((conv => { lhs; whnf }); try exact rfl)))); first | done | fail) (by kernel_rfl) (fun w1 hw => pos1_c _ k w1) | exact cVd (v := .int .i64 (cmpS (l.getD x.1 (⟨#[]⟩, 0)).1 k)) (by exact rfl) (by (repeat (first | exact evL_nil _ | (apply evL_cons; focus ((conv => { lhs; whnf }); try exact rfl)))); first | done | fail) (by kernel_rfl) (fun w1 hw => pos1_c _ k w1)) (fun x46 => ?_); try (refine l_fact (fun h46 => ?_)))) | (refine l_case (g := 39) (by exact rfl) (fun g39 => ?_) (fun g39 => ?_) <;> (first | replace g39 := of_decide_eq_true g39 | replace g39 := of_decide_eq_false g39 | skip) <;> (first | refine j_un ?_ | (refine j_yes ?_; (refine j_own (by first | exact cVd (v := .int .i64 (cmpS (l.getD ((x.1 + x.2) / 2) (⟨#[]⟩, 0)).1 k)) (by exact rfl) (by (repeat (first | exact evL_nil _ | (apply evL_cons; focus ((conv => { lhs; whnf }); try exact rfl)))); first | done | fail) (by kernel_rfl) (fun w1 hw => pos1_c _ k w1) | exact cVd (v := .int .i64 (cmpS (l.getD x.1 (⟨#[]⟩, 0)).1 k)) (by exact rfl) (by (repeat (first | exact evL_nil _ | (apply evL_cons; focus ((conv => { lhs; whnf }); try exact rfl)))); first | done | fail) (by kernel_rfl) (fun w1 hw => pos1_c _ k w1)) (fun x46 => ?_); try (refine l_fact (fun h46 => ?_)))))))
        all_goals (first | refine j_un ?_ | (refine j_yes ?_; refine j_eql ?_) | (refine l_case (g := 39) (by exact rfl) (fun g39 => ?_) (fun g39 => ?_) <;> (first | replace g39 := of_decide_eq_true g39 | replace g39 := of_decide_eq_false g39 | skip) <;> (first | refine j_un ?_ | (refine j_yes ?_; refine j_eql ?_))))
        all_goals refine j_pick ?_
        all_goals refine j_assignL (fun _ => ?_)
        all_goals refine j_assignL (fun _ => ?_)
        all_goals refine l_nil ?_
        all_goals
          refine k_retvF Try.results127 (.tmp (by conv => { lhs; whnf }) (.tmp (by conv => { lhs; whnf }) .nil)) (fun w hw => ?_)
          obtain ⟨q1, q2, q3, q4⟩ := hx
          refine ⟨x.1, ?_, ⟨by omega, q3, fun j h1 h2 => q4 j (by omega) h2⟩, hw.done⟩
          first
          | (rw [show (cmpS (l.getD x.1 (⟨#[]⟩, 0)).1 k == 0) = decide (x.1 < l.length ∧ (l.getD x.1 (⟨#[]⟩, 0)).1 = k) by rw [Bool.eq_iff_iff]; simp only [beq_iff_eq, decide_eq_true_eq, cmpS_eq]; exact ⟨fun h => ⟨by omega, h⟩, fun h => h.2⟩]; rfl)
          | (rw [show decide (x.1 < l.length ∧ (l.getD x.1 (⟨#[]⟩, 0)).1 = k) = false from decide_eq_false (by omega)]; rfl)
end Go.Proofs.Ythmagkjcangnfaa
