/- NodeValid: the walk. -/
import Derived.Test.YthmagkjcangnfaaNode8
import Derived.Test.YthmagkjcangnfaaNode5
import Derived.Test.YthmagkjcangnfaaTape3
import Derived.Test.YthmagkjcangnfaaShort
import Derived.Test.YthmagkjcangnfaaOpen2
set_option linter.unusedSimpArgs false
set_option linter.unusedVariables false
namespace Go.Proofs.Ythmagkjcangnfaa
open Go.RowKit Go.Ct

/-- What the walk asks of a node. -/
structure Fine (n : Nd) (xs : List Int) (ys : List Pr) : Prop where
  brN : n.brN = xs.length
  prN : n.prN = ys.length
  xs : xs.length ≤ 1000
  ys : ys.length ≤ 1000
  bm : ∃ b : Nat, n.bm = (b : Int) ∧ b < 18446744073709551616
  key : n.key.size ≤ 140737488351232
theorem Fine.rep {n : Nd} {xs : List Int} {ys : List Pr} (h : Fine n xs ys) {w : World} (h1 : Cl w n.brA (refsC xs)) (h2 : Cl w n.prA (prC ys)) : Rep w n xs ys := ⟨h.brN, h.prN, h1, h2, by have := h.xs; omega, by have := h.ys; omega⟩
/-- The changed node: its lists are the old ones, or new. -/
structure Chd (n : Nd) (xs : List Int) (ys : List Pr) (m : Nd) (xs2 : List Int) (ys2 : List Pr) (fa fp : Option Addr) (fx : List Int) (fy : List Pr) : Prop where
  fine : Fine m xs2 ys2
  br : (m.brA = n.brA ∧ xs2 = xs) ∨ (m.brA = fa ∧ xs2 = fx)
  pr : (m.prA = n.prA ∧ ys2 = ys) ∨ (m.prA = fp ∧ ys2 = fy)
theorem Chd.rep {n : Nd} {xs : List Int} {ys : List Pr} {m : Nd} {xs2 : List Int} {ys2 : List Pr} {fa fp : Option Addr} {fx : List Int} {fy : List Pr} (h : Chd n xs ys m xs2 ys2 fa fp fx fy) {w : World} (h1 : Cl w n.brA (refsC xs)) (h2 : Cl w n.prA (prC ys)) (h3 : Cl w fa (refsC fx)) (h4 : Cl w fp (prC fy)) : Rep w m xs2 ys2 := by
  refine h.fine.rep ?_ ?_
  · rcases h.br with ⟨e1, e2⟩ | ⟨e1, e2⟩ <;> rw [e1, e2] <;> assumption
  · rcases h.pr with ⟨e1, e2⟩ | ⟨e1, e2⟩ <;> rw [e1, e2] <;> assumption
theorem chd_same {n m : Nd} {xs : List Int} {ys : List Pr} (h : Fine m xs ys) (h1 : m.brA = n.brA := by rfl) (h2 : m.prA = n.prA := by rfl) : Chd n xs ys m xs ys none none [] [] := ⟨h, .inl ⟨h1, rfl⟩, .inl ⟨h2, rfl⟩⟩
theorem fine_mk' {n : Nd} {xs : List Int} {ys : List Pr} (hx : xs.length ≤ 100) (hy : ys.length ≤ 40) (hb : ∃ b : Nat, n.bm = (b : Int) ∧ b < 18446744073709551616) (hk : n.key.size ≤ 140737488351232) (h1 : n.brN = xs.length := by rfl) (h2 : n.prN = ys.length := by rfl) : Fine n xs ys := ⟨h1, h2, by omega, by omega, hb, hk⟩
theorem fine_mk {n : Nd} {xs : List Int} {ys : List Pr} {b : Nat} (hx : xs.length ≤ 100) (hy : ys.length ≤ 40) (hb2 : b < 18446744073709551616) (hk : n.key.size ≤ 140737488351232) (hb : n.bm = (b : Int) := by rfl) (h1 : n.brN = xs.length := by rfl) (h2 : n.prN = ys.length := by rfl) : Fine n xs ys := ⟨h1, h2, by omega, by omega, ⟨b, hb, hb2⟩, hk⟩
theorem flip_ok {b : Nat} (hb : b < 18446744073709551616) (v : Int) : ∃ q : Nat, rXor .u64 (b : Int) (rShl .u64 1 (modv v 64)) = (q : Int) ∧ q < 18446744073709551616 := by
  have hm := modv_bound (v := v) (n := 64) (by decide) (by decide)
  obtain ⟨k, hk⟩ := Int.eq_ofNat_of_zero_le hm.1
  have hk64 : k < 64 := by omega
  have hp := Nat.pow_lt_pow_right (a := 2) (by decide) hk64
  rw [hk, rShl_one hk64, rXor_nat hb (by omega)]
  exact ⟨_, rfl, Nat.xor_lt_two_pow (n := 64) hb hp⟩
theorem changed_c {n : Nd} {xs : List Int} {ys : List Pr} {w : World} (field v : Int) (hr : Rep w n xs ys) (hx : xs.length ≤ 100) (hy : ys.length ≤ 40) {b : Nat} (hb : n.bm = (b : Int)) (hb2 : b < 18446744073709551616) (hk : n.key.size ≤ 140737488351000) :
    Calls Try.prog 31 #[n.v, .int .i64 field, .int .i64 v] w fun e w' =>
    ∃ x : Nd × List Int × List Pr × Option Addr × Option Addr × List Int × List Pr, e = .returned x.1.v ∧ Chd n xs ys x.1 x.2.1 x.2.2.1 x.2.2.2.1 x.2.2.2.2.1 x.2.2.2.2.2.1 x.2.2.2.2.2.2 ∧ SF w [] [] [] [(x.2.2.2.1, refsC x.2.2.2.2.2.1), (x.2.2.2.2.1, prC x.2.2.2.2.2.2)] [] w' := by
  have e1 := hr.brN; have e2 := hr.prN
  obtain ⟨kind, gen, main, bm, brA, brN, brC, hash, key, val, prA, prN, prK, prev, old, exp, new, status⟩ := n
  simp only at e1 e2 hb hk
  subst e1 e2 hb
  have hk2 : key.size ≤ 140737488351232 := by omega
  have hmv := modv_bound (v := v) (n := 64) (by decide) (by decide)
  refine enter Try.func31 Try.ntmps31 rfl rfl (SF.s2 hr.br hr.pr) ?_
  simp only [mkS]
  simp only [Nd.v, Nd.cells]
  all_goals (refine k_seq ?_)
  all_goals refine k_region ?_
  all_goals refine j_box (fun x3 => ?_)
  all_goals refine j_alloc (fun x6 => ?_)
  all_goals refine l_nil ?_
  all_goals (refine k_seq ?_)
  all_goals (refine k_seq ?_)
  all_goals refine k_region ?_
  all_goals refine j_move ?_
  all_goals (refine j_own (by first | exact cV (hc := fun w1 hw => mod_c field 13 w1 (by rw [wrap_u64]; decide)) | exact cV (hc := fun w1 hw => mod_c v 64 w1 (by rw [wrap_u64]; decide))) (fun x8 => ?_); try (refine l_fact (fun h8 => ?_)))
  all_goals refine l_nil ?_
  all_goals (refine k_block ?_)
  all_goals (refine k_seq ?_)
  all_goals refine k_region ?_
  all_goals refine j_eql ?_
  all_goals refine j_assignL (fun _ => ?_)
  all_goals refine l_nil ?_
  all_goals
    refine k_cond (by exact rfl) (fun c9 => ?_) (fun c9 => ?_)
    · try (exact absurd c9 (by decide))
      all_goals (first | replace c9 := of_decide_eq_true c9 | replace c9 := sbeq_t c9 | replace c9 := sbne_t c9 | replace c9 := ibeq_t c9 | replace c9 := ibne_t c9 | replace c9 := ndec_t c9 | replace c9 := not_t c9 | skip)
      all_goals refine k_region ?_
      all_goals refine j_move ?_
      all_goals refine j_fieldAddr ?_
      all_goals refine j_store (fun _ => ?_)
      all_goals refine l_nil ?_
      all_goals (refine k_blk ?_)
      all_goals (refine k_seq ?_)
      all_goals refine k_region ?_
      all_goals refine j_load ?_
      all_goals refine j_store (fun _ => ?_)
      all_goals refine l_nil ?_
      all_goals
        refine k_retvF Try.results31 (.cell (by exact rfl) (by repeat (first | exact At.head | apply At.tail)) (by exact agg_of rfl) .nil) (fun w hw => ?_)
        first | exact ⟨((⟨v, gen, main, (b : Int), brA, xs.length, brC, hash, key, val, prA, ys.length, prK, prev, old, exp, new, status⟩ : Nd), xs, ys, none, none, [], []), rfl, chd_same (fine_mk hx hy hb2 hk2), ((hw.fnil none).fnil none).fin⟩ | exact ⟨((⟨kind, v, main, (b : Int), brA, xs.length, brC, hash, key, val, prA, ys.length, prK, prev, old, exp, new, status⟩ : Nd), xs, ys, none, none, [], []), rfl, chd_same (fine_mk hx hy hb2 hk2), ((hw.fnil none).fnil none).fin⟩ | exact ⟨((⟨kind, gen, v, (b : Int), brA, xs.length, brC, hash, key, val, prA, ys.length, prK, prev, old, exp, new, status⟩ : Nd), xs, ys, none, none, [], []), rfl, chd_same (fine_mk hx hy hb2 hk2), ((hw.fnil none).fnil none).fin⟩ | exact ⟨((⟨kind, gen, main, (b : Int), brA, xs.length, brC, hash, key, val, prA, ys.length, prK, v, old, exp, new, status⟩ : Nd), xs, ys, none, none, [], []), rfl, chd_same (fine_mk hx hy hb2 hk2), ((hw.fnil none).fnil none).fin⟩ | exact ⟨((⟨kind, gen, main, (b : Int), brA, xs.length, brC, hash, key, val, prA, ys.length, prK, prev, v, exp, new, status⟩ : Nd), xs, ys, none, none, [], []), rfl, chd_same (fine_mk hx hy hb2 hk2), ((hw.fnil none).fnil none).fin⟩ | exact ⟨((⟨kind, gen, main, (b : Int), brA, xs.length, brC, hash, key, val, prA, ys.length, prK, prev, old, v, new, status⟩ : Nd), xs, ys, none, none, [], []), rfl, chd_same (fine_mk hx hy hb2 hk2), ((hw.fnil none).fnil none).fin⟩ | exact ⟨((⟨kind, gen, main, (b : Int), brA, xs.length, brC, hash, key, val, prA, ys.length, prK, prev, old, exp, new, v⟩ : Nd), xs, ys, none, none, [], []), rfl, chd_same (fine_mk hx hy hb2 hk2), ((hw.fnil none).fnil none).fin⟩ | exact ⟨((⟨kind, gen, main, (b : Int), brA, xs.length, brC, IntKind.u64.wrap v, key, val, prA, ys.length, prK, prev, old, exp, new, status⟩ : Nd), xs, ys, none, none, [], []), rfl, chd_same (fine_mk hx hy hb2 hk2), ((hw.fnil none).fnil none).fin⟩ | exact ⟨((⟨kind, gen, main, (b : Int), brA, xs.length, brC, hash, key, IntKind.u64.wrap v, prA, ys.length, prK, prev, old, exp, new, status⟩ : Nd), xs, ys, none, none, [], []), rfl, chd_same (fine_mk hx hy hb2 hk2), ((hw.fnil none).fnil none).fin⟩ | exact ⟨((⟨kind, gen, main, rXor .u64 (b : Int) (rShl .u64 1 (modv v 64)), brA, xs.length, brC, hash, key, val, prA, ys.length, prK, prev, old, exp, new, status⟩ : Nd), xs, ys, none, none, [], []), rfl, chd_same (fine_mk' hx hy (flip_ok hb2 v) hk2), ((hw.fnil none).fnil none).fin⟩ | exact ⟨((⟨kind, gen, main, (b : Int), brA, xs.length, brC, hash, key ++ ⟨#[120]⟩, val, prA, ys.length, prK, prev, old, exp, new, status⟩ : Nd), xs, ys, none, none, [], []), rfl, chd_same (fine_mk hx hy hb2 (by rw [ByteArray.size_append]; have h2 : (⟨#[120]⟩ : ByteArray).size = 1 := rfl; omega)), ((hw.fnil none).fnil none).fin⟩ | exact ⟨((⟨kind, gen, main, (b : Int), x39.1, 0 + xs.length + 1, x39.2, hash, key, val, prA, ys.length, prK, prev, old, exp, new, status⟩ : Nd), [] ++ xs ++ [v], ys, x39.1, none, [] ++ xs ++ [v], []), rfl, ⟨⟨by simp, rfl, by simp; omega, (show ys.length ≤ 1000 by omega), ⟨b, rfl, hb2⟩, hk2⟩, .inr ⟨rfl, rfl⟩, .inl ⟨rfl, rfl⟩⟩, ((hw.freeze .head (by simp)).fnil none).fin⟩ | exact ⟨((⟨kind, gen, main, (b : Int), brA, xs.length, brC, hash, key, val, x65.1, 0 + ys.length + 1, x65.2, prev, old, exp, new, status⟩ : Nd), xs, [] ++ ys ++ [(⟨#[97]⟩, 0)], none, x65.1, [], [] ++ ys ++ [(⟨#[97]⟩, 0)]), rfl, ⟨⟨rfl, by simp, (show xs.length ≤ 1000 by omega), by simp; omega, ⟨b, rfl, hb2⟩, hk2⟩, .inl ⟨rfl, rfl⟩, .inr ⟨rfl, rfl⟩⟩, ((hw.freeze .head (by simp)).fnil none).fin⟩ | exact ⟨((⟨kind, gen, main, (b : Int), brA, xs.length, brC, hash, key, val, prA, ys.length, prK, prev, old, exp, new, status⟩ : Nd), xs, ys, none, none, [], []), rfl, chd_same (fine_mk hx hy hb2 hk2), ((hw.fnil none).fnil none).fin⟩
    · try (exact absurd c9 (by decide))
      all_goals (first | replace c9 := of_decide_eq_false c9 | replace c9 := sbeq_f c9 | replace c9 := sbne_f c9 | replace c9 := ibeq_f c9 | replace c9 := ibne_f c9 | replace c9 := ndec_f c9 | replace c9 := not_f c9 | skip)
      all_goals (refine k_seq ?_)
      all_goals refine k_region ?_
      all_goals refine j_eql ?_
      all_goals refine j_assignL (fun _ => ?_)
      all_goals refine l_nil ?_
      all_goals
        refine k_cond (by exact rfl) (fun c13 => ?_) (fun c13 => ?_)
        · try (exact absurd c13 (by decide))
          all_goals (first | replace c13 := of_decide_eq_true c13 | replace c13 := sbeq_t c13 | replace c13 := sbne_t c13 | replace c13 := ibeq_t c13 | replace c13 := ibne_t c13 | replace c13 := ndec_t c13 | replace c13 := not_t c13 | skip)
          all_goals refine k_region ?_
          all_goals refine j_move ?_
          all_goals refine j_fieldAddr ?_
          all_goals refine j_store (fun _ => ?_)
          all_goals refine l_nil ?_
          all_goals (refine k_blk ?_)
          all_goals (refine k_seq ?_)
          all_goals refine k_region ?_
          all_goals refine j_load ?_
          all_goals refine j_store (fun _ => ?_)
          all_goals refine l_nil ?_
          all_goals
            refine k_retvF Try.results31 (.cell (by exact rfl) (by repeat (first | exact At.head | apply At.tail)) (by exact agg_of rfl) .nil) (fun w hw => ?_)
            first | exact ⟨((⟨v, gen, main, (b : Int), brA, xs.length, brC, hash, key, val, prA, ys.length, prK, prev, old, exp, new, status⟩ : Nd), xs, ys, none, none, [], []), rfl, chd_same (fine_mk hx hy hb2 hk2), ((hw.fnil none).fnil none).fin⟩ | exact ⟨((⟨kind, v, main, (b : Int), brA, xs.length, brC, hash, key, val, prA, ys.length, prK, prev, old, exp, new, status⟩ : Nd), xs, ys, none, none, [], []), rfl, chd_same (fine_mk hx hy hb2 hk2), ((hw.fnil none).fnil none).fin⟩ | exact ⟨((⟨kind, gen, v, (b : Int), brA, xs.length, brC, hash, key, val, prA, ys.length, prK, prev, old, exp, new, status⟩ : Nd), xs, ys, none, none, [], []), rfl, chd_same (fine_mk hx hy hb2 hk2), ((hw.fnil none).fnil none).fin⟩ | exact ⟨((⟨kind, gen, main, (b : Int), brA, xs.length, brC, hash, key, val, prA, ys.length, prK, v, old, exp, new, status⟩ : Nd), xs, ys, none, none, [], []), rfl, chd_same (fine_mk hx hy hb2 hk2), ((hw.fnil none).fnil none).fin⟩ | exact ⟨((⟨kind, gen, main, (b : Int), brA, xs.length, brC, hash, key, val, prA, ys.length, prK, prev, v, exp, new, status⟩ : Nd), xs, ys, none, none, [], []), rfl, chd_same (fine_mk hx hy hb2 hk2), ((hw.fnil none).fnil none).fin⟩ | exact ⟨((⟨kind, gen, main, (b : Int), brA, xs.length, brC, hash, key, val, prA, ys.length, prK, prev, old, v, new, status⟩ : Nd), xs, ys, none, none, [], []), rfl, chd_same (fine_mk hx hy hb2 hk2), ((hw.fnil none).fnil none).fin⟩ | exact ⟨((⟨kind, gen, main, (b : Int), brA, xs.length, brC, hash, key, val, prA, ys.length, prK, prev, old, exp, new, v⟩ : Nd), xs, ys, none, none, [], []), rfl, chd_same (fine_mk hx hy hb2 hk2), ((hw.fnil none).fnil none).fin⟩ | exact ⟨((⟨kind, gen, main, (b : Int), brA, xs.length, brC, IntKind.u64.wrap v, key, val, prA, ys.length, prK, prev, old, exp, new, status⟩ : Nd), xs, ys, none, none, [], []), rfl, chd_same (fine_mk hx hy hb2 hk2), ((hw.fnil none).fnil none).fin⟩ | exact ⟨((⟨kind, gen, main, (b : Int), brA, xs.length, brC, hash, key, IntKind.u64.wrap v, prA, ys.length, prK, prev, old, exp, new, status⟩ : Nd), xs, ys, none, none, [], []), rfl, chd_same (fine_mk hx hy hb2 hk2), ((hw.fnil none).fnil none).fin⟩ | exact ⟨((⟨kind, gen, main, rXor .u64 (b : Int) (rShl .u64 1 (modv v 64)), brA, xs.length, brC, hash, key, val, prA, ys.length, prK, prev, old, exp, new, status⟩ : Nd), xs, ys, none, none, [], []), rfl, chd_same (fine_mk' hx hy (flip_ok hb2 v) hk2), ((hw.fnil none).fnil none).fin⟩ | exact ⟨((⟨kind, gen, main, (b : Int), brA, xs.length, brC, hash, key ++ ⟨#[120]⟩, val, prA, ys.length, prK, prev, old, exp, new, status⟩ : Nd), xs, ys, none, none, [], []), rfl, chd_same (fine_mk hx hy hb2 (by rw [ByteArray.size_append]; have h2 : (⟨#[120]⟩ : ByteArray).size = 1 := rfl; omega)), ((hw.fnil none).fnil none).fin⟩ | exact ⟨((⟨kind, gen, main, (b : Int), x39.1, 0 + xs.length + 1, x39.2, hash, key, val, prA, ys.length, prK, prev, old, exp, new, status⟩ : Nd), [] ++ xs ++ [v], ys, x39.1, none, [] ++ xs ++ [v], []), rfl, ⟨⟨by simp, rfl, by simp; omega, (show ys.length ≤ 1000 by omega), ⟨b, rfl, hb2⟩, hk2⟩, .inr ⟨rfl, rfl⟩, .inl ⟨rfl, rfl⟩⟩, ((hw.freeze .head (by simp)).fnil none).fin⟩ | exact ⟨((⟨kind, gen, main, (b : Int), brA, xs.length, brC, hash, key, val, x65.1, 0 + ys.length + 1, x65.2, prev, old, exp, new, status⟩ : Nd), xs, [] ++ ys ++ [(⟨#[97]⟩, 0)], none, x65.1, [], [] ++ ys ++ [(⟨#[97]⟩, 0)]), rfl, ⟨⟨rfl, by simp, (show xs.length ≤ 1000 by omega), by simp; omega, ⟨b, rfl, hb2⟩, hk2⟩, .inl ⟨rfl, rfl⟩, .inr ⟨rfl, rfl⟩⟩, ((hw.freeze .head (by simp)).fnil none).fin⟩ | exact ⟨((⟨kind, gen, main, (b : Int), brA, xs.length, brC, hash, key, val, prA, ys.length, prK, prev, old, exp, new, status⟩ : Nd), xs, ys, none, none, [], []), rfl, chd_same (fine_mk hx hy hb2 hk2), ((hw.fnil none).fnil none).fin⟩
        · try (exact absurd c13 (by decide))
          all_goals (first | replace c13 := of_decide_eq_false c13 | replace c13 := sbeq_f c13 | replace c13 := sbne_f c13 | replace c13 := ibeq_f c13 | replace c13 := ibne_f c13 | replace c13 := ndec_f c13 | replace c13 := not_f c13 | skip)
          all_goals (refine k_seq ?_)
          all_goals refine k_region ?_
          all_goals refine j_eql ?_
          all_goals refine j_assignL (fun _ => ?_)
          all_goals refine l_nil ?_
          all_goals
            refine k_cond (by exact rfl) (fun c17 => ?_) (fun c17 => ?_)
            · try (exact absurd c17 (by decide))
              all_goals (first | replace c17 := of_decide_eq_true c17 | replace c17 := sbeq_t c17 | replace c17 := sbne_t c17 | replace c17 := ibeq_t c17 | replace c17 := ibne_t c17 | replace c17 := ndec_t c17 | replace c17 := not_t c17 | skip)
              all_goals refine k_region ?_
              all_goals refine j_move ?_
              all_goals refine j_fieldAddr ?_
              all_goals refine j_store (fun _ => ?_)
              all_goals refine l_nil ?_
              all_goals (refine k_blk ?_)
              all_goals (refine k_seq ?_)
              all_goals refine k_region ?_
              all_goals refine j_load ?_
              all_goals refine j_store (fun _ => ?_)
              all_goals refine l_nil ?_
              all_goals
                refine k_retvF Try.results31 (.cell (by exact rfl) (by repeat (first | exact At.head | apply At.tail)) (by exact agg_of rfl) .nil) (fun w hw => ?_)
                first | exact ⟨((⟨v, gen, main, (b : Int), brA, xs.length, brC, hash, key, val, prA, ys.length, prK, prev, old, exp, new, status⟩ : Nd), xs, ys, none, none, [], []), rfl, chd_same (fine_mk hx hy hb2 hk2), ((hw.fnil none).fnil none).fin⟩ | exact ⟨((⟨kind, v, main, (b : Int), brA, xs.length, brC, hash, key, val, prA, ys.length, prK, prev, old, exp, new, status⟩ : Nd), xs, ys, none, none, [], []), rfl, chd_same (fine_mk hx hy hb2 hk2), ((hw.fnil none).fnil none).fin⟩ | exact ⟨((⟨kind, gen, v, (b : Int), brA, xs.length, brC, hash, key, val, prA, ys.length, prK, prev, old, exp, new, status⟩ : Nd), xs, ys, none, none, [], []), rfl, chd_same (fine_mk hx hy hb2 hk2), ((hw.fnil none).fnil none).fin⟩ | exact ⟨((⟨kind, gen, main, (b : Int), brA, xs.length, brC, hash, key, val, prA, ys.length, prK, v, old, exp, new, status⟩ : Nd), xs, ys, none, none, [], []), rfl, chd_same (fine_mk hx hy hb2 hk2), ((hw.fnil none).fnil none).fin⟩ | exact ⟨((⟨kind, gen, main, (b : Int), brA, xs.length, brC, hash, key, val, prA, ys.length, prK, prev, v, exp, new, status⟩ : Nd), xs, ys, none, none, [], []), rfl, chd_same (fine_mk hx hy hb2 hk2), ((hw.fnil none).fnil none).fin⟩ | exact ⟨((⟨kind, gen, main, (b : Int), brA, xs.length, brC, hash, key, val, prA, ys.length, prK, prev, old, v, new, status⟩ : Nd), xs, ys, none, none, [], []), rfl, chd_same (fine_mk hx hy hb2 hk2), ((hw.fnil none).fnil none).fin⟩ | exact ⟨((⟨kind, gen, main, (b : Int), brA, xs.length, brC, hash, key, val, prA, ys.length, prK, prev, old, exp, new, v⟩ : Nd), xs, ys, none, none, [], []), rfl, chd_same (fine_mk hx hy hb2 hk2), ((hw.fnil none).fnil none).fin⟩ | exact ⟨((⟨kind, gen, main, (b : Int), brA, xs.length, brC, IntKind.u64.wrap v, key, val, prA, ys.length, prK, prev, old, exp, new, status⟩ : Nd), xs, ys, none, none, [], []), rfl, chd_same (fine_mk hx hy hb2 hk2), ((hw.fnil none).fnil none).fin⟩ | exact ⟨((⟨kind, gen, main, (b : Int), brA, xs.length, brC, hash, key, IntKind.u64.wrap v, prA, ys.length, prK, prev, old, exp, new, status⟩ : Nd), xs, ys, none, none, [], []), rfl, chd_same (fine_mk hx hy hb2 hk2), ((hw.fnil none).fnil none).fin⟩ | exact ⟨((⟨kind, gen, main, rXor .u64 (b : Int) (rShl .u64 1 (modv v 64)), brA, xs.length, brC, hash, key, val, prA, ys.length, prK, prev, old, exp, new, status⟩ : Nd), xs, ys, none, none, [], []), rfl, chd_same (fine_mk' hx hy (flip_ok hb2 v) hk2), ((hw.fnil none).fnil none).fin⟩ | exact ⟨((⟨kind, gen, main, (b : Int), brA, xs.length, brC, hash, key ++ ⟨#[120]⟩, val, prA, ys.length, prK, prev, old, exp, new, status⟩ : Nd), xs, ys, none, none, [], []), rfl, chd_same (fine_mk hx hy hb2 (by rw [ByteArray.size_append]; have h2 : (⟨#[120]⟩ : ByteArray).size = 1 := rfl; omega)), ((hw.fnil none).fnil none).fin⟩ | exact ⟨((⟨kind, gen, main, (b : Int), x39.1, 0 + xs.length + 1, x39.2, hash, key, val, prA, ys.length, prK, prev, old, exp, new, status⟩ : Nd), [] ++ xs ++ [v], ys, x39.1, none, [] ++ xs ++ [v], []), rfl, ⟨⟨by simp, rfl, by simp; omega, (show ys.length ≤ 1000 by omega), ⟨b, rfl, hb2⟩, hk2⟩, .inr ⟨rfl, rfl⟩, .inl ⟨rfl, rfl⟩⟩, ((hw.freeze .head (by simp)).fnil none).fin⟩ | exact ⟨((⟨kind, gen, main, (b : Int), brA, xs.length, brC, hash, key, val, x65.1, 0 + ys.length + 1, x65.2, prev, old, exp, new, status⟩ : Nd), xs, [] ++ ys ++ [(⟨#[97]⟩, 0)], none, x65.1, [], [] ++ ys ++ [(⟨#[97]⟩, 0)]), rfl, ⟨⟨rfl, by simp, (show xs.length ≤ 1000 by omega), by simp; omega, ⟨b, rfl, hb2⟩, hk2⟩, .inl ⟨rfl, rfl⟩, .inr ⟨rfl, rfl⟩⟩, ((hw.freeze .head (by simp)).fnil none).fin⟩ | exact ⟨((⟨kind, gen, main, (b : Int), brA, xs.length, brC, hash, key, val, prA, ys.length, prK, prev, old, exp, new, status⟩ : Nd), xs, ys, none, none, [], []), rfl, chd_same (fine_mk hx hy hb2 hk2), ((hw.fnil none).fnil none).fin⟩
            · try (exact absurd c17 (by decide))
              all_goals (first | replace c17 := of_decide_eq_false c17 | replace c17 := sbeq_f c17 | replace c17 := sbne_f c17 | replace c17 := ibeq_f c17 | replace c17 := ibne_f c17 | replace c17 := ndec_f c17 | replace c17 := not_f c17 | skip)
              all_goals (refine k_seq ?_)
              all_goals refine k_region ?_
              all_goals refine j_eql ?_
              all_goals refine j_assignL (fun _ => ?_)
              all_goals refine l_nil ?_
              all_goals
                refine k_cond (by exact rfl) (fun c21 => ?_) (fun c21 => ?_)
                · try (exact absurd c21 (by decide))
                  all_goals (first | replace c21 := of_decide_eq_true c21 | replace c21 := sbeq_t c21 | replace c21 := sbne_t c21 | replace c21 := ibeq_t c21 | replace c21 := ibne_t c21 | replace c21 := ndec_t c21 | replace c21 := not_t c21 | skip)
                  all_goals refine k_drawF (.one 0 [] (.one 1 [] (.one 2 [] (.one 3 [1] (.one 4 [] (.one 5 [] (.one 6 [] (.one 7 [] (.one 8 [] .nil))))))))) ?_
                  all_goals (refine r_fieldAddr (i := 0) ?_)
                  all_goals (refine r_load (i := 1) ?_)
                  all_goals (refine r_move (i := 2) ?_)
                  all_goals ((refine r_own (i := 3) (hq := (by first | exact cV (hc := fun w1 hw => mod_c field 13 w1 (by rw [wrap_u64]; decide)) | exact cV (hc := fun w1 hw => mod_c v 64 w1 (by rw [wrap_u64]; decide)))) (hfire := (fun _ => by first | (refine FireAll.cons (by first | exact a_load | exact a_un) ?_; exact FireAll.nil) | (refine fireall_fact ?_; refine FireAll.cons (by first | exact a_load | exact a_un) ?_; exact FireAll.nil))) (h := fun x26 => ?_); try (refine r_fact (fun h26 => ?_))))
                  all_goals (refine r_convert (i := 4) ?_)
                  all_goals (refine r_shl (i := 5) ?_)
                  all_goals (refine r_xor (i := 6) ?_)
                  all_goals (refine r_fieldAddr (i := 7) ?_)
                  all_goals (refine r_store (i := 8) (hfire := (fun _ => .nil)) (h := fun _ => ?_))
                  all_goals refine r_fin ?_
                  all_goals (refine k_blk ?_)
                  all_goals (refine k_seq ?_)
                  all_goals refine k_region ?_
                  all_goals refine j_load ?_
                  all_goals refine j_store (fun _ => ?_)
                  all_goals refine l_nil ?_
                  all_goals
                    refine k_retvF Try.results31 (.cell (by exact rfl) (by repeat (first | exact At.head | apply At.tail)) (by exact agg_of rfl) .nil) (fun w hw => ?_)
                    first | exact ⟨((⟨v, gen, main, (b : Int), brA, xs.length, brC, hash, key, val, prA, ys.length, prK, prev, old, exp, new, status⟩ : Nd), xs, ys, none, none, [], []), rfl, chd_same (fine_mk hx hy hb2 hk2), ((hw.fnil none).fnil none).fin⟩ | exact ⟨((⟨kind, v, main, (b : Int), brA, xs.length, brC, hash, key, val, prA, ys.length, prK, prev, old, exp, new, status⟩ : Nd), xs, ys, none, none, [], []), rfl, chd_same (fine_mk hx hy hb2 hk2), ((hw.fnil none).fnil none).fin⟩ | exact ⟨((⟨kind, gen, v, (b : Int), brA, xs.length, brC, hash, key, val, prA, ys.length, prK, prev, old, exp, new, status⟩ : Nd), xs, ys, none, none, [], []), rfl, chd_same (fine_mk hx hy hb2 hk2), ((hw.fnil none).fnil none).fin⟩ | exact ⟨((⟨kind, gen, main, (b : Int), brA, xs.length, brC, hash, key, val, prA, ys.length, prK, v, old, exp, new, status⟩ : Nd), xs, ys, none, none, [], []), rfl, chd_same (fine_mk hx hy hb2 hk2), ((hw.fnil none).fnil none).fin⟩ | exact ⟨((⟨kind, gen, main, (b : Int), brA, xs.length, brC, hash, key, val, prA, ys.length, prK, prev, v, exp, new, status⟩ : Nd), xs, ys, none, none, [], []), rfl, chd_same (fine_mk hx hy hb2 hk2), ((hw.fnil none).fnil none).fin⟩ | exact ⟨((⟨kind, gen, main, (b : Int), brA, xs.length, brC, hash, key, val, prA, ys.length, prK, prev, old, v, new, status⟩ : Nd), xs, ys, none, none, [], []), rfl, chd_same (fine_mk hx hy hb2 hk2), ((hw.fnil none).fnil none).fin⟩ | exact ⟨((⟨kind, gen, main, (b : Int), brA, xs.length, brC, hash, key, val, prA, ys.length, prK, prev, old, exp, new, v⟩ : Nd), xs, ys, none, none, [], []), rfl, chd_same (fine_mk hx hy hb2 hk2), ((hw.fnil none).fnil none).fin⟩ | exact ⟨((⟨kind, gen, main, (b : Int), brA, xs.length, brC, IntKind.u64.wrap v, key, val, prA, ys.length, prK, prev, old, exp, new, status⟩ : Nd), xs, ys, none, none, [], []), rfl, chd_same (fine_mk hx hy hb2 hk2), ((hw.fnil none).fnil none).fin⟩ | exact ⟨((⟨kind, gen, main, (b : Int), brA, xs.length, brC, hash, key, IntKind.u64.wrap v, prA, ys.length, prK, prev, old, exp, new, status⟩ : Nd), xs, ys, none, none, [], []), rfl, chd_same (fine_mk hx hy hb2 hk2), ((hw.fnil none).fnil none).fin⟩ | exact ⟨((⟨kind, gen, main, rXor .u64 (b : Int) (rShl .u64 1 (modv v 64)), brA, xs.length, brC, hash, key, val, prA, ys.length, prK, prev, old, exp, new, status⟩ : Nd), xs, ys, none, none, [], []), rfl, chd_same (fine_mk' hx hy (flip_ok hb2 v) hk2), ((hw.fnil none).fnil none).fin⟩ | exact ⟨((⟨kind, gen, main, (b : Int), brA, xs.length, brC, hash, key ++ ⟨#[120]⟩, val, prA, ys.length, prK, prev, old, exp, new, status⟩ : Nd), xs, ys, none, none, [], []), rfl, chd_same (fine_mk hx hy hb2 (by rw [ByteArray.size_append]; have h2 : (⟨#[120]⟩ : ByteArray).size = 1 := rfl; omega)), ((hw.fnil none).fnil none).fin⟩ | exact ⟨((⟨kind, gen, main, (b : Int), x39.1, 0 + xs.length + 1, x39.2, hash, key, val, prA, ys.length, prK, prev, old, exp, new, status⟩ : Nd), [] ++ xs ++ [v], ys, x39.1, none, [] ++ xs ++ [v], []), rfl, ⟨⟨by simp, rfl, by simp; omega, (show ys.length ≤ 1000 by omega), ⟨b, rfl, hb2⟩, hk2⟩, .inr ⟨rfl, rfl⟩, .inl ⟨rfl, rfl⟩⟩, ((hw.freeze .head (by simp)).fnil none).fin⟩ | exact ⟨((⟨kind, gen, main, (b : Int), brA, xs.length, brC, hash, key, val, x65.1, 0 + ys.length + 1, x65.2, prev, old, exp, new, status⟩ : Nd), xs, [] ++ ys ++ [(⟨#[97]⟩, 0)], none, x65.1, [], [] ++ ys ++ [(⟨#[97]⟩, 0)]), rfl, ⟨⟨rfl, by simp, (show xs.length ≤ 1000 by omega), by simp; omega, ⟨b, rfl, hb2⟩, hk2⟩, .inl ⟨rfl, rfl⟩, .inr ⟨rfl, rfl⟩⟩, ((hw.freeze .head (by simp)).fnil none).fin⟩ | exact ⟨((⟨kind, gen, main, (b : Int), brA, xs.length, brC, hash, key, val, prA, ys.length, prK, prev, old, exp, new, status⟩ : Nd), xs, ys, none, none, [], []), rfl, chd_same (fine_mk hx hy hb2 hk2), ((hw.fnil none).fnil none).fin⟩
                · try (exact absurd c21 (by decide))
                  all_goals (first | replace c21 := of_decide_eq_false c21 | replace c21 := sbeq_f c21 | replace c21 := sbne_f c21 | replace c21 := ibeq_f c21 | replace c21 := ibne_f c21 | replace c21 := ndec_f c21 | replace c21 := not_f c21 | skip)
                  all_goals (refine k_seq ?_)
                  all_goals refine k_region ?_
                  all_goals refine j_eql ?_
                  all_goals refine j_assignL (fun _ => ?_)
                  all_goals refine l_nil ?_
                  all_goals
                    refine k_cond (by exact rfl) (fun c31 => ?_) (fun c31 => ?_)
                    · try (exact absurd c31 (by decide))
                      all_goals (first | replace c31 := of_decide_eq_true c31 | replace c31 := sbeq_t c31 | replace c31 := sbne_t c31 | replace c31 := ibeq_t c31 | replace c31 := ibne_t c31 | replace c31 := ndec_t c31 | replace c31 := not_t c31 | skip)
                      all_goals refine k_region ?_
                      all_goals refine j_build0 (fun x33 => ?_)
                      all_goals refine j_fieldAddr ?_
                      all_goals refine j_load ?_
                      all_goals (refine j_append (fun x36 => ?_); try (refine l_fact (fun h36 => ?_)))
                      all_goals refine j_move ?_
                      all_goals refine j_buildSlice (fun x38 => ?_)
                      all_goals (refine j_append (fun x39 => ?_); try (refine l_fact (fun h39 => ?_)))
                      all_goals refine j_fieldAddr ?_
                      all_goals refine j_store (fun _ => ?_)
                      all_goals refine l_nil ?_
                      all_goals (refine k_blk ?_)
                      all_goals (refine k_seq ?_)
                      all_goals refine k_region ?_
                      all_goals refine j_load ?_
                      all_goals refine j_store (fun _ => ?_)
                      all_goals refine l_nil ?_
                      all_goals
                        refine k_retvF Try.results31 (.cell (by exact rfl) (by repeat (first | exact At.head | apply At.tail)) (by exact agg_of rfl) .nil) (fun w hw => ?_)
                        exact ⟨((⟨kind, gen, main, (b : Int), x39.1, 0 + xs.length + 1, x39.2, hash, key, val, prA, ys.length, prK, prev, old, exp, new, status⟩ : Nd), [] ++ xs ++ [v], ys, x39.1, none, [] ++ xs ++ [v], []), rfl, ⟨⟨by simp, rfl, by simp; omega, (show ys.length ≤ 1000 by omega), ⟨b, rfl, hb2⟩, hk2⟩, .inr ⟨rfl, rfl⟩, .inl ⟨rfl, rfl⟩⟩, ((hw.freeze .head (by simp)).fnil none).fin⟩
                    · try (exact absurd c31 (by decide))
                      all_goals (first | replace c31 := of_decide_eq_false c31 | replace c31 := sbeq_f c31 | replace c31 := sbne_f c31 | replace c31 := ibeq_f c31 | replace c31 := ibne_f c31 | replace c31 := ndec_f c31 | replace c31 := not_f c31 | skip)
                      all_goals (refine k_seq ?_)
                      all_goals refine k_region ?_
                      all_goals refine j_eql ?_
                      all_goals refine j_assignL (fun _ => ?_)
                      all_goals refine l_nil ?_
                      all_goals
                        refine k_cond (by exact rfl) (fun c41 => ?_) (fun c41 => ?_)
                        · try (exact absurd c41 (by decide))
                          all_goals (first | replace c41 := of_decide_eq_true c41 | replace c41 := sbeq_t c41 | replace c41 := sbne_t c41 | replace c41 := ibeq_t c41 | replace c41 := ibne_t c41 | replace c41 := ndec_t c41 | replace c41 := not_t c41 | skip)
                          all_goals refine k_region ?_
                          all_goals refine j_move ?_
                          all_goals refine j_convert ?_
                          all_goals refine j_fieldAddr ?_
                          all_goals refine j_store (fun _ => ?_)
                          all_goals refine l_nil ?_
                          all_goals (refine k_blk ?_)
                          all_goals (refine k_seq ?_)
                          all_goals refine k_region ?_
                          all_goals refine j_load ?_
                          all_goals refine j_store (fun _ => ?_)
                          all_goals refine l_nil ?_
                          all_goals
                            refine k_retvF Try.results31 (.cell (by exact rfl) (by repeat (first | exact At.head | apply At.tail)) (by exact agg_of rfl) .nil) (fun w hw => ?_)
                            first | exact ⟨((⟨v, gen, main, (b : Int), brA, xs.length, brC, hash, key, val, prA, ys.length, prK, prev, old, exp, new, status⟩ : Nd), xs, ys, none, none, [], []), rfl, chd_same (fine_mk hx hy hb2 hk2), ((hw.fnil none).fnil none).fin⟩ | exact ⟨((⟨kind, v, main, (b : Int), brA, xs.length, brC, hash, key, val, prA, ys.length, prK, prev, old, exp, new, status⟩ : Nd), xs, ys, none, none, [], []), rfl, chd_same (fine_mk hx hy hb2 hk2), ((hw.fnil none).fnil none).fin⟩ | exact ⟨((⟨kind, gen, v, (b : Int), brA, xs.length, brC, hash, key, val, prA, ys.length, prK, prev, old, exp, new, status⟩ : Nd), xs, ys, none, none, [], []), rfl, chd_same (fine_mk hx hy hb2 hk2), ((hw.fnil none).fnil none).fin⟩ | exact ⟨((⟨kind, gen, main, (b : Int), brA, xs.length, brC, hash, key, val, prA, ys.length, prK, v, old, exp, new, status⟩ : Nd), xs, ys, none, none, [], []), rfl, chd_same (fine_mk hx hy hb2 hk2), ((hw.fnil none).fnil none).fin⟩ | exact ⟨((⟨kind, gen, main, (b : Int), brA, xs.length, brC, hash, key, val, prA, ys.length, prK, prev, v, exp, new, status⟩ : Nd), xs, ys, none, none, [], []), rfl, chd_same (fine_mk hx hy hb2 hk2), ((hw.fnil none).fnil none).fin⟩ | exact ⟨((⟨kind, gen, main, (b : Int), brA, xs.length, brC, hash, key, val, prA, ys.length, prK, prev, old, v, new, status⟩ : Nd), xs, ys, none, none, [], []), rfl, chd_same (fine_mk hx hy hb2 hk2), ((hw.fnil none).fnil none).fin⟩ | exact ⟨((⟨kind, gen, main, (b : Int), brA, xs.length, brC, hash, key, val, prA, ys.length, prK, prev, old, exp, new, v⟩ : Nd), xs, ys, none, none, [], []), rfl, chd_same (fine_mk hx hy hb2 hk2), ((hw.fnil none).fnil none).fin⟩ | exact ⟨((⟨kind, gen, main, (b : Int), brA, xs.length, brC, IntKind.u64.wrap v, key, val, prA, ys.length, prK, prev, old, exp, new, status⟩ : Nd), xs, ys, none, none, [], []), rfl, chd_same (fine_mk hx hy hb2 hk2), ((hw.fnil none).fnil none).fin⟩ | exact ⟨((⟨kind, gen, main, (b : Int), brA, xs.length, brC, hash, key, IntKind.u64.wrap v, prA, ys.length, prK, prev, old, exp, new, status⟩ : Nd), xs, ys, none, none, [], []), rfl, chd_same (fine_mk hx hy hb2 hk2), ((hw.fnil none).fnil none).fin⟩ | exact ⟨((⟨kind, gen, main, rXor .u64 (b : Int) (rShl .u64 1 (modv v 64)), brA, xs.length, brC, hash, key, val, prA, ys.length, prK, prev, old, exp, new, status⟩ : Nd), xs, ys, none, none, [], []), rfl, chd_same (fine_mk' hx hy (flip_ok hb2 v) hk2), ((hw.fnil none).fnil none).fin⟩ | exact ⟨((⟨kind, gen, main, (b : Int), brA, xs.length, brC, hash, key ++ ⟨#[120]⟩, val, prA, ys.length, prK, prev, old, exp, new, status⟩ : Nd), xs, ys, none, none, [], []), rfl, chd_same (fine_mk hx hy hb2 (by rw [ByteArray.size_append]; have h2 : (⟨#[120]⟩ : ByteArray).size = 1 := rfl; omega)), ((hw.fnil none).fnil none).fin⟩ | exact ⟨((⟨kind, gen, main, (b : Int), x39.1, 0 + xs.length + 1, x39.2, hash, key, val, prA, ys.length, prK, prev, old, exp, new, status⟩ : Nd), [] ++ xs ++ [v], ys, x39.1, none, [] ++ xs ++ [v], []), rfl, ⟨⟨by simp, rfl, by simp; omega, (show ys.length ≤ 1000 by omega), ⟨b, rfl, hb2⟩, hk2⟩, .inr ⟨rfl, rfl⟩, .inl ⟨rfl, rfl⟩⟩, ((hw.freeze .head (by simp)).fnil none).fin⟩ | exact ⟨((⟨kind, gen, main, (b : Int), brA, xs.length, brC, hash, key, val, x65.1, 0 + ys.length + 1, x65.2, prev, old, exp, new, status⟩ : Nd), xs, [] ++ ys ++ [(⟨#[97]⟩, 0)], none, x65.1, [], [] ++ ys ++ [(⟨#[97]⟩, 0)]), rfl, ⟨⟨rfl, by simp, (show xs.length ≤ 1000 by omega), by simp; omega, ⟨b, rfl, hb2⟩, hk2⟩, .inl ⟨rfl, rfl⟩, .inr ⟨rfl, rfl⟩⟩, ((hw.freeze .head (by simp)).fnil none).fin⟩ | exact ⟨((⟨kind, gen, main, (b : Int), brA, xs.length, brC, hash, key, val, prA, ys.length, prK, prev, old, exp, new, status⟩ : Nd), xs, ys, none, none, [], []), rfl, chd_same (fine_mk hx hy hb2 hk2), ((hw.fnil none).fnil none).fin⟩
                        · try (exact absurd c41 (by decide))
                          all_goals (first | replace c41 := of_decide_eq_false c41 | replace c41 := sbeq_f c41 | replace c41 := sbne_f c41 | replace c41 := ibeq_f c41 | replace c41 := ibne_f c41 | replace c41 := ndec_f c41 | replace c41 := not_f c41 | skip)
                          all_goals (refine k_seq ?_)
                          all_goals refine k_region ?_
                          all_goals refine j_eql ?_
                          all_goals refine j_assignL (fun _ => ?_)
                          all_goals refine l_nil ?_
                          all_goals
                            refine k_cond (by exact rfl) (fun c46 => ?_) (fun c46 => ?_)
                            · try (exact absurd c46 (by decide))
                              all_goals (first | replace c46 := of_decide_eq_true c46 | replace c46 := sbeq_t c46 | replace c46 := sbne_t c46 | replace c46 := ibeq_t c46 | replace c46 := ibne_t c46 | replace c46 := ndec_t c46 | replace c46 := not_t c46 | skip)
                              all_goals refine k_region ?_
                              all_goals refine j_fieldAddr ?_
                              all_goals refine j_load ?_
                              all_goals refine l_quiet (o_catStr (by exact rfl) (by exact rfl) (by have h2 : (⟨#[120]⟩ : ByteArray).size = 1 := rfl; omega)) rfl ?_
                              all_goals refine j_fieldAddr ?_
                              all_goals refine j_store (fun _ => ?_)
                              all_goals refine l_nil ?_
                              all_goals (refine k_blk ?_)
                              all_goals (refine k_seq ?_)
                              all_goals refine k_region ?_
                              all_goals refine j_load ?_
                              all_goals refine j_store (fun _ => ?_)
                              all_goals refine l_nil ?_
                              all_goals
                                refine k_retvF Try.results31 (.cell (by exact rfl) (by repeat (first | exact At.head | apply At.tail)) (by exact agg_of rfl) .nil) (fun w hw => ?_)
                                first | exact ⟨((⟨v, gen, main, (b : Int), brA, xs.length, brC, hash, key, val, prA, ys.length, prK, prev, old, exp, new, status⟩ : Nd), xs, ys, none, none, [], []), rfl, chd_same (fine_mk hx hy hb2 hk2), ((hw.fnil none).fnil none).fin⟩ | exact ⟨((⟨kind, v, main, (b : Int), brA, xs.length, brC, hash, key, val, prA, ys.length, prK, prev, old, exp, new, status⟩ : Nd), xs, ys, none, none, [], []), rfl, chd_same (fine_mk hx hy hb2 hk2), ((hw.fnil none).fnil none).fin⟩ | exact ⟨((⟨kind, gen, v, (b : Int), brA, xs.length, brC, hash, key, val, prA, ys.length, prK, prev, old, exp, new, status⟩ : Nd), xs, ys, none, none, [], []), rfl, chd_same (fine_mk hx hy hb2 hk2), ((hw.fnil none).fnil none).fin⟩ | exact ⟨((⟨kind, gen, main, (b : Int), brA, xs.length, brC, hash, key, val, prA, ys.length, prK, v, old, exp, new, status⟩ : Nd), xs, ys, none, none, [], []), rfl, chd_same (fine_mk hx hy hb2 hk2), ((hw.fnil none).fnil none).fin⟩ | exact ⟨((⟨kind, gen, main, (b : Int), brA, xs.length, brC, hash, key, val, prA, ys.length, prK, prev, v, exp, new, status⟩ : Nd), xs, ys, none, none, [], []), rfl, chd_same (fine_mk hx hy hb2 hk2), ((hw.fnil none).fnil none).fin⟩ | exact ⟨((⟨kind, gen, main, (b : Int), brA, xs.length, brC, hash, key, val, prA, ys.length, prK, prev, old, v, new, status⟩ : Nd), xs, ys, none, none, [], []), rfl, chd_same (fine_mk hx hy hb2 hk2), ((hw.fnil none).fnil none).fin⟩ | exact ⟨((⟨kind, gen, main, (b : Int), brA, xs.length, brC, hash, key, val, prA, ys.length, prK, prev, old, exp, new, v⟩ : Nd), xs, ys, none, none, [], []), rfl, chd_same (fine_mk hx hy hb2 hk2), ((hw.fnil none).fnil none).fin⟩ | exact ⟨((⟨kind, gen, main, (b : Int), brA, xs.length, brC, IntKind.u64.wrap v, key, val, prA, ys.length, prK, prev, old, exp, new, status⟩ : Nd), xs, ys, none, none, [], []), rfl, chd_same (fine_mk hx hy hb2 hk2), ((hw.fnil none).fnil none).fin⟩ | exact ⟨((⟨kind, gen, main, (b : Int), brA, xs.length, brC, hash, key, IntKind.u64.wrap v, prA, ys.length, prK, prev, old, exp, new, status⟩ : Nd), xs, ys, none, none, [], []), rfl, chd_same (fine_mk hx hy hb2 hk2), ((hw.fnil none).fnil none).fin⟩ | exact ⟨((⟨kind, gen, main, rXor .u64 (b : Int) (rShl .u64 1 (modv v 64)), brA, xs.length, brC, hash, key, val, prA, ys.length, prK, prev, old, exp, new, status⟩ : Nd), xs, ys, none, none, [], []), rfl, chd_same (fine_mk' hx hy (flip_ok hb2 v) hk2), ((hw.fnil none).fnil none).fin⟩ | exact ⟨((⟨kind, gen, main, (b : Int), brA, xs.length, brC, hash, key ++ ⟨#[120]⟩, val, prA, ys.length, prK, prev, old, exp, new, status⟩ : Nd), xs, ys, none, none, [], []), rfl, chd_same (fine_mk hx hy hb2 (by rw [ByteArray.size_append]; have h2 : (⟨#[120]⟩ : ByteArray).size = 1 := rfl; omega)), ((hw.fnil none).fnil none).fin⟩ | exact ⟨((⟨kind, gen, main, (b : Int), x39.1, 0 + xs.length + 1, x39.2, hash, key, val, prA, ys.length, prK, prev, old, exp, new, status⟩ : Nd), [] ++ xs ++ [v], ys, x39.1, none, [] ++ xs ++ [v], []), rfl, ⟨⟨by simp, rfl, by simp; omega, (show ys.length ≤ 1000 by omega), ⟨b, rfl, hb2⟩, hk2⟩, .inr ⟨rfl, rfl⟩, .inl ⟨rfl, rfl⟩⟩, ((hw.freeze .head (by simp)).fnil none).fin⟩ | exact ⟨((⟨kind, gen, main, (b : Int), brA, xs.length, brC, hash, key, val, x65.1, 0 + ys.length + 1, x65.2, prev, old, exp, new, status⟩ : Nd), xs, [] ++ ys ++ [(⟨#[97]⟩, 0)], none, x65.1, [], [] ++ ys ++ [(⟨#[97]⟩, 0)]), rfl, ⟨⟨rfl, by simp, (show xs.length ≤ 1000 by omega), by simp; omega, ⟨b, rfl, hb2⟩, hk2⟩, .inl ⟨rfl, rfl⟩, .inr ⟨rfl, rfl⟩⟩, ((hw.freeze .head (by simp)).fnil none).fin⟩ | exact ⟨((⟨kind, gen, main, (b : Int), brA, xs.length, brC, hash, key, val, prA, ys.length, prK, prev, old, exp, new, status⟩ : Nd), xs, ys, none, none, [], []), rfl, chd_same (fine_mk hx hy hb2 hk2), ((hw.fnil none).fnil none).fin⟩
                            · try (exact absurd c46 (by decide))
                              all_goals (first | replace c46 := of_decide_eq_false c46 | replace c46 := sbeq_f c46 | replace c46 := sbne_f c46 | replace c46 := ibeq_f c46 | replace c46 := ibne_f c46 | replace c46 := ndec_f c46 | replace c46 := not_f c46 | skip)
                              all_goals (refine k_seq ?_)
                              all_goals refine k_region ?_
                              all_goals refine j_eql ?_
                              all_goals refine j_assignL (fun _ => ?_)
                              all_goals refine l_nil ?_
                              all_goals
                                refine k_cond (by exact rfl) (fun c52 => ?_) (fun c52 => ?_)
                                · try (exact absurd c52 (by decide))
                                  all_goals (first | replace c52 := of_decide_eq_true c52 | replace c52 := sbeq_t c52 | replace c52 := sbne_t c52 | replace c52 := ibeq_t c52 | replace c52 := ibne_t c52 | replace c52 := ndec_t c52 | replace c52 := not_t c52 | skip)
                                  all_goals refine k_region ?_
                                  all_goals refine j_move ?_
                                  all_goals refine j_convert ?_
                                  all_goals refine j_fieldAddr ?_
                                  all_goals refine j_store (fun _ => ?_)
                                  all_goals refine l_nil ?_
                                  all_goals (refine k_blk ?_)
                                  all_goals (refine k_seq ?_)
                                  all_goals refine k_region ?_
                                  all_goals refine j_load ?_
                                  all_goals refine j_store (fun _ => ?_)
                                  all_goals refine l_nil ?_
                                  all_goals
                                    refine k_retvF Try.results31 (.cell (by exact rfl) (by repeat (first | exact At.head | apply At.tail)) (by exact agg_of rfl) .nil) (fun w hw => ?_)
                                    first | exact ⟨((⟨v, gen, main, (b : Int), brA, xs.length, brC, hash, key, val, prA, ys.length, prK, prev, old, exp, new, status⟩ : Nd), xs, ys, none, none, [], []), rfl, chd_same (fine_mk hx hy hb2 hk2), ((hw.fnil none).fnil none).fin⟩ | exact ⟨((⟨kind, v, main, (b : Int), brA, xs.length, brC, hash, key, val, prA, ys.length, prK, prev, old, exp, new, status⟩ : Nd), xs, ys, none, none, [], []), rfl, chd_same (fine_mk hx hy hb2 hk2), ((hw.fnil none).fnil none).fin⟩ | exact ⟨((⟨kind, gen, v, (b : Int), brA, xs.length, brC, hash, key, val, prA, ys.length, prK, prev, old, exp, new, status⟩ : Nd), xs, ys, none, none, [], []), rfl, chd_same (fine_mk hx hy hb2 hk2), ((hw.fnil none).fnil none).fin⟩ | exact ⟨((⟨kind, gen, main, (b : Int), brA, xs.length, brC, hash, key, val, prA, ys.length, prK, v, old, exp, new, status⟩ : Nd), xs, ys, none, none, [], []), rfl, chd_same (fine_mk hx hy hb2 hk2), ((hw.fnil none).fnil none).fin⟩ | exact ⟨((⟨kind, gen, main, (b : Int), brA, xs.length, brC, hash, key, val, prA, ys.length, prK, prev, v, exp, new, status⟩ : Nd), xs, ys, none, none, [], []), rfl, chd_same (fine_mk hx hy hb2 hk2), ((hw.fnil none).fnil none).fin⟩ | exact ⟨((⟨kind, gen, main, (b : Int), brA, xs.length, brC, hash, key, val, prA, ys.length, prK, prev, old, v, new, status⟩ : Nd), xs, ys, none, none, [], []), rfl, chd_same (fine_mk hx hy hb2 hk2), ((hw.fnil none).fnil none).fin⟩ | exact ⟨((⟨kind, gen, main, (b : Int), brA, xs.length, brC, hash, key, val, prA, ys.length, prK, prev, old, exp, new, v⟩ : Nd), xs, ys, none, none, [], []), rfl, chd_same (fine_mk hx hy hb2 hk2), ((hw.fnil none).fnil none).fin⟩ | exact ⟨((⟨kind, gen, main, (b : Int), brA, xs.length, brC, IntKind.u64.wrap v, key, val, prA, ys.length, prK, prev, old, exp, new, status⟩ : Nd), xs, ys, none, none, [], []), rfl, chd_same (fine_mk hx hy hb2 hk2), ((hw.fnil none).fnil none).fin⟩ | exact ⟨((⟨kind, gen, main, (b : Int), brA, xs.length, brC, hash, key, IntKind.u64.wrap v, prA, ys.length, prK, prev, old, exp, new, status⟩ : Nd), xs, ys, none, none, [], []), rfl, chd_same (fine_mk hx hy hb2 hk2), ((hw.fnil none).fnil none).fin⟩ | exact ⟨((⟨kind, gen, main, rXor .u64 (b : Int) (rShl .u64 1 (modv v 64)), brA, xs.length, brC, hash, key, val, prA, ys.length, prK, prev, old, exp, new, status⟩ : Nd), xs, ys, none, none, [], []), rfl, chd_same (fine_mk' hx hy (flip_ok hb2 v) hk2), ((hw.fnil none).fnil none).fin⟩ | exact ⟨((⟨kind, gen, main, (b : Int), brA, xs.length, brC, hash, key ++ ⟨#[120]⟩, val, prA, ys.length, prK, prev, old, exp, new, status⟩ : Nd), xs, ys, none, none, [], []), rfl, chd_same (fine_mk hx hy hb2 (by rw [ByteArray.size_append]; have h2 : (⟨#[120]⟩ : ByteArray).size = 1 := rfl; omega)), ((hw.fnil none).fnil none).fin⟩ | exact ⟨((⟨kind, gen, main, (b : Int), x39.1, 0 + xs.length + 1, x39.2, hash, key, val, prA, ys.length, prK, prev, old, exp, new, status⟩ : Nd), [] ++ xs ++ [v], ys, x39.1, none, [] ++ xs ++ [v], []), rfl, ⟨⟨by simp, rfl, by simp; omega, (show ys.length ≤ 1000 by omega), ⟨b, rfl, hb2⟩, hk2⟩, .inr ⟨rfl, rfl⟩, .inl ⟨rfl, rfl⟩⟩, ((hw.freeze .head (by simp)).fnil none).fin⟩ | exact ⟨((⟨kind, gen, main, (b : Int), brA, xs.length, brC, hash, key, val, x65.1, 0 + ys.length + 1, x65.2, prev, old, exp, new, status⟩ : Nd), xs, [] ++ ys ++ [(⟨#[97]⟩, 0)], none, x65.1, [], [] ++ ys ++ [(⟨#[97]⟩, 0)]), rfl, ⟨⟨rfl, by simp, (show xs.length ≤ 1000 by omega), by simp; omega, ⟨b, rfl, hb2⟩, hk2⟩, .inl ⟨rfl, rfl⟩, .inr ⟨rfl, rfl⟩⟩, ((hw.freeze .head (by simp)).fnil none).fin⟩ | exact ⟨((⟨kind, gen, main, (b : Int), brA, xs.length, brC, hash, key, val, prA, ys.length, prK, prev, old, exp, new, status⟩ : Nd), xs, ys, none, none, [], []), rfl, chd_same (fine_mk hx hy hb2 hk2), ((hw.fnil none).fnil none).fin⟩
                                · try (exact absurd c52 (by decide))
                                  all_goals (first | replace c52 := of_decide_eq_false c52 | replace c52 := sbeq_f c52 | replace c52 := sbne_f c52 | replace c52 := ibeq_f c52 | replace c52 := ibne_f c52 | replace c52 := ndec_f c52 | replace c52 := not_f c52 | skip)
                                  all_goals (refine k_seq ?_)
                                  all_goals refine k_region ?_
                                  all_goals refine j_eql ?_
                                  all_goals refine j_assignL (fun _ => ?_)
                                  all_goals refine l_nil ?_
                                  all_goals
                                    refine k_cond (by exact rfl) (fun c57 => ?_) (fun c57 => ?_)
                                    · try (exact absurd c57 (by decide))
                                      all_goals (first | replace c57 := of_decide_eq_true c57 | replace c57 := sbeq_t c57 | replace c57 := sbne_t c57 | replace c57 := ibeq_t c57 | replace c57 := ibne_t c57 | replace c57 := ndec_t c57 | replace c57 := not_t c57 | skip)
                                      all_goals refine k_region ?_
                                      all_goals refine j_build0 (fun x59 => ?_)
                                      all_goals refine j_fieldAddr ?_
                                      all_goals refine j_load ?_
                                      all_goals (refine j_append (fun x62 => ?_); try (refine l_fact (fun h62 => ?_)))
                                      all_goals refine j_build ?_
                                      all_goals refine j_buildSlice (fun x64 => ?_)
                                      all_goals (refine j_append (fun x65 => ?_); try (refine l_fact (fun h65 => ?_)))
                                      all_goals refine j_fieldAddr ?_
                                      all_goals refine j_store (fun _ => ?_)
                                      all_goals refine l_nil ?_
                                      all_goals (refine k_blk ?_)
                                      all_goals (refine k_seq ?_)
                                      all_goals refine k_region ?_
                                      all_goals refine j_load ?_
                                      all_goals refine j_store (fun _ => ?_)
                                      all_goals refine l_nil ?_
                                      all_goals
                                        refine k_retvF Try.results31 (.cell (by exact rfl) (by repeat (first | exact At.head | apply At.tail)) (by exact agg_of rfl) .nil) (fun w hw => ?_)
                                        exact ⟨((⟨kind, gen, main, (b : Int), brA, xs.length, brC, hash, key, val, x65.1, 0 + ys.length + 1, x65.2, prev, old, exp, new, status⟩ : Nd), xs, [] ++ ys ++ [(⟨#[97]⟩, 0)], none, x65.1, [], [] ++ ys ++ [(⟨#[97]⟩, 0)]), rfl, ⟨⟨rfl, by simp, (show xs.length ≤ 1000 by omega), by simp; omega, ⟨b, rfl, hb2⟩, hk2⟩, .inl ⟨rfl, rfl⟩, .inr ⟨rfl, rfl⟩⟩, ((hw.freeze .head (by simp)).fnil none).fin⟩
                                    · try (exact absurd c57 (by decide))
                                      all_goals (first | replace c57 := of_decide_eq_false c57 | replace c57 := sbeq_f c57 | replace c57 := sbne_f c57 | replace c57 := ibeq_f c57 | replace c57 := ibne_f c57 | replace c57 := ndec_f c57 | replace c57 := not_f c57 | skip)
                                      all_goals (refine k_seq ?_)
                                      all_goals refine k_region ?_
                                      all_goals refine j_eql ?_
                                      all_goals refine j_assignL (fun _ => ?_)
                                      all_goals refine l_nil ?_
                                      all_goals
                                        refine k_cond (by exact rfl) (fun c67 => ?_) (fun c67 => ?_)
                                        · try (exact absurd c67 (by decide))
                                          all_goals (first | replace c67 := of_decide_eq_true c67 | replace c67 := sbeq_t c67 | replace c67 := sbne_t c67 | replace c67 := ibeq_t c67 | replace c67 := ibne_t c67 | replace c67 := ndec_t c67 | replace c67 := not_t c67 | skip)
                                          all_goals refine k_region ?_
                                          all_goals refine j_move ?_
                                          all_goals refine j_fieldAddr ?_
                                          all_goals refine j_store (fun _ => ?_)
                                          all_goals refine l_nil ?_
                                          all_goals (refine k_blk ?_)
                                          all_goals (refine k_seq ?_)
                                          all_goals refine k_region ?_
                                          all_goals refine j_load ?_
                                          all_goals refine j_store (fun _ => ?_)
                                          all_goals refine l_nil ?_
                                          all_goals
                                            refine k_retvF Try.results31 (.cell (by exact rfl) (by repeat (first | exact At.head | apply At.tail)) (by exact agg_of rfl) .nil) (fun w hw => ?_)
                                            first | exact ⟨((⟨v, gen, main, (b : Int), brA, xs.length, brC, hash, key, val, prA, ys.length, prK, prev, old, exp, new, status⟩ : Nd), xs, ys, none, none, [], []), rfl, chd_same (fine_mk hx hy hb2 hk2), ((hw.fnil none).fnil none).fin⟩ | exact ⟨((⟨kind, v, main, (b : Int), brA, xs.length, brC, hash, key, val, prA, ys.length, prK, prev, old, exp, new, status⟩ : Nd), xs, ys, none, none, [], []), rfl, chd_same (fine_mk hx hy hb2 hk2), ((hw.fnil none).fnil none).fin⟩ | exact ⟨((⟨kind, gen, v, (b : Int), brA, xs.length, brC, hash, key, val, prA, ys.length, prK, prev, old, exp, new, status⟩ : Nd), xs, ys, none, none, [], []), rfl, chd_same (fine_mk hx hy hb2 hk2), ((hw.fnil none).fnil none).fin⟩ | exact ⟨((⟨kind, gen, main, (b : Int), brA, xs.length, brC, hash, key, val, prA, ys.length, prK, v, old, exp, new, status⟩ : Nd), xs, ys, none, none, [], []), rfl, chd_same (fine_mk hx hy hb2 hk2), ((hw.fnil none).fnil none).fin⟩ | exact ⟨((⟨kind, gen, main, (b : Int), brA, xs.length, brC, hash, key, val, prA, ys.length, prK, prev, v, exp, new, status⟩ : Nd), xs, ys, none, none, [], []), rfl, chd_same (fine_mk hx hy hb2 hk2), ((hw.fnil none).fnil none).fin⟩ | exact ⟨((⟨kind, gen, main, (b : Int), brA, xs.length, brC, hash, key, val, prA, ys.length, prK, prev, old, v, new, status⟩ : Nd), xs, ys, none, none, [], []), rfl, chd_same (fine_mk hx hy hb2 hk2), ((hw.fnil none).fnil none).fin⟩ | exact ⟨((⟨kind, gen, main, (b : Int), brA, xs.length, brC, hash, key, val, prA, ys.length, prK, prev, old, exp, new, v⟩ : Nd), xs, ys, none, none, [], []), rfl, chd_same (fine_mk hx hy hb2 hk2), ((hw.fnil none).fnil none).fin⟩ | exact ⟨((⟨kind, gen, main, (b : Int), brA, xs.length, brC, IntKind.u64.wrap v, key, val, prA, ys.length, prK, prev, old, exp, new, status⟩ : Nd), xs, ys, none, none, [], []), rfl, chd_same (fine_mk hx hy hb2 hk2), ((hw.fnil none).fnil none).fin⟩ | exact ⟨((⟨kind, gen, main, (b : Int), brA, xs.length, brC, hash, key, IntKind.u64.wrap v, prA, ys.length, prK, prev, old, exp, new, status⟩ : Nd), xs, ys, none, none, [], []), rfl, chd_same (fine_mk hx hy hb2 hk2), ((hw.fnil none).fnil none).fin⟩ | exact ⟨((⟨kind, gen, main, rXor .u64 (b : Int) (rShl .u64 1 (modv v 64)), brA, xs.length, brC, hash, key, val, prA, ys.length, prK, prev, old, exp, new, status⟩ : Nd), xs, ys, none, none, [], []), rfl, chd_same (fine_mk' hx hy (flip_ok hb2 v) hk2), ((hw.fnil none).fnil none).fin⟩ | exact ⟨((⟨kind, gen, main, (b : Int), brA, xs.length, brC, hash, key ++ ⟨#[120]⟩, val, prA, ys.length, prK, prev, old, exp, new, status⟩ : Nd), xs, ys, none, none, [], []), rfl, chd_same (fine_mk hx hy hb2 (by rw [ByteArray.size_append]; have h2 : (⟨#[120]⟩ : ByteArray).size = 1 := rfl; omega)), ((hw.fnil none).fnil none).fin⟩ | exact ⟨((⟨kind, gen, main, (b : Int), x39.1, 0 + xs.length + 1, x39.2, hash, key, val, prA, ys.length, prK, prev, old, exp, new, status⟩ : Nd), [] ++ xs ++ [v], ys, x39.1, none, [] ++ xs ++ [v], []), rfl, ⟨⟨by simp, rfl, by simp; omega, (show ys.length ≤ 1000 by omega), ⟨b, rfl, hb2⟩, hk2⟩, .inr ⟨rfl, rfl⟩, .inl ⟨rfl, rfl⟩⟩, ((hw.freeze .head (by simp)).fnil none).fin⟩ | exact ⟨((⟨kind, gen, main, (b : Int), brA, xs.length, brC, hash, key, val, x65.1, 0 + ys.length + 1, x65.2, prev, old, exp, new, status⟩ : Nd), xs, [] ++ ys ++ [(⟨#[97]⟩, 0)], none, x65.1, [], [] ++ ys ++ [(⟨#[97]⟩, 0)]), rfl, ⟨⟨rfl, by simp, (show xs.length ≤ 1000 by omega), by simp; omega, ⟨b, rfl, hb2⟩, hk2⟩, .inl ⟨rfl, rfl⟩, .inr ⟨rfl, rfl⟩⟩, ((hw.freeze .head (by simp)).fnil none).fin⟩ | exact ⟨((⟨kind, gen, main, (b : Int), brA, xs.length, brC, hash, key, val, prA, ys.length, prK, prev, old, exp, new, status⟩ : Nd), xs, ys, none, none, [], []), rfl, chd_same (fine_mk hx hy hb2 hk2), ((hw.fnil none).fnil none).fin⟩
                                        · try (exact absurd c67 (by decide))
                                          all_goals (first | replace c67 := of_decide_eq_false c67 | replace c67 := sbeq_f c67 | replace c67 := sbne_f c67 | replace c67 := ibeq_f c67 | replace c67 := ibne_f c67 | replace c67 := ndec_f c67 | replace c67 := not_f c67 | skip)
                                          all_goals (refine k_seq ?_)
                                          all_goals refine k_region ?_
                                          all_goals refine j_eql ?_
                                          all_goals refine j_assignL (fun _ => ?_)
                                          all_goals refine l_nil ?_
                                          all_goals
                                            refine k_cond (by exact rfl) (fun c71 => ?_) (fun c71 => ?_)
                                            · try (exact absurd c71 (by decide))
                                              all_goals (first | replace c71 := of_decide_eq_true c71 | replace c71 := sbeq_t c71 | replace c71 := sbne_t c71 | replace c71 := ibeq_t c71 | replace c71 := ibne_t c71 | replace c71 := ndec_t c71 | replace c71 := not_t c71 | skip)
                                              all_goals refine k_region ?_
                                              all_goals refine j_move ?_
                                              all_goals refine j_fieldAddr ?_
                                              all_goals refine j_store (fun _ => ?_)
                                              all_goals refine l_nil ?_
                                              all_goals (refine k_blk ?_)
                                              all_goals (refine k_seq ?_)
                                              all_goals refine k_region ?_
                                              all_goals refine j_load ?_
                                              all_goals refine j_store (fun _ => ?_)
                                              all_goals refine l_nil ?_
                                              all_goals
                                                refine k_retvF Try.results31 (.cell (by exact rfl) (by repeat (first | exact At.head | apply At.tail)) (by exact agg_of rfl) .nil) (fun w hw => ?_)
                                                first | exact ⟨((⟨v, gen, main, (b : Int), brA, xs.length, brC, hash, key, val, prA, ys.length, prK, prev, old, exp, new, status⟩ : Nd), xs, ys, none, none, [], []), rfl, chd_same (fine_mk hx hy hb2 hk2), ((hw.fnil none).fnil none).fin⟩ | exact ⟨((⟨kind, v, main, (b : Int), brA, xs.length, brC, hash, key, val, prA, ys.length, prK, prev, old, exp, new, status⟩ : Nd), xs, ys, none, none, [], []), rfl, chd_same (fine_mk hx hy hb2 hk2), ((hw.fnil none).fnil none).fin⟩ | exact ⟨((⟨kind, gen, v, (b : Int), brA, xs.length, brC, hash, key, val, prA, ys.length, prK, prev, old, exp, new, status⟩ : Nd), xs, ys, none, none, [], []), rfl, chd_same (fine_mk hx hy hb2 hk2), ((hw.fnil none).fnil none).fin⟩ | exact ⟨((⟨kind, gen, main, (b : Int), brA, xs.length, brC, hash, key, val, prA, ys.length, prK, v, old, exp, new, status⟩ : Nd), xs, ys, none, none, [], []), rfl, chd_same (fine_mk hx hy hb2 hk2), ((hw.fnil none).fnil none).fin⟩ | exact ⟨((⟨kind, gen, main, (b : Int), brA, xs.length, brC, hash, key, val, prA, ys.length, prK, prev, v, exp, new, status⟩ : Nd), xs, ys, none, none, [], []), rfl, chd_same (fine_mk hx hy hb2 hk2), ((hw.fnil none).fnil none).fin⟩ | exact ⟨((⟨kind, gen, main, (b : Int), brA, xs.length, brC, hash, key, val, prA, ys.length, prK, prev, old, v, new, status⟩ : Nd), xs, ys, none, none, [], []), rfl, chd_same (fine_mk hx hy hb2 hk2), ((hw.fnil none).fnil none).fin⟩ | exact ⟨((⟨kind, gen, main, (b : Int), brA, xs.length, brC, hash, key, val, prA, ys.length, prK, prev, old, exp, new, v⟩ : Nd), xs, ys, none, none, [], []), rfl, chd_same (fine_mk hx hy hb2 hk2), ((hw.fnil none).fnil none).fin⟩ | exact ⟨((⟨kind, gen, main, (b : Int), brA, xs.length, brC, IntKind.u64.wrap v, key, val, prA, ys.length, prK, prev, old, exp, new, status⟩ : Nd), xs, ys, none, none, [], []), rfl, chd_same (fine_mk hx hy hb2 hk2), ((hw.fnil none).fnil none).fin⟩ | exact ⟨((⟨kind, gen, main, (b : Int), brA, xs.length, brC, hash, key, IntKind.u64.wrap v, prA, ys.length, prK, prev, old, exp, new, status⟩ : Nd), xs, ys, none, none, [], []), rfl, chd_same (fine_mk hx hy hb2 hk2), ((hw.fnil none).fnil none).fin⟩ | exact ⟨((⟨kind, gen, main, rXor .u64 (b : Int) (rShl .u64 1 (modv v 64)), brA, xs.length, brC, hash, key, val, prA, ys.length, prK, prev, old, exp, new, status⟩ : Nd), xs, ys, none, none, [], []), rfl, chd_same (fine_mk' hx hy (flip_ok hb2 v) hk2), ((hw.fnil none).fnil none).fin⟩ | exact ⟨((⟨kind, gen, main, (b : Int), brA, xs.length, brC, hash, key ++ ⟨#[120]⟩, val, prA, ys.length, prK, prev, old, exp, new, status⟩ : Nd), xs, ys, none, none, [], []), rfl, chd_same (fine_mk hx hy hb2 (by rw [ByteArray.size_append]; have h2 : (⟨#[120]⟩ : ByteArray).size = 1 := rfl; omega)), ((hw.fnil none).fnil none).fin⟩ | exact ⟨((⟨kind, gen, main, (b : Int), x39.1, 0 + xs.length + 1, x39.2, hash, key, val, prA, ys.length, prK, prev, old, exp, new, status⟩ : Nd), [] ++ xs ++ [v], ys, x39.1, none, [] ++ xs ++ [v], []), rfl, ⟨⟨by simp, rfl, by simp; omega, (show ys.length ≤ 1000 by omega), ⟨b, rfl, hb2⟩, hk2⟩, .inr ⟨rfl, rfl⟩, .inl ⟨rfl, rfl⟩⟩, ((hw.freeze .head (by simp)).fnil none).fin⟩ | exact ⟨((⟨kind, gen, main, (b : Int), brA, xs.length, brC, hash, key, val, x65.1, 0 + ys.length + 1, x65.2, prev, old, exp, new, status⟩ : Nd), xs, [] ++ ys ++ [(⟨#[97]⟩, 0)], none, x65.1, [], [] ++ ys ++ [(⟨#[97]⟩, 0)]), rfl, ⟨⟨rfl, by simp, (show xs.length ≤ 1000 by omega), by simp; omega, ⟨b, rfl, hb2⟩, hk2⟩, .inl ⟨rfl, rfl⟩, .inr ⟨rfl, rfl⟩⟩, ((hw.freeze .head (by simp)).fnil none).fin⟩ | exact ⟨((⟨kind, gen, main, (b : Int), brA, xs.length, brC, hash, key, val, prA, ys.length, prK, prev, old, exp, new, status⟩ : Nd), xs, ys, none, none, [], []), rfl, chd_same (fine_mk hx hy hb2 hk2), ((hw.fnil none).fnil none).fin⟩
                                            · try (exact absurd c71 (by decide))
                                              all_goals (first | replace c71 := of_decide_eq_false c71 | replace c71 := sbeq_f c71 | replace c71 := sbne_f c71 | replace c71 := ibeq_f c71 | replace c71 := ibne_f c71 | replace c71 := ndec_f c71 | replace c71 := not_f c71 | skip)
                                              all_goals (refine k_seq ?_)
                                              all_goals refine k_region ?_
                                              all_goals refine j_eql ?_
                                              all_goals refine j_assignL (fun _ => ?_)
                                              all_goals refine l_nil ?_
                                              all_goals
                                                refine k_cond (by exact rfl) (fun c75 => ?_) (fun c75 => ?_)
                                                · try (exact absurd c75 (by decide))
                                                  all_goals (first | replace c75 := of_decide_eq_true c75 | replace c75 := sbeq_t c75 | replace c75 := sbne_t c75 | replace c75 := ibeq_t c75 | replace c75 := ibne_t c75 | replace c75 := ndec_t c75 | replace c75 := not_t c75 | skip)
                                                  all_goals refine k_region ?_
                                                  all_goals refine j_move ?_
                                                  all_goals refine j_fieldAddr ?_
                                                  all_goals refine j_store (fun _ => ?_)
                                                  all_goals refine l_nil ?_
                                                  all_goals (refine k_blk ?_)
                                                  all_goals (refine k_seq ?_)
                                                  all_goals refine k_region ?_
                                                  all_goals refine j_load ?_
                                                  all_goals refine j_store (fun _ => ?_)
                                                  all_goals refine l_nil ?_
                                                  all_goals
                                                    refine k_retvF Try.results31 (.cell (by exact rfl) (by repeat (first | exact At.head | apply At.tail)) (by exact agg_of rfl) .nil) (fun w hw => ?_)
                                                    first | exact ⟨((⟨v, gen, main, (b : Int), brA, xs.length, brC, hash, key, val, prA, ys.length, prK, prev, old, exp, new, status⟩ : Nd), xs, ys, none, none, [], []), rfl, chd_same (fine_mk hx hy hb2 hk2), ((hw.fnil none).fnil none).fin⟩ | exact ⟨((⟨kind, v, main, (b : Int), brA, xs.length, brC, hash, key, val, prA, ys.length, prK, prev, old, exp, new, status⟩ : Nd), xs, ys, none, none, [], []), rfl, chd_same (fine_mk hx hy hb2 hk2), ((hw.fnil none).fnil none).fin⟩ | exact ⟨((⟨kind, gen, v, (b : Int), brA, xs.length, brC, hash, key, val, prA, ys.length, prK, prev, old, exp, new, status⟩ : Nd), xs, ys, none, none, [], []), rfl, chd_same (fine_mk hx hy hb2 hk2), ((hw.fnil none).fnil none).fin⟩ | exact ⟨((⟨kind, gen, main, (b : Int), brA, xs.length, brC, hash, key, val, prA, ys.length, prK, v, old, exp, new, status⟩ : Nd), xs, ys, none, none, [], []), rfl, chd_same (fine_mk hx hy hb2 hk2), ((hw.fnil none).fnil none).fin⟩ | exact ⟨((⟨kind, gen, main, (b : Int), brA, xs.length, brC, hash, key, val, prA, ys.length, prK, prev, v, exp, new, status⟩ : Nd), xs, ys, none, none, [], []), rfl, chd_same (fine_mk hx hy hb2 hk2), ((hw.fnil none).fnil none).fin⟩ | exact ⟨((⟨kind, gen, main, (b : Int), brA, xs.length, brC, hash, key, val, prA, ys.length, prK, prev, old, v, new, status⟩ : Nd), xs, ys, none, none, [], []), rfl, chd_same (fine_mk hx hy hb2 hk2), ((hw.fnil none).fnil none).fin⟩ | exact ⟨((⟨kind, gen, main, (b : Int), brA, xs.length, brC, hash, key, val, prA, ys.length, prK, prev, old, exp, new, v⟩ : Nd), xs, ys, none, none, [], []), rfl, chd_same (fine_mk hx hy hb2 hk2), ((hw.fnil none).fnil none).fin⟩ | exact ⟨((⟨kind, gen, main, (b : Int), brA, xs.length, brC, IntKind.u64.wrap v, key, val, prA, ys.length, prK, prev, old, exp, new, status⟩ : Nd), xs, ys, none, none, [], []), rfl, chd_same (fine_mk hx hy hb2 hk2), ((hw.fnil none).fnil none).fin⟩ | exact ⟨((⟨kind, gen, main, (b : Int), brA, xs.length, brC, hash, key, IntKind.u64.wrap v, prA, ys.length, prK, prev, old, exp, new, status⟩ : Nd), xs, ys, none, none, [], []), rfl, chd_same (fine_mk hx hy hb2 hk2), ((hw.fnil none).fnil none).fin⟩ | exact ⟨((⟨kind, gen, main, rXor .u64 (b : Int) (rShl .u64 1 (modv v 64)), brA, xs.length, brC, hash, key, val, prA, ys.length, prK, prev, old, exp, new, status⟩ : Nd), xs, ys, none, none, [], []), rfl, chd_same (fine_mk' hx hy (flip_ok hb2 v) hk2), ((hw.fnil none).fnil none).fin⟩ | exact ⟨((⟨kind, gen, main, (b : Int), brA, xs.length, brC, hash, key ++ ⟨#[120]⟩, val, prA, ys.length, prK, prev, old, exp, new, status⟩ : Nd), xs, ys, none, none, [], []), rfl, chd_same (fine_mk hx hy hb2 (by rw [ByteArray.size_append]; have h2 : (⟨#[120]⟩ : ByteArray).size = 1 := rfl; omega)), ((hw.fnil none).fnil none).fin⟩ | exact ⟨((⟨kind, gen, main, (b : Int), x39.1, 0 + xs.length + 1, x39.2, hash, key, val, prA, ys.length, prK, prev, old, exp, new, status⟩ : Nd), [] ++ xs ++ [v], ys, x39.1, none, [] ++ xs ++ [v], []), rfl, ⟨⟨by simp, rfl, by simp; omega, (show ys.length ≤ 1000 by omega), ⟨b, rfl, hb2⟩, hk2⟩, .inr ⟨rfl, rfl⟩, .inl ⟨rfl, rfl⟩⟩, ((hw.freeze .head (by simp)).fnil none).fin⟩ | exact ⟨((⟨kind, gen, main, (b : Int), brA, xs.length, brC, hash, key, val, x65.1, 0 + ys.length + 1, x65.2, prev, old, exp, new, status⟩ : Nd), xs, [] ++ ys ++ [(⟨#[97]⟩, 0)], none, x65.1, [], [] ++ ys ++ [(⟨#[97]⟩, 0)]), rfl, ⟨⟨rfl, by simp, (show xs.length ≤ 1000 by omega), by simp; omega, ⟨b, rfl, hb2⟩, hk2⟩, .inl ⟨rfl, rfl⟩, .inr ⟨rfl, rfl⟩⟩, ((hw.freeze .head (by simp)).fnil none).fin⟩ | exact ⟨((⟨kind, gen, main, (b : Int), brA, xs.length, brC, hash, key, val, prA, ys.length, prK, prev, old, exp, new, status⟩ : Nd), xs, ys, none, none, [], []), rfl, chd_same (fine_mk hx hy hb2 hk2), ((hw.fnil none).fnil none).fin⟩
                                                · try (exact absurd c75 (by decide))
                                                  all_goals (first | replace c75 := of_decide_eq_false c75 | replace c75 := sbeq_f c75 | replace c75 := sbne_f c75 | replace c75 := ibeq_f c75 | replace c75 := ibne_f c75 | replace c75 := ndec_f c75 | replace c75 := not_f c75 | skip)
                                                  all_goals (refine k_seq ?_)
                                                  all_goals refine k_region ?_
                                                  all_goals refine j_eql ?_
                                                  all_goals refine j_assignL (fun _ => ?_)
                                                  all_goals refine l_nil ?_
                                                  all_goals
                                                    refine k_cond (by exact rfl) (fun c79 => ?_) (fun c79 => ?_)
                                                    · try (exact absurd c79 (by decide))
                                                      all_goals (first | replace c79 := of_decide_eq_true c79 | replace c79 := sbeq_t c79 | replace c79 := sbne_t c79 | replace c79 := ibeq_t c79 | replace c79 := ibne_t c79 | replace c79 := ndec_t c79 | replace c79 := not_t c79 | skip)
                                                      all_goals refine k_region ?_
                                                      all_goals refine j_move ?_
                                                      all_goals refine j_fieldAddr ?_
                                                      all_goals refine j_store (fun _ => ?_)
                                                      all_goals refine l_nil ?_
                                                      all_goals (refine k_blk ?_)
                                                      all_goals (refine k_seq ?_)
                                                      all_goals refine k_region ?_
                                                      all_goals refine j_load ?_
                                                      all_goals refine j_store (fun _ => ?_)
                                                      all_goals refine l_nil ?_
                                                      all_goals
                                                        refine k_retvF Try.results31 (.cell (by exact rfl) (by repeat (first | exact At.head | apply At.tail)) (by exact agg_of rfl) .nil) (fun w hw => ?_)
                                                        first | exact ⟨((⟨v, gen, main, (b : Int), brA, xs.length, brC, hash, key, val, prA, ys.length, prK, prev, old, exp, new, status⟩ : Nd), xs, ys, none, none, [], []), rfl, chd_same (fine_mk hx hy hb2 hk2), ((hw.fnil none).fnil none).fin⟩ | exact ⟨((⟨kind, v, main, (b : Int), brA, xs.length, brC, hash, key, val, prA, ys.length, prK, prev, old, exp, new, status⟩ : Nd), xs, ys, none, none, [], []), rfl, chd_same (fine_mk hx hy hb2 hk2), ((hw.fnil none).fnil none).fin⟩ | exact ⟨((⟨kind, gen, v, (b : Int), brA, xs.length, brC, hash, key, val, prA, ys.length, prK, prev, old, exp, new, status⟩ : Nd), xs, ys, none, none, [], []), rfl, chd_same (fine_mk hx hy hb2 hk2), ((hw.fnil none).fnil none).fin⟩ | exact ⟨((⟨kind, gen, main, (b : Int), brA, xs.length, brC, hash, key, val, prA, ys.length, prK, v, old, exp, new, status⟩ : Nd), xs, ys, none, none, [], []), rfl, chd_same (fine_mk hx hy hb2 hk2), ((hw.fnil none).fnil none).fin⟩ | exact ⟨((⟨kind, gen, main, (b : Int), brA, xs.length, brC, hash, key, val, prA, ys.length, prK, prev, v, exp, new, status⟩ : Nd), xs, ys, none, none, [], []), rfl, chd_same (fine_mk hx hy hb2 hk2), ((hw.fnil none).fnil none).fin⟩ | exact ⟨((⟨kind, gen, main, (b : Int), brA, xs.length, brC, hash, key, val, prA, ys.length, prK, prev, old, v, new, status⟩ : Nd), xs, ys, none, none, [], []), rfl, chd_same (fine_mk hx hy hb2 hk2), ((hw.fnil none).fnil none).fin⟩ | exact ⟨((⟨kind, gen, main, (b : Int), brA, xs.length, brC, hash, key, val, prA, ys.length, prK, prev, old, exp, new, v⟩ : Nd), xs, ys, none, none, [], []), rfl, chd_same (fine_mk hx hy hb2 hk2), ((hw.fnil none).fnil none).fin⟩ | exact ⟨((⟨kind, gen, main, (b : Int), brA, xs.length, brC, IntKind.u64.wrap v, key, val, prA, ys.length, prK, prev, old, exp, new, status⟩ : Nd), xs, ys, none, none, [], []), rfl, chd_same (fine_mk hx hy hb2 hk2), ((hw.fnil none).fnil none).fin⟩ | exact ⟨((⟨kind, gen, main, (b : Int), brA, xs.length, brC, hash, key, IntKind.u64.wrap v, prA, ys.length, prK, prev, old, exp, new, status⟩ : Nd), xs, ys, none, none, [], []), rfl, chd_same (fine_mk hx hy hb2 hk2), ((hw.fnil none).fnil none).fin⟩ | exact ⟨((⟨kind, gen, main, rXor .u64 (b : Int) (rShl .u64 1 (modv v 64)), brA, xs.length, brC, hash, key, val, prA, ys.length, prK, prev, old, exp, new, status⟩ : Nd), xs, ys, none, none, [], []), rfl, chd_same (fine_mk' hx hy (flip_ok hb2 v) hk2), ((hw.fnil none).fnil none).fin⟩ | exact ⟨((⟨kind, gen, main, (b : Int), brA, xs.length, brC, hash, key ++ ⟨#[120]⟩, val, prA, ys.length, prK, prev, old, exp, new, status⟩ : Nd), xs, ys, none, none, [], []), rfl, chd_same (fine_mk hx hy hb2 (by rw [ByteArray.size_append]; have h2 : (⟨#[120]⟩ : ByteArray).size = 1 := rfl; omega)), ((hw.fnil none).fnil none).fin⟩ | exact ⟨((⟨kind, gen, main, (b : Int), x39.1, 0 + xs.length + 1, x39.2, hash, key, val, prA, ys.length, prK, prev, old, exp, new, status⟩ : Nd), [] ++ xs ++ [v], ys, x39.1, none, [] ++ xs ++ [v], []), rfl, ⟨⟨by simp, rfl, by simp; omega, (show ys.length ≤ 1000 by omega), ⟨b, rfl, hb2⟩, hk2⟩, .inr ⟨rfl, rfl⟩, .inl ⟨rfl, rfl⟩⟩, ((hw.freeze .head (by simp)).fnil none).fin⟩ | exact ⟨((⟨kind, gen, main, (b : Int), brA, xs.length, brC, hash, key, val, x65.1, 0 + ys.length + 1, x65.2, prev, old, exp, new, status⟩ : Nd), xs, [] ++ ys ++ [(⟨#[97]⟩, 0)], none, x65.1, [], [] ++ ys ++ [(⟨#[97]⟩, 0)]), rfl, ⟨⟨rfl, by simp, (show xs.length ≤ 1000 by omega), by simp; omega, ⟨b, rfl, hb2⟩, hk2⟩, .inl ⟨rfl, rfl⟩, .inr ⟨rfl, rfl⟩⟩, ((hw.freeze .head (by simp)).fnil none).fin⟩ | exact ⟨((⟨kind, gen, main, (b : Int), brA, xs.length, brC, hash, key, val, prA, ys.length, prK, prev, old, exp, new, status⟩ : Nd), xs, ys, none, none, [], []), rfl, chd_same (fine_mk hx hy hb2 hk2), ((hw.fnil none).fnil none).fin⟩
                                                    · try (exact absurd c79 (by decide))
                                                      all_goals (first | replace c79 := of_decide_eq_false c79 | replace c79 := sbeq_f c79 | replace c79 := sbne_f c79 | replace c79 := ibeq_f c79 | replace c79 := ibne_f c79 | replace c79 := ndec_f c79 | replace c79 := not_f c79 | skip)
                                                      all_goals (refine k_skip ?_)
                                                      all_goals (refine k_blk ?_)
                                                      all_goals (refine k_seq ?_)
                                                      all_goals refine k_region ?_
                                                      all_goals refine j_load ?_
                                                      all_goals refine j_store (fun _ => ?_)
                                                      all_goals refine l_nil ?_
                                                      all_goals
                                                        refine k_retvF Try.results31 (.cell (by exact rfl) (by repeat (first | exact At.head | apply At.tail)) (by exact agg_of rfl) .nil) (fun w hw => ?_)
                                                        first | exact ⟨((⟨v, gen, main, (b : Int), brA, xs.length, brC, hash, key, val, prA, ys.length, prK, prev, old, exp, new, status⟩ : Nd), xs, ys, none, none, [], []), rfl, chd_same (fine_mk hx hy hb2 hk2), ((hw.fnil none).fnil none).fin⟩ | exact ⟨((⟨kind, v, main, (b : Int), brA, xs.length, brC, hash, key, val, prA, ys.length, prK, prev, old, exp, new, status⟩ : Nd), xs, ys, none, none, [], []), rfl, chd_same (fine_mk hx hy hb2 hk2), ((hw.fnil none).fnil none).fin⟩ | exact ⟨((⟨kind, gen, v, (b : Int), brA, xs.length, brC, hash, key, val, prA, ys.length, prK, prev, old, exp, new, status⟩ : Nd), xs, ys, none, none, [], []), rfl, chd_same (fine_mk hx hy hb2 hk2), ((hw.fnil none).fnil none).fin⟩ | exact ⟨((⟨kind, gen, main, (b : Int), brA, xs.length, brC, hash, key, val, prA, ys.length, prK, v, old, exp, new, status⟩ : Nd), xs, ys, none, none, [], []), rfl, chd_same (fine_mk hx hy hb2 hk2), ((hw.fnil none).fnil none).fin⟩ | exact ⟨((⟨kind, gen, main, (b : Int), brA, xs.length, brC, hash, key, val, prA, ys.length, prK, prev, v, exp, new, status⟩ : Nd), xs, ys, none, none, [], []), rfl, chd_same (fine_mk hx hy hb2 hk2), ((hw.fnil none).fnil none).fin⟩ | exact ⟨((⟨kind, gen, main, (b : Int), brA, xs.length, brC, hash, key, val, prA, ys.length, prK, prev, old, v, new, status⟩ : Nd), xs, ys, none, none, [], []), rfl, chd_same (fine_mk hx hy hb2 hk2), ((hw.fnil none).fnil none).fin⟩ | exact ⟨((⟨kind, gen, main, (b : Int), brA, xs.length, brC, hash, key, val, prA, ys.length, prK, prev, old, exp, new, v⟩ : Nd), xs, ys, none, none, [], []), rfl, chd_same (fine_mk hx hy hb2 hk2), ((hw.fnil none).fnil none).fin⟩ | exact ⟨((⟨kind, gen, main, (b : Int), brA, xs.length, brC, IntKind.u64.wrap v, key, val, prA, ys.length, prK, prev, old, exp, new, status⟩ : Nd), xs, ys, none, none, [], []), rfl, chd_same (fine_mk hx hy hb2 hk2), ((hw.fnil none).fnil none).fin⟩ | exact ⟨((⟨kind, gen, main, (b : Int), brA, xs.length, brC, hash, key, IntKind.u64.wrap v, prA, ys.length, prK, prev, old, exp, new, status⟩ : Nd), xs, ys, none, none, [], []), rfl, chd_same (fine_mk hx hy hb2 hk2), ((hw.fnil none).fnil none).fin⟩ | exact ⟨((⟨kind, gen, main, rXor .u64 (b : Int) (rShl .u64 1 (modv v 64)), brA, xs.length, brC, hash, key, val, prA, ys.length, prK, prev, old, exp, new, status⟩ : Nd), xs, ys, none, none, [], []), rfl, chd_same (fine_mk' hx hy (flip_ok hb2 v) hk2), ((hw.fnil none).fnil none).fin⟩ | exact ⟨((⟨kind, gen, main, (b : Int), brA, xs.length, brC, hash, key ++ ⟨#[120]⟩, val, prA, ys.length, prK, prev, old, exp, new, status⟩ : Nd), xs, ys, none, none, [], []), rfl, chd_same (fine_mk hx hy hb2 (by rw [ByteArray.size_append]; have h2 : (⟨#[120]⟩ : ByteArray).size = 1 := rfl; omega)), ((hw.fnil none).fnil none).fin⟩ | exact ⟨((⟨kind, gen, main, (b : Int), x39.1, 0 + xs.length + 1, x39.2, hash, key, val, prA, ys.length, prK, prev, old, exp, new, status⟩ : Nd), [] ++ xs ++ [v], ys, x39.1, none, [] ++ xs ++ [v], []), rfl, ⟨⟨by simp, rfl, by simp; omega, (show ys.length ≤ 1000 by omega), ⟨b, rfl, hb2⟩, hk2⟩, .inr ⟨rfl, rfl⟩, .inl ⟨rfl, rfl⟩⟩, ((hw.freeze .head (by simp)).fnil none).fin⟩ | exact ⟨((⟨kind, gen, main, (b : Int), brA, xs.length, brC, hash, key, val, x65.1, 0 + ys.length + 1, x65.2, prev, old, exp, new, status⟩ : Nd), xs, [] ++ ys ++ [(⟨#[97]⟩, 0)], none, x65.1, [], [] ++ ys ++ [(⟨#[97]⟩, 0)]), rfl, ⟨⟨rfl, by simp, (show xs.length ≤ 1000 by omega), by simp; omega, ⟨b, rfl, hb2⟩, hk2⟩, .inl ⟨rfl, rfl⟩, .inr ⟨rfl, rfl⟩⟩, ((hw.freeze .head (by simp)).fnil none).fin⟩ | exact ⟨((⟨kind, gen, main, (b : Int), brA, xs.length, brC, hash, key, val, prA, ys.length, prK, prev, old, exp, new, status⟩ : Nd), xs, ys, none, none, [], []), rfl, chd_same (fine_mk hx hy hb2 hk2), ((hw.fnil none).fnil none).fin⟩
end Go.Proofs.Ythmagkjcangnfaa
