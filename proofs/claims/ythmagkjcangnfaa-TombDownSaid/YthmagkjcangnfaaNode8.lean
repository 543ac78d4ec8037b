/- The reference's Valid. -/
import Derived.Test.YthmagkjcangnfaaBit2
set_option linter.unusedSimpArgs false
set_option linter.unusedVariables false
namespace Go.Proofs.Ythmagkjcangnfaa
open Go.RowKit Go.Ct

theorem only_c (n : Nd) (h1 : 1 ≤ n.kind) (h8 : n.kind ≤ 8) (w : World) : Calls Try.prog 84 #[n.v] w fun e w' => e = .returned n.own.v ∧ St w [] [] w' := by
  refine enter Try.func84 Try.ntmps84 rfl rfl (SF.s0 w) ?_
  simp only [mkS]
  all_goals (refine k_seq ?_)
  all_goals refine k_region ?_
  all_goals refine j_box (fun x1 => ?_)
  all_goals refine j_alloc (fun x2 => ?_)
  all_goals refine l_nil ?_
  all_goals (refine k_seq ?_)
  all_goals (refine k_seq ?_)
  all_goals refine k_region ?_
  all_goals refine j_fieldAddr ?_
  all_goals refine j_load ?_
  all_goals refine l_nil ?_
  all_goals (refine k_block ?_)
  all_goals (refine k_seq ?_)
  all_goals refine k_region ?_
  all_goals refine j_eql ?_
  all_goals refine j_assignL (fun _ => ?_)
  all_goals refine l_nil ?_
  all_goals
    refine k_cond (by exact rfl) (fun c5 => ?_) (fun c5 => ?_)
    · try (exact absurd c5 (by decide))
      all_goals (first | replace c5 := of_decide_eq_true c5 | replace c5 := sbeq_t c5 | replace c5 := sbne_t c5 | replace c5 := ibeq_t c5 | replace c5 := ibne_t c5 | replace c5 := ndec_t c5 | replace c5 := not_t c5 | skip)
      all_goals (refine k_seq ?_)
      all_goals refine k_region ?_
      all_goals refine j_fieldAddr ?_
      all_goals refine j_load ?_
      all_goals refine j_build ?_
      all_goals refine j_store (fun _ => ?_)
      all_goals refine l_nil ?_
      all_goals
        refine k_retvF Try.results84 (.cell (by exact rfl) (by repeat (first | exact At.head | apply At.tail)) (by exact agg_of rfl) .nil) (fun w hw => ?_)
        first | (exfalso; omega) | exact ⟨by simp only [Nd.own, beq_iff_eq, *, if_true, if_false]; rfl, hw.done⟩
    · try (exact absurd c5 (by decide))
      all_goals (first | replace c5 := of_decide_eq_false c5 | replace c5 := sbeq_f c5 | replace c5 := sbne_f c5 | replace c5 := ibeq_f c5 | replace c5 := ibne_f c5 | replace c5 := ndec_f c5 | replace c5 := not_f c5 | skip)
      all_goals (refine k_seq ?_)
      all_goals refine k_region ?_
      all_goals refine j_eql ?_
      all_goals refine j_assignL (fun _ => ?_)
      all_goals refine l_nil ?_
      all_goals
        refine k_cond (by exact rfl) (fun c10 => ?_) (fun c10 => ?_)
        · try (exact absurd c10 (by decide))
          all_goals (first | replace c10 := of_decide_eq_true c10 | replace c10 := sbeq_t c10 | replace c10 := sbne_t c10 | replace c10 := ibeq_t c10 | replace c10 := ibne_t c10 | replace c10 := ndec_t c10 | replace c10 := not_t c10 | skip)
          all_goals (refine k_seq ?_)
          all_goals refine k_region ?_
          all_goals refine j_fieldAddr ?_
          all_goals refine j_load ?_
          all_goals refine j_fieldAddr ?_
          all_goals refine j_load ?_
          all_goals refine j_fieldAddr ?_
          all_goals refine j_load ?_
          all_goals refine j_build ?_
          all_goals refine j_store (fun _ => ?_)
          all_goals refine l_nil ?_
          all_goals
            refine k_retvF Try.results84 (.cell (by exact rfl) (by repeat (first | exact At.head | apply At.tail)) (by exact agg_of rfl) .nil) (fun w hw => ?_)
            first | (exfalso; omega) | exact ⟨by simp only [Nd.own, beq_iff_eq, *, if_true, if_false]; rfl, hw.done⟩
        · try (exact absurd c10 (by decide))
          all_goals (first | replace c10 := of_decide_eq_false c10 | replace c10 := sbeq_f c10 | replace c10 := sbne_f c10 | replace c10 := ibeq_f c10 | replace c10 := ibne_f c10 | replace c10 := ndec_f c10 | replace c10 := not_f c10 | skip)
          all_goals (refine k_seq ?_)
          all_goals refine k_region ?_
          all_goals refine j_eql ?_
          all_goals refine j_assignL (fun _ => ?_)
          all_goals refine l_nil ?_
          all_goals
            refine k_cond (by exact rfl) (fun c19 => ?_) (fun c19 => ?_)
            · try (exact absurd c19 (by decide))
              all_goals (first | replace c19 := of_decide_eq_true c19 | replace c19 := sbeq_t c19 | replace c19 := sbne_t c19 | replace c19 := ibeq_t c19 | replace c19 := ibne_t c19 | replace c19 := ndec_t c19 | replace c19 := not_t c19 | skip)
              all_goals (refine k_seq ?_)
              all_goals refine k_region ?_
              all_goals refine j_fieldAddr ?_
              all_goals refine j_load ?_
              all_goals refine j_fieldAddr ?_
              all_goals refine j_load ?_
              all_goals refine j_fieldAddr ?_
              all_goals refine j_load ?_
              all_goals refine j_fieldAddr ?_
              all_goals refine j_load ?_
              all_goals refine j_build ?_
              all_goals refine j_store (fun _ => ?_)
              all_goals refine l_nil ?_
              all_goals
                refine k_retvF Try.results84 (.cell (by exact rfl) (by repeat (first | exact At.head | apply At.tail)) (by exact agg_of rfl) .nil) (fun w hw => ?_)
                first | (exfalso; omega) | exact ⟨by simp only [Nd.own, beq_iff_eq, *, if_true, if_false]; rfl, hw.done⟩
            · try (exact absurd c19 (by decide))
              all_goals (first | replace c19 := of_decide_eq_false c19 | replace c19 := sbeq_f c19 | replace c19 := sbne_f c19 | replace c19 := ibeq_f c19 | replace c19 := ibne_f c19 | replace c19 := ndec_f c19 | replace c19 := not_f c19 | skip)
              all_goals (refine k_seq ?_)
              all_goals refine k_region ?_
              all_goals refine j_eql ?_
              all_goals refine j_assignL (fun _ => ?_)
              all_goals refine l_nil ?_
              all_goals
                refine k_cond (by exact rfl) (fun c30 => ?_) (fun c30 => ?_)
                · try (exact absurd c30 (by decide))
                  all_goals (first | replace c30 := of_decide_eq_true c30 | replace c30 := sbeq_t c30 | replace c30 := sbne_t c30 | replace c30 := ibeq_t c30 | replace c30 := ibne_t c30 | replace c30 := ndec_t c30 | replace c30 := not_t c30 | skip)
                  all_goals (refine k_seq ?_)
                  all_goals refine k_region ?_
                  all_goals refine j_fieldAddr ?_
                  all_goals refine j_load ?_
                  all_goals refine j_fieldAddr ?_
                  all_goals refine j_load ?_
                  all_goals refine j_fieldAddr ?_
                  all_goals refine j_load ?_
                  all_goals refine j_fieldAddr ?_
                  all_goals refine j_load ?_
                  all_goals refine j_build ?_
                  all_goals refine j_store (fun _ => ?_)
                  all_goals refine l_nil ?_
                  all_goals
                    refine k_retvF Try.results84 (.cell (by exact rfl) (by repeat (first | exact At.head | apply At.tail)) (by exact agg_of rfl) .nil) (fun w hw => ?_)
                    first | (exfalso; omega) | exact ⟨by simp only [Nd.own, beq_iff_eq, *, if_true, if_false]; rfl, hw.done⟩
                · try (exact absurd c30 (by decide))
                  all_goals (first | replace c30 := of_decide_eq_false c30 | replace c30 := sbeq_f c30 | replace c30 := sbne_f c30 | replace c30 := ibeq_f c30 | replace c30 := ibne_f c30 | replace c30 := ndec_f c30 | replace c30 := not_f c30 | skip)
                  all_goals (refine k_seq ?_)
                  all_goals refine k_region ?_
                  all_goals refine j_eql ?_
                  all_goals refine j_assignL (fun _ => ?_)
                  all_goals refine l_nil ?_
                  all_goals
                    refine k_cond (by exact rfl) (fun c41 => ?_) (fun c41 => ?_)
                    · try (exact absurd c41 (by decide))
                      all_goals (first | replace c41 := of_decide_eq_true c41 | replace c41 := sbeq_t c41 | replace c41 := sbne_t c41 | replace c41 := ibeq_t c41 | replace c41 := ibne_t c41 | replace c41 := ndec_t c41 | replace c41 := not_t c41 | skip)
                      all_goals (refine k_seq ?_)
                      all_goals refine k_region ?_
                      all_goals refine j_fieldAddr ?_
                      all_goals refine j_load ?_
                      all_goals refine j_fieldAddr ?_
                      all_goals refine j_load ?_
                      all_goals refine j_fieldAddr ?_
                      all_goals refine j_load ?_
                      all_goals refine j_fieldAddr ?_
                      all_goals refine j_load ?_
                      all_goals refine j_fieldAddr ?_
                      all_goals refine j_load ?_
                      all_goals refine j_build ?_
                      all_goals refine j_store (fun _ => ?_)
                      all_goals refine l_nil ?_
                      all_goals
                        refine k_retvF Try.results84 (.cell (by exact rfl) (by repeat (first | exact At.head | apply At.tail)) (by exact agg_of rfl) .nil) (fun w hw => ?_)
                        first | (exfalso; omega) | exact ⟨by simp only [Nd.own, beq_iff_eq, *, if_true, if_false]; rfl, hw.done⟩
                    · try (exact absurd c41 (by decide))
                      all_goals (first | replace c41 := of_decide_eq_false c41 | replace c41 := sbeq_f c41 | replace c41 := sbne_f c41 | replace c41 := ibeq_f c41 | replace c41 := ibne_f c41 | replace c41 := ndec_f c41 | replace c41 := not_f c41 | skip)
                      all_goals (refine k_seq ?_)
                      all_goals refine k_region ?_
                      all_goals refine j_eql ?_
                      all_goals refine j_assignL (fun _ => ?_)
                      all_goals refine l_nil ?_
                      all_goals
                        refine k_cond (by exact rfl) (fun c54 => ?_) (fun c54 => ?_)
                        · try (exact absurd c54 (by decide))
                          all_goals (first | replace c54 := of_decide_eq_true c54 | replace c54 := sbeq_t c54 | replace c54 := sbne_t c54 | replace c54 := ibeq_t c54 | replace c54 := ibne_t c54 | replace c54 := ndec_t c54 | replace c54 := not_t c54 | skip)
                          all_goals (refine k_seq ?_)
                          all_goals refine k_region ?_
                          all_goals refine j_fieldAddr ?_
                          all_goals refine j_load ?_
                          all_goals refine j_fieldAddr ?_
                          all_goals refine j_load ?_
                          all_goals refine j_fieldAddr ?_
                          all_goals refine j_load ?_
                          all_goals refine j_fieldAddr ?_
                          all_goals refine j_load ?_
                          all_goals refine j_build ?_
                          all_goals refine j_store (fun _ => ?_)
                          all_goals refine l_nil ?_
                          all_goals
                            refine k_retvF Try.results84 (.cell (by exact rfl) (by repeat (first | exact At.head | apply At.tail)) (by exact agg_of rfl) .nil) (fun w hw => ?_)
                            first | (exfalso; omega) | exact ⟨by simp only [Nd.own, beq_iff_eq, *, if_true, if_false]; rfl, hw.done⟩
                        · try (exact absurd c54 (by decide))
                          all_goals (first | replace c54 := of_decide_eq_false c54 | replace c54 := sbeq_f c54 | replace c54 := sbne_f c54 | replace c54 := ibeq_f c54 | replace c54 := ibne_f c54 | replace c54 := ndec_f c54 | replace c54 := not_f c54 | skip)
                          all_goals (refine k_seq ?_)
                          all_goals refine k_region ?_
                          all_goals refine j_eql ?_
                          all_goals refine j_assignL (fun _ => ?_)
                          all_goals refine l_nil ?_
                          all_goals
                            refine k_cond (by exact rfl) (fun c65 => ?_) (fun c65 => ?_)
                            · try (exact absurd c65 (by decide))
                              all_goals (first | replace c65 := of_decide_eq_true c65 | replace c65 := sbeq_t c65 | replace c65 := sbne_t c65 | replace c65 := ibeq_t c65 | replace c65 := ibne_t c65 | replace c65 := ndec_t c65 | replace c65 := not_t c65 | skip)
                              all_goals (refine k_seq ?_)
                              all_goals refine k_region ?_
                              all_goals refine j_fieldAddr ?_
                              all_goals refine j_load ?_
                              all_goals refine j_fieldAddr ?_
                              all_goals refine j_load ?_
                              all_goals refine j_build ?_
                              all_goals refine j_store (fun _ => ?_)
                              all_goals refine l_nil ?_
                              all_goals
                                refine k_retvF Try.results84 (.cell (by exact rfl) (by repeat (first | exact At.head | apply At.tail)) (by exact agg_of rfl) .nil) (fun w hw => ?_)
                                first | (exfalso; omega) | exact ⟨by simp only [Nd.own, beq_iff_eq, *, if_true, if_false]; rfl, hw.done⟩
                            · try (exact absurd c65 (by decide))
                              all_goals (first | replace c65 := of_decide_eq_false c65 | replace c65 := sbeq_f c65 | replace c65 := sbne_f c65 | replace c65 := ibeq_f c65 | replace c65 := ibne_f c65 | replace c65 := ndec_f c65 | replace c65 := not_f c65 | skip)
                              all_goals (refine k_seq ?_)
                              all_goals refine k_region ?_
                              all_goals refine j_eql ?_
                              all_goals refine j_assignL (fun _ => ?_)
                              all_goals refine l_nil ?_
                              all_goals
                                refine k_cond (by exact rfl) (fun c72 => ?_) (fun c72 => ?_)
                                · try (exact absurd c72 (by decide))
                                  all_goals (first | replace c72 := of_decide_eq_true c72 | replace c72 := sbeq_t c72 | replace c72 := sbne_t c72 | replace c72 := ibeq_t c72 | replace c72 := ibne_t c72 | replace c72 := ndec_t c72 | replace c72 := not_t c72 | skip)
                                  all_goals (refine k_seq ?_)
                                  all_goals refine k_region ?_
                                  all_goals refine j_fieldAddr ?_
                                  all_goals refine j_load ?_
                                  all_goals refine j_fieldAddr ?_
                                  all_goals refine j_load ?_
                                  all_goals refine j_fieldAddr ?_
                                  all_goals refine j_load ?_
                                  all_goals refine j_fieldAddr ?_
                                  all_goals refine j_load ?_
                                  all_goals refine j_fieldAddr ?_
                                  all_goals refine j_load ?_
                                  all_goals refine j_build ?_
                                  all_goals refine j_store (fun _ => ?_)
                                  all_goals refine l_nil ?_
                                  all_goals
                                    refine k_retvF Try.results84 (.cell (by exact rfl) (by repeat (first | exact At.head | apply At.tail)) (by exact agg_of rfl) .nil) (fun w hw => ?_)
                                    first | (exfalso; omega) | exact ⟨by simp only [Nd.own, beq_iff_eq, *, if_true, if_false]; rfl, hw.done⟩
                                · try (exact absurd c72 (by decide))
                                  all_goals (first | replace c72 := of_decide_eq_false c72 | replace c72 := sbeq_f c72 | replace c72 := sbne_f c72 | replace c72 := ibeq_f c72 | replace c72 := ibne_f c72 | replace c72 := ndec_f c72 | replace c72 := not_f c72 | skip)
                                  all_goals (refine k_skip ?_)
                                  all_goals (refine k_blk ?_)
                                  all_goals (refine k_seq ?_)
                                  all_goals refine k_region ?_
                                  all_goals refine j_build ?_
                                  all_goals refine j_store (fun _ => ?_)
                                  all_goals refine l_nil ?_
                                  all_goals
                                    refine k_retvF Try.results84 (.cell (by exact rfl) (by repeat (first | exact At.head | apply At.tail)) (by exact agg_of rfl) .nil) (fun w hw => ?_)
                                    first | (exfalso; omega) | exact ⟨by simp only [Nd.own, beq_iff_eq, *, if_true, if_false]; rfl, hw.done⟩
theorem ndValid_c3 {n : Nd} {xs : List Int} {ys : List Pr} (h : n.kind = 3) (hv : NdValid n xs ys) : (xs.length : Int) = rOnes n.bm ∧ Pos xs := by
  obtain ⟨_, _, _, _, hv⟩ := hv
  rcases hv with h1 | ⟨h1, _⟩ | ⟨_, h2, h3⟩ | ⟨h1 | h1, _⟩ | ⟨h1, _⟩ | ⟨h1, _⟩ | ⟨h1, _⟩
  all_goals first | exact ⟨h2, h3⟩ | (rw [h] at h1; exact absurd h1 (by decide))
theorem c3_false {n : Nd} {xs : List Int} {ys : List Pr} (h : n.kind = 3) {k : Nat} (hk : k < xs.length) (hx : xs.getD k 0 < 1) : false = true ↔ NdValid n xs ys := by
  simp only [Bool.false_eq_true, false_iff]
  intro hv
  have := (ndValid_c3 h hv).2 k hk
  omega
theorem c3_true {n : Nd} {xs : List Int} {ys : List Pr} {c : Int} (h : n.kind = 3) (he : NdEq n n.own xs (n.xsOwn xs) ys (n.ysOwn ys)) (h1 : 0 ≤ n.main) (h2 : 0 ≤ n.prev) (h3 : 0 ≤ n.status) (eo : rOnes n.bm = c) (hp : Pos xs) : ((xs.length : Int) == c) = true ↔ NdValid n xs ys := by
  rw [beq_iff_eq, ← eo]
  exact ⟨fun hl => ⟨he, h1, h2, h3, .inr (.inr (.inl ⟨h, hl, hp⟩))⟩, fun hv => (ndValid_c3 h hv).1⟩
theorem refValid_c {n : Nd} {xs : List Int} {ys : List Pr} {w : World} {b : Nat} (hb : n.bm = (b : Int)) (hb2 : b < 18446744073709551616) (hr : Rep w n xs ys) :
    Calls Try.prog 33 #[n.v] w fun e w' => ∃ r : Bool, e = .returned (.bool r) ∧ (r = true ↔ NdValid n xs ys) ∧ St w [] [] w' := by
  have e1 := hr.brN; have e2 := hr.prN
  obtain ⟨kind, gen, main, bm, brA, brN, brC, hash, key, val, prA, prN, prK, prev, old, exp, new, status⟩ := n
  simp only at e1 e2 hb
  subst e1 e2 hb
  have eo : rOnes (b : Int) = ((cnt b 64 : Nat) : Int) := rOnes_cnt hb2
  have hxl := hr.brS
  refine enter Try.func33 Try.ntmps33 rfl rfl (SF.s2 hr.br hr.pr) ?_
  simp only [mkS]
  simp only [Nd.v, Nd.cells]
  all_goals (refine k_seq ?_)
  all_goals refine k_region ?_
  all_goals refine j_box (fun x1 => ?_)
  all_goals refine j_assignL (fun _ => ?_)
  all_goals refine l_nil ?_
  all_goals (refine k_seq ?_)
  all_goals (refine k_seq ?_)
  all_goals refine k_drawF (.one 0 [] (.one 1 [] (.one 2 [] (.one 3 [] (.one 4 [] (.one 5 [] (.one 6 [] (.one 7 [] (.one 8 [] (.one 9 [] (.one 10 [] (.one 11 [1, 5, 9] (.one 12 [1, 5, 10] (.one 13 [] (.one 14 [] (.one 15 [] (.one 16 [] (.one 17 [] (.one 18 [] (.one 19 [] (.one 20 [] (.one 21 [] (.one 22 [] (.one 23 [] (.one 24 [] (.one 25 [] (.one 26 [] (.one 27 [] (.one 28 [] (.one 29 [] .nil)))))))))))))))))))))))))))))) ?_
  all_goals (refine r_fieldAddr (i := 0) ?_)
  all_goals (refine r_load (i := 1) ?_)
  all_goals (refine r_lss (i := 2) ?_)
  all_goals (refine r_move (i := 3) ?_)
  all_goals (first | refine r_un (i := 4) ?_ | (refine r_fieldAddr (i := 4) ?_) | (refine r_case (g := 7) (by exact rfl) (fun g7 => ?_) (fun g7 => ?_) <;> (first | replace g7 := of_decide_eq_true g7 | replace g7 := of_decide_eq_false g7 | skip) <;> (first | refine r_un (i := 4) ?_ | (refine r_fieldAddr (i := 4) ?_))))
  all_goals (first | refine r_un (i := 5) ?_ | (refine r_load (i := 5) ?_) | (refine r_case (g := 7) (by exact rfl) (fun g7 => ?_) (fun g7 => ?_) <;> (first | replace g7 := of_decide_eq_true g7 | replace g7 := of_decide_eq_false g7 | skip) <;> (first | refine r_un (i := 5) ?_ | (refine r_load (i := 5) ?_))))
  all_goals (first | refine r_un (i := 6) ?_ | (refine r_gtr (i := 6) ?_) | (refine r_case (g := 7) (by exact rfl) (fun g7 => ?_) (fun g7 => ?_) <;> (first | replace g7 := of_decide_eq_true g7 | replace g7 := of_decide_eq_false g7 | skip) <;> (first | refine r_un (i := 6) ?_ | (refine r_gtr (i := 6) ?_))))
  all_goals (refine r_pick (i := 7) ?_)
  all_goals (refine r_move (i := 8) ?_)
  all_goals (first | refine r_un (i := 9) ?_ | (refine r_load (i := 9) ?_) | (refine r_case (g := 12) (by exact rfl) (fun g12 => ?_) (fun g12 => ?_) <;> (first | replace g12 := of_decide_eq_true g12 | replace g12 := of_decide_eq_false g12 | skip) <;> (first | refine r_un (i := 9) ?_ | (refine r_load (i := 9) ?_))))
  all_goals (first | refine r_un (i := 10) ?_ | (refine r_load (i := 10) ?_) | (refine r_case (g := 12) (by exact rfl) (fun g12 => ?_) (fun g12 => ?_) <;> (first | replace g12 := of_decide_eq_true g12 | replace g12 := of_decide_eq_false g12 | skip) <;> (first | refine r_un (i := 10) ?_ | (refine r_load (i := 10) ?_))))
  all_goals (first | refine r_un (i := 11) ?_ | ((refine r_own (i := 11) (hq := (cV (hc := fun w1 hw => only_c (⟨kind, gen, main, (b : Int), brA, xs.length, brC, hash, key, val, prA, ys.length, prK, prev, old, exp, new, status⟩ : Nd) (show (1 : Int) ≤ kind by omega) (show kind ≤ 8 by omega) w1))) (hfire := (fun _ => by first | (refine FireAll.cons (by first | exact a_load | exact a_un) ?_; refine FireAll.cons (by first | exact a_load | exact a_un) ?_; refine FireAll.cons (by first | exact a_load | exact a_un) ?_; exact FireAll.nil) | (refine fireall_fact ?_; refine FireAll.cons (by first | exact a_load | exact a_un) ?_; refine FireAll.cons (by first | exact a_load | exact a_un) ?_; refine FireAll.cons (by first | exact a_load | exact a_un) ?_; exact FireAll.nil))) (h := fun x15 => ?_); try (refine r_fact (fun h15 => ?_)))) | (refine r_case (g := 12) (by exact rfl) (fun g12 => ?_) (fun g12 => ?_) <;> (first | replace g12 := of_decide_eq_true g12 | replace g12 := of_decide_eq_false g12 | skip) <;> (first | refine r_un (i := 11) ?_ | ((refine r_own (i := 11) (hq := (cV (hc := fun w1 hw => only_c (⟨kind, gen, main, (b : Int), brA, xs.length, brC, hash, key, val, prA, ys.length, prK, prev, old, exp, new, status⟩ : Nd) (show (1 : Int) ≤ kind by omega) (show kind ≤ 8 by omega) w1))) (hfire := (fun _ => by first | (refine FireAll.cons (by first | exact a_load | exact a_un) ?_; refine FireAll.cons (by first | exact a_load | exact a_un) ?_; refine FireAll.cons (by first | exact a_load | exact a_un) ?_; exact FireAll.nil) | (refine fireall_fact ?_; refine FireAll.cons (by first | exact a_load | exact a_un) ?_; refine FireAll.cons (by first | exact a_load | exact a_un) ?_; refine FireAll.cons (by first | exact a_load | exact a_un) ?_; exact FireAll.nil))) (h := fun x15 => ?_); try (refine r_fact (fun h15 => ?_)))))))
  all_goals (first | refine r_un (i := 12) ?_ | ((refine r_own (i := 12) (hq := (c0 (V := .bool) (hc := fun w1 hw => refEq_c (a := (⟨kind, gen, main, (b : Int), brA, xs.length, brC, hash, key, val, prA, ys.length, prK, prev, old, exp, new, status⟩ : Nd)) (b := ((⟨kind, gen, main, (b : Int), brA, xs.length, brC, hash, key, val, prA, ys.length, prK, prev, old, exp, new, status⟩ : Nd)).own) (hr.keep0 hw.done) (hr.keep0 hw.done).own))) (hfire := (fun _ => by first | (refine FireAll.cons (by first | exact a_load | exact a_un) ?_; refine FireAll.cons (by first | exact a_load | exact a_un) ?_; refine FireAll.cons (by first | exact a_load | exact a_un) ?_; exact FireAll.nil) | (refine fireall_fact ?_; refine FireAll.cons (by first | exact a_load | exact a_un) ?_; refine FireAll.cons (by first | exact a_load | exact a_un) ?_; refine FireAll.cons (by first | exact a_load | exact a_un) ?_; exact FireAll.nil))) (h := fun x16 => ?_); try (refine r_fact (fun h16 => ?_)))) | (refine r_case (g := 12) (by exact rfl) (fun g12 => ?_) (fun g12 => ?_) <;> (first | replace g12 := of_decide_eq_true g12 | replace g12 := of_decide_eq_false g12 | skip) <;> (first | refine r_un (i := 12) ?_ | ((refine r_own (i := 12) (hq := (c0 (V := .bool) (hc := fun w1 hw => refEq_c (a := (⟨kind, gen, main, (b : Int), brA, xs.length, brC, hash, key, val, prA, ys.length, prK, prev, old, exp, new, status⟩ : Nd)) (b := ((⟨kind, gen, main, (b : Int), brA, xs.length, brC, hash, key, val, prA, ys.length, prK, prev, old, exp, new, status⟩ : Nd)).own) (hr.keep0 hw.done) (hr.keep0 hw.done).own))) (hfire := (fun _ => by first | (refine FireAll.cons (by first | exact a_load | exact a_un) ?_; refine FireAll.cons (by first | exact a_load | exact a_un) ?_; refine FireAll.cons (by first | exact a_load | exact a_un) ?_; exact FireAll.nil) | (refine fireall_fact ?_; refine FireAll.cons (by first | exact a_load | exact a_un) ?_; refine FireAll.cons (by first | exact a_load | exact a_un) ?_; refine FireAll.cons (by first | exact a_load | exact a_un) ?_; exact FireAll.nil))) (h := fun x16 => ?_); try (refine r_fact (fun h16 => ?_)))))))
  all_goals (first | refine r_un (i := 13) ?_ | (refine r_not (i := 13) ?_) | (refine r_case (g := 12) (by exact rfl) (fun g12 => ?_) (fun g12 => ?_) <;> (first | replace g12 := of_decide_eq_true g12 | replace g12 := of_decide_eq_false g12 | skip) <;> (first | refine r_un (i := 13) ?_ | (refine r_not (i := 13) ?_))))
  all_goals (refine r_pick (i := 14) ?_)
  all_goals (refine r_move (i := 15) ?_)
  all_goals (first | refine r_un (i := 16) ?_ | (refine r_fieldAddr (i := 16) ?_) | (refine r_case (g := 19) (by exact rfl) (fun g19 => ?_) (fun g19 => ?_) <;> (first | replace g19 := of_decide_eq_true g19 | replace g19 := of_decide_eq_false g19 | skip) <;> (first | refine r_un (i := 16) ?_ | (refine r_fieldAddr (i := 16) ?_))))
  all_goals (first | refine r_un (i := 17) ?_ | (refine r_load (i := 17) ?_) | (refine r_case (g := 19) (by exact rfl) (fun g19 => ?_) (fun g19 => ?_) <;> (first | replace g19 := of_decide_eq_true g19 | replace g19 := of_decide_eq_false g19 | skip) <;> (first | refine r_un (i := 17) ?_ | (refine r_load (i := 17) ?_))))
  all_goals (first | refine r_un (i := 18) ?_ | (refine r_lss (i := 18) ?_) | (refine r_case (g := 19) (by exact rfl) (fun g19 => ?_) (fun g19 => ?_) <;> (first | replace g19 := of_decide_eq_true g19 | replace g19 := of_decide_eq_false g19 | skip) <;> (first | refine r_un (i := 18) ?_ | (refine r_lss (i := 18) ?_))))
  all_goals (refine r_pick (i := 19) ?_)
  all_goals (refine r_move (i := 20) ?_)
  all_goals (first | refine r_un (i := 21) ?_ | (refine r_fieldAddr (i := 21) ?_) | (refine r_case (g := 24) (by exact rfl) (fun g24 => ?_) (fun g24 => ?_) <;> (first | replace g24 := of_decide_eq_true g24 | replace g24 := of_decide_eq_false g24 | skip) <;> (first | refine r_un (i := 21) ?_ | (refine r_fieldAddr (i := 21) ?_))))
  all_goals (first | refine r_un (i := 22) ?_ | (refine r_load (i := 22) ?_) | (refine r_case (g := 24) (by exact rfl) (fun g24 => ?_) (fun g24 => ?_) <;> (first | replace g24 := of_decide_eq_true g24 | replace g24 := of_decide_eq_false g24 | skip) <;> (first | refine r_un (i := 22) ?_ | (refine r_load (i := 22) ?_))))
  all_goals (first | refine r_un (i := 23) ?_ | (refine r_lss (i := 23) ?_) | (refine r_case (g := 24) (by exact rfl) (fun g24 => ?_) (fun g24 => ?_) <;> (first | replace g24 := of_decide_eq_true g24 | replace g24 := of_decide_eq_false g24 | skip) <;> (first | refine r_un (i := 23) ?_ | (refine r_lss (i := 23) ?_))))
  all_goals (refine r_pick (i := 24) ?_)
  all_goals (refine r_move (i := 25) ?_)
  all_goals (first | refine r_un (i := 26) ?_ | (refine r_fieldAddr (i := 26) ?_) | (refine r_case (g := 29) (by exact rfl) (fun g29 => ?_) (fun g29 => ?_) <;> (first | replace g29 := of_decide_eq_true g29 | replace g29 := of_decide_eq_false g29 | skip) <;> (first | refine r_un (i := 26) ?_ | (refine r_fieldAddr (i := 26) ?_))))
  all_goals (first | refine r_un (i := 27) ?_ | (refine r_load (i := 27) ?_) | (refine r_case (g := 29) (by exact rfl) (fun g29 => ?_) (fun g29 => ?_) <;> (first | replace g29 := of_decide_eq_true g29 | replace g29 := of_decide_eq_false g29 | skip) <;> (first | refine r_un (i := 27) ?_ | (refine r_load (i := 27) ?_))))
  all_goals (first | refine r_un (i := 28) ?_ | (refine r_lss (i := 28) ?_) | (refine r_case (g := 29) (by exact rfl) (fun g29 => ?_) (fun g29 => ?_) <;> (first | replace g29 := of_decide_eq_true g29 | replace g29 := of_decide_eq_false g29 | skip) <;> (first | refine r_un (i := 28) ?_ | (refine r_lss (i := 28) ?_))))
  all_goals (refine r_pick (i := 29) ?_)
  all_goals refine r_fin ?_
  all_goals
    refine k_cond (by exact rfl) (fun c33 => ?_) (fun c33 => ?_)
    · try (exact absurd c33 (by decide))
      all_goals (first | replace c33 := of_decide_eq_true c33 | replace c33 := sbeq_t c33 | replace c33 := sbne_t c33 | replace c33 := ibeq_t c33 | replace c33 := ibne_t c33 | replace c33 := ndec_t c33 | replace c33 := not_t c33 | skip)
      all_goals (refine k_seq ?_)
      all_goals refine k_region ?_
      all_goals refine j_assignL (fun _ => ?_)
      all_goals refine l_nil ?_
      all_goals
        refine k_retvF Try.results33 (.tmp (by conv => { lhs; whnf }) .nil) (fun w hw => ?_)
        refine ⟨_, rfl, ?_, hw.done⟩
        first | (simp_all [NdValid]; done) | exact c3_false c41 (k := k) (by omega) (by assumption) | exact c3_true c41 (h16.1 (by simpa using g19)) (show 0 ≤ main by omega) (show 0 ≤ prev by omega) (show 0 ≤ status by omega) eo (fun i hi => hx.2 i (by omega)) | (simp_all [NdValid]; omega)
    · try (exact absurd c33 (by decide))
      all_goals (first | replace c33 := of_decide_eq_false c33 | replace c33 := sbeq_f c33 | replace c33 := sbne_f c33 | replace c33 := ibeq_f c33 | replace c33 := ibne_f c33 | replace c33 := ndec_f c33 | replace c33 := not_f c33 | skip)
      all_goals (refine k_skip ?_)
      all_goals (refine k_seq ?_)
      all_goals (refine k_seq ?_)
      all_goals refine k_region ?_
      all_goals refine j_fieldAddr ?_
      all_goals refine j_load ?_
      all_goals refine l_nil ?_
      all_goals (refine k_block ?_)
      all_goals (refine k_seq ?_)
      all_goals refine k_region ?_
      all_goals refine j_eql ?_
      all_goals refine j_assignL (fun _ => ?_)
      all_goals refine l_nil ?_
      all_goals
        refine k_cond (by exact rfl) (fun c36 => ?_) (fun c36 => ?_)
        · try (exact absurd c36 (by decide))
          all_goals (first | replace c36 := of_decide_eq_true c36 | replace c36 := sbeq_t c36 | replace c36 := sbne_t c36 | replace c36 := ibeq_t c36 | replace c36 := ibne_t c36 | replace c36 := ndec_t c36 | replace c36 := not_t c36 | skip)
          all_goals (refine k_seq ?_)
          all_goals refine k_region ?_
          all_goals refine j_fieldAddr ?_
          all_goals refine j_load ?_
          all_goals refine j_geq ?_
          all_goals refine j_assignL (fun _ => ?_)
          all_goals refine l_nil ?_
          all_goals
            refine k_retvF Try.results33 (.tmp (by conv => { lhs; whnf }) .nil) (fun w hw => ?_)
            refine ⟨_, rfl, ?_, hw.done⟩
            first | (simp_all [NdValid]; done) | exact c3_false c41 (k := k) (by omega) (by assumption) | exact c3_true c41 (h16.1 (by simpa using g19)) (show 0 ≤ main by omega) (show 0 ≤ prev by omega) (show 0 ≤ status by omega) eo (fun i hi => hx.2 i (by omega)) | (simp_all [NdValid]; omega)
        · try (exact absurd c36 (by decide))
          all_goals (first | replace c36 := of_decide_eq_false c36 | replace c36 := sbeq_f c36 | replace c36 := sbne_f c36 | replace c36 := ibeq_f c36 | replace c36 := ibne_f c36 | replace c36 := ndec_f c36 | replace c36 := not_f c36 | skip)
          all_goals (refine k_seq ?_)
          all_goals refine k_region ?_
          all_goals refine j_eql ?_
          all_goals refine j_assignL (fun _ => ?_)
          all_goals refine l_nil ?_
          all_goals
            refine k_cond (by exact rfl) (fun c41 => ?_) (fun c41 => ?_)
            · try (exact absurd c41 (by decide))
              all_goals (first | replace c41 := of_decide_eq_true c41 | replace c41 := sbeq_t c41 | replace c41 := sbne_t c41 | replace c41 := ibeq_t c41 | replace c41 := ibne_t c41 | replace c41 := ndec_t c41 | replace c41 := not_t c41 | skip)
              all_goals (refine k_seq ?_)
              all_goals (refine k_seq ?_)
              all_goals refine k_region ?_
              all_goals refine j_assignL (fun _ => ?_)
              all_goals refine l_nil ?_
              all_goals (refine k_block ?_)
              all_goals
                refine k_loopC [2, 3, 43, 44, 45, 46, 47, 48, 49, 50, 51, 52, 53, 54, 55] (fun k => [(3, .int .i64 ((k : Nat) : Int))]) (fun k => k ≤ xs.length ∧ ∀ i, i < k → 1 ≤ xs.getD i 0) (fun k => xs.length - k) (0) (⟨Nat.zero_le _, fun i hi => absurd hi (Nat.not_lt_zero i)⟩) ?_ (fun k f hx => ?_)
                · repeat (first | exact knows_nil _ | refine knows_cons (by first | exact rfl | (conv => { lhs; whnf }; simp; done)) ?_)
                dsimp only [mkU, List.map, List.cons_append, List.nil_append]
                all_goals (refine k_seq ?_)
                all_goals (refine k_seq ?_)
                all_goals refine k_region ?_
                all_goals refine j_move ?_
                all_goals refine j_fieldAddr ?_
                all_goals refine j_load ?_
                all_goals refine j_len ?_
                all_goals refine j_lss ?_
                all_goals refine l_nil ?_
                all_goals
                  refine k_cond (by exact rfl) (fun c47 => ?_) (fun c47 => ?_)
                  · try (exact absurd c47 (by decide))
                    all_goals (first | replace c47 := of_decide_eq_true c47 | replace c47 := sbeq_t c47 | replace c47 := sbne_t c47 | replace c47 := ibeq_t c47 | replace c47 := ibne_t c47 | replace c47 := ndec_t c47 | replace c47 := not_t c47 | skip)
                    all_goals (refine k_skip ?_)
                    all_goals (refine k_seq ?_)
                    all_goals (refine k_block ?_)
                    all_goals (refine k_seq ?_)
                    all_goals refine k_region ?_
                    all_goals refine j_fieldAddr ?_
                    all_goals refine j_load ?_
                    all_goals refine j_move ?_
                    all_goals refine j_indexAddr ?_
                    all_goals refine j_load ?_
                    all_goals refine j_lss ?_
                    all_goals refine l_nil ?_
                    all_goals
                      refine k_cond (by exact rfl) (fun c55 => ?_) (fun c55 => ?_)
                      · try (exact absurd c55 (by decide))
                        all_goals (first | replace c55 := of_decide_eq_true c55 | replace c55 := sbeq_t c55 | replace c55 := sbne_t c55 | replace c55 := ibeq_t c55 | replace c55 := ibne_t c55 | replace c55 := ndec_t c55 | replace c55 := not_t c55 | skip)
                        all_goals (refine k_seq ?_)
                        all_goals refine k_region ?_
                        all_goals refine j_assignL (fun _ => ?_)
                        all_goals refine l_nil ?_
                        all_goals
                          refine k_retvF Try.results33 (.tmp (by conv => { lhs; whnf }) .nil) (fun w hw => ?_)
                          refine ⟨_, rfl, ?_, hw.done⟩
                          first | (simp_all [NdValid]; done) | exact c3_false c41 (k := k) (by omega) (by assumption) | exact c3_true c41 (h16.1 (by simpa using g19)) (show 0 ≤ main by omega) (show 0 ≤ prev by omega) (show 0 ≤ status by omega) eo (fun i hi => hx.2 i (by omega)) | (simp_all [NdValid]; omega)
                      · try (exact absurd c55 (by decide))
                        all_goals (first | replace c55 := of_decide_eq_false c55 | replace c55 := sbeq_f c55 | replace c55 := sbne_f c55 | replace c55 := ibeq_f c55 | replace c55 := ibne_f c55 | replace c55 := ndec_f c55 | replace c55 := not_f c55 | skip)
                        all_goals (refine k_skip ?_)
                        all_goals (refine k_blk ?_)
                        all_goals refine k_region ?_
                        all_goals refine j_move ?_
                        all_goals refine j_inc ?_
                        all_goals refine j_assignL (fun _ => ?_)
                        all_goals refine l_nil ?_
                        all_goals
                          refine k_roundC (k + 1) ?_ ?_ ?_
                          · first | omega | (simp only []; omega)
                          · repeat' (first | exact knows_nil _ | refine knows_cons ?_ ?_)
                            all_goals (first | exact rfl | (conv => { lhs; whnf }; simp; done) | (conv => { lhs; whnf }; congr 1; omega))
                          · exact ⟨by omega, fun i hi => by rcases Nat.lt_succ_iff_lt_or_eq.1 hi with h | rfl; exact hx.2 i h; omega⟩
                  · try (exact absurd c47 (by decide))
                    all_goals (first | replace c47 := of_decide_eq_false c47 | replace c47 := sbeq_f c47 | replace c47 := sbne_f c47 | replace c47 := ibeq_f c47 | replace c47 := ibne_f c47 | replace c47 := ndec_f c47 | replace c47 := not_f c47 | skip)
                    all_goals (refine k_exit rfl ?_)
                    all_goals (refine k_seq ?_)
                    all_goals refine k_drawF (.one 0 [] (.one 1 [] (.one 2 [] (.one 3 [] (.one 4 [] (.one 5 [1] (.one 6 [] (.one 7 [] .nil)))))))) ?_
                    all_goals (refine r_fieldAddr (i := 0) ?_)
                    all_goals (refine r_load (i := 1) ?_)
                    all_goals (refine r_len (i := 2) ?_)
                    all_goals (refine r_fieldAddr (i := 3) ?_)
                    all_goals (refine r_load (i := 4) ?_)
                    all_goals ((refine r_own (i := 5) (hq := (cV (hc := fun w1 hw => refCount_c hb2 w1))) (hfire := (fun _ => by first | (refine FireAll.cons (by first | exact a_load | exact a_un) ?_; exact FireAll.nil) | (refine fireall_fact ?_; refine FireAll.cons (by first | exact a_load | exact a_un) ?_; exact FireAll.nil))) (h := fun x61 => ?_); try (refine r_fact (fun h61 => ?_))))
                    all_goals (refine r_eql (i := 6) ?_)
                    all_goals (refine r_assignL (i := 7) (hfire := (fun _ => .nil)) (h := fun _ => ?_))
                    all_goals refine r_fin ?_
                    all_goals
                      refine k_retvF Try.results33 (.tmp (by conv => { lhs; whnf }) .nil) (fun w hw => ?_)
                      refine ⟨_, rfl, ?_, hw.done⟩
                      first | (simp_all [NdValid]; done) | exact c3_false c41 (k := k) (by omega) (by assumption) | exact c3_true c41 (h16.1 (by simpa using g19)) (show 0 ≤ main by omega) (show 0 ≤ prev by omega) (show 0 ≤ status by omega) eo (fun i hi => hx.2 i (by omega)) | (simp_all [NdValid]; omega)
            · try (exact absurd c41 (by decide))
              all_goals (first | replace c41 := of_decide_eq_false c41 | replace c41 := sbeq_f c41 | replace c41 := sbne_f c41 | replace c41 := ibeq_f c41 | replace c41 := ibne_f c41 | replace c41 := ndec_f c41 | replace c41 := not_f c41 | skip)
              all_goals (refine k_seq ?_)
              all_goals (refine k_seq ?_)
              all_goals refine k_region ?_
              all_goals refine j_eql ?_
              all_goals refine j_assignL (fun _ => ?_)
              all_goals refine l_nil ?_
              all_goals
                refine k_cond (by exact rfl) (fun c63 => ?_) (fun c63 => ?_)
                · try (exact absurd c63 (by decide))
                  all_goals (first | replace c63 := of_decide_eq_true c63 | replace c63 := sbeq_t c63 | replace c63 := sbne_t c63 | replace c63 := ibeq_t c63 | replace c63 := ibne_t c63 | replace c63 := ndec_t c63 | replace c63 := not_t c63 | skip)
                  all_goals (refine k_skip ?_)
                  all_goals
                    refine k_cond (by exact rfl) (fun c63 => ?_) (fun c63 => ?_)
                    · try (exact absurd c63 (by decide))
                      all_goals (first | replace c63 := of_decide_eq_true c63 | replace c63 := sbeq_t c63 | replace c63 := sbne_t c63 | replace c63 := ibeq_t c63 | replace c63 := ibne_t c63 | replace c63 := ndec_t c63 | replace c63 := not_t c63 | skip)
                      all_goals (refine k_seq ?_)
                      all_goals refine k_region ?_
                      all_goals refine j_fieldAddr ?_
                      all_goals refine j_load ?_
                      all_goals refine j_lenStr ?_
                      all_goals refine j_leq ?_
                      all_goals refine j_assignL (fun _ => ?_)
                      all_goals refine l_nil ?_
                      all_goals
                        refine k_retvF Try.results33 (.tmp (by conv => { lhs; whnf }) .nil) (fun w hw => ?_)
                        refine ⟨_, rfl, ?_, hw.done⟩
                        first | (simp_all [NdValid]; done) | exact c3_false c41 (k := k) (by omega) (by assumption) | exact c3_true c41 (h16.1 (by simpa using g19)) (show 0 ≤ main by omega) (show 0 ≤ prev by omega) (show 0 ≤ status by omega) eo (fun i hi => hx.2 i (by omega)) | (simp_all [NdValid]; omega)
                    · try (exact absurd c63 (by decide))
                      all_goals (first | replace c63 := of_decide_eq_false c63 | replace c63 := sbeq_f c63 | replace c63 := sbne_f c63 | replace c63 := ibeq_f c63 | replace c63 := ibne_f c63 | replace c63 := ndec_f c63 | replace c63 := not_f c63 | skip)
                      all_goals (refine k_seq ?_)
                      all_goals refine k_region ?_
                      all_goals refine j_eql ?_
                      all_goals refine j_assignL (fun _ => ?_)
                      all_goals refine l_nil ?_
                      all_goals
                        refine k_cond (by exact rfl) (fun c70 => ?_) (fun c70 => ?_)
                        · try (exact absurd c70 (by decide))
                          all_goals (first | replace c70 := of_decide_eq_true c70 | replace c70 := sbeq_t c70 | replace c70 := sbne_t c70 | replace c70 := ibeq_t c70 | replace c70 := ibne_t c70 | replace c70 := ndec_t c70 | replace c70 := not_t c70 | skip)
                          all_goals (refine k_seq ?_)
                          all_goals refine k_region ?_
                          all_goals refine j_fieldAddr ?_
                          all_goals refine j_load ?_
                          all_goals refine j_len ?_
                          all_goals refine j_geq ?_
                          all_goals refine j_move ?_
                          all_goals (first | refine j_un ?_ | (refine j_yes ?_; refine j_fieldAddr ?_) | (refine l_case (g := 76) (by exact rfl) (fun g76 => ?_) (fun g76 => ?_) <;> (first | replace g76 := of_decide_eq_true g76 | replace g76 := of_decide_eq_false g76 | skip) <;> (first | refine j_un ?_ | (refine j_yes ?_; refine j_fieldAddr ?_))))
                          all_goals (first | refine j_un ?_ | (refine j_yes ?_; refine j_load ?_) | (refine l_case (g := 76) (by exact rfl) (fun g76 => ?_) (fun g76 => ?_) <;> (first | replace g76 := of_decide_eq_true g76 | replace g76 := of_decide_eq_false g76 | skip) <;> (first | refine j_un ?_ | (refine j_yes ?_; refine j_load ?_))))
                          all_goals (first | refine j_un ?_ | (refine j_yes ?_; (refine j_own (c0 (V := .bool) (hc := fun w1 hw => refPrValid_c (hw.cl (by first | exact .new .head | exact .new (.tail .head) | exact .new (.tail (.tail .head)) | exact .new (.tail (.tail (.tail .head))) | exact .new (.tail (.tail (.tail (.tail .head)))) | exact .new (.tail (.tail (.tail (.tail (.tail .head))))) | exact .new (.tail (.tail (.tail (.tail (.tail (.tail .head)))))) | exact .new (.tail (.tail (.tail (.tail (.tail (.tail (.tail .head))))))) | exact .new (.tail (.tail (.tail (.tail (.tail (.tail (.tail (.tail .head)))))))) | exact .new (.tail (.tail (.tail (.tail (.tail (.tail (.tail (.tail (.tail .head))))))))) | exact .old .head | exact .old (.tail .head) | exact .old (.tail (.tail .head)) | exact .old (.tail (.tail (.tail .head))) | exact .old (.tail (.tail (.tail (.tail .head)))) | exact .old (.tail (.tail (.tail (.tail (.tail .head))))) | exact .own .head | exact .own (.tail .head) | exact .own (.tail (.tail .head)) | exact .own (.tail (.tail (.tail .head))) | exact .own (.tail (.tail (.tail (.tail .head)))) | exact .own (.tail (.tail (.tail (.tail (.tail .head))))) | exact .own (.tail (.tail (.tail (.tail (.tail (.tail .head)))))) | exact .own (.tail (.tail (.tail (.tail (.tail (.tail (.tail .head))))))))) hr.prS)) (fun x79 => ?_); try (refine l_fact (fun h79 => ?_)))) | (refine l_case (g := 76) (by exact rfl) (fun g76 => ?_) (fun g76 => ?_) <;> (first | replace g76 := of_decide_eq_true g76 | replace g76 := of_decide_eq_false g76 | skip) <;> (first | refine j_un ?_ | (refine j_yes ?_; (refine j_own (c0 (V := .bool) (hc := fun w1 hw => refPrValid_c (hw.cl (by first | exact .new .head | exact .new (.tail .head) | exact .new (.tail (.tail .head)) | exact .new (.tail (.tail (.tail .head))) | exact .new (.tail (.tail (.tail (.tail .head)))) | exact .new (.tail (.tail (.tail (.tail (.tail .head))))) | exact .new (.tail (.tail (.tail (.tail (.tail (.tail .head)))))) | exact .new (.tail (.tail (.tail (.tail (.tail (.tail (.tail .head))))))) | exact .new (.tail (.tail (.tail (.tail (.tail (.tail (.tail (.tail .head)))))))) | exact .new (.tail (.tail (.tail (.tail (.tail (.tail (.tail (.tail (.tail .head))))))))) | exact .old .head | exact .old (.tail .head) | exact .old (.tail (.tail .head)) | exact .old (.tail (.tail (.tail .head))) | exact .old (.tail (.tail (.tail (.tail .head)))) | exact .old (.tail (.tail (.tail (.tail (.tail .head))))) | exact .own .head | exact .own (.tail .head) | exact .own (.tail (.tail .head)) | exact .own (.tail (.tail (.tail .head))) | exact .own (.tail (.tail (.tail (.tail .head)))) | exact .own (.tail (.tail (.tail (.tail (.tail .head))))) | exact .own (.tail (.tail (.tail (.tail (.tail (.tail .head)))))) | exact .own (.tail (.tail (.tail (.tail (.tail (.tail (.tail .head))))))))) hr.prS)) (fun x79 => ?_); try (refine l_fact (fun h79 => ?_)))))))
                          all_goals refine j_pick ?_
                          all_goals refine j_move ?_
                          all_goals (first | refine j_un ?_ | (refine j_yes ?_; refine j_fieldAddr ?_) | (refine l_case (g := 81) (by exact rfl) (fun g81 => ?_) (fun g81 => ?_) <;> (first | replace g81 := of_decide_eq_true g81 | replace g81 := of_decide_eq_false g81 | skip) <;> (first | refine j_un ?_ | (refine j_yes ?_; refine j_fieldAddr ?_))))
                          all_goals (first | refine j_un ?_ | (refine j_yes ?_; refine j_load ?_) | (refine l_case (g := 81) (by exact rfl) (fun g81 => ?_) (fun g81 => ?_) <;> (first | replace g81 := of_decide_eq_true g81 | replace g81 := of_decide_eq_false g81 | skip) <;> (first | refine j_un ?_ | (refine j_yes ?_; refine j_load ?_))))
                          all_goals (first | refine j_un ?_ | (refine j_yes ?_; (refine j_own (c0 (V := .bool) (hc := fun w1 hw => keys_c (hw.cl (by first | exact .new .head | exact .new (.tail .head) | exact .new (.tail (.tail .head)) | exact .new (.tail (.tail (.tail .head))) | exact .new (.tail (.tail (.tail (.tail .head)))) | exact .new (.tail (.tail (.tail (.tail (.tail .head))))) | exact .new (.tail (.tail (.tail (.tail (.tail (.tail .head)))))) | exact .new (.tail (.tail (.tail (.tail (.tail (.tail (.tail .head))))))) | exact .new (.tail (.tail (.tail (.tail (.tail (.tail (.tail (.tail .head)))))))) | exact .new (.tail (.tail (.tail (.tail (.tail (.tail (.tail (.tail (.tail .head))))))))) | exact .old .head | exact .old (.tail .head) | exact .old (.tail (.tail .head)) | exact .old (.tail (.tail (.tail .head))) | exact .old (.tail (.tail (.tail (.tail .head)))) | exact .old (.tail (.tail (.tail (.tail (.tail .head))))) | exact .own .head | exact .own (.tail .head) | exact .own (.tail (.tail .head)) | exact .own (.tail (.tail (.tail .head))) | exact .own (.tail (.tail (.tail (.tail .head)))) | exact .own (.tail (.tail (.tail (.tail (.tail .head))))) | exact .own (.tail (.tail (.tail (.tail (.tail (.tail .head)))))) | exact .own (.tail (.tail (.tail (.tail (.tail (.tail (.tail .head))))))))) hr.prS)) (fun x84 => ?_); try (refine l_fact (fun h84 => ?_)))) | (refine l_case (g := 81) (by exact rfl) (fun g81 => ?_) (fun g81 => ?_) <;> (first | replace g81 := of_decide_eq_true g81 | replace g81 := of_decide_eq_false g81 | skip) <;> (first | refine j_un ?_ | (refine j_yes ?_; (refine j_own (c0 (V := .bool) (hc := fun w1 hw => keys_c (hw.cl (by first | exact .new .head | exact .new (.tail .head) | exact .new (.tail (.tail .head)) | exact .new (.tail (.tail (.tail .head))) | exact .new (.tail (.tail (.tail (.tail .head)))) | exact .new (.tail (.tail (.tail (.tail (.tail .head))))) | exact .new (.tail (.tail (.tail (.tail (.tail (.tail .head)))))) | exact .new (.tail (.tail (.tail (.tail (.tail (.tail (.tail .head))))))) | exact .new (.tail (.tail (.tail (.tail (.tail (.tail (.tail (.tail .head)))))))) | exact .new (.tail (.tail (.tail (.tail (.tail (.tail (.tail (.tail (.tail .head))))))))) | exact .old .head | exact .old (.tail .head) | exact .old (.tail (.tail .head)) | exact .old (.tail (.tail (.tail .head))) | exact .old (.tail (.tail (.tail (.tail .head)))) | exact .old (.tail (.tail (.tail (.tail (.tail .head))))) | exact .own .head | exact .own (.tail .head) | exact .own (.tail (.tail .head)) | exact .own (.tail (.tail (.tail .head))) | exact .own (.tail (.tail (.tail (.tail .head)))) | exact .own (.tail (.tail (.tail (.tail (.tail .head))))) | exact .own (.tail (.tail (.tail (.tail (.tail (.tail .head)))))) | exact .own (.tail (.tail (.tail (.tail (.tail (.tail (.tail .head))))))))) hr.prS)) (fun x84 => ?_); try (refine l_fact (fun h84 => ?_)))))))
                          all_goals refine j_pick ?_
                          all_goals refine j_assignL (fun _ => ?_)
                          all_goals refine l_nil ?_
                          all_goals
                            refine k_retvF Try.results33 (.tmp (by conv => { lhs; whnf }) .nil) (fun w hw => ?_)
                            refine ⟨_, rfl, ?_, hw.done⟩
                            first | (simp_all [NdValid]; done) | exact c3_false c41 (k := k) (by omega) (by assumption) | exact c3_true c41 (h16.1 (by simpa using g19)) (show 0 ≤ main by omega) (show 0 ≤ prev by omega) (show 0 ≤ status by omega) eo (fun i hi => hx.2 i (by omega)) | (simp_all [NdValid]; omega)
                        · try (exact absurd c70 (by decide))
                          all_goals (first | replace c70 := of_decide_eq_false c70 | replace c70 := sbeq_f c70 | replace c70 := sbne_f c70 | replace c70 := ibeq_f c70 | replace c70 := ibne_f c70 | replace c70 := ndec_f c70 | replace c70 := not_f c70 | skip)
                          all_goals (refine k_seq ?_)
                          all_goals refine k_region ?_
                          all_goals refine j_eql ?_
                          all_goals refine j_assignL (fun _ => ?_)
                          all_goals refine l_nil ?_
                          all_goals
                            refine k_cond (by exact rfl) (fun c86 => ?_) (fun c86 => ?_)
                            · try (exact absurd c86 (by decide))
                              all_goals (first | replace c86 := of_decide_eq_true c86 | replace c86 := sbeq_t c86 | replace c86 := sbne_t c86 | replace c86 := ibeq_t c86 | replace c86 := ibne_t c86 | replace c86 := ndec_t c86 | replace c86 := not_t c86 | skip)
                              all_goals (refine k_seq ?_)
                              all_goals refine k_region ?_
                              all_goals refine j_fieldAddr ?_
                              all_goals refine j_load ?_
                              all_goals refine j_geq ?_
                              all_goals refine j_assignL (fun _ => ?_)
                              all_goals refine l_nil ?_
                              all_goals
                                refine k_retvF Try.results33 (.tmp (by conv => { lhs; whnf }) .nil) (fun w hw => ?_)
                                refine ⟨_, rfl, ?_, hw.done⟩
                                first | (simp_all [NdValid]; done) | exact c3_false c41 (k := k) (by omega) (by assumption) | exact c3_true c41 (h16.1 (by simpa using g19)) (show 0 ≤ main by omega) (show 0 ≤ prev by omega) (show 0 ≤ status by omega) eo (fun i hi => hx.2 i (by omega)) | (simp_all [NdValid]; omega)
                            · try (exact absurd c86 (by decide))
                              all_goals (first | replace c86 := of_decide_eq_false c86 | replace c86 := sbeq_f c86 | replace c86 := sbne_f c86 | replace c86 := ibeq_f c86 | replace c86 := ibne_f c86 | replace c86 := ndec_f c86 | replace c86 := not_f c86 | skip)
                              all_goals (refine k_seq ?_)
                              all_goals refine k_region ?_
                              all_goals refine j_eql ?_
                              all_goals refine j_assignL (fun _ => ?_)
                              all_goals refine l_nil ?_
                              all_goals
                                refine k_cond (by exact rfl) (fun c91 => ?_) (fun c91 => ?_)
                                · try (exact absurd c91 (by decide))
                                  all_goals (first | replace c91 := of_decide_eq_true c91 | replace c91 := sbeq_t c91 | replace c91 := sbne_t c91 | replace c91 := ibeq_t c91 | replace c91 := ibne_t c91 | replace c91 := ndec_t c91 | replace c91 := not_t c91 | skip)
                                  all_goals (refine k_seq ?_)
                                  all_goals refine k_region ?_
                                  all_goals refine j_fieldAddr ?_
                                  all_goals refine j_load ?_
                                  all_goals refine j_geq ?_
                                  all_goals refine j_move ?_
                                  all_goals (first | refine j_un ?_ | (refine j_yes ?_; refine j_fieldAddr ?_) | (refine l_case (g := 96) (by exact rfl) (fun g96 => ?_) (fun g96 => ?_) <;> (first | replace g96 := of_decide_eq_true g96 | replace g96 := of_decide_eq_false g96 | skip) <;> (first | refine j_un ?_ | (refine j_yes ?_; refine j_fieldAddr ?_))))
                                  all_goals (first | refine j_un ?_ | (refine j_yes ?_; refine j_load ?_) | (refine l_case (g := 96) (by exact rfl) (fun g96 => ?_) (fun g96 => ?_) <;> (first | replace g96 := of_decide_eq_true g96 | replace g96 := of_decide_eq_false g96 | skip) <;> (first | refine j_un ?_ | (refine j_yes ?_; refine j_load ?_))))
                                  all_goals (first | refine j_un ?_ | (refine j_yes ?_; refine j_geq ?_) | (refine l_case (g := 96) (by exact rfl) (fun g96 => ?_) (fun g96 => ?_) <;> (first | replace g96 := of_decide_eq_true g96 | replace g96 := of_decide_eq_false g96 | skip) <;> (first | refine j_un ?_ | (refine j_yes ?_; refine j_geq ?_))))
                                  all_goals refine j_pick ?_
                                  all_goals refine j_move ?_
                                  all_goals (first | refine j_un ?_ | (refine j_yes ?_; refine j_fieldAddr ?_) | (refine l_case (g := 101) (by exact rfl) (fun g101 => ?_) (fun g101 => ?_) <;> (first | replace g101 := of_decide_eq_true g101 | replace g101 := of_decide_eq_false g101 | skip) <;> (first | refine j_un ?_ | (refine j_yes ?_; refine j_fieldAddr ?_))))
                                  all_goals (first | refine j_un ?_ | (refine j_yes ?_; refine j_load ?_) | (refine l_case (g := 101) (by exact rfl) (fun g101 => ?_) (fun g101 => ?_) <;> (first | replace g101 := of_decide_eq_true g101 | replace g101 := of_decide_eq_false g101 | skip) <;> (first | refine j_un ?_ | (refine j_yes ?_; refine j_load ?_))))
                                  all_goals (first | refine j_un ?_ | (refine j_yes ?_; refine j_geq ?_) | (refine l_case (g := 101) (by exact rfl) (fun g101 => ?_) (fun g101 => ?_) <;> (first | replace g101 := of_decide_eq_true g101 | replace g101 := of_decide_eq_false g101 | skip) <;> (first | refine j_un ?_ | (refine j_yes ?_; refine j_geq ?_))))
                                  all_goals refine j_pick ?_
                                  all_goals refine j_assignL (fun _ => ?_)
                                  all_goals refine l_nil ?_
                                  all_goals
                                    refine k_retvF Try.results33 (.tmp (by conv => { lhs; whnf }) .nil) (fun w hw => ?_)
                                    refine ⟨_, rfl, ?_, hw.done⟩
                                    first | (simp_all [NdValid]; done) | exact c3_false c41 (k := k) (by omega) (by assumption) | exact c3_true c41 (h16.1 (by simpa using g19)) (show 0 ≤ main by omega) (show 0 ≤ prev by omega) (show 0 ≤ status by omega) eo (fun i hi => hx.2 i (by omega)) | (simp_all [NdValid]; omega)
                                · try (exact absurd c91 (by decide))
                                  all_goals (first | replace c91 := of_decide_eq_false c91 | replace c91 := sbeq_f c91 | replace c91 := sbne_f c91 | replace c91 := ibeq_f c91 | replace c91 := ibne_f c91 | replace c91 := ndec_f c91 | replace c91 := not_f c91 | skip)
                                  all_goals (refine k_skip ?_)
                                  all_goals (refine k_blk ?_)
                                  all_goals (refine k_seq ?_)
                                  all_goals refine k_region ?_
                                  all_goals refine j_assignL (fun _ => ?_)
                                  all_goals refine l_nil ?_
                                  all_goals
                                    refine k_retvF Try.results33 (.tmp (by conv => { lhs; whnf }) .nil) (fun w hw => ?_)
                                    refine ⟨_, rfl, ?_, hw.done⟩
                                    first | (simp_all [NdValid]; done) | exact c3_false c41 (k := k) (by omega) (by assumption) | exact c3_true c41 (h16.1 (by simpa using g19)) (show 0 ≤ main by omega) (show 0 ≤ prev by omega) (show 0 ≤ status by omega) eo (fun i hi => hx.2 i (by omega)) | (simp_all [NdValid]; omega)
                · try (exact absurd c63 (by decide))
                  all_goals (first | replace c63 := of_decide_eq_false c63 | replace c63 := sbeq_f c63 | replace c63 := sbne_f c63 | replace c63 := ibeq_f c63 | replace c63 := ibne_f c63 | replace c63 := ndec_f c63 | replace c63 := not_f c63 | skip)
                  all_goals refine k_region ?_
                  all_goals refine j_eql ?_
                  all_goals refine j_assignL (fun _ => ?_)
                  all_goals refine l_nil ?_
                  all_goals
                    refine k_cond (by exact rfl) (fun c63 => ?_) (fun c63 => ?_)
                    · try (exact absurd c63 (by decide))
                      all_goals (first | replace c63 := of_decide_eq_true c63 | replace c63 := sbeq_t c63 | replace c63 := sbne_t c63 | replace c63 := ibeq_t c63 | replace c63 := ibne_t c63 | replace c63 := ndec_t c63 | replace c63 := not_t c63 | skip)
                      all_goals (refine k_seq ?_)
                      all_goals refine k_region ?_
                      all_goals refine j_fieldAddr ?_
                      all_goals refine j_load ?_
                      all_goals refine j_lenStr ?_
                      all_goals refine j_leq ?_
                      all_goals refine j_assignL (fun _ => ?_)
                      all_goals refine l_nil ?_
                      all_goals
                        refine k_retvF Try.results33 (.tmp (by conv => { lhs; whnf }) .nil) (fun w hw => ?_)
                        refine ⟨_, rfl, ?_, hw.done⟩
                        first | (simp_all [NdValid]; done) | exact c3_false c41 (k := k) (by omega) (by assumption) | exact c3_true c41 (h16.1 (by simpa using g19)) (show 0 ≤ main by omega) (show 0 ≤ prev by omega) (show 0 ≤ status by omega) eo (fun i hi => hx.2 i (by omega)) | (simp_all [NdValid]; omega)
                    · try (exact absurd c63 (by decide))
                      all_goals (first | replace c63 := of_decide_eq_false c63 | replace c63 := sbeq_f c63 | replace c63 := sbne_f c63 | replace c63 := ibeq_f c63 | replace c63 := ibne_f c63 | replace c63 := ndec_f c63 | replace c63 := not_f c63 | skip)
                      all_goals (refine k_seq ?_)
                      all_goals refine k_region ?_
                      all_goals refine j_eql ?_
                      all_goals refine j_assignL (fun _ => ?_)
                      all_goals refine l_nil ?_
                      all_goals
                        refine k_cond (by exact rfl) (fun c70 => ?_) (fun c70 => ?_)
                        · try (exact absurd c70 (by decide))
                          all_goals (first | replace c70 := of_decide_eq_true c70 | replace c70 := sbeq_t c70 | replace c70 := sbne_t c70 | replace c70 := ibeq_t c70 | replace c70 := ibne_t c70 | replace c70 := ndec_t c70 | replace c70 := not_t c70 | skip)
                          all_goals (refine k_seq ?_)
                          all_goals refine k_region ?_
                          all_goals refine j_fieldAddr ?_
                          all_goals refine j_load ?_
                          all_goals refine j_len ?_
                          all_goals refine j_geq ?_
                          all_goals refine j_move ?_
                          all_goals (first | refine j_un ?_ | (refine j_yes ?_; refine j_fieldAddr ?_) | (refine l_case (g := 76) (by exact rfl) (fun g76 => ?_) (fun g76 => ?_) <;> (first | replace g76 := of_decide_eq_true g76 | replace g76 := of_decide_eq_false g76 | skip) <;> (first | refine j_un ?_ | (refine j_yes ?_; refine j_fieldAddr ?_))))
                          all_goals (first | refine j_un ?_ | (refine j_yes ?_; refine j_load ?_) | (refine l_case (g := 76) (by exact rfl) (fun g76 => ?_) (fun g76 => ?_) <;> (first | replace g76 := of_decide_eq_true g76 | replace g76 := of_decide_eq_false g76 | skip) <;> (first | refine j_un ?_ | (refine j_yes ?_; refine j_load ?_))))
                          all_goals (first | refine j_un ?_ | (refine j_yes ?_; (refine j_own (c0 (V := .bool) (hc := fun w1 hw => refPrValid_c (hw.cl (by first | exact .new .head | exact .new (.tail .head) | exact .new (.tail (.tail .head)) | exact .new (.tail (.tail (.tail .head))) | exact .new (.tail (.tail (.tail (.tail .head)))) | exact .new (.tail (.tail (.tail (.tail (.tail .head))))) | exact .new (.tail (.tail (.tail (.tail (.tail (.tail .head)))))) | exact .new (.tail (.tail (.tail (.tail (.tail (.tail (.tail .head))))))) | exact .new (.tail (.tail (.tail (.tail (.tail (.tail (.tail (.tail .head)))))))) | exact .new (.tail (.tail (.tail (.tail (.tail (.tail (.tail (.tail (.tail .head))))))))) | exact .old .head | exact .old (.tail .head) | exact .old (.tail (.tail .head)) | exact .old (.tail (.tail (.tail .head))) | exact .old (.tail (.tail (.tail (.tail .head)))) | exact .old (.tail (.tail (.tail (.tail (.tail .head))))) | exact .own .head | exact .own (.tail .head) | exact .own (.tail (.tail .head)) | exact .own (.tail (.tail (.tail .head))) | exact .own (.tail (.tail (.tail (.tail .head)))) | exact .own (.tail (.tail (.tail (.tail (.tail .head))))) | exact .own (.tail (.tail (.tail (.tail (.tail (.tail .head)))))) | exact .own (.tail (.tail (.tail (.tail (.tail (.tail (.tail .head))))))))) hr.prS)) (fun x79 => ?_); try (refine l_fact (fun h79 => ?_)))) | (refine l_case (g := 76) (by exact rfl) (fun g76 => ?_) (fun g76 => ?_) <;> (first | replace g76 := of_decide_eq_true g76 | replace g76 := of_decide_eq_false g76 | skip) <;> (first | refine j_un ?_ | (refine j_yes ?_; (refine j_own (c0 (V := .bool) (hc := fun w1 hw => refPrValid_c (hw.cl (by first | exact .new .head | exact .new (.tail .head) | exact .new (.tail (.tail .head)) | exact .new (.tail (.tail (.tail .head))) | exact .new (.tail (.tail (.tail (.tail .head)))) | exact .new (.tail (.tail (.tail (.tail (.tail .head))))) | exact .new (.tail (.tail (.tail (.tail (.tail (.tail .head)))))) | exact .new (.tail (.tail (.tail (.tail (.tail (.tail (.tail .head))))))) | exact .new (.tail (.tail (.tail (.tail (.tail (.tail (.tail (.tail .head)))))))) | exact .new (.tail (.tail (.tail (.tail (.tail (.tail (.tail (.tail (.tail .head))))))))) | exact .old .head | exact .old (.tail .head) | exact .old (.tail (.tail .head)) | exact .old (.tail (.tail (.tail .head))) | exact .old (.tail (.tail (.tail (.tail .head)))) | exact .old (.tail (.tail (.tail (.tail (.tail .head))))) | exact .own .head | exact .own (.tail .head) | exact .own (.tail (.tail .head)) | exact .own (.tail (.tail (.tail .head))) | exact .own (.tail (.tail (.tail (.tail .head)))) | exact .own (.tail (.tail (.tail (.tail (.tail .head))))) | exact .own (.tail (.tail (.tail (.tail (.tail (.tail .head)))))) | exact .own (.tail (.tail (.tail (.tail (.tail (.tail (.tail .head))))))))) hr.prS)) (fun x79 => ?_); try (refine l_fact (fun h79 => ?_)))))))
                          all_goals refine j_pick ?_
                          all_goals refine j_move ?_
                          all_goals (first | refine j_un ?_ | (refine j_yes ?_; refine j_fieldAddr ?_) | (refine l_case (g := 81) (by exact rfl) (fun g81 => ?_) (fun g81 => ?_) <;> (first | replace g81 := of_decide_eq_true g81 | replace g81 := of_decide_eq_false g81 | skip) <;> (first | refine j_un ?_ | (refine j_yes ?_; refine j_fieldAddr ?_))))
                          all_goals (first | refine j_un ?_ | (refine j_yes ?_; refine j_load ?_) | (refine l_case (g := 81) (by exact rfl) (fun g81 => ?_) (fun g81 => ?_) <;> (first | replace g81 := of_decide_eq_true g81 | replace g81 := of_decide_eq_false g81 | skip) <;> (first | refine j_un ?_ | (refine j_yes ?_; refine j_load ?_))))
                          all_goals (first | refine j_un ?_ | (refine j_yes ?_; (refine j_own (c0 (V := .bool) (hc := fun w1 hw => keys_c (hw.cl (by first | exact .new .head | exact .new (.tail .head) | exact .new (.tail (.tail .head)) | exact .new (.tail (.tail (.tail .head))) | exact .new (.tail (.tail (.tail (.tail .head)))) | exact .new (.tail (.tail (.tail (.tail (.tail .head))))) | exact .new (.tail (.tail (.tail (.tail (.tail (.tail .head)))))) | exact .new (.tail (.tail (.tail (.tail (.tail (.tail (.tail .head))))))) | exact .new (.tail (.tail (.tail (.tail (.tail (.tail (.tail (.tail .head)))))))) | exact .new (.tail (.tail (.tail (.tail (.tail (.tail (.tail (.tail (.tail .head))))))))) | exact .old .head | exact .old (.tail .head) | exact .old (.tail (.tail .head)) | exact .old (.tail (.tail (.tail .head))) | exact .old (.tail (.tail (.tail (.tail .head)))) | exact .old (.tail (.tail (.tail (.tail (.tail .head))))) | exact .own .head | exact .own (.tail .head) | exact .own (.tail (.tail .head)) | exact .own (.tail (.tail (.tail .head))) | exact .own (.tail (.tail (.tail (.tail .head)))) | exact .own (.tail (.tail (.tail (.tail (.tail .head))))) | exact .own (.tail (.tail (.tail (.tail (.tail (.tail .head)))))) | exact .own (.tail (.tail (.tail (.tail (.tail (.tail (.tail .head))))))))) hr.prS)) (fun x84 => ?_); try (refine l_fact (fun h84 => ?_)))) | (refine l_case (g := 81) (by exact rfl) (fun g81 => ?_) (fun g81 => ?_) <;> (first | replace g81 := of_decide_eq_true g81 | replace g81 := of_decide_eq_false g81 | skip) <;> (first | refine j_un ?_ | (refine j_yes ?_; (refine j_own (c0 (V := .bool) (hc := fun w1 hw => keys_c (hw.cl (by first | exact .new .head | exact .new (.tail .head) | exact .new (.tail (.tail .head)) | exact .new (.tail (.tail (.tail .head))) | exact .new (.tail (.tail (.tail (.tail .head)))) | exact .new (.tail (.tail (.tail (.tail (.tail .head))))) | exact .new (.tail (.tail (.tail (.tail (.tail (.tail .head)))))) | exact .new (.tail (.tail (.tail (.tail (.tail (.tail (.tail .head))))))) | exact .new (.tail (.tail (.tail (.tail (.tail (.tail (.tail (.tail .head)))))))) | exact .new (.tail (.tail (.tail (.tail (.tail (.tail (.tail (.tail (.tail .head))))))))) | exact .old .head | exact .old (.tail .head) | exact .old (.tail (.tail .head)) | exact .old (.tail (.tail (.tail .head))) | exact .old (.tail (.tail (.tail (.tail .head)))) | exact .old (.tail (.tail (.tail (.tail (.tail .head))))) | exact .own .head | exact .own (.tail .head) | exact .own (.tail (.tail .head)) | exact .own (.tail (.tail (.tail .head))) | exact .own (.tail (.tail (.tail (.tail .head)))) | exact .own (.tail (.tail (.tail (.tail (.tail .head))))) | exact .own (.tail (.tail (.tail (.tail (.tail (.tail .head)))))) | exact .own (.tail (.tail (.tail (.tail (.tail (.tail (.tail .head))))))))) hr.prS)) (fun x84 => ?_); try (refine l_fact (fun h84 => ?_)))))))
                          all_goals refine j_pick ?_
                          all_goals refine j_assignL (fun _ => ?_)
                          all_goals refine l_nil ?_
                          all_goals
                            refine k_retvF Try.results33 (.tmp (by conv => { lhs; whnf }) .nil) (fun w hw => ?_)
                            refine ⟨_, rfl, ?_, hw.done⟩
                            first | (simp_all [NdValid]; done) | exact c3_false c41 (k := k) (by omega) (by assumption) | exact c3_true c41 (h16.1 (by simpa using g19)) (show 0 ≤ main by omega) (show 0 ≤ prev by omega) (show 0 ≤ status by omega) eo (fun i hi => hx.2 i (by omega)) | (simp_all [NdValid]; omega)
                        · try (exact absurd c70 (by decide))
                          all_goals (first | replace c70 := of_decide_eq_false c70 | replace c70 := sbeq_f c70 | replace c70 := sbne_f c70 | replace c70 := ibeq_f c70 | replace c70 := ibne_f c70 | replace c70 := ndec_f c70 | replace c70 := not_f c70 | skip)
                          all_goals (refine k_seq ?_)
                          all_goals refine k_region ?_
                          all_goals refine j_eql ?_
                          all_goals refine j_assignL (fun _ => ?_)
                          all_goals refine l_nil ?_
                          all_goals
                            refine k_cond (by exact rfl) (fun c86 => ?_) (fun c86 => ?_)
                            · try (exact absurd c86 (by decide))
                              all_goals (first | replace c86 := of_decide_eq_true c86 | replace c86 := sbeq_t c86 | replace c86 := sbne_t c86 | replace c86 := ibeq_t c86 | replace c86 := ibne_t c86 | replace c86 := ndec_t c86 | replace c86 := not_t c86 | skip)
                              all_goals (refine k_seq ?_)
                              all_goals refine k_region ?_
                              all_goals refine j_fieldAddr ?_
                              all_goals refine j_load ?_
                              all_goals refine j_geq ?_
                              all_goals refine j_assignL (fun _ => ?_)
                              all_goals refine l_nil ?_
                              all_goals
                                refine k_retvF Try.results33 (.tmp (by conv => { lhs; whnf }) .nil) (fun w hw => ?_)
                                refine ⟨_, rfl, ?_, hw.done⟩
                                first | (simp_all [NdValid]; done) | exact c3_false c41 (k := k) (by omega) (by assumption) | exact c3_true c41 (h16.1 (by simpa using g19)) (show 0 ≤ main by omega) (show 0 ≤ prev by omega) (show 0 ≤ status by omega) eo (fun i hi => hx.2 i (by omega)) | (simp_all [NdValid]; omega)
                            · try (exact absurd c86 (by decide))
                              all_goals (first | replace c86 := of_decide_eq_false c86 | replace c86 := sbeq_f c86 | replace c86 := sbne_f c86 | replace c86 := ibeq_f c86 | replace c86 := ibne_f c86 | replace c86 := ndec_f c86 | replace c86 := not_f c86 | skip)
                              all_goals (refine k_seq ?_)
                              all_goals refine k_region ?_
                              all_goals refine j_eql ?_
                              all_goals refine j_assignL (fun _ => ?_)
                              all_goals refine l_nil ?_
                              all_goals
                                refine k_cond (by exact rfl) (fun c91 => ?_) (fun c91 => ?_)
                                · try (exact absurd c91 (by decide))
                                  all_goals (first | replace c91 := of_decide_eq_true c91 | replace c91 := sbeq_t c91 | replace c91 := sbne_t c91 | replace c91 := ibeq_t c91 | replace c91 := ibne_t c91 | replace c91 := ndec_t c91 | replace c91 := not_t c91 | skip)
                                  all_goals (refine k_seq ?_)
                                  all_goals refine k_region ?_
                                  all_goals refine j_fieldAddr ?_
                                  all_goals refine j_load ?_
                                  all_goals refine j_geq ?_
                                  all_goals refine j_move ?_
                                  all_goals (first | refine j_un ?_ | (refine j_yes ?_; refine j_fieldAddr ?_) | (refine l_case (g := 96) (by exact rfl) (fun g96 => ?_) (fun g96 => ?_) <;> (first | replace g96 := of_decide_eq_true g96 | replace g96 := of_decide_eq_false g96 | skip) <;> (first | refine j_un ?_ | (refine j_yes ?_; refine j_fieldAddr ?_))))
                                  all_goals (first | refine j_un ?_ | (refine j_yes ?_; refine j_load ?_) | (refine l_case (g := 96) (by exact rfl) (fun g96 => ?_) (fun g96 => ?_) <;> (first | replace g96 := of_decide_eq_true g96 | replace g96 := of_decide_eq_false g96 | skip) <;> (first | refine j_un ?_ | (refine j_yes ?_; refine j_load ?_))))
                                  all_goals (first | refine j_un ?_ | (refine j_yes ?_; refine j_geq ?_) | (refine l_case (g := 96) (by exact rfl) (fun g96 => ?_) (fun g96 => ?_) <;> (first | replace g96 := of_decide_eq_true g96 | replace g96 := of_decide_eq_false g96 | skip) <;> (first | refine j_un ?_ | (refine j_yes ?_; refine j_geq ?_))))
                                  all_goals refine j_pick ?_
                                  all_goals refine j_move ?_
                                  all_goals (first | refine j_un ?_ | (refine j_yes ?_; refine j_fieldAddr ?_) | (refine l_case (g := 101) (by exact rfl) (fun g101 => ?_) (fun g101 => ?_) <;> (first | replace g101 := of_decide_eq_true g101 | replace g101 := of_decide_eq_false g101 | skip) <;> (first | refine j_un ?_ | (refine j_yes ?_; refine j_fieldAddr ?_))))
                                  all_goals (first | refine j_un ?_ | (refine j_yes ?_; refine j_load ?_) | (refine l_case (g := 101) (by exact rfl) (fun g101 => ?_) (fun g101 => ?_) <;> (first | replace g101 := of_decide_eq_true g101 | replace g101 := of_decide_eq_false g101 | skip) <;> (first | refine j_un ?_ | (refine j_yes ?_; refine j_load ?_))))
                                  all_goals (first | refine j_un ?_ | (refine j_yes ?_; refine j_geq ?_) | (refine l_case (g := 101) (by exact rfl) (fun g101 => ?_) (fun g101 => ?_) <;> (first | replace g101 := of_decide_eq_true g101 | replace g101 := of_decide_eq_false g101 | skip) <;> (first | refine j_un ?_ | (refine j_yes ?_; refine j_geq ?_))))
                                  all_goals refine j_pick ?_
                                  all_goals refine j_assignL (fun _ => ?_)
                                  all_goals refine l_nil ?_
                                  all_goals
                                    refine k_retvF Try.results33 (.tmp (by conv => { lhs; whnf }) .nil) (fun w hw => ?_)
                                    refine ⟨_, rfl, ?_, hw.done⟩
                                    first | (simp_all [NdValid]; done) | exact c3_false c41 (k := k) (by omega) (by assumption) | exact c3_true c41 (h16.1 (by simpa using g19)) (show 0 ≤ main by omega) (show 0 ≤ prev by omega) (show 0 ≤ status by omega) eo (fun i hi => hx.2 i (by omega)) | (simp_all [NdValid]; omega)
                                · try (exact absurd c91 (by decide))
                                  all_goals (first | replace c91 := of_decide_eq_false c91 | replace c91 := sbeq_f c91 | replace c91 := sbne_f c91 | replace c91 := ibeq_f c91 | replace c91 := ibne_f c91 | replace c91 := ndec_f c91 | replace c91 := not_f c91 | skip)
                                  all_goals (refine k_skip ?_)
                                  all_goals (refine k_blk ?_)
                                  all_goals (refine k_seq ?_)
                                  all_goals refine k_region ?_
                                  all_goals refine j_assignL (fun _ => ?_)
                                  all_goals refine l_nil ?_
                                  all_goals
                                    refine k_retvF Try.results33 (.tmp (by conv => { lhs; whnf }) .nil) (fun w hw => ?_)
                                    refine ⟨_, rfl, ?_, hw.done⟩
                                    first | (simp_all [NdValid]; done) | exact c3_false c41 (k := k) (by omega) (by assumption) | exact c3_true c41 (h16.1 (by simpa using g19)) (show 0 ≤ main by omega) (show 0 ≤ prev by omega) (show 0 ≤ status by omega) eo (fun i hi => hx.2 i (by omega)) | (simp_all [NdValid]; omega)
end Go.Proofs.Ythmagkjcangnfaa
