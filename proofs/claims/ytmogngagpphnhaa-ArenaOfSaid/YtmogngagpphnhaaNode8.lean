/- The reference's Valid. -/
import Derived.Test.YtmogngagpphnhaaBit2
set_option linter.unusedSimpArgs false
set_option linter.unusedVariables false
namespace Go.Proofs.Ytmogngagpphnhaa
open Go.RowKit Go.Ct

theorem only_c (n : Nd) (h1 : 1 ≤ n.kind) (h8 : n.kind ≤ 8) (w : World) : Calls Try.prog 104 #[n.v] w fun e w' => e = .returned n.own.v ∧ St w [] [] w' := by
  refine enter Try.func104 Try.ntmps104 rfl rfl (SF.s0 w) ?_
  simp only [mkS]
  all_goals (refine k_seq ?_)
  all_goals refine k_region ?_
  all_goals refine j_box (fun x1 => ?_)
  all_goals refine j_alloc (fun x2 => ?_)
  all_goals refine l_nil ?_
  all_goals (refine k_seq ?_)
  all_goals (refine k_seq ?_)
  all_goals refine k_region ?_
  all_goals refine j_fieldAddr ?_
  all_goals refine j_load ?_
  all_goals refine l_nil ?_
  all_goals (refine k_block ?_)
  all_goals (refine k_seq ?_)
  all_goals refine k_region ?_
  all_goals refine j_eql ?_
  all_goals refine j_assignL (fun _ => ?_)
  all_goals refine l_nil ?_
  all_goals
    refine k_cond (by exact rfl) (fun c5 => ?_) (fun c5 => ?_)
    · try (exact absurd c5 (by decide))
      all_goals (revert c5; (first | refine cv1 ?_ | refine cv3 ?_ | refine cv5 ?_ | refine cv7 ?_ | refine cv9 ?_ | refine cvb ?_ | refine cvd ?_ | skip); intro c5)
      all_goals (refine k_seq ?_)
      all_goals refine k_region ?_
      all_goals refine j_fieldAddr ?_
      all_goals refine j_load ?_
      all_goals refine j_build ?_
      all_goals refine j_store (fun _ => ?_)
      all_goals refine l_nil ?_
      all_goals
        refine k_retvF Try.results104 (.cell (by exact rfl) (by repeat (first | exact At.head | apply At.tail)) (by exact agg_of rfl) .nil) (fun w hw => ?_)
        first | (exfalso; omega) | exact ⟨by simp only [Nd.own, beq_iff_eq, *, if_true, if_false]; rfl, hw.done⟩
    · try (exact absurd c5 (by decide))
      all_goals (revert c5; (first | refine cv2 ?_ | refine cv4 ?_ | refine cv6 ?_ | refine cv8 ?_ | refine cva ?_ | refine cvc ?_ | refine cve ?_ | skip); intro c5)
      all_goals (refine k_seq ?_)
      all_goals refine k_region ?_
      all_goals refine j_eql ?_
      all_goals refine j_assignL (fun _ => ?_)
      all_goals refine l_nil ?_
      all_goals
        refine k_cond (by exact rfl) (fun c10 => ?_) (fun c10 => ?_)
        · try (exact absurd c10 (by decide))
          all_goals (revert c10; (first | refine cv1 ?_ | refine cv3 ?_ | refine cv5 ?_ | refine cv7 ?_ | refine cv9 ?_ | refine cvb ?_ | refine cvd ?_ | skip); intro c10)
          all_goals (refine k_seq ?_)
          all_goals refine k_region ?_
          all_goals refine j_fieldAddr ?_
          all_goals refine j_load ?_
          all_goals refine j_fieldAddr ?_
          all_goals refine j_load ?_
          all_goals refine j_fieldAddr ?_
          all_goals refine j_load ?_
          all_goals refine j_build ?_
          all_goals refine j_store (fun _ => ?_)
          all_goals refine l_nil ?_
          all_goals
            refine k_retvF Try.results104 (.cell (by exact rfl) (by repeat (first | exact At.head | apply At.tail)) (by exact agg_of rfl) .nil) (fun w hw => ?_)
            first | (exfalso; omega) | exact ⟨by simp only [Nd.own, beq_iff_eq, *, if_true, if_false]; rfl, hw.done⟩
        · try (exact absurd c10 (by decide))
          all_goals (revert c10; (first | refine cv2 ?_ | refine cv4 ?_ | refine cv6 ?_ | refine cv8 ?_ | refine cva ?_ | refine cvc ?_ | refine cve ?_ | skip); intro c10)
          all_goals (refine k_seq ?_)
          all_goals refine k_region ?_
          all_goals refine j_eql ?_
          all_goals refine j_assignL (fun _ => ?_)
          all_goals refine l_nil ?_
          all_goals
            refine k_cond (by exact rfl) (fun c19 => ?_) (fun c19 => ?_)
            · try (exact absurd c19 (by decide))
              all_goals (revert c19; (first | refine cv1 ?_ | refine cv3 ?_ | refine cv5 ?_ | refine cv7 ?_ | refine cv9 ?_ | refine cvb ?_ | refine cvd ?_ | skip); intro c19)
              all_goals (refine k_seq ?_)
              all_goals refine k_region ?_
              all_goals refine j_fieldAddr ?_
              all_goals refine j_load ?_
              all_goals refine j_fieldAddr ?_
              all_goals refine j_load ?_
              all_goals refine j_fieldAddr ?_
              all_goals refine j_load ?_
              all_goals refine j_fieldAddr ?_
              all_goals refine j_load ?_
              all_goals refine j_build ?_
              all_goals refine j_store (fun _ => ?_)
              all_goals refine l_nil ?_
              all_goals
                refine k_retvF Try.results104 (.cell (by exact rfl) (by repeat (first | exact At.head | apply At.tail)) (by exact agg_of rfl) .nil) (fun w hw => ?_)
                first | (exfalso; omega) | exact ⟨by simp only [Nd.own, beq_iff_eq, *, if_true, if_false]; rfl, hw.done⟩
            · try (exact absurd c19 (by decide))
              all_goals (revert c19; (first | refine cv2 ?_ | refine cv4 ?_ | refine cv6 ?_ | refine cv8 ?_ | refine cva ?_ | refine cvc ?_ | refine cve ?_ | skip); intro c19)
              all_goals (refine k_seq ?_)
              all_goals refine k_region ?_
              all_goals refine j_eql ?_
              all_goals refine j_assignL (fun _ => ?_)
              all_goals refine l_nil ?_
              all_goals
                refine k_cond (by exact rfl) (fun c30 => ?_) (fun c30 => ?_)
                · try (exact absurd c30 (by decide))
                  all_goals (revert c30; (first | refine cv1 ?_ | refine cv3 ?_ | refine cv5 ?_ | refine cv7 ?_ | refine cv9 ?_ | refine cvb ?_ | refine cvd ?_ | skip); intro c30)
                  all_goals (refine k_seq ?_)
                  all_goals refine k_region ?_
                  all_goals refine j_fieldAddr ?_
                  all_goals refine j_load ?_
                  all_goals refine j_fieldAddr ?_
                  all_goals refine j_load ?_
                  all_goals refine j_fieldAddr ?_
                  all_goals refine j_load ?_
                  all_goals refine j_fieldAddr ?_
                  all_goals refine j_load ?_
                  all_goals refine j_build ?_
                  all_goals refine j_store (fun _ => ?_)
                  all_goals refine l_nil ?_
                  all_goals
                    refine k_retvF Try.results104 (.cell (by exact rfl) (by repeat (first | exact At.head | apply At.tail)) (by exact agg_of rfl) .nil) (fun w hw => ?_)
                    first | (exfalso; omega) | exact ⟨by simp only [Nd.own, beq_iff_eq, *, if_true, if_false]; rfl, hw.done⟩
                · try (exact absurd c30 (by decide))
                  all_goals (revert c30; (first | refine cv2 ?_ | refine cv4 ?_ | refine cv6 ?_ | refine cv8 ?_ | refine cva ?_ | refine cvc ?_ | refine cve ?_ | skip); intro c30)
                  all_goals (refine k_seq ?_)
                  all_goals refine k_region ?_
                  all_goals refine j_eql ?_
                  all_goals refine j_assignL (fun _ => ?_)
                  all_goals refine l_nil ?_
                  all_goals
                    refine k_cond (by exact rfl) (fun c41 => ?_) (fun c41 => ?_)
                    · try (exact absurd c41 (by decide))
                      all_goals (revert c41; (first | refine cv1 ?_ | refine cv3 ?_ | refine cv5 ?_ | refine cv7 ?_ | refine cv9 ?_ | refine cvb ?_ | refine cvd ?_ | skip); intro c41)
                      all_goals (refine k_seq ?_)
                      all_goals refine k_region ?_
                      all_goals refine j_fieldAddr ?_
                      all_goals refine j_load ?_
                      all_goals refine j_fieldAddr ?_
                      all_goals refine j_load ?_
                      all_goals refine j_fieldAddr ?_
                      all_goals refine j_load ?_
                      all_goals refine j_fieldAddr ?_
                      all_goals refine j_load ?_
                      all_goals refine j_fieldAddr ?_
                      all_goals refine j_load ?_
                      all_goals refine j_build ?_
                      all_goals refine j_store (fun _ => ?_)
                      all_goals refine l_nil ?_
                      all_goals
                        refine k_retvF Try.results104 (.cell (by exact rfl) (by repeat (first | exact At.head | apply At.tail)) (by exact agg_of rfl) .nil) (fun w hw => ?_)
                        first | (exfalso; omega) | exact ⟨by simp only [Nd.own, beq_iff_eq, *, if_true, if_false]; rfl, hw.done⟩
                    · try (exact absurd c41 (by decide))
                      all_goals (revert c41; (first | refine cv2 ?_ | refine cv4 ?_ | refine cv6 ?_ | refine cv8 ?_ | refine cva ?_ | refine cvc ?_ | refine cve ?_ | skip); intro c41)
                      all_goals (refine k_seq ?_)
                      all_goals refine k_region ?_
                      all_goals refine j_eql ?_
                      all_goals refine j_assignL (fun _ => ?_)
                      all_goals refine l_nil ?_
                      all_goals
                        refine k_cond (by exact rfl) (fun c54 => ?_) (fun c54 => ?_)
                        · try (exact absurd c54 (by decide))
                          all_goals (revert c54; (first | refine cv1 ?_ | refine cv3 ?_ | refine cv5 ?_ | refine cv7 ?_ | refine cv9 ?_ | refine cvb ?_ | refine cvd ?_ | skip); intro c54)
                          all_goals (refine k_seq ?_)
                          all_goals refine k_region ?_
                          all_goals refine j_fieldAddr ?_
                          all_goals refine j_load ?_
                          all_goals refine j_fieldAddr ?_
                          all_goals refine j_load ?_
                          all_goals refine j_fieldAddr ?_
                          all_goals refine j_load ?_
                          all_goals refine j_fieldAddr ?_
                          all_goals refine j_load ?_
                          all_goals refine j_build ?_
                          all_goals refine j_store (fun _ => ?_)
                          all_goals refine l_nil ?_
                          all_goals
                            refine k_retvF Try.results104 (.cell (by exact rfl) (by repeat (first | exact At.head | apply At.tail)) (by exact agg_of rfl) .nil) (fun w hw => ?_)
                            first | (exfalso; omega) | exact ⟨by simp only [Nd.own, beq_iff_eq, *, if_true, if_false]; rfl, hw.done⟩
                        · try (exact absurd c54 (by decide))
                          all_goals (revert c54; (first | refine cv2 ?_ | refine cv4 ?_ | refine cv6 ?_ | refine cv8 ?_ | refine cva ?_ | refine cvc ?_ | refine cve ?_ | skip); intro c54)
                          all_goals (refine k_seq ?_)
                          all_goals refine k_region ?_
                          all_goals refine j_eql ?_
                          all_goals refine j_assignL (fun _ => ?_)
                          all_goals refine l_nil ?_
                          all_goals
                            refine k_cond (by exact rfl) (fun c65 => ?_) (fun c65 => ?_)
                            · try (exact absurd c65 (by decide))
                              all_goals (revert c65; (first | refine cv1 ?_ | refine cv3 ?_ | refine cv5 ?_ | refine cv7 ?_ | refine cv9 ?_ | refine cvb ?_ | refine cvd ?_ | skip); intro c65)
                              all_goals (refine k_seq ?_)
                              all_goals refine k_region ?_
                              all_goals refine j_fieldAddr ?_
                              all_goals refine j_load ?_
                              all_goals refine j_fieldAddr ?_
                              all_goals refine j_load ?_
                              all_goals refine j_build ?_
                              all_goals refine j_store (fun _ => ?_)
                              all_goals refine l_nil ?_
                              all_goals
                                refine k_retvF Try.results104 (.cell (by exact rfl) (by repeat (first | exact At.head | apply At.tail)) (by exact agg_of rfl) .nil) (fun w hw => ?_)
                                first | (exfalso; omega) | exact ⟨by simp only [Nd.own, beq_iff_eq, *, if_true, if_false]; rfl, hw.done⟩
                            · try (exact absurd c65 (by decide))
                              all_goals (revert c65; (first | refine cv2 ?_ | refine cv4 ?_ | refine cv6 ?_ | refine cv8 ?_ | refine cva ?_ | refine cvc ?_ | refine cve ?_ | skip); intro c65)
                              all_goals (refine k_seq ?_)
                              all_goals refine k_region ?_
                              all_goals refine j_eql ?_
                              all_goals refine j_assignL (fun _ => ?_)
                              all_goals refine l_nil ?_
                              all_goals
                                refine k_cond (by exact rfl) (fun c72 => ?_) (fun c72 => ?_)
                                · try (exact absurd c72 (by decide))
                                  all_goals (revert c72; (first | refine cv1 ?_ | refine cv3 ?_ | refine cv5 ?_ | refine cv7 ?_ | refine cv9 ?_ | refine cvb ?_ | refine cvd ?_ | skip); intro c72)
                                  all_goals (refine k_seq ?_)
                                  all_goals refine k_region ?_
                                  all_goals refine j_fieldAddr ?_
                                  all_goals refine j_load ?_
                                  all_goals refine j_fieldAddr ?_
                                  all_goals refine j_load ?_
                                  all_goals refine j_fieldAddr ?_
                                  all_goals refine j_load ?_
                                  all_goals refine j_fieldAddr ?_
                                  all_goals refine j_load ?_
                                  all_goals refine j_fieldAddr ?_
                                  all_goals refine j_load ?_
                                  all_goals refine j_build ?_
                                  all_goals refine j_store (fun _ => ?_)
                                  all_goals refine l_nil ?_
                                  all_goals
                                    refine k_retvF Try.results104 (.cell (by exact rfl) (by repeat (first | exact At.head | apply At.tail)) (by exact agg_of rfl) .nil) (fun w hw => ?_)
                                    first | (exfalso; omega) | exact ⟨by simp only [Nd.own, beq_iff_eq, *, if_true, if_false]; rfl, hw.done⟩
                                · try (exact absurd c72 (by decide))
                                  all_goals (revert c72; (first | refine cv2 ?_ | refine cv4 ?_ | refine cv6 ?_ | refine cv8 ?_ | refine cva ?_ | refine cvc ?_ | refine cve ?_ | skip); intro c72)
                                  all_goals (refine k_skip ?_)
                                  all_goals (refine k_blk ?_)
                                  all_goals (refine k_seq ?_)
                                  all_goals refine k_region ?_
                                  all_goals refine j_build ?_
                                  all_goals refine j_store (fun _ => ?_)
                                  all_goals refine l_nil ?_
                                  all_goals
                                    refine k_retvF Try.results104 (.cell (by exact rfl) (by repeat (first | exact At.head | apply At.tail)) (by exact agg_of rfl) .nil) (fun w hw => ?_)
                                    first | (exfalso; omega) | exact ⟨by simp only [Nd.own, beq_iff_eq, *, if_true, if_false]; rfl, hw.done⟩
theorem ndValid_c3 {n : Nd} {xs : List Int} {ys : List Pr} (h : n.kind = 3) (hv : NdValid n xs ys) : (xs.length : Int) = rOnes n.bm ∧ Pos xs := by
  obtain ⟨_, _, _, _, hv⟩ := hv
  rcases hv with h1 | ⟨h1, _⟩ | ⟨_, h2, h3⟩ | ⟨h1 | h1, _⟩ | ⟨h1, _⟩ | ⟨h1, _⟩ | ⟨h1, _⟩
  all_goals first | exact ⟨h2, h3⟩ | (rw [h] at h1; exact absurd h1 (by decide))
theorem c3_false {n : Nd} {xs : List Int} {ys : List Pr} (h : n.kind = 3) {k : Nat} (hk : k < xs.length) (hx : xs.getD k 0 < 1) : false = true ↔ NdValid n xs ys := by
  simp only [Bool.false_eq_true, false_iff]
  intro hv
  have := (ndValid_c3 h hv).2 k hk
  omega
theorem c3_true {n : Nd} {xs : List Int} {ys : List Pr} {c : Int} (h : n.kind = 3) (he : NdEq n n.own xs (n.xsOwn xs) ys (n.ysOwn ys)) (h1 : 0 ≤ n.main) (h2 : 0 ≤ n.prev) (h3 : 0 ≤ n.status) (eo : rOnes n.bm = c) (hp : Pos xs) : ((xs.length : Int) == c) = true ↔ NdValid n xs ys := by
  rw [beq_iff_eq, ← eo]
  exact ⟨fun hl => ⟨he, h1, h2, h3, .inr (.inr (.inl ⟨h, hl, hp⟩))⟩, fun hv => (ndValid_c3 h hv).1⟩
theorem refValid_c {n : Nd} {xs : List Int} {ys : List Pr} {w : World} {b : Nat} (hb : n.bm = (b : Int)) (hb2 : b < 18446744073709551616) (hr : Rep w n xs ys) :
    Calls Try.prog 74 #[n.v] w fun e w' => ∃ r : Bool, e = .returned (.bool r) ∧ (r = true ↔ NdValid n xs ys) ∧ St w [] [] w' := by
  have e1 := hr.brN; have e2 := hr.prN
  obtain ⟨kind, gen, main, bm, brA, brN, brC, hash, key, val, prA, prN, prK, prev, old, exp, new, status⟩ := n
  simp only at e1 e2 hb
  subst e1 e2 hb
  have eo : rOnes (b : Int) = ((cnt b 64 : Nat) : Int) := rOnes_cnt hb2
  have hxl := hr.brS
  refine enter Try.func74 Try.ntmps74 rfl rfl (SF.s2 hr.br hr.pr) ?_
  simp only [mkS]
  simp only [Nd.v, Nd.cells]
  all_goals (refine k_seq ?_)
  all_goals refine k_region ?_
  all_goals refine j_box (fun x1 => ?_)
  all_goals refine j_assignL (fun _ => ?_)
  all_goals refine l_nil ?_
  all_goals (refine k_seq ?_)
  all_goals (refine k_seq ?_)
  all_goals refine k_drawF (.one 0 [] (.one 1 [] (.one 2 [] (.one 3 [] (.one 4 [] (.one 5 [] (.one 6 [] (.one 7 [] (.one 8 [] (.one 9 [] (.one 10 [] (.one 11 [9] (.one 12 [] (.one 13 [] (.one 14 [] (.one 15 [] (.one 16 [] (.one 17 [] (.one 18 [] (.one 19 [] (.one 20 [] (.one 21 [] (.one 22 [] (.one 23 [] (.one 24 [] (.one 25 [] (.one 26 [] (.one 27 [] (.one 28 [] (.one 29 [] .nil)))))))))))))))))))))))))))))) ?_
  all_goals (refine r_fieldAddr (i := 0) ?_)
  all_goals (refine r_load (i := 1) ?_)
  all_goals (refine r_lss (i := 2) ?_)
  all_goals (refine r_move (i := 3) ?_)
  all_goals (first | refine r_un (i := 4) ?_ | (refine r_fieldAddr (i := 4) ?_) | (refine r_case (g := 7) (by exact rfl) (fun g7 => ?_) (fun g7 => ?_) <;> (revert g7; (first | refine cv1 ?_ | refine cv2 ?_ | refine cvb ?_ | refine cvc ?_ | refine cv9 ?_ | refine cva ?_ | refine cv7 ?_ | refine cv8 ?_ | refine cvd ?_ | refine cve ?_ | skip); intro g7) <;> (first | refine r_un (i := 4) ?_ | (refine r_fieldAddr (i := 4) ?_))))
  all_goals (first | refine r_un (i := 5) ?_ | (refine r_load (i := 5) ?_))
  all_goals (first | refine r_un (i := 6) ?_ | (refine r_gtr (i := 6) ?_))
  all_goals (refine r_pick (i := 7) ?_)
  all_goals (refine r_move (i := 8) ?_)
  all_goals (first | refine r_un (i := 9) ?_ | (refine r_load (i := 9) ?_) | (refine r_case (g := 12) (by exact rfl) (fun g12 => ?_) (fun g12 => ?_) <;> (revert g12; (first | refine cv1 ?_ | refine cv2 ?_ | refine cvb ?_ | refine cvc ?_ | refine cv9 ?_ | refine cva ?_ | refine cv7 ?_ | refine cv8 ?_ | refine cvd ?_ | refine cve ?_ | skip); intro g12) <;> (first | refine r_un (i := 9) ?_ | (refine r_load (i := 9) ?_))))
  all_goals (first | refine r_un (i := 10) ?_ | (refine r_load (i := 10) ?_))
  all_goals (first | refine r_un (i := 11) ?_ | ((refine r_own (i := 11) (hq := (cV (hc := fun w1 hw => only_c (⟨kind, gen, main, (b : Int), brA, xs.length, brC, hash, key, val, prA, ys.length, prK, prev, old, exp, new, status⟩ : Nd) (show (1 : Int) ≤ kind by omega) (show kind ≤ 8 by omega) w1))) (hfire := (fun _ => by first | (refine FireAll.cons (by first | exact a_load | exact a_un) ?_; exact FireAll.nil) | (refine fireall_fact ?_; refine FireAll.cons (by first | exact a_load | exact a_un) ?_; exact FireAll.nil))) (h := fun x15 => ?_); try (refine r_fact (fun h15 => ?_)))))
  all_goals (first | refine r_un (i := 12) ?_ | ((refine r_own (i := 12) (hq := (c0 (V := .bool) (hc := fun w1 hw => refEq_c (a := (⟨kind, gen, main, (b : Int), brA, xs.length, brC, hash, key, val, prA, ys.length, prK, prev, old, exp, new, status⟩ : Nd)) (b := ((⟨kind, gen, main, (b : Int), brA, xs.length, brC, hash, key, val, prA, ys.length, prK, prev, old, exp, new, status⟩ : Nd)).own) (hr.keep0 hw.done) (hr.keep0 hw.done).own))) (hfire := (fun _ => .nil)) (h := fun x16 => ?_); try (refine r_fact (fun h16 => ?_)))))
  all_goals (first | refine r_un (i := 13) ?_ | (refine r_not (i := 13) ?_))
  all_goals (refine r_pick (i := 14) ?_)
  all_goals (refine r_move (i := 15) ?_)
  all_goals (first | refine r_un (i := 16) ?_ | (refine r_fieldAddr (i := 16) ?_) | (refine r_case (g := 19) (by exact rfl) (fun g19 => ?_) (fun g19 => ?_) <;> (revert g19; (first | refine cv1 ?_ | refine cv2 ?_ | refine cvb ?_ | refine cvc ?_ | refine cv9 ?_ | refine cva ?_ | refine cv7 ?_ | refine cv8 ?_ | refine cvd ?_ | refine cve ?_ | skip); intro g19) <;> (first | refine r_un (i := 16) ?_ | (refine r_fieldAddr (i := 16) ?_))))
  all_goals (first | refine r_un (i := 17) ?_ | (refine r_load (i := 17) ?_))
  all_goals (first | refine r_un (i := 18) ?_ | (refine r_lss (i := 18) ?_))
  all_goals (refine r_pick (i := 19) ?_)
  all_goals (refine r_move (i := 20) ?_)
  all_goals (first | refine r_un (i := 21) ?_ | (refine r_fieldAddr (i := 21) ?_) | (refine r_case (g := 24) (by exact rfl) (fun g24 => ?_) (fun g24 => ?_) <;> (revert g24; (first | refine cv1 ?_ | refine cv2 ?_ | refine cvb ?_ | refine cvc ?_ | refine cv9 ?_ | refine cva ?_ | refine cv7 ?_ | refine cv8 ?_ | refine cvd ?_ | refine cve ?_ | skip); intro g24) <;> (first | refine r_un (i := 21) ?_ | (refine r_fieldAddr (i := 21) ?_))))
  all_goals (first | refine r_un (i := 22) ?_ | (refine r_load (i := 22) ?_))
  all_goals (first | refine r_un (i := 23) ?_ | (refine r_lss (i := 23) ?_))
  all_goals (refine r_pick (i := 24) ?_)
  all_goals (refine r_move (i := 25) ?_)
  all_goals (first | refine r_un (i := 26) ?_ | (refine r_fieldAddr (i := 26) ?_) | (refine r_case (g := 29) (by exact rfl) (fun g29 => ?_) (fun g29 => ?_) <;> (revert g29; (first | refine cv1 ?_ | refine cv2 ?_ | refine cvb ?_ | refine cvc ?_ | refine cv9 ?_ | refine cva ?_ | refine cv7 ?_ | refine cv8 ?_ | refine cvd ?_ | refine cve ?_ | skip); intro g29) <;> (first | refine r_un (i := 26) ?_ | (refine r_fieldAddr (i := 26) ?_))))
  all_goals (first | refine r_un (i := 27) ?_ | (refine r_load (i := 27) ?_))
  all_goals (first | refine r_un (i := 28) ?_ | (refine r_lss (i := 28) ?_))
  all_goals (refine r_pick (i := 29) ?_)
  all_goals refine r_fin ?_
  all_goals
    refine k_cond (by exact rfl) (fun c33 => ?_) (fun c33 => ?_)
    · try (exact absurd c33 (by decide))
      all_goals (revert c33; (first | refine cv1 ?_ | refine cv3 ?_ | refine cv5 ?_ | refine cv7 ?_ | refine cv9 ?_ | refine cvb ?_ | refine cvd ?_ | skip); intro c33)
      all_goals (refine k_seq ?_)
      all_goals refine k_region ?_
      all_goals refine j_assignL (fun _ => ?_)
      all_goals refine l_nil ?_
      all_goals
        refine k_retvF Try.results74 (.tmp (by conv => { lhs; whnf }) .nil) (fun w hw => ?_)
        refine ⟨_, rfl, ?_, hw.done⟩
        first | (simp_all [NdValid]; done) | exact c3_false c41 (k := k) (by omega) (by assumption) | exact c3_true c41 (h16.1 (by simpa using g19)) (show 0 ≤ main by omega) (show 0 ≤ prev by omega) (show 0 ≤ status by omega) eo (fun i hi => hx.2 i (by omega)) | (simp_all [NdValid]; omega)
    · try (exact absurd c33 (by decide))
      all_goals (revert c33; (first | refine cv2 ?_ | refine cv4 ?_ | refine cv6 ?_ | refine cv8 ?_ | refine cva ?_ | refine cvc ?_ | refine cve ?_ | skip); intro c33)
      all_goals (refine k_skip ?_)
      all_goals (refine k_seq ?_)
      all_goals (refine k_seq ?_)
      all_goals refine k_region ?_
      all_goals refine j_fieldAddr ?_
      all_goals refine j_load ?_
      all_goals refine l_nil ?_
      all_goals (refine k_block ?_)
      all_goals (refine k_seq ?_)
      all_goals refine k_region ?_
      all_goals refine j_eql ?_
      all_goals refine j_assignL (fun _ => ?_)
      all_goals refine l_nil ?_
      all_goals
        refine k_cond (by exact rfl) (fun c36 => ?_) (fun c36 => ?_)
        · try (exact absurd c36 (by decide))
          all_goals (revert c36; (first | refine cv1 ?_ | refine cv3 ?_ | refine cv5 ?_ | refine cv7 ?_ | refine cv9 ?_ | refine cvb ?_ | refine cvd ?_ | skip); intro c36)
          all_goals (refine k_seq ?_)
          all_goals refine k_region ?_
          all_goals refine j_fieldAddr ?_
          all_goals refine j_load ?_
          all_goals refine j_geq ?_
          all_goals refine j_assignL (fun _ => ?_)
          all_goals refine l_nil ?_
          all_goals
            refine k_retvF Try.results74 (.tmp (by conv => { lhs; whnf }) .nil) (fun w hw => ?_)
            refine ⟨_, rfl, ?_, hw.done⟩
            first | (simp_all [NdValid]; done) | exact c3_false c41 (k := k) (by omega) (by assumption) | exact c3_true c41 (h16.1 (by simpa using g19)) (show 0 ≤ main by omega) (show 0 ≤ prev by omega) (show 0 ≤ status by omega) eo (fun i hi => hx.2 i (by omega)) | (simp_all [NdValid]; omega)
        · try (exact absurd c36 (by decide))
          all_goals (revert c36; (first | refine cv2 ?_ | refine cv4 ?_ | refine cv6 ?_ | refine cv8 ?_ | refine cva ?_ | refine cvc ?_ | refine cve ?_ | skip); intro c36)
          all_goals (refine k_seq ?_)
          all_goals refine k_region ?_
          all_goals refine j_eql ?_
          all_goals refine j_assignL (fun _ => ?_)
          all_goals refine l_nil ?_
          all_goals
            refine k_cond (by exact rfl) (fun c41 => ?_) (fun c41 => ?_)
            · try (exact absurd c41 (by decide))
              all_goals (revert c41; (first | refine cv1 ?_ | refine cv3 ?_ | refine cv5 ?_ | refine cv7 ?_ | refine cv9 ?_ | refine cvb ?_ | refine cvd ?_ | skip); intro c41)
              all_goals (refine k_seq ?_)
              all_goals (refine k_seq ?_)
              all_goals refine k_region ?_
              all_goals refine j_assignL (fun _ => ?_)
              all_goals refine l_nil ?_
              all_goals (refine k_block ?_)
              all_goals
                refine k_loopC [2, 3, 43, 44, 45, 46, 47, 48, 49, 50, 51, 52, 53, 54, 55] (fun k => [(3, .int .i64 ((k : Nat) : Int))]) (fun k => k ≤ xs.length ∧ ∀ i, i < k → 1 ≤ xs.getD i 0) (fun k => xs.length - k) (0) (⟨Nat.zero_le _, fun i hi => absurd hi (Nat.not_lt_zero i)⟩) ?_ (fun k f hx => ?_)
                · repeat (first | exact knows_nil _ | refine knows_cons (by first | exact rfl | (conv => { lhs; whnf }; simp; done)) ?_)
                dsimp only [mkU, List.map, List.cons_append, List.nil_append]
                all_goals (refine k_seq ?_)
                all_goals (refine k_seq ?_)
                all_goals refine k_region ?_
                all_goals refine j_move ?_
                all_goals refine j_fieldAddr ?_
                all_goals refine j_load ?_
                all_goals refine j_len ?_
                all_goals refine j_lss ?_
                all_goals refine l_nil ?_
                all_goals
                  refine k_cond (by exact rfl) (fun c47 => ?_) (fun c47 => ?_)
                  · try (exact absurd c47 (by decide))
                    all_goals (revert c47; (first | refine cv1 ?_ | refine cv3 ?_ | refine cv5 ?_ | refine cv7 ?_ | refine cv9 ?_ | refine cvb ?_ | refine cvd ?_ | skip); intro c47)
                    all_goals (refine k_skip ?_)
                    all_goals (refine k_seq ?_)
                    all_goals (refine k_block ?_)
                    all_goals (refine k_seq ?_)
                    all_goals refine k_region ?_
                    all_goals refine j_fieldAddr ?_
                    all_goals refine j_load ?_
                    all_goals refine j_move ?_
                    all_goals refine j_indexAddr ?_
                    all_goals refine j_load ?_
                    all_goals refine j_lss ?_
                    all_goals refine l_nil ?_
                    all_goals
                      refine k_cond (by exact rfl) (fun c55 => ?_) (fun c55 => ?_)
                      · try (exact absurd c55 (by decide))
                        all_goals (revert c55; (first | refine cv1 ?_ | refine cv3 ?_ | refine cv5 ?_ | refine cv7 ?_ | refine cv9 ?_ | refine cvb ?_ | refine cvd ?_ | skip); intro c55)
                        all_goals (refine k_seq ?_)
                        all_goals refine k_region ?_
                        all_goals refine j_assignL (fun _ => ?_)
                        all_goals refine l_nil ?_
                        all_goals
                          refine k_retvF Try.results74 (.tmp (by conv => { lhs; whnf }) .nil) (fun w hw => ?_)
                          refine ⟨_, rfl, ?_, hw.done⟩
                          first | (simp_all [NdValid]; done) | exact c3_false c41 (k := k) (by omega) (by assumption) | exact c3_true c41 (h16.1 (by simpa using g19)) (show 0 ≤ main by omega) (show 0 ≤ prev by omega) (show 0 ≤ status by omega) eo (fun i hi => hx.2 i (by omega)) | (simp_all [NdValid]; omega)
                      · try (exact absurd c55 (by decide))
                        all_goals (revert c55; (first | refine cv2 ?_ | refine cv4 ?_ | refine cv6 ?_ | refine cv8 ?_ | refine cva ?_ | refine cvc ?_ | refine cve ?_ | skip); intro c55)
                        all_goals (refine k_skip ?_)
                        all_goals (refine k_blk ?_)
                        all_goals refine k_region ?_
                        all_goals refine j_move ?_
                        all_goals refine j_inc ?_
                        all_goals refine j_assignL (fun _ => ?_)
                        all_goals refine l_nil ?_
                        all_goals
                          refine k_roundC (k + 1) ?_ ?_ ?_
                          · first | omega | (simp only []; omega)
                          · repeat' (first | exact knows_nil _ | refine knows_cons ?_ ?_)
                            all_goals (first | exact rfl | (conv => { lhs; whnf }; simp; done) | (conv => { lhs; whnf }; congr 1; omega))
                          · exact ⟨by omega, fun i hi => by rcases Nat.lt_succ_iff_lt_or_eq.1 hi with h | rfl; exact hx.2 i h; omega⟩
                  · try (exact absurd c47 (by decide))
                    all_goals (revert c47; (first | refine cv2 ?_ | refine cv4 ?_ | refine cv6 ?_ | refine cv8 ?_ | refine cva ?_ | refine cvc ?_ | refine cve ?_ | skip); intro c47)
                    all_goals (refine k_exit rfl ?_)
                    all_goals (refine k_seq ?_)
                    all_goals refine k_drawF (.one 0 [] (.one 1 [] (.one 2 [] (.one 3 [] (.one 4 [] (.one 5 [1] (.one 6 [] (.one 7 [] .nil)))))))) ?_
                    all_goals (refine r_fieldAddr (i := 0) ?_)
                    all_goals (refine r_load (i := 1) ?_)
                    all_goals (refine r_len (i := 2) ?_)
                    all_goals (refine r_fieldAddr (i := 3) ?_)
                    all_goals (refine r_load (i := 4) ?_)
                    all_goals ((refine r_own (i := 5) (hq := (cV (hc := fun w1 hw => refCount_c hb2 w1))) (hfire := (fun _ => by first | (refine FireAll.cons (by first | exact a_load | exact a_un) ?_; exact FireAll.nil) | (refine fireall_fact ?_; refine FireAll.cons (by first | exact a_load | exact a_un) ?_; exact FireAll.nil))) (h := fun x61 => ?_); try (refine r_fact (fun h61 => ?_))))
                    all_goals (refine r_eql (i := 6) ?_)
                    all_goals (refine r_assignL (i := 7) (hfire := (fun _ => .nil)) (h := fun _ => ?_))
                    all_goals refine r_fin ?_
                    all_goals
                      refine k_retvF Try.results74 (.tmp (by conv => { lhs; whnf }) .nil) (fun w hw => ?_)
                      refine ⟨_, rfl, ?_, hw.done⟩
                      first | (simp_all [NdValid]; done) | exact c3_false c41 (k := k) (by omega) (by assumption) | exact c3_true c41 (h16.1 (by simpa using g19)) (show 0 ≤ main by omega) (show 0 ≤ prev by omega) (show 0 ≤ status by omega) eo (fun i hi => hx.2 i (by omega)) | (simp_all [NdValid]; omega)
            · try (exact absurd c41 (by decide))
              all_goals (revert c41; (first | refine cv2 ?_ | refine cv4 ?_ | refine cv6 ?_ | refine cv8 ?_ | refine cva ?_ | refine cvc ?_ | refine cve ?_ | skip); intro c41)
              all_goals (refine k_seq ?_)
              all_goals (refine k_seq ?_)
              all_goals refine k_region ?_
              all_goals refine j_eql ?_
              all_goals refine j_assignL (fun _ => ?_)
              all_goals refine l_nil ?_
              all_goals
                refine k_cond (by exact rfl) (fun c63 => ?_) (fun c63 => ?_)
                · try (exact absurd c63 (by decide))
                  all_goals (revert c63; (first | refine cv1 ?_ | refine cv3 ?_ | refine cv5 ?_ | refine cv7 ?_ | refine cv9 ?_ | refine cvb ?_ | refine cvd ?_ | skip); intro c63)
                  all_goals (refine k_skip ?_)
                  all_goals
                    refine k_cond (by exact rfl) (fun c63 => ?_) (fun c63 => ?_)
                    · try (exact absurd c63 (by decide))
                      all_goals (revert c63; (first | refine cv1 ?_ | refine cv3 ?_ | refine cv5 ?_ | refine cv7 ?_ | refine cv9 ?_ | refine cvb ?_ | refine cvd ?_ | skip); intro c63)
                      all_goals (refine k_seq ?_)
                      all_goals refine k_region ?_
                      all_goals refine j_fieldAddr ?_
                      all_goals refine j_load ?_
                      all_goals refine j_lenStr ?_
                      all_goals refine j_leq ?_
                      all_goals refine j_assignL (fun _ => ?_)
                      all_goals refine l_nil ?_
                      all_goals
                        refine k_retvF Try.results74 (.tmp (by conv => { lhs; whnf }) .nil) (fun w hw => ?_)
                        refine ⟨_, rfl, ?_, hw.done⟩
                        first | (simp_all [NdValid]; done) | exact c3_false c41 (k := k) (by omega) (by assumption) | exact c3_true c41 (h16.1 (by simpa using g19)) (show 0 ≤ main by omega) (show 0 ≤ prev by omega) (show 0 ≤ status by omega) eo (fun i hi => hx.2 i (by omega)) | (simp_all [NdValid]; omega)
                    · try (exact absurd c63 (by decide))
                      all_goals (revert c63; (first | refine cv2 ?_ | refine cv4 ?_ | refine cv6 ?_ | refine cv8 ?_ | refine cva ?_ | refine cvc ?_ | refine cve ?_ | skip); intro c63)
                      all_goals (refine k_seq ?_)
                      all_goals refine k_region ?_
                      all_goals refine j_eql ?_
                      all_goals refine j_assignL (fun _ => ?_)
                      all_goals refine l_nil ?_
                      all_goals
                        refine k_cond (by exact rfl) (fun c70 => ?_) (fun c70 => ?_)
                        · try (exact absurd c70 (by decide))
                          all_goals (revert c70; (first | refine cv1 ?_ | refine cv3 ?_ | refine cv5 ?_ | refine cv7 ?_ | refine cv9 ?_ | refine cvb ?_ | refine cvd ?_ | skip); intro c70)
                          all_goals (refine k_seq ?_)
                          all_goals refine k_region ?_
                          all_goals refine j_fieldAddr ?_
                          all_goals refine j_load ?_
                          all_goals refine j_len ?_
                          all_goals refine j_geq ?_
                          all_goals refine j_move ?_
                          all_goals (first | refine j_un ?_ | (refine j_yes ?_; refine j_fieldAddr ?_) | (refine l_case (g := 76) (by exact rfl) (fun g76 => ?_) (fun g76 => ?_) <;> (revert g76; (first | refine cv1 ?_ | refine cv2 ?_ | refine cvb ?_ | refine cvc ?_ | refine cv9 ?_ | refine cva ?_ | refine cv7 ?_ | refine cv8 ?_ | refine cvd ?_ | refine cve ?_ | skip); intro g76) <;> (first | refine j_un ?_ | (refine j_yes ?_; refine j_fieldAddr ?_))))
                          all_goals (first | refine j_un ?_ | (refine j_yes ?_; refine j_load ?_))
                          all_goals (first | refine j_un ?_ | (refine j_yes ?_; (refine j_own (c0 (V := .bool) (hc := fun w1 hw => refPrValid_c (hw.cl (by first | exact .new .head | exact .new (.tail .head) | exact .new (.tail (.tail .head)) | exact .new (.tail (.tail (.tail .head))) | exact .new (.tail (.tail (.tail (.tail .head)))) | exact .new (.tail (.tail (.tail (.tail (.tail .head))))) | exact .new (.tail (.tail (.tail (.tail (.tail (.tail .head)))))) | exact .new (.tail (.tail (.tail (.tail (.tail (.tail (.tail .head))))))) | exact .new (.tail (.tail (.tail (.tail (.tail (.tail (.tail (.tail .head)))))))) | exact .new (.tail (.tail (.tail (.tail (.tail (.tail (.tail (.tail (.tail .head))))))))) | exact .old .head | exact .old (.tail .head) | exact .old (.tail (.tail .head)) | exact .old (.tail (.tail (.tail .head))) | exact .old (.tail (.tail (.tail (.tail .head)))) | exact .old (.tail (.tail (.tail (.tail (.tail .head))))) | exact .own .head | exact .own (.tail .head) | exact .own (.tail (.tail .head)) | exact .own (.tail (.tail (.tail .head))) | exact .own (.tail (.tail (.tail (.tail .head)))) | exact .own (.tail (.tail (.tail (.tail (.tail .head))))) | exact .own (.tail (.tail (.tail (.tail (.tail (.tail .head)))))) | exact .own (.tail (.tail (.tail (.tail (.tail (.tail (.tail .head))))))))) hr.prS)) (fun x79 => ?_); try (refine l_fact (fun h79 => ?_)))))
                          all_goals refine j_pick ?_
                          all_goals refine j_move ?_
                          all_goals (first | refine j_un ?_ | (refine j_yes ?_; refine j_fieldAddr ?_) | (refine l_case (g := 81) (by exact rfl) (fun g81 => ?_) (fun g81 => ?_) <;> (revert g81; (first | refine cv1 ?_ | refine cv2 ?_ | refine cvb ?_ | refine cvc ?_ | refine cv9 ?_ | refine cva ?_ | refine cv7 ?_ | refine cv8 ?_ | refine cvd ?_ | refine cve ?_ | skip); intro g81) <;> (first | refine j_un ?_ | (refine j_yes ?_; refine j_fieldAddr ?_))))
                          all_goals (first | refine j_un ?_ | (refine j_yes ?_; refine j_load ?_))
                          all_goals (first | refine j_un ?_ | (refine j_yes ?_; (refine j_own (c0 (V := .bool) (hc := fun w1 hw => keys_c (hw.cl (by first | exact .new .head | exact .new (.tail .head) | exact .new (.tail (.tail .head)) | exact .new (.tail (.tail (.tail .head))) | exact .new (.tail (.tail (.tail (.tail .head)))) | exact .new (.tail (.tail (.tail (.tail (.tail .head))))) | exact .new (.tail (.tail (.tail (.tail (.tail (.tail .head)))))) | exact .new (.tail (.tail (.tail (.tail (.tail (.tail (.tail .head))))))) | exact .new (.tail (.tail (.tail (.tail (.tail (.tail (.tail (.tail .head)))))))) | exact .new (.tail (.tail (.tail (.tail (.tail (.tail (.tail (.tail (.tail .head))))))))) | exact .old .head | exact .old (.tail .head) | exact .old (.tail (.tail .head)) | exact .old (.tail (.tail (.tail .head))) | exact .old (.tail (.tail (.tail (.tail .head)))) | exact .old (.tail (.tail (.tail (.tail (.tail .head))))) | exact .own .head | exact .own (.tail .head) | exact .own (.tail (.tail .head)) | exact .own (.tail (.tail (.tail .head))) | exact .own (.tail (.tail (.tail (.tail .head)))) | exact .own (.tail (.tail (.tail (.tail (.tail .head))))) | exact .own (.tail (.tail (.tail (.tail (.tail (.tail .head)))))) | exact .own (.tail (.tail (.tail (.tail (.tail (.tail (.tail .head))))))))) hr.prS)) (fun x84 => ?_); try (refine l_fact (fun h84 => ?_)))))
                          all_goals refine j_pick ?_
                          all_goals refine j_assignL (fun _ => ?_)
                          all_goals refine l_nil ?_
                          all_goals
                            refine k_retvF Try.results74 (.tmp (by conv => { lhs; whnf }) .nil) (fun w hw => ?_)
                            refine ⟨_, rfl, ?_, hw.done⟩
                            first | (simp_all [NdValid]; done) | exact c3_false c41 (k := k) (by omega) (by assumption) | exact c3_true c41 (h16.1 (by simpa using g19)) (show 0 ≤ main by omega) (show 0 ≤ prev by omega) (show 0 ≤ status by omega) eo (fun i hi => hx.2 i (by omega)) | (simp_all [NdValid]; omega)
                        · try (exact absurd c70 (by decide))
                          all_goals (revert c70; (first | refine cv2 ?_ | refine cv4 ?_ | refine cv6 ?_ | refine cv8 ?_ | refine cva ?_ | refine cvc ?_ | refine cve ?_ | skip); intro c70)
                          all_goals (refine k_seq ?_)
                          all_goals refine k_region ?_
                          all_goals refine j_eql ?_
                          all_goals refine j_assignL (fun _ => ?_)
                          all_goals refine l_nil ?_
                          all_goals
                            refine k_cond (by exact rfl) (fun c86 => ?_) (fun c86 => ?_)
                            · try (exact absurd c86 (by decide))
                              all_goals (revert c86; (first | refine cv1 ?_ | refine cv3 ?_ | refine cv5 ?_ | refine cv7 ?_ | refine cv9 ?_ | refine cvb ?_ | refine cvd ?_ | skip); intro c86)
                              all_goals (refine k_seq ?_)
                              all_goals refine k_region ?_
                              all_goals refine j_fieldAddr ?_
                              all_goals refine j_load ?_
                              all_goals refine j_geq ?_
                              all_goals refine j_assignL (fun _ => ?_)
                              all_goals refine l_nil ?_
                              all_goals
                                refine k_retvF Try.results74 (.tmp (by conv => { lhs; whnf }) .nil) (fun w hw => ?_)
                                refine ⟨_, rfl, ?_, hw.done⟩
                                first | (simp_all [NdValid]; done) | exact c3_false c41 (k := k) (by omega) (by assumption) | exact c3_true c41 (h16.1 (by simpa using g19)) (show 0 ≤ main by omega) (show 0 ≤ prev by omega) (show 0 ≤ status by omega) eo (fun i hi => hx.2 i (by omega)) | (simp_all [NdValid]; omega)
                            · try (exact absurd c86 (by decide))
                              all_goals (revert c86; (first | refine cv2 ?_ | refine cv4 ?_ | refine cv6 ?_ | refine cv8 ?_ | refine cva ?_ | refine cvc ?_ | refine cve ?_ | skip); intro c86)
                              all_goals (refine k_seq ?_)
                              all_goals refine k_region ?_
                              all_goals refine j_eql ?_
                              all_goals refine j_assignL (fun _ => ?_)
                              all_goals refine l_nil ?_
                              all_goals
                                refine k_cond (by exact rfl) (fun c91 => ?_) (fun c91 => ?_)
                                · try (exact absurd c91 (by decide))
                                  all_goals (revert c91; (first | refine cv1 ?_ | refine cv3 ?_ | refine cv5 ?_ | refine cv7 ?_ | refine cv9 ?_ | refine cvb ?_ | refine cvd ?_ | skip); intro c91)
                                  all_goals (refine k_seq ?_)
                                  all_goals refine k_region ?_
                                  all_goals refine j_fieldAddr ?_
                                  all_goals refine j_load ?_
                                  all_goals refine j_geq ?_
                                  all_goals refine j_move ?_
                                  all_goals (first | refine j_un ?_ | (refine j_yes ?_; refine j_fieldAddr ?_) | (refine l_case (g := 96) (by exact rfl) (fun g96 => ?_) (fun g96 => ?_) <;> (revert g96; (first | refine cv1 ?_ | refine cv2 ?_ | refine cvb ?_ | refine cvc ?_ | refine cv9 ?_ | refine cva ?_ | refine cv7 ?_ | refine cv8 ?_ | refine cvd ?_ | refine cve ?_ | skip); intro g96) <;> (first | refine j_un ?_ | (refine j_yes ?_; refine j_fieldAddr ?_))))
                                  all_goals (first | refine j_un ?_ | (refine j_yes ?_; refine j_load ?_))
                                  all_goals (first | refine j_un ?_ | (refine j_yes ?_; refine j_geq ?_))
                                  all_goals refine j_pick ?_
                                  all_goals refine j_move ?_
                                  all_goals (first | refine j_un ?_ | (refine j_yes ?_; refine j_fieldAddr ?_) | (refine l_case (g := 101) (by exact rfl) (fun g101 => ?_) (fun g101 => ?_) <;> (revert g101; (first | refine cv1 ?_ | refine cv2 ?_ | refine cvb ?_ | refine cvc ?_ | refine cv9 ?_ | refine cva ?_ | refine cv7 ?_ | refine cv8 ?_ | refine cvd ?_ | refine cve ?_ | skip); intro g101) <;> (first | refine j_un ?_ | (refine j_yes ?_; refine j_fieldAddr ?_))))
                                  all_goals (first | refine j_un ?_ | (refine j_yes ?_; refine j_load ?_))
                                  all_goals (first | refine j_un ?_ | (refine j_yes ?_; refine j_geq ?_))
                                  all_goals refine j_pick ?_
                                  all_goals refine j_assignL (fun _ => ?_)
                                  all_goals refine l_nil ?_
                                  all_goals
                                    refine k_retvF Try.results74 (.tmp (by conv => { lhs; whnf }) .nil) (fun w hw => ?_)
                                    refine ⟨_, rfl, ?_, hw.done⟩
                                    first | (simp_all [NdValid]; done) | exact c3_false c41 (k := k) (by omega) (by assumption) | exact c3_true c41 (h16.1 (by simpa using g19)) (show 0 ≤ main by omega) (show 0 ≤ prev by omega) (show 0 ≤ status by omega) eo (fun i hi => hx.2 i (by omega)) | (simp_all [NdValid]; omega)
                                · try (exact absurd c91 (by decide))
                                  all_goals (revert c91; (first | refine cv2 ?_ | refine cv4 ?_ | refine cv6 ?_ | refine cv8 ?_ | refine cva ?_ | refine cvc ?_ | refine cve ?_ | skip); intro c91)
                                  all_goals (refine k_skip ?_)
                                  all_goals (refine k_blk ?_)
                                  all_goals (refine k_seq ?_)
                                  all_goals refine k_region ?_
                                  all_goals refine j_assignL (fun _ => ?_)
                                  all_goals refine l_nil ?_
                                  all_goals
                                    refine k_retvF Try.results74 (.tmp (by conv => { lhs; whnf }) .nil) (fun w hw => ?_)
                                    refine ⟨_, rfl, ?_, hw.done⟩
                                    first | (simp_all [NdValid]; done) | exact c3_false c41 (k := k) (by omega) (by assumption) | exact c3_true c41 (h16.1 (by simpa using g19)) (show 0 ≤ main by omega) (show 0 ≤ prev by omega) (show 0 ≤ status by omega) eo (fun i hi => hx.2 i (by omega)) | (simp_all [NdValid]; omega)
                · try (exact absurd c63 (by decide))
                  all_goals (revert c63; (first | refine cv2 ?_ | refine cv4 ?_ | refine cv6 ?_ | refine cv8 ?_ | refine cva ?_ | refine cvc ?_ | refine cve ?_ | skip); intro c63)
                  all_goals refine k_region ?_
                  all_goals refine j_eql ?_
                  all_goals refine j_assignL (fun _ => ?_)
                  all_goals refine l_nil ?_
                  all_goals
                    refine k_cond (by exact rfl) (fun c63 => ?_) (fun c63 => ?_)
                    · try (exact absurd c63 (by decide))
                      all_goals (revert c63; (first | refine cv1 ?_ | refine cv3 ?_ | refine cv5 ?_ | refine cv7 ?_ | refine cv9 ?_ | refine cvb ?_ | refine cvd ?_ | skip); intro c63)
                      all_goals (refine k_seq ?_)
                      all_goals refine k_region ?_
                      all_goals refine j_fieldAddr ?_
                      all_goals refine j_load ?_
                      all_goals refine j_lenStr ?_
                      all_goals refine j_leq ?_
                      all_goals refine j_assignL (fun _ => ?_)
                      all_goals refine l_nil ?_
                      all_goals
                        refine k_retvF Try.results74 (.tmp (by conv => { lhs; whnf }) .nil) (fun w hw => ?_)
                        refine ⟨_, rfl, ?_, hw.done⟩
                        first | (simp_all [NdValid]; done) | exact c3_false c41 (k := k) (by omega) (by assumption) | exact c3_true c41 (h16.1 (by simpa using g19)) (show 0 ≤ main by omega) (show 0 ≤ prev by omega) (show 0 ≤ status by omega) eo (fun i hi => hx.2 i (by omega)) | (simp_all [NdValid]; omega)
                    · try (exact absurd c63 (by decide))
                      all_goals (revert c63; (first | refine cv2 ?_ | refine cv4 ?_ | refine cv6 ?_ | refine cv8 ?_ | refine cva ?_ | refine cvc ?_ | refine cve ?_ | skip); intro c63)
                      all_goals (refine k_seq ?_)
                      all_goals refine k_region ?_
                      all_goals refine j_eql ?_
                      all_goals refine j_assignL (fun _ => ?_)
                      all_goals refine l_nil ?_
                      all_goals
                        refine k_cond (by exact rfl) (fun c70 => ?_) (fun c70 => ?_)
                        · try (exact absurd c70 (by decide))
                          all_goals (revert c70; (first | refine cv1 ?_ | refine cv3 ?_ | refine cv5 ?_ | refine cv7 ?_ | refine cv9 ?_ | refine cvb ?_ | refine cvd ?_ | skip); intro c70)
                          all_goals (refine k_seq ?_)
                          all_goals refine k_region ?_
                          all_goals refine j_fieldAddr ?_
                          all_goals refine j_load ?_
                          all_goals refine j_len ?_
                          all_goals refine j_geq ?_
                          all_goals refine j_move ?_
                          all_goals (first | refine j_un ?_ | (refine j_yes ?_; refine j_fieldAddr ?_) | (refine l_case (g := 76) (by exact rfl) (fun g76 => ?_) (fun g76 => ?_) <;> (revert g76; (first | refine cv1 ?_ | refine cv2 ?_ | refine cvb ?_ | refine cvc ?_ | refine cv9 ?_ | refine cva ?_ | refine cv7 ?_ | refine cv8 ?_ | refine cvd ?_ | refine cve ?_ | skip); intro g76) <;> (first | refine j_un ?_ | (refine j_yes ?_; refine j_fieldAddr ?_))))
                          all_goals (first | refine j_un ?_ | (refine j_yes ?_; refine j_load ?_))
                          all_goals (first | refine j_un ?_ | (refine j_yes ?_; (refine j_own (c0 (V := .bool) (hc := fun w1 hw => refPrValid_c (hw.cl (by first | exact .new .head | exact .new (.tail .head) | exact .new (.tail (.tail .head)) | exact .new (.tail (.tail (.tail .head))) | exact .new (.tail (.tail (.tail (.tail .head)))) | exact .new (.tail (.tail (.tail (.tail (.tail .head))))) | exact .new (.tail (.tail (.tail (.tail (.tail (.tail .head)))))) | exact .new (.tail (.tail (.tail (.tail (.tail (.tail (.tail .head))))))) | exact .new (.tail (.tail (.tail (.tail (.tail (.tail (.tail (.tail .head)))))))) | exact .new (.tail (.tail (.tail (.tail (.tail (.tail (.tail (.tail (.tail .head))))))))) | exact .old .head | exact .old (.tail .head) | exact .old (.tail (.tail .head)) | exact .old (.tail (.tail (.tail .head))) | exact .old (.tail (.tail (.tail (.tail .head)))) | exact .old (.tail (.tail (.tail (.tail (.tail .head))))) | exact .own .head | exact .own (.tail .head) | exact .own (.tail (.tail .head)) | exact .own (.tail (.tail (.tail .head))) | exact .own (.tail (.tail (.tail (.tail .head)))) | exact .own (.tail (.tail (.tail (.tail (.tail .head))))) | exact .own (.tail (.tail (.tail (.tail (.tail (.tail .head)))))) | exact .own (.tail (.tail (.tail (.tail (.tail (.tail (.tail .head))))))))) hr.prS)) (fun x79 => ?_); try (refine l_fact (fun h79 => ?_)))))
                          all_goals refine j_pick ?_
                          all_goals refine j_move ?_
                          all_goals (first | refine j_un ?_ | (refine j_yes ?_; refine j_fieldAddr ?_) | (refine l_case (g := 81) (by exact rfl) (fun g81 => ?_) (fun g81 => ?_) <;> (revert g81; (first | refine cv1 ?_ | refine cv2 ?_ | refine cvb ?_ | refine cvc ?_ | refine cv9 ?_ | refine cva ?_ | refine cv7 ?_ | refine cv8 ?_ | refine cvd ?_ | refine cve ?_ | skip); intro g81) <;> (first | refine j_un ?_ | (refine j_yes ?_; refine j_fieldAddr ?_))))
                          all_goals (first | refine j_un ?_ | (refine j_yes ?_; refine j_load ?_))
                          all_goals (first | refine j_un ?_ | (refine j_yes ?_; (refine j_own (c0 (V := .bool) (hc := fun w1 hw => keys_c (hw.cl (by first | exact .new .head | exact .new (.tail .head) | exact .new (.tail (.tail .head)) | exact .new (.tail (.tail (.tail .head))) | exact .new (.tail (.tail (.tail (.tail .head)))) | exact .new (.tail (.tail (.tail (.tail (.tail .head))))) | exact .new (.tail (.tail (.tail (.tail (.tail (.tail .head)))))) | exact .new (.tail (.tail (.tail (.tail (.tail (.tail (.tail .head))))))) | exact .new (.tail (.tail (.tail (.tail (.tail (.tail (.tail (.tail .head)))))))) | exact .new (.tail (.tail (.tail (.tail (.tail (.tail (.tail (.tail (.tail .head))))))))) | exact .old .head | exact .old (.tail .head) | exact .old (.tail (.tail .head)) | exact .old (.tail (.tail (.tail .head))) | exact .old (.tail (.tail (.tail (.tail .head)))) | exact .old (.tail (.tail (.tail (.tail (.tail .head))))) | exact .own .head | exact .own (.tail .head) | exact .own (.tail (.tail .head)) | exact .own (.tail (.tail (.tail .head))) | exact .own (.tail (.tail (.tail (.tail .head)))) | exact .own (.tail (.tail (.tail (.tail (.tail .head))))) | exact .own (.tail (.tail (.tail (.tail (.tail (.tail .head)))))) | exact .own (.tail (.tail (.tail (.tail (.tail (.tail (.tail .head))))))))) hr.prS)) (fun x84 => ?_); try (refine l_fact (fun h84 => ?_)))))
                          all_goals refine j_pick ?_
                          all_goals refine j_assignL (fun _ => ?_)
                          all_goals refine l_nil ?_
                          all_goals
                            refine k_retvF Try.results74 (.tmp (by conv => { lhs; whnf }) .nil) (fun w hw => ?_)
                            refine ⟨_, rfl, ?_, hw.done⟩
                            first | (simp_all [NdValid]; done) | exact c3_false c41 (k := k) (by omega) (by assumption) | exact c3_true c41 (h16.1 (by simpa using g19)) (show 0 ≤ main by omega) (show 0 ≤ prev by omega) (show 0 ≤ status by omega) eo (fun i hi => hx.2 i (by omega)) | (simp_all [NdValid]; omega)
                        · try (exact absurd c70 (by decide))
                          all_goals (revert c70; (first | refine cv2 ?_ | refine cv4 ?_ | refine cv6 ?_ | refine cv8 ?_ | refine cva ?_ | refine cvc ?_ | refine cve ?_ | skip); intro c70)
                          all_goals (refine k_seq ?_)
                          all_goals refine k_region ?_
                          all_goals refine j_eql ?_
                          all_goals refine j_assignL (fun _ => ?_)
                          all_goals refine l_nil ?_
                          all_goals
                            refine k_cond (by exact rfl) (fun c86 => ?_) (fun c86 => ?_)
                            · try (exact absurd c86 (by decide))
                              all_goals (revert c86; (first | refine cv1 ?_ | refine cv3 ?_ | refine cv5 ?_ | refine cv7 ?_ | refine cv9 ?_ | refine cvb ?_ | refine cvd ?_ | skip); intro c86)
                              all_goals (refine k_seq ?_)
                              all_goals refine k_region ?_
                              all_goals refine j_fieldAddr ?_
                              all_goals refine j_load ?_
                              all_goals refine j_geq ?_
                              all_goals refine j_assignL (fun _ => ?_)
                              all_goals refine l_nil ?_
                              all_goals
                                refine k_retvF Try.results74 (.tmp (by conv => { lhs; whnf }) .nil) (fun w hw => ?_)
                                refine ⟨_, rfl, ?_, hw.done⟩
                                first | (simp_all [NdValid]; done) | exact c3_false c41 (k := k) (by omega) (by assumption) | exact c3_true c41 (h16.1 (by simpa using g19)) (show 0 ≤ main by omega) (show 0 ≤ prev by omega) (show 0 ≤ status by omega) eo (fun i hi => hx.2 i (by omega)) | (simp_all [NdValid]; omega)
                            · try (exact absurd c86 (by decide))
                              all_goals (revert c86; (first | refine cv2 ?_ | refine cv4 ?_ | refine cv6 ?_ | refine cv8 ?_ | refine cva ?_ | refine cvc ?_ | refine cve ?_ | skip); intro c86)
                              all_goals (refine k_seq ?_)
                              all_goals refine k_region ?_
                              all_goals refine j_eql ?_
                              all_goals refine j_assignL (fun _ => ?_)
                              all_goals refine l_nil ?_
                              all_goals
                                refine k_cond (by exact rfl) (fun c91 => ?_) (fun c91 => ?_)
                                · try (exact absurd c91 (by decide))
                                  all_goals (revert c91; (first | refine cv1 ?_ | refine cv3 ?_ | refine cv5 ?_ | refine cv7 ?_ | refine cv9 ?_ | refine cvb ?_ | refine cvd ?_ | skip); intro c91)
                                  all_goals (refine k_seq ?_)
                                  all_goals refine k_region ?_
                                  all_goals refine j_fieldAddr ?_
                                  all_goals refine j_load ?_
                                  all_goals refine j_geq ?_
                                  all_goals refine j_move ?_
                                  all_goals (first | refine j_un ?_ | (refine j_yes ?_; refine j_fieldAddr ?_) | (refine l_case (g := 96) (by exact rfl) (fun g96 => ?_) (fun g96 => ?_) <;> (revert g96; (first | refine cv1 ?_ | refine cv2 ?_ | refine cvb ?_ | refine cvc ?_ | refine cv9 ?_ | refine cva ?_ | refine cv7 ?_ | refine cv8 ?_ | refine cvd ?_ | refine cve ?_ | skip); intro g96) <;> (first | refine j_un ?_ | (refine j_yes ?_; refine j_fieldAddr ?_))))
                                  all_goals (first | refine j_un ?_ | (refine j_yes ?_; refine j_load ?_))
                                  all_goals (first | refine j_un ?_ | (refine j_yes ?_; refine j_geq ?_))
                                  all_goals refine j_pick ?_
                                  all_goals refine j_move ?_
                                  all_goals (first | refine j_un ?_ | (refine j_yes ?_; refine j_fieldAddr ?_) | (refine l_case (g := 101) (by exact rfl) (fun g101 => ?_) (fun g101 => ?_) <;> (revert g101; (first | refine cv1 ?_ | refine cv2 ?_ | refine cvb ?_ | refine cvc ?_ | refine cv9 ?_ | refine cva ?_ | refine cv7 ?_ | refine cv8 ?_ | refine cvd ?_ | refine cve ?_ | skip); intro g101) <;> (first | refine j_un ?_ | (refine j_yes ?_; refine j_fieldAddr ?_))))
                                  all_goals (first | refine j_un ?_ | (refine j_yes ?_; refine j_load ?_))
                                  all_goals (first | refine j_un ?_ | (refine j_yes ?_; refine j_geq ?_))
                                  all_goals refine j_pick ?_
                                  all_goals refine j_assignL (fun _ => ?_)
                                  all_goals refine l_nil ?_
                                  all_goals
                                    refine k_retvF Try.results74 (.tmp (by conv => { lhs; whnf }) .nil) (fun w hw => ?_)
                                    refine ⟨_, rfl, ?_, hw.done⟩
                                    first | (simp_all [NdValid]; done) | exact c3_false c41 (k := k) (by omega) (by assumption) | exact c3_true c41 (h16.1 (by simpa using g19)) (show 0 ≤ main by omega) (show 0 ≤ prev by omega) (show 0 ≤ status by omega) eo (fun i hi => hx.2 i (by omega)) | (simp_all [NdValid]; omega)
                                · try (exact absurd c91 (by decide))
                                  all_goals (revert c91; (first | refine cv2 ?_ | refine cv4 ?_ | refine cv6 ?_ | refine cv8 ?_ | refine cva ?_ | refine cvc ?_ | refine cve ?_ | skip); intro c91)
                                  all_goals (refine k_skip ?_)
                                  all_goals (refine k_blk ?_)
                                  all_goals (refine k_seq ?_)
                                  all_goals refine k_region ?_
                                  all_goals refine j_assignL (fun _ => ?_)
                                  all_goals refine l_nil ?_
                                  all_goals
                                    refine k_retvF Try.results74 (.tmp (by conv => { lhs; whnf }) .nil) (fun w hw => ?_)
                                    refine ⟨_, rfl, ?_, hw.done⟩
                                    first | (simp_all [NdValid]; done) | exact c3_false c41 (k := k) (by omega) (by assumption) | exact c3_true c41 (h16.1 (by simpa using g19)) (show 0 ≤ main by omega) (show 0 ≤ prev by omega) (show 0 ≤ status by omega) eo (fun i hi => hx.2 i (by omega)) | (simp_all [NdValid]; omega)
end Go.Proofs.Ytmogngagpphnhaa
