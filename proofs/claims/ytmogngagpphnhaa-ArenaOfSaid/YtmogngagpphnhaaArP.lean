/- Proper states: the walk through the reference's check. -/
import Derived.Test.YtmogngagpphnhaaArM
import Derived.Test.YtmogngagpphnhaaNode8
set_option linter.unusedSimpArgs false
set_option linter.unusedVariables false
namespace Go.Ct
theorem cellK_some {n : Nd} : (cellK n).isSome = true ↔ n.kind = 2 ∨ n.kind = 3 ∨ n.kind = 5 ∨ n.kind = 6 ∨ n.kind = 8 := by
  unfold cellK
  split
  · simp_all
  · split
    · simp_all; omega
    · split
      · simp_all
      · simp_all
def sumK (n : Nd) : Int := Go.IntKind.i64.wrap (Go.IntKind.i64.wrap (n.main + n.prev) + n.status)
theorem sumK_eq {n : Nd} {xs : List Int} {ys : List Pr} (h : NdValid n xs ys) (hr : NdR n) {c : Int} (hc : cellK n = some c) : sumK n = c := by
  obtain ⟨e, h1, h2, h3, _⟩ := h
  have e' := ndEq_iff.1 e
  obtain ⟨_, m1, m2, m3⟩ := hr
  simp only [Nd.c, Nv.mk.injEq] at e'
  obtain ⟨_, _, em, _, _, _, _, _, _, ep, _, _, _, es⟩ := e'
  unfold cellK at hc
  unfold sumK
  split at hc
  · rename_i hk
    simp only [Option.some.injEq] at hc
    have a : n.prev = 0 := by rw [ep]; simp [Nd.own, hk, Nd.zero]
    have b : n.status = 0 := by rw [es]; simp [Nd.own, hk, Nd.zero]
    rw [wrap_i64 (i := n.main + n.prev) (by omega) (by omega), wrap_i64 (by omega) (by omega)]
    omega
  · split at hc
    · rename_i hk
      simp only [Option.some.injEq] at hc
      have a : n.main = 0 := by rw [em]; rcases hk with hk | hk | hk <;> simp [Nd.own, hk, Nd.zero]
      have b : n.status = 0 := by rw [es]; rcases hk with hk | hk | hk <;> simp [Nd.own, hk, Nd.zero]
      rw [wrap_i64 (i := n.main + n.prev) (by omega) (by omega), wrap_i64 (by omega) (by omega)]
      omega
    · split at hc
      · rename_i hk
        simp only [Option.some.injEq] at hc
        have a : n.main = 0 := by rw [em]; simp [Nd.own, hk, Nd.zero]
        have b : n.prev = 0 := by rw [ep]; simp [Nd.own, hk, Nd.zero]
        rw [wrap_i64 (i := n.main + n.prev) (by omega) (by omega), wrap_i64 (by omega) (by omega)]
        omega
      · cases hc
end Go.Ct
namespace Go.Proofs.Ytmogngagpphnhaa
open Go.RowKit Go.Ct
theorem known_c {xs : List Int} {N c : Nat} {a : Option Addr} {w : World} (ha : Cl w a (refsC xs)) (hx : xs.length < 4611686018427387904) :
    Calls Try.prog 73 #[.int .i64 ((N : Nat) : Int), .slice a xs.length c] w fun e w' => ∃ r : Bool, e = .returned (.bool r) ∧ (r = true ↔ ∀ i, i < xs.length → Ins (xs.getD i 0) N) ∧ St w [] [] w' := by
  refine enter Try.func73 Try.ntmps73 rfl rfl (SF.s1 ha) ?_
  simp only [mkS]
  all_goals (refine k_seq ?_)
  all_goals refine k_region ?_
  all_goals refine j_assignL (fun _ => ?_)
  all_goals refine l_nil ?_
  all_goals (refine k_seq ?_)
  all_goals (refine k_seq ?_)
  all_goals refine k_region ?_
  all_goals refine j_assignL (fun _ => ?_)
  all_goals refine l_nil ?_
  all_goals (refine k_block ?_)
  all_goals
    refine k_loopC [4, 5, 6, 7, 8, 9, 10, 11, 12, 13, 14, 15, 16, 17, 18, 19, 20, 21, 22, 23, 24] (fun k => [(5, .int .i64 ((k : Nat) : Int))]) (fun k => k ≤ xs.length ∧ ∀ i, i < k → Ins (xs.getD i 0) N) (fun k => xs.length - k) (0) (⟨Nat.zero_le _, fun i hi => absurd hi (Nat.not_lt_zero i)⟩) ?_ (fun k f hx => ?_)
    · repeat (first | exact knows_nil _ | refine knows_cons (by first | exact rfl | (conv => { lhs; whnf }; simp; done)) ?_)
    dsimp only [mkU, List.map, List.cons_append, List.nil_append]
    all_goals (refine k_seq ?_)
    all_goals (refine k_seq ?_)
    all_goals refine k_region ?_
    all_goals refine j_move ?_
    all_goals refine j_move ?_
    all_goals refine j_len ?_
    all_goals refine j_lss ?_
    all_goals refine l_nil ?_
    all_goals
      refine k_cond (by exact rfl) (fun c9 => ?_) (fun c9 => ?_)
      · try (exact absurd c9 (by decide))
        all_goals (revert c9; (first | refine cv1 ?_ | refine cv3 ?_ | refine cv5 ?_ | refine cv7 ?_ | refine cv9 ?_ | refine cvb ?_ | refine cvd ?_ | skip); intro c9)
        all_goals (refine k_skip ?_)
        all_goals (refine k_seq ?_)
        all_goals (refine k_block ?_)
        all_goals (refine k_seq ?_)
        all_goals refine k_region ?_
        all_goals refine j_move ?_
        all_goals refine j_move ?_
        all_goals refine j_indexAddr ?_
        all_goals refine j_load ?_
        all_goals refine j_lss ?_
        all_goals refine j_move ?_
        all_goals (first | refine j_un ?_ | (refine j_yes ?_; refine j_move ?_) | (refine l_case (g := 17) (by exact rfl) (fun g17 => ?_) (fun g17 => ?_) <;> (revert g17; (first | refine cv1 ?_ | refine cv2 ?_ | refine cvb ?_ | refine cvc ?_ | refine cv9 ?_ | refine cva ?_ | refine cv7 ?_ | refine cv8 ?_ | refine cvd ?_ | refine cve ?_ | skip); intro g17) <;> (first | refine j_un ?_ | (refine j_yes ?_; refine j_move ?_))))
        all_goals (first | refine j_un ?_ | (refine j_yes ?_; refine j_move ?_))
        all_goals (first | refine j_un ?_ | (refine j_yes ?_; refine j_indexAddr ?_))
        all_goals (first | refine j_un ?_ | (refine j_yes ?_; refine j_load ?_))
        all_goals (first | refine j_un ?_ | (refine j_yes ?_; refine j_move ?_))
        all_goals (first | refine j_un ?_ | (refine j_yes ?_; refine j_gtr ?_))
        all_goals refine j_pick ?_
        all_goals refine l_nil ?_
        all_goals
          refine k_cond (by exact rfl) (fun c24 => ?_) (fun c24 => ?_)
          · try (exact absurd c24 (by decide))
            all_goals (revert c24; (first | refine cv1 ?_ | refine cv3 ?_ | refine cv5 ?_ | refine cv7 ?_ | refine cv9 ?_ | refine cvb ?_ | refine cvd ?_ | skip); intro c24)
            all_goals (refine k_seq ?_)
            all_goals refine k_region ?_
            all_goals refine j_assignL (fun _ => ?_)
            all_goals refine l_nil ?_
            all_goals
              refine k_retvF Try.results73 (.tmp (by conv => { lhs; whnf }) .nil) (fun w hw => ?_)
              exact ⟨false, rfl, ⟨(fun h => nomatch h), fun h => by have h1 := h k (by omega); obtain ⟨h2, h3⟩ := h1; exfalso; omega⟩, hw.done⟩
          · try (exact absurd c24 (by decide))
            all_goals (revert c24; (first | refine cv2 ?_ | refine cv4 ?_ | refine cv6 ?_ | refine cv8 ?_ | refine cva ?_ | refine cvc ?_ | refine cve ?_ | skip); intro c24)
            all_goals (refine k_skip ?_)
            all_goals (refine k_blk ?_)
            all_goals refine k_region ?_
            all_goals refine j_move ?_
            all_goals refine j_inc ?_
            all_goals refine j_assignL (fun _ => ?_)
            all_goals refine l_nil ?_
            all_goals
              refine k_roundC (k + 1) ?_ ?_ ?_
              · first | omega | (simp only []; omega)
              · repeat' (first | exact knows_nil _ | refine knows_cons ?_ ?_)
                all_goals (first | exact rfl | (conv => { lhs; whnf }; simp; done) | (conv => { lhs; whnf }; congr 1; omega))
              · exact ⟨by omega, fun i hi => by rcases Nat.lt_succ_iff_lt_or_eq.1 hi with h | rfl; exact hx.2 i h; exact ⟨by omega, by omega⟩⟩
      · try (exact absurd c9 (by decide))
        all_goals (revert c9; (first | refine cv2 ?_ | refine cv4 ?_ | refine cv6 ?_ | refine cv8 ?_ | refine cva ?_ | refine cvc ?_ | refine cve ?_ | skip); intro c9)
        all_goals (refine k_exit rfl ?_)
        all_goals (refine k_seq ?_)
        all_goals refine k_region ?_
        all_goals refine j_assignL (fun _ => ?_)
        all_goals refine l_nil ?_
        all_goals
          refine k_retvF Try.results73 (.tmp (by conv => { lhs; whnf }) .nil) (fun w hw => ?_)
          exact ⟨true, rfl, ⟨fun _ i hi => hx.2 i (by omega), fun _ => rfl⟩, hw.done⟩
theorem memHas_c (n : Nd) (w : World) : Calls Try.prog 75 #[.int .i64 n.kind] w fun e w' => e = .returned (.bool (cellK n).isSome) ∧ St w [] [] w' := by
  refine enter Try.func75 Try.ntmps75 rfl rfl (SF.s0 w) ?_
  simp only [mkS]
  all_goals (refine k_seq ?_)
  all_goals refine k_region ?_
  all_goals refine j_assignL (fun _ => ?_)
  all_goals refine l_nil ?_
  all_goals (refine k_seq ?_)
  all_goals refine k_region ?_
  all_goals refine j_move ?_
  all_goals refine j_eql ?_
  all_goals refine j_move ?_
  all_goals (first | refine j_un ?_ | (refine j_yes ?_; refine j_move ?_) | (refine l_case (g := 5) (by exact rfl) (fun g5 => ?_) (fun g5 => ?_) <;> (revert g5; (first | refine cv1 ?_ | refine cv2 ?_ | refine cvb ?_ | refine cvc ?_ | refine cv9 ?_ | refine cva ?_ | refine cv7 ?_ | refine cv8 ?_ | refine cvd ?_ | refine cve ?_ | skip); intro g5) <;> (first | refine j_un ?_ | (refine j_yes ?_; refine j_move ?_))))
  all_goals (first | refine j_un ?_ | (refine j_yes ?_; refine j_eql ?_))
  all_goals refine j_pick ?_
  all_goals refine j_move ?_
  all_goals (first | refine j_un ?_ | (refine j_yes ?_; refine j_move ?_) | (refine l_case (g := 9) (by exact rfl) (fun g9 => ?_) (fun g9 => ?_) <;> (revert g9; (first | refine cv1 ?_ | refine cv2 ?_ | refine cvb ?_ | refine cvc ?_ | refine cv9 ?_ | refine cva ?_ | refine cv7 ?_ | refine cv8 ?_ | refine cvd ?_ | refine cve ?_ | skip); intro g9) <;> (first | refine j_un ?_ | (refine j_yes ?_; refine j_move ?_))))
  all_goals (first | refine j_un ?_ | (refine j_yes ?_; refine j_eql ?_))
  all_goals refine j_pick ?_
  all_goals refine j_move ?_
  all_goals (first | refine j_un ?_ | (refine j_yes ?_; refine j_move ?_) | (refine l_case (g := 13) (by exact rfl) (fun g13 => ?_) (fun g13 => ?_) <;> (revert g13; (first | refine cv1 ?_ | refine cv2 ?_ | refine cvb ?_ | refine cvc ?_ | refine cv9 ?_ | refine cva ?_ | refine cv7 ?_ | refine cv8 ?_ | refine cvd ?_ | refine cve ?_ | skip); intro g13) <;> (first | refine j_un ?_ | (refine j_yes ?_; refine j_move ?_))))
  all_goals (first | refine j_un ?_ | (refine j_yes ?_; refine j_eql ?_))
  all_goals refine j_pick ?_
  all_goals refine j_move ?_
  all_goals (first | refine j_un ?_ | (refine j_yes ?_; refine j_move ?_) | (refine l_case (g := 17) (by exact rfl) (fun g17 => ?_) (fun g17 => ?_) <;> (revert g17; (first | refine cv1 ?_ | refine cv2 ?_ | refine cvb ?_ | refine cvc ?_ | refine cv9 ?_ | refine cva ?_ | refine cv7 ?_ | refine cv8 ?_ | refine cvd ?_ | refine cve ?_ | skip); intro g17) <;> (first | refine j_un ?_ | (refine j_yes ?_; refine j_move ?_))))
  all_goals (first | refine j_un ?_ | (refine j_yes ?_; refine j_eql ?_))
  all_goals refine j_pick ?_
  all_goals refine j_assignL (fun _ => ?_)
  all_goals refine l_nil ?_
  all_goals
    refine k_retvF Try.results75 (.tmp (by conv => { lhs; whnf }) .nil) (fun w hw => ?_)
    refine ⟨?_, hw.done⟩
    first | (rw [cellK_some.2 (by omega)]; rfl) | (rw [show (cellK n).isSome = (n.kind == 8) from by rw [Bool.eq_iff_iff, beq_iff_eq, cellK_some]; omega]; rfl)
theorem cellSum_c (n : Nd) (w : World) : Calls Try.prog 76 #[n.v] w fun e w' => e = .returned (.int .i64 (sumK n)) ∧ St w [] [] w' := by
  refine enter Try.func76 Try.ntmps76 rfl rfl (SF.s0 w) ?_
  simp only [mkS]
  simp only [Nd.v, Nd.cells]
  all_goals (refine k_seq ?_)
  all_goals refine k_region ?_
  all_goals refine j_box (fun x1 => ?_)
  all_goals refine j_assignL (fun _ => ?_)
  all_goals refine l_nil ?_
  all_goals (refine k_seq ?_)
  all_goals refine k_region ?_
  all_goals refine j_fieldAddr ?_
  all_goals refine j_load ?_
  all_goals refine j_fieldAddr ?_
  all_goals refine j_load ?_
  all_goals refine l_quiet (o_add (by exact rfl) (by exact rfl)) rfl ?_
  all_goals refine j_fieldAddr ?_
  all_goals refine j_load ?_
  all_goals refine l_quiet (o_add (by exact rfl) (by exact rfl)) rfl ?_
  all_goals refine j_assignL (fun _ => ?_)
  all_goals refine l_nil ?_
  all_goals
    refine k_retvF Try.results76 (.tmp (by conv => { lhs; whnf }) .nil) (fun w hw => ?_)
    exact ⟨rfl, hw.done⟩
set_option maxRecDepth 100000 in
theorem refProper_c {L : List NdV} {cs : List Int} {gen : Int} {pn pc : Option Addr} {cn cc : Nat} {w : World} (h : StAt w L cs pn pc) (hR : Rngs L) (hL : L.length ≤ 274877906944) (hC : cs.length ≤ 274877906944) :
    Calls Try.prog 25 #[.agg ⟨[.slice pn L.length cn, .slice pc cs.length cc, .int .i64 gen]⟩] w fun e w' => ∃ r : Bool, e = .returned (.bool r) ∧ (r = true ↔ Proper L cs gen) ∧ St w [] [] w' := by
  refine enter Try.func25 Try.ntmps25 rfl rfl h.start ?_
  simp only [mkS]
  all_goals (refine k_seq ?_)
  all_goals refine k_region ?_
  all_goals refine j_box (fun x1 => ?_)
  all_goals refine j_assignL (fun _ => ?_)
  all_goals refine l_nil ?_
  all_goals (refine k_seq ?_)
  all_goals refine k_region ?_
  all_goals refine j_fieldAddr ?_
  all_goals refine j_load ?_
  all_goals refine j_len ?_
  all_goals refine j_assignL (fun _ => ?_)
  all_goals refine l_nil ?_
  all_goals (refine k_seq ?_)
  all_goals (refine k_seq ?_)
  all_goals refine k_region ?_
  all_goals refine j_move ?_
  all_goals refine j_lss ?_
  all_goals refine j_move ?_
  all_goals (first | refine j_un ?_ | (refine j_yes ?_; refine j_fieldAddr ?_) | (refine l_case (g := 13) (by exact rfl) (fun g13 => ?_) (fun g13 => ?_) <;> (revert g13; (first | refine cv1 ?_ | refine cv2 ?_ | refine cvb ?_ | refine cvc ?_ | refine cv9 ?_ | refine cva ?_ | refine cv7 ?_ | refine cv8 ?_ | refine cvd ?_ | refine cve ?_ | skip); intro g13) <;> (first | refine j_un ?_ | (refine j_yes ?_; refine j_fieldAddr ?_))))
  all_goals (first | refine j_un ?_ | (refine j_yes ?_; refine j_load ?_))
  all_goals (first | refine j_un ?_ | (refine j_yes ?_; refine l_quiet (o_indexV (k := 0) (by exact rfl) (by exact rfl) (by exact sl_of rfl) (by exact agg_of rfl) (by first | exact .new .head | exact .new (.tail .head) | exact .new (.tail (.tail .head)) | exact .new (.tail (.tail (.tail .head))) | exact .new (.tail (.tail (.tail (.tail .head)))) | exact .new (.tail (.tail (.tail (.tail (.tail .head))))) | exact .new (.tail (.tail (.tail (.tail (.tail (.tail .head)))))) | exact .new (.tail (.tail (.tail (.tail (.tail (.tail (.tail .head))))))) | exact .new (.tail (.tail (.tail (.tail (.tail (.tail (.tail (.tail .head)))))))) | exact .new (.tail (.tail (.tail (.tail (.tail (.tail (.tail (.tail (.tail .head))))))))) | exact .old .head | exact .old (.tail .head) | exact .old (.tail (.tail .head)) | exact .old (.tail (.tail (.tail .head))) | exact .old (.tail (.tail (.tail (.tail .head)))) | exact .old (.tail (.tail (.tail (.tail (.tail .head))))) | exact .own .head | exact .own (.tail .head) | exact .own (.tail (.tail .head)) | exact .own (.tail (.tail (.tail .head))) | exact .own (.tail (.tail (.tail (.tail .head)))) | exact .own (.tail (.tail (.tail (.tail (.tail .head))))) | exact .own (.tail (.tail (.tail (.tail (.tail (.tail .head)))))) | exact .own (.tail (.tail (.tail (.tail (.tail (.tail (.tail .head)))))))) (by omega) (by omega)) rfl ?_))
  all_goals (first | refine j_un ?_ | (refine j_yes ?_; refine j_fieldAddr ?_))
  all_goals (first | refine j_un ?_ | (refine j_yes ?_; refine l_quiet (o_loadV0 (q := 0) (by exact rfl) (by exact one_of rfl) (by first | exact .new .head | exact .new (.tail .head) | exact .new (.tail (.tail .head)) | exact .new (.tail (.tail (.tail .head))) | exact .new (.tail (.tail (.tail (.tail .head)))) | exact .new (.tail (.tail (.tail (.tail (.tail .head))))) | exact .new (.tail (.tail (.tail (.tail (.tail (.tail .head)))))) | exact .new (.tail (.tail (.tail (.tail (.tail (.tail (.tail .head))))))) | exact .new (.tail (.tail (.tail (.tail (.tail (.tail (.tail (.tail .head)))))))) | exact .new (.tail (.tail (.tail (.tail (.tail (.tail (.tail (.tail (.tail .head))))))))) | exact .old .head | exact .old (.tail .head) | exact .old (.tail (.tail .head)) | exact .old (.tail (.tail (.tail .head))) | exact .old (.tail (.tail (.tail (.tail .head)))) | exact .old (.tail (.tail (.tail (.tail (.tail .head))))) | exact .own .head | exact .own (.tail .head) | exact .own (.tail (.tail .head)) | exact .own (.tail (.tail (.tail .head))) | exact .own (.tail (.tail (.tail (.tail .head)))) | exact .own (.tail (.tail (.tail (.tail (.tail .head))))) | exact .own (.tail (.tail (.tail (.tail (.tail (.tail .head)))))) | exact .own (.tail (.tail (.tail (.tail (.tail (.tail (.tail .head)))))))) (by omega)) rfl ?_))
  all_goals (first | refine j_un ?_ | (refine j_yes ?_; refine j_neq ?_))
  all_goals refine j_pick ?_
  all_goals refine j_move ?_
  all_goals (first | refine j_un ?_ | (refine j_yes ?_; refine j_fieldAddr ?_) | (refine l_case (g := 21) (by exact rfl) (fun g21 => ?_) (fun g21 => ?_) <;> (revert g21; (first | refine cv1 ?_ | refine cv2 ?_ | refine cvb ?_ | refine cvc ?_ | refine cv9 ?_ | refine cva ?_ | refine cv7 ?_ | refine cv8 ?_ | refine cvd ?_ | refine cve ?_ | skip); intro g21) <;> (first | refine j_un ?_ | (refine j_yes ?_; refine j_fieldAddr ?_))))
  all_goals (first | refine j_un ?_ | (refine j_yes ?_; refine j_load ?_))
  all_goals (first | refine j_un ?_ | (refine j_yes ?_; refine l_quiet (o_indexV (k := 1) (by exact rfl) (by exact rfl) (by exact sl_of rfl) (by exact agg_of rfl) (by first | exact .new .head | exact .new (.tail .head) | exact .new (.tail (.tail .head)) | exact .new (.tail (.tail (.tail .head))) | exact .new (.tail (.tail (.tail (.tail .head)))) | exact .new (.tail (.tail (.tail (.tail (.tail .head))))) | exact .new (.tail (.tail (.tail (.tail (.tail (.tail .head)))))) | exact .new (.tail (.tail (.tail (.tail (.tail (.tail (.tail .head))))))) | exact .new (.tail (.tail (.tail (.tail (.tail (.tail (.tail (.tail .head)))))))) | exact .new (.tail (.tail (.tail (.tail (.tail (.tail (.tail (.tail (.tail .head))))))))) | exact .old .head | exact .old (.tail .head) | exact .old (.tail (.tail .head)) | exact .old (.tail (.tail (.tail .head))) | exact .old (.tail (.tail (.tail (.tail .head)))) | exact .old (.tail (.tail (.tail (.tail (.tail .head))))) | exact .own .head | exact .own (.tail .head) | exact .own (.tail (.tail .head)) | exact .own (.tail (.tail (.tail .head))) | exact .own (.tail (.tail (.tail (.tail .head)))) | exact .own (.tail (.tail (.tail (.tail (.tail .head))))) | exact .own (.tail (.tail (.tail (.tail (.tail (.tail .head)))))) | exact .own (.tail (.tail (.tail (.tail (.tail (.tail (.tail .head)))))))) (by omega) (by omega)) rfl ?_))
  all_goals (first | refine j_un ?_ | (refine j_yes ?_; refine j_fieldAddr ?_))
  all_goals (first | refine j_un ?_ | (refine j_yes ?_; refine l_quiet (o_loadV0 (q := 1) (by exact rfl) (by exact one_of rfl) (by first | exact .new .head | exact .new (.tail .head) | exact .new (.tail (.tail .head)) | exact .new (.tail (.tail (.tail .head))) | exact .new (.tail (.tail (.tail (.tail .head)))) | exact .new (.tail (.tail (.tail (.tail (.tail .head))))) | exact .new (.tail (.tail (.tail (.tail (.tail (.tail .head)))))) | exact .new (.tail (.tail (.tail (.tail (.tail (.tail (.tail .head))))))) | exact .new (.tail (.tail (.tail (.tail (.tail (.tail (.tail (.tail .head)))))))) | exact .new (.tail (.tail (.tail (.tail (.tail (.tail (.tail (.tail (.tail .head))))))))) | exact .old .head | exact .old (.tail .head) | exact .old (.tail (.tail .head)) | exact .old (.tail (.tail (.tail .head))) | exact .old (.tail (.tail (.tail (.tail .head)))) | exact .old (.tail (.tail (.tail (.tail (.tail .head))))) | exact .own .head | exact .own (.tail .head) | exact .own (.tail (.tail .head)) | exact .own (.tail (.tail (.tail .head))) | exact .own (.tail (.tail (.tail (.tail .head)))) | exact .own (.tail (.tail (.tail (.tail (.tail .head))))) | exact .own (.tail (.tail (.tail (.tail (.tail (.tail .head)))))) | exact .own (.tail (.tail (.tail (.tail (.tail (.tail (.tail .head)))))))) (by omega)) rfl ?_))
  all_goals (first | refine j_un ?_ | (refine j_yes ?_; refine j_neq ?_))
  all_goals refine j_pick ?_
  all_goals refine j_move ?_
  all_goals (first | refine j_un ?_ | (refine j_yes ?_; refine j_fieldAddr ?_) | (refine l_case (g := 29) (by exact rfl) (fun g29 => ?_) (fun g29 => ?_) <;> (revert g29; (first | refine cv1 ?_ | refine cv2 ?_ | refine cvb ?_ | refine cvc ?_ | refine cv9 ?_ | refine cva ?_ | refine cv7 ?_ | refine cv8 ?_ | refine cvd ?_ | refine cve ?_ | skip); intro g29) <;> (first | refine j_un ?_ | (refine j_yes ?_; refine j_fieldAddr ?_))))
  all_goals (first | refine j_un ?_ | (refine j_yes ?_; refine j_load ?_))
  all_goals (first | refine j_un ?_ | (refine j_yes ?_; refine j_lss ?_))
  all_goals refine j_pick ?_
  all_goals refine j_move ?_
  all_goals (first | refine j_un ?_ | (refine j_yes ?_; refine j_move ?_) | (refine l_case (g := 34) (by exact rfl) (fun g34 => ?_) (fun g34 => ?_) <;> (revert g34; (first | refine cv1 ?_ | refine cv2 ?_ | refine cvb ?_ | refine cvc ?_ | refine cv9 ?_ | refine cva ?_ | refine cv7 ?_ | refine cv8 ?_ | refine cvd ?_ | refine cve ?_ | skip); intro g34) <;> (first | refine j_un ?_ | (refine j_yes ?_; refine j_move ?_))))
  all_goals (first | refine j_un ?_ | (refine j_yes ?_; refine j_fieldAddr ?_))
  all_goals (first | refine j_un ?_ | (refine j_yes ?_; refine j_load ?_))
  all_goals (first | refine j_un ?_ | (refine j_yes ?_; (refine j_own (c0 (V := .bool) (hc := fun w1 hw => known_c (hw.cl (.old (.tail .head))) (by omega))) (fun x38 => ?_); try (refine l_fact (fun h38 => ?_)))))
  all_goals (first | refine j_un ?_ | (refine j_yes ?_; refine j_not ?_))
  all_goals refine j_pick ?_
  all_goals refine l_nil ?_
  all_goals
    refine k_cond (by exact rfl) (fun c40 => ?_) (fun c40 => ?_)
    · try (exact absurd c40 (by decide))
      all_goals (revert c40; (first | refine cv1 ?_ | refine cv3 ?_ | refine cv5 ?_ | refine cv7 ?_ | refine cv9 ?_ | refine cvb ?_ | refine cvd ?_ | skip); intro c40)
      all_goals (refine k_seq ?_)
      all_goals refine k_region ?_
      all_goals refine j_assignL (fun _ => ?_)
      all_goals refine l_nil ?_
      all_goals
        refine k_retvF Try.results25 (.tmp (by conv => { lhs; whnf }) .nil) (fun w hw => ?_)
        exact ⟨false, rfl, ⟨(fun h => nomatch h), fun hp => by
          have h1 := hp.two
          have h2 := hp.gen0
          have h3 := hp.m0
          have h4 := hp.m1
          first | omega | (have h5 := h38.2 hp.cells; simp_all)⟩, hw.done⟩
    · try (exact absurd c40 (by decide))
      all_goals (revert c40; (first | refine cv2 ?_ | refine cv4 ?_ | refine cv6 ?_ | refine cv8 ?_ | refine cva ?_ | refine cvc ?_ | refine cve ?_ | skip); intro c40)
      all_goals (refine k_skip ?_)
      all_goals (refine k_seq ?_)
      all_goals refine k_region ?_
      all_goals refine j_fieldAddr ?_
      all_goals refine j_load ?_
      all_goals refine j_len ?_
      all_goals refine j_makeSlice (fun x44 => ?_)
      all_goals refine j_assignL (fun _ => ?_)
      all_goals refine l_nil ?_
      all_goals (refine k_seq ?_)
      all_goals (refine k_seq ?_)
      all_goals refine k_region ?_
      all_goals refine j_assignL (fun _ => ?_)
      all_goals refine l_nil ?_
      all_goals (refine k_block ?_)
      all_goals
        refine k_loopF [2, 5, 6, 7, 45, 46, 47, 48, 49, 50, 51, 52, 53, 54, 55, 56, 57, 58, 59, 60, 61, 62, 63, 64, 65, 66, 67, 68, 69, 70, 71, 72, 73, 74, 75, 76, 77, 78, 79, 80, 81, 82, 83, 84, 85, 86, 87, 88, 89, 90, 91, 92, 93, 94, 95, 96, 97, 98, 99, 100, 101, 102, 103, 104, 105, 106, 107, 108, 109] (fun y : Nat × List Bool => [(5, .int .i64 ((y.1 : Nat) : Int))]) (fun y => y.1 ≤ L.length ∧ marks cs.length (L.take y.1) = some y.2 ∧ ∀ i, i < y.1 → NdOk gen L.length (L.getD i NdV.zero)) (fun _ => _) (fun _ => _) (fun y => [⟨some ⟨x44, 0, none⟩, boolsC y.2, cs.length, 4, 1⟩]) (fun y => L.length - y.1) ((0, List.replicate cs.length false)) (by decide) (fun _ => by exact rfl) ?_ (⟨Nat.zero_le _, rfl, fun i hi => absurd hi (Nat.not_lt_zero i)⟩) (fun w hw => hw.back) (fun y f hx => ?_)
        · repeat (first | exact knows_nil _ | refine knows_cons (by first | exact rfl | (conv => { lhs; whnf }; simp; done)) ?_)
        dsimp only [mkU, List.map, List.cons_append, List.nil_append]
        have hu := marks_len hx.2.1
        all_goals (refine k_seq ?_)
        all_goals (refine k_seq ?_)
        all_goals refine k_region ?_
        all_goals refine j_move ?_
        all_goals refine j_move ?_
        all_goals refine j_lss ?_
        all_goals refine l_nil ?_
        all_goals
          refine k_cond (by exact rfl) (fun c47 => ?_) (fun c47 => ?_)
          · try (exact absurd c47 (by decide))
            all_goals (revert c47; (first | refine cv1 ?_ | refine cv3 ?_ | refine cv5 ?_ | refine cv7 ?_ | refine cv9 ?_ | refine cvb ?_ | refine cvd ?_ | skip); intro c47)
            all_goals
              obtain ⟨⟨bm, hbm, hbm2⟩, hr1, hr2, hr3⟩ := hR _ (getD_mem (L := L) (k := y.1) (by omega))
            all_goals (refine k_skip ?_)
            all_goals (refine k_seq ?_)
            all_goals (refine k_block ?_)
            all_goals (refine k_seq ?_)
            all_goals refine k_region ?_
            all_goals refine j_fieldAddr ?_
            all_goals refine j_load ?_
            all_goals refine j_move ?_
            all_goals refine j_indexAddr ?_
            all_goals refine j_load ?_
            all_goals refine j_alloc (fun x6 => ?_)
            all_goals refine j_store (fun _ => ?_)
            all_goals refine l_nil ?_
            all_goals (refine k_seq ?_)
            all_goals (refine k_seq ?_)
            all_goals refine k_region ?_
            all_goals refine j_load ?_
            all_goals (refine j_own (c0 (V := .bool) (hc := fun w1 hw => refValid_c hbm hbm2 (hw.repA h.fit (by omega)))) (fun x56 => ?_); try (refine l_fact (fun h56 => ?_)))
            all_goals refine j_not ?_
            all_goals refine j_move ?_
            all_goals (first | refine j_un ?_ | (refine j_yes ?_; refine j_fieldAddr ?_) | (refine l_case (g := 58) (by exact rfl) (fun g58 => ?_) (fun g58 => ?_) <;> (revert g58; (first | refine cv1 ?_ | refine cv2 ?_ | refine cvb ?_ | refine cvc ?_ | refine cv9 ?_ | refine cva ?_ | refine cv7 ?_ | refine cv8 ?_ | refine cvd ?_ | refine cve ?_ | skip); intro g58) <;> (first | refine j_un ?_ | (refine j_yes ?_; refine j_fieldAddr ?_))))
            all_goals (first | refine j_un ?_ | (refine j_yes ?_; refine j_load ?_))
            all_goals (first | refine j_un ?_ | (refine j_yes ?_; refine j_fieldAddr ?_))
            all_goals (first | refine j_un ?_ | (refine j_yes ?_; refine j_load ?_))
            all_goals (first | refine j_un ?_ | (refine j_yes ?_; refine j_gtr ?_))
            all_goals refine j_pick ?_
            all_goals refine j_move ?_
            all_goals (first | refine j_un ?_ | (refine j_yes ?_; refine j_move ?_) | (refine l_case (g := 65) (by exact rfl) (fun g65 => ?_) (fun g65 => ?_) <;> (revert g65; (first | refine cv1 ?_ | refine cv2 ?_ | refine cvb ?_ | refine cvc ?_ | refine cv9 ?_ | refine cva ?_ | refine cv7 ?_ | refine cv8 ?_ | refine cvd ?_ | refine cve ?_ | skip); intro g65) <;> (first | refine j_un ?_ | (refine j_yes ?_; refine j_move ?_))))
            all_goals (first | refine j_un ?_ | (refine j_yes ?_; refine j_fieldAddr ?_))
            all_goals (first | refine j_un ?_ | (refine j_yes ?_; refine j_load ?_))
            all_goals (first | refine j_un ?_ | (refine j_yes ?_; (refine j_own (c0 (V := .bool) (hc := fun w1 hw => by rw [(hw.repA h.fit (k := y.1) (by omega)).brN]; exact known_c (hw.repA h.fit (by omega)).br (hw.repA h.fit (by omega)).brS)) (fun x69 => ?_); try (refine l_fact (fun h69 => ?_)))))
            all_goals (first | refine j_un ?_ | (refine j_yes ?_; refine j_not ?_))
            all_goals refine j_pick ?_
            all_goals refine j_move ?_
            all_goals (first | refine j_un ?_ | (refine j_yes ?_; refine j_move ?_) | (refine l_case (g := 72) (by exact rfl) (fun g72 => ?_) (fun g72 => ?_) <;> (revert g72; (first | refine cv1 ?_ | refine cv2 ?_ | refine cvb ?_ | refine cvc ?_ | refine cv9 ?_ | refine cva ?_ | refine cv7 ?_ | refine cv8 ?_ | refine cvd ?_ | refine cve ?_ | skip); intro g72) <;> (first | refine j_un ?_ | (refine j_yes ?_; refine j_move ?_))))
            all_goals (first | refine j_un ?_ | (refine j_yes ?_; refine j_fieldAddr ?_))
            all_goals (first | refine j_un ?_ | (refine j_yes ?_; refine j_load ?_))
            all_goals (first | refine j_un ?_ | (refine j_yes ?_; refine j_fieldAddr ?_))
            all_goals (first | refine j_un ?_ | (refine j_yes ?_; refine j_load ?_))
            all_goals (first | refine j_un ?_ | (refine j_yes ?_; refine j_fieldAddr ?_))
            all_goals (first | refine j_un ?_ | (refine j_yes ?_; refine j_load ?_))
            all_goals (first | refine j_un ?_ | (refine j_yes ?_; refine j_buildSlice (fun x80 => ?_)))
            all_goals (first | refine j_un ?_ | (refine j_yes ?_; (refine j_own (c0 (V := .bool) (hc := fun w1 hw => known_c (xs := [(L.getD y.1 NdV.zero).nd.old, (L.getD y.1 NdV.zero).nd.exp, (L.getD y.1 NdV.zero).nd.new]) (hw.cl (.new .head)) (by simp only [List.length_cons, List.length_nil]; decide))) (fun x81 => ?_); try (refine l_fact (fun h81 => ?_)))))
            all_goals (first | refine j_un ?_ | (refine j_yes ?_; refine j_not ?_))
            all_goals refine j_pick ?_
            all_goals refine l_nil ?_
            all_goals
              refine k_cond (by exact rfl) (fun c83 => ?_) (fun c83 => ?_)
              · try (exact absurd c83 (by decide))
                all_goals (revert c83; (first | refine cv1 ?_ | refine cv3 ?_ | refine cv5 ?_ | refine cv7 ?_ | refine cv9 ?_ | refine cvb ?_ | refine cvd ?_ | skip); intro c83)
                all_goals (refine k_seq ?_)
                all_goals refine k_region ?_
                all_goals refine j_assignL (fun _ => ?_)
                all_goals refine l_nil ?_
                all_goals
                  refine k_retvF Try.results25 (.tmp (by conv => { lhs; whnf }) .nil) (fun w hw => ?_)
                  refine ⟨false, rfl, ⟨(fun h => nomatch h), fun hp => ?_⟩, hw.done⟩
                  obtain ⟨q1, q2, q3, q4, q5, q6⟩ := hp.nodes y.1 (by omega)
                  first | (exfalso; omega) | (have := h56.2 q1; simp_all; done) | (have := h69.2 q3; simp_all; done) | (have := h81.2 (fun i hi => by simp only [List.length_cons, List.length_nil] at hi; rcases (show i = 0 ∨ i = 1 ∨ i = 2 by omega) with rfl | rfl | rfl; exact q4; exact q5; exact q6); simp_all; done)
              · try (exact absurd c83 (by decide))
                all_goals (revert c83; (first | refine cv2 ?_ | refine cv4 ?_ | refine cv6 ?_ | refine cv8 ?_ | refine cva ?_ | refine cvc ?_ | refine cve ?_ | skip); intro c83)
                all_goals
                  have hrr := h81.1 c83
                  have hok : NdOk gen L.length (L.getD y.1 NdV.zero) := ⟨h56.1 g58, by omega, h69.1 g72, hrr 0 (by simp), hrr 1 (by simp), hrr 2 (by simp)⟩
                all_goals (refine k_skip ?_)
                all_goals (refine k_seq ?_)
                all_goals (refine k_seq ?_)
                all_goals refine k_region ?_
                all_goals refine j_fieldAddr ?_
                all_goals refine j_load ?_
                all_goals (refine j_own (cV (hc := fun w1 hw => memHas_c (L.getD y.1 NdV.zero).nd w1)) (fun x86 => ?_); try (refine l_fact (fun h86 => ?_)))
                all_goals refine j_not ?_
                all_goals refine l_nil ?_
                all_goals
                  refine k_cond (by exact rfl) (fun c87 => ?_) (fun c87 => ?_)
                  · try (exact absurd c87 (by decide))
                    all_goals (revert c87; (first | refine cv1 ?_ | refine cv3 ?_ | refine cv5 ?_ | refine cv7 ?_ | refine cv9 ?_ | refine cvb ?_ | refine cvd ?_ | skip); intro c87)
                    all_goals
                      have hmk : markS (some y.2) (L.getD y.1 NdV.zero).nd = some y.2 := by
                        have e : cellK (L.getD y.1 NdV.zero).nd = none := by cases hq : cellK (L.getD y.1 NdV.zero).nd <;> simp_all
                        simp only [markS, e]
                    all_goals (refine k_exit rfl ?_)
                    all_goals refine k_region ?_
                    all_goals refine j_move ?_
                    all_goals refine j_inc ?_
                    all_goals refine j_assignL (fun _ => ?_)
                    all_goals refine l_nil ?_
                    all_goals
                      refine k_roundF ((y.1 + 1, (markS (some y.2) (L.getD y.1 NdV.zero).nd).getD y.2)) ?_ ?_ (by repeat (first | (with_reducible exact Pre.refl) | refine Pre.cons (by exact rfl) ?_)) ?_ (fun w hw => by rw [hmk]; first | exact hw.back (hO := by exact List.Sublist.refl _) | (rw [hs] at hw; exact hw.back (hO := by exact List.Sublist.refl _)))
                      · first | omega | (simp only []; omega)
                      · repeat' (first | exact knows_nil _ | refine knows_cons ?_ ?_)
                        all_goals (first | exact rfl | (conv => { lhs; whnf }; simp; done) | (conv => { lhs; whnf }; congr 1; omega))
                      · refine ⟨by omega, by rw [marks_take (by omega), hx.2.1, hmk]; rfl, fun i hi => ?_⟩
                        rcases Nat.lt_succ_iff_lt_or_eq.1 hi with h | rfl
                        · exact hx.2.2 i h
                        · exact hok
                  · try (exact absurd c87 (by decide))
                    all_goals (revert c87; (first | refine cv2 ?_ | refine cv4 ?_ | refine cv6 ?_ | refine cv8 ?_ | refine cva ?_ | refine cvc ?_ | refine cve ?_ | skip); intro c87)
                    all_goals
                      obtain ⟨c, hc⟩ : ∃ c, cellK (L.getD y.1 NdV.zero).nd = some c := Option.isSome_iff_exists.1 c87
                      have hs := sumK_eq hok.1 ⟨⟨bm, hbm, hbm2⟩, hr1, hr2, hr3⟩ hc
                    all_goals (refine k_skip ?_)
                    all_goals (refine k_seq ?_)
                    all_goals refine k_region ?_
                    all_goals refine j_load ?_
                    all_goals (refine j_own (cV (hc := fun w1 hw => cellSum_c (L.getD y.1 NdV.zero).nd w1)) (fun x89 => ?_); try (refine l_fact (fun h89 => ?_)))
                    all_goals refine j_assignL (fun _ => ?_)
                    all_goals refine l_nil ?_
                    all_goals (refine k_seq ?_)
                    all_goals (refine k_seq ?_)
                    all_goals refine k_region ?_
                    all_goals refine j_move ?_
                    all_goals refine j_lss ?_
                    all_goals refine j_move ?_
                    all_goals (first | refine j_un ?_ | (refine j_yes ?_; refine j_move ?_) | (refine l_case (g := 92) (by exact rfl) (fun g92 => ?_) (fun g92 => ?_) <;> (revert g92; (first | refine cv1 ?_ | refine cv2 ?_ | refine cvb ?_ | refine cvc ?_ | refine cv9 ?_ | refine cva ?_ | refine cv7 ?_ | refine cv8 ?_ | refine cvd ?_ | refine cve ?_ | skip); intro g92) <;> (first | refine j_un ?_ | (refine j_yes ?_; refine j_move ?_))))
                    all_goals (first | refine j_un ?_ | (refine j_yes ?_; refine j_fieldAddr ?_))
                    all_goals (first | refine j_un ?_ | (refine j_yes ?_; refine j_load ?_))
                    all_goals (first | refine j_un ?_ | (refine j_yes ?_; refine j_len ?_))
                    all_goals (first | refine j_un ?_ | (refine j_yes ?_; refine j_gtr ?_))
                    all_goals refine j_pick ?_
                    all_goals refine j_move ?_
                    all_goals (first | refine j_un ?_ | (refine j_yes ?_; refine j_move ?_) | (refine l_case (g := 99) (by exact rfl) (fun g99 => ?_) (fun g99 => ?_) <;> (revert g99; (first | refine cv1 ?_ | refine cv2 ?_ | refine cvb ?_ | refine cvc ?_ | refine cv9 ?_ | refine cva ?_ | refine cv7 ?_ | refine cv8 ?_ | refine cvd ?_ | refine cve ?_ | skip); intro g99) <;> (first | refine j_un ?_ | (refine j_yes ?_; refine j_move ?_))))
                    all_goals (first | refine j_un ?_ | (refine j_yes ?_; refine j_move ?_))
                    all_goals (first | refine j_un ?_ | (refine j_yes ?_; refine l_quiet (o_decT (by exact rfl) (by exact rfl) (by omega) (by omega)) rfl ?_))
                    all_goals (first | refine j_un ?_ | (refine j_yes ?_; refine l_quiet (o_indexB (by exact rfl) (by exact rfl) (by exact sl_of rfl) (by exact one_of rfl) (by first | exact .new .head | exact .new (.tail .head) | exact .new (.tail (.tail .head)) | exact .new (.tail (.tail (.tail .head))) | exact .new (.tail (.tail (.tail (.tail .head)))) | exact .new (.tail (.tail (.tail (.tail (.tail .head))))) | exact .new (.tail (.tail (.tail (.tail (.tail (.tail .head)))))) | exact .new (.tail (.tail (.tail (.tail (.tail (.tail (.tail .head))))))) | exact .new (.tail (.tail (.tail (.tail (.tail (.tail (.tail (.tail .head)))))))) | exact .new (.tail (.tail (.tail (.tail (.tail (.tail (.tail (.tail (.tail .head))))))))) | exact .old .head | exact .old (.tail .head) | exact .old (.tail (.tail .head)) | exact .old (.tail (.tail (.tail .head))) | exact .old (.tail (.tail (.tail (.tail .head)))) | exact .old (.tail (.tail (.tail (.tail (.tail .head))))) | exact .own .head | exact .own (.tail .head) | exact .own (.tail (.tail .head)) | exact .own (.tail (.tail (.tail .head))) | exact .own (.tail (.tail (.tail (.tail .head)))) | exact .own (.tail (.tail (.tail (.tail (.tail .head))))) | exact .own (.tail (.tail (.tail (.tail (.tail (.tail .head)))))) | exact .own (.tail (.tail (.tail (.tail (.tail (.tail (.tail .head)))))))) (by omega) (by omega)) rfl ?_))
                    all_goals (first | refine j_un ?_ | (refine j_yes ?_; refine l_quiet (o_loadB (by exact rfl) (by exact one_of rfl) (by first | exact .new .head | exact .new (.tail .head) | exact .new (.tail (.tail .head)) | exact .new (.tail (.tail (.tail .head))) | exact .new (.tail (.tail (.tail (.tail .head)))) | exact .new (.tail (.tail (.tail (.tail (.tail .head))))) | exact .new (.tail (.tail (.tail (.tail (.tail (.tail .head)))))) | exact .new (.tail (.tail (.tail (.tail (.tail (.tail (.tail .head))))))) | exact .new (.tail (.tail (.tail (.tail (.tail (.tail (.tail (.tail .head)))))))) | exact .new (.tail (.tail (.tail (.tail (.tail (.tail (.tail (.tail (.tail .head))))))))) | exact .old .head | exact .old (.tail .head) | exact .old (.tail (.tail .head)) | exact .old (.tail (.tail (.tail .head))) | exact .old (.tail (.tail (.tail (.tail .head)))) | exact .old (.tail (.tail (.tail (.tail (.tail .head))))) | exact .own .head | exact .own (.tail .head) | exact .own (.tail (.tail .head)) | exact .own (.tail (.tail (.tail .head))) | exact .own (.tail (.tail (.tail (.tail .head)))) | exact .own (.tail (.tail (.tail (.tail (.tail .head))))) | exact .own (.tail (.tail (.tail (.tail (.tail (.tail .head)))))) | exact .own (.tail (.tail (.tail (.tail (.tail (.tail (.tail .head)))))))) (by omega)) rfl ?_))
                    all_goals refine j_pick ?_
                    all_goals refine l_nil ?_
                    all_goals
                      refine k_cond (by exact rfl) (fun c105 => ?_) (fun c105 => ?_)
                      · try (exact absurd c105 (by decide))
                        all_goals (revert c105; (first | refine cv1 ?_ | refine cv3 ?_ | refine cv5 ?_ | refine cv7 ?_ | refine cv9 ?_ | refine cvb ?_ | refine cvd ?_ | skip); intro c105)
                        all_goals (refine k_seq ?_)
                        all_goals refine k_region ?_
                        all_goals refine j_assignL (fun _ => ?_)
                        all_goals refine l_nil ?_
                        all_goals
                          refine k_retvF Try.results25 (.tmp (by conv => { lhs; whnf }) .nil) (fun w hw => ?_)
                          refine ⟨false, rfl, ⟨(fun h => nomatch h), fun hp => ?_⟩, hw.done⟩
                          have hm : marks cs.length (L.take (y.1 + 1)) = none := by
                            rw [marks_take (by omega), hx.2.1]
                            simp only [markS, hc]
                            refine if_neg fun hh => ?_
                            obtain ⟨q1, q2, q3⟩ := hh
                            first | (exfalso; omega) | (exfalso; rw [hs, q3] at c105; cases c105)
                          exact absurd (marks_none hm) hp.marks
                      · try (exact absurd c105 (by decide))
                        all_goals (revert c105; (first | refine cv2 ?_ | refine cv4 ?_ | refine cv6 ?_ | refine cv8 ?_ | refine cva ?_ | refine cvc ?_ | refine cve ?_ | skip); intro c105)
                        all_goals
                          rw [hs] at c105 g92 g99
                          have hmk : markS (some y.2) (L.getD y.1 NdV.zero).nd = some (y.2.set (c - 1).toNat true) := by
                            simp only [markS, hc]
                            rw [if_pos ⟨by omega, by omega, c105⟩]
                        all_goals (refine k_skip ?_)
                        all_goals refine k_region ?_
                        all_goals refine j_move ?_
                        all_goals refine j_move ?_
                        all_goals refine l_quiet (o_decT (by exact rfl) (by exact rfl) (by omega) (by omega)) rfl ?_
                        all_goals refine l_quiet (o_indexB (by exact rfl) (by exact rfl) (by exact sl_of rfl) (by exact one_of rfl) (by first | exact .new .head | exact .new (.tail .head) | exact .new (.tail (.tail .head)) | exact .new (.tail (.tail (.tail .head))) | exact .new (.tail (.tail (.tail (.tail .head)))) | exact .new (.tail (.tail (.tail (.tail (.tail .head))))) | exact .new (.tail (.tail (.tail (.tail (.tail (.tail .head)))))) | exact .new (.tail (.tail (.tail (.tail (.tail (.tail (.tail .head))))))) | exact .new (.tail (.tail (.tail (.tail (.tail (.tail (.tail (.tail .head)))))))) | exact .new (.tail (.tail (.tail (.tail (.tail (.tail (.tail (.tail (.tail .head))))))))) | exact .old .head | exact .old (.tail .head) | exact .old (.tail (.tail .head)) | exact .old (.tail (.tail (.tail .head))) | exact .old (.tail (.tail (.tail (.tail .head)))) | exact .old (.tail (.tail (.tail (.tail (.tail .head))))) | exact .own .head | exact .own (.tail .head) | exact .own (.tail (.tail .head)) | exact .own (.tail (.tail (.tail .head))) | exact .own (.tail (.tail (.tail (.tail .head)))) | exact .own (.tail (.tail (.tail (.tail (.tail .head))))) | exact .own (.tail (.tail (.tail (.tail (.tail (.tail .head)))))) | exact .own (.tail (.tail (.tail (.tail (.tail (.tail (.tail .head)))))))) (by omega) (by omega)) rfl ?_
                        all_goals refine j_store (fun _ => ?_)
                        all_goals refine l_nil ?_
                        all_goals (refine k_blk ?_)
                        all_goals refine k_region ?_
                        all_goals refine j_move ?_
                        all_goals refine j_inc ?_
                        all_goals refine j_assignL (fun _ => ?_)
                        all_goals refine l_nil ?_
                        all_goals
                          refine k_roundF ((y.1 + 1, (markS (some y.2) (L.getD y.1 NdV.zero).nd).getD y.2)) ?_ ?_ (by repeat (first | (with_reducible exact Pre.refl) | refine Pre.cons (by exact rfl) ?_)) ?_ (fun w hw => by rw [hmk]; first | exact hw.back (hO := by exact List.Sublist.refl _) | (rw [hs] at hw; exact hw.back (hO := by exact List.Sublist.refl _)))
                          · first | omega | (simp only []; omega)
                          · repeat' (first | exact knows_nil _ | refine knows_cons ?_ ?_)
                            all_goals (first | exact rfl | (conv => { lhs; whnf }; simp; done) | (conv => { lhs; whnf }; congr 1; omega))
                          · refine ⟨by omega, by rw [marks_take (by omega), hx.2.1, hmk]; rfl, fun i hi => ?_⟩
                            rcases Nat.lt_succ_iff_lt_or_eq.1 hi with h | rfl
                            · exact hx.2.2 i h
                            · exact hok
          · try (exact absurd c47 (by decide))
            all_goals (revert c47; (first | refine cv2 ?_ | refine cv4 ?_ | refine cv6 ?_ | refine cv8 ?_ | refine cva ?_ | refine cvc ?_ | refine cve ?_ | skip); intro c47)
            all_goals (refine k_exit rfl ?_)
            all_goals (refine k_seq ?_)
            all_goals refine k_region ?_
            all_goals refine j_assignL (fun _ => ?_)
            all_goals refine l_nil ?_
            all_goals
              refine k_retvF Try.results25 (.tmp (by conv => { lhs; whnf }) .nil) (fun w hw => ?_)
              have hy : y.1 = L.length := by omega
              have hmm : marks cs.length L = some y.2 := by have := hx.2.1; rwa [hy, List.take_length] at this
              exact ⟨true, rfl, ⟨fun _ => ⟨by omega, by omega, by omega, by omega, h38.1 (by simp_all), fun i hi => hx.2.2 i (by omega), by rw [hmm]; exact fun h => nomatch h⟩, fun _ => rfl⟩, hw.done⟩
end Go.Proofs.Ytmogngagpphnhaa
