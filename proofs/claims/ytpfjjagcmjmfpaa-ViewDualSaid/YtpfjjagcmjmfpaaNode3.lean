/- Nodes are made; lists are copied. -/
import Derived.Test.YtpfjjagcmjmfpaaSlices2
set_option linter.unusedSimpArgs false
set_option linter.unusedVariables false
namespace Go.Proofs.Ytpfjjagcmjmfpaa
open Go.RowKit Go.Ct

theorem inner_c (g : Int) (w : World) : Calls Try.prog 46 #[.int .i64 g] w fun e w' => e = .returned ({ Nd.zero with kind := 2, gen := g } : Nd).v ∧ St w [] [] w' := by
  refine enter Try.func46 Try.ntmps46 rfl rfl (SF.s0 w) ?_
  simp only [mkS]
  all_goals (refine k_seq ?_; refine k_region ?_; refine j_alloc (fun x2 => ?_); refine l_nil ?_; refine k_seq ?_; refine k_region ?_; refine j_move ?_; refine j_build ?_; refine j_store (fun _ => ?_); refine l_nil ?_)
  all_goals
   refine k_retvF Try.results46 (.cell (by exact rfl) (by repeat (first | exact At.head | apply At.tail)) (by exact agg_of rfl) .nil) (fun w hw => ?_)
   exact ⟨rfl, hw.done⟩
theorem empty_c (w : World) : Calls Try.prog 43 #[] w fun e w' => e = .returned ({ Nd.zero with kind := 3 } : Nd).v ∧ St w [] [] w' := by
  refine enter Try.func43 Try.ntmps43 rfl rfl (SF.s0 w) ?_
  simp only [mkS]
  all_goals (refine k_seq ?_; refine k_region ?_; refine j_alloc (fun x0 => ?_); refine l_nil ?_; refine k_seq ?_; refine k_region ?_; refine j_build ?_; refine j_store (fun _ => ?_); refine l_nil ?_)
  all_goals
   refine k_retvF Try.results43 (.cell (by exact rfl) (by repeat (first | exact At.head | apply At.tail)) (by exact agg_of rfl) .nil) (fun w hw => ?_)
   exact ⟨rfl, hw.done⟩
theorem single_c (h : Int) (k : ByteArray) (v : Int) (w : World) : Calls Try.prog 44 #[.int .u64 h, .string k, .int .u64 v] w fun e w' => e = .returned ({ Nd.zero with kind := 4, hash := h, key := k, val := v } : Nd).v ∧ St w [] [] w' := by
  refine enter Try.func44 Try.ntmps44 rfl rfl (SF.s0 w) ?_
  simp only [mkS]
  all_goals (refine k_seq ?_; refine k_region ?_; refine j_alloc (fun x6 => ?_); refine l_nil ?_; refine k_seq ?_; refine k_region ?_; refine j_move ?_; refine j_move ?_; refine j_move ?_; refine j_build ?_; refine j_store (fun _ => ?_); refine l_nil ?_)
  all_goals
   refine k_retvF Try.results44 (.cell (by exact rfl) (by repeat (first | exact At.head | apply At.tail)) (by exact agg_of rfl) .nil) (fun w hw => ?_)
   exact ⟨rfl, hw.done⟩
theorem SF.frz {w w' : World} {F : Fr} {o : Ow} (h : SF w [] [] [] F [o] w') : SF w [] [] [] ((o.p, o.cs) :: F) [] w' := h.freeze .head (by simp)
theorem SF.frz2 {w w' : World} {F : Fr} {o o2 : Ow} (h : SF w [] [] [] F [o, o2] w') : SF w [] [] [] ((o2.p, o2.cs) :: (o.p, o.cs) :: F) [] w' := (h.freeze .head (by simp)).freeze .head (by simp)
theorem bytes_pair : bytesLe Try.prog 56 24 = true := by kernel_rfl
theorem bytes_ref : bytesLe Try.prog 29 8 = true := by kernel_rfl
theorem copiedP_o {l : List Pr} {a : Option Addr} {c : Nat} {w : World} (ha : Cl w a (prC l)) (hl : l.length ≤ 11728124029610) : Calls Try.prog 39 #[.slice a l.length c] w fun e w' =>
    ∃ p : Option Addr, e = .returned (.slice p l.length l.length) ∧ (l = [] → p = none) ∧ SF w [] [] [] [] [⟨p, prC l, l.length, 56, 2⟩] w' := by
  refine enter Try.func39 Try.ntmps39 rfl rfl (SF.s1 ha) ?_
  simp only [mkS]
  all_goals (refine k_seq ?_; refine k_region ?_; refine j_assignL (fun _ => ?_); refine l_nil ?_; refine k_seq ?_; refine k_seq ?_; refine k_region ?_; refine j_move ?_; refine j_len ?_; refine j_eql ?_; refine l_nil ?_)
  all_goals
   refine k_if (fun c6 => ?_) (fun c6 => ?_)
   · try (exact absurd c6 (by decide))
     all_goals (revert c6; (first | refine cv1 ?_ | refine cv3 ?_ | refine cv5 ?_ | refine cv7 ?_ | refine cv9 ?_ | refine cvb ?_ | refine cvd ?_ | skip); intro c6)
     all_goals
      have hl0 : l = [] := List.eq_nil_of_length_eq_zero (by omega)
      subst hl0
     all_goals (refine k_seq ?_; refine k_region ?_; refine j_assignL (fun _ => ?_); refine l_nil ?_)
     all_goals
      refine k_rv Try.results39 (fun w hw => ?_)
      exact ⟨none, rfl, fun _ => rfl, (hw.nilOwn 56 2).finH⟩
   · try (exact absurd c6 (by decide))
     all_goals (revert c6; (first | refine cv2 ?_ | refine cv4 ?_ | refine cv6 ?_ | refine cv8 ?_ | refine cva ?_ | refine cvc ?_ | refine cve ?_ | skip); intro c6)
     all_goals (refine k_skip ?_; refine k_seq ?_; refine k_region ?_; refine j_move ?_; refine j_len ?_; refine j_own (o_makePW (by exact rfl) (by exact rfl) (by exact elem_pairT rfl) bytes_pair (by omega) (by omega)) (fun x9 => ?_); refine j_assignL (fun _ => ?_); refine l_nil ?_; refine k_seq ?_; refine k_region ?_; refine j_move ?_; refine j_move ?_; refine j_copy (fun x12 => ?_); refine l_nil ?_; refine k_seq ?_; refine k_region ?_; refine j_move ?_; refine j_assignL (fun _ => ?_); refine l_nil ?_)
     all_goals
      refine k_rv Try.results39 (fun w hw => ?_)
      exact ⟨some ⟨x9, 0, none⟩, rfl, fun h => absurd (congrArg List.length h) (by simpa using c6), by simpa using hw.finH (H' := []) (F' := [])⟩
theorem copiedR_o {l : List Int} {a : Option Addr} {c : Nat} {w : World} (ha : Cl w a (refsC l)) (hl : l.length ≤ 35184372088832) : Calls Try.prog 38 #[.slice a l.length c] w fun e w' =>
    ∃ p : Option Addr, e = .returned (.slice p l.length l.length) ∧ (l = [] → p = none) ∧ SF w [] [] [] [] [⟨p, refsC l, l.length, 29, 1⟩] w' := by
  refine enter Try.func38 Try.ntmps38 rfl rfl (SF.s1 ha) ?_
  simp only [mkS]
  all_goals (refine k_seq ?_; refine k_region ?_; refine j_assignL (fun _ => ?_); refine l_nil ?_; refine k_seq ?_; refine k_seq ?_; refine k_region ?_; refine j_move ?_; refine j_len ?_; refine j_eql ?_; refine l_nil ?_)
  all_goals
   refine k_if (fun c6 => ?_) (fun c6 => ?_)
   · try (exact absurd c6 (by decide))
     all_goals (revert c6; (first | refine cv1 ?_ | refine cv3 ?_ | refine cv5 ?_ | refine cv7 ?_ | refine cv9 ?_ | refine cvb ?_ | refine cvd ?_ | skip); intro c6)
     all_goals
      have hl0 : l = [] := List.eq_nil_of_length_eq_zero (by omega)
      subst hl0
     all_goals (refine k_seq ?_; refine k_region ?_; refine j_assignL (fun _ => ?_); refine l_nil ?_)
     all_goals
      refine k_rv Try.results38 (fun w hw => ?_)
      exact ⟨none, rfl, fun _ => rfl, (hw.nilOwn 29 1).finH⟩
   · try (exact absurd c6 (by decide))
     all_goals (revert c6; (first | refine cv2 ?_ | refine cv4 ?_ | refine cv6 ?_ | refine cv8 ?_ | refine cva ?_ | refine cvc ?_ | refine cve ?_ | skip); intro c6)
     all_goals (refine k_skip ?_; refine k_seq ?_; refine k_region ?_; refine j_move ?_; refine j_len ?_; refine j_own (o_makeRW (by exact rfl) (by exact rfl) (by first | exact elem_intT rfl | exact elem_refT rfl) bytes_ref (by omega) (by omega)) (fun x9 => ?_); refine j_assignL (fun _ => ?_); refine l_nil ?_; refine k_seq ?_; refine k_region ?_; refine j_move ?_; refine j_move ?_; refine j_copy (fun x12 => ?_); refine l_nil ?_; refine k_seq ?_; refine k_region ?_; refine j_move ?_; refine j_assignL (fun _ => ?_); refine l_nil ?_)
     all_goals
      refine k_rv Try.results38 (fun w hw => ?_)
      exact ⟨some ⟨x9, 0, none⟩, rfl, fun h => absurd (congrArg List.length h) (by simpa using c6), by simpa using hw.finH (H' := []) (F' := [])⟩
theorem list_o {h : Int} {l : List Pr} {a : Option Addr} {c : Nat} {w : World} (ha : Cl w a (prC l)) (hl : l.length ≤ 11728124029610) : Calls Try.prog 42 #[.int .u64 h, .slice a l.length c] w fun e w' =>
    ∃ p : Option Addr, e = .returned ({ Nd.zero with kind := 6, hash := h, prA := p, prN := l.length, prC := l.length } : Nd).v ∧ (l = [] → p = none) ∧ SF w [] [] [] [] [⟨p, prC l, l.length, 56, 2⟩] w' := by
  refine enter Try.func42 Try.ntmps42 rfl rfl (SF.s1 ha) ?_
  simp only [mkS]
  all_goals (refine k_seq ?_; refine k_region ?_; refine j_alloc (fun x4 => ?_); refine l_nil ?_; refine k_seq ?_; refine k_region ?_; refine j_move ?_; refine j_move ?_; (refine j_own (cFH (Hc := fun _ => []) (Fc := fun _ => []) (hc := fun w1 hw => copiedP_o (hw.cl (by first | exact .new .head | exact .new (.tail .head) | exact .new (.tail (.tail .head)) | exact .new (.tail (.tail (.tail .head))) | exact .new (.tail (.tail (.tail (.tail .head)))) | exact .new (.tail (.tail (.tail (.tail (.tail .head))))) | exact .new (.tail (.tail (.tail (.tail (.tail (.tail .head)))))) | exact .new (.tail (.tail (.tail (.tail (.tail (.tail (.tail .head))))))) | exact .new (.tail (.tail (.tail (.tail (.tail (.tail (.tail (.tail .head)))))))) | exact .new (.tail (.tail (.tail (.tail (.tail (.tail (.tail (.tail (.tail .head))))))))) | exact .old .head | exact .old (.tail .head) | exact .old (.tail (.tail .head)) | exact .old (.tail (.tail (.tail .head))) | exact .old (.tail (.tail (.tail (.tail .head)))) | exact .old (.tail (.tail (.tail (.tail (.tail .head))))) | exact .own .head | exact .own (.tail .head) | exact .own (.tail (.tail .head)) | exact .own (.tail (.tail (.tail .head))) | exact .own (.tail (.tail (.tail (.tail .head)))) | exact .own (.tail (.tail (.tail (.tail (.tail .head))))) | exact .own (.tail (.tail (.tail (.tail (.tail (.tail .head)))))) | exact .own (.tail (.tail (.tail (.tail (.tail (.tail (.tail .head))))))))) hl)) (fun x7 => ?_); try (refine l_fact (fun h7 => ?_))); refine j_build ?_; refine j_store (fun _ => ?_); refine l_nil ?_)
  all_goals
   refine k_retvF Try.results42 (.cell (by exact rfl) (by repeat (first | exact At.head | apply At.tail)) (by exact agg_of rfl) .nil) (fun w hw => ?_)
   exact ⟨x7, rfl, h7, hw.finH⟩
theorem clone_o {n : Nd} {xs : List Int} {ys : List Pr} {w : World} (hr : Rep w n xs ys) (h1 : xs.length ≤ 35184372088832) (h2 : ys.length ≤ 11728124029610) : Calls Try.prog 23 #[n.v] w fun e w' =>
    ∃ p : Option Addr × Option Addr, e = .returned ({ n with brA := p.1, brC := xs.length, prA := p.2, prC := ys.length } : Nd).v ∧ ((xs = [] → p.1 = none) ∧ (ys = [] → p.2 = none)) ∧ SF w [] [] [] [] [⟨p.2, prC ys, ys.length, 56, 2⟩, ⟨p.1, refsC xs, xs.length, 29, 1⟩] w' := by
  have e1 := hr.brN; have e2 := hr.prN
  refine enter Try.func23 Try.ntmps23 rfl rfl (SF.s2 hr.br hr.pr) ?_
  simp only [mkS]
  simp only [Nd.v, Nd.cells]
  all_goals (refine k_seq ?_; refine k_region ?_; refine j_box (fun x1 => ?_); refine j_alloc (fun x2 => ?_); refine l_nil ?_; refine k_seq ?_; refine k_region ?_; refine j_fieldAddr ?_; refine j_load ?_; (refine j_own (cFH (Hc := fun _ => []) (Fc := fun _ => []) (hc := fun w1 hw => by rw [e1]; exact copiedR_o (hw.cl (by first | exact .new .head | exact .new (.tail .head) | exact .new (.tail (.tail .head)) | exact .new (.tail (.tail (.tail .head))) | exact .new (.tail (.tail (.tail (.tail .head)))) | exact .new (.tail (.tail (.tail (.tail (.tail .head))))) | exact .new (.tail (.tail (.tail (.tail (.tail (.tail .head)))))) | exact .new (.tail (.tail (.tail (.tail (.tail (.tail (.tail .head))))))) | exact .new (.tail (.tail (.tail (.tail (.tail (.tail (.tail (.tail .head)))))))) | exact .new (.tail (.tail (.tail (.tail (.tail (.tail (.tail (.tail (.tail .head))))))))) | exact .old .head | exact .old (.tail .head) | exact .old (.tail (.tail .head)) | exact .old (.tail (.tail (.tail .head))) | exact .old (.tail (.tail (.tail (.tail .head)))) | exact .old (.tail (.tail (.tail (.tail (.tail .head))))) | exact .own .head | exact .own (.tail .head) | exact .own (.tail (.tail .head)) | exact .own (.tail (.tail (.tail .head))) | exact .own (.tail (.tail (.tail (.tail .head)))) | exact .own (.tail (.tail (.tail (.tail (.tail .head))))) | exact .own (.tail (.tail (.tail (.tail (.tail (.tail .head)))))) | exact .own (.tail (.tail (.tail (.tail (.tail (.tail (.tail .head))))))))) h1)) (fun x5 => ?_); try (refine l_fact (fun h5 => ?_))); refine j_fieldAddr ?_; refine j_store (fun _ => ?_); refine l_nil ?_; refine k_seq ?_; refine k_region ?_; refine j_fieldAddr ?_; refine j_load ?_; (refine j_own (cFH (Hc := fun _ => []) (Fc := fun _ => []) (hc := fun w1 hw => by rw [e2]; exact copiedP_o (hw.cl (by first | exact .new .head | exact .new (.tail .head) | exact .new (.tail (.tail .head)) | exact .new (.tail (.tail (.tail .head))) | exact .new (.tail (.tail (.tail (.tail .head)))) | exact .new (.tail (.tail (.tail (.tail (.tail .head))))) | exact .new (.tail (.tail (.tail (.tail (.tail (.tail .head)))))) | exact .new (.tail (.tail (.tail (.tail (.tail (.tail (.tail .head))))))) | exact .new (.tail (.tail (.tail (.tail (.tail (.tail (.tail (.tail .head)))))))) | exact .new (.tail (.tail (.tail (.tail (.tail (.tail (.tail (.tail (.tail .head))))))))) | exact .old .head | exact .old (.tail .head) | exact .old (.tail (.tail .head)) | exact .old (.tail (.tail (.tail .head))) | exact .old (.tail (.tail (.tail (.tail .head)))) | exact .old (.tail (.tail (.tail (.tail (.tail .head))))) | exact .own .head | exact .own (.tail .head) | exact .own (.tail (.tail .head)) | exact .own (.tail (.tail (.tail .head))) | exact .own (.tail (.tail (.tail (.tail .head)))) | exact .own (.tail (.tail (.tail (.tail (.tail .head))))) | exact .own (.tail (.tail (.tail (.tail (.tail (.tail .head)))))) | exact .own (.tail (.tail (.tail (.tail (.tail (.tail (.tail .head))))))))) h2)) (fun x9 => ?_); try (refine l_fact (fun h9 => ?_))); refine j_fieldAddr ?_; refine j_store (fun _ => ?_); refine l_nil ?_; refine k_seq ?_; refine k_region ?_; refine j_load ?_; refine j_store (fun _ => ?_); refine l_nil ?_)
  all_goals
   refine k_retvF Try.results23 (.cell (by exact rfl) (by repeat (first | exact At.head | apply At.tail)) (by exact agg_of rfl) .nil) (fun w hw => ?_)
   exact ⟨(x5, x9), by rw [e1, e2]; rfl, ⟨h5, h9⟩, hw.finH⟩
/- The same, what is new is frozen. -/
theorem copiedP_c {l : List Pr} {a : Option Addr} {c : Nat} {w : World} (ha : Cl w a (prC l)) (hl : l.length ≤ 11728124029610) : Calls Try.prog 39 #[.slice a l.length c] w fun e w' =>
    ∃ p : Option Addr, e = .returned (.slice p l.length l.length) ∧ (l = [] → p = none) ∧ SF w [] [] [] [(p, prC l)] [] w' := (copiedP_o ha hl).mono fun _ _ ⟨p, he, hp, hs⟩ => ⟨p, he, hp, SF.frz hs⟩
theorem list_c {h : Int} {l : List Pr} {a : Option Addr} {c : Nat} {w : World} (ha : Cl w a (prC l)) (hl : l.length ≤ 11728124029610) : Calls Try.prog 42 #[.int .u64 h, .slice a l.length c] w fun e w' =>
    ∃ p : Option Addr, e = .returned ({ Nd.zero with kind := 6, hash := h, prA := p, prN := l.length, prC := l.length } : Nd).v ∧ (l = [] → p = none) ∧ SF w [] [] [] [(p, prC l)] [] w' := (list_o ha hl).mono fun _ _ ⟨p, he, hp, hs⟩ => ⟨p, he, hp, SF.frz hs⟩
theorem clone_c {n : Nd} {xs : List Int} {ys : List Pr} {w : World} (hr : Rep w n xs ys) (h1 : xs.length ≤ 35184372088832) (h2 : ys.length ≤ 11728124029610) : Calls Try.prog 23 #[n.v] w fun e w' =>
    ∃ p : Option Addr × Option Addr, e = .returned ({ n with brA := p.1, brC := xs.length, prA := p.2, prC := ys.length } : Nd).v ∧ ((xs = [] → p.1 = none) ∧ (ys = [] → p.2 = none)) ∧ SF w [] [] [] [(p.1, refsC xs), (p.2, prC ys)] [] w' := (clone_o hr h1 h2).mono fun _ _ ⟨p, he, hp, hs⟩ => ⟨p, he, hp, SF.frz2 hs⟩
end Go.Proofs.Ytpfjjagcmjmfpaa
