/- Tombs: TombLists: the walk. -/
import Derived.Test.YthmagkjcangnfaaTo5
set_option linter.unusedSimpArgs false
set_option linter.unusedVariables false
namespace Go.Proofs.Ythmagkjcangnfaa
open Go.RowKit Go.Ct
theorem mem_putL {l : List Pr} {k : ByteArray} {v : Int} (hs : SA l) : ∀ q ∈ putO l k v, q = (k, v) ∨ q ∈ l := fun q hq => by rw [putO_eq hs] at hq; exact putL_mem hq
theorem short_of {l : List Pr} (h : ∀ q ∈ l, q.1.size ≤ 64) : Short l := fun i hi => by rw [getD_get hi]; exact h _ (List.getElem_mem hi)
theorem short_all {l : List Pr} (h : Short l) : ∀ q ∈ l, q.1.size ≤ 64 := fun q hq => by
  obtain ⟨i, hi, rfl⟩ := List.getElem_of_mem hq
  have := h i hi
  rwa [getD_get hi] at this
theorem put_short {l : List Pr} {k : ByteArray} {v : Int} (hs : SA l) (h : Short l) (hk : k.size ≤ 64) : Short (putO l k v) := short_of fun q hq => by
  rcases mem_putL hs q hq with rfl | hq
  · exact hk
  · exact short_all h q hq
theorem drop_new {l : List Pr} {k : ByteArray} (v : Int) (hs : SA l) (hn : findO l k = none) : dropO (putO l k v) k = l :=
  sa_ext (dropO_sa (putO_sa hs k v) k) hs fun j => by
    rw [dropO_fnd (putO_sa hs k v), putO_fnd hs]
    by_cases hj : j = k
    · subst hj; rw [if_pos rfl, ← findO_eq hs, hn]
    · rw [if_neg hj, if_neg hj]
section
variable {h p : Int} {m : List Pr} {x : Option Addr × Nat} {w : World} {k : ByteArray} {v : Int}
theorem lnRep (hc : Cl w x.1 (prC m)) (hl : m.length ≤ 1000) : Rep w (ln h p m x) [] m := ⟨rfl, rfl, Cl.nil _ _, hc, by decide, by omega⟩
theorem grownS_c (v : Int) (hp : 0 ≤ p) (hm : LF m) (hx : m.length ≤ x.2) (hk : k.size ≤ 64) (hc : Cl w x.1 (prC m)) : Calls Try.prog 72 #[(ln h p m x).v, .string k, .int .u64 v] w fun e w' => ∃ y : Option Addr × Nat, e = .returned (.tuple #[(ln h 0 (putO m k v) y).v, .bool true]) ∧ (putO m k v).length ≤ y.2 ∧ SF w [] [] [] [(y.1, prC (putO m k v))] [] w' := by
  have := hm.l8
  refine (grown_c (n := ln h p m x) (xs := []) k v (lnRep hc (by omega)) hx (by omega)).mono fun e w' hg => ?_
  rw [show growO (ln h p m x) [] m k v = some (putO m k v) from if_pos ⟨ln_valid hm.sa hm.l2 hm.sh hp, hk⟩] at hg
  exact hg
theorem grownN_c (v : Int) (hm : LF m) (hx : m.length ≤ x.2) (hk : ¬ k.size ≤ 64) (hc : Cl w x.1 (prC m)) : Calls Try.prog 72 #[(ln h p m x).v, .string k, .int .u64 v] w fun e w' => e = .returned (.tuple #[Nd.zero.v, .bool false]) ∧ St w [] [] w' := by
  have := hm.l8
  refine (grown_c (n := ln h p m x) (xs := []) k v (lnRep hc (by omega)) hx (by omega)).mono fun e w' hg => ?_
  rw [show growO (ln h p m x) [] m k v = none from if_neg fun hh => hk hh.2] at hg
  obtain ⟨y, h1, _, h3⟩ := hg
  exact ⟨h1, h3.done⟩
theorem shrunkS_c (v : Int) (hm : LF m) (hx : (putO m k v).length ≤ x.2) (hk : k.size ≤ 64) (hn : findO m k = none) (hc : Cl w x.1 (prC (putO m k v))) : Calls Try.prog 68 #[(ln h 0 (putO m k v) x).v, .string k] w fun e w' => ∃ y : Option Addr × Nat, e = .returned (.tuple #[(ln h 0 m y).v, .bool true]) ∧ m.length ≤ y.2 ∧ SF w [] [] [] [(y.1, prC m)] [] w' := by
  have h8 := hm.l8; have h2 := hm.l2
  have hp := putO_le m k v
  have hlen := putO_len hm.sa k v
  rw [if_neg (by rw [hn]; decide)] at hlen
  refine (shrunk_c (n := ln h 0 (putO m k v) x) (xs := []) (ys := putO m k v) k (lnRep hc (by omega)) hx (by omega)).mono fun e w' hg => ?_
  rw [show shrO (ln h 0 (putO m k v) x) [] (putO m k v) k = some (dropO (putO m k v) k) from if_pos ⟨ln_valid (putO_sa hm.sa k v) (by omega) (put_short hm.sa hm.sh hk) (Int.le_refl _), by rw [putO_find hm.sa]; rfl⟩, drop_new v hm.sa hn] at hg
  obtain ⟨y, h1, h3, h4⟩ := hg
  have e1 : shL (some m) = m := if_neg (by omega)
  rw [e1] at h3 h4
  have e2 : shN (some m) h y = ln h 0 m y := if_neg (by omega)
  rw [show (ln h 0 (putO m k v) x).hash = h from rfl, e2] at h1
  exact ⟨y, h1, h3, h4⟩
theorem lnValid_c (hp : 0 ≤ p) (hs : SA m) (h2 : 2 ≤ m.length) (h9 : m.length ≤ 1000) (hk : Short m) (hc : Cl w x.1 (prC m)) : Calls Try.prog 33 #[(ln h p m x).v] w fun e w' => e = .returned (.bool true) ∧ St w [] [] w' :=
  (refValid_c (n := ln h p m x) (xs := []) (b := 0) rfl (by decide) (lnRep hc h9)).mono fun e w' ⟨r, he, hr, hst⟩ => ⟨by rw [he, hr.2 (ln_valid hs h2 hk hp).2], hst⟩
end
theorem tombLists_c {l : List Int} {p : Option Addr} {c : Nat} {k : ByteArray} {v : Int} {w : World} (hl : Cl w p (refsC l)) (hlen : l.length ≤ 17592186043904) :
    Calls Try.prog 19 #[.slice p l.length c, .string k, .int .u64 v] w fun e w' => e = .returned (.bool true) ∧ St w [] [] w' := by
  refine enter Try.func19 Try.ntmps19 rfl rfl (SF.s1 hl) ?_
  simp only [mkS]
  all_goals (refine k_seq ?_)
  all_goals refine k_region ?_
  all_goals refine j_assignL (fun _ => ?_)
  all_goals refine l_nil ?_
  all_goals (refine k_seq ?_)
  all_goals refine k_region ?_
  all_goals refine j_move ?_
  all_goals (refine j_own (cF (hc := fun w1 hw => lst_c (hw.cl (by first | exact .new .head | exact .new (.tail .head) | exact .new (.tail (.tail .head)) | exact .new (.tail (.tail (.tail .head))) | exact .new (.tail (.tail (.tail (.tail .head)))) | exact .new (.tail (.tail (.tail (.tail (.tail .head))))) | exact .new (.tail (.tail (.tail (.tail (.tail (.tail .head)))))) | exact .new (.tail (.tail (.tail (.tail (.tail (.tail (.tail .head))))))) | exact .new (.tail (.tail (.tail (.tail (.tail (.tail (.tail (.tail .head)))))))) | exact .new (.tail (.tail (.tail (.tail (.tail (.tail (.tail (.tail (.tail .head))))))))) | exact .old .head | exact .old (.tail .head) | exact .old (.tail (.tail .head)) | exact .old (.tail (.tail (.tail .head))) | exact .old (.tail (.tail (.tail (.tail .head)))) | exact .old (.tail (.tail (.tail (.tail (.tail .head))))) | exact .own .head | exact .own (.tail .head) | exact .own (.tail (.tail .head)) | exact .own (.tail (.tail (.tail .head))) | exact .own (.tail (.tail (.tail (.tail .head)))) | exact .own (.tail (.tail (.tail (.tail (.tail .head))))) | exact .own (.tail (.tail (.tail (.tail (.tail (.tail .head)))))) | exact .own (.tail (.tail (.tail (.tail (.tail (.tail (.tail .head))))))))) hlen)) (fun x19 => ?_); try (refine l_fact (fun h19 => ?_)))
  all_goals refine j_alloc (fun x7 => ?_)
  all_goals refine j_store (fun _ => ?_)
  all_goals refine l_nil ?_
  all_goals (refine k_seq ?_)
  all_goals (refine k_seq ?_)
  all_goals refine k_region ?_
  all_goals refine j_move ?_
  all_goals refine j_lenStr ?_
  all_goals refine j_gtr ?_
  all_goals refine l_nil ?_
  all_goals
    refine k_cond (by exact rfl) (fun c22 => ?_) (fun c22 => ?_)
    · try (exact absurd c22 (by decide))
      all_goals (first | replace c22 := of_decide_eq_true c22 | replace c22 := sbeq_t c22 | replace c22 := sbne_t c22 | replace c22 := ibeq_t c22 | replace c22 := ibne_t c22 | replace c22 := ndec_t c22 | replace c22 := not_t c22 | skip)
      all_goals (refine k_seq ?_)
      all_goals refine k_region ?_
      all_goals refine j_load ?_
      all_goals refine j_move ?_
      all_goals refine j_move ?_
      all_goals (refine j_own (cV (hc := fun w1 hw => grownN_c (h := (x19.1 : Int)) (p := (x19.2.1 : Int)) (m := x19.2.2.1) (x := x19.2.2.2) v h19.1 h19.2 (by omega) (hw.cl (by first | exact .new .head | exact .new (.tail .head) | exact .new (.tail (.tail .head)) | exact .new (.tail (.tail (.tail .head))) | exact .new (.tail (.tail (.tail (.tail .head)))) | exact .new (.tail (.tail (.tail (.tail (.tail .head))))) | exact .new (.tail (.tail (.tail (.tail (.tail (.tail .head)))))) | exact .new (.tail (.tail (.tail (.tail (.tail (.tail (.tail .head))))))) | exact .new (.tail (.tail (.tail (.tail (.tail (.tail (.tail (.tail .head)))))))) | exact .new (.tail (.tail (.tail (.tail (.tail (.tail (.tail (.tail (.tail .head))))))))) | exact .old .head | exact .old (.tail .head) | exact .old (.tail (.tail .head)) | exact .old (.tail (.tail (.tail .head))) | exact .old (.tail (.tail (.tail (.tail .head)))) | exact .old (.tail (.tail (.tail (.tail (.tail .head))))) | exact .own .head | exact .own (.tail .head) | exact .own (.tail (.tail .head)) | exact .own (.tail (.tail (.tail .head))) | exact .own (.tail (.tail (.tail (.tail .head)))) | exact .own (.tail (.tail (.tail (.tail (.tail .head))))) | exact .own (.tail (.tail (.tail (.tail (.tail (.tail .head)))))) | exact .own (.tail (.tail (.tail (.tail (.tail (.tail (.tail .head))))))))))) (fun x27 => ?_); try (refine l_fact (fun h27 => ?_)))
      all_goals refine j_move ?_
      all_goals refine l_quiet (o_extr (by exact rfl) rfl) rfl ?_
      all_goals refine l_quiet (o_extr (by exact rfl) rfl) rfl ?_
      all_goals refine j_alloc (fun x8 => ?_)
      all_goals refine j_store (fun _ => ?_)
      all_goals refine j_assignL (fun _ => ?_)
      all_goals refine l_nil ?_
      all_goals (refine k_seq ?_)
      all_goals refine k_region ?_
      all_goals refine j_move ?_
      all_goals refine j_not ?_
      all_goals refine j_move ?_
      all_goals (first | refine j_un ?_ | (refine j_yes ?_; (refine j_own (cV (hc := fun w1 hw => tawake_c w1)) (fun x33 => ?_); try (refine l_fact (fun h33 => ?_)))) | (refine l_case (g := 32) (by exact rfl) (fun g32 => ?_) (fun g32 => ?_) <;> (first | replace g32 := of_decide_eq_true g32 | replace g32 := of_decide_eq_false g32 | skip) <;> (first | refine j_un ?_ | (refine j_yes ?_; (refine j_own (cV (hc := fun w1 hw => tawake_c w1)) (fun x33 => ?_); try (refine l_fact (fun h33 => ?_)))))))
      all_goals refine j_pick ?_
      all_goals refine j_assignL (fun _ => ?_)
      all_goals refine l_nil ?_
      all_goals
        refine k_retvF Try.results19 (.tmp (by conv => { lhs; whnf }) .nil) (fun w hw => ?_)
        first | exact ⟨rfl, hw.done⟩ | (exfalso; clear hw; simp_all; done) | (refine ⟨?_, hw.done⟩; clear hw; simp [tupleOf]; done) | (refine ⟨?_, hw.done⟩; clear hw; simp [tupleOf]; omega)
    · try (exact absurd c22 (by decide))
      all_goals (first | replace c22 := of_decide_eq_false c22 | replace c22 := sbeq_f c22 | replace c22 := sbne_f c22 | replace c22 := ibeq_f c22 | replace c22 := ibne_f c22 | replace c22 := ndec_f c22 | replace c22 := not_f c22 | skip)
      all_goals
        have hk : k.size ≤ 64 := by omega
        have hp := putO_le x19.2.2.1 k v
        have hlen2 := putO_len h19.1.sa k v
        have h8 := h19.1.l8
        have h2 := h19.1.l2
        have f1 := putO_find h19.1.sa k v
      all_goals (refine k_skip ?_)
      all_goals (refine k_seq ?_)
      all_goals refine k_region ?_
      all_goals refine j_load ?_
      all_goals refine j_move ?_
      all_goals refine j_move ?_
      all_goals (refine j_own (cF (hc := fun w1 hw => grownS_c (h := (x19.1 : Int)) (p := (x19.2.1 : Int)) (m := x19.2.2.1) (x := x19.2.2.2) v (Int.natCast_nonneg _) h19.1 h19.2 hk (hw.cl (by first | exact .new .head | exact .new (.tail .head) | exact .new (.tail (.tail .head)) | exact .new (.tail (.tail (.tail .head))) | exact .new (.tail (.tail (.tail (.tail .head)))) | exact .new (.tail (.tail (.tail (.tail (.tail .head))))) | exact .new (.tail (.tail (.tail (.tail (.tail (.tail .head)))))) | exact .new (.tail (.tail (.tail (.tail (.tail (.tail (.tail .head))))))) | exact .new (.tail (.tail (.tail (.tail (.tail (.tail (.tail (.tail .head)))))))) | exact .new (.tail (.tail (.tail (.tail (.tail (.tail (.tail (.tail (.tail .head))))))))) | exact .old .head | exact .old (.tail .head) | exact .old (.tail (.tail .head)) | exact .old (.tail (.tail (.tail .head))) | exact .old (.tail (.tail (.tail (.tail .head)))) | exact .old (.tail (.tail (.tail (.tail (.tail .head))))) | exact .own .head | exact .own (.tail .head) | exact .own (.tail (.tail .head)) | exact .own (.tail (.tail (.tail .head))) | exact .own (.tail (.tail (.tail (.tail .head)))) | exact .own (.tail (.tail (.tail (.tail (.tail .head))))) | exact .own (.tail (.tail (.tail (.tail (.tail (.tail .head)))))) | exact .own (.tail (.tail (.tail (.tail (.tail (.tail (.tail .head))))))))))) (fun x39 => ?_); try (refine l_fact (fun h39 => ?_)))
      all_goals refine j_move ?_
      all_goals refine l_quiet (o_extr (by exact rfl) rfl) rfl ?_
      all_goals refine l_quiet (o_extr (by exact rfl) rfl) rfl ?_
      all_goals refine j_alloc (fun x10 => ?_)
      all_goals refine j_store (fun _ => ?_)
      all_goals refine j_assignL (fun _ => ?_)
      all_goals refine l_nil ?_
      all_goals (refine k_seq ?_)
      all_goals refine k_region ?_
      all_goals refine j_fieldAddr ?_
      all_goals refine j_load ?_
      all_goals refine j_move ?_
      all_goals (refine j_own (cV (v := .tuple #[.int .u64 v, .bool true]) (hc := fun w1 hw => by have := refFind_c (l := putO x19.2.2.1 k v) (a := x39.1) (c := x39.2) k (w := w1) (hw.cl (by first | exact .new .head | exact .new (.tail .head) | exact .new (.tail (.tail .head)) | exact .new (.tail (.tail (.tail .head))) | exact .new (.tail (.tail (.tail (.tail .head)))) | exact .new (.tail (.tail (.tail (.tail (.tail .head))))) | exact .new (.tail (.tail (.tail (.tail (.tail (.tail .head)))))) | exact .new (.tail (.tail (.tail (.tail (.tail (.tail (.tail .head))))))) | exact .new (.tail (.tail (.tail (.tail (.tail (.tail (.tail (.tail .head)))))))) | exact .new (.tail (.tail (.tail (.tail (.tail (.tail (.tail (.tail (.tail .head))))))))) | exact .old .head | exact .old (.tail .head) | exact .old (.tail (.tail .head)) | exact .old (.tail (.tail (.tail .head))) | exact .old (.tail (.tail (.tail (.tail .head)))) | exact .old (.tail (.tail (.tail (.tail (.tail .head))))) | exact .own .head | exact .own (.tail .head) | exact .own (.tail (.tail .head)) | exact .own (.tail (.tail (.tail .head))) | exact .own (.tail (.tail (.tail (.tail .head)))) | exact .own (.tail (.tail (.tail (.tail (.tail .head))))) | exact .own (.tail (.tail (.tail (.tail (.tail (.tail .head)))))) | exact .own (.tail (.tail (.tail (.tail (.tail (.tail (.tail .head))))))))) (by omega); rw [f1] at this; exact this)) (fun x46 => ?_); try (refine l_fact (fun h46 => ?_)))
      all_goals refine j_move ?_
      all_goals refine l_quiet (o_extr (by exact rfl) rfl) rfl ?_
      all_goals refine l_quiet (o_extr (by exact rfl) rfl) rfl ?_
      all_goals refine j_assignL (fun _ => ?_)
      all_goals refine j_assignL (fun _ => ?_)
      all_goals refine l_nil ?_
      all_goals (refine k_seq ?_)
      all_goals (refine k_seq ?_)
      all_goals refine k_region ?_
      all_goals (refine j_own (cV (hc := fun w1 hw => tawake_c w1)) (fun x49 => ?_); try (refine l_fact (fun h49 => ?_)))
      all_goals refine j_not ?_
      all_goals refine j_move ?_
      all_goals (first | refine j_un ?_ | (refine j_yes ?_; refine j_move ?_) | (refine l_case (g := 51) (by exact rfl) (fun g51 => ?_) (fun g51 => ?_) <;> (first | replace g51 := of_decide_eq_true g51 | replace g51 := of_decide_eq_false g51 | skip) <;> (first | refine j_un ?_ | (refine j_yes ?_; refine j_move ?_))))
      all_goals (first | refine j_un ?_ | (refine j_yes ?_; refine j_not ?_) | (refine l_case (g := 51) (by exact rfl) (fun g51 => ?_) (fun g51 => ?_) <;> (first | replace g51 := of_decide_eq_true g51 | replace g51 := of_decide_eq_false g51 | skip) <;> (first | refine j_un ?_ | (refine j_yes ?_; refine j_not ?_))))
      all_goals refine j_pick ?_
      all_goals refine j_move ?_
      all_goals (first | refine j_un ?_ | (refine j_yes ?_; refine j_move ?_) | (refine l_case (g := 55) (by exact rfl) (fun g55 => ?_) (fun g55 => ?_) <;> (first | replace g55 := of_decide_eq_true g55 | replace g55 := of_decide_eq_false g55 | skip) <;> (first | refine j_un ?_ | (refine j_yes ?_; refine j_move ?_))))
      all_goals (first | refine j_un ?_ | (refine j_yes ?_; refine j_not ?_) | (refine l_case (g := 55) (by exact rfl) (fun g55 => ?_) (fun g55 => ?_) <;> (first | replace g55 := of_decide_eq_true g55 | replace g55 := of_decide_eq_false g55 | skip) <;> (first | refine j_un ?_ | (refine j_yes ?_; refine j_not ?_))))
      all_goals refine j_pick ?_
      all_goals refine j_move ?_
      all_goals (first | refine j_un ?_ | (refine j_yes ?_; refine j_move ?_) | (refine l_case (g := 59) (by exact rfl) (fun g59 => ?_) (fun g59 => ?_) <;> (first | replace g59 := of_decide_eq_true g59 | replace g59 := of_decide_eq_false g59 | skip) <;> (first | refine j_un ?_ | (refine j_yes ?_; refine j_move ?_))))
      all_goals (first | refine j_un ?_ | (refine j_yes ?_; refine j_move ?_) | (refine l_case (g := 59) (by exact rfl) (fun g59 => ?_) (fun g59 => ?_) <;> (first | replace g59 := of_decide_eq_true g59 | replace g59 := of_decide_eq_false g59 | skip) <;> (first | refine j_un ?_ | (refine j_yes ?_; refine j_move ?_))))
      all_goals (first | refine j_un ?_ | (refine j_yes ?_; refine j_neq ?_) | (refine l_case (g := 59) (by exact rfl) (fun g59 => ?_) (fun g59 => ?_) <;> (first | replace g59 := of_decide_eq_true g59 | replace g59 := of_decide_eq_false g59 | skip) <;> (first | refine j_un ?_ | (refine j_yes ?_; refine j_neq ?_))))
      all_goals refine j_pick ?_
      all_goals refine j_move ?_
      all_goals (first | refine j_un ?_ | (refine j_yes ?_; refine j_load ?_) | (refine l_case (g := 64) (by exact rfl) (fun g64 => ?_) (fun g64 => ?_) <;> (first | replace g64 := of_decide_eq_true g64 | replace g64 := of_decide_eq_false g64 | skip) <;> (first | refine j_un ?_ | (refine j_yes ?_; refine j_load ?_))))
      all_goals (first | refine j_un ?_ | (refine j_yes ?_; (refine j_own (cV (hc := fun w1 hw => lnValid_c (h := (x19.1 : Int)) (p := 0) (x := x39) (m := putO x19.2.2.1 k v) (Int.le_refl _) (putO_sa h19.1.sa k v) (by rw [hlen2]; split <;> omega) (by omega) (put_short h19.1.sa h19.1.sh hk) (hw.cl (by first | exact .new .head | exact .new (.tail .head) | exact .new (.tail (.tail .head)) | exact .new (.tail (.tail (.tail .head))) | exact .new (.tail (.tail (.tail (.tail .head)))) | exact .new (.tail (.tail (.tail (.tail (.tail .head))))) | exact .new (.tail (.tail (.tail (.tail (.tail (.tail .head)))))) | exact .new (.tail (.tail (.tail (.tail (.tail (.tail (.tail .head))))))) | exact .new (.tail (.tail (.tail (.tail (.tail (.tail (.tail (.tail .head)))))))) | exact .new (.tail (.tail (.tail (.tail (.tail (.tail (.tail (.tail (.tail .head))))))))) | exact .old .head | exact .old (.tail .head) | exact .old (.tail (.tail .head)) | exact .old (.tail (.tail (.tail .head))) | exact .old (.tail (.tail (.tail (.tail .head)))) | exact .old (.tail (.tail (.tail (.tail (.tail .head))))) | exact .own .head | exact .own (.tail .head) | exact .own (.tail (.tail .head)) | exact .own (.tail (.tail (.tail .head))) | exact .own (.tail (.tail (.tail (.tail .head)))) | exact .own (.tail (.tail (.tail (.tail (.tail .head))))) | exact .own (.tail (.tail (.tail (.tail (.tail (.tail .head)))))) | exact .own (.tail (.tail (.tail (.tail (.tail (.tail (.tail .head))))))))))) (fun x66 => ?_); try (refine l_fact (fun h66 => ?_)))) | (refine l_case (g := 64) (by exact rfl) (fun g64 => ?_) (fun g64 => ?_) <;> (first | replace g64 := of_decide_eq_true g64 | replace g64 := of_decide_eq_false g64 | skip) <;> (first | refine j_un ?_ | (refine j_yes ?_; (refine j_own (cV (hc := fun w1 hw => lnValid_c (h := (x19.1 : Int)) (p := 0) (x := x39) (m := putO x19.2.2.1 k v) (Int.le_refl _) (putO_sa h19.1.sa k v) (by rw [hlen2]; split <;> omega) (by omega) (put_short h19.1.sa h19.1.sh hk) (hw.cl (by first | exact .new .head | exact .new (.tail .head) | exact .new (.tail (.tail .head)) | exact .new (.tail (.tail (.tail .head))) | exact .new (.tail (.tail (.tail (.tail .head)))) | exact .new (.tail (.tail (.tail (.tail (.tail .head))))) | exact .new (.tail (.tail (.tail (.tail (.tail (.tail .head)))))) | exact .new (.tail (.tail (.tail (.tail (.tail (.tail (.tail .head))))))) | exact .new (.tail (.tail (.tail (.tail (.tail (.tail (.tail (.tail .head)))))))) | exact .new (.tail (.tail (.tail (.tail (.tail (.tail (.tail (.tail (.tail .head))))))))) | exact .old .head | exact .old (.tail .head) | exact .old (.tail (.tail .head)) | exact .old (.tail (.tail (.tail .head))) | exact .old (.tail (.tail (.tail (.tail .head)))) | exact .old (.tail (.tail (.tail (.tail (.tail .head))))) | exact .own .head | exact .own (.tail .head) | exact .own (.tail (.tail .head)) | exact .own (.tail (.tail (.tail .head))) | exact .own (.tail (.tail (.tail (.tail .head)))) | exact .own (.tail (.tail (.tail (.tail (.tail .head))))) | exact .own (.tail (.tail (.tail (.tail (.tail (.tail .head)))))) | exact .own (.tail (.tail (.tail (.tail (.tail (.tail (.tail .head))))))))))) (fun x66 => ?_); try (refine l_fact (fun h66 => ?_)))))))
      all_goals (first | refine j_un ?_ | (refine j_yes ?_; refine j_not ?_) | (refine l_case (g := 64) (by exact rfl) (fun g64 => ?_) (fun g64 => ?_) <;> (first | replace g64 := of_decide_eq_true g64 | replace g64 := of_decide_eq_false g64 | skip) <;> (first | refine j_un ?_ | (refine j_yes ?_; refine j_not ?_))))
      all_goals refine j_pick ?_
      all_goals refine j_move ?_
      all_goals (first | refine j_un ?_ | (refine j_yes ?_; refine j_fieldAddr ?_) | (refine l_case (g := 69) (by exact rfl) (fun g69 => ?_) (fun g69 => ?_) <;> (first | replace g69 := of_decide_eq_true g69 | replace g69 := of_decide_eq_false g69 | skip) <;> (first | refine j_un ?_ | (refine j_yes ?_; refine j_fieldAddr ?_))))
      all_goals (first | refine j_un ?_ | (refine j_yes ?_; refine j_load ?_) | (refine l_case (g := 69) (by exact rfl) (fun g69 => ?_) (fun g69 => ?_) <;> (first | replace g69 := of_decide_eq_true g69 | replace g69 := of_decide_eq_false g69 | skip) <;> (first | refine j_un ?_ | (refine j_yes ?_; refine j_load ?_))))
      all_goals (first | refine j_un ?_ | (refine j_yes ?_; refine j_fieldAddr ?_) | (refine l_case (g := 69) (by exact rfl) (fun g69 => ?_) (fun g69 => ?_) <;> (first | replace g69 := of_decide_eq_true g69 | replace g69 := of_decide_eq_false g69 | skip) <;> (first | refine j_un ?_ | (refine j_yes ?_; refine j_fieldAddr ?_))))
      all_goals (first | refine j_un ?_ | (refine j_yes ?_; refine j_load ?_) | (refine l_case (g := 69) (by exact rfl) (fun g69 => ?_) (fun g69 => ?_) <;> (first | replace g69 := of_decide_eq_true g69 | replace g69 := of_decide_eq_false g69 | skip) <;> (first | refine j_un ?_ | (refine j_yes ?_; refine j_load ?_))))
      all_goals (first | refine j_un ?_ | (refine j_yes ?_; refine j_neq ?_) | (refine l_case (g := 69) (by exact rfl) (fun g69 => ?_) (fun g69 => ?_) <;> (first | replace g69 := of_decide_eq_true g69 | replace g69 := of_decide_eq_false g69 | skip) <;> (first | refine j_un ?_ | (refine j_yes ?_; refine j_neq ?_))))
      all_goals refine j_pick ?_
      all_goals refine l_nil ?_
      all_goals
        refine k_cond (by exact rfl) (fun c75 => ?_) (fun c75 => ?_)
        · try (exact absurd c75 (by decide))
          all_goals (first | replace c75 := of_decide_eq_true c75 | replace c75 := sbeq_t c75 | replace c75 := sbne_t c75 | replace c75 := ibeq_t c75 | replace c75 := ibne_t c75 | replace c75 := ndec_t c75 | replace c75 := not_t c75 | skip)
          all_goals (refine k_seq ?_)
          all_goals refine k_region ?_
          all_goals refine j_assignL (fun _ => ?_)
          all_goals refine l_nil ?_
          all_goals
            refine k_retvF Try.results19 (.tmp (by conv => { lhs; whnf }) .nil) (fun w hw => ?_)
            first | exact ⟨rfl, hw.done⟩ | (exfalso; clear hw; simp_all; done) | (refine ⟨?_, hw.done⟩; clear hw; simp [tupleOf]; done) | (refine ⟨?_, hw.done⟩; clear hw; simp [tupleOf]; omega)
        · try (exact absurd c75 (by decide))
          all_goals (first | replace c75 := of_decide_eq_false c75 | replace c75 := sbeq_f c75 | replace c75 := sbne_f c75 | replace c75 := ibeq_f c75 | replace c75 := ibne_f c75 | replace c75 := ndec_f c75 | replace c75 := not_f c75 | skip)
          all_goals (refine k_skip ?_)
          all_goals (refine k_seq ?_)
          all_goals (refine k_seq ?_)
          all_goals refine k_region ?_
          all_goals refine j_fieldAddr ?_
          all_goals refine j_load ?_
          all_goals refine j_move ?_
          all_goals (refine j_own (cV (hc := fun w1 hw => refFind_c (l := x19.2.2.1) (a := x19.2.2.2.1) k (hw.cl (by first | exact .new .head | exact .new (.tail .head) | exact .new (.tail (.tail .head)) | exact .new (.tail (.tail (.tail .head))) | exact .new (.tail (.tail (.tail (.tail .head)))) | exact .new (.tail (.tail (.tail (.tail (.tail .head))))) | exact .new (.tail (.tail (.tail (.tail (.tail (.tail .head)))))) | exact .new (.tail (.tail (.tail (.tail (.tail (.tail (.tail .head))))))) | exact .new (.tail (.tail (.tail (.tail (.tail (.tail (.tail (.tail .head)))))))) | exact .new (.tail (.tail (.tail (.tail (.tail (.tail (.tail (.tail (.tail .head))))))))) | exact .old .head | exact .old (.tail .head) | exact .old (.tail (.tail .head)) | exact .old (.tail (.tail (.tail .head))) | exact .old (.tail (.tail (.tail (.tail .head)))) | exact .old (.tail (.tail (.tail (.tail (.tail .head))))) | exact .own .head | exact .own (.tail .head) | exact .own (.tail (.tail .head)) | exact .own (.tail (.tail (.tail .head))) | exact .own (.tail (.tail (.tail (.tail .head)))) | exact .own (.tail (.tail (.tail (.tail (.tail .head))))) | exact .own (.tail (.tail (.tail (.tail (.tail (.tail .head)))))) | exact .own (.tail (.tail (.tail (.tail (.tail (.tail (.tail .head))))))))) (by omega))) (fun x80 => ?_); try (refine l_fact (fun h80 => ?_)))
          all_goals refine j_move ?_
          all_goals refine l_quiet (o_extr (by exact rfl) rfl) rfl ?_
          all_goals refine l_quiet (o_extr (by exact rfl) rfl) rfl ?_
          all_goals refine j_assignL (fun _ => ?_)
          all_goals refine j_assignL (fun _ => ?_)
          all_goals refine l_nil ?_
          all_goals (refine k_seq ?_)
          all_goals refine k_region ?_
          all_goals refine j_move ?_
          all_goals refine l_nil ?_
          all_goals
            refine k_cond (by exact rfl) (fun c83 => ?_) (fun c83 => ?_)
            · try (exact absurd c83 (by decide))
              all_goals (first | replace c83 := of_decide_eq_true c83 | replace c83 := sbeq_t c83 | replace c83 := sbne_t c83 | replace c83 := ibeq_t c83 | replace c83 := ibne_t c83 | replace c83 := ndec_t c83 | replace c83 := not_t c83 | skip)
              all_goals
                rw [if_pos c83] at hlen2
              all_goals (refine k_seq ?_)
              all_goals refine k_region ?_
              all_goals refine j_fieldAddr ?_
              all_goals refine j_load ?_
              all_goals refine j_len ?_
              all_goals refine j_fieldAddr ?_
              all_goals refine j_load ?_
              all_goals refine j_len ?_
              all_goals refine j_eql ?_
              all_goals refine j_assignL (fun _ => ?_)
              all_goals refine l_nil ?_
              all_goals
                refine k_retvF Try.results19 (.tmp (by conv => { lhs; whnf }) .nil) (fun w hw => ?_)
                first | exact ⟨rfl, hw.done⟩ | (exfalso; clear hw; simp_all; done) | (refine ⟨?_, hw.done⟩; clear hw; simp [tupleOf]; done) | (refine ⟨?_, hw.done⟩; clear hw; simp [tupleOf]; omega)
            · try (exact absurd c83 (by decide))
              all_goals (first | replace c83 := of_decide_eq_false c83 | replace c83 := sbeq_f c83 | replace c83 := sbne_f c83 | replace c83 := ibeq_f c83 | replace c83 := ibne_f c83 | replace c83 := ndec_f c83 | replace c83 := not_f c83 | skip)
              all_goals
                have hn : findO x19.2.2.1 k = none := by cases hf : findO x19.2.2.1 k with | none => rfl | some u => rw [hf] at c83; cases c83
              all_goals (refine k_skip ?_)
              all_goals (refine k_seq ?_)
              all_goals refine k_region ?_
              all_goals refine j_load ?_
              all_goals refine j_move ?_
              all_goals (refine j_own (cF (hc := fun w1 hw => shrunkS_c (h := (x19.1 : Int)) (m := x19.2.2.1) (x := x39) v h19.1 h39 hk hn (hw.cl (by first | exact .new .head | exact .new (.tail .head) | exact .new (.tail (.tail .head)) | exact .new (.tail (.tail (.tail .head))) | exact .new (.tail (.tail (.tail (.tail .head)))) | exact .new (.tail (.tail (.tail (.tail (.tail .head))))) | exact .new (.tail (.tail (.tail (.tail (.tail (.tail .head)))))) | exact .new (.tail (.tail (.tail (.tail (.tail (.tail (.tail .head))))))) | exact .new (.tail (.tail (.tail (.tail (.tail (.tail (.tail (.tail .head)))))))) | exact .new (.tail (.tail (.tail (.tail (.tail (.tail (.tail (.tail (.tail .head))))))))) | exact .old .head | exact .old (.tail .head) | exact .old (.tail (.tail .head)) | exact .old (.tail (.tail (.tail .head))) | exact .old (.tail (.tail (.tail (.tail .head)))) | exact .old (.tail (.tail (.tail (.tail (.tail .head))))) | exact .own .head | exact .own (.tail .head) | exact .own (.tail (.tail .head)) | exact .own (.tail (.tail (.tail .head))) | exact .own (.tail (.tail (.tail (.tail .head)))) | exact .own (.tail (.tail (.tail (.tail (.tail .head))))) | exact .own (.tail (.tail (.tail (.tail (.tail (.tail .head)))))) | exact .own (.tail (.tail (.tail (.tail (.tail (.tail (.tail .head))))))))))) (fun x94 => ?_); try (refine l_fact (fun h94 => ?_)))
              all_goals refine j_move ?_
              all_goals refine l_quiet (o_extr (by exact rfl) rfl) rfl ?_
              all_goals refine l_quiet (o_extr (by exact rfl) rfl) rfl ?_
              all_goals refine j_alloc (fun x16 => ?_)
              all_goals refine j_store (fun _ => ?_)
              all_goals refine j_assignL (fun _ => ?_)
              all_goals refine l_nil ?_
              all_goals (refine k_seq ?_)
              all_goals refine k_region ?_
              all_goals refine j_move ?_
              all_goals refine j_move ?_
              all_goals (first | refine j_un ?_ | (refine j_yes ?_; refine j_fieldAddr ?_) | (refine l_case (g := 98) (by exact rfl) (fun g98 => ?_) (fun g98 => ?_) <;> (first | replace g98 := of_decide_eq_true g98 | replace g98 := of_decide_eq_false g98 | skip) <;> (first | refine j_un ?_ | (refine j_yes ?_; refine j_fieldAddr ?_))))
              all_goals (first | refine j_un ?_ | (refine j_yes ?_; refine j_load ?_) | (refine l_case (g := 98) (by exact rfl) (fun g98 => ?_) (fun g98 => ?_) <;> (first | replace g98 := of_decide_eq_true g98 | replace g98 := of_decide_eq_false g98 | skip) <;> (first | refine j_un ?_ | (refine j_yes ?_; refine j_load ?_))))
              all_goals (first | refine j_un ?_ | (refine j_yes ?_; refine j_fieldAddr ?_) | (refine l_case (g := 98) (by exact rfl) (fun g98 => ?_) (fun g98 => ?_) <;> (first | replace g98 := of_decide_eq_true g98 | replace g98 := of_decide_eq_false g98 | skip) <;> (first | refine j_un ?_ | (refine j_yes ?_; refine j_fieldAddr ?_))))
              all_goals (first | refine j_un ?_ | (refine j_yes ?_; refine j_load ?_) | (refine l_case (g := 98) (by exact rfl) (fun g98 => ?_) (fun g98 => ?_) <;> (first | replace g98 := of_decide_eq_true g98 | replace g98 := of_decide_eq_false g98 | skip) <;> (first | refine j_un ?_ | (refine j_yes ?_; refine j_load ?_))))
              all_goals (first | refine j_un ?_ | (refine j_yes ?_; (refine j_own (cV (hc := fun w1 hw => prsT_c (a := x94.1) (b := x19.2.2.2.1) (xs := x19.2.2.1) (ys := x19.2.2.1) rfl (hw.cl (by first | exact .new .head | exact .new (.tail .head) | exact .new (.tail (.tail .head)) | exact .new (.tail (.tail (.tail .head))) | exact .new (.tail (.tail (.tail (.tail .head)))) | exact .new (.tail (.tail (.tail (.tail (.tail .head))))) | exact .new (.tail (.tail (.tail (.tail (.tail (.tail .head)))))) | exact .new (.tail (.tail (.tail (.tail (.tail (.tail (.tail .head))))))) | exact .new (.tail (.tail (.tail (.tail (.tail (.tail (.tail (.tail .head)))))))) | exact .new (.tail (.tail (.tail (.tail (.tail (.tail (.tail (.tail (.tail .head))))))))) | exact .old .head | exact .old (.tail .head) | exact .old (.tail (.tail .head)) | exact .old (.tail (.tail (.tail .head))) | exact .old (.tail (.tail (.tail (.tail .head)))) | exact .old (.tail (.tail (.tail (.tail (.tail .head))))) | exact .own .head | exact .own (.tail .head) | exact .own (.tail (.tail .head)) | exact .own (.tail (.tail (.tail .head))) | exact .own (.tail (.tail (.tail (.tail .head)))) | exact .own (.tail (.tail (.tail (.tail (.tail .head))))) | exact .own (.tail (.tail (.tail (.tail (.tail (.tail .head)))))) | exact .own (.tail (.tail (.tail (.tail (.tail (.tail (.tail .head))))))))) (hw.cl (by first | exact .new .head | exact .new (.tail .head) | exact .new (.tail (.tail .head)) | exact .new (.tail (.tail (.tail .head))) | exact .new (.tail (.tail (.tail (.tail .head)))) | exact .new (.tail (.tail (.tail (.tail (.tail .head))))) | exact .new (.tail (.tail (.tail (.tail (.tail (.tail .head)))))) | exact .new (.tail (.tail (.tail (.tail (.tail (.tail (.tail .head))))))) | exact .new (.tail (.tail (.tail (.tail (.tail (.tail (.tail (.tail .head)))))))) | exact .new (.tail (.tail (.tail (.tail (.tail (.tail (.tail (.tail (.tail .head))))))))) | exact .old .head | exact .old (.tail .head) | exact .old (.tail (.tail .head)) | exact .old (.tail (.tail (.tail .head))) | exact .old (.tail (.tail (.tail (.tail .head)))) | exact .old (.tail (.tail (.tail (.tail (.tail .head))))) | exact .own .head | exact .own (.tail .head) | exact .own (.tail (.tail .head)) | exact .own (.tail (.tail (.tail .head))) | exact .own (.tail (.tail (.tail (.tail .head)))) | exact .own (.tail (.tail (.tail (.tail (.tail .head))))) | exact .own (.tail (.tail (.tail (.tail (.tail (.tail .head)))))) | exact .own (.tail (.tail (.tail (.tail (.tail (.tail (.tail .head))))))))) (by omega))) (fun x103 => ?_); try (refine l_fact (fun h103 => ?_)))) | (refine l_case (g := 98) (by exact rfl) (fun g98 => ?_) (fun g98 => ?_) <;> (first | replace g98 := of_decide_eq_true g98 | replace g98 := of_decide_eq_false g98 | skip) <;> (first | refine j_un ?_ | (refine j_yes ?_; (refine j_own (cV (hc := fun w1 hw => prsT_c (a := x94.1) (b := x19.2.2.2.1) (xs := x19.2.2.1) (ys := x19.2.2.1) rfl (hw.cl (by first | exact .new .head | exact .new (.tail .head) | exact .new (.tail (.tail .head)) | exact .new (.tail (.tail (.tail .head))) | exact .new (.tail (.tail (.tail (.tail .head)))) | exact .new (.tail (.tail (.tail (.tail (.tail .head))))) | exact .new (.tail (.tail (.tail (.tail (.tail (.tail .head)))))) | exact .new (.tail (.tail (.tail (.tail (.tail (.tail (.tail .head))))))) | exact .new (.tail (.tail (.tail (.tail (.tail (.tail (.tail (.tail .head)))))))) | exact .new (.tail (.tail (.tail (.tail (.tail (.tail (.tail (.tail (.tail .head))))))))) | exact .old .head | exact .old (.tail .head) | exact .old (.tail (.tail .head)) | exact .old (.tail (.tail (.tail .head))) | exact .old (.tail (.tail (.tail (.tail .head)))) | exact .old (.tail (.tail (.tail (.tail (.tail .head))))) | exact .own .head | exact .own (.tail .head) | exact .own (.tail (.tail .head)) | exact .own (.tail (.tail (.tail .head))) | exact .own (.tail (.tail (.tail (.tail .head)))) | exact .own (.tail (.tail (.tail (.tail (.tail .head))))) | exact .own (.tail (.tail (.tail (.tail (.tail (.tail .head)))))) | exact .own (.tail (.tail (.tail (.tail (.tail (.tail (.tail .head))))))))) (hw.cl (by first | exact .new .head | exact .new (.tail .head) | exact .new (.tail (.tail .head)) | exact .new (.tail (.tail (.tail .head))) | exact .new (.tail (.tail (.tail (.tail .head)))) | exact .new (.tail (.tail (.tail (.tail (.tail .head))))) | exact .new (.tail (.tail (.tail (.tail (.tail (.tail .head)))))) | exact .new (.tail (.tail (.tail (.tail (.tail (.tail (.tail .head))))))) | exact .new (.tail (.tail (.tail (.tail (.tail (.tail (.tail (.tail .head)))))))) | exact .new (.tail (.tail (.tail (.tail (.tail (.tail (.tail (.tail (.tail .head))))))))) | exact .old .head | exact .old (.tail .head) | exact .old (.tail (.tail .head)) | exact .old (.tail (.tail (.tail .head))) | exact .old (.tail (.tail (.tail (.tail .head)))) | exact .old (.tail (.tail (.tail (.tail (.tail .head))))) | exact .own .head | exact .own (.tail .head) | exact .own (.tail (.tail .head)) | exact .own (.tail (.tail (.tail .head))) | exact .own (.tail (.tail (.tail (.tail .head)))) | exact .own (.tail (.tail (.tail (.tail (.tail .head))))) | exact .own (.tail (.tail (.tail (.tail (.tail (.tail .head)))))) | exact .own (.tail (.tail (.tail (.tail (.tail (.tail (.tail .head))))))))) (by omega))) (fun x103 => ?_); try (refine l_fact (fun h103 => ?_)))))))
              all_goals refine j_pick ?_
              all_goals refine j_move ?_
              all_goals (first | refine j_un ?_ | (refine j_yes ?_; refine j_fieldAddr ?_) | (refine l_case (g := 105) (by exact rfl) (fun g105 => ?_) (fun g105 => ?_) <;> (first | replace g105 := of_decide_eq_true g105 | replace g105 := of_decide_eq_false g105 | skip) <;> (first | refine j_un ?_ | (refine j_yes ?_; refine j_fieldAddr ?_))))
              all_goals (first | refine j_un ?_ | (refine j_yes ?_; refine j_load ?_) | (refine l_case (g := 105) (by exact rfl) (fun g105 => ?_) (fun g105 => ?_) <;> (first | replace g105 := of_decide_eq_true g105 | replace g105 := of_decide_eq_false g105 | skip) <;> (first | refine j_un ?_ | (refine j_yes ?_; refine j_load ?_))))
              all_goals (first | refine j_un ?_ | (refine j_yes ?_; refine j_eql ?_) | (refine l_case (g := 105) (by exact rfl) (fun g105 => ?_) (fun g105 => ?_) <;> (first | replace g105 := of_decide_eq_true g105 | replace g105 := of_decide_eq_false g105 | skip) <;> (first | refine j_un ?_ | (refine j_yes ?_; refine j_eql ?_))))
              all_goals refine j_pick ?_
              all_goals refine j_move ?_
              all_goals (first | refine j_un ?_ | (refine j_yes ?_; refine j_fieldAddr ?_) | (refine l_case (g := 110) (by exact rfl) (fun g110 => ?_) (fun g110 => ?_) <;> (first | replace g110 := of_decide_eq_true g110 | replace g110 := of_decide_eq_false g110 | skip) <;> (first | refine j_un ?_ | (refine j_yes ?_; refine j_fieldAddr ?_))))
              all_goals (first | refine j_un ?_ | (refine j_yes ?_; refine j_load ?_) | (refine l_case (g := 110) (by exact rfl) (fun g110 => ?_) (fun g110 => ?_) <;> (first | replace g110 := of_decide_eq_true g110 | replace g110 := of_decide_eq_false g110 | skip) <;> (first | refine j_un ?_ | (refine j_yes ?_; refine j_load ?_))))
              all_goals (first | refine j_un ?_ | (refine j_yes ?_; refine j_fieldAddr ?_) | (refine l_case (g := 110) (by exact rfl) (fun g110 => ?_) (fun g110 => ?_) <;> (first | replace g110 := of_decide_eq_true g110 | replace g110 := of_decide_eq_false g110 | skip) <;> (first | refine j_un ?_ | (refine j_yes ?_; refine j_fieldAddr ?_))))
              all_goals (first | refine j_un ?_ | (refine j_yes ?_; refine j_load ?_) | (refine l_case (g := 110) (by exact rfl) (fun g110 => ?_) (fun g110 => ?_) <;> (first | replace g110 := of_decide_eq_true g110 | replace g110 := of_decide_eq_false g110 | skip) <;> (first | refine j_un ?_ | (refine j_yes ?_; refine j_load ?_))))
              all_goals (first | refine j_un ?_ | (refine j_yes ?_; refine j_eql ?_) | (refine l_case (g := 110) (by exact rfl) (fun g110 => ?_) (fun g110 => ?_) <;> (first | replace g110 := of_decide_eq_true g110 | replace g110 := of_decide_eq_false g110 | skip) <;> (first | refine j_un ?_ | (refine j_yes ?_; refine j_eql ?_))))
              all_goals refine j_pick ?_
              all_goals refine j_move ?_
              all_goals (first | refine j_un ?_ | (refine j_yes ?_; refine j_fieldAddr ?_) | (refine l_case (g := 117) (by exact rfl) (fun g117 => ?_) (fun g117 => ?_) <;> (first | replace g117 := of_decide_eq_true g117 | replace g117 := of_decide_eq_false g117 | skip) <;> (first | refine j_un ?_ | (refine j_yes ?_; refine j_fieldAddr ?_))))
              all_goals (first | refine j_un ?_ | (refine j_yes ?_; refine j_load ?_) | (refine l_case (g := 117) (by exact rfl) (fun g117 => ?_) (fun g117 => ?_) <;> (first | replace g117 := of_decide_eq_true g117 | replace g117 := of_decide_eq_false g117 | skip) <;> (first | refine j_un ?_ | (refine j_yes ?_; refine j_load ?_))))
              all_goals (first | refine j_un ?_ | (refine j_yes ?_; refine j_eql ?_) | (refine l_case (g := 117) (by exact rfl) (fun g117 => ?_) (fun g117 => ?_) <;> (first | replace g117 := of_decide_eq_true g117 | replace g117 := of_decide_eq_false g117 | skip) <;> (first | refine j_un ?_ | (refine j_yes ?_; refine j_eql ?_))))
              all_goals refine j_pick ?_
              all_goals refine j_assignL (fun _ => ?_)
              all_goals refine l_nil ?_
              all_goals
                refine k_retvF Try.results19 (.tmp (by conv => { lhs; whnf }) .nil) (fun w hw => ?_)
                first | exact ⟨rfl, hw.done⟩ | (exfalso; clear hw; simp_all; done) | (refine ⟨?_, hw.done⟩; clear hw; simp [tupleOf]; done) | (refine ⟨?_, hw.done⟩; clear hw; simp [tupleOf]; omega)
end Go.Proofs.Ythmagkjcangnfaa
