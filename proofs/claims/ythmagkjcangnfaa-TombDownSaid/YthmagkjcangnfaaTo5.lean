/- Tombs: a list out of a tape; TombExact: the walk. -/
import Derived.Test.YthmagkjcangnfaaTo4
import Derived.Test.YthmagkjcangnfaaWipe
set_option linter.unusedSimpArgs false
set_option linter.unusedVariables false
namespace Go.Proofs.Ythmagkjcangnfaa
open Go.RowKit Go.Ct
theorem prs_own {l : List Int} {a : Option Addr} {b c k : Nat} {w : World} (most : Int) (ht : TpAt w b a l c k) (h0 : 0 ≤ most) (h1 : most ≤ 1073741824) :
    Calls Try.prog 62 #[.pointer (some ⟨b, 0, none⟩), .int .i64 most] w fun e w' =>
    ∃ x : Option Addr × List Pr × Nat × Nat, e = .returned (.slice x.1 x.2.1.length x.2.2.1) ∧ ((x.2.1.length : Int) ≤ most ∧ x.2.1.length ≤ x.2.2.1 ∧ ∀ p ∈ x.2.1, p.1.size ≤ 3) ∧ SF w [b] ((b, tpO a l c x.2.2.2) :: []) [] [] [⟨x.1, prC x.2.1, x.2.2.1, 37, 2⟩] w' := by
  refine enter Try.func62 Try.ntmps62 rfl rfl ht.start ?_
  simp only [mkS]
  all_goals (refine k_seq ?_)
  all_goals refine k_region ?_
  all_goals refine j_assignL (fun _ => ?_)
  all_goals refine l_nil ?_
  all_goals (refine k_seq ?_)
  all_goals refine k_region ?_
  all_goals refine j_assignL (fun _ => ?_)
  all_goals refine l_nil ?_
  all_goals (refine k_seq ?_)
  all_goals (refine k_seq ?_)
  all_goals refine k_region ?_
  all_goals refine j_move ?_
  all_goals refine j_move ?_
  all_goals refine j_inc ?_
  all_goals (refine j_own (cF1 (hc := fun w1 hw => next_c _ (hw.tape (by repeat (first | exact At.head | apply At.tail)) (by first | exact .new .head | exact .new (.tail .head) | exact .new (.tail (.tail .head)) | exact .new (.tail (.tail (.tail .head))) | exact .new (.tail (.tail (.tail (.tail .head)))) | exact .new (.tail (.tail (.tail (.tail (.tail .head))))) | exact .new (.tail (.tail (.tail (.tail (.tail (.tail .head)))))) | exact .new (.tail (.tail (.tail (.tail (.tail (.tail (.tail .head))))))) | exact .new (.tail (.tail (.tail (.tail (.tail (.tail (.tail (.tail .head)))))))) | exact .new (.tail (.tail (.tail (.tail (.tail (.tail (.tail (.tail (.tail .head))))))))) | exact .old .head | exact .old (.tail .head) | exact .old (.tail (.tail .head)) | exact .old (.tail (.tail (.tail .head))) | exact .old (.tail (.tail (.tail (.tail .head)))) | exact .old (.tail (.tail (.tail (.tail (.tail .head))))) | exact .own .head | exact .own (.tail .head) | exact .own (.tail (.tail .head)) | exact .own (.tail (.tail (.tail .head))) | exact .own (.tail (.tail (.tail (.tail .head)))) | exact .own (.tail (.tail (.tail (.tail (.tail .head))))) | exact .own (.tail (.tail (.tail (.tail (.tail (.tail .head)))))) | exact .own (.tail (.tail (.tail (.tail (.tail (.tail (.tail .head)))))))) ht.len) (by first | decide | omega) (by first | decide | omega))) (fun x10 => ?_); try (refine l_fact (fun h10 => ?_)))
  all_goals refine j_assignL (fun _ => ?_)
  all_goals refine l_nil ?_
  all_goals (refine k_block ?_)
  all_goals
    refine k_loopF [5, 6, 11, 12, 13, 14, 15, 16, 17, 18, 19, 20, 21, 22, 23] (fun x : Nat × Option Addr × List Pr × Nat × Nat => [(5, .slice x.2.1 x.2.2.1.length x.2.2.2.1), (6, .int .i64 ((x.1 : Nat) : Int))]) (fun x => (x.2.2.1.length + x.1 : Int) ≤ most ∧ x.2.2.1.length ≤ x.2.2.2.1 ∧ ∀ p ∈ x.2.2.1, p.1.size ≤ 3) (fun x => [(b, tpO a l c x.2.2.2.2)]) (fun x => []) (fun x => [⟨x.2.1, prC x.2.2.1, x.2.2.2.1, 37, 2⟩]) (fun x => x.1) ((x10, none, [], 0, tiN l k)) (by decide) (fun _ => by exact rfl) ?_ (⟨by simp only [List.length_nil]; omega, Nat.le_refl _, by simp⟩) (fun w hw => (hw.nilOwn 37 2).back) (fun x f hx => ?_)
    · repeat (first | exact knows_nil _ | refine knows_cons (by first | exact rfl | (conv => { lhs; whnf }; simp; done)) ?_)
    dsimp only [mkU, List.map, List.cons_append, List.nil_append]
    all_goals (refine k_seq ?_)
    all_goals (refine k_seq ?_)
    all_goals refine k_region ?_
    all_goals refine j_move ?_
    all_goals refine j_gtr ?_
    all_goals refine l_nil ?_
    all_goals
      refine k_cond (by exact rfl) (fun c12 => ?_) (fun c12 => ?_)
      · try (exact absurd c12 (by decide))
        all_goals (first | replace c12 := of_decide_eq_true c12 | replace c12 := sbeq_t c12 | replace c12 := sbne_t c12 | replace c12 := ibeq_t c12 | replace c12 := ibne_t c12 | replace c12 := ndec_t c12 | replace c12 := not_t c12 | skip)
        all_goals (refine k_skip ?_)
        all_goals (refine k_seq ?_)
        all_goals (refine k_block ?_)
        all_goals refine k_region ?_
        all_goals refine j_move ?_
        all_goals refine j_move ?_
        all_goals (refine j_own (cF1 (hc := fun w1 hw => key_c (hw.tape (by repeat (first | exact At.head | apply At.tail)) (by first | exact .new .head | exact .new (.tail .head) | exact .new (.tail (.tail .head)) | exact .new (.tail (.tail (.tail .head))) | exact .new (.tail (.tail (.tail (.tail .head)))) | exact .new (.tail (.tail (.tail (.tail (.tail .head))))) | exact .new (.tail (.tail (.tail (.tail (.tail (.tail .head)))))) | exact .new (.tail (.tail (.tail (.tail (.tail (.tail (.tail .head))))))) | exact .new (.tail (.tail (.tail (.tail (.tail (.tail (.tail (.tail .head)))))))) | exact .new (.tail (.tail (.tail (.tail (.tail (.tail (.tail (.tail (.tail .head))))))))) | exact .old .head | exact .old (.tail .head) | exact .old (.tail (.tail .head)) | exact .old (.tail (.tail (.tail .head))) | exact .old (.tail (.tail (.tail (.tail .head)))) | exact .old (.tail (.tail (.tail (.tail (.tail .head))))) | exact .own .head | exact .own (.tail .head) | exact .own (.tail (.tail .head)) | exact .own (.tail (.tail (.tail .head))) | exact .own (.tail (.tail (.tail (.tail .head)))) | exact .own (.tail (.tail (.tail (.tail (.tail .head))))) | exact .own (.tail (.tail (.tail (.tail (.tail (.tail .head)))))) | exact .own (.tail (.tail (.tail (.tail (.tail (.tail (.tail .head)))))))) ht.len))) (fun x17 => ?_); try (refine l_fact (fun h17 => ?_)))
        all_goals refine j_move ?_
        all_goals (refine j_own (cF1 (hc := fun w1 hw => next_c _ (hw.tape (by repeat (first | exact At.head | apply At.tail)) (by first | exact .new .head | exact .new (.tail .head) | exact .new (.tail (.tail .head)) | exact .new (.tail (.tail (.tail .head))) | exact .new (.tail (.tail (.tail (.tail .head)))) | exact .new (.tail (.tail (.tail (.tail (.tail .head))))) | exact .new (.tail (.tail (.tail (.tail (.tail (.tail .head)))))) | exact .new (.tail (.tail (.tail (.tail (.tail (.tail (.tail .head))))))) | exact .new (.tail (.tail (.tail (.tail (.tail (.tail (.tail (.tail .head)))))))) | exact .new (.tail (.tail (.tail (.tail (.tail (.tail (.tail (.tail (.tail .head))))))))) | exact .old .head | exact .old (.tail .head) | exact .old (.tail (.tail .head)) | exact .old (.tail (.tail (.tail .head))) | exact .old (.tail (.tail (.tail (.tail .head)))) | exact .old (.tail (.tail (.tail (.tail (.tail .head))))) | exact .own .head | exact .own (.tail .head) | exact .own (.tail (.tail .head)) | exact .own (.tail (.tail (.tail .head))) | exact .own (.tail (.tail (.tail (.tail .head)))) | exact .own (.tail (.tail (.tail (.tail (.tail .head))))) | exact .own (.tail (.tail (.tail (.tail (.tail (.tail .head)))))) | exact .own (.tail (.tail (.tail (.tail (.tail (.tail (.tail .head)))))))) ht.len) (by first | decide | omega) (by first | decide | omega))) (fun x19 => ?_); try (refine l_fact (fun h19 => ?_)))
        all_goals refine j_convert ?_
        all_goals refine j_build ?_
        all_goals refine j_buildSlice (fun x22 => ?_)
        all_goals (refine j_append (fun x23 => ?_); try (refine l_fact (fun h23 => ?_)))
        all_goals refine j_assignL (fun _ => ?_)
        all_goals refine l_nil ?_
        all_goals (refine k_blk ?_)
        all_goals refine k_region ?_
        all_goals refine j_move ?_
        all_goals refine j_dec ?_
        all_goals refine j_assignL (fun _ => ?_)
        all_goals refine l_nil ?_
        all_goals
          refine k_roundF ((x.1 - 1, x23.1, x.2.2.1 ++ [(keys8.getD x17 ⟨#[]⟩, (x19 : Int))], x23.2, tiN l (tiN l x.2.2.2.2))) ?_ ?_ (by repeat (first | (with_reducible exact Pre.refl) | refine Pre.cons (by exact rfl) ?_)) ?_ (fun w hw => hw.back)
          · first | omega | (simp only []; omega)
          · repeat' (first | exact knows_nil _ | refine knows_cons ?_ ?_)
            all_goals (first | exact rfl | (conv => { lhs; whnf }; simp; done) | (conv => { lhs; whnf }; congr 1; omega))
          · refine ⟨by simp only [List.length_append, List.length_cons, List.length_nil]; omega, by simp only [List.length_append, List.length_cons, List.length_nil]; omega, fun p hp => ?_⟩
            rcases List.mem_append.1 hp with hp | hp
            · exact hx.2.2 p hp
            · simp only [List.mem_singleton] at hp; subst hp; exact keys8_size x17
      · try (exact absurd c12 (by decide))
        all_goals (first | replace c12 := of_decide_eq_false c12 | replace c12 := sbeq_f c12 | replace c12 := sbne_f c12 | replace c12 := ibeq_f c12 | replace c12 := ibne_f c12 | replace c12 := ndec_f c12 | replace c12 := not_f c12 | skip)
        all_goals (refine k_exit rfl ?_)
        all_goals (refine k_seq ?_)
        all_goals refine k_region ?_
        all_goals refine j_move ?_
        all_goals refine j_assignL (fun _ => ?_)
        all_goals refine l_nil ?_
        all_goals
          refine k_retvF Try.results62 (.tmp (by conv => { lhs; whnf }) .nil) (fun w hw => ?_)
          exact ⟨(x.2.1, x.2.2.1, x.2.2.2.1, x.2.2.2.2), rfl, ⟨by show (x.2.2.1.length : Int) ≤ most; omega, hx.2.1, hx.2.2⟩, hw.finH⟩
theorem ofL_key {l : List Pr} : ∀ p ∈ ofL l, ∃ q ∈ l, q.1 = p.1 := by
  induction l using snoc_ind with
  | h0 => intro p hp; cases hp
  | h1 l x ih =>
    intro p hp
    rw [ofL_snoc] at hp
    rcases putL_mem hp with rfl | hp
    · exact ⟨x, List.mem_append_right _ (.head _), rfl⟩
    · obtain ⟨q, hq, e⟩ := ih p hp
      exact ⟨q, List.mem_append_left _ hq, e⟩
def mn : List Pr := [(⟨#[109]⟩, 0), (⟨#[110]⟩, 2)]
structure LF (m : List Pr) : Prop where
  sa : SA m
  l2 : 2 ≤ m.length
  l8 : m.length ≤ 8
  sh : Short m
theorem lf_of {X : List Pr} (hX : X.length ≤ 6) (hk : ∀ p ∈ X, p.1.size ≤ 3) : LF (ofL (X ++ mn)) := by
  have hn : fnd (ofL (X ++ mn)) ⟨#[110]⟩ = some 2 := by
    rw [ofL_fnd, show X ++ mn = (X ++ [(⟨#[109]⟩, 0)]) ++ [(⟨#[110]⟩, 2)] by simp [mn], lastV_snoc, if_pos rfl]
  have hm : fnd (ofL (X ++ mn)) ⟨#[109]⟩ = some 0 := by
    rw [ofL_fnd, show X ++ mn = (X ++ [(⟨#[109]⟩, 0)]) ++ [(⟨#[110]⟩, 2)] by simp [mn], lastV_snoc, if_neg (by decide), lastV_snoc, if_pos rfl]
  refine ⟨ofL_sa _, ?_, by have := ofL_len (X ++ mn); have h2 : (X ++ mn).length = X.length + 2 := List.length_append; omega, fun i hi => ?_⟩
  · obtain ⟨i, h1, h2⟩ := fnd_lt hm
    obtain ⟨j, h3, h4⟩ := fnd_lt hn
    have : i ≠ j := fun e => by subst e; rw [h2] at h4; exact absurd h4 (by decide)
    omega
  · rw [getD_get hi]
    obtain ⟨q, hq, e⟩ := ofL_key _ (List.getElem_mem hi)
    rw [← e]
    rcases List.mem_append.1 hq with hq | hq
    · have := hk q hq; omega
    · simp only [mn, List.mem_cons, List.not_mem_nil, or_false] at hq
      rcases hq with rfl | rfl <;> decide
theorem refOfN_c {l : List Pr} {a : Option Addr} {c N : Nat} {w : World} (hN : l.length = N) (ha : Cl w a (prC l)) (hlen : N ≤ 1000000000) :
    Calls Try.prog 59 #[.slice a N c] w (PRes w (ofL l)) := by subst hN; exact refOf_c ha hlen
theorem lst_c {l : List Int} {p : Option Addr} {c : Nat} {w : World} (hl : Cl w p (refsC l)) (hlen : l.length ≤ 17592186043904) :
    Calls Try.prog 66 #[.slice p l.length c] w fun e w' => ∃ x : Nat × Nat × List Pr × Option Addr × Nat, e = .returned (ln (x.1 : Int) (x.2.1 : Int) x.2.2.1 x.2.2.2).v ∧ (LF x.2.2.1 ∧ x.2.2.1.length ≤ x.2.2.2.2) ∧ SF w [] [] [] [(x.2.2.2.1, prC x.2.2.1)] [] w' := by
  refine enter Try.func66 Try.ntmps66 rfl rfl (SF.s1 hl) ?_
  simp only [mkS]
  all_goals (refine k_seq ?_)
  all_goals refine k_region ?_
  all_goals refine j_alloc (fun x2 => ?_)
  all_goals refine l_nil ?_
  all_goals (refine k_seq ?_)
  all_goals refine k_region ?_
  all_goals refine j_move ?_
  all_goals (refine j_own (cFH (Fc := fun _ => []) (Oc := fun _ => []) (hc := fun w1 hw => new_c)) (fun x6 => ?_); try (refine l_fact (fun h6 => ?_)))
  all_goals refine j_assignL (fun _ => ?_)
  all_goals refine l_nil ?_
  all_goals (refine k_seq ?_)
  all_goals refine k_region ?_
  all_goals refine j_move ?_
  all_goals (refine j_own (cF1 (hc := fun w1 hw => next_c _ (hw.tape (by repeat (first | exact At.head | apply At.tail)) (by first | exact .new .head | exact .new (.tail .head) | exact .new (.tail (.tail .head)) | exact .new (.tail (.tail (.tail .head))) | exact .new (.tail (.tail (.tail (.tail .head)))) | exact .new (.tail (.tail (.tail (.tail (.tail .head))))) | exact .new (.tail (.tail (.tail (.tail (.tail (.tail .head)))))) | exact .new (.tail (.tail (.tail (.tail (.tail (.tail (.tail .head))))))) | exact .new (.tail (.tail (.tail (.tail (.tail (.tail (.tail (.tail .head)))))))) | exact .new (.tail (.tail (.tail (.tail (.tail (.tail (.tail (.tail (.tail .head))))))))) | exact .old .head | exact .old (.tail .head) | exact .old (.tail (.tail .head)) | exact .old (.tail (.tail (.tail .head))) | exact .old (.tail (.tail (.tail (.tail .head)))) | exact .old (.tail (.tail (.tail (.tail (.tail .head))))) | exact .own .head | exact .own (.tail .head) | exact .own (.tail (.tail .head)) | exact .own (.tail (.tail (.tail .head))) | exact .own (.tail (.tail (.tail (.tail .head)))) | exact .own (.tail (.tail (.tail (.tail (.tail .head))))) | exact .own (.tail (.tail (.tail (.tail (.tail (.tail .head)))))) | exact .own (.tail (.tail (.tail (.tail (.tail (.tail (.tail .head)))))))) hlen) (by first | decide | omega) (by first | decide | omega))) (fun x8 => ?_); try (refine l_fact (fun h8 => ?_)))
  all_goals refine j_convert ?_
  all_goals refine j_move ?_
  all_goals (refine j_own (cF1 (hc := fun w1 hw => next_c _ (hw.tape (by repeat (first | exact At.head | apply At.tail)) (by first | exact .new .head | exact .new (.tail .head) | exact .new (.tail (.tail .head)) | exact .new (.tail (.tail (.tail .head))) | exact .new (.tail (.tail (.tail (.tail .head)))) | exact .new (.tail (.tail (.tail (.tail (.tail .head))))) | exact .new (.tail (.tail (.tail (.tail (.tail (.tail .head)))))) | exact .new (.tail (.tail (.tail (.tail (.tail (.tail (.tail .head))))))) | exact .new (.tail (.tail (.tail (.tail (.tail (.tail (.tail (.tail .head)))))))) | exact .new (.tail (.tail (.tail (.tail (.tail (.tail (.tail (.tail (.tail .head))))))))) | exact .old .head | exact .old (.tail .head) | exact .old (.tail (.tail .head)) | exact .old (.tail (.tail (.tail .head))) | exact .old (.tail (.tail (.tail (.tail .head)))) | exact .old (.tail (.tail (.tail (.tail (.tail .head))))) | exact .own .head | exact .own (.tail .head) | exact .own (.tail (.tail .head)) | exact .own (.tail (.tail (.tail .head))) | exact .own (.tail (.tail (.tail (.tail .head)))) | exact .own (.tail (.tail (.tail (.tail (.tail .head))))) | exact .own (.tail (.tail (.tail (.tail (.tail (.tail .head)))))) | exact .own (.tail (.tail (.tail (.tail (.tail (.tail (.tail .head)))))))) hlen) (by first | decide | omega) (by first | decide | omega))) (fun x11 => ?_); try (refine l_fact (fun h11 => ?_)))
  all_goals refine j_build ?_
  all_goals refine j_alloc (fun x4 => ?_)
  all_goals refine j_store (fun _ => ?_)
  all_goals refine l_nil ?_
  all_goals (refine k_seq ?_)
  all_goals refine k_region ?_
  all_goals refine j_move ?_
  all_goals (refine j_own (cF1 (hc := fun w1 hw => prs_own 6 (hw.tp hlen) (by decide) (by decide))) (fun x14 => ?_); try (refine l_fact (fun h14 => ?_)))
  all_goals refine j_build ?_
  all_goals refine j_build ?_
  all_goals refine j_buildSlice (fun x17 => ?_)
  all_goals (refine j_own (Loud.convOF (o_appP (l := x14.2.1) (l2 := mn) (by exact rfl) (by exact rfl) (by repeat (first | exact OAt.head | apply OAt.tail)) rfl (by first | exact .new .head | exact .new (.tail .head) | exact .new (.tail (.tail .head)) | exact .new (.tail (.tail (.tail .head))) | exact .new (.tail (.tail (.tail (.tail .head)))) | exact .new (.tail (.tail (.tail (.tail (.tail .head))))) | exact .new (.tail (.tail (.tail (.tail (.tail (.tail .head)))))) | exact .new (.tail (.tail (.tail (.tail (.tail (.tail (.tail .head))))))) | exact .new (.tail (.tail (.tail (.tail (.tail (.tail (.tail (.tail .head)))))))) | exact .new (.tail (.tail (.tail (.tail (.tail (.tail (.tail (.tail (.tail .head))))))))) | exact .old .head | exact .old (.tail .head) | exact .old (.tail (.tail .head)) | exact .old (.tail (.tail (.tail .head))) | exact .old (.tail (.tail (.tail (.tail .head)))) | exact .old (.tail (.tail (.tail (.tail (.tail .head))))) | exact .own .head | exact .own (.tail .head) | exact .own (.tail (.tail .head)) | exact .own (.tail (.tail (.tail .head))) | exact .own (.tail (.tail (.tail (.tail .head)))) | exact .own (.tail (.tail (.tail (.tail (.tail .head))))) | exact .own (.tail (.tail (.tail (.tail (.tail (.tail .head)))))) | exact .own (.tail (.tail (.tail (.tail (.tail (.tail (.tail .head)))))))) rfl (by exact elem_pairT rfl) (by exact sl_of rfl) (by simp only [mn, List.length_cons, List.length_nil]; omega)) (by intro x; simp only [setO]; exact rfl)) (fun x18 => ?_); try (refine l_fact (fun h18 => ?_)))
  all_goals (refine j_own (cF (hc := fun w1 hw => refOfN_c (l := x14.2.1 ++ mn) (a := x18.1) (by exact List.length_append) (hw.ow .head).cl (by simp only [mn, List.length_cons, List.length_nil]; omega))) (fun x19 => ?_); try (refine l_fact (fun h19 => ?_)))
  all_goals refine j_fieldAddr ?_
  all_goals refine j_store (fun _ => ?_)
  all_goals refine l_nil ?_
  all_goals (refine k_seq ?_)
  all_goals refine k_region ?_
  all_goals refine j_load ?_
  all_goals refine j_store (fun _ => ?_)
  all_goals refine l_nil ?_
  all_goals
    refine k_retvF Try.results66 (.cell (by exact rfl) (by repeat (first | exact At.head | apply At.tail)) (by exact agg_of rfl) .nil) (fun w hw => ?_)
    exact ⟨(x8, x11, ofL (x14.2.1 ++ mn), x19), rfl, ⟨lf_of (by omega) h14.2.2, h19⟩, hw.fin⟩
theorem small_c (n : Nd) (w : World) : Calls Try.prog 74 #[n.v] w fun e w' => ∃ r : Bool, e = .returned (.bool r) ∧ (r = true ↔ n.brN < 100 ∧ n.prN < 40) ∧ St w [] [] w' := by
  refine enter Try.func74 Try.ntmps74 rfl rfl (SF.s0 w) ?_
  simp only [mkS]
  simp only [Nd.v, Nd.cells]
  all_goals (refine k_seq ?_)
  all_goals refine k_region ?_
  all_goals refine j_box (fun x1 => ?_)
  all_goals refine j_assignL (fun _ => ?_)
  all_goals refine l_nil ?_
  all_goals (refine k_seq ?_)
  all_goals refine k_region ?_
  all_goals refine j_fieldAddr ?_
  all_goals refine j_load ?_
  all_goals refine j_len ?_
  all_goals refine j_lss ?_
  all_goals refine j_move ?_
  all_goals (first | refine j_un ?_ | (refine j_yes ?_; refine j_fieldAddr ?_) | (refine l_case (g := 7) (by exact rfl) (fun g7 => ?_) (fun g7 => ?_) <;> (first | replace g7 := of_decide_eq_true g7 | replace g7 := of_decide_eq_false g7 | skip) <;> (first | refine j_un ?_ | (refine j_yes ?_; refine j_fieldAddr ?_))))
  all_goals (first | refine j_un ?_ | (refine j_yes ?_; refine j_load ?_) | (refine l_case (g := 7) (by exact rfl) (fun g7 => ?_) (fun g7 => ?_) <;> (first | replace g7 := of_decide_eq_true g7 | replace g7 := of_decide_eq_false g7 | skip) <;> (first | refine j_un ?_ | (refine j_yes ?_; refine j_load ?_))))
  all_goals (first | refine j_un ?_ | (refine j_yes ?_; refine j_len ?_) | (refine l_case (g := 7) (by exact rfl) (fun g7 => ?_) (fun g7 => ?_) <;> (first | replace g7 := of_decide_eq_true g7 | replace g7 := of_decide_eq_false g7 | skip) <;> (first | refine j_un ?_ | (refine j_yes ?_; refine j_len ?_))))
  all_goals (first | refine j_un ?_ | (refine j_yes ?_; refine j_lss ?_) | (refine l_case (g := 7) (by exact rfl) (fun g7 => ?_) (fun g7 => ?_) <;> (first | replace g7 := of_decide_eq_true g7 | replace g7 := of_decide_eq_false g7 | skip) <;> (first | refine j_un ?_ | (refine j_yes ?_; refine j_lss ?_))))
  all_goals refine j_pick ?_
  all_goals refine j_assignL (fun _ => ?_)
  all_goals refine l_nil ?_
  all_goals
    refine k_retvF Try.results74 (.tmp (by conv => { lhs; whnf }) .nil) (fun w hw => ?_)
    refine ⟨_, rfl, ?_, hw.done⟩
    clear hw
    simp <;> omega
end Go.Proofs.Ythmagkjcangnfaa
