/- Own lists that a callee may change: Wipe. -/
import Derived.Test.YthmagkjcangnfaaShort
set_option linter.unusedSimpArgs false
set_option linter.unusedVariables false
namespace Go.Ct
open Go Go.RowKit
section
variable {P : Program} {S : List (Nat × Value)} {w0 w w' : World} {M : List Nat} {H : List (Nat × Obj)} {A F : Fr} {O : List Ow}
theorem SF.o1 {o : Ow} (h : OwOk w o) : SF w (oblk o.p) [] [] [] [o] w := by
  refine ⟨⟨rfl, rfl, rfl, Nat.le_refl _, fun _ _ _ => rfl, fun _ h => (List.not_mem_nil h).elim, fun _ h => (List.not_mem_nil h).elim, List.nodup_nil⟩, fun _ h => (List.not_mem_nil h).elim, fun _ h => (List.not_mem_nil h).elim, fun o' ho => ?_, ?_⟩
  · simp only [List.mem_singleton] at ho
    subst ho
    exact ⟨h, fun b hb => .inr hb⟩
  · simpa [Ks] using oblk_nodup o.p
theorem SF.ow (h : SF w0 M H A F O w) {i : Nat} {p : Option Addr} {cs : List Value} {c : Nat} {T : TypeId} {sz : Nat} (ho : OAt O i p cs c T sz) : OwOk w ⟨p, cs, c, T, sz⟩ := (h.own _ ho.mem).1
theorem SF.callO (h : SF w0 M H A F O w) {i : Nat} {p : Option Addr} {cs cs' : List Value} {c : Nat} {T : TypeId} {sz : Nat} (ho : OAt O i p cs c T sz) (hc : SF w (oblk p) [] [] [] [⟨p, cs', c, T, sz⟩] w') : SF w0 M H A F (setO O i ⟨p, cs', c, T, sz⟩) w' := by
  have hin : ∀ b ∈ oblk p, b ∈ Ks H O := fun b hb => mem_Ks.2 (.inr ⟨_, ho.mem, hb⟩)
  have nd := List.nodup_append.1 h.dis
  have nd2 := List.nodup_append.1 ((perm_delO ho).nodup_iff.1 nd.2.1)
  have := h.callM (D := oblk p) (Hm := []) (Hc := []) (Om := [⟨p, cs', c, T, sz⟩]) (Oc := []) (H1 := H) (O1 := setO O i ⟨p, cs', c, T, sz⟩) (Fc := []) (by simpa using hc) hin
    (fun q hq => .inr ⟨hq, fun hm => nd.2.2 q.1 (List.mem_map.2 ⟨q, hq, rfl⟩) q.1 (List.mem_flatMap.2 ⟨_, ho.mem, hm⟩) rfl⟩)
    (fun o h1 => by
      rcases setO_mem ho o h1 with rfl | h2
      · exact .inl (List.mem_singleton.2 rfl)
      · exact .inr ⟨(delO_sub O i).subset h2, fun b hb hm => nd2.2.2 b hm b (List.mem_flatMap.2 ⟨o, h2, hb⟩) rfl⟩)
    (by
      unfold Ks
      rw [(List.Perm.append_left _ (perm_setO ho)).nodup_iff]
      exact ((List.Perm.append_left _ (perm_delO ho)).nodup_iff).1 h.dis)
  simpa using this
theorem SF.dropA2 {a1 a2 : Option Addr × List Value} (h : SF w0 M H (a1 :: a2 :: A) F O w) : SF w0 M H A F O w := ⟨h.st, fun f hf => h.old f (List.mem_cons_of_mem _ (List.mem_cons_of_mem _ hf)), h.new, h.own, h.dis⟩
end
theorem rep_next {α : Type} (l : List α) (v : α) {k : Nat} (hk : k < l.length) : (List.replicate k v ++ l.drop k).set k v = List.replicate (k + 1) v ++ l.drop (k + 1) := by
  rw [List.set_append_right _ _ (by simp), List.length_replicate, Nat.sub_self, List.drop_eq_getElem_cons hk, List.set_cons_zero, List.replicate_succ']
  simp
end Go.Ct
namespace Go.Proofs.Ythmagkjcangnfaa
open Go Go.RowKit Go.Ct
variable {S : List (Nat × Value)} {w0 w w' : World} {M : List Nat} {H : List (Nat × Obj)} {A F : Fr} {O : List Ow} {i d : Nat} {ty : TypeId} {pos : String} {af : Array Edge} {gd : Option (Nat × Bool)} {X : Type} {V : X → Value}
theorem cFO {φ : X → Prop} {p : Option Addr} {cs : List Value} {cs' : X → List Value} {c : Nat} {T : TypeId} {sz : Nat} {O1 : X → List Ow} {f : FuncId} {xs : List Operand} {at_ : Array TypeId} {vs : List Value} {dst : Option Nat}
    (ha : evL S xs = vs := by (repeat (first | exact evL_nil _ | (apply evL_cons; focus ((conv => { lhs; whnf }); try exact rfl)))); first | done | fail) (hp : plain Try.prog f = true := by kernel_rfl)
    (ho : OAt O i p cs c T sz) (hc : ∀ w, SF w0 M H A F O w → Calls Try.prog f ⟨vs⟩ w fun e w' => ∃ x, e = .returned (V x) ∧ φ x ∧ SF w (oblk p) [] [] [] [⟨p, cs' x, c, T, sz⟩] w') (hO : ∀ x, setO O i ⟨p, cs' x, c, T, sz⟩ = O1 x := by intro x; simp only [setO]; exact rfl) :
    Loud Try.prog S (SF w0 M H A F O) ⟨dst, .call { callee := .value (.func f), args := ⟨xs⟩, argTypes := at_ }, ty, pos, af, gd⟩ X V (fun x w => φ x ∧ SF w0 M H A F (O1 x) w) :=
  loud_call (run_call hp ha) fun w hw => (hc w hw).mono fun _ _ ⟨x, he, hx, hs⟩ => ⟨x, he, hx, by rw [← hO x]; exact hw.callO ho hs⟩
theorem wipeR_c {l : List Int} {p : Option Addr} {c : Nat} {w : World} (v : Int) (ho : OwOk w ⟨p, refsC l, c, 26, 1⟩) (hl : l.length ≤ 1099511627776) :
    Calls Try.prog 28 #[.slice p l.length c, .int .i64 v] w fun e w' => ∃ x : Unit, e = .returned (.tuple #[]) ∧ True ∧ SF w (oblk p) [] [] [] [⟨p, refsC (List.replicate l.length v), c, 26, 1⟩] w' := by
  refine enter Try.func28 Try.ntmps28 rfl rfl (SF.o1 ho) ?_
  simp only [mkS]
  all_goals (refine k_seq ?_)
  all_goals refine k_region ?_
  all_goals refine j_assignL (fun _ => ?_)
  all_goals refine l_nil ?_
  all_goals (refine k_block ?_)
  all_goals
    refine k_loopF [4, 5, 6, 7, 8, 9, 10, 11, 12, 13, 14] (fun k => [(4, .int .i64 ((k : Nat) : Int))]) (fun k => k ≤ l.length) (fun _ => _) (fun _ => _) (fun k => [⟨p, refsC (List.replicate k v ++ l.drop k), c, 26, 1⟩]) (fun k => l.length - k) (0) (by decide) (fun _ => by exact rfl) ?_ (Nat.zero_le _) (fun w hw => by simpa using hw.back) (fun k f hx => ?_)
    · repeat (first | exact knows_nil _ | refine knows_cons (by first | exact rfl | (conv => { lhs; whnf }; simp; done)) ?_)
    dsimp only [mkU, List.map, List.cons_append, List.nil_append]
    have hlen : (List.replicate k v ++ l.drop k).length = l.length := by simp; omega
    all_goals (refine k_seq ?_)
    all_goals (refine k_seq ?_)
    all_goals refine k_region ?_
    all_goals refine j_move ?_
    all_goals refine j_move ?_
    all_goals refine j_len ?_
    all_goals refine j_lss ?_
    all_goals refine l_nil ?_
    all_goals
      refine k_cond (by exact rfl) (fun c8 => ?_) (fun c8 => ?_)
      · try (exact absurd c8 (by decide))
        all_goals (first | replace c8 := of_decide_eq_true c8 | replace c8 := sbeq_t c8 | replace c8 := sbne_t c8 | replace c8 := ibeq_t c8 | replace c8 := ibne_t c8 | replace c8 := ndec_t c8 | replace c8 := not_t c8 | skip)
        all_goals (refine k_skip ?_)
        all_goals (refine k_seq ?_)
        all_goals (refine k_block ?_)
        all_goals refine k_region ?_
        all_goals refine j_move ?_
        all_goals refine j_move ?_
        all_goals refine j_move ?_
        all_goals refine j_indexAddr ?_
        all_goals refine j_store (fun _ => ?_)
        all_goals refine l_nil ?_
        all_goals (refine k_blk ?_)
        all_goals refine k_region ?_
        all_goals refine j_move ?_
        all_goals refine j_inc ?_
        all_goals refine j_assignL (fun _ => ?_)
        all_goals refine l_nil ?_
        all_goals
          refine k_roundF (k + 1) ?_ ?_ (by repeat (first | (with_reducible exact Pre.refl) | refine Pre.cons (by exact rfl) ?_)) ?_ (fun w hw => by rw [rep_next l v (by omega)] at hw; exact hw.back)
          · first | omega | (simp only []; omega)
          · repeat' (first | exact knows_nil _ | refine knows_cons ?_ ?_)
            all_goals (first | exact rfl | (conv => { lhs; whnf }; simp; done) | (conv => { lhs; whnf }; congr 1; omega))
          · omega
      · try (exact absurd c8 (by decide))
        all_goals (first | replace c8 := of_decide_eq_false c8 | replace c8 := sbeq_f c8 | replace c8 := sbne_f c8 | replace c8 := ibeq_f c8 | replace c8 := ibne_f c8 | replace c8 := ndec_f c8 | replace c8 := not_f c8 | skip)
        all_goals (refine k_exit rfl ?_)
        all_goals
          refine k_endvF Try.results28 .nil (fun w hw => ?_)
          have hk : k = l.length := by omega
          subst hk
          rw [List.drop_length, List.append_nil] at hw
          exact ⟨(), rfl, trivial, hw.finH⟩
theorem wipeP_c {l : List Pr} {p : Option Addr} {c : Nat} {w : World} (s : ByteArray) (v : Int) (ho : OwOk w ⟨p, prC l, c, 37, 2⟩) (hl : l.length ≤ 1099511627776) :
    Calls Try.prog 29 #[.slice p l.length c, .agg ⟨[.string s, .int .u64 v]⟩] w fun e w' => ∃ x : Unit, e = .returned (.tuple #[]) ∧ True ∧ SF w (oblk p) [] [] [] [⟨p, prC (List.replicate l.length (s, v)), c, 37, 2⟩] w' := by
  refine enter Try.func29 Try.ntmps29 rfl rfl (SF.o1 ho) ?_
  simp only [mkS]
  all_goals (refine k_seq ?_)
  all_goals refine k_region ?_
  all_goals refine j_box (fun x3 => ?_)
  all_goals refine l_nil ?_
  all_goals (refine k_seq ?_)
  all_goals refine k_region ?_
  all_goals refine j_assignL (fun _ => ?_)
  all_goals refine l_nil ?_
  all_goals (refine k_block ?_)
  all_goals
    refine k_loopF [4, 5, 6, 7, 8, 9, 10, 11, 12, 13, 14] (fun k => [(4, .int .i64 ((k : Nat) : Int))]) (fun k => k ≤ l.length) (fun _ => _) (fun _ => _) (fun k => [⟨p, prC (List.replicate k (s, v) ++ l.drop k), c, 37, 2⟩]) (fun k => l.length - k) (0) (by decide) (fun _ => by exact rfl) ?_ (Nat.zero_le _) (fun w hw => by simpa using hw.back) (fun k f hx => ?_)
    · repeat (first | exact knows_nil _ | refine knows_cons (by first | exact rfl | (conv => { lhs; whnf }; simp; done)) ?_)
    dsimp only [mkU, List.map, List.cons_append, List.nil_append]
    have hlen : (List.replicate k (s, v) ++ l.drop k).length = l.length := by simp; omega
    all_goals (refine k_seq ?_)
    all_goals (refine k_seq ?_)
    all_goals refine k_region ?_
    all_goals refine j_move ?_
    all_goals refine j_move ?_
    all_goals refine j_len ?_
    all_goals refine j_lss ?_
    all_goals refine l_nil ?_
    all_goals
      refine k_cond (by exact rfl) (fun c8 => ?_) (fun c8 => ?_)
      · try (exact absurd c8 (by decide))
        all_goals (first | replace c8 := of_decide_eq_true c8 | replace c8 := sbeq_t c8 | replace c8 := sbne_t c8 | replace c8 := ibeq_t c8 | replace c8 := ibne_t c8 | replace c8 := ndec_t c8 | replace c8 := not_t c8 | skip)
        all_goals (refine k_skip ?_)
        all_goals (refine k_seq ?_)
        all_goals (refine k_block ?_)
        all_goals refine k_region ?_
        all_goals refine j_move ?_
        all_goals refine j_move ?_
        all_goals refine j_load ?_
        all_goals refine j_indexAddr ?_
        all_goals refine j_store (fun _ => ?_)
        all_goals refine l_nil ?_
        all_goals (refine k_blk ?_)
        all_goals refine k_region ?_
        all_goals refine j_move ?_
        all_goals refine j_inc ?_
        all_goals refine j_assignL (fun _ => ?_)
        all_goals refine l_nil ?_
        all_goals
          refine k_roundF (k + 1) ?_ ?_ (by repeat (first | (with_reducible exact Pre.refl) | refine Pre.cons (by exact rfl) ?_)) ?_ (fun w hw => by rw [rep_next l (s, v) (by omega)] at hw; exact hw.back)
          · first | omega | (simp only []; omega)
          · repeat' (first | exact knows_nil _ | refine knows_cons ?_ ?_)
            all_goals (first | exact rfl | (conv => { lhs; whnf }; simp; done) | (conv => { lhs; whnf }; congr 1; omega))
          · omega
      · try (exact absurd c8 (by decide))
        all_goals (first | replace c8 := of_decide_eq_false c8 | replace c8 := sbeq_f c8 | replace c8 := sbne_f c8 | replace c8 := ibeq_f c8 | replace c8 := ibne_f c8 | replace c8 := ndec_f c8 | replace c8 := not_f c8 | skip)
        all_goals (refine k_exit rfl ?_)
        all_goals
          refine k_endvF Try.results29 .nil (fun w hw => ?_)
          have hk : k = l.length := by omega
          subst hk
          rw [List.drop_length, List.append_nil] at hw
          exact ⟨(), rfl, trivial, hw.finH⟩
end Go.Proofs.Ythmagkjcangnfaa
