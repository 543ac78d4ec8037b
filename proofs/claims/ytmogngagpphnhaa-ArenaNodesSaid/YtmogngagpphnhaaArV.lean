/- Copies of arenas; an arena and a memory are compared. -/
import Derived.Test.YtmogngagpphnhaaArQ
set_option linter.unusedSimpArgs false
set_option linter.unusedVariables false
namespace Go.Proofs.Ytmogngagpphnhaa
open Go Go.RowKit Go.Ct
section
variable {S : List (Nat × Value)} {w0 w : World} {M : List Nat} {H : List (Nat × Obj)} {A F : Fr} {O : List Ow} {ty : TypeId} {pos : String} {af : Array Edge} {gd : Option (Nat × Bool)} {X : Type} {V : X → Value}
/-- A call that may change known blocks and own lists, and leaves new known blocks and own lists. -/
theorem cMH {φ : X → Prop} {hs H' : List (Nat × Obj)} {os O' : List Ow} {hs' Hc H1 : X → List (Nat × Obj)} {os' Oc O1 : X → List Ow} {Fc F1 : X → Fr} {A0 : Fr} {is js : List Nat} {f : FuncId} {xs : List Operand} {at_ : Array TypeId} {vs : List Value} {dst : Option Nat}
    (ha : evL S xs = vs := by (repeat (first | exact evL_nil _ | (apply evL_cons; focus ((conv => { lhs; whnf }); try exact rfl)))); first | done | fail) (hp : plain Try.prog f = true := by kernel_rfl)
    (hc : ∀ w, SF w (Ks hs os) hs A0 [] os w → Calls Try.prog f ⟨vs⟩ w fun e w' => ∃ x, e = .returned (V x) ∧ φ x ∧ SF w (Ks hs os) (hs' x ++ Hc x) [] (Fc x) (os' x ++ Oc x) w')
    (hH : Ats H is hs H' := by (repeat (first | exact Ats.nil | (apply Ats.cons; (focus ((repeat (first | exact LAt.head | apply LAt.tail)); done)); simp only [delA]))); first | done | fail)
    (hO : Ats O js os O' := by (repeat (first | exact Ats.nil | (apply Ats.cons; (focus ((repeat (first | exact LAt.head | apply LAt.tail)); done)); simp only [delA]))); first | done | fail)
    (hA : HasAll A F O' A0 := by (repeat (first | exact HasAll.of (fun _ h => Or.inr (Or.inl h)) | exact HasAll.nil | (refine HasAll.cons (by first | exact Or.inl rfl | exact Or.inr (Or.inr (Or.inl (by simp))) | exact Or.inr (Or.inl (by simp)) | exact Or.inr (Or.inr (Or.inr (by simp)))) ?_))); first | done | fail)
    (hl1 : ∀ x, is.length = (hs' x).length := by intro x; exact rfl) (hl2 : ∀ x, js.length = (os' x).length := by intro x; exact rfl)
    (hH1 : ∀ x, Hc x ++ putA is (hs' x) H' = H1 x := by intro x; first | (simp only [putA, insA, List.nil_append, List.cons_append]; exact rfl) | exact rfl) (hF1 : ∀ x, Fc x ++ F = F1 x := by intro x; first | (simp only [List.nil_append, List.cons_append]; exact rfl) | exact rfl) (hO1 : ∀ x, Oc x ++ putA js (os' x) O' = O1 x := by intro x; simp only [putA, insA, mW, List.nil_append, List.cons_append]; exact rfl) :
    Loud Try.prog S (SF w0 M H A F O) ⟨dst, .call { callee := .value (.func f), args := ⟨xs⟩, argTypes := at_ }, ty, pos, af, gd⟩ X V (fun x w => φ x ∧ SF w0 M (H1 x) A (F1 x) (O1 x) w) :=
  loud_call (run_call hp ha) fun w hw => (hc w (hw.memStart hH hO hA)).mono fun _ _ ⟨x, he, hx, hs⟩ => ⟨x, he, hx, by
    have := hw.callMem (hs' := hs' x) (Hc := Hc x) (os' := os' x) (Oc := Oc x) hH hO hs (hl1 x) (hl2 x)
    rw [← hH1 x, ← hF1 x, ← hO1 x]
    exact this⟩
end
section
variable {w : World} {D : List Nat} {b : Nat} {L : List NdV} {cs : List Int} {gen acc : Int} {pn pc : Option Addr} {cn cc : Nat} {A : Fr}
theorem aCopy_c (hs : SF w D [(b, aO L cs gen acc pn cn pc cc)] A [] (mW L cs pn cn pc cc) w) (hl : L.length ≤ 274877906944) (hc : cs.length ≤ 274877906944) :
    Calls Try.prog 36 #[.pointer (some ⟨b, 0, none⟩)] w fun e w' => ∃ q : Nat × (Option Addr × Nat) × (Option Addr × Nat), e = .returned (.pointer (some ⟨q.1, 0, none⟩)) ∧ True ∧
    SF w D ([(b, aO L cs gen acc pn cn pc cc)] ++ [(q.1, aO L cs gen 0 q.2.1.1 q.2.1.2 q.2.2.1 q.2.2.2)]) [] [] (mW L cs pn cn pc cc ++ mW L cs q.2.1.1 q.2.1.2 q.2.2.1 q.2.2.2) w' := by
  refine enter Try.func36 Try.ntmps36 rfl rfl (aOpen hs) ?_
  simp only [mkS]
  all_goals (refine k_seq ?_)
  all_goals refine k_region ?_
  all_goals refine j_assignL (fun _ => ?_)
  all_goals refine l_nil ?_
  all_goals (refine k_seq ?_)
  all_goals refine k_drawF (.one 0 [] (.one 1 [] (.one 2 [] (.one 3 [] (.one 5 [] (.one 6 [] (.one 7 [] (.one 8 [] (.one 10 [] (.one 11 [] (.one 12 [] (.one 13 [] (.one 4 [8, 13] (.one 9 [13] (.one 14 [] (.one 15 [] (.one 16 [] .nil))))))))))))))))) ?_
  all_goals (refine r_move (i := 0) ?_)
  all_goals (refine r_nilCheck (i := 1) ?_)
  all_goals (refine r_fieldAddr (i := 2) ?_)
  all_goals (refine r_load (i := 3) ?_)
  all_goals (refine r_move (i := 5) ?_)
  all_goals (refine r_nilCheck (i := 6) ?_)
  all_goals (refine r_fieldAddr (i := 7) ?_)
  all_goals (refine r_load (i := 8) ?_)
  all_goals (refine r_move (i := 10) ?_)
  all_goals (refine r_nilCheck (i := 11) ?_)
  all_goals (refine r_fieldAddr (i := 12) ?_)
  all_goals (refine r_load (i := 13) ?_)
  all_goals ((refine r_own (i := 4) (hq := (cFH (Hc := fun _ => []) (Fc := fun _ => []) (hc := fun w1 hw => slCloneN_c (hw.cl (by first | exact .new .head | exact .new (.tail .head) | exact .new (.tail (.tail .head)) | exact .new (.tail (.tail (.tail .head))) | exact .new (.tail (.tail (.tail (.tail .head)))) | exact .new (.tail (.tail (.tail (.tail (.tail .head))))) | exact .new (.tail (.tail (.tail (.tail (.tail (.tail .head)))))) | exact .new (.tail (.tail (.tail (.tail (.tail (.tail (.tail .head))))))) | exact .new (.tail (.tail (.tail (.tail (.tail (.tail (.tail (.tail .head)))))))) | exact .new (.tail (.tail (.tail (.tail (.tail (.tail (.tail (.tail (.tail .head))))))))) | exact .old .head | exact .old (.tail .head) | exact .old (.tail (.tail .head)) | exact .old (.tail (.tail (.tail .head))) | exact .old (.tail (.tail (.tail (.tail .head)))) | exact .old (.tail (.tail (.tail (.tail (.tail .head))))) | exact .own .head | exact .own (.tail .head) | exact .own (.tail (.tail .head)) | exact .own (.tail (.tail (.tail .head))) | exact .own (.tail (.tail (.tail (.tail .head)))) | exact .own (.tail (.tail (.tail (.tail (.tail .head))))) | exact .own (.tail (.tail (.tail (.tail (.tail (.tail .head)))))) | exact .own (.tail (.tail (.tail (.tail (.tail (.tail (.tail .head))))))))) hl))) (hfire := (fun _ => by first | ((repeat (first | exact FireAll.nil | refine FireAll.cons (by first | exact a_load | exact a_un) ?_)); done) | (refine fireall_fact ?_; (repeat (first | exact FireAll.nil | refine FireAll.cons (by first | exact a_load | exact a_un) ?_)); done))) (h := fun x7 => ?_); try (refine r_fact (fun h7 => ?_))))
  all_goals ((refine r_own (i := 9) (hq := (cFH (Hc := fun _ => []) (Fc := fun _ => []) (hc := fun w1 hw => slCloneR_c (hw.cl (by first | exact .new .head | exact .new (.tail .head) | exact .new (.tail (.tail .head)) | exact .new (.tail (.tail (.tail .head))) | exact .new (.tail (.tail (.tail (.tail .head)))) | exact .new (.tail (.tail (.tail (.tail (.tail .head))))) | exact .new (.tail (.tail (.tail (.tail (.tail (.tail .head)))))) | exact .new (.tail (.tail (.tail (.tail (.tail (.tail (.tail .head))))))) | exact .new (.tail (.tail (.tail (.tail (.tail (.tail (.tail (.tail .head)))))))) | exact .new (.tail (.tail (.tail (.tail (.tail (.tail (.tail (.tail (.tail .head))))))))) | exact .old .head | exact .old (.tail .head) | exact .old (.tail (.tail .head)) | exact .old (.tail (.tail (.tail .head))) | exact .old (.tail (.tail (.tail (.tail .head)))) | exact .old (.tail (.tail (.tail (.tail (.tail .head))))) | exact .own .head | exact .own (.tail .head) | exact .own (.tail (.tail .head)) | exact .own (.tail (.tail (.tail .head))) | exact .own (.tail (.tail (.tail (.tail .head)))) | exact .own (.tail (.tail (.tail (.tail (.tail .head))))) | exact .own (.tail (.tail (.tail (.tail (.tail (.tail .head)))))) | exact .own (.tail (.tail (.tail (.tail (.tail (.tail (.tail .head))))))))) hc))) (hfire := (fun _ => by first | (refine FireAll.cons (by first | exact a_load | exact a_un) ?_; exact FireAll.nil) | (refine fireall_fact ?_; refine FireAll.cons (by first | exact a_load | exact a_un) ?_; exact FireAll.nil))) (h := fun x12 => ?_); try (refine r_fact (fun h12 => ?_))))
  all_goals (refine r_build (i := 14) ?_)
  all_goals (refine r_box (i := 15) (hfire := (fun _ => .nil)) (h := fun x18 => ?_))
  all_goals (refine r_assignL (i := 16) (hfire := (fun _ => .nil)) (h := fun _ => ?_))
  all_goals refine r_fin ?_
  all_goals
    refine k_retvF Try.results36 (.tmp (by conv => { lhs; whnf }) .nil) (fun w hw => ?_)
    refine ⟨(x18, x7, x12), rfl, trivial, ?_⟩
    have h1 : SF _ _ [(b, aO L cs gen acc pn cn pc cc), (x18, aO L cs gen 0 x7.1 x7.2 x12.1 x12.2)] _ _ (mW L cs pn cn pc cc ++ mW L cs x7.1 x7.2 x12.1 x12.2) _ := hw.perm (List.Perm.swap _ _ _) ((List.perm_append_comm (l₁ := mW L cs pn cn pc cc) (l₂ := mW L cs x7.1 x7.2 x12.1 x12.2)).trans (List.Perm.swap _ _ _))
    exact h1.ret (List.Sublist.refl _) FSub.all (List.Sublist.refl _)
end
theorem same2_c {s : PS} {ba bm : Nat} {D : List Nat} {A : Fr} {w : World} (hs : SF w D (pHs s ba bm) A [] (pOs s) w) (hr : s.Rel) (hacc : s.acca = s.accm) (hA1 : ∀ f ∈ famF s.La, f ∈ A) (hA2 : ∀ f ∈ famF s.Lm, f ∈ A) (hL : s.Lm.length ≤ 1000) (hC : s.cs.length ≤ 1000) :
    Calls Try.prog 38 #[.pointer (some ⟨ba, 0, none⟩), .pointer (some ⟨bm, 0, none⟩)] w fun e w' => ∃ x : Unit, e = .returned (.bool true) ∧ True ∧ SF w D (pHs s ba bm) [] [] (pOs s) w' := by
  have hlen := hr.len
  refine enter Try.func38 Try.ntmps38 rfl rfl (pOpen hs) ?_
  simp only [mkS]
  all_goals (refine k_seq ?_)
  all_goals refine k_region ?_
  all_goals refine j_assignL (fun _ => ?_)
  all_goals refine l_nil ?_
  all_goals (refine k_seq ?_)
  all_goals refine k_region ?_
  all_goals refine j_move ?_
  all_goals (refine j_own (cM (hc := fun w hs => aCounts_c (L := s.La) (cs := s.cs) hs (by omega))) (fun x10 => ?_); try (refine l_fact (fun h10 => ?_)))
  all_goals refine j_move ?_
  all_goals refine j_extract ?_
  all_goals refine j_extract ?_
  all_goals refine j_extract ?_
  all_goals refine j_assignL (fun _ => ?_)
  all_goals refine j_assignL (fun _ => ?_)
  all_goals refine j_assignL (fun _ => ?_)
  all_goals refine l_nil ?_
  all_goals (refine k_seq ?_)
  all_goals refine k_drawF (.one 0 [] (.one 2 [] (.one 3 [] (.one 4 [] (.one 5 [] (.one 1 [5] (.one 6 [] (.one 7 [] (.one 8 [] (.one 9 [] (.one 10 [] (.one 11 [] (.one 12 [] (.one 13 [] (.one 14 [] (.one 15 [] (.one 16 [] (.one 17 [] (.one 18 [] (.one 19 [] (.one 20 [] (.one 21 [] (.one 22 [] (.one 23 [] (.one 24 [] (.one 25 [] (.one 26 [] (.one 27 [] (.one 28 [] (.one 29 [] (.one 30 [] (.one 31 [] (.one 32 [] (.one 33 [] (.one 34 [] (.one 35 [] .nil)))))))))))))))))))))))))))))))))))) ?_
  all_goals (refine r_move (i := 0) ?_)
  all_goals (refine r_move (i := 2) ?_)
  all_goals (refine r_nilCheck (i := 3) ?_)
  all_goals (refine r_fieldAddr (i := 4) ?_)
  all_goals (refine r_ownQ (i := 5) (hq := (o_loadPart (k := 3) (by exact rfl) (by repeat (first | exact At.head | apply At.tail)) (by exact agg_of rfl) (by simp only [List.drop_zero, List.take_succ_cons, List.take_zero]; exact rfl) rfl)) (h := ?_))
  all_goals ((refine r_own (i := 1) (hq := (cMO (A0 := famF s.La) (hA := HasAll.of fun f hf => .inr (.inl (hA1 f hf))) (hc := fun w hs => aState_c (L := s.La) (cs := s.cs) hs hr.fa (by omega) (by omega)))) (hfire := (fun _ => by first | (refine FireAll.cons (by first | exact a_own (hq := o_loadPart (k := 3) (by exact rfl) (by repeat (first | exact At.head | apply At.tail)) (by exact agg_of rfl) (by simp only [List.drop_zero, List.take_succ_cons, List.take_zero]; exact rfl) rfl) | exact a_un) ?_; exact FireAll.nil) | (refine fireall_fact ?_; refine FireAll.cons (by first | exact a_own (hq := o_loadPart (k := 3) (by exact rfl) (by repeat (first | exact At.head | apply At.tail)) (by exact agg_of rfl) (by simp only [List.drop_zero, List.take_succ_cons, List.take_zero]; exact rfl) rfl) | exact a_un) ?_; exact FireAll.nil))) (h := fun x15 => ?_); try (refine r_fact (fun h15 => ?_))))
  all_goals ((refine r_own (i := 6) (hq := (cV (hc := fun w hw => sameT_c (L1 := x15.1) (L2 := s.Lm) (cs1 := s.cs) (cs2 := s.cs) (hw.stAt (.inr (.inr (.inr ⟨_, .head _, rfl, rfl⟩))) (.inr (.inr (.inr ⟨_, .tail _ (.head _), rfl, rfl⟩))) (fun f hf => .inr (.inr (.inl (by simpa using hf)))) h15.2) (hw.stAt (.inr (.inr (.inr ⟨_, .tail _ (.tail _ (.tail _ (.tail _ (.head _)))), rfl, rfl⟩))) (.inr (.inr (.inr ⟨_, .tail _ (.tail _ (.tail _ (.tail _ (.tail _ (.head _))))), rfl, rfl⟩))) (fun f hf => .inr (.inl (hA2 f hf))) hr.fm) (by have h1 := congrArg List.length h15.1; simp only [List.length_map, allV_length] at h1; omega) (by omega) (by omega) ⟨h15.1.trans hr.same, rfl, rfl⟩))) (hfire := (fun _ => .nil)) (h := fun x20 => ?_); try (refine r_fact (fun h20 => ?_))))
  all_goals (refine r_move (i := 7) ?_)
  all_goals (first | refine r_un (i := 8) ?_ | (refine r_move (i := 8) ?_) | (refine r_case (g := 21) (by exact rfl) (fun g21 => ?_) (fun g21 => ?_) <;> (revert g21; (first | refine cv1 ?_ | refine cv2 ?_ | refine cvb ?_ | refine cvc ?_ | refine cv9 ?_ | refine cva ?_ | refine cv7 ?_ | refine cv8 ?_ | refine cvd ?_ | refine cve ?_ | skip); intro g21) <;> (try (exfalso; omega)) <;> (first | refine r_un (i := 8) ?_ | (refine r_move (i := 8) ?_))))
  all_goals (first | refine r_un (i := 9) ?_ | (refine r_move (i := 9) ?_))
  all_goals (first | refine r_un (i := 10) ?_ | (refine r_nilCheck (i := 10) ?_))
  all_goals (first | refine r_un (i := 11) ?_ | (refine r_fieldAddr (i := 11) ?_))
  all_goals (first | refine r_un (i := 12) ?_ | (refine r_fieldAddr (i := 12) ?_))
  all_goals (first | refine r_un (i := 13) ?_ | (refine r_load (i := 13) ?_))
  all_goals (first | refine r_un (i := 14) ?_ | (refine r_len (i := 14) ?_))
  all_goals (first | refine r_un (i := 15) ?_ | (refine r_eql (i := 15) ?_))
  all_goals (refine r_pick (i := 16) ?_)
  all_goals (refine r_move (i := 17) ?_)
  all_goals (first | refine r_un (i := 18) ?_ | (refine r_move (i := 18) ?_) | (refine r_case (g := 31) (by exact rfl) (fun g31 => ?_) (fun g31 => ?_) <;> (revert g31; (first | refine cv1 ?_ | refine cv2 ?_ | refine cvb ?_ | refine cvc ?_ | refine cv9 ?_ | refine cva ?_ | refine cv7 ?_ | refine cv8 ?_ | refine cvd ?_ | refine cve ?_ | skip); intro g31) <;> (try (exfalso; omega)) <;> (first | refine r_un (i := 18) ?_ | (refine r_move (i := 18) ?_))))
  all_goals (first | refine r_un (i := 19) ?_ | (refine r_move (i := 19) ?_))
  all_goals (first | refine r_un (i := 20) ?_ | (refine r_nilCheck (i := 20) ?_))
  all_goals (first | refine r_un (i := 21) ?_ | (refine r_fieldAddr (i := 21) ?_))
  all_goals (first | refine r_un (i := 22) ?_ | (refine r_fieldAddr (i := 22) ?_))
  all_goals (first | refine r_un (i := 23) ?_ | (refine r_load (i := 23) ?_))
  all_goals (first | refine r_un (i := 24) ?_ | (refine r_len (i := 24) ?_))
  all_goals (first | refine r_un (i := 25) ?_ | (refine r_eql (i := 25) ?_))
  all_goals (refine r_pick (i := 26) ?_)
  all_goals (refine r_move (i := 27) ?_)
  all_goals (first | refine r_un (i := 28) ?_ | (refine r_move (i := 28) ?_) | (refine r_case (g := 41) (by exact rfl) (fun g41 => ?_) (fun g41 => ?_) <;> (revert g41; (first | refine cv1 ?_ | refine cv2 ?_ | refine cvb ?_ | refine cvc ?_ | refine cv9 ?_ | refine cva ?_ | refine cv7 ?_ | refine cv8 ?_ | refine cvd ?_ | refine cve ?_ | skip); intro g41) <;> (try (exfalso; omega)) <;> (first | refine r_un (i := 28) ?_ | (refine r_move (i := 28) ?_))))
  all_goals (first | refine r_un (i := 29) ?_ | (refine r_move (i := 29) ?_))
  all_goals (first | refine r_un (i := 30) ?_ | (refine r_nilCheck (i := 30) ?_))
  all_goals (first | refine r_un (i := 31) ?_ | (refine r_fieldAddr (i := 31) ?_))
  all_goals (first | refine r_un (i := 32) ?_ | (refine r_load (i := 32) ?_))
  all_goals (first | refine r_un (i := 33) ?_ | (refine r_eql (i := 33) ?_))
  all_goals (refine r_pick (i := 34) ?_)
  all_goals (refine r_assignL (i := 35) (hfire := (fun _ => .nil)) (h := fun _ => ?_))
  all_goals refine r_fin ?_
  all_goals
    refine k_retvF Try.results38 (.tmp (by conv => { lhs; whnf }) .nil) (fun w hw => ?_)
    exact ⟨(), beq_ret hacc, trivial, hw.ret (List.Sublist.refl _) (FSub.ofSub fun f hf => (List.not_mem_nil hf).elim) (by repeat (first | exact List.Sublist.refl _ | apply List.Sublist.cons))⟩
end Go.Proofs.Ytmogngagpphnhaa
