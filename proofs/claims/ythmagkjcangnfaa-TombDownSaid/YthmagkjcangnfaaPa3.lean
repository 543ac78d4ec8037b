/- Pairs: Find, Put, Drop of the program. -/
import Derived.Test.YthmagkjcangnfaaPa2
set_option linter.unusedSimpArgs false
set_option linter.unusedVariables false
namespace Go.Ct
open Go Go.RowKit
section
variable {P : Program} {n : Nat} {S : List (Nat × Value)}
variable {w0 w w' : World} {M : List Nat} {H H' : List (Nat × Obj)} {A F F' : Fr} {O O' : List Ow} {G : World → Prop}
variable {d : Nat} {ty : TypeId} {pos : String} {af : Array Edge} {gd : Option (Nat × Bool)} {dst : Option Nat} {x y z : Operand} {t t2 e : TypeId} {p a : Option Addr} {i m k c c2 : Nat}
/-- A pair list's tail lies there. -/
def tlP (a : Option Addr) (k c : Nat) : Option Addr := if c = k then a else a.map (·.add (2 * k))
theorem o_tailQP (hx : ev S x = .slice a m c) (hy : ev S y = .int .i64 ((k : Nat) : Int)) (ht : P.underlying t = some (.slice e)) (hs : (P.info? e).map (·.size) = some 2) (hk : k ≤ m) (hmc : m ≤ c) :
    Quiet P S G ⟨some d, .slice t x (some y) none none, ty, pos, af, gd⟩ (.slice (tlP a k c) (m - k) (c - k)) := ⟨fun w _ => by
  have he : P.elem t = e := by simp [Program.elem, ht]
  have ht' : P.underlying t = some (.slice (P.elem t)) := by rw [he]; exact ht
  cases hi : P.info? e with
  | none => simp [hi] at hs
  | some inf =>
    have hs' : inf.size = 2 := by simpa [hi] using hs
    have hr := run_slice_l (P := P) w t a m c ht' .i64 (k : Int) (by omega) (by omega)
    refine run_sl (v := .slice (tlP a k c) (m - k) (c - k)) ?_
    simp [hx, hy, run_sliceAt_slice w t _ _ _ _ ht', hr, he, sizeOf, typeInfo, hi, hs', sliced, tlP, Nat.mul_comm]⟩
theorem SF.tailP (h : SF w0 M H A F O w) {l : List Pr} (hf : FIn A F [] a (prC l)) (hc : l.length ≤ c) : SF w0 M H ((tlP a k c, prC (l.drop k)) :: A) F O w := by
  have e : prC (l.drop k) = (prC l).drop (2 * k) := by rw [drop_prC]
  rw [e]
  refine h.addOld hf (fun hn => ?_) (fun h => by rw [h]; simp) (fun w hc' => ?_)
  · unfold tlP
    split
    · rfl
    · cases a with
      | none => rfl
      | some a =>
        obtain ⟨b, o, s⟩ := a
        simp only [Option.map_some, ablk, Addr.add]
        split <;> rfl
  · unfold tlP
    split
    · rename_i heq
      have : (prC l).drop (2 * k) = [] := List.drop_eq_nil_of_le (by rw [prC_length]; omega)
      rw [this]
      exact Cl.nil _ _
    · exact hc'.drop _
theorem SF.headP (h : SF w0 M H A F O w) {l : List Pr} (hf : FIn A F [] a (prC l)) : SF w0 M H ((a, prC (l.take k)) :: A) F O w := by
  have e : prC (l.take k) = (prC l).take (2 * k) := by rw [take_prC]
  rw [e]
  exact h.addOld hf (fun _ => rfl) (fun h => by rw [h]; simp) (fun w hc => hc.take (List.take_prefix _ _))
/-- l[k:] of an own list. -/
theorem o_tailOQ {b : Nat} (hx : ev S x = .slice (some ⟨b, 0, none⟩) m c) (hy : ev S y = .int .i64 ((k : Nat) : Int)) (ht : P.underlying t = some (.slice e)) (hs : (P.info? e).map (·.size) = some 2) (hk : k ≤ m) (hmc : m ≤ c) :
    Quiet P S G ⟨some d, .slice t x (some y) none none, ty, pos, af, gd⟩ (.slice (some ⟨b, 2 * (if c = k then 0 else k), none⟩) (m - k) (c - k)) := by
  have := o_tailQP (P := P) (G := G) (d := d) (ty := ty) (pos := pos) (af := af) (gd := gd) hx hy ht hs hk hmc
  rw [show tlP (some ⟨b, 0, none⟩) k c = some ⟨b, 2 * (if c = k then 0 else k), none⟩ by
    unfold tlP
    split
    · rfl
    · simp [Addr.add_lit]] at this
  exact this
end
end Go.Ct
namespace Go.Proofs.Ythmagkjcangnfaa
open Go.RowKit Go.Ct
section
variable {l : List Pr} {a : Option Addr} {c : Nat} {k : ByteArray} {v : Int} {w : World}
theorem prPos_c (ha : Cl w a (prC l)) (hs : SA l) (hlen : l.length ≤ 1099511627775) :
    Calls Try.prog 107 #[.slice a l.length c, .string k] w fun e w' => ∃ i : Nat, e = .returned (.tuple #[.int .i64 (i : Int), .bool (decide (i < l.length ∧ (l.getD i (⟨#[]⟩, 0)).1 = k))]) ∧ PosAt l k i ∧ St w [] [] w' := by
  refine enter Try.func107 Try.ntmps107 rfl rfl (SF.s1 ha) ?_
  simp only [mkS]
  all_goals (refine k_seq ?_)
  all_goals refine k_region ?_
  all_goals refine j_assignL (fun _ => ?_)
  all_goals refine j_assignL (fun _ => ?_)
  all_goals refine l_nil ?_
  all_goals (refine k_seq ?_)
  all_goals refine k_region ?_
  all_goals refine j_move ?_
  all_goals refine j_move ?_
  all_goals (refine j_own (c0 (V := fun i : Nat => .tuple #[.int .i64 (i : Int), .bool (decide (i < l.length ∧ (l.getD i (⟨#[]⟩, 0)).1 = k))]) (hc := fun w1 hw => bsearch_c (hw.cl (by first | exact .new .head | exact .new (.tail .head) | exact .new (.tail (.tail .head)) | exact .new (.tail (.tail (.tail .head))) | exact .new (.tail (.tail (.tail (.tail .head)))) | exact .new (.tail (.tail (.tail (.tail (.tail .head))))) | exact .new (.tail (.tail (.tail (.tail (.tail (.tail .head)))))) | exact .new (.tail (.tail (.tail (.tail (.tail (.tail (.tail .head))))))) | exact .new (.tail (.tail (.tail (.tail (.tail (.tail (.tail (.tail .head)))))))) | exact .new (.tail (.tail (.tail (.tail (.tail (.tail (.tail (.tail (.tail .head))))))))) | exact .old .head | exact .old (.tail .head) | exact .old (.tail (.tail .head)) | exact .old (.tail (.tail (.tail .head))) | exact .old (.tail (.tail (.tail (.tail .head)))) | exact .old (.tail (.tail (.tail (.tail (.tail .head))))) | exact .own .head | exact .own (.tail .head) | exact .own (.tail (.tail .head)) | exact .own (.tail (.tail (.tail .head))) | exact .own (.tail (.tail (.tail (.tail .head)))) | exact .own (.tail (.tail (.tail (.tail (.tail .head))))) | exact .own (.tail (.tail (.tail (.tail (.tail (.tail .head)))))) | exact .own (.tail (.tail (.tail (.tail (.tail (.tail (.tail .head))))))))) hs (by omega))) (fun x8 => ?_); try (refine l_fact (fun h8 => ?_)))
  all_goals refine l_quiet (o_extr (by exact rfl) rfl) rfl ?_
  all_goals refine l_quiet (o_extr (by exact rfl) rfl) rfl ?_
  all_goals refine j_assignL (fun _ => ?_)
  all_goals refine j_assignL (fun _ => ?_)
  all_goals refine l_nil ?_
  all_goals
    refine k_retvF Try.results107 (.tmp (by conv => { lhs; whnf }) (.tmp (by conv => { lhs; whnf }) .nil)) (fun w hw => ?_)
    exact ⟨x8, rfl, h8, hw.done⟩
open Classical in
noncomputable def findO (l : List Pr) (k : ByteArray) : Option Int := if SA l then fnd l k else none
open Classical in
noncomputable def putO (l : List Pr) (k : ByteArray) (v : Int) : List Pr := if SA l then putL l k v else []
open Classical in
noncomputable def dropO (l : List Pr) (k : ByteArray) : List Pr := if SA l then dropL l k else []
theorem prFind_c (k : ByteArray) (ha : Cl w a (prC l)) (hlen : l.length ≤ 1099511627775) :
    Calls Try.prog 64 #[.slice a l.length c, .string k] w fun e w' => e = .returned (.tuple #[.int .u64 ((findO l k).getD 0), .bool (findO l k).isSome]) ∧ St w [] [] w' := by
  refine enter Try.func64 Try.ntmps64 rfl rfl (SF.s1 ha) ?_
  simp only [mkS]
  all_goals (refine k_seq ?_)
  all_goals refine k_region ?_
  all_goals refine j_assignL (fun _ => ?_)
  all_goals refine j_assignL (fun _ => ?_)
  all_goals refine l_nil ?_
  all_goals (refine k_seq ?_)
  all_goals (refine k_seq ?_)
  all_goals refine k_region ?_
  all_goals refine j_move ?_
  all_goals (refine j_own (c0 (V := .bool) (hc := fun w1 hw => prValid_c (hw.cl (by first | exact .new .head | exact .new (.tail .head) | exact .new (.tail (.tail .head)) | exact .new (.tail (.tail (.tail .head))) | exact .new (.tail (.tail (.tail (.tail .head)))) | exact .new (.tail (.tail (.tail (.tail (.tail .head))))) | exact .new (.tail (.tail (.tail (.tail (.tail (.tail .head)))))) | exact .new (.tail (.tail (.tail (.tail (.tail (.tail (.tail .head))))))) | exact .new (.tail (.tail (.tail (.tail (.tail (.tail (.tail (.tail .head)))))))) | exact .new (.tail (.tail (.tail (.tail (.tail (.tail (.tail (.tail (.tail .head))))))))) | exact .old .head | exact .old (.tail .head) | exact .old (.tail (.tail .head)) | exact .old (.tail (.tail (.tail .head))) | exact .old (.tail (.tail (.tail (.tail .head)))) | exact .old (.tail (.tail (.tail (.tail (.tail .head))))) | exact .own .head | exact .own (.tail .head) | exact .own (.tail (.tail .head)) | exact .own (.tail (.tail (.tail .head))) | exact .own (.tail (.tail (.tail (.tail .head)))) | exact .own (.tail (.tail (.tail (.tail (.tail .head))))) | exact .own (.tail (.tail (.tail (.tail (.tail (.tail .head)))))) | exact .own (.tail (.tail (.tail (.tail (.tail (.tail (.tail .head))))))))) (by omega))) (fun x9 => ?_); try (refine l_fact (fun h9 => ?_)))
  all_goals refine j_not ?_
  all_goals refine l_nil ?_
  all_goals
    refine k_cond (by exact rfl) (fun c10 => ?_) (fun c10 => ?_)
    · try (exact absurd c10 (by decide))
      all_goals (first | replace c10 := of_decide_eq_true c10 | replace c10 := sbeq_t c10 | replace c10 := sbne_t c10 | replace c10 := ibeq_t c10 | replace c10 := ibne_t c10 | replace c10 := ndec_t c10 | replace c10 := not_t c10 | skip)
      all_goals (refine k_seq ?_)
      all_goals refine k_region ?_
      all_goals refine j_assignL (fun _ => ?_)
      all_goals refine j_assignL (fun _ => ?_)
      all_goals refine l_nil ?_
      all_goals
        refine k_retvF Try.results64 (.tmp (by conv => { lhs; whnf }) (.tmp (by conv => { lhs; whnf }) .nil)) (fun w hw => ?_)
        rw [show findO l k = none from if_neg fun hs => by rw [h9.2 (asc_sa.2 hs)] at c10; cases c10]; exact ⟨rfl, hw.done⟩
    · try (exact absurd c10 (by decide))
      all_goals (first | replace c10 := of_decide_eq_false c10 | replace c10 := sbeq_f c10 | replace c10 := sbne_f c10 | replace c10 := ibeq_f c10 | replace c10 := ibne_f c10 | replace c10 := ndec_f c10 | replace c10 := not_f c10 | skip)
      all_goals
        have hs : SA l := asc_sa.1 (h9.1 (by simpa using c10))
      all_goals (refine k_skip ?_)
      all_goals (refine k_seq ?_)
      all_goals refine k_region ?_
      all_goals refine j_move ?_
      all_goals refine j_move ?_
      all_goals (refine j_own (c0 (V := fun i : Nat => .tuple #[.int .i64 (i : Int), .bool (decide (i < l.length ∧ (l.getD i (⟨#[]⟩, 0)).1 = k))]) (hc := fun w1 hw => prPos_c (hw.cl (by first | exact .new .head | exact .new (.tail .head) | exact .new (.tail (.tail .head)) | exact .new (.tail (.tail (.tail .head))) | exact .new (.tail (.tail (.tail (.tail .head)))) | exact .new (.tail (.tail (.tail (.tail (.tail .head))))) | exact .new (.tail (.tail (.tail (.tail (.tail (.tail .head)))))) | exact .new (.tail (.tail (.tail (.tail (.tail (.tail (.tail .head))))))) | exact .new (.tail (.tail (.tail (.tail (.tail (.tail (.tail (.tail .head)))))))) | exact .new (.tail (.tail (.tail (.tail (.tail (.tail (.tail (.tail (.tail .head))))))))) | exact .old .head | exact .old (.tail .head) | exact .old (.tail (.tail .head)) | exact .old (.tail (.tail (.tail .head))) | exact .old (.tail (.tail (.tail (.tail .head)))) | exact .old (.tail (.tail (.tail (.tail (.tail .head))))) | exact .own .head | exact .own (.tail .head) | exact .own (.tail (.tail .head)) | exact .own (.tail (.tail (.tail .head))) | exact .own (.tail (.tail (.tail (.tail .head)))) | exact .own (.tail (.tail (.tail (.tail (.tail .head))))) | exact .own (.tail (.tail (.tail (.tail (.tail (.tail .head)))))) | exact .own (.tail (.tail (.tail (.tail (.tail (.tail (.tail .head))))))))) hs hlen)) (fun x14 => ?_); try (refine l_fact (fun h14 => ?_)))
      all_goals refine j_move ?_
      all_goals refine l_quiet (o_extr (by exact rfl) rfl) rfl ?_
      all_goals refine l_quiet (o_extr (by exact rfl) rfl) rfl ?_
      all_goals refine j_assignL (fun _ => ?_)
      all_goals refine j_assignL (fun _ => ?_)
      all_goals refine l_nil ?_
      all_goals (refine k_seq ?_)
      all_goals (refine k_seq ?_)
      all_goals refine k_region ?_
      all_goals refine j_move ?_
      all_goals refine j_not ?_
      all_goals refine l_nil ?_
      all_goals
        refine k_cond (by exact rfl) (fun c18 => ?_) (fun c18 => ?_)
        · try (exact absurd c18 (by decide))
          all_goals (first | replace c18 := of_decide_eq_true c18 | replace c18 := sbeq_t c18 | replace c18 := sbne_t c18 | replace c18 := ibeq_t c18 | replace c18 := ibne_t c18 | replace c18 := ndec_t c18 | replace c18 := not_t c18 | skip)
          all_goals (refine k_seq ?_)
          all_goals refine k_region ?_
          all_goals refine j_assignL (fun _ => ?_)
          all_goals refine j_assignL (fun _ => ?_)
          all_goals refine l_nil ?_
          all_goals
            refine k_retvF Try.results64 (.tmp (by conv => { lhs; whnf }) (.tmp (by conv => { lhs; whnf }) .nil)) (fun w hw => ?_)
            have hnf : ¬ (x14 < l.length ∧ (l.getD x14 (⟨#[]⟩, 0)).1 = k) := by simpa using c18
            rw [show findO l k = none from (if_pos hs).trans (fnd_none (not_found hs h14 hnf))]; exact ⟨rfl, hw.done⟩
        · try (exact absurd c18 (by decide))
          all_goals (first | replace c18 := of_decide_eq_false c18 | replace c18 := sbeq_f c18 | replace c18 := sbne_f c18 | replace c18 := ibeq_f c18 | replace c18 := ibne_f c18 | replace c18 := ndec_f c18 | replace c18 := not_f c18 | skip)
          all_goals
            have hfd : x14 < l.length ∧ (l.getD x14 (⟨#[]⟩, 0)).1 = k := by simpa using c18
            have hx14 := hfd.1
          all_goals (refine k_skip ?_)
          all_goals (refine k_seq ?_)
          all_goals refine k_region ?_
          all_goals refine j_move ?_
          all_goals refine j_move ?_
          all_goals refine j_indexAddr ?_
          all_goals refine j_fieldAddr ?_
          all_goals refine j_load ?_
          all_goals refine j_assignL (fun _ => ?_)
          all_goals refine j_assignL (fun _ => ?_)
          all_goals refine l_nil ?_
          all_goals
            refine k_retvF Try.results64 (.tmp (by conv => { lhs; whnf }) (.tmp (by conv => { lhs; whnf }) .nil)) (fun w hw => ?_)
            rw [show findO l k = some (l.getD x14 (⟨#[]⟩, 0)).2 from (if_pos hs).trans (fnd_found h14 hfd.1 hfd.2)]; exact ⟨rfl, hw.done⟩
/-- What Put and Drop give back: a list of one's own. -/
def POwn (w : World) (m : List Pr) (e : Ending) (w' : World) : Prop := ∃ x : Option Addr × Nat, e = .returned (.slice x.1 m.length x.2) ∧ m.length ≤ x.2 ∧ SF w [] [] [] [] [⟨x.1, prC m, x.2, 37, 2⟩] w'
theorem put_copy {l : List Pr} {i n : Nat} {z : Pr} (hi : i ≤ l.length) (hn : i ≤ n) :
    (List.replicate n z).take 0 ++ (l.take i).take (min i n) ++ (List.replicate n z).drop (0 + min i n) = l.take i ++ List.replicate (n - i) z := by
  rw [show min i n = i by omega, List.take_take, Nat.min_self, Nat.zero_add, List.take_zero, List.nil_append, List.drop_replicate]
theorem put_set {l : List Pr} {i n : Nat} {p z : Pr} (hi : i ≤ l.length) (hn : i + 1 ≤ n) : (l.take i ++ List.replicate (n - i) z).set i p = l.take i ++ p :: List.replicate (n - 1 - i) z := by
  rw [List.set_append_right _ _ (by rw [List.length_take]; omega), List.length_take, Nat.min_eq_left hi, Nat.sub_self, show n - i = (n - 1 - i) + 1 by omega, List.replicate_succ, List.set_cons_zero]
theorem put_copy2 {l : List Pr} {i q : Nat} {p z : Pr} (hi : i ≤ l.length) (hq : q = if l.length + 1 = i + 1 then 0 else i + 1) :
    (l.take i ++ p :: List.replicate (l.length - i) z).take q ++ (l.drop i).take (min (l.length - i) (l.length + 1 - (i + 1))) ++ (l.take i ++ p :: List.replicate (l.length - i) z).drop (q + min (l.length - i) (l.length + 1 - (i + 1))) = l.take i ++ p :: l.drop i := by
  rw [show min (l.length - i) (l.length + 1 - (i + 1)) = l.length - i by omega]
  by_cases h : l.length = i
  · subst h
    rw [if_pos rfl] at hq
    subst hq
    simp
  · rw [if_neg (by omega)] at hq
    subst hq
    rw [List.take_append, List.take_of_length_le (l := l.take i) (by rw [List.length_take]; omega), List.length_take, Nat.min_eq_left hi, show i + 1 - i = 1 by omega]
    rw [List.take_of_length_le (l := l.drop i) (by rw [List.length_drop]; omega)]
    have e : (l.take i ++ p :: List.replicate (l.length - i) z).drop (i + 1 + (l.length - i)) = [] := List.drop_eq_nil_of_le (by rw [List.length_append, List.length_take, List.length_cons, List.length_replicate]; omega)
    rw [e, List.append_nil, List.take_succ_cons, List.take_zero, List.append_assoc]
    rfl
theorem prPut_o (k : ByteArray) (v : Int) (ha : Cl w a (prC l)) (hc : l.length ≤ c) (hlen : l.length ≤ 1099511627775) :
    Calls Try.prog 57 #[.slice a l.length c, .string k, .int .u64 v] w (POwn w (putO l k v)) := by
  refine enter Try.func57 Try.ntmps57 rfl rfl (SF.s1 ha) ?_
  simp only [mkS]
  all_goals (refine k_seq ?_)
  all_goals refine k_region ?_
  all_goals refine j_assignL (fun _ => ?_)
  all_goals refine l_nil ?_
  all_goals (refine k_seq ?_)
  all_goals (refine k_seq ?_)
  all_goals refine k_region ?_
  all_goals refine j_move ?_
  all_goals (refine j_own (c0 (V := .bool) (hc := fun w1 hw => prValid_c (hw.cl (by first | exact .new .head | exact .new (.tail .head) | exact .new (.tail (.tail .head)) | exact .new (.tail (.tail (.tail .head))) | exact .new (.tail (.tail (.tail (.tail .head)))) | exact .new (.tail (.tail (.tail (.tail (.tail .head))))) | exact .new (.tail (.tail (.tail (.tail (.tail (.tail .head)))))) | exact .new (.tail (.tail (.tail (.tail (.tail (.tail (.tail .head))))))) | exact .new (.tail (.tail (.tail (.tail (.tail (.tail (.tail (.tail .head)))))))) | exact .new (.tail (.tail (.tail (.tail (.tail (.tail (.tail (.tail (.tail .head))))))))) | exact .old .head | exact .old (.tail .head) | exact .old (.tail (.tail .head)) | exact .old (.tail (.tail (.tail .head))) | exact .old (.tail (.tail (.tail (.tail .head)))) | exact .old (.tail (.tail (.tail (.tail (.tail .head))))) | exact .own .head | exact .own (.tail .head) | exact .own (.tail (.tail .head)) | exact .own (.tail (.tail (.tail .head))) | exact .own (.tail (.tail (.tail (.tail .head)))) | exact .own (.tail (.tail (.tail (.tail (.tail .head))))) | exact .own (.tail (.tail (.tail (.tail (.tail (.tail .head)))))) | exact .own (.tail (.tail (.tail (.tail (.tail (.tail (.tail .head))))))))) (by omega))) (fun x12 => ?_); try (refine l_fact (fun h12 => ?_)))
  all_goals refine j_not ?_
  all_goals refine l_nil ?_
  all_goals
    refine k_cond (by exact rfl) (fun c13 => ?_) (fun c13 => ?_)
    · try (exact absurd c13 (by decide))
      all_goals (first | replace c13 := of_decide_eq_true c13 | replace c13 := sbeq_t c13 | replace c13 := sbne_t c13 | replace c13 := ibeq_t c13 | replace c13 := ibne_t c13 | replace c13 := ndec_t c13 | replace c13 := not_t c13 | skip)
      all_goals (refine k_seq ?_)
      all_goals refine k_region ?_
      all_goals refine j_assignL (fun _ => ?_)
      all_goals refine l_nil ?_
      all_goals
        refine k_retvF Try.results57 (.tmp (by conv => { lhs; whnf }) .nil) (fun w hw => ?_)
        rw [show putO l k v = [] from if_neg fun hs => by rw [h12.2 (asc_sa.2 hs)] at c13; cases c13]; exact ⟨(none, 0), rfl, Nat.le_refl _, (hw.nilOwn 37 2).finH⟩
    · try (exact absurd c13 (by decide))
      all_goals (first | replace c13 := of_decide_eq_false c13 | replace c13 := sbeq_f c13 | replace c13 := sbne_f c13 | replace c13 := ibeq_f c13 | replace c13 := ibne_f c13 | replace c13 := ndec_f c13 | replace c13 := not_f c13 | skip)
      all_goals
        have hs : SA l := asc_sa.1 (h12.1 (by simpa using c13))
      all_goals (refine k_skip ?_)
      all_goals (refine k_seq ?_)
      all_goals refine k_region ?_
      all_goals refine j_move ?_
      all_goals refine j_move ?_
      all_goals (refine j_own (c0 (V := fun i : Nat => .tuple #[.int .i64 (i : Int), .bool (decide (i < l.length ∧ (l.getD i (⟨#[]⟩, 0)).1 = k))]) (hc := fun w1 hw => prPos_c (hw.cl (by first | exact .new .head | exact .new (.tail .head) | exact .new (.tail (.tail .head)) | exact .new (.tail (.tail (.tail .head))) | exact .new (.tail (.tail (.tail (.tail .head)))) | exact .new (.tail (.tail (.tail (.tail (.tail .head))))) | exact .new (.tail (.tail (.tail (.tail (.tail (.tail .head)))))) | exact .new (.tail (.tail (.tail (.tail (.tail (.tail (.tail .head))))))) | exact .new (.tail (.tail (.tail (.tail (.tail (.tail (.tail (.tail .head)))))))) | exact .new (.tail (.tail (.tail (.tail (.tail (.tail (.tail (.tail (.tail .head))))))))) | exact .old .head | exact .old (.tail .head) | exact .old (.tail (.tail .head)) | exact .old (.tail (.tail (.tail .head))) | exact .old (.tail (.tail (.tail (.tail .head)))) | exact .old (.tail (.tail (.tail (.tail (.tail .head))))) | exact .own .head | exact .own (.tail .head) | exact .own (.tail (.tail .head)) | exact .own (.tail (.tail (.tail .head))) | exact .own (.tail (.tail (.tail (.tail .head)))) | exact .own (.tail (.tail (.tail (.tail (.tail .head))))) | exact .own (.tail (.tail (.tail (.tail (.tail (.tail .head)))))) | exact .own (.tail (.tail (.tail (.tail (.tail (.tail (.tail .head))))))))) hs hlen)) (fun x17 => ?_); try (refine l_fact (fun h17 => ?_)))
      all_goals refine j_move ?_
      all_goals refine l_quiet (o_extr (by exact rfl) rfl) rfl ?_
      all_goals refine l_quiet (o_extr (by exact rfl) rfl) rfl ?_
      all_goals refine j_assignL (fun _ => ?_)
      all_goals refine j_assignL (fun _ => ?_)
      all_goals refine l_nil ?_
      all_goals (refine k_seq ?_)
      all_goals (refine k_seq ?_)
      all_goals refine k_region ?_
      all_goals refine j_move ?_
      all_goals refine l_nil ?_
      all_goals
        refine k_cond (by exact rfl) (fun c20 => ?_) (fun c20 => ?_)
        · try (exact absurd c20 (by decide))
          all_goals (first | replace c20 := of_decide_eq_true c20 | replace c20 := sbeq_t c20 | replace c20 := sbne_t c20 | replace c20 := ibeq_t c20 | replace c20 := ibne_t c20 | replace c20 := ndec_t c20 | replace c20 := not_t c20 | skip)
          all_goals
            have hfd : x17 < l.length ∧ (l.getD x17 (⟨#[]⟩, 0)).1 = k := by simpa using c20
            have hx17 := hfd.1
          all_goals (refine k_seq ?_)
          all_goals refine k_region ?_
          all_goals refine j_move ?_
          all_goals refine j_len ?_
          all_goals refine j_makeSlice (fun x23 => ?_)
          all_goals refine j_assignL (fun _ => ?_)
          all_goals refine l_nil ?_
          all_goals (refine k_seq ?_)
          all_goals refine k_region ?_
          all_goals refine j_move ?_
          all_goals refine j_move ?_
          all_goals (refine j_own (Loud.convO (o_copyAllP (by exact rfl) (by exact rfl) (by repeat (first | exact OAt.head | apply OAt.tail)) (by first | exact .new .head | exact .new (.tail .head) | exact .new (.tail (.tail .head)) | exact .new (.tail (.tail (.tail .head))) | exact .new (.tail (.tail (.tail (.tail .head)))) | exact .new (.tail (.tail (.tail (.tail (.tail .head))))) | exact .new (.tail (.tail (.tail (.tail (.tail (.tail .head)))))) | exact .new (.tail (.tail (.tail (.tail (.tail (.tail (.tail .head))))))) | exact .new (.tail (.tail (.tail (.tail (.tail (.tail (.tail (.tail .head)))))))) | exact .new (.tail (.tail (.tail (.tail (.tail (.tail (.tail (.tail (.tail .head))))))))) | exact .old .head | exact .old (.tail .head) | exact .old (.tail (.tail .head)) | exact .old (.tail (.tail (.tail .head))) | exact .old (.tail (.tail (.tail (.tail .head)))) | exact .old (.tail (.tail (.tail (.tail (.tail .head))))) | exact .own .head | exact .own (.tail .head) | exact .own (.tail (.tail .head)) | exact .own (.tail (.tail (.tail .head))) | exact .own (.tail (.tail (.tail (.tail .head)))) | exact .own (.tail (.tail (.tail (.tail (.tail .head))))) | exact .own (.tail (.tail (.tail (.tail (.tail (.tail .head)))))) | exact .own (.tail (.tail (.tail (.tail (.tail (.tail (.tail .head)))))))) (by first | exact rfl | omega | (simp; done) | (simp; omega)) (by first | exact rfl | omega | (simp; done) | (simp; omega)) (by exact sl_of rfl) (by exact sz_of rfl)) (by intro x; simp only [setO]; exact rfl)) (fun x26 => ?_); try (refine l_fact (fun h26 => ?_)))
          all_goals refine l_nil ?_
          all_goals (refine k_seq ?_)
          all_goals refine k_region ?_
          all_goals refine j_move ?_
          all_goals refine j_move ?_
          all_goals refine j_move ?_
          all_goals refine j_indexAddr ?_
          all_goals refine j_fieldAddr ?_
          all_goals refine j_own0 (by first | exact Loud.convO (o_storePv (by exact rfl) (by exact rfl) (by exact one_of rfl) (by repeat (first | exact OAt.head | apply OAt.tail)) (by omega)) (by intro x; simp only [setO]; exact rfl) | exact Loud.convO (o_storeP (by exact rfl) (by exact rfl) (by exact agg_of rfl) (by repeat (first | exact OAt.head | apply OAt.tail)) (by rw [List.length_append, List.length_take, List.length_replicate]; omega)) (by intro x; simp only [setO]; rw [put_set hpl (by omega), Nat.add_sub_cancel])) (fun _ => ?_)
          all_goals refine l_nil ?_
          all_goals (refine k_seq ?_)
          all_goals refine k_region ?_
          all_goals refine j_move ?_
          all_goals refine j_assignL (fun _ => ?_)
          all_goals refine l_nil ?_
          all_goals
            refine k_retvF Try.results57 (.tmp (by conv => { lhs; whnf }) .nil) (fun w hw => ?_)
            rw [show putO l k v = l.set x17 ((l.getD x17 (⟨#[]⟩, 0)).1, v) from (if_pos hs).trans (put_found h17 hfd.1 hfd.2)]; exact ⟨(some ⟨x23, 0, none⟩, l.length), by rw [List.length_set]; rfl, by rw [List.length_set]; exact Nat.le_refl _, hw.finH⟩
        · try (exact absurd c20 (by decide))
          all_goals (first | replace c20 := of_decide_eq_false c20 | replace c20 := sbeq_f c20 | replace c20 := sbne_f c20 | replace c20 := ibeq_f c20 | replace c20 := ibne_f c20 | replace c20 := ndec_f c20 | replace c20 := not_f c20 | skip)
          all_goals
            have hnf : ¬ (x17 < l.length ∧ (l.getD x17 (⟨#[]⟩, 0)).1 = k) := by simpa using c20
            have hpl := h17.le
            have hq1 : (List.take x17 l ++ List.replicate (l.length + 1 - x17) ((⟨#[]⟩ : ByteArray), (0 : Int))).length = l.length + 1 := by rw [List.length_append, List.length_take, List.length_replicate]; omega
            refine k_mono (fun w hw => (hw.headP (k := x17) (by first | exact .new .head | exact .new (.tail .head) | exact .new (.tail (.tail .head)) | exact .new (.tail (.tail (.tail .head))) | exact .new (.tail (.tail (.tail (.tail .head)))) | exact .new (.tail (.tail (.tail (.tail (.tail .head))))) | exact .new (.tail (.tail (.tail (.tail (.tail (.tail .head)))))) | exact .new (.tail (.tail (.tail (.tail (.tail (.tail (.tail .head))))))) | exact .new (.tail (.tail (.tail (.tail (.tail (.tail (.tail (.tail .head)))))))) | exact .new (.tail (.tail (.tail (.tail (.tail (.tail (.tail (.tail (.tail .head))))))))) | exact .old .head | exact .old (.tail .head) | exact .old (.tail (.tail .head)) | exact .old (.tail (.tail (.tail .head))) | exact .old (.tail (.tail (.tail (.tail .head)))) | exact .old (.tail (.tail (.tail (.tail (.tail .head))))) | exact .own .head | exact .own (.tail .head) | exact .own (.tail (.tail .head)) | exact .own (.tail (.tail (.tail .head))) | exact .own (.tail (.tail (.tail (.tail .head)))) | exact .own (.tail (.tail (.tail (.tail (.tail .head))))) | exact .own (.tail (.tail (.tail (.tail (.tail (.tail .head)))))) | exact .own (.tail (.tail (.tail (.tail (.tail (.tail (.tail .head))))))))).tailP (k := x17) (c := c) (by first | exact .new .head | exact .new (.tail .head) | exact .new (.tail (.tail .head)) | exact .new (.tail (.tail (.tail .head))) | exact .new (.tail (.tail (.tail (.tail .head)))) | exact .new (.tail (.tail (.tail (.tail (.tail .head))))) | exact .new (.tail (.tail (.tail (.tail (.tail (.tail .head)))))) | exact .new (.tail (.tail (.tail (.tail (.tail (.tail (.tail .head))))))) | exact .new (.tail (.tail (.tail (.tail (.tail (.tail (.tail (.tail .head)))))))) | exact .new (.tail (.tail (.tail (.tail (.tail (.tail (.tail (.tail (.tail .head))))))))) | exact .old .head | exact .old (.tail .head) | exact .old (.tail (.tail .head)) | exact .old (.tail (.tail (.tail .head))) | exact .old (.tail (.tail (.tail (.tail .head)))) | exact .old (.tail (.tail (.tail (.tail (.tail .head))))) | exact .own .head | exact .own (.tail .head) | exact .own (.tail (.tail .head)) | exact .own (.tail (.tail (.tail .head))) | exact .own (.tail (.tail (.tail (.tail .head)))) | exact .own (.tail (.tail (.tail (.tail (.tail .head))))) | exact .own (.tail (.tail (.tail (.tail (.tail (.tail .head)))))) | exact .own (.tail (.tail (.tail (.tail (.tail (.tail (.tail .head)))))))) hc) ?_
          all_goals (refine k_skip ?_)
          all_goals (refine k_seq ?_)
          all_goals refine k_region ?_
          all_goals refine j_move ?_
          all_goals refine j_len ?_
          all_goals refine j_inc ?_
          all_goals refine j_makeSlice (fun x36 => ?_)
          all_goals refine j_assignL (fun _ => ?_)
          all_goals refine l_nil ?_
          all_goals (refine k_seq ?_)
          all_goals refine k_region ?_
          all_goals refine j_move ?_
          all_goals refine j_move ?_
          all_goals refine j_move ?_
          all_goals refine l_quiet (o_sliceH (by exact rfl) (by exact rfl) (by exact sl_of rfl) (by exact sz_any rfl) (by omega)) rfl ?_
          all_goals (refine j_own (Loud.convO (o_copyP (q := 0) (l2 := l.take x17) (by exact rfl) (by exact rfl) (by repeat (first | exact OAt.head | apply OAt.tail)) (by first | exact .new .head | exact .new (.tail .head) | exact .new (.tail (.tail .head)) | exact .new (.tail (.tail (.tail .head))) | exact .new (.tail (.tail (.tail (.tail .head)))) | exact .new (.tail (.tail (.tail (.tail (.tail .head))))) | exact .new (.tail (.tail (.tail (.tail (.tail (.tail .head)))))) | exact .new (.tail (.tail (.tail (.tail (.tail (.tail (.tail .head))))))) | exact .new (.tail (.tail (.tail (.tail (.tail (.tail (.tail (.tail .head)))))))) | exact .new (.tail (.tail (.tail (.tail (.tail (.tail (.tail (.tail (.tail .head))))))))) | exact .old .head | exact .old (.tail .head) | exact .old (.tail (.tail .head)) | exact .old (.tail (.tail (.tail .head))) | exact .old (.tail (.tail (.tail (.tail .head)))) | exact .old (.tail (.tail (.tail (.tail (.tail .head))))) | exact .own .head | exact .own (.tail .head) | exact .own (.tail (.tail .head)) | exact .own (.tail (.tail (.tail .head))) | exact .own (.tail (.tail (.tail (.tail .head)))) | exact .own (.tail (.tail (.tail (.tail (.tail .head))))) | exact .own (.tail (.tail (.tail (.tail (.tail (.tail .head)))))) | exact .own (.tail (.tail (.tail (.tail (.tail (.tail (.tail .head)))))))) rfl (by rw [List.length_take]; omega) (by rw [List.length_replicate]; omega) (by exact sl_of rfl) (by exact sz_of rfl)) (by intro x; simp only [setO]; rw [put_copy hpl (by omega)])) (fun x41 => ?_); try (refine l_fact (fun h41 => ?_)))
          all_goals refine l_nil ?_
          all_goals (refine k_seq ?_)
          all_goals refine k_region ?_
          all_goals refine j_move ?_
          all_goals refine j_move ?_
          all_goals refine j_move ?_
          all_goals refine j_move ?_
          all_goals refine j_build ?_
          all_goals refine j_indexAddr ?_
          all_goals refine j_own0 (by first | exact Loud.convO (o_storePv (by exact rfl) (by exact rfl) (by exact one_of rfl) (by repeat (first | exact OAt.head | apply OAt.tail)) (by omega)) (by intro x; simp only [setO]; exact rfl) | exact Loud.convO (o_storeP (by exact rfl) (by exact rfl) (by exact agg_of rfl) (by repeat (first | exact OAt.head | apply OAt.tail)) (by rw [List.length_append, List.length_take, List.length_replicate]; omega)) (by intro x; simp only [setO]; rw [put_set hpl (by omega), Nat.add_sub_cancel])) (fun _ => ?_)
          all_goals refine l_nil ?_
          all_goals (refine k_seq ?_)
          all_goals refine k_drawF (.one 0 [] (.one 1 [] (.one 2 [] (.one 3 [] (.one 4 [] (.one 5 [] (.one 6 [] (.one 7 [] .nil)))))))) ?_
          all_goals (refine r_move (i := 0) ?_)
          all_goals (refine r_move (i := 1) ?_)
          all_goals (refine r_inc (i := 2) ?_)
          all_goals (refine r_ownP (i := 3) (hq := (by first | exact o_tailOQ (by exact rfl) (by exact rfl) (by exact sl_of rfl) (by exact sz_of rfl) (by omega) (by omega) | exact o_tailQP (by exact rfl) (by exact rfl) (by exact sl_of rfl) (by exact sz_of rfl) (by omega) (by omega))) (h := ?_))
          all_goals (refine r_move (i := 4) ?_)
          all_goals (refine r_move (i := 5) ?_)
          all_goals (refine r_ownP (i := 6) (hq := (by first | exact o_tailOQ (by exact rfl) (by exact rfl) (by exact sl_of rfl) (by exact sz_of rfl) (by omega) (by omega) | exact o_tailQP (by exact rfl) (by exact rfl) (by exact sl_of rfl) (by exact sz_of rfl) (by omega) (by omega))) (h := ?_))
          all_goals ((refine r_own (i := 7) (hq := (Loud.convO (o_copyP (q := if l.length + 1 = x17 + 1 then 0 else x17 + 1) (l2 := l.drop x17) (by exact rfl) (by exact rfl) (by repeat (first | exact OAt.head | apply OAt.tail)) (by first | exact .new .head | exact .new (.tail .head) | exact .new (.tail (.tail .head)) | exact .new (.tail (.tail (.tail .head))) | exact .new (.tail (.tail (.tail (.tail .head)))) | exact .new (.tail (.tail (.tail (.tail (.tail .head))))) | exact .new (.tail (.tail (.tail (.tail (.tail (.tail .head)))))) | exact .new (.tail (.tail (.tail (.tail (.tail (.tail (.tail .head))))))) | exact .new (.tail (.tail (.tail (.tail (.tail (.tail (.tail (.tail .head)))))))) | exact .new (.tail (.tail (.tail (.tail (.tail (.tail (.tail (.tail (.tail .head))))))))) | exact .old .head | exact .old (.tail .head) | exact .old (.tail (.tail .head)) | exact .old (.tail (.tail (.tail .head))) | exact .old (.tail (.tail (.tail (.tail .head)))) | exact .old (.tail (.tail (.tail (.tail (.tail .head))))) | exact .own .head | exact .own (.tail .head) | exact .own (.tail (.tail .head)) | exact .own (.tail (.tail (.tail .head))) | exact .own (.tail (.tail (.tail (.tail .head)))) | exact .own (.tail (.tail (.tail (.tail (.tail .head))))) | exact .own (.tail (.tail (.tail (.tail (.tail (.tail .head)))))) | exact .own (.tail (.tail (.tail (.tail (.tail (.tail (.tail .head)))))))) rfl (by rw [List.length_drop]; omega) (by rw [List.length_append, List.length_take, List.length_cons, List.length_replicate]; split <;> omega) (by exact sl_of rfl) (by exact sz_of rfl)) (by intro x; simp only [setO]; rw [put_copy2 hpl rfl]))) (hfire := (fun _ => .nil)) (h := fun x55 => ?_); try (refine r_fact (fun h55 => ?_))))
          all_goals refine r_fin ?_
          all_goals (refine k_seq ?_)
          all_goals refine k_region ?_
          all_goals refine j_move ?_
          all_goals refine j_assignL (fun _ => ?_)
          all_goals refine l_nil ?_
          all_goals
            refine k_retvF Try.results57 (.tmp (by conv => { lhs; whnf }) .nil) (fun w hw => ?_)
            rw [show putO l k v = l.take x17 ++ (k, v) :: l.drop x17 from (if_pos hs).trans (put_new h17 hnf)]; exact ⟨(some ⟨x36, 0, none⟩, l.length + 1), by rw [show (l.take x17 ++ (k, v) :: l.drop x17).length = l.length + 1 by rw [List.length_append, List.length_take, List.length_cons, List.length_drop]; omega]; rfl, by rw [List.length_append, List.length_take, List.length_cons, List.length_drop]; show _ ≤ l.length + 1; omega, hw.finH⟩
theorem drop_copy2 {l : List Pr} {i q : Nat} {z : Pr} (hi : i < l.length) (hq : q = if l.length - 1 = i then 0 else i) :
    (l.take i ++ List.replicate (l.length - 1 - i) z).take q ++ (l.drop (i + 1)).take (min (l.length - (i + 1)) (l.length - 1 - i)) ++ (l.take i ++ List.replicate (l.length - 1 - i) z).drop (q + min (l.length - (i + 1)) (l.length - 1 - i)) = l.take i ++ l.drop (i + 1) := by
  rw [show min (l.length - (i + 1)) (l.length - 1 - i) = l.length - 1 - i by omega]
  by_cases h : l.length - 1 = i
  · rw [if_pos h] at hq
    subst hq
    have e : l.length - 1 - i = 0 := by omega
    have e2 : l.drop (i + 1) = [] := List.drop_eq_nil_of_le (by omega)
    rw [e, e2]
    simp
  · rw [if_neg h] at hq
    subst hq
    rw [List.take_append_of_le_length (by rw [List.length_take]; omega), List.take_of_length_le (l := l.take q) (by rw [List.length_take]; omega)]
    rw [List.take_of_length_le (l := l.drop (q + 1)) (by rw [List.length_drop]; omega)]
    have e : (l.take q ++ List.replicate (l.length - 1 - q) z).drop (q + (l.length - 1 - q)) = [] := List.drop_eq_nil_of_le (by rw [List.length_append, List.length_take, List.length_replicate]; omega)
    rw [e, List.append_nil]
theorem prDrop_o (k : ByteArray) (ha : Cl w a (prC l)) (hc : l.length ≤ c) (hlen : l.length ≤ 1099511627775) :
    Calls Try.prog 58 #[.slice a l.length c, .string k] w (POwn w (dropO l k)) := by
  refine enter Try.func58 Try.ntmps58 rfl rfl (SF.s1 ha) ?_
  simp only [mkS]
  all_goals (refine k_seq ?_)
  all_goals refine k_region ?_
  all_goals refine j_assignL (fun _ => ?_)
  all_goals refine l_nil ?_
  all_goals (refine k_seq ?_)
  all_goals (refine k_seq ?_)
  all_goals refine k_region ?_
  all_goals refine j_move ?_
  all_goals (refine j_own (c0 (V := .bool) (hc := fun w1 hw => prValid_c (hw.cl (by first | exact .new .head | exact .new (.tail .head) | exact .new (.tail (.tail .head)) | exact .new (.tail (.tail (.tail .head))) | exact .new (.tail (.tail (.tail (.tail .head)))) | exact .new (.tail (.tail (.tail (.tail (.tail .head))))) | exact .new (.tail (.tail (.tail (.tail (.tail (.tail .head)))))) | exact .new (.tail (.tail (.tail (.tail (.tail (.tail (.tail .head))))))) | exact .new (.tail (.tail (.tail (.tail (.tail (.tail (.tail (.tail .head)))))))) | exact .new (.tail (.tail (.tail (.tail (.tail (.tail (.tail (.tail (.tail .head))))))))) | exact .old .head | exact .old (.tail .head) | exact .old (.tail (.tail .head)) | exact .old (.tail (.tail (.tail .head))) | exact .old (.tail (.tail (.tail (.tail .head)))) | exact .old (.tail (.tail (.tail (.tail (.tail .head))))) | exact .own .head | exact .own (.tail .head) | exact .own (.tail (.tail .head)) | exact .own (.tail (.tail (.tail .head))) | exact .own (.tail (.tail (.tail (.tail .head)))) | exact .own (.tail (.tail (.tail (.tail (.tail .head))))) | exact .own (.tail (.tail (.tail (.tail (.tail (.tail .head)))))) | exact .own (.tail (.tail (.tail (.tail (.tail (.tail (.tail .head))))))))) (by omega))) (fun x10 => ?_); try (refine l_fact (fun h10 => ?_)))
  all_goals refine j_not ?_
  all_goals refine l_nil ?_
  all_goals
    refine k_cond (by exact rfl) (fun c11 => ?_) (fun c11 => ?_)
    · try (exact absurd c11 (by decide))
      all_goals (first | replace c11 := of_decide_eq_true c11 | replace c11 := sbeq_t c11 | replace c11 := sbne_t c11 | replace c11 := ibeq_t c11 | replace c11 := ibne_t c11 | replace c11 := ndec_t c11 | replace c11 := not_t c11 | skip)
      all_goals (refine k_seq ?_)
      all_goals refine k_region ?_
      all_goals refine j_assignL (fun _ => ?_)
      all_goals refine l_nil ?_
      all_goals
        refine k_retvF Try.results58 (.tmp (by conv => { lhs; whnf }) .nil) (fun w hw => ?_)
        rw [show dropO l k = [] from if_neg fun hs => by rw [h10.2 (asc_sa.2 hs)] at c11; cases c11]; exact ⟨(none, 0), rfl, Nat.le_refl _, (hw.nilOwn 37 2).finH⟩
    · try (exact absurd c11 (by decide))
      all_goals (first | replace c11 := of_decide_eq_false c11 | replace c11 := sbeq_f c11 | replace c11 := sbne_f c11 | replace c11 := ibeq_f c11 | replace c11 := ibne_f c11 | replace c11 := ndec_f c11 | replace c11 := not_f c11 | skip)
      all_goals
        have hs : SA l := asc_sa.1 (h10.1 (by simpa using c11))
      all_goals (refine k_skip ?_)
      all_goals (refine k_seq ?_)
      all_goals refine k_region ?_
      all_goals refine j_move ?_
      all_goals refine j_move ?_
      all_goals (refine j_own (c0 (V := fun i : Nat => .tuple #[.int .i64 (i : Int), .bool (decide (i < l.length ∧ (l.getD i (⟨#[]⟩, 0)).1 = k))]) (hc := fun w1 hw => prPos_c (hw.cl (by first | exact .new .head | exact .new (.tail .head) | exact .new (.tail (.tail .head)) | exact .new (.tail (.tail (.tail .head))) | exact .new (.tail (.tail (.tail (.tail .head)))) | exact .new (.tail (.tail (.tail (.tail (.tail .head))))) | exact .new (.tail (.tail (.tail (.tail (.tail (.tail .head)))))) | exact .new (.tail (.tail (.tail (.tail (.tail (.tail (.tail .head))))))) | exact .new (.tail (.tail (.tail (.tail (.tail (.tail (.tail (.tail .head)))))))) | exact .new (.tail (.tail (.tail (.tail (.tail (.tail (.tail (.tail (.tail .head))))))))) | exact .old .head | exact .old (.tail .head) | exact .old (.tail (.tail .head)) | exact .old (.tail (.tail (.tail .head))) | exact .old (.tail (.tail (.tail (.tail .head)))) | exact .old (.tail (.tail (.tail (.tail (.tail .head))))) | exact .own .head | exact .own (.tail .head) | exact .own (.tail (.tail .head)) | exact .own (.tail (.tail (.tail .head))) | exact .own (.tail (.tail (.tail (.tail .head)))) | exact .own (.tail (.tail (.tail (.tail (.tail .head))))) | exact .own (.tail (.tail (.tail (.tail (.tail (.tail .head)))))) | exact .own (.tail (.tail (.tail (.tail (.tail (.tail (.tail .head))))))))) hs hlen)) (fun x15 => ?_); try (refine l_fact (fun h15 => ?_)))
      all_goals refine j_move ?_
      all_goals refine l_quiet (o_extr (by exact rfl) rfl) rfl ?_
      all_goals refine l_quiet (o_extr (by exact rfl) rfl) rfl ?_
      all_goals refine j_assignL (fun _ => ?_)
      all_goals refine j_assignL (fun _ => ?_)
      all_goals refine l_nil ?_
      all_goals (refine k_seq ?_)
      all_goals (refine k_seq ?_)
      all_goals refine k_region ?_
      all_goals refine j_move ?_
      all_goals refine j_not ?_
      all_goals refine l_nil ?_
      all_goals
        refine k_cond (by exact rfl) (fun c19 => ?_) (fun c19 => ?_)
        · try (exact absurd c19 (by decide))
          all_goals (first | replace c19 := of_decide_eq_true c19 | replace c19 := sbeq_t c19 | replace c19 := sbne_t c19 | replace c19 := ibeq_t c19 | replace c19 := ibne_t c19 | replace c19 := ndec_t c19 | replace c19 := not_t c19 | skip)
          all_goals
            have hnf : ¬ (x15 < l.length ∧ (l.getD x15 (⟨#[]⟩, 0)).1 = k) := by simpa using c19
          all_goals (refine k_seq ?_)
          all_goals refine k_region ?_
          all_goals refine j_move ?_
          all_goals refine j_len ?_
          all_goals refine j_makeSlice (fun x22 => ?_)
          all_goals refine j_assignL (fun _ => ?_)
          all_goals refine l_nil ?_
          all_goals (refine k_seq ?_)
          all_goals refine k_region ?_
          all_goals refine j_move ?_
          all_goals refine j_move ?_
          all_goals (refine j_own (Loud.convO (o_copyAllP (by exact rfl) (by exact rfl) (by repeat (first | exact OAt.head | apply OAt.tail)) (by first | exact .new .head | exact .new (.tail .head) | exact .new (.tail (.tail .head)) | exact .new (.tail (.tail (.tail .head))) | exact .new (.tail (.tail (.tail (.tail .head)))) | exact .new (.tail (.tail (.tail (.tail (.tail .head))))) | exact .new (.tail (.tail (.tail (.tail (.tail (.tail .head)))))) | exact .new (.tail (.tail (.tail (.tail (.tail (.tail (.tail .head))))))) | exact .new (.tail (.tail (.tail (.tail (.tail (.tail (.tail (.tail .head)))))))) | exact .new (.tail (.tail (.tail (.tail (.tail (.tail (.tail (.tail (.tail .head))))))))) | exact .old .head | exact .old (.tail .head) | exact .old (.tail (.tail .head)) | exact .old (.tail (.tail (.tail .head))) | exact .old (.tail (.tail (.tail (.tail .head)))) | exact .old (.tail (.tail (.tail (.tail (.tail .head))))) | exact .own .head | exact .own (.tail .head) | exact .own (.tail (.tail .head)) | exact .own (.tail (.tail (.tail .head))) | exact .own (.tail (.tail (.tail (.tail .head)))) | exact .own (.tail (.tail (.tail (.tail (.tail .head))))) | exact .own (.tail (.tail (.tail (.tail (.tail (.tail .head)))))) | exact .own (.tail (.tail (.tail (.tail (.tail (.tail (.tail .head)))))))) (by first | exact rfl | omega | (simp; done) | (simp; omega)) (by first | exact rfl | omega | (simp; done) | (simp; omega)) (by exact sl_of rfl) (by exact sz_of rfl)) (by intro x; simp only [setO]; exact rfl)) (fun x25 => ?_); try (refine l_fact (fun h25 => ?_)))
          all_goals refine l_nil ?_
          all_goals (refine k_seq ?_)
          all_goals refine k_region ?_
          all_goals refine j_move ?_
          all_goals refine j_assignL (fun _ => ?_)
          all_goals refine l_nil ?_
          all_goals
            refine k_retvF Try.results58 (.tmp (by conv => { lhs; whnf }) .nil) (fun w hw => ?_)
            rw [show dropO l k = l from (if_pos hs).trans (drop_none (not_found hs h15 hnf))]; exact ⟨(some ⟨x22, 0, none⟩, l.length), rfl, Nat.le_refl _, hw.finH⟩
        · try (exact absurd c19 (by decide))
          all_goals (first | replace c19 := of_decide_eq_false c19 | replace c19 := sbeq_f c19 | replace c19 := sbne_f c19 | replace c19 := ibeq_f c19 | replace c19 := ibne_f c19 | replace c19 := ndec_f c19 | replace c19 := not_f c19 | skip)
          all_goals
            have hfd : x15 < l.length ∧ (l.getD x15 (⟨#[]⟩, 0)).1 = k := by simpa using c19
            have hpl := hfd.1
            have hq1 : (List.take x15 l ++ List.replicate (l.length - 1 - x15) ((⟨#[]⟩ : ByteArray), (0 : Int))).length = l.length - 1 := by rw [List.length_append, List.length_take, List.length_replicate]; omega
            refine k_mono (fun w hw => (hw.headP (k := x15) (by first | exact .new .head | exact .new (.tail .head) | exact .new (.tail (.tail .head)) | exact .new (.tail (.tail (.tail .head))) | exact .new (.tail (.tail (.tail (.tail .head)))) | exact .new (.tail (.tail (.tail (.tail (.tail .head))))) | exact .new (.tail (.tail (.tail (.tail (.tail (.tail .head)))))) | exact .new (.tail (.tail (.tail (.tail (.tail (.tail (.tail .head))))))) | exact .new (.tail (.tail (.tail (.tail (.tail (.tail (.tail (.tail .head)))))))) | exact .new (.tail (.tail (.tail (.tail (.tail (.tail (.tail (.tail (.tail .head))))))))) | exact .old .head | exact .old (.tail .head) | exact .old (.tail (.tail .head)) | exact .old (.tail (.tail (.tail .head))) | exact .old (.tail (.tail (.tail (.tail .head)))) | exact .old (.tail (.tail (.tail (.tail (.tail .head))))) | exact .own .head | exact .own (.tail .head) | exact .own (.tail (.tail .head)) | exact .own (.tail (.tail (.tail .head))) | exact .own (.tail (.tail (.tail (.tail .head)))) | exact .own (.tail (.tail (.tail (.tail (.tail .head))))) | exact .own (.tail (.tail (.tail (.tail (.tail (.tail .head)))))) | exact .own (.tail (.tail (.tail (.tail (.tail (.tail (.tail .head))))))))).tailP (k := x15 + 1) (c := c) (by first | exact .new .head | exact .new (.tail .head) | exact .new (.tail (.tail .head)) | exact .new (.tail (.tail (.tail .head))) | exact .new (.tail (.tail (.tail (.tail .head)))) | exact .new (.tail (.tail (.tail (.tail (.tail .head))))) | exact .new (.tail (.tail (.tail (.tail (.tail (.tail .head)))))) | exact .new (.tail (.tail (.tail (.tail (.tail (.tail (.tail .head))))))) | exact .new (.tail (.tail (.tail (.tail (.tail (.tail (.tail (.tail .head)))))))) | exact .new (.tail (.tail (.tail (.tail (.tail (.tail (.tail (.tail (.tail .head))))))))) | exact .old .head | exact .old (.tail .head) | exact .old (.tail (.tail .head)) | exact .old (.tail (.tail (.tail .head))) | exact .old (.tail (.tail (.tail (.tail .head)))) | exact .old (.tail (.tail (.tail (.tail (.tail .head))))) | exact .own .head | exact .own (.tail .head) | exact .own (.tail (.tail .head)) | exact .own (.tail (.tail (.tail .head))) | exact .own (.tail (.tail (.tail (.tail .head)))) | exact .own (.tail (.tail (.tail (.tail (.tail .head))))) | exact .own (.tail (.tail (.tail (.tail (.tail (.tail .head)))))) | exact .own (.tail (.tail (.tail (.tail (.tail (.tail (.tail .head)))))))) hc) ?_
          all_goals (refine k_skip ?_)
          all_goals (refine k_seq ?_)
          all_goals refine k_region ?_
          all_goals refine j_move ?_
          all_goals refine j_len ?_
          all_goals refine j_dec ?_
          all_goals refine j_makeSlice (fun x30 => ?_)
          all_goals refine j_assignL (fun _ => ?_)
          all_goals refine l_nil ?_
          all_goals (refine k_seq ?_)
          all_goals refine k_region ?_
          all_goals refine j_move ?_
          all_goals refine j_move ?_
          all_goals refine j_move ?_
          all_goals refine l_quiet (o_sliceH (by exact rfl) (by exact rfl) (by exact sl_of rfl) (by exact sz_any rfl) (by omega)) rfl ?_
          all_goals (refine j_own (Loud.convO (o_copyP (q := 0) (l2 := l.take x15) (by exact rfl) (by exact rfl) (by repeat (first | exact OAt.head | apply OAt.tail)) (by first | exact .new .head | exact .new (.tail .head) | exact .new (.tail (.tail .head)) | exact .new (.tail (.tail (.tail .head))) | exact .new (.tail (.tail (.tail (.tail .head)))) | exact .new (.tail (.tail (.tail (.tail (.tail .head))))) | exact .new (.tail (.tail (.tail (.tail (.tail (.tail .head)))))) | exact .new (.tail (.tail (.tail (.tail (.tail (.tail (.tail .head))))))) | exact .new (.tail (.tail (.tail (.tail (.tail (.tail (.tail (.tail .head)))))))) | exact .new (.tail (.tail (.tail (.tail (.tail (.tail (.tail (.tail (.tail .head))))))))) | exact .old .head | exact .old (.tail .head) | exact .old (.tail (.tail .head)) | exact .old (.tail (.tail (.tail .head))) | exact .old (.tail (.tail (.tail (.tail .head)))) | exact .old (.tail (.tail (.tail (.tail (.tail .head))))) | exact .own .head | exact .own (.tail .head) | exact .own (.tail (.tail .head)) | exact .own (.tail (.tail (.tail .head))) | exact .own (.tail (.tail (.tail (.tail .head)))) | exact .own (.tail (.tail (.tail (.tail (.tail .head))))) | exact .own (.tail (.tail (.tail (.tail (.tail (.tail .head)))))) | exact .own (.tail (.tail (.tail (.tail (.tail (.tail (.tail .head)))))))) rfl (by rw [List.length_take]; omega) (by rw [List.length_replicate]; omega) (by exact sl_of rfl) (by exact sz_of rfl)) (by intro x; simp only [setO]; rw [put_copy (by omega) (by omega)])) (fun x35 => ?_); try (refine l_fact (fun h35 => ?_)))
          all_goals refine l_nil ?_
          all_goals (refine k_seq ?_)
          all_goals refine k_drawF (.one 0 [] (.one 1 [] (.one 2 [] (.one 3 [] (.one 4 [] (.one 5 [] (.one 6 [] (.one 7 [] .nil)))))))) ?_
          all_goals (refine r_move (i := 0) ?_)
          all_goals (refine r_move (i := 1) ?_)
          all_goals (refine r_ownP (i := 2) (hq := (by first | exact o_tailOQ (by exact rfl) (by exact rfl) (by exact sl_of rfl) (by exact sz_of rfl) (by omega) (by omega) | exact o_tailQP (k := x15 + 1) (by exact rfl) (by exact rfl) (by exact sl_of rfl) (by exact sz_of rfl) (by omega) (by omega))) (h := ?_))
          all_goals (refine r_move (i := 3) ?_)
          all_goals (refine r_move (i := 4) ?_)
          all_goals (refine r_inc (i := 5) ?_)
          all_goals (refine r_ownP (i := 6) (hq := (by first | exact o_tailOQ (by exact rfl) (by exact rfl) (by exact sl_of rfl) (by exact sz_of rfl) (by omega) (by omega) | exact o_tailQP (k := x15 + 1) (by exact rfl) (by exact rfl) (by exact sl_of rfl) (by exact sz_of rfl) (by omega) (by omega))) (h := ?_))
          all_goals ((refine r_own (i := 7) (hq := (Loud.convO (o_copyP (q := if l.length - 1 = x15 then 0 else x15) (l2 := l.drop (x15 + 1)) (by exact rfl) (by exact rfl) (by repeat (first | exact OAt.head | apply OAt.tail)) (by first | exact .new .head | exact .new (.tail .head) | exact .new (.tail (.tail .head)) | exact .new (.tail (.tail (.tail .head))) | exact .new (.tail (.tail (.tail (.tail .head)))) | exact .new (.tail (.tail (.tail (.tail (.tail .head))))) | exact .new (.tail (.tail (.tail (.tail (.tail (.tail .head)))))) | exact .new (.tail (.tail (.tail (.tail (.tail (.tail (.tail .head))))))) | exact .new (.tail (.tail (.tail (.tail (.tail (.tail (.tail (.tail .head)))))))) | exact .new (.tail (.tail (.tail (.tail (.tail (.tail (.tail (.tail (.tail .head))))))))) | exact .old .head | exact .old (.tail .head) | exact .old (.tail (.tail .head)) | exact .old (.tail (.tail (.tail .head))) | exact .old (.tail (.tail (.tail (.tail .head)))) | exact .old (.tail (.tail (.tail (.tail (.tail .head))))) | exact .own .head | exact .own (.tail .head) | exact .own (.tail (.tail .head)) | exact .own (.tail (.tail (.tail .head))) | exact .own (.tail (.tail (.tail (.tail .head)))) | exact .own (.tail (.tail (.tail (.tail (.tail .head))))) | exact .own (.tail (.tail (.tail (.tail (.tail (.tail .head)))))) | exact .own (.tail (.tail (.tail (.tail (.tail (.tail (.tail .head)))))))) rfl (by rw [List.length_drop]; omega) (by rw [List.length_append, List.length_take, List.length_replicate]; split <;> omega) (by exact sl_of rfl) (by exact sz_of rfl)) (by intro x; simp only [setO]; rw [drop_copy2 hpl rfl]))) (hfire := (fun _ => .nil)) (h := fun x43 => ?_); try (refine r_fact (fun h43 => ?_))))
          all_goals refine r_fin ?_
          all_goals (refine k_seq ?_)
          all_goals refine k_region ?_
          all_goals refine j_move ?_
          all_goals refine j_assignL (fun _ => ?_)
          all_goals refine l_nil ?_
          all_goals
            refine k_retvF Try.results58 (.tmp (by conv => { lhs; whnf }) .nil) (fun w hw => ?_)
            rw [show dropO l k = l.take x15 ++ l.drop (x15 + 1) from (if_pos hs).trans (drop_found hs h15 hfd.1 hfd.2)]; exact ⟨(some ⟨x30, 0, none⟩, l.length - 1), by rw [show (l.take x15 ++ l.drop (x15 + 1)).length = l.length - 1 by rw [List.length_append, List.length_take, List.length_drop]; omega]; rfl, by rw [List.length_append, List.length_take, List.length_drop]; show _ ≤ l.length - 1; omega, hw.finH⟩
/-- The same, the list frozen. -/
def PRes (w : World) (m : List Pr) (e : Ending) (w' : World) : Prop := ∃ x : Option Addr × Nat, e = .returned (.slice x.1 m.length x.2) ∧ m.length ≤ x.2 ∧ SF w [] [] [] [(x.1, prC m)] [] w'
theorem POwn.res {w : World} {m : List Pr} {e : Ending} {w' : World} (h : POwn w m e w') : PRes w m e w' := by
  obtain ⟨x, h1, h2, h3⟩ := h
  exact ⟨x, h1, h2, h3.freeze .head (by simp)⟩
theorem prPut_c (k : ByteArray) (v : Int) (ha : Cl w a (prC l)) (hc : l.length ≤ c) (hlen : l.length ≤ 1099511627775) :
    Calls Try.prog 57 #[.slice a l.length c, .string k, .int .u64 v] w (PRes w (putO l k v)) := (prPut_o k v ha hc hlen).mono fun _ _ h => h.res
theorem prDrop_c (k : ByteArray) (ha : Cl w a (prC l)) (hc : l.length ≤ c) (hlen : l.length ≤ 1099511627775) :
    Calls Try.prog 58 #[.slice a l.length c, .string k] w (PRes w (dropO l k)) := (prDrop_o k ha hc hlen).mono fun _ _ h => h.res
end
end Go.Proofs.Ythmagkjcangnfaa
