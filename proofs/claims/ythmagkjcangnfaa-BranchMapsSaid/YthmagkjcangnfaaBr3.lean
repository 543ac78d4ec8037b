/- Branches: lists of lists, joined; the C-node of them. -/
import Derived.Test.YthmagkjcangnfaaBr2
set_option linter.unusedSimpArgs false
set_option linter.unusedVariables false
namespace Go.Ct
open Go Go.RowKit
section
variable {P : Program} {n : Nat} {S : List (Nat × Value)}
variable {w0 w w' : World} {M : List Nat} {H H' : List (Nat × Obj)} {A F F' : Fr} {O O' : List Ow} {G : World → Prop}
variable {d : Nat} {ty : TypeId} {pos : String} {af : Array Edge} {gd : Option (Nat × Bool)} {dst : Option Nat} {x y z : Operand} {t t2 e : TypeId} {p a : Option Addr} {i m k c c2 : Nat}
theorem SF.dropA1 {a1 : Option Addr × List Value} (h : SF w0 M H (a1 :: A) F O w) : SF w0 M H A F O w := ⟨h.st, fun f hf => h.old f (List.mem_cons_of_mem _ hf), h.new, h.own, h.dis⟩
/-- A list's tail lies there. -/
def tlA (a : Option Addr) (k c : Nat) : Option Addr := if c = k then a else a.map (·.add k)
theorem o_tailQ (hx : ev S x = .slice a m c) (hy : ev S y = .int .i64 ((k : Nat) : Int)) (ht : P.underlying t = some (.slice e)) (hs : (P.info? e).map (·.size) = some 1) (hk : k ≤ m) (hmc : m ≤ c) :
    Quiet P S G ⟨some d, .slice t x (some y) none none, ty, pos, af, gd⟩ (.slice (tlA a k c) (m - k) (c - k)) := ⟨fun w _ => by
  have he : P.elem t = e := by simp [Program.elem, ht]
  have ht' : P.underlying t = some (.slice (P.elem t)) := by rw [he]; exact ht
  cases hi : P.info? e with
  | none => simp [hi] at hs
  | some inf =>
    have hs' : inf.size = 1 := by simpa [hi] using hs
    have hr := run_slice_l (P := P) w t a m c ht' .i64 (k : Int) (by omega) (by omega)
    refine run_sl (v := .slice (tlA a k c) (m - k) (c - k)) ?_
    simp [hx, hy, run_sliceAt_slice w t _ _ _ _ ht', hr, he, sizeOf, typeInfo, hi, hs', sliced, tlA]⟩
theorem SF.tailA (h : SF w0 M H A F O w) {l : List Int} (hf : FIn A F [] a (refsC l)) (hc : l.length ≤ c) : SF w0 M H ((tlA a k c, refsC (l.drop k)) :: A) F O w := by
  have e : refsC (l.drop k) = (refsC l).drop k := by rw [drop_refsC]
  rw [e]
  refine h.addOld hf (fun hn => ?_) (fun h => by rw [h]; simp) (fun w hc' => ?_)
  · unfold tlA
    split
    · rfl
    · cases a with
      | none => rfl
      | some a =>
        obtain ⟨b, o, s⟩ := a
        simp only [Option.map_some, ablk, Addr.add]
        split <;> rfl
  · unfold tlA
    split
    · rename_i heq
      have : (refsC l).drop k = [] := List.drop_eq_nil_of_le (by rw [refsC_length]; omega)
      rw [this]
      exact Cl.nil _ _
    · exact hc'.drop _
theorem SF.headA (h : SF w0 M H A F O w) {l : List Int} (hf : FIn A F [] a (refsC l)) : SF w0 M H ((a, refsC (l.take k)) :: A) F O w := by
  have e : refsC (l.take k) = (refsC l).take k := by rw [take_refsC]
  rw [e]
  exact h.addOld hf (fun _ => rfl) (fun h => by rw [h]; simp) (fun w hc => hc.take (List.take_prefix _ _))
abbrev Sl := Option Addr × List Int × Nat
def slC (L : List Sl) : List Value := L.map fun q => .slice q.1 q.2.1.length q.2.2
def slA (L : List Sl) : Fr := L.map fun q => (q.1, refsC q.2.1)
def slL (L : List Sl) : List Int := L.flatMap fun q => q.2.1
theorem o_indexL {L : List Sl} {kk : IntKind} (hx : ev S x = .slice a m c) (hy : ev S y = .int kk ((k : Nat) : Int)) (ht : P.underlying t = some (.slice e)) (hs : one P e = true) (hf : FIn A F O a (slC L)) (h1 : k < m) (h2 : k < L.length) :
    Quiet P S (SF w0 M H A F O) ⟨some d, .indexAddr t x y, ty, pos, af, gd⟩ (.pointer (some ⟨ablk a, aoff a + k, none⟩)) := ⟨fun w hw =>
  (o_index1 (G := SF w0 M H A F O) hx hy ht hs ((hw.cl hf).ptr (by simp only [slC, List.length_map]; omega)) h1).run w hw⟩
theorem o_loadL {L : List Sl} {q : Nat} {z : Sl} (hx : ev S x = .pointer (some ⟨ablk a, aoff a + q, none⟩)) (ht : one P t = true) (hf : FIn A F O a (slC L)) (hq : L[q]? = some z) :
    Quiet P S (SF w0 M H A F O) ⟨some d, .load t x, ty, pos, af, gd⟩ (.slice z.1 z.2.1.length z.2.2) := o_loadW hx ht (fun w hw => hw.cl hf) (by simp [slC, hq])
theorem FAt.of_mem {F : Fr} {q : Option Addr × List Value} (h : q ∈ F) : FAt F q.1 q.2 := by
  induction F with
  | nil => exact (List.not_mem_nil h).elim
  | cons f F ih =>
    rcases List.mem_cons.1 h with rfl | h
    · exact .head
    · exact .tail (ih h)
theorem slA_in {L : List Sl} {k : Nat} {z : Sl} (hz : L[k]? = some z) : FIn ((a, slC L) :: slA L) F O z.1 (refsC z.2.1) := by
  have h : FAt (slA L) z.1 (refsC z.2.1) := FAt.of_mem (q := (z.1, refsC z.2.1)) (List.mem_map.2 ⟨z, List.mem_of_getElem? hz, rfl⟩)
  exact .old (.tail h)
theorem slL_take {L : List Sl} {k : Nat} {z : Sl} (h : L[k]? = some z) : slL (L.take (k + 1)) = slL (L.take k) ++ z.2.1 := by
  unfold slL
  rw [List.take_add_one, h, List.flatMap_append]
  simp
theorem slL_le {L : List Sl} {B : Nat} (hB : ∀ q ∈ L, q.2.1.length ≤ B) : (slL L).length ≤ L.length * B := by
  induction L with
  | nil => simp [slL]
  | cons q L ih =>
    have h1 := ih fun q hq => hB q (List.mem_cons_of_mem _ hq)
    have h2 := hB q (List.mem_cons_self ..)
    have : slL (q :: L) = q.2.1 ++ slL L := rfl
    rw [this, List.length_append, List.length_cons, Nat.add_mul, Nat.one_mul]
    omega
theorem slL_pre (L : List Sl) (k : Nat) : (slL (L.take k)).length ≤ (slL L).length := by
  have : slL L = slL (L.take k) ++ slL (L.drop k) := by unfold slL; rw [← List.flatMap_append, List.take_append_drop]
  rw [this, List.length_append]
  omega
end
end Go.Ct
namespace Go.Proofs.Ythmagkjcangnfaa
open Go Go.RowKit Go.Ct
theorem zero_sl : zeroIs Try.prog 24 = some (.slice none 0 0) := by kernel_rfl
theorem elem_sl : ElemIs Try.prog 116 24 [.slice none 0 0] := elem_mk (by kernel_rfl) zero_sl rfl
theorem elem_slT {t : Nat} (h : Nat.beq t 116 = true) : ElemIs Try.prog t 24 [.slice none 0 0] := by rw [Nat.eq_of_beq_eq_true h]; exact elem_sl
theorem sl_sl : Try.prog.underlying 116 = some (.slice 24) := by kernel_rfl
theorem one_sl : one Try.prog 24 = true := by kernel_rfl
theorem joined_c {L : List Sl} {a : Option Addr} {ca : Nat} {w : World} (ha : Cl w a (slC L)) (hl : ∀ q ∈ L, Cl w q.1 (refsC q.2.1)) (h3 : L.length ≤ 3) (hB : ∀ q ∈ L, q.2.1.length ≤ 1000) :
    Calls Try.prog 124 #[.slice a L.length ca] w fun e w' => ∃ x : Option Addr × Nat, e = .returned (.slice x.1 (slL L).length x.2) ∧ (slL L).length ≤ x.2 ∧ SF w [] [] [] [] [⟨x.1, refsC (slL L), x.2, 26, 1⟩] w' := by
  have hle := slL_le hB
  have hst : SF w [] [] ((a, slC L) :: slA L) [] [] w := SF.begin fun f hf => by
    rcases List.mem_cons.1 hf with rfl | hf
    · exact ha
    · obtain ⟨q, hq, rfl⟩ := List.mem_map.1 hf
      exact hl q hq
  refine enter Try.func124 Try.ntmps124 rfl rfl hst ?_
  simp only [mkS]
  all_goals (refine k_seq ?_)
  all_goals refine k_region ?_
  all_goals refine j_assignL (fun _ => ?_)
  all_goals refine l_nil ?_
  all_goals (refine k_seq ?_)
  all_goals refine k_region ?_
  all_goals refine j_assignL (fun _ => ?_)
  all_goals refine l_nil ?_
  all_goals (refine k_seq ?_)
  all_goals (refine k_seq ?_)
  all_goals refine k_region ?_
  all_goals refine j_move ?_
  all_goals refine l_quiet (o_len (by exact rfl) sl_sl) rfl ?_
  all_goals refine j_move ?_
  all_goals refine l_nil ?_
  all_goals (refine k_block ?_)
  all_goals
    refine k_loopC [3, 5, 11, 12, 13, 14, 15, 16, 17, 18, 19] (fun k => [(3, .int .i64 (((slL (L.take k)).length : Nat) : Int)), (11, .int .i64 ((k : Nat) : Int))]) (fun k => k ≤ L.length) (fun k => L.length - k) (0) (Nat.zero_le _) ?_ (fun k f hx => ?_)
    · repeat (first | exact knows_nil _ | refine knows_cons (by first | exact rfl | (conv => { lhs; whnf }; simp; done)) ?_)
    dsimp only [mkU, List.map, List.cons_append, List.nil_append]
    all_goals (refine k_seq ?_)
    all_goals refine k_region ?_
    all_goals refine j_lss ?_
    all_goals refine l_nil ?_
    all_goals (refine k_seq ?_)
    all_goals
      refine k_cond (by exact rfl) (fun c12 => ?_) (fun c12 => ?_)
      · try (exact absurd c12 (by decide))
        all_goals (first | replace c12 := of_decide_eq_true c12 | replace c12 := sbeq_t c12 | replace c12 := sbne_t c12 | replace c12 := ibeq_t c12 | replace c12 := ibne_t c12 | replace c12 := ndec_t c12 | replace c12 := not_t c12 | skip)
        all_goals
          obtain ⟨z, hz⟩ : ∃ z, L[k]? = some z := ⟨L[k]'(by omega), List.getElem?_eq_getElem (by omega)⟩
          have hzl := congrArg List.length (slL_take hz)
          rw [List.length_append] at hzl
          have hzp := slL_pre L (k + 1)
        all_goals (refine k_skip ?_)
        all_goals (refine k_seq ?_)
        all_goals (refine k_block ?_)
        all_goals (refine k_seq ?_)
        all_goals refine k_region ?_
        all_goals refine l_quiet (o_indexL (L := L) (by exact rfl) (by exact rfl) sl_sl one_sl (by first | exact .new .head | exact .new (.tail .head) | exact .new (.tail (.tail .head)) | exact .new (.tail (.tail (.tail .head))) | exact .new (.tail (.tail (.tail (.tail .head)))) | exact .new (.tail (.tail (.tail (.tail (.tail .head))))) | exact .new (.tail (.tail (.tail (.tail (.tail (.tail .head)))))) | exact .new (.tail (.tail (.tail (.tail (.tail (.tail (.tail .head))))))) | exact .new (.tail (.tail (.tail (.tail (.tail (.tail (.tail (.tail .head)))))))) | exact .new (.tail (.tail (.tail (.tail (.tail (.tail (.tail (.tail (.tail .head))))))))) | exact .old .head | exact .old (.tail .head) | exact .old (.tail (.tail .head)) | exact .old (.tail (.tail (.tail .head))) | exact .old (.tail (.tail (.tail (.tail .head)))) | exact .old (.tail (.tail (.tail (.tail (.tail .head))))) | exact .own .head | exact .own (.tail .head) | exact .own (.tail (.tail .head)) | exact .own (.tail (.tail (.tail .head))) | exact .own (.tail (.tail (.tail (.tail .head)))) | exact .own (.tail (.tail (.tail (.tail (.tail .head))))) | exact .own (.tail (.tail (.tail (.tail (.tail (.tail .head)))))) | exact .own (.tail (.tail (.tail (.tail (.tail (.tail (.tail .head)))))))) (by omega) (by omega)) rfl ?_
        all_goals refine l_quiet (o_loadL (L := L) (by exact rfl) one_sl (by first | exact .new .head | exact .new (.tail .head) | exact .new (.tail (.tail .head)) | exact .new (.tail (.tail (.tail .head))) | exact .new (.tail (.tail (.tail (.tail .head)))) | exact .new (.tail (.tail (.tail (.tail (.tail .head))))) | exact .new (.tail (.tail (.tail (.tail (.tail (.tail .head)))))) | exact .new (.tail (.tail (.tail (.tail (.tail (.tail (.tail .head))))))) | exact .new (.tail (.tail (.tail (.tail (.tail (.tail (.tail (.tail .head)))))))) | exact .new (.tail (.tail (.tail (.tail (.tail (.tail (.tail (.tail (.tail .head))))))))) | exact .old .head | exact .old (.tail .head) | exact .old (.tail (.tail .head)) | exact .old (.tail (.tail (.tail .head))) | exact .old (.tail (.tail (.tail (.tail .head)))) | exact .old (.tail (.tail (.tail (.tail (.tail .head))))) | exact .own .head | exact .own (.tail .head) | exact .own (.tail (.tail .head)) | exact .own (.tail (.tail (.tail .head))) | exact .own (.tail (.tail (.tail (.tail .head)))) | exact .own (.tail (.tail (.tail (.tail (.tail .head))))) | exact .own (.tail (.tail (.tail (.tail (.tail (.tail .head)))))) | exact .own (.tail (.tail (.tail (.tail (.tail (.tail (.tail .head)))))))) hz) rfl ?_
        all_goals refine j_assignL (fun _ => ?_)
        all_goals refine l_nil ?_
        all_goals refine k_region ?_
        all_goals refine j_move ?_
        all_goals refine j_move ?_
        all_goals refine j_len ?_
        all_goals refine j_add ?_
        all_goals refine j_assignL (fun _ => ?_)
        all_goals refine l_nil ?_
        all_goals (refine k_blk ?_)
        all_goals refine k_region ?_
        all_goals refine j_inc ?_
        all_goals refine j_move ?_
        all_goals refine l_nil ?_
        all_goals
          refine k_roundC (k + 1) ?_ ?_ ?_
          · first | omega | (simp only []; omega)
          · repeat' (first | exact knows_nil _ | refine knows_cons ?_ ?_)
            all_goals (first | exact rfl | (conv => { lhs; whnf }; simp; done) | (conv => { lhs; whnf }; congr 1; omega))
          · omega
      · try (exact absurd c12 (by decide))
        all_goals (first | replace c12 := of_decide_eq_false c12 | replace c12 := sbeq_f c12 | replace c12 := sbne_f c12 | replace c12 := ibeq_f c12 | replace c12 := ibne_f c12 | replace c12 := ndec_f c12 | replace c12 := not_f c12 | skip)
        all_goals
          have hzp := slL_pre L k
        all_goals (refine k_exit rfl ?_)
        all_goals (refine k_seq ?_)
        all_goals refine k_region ?_
        all_goals refine j_move ?_
        all_goals refine j_own (o_makeR (m := 0) (by exact rfl) (by exact rfl) elem_ref (Nat.zero_le _) (by omega)) (fun x21 => ?_)
        all_goals refine j_assignL (fun _ => ?_)
        all_goals refine l_nil ?_
        all_goals (refine k_seq ?_)
        all_goals (refine k_seq ?_)
        all_goals refine k_region ?_
        all_goals refine j_move ?_
        all_goals refine l_quiet (o_len (by exact rfl) sl_sl) rfl ?_
        all_goals refine j_move ?_
        all_goals refine l_nil ?_
        all_goals (refine k_block ?_)
        all_goals
          refine k_loopF [6, 8, 24, 25, 26, 27, 28, 29, 30, 31] (fun y : Nat × Option Addr × Nat => [(6, .slice y.2.1 (slL (L.take y.1)).length y.2.2), (24, .int .i64 ((y.1 : Nat) : Int))]) (fun y => y.1 ≤ L.length ∧ (slL (L.take y.1)).length ≤ y.2.2) (fun _ => _) (fun _ => _) (fun y => [⟨y.2.1, refsC (slL (L.take y.1)), y.2.2, 26, 1⟩]) (fun y => L.length - y.1) ((0, some ⟨x21, 0, none⟩, (slL (L.take k)).length)) (by decide) (fun _ => by exact rfl) ?_ (⟨Nat.zero_le _, Nat.zero_le _⟩) (fun w hw => hw.back) (fun y f hx => ?_)
          · repeat (first | exact knows_nil _ | refine knows_cons (by first | exact rfl | (conv => { lhs; whnf }; simp; done)) ?_)
          dsimp only [mkU, List.map, List.cons_append, List.nil_append]
          all_goals (refine k_seq ?_)
          all_goals refine k_region ?_
          all_goals refine j_lss ?_
          all_goals refine l_nil ?_
          all_goals (refine k_seq ?_)
          all_goals
            refine k_cond (by exact rfl) (fun c25 => ?_) (fun c25 => ?_)
            · try (exact absurd c25 (by decide))
              all_goals (first | replace c25 := of_decide_eq_true c25 | replace c25 := sbeq_t c25 | replace c25 := sbne_t c25 | replace c25 := ibeq_t c25 | replace c25 := ibne_t c25 | replace c25 := ndec_t c25 | replace c25 := not_t c25 | skip)
              all_goals
                obtain ⟨z, hz⟩ : ∃ z, L[y.1]? = some z := ⟨L[y.1]'(by omega), List.getElem?_eq_getElem (by omega)⟩
                have hzl := congrArg List.length (slL_take hz)
                rw [List.length_append] at hzl
                have hzp := slL_pre L (y.1 + 1)
                have hzf := slA_in (a := a) (F := []) (O := []) hz
                refine k_mono (fun w hw => hw.addOld hzf (fun _ => rfl) (fun h => h) (fun _ h => h)) ?_
              all_goals (refine k_skip ?_)
              all_goals (refine k_seq ?_)
              all_goals (refine k_block ?_)
              all_goals (refine k_seq ?_)
              all_goals refine k_region ?_
              all_goals refine l_quiet (o_indexL (L := L) (by exact rfl) (by exact rfl) sl_sl one_sl (by first | exact .new .head | exact .new (.tail .head) | exact .new (.tail (.tail .head)) | exact .new (.tail (.tail (.tail .head))) | exact .new (.tail (.tail (.tail (.tail .head)))) | exact .new (.tail (.tail (.tail (.tail (.tail .head))))) | exact .new (.tail (.tail (.tail (.tail (.tail (.tail .head)))))) | exact .new (.tail (.tail (.tail (.tail (.tail (.tail (.tail .head))))))) | exact .new (.tail (.tail (.tail (.tail (.tail (.tail (.tail (.tail .head)))))))) | exact .new (.tail (.tail (.tail (.tail (.tail (.tail (.tail (.tail (.tail .head))))))))) | exact .old .head | exact .old (.tail .head) | exact .old (.tail (.tail .head)) | exact .old (.tail (.tail (.tail .head))) | exact .old (.tail (.tail (.tail (.tail .head)))) | exact .old (.tail (.tail (.tail (.tail (.tail .head))))) | exact .own .head | exact .own (.tail .head) | exact .own (.tail (.tail .head)) | exact .own (.tail (.tail (.tail .head))) | exact .own (.tail (.tail (.tail (.tail .head)))) | exact .own (.tail (.tail (.tail (.tail (.tail .head))))) | exact .own (.tail (.tail (.tail (.tail (.tail (.tail .head)))))) | exact .own (.tail (.tail (.tail (.tail (.tail (.tail (.tail .head)))))))) (by omega) (by omega)) rfl ?_
              all_goals refine l_quiet (o_loadL (L := L) (by exact rfl) one_sl (by first | exact .new .head | exact .new (.tail .head) | exact .new (.tail (.tail .head)) | exact .new (.tail (.tail (.tail .head))) | exact .new (.tail (.tail (.tail (.tail .head)))) | exact .new (.tail (.tail (.tail (.tail (.tail .head))))) | exact .new (.tail (.tail (.tail (.tail (.tail (.tail .head)))))) | exact .new (.tail (.tail (.tail (.tail (.tail (.tail (.tail .head))))))) | exact .new (.tail (.tail (.tail (.tail (.tail (.tail (.tail (.tail .head)))))))) | exact .new (.tail (.tail (.tail (.tail (.tail (.tail (.tail (.tail (.tail .head))))))))) | exact .old .head | exact .old (.tail .head) | exact .old (.tail (.tail .head)) | exact .old (.tail (.tail (.tail .head))) | exact .old (.tail (.tail (.tail (.tail .head)))) | exact .old (.tail (.tail (.tail (.tail (.tail .head))))) | exact .own .head | exact .own (.tail .head) | exact .own (.tail (.tail .head)) | exact .own (.tail (.tail (.tail .head))) | exact .own (.tail (.tail (.tail (.tail .head)))) | exact .own (.tail (.tail (.tail (.tail (.tail .head))))) | exact .own (.tail (.tail (.tail (.tail (.tail (.tail .head)))))) | exact .own (.tail (.tail (.tail (.tail (.tail (.tail (.tail .head)))))))) hz) rfl ?_
              all_goals refine j_assignL (fun _ => ?_)
              all_goals refine l_nil ?_
              all_goals refine k_region ?_
              all_goals refine j_move ?_
              all_goals refine j_move ?_
              all_goals (refine j_append (fun x30 => ?_); try (refine l_fact (fun h30 => ?_)))
              all_goals refine j_assignL (fun _ => ?_)
              all_goals refine l_nil ?_
              all_goals (refine k_blk ?_)
              all_goals refine k_region ?_
              all_goals refine j_inc ?_
              all_goals refine j_move ?_
              all_goals refine l_nil ?_
              all_goals
                refine k_roundF ((y.1 + 1, x30)) ?_ ?_ (by repeat (first | (with_reducible exact Pre.refl) | refine Pre.cons (by exact rfl) ?_)) ?_ (fun w hw => by rw [← slL_take hz] at hw; exact hw.dropA1.back)
                · first | omega | (simp only []; omega)
                · repeat' (first | exact knows_nil _ | refine knows_cons ?_ ?_)
                  all_goals (first | (conv => { lhs; whnf }; rw [← hzl]) | exact rfl | (conv => { lhs; whnf }; congr 1; omega))
                · exact ⟨by omega, by simp only []; rw [slL_take hz, List.length_append]; omega⟩
            · try (exact absurd c25 (by decide))
              all_goals (first | replace c25 := of_decide_eq_false c25 | replace c25 := sbeq_f c25 | replace c25 := sbne_f c25 | replace c25 := ibeq_f c25 | replace c25 := ibne_f c25 | replace c25 := ndec_f c25 | replace c25 := not_f c25 | skip)
              all_goals (refine k_exit rfl ?_)
              all_goals (refine k_seq ?_)
              all_goals refine k_region ?_
              all_goals refine j_move ?_
              all_goals refine j_assignL (fun _ => ?_)
              all_goals refine l_nil ?_
              all_goals
                refine k_retvF Try.results124 (.tmp (by conv => { lhs; whnf }) .nil) (fun w hw => ?_)
                have hy : y.1 = L.length := by omega
                rw [hy, List.take_length] at hw
                exact ⟨(y.2.1, y.2.2), by rw [hy, List.take_length]; rfl, by rw [hy, List.take_length] at hx; exact hx.2, hw.finH⟩
end Go.Proofs.Ythmagkjcangnfaa
