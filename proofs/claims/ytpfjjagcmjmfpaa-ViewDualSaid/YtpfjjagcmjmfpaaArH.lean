/- Proper states: a node more. -/
import Derived.Test.YtpfjjagcmjmfpaaAr9
set_option linter.unusedSimpArgs false
set_option linter.unusedVariables false
namespace Go.Ct
theorem markS_grow {u u' : List Bool} {n : Nd} (h : markS (some u) n = some u') : markS (some (u ++ [false])) n = some (u' ++ [false]) := by
  simp only [markS] at h ⊢
  cases hc : cellK n with
  | none => rw [hc] at h; simp only [Option.some.injEq] at h; rw [h]
  | some c =>
    rw [hc] at h
    simp only at h ⊢
    split at h
    · rename_i hh
      simp only [Option.some.injEq] at h
      have hlt : (c - 1).toNat < u.length := by omega
      rw [if_pos ⟨hh.1, by simp only [List.length_append, List.length_cons, List.length_nil]; omega, by rw [List.getD_eq_getElem?_getD, List.getElem?_append_left hlt, ← List.getD_eq_getElem?_getD]; exact hh.2.2⟩, List.set_append_left _ _ hlt, h]
    · cases h
theorem marks_grow {m : Nat} : ∀ {L : List NdV} {u : List Bool}, marks m L = some u → marks (m + 1) L = some (u ++ [false]) := by
  have key : ∀ (l : List NdV) (u0 : List Bool) (u : List Bool), l.foldl (fun u v => markS u v.nd) (some u0) = some u → l.foldl (fun u v => markS u v.nd) (some (u0 ++ [false])) = some (u ++ [false]) := by
    intro l
    induction l with
    | nil => intro u0 u h; simp only [List.foldl_nil, Option.some.injEq] at h ⊢; rw [h]
    | cons v l ih =>
      intro u0 u h
      simp only [List.foldl_cons] at h ⊢
      cases hm : markS (some u0) v.nd with
      | none =>
        rw [hm] at h
        exfalso
        have : ∀ l : List NdV, l.foldl (fun u v => markS u v.nd) none = none := fun l => by
          induction l with
          | nil => rfl
          | cons v l ih => exact ih
        rw [this] at h
        cases h
      | some u1 =>
        rw [hm] at h
        rw [markS_grow hm]
        exact ih u1 u h
  intro L u h
  have := key L _ u h
  rw [marks, List.replicate_succ', this]
theorem marks_push {m : Nat} {L : List NdV} {v : NdV} : marks m (L ++ [v]) = markS (marks m L) v.nd := by rw [marks, List.foldl_append]; rfl
theorem getD_push {L : List NdV} {v : NdV} {i : Nat} (h : i < L.length + 1) : (L ++ [v]).getD i NdV.zero = if i < L.length then L.getD i NdV.zero else v := by
  rw [List.getD_eq_getElem?_getD]
  split
  · rename_i hi
    rw [List.getElem?_append_left hi, ← List.getD_eq_getElem?_getD]
  · rename_i hi
    rw [List.getElem?_append_right (by omega), show i - L.length = 0 by omega]
    rfl
theorem Ins.mono {r : Int} {n m : Nat} (h : Ins r n) (hm : n ≤ m) : Ins r m := ⟨h.1, Int.le_trans h.2 (by omega)⟩
theorem NdOk.mono {gen : Int} {n m : Nat} {v : NdV} (h : NdOk gen n v) (hm : n ≤ m) : NdOk gen m v := ⟨h.1, h.2.1, fun i hi => (h.2.2.1 i hi).mono hm, h.2.2.2.1.mono hm, h.2.2.2.2.1.mono hm, h.2.2.2.2.2.mono hm⟩
/-- A proper state stays proper when a node is added with a new cell, or without one. -/
theorem proper_push {L : List NdV} {cs : List Int} {gen init : Int} {v : NdV} (h : Proper L cs gen) (hv : NdOk gen (L.length + 1) v) (hi : Ins init L.length) {k : Int} (hk : (cellK v.nd = none ∧ alCs k cs init = cs) ∨ (cellK v.nd = some ((cs.length + 1 : Nat) : Int) ∧ alCs k cs init = cs ++ [init])) :
    Proper (L ++ [v]) (alCs k cs init) gen := by
  have hlen : (L ++ [v]).length = L.length + 1 := by simp
  have h2 := h.two
  have nodes : ∀ i, i < (L ++ [v]).length → NdOk gen (L ++ [v]).length ((L ++ [v]).getD i NdV.zero) := fun i hi => by
    rw [hlen] at hi ⊢
    rw [getD_push hi]
    split
    · exact (h.nodes i (by assumption)).mono (by omega)
    · exact hv
  have k0 : ((L ++ [v]).getD 0 NdV.zero).nd.kind = 1 := by rw [getD_push (by omega), if_pos (by omega)]; exact h.m0
  have k1 : ((L ++ [v]).getD 1 NdV.zero).nd.kind = 1 := by rw [getD_push (by omega), if_pos (by omega)]; exact h.m1
  cases hm : marks cs.length L with
  | none => exact absurd hm h.marks
  | some u =>
    have hu := marks_len hm
    rcases hk with ⟨e1, e2⟩ | ⟨e1, e2⟩
    · rw [e2]
      refine ⟨by omega, h.gen0, k0, k1, fun i hi => (h.cells i hi).mono (by omega), nodes, ?_⟩
      rw [marks_push, hm]
      simp only [markS, e1]
      exact fun h => nomatch h
    · rw [e2]
      refine ⟨by omega, h.gen0, k0, k1, fun i hi' => ?_, nodes, ?_⟩
      · rw [List.getD_eq_getElem?_getD]
        by_cases hlt : i < cs.length
        · rw [List.getElem?_append_left hlt, ← List.getD_eq_getElem?_getD]
          exact (h.cells i hlt).mono (by omega)
        · simp only [List.length_append, List.length_cons, List.length_nil] at hi'
          rw [List.getElem?_append_right (by omega), show i - cs.length = 0 by omega]
          exact hi.mono (by omega)
      · rw [marks_push, show (cs ++ [init]).length = cs.length + 1 by simp, marks_grow hm]
        simp only [markS, e1]
        have e3 : (((cs.length + 1 : Nat) : Int) - 1).toNat = cs.length := by omega
        rw [e3, if_pos ⟨by omega, by simp only [List.length_append, List.length_cons, List.length_nil]; omega, by rw [List.getD_eq_getElem?_getD, List.getElem?_append_right (by omega), hu, Nat.sub_self]; rfl⟩]
        exact fun h => nomatch h
/-- The numbers of a node are numbers of their types. -/
structure NdR (n : Nd) : Prop where
  bm : ∃ b : Nat, n.bm = (b : Int) ∧ b < 18446744073709551616
  main : n.main ≤ 9223372036854775807
  prev : n.prev ≤ 9223372036854775807
  status : n.status ≤ 9223372036854775807
def Rngs (L : List NdV) : Prop := ∀ v ∈ L, NdR v.nd
end Go.Ct
