/- Sorting: the plain laws. -/
import Derived.Test.YthmagkjcangnfaaPa1
set_option linter.unusedSimpArgs false
set_option linter.unusedVariables false
namespace Go.Proofs.Ythmagkjcangnfaa
open Go.RowKit Go.Ct
abbrev dP : Pr := (⟨#[]⟩, 0)
/-- Two places exchanged. -/
def sw (ys : List Pr) (i j : Nat) : List Pr := (ys.set i (ys.getD j (⟨#[]⟩, 0))).set j (ys.getD i (⟨#[]⟩, 0))
theorem sw_len (ys : List Pr) (i j : Nat) : (sw ys i j).length = ys.length := by simp [sw]
theorem sw_comm (ys : List Pr) {i j : Nat} (h : i ≠ j) : sw ys i j = sw ys j i := List.set_comm _ _ h
theorem getD_set {ys : List Pr} {i t : Nat} {v : Pr} (hi : i < ys.length) : (ys.set i v).getD t (⟨#[]⟩, 0) = if t = i then v else ys.getD t (⟨#[]⟩, 0) := by
  simp only [List.getD, List.getElem?_set]
  by_cases h : t = i
  · subst h; simp [hi]
  · rw [if_neg h, if_neg fun e => h e.symm]
theorem sw_get {ys : List Pr} {i j : Nat} (hi : i < ys.length) (hj : j < ys.length) (t : Nat) : (sw ys i j).getD t (⟨#[]⟩, 0) = if t = j then ys.getD i (⟨#[]⟩, 0) else if t = i then ys.getD j (⟨#[]⟩, 0) else ys.getD t (⟨#[]⟩, 0) := by
  unfold sw
  rw [getD_set (by rw [List.length_set]; exact hj), getD_set hi]
theorem sw_app (P M Q : List Pr) (x y : Pr) {i j : Nat} (hi : i = P.length) (hj : j = P.length + 1 + M.length) : sw (P ++ x :: (M ++ y :: Q)) i j = P ++ y :: (M ++ x :: Q) := by
  subst hi hj
  have e1 : (P ++ x :: (M ++ y :: Q)).getD P.length (⟨#[]⟩, 0) = x := by simp [List.getD]
  have e2 : (P ++ x :: (M ++ y :: Q)).getD (P.length + 1 + M.length) (⟨#[]⟩, 0) = y := by
    rw [show P ++ x :: (M ++ y :: Q) = (P ++ x :: M) ++ y :: Q by simp, show P.length + 1 + M.length = (P ++ x :: M).length by simp; omega]
    simp [List.getD]
  unfold sw
  rw [e1, e2, List.set_append_right _ _ (Nat.le_refl _), Nat.sub_self, List.set_cons_zero]
  rw [List.set_append_right _ _ (by omega), show P.length + 1 + M.length - P.length = M.length + 1 by omega, List.set_cons_succ, List.set_append_right _ _ (Nat.le_refl _), Nat.sub_self, List.set_cons_zero]
/-- The same outside, the same pairs, those of one key in one order. -/
structure Sg (a b : Nat) (zs ys : List Pr) : Prop where
  len : zs.length = ys.length
  lo : zs.take a = ys.take a
  hi : zs.drop b = ys.drop b
  stb : Stb zs ys
theorem Sg.rfl {a b : Nat} {ys : List Pr} : Sg a b ys ys := ⟨.refl _, .refl _, .refl _, Stb.rfl⟩
theorem Sg.trans {a b : Nat} {xs ys zs : List Pr} (h : Sg a b xs ys) (h2 : Sg a b ys zs) : Sg a b xs zs := ⟨h.len.trans h2.len, h.lo.trans h2.lo, h.hi.trans h2.hi, h.stb.trans h2.stb⟩
theorem Sg.wide {a b a' b' : Nat} {zs ys : List Pr} (h : Sg a b zs ys) (ha : a' ≤ a) (hb : b ≤ b') : Sg a' b' zs ys :=
  ⟨h.len, by have := congrArg (List.take a') h.lo; rwa [List.take_take, List.take_take, Nat.min_eq_left ha] at this, by
    have := congrArg (List.drop (b' - b)) h.hi
    rwa [List.drop_drop, List.drop_drop, show b + (b' - b) = b' by omega] at this, h.stb⟩
theorem Sg.get_lo {a b t : Nat} {zs ys : List Pr} (h : Sg a b zs ys) (ht : t < a) : zs.getD t (⟨#[]⟩, 0) = ys.getD t (⟨#[]⟩, 0) := by
  have := congrArg (fun l => l.getD t (⟨#[]⟩, 0)) h.lo
  simpa [List.getD, List.getElem?_take, ht] using this
theorem Sg.get_hi {a b t : Nat} {zs ys : List Pr} (h : Sg a b zs ys) (ht : b ≤ t) : zs.getD t (⟨#[]⟩, 0) = ys.getD t (⟨#[]⟩, 0) := by
  have := congrArg (fun l => l.getD (t - b) (⟨#[]⟩, 0)) h.hi
  simpa [List.getD, List.getElem?_drop, show b + (t - b) = t by omega] using this
/-- Ascending between two places. -/
def SR (ys : List Pr) (a b : Nat) : Prop := ∀ i j, a ≤ i → i < j → j < b → sless (ys.getD j (⟨#[]⟩, 0)).1 (ys.getD i (⟨#[]⟩, 0)).1 = false
theorem SR.ws {ys : List Pr} (h : SR ys 0 ys.length) : WS ys := List.pairwise_iff_getElem.2 fun i j hi hj hij => by
  have := h i j (Nat.zero_le _) hij hj
  rwa [getD_get hi, getD_get hj] at this
theorem SR.nar {ys : List Pr} {a b a' b' : Nat} (h : SR ys a b) (ha : a ≤ a') (hb : b' ≤ b) : SR ys a' b' := fun i j h1 h2 h3 => h i j (by omega) h2 (by omega)
/-- The segment holds the same. -/
theorem Sg.seg {a b : Nat} {zs ys : List Pr} (h : Sg a b zs ys) (hab : a ≤ b) : Stb ((zs.take b).drop a) ((ys.take b).drop a) := by
  have dec : ∀ l : List Pr, l = l.take a ++ ((l.take b).drop a ++ l.drop b) := fun l => by
    conv => lhs; rw [← List.take_append_drop b l]
    conv => lhs; arg 1; rw [← List.take_append_drop a (l.take b)]
    rw [List.take_take, Nat.min_eq_left hab, List.append_assoc]
  intro k
  have := h.stb k
  rw [dec zs, dec ys, h.lo, h.hi] at this
  simp only [List.filter_append] at this
  exact List.append_cancel_right (List.append_cancel_left this)
theorem seg_mem {ys : List Pr} {a b : Nat} {p : Pr} : p ∈ (ys.take b).drop a ↔ ∃ t, a ≤ t ∧ t < b ∧ t < ys.length ∧ ys.getD t (⟨#[]⟩, 0) = p := by
  constructor
  · intro h
    obtain ⟨t, ht, rfl⟩ := List.getElem_of_mem h
    rw [List.length_drop, List.length_take] at ht
    refine ⟨a + t, by omega, by omega, by omega, ?_⟩
    rw [getD_get (by omega), List.getElem_drop, List.getElem_take]
  · rintro ⟨t, h1, h2, h3, rfl⟩
    rw [getD_get h3]
    have : (ys.take b).drop a = (ys.take b).drop a := .refl _
    refine List.mem_iff_getElem.2 ⟨t - a, by rw [List.length_drop, List.length_take]; omega, ?_⟩
    rw [List.getElem_drop, List.getElem_take]
    congr 1
    omega
/-- What is said of all of a segment stays true. -/
theorem Sg.all {a b : Nat} {zs ys : List Pr} (h : Sg a b zs ys) (hab : a ≤ b) {φ : Pr → Prop} (hp : ∀ t, a ≤ t → t < b → t < ys.length → φ (ys.getD t (⟨#[]⟩, 0))) (t : Nat) (h1 : a ≤ t) (h2 : t < b) (h3 : t < zs.length) : φ (zs.getD t (⟨#[]⟩, 0)) := by
  obtain ⟨s, s1, s2, s3, s4⟩ := seg_mem.1 ((h.seg hab).mem (seg_mem.2 ⟨t, h1, h2, h3, .refl _⟩))
  rw [← s4]
  exact hp s s1 s2 s3
theorem split2 {ys : List Pr} {k : Nat} (h : k + 1 < ys.length) : ys = ys.take k ++ ys.getD k (⟨#[]⟩, 0) :: ([] ++ ys.getD (k + 1) (⟨#[]⟩, 0) :: ys.drop (k + 2)) := by
  conv => lhs; rw [← List.take_append_drop k ys]
  rw [List.drop_eq_getElem_cons (by omega), List.drop_eq_getElem_cons h, getD_get (by omega), getD_get h]
  rfl
theorem sw_adj {ys : List Pr} {k : Nat} (h : k + 1 < ys.length) : sw ys k (k + 1) = ys.take k ++ ys.getD (k + 1) (⟨#[]⟩, 0) :: ([] ++ ys.getD k (⟨#[]⟩, 0) :: ys.drop (k + 2)) := by
  conv => lhs; rw [split2 h]
  exact sw_app _ _ _ _ _ (by rw [List.length_take]; omega) (by rw [List.length_take]; simp; omega)
theorem sg_of {ys zs P X Y Q : List Pr} {a b : Nat} (e : ys = P ++ (X ++ Q)) (e2 : zs = P ++ (Y ++ Q)) (hl : Y.length = X.length) (hs : Stb Y X) (ha : a ≤ P.length) (hb : P.length + X.length ≤ b) : Sg a b zs ys := by
  subst e e2
  refine ⟨by simp [hl], by rw [List.take_append_of_le_length ha, List.take_append_of_le_length ha], ?_, Stb.rfl.app (hs.app Stb.rfl)⟩
  obtain ⟨d, rfl⟩ := Nat.exists_eq_add_of_le hb
  rw [show P.length + X.length + d = P.length + (X.length + d) by omega, List.drop_append, List.drop_append, List.drop_append, List.drop_append]
  simp only [List.drop_eq_nil_of_le (show P.length ≤ P.length + (X.length + d) by omega), Nat.add_sub_cancel_left, List.nil_append]
  rw [List.drop_eq_nil_of_le (show X.length ≤ X.length + d by omega), List.drop_eq_nil_of_le (show Y.length ≤ X.length + d by omega), hl, Nat.add_sub_cancel_left]
theorem sw_sg {ys : List Pr} {k a b : Nat} (h : k + 1 < ys.length) (ha : a ≤ k) (hb : k + 2 ≤ b) (hn : (ys.getD (k + 1) (⟨#[]⟩, 0)).1 ≠ (ys.getD k (⟨#[]⟩, 0)).1) : Sg a b (sw ys k (k + 1)) ys :=
  sg_of (P := ys.take k) (X := [ys.getD k (⟨#[]⟩, 0), ys.getD (k + 1) (⟨#[]⟩, 0)]) (Y := [ys.getD (k + 1) (⟨#[]⟩, 0), ys.getD k (⟨#[]⟩, 0)]) (Q := ys.drop (k + 2)) (split2 h) (sw_adj h) (.refl _)
    (stb_swap (l := [ys.getD (k + 1) (⟨#[]⟩, 0)]) (m := [ys.getD k (⟨#[]⟩, 0)]) fun p hp q hq => by rw [List.mem_singleton.1 hp, List.mem_singleton.1 hq]; exact hn)
    (by rw [List.length_take]; omega) (by rw [List.length_take]; simp; omega)
/-! ### Insertion -/
def insJ (a : Nat) : Nat → List Pr → List Pr
  | 0, ys => ys
  | j + 1, ys => if a < j + 1 ∧ sless (ys.getD (j + 1) (⟨#[]⟩, 0)).1 (ys.getD j (⟨#[]⟩, 0)).1 = true then insJ a j (sw ys (j + 1) j) else ys
def insI (a : Nat) : Nat → Nat → List Pr → List Pr
  | _, 0, ys => ys
  | i, n + 1, ys => insI a (i + 1) n (insJ a i ys)
theorem insJ_said {a i : Nat} : ∀ {j : Nat} {ys : List Pr}, a ≤ j → j ≤ i → i < ys.length → (∀ p q, a ≤ p → p < q → q ≤ i → p ≠ j → q ≠ j → sless (ys.getD q (⟨#[]⟩, 0)).1 (ys.getD p (⟨#[]⟩, 0)).1 = false) →
    (∀ q, j < q → q ≤ i → sless (ys.getD j (⟨#[]⟩, 0)).1 (ys.getD q (⟨#[]⟩, 0)).1 = true) → SR (insJ a j ys) a (i + 1) ∧ Sg a (i + 1) (insJ a j ys) ys := by
  intro j
  induction j with
  | zero =>
    intro ys h1 h2 h3 h4 h5
    refine ⟨fun p q p1 p2 p3 => ?_, Sg.rfl⟩
    by_cases hp : p = 0
    · subst hp; exact sless_asymm (h5 q p2 (by omega))
    · exact h4 p q p1 p2 (by omega) hp (by omega)
  | succ j ih =>
    intro ys h1 h2 h3 h4 h5
    rw [insJ]
    split
    · next hc =>
      obtain ⟨c1, c2⟩ := hc
      have g := sw_get (ys := ys) (i := j + 1) (j := j) (by omega) (by omega)
      have gj : (sw ys (j + 1) j).getD j (⟨#[]⟩, 0) = ys.getD (j + 1) (⟨#[]⟩, 0) := by rw [g, if_pos rfl]
      have gj1 : (sw ys (j + 1) j).getD (j + 1) (⟨#[]⟩, 0) = ys.getD j (⟨#[]⟩, 0) := by rw [g, if_neg (by omega), if_pos rfl]
      have go : ∀ t, t ≠ j → t ≠ j + 1 → (sw ys (j + 1) j).getD t (⟨#[]⟩, 0) = ys.getD t (⟨#[]⟩, 0) := fun t t1 t2 => by rw [g, if_neg t1, if_neg t2]
      have key := ih (ys := sw ys (j + 1) j) (by omega) (by omega) (by rw [sw_len]; exact h3) (fun p q p1 p2 p3 p4 p5 => by
        by_cases hq : q = j + 1
        · subst hq
          rw [gj1, go p p4 (by omega)]
          exact h4 p j p1 (by omega) (by omega) (by omega) (by omega)
        · by_cases hp : p = j + 1
          · subst hp
            rw [gj1, go q p5 hq]
            exact h4 j q (by omega) (by omega) p3 (by omega) hq
          · rw [go p p4 hp, go q p5 hq]
            exact h4 p q p1 p2 p3 hp hq) (fun q q1 q2 => by
        rw [gj]
        by_cases hq : q = j + 1
        · subst hq; rw [gj1]; exact c2
        · rw [go q (by omega) hq]; exact h5 q (by omega) q2)
      have hsg : Sg a (i + 1) (sw ys (j + 1) j) ys := by
        rw [sw_comm ys (by omega)]
        exact sw_sg (by omega) (by omega) (by omega) (slt_ne c2)
      exact ⟨key.1, key.2.trans hsg⟩
    · next hc =>
      refine ⟨fun p q p1 p2 p3 => ?_, Sg.rfl⟩
      by_cases hq : q = j + 1
      · subst hq
        have h0 : sless (ys.getD (j + 1) (⟨#[]⟩, 0)).1 (ys.getD j (⟨#[]⟩, 0)).1 = false := by
          cases hb : sless (ys.getD (j + 1) (⟨#[]⟩, 0)).1 (ys.getD j (⟨#[]⟩, 0)).1 with
          | false => rfl
          | true => exact absurd ⟨by omega, hb⟩ hc
        by_cases hpj : p = j
        · subst hpj; exact h0
        · exact sle_le (h4 p j p1 (by omega) (by omega) (by omega) (by omega)) h0
      · by_cases hp : p = j + 1
        · subst hp; exact sless_asymm (h5 q p2 (by omega))
        · exact h4 p q p1 p2 (by omega) hp hq
theorem insI_said {a : Nat} : ∀ {n i : Nat} {ys : List Pr}, a ≤ i → i + n ≤ ys.length → SR ys a i → SR (insI a i n ys) a (i + n) ∧ Sg a (i + n) (insI a i n ys) ys
  | 0, _, _, _, _, h => ⟨h, Sg.rfl⟩
  | n + 1, i, ys, h1, h2, h => by
    have k := insJ_said (a := a) (i := i) (j := i) (ys := ys) h1 (Nat.le_refl _) (by omega) (fun p q p1 p2 p3 p4 p5 => h p q p1 p2 (by omega)) (fun q q1 q2 => by omega)
    have k2 := insI_said (a := a) (n := n) (i := i + 1) (ys := insJ a i ys) (by omega) (by rw [k.2.len]; omega) k.1
    rw [insI, show i + (n + 1) = i + 1 + n by omega]
    exact ⟨k2.1, k2.2.trans (k.2.wide (Nat.le_refl _) (by omega))⟩
theorem insJ_len {a : Nat} : ∀ (j : Nat) (ys : List Pr), (insJ a j ys).length = ys.length
  | 0, _ => rfl
  | j + 1, ys => by
    rw [insJ]; split
    · rw [insJ_len j, sw_len]
    · rfl
theorem insI_len {a : Nat} : ∀ (n i : Nat) (ys : List Pr), (insI a i n ys).length = ys.length
  | 0, _, _ => rfl
  | n + 1, i, ys => by rw [insI, insI_len n, insJ_len]
/-! ### Exchanging ranges; turning -/
def swapL (ys : List Pr) (a b : Nat) : Nat → List Pr
  | 0 => ys
  | n + 1 => sw (swapL ys a b n) (a + n) (b + n)
theorem swapL_len (ys : List Pr) (a b : Nat) : ∀ n, (swapL ys a b n).length = ys.length
  | 0 => rfl
  | n + 1 => by rw [swapL, sw_len, swapL_len ys a b n]
theorem snoc_of {α : Type} {l : List α} {n : Nat} (h : l.length = n + 1) : ∃ l' x, l = l' ++ [x] ∧ l'.length = n := by
  refine ⟨l.take n, l[n], ?_, by rw [List.length_take]; omega⟩
  conv => lhs; rw [← List.take_append_drop n l]
  congr 1
  rw [List.drop_eq_getElem_cons (by omega), List.drop_eq_nil_of_le (by omega)]
theorem swapL_app (P : List Pr) : ∀ {n : Nat} {X Y M Q : List Pr} {a b : Nat}, P.length = a → X.length = n → Y.length = n → P.length + X.length + M.length = b → swapL (P ++ (X ++ (M ++ (Y ++ Q)))) a b n = P ++ (Y ++ (M ++ (X ++ Q)))
  | 0, X, Y, M, Q, _, _, _, h2, h3, _ => by rw [List.eq_nil_of_length_eq_zero h2, List.eq_nil_of_length_eq_zero h3]; rfl
  | n + 1, X, Y, M, Q, a, b, h1, h2, h3, h4 => by
    obtain ⟨X', x, rfl, hx⟩ := snoc_of h2
    obtain ⟨Y', y, rfl, hy⟩ := snoc_of h3
    have ih := swapL_app P (n := n) (X := X') (Y := Y') (M := x :: M) (Q := y :: Q) (a := a) (b := b) h1 hx hy (by simp at h4 ⊢; omega)
    rw [swapL, show P ++ ((X' ++ [x]) ++ (M ++ ((Y' ++ [y]) ++ Q))) = P ++ (X' ++ ((x :: M) ++ (Y' ++ (y :: Q)))) by simp, ih]
    have := sw_app (P ++ Y') (M ++ X') Q x y (i := a + n) (j := b + n) (by simp; omega) (by simp at h4 ⊢; omega)
    rw [show P ++ (Y' ++ ((x :: M) ++ (X' ++ y :: Q))) = (P ++ Y') ++ x :: ((M ++ X') ++ y :: Q) by simp, this]
    simp
/-- In the midst of turning X ++ Y. -/
structure Rot (cur target : List Pr) (m i j : Nat) : Prop where
  ex : ∃ P X Y Q : List Pr, cur = P ++ (X ++ (Y ++ Q)) ∧ target = P ++ (Y ++ (X ++ Q)) ∧ P.length + i = m ∧ X.length = i ∧ Y.length = j
theorem Rot.gt {cur target : List Pr} {m i j : Nat} (h : Rot cur target m i j) (hij : j < i) : Rot (swapL cur (m - i) m j) target m (i - j) j := by
  obtain ⟨P, X, Y, Q, rfl, rfl, h1, h2, h3⟩ := h.ex
  refine ⟨P ++ Y, X.drop j, X.take j, Q, ?_, ?_, by simp; omega, by simp; omega, by simp; omega⟩
  · have := swapL_app P (n := j) (X := X.take j) (Y := Y) (M := X.drop j) (Q := Q) (a := m - i) (b := m) (by omega) (by simp; omega) h3 (by simp; omega)
    rw [show P ++ (X ++ (Y ++ Q)) = P ++ (X.take j ++ (X.drop j ++ (Y ++ Q))) by rw [← List.append_assoc (X.take j), List.take_append_drop], this]
    simp
  · rw [List.append_assoc, ← List.append_assoc (X.take j), List.take_append_drop]
theorem Rot.lt {cur target : List Pr} {m i j : Nat} (h : Rot cur target m i j) (hij : i < j) : Rot (swapL cur (m - i) (m + j - i) i) target m i (j - i) := by
  obtain ⟨P, X, Y, Q, rfl, rfl, h1, h2, h3⟩ := h.ex
  refine ⟨P, Y.drop (j - i), Y.take (j - i), X ++ Q, ?_, ?_, h1, by simp; omega, by simp; omega⟩
  · have := swapL_app P (n := i) (X := X) (Y := Y.drop (j - i)) (M := Y.take (j - i)) (Q := Q) (a := m - i) (b := m + j - i) (by omega) h2 (by simp; omega) (by simp; omega)
    rw [show P ++ (X ++ (Y ++ Q)) = P ++ (X ++ (Y.take (j - i) ++ (Y.drop (j - i) ++ Q))) by rw [← List.append_assoc (Y.take (j - i)), List.take_append_drop], this]
  · rw [← List.append_assoc (Y.take (j - i)), List.take_append_drop]
theorem Rot.eq {cur target : List Pr} {m i : Nat} (h : Rot cur target m i i) : swapL cur (m - i) m i = target := by
  obtain ⟨P, X, Y, Q, rfl, rfl, h1, h2, h3⟩ := h.ex
  have := swapL_app P (n := i) (X := X) (Y := Y) (M := []) (Q := Q) (a := m - i) (b := m) (by omega) h2 h3 (by simp; omega)
  simpa using this
theorem Rot.le {cur target : List Pr} {m i j : Nat} (h : Rot cur target m i j) : i ≤ m ∧ m + j ≤ cur.length ∧ target.length = cur.length := by
  obtain ⟨P, X, Y, Q, rfl, rfl, h1, h2, h3⟩ := h.ex
  simp; omega
/-- [a, m) and [m, b) exchanged. -/
def rotL (ys : List Pr) (a m b : Nat) : List Pr := ys.take a ++ ((ys.take b).drop m ++ ((ys.take m).drop a ++ ys.drop b))
theorem split4 {ys : List Pr} {a m b : Nat} (h1 : a ≤ m) (h2 : m ≤ b) : ys = ys.take a ++ ((ys.take m).drop a ++ ((ys.take b).drop m ++ ys.drop b)) := by
  have e : ∀ (k n : Nat), k ≤ n → ys.take n = ys.take k ++ (ys.take n).drop k := fun k n h => by
    conv => lhs; rw [← List.take_append_drop k (ys.take n)]
    rw [List.take_take, Nat.min_eq_left h]
  conv => lhs; rw [← List.take_append_drop b ys, e m b h2, e a m h1]
  simp
theorem rot_init {ys : List Pr} {a m b : Nat} (h1 : a ≤ m) (h2 : m ≤ b) (h3 : b ≤ ys.length) : Rot ys (rotL ys a m b) m (m - a) (b - m) :=
  ⟨ys.take a, (ys.take m).drop a, (ys.take b).drop m, ys.drop b, split4 h1 h2, rfl, by rw [List.length_take]; omega, by rw [List.length_drop, List.length_take]; omega, by rw [List.length_drop, List.length_take]; omega⟩
theorem rotL_len {ys : List Pr} {a m b : Nat} (h1 : a ≤ m) (h2 : m ≤ b) (h3 : b ≤ ys.length) : (rotL ys a m b).length = ys.length := (rot_init h1 h2 h3).le.2.2
theorem getD_app {l m : List Pr} {t : Nat} : (l ++ m).getD t (⟨#[]⟩, 0) = if t < l.length then l.getD t (⟨#[]⟩, 0) else m.getD (t - l.length) (⟨#[]⟩, 0) := by
  simp only [List.getD, List.getElem?_append]
  split <;> rfl
theorem getD_seg {ys : List Pr} {a b t : Nat} (h : a + t < b) : ((ys.take b).drop a).getD t (⟨#[]⟩, 0) = ys.getD (a + t) (⟨#[]⟩, 0) := by
  simp only [List.getD, List.getElem?_drop, List.getElem?_take, h, if_true]
theorem rotL_get {ys : List Pr} {a m b t : Nat} (h1 : a ≤ m) (h2 : m ≤ b) (h3 : b ≤ ys.length) : (rotL ys a m b).getD t (⟨#[]⟩, 0) = if t < a then ys.getD t (⟨#[]⟩, 0) else if t < a + (b - m) then ys.getD (t - a + m) (⟨#[]⟩, 0) else if t < b then ys.getD (t - (b - m)) (⟨#[]⟩, 0) else ys.getD t (⟨#[]⟩, 0) := by
  have l1 : (ys.take a).length = a := by rw [List.length_take]; omega
  have l2 : ((ys.take b).drop m).length = b - m := by rw [List.length_drop, List.length_take]; omega
  have l3 : ((ys.take m).drop a).length = m - a := by rw [List.length_drop, List.length_take]; omega
  unfold rotL
  rw [getD_app, l1]
  split
  · simp only [List.getD, List.getElem?_take]; rw [if_pos (by assumption)]
  rw [getD_app, l2]
  split
  · next c1 c2 => rw [if_pos (by omega), getD_seg (by omega), Nat.add_comm]
  next c1 c2 =>
  rw [if_neg (by omega), getD_app, l3]
  split
  · next c3 =>
    rw [if_pos (by omega), getD_seg (by omega)]
    congr 1; omega
  · next c3 =>
    rw [if_neg (by omega)]
    simp only [List.getD, List.getElem?_drop]
    congr 2; omega
theorem rotL_sg {ys : List Pr} {a m b : Nat} (h1 : a ≤ m) (h2 : m ≤ b) (h3 : b ≤ ys.length) (hn : ∀ s t, a ≤ s → s < m → m ≤ t → t < b → (ys.getD t (⟨#[]⟩, 0)).1 ≠ (ys.getD s (⟨#[]⟩, 0)).1) : Sg a b (rotL ys a m b) ys := by
  refine sg_of (P := ys.take a) (X := (ys.take m).drop a ++ (ys.take b).drop m) (Y := (ys.take b).drop m ++ (ys.take m).drop a) (Q := ys.drop b) ?_ ?_ ?_ ?_ ?_ ?_
  · rw [List.append_assoc]; exact split4 h1 h2
  · rw [List.append_assoc]; rfl
  · simp only [List.length_append]; omega
  · refine stb_swap fun p hp q hq => ?_
    obtain ⟨t, t1, t2, t3, rfl⟩ := seg_mem.1 hp
    obtain ⟨s, s1, s2, s3, rfl⟩ := seg_mem.1 hq
    exact hn s t s1 s2 t1 t2
  · rw [List.length_take]; omega
  · simp only [List.length_append, List.length_drop, List.length_take]; omega
/-! ### One pair moved -/
/-- The pair at m moved down to k. -/
theorem mv_step {ys : List Pr} {k m : Nat} (hk : k < m) (hm : m < ys.length) : sw (rotL ys (k + 1) m (m + 1)) (k + 1) k = rotL ys k m (m + 1) := by
  have l1 := rotL_len (ys := ys) (a := k + 1) (m := m) (b := m + 1) (by omega) (by omega) (by omega)
  refine List.ext_getElem (by rw [sw_len, l1, rotL_len (by omega) (by omega) (by omega)]) fun t h1 h2 => ?_
  rw [← getD_get h1, ← getD_get h2, sw_get (by rw [l1]; omega) (by rw [l1]; omega)]
  simp only [rotL_get (ys := ys) (a := k + 1) (m := m) (b := m + 1) (by omega) (by omega) (by omega), rotL_get (ys := ys) (a := k) (m := m) (b := m + 1) (by omega) (by omega) (by omega)]
  rw [sw_len, l1] at h1
  repeat' split
  all_goals first | rfl | omega | (congr 1; omega)
/-- The pair at a moved up to k. -/
theorem mu_step {ys : List Pr} {a k : Nat} (hk : a ≤ k) (hm : k + 1 < ys.length) : sw (rotL ys a (a + 1) (k + 1)) k (k + 1) = rotL ys a (a + 1) (k + 2) := by
  have l1 := rotL_len (ys := ys) (a := a) (m := a + 1) (b := k + 1) (by omega) (by omega) (by omega)
  refine List.ext_getElem (by rw [sw_len, l1, rotL_len (by omega) (by omega) (by omega)]) fun t h1 h2 => ?_
  rw [← getD_get h1, ← getD_get h2, sw_get (by rw [l1]; omega) (by rw [l1]; omega)]
  simp only [rotL_get (ys := ys) (a := a) (m := a + 1) (b := k + 1) (by omega) (by omega) (by omega), rotL_get (ys := ys) (a := a) (m := a + 1) (b := k + 2) (by omega) (by omega) (by omega)]
  rw [sw_len, l1] at h1
  repeat' split
  all_goals first | rfl | omega | (congr 1; omega)
theorem seg_nil {ys : List Pr} {m : Nat} : (ys.take m).drop m = [] := List.drop_eq_nil_of_le (by rw [List.length_take]; omega)
theorem rotL_same {ys : List Pr} {a m : Nat} (h1 : a ≤ m) : rotL ys a m m = ys := by
  have := split4 (ys := ys) h1 (Nat.le_refl m)
  unfold rotL
  rw [seg_nil, List.nil_append] at this ⊢
  exact this.symm
theorem rotL_same0 {ys : List Pr} {a b : Nat} (h1 : a ≤ b) : rotL ys a a b = ys := by
  have := split4 (ys := ys) (Nat.le_refl a) h1
  unfold rotL
  rw [seg_nil, List.nil_append] at this ⊢
  exact this.symm
end Go.Proofs.Ythmagkjcangnfaa
