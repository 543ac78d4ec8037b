/- C-nodes are maps: the plain laws. -/
import Derived.Test.YthmagkjcangnfaaBit2
set_option linter.unusedSimpArgs false
set_option linter.unusedVariables false
namespace Go.Ct
open Go Go.RowKit

/-- The map of a bitmap and its list. -/
def mOf (b : Nat) (xs : List Int) (k : Nat) : Option Int := if b.testBit k = true then some (xs.getD (cnt b k) 0) else none
def bOf (m : Nat → Option Int) : Nat → Nat
  | 0 => 0
  | k + 1 => if (m k).isSome = true then bOf m k ||| 2 ^ k else bOf m k
def lOf (m : Nat → Option Int) : Nat → List Int
  | 0 => []
  | k + 1 => lOf m k ++ (m k).toList
def upd (m : Nat → Option Int) (i : Nat) (o : Option Int) (k : Nat) : Option Int := if k = i then o else m k
structure BV (b : Nat) (xs : List Int) : Prop where
  lt : b < 18446744073709551616
  len : xs.length = cnt b 64
  pos : ∀ i, i < xs.length → 1 ≤ xs.getD i 0
def Good (m : Nat → Option Int) : Prop := ∀ k v, m k = some v → 1 ≤ v

theorem bOf_bit (m : Nat → Option Int) (j : Nat) : ∀ k, (bOf m k).testBit j = (decide (j < k) && (m j).isSome)
  | 0 => by simp [bOf]
  | k + 1 => by
    have ih := bOf_bit m j k
    simp only [bOf]
    by_cases hjk : j = k
    · subst hjk
      by_cases h : (m j).isSome = true
      · rw [if_pos h, Nat.testBit_or, Nat.testBit_two_pow]; simp [h]
      · rw [if_neg h, ih]; simp at h; simp [h]
    · have h2 : (2 ^ k).testBit j = false := by rw [Nat.testBit_two_pow]; exact decide_eq_false (fun h => hjk h.symm)
      split
      · rw [Nat.testBit_or, ih, h2, Bool.or_false]
        congr 1
        exact decide_eq_decide.2 (by omega)
      · rw [ih]
        congr 1
        exact decide_eq_decide.2 (by omega)
theorem bOf_lt (m : Nat → Option Int) : ∀ k, bOf m k < 2 ^ k
  | 0 => by simp [bOf]
  | k + 1 => by
    have ih := bOf_lt m k
    have h2 : 2 ^ (k + 1) = 2 ^ k + 2 ^ k := by rw [Nat.pow_succ]; omega
    simp only [bOf]
    split
    · refine Nat.or_lt_two_pow (by omega) ?_
      have := Nat.two_pow_pos k
      omega
    · omega
theorem cnt_bOf (m : Nat → Option Int) : ∀ k n, k ≤ n → cnt (bOf m n) k = (lOf m k).length
  | 0, _, _ => rfl
  | k + 1, n, h => by
    have ih := cnt_bOf m k n (by omega)
    simp only [cnt, lOf, List.length_append, ih, bOf_bit]
    have : decide (k < n) = true := decide_eq_true (by omega)
    rw [this]
    cases m k <;> simp
theorem lOf_pre (m : Nat → Option Int) (k : Nat) : ∀ d, ∃ r, lOf m (k + d) = lOf m k ++ r
  | 0 => ⟨[], by simp⟩
  | d + 1 => by
    obtain ⟨r, hr⟩ := lOf_pre m k d
    refine ⟨r ++ (m (k + d)).toList, ?_⟩
    rw [← Nat.add_assoc]
    simp only [lOf, hr, List.append_assoc]
theorem lOf_at (m : Nat → Option Int) {k n : Nat} (h : k < n) {v : Int} (hv : m k = some v) : (lOf m n).getD (lOf m k).length 0 = v := by
  obtain ⟨d, rfl⟩ := Nat.exists_eq_add_of_le (Nat.succ_le_of_lt h)
  obtain ⟨r, hr⟩ := lOf_pre m (k + 1) d
  rw [show k.succ + d = k + 1 + d from rfl, hr]
  simp only [lOf, hv, Option.toList]
  simp
theorem lOf_pos {m : Nat → Option Int} (h : Good m) : ∀ k, ∀ x ∈ lOf m k, 1 ≤ x
  | 0 => by simp [lOf]
  | k + 1 => by
    intro x hx
    simp only [lOf, List.mem_append] at hx
    rcases hx with hx | hx
    · exact lOf_pos h k x hx
    · cases hm : m k with
      | none => rw [hm] at hx; simp at hx
      | some v => rw [hm] at hx; simp at hx; subst hx; exact h k _ hm
theorem getD_mem {xs : List Int} {i : Nat} (h : i < xs.length) : xs.getD i 0 ∈ xs := by
  rw [List.getD_eq_getElem?_getD, List.getElem?_eq_getElem h]
  exact List.getElem_mem h
theorem bv_of {m : Nat → Option Int} (h : Good m) : BV (bOf m 64) (lOf m 64) :=
  ⟨bOf_lt m 64, (cnt_bOf m 64 64 (Nat.le_refl _)).symm, fun i hi => lOf_pos h 64 _ (getD_mem hi)⟩
theorem mOf_of (m : Nat → Option Int) {k : Nat} (h : k < 64) : mOf (bOf m 64) (lOf m 64) k = m k := by
  unfold mOf
  rw [bOf_bit, cnt_bOf m k 64 (by omega), decide_eq_true h, Bool.true_and]
  cases hm : m k with
  | none => simp
  | some v => rw [lOf_at m h hm]; rfl
theorem of_congr {m m' : Nat → Option Int} : ∀ n, (∀ k, k < n → m k = m' k) → bOf m n = bOf m' n ∧ lOf m n = lOf m' n
  | 0, _ => ⟨rfl, rfl⟩
  | n + 1, h => by
    obtain ⟨h1, h2⟩ := of_congr n fun k hk => h k (by omega)
    simp only [bOf, lOf, h1, h2, h n (by omega), and_self]
theorem cnt_mono (b : Nat) (k : Nat) : ∀ d, cnt b k ≤ cnt b (k + d)
  | 0 => Nat.le_refl _
  | d + 1 => by have := cnt_mono b k d; rw [← Nat.add_assoc]; simp only [cnt]; omega
theorem cnt_lt {b k n : Nat} (h : k < n) (hb : b.testBit k = true) : cnt b k < cnt b n := by
  obtain ⟨d, rfl⟩ := Nat.exists_eq_add_of_le (Nat.succ_le_of_lt h)
  have := cnt_mono b (k + 1) d
  simp only [cnt, hb, if_true] at this
  exact this
theorem lOf_mOf {b : Nat} {xs : List Int} (h : xs.length = cnt b 64) : ∀ k, k ≤ 64 → lOf (mOf b xs) k = xs.take (cnt b k)
  | 0, _ => by simp [lOf, cnt]
  | k + 1, hk => by
    have ih := lOf_mOf h k (by omega)
    simp only [lOf, ih, mOf, cnt]
    split
    · rename_i hb
      have := cnt_lt (n := 64) (by omega) hb
      rw [List.take_add_one, Option.toList, List.getD_eq_getElem?_getD, List.getElem?_eq_getElem (by omega)]
      rfl
    · simp
theorem of_mOf {b : Nat} {xs : List Int} (h : BV b xs) : bOf (mOf b xs) 64 = b ∧ lOf (mOf b xs) 64 = xs := by
  refine ⟨Nat.eq_of_testBit_eq fun j => ?_, ?_⟩
  · rw [bOf_bit]
    by_cases hj : j < 64
    · rw [decide_eq_true hj, Bool.true_and]
      unfold mOf
      cases hb : b.testBit j <;> simp
    · rw [decide_eq_false hj, Bool.false_and]
      exact (Nat.testBit_lt_two_pow (Nat.lt_of_lt_of_le h.lt (Nat.pow_le_pow_right (n := 2) (by decide) (show 64 ≤ j by omega)))).symm
  · rw [lOf_mOf h.len 64 (Nat.le_refl _), ← h.len, List.take_length]
theorem good_mOf {b : Nat} {xs : List Int} (h : BV b xs) {k : Nat} (hk : k < 64) {v : Int} (hv : mOf b xs k = some v) : 1 ≤ v := by
  unfold mOf at hv
  split at hv
  · rename_i hb
    cases hv
    exact h.pos _ (by rw [h.len]; exact cnt_lt hk hb)
  · cases hv
/-- A bitmap with its list is known by its map. -/
theorem bv_eq {b b' : Nat} {xs xs' : List Int} (h : BV b xs) (h' : BV b' xs') (hm : ∀ k, k < 64 → mOf b xs k = mOf b' xs' k) : b = b' ∧ xs = xs' := by
  obtain ⟨e1, e2⟩ := of_mOf h
  obtain ⟨e3, e4⟩ := of_mOf h'
  obtain ⟨e5, e6⟩ := of_congr 64 hm
  exact ⟨by rw [← e1, ← e3, e5], by rw [← e2, ← e4, e6]⟩
/-- One bit more. -/
theorem cnt_more {b b' i : Nat} (h : b.testBit i = false) (hb : ∀ j, j < 64 → b'.testBit j = (b.testBit j || decide (j = i))) : ∀ k, k ≤ 64 → cnt b' k = cnt b k + if i < k then 1 else 0
  | 0, _ => rfl
  | k + 1, hk => by
    have ih := cnt_more h hb k (by omega)
    simp only [cnt, ih, hb k (by omega)]
    by_cases hki : k = i
    · subst hki
      simp [h]
    · have : decide (k = i) = false := decide_eq_false hki
      rw [this, Bool.or_false]
      have e : (i < k + 1) ↔ (i < k) := by omega
      simp only [e]
      omega
def insL (xs : List Int) (p : Nat) (r : Int) : List Int := xs.take p ++ r :: xs.drop p
def updL (xs : List Int) (p : Nat) (r : Int) : List Int := xs.take p ++ r :: xs.drop (p + 1)
def remL (xs : List Int) (p : Nat) : List Int := xs.take p ++ xs.drop (p + 1)
theorem insL_len {xs : List Int} {p : Nat} (hp : p ≤ xs.length) (r : Int) : (insL xs p r).length = xs.length + 1 := by
  simp [insL]; omega
theorem updL_len {xs : List Int} {p : Nat} (hp : p < xs.length) (r : Int) : (updL xs p r).length = xs.length := by
  simp [updL]; omega
theorem remL_len {xs : List Int} {p : Nat} (hp : p < xs.length) : (remL xs p).length + 1 = xs.length := by
  simp [remL]; omega
theorem insL_at {xs : List Int} {p : Nat} (hp : p ≤ xs.length) (r : Int) (q : Nat) : (insL xs p r).getD q 0 = if q < p then xs.getD q 0 else if q = p then r else xs.getD (q - 1) 0 := by
  simp only [insL, List.getD_eq_getElem?_getD]
  by_cases h1 : q < p
  · rw [if_pos h1, List.getElem?_append_left (by simp; omega), List.getElem?_take_of_lt h1]
  · rw [if_neg h1, List.getElem?_append_right (by simp; omega)]
    have : (xs.take p).length = p := by simp; omega
    rw [this]
    by_cases h2 : q = p
    · subst h2; simp
    · obtain ⟨d, hd⟩ : ∃ d, q - p = d + 1 := ⟨q - p - 1, by omega⟩
      rw [if_neg h2, hd, List.getElem?_cons_succ, List.getElem?_drop]
      congr 2
      omega
theorem updL_at {xs : List Int} {p : Nat} (hp : p < xs.length) (r : Int) (q : Nat) : (updL xs p r).getD q 0 = if q = p then r else xs.getD q 0 := by
  simp only [updL, List.getD_eq_getElem?_getD]
  by_cases h1 : q < p
  · rw [if_neg (by omega), List.getElem?_append_left (by simp; omega), List.getElem?_take_of_lt h1]
  · rw [List.getElem?_append_right (by simp; omega)]
    have : (xs.take p).length = p := by simp; omega
    rw [this]
    by_cases h2 : q = p
    · subst h2; simp
    · obtain ⟨d, hd⟩ : ∃ d, q - p = d + 1 := ⟨q - p - 1, by omega⟩
      rw [if_neg h2, hd, List.getElem?_cons_succ, List.getElem?_drop]
      congr 2
      omega
theorem remL_at {xs : List Int} {p : Nat} (hp : p < xs.length) (q : Nat) : (remL xs p).getD q 0 = if q < p then xs.getD q 0 else xs.getD (q + 1) 0 := by
  simp only [remL, List.getD_eq_getElem?_getD]
  by_cases h1 : q < p
  · rw [if_pos h1, List.getElem?_append_left (by simp; omega), List.getElem?_take_of_lt h1]
  · rw [if_neg h1, List.getElem?_append_right (by simp; omega)]
    have : (xs.take p).length = p := by simp; omega
    rw [this, List.getElem?_drop]
    congr 2
    omega
theorem pos_of_at {xs ys : List Int} (h : ∀ i, i < xs.length → 1 ≤ xs.getD i 0) (hy : ∀ j, j < ys.length → 1 ≤ ys.getD j 0 ∨ ∃ i, i < xs.length ∧ ys.getD j 0 = xs.getD i 0) : ∀ j, j < ys.length → 1 ≤ ys.getD j 0 := fun j hj => by
  rcases hy j hj with h1 | ⟨i, hi, he⟩
  · exact h1
  · rw [he]; exact h i hi
section
variable {b i : Nat} {xs : List Int} {r : Int}
theorem with_bit (b i : Nat) (j : Nat) : (b ||| 2 ^ i).testBit j = (b.testBit j || decide (j = i)) := by
  rw [Nat.testBit_or, Nat.testBit_two_pow]
  congr 1
  exact decide_eq_decide.2 eq_comm
theorem without_bit (b i : Nat) (j : Nat) : (b ^^^ (b &&& 2 ^ i)).testBit j = (b.testBit j && !decide (j = i)) := by
  rw [Nat.testBit_xor, Nat.testBit_and, Nat.testBit_two_pow]
  have : decide (i = j) = decide (j = i) := decide_eq_decide.2 eq_comm
  rw [this]
  cases b.testBit j <;> cases decide (j = i) <;> rfl
theorem ins_bv (h : BV b xs) (hi : i < 64) (hb : b.testBit i = false) (hr : 1 ≤ r) : BV (b ||| 2 ^ i) (insL xs (cnt b i) r) ∧ ∀ k, k < 64 → mOf (b ||| 2 ^ i) (insL xs (cnt b i) r) k = upd (mOf b xs) i (some r) k := by
  have hc := cnt_more hb (fun j _ => with_bit b i j)
  have hp : cnt b i ≤ xs.length := by
    obtain ⟨d, hd⟩ := Nat.exists_eq_add_of_le (Nat.le_of_lt hi)
    rw [h.len, hd]
    exact cnt_mono b i d
  refine ⟨⟨Nat.or_lt_two_pow (n := 64) h.lt (Nat.pow_lt_pow_right (a := 2) (by decide) hi), ?_, pos_of_at h.pos fun j hj => ?_⟩, fun k hk => ?_⟩
  · rw [insL_len hp, hc 64 (Nat.le_refl _), if_pos hi, h.len]
  · rw [insL_len hp] at hj
    rw [insL_at hp]
    by_cases h1 : j < cnt b i
    · rw [if_pos h1]; exact .inr ⟨j, by omega, rfl⟩
    · rw [if_neg h1]
      by_cases h2 : j = cnt b i
      · rw [if_pos h2]; exact .inl hr
      · rw [if_neg h2]; exact .inr ⟨j - 1, by omega, rfl⟩
  · simp only [mOf, upd]
    rw [with_bit, hc k (by omega), insL_at hp]
    by_cases hki : k = i
    · subst hki; simp
    · rw [if_neg hki, decide_eq_false hki, Bool.or_false]
      by_cases hbk : b.testBit k = true
      · rw [if_pos hbk, if_pos hbk]
        congr 1
        by_cases hlt : k < i
        · have := cnt_lt hlt hbk
          rw [if_neg (show ¬ i < k by omega), if_pos (by omega)]
          rfl
        · have : cnt b i ≤ cnt b k := by
            obtain ⟨d, hd⟩ := Nat.exists_eq_add_of_le (show i ≤ k by omega)
            rw [hd]; exact cnt_mono b i d
          rw [if_pos (show i < k by omega), if_neg (by omega), if_neg (by omega)]
          rfl
      · rw [if_neg hbk, if_neg hbk]
theorem upd_bv (h : BV b xs) (hi : i < 64) (hb : b.testBit i = true) (hr : 1 ≤ r) : BV b (updL xs (cnt b i) r) ∧ ∀ k, k < 64 → mOf b (updL xs (cnt b i) r) k = upd (mOf b xs) i (some r) k := by
  have hp : cnt b i < xs.length := by rw [h.len]; exact cnt_lt hi hb
  refine ⟨⟨h.lt, by rw [updL_len hp, h.len], pos_of_at h.pos fun j hj => ?_⟩, fun k hk => ?_⟩
  · rw [updL_len hp] at hj
    rw [updL_at hp]
    by_cases h2 : j = cnt b i
    · rw [if_pos h2]; exact .inl hr
    · rw [if_neg h2]; exact .inr ⟨j, hj, rfl⟩
  · simp only [mOf, upd]
    rw [updL_at hp]
    by_cases hki : k = i
    · subst hki; rw [if_pos hb, if_pos rfl, if_pos rfl]
    · rw [if_neg hki]
      by_cases hbk : b.testBit k = true
      · rw [if_pos hbk, if_pos hbk, if_neg]
        rcases Nat.lt_or_gt_of_ne hki with hlt | hlt
        · have := cnt_lt hlt hbk; omega
        · have := cnt_lt hlt hb; omega
      · rw [if_neg hbk, if_neg hbk]
theorem rem_bv (h : BV b xs) (hi : i < 64) (hb : b.testBit i = true) : BV (b ^^^ (b &&& 2 ^ i)) (remL xs (cnt b i)) ∧ ∀ k, k < 64 → mOf (b ^^^ (b &&& 2 ^ i)) (remL xs (cnt b i)) k = upd (mOf b xs) i none k := by
  have hp : cnt b i < xs.length := by rw [h.len]; exact cnt_lt hi hb
  have hb' : (b ^^^ (b &&& 2 ^ i)).testBit i = false := by rw [without_bit]; simp
  have hc := cnt_more (b' := b) hb' (fun j _ => by
    rw [without_bit]
    by_cases hji : j = i
    · subst hji; simp [hb]
    · rw [decide_eq_false hji]; simp)
  refine ⟨⟨Nat.xor_lt_two_pow (n := 64) h.lt (Nat.lt_of_le_of_lt Nat.and_le_left h.lt), ?_, pos_of_at h.pos fun j hj => ?_⟩, fun k hk => ?_⟩
  · have := remL_len hp
    have := hc 64 (Nat.le_refl _)
    rw [if_pos hi] at this
    have := h.len
    omega
  · have := remL_len hp
    rw [remL_at hp]
    by_cases h1 : j < cnt b i
    · rw [if_pos h1]; exact .inr ⟨j, by omega, rfl⟩
    · rw [if_neg h1]; exact .inr ⟨j + 1, by omega, rfl⟩
  · simp only [mOf, upd]
    have hck := hc k (by omega)
    rw [without_bit, remL_at hp]
    by_cases hki : k = i
    · subst hki; simp
    · rw [if_neg hki, decide_eq_false hki, Bool.not_false, Bool.and_true]
      by_cases hbk : b.testBit k = true
      · rw [if_pos hbk, if_pos hbk]
        congr 1
        by_cases hlt : k < i
        · have := cnt_lt hlt hbk
          rw [if_neg (show ¬ i < k by omega)] at hck
          rw [if_pos (by omega), hck]
          rfl
        · have := cnt_lt (show i < k by omega) hb
          rw [if_pos (show i < k by omega)] at hck
          rw [if_neg (by omega), hck]
      · rw [if_neg hbk, if_neg hbk]
end
end Go.Ct
