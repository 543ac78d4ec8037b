/- C-nodes are maps: the plain laws. -/
import Derived.Test.YtpfjjagcmjmfpaaBit2
import Derived.Test.YtpfjjagcmjmfpaaAuto
import Derived.Test.YtpfjjagcmjmfpaaNode4
import Derived.Test.YtpfjjagcmjmfpaaNode3

set_option linter.unusedSimpArgs false
set_option linter.unusedVariables false
namespace Go.Ct
open Go Go.RowKit

/-- The map of a bitmap and its list. -/
def mOf (b : Nat) (xs : List Int) (k : Nat) : Option Int := if b.testBit k = true then some (xs.getD (cnt b k) 0) else none
def bOf (m : Nat → Option Int) : Nat → Nat
  | 0 => 0
  | k + 1 => if (m k).isSome = true then bOf m k ||| 2 ^ k else bOf m k
def lOf (m : Nat → Option Int) : Nat → List Int
  | 0 => []
  | k + 1 => lOf m k ++ (m k).toList
def upd (m : Nat → Option Int) (i : Nat) (o : Option Int) (k : Nat) : Option Int := if k = i then o else m k
structure BV (b : Nat) (xs : List Int) : Prop where
  lt : b < 18446744073709551616
  len : xs.length = cnt b 64
  pos : ∀ i, i < xs.length → 1 ≤ xs.getD i 0
def Good (m : Nat → Option Int) : Prop := ∀ k v, m k = some v → 1 ≤ v

theorem bOf_bit (m : Nat → Option Int) (j : Nat) : ∀ k, (bOf m k).testBit j = (decide (j < k) && (m j).isSome)
  | 0 => by simp [bOf]
  | k + 1 => by
    have ih := bOf_bit m j k
    simp only [bOf]
    by_cases hjk : j = k
    · subst hjk
      by_cases h : (m j).isSome = true
      · rw [if_pos h, Nat.testBit_or, Nat.testBit_two_pow]; simp [h]
      · rw [if_neg h, ih]; simp at h; simp [h]
    · have h2 : (2 ^ k).testBit j = false := by rw [Nat.testBit_two_pow]; exact decide_eq_false (fun h => hjk h.symm)
      split
      · rw [Nat.testBit_or, ih, h2, Bool.or_false]
        congr 1
        exact decide_eq_decide.2 (by omega)
      · rw [ih]
        congr 1
        exact decide_eq_decide.2 (by omega)
theorem bOf_lt (m : Nat → Option Int) : ∀ k, bOf m k < 2 ^ k
  | 0 => by simp [bOf]
  | k + 1 => by
    have ih := bOf_lt m k
    have h2 : 2 ^ (k + 1) = 2 ^ k + 2 ^ k := by rw [Nat.pow_succ]; omega
    simp only [bOf]
    split
    · refine Nat.or_lt_two_pow (by omega) ?_
      have := Nat.two_pow_pos k
      omega
    · omega
theorem cnt_bOf (m : Nat → Option Int) : ∀ k n, k ≤ n → cnt (bOf m n) k = (lOf m k).length
  | 0, _, _ => rfl
  | k + 1, n, h => by
    have ih := cnt_bOf m k n (by omega)
    simp only [cnt, lOf, List.length_append, ih, bOf_bit]
    have : decide (k < n) = true := decide_eq_true (by omega)
    rw [this]
    cases m k <;> simp
theorem lOf_pre (m : Nat → Option Int) (k : Nat) : ∀ d, ∃ r, lOf m (k + d) = lOf m k ++ r
  | 0 => ⟨[], by simp⟩
  | d + 1 => by
    obtain ⟨r, hr⟩ := lOf_pre m k d
    refine ⟨r ++ (m (k + d)).toList, ?_⟩
    rw [← Nat.add_assoc]
    simp only [lOf, hr, List.append_assoc]
theorem lOf_at (m : Nat → Option Int) {k n : Nat} (h : k < n) {v : Int} (hv : m k = some v) : (lOf m n).getD (lOf m k).length 0 = v := by
  obtain ⟨d, rfl⟩ := Nat.exists_eq_add_of_le (Nat.succ_le_of_lt h)
  obtain ⟨r, hr⟩ := lOf_pre m (k + 1) d
  rw [show k.succ + d = k + 1 + d from rfl, hr]
  simp only [lOf, hv, Option.toList]
  simp
theorem lOf_pos {m : Nat → Option Int} (h : Good m) : ∀ k, ∀ x ∈ lOf m k, 1 ≤ x
  | 0 => by simp [lOf]
  | k + 1 => by
    intro x hx
    simp only [lOf, List.mem_append] at hx
    rcases hx with hx | hx
    · exact lOf_pos h k x hx
    · cases hm : m k with
      | none => rw [hm] at hx; simp at hx
      | some v => rw [hm] at hx; simp at hx; subst hx; exact h k _ hm
theorem getD_memI {xs : List Int} {i : Nat} (h : i < xs.length) : xs.getD i 0 ∈ xs := by
  rw [List.getD_eq_getElem?_getD, List.getElem?_eq_getElem h]
  exact List.getElem_mem h
theorem bv_of {m : Nat → Option Int} (h : Good m) : BV (bOf m 64) (lOf m 64) :=
  ⟨bOf_lt m 64, (cnt_bOf m 64 64 (Nat.le_refl _)).symm, fun i hi => lOf_pos h 64 _ (getD_memI hi)⟩
theorem mOf_of (m : Nat → Option Int) {k : Nat} (h : k < 64) : mOf (bOf m 64) (lOf m 64) k = m k := by
  unfold mOf
  rw [bOf_bit, cnt_bOf m k 64 (by omega), decide_eq_true h, Bool.true_and]
  cases hm : m k with
  | none => simp
  | some v => rw [lOf_at m h hm]; rfl
theorem of_congr {m m' : Nat → Option Int} : ∀ n, (∀ k, k < n → m k = m' k) → bOf m n = bOf m' n ∧ lOf m n = lOf m' n
  | 0, _ => ⟨rfl, rfl⟩
  | n + 1, h => by
    obtain ⟨h1, h2⟩ := of_congr n fun k hk => h k (by omega)
    simp only [bOf, lOf, h1, h2, h n (by omega), and_self]
theorem cnt_mono (b : Nat) (k : Nat) : ∀ d, cnt b k ≤ cnt b (k + d)
  | 0 => Nat.le_refl _
  | d + 1 => by have := cnt_mono b k d; rw [← Nat.add_assoc]; simp only [cnt]; omega
theorem cnt_lt {b k n : Nat} (h : k < n) (hb : b.testBit k = true) : cnt b k < cnt b n := by
  obtain ⟨d, rfl⟩ := Nat.exists_eq_add_of_le (Nat.succ_le_of_lt h)
  have := cnt_mono b (k + 1) d
  simp only [cnt, hb, if_true] at this
  exact this
theorem lOf_mOf {b : Nat} {xs : List Int} (h : xs.length = cnt b 64) : ∀ k, k ≤ 64 → lOf (mOf b xs) k = xs.take (cnt b k)
  | 0, _ => by simp [lOf, cnt]
  | k + 1, hk => by
    have ih := lOf_mOf h k (by omega)
    simp only [lOf, ih, mOf, cnt]
    split
    · rename_i hb
      have := cnt_lt (n := 64) (by omega) hb
      rw [List.take_add_one, Option.toList, List.getD_eq_getElem?_getD, List.getElem?_eq_getElem (by omega)]
      rfl
    · simp
theorem of_mOf {b : Nat} {xs : List Int} (h : BV b xs) : bOf (mOf b xs) 64 = b ∧ lOf (mOf b xs) 64 = xs := by
  refine ⟨Nat.eq_of_testBit_eq fun j => ?_, ?_⟩
  · rw [bOf_bit]
    by_cases hj : j < 64
    · rw [decide_eq_true hj, Bool.true_and]
      unfold mOf
      cases hb : b.testBit j <;> simp
    · rw [decide_eq_false hj, Bool.false_and]
      exact (Nat.testBit_lt_two_pow (Nat.lt_of_lt_of_le h.lt (Nat.pow_le_pow_right (n := 2) (by decide) (show 64 ≤ j by omega)))).symm
  · rw [lOf_mOf h.len 64 (Nat.le_refl _), ← h.len, List.take_length]
theorem good_mOf {b : Nat} {xs : List Int} (h : BV b xs) {k : Nat} (hk : k < 64) {v : Int} (hv : mOf b xs k = some v) : 1 ≤ v := by
  unfold mOf at hv
  split at hv
  · rename_i hb
    cases hv
    exact h.pos _ (by rw [h.len]; exact cnt_lt hk hb)
  · cases hv
/-- A bitmap with its list is known by its map. -/
theorem bv_eq {b b' : Nat} {xs xs' : List Int} (h : BV b xs) (h' : BV b' xs') (hm : ∀ k, k < 64 → mOf b xs k = mOf b' xs' k) : b = b' ∧ xs = xs' := by
  obtain ⟨e1, e2⟩ := of_mOf h
  obtain ⟨e3, e4⟩ := of_mOf h'
  obtain ⟨e5, e6⟩ := of_congr 64 hm
  exact ⟨by rw [← e1, ← e3, e5], by rw [← e2, ← e4, e6]⟩
/-- One bit more. -/
theorem cnt_more {b b' i : Nat} (h : b.testBit i = false) (hb : ∀ j, j < 64 → b'.testBit j = (b.testBit j || decide (j = i))) : ∀ k, k ≤ 64 → cnt b' k = cnt b k + if i < k then 1 else 0
  | 0, _ => rfl
  | k + 1, hk => by
    have ih := cnt_more h hb k (by omega)
    simp only [cnt, ih, hb k (by omega)]
    by_cases hki : k = i
    · subst hki
      simp [h]
    · have : decide (k = i) = false := decide_eq_false hki
      rw [this, Bool.or_false]
      have e : (i < k + 1) ↔ (i < k) := by omega
      simp only [e]
      omega
def insL (xs : List Int) (p : Nat) (r : Int) : List Int := xs.take p ++ r :: xs.drop p
def updL (xs : List Int) (p : Nat) (r : Int) : List Int := xs.take p ++ r :: xs.drop (p + 1)
def remL (xs : List Int) (p : Nat) : List Int := xs.take p ++ xs.drop (p + 1)
theorem insL_len {xs : List Int} {p : Nat} (hp : p ≤ xs.length) (r : Int) : (insL xs p r).length = xs.length + 1 := by
  simp [insL]; omega
theorem updL_len {xs : List Int} {p : Nat} (hp : p < xs.length) (r : Int) : (updL xs p r).length = xs.length := by
  simp [updL]; omega
theorem remL_len {xs : List Int} {p : Nat} (hp : p < xs.length) : (remL xs p).length + 1 = xs.length := by
  simp [remL]; omega
theorem insL_at {xs : List Int} {p : Nat} (hp : p ≤ xs.length) (r : Int) (q : Nat) : (insL xs p r).getD q 0 = if q < p then xs.getD q 0 else if q = p then r else xs.getD (q - 1) 0 := by
  simp only [insL, List.getD_eq_getElem?_getD]
  by_cases h1 : q < p
  · rw [if_pos h1, List.getElem?_append_left (by simp; omega), List.getElem?_take_of_lt h1]
  · rw [if_neg h1, List.getElem?_append_right (by simp; omega)]
    have : (xs.take p).length = p := by simp; omega
    rw [this]
    by_cases h2 : q = p
    · subst h2; simp
    · obtain ⟨d, hd⟩ : ∃ d, q - p = d + 1 := ⟨q - p - 1, by omega⟩
      rw [if_neg h2, hd, List.getElem?_cons_succ, List.getElem?_drop]
      congr 2
      omega
theorem updL_at {xs : List Int} {p : Nat} (hp : p < xs.length) (r : Int) (q : Nat) : (updL xs p r).getD q 0 = if q = p then r else xs.getD q 0 := by
  simp only [updL, List.getD_eq_getElem?_getD]
  by_cases h1 : q < p
  · rw [if_neg (by omega), List.getElem?_append_left (by simp; omega), List.getElem?_take_of_lt h1]
  · rw [List.getElem?_append_right (by simp; omega)]
    have : (xs.take p).length = p := by simp; omega
    rw [this]
    by_cases h2 : q = p
    · subst h2; simp
    · obtain ⟨d, hd⟩ : ∃ d, q - p = d + 1 := ⟨q - p - 1, by omega⟩
      rw [if_neg h2, hd, List.getElem?_cons_succ, List.getElem?_drop]
      congr 2
      omega
theorem remL_at {xs : List Int} {p : Nat} (hp : p < xs.length) (q : Nat) : (remL xs p).getD q 0 = if q < p then xs.getD q 0 else xs.getD (q + 1) 0 := by
  simp only [remL, List.getD_eq_getElem?_getD]
  by_cases h1 : q < p
  · rw [if_pos h1, List.getElem?_append_left (by simp; omega), List.getElem?_take_of_lt h1]
  · rw [if_neg h1, List.getElem?_append_right (by simp; omega)]
    have : (xs.take p).length = p := by simp; omega
    rw [this, List.getElem?_drop]
    congr 2
    omega
theorem pos_of_at {xs ys : List Int} (h : ∀ i, i < xs.length → 1 ≤ xs.getD i 0) (hy : ∀ j, j < ys.length → 1 ≤ ys.getD j 0 ∨ ∃ i, i < xs.length ∧ ys.getD j 0 = xs.getD i 0) : ∀ j, j < ys.length → 1 ≤ ys.getD j 0 := fun j hj => by
  rcases hy j hj with h1 | ⟨i, hi, he⟩
  · exact h1
  · rw [he]; exact h i hi
section
variable {b i : Nat} {xs : List Int} {r : Int}
theorem with_bit (b i : Nat) (j : Nat) : (b ||| 2 ^ i).testBit j = (b.testBit j || decide (j = i)) := by
  rw [Nat.testBit_or, Nat.testBit_two_pow]
  congr 1
  exact decide_eq_decide.2 eq_comm
theorem without_bit (b i : Nat) (j : Nat) : (b ^^^ (b &&& 2 ^ i)).testBit j = (b.testBit j && !decide (j = i)) := by
  rw [Nat.testBit_xor, Nat.testBit_and, Nat.testBit_two_pow]
  have : decide (i = j) = decide (j = i) := decide_eq_decide.2 eq_comm
  rw [this]
  cases b.testBit j <;> cases decide (j = i) <;> rfl
theorem ins_bv (h : BV b xs) (hi : i < 64) (hb : b.testBit i = false) (hr : 1 ≤ r) : BV (b ||| 2 ^ i) (insL xs (cnt b i) r) ∧ ∀ k, k < 64 → mOf (b ||| 2 ^ i) (insL xs (cnt b i) r) k = upd (mOf b xs) i (some r) k := by
  have hc := cnt_more hb (fun j _ => with_bit b i j)
  have hp : cnt b i ≤ xs.length := by
    obtain ⟨d, hd⟩ := Nat.exists_eq_add_of_le (Nat.le_of_lt hi)
    rw [h.len, hd]
    exact cnt_mono b i d
  refine ⟨⟨Nat.or_lt_two_pow (n := 64) h.lt (Nat.pow_lt_pow_right (a := 2) (by decide) hi), ?_, pos_of_at h.pos fun j hj => ?_⟩, fun k hk => ?_⟩
  · rw [insL_len hp, hc 64 (Nat.le_refl _), if_pos hi, h.len]
  · rw [insL_len hp] at hj
    rw [insL_at hp]
    by_cases h1 : j < cnt b i
    · rw [if_pos h1]; exact .inr ⟨j, by omega, rfl⟩
    · rw [if_neg h1]
      by_cases h2 : j = cnt b i
      · rw [if_pos h2]; exact .inl hr
      · rw [if_neg h2]; exact .inr ⟨j - 1, by omega, rfl⟩
  · simp only [mOf, upd]
    rw [with_bit, hc k (by omega), insL_at hp]
    by_cases hki : k = i
    · subst hki; simp
    · rw [if_neg hki, decide_eq_false hki, Bool.or_false]
      by_cases hbk : b.testBit k = true
      · rw [if_pos hbk, if_pos hbk]
        congr 1
        by_cases hlt : k < i
        · have := cnt_lt hlt hbk
          rw [if_neg (show ¬ i < k by omega), if_pos (by omega)]
          rfl
        · have : cnt b i ≤ cnt b k := by
            obtain ⟨d, hd⟩ := Nat.exists_eq_add_of_le (show i ≤ k by omega)
            rw [hd]; exact cnt_mono b i d
          rw [if_pos (show i < k by omega), if_neg (by omega), if_neg (by omega)]
          rfl
      · rw [if_neg hbk, if_neg hbk]
theorem upd_bv (h : BV b xs) (hi : i < 64) (hb : b.testBit i = true) (hr : 1 ≤ r) : BV b (updL xs (cnt b i) r) ∧ ∀ k, k < 64 → mOf b (updL xs (cnt b i) r) k = upd (mOf b xs) i (some r) k := by
  have hp : cnt b i < xs.length := by rw [h.len]; exact cnt_lt hi hb
  refine ⟨⟨h.lt, by rw [updL_len hp, h.len], pos_of_at h.pos fun j hj => ?_⟩, fun k hk => ?_⟩
  · rw [updL_len hp] at hj
    rw [updL_at hp]
    by_cases h2 : j = cnt b i
    · rw [if_pos h2]; exact .inl hr
    · rw [if_neg h2]; exact .inr ⟨j, hj, rfl⟩
  · simp only [mOf, upd]
    rw [updL_at hp]
    by_cases hki : k = i
    · subst hki; rw [if_pos hb, if_pos rfl, if_pos rfl]
    · rw [if_neg hki]
      by_cases hbk : b.testBit k = true
      · rw [if_pos hbk, if_pos hbk, if_neg]
        rcases Nat.lt_or_gt_of_ne hki with hlt | hlt
        · have := cnt_lt hlt hbk; omega
        · have := cnt_lt hlt hb; omega
      · rw [if_neg hbk, if_neg hbk]
theorem rem_bv (h : BV b xs) (hi : i < 64) (hb : b.testBit i = true) : BV (b ^^^ (b &&& 2 ^ i)) (remL xs (cnt b i)) ∧ ∀ k, k < 64 → mOf (b ^^^ (b &&& 2 ^ i)) (remL xs (cnt b i)) k = upd (mOf b xs) i none k := by
  have hp : cnt b i < xs.length := by rw [h.len]; exact cnt_lt hi hb
  have hb' : (b ^^^ (b &&& 2 ^ i)).testBit i = false := by rw [without_bit]; simp
  have hc := cnt_more (b' := b) hb' (fun j _ => by
    rw [without_bit]
    by_cases hji : j = i
    · subst hji; simp [hb]
    · rw [decide_eq_false hji]; simp)
  refine ⟨⟨Nat.xor_lt_two_pow (n := 64) h.lt (Nat.lt_of_le_of_lt Nat.and_le_left h.lt), ?_, pos_of_at h.pos fun j hj => ?_⟩, fun k hk => ?_⟩
  · have := remL_len hp
    have := hc 64 (Nat.le_refl _)
    rw [if_pos hi] at this
    have := h.len
    omega
  · have := remL_len hp
    rw [remL_at hp]
    by_cases h1 : j < cnt b i
    · rw [if_pos h1]; exact .inr ⟨j, by omega, rfl⟩
    · rw [if_neg h1]; exact .inr ⟨j + 1, by omega, rfl⟩
  · simp only [mOf, upd]
    have hck := hc k (by omega)
    rw [without_bit, remL_at hp]
    by_cases hki : k = i
    · subst hki; simp
    · rw [if_neg hki, decide_eq_false hki, Bool.not_false, Bool.and_true]
      by_cases hbk : b.testBit k = true
      · rw [if_pos hbk, if_pos hbk]
        congr 1
        by_cases hlt : k < i
        · have := cnt_lt hlt hbk
          rw [if_neg (show ¬ i < k by omega)] at hck
          rw [if_pos (by omega), hck]
          rfl
        · have := cnt_lt (show i < k by omega) hb
          rw [if_pos (show i < k by omega)] at hck
          rw [if_neg (by omega), hck]
      · rw [if_neg hbk, if_neg hbk]
end
end Go.Ct

/- What is known of a list, in short. -/
set_option linter.unusedSimpArgs false
set_option linter.unusedVariables false
namespace Go.Ct
open Go Go.RowKit
variable {w0 w : World} {M : List Nat} {H : List (Nat × Obj)} {A F : Fr} {O : List Ow}
theorem SF.c (h : SF w0 M H A F O w) {a : Option Addr} {cs : List Value} (hf : FIn A F O a cs := by first | exact .new .head | exact .new (.tail .head) | exact .new (.tail (.tail .head)) | exact .new (.tail (.tail (.tail .head))) | exact .new (.tail (.tail (.tail (.tail .head)))) | exact .new (.tail (.tail (.tail (.tail (.tail .head))))) | exact .new (.tail (.tail (.tail (.tail (.tail (.tail .head)))))) | exact .new (.tail (.tail (.tail (.tail (.tail (.tail (.tail .head))))))) | exact .new (.tail (.tail (.tail (.tail (.tail (.tail (.tail (.tail .head)))))))) | exact .new (.tail (.tail (.tail (.tail (.tail (.tail (.tail (.tail (.tail .head))))))))) | exact .old .head | exact .old (.tail .head) | exact .old (.tail (.tail .head)) | exact .old (.tail (.tail (.tail .head))) | exact .old (.tail (.tail (.tail (.tail .head)))) | exact .old (.tail (.tail (.tail (.tail (.tail .head))))) | exact .own .head | exact .own (.tail .head) | exact .own (.tail (.tail .head)) | exact .own (.tail (.tail (.tail .head))) | exact .own (.tail (.tail (.tail (.tail .head)))) | exact .own (.tail (.tail (.tail (.tail (.tail .head))))) | exact .own (.tail (.tail (.tail (.tail (.tail (.tail .head)))))) | exact .own (.tail (.tail (.tail (.tail (.tail (.tail (.tail .head)))))))) : Cl w a cs := h.cl hf
theorem SF.tp (h : SF w0 M H A F O w) {T b : Nat} {a : Option Addr} {l : List Int} {c k i : Nat} (hl : l.length ≤ 17592186043904) (ha : At H i b (tapeO T a l c k) := by repeat (first | exact At.head | apply At.tail)) (hf : FIn A F [] a (refsC l) := by first | exact .new .head | exact .new (.tail .head) | exact .new (.tail (.tail .head)) | exact .new (.tail (.tail (.tail .head))) | exact .new (.tail (.tail (.tail (.tail .head)))) | exact .new (.tail (.tail (.tail (.tail (.tail .head))))) | exact .new (.tail (.tail (.tail (.tail (.tail (.tail .head)))))) | exact .new (.tail (.tail (.tail (.tail (.tail (.tail (.tail .head))))))) | exact .new (.tail (.tail (.tail (.tail (.tail (.tail (.tail (.tail .head)))))))) | exact .new (.tail (.tail (.tail (.tail (.tail (.tail (.tail (.tail (.tail .head))))))))) | exact .old .head | exact .old (.tail .head) | exact .old (.tail (.tail .head)) | exact .old (.tail (.tail (.tail .head))) | exact .old (.tail (.tail (.tail (.tail .head)))) | exact .old (.tail (.tail (.tail (.tail (.tail .head))))) | exact .own .head | exact .own (.tail .head) | exact .own (.tail (.tail .head)) | exact .own (.tail (.tail (.tail .head))) | exact .own (.tail (.tail (.tail (.tail .head)))) | exact .own (.tail (.tail (.tail (.tail (.tail .head))))) | exact .own (.tail (.tail (.tail (.tail (.tail (.tail .head)))))) | exact .own (.tail (.tail (.tail (.tail (.tail (.tail (.tail .head)))))))) : TapeAt w T b a l c k := h.tape ha hf hl
end Go.Ct
namespace Go.Proofs.Ytpfjjagcmjmfpaa
open Go.RowKit Go.Ct
theorem ndValid_c3 {n : Nd} {xs : List Int} {ys : List Pr} (h : n.kind = 3) (hv : NdValid n xs ys) : (xs.length : Int) = rOnes n.bm ∧ Pos xs := by
  obtain ⟨_, _, _, _, hv⟩ := hv
  rcases hv with h1 | ⟨h1, _⟩ | ⟨_, h2, h3⟩ | ⟨h1 | h1, _⟩ | ⟨h1, _⟩ | ⟨h1, _⟩ | ⟨h1, _⟩
  all_goals first | exact ⟨h2, h3⟩ | (rw [h] at h1; exact absurd h1 (by decide))
end Go.Proofs.Ytpfjjagcmjmfpaa

/- The reference's Valid. -/
set_option linter.unusedSimpArgs false
set_option linter.unusedVariables false
namespace Go.Proofs.Ytpfjjagcmjmfpaa
open Go.RowKit Go.Ct

theorem c3_false {n : Nd} {xs : List Int} {ys : List Pr} (h : n.kind = 3) {k : Nat} (hk : k < xs.length) (hx : xs.getD k 0 < 1) : false = true ↔ NdValid n xs ys := by
  simp only [Bool.false_eq_true, false_iff]
  intro hv
  have := (ndValid_c3 h hv).2 k hk
  omega
theorem c3_true {n : Nd} {xs : List Int} {ys : List Pr} {c : Int} (h : n.kind = 3) (he : NdEq n n.own xs (n.xsOwn xs) ys (n.ysOwn ys)) (h1 : 0 ≤ n.main) (h2 : 0 ≤ n.prev) (h3 : 0 ≤ n.status) (eo : rOnes n.bm = c) (hp : Pos xs) : ((xs.length : Int) == c) = true ↔ NdValid n xs ys := by
  rw [beq_iff_eq, ← eo]
  exact ⟨fun hl => ⟨he, h1, h2, h3, .inr (.inr (.inl ⟨h, hl, hp⟩))⟩, fun hv => (ndValid_c3 h hv).1⟩
end Go.Proofs.Ytpfjjagcmjmfpaa

/- Branches: what Lookup and Sole compute. -/
set_option linter.unusedSimpArgs false
set_option linter.unusedVariables false
namespace Go.Ct
open Go Go.RowKit
end Go.Ct
namespace Go.Proofs.Ytpfjjagcmjmfpaa
open Go.RowKit Go.Ct
/-- A valid C-node. -/
def CV (n : Nd) (xs : List Int) (ys : List Pr) : Prop := n.kind = 3 ∧ NdValid n xs ys
theorem CV.bv {n : Nd} {xs : List Int} {ys : List Pr} {b : Nat} (h : CV n xs ys) (hb : n.bm = (b : Int)) (hb2 : b < 18446744073709551616) : BV b xs := by
  obtain ⟨h1, h2⟩ := ndValid_c3 h.1 h.2
  rw [hb, rOnes_cnt hb2] at h1
  exact ⟨hb2, by omega, h2⟩
open Classical in
noncomputable def lkO (n : Nd) (xs : List Int) (ys : List Pr) (b : Nat) (i : Int) : Option Int := if CV n xs ys ∧ hasI b i = true then some (xs.getD (posN b i) 0) else none
open Classical in
noncomputable def soO (n : Nd) (xs : List Int) (ys : List Pr) : Option Int := if CV n xs ys ∧ xs.length = 1 then some (xs.getD 0 0) else none
theorem hasI_elim {b : Nat} {i : Int} (h : hasI b i = true) : 0 ≤ i ∧ i < 64 ∧ b.testBit i.toNat = true ∧ posN b i = cnt b i.toNat := by
  simp only [hasI, Bool.and_eq_true, decide_eq_true_eq] at h
  exact ⟨h.1, h.2.1, h.2.2, by unfold posN; congr 1; omega⟩
theorem bv_lt {b : Nat} {xs : List Int} (h : BV b xs) {i : Int} (hh : hasI b i = true) : posN b i < xs.length := by
  obtain ⟨h1, h2, h3, h4⟩ := hasI_elim hh
  rw [h4, h.len]
  exact cnt_lt (by omega) h3
section
variable {n : Nd} {xs : List Int} {ys : List Pr} {w : World} {b : Nat}
theorem cvalid_c (hr : Rep w n xs ys) : Calls Try.prog 72 #[n.v] w fun e w' => ∃ r : Bool, e = .returned (.bool r) ∧ (r = true ↔ CV n xs ys) ∧ St w [] [] w' := by
  refine enter Try.func72 Try.ntmps72 rfl rfl (SF.s0 w) ?_
  simp only [mkS]
  simp only [Nd.v, Nd.cells]
  all_goals (refine k_seq ?_; refine k_region ?_; refine j_box (fun x1 => ?_); refine j_assignL (fun _ => ?_); refine l_nil ?_; refine k_seq ?_; refine k_region ?_; refine j_fieldAddr ?_; refine j_load ?_; refine j_eql ?_; refine j_move ?_)
  all_goals (first | refine j_un ?_ | (refine j_yes ?_; refine j_load ?_) | (refine l_case (g := 6) (by exact rfl) (fun g6 => ?_) (fun g6 => ?_) <;> (revert g6; (first | refine cv1 ?_ | refine cv2 ?_ | refine cvb ?_ | refine cvc ?_ | refine cv9 ?_ | refine cva ?_ | refine cv7 ?_ | refine cv8 ?_ | refine cvd ?_ | refine cve ?_ | skip); intro g6) <;> (first | refine j_un ?_ | (refine j_yes ?_; refine j_load ?_))))
  all_goals (((first | refine j_un ?_ | (refine j_yes ?_; (refine j_own (c0 (V := .bool) (hc := fun w1 hw => ndValid_c (n := n) (hr.keep0 hw.done))) (fun x8 => ?_); try (refine l_fact (fun h8 => ?_)))))); refine j_pick ?_; refine j_assignL (fun _ => ?_); refine l_nil ?_)
  all_goals
   refine k_rv Try.results72 (fun w hw => ?_)
   refine ⟨_, rfl, ?_, hw.done⟩
   simp_all [CV]
end
end Go.Proofs.Ytpfjjagcmjmfpaa

/- Branches: lists of lists, joined; the C-node of them. -/
set_option linter.unusedSimpArgs false
set_option linter.unusedVariables false
namespace Go.Ct
open Go Go.RowKit
section
variable {P : Program} {n : Nat} {S : List (Nat × Value)}
variable {w0 w w' : World} {M : List Nat} {H H' : List (Nat × Obj)} {A F F' : Fr} {O O' : List Ow} {G : World → Prop}
variable {d : Nat} {ty : TypeId} {pos : String} {af : Array Edge} {gd : Option (Nat × Bool)} {dst : Option Nat} {x y z : Operand} {t t2 e : TypeId} {p a : Option Addr} {i m k c c2 : Nat}
theorem SF.dropA1 {a1 : Option Addr × List Value} (h : SF w0 M H (a1 :: A) F O w) : SF w0 M H A F O w := ⟨h.st, fun f hf => h.old f (List.mem_cons_of_mem _ hf), h.new, h.own, h.dis⟩
/-- A list's tail lies there. -/
def tlA (a : Option Addr) (k c : Nat) : Option Addr := if c = k then a else a.map (·.add k)
theorem o_tailQ (hx : ev S x = .slice a m c) (hy : ev S y = .int .i64 ((k : Nat) : Int)) (ht : P.underlying t = some (.slice e)) (hs : (P.info? e).map (·.size) = some 1) (hk : k ≤ m) (hmc : m ≤ c) :
    Quiet P S G ⟨some d, .slice t x (some y) none none, ty, pos, af, gd⟩ (.slice (tlA a k c) (m - k) (c - k)) := ⟨fun w _ => by
  have he : P.elem t = e := by simp [Program.elem, ht]
  have ht' : P.underlying t = some (.slice (P.elem t)) := by rw [he]; exact ht
  cases hi : P.info? e with
  | none => simp [hi] at hs
  | some inf =>
    have hs' : inf.size = 1 := by simpa [hi] using hs
    have hr := run_slice_l (P := P) w t a m c ht' .i64 (k : Int) (by omega) (by omega)
    refine run_sl (v := .slice (tlA a k c) (m - k) (c - k)) ?_
    simp [hx, hy, run_sliceAt_slice w t _ _ _ _ ht', hr, he, sizeOf, typeInfo, hi, hs', sliced, tlA]⟩
theorem SF.tailA (h : SF w0 M H A F O w) {l : List Int} (hf : FIn A F [] a (refsC l)) (hc : l.length ≤ c) : SF w0 M H ((tlA a k c, refsC (l.drop k)) :: A) F O w := by
  have e : refsC (l.drop k) = (refsC l).drop k := by rw [drop_refsC]
  rw [e]
  refine h.addOld hf (fun hn => ?_) (fun h => by rw [h]; simp) (fun w hc' => ?_)
  · unfold tlA
    split
    · rfl
    · cases a with
      | none => rfl
      | some a =>
        obtain ⟨b, o, s⟩ := a
        simp only [Option.map_some, ablk, Addr.add]
        split <;> rfl
  · unfold tlA
    split
    · rename_i heq
      have : (refsC l).drop k = [] := List.drop_eq_nil_of_le (by rw [refsC_length]; omega)
      rw [this]
      exact Cl.nil _ _
    · exact hc'.drop _
theorem SF.headA (h : SF w0 M H A F O w) {l : List Int} (hf : FIn A F [] a (refsC l)) : SF w0 M H ((a, refsC (l.take k)) :: A) F O w := by
  have e : refsC (l.take k) = (refsC l).take k := by rw [take_refsC]
  rw [e]
  exact h.addOld hf (fun _ => rfl) (fun h => by rw [h]; simp) (fun w hc => hc.take (List.take_prefix _ _))
abbrev Sl := Option Addr × List Int × Nat
def slC (L : List Sl) : List Value := L.map fun q => .slice q.1 q.2.1.length q.2.2
def slA (L : List Sl) : Fr := L.map fun q => (q.1, refsC q.2.1)
def slL (L : List Sl) : List Int := L.flatMap fun q => q.2.1
theorem o_indexL {L : List Sl} {kk : IntKind} (hx : ev S x = .slice a m c) (hy : ev S y = .int kk ((k : Nat) : Int)) (ht : P.underlying t = some (.slice e)) (hs : one P e = true) (hf : FIn A F O a (slC L)) (h1 : k < m) (h2 : k < L.length) :
    Quiet P S (SF w0 M H A F O) ⟨some d, .indexAddr t x y, ty, pos, af, gd⟩ (.pointer (some ⟨ablk a, aoff a + k, none⟩)) := ⟨fun w hw =>
  (o_index1 (G := SF w0 M H A F O) hx hy ht hs ((hw.cl hf).ptr (by simp only [slC, List.length_map]; omega)) h1).run w hw⟩
theorem o_loadL {L : List Sl} {q : Nat} {z : Sl} (hx : ev S x = .pointer (some ⟨ablk a, aoff a + q, none⟩)) (ht : one P t = true) (hf : FIn A F O a (slC L)) (hq : L[q]? = some z) :
    Quiet P S (SF w0 M H A F O) ⟨some d, .load t x, ty, pos, af, gd⟩ (.slice z.1 z.2.1.length z.2.2) := o_loadW hx ht (fun w hw => hw.cl hf) (by simp [slC, hq])
theorem FAt.of_memB {F : Fr} {q : Option Addr × List Value} (h : q ∈ F) : FAt F q.1 q.2 := by
  induction F with
  | nil => exact (List.not_mem_nil h).elim
  | cons f F ih =>
    rcases List.mem_cons.1 h with rfl | h
    · exact .head
    · exact .tail (ih h)
theorem slA_in {L : List Sl} {k : Nat} {z : Sl} (hz : L[k]? = some z) : FIn ((a, slC L) :: slA L) F O z.1 (refsC z.2.1) := by
  have h : FAt (slA L) z.1 (refsC z.2.1) := FAt.of_memB (q := (z.1, refsC z.2.1)) (List.mem_map.2 ⟨z, List.mem_of_getElem? hz, rfl⟩)
  exact .old (.tail h)
theorem slL_take {L : List Sl} {k : Nat} {z : Sl} (h : L[k]? = some z) : slL (L.take (k + 1)) = slL (L.take k) ++ z.2.1 := by
  unfold slL
  rw [List.take_add_one, h, List.flatMap_append]
  simp
theorem slL_le {L : List Sl} {B : Nat} (hB : ∀ q ∈ L, q.2.1.length ≤ B) : (slL L).length ≤ L.length * B := by
  induction L with
  | nil => simp [slL]
  | cons q L ih =>
    have h1 := ih fun q hq => hB q (List.mem_cons_of_mem _ hq)
    have h2 := hB q (List.mem_cons_self ..)
    have : slL (q :: L) = q.2.1 ++ slL L := rfl
    rw [this, List.length_append, List.length_cons, Nat.add_mul, Nat.one_mul]
    omega
theorem slL_pre (L : List Sl) (k : Nat) : (slL (L.take k)).length ≤ (slL L).length := by
  have : slL L = slL (L.take k) ++ slL (L.drop k) := by unfold slL; rw [← List.flatMap_append, List.take_append_drop]
  rw [this, List.length_append]
  omega
end
end Go.Ct
namespace Go.Proofs.Ytpfjjagcmjmfpaa
open Go Go.RowKit Go.Ct
theorem zero_sl : zeroIs Try.prog 32 = some (.slice none 0 0) := by kernel_rfl
theorem elem_sl : ElemIs Try.prog 119 32 [.slice none 0 0] := elem_mk (by kernel_rfl) zero_sl rfl
theorem elem_slT {t : Nat} (h : Nat.beq t 119 = true) : ElemIs Try.prog t 32 [.slice none 0 0] := by rw [Nat.eq_of_beq_eq_true h]; exact elem_sl
theorem sl_sl : Try.prog.underlying 119 = some (.slice 32) := by kernel_rfl
theorem one_sl : one Try.prog 32 = true := by kernel_rfl
theorem joined_c {L : List Sl} {a : Option Addr} {ca : Nat} {w : World} (ha : Cl w a (slC L)) (hl : ∀ q ∈ L, Cl w q.1 (refsC q.2.1)) (h3 : L.length ≤ 3) (hB : ∀ q ∈ L, q.2.1.length ≤ 1000) :
    Calls Try.prog 74 #[.slice a L.length ca] w fun e w' => ∃ x : Option Addr × Nat, e = .returned (.slice x.1 (slL L).length x.2) ∧ (slL L).length ≤ x.2 ∧ SF w [] [] [] [] [⟨x.1, refsC (slL L), x.2, 29, 1⟩] w' := by
  have hle := slL_le hB
  have hst : SF w [] [] ((a, slC L) :: slA L) [] [] w := SF.begin fun f hf => by
    rcases List.mem_cons.1 hf with rfl | hf
    · exact ha
    · obtain ⟨q, hq, rfl⟩ := List.mem_map.1 hf
      exact hl q hq
  refine enter Try.func74 Try.ntmps74 rfl rfl hst ?_
  simp only [mkS]
  all_goals (refine k_seq ?_; refine k_region ?_; refine j_assignL (fun _ => ?_); refine l_nil ?_; refine k_seq ?_; refine k_region ?_; refine j_assignL (fun _ => ?_); refine l_nil ?_; refine k_seq ?_; refine k_seq ?_; refine k_region ?_; refine j_move ?_; refine l_quiet (o_len (by exact rfl) sl_sl) rfl ?_; refine j_move ?_; refine l_nil ?_; refine k_block ?_)
  all_goals
   refine k_loopC [3, 5, 11, 12, 13, 14, 15, 16, 17, 18, 19] (fun k => [(3, .int .i64 (((slL (L.take k)).length : Nat) : Int)), (11, .int .i64 ((k : Nat) : Int))]) (fun k => k ≤ L.length) (fun k => L.length - k) (0) (Nat.zero_le _) ?_ (fun k f hx => ?_)
   · repeat (first | exact knows_nil _ | refine knows_cons (by first | exact rfl | (conv => { lhs; whnf }; simp; done)) ?_)
   dsimp only [mkU, List.map, List.cons_append, List.nil_append]
   all_goals (refine k_seq ?_; refine k_region ?_; refine j_lss ?_; refine l_nil ?_; refine k_seq ?_)
   all_goals
    refine k_if (fun c12 => ?_) (fun c12 => ?_)
    · try (exact absurd c12 (by decide))
      all_goals (revert c12; (first | refine cv1 ?_ | refine cv3 ?_ | refine cv5 ?_ | refine cv7 ?_ | refine cv9 ?_ | refine cvb ?_ | refine cvd ?_ | skip); intro c12)
      all_goals
       obtain ⟨z, hz⟩ : ∃ z, L[k]? = some z := ⟨L[k]'(by omega), List.getElem?_eq_getElem (by omega)⟩
       have hzl := congrArg List.length (slL_take hz)
       rw [List.length_append] at hzl
       have hzp := slL_pre L (k + 1)
      all_goals (refine k_skip ?_; refine k_seq ?_; refine k_block ?_; refine k_seq ?_; refine k_region ?_; refine l_quiet (o_indexL (L := L) (by exact rfl) (by exact rfl) sl_sl one_sl (by first | exact .new .head | exact .new (.tail .head) | exact .new (.tail (.tail .head)) | exact .new (.tail (.tail (.tail .head))) | exact .new (.tail (.tail (.tail (.tail .head)))) | exact .new (.tail (.tail (.tail (.tail (.tail .head))))) | exact .new (.tail (.tail (.tail (.tail (.tail (.tail .head)))))) | exact .new (.tail (.tail (.tail (.tail (.tail (.tail (.tail .head))))))) | exact .new (.tail (.tail (.tail (.tail (.tail (.tail (.tail (.tail .head)))))))) | exact .new (.tail (.tail (.tail (.tail (.tail (.tail (.tail (.tail (.tail .head))))))))) | exact .old .head | exact .old (.tail .head) | exact .old (.tail (.tail .head)) | exact .old (.tail (.tail (.tail .head))) | exact .old (.tail (.tail (.tail (.tail .head)))) | exact .old (.tail (.tail (.tail (.tail (.tail .head))))) | exact .own .head | exact .own (.tail .head) | exact .own (.tail (.tail .head)) | exact .own (.tail (.tail (.tail .head))) | exact .own (.tail (.tail (.tail (.tail .head)))) | exact .own (.tail (.tail (.tail (.tail (.tail .head))))) | exact .own (.tail (.tail (.tail (.tail (.tail (.tail .head)))))) | exact .own (.tail (.tail (.tail (.tail (.tail (.tail (.tail .head)))))))) (by omega) (by omega)) rfl ?_; refine l_quiet (o_loadL (L := L) (by exact rfl) one_sl (by first | exact .new .head | exact .new (.tail .head) | exact .new (.tail (.tail .head)) | exact .new (.tail (.tail (.tail .head))) | exact .new (.tail (.tail (.tail (.tail .head)))) | exact .new (.tail (.tail (.tail (.tail (.tail .head))))) | exact .new (.tail (.tail (.tail (.tail (.tail (.tail .head)))))) | exact .new (.tail (.tail (.tail (.tail (.tail (.tail (.tail .head))))))) | exact .new (.tail (.tail (.tail (.tail (.tail (.tail (.tail (.tail .head)))))))) | exact .new (.tail (.tail (.tail (.tail (.tail (.tail (.tail (.tail (.tail .head))))))))) | exact .old .head | exact .old (.tail .head) | exact .old (.tail (.tail .head)) | exact .old (.tail (.tail (.tail .head))) | exact .old (.tail (.tail (.tail (.tail .head)))) | exact .old (.tail (.tail (.tail (.tail (.tail .head))))) | exact .own .head | exact .own (.tail .head) | exact .own (.tail (.tail .head)) | exact .own (.tail (.tail (.tail .head))) | exact .own (.tail (.tail (.tail (.tail .head)))) | exact .own (.tail (.tail (.tail (.tail (.tail .head))))) | exact .own (.tail (.tail (.tail (.tail (.tail (.tail .head)))))) | exact .own (.tail (.tail (.tail (.tail (.tail (.tail (.tail .head)))))))) hz) rfl ?_; refine j_assignL (fun _ => ?_); refine l_nil ?_; refine k_region ?_; refine j_move ?_; refine j_move ?_; refine j_len ?_; refine j_add ?_; refine j_assignL (fun _ => ?_); refine l_nil ?_; refine k_blk ?_; refine k_region ?_; refine j_inc ?_; refine j_move ?_; refine l_nil ?_)
      all_goals
       refine k_roundC (k + 1) ?_ ?_ ?_
       · first | omega | (simp only []; omega)
       · repeat' (first | exact knows_nil _ | refine knows_cons ?_ ?_)
         all_goals (first | exact rfl | (conv => { lhs; whnf }; simp; done) | (conv => { lhs; whnf }; congr 1; omega))
       · omega
    · try (exact absurd c12 (by decide))
      all_goals (revert c12; (first | refine cv2 ?_ | refine cv4 ?_ | refine cv6 ?_ | refine cv8 ?_ | refine cva ?_ | refine cvc ?_ | refine cve ?_ | skip); intro c12)
      all_goals
       have hzp := slL_pre L k
      all_goals (refine k_exit rfl ?_; refine k_seq ?_; refine k_region ?_; refine j_move ?_; refine j_own (o_makeR (m := 0) (by exact rfl) (by exact rfl) elem_ref (Nat.zero_le _) (by omega)) (fun x21 => ?_); refine j_assignL (fun _ => ?_); refine l_nil ?_; refine k_seq ?_; refine k_seq ?_; refine k_region ?_; refine j_move ?_; refine l_quiet (o_len (by exact rfl) sl_sl) rfl ?_; refine j_move ?_; refine l_nil ?_; refine k_block ?_)
      all_goals
       refine k_loopF [6, 8, 24, 25, 26, 27, 28, 29, 30, 31] (fun y : Nat × Option Addr × Nat => [(6, .slice y.2.1 (slL (L.take y.1)).length y.2.2), (24, .int .i64 ((y.1 : Nat) : Int))]) (fun y => y.1 ≤ L.length ∧ (slL (L.take y.1)).length ≤ y.2.2) (fun _ => _) (fun _ => _) (fun y => [⟨y.2.1, refsC (slL (L.take y.1)), y.2.2, 29, 1⟩]) (fun y => L.length - y.1) ((0, some ⟨x21, 0, none⟩, (slL (L.take k)).length)) (by decide) (fun _ => by exact rfl) ?_ (⟨Nat.zero_le _, Nat.zero_le _⟩) (fun w hw => hw.back) (fun y f hx => ?_)
       · repeat (first | exact knows_nil _ | refine knows_cons (by first | exact rfl | (conv => { lhs; whnf }; simp; done)) ?_)
       dsimp only [mkU, List.map, List.cons_append, List.nil_append]
       all_goals (refine k_seq ?_; refine k_region ?_; refine j_lss ?_; refine l_nil ?_; refine k_seq ?_)
       all_goals
        refine k_if (fun c25 => ?_) (fun c25 => ?_)
        · try (exact absurd c25 (by decide))
          all_goals (revert c25; (first | refine cv1 ?_ | refine cv3 ?_ | refine cv5 ?_ | refine cv7 ?_ | refine cv9 ?_ | refine cvb ?_ | refine cvd ?_ | skip); intro c25)
          all_goals
           obtain ⟨z, hz⟩ : ∃ z, L[y.1]? = some z := ⟨L[y.1]'(by omega), List.getElem?_eq_getElem (by omega)⟩
           have hzl := congrArg List.length (slL_take hz)
           rw [List.length_append] at hzl
           have hzp := slL_pre L (y.1 + 1)
           have hzf := slA_in (a := a) (F := []) (O := []) hz
           refine k_mono (fun w hw => hw.addOld hzf (fun _ => rfl) (fun h => h) (fun _ h => h)) ?_
          all_goals (refine k_skip ?_; refine k_seq ?_; refine k_block ?_; refine k_seq ?_; refine k_region ?_; refine l_quiet (o_indexL (L := L) (by exact rfl) (by exact rfl) sl_sl one_sl (by first | exact .new .head | exact .new (.tail .head) | exact .new (.tail (.tail .head)) | exact .new (.tail (.tail (.tail .head))) | exact .new (.tail (.tail (.tail (.tail .head)))) | exact .new (.tail (.tail (.tail (.tail (.tail .head))))) | exact .new (.tail (.tail (.tail (.tail (.tail (.tail .head)))))) | exact .new (.tail (.tail (.tail (.tail (.tail (.tail (.tail .head))))))) | exact .new (.tail (.tail (.tail (.tail (.tail (.tail (.tail (.tail .head)))))))) | exact .new (.tail (.tail (.tail (.tail (.tail (.tail (.tail (.tail (.tail .head))))))))) | exact .old .head | exact .old (.tail .head) | exact .old (.tail (.tail .head)) | exact .old (.tail (.tail (.tail .head))) | exact .old (.tail (.tail (.tail (.tail .head)))) | exact .old (.tail (.tail (.tail (.tail (.tail .head))))) | exact .own .head | exact .own (.tail .head) | exact .own (.tail (.tail .head)) | exact .own (.tail (.tail (.tail .head))) | exact .own (.tail (.tail (.tail (.tail .head)))) | exact .own (.tail (.tail (.tail (.tail (.tail .head))))) | exact .own (.tail (.tail (.tail (.tail (.tail (.tail .head)))))) | exact .own (.tail (.tail (.tail (.tail (.tail (.tail (.tail .head)))))))) (by omega) (by omega)) rfl ?_; refine l_quiet (o_loadL (L := L) (by exact rfl) one_sl (by first | exact .new .head | exact .new (.tail .head) | exact .new (.tail (.tail .head)) | exact .new (.tail (.tail (.tail .head))) | exact .new (.tail (.tail (.tail (.tail .head)))) | exact .new (.tail (.tail (.tail (.tail (.tail .head))))) | exact .new (.tail (.tail (.tail (.tail (.tail (.tail .head)))))) | exact .new (.tail (.tail (.tail (.tail (.tail (.tail (.tail .head))))))) | exact .new (.tail (.tail (.tail (.tail (.tail (.tail (.tail (.tail .head)))))))) | exact .new (.tail (.tail (.tail (.tail (.tail (.tail (.tail (.tail (.tail .head))))))))) | exact .old .head | exact .old (.tail .head) | exact .old (.tail (.tail .head)) | exact .old (.tail (.tail (.tail .head))) | exact .old (.tail (.tail (.tail (.tail .head)))) | exact .old (.tail (.tail (.tail (.tail (.tail .head))))) | exact .own .head | exact .own (.tail .head) | exact .own (.tail (.tail .head)) | exact .own (.tail (.tail (.tail .head))) | exact .own (.tail (.tail (.tail (.tail .head)))) | exact .own (.tail (.tail (.tail (.tail (.tail .head))))) | exact .own (.tail (.tail (.tail (.tail (.tail (.tail .head)))))) | exact .own (.tail (.tail (.tail (.tail (.tail (.tail (.tail .head)))))))) hz) rfl ?_; refine j_assignL (fun _ => ?_); refine l_nil ?_; refine k_region ?_; refine j_move ?_; refine j_move ?_; (refine j_append (fun x30 => ?_); try (refine l_fact (fun h30 => ?_))); refine j_assignL (fun _ => ?_); refine l_nil ?_; refine k_blk ?_; refine k_region ?_; refine j_inc ?_; refine j_move ?_; refine l_nil ?_)
          all_goals
           refine k_roundF ((y.1 + 1, x30)) ?_ ?_ (by repeat (first | (with_reducible exact Pre.refl) | refine Pre.cons (by exact rfl) ?_)) ?_ (fun w hw => by rw [← slL_take hz] at hw; exact hw.dropA1.back)
           · first | omega | (simp only []; omega)
           · repeat' (first | exact knows_nil _ | refine knows_cons ?_ ?_)
             all_goals (first | (conv => { lhs; whnf }; rw [← hzl]) | exact rfl | (conv => { lhs; whnf }; congr 1; omega))
           · exact ⟨by omega, by simp only []; rw [slL_take hz, List.length_append]; omega⟩
        · try (exact absurd c25 (by decide))
          all_goals (revert c25; (first | refine cv2 ?_ | refine cv4 ?_ | refine cv6 ?_ | refine cv8 ?_ | refine cva ?_ | refine cvc ?_ | refine cve ?_ | skip); intro c25)
          all_goals (refine k_exit rfl ?_; refine k_seq ?_; refine k_region ?_; refine j_move ?_; refine j_assignL (fun _ => ?_); refine l_nil ?_)
          all_goals
           refine k_rv Try.results74 (fun w hw => ?_)
           have hy : y.1 = L.length := by omega
           rw [hy, List.take_length] at hw
           exact ⟨(y.2.1, y.2.2), by rw [hy, List.take_length]; rfl, by rw [hy, List.take_length] at hx; exact hx.2, hw.finH⟩
end Go.Proofs.Ytpfjjagcmjmfpaa

/- Branches: a C-node of a bitmap and a list. -/
set_option linter.unusedSimpArgs false
set_option linter.unusedVariables false
namespace Go.Proofs.Ytpfjjagcmjmfpaa
open Go.RowKit Go.Ct
/-- A C-node of a bitmap and a list that lies at x.1. -/
def cn (b : Nat) (xs : List Int) (x : Option Addr × Nat) : Nd := { Nd.zero with kind := 3, bm := (b : Int), brA := x.1, brN := xs.length, brC := x.2 }
theorem cv_cn {b : Nat} {xs : List Int} (h : BV b xs) (x : Option Addr × Nat) {p : Int} (hp : 0 ≤ p) : CV { cn b xs x with prev := p } xs [] :=
  ⟨rfl, by simp [NdEq, Nd.own, Nd.xsOwn, Nd.ysOwn, cn], by simp [cn, Nd.zero], hp, by simp [cn, Nd.zero], .inr (.inr (.inl ⟨rfl, by show (xs.length : Int) = rOnes (b : Int); rw [rOnes_cnt h.lt, h.len], h.pos⟩))⟩
theorem cv_cn0 {b : Nat} {xs : List Int} (h : BV b xs) (x : Option Addr × Nat) : CV (cn b xs x) xs [] := cv_cn h x (p := 0) (Int.le_refl _)
end Go.Proofs.Ytpfjjagcmjmfpaa

/- Branches: Inserted, Updated, Removed. -/
set_option linter.unusedSimpArgs false
set_option linter.unusedVariables false
namespace Go.Proofs.Ytpfjjagcmjmfpaa
open Go.RowKit Go.Ct
theorem cinner_c {L : List Sl} {a : Option Addr} {ca : Nat} {w : World} (b : Nat) (ha : Cl w a (slC L)) (hl : ∀ q ∈ L, Cl w q.1 (refsC q.2.1)) (h3 : L.length ≤ 3) (hB : ∀ q ∈ L, q.2.1.length ≤ 1000) :
    Calls Try.prog 65 #[.int .u64 (b : Int), .slice a L.length ca] w fun e w' => ∃ x : Option Addr × Nat, e = .returned (cn b (slL L) x).v ∧ (slL L).length ≤ x.2 ∧ SF w [] [] [] [(x.1, refsC (slL L))] [] w' := by
  refine enter Try.func65 Try.ntmps65 rfl rfl (SF.s0 w) ?_
  simp only [mkS]
  all_goals (refine k_seq ?_; refine k_region ?_; refine j_alloc (fun x4 => ?_); refine l_nil ?_; refine k_seq ?_; refine k_region ?_; refine j_move ?_; refine j_move ?_; (refine j_own (cFH (Hc := fun _ => []) (Fc := fun _ => []) (hc := fun w1 hw => joined_c (L := L) (ha.keep0 hw.done) (fun q hq => (hl q hq).keep0 hw.done) h3 hB)) (fun x7 => ?_); try (refine l_fact (fun h7 => ?_))); refine j_build ?_; refine j_store (fun _ => ?_); refine l_nil ?_)
  all_goals
   refine k_retvF Try.results65 (.cell (by exact rfl) (by repeat (first | exact At.head | apply At.tail)) (by exact agg_of rfl) .nil) (fun w hw => ?_)
   exact ⟨x7, rfl, h7, SF.frz hw.finH⟩
theorem inner3_c {a p1 p2 p3 : Option Addr} {l1 l2 l3 l : List Int} {m1 m2 m3 c1 c2 c3 ca : Nat} {w : World} (b : Nat) (ha : Cl w a [.slice p1 m1 c1, .slice p2 m2 c2, .slice p3 m3 c3]) (h1 : Cl w p1 (refsC l1)) (h2 : Cl w p2 (refsC l2)) (h3 : Cl w p3 (refsC l3))
    (e1 : l1.length = m1) (e2 : l2.length = m2) (e3 : l3.length = m3) (b1 : m1 ≤ 1000) (b2 : m2 ≤ 1000) (b3 : m3 ≤ 1000) (hl : l1 ++ (l2 ++ l3) = l) :
    Calls Try.prog 65 #[.int .u64 (b : Int), .slice a 3 ca] w fun e w' => ∃ x : Option Addr × Nat, e = .returned (cn b l x).v ∧ l.length ≤ x.2 ∧ SF w [] [] [] [(x.1, refsC l)] [] w' := by
  subst e1 e2 e3 hl
  have := cinner_c (L := [(p1, l1, c1), (p2, l2, c2), (p3, l3, c3)]) (a := a) (ca := ca) (w := w) b ha (by simp [h1, h2, h3]) (by simp) (by simp; omega)
  simpa [slL] using this
theorem inner2_c {a p1 p2 : Option Addr} {l1 l2 l : List Int} {m1 m2 c1 c2 ca : Nat} {w : World} (b : Nat) (ha : Cl w a [.slice p1 m1 c1, .slice p2 m2 c2]) (h1 : Cl w p1 (refsC l1)) (h2 : Cl w p2 (refsC l2))
    (e1 : l1.length = m1) (e2 : l2.length = m2) (b1 : m1 ≤ 1000) (b2 : m2 ≤ 1000) (hl : l1 ++ l2 = l) :
    Calls Try.prog 65 #[.int .u64 (b : Int), .slice a 2 ca] w fun e w' => ∃ x : Option Addr × Nat, e = .returned (cn b l x).v ∧ l.length ≤ x.2 ∧ SF w [] [] [] [(x.1, refsC l)] [] w' := by
  subst e1 e2 hl
  have := cinner_c (L := [(p1, l1, c1), (p2, l2, c2)]) (a := a) (ca := ca) (w := w) b ha (by simp [h1, h2]) (by simp) (by simp; omega)
  simpa [slL] using this
open Classical in
noncomputable def inO (n : Nd) (xs : List Int) (ys : List Pr) (b : Nat) (i r : Int) : Option (Nat × List Int) := if CV n xs ys ∧ (0 ≤ i ∧ i < 64) ∧ 1 ≤ r ∧ hasI b i = false then some (withI b i, insL xs (posN b i) r) else none
open Classical in
noncomputable def upO (n : Nd) (xs : List Int) (ys : List Pr) (b : Nat) (i r : Int) : Option (Nat × List Int) := if CV n xs ys ∧ 1 ≤ r ∧ hasI b i = true then some (b, updL xs (posN b i) r) else none
open Classical in
noncomputable def reO (n : Nd) (xs : List Int) (ys : List Pr) (b : Nat) (i : Int) : Option (Nat × List Int) := if CV n xs ys ∧ hasI b i = true then some (withoutI b i, remL xs (posN b i)) else none
def resN (o : Option (Nat × List Int)) (x : Option Addr × Nat) : Nd := match o with | some q => cn q.1 q.2 x | none => Nd.zero
def resL (o : Option (Nat × List Int)) : List Int := match o with | some q => q.2 | none => []
/-- What is said of a function that gives back a C-node and whether there is one. -/
def CRes (w : World) (o : Option (Nat × List Int)) (e : Ending) (w' : World) : Prop := ∃ x : Option Addr × Nat, e = .returned (.tuple #[(resN o x).v, .bool o.isSome]) ∧ (resL o).length ≤ x.2 ∧ SF w [] [] [] [(x.1, refsC (resL o))] [] w'
theorem posN_le {b : Nat} {xs : List Int} (h : BV b xs) (i : Int) : posN b i ≤ xs.length := by
  rw [h.len]
  unfold posN
  obtain ⟨d, hd⟩ := Nat.exists_eq_add_of_le (Nat.min_le_right i.toNat 64)
  have := cnt_mono b (min i.toNat 64) d
  rw [← hd] at this
  exact this
section
variable {n : Nd} {xs : List Int} {ys : List Pr} {w : World} {b : Nat}
theorem changeable_c (i : Int) (hr : Rep w n xs ys) : Calls Try.prog 61 #[n.v, .int .i64 i] w fun e w' => ∃ r : Bool, e = .returned (.bool r) ∧ (r = true ↔ CV n xs ys ∧ (0 ≤ i ∧ i < 64)) ∧ St w [] [] w' := by
  refine enter Try.func61 Try.ntmps61 rfl rfl (SF.s0 w) ?_
  simp only [mkS]
  simp only [Nd.v, Nd.cells]
  all_goals (refine k_seq ?_; refine k_region ?_; refine j_box (fun x2 => ?_); refine j_assignL (fun _ => ?_); refine l_nil ?_; refine k_seq ?_; refine k_region ?_; refine j_load ?_; (refine j_own (c0 (V := .bool) (hc := fun w1 hw => cvalid_c (n := n) (hr.keep0 hw.done))) (fun x6 => ?_); try (refine l_fact (fun h6 => ?_))); refine j_move ?_)
  all_goals (first | refine j_un ?_ | (refine j_yes ?_; refine j_move ?_) | (refine l_case (g := 7) (by exact rfl) (fun g7 => ?_) (fun g7 => ?_) <;> (revert g7; (first | refine cv1 ?_ | refine cv2 ?_ | refine cvb ?_ | refine cvc ?_ | refine cv9 ?_ | refine cva ?_ | refine cv7 ?_ | refine cv8 ?_ | refine cvd ?_ | refine cve ?_ | skip); intro g7) <;> (first | refine j_un ?_ | (refine j_yes ?_; refine j_move ?_))))
  all_goals ((first | refine j_un ?_ | (refine j_yes ?_; refine j_geq ?_)); refine j_pick ?_; refine j_move ?_)
  all_goals (first | refine j_un ?_ | (refine j_yes ?_; refine j_move ?_) | (refine l_case (g := 11) (by exact rfl) (fun g11 => ?_) (fun g11 => ?_) <;> (revert g11; (first | refine cv1 ?_ | refine cv2 ?_ | refine cvb ?_ | refine cvc ?_ | refine cv9 ?_ | refine cva ?_ | refine cv7 ?_ | refine cv8 ?_ | refine cvd ?_ | refine cve ?_ | skip); intro g11) <;> (first | refine j_un ?_ | (refine j_yes ?_; refine j_move ?_))))
  all_goals ((first | refine j_un ?_ | (refine j_yes ?_; refine j_lss ?_)); refine j_pick ?_; refine j_assignL (fun _ => ?_); refine l_nil ?_)
  all_goals
   refine k_rv Try.results61 (fun w hw => ?_)
   refine ⟨_, rfl, ?_, hw.done⟩
   first | (simp_all; done) | (simp_all; omega)
theorem inserted_c (i r : Int) (hb : n.bm = (b : Int)) (hb2 : b < 18446744073709551616) (hr : Rep w n xs ys) (hc : xs.length ≤ n.brC) (hx : xs.length ≤ 1000) : Calls Try.prog 45 #[n.v, .int .i64 i, .int .i64 r] w (CRes w (inO n xs ys b i r)) := by
  have e1 := hr.brN
  refine enter Try.func45 Try.ntmps45 rfl rfl (SF.s2 hr.br hr.pr) ?_
  simp only [mkS]
  simp only [Nd.v, Nd.cells, hb, e1]
  all_goals (refine k_seq ?_; refine k_region ?_; refine j_box (fun x3 => ?_); refine j_alloc (fun x6 => ?_); refine j_assignL (fun _ => ?_); refine l_nil ?_; refine k_seq ?_; refine k_seq ?_; refine k_region ?_; refine j_load ?_; refine j_move ?_; (refine j_own (c0 (V := .bool) (hc := fun w1 hw => by rw [← e1, ← hb]; exact changeable_c i (n := n) (hr.keep0 hw.done))) (fun x12 => ?_); try (refine l_fact (fun h12 => ?_))); refine j_not ?_; refine j_move ?_)
  all_goals (first | refine j_un ?_ | (refine j_yes ?_; refine j_move ?_) | (refine l_case (g := 14) (by exact rfl) (fun g14 => ?_) (fun g14 => ?_) <;> (revert g14; (first | refine cv1 ?_ | refine cv2 ?_ | refine cvb ?_ | refine cvc ?_ | refine cv9 ?_ | refine cva ?_ | refine cv7 ?_ | refine cv8 ?_ | refine cvd ?_ | refine cve ?_ | skip); intro g14) <;> (first | refine j_un ?_ | (refine j_yes ?_; refine j_move ?_))))
  all_goals ((first | refine j_un ?_ | (refine j_yes ?_; refine j_lss ?_)); refine j_pick ?_; refine j_move ?_)
  all_goals (first | refine j_un ?_ | (refine j_yes ?_; refine j_fieldAddr ?_) | (refine l_case (g := 18) (by exact rfl) (fun g18 => ?_) (fun g18 => ?_) <;> (revert g18; (first | refine cv1 ?_ | refine cv2 ?_ | refine cvb ?_ | refine cvc ?_ | refine cv9 ?_ | refine cva ?_ | refine cv7 ?_ | refine cv8 ?_ | refine cvd ?_ | refine cve ?_ | skip); intro g18) <;> (first | refine j_un ?_ | (refine j_yes ?_; refine j_fieldAddr ?_))))
  all_goals ((first | refine j_un ?_ | (refine j_yes ?_; refine j_load ?_)); (first | refine j_un ?_ | (refine j_yes ?_; refine j_move ?_)); ((first | refine j_un ?_ | (refine j_yes ?_; (refine j_own (cV (hc := fun w1 hw => has_c hb2 i w1)) (fun x22 => ?_); try (refine l_fact (fun h22 => ?_)))))); refine j_pick ?_; refine l_nil ?_)
  all_goals
   refine k_if (fun c23 => ?_) (fun c23 => ?_)
   · try (exact absurd c23 (by decide))
     all_goals (revert c23; (first | refine cv1 ?_ | refine cv3 ?_ | refine cv5 ?_ | refine cv7 ?_ | refine cv9 ?_ | refine cvb ?_ | refine cvd ?_ | skip); intro c23)
     all_goals (refine k_seq ?_; refine k_region ?_; refine j_build ?_; refine j_store (fun _ => ?_); refine j_assignL (fun _ => ?_); refine l_nil ?_)
     all_goals
      refine k_retvF Try.results45 (.cell (by exact rfl) (by repeat (first | exact At.head | apply At.tail)) (by exact agg_of rfl) (.tmp (by conv => { lhs; whnf }) .nil)) (fun w hw => ?_)
      rw [show inO n xs ys b i r = none from if_neg (by rintro ⟨k1, k2, k3, k4⟩; have h := h12.2 ⟨k1, k2⟩; clear hw; first | omega | (simp_all; done))]; exact ⟨(none, 0), rfl, Nat.le_refl _, (hw.fnil none).fin⟩
   · try (exact absurd c23 (by decide))
     all_goals (revert c23; (first | refine cv2 ?_ | refine cv4 ?_ | refine cv6 ?_ | refine cv8 ?_ | refine cva ?_ | refine cvc ?_ | refine cve ?_ | skip); intro c23)
     all_goals
      have hcv := h12.1 (by simpa using g14)
      have hbv := hcv.1.bv hb hb2
      have hpl := posN_le hbv i
      refine k_mono (fun w hw => (hw.headA (k := posN b i) (by first | exact .new .head | exact .new (.tail .head) | exact .new (.tail (.tail .head)) | exact .new (.tail (.tail (.tail .head))) | exact .new (.tail (.tail (.tail (.tail .head)))) | exact .new (.tail (.tail (.tail (.tail (.tail .head))))) | exact .new (.tail (.tail (.tail (.tail (.tail (.tail .head)))))) | exact .new (.tail (.tail (.tail (.tail (.tail (.tail (.tail .head))))))) | exact .new (.tail (.tail (.tail (.tail (.tail (.tail (.tail (.tail .head)))))))) | exact .new (.tail (.tail (.tail (.tail (.tail (.tail (.tail (.tail (.tail .head))))))))) | exact .old .head | exact .old (.tail .head) | exact .old (.tail (.tail .head)) | exact .old (.tail (.tail (.tail .head))) | exact .old (.tail (.tail (.tail (.tail .head)))) | exact .old (.tail (.tail (.tail (.tail (.tail .head))))) | exact .own .head | exact .own (.tail .head) | exact .own (.tail (.tail .head)) | exact .own (.tail (.tail (.tail .head))) | exact .own (.tail (.tail (.tail (.tail .head)))) | exact .own (.tail (.tail (.tail (.tail (.tail .head))))) | exact .own (.tail (.tail (.tail (.tail (.tail (.tail .head)))))) | exact .own (.tail (.tail (.tail (.tail (.tail (.tail (.tail .head))))))))).tailA (k := posN b i) (c := n.brC) (by first | exact .new .head | exact .new (.tail .head) | exact .new (.tail (.tail .head)) | exact .new (.tail (.tail (.tail .head))) | exact .new (.tail (.tail (.tail (.tail .head)))) | exact .new (.tail (.tail (.tail (.tail (.tail .head))))) | exact .new (.tail (.tail (.tail (.tail (.tail (.tail .head)))))) | exact .new (.tail (.tail (.tail (.tail (.tail (.tail (.tail .head))))))) | exact .new (.tail (.tail (.tail (.tail (.tail (.tail (.tail (.tail .head)))))))) | exact .new (.tail (.tail (.tail (.tail (.tail (.tail (.tail (.tail (.tail .head))))))))) | exact .old .head | exact .old (.tail .head) | exact .old (.tail (.tail .head)) | exact .old (.tail (.tail (.tail .head))) | exact .old (.tail (.tail (.tail (.tail .head)))) | exact .old (.tail (.tail (.tail (.tail (.tail .head))))) | exact .own .head | exact .own (.tail .head) | exact .own (.tail (.tail .head)) | exact .own (.tail (.tail (.tail .head))) | exact .own (.tail (.tail (.tail (.tail .head)))) | exact .own (.tail (.tail (.tail (.tail (.tail .head))))) | exact .own (.tail (.tail (.tail (.tail (.tail (.tail .head)))))) | exact .own (.tail (.tail (.tail (.tail (.tail (.tail (.tail .head)))))))) hc) ?_
     all_goals (refine k_skip ?_; refine k_seq ?_; refine k_region ?_; refine j_fieldAddr ?_; refine j_load ?_; refine j_move ?_; (refine j_own (cV (hc := fun w1 hw => pos_c hb2 i w1)) (fun x28 => ?_); try (refine l_fact (fun h28 => ?_))); refine j_assignL (fun _ => ?_); refine l_nil ?_; refine k_seq ?_; refine k_region ?_; refine j_fieldAddr ?_; refine j_load ?_; refine j_move ?_; (refine j_own (cV (hc := fun w1 hw => with_c hb2 i w1)) (fun x32 => ?_); try (refine l_fact (fun h32 => ?_))); refine j_assignL (fun _ => ?_); refine l_nil ?_; refine k_seq ?_; refine k_drawF (.one 0 [] (.one 1 [] (.one 2 [] (.one 3 [] (.one 4 [] (.one 5 [] (.one 7 [] (.one 8 [] (.one 9 [] (.one 10 [] (.one 6 [2, 8] (.one 11 [] (.one 12 [] (.one 13 [] (.one 14 [] .nil))))))))))))))) ?_; refine r_move (i := 0) ?_; refine r_fieldAddr (i := 1) ?_; refine r_load (i := 2) ?_; refine r_move (i := 3) ?_; refine r_ownP (i := 4) (hq := (o_sliceH (by exact rfl) (by exact rfl) (by exact sl_of rfl) (by exact sz_any rfl) (by omega))) (h := ?_); refine r_move (i := 5) ?_; refine r_fieldAddr (i := 7) ?_; refine r_load (i := 8) ?_; refine r_move (i := 9) ?_; refine r_ownP (i := 10) (hq := (o_tailQ (by exact rfl) (by exact rfl) (by exact sl_of rfl) (by exact sz_of rfl) (by omega) (by omega))) (h := ?_); refine r_buildSlice (i := 6) (hfire := (fun _ => by first | ((repeat (first | exact FireAll.nil | refine FireAll.cons (by first | exact a_load | exact a_un) ?_)); done) | (refine fireall_fact ?_; (repeat (first | exact FireAll.nil | refine FireAll.cons (by first | exact a_load | exact a_un) ?_)); done))) (h := fun x39 => ?_); refine r_own (i := 11) (hq := (lSFF fun _ => o_buildSlice (elem_slT rfl) (by repeat (first | exact opParts_nil _ | (apply opParts_cons; (conv => { lhs; whnf })))) (by exact rfl) (by exact rfl) (by exact rfl) (by exact rfl) (by simp only [flatP, cellsL, List.cons_append, List.nil_append]; exact rfl))) (hfire := (fun _ => .nil)) (h := fun x44 => ?_); ((refine r_own (i := 12) (hq := (cF (hc := fun w1 hw => inner3_c (l := insL xs (posN b i) r) (withI b i) (hw.cl (by first | exact .new .head | exact .new (.tail .head) | exact .new (.tail (.tail .head)) | exact .new (.tail (.tail (.tail .head))) | exact .new (.tail (.tail (.tail (.tail .head)))) | exact .new (.tail (.tail (.tail (.tail (.tail .head))))) | exact .new (.tail (.tail (.tail (.tail (.tail (.tail .head)))))) | exact .new (.tail (.tail (.tail (.tail (.tail (.tail (.tail .head))))))) | exact .new (.tail (.tail (.tail (.tail (.tail (.tail (.tail (.tail .head)))))))) | exact .new (.tail (.tail (.tail (.tail (.tail (.tail (.tail (.tail (.tail .head))))))))) | exact .old .head | exact .old (.tail .head) | exact .old (.tail (.tail .head)) | exact .old (.tail (.tail (.tail .head))) | exact .old (.tail (.tail (.tail (.tail .head)))) | exact .old (.tail (.tail (.tail (.tail (.tail .head))))) | exact .own .head | exact .own (.tail .head) | exact .own (.tail (.tail .head)) | exact .own (.tail (.tail (.tail .head))) | exact .own (.tail (.tail (.tail (.tail .head)))) | exact .own (.tail (.tail (.tail (.tail (.tail .head))))) | exact .own (.tail (.tail (.tail (.tail (.tail (.tail .head)))))) | exact .own (.tail (.tail (.tail (.tail (.tail (.tail (.tail .head))))))))) (hw.cl (by first | exact .new .head | exact .new (.tail .head) | exact .new (.tail (.tail .head)) | exact .new (.tail (.tail (.tail .head))) | exact .new (.tail (.tail (.tail (.tail .head)))) | exact .new (.tail (.tail (.tail (.tail (.tail .head))))) | exact .new (.tail (.tail (.tail (.tail (.tail (.tail .head)))))) | exact .new (.tail (.tail (.tail (.tail (.tail (.tail (.tail .head))))))) | exact .new (.tail (.tail (.tail (.tail (.tail (.tail (.tail (.tail .head)))))))) | exact .new (.tail (.tail (.tail (.tail (.tail (.tail (.tail (.tail (.tail .head))))))))) | exact .old .head | exact .old (.tail .head) | exact .old (.tail (.tail .head)) | exact .old (.tail (.tail (.tail .head))) | exact .old (.tail (.tail (.tail (.tail .head)))) | exact .old (.tail (.tail (.tail (.tail (.tail .head))))) | exact .own .head | exact .own (.tail .head) | exact .own (.tail (.tail .head)) | exact .own (.tail (.tail (.tail .head))) | exact .own (.tail (.tail (.tail (.tail .head)))) | exact .own (.tail (.tail (.tail (.tail (.tail .head))))) | exact .own (.tail (.tail (.tail (.tail (.tail (.tail .head)))))) | exact .own (.tail (.tail (.tail (.tail (.tail (.tail (.tail .head))))))))) (l2 := [r]) (show Cl w1 (some ⟨x39, 0, none⟩) (refsC [r]) from hw.cl (by first | exact .new .head | exact .new (.tail .head) | exact .new (.tail (.tail .head)) | exact .new (.tail (.tail (.tail .head))) | exact .new (.tail (.tail (.tail (.tail .head)))) | exact .new (.tail (.tail (.tail (.tail (.tail .head))))) | exact .new (.tail (.tail (.tail (.tail (.tail (.tail .head)))))) | exact .new (.tail (.tail (.tail (.tail (.tail (.tail (.tail .head))))))) | exact .new (.tail (.tail (.tail (.tail (.tail (.tail (.tail (.tail .head)))))))) | exact .new (.tail (.tail (.tail (.tail (.tail (.tail (.tail (.tail (.tail .head))))))))) | exact .old .head | exact .old (.tail .head) | exact .old (.tail (.tail .head)) | exact .old (.tail (.tail (.tail .head))) | exact .old (.tail (.tail (.tail (.tail .head)))) | exact .old (.tail (.tail (.tail (.tail (.tail .head))))) | exact .own .head | exact .own (.tail .head) | exact .own (.tail (.tail .head)) | exact .own (.tail (.tail (.tail .head))) | exact .own (.tail (.tail (.tail (.tail .head)))) | exact .own (.tail (.tail (.tail (.tail (.tail .head))))) | exact .own (.tail (.tail (.tail (.tail (.tail (.tail .head)))))) | exact .own (.tail (.tail (.tail (.tail (.tail (.tail (.tail .head))))))))) (hw.cl (by first | exact .new .head | exact .new (.tail .head) | exact .new (.tail (.tail .head)) | exact .new (.tail (.tail (.tail .head))) | exact .new (.tail (.tail (.tail (.tail .head)))) | exact .new (.tail (.tail (.tail (.tail (.tail .head))))) | exact .new (.tail (.tail (.tail (.tail (.tail (.tail .head)))))) | exact .new (.tail (.tail (.tail (.tail (.tail (.tail (.tail .head))))))) | exact .new (.tail (.tail (.tail (.tail (.tail (.tail (.tail (.tail .head)))))))) | exact .new (.tail (.tail (.tail (.tail (.tail (.tail (.tail (.tail (.tail .head))))))))) | exact .old .head | exact .old (.tail .head) | exact .old (.tail (.tail .head)) | exact .old (.tail (.tail (.tail .head))) | exact .old (.tail (.tail (.tail (.tail .head)))) | exact .old (.tail (.tail (.tail (.tail (.tail .head))))) | exact .own .head | exact .own (.tail .head) | exact .own (.tail (.tail .head)) | exact .own (.tail (.tail (.tail .head))) | exact .own (.tail (.tail (.tail (.tail .head)))) | exact .own (.tail (.tail (.tail (.tail (.tail .head))))) | exact .own (.tail (.tail (.tail (.tail (.tail (.tail .head)))))) | exact .own (.tail (.tail (.tail (.tail (.tail (.tail (.tail .head))))))))) (by rw [List.length_take]; omega) rfl (by rw [List.length_drop]) (by omega) (show 1 ≤ 1000 by decide) (by omega) rfl))) (hfire := (fun _ => .nil)) (h := fun x45 => ?_); try (refine r_fact (fun h45 => ?_)))))
     all_goals (refine r_store (i := 13) (hfire := (fun _ => .nil)) (h := fun _ => ?_); refine r_assignL (i := 14) (hfire := (fun _ => .nil)) (h := fun _ => ?_); refine r_fin ?_)
     all_goals
      refine k_retvF Try.results45 (.cell (by exact rfl) (by repeat (first | exact At.head | apply At.tail)) (by exact agg_of rfl) (.tmp (by conv => { lhs; whnf }) .nil)) (fun w hw => ?_)
      rw [show inO n xs ys b i r = some (withI b i, insL xs (posN b i) r) from if_pos ⟨hcv.1, hcv.2, by omega, c23⟩]; exact ⟨x45, rfl, h45, hw.fin⟩
end
end Go.Proofs.Ytpfjjagcmjmfpaa
