/- Merging: the plain laws. -/
import Derived.Test.YthmagkjcangnfaaPa5
set_option linter.unusedSimpArgs false
set_option linter.unusedVariables false
namespace Go.Proofs.Ythmagkjcangnfaa
open Go.RowKit Go.Ct
/-- zs is ys with [a, b) in order. -/
def MS (ys : List Pr) (a b : Nat) (zs : List Pr) : Prop := SR zs a b ∧ Sg a b zs ys
section
variable {ys zs z1 z2 z3 : List Pr} {a b m i s e mid : Nat}
/-- Where the first part is one pair. -/
theorem merge_one (hi : a + 1 ≤ i) (hib : i ≤ b) (hb : b ≤ ys.length) (h2 : SR ys (a + 1) b) (lo : ∀ h, a + 1 ≤ h → h < i → sless (ys.getD h (⟨#[]⟩, 0)).1 (ys.getD a (⟨#[]⟩, 0)).1 = true)
    (hh : ∀ h, i ≤ h → h < b → sless (ys.getD h (⟨#[]⟩, 0)).1 (ys.getD a (⟨#[]⟩, 0)).1 = false) : MS ys a b (rotL ys a (a + 1) i) := by
  have g := fun t => rotL_get (ys := ys) (a := a) (m := a + 1) (b := i) (t := t) (by omega) hi (by omega)
  refine ⟨fun p q p1 p2 p3 => ?_, (rotL_sg (by omega) hi (by omega) fun s t s1 s2 t1 t2 => ?_).wide (Nat.le_refl _) hib⟩
  · have gp := g p; have gq := g q
    rw [if_neg (by omega)] at gp gq
    rw [gp, gq]
    clear gp gq
    by_cases c1 : p < a + (i - (a + 1))
    · rw [if_pos c1]
      by_cases c2 : q < a + (i - (a + 1))
      · rw [if_pos c2]; exact h2 _ _ (by omega) (by omega) (by omega)
      · rw [if_neg c2]
        by_cases c3 : q < i
        · rw [if_pos c3, show q - (i - (a + 1)) = a by omega]; exact sless_asymm (lo _ (by omega) (by omega))
        · rw [if_neg c3]; exact h2 _ _ (by omega) (by omega) (by omega)
    · rw [if_neg c1, if_neg (by omega : ¬ q < a + (i - (a + 1)))]
      by_cases c3 : p < i
      · rw [if_pos c3, show p - (i - (a + 1)) = a by omega, if_neg (by omega)]
        exact hh q (by omega) (by omega)
      · rw [if_neg c3, if_neg (by omega)]; exact h2 _ _ (by omega) p2 p3
  · have : s = a := by omega
    subst this
    exact slt_ne (lo t t1 t2)
/-- Where the second part is one pair. -/
theorem merge_end (hi : a ≤ i) (him : i ≤ m) (hb : m + 1 ≤ ys.length) (h1 : SR ys a m) (lo : ∀ h, a ≤ h → h < i → sless (ys.getD m (⟨#[]⟩, 0)).1 (ys.getD h (⟨#[]⟩, 0)).1 = false)
    (hh : ∀ h, i ≤ h → h < m → sless (ys.getD m (⟨#[]⟩, 0)).1 (ys.getD h (⟨#[]⟩, 0)).1 = true) : MS ys a (m + 1) (rotL ys i m (m + 1)) := by
  have g := fun t => rotL_get (ys := ys) (a := i) (m := m) (b := m + 1) (t := t) him (by omega) (by omega)
  refine ⟨fun p q p1 p2 p3 => ?_, (rotL_sg him (by omega) (by omega) fun s t s1 s2 t1 t2 => ?_).wide hi (Nat.le_refl _)⟩
  · have gp := g p; have gq := g q
    rw [show i + (m + 1 - m) = i + 1 by omega] at gp gq
    rw [gp, gq]
    clear gp gq
    by_cases c1 : p < i
    · rw [if_pos c1]
      by_cases c2 : q < i
      · rw [if_pos c2]; exact h1 _ _ p1 p2 (by omega)
      · rw [if_neg c2]
        by_cases c3 : q < i + 1
        · rw [if_pos c3, show q - i + m = m by omega]; exact lo p p1 c1
        · rw [if_neg c3, if_pos p3, show q - (m + 1 - m) = q - 1 by omega]; exact h1 _ _ p1 (by omega) (by omega)
    · rw [if_neg c1, if_neg (by omega : ¬ q < i)]
      rw [if_neg (by omega : ¬ q < i + 1), if_pos p3, show q - (m + 1 - m) = q - 1 by omega]
      by_cases c3 : p < i + 1
      · rw [if_pos c3, show p - i + m = m by omega]; exact sless_asymm (hh _ (by omega) (by omega))
      · rw [if_neg c3, if_pos (by omega), show p - (m + 1 - m) = p - 1 by omega]; exact h1 _ _ (by omega) (by omega) (by omega)
  · have : t = m := by omega
    subst this
    exact slt_ne (hh s s1 s2)
/-- What the search for the place of turning has found. -/
structure Cut (ys : List Pr) (a m b mid s : Nat) : Prop where
  am : a < m
  mb : m < b
  bl : b ≤ ys.length
  md : mid = (a + b) / 2
  s1 : a ≤ s
  s2 : s ≤ m
  s3 : s ≤ mid
  s4 : mid + m ≤ s + b
  lo : a < s → mid + m < s + b → sless (ys.getD (mid + m - s) (⟨#[]⟩, 0)).1 (ys.getD (s - 1) (⟨#[]⟩, 0)).1 = false
  hi : s < m → s < mid → sless (ys.getD (mid + m - s - 1) (⟨#[]⟩, 0)).1 (ys.getD s (⟨#[]⟩, 0)).1 = true
theorem Cut.e1 (h : Cut ys a m b mid s) : m ≤ mid + m - s ∧ mid ≤ mid + m - s ∧ mid + m - s ≤ b ∧ a < mid ∧ mid < b := by
  have := h.s1; have := h.s2; have := h.s3; have := h.s4; have := h.am; have := h.mb; have := h.md
  omega
/-- The right part's pairs that go ahead are less. -/
theorem Cut.less (h : Cut ys a m b mid s) (h1 : SR ys a m) (h2 : SR ys m b) (u t : Nat) (u1 : s ≤ u) (u2 : u < m) (t1 : m ≤ t) (t2 : t < mid + m - s) : sless (ys.getD t (⟨#[]⟩, 0)).1 (ys.getD u (⟨#[]⟩, 0)).1 = true := by
  have e := h.e1; have hs1 := h.s1
  have k := h.hi (by omega) (by omega)
  have k1 : sless (ys.getD (mid + m - s - 1) (⟨#[]⟩, 0)).1 (ys.getD u (⟨#[]⟩, 0)).1 = true := by
    by_cases hu : u = s
    · subst hu; exact k
    · exact slt_le k (h1 s u h.s1 (by omega) u2)
  by_cases ht : t = mid + m - s - 1
  · subst ht; exact k1
  · exact sle_lt (h2 t (mid + m - s - 1) t1 (by omega) (by omega)) k1
theorem Cut.turn (h : Cut ys a m b mid s) (h1 : SR ys a m) (h2 : SR ys m b) : Sg a b (rotL ys s m (mid + m - s)) ys := by
  have e := h.e1; have hbl := h.bl
  exact (rotL_sg h.s2 e.1 (by omega) fun u t u1 u2 t1 t2 => slt_ne (h.less h1 h2 u t u1 u2 t1 t2)).wide h.s1 e.2.2.1
theorem Cut.get (h : Cut ys a m b mid s) (t : Nat) : (rotL ys s m (mid + m - s)).getD t (⟨#[]⟩, 0) = if t < s then ys.getD t (⟨#[]⟩, 0) else if t < mid then ys.getD (t - s + m) (⟨#[]⟩, 0) else if t < mid + m - s then ys.getD (t - (mid - s)) (⟨#[]⟩, 0) else ys.getD t (⟨#[]⟩, 0) := by
  have e := h.e1; have hbl := h.bl; have h3 := h.s3
  rw [rotL_get h.s2 e.1 (by omega), show mid + m - s - m = mid - s by omega, show s + (mid - s) = mid by omega]
theorem Cut.len (h : Cut ys a m b mid s) : (rotL ys s m (mid + m - s)).length = ys.length := by
  have e := h.e1; have hbl := h.bl
  exact rotL_len h.s2 e.1 (by omega)
theorem Cut.p1 (h : Cut ys a m b mid s) (h1 : SR ys a m) : SR (rotL ys s m (mid + m - s)) a s := fun p q q1 q2 q3 => by
  have := h.s2
  have gp := h.get p; have gq := h.get q
  rw [if_pos (by omega)] at gp gq
  rw [gp, gq]; exact h1 p q q1 q2 (by omega)
theorem Cut.p2 (h : Cut ys a m b mid s) (h2 : SR ys m b) : SR (rotL ys s m (mid + m - s)) s mid := fun p q q1 q2 q3 => by
  have := h.e1
  have gp := h.get p; have gq := h.get q
  rw [if_neg (by omega), if_pos (by omega)] at gp gq
  rw [gp, gq]; exact h2 _ _ (by omega) (by omega) (by omega)
theorem Cut.p3 (h : Cut ys a m b mid s) (h1 : SR ys a m) : SR (rotL ys s m (mid + m - s)) mid (mid + m - s) := fun p q q1 q2 q3 => by
  have := h.s3; have := h.s1
  have gp := h.get p; have gq := h.get q
  rw [if_neg (by omega), if_neg (by omega), if_pos (by omega)] at gp gq
  rw [gp, gq]; exact h1 _ _ (by omega) (by omega) (by omega)
theorem Cut.p4 (h : Cut ys a m b mid s) (h2 : SR ys m b) : SR (rotL ys s m (mid + m - s)) (mid + m - s) b := fun p q q1 q2 q3 => by
  have := h.e1; have := h.s3
  have gp := h.get p; have gq := h.get q
  rw [if_neg (by omega), if_neg (by omega), if_neg (by omega)] at gp gq
  rw [gp, gq]; exact h2 _ _ (by omega) q2 q3
theorem Cut.cross (h : Cut ys a m b mid s) (h1 : SR ys a m) (h2 : SR ys m b) (p q : Nat) (p1 : a ≤ p) (p2 : p < mid) (q1 : mid ≤ q) (q2 : q < b) : sless ((rotL ys s m (mid + m - s)).getD q (⟨#[]⟩, 0)).1 ((rotL ys s m (mid + m - s)).getD p (⟨#[]⟩, 0)).1 = false := by
  have e := h.e1; have hs1 := h.s1; have hs2 := h.s2; have hs3 := h.s3
  rw [h.get q, h.get p, if_neg (by omega : ¬ q < s), if_neg (by omega : ¬ q < mid)]
  by_cases c1 : p < s
  · rw [if_pos c1]
    by_cases c2 : q < mid + m - s
    · rw [if_pos c2]; exact h1 _ _ p1 (by omega) (by omega)
    · rw [if_neg c2]
      have k := h.lo (by omega) (by omega)
      have k2 : sless (ys.getD (mid + m - s) (⟨#[]⟩, 0)).1 (ys.getD p (⟨#[]⟩, 0)).1 = false := by
        by_cases hp : p = s - 1
        · subst hp; exact k
        · exact sle_le (h1 p (s - 1) p1 (by omega) (by omega)) k
      by_cases hq : q = mid + m - s
      · subst hq; exact k2
      · exact sle_le k2 (h2 (mid + m - s) q (by omega) (by omega) q2)
  · rw [if_neg c1, if_pos p2]
    by_cases c2 : q < mid + m - s
    · rw [if_pos c2]; exact sless_asymm (h.less h1 h2 _ _ (by omega) (by omega) (by omega) (by omega))
    · rw [if_neg c2]; exact h2 _ _ (by omega) (by omega) q2
theorem SR.keep_hi (h : Sg a mid z2 z1) {c d : Nat} (hc : mid ≤ c) (hs : SR z1 c d) : SR z2 c d := fun p q p1 p2 p3 => by
  rw [h.get_hi (by omega), h.get_hi (by omega)]; exact hs p q p1 p2 p3
theorem Cut.join (h : Cut ys a m b mid s) (h1 : SR ys a m) (h2 : SR ys m b) (ha : MS (rotL ys s m (mid + m - s)) a mid z2) (hb : MS z2 mid b z3) : MS ys a b z3 := by
  have e := h.e1; have hbl := h.bl; have hlen := h.len
  have l2 := ha.2.len
  have l3 := hb.2.len
  refine ⟨fun p q p1 p2 p3 => ?_, (hb.2.wide (by omega) (Nat.le_refl _)).trans ((ha.2.wide (Nat.le_refl _) (by omega)).trans (h.turn h1 h2))⟩
  by_cases c1 : q < mid
  · rw [hb.2.get_lo c1, hb.2.get_lo (by omega : p < mid)]; exact ha.1 p q p1 p2 c1
  · by_cases c2 : mid ≤ p
    · exact hb.1 p q c2 p2 p3
    · rw [hb.2.get_lo (by omega : p < mid)]
      refine hb.2.all (φ := fun x => sless x.1 (z2.getD p (⟨#[]⟩, 0)).1 = false) (by omega) (fun t t1 t2 t3 => ?_) q (by omega) p3 (by omega)
      rw [ha.2.get_hi t1]
      exact ha.2.all (φ := fun x => sless ((rotL ys s m (mid + m - s)).getD t (⟨#[]⟩, 0)).1 x.1 = false) (by omega) (fun u u1 u2 u3 => h.cross h1 h2 u t u1 u2 t1 t2) p p1 (by omega) (by omega)
theorem SR.cat (h1 : SR ys a s) (h2 : SR ys s b) (h : s = a ∨ s = b) : SR ys a b := by
  rcases h with rfl | rfl
  · exact h2
  · exact h1
end
end Go.Proofs.Ythmagkjcangnfaa
