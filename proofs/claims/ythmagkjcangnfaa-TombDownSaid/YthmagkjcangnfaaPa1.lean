/- Pairs: valid lists are maps. -/
import Derived.Test.YthmagkjcangnfaaSlices2
set_option linter.unusedSimpArgs false
set_option linter.unusedVariables false
namespace Go.Proofs.Ythmagkjcangnfaa
open Go.RowKit Go.Ct
theorem slt_le {a b c : ByteArray} (h : sless a b = true) (h2 : sless c b = false) : sless a c = true := by
  cases hb : sless b c with
  | true => exact sless_trans h hb
  | false => have := sless_total hb h2; subst this; exact h
theorem sle_lt {a b c : ByteArray} (h : sless b a = false) (h2 : sless b c = true) : sless a c = true := by
  cases hb : sless a b with
  | true => exact sless_trans hb h2
  | false => have := sless_total hb h; subst this; exact h2
theorem sle_le {a b c : ByteArray} (h : sless b a = false) (h2 : sless c b = false) : sless c a = false := by
  cases hc : sless c a with
  | false => rfl
  | true => have := slt_le hc h; rw [this] at h2; cases h2
theorem slt_ne {a b : ByteArray} (h : sless a b = true) : a ≠ b := fun e => by subst e; rw [sless_irrefl] at h; cases h
theorem sle_ne {a b : ByteArray} (h : sless b a = false) (hn : a ≠ b) : sless a b = true := by
  cases hb : sless a b with
  | true => rfl
  | false => exact absurd (sless_total hb h) hn
/-- Strictly ascending. -/
def SA (l : List Pr) : Prop := l.Pairwise fun p q => sless p.1 q.1 = true
theorem asc_far {l : List Pr} (h : Asc l) : ∀ d i, i + d + 1 < l.length → sless (l.getD i (⟨#[]⟩, 0)).1 (l.getD (i + d + 1) (⟨#[]⟩, 0)).1 = true
  | 0, i, hi => by have := h (i + 1) (by omega) hi; rwa [Nat.add_sub_cancel] at this
  | d + 1, i, hi => sless_trans (asc_far h d i (by omega)) (by have := h (i + (d + 1) + 1) (by omega) hi; rwa [Nat.add_sub_cancel] at this)
theorem getD_get {l : List Pr} {i : Nat} (h : i < l.length) : l.getD i (⟨#[]⟩, 0) = l[i] := by simp [List.getD, List.getElem?_eq_getElem h]
theorem asc_sa {l : List Pr} : Asc l ↔ SA l := by
  constructor
  · intro h
    refine List.pairwise_iff_getElem.2 fun i j hi hj hij => ?_
    have := asc_far h (j - i - 1) i (by omega)
    rw [show i + (j - i - 1) + 1 = j by omega, getD_get hi, getD_get hj] at this
    exact this
  · intro h i h1 hi
    rw [getD_get (by omega), getD_get hi]
    exact List.pairwise_iff_getElem.1 h (i - 1) i (by omega) hi (by omega)
def fnd : List Pr → ByteArray → Option Int
  | [], _ => none
  | p :: l, k => if p.1 = k then some p.2 else fnd l k
theorem fnd_none {l : List Pr} {k : ByteArray} (h : ∀ p ∈ l, p.1 ≠ k) : fnd l k = none := by
  induction l with
  | nil => rfl
  | cons p l ih => exact (if_neg (h p (.head _))).trans (ih fun q hq => h q (.tail _ hq))
theorem sa_ext : ∀ {l m : List Pr}, SA l → SA m → (∀ k, fnd l k = fnd m k) → l = m
  | [], [], _, _, _ => rfl
  | [], q :: m, _, _, h => by have := h q.1; simp [fnd] at this
  | p :: l, [], _, _, h => by have := h p.1; simp [fnd] at this
  | p :: l, q :: m, h1, h2, h => by
    have h1' := List.pairwise_cons.1 h1
    have h2' := List.pairwise_cons.1 h2
    have e1 : sless p.1 q.1 = false := by
      cases hb : sless p.1 q.1 with
      | false => rfl
      | true =>
        have : fnd (q :: m) p.1 = none := fnd_none fun x hx => by
          rcases List.mem_cons.1 hx with rfl | hx
          · exact (slt_ne hb).symm
          · exact (slt_ne (sless_trans hb (h2'.1 x hx))).symm
        have h' := h p.1
        rw [this] at h'; simp [fnd] at h'
    have e2 : sless q.1 p.1 = false := by
      cases hb : sless q.1 p.1 with
      | false => rfl
      | true =>
        have : fnd (p :: l) q.1 = none := fnd_none fun x hx => by
          rcases List.mem_cons.1 hx with rfl | hx
          · exact (slt_ne hb).symm
          · exact (slt_ne (sless_trans hb (h1'.1 x hx))).symm
        have h' := h q.1
        rw [this] at h'; simp [fnd] at h'
    have ek := sless_total e1 e2
    have ev : p.2 = q.2 := by have := h p.1; simpa [fnd, ek] using this
    have et : l = m := sa_ext h1'.2 h2'.2 fun k => by
      by_cases hk : p.1 = k
      · subst hk
        rw [fnd_none fun x hx => (slt_ne (h1'.1 x hx)).symm, fnd_none fun x hx => by rw [ek]; exact (slt_ne (h2'.1 x hx)).symm]
      · have := h k
        rw [fnd, fnd, if_neg hk, if_neg (by rw [← ek]; exact hk)] at this
        exact this
    rw [et, show p = q from Prod.ext ek ev]
def putL : List Pr → ByteArray → Int → List Pr
  | [], k, v => [(k, v)]
  | p :: l, k, v => if sless p.1 k = true then p :: putL l k v else if p.1 = k then (k, v) :: l else (k, v) :: p :: l
def dropL (l : List Pr) (k : ByteArray) : List Pr := l.filter fun p => decide (p.1 ≠ k)
theorem putL_mem {l : List Pr} {k : ByteArray} {v : Int} : ∀ {q : Pr}, q ∈ putL l k v → q = (k, v) ∨ q ∈ l := by
  induction l with
  | nil => intro q h; rw [putL, List.mem_singleton] at h; exact .inl h
  | cons p l ih =>
    intro q h
    rw [putL] at h
    split at h
    · rcases List.mem_cons.1 h with rfl | h
      · exact .inr (.head _)
      · exact (ih h).imp id (.tail _)
    · split at h
      · exact (List.mem_cons.1 h).imp id (.tail _)
      · exact List.mem_cons.1 h
theorem putL_sa {k : ByteArray} {v : Int} : ∀ {l : List Pr}, SA l → SA (putL l k v)
  | [], _ => List.pairwise_singleton _ _
  | p :: l, h => by
    have h' := List.pairwise_cons.1 h
    rw [putL]
    split
    · next hlt =>
      refine List.pairwise_cons.2 ⟨fun q hq => ?_, putL_sa h'.2⟩
      rcases putL_mem hq with rfl | hq
      · exact hlt
      · exact h'.1 q hq
    · next hlt =>
      split
      · next he =>
        subst he
        exact List.pairwise_cons.2 ⟨fun q hq => h'.1 q hq, h'.2⟩
      · next hne =>
        have hkp : sless k p.1 = true := sle_ne (by simpa using hlt) (fun e => hne e.symm)
        refine List.pairwise_cons.2 ⟨fun q hq => ?_, h⟩
        rcases List.mem_cons.1 hq with rfl | hq
        · exact hkp
        · exact sless_trans hkp (h'.1 q hq)
theorem putL_fnd {k : ByteArray} {v : Int} (j : ByteArray) : ∀ {l : List Pr}, SA l → fnd (putL l k v) j = if j = k then some v else fnd l j
  | [], _ => by
    simp only [putL, fnd]
    by_cases h : j = k
    · rw [if_pos h, if_pos h.symm]
    · rw [if_neg h, if_neg fun e => h e.symm]
  | p :: l, h => by
    have h' := List.pairwise_cons.1 h
    have ih := putL_fnd (k := k) (v := v) j h'.2
    rw [putL]
    split
    · next hlt =>
      rw [fnd, ih, fnd]
      by_cases hj : j = k
      · rw [if_pos hj, if_pos hj, if_neg fun e => slt_ne hlt (e.trans hj)]
      · rw [if_neg hj, if_neg hj]
    · split
      · next he =>
        rw [fnd, fnd]
        by_cases hj : j = k
        · rw [if_pos hj, if_pos hj.symm]
        · rw [if_neg hj, if_neg fun e => hj e.symm, if_neg fun e => hj (e.symm.trans he)]
      · rw [fnd]
        by_cases hj : j = k
        · rw [if_pos hj, if_pos hj.symm]
        · rw [if_neg hj, if_neg fun e => hj e.symm]
theorem dropL_sa {l : List Pr} (k : ByteArray) (h : SA l) : SA (dropL l k) := h.sublist List.filter_sublist
theorem dropL_fnd (l : List Pr) (k j : ByteArray) : fnd (dropL l k) j = if j = k then none else fnd l j := by
  unfold dropL
  induction l with
  | nil => simp [fnd]
  | cons p l ih =>
    rw [List.filter_cons]
    by_cases hp : p.1 = k
    · rw [if_neg (by simp [hp]), ih, fnd]
      by_cases hj : j = k
      · rw [if_pos hj, if_pos hj]
      · rw [if_neg hj, if_neg hj, if_neg fun e => hj (e.symm.trans hp)]
    · rw [if_pos (by simp [hp]), fnd, ih, fnd]
      by_cases hj : j = k
      · rw [if_pos hj, if_pos hj, if_neg fun e => hp (e.trans hj)]
      · rw [if_neg hj, if_neg hj]
theorem put_drop {l : List Pr} (h : SA l) (k : ByteArray) (v : Int) : putL (dropL l k) k v = putL l k v :=
  sa_ext (putL_sa (dropL_sa k h)) (putL_sa h) fun j => by
    rw [putL_fnd j (dropL_sa k h), putL_fnd j h, dropL_fnd]
    by_cases hj : j = k
    · rw [if_pos hj, if_pos hj]
    · rw [if_neg hj, if_neg hj, if_neg hj]
/-- i is the place of a key. -/
structure PosAt (l : List Pr) (k : ByteArray) (i : Nat) : Prop where
  le : i ≤ l.length
  lo : ∀ j, j < i → sless (l.getD j (⟨#[]⟩, 0)).1 k = true
  hi : ∀ j, i ≤ j → j < l.length → sless (l.getD j (⟨#[]⟩, 0)).1 k = false
theorem PosAt.tl {p : Pr} {l : List Pr} {k : ByteArray} {i : Nat} (h : PosAt (p :: l) k (i + 1)) : sless p.1 k = true ∧ PosAt l k i :=
  ⟨h.lo 0 (by omega), ⟨by have := h.le; simp at this; omega, fun j hj => h.lo (j + 1) (by omega), fun j h1 h2 => h.hi (j + 1) (by omega) (by simp; omega)⟩⟩
theorem put_found {k : ByteArray} {v : Int} : ∀ {l : List Pr} {i : Nat}, PosAt l k i → i < l.length → (l.getD i (⟨#[]⟩, 0)).1 = k → putL l k v = l.set i ((l.getD i (⟨#[]⟩, 0)).1, v)
  | [], i, _, h, _ => by simp at h
  | p :: l, 0, h, _, he => by
    have he : p.1 = k := he
    have : sless p.1 k = false := by rw [he]; exact sless_irrefl k
    rw [putL, if_neg (by rw [this]; decide), if_pos he, List.set_cons_zero, ← he]
    rfl
  | p :: l, i + 1, h, hi, he => by
    rw [putL, if_pos h.tl.1, List.set_cons_succ, put_found h.tl.2 (by simp at hi; omega) he]
    rfl
theorem put_new {k : ByteArray} {v : Int} : ∀ {l : List Pr} {i : Nat}, PosAt l k i → ¬ (i < l.length ∧ (l.getD i (⟨#[]⟩, 0)).1 = k) → putL l k v = l.take i ++ (k, v) :: l.drop i
  | [], i, h, _ => by have := h.le; simp at this; subst this; rfl
  | p :: l, 0, h, hn => by
    have : sless p.1 k = false := h.hi 0 (Nat.le_refl _) (by simp)
    rw [putL, if_neg (by rw [this]; decide), if_neg fun e : p.1 = k => hn ⟨by simp, e⟩]
    rfl
  | p :: l, i + 1, h, hn => by
    rw [putL, if_pos h.tl.1, put_new h.tl.2 fun hh => hn ⟨by simp; omega, hh.2⟩]
    rfl
theorem drop_found {k : ByteArray} : ∀ {l : List Pr} {i : Nat}, SA l → PosAt l k i → i < l.length → (l.getD i (⟨#[]⟩, 0)).1 = k → dropL l k = l.take i ++ l.drop (i + 1)
  | [], i, _, _, h, _ => by simp at h
  | p :: l, 0, hs, h, _, he => by
    have he : p.1 = k := he
    have h' := List.pairwise_cons.1 hs
    unfold dropL
    rw [List.filter_cons, if_neg (by simp [he])]
    exact List.filter_eq_self.2 fun q hq => by simpa [← he] using (slt_ne (h'.1 q hq)).symm
  | p :: l, i + 1, hs, h, hi, he => by
    have := drop_found (List.pairwise_cons.1 hs).2 h.tl.2 (by simp at hi; omega) he
    unfold dropL at this ⊢
    rw [List.filter_cons, if_pos (by simpa using slt_ne h.tl.1), this]
    rfl
theorem not_found {k : ByteArray} : ∀ {l : List Pr} {i : Nat}, SA l → PosAt l k i → ¬ (i < l.length ∧ (l.getD i (⟨#[]⟩, 0)).1 = k) → ∀ p ∈ l, p.1 ≠ k
  | [], _, _, _, _ => by simp
  | p :: l, 0, hs, h, hn => by
    have h' := List.pairwise_cons.1 hs
    have h0 : sless p.1 k = false := h.hi 0 (Nat.le_refl _) (by simp)
    have hne : p.1 ≠ k := fun e => hn ⟨by simp, e⟩
    have hlt := sle_ne h0 (fun e => hne e.symm)
    intro q hq
    rcases List.mem_cons.1 hq with rfl | hq
    · exact hne
    · exact (slt_ne (sless_trans hlt (h'.1 q hq))).symm
  | p :: l, i + 1, hs, h, hn => by
    have := not_found (List.pairwise_cons.1 hs).2 h.tl.2 fun hh => hn ⟨by simp; omega, hh.2⟩
    intro q hq
    rcases List.mem_cons.1 hq with rfl | hq
    · exact slt_ne h.tl.1
    · exact this q hq
theorem drop_none {l : List Pr} {k : ByteArray} (h : ∀ p ∈ l, p.1 ≠ k) : dropL l k = l := List.filter_eq_self.2 fun q hq => by simpa using h q hq
theorem fnd_found {k : ByteArray} : ∀ {l : List Pr} {i : Nat}, PosAt l k i → i < l.length → (l.getD i (⟨#[]⟩, 0)).1 = k → fnd l k = some (l.getD i (⟨#[]⟩, 0)).2
  | [], i, _, h, _ => by simp at h
  | p :: l, 0, h, _, he => if_pos he
  | p :: l, i + 1, h, hi, he => (if_neg (slt_ne h.tl.1)).trans (fnd_found h.tl.2 (by simp at hi; omega) he)
theorem fnd_lt {k : ByteArray} : ∀ {l : List Pr} {v : Int}, fnd l k = some v → ∃ i, i < l.length ∧ (l.getD i (⟨#[]⟩, 0)).1 = k
  | [], _, h => by cases h
  | p :: l, v, h => by
    rw [fnd] at h
    split at h
    · next he => exact ⟨0, by simp, he⟩
    · obtain ⟨i, h1, h2⟩ := fnd_lt h
      exact ⟨i + 1, by simp; omega, h2⟩
/-- How many there are then. -/
theorem put_len {k : ByteArray} {v : Int} : ∀ {l : List Pr}, SA l → (putL l k v).length = if (fnd l k).isSome = true then l.length else l.length + 1
  | [], _ => rfl
  | p :: l, h => by
    have h' := List.pairwise_cons.1 h
    rw [putL]
    split
    · next hlt =>
      rw [List.length_cons, put_len h'.2, fnd, if_neg (slt_ne hlt)]
      split <;> rfl
    · next hlt =>
      split
      · next he => rw [fnd, if_pos he]; rfl
      · next hne =>
        have hkp : sless k p.1 = true := sle_ne (by simpa using hlt) (fun e => hne e.symm)
        rw [fnd, if_neg hne, fnd_none fun q hq => (slt_ne (sless_trans hkp (h'.1 q hq))).symm]
        rfl
theorem drop_len {k : ByteArray} : ∀ {l : List Pr}, SA l → (dropL l k).length = if (fnd l k).isSome = true then l.length - 1 else l.length
  | [], _ => rfl
  | p :: l, h => by
    have h' := List.pairwise_cons.1 h
    have ih := drop_len (k := k) h'.2
    unfold dropL at ih ⊢
    rw [List.filter_cons]
    by_cases hp : p.1 = k
    · have hn : ∀ q ∈ l, q.1 ≠ k := fun q hq => by rw [← hp]; exact (slt_ne (h'.1 q hq)).symm
      rw [if_neg (by simp [hp]), fnd, if_pos hp, List.filter_eq_self.2 fun q hq => by simpa using hn q hq]
      rfl
    · rw [if_pos (by simp [hp]), List.length_cons, ih, fnd, if_neg hp]
      split
      · next hs =>
        have : 1 ≤ l.length := by
          cases hf : fnd l k with
          | none => rw [hf] at hs; cases hs
          | some v => obtain ⟨i, hi, _⟩ := fnd_lt hf; omega
        rw [List.length_cons]; omega
      · rfl
/-- The list of the last value of each key. -/
def ofL (l : List Pr) : List Pr := l.foldl (fun acc p => putL acc p.1 p.2) []
theorem ofL_snoc (l : List Pr) (p : Pr) : ofL (l ++ [p]) = putL (ofL l) p.1 p.2 := by unfold ofL; rw [List.foldl_append]; rfl
def lastV (l : List Pr) (k : ByteArray) : Option Int := ((l.filter fun p => decide (p.1 = k)).getLast?).map (·.2)
theorem lastV_snoc (l : List Pr) (p : Pr) (k : ByteArray) : lastV (l ++ [p]) k = if k = p.1 then some p.2 else lastV l k := by
  unfold lastV
  rw [List.filter_append]
  by_cases h : p.1 = k
  · rw [if_pos h.symm]; simp [h]
  · rw [if_neg fun e => h e.symm]; simp [h]
theorem snoc_ind {α : Type} {Q : List α → Prop} (h0 : Q []) (h1 : ∀ l x, Q l → Q (l ++ [x])) (l : List α) : Q l := by
  have key : ∀ m : List α, Q m.reverse := fun m => by
    induction m with
    | nil => exact h0
    | cons x m ih => rw [List.reverse_cons]; exact h1 _ _ ih
  have := key l.reverse
  rwa [List.reverse_reverse] at this
theorem ofL_sa (l : List Pr) : SA (ofL l) := by
  induction l using snoc_ind with
  | h0 => exact List.Pairwise.nil
  | h1 l x ih => rw [ofL_snoc]; exact putL_sa ih
theorem ofL_fnd (l : List Pr) (k : ByteArray) : fnd (ofL l) k = lastV l k := by
  induction l using snoc_ind with
  | h0 => rfl
  | h1 l x ih => rw [ofL_snoc, putL_fnd k (ofL_sa l), lastV_snoc, ih]
theorem ofL_len (l : List Pr) : (ofL l).length ≤ l.length := by
  induction l using snoc_ind with
  | h0 => exact Nat.le_refl _
  | h1 l x ih =>
    rw [ofL_snoc, put_len (ofL_sa l), List.length_append, List.length_singleton]
    split <;> omega
/-- Of a valid list: it. -/
theorem ofL_self {l : List Pr} (h : SA l) : ofL l = l := by
  refine sa_ext (ofL_sa l) h fun k => ?_
  rw [ofL_fnd]
  induction l with
  | nil => rfl
  | cons p l ih =>
    have h' := List.pairwise_cons.1 h
    rw [fnd]
    by_cases hp : p.1 = k
    · rw [if_pos hp]
      unfold lastV
      rw [List.filter_cons, if_pos (by simp [hp]), List.filter_eq_nil_iff.2 fun q hq => by rw [← hp]; simpa using (slt_ne (h'.1 q hq)).symm]
      rfl
    · rw [if_neg hp, ← ih h'.2]
      unfold lastV
      rw [List.filter_cons, if_neg (by simp [hp])]
/-! ### Sorting -/
/-- Weakly ascending. -/
def WS (l : List Pr) : Prop := l.Pairwise fun p q => sless q.1 p.1 = false
/-- The same pairs, those of one key in one order. -/
def Stb (l m : List Pr) : Prop := ∀ k : ByteArray, l.filter (fun p => decide (p.1 = k)) = m.filter fun p => decide (p.1 = k)
theorem Stb.rfl {l : List Pr} : Stb l l := fun _ => .refl _
theorem Stb.trans {l m n : List Pr} (h : Stb l m) (h2 : Stb m n) : Stb l n := fun k => (h k).trans (h2 k)
theorem Stb.symm {l m : List Pr} (h : Stb l m) : Stb m l := fun k => (h k).symm
theorem Stb.app {a b c d : List Pr} (h : Stb a b) (h2 : Stb c d) : Stb (a ++ c) (b ++ d) := fun k => by rw [List.filter_append, List.filter_append, h k, h2 k]
theorem Stb.last {l m : List Pr} (h : Stb l m) (k : ByteArray) : lastV l k = lastV m k := by unfold lastV; rw [h k]
theorem Stb.mem {l m : List Pr} (h : Stb l m) {p : Pr} (hp : p ∈ l) : p ∈ m := by
  have : p ∈ m.filter fun q => decide (q.1 = p.1) := by rw [← h p.1]; exact List.mem_filter.2 ⟨hp, by simp⟩
  exact (List.mem_filter.1 this).1
/-- Lists of which all of one are less than all of the other may be exchanged. -/
theorem stb_swap {l m : List Pr} (h : ∀ p ∈ l, ∀ q ∈ m, p.1 ≠ q.1) : Stb (l ++ m) (m ++ l) := fun k => by
  rw [List.filter_append, List.filter_append]
  by_cases hl : ∃ p ∈ l, p.1 = k
  · obtain ⟨p, hp, rfl⟩ := hl
    have e : m.filter (fun q => decide (q.1 = p.1)) = [] := List.filter_eq_nil_iff.2 fun q hq => by simpa using (h p hp q hq).symm
    rw [e, List.append_nil, List.nil_append]
  · have e : l.filter (fun q => decide (q.1 = k)) = [] := List.filter_eq_nil_iff.2 fun p hp => by simpa using fun e => hl ⟨p, hp, e⟩
    rw [e, List.append_nil, List.nil_append]
/-- The last of each run. -/
def lastsL : List Pr → List Pr
  | [] => []
  | [p] => [p]
  | p :: q :: l => if q.1 = p.1 then lastsL (q :: l) else p :: lastsL (q :: l)
theorem lasts_mem : ∀ {l : List Pr} {x : Pr}, x ∈ lastsL l → x ∈ l
  | [], _, h => h
  | [_], _, h => h
  | p :: q :: l, x, h => by
    rw [lastsL] at h
    split at h
    · exact .tail _ (lasts_mem h)
    · rcases List.mem_cons.1 h with rfl | h
      · exact .head _
      · exact .tail _ (lasts_mem h)
theorem lasts_sa : ∀ {l : List Pr}, WS l → SA (lastsL l)
  | [], _ => List.Pairwise.nil
  | [_], _ => List.pairwise_singleton _ _
  | p :: q :: l, h => by
    have h' := List.pairwise_cons.1 h
    have ih := lasts_sa h'.2
    have h2 := List.pairwise_cons.1 h'.2
    rw [lastsL]
    split
    · exact ih
    · next hne =>
      have hpq := sle_ne (h'.1 q (.head _)) (fun e => hne e.symm)
      refine List.pairwise_cons.2 ⟨fun x hx => ?_, ih⟩
      rcases List.mem_cons.1 (lasts_mem hx) with rfl | hx
      · exact hpq
      · exact slt_le hpq (h2.1 x hx)
theorem lasts_fnd : ∀ {l : List Pr}, WS l → ∀ k, fnd (lastsL l) k = lastV l k
  | [], _, _ => rfl
  | [p], _, k => by
    rw [lastsL, fnd, show [p] = [] ++ [p] from rfl, lastV_snoc, show lastV [] k = none from rfl, fnd]
    by_cases h : p.1 = k
    · rw [if_pos h, if_pos h.symm]
    · rw [if_neg h, if_neg fun e => h e.symm]
  | p :: q :: l, h, k => by
    have h' := List.pairwise_cons.1 h
    have ih := lasts_fnd h'.2 k
    have h2 := List.pairwise_cons.1 h'.2
    rw [lastsL]
    split
    · next he =>
      rw [ih]
      unfold lastV
      rw [List.filter_cons (x := p)]
      by_cases hp : p.1 = k
      · rw [if_pos (by simp [hp]), List.filter_cons, if_pos (by simp [he, hp]), List.getLast?_cons_cons]
      · rw [if_neg (by simp [hp])]
    · next hne =>
      rw [fnd, ih]
      have hpq := sle_ne (h'.1 q (.head _)) (fun e => hne e.symm)
      by_cases hp : p.1 = k
      · rw [if_pos hp]
        unfold lastV
        rw [List.filter_cons, if_pos (by simp [hp]), List.filter_eq_nil_iff.2 fun x hx => by
          rw [← hp]
          rcases List.mem_cons.1 hx with rfl | hx
          · simpa using (slt_ne hpq).symm
          · simpa using (slt_ne (slt_le hpq (h2.1 x hx))).symm]
        rfl
      · rw [if_neg hp]
        unfold lastV
        rw [List.filter_cons (x := p), if_neg (by simp [hp])]
theorem lasts_of {l m : List Pr} (h : WS m) (hs : Stb m l) : lastsL m = ofL l :=
  sa_ext (lasts_sa h) (ofL_sa l) fun k => by rw [lasts_fnd h, ofL_fnd, hs.last]
end Go.Proofs.Ythmagkjcangnfaa
