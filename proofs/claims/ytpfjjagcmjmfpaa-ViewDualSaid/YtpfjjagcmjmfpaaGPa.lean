/- Pairs: valid lists are maps. -/
import Derived.Test.YtpfjjagcmjmfpaaSlices2
import Derived.Lib.Bytealg
import Derived.Laws.Externs
import Derived.Test.YtpfjjagcmjmfpaaGBr

set_option linter.unusedSimpArgs false
set_option linter.unusedVariables false
namespace Go.Proofs.Ytpfjjagcmjmfpaa
open Go.RowKit Go.Ct
theorem slt_le {a b c : ByteArray} (h : sless a b = true) (h2 : sless c b = false) : sless a c = true := by
  cases hb : sless b c with
  | true => exact sless_trans h hb
  | false => have := sless_total hb h2; subst this; exact h
theorem sle_lt {a b c : ByteArray} (h : sless b a = false) (h2 : sless b c = true) : sless a c = true := by
  cases hb : sless a b with
  | true => exact sless_trans hb h2
  | false => have := sless_total hb h; subst this; exact h2
theorem sle_le {a b c : ByteArray} (h : sless b a = false) (h2 : sless c b = false) : sless c a = false := by
  cases hc : sless c a with
  | false => rfl
  | true => have := slt_le hc h; rw [this] at h2; cases h2
theorem slt_ne {a b : ByteArray} (h : sless a b = true) : a ≠ b := fun e => by subst e; rw [sless_irrefl] at h; cases h
theorem sle_ne {a b : ByteArray} (h : sless b a = false) (hn : a ≠ b) : sless a b = true := by
  cases hb : sless a b with
  | true => rfl
  | false => exact absurd (sless_total hb h) hn
/-- Strictly ascending. -/
def SA (l : List Pr) : Prop := l.Pairwise fun p q => sless p.1 q.1 = true
theorem asc_far {l : List Pr} (h : Asc l) : ∀ d i, i + d + 1 < l.length → sless (l.getD i (⟨#[]⟩, 0)).1 (l.getD (i + d + 1) (⟨#[]⟩, 0)).1 = true
  | 0, i, hi => by have := h (i + 1) (by omega) hi; rwa [Nat.add_sub_cancel] at this
  | d + 1, i, hi => sless_trans (asc_far h d i (by omega)) (by have := h (i + (d + 1) + 1) (by omega) hi; rwa [Nat.add_sub_cancel] at this)
theorem getD_get {l : List Pr} {i : Nat} (h : i < l.length) : l.getD i (⟨#[]⟩, 0) = l[i] := by simp [List.getD, List.getElem?_eq_getElem h]
theorem asc_sa {l : List Pr} : Asc l ↔ SA l := by
  constructor
  · intro h
    refine List.pairwise_iff_getElem.2 fun i j hi hj hij => ?_
    have := asc_far h (j - i - 1) i (by omega)
    rw [show i + (j - i - 1) + 1 = j by omega, getD_get hi, getD_get hj] at this
    exact this
  · intro h i h1 hi
    rw [getD_get (by omega), getD_get hi]
    exact List.pairwise_iff_getElem.1 h (i - 1) i (by omega) hi (by omega)
def fnd : List Pr → ByteArray → Option Int
  | [], _ => none
  | p :: l, k => if p.1 = k then some p.2 else fnd l k
theorem fnd_none {l : List Pr} {k : ByteArray} (h : ∀ p ∈ l, p.1 ≠ k) : fnd l k = none := by
  induction l with
  | nil => rfl
  | cons p l ih => exact (if_neg (h p (.head _))).trans (ih fun q hq => h q (.tail _ hq))
theorem sa_ext : ∀ {l m : List Pr}, SA l → SA m → (∀ k, fnd l k = fnd m k) → l = m
  | [], [], _, _, _ => rfl
  | [], q :: m, _, _, h => by have := h q.1; simp [fnd] at this
  | p :: l, [], _, _, h => by have := h p.1; simp [fnd] at this
  | p :: l, q :: m, h1, h2, h => by
    have h1' := List.pairwise_cons.1 h1
    have h2' := List.pairwise_cons.1 h2
    have e1 : sless p.1 q.1 = false := by
      cases hb : sless p.1 q.1 with
      | false => rfl
      | true =>
        have : fnd (q :: m) p.1 = none := fnd_none fun x hx => by
          rcases List.mem_cons.1 hx with rfl | hx
          · exact (slt_ne hb).symm
          · exact (slt_ne (sless_trans hb (h2'.1 x hx))).symm
        have h' := h p.1
        rw [this] at h'; simp [fnd] at h'
    have e2 : sless q.1 p.1 = false := by
      cases hb : sless q.1 p.1 with
      | false => rfl
      | true =>
        have : fnd (p :: l) q.1 = none := fnd_none fun x hx => by
          rcases List.mem_cons.1 hx with rfl | hx
          · exact (slt_ne hb).symm
          · exact (slt_ne (sless_trans hb (h1'.1 x hx))).symm
        have h' := h q.1
        rw [this] at h'; simp [fnd] at h'
    have ek := sless_total e1 e2
    have ev : p.2 = q.2 := by have := h p.1; simpa [fnd, ek] using this
    have et : l = m := sa_ext h1'.2 h2'.2 fun k => by
      by_cases hk : p.1 = k
      · subst hk
        rw [fnd_none fun x hx => (slt_ne (h1'.1 x hx)).symm, fnd_none fun x hx => by rw [ek]; exact (slt_ne (h2'.1 x hx)).symm]
      · have := h k
        rw [fnd, fnd, if_neg hk, if_neg (by rw [← ek]; exact hk)] at this
        exact this
    rw [et, show p = q from Prod.ext ek ev]
def putL : List Pr → ByteArray → Int → List Pr
  | [], k, v => [(k, v)]
  | p :: l, k, v => if sless p.1 k = true then p :: putL l k v else if p.1 = k then (k, v) :: l else (k, v) :: p :: l
def dropL (l : List Pr) (k : ByteArray) : List Pr := l.filter fun p => decide (p.1 ≠ k)
theorem putL_mem {l : List Pr} {k : ByteArray} {v : Int} : ∀ {q : Pr}, q ∈ putL l k v → q = (k, v) ∨ q ∈ l := by
  induction l with
  | nil => intro q h; rw [putL, List.mem_singleton] at h; exact .inl h
  | cons p l ih =>
    intro q h
    rw [putL] at h
    split at h
    · rcases List.mem_cons.1 h with rfl | h
      · exact .inr (.head _)
      · exact (ih h).imp id (.tail _)
    · split at h
      · exact (List.mem_cons.1 h).imp id (.tail _)
      · exact List.mem_cons.1 h
theorem putL_sa {k : ByteArray} {v : Int} : ∀ {l : List Pr}, SA l → SA (putL l k v)
  | [], _ => List.pairwise_singleton _ _
  | p :: l, h => by
    have h' := List.pairwise_cons.1 h
    rw [putL]
    split
    · next hlt =>
      refine List.pairwise_cons.2 ⟨fun q hq => ?_, putL_sa h'.2⟩
      rcases putL_mem hq with rfl | hq
      · exact hlt
      · exact h'.1 q hq
    · next hlt =>
      split
      · next he =>
        subst he
        exact List.pairwise_cons.2 ⟨fun q hq => h'.1 q hq, h'.2⟩
      · next hne =>
        have hkp : sless k p.1 = true := sle_ne (by simpa using hlt) (fun e => hne e.symm)
        refine List.pairwise_cons.2 ⟨fun q hq => ?_, h⟩
        rcases List.mem_cons.1 hq with rfl | hq
        · exact hkp
        · exact sless_trans hkp (h'.1 q hq)
theorem putL_fnd {k : ByteArray} {v : Int} (j : ByteArray) : ∀ {l : List Pr}, SA l → fnd (putL l k v) j = if j = k then some v else fnd l j
  | [], _ => by
    simp only [putL, fnd]
    by_cases h : j = k
    · rw [if_pos h, if_pos h.symm]
    · rw [if_neg h, if_neg fun e => h e.symm]
  | p :: l, h => by
    have h' := List.pairwise_cons.1 h
    have ih := putL_fnd (k := k) (v := v) j h'.2
    rw [putL]
    split
    · next hlt =>
      rw [fnd, ih, fnd]
      by_cases hj : j = k
      · rw [if_pos hj, if_pos hj, if_neg fun e => slt_ne hlt (e.trans hj)]
      · rw [if_neg hj, if_neg hj]
    · split
      · next he =>
        rw [fnd, fnd]
        by_cases hj : j = k
        · rw [if_pos hj, if_pos hj.symm]
        · rw [if_neg hj, if_neg fun e => hj e.symm, if_neg fun e => hj (e.symm.trans he)]
      · rw [fnd]
        by_cases hj : j = k
        · rw [if_pos hj, if_pos hj.symm]
        · rw [if_neg hj, if_neg fun e => hj e.symm]
theorem dropL_sa {l : List Pr} (k : ByteArray) (h : SA l) : SA (dropL l k) := h.sublist List.filter_sublist
theorem dropL_fnd (l : List Pr) (k j : ByteArray) : fnd (dropL l k) j = if j = k then none else fnd l j := by
  unfold dropL
  induction l with
  | nil => simp [fnd]
  | cons p l ih =>
    rw [List.filter_cons]
    by_cases hp : p.1 = k
    · rw [if_neg (by simp [hp]), ih, fnd]
      by_cases hj : j = k
      · rw [if_pos hj, if_pos hj]
      · rw [if_neg hj, if_neg hj, if_neg fun e => hj (e.symm.trans hp)]
    · rw [if_pos (by simp [hp]), fnd, ih, fnd]
      by_cases hj : j = k
      · rw [if_pos hj, if_pos hj, if_neg fun e => hp (e.trans hj)]
      · rw [if_neg hj, if_neg hj]
theorem put_drop {l : List Pr} (h : SA l) (k : ByteArray) (v : Int) : putL (dropL l k) k v = putL l k v :=
  sa_ext (putL_sa (dropL_sa k h)) (putL_sa h) fun j => by
    rw [putL_fnd j (dropL_sa k h), putL_fnd j h, dropL_fnd]
    by_cases hj : j = k
    · rw [if_pos hj, if_pos hj]
    · rw [if_neg hj, if_neg hj, if_neg hj]
/-- i is the place of a key. -/
structure PosAt (l : List Pr) (k : ByteArray) (i : Nat) : Prop where
  le : i ≤ l.length
  lo : ∀ j, j < i → sless (l.getD j (⟨#[]⟩, 0)).1 k = true
  hi : ∀ j, i ≤ j → j < l.length → sless (l.getD j (⟨#[]⟩, 0)).1 k = false
theorem PosAt.tl {p : Pr} {l : List Pr} {k : ByteArray} {i : Nat} (h : PosAt (p :: l) k (i + 1)) : sless p.1 k = true ∧ PosAt l k i :=
  ⟨h.lo 0 (by omega), ⟨by have := h.le; simp at this; omega, fun j hj => h.lo (j + 1) (by omega), fun j h1 h2 => h.hi (j + 1) (by omega) (by simp; omega)⟩⟩
theorem put_found {k : ByteArray} {v : Int} : ∀ {l : List Pr} {i : Nat}, PosAt l k i → i < l.length → (l.getD i (⟨#[]⟩, 0)).1 = k → putL l k v = l.set i ((l.getD i (⟨#[]⟩, 0)).1, v)
  | [], i, _, h, _ => by simp at h
  | p :: l, 0, h, _, he => by
    have he : p.1 = k := he
    have : sless p.1 k = false := by rw [he]; exact sless_irrefl k
    rw [putL, if_neg (by rw [this]; decide), if_pos he, List.set_cons_zero, ← he]
    rfl
  | p :: l, i + 1, h, hi, he => by
    rw [putL, if_pos h.tl.1, List.set_cons_succ, put_found h.tl.2 (by simp at hi; omega) he]
    rfl
theorem put_new {k : ByteArray} {v : Int} : ∀ {l : List Pr} {i : Nat}, PosAt l k i → ¬ (i < l.length ∧ (l.getD i (⟨#[]⟩, 0)).1 = k) → putL l k v = l.take i ++ (k, v) :: l.drop i
  | [], i, h, _ => by have := h.le; simp at this; subst this; rfl
  | p :: l, 0, h, hn => by
    have : sless p.1 k = false := h.hi 0 (Nat.le_refl _) (by simp)
    rw [putL, if_neg (by rw [this]; decide), if_neg fun e : p.1 = k => hn ⟨by simp, e⟩]
    rfl
  | p :: l, i + 1, h, hn => by
    rw [putL, if_pos h.tl.1, put_new h.tl.2 fun hh => hn ⟨by simp; omega, hh.2⟩]
    rfl
theorem drop_found {k : ByteArray} : ∀ {l : List Pr} {i : Nat}, SA l → PosAt l k i → i < l.length → (l.getD i (⟨#[]⟩, 0)).1 = k → dropL l k = l.take i ++ l.drop (i + 1)
  | [], i, _, _, h, _ => by simp at h
  | p :: l, 0, hs, h, _, he => by
    have he : p.1 = k := he
    have h' := List.pairwise_cons.1 hs
    unfold dropL
    rw [List.filter_cons, if_neg (by simp [he])]
    exact List.filter_eq_self.2 fun q hq => by simpa [← he] using (slt_ne (h'.1 q hq)).symm
  | p :: l, i + 1, hs, h, hi, he => by
    have := drop_found (List.pairwise_cons.1 hs).2 h.tl.2 (by simp at hi; omega) he
    unfold dropL at this ⊢
    rw [List.filter_cons, if_pos (by simpa using slt_ne h.tl.1), this]
    rfl
theorem not_found {k : ByteArray} : ∀ {l : List Pr} {i : Nat}, SA l → PosAt l k i → ¬ (i < l.length ∧ (l.getD i (⟨#[]⟩, 0)).1 = k) → ∀ p ∈ l, p.1 ≠ k
  | [], _, _, _, _ => by simp
  | p :: l, 0, hs, h, hn => by
    have h' := List.pairwise_cons.1 hs
    have h0 : sless p.1 k = false := h.hi 0 (Nat.le_refl _) (by simp)
    have hne : p.1 ≠ k := fun e => hn ⟨by simp, e⟩
    have hlt := sle_ne h0 (fun e => hne e.symm)
    intro q hq
    rcases List.mem_cons.1 hq with rfl | hq
    · exact hne
    · exact (slt_ne (sless_trans hlt (h'.1 q hq))).symm
  | p :: l, i + 1, hs, h, hn => by
    have := not_found (List.pairwise_cons.1 hs).2 h.tl.2 fun hh => hn ⟨by simp; omega, hh.2⟩
    intro q hq
    rcases List.mem_cons.1 hq with rfl | hq
    · exact slt_ne h.tl.1
    · exact this q hq
theorem drop_none {l : List Pr} {k : ByteArray} (h : ∀ p ∈ l, p.1 ≠ k) : dropL l k = l := List.filter_eq_self.2 fun q hq => by simpa using h q hq
theorem fnd_found {k : ByteArray} : ∀ {l : List Pr} {i : Nat}, PosAt l k i → i < l.length → (l.getD i (⟨#[]⟩, 0)).1 = k → fnd l k = some (l.getD i (⟨#[]⟩, 0)).2
  | [], i, _, h, _ => by simp at h
  | p :: l, 0, h, _, he => if_pos he
  | p :: l, i + 1, h, hi, he => (if_neg (slt_ne h.tl.1)).trans (fnd_found h.tl.2 (by simp at hi; omega) he)
theorem fnd_lt {k : ByteArray} : ∀ {l : List Pr} {v : Int}, fnd l k = some v → ∃ i, i < l.length ∧ (l.getD i (⟨#[]⟩, 0)).1 = k
  | [], _, h => by cases h
  | p :: l, v, h => by
    rw [fnd] at h
    split at h
    · next he => exact ⟨0, by simp, he⟩
    · obtain ⟨i, h1, h2⟩ := fnd_lt h
      exact ⟨i + 1, by simp; omega, h2⟩
/-- How many there are then. -/
theorem put_len {k : ByteArray} {v : Int} : ∀ {l : List Pr}, SA l → (putL l k v).length = if (fnd l k).isSome = true then l.length else l.length + 1
  | [], _ => rfl
  | p :: l, h => by
    have h' := List.pairwise_cons.1 h
    rw [putL]
    split
    · next hlt =>
      rw [List.length_cons, put_len h'.2, fnd, if_neg (slt_ne hlt)]
      split <;> rfl
    · next hlt =>
      split
      · next he => rw [fnd, if_pos he]; rfl
      · next hne =>
        have hkp : sless k p.1 = true := sle_ne (by simpa using hlt) (fun e => hne e.symm)
        rw [fnd, if_neg hne, fnd_none fun q hq => (slt_ne (sless_trans hkp (h'.1 q hq))).symm]
        rfl
theorem drop_len {k : ByteArray} : ∀ {l : List Pr}, SA l → (dropL l k).length = if (fnd l k).isSome = true then l.length - 1 else l.length
  | [], _ => rfl
  | p :: l, h => by
    have h' := List.pairwise_cons.1 h
    have ih := drop_len (k := k) h'.2
    unfold dropL at ih ⊢
    rw [List.filter_cons]
    by_cases hp : p.1 = k
    · have hn : ∀ q ∈ l, q.1 ≠ k := fun q hq => by rw [← hp]; exact (slt_ne (h'.1 q hq)).symm
      rw [if_neg (by simp [hp]), fnd, if_pos hp, List.filter_eq_self.2 fun q hq => by simpa using hn q hq]
      rfl
    · rw [if_pos (by simp [hp]), List.length_cons, ih, fnd, if_neg hp]
      split
      · next hs =>
        have : 1 ≤ l.length := by
          cases hf : fnd l k with
          | none => rw [hf] at hs; cases hs
          | some v => obtain ⟨i, hi, _⟩ := fnd_lt hf; omega
        rw [List.length_cons]; omega
      · rfl
/-- The list of the last value of each key. -/
def ofL (l : List Pr) : List Pr := l.foldl (fun acc p => putL acc p.1 p.2) []
theorem ofL_snoc (l : List Pr) (p : Pr) : ofL (l ++ [p]) = putL (ofL l) p.1 p.2 := by unfold ofL; rw [List.foldl_append]; rfl
def lastV (l : List Pr) (k : ByteArray) : Option Int := ((l.filter fun p => decide (p.1 = k)).getLast?).map (·.2)
theorem lastV_snoc (l : List Pr) (p : Pr) (k : ByteArray) : lastV (l ++ [p]) k = if k = p.1 then some p.2 else lastV l k := by
  unfold lastV
  rw [List.filter_append]
  by_cases h : p.1 = k
  · rw [if_pos h.symm]; simp [h]
  · rw [if_neg fun e => h e.symm]; simp [h]
theorem snoc_ind {α : Type} {Q : List α → Prop} (h0 : Q []) (h1 : ∀ l x, Q l → Q (l ++ [x])) (l : List α) : Q l := by
  have key : ∀ m : List α, Q m.reverse := fun m => by
    induction m with
    | nil => exact h0
    | cons x m ih => rw [List.reverse_cons]; exact h1 _ _ ih
  have := key l.reverse
  rwa [List.reverse_reverse] at this
theorem ofL_sa (l : List Pr) : SA (ofL l) := by
  induction l using snoc_ind with
  | h0 => exact List.Pairwise.nil
  | h1 l x ih => rw [ofL_snoc]; exact putL_sa ih
theorem ofL_fnd (l : List Pr) (k : ByteArray) : fnd (ofL l) k = lastV l k := by
  induction l using snoc_ind with
  | h0 => rfl
  | h1 l x ih => rw [ofL_snoc, putL_fnd k (ofL_sa l), lastV_snoc, ih]
theorem ofL_len (l : List Pr) : (ofL l).length ≤ l.length := by
  induction l using snoc_ind with
  | h0 => exact Nat.le_refl _
  | h1 l x ih =>
    rw [ofL_snoc, put_len (ofL_sa l), List.length_append, List.length_singleton]
    split <;> omega
/-- Of a valid list: it. -/
theorem ofL_self {l : List Pr} (h : SA l) : ofL l = l := by
  refine sa_ext (ofL_sa l) h fun k => ?_
  rw [ofL_fnd]
  induction l with
  | nil => rfl
  | cons p l ih =>
    have h' := List.pairwise_cons.1 h
    rw [fnd]
    by_cases hp : p.1 = k
    · rw [if_pos hp]
      unfold lastV
      rw [List.filter_cons, if_pos (by simp [hp]), List.filter_eq_nil_iff.2 fun q hq => by rw [← hp]; simpa using (slt_ne (h'.1 q hq)).symm]
      rfl
    · rw [if_neg hp, ← ih h'.2]
      unfold lastV
      rw [List.filter_cons, if_neg (by simp [hp])]
/-! ### Sorting -/
/-- Weakly ascending. -/
def WS (l : List Pr) : Prop := l.Pairwise fun p q => sless q.1 p.1 = false
/-- The same pairs, those of one key in one order. -/
def Stb (l m : List Pr) : Prop := ∀ k : ByteArray, l.filter (fun p => decide (p.1 = k)) = m.filter fun p => decide (p.1 = k)
theorem Stb.rfl {l : List Pr} : Stb l l := fun _ => .refl _
theorem Stb.trans {l m n : List Pr} (h : Stb l m) (h2 : Stb m n) : Stb l n := fun k => (h k).trans (h2 k)
theorem Stb.symm {l m : List Pr} (h : Stb l m) : Stb m l := fun k => (h k).symm
theorem Stb.app {a b c d : List Pr} (h : Stb a b) (h2 : Stb c d) : Stb (a ++ c) (b ++ d) := fun k => by rw [List.filter_append, List.filter_append, h k, h2 k]
theorem Stb.last {l m : List Pr} (h : Stb l m) (k : ByteArray) : lastV l k = lastV m k := by unfold lastV; rw [h k]
theorem Stb.mem {l m : List Pr} (h : Stb l m) {p : Pr} (hp : p ∈ l) : p ∈ m := by
  have : p ∈ m.filter fun q => decide (q.1 = p.1) := by rw [← h p.1]; exact List.mem_filter.2 ⟨hp, by simp⟩
  exact (List.mem_filter.1 this).1
/-- Lists of which all of one are less than all of the other may be exchanged. -/
theorem stb_swap {l m : List Pr} (h : ∀ p ∈ l, ∀ q ∈ m, p.1 ≠ q.1) : Stb (l ++ m) (m ++ l) := fun k => by
  rw [List.filter_append, List.filter_append]
  by_cases hl : ∃ p ∈ l, p.1 = k
  · obtain ⟨p, hp, rfl⟩ := hl
    have e : m.filter (fun q => decide (q.1 = p.1)) = [] := List.filter_eq_nil_iff.2 fun q hq => by simpa using (h p hp q hq).symm
    rw [e, List.append_nil, List.nil_append]
  · have e : l.filter (fun q => decide (q.1 = k)) = [] := List.filter_eq_nil_iff.2 fun p hp => by simpa using fun e => hl ⟨p, hp, e⟩
    rw [e, List.append_nil, List.nil_append]
/-- The last of each run. -/
def lastsL : List Pr → List Pr
  | [] => []
  | [p] => [p]
  | p :: q :: l => if q.1 = p.1 then lastsL (q :: l) else p :: lastsL (q :: l)
theorem lasts_mem : ∀ {l : List Pr} {x : Pr}, x ∈ lastsL l → x ∈ l
  | [], _, h => h
  | [_], _, h => h
  | p :: q :: l, x, h => by
    rw [lastsL] at h
    split at h
    · exact .tail _ (lasts_mem h)
    · rcases List.mem_cons.1 h with rfl | h
      · exact .head _
      · exact .tail _ (lasts_mem h)
theorem lasts_sa : ∀ {l : List Pr}, WS l → SA (lastsL l)
  | [], _ => List.Pairwise.nil
  | [_], _ => List.pairwise_singleton _ _
  | p :: q :: l, h => by
    have h' := List.pairwise_cons.1 h
    have ih := lasts_sa h'.2
    have h2 := List.pairwise_cons.1 h'.2
    rw [lastsL]
    split
    · exact ih
    · next hne =>
      have hpq := sle_ne (h'.1 q (.head _)) (fun e => hne e.symm)
      refine List.pairwise_cons.2 ⟨fun x hx => ?_, ih⟩
      rcases List.mem_cons.1 (lasts_mem hx) with rfl | hx
      · exact hpq
      · exact slt_le hpq (h2.1 x hx)
theorem lasts_fnd : ∀ {l : List Pr}, WS l → ∀ k, fnd (lastsL l) k = lastV l k
  | [], _, _ => rfl
  | [p], _, k => by
    rw [lastsL, fnd, show [p] = [] ++ [p] from rfl, lastV_snoc, show lastV [] k = none from rfl, fnd]
    by_cases h : p.1 = k
    · rw [if_pos h, if_pos h.symm]
    · rw [if_neg h, if_neg fun e => h e.symm]
  | p :: q :: l, h, k => by
    have h' := List.pairwise_cons.1 h
    have ih := lasts_fnd h'.2 k
    have h2 := List.pairwise_cons.1 h'.2
    rw [lastsL]
    split
    · next he =>
      rw [ih]
      unfold lastV
      rw [List.filter_cons (x := p)]
      by_cases hp : p.1 = k
      · rw [if_pos (by simp [hp]), List.filter_cons, if_pos (by simp [he, hp]), List.getLast?_cons_cons]
      · rw [if_neg (by simp [hp])]
    · next hne =>
      rw [fnd, ih]
      have hpq := sle_ne (h'.1 q (.head _)) (fun e => hne e.symm)
      by_cases hp : p.1 = k
      · rw [if_pos hp]
        unfold lastV
        rw [List.filter_cons, if_pos (by simp [hp]), List.filter_eq_nil_iff.2 fun x hx => by
          rw [← hp]
          rcases List.mem_cons.1 hx with rfl | hx
          · simpa using (slt_ne hpq).symm
          · simpa using (slt_ne (slt_le hpq (h2.1 x hx))).symm]
        rfl
      · rw [if_neg hp]
        unfold lastV
        rw [List.filter_cons (x := p), if_neg (by simp [hp])]
theorem lasts_of {l m : List Pr} (h : WS m) (hs : Stb m l) : lastsL m = ofL l :=
  sa_ext (lasts_sa h) (ofL_sa l) fun k => by rw [lasts_fnd h, ofL_fnd, hs.last]
end Go.Proofs.Ytpfjjagcmjmfpaa

/- Pairs: comparing, searching; Find, Put, Drop. -/
set_option linter.unusedSimpArgs false
set_option linter.unusedVariables false
namespace Go.Ct
open Go Go.RowKit
variable {P : Program} {S : List (Nat × Value)} {w0 w : World} {M : List Nat} {H : List (Nat × Obj)} {A F : Fr} {O : List Ow}
/-- The comparison of two strings. -/
def cmpS (a b : ByteArray) : Int := Lib.compareBytes a.data.toList b.data.toList
theorem cb_lt : ∀ a b : List UInt8, Lib.compareBytes a b < 0 ↔ Op.bytesLess a b = true
  | [], [] => by simp [Lib.compareBytes, Op.bytesLess]
  | [], _ :: _ => by simp [Lib.compareBytes, Op.bytesLess]
  | _ :: _, [] => by simp [Lib.compareBytes, Op.bytesLess]
  | x :: a, y :: b => by
    have ih := cb_lt a b
    simp only [Lib.compareBytes, Op.bytesLess]
    by_cases h : x < y
    · simp [h]
    · by_cases h2 : y < x
      · have : x ≠ y := fun e => by subst e; exact h h2
        simp [h, h2, this]
      · have : x = y := UInt8.le_antisymm (UInt8.not_lt.1 h2) (UInt8.not_lt.1 h)
        subst this
        simpa [h] using ih
theorem cb_eq : ∀ a b : List UInt8, Lib.compareBytes a b = 0 ↔ a = b
  | [], [] => by simp [Lib.compareBytes]
  | [], _ :: _ => by simp [Lib.compareBytes]
  | _ :: _, [] => by simp [Lib.compareBytes]
  | x :: a, y :: b => by
    have ih := cb_eq a b
    simp only [Lib.compareBytes]
    by_cases h : x < y
    · have : x ≠ y := fun e => by subst e; exact absurd h (UInt8.lt_irrefl _)
      simp [h, this]
    · by_cases h2 : y < x
      · have : x ≠ y := fun e => by subst e; exact h h2
        simp [h, h2, this]
      · have : x = y := UInt8.le_antisymm (UInt8.not_lt.1 h2) (UInt8.not_lt.1 h)
        subst this
        simpa [h] using ih
theorem cb_rng : ∀ a b : List UInt8, -1 ≤ Lib.compareBytes a b ∧ Lib.compareBytes a b ≤ 1
  | [], [] => by simp [Lib.compareBytes]
  | [], _ :: _ => by simp [Lib.compareBytes]
  | _ :: _, [] => by simp [Lib.compareBytes]
  | x :: a, y :: b => by
    have ih := cb_rng a b
    simp only [Lib.compareBytes]
    split
    · omega
    · split
      · omega
      · exact ih
theorem cmpS_lt {a b : ByteArray} : cmpS a b < 0 ↔ sless a b = true := by
  unfold cmpS sless
  rw [ByteArray.toList_eq, ByteArray.toList_eq]
  exact cb_lt _ _
theorem cmpS_ge {a b : ByteArray} : ¬ cmpS a b < 0 ↔ sless a b = false := by
  rw [cmpS_lt]; simp
theorem cmpS_eq {a b : ByteArray} : cmpS a b = 0 ↔ a = b := by
  unfold cmpS
  rw [cb_eq]
  exact ⟨fun h => toList_inj (by rw [ByteArray.toList_eq, ByteArray.toList_eq]; exact h), fun h => by rw [h]⟩
theorem run_callV {x : Operand} {f : FuncId} {os : List Operand} {at_ : Array TypeId} {vs : List Value} {d : Option Nat} {ty : TypeId} {pos : String} {af : Array Edge} {gd : Option (Nat × Bool)} (hx : ev S x = .func (.func f) #[] #[]) (hp : plain P f = true) (ha : evL S os = vs) (w : World) :
    (execOp (ev S) ⟨d, .call { callee := .value x, args := ⟨os⟩, argTypes := at_ }, ty, pos, af, gd⟩).run P w = .ok (.enter f ⟨vs⟩) w := by
  subst ha
  have hm : (os.map (ev S)).toArray = ⟨evL S os⟩ := by rw [evL_map]
  simp [execOp, resolve, hx, Deferred.ofValue, invoke, run_callFunc hp, hm]
/-- A call of a function value by a contract. -/
theorem cSFd {v : Value} {x : Operand} {f : FuncId} {xs : List Operand} {at_ : Array TypeId} {vs : List Value} {dst : Option Nat} {ty : TypeId} {pos : String} {af : Array Edge} {gd : Option (Nat × Bool)} (hx : ev S x = .func (.func f) #[] #[]) (hp : plain P f = true) (ha : evL S xs = vs)
    (hc : ∀ w, SF w0 M H A F O w → Calls P f ⟨vs⟩ w fun e w' => e = .returned v ∧ St w [] [] w') :
    Loud P S (SF w0 M H A F O) ⟨dst, .call { callee := .value x, args := ⟨xs⟩, argTypes := at_ }, ty, pos, af, gd⟩ Unit (fun _ => v) (fun _ => SF w0 M H A F O) :=
  loud_call (run_callV hx hp ha) fun w hw => (hc w hw).mono fun _ _ ⟨he, hs⟩ => ⟨(), he, by simpa using hw.call (SF.ofSt hs)⟩
theorem o_half {G : World → Prop} {d : Nat} {ty t t' : TypeId} {pos : String} {af : Array Edge} {gd : Option (Nat × Bool)} {x y : Operand} {a : Int} {n : Nat} (hx : ev S x = .int .u64 a) (hy : ev S y = .int .u64 1) (h : a = (n : Int)) :
    Quiet P S G ⟨some d, .binOp .shr t x y t', ty, pos, af, gd⟩ (.int .u64 ((n / 2 : Nat) : Int)) := by
  have := o_shr (P := P) (G := G) (d := d) (ty := ty) (pos := pos) (af := af) (gd := gd) (t := t) (t' := t') hx hy (by decide)
  rw [show rShr .u64 a 1 = ((n / 2 : Nat) : Int) by
    rw [h]; unfold rShr
    show (n : Int).fdiv 2 = _
    rw [Int.fdiv_eq_ediv_of_nonneg _ (by decide)]; rfl] at this
  exact this
theorem o_extr {G : World → Prop} {d : Nat} {ty : TypeId} {pos : String} {af : Array Edge} {gd : Option (Nat × Bool)} {x : Operand} {vs : List Value} {k : Nat} {v : Value} (hx : ev S x = .tuple ⟨vs⟩) (hk : vs[k]? = some v) : Quiet P S G ⟨some d, .extract x k, ty, pos, af, gd⟩ v := ⟨fun w _ => by
  simp [execOp, hx, Instr.extract, hk]⟩
/-- A value, where a fact is at hand. -/
@[reducible] def lfst {p : Prop} {α : Type} (_ : p) (a : α) : α := a
end Go.Ct
namespace Go.Proofs.Ytpfjjagcmjmfpaa
open Go.RowKit Go.Ct
theorem o_cmpStr {S : List (Nat × Value)} {G : World → Prop} {d : Nat} {ty : TypeId} {pos : String} {af : Array Edge} {gd : Option (Nat × Bool)} {x y : Operand} {t t' : TypeId} {a b : ByteArray} (hx : ev S x = .string a) (hy : ev S y = .string b) :
    Quiet Try.prog S G ⟨some d, .call { callee := .value (.func 77), args := #[x, y], argTypes := #[t, t'] }, ty, pos, af, gd⟩ (.int .i64 (cmpS a b)) := ⟨fun w _ => by
  have := run_callFunc_extern (P := Try.prog) (f := 77) Try.func77 (by kernel_rfl) (by kernel_rfl) (by kernel_rfl) (e := Extern.BytealgCompare.compare) (by kernel_rfl) #[.string a, .string b] w
  rw [Lib.run_compareString] at this
  simp only [execOp, resolve, ev, Deferred.ofValue, invoke]
  simp [hx, hy, this, Result.andThen, cmpS]⟩
theorem cmpStr_c (a b : ByteArray) (w : World) : Calls Try.prog 71 #[.string a, .string b] w fun e w' => e = .returned (.int .i64 (cmpS a b)) ∧ St w [] [] w' := by
  refine enter Try.func71 Try.ntmps71 rfl rfl (SF.s0 w) ?_
  simp only [mkS]
  all_goals (refine k_seq ?_; refine k_region ?_; refine j_assignL (fun _ => ?_); refine l_nil ?_; refine k_seq ?_; refine k_region ?_; refine j_move ?_; refine j_move ?_; (refine j_own (loud_of_quiet (o_cmpStr (by exact rfl) (by exact rfl))) (fun x7 => ?_); try (refine l_fact (fun h7 => ?_))); refine j_assignL (fun _ => ?_); refine l_nil ?_)
  all_goals
   refine k_rv Try.results71 (fun w hw => ?_)
   exact ⟨rfl, hw.done⟩
theorem strCmp_c (a b : ByteArray) (w : World) : Calls Try.prog 60 #[.string a, .string b] w fun e w' => e = .returned (.int .i64 (cmpS a b)) ∧ St w [] [] w' := by
  refine enter Try.func60 Try.ntmps60 rfl rfl (SF.s0 w) ?_
  simp only [mkS]
  all_goals (refine k_seq ?_; refine k_region ?_; refine j_assignL (fun _ => ?_); refine l_nil ?_; refine k_seq ?_; refine k_region ?_; refine j_move ?_; refine j_move ?_; (refine j_own (cV (hc := fun w1 hw => cmpStr_c a b w1)) (fun x7 => ?_); try (refine l_fact (fun h7 => ?_))); refine j_assignL (fun _ => ?_); refine l_nil ?_)
  all_goals
   refine k_rv Try.results60 (fun w hw => ?_)
   exact ⟨rfl, hw.done⟩
/-- A call of a function value. -/
theorem cVd {S : List (Nat × Value)} {w0 : World} {M : List Nat} {H : List (Nat × Obj)} {A F : Fr} {O : List Ow} {v : Value} {x : Operand} {f : FuncId} {xs : List Operand} {at_ : Array TypeId} {vs : List Value} {dst : Option Nat} {ty : TypeId} {pos : String} {af : Array Edge} {gd : Option (Nat × Bool)} (hx : ev S x = .func (.func f) #[] #[])
    (ha : evL S xs = vs) (hp : plain Try.prog f = true) 
    (hc : ∀ w, SF w0 M H A F O w → Calls Try.prog f ⟨vs⟩ w fun e w' => e = .returned v ∧ St w [] [] w') :
    Loud Try.prog S (SF w0 M H A F O) ⟨dst, .call { callee := .value x, args := ⟨xs⟩, argTypes := at_ }, ty, pos, af, gd⟩ Unit (fun _ => v) (fun _ => SF w0 M H A F O) := cSFd hx hp ha hc
theorem bs_up {l : List Pr} {k : ByteArray} {h : Nat} (hs : SA l) (hh : h < l.length) (hc : sless (l.getD h (⟨#[]⟩, 0)).1 k = true) (j : Nat) (hj : j < h + 1) : sless (l.getD j (⟨#[]⟩, 0)).1 k = true := by
  rcases Nat.lt_succ_iff_lt_or_eq.1 hj with h1 | rfl
  · have := List.pairwise_iff_getElem.1 hs j h (by omega) hh h1
    rw [← getD_get, ← getD_get] at this
    exact sless_trans this hc
  · exact hc
theorem bs_dn {l : List Pr} {k : ByteArray} {h : Nat} (hs : SA l) (hc : sless (l.getD h (⟨#[]⟩, 0)).1 k = false) (j : Nat) (h1 : h ≤ j) (hj : j < l.length) : sless (l.getD j (⟨#[]⟩, 0)).1 k = false := by
  rcases Nat.lt_or_eq_of_le h1 with h2 | rfl
  · have := List.pairwise_iff_getElem.1 hs h j (by omega) hj h2
    rw [← getD_get, ← getD_get] at this
    exact sle_le hc (sless_asymm this)
  · exact hc
end Go.Proofs.Ytpfjjagcmjmfpaa

/- Sorting: the plain laws. -/
set_option linter.unusedSimpArgs false
set_option linter.unusedVariables false
namespace Go.Proofs.Ytpfjjagcmjmfpaa
open Go.RowKit Go.Ct
abbrev dP : Pr := (⟨#[]⟩, 0)
/-- Two places exchanged. -/
def sw (ys : List Pr) (i j : Nat) : List Pr := (ys.set i (ys.getD j (⟨#[]⟩, 0))).set j (ys.getD i (⟨#[]⟩, 0))
theorem sw_len (ys : List Pr) (i j : Nat) : (sw ys i j).length = ys.length := by simp [sw]
theorem sw_comm (ys : List Pr) {i j : Nat} (h : i ≠ j) : sw ys i j = sw ys j i := List.set_comm _ _ h
theorem getD_set {ys : List Pr} {i t : Nat} {v : Pr} (hi : i < ys.length) : (ys.set i v).getD t (⟨#[]⟩, 0) = if t = i then v else ys.getD t (⟨#[]⟩, 0) := by
  simp only [List.getD, List.getElem?_set]
  by_cases h : t = i
  · subst h; simp [hi]
  · rw [if_neg h, if_neg fun e => h e.symm]
theorem sw_get {ys : List Pr} {i j : Nat} (hi : i < ys.length) (hj : j < ys.length) (t : Nat) : (sw ys i j).getD t (⟨#[]⟩, 0) = if t = j then ys.getD i (⟨#[]⟩, 0) else if t = i then ys.getD j (⟨#[]⟩, 0) else ys.getD t (⟨#[]⟩, 0) := by
  unfold sw
  rw [getD_set (by rw [List.length_set]; exact hj), getD_set hi]
theorem sw_app (P M Q : List Pr) (x y : Pr) {i j : Nat} (hi : i = P.length) (hj : j = P.length + 1 + M.length) : sw (P ++ x :: (M ++ y :: Q)) i j = P ++ y :: (M ++ x :: Q) := by
  subst hi hj
  have e1 : (P ++ x :: (M ++ y :: Q)).getD P.length (⟨#[]⟩, 0) = x := by simp [List.getD]
  have e2 : (P ++ x :: (M ++ y :: Q)).getD (P.length + 1 + M.length) (⟨#[]⟩, 0) = y := by
    rw [show P ++ x :: (M ++ y :: Q) = (P ++ x :: M) ++ y :: Q by simp, show P.length + 1 + M.length = (P ++ x :: M).length by simp; omega]
    simp [List.getD]
  unfold sw
  rw [e1, e2, List.set_append_right _ _ (Nat.le_refl _), Nat.sub_self, List.set_cons_zero]
  rw [List.set_append_right _ _ (by omega), show P.length + 1 + M.length - P.length = M.length + 1 by omega, List.set_cons_succ, List.set_append_right _ _ (Nat.le_refl _), Nat.sub_self, List.set_cons_zero]
/-- The same outside, the same pairs, those of one key in one order. -/
structure Sg (a b : Nat) (zs ys : List Pr) : Prop where
  len : zs.length = ys.length
  lo : zs.take a = ys.take a
  hi : zs.drop b = ys.drop b
  stb : Stb zs ys
theorem Sg.rfl {a b : Nat} {ys : List Pr} : Sg a b ys ys := ⟨.refl _, .refl _, .refl _, Stb.rfl⟩
theorem Sg.trans {a b : Nat} {xs ys zs : List Pr} (h : Sg a b xs ys) (h2 : Sg a b ys zs) : Sg a b xs zs := ⟨h.len.trans h2.len, h.lo.trans h2.lo, h.hi.trans h2.hi, h.stb.trans h2.stb⟩
theorem Sg.wide {a b a' b' : Nat} {zs ys : List Pr} (h : Sg a b zs ys) (ha : a' ≤ a) (hb : b ≤ b') : Sg a' b' zs ys :=
  ⟨h.len, by have := congrArg (List.take a') h.lo; rwa [List.take_take, List.take_take, Nat.min_eq_left ha] at this, by
    have := congrArg (List.drop (b' - b)) h.hi
    rwa [List.drop_drop, List.drop_drop, show b + (b' - b) = b' by omega] at this, h.stb⟩
theorem Sg.get_lo {a b t : Nat} {zs ys : List Pr} (h : Sg a b zs ys) (ht : t < a) : zs.getD t (⟨#[]⟩, 0) = ys.getD t (⟨#[]⟩, 0) := by
  have := congrArg (fun l => l.getD t (⟨#[]⟩, 0)) h.lo
  simpa [List.getD, List.getElem?_take, ht] using this
theorem Sg.get_hi {a b t : Nat} {zs ys : List Pr} (h : Sg a b zs ys) (ht : b ≤ t) : zs.getD t (⟨#[]⟩, 0) = ys.getD t (⟨#[]⟩, 0) := by
  have := congrArg (fun l => l.getD (t - b) (⟨#[]⟩, 0)) h.hi
  simpa [List.getD, List.getElem?_drop, show b + (t - b) = t by omega] using this
/-- Ascending between two places. -/
def SR (ys : List Pr) (a b : Nat) : Prop := ∀ i j, a ≤ i → i < j → j < b → sless (ys.getD j (⟨#[]⟩, 0)).1 (ys.getD i (⟨#[]⟩, 0)).1 = false
theorem SR.ws {ys : List Pr} (h : SR ys 0 ys.length) : WS ys := List.pairwise_iff_getElem.2 fun i j hi hj hij => by
  have := h i j (Nat.zero_le _) hij hj
  rwa [getD_get hi, getD_get hj] at this
theorem SR.nar {ys : List Pr} {a b a' b' : Nat} (h : SR ys a b) (ha : a ≤ a') (hb : b' ≤ b) : SR ys a' b' := fun i j h1 h2 h3 => h i j (by omega) h2 (by omega)
/-- The segment holds the same. -/
theorem Sg.seg {a b : Nat} {zs ys : List Pr} (h : Sg a b zs ys) (hab : a ≤ b) : Stb ((zs.take b).drop a) ((ys.take b).drop a) := by
  have dec : ∀ l : List Pr, l = l.take a ++ ((l.take b).drop a ++ l.drop b) := fun l => by
    conv => lhs; rw [← List.take_append_drop b l]
    conv => lhs; arg 1; rw [← List.take_append_drop a (l.take b)]
    rw [List.take_take, Nat.min_eq_left hab, List.append_assoc]
  intro k
  have := h.stb k
  rw [dec zs, dec ys, h.lo, h.hi] at this
  simp only [List.filter_append] at this
  exact List.append_cancel_right (List.append_cancel_left this)
theorem seg_mem {ys : List Pr} {a b : Nat} {p : Pr} : p ∈ (ys.take b).drop a ↔ ∃ t, a ≤ t ∧ t < b ∧ t < ys.length ∧ ys.getD t (⟨#[]⟩, 0) = p := by
  constructor
  · intro h
    obtain ⟨t, ht, rfl⟩ := List.getElem_of_mem h
    rw [List.length_drop, List.length_take] at ht
    refine ⟨a + t, by omega, by omega, by omega, ?_⟩
    rw [getD_get (by omega), List.getElem_drop, List.getElem_take]
  · rintro ⟨t, h1, h2, h3, rfl⟩
    rw [getD_get h3]
    have : (ys.take b).drop a = (ys.take b).drop a := .refl _
    refine List.mem_iff_getElem.2 ⟨t - a, by rw [List.length_drop, List.length_take]; omega, ?_⟩
    rw [List.getElem_drop, List.getElem_take]
    congr 1
    omega
/-- What is said of all of a segment stays true. -/
theorem Sg.all {a b : Nat} {zs ys : List Pr} (h : Sg a b zs ys) (hab : a ≤ b) {φ : Pr → Prop} (hp : ∀ t, a ≤ t → t < b → t < ys.length → φ (ys.getD t (⟨#[]⟩, 0))) (t : Nat) (h1 : a ≤ t) (h2 : t < b) (h3 : t < zs.length) : φ (zs.getD t (⟨#[]⟩, 0)) := by
  obtain ⟨s, s1, s2, s3, s4⟩ := seg_mem.1 ((h.seg hab).mem (seg_mem.2 ⟨t, h1, h2, h3, .refl _⟩))
  rw [← s4]
  exact hp s s1 s2 s3
theorem split2 {ys : List Pr} {k : Nat} (h : k + 1 < ys.length) : ys = ys.take k ++ ys.getD k (⟨#[]⟩, 0) :: ([] ++ ys.getD (k + 1) (⟨#[]⟩, 0) :: ys.drop (k + 2)) := by
  conv => lhs; rw [← List.take_append_drop k ys]
  rw [List.drop_eq_getElem_cons (by omega), List.drop_eq_getElem_cons h, getD_get (by omega), getD_get h]
  rfl
theorem sw_adj {ys : List Pr} {k : Nat} (h : k + 1 < ys.length) : sw ys k (k + 1) = ys.take k ++ ys.getD (k + 1) (⟨#[]⟩, 0) :: ([] ++ ys.getD k (⟨#[]⟩, 0) :: ys.drop (k + 2)) := by
  conv => lhs; rw [split2 h]
  exact sw_app _ _ _ _ _ (by rw [List.length_take]; omega) (by rw [List.length_take]; simp; omega)
theorem sg_of {ys zs P X Y Q : List Pr} {a b : Nat} (e : ys = P ++ (X ++ Q)) (e2 : zs = P ++ (Y ++ Q)) (hl : Y.length = X.length) (hs : Stb Y X) (ha : a ≤ P.length) (hb : P.length + X.length ≤ b) : Sg a b zs ys := by
  subst e e2
  refine ⟨by simp [hl], by rw [List.take_append_of_le_length ha, List.take_append_of_le_length ha], ?_, Stb.rfl.app (hs.app Stb.rfl)⟩
  obtain ⟨d, rfl⟩ := Nat.exists_eq_add_of_le hb
  rw [show P.length + X.length + d = P.length + (X.length + d) by omega, List.drop_append, List.drop_append, List.drop_append, List.drop_append]
  simp only [List.drop_eq_nil_of_le (show P.length ≤ P.length + (X.length + d) by omega), Nat.add_sub_cancel_left, List.nil_append]
  rw [List.drop_eq_nil_of_le (show X.length ≤ X.length + d by omega), List.drop_eq_nil_of_le (show Y.length ≤ X.length + d by omega), hl, Nat.add_sub_cancel_left]
theorem sw_sg {ys : List Pr} {k a b : Nat} (h : k + 1 < ys.length) (ha : a ≤ k) (hb : k + 2 ≤ b) (hn : (ys.getD (k + 1) (⟨#[]⟩, 0)).1 ≠ (ys.getD k (⟨#[]⟩, 0)).1) : Sg a b (sw ys k (k + 1)) ys :=
  sg_of (P := ys.take k) (X := [ys.getD k (⟨#[]⟩, 0), ys.getD (k + 1) (⟨#[]⟩, 0)]) (Y := [ys.getD (k + 1) (⟨#[]⟩, 0), ys.getD k (⟨#[]⟩, 0)]) (Q := ys.drop (k + 2)) (split2 h) (sw_adj h) (.refl _)
    (stb_swap (l := [ys.getD (k + 1) (⟨#[]⟩, 0)]) (m := [ys.getD k (⟨#[]⟩, 0)]) fun p hp q hq => by rw [List.mem_singleton.1 hp, List.mem_singleton.1 hq]; exact hn)
    (by rw [List.length_take]; omega) (by rw [List.length_take]; simp; omega)
/-! ### Insertion -/
def insJ (a : Nat) : Nat → List Pr → List Pr
  | 0, ys => ys
  | j + 1, ys => if a < j + 1 ∧ sless (ys.getD (j + 1) (⟨#[]⟩, 0)).1 (ys.getD j (⟨#[]⟩, 0)).1 = true then insJ a j (sw ys (j + 1) j) else ys
def insI (a : Nat) : Nat → Nat → List Pr → List Pr
  | _, 0, ys => ys
  | i, n + 1, ys => insI a (i + 1) n (insJ a i ys)
theorem insJ_said {a i : Nat} : ∀ {j : Nat} {ys : List Pr}, a ≤ j → j ≤ i → i < ys.length → (∀ p q, a ≤ p → p < q → q ≤ i → p ≠ j → q ≠ j → sless (ys.getD q (⟨#[]⟩, 0)).1 (ys.getD p (⟨#[]⟩, 0)).1 = false) →
    (∀ q, j < q → q ≤ i → sless (ys.getD j (⟨#[]⟩, 0)).1 (ys.getD q (⟨#[]⟩, 0)).1 = true) → SR (insJ a j ys) a (i + 1) ∧ Sg a (i + 1) (insJ a j ys) ys := by
  intro j
  induction j with
  | zero =>
    intro ys h1 h2 h3 h4 h5
    refine ⟨fun p q p1 p2 p3 => ?_, Sg.rfl⟩
    by_cases hp : p = 0
    · subst hp; exact sless_asymm (h5 q p2 (by omega))
    · exact h4 p q p1 p2 (by omega) hp (by omega)
  | succ j ih =>
    intro ys h1 h2 h3 h4 h5
    rw [insJ]
    split
    · next hc =>
      obtain ⟨c1, c2⟩ := hc
      have g := sw_get (ys := ys) (i := j + 1) (j := j) (by omega) (by omega)
      have gj : (sw ys (j + 1) j).getD j (⟨#[]⟩, 0) = ys.getD (j + 1) (⟨#[]⟩, 0) := by rw [g, if_pos rfl]
      have gj1 : (sw ys (j + 1) j).getD (j + 1) (⟨#[]⟩, 0) = ys.getD j (⟨#[]⟩, 0) := by rw [g, if_neg (by omega), if_pos rfl]
      have go : ∀ t, t ≠ j → t ≠ j + 1 → (sw ys (j + 1) j).getD t (⟨#[]⟩, 0) = ys.getD t (⟨#[]⟩, 0) := fun t t1 t2 => by rw [g, if_neg t1, if_neg t2]
      have key := ih (ys := sw ys (j + 1) j) (by omega) (by omega) (by rw [sw_len]; exact h3) (fun p q p1 p2 p3 p4 p5 => by
        by_cases hq : q = j + 1
        · subst hq
          rw [gj1, go p p4 (by omega)]
          exact h4 p j p1 (by omega) (by omega) (by omega) (by omega)
        · by_cases hp : p = j + 1
          · subst hp
            rw [gj1, go q p5 hq]
            exact h4 j q (by omega) (by omega) p3 (by omega) hq
          · rw [go p p4 hp, go q p5 hq]
            exact h4 p q p1 p2 p3 hp hq) (fun q q1 q2 => by
        rw [gj]
        by_cases hq : q = j + 1
        · subst hq; rw [gj1]; exact c2
        · rw [go q (by omega) hq]; exact h5 q (by omega) q2)
      have hsg : Sg a (i + 1) (sw ys (j + 1) j) ys := by
        rw [sw_comm ys (by omega)]
        exact sw_sg (by omega) (by omega) (by omega) (slt_ne c2)
      exact ⟨key.1, key.2.trans hsg⟩
    · next hc =>
      refine ⟨fun p q p1 p2 p3 => ?_, Sg.rfl⟩
      by_cases hq : q = j + 1
      · subst hq
        have h0 : sless (ys.getD (j + 1) (⟨#[]⟩, 0)).1 (ys.getD j (⟨#[]⟩, 0)).1 = false := by
          cases hb : sless (ys.getD (j + 1) (⟨#[]⟩, 0)).1 (ys.getD j (⟨#[]⟩, 0)).1 with
          | false => rfl
          | true => exact absurd ⟨by omega, hb⟩ hc
        by_cases hpj : p = j
        · subst hpj; exact h0
        · exact sle_le (h4 p j p1 (by omega) (by omega) (by omega) (by omega)) h0
      · by_cases hp : p = j + 1
        · subst hp; exact sless_asymm (h5 q p2 (by omega))
        · exact h4 p q p1 p2 (by omega) hp hq
theorem insI_said {a : Nat} : ∀ {n i : Nat} {ys : List Pr}, a ≤ i → i + n ≤ ys.length → SR ys a i → SR (insI a i n ys) a (i + n) ∧ Sg a (i + n) (insI a i n ys) ys
  | 0, _, _, _, _, h => ⟨h, Sg.rfl⟩
  | n + 1, i, ys, h1, h2, h => by
    have k := insJ_said (a := a) (i := i) (j := i) (ys := ys) h1 (Nat.le_refl _) (by omega) (fun p q p1 p2 p3 p4 p5 => h p q p1 p2 (by omega)) (fun q q1 q2 => by omega)
    have k2 := insI_said (a := a) (n := n) (i := i + 1) (ys := insJ a i ys) (by omega) (by rw [k.2.len]; omega) k.1
    rw [insI, show i + (n + 1) = i + 1 + n by omega]
    exact ⟨k2.1, k2.2.trans (k.2.wide (Nat.le_refl _) (by omega))⟩
theorem insJ_len {a : Nat} : ∀ (j : Nat) (ys : List Pr), (insJ a j ys).length = ys.length
  | 0, _ => rfl
  | j + 1, ys => by
    rw [insJ]; split
    · rw [insJ_len j, sw_len]
    · rfl
theorem insI_len {a : Nat} : ∀ (n i : Nat) (ys : List Pr), (insI a i n ys).length = ys.length
  | 0, _, _ => rfl
  | n + 1, i, ys => by rw [insI, insI_len n, insJ_len]
/-! ### Exchanging ranges; turning -/
def swapL (ys : List Pr) (a b : Nat) : Nat → List Pr
  | 0 => ys
  | n + 1 => sw (swapL ys a b n) (a + n) (b + n)
theorem swapL_len (ys : List Pr) (a b : Nat) : ∀ n, (swapL ys a b n).length = ys.length
  | 0 => rfl
  | n + 1 => by rw [swapL, sw_len, swapL_len ys a b n]
theorem snoc_of {α : Type} {l : List α} {n : Nat} (h : l.length = n + 1) : ∃ l' x, l = l' ++ [x] ∧ l'.length = n := by
  refine ⟨l.take n, l[n], ?_, by rw [List.length_take]; omega⟩
  conv => lhs; rw [← List.take_append_drop n l]
  congr 1
  rw [List.drop_eq_getElem_cons (by omega), List.drop_eq_nil_of_le (by omega)]
theorem swapL_app (P : List Pr) : ∀ {n : Nat} {X Y M Q : List Pr} {a b : Nat}, P.length = a → X.length = n → Y.length = n → P.length + X.length + M.length = b → swapL (P ++ (X ++ (M ++ (Y ++ Q)))) a b n = P ++ (Y ++ (M ++ (X ++ Q)))
  | 0, X, Y, M, Q, _, _, _, h2, h3, _ => by rw [List.eq_nil_of_length_eq_zero h2, List.eq_nil_of_length_eq_zero h3]; rfl
  | n + 1, X, Y, M, Q, a, b, h1, h2, h3, h4 => by
    obtain ⟨X', x, rfl, hx⟩ := snoc_of h2
    obtain ⟨Y', y, rfl, hy⟩ := snoc_of h3
    have ih := swapL_app P (n := n) (X := X') (Y := Y') (M := x :: M) (Q := y :: Q) (a := a) (b := b) h1 hx hy (by simp at h4 ⊢; omega)
    rw [swapL, show P ++ ((X' ++ [x]) ++ (M ++ ((Y' ++ [y]) ++ Q))) = P ++ (X' ++ ((x :: M) ++ (Y' ++ (y :: Q)))) by simp, ih]
    have := sw_app (P ++ Y') (M ++ X') Q x y (i := a + n) (j := b + n) (by simp; omega) (by simp at h4 ⊢; omega)
    rw [show P ++ (Y' ++ ((x :: M) ++ (X' ++ y :: Q))) = (P ++ Y') ++ x :: ((M ++ X') ++ y :: Q) by simp, this]
    simp
/-- In the midst of turning X ++ Y. -/
structure Rot (cur target : List Pr) (m i j : Nat) : Prop where
  ex : ∃ P X Y Q : List Pr, cur = P ++ (X ++ (Y ++ Q)) ∧ target = P ++ (Y ++ (X ++ Q)) ∧ P.length + i = m ∧ X.length = i ∧ Y.length = j
theorem Rot.gt {cur target : List Pr} {m i j : Nat} (h : Rot cur target m i j) (hij : j < i) : Rot (swapL cur (m - i) m j) target m (i - j) j := by
  obtain ⟨P, X, Y, Q, rfl, rfl, h1, h2, h3⟩ := h.ex
  refine ⟨P ++ Y, X.drop j, X.take j, Q, ?_, ?_, by simp; omega, by simp; omega, by simp; omega⟩
  · have := swapL_app P (n := j) (X := X.take j) (Y := Y) (M := X.drop j) (Q := Q) (a := m - i) (b := m) (by omega) (by simp; omega) h3 (by simp; omega)
    rw [show P ++ (X ++ (Y ++ Q)) = P ++ (X.take j ++ (X.drop j ++ (Y ++ Q))) by rw [← List.append_assoc (X.take j), List.take_append_drop], this]
    simp
  · rw [List.append_assoc, ← List.append_assoc (X.take j), List.take_append_drop]
theorem Rot.lt {cur target : List Pr} {m i j : Nat} (h : Rot cur target m i j) (hij : i < j) : Rot (swapL cur (m - i) (m + j - i) i) target m i (j - i) := by
  obtain ⟨P, X, Y, Q, rfl, rfl, h1, h2, h3⟩ := h.ex
  refine ⟨P, Y.drop (j - i), Y.take (j - i), X ++ Q, ?_, ?_, h1, by simp; omega, by simp; omega⟩
  · have := swapL_app P (n := i) (X := X) (Y := Y.drop (j - i)) (M := Y.take (j - i)) (Q := Q) (a := m - i) (b := m + j - i) (by omega) h2 (by simp; omega) (by simp; omega)
    rw [show P ++ (X ++ (Y ++ Q)) = P ++ (X ++ (Y.take (j - i) ++ (Y.drop (j - i) ++ Q))) by rw [← List.append_assoc (Y.take (j - i)), List.take_append_drop], this]
  · rw [← List.append_assoc (Y.take (j - i)), List.take_append_drop]
theorem Rot.eq {cur target : List Pr} {m i : Nat} (h : Rot cur target m i i) : swapL cur (m - i) m i = target := by
  obtain ⟨P, X, Y, Q, rfl, rfl, h1, h2, h3⟩ := h.ex
  have := swapL_app P (n := i) (X := X) (Y := Y) (M := []) (Q := Q) (a := m - i) (b := m) (by omega) h2 h3 (by simp; omega)
  simpa using this
theorem Rot.le {cur target : List Pr} {m i j : Nat} (h : Rot cur target m i j) : i ≤ m ∧ m + j ≤ cur.length ∧ target.length = cur.length := by
  obtain ⟨P, X, Y, Q, rfl, rfl, h1, h2, h3⟩ := h.ex
  simp; omega
/-- [a, m) and [m, b) exchanged. -/
def rotL (ys : List Pr) (a m b : Nat) : List Pr := ys.take a ++ ((ys.take b).drop m ++ ((ys.take m).drop a ++ ys.drop b))
theorem split4 {ys : List Pr} {a m b : Nat} (h1 : a ≤ m) (h2 : m ≤ b) : ys = ys.take a ++ ((ys.take m).drop a ++ ((ys.take b).drop m ++ ys.drop b)) := by
  have e : ∀ (k n : Nat), k ≤ n → ys.take n = ys.take k ++ (ys.take n).drop k := fun k n h => by
    conv => lhs; rw [← List.take_append_drop k (ys.take n)]
    rw [List.take_take, Nat.min_eq_left h]
  conv => lhs; rw [← List.take_append_drop b ys, e m b h2, e a m h1]
  simp
theorem rot_init {ys : List Pr} {a m b : Nat} (h1 : a ≤ m) (h2 : m ≤ b) (h3 : b ≤ ys.length) : Rot ys (rotL ys a m b) m (m - a) (b - m) :=
  ⟨ys.take a, (ys.take m).drop a, (ys.take b).drop m, ys.drop b, split4 h1 h2, rfl, by rw [List.length_take]; omega, by rw [List.length_drop, List.length_take]; omega, by rw [List.length_drop, List.length_take]; omega⟩
theorem rotL_len {ys : List Pr} {a m b : Nat} (h1 : a ≤ m) (h2 : m ≤ b) (h3 : b ≤ ys.length) : (rotL ys a m b).length = ys.length := (rot_init h1 h2 h3).le.2.2
theorem getD_app {l m : List Pr} {t : Nat} : (l ++ m).getD t (⟨#[]⟩, 0) = if t < l.length then l.getD t (⟨#[]⟩, 0) else m.getD (t - l.length) (⟨#[]⟩, 0) := by
  simp only [List.getD, List.getElem?_append]
  split <;> rfl
theorem getD_seg {ys : List Pr} {a b t : Nat} (h : a + t < b) : ((ys.take b).drop a).getD t (⟨#[]⟩, 0) = ys.getD (a + t) (⟨#[]⟩, 0) := by
  simp only [List.getD, List.getElem?_drop, List.getElem?_take, h, if_true]
theorem rotL_get {ys : List Pr} {a m b t : Nat} (h1 : a ≤ m) (h2 : m ≤ b) (h3 : b ≤ ys.length) : (rotL ys a m b).getD t (⟨#[]⟩, 0) = if t < a then ys.getD t (⟨#[]⟩, 0) else if t < a + (b - m) then ys.getD (t - a + m) (⟨#[]⟩, 0) else if t < b then ys.getD (t - (b - m)) (⟨#[]⟩, 0) else ys.getD t (⟨#[]⟩, 0) := by
  have l1 : (ys.take a).length = a := by rw [List.length_take]; omega
  have l2 : ((ys.take b).drop m).length = b - m := by rw [List.length_drop, List.length_take]; omega
  have l3 : ((ys.take m).drop a).length = m - a := by rw [List.length_drop, List.length_take]; omega
  unfold rotL
  rw [getD_app, l1]
  split
  · simp only [List.getD, List.getElem?_take]; rw [if_pos (by assumption)]
  rw [getD_app, l2]
  split
  · next c1 c2 => rw [if_pos (by omega), getD_seg (by omega), Nat.add_comm]
  next c1 c2 =>
  rw [if_neg (by omega), getD_app, l3]
  split
  · next c3 =>
    rw [if_pos (by omega), getD_seg (by omega)]
    congr 1; omega
  · next c3 =>
    rw [if_neg (by omega)]
    simp only [List.getD, List.getElem?_drop]
    congr 2; omega
theorem rotL_sg {ys : List Pr} {a m b : Nat} (h1 : a ≤ m) (h2 : m ≤ b) (h3 : b ≤ ys.length) (hn : ∀ s t, a ≤ s → s < m → m ≤ t → t < b → (ys.getD t (⟨#[]⟩, 0)).1 ≠ (ys.getD s (⟨#[]⟩, 0)).1) : Sg a b (rotL ys a m b) ys := by
  refine sg_of (P := ys.take a) (X := (ys.take m).drop a ++ (ys.take b).drop m) (Y := (ys.take b).drop m ++ (ys.take m).drop a) (Q := ys.drop b) ?_ ?_ ?_ ?_ ?_ ?_
  · rw [List.append_assoc]; exact split4 h1 h2
  · rw [List.append_assoc]; rfl
  · simp only [List.length_append]; omega
  · refine stb_swap fun p hp q hq => ?_
    obtain ⟨t, t1, t2, t3, rfl⟩ := seg_mem.1 hp
    obtain ⟨s, s1, s2, s3, rfl⟩ := seg_mem.1 hq
    exact hn s t s1 s2 t1 t2
  · rw [List.length_take]; omega
  · simp only [List.length_append, List.length_drop, List.length_take]; omega
/-! ### One pair moved -/
/-- The pair at m moved down to k. -/
theorem mv_step {ys : List Pr} {k m : Nat} (hk : k < m) (hm : m < ys.length) : sw (rotL ys (k + 1) m (m + 1)) (k + 1) k = rotL ys k m (m + 1) := by
  have l1 := rotL_len (ys := ys) (a := k + 1) (m := m) (b := m + 1) (by omega) (by omega) (by omega)
  refine List.ext_getElem (by rw [sw_len, l1, rotL_len (by omega) (by omega) (by omega)]) fun t h1 h2 => ?_
  rw [← getD_get h1, ← getD_get h2, sw_get (by rw [l1]; omega) (by rw [l1]; omega)]
  simp only [rotL_get (ys := ys) (a := k + 1) (m := m) (b := m + 1) (by omega) (by omega) (by omega), rotL_get (ys := ys) (a := k) (m := m) (b := m + 1) (by omega) (by omega) (by omega)]
  rw [sw_len, l1] at h1
  repeat' split
  all_goals first | rfl | omega | (congr 1; omega)
/-- The pair at a moved up to k. -/
theorem mu_step {ys : List Pr} {a k : Nat} (hk : a ≤ k) (hm : k + 1 < ys.length) : sw (rotL ys a (a + 1) (k + 1)) k (k + 1) = rotL ys a (a + 1) (k + 2) := by
  have l1 := rotL_len (ys := ys) (a := a) (m := a + 1) (b := k + 1) (by omega) (by omega) (by omega)
  refine List.ext_getElem (by rw [sw_len, l1, rotL_len (by omega) (by omega) (by omega)]) fun t h1 h2 => ?_
  rw [← getD_get h1, ← getD_get h2, sw_get (by rw [l1]; omega) (by rw [l1]; omega)]
  simp only [rotL_get (ys := ys) (a := a) (m := a + 1) (b := k + 1) (by omega) (by omega) (by omega), rotL_get (ys := ys) (a := a) (m := a + 1) (b := k + 2) (by omega) (by omega) (by omega)]
  rw [sw_len, l1] at h1
  repeat' split
  all_goals first | rfl | omega | (congr 1; omega)
theorem seg_nil {ys : List Pr} {m : Nat} : (ys.take m).drop m = [] := List.drop_eq_nil_of_le (by rw [List.length_take]; omega)
theorem rotL_same {ys : List Pr} {a m : Nat} (h1 : a ≤ m) : rotL ys a m m = ys := by
  have := split4 (ys := ys) h1 (Nat.le_refl m)
  unfold rotL
  rw [seg_nil, List.nil_append] at this ⊢
  exact this.symm
theorem rotL_same0 {ys : List Pr} {a b : Nat} (h1 : a ≤ b) : rotL ys a a b = ys := by
  have := split4 (ys := ys) (Nat.le_refl a) h1
  unfold rotL
  rw [seg_nil, List.nil_append] at this ⊢
  exact this.symm
end Go.Proofs.Ytpfjjagcmjmfpaa

/- Own lists that a callee may change: Wipe. -/
set_option linter.unusedSimpArgs false
set_option linter.unusedVariables false
namespace Go.Ct
open Go Go.RowKit
section
variable {P : Program} {S : List (Nat × Value)} {w0 w w' : World} {M : List Nat} {H : List (Nat × Obj)} {A F : Fr} {O : List Ow}
theorem SF.o1 {o : Ow} (h : OwOk w o) : SF w (oblk o.p) [] [] [] [o] w := by
  refine ⟨⟨rfl, rfl, rfl, Nat.le_refl _, fun _ _ _ => rfl, fun _ h => (List.not_mem_nil h).elim, fun _ h => (List.not_mem_nil h).elim, List.nodup_nil⟩, fun _ h => (List.not_mem_nil h).elim, fun _ h => (List.not_mem_nil h).elim, fun o' ho => ?_, ?_⟩
  · simp only [List.mem_singleton] at ho
    subst ho
    exact ⟨h, fun b hb => .inr hb⟩
  · simpa [Ks] using oblk_nodup o.p
theorem SF.ow (h : SF w0 M H A F O w) {i : Nat} {p : Option Addr} {cs : List Value} {c : Nat} {T : TypeId} {sz : Nat} (ho : OAt O i p cs c T sz) : OwOk w ⟨p, cs, c, T, sz⟩ := (h.own _ ho.mem).1
theorem SF.callO (h : SF w0 M H A F O w) {i : Nat} {p : Option Addr} {cs cs' : List Value} {c : Nat} {T : TypeId} {sz : Nat} (ho : OAt O i p cs c T sz) (hc : SF w (oblk p) [] [] [] [⟨p, cs', c, T, sz⟩] w') : SF w0 M H A F (setO O i ⟨p, cs', c, T, sz⟩) w' := by
  have hin : ∀ b ∈ oblk p, b ∈ Ks H O := fun b hb => mem_Ks.2 (.inr ⟨_, ho.mem, hb⟩)
  have nd := List.nodup_append.1 h.dis
  have nd2 := List.nodup_append.1 ((perm_delO ho).nodup_iff.1 nd.2.1)
  have := h.callM (D := oblk p) (Hm := []) (Hc := []) (Om := [⟨p, cs', c, T, sz⟩]) (Oc := []) (H1 := H) (O1 := setO O i ⟨p, cs', c, T, sz⟩) (Fc := []) (by simpa using hc) hin
    (fun q hq => .inr ⟨hq, fun hm => nd.2.2 q.1 (List.mem_map.2 ⟨q, hq, rfl⟩) q.1 (List.mem_flatMap.2 ⟨_, ho.mem, hm⟩) rfl⟩)
    (fun o h1 => by
      rcases setO_mem ho o h1 with rfl | h2
      · exact .inl (List.mem_singleton.2 rfl)
      · exact .inr ⟨(delO_sub O i).subset h2, fun b hb hm => nd2.2.2 b hm b (List.mem_flatMap.2 ⟨o, h2, hb⟩) rfl⟩)
    (by
      unfold Ks
      rw [(List.Perm.append_left _ (perm_setO ho)).nodup_iff]
      exact ((List.Perm.append_left _ (perm_delO ho)).nodup_iff).1 h.dis)
  simpa using this
theorem SF.dropA2 {a1 a2 : Option Addr × List Value} (h : SF w0 M H (a1 :: a2 :: A) F O w) : SF w0 M H A F O w := ⟨h.st, fun f hf => h.old f (List.mem_cons_of_mem _ (List.mem_cons_of_mem _ hf)), h.new, h.own, h.dis⟩
end
theorem rep_next {α : Type} (l : List α) (v : α) {k : Nat} (hk : k < l.length) : (List.replicate k v ++ l.drop k).set k v = List.replicate (k + 1) v ++ l.drop (k + 1) := by
  rw [List.set_append_right _ _ (by simp), List.length_replicate, Nat.sub_self, List.drop_eq_getElem_cons hk, List.set_cons_zero, List.replicate_succ']
  simp
end Go.Ct
namespace Go.Proofs.Ytpfjjagcmjmfpaa
open Go Go.RowKit Go.Ct
variable {S : List (Nat × Value)} {w0 w w' : World} {M : List Nat} {H : List (Nat × Obj)} {A F : Fr} {O : List Ow} {i d : Nat} {ty : TypeId} {pos : String} {af : Array Edge} {gd : Option (Nat × Bool)} {X : Type} {V : X → Value}
theorem cFO {φ : X → Prop} {p : Option Addr} {cs : List Value} {cs' : X → List Value} {c : Nat} {T : TypeId} {sz : Nat} {O1 : X → List Ow} {f : FuncId} {xs : List Operand} {at_ : Array TypeId} {vs : List Value} {dst : Option Nat}
    (ha : evL S xs = vs := by (repeat (first | exact evL_nil _ | (apply evL_cons; focus ((conv => { lhs; whnf }); try exact rfl)))); first | done | fail) (hp : plain Try.prog f = true := by kernel_rfl)
    (ho : OAt O i p cs c T sz) (hc : ∀ w, SF w0 M H A F O w → Calls Try.prog f ⟨vs⟩ w fun e w' => ∃ x, e = .returned (V x) ∧ φ x ∧ SF w (oblk p) [] [] [] [⟨p, cs' x, c, T, sz⟩] w') (hO : ∀ x, setO O i ⟨p, cs' x, c, T, sz⟩ = O1 x := by intro x; simp only [setO]; exact rfl) :
    Loud Try.prog S (SF w0 M H A F O) ⟨dst, .call { callee := .value (.func f), args := ⟨xs⟩, argTypes := at_ }, ty, pos, af, gd⟩ X V (fun x w => φ x ∧ SF w0 M H A F (O1 x) w) :=
  loud_call (run_call hp ha) fun w hw => (hc w hw).mono fun _ _ ⟨x, he, hx, hs⟩ => ⟨x, he, hx, by rw [← hO x]; exact hw.callO ho hs⟩
end Go.Proofs.Ytpfjjagcmjmfpaa

/- Sorting: the walks. -/
set_option linter.unusedSimpArgs false
set_option linter.unusedVariables false
namespace Go.Ct
open Go Go.RowKit
section
variable {P : Program} {S : List (Nat × Value)} {G : World → Prop} {d : Nat} {ty t t' : TypeId} {pos : String} {af : Array Edge} {gd : Option (Nat × Bool)} {x y : Operand} {m n : Nat}
theorem o_storeQ {w0 : World} {M : List Nat} {H : List (Nat × Obj)} {A F : Fr} {O : List Ow} {i c : Nat} {p : Option Addr} {e : TypeId} {q : Nat} {l : List Pr} {v : Pr} (hx : ev S x = .pointer (some ⟨ablk p, aoff p + 2 * q, none⟩)) (hy : ev S y = .agg ⟨[.string v.1, .int .u64 v.2]⟩) (ht : aggOf P t 2 = true) (ho : OAt O i p (prC l) c e 2) (hq : q < l.length) :
    Loud P S (SF w0 M H A F O) ⟨none, .store t x y, ty, pos, af, gd⟩ Unit (fun _ => undef) (fun _ => SF w0 M H A F (setO O i ⟨p, prC (l.set q v), c, e, 2⟩)) := o_storeP hx hy ht ho hq
end
end Go.Ct
namespace Go.Proofs.Ytpfjjagcmjmfpaa
open Go.RowKit Go.Ct
theorem of1_c (p q : Pr) (w : World) : Calls Try.prog 59 #[.agg ⟨[.string p.1, .int .u64 p.2]⟩, .agg ⟨[.string q.1, .int .u64 q.2]⟩] w fun e w' => e = .returned (.int .i64 (cmpS p.1 q.1)) ∧ St w [] [] w' := by
  refine enter Try.func59 Try.ntmps59 rfl rfl (SF.s0 w) ?_
  simp only [mkS]
  all_goals (refine k_seq ?_; refine k_region ?_; refine j_box (fun x2 => ?_); refine j_box (fun x3 => ?_); refine j_assignL (fun _ => ?_); refine l_nil ?_; refine k_seq ?_; refine k_region ?_; refine j_fieldAddr ?_; refine j_load ?_; refine j_fieldAddr ?_; refine j_load ?_; (refine j_own (cV (hc := fun w1 hw => strCmp_c p.1 q.1 w1)) (fun x9 => ?_); try (refine l_fact (fun h9 => ?_))); refine j_assignL (fun _ => ?_); refine l_nil ?_)
  all_goals
   refine k_rv Try.results59 (fun w hw => ?_)
   exact ⟨rfl, hw.done⟩
abbrev fOf : Value := .func (.func 59) #[] #[]
section
variable {ys : List Pr} {p : Option Addr} {c a b m n N : Nat} {w : World}
theorem swapRange_c (a b n : Nat) (ho : OwOk w ⟨p, prC ys, c, 56, 2⟩) (hN : ys.length = N) (hl : N ≤ 1000000) (ha : a + n ≤ N) (hb : b + n ≤ N) :
    Calls Try.prog 79 #[.slice p N c, .int .i64 (a : Int), .int .i64 (b : Int), .int .i64 (n : Int), fOf] w fun e w' => ∃ x : Unit, e = .returned (.tuple #[]) ∧ True ∧ SF w (oblk p) [] [] [] [⟨p, prC (swapL ys a b n), c, 56, 2⟩] w' := by
  subst hN
  refine enter Try.func79 Try.ntmps79 rfl rfl (SF.o1 ho) ?_
  simp only [mkS]
  all_goals (refine k_seq ?_; refine k_region ?_; refine j_assignL (fun _ => ?_); refine l_nil ?_; refine k_block ?_)
  all_goals
   refine k_loopF [10, 11, 12, 13, 14, 15, 16, 17, 18, 19, 20, 21, 22, 23, 24, 25, 26, 27, 28, 29, 30, 31, 32, 33, 34, 35, 36, 37] (fun k => [(10, .int .i64 ((k : Nat) : Int))]) (fun k => k ≤ n) (fun _ => _) (fun _ => _) (fun k => [⟨p, prC (swapL ys a b k), c, 56, 2⟩]) (fun k => n - k) (0) (by decide) (fun _ => by exact rfl) ?_ (Nat.zero_le _) (fun w hw => hw.back) (fun k f hx => ?_)
   · repeat (first | exact knows_nil _ | refine knows_cons (by first | exact rfl | (conv => { lhs; whnf }; simp; done)) ?_)
   dsimp only [mkU, List.map, List.cons_append, List.nil_append]
   have hlen := swapL_len ys a b k
   have hlen2 : ((swapL ys a b k).set (a + k) ((swapL ys a b k).getD (b + k) (⟨#[]⟩, 0))).length = ys.length := by rw [List.length_set]; exact hlen
   all_goals (refine k_seq ?_; refine k_seq ?_; refine k_region ?_; refine j_move ?_; refine j_move ?_; refine j_lss ?_; refine l_nil ?_)
   all_goals
    refine k_if (fun c13 => ?_) (fun c13 => ?_)
    · try (exact absurd c13 (by decide))
      all_goals (revert c13; (first | refine cv1 ?_ | refine cv3 ?_ | refine cv5 ?_ | refine cv7 ?_ | refine cv9 ?_ | refine cvb ?_ | refine cvd ?_ | skip); intro c13)
      all_goals (refine k_skip ?_; refine k_seq ?_; refine k_block ?_; refine k_drawF (.one 0 [] (.one 1 [] (.one 2 [] (.one 3 [] (.one 4 [] (.one 5 [] (.one 6 [] (.one 7 [] (.one 8 [] (.one 9 [] (.one 10 [] (.one 11 [] (.one 12 [] (.one 13 [] (.one 14 [] (.one 15 [] (.one 16 [] (.one 17 [] (.one 18 [] (.one 19 [] (.one 20 [] (.one 21 [] (.one 22 [] (.one 23 [] .nil)))))))))))))))))))))))) ?_; refine r_move (i := 0) ?_; refine r_move (i := 1) ?_; refine r_move (i := 2) ?_; refine r_ownP (i := 3) (hq := (by first | exact o_inc (by exact rfl) (by exact rfl) (by omega) | exact o_addN (by exact rfl) (by exact rfl) (by omega))) (h := ?_); refine r_move (i := 4) ?_; refine r_move (i := 5) ?_; refine r_move (i := 6) ?_; refine r_ownP (i := 7) (hq := (by first | exact o_inc (by exact rfl) (by exact rfl) (by omega) | exact o_addN (by exact rfl) (by exact rfl) (by omega))) (h := ?_); refine r_move (i := 8) ?_; refine r_move (i := 9) ?_; refine r_move (i := 10) ?_; refine r_ownP (i := 11) (hq := (by first | exact o_inc (by exact rfl) (by exact rfl) (by omega) | exact o_addN (by exact rfl) (by exact rfl) (by omega))) (h := ?_); refine r_indexAddr (i := 12) ?_; refine r_load (i := 13) ?_; refine r_move (i := 14) ?_; refine r_move (i := 15) ?_; refine r_move (i := 16) ?_; refine r_ownP (i := 17) (hq := (by first | exact o_inc (by exact rfl) (by exact rfl) (by omega) | exact o_addN (by exact rfl) (by exact rfl) (by omega))) (h := ?_); refine r_indexAddr (i := 18) ?_; refine r_load (i := 19) ?_; refine r_indexAddr (i := 20) ?_; refine r_own0 (i := 21) (hq := (Loud.convO (o_storeQ (by exact rfl) (by exact rfl) (by exact agg_of rfl) (by repeat (first | exact OAt.head | apply OAt.tail)) (by omega)) (by intro x; simp only [setO]; exact rfl))) (hfire := (fun _ => .nil)) (h := fun _ => ?_); refine r_indexAddr (i := 22) ?_; refine r_own0 (i := 23) (hq := (Loud.convO (o_storeQ (by exact rfl) (by exact rfl) (by exact agg_of rfl) (by repeat (first | exact OAt.head | apply OAt.tail)) (by omega)) (by intro x; simp only [setO]; exact rfl))) (hfire := (fun _ => .nil)) (h := fun _ => ?_); refine r_fin ?_; refine k_blk ?_; refine k_region ?_; refine j_move ?_; refine l_quiet (by first | exact o_inc (by exact rfl) (by exact rfl) (by omega) | exact o_addN (by exact rfl) (by exact rfl) (by omega)) rfl ?_; refine j_assignL (fun _ => ?_); refine l_nil ?_)
      all_goals
       refine k_roundF (k + 1) ?_ ?_ (by repeat (first | (with_reducible exact Pre.refl) | refine Pre.cons (by exact rfl) ?_)) ?_ (fun w hw => hw.back)
       · first | omega | (simp only []; omega)
       · repeat' (first | exact knows_nil _ | refine knows_cons ?_ ?_)
         all_goals (first | exact rfl | (conv => { lhs; whnf }; simp; done) | (conv => { lhs; whnf }; congr 1; omega))
       · omega
    · try (exact absurd c13 (by decide))
      all_goals (revert c13; (first | refine cv2 ?_ | refine cv4 ?_ | refine cv6 ?_ | refine cv8 ?_ | refine cva ?_ | refine cvc ?_ | refine cve ?_ | skip); intro c13)
      all_goals refine k_exit rfl ?_
      all_goals
       refine k_endvF Try.results79 .nil (fun w hw => ?_)
       have hk : k = n := by omega
       subst hk
       exact ⟨(), rfl, trivial, hw.finH⟩
theorem rotate_c (ho : OwOk w ⟨p, prC ys, c, 56, 2⟩) (hN : ys.length = N) (hl : N ≤ 1000000) (h1 : a < m) (h2 : m < b) (h3 : b ≤ N) :
    Calls Try.prog 78 #[.slice p N c, .int .i64 (a : Int), .int .i64 (m : Int), .int .i64 (b : Int), fOf] w fun e w' => ∃ x : Unit, e = .returned (.tuple #[]) ∧ True ∧ SF w (oblk p) [] [] [] [⟨p, prC (rotL ys a m b), c, 56, 2⟩] w' := by
  refine enter Try.func78 Try.ntmps78 rfl rfl (SF.o1 ho) ?_
  simp only [mkS]
  all_goals (refine k_seq ?_; refine k_region ?_; refine j_move ?_; refine j_move ?_; refine l_quiet (o_subN (by exact rfl) (by exact rfl) (by omega) (by omega)) rfl ?_; refine j_assignL (fun _ => ?_); refine l_nil ?_; refine k_seq ?_; refine k_region ?_; refine j_move ?_; refine j_move ?_; refine l_quiet (o_subN (by exact rfl) (by exact rfl) (by omega) (by omega)) rfl ?_; refine j_assignL (fun _ => ?_); refine l_nil ?_; refine k_seq ?_; refine k_block ?_)
  all_goals
   refine k_loopF [10, 11, 18, 19, 20, 21, 22, 23, 24, 25, 26, 27, 28, 29, 30, 31, 32, 33, 34, 35, 36, 37, 38, 39, 40, 41, 42, 43, 44, 45, 46, 47, 48, 49] (fun z : Nat × Nat × List Pr => [(10, .int .i64 ((z.1 : Nat) : Int)), (11, .int .i64 ((z.2.1 : Nat) : Int))]) (fun z => Rot z.2.2 (rotL ys a m b) m z.1 z.2.1 ∧ z.2.2.length = N ∧ 0 < z.1 ∧ 0 < z.2.1) (fun _ => _) (fun _ => _) (fun z => [⟨p, prC z.2.2, c, 56, 2⟩]) (fun z => z.1 + z.2.1) ((m - a, b - m, ys)) (by decide) (fun _ => by exact rfl) ?_ (⟨rot_init (by omega) (by omega) (by rw [hN]; exact h3), hN, by show 0 < m - a; omega, by show 0 < b - m; omega⟩) (fun w hw => hw.back) (fun z f hx => ?_)
   · repeat (first | exact knows_nil _ | refine knows_cons (by first | exact rfl | (conv => { lhs; whnf }; simp; done)) ?_)
   dsimp only [mkU, List.map, List.cons_append, List.nil_append]
   obtain ⟨q1, q2, q3, q4⟩ := hx
   have q5 := q1.le
   all_goals (refine k_seq ?_; refine k_seq ?_; refine k_region ?_; refine j_move ?_; refine j_move ?_; refine j_neq ?_; refine l_nil ?_)
   all_goals
    refine k_if (fun c20 => ?_) (fun c20 => ?_)
    · try (exact absurd c20 (by decide))
      all_goals (revert c20; (first | refine cv1 ?_ | refine cv3 ?_ | refine cv5 ?_ | refine cv7 ?_ | refine cv9 ?_ | refine cvb ?_ | refine cvd ?_ | skip); intro c20)
      all_goals (refine k_skip ?_; refine k_block ?_; refine k_seq ?_; refine k_region ?_; refine j_move ?_; refine j_move ?_; refine j_gtr ?_; refine l_nil ?_)
      all_goals
       refine k_if (fun c23 => ?_) (fun c23 => ?_)
       · try (exact absurd c23 (by decide))
         all_goals (revert c23; (first | refine cv1 ?_ | refine cv3 ?_ | refine cv5 ?_ | refine cv7 ?_ | refine cv9 ?_ | refine cvb ?_ | refine cvd ?_ | skip); intro c23)
         all_goals (refine k_seq ?_; refine k_region ?_; refine j_move ?_; refine j_move ?_; refine j_move ?_; refine l_quiet (o_subN (by exact rfl) (by exact rfl) (by omega) (by omega)) rfl ?_; refine j_move ?_; refine j_move ?_; refine j_move ?_; (refine j_own (by first | exact cFO (ho := (by repeat (first | exact OAt.head | apply OAt.tail))) (hc := fun w1 hw => swapRange_c (m - z.1) m z.2.1 (hw.ow (by repeat (first | exact OAt.head | apply OAt.tail))) q2 hl (by omega) (by omega)) | exact cFO (ho := (by repeat (first | exact OAt.head | apply OAt.tail))) (hc := fun w1 hw => swapRange_c (m - z.1) (m + z.2.1 - z.1) z.1 (hw.ow (by repeat (first | exact OAt.head | apply OAt.tail))) q2 hl (by omega) (by omega)) | exact cFO (ho := (by repeat (first | exact OAt.head | apply OAt.tail))) (hc := fun w1 hw => swapRange_c (m - z.1) m z.1 (hw.ow (by repeat (first | exact OAt.head | apply OAt.tail))) q2 hl (by omega) (by omega))) (fun x31 => ?_); try (refine l_fact (fun h31 => ?_))); refine l_nil ?_; refine k_region ?_; refine j_move ?_; refine j_move ?_; refine l_quiet (o_subN (by exact rfl) (by exact rfl) (by omega) (by omega)) rfl ?_; refine j_assignL (fun _ => ?_); refine l_nil ?_; refine k_blk ?_)
         all_goals
          refine k_roundF ((by first | exact lfst (p := (z.1 : Int) > z.2.1) c23 (z.1 - z.2.1, z.2.1, swapL z.2.2 (m - z.1) m z.2.1) | exact (z.1, z.2.1 - z.1, swapL z.2.2 (m - z.1) (m + z.2.1 - z.1) z.1))) ?_ ?_ (by repeat (first | (with_reducible exact Pre.refl) | refine Pre.cons (by exact rfl) ?_)) ?_ (fun w hw => hw.back)
          · first | omega | (simp only []; omega)
          · repeat' (first | exact knows_nil _ | refine knows_cons ?_ ?_)
            all_goals (first | exact rfl | (conv => { lhs; whnf }; simp; done) | (conv => { lhs; whnf }; congr 1; omega))
          · first
            | exact ⟨q1.gt (by omega), (swapL_len _ _ _ _).trans q2, by show 0 < z.1 - z.2.1; omega, q4⟩
            | exact ⟨q1.lt (by omega), (swapL_len _ _ _ _).trans q2, q3, by show 0 < z.2.1 - z.1; omega⟩
       · try (exact absurd c23 (by decide))
         all_goals (revert c23; (first | refine cv2 ?_ | refine cv4 ?_ | refine cv6 ?_ | refine cv8 ?_ | refine cva ?_ | refine cvc ?_ | refine cve ?_ | skip); intro c23)
         all_goals (refine k_seq ?_; refine k_region ?_; refine j_move ?_; refine j_move ?_; refine j_move ?_; refine l_quiet (o_subN (by exact rfl) (by exact rfl) (by omega) (by omega)) rfl ?_; refine j_move ?_; refine j_move ?_; refine l_quiet (o_addN (by exact rfl) (by exact rfl) (by omega)) rfl ?_; refine j_move ?_; refine l_quiet (o_subN (by exact rfl) (by exact rfl) (by omega) (by omega)) rfl ?_; refine j_move ?_; refine j_move ?_; (refine j_own (by first | exact cFO (ho := (by repeat (first | exact OAt.head | apply OAt.tail))) (hc := fun w1 hw => swapRange_c (m - z.1) m z.2.1 (hw.ow (by repeat (first | exact OAt.head | apply OAt.tail))) q2 hl (by omega) (by omega)) | exact cFO (ho := (by repeat (first | exact OAt.head | apply OAt.tail))) (hc := fun w1 hw => swapRange_c (m - z.1) (m + z.2.1 - z.1) z.1 (hw.ow (by repeat (first | exact OAt.head | apply OAt.tail))) q2 hl (by omega) (by omega)) | exact cFO (ho := (by repeat (first | exact OAt.head | apply OAt.tail))) (hc := fun w1 hw => swapRange_c (m - z.1) m z.1 (hw.ow (by repeat (first | exact OAt.head | apply OAt.tail))) q2 hl (by omega) (by omega))) (fun x46 => ?_); try (refine l_fact (fun h46 => ?_))); refine l_nil ?_; refine k_region ?_; refine j_move ?_; refine j_move ?_; refine l_quiet (o_subN (by exact rfl) (by exact rfl) (by omega) (by omega)) rfl ?_; refine j_assignL (fun _ => ?_); refine l_nil ?_; refine k_blk ?_)
         all_goals
          refine k_roundF ((by first | exact lfst (p := (z.1 : Int) > z.2.1) c23 (z.1 - z.2.1, z.2.1, swapL z.2.2 (m - z.1) m z.2.1) | exact (z.1, z.2.1 - z.1, swapL z.2.2 (m - z.1) (m + z.2.1 - z.1) z.1))) ?_ ?_ (by repeat (first | (with_reducible exact Pre.refl) | refine Pre.cons (by exact rfl) ?_)) ?_ (fun w hw => hw.back)
          · first | omega | (simp only []; omega)
          · repeat' (first | exact knows_nil _ | refine knows_cons ?_ ?_)
            all_goals (first | exact rfl | (conv => { lhs; whnf }; simp; done) | (conv => { lhs; whnf }; congr 1; omega))
          · first
            | exact ⟨q1.gt (by omega), (swapL_len _ _ _ _).trans q2, by show 0 < z.1 - z.2.1; omega, q4⟩
            | exact ⟨q1.lt (by omega), (swapL_len _ _ _ _).trans q2, q3, by show 0 < z.2.1 - z.1; omega⟩
    · try (exact absurd c20 (by decide))
      all_goals (revert c20; (first | refine cv2 ?_ | refine cv4 ?_ | refine cv6 ?_ | refine cv8 ?_ | refine cva ?_ | refine cvc ?_ | refine cve ?_ | skip); intro c20)
      all_goals (refine k_exit rfl ?_; refine k_region ?_; refine j_move ?_; refine j_move ?_; refine j_move ?_; refine l_quiet (o_subN (by exact rfl) (by exact rfl) (by omega) (by omega)) rfl ?_; refine j_move ?_; refine j_move ?_; refine j_move ?_; (refine j_own (by first | exact cFO (ho := (by repeat (first | exact OAt.head | apply OAt.tail))) (hc := fun w1 hw => swapRange_c (m - z.1) m z.2.1 (hw.ow (by repeat (first | exact OAt.head | apply OAt.tail))) q2 hl (by omega) (by omega)) | exact cFO (ho := (by repeat (first | exact OAt.head | apply OAt.tail))) (hc := fun w1 hw => swapRange_c (m - z.1) (m + z.2.1 - z.1) z.1 (hw.ow (by repeat (first | exact OAt.head | apply OAt.tail))) q2 hl (by omega) (by omega)) | exact cFO (ho := (by repeat (first | exact OAt.head | apply OAt.tail))) (hc := fun w1 hw => swapRange_c (m - z.1) m z.1 (hw.ow (by repeat (first | exact OAt.head | apply OAt.tail))) q2 hl (by omega) (by omega))) (fun x57 => ?_); try (refine l_fact (fun h57 => ?_))); refine l_nil ?_)
      all_goals
       refine k_endvF Try.results78 .nil (fun w hw => ?_)
       have e : z.1 = z.2.1 := by omega
       have q6 := q1
       rw [← e] at q6
       rw [q6.eq] at hw
       exact ⟨(), rfl, trivial, hw.finH⟩
theorem insJ_go {a j : Nat} {ys : List Pr} (h : a < j) (h2 : sless (ys.getD j (⟨#[]⟩, 0)).1 (ys.getD (j - 1) (⟨#[]⟩, 0)).1 = true) : insJ a (j - 1) (sw ys j (j - 1)) = insJ a j ys := by
  cases j with
  | zero => omega
  | succ j => rw [Nat.add_sub_cancel] at h2 ⊢; rw [insJ]; exact (if_pos ⟨h, h2⟩).symm
theorem insJ_stop {a j : Nat} {ys : List Pr} (h : ¬ (a < j ∧ sless (ys.getD j (⟨#[]⟩, 0)).1 (ys.getD (j - 1) (⟨#[]⟩, 0)).1 = true)) : insJ a j ys = ys := by
  cases j with
  | zero => rfl
  | succ j => rw [Nat.add_sub_cancel] at h; rw [insJ]; exact if_neg h
theorem insertion_c (a b : Nat) (ho : OwOk w ⟨p, prC ys, c, 56, 2⟩) (hN : ys.length = N) (hl : N ≤ 1000000) (h3 : b ≤ N) (h4 : a ≤ N) :
    Calls Try.prog 75 #[.slice p N c, .int .i64 (a : Int), .int .i64 (b : Int), fOf] w fun e w' => ∃ x : Unit, e = .returned (.tuple #[]) ∧ True ∧ SF w (oblk p) [] [] [] [⟨p, prC (insI a (a + 1) (b - (a + 1)) ys), c, 56, 2⟩] w' := by
  refine enter Try.func75 Try.ntmps75 rfl rfl (SF.o1 ho) ?_
  simp only [mkS]
  all_goals (refine k_seq ?_; refine k_region ?_; refine j_move ?_; refine l_quiet (o_inc (by exact rfl) (by exact rfl) (by omega)) rfl ?_; refine j_assignL (fun _ => ?_); refine l_nil ?_; refine k_block ?_)
  all_goals
   refine k_loopF [8, 9, 12, 13, 14, 15, 16, 17, 18, 19, 20, 21, 22, 23, 24, 25, 26, 27, 28, 29, 30, 31, 32, 33, 34, 35, 36, 37, 38, 39, 40, 41, 42, 43, 44, 45, 46, 47, 48, 49, 50, 51, 52] (fun z : Nat × List Pr => [(8, .int .i64 ((z.1 : Nat) : Int))]) (fun z => insI a z.1 (b - z.1) z.2 = insI a (a + 1) (b - (a + 1)) ys ∧ z.2.length = N ∧ a + 1 ≤ z.1 ∧ z.1 ≤ N + 1) (fun _ => _) (fun _ => _) (fun z => [⟨p, prC z.2, c, 56, 2⟩]) (fun z => b - z.1) ((a + 1, ys)) (by decide) (fun _ => by exact rfl) ?_ (⟨rfl, hN, Nat.le_refl _, by show a + 1 ≤ N + 1; omega⟩) (fun w hw => hw.back) (fun z f hx => ?_)
   · repeat (first | exact knows_nil _ | refine knows_cons (by first | exact rfl | (conv => { lhs; whnf }; simp; done)) ?_)
   dsimp only [mkU, List.map, List.cons_append, List.nil_append]
   obtain ⟨q1, q2, q3, q4⟩ := hx
   all_goals (refine k_seq ?_; refine k_seq ?_; refine k_region ?_; refine j_move ?_; refine j_move ?_; refine j_lss ?_; refine l_nil ?_)
   all_goals
    refine k_if (fun c14 => ?_) (fun c14 => ?_)
    · try (exact absurd c14 (by decide))
      all_goals (revert c14; (first | refine cv1 ?_ | refine cv3 ?_ | refine cv5 ?_ | refine cv7 ?_ | refine cv9 ?_ | refine cvb ?_ | refine cvd ?_ | skip); intro c14)
      all_goals (refine k_skip ?_; refine k_seq ?_; refine k_block ?_; refine k_seq ?_; refine k_region ?_; refine j_move ?_; refine j_assignL (fun _ => ?_); refine l_nil ?_; refine k_block ?_)
      all_goals
       refine k_loopF [9, 18, 19, 20, 21, 22, 23, 24, 25, 26, 27, 28, 29, 30, 31, 32, 33, 34, 35, 36, 37, 38, 39, 40, 41, 42, 43, 44, 45, 46, 47, 48, 49, 50, 51, 52] (fun y : Nat × List Pr => [(9, .int .i64 ((y.1 : Nat) : Int))]) (fun y => insJ a y.1 y.2 = insJ a z.1 z.2 ∧ y.2.length = N ∧ a ≤ y.1 ∧ y.1 ≤ z.1) (fun _ => _) (fun _ => _) (fun y => [⟨p, prC y.2, c, 56, 2⟩]) (fun y => y.1) ((z.1, z.2)) (by decide) (fun _ => by exact rfl) ?_ (⟨rfl, q2, by show a ≤ z.1; omega, Nat.le_refl _⟩) (fun w hw => hw.back) (fun y f hx => ?_)
       · repeat (first | exact knows_nil _ | refine knows_cons (by first | exact rfl | (conv => { lhs; whnf }; simp; done)) ?_)
       dsimp only [mkU, List.map, List.cons_append, List.nil_append]
       obtain ⟨r1, r2, r3, r4⟩ := hx
       have r5 : ∀ t (v : Pr), (y.2.set t v).length = N := fun t v => by rw [List.length_set]; exact r2
       have r6 := r5 y.1 (y.2.getD (y.1 - 1) (⟨#[]⟩, 0))
       all_goals (refine k_seq ?_; refine k_seq ?_; refine k_drawF (.one 0 [] (.one 1 [] (.one 2 [] (.one 3 [] (.one 4 [] (.one 5 [] (.one 6 [] (.one 7 [] (.one 8 [] (.one 9 [] (.one 10 [] (.one 11 [] (.one 12 [] (.one 13 [] (.one 14 [] (.one 15 [] (.one 16 [] .nil))))))))))))))))) ?_; refine r_move (i := 0) ?_; refine r_move (i := 1) ?_; refine r_gtr (i := 2) ?_; refine r_move (i := 3) ?_)
       all_goals (first | refine r_un (i := 4) ?_ | (refine r_move (i := 4) ?_) | (refine r_case (g := 21) (by exact rfl) (fun g21 => ?_) (fun g21 => ?_) <;> (revert g21; (first | refine cv1 ?_ | refine cv2 ?_ | refine cvb ?_ | refine cvc ?_ | refine cv9 ?_ | refine cva ?_ | refine cv7 ?_ | refine cv8 ?_ | refine cvd ?_ | refine cve ?_ | skip); intro g21) <;> (first | refine r_un (i := 4) ?_ | (refine r_move (i := 4) ?_))))
       all_goals ((first | refine r_un (i := 5) ?_ | (refine r_move (i := 5) ?_)); (first | refine r_un (i := 6) ?_ | (refine r_move (i := 6) ?_)); (first | refine r_un (i := 7) ?_ | (refine r_indexAddr (i := 7) ?_)); (first | refine r_un (i := 8) ?_ | (refine r_load (i := 8) ?_)); (first | refine r_un (i := 9) ?_ | (refine r_move (i := 9) ?_)); (first | refine r_un (i := 10) ?_ | (refine r_move (i := 10) ?_)); (first | refine r_un (i := 11) ?_ | (refine r_ownP (i := 11) (hq := (o_dec (by exact rfl) (by exact rfl) (by omega) (by omega))) (h := ?_))); (first | refine r_un (i := 12) ?_ | (refine r_indexAddr (i := 12) ?_)); (first | refine r_un (i := 13) ?_ | (refine r_load (i := 13) ?_)); ((first | refine r_un (i := 14) ?_ | ((refine r_own (i := 14) (hq := (cVd (by exact rfl) (by (repeat (first | exact evL_nil _ | (apply evL_cons; focus ((conv => { lhs; whnf }); try exact rfl)))); first | done | fail) (by kernel_rfl) (fun w1 hw => of1_c (y.2.getD y.1 (⟨#[]⟩, 0)) (y.2.getD (y.1 - 1) (⟨#[]⟩, 0)) w1))) (hfire := (fun _ => .nil)) (h := fun x32 => ?_); try (refine r_fact (fun h32 => ?_)))))); (first | refine r_un (i := 15) ?_ | (refine r_lss (i := 15) ?_)); refine r_pick (i := 16) ?_; refine r_fin ?_)
       all_goals
        refine k_if (fun c34 => ?_) (fun c34 => ?_)
        · try (exact absurd c34 (by decide))
          all_goals (revert c34; (first | refine cv1 ?_ | refine cv3 ?_ | refine cv5 ?_ | refine cv7 ?_ | refine cv9 ?_ | refine cvb ?_ | refine cvd ?_ | skip); intro c34)
          all_goals (refine k_skip ?_; refine k_seq ?_; refine k_block ?_; refine k_drawF (.one 0 [] (.one 1 [] (.one 2 [] (.one 3 [] (.one 4 [] (.one 5 [] (.one 6 [] (.one 7 [] (.one 8 [] (.one 9 [] (.one 10 [] (.one 11 [] (.one 12 [] (.one 13 [] (.one 14 [] (.one 15 [] (.one 16 [] (.one 17 [] .nil)))))))))))))))))) ?_; refine r_move (i := 0) ?_; refine r_move (i := 1) ?_; refine r_move (i := 2) ?_; refine r_move (i := 3) ?_; refine r_ownP (i := 4) (hq := (o_dec (by exact rfl) (by exact rfl) (by omega) (by omega))) (h := ?_); refine r_move (i := 5) ?_; refine r_move (i := 6) ?_; refine r_ownP (i := 7) (hq := (o_dec (by exact rfl) (by exact rfl) (by omega) (by omega))) (h := ?_); refine r_indexAddr (i := 8) ?_; refine r_load (i := 9) ?_; refine r_move (i := 10) ?_; refine r_move (i := 11) ?_; refine r_indexAddr (i := 12) ?_; refine r_load (i := 13) ?_; refine r_indexAddr (i := 14) ?_; refine r_own0 (i := 15) (hq := (Loud.convO (o_storeQ (by exact rfl) (by exact rfl) (by exact agg_of rfl) (by repeat (first | exact OAt.head | apply OAt.tail)) (by omega)) (by intro x; simp only [setO]; exact rfl))) (hfire := (fun _ => .nil)) (h := fun _ => ?_); refine r_indexAddr (i := 16) ?_; refine r_own0 (i := 17) (hq := (Loud.convO (o_storeQ (by exact rfl) (by exact rfl) (by exact agg_of rfl) (by repeat (first | exact OAt.head | apply OAt.tail)) (by omega)) (by intro x; simp only [setO]; exact rfl))) (hfire := (fun _ => .nil)) (h := fun _ => ?_); refine r_fin ?_; refine k_blk ?_; refine k_region ?_; refine j_move ?_; refine l_quiet (o_dec (by exact rfl) (by exact rfl) (by omega) (by omega)) rfl ?_; refine j_assignL (fun _ => ?_); refine l_nil ?_)
          all_goals
           refine k_roundF ((y.1 - 1, sw y.2 y.1 (y.1 - 1))) ?_ ?_ (by repeat (first | (with_reducible exact Pre.refl) | refine Pre.cons (by exact rfl) ?_)) ?_ (fun w hw => hw.back)
           · first | omega | (simp only []; omega)
           · repeat' (first | exact knows_nil _ | refine knows_cons ?_ ?_)
             all_goals (first | exact rfl | (conv => { lhs; whnf }; simp; done) | (conv => { lhs; whnf }; congr 1; omega))
           · exact ⟨(insJ_go (by omega) (cmpS_lt.1 (by assumption))).trans r1, (sw_len _ _ _).trans r2, by show a ≤ y.1 - 1; omega, by show y.1 - 1 ≤ z.1; omega⟩
        · try (exact absurd c34 (by decide))
          all_goals (revert c34; (first | refine cv2 ?_ | refine cv4 ?_ | refine cv6 ?_ | refine cv8 ?_ | refine cva ?_ | refine cvc ?_ | refine cve ?_ | skip); intro c34)
          all_goals (refine k_exit rfl ?_; refine k_blk ?_; refine k_region ?_; refine j_move ?_; refine l_quiet (o_inc (by exact rfl) (by exact rfl) (by omega)) rfl ?_; refine j_assignL (fun _ => ?_); refine l_nil ?_)
          all_goals
           refine k_roundF ((z.1 + 1, y.2)) ?_ ?_ (by repeat (first | (with_reducible exact Pre.refl) | refine Pre.cons (by exact rfl) ?_)) ?_ (fun w hw => hw.back)
           · first | omega | (simp only []; omega)
           · repeat' (first | exact knows_nil _ | refine knows_cons ?_ ?_)
             all_goals (first | exact rfl | (conv => { lhs; whnf }; simp; done) | (conv => { lhs; whnf }; congr 1; omega))
           · refine ⟨?_, r2, by show a + 1 ≤ z.1 + 1; omega, by show z.1 + 1 ≤ N + 1; omega⟩
             rw [show b - z.1 = (b - (z.1 + 1)) + 1 by omega, insI, ← r1, insJ_stop ?_] at q1
             · exact q1
             · rintro ⟨s1, s2⟩
               first | omega | exact absurd (cmpS_lt.2 s2) (by assumption) | (simp_all; done)
    · try (exact absurd c14 (by decide))
      all_goals (revert c14; (first | refine cv2 ?_ | refine cv4 ?_ | refine cv6 ?_ | refine cv8 ?_ | refine cva ?_ | refine cvc ?_ | refine cve ?_ | skip); intro c14)
      all_goals refine k_exit rfl ?_
      all_goals
       refine k_endvF Try.results75 .nil (fun w hw => ?_)
       rw [show b - z.1 = 0 by omega] at q1
       rw [← q1]
       exact ⟨(), rfl, trivial, hw.finH⟩
end
end Go.Proofs.Ytpfjjagcmjmfpaa

/- Pairs: Find, Put, Drop of the program. -/
set_option linter.unusedSimpArgs false
set_option linter.unusedVariables false
namespace Go.Ct
open Go Go.RowKit
section
variable {P : Program} {n : Nat} {S : List (Nat × Value)}
variable {w0 w w' : World} {M : List Nat} {H H' : List (Nat × Obj)} {A F F' : Fr} {O O' : List Ow} {G : World → Prop}
variable {d : Nat} {ty : TypeId} {pos : String} {af : Array Edge} {gd : Option (Nat × Bool)} {dst : Option Nat} {x y z : Operand} {t t2 e : TypeId} {p a : Option Addr} {i m k c c2 : Nat}
/-- A pair list's tail lies there. -/
def tlP (a : Option Addr) (k c : Nat) : Option Addr := if c = k then a else a.map (·.add (2 * k))
theorem o_tailQP (hx : ev S x = .slice a m c) (hy : ev S y = .int .i64 ((k : Nat) : Int)) (ht : P.underlying t = some (.slice e)) (hs : (P.info? e).map (·.size) = some 2) (hk : k ≤ m) (hmc : m ≤ c) :
    Quiet P S G ⟨some d, .slice t x (some y) none none, ty, pos, af, gd⟩ (.slice (tlP a k c) (m - k) (c - k)) := ⟨fun w _ => by
  have he : P.elem t = e := by simp [Program.elem, ht]
  have ht' : P.underlying t = some (.slice (P.elem t)) := by rw [he]; exact ht
  cases hi : P.info? e with
  | none => simp [hi] at hs
  | some inf =>
    have hs' : inf.size = 2 := by simpa [hi] using hs
    have hr := run_slice_l (P := P) w t a m c ht' .i64 (k : Int) (by omega) (by omega)
    refine run_sl (v := .slice (tlP a k c) (m - k) (c - k)) ?_
    simp [hx, hy, run_sliceAt_slice w t _ _ _ _ ht', hr, he, sizeOf, typeInfo, hi, hs', sliced, tlP, Nat.mul_comm]⟩
theorem SF.tailP (h : SF w0 M H A F O w) {l : List Pr} (hf : FIn A F [] a (prC l)) (hc : l.length ≤ c) : SF w0 M H ((tlP a k c, prC (l.drop k)) :: A) F O w := by
  have e : prC (l.drop k) = (prC l).drop (2 * k) := by rw [drop_prC]
  rw [e]
  refine h.addOld hf (fun hn => ?_) (fun h => by rw [h]; simp) (fun w hc' => ?_)
  · unfold tlP
    split
    · rfl
    · cases a with
      | none => rfl
      | some a =>
        obtain ⟨b, o, s⟩ := a
        simp only [Option.map_some, ablk, Addr.add]
        split <;> rfl
  · unfold tlP
    split
    · rename_i heq
      have : (prC l).drop (2 * k) = [] := List.drop_eq_nil_of_le (by rw [prC_length]; omega)
      rw [this]
      exact Cl.nil _ _
    · exact hc'.drop _
theorem SF.headP (h : SF w0 M H A F O w) {l : List Pr} (hf : FIn A F [] a (prC l)) : SF w0 M H ((a, prC (l.take k)) :: A) F O w := by
  have e : prC (l.take k) = (prC l).take (2 * k) := by rw [take_prC]
  rw [e]
  exact h.addOld hf (fun _ => rfl) (fun h => by rw [h]; simp) (fun w hc => hc.take (List.take_prefix _ _))
/-- l[k:] of an own list. -/
theorem o_tailOQ {b : Nat} (hx : ev S x = .slice (some ⟨b, 0, none⟩) m c) (hy : ev S y = .int .i64 ((k : Nat) : Int)) (ht : P.underlying t = some (.slice e)) (hs : (P.info? e).map (·.size) = some 2) (hk : k ≤ m) (hmc : m ≤ c) :
    Quiet P S G ⟨some d, .slice t x (some y) none none, ty, pos, af, gd⟩ (.slice (some ⟨b, 2 * (if c = k then 0 else k), none⟩) (m - k) (c - k)) := by
  have := o_tailQP (P := P) (G := G) (d := d) (ty := ty) (pos := pos) (af := af) (gd := gd) hx hy ht hs hk hmc
  rw [show tlP (some ⟨b, 0, none⟩) k c = some ⟨b, 2 * (if c = k then 0 else k), none⟩ by
    unfold tlP
    split
    · rfl
    · simp [Addr.add_lit]] at this
  exact this
end
end Go.Ct
namespace Go.Proofs.Ytpfjjagcmjmfpaa
open Go.RowKit Go.Ct
section
variable {l : List Pr} {a : Option Addr} {c : Nat} {k : ByteArray} {v : Int} {w : World}
open Classical in
noncomputable def findO (l : List Pr) (k : ByteArray) : Option Int := if SA l then fnd l k else none
open Classical in
noncomputable def putO (l : List Pr) (k : ByteArray) (v : Int) : List Pr := if SA l then putL l k v else []
open Classical in
noncomputable def dropO (l : List Pr) (k : ByteArray) : List Pr := if SA l then dropL l k else []
/-- What Put and Drop give back: a list of one's own. -/
def POwn (w : World) (m : List Pr) (e : Ending) (w' : World) : Prop := ∃ x : Option Addr × Nat, e = .returned (.slice x.1 m.length x.2) ∧ m.length ≤ x.2 ∧ SF w [] [] [] [] [⟨x.1, prC m, x.2, 56, 2⟩] w'
theorem put_copy {l : List Pr} {i n : Nat} {z : Pr} (hi : i ≤ l.length) (hn : i ≤ n) :
    (List.replicate n z).take 0 ++ (l.take i).take (min i n) ++ (List.replicate n z).drop (0 + min i n) = l.take i ++ List.replicate (n - i) z := by
  rw [show min i n = i by omega, List.take_take, Nat.min_self, Nat.zero_add, List.take_zero, List.nil_append, List.drop_replicate]
theorem put_set {l : List Pr} {i n : Nat} {p z : Pr} (hi : i ≤ l.length) (hn : i + 1 ≤ n) : (l.take i ++ List.replicate (n - i) z).set i p = l.take i ++ p :: List.replicate (n - 1 - i) z := by
  rw [List.set_append_right _ _ (by rw [List.length_take]; omega), List.length_take, Nat.min_eq_left hi, Nat.sub_self, show n - i = (n - 1 - i) + 1 by omega, List.replicate_succ, List.set_cons_zero]
theorem put_copy2 {l : List Pr} {i q : Nat} {p z : Pr} (hi : i ≤ l.length) (hq : q = if l.length + 1 = i + 1 then 0 else i + 1) :
    (l.take i ++ p :: List.replicate (l.length - i) z).take q ++ (l.drop i).take (min (l.length - i) (l.length + 1 - (i + 1))) ++ (l.take i ++ p :: List.replicate (l.length - i) z).drop (q + min (l.length - i) (l.length + 1 - (i + 1))) = l.take i ++ p :: l.drop i := by
  rw [show min (l.length - i) (l.length + 1 - (i + 1)) = l.length - i by omega]
  by_cases h : l.length = i
  · subst h
    rw [if_pos rfl] at hq
    subst hq
    simp
  · rw [if_neg (by omega)] at hq
    subst hq
    rw [List.take_append, List.take_of_length_le (l := l.take i) (by rw [List.length_take]; omega), List.length_take, Nat.min_eq_left hi, show i + 1 - i = 1 by omega]
    rw [List.take_of_length_le (l := l.drop i) (by rw [List.length_drop]; omega)]
    have e : (l.take i ++ p :: List.replicate (l.length - i) z).drop (i + 1 + (l.length - i)) = [] := List.drop_eq_nil_of_le (by rw [List.length_append, List.length_take, List.length_cons, List.length_replicate]; omega)
    rw [e, List.append_nil, List.take_succ_cons, List.take_zero, List.append_assoc]
    rfl
theorem drop_copy2 {l : List Pr} {i q : Nat} {z : Pr} (hi : i < l.length) (hq : q = if l.length - 1 = i then 0 else i) :
    (l.take i ++ List.replicate (l.length - 1 - i) z).take q ++ (l.drop (i + 1)).take (min (l.length - (i + 1)) (l.length - 1 - i)) ++ (l.take i ++ List.replicate (l.length - 1 - i) z).drop (q + min (l.length - (i + 1)) (l.length - 1 - i)) = l.take i ++ l.drop (i + 1) := by
  rw [show min (l.length - (i + 1)) (l.length - 1 - i) = l.length - 1 - i by omega]
  by_cases h : l.length - 1 = i
  · rw [if_pos h] at hq
    subst hq
    have e : l.length - 1 - i = 0 := by omega
    have e2 : l.drop (i + 1) = [] := List.drop_eq_nil_of_le (by omega)
    rw [e, e2]
    simp
  · rw [if_neg h] at hq
    subst hq
    rw [List.take_append_of_le_length (by rw [List.length_take]; omega), List.take_of_length_le (l := l.take q) (by rw [List.length_take]; omega)]
    rw [List.take_of_length_le (l := l.drop (q + 1)) (by rw [List.length_drop]; omega)]
    have e : (l.take q ++ List.replicate (l.length - 1 - q) z).drop (q + (l.length - 1 - q)) = [] := List.drop_eq_nil_of_le (by rw [List.length_append, List.length_take, List.length_replicate]; omega)
    rw [e, List.append_nil]
/-- The same, the list frozen. -/
def PRes (w : World) (m : List Pr) (e : Ending) (w' : World) : Prop := ∃ x : Option Addr × Nat, e = .returned (.slice x.1 m.length x.2) ∧ m.length ≤ x.2 ∧ SF w [] [] [] [(x.1, prC m)] [] w'
theorem POwn.res {w : World} {m : List Pr} {e : Ending} {w' : World} (h : POwn w m e w') : PRes w m e w' := by
  obtain ⟨x, h1, h2, h3⟩ := h
  exact ⟨x, h1, h2, h3.freeze .head (by simp)⟩
end
end Go.Proofs.Ytpfjjagcmjmfpaa

/- Pairs: the reference's Find, Put, Drop, Of, Equal. -/
set_option linter.unusedSimpArgs false
set_option linter.unusedVariables false
namespace Go.Proofs.Ytpfjjagcmjmfpaa
open Go.RowKit Go.Ct
section
variable {l : List Pr} {a : Option Addr} {c : Nat} {k : ByteArray} {v : Int} {w : World}
theorem fnd_at {l : List Pr} {k : ByteArray} : ∀ {i : Nat}, i < l.length → (∀ j, j < i → (l.getD j (⟨#[]⟩, 0)).1 ≠ k) → (l.getD i (⟨#[]⟩, 0)).1 = k → fnd l k = some (l.getD i (⟨#[]⟩, 0)).2 := by
  induction l with
  | nil => intro i h; simp at h
  | cons p l ih =>
    intro i h hn he
    cases i with
    | zero => exact if_pos he
    | succ i =>
      refine (if_neg (hn 0 (by omega))).trans ?_
      exact ih (by simp at h; omega) (fun j hj => hn (j + 1) (by omega)) he
theorem fnd_all {l : List Pr} {k : ByteArray} (h : ∀ j, j < l.length → (l.getD j (⟨#[]⟩, 0)).1 ≠ k) : fnd l k = none := fnd_none fun p hp => by
  obtain ⟨j, hj, rfl⟩ := List.getElem_of_mem hp
  have := h j hj
  rwa [getD_get hj] at this
theorem without_step {l : List Pr} {i : Nat} (hi : i < l.length) (k : ByteArray) : (l.take (i + 1)).filter (fun p => decide (p.1 ≠ k)) = (l.take i).filter (fun p => decide (p.1 ≠ k)) ++ (if (l.getD i (⟨#[]⟩, 0)).1 ≠ k then [l.getD i (⟨#[]⟩, 0)] else []) := by
  rw [List.take_add_one, List.getElem?_eq_getElem hi, getD_get hi, List.filter_append]
  congr 1
  by_cases h : l[i].1 = k <;> simp [h]
theorem dropL_take {l : List Pr} {i : Nat} (hi : i < l.length) (k : ByteArray) : dropL (l.take (i + 1)) k = if (l.getD i (⟨#[]⟩, 0)).1 = k then dropL (l.take i) k else dropL (l.take i) k ++ [l.getD i (⟨#[]⟩, 0)] := by
  unfold dropL
  rw [without_step hi k]
  by_cases h : (l.getD i (⟨#[]⟩, 0)).1 = k
  · rw [if_neg fun hn => hn h, if_pos h, List.append_nil]
  · rw [if_pos h, if_neg h]
theorem take_snoc {l : List Pr} {i : Nat} (hi : i < l.length) : l.take (i + 1) = l.take i ++ [l.getD i (⟨#[]⟩, 0)] := by
  rw [List.take_add_one, List.getElem?_eq_getElem hi, getD_get hi]; rfl
theorem dropL_not {l : List Pr} {k : ByteArray} : ∀ q ∈ dropL l k, q.1 ≠ k := fun q hq => by simpa using (List.mem_filter.1 hq).2
theorem dropL_le (l : List Pr) (k : ByteArray) : (dropL l k).length ≤ l.length := List.length_filter_le _ _
end
end Go.Proofs.Ytpfjjagcmjmfpaa

/- Sorting of short lists. -/
set_option linter.unusedSimpArgs false
set_option linter.unusedVariables false
namespace Go.Proofs.Ytpfjjagcmjmfpaa
open Go.RowKit Go.Ct
section
variable {ys l : List Pr} {p a : Option Addr} {c N : Nat} {w : World}
theorem SR.nil {ys : List Pr} {a : Nat} : SR ys a (a + 1) := fun i j h1 h2 h3 => by omega
/-- zs is ys with [a, b) in order. -/
def MS (ys : List Pr) (a b : Nat) (zs : List Pr) : Prop := SR zs a b ∧ Sg a b zs ys
/-- Insertion sort of a segment. -/
theorem ins_ms {ys : List Pr} {a b : Nat} (hab : a ≤ b) (hb : b ≤ ys.length) : MS ys a b (insI a (a + 1) (b - (a + 1)) ys) := by
  by_cases h : a < b
  · have := insI_said (a := a) (n := b - (a + 1)) (i := a + 1) (ys := ys) (by omega) (by omega) SR.nil
    rw [show a + 1 + (b - (a + 1)) = b by omega] at this
    exact this
  · rw [show b - (a + 1) = 0 by omega]
    exact ⟨fun i j h1 h2 h3 => by omega, Sg.rfl⟩
theorem o_mulN {S : List (Nat × Value)} {G : World → Prop} {d : Nat} {ty t t' : TypeId} {pos : String} {af : Array Edge} {gd : Option (Nat × Bool)} {x y : Operand} {u v : Int} {m n : Nat} (hx : ev S x = .int .i64 u) (hy : ev S y = .int .i64 v) (hu : u = (m : Int)) (hv : v = (n : Int)) (h : m * n ≤ 9223372036854775807) :
    Quiet Try.prog S G ⟨some d, .binOp .mul t x y t', ty, pos, af, gd⟩ (.int .i64 ((m * n : Nat) : Int)) := by
  have := o_mul (P := Try.prog) (G := G) (d := d) (ty := ty) (pos := pos) (af := af) (gd := gd) (t := t) (t' := t') hx hy
  rw [hu, hv, ← Int.natCast_mul, wrap_i64 (by omega) (by omega)] at this
  exact this
/-- At most 19: insertion sort. -/
theorem stable_c (ho : OwOk w ⟨p, prC ys, c, 56, 2⟩) (hN : ys.length = N) (hl : N ≤ 19) :
    Calls Try.prog 70 #[.slice p N c, .int .i64 (N : Int), fOf] w fun e w' => ∃ x : List Pr, e = .returned (.tuple #[]) ∧ MS ys 0 N x ∧ SF w (oblk p) [] [] [] [⟨p, prC x, c, 56, 2⟩] w' := by
  refine enter Try.func70 Try.ntmps70 rfl rfl (SF.o1 ho) ?_
  simp only [mkS]
  all_goals (refine k_seq ?_; refine k_region ?_; refine j_assignL (fun _ => ?_); refine l_nil ?_; refine k_seq ?_; refine k_region ?_; refine j_move ?_; refine j_assignL (fun _ => ?_); refine j_assignL (fun _ => ?_); refine l_nil ?_; refine k_seq ?_; refine k_block ?_)
  all_goals
   refine k_loopF [7, 8, 11, 12, 13, 14, 15, 16, 17, 18, 19, 20, 21, 22] (fun _ : Unit => [(7, .int .i64 ((0 : Nat) : Int)), (8, .int .i64 ((20 : Nat) : Int))]) (fun _ => True) (fun _ => _) (fun _ => _) (fun _ => [⟨p, prC ys, c, 56, 2⟩]) (fun _ => 0) (()) (by decide) (fun _ => by exact rfl) ?_ (trivial) (fun w hw => hw.back) (fun z f hx => ?_)
   · repeat (first | exact knows_nil _ | refine knows_cons (by first | exact rfl | (conv => { lhs; whnf }; simp; done)) ?_)
   dsimp only [mkU, List.map, List.cons_append, List.nil_append]
   all_goals (refine k_seq ?_; refine k_seq ?_; refine k_region ?_; refine j_move ?_; refine j_move ?_; refine j_leq ?_; refine l_nil ?_)
   all_goals
    refine k_if (fun c13 => ?_) (fun c13 => ?_)
    · try (exact absurd c13 (by decide))
      all_goals (revert c13; (first | refine cv1 ?_ | refine cv3 ?_ | refine cv5 ?_ | refine cv7 ?_ | refine cv9 ?_ | refine cvb ?_ | refine cvd ?_ | skip); intro c13)
      all_goals try (exfalso; omega)
      all_goals (refine k_skip ?_; refine k_block ?_; refine k_seq ?_; refine k_region ?_; refine j_move ?_; refine j_move ?_; refine j_move ?_; refine j_move ?_; (refine j_own (cFO (ho := (by repeat (first | exact OAt.head | apply OAt.tail))) (hc := fun w1 hw => insertion_c 0 N (hw.ow (by repeat (first | exact OAt.head | apply OAt.tail))) hN (by omega) (by omega) (by omega))) (fun x18 => ?_); try (refine l_fact (fun h18 => ?_))); refine l_nil ?_; refine k_seq ?_; refine k_region ?_; refine j_move ?_; refine j_assignL (fun _ => ?_); refine l_nil ?_; refine k_region ?_; refine j_move ?_; refine j_move ?_; refine l_quiet (o_addN (n := 20) (by exact rfl) (by exact rfl) (by omega)) rfl ?_; refine j_assignL (fun _ => ?_); refine l_nil ?_; refine k_blk ?_)
      all_goals
       refine k_roundF (()) ?_ ?_ (by repeat (first | (with_reducible exact Pre.refl) | refine Pre.cons (by exact rfl) ?_)) ?_ (fun w hw => hw.back)
       · first | omega | (simp only []; omega)
       · repeat' (first | exact knows_nil _ | refine knows_cons ?_ ?_)
         all_goals (first | exact rfl | (conv => { lhs; whnf }; simp; done) | (conv => { lhs; whnf }; congr 1; omega))
       · trivial
    · try (exact absurd c13 (by decide))
      all_goals (revert c13; (first | refine cv2 ?_ | refine cv4 ?_ | refine cv6 ?_ | refine cv8 ?_ | refine cva ?_ | refine cvc ?_ | refine cve ?_ | skip); intro c13)
      all_goals try (exfalso; omega)
      all_goals (refine k_exit rfl ?_; refine k_seq ?_; refine k_region ?_; refine j_move ?_; refine j_move ?_; refine j_move ?_; refine j_move ?_; (refine j_own (cFO (ho := (by repeat (first | exact OAt.head | apply OAt.tail))) (hc := fun w1 hw => insertion_c 0 N (hw.ow (by repeat (first | exact OAt.head | apply OAt.tail))) hN (by omega) (by omega) (by omega))) (fun x27 => ?_); try (refine l_fact (fun h27 => ?_))); refine l_nil ?_; refine k_block ?_)
      all_goals
       refine k_loopF [6, 7, 8, 9, 28, 29, 30, 31, 32, 33, 34, 35, 36, 37, 38, 39, 40, 41, 42, 43, 44, 45, 46, 47, 48, 49, 50, 51, 52, 53, 54, 55, 56, 57, 58, 59, 60, 61, 62] (fun _ : Unit => [(6, .int .i64 ((20 : Nat) : Int))]) (fun _ => True) (fun _ => _) (fun _ => _) (fun _ => [⟨p, prC (insI 0 (0 + 1) (N - (0 + 1)) ys), c, 56, 2⟩]) (fun _ => 0) (()) (by decide) (fun _ => by exact rfl) ?_ (trivial) (fun w hw => hw.back) (fun k f hx => ?_)
       · repeat (first | exact knows_nil _ | refine knows_cons (by first | exact rfl | (conv => { lhs; whnf }; simp; done)) ?_)
       dsimp only [mkU, List.map, List.cons_append, List.nil_append]
       all_goals (refine k_seq ?_; refine k_seq ?_; refine k_region ?_; refine j_move ?_; refine j_move ?_; refine j_lss ?_; refine l_nil ?_)
       all_goals
        refine k_if (fun c30 => ?_) (fun c30 => ?_)
        · try (exact absurd c30 (by decide))
          all_goals (revert c30; (first | refine cv1 ?_ | refine cv3 ?_ | refine cv5 ?_ | refine cv7 ?_ | refine cv9 ?_ | refine cvb ?_ | refine cvd ?_ | skip); intro c30)
          all_goals try (exfalso; omega)
          all_goals (refine k_skip ?_; refine k_block ?_; refine k_seq ?_; refine k_region ?_; refine j_move ?_; refine l_quiet (o_mulN (m := 2) (n := x.1) (by exact rfl) (by exact rfl) rfl rfl (by omega)) rfl ?_; refine j_assignL (fun _ => ?_); refine j_assignL (fun _ => ?_); refine l_nil ?_; refine k_seq ?_; refine k_block ?_)
          all_goals
           refine k_loopC [7, 8, 33, 34, 35, 36, 37, 38, 39, 40, 41, 42, 43, 44, 45, 46, 47, 48] (fun _ : Unit => []) (fun _ => True) (fun _ => 0) (()) (trivial) ?_ (fun k f hx => ?_)
           · repeat (first | exact knows_nil _ | refine knows_cons (by first | exact rfl | (conv => { lhs; whnf }; simp; done)) ?_)
           dsimp only [mkU, List.map, List.cons_append, List.nil_append]
           all_goals (refine k_seq ?_; refine k_seq ?_; refine k_region ?_; refine j_move ?_; refine j_move ?_; refine j_leq ?_; refine l_nil ?_)
           all_goals
            refine k_if (fun c35 => ?_) (fun c35 => ?_)
            · try (exact absurd c35 (by decide))
              all_goals (revert c35; (first | refine cv1 ?_ | refine cv3 ?_ | refine cv5 ?_ | refine cv7 ?_ | refine cv9 ?_ | refine cvb ?_ | refine cvd ?_ | skip); intro c35)
              all_goals try (exfalso; omega)
              all_goals (refine k_skip ?_; refine k_block ?_; refine k_seq ?_; refine k_region ?_; refine j_move ?_; refine j_move ?_; refine j_move ?_; refine j_move ?_; refine l_quiet (o_addN (by exact rfl) (by exact rfl) (by omega)) rfl ?_; refine j_move ?_; refine j_move ?_; (refine j_own (NO) (fun x43 => ?_); try (refine l_fact (fun h43 => ?_))); refine l_nil ?_; refine k_seq ?_; refine k_region ?_; refine j_move ?_; refine j_assignL (fun _ => ?_); refine l_nil ?_; refine k_region ?_; refine j_move ?_; refine j_move ?_; refine l_quiet (o_mulN (m := 2) (n := x.1) (by exact rfl) (by exact rfl) rfl rfl (by omega)) rfl ?_; refine l_quiet (o_addN (by exact rfl) (by exact rfl) (by omega)) rfl ?_; refine j_assignL (fun _ => ?_); refine l_nil ?_; refine k_blk ?_)
              all_goals
               refine k_roundC (()) ?_ ?_ ?_
               · first | omega | (simp only []; omega)
               · repeat' (first | exact knows_nil _ | refine knows_cons ?_ ?_)
                 all_goals (first | exact rfl | (conv => { lhs; whnf }; simp; done) | (conv => { lhs; whnf }; congr 1; omega))
               · trivial
            · try (exact absurd c35 (by decide))
              all_goals (revert c35; (first | refine cv2 ?_ | refine cv4 ?_ | refine cv6 ?_ | refine cv8 ?_ | refine cva ?_ | refine cvc ?_ | refine cve ?_ | skip); intro c35)
              all_goals try (exfalso; omega)
              all_goals (refine k_exit rfl ?_; refine k_seq ?_; refine k_seq ?_; refine k_region ?_; refine j_move ?_; refine j_move ?_; refine l_quiet (o_addN (m := 0) (n := x.1) (by exact rfl) (by exact rfl) (by omega)) rfl ?_; refine j_assignL (fun _ => ?_); refine l_nil ?_; refine k_seq ?_; refine k_region ?_; refine j_move ?_; refine j_move ?_; refine j_lss ?_; refine l_nil ?_)
              all_goals
               refine k_if (fun c54 => ?_) (fun c54 => ?_)
               · try (exact absurd c54 (by decide))
                 all_goals (revert c54; (first | refine cv1 ?_ | refine cv3 ?_ | refine cv5 ?_ | refine cv7 ?_ | refine cv9 ?_ | refine cvb ?_ | refine cvd ?_ | skip); intro c54)
                 all_goals try (exfalso; omega)
                 all_goals (refine k_region ?_; refine j_move ?_; refine j_move ?_; refine j_move ?_; refine j_move ?_; refine j_move ?_; (refine j_own (NO) (fun x60 => ?_); try (refine l_fact (fun h60 => ?_))); refine l_nil ?_; refine k_region ?_; refine j_move ?_; refine l_quiet (o_mulN (m := x.1) (n := 2) (by exact rfl) (by exact rfl) rfl rfl (by omega)) rfl ?_; refine j_assignL (fun _ => ?_); refine l_nil ?_; refine k_blk ?_)
                 all_goals
                  refine k_roundF (()) ?_ ?_ (by repeat (first | (with_reducible exact Pre.refl) | refine Pre.cons (by exact rfl) ?_)) ?_ (fun w hw => hw.back)
                  · first | omega | (simp only []; omega)
                  · repeat' (first | exact knows_nil _ | refine knows_cons ?_ ?_)
                    all_goals (first | exact rfl | (conv => { lhs; whnf }; simp; done) | (conv => { lhs; whnf }; congr 1; omega))
                  · trivial
               · try (exact absurd c54 (by decide))
                 all_goals (revert c54; (first | refine cv2 ?_ | refine cv4 ?_ | refine cv6 ?_ | refine cv8 ?_ | refine cva ?_ | refine cvc ?_ | refine cve ?_ | skip); intro c54)
                 all_goals try (exfalso; omega)
                 all_goals (refine k_skip ?_; refine k_region ?_; refine j_move ?_; refine l_quiet (o_mulN (m := x.1) (n := 2) (by exact rfl) (by exact rfl) rfl rfl (by omega)) rfl ?_; refine j_assignL (fun _ => ?_); refine l_nil ?_; refine k_blk ?_)
                 all_goals
                  refine k_roundF (()) ?_ ?_ (by repeat (first | (with_reducible exact Pre.refl) | refine Pre.cons (by exact rfl) ?_)) ?_ (fun w hw => hw.back)
                  · first | omega | (simp only []; omega)
                  · repeat' (first | exact knows_nil _ | refine knows_cons ?_ ?_)
                    all_goals (first | exact rfl | (conv => { lhs; whnf }; simp; done) | (conv => { lhs; whnf }; congr 1; omega))
                  · trivial
        · try (exact absurd c30 (by decide))
          all_goals (revert c30; (first | refine cv2 ?_ | refine cv4 ?_ | refine cv6 ?_ | refine cv8 ?_ | refine cva ?_ | refine cvc ?_ | refine cve ?_ | skip); intro c30)
          all_goals try (exfalso; omega)
          all_goals refine k_exit rfl ?_
          all_goals
           refine k_endvF Try.results70 .nil (fun w hw => ?_)
           exact ⟨_, rfl, ins_ms (Nat.zero_le _) (by omega), hw.finH⟩
theorem sortStable_c (ho : OwOk w ⟨p, prC ys, c, 56, 2⟩) (hN : ys.length = N) (hl : N ≤ 19) :
    Calls Try.prog 58 #[.slice p N c, fOf] w fun e w' => ∃ x : List Pr, e = .returned (.tuple #[]) ∧ MS ys 0 N x ∧ SF w (oblk p) [] [] [] [⟨p, prC x, c, 56, 2⟩] w' := by
  refine enter Try.func58 Try.ntmps58 rfl rfl (SF.o1 ho) ?_
  simp only [mkS]
  all_goals (refine k_region ?_; refine j_move ?_; refine j_move ?_; refine j_len ?_; refine j_move ?_; (refine j_own (cFO (ho := (by repeat (first | exact OAt.head | apply OAt.tail))) (hc := fun w1 hw => stable_c (hw.ow (by repeat (first | exact OAt.head | apply OAt.tail))) hN hl)) (fun x8 => ?_); try (refine l_fact (fun h8 => ?_))); refine l_nil ?_)
  all_goals
   refine k_endvF Try.results58 .nil (fun w hw => ?_)
   exact ⟨x8, rfl, h8, hw.finH⟩
end
end Go.Proofs.Ytpfjjagcmjmfpaa

/- Pairs: Of. -/
set_option linter.unusedSimpArgs false
set_option linter.unusedVariables false
namespace Go.Proofs.Ytpfjjagcmjmfpaa
open Go.RowKit Go.Ct
section
variable {ys l : List Pr} {p a : Option Addr} {c N : Nat} {w : World}
theorem drop_get {ys : List Pr} {k : Nat} (h : k < ys.length) : ys.drop k = ys.getD k (⟨#[]⟩, 0) :: ys.drop (k + 1) := by
  rw [List.drop_eq_getElem_cons h, getD_get h]
theorem lasts_skip {ys : List Pr} {k : Nat} (h : k + 1 < ys.length) (e : (ys.getD (k + 1) (⟨#[]⟩, 0)).1 = (ys.getD k (⟨#[]⟩, 0)).1) : lastsL (ys.drop k) = lastsL (ys.drop (k + 1)) := by
  rw [drop_get (by omega), drop_get h, lastsL, if_pos e]
theorem lasts_keep {ys : List Pr} {k : Nat} (h : k < ys.length) (hn : ¬ (k + 1 < ys.length ∧ (ys.getD (k + 1) (⟨#[]⟩, 0)).1 = (ys.getD k (⟨#[]⟩, 0)).1)) : lastsL (ys.drop k) = ys.getD k (⟨#[]⟩, 0) :: lastsL (ys.drop (k + 1)) := by
  rw [drop_get h]
  by_cases h1 : k + 1 < ys.length
  · rw [drop_get h1, lastsL, if_neg fun e => hn ⟨h1, e⟩]
  · rw [List.drop_eq_nil_of_le (by omega)]; rfl
theorem prOf_o (ha : Cl w a (prC l)) (hc : l.length ≤ c) (hlen : l.length ≤ 19) :
    Calls Try.prog 41 #[.slice a l.length c] w (POwn w (ofL l)) := by
  refine enter Try.func41 Try.ntmps41 rfl rfl (SF.s1 ha) ?_
  simp only [mkS]
  all_goals (refine k_seq ?_; refine k_region ?_; refine j_assignL (fun _ => ?_); refine l_nil ?_; refine k_seq ?_; refine k_region ?_; refine j_move ?_; refine j_len ?_; refine j_makeSlice (fun x9 => ?_); refine j_assignL (fun _ => ?_); refine l_nil ?_; refine k_seq ?_; refine k_region ?_; refine j_move ?_; refine j_move ?_; refine j_copy (fun x12 => ?_); refine l_nil ?_; refine k_seq ?_; refine k_region ?_; refine j_move ?_; (refine j_own (cFO (ho := (by repeat (first | exact OAt.head | apply OAt.tail))) (hc := fun w1 hw => sortStable_c (hw.ow (by repeat (first | exact OAt.head | apply OAt.tail))) rfl hlen)) (fun x14 => ?_); try (refine l_fact (fun h14 => ?_))); refine l_nil ?_; refine k_seq ?_; refine k_region ?_; refine j_move ?_; refine j_len ?_; refine j_own (o_makeP (m := 0) (k := l.length) (by exact rfl) (by exact rfl) (by exact elem_pairT rfl) (by omega) (by omega)) (fun x17 => ?_); refine j_assignL (fun _ => ?_); refine l_nil ?_; refine k_seq ?_; refine k_seq ?_; refine k_region ?_; refine j_move ?_; refine j_len ?_; refine j_move ?_; refine l_nil ?_; refine k_block ?_)
  all_goals
   have hl14 := h14.2.len
   refine k_loopF [4, 5, 6, 20, 21, 22, 23, 24, 25, 26, 27, 28, 29, 30, 31, 32, 33, 34, 35, 36, 37, 38, 39, 40, 41, 42, 43, 44, 45] (fun z : Nat × Option Addr × List Pr × Nat => [(20, .int .i64 ((z.1 : Nat) : Int)), (4, .slice z.2.1 z.2.2.1.length z.2.2.2)]) (fun z => z.1 ≤ l.length ∧ z.2.2.1.length ≤ z.2.2.2 ∧ z.2.2.1 ++ lastsL (x14.drop z.1) = lastsL x14 ∧ z.2.2.1.length ≤ z.1) (fun _ => _) (fun _ => _) (fun z => [⟨z.2.1, prC z.2.2.1, z.2.2.2, 56, 2⟩, ⟨some ⟨x9, 0, none⟩, prC x14, l.length, 56, 2⟩]) (fun z => l.length - z.1) ((0, some ⟨x17, 0, none⟩, [], l.length)) (by decide) (fun _ => by exact rfl) ?_ (⟨Nat.zero_le _, Nat.zero_le _, rfl, Nat.le_refl _⟩) (fun w hw => hw.back) (fun z f hx => ?_)
   · repeat (first | exact knows_nil _ | refine knows_cons (by first | exact rfl | (conv => { lhs; whnf }; simp; done)) ?_)
   dsimp only [mkU, List.map, List.cons_append, List.nil_append]
   obtain ⟨q1, q2, q3, q4⟩ := hx
   all_goals (refine k_seq ?_; refine k_region ?_; refine j_lss ?_; refine l_nil ?_; refine k_seq ?_)
   all_goals
    refine k_if (fun c21 => ?_) (fun c21 => ?_)
    · try (exact absurd c21 (by decide))
      all_goals (revert c21; (first | refine cv1 ?_ | refine cv3 ?_ | refine cv5 ?_ | refine cv7 ?_ | refine cv9 ?_ | refine cvb ?_ | refine cvd ?_ | skip); intro c21)
      all_goals (refine k_skip ?_; refine k_seq ?_; refine k_block ?_; refine k_seq ?_; refine k_region ?_; refine j_move ?_; refine j_indexAddr ?_; refine j_load ?_; refine j_alloc (fun x6 => ?_); refine j_assignL (fun _ => ?_); refine j_store (fun _ => ?_); refine l_nil ?_; refine k_seq ?_; refine k_seq ?_; refine k_drawF (.one 0 [] (.one 1 [] (.one 2 [] (.one 3 [] (.one 4 [] (.one 5 [] (.one 6 [] (.one 7 [] (.one 8 [] (.one 9 [] (.one 10 [] (.one 11 [] (.one 12 [] (.one 13 [] (.one 14 [] (.one 15 [] .nil)))))))))))))))) ?_; refine r_move (i := 0) ?_; refine r_inc (i := 1) ?_; refine r_move (i := 2) ?_; refine r_len (i := 3) ?_; refine r_lss (i := 4) ?_; refine r_move (i := 5) ?_)
      all_goals (first | refine r_un (i := 6) ?_ | (refine r_move (i := 6) ?_) | (refine r_case (g := 30) (by exact rfl) (fun g30 => ?_) (fun g30 => ?_) <;> (revert g30; (first | refine cv1 ?_ | refine cv2 ?_ | refine cvb ?_ | refine cvc ?_ | refine cv9 ?_ | refine cva ?_ | refine cv7 ?_ | refine cv8 ?_ | refine cvd ?_ | refine cve ?_ | skip); intro g30) <;> (first | refine r_un (i := 6) ?_ | (refine r_move (i := 6) ?_))))
      all_goals ((first | refine r_un (i := 7) ?_ | (refine r_move (i := 7) ?_)); (first | refine r_un (i := 8) ?_ | (refine r_inc (i := 8) ?_)); (first | refine r_un (i := 9) ?_ | (refine r_indexAddr (i := 9) ?_)); (first | refine r_un (i := 10) ?_ | (refine r_fieldAddr (i := 10) ?_)); (first | refine r_un (i := 11) ?_ | (refine r_load (i := 11) ?_)); (first | refine r_un (i := 12) ?_ | (refine r_fieldAddr (i := 12) ?_)); (first | refine r_un (i := 13) ?_ | (refine r_load (i := 13) ?_)); (first | refine r_un (i := 14) ?_ | (refine r_seq (i := 14) ?_)); refine r_pick (i := 15) ?_; refine r_fin ?_)
      all_goals
       refine k_if (fun c40 => ?_) (fun c40 => ?_)
       · try (exact absurd c40 (by decide))
         all_goals (revert c40; (first | refine cv1 ?_ | refine cv3 ?_ | refine cv5 ?_ | refine cv7 ?_ | refine cv9 ?_ | refine cvb ?_ | refine cvd ?_ | skip); intro c40)
         all_goals (refine k_exit rfl ?_; refine k_region ?_; refine j_inc ?_; refine j_move ?_; refine l_nil ?_)
         all_goals
          refine k_roundF ((by first | exact (z.1 + 1, x44.1, z.2.2.1 ++ [x14.getD z.1 (⟨#[]⟩, 0)], x44.2) | exact (z.1 + 1, z.2.1, z.2.2.1, z.2.2.2))) ?_ ?_ (by repeat (first | (with_reducible exact Pre.refl) | refine Pre.cons (by exact rfl) ?_)) ?_ (fun w hw => by first | exact hw.back (hO := by exact List.Sublist.refl _) | (rw [show z.2.2.1.length + 1 = (z.2.2.1 ++ [x14.getD z.1 (⟨#[]⟩, 0)]).length by simp] at hw; exact hw.back (hO := by exact List.Sublist.refl _)))
          · first | omega | (simp only []; omega)
          · repeat' (first | exact knows_nil _ | refine knows_cons ?_ ?_)
            all_goals (first | exact rfl | (conv => { lhs; whnf }; simp; done) | (conv => { lhs; whnf }; congr 1; omega))
          · first
            | (rw [lasts_skip (by omega) (by assumption)] at q3; exact ⟨by show z.1 + 1 ≤ l.length; omega, q2, q3, by show z.2.2.1.length ≤ z.1 + 1; omega⟩)
            | (rw [lasts_keep (by omega) (by first | (rintro ⟨s1, s2⟩; omega) | (rintro ⟨s1, s2⟩; exact absurd s2 (by assumption)))] at q3; exact ⟨by show z.1 + 1 ≤ l.length; omega, by simp only [List.length_append, List.length_cons, List.length_nil]; omega, by show z.2.2.1 ++ [x14.getD z.1 (⟨#[]⟩, 0)] ++ _ = _; rw [List.append_assoc]; exact q3, by simp only [List.length_append, List.length_cons, List.length_nil]; omega⟩)
       · try (exact absurd c40 (by decide))
         all_goals (revert c40; (first | refine cv2 ?_ | refine cv4 ?_ | refine cv6 ?_ | refine cv8 ?_ | refine cva ?_ | refine cvc ?_ | refine cve ?_ | skip); intro c40)
         all_goals (refine k_skip ?_; refine k_region ?_; refine j_move ?_; refine j_load ?_; refine j_buildSlice (fun x43 => ?_); (refine j_append (fun x44 => ?_); try (refine l_fact (fun h44 => ?_))); refine j_assignL (fun _ => ?_); refine l_nil ?_; refine k_blk ?_; refine k_region ?_; refine j_inc ?_; refine j_move ?_; refine l_nil ?_)
         all_goals
          refine k_roundF ((by first | exact (z.1 + 1, x44.1, z.2.2.1 ++ [x14.getD z.1 (⟨#[]⟩, 0)], x44.2) | exact (z.1 + 1, z.2.1, z.2.2.1, z.2.2.2))) ?_ ?_ (by repeat (first | (with_reducible exact Pre.refl) | refine Pre.cons (by exact rfl) ?_)) ?_ (fun w hw => by first | exact hw.back (hO := by exact List.Sublist.refl _) | (rw [show z.2.2.1.length + 1 = (z.2.2.1 ++ [x14.getD z.1 (⟨#[]⟩, 0)]).length by simp] at hw; exact hw.back (hO := by exact List.Sublist.refl _)))
          · first | omega | (simp only []; omega)
          · repeat' (first | exact knows_nil _ | refine knows_cons ?_ ?_)
            all_goals (first | exact rfl | (conv => { lhs; whnf }; simp; done) | (conv => { lhs; whnf }; congr 1; omega))
          · first
            | (rw [lasts_skip (by omega) (by assumption)] at q3; exact ⟨by show z.1 + 1 ≤ l.length; omega, q2, q3, by show z.2.2.1.length ≤ z.1 + 1; omega⟩)
            | (rw [lasts_keep (by omega) (by first | (rintro ⟨s1, s2⟩; omega) | (rintro ⟨s1, s2⟩; exact absurd s2 (by assumption)))] at q3; exact ⟨by show z.1 + 1 ≤ l.length; omega, by simp only [List.length_append, List.length_cons, List.length_nil]; omega, by show z.2.2.1 ++ [x14.getD z.1 (⟨#[]⟩, 0)] ++ _ = _; rw [List.append_assoc]; exact q3, by simp only [List.length_append, List.length_cons, List.length_nil]; omega⟩)
    · try (exact absurd c21 (by decide))
      all_goals (revert c21; (first | refine cv2 ?_ | refine cv4 ?_ | refine cv6 ?_ | refine cv8 ?_ | refine cva ?_ | refine cvc ?_ | refine cve ?_ | skip); intro c21)
      all_goals (refine k_exit rfl ?_; refine k_seq ?_; refine k_region ?_; refine j_move ?_; refine j_assignL (fun _ => ?_); refine l_nil ?_)
      all_goals
       refine k_rv Try.results41 (fun w hw => ?_)
       have e : z.2.2.1 = ofL l := by
        rw [List.drop_eq_nil_of_le (by omega), show lastsL [] = [] from rfl, List.append_nil] at q3
        rw [q3]
        exact lasts_of (SR.ws (by rw [hl14]; exact h14.1)) h14.2.stb
       rw [← e]
       exact ⟨(z.2.1, z.2.2.2), rfl, q2, hw.finH⟩
end
end Go.Proofs.Ytpfjjagcmjmfpaa

/- Pairs: the algebra. -/
set_option linter.unusedSimpArgs false
set_option linter.unusedVariables false
namespace Go.Proofs.Ytpfjjagcmjmfpaa
open Go.RowKit Go.Ct
section
variable {l X : List Pr} {a : Option Addr} {c M : Nat} {k j : ByteArray} {v z : Int} {w : World}
theorem putO_eq (h : SA X) (k : ByteArray) (v : Int) : putO X k v = putL X k v := if_pos h
theorem dropO_eq (h : SA X) (k : ByteArray) : dropO X k = dropL X k := if_pos h
theorem findO_eq (h : SA X) (k : ByteArray) : findO X k = fnd X k := if_pos h
theorem putO_sa (h : SA X) (k : ByteArray) (v : Int) : SA (putO X k v) := by rw [putO_eq h]; exact putL_sa h
theorem dropO_sa (h : SA X) (k : ByteArray) : SA (dropO X k) := by rw [dropO_eq h]; exact dropL_sa k h
theorem putO_fnd (h : SA X) (k : ByteArray) (v : Int) (j : ByteArray) : fnd (putO X k v) j = if j = k then some v else fnd X j := by rw [putO_eq h]; exact putL_fnd j h
theorem dropO_fnd (h : SA X) (k j : ByteArray) : fnd (dropO X k) j = if j = k then none else fnd X j := by rw [dropO_eq h]; exact dropL_fnd X k j
theorem putO_le (X : List Pr) (k : ByteArray) (v : Int) : (putO X k v).length ≤ X.length + 1 := by
  unfold putO
  split
  · next h => rw [put_len h]; split <;> omega
  · exact Nat.zero_le _
theorem dropO_le (X : List Pr) (k : ByteArray) : (dropO X k).length ≤ X.length := by
  unfold dropO
  split
  · exact dropL_le X k
  · exact Nat.zero_le _
theorem putO_find (h : SA X) (k : ByteArray) (v : Int) : findO (putO X k v) k = some v := by rw [findO_eq (putO_sa h k v), putO_fnd h, if_pos rfl]
theorem dropO_find (h : SA X) (k : ByteArray) : findO (dropO X k) k = none := by rw [findO_eq (dropO_sa h k), dropO_fnd h, if_pos rfl]
theorem putO_other (h : SA X) (k : ByteArray) (v : Int) (hj : j ≠ k) : findO (putO X k v) j = findO X j := by rw [findO_eq (putO_sa h k v), putO_fnd h, if_neg hj, findO_eq h]
theorem dropO_other (h : SA X) (k : ByteArray) (hj : j ≠ k) : findO (dropO X k) j = findO X j := by rw [findO_eq (dropO_sa h k), dropO_fnd h, if_neg hj, findO_eq h]
theorem put_again (h : SA X) (k : ByteArray) (v : Int) : putO (putO X k v) k v = putO X k v :=
  sa_ext (putO_sa (putO_sa h k v) k v) (putO_sa h k v) fun i => by
    rw [putO_fnd (putO_sa h k v), putO_fnd h]
    by_cases hi : i = k
    · rw [if_pos hi, if_pos hi]
    · rw [if_neg hi]
theorem put_comm (h : SA X) (hkj : k ≠ j) (v z : Int) : putO (putO X k v) j z = putO (putO X j z) k v :=
  sa_ext (putO_sa (putO_sa h k v) j z) (putO_sa (putO_sa h j z) k v) fun i => by
    rw [putO_fnd (putO_sa h k v), putO_fnd h, putO_fnd (putO_sa h j z), putO_fnd h]
    by_cases hi : i = k
    · subst hi; rw [if_neg hkj, if_pos rfl, if_pos rfl]
    · rw [if_neg hi, if_neg hi]
theorem drop_put (h : SA X) (hkj : k ≠ j) (v : Int) : dropO (putO X k v) j = putO (dropO X j) k v :=
  sa_ext (dropO_sa (putO_sa h k v) j) (putO_sa (dropO_sa h j) k v) fun i => by
    rw [dropO_fnd (putO_sa h k v), putO_fnd h, putO_fnd (dropO_sa h j), dropO_fnd h]
    by_cases hi : i = k
    · subst hi; rw [if_neg hkj, if_pos rfl, if_pos rfl]
    · rw [if_neg hi, if_neg hi]
theorem putO_len (h : SA X) (k : ByteArray) (v : Int) : (putO X k v).length = if (findO X k).isSome = true then X.length else X.length + 1 := by rw [putO_eq h, findO_eq h]; exact put_len h
theorem dropO_len (h : SA X) (k : ByteArray) : (dropO X k).length = if (findO X k).isSome = true then X.length - 1 else X.length := by rw [dropO_eq h, findO_eq h]; exact drop_len h
theorem find_some_len (h : SA X) (hk : (findO X k).isSome = true) : 1 ≤ X.length := by
  rw [findO_eq h] at hk
  cases hf : fnd X k with
  | none => rw [hf] at hk; cases hk
  | some v => obtain ⟨i, hi, _⟩ := fnd_lt hf; omega
theorem prsT_c {xs ys : List Pr} {a b : Option Addr} {ca cb : Nat} {w : World} (h : xs = ys) (ha : Cl w a (prC xs)) (hb : Cl w b (prC ys)) (hx : xs.length ≤ 1000000) :
    Calls Try.prog 18 #[.slice a xs.length ca, .slice b ys.length cb] w fun e w' => e = .returned (.bool true) ∧ St w [] [] w' := by
  have := prs_c (ca := ca) (cb := cb) ha hb (by omega)
  rw [decide_eq_true h] at this
  exact this
end
end Go.Proofs.Ytpfjjagcmjmfpaa
