/- Branches: what the operations do to the map. -/
import Derived.Test.YthmagkjcangnfaaBr9
set_option linter.unusedSimpArgs false
set_option linter.unusedVariables false
namespace Go.Proofs.Ythmagkjcangnfaa
open Go.RowKit Go.Ct
/-- A C-node out of an operation: there is one, and its map is m. -/
def IsM (o : Option (Nat × List Int)) (m : Nat → Option Int) (len : Nat) : Prop := ∃ q : Nat × List Int, o = some q ∧ BV q.1 q.2 ∧ (∀ j, j < 64 → mOf q.1 q.2 j = m j) ∧ q.2.length = len
/-- If there is a node, it is one. -/
def AllBV (o : Option (Nat × List Int)) : Prop := ∀ q, o = some q → BV q.1 q.2
theorem IsM.all {o : Option (Nat × List Int)} {m : Nat → Option Int} {len : Nat} (h : IsM o m len) : AllBV o := fun q hq => by
  obtain ⟨q', h1, h2, _⟩ := h
  rw [h1] at hq; cases hq; exact h2
theorem all_none : AllBV none := fun _ h => by cases h
theorem mOf_has {b k : Nat} {xs : List Int} (hk : k < 64) : hasI b (k : Int) = (mOf b xs k).isSome := by
  rw [hasI_nat b hk]
  unfold mOf
  cases b.testBit k <;> rfl
section
variable {n : Nd} {b k : Nat} {xs : List Int} {ys : List Pr} {r : Int}
theorem le_len (h : BV b xs) (hk : k < 64) : cnt b k ≤ xs.length := by
  have := posN_le h (k : Int); rwa [posN_nat b hk] at this
theorem in_m (hcv : CV n xs ys) (h : BV b xs) (hk : k < 64) (hr : 1 ≤ r) (hm : (mOf b xs k).isSome = false) : IsM (inO n xs ys b (k : Int) r) (upd (mOf b xs) k (some r)) (xs.length + 1) := by
  have hb : hasI b (k : Int) = false := by rw [mOf_has hk]; exact hm
  have hb' := hb
  rw [hasI_nat b hk] at hb'
  refine ⟨(withI b (k : Int), insL xs (posN b (k : Int)) r), if_pos ⟨hcv, ⟨by omega, by omega⟩, hr, hb⟩, ?_⟩
  simp only [withI_nat b hk, posN_nat b hk]
  exact ⟨(ins_bv h hk hb' hr).1, (ins_bv h hk hb' hr).2, insL_len (le_len h hk) r⟩
theorem in_no (hm : (mOf b xs k).isSome = true) (hk : k < 64) : inO n xs ys b (k : Int) r = none := by
  refine if_neg fun h => ?_
  rw [mOf_has (xs := xs) hk, hm] at h
  exact absurd h.2.2.2 (by decide)
theorem up_m (hcv : CV n xs ys) (h : BV b xs) (hk : k < 64) (hr : 1 ≤ r) (hm : (mOf b xs k).isSome = true) : IsM (upO n xs ys b (k : Int) r) (upd (mOf b xs) k (some r)) xs.length := by
  have hb : hasI b (k : Int) = true := by rw [mOf_has hk]; exact hm
  have hb' := hb
  rw [hasI_nat b hk] at hb'
  refine ⟨(b, updL xs (posN b (k : Int)) r), if_pos ⟨hcv, hr, hb⟩, ?_⟩
  simp only [posN_nat b hk]
  exact ⟨(upd_bv h hk hb' hr).1, (upd_bv h hk hb' hr).2, updL_len (by rw [h.len]; exact cnt_lt hk hb') r⟩
theorem up_no (hm : (mOf b xs k).isSome = false) (hk : k < 64) : upO n xs ys b (k : Int) r = none := by
  refine if_neg fun h => ?_
  rw [mOf_has (xs := xs) hk, hm] at h
  exact absurd h.2.2 (by decide)
theorem re_m (hcv : CV n xs ys) (h : BV b xs) (hk : k < 64) (hm : (mOf b xs k).isSome = true) : IsM (reO n xs ys b (k : Int)) (upd (mOf b xs) k none) (xs.length - 1) := by
  have hb : hasI b (k : Int) = true := by rw [mOf_has hk]; exact hm
  have hb' := hb
  rw [hasI_nat b hk] at hb'
  refine ⟨(withoutI b (k : Int), remL xs (posN b (k : Int))), if_pos ⟨hcv, hb⟩, ?_⟩
  simp only [withoutI_nat b hk, posN_nat b hk]
  have := remL_len (xs := xs) (p := cnt b k) (by rw [h.len]; exact cnt_lt hk hb')
  exact ⟨(rem_bv h hk hb').1, (rem_bv h hk hb').2, by omega⟩
theorem re_no (hm : (mOf b xs k).isSome = false) (hk : k < 64) : reO n xs ys b (k : Int) = none := by
  refine if_neg fun h => ?_
  rw [mOf_has (xs := xs) hk, hm] at h
  exact absurd h.2 (by decide)
end
/-- Two nodes with one map are equal. -/
theorem isM_eq {o o' : Option (Nat × List Int)} {m m' : Nat → Option Int} {a a' : Nat} (h : IsM o m a) (h' : IsM o' m' a') (hm : ∀ j, j < 64 → m j = m' j) : o = o' := by
  obtain ⟨q, h1, h2, h3, _⟩ := h
  obtain ⟨q', h1', h2', h3', _⟩ := h'
  obtain ⟨e1, e2⟩ := bv_eq h2 h2' fun j hj => by rw [h3 j hj, h3' j hj, hm j hj]
  rw [h1, h1']
  exact congrArg some (Prod.ext e1 e2)
theorem isM_self {b : Nat} {xs : List Int} (h : BV b xs) : IsM (some (b, xs)) (mOf b xs) xs.length := ⟨(b, xs), rfl, h, fun _ _ => rfl, rfl⟩
/-- What Lookup says of it. -/
def lkM (o : Option (Nat × List Int)) (k : Nat) : Option Int := o.bind fun q => mOf q.1 q.2 k
theorem lkM_is {o : Option (Nat × List Int)} {m : Nat → Option Int} {len k : Nat} (h : IsM o m len) (hk : k < 64) : lkM o k = m k := by
  obtain ⟨q, h1, _, h3, _⟩ := h
  rw [h1]; exact h3 k hk
def resB (o : Option (Nat × List Int)) : Nat := match o with | some q => q.1 | none => 0
theorem resB_bm (o : Option (Nat × List Int)) (x : Option Addr × Nat) : (resN o x).bm = ((resB o : Nat) : Int) := by cases o <;> rfl
theorem resB_lt {o : Option (Nat × List Int)} (h : AllBV o) : resB o < 18446744073709551616 := by
  cases o with
  | none => show (0 : Nat) < 18446744073709551616; decide
  | some q => exact (h q rfl).lt
theorem res_cap {o : Option (Nat × List Int)} {x : Option Addr × Nat} (h : (resL o).length ≤ x.2) : (resL o).length ≤ (resN o x).brC := by
  cases o with
  | none => exact Nat.zero_le _
  | some q => exact h
theorem res_len {o : Option (Nat × List Int)} (h : AllBV o) : (resL o).length ≤ 64 := by
  cases o with
  | none => exact Nat.zero_le _
  | some q => have := (h q rfl).len; have := cnt_le q.1 64; show q.2.length ≤ 64; omega
theorem lkO_res {o : Option (Nat × List Int)} (h : AllBV o) (x : Option Addr × Nat) {k : Nat} (hk : k < 64) : lkO (resN o x) (resL o) [] (resB o) (k : Int) = lkM o k := by
  cases o with
  | none =>
    refine if_neg fun hh => ?_
    have := hh.1.1
    simp [resN, Nd.zero] at this
  | some q => exact lkO_mOf (cv_cn0 (h q rfl) x) hk
theorem lookupR_c {w : World} {o : Option (Nat × List Int)} {x : Option Addr × Nat} (h : AllBV o) (hc : Cl w x.1 (refsC (resL o))) {k : Nat} (hk : k < 64) :
    Calls Try.prog 49 #[(resN o x).v, .int .i64 (k : Int)] w fun e w' => e = .returned (.tuple #[.int .i64 ((lkM o k).getD 0), .bool (lkM o k).isSome]) ∧ St w [] [] w' := by
  have := lookup_c (n := resN o x) (xs := resL o) (ys := []) (b := resB o) (w := w) (k : Int) (resB_bm o x) (resB_lt h) (rep_res hc (by have := res_len h; omega))
  rw [lkO_res h x hk] at this
  exact this
end Go.Proofs.Ythmagkjcangnfaa
