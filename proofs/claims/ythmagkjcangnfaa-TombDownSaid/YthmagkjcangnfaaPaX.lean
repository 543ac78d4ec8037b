/- Pairs: the algebra. -/
import Derived.Test.YthmagkjcangnfaaPa4
set_option linter.unusedSimpArgs false
set_option linter.unusedVariables false
namespace Go.Proofs.Ythmagkjcangnfaa
open Go.RowKit Go.Ct
section
variable {l X : List Pr} {a : Option Addr} {c M : Nat} {k j : ByteArray} {v z : Int} {w : World}
theorem putO_eq (h : SA X) (k : ByteArray) (v : Int) : putO X k v = putL X k v := if_pos h
theorem dropO_eq (h : SA X) (k : ByteArray) : dropO X k = dropL X k := if_pos h
theorem findO_eq (h : SA X) (k : ByteArray) : findO X k = fnd X k := if_pos h
theorem putO_sa (h : SA X) (k : ByteArray) (v : Int) : SA (putO X k v) := by rw [putO_eq h]; exact putL_sa h
theorem dropO_sa (h : SA X) (k : ByteArray) : SA (dropO X k) := by rw [dropO_eq h]; exact dropL_sa k h
theorem putO_fnd (h : SA X) (k : ByteArray) (v : Int) (j : ByteArray) : fnd (putO X k v) j = if j = k then some v else fnd X j := by rw [putO_eq h]; exact putL_fnd j h
theorem dropO_fnd (h : SA X) (k j : ByteArray) : fnd (dropO X k) j = if j = k then none else fnd X j := by rw [dropO_eq h]; exact dropL_fnd X k j
theorem putO_le (X : List Pr) (k : ByteArray) (v : Int) : (putO X k v).length ≤ X.length + 1 := by
  unfold putO
  split
  · next h => rw [put_len h]; split <;> omega
  · exact Nat.zero_le _
theorem dropO_le (X : List Pr) (k : ByteArray) : (dropO X k).length ≤ X.length := by
  unfold dropO
  split
  · exact dropL_le X k
  · exact Nat.zero_le _
theorem putO_find (h : SA X) (k : ByteArray) (v : Int) : findO (putO X k v) k = some v := by rw [findO_eq (putO_sa h k v), putO_fnd h, if_pos rfl]
theorem dropO_find (h : SA X) (k : ByteArray) : findO (dropO X k) k = none := by rw [findO_eq (dropO_sa h k), dropO_fnd h, if_pos rfl]
theorem putO_other (h : SA X) (k : ByteArray) (v : Int) (hj : j ≠ k) : findO (putO X k v) j = findO X j := by rw [findO_eq (putO_sa h k v), putO_fnd h, if_neg hj, findO_eq h]
theorem dropO_other (h : SA X) (k : ByteArray) (hj : j ≠ k) : findO (dropO X k) j = findO X j := by rw [findO_eq (dropO_sa h k), dropO_fnd h, if_neg hj, findO_eq h]
theorem put_again (h : SA X) (k : ByteArray) (v : Int) : putO (putO X k v) k v = putO X k v :=
  sa_ext (putO_sa (putO_sa h k v) k v) (putO_sa h k v) fun i => by
    rw [putO_fnd (putO_sa h k v), putO_fnd h]
    by_cases hi : i = k
    · rw [if_pos hi, if_pos hi]
    · rw [if_neg hi]
theorem put_comm (h : SA X) (hkj : k ≠ j) (v z : Int) : putO (putO X k v) j z = putO (putO X j z) k v :=
  sa_ext (putO_sa (putO_sa h k v) j z) (putO_sa (putO_sa h j z) k v) fun i => by
    rw [putO_fnd (putO_sa h k v), putO_fnd h, putO_fnd (putO_sa h j z), putO_fnd h]
    by_cases hi : i = k
    · subst hi; rw [if_neg hkj, if_pos rfl, if_pos rfl]
    · rw [if_neg hi, if_neg hi]
theorem drop_put (h : SA X) (hkj : k ≠ j) (v : Int) : dropO (putO X k v) j = putO (dropO X j) k v :=
  sa_ext (dropO_sa (putO_sa h k v) j) (putO_sa (dropO_sa h j) k v) fun i => by
    rw [dropO_fnd (putO_sa h k v), putO_fnd h, putO_fnd (dropO_sa h j), dropO_fnd h]
    by_cases hi : i = k
    · subst hi; rw [if_neg hkj, if_pos rfl, if_pos rfl]
    · rw [if_neg hi, if_neg hi]
theorem putO_len (h : SA X) (k : ByteArray) (v : Int) : (putO X k v).length = if (findO X k).isSome = true then X.length else X.length + 1 := by rw [putO_eq h, findO_eq h]; exact put_len h
theorem dropO_len (h : SA X) (k : ByteArray) : (dropO X k).length = if (findO X k).isSome = true then X.length - 1 else X.length := by rw [dropO_eq h, findO_eq h]; exact drop_len h
theorem find_some_len (h : SA X) (hk : (findO X k).isSome = true) : 1 ≤ X.length := by
  rw [findO_eq h] at hk
  cases hf : fnd X k with
  | none => rw [hf] at hk; cases hk
  | some v => obtain ⟨i, hi, _⟩ := fnd_lt hf; omega
theorem prsT_c {xs ys : List Pr} {a b : Option Addr} {ca cb : Nat} {w : World} (h : xs = ys) (ha : Cl w a (prC xs)) (hb : Cl w b (prC ys)) (hx : xs.length ≤ 1000000) :
    Calls Try.prog 56 #[.slice a xs.length ca, .slice b ys.length cb] w fun e w' => e = .returned (.bool true) ∧ St w [] [] w' := by
  have := prs_c (ca := ca) (cb := cb) ha hb (by omega)
  rw [decide_eq_true h] at this
  exact this
end
end Go.Proofs.Ythmagkjcangnfaa
