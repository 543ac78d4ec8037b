/- The contents of a trie in a state: what is computed. -/
import Derived.Test.YtpfjjagcmjmfpaaTr1
set_option linter.unusedSimpArgs false
set_option linter.unusedVariables false
namespace Go.Ct
def MainK (n : Nv) : Prop := n.kind = 3 ∨ n.kind = 5 ∨ n.kind = 6
instance (n : Nv) : Decidable (MainK n) := by unfold MainK; exact inferInstance
/-- The root of a trie; the main node of an I-node. -/
def rootP (N : List Nv) (cs : List Int) (c : Int) : Int := if (ndAt N (cellV cs c)).kind = 8 then (if cellV cs (ndAt N (cellV cs c)).status = 1 then (ndAt N (cellV cs c)).new else (ndAt N (cellV cs c)).old) else cellV cs c
def rootO (N : List Nv) (cs : List Int) (c : Int) : Option Int := if (ndAt N (rootP N cs c)).kind = 2 then some (rootP N cs c) else none
def bodyM (N : List Nv) (cs : List Int) (i : Int) : Int := cellV cs (ndAt N i).main
def bodyP (N : List Nv) (cs : List Int) (i : Int) : Int := cellV cs (ndAt N (bodyM N cs i)).prev
def bodyQ (N : List Nv) (cs : List Int) (i : Int) : Int := if (ndAt N (bodyP N cs i)).kind = 7 then (ndAt N (bodyP N cs i)).old else bodyP N cs i
def bodyO (N : List Nv) (cs : List Int) (i : Int) : Option Int :=
  if (ndAt N i).kind = 2 ∧ MainK (ndAt N (bodyM N cs i)) then
    if bodyP N cs i = 0 then some (bodyM N cs i) else if MainK (ndAt N (bodyQ N cs i)) then some (bodyQ N cs i) else none
  else none
/-- The I-nodes below an I-node, n levels deep at most, behind those of l. -/
def visB (N : List Nv) (f : Int → List Int → Option (List Int)) : List Int → List Int → Option (List Int)
  | [], l => some l
  | b :: r, l => if (ndAt N b).kind = 4 then visB N f r l else if (ndAt N b).kind = 2 then (f b l).bind (visB N f r) else none
def vis (N : List Nv) (cs : List Int) : Nat → Int → List Int → Option (List Int)
  | 0, _, _ => none
  | n + 1, i, l => if i ∈ l then none else (bodyO N cs i).bind fun m => visB N (vis N cs n) (ndAt N m).xs (l ++ [i])
/-- The pairs of a main node itself. -/
def ownP (v : Nv) : List Pr := if v.kind = 5 then [(v.key, v.val)] else if v.kind = 6 then v.ys else []
def colB (N : List Nv) (f : Int → List Pr) : List Int → List Pr
  | [] => []
  | b :: r => (if (ndAt N b).kind = 4 then [((ndAt N b).key, (ndAt N b).val)] else f b) ++ colB N f r
def col (N : List Nv) (cs : List Int) : Nat → Int → List Pr
  | 0, _ => []
  | n + 1, i => match bodyO N cs i with
    | none => []
    | some m => ownP (ndAt N m) ++ colB N (col N cs n) (ndAt N m).xs
theorem visB_app {N : List Nv} {f : Int → List Int → Option (List Int)} : ∀ (a b l : List Int), visB N f (a ++ b) l = (visB N f a l).bind (visB N f b)
  | [], b, l => rfl
  | x :: a, b, l => by
    simp only [List.cons_append, visB]
    split
    · exact visB_app a b l
    split
    · cases f x l with
      | none => rfl
      | some l2 => exact visB_app a b l2
    · rfl
theorem colB_app {N : List Nv} {f : Int → List Pr} : ∀ (a b : List Int), colB N f (a ++ b) = colB N f a ++ colB N f b
  | [], b => rfl
  | x :: a, b => by simp only [List.cons_append, colB, colB_app a b, List.append_assoc]
theorem body_kind {N : List Nv} {cs : List Int} {i m : Int} (h : bodyO N cs i = some m) : (ndAt N i).kind = 2 ∧ MainK (ndAt N m) := by
  unfold bodyO at h
  split at h
  · rename_i h1
    split at h
    · cases h; exact h1
    split at h
    · cases h; exact ⟨h1.1, by assumption⟩
    · cases h
  · cases h
theorem kind_in {N : List Nv} {i : Int} (h : (ndAt N i).kind ≠ 0) : 1 ≤ i ∧ i ≤ N.length := by
  unfold ndAt at h
  split at h
  · assumption
  · exact absurd rfl h
/-- What is visited is added behind. -/
theorem vis_pre {N : List Nv} {cs : List Int} : ∀ (n : Nat) (i : Int) (l l2 : List Int), vis N cs n i l = some l2 → ∃ r, l2 = l ++ i :: r
  | 0, _, _, _, h => nomatch h
  | n + 1, i, l, l2, h => by
    unfold vis at h
    split at h
    · cases h
    obtain ⟨m, _, h⟩ := Option.bind_eq_some_iff.1 h
    have key : ∀ (xs l l2 : List Int), visB N (vis N cs n) xs l = some l2 → ∃ r, l2 = l ++ r := by
      intro xs
      induction xs with
      | nil => intro l l2 h; cases h; exact ⟨[], by simp⟩
      | cons b r ih =>
        intro l l2 h
        unfold visB at h
        split at h
        · exact ih l l2 h
        split at h
        · obtain ⟨l3, h3, h⟩ := Option.bind_eq_some_iff.1 h
          obtain ⟨r1, rfl⟩ := vis_pre n b l l3 h3
          obtain ⟨r2, rfl⟩ := ih _ _ h
          exact ⟨b :: r1 ++ r2, by simp⟩
        · cases h
    obtain ⟨r, rfl⟩ := key _ _ _ h
    exact ⟨r, by simp⟩
end Go.Ct
