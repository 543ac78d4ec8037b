/- Procedures as trees; what an execution of the reference remembers of one. -/
import Derived.Test.YtpfjjagcmjmfpaaRs0
import Derived.Test.YtpfjjagcmjmfpaaArH
set_option linter.unusedSimpArgs false
set_option linter.unusedVariables false
namespace Go.Ct
/-- A procedure with shared cells: what it does next, and how it goes on. -/
inductive Tr where
  | done (r : Rs)
  | load (c : Int) (k : Int → Tr)
  | cas (c o n : Int) (k : Bool → Tr)
  | alloc (n : Nv) (i : Int) (k : Int → Tr)
  | cell (i : Int) (k : Int → Tr)
  | gen (k : Int → Tr)
  | node (r : Int) (k : Nv → Tr)
  | stuck
/-- A memory: its nodes, its cells, the latest generation. -/
structure Mm where
  nodes : List Nv
  cs : List Int
  gen : Int
def Nv.zero : Nv := NdV.zero.c
def ndAt (L : List Nv) (r : Int) : Nv := if 1 ≤ r ∧ r ≤ L.length then L.getD (r - 1).toNat Nv.zero else Nv.zero
theorem nodeV_c (L : List NdV) (r : Int) : (nodeV L r).c = ndAt (L.map NdV.c) r := by
  unfold nodeV ndAt
  rw [List.length_map]
  split
  · rename_i h
    have h2 : (r - 1).toNat < L.length := by omega
    simp only [List.getD_eq_getElem?_getD, List.getElem?_map, List.getElem?_eq_getElem h2, Option.map_some, Option.getD_some]
  · rfl
theorem ndAt_app {L N : List Nv} {r : Int} (h : r ≤ L.length) : ndAt (L ++ N) r = ndAt L r := by
  unfold ndAt
  by_cases h1 : 1 ≤ r
  · rw [if_pos ⟨h1, by simp; omega⟩, if_pos ⟨h1, h⟩, List.getD_eq_getElem?_getD, List.getD_eq_getElem?_getD, List.getElem?_append_left (by omega)]
  · rw [if_neg (by omega), if_neg (by omega)]
def alNv (n : Nv) (c : Nat) : Nv := { n with main := if n.kind = 2 then ((c + 1 : Nat) : Int) else 0, prev := if n.kind = 3 ∨ n.kind = 5 ∨ n.kind = 6 then ((c + 1 : Nat) : Int) else 0, status := if n.kind = 8 then ((c + 1 : Nat) : Int) else 0 }
theorem alV_c (n : Nd) (xs : List Int) (ys : List Pr) (c : Nat) (x : AX) : (alV n xs ys c x).c = alNv (n.c xs ys) c := rfl
def Mm.push (s : Mm) (n : Nv) (i : Int) : Mm := ⟨s.nodes ++ [alNv n s.cs.length], alCs n.kind s.cs i, s.gen⟩
/-- A step that makes no access; one that makes one. -/
inductive Sp : Tr → Mm → Tr → Mm → Prop where
  | alloc (n i k s) : Sp (.alloc n i k) s (k ((s.nodes.length + 1 : Nat) : Int)) (s.push n i)
  | cell (i k s) : Sp (.cell i k) s (k ((s.cs.length + 1 : Nat) : Int)) ⟨s.nodes, s.cs ++ [i], s.gen⟩
  | gen (k s) : Sp (.gen k) s (k (s.gen + 1)) ⟨s.nodes, s.cs, s.gen + 1⟩
  | node (r : Int) (k s) (h : r ≤ s.nodes.length) : Sp (.node r k) s (k (ndAt s.nodes r)) s
inductive Lp : Tr → Mm → Tr → Mm → Prop where
  | load (c k s) : Lp (.load c k) s (k (cellV s.cs c)) s
  | cas (c o n k s) (b : Bool) (hb : b = true ↔ CasOk s.cs c o) : Lp (.cas c o n k) s (k b) ⟨s.nodes, casL s.cs c o n, s.gen⟩
/-- Steps, j of which make an access. -/
inductive Rc : Nat → Tr → Mm → Tr → Mm → Prop where
  | refl (t s) : Rc 0 t s t s
  | sil {j t s t1 s1 t2 s2} : Rc j t s t1 s1 → Sp t1 s1 t2 s2 → Rc j t s t2 s2
  | loud {j t s t1 s1 t2 s2} : Rc j t s t1 s1 → Lp t1 s1 t2 s2 → Rc (j + 1) t s t2 s2
/-- The tree behind remembered results: of accesses, allocations, cells, generations. -/
inductive Wk (L : List Nv) : Tr → List Int → List Int → List Int → List Int → Tr → Prop where
  | nil (t) : Wk L t [] [] [] [] t
  | load {c k v gs ms cl gn R} : Wk L (k v) gs ms cl gn R → Wk L (.load c k) (v :: gs) ms cl gn R
  | cas {c o n k v gs ms cl gn R} : Wk L (k (v == 1)) gs ms cl gn R → Wk L (.cas c o n k) (v :: gs) ms cl gn R
  | alloc {n i k r gs ms cl gn R} : Wk L (k r) gs ms cl gn R → Wk L (.alloc n i k) gs (r :: ms) cl gn R
  | cell {i k r gs ms cl gn R} : Wk L (k r) gs ms cl gn R → Wk L (.cell i k) gs ms (r :: cl) gn R
  | gen {k r gs ms cl gn R} : Wk L (k r) gs ms cl gn R → Wk L (.gen k) gs ms cl (r :: gn) R
  | node {r : Int} {k gs ms cl gn R} : r ≤ L.length → Wk L (k (ndAt L r)) gs ms cl gn R → Wk L (.node r k) gs ms cl gn R
theorem Wk.mono {L N : List Nv} {t R : Tr} {gs ms cl gn : List Int} (h : Wk L t gs ms cl gn R) : Wk (L ++ N) t gs ms cl gn R := by
  induction h with
  | nil t => exact .nil t
  | load _ ih => exact .load ih
  | cas _ ih => exact .cas ih
  | alloc _ ih => exact .alloc ih
  | cell _ ih => exact .cell ih
  | gen _ ih => exact .gen ih
  | node h _ ih => exact .node (by simp; omega) (by rw [ndAt_app h]; exact ih)
theorem Wk.trans {L : List Nv} {t t1 R : Tr} {gs ms cl gn gs' ms' cl' gn' : List Int} (h : Wk L t gs ms cl gn t1) (h2 : Wk L t1 gs' ms' cl' gn' R) : Wk L t (gs ++ gs') (ms ++ ms') (cl ++ cl') (gn ++ gn') R := by
  induction h with
  | nil t => exact h2
  | load _ ih => exact .load (ih h2)
  | cas _ ih => exact .cas (ih h2)
  | alloc _ ih => exact .alloc (ih h2)
  | cell _ ih => exact .cell (ih h2)
  | gen _ ih => exact .gen (ih h2)
  | node h _ ih => exact .node h (ih h2)
/-- A tree that is not stuck within n accesses, with at most c allocations up to the next one, and 64 between two. -/
def Tame : Tr → Nat → Nat → Prop
  | .done _, _, _ => True
  | .stuck, _, _ => False
  | .load _ _, 0, _ => True
  | .load _ k, n + 1, _ => ∀ v, Tame (k v) n 64
  | .cas _ _ _ _, 0, _ => True
  | .cas _ _ _ k, n + 1, _ => ∀ v, Tame (k v) n 64
  | .alloc _ _ _, _, 0 => False
  | .alloc _ _ k, n, c + 1 => ∀ v, Tame (k v) n c
  | .cell _ _, _, 0 => False
  | .cell _ k, n, c + 1 => ∀ v, Tame (k v) n c
  | .gen _, _, 0 => False
  | .gen k, n, c + 1 => ∀ v, Tame (k v) n c
  | .node _ k, n, c => ∀ v, Tame (k v) n c
theorem Wk.tame {L : List Nv} {t R : Tr} {gs ms cl gn : List Int} (h : Wk L t gs ms cl gn R) : ∀ {n c : Nat}, c ≤ 64 → Tame t n c → gs.length ≤ n → ∃ c', Tame R (n - gs.length) c' ∧ c' ≤ 64 ∧ ms.length + cl.length + gn.length + c' ≤ c + 64 * gs.length := by
  induction h with
  | nil t => intro n c hc ht _; exact ⟨c, ht, hc, by simp⟩
  | load _ ih =>
    intro n c hc ht hn
    cases n with
    | zero => simp at hn
    | succ n =>
      obtain ⟨c', h1, h2, h3⟩ := ih (Nat.le_refl 64) (ht _) (by simpa using hn)
      exact ⟨c', by simpa using h1, h2, by simp only [List.length_cons]; omega⟩
  | cas _ ih =>
    intro n c hc ht hn
    cases n with
    | zero => simp at hn
    | succ n =>
      obtain ⟨c', h1, h2, h3⟩ := ih (Nat.le_refl 64) (ht _) (by simpa using hn)
      exact ⟨c', by simpa using h1, h2, by simp only [List.length_cons]; omega⟩
  | alloc _ ih =>
    intro n c hc ht hn
    cases c with
    | zero => exact ht.elim
    | succ c =>
      obtain ⟨c', h1, h2, h3⟩ := ih (by omega) (ht _) hn
      exact ⟨c', h1, h2, by simp only [List.length_cons]; omega⟩
  | cell _ ih =>
    intro n c hc ht hn
    cases c with
    | zero => exact ht.elim
    | succ c =>
      obtain ⟨c', h1, h2, h3⟩ := ih (by omega) (ht _) hn
      exact ⟨c', h1, h2, by simp only [List.length_cons]; omega⟩
  | gen _ ih =>
    intro n c hc ht hn
    cases c with
    | zero => exact ht.elim
    | succ c =>
      obtain ⟨c', h1, h2, h3⟩ := ih (by omega) (ht _) hn
      exact ⟨c', h1, h2, by simp only [List.length_cons]; omega⟩
  | node _ _ ih => intro n c hc ht hn; exact ih hc (ht _) hn
/-- How much may have been added. -/
theorem Rc.tame {j : Nat} {t t' : Tr} {s s' : Mm} (h : Rc j t s t' s') : ∀ {n c : Nat}, c ≤ 64 → Tame t n c → j ≤ n → ∃ c', Tame t' (n - j) c' ∧ c' ≤ 64 ∧ s.nodes.length ≤ s'.nodes.length ∧ s'.nodes.length + c' ≤ s.nodes.length + c + 64 * j ∧ s'.cs.length + c' ≤ s.cs.length + c + 64 * j ∧ s'.gen + c' ≤ s.gen + c + 64 * j := by
  induction h with
  | refl t s => intro n c hc ht _; exact ⟨c, ht, hc, by omega, by omega, by omega, by omega⟩
  | @sil j t s t1 s1 t2 s2 _ hs ih =>
    intro n c hc ht hn
    obtain ⟨c', h1, h2, h3, h4, h5, h6⟩ := ih hc ht hn
    cases hs with
    | alloc nn i k s =>
      cases c' with
      | zero => exact h1.elim
      | succ c' =>
        have hl := alCs_length (k := nn.kind) (cs := s1.cs) (init := i)
        exact ⟨c', h1 _, by omega, by simp [Mm.push]; omega, by simp [Mm.push]; omega, by simp only [Mm.push]; omega, by simp only [Mm.push]; omega⟩
    | cell i k s =>
      cases c' with
      | zero => exact h1.elim
      | succ c' => exact ⟨c', h1 _, by omega, by simpa using h3, by simp; omega, by simp; omega, by simp; omega⟩
    | gen k s =>
      cases c' with
      | zero => exact h1.elim
      | succ c' => exact ⟨c', h1 _, by omega, by simpa using h3, by simp; omega, by simp; omega, by simp; omega⟩
    | node r k s h => exact ⟨c', h1 _, h2, h3, h4, h5, h6⟩
  | loud _ hs ih =>
    intro n c hc ht hn
    obtain ⟨c', h1, h2, h3, h4, h5, h6⟩ := ih hc ht (by omega)
    rename_i j _ _ _ _ _ _ _
    obtain ⟨d, hd⟩ : ∃ d, n - j = d + 1 := ⟨n - j - 1, by omega⟩
    rw [hd] at h1
    have e : n - (j + 1) = d := by omega
    rw [e]
    cases hs with
    | load c k s => exact ⟨64, h1 _, Nat.le_refl _, h3, by omega, by omega, by omega⟩
    | cas c o nn k s b hb => exact ⟨64, h1 _, Nat.le_refl _, h3, by simp only; omega, by simp only [casL_length]; omega, by simp only; omega⟩
end Go.Ct
