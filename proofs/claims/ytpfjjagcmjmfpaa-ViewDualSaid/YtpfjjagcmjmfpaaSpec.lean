/- Plain data: nodes, and what the functions on them compute. No program is in sight. -/
import Derived.Test.YtpfjjagcmjmfpaaMem
set_option linter.unusedSimpArgs false
set_option linter.unusedVariables false
namespace Go.Ct
open Go Go.RowKit

/-- A node: its lists are slices (a: where, n: how many, c: the capacity). -/
structure Nd where
  kind : Int
  gen : Int
  main : Int
  bm : Int
  brA : Option Addr
  brN : Nat
  brC : Nat
  hash : Int
  key : ByteArray
  val : Int
  prA : Option Addr
  prN : Nat
  prC : Nat
  prev : Int
  old : Int
  exp : Int
  new : Int
  status : Int
def Nd.cells (n : Nd) : List Value := [.int .i64 n.kind, .int .i64 n.gen, .int .i64 n.main, .int .u64 n.bm, .slice n.brA n.brN n.brC, .int .u64 n.hash, .string n.key, .int .u64 n.val, .slice n.prA n.prN n.prC, .int .i64 n.prev, .int .i64 n.old, .int .i64 n.exp, .int .i64 n.new, .int .i64 n.status]
def Nd.v (n : Nd) : Value := .agg ⟨n.cells⟩
def Nd.zero : Nd := ⟨0, 0, 0, 0, none, 0, 0, 0, ⟨#[]⟩, 0, none, 0, 0, 0, 0, 0, 0, 0⟩

/-- The node with the fields of its kind. -/
def Nd.own (n : Nd) : Nd :=
  if n.kind == 2 then { Nd.zero with kind := n.kind, gen := n.gen, main := n.main }
  else if n.kind == 3 then { Nd.zero with kind := n.kind, bm := n.bm, brA := n.brA, brN := n.brN, brC := n.brC, prev := n.prev }
  else if n.kind == 5 then { Nd.zero with kind := n.kind, prev := n.prev, hash := n.hash, key := n.key, val := n.val }
  else if n.kind == 4 then { Nd.zero with kind := n.kind, hash := n.hash, key := n.key, val := n.val }
  else if n.kind == 6 then { Nd.zero with kind := n.kind, hash := n.hash, prA := n.prA, prN := n.prN, prC := n.prC, prev := n.prev }
  else if n.kind == 8 then { Nd.zero with kind := n.kind, exp := n.exp, new := n.new, status := n.status, old := n.old }
  else if n.kind == 7 then { Nd.zero with kind := n.kind, old := n.old }
  else { Nd.zero with kind := n.kind }
/-- The node's lists, in the world w. -/
structure Rep (w : World) (n : Nd) (xs : List Int) (ys : List Pr) : Prop where
  brN : n.brN = xs.length
  prN : n.prN = ys.length
  br : Cl w n.brA (refsC xs)
  pr : Cl w n.prA (prC ys)
  brS : xs.length < 4611686018427387904
  prS : ys.length < 4611686018427387904
def NdEq (a b : Nd) (x1 x2 : List Int) (y1 y2 : List Pr) : Prop :=
  a.kind = b.kind ∧ a.gen = b.gen ∧ a.main = b.main ∧ a.bm = b.bm ∧ x1 = x2 ∧ a.hash = b.hash ∧ a.key = b.key ∧ a.val = b.val ∧ y1 = y2 ∧ a.prev = b.prev ∧ a.old = b.old ∧ a.exp = b.exp ∧ a.new = b.new ∧ a.status = b.status
def Nd.xsOwn (n : Nd) (xs : List Int) : List Int := if n.kind == 3 then xs else []
def Nd.ysOwn (n : Nd) (ys : List Pr) : List Pr := if n.kind == 6 then ys else []
theorem Rep.own {w : World} {n : Nd} {xs : List Int} {ys : List Pr} (h : Rep w n xs ys) : Rep w n.own (n.xsOwn xs) (n.ysOwn ys) := by
  have z : (0 : Nat) < 4611686018427387904 := by decide
  by_cases h3 : n.kind = 3
  · have e1 : n.xsOwn xs = xs := by simp [Nd.xsOwn, h3]
    have e2 : n.ysOwn ys = [] := by simp [Nd.ysOwn, h3]
    have e3 : n.own = { Nd.zero with kind := n.kind, bm := n.bm, brA := n.brA, brN := n.brN, brC := n.brC, prev := n.prev } := by simp [Nd.own, h3]
    rw [e1, e2, e3]
    exact ⟨h.brN, rfl, h.br, Cl.nil _ _, h.brS, z⟩
  · have e1 : n.xsOwn xs = [] := by simp [Nd.xsOwn, h3]
    by_cases h6 : n.kind = 6
    · have e2 : n.ysOwn ys = ys := by simp [Nd.ysOwn, h6]
      have e3 : n.own = { Nd.zero with kind := n.kind, hash := n.hash, prA := n.prA, prN := n.prN, prC := n.prC, prev := n.prev } := by simp [Nd.own, h6]
      rw [e1, e2, e3]
      exact ⟨rfl, h.prN, Cl.nil _ _, h.pr, z, h.prS⟩
    · have e2 : n.ysOwn ys = [] := by simp [Nd.ysOwn, h6]
      rw [e1, e2]
      unfold Nd.own
      have h3' : (n.kind == 3) = false := by simpa using h3
      have h6' : (n.kind == 6) = false := by simpa using h6
      rw [h3', h6']
      simp only [Bool.false_eq_true, if_false]
      repeat' split
      all_goals exact ⟨rfl, rfl, Cl.nil _ _, Cl.nil _ _, z, z⟩
theorem Rep.keep0 {w0 w : World} {H : List (Nat × Obj)} {n : Nd} {xs : List Int} {ys : List Pr} (h : Rep w0 n xs ys) (hw : St w0 [] H w) : Rep w n xs ys := ⟨h.brN, h.prN, h.br.keep0 hw, h.pr.keep0 hw, h.brS, h.prS⟩
/-- OnesCount64, as the code has it. -/
def rOnes (x0 : Int) : Int :=
  let x1 := IntKind.u64.wrap (rAnd .u64 (rShr .u64 x0 1) 6148914691236517205 + rAnd .u64 x0 6148914691236517205)
  let x2 := IntKind.u64.wrap (rAnd .u64 (rShr .u64 x1 2) 3689348814741910323 + rAnd .u64 x1 3689348814741910323)
  let x3 := rAnd .u64 (IntKind.u64.wrap (rShr .u64 x2 4 + x2)) 1085102592571150095
  let x4 := IntKind.u64.wrap (x3 + rShr .u64 x3 8)
  let x5 := IntKind.u64.wrap (x4 + rShr .u64 x4 16)
  let x6 := IntKind.u64.wrap (x5 + rShr .u64 x5 32)
  rAnd .i64 (IntKind.i64.wrap x6) 127
/-- The keys' lengths. -/
def Short (l : List Pr) : Prop := ∀ i, i < l.length → (l.getD i (⟨#[]⟩, 0)).1.size ≤ 64
/-- The keys ascend. -/
def Asc (l : List Pr) : Prop := ∀ i, 1 ≤ i → i < l.length → sless (l.getD (i - 1) (⟨#[]⟩, 0)).1 (l.getD i (⟨#[]⟩, 0)).1 = true
def Pos (l : List Int) : Prop := ∀ i, i < l.length → 1 ≤ l.getD i 0
def NdValid (n : Nd) (xs : List Int) (ys : List Pr) : Prop :=
  NdEq n n.own xs (n.xsOwn xs) ys (n.ysOwn ys) ∧ 0 ≤ n.main ∧ 0 ≤ n.prev ∧ 0 ≤ n.status ∧
  (n.kind = 1 ∨ (n.kind = 2 ∧ 1 ≤ n.gen) ∨ (n.kind = 3 ∧ (xs.length : Int) = rOnes n.bm ∧ Pos xs) ∨ ((n.kind = 4 ∨ n.kind = 5) ∧ n.key.size ≤ 64) ∨ (n.kind = 6 ∧ 2 ≤ ys.length ∧ Asc ys ∧ Short ys) ∨
    (n.kind = 8 ∧ 1 ≤ n.exp ∧ 1 ≤ n.new ∧ 1 ≤ n.old) ∨ (n.kind = 7 ∧ 1 ≤ n.old))
end Go.Ct
