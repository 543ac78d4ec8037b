/- Nodes of arenas, written out. -/
import Derived.Test.YtpfjjagcmjmfpaaArS
set_option linter.unusedSimpArgs false
set_option linter.unusedVariables false
namespace Go.Ct
open Go Go.RowKit
abbrev ndL (n : Nd) (xs : List Int) (ys : List Pr) : List Value := [.int .i64 n.kind, .int .i64 n.gen, .int .i64 n.main, .int .u64 n.bm, .slice n.brA xs.length n.brC, .int .u64 n.hash, .string n.key, .int .u64 n.val, .slice n.prA ys.length n.prC, .int .i64 n.prev, .int .i64 n.old, .int .i64 n.exp, .int .i64 n.new, .int .i64 n.status]
abbrev mineL (n : Nd) (xs : List Int) (ys : List Pr) (p q : Option Addr × Nat) : List Value := [.int .i64 n.kind, .int .i64 n.gen, .int .i64 0, .int .u64 n.bm, .slice p.1 xs.length p.2, .int .u64 n.hash, .string n.key, .int .u64 n.val, .slice q.1 ys.length q.2, .int .i64 0, .int .i64 n.old, .int .i64 n.exp, .int .i64 n.new, .int .i64 0]
abbrev atL (v : NdV) (p q : Option Addr) : List Value := [.int .i64 v.nd.kind, .int .i64 v.nd.gen, .int .i64 v.nd.main, .int .u64 v.nd.bm, .slice p v.xs.length v.xs.length, .int .u64 v.nd.hash, .string v.nd.key, .int .u64 v.nd.val, .slice q v.ys.length v.ys.length, .int .i64 v.nd.prev, .int .i64 v.nd.old, .int .i64 v.nd.exp, .int .i64 v.nd.new, .int .i64 v.nd.status]
abbrev at0L (v : NdV) (p q : Option Addr) : List Value := [.int .i64 v.nd.kind, .int .i64 v.nd.gen, .int .i64 0, .int .u64 v.nd.bm, .slice p v.xs.length v.xs.length, .int .u64 v.nd.hash, .string v.nd.key, .int .u64 v.nd.val, .slice q v.ys.length v.ys.length, .int .i64 0, .int .i64 v.nd.old, .int .i64 v.nd.exp, .int .i64 v.nd.new, .int .i64 0]
abbrev ndN (n : Nd) (xs : List Int) (ys : List Pr) : Nd := { n with brN := xs.length, prN := ys.length }
abbrev mineN (n : Nd) (xs : List Int) (ys : List Pr) (p q : Option Addr × Nat) : Nd := { n with main := 0, brA := p.1, brN := xs.length, brC := p.2, prA := q.1, prN := ys.length, prC := q.2, prev := 0, status := 0 }
abbrev atN (v : NdV) (p q : Option Addr) : Nd := { v.nd with brA := p, brN := v.xs.length, brC := v.xs.length, prA := q, prN := v.ys.length, prC := v.ys.length }
abbrev at0N (v : NdV) (p q : Option Addr) : Nd := { v.nd with main := 0, brA := p, brN := v.xs.length, brC := v.xs.length, prA := q, prN := v.ys.length, prC := v.ys.length, prev := 0, status := 0 }
end Go.Ct
namespace Go.Proofs.Ytpfjjagcmjmfpaa
open Go.RowKit Go.Ct
section
variable {w : World} {D : List Nat} {b : Nat} {L : List NdV} {cs : List Int} {gen acc : Int} {pn pc : Option Addr} {cn cc : Nat} {A : Fr}
theorem aNodeR_c {v : NdV} {r : Int} (hs : SF w D [(b, aO L cs gen acc pn cn pc cc)] (famF L) [] (mW L cs pn cn pc cc) w) (hf : Fits L) (hr : r ≤ 9223372036854775807) (hl : L.length ≤ 274877906944) (hv : nodeV (allV L) r = v) :
    Calls Try.prog 30 #[.pointer (some ⟨b, 0, none⟩), .int .i64 r] w fun e w' => ∃ q : Option Addr × Option Addr, e = .returned (.agg ⟨atL v q.1 q.2⟩) ∧ True ∧
    SF w D [(b, aO L cs gen acc pn cn pc cc)] [] [] (mW L cs pn cn pc cc ++ [⟨q.2, prC v.ys, v.ys.length, 56, 2⟩, ⟨q.1, refsC v.xs, v.xs.length, 29, 1⟩]) w' := by
  have h2 := aNode_c hs hf r hr hl
  have h3 := fit_nodeV hf.all r
  rw [hv] at h2 h3
  have e : atL v = fun p q => (v.at_ p q).nd.cells := by
    funext p q
    simp only [atL, NdV.at_, Nd.cells, h3.brN, h3.prN]
  rw [e]
  exact h2
theorem aAllocN_c {n : Nd} {xs : List Int} {ys : List Pr} (hs : SF w D [(b, aO L cs gen acc pn cn pc cc)] [(n.brA, refsC xs), (n.prA, prC ys)] [] (mW L cs pn cn pc cc) w) (hf : Fits L) (e1 : n.brN = xs.length) (e2 : n.prN = ys.length) (h1 : xs.length ≤ 274877906944) (h2 : ys.length ≤ 274877906944)
    (hl : L.length ≤ 274877906944) (hc : cs.length ≤ 274877906944) :
    Calls Try.prog 11 #[.pointer (some ⟨b, 0, none⟩), n.v, .int .i64 0] w fun e w' => ∃ x : NdV × AX × List Int, e = .returned (.int .i64 ((L.length + 3 : Nat) : Int)) ∧
      (Fits (L ++ [x.1]) ∧ x.1.xs = xs ∧ x.1.ys = ys ∧ x.2.2.length ≤ cs.length + 1 ∧ ({ x.1.nd with main := 0, prev := 0, status := 0 } : Nd).c xs ys = ({ n with main := 0, prev := 0, status := 0 } : Nd).c xs ys) ∧
      SF w D [(b, aO (L ++ [x.1]) x.2.2 gen acc x.2.1.pn x.2.1.cn x.2.1.pc x.2.1.cc)] [] x.1.fr (mW (L ++ [x.1]) x.2.2 x.2.1.pn x.2.1.cn x.2.1.pc x.2.1.cc) w' :=
  (aAlloc_c 0 hs e1 e2 h1 h2 hl hc).mono fun e w' ⟨x, he, _, h⟩ => ⟨(alV n xs ys cs.length x, x, alCs n.kind cs 0), he, ⟨fun u hu => by
    rcases List.mem_append.1 hu with hu | hu
    · exact hf u hu
    · rw [List.mem_singleton.1 hu]; exact fit_al (by omega) (by omega), rfl, rfl, alCs_length.2, rfl⟩, h⟩
end
end Go.Proofs.Ytpfjjagcmjmfpaa
