/- The last step of OnesCount64: numbers alone. -/
import Derived.Test.YtmogngagpphnhaaSpec
set_option linter.unusedSimpArgs false
set_option linter.unusedVariables false
namespace Go.Ct

theorem div1 {x a b : Nat} (ha : a < 256) (h : x = a + 256 * b) : x / 256 = b := by omega
theorem div2 {x a b : Nat} (ha : a < 65536) (h : x = a + 65536 * b) : x / 65536 = b := by omega
theorem div4 {x a b : Nat} (ha : a < 4294967296) (h : x = a + 4294967296 * b) : x / 4294967296 = b := by omega
theorem bnd {t p s B : Nat} (e : t = p + 256 * s) (hp : p ≤ 8) (hs : s ≤ B) : t ≤ 8 + 256 * B := by omega
theorem fa {r t1 t2 t3 p0 p1 p2 : Nat} (e0 : r = p0 + 256 * t1) (e1 : t1 = p1 + 256 * t2) (e2 : t2 = p2 + 256 * t3) : r + t1 = ((p0 + p1) + 256 * (p1 + p2)) + 65536 * (t2 + t3) := by omega
theorem ca {p0 p1 p2 : Nat} (g0 : p0 ≤ 8) (g1 : p1 ≤ 8) (g2 : p2 ≤ 8) : (p0 + p1) + 256 * (p1 + p2) < 65536 := by omega
theorem fb0 {t2 t3 t4 t5 t6 t7 p2 p3 p4 p5 p6 : Nat} (e2 : t2 = p2 + 256 * t3) (e3 : t3 = p3 + 256 * t4) (e4 : t4 = p4 + 256 * t5) (e5 : t5 = p5 + 256 * t6) (e6 : t6 = p6 + 256 * t7) : t2 + t3 + t4 + t5 = (p2 + p3 + p4 + p5) + 256 * (p3 + p4 + p5 + p6) + 65536 * (t4 + t5 + t6 + t7) := by
  subst e6
  omega
theorem fb {r t1 t2 t3 t4 t5 t6 t7 p0 p1 p2 p3 p4 p5 p6 : Nat} (f4 : r + t1 = ((p0 + p1) + 256 * (p1 + p2)) + 65536 * (t2 + t3)) (e2 : t2 = p2 + 256 * t3) (e3 : t3 = p3 + 256 * t4) (e4 : t4 = p4 + 256 * t5) (e5 : t5 = p5 + 256 * t6) (e6 : t6 = p6 + 256 * t7) :
    r + t1 + (t2 + t3) = ((p0 + p1 + p2 + p3) + 256 * (p1 + p2 + p3 + p4) + 65536 * (p2 + p3 + p4 + p5) + 16777216 * (p3 + p4 + p5 + p6)) + 4294967296 * (t4 + t5 + t6 + t7) := by
  have h1 := fb0 e2 e3 e4 e5 e6
  have h2 : t2 + t3 = (p2 + p3) + 256 * (t3 + t4) := by clear h1 f4 e4 e5 e6; omega
  have h3 : t3 + t4 = (p3 + p4) + 256 * (t4 + t5) := by clear h1 h2 f4 e2 e5 e6; omega
  clear e2 e3 e4 e5 e6
  omega
theorem cb {p0 p1 p2 p3 p4 p5 p6 : Nat} (g0 : p0 ≤ 8) (g1 : p1 ≤ 8) (g2 : p2 ≤ 8) (g3 : p3 ≤ 8) (g4 : p4 ≤ 8) (g5 : p5 ≤ 8) (g6 : p6 ≤ 8) : (p0 + p1 + p2 + p3) + 256 * (p1 + p2 + p3 + p4) + 65536 * (p2 + p3 + p4 + p5) + 16777216 * (p3 + p4 + p5 + p6) < 4294967296 := by omega
theorem fc {r t1 : Nat} (b0 : r ≤ 8 + 256 * (8 + 256 * (8 + 256 * (8 + 256 * (8 + 256 * (8 + 256 * (8 + 256 * 8))))))) (b1 : t1 ≤ 8 + 256 * (8 + 256 * (8 + 256 * (8 + 256 * (8 + 256 * (8 + 256 * 8)))))) : r + t1 < 9223372036854775808 := by omega
theorem fd {r t1 t2 t3 : Nat} (b0 : r ≤ 8 + 256 * (8 + 256 * (8 + 256 * (8 + 256 * (8 + 256 * (8 + 256 * (8 + 256 * 8))))))) (b1 : t1 ≤ 8 + 256 * (8 + 256 * (8 + 256 * (8 + 256 * (8 + 256 * (8 + 256 * 8)))))) (b2 : t2 ≤ 8 + 256 * (8 + 256 * (8 + 256 * (8 + 256 * (8 + 256 * 8))))) (b3 : t3 ≤ 8 + 256 * (8 + 256 * (8 + 256 * (8 + 256 * 8)))) : r + t1 + (t2 + t3) < 9223372036854775808 := by omega
theorem fe {p1 p2 p3 p4 p5 p6 t4 t5 t6 t7 : Nat} (g1 : p1 ≤ 8) (g2 : p2 ≤ 8) (g3 : p3 ≤ 8) (g4 : p4 ≤ 8) (g5 : p5 ≤ 8) (g6 : p6 ≤ 8) (b4 : t4 ≤ 8 + 256 * (8 + 256 * (8 + 256 * 8))) (b5 : t5 ≤ 8 + 256 * (8 + 256 * 8)) (b6 : t6 ≤ 8 + 256 * 8) (b7 : t7 ≤ 8) :
    (p1 + p2 + p3 + p4) + 256 * (p2 + p3 + p4 + p5) + 65536 * (p3 + p4 + p5 + p6) + 16777216 * (t4 + t5 + t6 + t7) + (t5 + t6 + t7) < 36028797018963968 := by omega
theorem ff {p0 p1 p2 p3 p4 p5 p6 p7 t4 t5 t6 t7 : Nat} (e4 : t4 = p4 + 256 * t5) (e5 : t5 = p5 + 256 * t6) (e6 : t6 = p6 + 256 * t7) (e7 : t7 = p7) :
    ((p0 + p1 + p2 + p3) + 256 * (p1 + p2 + p3 + p4) + 65536 * (p2 + p3 + p4 + p5) + 16777216 * (p3 + p4 + p5 + p6)) + 4294967296 * (t4 + t5 + t6 + t7) + (t4 + t5 + t6 + t7) =
      (p0 + p1 + p2 + p3 + p4 + p5 + p6 + p7) + 256 * ((p1 + p2 + p3 + p4) + 256 * (p2 + p3 + p4 + p5) + 65536 * (p3 + p4 + p5 + p6) + 16777216 * (t4 + t5 + t6 + t7) + (t5 + t6 + t7)) := by
  have h : t4 + t5 + t6 + t7 = (p4 + p5 + p6 + p7) + 256 * (t5 + t6 + t7) := by omega
  generalize t4 + t5 + t6 + t7 = s at *
  clear e4 e5 e6 e7
  omega
theorem swar_end {p0 p1 p2 p3 p4 p5 p6 p7 r t1 t2 t3 t4 t5 t6 t7 : Nat} (g0 : p0 ≤ 8) (g1 : p1 ≤ 8) (g2 : p2 ≤ 8) (g3 : p3 ≤ 8) (g4 : p4 ≤ 8) (g5 : p5 ≤ 8) (g6 : p6 ≤ 8) (g7 : p7 ≤ 8)
    (e0 : r = p0 + 256 * t1) (e1 : t1 = p1 + 256 * t2) (e2 : t2 = p2 + 256 * t3) (e3 : t3 = p3 + 256 * t4) (e4 : t4 = p4 + 256 * t5) (e5 : t5 = p5 + 256 * t6) (e6 : t6 = p6 + 256 * t7) (e7 : t7 = p7) :
    r + r / 256 < 9223372036854775808 ∧ (r + r / 256) + (r + r / 256) / 65536 < 9223372036854775808 ∧ ∃ K, K < 36028797018963968 ∧ ((r + r / 256) + (r + r / 256) / 65536) + ((r + r / 256) + (r + r / 256) / 65536) / 4294967296 = (p0 + p1 + p2 + p3 + p4 + p5 + p6 + p7) + 256 * K := by
  have b7 : t7 ≤ 8 := by rw [e7]; exact g7
  have b6 := bnd e6 g6 b7
  have b5 := bnd e5 g5 b6
  have b4 := bnd e4 g4 b5
  have b3 := bnd e3 g3 b4
  have b2 := bnd e2 g2 b3
  have b1 := bnd e1 g1 b2
  have b0 := bnd e0 g0 b1
  have f4 : r + t1 = ((p0 + p1) + 256 * (p1 + p2)) + 65536 * (t2 + t3) := fa e0 e1 e2
  have c4 : (p0 + p1) + 256 * (p1 + p2) < 65536 := ca g0 g1 g2
  have f5 : r + t1 + (t2 + t3) = ((p0 + p1 + p2 + p3) + 256 * (p1 + p2 + p3 + p4) + 65536 * (p2 + p3 + p4 + p5) + 16777216 * (p3 + p4 + p5 + p6)) + 4294967296 * (t4 + t5 + t6 + t7) := fb f4 e2 e3 e4 e5 e6
  have c5 := cb g0 g1 g2 g3 g4 g5 g6
  rw [div1 (Nat.lt_of_le_of_lt g0 (by decide)) e0, div2 c4 f4, div4 c5 f5]
  refine ⟨fc b0 b1, fd b0 b1 b2 b3, (p1 + p2 + p3 + p4) + 256 * (p2 + p3 + p4 + p5) + 65536 * (p3 + p4 + p5 + p6) + 16777216 * (t4 + t5 + t6 + t7) + (t5 + t6 + t7), ?_, ?_⟩
  · exact fe g1 g2 g3 g4 g5 g6 b4 b5 b6 b7
  · rw [f5]; exact ff e4 e5 e6 e7
end Go.Ct
