/- An arena and a memory side by side. -/
import Derived.Test.YtmogngagpphnhaaArT
set_option linter.unusedSimpArgs false
set_option linter.unusedVariables false
namespace Go.Ct
open Go Go.RowKit
/-- An arena and a memory. -/
structure PS where
  La : List NdV
  Lm : List NdV
  cs : List Int
  gen : Int
  acca : Int
  accm : Int
  apn : Option Addr
  acn : Nat
  apc : Option Addr
  acc : Nat
  mpn : Option Addr
  mcn : Nat
  mpc : Option Addr
  mcc : Nat
structure PS.Rel (s : PS) : Prop where
  same : (allV s.La).map NdV.c = s.Lm.map NdV.c
  fa : Fits s.La
  fm : Fits s.Lm
theorem PS.Rel.len {s : PS} (h : s.Rel) : s.La.length + 2 = s.Lm.length := by
  have := congrArg List.length h.same
  simpa [allV_length] using this
theorem PS.Rel.mk0 {La Lm : List NdV} (s : PS) (h1 : s.La = La) (h2 : s.Lm = Lm) (h : (allV La).map NdV.c = Lm.map NdV.c) (h3 : Fits La) (h4 : Fits Lm) : s.Rel := by subst h1 h2; exact ⟨h, h3, h4⟩
end Go.Ct
namespace Go.Proofs.Ytmogngagpphnhaa
open Go.RowKit Go.Ct
abbrev pHs (s : PS) (ba bm : Nat) : List (Nat × Obj) := [(ba, aO s.La s.cs s.gen s.acca s.apn s.acn s.apc s.acc), (bm, mO s.Lm s.cs s.gen s.accm s.mpn s.mcn s.mpc s.mcc)]
abbrev pOs (s : PS) : List Ow := [⟨s.apn, nvC s.La, s.acn, 48, 14⟩, ⟨s.apc, refsC s.cs, s.acc, 39, 1⟩, ⟨s.mpn, nvC s.Lm, s.mcn, 48, 14⟩, ⟨s.mpc, refsC s.cs, s.mcc, 39, 1⟩]
theorem pOpen {s : PS} {w0 w : World} {D : List Nat} {ba bm : Nat} {A F : Fr} (h : SF w0 D (pHs s ba bm) A F (pOs s) w) : SF w0 D [(ba, .cells ⟨[.slice s.apn s.La.length s.acn, .slice s.apc s.cs.length s.acc, .int .i64 s.gen, .int .i64 s.acca]⟩ 123 (0, 0)), (bm, .cells ⟨[.slice s.mpn s.Lm.length s.mcn, .slice s.mpc s.cs.length s.mcc, .int .i64 s.gen, .int .i64 s.accm]⟩ 36 (0, 0))] A F [⟨s.apn, nvC s.La, s.acn, 48, 14⟩, ⟨s.apc, refsC s.cs, s.acc, 39, 1⟩, ⟨s.mpn, nvC s.Lm, s.mcn, 48, 14⟩, ⟨s.mpc, refsC s.cs, s.mcc, 39, 1⟩] w := h
theorem beq_ret {a b : Int} (h : a = b) : (Ending.returned (.bool (a == b)) : Ending) = .returned (.bool true) := by rw [beq_iff_eq.2 h]
theorem bool_ret {a b : Bool} (h : a = true ↔ b = true) : (Ending.returned (.bool (a == b)) : Ending) = .returned (.bool true) := by rw [Bool.eq_iff_iff.2 h, beq_self_eq_true]
end Go.Proofs.Ytmogngagpphnhaa
