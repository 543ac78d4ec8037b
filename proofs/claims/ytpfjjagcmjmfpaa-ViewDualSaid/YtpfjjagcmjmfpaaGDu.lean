/- The start: an arena and a memory that contain a single. -/
import Derived.Test.YtpfjjagcmjmfpaaDu2
import Derived.Test.YtpfjjagcmjmfpaaArS

set_option linter.unusedSimpArgs false
set_option linter.unusedVariables false
namespace Go.Ct
open Go Go.RowKit
theorem proper_start {h v : Int} {key : ByteArray} {x : AX} (hk : key.size ≤ 64) : Proper [markV, markV, alV { Nd.zero with kind := 4, hash := h, key := key, val := v } [] [] 0 x] [] 5 := by
  refine ⟨by simp, by decide, rfl, rfl, fun i hi => by simp at hi, fun i hi => ?_, by simp [marks, markS, cellK, markV, alV, Nd.zero]⟩
  have ok : NdOk 5 3 markV := ⟨⟨by simp [NdEq, Nd.own, Nd.xsOwn, Nd.ysOwn, markV, Nd.zero], by decide, by decide, by decide, .inl rfl⟩, by decide, fun i hi => by simp [markV] at hi, by decide, by decide, by decide⟩
  simp only [List.length_cons, List.length_nil] at hi
  have : i = 0 ∨ i = 1 ∨ i = 2 := by omega
  rcases this with rfl | rfl | rfl
  · exact ok
  · exact ok
  · exact ⟨⟨by simp [NdEq, Nd.own, Nd.xsOwn, Nd.ysOwn, alV, Nd.zero], by simp [alV, Nd.zero], by simp [alV, Nd.zero], by simp [alV, Nd.zero], .inr (.inr (.inr (.inl ⟨.inl rfl, hk⟩)))⟩, by simp [alV, Nd.zero], fun i hi => by simp [alV] at hi, by simp [Ins, alV, Nd.zero], by simp [Ins, alV, Nd.zero], by simp [Ins, alV, Nd.zero]⟩
theorem fam_start {h v : Int} {key : ByteArray} {x : AX} (f : Option Addr × List Value) (hf : f ∈ famF [markV, markV, alV { Nd.zero with kind := 4, hash := h, key := key, val := v } [] [] 0 x]) : f.2 = [] := by
  simp [famF, NdV.fr, markV, alV, refsC, prC] at hf
  rcases hf with rfl | rfl | rfl | rfl | rfl | rfl <;> rfl
theorem fit_start {h v : Int} {key : ByteArray} {x : AX} : Fits [markV, markV, alV { Nd.zero with kind := 4, hash := h, key := key, val := v } [] [] 0 x] := fun v hv => by
  simp only [List.mem_cons, List.not_mem_nil, or_false] at hv
  rcases hv with rfl | rfl | rfl
  · exact fit_mark
  · exact fit_mark
  · exact fit_al (by decide) (by decide)
theorem one_of_map {L : List NdV} {v : NdV} (h : (allV L).map NdV.c = [markV, markV, v].map NdV.c) : ∃ a, L = [a] ∧ a.c = v.c := by
  have h2 : L.map NdV.c = [v.c] := by simpa [allV] using h
  cases L with
  | nil => simp at h2
  | cons a r => cases r with
    | nil => exact ⟨a, rfl, by simpa using h2⟩
    | cons b r => simp at h2
/-- Where the two lie, and their single. -/
structure SX where
  ba : Nat
  bm : Nat
  va : NdV
  vm : NdV
  apn : Option Addr
  acn : Nat
  apc : Option Addr
  acc : Nat
  mpn : Option Addr
  mcn : Nat
  mpc : Option Addr
  mcc : Nat
end Go.Ct
namespace Go.Proofs.Ytpfjjagcmjmfpaa
open Go Go.RowKit Go.Ct
abbrev sH (s : SX) : List (Nat × Obj) := [(s.ba, aO [s.va] [] 5 0 s.apn s.acn s.apc s.acc), (s.bm, mO [markV, markV, s.vm] [] 5 0 s.mpn s.mcn s.mpc s.mcc)]
abbrev sO (s : SX) : List Ow := [⟨s.apn, nvC [s.va], s.acn, 35, 14⟩, ⟨s.apc, refsC [], s.acc, 29, 1⟩, ⟨s.mpn, nvC [markV, markV, s.vm], s.mcn, 35, 14⟩, ⟨s.mpc, refsC [], s.mcc, 29, 1⟩]
structure SXOk (s : SX) (h : Nat) (key : ByteArray) (v : Int) : Prop where
  c : s.va.c = (niSingle h key v).c 0
  m : s.vm.c = (niSingle h key v).c 0
  fa : s.va.Fit
  fm : s.vm.Fit
end Go.Proofs.Ytpfjjagcmjmfpaa

/- The example of the chapter. -/
set_option linter.unusedSimpArgs false
set_option linter.unusedVariables false
namespace Go.Ct
open Go Go.RowKit
theorem kind_of {L : List NdV} {l : List Nv} (h : L.map NdV.c = l) {k : Nat} {a : Nv} (hk : l[k]? = some a) {v : NdV} {i : Int} (hi : i = ((k + 4 : Nat) : Int)) : (nodeV (allV ([v] ++ L)) i).nd.kind = a.kind := by
  subst h hi
  rw [List.getElem?_map] at hk
  cases hL : L[k]? with
  | none => rw [hL] at hk; cases hk
  | some b =>
    rw [hL] at hk
    simp only [Option.map_some, Option.some.injEq] at hk
    have hlt : k < L.length := (List.getElem?_eq_some_iff.1 hL).1
    rw [nodeV_at (k := k + 3) (by simp [allV]; omega)]
    show ((markV :: markV :: v :: L).getD (k + 3) NdV.zero).nd.kind = a.kind
    rw [List.getD_cons_succ, List.getD_cons_succ, List.getD_cons_succ, List.getD_eq_getElem?_getD, hL, ← hk]
    rfl
end Go.Ct
namespace Go.Proofs.Ytpfjjagcmjmfpaa
open Go Go.RowKit Go.Ct
variable {ba : Nat} {L : List NdV} {cs : List Int} {g acc : Int} {pn pc : Option Addr} {kn kc : Nat} {x : Int} {v : NdV} {h h0 : Nat} {k : ByteArray} {u gen : Int}
theorem buildOk_c {D : List Nat} {w : World} {lvl : Nat} {l : List NI} (hs : SF w D [(ba, aO L cs g acc pn kn pc kc)] (famF L) [] (mW L cs pn kn pc kc) w) (hf : Fits L) (hl : L.length ≤ 700) (hc : cs.length ≤ 700) (hxm : x ≤ 9223372036854775807) (hnv : nodeV (allV L) x = v) (hv : v.nd.kind = 4 → v.nd.hash = (h0 : Int) ∧ 1 ≤ x) (hh0 : h0 < 18446744073709551616) (hh : h < 18446744073709551616) (hlv : (lvl : Int) ≤ 9223372036854775807)
    (he : errB v h0 h k lvl gen = 0) (hN : newB x v h0 h k u gen (L.length + 3) lvl = l) :
    Calls Try.prog 9 #[.iface 41 (.pointer (some ⟨ba, 0, none⟩)), .int .i64 x, .int .u64 (h : Int), .string k, .int .u64 u, .int .i64 (lvl : Int), .int .i64 gen] w fun e w' =>
      ∃ d : DX, e = .returned (.tuple #[.int .i64 ((L.length + 2 + l.length : Nat) : Int), .int .i64 0]) ∧ (d.L.map NdV.c = alls l cs.length ∧ Fits d.L) ∧
      SF w D [(ba, aO (L ++ d.L) (allCs l cs) g acc d.pn d.cn d.pc d.cc)] [] (famF d.L) (mW (L ++ d.L) (allCs l cs) d.pn d.cn d.pc d.cc) w' := by
  subst hN
  have := build_c (k := k) (u := u) (gen := gen) hs hf hl hc hxm hnv hv hh0 hh hlv
  rw [he] at this
  exact this
theorem com7 : com 7 7 = 11 := by decide
theorem SXOk.kind {s : SX} {h : Nat} {key : ByteArray} {v : Int} (ok : SXOk s h key v) : s.va.nd.kind = 4 := congrArg Nv.kind ok.c
theorem SXOk.hash {s : SX} {h : Nat} {key : ByteArray} {v : Int} (ok : SXOk s h key v) : s.va.nd.hash = (h : Int) := congrArg Nv.hash ok.c
theorem SXOk.key {s : SX} {h : Nat} {key : ByteArray} {v : Int} (ok : SXOk s h key v) : s.va.nd.key = key := congrArg Nv.key ok.c
theorem SXOk.at3 (v : NdV) : nodeV (allV [v]) 3 = v := by
  rw [show (3 : Int) = ((2 + 1 : Nat) : Int) from rfl, nodeV_at (by simp [allV])]
  rfl
theorem errB_ok {s : SX} {h h1 lvl : Nat} {key k : ByteArray} {v gen : Int} (ok : SXOk s h key v) (h11 : lvl ≤ 11) (hg : 1 ≤ gen) (hk : k.size ≤ 64) (hne : k ≠ key) (hcom : lvl ≤ com h h1) : errB s.va h h1 k lvl gen = 0 := by
  unfold errB
  rw [if_neg (by omega), if_neg]
  rintro (h1 | h1 | h1 | h1)
  · exact h1 ok.kind
  · omega
  · exact hne (h1.trans ok.key)
  · omega
theorem fits_add {L M : List NdV} (h1 : Fits L) (h2 : Fits M) : Fits (L ++ M) := fun v hv => (List.mem_append.1 hv).elim (h1 v) (h2 v)
theorem buildAw_c {D : List Nat} {w : World} {s : SX} (ok : SXOk s 7 ⟨#[97]⟩ 1) (hs : SF w D [(s.ba, aO [s.va] [] 5 0 s.apn s.acn s.apc s.acc)] (famF [s.va]) [] (mW [s.va] [] s.apn s.acn s.apc s.acc) w) :
    Calls Try.prog 9 #[.iface 41 (.pointer (some ⟨s.ba, 0, none⟩)), .int .i64 3, .int .u64 7, .string ⟨#[98]⟩, .int .u64 2, .int .i64 10, .int .i64 1] w fun e w' =>
      ∃ d : DX × List Int, e = .returned (.tuple #[.int .i64 6, .int .i64 0]) ∧ (Fits ([s.va] ++ d.1.L) ∧ d.1.L.length = 3 ∧ (nodeV (allV ([s.va] ++ d.1.L)) 4).nd.kind = 6 ∧ (nodeV (allV ([s.va] ++ d.1.L)) 5).nd.kind = 2 ∧ (nodeV (allV ([s.va] ++ d.1.L)) 6).nd.kind = 3) ∧
      SF w D [(s.ba, aO ([s.va] ++ d.1.L) d.2 5 0 d.1.pn d.1.cn d.1.pc d.1.cc)] [] (famF d.1.L) (mW ([s.va] ++ d.1.L) d.2 d.1.pn d.1.cn d.1.pc d.1.cc) w' := by
  have he : errB s.va 7 7 ⟨#[98]⟩ 10 1 = 0 := errB_ok ok (by decide) (by decide) (by decide) (by decide) (by rw [com7]; decide)
  have hN : newB 3 s.va 7 7 ⟨#[98]⟩ 2 1 ([s.va].length + 3) 10 = [niList 7 (ofL [(s.va.nd.key, s.va.nd.val), (⟨#[98]⟩, 2)]), niInner 1 4, niC (withI 0 (sl 7 10 : Int)) [5]] := by
    rw [newB_ok he, com7]
    rfl
  exact (buildOk_c (k := ⟨#[98]⟩) (u := 2) (gen := 1) (h0 := 7) (h := 7) (lvl := 10) hs (fun z hz => by rw [List.mem_singleton.1 hz]; exact ok.fa) (by simp) (by simp) (by decide) (SXOk.at3 s.va) (fun _ => ⟨ok.hash, by decide⟩) (by decide) (by decide) (by decide) he hN).mono fun e w' ⟨d, h1, ⟨h2, h3⟩, h4⟩ => ⟨(d, _), h1, ⟨fits_add (fun z hz => by rw [List.mem_singleton.1 hz]; exact ok.fa) h3, by have := congrArg List.length h2; simpa [alls_length] using this, kind_of h2 (k := 0) rfl rfl, kind_of h2 (k := 1) rfl rfl, kind_of h2 (k := 2) rfl rfl⟩, h4⟩
theorem memAw {v : NdV} {M : List NdV} {X Y : Fr} {f : Option Addr × List Value} (h : f ∈ famF ([v] ++ M)) : f ∈ famF M ++ ((v.fr ++ X) ++ Y) := by
  rw [famF_append] at h
  rcases List.mem_append.1 h with h | h
  · exact List.mem_append_right _ (List.mem_append_left _ (List.mem_append_left _ (by simpa [famF] using h)))
  · exact List.mem_append_left _ h
theorem beq_ret' {a b : Int} (h : a = b) : (Ending.returned (.bool (a == b)) : Ending) = .returned (.bool true) := by rw [beq_iff_eq.2 h]
end Go.Proofs.Ytpfjjagcmjmfpaa
