/- Proper states, by what their nodes hold. -/
import Derived.Test.YtpfjjagcmjmfpaaAr9
import Derived.Test.YtpfjjagcmjmfpaaArH
import Derived.Test.YtpfjjagcmjmfpaaArS
import Derived.Test.YtpfjjagcmjmfpaaTr1
import Derived.Test.YtpfjjagcmjmfpaaGBr

set_option linter.unusedSimpArgs false
set_option linter.unusedVariables false
namespace Go.Ct
def Nv.nd (v : Nv) : Nd := ⟨v.kind, v.gen, v.main, v.bm, none, v.xs.length, 0, v.hash, v.key, v.val, none, v.ys.length, 0, v.prev, v.old, v.exp, v.new, v.status⟩
theorem Nv.nd_c (v : Nv) : v.nd.c v.xs v.ys = v := rfl
def Nv.dv (v : Nv) : NdV := ⟨v.nd, v.xs, v.ys⟩
theorem Nv.dv_c (v : Nv) : v.dv.c = v := rfl
theorem map_dv (N : List Nv) : (N.map Nv.dv).map NdV.c = N := by
  rw [List.map_map]
  exact (List.map_congr_left (fun v _ => Nv.dv_c v)).trans (List.map_id N)
theorem valid_c {n : Nd} {xs : List Int} {ys : List Pr} : NdValid n xs ys ↔ NdValid (n.c xs ys).nd xs ys := by
  have e : NdEq n n.own xs (n.xsOwn xs) ys (n.ysOwn ys) ↔ NdEq (n.c xs ys).nd (n.c xs ys).nd.own xs ((n.c xs ys).nd.xsOwn xs) ys ((n.c xs ys).nd.ysOwn ys) := by
    rw [ndEq_iff, ndEq_iff]
    have e1 : n.own.c (n.xsOwn xs) (n.ysOwn ys) = (n.c xs ys).nd.own.c ((n.c xs ys).nd.xsOwn xs) ((n.c xs ys).nd.ysOwn ys) := by
      have hx : (n.c xs ys).nd.xsOwn xs = n.xsOwn xs := rfl
      have hy : (n.c xs ys).nd.ysOwn ys = n.ysOwn ys := rfl
      have hk : (n.c xs ys).nd.kind = n.kind := rfl
      rw [hx, hy]
      unfold Nd.own
      rw [hk]
      repeat' split
      all_goals first | rfl | contradiction
    rw [e1]
    exact Iff.rfl
  unfold NdValid
  rw [e]
  exact Iff.rfl
theorem ndOk_c {gen : Int} {n : Nat} {u v : NdV} (h : u.c = v.c) (hu : NdOk gen n u) : NdOk gen n v := by
  have key : ∀ v : NdV, NdOk gen n v ↔ NdOk gen n v.c.dv := fun v => by
    unfold NdOk
    rw [valid_c (n := v.nd)]
    exact Iff.rfl
  rw [key, ← h, ← key]
  exact hu
theorem marks_c {m : Nat} {L1 L2 : List NdV} (h : L1.map NdV.c = L2.map NdV.c) : marks m L1 = marks m L2 := by
  have key : ∀ L : List NdV, marks m L = (L.map NdV.c).foldl (fun u c => markS u c.nd) (some (List.replicate m false)) := fun L => by
    unfold marks
    rw [List.foldl_map]
    rfl
  rw [key, key, h]
theorem proper_c' {L1 L2 : List NdV} {cs : List Int} {gen : Int} (h : L1.map NdV.c = L2.map NdV.c) (hp : Proper L1 cs gen) : Proper L2 cs gen := by
  have hl : L1.length = L2.length := by simpa using congrArg List.length h
  have hi := (map_c hl).1 h
  have h2 := hp.two
  refine ⟨by omega, hp.gen0, ?_, ?_, fun i h => by have := hp.cells i h; rwa [hl] at this, fun i h => ?_, by rw [← marks_c h]; exact hp.marks⟩
  · have := congrArg Nv.kind (hi 0 (by omega))
    exact this.symm.trans hp.m0
  · have := congrArg Nv.kind (hi 1 (by omega))
    exact this.symm.trans hp.m1
  · have := hp.nodes i (by omega)
    rw [← hl]
    exact ndOk_c (hi i (by omega)) this
/-- A proper state by what its nodes hold. -/
def ProperN (N : List Nv) (cs : List Int) (gen : Int) : Prop := Proper (N.map Nv.dv) cs gen
theorem ProperN.to {N : List Nv} {cs : List Int} {gen : Int} (h : ProperN N cs gen) {L : List NdV} (hl : L.map NdV.c = N) : Proper L cs gen := proper_c' (by rw [map_dv, hl]) h
theorem Proper.toN {L : List NdV} {cs : List Int} {gen : Int} (h : Proper L cs gen) : ProperN (L.map NdV.c) cs gen := proper_c' (by rw [map_dv]) h
theorem ProperN.push {N : List Nv} {cs : List Int} {gen init : Int} {n : Nv} (h : ProperN N cs gen) (hv : NdOk gen (N.length + 1) (alNv n cs.length).dv) (hi : Ins init N.length) : ProperN (N ++ [alNv n cs.length]) (alCs n.kind cs init) gen := by
  have hm : (N.map Nv.dv).length = N.length := by simp
  have := proper_push (v := (alNv n cs.length).dv) (k := n.kind) (init := init) h (by rw [hm]; exact hv) (by rw [hm]; exact hi) (by
    have e : (alNv n cs.length).dv.nd.kind = n.kind := rfl
    unfold cellK alCs
    rw [e]
    by_cases h2 : n.kind = 2
    · right
      rw [if_pos h2, if_pos (.inl h2)]
      exact ⟨by show some (if n.kind = 2 then _ else _) = _; rw [if_pos h2], rfl⟩
    rw [if_neg h2]
    by_cases h3 : n.kind = 3 ∨ n.kind = 5 ∨ n.kind = 6
    · right
      rw [if_pos h3, if_pos (by omega)]
      exact ⟨by show some (if n.kind = 3 ∨ n.kind = 5 ∨ n.kind = 6 then _ else _) = _; rw [if_pos h3], rfl⟩
    rw [if_neg h3]
    by_cases h8 : n.kind = 8
    · right
      rw [if_pos h8, if_pos (by omega)]
      exact ⟨by show some (if n.kind = 8 then _ else _) = _; rw [if_pos h8], rfl⟩
    · left
      rw [if_neg h8, if_neg (by omega)]
      exact ⟨rfl, rfl⟩)
  unfold ProperN
  rw [List.map_append]
  exact this
theorem ProperN.cell {N : List Nv} {cs : List Int} {gen init : Int} (h : ProperN N cs gen) (hi : Ins init N.length) : ProperN N (cs ++ [init]) gen := by
  have hm : (N.map Nv.dv).length = N.length := by simp
  refine ⟨h.two, h.gen0, h.m0, h.m1, fun i hi' => ?_, h.nodes, ?_⟩
  · rw [List.getD_eq_getElem?_getD]
    rw [List.length_append, List.length_cons, List.length_nil] at hi'
    by_cases hl : i < cs.length
    · rw [List.getElem?_append_left hl, ← List.getD_eq_getElem?_getD]
      exact h.cells i hl
    · rw [List.getElem?_append_right (by omega), show i - cs.length = 0 by omega, hm]
      exact hi
  · have key : ∀ (l : List NdV) (m : Nat) (u : List Bool), l.foldl (fun u v => markS u v.nd) (some u) ≠ none → l.foldl (fun u v => markS u v.nd) (some (u ++ [false])) ≠ none := by
      intro l
      induction l with
      | nil => intro _ u _ h; cases h
      | cons v l ih =>
        intro m u hu
        rw [List.foldl_cons] at hu ⊢
        have hnone : ∀ l : List NdV, l.foldl (fun u v => markS u v.nd) none = none := fun l => by
          induction l with
          | nil => rfl
          | cons v l ih => exact ih
        cases hc : cellK v.nd with
        | none =>
          rw [show markS (some u) v.nd = some u by simp [markS, hc]] at hu
          rw [show markS (some (u ++ [false])) v.nd = some (u ++ [false]) by simp [markS, hc]]
          exact ih m u hu
        | some c =>
          by_cases hc3 : 1 ≤ c ∧ c ≤ u.length ∧ u.getD (c - 1).toNat false = false
          · obtain ⟨c1, c2, c3⟩ := hc3
            have hlt : (c - 1).toNat < u.length := by omega
            have e1 : (u ++ [false]).getD (c - 1).toNat false = u.getD (c - 1).toNat false := by
              rw [List.getD_eq_getElem?_getD, List.getD_eq_getElem?_getD, List.getElem?_append_left hlt]
            have e2 : markS (some u) v.nd = some (u.set (c - 1).toNat true) := by
              show (match cellK v.nd with | none => _ | some c => _) = _
              rw [hc]
              exact if_pos ⟨c1, c2, c3⟩
            have e3 : markS (some (u ++ [false])) v.nd = some (u.set (c - 1).toNat true ++ [false]) := by
              show (match cellK v.nd with | none => _ | some c => _) = _
              rw [hc, ← List.set_append_left _ _ hlt]
              exact if_pos ⟨c1, by rw [List.length_append, List.length_cons, List.length_nil]; omega, by rw [e1]; exact c3⟩
            rw [e2] at hu
            rw [e3]
            exact ih m _ hu
          · have e2 : markS (some u) v.nd = none := by
              show (match cellK v.nd with | none => _ | some c => _) = _
              rw [hc]
              exact if_neg hc3
            rw [e2, hnone] at hu
            exact absurd rfl hu
    have := key (N.map Nv.dv) 0 (List.replicate cs.length false) h.marks
    unfold marks
    rw [List.length_append, List.length_cons, List.length_nil, List.replicate_succ']
    exact this
end Go.Ct

/- Nodes of proper states. -/
set_option linter.unusedSimpArgs false
set_option linter.unusedVariables false
namespace Go.Ct
section
variable {gen : Int} {n c : Nat}
theorem mk_dv : markV.c.dv.c = markV.c := rfl
theorem ok_mark (h : 0 ≤ gen) : NdOk gen n markV.c.dv := ⟨⟨by simp [NdEq, Nd.own, Nd.xsOwn, Nd.ysOwn, markV, Nd.zero, NdV.c, Nd.c, Nv.dv, Nv.nd], by decide, by decide, by decide, .inl rfl⟩, h, fun i hi => by simp [markV, NdV.c, Nd.c, Nv.dv] at hi, ⟨by decide, Int.natCast_nonneg n⟩, ⟨by decide, Int.natCast_nonneg n⟩, ⟨by decide, Int.natCast_nonneg n⟩⟩
theorem ins_zero : Ins 0 n := ⟨Int.le_refl _, Int.natCast_nonneg n⟩
theorem ok_single {h u : Int} {k : ByteArray} (hg : 0 ≤ gen) (hk : k.size ≤ 64) : NdOk gen n (alNv (({ Nd.zero with kind := 4, hash := h, key := k, val := u } : Nd).c [] []) c).dv :=
  ⟨⟨by simp [NdEq, Nd.own, Nd.xsOwn, Nd.ysOwn, Nd.zero, alNv, Nd.c, Nv.dv, Nv.nd], by simp [alNv, Nd.c, Nv.dv, Nv.nd, Nd.zero], by simp [alNv, Nd.c, Nv.dv, Nv.nd, Nd.zero], by simp [alNv, Nd.c, Nv.dv, Nv.nd, Nd.zero], .inr (.inr (.inr (.inl ⟨.inl rfl, hk⟩)))⟩, hg, fun i hi => by simp [alNv, Nd.c, Nv.dv] at hi, ins_zero, ins_zero, ins_zero⟩
theorem ok_inner {g : Int} (hg : g ≤ gen) (h1 : 1 ≤ g) : NdOk gen n (alNv (({ Nd.zero with kind := 2, gen := g } : Nd).c [] []) c).dv :=
  ⟨⟨by simp [NdEq, Nd.own, Nd.xsOwn, Nd.ysOwn, Nd.zero, alNv, Nd.c, Nv.dv, Nv.nd], by simp [alNv, Nd.c, Nv.dv, Nv.nd, Nd.zero]; omega, by simp [alNv, Nd.c, Nv.dv, Nv.nd, Nd.zero], by simp [alNv, Nd.c, Nv.dv, Nv.nd, Nd.zero], .inr (.inl ⟨rfl, h1⟩)⟩, hg, fun i hi => by simp [alNv, Nd.c, Nv.dv] at hi, ins_zero, ins_zero, ins_zero⟩
theorem ok_cnode {b : Nat} {xs : List Int} (hg : 0 ≤ gen) (hb : BV b xs) (hx : ∀ r ∈ xs, r ≤ n) : NdOk gen n (alNv (({ Nd.zero with kind := 3, bm := (b : Int) } : Nd).c xs []) c).dv :=
  ⟨⟨by simp [NdEq, Nd.own, Nd.xsOwn, Nd.ysOwn, Nd.zero, alNv, Nd.c, Nv.dv, Nv.nd], by simp [alNv, Nd.c, Nv.dv, Nv.nd, Nd.zero], by simp [alNv, Nd.c, Nv.dv, Nv.nd, Nd.zero]; omega, by simp [alNv, Nd.c, Nv.dv, Nv.nd, Nd.zero], .inr (.inr (.inl ⟨rfl, by show (xs.length : Int) = rOnes (b : Int); rw [rOnes_cnt hb.lt, hb.len], hb.pos⟩))⟩, hg, fun i hi => by
    have h1 := hb.pos i hi
    have hi' : i < xs.length := hi
    refine ⟨by show 0 ≤ xs.getD i 0; omega, hx _ ?_⟩
    show xs.getD i 0 ∈ xs
    rw [List.getD_eq_getElem?_getD, List.getElem?_eq_getElem hi']
    exact List.getElem_mem hi', ins_zero, ins_zero, ins_zero⟩
theorem ok_list {h : Int} {ys : List Pr} (hg : 0 ≤ gen) (h2 : 2 ≤ ys.length) (ha : Asc ys) (hs : Short ys) : NdOk gen n (alNv (({ Nd.zero with kind := 6, hash := h } : Nd).c [] ys) c).dv :=
  ⟨⟨by simp [NdEq, Nd.own, Nd.xsOwn, Nd.ysOwn, Nd.zero, alNv, Nd.c, Nv.dv, Nv.nd], by simp [alNv, Nd.c, Nv.dv, Nv.nd, Nd.zero], by simp [alNv, Nd.c, Nv.dv, Nv.nd, Nd.zero]; omega, by simp [alNv, Nd.c, Nv.dv, Nv.nd, Nd.zero], .inr (.inr (.inr (.inr (.inl ⟨rfl, h2, ha, hs⟩))))⟩, hg, fun i hi => by simp [alNv, Nd.c, Nv.dv] at hi, ins_zero, ins_zero, ins_zero⟩
theorem properN_new (h : 0 ≤ gen) : ProperN [markV.c, markV.c] [] gen := by
  refine ⟨by simp, h, rfl, rfl, fun i hi => by simp at hi, fun i hi => ?_, by simp [marks, markS, cellK, markV, Nd.zero, NdV.c, Nd.c, Nv.dv, Nv.nd]⟩
  simp only [List.map_cons, List.map_nil, List.length_cons, List.length_nil] at hi
  have : i = 0 ∨ i = 1 := by omega
  rcases this with rfl | rfl
  · exact ok_mark h
  · exact ok_mark h
end
end Go.Ct
