/- The trie of two keys: its I-nodes, its pairs. -/
import Derived.Test.YtpfjjagcmjmfpaaDu2
import Derived.Test.YtpfjjagcmjmfpaaGVw
import Derived.Test.YtpfjjagcmjmfpaaGPc

set_option linter.unusedSimpArgs false
set_option linter.unusedVariables false
namespace Go.Ct
theorem ndAt_in {N0 M : List Nv} {a : Nv} {r : List Nv} : ndAt (N0 ++ M ++ a :: r) ((N0.length + M.length + 1 : Nat) : Int) = a := by
  unfold ndAt
  rw [if_pos ⟨by omega, by simp; omega⟩, show (((N0.length + M.length + 1 : Nat) : Int) - 1).toNat = (N0 ++ M).length by simp; omega, List.getD_eq_getElem?_getD, List.getElem?_append_right (Nat.le_refl _)]
  simp
theorem al_node (N0 : List Nv) (c : Nat) (l1 : List NI) (a : NI) (l2 : List NI) : ndAt (N0 ++ alls (l1 ++ a :: l2) c) ((N0.length + l1.length + 1 : Nat) : Int) = a.c (allN l1 c) := by
  rw [alls_append]
  show ndAt (N0 ++ (alls l1 c ++ a.c (allN l1 c) :: alls l2 _)) _ = _
  have := ndAt_in (N0 := N0) (M := alls l1 c) (a := a.c (allN l1 c)) (r := alls l2 (allN l1 c + nC a.n.kind))
  rw [alls_length, List.append_assoc] at this
  exact this
theorem allCs_pre : ∀ (l : List NI) (cs : List Int), ∃ C, allCs l cs = cs ++ C
  | [], cs => ⟨[], by simp [allCs]⟩
  | a :: l, cs => by
    obtain ⟨C, h⟩ := allCs_pre l (alCs a.n.kind cs a.init)
    have e : allCs (a :: l) cs = allCs l (alCs a.n.kind cs a.init) := rfl
    rw [e, h]
    unfold alCs
    split
    · exact ⟨[a.init] ++ C, by simp⟩
    · exact ⟨C, rfl⟩
theorem al_cell (cs0 ex : List Int) (l1 : List NI) (a : NI) (l2 : List NI) (hk : nC a.n.kind = 1) : cellV (allCs (l1 ++ a :: l2) cs0 ++ ex) ((allN l1 cs0.length + 1 : Nat) : Int) = a.init := by
  obtain ⟨C, h⟩ := allCs_pre l2 (alCs a.n.kind (allCs l1 cs0) a.init)
  have e : allCs (l1 ++ a :: l2) cs0 = alCs a.n.kind (allCs l1 cs0) a.init ++ C := by
    rw [allCs_append]
    exact h
  have e2 : alCs a.n.kind (allCs l1 cs0) a.init = allCs l1 cs0 ++ [a.init] := by
    unfold alCs
    unfold nC at hk
    rw [if_pos (by split at hk; assumption; cases hk)]
  have hl := allCs_len l1 cs0
  rw [e, e2]
  unfold cellV
  rw [if_pos ⟨by omega, by simp; omega⟩, show (((allN l1 cs0.length + 1 : Nat) : Int) - 1).toNat = (allCs l1 cs0).length by omega, List.getD_eq_getElem?_getD, List.append_assoc, List.append_assoc, List.getElem?_append_right (Nat.le_refl _)]
  simp
theorem cellV_pre {cs C : List Int} {c : Int} (h : c ≤ cs.length) : cellV (cs ++ C) c = cellV cs c := by
  unfold cellV
  by_cases h1 : 1 ≤ c
  · rw [if_pos ⟨h1, by simp; omega⟩, if_pos ⟨h1, h⟩, List.getD_eq_getElem?_getD, List.getD_eq_getElem?_getD, List.getElem?_append_left (by omega)]
  · rw [if_neg (by omega), if_neg (by omega)]
end Go.Ct
namespace Go.Proofs.Ytpfjjagcmjmfpaa
open Go Go.RowKit Go.Ct
/-- The pairs of the trie. -/
def prs2 (h0 h : Nat) (p0 : Pr) (k : ByteArray) (u : Int) : List Pr := if com h0 h = 11 then ofL [p0, (k, u)] else if sl h0 (com h0 h) < sl h (com h0 h) then [p0, (k, u)] else [(k, u), p0]
theorem body_of {N : List Nv} {cs : List Int} {i m : Int} (hk : (ndAt N i).kind = 2) (hm : cellV cs (ndAt N i).main = m) (hmk : MainK (ndAt N m)) (hp : cellV cs (ndAt N m).prev = 0) : bodyO N cs i = some m := by
  subst hm
  unfold bodyO bodyP bodyM
  rw [if_pos ⟨hk, hmk⟩, if_pos hp]
theorem vis_step {N : List Nv} {cs : List Int} {i m : Int} {l l2 : List Int} {n : Nat} (hb : bodyO N cs i = some m) (hi : ¬ i ∈ l) (hx : visB N (vis N cs n) (ndAt N m).xs (l ++ [i]) = some l2) : vis N cs (n + 1) i l = some l2 := by
  unfold vis
  rw [if_neg hi, hb]
  exact hx
theorem chain_c {x : Int} {h0 h : Nat} {p0 : Pr} {k : ByteArray} {u gen : Int} (N0 : List Nv) (cs0 ex : List Int) (hx : (ndAt N0 x).kind = 4 ∧ (ndAt N0 x).key = p0.1 ∧ (ndAt N0 x).val = p0.2) :
    ∀ (n lvl : Nat) (rest : List NI), lvl + n = com h0 h → ∀ (i : Int) (acc : List Int) (e : Nat),
      (ndAt (N0 ++ alls (dN x h0 h p0 k u gen (N0.length + 1) n lvl ++ rest) cs0.length) i).kind = 2 →
      cellV (allCs (dN x h0 h p0 k u gen (N0.length + 1) n lvl ++ rest) cs0 ++ ex) (ndAt (N0 ++ alls (dN x h0 h p0 k u gen (N0.length + 1) n lvl ++ rest) cs0.length) i).main = ((N0.length + (dN x h0 h p0 k u gen (N0.length + 1) n lvl).length : Nat) : Int) →
      ((N0.length + (dN x h0 h p0 k u gen (N0.length + 1) n lvl).length : Nat) : Int) < i → (∀ a ∈ acc, i < a) →
      ∃ ch, vis (N0 ++ alls (dN x h0 h p0 k u gen (N0.length + 1) n lvl ++ rest) cs0.length) (allCs (dN x h0 h p0 k u gen (N0.length + 1) n lvl ++ rest) cs0 ++ ex) (n + 1 + e) i acc = some (acc ++ i :: ch) ∧ ch.length = n ∧
        col (N0 ++ alls (dN x h0 h p0 k u gen (N0.length + 1) n lvl ++ rest) cs0.length) (allCs (dN x h0 h p0 k u gen (N0.length + 1) n lvl ++ rest) cs0 ++ ex) (n + 1 + e) i = prs2 h0 h p0 k u := by
  have hx1 := kind_in (N := N0) (i := x) (by rw [hx.1]; decide)
  intro n
  induction n with
  | zero =>
    intro lvl rest hl i acc e hk hm hi hacc
    have hni : ¬ i ∈ acc := fun h => by have := hacc i h; omega
    have hlv : lvl = com h0 h := by omega
    rw [show 0 + 1 + e = e + 1 by omega]
    unfold dN at hk hm hi ⊢
    by_cases h11 : lvl = 11
    · rw [if_pos h11] at hk hm hi ⊢
      have hn := al_node N0 cs0.length [] (niList h (ofL [p0, (k, u)])) rest
      have hc := al_cell cs0 ex [] (niList h (ofL [p0, (k, u)])) rest rfl
      simp only [List.nil_append, List.length_nil, Nat.add_zero] at hn hc
      have hcat : [niList h (ofL [p0, (k, u)])] ++ rest = niList h (ofL [p0, (k, u)]) :: rest := rfl
      rw [hcat] at hk hm ⊢
      simp only [List.length_cons, List.length_nil, Nat.zero_add] at hm hi
      have hb := body_of hk hm (by rw [hn]; exact .inr (.inr rfl)) (by rw [hn]; exact hc)
      refine ⟨[], vis_step hb hni (by rw [hn]; rfl), rfl, ?_⟩
      rw [col_body hb, hn]
      show ofL [p0, (k, u)] ++ [] = _
      unfold prs2
      rw [if_pos (by omega), List.append_nil]
    · rw [if_neg h11] at hk hm hi ⊢
      generalize hC : niC (withI (withI 0 (sl h0 lvl : Int)) (sl h lvl : Int)) (two (sl h0 lvl) (sl h lvl) x ((N0.length + 1 : Nat) : Int)) = C at hk hm hi ⊢
      have hn0 := al_node N0 cs0.length [] (niSingle h k u) (C :: rest)
      have hn := al_node N0 cs0.length [niSingle h k u] C rest
      have hc := al_cell cs0 ex [niSingle h k u] C rest (by rw [← hC]; rfl)
      simp only [List.nil_append, List.length_nil, Nat.add_zero] at hn0
      have hcat : [niSingle h k u, C] ++ rest = niSingle h k u :: C :: rest := rfl
      have hcat2 : [niSingle h k u] ++ C :: rest = niSingle h k u :: C :: rest := rfl
      rw [hcat2] at hn hc
      rw [hcat] at hk hm ⊢
      simp only [List.length_cons, List.length_nil, Nat.zero_add] at hm hi hn hc
      have eN : N0.length + (1 + 1) = N0.length + 1 + 1 := rfl
      rw [eN] at hm
      have hCk : MainK (C.c (allN [niSingle h k u] cs0.length)) := by rw [← hC]; exact .inl rfl
      have hCp : (C.c (allN [niSingle h k u] cs0.length)).prev = ((allN [niSingle h k u] cs0.length + 1 : Nat) : Int) := by rw [← hC]; rfl
      have hCi : C.init = 0 := by rw [← hC]
      have hCx : (C.c (allN [niSingle h k u] cs0.length)).xs = two (sl h0 lvl) (sl h lvl) x ((N0.length + 1 : Nat) : Int) := by rw [← hC]; rfl
      have hb := body_of hk hm (by rw [hn]; exact hCk) (by rw [hn, hCp, hc, hCi])
      have hxN : ndAt (N0 ++ alls (niSingle h k u :: C :: rest) cs0.length) x = ndAt N0 x := ndAt_app hx1.2
      have hs4 : (ndAt (N0 ++ alls (niSingle h k u :: C :: rest) cs0.length) ((N0.length + 1 : Nat) : Int)).kind = 4 := by rw [hn0]; rfl
      have hx4 : (ndAt (N0 ++ alls (niSingle h k u :: C :: rest) cs0.length) x).kind = 4 := by rw [hxN]; exact hx.1
      refine ⟨[], vis_step hb hni ?_, rfl, ?_⟩
      · rw [hn, hCx]
        unfold two
        split <;> simp only [visB, hs4, hx4, if_true]
      · rw [col_body hb, hn, hCx]
        have ho : ownP (C.c (allN [niSingle h k u] cs0.length)) = [] := by rw [← hC]; rfl
        have e1 : ((ndAt (N0 ++ alls (niSingle h k u :: C :: rest) cs0.length) x).key, (ndAt (N0 ++ alls (niSingle h k u :: C :: rest) cs0.length) x).val) = p0 := by rw [hxN, hx.2.1, hx.2.2]
        have e2 : ((ndAt (N0 ++ alls (niSingle h k u :: C :: rest) cs0.length) ((N0.length + 1 : Nat) : Int)).key, (ndAt (N0 ++ alls (niSingle h k u :: C :: rest) cs0.length) ((N0.length + 1 : Nat) : Int)).val) = (k, u) := by rw [hn0]; rfl
        rw [ho, List.nil_append]
        unfold prs2 two
        rw [if_neg (show ¬ com h0 h = 11 by omega), hlv]
        split <;> simp only [colB, hs4, hx4, if_true, e1, e2, List.append_nil, List.cons_append, List.nil_append]
  | succ n ih =>
    intro lvl rest hl i acc e hk hm hi hacc
    have hni : ¬ i ∈ acc := fun h => by have := hacc i h; omega
    rw [show n + 1 + 1 + e = (n + 1 + e) + 1 by omega]
    unfold dN at hk hm hi ⊢
    generalize hD : dN x h0 h p0 k u gen (N0.length + 1) n (lvl + 1) = D at hk hm hi ⊢
    generalize hI : niInner gen ((N0.length + 1 - 1 + D.length : Nat) : Int) = I at hk hm hi ⊢
    generalize hC : niC (withI 0 (sl h lvl : Int)) [((N0.length + 1 + D.length : Nat) : Int)] = C at hk hm hi ⊢
    have hnI := al_node N0 cs0.length D I (C :: rest)
    have hcI := al_cell cs0 ex D I (C :: rest) (by rw [← hI]; rfl)
    have hnC := al_node N0 cs0.length (D ++ [I]) C rest
    have hcC := al_cell cs0 ex (D ++ [I]) C rest (by rw [← hC]; rfl)
    have hcat : D ++ [I, C] ++ rest = D ++ I :: C :: rest := by simp
    have hcat2 : D ++ [I] ++ C :: rest = D ++ I :: C :: rest := by simp
    rw [hcat2] at hnC hcC
    rw [hcat] at hk hm ⊢
    simp only [List.length_append, List.length_cons, List.length_nil, Nat.zero_add] at hm hi hnC
    rw [show N0.length + (D.length + (1 + 1)) = N0.length + (D.length + 1) + 1 by omega] at hm
    have hCk : MainK (C.c (allN (D ++ [I]) cs0.length)) := by rw [← hC]; exact .inl rfl
    have hCp : (C.c (allN (D ++ [I]) cs0.length)).prev = ((allN (D ++ [I]) cs0.length + 1 : Nat) : Int) := by rw [← hC]; rfl
    have hCi : C.init = 0 := by rw [← hC]
    have hCx : (C.c (allN (D ++ [I]) cs0.length)).xs = [((N0.length + D.length + 1 : Nat) : Int)] := by rw [← hC]; show [((N0.length + 1 + D.length : Nat) : Int)] = _; rw [show N0.length + 1 + D.length = N0.length + D.length + 1 by omega]
    have hb := body_of hk hm (by rw [hnC]; exact hCk) (by rw [hnC, hCp, hcC, hCi])
    have hIk : (I.c (allN D cs0.length)).kind = 2 := by rw [← hI]; rfl
    have hIm : (I.c (allN D cs0.length)).main = ((allN D cs0.length + 1 : Nat) : Int) := by rw [← hI]; rfl
    have hIi : I.init = ((N0.length + D.length : Nat) : Int) := by rw [← hI]; show ((N0.length + 1 - 1 + D.length : Nat) : Int) = _; rw [Nat.add_sub_cancel]
    have ihh := ih (lvl + 1) (I :: C :: rest) (by omega) ((N0.length + D.length + 1 : Nat) : Int) (acc ++ [i]) e
    rw [hD] at ihh
    obtain ⟨ch, v1, v2, v3⟩ := ihh (by rw [hnI]; exact hIk) (by rw [hnI, hIm, hcI, hIi]) (by omega) (fun a ha => by
      rcases List.mem_append.1 ha with h | h
      · have := hacc a h; omega
      · rw [List.mem_singleton.1 h]; omega)
    have hI4 : ¬ (ndAt (N0 ++ alls (D ++ I :: C :: rest) cs0.length) ((N0.length + D.length + 1 : Nat) : Int)).kind = 4 := by rw [hnI, hIk]; decide
    have hI2 : (ndAt (N0 ++ alls (D ++ I :: C :: rest) cs0.length) ((N0.length + D.length + 1 : Nat) : Int)).kind = 2 := by rw [hnI, hIk]
    refine ⟨((N0.length + D.length + 1 : Nat) : Int) :: ch, vis_step hb hni ?_, by simp [v2], ?_⟩
    · rw [hnC, hCx]
      simp only [visB, if_neg hI4, if_pos hI2, v1, Option.bind_some]
      simp
    · rw [col_body hb, hnC, hCx]
      have ho : ownP (C.c (allN (D ++ [I]) cs0.length)) = [] := by rw [← hC]; rfl
      rw [ho, List.nil_append]
      simp only [colB, if_neg hI4, v3, List.append_nil]
end Go.Proofs.Ytpfjjagcmjmfpaa

/- The trie of two keys is proper; what is visited; the order of keys. -/
set_option linter.unusedSimpArgs false
set_option linter.unusedVariables false
namespace Go.Proofs.Ytpfjjagcmjmfpaa
open Go Go.RowKit Go.Ct
theorem pN_ni {N0 : List Nv} {cs0 : List Int} {G : Int} {l : List NI} (hp : ProperN (N0 ++ alls l cs0.length) (allCs l cs0) G) (a : NI) (ok : NdOk G (N0.length + l.length + 1) (a.c (allN l cs0.length)).dv) (hi : Ins a.init (N0.length + l.length)) : ProperN (N0 ++ alls (l ++ [a]) cs0.length) (allCs (l ++ [a]) cs0) G := by
  have hl : (N0 ++ alls l cs0.length).length = N0.length + l.length := by rw [List.length_append, alls_length]
  have hc := allCs_len l cs0
  have := hp.push (n := a.n.c a.xs a.ys) (init := a.init) (by rw [hl, hc]; exact ok) (by rw [hl]; exact hi)
  rw [alls_append, allCs_append, ← List.append_assoc]
  rw [hc] at this
  exact this
theorem bv_two {i k : Nat} {x s : Int} (hi : i < 64) (hk : k < 64) (hne : i ≠ k) (hx : 1 ≤ x) (hs : 1 ≤ s) : BV (withI (withI 0 (i : Int)) (k : Int)) (two i k x s) := by
  have hb := has1 hi hk hne
  rw [hasI_in _ (by omega) (by omega), Int.toNat_natCast] at hb
  have h := (ins_bv (bv_one hi hx) hk hb hs).1
  have e0 : ∀ b, withI b (k : Int) = b ||| 2 ^ k := fun b => by
    unfold withI
    rw [if_pos (by omega), Int.toNat_natCast]
  have e1 : withI (withI 0 (i : Int)) (k : Int) = withI 0 (i : Int) ||| 2 ^ k := e0 _
  have e2 : posN (withI 0 (i : Int)) (k : Int) = cnt (withI 0 (i : Int)) k := by unfold posN; rw [Int.toNat_natCast, Nat.min_eq_left (by omega)]
  rw [e1, ← ins1 hi hk x s, e2]
  exact h
theorem two_mem {i k : Nat} {x s r : Int} (h : r ∈ two i k x s) : r = x ∨ r = s := by
  unfold two at h
  split at h <;> simp only [List.mem_cons, List.not_mem_nil, or_false] at h
  · exact h
  · exact h.symm
theorem dN_proper {x : Int} {h0 h : Nat} {p0 : Pr} {k : ByteArray} {u gen G : Int} (N0 : List Nv) (cs0 : List Int) (hp : ProperN N0 cs0 G) (h1 : 1 ≤ gen) (h2 : gen ≤ G) (hx : 1 ≤ x ∧ x ≤ N0.length) (hk : k.size ≤ 64) (hp0 : p0.1.size ≤ 64) (hne : k ≠ p0.1) :
    ∀ n lvl, lvl + n = com h0 h → ProperN (N0 ++ alls (dN x h0 h p0 k u gen (N0.length + 1) n lvl) cs0.length) (allCs (dN x h0 h p0 k u gen (N0.length + 1) n lvl) cs0) G := by
  have hcl := com_le h0 h
  have p1 : ProperN (N0 ++ alls [] cs0.length) (allCs [] cs0) G := by
    show ProperN (N0 ++ []) cs0 G
    rw [List.append_nil]
    exact hp
  intro n
  induction n with
  | zero =>
    intro lvl hl
    unfold dN
    by_cases h11 : lvl = 11
    · rw [if_pos h11]
      have e : ofL [p0, (k, u)] = putL [p0] k u := rfl
      have hsa : SA [p0] := List.pairwise_singleton _ _
      have hf : fnd [p0] k = none := by
        unfold fnd
        rw [if_neg (fun e => hne e.symm)]
        rfl
      have hlen : (ofL [p0, (k, u)]).length = 2 := by rw [e, put_len hsa, hf]; rfl
      refine pN_ni p1 (niList h (ofL [p0, (k, u)])) (ok_list (by omega) (by rw [hlen]; exact Nat.le_refl _) (asc_sa.2 (ofL_sa _)) fun i hi => ?_) ⟨Int.le_refl _, Int.natCast_nonneg _⟩
      have hm : (ofL [p0, (k, u)]).getD i (⟨#[]⟩, 0) ∈ ofL [p0, (k, u)] := by rw [List.getD_eq_getElem?_getD, List.getElem?_eq_getElem hi]; exact List.getElem_mem _
      rw [e] at hm
      rcases putL_mem hm with h | h
      · rw [e, h]; exact hk
      · rw [e, List.mem_singleton.1 h]; exact hp0
    · rw [if_neg h11]
      have hs := sl_lt h0 lvl
      have hs2 := sl_lt h lvl
      have hlv : lvl = com h0 h := by omega
      have hn : sl h0 lvl ≠ sl h lvl := by rw [hlv]; exact com_ne (by omega)
      have q1 := pN_ni p1 (niSingle h k u) (ok_single (c := allN [] cs0.length) (by omega) hk) ⟨Int.le_refl _, Int.natCast_nonneg _⟩
      exact pN_ni q1 (niC (withI (withI 0 (sl h0 lvl : Int)) (sl h lvl : Int)) (two (sl h0 lvl) (sl h lvl) x ((N0.length + 1 : Nat) : Int))) (ok_cnode (by omega) (bv_two hs hs2 hn hx.1 (by omega)) fun r hr => by
        rcases two_mem hr with rfl | rfl
        · have := hx.2; omega
        · omega) ⟨Int.le_refl _, Int.natCast_nonneg _⟩
  | succ n ih =>
    intro lvl hl
    have ihh := ih (lvl + 1) (by omega)
    unfold dN
    generalize dN x h0 h p0 k u gen (N0.length + 1) n (lvl + 1) = D at ihh ⊢
    have q1 := pN_ni ihh (niInner gen ((N0.length + 1 - 1 + D.length : Nat) : Int)) (ok_inner h2 h1) ⟨Int.natCast_nonneg _, by show ((N0.length + 1 - 1 + D.length : Nat) : Int) ≤ ((N0.length + D.length : Nat) : Int); omega⟩
    have q2 := pN_ni q1 (niC (withI 0 (sl h lvl : Int)) [((N0.length + 1 + D.length : Nat) : Int)]) (ok_cnode (by omega) (bv_one (sl_lt h lvl) (by omega)) fun r hr => by
        rw [List.mem_singleton.1 hr, List.length_append, List.length_cons, List.length_nil]
        omega) ⟨Int.le_refl _, Int.natCast_nonneg _⟩
    rw [List.append_assoc] at q2
    exact q2
/-- The nodes of the trie, its cells. -/
def dvN (h0 h : Nat) (p0 : Pr) (k : ByteArray) (u : Int) : List NI := dN 3 h0 h p0 k u 1 4 (com h0 h) 0 ++ [niInner 2 ((3 + (dN 3 h0 h p0 k u 1 4 (com h0 h) 0).length : Nat) : Int)]
def dv0 (h0 : Nat) (p0 : Pr) : List Nv := [markV.c, markV.c, (niSingle h0 p0.1 p0.2).c 0]
theorem dual_trav {h0 h : Nat} {p0 : Pr} {k : ByteArray} {u : Int} (hk : k.size ≤ 64) (hp0 : p0.1.size ≤ 64) (hne : k ≠ p0.1) {L : List NdV} (hL : L.map NdV.c = dv0 h0 p0 ++ alls (dvN h0 h p0 k u) 0) :
    ∃ l, travO L (allCs (dvN h0 h p0 k u) [] ++ [((3 + (dvN h0 h p0 k u).length : Nat) : Int)]) 5 (((allCs (dvN h0 h p0 k u) []).length + 1 : Nat) : Int) = some l ∧ l.length = 1 + com h0 h ∧
      col (L.map NdV.c) (allCs (dvN h0 h p0 k u) [] ++ [((3 + (dvN h0 h p0 k u).length : Nat) : Int)]) 12 (l.headD 0) = prs2 h0 h p0 k u := by
  have hcl := com_le h0 h
  have hlen0 : (dv0 h0 p0).length = 3 := rfl
  have hpr0 : ProperN (dv0 h0 p0) [] 5 := (properN_new (gen := 5) (by decide)).push (init := 0) (n := ({ Nd.zero with kind := 4, hash := (h0 : Int), key := p0.1, val := p0.2 } : Nd).c [] []) (ok_single (by decide) hp0) ⟨by decide, by decide⟩
  have hpr1 := dN_proper (x := 3) (h0 := h0) (h := h) (p0 := p0) (k := k) (u := u) (gen := 1) (G := 5) (dv0 h0 p0) [] hpr0 (by decide) (by decide) (by rw [hlen0]; decide) hk hp0 hne (com h0 h) 0 (by omega)
  have e4 : (3 + 1 : Nat) = 4 := rfl
  rw [hlen0, e4] at hpr1
  have hpr2 := pN_ni hpr1 (niInner 2 ((3 + (dN 3 h0 h p0 k u 1 4 (com h0 h) 0).length : Nat) : Int)) (ok_inner (by decide) (by decide)) (by rw [hlen0]; exact ⟨Int.natCast_nonneg _, Int.le_refl _⟩)
  have hN : (dv0 h0 p0 ++ alls (dvN h0 h p0 k u) 0).length = 3 + (dvN h0 h p0 k u).length := by rw [List.length_append, alls_length, hlen0]
  have hpr3 := hpr2.cell (init := ((3 + (dvN h0 h p0 k u).length : Nat) : Int)) ⟨Int.natCast_nonneg _, by show _ ≤ ((dv0 h0 p0 ++ alls (dvN h0 h p0 k u) 0).length : Int); rw [hN]; exact Int.le_refl _⟩
  have hpL : Proper L (allCs (dvN h0 h p0 k u) [] ++ [((3 + (dvN h0 h p0 k u).length : Nat) : Int)]) 5 := ProperN.to hpr3 hL
  have hdl : (dvN h0 h p0 k u).length = (dN 3 h0 h p0 k u 1 4 (com h0 h) 0).length + 1 := by unfold dvN; rw [List.length_append]; rfl
  have hni := al_node (dv0 h0 p0) 0 (dN 3 h0 h p0 k u 1 4 (com h0 h) 0) (niInner 2 ((3 + (dN 3 h0 h p0 k u 1 4 (com h0 h) 0).length : Nat) : Int)) []
  have hci := al_cell [] [((3 + (dvN h0 h p0 k u).length : Nat) : Int)] (dN 3 h0 h p0 k u 1 4 (com h0 h) 0) (niInner 2 ((3 + (dN 3 h0 h p0 k u 1 4 (com h0 h) 0).length : Nat) : Int)) [] rfl
  rw [show dN 3 h0 h p0 k u 1 4 (com h0 h) 0 ++ [niInner 2 ((3 + (dN 3 h0 h p0 k u 1 4 (com h0 h) 0).length : Nat) : Int)] = dvN h0 h p0 k u from rfl, hlen0] at hni
  rw [show dN 3 h0 h p0 k u 1 4 (com h0 h) 0 ++ [niInner 2 ((3 + (dN 3 h0 h p0 k u 1 4 (com h0 h) 0).length : Nat) : Int)] = dvN h0 h p0 k u from rfl] at hci
  have hroot : cellV (allCs (dvN h0 h p0 k u) [] ++ [((3 + (dvN h0 h p0 k u).length : Nat) : Int)]) (((allCs (dvN h0 h p0 k u) []).length + 1 : Nat) : Int) = ((3 + (dvN h0 h p0 k u).length : Nat) : Int) := by
    unfold cellV
    rw [if_pos ⟨by omega, by simp⟩, show ((((allCs (dvN h0 h p0 k u) []).length + 1 : Nat) : Int) - 1).toNat = (allCs (dvN h0 h p0 k u) []).length by omega, List.getD_eq_getElem?_getD, List.getElem?_append_right (Nat.le_refl _)]
    simp
  have e3 : 3 + (dvN h0 h p0 k u).length = 3 + (dN 3 h0 h p0 k u 1 4 (com h0 h) 0).length + 1 := by omega
  have hrk : (ndAt (dv0 h0 p0 ++ alls (dvN h0 h p0 k u) 0) ((3 + (dvN h0 h p0 k u).length : Nat) : Int)).kind = 2 := by rw [e3, hni]; rfl
  have hro : rootO (L.map NdV.c) (allCs (dvN h0 h p0 k u) [] ++ [((3 + (dvN h0 h p0 k u).length : Nat) : Int)]) (((allCs (dvN h0 h p0 k u) []).length + 1 : Nat) : Int) = some ((3 + (dvN h0 h p0 k u).length : Nat) : Int) := by
    have hrp : rootP (L.map NdV.c) (allCs (dvN h0 h p0 k u) [] ++ [((3 + (dvN h0 h p0 k u).length : Nat) : Int)]) (((allCs (dvN h0 h p0 k u) []).length + 1 : Nat) : Int) = ((3 + (dvN h0 h p0 k u).length : Nat) : Int) := by
      unfold rootP
      rw [hroot, hL, if_neg (by rw [hrk]; decide)]
    unfold rootO
    rw [hrp, hL, if_pos hrk]
  have hch := chain_c (x := 3) (h0 := h0) (h := h) (p0 := p0) (k := k) (u := u) (gen := 1) (dv0 h0 p0) [] [((3 + (dvN h0 h p0 k u).length : Nat) : Int)] ⟨rfl, rfl, rfl⟩ (com h0 h) 0 [niInner 2 ((3 + (dN 3 h0 h p0 k u 1 4 (com h0 h) 0).length : Nat) : Int)] (by omega) ((3 + (dvN h0 h p0 k u).length : Nat) : Int) [] (11 - com h0 h)
  rw [hlen0, e4, show dN 3 h0 h p0 k u 1 4 (com h0 h) 0 ++ [niInner 2 ((3 + (dN 3 h0 h p0 k u 1 4 (com h0 h) 0).length : Nat) : Int)] = dvN h0 h p0 k u from rfl] at hch
  have hrm : (ndAt (dv0 h0 p0 ++ alls (dvN h0 h p0 k u) 0) ((3 + (dvN h0 h p0 k u).length : Nat) : Int)).main = ((allN (dN 3 h0 h p0 k u 1 4 (com h0 h) 0) 0 + 1 : Nat) : Int) := by rw [e3, hni]; rfl
  obtain ⟨ch, c1, c2, c3⟩ := hch hrk (by
      show cellV _ (ndAt (dv0 h0 p0 ++ alls (dvN h0 h p0 k u) 0) _).main = _
      rw [hrm]
      exact hci) (by omega) (fun a ha => nomatch ha)
  refine ⟨((3 + (dvN h0 h p0 k u).length : Nat) : Int) :: ch, ?_, by simp [c2]; omega, ?_⟩
  · rw [travO_if hpL, hro, hL]
    rw [show com h0 h + 1 + (11 - com h0 h) = 12 by omega] at c1
    exact c1
  · rw [hL]
    rw [show com h0 h + 1 + (11 - com h0 h) = 12 by omega] at c3
    exact c3
end Go.Proofs.Ytpfjjagcmjmfpaa
