/- Branches: nodes with a map; put. -/
import Derived.Test.YthmagkjcangnfaaBr10
import Derived.Test.YthmagkjcangnfaaBr11
set_option linter.unusedSimpArgs false
set_option linter.unusedVariables false
namespace Go.Proofs.Ythmagkjcangnfaa
open Go.RowKit Go.Ct
/-- A C-node with a bitmap and a list. -/
structure CNd (n : Nd) (xs : List Int) (b : Nat) : Prop where
  bm : n.bm = (b : Int)
  bv : BV b xs
  brN : n.brN = xs.length
  prN : n.prN = 0
  prA : n.prA = none
  cap : xs.length ≤ n.brC
  cv : CV n xs []
  key : n.key = ⟨#[]⟩
theorem CNd.le {n : Nd} {xs : List Int} {b : Nat} (h : CNd n xs b) : xs.length ≤ 64 := by
  have := h.bv.len; have := cnt_le b 64; omega
theorem CNd.rep {n : Nd} {xs : List Int} {b : Nat} {w : World} (h : CNd n xs b) (hc : Cl w n.brA (refsC xs)) : Rep w n xs [] :=
  ⟨h.brN, h.prN, hc, by rw [h.prA]; exact Cl.nil _ _, by have := h.le; omega, by decide⟩
theorem res_cnd {q : Nat × List Int} (h : BV q.1 q.2) (x : Option Addr × Nat) (hx : q.2.length ≤ x.2) : CNd (resN (some q) x) q.2 q.1 :=
  ⟨rfl, h, rfl, rfl, rfl, hx, cv_cn0 h x, rfl⟩
/-- The node of a tape. -/
abbrev tn (x : Nat × List Int × Option Addr × Nat × Nat) : Nd := { cn x.1 x.2.1 (x.2.2.1, x.2.2.2.1) with prev := (x.2.2.2.2 : Int) }
theorem tn_cnd {x : Nat × List Int × Option Addr × Nat × Nat} (h : BV x.1 x.2.1 ∧ x.2.1.length ≤ x.2.2.2.1 ∧ x.2.2.2.2 ≤ 2) : CNd (tn x) x.2.1 x.1 :=
  ⟨rfl, h.1, rfl, rfl, rfl, h.2.1, cv_cn h.1 _ (Int.natCast_nonneg _), rfl⟩
section
variable {n : Nd} {xs : List Int} {b : Nat} {w : World} {k : Nat} {r : Int}
theorem CNd.lookup (h : CNd n xs b) (hc : Cl w n.brA (refsC xs)) (hk : k < 64) : Calls Try.prog 49 #[n.v, .int .i64 (k : Int)] w fun e w' => e = .returned (.tuple #[.int .i64 ((mOf b xs k).getD 0), .bool (mOf b xs k).isSome]) ∧ St w [] [] w' := by
  have := lookup_c (k : Int) h.bm h.bv.lt (h.rep hc)
  rw [lkO_mOf h.cv hk] at this
  exact this
theorem CNd.inserted (h : CNd n xs b) (hc : Cl w n.brA (refsC xs)) (k r : Int) : Calls Try.prog 50 #[n.v, .int .i64 k, .int .i64 r] w (CRes w (inO n xs [] b k r)) :=
  inserted_c k r h.bm h.bv.lt (h.rep hc) h.cap (by have := h.le; omega)
theorem CNd.updated (h : CNd n xs b) (hc : Cl w n.brA (refsC xs)) (k r : Int) : Calls Try.prog 51 #[n.v, .int .i64 k, .int .i64 r] w (CRes w (upO n xs [] b k r)) :=
  updated_c k r h.bm h.bv.lt (h.rep hc) h.cap (by have := h.le; omega)
theorem CNd.removed (h : CNd n xs b) (hc : Cl w n.brA (refsC xs)) (k : Int) : Calls Try.prog 52 #[n.v, .int .i64 k] w (CRes w (reO n xs [] b k)) :=
  removed_c k h.bm h.bv.lt (h.rep hc) h.cap (by have := h.le; omega)
noncomputable def puO (n : Nd) (xs : List Int) (b k : Nat) (r : Int) : Option (Nat × List Int) := if (mOf b xs k).isSome = true then upO n xs [] b (k : Int) r else inO n xs [] b (k : Int) r
def puLen (b : Nat) (xs : List Int) (k : Nat) : Nat := if (mOf b xs k).isSome = true then xs.length else xs.length + 1
theorem CNd.put (h : CNd n xs b) (hc : Cl w n.brA (refsC xs)) (hk : k < 64) (r : Int) : Calls Try.prog 46 #[n.v, .int .i64 (k : Int), .int .i64 r] w (CRes w (puO n xs b k r)) := by
  have e1 := h.brN
  refine enter Try.func46 Try.ntmps46 rfl rfl (SF.s1 hc) ?_
  simp only [mkS]
  all_goals (refine k_seq ?_)
  all_goals refine k_region ?_
  all_goals refine j_box (fun x3 => ?_)
  all_goals refine j_alloc (fun x6 => ?_)
  all_goals refine j_assignL (fun _ => ?_)
  all_goals refine l_nil ?_
  all_goals (refine k_seq ?_)
  all_goals (refine k_seq ?_)
  all_goals refine k_region ?_
  all_goals refine j_load ?_
  all_goals refine j_move ?_
  all_goals (refine j_own (cV (hc := fun w1 hw => h.lookup (hw.cl (by first | exact .new .head | exact .new (.tail .head) | exact .new (.tail (.tail .head)) | exact .new (.tail (.tail (.tail .head))) | exact .new (.tail (.tail (.tail (.tail .head)))) | exact .new (.tail (.tail (.tail (.tail (.tail .head))))) | exact .new (.tail (.tail (.tail (.tail (.tail (.tail .head)))))) | exact .new (.tail (.tail (.tail (.tail (.tail (.tail (.tail .head))))))) | exact .new (.tail (.tail (.tail (.tail (.tail (.tail (.tail (.tail .head)))))))) | exact .new (.tail (.tail (.tail (.tail (.tail (.tail (.tail (.tail (.tail .head))))))))) | exact .old .head | exact .old (.tail .head) | exact .old (.tail (.tail .head)) | exact .old (.tail (.tail (.tail .head))) | exact .old (.tail (.tail (.tail (.tail .head)))) | exact .old (.tail (.tail (.tail (.tail (.tail .head))))) | exact .own .head | exact .own (.tail .head) | exact .own (.tail (.tail .head)) | exact .own (.tail (.tail (.tail .head))) | exact .own (.tail (.tail (.tail (.tail .head)))) | exact .own (.tail (.tail (.tail (.tail (.tail .head))))) | exact .own (.tail (.tail (.tail (.tail (.tail (.tail .head)))))) | exact .own (.tail (.tail (.tail (.tail (.tail (.tail (.tail .head))))))))) hk)) (fun x13 => ?_); try (refine l_fact (fun h13 => ?_)))
  all_goals refine j_move ?_
  all_goals refine l_quiet (o_extract (by exact rfl) rfl) rfl ?_
  all_goals refine l_quiet (o_extract (by exact rfl) rfl) rfl ?_
  all_goals refine j_assignL (fun _ => ?_)
  all_goals refine j_assignL (fun _ => ?_)
  all_goals refine l_nil ?_
  all_goals (refine k_seq ?_)
  all_goals refine k_region ?_
  all_goals refine j_move ?_
  all_goals refine l_nil ?_
  all_goals
    refine k_cond (by exact rfl) (fun c16 => ?_) (fun c16 => ?_)
    · try (exact absurd c16 (by decide))
      all_goals (first | replace c16 := of_decide_eq_true c16 | replace c16 := sbeq_t c16 | replace c16 := sbne_t c16 | replace c16 := ibeq_t c16 | replace c16 := ibne_t c16 | replace c16 := ndec_t c16 | replace c16 := not_t c16 | skip)
      all_goals (refine k_seq ?_)
      all_goals refine k_region ?_
      all_goals refine j_load ?_
      all_goals refine j_move ?_
      all_goals refine j_move ?_
      all_goals (refine j_own (cF (hc := fun w1 hw => h.updated (hw.cl (by first | exact .new .head | exact .new (.tail .head) | exact .new (.tail (.tail .head)) | exact .new (.tail (.tail (.tail .head))) | exact .new (.tail (.tail (.tail (.tail .head)))) | exact .new (.tail (.tail (.tail (.tail (.tail .head))))) | exact .new (.tail (.tail (.tail (.tail (.tail (.tail .head)))))) | exact .new (.tail (.tail (.tail (.tail (.tail (.tail (.tail .head))))))) | exact .new (.tail (.tail (.tail (.tail (.tail (.tail (.tail (.tail .head)))))))) | exact .new (.tail (.tail (.tail (.tail (.tail (.tail (.tail (.tail (.tail .head))))))))) | exact .old .head | exact .old (.tail .head) | exact .old (.tail (.tail .head)) | exact .old (.tail (.tail (.tail .head))) | exact .old (.tail (.tail (.tail (.tail .head)))) | exact .old (.tail (.tail (.tail (.tail (.tail .head))))) | exact .own .head | exact .own (.tail .head) | exact .own (.tail (.tail .head)) | exact .own (.tail (.tail (.tail .head))) | exact .own (.tail (.tail (.tail (.tail .head)))) | exact .own (.tail (.tail (.tail (.tail (.tail .head))))) | exact .own (.tail (.tail (.tail (.tail (.tail (.tail .head)))))) | exact .own (.tail (.tail (.tail (.tail (.tail (.tail (.tail .head))))))))) (k : Int) r)) (fun x20 => ?_); try (refine l_fact (fun h20 => ?_)))
      all_goals refine l_quiet (o_extract (by exact rfl) rfl) rfl ?_
      all_goals refine l_quiet (o_extract (by exact rfl) rfl) rfl ?_
      all_goals refine j_store (fun _ => ?_)
      all_goals refine j_assignL (fun _ => ?_)
      all_goals refine l_nil ?_
      all_goals
        refine k_retvF Try.results46 (.cell (by exact rfl) (by repeat (first | exact At.head | apply At.tail)) (by exact agg_of rfl) (.tmp (by conv => { lhs; whnf }) .nil)) (fun w hw => ?_)
        rw [show puO n xs b k r = upO n xs [] b (k : Int) r from if_pos (by assumption)]; exact ⟨_, rfl, by assumption, hw.fin⟩
    · try (exact absurd c16 (by decide))
      all_goals (first | replace c16 := of_decide_eq_false c16 | replace c16 := sbeq_f c16 | replace c16 := sbne_f c16 | replace c16 := ibeq_f c16 | replace c16 := ibne_f c16 | replace c16 := ndec_f c16 | replace c16 := not_f c16 | skip)
      all_goals (refine k_skip ?_)
      all_goals (refine k_seq ?_)
      all_goals refine k_region ?_
      all_goals refine j_load ?_
      all_goals refine j_move ?_
      all_goals refine j_move ?_
      all_goals (refine j_own (cF (hc := fun w1 hw => h.inserted (hw.cl (by first | exact .new .head | exact .new (.tail .head) | exact .new (.tail (.tail .head)) | exact .new (.tail (.tail (.tail .head))) | exact .new (.tail (.tail (.tail (.tail .head)))) | exact .new (.tail (.tail (.tail (.tail (.tail .head))))) | exact .new (.tail (.tail (.tail (.tail (.tail (.tail .head)))))) | exact .new (.tail (.tail (.tail (.tail (.tail (.tail (.tail .head))))))) | exact .new (.tail (.tail (.tail (.tail (.tail (.tail (.tail (.tail .head)))))))) | exact .new (.tail (.tail (.tail (.tail (.tail (.tail (.tail (.tail (.tail .head))))))))) | exact .old .head | exact .old (.tail .head) | exact .old (.tail (.tail .head)) | exact .old (.tail (.tail (.tail .head))) | exact .old (.tail (.tail (.tail (.tail .head)))) | exact .old (.tail (.tail (.tail (.tail (.tail .head))))) | exact .own .head | exact .own (.tail .head) | exact .own (.tail (.tail .head)) | exact .own (.tail (.tail (.tail .head))) | exact .own (.tail (.tail (.tail (.tail .head)))) | exact .own (.tail (.tail (.tail (.tail (.tail .head))))) | exact .own (.tail (.tail (.tail (.tail (.tail (.tail .head)))))) | exact .own (.tail (.tail (.tail (.tail (.tail (.tail (.tail .head))))))))) (k : Int) r)) (fun x26 => ?_); try (refine l_fact (fun h26 => ?_)))
      all_goals refine l_quiet (o_extract (by exact rfl) rfl) rfl ?_
      all_goals refine l_quiet (o_extract (by exact rfl) rfl) rfl ?_
      all_goals refine j_store (fun _ => ?_)
      all_goals refine j_assignL (fun _ => ?_)
      all_goals refine l_nil ?_
      all_goals
        refine k_retvF Try.results46 (.cell (by exact rfl) (by repeat (first | exact At.head | apply At.tail)) (by exact agg_of rfl) (.tmp (by conv => { lhs; whnf }) .nil)) (fun w hw => ?_)
        rw [show puO n xs b k r = inO n xs [] b (k : Int) r from if_neg (by simp_all)]; exact ⟨_, rfl, by assumption, hw.fin⟩
theorem CNd.in_m (h : CNd n xs b) (hk : k < 64) (hr : 1 ≤ r) (hm : (mOf b xs k).isSome = false) : IsM (inO n xs [] b (k : Int) r) (upd (mOf b xs) k (Option.some r)) (xs.length + 1) := Go.Proofs.Ythmagkjcangnfaa.in_m h.cv h.bv hk hr hm
theorem CNd.up_m (h : CNd n xs b) (hk : k < 64) (hr : 1 ≤ r) (hm : (mOf b xs k).isSome = true) : IsM (upO n xs [] b (k : Int) r) (upd (mOf b xs) k (some r)) xs.length := Go.Proofs.Ythmagkjcangnfaa.up_m h.cv h.bv hk hr hm
theorem CNd.re_m (h : CNd n xs b) (hk : k < 64) (hm : (mOf b xs k).isSome = true) : IsM (reO n xs [] b (k : Int)) (upd (mOf b xs) k none) (xs.length - 1) := Go.Proofs.Ythmagkjcangnfaa.re_m h.cv h.bv hk hm
theorem CNd.pu_m (h : CNd n xs b) (hk : k < 64) (hr : 1 ≤ r) : IsM (puO n xs b k r) (upd (mOf b xs) k (some r)) (puLen b xs k) := by
  unfold puO puLen
  cases hm : (mOf b xs k).isSome with
  | true => rw [if_pos rfl, if_pos rfl]; exact h.up_m hk hr hm
  | false => rw [if_neg (by decide), if_neg (by decide)]; exact h.in_m hk hr hm
theorem IsM.cnd {o : Option (Nat × List Int)} {m : Nat → Option Int} {len : Nat} (h : IsM o m len) {x : Option Addr × Nat} (hx : (resL o).length ≤ x.2) : CNd (resN o x) (resL o) (resB o) := by
  obtain ⟨q, h1, h2, _⟩ := h
  subst h1
  exact res_cnd h2 x hx
theorem IsM.brA {o : Option (Nat × List Int)} {m : Nat → Option Int} {len : Nat} (h : IsM o m len) (x : Option Addr × Nat) : (resN o x).brA = x.1 := by
  obtain ⟨q, h1, h2, _⟩ := h
  subst h1; rfl
theorem IsM.isS {o : Option (Nat × List Int)} {m : Nat → Option Int} {len : Nat} (h : IsM o m len) : o.isSome = true := by
  obtain ⟨q, h1, _⟩ := h; rw [h1]; rfl
theorem IsM.map {o : Option (Nat × List Int)} {m : Nat → Option Int} {len : Nat} (h : IsM o m len) {j : Nat} (hj : j < 64) : mOf (resB o) (resL o) j = m j := by
  obtain ⟨q, h1, _, h3, _⟩ := h; subst h1; exact h3 j hj
theorem IsM.len {o : Option (Nat × List Int)} {m : Nat → Option Int} {len : Nat} (h : IsM o m len) : (resL o).length = len := by
  obtain ⟨q, h1, _, _, h4⟩ := h; subst h1; exact h4
section
variable {o : Option (Nat × List Int)} {m : Nat → Option Int} {len k : Nat} {x : Option Addr × Nat} {w : World} {r : Int}
theorem IsM.put (h : IsM o m len) (hx : (resL o).length ≤ x.2) (hc : Cl w x.1 (refsC (resL o))) (hk : k < 64) (r : Int) : Calls Try.prog 46 #[(resN o x).v, .int .i64 (k : Int), .int .i64 r] w (CRes w (puO (resN o x) (resL o) (resB o) k r)) :=
  (h.cnd hx).put (by rw [h.brA]; exact hc) hk r
theorem IsM.inserted (h : IsM o m len) (hx : (resL o).length ≤ x.2) (hc : Cl w x.1 (refsC (resL o))) (k r : Int) : Calls Try.prog 50 #[(resN o x).v, .int .i64 k, .int .i64 r] w (CRes w (inO (resN o x) (resL o) [] (resB o) k r)) :=
  (h.cnd hx).inserted (by rw [h.brA]; exact hc) k r
theorem IsM.updated (h : IsM o m len) (hx : (resL o).length ≤ x.2) (hc : Cl w x.1 (refsC (resL o))) (k r : Int) : Calls Try.prog 51 #[(resN o x).v, .int .i64 k, .int .i64 r] w (CRes w (upO (resN o x) (resL o) [] (resB o) k r)) :=
  (h.cnd hx).updated (by rw [h.brA]; exact hc) k r
theorem IsM.removed (h : IsM o m len) (hx : (resL o).length ≤ x.2) (hc : Cl w x.1 (refsC (resL o))) (k : Int) : Calls Try.prog 52 #[(resN o x).v, .int .i64 k] w (CRes w (reO (resN o x) (resL o) [] (resB o) k)) :=
  (h.cnd hx).removed (by rw [h.brA]; exact hc) k
end
theorem IsM.to {o : Option (Nat × List Int)} {m m' : Nat → Option Int} {len : Nat} (h : IsM o m len) (hm : ∀ j, j < 64 → m j = m' j) : IsM o m' len := by
  obtain ⟨q, h1, h2, h3, h4⟩ := h; exact ⟨q, h1, h2, fun j hj => (h3 j hj).trans (hm j hj), h4⟩
theorem upd_at (m : Nat → Option Int) (k : Nat) (o : Option Int) : upd m k o k = o := if_pos rfl
theorem upd_off (m : Nat → Option Int) {k j : Nat} (o : Option Int) (h : j ≠ k) : upd m k o j = m j := if_neg h
theorem upd_cg {m m' : Nat → Option Int} {j : Nat} (k : Nat) (o : Option Int) (h : m j = m' j) : upd m k o j = upd m' k o j := by
  unfold upd; rw [h]
section
variable {o : Option (Nat × List Int)} {m : Nat → Option Int} {len k : Nat} {x : Option Addr × Nat} {r : Int}
theorem IsM.pu_m (h : IsM o m len) (hx : (resL o).length ≤ x.2) (hk : k < 64) (hr : 1 ≤ r) : IsM (puO (resN o x) (resL o) (resB o) k r) (upd m k (some r)) (puLen (resB o) (resL o) k) :=
  ((h.cnd hx).pu_m hk hr).to fun _ hj => upd_cg k _ (h.map hj)
theorem IsM.in_m (h : IsM o m len) (hx : (resL o).length ≤ x.2) (hk : k < 64) (hr : 1 ≤ r) (hm : (m k).isSome = false) : IsM (inO (resN o x) (resL o) [] (resB o) (k : Int) r) (upd m k (some r)) (len + 1) := by
  have := (h.cnd hx).in_m hk hr (by rw [h.map hk]; exact hm)
  rw [h.len] at this
  exact this.to fun _ hj => upd_cg k _ (h.map hj)
theorem IsM.up_m (h : IsM o m len) (hx : (resL o).length ≤ x.2) (hk : k < 64) (hr : 1 ≤ r) (hm : (m k).isSome = true) : IsM (upO (resN o x) (resL o) [] (resB o) (k : Int) r) (upd m k (some r)) len := by
  have := (h.cnd hx).up_m hk hr (by rw [h.map hk]; exact hm)
  rw [h.len] at this
  exact this.to fun _ hj => upd_cg k _ (h.map hj)
theorem IsM.re_m (h : IsM o m len) (hx : (resL o).length ≤ x.2) (hk : k < 64) (hm : (m k).isSome = true) : IsM (reO (resN o x) (resL o) [] (resB o) (k : Int)) (upd m k none) (len - 1) := by
  have := (h.cnd hx).re_m hk (by rw [h.map hk]; exact hm)
  rw [h.len] at this
  exact this.to fun _ hj => upd_cg k _ (h.map hj)
end
theorem IsM.res_len {o : Option (Nat × List Int)} {m : Nat → Option Int} {len : Nat} (h : IsM o m len) : (resL o).length ≤ 2000 := by
  have := Go.Proofs.Ythmagkjcangnfaa.res_len h.all; omega
theorem resEq2_c {w : World} {o o' : Option (Nat × List Int)} {x y : Option Addr × Nat} (h : o = o') (h1 : Cl w x.1 (refsC (resL o))) (h2 : Cl w y.1 (refsC (resL o'))) (hs : (resL o).length ≤ 2000) :
    Calls Try.prog 26 #[(resN o x).v, (resN o' y).v] w fun e w' => e = .returned (.bool true) ∧ St w [] [] w' := by
  subst h; exact resEq_c h1 h2 hs
end
/-- The C-node's map has only positive values. -/
theorem mOf_pos {b : Nat} {xs : List Int} (h : BV b xs) {k : Nat} (hk : k < 64) {r : Int} (hm : mOf b xs k = some r) : 1 ≤ r := by
  unfold mOf at hm
  split at hm
  · next hb => cases hm; exact h.pos _ (by rw [h.len]; exact cnt_lt hk hb)
  · cases hm
theorem two_puts {o o' : Option (Nat × List Int)} {m : Nat → Option Int} {a a' x y : Nat} {r s : Int} (hxy : x ≠ y) (h : IsM o (upd (upd m x (some r)) y (some s)) a) (h' : IsM o' (upd (upd m y (some s)) x (some r)) a') : o = o' :=
  isM_eq h h' fun j _ => by
    unfold upd
    by_cases h1 : j = x <;> by_cases h2 : j = y <;> simp_all
theorem rem8 {i m : Int} (hi : 0 ≤ i) (hm : 0 < m) : ∃ k : Nat, i.tmod m = (k : Int) ∧ (k : Int) < m := by
  obtain ⟨k, hk⟩ := Int.eq_ofNat_of_zero_le (Int.tmod_nonneg m hi)
  exact ⟨k, hk, by rw [← hk]; exact Int.tmod_lt_of_pos i hm⟩
theorem o_remK {P : Program} {S : List (Nat × Value)} {G : World → Prop} {d : Nat} {ty t t' : TypeId} {pos : String} {af : Array Edge} {gd : Option (Nat × Bool)} {x y : Operand} {a b : Int} {k : Nat} (hx : ev S x = .int .u8 a) (hy : ev S y = .int .u8 b) (h0 : b ≠ 0) (h : a.tmod b = (k : Int)) : Quiet P S G ⟨some d, .binOp .rem t x y t', ty, pos, af, gd⟩ (.int .u8 (k : Int)) := h ▸ o_rem8 hx hy h0
end Go.Proofs.Ythmagkjcangnfaa
