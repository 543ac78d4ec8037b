/- ViewDual: the walk. -/
import Derived.Test.YtpfjjagcmjmfpaaGVd
import Derived.Test.YtpfjjagcmjmfpaaVw7
import Derived.Test.YtpfjjagcmjmfpaaGDu
import Derived.Test.YtpfjjagcmjmfpaaGPa
set_option linter.unusedSimpArgs false
set_option linter.unusedVariables false
namespace Go.Ct
open Go Go.RowKit
section
variable {P : Program} {S : List (Nat × Value)} {G : World → Prop} {d : Nat} {ty t t' : TypeId} {pos : String} {af : Array Edge} {gd : Option (Nat × Bool)} {x y : Operand}
theorem o_remU {a b : Int} {k : Nat} (hx : ev S x = .int .u8 a) (hy : ev S y = .int .u8 b) (h0 : b ≠ 0) (h : a.tmod b = (k : Int)) : Quiet P S G ⟨some d, .binOp .rem t x y t', ty, pos, af, gd⟩ (.int .u8 (k : Int)) := by
  have := o_rem (P := P) (G := G) (d := d) (ty := ty) (pos := pos) (af := af) (gd := gd) (t := t) (t' := t') hx hy h0
  rwa [h] at this
end
theorem u8_rem {a b : Int} (ha : 0 ≤ a) (hb : 0 < b) : ∃ k : Nat, a.tmod b = (k : Int) ∧ (k : Int) < b := by
  refine ⟨(a % b).toNat, ?_, ?_⟩
  · rw [Int.tmod_eq_emod_of_nonneg ha, Int.toNat_of_nonneg (Int.emod_nonneg _ (by omega))]
  · rw [Int.toNat_of_nonneg (Int.emod_nonneg _ (by omega))]
    exact Int.emod_lt_of_pos _ hb
theorem rXor_rng (a b : Int) : 0 ≤ rXor .u64 a b ∧ rXor .u64 a b < 18446744073709551616 := by
  unfold rXor
  rw [wrap_u64]
  omega
theorem bl_x (x : UInt8) : ∀ l : List UInt8, Op.bytesLess l (l ++ [x]) = true
  | [] => rfl
  | y :: l => by simp [Op.bytesLess, bl_x x l]
theorem sless_x (key : ByteArray) : sless key (key ++ ⟨#[120]⟩) = true := by
  unfold sless
  have : (key ++ (⟨#[120]⟩ : ByteArray)).toList = key.toList ++ [120] := by simp [ByteArray.toList_eq]
  rw [this]
  exact bl_x _ _
/-- The order of keys with hash values. -/
def lessB (h : Nat) (a : ByteArray) (k : Nat) (b : ByteArray) : Bool := if com h k < 11 then decide (sl h (com h k) < sl k (com h k)) else sless a b
theorem com_comm (h k : Nat) : com h k = com k h := com_is (com_le h k) (fun i hi => (com_eq hi).symm) (fun hc => (com_ne hc).symm)
end Go.Ct
namespace Go.Proofs.Ytpfjjagcmjmfpaa
open Go Go.RowKit Go.Ct
theorem less_c {h k : Nat} (hh : h < 18446744073709551616) (hk : k < 18446744073709551616) (a b : ByteArray) (w : World) : Calls Try.prog 15 #[.int .u64 (h : Int), .string a, .int .u64 (k : Int), .string b] w fun e w' => e = .returned (.bool (lessB h a k b)) ∧ St w [] [] w' := by
  refine enter Try.func15 Try.ntmps15 rfl rfl (SF.s0 w) ?_
  simp only [mkS]
  all_goals (refine k_seq ?_; refine k_region ?_; refine j_assignL (fun _ => ?_); refine l_nil ?_; refine k_seq ?_; refine k_seq ?_; refine k_region ?_; refine j_assignL (fun _ => ?_); refine l_nil ?_; refine k_block ?_)
  all_goals
   refine k_loopC [8, 9, 10, 11, 12, 13, 14, 15, 16, 17, 18, 19, 20, 21, 22, 23, 24, 25, 26, 27] (fun y : Nat => [(9, .int .i64 ((y : Nat) : Int))]) (fun y => y ≤ 11 ∧ ∀ i, i < y → sl h i = sl k i) (fun y => 11 - y) (0) (⟨Nat.zero_le _, fun i hi => absurd hi (Nat.not_lt_zero i)⟩) ?_ (fun y f hx => ?_)
   · repeat (first | exact knows_nil _ | refine knows_cons (by first | exact rfl | (conv => { lhs; whnf }; simp; done)) ?_)
   dsimp only [mkU, List.map, List.cons_append, List.nil_append]
   all_goals (refine k_seq ?_; refine k_seq ?_; refine k_region ?_; refine j_move ?_; refine j_leq ?_; refine l_nil ?_)
   all_goals
    refine k_if (fun c11 => ?_) (fun c11 => ?_)
    · try (exact absurd c11 (by decide))
      all_goals (revert c11; (first | refine cv1 ?_ | refine cv3 ?_ | refine cv5 ?_ | refine cv7 ?_ | refine cv9 ?_ | refine cvb ?_ | refine cvd ?_ | skip); intro c11)
      all_goals (refine k_skip ?_; refine k_seq ?_; refine k_block ?_; refine k_seq ?_; refine k_region ?_; refine j_move ?_; refine j_move ?_; (refine j_own (cV (hc := fun w1 hw => refSlice_c (l := y) hh (by omega) w1)) (fun x16 => ?_); try (refine l_fact (fun h16 => ?_))); refine j_move ?_; refine j_move ?_; (refine j_own (cV (hc := fun w1 hw => refSlice_c (l := y) hk (by omega) w1)) (fun x19 => ?_); try (refine l_fact (fun h19 => ?_))); refine j_neq ?_; refine l_nil ?_)
      all_goals
       refine k_if (fun c20 => ?_) (fun c20 => ?_)
       · try (exact absurd c20 (by decide))
         all_goals (revert c20; (first | refine cv1 ?_ | refine cv3 ?_ | refine cv5 ?_ | refine cv7 ?_ | refine cv9 ?_ | refine cvb ?_ | refine cvd ?_ | skip); intro c20)
         all_goals (refine k_seq ?_; refine k_region ?_; refine j_move ?_; refine j_move ?_; (refine j_own (cV (hc := fun w1 hw => refSlice_c (l := y) hh (by omega) w1)) (fun x23 => ?_); try (refine l_fact (fun h23 => ?_))); refine j_move ?_; refine j_move ?_; (refine j_own (cV (hc := fun w1 hw => refSlice_c (l := y) hk (by omega) w1)) (fun x26 => ?_); try (refine l_fact (fun h26 => ?_))); refine j_lss ?_; refine j_assignL (fun _ => ?_); refine l_nil ?_)
         all_goals
          refine k_rv Try.results15 (fun w hw => ?_)
          have e := com_is (h := h) (k := k) hx.1 hx.2 (fun _ => by omega)
          exact ⟨by unfold lessB; rw [← e, if_pos (by omega)]; simp; rfl, hw.done⟩
       · try (exact absurd c20 (by decide))
         all_goals (revert c20; (first | refine cv2 ?_ | refine cv4 ?_ | refine cv6 ?_ | refine cv8 ?_ | refine cva ?_ | refine cvc ?_ | refine cve ?_ | skip); intro c20)
         all_goals (refine k_skip ?_; refine k_blk ?_; refine k_region ?_; refine j_move ?_; refine j_inc ?_; refine j_assignL (fun _ => ?_); refine l_nil ?_)
         all_goals
          refine k_roundC (y + 1) ?_ ?_ ?_
          · first | omega | (simp only []; omega)
          · repeat' (first | exact knows_nil _ | refine knows_cons ?_ ?_)
            all_goals (first | exact rfl | (conv => { lhs; whnf }; simp; done) | (conv => { lhs; whnf }; congr 1; omega))
          · exact ⟨by omega, fun i hi => by rcases Nat.lt_succ_iff_lt_or_eq.1 hi with h | rfl; exact hx.2 i h; omega⟩
    · try (exact absurd c11 (by decide))
      all_goals (revert c11; (first | refine cv2 ?_ | refine cv4 ?_ | refine cv6 ?_ | refine cv8 ?_ | refine cva ?_ | refine cvc ?_ | refine cve ?_ | skip); intro c11)
      all_goals (refine k_exit rfl ?_; refine k_seq ?_; refine k_region ?_; refine j_move ?_; refine j_move ?_; refine j_lssStr ?_; refine j_assignL (fun _ => ?_); refine l_nil ?_)
      all_goals
       refine k_rv Try.results15 (fun w hw => ?_)
       have e := com_is (h := h) (k := k) (l := 11) (by decide) (fun i hi => hx.2 i (by omega)) (fun h => absurd h (by decide))
       exact ⟨by unfold lessB; rw [← e, if_neg (by decide)]; rfl, hw.done⟩
/-- The pairs that are expected. -/
theorem want_c (h k : Nat) (key : ByteArray) (v u : Int) : prs2 h k (key, v) (key ++ ⟨#[120]⟩) u = if lessB k (key ++ ⟨#[120]⟩) h key = true then [(key ++ ⟨#[120]⟩, u), (key, v)] else [(key, v), (key ++ ⟨#[120]⟩, u)] := by
  have hs := sless_x key
  have hle := com_le h k
  unfold prs2 lessB
  rw [com_comm k h]
  by_cases h11 : com h k = 11
  · rw [if_pos h11, if_neg (show ¬ com h k < 11 by omega), if_neg (by rw [sless_asymm hs]; decide)]
    exact ofL_self (List.Pairwise.cons (fun q hq => by rw [List.mem_singleton.1 hq]; exact hs) (List.pairwise_singleton _ _))
  · have hne := com_ne (h := h) (k := k) (by omega)
    rw [if_neg h11, if_pos (show com h k < 11 by omega)]
    by_cases hlt : sl h (com h k) < sl k (com h k)
    · rw [if_pos hlt, if_neg (by simp; omega)]
    · rw [if_neg hlt, if_pos (by simp; omega)]
/-- The nodes of the trie are in range. -/
theorem rng_alls : ∀ (l : List NI) (c : Nat), (∀ a ∈ l, ∃ b : Nat, a.n.bm = (b : Int) ∧ b < 18446744073709551616) → c + l.length ≤ 1000 → ∀ n ∈ alls l c, NdR n.dv.nd
  | [], _, _, _ => fun n hn => nomatch hn
  | a :: l, c, h, hc => fun n hn => by
    have hn1 : nC a.n.kind ≤ 1 := by unfold nC; split <;> omega
    simp only [List.length_cons] at hc
    rcases List.mem_cons.1 hn with rfl | hn
    · obtain ⟨b, hb, hb2⟩ := h a (List.mem_cons_self ..)
      refine ⟨⟨b, hb, hb2⟩, ?_, ?_, ?_⟩
      · show (if a.n.kind = 2 then ((c + 1 : Nat) : Int) else 0) ≤ _
        split <;> omega
      · show (if a.n.kind = 3 ∨ a.n.kind = 5 ∨ a.n.kind = 6 then ((c + 1 : Nat) : Int) else 0) ≤ _
        split <;> omega
      · show (if a.n.kind = 8 then ((c + 1 : Nat) : Int) else 0) ≤ _
        split <;> omega
    · exact rng_alls l (c + nC a.n.kind) (fun a ha => h a (List.mem_cons_of_mem _ ha)) (by omega) n hn
theorem dN_bm {x : Int} {h0 h : Nat} {p0 : Pr} {k : ByteArray} {u gen : Int} {f : Nat} : ∀ n lvl, ∀ a ∈ dN x h0 h p0 k u gen f n lvl, ∃ b : Nat, a.n.bm = (b : Int) ∧ b < 18446744073709551616
  | 0, lvl => fun a ha => by
    unfold dN at ha
    split at ha <;> simp only [List.mem_cons, List.not_mem_nil, or_false] at ha
    · subst ha; exact ⟨0, rfl, by decide⟩
    · rcases ha with rfl | rfl
      · exact ⟨0, rfl, by decide⟩
      · exact ⟨_, rfl, withI_lt (withI_lt (by decide) _) _⟩
  | n + 1, lvl => fun a ha => by
    unfold dN at ha
    rcases List.mem_append.1 ha with ha | ha
    · exact dN_bm n (lvl + 1) a ha
    · simp only [List.mem_cons, List.not_mem_nil, or_false] at ha
      rcases ha with rfl | rfl
      · exact ⟨0, rfl, by decide⟩
      · exact ⟨_, rfl, withI_lt (by decide) _⟩
theorem rngs_c {L : List NdV} {N : List Nv} (h : L.map NdV.c = N) (hN : ∀ n ∈ N, NdR n.dv.nd) : Rngs L := fun v hv => by
  have := hN v.c (by rw [← h]; exact List.mem_map_of_mem hv)
  exact ⟨this.bm, this.main, this.prev, this.status⟩
theorem dv_len (h0 h : Nat) (p0 : Pr) (k : ByteArray) (u : Int) : (dN 3 h0 h p0 k u 1 4 (com h0 h) 0).length ≤ 24 ∧ (allCs (dvN h0 h p0 k u) []).length ≤ 25 := by
  have hl := dN_len (x := 3) (h0 := h0) (h := h) (p0 := p0) (k := k) (u := u) (gen := 1) (f := 4) (com h0 h) 0
  have hc := com_le h0 h
  refine ⟨by omega, ?_⟩
  have := allN_le (dvN h0 h p0 k u) 0
  rw [allCs_len]
  unfold dvN at this ⊢
  simp only [List.length_append, List.length_cons, List.length_nil] at this ⊢
  omega
theorem dv_rng {h0 h : Nat} {p0 : Pr} {k : ByteArray} {u : Int} {L : List NdV} (hL : L.map NdV.c = dv0 h0 p0 ++ alls (dvN h0 h p0 k u) 0) : Rngs L := rngs_c hL fun n hn => by
  have hl := (dv_len h0 h p0 k u).1
  rcases List.mem_append.1 hn with hn | hn
  · unfold dv0 at hn
    simp only [List.mem_cons, List.not_mem_nil, or_false] at hn
    rcases hn with rfl | rfl | rfl
    · exact ⟨⟨0, rfl, by decide⟩, by decide, by decide, by decide⟩
    · exact ⟨⟨0, rfl, by decide⟩, by decide, by decide, by decide⟩
    · exact ⟨⟨0, rfl, by decide⟩, (show (0 : Int) ≤ 9223372036854775807 by decide), (show (0 : Int) ≤ 9223372036854775807 by decide), (show (0 : Int) ≤ 9223372036854775807 by decide)⟩
  · refine rng_alls (dvN h0 h p0 k u) 0 (fun a ha => ?_) (by unfold dvN; rw [List.length_append, List.length_cons, List.length_nil]; omega) n hn
    unfold dvN at ha
    rcases List.mem_append.1 ha with ha | ha
    · exact dN_bm _ _ a ha
    · rw [List.mem_singleton.1 ha]; exact ⟨0, rfl, by decide⟩
end Go.Proofs.Ytpfjjagcmjmfpaa
