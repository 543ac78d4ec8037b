/- TaskRuns: the walk. -/
import Derived.Test.YtmogngagpphnhaaGTl
set_option linter.unusedSimpArgs false
set_option linter.unusedVariables false
namespace Go.Ct
open Go Go.RowKit
section
variable {P : Program} {S : List (Nat × Value)} {G : World → Prop} {d : Nat} {ty t t' : TypeId} {pos : String} {af : Array Edge} {gd : Option (Nat × Bool)} {x y : Operand}
theorem o_maxI {k : IntKind} {a b : Int} (hx : ev S x = .int k a) (hy : ev S y = .int k b) : Quiet P S G ⟨some d, .call { callee := .builtin .max, args := #[x, y], argTypes := #[t, t'] }, ty, pos, af, gd⟩ (.int k (max a b)) := ⟨fun w _ => by
  have e : (if b > a then b else a) = max a b := by split <;> omega
  simp [execOp, resolve, invoke, builtin, Builtin.max_, Builtin.max2, hx, hy, e]⟩
theorem o_minI {k : IntKind} {a b : Int} (hx : ev S x = .int k a) (hy : ev S y = .int k b) : Quiet P S G ⟨some d, .call { callee := .builtin .min, args := #[x, y], argTypes := #[t, t'] }, ty, pos, af, gd⟩ (.int k (min a b)) := ⟨fun w _ => by
  have e : (if b < a then b else a) = min a b := by split <;> omega
  simp [execOp, resolve, invoke, builtin, Builtin.min_, Builtin.min2, hx, hy, e]⟩
end
theorem fRs_append : ∀ (l m : List Ac) (cs : List Int) (r : Rs), fRs (l ++ m) cs r = fRs m (fCs l cs) (fRs l cs r)
  | [], _, _, _ => rfl
  | a :: l, m, cs, r => fRs_append l m (doCs cs a) (doRs cs a r)
theorem fCs_append : ∀ (l m : List Ac) (cs : List Int), fCs (l ++ m) cs = fCs m (fCs l cs)
  | [], _, _ => rfl
  | a :: l, m, cs => fCs_append l m (doCs cs a)
theorem fRs_split (l : List Ac) (k : Nat) (cs : List Int) (r : Rs) : fRs (l.drop k) (fCs (l.take k) cs) (fRs (l.take k) cs r) = fRs l cs r := by
  rw [← fRs_append, List.take_append_drop]
theorem fCs_split (l : List Ac) (k : Nat) (cs : List Int) : fCs (l.drop k) (fCs (l.take k) cs) = fCs l cs := by
  rw [← fCs_append, List.take_append_drop]
theorem AcsR.at {l : List Ac} (h : AcsR l) (k : Nat) : (l.getD k Ac.zero).c ≤ 9223372036854775807 := by
  by_cases hk : k < l.length
  · exact h _ (by rw [List.getD_eq_getElem?_getD, List.getElem?_eq_getElem hk]; exact List.getElem_mem _)
  · rw [List.getD_eq_getElem?_getD, List.getElem?_eq_none (by omega)]
    exact (by decide : (0 : Int) ≤ 9223372036854775807)
end Go.Ct
namespace Go.Proofs.Ytmogngagpphnhaa
open Go Go.RowKit Go.Ct
theorem o_eqlRsE {S : List (Nat × Value)} {G : World → Prop} {d : Nat} {ty t t' : TypeId} {pos : String} {af : Array Edge} {gd : Option (Nat × Bool)} {x y : Operand} (a b : Rs) (e : a = b) (hx : ev S x = .agg ⟨a.cells⟩) (hy : ev S y = .agg ⟨b.cells⟩) (ht : plainSt2 Try.prog t [0, 1, 0, 2, 0, 0] [0, 1] = true) : Quiet Try.prog S G ⟨some d, .binOp .eql t x y t', ty, pos, af, gd⟩ (.bool true) := by
  subst e
  exact o_eqlRsT a hx hy ht
theorem plThird_c {D : List Nat} {A B : Fr} {L : List NdV} {cs : List Int} {gen : Int} {pn pc : Option Addr} {cn cc b bt n m k1 k2 : Nat} {w : World} {c : Cd} {r : Rs} {P : List Ac}
    (hs : SF w D [(bt, tO b c n), (b, aO L (fCs ((P.drop k1).take k2) (fCs (P.take k1) cs)) gen ((m : Nat) : Int) pn cn pc cc)] A [] (mW L (fCs ((P.drop k1).take k2) (fCs (P.take k1) cs)) pn cn pc cc) w)
    (hr : Rp Try.prog (planP ((P.drop k1).drop k2) (fRs ((P.drop k1).take k2) (fCs (P.take k1) cs) (fRs (P.take k1) cs r))) c B) (hB : ∀ y ∈ B, y ∈ A) (hx : AcsR P) (hl : cs.length ≤ 274877906944) (hP : P.length ≤ 13) (hn : n ≤ 1000) (hm : m ≤ 1000) :
    Calls Try.prog 56 #[.pointer (some ⟨bt, 0, none⟩), .int .i64 1000] w fun e w' => ∃ F : Fr, e = .returned (.int .i64 ((((P.drop k1).drop k2).length : Nat) : Int)) ∧ True ∧ SF w D [(bt, tO b (doneCd (fRs P cs r)) (n + ((P.drop k1).drop k2).length)), (b, aO L (fCs P cs) gen ((m + ((P.drop k1).drop k2).length : Nat) : Int) pn cn pc cc)] [] F (mW L (fCs P cs) pn cn pc cc) w' := by
  have h1000 : (1000 : Int).toNat = 1000 := by decide
  have hd : ((P.drop k1).drop k2).length ≤ 13 := by
    simp only [List.length_drop]
    omega
  have h := plAll_c (most := 1000) hs hr hB ((hx.drop _).drop _) (by rw [fCs_length, fCs_length]; exact hl) (by rw [h1000]; omega) (by omega) (by rw [h1000]; omega)
  rw [fRs_split, fCs_split, fRs_split, fCs_split] at h
  exact h
set_option maxHeartbeats 2000000 in
theorem taskRuns_c {l1 l2 : List Int} {p1 p2 : Option Addr} {c1 c2 : Nat} {i1 i2 : Int} {w : World} (h1 : Cl w p1 (refsC l1)) (hl1 : l1.length ≤ 17592186043904) (h2 : Cl w p2 (refsC l2)) (hl2 : l2.length ≤ 17592186043904) (hi1 : -128 ≤ i1 ∧ i1 ≤ 127) (hi2 : -128 ≤ i2 ∧ i2 ≤ 127) :
    Calls Try.prog 9 #[.slice p1 l1.length c1, .slice p2 l2.length c2, .int .i8 i1, .int .i8 i2] w fun e w' => e = .returned (.bool true) ∧ St w [] [] w' := by
  refine enter Try.func9 Try.ntmps9 rfl rfl (SF.s2 h1 h2) ?_
  simp only [mkS]
  all_goals (refine k_seq ?_; refine k_region ?_; refine j_assignL (fun _ => ?_); refine l_nil ?_; refine k_seq ?_; refine k_region ?_; refine j_move ?_; (refine j_own (cFH (V := fun x : PS × Nat × Nat => .tuple #[.pointer (some ⟨x.2.1, 0, none⟩), .pointer (some ⟨x.2.2, 0, none⟩)]) (Hc := fun x => [(x.2.1, aO x.1.La x.1.cs x.1.gen 0 x.1.apn x.1.acn x.1.apc x.1.acc), (x.2.2, mO x.1.Lm x.1.cs x.1.gen 0 x.1.mpn x.1.mcn x.1.mpc x.1.mcc)]) (Fc := fun x => famF x.1.La ++ famF x.1.Lm) (Oc := fun x => [⟨x.1.apn, nvC x.1.La, x.1.acn, 48, 14⟩, ⟨x.1.apc, refsC x.1.cs, x.1.acc, 39, 1⟩, ⟨x.1.mpn, nvC x.1.Lm, x.1.mcn, 48, 14⟩, ⟨x.1.mpc, refsC x.1.cs, x.1.mcc, 39, 1⟩]) (hc := fun w1 hw => states_c (hw.cl (.old .head)) hl1)) (fun x23 => ?_); try (refine l_fact (fun h23 => ?_))); refine j_move ?_; refine j_extract ?_; refine j_extract ?_; refine j_assignL (fun _ => ?_); refine j_assignL (fun _ => ?_); refine l_nil ?_; refine k_seq ?_; refine k_seq ?_; refine k_region ?_; refine j_move ?_; refine j_eql ?_; refine l_nil ?_)
  all_goals
   refine k_if (fun c27 => ?_) (fun c27 => ?_)
   · try (exact absurd c27 (by decide))
     all_goals (revert c27; (first | refine cv1 ?_ | refine cv3 ?_ | refine cv5 ?_ | refine cv7 ?_ | refine cv9 ?_ | refine cvb ?_ | refine cvd ?_ | skip); intro c27)
     all_goals try (exfalso; omega)
     all_goals
      cases c27
     all_goals (refine k_seq ?_; refine k_region ?_; refine j_assignL (fun _ => ?_); refine l_nil ?_)
     all_goals
      refine k_rv Try.results9 (fun w hw => ?_)
      exact ⟨rfl, hw.done⟩
   · try (exact absurd c27 (by decide))
     all_goals (revert c27; (first | refine cv2 ?_ | refine cv4 ?_ | refine cv6 ?_ | refine cv8 ?_ | refine cva ?_ | refine cvc ?_ | refine cve ?_ | skip); intro c27)
     all_goals try (exfalso; omega)
     all_goals
      obtain ⟨s, ba, bm⟩ := x23
      have hC : s.cs.length ≤ 10 := h23.hC
      have hL : s.Lm.length ≤ 10 := h23.hL
      have hlen : s.La.length + 2 = s.Lm.length := h23.rel.len
      have hrel : s.Rel := h23.rel
      obtain ⟨P, hP⟩ : ∃ P, P = madeA (planF l2 ((s.cs.length : Int) + 2)) := ⟨_, rfl⟩
      have hmf := madeF_le l2 ((s.cs.length : Int) + 2)
      have hpf := planF_le l2 ((s.cs.length : Int) + 2)
      have hR := (planS_R l2 ((s.cs.length : Int) + 2) (by omega) (by omega) (tvN l2 0 14)).made
      change AcsR (madeA (planF l2 ((s.cs.length : Int) + 2))) at hR
      have hkeep := keepA_made (planF l2 ((s.cs.length : Int) + 2))
      rw [← hP] at hmf hR hkeep
     all_goals (refine k_skip ?_; refine k_seq ?_; refine k_region ?_; refine j_move ?_; refine j_move ?_; (refine j_own (cM (V := fun x : Option Addr × Nat => .slice x.1 (planF l2 ((s.cs.length : Int) + 2)).length x.2) (Fc := fun x => [(x.1, acC (planF l2 ((s.cs.length : Int) + 2)))]) (A0 := [(p2, refsC l2)]) (os := []) (os' := fun _ => []) (hs' := fun _ => [(bm, mO s.Lm s.cs s.gen 0 s.mpn s.mcn s.mpc s.mcc)]) (hA := HasAll.of fun f hf => .inr (.inl (by rw [List.mem_singleton.1 hf]; exact List.mem_cons_of_mem _ (List.mem_cons_self ..)))) (hc := fun w hs => plan_c (L := s.Lm) (cs := s.cs) hs (List.mem_singleton.2 rfl) hl2 (by omega))) (fun x30 => ?_); try (refine l_fact (fun h30 => ?_))); (refine j_own (cF (V := fun x : Option Addr × Nat => .slice x.1 P.length x.2) (Fc := fun x => [(x.1, acC P)]) (hc := fun w1 hw => by rw [hP]; exact made_c (hw.cl (.new .head)) (by omega))) (fun x31 => ?_); try (refine l_fact (fun h31 => ?_))); refine j_assignL (fun _ => ?_); refine l_nil ?_; refine k_seq ?_; refine k_region ?_; refine j_move ?_; refine l_quiet (o_mkI (by exact rfl) (fun w => mkI_arena _ w)) rfl ?_; refine j_move ?_; (refine j_own (cFH (V := fun x : Nat × Cd × Fr => .pointer (some ⟨x.1, 0, none⟩)) (Fc := fun x => x.2.2) (Hc := fun x => [(x.1, tO ba x.2.1 0)]) (Oc := fun _ => []) (hc := fun w1 hw => tkPlan_c (l := P) (hw.cl (.new .head)) (by omega))) (fun x35 => ?_); try (refine l_fact (fun h35 => ?_))); refine j_assignL (fun _ => ?_); refine l_nil ?_; refine k_seq ?_; refine k_seq ?_; refine k_region ?_; refine j_move ?_; refine j_eql ?_; refine l_nil ?_)
     all_goals
      refine k_if (fun c37 => ?_) (fun c37 => ?_)
      · try (exact absurd c37 (by decide))
        all_goals (revert c37; (first | refine cv1 ?_ | refine cv3 ?_ | refine cv5 ?_ | refine cv7 ?_ | refine cv9 ?_ | refine cvb ?_ | refine cvd ?_ | skip); intro c37)
        all_goals try (exfalso; omega)
        all_goals
         cases c37
        all_goals (refine k_seq ?_; refine k_region ?_; refine j_assignL (fun _ => ?_); refine l_nil ?_)
        all_goals
         refine k_rv Try.results9 (fun w hw => ?_)
         exact ⟨rfl, hw.done⟩
      · try (exact absurd c37 (by decide))
        all_goals (revert c37; (first | refine cv2 ?_ | refine cv4 ?_ | refine cv6 ?_ | refine cv8 ?_ | refine cva ?_ | refine cvc ?_ | refine cve ?_ | skip); intro c37)
        all_goals try (exfalso; omega)
        all_goals
         rw [hkeep] at h35
        all_goals (refine k_skip ?_; refine k_seq ?_; refine k_region ?_; refine j_move ?_; refine j_move ?_; refine j_convert ?_)
        all_goals (refine j_own (cM (V := fun _ : Cd × Fr => .int .i64 ((min i1.toNat P.length : Nat) : Int)) (Fc := fun y => y.2) (A0 := x35.2.2) (hs' := fun y => [(x35.1, tO ba y.1 (0 + min i1.toNat P.length)), (ba, aO s.La (fCs (P.take i1.toNat) s.cs) s.gen ((0 + min i1.toNat P.length : Nat) : Int) s.apn s.acn s.apc s.acc)]) (os' := fun _ => mW s.La (fCs (P.take i1.toNat) s.cs) s.apn s.acn s.apc s.acc) (hA := HasAll.of fun f hf => Or.inr (Or.inr (Or.inl (by simp at hf ⊢; first | exact .inl hf | (rcases hf with h | h <;> simp [h]) | (rcases hf with h | h | h <;> simp [h]))))) (hc := fun w hw => plRun_c (m := 0) hw h35 (fun y hy => hy) hR (by omega) (by omega) (by omega))) (fun x41 => ?_); try (refine l_fact (fun h41 => ?_)))
        all_goals (refine j_move ?_; refine j_move ?_; refine j_convert ?_)
        all_goals (refine j_own (cM (V := fun _ : Cd × Fr => .int .i64 ((min i2.toNat (P.drop i1.toNat).length : Nat) : Int)) (Fc := fun y => y.2) (A0 := x41.2 ++ x35.2.2) (hs' := fun y => [(x35.1, tO ba y.1 (0 + min i1.toNat P.length + min i2.toNat (P.drop i1.toNat).length)), (ba, aO s.La (fCs ((P.drop i1.toNat).take i2.toNat) (fCs (P.take i1.toNat) s.cs)) s.gen ((0 + min i1.toNat P.length + min i2.toNat (P.drop i1.toNat).length : Nat) : Int) s.apn s.acn s.apc s.acc)]) (os' := fun _ => mW s.La (fCs ((P.drop i1.toNat).take i2.toNat) (fCs (P.take i1.toNat) s.cs)) s.apn s.acn s.apc s.acc) (hA := HasAll.of fun f hf => Or.inr (Or.inr (Or.inl (by simp at hf ⊢; first | exact .inl hf | (rcases hf with h | h <;> simp [h]) | (rcases hf with h | h | h <;> simp [h]))))) (hc := fun w hw => plRun_c (m := 0 + min i1.toNat P.length) hw h41 (fun y hy => hy) (hR.drop _) (by rw [fCs_length]; omega) (by omega) (by rw [List.length_drop]; omega))) (fun x45 => ?_); try (refine l_fact (fun h45 => ?_)))
        all_goals refine j_move ?_
        all_goals (refine j_own (cM (V := fun _ : Fr => .int .i64 ((((P.drop i1.toNat).drop i2.toNat).length : Nat) : Int)) (Fc := fun y => y) (A0 := x45.2 ++ (x41.2 ++ x35.2.2)) (hs' := fun y => [(x35.1, tO ba (doneCd (fRs P s.cs Rs.zero)) (0 + min i1.toNat P.length + min i2.toNat (P.drop i1.toNat).length + ((P.drop i1.toNat).drop i2.toNat).length)), (ba, aO s.La (fCs P s.cs) s.gen ((0 + min i1.toNat P.length + min i2.toNat (P.drop i1.toNat).length + ((P.drop i1.toNat).drop i2.toNat).length : Nat) : Int) s.apn s.acn s.apc s.acc)]) (os' := fun _ => mW s.La (fCs P s.cs) s.apn s.acn s.apc s.acc) (hA := HasAll.of fun f hf => Or.inr (Or.inr (Or.inl (by simp at hf ⊢; first | exact .inl hf | (rcases hf with h | h <;> simp [h]) | (rcases hf with h | h | h <;> simp [h]))))) (hc := fun w hw => plThird_c hw h45 (fun y hy => hy) hR (by omega) hmf (by omega) (by omega))) (fun x47 => ?_); try (refine l_fact (fun h47 => ?_)))
        all_goals (refine j_assignL (fun _ => ?_); refine j_assignL (fun _ => ?_); refine j_assignL (fun _ => ?_); refine l_nil ?_; refine k_seq ?_; refine k_region ?_; refine j_move ?_; refine j_len ?_; refine j_move ?_; refine j_convert ?_; (refine j_own (loud_of_quiet (o_maxI (by exact rfl) (by exact rfl))) (fun x52 => ?_); try (refine l_fact (fun h52 => ?_))); (refine j_own (loud_of_quiet (o_minI (by exact rfl) (by exact rfl))) (fun x53 => ?_); try (refine l_fact (fun h53 => ?_))); refine j_assignL (fun _ => ?_); refine l_nil ?_; refine k_seq ?_; refine k_region ?_; refine j_move ?_; refine j_len ?_; refine j_move ?_; refine j_sub ?_; refine j_move ?_; refine j_convert ?_; (refine j_own (loud_of_quiet (o_maxI (by exact rfl) (by exact rfl))) (fun x60 => ?_); try (refine l_fact (fun h60 => ?_))); (refine j_own (loud_of_quiet (o_minI (by exact rfl) (by exact rfl))) (fun x61 => ?_); try (refine l_fact (fun h61 => ?_))); refine j_assignL (fun _ => ?_); refine l_nil ?_; refine k_seq ?_; refine k_region ?_; refine j_build ?_; refine j_alloc (fun x18 => ?_); refine j_store (fun _ => ?_); refine l_nil ?_; refine k_seq ?_; refine k_seq ?_; refine k_region ?_; refine j_move ?_; refine j_len ?_; refine j_move ?_; refine l_nil ?_; refine k_block ?_)
        all_goals
         refine k_loopF [20, 65, 66, 67, 68, 69, 70, 71, 72, 73] (fun k : Nat => [(65, .int .i64 ((k : Nat) : Int))]) (fun k => k ≤ P.length) (fun k => [(x18, .cells ⟨(fRs (P.take k) s.cs Rs.zero).cells⟩ 84 (0, 0)), (x35.1, tO ba (doneCd (fRs P s.cs Rs.zero)) (0 + min i1.toNat P.length + min i2.toNat (P.drop i1.toNat).length + ((P.drop i1.toNat).drop i2.toNat).length)), (ba, aO s.La (fCs P s.cs) s.gen ((0 + min i1.toNat P.length + min i2.toNat (P.drop i1.toNat).length + ((P.drop i1.toNat).drop i2.toNat).length : Nat) : Int) s.apn s.acn s.apc s.acc), (bm, mO s.Lm (fCs (P.take k) s.cs) s.gen ((k : Nat) : Int) s.mpn s.mcn s.mpc s.mcc)]) (fun _ => (x31.1, acC P) :: (famF s.La ++ famF s.Lm)) (fun k => [⟨s.apn, nvC s.La, s.acn, 48, 14⟩, ⟨s.apc, refsC (fCs P s.cs), s.acc, 39, 1⟩, ⟨s.mpn, nvC s.Lm, s.mcn, 48, 14⟩, ⟨s.mpc, refsC (fCs (P.take k) s.cs), s.mcc, 39, 1⟩]) (fun k => P.length - k) (0) (by decide) (fun _ => by exact rfl) ?_ (Nat.zero_le _) (fun w hw => hw.subF (fun f hf => .inr (by simp only [List.mem_append, List.mem_cons] at hf ⊢; rcases hf with rfl | h | h <;> simp [*]))) (fun k f hx => ?_)
         · repeat (first | exact knows_nil _ | refine knows_cons (by first | exact rfl | (conv => { lhs; whnf }; simp; done)) ?_)
         dsimp only [mkU, List.map, List.cons_append, List.nil_append]
         all_goals (refine k_seq ?_; refine k_region ?_; refine j_lss ?_; refine l_nil ?_; refine k_seq ?_)
         all_goals
          refine k_if (fun c66 => ?_) (fun c66 => ?_)
          · try (exact absurd c66 (by decide))
            all_goals (revert c66; (first | refine cv1 ?_ | refine cv3 ?_ | refine cv5 ?_ | refine cv7 ?_ | refine cv9 ?_ | refine cvb ?_ | refine cvd ?_ | skip); intro c66)
            all_goals try (exfalso; omega)
            all_goals (refine k_skip ?_; refine k_seq ?_; refine k_block ?_; refine k_seq ?_; refine k_region ?_; refine l_quiet (o_indexG (g := Ac.cells) (lst := P) (k := k) ac_len (by decide) (by exact rfl) (by exact rfl) (by exact sl_of rfl) (by exact agg_of rfl) (.new .head) (by omega) (by omega)) rfl ?_; refine l_quiet (o_loadG (g := Ac.cells) (lst := P) (q := k) Ac.zero ac_len (by exact rfl) (by exact agg_of rfl) (.new .head) (by omega)) rfl ?_; refine j_alloc (fun x20 => ?_); refine j_store (fun _ => ?_); refine l_nil ?_; refine k_region ?_; refine j_move ?_; refine j_load ?_; refine j_load ?_; (refine j_own (cM (A0 := []) (hc := fun w hs => do_c (L := s.Lm) (cs := fCs (P.take k) s.cs) (x := P.getD k Ac.zero) (r := fRs (P.take k) s.cs Rs.zero) hs (hR.at k) (by rw [fCs_length]; omega) (by have := fRs_cnt (P.take k) s.cs Rs.zero; show (-9223372036854775808 : Int) ≤ _; have h0 : Rs.zero.cnt = 0 := rfl; omega) (by have := fRs_cnt (P.take k) s.cs Rs.zero; have h0 : Rs.zero.cnt = 0 := rfl; rw [List.length_take] at this; omega))) (fun x72 => ?_); try (refine l_fact (fun h72 => ?_))); refine j_store (fun _ => ?_); refine l_nil ?_; refine k_blk ?_; refine k_region ?_; refine j_inc ?_; refine j_move ?_; refine l_nil ?_)
            all_goals
             have et := take_push (l := P) (k := k) (by omega)
             have eR : fRs (P.take (k + 1)) s.cs Rs.zero = doRs (fCs (P.take k) s.cs) (P.getD k Ac.zero) (fRs (P.take k) s.cs Rs.zero) := by rw [et, fRs_push]
             have eC : fCs (P.take (k + 1)) s.cs = doCs (fCs (P.take k) s.cs) (P.getD k Ac.zero) := by rw [et, fCs_push]
             refine k_roundF (k + 1) ?_ ?_ (by repeat (first | (with_reducible exact Pre.refl) | refine Pre.cons (by exact rfl) ?_)) ?_ (fun w hw => by
                rw [up_nat (by omega)] at hw
                show SF _ _ [(x18, .cells ⟨(fRs (P.take (k + 1)) s.cs Rs.zero).cells⟩ _ (0, 0)), _, _, (bm, mO s.Lm (fCs (P.take (k + 1)) s.cs) _ _ _ _ _ _)] _ _ [_, _, _, ⟨_, refsC (fCs (P.take (k + 1)) s.cs), _, _, _⟩] w
                rw [eR, eC]
                exact hw.sub (by repeat (first | exact List.Sublist.refl _ | exact List.Sublist.cons_cons _ (List.Sublist.refl _) | apply List.Sublist.cons)) FSub.all (List.Sublist.refl _))
             · first | omega | (simp only []; omega)
             · repeat' (first | exact knows_nil _ | refine knows_cons ?_ ?_)
               all_goals (first | exact rfl | (conv => { lhs; whnf }; simp; done) | (conv => { lhs; whnf }; congr 1; omega))
             · show k + 1 ≤ P.length; omega
          · try (exact absurd c66 (by decide))
            all_goals (revert c66; (first | refine cv2 ?_ | refine cv4 ?_ | refine cv6 ?_ | refine cv8 ?_ | refine cva ?_ | refine cvc ?_ | refine cve ?_ | skip); intro c66)
            all_goals try (exfalso; omega)
            all_goals
             have ek : P.take k = P := List.take_of_length_le (by omega)
             have d1 : (P.drop i1.toNat).length = P.length - i1.toNat := List.length_drop
             have d2 : ((P.drop i1.toNat).drop i2.toNat).length = P.length - i1.toNat - i2.toNat := by simp only [List.length_drop]
            all_goals (refine k_exit rfl ?_; refine k_seq ?_; refine k_drawF (.one 0 [] (.one 1 [] (.one 2 [] (.one 3 [] (.one 4 [] (.one 5 [] (.one 6 [] (.one 7 [] (.one 8 [] (.one 9 [] (.one 10 [] (.one 11 [] (.one 12 [] (.one 13 [] (.one 14 [] (.one 15 [] (.one 16 [] (.one 17 [] (.one 18 [] (.one 19 [] (.one 20 [] (.one 21 [] (.one 22 [] (.one 23 [] (.one 24 [] (.one 25 [] (.one 26 [] (.one 28 [] (.one 27 [28] (.one 29 [] (.one 30 [] (.one 31 [] (.one 32 [] (.one 34 [] (.one 35 [] (.one 36 [] (.one 37 [] (.one 33 [37] (.one 38 [] (.one 39 [] (.one 40 [] .nil))))))))))))))))))))))))))))))))))))))))) ?_; ((refine r_own (i := 0) (hq := (cV (hc := fun w1 hw => awake11_c w1))) (hfire := (fun _ => .nil)) (h := fun x74 => ?_); try (refine r_fact (fun h74 => ?_)))); refine r_move (i := 1) ?_)
            all_goals (first | refine r_un (i := 2) ?_ | (refine r_move (i := 2) ?_) | (refine r_case (g := 75) (by exact rfl) (fun g75 => ?_) (fun g75 => ?_) <;> (revert g75; (first | refine cv1 ?_ | refine cv2 ?_ | refine cvb ?_ | refine cvc ?_ | refine cv9 ?_ | refine cva ?_ | refine cv7 ?_ | refine cv8 ?_ | refine cvd ?_ | refine cve ?_ | skip); intro g75) <;> (try (exfalso; omega)) <;> (first | refine r_un (i := 2) ?_ | (refine r_move (i := 2) ?_))))
            all_goals ((first | refine r_un (i := 3) ?_ | (refine r_move (i := 3) ?_)); (first | refine r_un (i := 4) ?_ | (refine r_eql (i := 4) ?_)); refine r_pick (i := 5) ?_; refine r_move (i := 6) ?_)
            all_goals (first | refine r_un (i := 7) ?_ | (refine r_move (i := 7) ?_) | (refine r_case (g := 80) (by exact rfl) (fun g80 => ?_) (fun g80 => ?_) <;> (revert g80; (first | refine cv1 ?_ | refine cv2 ?_ | refine cvb ?_ | refine cvc ?_ | refine cv9 ?_ | refine cva ?_ | refine cv7 ?_ | refine cv8 ?_ | refine cvd ?_ | refine cve ?_ | skip); intro g80) <;> (try (exfalso; omega)) <;> (first | refine r_un (i := 7) ?_ | (refine r_move (i := 7) ?_))))
            all_goals ((first | refine r_un (i := 8) ?_ | (refine r_move (i := 8) ?_)); (first | refine r_un (i := 9) ?_ | (refine r_eql (i := 9) ?_)); refine r_pick (i := 10) ?_; refine r_move (i := 11) ?_)
            all_goals (first | refine r_un (i := 12) ?_ | (refine r_move (i := 12) ?_) | (refine r_case (g := 85) (by exact rfl) (fun g85 => ?_) (fun g85 => ?_) <;> (revert g85; (first | refine cv1 ?_ | refine cv2 ?_ | refine cvb ?_ | refine cvc ?_ | refine cv9 ?_ | refine cva ?_ | refine cv7 ?_ | refine cv8 ?_ | refine cvd ?_ | refine cve ?_ | skip); intro g85) <;> (try (exfalso; omega)) <;> (first | refine r_un (i := 12) ?_ | (refine r_move (i := 12) ?_))))
            all_goals ((first | refine r_un (i := 13) ?_ | (refine r_move (i := 13) ?_)); (first | refine r_un (i := 14) ?_ | (refine r_len (i := 14) ?_)); (first | refine r_un (i := 15) ?_ | (refine r_move (i := 15) ?_)); (first | refine r_un (i := 16) ?_ | (refine r_sub (i := 16) ?_)); (first | refine r_un (i := 17) ?_ | (refine r_move (i := 17) ?_)); (first | refine r_un (i := 18) ?_ | (refine r_sub (i := 18) ?_)); (first | refine r_un (i := 19) ?_ | (refine r_eql (i := 19) ?_)); refine r_pick (i := 20) ?_; refine r_move (i := 21) ?_)
            all_goals (first | refine r_un (i := 22) ?_ | (refine r_move (i := 22) ?_) | (refine r_case (g := 95) (by exact rfl) (fun g95 => ?_) (fun g95 => ?_) <;> (revert g95; (first | refine cv1 ?_ | refine cv2 ?_ | refine cvb ?_ | refine cvc ?_ | refine cv9 ?_ | refine cva ?_ | refine cv7 ?_ | refine cv8 ?_ | refine cvd ?_ | refine cve ?_ | skip); intro g95) <;> (try (exfalso; omega)) <;> (first | refine r_un (i := 22) ?_ | (refine r_move (i := 22) ?_))))
            all_goals (((first | refine r_un (i := 23) ?_ | ((refine r_own (i := 23) (hq := (cV (hc := fun w1 hw => tkDone_c (hw.st.at (by repeat (first | exact At.head | apply At.tail)))))) (hfire := (fun _ => .nil)) (h := fun x97 => ?_); try (refine r_fact (fun h97 => ?_)))))); refine r_pick (i := 24) ?_; refine r_move (i := 25) ?_)
            all_goals (first | refine r_un (i := 26) ?_ | (refine r_move (i := 26) ?_) | (refine r_case (g := 99) (by exact rfl) (fun g99 => ?_) (fun g99 => ?_) <;> (revert g99; (first | refine cv1 ?_ | refine cv2 ?_ | refine cvb ?_ | refine cvc ?_ | refine cv9 ?_ | refine cva ?_ | refine cv7 ?_ | refine cv8 ?_ | refine cvd ?_ | refine cve ?_ | skip); intro g99) <;> (try (exfalso; omega)) <;> (first | refine r_un (i := 26) ?_ | (refine r_move (i := 26) ?_))))
            all_goals ((first | refine r_un (i := 28) ?_ | (refine r_load (i := 28) ?_)); ((first | refine r_un (i := 27) ?_ | ((refine r_own (i := 27) (hq := (cV (hc := fun w1 hw => tkResult_c (hw.st.at (by repeat (first | exact At.head | apply At.tail)))))) (hfire := (fun _ => by first | (refine FireAll.cons (by first | exact a_load | exact a_un) ?_; exact FireAll.nil) | (refine fireall_fact ?_; refine FireAll.cons (by first | exact a_load | exact a_un) ?_; exact FireAll.nil))) (h := fun x101 => ?_); try (refine r_fact (fun h101 => ?_)))))); (first | refine r_un (i := 29) ?_ | (refine r_ownP (i := 29) (hq := (o_eqlRsE (fRs P s.cs Rs.zero) (fRs (P.take k) s.cs Rs.zero) (by rw [ek]) (by exact rfl) (by exact rfl) (rsT rfl))) (h := ?_))); refine r_pick (i := 30) ?_; refine r_move (i := 31) ?_)
            all_goals (first | refine r_un (i := 32) ?_ | (refine r_move (i := 32) ?_) | (refine r_case (g := 105) (by exact rfl) (fun g105 => ?_) (fun g105 => ?_) <;> (revert g105; (first | refine cv1 ?_ | refine cv2 ?_ | refine cvb ?_ | refine cvc ?_ | refine cv9 ?_ | refine cva ?_ | refine cv7 ?_ | refine cv8 ?_ | refine cvd ?_ | refine cve ?_ | skip); intro g105) <;> (try (exfalso; omega)) <;> (first | refine r_un (i := 32) ?_ | (refine r_move (i := 32) ?_))))
            all_goals ((first | refine r_un (i := 34) ?_ | (refine r_move (i := 34) ?_)); (first | refine r_un (i := 35) ?_ | (refine r_nilCheck (i := 35) ?_)); (first | refine r_un (i := 36) ?_ | (refine r_fieldAddr (i := 36) ?_)); (first | refine r_un (i := 37) ?_ | (refine r_ownQ (i := 37) (hq := (o_loadPart (k := 3) (by exact rfl) (by repeat (first | exact At.head | apply At.tail)) (by exact agg_of rfl) (by simp only [List.drop_zero, List.take_succ_cons, List.take_zero]; exact rfl) rfl)) (h := ?_))); ((first | refine r_un (i := 33) ?_ | ((refine r_own (i := 33) (hq := (cMO (A0 := famF s.La) (hA := HasAll.of fun f hf => .inr (.inr (.inl (by simp [hf])))) (hc := fun w hs => aState_c (L := s.La) (cs := fCs P s.cs) hs hrel.fa (by omega) (by rw [fCs_length]; omega)))) (hfire := (fun _ => by first | (refine FireAll.cons (by first | exact a_own (hq := o_loadPart (k := 3) (by exact rfl) (by repeat (first | exact At.head | apply At.tail)) (by exact agg_of rfl) (by simp only [List.drop_zero, List.take_succ_cons, List.take_zero]; exact rfl) rfl) | exact a_un) ?_; exact FireAll.nil) | (refine fireall_fact ?_; refine FireAll.cons (by first | exact a_own (hq := o_loadPart (k := 3) (by exact rfl) (by repeat (first | exact At.head | apply At.tail)) (by exact agg_of rfl) (by simp only [List.drop_zero, List.take_succ_cons, List.take_zero]; exact rfl) rfl) | exact a_un) ?_; exact FireAll.nil))) (h := fun x107 => ?_); try (refine r_fact (fun h107 => ?_)))))); ((first | refine r_un (i := 38) ?_ | ((refine r_own (i := 38) (hq := (cV (hc := fun w hw => sameT_c (L1 := x107.1) (L2 := s.Lm) (cs1 := fCs P s.cs) (cs2 := fCs (P.take k) s.cs) (hw.stAt (.inr (.inr (.inr ⟨_, .head _, rfl, rfl⟩))) (.inr (.inr (.inr ⟨_, .tail _ (.head _), rfl, rfl⟩))) (fun f hf => .inr (.inr (.inl (List.mem_append_left _ hf)))) h107.2) (hw.stAt (.inr (.inr (.inr ⟨_, .tail _ (.tail _ (.tail _ (.tail _ (.head _)))), rfl, rfl⟩))) (.inr (.inr (.inr ⟨_, .tail _ (.tail _ (.tail _ (.tail _ (.tail _ (.head _))))), rfl, rfl⟩))) (fun f hf => .inr (.inr (.inl (by simp [hf])))) hrel.fm) (by have h1 := congrArg List.length h107.1; simp only [List.length_map, allV_length] at h1; omega) (by omega) (by rw [fCs_length]; omega) ⟨h107.1.trans hrel.same, rfl, by rw [ek]⟩))) (hfire := (fun _ => .nil)) (h := fun x112 => ?_); try (refine r_fact (fun h112 => ?_)))))); refine r_pick (i := 39) ?_; refine r_assignL (i := 40) (hfire := (fun _ => .nil)) (h := fun _ => ?_); refine r_fin ?_)
            all_goals
             refine k_rv Try.results9 (fun w hw => ?_)
             exact ⟨rfl, hw.done⟩
end Go.Proofs.Ytmogngagpphnhaa
