/- TaskPlans: the walk. -/
import Derived.Test.YtmogngagpphnhaaGTl
set_option linter.unusedSimpArgs false
set_option linter.unusedVariables false
namespace Go.Proofs.Ytmogngagpphnhaa
open Go Go.RowKit Go.Ct
set_option maxRecDepth 100000 in
set_option maxHeartbeats 2000000 in
theorem taskPlans_c {l1 l2 : List Int} {p1 p2 p3 : Option Addr} {c1 c2 c3 : Nat} {l3 : List Ac} {w : World} (h1 : Cl w p1 (refsC l1)) (hl1 : l1.length ≤ 17592186043904) (h2 : Cl w p2 (refsC l2)) (hl2 : l2.length ≤ 17592186043904) (h3 : Cl w p3 (acC l3)) (hl3 : l3.length ≤ c3 ∧ l3.length ≤ 4611686018427387904) (hR3 : AcsR l3) :
    Calls Try.prog 12 #[.slice p1 l1.length c1, .slice p2 l2.length c2, .slice p3 l3.length c3] w fun e w' => e = .returned (.bool true) ∧ St w [] [] w' := by
  have h3' : Cl w p3 (acC (l3.take 30)) := by
    have e : acC (l3.take 30) = (acC l3).take (acC (l3.take 30)).length := by
      have : acC l3 = acC (l3.take 30) ++ acC (l3.drop 30) := by
        unfold acC
        rw [← List.flatMap_append, List.take_append_drop]
      rw [this, List.take_left]
    rw [e]
    exact h3.take (List.take_prefix _ _)
  have hRt : AcsR (l3.take 30) := fun a ha => hR3 a (List.take_subset _ _ ha)
  have ht30 : (l3.take 30).length ≤ 30 := by rw [List.length_take]; omega
  refine enter Try.func12 Try.ntmps12 rfl rfl (SF.begin (A := [(p1, refsC l1), (p2, refsC l2), (p3, acC (l3.take 30))]) (fun f hf => by
simp only [List.mem_cons, List.not_mem_nil, or_false] at hf
rcases hf with rfl | rfl | rfl
· exact h1
· exact h2
· exact h3')) ?_
  simp only [mkS]
  all_goals (refine k_seq ?_; refine k_region ?_; refine j_assignL (fun _ => ?_); refine l_nil ?_; refine k_seq ?_; refine k_region ?_; refine j_move ?_; (refine j_own (cFH (V := fun x : PS × Nat × Nat => .tuple #[.pointer (some ⟨x.2.1, 0, none⟩), .pointer (some ⟨x.2.2, 0, none⟩)]) (Hc := fun x => [(x.2.1, aO x.1.La x.1.cs x.1.gen 0 x.1.apn x.1.acn x.1.apc x.1.acc), (x.2.2, mO x.1.Lm x.1.cs x.1.gen 0 x.1.mpn x.1.mcn x.1.mpc x.1.mcc)]) (Fc := fun x => famF x.1.La ++ famF x.1.Lm) (Oc := fun x => [⟨x.1.apn, nvC x.1.La, x.1.acn, 48, 14⟩, ⟨x.1.apc, refsC x.1.cs, x.1.acc, 39, 1⟩, ⟨x.1.mpn, nvC x.1.Lm, x.1.mcn, 48, 14⟩, ⟨x.1.mpc, refsC x.1.cs, x.1.mcc, 39, 1⟩]) (hc := fun w1 hw => states_c (hw.cl (.old .head)) hl1)) (fun x21 => ?_); try (refine l_fact (fun h21 => ?_))); refine j_move ?_; refine j_extract ?_; refine j_extract ?_; refine j_assignL (fun _ => ?_); refine j_assignL (fun _ => ?_); refine l_nil ?_; refine k_seq ?_; refine k_seq ?_; refine k_region ?_; refine j_move ?_; refine j_eql ?_; refine l_nil ?_)
  all_goals
   refine k_if (fun c25 => ?_) (fun c25 => ?_)
   · try (exact absurd c25 (by decide))
     all_goals (revert c25; (first | refine cv1 ?_ | refine cv3 ?_ | refine cv5 ?_ | refine cv7 ?_ | refine cv9 ?_ | refine cvb ?_ | refine cvd ?_ | skip); intro c25)
     all_goals try (exfalso; omega)
     all_goals
      cases c25
     all_goals (refine k_seq ?_; refine k_region ?_; refine j_assignL (fun _ => ?_); refine l_nil ?_)
     all_goals
      refine k_rv Try.results12 (fun w hw => ?_)
      first | exact ⟨rfl, hw.done⟩ | trace_state
   · try (exact absurd c25 (by decide))
     all_goals (revert c25; (first | refine cv2 ?_ | refine cv4 ?_ | refine cv6 ?_ | refine cv8 ?_ | refine cva ?_ | refine cvc ?_ | refine cve ?_ | skip); intro c25)
     all_goals try (exfalso; omega)
     all_goals
      obtain ⟨s, ba, bm⟩ := x21
      have hC : s.cs.length ≤ 10 := h21.hC
      have hL : s.Lm.length ≤ 10 := h21.hL
      have hlen : s.La.length + 2 = s.Lm.length := h21.rel.len
      have hrel : s.Rel := h21.rel
      obtain ⟨PF, hPF⟩ : ∃ q, q = planF l2 ((s.cs.length : Int) + 2) := ⟨_, rfl⟩
      have hpf : PF.length ≤ 13 := by rw [hPF]; exact planF_le _ _
      have hRf : AcsR PF := by rw [hPF]; exact planS_R l2 ((s.cs.length : Int) + 2) (by omega) (by omega) (tvN l2 0 14)
     all_goals (refine k_skip ?_; refine k_seq ?_)
     all_goals
      refine k_joinG [2, 26, 27, 28, 29, 30] (fun m : Nat => [(2, .slice p3 m c3)]) (fun m => m = (l3.take 30).length) (fun _ => [(ba, aO s.La s.cs s.gen 0 s.apn s.acn s.apc s.acc), (bm, mO s.Lm s.cs s.gen 0 s.mpn s.mcn s.mpc s.mcc)]) (fun _ => famF s.La ++ famF s.Lm) (fun _ => [⟨s.apn, nvC s.La, s.acn, 48, 14⟩, ⟨s.apc, refsC s.cs, s.acc, 39, 1⟩, ⟨s.mpn, nvC s.Lm, s.mcn, 48, 14⟩, ⟨s.mpc, refsC s.cs, s.mcc, 39, 1⟩]) (by decide) (fun _ => by exact rfl) ?_ (fun m3 f hx => ?_)
      · all_goals (refine k_seq ?_)
        all_goals (refine k_region ?_; refine j_move ?_; refine j_len ?_; refine j_gtr ?_; refine l_nil ?_)
        all_goals
         refine k_if (fun c28 => ?_) (fun c28 => ?_)
         · try (exact absurd c28 (by decide))
           all_goals (revert c28; (first | refine cv1 ?_ | refine cv3 ?_ | refine cv5 ?_ | refine cv7 ?_ | refine cv9 ?_ | refine cvb ?_ | refine cvd ?_ | skip); intro c28)
           all_goals try (exfalso; omega)
           all_goals (refine k_region ?_; refine j_move ?_; refine j_own (loud_of_quiet (o_sliceH (k := 30) (by exact rfl) (by exact rfl) (by exact sl_of rfl) (by exact sz_any rfl) (by omega))) (fun x30 => ?_); refine j_assignL (fun _ => ?_); refine l_nil ?_)
           all_goals
            refine k_roundF (30) (by decide) ?_ (by repeat (first | (with_reducible exact Pre.refl) | refine Pre.cons (by exact rfl) ?_)) ?_ (fun w hw => hw.subF (fun f hf => .inr (by simpa using hf)))
            · repeat' (first | exact knows_nil _ | refine knows_cons ?_ ?_)
              all_goals (first | exact rfl | (conv => { lhs; whnf }; simp; done) | (conv => { lhs; whnf }; congr 1; omega))
            · rw [List.length_take]; omega
         · try (exact absurd c28 (by decide))
           all_goals (revert c28; (first | refine cv2 ?_ | refine cv4 ?_ | refine cv6 ?_ | refine cv8 ?_ | refine cva ?_ | refine cvc ?_ | refine cve ?_ | skip); intro c28)
           all_goals try (exfalso; omega)
           all_goals refine k_skip ?_
           all_goals
            refine k_roundF (l3.length) (by decide) ?_ (by repeat (first | (with_reducible exact Pre.refl) | refine Pre.cons (by exact rfl) ?_)) ?_ (fun w hw => hw.subF (fun f hf => .inr (by simpa using hf)))
            · repeat' (first | exact knows_nil _ | refine knows_cons ?_ ?_)
              all_goals (first | exact rfl | (conv => { lhs; whnf }; simp; done) | (conv => { lhs; whnf }; congr 1; omega))
            · rw [List.length_take]; omega
      dsimp only [mkU, List.map, List.cons_append, List.nil_append]
      subst hx
     all_goals (refine k_seq ?_; refine k_seq ?_; refine k_region ?_; refine j_move ?_; refine j_move ?_; (refine j_own (cM (V := fun x : Option Addr × Nat => .slice x.1 PF.length x.2) (Fc := fun x => [(x.1, acC PF)]) (A0 := [(p2, refsC l2)]) (os := []) (hs := [(bm, mO s.Lm s.cs s.gen 0 s.mpn s.mcn s.mpc s.mcc)]) (os' := fun _ => []) (hs' := fun _ => [(bm, mO s.Lm s.cs s.gen 0 s.mpn s.mcn s.mpc s.mcc)]) (hA := HasAll.of fun f hf => .inr (.inl (by rw [List.mem_singleton.1 hf]; exact List.mem_cons_of_mem _ (List.mem_cons_self ..)))) (hc := fun w hs => by rw [hPF]; exact plan_c (L := s.Lm) (cs := s.cs) hs (List.mem_singleton.2 rfl) hl2 (by omega))) (fun x33 => ?_); try (refine l_fact (fun h33 => ?_))); refine j_move ?_; refine j_own (lSFF fun _ => o_buildSlice elem_acss (by repeat (first | exact opParts_nil _ | (apply opParts_cons; (conv => { lhs; whnf })))) (by exact rfl) (by exact rfl) (by exact rfl) (by exact rfl) (by simp only [flatP, cellsL, List.cons_append, List.nil_append, List.append_nil]; exact rfl)) (fun x35 => ?_); refine j_len ?_; refine j_move ?_; refine l_nil ?_; refine k_block ?_)
     all_goals
      refine k_loopF [6, 10, 11, 12, 13, 14, 15, 16, 17, 18, 37, 38, 39, 40, 41, 42, 43, 44, 45, 46, 47, 48, 49, 50, 51, 52, 53, 54, 55, 56, 57, 58, 59, 60, 61, 62, 63, 64, 65, 66, 67, 68, 69, 70, 71, 72, 73, 74, 75, 76, 77, 78, 79, 80, 81, 82, 83, 84, 85, 86, 87, 88, 89, 90, 91, 92, 93, 94, 95, 96, 97, 98, 99, 100, 101, 102, 103, 104, 105, 106, 107, 108, 109, 110, 111, 112, 113, 114, 115, 116, 117, 118, 119, 120, 121, 122, 123, 124, 125, 126, 127, 128, 129, 130, 131, 132, 133, 134, 135, 136] (fun y : Nat × List Int × Nat => [(37, .int .i64 ((y.1 : Nat) : Int))]) (fun y => y.1 ≤ 2 ∧ y.2.1.length = s.cs.length ∧ y.2.2 ≤ y.1 * 30) (fun y => [(ba, aO s.La y.2.1 s.gen ((y.2.2 : Nat) : Int) s.apn s.acn s.apc s.acc), (bm, mO s.Lm y.2.1 s.gen ((y.2.2 : Nat) : Int) s.mpn s.mcn s.mpc s.mcc)]) (fun _ => (some ⟨x35, 0, none⟩, [.slice x33.1 PF.length x33.2, .slice p3 (l3.take 30).length c3]) :: (x33.1, acC PF) :: (famF s.La ++ famF s.Lm)) (fun y => [⟨s.apn, nvC s.La, s.acn, 48, 14⟩, ⟨s.apc, refsC y.2.1, s.acc, 39, 1⟩, ⟨s.mpn, nvC s.Lm, s.mcn, 48, 14⟩, ⟨s.mpc, refsC y.2.1, s.mcc, 39, 1⟩]) (fun y => 2 - y.1) ((0, s.cs, 0)) (by decide) (fun _ => by exact rfl) ?_ (⟨Nat.zero_le _, rfl, Nat.zero_le _⟩) (fun w hw => hw.subF (fun f hf => .inr (by simpa using hf))) (fun y f hx => ?_)
      · repeat (first | exact knows_nil _ | refine knows_cons (by first | exact rfl | (conv => { lhs; whnf }; simp; done)) ?_)
      dsimp only [mkU, List.map, List.cons_append, List.nil_append]
      all_goals (refine k_seq ?_; refine k_region ?_; refine j_lss ?_; refine l_nil ?_; refine k_seq ?_)
      all_goals
       refine k_if (fun c38 => ?_) (fun c38 => ?_)
       · try (exact absurd c38 (by decide))
         all_goals (revert c38; (first | refine cv1 ?_ | refine cv3 ?_ | refine cv5 ?_ | refine cv7 ?_ | refine cv9 ?_ | refine cvb ?_ | refine cvd ?_ | skip); intro c38)
         all_goals try (exfalso; omega)
         all_goals
          obtain ⟨⟨ae, L, ce⟩, hE⟩ : ∃ q, q = pickE y.1 (x33.1, PF, x33.2) (p3, l3.take 30, c3) := ⟨_, rfl⟩
          have hget := pick_get (k := y.1) (by omega) (x33.1, PF, x33.2) (p3, l3.take 30, c3)
          rw [← hE] at hget
          have hL30 : L.length ≤ 30 := by
           by_cases h0 : y.1 = 0
           · rw [pickE, if_pos h0] at hE; cases hE; omega
           · rw [pickE, if_neg h0] at hE; cases hE; omega
          have hRL : AcsR L := by
           by_cases h0 : y.1 = 0
           · rw [pickE, if_pos h0] at hE; cases hE; exact hRf
           · rw [pickE, if_neg h0] at hE; cases hE; exact hRt
          have hHas : ∀ (F' : Fr) (O' : List Ow), (x33.1, acC PF) ∈ F' → Has [(p1, refsC l1), (p2, refsC l2), (p3, acC (l3.take 30))] F' O' (ae, acC L) := fun F' O' hm => by
           by_cases h0 : y.1 = 0
           · rw [pickE, if_pos h0] at hE; cases hE; exact .inr (.inr (.inl hm))
           · rw [pickE, if_neg h0] at hE; cases hE; exact .inr (.inl (by simp))
          obtain ⟨k, cs, m⟩ := y
          have hk2 : k ≤ 2 := hx.1
          have hcl : cs.length = s.cs.length := hx.2.1
          have hm30 : m ≤ k * 30 := hx.2.2
          have hmL := madeA_len L
          have hRm := hRL.made
         all_goals (refine k_skip ?_; refine k_seq ?_; refine k_block ?_; refine k_seq ?_; refine k_region ?_; refine l_quiet (o_indexF (cs := [.slice x33.1 PF.length x33.2, .slice p3 (l3.take 30).length c3]) (k := k) (by exact rfl) (by exact rfl) (by exact sl_of rfl) (by exact one_of rfl) (.new .head) (by simp only [] at c38; omega) (by simp only [List.length_cons, List.length_nil] at *; omega)) rfl ?_; refine l_quiet (o_loadF1 (cs := [.slice x33.1 PF.length x33.2, .slice p3 (l3.take 30).length c3]) (q := k) (v := .slice ae L.length ce) (by exact rfl) (by exact one_of rfl) (.new .head) hget) rfl ?_; refine j_assignL (fun _ => ?_); refine l_nil ?_; refine k_seq ?_; refine k_region ?_; refine j_move ?_; refine l_quiet (o_mkI (by exact rfl) (fun w => mkI_arena _ w)) rfl ?_; refine j_move ?_; (refine j_own (cFH (V := fun x : Nat × Cd × Fr => .pointer (some ⟨x.1, 0, none⟩)) (Fc := fun x => x.2.2) (Hc := fun x => [(x.1, tO ba x.2.1 0)]) (Oc := fun _ => []) (hc := fun w1 hw => tkPlan_c (l := L) (hw.clH (hHas _ _ (by simp))) (by omega))) (fun x44 => ?_); try (refine l_fact (fun h44 => ?_))); refine j_build ?_; refine j_alloc (fun x12 => ?_); refine j_assignL (fun _ => ?_); refine j_store (fun _ => ?_); refine l_nil ?_; refine k_seq ?_; refine k_seq ?_; refine k_region ?_; refine j_move ?_; refine j_eql ?_; refine l_nil ?_)
         all_goals
          refine k_if (fun c47 => ?_) (fun c47 => ?_)
          · try (exact absurd c47 (by decide))
            all_goals (revert c47; (first | refine cv1 ?_ | refine cv3 ?_ | refine cv5 ?_ | refine cv7 ?_ | refine cv9 ?_ | refine cvb ?_ | refine cvd ?_ | skip); intro c47)
            all_goals try (exfalso; omega)
            all_goals
             cases c47
            all_goals (refine k_seq ?_; refine k_region ?_; refine j_assignL (fun _ => ?_); refine l_nil ?_)
            all_goals
             refine k_rv Try.results12 (fun w hw => ?_)
             first | exact ⟨rfl, hw.done⟩ | trace_state
          · try (exact absurd c47 (by decide))
            all_goals (revert c47; (first | refine cv2 ?_ | refine cv4 ?_ | refine cv6 ?_ | refine cv8 ?_ | refine cva ?_ | refine cvc ?_ | refine cve ?_ | skip); intro c47)
            all_goals try (exfalso; omega)
            all_goals
             rw [planP_made] at h44
            all_goals (refine k_skip ?_; refine k_seq ?_; refine k_seq ?_; refine k_region ?_; refine j_move ?_; (refine j_own (cF (V := fun x : Option Addr × Nat => .slice x.1 (madeA L).length x.2) (Fc := fun x => [(x.1, acC (madeA L))]) (hc := fun w1 hw => made_c (hw.clH (hHas _ _ (by simp))) (by omega))) (fun x49 => ?_); try (refine l_fact (fun h49 => ?_))); refine j_len ?_; refine j_move ?_; refine l_nil ?_; refine k_block ?_)
            all_goals
             refine k_loopF [6, 13, 14, 15, 16, 51, 52, 53, 54, 55, 56, 57, 58, 59, 60, 61, 62, 63, 64, 65, 66, 67, 68, 69, 70, 71, 72, 73, 74, 75, 76, 77, 78, 79, 80, 81, 82, 83, 84, 85, 86, 87, 88, 89, 90, 91, 92, 93, 94, 95, 96, 97, 98] (fun z : Nat × Cd × Fr => [(51, .int .i64 ((z.1 : Nat) : Int))]) (fun z => z.1 ≤ (madeA L).length ∧ Rp Try.prog (planP ((madeA L).drop z.1) (fRs ((madeA L).take z.1) cs Rs.zero)) z.2.1 (z.2.2 ++ x44.2.2)) (fun z => [(x12, .cells ⟨(fRs ((madeA L).take z.1) cs Rs.zero).cells⟩ 84 (0, 0)), (x44.1, tO ba z.2.1 z.1), (ba, aO s.La (fCs ((madeA L).take z.1) cs) s.gen ((m + z.1 : Nat) : Int) s.apn s.acn s.apc s.acc), (bm, mO s.Lm (fCs ((madeA L).take z.1) cs) s.gen ((m + z.1 : Nat) : Int) s.mpn s.mcn s.mpc s.mcc)]) (fun z => (x49.1, acC (madeA L)) :: (z.2.2 ++ (x44.2.2 ++ (some ⟨x35, 0, none⟩, [.slice x33.1 PF.length x33.2, .slice p3 (l3.take 30).length c3]) :: (x33.1, acC PF) :: (famF s.La ++ famF s.Lm)))) (fun z => [⟨s.apn, nvC s.La, s.acn, 48, 14⟩, ⟨s.apc, refsC (fCs ((madeA L).take z.1) cs), s.acc, 39, 1⟩, ⟨s.mpn, nvC s.Lm, s.mcn, 48, 14⟩, ⟨s.mpc, refsC (fCs ((madeA L).take z.1) cs), s.mcc, 39, 1⟩]) (fun z => (madeA L).length - z.1) ((0, x44.2.1, [])) (by decide) (fun _ => by exact rfl) ?_ (⟨Nat.zero_le _, h44⟩) (fun w hw => hw.subF (fun f hf => .inr (by simpa using hf))) (fun z f hx => ?_)
             · repeat (first | exact knows_nil _ | refine knows_cons (by first | exact rfl | (conv => { lhs; whnf }; simp; done)) ?_)
             dsimp only [mkU, List.map, List.cons_append, List.nil_append]
             all_goals (refine k_seq ?_; refine k_region ?_; refine j_lss ?_; refine l_nil ?_; refine k_seq ?_)
             all_goals
              refine k_if (fun c52 => ?_) (fun c52 => ?_)
              · try (exact absurd c52 (by decide))
                all_goals (revert c52; (first | refine cv1 ?_ | refine cv3 ?_ | refine cv5 ?_ | refine cv7 ?_ | refine cv9 ?_ | refine cvb ?_ | refine cvd ?_ | skip); intro c52)
                all_goals try (exfalso; omega)
                all_goals
                 obtain ⟨i, ci, Fi⟩ := z
                 have hi : i < (madeA L).length := by simp only [] at c52; omega
                 obtain ⟨a0, hk12, hga, hdr⟩ := made_at hi
                 have hrp := hx.2
                 simp only [] at hrp
                 rw [hdr] at hrp
                 have hca := plan_shows hrp hk12
                 have hck : ci.a.k ≠ 0 := by rw [hca, showA_k]; omega
                 rw [← hga] at hrp hca
                 have hcnt := fRs_cnt ((madeA L).take i) cs Rs.zero
                 have h0c : Rs.zero.cnt = 0 := rfl
                 have hti : ((madeA L).take i).length = i := by rw [List.length_take]; omega
                 have et := take_push (l := madeA L) (k := i) hi
                 have eR : fRs ((madeA L).take (i + 1)) cs Rs.zero = doRs (fCs ((madeA L).take i) cs) ((madeA L).getD i Ac.zero) (fRs ((madeA L).take i) cs Rs.zero) := by rw [et, fRs_push]
                 have eC : fCs ((madeA L).take (i + 1)) cs = doCs (fCs ((madeA L).take i) cs) ((madeA L).getD i Ac.zero) := by rw [et, fCs_push]
                all_goals (refine k_skip ?_; refine k_seq ?_; refine k_block ?_; refine k_seq ?_; refine k_region ?_; refine j_move ?_; refine l_quiet (o_indexG (g := Ac.cells) (lst := madeA L) (k := i) ac_len (by decide) (by exact rfl) (by exact rfl) (by exact sl_of rfl) (by exact agg_of rfl) (.new .head) (by omega) (by omega)) rfl ?_; refine l_quiet (o_loadG (g := Ac.cells) (lst := madeA L) (q := i) Ac.zero ac_len (by exact rfl) (by exact agg_of rfl) (.new .head) (by omega)) rfl ?_; refine j_alloc (fun x14 => ?_); refine j_assignL (fun _ => ?_); refine j_store (fun _ => ?_); refine l_nil ?_; refine k_seq ?_; refine k_region ?_; refine j_move ?_; (refine j_own (cV (hc := fun w1 hw => tkNextA_c (x := (madeA L).getD i Ac.zero) (hw.st.at (by repeat (first | exact At.head | apply At.tail))) hck hca)) (fun x58 => ?_); try (refine l_fact (fun h58 => ?_))); refine j_move ?_; refine j_extract ?_; refine j_extract ?_; refine j_alloc (fun x15 => ?_); refine j_store (fun _ => ?_); refine j_assignL (fun _ => ?_); refine l_nil ?_; refine k_seq ?_; refine k_seq ?_; refine k_region ?_; refine j_move ?_; refine j_not ?_; refine j_move ?_)
                all_goals (first | refine j_un ?_ | (refine j_yes ?_; refine j_load ?_) | (refine l_case (g := 63) (by exact rfl) (fun g63 => ?_) (fun g63 => ?_) <;> (revert g63; (first | refine cv1 ?_ | refine cv2 ?_ | refine cvb ?_ | refine cvc ?_ | refine cv9 ?_ | refine cva ?_ | refine cv7 ?_ | refine cv8 ?_ | refine cvd ?_ | refine cve ?_ | skip); intro g63) <;> (try (exfalso; omega)) <;> (first | refine j_un ?_ | (refine j_yes ?_; refine j_load ?_))))
                all_goals ((first | refine j_un ?_ | (refine j_yes ?_; refine j_load ?_)); (first | refine j_un ?_ | (refine j_yes ?_; refine l_quiet (o_neqAcF ((madeA L).getD i Ac.zero) (by exact rfl) (by exact rfl) (acT rfl)) rfl ?_)); refine j_pick ?_; refine j_move ?_)
                all_goals (first | refine j_un ?_ | (refine j_yes ?_; refine j_move ?_) | (refine l_case (g := 68) (by exact rfl) (fun g68 => ?_) (fun g68 => ?_) <;> (revert g68; (first | refine cv1 ?_ | refine cv2 ?_ | refine cvb ?_ | refine cvc ?_ | refine cv9 ?_ | refine cva ?_ | refine cv7 ?_ | refine cv8 ?_ | refine cvd ?_ | refine cve ?_ | skip); intro g68) <;> (try (exfalso; omega)) <;> (first | refine j_un ?_ | (refine j_yes ?_; refine j_move ?_))))
                all_goals (((first | refine j_un ?_ | (refine j_yes ?_; (refine j_own (cV (hc := fun w1 hw => tkDoneA_c (hw.st.at (by repeat (first | exact At.head | apply At.tail))) hck)) (fun x70 => ?_); try (refine l_fact (fun h70 => ?_)))))); refine j_pick ?_; refine j_move ?_)
                all_goals (first | refine j_un ?_ | (refine j_yes ?_; refine j_move ?_) | (refine l_case (g := 72) (by exact rfl) (fun g72 => ?_) (fun g72 => ?_) <;> (revert g72; (first | refine cv1 ?_ | refine cv2 ?_ | refine cvb ?_ | refine cvc ?_ | refine cv9 ?_ | refine cva ?_ | refine cv7 ?_ | refine cv8 ?_ | refine cvd ?_ | refine cve ?_ | skip); intro g72) <;> (try (exfalso; omega)) <;> (first | refine j_un ?_ | (refine j_yes ?_; refine j_move ?_))))
                all_goals (((first | refine j_un ?_ | (refine j_yes ?_; (refine j_own (cV (hc := fun w1 hw => tkSteps_c (hw.st.at (by repeat (first | exact At.head | apply At.tail))))) (fun x74 => ?_); try (refine l_fact (fun h74 => ?_)))))); (first | refine j_un ?_ | (refine j_yes ?_; refine j_move ?_)); (first | refine j_un ?_ | (refine j_yes ?_; refine j_neq ?_)); refine j_pick ?_; refine j_move ?_)
                all_goals (first | refine j_un ?_ | (refine j_yes ?_; refine j_move ?_) | (refine l_case (g := 78) (by exact rfl) (fun g78 => ?_) (fun g78 => ?_) <;> (revert g78; (first | refine cv1 ?_ | refine cv2 ?_ | refine cvb ?_ | refine cvc ?_ | refine cv9 ?_ | refine cva ?_ | refine cv7 ?_ | refine cv8 ?_ | refine cvd ?_ | refine cve ?_ | skip); intro g78) <;> (try (exfalso; omega)) <;> (first | refine j_un ?_ | (refine j_yes ?_; refine j_move ?_))))
                all_goals (((first | refine j_un ?_ | (refine j_yes ?_; (refine j_own (cV (hc := fun w1 hw => tkResA_c (hw.st.at (by repeat (first | exact At.head | apply At.tail))) hck)) (fun x80 => ?_); try (refine l_fact (fun h80 => ?_)))))); (first | refine j_un ?_ | (refine j_yes ?_; refine j_build ?_)); (first | refine j_un ?_ | (refine j_yes ?_; refine l_quiet (o_neqRsF Rs.zero Rs.zero rfl (by exact rfl) (by exact rfl) (rsT rfl)) rfl ?_)); refine j_pick ?_; refine l_nil ?_)
                all_goals
                 refine k_if (fun c83 => ?_) (fun c83 => ?_)
                 · try (exact absurd c83 (by decide))
                   all_goals (revert c83; (first | refine cv1 ?_ | refine cv3 ?_ | refine cv5 ?_ | refine cv7 ?_ | refine cv9 ?_ | refine cvb ?_ | refine cvd ?_ | skip); intro c83)
                   all_goals try (exfalso; omega)
                   all_goals (refine k_seq ?_; refine k_region ?_; refine j_assignL (fun _ => ?_); refine l_nil ?_)
                   all_goals
                    refine k_rv Try.results12 (fun w hw => ?_)
                    first | exact ⟨rfl, hw.done⟩ | trace_state
                 · try (exact absurd c83 (by decide))
                   all_goals (revert c83; (first | refine cv2 ?_ | refine cv4 ?_ | refine cv6 ?_ | refine cv8 ?_ | refine cva ?_ | refine cvc ?_ | refine cve ?_ | skip); intro c83)
                   all_goals try (exfalso; omega)
                   all_goals (refine k_skip ?_; refine k_seq ?_; refine k_region ?_; refine j_move ?_)
                   all_goals (refine j_own (cM (V := fun _ : Cd × Fr => .tuple #[]) (Fc := fun y => y.2) (A0 := Fi ++ x44.2.2) (hs' := fun y => [(x44.1, tO ba y.1 (i + 1)), (ba, aO s.La (doCs (fCs ((madeA L).take i) cs) ((madeA L).getD i Ac.zero)) s.gen ((m + i + 1 : Nat) : Int) s.apn s.acn s.apc s.acc)]) (os' := fun _ => mW s.La (doCs (fCs ((madeA L).take i) cs) ((madeA L).getD i Ac.zero)) s.apn s.acn s.apc s.acc) (hA := HasAll.of fun f hf => Or.inr (Or.inr (Or.inl (by rcases List.mem_append.1 hf with h | h <;> simp [h])))) (hc := fun w hw => plStep_c (m := m + i) hw hrp (fun y hy => hy) (hRm.at i) (by rw [fCs_length]; omega) (by omega) (by omega))) (fun x85 => ?_); try (refine l_fact (fun h85 => ?_)))
                   all_goals (refine l_nil ?_; refine k_seq ?_; refine k_region ?_; refine j_move ?_; refine j_load ?_; refine j_load ?_; (refine j_own (cM (A0 := []) (hc := fun w hs => do_c (L := s.Lm) (cs := fCs ((madeA L).take i) cs) (x := (madeA L).getD i Ac.zero) (r := fRs ((madeA L).take i) cs Rs.zero) hs (hRm.at i) (by rw [fCs_length]; omega) (by omega) (by omega))) (fun x89 => ?_); try (refine l_fact (fun h89 => ?_))); refine j_store (fun _ => ?_); refine l_nil ?_; refine k_seq ?_; refine k_drawF (.one 0 [] (.one 2 [] (.one 3 [] (.one 4 [] (.one 5 [] (.one 1 [5] (.one 6 [] (.one 7 [] .nil)))))))) ?_; refine r_move (i := 0) ?_; refine r_move (i := 2) ?_; refine r_nilCheck (i := 3) ?_; refine r_fieldAddr (i := 4) ?_; refine r_ownQ (i := 5) (hq := (o_loadPart (k := 3) (by exact rfl) (by repeat (first | exact At.head | apply At.tail)) (by exact agg_of rfl) (by simp only [List.drop_zero, List.take_succ_cons, List.take_zero]; exact rfl) rfl)) (h := ?_); ((refine r_own (i := 1) (hq := (cMO (A0 := famF s.La) (hA := HasAll.of fun f hf => .inr (.inr (.inl (by simp [hf])))) (hc := fun w hs => aState_c (L := s.La) (cs := doCs (fCs ((madeA L).take i) cs) ((madeA L).getD i Ac.zero)) hs hrel.fa (by omega) (by rw [doCs_length, fCs_length]; omega)))) (hfire := (fun _ => by first | (refine FireAll.cons (by first | exact a_own (hq := o_loadPart (k := 3) (by exact rfl) (by repeat (first | exact At.head | apply At.tail)) (by exact agg_of rfl) (by simp only [List.drop_zero, List.take_succ_cons, List.take_zero]; exact rfl) rfl) | exact a_un) ?_; exact FireAll.nil) | (refine fireall_fact ?_; refine FireAll.cons (by first | exact a_own (hq := o_loadPart (k := 3) (by exact rfl) (by repeat (first | exact At.head | apply At.tail)) (by exact agg_of rfl) (by simp only [List.drop_zero, List.take_succ_cons, List.take_zero]; exact rfl) rfl) | exact a_un) ?_; exact FireAll.nil))) (h := fun x91 => ?_); try (refine r_fact (fun h91 => ?_)))); ((refine r_own (i := 6) (hq := (cV (hc := fun w hw => sameT_c (L1 := x91.1) (L2 := s.Lm) (cs1 := doCs (fCs ((madeA L).take i) cs) ((madeA L).getD i Ac.zero)) (cs2 := doCs (fCs ((madeA L).take i) cs) ((madeA L).getD i Ac.zero)) (hw.stAt (.inr (.inr (.inr ⟨_, .head _, rfl, rfl⟩))) (.inr (.inr (.inr ⟨_, .tail _ (.head _), rfl, rfl⟩))) (fun f hf => .inr (.inr (.inl (List.mem_append_left _ hf)))) h91.2) (hw.stAt (.inr (.inr (.inr ⟨_, .tail _ (.tail _ (.tail _ (.tail _ (.head _)))), rfl, rfl⟩))) (.inr (.inr (.inr ⟨_, .tail _ (.tail _ (.tail _ (.tail _ (.tail _ (.head _))))), rfl, rfl⟩))) (fun f hf => .inr (.inr (.inl (by simp [hf])))) hrel.fm) (by have h1 := congrArg List.length h91.1; simp only [List.length_map, allV_length] at h1; omega) (by omega) (by rw [doCs_length, fCs_length]; omega) ⟨h91.1.trans hrel.same, rfl, rfl⟩))) (hfire := (fun _ => .nil)) (h := fun x96 => ?_); try (refine r_fact (fun h96 => ?_)))); refine r_not (i := 7) ?_; refine r_fin ?_)
                   all_goals
                    refine k_if (fun c97 => ?_) (fun c97 => ?_)
                    · try (exact absurd c97 (by decide))
                      all_goals (revert c97; (first | refine cv1 ?_ | refine cv3 ?_ | refine cv5 ?_ | refine cv7 ?_ | refine cv9 ?_ | refine cvb ?_ | refine cvd ?_ | skip); intro c97)
                      all_goals try (exfalso; omega)
                      all_goals (refine k_seq ?_; refine k_region ?_; refine j_assignL (fun _ => ?_); refine l_nil ?_)
                      all_goals
                       refine k_rv Try.results12 (fun w hw => ?_)
                       first | exact ⟨rfl, hw.done⟩ | trace_state
                    · try (exact absurd c97 (by decide))
                      all_goals (revert c97; (first | refine cv2 ?_ | refine cv4 ?_ | refine cv6 ?_ | refine cv8 ?_ | refine cva ?_ | refine cvc ?_ | refine cve ?_ | skip); intro c97)
                      all_goals try (exfalso; omega)
                      all_goals (refine k_skip ?_; refine k_blk ?_; refine k_region ?_; refine j_inc ?_; refine j_move ?_; refine l_nil ?_)
                      all_goals
                       refine k_roundF ((i + 1, x85.1, x85.2 ++ Fi)) ?_ ?_ (by repeat (first | (with_reducible exact Pre.refl) | refine Pre.cons (by exact rfl) ?_)) ?_ (fun w hw => by
                          rw [up_nat (by omega)] at hw
                          show SF _ _ [(x12, .cells ⟨(fRs ((madeA L).take (i + 1)) cs Rs.zero).cells⟩ _ (0, 0)), _, (ba, aO _ (fCs ((madeA L).take (i + 1)) cs) _ _ _ _ _ _), (bm, mO _ (fCs ((madeA L).take (i + 1)) cs) _ _ _ _ _ _)] _ _ [_, ⟨_, refsC (fCs ((madeA L).take (i + 1)) cs), _, _, _⟩, _, ⟨_, refsC (fCs ((madeA L).take (i + 1)) cs), _, _, _⟩] w
                          rw [eR, eC]
                          refine (hw.subF (F' := [(x49.1, acC (madeA L))] ++ ((x85.2 ++ Fi) ++ (x44.2.2 ++ ([(some ⟨x35, 0, none⟩, [.slice x33.1 PF.length x33.2, .slice p3 (l3.take 30).length c3]), (x33.1, acC PF)] ++ (famF s.La ++ famF s.Lm))))) (fun f hf => .inr ?_)).sub (by repeat (first | exact List.Sublist.refl _ | apply List.Sublist.cons)) FSub.all (by repeat (first | exact List.Sublist.refl _ | apply List.Sublist.cons))
                          simp only [List.mem_append, List.mem_cons, List.not_mem_nil, or_false, or_assoc] at hf ⊢
                          rcases hf with h | h | h | h | h | h | h | h <;> simp [h])
                       · show (madeA L).length - (i + 1) < (madeA L).length - i; omega
                       · repeat' (first | exact knows_nil _ | refine knows_cons ?_ ?_)
                         all_goals (first | exact rfl | (conv => { lhs; whnf }; simp; done) | (conv => { lhs; whnf }; congr 1; omega))
                       · refine ⟨by show i + 1 ≤ _; omega, ?_⟩
                         show Rp Try.prog (planP ((madeA L).drop (i + 1)) (fRs ((madeA L).take (i + 1)) cs Rs.zero)) x85.1 ((x85.2 ++ Fi) ++ x44.2.2)
                         rw [eR, List.append_assoc]
                         exact h85
              · try (exact absurd c52 (by decide))
                all_goals (revert c52; (first | refine cv2 ?_ | refine cv4 ?_ | refine cv6 ?_ | refine cv8 ?_ | refine cva ?_ | refine cvc ?_ | refine cve ?_ | skip); intro c52)
                all_goals try (exfalso; omega)
                all_goals
                 obtain ⟨i, ci, Fi⟩ := z
                 have hi : i = (madeA L).length := by have := hx.1; simp only [] at c52 this; omega
                 have et : (madeA L).take i = madeA L := List.take_of_length_le (by omega)
                 have hci := hx.2
                 simp only [] at hci
                 rw [et, List.drop_eq_nil_of_le (by omega)] at hci
                 replace hci : ci = doneCd (fRs (madeA L) cs Rs.zero) := hci
                 subst hci
                all_goals (refine k_exit rfl ?_; refine k_seq ?_; refine k_region ?_; refine j_move ?_; (refine j_own (cV (hc := fun w1 hw => tkNextD_c (hw.st.at (by repeat (first | exact At.head | apply At.tail))) rfl)) (fun x101 => ?_); try (refine l_fact (fun h101 => ?_))); refine j_move ?_; refine j_extract ?_; refine j_extract ?_; refine j_alloc (fun x17 => ?_); refine j_store (fun _ => ?_); refine j_assignL (fun _ => ?_); refine l_nil ?_; refine k_seq ?_; refine k_region ?_; refine j_move ?_; (refine j_own (cM (A0 := []) (hc := fun w hw => plStepD_c (L := s.La) (cs := fCs ((madeA L).take i) cs) hw)) (fun x105 => ?_); try (refine l_fact (fun h105 => ?_))); refine l_nil ?_; refine k_seq ?_; refine k_drawF (.one 0 [] (.one 1 [] (.one 2 [] (.one 3 [] (.one 4 [] (.one 5 [] (.one 6 [] (.one 7 [] (.one 8 [] (.one 9 [] (.one 10 [] (.one 11 [] (.one 12 [] (.one 14 [] (.one 13 [14] (.one 15 [] (.one 16 [] (.one 17 [] (.one 18 [] (.one 20 [] (.one 19 [] (.one 21 [] (.one 22 [] (.one 23 [] (.one 24 [] (.one 25 [] (.one 26 [] (.one 27 [] (.one 28 [] (.one 29 [] .nil)))))))))))))))))))))))))))))) ?_; refine r_move (i := 0) ?_; refine r_move (i := 1) ?_)
                all_goals (first | refine r_un (i := 2) ?_ | (refine r_load (i := 2) ?_) | (refine r_case (g := 107) (by exact rfl) (fun g107 => ?_) (fun g107 => ?_) <;> (revert g107; (first | refine cv1 ?_ | refine cv2 ?_ | refine cvb ?_ | refine cvc ?_ | refine cv9 ?_ | refine cva ?_ | refine cv7 ?_ | refine cv8 ?_ | refine cvd ?_ | refine cve ?_ | skip); intro g107) <;> (try (exfalso; omega)) <;> (first | refine r_un (i := 2) ?_ | (refine r_load (i := 2) ?_))))
                all_goals ((first | refine r_un (i := 3) ?_ | (refine r_build (i := 3) ?_)); (first | refine r_un (i := 4) ?_ | (refine r_ownP (i := 4) (hq := (o_neqAcF Ac.zero (by exact rfl) (by exact rfl) (acT rfl))) (h := ?_))); refine r_pick (i := 5) ?_; refine r_move (i := 6) ?_)
                all_goals (first | refine r_un (i := 7) ?_ | (refine r_move (i := 7) ?_) | (refine r_case (g := 112) (by exact rfl) (fun g112 => ?_) (fun g112 => ?_) <;> (revert g112; (first | refine cv1 ?_ | refine cv2 ?_ | refine cvb ?_ | refine cvc ?_ | refine cv9 ?_ | refine cva ?_ | refine cv7 ?_ | refine cv8 ?_ | refine cvd ?_ | refine cve ?_ | skip); intro g112) <;> (try (exfalso; omega)) <;> (first | refine r_un (i := 7) ?_ | (refine r_move (i := 7) ?_))))
                all_goals (((first | refine r_un (i := 8) ?_ | ((refine r_own (i := 8) (hq := (cV (hc := fun w1 hw => tkDoneD_c (hw.st.at (by repeat (first | exact At.head | apply At.tail)))))) (hfire := (fun _ => .nil)) (h := fun x114 => ?_); try (refine r_fact (fun h114 => ?_)))))); (first | refine r_un (i := 9) ?_ | (refine r_not (i := 9) ?_)); refine r_pick (i := 10) ?_; refine r_move (i := 11) ?_)
                all_goals (first | refine r_un (i := 12) ?_ | (refine r_move (i := 12) ?_) | (refine r_case (g := 117) (by exact rfl) (fun g117 => ?_) (fun g117 => ?_) <;> (revert g117; (first | refine cv1 ?_ | refine cv2 ?_ | refine cvb ?_ | refine cvc ?_ | refine cv9 ?_ | refine cva ?_ | refine cv7 ?_ | refine cv8 ?_ | refine cvd ?_ | refine cve ?_ | skip); intro g117) <;> (try (exfalso; omega)) <;> (first | refine r_un (i := 12) ?_ | (refine r_move (i := 12) ?_))))
                all_goals ((first | refine r_un (i := 14) ?_ | (refine r_load (i := 14) ?_)); ((first | refine r_un (i := 13) ?_ | ((refine r_own (i := 13) (hq := (cV (hc := fun w1 hw => tkResD_c (hw.st.at (by repeat (first | exact At.head | apply At.tail)))))) (hfire := (fun _ => by first | (refine FireAll.cons (by first | exact a_load | exact a_un) ?_; exact FireAll.nil) | (refine fireall_fact ?_; refine FireAll.cons (by first | exact a_load | exact a_un) ?_; exact FireAll.nil))) (h := fun x119 => ?_); try (refine r_fact (fun h119 => ?_)))))); (first | refine r_un (i := 15) ?_ | (refine r_ownP (i := 15) (hq := (o_neqRsF (fRs (madeA L) cs Rs.zero) (fRs ((madeA L).take i) cs Rs.zero) (by rw [et]) (by exact rfl) (by exact rfl) (rsT rfl))) (h := ?_))); refine r_pick (i := 16) ?_; refine r_move (i := 17) ?_)
                all_goals (first | refine r_un (i := 18) ?_ | (refine r_move (i := 18) ?_) | (refine r_case (g := 123) (by exact rfl) (fun g123 => ?_) (fun g123 => ?_) <;> (revert g123; (first | refine cv1 ?_ | refine cv2 ?_ | refine cvb ?_ | refine cvc ?_ | refine cv9 ?_ | refine cva ?_ | refine cv7 ?_ | refine cv8 ?_ | refine cvd ?_ | refine cve ?_ | skip); intro g123) <;> (try (exfalso; omega)) <;> (first | refine r_un (i := 18) ?_ | (refine r_move (i := 18) ?_))))
                all_goals ((first | refine r_un (i := 20) ?_ | (refine r_move (i := 20) ?_)); ((first | refine r_un (i := 19) ?_ | ((refine r_own (i := 19) (hq := (cV (hc := fun w1 hw => tkSteps_c (hw.st.at (by repeat (first | exact At.head | apply At.tail)))))) (hfire := (fun _ => .nil)) (h := fun x125 => ?_); try (refine r_fact (fun h125 => ?_)))))); ((first | refine r_un (i := 21) ?_ | ((refine r_own (i := 21) (hq := (cF (V := fun x : Option Addr × Nat => .slice x.1 (madeA L).length x.2) (Fc := fun x => [(x.1, acC (madeA L))]) (hc := fun w1 hw => made_c (hw.clH (hHas _ _ (by simp))) (by omega)))) (hfire := (fun _ => .nil)) (h := fun x127 => ?_); try (refine r_fact (fun h127 => ?_)))))); (first | refine r_un (i := 22) ?_ | (refine r_len (i := 22) ?_)); (first | refine r_un (i := 23) ?_ | (refine r_neq (i := 23) ?_)); refine r_pick (i := 24) ?_; refine r_move (i := 25) ?_)
                all_goals (first | refine r_un (i := 26) ?_ | (refine r_move (i := 26) ?_) | (refine r_case (g := 131) (by exact rfl) (fun g131 => ?_) (fun g131 => ?_) <;> (revert g131; (first | refine cv1 ?_ | refine cv2 ?_ | refine cvb ?_ | refine cvc ?_ | refine cv9 ?_ | refine cva ?_ | refine cv7 ?_ | refine cv8 ?_ | refine cvd ?_ | refine cve ?_ | skip); intro g131) <;> (try (exfalso; omega)) <;> (first | refine r_un (i := 26) ?_ | (refine r_move (i := 26) ?_))))
                all_goals (((first | refine r_un (i := 27) ?_ | ((refine r_own (i := 27) (hq := (cM (V := fun _ : Fr => .int .i64 0) (Fc := fun y => y) (A0 := []) (hc := fun w hw => plRunD_c (most := 5) (n := i) (m := m + i) (L := s.La) (cs := fCs ((madeA L).take i) cs) hw (by rw [fCs_length]; omega) (by show _ + 5 < _; omega) (by omega)))) (hfire := (fun _ => .nil)) (h := fun x133 => ?_); try (refine r_fact (fun h133 => ?_)))))); (first | refine r_un (i := 28) ?_ | (refine r_neq (i := 28) ?_)); refine r_pick (i := 29) ?_; refine r_fin ?_)
                all_goals
                 refine k_if (fun c135 => ?_) (fun c135 => ?_)
                 · try (exact absurd c135 (by decide))
                   all_goals (revert c135; (first | refine cv1 ?_ | refine cv3 ?_ | refine cv5 ?_ | refine cv7 ?_ | refine cv9 ?_ | refine cvb ?_ | refine cvd ?_ | skip); intro c135)
                   all_goals try (exfalso; omega)
                   all_goals (refine k_seq ?_; refine k_region ?_; refine j_assignL (fun _ => ?_); refine l_nil ?_)
                   all_goals
                    refine k_rv Try.results12 (fun w hw => ?_)
                    first | exact ⟨rfl, hw.done⟩ | trace_state
                 · try (exact absurd c135 (by decide))
                   all_goals (revert c135; (first | refine cv2 ?_ | refine cv4 ?_ | refine cv6 ?_ | refine cv8 ?_ | refine cva ?_ | refine cvc ?_ | refine cve ?_ | skip); intro c135)
                   all_goals try (exfalso; omega)
                   all_goals (refine k_skip ?_; refine k_blk ?_; refine k_region ?_; refine j_inc ?_; refine j_move ?_; refine l_nil ?_)
                   all_goals
                    refine k_roundF ((k + 1, fCs (madeA L) cs, m + i)) ?_ ?_ (by repeat (first | (with_reducible exact Pre.refl) | refine Pre.cons (by exact rfl) ?_)) ?_ (fun w hw => by
                       rw [et] at hw
                       refine (hw.subF (F' := [(some ⟨x35, 0, none⟩, [.slice x33.1 PF.length x33.2, .slice p3 (l3.take 30).length c3]), (x33.1, acC PF)] ++ (famF s.La ++ famF s.Lm)) (fun f hf => .inr ?_)).sub (by repeat (first | exact List.Sublist.refl _ | apply List.Sublist.cons)) FSub.all (by repeat (first | exact List.Sublist.refl _ | apply List.Sublist.cons))
                       simp only [List.mem_append, List.mem_cons, List.not_mem_nil, or_false, or_assoc] at hf ⊢
                       rcases hf with h | h | h | h <;> simp [h])
                    · simp only [] at c38; show 2 - (k + 1) < 2 - k; omega
                    · repeat' (first | exact knows_nil _ | refine knows_cons ?_ ?_)
                      all_goals (first | exact rfl | (conv => { lhs; whnf }; simp; done) | (conv => { lhs; whnf }; congr 1; omega))
                    · exact ⟨by show k + 1 ≤ 2; simp only [] at c38; omega, by show (fCs (madeA L) cs).length = _; rw [fCs_length]; exact hcl, by show m + i ≤ (k + 1) * 30; omega⟩
       · try (exact absurd c38 (by decide))
         all_goals (revert c38; (first | refine cv2 ?_ | refine cv4 ?_ | refine cv6 ?_ | refine cv8 ?_ | refine cva ?_ | refine cvc ?_ | refine cve ?_ | skip); intro c38)
         all_goals try (exfalso; omega)
         all_goals (refine k_exit rfl ?_; refine k_seq ?_; refine k_region ?_; (refine j_own (cV (hc := fun w1 hw => awake11_c w1)) (fun x137 => ?_); try (refine l_fact (fun h137 => ?_))); refine j_assignL (fun _ => ?_); refine l_nil ?_)
         all_goals
          refine k_rv Try.results12 (fun w hw => ?_)
          first | exact ⟨rfl, hw.done⟩ | trace_state
end Go.Proofs.Ytmogngagpphnhaa
