/- States are compared. -/
import Derived.Test.YtmogngagpphnhaaAr9
import Derived.Test.YtmogngagpphnhaaTape
set_option linter.unusedSimpArgs false
set_option linter.unusedVariables false
namespace Go.Ct
theorem map_c {L1 L2 : List NdV} (h : L1.length = L2.length) : L1.map NdV.c = L2.map NdV.c ↔ ∀ i, i < L1.length → (L1.getD i NdV.zero).c = (L2.getD i NdV.zero).c := by
  constructor
  · intro e i hi
    have h1 : (L1.map NdV.c)[i]? = (L2.map NdV.c)[i]? := by rw [e]
    rw [List.getElem?_map, List.getElem?_map, List.getElem?_eq_getElem hi, List.getElem?_eq_getElem (h ▸ hi)] at h1
    rw [List.getD_eq_getElem?_getD, List.getD_eq_getElem?_getD, List.getElem?_eq_getElem hi, List.getElem?_eq_getElem (h ▸ hi)]
    simpa using h1
  · intro e
    refine List.ext_getElem? fun i => ?_
    rw [List.getElem?_map, List.getElem?_map]
    by_cases hi : i < L1.length
    · have h1 := e i hi
      rw [List.getD_eq_getElem?_getD, List.getD_eq_getElem?_getD, List.getElem?_eq_getElem hi, List.getElem?_eq_getElem (h ▸ hi)] at h1
      rw [List.getElem?_eq_getElem hi, List.getElem?_eq_getElem (h ▸ hi)]
      simpa using h1
    · rw [List.getElem?_eq_none (by omega), List.getElem?_eq_none (by omega)]
def SameSt (L1 L2 : List NdV) (c1 c2 : List Int) (g1 g2 : Int) : Prop := L1.map NdV.c = L2.map NdV.c ∧ g1 = g2 ∧ c1 = c2
end Go.Ct
namespace Go.Proofs.Ytmogngagpphnhaa
open Go.RowKit Go.Ct
theorem same_start {L1 L2 : List NdV} {cs1 cs2 : List Int} {pn1 pc1 pn2 pc2 : Option Addr} {w : World} (h1 : StAt w L1 cs1 pn1 pc1) (h2 : StAt w L2 cs2 pn2 pc2) :
    SF w [] [] ((pn1, nvC L1) :: (pc1, refsC cs1) :: (pn2, nvC L2) :: (pc2, refsC cs2) :: (famF L1 ++ famF L2)) [] [] w := SF.begin fun f hf => by
  rcases List.mem_cons.1 hf with rfl | hf
  · exact h1.nds
  rcases List.mem_cons.1 hf with rfl | hf
  · exact h1.cls
  rcases List.mem_cons.1 hf with rfl | hf
  · exact h2.nds
  rcases List.mem_cons.1 hf with rfl | hf
  · exact h2.cls
  rcases List.mem_append.1 hf with hf | hf
  · exact h1.fam f hf
  · exact h2.fam f hf
theorem memA4 {f1 f2 f3 f4 f : Option Addr × List Value} {F : Fr} (h : f ∈ F) : f ∈ f1 :: f2 :: f3 :: f4 :: F := List.mem_cons_of_mem _ (List.mem_cons_of_mem _ (List.mem_cons_of_mem _ (List.mem_cons_of_mem _ h)))
theorem same_c {L1 L2 : List NdV} {cs1 cs2 : List Int} {g1 g2 : Int} {pn1 pc1 pn2 pc2 : Option Addr} {n1 n2 c1 c2 : Nat} {w : World} (h1 : StAt w L1 cs1 pn1 pc1) (h2 : StAt w L2 cs2 pn2 pc2) (hL1 : L1.length ≤ 274877906944) (hL2 : L2.length ≤ 274877906944) (hc1 : cs1.length ≤ 274877906944) :
    Calls Try.prog 26 #[.agg ⟨[.slice pn1 L1.length n1, .slice pc1 cs1.length c1, .int .i64 g1]⟩, .agg ⟨[.slice pn2 L2.length n2, .slice pc2 cs2.length c2, .int .i64 g2]⟩] w fun e w' => ∃ r : Bool, e = .returned (.bool r) ∧ (r = true ↔ SameSt L1 L2 cs1 cs2 g1 g2) ∧ St w [] [] w' := by
  refine enter Try.func26 Try.ntmps26 rfl rfl (same_start h1 h2) ?_
  simp only [mkS]
  all_goals (refine k_seq ?_; refine k_region ?_; refine j_box (fun x2 => ?_); refine j_box (fun x3 => ?_); refine j_assignL (fun _ => ?_); refine l_nil ?_; refine k_seq ?_; refine k_seq ?_; refine k_region ?_; refine j_fieldAddr ?_; refine j_load ?_; refine j_len ?_; refine j_fieldAddr ?_; refine j_load ?_; refine j_len ?_; refine j_neq ?_; refine j_move ?_)
  all_goals (first | refine j_un ?_ | (refine j_yes ?_; refine j_fieldAddr ?_) | (refine l_case (g := 13) (by exact rfl) (fun g13 => ?_) (fun g13 => ?_) <;> (revert g13; (first | refine cv1 ?_ | refine cv2 ?_ | refine cvb ?_ | refine cvc ?_ | refine cv9 ?_ | refine cva ?_ | refine cv7 ?_ | refine cv8 ?_ | refine cvd ?_ | refine cve ?_ | skip); intro g13) <;> (first | refine j_un ?_ | (refine j_yes ?_; refine j_fieldAddr ?_))))
  all_goals ((first | refine j_un ?_ | (refine j_yes ?_; refine j_load ?_)); (first | refine j_un ?_ | (refine j_yes ?_; refine j_fieldAddr ?_)); (first | refine j_un ?_ | (refine j_yes ?_; refine j_load ?_)); (first | refine j_un ?_ | (refine j_yes ?_; refine j_neq ?_)); refine j_pick ?_; refine j_move ?_)
  all_goals (first | refine j_un ?_ | (refine j_yes ?_; refine j_fieldAddr ?_) | (refine l_case (g := 20) (by exact rfl) (fun g20 => ?_) (fun g20 => ?_) <;> (revert g20; (first | refine cv1 ?_ | refine cv2 ?_ | refine cvb ?_ | refine cvc ?_ | refine cv9 ?_ | refine cva ?_ | refine cv7 ?_ | refine cv8 ?_ | refine cvd ?_ | refine cve ?_ | skip); intro g20) <;> (first | refine j_un ?_ | (refine j_yes ?_; refine j_fieldAddr ?_))))
  all_goals ((first | refine j_un ?_ | (refine j_yes ?_; refine j_load ?_)); (first | refine j_un ?_ | (refine j_yes ?_; refine j_fieldAddr ?_)); (first | refine j_un ?_ | (refine j_yes ?_; refine j_load ?_)); ((first | refine j_un ?_ | (refine j_yes ?_; (refine j_own (cV (hc := fun w1 hw => refs_c (hw.cl (.old (.tail .head))) (hw.cl (.old (.tail (.tail (.tail .head))))) (by omega))) (fun x25 => ?_); try (refine l_fact (fun h25 => ?_)))))); (first | refine j_un ?_ | (refine j_yes ?_; refine j_not ?_)); refine j_pick ?_; refine l_nil ?_)
  all_goals
   refine k_if (fun c27 => ?_) (fun c27 => ?_)
   · try (exact absurd c27 (by decide))
     all_goals (revert c27; (first | refine cv1 ?_ | refine cv3 ?_ | refine cv5 ?_ | refine cv7 ?_ | refine cv9 ?_ | refine cvb ?_ | refine cvd ?_ | skip); intro c27)
     all_goals (refine k_seq ?_; refine k_region ?_; refine j_assignL (fun _ => ?_); refine l_nil ?_)
     all_goals
      refine k_rv Try.results26 (fun w hw => ?_)
      exact ⟨false, rfl, ⟨(fun h => nomatch h), fun hs => by
       have e1 := congrArg List.length hs.1
       simp only [List.length_map] at e1
       have e2 := hs.2.1
       have e3 := hs.2.2
       first | omega | (subst e3; simp at c27)⟩, hw.done⟩
   · try (exact absurd c27 (by decide))
     all_goals (revert c27; (first | refine cv2 ?_ | refine cv4 ?_ | refine cv6 ?_ | refine cv8 ?_ | refine cva ?_ | refine cvc ?_ | refine cve ?_ | skip); intro c27)
     all_goals (refine k_skip ?_; refine k_seq ?_; refine k_seq ?_; refine k_region ?_; refine j_assignL (fun _ => ?_); refine l_nil ?_; refine k_block ?_)
     all_goals
      have hlen : L1.length = L2.length := by omega
      refine k_loopC [4, 5, 28, 29, 30, 31, 32, 33, 34, 35, 36, 37, 38, 39, 40, 41, 42, 43, 44, 45, 46] (fun k => [(5, .int .i64 ((k : Nat) : Int))]) (fun k => k ≤ L1.length ∧ ∀ i, i < k → (L1.getD i NdV.zero).c = (L2.getD i NdV.zero).c) (fun k => L1.length - k) (0) (⟨Nat.zero_le _, fun i hi => absurd hi (Nat.not_lt_zero i)⟩) ?_ (fun k f hx => ?_)
      · repeat (first | exact knows_nil _ | refine knows_cons (by first | exact rfl | (conv => { lhs; whnf }; simp; done)) ?_)
      dsimp only [mkU, List.map, List.cons_append, List.nil_append]
      all_goals (refine k_seq ?_; refine k_seq ?_; refine k_region ?_; refine j_move ?_; refine j_fieldAddr ?_; refine j_load ?_; refine j_len ?_; refine j_lss ?_; refine l_nil ?_)
      all_goals
       refine k_if (fun c32 => ?_) (fun c32 => ?_)
       · try (exact absurd c32 (by decide))
         all_goals (revert c32; (first | refine cv1 ?_ | refine cv3 ?_ | refine cv5 ?_ | refine cv7 ?_ | refine cv9 ?_ | refine cvb ?_ | refine cvd ?_ | skip); intro c32)
         all_goals (refine k_skip ?_; refine k_seq ?_; refine k_block ?_; refine k_seq ?_; refine k_drawF (.one 0 [] (.one 1 [] (.one 2 [] (.one 3 [] (.one 4 [] (.one 5 [] (.one 6 [] (.one 7 [] (.one 8 [] (.one 9 [] (.one 10 [] (.one 11 [] .nil)))))))))))) ?_; refine r_fieldAddr (i := 0) ?_; refine r_load (i := 1) ?_; refine r_move (i := 2) ?_; refine r_indexAddr (i := 3) ?_; refine r_load (i := 4) ?_; refine r_fieldAddr (i := 5) ?_; refine r_load (i := 6) ?_; refine r_move (i := 7) ?_; refine r_indexAddr (i := 8) ?_; refine r_load (i := 9) ?_; ((refine r_own (i := 10) (hq := (c0 (V := .bool) (hc := fun w1 hw => refEq_c (hw.repF (L := L1) (fun f hf => .inr (.inl (memA4 (List.mem_append_left _ hf)))) h1.fit (getD_mem (k := k) (by omega))) (hw.repF (L := L2) (fun f hf => .inr (.inl (memA4 (List.mem_append_right _ hf)))) h2.fit (getD_mem (k := k) (by omega)))))) (hfire := (fun _ => .nil)) (h := fun x45 => ?_); try (refine r_fact (fun h45 => ?_)))); refine r_not (i := 11) ?_; refine r_fin ?_)
         all_goals
          refine k_if (fun c46 => ?_) (fun c46 => ?_)
          · try (exact absurd c46 (by decide))
            all_goals (revert c46; (first | refine cv1 ?_ | refine cv3 ?_ | refine cv5 ?_ | refine cv7 ?_ | refine cv9 ?_ | refine cvb ?_ | refine cvd ?_ | skip); intro c46)
            all_goals (refine k_seq ?_; refine k_region ?_; refine j_assignL (fun _ => ?_); refine l_nil ?_)
            all_goals
             refine k_rv Try.results26 (fun w hw => ?_)
             exact ⟨false, rfl, ⟨(fun h => nomatch h), fun hs => by
              have h1 := (map_c hlen).1 hs.1 k (by omega)
              rw [h45.2 (ndEq_iff.2 h1)] at c46
              cases c46⟩, hw.done⟩
          · try (exact absurd c46 (by decide))
            all_goals (revert c46; (first | refine cv2 ?_ | refine cv4 ?_ | refine cv6 ?_ | refine cv8 ?_ | refine cva ?_ | refine cvc ?_ | refine cve ?_ | skip); intro c46)
            all_goals (refine k_skip ?_; refine k_blk ?_; refine k_region ?_; refine j_move ?_; refine j_inc ?_; refine j_assignL (fun _ => ?_); refine l_nil ?_)
            all_goals
             refine k_roundC (k + 1) ?_ ?_ ?_
             · first | omega | (simp only []; omega)
             · repeat' (first | exact knows_nil _ | refine knows_cons ?_ ?_)
               all_goals (first | exact rfl | (conv => { lhs; whnf }; simp; done) | (conv => { lhs; whnf }; congr 1; omega))
             · exact ⟨by omega, fun i hi => by rcases Nat.lt_succ_iff_lt_or_eq.1 hi with h | rfl; exact hx.2 i h; exact ndEq_iff.1 (h45.1 c46)⟩
       · try (exact absurd c32 (by decide))
         all_goals (revert c32; (first | refine cv2 ?_ | refine cv4 ?_ | refine cv6 ?_ | refine cv8 ?_ | refine cva ?_ | refine cvc ?_ | refine cve ?_ | skip); intro c32)
         all_goals (refine k_exit rfl ?_; refine k_seq ?_; refine k_region ?_; refine j_assignL (fun _ => ?_); refine l_nil ?_)
         all_goals
          refine k_rv Try.results26 (fun w hw => ?_)
          exact ⟨true, rfl, ⟨fun _ => ⟨(map_c hlen).2 fun i hi => hx.2 i (by omega), by omega, by simpa using c27⟩, fun _ => rfl⟩, hw.done⟩
theorem sameT_c {L1 L2 : List NdV} {cs1 cs2 : List Int} {g1 g2 : Int} {pn1 pc1 pn2 pc2 : Option Addr} {n1 n2 c1 c2 : Nat} {w : World} (h1 : StAt w L1 cs1 pn1 pc1) (h2 : StAt w L2 cs2 pn2 pc2) (hL1 : L1.length ≤ 274877906944) (hL2 : L2.length ≤ 274877906944) (hc1 : cs1.length ≤ 274877906944) (h : SameSt L1 L2 cs1 cs2 g1 g2) :
    Calls Try.prog 26 #[.agg ⟨[.slice pn1 L1.length n1, .slice pc1 cs1.length c1, .int .i64 g1]⟩, .agg ⟨[.slice pn2 L2.length n2, .slice pc2 cs2.length c2, .int .i64 g2]⟩] w fun e w' => e = .returned (.bool true) ∧ St w [] [] w' :=
  (same_c h1 h2 hL1 hL2 hc1).mono fun e w' ⟨r, he, hr, hst⟩ => ⟨by rw [he, hr.2 h], hst⟩
theorem modN_c (v : Int) (n : Nat) (w : World) (h0 : 0 < n) (h1 : n ≤ 274877906944) : Calls Try.prog 20 #[.int .i64 v, .int .i64 ((n : Nat) : Int)] w fun e w' => e = .returned (.int .i64 (((modv v n).toNat : Nat) : Int)) ∧ St w [] [] w' := by
  have h := modv_bound (v := v) (n := (n : Int)) (by omega) (by omega)
  rw [Int.toNat_of_nonneg h.1]
  exact mod_c v n w (by rw [wrap_u64]; omega)
end Go.Proofs.Ytmogngagpphnhaa
