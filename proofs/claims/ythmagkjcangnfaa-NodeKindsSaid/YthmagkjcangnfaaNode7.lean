/- NodeKinds: the walk. -/
import Derived.Test.YthmagkjcangnfaaNode5
import Derived.Test.YthmagkjcangnfaaTape
set_option linter.unusedSimpArgs false
set_option linter.unusedVariables false
namespace Go.Proofs.Ythmagkjcangnfaa
open Go.RowKit Go.Ct

def kinds (h a g : Int) (key : ByteArray) (p : Option Addr) : List Nd := [{ Nd.zero with kind := 3 }, { Nd.zero with kind := 5, hash := h, key := key, val := 3 }, { Nd.zero with kind := 6, hash := h, prA := p, prN := 2, prC := 2 }, { Nd.zero with kind := 2, gen := 1 + g }, { Nd.zero with kind := 4, hash := h, key := key, val := 3 }, { Nd.zero with kind := 7, old := 1 + a }, { Nd.zero with kind := 8, old := 1 + a, exp := 1 + a, new := 1 + a }]
def kz (key : ByteArray) : List Pr := [(key, 1), (key ++ ⟨#[122]⟩, 2)]
def kindsY (key : ByteArray) (k : Nat) : List Pr := if k = 2 then kz key else []
theorem bl_cons (x : UInt8) : ∀ l : List UInt8, Op.bytesLess l (l ++ [x]) = true
  | [] => rfl
  | y :: l => by simp [Op.bytesLess, bl_cons x l]
theorem sless_z (key : ByteArray) : sless key (key ++ ⟨#[122]⟩) = true := by
  unfold sless
  have : (key ++ (⟨#[122]⟩ : ByteArray)).toList = key.toList ++ [122] := by simp [ByteArray.toList_eq]
  rw [this]
  exact bl_cons _ _
theorem lt7 {k : Nat} (h : k < 7) : k = 0 ∨ k = 1 ∨ k = 2 ∨ k = 3 ∨ k = 4 ∨ k = 5 ∨ k = 6 := by omega
theorem kinds_rep {h a g : Int} {key : ByteArray} {p : Option Addr} {w : World} (hcl : Cl w p (prC (kz key))) {k : Nat} (hk : k < 7) : Rep w ((kinds h a g key p).getD k Nd.zero) [] (kindsY key k) := by
  rcases lt7 hk with rfl | rfl | rfl | rfl | rfl | rfl | rfl
  all_goals first | exact ⟨rfl, rfl, Cl.nil _ _, Cl.nil _ _, by decide, by simp [kindsY]⟩ | exact ⟨rfl, rfl, Cl.nil _ _, hcl, by decide, by simp [kindsY, kz]⟩
theorem kinds_valid {h a g : Int} {key : ByteArray} {p : Option Addr} (hs : key.size ≤ 3) (ha : 0 ≤ a) (hg : 0 ≤ g) {k : Nat} (hk : k < 7) : NdValid ((kinds h a g key p).getD k Nd.zero) [] (kindsY key k) := by
  have hz : (key ++ (⟨#[122]⟩ : ByteArray)).size ≤ 4 := by rw [ByteArray.size_append]; have : (⟨#[122]⟩ : ByteArray).size = 1 := rfl; omega
  rcases lt7 hk with rfl | rfl | rfl | rfl | rfl | rfl | rfl
  · exact ⟨by simp [NdEq, Nd.own, Nd.xsOwn, Nd.ysOwn, kinds, kindsY], by simp [kinds, Nd.zero], by simp [kinds, Nd.zero], by simp [kinds, Nd.zero], .inr (.inr (.inl ⟨rfl, by simp [kinds, Nd.zero, ones0], fun i hi => absurd hi (Nat.not_lt_zero i)⟩))⟩
  · exact ⟨by simp [NdEq, Nd.own, Nd.xsOwn, Nd.ysOwn, kinds, kindsY], by simp [kinds, Nd.zero], by simp [kinds, Nd.zero], by simp [kinds, Nd.zero], .inr (.inr (.inr (.inl ⟨.inr rfl, by simp [kinds]; omega⟩)))⟩
  · refine ⟨by simp [NdEq, Nd.own, Nd.xsOwn, Nd.ysOwn, kinds, kindsY], by simp [kinds, Nd.zero], by simp [kinds, Nd.zero], by simp [kinds, Nd.zero], .inr (.inr (.inr (.inr (.inl ⟨rfl, by simp [kindsY, kz], fun i h1 hi => ?_, fun i hi => ?_⟩))))⟩
    · have : i = 1 := by simp [kindsY, kz] at hi; omega
      subst this
      exact sless_z key
    · have : i = 0 ∨ i = 1 := by simp [kindsY, kz] at hi; omega
      rcases this with rfl | rfl
      · show key.size ≤ 64; omega
      · show (key ++ (⟨#[122]⟩ : ByteArray)).size ≤ 64; omega
  · exact ⟨by simp [NdEq, Nd.own, Nd.xsOwn, Nd.ysOwn, kinds, kindsY], by simp [kinds, Nd.zero], by simp [kinds, Nd.zero], by simp [kinds, Nd.zero], .inr (.inl ⟨rfl, by simp [kinds]; omega⟩)⟩
  · exact ⟨by simp [NdEq, Nd.own, Nd.xsOwn, Nd.ysOwn, kinds, kindsY], by simp [kinds, Nd.zero], by simp [kinds, Nd.zero], by simp [kinds, Nd.zero], .inr (.inr (.inr (.inl ⟨.inl rfl, by simp [kinds]; omega⟩)))⟩
  · exact ⟨by simp [NdEq, Nd.own, Nd.xsOwn, Nd.ysOwn, kinds, kindsY], by simp [kinds, Nd.zero], by simp [kinds, Nd.zero], by simp [kinds, Nd.zero], .inr (.inr (.inr (.inr (.inr (.inr ⟨rfl, by simp [kinds]; omega⟩)))))⟩
  · exact ⟨by simp [NdEq, Nd.own, Nd.xsOwn, Nd.ysOwn, kinds, kindsY], by simp [kinds, Nd.zero], by simp [kinds, Nd.zero], by simp [kinds, Nd.zero], .inr (.inr (.inr (.inr (.inr (.inl ⟨rfl, by simp [kinds]; omega⟩)))))⟩
theorem kinds_main {h a g : Int} {key : ByteArray} {p : Option Addr} {k : Nat} (hk : k < 7) : (((kinds h a g key p).getD k Nd.zero).kind = 3 ∨ ((kinds h a g key p).getD k Nd.zero).kind = 5 ∨ ((kinds h a g key p).getD k Nd.zero).kind = 6) ↔ k < 3 := by
  rcases lt7 hk with rfl | rfl | rfl | rfl | rfl | rfl | rfl <;> simp [kinds]
theorem noInner0 : ¬ NdValid ({ Nd.zero with kind := 2, gen := 0 } : Nd) [] [] := by
  rintro ⟨_, _, _, _, h⟩
  simp at h
theorem noFailed0 : ¬ NdValid ({ Nd.zero with kind := 7, old := 0 } : Nd) [] [] := by
  rintro ⟨_, _, _, _, h⟩
  simp at h
theorem noZero : ¬ NdValid Nd.zero [] [] := by
  rintro ⟨_, _, _, _, h⟩
  simp [Nd.zero] at h
theorem nodeKinds_c {g h a : Int} {l : List Int} {p : Option Addr} {cap : Nat} {w : World} (hg : 0 ≤ g ∧ g ≤ 255) (ha : 0 ≤ a ∧ a ≤ 255) (hl : Cl w p (refsC l)) (hlen : l.length ≤ 17592186043904) :
    Calls Try.prog 6 #[.int .u8 g, .int .u64 h, .slice p l.length cap, .int .u8 a] w fun e w' => e = .returned (.bool true) ∧ St w [] [] w' := by
  refine enter Try.func6 Try.ntmps6 rfl rfl (SF.s1 hl) ?_
  simp only [mkS]
  all_goals (refine k_seq ?_)
  all_goals refine k_region ?_
  all_goals refine j_assignL (fun _ => ?_)
  all_goals refine l_nil ?_
  all_goals (refine k_seq ?_)
  all_goals refine k_region ?_
  all_goals refine j_move ?_
  all_goals (refine j_own (cFH (Fc := fun _ => []) (Oc := fun _ => []) (hc := fun w1 hw => new_c)) (fun x16 => ?_); try (refine l_fact (fun h16 => ?_)))
  all_goals refine j_assignL (fun _ => ?_)
  all_goals refine l_nil ?_
  all_goals (refine k_seq ?_)
  all_goals refine k_region ?_
  all_goals refine j_move ?_
  all_goals (refine j_own (cF1 (hc := fun w1 hw => key_c (hw.tape (by repeat (first | exact At.head | apply At.tail)) (by first | exact .new .head | exact .new (.tail .head) | exact .new (.tail (.tail .head)) | exact .new (.tail (.tail (.tail .head))) | exact .new (.tail (.tail (.tail (.tail .head)))) | exact .new (.tail (.tail (.tail (.tail (.tail .head))))) | exact .new (.tail (.tail (.tail (.tail (.tail (.tail .head)))))) | exact .new (.tail (.tail (.tail (.tail (.tail (.tail (.tail .head))))))) | exact .new (.tail (.tail (.tail (.tail (.tail (.tail (.tail (.tail .head)))))))) | exact .new (.tail (.tail (.tail (.tail (.tail (.tail (.tail (.tail (.tail .head))))))))) | exact .old .head | exact .old (.tail .head) | exact .old (.tail (.tail .head)) | exact .old (.tail (.tail (.tail .head))) | exact .old (.tail (.tail (.tail (.tail .head)))) | exact .old (.tail (.tail (.tail (.tail (.tail .head))))) | exact .own .head | exact .own (.tail .head) | exact .own (.tail (.tail .head)) | exact .own (.tail (.tail (.tail .head))) | exact .own (.tail (.tail (.tail (.tail .head)))) | exact .own (.tail (.tail (.tail (.tail (.tail .head))))) | exact .own (.tail (.tail (.tail (.tail (.tail (.tail .head)))))) | exact .own (.tail (.tail (.tail (.tail (.tail (.tail (.tail .head)))))))) hlen))) (fun x18 => ?_); try (refine l_fact (fun h18 => ?_)))
  all_goals refine j_move ?_
  all_goals refine j_convert ?_
  all_goals refine j_add ?_
  all_goals refine j_assignL (fun _ => ?_)
  all_goals refine j_assignL (fun _ => ?_)
  all_goals refine l_nil ?_
  all_goals (refine k_seq ?_)
  all_goals refine k_region ?_
  all_goals refine j_move ?_
  all_goals refine j_build ?_
  all_goals refine j_move ?_
  all_goals refine l_quiet (o_catStr (by exact rfl) (by exact rfl) (by have := keys8_size x18; have h1 : (⟨#[122]⟩ : ByteArray).size = 1 := rfl; omega)) rfl ?_
  all_goals refine j_build ?_
  all_goals refine j_buildSlice (fun x27 => ?_)
  all_goals refine j_assignL (fun _ => ?_)
  all_goals refine l_nil ?_
  all_goals (refine k_seq ?_)
  all_goals (refine k_seq ?_)
  all_goals refine k_region ?_
  all_goals (refine j_own (cV (hc := fun w1 hw => empty_c w1)) (fun x28 => ?_); try (refine l_fact (fun h28 => ?_)))
  all_goals refine j_move ?_
  all_goals refine j_move ?_
  all_goals (refine j_own (cV (hc := fun w1 hw => tomb_c h (keys8.getD x18 ⟨#[]⟩) 3 w1)) (fun x31 => ?_); try (refine l_fact (fun h31 => ?_)))
  all_goals refine j_move ?_
  all_goals refine j_move ?_
  all_goals (refine j_own (cF (hc := fun w1 hw => list_c (h := h) (l := kz (keys8.getD x18 ⟨#[]⟩)) (hw.cl (by first | exact .new .head | exact .new (.tail .head) | exact .new (.tail (.tail .head)) | exact .new (.tail (.tail (.tail .head))) | exact .new (.tail (.tail (.tail (.tail .head)))) | exact .new (.tail (.tail (.tail (.tail (.tail .head))))) | exact .new (.tail (.tail (.tail (.tail (.tail (.tail .head)))))) | exact .new (.tail (.tail (.tail (.tail (.tail (.tail (.tail .head))))))) | exact .new (.tail (.tail (.tail (.tail (.tail (.tail (.tail (.tail .head)))))))) | exact .new (.tail (.tail (.tail (.tail (.tail (.tail (.tail (.tail (.tail .head))))))))) | exact .old .head | exact .old (.tail .head) | exact .old (.tail (.tail .head)) | exact .old (.tail (.tail (.tail .head))) | exact .old (.tail (.tail (.tail (.tail .head)))) | exact .old (.tail (.tail (.tail (.tail (.tail .head))))) | exact .own .head | exact .own (.tail .head) | exact .own (.tail (.tail .head)) | exact .own (.tail (.tail (.tail .head))) | exact .own (.tail (.tail (.tail (.tail .head)))) | exact .own (.tail (.tail (.tail (.tail (.tail .head))))) | exact .own (.tail (.tail (.tail (.tail (.tail (.tail .head)))))) | exact .own (.tail (.tail (.tail (.tail (.tail (.tail (.tail .head))))))))) (by simp [kz]))) (fun x34 => ?_); try (refine l_fact (fun h34 => ?_)))
  all_goals refine j_move ?_
  all_goals refine j_convert ?_
  all_goals refine j_add ?_
  all_goals (refine j_own (by first | exact cV (hc := fun w1 hw => inner_c (1 + g) w1) | exact cV (hc := fun w1 hw => inner_c 0 w1)) (fun x38 => ?_); try (refine l_fact (fun h38 => ?_)))
  all_goals refine j_move ?_
  all_goals refine j_move ?_
  all_goals (refine j_own (cV (hc := fun w1 hw => single_c h (keys8.getD x18 ⟨#[]⟩) 3 w1)) (fun x41 => ?_); try (refine l_fact (fun h41 => ?_)))
  all_goals refine j_move ?_
  all_goals (refine j_own (by first | exact cV (hc := fun w1 hw => failed_c (1 + a) w1) | exact cV (hc := fun w1 hw => failed_c 0 w1)) (fun x43 => ?_); try (refine l_fact (fun h43 => ?_)))
  all_goals refine j_move ?_
  all_goals refine j_move ?_
  all_goals refine j_move ?_
  all_goals (refine j_own (cV (hc := fun w1 hw => desc_c (1 + a) (1 + a) (1 + a) w1)) (fun x47 => ?_); try (refine l_fact (fun h47 => ?_)))
  all_goals refine j_buildSlice (fun x48 => ?_)
  all_goals refine j_len ?_
  all_goals refine j_move ?_
  all_goals refine l_nil ?_
  all_goals (refine k_block ?_)
  all_goals
    refine k_loopC [8, 13, 14, 50, 51, 52, 53, 54, 55, 56, 57, 58, 59, 60, 61, 62, 63, 64, 65] (fun k => [(50, .int .i64 ((k : Nat) : Int))]) (fun k => k ≤ 7) (fun k => 7 - k) (0) (by decide) ?_ (fun k f hx => ?_)
    · repeat (first | exact knows_nil _ | refine knows_cons (by first | exact rfl | (conv => { lhs; whnf }; simp; done)) ?_)
    dsimp only [mkU, List.map, List.cons_append, List.nil_append]
    all_goals (refine k_seq ?_)
    all_goals refine k_region ?_
    all_goals refine j_lss ?_
    all_goals refine l_nil ?_
    all_goals (refine k_seq ?_)
    all_goals
      refine k_cond (by exact rfl) (fun c51 => ?_) (fun c51 => ?_)
      · try (exact absurd c51 (by decide))
        all_goals (first | replace c51 := of_decide_eq_true c51 | replace c51 := sbeq_t c51 | replace c51 := sbne_t c51 | replace c51 := ibeq_t c51 | replace c51 := ibne_t c51 | replace c51 := ndec_t c51 | replace c51 := not_t c51 | skip)
        all_goals (refine k_skip ?_)
        all_goals (refine k_seq ?_)
        all_goals (refine k_block ?_)
        all_goals (refine k_seq ?_)
        all_goals refine k_region ?_
        all_goals refine j_move ?_
        all_goals refine l_quiet (o_indexN (lst := kinds h a g (keys8.getD x18 ⟨#[]⟩) x34) (by exact rfl) (by exact rfl) (by exact sl_of rfl) (by exact agg_of rfl) (by first | exact .new .head | exact .new (.tail .head) | exact .new (.tail (.tail .head)) | exact .new (.tail (.tail (.tail .head))) | exact .new (.tail (.tail (.tail (.tail .head)))) | exact .new (.tail (.tail (.tail (.tail (.tail .head))))) | exact .new (.tail (.tail (.tail (.tail (.tail (.tail .head)))))) | exact .new (.tail (.tail (.tail (.tail (.tail (.tail (.tail .head))))))) | exact .new (.tail (.tail (.tail (.tail (.tail (.tail (.tail (.tail .head)))))))) | exact .new (.tail (.tail (.tail (.tail (.tail (.tail (.tail (.tail (.tail .head))))))))) | exact .old .head | exact .old (.tail .head) | exact .old (.tail (.tail .head)) | exact .old (.tail (.tail (.tail .head))) | exact .old (.tail (.tail (.tail (.tail .head)))) | exact .old (.tail (.tail (.tail (.tail (.tail .head))))) | exact .own .head | exact .own (.tail .head) | exact .own (.tail (.tail .head)) | exact .own (.tail (.tail (.tail .head))) | exact .own (.tail (.tail (.tail (.tail .head)))) | exact .own (.tail (.tail (.tail (.tail (.tail .head))))) | exact .own (.tail (.tail (.tail (.tail (.tail (.tail .head)))))) | exact .own (.tail (.tail (.tail (.tail (.tail (.tail (.tail .head)))))))) (by omega) (by simp only [kinds, List.length_cons, List.length_nil]; omega)) rfl ?_
        all_goals refine l_quiet (by first | exact o_loadN (lst := kinds h a g (keys8.getD x18 ⟨#[]⟩) x34) (by exact rfl) (by exact agg_of rfl) (by first | exact .new .head | exact .new (.tail .head) | exact .new (.tail (.tail .head)) | exact .new (.tail (.tail (.tail .head))) | exact .new (.tail (.tail (.tail (.tail .head)))) | exact .new (.tail (.tail (.tail (.tail (.tail .head))))) | exact .new (.tail (.tail (.tail (.tail (.tail (.tail .head)))))) | exact .new (.tail (.tail (.tail (.tail (.tail (.tail (.tail .head))))))) | exact .new (.tail (.tail (.tail (.tail (.tail (.tail (.tail (.tail .head)))))))) | exact .new (.tail (.tail (.tail (.tail (.tail (.tail (.tail (.tail (.tail .head))))))))) | exact .old .head | exact .old (.tail .head) | exact .old (.tail (.tail .head)) | exact .old (.tail (.tail (.tail .head))) | exact .old (.tail (.tail (.tail (.tail .head)))) | exact .old (.tail (.tail (.tail (.tail (.tail .head))))) | exact .own .head | exact .own (.tail .head) | exact .own (.tail (.tail .head)) | exact .own (.tail (.tail (.tail .head))) | exact .own (.tail (.tail (.tail (.tail .head)))) | exact .own (.tail (.tail (.tail (.tail (.tail .head))))) | exact .own (.tail (.tail (.tail (.tail (.tail (.tail .head)))))) | exact .own (.tail (.tail (.tail (.tail (.tail (.tail (.tail .head)))))))) (by simp only [kinds, List.length_cons, List.length_nil]; omega) | exact qSF (o_loadAgg (by exact rfl) (by repeat (first | exact At.head | apply At.tail)) (by exact agg_of rfl))) rfl ?_
        all_goals refine j_alloc (fun x14 => ?_)
        all_goals refine j_assignL (fun _ => ?_)
        all_goals refine j_store (fun _ => ?_)
        all_goals refine l_nil ?_
        all_goals (refine k_seq ?_)
        all_goals refine k_region ?_
        all_goals refine l_quiet (by first | exact o_loadN (lst := kinds h a g (keys8.getD x18 ⟨#[]⟩) x34) (by exact rfl) (by exact agg_of rfl) (by first | exact .new .head | exact .new (.tail .head) | exact .new (.tail (.tail .head)) | exact .new (.tail (.tail (.tail .head))) | exact .new (.tail (.tail (.tail (.tail .head)))) | exact .new (.tail (.tail (.tail (.tail (.tail .head))))) | exact .new (.tail (.tail (.tail (.tail (.tail (.tail .head)))))) | exact .new (.tail (.tail (.tail (.tail (.tail (.tail (.tail .head))))))) | exact .new (.tail (.tail (.tail (.tail (.tail (.tail (.tail (.tail .head)))))))) | exact .new (.tail (.tail (.tail (.tail (.tail (.tail (.tail (.tail (.tail .head))))))))) | exact .old .head | exact .old (.tail .head) | exact .old (.tail (.tail .head)) | exact .old (.tail (.tail (.tail .head))) | exact .old (.tail (.tail (.tail (.tail .head)))) | exact .old (.tail (.tail (.tail (.tail (.tail .head))))) | exact .own .head | exact .own (.tail .head) | exact .own (.tail (.tail .head)) | exact .own (.tail (.tail (.tail .head))) | exact .own (.tail (.tail (.tail (.tail .head)))) | exact .own (.tail (.tail (.tail (.tail (.tail .head))))) | exact .own (.tail (.tail (.tail (.tail (.tail (.tail .head)))))) | exact .own (.tail (.tail (.tail (.tail (.tail (.tail (.tail .head)))))))) (by simp only [kinds, List.length_cons, List.length_nil]; omega) | exact qSF (o_loadAgg (by exact rfl) (by repeat (first | exact At.head | apply At.tail)) (by exact agg_of rfl))) rfl ?_
        all_goals (refine j_own (by first | exact c0 (V := .bool) (hc := fun w1 hw => ndValid_c (n := (kinds h a g (keys8.getD x18 ⟨#[]⟩) x34).getD k Nd.zero) (kinds_rep (hw.cl (by first | exact .new .head | exact .new (.tail .head) | exact .new (.tail (.tail .head)) | exact .new (.tail (.tail (.tail .head))) | exact .new (.tail (.tail (.tail (.tail .head)))) | exact .new (.tail (.tail (.tail (.tail (.tail .head))))) | exact .new (.tail (.tail (.tail (.tail (.tail (.tail .head)))))) | exact .new (.tail (.tail (.tail (.tail (.tail (.tail (.tail .head))))))) | exact .new (.tail (.tail (.tail (.tail (.tail (.tail (.tail (.tail .head)))))))) | exact .new (.tail (.tail (.tail (.tail (.tail (.tail (.tail (.tail (.tail .head))))))))) | exact .old .head | exact .old (.tail .head) | exact .old (.tail (.tail .head)) | exact .old (.tail (.tail (.tail .head))) | exact .old (.tail (.tail (.tail (.tail .head)))) | exact .old (.tail (.tail (.tail (.tail (.tail .head))))) | exact .own .head | exact .own (.tail .head) | exact .own (.tail (.tail .head)) | exact .own (.tail (.tail (.tail .head))) | exact .own (.tail (.tail (.tail (.tail .head)))) | exact .own (.tail (.tail (.tail (.tail (.tail .head))))) | exact .own (.tail (.tail (.tail (.tail (.tail (.tail .head)))))) | exact .own (.tail (.tail (.tail (.tail (.tail (.tail (.tail .head))))))))) (by omega))) | exact c0 (V := .bool) (hc := fun w1 hw => ndValid_c (n := { Nd.zero with kind := 2, gen := 0 }) (rep0 rfl rfl)) | exact c0 (V := .bool) (hc := fun w1 hw => ndValid_c (n := { Nd.zero with kind := 7, old := 0 }) (rep0 rfl rfl)) | exact c0 (V := .bool) (hc := fun w1 hw => ndValid_c (n := Nd.zero) (rep0 rfl rfl))) (fun x56 => ?_); try (refine l_fact (fun h56 => ?_)))
        all_goals refine j_not ?_
        all_goals refine j_move ?_
        all_goals (first | refine j_un ?_ | (refine j_yes ?_; refine l_quiet (by first | exact o_loadN (lst := kinds h a g (keys8.getD x18 ⟨#[]⟩) x34) (by exact rfl) (by exact agg_of rfl) (by first | exact .new .head | exact .new (.tail .head) | exact .new (.tail (.tail .head)) | exact .new (.tail (.tail (.tail .head))) | exact .new (.tail (.tail (.tail (.tail .head)))) | exact .new (.tail (.tail (.tail (.tail (.tail .head))))) | exact .new (.tail (.tail (.tail (.tail (.tail (.tail .head)))))) | exact .new (.tail (.tail (.tail (.tail (.tail (.tail (.tail .head))))))) | exact .new (.tail (.tail (.tail (.tail (.tail (.tail (.tail (.tail .head)))))))) | exact .new (.tail (.tail (.tail (.tail (.tail (.tail (.tail (.tail (.tail .head))))))))) | exact .old .head | exact .old (.tail .head) | exact .old (.tail (.tail .head)) | exact .old (.tail (.tail (.tail .head))) | exact .old (.tail (.tail (.tail (.tail .head)))) | exact .old (.tail (.tail (.tail (.tail (.tail .head))))) | exact .own .head | exact .own (.tail .head) | exact .own (.tail (.tail .head)) | exact .own (.tail (.tail (.tail .head))) | exact .own (.tail (.tail (.tail (.tail .head)))) | exact .own (.tail (.tail (.tail (.tail (.tail .head))))) | exact .own (.tail (.tail (.tail (.tail (.tail (.tail .head)))))) | exact .own (.tail (.tail (.tail (.tail (.tail (.tail (.tail .head)))))))) (by simp only [kinds, List.length_cons, List.length_nil]; omega) | exact qSF (o_loadAgg (by exact rfl) (by repeat (first | exact At.head | apply At.tail)) (by exact agg_of rfl))) rfl ?_) | (refine l_case (g := 58) (by exact rfl) (fun g58 => ?_) (fun g58 => ?_) <;> (first | replace g58 := of_decide_eq_true g58 | replace g58 := of_decide_eq_false g58 | skip) <;> (first | refine j_un ?_ | (refine j_yes ?_; refine l_quiet (by first | exact o_loadN (lst := kinds h a g (keys8.getD x18 ⟨#[]⟩) x34) (by exact rfl) (by exact agg_of rfl) (by first | exact .new .head | exact .new (.tail .head) | exact .new (.tail (.tail .head)) | exact .new (.tail (.tail (.tail .head))) | exact .new (.tail (.tail (.tail (.tail .head)))) | exact .new (.tail (.tail (.tail (.tail (.tail .head))))) | exact .new (.tail (.tail (.tail (.tail (.tail (.tail .head)))))) | exact .new (.tail (.tail (.tail (.tail (.tail (.tail (.tail .head))))))) | exact .new (.tail (.tail (.tail (.tail (.tail (.tail (.tail (.tail .head)))))))) | exact .new (.tail (.tail (.tail (.tail (.tail (.tail (.tail (.tail (.tail .head))))))))) | exact .old .head | exact .old (.tail .head) | exact .old (.tail (.tail .head)) | exact .old (.tail (.tail (.tail .head))) | exact .old (.tail (.tail (.tail (.tail .head)))) | exact .old (.tail (.tail (.tail (.tail (.tail .head))))) | exact .own .head | exact .own (.tail .head) | exact .own (.tail (.tail .head)) | exact .own (.tail (.tail (.tail .head))) | exact .own (.tail (.tail (.tail (.tail .head)))) | exact .own (.tail (.tail (.tail (.tail (.tail .head))))) | exact .own (.tail (.tail (.tail (.tail (.tail (.tail .head)))))) | exact .own (.tail (.tail (.tail (.tail (.tail (.tail (.tail .head)))))))) (by simp only [kinds, List.length_cons, List.length_nil]; omega) | exact qSF (o_loadAgg (by exact rfl) (by repeat (first | exact At.head | apply At.tail)) (by exact agg_of rfl))) rfl ?_))))
        all_goals (first | refine j_un ?_ | (refine j_yes ?_; (refine j_own (c0 (V := .bool) (hc := fun w1 hw => main_c ((kinds h a g (keys8.getD x18 ⟨#[]⟩) x34).getD k Nd.zero) w1)) (fun x60 => ?_); try (refine l_fact (fun h60 => ?_)))) | (refine l_case (g := 58) (by exact rfl) (fun g58 => ?_) (fun g58 => ?_) <;> (first | replace g58 := of_decide_eq_true g58 | replace g58 := of_decide_eq_false g58 | skip) <;> (first | refine j_un ?_ | (refine j_yes ?_; (refine j_own (c0 (V := .bool) (hc := fun w1 hw => main_c ((kinds h a g (keys8.getD x18 ⟨#[]⟩) x34).getD k Nd.zero) w1)) (fun x60 => ?_); try (refine l_fact (fun h60 => ?_)))))))
        all_goals (first | refine j_un ?_ | (refine j_yes ?_; refine j_move ?_) | (refine l_case (g := 58) (by exact rfl) (fun g58 => ?_) (fun g58 => ?_) <;> (first | replace g58 := of_decide_eq_true g58 | replace g58 := of_decide_eq_false g58 | skip) <;> (first | refine j_un ?_ | (refine j_yes ?_; refine j_move ?_))))
        all_goals (first | refine j_un ?_ | (refine j_yes ?_; refine j_lss ?_) | (refine l_case (g := 58) (by exact rfl) (fun g58 => ?_) (fun g58 => ?_) <;> (first | replace g58 := of_decide_eq_true g58 | replace g58 := of_decide_eq_false g58 | skip) <;> (first | refine j_un ?_ | (refine j_yes ?_; refine j_lss ?_))))
        all_goals (first | refine j_un ?_ | (refine j_yes ?_; refine j_neqB ?_) | (refine l_case (g := 58) (by exact rfl) (fun g58 => ?_) (fun g58 => ?_) <;> (first | replace g58 := of_decide_eq_true g58 | replace g58 := of_decide_eq_false g58 | skip) <;> (first | refine j_un ?_ | (refine j_yes ?_; refine j_neqB ?_))))
        all_goals refine j_pick ?_
        all_goals refine l_nil ?_
        all_goals
          refine k_cond (by exact rfl) (fun c64 => ?_) (fun c64 => ?_)
          · try (exact absurd c64 (by decide))
            all_goals (first | replace c64 := of_decide_eq_true c64 | replace c64 := sbeq_t c64 | replace c64 := sbne_t c64 | replace c64 := ibeq_t c64 | replace c64 := ibne_t c64 | replace c64 := ndec_t c64 | replace c64 := not_t c64 | skip)
            all_goals (refine k_seq ?_)
            all_goals refine k_region ?_
            all_goals refine j_assignL (fun _ => ?_)
            all_goals refine l_nil ?_
            all_goals
              refine k_retvF Try.results6 (.tmp (by conv => { lhs; whnf }) .nil) (fun w hw => ?_)
              exfalso
              have hv := h56.2 (kinds_valid (keys8_size x18) ha.1 hg.1 (by omega))
              have hm := kinds_main (h := h) (a := a) (g := g) (key := keys8.getD x18 ⟨#[]⟩) (p := x34) (k := k) (by omega)
              first | (clear hm hw; simp_all; done) | (rw [hm] at h60; clear hm hw h56; cases x60 <;> simp_all <;> omega)
          · try (exact absurd c64 (by decide))
            all_goals (first | replace c64 := of_decide_eq_false c64 | replace c64 := sbeq_f c64 | replace c64 := sbne_f c64 | replace c64 := ibeq_f c64 | replace c64 := ibne_f c64 | replace c64 := ndec_f c64 | replace c64 := not_f c64 | skip)
            all_goals (refine k_skip ?_)
            all_goals (refine k_blk ?_)
            all_goals refine k_region ?_
            all_goals refine j_inc ?_
            all_goals refine j_move ?_
            all_goals refine l_nil ?_
            all_goals
              refine k_roundC (k + 1) ?_ ?_ ?_
              · first | omega | (simp only []; omega)
              · repeat' (first | exact knows_nil _ | refine knows_cons ?_ ?_)
                all_goals (first | exact rfl | (conv => { lhs; whnf }; simp; done) | (conv => { lhs; whnf }; congr 1; omega))
              · omega
      · try (exact absurd c51 (by decide))
        all_goals (first | replace c51 := of_decide_eq_false c51 | replace c51 := sbeq_f c51 | replace c51 := sbne_f c51 | replace c51 := ibeq_f c51 | replace c51 := ibne_f c51 | replace c51 := ndec_f c51 | replace c51 := not_f c51 | skip)
        all_goals (refine k_exit rfl ?_)
        all_goals (refine k_seq ?_)
        all_goals refine k_region ?_
        all_goals (refine j_own (cV (hc := fun w1 hw => awake_c w1)) (fun x66 => ?_); try (refine l_fact (fun h66 => ?_)))
        all_goals refine j_move ?_
        all_goals (first | refine j_un ?_ | (refine j_yes ?_; (refine j_own (by first | exact cV (hc := fun w1 hw => inner_c (1 + g) w1) | exact cV (hc := fun w1 hw => inner_c 0 w1)) (fun x68 => ?_); try (refine l_fact (fun h68 => ?_)))) | (refine l_case (g := 67) (by exact rfl) (fun g67 => ?_) (fun g67 => ?_) <;> (first | replace g67 := of_decide_eq_true g67 | replace g67 := of_decide_eq_false g67 | skip) <;> (first | refine j_un ?_ | (refine j_yes ?_; (refine j_own (by first | exact cV (hc := fun w1 hw => inner_c (1 + g) w1) | exact cV (hc := fun w1 hw => inner_c 0 w1)) (fun x68 => ?_); try (refine l_fact (fun h68 => ?_)))))))
        all_goals (first | refine j_un ?_ | (refine j_yes ?_; (refine j_own (by first | exact c0 (V := .bool) (hc := fun w1 hw => ndValid_c (n := (kinds h a g (keys8.getD x18 ⟨#[]⟩) x34).getD k Nd.zero) (kinds_rep (hw.cl (by first | exact .new .head | exact .new (.tail .head) | exact .new (.tail (.tail .head)) | exact .new (.tail (.tail (.tail .head))) | exact .new (.tail (.tail (.tail (.tail .head)))) | exact .new (.tail (.tail (.tail (.tail (.tail .head))))) | exact .new (.tail (.tail (.tail (.tail (.tail (.tail .head)))))) | exact .new (.tail (.tail (.tail (.tail (.tail (.tail (.tail .head))))))) | exact .new (.tail (.tail (.tail (.tail (.tail (.tail (.tail (.tail .head)))))))) | exact .new (.tail (.tail (.tail (.tail (.tail (.tail (.tail (.tail (.tail .head))))))))) | exact .old .head | exact .old (.tail .head) | exact .old (.tail (.tail .head)) | exact .old (.tail (.tail (.tail .head))) | exact .old (.tail (.tail (.tail (.tail .head)))) | exact .old (.tail (.tail (.tail (.tail (.tail .head))))) | exact .own .head | exact .own (.tail .head) | exact .own (.tail (.tail .head)) | exact .own (.tail (.tail (.tail .head))) | exact .own (.tail (.tail (.tail (.tail .head)))) | exact .own (.tail (.tail (.tail (.tail (.tail .head))))) | exact .own (.tail (.tail (.tail (.tail (.tail (.tail .head)))))) | exact .own (.tail (.tail (.tail (.tail (.tail (.tail (.tail .head))))))))) (by omega))) | exact c0 (V := .bool) (hc := fun w1 hw => ndValid_c (n := { Nd.zero with kind := 2, gen := 0 }) (rep0 rfl rfl)) | exact c0 (V := .bool) (hc := fun w1 hw => ndValid_c (n := { Nd.zero with kind := 7, old := 0 }) (rep0 rfl rfl)) | exact c0 (V := .bool) (hc := fun w1 hw => ndValid_c (n := Nd.zero) (rep0 rfl rfl))) (fun x69 => ?_); try (refine l_fact (fun h69 => ?_)))) | (refine l_case (g := 67) (by exact rfl) (fun g67 => ?_) (fun g67 => ?_) <;> (first | replace g67 := of_decide_eq_true g67 | replace g67 := of_decide_eq_false g67 | skip) <;> (first | refine j_un ?_ | (refine j_yes ?_; (refine j_own (by first | exact c0 (V := .bool) (hc := fun w1 hw => ndValid_c (n := (kinds h a g (keys8.getD x18 ⟨#[]⟩) x34).getD k Nd.zero) (kinds_rep (hw.cl (by first | exact .new .head | exact .new (.tail .head) | exact .new (.tail (.tail .head)) | exact .new (.tail (.tail (.tail .head))) | exact .new (.tail (.tail (.tail (.tail .head)))) | exact .new (.tail (.tail (.tail (.tail (.tail .head))))) | exact .new (.tail (.tail (.tail (.tail (.tail (.tail .head)))))) | exact .new (.tail (.tail (.tail (.tail (.tail (.tail (.tail .head))))))) | exact .new (.tail (.tail (.tail (.tail (.tail (.tail (.tail (.tail .head)))))))) | exact .new (.tail (.tail (.tail (.tail (.tail (.tail (.tail (.tail (.tail .head))))))))) | exact .old .head | exact .old (.tail .head) | exact .old (.tail (.tail .head)) | exact .old (.tail (.tail (.tail .head))) | exact .old (.tail (.tail (.tail (.tail .head)))) | exact .old (.tail (.tail (.tail (.tail (.tail .head))))) | exact .own .head | exact .own (.tail .head) | exact .own (.tail (.tail .head)) | exact .own (.tail (.tail (.tail .head))) | exact .own (.tail (.tail (.tail (.tail .head)))) | exact .own (.tail (.tail (.tail (.tail (.tail .head))))) | exact .own (.tail (.tail (.tail (.tail (.tail (.tail .head)))))) | exact .own (.tail (.tail (.tail (.tail (.tail (.tail (.tail .head))))))))) (by omega))) | exact c0 (V := .bool) (hc := fun w1 hw => ndValid_c (n := { Nd.zero with kind := 2, gen := 0 }) (rep0 rfl rfl)) | exact c0 (V := .bool) (hc := fun w1 hw => ndValid_c (n := { Nd.zero with kind := 7, old := 0 }) (rep0 rfl rfl)) | exact c0 (V := .bool) (hc := fun w1 hw => ndValid_c (n := Nd.zero) (rep0 rfl rfl))) (fun x69 => ?_); try (refine l_fact (fun h69 => ?_)))))))
        all_goals (first | refine j_un ?_ | (refine j_yes ?_; refine j_not ?_) | (refine l_case (g := 67) (by exact rfl) (fun g67 => ?_) (fun g67 => ?_) <;> (first | replace g67 := of_decide_eq_true g67 | replace g67 := of_decide_eq_false g67 | skip) <;> (first | refine j_un ?_ | (refine j_yes ?_; refine j_not ?_))))
        all_goals refine j_pick ?_
        all_goals refine j_move ?_
        all_goals (first | refine j_un ?_ | (refine j_yes ?_; (refine j_own (by first | exact cV (hc := fun w1 hw => failed_c (1 + a) w1) | exact cV (hc := fun w1 hw => failed_c 0 w1)) (fun x73 => ?_); try (refine l_fact (fun h73 => ?_)))) | (refine l_case (g := 72) (by exact rfl) (fun g72 => ?_) (fun g72 => ?_) <;> (first | replace g72 := of_decide_eq_true g72 | replace g72 := of_decide_eq_false g72 | skip) <;> (first | refine j_un ?_ | (refine j_yes ?_; (refine j_own (by first | exact cV (hc := fun w1 hw => failed_c (1 + a) w1) | exact cV (hc := fun w1 hw => failed_c 0 w1)) (fun x73 => ?_); try (refine l_fact (fun h73 => ?_)))))))
        all_goals (first | refine j_un ?_ | (refine j_yes ?_; (refine j_own (by first | exact c0 (V := .bool) (hc := fun w1 hw => ndValid_c (n := (kinds h a g (keys8.getD x18 ⟨#[]⟩) x34).getD k Nd.zero) (kinds_rep (hw.cl (by first | exact .new .head | exact .new (.tail .head) | exact .new (.tail (.tail .head)) | exact .new (.tail (.tail (.tail .head))) | exact .new (.tail (.tail (.tail (.tail .head)))) | exact .new (.tail (.tail (.tail (.tail (.tail .head))))) | exact .new (.tail (.tail (.tail (.tail (.tail (.tail .head)))))) | exact .new (.tail (.tail (.tail (.tail (.tail (.tail (.tail .head))))))) | exact .new (.tail (.tail (.tail (.tail (.tail (.tail (.tail (.tail .head)))))))) | exact .new (.tail (.tail (.tail (.tail (.tail (.tail (.tail (.tail (.tail .head))))))))) | exact .old .head | exact .old (.tail .head) | exact .old (.tail (.tail .head)) | exact .old (.tail (.tail (.tail .head))) | exact .old (.tail (.tail (.tail (.tail .head)))) | exact .old (.tail (.tail (.tail (.tail (.tail .head))))) | exact .own .head | exact .own (.tail .head) | exact .own (.tail (.tail .head)) | exact .own (.tail (.tail (.tail .head))) | exact .own (.tail (.tail (.tail (.tail .head)))) | exact .own (.tail (.tail (.tail (.tail (.tail .head))))) | exact .own (.tail (.tail (.tail (.tail (.tail (.tail .head)))))) | exact .own (.tail (.tail (.tail (.tail (.tail (.tail (.tail .head))))))))) (by omega))) | exact c0 (V := .bool) (hc := fun w1 hw => ndValid_c (n := { Nd.zero with kind := 2, gen := 0 }) (rep0 rfl rfl)) | exact c0 (V := .bool) (hc := fun w1 hw => ndValid_c (n := { Nd.zero with kind := 7, old := 0 }) (rep0 rfl rfl)) | exact c0 (V := .bool) (hc := fun w1 hw => ndValid_c (n := Nd.zero) (rep0 rfl rfl))) (fun x74 => ?_); try (refine l_fact (fun h74 => ?_)))) | (refine l_case (g := 72) (by exact rfl) (fun g72 => ?_) (fun g72 => ?_) <;> (first | replace g72 := of_decide_eq_true g72 | replace g72 := of_decide_eq_false g72 | skip) <;> (first | refine j_un ?_ | (refine j_yes ?_; (refine j_own (by first | exact c0 (V := .bool) (hc := fun w1 hw => ndValid_c (n := (kinds h a g (keys8.getD x18 ⟨#[]⟩) x34).getD k Nd.zero) (kinds_rep (hw.cl (by first | exact .new .head | exact .new (.tail .head) | exact .new (.tail (.tail .head)) | exact .new (.tail (.tail (.tail .head))) | exact .new (.tail (.tail (.tail (.tail .head)))) | exact .new (.tail (.tail (.tail (.tail (.tail .head))))) | exact .new (.tail (.tail (.tail (.tail (.tail (.tail .head)))))) | exact .new (.tail (.tail (.tail (.tail (.tail (.tail (.tail .head))))))) | exact .new (.tail (.tail (.tail (.tail (.tail (.tail (.tail (.tail .head)))))))) | exact .new (.tail (.tail (.tail (.tail (.tail (.tail (.tail (.tail (.tail .head))))))))) | exact .old .head | exact .old (.tail .head) | exact .old (.tail (.tail .head)) | exact .old (.tail (.tail (.tail .head))) | exact .old (.tail (.tail (.tail (.tail .head)))) | exact .old (.tail (.tail (.tail (.tail (.tail .head))))) | exact .own .head | exact .own (.tail .head) | exact .own (.tail (.tail .head)) | exact .own (.tail (.tail (.tail .head))) | exact .own (.tail (.tail (.tail (.tail .head)))) | exact .own (.tail (.tail (.tail (.tail (.tail .head))))) | exact .own (.tail (.tail (.tail (.tail (.tail (.tail .head)))))) | exact .own (.tail (.tail (.tail (.tail (.tail (.tail (.tail .head))))))))) (by omega))) | exact c0 (V := .bool) (hc := fun w1 hw => ndValid_c (n := { Nd.zero with kind := 2, gen := 0 }) (rep0 rfl rfl)) | exact c0 (V := .bool) (hc := fun w1 hw => ndValid_c (n := { Nd.zero with kind := 7, old := 0 }) (rep0 rfl rfl)) | exact c0 (V := .bool) (hc := fun w1 hw => ndValid_c (n := Nd.zero) (rep0 rfl rfl))) (fun x74 => ?_); try (refine l_fact (fun h74 => ?_)))))))
        all_goals (first | refine j_un ?_ | (refine j_yes ?_; refine j_not ?_) | (refine l_case (g := 72) (by exact rfl) (fun g72 => ?_) (fun g72 => ?_) <;> (first | replace g72 := of_decide_eq_true g72 | replace g72 := of_decide_eq_false g72 | skip) <;> (first | refine j_un ?_ | (refine j_yes ?_; refine j_not ?_))))
        all_goals refine j_pick ?_
        all_goals refine j_move ?_
        all_goals (first | refine j_un ?_ | (refine j_yes ?_; refine j_build ?_) | (refine l_case (g := 77) (by exact rfl) (fun g77 => ?_) (fun g77 => ?_) <;> (first | replace g77 := of_decide_eq_true g77 | replace g77 := of_decide_eq_false g77 | skip) <;> (first | refine j_un ?_ | (refine j_yes ?_; refine j_build ?_))))
        all_goals (first | refine j_un ?_ | (refine j_yes ?_; (refine j_own (by first | exact c0 (V := .bool) (hc := fun w1 hw => ndValid_c (n := (kinds h a g (keys8.getD x18 ⟨#[]⟩) x34).getD k Nd.zero) (kinds_rep (hw.cl (by first | exact .new .head | exact .new (.tail .head) | exact .new (.tail (.tail .head)) | exact .new (.tail (.tail (.tail .head))) | exact .new (.tail (.tail (.tail (.tail .head)))) | exact .new (.tail (.tail (.tail (.tail (.tail .head))))) | exact .new (.tail (.tail (.tail (.tail (.tail (.tail .head)))))) | exact .new (.tail (.tail (.tail (.tail (.tail (.tail (.tail .head))))))) | exact .new (.tail (.tail (.tail (.tail (.tail (.tail (.tail (.tail .head)))))))) | exact .new (.tail (.tail (.tail (.tail (.tail (.tail (.tail (.tail (.tail .head))))))))) | exact .old .head | exact .old (.tail .head) | exact .old (.tail (.tail .head)) | exact .old (.tail (.tail (.tail .head))) | exact .old (.tail (.tail (.tail (.tail .head)))) | exact .old (.tail (.tail (.tail (.tail (.tail .head))))) | exact .own .head | exact .own (.tail .head) | exact .own (.tail (.tail .head)) | exact .own (.tail (.tail (.tail .head))) | exact .own (.tail (.tail (.tail (.tail .head)))) | exact .own (.tail (.tail (.tail (.tail (.tail .head))))) | exact .own (.tail (.tail (.tail (.tail (.tail (.tail .head)))))) | exact .own (.tail (.tail (.tail (.tail (.tail (.tail (.tail .head))))))))) (by omega))) | exact c0 (V := .bool) (hc := fun w1 hw => ndValid_c (n := { Nd.zero with kind := 2, gen := 0 }) (rep0 rfl rfl)) | exact c0 (V := .bool) (hc := fun w1 hw => ndValid_c (n := { Nd.zero with kind := 7, old := 0 }) (rep0 rfl rfl)) | exact c0 (V := .bool) (hc := fun w1 hw => ndValid_c (n := Nd.zero) (rep0 rfl rfl))) (fun x79 => ?_); try (refine l_fact (fun h79 => ?_)))) | (refine l_case (g := 77) (by exact rfl) (fun g77 => ?_) (fun g77 => ?_) <;> (first | replace g77 := of_decide_eq_true g77 | replace g77 := of_decide_eq_false g77 | skip) <;> (first | refine j_un ?_ | (refine j_yes ?_; (refine j_own (by first | exact c0 (V := .bool) (hc := fun w1 hw => ndValid_c (n := (kinds h a g (keys8.getD x18 ⟨#[]⟩) x34).getD k Nd.zero) (kinds_rep (hw.cl (by first | exact .new .head | exact .new (.tail .head) | exact .new (.tail (.tail .head)) | exact .new (.tail (.tail (.tail .head))) | exact .new (.tail (.tail (.tail (.tail .head)))) | exact .new (.tail (.tail (.tail (.tail (.tail .head))))) | exact .new (.tail (.tail (.tail (.tail (.tail (.tail .head)))))) | exact .new (.tail (.tail (.tail (.tail (.tail (.tail (.tail .head))))))) | exact .new (.tail (.tail (.tail (.tail (.tail (.tail (.tail (.tail .head)))))))) | exact .new (.tail (.tail (.tail (.tail (.tail (.tail (.tail (.tail (.tail .head))))))))) | exact .old .head | exact .old (.tail .head) | exact .old (.tail (.tail .head)) | exact .old (.tail (.tail (.tail .head))) | exact .old (.tail (.tail (.tail (.tail .head)))) | exact .old (.tail (.tail (.tail (.tail (.tail .head))))) | exact .own .head | exact .own (.tail .head) | exact .own (.tail (.tail .head)) | exact .own (.tail (.tail (.tail .head))) | exact .own (.tail (.tail (.tail (.tail .head)))) | exact .own (.tail (.tail (.tail (.tail (.tail .head))))) | exact .own (.tail (.tail (.tail (.tail (.tail (.tail .head)))))) | exact .own (.tail (.tail (.tail (.tail (.tail (.tail (.tail .head))))))))) (by omega))) | exact c0 (V := .bool) (hc := fun w1 hw => ndValid_c (n := { Nd.zero with kind := 2, gen := 0 }) (rep0 rfl rfl)) | exact c0 (V := .bool) (hc := fun w1 hw => ndValid_c (n := { Nd.zero with kind := 7, old := 0 }) (rep0 rfl rfl)) | exact c0 (V := .bool) (hc := fun w1 hw => ndValid_c (n := Nd.zero) (rep0 rfl rfl))) (fun x79 => ?_); try (refine l_fact (fun h79 => ?_)))))))
        all_goals (first | refine j_un ?_ | (refine j_yes ?_; refine j_not ?_) | (refine l_case (g := 77) (by exact rfl) (fun g77 => ?_) (fun g77 => ?_) <;> (first | replace g77 := of_decide_eq_true g77 | replace g77 := of_decide_eq_false g77 | skip) <;> (first | refine j_un ?_ | (refine j_yes ?_; refine j_not ?_))))
        all_goals refine j_pick ?_
        all_goals refine j_assignL (fun _ => ?_)
        all_goals refine l_nil ?_
        all_goals
          refine k_retvF Try.results6 (.tmp (by conv => { lhs; whnf }) .nil) (fun w hw => ?_)
          first | (exfalso; simp_all [noInner0, noFailed0, noZero]; done) | exact ⟨by simp_all [tupleOf, noInner0, noFailed0, noZero], hw.done⟩
end Go.Proofs.Ythmagkjcangnfaa
