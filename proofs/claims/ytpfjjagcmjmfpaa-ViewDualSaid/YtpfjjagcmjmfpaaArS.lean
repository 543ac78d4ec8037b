/- States are compared. -/
import Derived.Test.YtpfjjagcmjmfpaaAr9
import Derived.Test.YtpfjjagcmjmfpaaTape
set_option linter.unusedSimpArgs false
set_option linter.unusedVariables false
namespace Go.Ct
theorem map_c {L1 L2 : List NdV} (h : L1.length = L2.length) : L1.map NdV.c = L2.map NdV.c ↔ ∀ i, i < L1.length → (L1.getD i NdV.zero).c = (L2.getD i NdV.zero).c := by
  constructor
  · intro e i hi
    have h1 : (L1.map NdV.c)[i]? = (L2.map NdV.c)[i]? := by rw [e]
    rw [List.getElem?_map, List.getElem?_map, List.getElem?_eq_getElem hi, List.getElem?_eq_getElem (h ▸ hi)] at h1
    rw [List.getD_eq_getElem?_getD, List.getD_eq_getElem?_getD, List.getElem?_eq_getElem hi, List.getElem?_eq_getElem (h ▸ hi)]
    simpa using h1
  · intro e
    refine List.ext_getElem? fun i => ?_
    rw [List.getElem?_map, List.getElem?_map]
    by_cases hi : i < L1.length
    · have h1 := e i hi
      rw [List.getD_eq_getElem?_getD, List.getD_eq_getElem?_getD, List.getElem?_eq_getElem hi, List.getElem?_eq_getElem (h ▸ hi)] at h1
      rw [List.getElem?_eq_getElem hi, List.getElem?_eq_getElem (h ▸ hi)]
      simpa using h1
    · rw [List.getElem?_eq_none (by omega), List.getElem?_eq_none (by omega)]
def SameSt (L1 L2 : List NdV) (c1 c2 : List Int) (g1 g2 : Int) : Prop := L1.map NdV.c = L2.map NdV.c ∧ g1 = g2 ∧ c1 = c2
end Go.Ct
namespace Go.Proofs.Ytpfjjagcmjmfpaa
open Go.RowKit Go.Ct
theorem same_start {L1 L2 : List NdV} {cs1 cs2 : List Int} {pn1 pc1 pn2 pc2 : Option Addr} {w : World} (h1 : StAt w L1 cs1 pn1 pc1) (h2 : StAt w L2 cs2 pn2 pc2) :
    SF w [] [] ((pn1, nvC L1) :: (pc1, refsC cs1) :: (pn2, nvC L2) :: (pc2, refsC cs2) :: (famF L1 ++ famF L2)) [] [] w := SF.begin fun f hf => by
  rcases List.mem_cons.1 hf with rfl | hf
  · exact h1.nds
  rcases List.mem_cons.1 hf with rfl | hf
  · exact h1.cls
  rcases List.mem_cons.1 hf with rfl | hf
  · exact h2.nds
  rcases List.mem_cons.1 hf with rfl | hf
  · exact h2.cls
  rcases List.mem_append.1 hf with hf | hf
  · exact h1.fam f hf
  · exact h2.fam f hf
theorem memA4 {f1 f2 f3 f4 f : Option Addr × List Value} {F : Fr} (h : f ∈ F) : f ∈ f1 :: f2 :: f3 :: f4 :: F := List.mem_cons_of_mem _ (List.mem_cons_of_mem _ (List.mem_cons_of_mem _ (List.mem_cons_of_mem _ h)))
theorem modN_c (v : Int) (n : Nat) (w : World) (h0 : 0 < n) (h1 : n ≤ 274877906944) : Calls Try.prog 33 #[.int .i64 v, .int .i64 ((n : Nat) : Int)] w fun e w' => e = .returned (.int .i64 (((modv v n).toNat : Nat) : Int)) ∧ St w [] [] w' := by
  have h := modv_bound (v := v) (n := (n : Int)) (by omega) (by omega)
  rw [Int.toNat_of_nonneg h.1]
  exact mod_c v n w (by rw [wrap_u64]; omega)
end Go.Proofs.Ytpfjjagcmjmfpaa
