/- Views: the root of a trie, the main node of an I-node. -/
import Derived.Test.YtpfjjagcmjmfpaaVw1
import Derived.Test.YtpfjjagcmjmfpaaAr9
import Derived.Test.YtpfjjagcmjmfpaaGPa

set_option linter.unusedSimpArgs false
set_option linter.unusedVariables false
namespace Go.Ct
open Go Go.RowKit
theorem StAt.of0 {L : List NdV} {cs : List Int} {pn pc : Option Addr} {w w0 : World} {M : List Nat} {H : List (Nat × Obj)} {F : Fr} {O : List Ow} (h : StAt w0 L cs pn pc) (hw : SF w0 M H ((pn, nvC L) :: (pc, refsC cs) :: famF L) F O w) : StAt w L cs pn pc := hw.stAt (.inr (.inl (.head _))) (.inr (.inl (.tail _ (.head _)))) (fun f hf => .inr (.inl (.tail _ (.tail _ hf)))) h.fit
theorem nodeV_c' (L : List NdV) (r : Int) : ndAt (L.map NdV.c) r = (nodeV L r).c := (nodeV_c L r).symm
end Go.Ct
namespace Go.Proofs.Ytpfjjagcmjmfpaa
open Go Go.RowKit Go.Ct
section
variable {L : List NdV} {cs : List Int} {gen : Int} {pn pc : Option Addr} {cn cc : Nat} {w : World}
/-- A state as an argument. -/
abbrev stG (L : List NdV) (cs : List Int) (gen : Int) (pn : Option Addr) (cn : Nat) (pc : Option Addr) (cc : Nat) : Value := .agg ⟨[.slice pn L.length cn, .slice pc cs.length cc, .int .i64 gen]⟩
theorem vAt_no (h : StAt w L cs pn pc) (r : Int) (hr : r < 1) : Calls Try.prog 51 #[stG L cs gen pn cn pc cc, .int .i64 r] w fun e w' => e = .returned (nodeV L r).nd.v ∧ St w [] [] w' := by
  refine enter Try.func51 Try.ntmps51 rfl rfl h.start ?_
  simp only [mkS]
  all_goals (refine k_seq ?_; refine k_region ?_; refine j_box (fun x2 => ?_); refine j_alloc (fun x4 => ?_); refine l_nil ?_; refine k_seq ?_; refine k_seq ?_; refine k_region ?_; refine j_move ?_; refine j_lss ?_; refine j_move ?_)
  all_goals (first | refine j_un ?_ | (refine j_yes ?_; refine j_move ?_) | (refine l_case (g := 7) (by exact rfl) (fun g7 => ?_) (fun g7 => ?_) <;> (revert g7; (first | refine cv1 ?_ | refine cv2 ?_ | refine cvb ?_ | refine cvc ?_ | refine cv9 ?_ | refine cva ?_ | refine cv7 ?_ | refine cv8 ?_ | refine cvd ?_ | refine cve ?_ | skip); intro g7) <;> (try (exfalso; omega)) <;> (first | refine j_un ?_ | (refine j_yes ?_; refine j_move ?_))))
  all_goals ((first | refine j_un ?_ | (refine j_yes ?_; refine j_fieldAddr ?_)); (first | refine j_un ?_ | (refine j_yes ?_; refine j_load ?_)); (first | refine j_un ?_ | (refine j_yes ?_; refine j_len ?_)); (first | refine j_un ?_ | (refine j_yes ?_; refine j_gtr ?_)); refine j_pick ?_; refine l_nil ?_)
  all_goals
   refine k_if (fun c13 => ?_) (fun c13 => ?_)
   · try (exact absurd c13 (by decide))
     all_goals (revert c13; (first | refine cv1 ?_ | refine cv3 ?_ | refine cv5 ?_ | refine cv7 ?_ | refine cv9 ?_ | refine cvb ?_ | refine cvd ?_ | skip); intro c13)
     all_goals try (exfalso; omega)
     all_goals (refine k_seq ?_; refine k_region ?_; refine j_build ?_; refine j_store (fun _ => ?_); refine l_nil ?_)
     all_goals
      refine k_retvF Try.results51 (.cell (by exact rfl) (by repeat (first | exact At.head | apply At.tail)) (by exact agg_of rfl) .nil) (fun w hw => ?_)
      exact ⟨by rw [nodeV_no (by omega)]; rfl, hw.done⟩
   · try (exact absurd c13 (by decide))
     all_goals (revert c13; (first | refine cv2 ?_ | refine cv4 ?_ | refine cv6 ?_ | refine cv8 ?_ | refine cva ?_ | refine cvc ?_ | refine cve ?_ | skip); intro c13)
     all_goals try (exfalso; omega)
     all_goals (refine k_skip ?_; refine k_seq ?_; refine k_region ?_; refine j_fieldAddr ?_; refine j_load ?_; refine j_move ?_; refine j_dec ?_; refine j_indexAddr ?_; refine j_load ?_; refine j_store (fun _ => ?_); refine l_nil ?_)
     all_goals
      refine k_retvF Try.results51 (.cell (by exact rfl) (by repeat (first | exact At.head | apply At.tail)) (by exact agg_of rfl) .nil) (fun w hw => ?_)
      exact ⟨by rw [nodeV_no (by omega)]; rfl, hw.done⟩
theorem vAt_at (h : StAt w L cs pn pc) {k : Nat} (hk : (k : Int) < 9223372036854775807) (hl : L.length ≤ 274877906944) : Calls Try.prog 51 #[stG L cs gen pn cn pc cc, .int .i64 ((k + 1 : Nat) : Int)] w fun e w' => e = .returned (nodeV L ((k + 1 : Nat) : Int)).nd.v ∧ St w [] [] w' := by
  refine enter Try.func51 Try.ntmps51 rfl rfl h.start ?_
  simp only [mkS]
  all_goals (refine k_seq ?_; refine k_region ?_; refine j_box (fun x2 => ?_); refine j_alloc (fun x4 => ?_); refine l_nil ?_; refine k_seq ?_; refine k_seq ?_; refine k_region ?_; refine j_move ?_; refine j_lss ?_; refine j_move ?_)
  all_goals (first | refine j_un ?_ | (refine j_yes ?_; refine j_move ?_) | (refine l_case (g := 7) (by exact rfl) (fun g7 => ?_) (fun g7 => ?_) <;> (revert g7; (first | refine cv1 ?_ | refine cv2 ?_ | refine cvb ?_ | refine cvc ?_ | refine cv9 ?_ | refine cva ?_ | refine cv7 ?_ | refine cv8 ?_ | refine cvd ?_ | refine cve ?_ | skip); intro g7) <;> (try (exfalso; omega)) <;> (first | refine j_un ?_ | (refine j_yes ?_; refine j_move ?_))))
  all_goals ((first | refine j_un ?_ | (refine j_yes ?_; refine j_fieldAddr ?_)); (first | refine j_un ?_ | (refine j_yes ?_; refine j_load ?_)); (first | refine j_un ?_ | (refine j_yes ?_; refine j_len ?_)); (first | refine j_un ?_ | (refine j_yes ?_; refine j_gtr ?_)); refine j_pick ?_; refine l_nil ?_)
  all_goals
   refine k_if (fun c13 => ?_) (fun c13 => ?_)
   · try (exact absurd c13 (by decide))
     all_goals (revert c13; (first | refine cv1 ?_ | refine cv3 ?_ | refine cv5 ?_ | refine cv7 ?_ | refine cv9 ?_ | refine cvb ?_ | refine cvd ?_ | skip); intro c13)
     all_goals try (exfalso; omega)
     all_goals (refine k_seq ?_; refine k_region ?_; refine j_build ?_; refine j_store (fun _ => ?_); refine l_nil ?_)
     all_goals
      refine k_retvF Try.results51 (.cell (by exact rfl) (by repeat (first | exact At.head | apply At.tail)) (by exact agg_of rfl) .nil) (fun w hw => ?_)
      first | exact ⟨by rw [nodeV_no (by omega)]; rfl, hw.done⟩ | exact ⟨by rw [nodeV_at (by omega)]; rfl, hw.done⟩
   · try (exact absurd c13 (by decide))
     all_goals (revert c13; (first | refine cv2 ?_ | refine cv4 ?_ | refine cv6 ?_ | refine cv8 ?_ | refine cva ?_ | refine cvc ?_ | refine cve ?_ | skip); intro c13)
     all_goals try (exfalso; omega)
     all_goals (refine k_skip ?_; refine k_seq ?_; refine k_region ?_; refine j_fieldAddr ?_; refine j_load ?_; refine j_move ?_; refine j_dec ?_; refine j_indexAddr ?_; refine j_load ?_; refine j_store (fun _ => ?_); refine l_nil ?_)
     all_goals
      refine k_retvF Try.results51 (.cell (by exact rfl) (by repeat (first | exact At.head | apply At.tail)) (by exact agg_of rfl) .nil) (fun w hw => ?_)
      first | exact ⟨by rw [nodeV_no (by omega)]; rfl, hw.done⟩ | exact ⟨by rw [nodeV_at (by omega)]; rfl, hw.done⟩
theorem vAt_c (h : StAt w L cs pn pc) (r : Int) (hr : r ≤ 9223372036854775807) (hl : L.length ≤ 274877906944) : Calls Try.prog 51 #[stG L cs gen pn cn pc cc, .int .i64 r] w fun e w' => e = .returned (nodeV L r).nd.v ∧ St w [] [] w' := by
  rcases Int.lt_or_le r 1 with h1 | h1
  · exact vAt_no h r h1
  · obtain ⟨k, rfl⟩ : ∃ k : Nat, r = ((k + 1 : Nat) : Int) := ⟨(r - 1).toNat, by omega⟩
    exact vAt_at h (by omega) hl
theorem vCell_no (h : StAt w L cs pn pc) (r : Int) (hr : r < 1) : Calls Try.prog 66 #[stG L cs gen pn cn pc cc, .int .i64 r] w fun e w' => e = .returned (.int .i64 (cellV cs r)) ∧ St w [] [] w' := by
  refine enter Try.func66 Try.ntmps66 rfl rfl h.start ?_
  simp only [mkS]
  all_goals (refine k_seq ?_; refine k_region ?_; refine j_box (fun x2 => ?_); refine j_assignL (fun _ => ?_); refine l_nil ?_; refine k_seq ?_; refine k_seq ?_; refine k_region ?_; refine j_move ?_; refine j_lss ?_; refine j_move ?_)
  all_goals (first | refine j_un ?_ | (refine j_yes ?_; refine j_move ?_) | (refine l_case (g := 7) (by exact rfl) (fun g7 => ?_) (fun g7 => ?_) <;> (revert g7; (first | refine cv1 ?_ | refine cv2 ?_ | refine cvb ?_ | refine cvc ?_ | refine cv9 ?_ | refine cva ?_ | refine cv7 ?_ | refine cv8 ?_ | refine cvd ?_ | refine cve ?_ | skip); intro g7) <;> (try (exfalso; omega)) <;> (first | refine j_un ?_ | (refine j_yes ?_; refine j_move ?_))))
  all_goals ((first | refine j_un ?_ | (refine j_yes ?_; refine j_fieldAddr ?_)); (first | refine j_un ?_ | (refine j_yes ?_; refine j_load ?_)); (first | refine j_un ?_ | (refine j_yes ?_; refine j_len ?_)); (first | refine j_un ?_ | (refine j_yes ?_; refine j_gtr ?_)); refine j_pick ?_; refine l_nil ?_)
  all_goals
   refine k_if (fun c13 => ?_) (fun c13 => ?_)
   · try (exact absurd c13 (by decide))
     all_goals (revert c13; (first | refine cv1 ?_ | refine cv3 ?_ | refine cv5 ?_ | refine cv7 ?_ | refine cv9 ?_ | refine cvb ?_ | refine cvd ?_ | skip); intro c13)
     all_goals try (exfalso; omega)
     all_goals (refine k_seq ?_; refine k_region ?_; refine j_assignL (fun _ => ?_); refine l_nil ?_)
     all_goals
      refine k_rv Try.results66 (fun w hw => ?_)
      exact ⟨by rw [cellV_no (by omega)]; rfl, hw.done⟩
   · try (exact absurd c13 (by decide))
     all_goals (revert c13; (first | refine cv2 ?_ | refine cv4 ?_ | refine cv6 ?_ | refine cv8 ?_ | refine cva ?_ | refine cvc ?_ | refine cve ?_ | skip); intro c13)
     all_goals try (exfalso; omega)
     all_goals (refine k_skip ?_; refine k_seq ?_; refine k_region ?_; refine j_fieldAddr ?_; refine j_load ?_; refine j_move ?_; refine j_dec ?_; refine j_indexAddr ?_; refine j_load ?_; refine j_assignL (fun _ => ?_); refine l_nil ?_)
     all_goals
      refine k_rv Try.results66 (fun w hw => ?_)
      exact ⟨by rw [cellV_no (by omega)]; rfl, hw.done⟩
theorem vCell_at (h : StAt w L cs pn pc) {k : Nat} (hk : (k : Int) < 9223372036854775807) (hl : cs.length ≤ 274877906944) : Calls Try.prog 66 #[stG L cs gen pn cn pc cc, .int .i64 ((k + 1 : Nat) : Int)] w fun e w' => e = .returned (.int .i64 (cellV cs ((k + 1 : Nat) : Int))) ∧ St w [] [] w' := by
  refine enter Try.func66 Try.ntmps66 rfl rfl h.start ?_
  simp only [mkS]
  all_goals (refine k_seq ?_; refine k_region ?_; refine j_box (fun x2 => ?_); refine j_assignL (fun _ => ?_); refine l_nil ?_; refine k_seq ?_; refine k_seq ?_; refine k_region ?_; refine j_move ?_; refine j_lss ?_; refine j_move ?_)
  all_goals (first | refine j_un ?_ | (refine j_yes ?_; refine j_move ?_) | (refine l_case (g := 7) (by exact rfl) (fun g7 => ?_) (fun g7 => ?_) <;> (revert g7; (first | refine cv1 ?_ | refine cv2 ?_ | refine cvb ?_ | refine cvc ?_ | refine cv9 ?_ | refine cva ?_ | refine cv7 ?_ | refine cv8 ?_ | refine cvd ?_ | refine cve ?_ | skip); intro g7) <;> (try (exfalso; omega)) <;> (first | refine j_un ?_ | (refine j_yes ?_; refine j_move ?_))))
  all_goals ((first | refine j_un ?_ | (refine j_yes ?_; refine j_fieldAddr ?_)); (first | refine j_un ?_ | (refine j_yes ?_; refine j_load ?_)); (first | refine j_un ?_ | (refine j_yes ?_; refine j_len ?_)); (first | refine j_un ?_ | (refine j_yes ?_; refine j_gtr ?_)); refine j_pick ?_; refine l_nil ?_)
  all_goals
   refine k_if (fun c13 => ?_) (fun c13 => ?_)
   · try (exact absurd c13 (by decide))
     all_goals (revert c13; (first | refine cv1 ?_ | refine cv3 ?_ | refine cv5 ?_ | refine cv7 ?_ | refine cv9 ?_ | refine cvb ?_ | refine cvd ?_ | skip); intro c13)
     all_goals try (exfalso; omega)
     all_goals (refine k_seq ?_; refine k_region ?_; refine j_assignL (fun _ => ?_); refine l_nil ?_)
     all_goals
      refine k_rv Try.results66 (fun w hw => ?_)
      first | exact ⟨by rw [cellV_no (by omega)]; rfl, hw.done⟩ | exact ⟨by rw [cellV_at (by omega)]; rfl, hw.done⟩
   · try (exact absurd c13 (by decide))
     all_goals (revert c13; (first | refine cv2 ?_ | refine cv4 ?_ | refine cv6 ?_ | refine cv8 ?_ | refine cva ?_ | refine cvc ?_ | refine cve ?_ | skip); intro c13)
     all_goals try (exfalso; omega)
     all_goals (refine k_skip ?_; refine k_seq ?_; refine k_region ?_; refine j_fieldAddr ?_; refine j_load ?_; refine j_move ?_; refine j_dec ?_; refine j_indexAddr ?_; refine j_load ?_; refine j_assignL (fun _ => ?_); refine l_nil ?_)
     all_goals
      refine k_rv Try.results66 (fun w hw => ?_)
      first | exact ⟨by rw [cellV_no (by omega)]; rfl, hw.done⟩ | exact ⟨by rw [cellV_at (by omega)]; rfl, hw.done⟩
theorem vCell_c (h : StAt w L cs pn pc) (r : Int) (hr : r ≤ 9223372036854775807) (hl : cs.length ≤ 274877906944) : Calls Try.prog 66 #[stG L cs gen pn cn pc cc, .int .i64 r] w fun e w' => e = .returned (.int .i64 (cellV cs r)) ∧ St w [] [] w' := by
  rcases Int.lt_or_le r 1 with h1 | h1
  · exact vCell_no h r h1
  · obtain ⟨k, rfl⟩ : ∃ k : Nat, r = ((k + 1 : Nat) : Int) := ⟨(r - 1).toNat, by omega⟩
    exact vCell_at h (by omega) hl
/-- The numbers of a state are numbers of its nodes and cells. -/
structure StB (L : List NdV) (cs : List Int) : Prop where
  cs : ∀ c, cellV cs c ≤ 9223372036854775807
  old : ∀ r, (nodeV L r).nd.old ≤ 9223372036854775807
  new : ∀ r, (nodeV L r).nd.new ≤ 9223372036854775807
  main : ∀ r, (nodeV L r).nd.main ≤ 9223372036854775807
  prev : ∀ r, (nodeV L r).nd.prev ≤ 9223372036854775807
  status : ∀ r, (nodeV L r).nd.status ≤ 9223372036854775807
  br : ∀ r, ∀ b ∈ (nodeV L r).xs, b ≤ 9223372036854775807
theorem vMain_c (h : StAt w L cs pn pc) (hb : StB L cs) (hl : L.length ≤ 274877906944) (hc : cs.length ≤ 274877906944) (i : Int) (hi : i ≤ 9223372036854775807) : Calls Try.prog 50 #[stG L cs gen pn cn pc cc, .int .i64 i] w fun e w' => e = .returned (.tuple #[.int .i64 ((bodyO (L.map NdV.c) cs i).getD 0), .bool (bodyO (L.map NdV.c) cs i).isSome]) ∧ St w [] [] w' := by
  refine enter Try.func50 Try.ntmps50 rfl rfl h.start ?_
  simp only [mkS]
  simp only [stG]
  all_goals (refine k_seq ?_; refine k_region ?_; refine j_box (fun x2 => ?_); refine j_assignL (fun _ => ?_); refine j_assignL (fun _ => ?_); refine l_nil ?_; refine k_seq ?_; refine k_region ?_; refine j_load ?_; refine j_move ?_; (refine j_own (cV (hc := fun w1 hw => vAt_c (h.of0 hw) i hi hl)) (fun x12 => ?_); try (refine l_fact (fun h12 => ?_))); refine j_alloc (fun x6 => ?_); refine j_store (fun _ => ?_); refine l_nil ?_; refine k_seq ?_; refine k_seq ?_; refine k_region ?_; refine j_fieldAddr ?_; refine j_load ?_; refine j_neq ?_; refine l_nil ?_)
  all_goals
   refine k_if (fun c15 => ?_) (fun c15 => ?_)
   · try (exact absurd c15 (by decide))
     all_goals (revert c15; (first | refine cv1 ?_ | refine cv3 ?_ | refine cv5 ?_ | refine cv7 ?_ | refine cv9 ?_ | refine cvb ?_ | refine cvd ?_ | skip); intro c15)
     all_goals (refine k_seq ?_; refine k_region ?_; refine j_assignL (fun _ => ?_); refine j_assignL (fun _ => ?_); refine l_nil ?_)
     all_goals
      refine k_retvF Try.results50 (.tmp (by conv => { lhs; whnf }) (.tmp (by conv => { lhs; whnf }) .nil)) (fun w hw => ?_)
      refine ⟨?_, hw.done⟩
      unfold bodyO bodyQ bodyP bodyM
      simp only [nodeV_c', MainK, NdV.c, Nd.c]
      simp_all
      all_goals rfl
   · try (exact absurd c15 (by decide))
     all_goals (revert c15; (first | refine cv2 ?_ | refine cv4 ?_ | refine cv6 ?_ | refine cv8 ?_ | refine cva ?_ | refine cvc ?_ | refine cve ?_ | skip); intro c15)
     all_goals (refine k_skip ?_; refine k_seq ?_; refine k_region ?_; refine j_load ?_; refine j_fieldAddr ?_; refine j_load ?_; (refine j_own (cV (hc := fun w1 hw => vCell_c (h.of0 hw) (nodeV L i).nd.main (hb.main i) hc)) (fun x19 => ?_); try (refine l_fact (fun h19 => ?_))); refine j_assignL (fun _ => ?_); refine l_nil ?_; refine k_seq ?_; refine k_seq ?_; refine k_region ?_; refine j_load ?_; refine j_move ?_; (refine j_own (cV (hc := fun w1 hw => vAt_c (h.of0 hw) (cellV cs (nodeV L i).nd.main) (hb.cs _) hl)) (fun x22 => ?_); try (refine l_fact (fun h22 => ?_))); (refine j_own (c0 (V := .bool) (hc := fun w1 hw => main_c _ w1)) (fun x23 => ?_); try (refine l_fact (fun h23 => ?_))); refine j_not ?_; refine l_nil ?_)
     all_goals
      refine k_if (fun c24 => ?_) (fun c24 => ?_)
      · try (exact absurd c24 (by decide))
        all_goals (revert c24; (first | refine cv1 ?_ | refine cv3 ?_ | refine cv5 ?_ | refine cv7 ?_ | refine cv9 ?_ | refine cvb ?_ | refine cvd ?_ | skip); intro c24)
        all_goals (refine k_seq ?_; refine k_region ?_; refine j_assignL (fun _ => ?_); refine j_assignL (fun _ => ?_); refine l_nil ?_)
        all_goals
         refine k_retvF Try.results50 (.tmp (by conv => { lhs; whnf }) (.tmp (by conv => { lhs; whnf }) .nil)) (fun w hw => ?_)
         refine ⟨?_, hw.done⟩
         unfold bodyO bodyQ bodyP bodyM
         simp only [nodeV_c', MainK, NdV.c, Nd.c]
         simp_all
         all_goals rfl
      · try (exact absurd c24 (by decide))
        all_goals (revert c24; (first | refine cv2 ?_ | refine cv4 ?_ | refine cv6 ?_ | refine cv8 ?_ | refine cva ?_ | refine cvc ?_ | refine cve ?_ | skip); intro c24)
        all_goals (refine k_skip ?_; refine k_seq ?_; refine k_drawF (.one 0 [] (.one 1 [] (.one 2 [] (.one 3 [0] (.one 4 [] (.one 5 [] (.one 6 [] .nil))))))) ?_; refine r_load (i := 0) ?_; refine r_load (i := 1) ?_; refine r_move (i := 2) ?_; ((refine r_own (i := 3) (hq := (cV (hc := fun w1 hw => vAt_c (h.of0 hw) (cellV cs (nodeV L i).nd.main) (hb.cs _) hl))) (hfire := (fun _ => by first | (refine FireAll.cons (by first | exact a_load | exact a_un) ?_; exact FireAll.nil) | (refine fireall_fact ?_; refine FireAll.cons (by first | exact a_load | exact a_un) ?_; exact FireAll.nil))) (h := fun x28 => ?_); try (refine r_fact (fun h28 => ?_)))); refine r_field (i := 4) ?_; ((refine r_own (i := 5) (hq := (cV (hc := fun w1 hw => vCell_c (h.of0 hw) (nodeV L (cellV cs (nodeV L i).nd.main)).nd.prev (hb.prev _) hc))) (hfire := (fun _ => .nil)) (h := fun x30 => ?_); try (refine r_fact (fun h30 => ?_)))); refine r_assignL (i := 6) (hfire := (fun _ => .nil)) (h := fun _ => ?_); refine r_fin ?_; refine k_seq ?_; refine k_seq ?_; refine k_region ?_; refine j_move ?_; refine j_eql ?_; refine l_nil ?_)
        all_goals
         refine k_if (fun c32 => ?_) (fun c32 => ?_)
         · try (exact absurd c32 (by decide))
           all_goals (revert c32; (first | refine cv1 ?_ | refine cv3 ?_ | refine cv5 ?_ | refine cv7 ?_ | refine cv9 ?_ | refine cvb ?_ | refine cvd ?_ | skip); intro c32)
           all_goals (refine k_seq ?_; refine k_region ?_; refine j_move ?_; refine j_assignL (fun _ => ?_); refine j_assignL (fun _ => ?_); refine l_nil ?_)
           all_goals
            refine k_retvF Try.results50 (.tmp (by conv => { lhs; whnf }) (.tmp (by conv => { lhs; whnf }) .nil)) (fun w hw => ?_)
            refine ⟨?_, hw.done⟩
            unfold bodyO bodyQ bodyP bodyM
            simp only [nodeV_c', MainK, NdV.c, Nd.c]
            simp_all
            all_goals rfl
         · try (exact absurd c32 (by decide))
           all_goals (revert c32; (first | refine cv2 ?_ | refine cv4 ?_ | refine cv6 ?_ | refine cv8 ?_ | refine cva ?_ | refine cvc ?_ | refine cve ?_ | skip); intro c32)
           all_goals (refine k_skip ?_; refine k_seq ?_; refine k_seq ?_; refine k_region ?_; refine j_load ?_; refine j_move ?_; (refine j_own (cV (hc := fun w1 hw => vAt_c (h.of0 hw) (cellV cs (nodeV L (cellV cs (nodeV L i).nd.main)).nd.prev) (hb.cs _) hl)) (fun x36 => ?_); try (refine l_fact (fun h36 => ?_))); refine j_alloc (fun x9 => ?_); refine j_store (fun _ => ?_); refine l_nil ?_; refine k_seq ?_; refine k_region ?_; refine j_fieldAddr ?_; refine j_load ?_; refine j_eql ?_; refine l_nil ?_)
           all_goals
            refine k_if (fun c39 => ?_) (fun c39 => ?_)
            · try (exact absurd c39 (by decide))
              all_goals (revert c39; (first | refine cv1 ?_ | refine cv3 ?_ | refine cv5 ?_ | refine cv7 ?_ | refine cv9 ?_ | refine cvb ?_ | refine cvd ?_ | skip); intro c39)
              all_goals (refine k_region ?_; refine j_fieldAddr ?_; refine j_load ?_; refine j_assignL (fun _ => ?_); refine l_nil ?_; refine k_seq ?_; refine k_seq ?_; refine k_region ?_; refine j_load ?_; refine j_move ?_; (refine j_own (cV (hc := fun w1 hw => vAt_c (h.of0 hw) _ (by first | exact hb.cs _ | exact hb.old _) hl)) (fun x44 => ?_); try (refine l_fact (fun h44 => ?_))); (refine j_own (c0 (V := .bool) (hc := fun w1 hw => main_c _ w1)) (fun x45 => ?_); try (refine l_fact (fun h45 => ?_))); refine j_not ?_; refine l_nil ?_)
              all_goals
               refine k_if (fun c46 => ?_) (fun c46 => ?_)
               · try (exact absurd c46 (by decide))
                 all_goals (revert c46; (first | refine cv1 ?_ | refine cv3 ?_ | refine cv5 ?_ | refine cv7 ?_ | refine cv9 ?_ | refine cvb ?_ | refine cvd ?_ | skip); intro c46)
                 all_goals (refine k_seq ?_; refine k_region ?_; refine j_assignL (fun _ => ?_); refine j_assignL (fun _ => ?_); refine l_nil ?_)
                 all_goals
                  refine k_retvF Try.results50 (.tmp (by conv => { lhs; whnf }) (.tmp (by conv => { lhs; whnf }) .nil)) (fun w hw => ?_)
                  refine ⟨?_, hw.done⟩
                  unfold bodyO bodyQ bodyP bodyM
                  simp only [nodeV_c', MainK, NdV.c, Nd.c]
                  simp_all
                  all_goals rfl
               · try (exact absurd c46 (by decide))
                 all_goals (revert c46; (first | refine cv2 ?_ | refine cv4 ?_ | refine cv6 ?_ | refine cv8 ?_ | refine cva ?_ | refine cvc ?_ | refine cve ?_ | skip); intro c46)
                 all_goals (refine k_skip ?_; refine k_seq ?_; refine k_region ?_; refine j_move ?_; refine j_assignL (fun _ => ?_); refine j_assignL (fun _ => ?_); refine l_nil ?_)
                 all_goals
                  refine k_retvF Try.results50 (.tmp (by conv => { lhs; whnf }) (.tmp (by conv => { lhs; whnf }) .nil)) (fun w hw => ?_)
                  refine ⟨?_, hw.done⟩
                  unfold bodyO bodyQ bodyP bodyM
                  simp only [nodeV_c', MainK, NdV.c, Nd.c]
                  simp_all
                  all_goals rfl
            · try (exact absurd c39 (by decide))
              all_goals (revert c39; (first | refine cv2 ?_ | refine cv4 ?_ | refine cv6 ?_ | refine cv8 ?_ | refine cva ?_ | refine cvc ?_ | refine cve ?_ | skip); intro c39)
              all_goals (refine k_skip ?_; refine k_seq ?_; refine k_seq ?_; refine k_region ?_; refine j_load ?_; refine j_move ?_; (refine j_own (cV (hc := fun w1 hw => vAt_c (h.of0 hw) _ (by first | exact hb.cs _ | exact hb.old _) hl)) (fun x44 => ?_); try (refine l_fact (fun h44 => ?_))); (refine j_own (c0 (V := .bool) (hc := fun w1 hw => main_c _ w1)) (fun x45 => ?_); try (refine l_fact (fun h45 => ?_))); refine j_not ?_; refine l_nil ?_)
              all_goals
               refine k_if (fun c46 => ?_) (fun c46 => ?_)
               · try (exact absurd c46 (by decide))
                 all_goals (revert c46; (first | refine cv1 ?_ | refine cv3 ?_ | refine cv5 ?_ | refine cv7 ?_ | refine cv9 ?_ | refine cvb ?_ | refine cvd ?_ | skip); intro c46)
                 all_goals (refine k_seq ?_; refine k_region ?_; refine j_assignL (fun _ => ?_); refine j_assignL (fun _ => ?_); refine l_nil ?_)
                 all_goals
                  refine k_retvF Try.results50 (.tmp (by conv => { lhs; whnf }) (.tmp (by conv => { lhs; whnf }) .nil)) (fun w hw => ?_)
                  refine ⟨?_, hw.done⟩
                  unfold bodyO bodyQ bodyP bodyM
                  simp only [nodeV_c', MainK, NdV.c, Nd.c]
                  simp_all
                  all_goals rfl
               · try (exact absurd c46 (by decide))
                 all_goals (revert c46; (first | refine cv2 ?_ | refine cv4 ?_ | refine cv6 ?_ | refine cv8 ?_ | refine cva ?_ | refine cvc ?_ | refine cve ?_ | skip); intro c46)
                 all_goals (refine k_skip ?_; refine k_seq ?_; refine k_region ?_; refine j_move ?_; refine j_assignL (fun _ => ?_); refine j_assignL (fun _ => ?_); refine l_nil ?_)
                 all_goals
                  refine k_retvF Try.results50 (.tmp (by conv => { lhs; whnf }) (.tmp (by conv => { lhs; whnf }) .nil)) (fun w hw => ?_)
                  refine ⟨?_, hw.done⟩
                  unfold bodyO bodyQ bodyP bodyM
                  simp only [nodeV_c', MainK, NdV.c, Nd.c]
                  simp_all
                  all_goals rfl
end
end Go.Proofs.Ytpfjjagcmjmfpaa

/- Views: the I-nodes of a trie are visited. -/
set_option linter.unusedSimpArgs false
set_option linter.unusedVariables false
namespace Go.Ct
open Go Go.RowKit
/-- Which nodes have been visited. -/
def Vis (n : Nat) (vs : List Bool) (l : List Int) : Prop := vs.length = n ∧ (∀ k, k < n → (vs.getD k false = true ↔ ((k + 1 : Nat) : Int) ∈ l)) ∧ l.length + vs.count false = n
theorem Vis.zero (n : Nat) : Vis n (List.replicate n false) [] := ⟨by simp, fun k hk => by simp [List.getD_eq_getElem?_getD, hk], by simp⟩
theorem count_set : ∀ (vs : List Bool) (k : Nat), k < vs.length → vs.getD k false = false → (vs.set k true).count false + 1 = vs.count false
  | [], _, h, _ => by simp at h
  | b :: vs, 0, _, h => by
    have e : b = false := by simpa using h
    subst e
    simp
  | b :: vs, k + 1, h, h2 => by
    have := count_set vs k (by simpa using h) (by simpa using h2)
    rw [List.set_cons_succ, List.count_cons, List.count_cons]
    omega
theorem Vis.set {n k : Nat} {vs : List Bool} {l : List Int} (h : Vis n vs l) (hk : k < n) (hf : vs.getD k false = false) : Vis n (vs.set k true) (l ++ [((k + 1 : Nat) : Int)]) := by
  have h1 := h.1
  refine ⟨by simp [h.1], fun j hj => ?_, ?_⟩
  · have h2 := h.2.1 j hj
    rw [List.getD_eq_getElem?_getD] at h2
    rw [List.getD_eq_getElem?_getD, List.getElem?_set]
    by_cases e : k = j
    · subst e
      simp [show k < vs.length by omega]
    · rw [if_neg e, h2]
      simp only [List.mem_append, List.mem_singleton]
      constructor
      · exact .inl
      · rintro (h3 | h3)
        · exact h3
        · omega
  · have := count_set vs k (by omega) hf
    have := h.2.2
    simp only [List.length_append, List.length_cons, List.length_nil]
    omega
theorem Vis.len {n : Nat} {vs : List Bool} {l : List Int} (h : Vis n vs l) : l.length ≤ n := by have := h.2.2; omega
/-- What a visit changes. -/
structure VQ where
  l : List Int
  vs : List Bool
  p : Option Addr
  c : Nat
def VisR (o : Option (List Int)) (b : Bool) (q : VQ) : Prop := match o with | some l => b = true ∧ q.l = l | none => b = false
theorem visB_at {N : List Nv} {f : Int → List Int → Option (List Int)} {xs l l2 : List Int} {k : Nat} (hk : k < xs.length) (h : visB N f (xs.take k) l = some l2) : visB N f xs l = visB N f (xs.getD k 0 :: xs.drop (k + 1)) l2 := by
  have e : xs = xs.take k ++ (xs.getD k 0 :: xs.drop (k + 1)) := by
    rw [List.getD_eq_getElem?_getD, List.getElem?_eq_getElem hk, Option.getD_some, ← List.drop_eq_getElem_cons hk, List.take_append_drop]
  rw [e, visB_app, ← e, h]
  rfl
theorem visB_next {N : List Nv} {f : Int → List Int → Option (List Int)} {xs l l2 l3 : List Int} {k : Nat} (hk : k < xs.length) (h : visB N f (xs.take k) l = some l2) (h2 : visB N f [xs.getD k 0] l2 = some l3) : visB N f (xs.take (k + 1)) l = some l3 := by
  rw [List.take_add_one, List.getElem?_eq_getElem hk, visB_app, h]
  rw [List.getD_eq_getElem?_getD, List.getElem?_eq_getElem hk] at h2
  exact h2
theorem visB_s {N : List Nv} {f : Int → List Int → Option (List Int)} {b : Int} {l : List Int} (h : (ndAt N b).kind = 4) : visB N f [b] l = some l := by simp [visB, h]
theorem visB_i {N : List Nv} {f : Int → List Int → Option (List Int)} {b : Int} {l l2 : List Int} (h : (ndAt N b).kind = 2) (hf : f b l = some l2) : visB N f [b] l = some l2 := by simp [visB, h, hf]
theorem visB_no {N : List Nv} {f : Int → List Int → Option (List Int)} {b : Int} {r l : List Int} (h : (ndAt N b).kind ≠ 4) (h2 : (ndAt N b).kind ≠ 2) : visB N f (b :: r) l = none := by simp [visB, h, h2]
theorem visB_f {N : List Nv} {f : Int → List Int → Option (List Int)} {b : Int} {r l : List Int} (h : (ndAt N b).kind = 2) (hf : f b l = none) : visB N f (b :: r) l = none := by simp [visB, h, hf]
theorem mainK_in' {N : List Nv} {r : Int} (h : MainK (ndAt N r)) : 1 ≤ r ∧ r ≤ N.length := kind_in (by unfold MainK at h; omega)
theorem famV_br {L : List NdV} {r : Int} (h : 1 ≤ r ∧ r ≤ L.length) : ((nodeV L r).nd.brA, refsC (nodeV L r).xs) ∈ famF L := by
  unfold nodeV
  rw [if_pos h]
  exact famF_br (by omega)
theorem famV_pr {L : List NdV} {r : Int} (h : 1 ≤ r ∧ r ≤ L.length) : ((nodeV L r).nd.prA, prC (nodeV L r).ys) ∈ famF L := by
  unfold nodeV
  rw [if_pos h]
  exact famF_pr (by omega)
theorem nodeV_xs (L : List NdV) (r : Int) : (ndAt (L.map NdV.c) r).xs = (nodeV L r).xs := by rw [nodeV_c']; rfl
theorem vis_seen {N : List Nv} {cs : List Int} {i : Int} {l : List Int} (h : i ∈ l) : ∀ {n : Nat}, vis N cs n i l = none
  | 0 => rfl
  | n + 1 => by unfold vis; rw [if_pos h]
theorem vis_none {N : List Nv} {cs : List Int} {i : Int} {l : List Int} {n : Nat} (h : ¬ i ∈ l) (h2 : (bodyO N cs i).isSome = false) : vis N cs (n + 1) i l = none := by
  unfold vis
  rw [if_neg h]
  cases hb : bodyO N cs i with
  | none => rfl
  | some m => rw [hb] at h2; cases h2
theorem vis_some {N : List Nv} {cs : List Int} {i m : Int} {l : List Int} {n : Nat} (h : ¬ i ∈ l) (h2 : bodyO N cs i = some m) : vis N cs (n + 1) i l = visB N (vis N cs n) (ndAt N m).xs (l ++ [i]) := by
  unfold vis
  rw [if_neg h, h2]
  rfl
end Go.Ct
namespace Go.Proofs.Ytpfjjagcmjmfpaa
open Go Go.RowKit Go.Ct
section
variable {L : List NdV} {cs : List Int} {gen : Int} {pn pc : Option Addr} {cn cc : Nat} {w : World}
theorem vRoot_c (h : StAt w L cs pn pc) (hb : StB L cs) (hl : L.length ≤ 274877906944) (hc : cs.length ≤ 274877906944) (c : Int) (ro : Bool) (hi : c ≤ 9223372036854775807) : Calls Try.prog 48 #[stG L cs gen pn cn pc cc, .agg ⟨[.int .i64 c, .bool ro]⟩] w fun e w' => e = .returned (.tuple #[.int .i64 ((rootO (L.map NdV.c) cs c).getD 0), .bool (rootO (L.map NdV.c) cs c).isSome]) ∧ St w [] [] w' := by
  refine enter Try.func48 Try.ntmps48 rfl rfl h.start ?_
  simp only [mkS]
  simp only [stG]
  all_goals (refine k_seq ?_; refine k_region ?_; refine j_box (fun x2 => ?_); refine j_box (fun x3 => ?_); refine j_assignL (fun _ => ?_); refine j_assignL (fun _ => ?_); refine l_nil ?_; refine k_seq ?_; refine k_region ?_; refine j_load ?_; refine j_fieldAddr ?_; refine j_load ?_; (refine j_own (cV (hc := fun w1 hw => vCell_c (h.of0 hw) c hi hc)) (fun x11 => ?_); try (refine l_fact (fun h11 => ?_))); refine j_assignL (fun _ => ?_); refine l_nil ?_; refine k_seq ?_; refine k_seq ?_; refine k_region ?_; refine j_load ?_; refine j_move ?_; (refine j_own (cV (hc := fun w1 hw => vAt_c (h.of0 hw) (cellV cs c) (hb.cs _) hl)) (fun x14 => ?_); try (refine l_fact (fun h14 => ?_))); refine j_alloc (fun x7 => ?_); refine j_store (fun _ => ?_); refine l_nil ?_; refine k_seq ?_; refine k_region ?_; refine j_fieldAddr ?_; refine j_load ?_; refine j_eql ?_; refine l_nil ?_)
  all_goals
   refine k_if (fun c17 => ?_) (fun c17 => ?_)
   · try (exact absurd c17 (by decide))
     all_goals (revert c17; (first | refine cv1 ?_ | refine cv3 ?_ | refine cv5 ?_ | refine cv7 ?_ | refine cv9 ?_ | refine cvb ?_ | refine cvd ?_ | skip); intro c17)
     all_goals (refine k_seq ?_; refine k_region ?_; refine j_fieldAddr ?_; refine j_load ?_; refine j_assignL (fun _ => ?_); refine l_nil ?_; refine k_seq ?_; refine k_region ?_; refine j_load ?_; refine j_fieldAddr ?_; refine j_load ?_; (refine j_own (cV (hc := fun w1 hw => vCell_c (h.of0 hw) (nodeV L (cellV cs c)).nd.status (hb.status _) hc)) (fun x23 => ?_); try (refine l_fact (fun h23 => ?_))); refine j_eql ?_; refine l_nil ?_)
     all_goals
      refine k_if (fun c24 => ?_) (fun c24 => ?_)
      · try (exact absurd c24 (by decide))
        all_goals (revert c24; (first | refine cv1 ?_ | refine cv3 ?_ | refine cv5 ?_ | refine cv7 ?_ | refine cv9 ?_ | refine cvb ?_ | refine cvd ?_ | skip); intro c24)
        all_goals (refine k_region ?_; refine j_fieldAddr ?_; refine j_load ?_; refine j_assignL (fun _ => ?_); refine l_nil ?_; refine k_seq ?_; refine k_seq ?_; refine k_region ?_; refine j_load ?_; refine j_move ?_; (refine j_own (cV (hc := fun w1 hw => vAt_c (h.of0 hw) _ (by first | exact hb.cs _ | exact hb.old _ | exact hb.new _) hl)) (fun x29 => ?_); try (refine l_fact (fun h29 => ?_))); refine j_field ?_; refine j_neq ?_; refine l_nil ?_)
        all_goals
         refine k_if (fun c31 => ?_) (fun c31 => ?_)
         · try (exact absurd c31 (by decide))
           all_goals (revert c31; (first | refine cv1 ?_ | refine cv3 ?_ | refine cv5 ?_ | refine cv7 ?_ | refine cv9 ?_ | refine cvb ?_ | refine cvd ?_ | skip); intro c31)
           all_goals (refine k_seq ?_; refine k_region ?_; refine j_assignL (fun _ => ?_); refine j_assignL (fun _ => ?_); refine l_nil ?_)
           all_goals
            refine k_retvF Try.results48 (.tmp (by conv => { lhs; whnf }) (.tmp (by conv => { lhs; whnf }) .nil)) (fun w hw => ?_)
            refine ⟨?_, hw.done⟩
            unfold rootO rootP
            simp only [nodeV_c', MainK, NdV.c, Nd.c]
            simp_all
            all_goals rfl
         · try (exact absurd c31 (by decide))
           all_goals (revert c31; (first | refine cv2 ?_ | refine cv4 ?_ | refine cv6 ?_ | refine cv8 ?_ | refine cva ?_ | refine cvc ?_ | refine cve ?_ | skip); intro c31)
           all_goals (refine k_skip ?_; refine k_seq ?_; refine k_region ?_; refine j_move ?_; refine j_assignL (fun _ => ?_); refine j_assignL (fun _ => ?_); refine l_nil ?_)
           all_goals
            refine k_retvF Try.results48 (.tmp (by conv => { lhs; whnf }) (.tmp (by conv => { lhs; whnf }) .nil)) (fun w hw => ?_)
            refine ⟨?_, hw.done⟩
            unfold rootO rootP
            simp only [nodeV_c', MainK, NdV.c, Nd.c]
            simp_all
            all_goals rfl
      · try (exact absurd c24 (by decide))
        all_goals (revert c24; (first | refine cv2 ?_ | refine cv4 ?_ | refine cv6 ?_ | refine cv8 ?_ | refine cva ?_ | refine cvc ?_ | refine cve ?_ | skip); intro c24)
        all_goals (refine k_skip ?_; refine k_seq ?_; refine k_seq ?_; refine k_region ?_; refine j_load ?_; refine j_move ?_; (refine j_own (cV (hc := fun w1 hw => vAt_c (h.of0 hw) _ (by first | exact hb.cs _ | exact hb.old _ | exact hb.new _) hl)) (fun x29 => ?_); try (refine l_fact (fun h29 => ?_))); refine j_field ?_; refine j_neq ?_; refine l_nil ?_)
        all_goals
         refine k_if (fun c31 => ?_) (fun c31 => ?_)
         · try (exact absurd c31 (by decide))
           all_goals (revert c31; (first | refine cv1 ?_ | refine cv3 ?_ | refine cv5 ?_ | refine cv7 ?_ | refine cv9 ?_ | refine cvb ?_ | refine cvd ?_ | skip); intro c31)
           all_goals (refine k_seq ?_; refine k_region ?_; refine j_assignL (fun _ => ?_); refine j_assignL (fun _ => ?_); refine l_nil ?_)
           all_goals
            refine k_retvF Try.results48 (.tmp (by conv => { lhs; whnf }) (.tmp (by conv => { lhs; whnf }) .nil)) (fun w hw => ?_)
            refine ⟨?_, hw.done⟩
            unfold rootO rootP
            simp only [nodeV_c', MainK, NdV.c, Nd.c]
            simp_all
            all_goals rfl
         · try (exact absurd c31 (by decide))
           all_goals (revert c31; (first | refine cv2 ?_ | refine cv4 ?_ | refine cv6 ?_ | refine cv8 ?_ | refine cva ?_ | refine cvc ?_ | refine cve ?_ | skip); intro c31)
           all_goals (refine k_skip ?_; refine k_seq ?_; refine k_region ?_; refine j_move ?_; refine j_assignL (fun _ => ?_); refine j_assignL (fun _ => ?_); refine l_nil ?_)
           all_goals
            refine k_retvF Try.results48 (.tmp (by conv => { lhs; whnf }) (.tmp (by conv => { lhs; whnf }) .nil)) (fun w hw => ?_)
            refine ⟨?_, hw.done⟩
            unfold rootO rootP
            simp only [nodeV_c', MainK, NdV.c, Nd.c]
            simp_all
            all_goals rfl
   · try (exact absurd c17 (by decide))
     all_goals (revert c17; (first | refine cv2 ?_ | refine cv4 ?_ | refine cv6 ?_ | refine cv8 ?_ | refine cva ?_ | refine cvc ?_ | refine cve ?_ | skip); intro c17)
     all_goals (refine k_skip ?_; refine k_seq ?_; refine k_seq ?_; refine k_region ?_; refine j_load ?_; refine j_move ?_; (refine j_own (cV (hc := fun w1 hw => vAt_c (h.of0 hw) _ (by first | exact hb.cs _ | exact hb.old _ | exact hb.new _) hl)) (fun x29 => ?_); try (refine l_fact (fun h29 => ?_))); refine j_field ?_; refine j_neq ?_; refine l_nil ?_)
     all_goals
      refine k_if (fun c31 => ?_) (fun c31 => ?_)
      · try (exact absurd c31 (by decide))
        all_goals (revert c31; (first | refine cv1 ?_ | refine cv3 ?_ | refine cv5 ?_ | refine cv7 ?_ | refine cv9 ?_ | refine cvb ?_ | refine cvd ?_ | skip); intro c31)
        all_goals (refine k_seq ?_; refine k_region ?_; refine j_assignL (fun _ => ?_); refine j_assignL (fun _ => ?_); refine l_nil ?_)
        all_goals
         refine k_retvF Try.results48 (.tmp (by conv => { lhs; whnf }) (.tmp (by conv => { lhs; whnf }) .nil)) (fun w hw => ?_)
         refine ⟨?_, hw.done⟩
         unfold rootO rootP
         simp only [nodeV_c', MainK, NdV.c, Nd.c]
         simp_all
         all_goals rfl
      · try (exact absurd c31 (by decide))
        all_goals (revert c31; (first | refine cv2 ?_ | refine cv4 ?_ | refine cv6 ?_ | refine cv8 ?_ | refine cva ?_ | refine cvc ?_ | refine cve ?_ | skip); intro c31)
        all_goals (refine k_skip ?_; refine k_seq ?_; refine k_region ?_; refine j_move ?_; refine j_assignL (fun _ => ?_); refine j_assignL (fun _ => ?_); refine l_nil ?_)
        all_goals
         refine k_retvF Try.results48 (.tmp (by conv => { lhs; whnf }) (.tmp (by conv => { lhs; whnf }) .nil)) (fun w hw => ?_)
         refine ⟨?_, hw.done⟩
         unfold rootO rootP
         simp only [nodeV_c', MainK, NdV.c, Nd.c]
         simp_all
         all_goals rfl
abbrev trO (L : List NdV) (cs : List Int) (gen : Int) (pn : Option Addr) (cn : Nat) (pc : Option Addr) (cc : Nat) (pv : Nat) (q : VQ) (pp : Option Addr) (ps : List Pr) (cp : Nat) : Obj := .cells ⟨[.slice pn L.length cn, .slice pc cs.length cc, .int .i64 gen, .slice (some ⟨pv, 0, none⟩) L.length L.length, .slice q.p q.l.length q.c, .slice pp ps.length cp]⟩ 85 (0, 0)
abbrev trW (L : List NdV) (pv : Nat) (q : VQ) : List Ow := [⟨some ⟨pv, 0, none⟩, boolsC q.vs, L.length, 4, 1⟩, ⟨q.p, refsC q.l, q.c, 29, 1⟩]
theorem trOpen {w0 : World} {D : List Nat} {b pv : Nat} {q : VQ} {pp : Option Addr} {ps : List Pr} {cp : Nat} {A F : Fr} (h : SF w0 D [(b, trO L cs gen pn cn pc cc pv q pp ps cp)] A F (trW L pv q) w) :
    SF w0 D [(b, .cells ⟨[.slice pn L.length cn, .slice pc cs.length cc, .int .i64 gen, .slice (some ⟨pv, 0, none⟩) L.length L.length, .slice q.p q.l.length q.c, .slice pp ps.length cp]⟩ 85 (0, 0))] A F [⟨some ⟨pv, 0, none⟩, boolsC q.vs, L.length, 4, 1⟩, ⟨q.p, refsC q.l, q.c, 29, 1⟩] w := h
def VisC (L : List NdV) (cs : List Int) (gen : Int) (pn : Option Addr) (cn : Nat) (pc : Option Addr) (cc : Nat) (b pv : Nat) (pp : Option Addr) (ps : List Pr) (cp : Nat) (n : Nat) : Prop := ∀ (lvl : Nat), lvl + n = 12 → ∀ (k : Nat) (q : VQ) (D : List Nat) (w : World), k < L.length → Vis L.length q.vs q.l → SF w D [(b, trO L cs gen pn cn pc cc pv q pp ps cp)] ((pn, nvC L) :: (pc, refsC cs) :: famF L) [] (trW L pv q) w →
    Calls Try.prog 49 #[.pointer (some ⟨b, 0, none⟩), .int .i64 ((k + 1 : Nat) : Int), .int .i64 ((lvl : Nat) : Int)] w fun e w' => ∃ x : Bool × VQ, e = .returned (.bool x.1) ∧ (VisR (vis (L.map NdV.c) cs n ((k + 1 : Nat) : Int) q.l) x.1 x.2 ∧ Vis L.length x.2.vs x.2.l) ∧ SF w D [(b, trO L cs gen pn cn pc cc pv x.2 pp ps cp)] [] [] (trW L pv x.2) w'
theorem visit1_c (h0 : Fits L) (hb : StB L cs) (hl : L.length ≤ 274877906944) (hc : cs.length ≤ 274877906944) (b pv : Nat) (pp : Option Addr) (ps : List Pr) (cp : Nat) (n : Nat) (ih : ∀ m, n = m + 1 → VisC L cs gen pn cn pc cc b pv pp ps cp m) : VisC L cs gen pn cn pc cc b pv pp ps cp n := by
  intro lvl hn k q D w hk hv hs
  have hvl := hv.1
  have hvn := hv.len
  refine enter Try.func49 Try.ntmps49 rfl rfl (trOpen hs) ?_
  simp only [mkS]
  all_goals (refine k_seq ?_; refine k_region ?_; refine j_assignL (fun _ => ?_); refine l_nil ?_; refine k_seq ?_; refine k_seq ?_; refine k_region ?_; refine j_move ?_; refine j_gtr ?_; refine j_move ?_)
  all_goals (first | refine j_un ?_ | (refine j_yes ?_; refine j_move ?_) | (refine l_case (g := 13) (by exact rfl) (fun g13 => ?_) (fun g13 => ?_) <;> (revert g13; (first | refine cv1 ?_ | refine cv2 ?_ | refine cvb ?_ | refine cvc ?_ | refine cv9 ?_ | refine cva ?_ | refine cv7 ?_ | refine cv8 ?_ | refine cvd ?_ | refine cve ?_ | skip); intro g13) <;> (try (first | (exact absurd (by assumption) (by decide : ¬ (true = false))) | (exfalso; omega))) <;> (first | refine j_un ?_ | (refine j_yes ?_; refine j_move ?_))))
  all_goals ((first | refine j_un ?_ | (refine j_yes ?_; refine j_nilCheck ?_)); (first | refine j_un ?_ | (refine j_yes ?_; refine j_fieldAddr ?_)); (first | refine j_un ?_ | (refine j_yes ?_; refine j_load ?_)); (first | refine j_un ?_ | (refine j_yes ?_; refine j_move ?_)); (first | refine j_un ?_ | (refine j_yes ?_; refine j_dec ?_)); (first | refine j_un ?_ | (refine j_yes ?_; refine l_quiet (o_indexB (k := k) (by exact rfl) (by exact rfl) (by exact sl_of rfl) (by exact one_of rfl) (by first | exact .new .head | exact .new (.tail .head) | exact .new (.tail (.tail .head)) | exact .new (.tail (.tail (.tail .head))) | exact .new (.tail (.tail (.tail (.tail .head)))) | exact .new (.tail (.tail (.tail (.tail (.tail .head))))) | exact .new (.tail (.tail (.tail (.tail (.tail (.tail .head)))))) | exact .new (.tail (.tail (.tail (.tail (.tail (.tail (.tail .head))))))) | exact .new (.tail (.tail (.tail (.tail (.tail (.tail (.tail (.tail .head)))))))) | exact .new (.tail (.tail (.tail (.tail (.tail (.tail (.tail (.tail (.tail .head))))))))) | exact .old .head | exact .old (.tail .head) | exact .old (.tail (.tail .head)) | exact .old (.tail (.tail (.tail .head))) | exact .old (.tail (.tail (.tail (.tail .head)))) | exact .old (.tail (.tail (.tail (.tail (.tail .head))))) | exact .own .head | exact .own (.tail .head) | exact .own (.tail (.tail .head)) | exact .own (.tail (.tail (.tail .head))) | exact .own (.tail (.tail (.tail (.tail .head)))) | exact .own (.tail (.tail (.tail (.tail (.tail .head))))) | exact .own (.tail (.tail (.tail (.tail (.tail (.tail .head)))))) | exact .own (.tail (.tail (.tail (.tail (.tail (.tail (.tail .head)))))))) (by omega) (by omega)) rfl ?_)); (first | refine j_un ?_ | (refine j_yes ?_; refine l_quiet (o_loadB (q := k) (by exact rfl) (by exact one_of rfl) (by first | exact .new .head | exact .new (.tail .head) | exact .new (.tail (.tail .head)) | exact .new (.tail (.tail (.tail .head))) | exact .new (.tail (.tail (.tail (.tail .head)))) | exact .new (.tail (.tail (.tail (.tail (.tail .head))))) | exact .new (.tail (.tail (.tail (.tail (.tail (.tail .head)))))) | exact .new (.tail (.tail (.tail (.tail (.tail (.tail (.tail .head))))))) | exact .new (.tail (.tail (.tail (.tail (.tail (.tail (.tail (.tail .head)))))))) | exact .new (.tail (.tail (.tail (.tail (.tail (.tail (.tail (.tail (.tail .head))))))))) | exact .old .head | exact .old (.tail .head) | exact .old (.tail (.tail .head)) | exact .old (.tail (.tail (.tail .head))) | exact .old (.tail (.tail (.tail (.tail .head)))) | exact .old (.tail (.tail (.tail (.tail (.tail .head))))) | exact .own .head | exact .own (.tail .head) | exact .own (.tail (.tail .head)) | exact .own (.tail (.tail (.tail .head))) | exact .own (.tail (.tail (.tail (.tail .head)))) | exact .own (.tail (.tail (.tail (.tail (.tail .head))))) | exact .own (.tail (.tail (.tail (.tail (.tail (.tail .head)))))) | exact .own (.tail (.tail (.tail (.tail (.tail (.tail (.tail .head)))))))) (by omega)) rfl ?_)); refine j_pick ?_; refine l_nil ?_)
  all_goals
   refine k_if (fun c22 => ?_) (fun c22 => ?_)
   · try (exact absurd c22 (by decide))
     all_goals (revert c22; (first | refine cv1 ?_ | refine cv3 ?_ | refine cv5 ?_ | refine cv7 ?_ | refine cv9 ?_ | refine cvb ?_ | refine cvd ?_ | skip); intro c22)
     all_goals try (first | (exact absurd (by assumption) (by decide : ¬ (true = false))) | (exfalso; omega))
     all_goals (refine k_seq ?_; refine k_region ?_; refine j_assignL (fun _ => ?_); refine l_nil ?_)
     all_goals
      refine k_rv Try.results49 (fun w hw => ?_)
      first
       | exact ⟨(false, q), rfl, ⟨by rw [vis_seen ((hv.2.1 k hk).1 (by assumption))]; exact rfl, hv⟩, hw.finH⟩
       | exact ⟨(false, q), rfl, ⟨by rw [show n = 0 by omega]; exact rfl, hv⟩, hw.finH⟩
   · try (exact absurd c22 (by decide))
     all_goals (revert c22; (first | refine cv2 ?_ | refine cv4 ?_ | refine cv6 ?_ | refine cv8 ?_ | refine cva ?_ | refine cvc ?_ | refine cve ?_ | skip); intro c22)
     all_goals try (first | (exact absurd (by assumption) (by decide : ¬ (true = false))) | (exfalso; omega))
     all_goals
      obtain ⟨m, rfl⟩ : ∃ m, n = m + 1 := ⟨n - 1, by omega⟩
      have hnot : ¬ (((k + 1 : Nat) : Int) ∈ q.l) := fun hm => by have := (hv.2.1 k hk).2 hm; simp_all
      have hv2 := hv.set hk (by simp_all)
     all_goals (refine k_skip ?_; refine k_seq ?_; refine k_region ?_; refine j_move ?_; refine j_nilCheck ?_; refine j_fieldAddr ?_; refine j_load ?_; refine j_move ?_; refine j_dec ?_; refine l_quiet (o_indexB (k := k) (by exact rfl) (by exact rfl) (by exact sl_of rfl) (by exact one_of rfl) (by first | exact .new .head | exact .new (.tail .head) | exact .new (.tail (.tail .head)) | exact .new (.tail (.tail (.tail .head))) | exact .new (.tail (.tail (.tail (.tail .head)))) | exact .new (.tail (.tail (.tail (.tail (.tail .head))))) | exact .new (.tail (.tail (.tail (.tail (.tail (.tail .head)))))) | exact .new (.tail (.tail (.tail (.tail (.tail (.tail (.tail .head))))))) | exact .new (.tail (.tail (.tail (.tail (.tail (.tail (.tail (.tail .head)))))))) | exact .new (.tail (.tail (.tail (.tail (.tail (.tail (.tail (.tail (.tail .head))))))))) | exact .old .head | exact .old (.tail .head) | exact .old (.tail (.tail .head)) | exact .old (.tail (.tail (.tail .head))) | exact .old (.tail (.tail (.tail (.tail .head)))) | exact .old (.tail (.tail (.tail (.tail (.tail .head))))) | exact .own .head | exact .own (.tail .head) | exact .own (.tail (.tail .head)) | exact .own (.tail (.tail (.tail .head))) | exact .own (.tail (.tail (.tail (.tail .head)))) | exact .own (.tail (.tail (.tail (.tail (.tail .head))))) | exact .own (.tail (.tail (.tail (.tail (.tail (.tail .head)))))) | exact .own (.tail (.tail (.tail (.tail (.tail (.tail (.tail .head)))))))) (by omega) (by omega)) rfl ?_; refine j_store (fun _ => ?_); refine l_nil ?_; refine k_seq ?_; refine k_region ?_; refine j_move ?_; refine j_move ?_; refine j_nilCheck ?_; refine j_fieldAddr ?_; refine j_load ?_; refine j_move ?_; refine j_buildSlice (fun x36 => ?_); (refine j_append (fun x37 => ?_); try (refine l_fact (fun h37 => ?_))); refine j_nilCheck ?_; refine j_fieldAddr ?_; refine j_store (fun _ => ?_); refine l_nil ?_; refine k_seq ?_; refine k_region ?_; refine j_move ?_; refine j_nilCheck ?_; refine j_fieldAddr ?_; refine l_quiet (o_loadPart (k := 3) (by exact rfl) (by repeat (first | exact At.head | apply At.tail)) (by exact agg_of rfl) (by simp only [List.drop_zero, List.take_succ_cons, List.take_zero]; exact rfl) rfl) rfl ?_; refine j_move ?_; (refine j_own (cV (hc := fun w1 hw => vMain_c (hw.stAt (.inr (.inl (.head _))) (.inr (.inl (.tail _ (.head _)))) (fun f hf => .inr (.inl (.tail _ (.tail _ hf)))) h0) hb hl hc ((k + 1 : Nat) : Int) (by omega))) (fun x46 => ?_); try (refine l_fact (fun h46 => ?_))); refine j_move ?_; refine j_extract ?_; refine j_extract ?_; refine j_assignL (fun _ => ?_); refine j_assignL (fun _ => ?_); refine l_nil ?_; refine k_seq ?_; refine k_seq ?_; refine k_region ?_; refine j_move ?_; refine j_not ?_; refine l_nil ?_)
     all_goals
      refine k_if (fun c50 => ?_) (fun c50 => ?_)
      · try (exact absurd c50 (by decide))
        all_goals (revert c50; (first | refine cv1 ?_ | refine cv3 ?_ | refine cv5 ?_ | refine cv7 ?_ | refine cv9 ?_ | refine cvb ?_ | refine cvd ?_ | skip); intro c50)
        all_goals try (first | (exact absurd (by assumption) (by decide : ¬ (true = false))) | (exfalso; omega))
        all_goals (refine k_seq ?_; refine k_region ?_; refine j_assignL (fun _ => ?_); refine l_nil ?_)
        all_goals
         refine k_rv Try.results49 (fun w hw => ?_)
         rw [show q.l.length + 1 = (q.l ++ [((k + 1 : Nat) : Int)]).length by simp] at hw
         exact ⟨(false, ⟨q.l ++ [((k + 1 : Nat) : Int)], q.vs.set k true, x37.1, x37.2⟩), rfl, ⟨by rw [vis_none hnot (by simpa using c50)]; exact rfl, hv2⟩, hw.finH⟩
      · try (exact absurd c50 (by decide))
        all_goals (revert c50; (first | refine cv2 ?_ | refine cv4 ?_ | refine cv6 ?_ | refine cv8 ?_ | refine cva ?_ | refine cvc ?_ | refine cve ?_ | skip); intro c50)
        all_goals try (first | (exact absurd (by assumption) (by decide : ¬ (true = false))) | (exfalso; omega))
        all_goals
         obtain ⟨r, hr⟩ := Option.isSome_iff_exists.1 (show (bodyO (L.map NdV.c) cs ((k + 1 : Nat) : Int)).isSome = true by simpa using c50)
         rw [hr, Option.getD_some]
         have hfr := fit_nodeV h0 r
         have hri := mainK_in' (body_kind hr).2
         rw [List.length_map] at hri
         have hrr : r ≤ 9223372036854775807 := by omega
         have hbn := hfr.brN
         have hbs := hfr.brS
         have hfm := famV_br hri
         have hbr := hb.br r
        all_goals (refine k_skip ?_; refine k_seq ?_; refine k_seq ?_; refine k_region ?_; refine j_move ?_; refine j_nilCheck ?_; refine j_fieldAddr ?_; refine l_quiet (o_loadPart (k := 3) (by exact rfl) (by repeat (first | exact At.head | apply At.tail)) (by exact agg_of rfl) (by simp only [List.drop_zero, List.take_succ_cons, List.take_zero]; exact rfl) rfl) rfl ?_; refine j_move ?_; (refine j_own (cV (hc := fun w1 hw => vAt_c (hw.stAt (.inr (.inl (.head _))) (.inr (.inl (.tail _ (.head _)))) (fun f hf => .inr (.inl (.tail _ (.tail _ hf)))) h0) _ (by omega) hl)) (fun x56 => ?_); try (refine l_fact (fun h56 => ?_))); refine j_field ?_; refine j_len ?_; refine j_move ?_; refine l_nil ?_; refine k_block ?_)
        all_goals
         refine k_loopF [6, 10, 59, 60, 61, 62, 63, 64, 65, 66, 67, 68, 69, 70, 71, 72, 73, 74, 75, 76, 77, 78, 79, 80] (fun y : Nat × VQ => [(59, .int .i64 ((y.1 : Nat) : Int))]) (fun y => y.1 ≤ (nodeV L r).xs.length ∧ visB (L.map NdV.c) (vis (L.map NdV.c) cs m) ((nodeV L r).xs.take y.1) (q.l ++ [((k + 1 : Nat) : Int)]) = some y.2.l ∧ Vis L.length y.2.vs y.2.l) (fun y => [(b, trO L cs gen pn cn pc cc pv y.2 pp ps cp)]) (fun _ => _) (fun y => trW L pv y.2) (fun y => (nodeV L r).xs.length - y.1) ((0, ⟨q.l ++ [((k + 1 : Nat) : Int)], q.vs.set k true, x37.1, x37.2⟩)) (by decide) (fun _ => by exact rfl) ?_ (⟨Nat.zero_le _, rfl, hv2⟩) (fun w hw => by rw [show q.l.length + 1 = (q.l ++ [((k + 1 : Nat) : Int)]).length by simp] at hw; exact hw.back) (fun y f hx => ?_)
         · repeat (first | exact knows_nil _ | refine knows_cons (by first | exact rfl | (conv => { lhs; whnf }; simp; done)) ?_)
         dsimp only [mkU, List.map, List.cons_append, List.nil_append]
         have hyn := hx.2.2.len
         have hyl := hx.2.2.1
         all_goals (refine k_seq ?_; refine k_region ?_; refine j_lss ?_; refine l_nil ?_; refine k_seq ?_)
         all_goals
          refine k_if (fun c60 => ?_) (fun c60 => ?_)
          · try (exact absurd c60 (by decide))
            all_goals (revert c60; (first | refine cv1 ?_ | refine cv3 ?_ | refine cv5 ?_ | refine cv7 ?_ | refine cv9 ?_ | refine cvb ?_ | refine cvd ?_ | skip); intro c60)
            all_goals try (first | (exact absurd (by assumption) (by decide : ¬ (true = false))) | (exfalso; omega))
            all_goals
             have hbk : (nodeV L r).xs.getD y.1 0 ≤ 9223372036854775807 := hbr _ (by rw [List.getD_eq_getElem?_getD, List.getElem?_eq_getElem (by omega)]; exact List.getElem_mem _)
            all_goals (refine k_skip ?_; refine k_seq ?_; refine k_block ?_; refine k_seq ?_; refine k_region ?_; refine l_quiet (o_indexR (k := y.1) (by exact rfl) (by exact rfl) (by exact sl_of rfl) (by exact one_of rfl) (.old (.tail (.tail (FAt.of_mem hfm)))) (by omega) (by omega)) rfl ?_; refine l_quiet (o_loadR (q := y.1) (by exact rfl) (by exact one_of rfl) (.old (.tail (.tail (FAt.of_mem hfm)))) (by omega)) rfl ?_; refine j_assignL (fun _ => ?_); refine l_nil ?_; refine k_seq ?_; refine k_region ?_; refine j_move ?_; refine j_nilCheck ?_; refine j_fieldAddr ?_; refine l_quiet (o_loadPart (k := 3) (by exact rfl) (by repeat (first | exact At.head | apply At.tail)) (by exact agg_of rfl) (by simp only [List.drop_zero, List.take_succ_cons, List.take_zero]; exact rfl) rfl) rfl ?_; refine j_move ?_; (refine j_own (cV (hc := fun w1 hw => vAt_c (hw.stAt (.inr (.inl (.head _))) (.inr (.inl (.tail _ (.head _)))) (fun f hf => .inr (.inl (.tail _ (.tail _ hf)))) h0) _ (by omega) hl)) (fun x68 => ?_); try (refine l_fact (fun h68 => ?_))); refine j_field ?_; refine l_nil ?_; refine k_block ?_; refine k_seq ?_; refine k_region ?_; refine j_eql ?_; refine j_assignL (fun _ => ?_); refine l_nil ?_)
            all_goals
             refine k_if (fun c70 => ?_) (fun c70 => ?_)
             · try (exact absurd c70 (by decide))
               all_goals (revert c70; (first | refine cv1 ?_ | refine cv3 ?_ | refine cv5 ?_ | refine cv7 ?_ | refine cv9 ?_ | refine cvb ?_ | refine cvd ?_ | skip); intro c70)
               all_goals try (first | (exact absurd (by assumption) (by decide : ¬ (true = false))) | (exfalso; omega))
               all_goals (refine k_skip ?_; refine k_blk ?_; refine k_blk ?_; refine k_region ?_; refine j_inc ?_; refine j_move ?_; refine l_nil ?_)
               all_goals
                refine k_roundF ((by first | exact (y.1 + 1, x78.2) | exact (y.1 + 1, y.2))) ?_ ?_ (by repeat (first | (with_reducible exact Pre.refl) | refine Pre.cons (by exact rfl) ?_)) ?_ (fun w hw => hw.back)
                · first | omega | (simp only []; omega)
                · repeat' (first | exact knows_nil _ | refine knows_cons ?_ ?_)
                  all_goals (first | exact rfl | (conv => { lhs; whnf }; simp; done) | (conv => { lhs; whnf }; congr 1; omega))
                · first
                   | exact ⟨by omega, visB_next (by omega) hx.2.1 (by rw [hj.1]; exact visB_i hkd hvq), h78.2⟩
                   | exact ⟨by omega, visB_next (by omega) hx.2.1 (visB_s (by rw [nodeV_c']; exact c70)), hx.2.2⟩
             · try (exact absurd c70 (by decide))
               all_goals (revert c70; (first | refine cv2 ?_ | refine cv4 ?_ | refine cv6 ?_ | refine cv8 ?_ | refine cva ?_ | refine cvc ?_ | refine cve ?_ | skip); intro c70)
               all_goals try (first | (exact absurd (by assumption) (by decide : ¬ (true = false))) | (exfalso; omega))
               all_goals (refine k_seq ?_; refine k_region ?_; refine j_eql ?_; refine j_assignL (fun _ => ?_); refine l_nil ?_)
               all_goals
                refine k_if (fun c72 => ?_) (fun c72 => ?_)
                · try (exact absurd c72 (by decide))
                  all_goals (revert c72; (first | refine cv1 ?_ | refine cv3 ?_ | refine cv5 ?_ | refine cv7 ?_ | refine cv9 ?_ | refine cvb ?_ | refine cvd ?_ | skip); intro c72)
                  all_goals try (first | (exact absurd (by assumption) (by decide : ¬ (true = false))) | (exfalso; omega))
                  all_goals
                   obtain ⟨j, hj⟩ : ∃ j : Nat, (nodeV L r).xs.getD y.1 0 = ((j + 1 : Nat) : Int) ∧ j < L.length := by
                    have := kind_in (N := L.map NdV.c) (i := (nodeV L r).xs.getD y.1 0) (by rw [nodeV_c']; show (nodeV L ((nodeV L r).xs.getD y.1 0)).nd.kind ≠ 0; omega)
                    rw [List.length_map] at this
                    exact ⟨((nodeV L r).xs.getD y.1 0 - 1).toNat, by omega, by omega⟩
                   have hkd : (ndAt (L.map NdV.c) ((nodeV L r).xs.getD y.1 0)).kind = 2 := by rw [nodeV_c']; exact c72
                   rw [hj.1] at hkd ⊢
                  all_goals (refine k_seq ?_; refine k_region ?_; refine j_move ?_; refine j_move ?_; refine j_move ?_; refine j_inc ?_; (refine j_own (cM (hs := [(b, trO L cs gen pn cn pc cc pv y.2 pp ps cp)]) (os := trW L pv y.2) (hc := fun w1 hs => ih m rfl (lvl + 1) (by omega) j y.2 _ w1 hj.2 hx.2.2 hs)) (fun x78 => ?_); try (refine l_fact (fun h78 => ?_))); refine j_not ?_; refine l_nil ?_)
                  all_goals
                   refine k_if (fun c79 => ?_) (fun c79 => ?_)
                   · try (exact absurd c79 (by decide))
                     all_goals (revert c79; (first | refine cv1 ?_ | refine cv3 ?_ | refine cv5 ?_ | refine cv7 ?_ | refine cv9 ?_ | refine cvb ?_ | refine cvd ?_ | skip); intro c79)
                     all_goals try (first | (exact absurd (by assumption) (by decide : ¬ (true = false))) | (exfalso; omega))
                     all_goals (refine k_seq ?_; refine k_region ?_; refine j_assignL (fun _ => ?_); refine l_nil ?_)
                     all_goals
                      refine k_rv Try.results49 (fun w hw => ?_)
                      have hvq : vis (L.map NdV.c) cs m ((j + 1 : Nat) : Int) y.2.l = none := by
                       have h1 := h78.1
                       unfold VisR at h1
                       split at h1
                       · exfalso; simp_all
                       · assumption
                      exact ⟨(false, x78.2), rfl, ⟨by rw [vis_some hnot hr, nodeV_xs, visB_at (by omega) hx.2.1, hj.1, visB_f hkd hvq]; exact rfl, h78.2⟩, hw.finH⟩
                   · try (exact absurd c79 (by decide))
                     all_goals (revert c79; (first | refine cv2 ?_ | refine cv4 ?_ | refine cv6 ?_ | refine cv8 ?_ | refine cva ?_ | refine cvc ?_ | refine cve ?_ | skip); intro c79)
                     all_goals try (first | (exact absurd (by assumption) (by decide : ¬ (true = false))) | (exfalso; omega))
                     all_goals
                      have hvq : vis (L.map NdV.c) cs m ((j + 1 : Nat) : Int) y.2.l = some x78.2.l := by
                       have h1 := h78.1
                       unfold VisR at h1
                       split at h1
                       · rename_i l e
                         rw [e, h1.2]
                       · exfalso; simp_all
                     all_goals (refine k_skip ?_; refine k_blk ?_; refine k_blk ?_; refine k_region ?_; refine j_inc ?_; refine j_move ?_; refine l_nil ?_)
                     all_goals
                      refine k_roundF ((by first | exact (y.1 + 1, x78.2) | exact (y.1 + 1, y.2))) ?_ ?_ (by repeat (first | (with_reducible exact Pre.refl) | refine Pre.cons (by exact rfl) ?_)) ?_ (fun w hw => hw.back)
                      · first | omega | (simp only []; omega)
                      · repeat' (first | exact knows_nil _ | refine knows_cons ?_ ?_)
                        all_goals (first | exact rfl | (conv => { lhs; whnf }; simp; done) | (conv => { lhs; whnf }; congr 1; omega))
                      · first
                         | exact ⟨by omega, visB_next (by omega) hx.2.1 (by rw [hj.1]; exact visB_i hkd hvq), h78.2⟩
                         | exact ⟨by omega, visB_next (by omega) hx.2.1 (visB_s (by rw [nodeV_c']; exact c70)), hx.2.2⟩
                · try (exact absurd c72 (by decide))
                  all_goals (revert c72; (first | refine cv2 ?_ | refine cv4 ?_ | refine cv6 ?_ | refine cv8 ?_ | refine cva ?_ | refine cvc ?_ | refine cve ?_ | skip); intro c72)
                  all_goals try (first | (exact absurd (by assumption) (by decide : ¬ (true = false))) | (exfalso; omega))
                  all_goals (refine k_seq ?_; refine k_region ?_; refine j_assignL (fun _ => ?_); refine l_nil ?_)
                  all_goals
                   refine k_rv Try.results49 (fun w hw => ?_)
                   exact ⟨(false, y.2), rfl, ⟨by rw [vis_some hnot hr, nodeV_xs, visB_at (by omega) hx.2.1, visB_no (by rw [nodeV_c']; exact c70) (by rw [nodeV_c']; exact c72)]; exact rfl, hx.2.2⟩, hw.finH⟩
          · try (exact absurd c60 (by decide))
            all_goals (revert c60; (first | refine cv2 ?_ | refine cv4 ?_ | refine cv6 ?_ | refine cv8 ?_ | refine cva ?_ | refine cvc ?_ | refine cve ?_ | skip); intro c60)
            all_goals try (first | (exact absurd (by assumption) (by decide : ¬ (true = false))) | (exfalso; omega))
            all_goals (refine k_exit rfl ?_; refine k_seq ?_; refine k_region ?_; refine j_assignL (fun _ => ?_); refine l_nil ?_)
            all_goals
             refine k_rv Try.results49 (fun w hw => ?_)
             refine ⟨(true, y.2), rfl, ⟨?_, hx.2.2⟩, hw.finH⟩
             have e2 := hx.2.1
             rw [List.take_of_length_le (by omega)] at e2
             rw [vis_some hnot hr, nodeV_xs, e2]
             exact ⟨rfl, rfl⟩
theorem visit_c (h0 : Fits L) (hb : StB L cs) (hl : L.length ≤ 274877906944) (hc : cs.length ≤ 274877906944) (b pv : Nat) (pp : Option Addr) (ps : List Pr) (cp : Nat) : ∀ n, VisC L cs gen pn cn pc cc b pv pp ps cp n
  | 0 => visit1_c h0 hb hl hc b pv pp ps cp 0 fun m e => nomatch e
  | n + 1 => visit1_c h0 hb hl hc b pv pp ps cp (n + 1) fun m e => by cases e; exact visit_c h0 hb hl hc b pv pp ps cp n
end
end Go.Proofs.Ytpfjjagcmjmfpaa

/- Views: Contents and Inner. -/
set_option linter.unusedSimpArgs false
set_option linter.unusedVariables false
namespace Go.Proofs.Ytpfjjagcmjmfpaa
open Go Go.RowKit Go.Ct
section
variable {L : List NdV} {cs : List Int} {gen : Int} {pn pc : Option Addr} {cn cc : Nat} {w : World}
theorem vProper_ok (h : StAt w L cs pn pc) (hl : L.length ≤ 274877906944) (hc : cs.length ≤ 274877906944) (hcn : L.length ≤ cn) (hp : Proper L cs gen) : Calls Try.prog 47 #[stG L cs gen pn cn pc cc] w fun e w' => e = .returned (.bool true) ∧ St w [] [] w' := by
  refine enter Try.func47 Try.ntmps47 rfl rfl h.start ?_
  simp only [mkS]
  simp only [stG]
  all_goals (refine k_seq ?_; refine k_region ?_; refine j_box (fun x1 => ?_); refine j_assignL (fun _ => ?_); refine l_nil ?_; refine k_seq ?_; refine k_region ?_; refine j_load ?_; (refine j_own (cFH (hc := fun w1 hw => ofOk_c (h.of0 hw) hl hc hcn hp)) (fun x7 => ?_); try (refine l_fact (fun h7 => ?_))); refine j_move ?_; refine j_extract ?_; refine j_extract ?_; refine j_assignL (fun _ => ?_); refine j_assignL (fun _ => ?_); refine l_nil ?_; refine k_seq ?_; refine k_region ?_; refine j_move ?_; refine j_eql ?_; refine j_assignL (fun _ => ?_); refine l_nil ?_)
  all_goals
   refine k_rv Try.results47 (fun w hw => ?_)
   exact ⟨rfl, hw.done⟩
theorem vProper_no (h : StAt w L cs pn pc) (hl : L.length ≤ 274877906944) (hc : cs.length ≤ 274877906944) (hp : ¬ Proper L cs gen) : Calls Try.prog 47 #[stG L cs gen pn cn pc cc] w fun e w' => e = .returned (.bool false) ∧ St w [] [] w' := by
  refine enter Try.func47 Try.ntmps47 rfl rfl h.start ?_
  simp only [mkS]
  simp only [stG]
  all_goals (refine k_seq ?_; refine k_region ?_; refine j_box (fun x1 => ?_); refine j_assignL (fun _ => ?_); refine l_nil ?_; refine k_seq ?_; refine k_region ?_; refine j_load ?_; (refine j_own (cV (hc := fun w1 hw => ofNo_c (h.of0 hw) hl hc hp)) (fun x7 => ?_); try (refine l_fact (fun h7 => ?_))); refine j_move ?_; refine j_extract ?_; refine j_extract ?_; refine j_assignL (fun _ => ?_); refine j_assignL (fun _ => ?_); refine l_nil ?_; refine k_seq ?_; refine k_region ?_; refine j_move ?_; refine j_eql ?_; refine j_assignL (fun _ => ?_); refine l_nil ?_)
  all_goals
   refine k_rv Try.results47 (fun w hw => ?_)
   exact ⟨rfl, hw.done⟩
theorem vProper_c (h : StAt w L cs pn pc) (hl : L.length ≤ 274877906944) (hc : cs.length ≤ 274877906944) (hcn : L.length ≤ cn) : Calls Try.prog 47 #[stG L cs gen pn cn pc cc] w fun e w' => ∃ r : Bool, e = .returned (.bool r) ∧ (r = true ↔ Proper L cs gen) ∧ St w [] [] w' := by
  by_cases hp : Proper L cs gen
  · exact (vProper_ok h hl hc hcn hp).mono fun _ _ h => ⟨true, h.1, ⟨fun _ => hp, fun _ => rfl⟩, h.2⟩
  · exact (vProper_no h hl hc hp).mono fun _ _ h => ⟨false, h.1, ⟨(fun h => nomatch h), fun h => absurd h hp⟩, h.2⟩
theorem stB_of (hp : Proper L cs gen) (hr : Rngs L) (hl : L.length ≤ 274877906944) : StB L cs := by
  have hd : ∀ x : Int, Ins x L.length → x ≤ 9223372036854775807 := fun x h => by have := h.2; omega
  refine ⟨fun c => ?_, fun r => ?_, fun r => ?_, fun r => ?_, fun r => ?_, fun r => ?_, fun r => ?_⟩
  · unfold cellV
    split
    · exact hd _ (hp.cells _ (by omega))
    · decide
  · unfold nodeV
    split
    · exact hd _ (hp.nodes (r - 1).toNat (by omega)).2.2.2.1
    · decide
  · unfold nodeV
    split
    · exact hd _ (hp.nodes (r - 1).toNat (by omega)).2.2.2.2.2
    · decide
  · unfold nodeV
    split
    · exact (hr _ (getD_mem (by omega))).main
    · decide
  · unfold nodeV
    split
    · exact (hr _ (getD_mem (by omega))).prev
    · decide
  · unfold nodeV
    split
    · exact (hr _ (getD_mem (by omega))).status
    · decide
  · unfold nodeV
    split
    · intro b hb
      obtain ⟨i, hi, rfl⟩ := List.mem_iff_getElem.1 hb
      have := (hp.nodes (r - 1).toNat (by omega)).2.2.1 i hi
      rw [List.getD_eq_getElem?_getD, List.getElem?_eq_getElem hi] at this
      exact hd _ this
    · intro b hb
      cases hb
open Classical in
/-- What traverse visits. -/
noncomputable def travO (L : List NdV) (cs : List Int) (gen : Int) (c : Int) : Option (List Int) := if Proper L cs gen then (rootO (L.map NdV.c) cs c).bind fun r => vis (L.map NdV.c) cs 12 r [] else none
theorem travO_if (hp : Proper L cs gen) {c : Int} : travO L cs gen c = (rootO (L.map NdV.c) cs c).bind fun r => vis (L.map NdV.c) cs 12 r [] := if_pos hp
theorem root_in {c r : Int} (h : rootO (L.map NdV.c) cs c = some r) : ∃ k : Nat, r = ((k + 1 : Nat) : Int) ∧ k < L.length := by
  unfold rootO at h
  split at h
  · rename_i hk
    cases h
    have := kind_in (N := L.map NdV.c) (i := rootP (L.map NdV.c) cs c) (by omega)
    rw [List.length_map] at this
    exact ⟨(rootP (L.map NdV.c) cs c - 1).toNat, by omega, by omega⟩
  · cases h
theorem trav_dead {o : Option (List Int)} {b : Bool} {q : VQ} {P : Prop} (h : VisR o b q ∧ P) (ho : o = none) (hb : b = true) : False := by
  have h1 := h.1
  rw [ho, hb] at h1
  exact nomatch (show true = false from h1)
theorem traverse_no (h : StAt w L cs pn pc) (hr : Rngs L) (hl : L.length ≤ 274877906944) (hc : cs.length ≤ 274877906944) (hcn : L.length ≤ cn) (c : Int) (ro : Bool) (hi : c ≤ 9223372036854775807) (hn : travO L cs gen c = none) : Calls Try.prog 28 #[stG L cs gen pn cn pc cc, .agg ⟨[.int .i64 c, .bool ro]⟩] w fun e w' => e = .returned (.tuple #[.pointer none, .bool false]) ∧ St w [] [] w' := by
  refine enter Try.func28 Try.ntmps28 rfl rfl (h.start.nilOwn 29 1) ?_
  simp only [mkS]
  simp only [stG]
  all_goals (refine k_seq ?_; refine k_region ?_; refine j_box (fun x2 => ?_); refine j_box (fun x3 => ?_); refine j_assignL (fun _ => ?_); refine j_assignL (fun _ => ?_); refine l_nil ?_; refine k_seq ?_; refine k_seq ?_; refine k_region ?_; refine j_load ?_; (refine j_own (c0 (V := .bool) (hc := fun w1 hw => vProper_c (h.of0 hw) hl hc hcn)) (fun x10 => ?_); try (refine l_fact (fun h10 => ?_))); refine j_not ?_; refine l_nil ?_)
  all_goals
   refine k_if (fun c11 => ?_) (fun c11 => ?_)
   · try (exact absurd c11 (by decide))
     all_goals (revert c11; (first | refine cv1 ?_ | refine cv3 ?_ | refine cv5 ?_ | refine cv7 ?_ | refine cv9 ?_ | refine cvb ?_ | refine cvd ?_ | skip); intro c11)
     all_goals (refine k_seq ?_; refine k_region ?_; refine j_assignL (fun _ => ?_); refine j_assignL (fun _ => ?_); refine l_nil ?_)
     all_goals
      refine k_retvF Try.results28 (.tmp (by conv => { lhs; whnf }) (.tmp (by conv => { lhs; whnf }) .nil)) (fun w hw => ?_)
      first
       | exact ⟨rfl, hw.done⟩
       | exact (trav_dead h29 hn (by simpa using c30)).elim
   · try (exact absurd c11 (by decide))
     all_goals (revert c11; (first | refine cv2 ?_ | refine cv4 ?_ | refine cv6 ?_ | refine cv8 ?_ | refine cva ?_ | refine cvc ?_ | refine cve ?_ | skip); intro c11)
     all_goals
      have hp : Proper L cs gen := h10.1 (by simpa using c11)
      have hb := stB_of hp hr hl
      rw [travO_if hp] at hn
     all_goals (refine k_skip ?_; refine k_seq ?_; refine k_region ?_; refine j_load ?_; refine j_load ?_; (refine j_own (cV (hc := fun w1 hw => vRoot_c (h.of0 hw) hb hl hc c ro hi)) (fun x15 => ?_); try (refine l_fact (fun h15 => ?_))); refine j_move ?_; refine j_extract ?_; refine j_extract ?_; refine j_assignL (fun _ => ?_); refine j_assignL (fun _ => ?_); refine l_nil ?_; refine k_seq ?_; refine k_seq ?_; refine k_region ?_; refine j_move ?_; refine j_not ?_; refine l_nil ?_)
     all_goals
      refine k_if (fun c19 => ?_) (fun c19 => ?_)
      · try (exact absurd c19 (by decide))
        all_goals (revert c19; (first | refine cv1 ?_ | refine cv3 ?_ | refine cv5 ?_ | refine cv7 ?_ | refine cv9 ?_ | refine cvb ?_ | refine cvd ?_ | skip); intro c19)
        all_goals (refine k_seq ?_; refine k_region ?_; refine j_assignL (fun _ => ?_); refine j_assignL (fun _ => ?_); refine l_nil ?_)
        all_goals
         refine k_retvF Try.results28 (.tmp (by conv => { lhs; whnf }) (.tmp (by conv => { lhs; whnf }) .nil)) (fun w hw => ?_)
         first
          | exact ⟨rfl, hw.done⟩
          | exact (trav_dead h29 hn (by simpa using c30)).elim
      · try (exact absurd c19 (by decide))
        all_goals (revert c19; (first | refine cv2 ?_ | refine cv4 ?_ | refine cv6 ?_ | refine cv8 ?_ | refine cva ?_ | refine cvc ?_ | refine cve ?_ | skip); intro c19)
        all_goals
         obtain ⟨r, hrt⟩ := Option.isSome_iff_exists.1 (show (rootO (L.map NdV.c) cs c).isSome = true by simpa using c19)
         obtain ⟨k, rfl, hk⟩ := root_in hrt
         rw [hrt, Option.bind_some] at hn
         rw [hrt, Option.getD_some]
        all_goals (refine k_skip ?_; refine k_seq ?_; refine k_drawF (.one 0 [] (.one 1 [] (.one 2 [] (.one 3 [] (.one 4 [0] (.one 5 [] (.one 6 [] (.one 7 [] .nil)))))))) ?_; refine r_load (i := 0) ?_; refine r_fieldAddr (i := 1) ?_; refine r_load (i := 2) ?_; refine r_len (i := 3) ?_; refine r_makeSlice (i := 4) (hfire := (fun _ => by first | (refine FireAll.cons (by first | exact a_load | exact a_un) ?_; exact FireAll.nil) | (refine fireall_fact ?_; refine FireAll.cons (by first | exact a_load | exact a_un) ?_; exact FireAll.nil))) (h := fun x24 => ?_); refine r_build (i := 5) ?_; refine r_box (i := 6) (hfire := (fun _ => .nil)) (h := fun x26 => ?_); refine r_assignL (i := 7) (hfire := (fun _ => .nil)) (h := fun _ => ?_); refine r_fin ?_; refine k_seq ?_; refine k_seq ?_; refine k_region ?_; refine j_move ?_; refine j_move ?_; (refine j_own (cM (hs := [(x26, trO L cs gen pn cn pc cc x24 ⟨[], List.replicate L.length false, none, 0⟩ none [] 0)]) (os := trW L x24 ⟨[], List.replicate L.length false, none, 0⟩) (hc := fun w1 hs => visit_c h.fit hb hl hc x26 x24 none [] 0 12 0 rfl k ⟨[], List.replicate L.length false, none, 0⟩ _ w1 hk (Vis.zero _) hs)) (fun x29 => ?_); try (refine l_fact (fun h29 => ?_))); refine j_not ?_; refine l_nil ?_)
        all_goals
         refine k_if (fun c30 => ?_) (fun c30 => ?_)
         · try (exact absurd c30 (by decide))
           all_goals (revert c30; (first | refine cv1 ?_ | refine cv3 ?_ | refine cv5 ?_ | refine cv7 ?_ | refine cv9 ?_ | refine cvb ?_ | refine cvd ?_ | skip); intro c30)
           all_goals (refine k_seq ?_; refine k_region ?_; refine j_assignL (fun _ => ?_); refine j_assignL (fun _ => ?_); refine l_nil ?_)
           all_goals
            refine k_retvF Try.results28 (.tmp (by conv => { lhs; whnf }) (.tmp (by conv => { lhs; whnf }) .nil)) (fun w hw => ?_)
            first
             | exact ⟨rfl, hw.done⟩
             | exact (trav_dead h29 hn (by simpa using c30)).elim
         · try (exact absurd c30 (by decide))
           all_goals (revert c30; (first | refine cv2 ?_ | refine cv4 ?_ | refine cv6 ?_ | refine cv8 ?_ | refine cva ?_ | refine cvc ?_ | refine cve ?_ | skip); intro c30)
           all_goals (refine k_skip ?_; refine k_seq ?_; refine k_region ?_; refine j_move ?_; refine j_assignL (fun _ => ?_); refine j_assignL (fun _ => ?_); refine l_nil ?_)
           all_goals
            refine k_retvF Try.results28 (.tmp (by conv => { lhs; whnf }) (.tmp (by conv => { lhs; whnf }) .nil)) (fun w hw => ?_)
            first
             | exact ⟨rfl, hw.done⟩
             | exact (trav_dead h29 hn (by simpa using c30)).elim
theorem traverse_ok (h : StAt w L cs pn pc) (hr : Rngs L) (hl : L.length ≤ 274877906944) (hc : cs.length ≤ 274877906944) (hcn : L.length ≤ cn) (c : Int) (ro : Bool) (hi : c ≤ 9223372036854775807) {l : List Int} (hn : travO L cs gen c = some l) : Calls Try.prog 28 #[stG L cs gen pn cn pc cc, .agg ⟨[.int .i64 c, .bool ro]⟩] w fun e w' => ∃ x : Nat × Nat × VQ, e = .returned (.tuple #[.pointer (some ⟨x.1, 0, none⟩), .bool true]) ∧ (x.2.2.l = l ∧ l.length ≤ L.length) ∧ SF w [] [(x.1, trO L cs gen pn cn pc cc x.2.1 x.2.2 none [] 0)] [] [] (trW L x.2.1 x.2.2) w' := by
  have hp : Proper L cs gen := by
    unfold travO at hn
    split at hn
    · assumption
    · cases hn
  have hb := stB_of hp hr hl
  rw [travO_if hp] at hn
  obtain ⟨r, hrt, hn⟩ := Option.bind_eq_some_iff.1 hn
  obtain ⟨k, rfl, hk⟩ := root_in hrt
  refine enter Try.func28 Try.ntmps28 rfl rfl (h.start.nilOwn 29 1) ?_
  simp only [mkS]
  simp only [stG]
  all_goals (refine k_seq ?_; refine k_region ?_; refine j_box (fun x2 => ?_); refine j_box (fun x3 => ?_); refine j_assignL (fun _ => ?_); refine j_assignL (fun _ => ?_); refine l_nil ?_; refine k_seq ?_; refine k_seq ?_; refine k_region ?_; refine j_load ?_; (refine j_own (cV (hc := fun w1 hw => vProper_ok (h.of0 hw) hl hc hcn hp)) (fun x10 => ?_); try (refine l_fact (fun h10 => ?_))); refine j_not ?_; refine l_nil ?_)
  all_goals
   refine k_if (fun c11 => ?_) (fun c11 => ?_)
   · try (exact absurd c11 (by decide))
     all_goals (revert c11; (first | refine cv1 ?_ | refine cv3 ?_ | refine cv5 ?_ | refine cv7 ?_ | refine cv9 ?_ | refine cvb ?_ | refine cvd ?_ | skip); intro c11)
     all_goals (refine k_seq ?_; refine k_region ?_; refine j_assignL (fun _ => ?_); refine j_assignL (fun _ => ?_); refine l_nil ?_)
     all_goals
      refine k_retvF Try.results28 (.tmp (by conv => { lhs; whnf }) (.tmp (by conv => { lhs; whnf }) .nil)) (fun w hw => ?_)
      have h1 := h29.1
      rw [hn] at h1
      exact ⟨(x26, x24, x29.2), rfl, ⟨h1.2, by rw [← h1.2]; exact h29.2.len⟩, hw.ret (List.Sublist.cons_cons _ (List.nil_sublist _)) (FSub.ofSub fun f hf => (List.not_mem_nil hf).elim) (List.Sublist.refl _)⟩
   · try (exact absurd c11 (by decide))
     all_goals (revert c11; (first | refine cv2 ?_ | refine cv4 ?_ | refine cv6 ?_ | refine cv8 ?_ | refine cva ?_ | refine cvc ?_ | refine cve ?_ | skip); intro c11)
     all_goals (refine k_skip ?_; refine k_seq ?_; refine k_region ?_; refine j_load ?_; refine j_load ?_; (refine j_own (cV (hc := fun w1 hw => by have := vRoot_c (gen := gen) (cn := cn) (cc := cc) (h.of0 hw) hb hl hc c ro hi; rw [hrt] at this; exact this)) (fun x15 => ?_); try (refine l_fact (fun h15 => ?_))); refine j_move ?_; refine j_extract ?_; refine j_extract ?_; refine j_assignL (fun _ => ?_); refine j_assignL (fun _ => ?_); refine l_nil ?_; refine k_seq ?_; refine k_seq ?_; refine k_region ?_; refine j_move ?_; refine j_not ?_; refine l_nil ?_)
     all_goals
      refine k_if (fun c19 => ?_) (fun c19 => ?_)
      · try (exact absurd c19 (by decide))
        all_goals (revert c19; (first | refine cv1 ?_ | refine cv3 ?_ | refine cv5 ?_ | refine cv7 ?_ | refine cv9 ?_ | refine cvb ?_ | refine cvd ?_ | skip); intro c19)
        all_goals
         simp at c19
        all_goals (refine k_seq ?_; refine k_region ?_; refine j_assignL (fun _ => ?_); refine j_assignL (fun _ => ?_); refine l_nil ?_)
        all_goals
         refine k_retvF Try.results28 (.tmp (by conv => { lhs; whnf }) (.tmp (by conv => { lhs; whnf }) .nil)) (fun w hw => ?_)
         have h1 := h29.1
         rw [hn] at h1
         exact ⟨(x26, x24, x29.2), rfl, ⟨h1.2, by rw [← h1.2]; exact h29.2.len⟩, hw.ret (List.Sublist.cons_cons _ (List.nil_sublist _)) (FSub.ofSub fun f hf => (List.not_mem_nil hf).elim) (List.Sublist.refl _)⟩
      · try (exact absurd c19 (by decide))
        all_goals (revert c19; (first | refine cv2 ?_ | refine cv4 ?_ | refine cv6 ?_ | refine cv8 ?_ | refine cva ?_ | refine cvc ?_ | refine cve ?_ | skip); intro c19)
        all_goals (refine k_skip ?_; refine k_seq ?_; refine k_drawF (.one 0 [] (.one 1 [] (.one 2 [] (.one 3 [] (.one 4 [0] (.one 5 [] (.one 6 [] (.one 7 [] .nil)))))))) ?_; refine r_load (i := 0) ?_; refine r_fieldAddr (i := 1) ?_; refine r_load (i := 2) ?_; refine r_len (i := 3) ?_; refine r_makeSlice (i := 4) (hfire := (fun _ => by first | (refine FireAll.cons (by first | exact a_load | exact a_un) ?_; exact FireAll.nil) | (refine fireall_fact ?_; refine FireAll.cons (by first | exact a_load | exact a_un) ?_; exact FireAll.nil))) (h := fun x24 => ?_); refine r_build (i := 5) ?_; refine r_box (i := 6) (hfire := (fun _ => .nil)) (h := fun x26 => ?_); refine r_assignL (i := 7) (hfire := (fun _ => .nil)) (h := fun _ => ?_); refine r_fin ?_; refine k_seq ?_; refine k_seq ?_; refine k_region ?_; refine j_move ?_; refine j_move ?_; (refine j_own (cM (hs := [(x26, trO L cs gen pn cn pc cc x24 ⟨[], List.replicate L.length false, none, 0⟩ none [] 0)]) (os := trW L x24 ⟨[], List.replicate L.length false, none, 0⟩) (hc := fun w1 hs => visit_c h.fit hb hl hc x26 x24 none [] 0 12 0 rfl k ⟨[], List.replicate L.length false, none, 0⟩ _ w1 hk (Vis.zero _) hs)) (fun x29 => ?_); try (refine l_fact (fun h29 => ?_))); refine j_not ?_; refine l_nil ?_)
        all_goals
         refine k_if (fun c30 => ?_) (fun c30 => ?_)
         · try (exact absurd c30 (by decide))
           all_goals (revert c30; (first | refine cv1 ?_ | refine cv3 ?_ | refine cv5 ?_ | refine cv7 ?_ | refine cv9 ?_ | refine cvb ?_ | refine cvd ?_ | skip); intro c30)
           all_goals
            exfalso
            have h1 := h29.1
            rw [hn] at h1
            have h2 := h1.1
            simp_all
           all_goals (refine k_seq ?_; refine k_region ?_; refine j_assignL (fun _ => ?_); refine j_assignL (fun _ => ?_); refine l_nil ?_)
           all_goals
            refine k_retvF Try.results28 (.tmp (by conv => { lhs; whnf }) (.tmp (by conv => { lhs; whnf }) .nil)) (fun w hw => ?_)
            have h1 := h29.1
            rw [hn] at h1
            exact ⟨(x26, x24, x29.2), rfl, ⟨h1.2, by rw [← h1.2]; exact h29.2.len⟩, hw.ret (List.Sublist.cons_cons _ (List.nil_sublist _)) (FSub.ofSub fun f hf => (List.not_mem_nil hf).elim) (List.Sublist.refl _)⟩
         · try (exact absurd c30 (by decide))
           all_goals (revert c30; (first | refine cv2 ?_ | refine cv4 ?_ | refine cv6 ?_ | refine cv8 ?_ | refine cva ?_ | refine cvc ?_ | refine cve ?_ | skip); intro c30)
           all_goals (refine k_skip ?_; refine k_seq ?_; refine k_region ?_; refine j_move ?_; refine j_assignL (fun _ => ?_); refine j_assignL (fun _ => ?_); refine l_nil ?_)
           all_goals
            refine k_retvF Try.results28 (.tmp (by conv => { lhs; whnf }) (.tmp (by conv => { lhs; whnf }) .nil)) (fun w hw => ?_)
            have h1 := h29.1
            rw [hn] at h1
            exact ⟨(x26, x24, x29.2), rfl, ⟨h1.2, by rw [← h1.2]; exact h29.2.len⟩, hw.ret (List.Sublist.cons_cons _ (List.nil_sublist _)) (FSub.ofSub fun f hf => (List.not_mem_nil hf).elim) (List.Sublist.refl _)⟩
end
end Go.Proofs.Ytpfjjagcmjmfpaa

/- Views: the pairs of a trie are collected. -/
set_option linter.unusedSimpArgs false
set_option linter.unusedVariables false
namespace Go.Ct
open Go Go.RowKit
/-- Where the pairs lie. -/
structure PQ where
  ps : List Pr
  p : Option Addr
  c : Nat
/-- The I-nodes below i have been visited with success. -/
def Seen (N : List Nv) (cs : List Int) (n : Nat) (i : Int) : Prop := ∃ l l2, vis N cs n i l = some l2
theorem seen_branch {N : List Nv} {cs : List Int} {n : Nat} {xs l l2 : List Int} (h : visB N (vis N cs n) xs l = some l2) : ∀ b ∈ xs, (ndAt N b).kind = 4 ∨ ((ndAt N b).kind = 2 ∧ Seen N cs n b) := by
  induction xs generalizing l with
  | nil => intro b hb; cases hb
  | cons a r ih =>
    unfold visB at h
    split at h
    · rename_i hk
      intro b hb
      rcases List.mem_cons.1 hb with rfl | hb
      · exact .inl hk
      · exact ih h b hb
    split at h
    · rename_i hk
      obtain ⟨l3, h3, h⟩ := Option.bind_eq_some_iff.1 h
      intro b hb
      rcases List.mem_cons.1 hb with rfl | hb
      · exact .inr ⟨hk, l, l3, h3⟩
      · exact ih h b hb
    · cases h
theorem seen_body {N : List Nv} {cs : List Int} {n : Nat} {i : Int} (h : Seen N cs n i) : ∃ m k, n = k + 1 ∧ bodyO N cs i = some m ∧ ∀ b ∈ (ndAt N m).xs, (ndAt N b).kind = 4 ∨ ((ndAt N b).kind = 2 ∧ Seen N cs k b) := by
  obtain ⟨l, l2, h⟩ := h
  cases n with
  | zero => cases h
  | succ k =>
    unfold vis at h
    split at h
    · cases h
    obtain ⟨m, hm, h⟩ := Option.bind_eq_some_iff.1 h
    exact ⟨m, k, rfl, hm, seen_branch h⟩
theorem col_body {N : List Nv} {cs : List Int} {n : Nat} {i m : Int} (h : bodyO N cs i = some m) : col N cs (n + 1) i = ownP (ndAt N m) ++ colB N (col N cs n) (ndAt N m).xs := by
  unfold col
  rw [h]
theorem colB_next {N : List Nv} {f : Int → List Pr} {xs : List Int} {k : Nat} (hk : k < xs.length) : colB N f (xs.take (k + 1)) = colB N f (xs.take k) ++ colB N f [xs.getD k 0] := by
  rw [List.take_add_one, List.getElem?_eq_getElem hk, colB_app, List.getD_eq_getElem?_getD, List.getElem?_eq_getElem hk]
  rfl
theorem colB_le {N : List Nv} {f : Int → List Pr} {xs : List Int} {k : Nat} (hk : k < xs.length) : (colB N f (xs.take k)).length + (colB N f [xs.getD k 0]).length ≤ (colB N f xs).length := by
  have e : colB N f xs = colB N f (xs.take (k + 1)) ++ colB N f (xs.drop (k + 1)) := by rw [← colB_app, List.take_append_drop]
  rw [e, colB_next hk]
  simp only [List.length_append]
  omega
theorem colB_s {N : List Nv} {f : Int → List Pr} {b : Int} (h : (ndAt N b).kind = 4) : colB N f [b] = [((ndAt N b).key, (ndAt N b).val)] := by simp [colB, h]
theorem colB_i {N : List Nv} {f : Int → List Pr} {b : Int} (h : (ndAt N b).kind = 2) : colB N f [b] = f b := by simp [colB, h]
end Go.Ct
namespace Go.Proofs.Ytpfjjagcmjmfpaa
open Go Go.RowKit Go.Ct
section
variable {L : List NdV} {cs : List Int} {gen : Int} {pn pc : Option Addr} {cn cc : Nat} {w : World}
abbrev tcO (L : List NdV) (cs : List Int) (gen : Int) (pn : Option Addr) (cn : Nat) (pc : Option Addr) (cc : Nat) (v1 v2 : Value) (q : PQ) : Obj := .cells ⟨[.slice pn L.length cn, .slice pc cs.length cc, .int .i64 gen, v1, v2, .slice q.p q.ps.length q.c]⟩ 85 (0, 0)
abbrev tcW (q : PQ) : List Ow := [⟨q.p, prC q.ps, q.c, 56, 2⟩]
theorem tcOpen {w0 : World} {D : List Nat} {b : Nat} {q : PQ} {v1 v2 : Value} {A F : Fr} (h : SF w0 D [(b, tcO L cs gen pn cn pc cc v1 v2 q)] A F (tcW q) w) :
    SF w0 D [(b, .cells ⟨[.slice pn L.length cn, .slice pc cs.length cc, .int .i64 gen, v1, v2, .slice q.p q.ps.length q.c]⟩ 85 (0, 0))] A F [⟨q.p, prC q.ps, q.c, 56, 2⟩] w := h
/-- How many pairs there may be. -/
def ColC (L : List NdV) (cs : List Int) (gen : Int) (pn : Option Addr) (cn : Nat) (pc : Option Addr) (cc : Nat) (b : Nat) (v1 v2 : Value) (n : Nat) : Prop := ∀ (i : Int) (q : PQ) (D : List Nat) (w : World), i ≤ 9223372036854775807 → Seen (L.map NdV.c) cs n i → q.ps.length + (col (L.map NdV.c) cs n i).length ≤ 137438953472 → SF w D [(b, tcO L cs gen pn cn pc cc v1 v2 q)] ((pn, nvC L) :: (pc, refsC cs) :: famF L) [] (tcW q) w →
    Calls Try.prog 29 #[.pointer (some ⟨b, 0, none⟩), .int .i64 i] w fun e w' => ∃ x : PQ, e = .returned (.tuple #[]) ∧ x.ps = q.ps ++ col (L.map NdV.c) cs n i ∧ SF w D [(b, tcO L cs gen pn cn pc cc v1 v2 x)] [] [] (tcW x) w'
theorem collect1_c (h0 : Fits L) (hb : StB L cs) (hl : L.length ≤ 274877906944) (hc : cs.length ≤ 274877906944) (b : Nat) (v1 v2 : Value) (n : Nat) (ih : ∀ m, n = m + 1 → ColC L cs gen pn cn pc cc b v1 v2 m) : ColC L cs gen pn cn pc cc b v1 v2 n := by
  intro i q D w hi hs hq hsf
  obtain ⟨r, m, rfl, hr, hbr⟩ := seen_body hs
  have hri := mainK_in' (body_kind hr).2
  rw [List.length_map] at hri
  have hfr := fit_nodeV h0 r
  have hbn := hfr.brN
  have hbs := hfr.brS
  have hpn := hfr.prN
  have hps2 := hfr.prS
  have hfm := famV_br hri
  have hfp := famV_pr hri
  have hbb := hb.br r
  rw [nodeV_xs] at hbr
  have hown : ownP (ndAt (L.map NdV.c) r) = ownP (nodeV L r).c := by rw [nodeV_c']
  rw [col_body hr, nodeV_xs, hown, List.length_append] at hq
  refine enter Try.func29 Try.ntmps29 rfl rfl (tcOpen hsf) ?_
  simp only [mkS]
  all_goals (refine k_seq ?_; refine k_region ?_; refine j_move ?_; refine j_nilCheck ?_; refine j_fieldAddr ?_; refine l_quiet (o_loadPart (k := 3) (by exact rfl) (by repeat (first | exact At.head | apply At.tail)) (by exact agg_of rfl) (by simp only [List.drop_zero, List.take_succ_cons, List.take_zero]; exact rfl) rfl) rfl ?_; refine j_move ?_; (refine j_own (cV (hc := fun w1 hw => by have := vMain_c (gen := gen) (cn := cn) (cc := cc) (hw.stAt (.inr (.inl (.head _))) (.inr (.inl (.tail _ (.head _)))) (fun f hf => .inr (.inl (.tail _ (.tail _ hf)))) h0) hb hl hc i hi; rw [hr] at this; exact this)) (fun x16 => ?_); try (refine l_fact (fun h16 => ?_))); refine j_move ?_; refine j_extract ?_; refine j_extract ?_; refine j_assignL (fun _ => ?_); refine j_assignL (fun _ => ?_); refine l_nil ?_; refine k_seq ?_; refine k_region ?_; refine j_move ?_; refine j_nilCheck ?_; refine j_fieldAddr ?_; refine l_quiet (o_loadPart (k := 3) (by exact rfl) (by repeat (first | exact At.head | apply At.tail)) (by exact agg_of rfl) (by simp only [List.drop_zero, List.take_succ_cons, List.take_zero]; exact rfl) rfl) rfl ?_; refine j_move ?_; (refine j_own (cV (hc := fun w1 hw => vAt_c (hw.stAt (.inr (.inl (.head _))) (.inr (.inl (.tail _ (.head _)))) (fun f hf => .inr (.inl (.tail _ (.tail _ hf)))) h0) r (by omega) hl)) (fun x24 => ?_); try (refine l_fact (fun h24 => ?_))); refine j_alloc (fun x6 => ?_); refine j_store (fun _ => ?_); refine l_nil ?_; refine k_seq ?_; refine k_seq ?_; refine k_region ?_; refine j_fieldAddr ?_; refine j_load ?_; refine l_nil ?_; refine k_block ?_; refine k_seq ?_; refine k_region ?_; refine j_eql ?_; refine j_assignL (fun _ => ?_); refine l_nil ?_)
  all_goals
   refine k_if (fun c27 => ?_) (fun c27 => ?_)
   · try (exact absurd c27 (by decide))
     all_goals (revert c27; (first | refine cv1 ?_ | refine cv3 ?_ | refine cv5 ?_ | refine cv7 ?_ | refine cv9 ?_ | refine cvb ?_ | refine cvd ?_ | skip); intro c27)
     all_goals try (first | (exact absurd (by assumption) (by decide : ¬ (true = false))) | (exfalso; omega))
     all_goals
      have ho : ownP (nodeV L r).c = [((nodeV L r).nd.key, (nodeV L r).nd.val)] := if_pos c27
      have hol := congrArg List.length ho
      simp only [List.length_cons, List.length_nil] at hol
     all_goals (refine k_drawF (.one 0 [] (.one 1 [] (.one 2 [] (.one 3 [] (.one 4 [] (.one 5 [] (.one 6 [] (.one 7 [] (.one 8 [] (.one 9 [] (.one 10 [4] (.one 11 [] (.one 12 [] (.one 13 [] (.one 14 [] .nil))))))))))))))) ?_; refine r_move (i := 0) ?_; refine r_move (i := 1) ?_; refine r_nilCheck (i := 2) ?_; refine r_fieldAddr (i := 3) ?_; refine r_load (i := 4) ?_; refine r_fieldAddr (i := 5) ?_; refine r_load (i := 6) ?_; refine r_fieldAddr (i := 7) ?_; refine r_load (i := 8) ?_; refine r_build (i := 9) ?_; refine r_buildSlice (i := 10) (hfire := (fun _ => by first | (refine FireAll.cons (by first | exact a_load | exact a_un) ?_; exact FireAll.nil) | (refine fireall_fact ?_; refine FireAll.cons (by first | exact a_load | exact a_un) ?_; exact FireAll.nil))) (h := fun x39 => ?_); ((refine r_append (i := 11) (hfire := (fun _ => .nil)) (h := fun x40 => ?_); try (refine r_fact (fun h40 => ?_)))); refine r_nilCheck (i := 12) ?_; refine r_fieldAddr (i := 13) ?_; refine r_store (i := 14) (hfire := (fun _ => .nil)) (h := fun _ => ?_); refine r_fin ?_; refine k_blk ?_; refine k_seq ?_; refine k_region ?_; refine j_fieldAddr ?_; refine j_load ?_; refine j_len ?_; refine j_move ?_; refine l_nil ?_; refine k_block ?_)
     all_goals
      refine k_loopF [8, 9, 58, 59, 60, 61, 62, 63, 64, 65, 66, 67, 68, 69, 70, 71, 72, 73, 74, 75, 76, 77, 78, 79, 80, 81, 82, 83, 84, 85, 86, 87, 88] (fun y : Nat × PQ => [(58, .int .i64 ((y.1 : Nat) : Int))]) (fun y => y.1 ≤ (nodeV L r).xs.length ∧ y.2.ps = q.ps ++ (ownP (nodeV L r).c ++ colB (L.map NdV.c) (col (L.map NdV.c) cs m) ((nodeV L r).xs.take y.1))) (fun y => [(x6, .cells ⟨(nodeV L r).nd.cells⟩ 35 (0, 0)), (b, tcO L cs gen pn cn pc cc v1 v2 y.2)]) (fun _ => _) (fun y => [⟨y.2.p, prC y.2.ps, y.2.c, 56, 2⟩]) (fun y => (nodeV L r).xs.length - y.1) ((by first | exact (0, ⟨q.ps ++ [((nodeV L r).nd.key, (nodeV L r).nd.val)], x40.1, x40.2⟩) | exact (0, ⟨q.ps ++ (nodeV L r).ys, x52.1, x52.2⟩) | exact (0, q))) (by decide) (fun _ => by exact rfl) ?_ (⟨Nat.zero_le _, by rw [ho]; simp [colB]⟩) (fun w hw => by first | (rw [show q.ps.length + 1 = (q.ps ++ [((nodeV L r).nd.key, (nodeV L r).nd.val)]).length by simp] at hw; exact hw.back) | (rw [show q.ps.length + (nodeV L r).nd.prN = (q.ps ++ (nodeV L r).ys).length by rw [List.length_append, hpn]] at hw; exact hw.back) | exact hw.back) (fun y f hx => ?_)
      · repeat (first | exact knows_nil _ | refine knows_cons (by first | exact rfl | (conv => { lhs; whnf }; simp; done)) ?_)
      dsimp only [mkU, List.map, List.cons_append, List.nil_append]
      have hyl := congrArg List.length hx.2
      simp only [List.length_append] at hyl
      have hps := hx.1
      all_goals (refine k_seq ?_; refine k_region ?_; refine j_lss ?_; refine l_nil ?_; refine k_seq ?_)
      all_goals
       refine k_if (fun c59 => ?_) (fun c59 => ?_)
       · try (exact absurd c59 (by decide))
         all_goals (revert c59; (first | refine cv1 ?_ | refine cv3 ?_ | refine cv5 ?_ | refine cv7 ?_ | refine cv9 ?_ | refine cvb ?_ | refine cvd ?_ | skip); intro c59)
         all_goals try (first | (exact absurd (by assumption) (by decide : ¬ (true = false))) | (exfalso; omega))
         all_goals
          have hcl := colB_le (N := L.map NdV.c) (f := col (L.map NdV.c) cs m) (xs := (nodeV L r).xs) (k := y.1) (by omega)
          have hin : (nodeV L r).xs.getD y.1 0 ∈ (nodeV L r).xs := by rw [List.getD_eq_getElem?_getD, List.getElem?_eq_getElem (by omega)]; exact List.getElem_mem _
          have hbk := hbb _ hin
          have hbs2 := hbr _ hin
          rw [nodeV_c'] at hbs2
         all_goals (refine k_skip ?_; refine k_seq ?_; refine k_block ?_; refine k_seq ?_; refine k_region ?_; refine l_quiet (o_indexR (k := y.1) (by exact rfl) (by exact rfl) (by exact sl_of rfl) (by exact one_of rfl) (.old (.tail (.tail (FAt.of_mem hfm)))) (by omega) (by omega)) rfl ?_; refine l_quiet (o_loadR (q := y.1) (by exact rfl) (by exact one_of rfl) (.old (.tail (.tail (FAt.of_mem hfm)))) (by omega)) rfl ?_; refine j_assignL (fun _ => ?_); refine l_nil ?_; refine k_seq ?_; refine k_seq ?_; refine k_region ?_; refine j_move ?_; refine j_nilCheck ?_; refine j_fieldAddr ?_; refine l_quiet (o_loadPart (k := 3) (by exact rfl) (by repeat (first | exact At.head | apply At.tail)) (by exact agg_of rfl) (by simp only [List.drop_zero, List.take_succ_cons, List.take_zero]; exact rfl) rfl) rfl ?_; refine j_move ?_; (refine j_own (cV (hc := fun w1 hw => vAt_c (hw.stAt (.inr (.inl (.head _))) (.inr (.inl (.tail _ (.head _)))) (fun f hf => .inr (.inl (.tail _ (.tail _ hf)))) h0) _ (by omega) hl)) (fun x67 => ?_); try (refine l_fact (fun h67 => ?_))); refine j_alloc (fun x9 => ?_); refine j_store (fun _ => ?_); refine l_nil ?_; refine k_seq ?_; refine k_region ?_; refine j_fieldAddr ?_; refine j_load ?_; refine j_eql ?_; refine l_nil ?_)
         all_goals
          refine k_if (fun c70 => ?_) (fun c70 => ?_)
          · try (exact absurd c70 (by decide))
            all_goals (revert c70; (first | refine cv1 ?_ | refine cv3 ?_ | refine cv5 ?_ | refine cv7 ?_ | refine cv9 ?_ | refine cvb ?_ | refine cvd ?_ | skip); intro c70)
            all_goals try (first | (exact absurd (by assumption) (by decide : ¬ (true = false))) | (exfalso; omega))
            all_goals
             have hk4 : (ndAt (L.map NdV.c) ((nodeV L r).xs.getD y.1 0)).kind = 4 := by rw [nodeV_c']; exact c70
             rw [colB_s hk4] at hcl
             simp only [List.length_cons, List.length_nil] at hcl
            all_goals (refine k_seq ?_; refine k_drawF (.one 0 [] (.one 1 [] (.one 2 [] (.one 3 [] (.one 4 [] (.one 5 [] (.one 6 [] (.one 7 [] (.one 8 [] (.one 9 [] (.one 10 [4] (.one 11 [] (.one 12 [] (.one 13 [] (.one 14 [] .nil))))))))))))))) ?_; refine r_move (i := 0) ?_; refine r_move (i := 1) ?_; refine r_nilCheck (i := 2) ?_; refine r_fieldAddr (i := 3) ?_; refine r_load (i := 4) ?_; refine r_fieldAddr (i := 5) ?_; refine r_load (i := 6) ?_; refine r_fieldAddr (i := 7) ?_; refine r_load (i := 8) ?_; refine r_build (i := 9) ?_; refine r_buildSlice (i := 10) (hfire := (fun _ => by first | (refine FireAll.cons (by first | exact a_load | exact a_un) ?_; exact FireAll.nil) | (refine fireall_fact ?_; refine FireAll.cons (by first | exact a_load | exact a_un) ?_; exact FireAll.nil))) (h := fun x81 => ?_); ((refine r_append (i := 11) (hfire := (fun _ => .nil)) (h := fun x82 => ?_); try (refine r_fact (fun h82 => ?_)))); refine r_nilCheck (i := 12) ?_; refine r_fieldAddr (i := 13) ?_; refine r_store (i := 14) (hfire := (fun _ => .nil)) (h := fun _ => ?_); refine r_fin ?_; refine k_exit rfl ?_; refine k_region ?_; refine j_inc ?_; refine j_move ?_; refine l_nil ?_)
            all_goals
             refine k_roundF ((by first | exact (y.1 + 1, ⟨y.2.ps ++ [((nodeV L ((nodeV L r).xs.getD y.1 0)).nd.key, (nodeV L ((nodeV L r).xs.getD y.1 0)).nd.val)], x82.1, x82.2⟩) | exact (y.1 + 1, x87))) ?_ ?_ (by repeat (first | (with_reducible exact Pre.refl) | refine Pre.cons (by exact rfl) ?_)) ?_ (fun w hw => by first | (rw [show y.2.ps.length + 1 = (y.2.ps ++ [((nodeV L ((nodeV L r).xs.getD y.1 0)).nd.key, (nodeV L ((nodeV L r).xs.getD y.1 0)).nd.val)]).length by simp] at hw; exact hw.back) | exact hw.back)
             · first | omega | (simp only []; omega)
             · repeat' (first | exact knows_nil _ | refine knows_cons ?_ ?_)
               all_goals (first | exact rfl | (conv => { lhs; whnf }; simp; done) | (conv => { lhs; whnf }; congr 1; omega))
             · first
                | exact ⟨by omega, by rw [colB_next (by omega), colB_s hk4, nodeV_c', hx.2]; simp only [List.append_assoc]; exact rfl⟩
                | exact ⟨by omega, by rw [colB_next (by omega), colB_i hk2.1, h87, hx.2]; simp only [List.append_assoc]⟩
          · try (exact absurd c70 (by decide))
            all_goals (revert c70; (first | refine cv2 ?_ | refine cv4 ?_ | refine cv6 ?_ | refine cv8 ?_ | refine cva ?_ | refine cvc ?_ | refine cve ?_ | skip); intro c70)
            all_goals try (first | (exact absurd (by assumption) (by decide : ¬ (true = false))) | (exfalso; omega))
            all_goals
             have hk2 : (ndAt (L.map NdV.c) ((nodeV L r).xs.getD y.1 0)).kind = 2 ∧ Seen (L.map NdV.c) cs m ((nodeV L r).xs.getD y.1 0) := by
              rcases hbs2 with h4 | h2
              · exact absurd h4 c70
              · rw [nodeV_c']; exact h2
             rw [colB_i hk2.1] at hcl
            all_goals (refine k_skip ?_; refine k_region ?_; refine j_move ?_; refine j_move ?_; (refine j_own (cM (hs := [(b, tcO L cs gen pn cn pc cc v1 v2 y.2)]) (os := tcW y.2) (hc := fun w1 hs => ih m rfl ((nodeV L r).xs.getD y.1 0) y.2 _ w1 hbk hk2.2 (by omega) hs)) (fun x87 => ?_); try (refine l_fact (fun h87 => ?_))); refine l_nil ?_; refine k_blk ?_; refine k_region ?_; refine j_inc ?_; refine j_move ?_; refine l_nil ?_)
            all_goals
             refine k_roundF ((by first | exact (y.1 + 1, ⟨y.2.ps ++ [((nodeV L ((nodeV L r).xs.getD y.1 0)).nd.key, (nodeV L ((nodeV L r).xs.getD y.1 0)).nd.val)], x82.1, x82.2⟩) | exact (y.1 + 1, x87))) ?_ ?_ (by repeat (first | (with_reducible exact Pre.refl) | refine Pre.cons (by exact rfl) ?_)) ?_ (fun w hw => by first | (rw [show y.2.ps.length + 1 = (y.2.ps ++ [((nodeV L ((nodeV L r).xs.getD y.1 0)).nd.key, (nodeV L ((nodeV L r).xs.getD y.1 0)).nd.val)]).length by simp] at hw; exact hw.back) | exact hw.back)
             · first | omega | (simp only []; omega)
             · repeat' (first | exact knows_nil _ | refine knows_cons ?_ ?_)
               all_goals (first | exact rfl | (conv => { lhs; whnf }; simp; done) | (conv => { lhs; whnf }; congr 1; omega))
             · first
                | exact ⟨by omega, by rw [colB_next (by omega), colB_s hk4, nodeV_c', hx.2]; simp only [List.append_assoc]; exact rfl⟩
                | exact ⟨by omega, by rw [colB_next (by omega), colB_i hk2.1, h87, hx.2]; simp only [List.append_assoc]⟩
       · try (exact absurd c59 (by decide))
         all_goals (revert c59; (first | refine cv2 ?_ | refine cv4 ?_ | refine cv6 ?_ | refine cv8 ?_ | refine cva ?_ | refine cvc ?_ | refine cve ?_ | skip); intro c59)
         all_goals try (first | (exact absurd (by assumption) (by decide : ¬ (true = false))) | (exfalso; omega))
         all_goals refine k_exit rfl ?_
         all_goals
          refine k_endvF Try.results29 .nil (fun w hw => ?_)
          refine ⟨y.2, rfl, ?_, hw.finH⟩
          have e2 := hx.2
          rw [List.take_of_length_le (by omega)] at e2
          rw [col_body hr, nodeV_xs, hown, e2]
   · try (exact absurd c27 (by decide))
     all_goals (revert c27; (first | refine cv2 ?_ | refine cv4 ?_ | refine cv6 ?_ | refine cv8 ?_ | refine cva ?_ | refine cvc ?_ | refine cve ?_ | skip); intro c27)
     all_goals try (first | (exact absurd (by assumption) (by decide : ¬ (true = false))) | (exfalso; omega))
     all_goals (refine k_seq ?_; refine k_region ?_; refine j_eql ?_; refine j_assignL (fun _ => ?_); refine l_nil ?_)
     all_goals
      refine k_if (fun c43 => ?_) (fun c43 => ?_)
      · try (exact absurd c43 (by decide))
        all_goals (revert c43; (first | refine cv1 ?_ | refine cv3 ?_ | refine cv5 ?_ | refine cv7 ?_ | refine cv9 ?_ | refine cvb ?_ | refine cvd ?_ | skip); intro c43)
        all_goals try (first | (exact absurd (by assumption) (by decide : ¬ (true = false))) | (exfalso; omega))
        all_goals
         have ho : ownP (nodeV L r).c = (nodeV L r).ys := (if_neg (show ¬ (nodeV L r).nd.kind = 5 by simpa using c27)).trans (if_pos c43)
         have hol := congrArg List.length ho
        all_goals (refine k_drawF (.one 0 [] (.one 1 [] (.one 2 [] (.one 3 [] (.one 4 [] (.one 5 [] (.one 6 [] (.one 7 [] (.one 8 [] (.one 9 [] (.one 10 [] .nil))))))))))) ?_; refine r_move (i := 0) ?_; refine r_move (i := 1) ?_; refine r_nilCheck (i := 2) ?_; refine r_fieldAddr (i := 3) ?_; refine r_load (i := 4) ?_; refine r_fieldAddr (i := 5) ?_; refine r_load (i := 6) ?_; ((refine r_own (i := 7) (hq := (Loud.convOF (o_appP (l := q.ps) (l2 := (nodeV L r).ys) (by exact rfl) (by exact rfl) (by repeat (first | exact OAt.head | apply OAt.tail)) rfl (.old (.tail (.tail (FAt.of_mem hfp)))) hpn.symm (by exact elem_pairT rfl) (by exact sl_of rfl) (by omega)) (by intro x; simp only [setO]; exact rfl))) (hfire := (fun _ => .nil)) (h := fun x52 => ?_); try (refine r_fact (fun h52 => ?_)))); refine r_nilCheck (i := 8) ?_; refine r_fieldAddr (i := 9) ?_; refine r_store (i := 10) (hfire := (fun _ => .nil)) (h := fun _ => ?_); refine r_fin ?_; refine k_blk ?_; refine k_seq ?_; refine k_region ?_; refine j_fieldAddr ?_; refine j_load ?_; refine j_len ?_; refine j_move ?_; refine l_nil ?_; refine k_block ?_)
        all_goals
         refine k_loopF [8, 9, 58, 59, 60, 61, 62, 63, 64, 65, 66, 67, 68, 69, 70, 71, 72, 73, 74, 75, 76, 77, 78, 79, 80, 81, 82, 83, 84, 85, 86, 87, 88] (fun y : Nat × PQ => [(58, .int .i64 ((y.1 : Nat) : Int))]) (fun y => y.1 ≤ (nodeV L r).xs.length ∧ y.2.ps = q.ps ++ (ownP (nodeV L r).c ++ colB (L.map NdV.c) (col (L.map NdV.c) cs m) ((nodeV L r).xs.take y.1))) (fun y => [(x6, .cells ⟨(nodeV L r).nd.cells⟩ 35 (0, 0)), (b, tcO L cs gen pn cn pc cc v1 v2 y.2)]) (fun _ => _) (fun y => [⟨y.2.p, prC y.2.ps, y.2.c, 56, 2⟩]) (fun y => (nodeV L r).xs.length - y.1) ((by first | exact (0, ⟨q.ps ++ [((nodeV L r).nd.key, (nodeV L r).nd.val)], x40.1, x40.2⟩) | exact (0, ⟨q.ps ++ (nodeV L r).ys, x52.1, x52.2⟩) | exact (0, q))) (by decide) (fun _ => by exact rfl) ?_ (⟨Nat.zero_le _, by rw [ho]; simp [colB]⟩) (fun w hw => by first | (rw [show q.ps.length + 1 = (q.ps ++ [((nodeV L r).nd.key, (nodeV L r).nd.val)]).length by simp] at hw; exact hw.back) | (rw [show q.ps.length + (nodeV L r).nd.prN = (q.ps ++ (nodeV L r).ys).length by rw [List.length_append, hpn]] at hw; exact hw.back) | exact hw.back) (fun y f hx => ?_)
         · repeat (first | exact knows_nil _ | refine knows_cons (by first | exact rfl | (conv => { lhs; whnf }; simp; done)) ?_)
         dsimp only [mkU, List.map, List.cons_append, List.nil_append]
         have hyl := congrArg List.length hx.2
         simp only [List.length_append] at hyl
         have hps := hx.1
         all_goals (refine k_seq ?_; refine k_region ?_; refine j_lss ?_; refine l_nil ?_; refine k_seq ?_)
         all_goals
          refine k_if (fun c59 => ?_) (fun c59 => ?_)
          · try (exact absurd c59 (by decide))
            all_goals (revert c59; (first | refine cv1 ?_ | refine cv3 ?_ | refine cv5 ?_ | refine cv7 ?_ | refine cv9 ?_ | refine cvb ?_ | refine cvd ?_ | skip); intro c59)
            all_goals try (first | (exact absurd (by assumption) (by decide : ¬ (true = false))) | (exfalso; omega))
            all_goals
             have hcl := colB_le (N := L.map NdV.c) (f := col (L.map NdV.c) cs m) (xs := (nodeV L r).xs) (k := y.1) (by omega)
             have hin : (nodeV L r).xs.getD y.1 0 ∈ (nodeV L r).xs := by rw [List.getD_eq_getElem?_getD, List.getElem?_eq_getElem (by omega)]; exact List.getElem_mem _
             have hbk := hbb _ hin
             have hbs2 := hbr _ hin
             rw [nodeV_c'] at hbs2
            all_goals (refine k_skip ?_; refine k_seq ?_; refine k_block ?_; refine k_seq ?_; refine k_region ?_; refine l_quiet (o_indexR (k := y.1) (by exact rfl) (by exact rfl) (by exact sl_of rfl) (by exact one_of rfl) (.old (.tail (.tail (FAt.of_mem hfm)))) (by omega) (by omega)) rfl ?_; refine l_quiet (o_loadR (q := y.1) (by exact rfl) (by exact one_of rfl) (.old (.tail (.tail (FAt.of_mem hfm)))) (by omega)) rfl ?_; refine j_assignL (fun _ => ?_); refine l_nil ?_; refine k_seq ?_; refine k_seq ?_; refine k_region ?_; refine j_move ?_; refine j_nilCheck ?_; refine j_fieldAddr ?_; refine l_quiet (o_loadPart (k := 3) (by exact rfl) (by repeat (first | exact At.head | apply At.tail)) (by exact agg_of rfl) (by simp only [List.drop_zero, List.take_succ_cons, List.take_zero]; exact rfl) rfl) rfl ?_; refine j_move ?_; (refine j_own (cV (hc := fun w1 hw => vAt_c (hw.stAt (.inr (.inl (.head _))) (.inr (.inl (.tail _ (.head _)))) (fun f hf => .inr (.inl (.tail _ (.tail _ hf)))) h0) _ (by omega) hl)) (fun x67 => ?_); try (refine l_fact (fun h67 => ?_))); refine j_alloc (fun x9 => ?_); refine j_store (fun _ => ?_); refine l_nil ?_; refine k_seq ?_; refine k_region ?_; refine j_fieldAddr ?_; refine j_load ?_; refine j_eql ?_; refine l_nil ?_)
            all_goals
             refine k_if (fun c70 => ?_) (fun c70 => ?_)
             · try (exact absurd c70 (by decide))
               all_goals (revert c70; (first | refine cv1 ?_ | refine cv3 ?_ | refine cv5 ?_ | refine cv7 ?_ | refine cv9 ?_ | refine cvb ?_ | refine cvd ?_ | skip); intro c70)
               all_goals try (first | (exact absurd (by assumption) (by decide : ¬ (true = false))) | (exfalso; omega))
               all_goals
                have hk4 : (ndAt (L.map NdV.c) ((nodeV L r).xs.getD y.1 0)).kind = 4 := by rw [nodeV_c']; exact c70
                rw [colB_s hk4] at hcl
                simp only [List.length_cons, List.length_nil] at hcl
               all_goals (refine k_seq ?_; refine k_drawF (.one 0 [] (.one 1 [] (.one 2 [] (.one 3 [] (.one 4 [] (.one 5 [] (.one 6 [] (.one 7 [] (.one 8 [] (.one 9 [] (.one 10 [4] (.one 11 [] (.one 12 [] (.one 13 [] (.one 14 [] .nil))))))))))))))) ?_; refine r_move (i := 0) ?_; refine r_move (i := 1) ?_; refine r_nilCheck (i := 2) ?_; refine r_fieldAddr (i := 3) ?_; refine r_load (i := 4) ?_; refine r_fieldAddr (i := 5) ?_; refine r_load (i := 6) ?_; refine r_fieldAddr (i := 7) ?_; refine r_load (i := 8) ?_; refine r_build (i := 9) ?_; refine r_buildSlice (i := 10) (hfire := (fun _ => by first | (refine FireAll.cons (by first | exact a_load | exact a_un) ?_; exact FireAll.nil) | (refine fireall_fact ?_; refine FireAll.cons (by first | exact a_load | exact a_un) ?_; exact FireAll.nil))) (h := fun x81 => ?_); ((refine r_append (i := 11) (hfire := (fun _ => .nil)) (h := fun x82 => ?_); try (refine r_fact (fun h82 => ?_)))); refine r_nilCheck (i := 12) ?_; refine r_fieldAddr (i := 13) ?_; refine r_store (i := 14) (hfire := (fun _ => .nil)) (h := fun _ => ?_); refine r_fin ?_; refine k_exit rfl ?_; refine k_region ?_; refine j_inc ?_; refine j_move ?_; refine l_nil ?_)
               all_goals
                refine k_roundF ((by first | exact (y.1 + 1, ⟨y.2.ps ++ [((nodeV L ((nodeV L r).xs.getD y.1 0)).nd.key, (nodeV L ((nodeV L r).xs.getD y.1 0)).nd.val)], x82.1, x82.2⟩) | exact (y.1 + 1, x87))) ?_ ?_ (by repeat (first | (with_reducible exact Pre.refl) | refine Pre.cons (by exact rfl) ?_)) ?_ (fun w hw => by first | (rw [show y.2.ps.length + 1 = (y.2.ps ++ [((nodeV L ((nodeV L r).xs.getD y.1 0)).nd.key, (nodeV L ((nodeV L r).xs.getD y.1 0)).nd.val)]).length by simp] at hw; exact hw.back) | exact hw.back)
                · first | omega | (simp only []; omega)
                · repeat' (first | exact knows_nil _ | refine knows_cons ?_ ?_)
                  all_goals (first | exact rfl | (conv => { lhs; whnf }; simp; done) | (conv => { lhs; whnf }; congr 1; omega))
                · first
                   | exact ⟨by omega, by rw [colB_next (by omega), colB_s hk4, nodeV_c', hx.2]; simp only [List.append_assoc]; exact rfl⟩
                   | exact ⟨by omega, by rw [colB_next (by omega), colB_i hk2.1, h87, hx.2]; simp only [List.append_assoc]⟩
             · try (exact absurd c70 (by decide))
               all_goals (revert c70; (first | refine cv2 ?_ | refine cv4 ?_ | refine cv6 ?_ | refine cv8 ?_ | refine cva ?_ | refine cvc ?_ | refine cve ?_ | skip); intro c70)
               all_goals try (first | (exact absurd (by assumption) (by decide : ¬ (true = false))) | (exfalso; omega))
               all_goals
                have hk2 : (ndAt (L.map NdV.c) ((nodeV L r).xs.getD y.1 0)).kind = 2 ∧ Seen (L.map NdV.c) cs m ((nodeV L r).xs.getD y.1 0) := by
                 rcases hbs2 with h4 | h2
                 · exact absurd h4 c70
                 · rw [nodeV_c']; exact h2
                rw [colB_i hk2.1] at hcl
               all_goals (refine k_skip ?_; refine k_region ?_; refine j_move ?_; refine j_move ?_; (refine j_own (cM (hs := [(b, tcO L cs gen pn cn pc cc v1 v2 y.2)]) (os := tcW y.2) (hc := fun w1 hs => ih m rfl ((nodeV L r).xs.getD y.1 0) y.2 _ w1 hbk hk2.2 (by omega) hs)) (fun x87 => ?_); try (refine l_fact (fun h87 => ?_))); refine l_nil ?_; refine k_blk ?_; refine k_region ?_; refine j_inc ?_; refine j_move ?_; refine l_nil ?_)
               all_goals
                refine k_roundF ((by first | exact (y.1 + 1, ⟨y.2.ps ++ [((nodeV L ((nodeV L r).xs.getD y.1 0)).nd.key, (nodeV L ((nodeV L r).xs.getD y.1 0)).nd.val)], x82.1, x82.2⟩) | exact (y.1 + 1, x87))) ?_ ?_ (by repeat (first | (with_reducible exact Pre.refl) | refine Pre.cons (by exact rfl) ?_)) ?_ (fun w hw => by first | (rw [show y.2.ps.length + 1 = (y.2.ps ++ [((nodeV L ((nodeV L r).xs.getD y.1 0)).nd.key, (nodeV L ((nodeV L r).xs.getD y.1 0)).nd.val)]).length by simp] at hw; exact hw.back) | exact hw.back)
                · first | omega | (simp only []; omega)
                · repeat' (first | exact knows_nil _ | refine knows_cons ?_ ?_)
                  all_goals (first | exact rfl | (conv => { lhs; whnf }; simp; done) | (conv => { lhs; whnf }; congr 1; omega))
                · first
                   | exact ⟨by omega, by rw [colB_next (by omega), colB_s hk4, nodeV_c', hx.2]; simp only [List.append_assoc]; exact rfl⟩
                   | exact ⟨by omega, by rw [colB_next (by omega), colB_i hk2.1, h87, hx.2]; simp only [List.append_assoc]⟩
          · try (exact absurd c59 (by decide))
            all_goals (revert c59; (first | refine cv2 ?_ | refine cv4 ?_ | refine cv6 ?_ | refine cv8 ?_ | refine cva ?_ | refine cvc ?_ | refine cve ?_ | skip); intro c59)
            all_goals try (first | (exact absurd (by assumption) (by decide : ¬ (true = false))) | (exfalso; omega))
            all_goals refine k_exit rfl ?_
            all_goals
             refine k_endvF Try.results29 .nil (fun w hw => ?_)
             refine ⟨y.2, rfl, ?_, hw.finH⟩
             have e2 := hx.2
             rw [List.take_of_length_le (by omega)] at e2
             rw [col_body hr, nodeV_xs, hown, e2]
      · try (exact absurd c43 (by decide))
        all_goals (revert c43; (first | refine cv2 ?_ | refine cv4 ?_ | refine cv6 ?_ | refine cv8 ?_ | refine cva ?_ | refine cvc ?_ | refine cve ?_ | skip); intro c43)
        all_goals try (first | (exact absurd (by assumption) (by decide : ¬ (true = false))) | (exfalso; omega))
        all_goals
         have ho : ownP (nodeV L r).c = [] := (if_neg (show ¬ (nodeV L r).nd.kind = 5 by simpa using c27)).trans (if_neg (show ¬ (nodeV L r).nd.kind = 6 by simpa using c43))
        all_goals (refine k_skip ?_; refine k_blk ?_; refine k_seq ?_; refine k_region ?_; refine j_fieldAddr ?_; refine j_load ?_; refine j_len ?_; refine j_move ?_; refine l_nil ?_; refine k_block ?_)
        all_goals
         refine k_loopF [8, 9, 58, 59, 60, 61, 62, 63, 64, 65, 66, 67, 68, 69, 70, 71, 72, 73, 74, 75, 76, 77, 78, 79, 80, 81, 82, 83, 84, 85, 86, 87, 88] (fun y : Nat × PQ => [(58, .int .i64 ((y.1 : Nat) : Int))]) (fun y => y.1 ≤ (nodeV L r).xs.length ∧ y.2.ps = q.ps ++ (ownP (nodeV L r).c ++ colB (L.map NdV.c) (col (L.map NdV.c) cs m) ((nodeV L r).xs.take y.1))) (fun y => [(x6, .cells ⟨(nodeV L r).nd.cells⟩ 35 (0, 0)), (b, tcO L cs gen pn cn pc cc v1 v2 y.2)]) (fun _ => _) (fun y => [⟨y.2.p, prC y.2.ps, y.2.c, 56, 2⟩]) (fun y => (nodeV L r).xs.length - y.1) ((by first | exact (0, ⟨q.ps ++ [((nodeV L r).nd.key, (nodeV L r).nd.val)], x40.1, x40.2⟩) | exact (0, ⟨q.ps ++ (nodeV L r).ys, x52.1, x52.2⟩) | exact (0, q))) (by decide) (fun _ => by exact rfl) ?_ (⟨Nat.zero_le _, by rw [ho]; simp [colB]⟩) (fun w hw => by first | (rw [show q.ps.length + 1 = (q.ps ++ [((nodeV L r).nd.key, (nodeV L r).nd.val)]).length by simp] at hw; exact hw.back) | (rw [show q.ps.length + (nodeV L r).nd.prN = (q.ps ++ (nodeV L r).ys).length by rw [List.length_append, hpn]] at hw; exact hw.back) | exact hw.back) (fun y f hx => ?_)
         · repeat (first | exact knows_nil _ | refine knows_cons (by first | exact rfl | (conv => { lhs; whnf }; simp; done)) ?_)
         dsimp only [mkU, List.map, List.cons_append, List.nil_append]
         have hyl := congrArg List.length hx.2
         simp only [List.length_append] at hyl
         have hps := hx.1
         all_goals (refine k_seq ?_; refine k_region ?_; refine j_lss ?_; refine l_nil ?_; refine k_seq ?_)
         all_goals
          refine k_if (fun c59 => ?_) (fun c59 => ?_)
          · try (exact absurd c59 (by decide))
            all_goals (revert c59; (first | refine cv1 ?_ | refine cv3 ?_ | refine cv5 ?_ | refine cv7 ?_ | refine cv9 ?_ | refine cvb ?_ | refine cvd ?_ | skip); intro c59)
            all_goals try (first | (exact absurd (by assumption) (by decide : ¬ (true = false))) | (exfalso; omega))
            all_goals
             have hcl := colB_le (N := L.map NdV.c) (f := col (L.map NdV.c) cs m) (xs := (nodeV L r).xs) (k := y.1) (by omega)
             have hin : (nodeV L r).xs.getD y.1 0 ∈ (nodeV L r).xs := by rw [List.getD_eq_getElem?_getD, List.getElem?_eq_getElem (by omega)]; exact List.getElem_mem _
             have hbk := hbb _ hin
             have hbs2 := hbr _ hin
             rw [nodeV_c'] at hbs2
            all_goals (refine k_skip ?_; refine k_seq ?_; refine k_block ?_; refine k_seq ?_; refine k_region ?_; refine l_quiet (o_indexR (k := y.1) (by exact rfl) (by exact rfl) (by exact sl_of rfl) (by exact one_of rfl) (.old (.tail (.tail (FAt.of_mem hfm)))) (by omega) (by omega)) rfl ?_; refine l_quiet (o_loadR (q := y.1) (by exact rfl) (by exact one_of rfl) (.old (.tail (.tail (FAt.of_mem hfm)))) (by omega)) rfl ?_; refine j_assignL (fun _ => ?_); refine l_nil ?_; refine k_seq ?_; refine k_seq ?_; refine k_region ?_; refine j_move ?_; refine j_nilCheck ?_; refine j_fieldAddr ?_; refine l_quiet (o_loadPart (k := 3) (by exact rfl) (by repeat (first | exact At.head | apply At.tail)) (by exact agg_of rfl) (by simp only [List.drop_zero, List.take_succ_cons, List.take_zero]; exact rfl) rfl) rfl ?_; refine j_move ?_; (refine j_own (cV (hc := fun w1 hw => vAt_c (hw.stAt (.inr (.inl (.head _))) (.inr (.inl (.tail _ (.head _)))) (fun f hf => .inr (.inl (.tail _ (.tail _ hf)))) h0) _ (by omega) hl)) (fun x67 => ?_); try (refine l_fact (fun h67 => ?_))); refine j_alloc (fun x9 => ?_); refine j_store (fun _ => ?_); refine l_nil ?_; refine k_seq ?_; refine k_region ?_; refine j_fieldAddr ?_; refine j_load ?_; refine j_eql ?_; refine l_nil ?_)
            all_goals
             refine k_if (fun c70 => ?_) (fun c70 => ?_)
             · try (exact absurd c70 (by decide))
               all_goals (revert c70; (first | refine cv1 ?_ | refine cv3 ?_ | refine cv5 ?_ | refine cv7 ?_ | refine cv9 ?_ | refine cvb ?_ | refine cvd ?_ | skip); intro c70)
               all_goals try (first | (exact absurd (by assumption) (by decide : ¬ (true = false))) | (exfalso; omega))
               all_goals
                have hk4 : (ndAt (L.map NdV.c) ((nodeV L r).xs.getD y.1 0)).kind = 4 := by rw [nodeV_c']; exact c70
                rw [colB_s hk4] at hcl
                simp only [List.length_cons, List.length_nil] at hcl
               all_goals (refine k_seq ?_; refine k_drawF (.one 0 [] (.one 1 [] (.one 2 [] (.one 3 [] (.one 4 [] (.one 5 [] (.one 6 [] (.one 7 [] (.one 8 [] (.one 9 [] (.one 10 [4] (.one 11 [] (.one 12 [] (.one 13 [] (.one 14 [] .nil))))))))))))))) ?_; refine r_move (i := 0) ?_; refine r_move (i := 1) ?_; refine r_nilCheck (i := 2) ?_; refine r_fieldAddr (i := 3) ?_; refine r_load (i := 4) ?_; refine r_fieldAddr (i := 5) ?_; refine r_load (i := 6) ?_; refine r_fieldAddr (i := 7) ?_; refine r_load (i := 8) ?_; refine r_build (i := 9) ?_; refine r_buildSlice (i := 10) (hfire := (fun _ => by first | (refine FireAll.cons (by first | exact a_load | exact a_un) ?_; exact FireAll.nil) | (refine fireall_fact ?_; refine FireAll.cons (by first | exact a_load | exact a_un) ?_; exact FireAll.nil))) (h := fun x81 => ?_); ((refine r_append (i := 11) (hfire := (fun _ => .nil)) (h := fun x82 => ?_); try (refine r_fact (fun h82 => ?_)))); refine r_nilCheck (i := 12) ?_; refine r_fieldAddr (i := 13) ?_; refine r_store (i := 14) (hfire := (fun _ => .nil)) (h := fun _ => ?_); refine r_fin ?_; refine k_exit rfl ?_; refine k_region ?_; refine j_inc ?_; refine j_move ?_; refine l_nil ?_)
               all_goals
                refine k_roundF ((by first | exact (y.1 + 1, ⟨y.2.ps ++ [((nodeV L ((nodeV L r).xs.getD y.1 0)).nd.key, (nodeV L ((nodeV L r).xs.getD y.1 0)).nd.val)], x82.1, x82.2⟩) | exact (y.1 + 1, x87))) ?_ ?_ (by repeat (first | (with_reducible exact Pre.refl) | refine Pre.cons (by exact rfl) ?_)) ?_ (fun w hw => by first | (rw [show y.2.ps.length + 1 = (y.2.ps ++ [((nodeV L ((nodeV L r).xs.getD y.1 0)).nd.key, (nodeV L ((nodeV L r).xs.getD y.1 0)).nd.val)]).length by simp] at hw; exact hw.back) | exact hw.back)
                · first | omega | (simp only []; omega)
                · repeat' (first | exact knows_nil _ | refine knows_cons ?_ ?_)
                  all_goals (first | exact rfl | (conv => { lhs; whnf }; simp; done) | (conv => { lhs; whnf }; congr 1; omega))
                · first
                   | exact ⟨by omega, by rw [colB_next (by omega), colB_s hk4, nodeV_c', hx.2]; simp only [List.append_assoc]; exact rfl⟩
                   | exact ⟨by omega, by rw [colB_next (by omega), colB_i hk2.1, h87, hx.2]; simp only [List.append_assoc]⟩
             · try (exact absurd c70 (by decide))
               all_goals (revert c70; (first | refine cv2 ?_ | refine cv4 ?_ | refine cv6 ?_ | refine cv8 ?_ | refine cva ?_ | refine cvc ?_ | refine cve ?_ | skip); intro c70)
               all_goals try (first | (exact absurd (by assumption) (by decide : ¬ (true = false))) | (exfalso; omega))
               all_goals
                have hk2 : (ndAt (L.map NdV.c) ((nodeV L r).xs.getD y.1 0)).kind = 2 ∧ Seen (L.map NdV.c) cs m ((nodeV L r).xs.getD y.1 0) := by
                 rcases hbs2 with h4 | h2
                 · exact absurd h4 c70
                 · rw [nodeV_c']; exact h2
                rw [colB_i hk2.1] at hcl
               all_goals (refine k_skip ?_; refine k_region ?_; refine j_move ?_; refine j_move ?_; (refine j_own (cM (hs := [(b, tcO L cs gen pn cn pc cc v1 v2 y.2)]) (os := tcW y.2) (hc := fun w1 hs => ih m rfl ((nodeV L r).xs.getD y.1 0) y.2 _ w1 hbk hk2.2 (by omega) hs)) (fun x87 => ?_); try (refine l_fact (fun h87 => ?_))); refine l_nil ?_; refine k_blk ?_; refine k_region ?_; refine j_inc ?_; refine j_move ?_; refine l_nil ?_)
               all_goals
                refine k_roundF ((by first | exact (y.1 + 1, ⟨y.2.ps ++ [((nodeV L ((nodeV L r).xs.getD y.1 0)).nd.key, (nodeV L ((nodeV L r).xs.getD y.1 0)).nd.val)], x82.1, x82.2⟩) | exact (y.1 + 1, x87))) ?_ ?_ (by repeat (first | (with_reducible exact Pre.refl) | refine Pre.cons (by exact rfl) ?_)) ?_ (fun w hw => by first | (rw [show y.2.ps.length + 1 = (y.2.ps ++ [((nodeV L ((nodeV L r).xs.getD y.1 0)).nd.key, (nodeV L ((nodeV L r).xs.getD y.1 0)).nd.val)]).length by simp] at hw; exact hw.back) | exact hw.back)
                · first | omega | (simp only []; omega)
                · repeat' (first | exact knows_nil _ | refine knows_cons ?_ ?_)
                  all_goals (first | exact rfl | (conv => { lhs; whnf }; simp; done) | (conv => { lhs; whnf }; congr 1; omega))
                · first
                   | exact ⟨by omega, by rw [colB_next (by omega), colB_s hk4, nodeV_c', hx.2]; simp only [List.append_assoc]; exact rfl⟩
                   | exact ⟨by omega, by rw [colB_next (by omega), colB_i hk2.1, h87, hx.2]; simp only [List.append_assoc]⟩
          · try (exact absurd c59 (by decide))
            all_goals (revert c59; (first | refine cv2 ?_ | refine cv4 ?_ | refine cv6 ?_ | refine cv8 ?_ | refine cva ?_ | refine cvc ?_ | refine cve ?_ | skip); intro c59)
            all_goals try (first | (exact absurd (by assumption) (by decide : ¬ (true = false))) | (exfalso; omega))
            all_goals refine k_exit rfl ?_
            all_goals
             refine k_endvF Try.results29 .nil (fun w hw => ?_)
             refine ⟨y.2, rfl, ?_, hw.finH⟩
             have e2 := hx.2
             rw [List.take_of_length_le (by omega)] at e2
             rw [col_body hr, nodeV_xs, hown, e2]
theorem collect_c (h0 : Fits L) (hb : StB L cs) (hl : L.length ≤ 274877906944) (hc : cs.length ≤ 274877906944) (b : Nat) (v1 v2 : Value) : ∀ n, ColC L cs gen pn cn pc cc b v1 v2 n
  | 0 => collect1_c h0 hb hl hc b v1 v2 0 fun m e => nomatch e
  | n + 1 => collect1_c h0 hb hl hc b v1 v2 (n + 1) fun m e => by cases e; exact collect_c h0 hb hl hc b v1 v2 n
end
end Go.Proofs.Ytpfjjagcmjmfpaa

/- Views: Contents, Inner, Root, Main. -/
set_option linter.unusedSimpArgs false
set_option linter.unusedVariables false
namespace Go.Proofs.Ytpfjjagcmjmfpaa
open Go Go.RowKit Go.Ct
section
variable {L : List NdV} {cs : List Int} {gen : Int} {pn pc : Option Addr} {cn cc : Nat} {w : World}
theorem travO_some {c : Int} {l : List Int} (h : travO L cs gen c = some l) : Proper L cs gen ∧ ∃ r t, rootO (L.map NdV.c) cs c = some r ∧ vis (L.map NdV.c) cs 12 r [] = some (r :: t) ∧ l = r :: t := by
  unfold travO at h
  split at h
  · rename_i hp
    obtain ⟨r, hr, h⟩ := Option.bind_eq_some_iff.1 h
    obtain ⟨t, ht⟩ := vis_pre 12 r [] l h
    rw [List.nil_append] at ht
    exact ⟨hp, r, t, hr, by rw [h, ht], ht⟩
  · cases h
/-- What Contents gives. -/
noncomputable def contO (L : List NdV) (cs : List Int) (gen : Int) (c : Int) : Option (List Pr) := (travO L cs gen c).map fun l => col (L.map NdV.c) cs 12 (l.headD 0)
theorem vInner_no (h : StAt w L cs pn pc) (hr : Rngs L) (hl : L.length ≤ 274877906944) (hc : cs.length ≤ 274877906944) (hcn : L.length ≤ cn) (c : Int) (ro : Bool) (hi : c ≤ 9223372036854775807) (hn : travO L cs gen c = none) : Calls Try.prog 14 #[stG L cs gen pn cn pc cc, .agg ⟨[.int .i64 c, .bool ro]⟩] w fun e w' => e = .returned (.tuple #[.slice none 0 0, .int .i64 1]) ∧ St w [] [] w' := by
  refine enter Try.func14 Try.ntmps14 rfl rfl h.start ?_
  simp only [mkS]
  simp only [stG]
  all_goals (refine k_seq ?_; refine k_region ?_; refine j_box (fun x2 => ?_); refine j_box (fun x3 => ?_); refine j_assignL (fun _ => ?_); refine j_assignL (fun _ => ?_); refine l_nil ?_; refine k_seq ?_; refine k_region ?_; refine j_load ?_; refine j_load ?_; (refine j_own (cV (hc := fun w1 hw => traverse_no (h.of0 hw) hr hl hc hcn c ro hi hn)) (fun x11 => ?_); try (refine l_fact (fun h11 => ?_))); refine j_move ?_; refine j_extract ?_; refine j_extract ?_; refine j_assignL (fun _ => ?_); refine j_assignL (fun _ => ?_); refine l_nil ?_; refine k_seq ?_; refine k_seq ?_; refine k_region ?_; refine j_move ?_; refine j_not ?_; refine l_nil ?_)
  all_goals
   refine k_if (fun c15 => ?_) (fun c15 => ?_)
   · try (exact absurd c15 (by decide))
     all_goals (revert c15; (first | refine cv1 ?_ | refine cv3 ?_ | refine cv5 ?_ | refine cv7 ?_ | refine cv9 ?_ | refine cvb ?_ | refine cvd ?_ | skip); intro c15)
     all_goals (refine k_seq ?_; refine k_region ?_; refine j_assignL (fun _ => ?_); refine j_assignL (fun _ => ?_); refine l_nil ?_)
     all_goals
      refine k_retvF Try.results14 (.tmp (by conv => { lhs; whnf }) (.tmp (by conv => { lhs; whnf }) .nil)) (fun w hw => ?_)
      exact ⟨rfl, hw.done⟩
   · try (exact absurd c15 (by decide))
     all_goals (revert c15; (first | refine cv2 ?_ | refine cv4 ?_ | refine cv6 ?_ | refine cv8 ?_ | refine cva ?_ | refine cvc ?_ | refine cve ?_ | skip); intro c15)
     all_goals (refine k_skip ?_; refine k_seq ?_; refine k_region ?_; refine j_move ?_; refine j_nilCheck ?_; refine j_fieldAddr ?_; refine j_load ?_; refine j_assignL (fun _ => ?_); refine j_assignL (fun _ => ?_); refine l_nil ?_)
     all_goals
      refine k_retvF Try.results14 (.tmp (by conv => { lhs; whnf }) (.tmp (by conv => { lhs; whnf }) .nil)) (fun w hw => ?_)
      exact ⟨rfl, hw.done⟩
theorem vInner_ok (h : StAt w L cs pn pc) (hr : Rngs L) (hl : L.length ≤ 274877906944) (hc : cs.length ≤ 274877906944) (hcn : L.length ≤ cn) (c : Int) (ro : Bool) (hi : c ≤ 9223372036854775807) {l : List Int} (hn : travO L cs gen c = some l) : Calls Try.prog 14 #[stG L cs gen pn cn pc cc, .agg ⟨[.int .i64 c, .bool ro]⟩] w fun e w' => ∃ x : Option Addr × Nat, e = .returned (.tuple #[.slice x.1 l.length x.2, .int .i64 0]) ∧ l.length ≤ L.length ∧ SF w [] [] [] [(x.1, refsC l)] [] w' := by
  refine enter Try.func14 Try.ntmps14 rfl rfl h.start ?_
  simp only [mkS]
  simp only [stG]
  all_goals (refine k_seq ?_; refine k_region ?_; refine j_box (fun x2 => ?_); refine j_box (fun x3 => ?_); refine j_assignL (fun _ => ?_); refine j_assignL (fun _ => ?_); refine l_nil ?_; refine k_seq ?_; refine k_region ?_; refine j_load ?_; refine j_load ?_; (refine j_own (cFH (Fc := fun _ => []) (hc := fun w1 hw => traverse_ok (h.of0 hw) hr hl hc hcn c ro hi hn)) (fun x11 => ?_); try (refine l_fact (fun h11 => ?_))); refine j_move ?_; refine j_extract ?_; refine j_extract ?_; refine j_assignL (fun _ => ?_); refine j_assignL (fun _ => ?_); refine l_nil ?_; refine k_seq ?_; refine k_seq ?_; refine k_region ?_; refine j_move ?_; refine j_not ?_; refine l_nil ?_)
  all_goals
   refine k_if (fun c15 => ?_) (fun c15 => ?_)
   · try (exact absurd c15 (by decide))
     all_goals (revert c15; (first | refine cv1 ?_ | refine cv3 ?_ | refine cv5 ?_ | refine cv7 ?_ | refine cv9 ?_ | refine cvb ?_ | refine cvd ?_ | skip); intro c15)
     all_goals (refine k_seq ?_; refine k_region ?_; refine j_assignL (fun _ => ?_); refine j_assignL (fun _ => ?_); refine l_nil ?_)
     all_goals
      refine k_retvF Try.results14 (.tmp (by conv => { lhs; whnf }) (.tmp (by conv => { lhs; whnf }) .nil)) (fun w hw => ?_)
      obtain ⟨e1, e2⟩ := h11
      rw [e1] at hw ⊢
      exact ⟨(x11.2.2.p, x11.2.2.c), rfl, e2, (hw.freeze (.tail .head)).fin⟩
   · try (exact absurd c15 (by decide))
     all_goals (revert c15; (first | refine cv2 ?_ | refine cv4 ?_ | refine cv6 ?_ | refine cv8 ?_ | refine cva ?_ | refine cvc ?_ | refine cve ?_ | skip); intro c15)
     all_goals (refine k_skip ?_; refine k_seq ?_; refine k_region ?_; refine j_move ?_; refine j_nilCheck ?_; refine j_fieldAddr ?_; refine j_load ?_; refine j_assignL (fun _ => ?_); refine j_assignL (fun _ => ?_); refine l_nil ?_)
     all_goals
      refine k_retvF Try.results14 (.tmp (by conv => { lhs; whnf }) (.tmp (by conv => { lhs; whnf }) .nil)) (fun w hw => ?_)
      obtain ⟨e1, e2⟩ := h11
      rw [e1] at hw ⊢
      exact ⟨(x11.2.2.p, x11.2.2.c), rfl, e2, (hw.freeze (.tail .head)).fin⟩
theorem vCont_no (h : StAt w L cs pn pc) (hr : Rngs L) (hl : L.length ≤ 274877906944) (hc : cs.length ≤ 274877906944) (hcn : L.length ≤ cn) (c : Int) (ro : Bool) (hi : c ≤ 9223372036854775807) (hn : travO L cs gen c = none) : Calls Try.prog 12 #[stG L cs gen pn cn pc cc, .agg ⟨[.int .i64 c, .bool ro]⟩] w fun e w' => e = .returned (.tuple #[.slice none 0 0, .int .i64 1]) ∧ St w [] [] w' := by
  refine enter Try.func12 Try.ntmps12 rfl rfl h.start ?_
  simp only [mkS]
  simp only [stG]
  all_goals (refine k_seq ?_; refine k_region ?_; refine j_box (fun x2 => ?_); refine j_box (fun x3 => ?_); refine j_assignL (fun _ => ?_); refine j_assignL (fun _ => ?_); refine l_nil ?_; refine k_seq ?_; refine k_region ?_; refine j_load ?_; refine j_load ?_; (refine j_own (cV (hc := fun w1 hw => traverse_no (h.of0 hw) hr hl hc hcn c ro hi hn)) (fun x11 => ?_); try (refine l_fact (fun h11 => ?_))); refine j_move ?_; refine j_extract ?_; refine j_extract ?_; refine j_assignL (fun _ => ?_); refine j_assignL (fun _ => ?_); refine l_nil ?_; refine k_seq ?_; refine k_seq ?_; refine k_region ?_; refine j_move ?_; refine j_not ?_; refine l_nil ?_)
  all_goals
   refine k_if (fun c15 => ?_) (fun c15 => ?_)
   · try (exact absurd c15 (by decide))
     all_goals (revert c15; (first | refine cv1 ?_ | refine cv3 ?_ | refine cv5 ?_ | refine cv7 ?_ | refine cv9 ?_ | refine cvb ?_ | refine cvd ?_ | skip); intro c15)
     all_goals (refine k_seq ?_; refine k_region ?_; refine j_assignL (fun _ => ?_); refine j_assignL (fun _ => ?_); refine l_nil ?_)
     all_goals
      refine k_retvF Try.results12 (.tmp (by conv => { lhs; whnf }) (.tmp (by conv => { lhs; whnf }) .nil)) (fun w hw => ?_)
      exact ⟨rfl, hw.done⟩
   · try (exact absurd c15 (by decide))
     all_goals (revert c15; (first | refine cv2 ?_ | refine cv4 ?_ | refine cv6 ?_ | refine cv8 ?_ | refine cva ?_ | refine cvc ?_ | refine cve ?_ | skip); intro c15)
     all_goals (refine k_skip ?_; refine k_seq ?_; refine k_region ?_; refine j_move ?_; refine j_move ?_; refine j_nilCheck ?_; refine j_fieldAddr ?_; refine j_load ?_; refine j_indexAddr ?_; refine j_load ?_; (refine j_own (NO) (fun x23 => ?_); try (refine l_fact (fun h23 => ?_))); refine l_nil ?_; refine k_seq ?_; refine k_region ?_; refine j_move ?_; refine j_nilCheck ?_; refine j_fieldAddr ?_; refine j_load ?_; refine j_assignL (fun _ => ?_); refine j_assignL (fun _ => ?_); refine l_nil ?_)
     all_goals
      refine k_retvF Try.results12 (.tmp (by conv => { lhs; whnf }) (.tmp (by conv => { lhs; whnf }) .nil)) (fun w hw => ?_)
      exact ⟨rfl, hw.done⟩
theorem vCont_ok (h : StAt w L cs pn pc) (hr : Rngs L) (hl : L.length ≤ 274877906944) (hc : cs.length ≤ 274877906944) (hcn : L.length ≤ cn) (c : Int) (ro : Bool) (hi : c ≤ 9223372036854775807) {l : List Int} (hn : travO L cs gen c = some l) (hpl : (col (L.map NdV.c) cs 12 (l.headD 0)).length ≤ 137438953472) : Calls Try.prog 12 #[stG L cs gen pn cn pc cc, .agg ⟨[.int .i64 c, .bool ro]⟩] w fun e w' => ∃ x : Option Addr × Nat, e = .returned (.tuple #[.slice x.1 (col (L.map NdV.c) cs 12 (l.headD 0)).length x.2, .int .i64 0]) ∧ True ∧ SF w [] [] [] [(x.1, prC (col (L.map NdV.c) cs 12 (l.headD 0)))] [] w' := by
  obtain ⟨hp, r, t, hrt, hv, e⟩ := travO_some hn
  have hb := stB_of hp hr hl
  obtain ⟨k, hk, hkl⟩ := root_in hrt
  subst e
  refine enter Try.func12 Try.ntmps12 rfl rfl (h.start.nilOwn 56 2) ?_
  simp only [mkS]
  simp only [stG]
  all_goals (refine k_seq ?_; refine k_region ?_; refine j_box (fun x2 => ?_); refine j_box (fun x3 => ?_); refine j_assignL (fun _ => ?_); refine j_assignL (fun _ => ?_); refine l_nil ?_; refine k_seq ?_; refine k_region ?_; refine j_load ?_; refine j_load ?_; (refine j_own (cFH (Fc := fun _ => []) (hc := fun w1 hw => traverse_ok (h.of0 hw) hr hl hc hcn c ro hi hn)) (fun x11 => ?_); try (refine l_fact (fun h11 => ?_))); refine j_move ?_; refine j_extract ?_; refine j_extract ?_; refine j_assignL (fun _ => ?_); refine j_assignL (fun _ => ?_); refine l_nil ?_; refine k_seq ?_; refine k_seq ?_; refine k_region ?_; refine j_move ?_; refine j_not ?_; refine l_nil ?_)
  all_goals
   refine k_if (fun c15 => ?_) (fun c15 => ?_)
   · try (exact absurd c15 (by decide))
     all_goals (revert c15; (first | refine cv1 ?_ | refine cv3 ?_ | refine cv5 ?_ | refine cv7 ?_ | refine cv9 ?_ | refine cvb ?_ | refine cvd ?_ | skip); intro c15)
     all_goals (refine k_seq ?_; refine k_region ?_; refine j_assignL (fun _ => ?_); refine j_assignL (fun _ => ?_); refine l_nil ?_)
     all_goals
      refine k_retvF Try.results12 (.tmp (by conv => { lhs; whnf }) (.tmp (by conv => { lhs; whnf }) .nil)) (fun w hw => ?_)
      have e4 : x23.ps = col (L.map NdV.c) cs 12 ((List.cons r t).headD 0) := by simpa using h23
      rw [e4] at hw ⊢
      exact ⟨(x23.p, x23.c), rfl, trivial, (hw.freeze (.tail (.tail .head))).fin⟩
   · try (exact absurd c15 (by decide))
     all_goals (revert c15; (first | refine cv2 ?_ | refine cv4 ?_ | refine cv6 ?_ | refine cv8 ?_ | refine cva ?_ | refine cvc ?_ | refine cve ?_ | skip); intro c15)
     all_goals
      obtain ⟨e1, e2⟩ := h11
      have e3 : x11.2.2.l.length = (List.cons r t).length := by rw [e1]
      rw [List.length_cons] at e3
     all_goals (refine k_skip ?_; refine k_seq ?_; refine k_region ?_; refine j_move ?_; refine j_move ?_; refine j_nilCheck ?_; refine j_fieldAddr ?_; refine j_load ?_; refine l_quiet (o_indexR (k := 0) (lst := x11.2.2.l) (by exact rfl) (by exact rfl) (by exact sl_of rfl) (by exact one_of rfl) (by first | exact .new .head | exact .new (.tail .head) | exact .new (.tail (.tail .head)) | exact .new (.tail (.tail (.tail .head))) | exact .new (.tail (.tail (.tail (.tail .head)))) | exact .new (.tail (.tail (.tail (.tail (.tail .head))))) | exact .new (.tail (.tail (.tail (.tail (.tail (.tail .head)))))) | exact .new (.tail (.tail (.tail (.tail (.tail (.tail (.tail .head))))))) | exact .new (.tail (.tail (.tail (.tail (.tail (.tail (.tail (.tail .head)))))))) | exact .new (.tail (.tail (.tail (.tail (.tail (.tail (.tail (.tail (.tail .head))))))))) | exact .old .head | exact .old (.tail .head) | exact .old (.tail (.tail .head)) | exact .old (.tail (.tail (.tail .head))) | exact .old (.tail (.tail (.tail (.tail .head)))) | exact .old (.tail (.tail (.tail (.tail (.tail .head))))) | exact .own .head | exact .own (.tail .head) | exact .own (.tail (.tail .head)) | exact .own (.tail (.tail (.tail .head))) | exact .own (.tail (.tail (.tail (.tail .head)))) | exact .own (.tail (.tail (.tail (.tail (.tail .head))))) | exact .own (.tail (.tail (.tail (.tail (.tail (.tail .head)))))) | exact .own (.tail (.tail (.tail (.tail (.tail (.tail (.tail .head)))))))) (by omega) (by omega)) rfl ?_; refine l_quiet (o_loadR (q := 0) (lst := x11.2.2.l) (by exact rfl) (by exact one_of rfl) (by first | exact .new .head | exact .new (.tail .head) | exact .new (.tail (.tail .head)) | exact .new (.tail (.tail (.tail .head))) | exact .new (.tail (.tail (.tail (.tail .head)))) | exact .new (.tail (.tail (.tail (.tail (.tail .head))))) | exact .new (.tail (.tail (.tail (.tail (.tail (.tail .head)))))) | exact .new (.tail (.tail (.tail (.tail (.tail (.tail (.tail .head))))))) | exact .new (.tail (.tail (.tail (.tail (.tail (.tail (.tail (.tail .head)))))))) | exact .new (.tail (.tail (.tail (.tail (.tail (.tail (.tail (.tail (.tail .head))))))))) | exact .old .head | exact .old (.tail .head) | exact .old (.tail (.tail .head)) | exact .old (.tail (.tail (.tail .head))) | exact .old (.tail (.tail (.tail (.tail .head)))) | exact .old (.tail (.tail (.tail (.tail (.tail .head))))) | exact .own .head | exact .own (.tail .head) | exact .own (.tail (.tail .head)) | exact .own (.tail (.tail (.tail .head))) | exact .own (.tail (.tail (.tail (.tail .head)))) | exact .own (.tail (.tail (.tail (.tail (.tail .head))))) | exact .own (.tail (.tail (.tail (.tail (.tail (.tail .head)))))) | exact .own (.tail (.tail (.tail (.tail (.tail (.tail (.tail .head)))))))) (by omega)) rfl ?_; (refine j_own (cM (hs := [(x11.1, tcO L cs gen pn cn pc cc (.slice (some ⟨x11.2.1, 0, none⟩) L.length L.length) (.slice x11.2.2.p x11.2.2.l.length x11.2.2.c) ⟨[], none, 0⟩)]) (os := tcW ⟨[], none, 0⟩) (hc := fun w1 hs => by have := collect_c (gen := gen) (cn := cn) (cc := cc) h.fit hb hl hc x11.1 (.slice (some ⟨x11.2.1, 0, none⟩) L.length L.length) (.slice x11.2.2.p x11.2.2.l.length x11.2.2.c) 12 r ⟨[], none, 0⟩ _ w1 (by omega) ⟨[], _, hv⟩ (by simpa using hpl) hs; rw [e1]; exact this)) (fun x23 => ?_); try (refine l_fact (fun h23 => ?_))); refine l_nil ?_; refine k_seq ?_; refine k_region ?_; refine j_move ?_; refine j_nilCheck ?_; refine j_fieldAddr ?_; refine j_load ?_; refine j_assignL (fun _ => ?_); refine j_assignL (fun _ => ?_); refine l_nil ?_)
     all_goals
      refine k_retvF Try.results12 (.tmp (by conv => { lhs; whnf }) (.tmp (by conv => { lhs; whnf }) .nil)) (fun w hw => ?_)
      have e4 : x23.ps = col (L.map NdV.c) cs 12 ((List.cons r t).headD 0) := by simpa using h23
      rw [e4] at hw ⊢
      exact ⟨(x23.p, x23.c), rfl, trivial, (hw.freeze (.tail (.tail .head))).fin⟩
end
end Go.Proofs.Ytpfjjagcmjmfpaa
