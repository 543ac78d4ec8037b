/- Nodes of memories: New, Node, Alloc. -/
import Derived.Test.YtpfjjagcmjmfpaaGAr
import Derived.Test.YtpfjjagcmjmfpaaNode2
import Derived.Test.YtpfjjagcmjmfpaaNode3
set_option linter.unusedSimpArgs false
set_option linter.unusedVariables false
namespace Go.Ct
def markV : NdV := ⟨{ Nd.zero with kind := 1 }, [], []⟩
def nodeV (L : List NdV) (r : Int) : NdV := if 1 ≤ r ∧ r ≤ L.length then L.getD (r - 1).toNat NdV.zero else NdV.zero
theorem nodeV_no {L : List NdV} {r : Int} (h : ¬ (1 ≤ r ∧ r ≤ L.length)) : nodeV L r = NdV.zero := if_neg h
theorem nodeV_at {L : List NdV} {k : Nat} (h : k < L.length) : nodeV L ((k + 1 : Nat) : Int) = L.getD k NdV.zero := by
  unfold nodeV
  rw [if_pos (by omega), show (((k + 1 : Nat) : Int) - 1).toNat = k by omega]
/-- All nodes of an arena: Yes, No, and those that it has been given. -/
def allV (L : List NdV) : List NdV := markV :: markV :: L
theorem allV_length (L : List NdV) : (allV L).length = L.length + 2 := rfl
theorem fit_mark : markV.Fit := ⟨rfl, rfl, by decide, by decide⟩
theorem Fits.all {L : List NdV} (h : Fits L) : Fits (allV L) := fun v hv => by
  simp only [allV, List.mem_cons] at hv
  rcases hv with rfl | rfl | hv
  · exact fit_mark
  · exact fit_mark
  · exact h v hv
theorem fit_nodeV {L : List NdV} (h : Fits L) (r : Int) : (nodeV L r).Fit := by
  unfold nodeV
  split
  · rename_i hr
    exact h.at (by omega)
  · exact fit_zero
/-- Where an allocated node's lists and the memory's lists lie. -/
structure AX where
  pn : Option Addr
  cn : Nat
  pc : Option Addr
  cc : Nat
  b1 : Option Addr
  c1 : Nat
  b2 : Option Addr
  c2 : Nat
def alCs (k : Int) (cs : List Int) (init : Int) : List Int := if k = 2 ∨ k = 3 ∨ k = 5 ∨ k = 6 ∨ k = 8 then cs ++ [init] else cs
def alV (n : Nd) (xs : List Int) (ys : List Pr) (c : Nat) (x : AX) : NdV :=
  NdV.mk { n with main := if n.kind = 2 then ((c + 1 : Nat) : Int) else 0, prev := if n.kind = 3 ∨ n.kind = 5 ∨ n.kind = 6 then ((c + 1 : Nat) : Int) else 0, status := if n.kind = 8 then ((c + 1 : Nat) : Int) else 0, brA := x.b1, brN := xs.length, brC := x.c1, prA := x.b2, prN := ys.length, prC := x.c2 } xs ys
theorem alCs_length {k : Int} {cs : List Int} {init : Int} : cs.length ≤ (alCs k cs init).length ∧ (alCs k cs init).length ≤ cs.length + 1 := by unfold alCs; split <;> simp
theorem fit_al {n : Nd} {xs : List Int} {ys : List Pr} {c : Nat} {x : AX} (h1 : xs.length ≤ 35184372088832) (h2 : ys.length ≤ 11728124029610) : (alV n xs ys c x).Fit := ⟨rfl, rfl, h1, h2⟩
/-- A copy of a node whose lists lie at p and q. -/
def NdV.at_ (v : NdV) (p q : Option Addr) : NdV := ⟨{ v.nd with brA := p, brC := v.xs.length, prA := q, prC := v.ys.length }, v.xs, v.ys⟩
theorem NdV.at_c (v : NdV) (p q : Option Addr) : (v.at_ p q).c = v.c := rfl
theorem NdV.at_fit {v : NdV} (h : v.Fit) (p q : Option Addr) : (v.at_ p q).Fit := ⟨h.brN, h.prN, h.brS, h.prS⟩
end Go.Ct
namespace Go.Proofs.Ytpfjjagcmjmfpaa
open Go.RowKit Go.Ct
variable {w : World} {D : List Nat} {b : Nat} {L : List NdV} {cs : List Int} {gen acc : Int} {pn pc : Option Addr} {cn cc : Nat} {A : Fr}
theorem mNew_c (w : World) : Calls Try.prog 6 #[] w fun e w' => ∃ q : Nat × Option Addr, e = .returned (.pointer (some ⟨q.1, 0, none⟩)) ∧ True ∧
    SF w [] [(q.1, mO [markV, markV] [] 0 0 q.2 2 none 0)] [] [] (mW [markV, markV] [] q.2 2 none 0) w' := by
  refine enter Try.func6 Try.ntmps6 rfl rfl (SF.s0 w) ?_
  simp only [mkS]
  all_goals (refine k_seq ?_; refine k_region ?_; refine j_assignL (fun _ => ?_); refine l_nil ?_; refine k_seq ?_; refine k_region ?_; refine j_build ?_; refine j_build ?_; refine j_own (lSFO (c := 2) (sz := 14) rfl (fun _ => o_buildSlice elem_node (by repeat (first | exact opParts_nil _ | (apply opParts_cons; (conv => { lhs; whnf })))) rfl rfl rfl rfl (by simp only [flatP, cellsL, List.cons_append, List.nil_append]; exact rfl))) (fun x3 => ?_); refine j_build ?_; refine j_build ?_; refine j_box (fun x6 => ?_); refine j_assignL (fun _ => ?_); refine l_nil ?_)
  all_goals
   refine k_rv Try.results6 (fun w hw => ?_)
   exact ⟨(x6, some ⟨x3, 0, none⟩), rfl, trivial, (SF.swapO (hw.nilOwn 29 1)).finH⟩
theorem mNode_no (hs : SF w D [(b, mO L cs gen acc pn cn pc cc)] A [] (mW L cs pn cn pc cc) w) (r : Int) (hr : r < 1) : Calls Try.prog 98 #[.pointer (some ⟨b, 0, none⟩), .int .i64 r] w fun e w' => ∃ q : Unit, e = .returned (nodeV L r).nd.v ∧ True ∧
    SF w D [(b, mO L cs gen acc pn cn pc cc)] [] [] (mW L cs pn cn pc cc) w' := by
  refine enter Try.func98 Try.ntmps98 rfl rfl (mOpen hs) ?_
  simp only [mkS]
  all_goals (refine k_seq ?_; refine k_region ?_; refine j_alloc (fun x4 => ?_); refine l_nil ?_; refine k_seq ?_; refine k_seq ?_; refine k_region ?_; refine j_move ?_; refine j_lss ?_; refine j_move ?_)
  all_goals (first | refine j_un ?_ | (refine j_yes ?_; refine j_move ?_) | (refine l_case (g := 7) (by exact rfl) (fun g7 => ?_) (fun g7 => ?_) <;> (revert g7; (first | refine cv1 ?_ | refine cv2 ?_ | refine cvb ?_ | refine cvc ?_ | refine cv9 ?_ | refine cva ?_ | refine cv7 ?_ | refine cv8 ?_ | refine cvd ?_ | refine cve ?_ | skip); intro g7) <;> (try (exfalso; omega)) <;> (first | refine j_un ?_ | (refine j_yes ?_; refine j_move ?_))))
  all_goals ((first | refine j_un ?_ | (refine j_yes ?_; refine j_move ?_)); (first | refine j_un ?_ | (refine j_yes ?_; refine j_nilCheck ?_)); (first | refine j_un ?_ | (refine j_yes ?_; refine j_fieldAddr ?_)); (first | refine j_un ?_ | (refine j_yes ?_; refine j_fieldAddr ?_)); (first | refine j_un ?_ | (refine j_yes ?_; refine j_load ?_)); (first | refine j_un ?_ | (refine j_yes ?_; refine j_len ?_)); (first | refine j_un ?_ | (refine j_yes ?_; refine j_gtr ?_)); refine j_pick ?_; refine l_nil ?_)
  all_goals
   refine k_if (fun c16 => ?_) (fun c16 => ?_)
   · try (exact absurd c16 (by decide))
     all_goals (revert c16; (first | refine cv1 ?_ | refine cv3 ?_ | refine cv5 ?_ | refine cv7 ?_ | refine cv9 ?_ | refine cvb ?_ | refine cvd ?_ | skip); intro c16)
     all_goals try (exfalso; omega)
     all_goals (refine k_seq ?_; refine k_region ?_; refine j_build ?_; refine j_store (fun _ => ?_); refine l_nil ?_)
     all_goals
      refine k_retvF Try.results98 (.cell (by exact rfl) (by repeat (first | exact At.head | apply At.tail)) (by exact agg_of rfl) .nil) (fun w hw => ?_)
      exact ⟨(), by rw [nodeV_no (by omega)]; rfl, trivial, hw.finH⟩
   · try (exact absurd c16 (by decide))
     all_goals (revert c16; (first | refine cv2 ?_ | refine cv4 ?_ | refine cv6 ?_ | refine cv8 ?_ | refine cva ?_ | refine cvc ?_ | refine cve ?_ | skip); intro c16)
     all_goals try (exfalso; omega)
     all_goals (refine k_skip ?_; refine k_seq ?_; refine k_region ?_; refine j_move ?_; refine j_nilCheck ?_; refine j_fieldAddr ?_; refine j_fieldAddr ?_; refine j_load ?_; refine j_move ?_; refine j_dec ?_; refine j_indexAddr ?_; refine j_load ?_; refine j_store (fun _ => ?_); refine l_nil ?_)
     all_goals
      refine k_retvF Try.results98 (.cell (by exact rfl) (by repeat (first | exact At.head | apply At.tail)) (by exact agg_of rfl) .nil) (fun w hw => ?_)
      exact ⟨(), by rw [nodeV_no (by omega)]; rfl, trivial, hw.finH⟩
theorem mNode_at (hs : SF w D [(b, mO L cs gen acc pn cn pc cc)] A [] (mW L cs pn cn pc cc) w) {k : Nat} (hk : (k : Int) < 9223372036854775807) (hl : L.length ≤ 274877906944) : Calls Try.prog 98 #[.pointer (some ⟨b, 0, none⟩), .int .i64 ((k + 1 : Nat) : Int)] w fun e w' => ∃ q : Unit, e = .returned (nodeV L ((k + 1 : Nat) : Int)).nd.v ∧ True ∧
    SF w D [(b, mO L cs gen acc pn cn pc cc)] [] [] (mW L cs pn cn pc cc) w' := by
  refine enter Try.func98 Try.ntmps98 rfl rfl (mOpen hs) ?_
  simp only [mkS]
  all_goals (refine k_seq ?_; refine k_region ?_; refine j_alloc (fun x4 => ?_); refine l_nil ?_; refine k_seq ?_; refine k_seq ?_; refine k_region ?_; refine j_move ?_; refine j_lss ?_; refine j_move ?_)
  all_goals (first | refine j_un ?_ | (refine j_yes ?_; refine j_move ?_) | (refine l_case (g := 7) (by exact rfl) (fun g7 => ?_) (fun g7 => ?_) <;> (revert g7; (first | refine cv1 ?_ | refine cv2 ?_ | refine cvb ?_ | refine cvc ?_ | refine cv9 ?_ | refine cva ?_ | refine cv7 ?_ | refine cv8 ?_ | refine cvd ?_ | refine cve ?_ | skip); intro g7) <;> (try (exfalso; omega)) <;> (first | refine j_un ?_ | (refine j_yes ?_; refine j_move ?_))))
  all_goals ((first | refine j_un ?_ | (refine j_yes ?_; refine j_move ?_)); (first | refine j_un ?_ | (refine j_yes ?_; refine j_nilCheck ?_)); (first | refine j_un ?_ | (refine j_yes ?_; refine j_fieldAddr ?_)); (first | refine j_un ?_ | (refine j_yes ?_; refine j_fieldAddr ?_)); (first | refine j_un ?_ | (refine j_yes ?_; refine j_load ?_)); (first | refine j_un ?_ | (refine j_yes ?_; refine j_len ?_)); (first | refine j_un ?_ | (refine j_yes ?_; refine j_gtr ?_)); refine j_pick ?_; refine l_nil ?_)
  all_goals
   refine k_if (fun c16 => ?_) (fun c16 => ?_)
   · try (exact absurd c16 (by decide))
     all_goals (revert c16; (first | refine cv1 ?_ | refine cv3 ?_ | refine cv5 ?_ | refine cv7 ?_ | refine cv9 ?_ | refine cvb ?_ | refine cvd ?_ | skip); intro c16)
     all_goals try (exfalso; omega)
     all_goals (refine k_seq ?_; refine k_region ?_; refine j_build ?_; refine j_store (fun _ => ?_); refine l_nil ?_)
     all_goals
      refine k_retvF Try.results98 (.cell (by exact rfl) (by repeat (first | exact At.head | apply At.tail)) (by exact agg_of rfl) .nil) (fun w hw => ?_)
      first | exact ⟨(), by rw [nodeV_no (by omega)]; rfl, trivial, hw.finH⟩ | exact ⟨(), by rw [nodeV_at (by omega)]; rfl, trivial, hw.finH⟩
   · try (exact absurd c16 (by decide))
     all_goals (revert c16; (first | refine cv2 ?_ | refine cv4 ?_ | refine cv6 ?_ | refine cv8 ?_ | refine cva ?_ | refine cvc ?_ | refine cve ?_ | skip); intro c16)
     all_goals try (exfalso; omega)
     all_goals (refine k_skip ?_; refine k_seq ?_; refine k_region ?_; refine j_move ?_; refine j_nilCheck ?_; refine j_fieldAddr ?_; refine j_fieldAddr ?_; refine j_load ?_; refine j_move ?_; refine j_dec ?_; refine j_indexAddr ?_; refine j_load ?_; refine j_store (fun _ => ?_); refine l_nil ?_)
     all_goals
      refine k_retvF Try.results98 (.cell (by exact rfl) (by repeat (first | exact At.head | apply At.tail)) (by exact agg_of rfl) .nil) (fun w hw => ?_)
      first | exact ⟨(), by rw [nodeV_no (by omega)]; rfl, trivial, hw.finH⟩ | exact ⟨(), by rw [nodeV_at (by omega)]; rfl, trivial, hw.finH⟩
theorem mNode_c (hs : SF w D [(b, mO L cs gen acc pn cn pc cc)] A [] (mW L cs pn cn pc cc) w) (r : Int) (hr : r ≤ 9223372036854775807) (hl : L.length ≤ 274877906944) : Calls Try.prog 98 #[.pointer (some ⟨b, 0, none⟩), .int .i64 r] w fun e w' => ∃ q : Unit, e = .returned (nodeV L r).nd.v ∧ True ∧
    SF w D [(b, mO L cs gen acc pn cn pc cc)] [] [] (mW L cs pn cn pc cc) w' := by
  rcases Int.lt_or_le r 1 with h | h
  · exact mNode_no hs r h
  · obtain ⟨k, rfl⟩ : ∃ k : Nat, r = ((k + 1 : Nat) : Int) := ⟨(r - 1).toNat, by omega⟩
    exact mNode_at hs (by omega) hl
end Go.Proofs.Ytpfjjagcmjmfpaa
