/- DualRefuses: the walk. -/
import Derived.Test.YtmogngagpphnhaaGDu
import Derived.Test.YtmogngagpphnhaaArM
set_option linter.unusedSimpArgs false
set_option linter.unusedVariables false
namespace Go.Ct
open Go Go.RowKit
/-- The error for a node that is no single. -/
def errR (lvl gen : Int) : Int := if lvl < 0 ∨ 11 < lvl ∨ gen < 1 then 2 else 1
theorem nodeV_c {L M : List NdV} (h : L.map NdV.c = M.map NdV.c) (r : Int) : (nodeV L r).c = (nodeV M r).c := by
  have hl : L.length = M.length := by
    have := congrArg List.length h
    simpa using this
  unfold nodeV
  by_cases hr : 1 ≤ r ∧ r ≤ (L.length : Int)
  · rw [if_pos hr, if_pos (by omega)]
    exact (map_c hl).1 h _ (by omega)
  · rw [if_neg hr, if_neg (by omega)]
end Go.Ct
namespace Go.Proofs.Ytmogngagpphnhaa
open Go Go.RowKit Go.Ct
variable {ba bm : Nat} {L : List NdV} {cs : List Int} {g acc : Int} {pn pc : Option Addr} {kn kc : Nat} {x : Int} {h : Nat} {k : ByteArray} {u gen : Int}
theorem refError_c {D : List Nat} {A : Fr} {w : World} (lvl : Int) (hs : SF w D [(bm, mO L cs g acc pn kn pc kc)] A [] (mW L cs pn kn pc kc) w) (hl : L.length ≤ 700) (hxm : x ≤ 9223372036854775807) (hv : (nodeV L x).nd.kind ≠ 4) :
    Calls Try.prog 66 #[.pointer (some ⟨bm, 0, none⟩), .int .i64 x, .int .u64 (h : Int), .string k, .int .i64 lvl, .int .i64 gen] w fun e w' => ∃ q : Unit, e = .returned (.int .i64 (errR lvl gen)) ∧ True ∧ SF w D [(bm, mO L cs g acc pn kn pc kc)] [] [] (mW L cs pn kn pc kc) w' := by
  refine enter Try.func66 Try.ntmps66 rfl rfl (mOpen hs) ?_
  simp only [mkS]
  all_goals (refine k_seq ?_; refine k_region ?_; refine j_assignL (fun _ => ?_); refine l_nil ?_; refine k_seq ?_; refine k_seq ?_; refine k_region ?_; refine j_move ?_; refine j_lss ?_; refine j_move ?_)
  all_goals (first | refine j_un ?_ | (refine j_yes ?_; refine j_move ?_) | (refine l_case (g := 16) (by exact rfl) (fun g16 => ?_) (fun g16 => ?_) <;> (revert g16; (first | refine cv1 ?_ | refine cv2 ?_ | refine cvb ?_ | refine cvc ?_ | refine cv9 ?_ | refine cva ?_ | refine cv7 ?_ | refine cv8 ?_ | refine cvd ?_ | refine cve ?_ | skip); intro g16) <;> (try (exfalso; omega)) <;> (first | refine j_un ?_ | (refine j_yes ?_; refine j_move ?_))))
  all_goals ((first | refine j_un ?_ | (refine j_yes ?_; refine j_gtr ?_)); refine j_pick ?_; refine j_move ?_)
  all_goals (first | refine j_un ?_ | (refine j_yes ?_; refine j_move ?_) | (refine l_case (g := 20) (by exact rfl) (fun g20 => ?_) (fun g20 => ?_) <;> (revert g20; (first | refine cv1 ?_ | refine cv2 ?_ | refine cvb ?_ | refine cvc ?_ | refine cv9 ?_ | refine cva ?_ | refine cv7 ?_ | refine cv8 ?_ | refine cvd ?_ | refine cve ?_ | skip); intro g20) <;> (try (exfalso; omega)) <;> (first | refine j_un ?_ | (refine j_yes ?_; refine j_move ?_))))
  all_goals ((first | refine j_un ?_ | (refine j_yes ?_; refine j_lss ?_)); refine j_pick ?_; refine l_nil ?_)
  all_goals
   refine k_if (fun c23 => ?_) (fun c23 => ?_)
   · try (exact absurd c23 (by decide))
     all_goals (revert c23; (first | refine cv1 ?_ | refine cv3 ?_ | refine cv5 ?_ | refine cv7 ?_ | refine cv9 ?_ | refine cvb ?_ | refine cvd ?_ | skip); intro c23)
     all_goals try (exfalso; omega)
     all_goals (refine k_seq ?_; refine k_region ?_; refine j_assignL (fun _ => ?_); refine l_nil ?_)
     all_goals
      refine k_rv Try.results66 (fun w hw => ?_)
      exact ⟨(), by rw [show errR lvl gen = 2 from if_pos (by omega)]; rfl, trivial, hw.ret (by repeat (first | exact List.Sublist.refl _ | apply List.Sublist.cons)) (FSub.ofSub fun f hf => (List.not_mem_nil hf).elim) (by repeat (first | exact List.Sublist.refl _ | apply List.Sublist.cons))⟩
   · try (exact absurd c23 (by decide))
     all_goals (revert c23; (first | refine cv2 ?_ | refine cv4 ?_ | refine cv6 ?_ | refine cv8 ?_ | refine cva ?_ | refine cvc ?_ | refine cve ?_ | skip); intro c23)
     all_goals try (exfalso; omega)
     all_goals (refine k_skip ?_; refine k_seq ?_; refine k_region ?_; refine j_move ?_; refine j_move ?_; (refine j_own (cM (hc := fun w hs => mNode_c (L := L) (cs := cs) hs x hxm (by omega))) (fun x26 => ?_); try (refine l_fact (fun h26 => ?_))); refine j_alloc (fun x13 => ?_); refine j_store (fun _ => ?_); refine l_nil ?_; refine k_seq ?_; refine k_seq ?_; refine k_region ?_; refine j_fieldAddr ?_; refine j_load ?_; refine j_neq ?_; refine j_move ?_)
     all_goals (first | refine j_un ?_ | (refine j_yes ?_; refine j_move ?_) | (refine l_case (g := 30) (by exact rfl) (fun g30 => ?_) (fun g30 => ?_) <;> (revert g30; (first | refine cv1 ?_ | refine cv2 ?_ | refine cvb ?_ | refine cvc ?_ | refine cv9 ?_ | refine cva ?_ | refine cv7 ?_ | refine cv8 ?_ | refine cvd ?_ | refine cve ?_ | skip); intro g30) <;> (try (exfalso; omega)) <;> (first | refine j_un ?_ | (refine j_yes ?_; refine j_move ?_))))
     all_goals ((first | refine j_un ?_ | (refine j_yes ?_; refine j_lenStr ?_)); (first | refine j_un ?_ | (refine j_yes ?_; refine j_gtr ?_)); refine j_pick ?_; refine j_move ?_)
     all_goals (first | refine j_un ?_ | (refine j_yes ?_; refine j_fieldAddr ?_) | (refine l_case (g := 35) (by exact rfl) (fun g35 => ?_) (fun g35 => ?_) <;> (revert g35; (first | refine cv1 ?_ | refine cv2 ?_ | refine cvb ?_ | refine cvc ?_ | refine cv9 ?_ | refine cva ?_ | refine cv7 ?_ | refine cv8 ?_ | refine cvd ?_ | refine cve ?_ | skip); intro g35) <;> (try (exfalso; omega)) <;> (first | refine j_un ?_ | (refine j_yes ?_; refine j_fieldAddr ?_))))
     all_goals ((first | refine j_un ?_ | (refine j_yes ?_; refine j_load ?_)); (first | refine j_un ?_ | (refine j_yes ?_; refine j_move ?_)); (first | refine j_un ?_ | (refine j_yes ?_; refine j_seq ?_)); refine j_pick ?_; refine j_move ?_)
     all_goals (first | refine j_un ?_ | (refine j_yes ?_; refine j_fieldAddr ?_) | (refine l_case (g := 41) (by exact rfl) (fun g41 => ?_) (fun g41 => ?_) <;> (revert g41; (first | refine cv1 ?_ | refine cv2 ?_ | refine cvb ?_ | refine cvc ?_ | refine cv9 ?_ | refine cva ?_ | refine cv7 ?_ | refine cv8 ?_ | refine cvd ?_ | refine cve ?_ | skip); intro g41) <;> (try (exfalso; omega)) <;> (first | refine j_un ?_ | (refine j_yes ?_; refine j_fieldAddr ?_))))
     all_goals ((first | refine j_un ?_ | (refine j_yes ?_; refine j_load ?_)); (first | refine j_un ?_ | (refine j_yes ?_; refine j_move ?_)); ((first | refine j_un ?_ | (refine j_yes ?_; (refine j_own (NO) (fun x45 => ?_); try (refine l_fact (fun h45 => ?_)))))); (first | refine j_un ?_ | (refine j_yes ?_; refine j_move ?_)); (first | refine j_un ?_ | (refine j_yes ?_; refine j_lss ?_)); refine j_pick ?_; refine l_nil ?_)
     all_goals
      refine k_if (fun c48 => ?_) (fun c48 => ?_)
      · try (exact absurd c48 (by decide))
        all_goals (revert c48; (first | refine cv1 ?_ | refine cv3 ?_ | refine cv5 ?_ | refine cv7 ?_ | refine cv9 ?_ | refine cvb ?_ | refine cvd ?_ | skip); intro c48)
        all_goals try (exfalso; omega)
        all_goals (refine k_seq ?_; refine k_region ?_; refine j_assignL (fun _ => ?_); refine l_nil ?_)
        all_goals
         refine k_rv Try.results66 (fun w hw => ?_)
         exact ⟨(), by rw [show errR lvl gen = 1 from if_neg (by omega)]; rfl, trivial, hw.ret (by repeat (first | exact List.Sublist.refl _ | apply List.Sublist.cons)) (FSub.ofSub fun f hf => (List.not_mem_nil hf).elim) (by repeat (first | exact List.Sublist.refl _ | apply List.Sublist.cons))⟩
      · try (exact absurd c48 (by decide))
        all_goals (revert c48; (first | refine cv2 ?_ | refine cv4 ?_ | refine cv6 ?_ | refine cv8 ?_ | refine cva ?_ | refine cvc ?_ | refine cve ?_ | skip); intro c48)
        all_goals try (exfalso; omega)
        all_goals (refine k_skip ?_; refine k_seq ?_; refine k_region ?_; refine j_assignL (fun _ => ?_); refine l_nil ?_)
        all_goals
         refine k_rv Try.results66 (fun w hw => ?_)
         exact absurd rfl hv
theorem buildNegS_c {D : List Nat} {w : World} (lvl : Int) (hlv : lvl < 0) (ifc : Value) (hs : SF w D [(ba, aO L cs g acc pn kn pc kc)] (famF L) [] (mW L cs pn kn pc kc) w) : Calls Try.prog 63 #[ifc, .int .i64 x, .int .u64 (h : Int), .string k, .int .u64 u, .int .i64 lvl, .int .i64 gen] w fun e w' => e = .returned (.tuple #[.int .i64 0, .int .i64 2]) ∧ SF w D [(ba, aO L cs g acc pn kn pc kc)] [] [] (mW L cs pn kn pc kc) w' := by
  refine enter Try.func63 Try.ntmps63 rfl rfl (aOpen hs) ?_
  simp only [mkS]
  all_goals (refine k_seq ?_; refine k_region ?_; refine j_assignL (fun _ => ?_); refine j_assignL (fun _ => ?_); refine l_nil ?_; refine k_seq ?_; refine k_seq ?_; refine k_region ?_; refine j_move ?_; refine j_lss ?_; refine j_move ?_)
  all_goals (first | refine j_un ?_ | (refine j_yes ?_; refine j_move ?_) | (refine l_case (g := 20) (by exact rfl) (fun g20 => ?_) (fun g20 => ?_) <;> (revert g20; (first | refine cv1 ?_ | refine cv2 ?_ | refine cvb ?_ | refine cvc ?_ | refine cv9 ?_ | refine cva ?_ | refine cv7 ?_ | refine cv8 ?_ | refine cvd ?_ | refine cve ?_ | skip); intro g20) <;> (try (exfalso; omega)) <;> (first | refine j_un ?_ | (refine j_yes ?_; refine j_move ?_))))
  all_goals ((first | refine j_un ?_ | (refine j_yes ?_; refine j_gtr ?_)); refine j_pick ?_; refine j_move ?_)
  all_goals (first | refine j_un ?_ | (refine j_yes ?_; refine j_move ?_) | (refine l_case (g := 24) (by exact rfl) (fun g24 => ?_) (fun g24 => ?_) <;> (revert g24; (first | refine cv1 ?_ | refine cv2 ?_ | refine cvb ?_ | refine cvc ?_ | refine cv9 ?_ | refine cva ?_ | refine cv7 ?_ | refine cv8 ?_ | refine cvd ?_ | refine cve ?_ | skip); intro g24) <;> (try (exfalso; omega)) <;> (first | refine j_un ?_ | (refine j_yes ?_; refine j_move ?_))))
  all_goals ((first | refine j_un ?_ | (refine j_yes ?_; refine j_lss ?_)); refine j_pick ?_; refine l_nil ?_)
  all_goals
   refine k_if (fun c27 => ?_) (fun c27 => ?_)
   · try (exact absurd c27 (by decide))
     all_goals (revert c27; (first | refine cv1 ?_ | refine cv3 ?_ | refine cv5 ?_ | refine cv7 ?_ | refine cv9 ?_ | refine cvb ?_ | refine cvd ?_ | skip); intro c27)
     all_goals try (exfalso; omega)
     all_goals (refine k_seq ?_; refine k_region ?_; refine j_assignL (fun _ => ?_); refine j_assignL (fun _ => ?_); refine l_nil ?_)
     all_goals
      refine k_retvF Try.results63 (.tmp (by conv => { lhs; whnf }) (.tmp (by conv => { lhs; whnf }) .nil)) (fun w hw => ?_)
      exact ⟨rfl, hw.ret (by repeat (first | exact List.Sublist.refl _ | apply List.Sublist.cons)) (FSub.ofSub fun f hf => (List.not_mem_nil hf).elim) (by repeat (first | exact List.Sublist.refl _ | apply List.Sublist.cons))⟩
   · try (exact absurd c27 (by decide))
     all_goals (revert c27; (first | refine cv2 ?_ | refine cv4 ?_ | refine cv6 ?_ | refine cv8 ?_ | refine cva ?_ | refine cvc ?_ | refine cve ?_ | skip); intro c27)
     all_goals try (exfalso; omega)
     all_goals (refine k_skip ?_; refine k_seq ?_; refine k_seq ?_; refine k_region ?_; refine j_move ?_; refine l_quiet (NO) rfl ?_; refine l_nil ?_)
     all_goals
      refine k_if (fun c29 => ?_) (fun c29 => ?_)
      · try (exact absurd c29 (by decide))
        all_goals (revert c29; (first | refine cv1 ?_ | refine cv3 ?_ | refine cv5 ?_ | refine cv7 ?_ | refine cv9 ?_ | refine cvb ?_ | refine cvd ?_ | skip); intro c29)
        all_goals try (exfalso; omega)
        all_goals (refine k_seq ?_; refine k_region ?_; refine j_assignL (fun _ => ?_); refine j_assignL (fun _ => ?_); refine l_nil ?_)
        all_goals
         refine k_retvF Try.results63 (.tmp (by conv => { lhs; whnf }) (.tmp (by conv => { lhs; whnf }) .nil)) (fun w hw => ?_)
         exact ⟨rfl, hw.ret (by repeat (first | exact List.Sublist.refl _ | apply List.Sublist.cons)) (FSub.ofSub fun f hf => (List.not_mem_nil hf).elim) (by repeat (first | exact List.Sublist.refl _ | apply List.Sublist.cons))⟩
      · try (exact absurd c29 (by decide))
        all_goals (revert c29; (first | refine cv2 ?_ | refine cv4 ?_ | refine cv6 ?_ | refine cv8 ?_ | refine cva ?_ | refine cvc ?_ | refine cve ?_ | skip); intro c29)
        all_goals try (exfalso; omega)
        all_goals (refine k_skip ?_; refine k_seq ?_; refine k_region ?_; refine j_move ?_; refine j_move ?_; (refine j_own (NO) (fun x32 => ?_); try (refine l_fact (fun h32 => ?_))); refine j_alloc (fun x16 => ?_); refine j_store (fun _ => ?_); refine l_nil ?_; refine k_seq ?_; refine k_seq ?_; refine k_region ?_; refine j_fieldAddr ?_; refine j_load ?_; refine j_neq ?_; refine j_move ?_)
        all_goals (first | refine j_un ?_ | (refine j_yes ?_; refine j_move ?_) | (refine l_case (g := 36) (by exact rfl) (fun g36 => ?_) (fun g36 => ?_) <;> (revert g36; (first | refine cv1 ?_ | refine cv2 ?_ | refine cvb ?_ | refine cvc ?_ | refine cv9 ?_ | refine cva ?_ | refine cv7 ?_ | refine cv8 ?_ | refine cvd ?_ | refine cve ?_ | skip); intro g36) <;> (try (exfalso; omega)) <;> (first | refine j_un ?_ | (refine j_yes ?_; refine j_move ?_))))
        all_goals ((first | refine j_un ?_ | (refine j_yes ?_; refine j_lenStr ?_)); (first | refine j_un ?_ | (refine j_yes ?_; refine j_gtr ?_)); refine j_pick ?_; refine j_move ?_)
        all_goals (first | refine j_un ?_ | (refine j_yes ?_; refine j_move ?_) | (refine l_case (g := 41) (by exact rfl) (fun g41 => ?_) (fun g41 => ?_) <;> (revert g41; (first | refine cv1 ?_ | refine cv2 ?_ | refine cvb ?_ | refine cvc ?_ | refine cv9 ?_ | refine cva ?_ | refine cv7 ?_ | refine cv8 ?_ | refine cvd ?_ | refine cve ?_ | skip); intro g41) <;> (try (exfalso; omega)) <;> (first | refine j_un ?_ | (refine j_yes ?_; refine j_move ?_))))
        all_goals ((first | refine j_un ?_ | (refine j_yes ?_; refine j_fieldAddr ?_)); (first | refine j_un ?_ | (refine j_yes ?_; refine j_load ?_)); (first | refine j_un ?_ | (refine j_yes ?_; refine j_seq ?_)); refine j_pick ?_; refine l_nil ?_)
        all_goals
         refine k_if (fun c46 => ?_) (fun c46 => ?_)
         · try (exact absurd c46 (by decide))
           all_goals (revert c46; (first | refine cv1 ?_ | refine cv3 ?_ | refine cv5 ?_ | refine cv7 ?_ | refine cv9 ?_ | refine cvb ?_ | refine cvd ?_ | skip); intro c46)
           all_goals try (exfalso; omega)
           all_goals (refine k_seq ?_; refine k_region ?_; refine j_assignL (fun _ => ?_); refine j_assignL (fun _ => ?_); refine l_nil ?_)
           all_goals
            refine k_retvF Try.results63 (.tmp (by conv => { lhs; whnf }) (.tmp (by conv => { lhs; whnf }) .nil)) (fun w hw => ?_)
            exact ⟨rfl, hw.ret (by repeat (first | exact List.Sublist.refl _ | apply List.Sublist.cons)) (FSub.ofSub fun f hf => (List.not_mem_nil hf).elim) (by repeat (first | exact List.Sublist.refl _ | apply List.Sublist.cons))⟩
         · try (exact absurd c46 (by decide))
           all_goals (revert c46; (first | refine cv2 ?_ | refine cv4 ?_ | refine cv6 ?_ | refine cv8 ?_ | refine cva ?_ | refine cvc ?_ | refine cve ?_ | skip); intro c46)
           all_goals try (exfalso; omega)
           all_goals (refine k_skip ?_; refine k_seq ?_; refine k_seq ?_; refine k_region ?_; refine j_fieldAddr ?_; refine j_load ?_; refine j_move ?_; (refine j_own (NO) (fun x50 => ?_); try (refine l_fact (fun h50 => ?_))); refine j_move ?_; refine j_lss ?_; refine l_nil ?_)
           all_goals
            refine k_if (fun c52 => ?_) (fun c52 => ?_)
            · try (exact absurd c52 (by decide))
              all_goals (revert c52; (first | refine cv1 ?_ | refine cv3 ?_ | refine cv5 ?_ | refine cv7 ?_ | refine cv9 ?_ | refine cvb ?_ | refine cvd ?_ | skip); intro c52)
              all_goals try (exfalso; omega)
              all_goals (refine k_seq ?_; refine k_region ?_; refine j_assignL (fun _ => ?_); refine j_assignL (fun _ => ?_); refine l_nil ?_)
              all_goals
               refine k_retvF Try.results63 (.tmp (by conv => { lhs; whnf }) (.tmp (by conv => { lhs; whnf }) .nil)) (fun w hw => ?_)
               exact ⟨rfl, hw.ret (by repeat (first | exact List.Sublist.refl _ | apply List.Sublist.cons)) (FSub.ofSub fun f hf => (List.not_mem_nil hf).elim) (by repeat (first | exact List.Sublist.refl _ | apply List.Sublist.cons))⟩
            · try (exact absurd c52 (by decide))
              all_goals (revert c52; (first | refine cv2 ?_ | refine cv4 ?_ | refine cv6 ?_ | refine cv8 ?_ | refine cva ?_ | refine cvc ?_ | refine cve ?_ | skip); intro c52)
              all_goals try (exfalso; omega)
              all_goals (refine k_skip ?_; refine k_seq ?_; refine k_region ?_; refine j_move ?_; refine j_move ?_; refine j_load ?_; refine j_move ?_; refine j_move ?_; refine j_move ?_; refine j_build ?_; refine j_move ?_; refine j_build ?_; refine j_alloc (fun x17 => ?_); refine j_store (fun _ => ?_); refine l_nil ?_; refine k_seq ?_; refine k_region ?_; refine j_move ?_; (refine j_own (NO) (fun x63 => ?_); try (refine l_fact (fun h63 => ?_))); refine j_assignL (fun _ => ?_); refine j_assignL (fun _ => ?_); refine l_nil ?_)
              all_goals
               refine k_retvF Try.results63 (.tmp (by conv => { lhs; whnf }) (.tmp (by conv => { lhs; whnf }) .nil)) (fun w hw => ?_)
               exact ⟨rfl, hw.ret (by repeat (first | exact List.Sublist.refl _ | apply List.Sublist.cons)) (FSub.ofSub fun f hf => (List.not_mem_nil hf).elim) (by repeat (first | exact List.Sublist.refl _ | apply List.Sublist.cons))⟩
theorem buildNo_c {D : List Nat} {w : World} (lvl : Int) (hs : SF w D [(ba, aO L cs g acc pn kn pc kc)] (famF L) [] (mW L cs pn kn pc kc) w) (hf : Fits L) (hl : L.length ≤ 700) (hc : cs.length ≤ 700) (hxm : x ≤ 9223372036854775807) (hv : (nodeV (allV L) x).nd.kind ≠ 4) (hh : h < 18446744073709551616) (hlv : lvl ≤ 9223372036854775807) :
    Calls Try.prog 63 #[.iface 27 (.pointer (some ⟨ba, 0, none⟩)), .int .i64 x, .int .u64 (h : Int), .string k, .int .u64 u, .int .i64 lvl, .int .i64 gen] w fun e w' =>
      ∃ d : DX, e = .returned (.tuple #[.int .i64 0, .int .i64 (errR lvl gen)]) ∧ True ∧ SF w D [(ba, aO L cs g acc d.pn d.cn d.pc d.cc)] [] [] (mW L cs d.pn d.cn d.pc d.cc) w' := by
  rcases Int.lt_or_le lvl 0 with hn | hn
  · refine (buildNegS_c (h := h) (k := k) (u := u) (gen := gen) (x := x) lvl hn _ hs).mono fun e w' ⟨he, hst⟩ => ⟨⟨L, pn, kn, pc, kc⟩, ?_, trivial, ?_⟩
    · rw [show errR lvl gen = 2 from if_pos (.inl hn)]; exact he
    · exact hst
  · obtain ⟨n, rfl⟩ : ∃ n : Nat, lvl = (n : Int) := ⟨lvl.toNat, by omega⟩
    have he : errB (nodeV (allV L) x) 0 h k n gen = errR (n : Int) gen := by
      unfold errB errR
      by_cases h1 : 11 < n ∨ gen < 1
      · rw [if_pos h1, if_pos (by omega)]
      · rw [if_neg h1, if_pos (.inl hv), if_neg (by omega)]
    have hne : errR (n : Int) gen ≠ 0 := by unfold errR; split <;> decide
    refine (build_c (k := k) (u := u) (gen := gen) (h0 := 0) hs hf hl hc hxm rfl (fun e => absurd e hv) (by decide) hh hlv).mono fun e w' ⟨d, h1, ⟨h2, _⟩, h3⟩ => ⟨d, ?_, trivial, ?_⟩
    · rw [h1, he]
      simp only [resB, if_neg hne]
    · rw [newB_err (by rw [he]; exact hne)] at h2 h3
      have hd : d.L = [] := by simpa [alls] using h2
      rw [hd, List.append_nil] at h3
      exact h3
theorem dualRefuses_c {l : List Int} {p : Option Addr} {c : Nat} (i1 : Int) (i4 i5 : Int) {w : World} (hc : Cl w p (refsC l)) (hl : l.length ≤ 17592186043904) (hh : h < 18446744073709551616) (r4 : i4 ≤ 9223372036854775807) :
    Calls Try.prog 15 #[.slice p l.length c, .int .i64 i1, .int .u64 (h : Int), .string k, .int .i64 i4, .int .i64 i5] w fun e w' => e = .returned (.bool true) ∧ St w [] [] w' := by
  refine enter Try.func15 Try.ntmps15 rfl rfl (SF.s1 hc) ?_
  simp only [mkS]
  all_goals (refine k_seq ?_; refine k_region ?_; refine j_assignL (fun _ => ?_); refine l_nil ?_; refine k_seq ?_; refine k_region ?_; refine j_move ?_; (refine j_own (cFH (Fc := fun _ => []) (Oc := fun _ => []) (hc := fun w1 hw => new_c)) (fun x19 => ?_); try (refine l_fact (fun h19 => ?_))); (refine j_own (cF1 (hc := fun w1 hw => mMem_c (hw.tape (by repeat (first | exact At.head | apply At.tail)) (by first | exact .new .head | exact .new (.tail .head) | exact .new (.tail (.tail .head)) | exact .new (.tail (.tail (.tail .head))) | exact .new (.tail (.tail (.tail (.tail .head)))) | exact .new (.tail (.tail (.tail (.tail (.tail .head))))) | exact .new (.tail (.tail (.tail (.tail (.tail (.tail .head)))))) | exact .new (.tail (.tail (.tail (.tail (.tail (.tail (.tail .head))))))) | exact .new (.tail (.tail (.tail (.tail (.tail (.tail (.tail (.tail .head)))))))) | exact .new (.tail (.tail (.tail (.tail (.tail (.tail (.tail (.tail (.tail .head))))))))) | exact .old .head | exact .old (.tail .head) | exact .old (.tail (.tail .head)) | exact .old (.tail (.tail (.tail .head))) | exact .old (.tail (.tail (.tail (.tail .head)))) | exact .old (.tail (.tail (.tail (.tail (.tail .head))))) | exact .own .head | exact .own (.tail .head) | exact .own (.tail (.tail .head)) | exact .own (.tail (.tail (.tail .head))) | exact .own (.tail (.tail (.tail (.tail .head)))) | exact .own (.tail (.tail (.tail (.tail (.tail .head))))) | exact .own (.tail (.tail (.tail (.tail (.tail (.tail .head)))))) | exact .own (.tail (.tail (.tail (.tail (.tail (.tail (.tail .head)))))))) hl))) (fun x20 => ?_); try (refine l_fact (fun h20 => ?_))); refine j_assignL (fun _ => ?_); refine l_nil ?_; refine k_seq ?_; refine k_region ?_; refine j_move ?_; refine j_nilCheck ?_; refine j_fieldAddr ?_; refine l_quiet (o_loadPart (k := 3) (by exact rfl) (by repeat (first | exact At.head | apply At.tail)) (by exact agg_of rfl) (by simp only [List.drop_zero, List.take_succ_cons, List.take_zero]; exact rfl) rfl) rfl ?_; (refine j_own (cFH (hc := fun w1 hw => ofOk_c (hw.stAt (.inr (.inr (.inr ⟨_, .head _, rfl, rfl⟩))) (.inr (.inr (.inr ⟨_, .tail _ (.head _), rfl, rfl⟩))) (fun f hf => .inr (.inr (.inl (List.mem_append_left _ hf)))) h20.fit) (by have := h20.hL; omega) (by have := h20.hc; omega) (hw.capV .head) h20.proper)) (fun x26 => ?_); try (refine l_fact (fun h26 => ?_))); refine j_move ?_; refine j_extract ?_; refine j_extract ?_; refine j_assignL (fun _ => ?_); refine j_assignL (fun _ => ?_); refine l_nil ?_; refine k_seq ?_; refine k_seq ?_; refine k_region ?_; refine j_move ?_; refine j_neq ?_; refine j_move ?_)
  all_goals (first | refine j_un ?_ | (refine j_yes ?_; refine j_move ?_) | (refine l_case (g := 31) (by exact rfl) (fun g31 => ?_) (fun g31 => ?_) <;> (revert g31; (first | refine cv1 ?_ | refine cv2 ?_ | refine cvb ?_ | refine cvc ?_ | refine cv9 ?_ | refine cva ?_ | refine cv7 ?_ | refine cv8 ?_ | refine cvd ?_ | refine cve ?_ | skip); intro g31) <;> (try (exfalso; omega)) <;> (first | refine j_un ?_ | (refine j_yes ?_; refine j_move ?_))))
  all_goals ((first | refine j_un ?_ | (refine j_yes ?_; refine j_eql ?_)); refine j_pick ?_; refine l_nil ?_)
  all_goals
   refine k_if (fun c34 => ?_) (fun c34 => ?_)
   · try (exact absurd c34 (by decide))
     all_goals (revert c34; (first | refine cv1 ?_ | refine cv3 ?_ | refine cv5 ?_ | refine cv7 ?_ | refine cv9 ?_ | refine cvb ?_ | refine cvd ?_ | skip); intro c34)
     all_goals try (exfalso; omega)
     all_goals
      cases c34
     all_goals (refine k_seq ?_; refine k_region ?_; refine j_assignL (fun _ => ?_); refine l_nil ?_)
     all_goals
      refine k_rv Try.results15 (fun w hw => ?_)
      exact ⟨rfl, hw.done⟩
   · try (exact absurd c34 (by decide))
     all_goals (revert c34; (first | refine cv2 ?_ | refine cv4 ?_ | refine cv6 ?_ | refine cv8 ?_ | refine cva ?_ | refine cvc ?_ | refine cve ?_ | skip); intro c34)
     all_goals try (exfalso; omega)
     all_goals
      have hl2 : x26.2.1.length + 2 = x20.2.1.1.length := by
       have := congrArg List.length h26.1
       simpa [allV_length] using this
      have hL := h20.hL
      have hC := h20.hc
      have hm := modv_bound (v := i1) (n := (x20.2.1.1.length : Int) + 3) (by omega) (by omega)
      have hkind : (nodeV (allV x26.2.1) (modv i1 ((x20.2.1.1.length : Int) + 3))).nd.kind = (nodeV x20.2.1.1 (modv i1 ((x20.2.1.1.length : Int) + 3))).nd.kind := congrArg Nv.kind (nodeV_c h26.1 _)
      have hne : errR i4 i5 ≠ 0 := by unfold errR; split <;> decide
     all_goals (refine k_skip ?_; refine k_seq ?_; refine k_region ?_; refine j_move ?_; refine j_move ?_; refine j_nilCheck ?_; refine j_fieldAddr ?_; refine j_fieldAddr ?_; refine j_load ?_; refine j_len ?_; refine j_add ?_; (refine j_own (cV (hc := fun w1 hw => mod_c i1 ((x20.2.1.1.length : Int) + 3) w1 (by rw [wrap_u64]; omega))) (fun x43 => ?_); try (refine l_fact (fun h43 => ?_))); refine j_assignL (fun _ => ?_); refine l_nil ?_; refine k_seq ?_; refine k_seq ?_; refine k_region ?_; refine j_move ?_; refine j_move ?_; (refine j_own (cM (hc := fun w hs => mNode_c (L := x20.2.1.1) (cs := x20.2.1.2) hs (modv i1 ((x20.2.1.1.length : Int) + 3)) (by omega) (by omega))) (fun x46 => ?_); try (refine l_fact (fun h46 => ?_))); refine j_field ?_; refine j_eql ?_; refine l_nil ?_)
     all_goals
      refine k_if (fun c48 => ?_) (fun c48 => ?_)
      · try (exact absurd c48 (by decide))
        all_goals (revert c48; (first | refine cv1 ?_ | refine cv3 ?_ | refine cv5 ?_ | refine cv7 ?_ | refine cv9 ?_ | refine cvb ?_ | refine cvd ?_ | skip); intro c48)
        all_goals try (exfalso; omega)
        all_goals (refine k_seq ?_; refine k_region ?_; (refine j_own (cV (hc := fun w1 hw => awake8_c w1)) (fun x49 => ?_); try (refine l_fact (fun h49 => ?_))); refine j_assignL (fun _ => ?_); refine l_nil ?_)
        all_goals
         refine k_rv Try.results15 (fun w hw => ?_)
         exact ⟨rfl, hw.done⟩
      · try (exact absurd c48 (by decide))
        all_goals (revert c48; (first | refine cv2 ?_ | refine cv4 ?_ | refine cv6 ?_ | refine cv8 ?_ | refine cva ?_ | refine cvc ?_ | refine cve ?_ | skip); intro c48)
        all_goals try (exfalso; omega)
        all_goals (refine k_skip ?_; refine k_seq ?_; refine k_region ?_; refine j_move ?_; refine l_quiet (o_mkI (by exact rfl) (fun w => mkI_arena _ w)) rfl ?_; refine j_move ?_; refine j_move ?_; refine j_move ?_; refine j_move ?_; refine j_move ?_; (refine j_own (cM (A0 := famF x26.2.1) (hA := HasAll.of fun f hf => .inr (.inr (.inl (List.mem_append_left _ hf)))) (hc := fun w hs => buildNo_c (L := x26.2.1) (cs := x20.2.1.2) i4 hs h26.2 (by omega) (by omega) (by omega) (by rw [hkind]; exact c48) hh r4)) (fun x58 => ?_); try (refine l_fact (fun h58 => ?_))); refine j_move ?_; refine j_extract ?_; refine j_extract ?_; refine j_assignL (fun _ => ?_); refine j_assignL (fun _ => ?_); refine l_nil ?_; refine k_seq ?_; refine k_drawF (.one 0 [] (.one 1 [] (.one 2 [] (.one 3 [] (.one 4 [] (.one 5 [] (.one 6 [] (.one 7 [] (.one 8 [] (.one 9 [] (.one 10 [] (.one 11 [] (.one 12 [] (.one 13 [] (.one 14 [] (.one 15 [] (.one 16 [] (.one 17 [] (.one 18 [] (.one 19 [] (.one 20 [] (.one 21 [] (.one 23 [] (.one 24 [] (.one 25 [] (.one 26 [] (.one 22 [26] (.one 27 [] (.one 28 [] (.one 29 [] .nil)))))))))))))))))))))))))))))) ?_; ((refine r_own (i := 0) (hq := (cV (hc := fun w1 hw => awake8_c w1))) (hfire := (fun _ => .nil)) (h := fun x61 => ?_); try (refine r_fact (fun h61 => ?_)))); refine r_move (i := 1) ?_)
        all_goals (first | refine r_un (i := 2) ?_ | (refine r_move (i := 2) ?_) | (refine r_case (g := 62) (by exact rfl) (fun g62 => ?_) (fun g62 => ?_) <;> (revert g62; (first | refine cv1 ?_ | refine cv2 ?_ | refine cvb ?_ | refine cvc ?_ | refine cv9 ?_ | refine cva ?_ | refine cv7 ?_ | refine cv8 ?_ | refine cvd ?_ | refine cve ?_ | skip); intro g62) <;> (try (exfalso; omega)) <;> (first | refine r_un (i := 2) ?_ | (refine r_move (i := 2) ?_))))
        all_goals ((first | refine r_un (i := 3) ?_ | (refine r_eql (i := 3) ?_)); refine r_pick (i := 4) ?_; refine r_move (i := 5) ?_)
        all_goals (first | refine r_un (i := 6) ?_ | (refine r_move (i := 6) ?_) | (refine r_case (g := 66) (by exact rfl) (fun g66 => ?_) (fun g66 => ?_) <;> (revert g66; (first | refine cv1 ?_ | refine cv2 ?_ | refine cvb ?_ | refine cvc ?_ | refine cv9 ?_ | refine cva ?_ | refine cv7 ?_ | refine cv8 ?_ | refine cvd ?_ | refine cve ?_ | skip); intro g66) <;> (try (exfalso; omega)) <;> (first | refine r_un (i := 6) ?_ | (refine r_move (i := 6) ?_))))
        all_goals ((first | refine r_un (i := 7) ?_ | (refine r_move (i := 7) ?_)); (first | refine r_un (i := 8) ?_ | (refine r_move (i := 8) ?_)); (first | refine r_un (i := 9) ?_ | (refine r_move (i := 9) ?_)); (first | refine r_un (i := 10) ?_ | (refine r_move (i := 10) ?_)); (first | refine r_un (i := 11) ?_ | (refine r_move (i := 11) ?_)); (first | refine r_un (i := 12) ?_ | (refine r_move (i := 12) ?_)); ((first | refine r_un (i := 13) ?_ | ((refine r_own (i := 13) (hq := (cM (A0 := []) (hc := fun w hs => refError_c (L := x20.2.1.1) (cs := x20.2.1.2) i4 hs (by omega) (by omega) c48))) (hfire := (fun _ => .nil)) (h := fun x74 => ?_); try (refine r_fact (fun h74 => ?_)))))); (first | refine r_un (i := 14) ?_ | (refine r_eql (i := 14) ?_)); refine r_pick (i := 15) ?_; refine r_move (i := 16) ?_)
        all_goals (first | refine r_un (i := 17) ?_ | (refine r_move (i := 17) ?_) | (refine r_case (g := 77) (by exact rfl) (fun g77 => ?_) (fun g77 => ?_) <;> (revert g77; (first | refine cv1 ?_ | refine cv2 ?_ | refine cvb ?_ | refine cvc ?_ | refine cv9 ?_ | refine cva ?_ | refine cv7 ?_ | refine cv8 ?_ | refine cvd ?_ | refine cve ?_ | skip); intro g77) <;> (try (exfalso; omega)) <;> (first | refine r_un (i := 17) ?_ | (refine r_move (i := 17) ?_))))
        all_goals ((first | refine r_un (i := 18) ?_ | (refine r_neq (i := 18) ?_)); refine r_pick (i := 19) ?_; refine r_move (i := 20) ?_)
        all_goals (first | refine r_un (i := 21) ?_ | (refine r_move (i := 21) ?_) | (refine r_case (g := 81) (by exact rfl) (fun g81 => ?_) (fun g81 => ?_) <;> (revert g81; (first | refine cv1 ?_ | refine cv2 ?_ | refine cvb ?_ | refine cvc ?_ | refine cv9 ?_ | refine cva ?_ | refine cv7 ?_ | refine cv8 ?_ | refine cvd ?_ | refine cve ?_ | skip); intro g81) <;> (try (exfalso; omega)) <;> (first | refine r_un (i := 21) ?_ | (refine r_move (i := 21) ?_))))
        all_goals ((first | refine r_un (i := 23) ?_ | (refine r_move (i := 23) ?_)); (first | refine r_un (i := 24) ?_ | (refine r_nilCheck (i := 24) ?_)); (first | refine r_un (i := 25) ?_ | (refine r_fieldAddr (i := 25) ?_)); (first | refine r_un (i := 26) ?_ | (refine r_ownQ (i := 26) (hq := (o_loadPart (k := 3) (by exact rfl) (by repeat (first | exact At.head | apply At.tail)) (by exact agg_of rfl) (by simp only [List.drop_zero, List.take_succ_cons, List.take_zero]; exact rfl) rfl)) (h := ?_))); ((first | refine r_un (i := 22) ?_ | ((refine r_own (i := 22) (hq := (cMO (A0 := famF x26.2.1) (hA := HasAll.of fun f hf => .inr (.inr (.inl (List.mem_append_left _ hf)))) (hc := fun w hs => aState_c (L := x26.2.1) (cs := x20.2.1.2) hs h26.2 (by omega) (by omega)))) (hfire := (fun _ => by first | (refine FireAll.cons (by first | exact a_own (hq := o_loadPart (k := 3) (by exact rfl) (by repeat (first | exact At.head | apply At.tail)) (by exact agg_of rfl) (by simp only [List.drop_zero, List.take_succ_cons, List.take_zero]; exact rfl) rfl) | exact a_un) ?_; exact FireAll.nil) | (refine fireall_fact ?_; refine FireAll.cons (by first | exact a_own (hq := o_loadPart (k := 3) (by exact rfl) (by repeat (first | exact At.head | apply At.tail)) (by exact agg_of rfl) (by simp only [List.drop_zero, List.take_succ_cons, List.take_zero]; exact rfl) rfl) | exact a_un) ?_; exact FireAll.nil))) (h := fun x83 => ?_); try (refine r_fact (fun h83 => ?_)))))); ((first | refine r_un (i := 27) ?_ | ((refine r_own (i := 27) (hq := (cV (hc := fun w hw => sameT_c (L1 := x83.1) (L2 := x20.2.1.1) (cs1 := x20.2.1.2) (cs2 := x20.2.1.2) (hw.stAt (.inr (.inr (.inr ⟨_, .head _, rfl, rfl⟩))) (.inr (.inr (.inr ⟨_, .tail _ (.head _), rfl, rfl⟩))) (fun f hf => .inr (.inr (.inl (List.mem_append_left _ hf)))) h83.2) (hw.stAt (.inr (.inr (.inr ⟨_, .tail _ (.tail _ (.tail _ (.tail _ (.head _)))), rfl, rfl⟩))) (.inr (.inr (.inr ⟨_, .tail _ (.tail _ (.tail _ (.tail _ (.tail _ (.head _))))), rfl, rfl⟩))) (fun f hf => .inr (.inr (.inl (List.mem_append_right _ (List.mem_append_right _ (List.mem_append_left _ hf)))))) h20.fit) (by have h1 := congrArg List.length h83.1; simp only [List.length_map, allV_length] at h1; omega) (by omega) (by omega) ⟨h83.1.trans h26.1, rfl, rfl⟩))) (hfire := (fun _ => .nil)) (h := fun x88 => ?_); try (refine r_fact (fun h88 => ?_)))))); refine r_pick (i := 28) ?_; refine r_assignL (i := 29) (hfire := (fun _ => .nil)) (h := fun _ => ?_); refine r_fin ?_)
        all_goals
         refine k_rv Try.results15 (fun w hw => ?_)
         exact ⟨rfl, hw.done⟩
end Go.Proofs.Ytmogngagpphnhaa
