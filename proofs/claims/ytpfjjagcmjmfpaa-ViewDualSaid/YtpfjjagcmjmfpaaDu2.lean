/- The builder: all levels; Build. -/
import Derived.Test.YtpfjjagcmjmfpaaDu1
set_option linter.unusedSimpArgs false
set_option linter.unusedVariables false
namespace Go.Proofs.Ytpfjjagcmjmfpaa
open Go Go.RowKit Go.Ct
/-- What is allocated for a level n below the lowest one; f is the number that the first one gets. -/
def dN (x : Int) (h0 h : Nat) (p0 : Pr) (k : ByteArray) (u gen : Int) (f : Nat) : Nat → Nat → List NI
  | 0, lvl => if lvl = 11 then [niList h (ofL [p0, (k, u)])] else [niSingle h k u, niC (withI (withI 0 (sl h0 lvl : Int)) (sl h lvl : Int)) (two (sl h0 lvl) (sl h lvl) x (f : Int))]
  | n + 1, lvl => dN x h0 h p0 k u gen f n (lvl + 1) ++ [niInner gen ((f - 1 + (dN x h0 h p0 k u gen f n (lvl + 1)).length : Nat) : Int), niC (withI 0 (sl h lvl : Int)) [((f + (dN x h0 h p0 k u gen f n (lvl + 1)).length : Nat) : Int)]]
theorem dN_len {x : Int} {h0 h : Nat} {p0 : Pr} {k : ByteArray} {u gen : Int} {f : Nat} : ∀ n lvl, (dN x h0 h p0 k u gen f n lvl).length ≤ 2 + 2 * n
  | 0, lvl => by
    unfold dN
    split <;> simp
  | n + 1, lvl => by
    have := dN_len (x := x) (h0 := h0) (h := h) (p0 := p0) (k := k) (u := u) (gen := gen) (f := f) n (lvl + 1)
    unfold dN
    simp only [List.length_append, List.length_cons, List.length_nil]
    omega
variable {ba bb : Nat} {L : List NdV} {cs : List Int} {g acc : Int} {pn pc : Option Addr} {kn kc : Nat} {x : Int} {v : NdV} {h h0 : Nat} {k : ByteArray} {u gen : Int}
theorem buildMain_c (hl : L.length ≤ 700) (hc : cs.length ≤ 700) (hv : v.nd.hash = (h0 : Int)) (hh0 : h0 < 18446744073709551616) (hh : h < 18446744073709551616) (hx : 1 ≤ x) : ∀ (n lvl : Nat), lvl + n = com h0 h → ∀ (D : List Nat) (A : Fr) (w : World), SF w D [(bb, blO ba x v h k u gen), (ba, aO L cs g acc pn kn pc kc)] A [] (mW L cs pn kn pc kc) w →
    Calls Try.prog 25 #[.pointer (some ⟨bb, 0, none⟩), .int .i64 ((lvl : Nat) : Int)] w (Did w D bb ba x v h k u gen L cs g acc (dN x h0 h (v.nd.key, v.nd.val) k u gen (L.length + 3) n lvl))
  | 0, lvl, hn, D, A, w, hs => by
    have hle := com_le h0 h
    unfold dN
    split
    · rename_i e
      subst e
      exact main11_c hs (by omega) (by omega)
    · rename_i e
      have hlv : lvl = com h0 h := by omega
      exact mainB_c hs (by omega) (by omega) hv hh0 hh (by omega) (by rw [hlv]; exact fun e2 => com_ne (by omega) e2.symm) hx
  | n + 1, lvl, hn, D, A, w, hs => by
    have hle := com_le h0 h
    have hd := dN_len (x := x) (h0 := h0) (h := h) (p0 := (v.nd.key, v.nd.val)) (k := k) (u := u) (gen := gen) (f := L.length + 3) n (lvl + 1)
    have := mainS_c (l := dN x h0 h (v.nd.key, v.nd.val) k u gen (L.length + 3) n (lvl + 1)) hs (by omega) (by omega) hv hh0 hh (by omega) (com_eq (by omega)).symm (fun D w hs => buildMain_c hl hc hv hh0 hh hx n (lvl + 1) (by omega) D [] w hs)
    exact this
/-- The error of Build, for a level that is not below 0. -/
def errB (v : NdV) (h0 h : Nat) (k : ByteArray) (lvl : Nat) (gen : Int) : Int := if 11 < lvl ∨ gen < 1 then 2 else if v.nd.kind ≠ 4 ∨ 64 < k.size ∨ k = v.nd.key ∨ com h0 h < lvl then 1 else 0
/-- What Build allocates. -/
def newB (x : Int) (v : NdV) (h0 h : Nat) (k : ByteArray) (u gen : Int) (f lvl : Nat) : List NI := if errB v h0 h k lvl gen = 0 then dN x h0 h (v.nd.key, v.nd.val) k u gen f (com h0 h - lvl) lvl else []
theorem newB_len {x : Int} {v : NdV} {h0 h : Nat} {k : ByteArray} {u gen : Int} {f lvl : Nat} : (newB x v h0 h k u gen f lvl).length ≤ 24 := by
  unfold newB
  split
  · have := dN_len (x := x) (h0 := h0) (h := h) (p0 := (v.nd.key, v.nd.val)) (k := k) (u := u) (gen := gen) (f := f) (com h0 h - lvl) lvl
    have := com_le h0 h
    omega
  · exact Nat.zero_le _
theorem newB_err {x : Int} {v : NdV} {h0 h : Nat} {k : ByteArray} {u gen : Int} {f lvl : Nat} (he : errB v h0 h k lvl gen ≠ 0) : newB x v h0 h k u gen f lvl = [] := if_neg he
theorem newB_ok {x : Int} {v : NdV} {h0 h : Nat} {k : ByteArray} {u gen : Int} {f lvl : Nat} (he : errB v h0 h k lvl gen = 0) : newB x v h0 h k u gen f lvl = dN x h0 h (v.nd.key, v.nd.val) k u gen f (com h0 h - lvl) lvl := if_pos he
abbrev resB (e : Int) (f n : Nat) : Int := if e = 0 then ((f - 1 + n : Nat) : Int) else 0
theorem buildNeg_c (lvl : Int) (hlv : lvl < 0) (ifc : Value) (w : World) : Calls Try.prog 9 #[ifc, .int .i64 x, .int .u64 (h : Int), .string k, .int .u64 u, .int .i64 lvl, .int .i64 gen] w fun e w' => e = .returned (.tuple #[.int .i64 0, .int .i64 2]) ∧ St w [] [] w' := by
  refine enter Try.func9 Try.ntmps9 rfl rfl (SF.s0 w) ?_
  simp only [mkS]
  all_goals (refine k_seq ?_; refine k_region ?_; refine j_assignL (fun _ => ?_); refine j_assignL (fun _ => ?_); refine l_nil ?_; refine k_seq ?_; refine k_seq ?_; refine k_region ?_; refine j_move ?_; refine j_lss ?_; refine j_move ?_)
  all_goals (first | refine j_un ?_ | (refine j_yes ?_; refine j_move ?_) | (refine l_case (g := 20) (by exact rfl) (fun g20 => ?_) (fun g20 => ?_) <;> (revert g20; (first | refine cv1 ?_ | refine cv2 ?_ | refine cvb ?_ | refine cvc ?_ | refine cv9 ?_ | refine cva ?_ | refine cv7 ?_ | refine cv8 ?_ | refine cvd ?_ | refine cve ?_ | skip); intro g20) <;> (try (exfalso; omega)) <;> (first | refine j_un ?_ | (refine j_yes ?_; refine j_move ?_))))
  all_goals ((first | refine j_un ?_ | (refine j_yes ?_; refine j_gtr ?_)); refine j_pick ?_; refine j_move ?_)
  all_goals (first | refine j_un ?_ | (refine j_yes ?_; refine j_move ?_) | (refine l_case (g := 24) (by exact rfl) (fun g24 => ?_) (fun g24 => ?_) <;> (revert g24; (first | refine cv1 ?_ | refine cv2 ?_ | refine cvb ?_ | refine cvc ?_ | refine cv9 ?_ | refine cva ?_ | refine cv7 ?_ | refine cv8 ?_ | refine cvd ?_ | refine cve ?_ | skip); intro g24) <;> (try (exfalso; omega)) <;> (first | refine j_un ?_ | (refine j_yes ?_; refine j_move ?_))))
  all_goals ((first | refine j_un ?_ | (refine j_yes ?_; refine j_lss ?_)); refine j_pick ?_; refine l_nil ?_)
  all_goals
   refine k_if (fun c27 => ?_) (fun c27 => ?_)
   · try (exact absurd c27 (by decide))
     all_goals (revert c27; (first | refine cv1 ?_ | refine cv3 ?_ | refine cv5 ?_ | refine cv7 ?_ | refine cv9 ?_ | refine cvb ?_ | refine cvd ?_ | skip); intro c27)
     all_goals try (exfalso; omega)
     all_goals (refine k_seq ?_; refine k_region ?_; refine j_assignL (fun _ => ?_); refine j_assignL (fun _ => ?_); refine l_nil ?_)
     all_goals
      refine k_retvF Try.results9 (.tmp (by conv => { lhs; whnf }) (.tmp (by conv => { lhs; whnf }) .nil)) (fun w hw => ?_)
      exact ⟨rfl, hw.done⟩
   · try (exact absurd c27 (by decide))
     all_goals (revert c27; (first | refine cv2 ?_ | refine cv4 ?_ | refine cv6 ?_ | refine cv8 ?_ | refine cva ?_ | refine cvc ?_ | refine cve ?_ | skip); intro c27)
     all_goals try (exfalso; omega)
     all_goals (refine k_skip ?_; refine k_seq ?_; refine k_seq ?_; refine k_region ?_; refine j_move ?_; refine l_quiet (NO) rfl ?_; refine l_nil ?_)
     all_goals
      refine k_if (fun c29 => ?_) (fun c29 => ?_)
      · try (exact absurd c29 (by decide))
        all_goals (revert c29; (first | refine cv1 ?_ | refine cv3 ?_ | refine cv5 ?_ | refine cv7 ?_ | refine cv9 ?_ | refine cvb ?_ | refine cvd ?_ | skip); intro c29)
        all_goals try (exfalso; omega)
        all_goals (refine k_seq ?_; refine k_region ?_; refine j_assignL (fun _ => ?_); refine j_assignL (fun _ => ?_); refine l_nil ?_)
        all_goals
         refine k_retvF Try.results9 (.tmp (by conv => { lhs; whnf }) (.tmp (by conv => { lhs; whnf }) .nil)) (fun w hw => ?_)
         exact ⟨rfl, hw.done⟩
      · try (exact absurd c29 (by decide))
        all_goals (revert c29; (first | refine cv2 ?_ | refine cv4 ?_ | refine cv6 ?_ | refine cv8 ?_ | refine cva ?_ | refine cvc ?_ | refine cve ?_ | skip); intro c29)
        all_goals try (exfalso; omega)
        all_goals (refine k_skip ?_; refine k_seq ?_; refine k_region ?_; refine j_move ?_; refine j_move ?_; (refine j_own (NO) (fun x32 => ?_); try (refine l_fact (fun h32 => ?_))); refine j_alloc (fun x16 => ?_); refine j_store (fun _ => ?_); refine l_nil ?_; refine k_seq ?_; refine k_seq ?_; refine k_region ?_; refine j_fieldAddr ?_; refine j_load ?_; refine j_neq ?_; refine j_move ?_)
        all_goals (first | refine j_un ?_ | (refine j_yes ?_; refine j_move ?_) | (refine l_case (g := 36) (by exact rfl) (fun g36 => ?_) (fun g36 => ?_) <;> (revert g36; (first | refine cv1 ?_ | refine cv2 ?_ | refine cvb ?_ | refine cvc ?_ | refine cv9 ?_ | refine cva ?_ | refine cv7 ?_ | refine cv8 ?_ | refine cvd ?_ | refine cve ?_ | skip); intro g36) <;> (try (exfalso; omega)) <;> (first | refine j_un ?_ | (refine j_yes ?_; refine j_move ?_))))
        all_goals ((first | refine j_un ?_ | (refine j_yes ?_; refine j_lenStr ?_)); (first | refine j_un ?_ | (refine j_yes ?_; refine j_gtr ?_)); refine j_pick ?_; refine j_move ?_)
        all_goals (first | refine j_un ?_ | (refine j_yes ?_; refine j_move ?_) | (refine l_case (g := 41) (by exact rfl) (fun g41 => ?_) (fun g41 => ?_) <;> (revert g41; (first | refine cv1 ?_ | refine cv2 ?_ | refine cvb ?_ | refine cvc ?_ | refine cv9 ?_ | refine cva ?_ | refine cv7 ?_ | refine cv8 ?_ | refine cvd ?_ | refine cve ?_ | skip); intro g41) <;> (try (exfalso; omega)) <;> (first | refine j_un ?_ | (refine j_yes ?_; refine j_move ?_))))
        all_goals ((first | refine j_un ?_ | (refine j_yes ?_; refine j_fieldAddr ?_)); (first | refine j_un ?_ | (refine j_yes ?_; refine j_load ?_)); (first | refine j_un ?_ | (refine j_yes ?_; refine j_seq ?_)); refine j_pick ?_; refine l_nil ?_)
        all_goals
         refine k_if (fun c46 => ?_) (fun c46 => ?_)
         · try (exact absurd c46 (by decide))
           all_goals (revert c46; (first | refine cv1 ?_ | refine cv3 ?_ | refine cv5 ?_ | refine cv7 ?_ | refine cv9 ?_ | refine cvb ?_ | refine cvd ?_ | skip); intro c46)
           all_goals try (exfalso; omega)
           all_goals (refine k_seq ?_; refine k_region ?_; refine j_assignL (fun _ => ?_); refine j_assignL (fun _ => ?_); refine l_nil ?_)
           all_goals
            refine k_retvF Try.results9 (.tmp (by conv => { lhs; whnf }) (.tmp (by conv => { lhs; whnf }) .nil)) (fun w hw => ?_)
            exact ⟨rfl, hw.done⟩
         · try (exact absurd c46 (by decide))
           all_goals (revert c46; (first | refine cv2 ?_ | refine cv4 ?_ | refine cv6 ?_ | refine cv8 ?_ | refine cva ?_ | refine cvc ?_ | refine cve ?_ | skip); intro c46)
           all_goals try (exfalso; omega)
           all_goals (refine k_skip ?_; refine k_seq ?_; refine k_seq ?_; refine k_region ?_; refine j_fieldAddr ?_; refine j_load ?_; refine j_move ?_; (refine j_own (NO) (fun x50 => ?_); try (refine l_fact (fun h50 => ?_))); refine j_move ?_; refine j_lss ?_; refine l_nil ?_)
           all_goals
            refine k_if (fun c52 => ?_) (fun c52 => ?_)
            · try (exact absurd c52 (by decide))
              all_goals (revert c52; (first | refine cv1 ?_ | refine cv3 ?_ | refine cv5 ?_ | refine cv7 ?_ | refine cv9 ?_ | refine cvb ?_ | refine cvd ?_ | skip); intro c52)
              all_goals try (exfalso; omega)
              all_goals (refine k_seq ?_; refine k_region ?_; refine j_assignL (fun _ => ?_); refine j_assignL (fun _ => ?_); refine l_nil ?_)
              all_goals
               refine k_retvF Try.results9 (.tmp (by conv => { lhs; whnf }) (.tmp (by conv => { lhs; whnf }) .nil)) (fun w hw => ?_)
               exact ⟨rfl, hw.done⟩
            · try (exact absurd c52 (by decide))
              all_goals (revert c52; (first | refine cv2 ?_ | refine cv4 ?_ | refine cv6 ?_ | refine cv8 ?_ | refine cva ?_ | refine cvc ?_ | refine cve ?_ | skip); intro c52)
              all_goals try (exfalso; omega)
              all_goals (refine k_skip ?_; refine k_seq ?_; refine k_region ?_; refine j_move ?_; refine j_move ?_; refine j_load ?_; refine j_move ?_; refine j_move ?_; refine j_move ?_; refine j_build ?_; refine j_move ?_; refine j_build ?_; refine j_alloc (fun x17 => ?_); refine j_store (fun _ => ?_); refine l_nil ?_; refine k_seq ?_; refine k_region ?_; refine j_move ?_; (refine j_own (NO) (fun x63 => ?_); try (refine l_fact (fun h63 => ?_))); refine j_assignL (fun _ => ?_); refine j_assignL (fun _ => ?_); refine l_nil ?_)
              all_goals
               refine k_retvF Try.results9 (.tmp (by conv => { lhs; whnf }) (.tmp (by conv => { lhs; whnf }) .nil)) (fun w hw => ?_)
               exact ⟨rfl, hw.done⟩
theorem build_err {D : List Nat} {w0 w : World} {lvl : Nat} {H : List (Nat × Obj)} {A F : Fr} {O : List Ow} {e0 : Int} (hw : SF w0 D H A F O w) (hH : [(ba, aO L cs g acc pn kn pc kc)].Sublist H) (hO : (mW L cs pn kn pc kc).Sublist O) (he : errB v h0 h k lvl gen = e0) (h0' : e0 ≠ 0) :
    ∃ d : DX, (Ending.returned (.tuple #[.int .i64 0, .int .i64 e0]) : Ending) = .returned (.tuple #[.int .i64 (resB (errB v h0 h k lvl gen) (L.length + 3) (newB x v h0 h k u gen (L.length + 3) lvl).length), .int .i64 (errB v h0 h k lvl gen)]) ∧ (d.L.map NdV.c = alls (newB x v h0 h k u gen (L.length + 3) lvl) cs.length ∧ Fits d.L) ∧
      SF w0 D [(ba, aO (L ++ d.L) (allCs (newB x v h0 h k u gen (L.length + 3) lvl) cs) g acc d.pn d.cn d.pc d.cc)] [] (famF d.L) (mW (L ++ d.L) (allCs (newB x v h0 h k u gen (L.length + 3) lvl) cs) d.pn d.cn d.pc d.cc) w := by
  have h1 : errB v h0 h k lvl gen ≠ 0 := by rw [he]; exact h0'
  rw [newB_err h1, he]
  refine ⟨⟨[], pn, kn, pc, kc⟩, ?_, ⟨rfl, fun z hz => (List.not_mem_nil hz).elim⟩, ?_⟩
  · simp only [resB, if_neg h0']
  · simp only [List.append_nil]
    exact hw.ret hH (FSub.ofSub fun f hf => (List.not_mem_nil hf).elim) hO
theorem build_c {D : List Nat} {w : World} {lvl : Nat} (hs : SF w D [(ba, aO L cs g acc pn kn pc kc)] (famF L) [] (mW L cs pn kn pc kc) w) (hf : Fits L) (hl : L.length ≤ 700) (hc : cs.length ≤ 700) (hxm : x ≤ 9223372036854775807) (hnv : nodeV (allV L) x = v) (hv : v.nd.kind = 4 → v.nd.hash = (h0 : Int) ∧ 1 ≤ x) (hh0 : h0 < 18446744073709551616) (hh : h < 18446744073709551616) (hlv : (lvl : Int) ≤ 9223372036854775807) :
    Calls Try.prog 9 #[.iface 41 (.pointer (some ⟨ba, 0, none⟩)), .int .i64 x, .int .u64 (h : Int), .string k, .int .u64 u, .int .i64 (lvl : Int), .int .i64 gen] w fun e w' =>
      ∃ d : DX, e = .returned (.tuple #[.int .i64 (resB (errB v h0 h k lvl gen) (L.length + 3) (newB x v h0 h k u gen (L.length + 3) lvl).length), .int .i64 (errB v h0 h k lvl gen)]) ∧ (d.L.map NdV.c = alls (newB x v h0 h k u gen (L.length + 3) lvl) cs.length ∧ Fits d.L) ∧
      SF w D [(ba, aO (L ++ d.L) (allCs (newB x v h0 h k u gen (L.length + 3) lvl) cs) g acc d.pn d.cn d.pc d.cc)] [] (famF d.L) (mW (L ++ d.L) (allCs (newB x v h0 h k u gen (L.length + 3) lvl) cs) d.pn d.cn d.pc d.cc) w' := by
  refine enter Try.func9 Try.ntmps9 rfl rfl (aOpen hs) ?_
  simp only [mkS]
  all_goals (refine k_seq ?_; refine k_region ?_; refine j_assignL (fun _ => ?_); refine j_assignL (fun _ => ?_); refine l_nil ?_; refine k_seq ?_; refine k_seq ?_; refine k_region ?_; refine j_move ?_; refine j_lss ?_; refine j_move ?_)
  all_goals (first | refine j_un ?_ | (refine j_yes ?_; refine j_move ?_) | (refine l_case (g := 20) (by exact rfl) (fun g20 => ?_) (fun g20 => ?_) <;> (revert g20; (first | refine cv1 ?_ | refine cv2 ?_ | refine cvb ?_ | refine cvc ?_ | refine cv9 ?_ | refine cva ?_ | refine cv7 ?_ | refine cv8 ?_ | refine cvd ?_ | refine cve ?_ | skip); intro g20) <;> (try (exfalso; omega)) <;> (first | refine j_un ?_ | (refine j_yes ?_; refine j_move ?_))))
  all_goals ((first | refine j_un ?_ | (refine j_yes ?_; refine j_gtr ?_)); refine j_pick ?_; refine j_move ?_)
  all_goals (first | refine j_un ?_ | (refine j_yes ?_; refine j_move ?_) | (refine l_case (g := 24) (by exact rfl) (fun g24 => ?_) (fun g24 => ?_) <;> (revert g24; (first | refine cv1 ?_ | refine cv2 ?_ | refine cvb ?_ | refine cvc ?_ | refine cv9 ?_ | refine cva ?_ | refine cv7 ?_ | refine cv8 ?_ | refine cvd ?_ | refine cve ?_ | skip); intro g24) <;> (try (exfalso; omega)) <;> (first | refine j_un ?_ | (refine j_yes ?_; refine j_move ?_))))
  all_goals ((first | refine j_un ?_ | (refine j_yes ?_; refine j_lss ?_)); refine j_pick ?_; refine l_nil ?_)
  all_goals
   refine k_if (fun c27 => ?_) (fun c27 => ?_)
   · try (exact absurd c27 (by decide))
     all_goals (revert c27; (first | refine cv1 ?_ | refine cv3 ?_ | refine cv5 ?_ | refine cv7 ?_ | refine cv9 ?_ | refine cvb ?_ | refine cvd ?_ | skip); intro c27)
     all_goals try (exfalso; omega)
     all_goals (refine k_seq ?_; refine k_region ?_; refine j_assignL (fun _ => ?_); refine j_assignL (fun _ => ?_); refine l_nil ?_)
     all_goals
      refine k_retvF Try.results9 (.tmp (by conv => { lhs; whnf }) (.tmp (by conv => { lhs; whnf }) .nil)) (fun w hw => ?_)
      exact build_err hw (by repeat (first | exact List.Sublist.refl _ | apply List.Sublist.cons)) (by repeat (first | exact List.Sublist.refl _ | apply List.Sublist.cons)) (by unfold errB; exact if_pos (by omega)) (by decide)
   · try (exact absurd c27 (by decide))
     all_goals (revert c27; (first | refine cv2 ?_ | refine cv4 ?_ | refine cv6 ?_ | refine cv8 ?_ | refine cva ?_ | refine cvc ?_ | refine cve ?_ | skip); intro c27)
     all_goals try (exfalso; omega)
     all_goals (refine k_skip ?_; refine k_seq ?_; refine k_seq ?_; refine k_region ?_; refine j_move ?_; refine l_quiet (o_eqlNI (by exact rfl) (by exact rfl) (fun w => eqNI_arena _ w)) rfl ?_; refine l_nil ?_)
     all_goals
      refine k_if (fun c29 => ?_) (fun c29 => ?_)
      · try (exact absurd c29 (by decide))
        all_goals (revert c29; (first | refine cv1 ?_ | refine cv3 ?_ | refine cv5 ?_ | refine cv7 ?_ | refine cv9 ?_ | refine cvb ?_ | refine cvd ?_ | skip); intro c29)
        all_goals try (exfalso; omega)
        all_goals (refine k_seq ?_; refine k_region ?_; refine j_assignL (fun _ => ?_); refine j_assignL (fun _ => ?_); refine l_nil ?_)
        all_goals
         refine k_retvF Try.results9 (.tmp (by conv => { lhs; whnf }) (.tmp (by conv => { lhs; whnf }) .nil)) (fun w hw => ?_)
         exact build_err hw (by repeat (first | exact List.Sublist.refl _ | apply List.Sublist.cons)) (by repeat (first | exact List.Sublist.refl _ | apply List.Sublist.cons)) (by unfold errB; exact if_pos (by omega)) (by decide)
      · try (exact absurd c29 (by decide))
        all_goals (revert c29; (first | refine cv2 ?_ | refine cv4 ?_ | refine cv6 ?_ | refine cv8 ?_ | refine cva ?_ | refine cvc ?_ | refine cve ?_ | skip); intro c29)
        all_goals try (exfalso; omega)
        all_goals (refine k_skip ?_; refine k_seq ?_; refine k_region ?_; refine j_move ?_; refine j_move ?_; (refine j_own (cMIO (hm := fun w => inv_Node _ _ w) (hc := fun w hs => aNodeR_c (L := L) (cs := cs) (v := v) (r := x) hs hf hxm (by omega) hnv)) (fun x32 => ?_); try (refine l_fact (fun h32 => ?_))); refine j_alloc (fun x16 => ?_); refine j_store (fun _ => ?_); refine l_nil ?_; refine k_seq ?_; refine k_seq ?_; refine k_region ?_; refine j_fieldAddr ?_; refine j_load ?_; refine j_neq ?_; refine j_move ?_)
        all_goals (first | refine j_un ?_ | (refine j_yes ?_; refine j_move ?_) | (refine l_case (g := 36) (by exact rfl) (fun g36 => ?_) (fun g36 => ?_) <;> (revert g36; (first | refine cv1 ?_ | refine cv2 ?_ | refine cvb ?_ | refine cvc ?_ | refine cv9 ?_ | refine cva ?_ | refine cv7 ?_ | refine cv8 ?_ | refine cvd ?_ | refine cve ?_ | skip); intro g36) <;> (try (exfalso; omega)) <;> (first | refine j_un ?_ | (refine j_yes ?_; refine j_move ?_))))
        all_goals ((first | refine j_un ?_ | (refine j_yes ?_; refine j_lenStr ?_)); (first | refine j_un ?_ | (refine j_yes ?_; refine j_gtr ?_)); refine j_pick ?_; refine j_move ?_)
        all_goals (first | refine j_un ?_ | (refine j_yes ?_; refine j_move ?_) | (refine l_case (g := 41) (by exact rfl) (fun g41 => ?_) (fun g41 => ?_) <;> (revert g41; (first | refine cv1 ?_ | refine cv2 ?_ | refine cvb ?_ | refine cvc ?_ | refine cv9 ?_ | refine cva ?_ | refine cv7 ?_ | refine cv8 ?_ | refine cvd ?_ | refine cve ?_ | skip); intro g41) <;> (try (exfalso; omega)) <;> (first | refine j_un ?_ | (refine j_yes ?_; refine j_move ?_))))
        all_goals ((first | refine j_un ?_ | (refine j_yes ?_; refine j_fieldAddr ?_)); (first | refine j_un ?_ | (refine j_yes ?_; refine j_load ?_)); (first | refine j_un ?_ | (refine j_yes ?_; refine j_seq ?_)); refine j_pick ?_; refine l_nil ?_)
        all_goals
         refine k_if (fun c46 => ?_) (fun c46 => ?_)
         · try (exact absurd c46 (by decide))
           all_goals (revert c46; (first | refine cv1 ?_ | refine cv3 ?_ | refine cv5 ?_ | refine cv7 ?_ | refine cv9 ?_ | refine cvb ?_ | refine cvd ?_ | skip); intro c46)
           all_goals try (exfalso; omega)
           all_goals (refine k_seq ?_; refine k_region ?_; refine j_assignL (fun _ => ?_); refine j_assignL (fun _ => ?_); refine l_nil ?_)
           all_goals
            refine k_retvF Try.results9 (.tmp (by conv => { lhs; whnf }) (.tmp (by conv => { lhs; whnf }) .nil)) (fun w hw => ?_)
            refine build_err hw (by repeat (first | exact List.Sublist.refl _ | apply List.Sublist.cons)) (by repeat (first | exact List.Sublist.refl _ | apply List.Sublist.cons)) ?_ (by decide)
            unfold errB
            rw [if_neg (by omega)]
            refine if_pos ?_
            first | exact .inl (by omega) | exact .inr (.inl (by omega)) | exact .inr (.inr (.inl (by simpa using c46)))
         · try (exact absurd c46 (by decide))
           all_goals (revert c46; (first | refine cv2 ?_ | refine cv4 ?_ | refine cv6 ?_ | refine cv8 ?_ | refine cva ?_ | refine cvc ?_ | refine cve ?_ | skip); intro c46)
           all_goals try (exfalso; omega)
           all_goals
            obtain ⟨hvh, hx1⟩ := hv (by omega)
           all_goals (refine k_skip ?_; refine k_seq ?_; refine k_seq ?_; refine k_region ?_; refine j_fieldAddr ?_; refine j_load ?_; refine j_move ?_; (refine j_own (cV (hc := fun w1 hw => by rw [hvh]; exact khCommon_c hh0 hh w1)) (fun x50 => ?_); try (refine l_fact (fun h50 => ?_))); refine j_move ?_; refine j_lss ?_; refine l_nil ?_)
           all_goals
            refine k_if (fun c52 => ?_) (fun c52 => ?_)
            · try (exact absurd c52 (by decide))
              all_goals (revert c52; (first | refine cv1 ?_ | refine cv3 ?_ | refine cv5 ?_ | refine cv7 ?_ | refine cv9 ?_ | refine cvb ?_ | refine cvd ?_ | skip); intro c52)
              all_goals try (exfalso; omega)
              all_goals (refine k_seq ?_; refine k_region ?_; refine j_assignL (fun _ => ?_); refine j_assignL (fun _ => ?_); refine l_nil ?_)
              all_goals
               refine k_retvF Try.results9 (.tmp (by conv => { lhs; whnf }) (.tmp (by conv => { lhs; whnf }) .nil)) (fun w hw => ?_)
               refine build_err hw (by repeat (first | exact List.Sublist.refl _ | apply List.Sublist.cons)) (by repeat (first | exact List.Sublist.refl _ | apply List.Sublist.cons)) ?_ (by decide)
               unfold errB
               rw [if_neg (by omega)]
               exact if_pos (.inr (.inr (.inr (by omega))))
            · try (exact absurd c52 (by decide))
              all_goals (revert c52; (first | refine cv2 ?_ | refine cv4 ?_ | refine cv6 ?_ | refine cv8 ?_ | refine cva ?_ | refine cvc ?_ | refine cve ?_ | skip); intro c52)
              all_goals try (exfalso; omega)
              all_goals (refine k_skip ?_; refine k_seq ?_; refine k_region ?_; refine j_move ?_; refine j_move ?_; refine j_load ?_; refine j_move ?_; refine j_move ?_; refine j_move ?_; refine j_build ?_; refine j_move ?_; refine j_build ?_; refine j_alloc (fun x17 => ?_); refine j_store (fun _ => ?_); refine l_nil ?_; refine k_seq ?_; refine k_region ?_; refine j_move ?_; (refine j_own (cM (A0 := []) (hc := fun w hs => buildMain_c (L := L) (cs := cs) (x := x) (v := ⟨atN v x32.1 x32.2, v.xs, v.ys⟩) (k := k) (u := u) (gen := gen) (by omega) (by omega) hvh hh0 hh hx1 (com h0 h - lvl) lvl (by omega) _ [] w hs)) (fun x63 => ?_); try (refine l_fact (fun h63 => ?_))); refine j_assignL (fun _ => ?_); refine j_assignL (fun _ => ?_); refine l_nil ?_)
              all_goals
               refine k_retvF Try.results9 (.tmp (by conv => { lhs; whnf }) (.tmp (by conv => { lhs; whnf }) .nil)) (fun w hw => ?_)
               have he : errB v h0 h k lvl gen = 0 := by
                unfold errB
                rw [if_neg (by omega)]
                refine if_neg ?_
                rintro (h1 | h1 | h1 | h1)
                · omega
                · omega
                · first | exact absurd h1 c46 | simp_all
                · omega
               refine ⟨x63, ?_, ?_, ?_⟩
               · rw [he, newB_ok he]
                 rfl
               · rw [newB_ok he]; exact h63
               · rw [newB_ok he]
                 exact hw.ret (List.Sublist.cons _ (List.Sublist.cons _ (List.Sublist.refl _))) (FSub.ofSub fun f hf => by first | exact List.mem_append_left _ hf | simpa using hf) (List.Sublist.cons _ (List.Sublist.cons _ (List.Sublist.refl _)))
end Go.Proofs.Ytpfjjagcmjmfpaa
