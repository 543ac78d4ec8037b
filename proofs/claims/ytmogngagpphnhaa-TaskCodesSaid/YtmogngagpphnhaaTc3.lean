/- TaskCodes: the walk. -/
import Derived.Test.YtmogngagpphnhaaGTc
import Derived.Test.YtmogngagpphnhaaGTl
set_option linter.unusedSimpArgs false
set_option linter.unusedVariables false
namespace Go.Ct
open Go Go.RowKit
def u8C (l : List Int) : List Value := l.flatMap fun v => [Value.int .u8 v]
theorem u8C_map : ∀ l : List Int, u8C l = l.map (Value.int .u8)
  | [] => rfl
  | _ :: l => congrArg (_ :: ·) (u8C_map l)
theorem u8C_at {l : List Int} {k : Nat} (h : k < l.length) : (u8C l)[k]? = some (.int .u8 (l.getD k 0)) := by rw [u8C_map]; simp [h, List.getD]
theorem u8C_len (l : List Int) : (u8C l).length = l.length := by rw [u8C_map]; simp
theorem SF.keepU {w0 w : World} {M : List Nat} {H H' : List (Nat × Obj)} {A F F' : Fr} {O O' : List Ow} (h : SF w0 M H A F O w) (hH : H'.Sublist H) (hF : ∀ f ∈ F', f ∈ F) (hO : O'.Sublist O) : SF w0 M H' A F' O' w := h.sub hH (FSub.ofSub hF) hO
theorem rq_load {P : Program} {T : TypeId} {x : Int} {k : Int → Pc} {c : Cd} {B : Fr} {u : Ub} (h : Rq P T (.load x k) c B u) : c.a = ⟨1, x, 0, 0⟩ := by
  obtain ⟨f, cap, hc, _⟩ := h
  rw [hc]
theorem rq_cas {P : Program} {T : TypeId} {x o n : Int} {k : Bool → Pc} {c : Cd} {B : Fr} {u : Ub} (h : Rq P T (.cas x o n k) c B u) : c.a = ⟨2, x, o, n⟩ := by
  obtain ⟨f, cap, hc, _⟩ := h
  rw [hc]
theorem codes_next {t1 k : Nat} {C n : Int} {cs CS : List Int} {c : Cd} {f1 f2 F B : Fr} {u : Ub} {r : Bool} {P : Program} {T : TypeId} (h : Rq P T (((addP (t1 + 1) C n (k : Int)).next cs).next CS) c (f1 ++ (f2 ++ (F ++ B))) u) (h6 : r = true ↔ CasOk CS C (cellV cs C)) :
    Rq P T (addP t1 C (n + 1) ((if r = true then k + 1 else k : Nat) : Int)) c ((f1 ++ (f2 ++ F)) ++ B) u := by
  have e : ((addP (t1 + 1) C n (k : Int)).next cs).next CS = addP t1 C (n + 1) (if casB CS C (cellV cs C) = true then (k : Int) + 1 else (k : Int)) := rfl
  rw [e, ← Go.Proofs.Ytmogngagpphnhaa.cas_eqB h6] at h
  have e2 : (if r = true then (k : Int) + 1 else (k : Int)) = ((if r = true then k + 1 else k : Nat) : Int) := by split <;> omega
  rw [e2] at h
  simpa only [List.append_assoc] using h
theorem ne1 {c : Cd} {x o n : Int} (h : c.a = ⟨1, x, o, n⟩) : c.a.k ≠ 0 := by rw [h]; exact (by decide : (1 : Int) ≠ 0)
theorem ne2 {c : Cd} {x o n : Int} (h : c.a = ⟨2, x, o, n⟩) : c.a.k ≠ 0 := by rw [h]; exact (by decide : (2 : Int) ≠ 0)
section
variable {P : Program} {S : List (Nat × Value)} {G : World → Prop} {d : Nat} {ty t t' : TypeId} {pos : String} {af : Array Edge} {gd : Option (Nat × Bool)} {x y : Operand}
theorem o_remE {k : IntKind} {a b r : Int} (hx : ev S x = .int k a) (hy : ev S y = .int k b) (h0 : b ≠ 0) (h : a.tmod b = r) : Quiet P S G ⟨some d, .binOp .rem t x y t', ty, pos, af, gd⟩ (.int k r) := by
  have := o_rem (P := P) (G := G) (d := d) (ty := ty) (pos := pos) (af := af) (gd := gd) (t := t) (t' := t') hx hy h0
  rwa [h] at this
theorem o_addE {a b r : Int} (hx : ev S x = .int .i64 a) (hy : ev S y = .int .i64 b) (h : -9223372036854775808 ≤ a + b ∧ a + b ≤ 9223372036854775807) (hr : a + b = r) : Quiet P S G ⟨some d, .binOp .add t x y t', ty, pos, af, gd⟩ (.int .i64 r) := by
  rw [← hr]
  exact o_addR hx hy h
theorem o_mulE {a b r : Int} (hx : ev S x = .int .i64 a) (hy : ev S y = .int .i64 b) (h : -9223372036854775808 ≤ r ∧ r ≤ 9223372036854775807) (hr : a * b = r) : Quiet P S G ⟨some d, .binOp .mul t x y t', ty, pos, af, gd⟩ (.int .i64 r) := by
  have := o_mul (P := P) (G := G) (d := d) (ty := ty) (pos := pos) (af := af) (gd := gd) (t := t) (t' := t') hx hy
  rw [hr, wrap_i64 h.1 h.2] at this
  exact this
end
/-- A task and the cells at the head of the loop. -/
structure CS where
  c : Cd
  F : Fr
  u : Ub
  cs : List Int
  aa : Int
  am : Int
  k : Nat
end Go.Ct
namespace Go.Proofs.Ytmogngagpphnhaa
open Go Go.RowKit Go.Ct
theorem newZ_c {b : Nat} (w : World) : Calls Try.prog 41 #[.iface 27 (.pointer (some ⟨b, 0, none⟩)), .func (.func 49) #[] #[]] w fun e w' => ∃ x : Nat × Fr, e = .returned (.pointer (some ⟨x.1, 0, none⟩)) ∧ True ∧ SF w [] [(x.1, tO b (doneCd Rs.zero) 0)] [] x.2 [] w' :=
  (tkNew_c (b := b) (cap := []) codes2 (by kernel_rfl) (fun _ h => (List.not_mem_nil h).elim)).mono fun e w' ⟨x, h1, h2, h3⟩ => ⟨(x.1, x.2.2), h1, trivial, by
    have e1 : x.2.1 = doneCd Rs.zero := h2
    rw [e1] at h3
    exact h3⟩
set_option maxRecDepth 100000 in
set_option maxHeartbeats 4000000 in
theorem taskCodes_c {l1 l3 : List Int} {p1 p3 : Option Addr} {c1 c3 : Nat} {i1 : Int} {w : World} (h1 : Cl w p1 (refsC l1)) (hl1 : l1.length ≤ 17592186043904) (hi1 : 0 ≤ i1 ∧ i1 ≤ 255) (h3 : Cl w p3 (u8C l3)) :
    Calls Try.prog 8 #[.slice p1 l1.length c1, .int .u8 i1, .slice p3 l3.length c3] w fun e w' => e = .returned (.bool true) ∧ St w [] [] w' := by
  obtain ⟨t0, ht0, ht5⟩ : ∃ k : Nat, i1.tmod 6 = (k : Int) ∧ k ≤ 5 := ⟨(i1.tmod 6).toNat, by rw [Int.tmod_eq_emod_of_nonneg hi1.1]; omega, by rw [Int.tmod_eq_emod_of_nonneg hi1.1]; omega⟩
  refine enter Try.func8 Try.ntmps8 rfl rfl (SF.s2 h1 h3) ?_
  simp only [mkS]
  all_goals (refine k_seq ?_; refine k_region ?_; refine j_assignL (fun _ => ?_); refine l_nil ?_; refine k_seq ?_; refine k_region ?_; refine j_move ?_; (refine j_own (cFH (V := fun x : PS × Nat × Nat => .tuple #[.pointer (some ⟨x.2.1, 0, none⟩), .pointer (some ⟨x.2.2, 0, none⟩)]) (Hc := fun x => [(x.2.1, aO x.1.La x.1.cs x.1.gen 0 x.1.apn x.1.acn x.1.apc x.1.acc), (x.2.2, mO x.1.Lm x.1.cs x.1.gen 0 x.1.mpn x.1.mcn x.1.mpc x.1.mcc)]) (Fc := fun x => famF x.1.La ++ famF x.1.Lm) (Oc := fun x => [⟨x.1.apn, nvC x.1.La, x.1.acn, 48, 14⟩, ⟨x.1.apc, refsC x.1.cs, x.1.acc, 39, 1⟩, ⟨x.1.mpn, nvC x.1.Lm, x.1.mcn, 48, 14⟩, ⟨x.1.mpc, refsC x.1.cs, x.1.mcc, 39, 1⟩]) (hc := fun w1 hw => states_c (hw.cl (.old .head)) hl1)) (fun x22 => ?_); try (refine l_fact (fun h22 => ?_))); refine j_move ?_; refine j_extract ?_; refine j_extract ?_; refine j_assignL (fun _ => ?_); refine j_assignL (fun _ => ?_); refine l_nil ?_; refine k_seq ?_; refine k_seq ?_; refine k_region ?_; refine j_move ?_; refine j_eql ?_; refine l_nil ?_)
  all_goals
   refine k_if (fun c26 => ?_) (fun c26 => ?_)
   · try (exact absurd c26 (by decide))
     all_goals (revert c26; (first | refine cv1 ?_ | refine cv3 ?_ | refine cv5 ?_ | refine cv7 ?_ | refine cv9 ?_ | refine cvb ?_ | refine cvd ?_ | skip); intro c26)
     all_goals try (exfalso; omega)
     all_goals
      cases c26
     all_goals (refine k_seq ?_; refine k_region ?_; refine j_assignL (fun _ => ?_); refine l_nil ?_)
     all_goals
      refine k_rv Try.results8 (fun w hw => ?_)
      first | exact ⟨rfl, hw.done⟩ | trace_state
   · try (exact absurd c26 (by decide))
     all_goals (revert c26; (first | refine cv2 ?_ | refine cv4 ?_ | refine cv6 ?_ | refine cv8 ?_ | refine cva ?_ | refine cvc ?_ | refine cve ?_ | skip); intro c26)
     all_goals try (exfalso; omega)
     all_goals
      obtain ⟨s, ba, bm⟩ := x22
      have hC : s.cs.length ≤ 10 := h22.hC
      have hL : s.Lm.length ≤ 10 := h22.hL
      obtain ⟨C, hCe⟩ : ∃ C : Int, C = ((s.cs.length + 1 : Nat) : Int) := ⟨_, rfl⟩
     all_goals (refine k_skip ?_; refine k_seq ?_; refine k_region ?_; refine j_move ?_; (refine j_own (cM (V := fun _ : Option Addr × Nat => .int .i64 C) (hs' := fun q => [(ba, aO s.La (s.cs ++ [0]) s.gen 0 s.apn s.acn q.1 q.2)]) (os' := fun q => mW s.La (s.cs ++ [0]) s.apn s.acn q.1 q.2) (Fc := fun _ => []) (hs := [(ba, aO s.La s.cs s.gen 0 s.apn s.acn s.apc s.acc)]) (os := mW s.La s.cs s.apn s.acn s.apc s.acc) (hc := fun w hs => by rw [hCe]; exact aNewCell_c (L := s.La) (cs := s.cs) 0 hs (by omega))) (fun x28 => ?_); try (refine l_fact (fun h28 => ?_))); refine j_own (lSF fun _ => o_alloc1 (z := .int .i64 0) (by kernel_rfl) rfl) (fun x9 => ?_); refine j_store (fun _ => ?_); refine l_nil ?_; refine k_seq ?_; refine k_region ?_; refine j_move ?_; (refine j_own (cM (V := fun _ : Option Addr × Nat => .int .i64 C) (hs' := fun q => [(bm, mO s.Lm (s.cs ++ [0]) s.gen 0 s.mpn s.mcn q.1 q.2)]) (os' := fun q => mW s.Lm (s.cs ++ [0]) s.mpn s.mcn q.1 q.2) (Fc := fun _ => []) (hs := [(bm, mO s.Lm s.cs s.gen 0 s.mpn s.mcn s.mpc s.mcc)]) (os := mW s.Lm s.cs s.mpn s.mcn s.mpc s.mcc) (hc := fun w hs => by rw [hCe]; exact mNewCell_c (L := s.Lm) (cs := s.cs) 0 hs (by omega))) (fun x30 => ?_); try (refine l_fact (fun h30 => ?_))); refine l_nil ?_; refine k_seq ?_; refine k_region ?_; refine j_move ?_; refine l_quiet (o_remE (r := ((t0 : Nat) : Int)) (by exact rfl) (by exact rfl) (by decide) ht0) rfl ?_; refine j_convert ?_; refine j_own (lSF fun _ => o_alloc1 (z := .int .i64 0) (by kernel_rfl) rfl) (fun x10 => ?_); refine j_store (fun _ => ?_); refine l_nil ?_; refine k_seq ?_; refine k_region ?_; refine j_move ?_; refine l_quiet (o_mkI (by exact rfl) (fun w => mkI_arena _ w)) rfl ?_; (refine l_quiet (o_makeFunc (by (repeat (first | exact evL_nil _ | (apply evL_cons; focus ((conv => { lhs; whnf }); try exact rfl)))); first | done | fail)) rfl ?_); (refine j_own (cFH (V := fun x : Nat × Cd × Fr × Ub => .pointer (some ⟨x.1, 0, none⟩)) (Fc := fun x => x.2.2.1) (Hc := fun x => [(x.2.2.2.1, ibox 3 x.2.2.2.2), (x.1, tO ba x.2.1 0)]) (Oc := fun _ => []) (hc := fun w1 hw => newU_c (codes1 (t := t0) (c := C) (b9 := x9) (b10 := x10) (by omega)) (by kernel_rfl) (fun z hz => by simp only [List.mem_cons, List.not_mem_nil, or_false] at hz; rcases hz with rfl | rfl; exact Cl.block (pre := []) (rest := []) (T := 37) (fr := (0, 0)) (by simpa using hw.st.at (.tail .head)) rfl; exact Cl.block (pre := []) (rest := []) (T := 3) (fr := (0, 0)) (by simpa using hw.st.at .head) rfl))) (fun x37 => ?_); try (refine l_fact (fun h37 => ?_))); refine j_assignL (fun _ => ?_); refine l_nil ?_; refine k_seq ?_; refine k_seq ?_; refine k_region ?_; refine j_move ?_; refine j_eql ?_; refine l_nil ?_)
     all_goals
      refine k_if (fun c39 => ?_) (fun c39 => ?_)
      · try (exact absurd c39 (by decide))
        all_goals (revert c39; (first | refine cv1 ?_ | refine cv3 ?_ | refine cv5 ?_ | refine cv7 ?_ | refine cv9 ?_ | refine cvb ?_ | refine cvd ?_ | skip); intro c39)
        all_goals try (exfalso; omega)
        all_goals
         cases c39
        all_goals (refine k_seq ?_; refine k_region ?_; refine j_assignL (fun _ => ?_); refine l_nil ?_)
        all_goals
         refine k_rv Try.results8 (fun w hw => ?_)
         first | exact ⟨rfl, hw.done⟩ | trace_state
      · try (exact absurd c39 (by decide))
        all_goals (revert c39; (first | refine cv2 ?_ | refine cv4 ?_ | refine cv6 ?_ | refine cv8 ?_ | refine cva ?_ | refine cvc ?_ | refine cve ?_ | skip); intro c39)
        all_goals try (exfalso; omega)
        all_goals
         refine k_mono (fun w h => (show SF _ _ [(x37.2.2.2.1, ibox 3 x37.2.2.2.2), (x37.1, tO ba x37.2.1 0), (ba, aO s.La (s.cs ++ [0]) s.gen 0 s.apn s.acn x28.1 x28.2), (bm, mO s.Lm (s.cs ++ [0]) s.gen 0 s.mpn s.mcn x30.1 x30.2)] _ _ _ w from (h.freezeB (.tail (.tail .head))).freezeB (.tail (.tail .head)))) ?_
        all_goals (refine k_skip ?_; refine k_seq ?_; refine k_region ?_; refine j_assignL (fun _ => ?_); refine l_nil ?_; refine k_seq ?_; refine k_seq ?_; refine k_region ?_; refine j_assignL (fun _ => ?_); refine l_nil ?_; refine k_block ?_)
        all_goals
         refine k_loopF [6, 12, 13, 14, 15, 16, 17, 18, 40, 41, 42, 43, 44, 45, 46, 47, 48, 49, 50, 51, 52, 53, 54, 55, 56, 57, 58, 59, 60, 61, 62, 63, 64, 65, 66, 67, 68, 69, 70, 71, 72, 73, 74, 75, 76, 77, 78, 79, 80, 81, 82, 83, 84, 85, 86, 87, 88, 89, 90, 91, 92, 93, 94, 95, 96, 97, 98, 99, 100, 101, 102, 103, 104, 105, 106, 107, 108, 109, 110, 111, 112, 113, 114, 115, 116, 117, 118, 119, 120, 121, 122, 123] (fun y : Nat × CS => [(13, .int .i64 ((y.1 : Nat) : Int)), (12, .int .i64 ((y.2.k : Nat) : Int))]) (fun y => y.1 ≤ t0 ∧ RqI (addP (t0 - y.1) C (7 + (y.1 : Int)) (y.2.k : Int)) y.2.c (y.2.F ++ (x37.2.2.1 ++ ([(some ⟨x9, 0, none⟩, [.int .i64 C]), (some ⟨x10, 0, none⟩, [.int .i64 ((t0 : Nat) : Int)])] : Fr))) y.2.u ∧ y.2.cs.length = s.cs.length + 1 ∧ y.2.k ≤ y.1) (fun y => [(y.2.u.1, ibox 3 y.2.u.2), (x37.1, tO ba y.2.c (2 * y.1)), (ba, aO s.La y.2.cs s.gen y.2.aa s.apn s.acn x28.1 x28.2), (bm, mO s.Lm y.2.cs s.gen y.2.am s.mpn s.mcn x30.1 x30.2)]) (fun y => y.2.F ++ (x37.2.2.1 ++ (([(some ⟨x9, 0, none⟩, [.int .i64 C]), (some ⟨x10, 0, none⟩, [.int .i64 ((t0 : Nat) : Int)])] : Fr) ++ (famF s.La ++ famF s.Lm)))) (fun y => [⟨s.apn, nvC s.La, s.acn, 48, 14⟩, ⟨x28.1, refsC y.2.cs, x28.2, 39, 1⟩, ⟨s.mpn, nvC s.Lm, s.mcn, 48, 14⟩, ⟨x30.1, refsC y.2.cs, x30.2, 39, 1⟩]) (fun y => t0 - y.1) ((0, ⟨x37.2.1, [], x37.2.2.2, s.cs ++ [0], 0, 0, 0⟩)) (by decide) (fun _ => by exact rfl) ?_ (⟨Nat.zero_le _, h37, by simp, Nat.le_refl _⟩) (fun w hw => hw.subF (fun f hf => .inr (by
            simp only [List.mem_append, List.mem_cons, List.not_mem_nil, or_false, false_or, or_assoc] at hf ⊢
            rcases hf with h | h | h | h | h <;> simp [h]))) (fun y f hx => ?_)
         · repeat (first | exact knows_nil _ | refine knows_cons (by first | exact rfl | (conv => { lhs; whnf }; simp; done)) ?_)
         dsimp only [mkU, List.map, List.cons_append, List.nil_append]
         all_goals (refine k_seq ?_; refine k_seq ?_; refine k_region ?_; refine j_move ?_; refine l_quiet (o_loadF1 (a := some ⟨x10, 0, none⟩) (cs := [.int .i64 ((t0 : Nat) : Int)]) (q := 0) (v := .int .i64 ((t0 : Nat) : Int)) (by exact rfl) (by exact one_of rfl) (.new (FAt.of_mem (by simp))) rfl) rfl ?_; refine j_lss ?_; refine l_nil ?_)
         all_goals
          refine k_if (fun c42 => ?_) (fun c42 => ?_)
          · try (exact absurd c42 (by decide))
            all_goals (revert c42; (first | refine cv1 ?_ | refine cv3 ?_ | refine cv5 ?_ | refine cv7 ?_ | refine cv9 ?_ | refine cvb ?_ | refine cvd ?_ | skip); intro c42)
            all_goals try (exfalso; omega)
            all_goals
             obtain ⟨i, z⟩ := y
             obtain ⟨d, F, u, cs, aa, am, k⟩ := z
             have hi : i < t0 := by simp only [] at c42; omega
             obtain ⟨t1, ht1⟩ : ∃ t1, t0 - i = t1 + 1 := ⟨t0 - i - 1, by omega⟩
             have hr : RqI (addP (t1 + 1) C (7 + (i : Int)) (k : Int)) d (F ++ (x37.2.2.1 ++ ([(some ⟨x9, 0, none⟩, [.int .i64 C]), (some ⟨x10, 0, none⟩, [.int .i64 ((t0 : Nat) : Int)])] : Fr))) u := by have := hx.2.1; simp only [] at this; rw [ht1] at this; exact this
             have hda := rq_load hr
             have hcl : cs.length = s.cs.length + 1 := hx.2.2.1
             have hk : k ≤ i := hx.2.2.2
             have hCr : C ≤ 9223372036854775807 := by omega
            all_goals (refine k_skip ?_; refine k_seq ?_; refine k_block ?_; refine k_seq ?_; refine k_region ?_; refine j_move ?_; (refine j_own (cV (hc := fun w1 hw => tkNextA_c (x := ⟨1, C, 0, 0⟩) (hw.st.at (by repeat (first | exact At.head | apply At.tail))) (ne1 hda) hda)) (fun x47 => ?_); try (refine l_fact (fun h47 => ?_))); refine j_move ?_; refine j_extract ?_; refine j_extract ?_; refine j_alloc (fun x14 => ?_); refine j_store (fun _ => ?_); refine j_assignL (fun _ => ?_); refine l_nil ?_; refine k_seq ?_; refine k_seq ?_; refine k_region ?_; refine j_move ?_; refine j_not ?_; refine j_move ?_)
            all_goals (first | refine j_un ?_ | (refine j_yes ?_; refine j_load ?_) | (refine l_case (g := 52) (by exact rfl) (fun g52 => ?_) (fun g52 => ?_) <;> (revert g52; (first | refine cv1 ?_ | refine cv2 ?_ | refine cvb ?_ | refine cvc ?_ | refine cv9 ?_ | refine cva ?_ | refine cv7 ?_ | refine cv8 ?_ | refine cvd ?_ | refine cve ?_ | skip); intro g52) <;> (try (exfalso; omega)) <;> (first | refine j_un ?_ | (refine j_yes ?_; refine j_load ?_))))
            all_goals ((first | refine j_un ?_ | (refine j_yes ?_; refine l_quiet (o_loadF1 (a := some ⟨x9, 0, none⟩) (cs := [.int .i64 C]) (q := 0) (v := .int .i64 C) (by exact rfl) (by exact one_of rfl) (.new (FAt.of_mem (by simp))) rfl) rfl ?_)); (first | refine j_un ?_ | (refine j_yes ?_; refine j_build ?_)); (first | refine j_un ?_ | (refine j_yes ?_; refine l_quiet (o_neqAcF ⟨1, C, 0, 0⟩ (by exact rfl) (by exact rfl) (acT rfl)) rfl ?_)); refine j_pick ?_; refine l_nil ?_)
            all_goals
             refine k_if (fun c57 => ?_) (fun c57 => ?_)
             · try (exact absurd c57 (by decide))
               all_goals (revert c57; (first | refine cv1 ?_ | refine cv3 ?_ | refine cv5 ?_ | refine cv7 ?_ | refine cv9 ?_ | refine cvb ?_ | refine cvd ?_ | skip); intro c57)
               all_goals try (exfalso; omega)
               all_goals (refine k_seq ?_; refine k_region ?_; refine j_assignL (fun _ => ?_); refine l_nil ?_)
               all_goals
                refine k_rv Try.results8 (fun w hw => ?_)
                first | exact ⟨rfl, hw.done⟩ | trace_state
             · try (exact absurd c57 (by decide))
               all_goals (revert c57; (first | refine cv2 ?_ | refine cv4 ?_ | refine cv6 ?_ | refine cv8 ?_ | refine cva ?_ | refine cvc ?_ | refine cve ?_ | skip); intro c57)
               all_goals try (exfalso; omega)
               all_goals (refine k_skip ?_; refine k_seq ?_; refine k_region ?_; refine j_move ?_)
               all_goals (refine j_own (cM (V := fun _ : Cd × Fr × Ub => .tuple #[]) (Fc := fun y => y.2.1) (A0 := F ++ (x37.2.2.1 ++ ([(some ⟨x9, 0, none⟩, [.int .i64 C]), (some ⟨x10, 0, none⟩, [.int .i64 ((t0 : Nat) : Int)])] : Fr))) (hs' := fun y => [(x37.1, tO ba y.1 (2 * i + 1)), (ba, aO s.La cs s.gen (up aa) s.apn s.acn x28.1 x28.2), (y.2.2.1, ibox 3 y.2.2.2)]) (os' := fun _ => mW s.La cs s.apn s.acn x28.1 x28.2) (hA := HasAll.of fun f hf => Or.inr (Or.inr (Or.inl (by simp only [List.mem_append, List.mem_cons, List.not_mem_nil, or_false, false_or, or_assoc] at hf ⊢; first | (rcases hf with h | h | h | h | h <;> simp [h]; done) | (rcases hf with h | h | h | h <;> simp [h]; done))))) (hc := fun w hw => tkStepU_c (p := (addP (t1 + 1) C (7 + (i : Int)) (k : Int))) hw hr (fun y hy => hy) rfl hCr (by omega) (by omega))) (fun x59 => ?_); try (refine l_fact (fun h59 => ?_)))
               all_goals (refine l_nil ?_; refine k_seq ?_; refine k_region ?_; refine j_move ?_; refine l_quiet (o_loadF1 (a := some ⟨x9, 0, none⟩) (cs := [.int .i64 C]) (q := 0) (v := .int .i64 C) (by exact rfl) (by exact one_of rfl) (.new (FAt.of_mem (by simp))) rfl) rfl ?_; (refine j_own (cM (hc := fun w hs => mLoad_c (L := s.Lm) (cs := cs) hs C hCr (by omega))) (fun x62 => ?_); try (refine l_fact (fun h62 => ?_))); refine j_assignL (fun _ => ?_); refine l_nil ?_; refine k_seq ?_; refine k_seq ?_; refine k_region ?_; refine j_move ?_; (refine j_own (cV (hc := fun w1 hw => tkNextA_c (x := ⟨2, C, cellV cs C, (7 + (i : Int) + 1)⟩) (hw.st.at (by repeat (first | exact At.head | apply At.tail))) (ne2 (rq_cas h59)) (rq_cas h59))) (fun x65 => ?_); try (refine l_fact (fun h65 => ?_))); refine j_move ?_; refine j_extract ?_; refine j_extract ?_; refine j_alloc (fun x17 => ?_); refine j_store (fun _ => ?_); refine j_assignL (fun _ => ?_); refine l_nil ?_; refine k_seq ?_; refine k_region ?_; refine j_move ?_; refine j_not ?_; refine j_move ?_)
               all_goals (first | refine j_un ?_ | (refine j_yes ?_; refine j_load ?_) | (refine l_case (g := 70) (by exact rfl) (fun g70 => ?_) (fun g70 => ?_) <;> (revert g70; (first | refine cv1 ?_ | refine cv2 ?_ | refine cvb ?_ | refine cvc ?_ | refine cv9 ?_ | refine cva ?_ | refine cv7 ?_ | refine cv8 ?_ | refine cvd ?_ | refine cve ?_ | skip); intro g70) <;> (try (exfalso; omega)) <;> (first | refine j_un ?_ | (refine j_yes ?_; refine j_load ?_))))
               all_goals ((first | refine j_un ?_ | (refine j_yes ?_; refine l_quiet (o_loadF1 (a := some ⟨x9, 0, none⟩) (cs := [.int .i64 C]) (q := 0) (v := .int .i64 C) (by exact rfl) (by exact one_of rfl) (.new (FAt.of_mem (by simp))) rfl) rfl ?_)); (first | refine j_un ?_ | (refine j_yes ?_; refine j_move ?_)); (first | refine j_un ?_ | (refine j_yes ?_; refine j_move ?_)); (first | refine j_un ?_ | (refine j_yes ?_; refine l_quiet (o_addE (r := (7 + (i : Int) + 1)) (by exact rfl) (by exact rfl) (by omega) (by omega)) rfl ?_)); (first | refine j_un ?_ | (refine j_yes ?_; refine j_build ?_)); (first | refine j_un ?_ | (refine j_yes ?_; refine l_quiet (o_neqAcF ⟨2, C, cellV cs C, (7 + (i : Int) + 1)⟩ (by exact rfl) (by exact rfl) (acT rfl)) rfl ?_)); refine j_pick ?_; refine l_nil ?_)
               all_goals
                refine k_if (fun c78 => ?_) (fun c78 => ?_)
                · try (exact absurd c78 (by decide))
                  all_goals (revert c78; (first | refine cv1 ?_ | refine cv3 ?_ | refine cv5 ?_ | refine cv7 ?_ | refine cv9 ?_ | refine cvb ?_ | refine cvd ?_ | skip); intro c78)
                  all_goals try (exfalso; omega)
                  all_goals (refine k_seq ?_; refine k_region ?_; refine j_assignL (fun _ => ?_); refine l_nil ?_)
                  all_goals
                   refine k_rv Try.results8 (fun w hw => ?_)
                   first | exact ⟨rfl, hw.done⟩ | trace_state
                · try (exact absurd c78 (by decide))
                  all_goals (revert c78; (first | refine cv2 ?_ | refine cv4 ?_ | refine cv6 ?_ | refine cv8 ?_ | refine cva ?_ | refine cvc ?_ | refine cve ?_ | skip); intro c78)
                  all_goals try (exfalso; omega)
                  all_goals (refine k_skip ?_; refine k_seq ?_; refine k_seq ?_; refine k_region ?_; refine j_move ?_; refine j_move ?_; refine j_len ?_; refine j_lss ?_; refine j_move ?_)
                  all_goals (first | refine j_un ?_ | (refine j_yes ?_; refine j_move ?_) | (refine l_case (g := 83) (by exact rfl) (fun g83 => ?_) (fun g83 => ?_) <;> (revert g83; (first | refine cv1 ?_ | refine cv2 ?_ | refine cvb ?_ | refine cvc ?_ | refine cv9 ?_ | refine cva ?_ | refine cv7 ?_ | refine cv8 ?_ | refine cvd ?_ | refine cve ?_ | skip); intro g83) <;> (try (exfalso; omega)) <;> (first | refine j_un ?_ | (refine j_yes ?_; refine j_move ?_))))
                  all_goals ((first | refine j_un ?_ | (refine j_yes ?_; refine j_move ?_)); (first | refine j_un ?_ | (refine j_yes ?_; refine l_quiet (o_indexF (cs := u8C l3) (k := i) (by exact rfl) (by exact rfl) (by exact sl_of rfl) (by exact one_of rfl) (.old (.tail .head)) (by omega) (by rw [u8C_len]; omega)) rfl ?_)); (first | refine j_un ?_ | (refine j_yes ?_; refine l_quiet (o_loadF1 (a := p3) (cs := u8C l3) (q := i) (v := .int .u8 (l3.getD i 0)) (by exact rfl) (by exact one_of rfl) (.old (.tail .head)) (u8C_at (by omega))) rfl ?_)); (first | refine j_un ?_ | (refine j_yes ?_; refine l_quiet (o_remE (r := (l3.getD i 0).tmod 2) (by exact rfl) (by exact rfl) (by decide) rfl) rfl ?_)); (first | refine j_un ?_ | (refine j_yes ?_; refine j_eql ?_)); refine j_pick ?_; refine l_nil ?_)
                  all_goals
                   refine k_if (fun c90 => ?_) (fun c90 => ?_)
                   · try (exact absurd c90 (by decide))
                     all_goals (revert c90; (first | refine cv1 ?_ | refine cv3 ?_ | refine cv5 ?_ | refine cv7 ?_ | refine cv9 ?_ | refine cvb ?_ | refine cvd ?_ | skip); intro c90)
                     all_goals try (exfalso; omega)
                     all_goals (refine k_seq ?_; refine k_region ?_; refine j_move ?_; refine l_quiet (o_loadF1 (a := some ⟨x9, 0, none⟩) (cs := [.int .i64 C]) (q := 0) (v := .int .i64 C) (by exact rfl) (by exact one_of rfl) (.new (FAt.of_mem (by simp))) rfl) rfl ?_; refine j_move ?_; (refine j_own (cM (hc := fun w hs => aCAS_c (L := s.La) (cs := cs) hs C (cellV cs C) 100 hCr (by omega))) (fun x94 => ?_); try (refine l_fact (fun h94 => ?_))); refine l_nil ?_; refine k_region ?_; refine j_move ?_; refine l_quiet (o_loadF1 (a := some ⟨x9, 0, none⟩) (cs := [.int .i64 C]) (q := 0) (v := .int .i64 C) (by exact rfl) (by exact one_of rfl) (.new (FAt.of_mem (by simp))) rfl) rfl ?_; refine j_move ?_; (refine j_own (cM (hc := fun w hs => mCAS_c (L := s.Lm) (cs := cs) hs C (cellV cs C) 100 hCr (by omega))) (fun x98 => ?_); try (refine l_fact (fun h98 => ?_))); refine l_nil ?_; refine k_seq ?_; refine k_region ?_; refine j_move ?_)
                     all_goals (refine j_own (by first | exact cM (V := fun _ : Cd × Fr × Ub => .tuple #[]) (Fc := fun y => y.2.1) (A0 := x59.2.1 ++ (F ++ (x37.2.2.1 ++ ([(some ⟨x9, 0, none⟩, [.int .i64 C]), (some ⟨x10, 0, none⟩, [.int .i64 ((t0 : Nat) : Int)])] : Fr)))) (hs' := fun y => [(x37.1, tO ba y.1 (2 * i + 1 + 1)), (ba, aO s.La (casL (casL cs C (cellV cs C) 100) C (cellV cs C) (7 + (i : Int) + 1)) s.gen (up (up (up aa))) s.apn s.acn x28.1 x28.2), (y.2.2.1, ibox 3 y.2.2.2)]) (os' := fun _ => mW s.La (casL (casL cs C (cellV cs C) 100) C (cellV cs C) (7 + (i : Int) + 1)) s.apn s.acn x28.1 x28.2) (hA := HasAll.of fun f hf => Or.inr (Or.inr (Or.inl (by simp only [List.mem_append, List.mem_cons, List.not_mem_nil, or_false, false_or, or_assoc] at hf ⊢; first | (rcases hf with h | h | h | h | h <;> simp [h]; done) | (rcases hf with h | h | h | h <;> simp [h]; done))))) (hc := fun w hw => tkStepU_c (p := (addP (t1 + 1) C (7 + (i : Int)) (k : Int)).next cs) (cs := (casL cs C (cellV cs C) 100)) hw h59 (fun y hy => hy) rfl hCr (by first | omega | (rw [casL_length]; omega)) (by omega)) | exact cM (V := fun _ : Cd × Fr × Ub => .tuple #[]) (Fc := fun y => y.2.1) (A0 := x59.2.1 ++ (F ++ (x37.2.2.1 ++ ([(some ⟨x9, 0, none⟩, [.int .i64 C]), (some ⟨x10, 0, none⟩, [.int .i64 ((t0 : Nat) : Int)])] : Fr)))) (hs' := fun y => [(x37.1, tO ba y.1 (2 * i + 1 + 1)), (ba, aO s.La (casL cs C (cellV cs C) (7 + (i : Int) + 1)) s.gen (up (up aa)) s.apn s.acn x28.1 x28.2), (y.2.2.1, ibox 3 y.2.2.2)]) (os' := fun _ => mW s.La (casL cs C (cellV cs C) (7 + (i : Int) + 1)) s.apn s.acn x28.1 x28.2) (hA := HasAll.of fun f hf => Or.inr (Or.inr (Or.inl (by simp only [List.mem_append, List.mem_cons, List.not_mem_nil, or_false, false_or, or_assoc] at hf ⊢; first | (rcases hf with h | h | h | h | h <;> simp [h]; done) | (rcases hf with h | h | h | h <;> simp [h]; done))))) (hc := fun w hw => tkStepU_c (p := (addP (t1 + 1) C (7 + (i : Int)) (k : Int)).next cs) (cs := cs) hw h59 (fun y hy => hy) rfl hCr (by first | omega | (rw [casL_length]; omega)) (by omega))) (fun x100 => ?_); try (refine l_fact (fun h100 => ?_)))
                     all_goals (refine l_nil ?_; refine k_seq ?_; refine k_seq ?_; refine k_region ?_; refine j_move ?_; refine l_quiet (o_loadF1 (a := some ⟨x9, 0, none⟩) (cs := [.int .i64 C]) (q := 0) (v := .int .i64 C) (by exact rfl) (by exact one_of rfl) (.new (FAt.of_mem (by simp))) rfl) rfl ?_; refine j_move ?_; refine j_move ?_; refine l_quiet (o_addE (r := (7 + (i : Int) + 1)) (by exact rfl) (by exact rfl) (by omega) (by omega)) rfl ?_; (refine j_own (by first | exact cM (hc := fun w hs => mCAS_c (L := s.Lm) (cs := (casL cs C (cellV cs C) 100)) hs C (cellV cs C) (7 + (i : Int) + 1) hCr (by rw [casL_length]; omega)) | exact cM (hc := fun w hs => mCAS_c (L := s.Lm) (cs := cs) hs C (cellV cs C) (7 + (i : Int) + 1) hCr (by omega))) (fun x106 => ?_); try (refine l_fact (fun h106 => ?_))); refine l_nil ?_)
                     all_goals
                      refine k_if (fun c106 => ?_) (fun c106 => ?_)
                      · try (exact absurd c106 (by decide))
                        all_goals (revert c106; (first | refine cv1 ?_ | refine cv3 ?_ | refine cv5 ?_ | refine cv7 ?_ | refine cv9 ?_ | refine cvb ?_ | refine cvd ?_ | skip); intro c106)
                        all_goals try (exfalso; omega)
                        all_goals (refine k_region ?_; refine j_move ?_; refine j_inc ?_; refine j_assignL (fun _ => ?_); refine l_nil ?_; refine k_seq ?_; refine k_drawF (.one 0 [] (.one 1 [] (.one 3 [] (.one 4 [] (.one 2 [4] (.one 5 [] (.one 6 [] (.one 7 [] (.one 8 [] (.one 10 [] (.one 11 [] (.one 12 [] (.one 9 [] (.one 13 [] (.one 14 [] .nil))))))))))))))) ?_; refine r_move (i := 0) ?_; refine r_ownQ (i := 1) (hq := (o_loadF1 (a := some ⟨x9, 0, none⟩) (cs := [.int .i64 C]) (q := 0) (v := .int .i64 C) (by exact rfl) (by exact one_of rfl) (.new (FAt.of_mem (by simp))) rfl)) (h := ?_); refine r_move (i := 3) ?_; refine r_ownQ (i := 4) (hq := (o_loadF1 (a := some ⟨x9, 0, none⟩) (cs := [.int .i64 C]) (q := 0) (v := .int .i64 C) (by exact rfl) (by exact one_of rfl) (.new (FAt.of_mem (by simp))) rfl)) (h := ?_); ((refine r_own (i := 2) (hq := (by first | exact cM (hc := fun w hs => aLoad_c (L := s.La) (cs := casL (casL cs C (cellV cs C) 100) C (cellV cs C) (7 + (i : Int) + 1)) hs C hCr (by rw [casL_length, casL_length]; omega)) | exact cM (hc := fun w hs => aLoad_c (L := s.La) (cs := casL cs C (cellV cs C) (7 + (i : Int) + 1)) hs C hCr (by rw [casL_length]; omega)))) (hfire := (fun _ => by first | (refine FireAll.cons (by first | exact a_own (hq := o_loadF1 (a := some ⟨x9, 0, none⟩) (cs := [.int .i64 C]) (q := 0) (v := .int .i64 C) (by exact rfl) (by exact one_of rfl) (.new (FAt.of_mem (by simp))) rfl) | exact a_un) ?_; exact FireAll.nil) | (refine fireall_fact ?_; refine FireAll.cons (by first | exact a_own (hq := o_loadF1 (a := some ⟨x9, 0, none⟩) (cs := [.int .i64 C]) (q := 0) (v := .int .i64 C) (by exact rfl) (by exact one_of rfl) (.new (FAt.of_mem (by simp))) rfl) | exact a_un) ?_; exact FireAll.nil))) (h := fun x111 => ?_); try (refine r_fact (fun h111 => ?_)))); ((refine r_own (i := 5) (hq := (by first | exact cM (hc := fun w hs => mLoad_c (L := s.Lm) (cs := casL (casL cs C (cellV cs C) 100) C (cellV cs C) (7 + (i : Int) + 1)) hs C hCr (by rw [casL_length, casL_length]; omega)) | exact cM (hc := fun w hs => mLoad_c (L := s.Lm) (cs := casL cs C (cellV cs C) (7 + (i : Int) + 1)) hs C hCr (by rw [casL_length]; omega)))) (hfire := (fun _ => .nil)) (h := fun x114 => ?_); try (refine r_fact (fun h114 => ?_)))); refine r_neq (i := 6) ?_; refine r_move (i := 7) ?_)
                        all_goals (first | refine r_un (i := 8) ?_ | (refine r_move (i := 8) ?_) | (refine r_case (g := 116) (by exact rfl) (fun g116 => ?_) (fun g116 => ?_) <;> (revert g116; (first | refine cv1 ?_ | refine cv2 ?_ | refine cvb ?_ | refine cvc ?_ | refine cv9 ?_ | refine cva ?_ | refine cv7 ?_ | refine cv8 ?_ | refine cvd ?_ | refine cve ?_ | skip); intro g116) <;> (try (exfalso; omega)) <;> (first | refine r_un (i := 8) ?_ | (refine r_move (i := 8) ?_))))
                        all_goals ((first | refine r_un (i := 10) ?_ | (refine r_move (i := 10) ?_)); (first | refine r_un (i := 11) ?_ | (refine r_ownP (i := 11) (hq := (o_mulE (r := ((2 * i : Nat) : Int)) (by exact rfl) (by exact rfl) (by omega) (by omega))) (h := ?_))); (first | refine r_un (i := 12) ?_ | (refine r_ownP (i := 12) (hq := (o_addE (r := ((2 * i + 2 : Nat) : Int)) (by exact rfl) (by exact rfl) (by omega) (by omega))) (h := ?_))); ((first | refine r_un (i := 9) ?_ | ((refine r_own (i := 9) (hq := (cV (hc := fun w1 hw => tkSteps_c (hw.st.at (by repeat (first | exact At.head | apply At.tail)))))) (hfire := (fun _ => .nil)) (h := fun x118 => ?_); try (refine r_fact (fun h118 => ?_)))))); (first | refine r_un (i := 13) ?_ | (refine r_neq (i := 13) ?_)); refine r_pick (i := 14) ?_; refine r_fin ?_)
                        all_goals
                         refine k_if (fun c123 => ?_) (fun c123 => ?_)
                         · try (exact absurd c123 (by decide))
                           all_goals (revert c123; (first | refine cv1 ?_ | refine cv3 ?_ | refine cv5 ?_ | refine cv7 ?_ | refine cv9 ?_ | refine cvb ?_ | refine cvd ?_ | skip); intro c123)
                           all_goals try (exfalso; omega)
                           all_goals (refine k_seq ?_; refine k_region ?_; refine j_assignL (fun _ => ?_); refine l_nil ?_)
                           all_goals
                            refine k_rv Try.results8 (fun w hw => ?_)
                            first | exact ⟨rfl, hw.done⟩ | trace_state
                         · try (exact absurd c123 (by decide))
                           all_goals (revert c123; (first | refine cv2 ?_ | refine cv4 ?_ | refine cv6 ?_ | refine cv8 ?_ | refine cva ?_ | refine cvc ?_ | refine cve ?_ | skip); intro c123)
                           all_goals try (exfalso; omega)
                           all_goals (refine k_skip ?_; refine k_blk ?_; refine k_region ?_; refine j_move ?_; refine j_inc ?_; refine j_assignL (fun _ => ?_); refine l_nil ?_)
                           all_goals
                            have et : t0 - (i + 1) = t1 := by omega
                            have eN : (7 + ((i + 1 : Nat) : Int)) = (7 + (i : Int) + 1) := by omega
                            first
                             | (revert h94; intro h94; obtain ⟨zn, hz1, hzn⟩ : ∃ zn : CS, RqI (addP t1 C (7 + (i : Int) + 1) (zn.k : Int)) zn.c (zn.F ++ (x37.2.2.1 ++ ([(some ⟨x9, 0, none⟩, [.int .i64 C]), (some ⟨x10, 0, none⟩, [.int .i64 ((t0 : Nat) : Int)])] : Fr))) zn.u ∧ zn = ⟨x100.1, x100.2.1 ++ (x59.2.1 ++ F), x100.2.2, casL (casL cs C (cellV cs C) 100) C (cellV cs C) (7 + (i : Int) + 1), up (up (up (up aa))), up (up (up (up am))), if x106 = true then k + 1 else k⟩ := ⟨_, codes_next h100 h106, rfl⟩)
                             | (obtain ⟨zn, hz1, hzn⟩ : ∃ zn : CS, RqI (addP t1 C (7 + (i : Int) + 1) (zn.k : Int)) zn.c (zn.F ++ (x37.2.2.1 ++ ([(some ⟨x9, 0, none⟩, [.int .i64 C]), (some ⟨x10, 0, none⟩, [.int .i64 ((t0 : Nat) : Int)])] : Fr))) zn.u ∧ zn = ⟨x100.1, x100.2.1 ++ (x59.2.1 ++ F), x100.2.2, casL cs C (cellV cs C) (7 + (i : Int) + 1), up (up (up aa)), up (up (up am)), if x106 = true then k + 1 else k⟩ := ⟨_, codes_next h100 h106, rfl⟩)
                            refine k_roundF ((i + 1, zn)) ?_ ?_ (by repeat (first | (with_reducible exact Pre.refl) | refine Pre.cons (by exact rfl) ?_)) ?_ (fun w hw => by
                               subst hzn
                               dsimp only at hw ⊢
                               try rw [show 2 * (i + 1) = 2 * i + 1 + 1 by omega]
                               refine hw.keepU (by repeat (first | exact List.Sublist.refl _ | apply List.Sublist.cons_cons | apply List.Sublist.cons)) (fun f hf => ?_) (by repeat (first | exact List.Sublist.refl _ | apply List.Sublist.cons))
                               simp only [List.mem_append, List.mem_cons, List.not_mem_nil, or_false, false_or, or_assoc] at hf ⊢
                               rcases hf with h | h | h | h | h | h | h | h <;> simp [h])
                            · show t0 - (i + 1) < t0 - i; omega
                            · repeat' (first | exact knows_nil _ | refine knows_cons ?_ ?_)
                              all_goals (subst hzn; first | exact rfl | (conv => { lhs; whnf }; simp [c106]; done) | (conv => { lhs; whnf }; congr 1; omega))
                            · refine ⟨by show i + 1 ≤ t0; omega, ?_, ?_, ?_⟩
                              · show RqI (addP (t0 - (i + 1)) C (7 + ((i + 1 : Nat) : Int)) (zn.k : Int)) zn.c (zn.F ++ (x37.2.2.1 ++ ([(some ⟨x9, 0, none⟩, [.int .i64 C]), (some ⟨x10, 0, none⟩, [.int .i64 ((t0 : Nat) : Int)])] : Fr))) zn.u
                                rw [et, eN]
                                exact hz1
                              · subst hzn
                                show (casL _ _ _ _).length = _
                                simp only [casL_length]
                                exact hcl
                              · subst hzn
                                show (if x106 = true then k + 1 else k) ≤ i + 1
                                split <;> omega
                      · try (exact absurd c106 (by decide))
                        all_goals (revert c106; (first | refine cv2 ?_ | refine cv4 ?_ | refine cv6 ?_ | refine cv8 ?_ | refine cva ?_ | refine cvc ?_ | refine cve ?_ | skip); intro c106)
                        all_goals try (exfalso; omega)
                        all_goals (refine k_skip ?_; refine k_seq ?_; refine k_drawF (.one 0 [] (.one 1 [] (.one 3 [] (.one 4 [] (.one 2 [4] (.one 5 [] (.one 6 [] (.one 7 [] (.one 8 [] (.one 10 [] (.one 11 [] (.one 12 [] (.one 9 [] (.one 13 [] (.one 14 [] .nil))))))))))))))) ?_; refine r_move (i := 0) ?_; refine r_ownQ (i := 1) (hq := (o_loadF1 (a := some ⟨x9, 0, none⟩) (cs := [.int .i64 C]) (q := 0) (v := .int .i64 C) (by exact rfl) (by exact one_of rfl) (.new (FAt.of_mem (by simp))) rfl)) (h := ?_); refine r_move (i := 3) ?_; refine r_ownQ (i := 4) (hq := (o_loadF1 (a := some ⟨x9, 0, none⟩) (cs := [.int .i64 C]) (q := 0) (v := .int .i64 C) (by exact rfl) (by exact one_of rfl) (.new (FAt.of_mem (by simp))) rfl)) (h := ?_); ((refine r_own (i := 2) (hq := (by first | exact cM (hc := fun w hs => aLoad_c (L := s.La) (cs := casL (casL cs C (cellV cs C) 100) C (cellV cs C) (7 + (i : Int) + 1)) hs C hCr (by rw [casL_length, casL_length]; omega)) | exact cM (hc := fun w hs => aLoad_c (L := s.La) (cs := casL cs C (cellV cs C) (7 + (i : Int) + 1)) hs C hCr (by rw [casL_length]; omega)))) (hfire := (fun _ => by first | (refine FireAll.cons (by first | exact a_own (hq := o_loadF1 (a := some ⟨x9, 0, none⟩) (cs := [.int .i64 C]) (q := 0) (v := .int .i64 C) (by exact rfl) (by exact one_of rfl) (.new (FAt.of_mem (by simp))) rfl) | exact a_un) ?_; exact FireAll.nil) | (refine fireall_fact ?_; refine FireAll.cons (by first | exact a_own (hq := o_loadF1 (a := some ⟨x9, 0, none⟩) (cs := [.int .i64 C]) (q := 0) (v := .int .i64 C) (by exact rfl) (by exact one_of rfl) (.new (FAt.of_mem (by simp))) rfl) | exact a_un) ?_; exact FireAll.nil))) (h := fun x111 => ?_); try (refine r_fact (fun h111 => ?_)))); ((refine r_own (i := 5) (hq := (by first | exact cM (hc := fun w hs => mLoad_c (L := s.Lm) (cs := casL (casL cs C (cellV cs C) 100) C (cellV cs C) (7 + (i : Int) + 1)) hs C hCr (by rw [casL_length, casL_length]; omega)) | exact cM (hc := fun w hs => mLoad_c (L := s.Lm) (cs := casL cs C (cellV cs C) (7 + (i : Int) + 1)) hs C hCr (by rw [casL_length]; omega)))) (hfire := (fun _ => .nil)) (h := fun x114 => ?_); try (refine r_fact (fun h114 => ?_)))); refine r_neq (i := 6) ?_; refine r_move (i := 7) ?_)
                        all_goals (first | refine r_un (i := 8) ?_ | (refine r_move (i := 8) ?_) | (refine r_case (g := 116) (by exact rfl) (fun g116 => ?_) (fun g116 => ?_) <;> (revert g116; (first | refine cv1 ?_ | refine cv2 ?_ | refine cvb ?_ | refine cvc ?_ | refine cv9 ?_ | refine cva ?_ | refine cv7 ?_ | refine cv8 ?_ | refine cvd ?_ | refine cve ?_ | skip); intro g116) <;> (try (exfalso; omega)) <;> (first | refine r_un (i := 8) ?_ | (refine r_move (i := 8) ?_))))
                        all_goals ((first | refine r_un (i := 10) ?_ | (refine r_move (i := 10) ?_)); (first | refine r_un (i := 11) ?_ | (refine r_ownP (i := 11) (hq := (o_mulE (r := ((2 * i : Nat) : Int)) (by exact rfl) (by exact rfl) (by omega) (by omega))) (h := ?_))); (first | refine r_un (i := 12) ?_ | (refine r_ownP (i := 12) (hq := (o_addE (r := ((2 * i + 2 : Nat) : Int)) (by exact rfl) (by exact rfl) (by omega) (by omega))) (h := ?_))); ((first | refine r_un (i := 9) ?_ | ((refine r_own (i := 9) (hq := (cV (hc := fun w1 hw => tkSteps_c (hw.st.at (by repeat (first | exact At.head | apply At.tail)))))) (hfire := (fun _ => .nil)) (h := fun x118 => ?_); try (refine r_fact (fun h118 => ?_)))))); (first | refine r_un (i := 13) ?_ | (refine r_neq (i := 13) ?_)); refine r_pick (i := 14) ?_; refine r_fin ?_)
                        all_goals
                         refine k_if (fun c123 => ?_) (fun c123 => ?_)
                         · try (exact absurd c123 (by decide))
                           all_goals (revert c123; (first | refine cv1 ?_ | refine cv3 ?_ | refine cv5 ?_ | refine cv7 ?_ | refine cv9 ?_ | refine cvb ?_ | refine cvd ?_ | skip); intro c123)
                           all_goals try (exfalso; omega)
                           all_goals (refine k_seq ?_; refine k_region ?_; refine j_assignL (fun _ => ?_); refine l_nil ?_)
                           all_goals
                            refine k_rv Try.results8 (fun w hw => ?_)
                            first | exact ⟨rfl, hw.done⟩ | trace_state
                         · try (exact absurd c123 (by decide))
                           all_goals (revert c123; (first | refine cv2 ?_ | refine cv4 ?_ | refine cv6 ?_ | refine cv8 ?_ | refine cva ?_ | refine cvc ?_ | refine cve ?_ | skip); intro c123)
                           all_goals try (exfalso; omega)
                           all_goals (refine k_skip ?_; refine k_blk ?_; refine k_region ?_; refine j_move ?_; refine j_inc ?_; refine j_assignL (fun _ => ?_); refine l_nil ?_)
                           all_goals
                            have et : t0 - (i + 1) = t1 := by omega
                            have eN : (7 + ((i + 1 : Nat) : Int)) = (7 + (i : Int) + 1) := by omega
                            first
                             | (revert h94; intro h94; obtain ⟨zn, hz1, hzn⟩ : ∃ zn : CS, RqI (addP t1 C (7 + (i : Int) + 1) (zn.k : Int)) zn.c (zn.F ++ (x37.2.2.1 ++ ([(some ⟨x9, 0, none⟩, [.int .i64 C]), (some ⟨x10, 0, none⟩, [.int .i64 ((t0 : Nat) : Int)])] : Fr))) zn.u ∧ zn = ⟨x100.1, x100.2.1 ++ (x59.2.1 ++ F), x100.2.2, casL (casL cs C (cellV cs C) 100) C (cellV cs C) (7 + (i : Int) + 1), up (up (up (up aa))), up (up (up (up am))), if x106 = true then k + 1 else k⟩ := ⟨_, codes_next h100 h106, rfl⟩)
                             | (obtain ⟨zn, hz1, hzn⟩ : ∃ zn : CS, RqI (addP t1 C (7 + (i : Int) + 1) (zn.k : Int)) zn.c (zn.F ++ (x37.2.2.1 ++ ([(some ⟨x9, 0, none⟩, [.int .i64 C]), (some ⟨x10, 0, none⟩, [.int .i64 ((t0 : Nat) : Int)])] : Fr))) zn.u ∧ zn = ⟨x100.1, x100.2.1 ++ (x59.2.1 ++ F), x100.2.2, casL cs C (cellV cs C) (7 + (i : Int) + 1), up (up (up aa)), up (up (up am)), if x106 = true then k + 1 else k⟩ := ⟨_, codes_next h100 h106, rfl⟩)
                            refine k_roundF ((i + 1, zn)) ?_ ?_ (by repeat (first | (with_reducible exact Pre.refl) | refine Pre.cons (by exact rfl) ?_)) ?_ (fun w hw => by
                               subst hzn
                               dsimp only at hw ⊢
                               try rw [show 2 * (i + 1) = 2 * i + 1 + 1 by omega]
                               refine hw.keepU (by repeat (first | exact List.Sublist.refl _ | apply List.Sublist.cons_cons | apply List.Sublist.cons)) (fun f hf => ?_) (by repeat (first | exact List.Sublist.refl _ | apply List.Sublist.cons))
                               simp only [List.mem_append, List.mem_cons, List.not_mem_nil, or_false, false_or, or_assoc] at hf ⊢
                               rcases hf with h | h | h | h | h | h | h | h <;> simp [h])
                            · show t0 - (i + 1) < t0 - i; omega
                            · repeat' (first | exact knows_nil _ | refine knows_cons ?_ ?_)
                              all_goals (subst hzn; first | exact rfl | (conv => { lhs; whnf }; simp [c106]; done) | (conv => { lhs; whnf }; congr 1; omega))
                            · refine ⟨by show i + 1 ≤ t0; omega, ?_, ?_, ?_⟩
                              · show RqI (addP (t0 - (i + 1)) C (7 + ((i + 1 : Nat) : Int)) (zn.k : Int)) zn.c (zn.F ++ (x37.2.2.1 ++ ([(some ⟨x9, 0, none⟩, [.int .i64 C]), (some ⟨x10, 0, none⟩, [.int .i64 ((t0 : Nat) : Int)])] : Fr))) zn.u
                                rw [et, eN]
                                exact hz1
                              · subst hzn
                                show (casL _ _ _ _).length = _
                                simp only [casL_length]
                                exact hcl
                              · subst hzn
                                show (if x106 = true then k + 1 else k) ≤ i + 1
                                split <;> omega
                   · try (exact absurd c90 (by decide))
                     all_goals (revert c90; (first | refine cv2 ?_ | refine cv4 ?_ | refine cv6 ?_ | refine cv8 ?_ | refine cva ?_ | refine cvc ?_ | refine cve ?_ | skip); intro c90)
                     all_goals try (exfalso; omega)
                     all_goals (refine k_skip ?_; refine k_seq ?_; refine k_region ?_; refine j_move ?_)
                     all_goals (refine j_own (by first | exact cM (V := fun _ : Cd × Fr × Ub => .tuple #[]) (Fc := fun y => y.2.1) (A0 := x59.2.1 ++ (F ++ (x37.2.2.1 ++ ([(some ⟨x9, 0, none⟩, [.int .i64 C]), (some ⟨x10, 0, none⟩, [.int .i64 ((t0 : Nat) : Int)])] : Fr)))) (hs' := fun y => [(x37.1, tO ba y.1 (2 * i + 1 + 1)), (ba, aO s.La (casL (casL cs C (cellV cs C) 100) C (cellV cs C) (7 + (i : Int) + 1)) s.gen (up (up (up aa))) s.apn s.acn x28.1 x28.2), (y.2.2.1, ibox 3 y.2.2.2)]) (os' := fun _ => mW s.La (casL (casL cs C (cellV cs C) 100) C (cellV cs C) (7 + (i : Int) + 1)) s.apn s.acn x28.1 x28.2) (hA := HasAll.of fun f hf => Or.inr (Or.inr (Or.inl (by simp only [List.mem_append, List.mem_cons, List.not_mem_nil, or_false, false_or, or_assoc] at hf ⊢; first | (rcases hf with h | h | h | h | h <;> simp [h]; done) | (rcases hf with h | h | h | h <;> simp [h]; done))))) (hc := fun w hw => tkStepU_c (p := (addP (t1 + 1) C (7 + (i : Int)) (k : Int)).next cs) (cs := (casL cs C (cellV cs C) 100)) hw h59 (fun y hy => hy) rfl hCr (by first | omega | (rw [casL_length]; omega)) (by omega)) | exact cM (V := fun _ : Cd × Fr × Ub => .tuple #[]) (Fc := fun y => y.2.1) (A0 := x59.2.1 ++ (F ++ (x37.2.2.1 ++ ([(some ⟨x9, 0, none⟩, [.int .i64 C]), (some ⟨x10, 0, none⟩, [.int .i64 ((t0 : Nat) : Int)])] : Fr)))) (hs' := fun y => [(x37.1, tO ba y.1 (2 * i + 1 + 1)), (ba, aO s.La (casL cs C (cellV cs C) (7 + (i : Int) + 1)) s.gen (up (up aa)) s.apn s.acn x28.1 x28.2), (y.2.2.1, ibox 3 y.2.2.2)]) (os' := fun _ => mW s.La (casL cs C (cellV cs C) (7 + (i : Int) + 1)) s.apn s.acn x28.1 x28.2) (hA := HasAll.of fun f hf => Or.inr (Or.inr (Or.inl (by simp only [List.mem_append, List.mem_cons, List.not_mem_nil, or_false, false_or, or_assoc] at hf ⊢; first | (rcases hf with h | h | h | h | h <;> simp [h]; done) | (rcases hf with h | h | h | h <;> simp [h]; done))))) (hc := fun w hw => tkStepU_c (p := (addP (t1 + 1) C (7 + (i : Int)) (k : Int)).next cs) (cs := cs) hw h59 (fun y hy => hy) rfl hCr (by first | omega | (rw [casL_length]; omega)) (by omega))) (fun x100 => ?_); try (refine l_fact (fun h100 => ?_)))
                     all_goals (refine l_nil ?_; refine k_seq ?_; refine k_seq ?_; refine k_region ?_; refine j_move ?_; refine l_quiet (o_loadF1 (a := some ⟨x9, 0, none⟩) (cs := [.int .i64 C]) (q := 0) (v := .int .i64 C) (by exact rfl) (by exact one_of rfl) (.new (FAt.of_mem (by simp))) rfl) rfl ?_; refine j_move ?_; refine j_move ?_; refine l_quiet (o_addE (r := (7 + (i : Int) + 1)) (by exact rfl) (by exact rfl) (by omega) (by omega)) rfl ?_; (refine j_own (by first | exact cM (hc := fun w hs => mCAS_c (L := s.Lm) (cs := (casL cs C (cellV cs C) 100)) hs C (cellV cs C) (7 + (i : Int) + 1) hCr (by rw [casL_length]; omega)) | exact cM (hc := fun w hs => mCAS_c (L := s.Lm) (cs := cs) hs C (cellV cs C) (7 + (i : Int) + 1) hCr (by omega))) (fun x106 => ?_); try (refine l_fact (fun h106 => ?_))); refine l_nil ?_)
                     all_goals
                      refine k_if (fun c106 => ?_) (fun c106 => ?_)
                      · try (exact absurd c106 (by decide))
                        all_goals (revert c106; (first | refine cv1 ?_ | refine cv3 ?_ | refine cv5 ?_ | refine cv7 ?_ | refine cv9 ?_ | refine cvb ?_ | refine cvd ?_ | skip); intro c106)
                        all_goals try (exfalso; omega)
                        all_goals (refine k_region ?_; refine j_move ?_; refine j_inc ?_; refine j_assignL (fun _ => ?_); refine l_nil ?_; refine k_seq ?_; refine k_drawF (.one 0 [] (.one 1 [] (.one 3 [] (.one 4 [] (.one 2 [4] (.one 5 [] (.one 6 [] (.one 7 [] (.one 8 [] (.one 10 [] (.one 11 [] (.one 12 [] (.one 9 [] (.one 13 [] (.one 14 [] .nil))))))))))))))) ?_; refine r_move (i := 0) ?_; refine r_ownQ (i := 1) (hq := (o_loadF1 (a := some ⟨x9, 0, none⟩) (cs := [.int .i64 C]) (q := 0) (v := .int .i64 C) (by exact rfl) (by exact one_of rfl) (.new (FAt.of_mem (by simp))) rfl)) (h := ?_); refine r_move (i := 3) ?_; refine r_ownQ (i := 4) (hq := (o_loadF1 (a := some ⟨x9, 0, none⟩) (cs := [.int .i64 C]) (q := 0) (v := .int .i64 C) (by exact rfl) (by exact one_of rfl) (.new (FAt.of_mem (by simp))) rfl)) (h := ?_); ((refine r_own (i := 2) (hq := (by first | exact cM (hc := fun w hs => aLoad_c (L := s.La) (cs := casL (casL cs C (cellV cs C) 100) C (cellV cs C) (7 + (i : Int) + 1)) hs C hCr (by rw [casL_length, casL_length]; omega)) | exact cM (hc := fun w hs => aLoad_c (L := s.La) (cs := casL cs C (cellV cs C) (7 + (i : Int) + 1)) hs C hCr (by rw [casL_length]; omega)))) (hfire := (fun _ => by first | (refine FireAll.cons (by first | exact a_own (hq := o_loadF1 (a := some ⟨x9, 0, none⟩) (cs := [.int .i64 C]) (q := 0) (v := .int .i64 C) (by exact rfl) (by exact one_of rfl) (.new (FAt.of_mem (by simp))) rfl) | exact a_un) ?_; exact FireAll.nil) | (refine fireall_fact ?_; refine FireAll.cons (by first | exact a_own (hq := o_loadF1 (a := some ⟨x9, 0, none⟩) (cs := [.int .i64 C]) (q := 0) (v := .int .i64 C) (by exact rfl) (by exact one_of rfl) (.new (FAt.of_mem (by simp))) rfl) | exact a_un) ?_; exact FireAll.nil))) (h := fun x111 => ?_); try (refine r_fact (fun h111 => ?_)))); ((refine r_own (i := 5) (hq := (by first | exact cM (hc := fun w hs => mLoad_c (L := s.Lm) (cs := casL (casL cs C (cellV cs C) 100) C (cellV cs C) (7 + (i : Int) + 1)) hs C hCr (by rw [casL_length, casL_length]; omega)) | exact cM (hc := fun w hs => mLoad_c (L := s.Lm) (cs := casL cs C (cellV cs C) (7 + (i : Int) + 1)) hs C hCr (by rw [casL_length]; omega)))) (hfire := (fun _ => .nil)) (h := fun x114 => ?_); try (refine r_fact (fun h114 => ?_)))); refine r_neq (i := 6) ?_; refine r_move (i := 7) ?_)
                        all_goals (first | refine r_un (i := 8) ?_ | (refine r_move (i := 8) ?_) | (refine r_case (g := 116) (by exact rfl) (fun g116 => ?_) (fun g116 => ?_) <;> (revert g116; (first | refine cv1 ?_ | refine cv2 ?_ | refine cvb ?_ | refine cvc ?_ | refine cv9 ?_ | refine cva ?_ | refine cv7 ?_ | refine cv8 ?_ | refine cvd ?_ | refine cve ?_ | skip); intro g116) <;> (try (exfalso; omega)) <;> (first | refine r_un (i := 8) ?_ | (refine r_move (i := 8) ?_))))
                        all_goals ((first | refine r_un (i := 10) ?_ | (refine r_move (i := 10) ?_)); (first | refine r_un (i := 11) ?_ | (refine r_ownP (i := 11) (hq := (o_mulE (r := ((2 * i : Nat) : Int)) (by exact rfl) (by exact rfl) (by omega) (by omega))) (h := ?_))); (first | refine r_un (i := 12) ?_ | (refine r_ownP (i := 12) (hq := (o_addE (r := ((2 * i + 2 : Nat) : Int)) (by exact rfl) (by exact rfl) (by omega) (by omega))) (h := ?_))); ((first | refine r_un (i := 9) ?_ | ((refine r_own (i := 9) (hq := (cV (hc := fun w1 hw => tkSteps_c (hw.st.at (by repeat (first | exact At.head | apply At.tail)))))) (hfire := (fun _ => .nil)) (h := fun x118 => ?_); try (refine r_fact (fun h118 => ?_)))))); (first | refine r_un (i := 13) ?_ | (refine r_neq (i := 13) ?_)); refine r_pick (i := 14) ?_; refine r_fin ?_)
                        all_goals
                         refine k_if (fun c123 => ?_) (fun c123 => ?_)
                         · try (exact absurd c123 (by decide))
                           all_goals (revert c123; (first | refine cv1 ?_ | refine cv3 ?_ | refine cv5 ?_ | refine cv7 ?_ | refine cv9 ?_ | refine cvb ?_ | refine cvd ?_ | skip); intro c123)
                           all_goals try (exfalso; omega)
                           all_goals (refine k_seq ?_; refine k_region ?_; refine j_assignL (fun _ => ?_); refine l_nil ?_)
                           all_goals
                            refine k_rv Try.results8 (fun w hw => ?_)
                            first | exact ⟨rfl, hw.done⟩ | trace_state
                         · try (exact absurd c123 (by decide))
                           all_goals (revert c123; (first | refine cv2 ?_ | refine cv4 ?_ | refine cv6 ?_ | refine cv8 ?_ | refine cva ?_ | refine cvc ?_ | refine cve ?_ | skip); intro c123)
                           all_goals try (exfalso; omega)
                           all_goals (refine k_skip ?_; refine k_blk ?_; refine k_region ?_; refine j_move ?_; refine j_inc ?_; refine j_assignL (fun _ => ?_); refine l_nil ?_)
                           all_goals
                            have et : t0 - (i + 1) = t1 := by omega
                            have eN : (7 + ((i + 1 : Nat) : Int)) = (7 + (i : Int) + 1) := by omega
                            first
                             | (revert h94; intro h94; obtain ⟨zn, hz1, hzn⟩ : ∃ zn : CS, RqI (addP t1 C (7 + (i : Int) + 1) (zn.k : Int)) zn.c (zn.F ++ (x37.2.2.1 ++ ([(some ⟨x9, 0, none⟩, [.int .i64 C]), (some ⟨x10, 0, none⟩, [.int .i64 ((t0 : Nat) : Int)])] : Fr))) zn.u ∧ zn = ⟨x100.1, x100.2.1 ++ (x59.2.1 ++ F), x100.2.2, casL (casL cs C (cellV cs C) 100) C (cellV cs C) (7 + (i : Int) + 1), up (up (up (up aa))), up (up (up (up am))), if x106 = true then k + 1 else k⟩ := ⟨_, codes_next h100 h106, rfl⟩)
                             | (obtain ⟨zn, hz1, hzn⟩ : ∃ zn : CS, RqI (addP t1 C (7 + (i : Int) + 1) (zn.k : Int)) zn.c (zn.F ++ (x37.2.2.1 ++ ([(some ⟨x9, 0, none⟩, [.int .i64 C]), (some ⟨x10, 0, none⟩, [.int .i64 ((t0 : Nat) : Int)])] : Fr))) zn.u ∧ zn = ⟨x100.1, x100.2.1 ++ (x59.2.1 ++ F), x100.2.2, casL cs C (cellV cs C) (7 + (i : Int) + 1), up (up (up aa)), up (up (up am)), if x106 = true then k + 1 else k⟩ := ⟨_, codes_next h100 h106, rfl⟩)
                            refine k_roundF ((i + 1, zn)) ?_ ?_ (by repeat (first | (with_reducible exact Pre.refl) | refine Pre.cons (by exact rfl) ?_)) ?_ (fun w hw => by
                               subst hzn
                               dsimp only at hw ⊢
                               try rw [show 2 * (i + 1) = 2 * i + 1 + 1 by omega]
                               refine hw.keepU (by repeat (first | exact List.Sublist.refl _ | apply List.Sublist.cons_cons | apply List.Sublist.cons)) (fun f hf => ?_) (by repeat (first | exact List.Sublist.refl _ | apply List.Sublist.cons))
                               simp only [List.mem_append, List.mem_cons, List.not_mem_nil, or_false, false_or, or_assoc] at hf ⊢
                               rcases hf with h | h | h | h | h | h | h | h <;> simp [h])
                            · show t0 - (i + 1) < t0 - i; omega
                            · repeat' (first | exact knows_nil _ | refine knows_cons ?_ ?_)
                              all_goals (subst hzn; first | exact rfl | (conv => { lhs; whnf }; simp [c106]; done) | (conv => { lhs; whnf }; congr 1; omega))
                            · refine ⟨by show i + 1 ≤ t0; omega, ?_, ?_, ?_⟩
                              · show RqI (addP (t0 - (i + 1)) C (7 + ((i + 1 : Nat) : Int)) (zn.k : Int)) zn.c (zn.F ++ (x37.2.2.1 ++ ([(some ⟨x9, 0, none⟩, [.int .i64 C]), (some ⟨x10, 0, none⟩, [.int .i64 ((t0 : Nat) : Int)])] : Fr))) zn.u
                                rw [et, eN]
                                exact hz1
                              · subst hzn
                                show (casL _ _ _ _).length = _
                                simp only [casL_length]
                                exact hcl
                              · subst hzn
                                show (if x106 = true then k + 1 else k) ≤ i + 1
                                split <;> omega
                      · try (exact absurd c106 (by decide))
                        all_goals (revert c106; (first | refine cv2 ?_ | refine cv4 ?_ | refine cv6 ?_ | refine cv8 ?_ | refine cva ?_ | refine cvc ?_ | refine cve ?_ | skip); intro c106)
                        all_goals try (exfalso; omega)
                        all_goals (refine k_skip ?_; refine k_seq ?_; refine k_drawF (.one 0 [] (.one 1 [] (.one 3 [] (.one 4 [] (.one 2 [4] (.one 5 [] (.one 6 [] (.one 7 [] (.one 8 [] (.one 10 [] (.one 11 [] (.one 12 [] (.one 9 [] (.one 13 [] (.one 14 [] .nil))))))))))))))) ?_; refine r_move (i := 0) ?_; refine r_ownQ (i := 1) (hq := (o_loadF1 (a := some ⟨x9, 0, none⟩) (cs := [.int .i64 C]) (q := 0) (v := .int .i64 C) (by exact rfl) (by exact one_of rfl) (.new (FAt.of_mem (by simp))) rfl)) (h := ?_); refine r_move (i := 3) ?_; refine r_ownQ (i := 4) (hq := (o_loadF1 (a := some ⟨x9, 0, none⟩) (cs := [.int .i64 C]) (q := 0) (v := .int .i64 C) (by exact rfl) (by exact one_of rfl) (.new (FAt.of_mem (by simp))) rfl)) (h := ?_); ((refine r_own (i := 2) (hq := (by first | exact cM (hc := fun w hs => aLoad_c (L := s.La) (cs := casL (casL cs C (cellV cs C) 100) C (cellV cs C) (7 + (i : Int) + 1)) hs C hCr (by rw [casL_length, casL_length]; omega)) | exact cM (hc := fun w hs => aLoad_c (L := s.La) (cs := casL cs C (cellV cs C) (7 + (i : Int) + 1)) hs C hCr (by rw [casL_length]; omega)))) (hfire := (fun _ => by first | (refine FireAll.cons (by first | exact a_own (hq := o_loadF1 (a := some ⟨x9, 0, none⟩) (cs := [.int .i64 C]) (q := 0) (v := .int .i64 C) (by exact rfl) (by exact one_of rfl) (.new (FAt.of_mem (by simp))) rfl) | exact a_un) ?_; exact FireAll.nil) | (refine fireall_fact ?_; refine FireAll.cons (by first | exact a_own (hq := o_loadF1 (a := some ⟨x9, 0, none⟩) (cs := [.int .i64 C]) (q := 0) (v := .int .i64 C) (by exact rfl) (by exact one_of rfl) (.new (FAt.of_mem (by simp))) rfl) | exact a_un) ?_; exact FireAll.nil))) (h := fun x111 => ?_); try (refine r_fact (fun h111 => ?_)))); ((refine r_own (i := 5) (hq := (by first | exact cM (hc := fun w hs => mLoad_c (L := s.Lm) (cs := casL (casL cs C (cellV cs C) 100) C (cellV cs C) (7 + (i : Int) + 1)) hs C hCr (by rw [casL_length, casL_length]; omega)) | exact cM (hc := fun w hs => mLoad_c (L := s.Lm) (cs := casL cs C (cellV cs C) (7 + (i : Int) + 1)) hs C hCr (by rw [casL_length]; omega)))) (hfire := (fun _ => .nil)) (h := fun x114 => ?_); try (refine r_fact (fun h114 => ?_)))); refine r_neq (i := 6) ?_; refine r_move (i := 7) ?_)
                        all_goals (first | refine r_un (i := 8) ?_ | (refine r_move (i := 8) ?_) | (refine r_case (g := 116) (by exact rfl) (fun g116 => ?_) (fun g116 => ?_) <;> (revert g116; (first | refine cv1 ?_ | refine cv2 ?_ | refine cvb ?_ | refine cvc ?_ | refine cv9 ?_ | refine cva ?_ | refine cv7 ?_ | refine cv8 ?_ | refine cvd ?_ | refine cve ?_ | skip); intro g116) <;> (try (exfalso; omega)) <;> (first | refine r_un (i := 8) ?_ | (refine r_move (i := 8) ?_))))
                        all_goals ((first | refine r_un (i := 10) ?_ | (refine r_move (i := 10) ?_)); (first | refine r_un (i := 11) ?_ | (refine r_ownP (i := 11) (hq := (o_mulE (r := ((2 * i : Nat) : Int)) (by exact rfl) (by exact rfl) (by omega) (by omega))) (h := ?_))); (first | refine r_un (i := 12) ?_ | (refine r_ownP (i := 12) (hq := (o_addE (r := ((2 * i + 2 : Nat) : Int)) (by exact rfl) (by exact rfl) (by omega) (by omega))) (h := ?_))); ((first | refine r_un (i := 9) ?_ | ((refine r_own (i := 9) (hq := (cV (hc := fun w1 hw => tkSteps_c (hw.st.at (by repeat (first | exact At.head | apply At.tail)))))) (hfire := (fun _ => .nil)) (h := fun x118 => ?_); try (refine r_fact (fun h118 => ?_)))))); (first | refine r_un (i := 13) ?_ | (refine r_neq (i := 13) ?_)); refine r_pick (i := 14) ?_; refine r_fin ?_)
                        all_goals
                         refine k_if (fun c123 => ?_) (fun c123 => ?_)
                         · try (exact absurd c123 (by decide))
                           all_goals (revert c123; (first | refine cv1 ?_ | refine cv3 ?_ | refine cv5 ?_ | refine cv7 ?_ | refine cv9 ?_ | refine cvb ?_ | refine cvd ?_ | skip); intro c123)
                           all_goals try (exfalso; omega)
                           all_goals (refine k_seq ?_; refine k_region ?_; refine j_assignL (fun _ => ?_); refine l_nil ?_)
                           all_goals
                            refine k_rv Try.results8 (fun w hw => ?_)
                            first | exact ⟨rfl, hw.done⟩ | trace_state
                         · try (exact absurd c123 (by decide))
                           all_goals (revert c123; (first | refine cv2 ?_ | refine cv4 ?_ | refine cv6 ?_ | refine cv8 ?_ | refine cva ?_ | refine cvc ?_ | refine cve ?_ | skip); intro c123)
                           all_goals try (exfalso; omega)
                           all_goals (refine k_skip ?_; refine k_blk ?_; refine k_region ?_; refine j_move ?_; refine j_inc ?_; refine j_assignL (fun _ => ?_); refine l_nil ?_)
                           all_goals
                            have et : t0 - (i + 1) = t1 := by omega
                            have eN : (7 + ((i + 1 : Nat) : Int)) = (7 + (i : Int) + 1) := by omega
                            first
                             | (revert h94; intro h94; obtain ⟨zn, hz1, hzn⟩ : ∃ zn : CS, RqI (addP t1 C (7 + (i : Int) + 1) (zn.k : Int)) zn.c (zn.F ++ (x37.2.2.1 ++ ([(some ⟨x9, 0, none⟩, [.int .i64 C]), (some ⟨x10, 0, none⟩, [.int .i64 ((t0 : Nat) : Int)])] : Fr))) zn.u ∧ zn = ⟨x100.1, x100.2.1 ++ (x59.2.1 ++ F), x100.2.2, casL (casL cs C (cellV cs C) 100) C (cellV cs C) (7 + (i : Int) + 1), up (up (up (up aa))), up (up (up (up am))), if x106 = true then k + 1 else k⟩ := ⟨_, codes_next h100 h106, rfl⟩)
                             | (obtain ⟨zn, hz1, hzn⟩ : ∃ zn : CS, RqI (addP t1 C (7 + (i : Int) + 1) (zn.k : Int)) zn.c (zn.F ++ (x37.2.2.1 ++ ([(some ⟨x9, 0, none⟩, [.int .i64 C]), (some ⟨x10, 0, none⟩, [.int .i64 ((t0 : Nat) : Int)])] : Fr))) zn.u ∧ zn = ⟨x100.1, x100.2.1 ++ (x59.2.1 ++ F), x100.2.2, casL cs C (cellV cs C) (7 + (i : Int) + 1), up (up (up aa)), up (up (up am)), if x106 = true then k + 1 else k⟩ := ⟨_, codes_next h100 h106, rfl⟩)
                            refine k_roundF ((i + 1, zn)) ?_ ?_ (by repeat (first | (with_reducible exact Pre.refl) | refine Pre.cons (by exact rfl) ?_)) ?_ (fun w hw => by
                               subst hzn
                               dsimp only at hw ⊢
                               try rw [show 2 * (i + 1) = 2 * i + 1 + 1 by omega]
                               refine hw.keepU (by repeat (first | exact List.Sublist.refl _ | apply List.Sublist.cons_cons | apply List.Sublist.cons)) (fun f hf => ?_) (by repeat (first | exact List.Sublist.refl _ | apply List.Sublist.cons))
                               simp only [List.mem_append, List.mem_cons, List.not_mem_nil, or_false, false_or, or_assoc] at hf ⊢
                               rcases hf with h | h | h | h | h | h | h | h <;> simp [h])
                            · show t0 - (i + 1) < t0 - i; omega
                            · repeat' (first | exact knows_nil _ | refine knows_cons ?_ ?_)
                              all_goals (subst hzn; first | exact rfl | (conv => { lhs; whnf }; simp [c106]; done) | (conv => { lhs; whnf }; congr 1; omega))
                            · refine ⟨by show i + 1 ≤ t0; omega, ?_, ?_, ?_⟩
                              · show RqI (addP (t0 - (i + 1)) C (7 + ((i + 1 : Nat) : Int)) (zn.k : Int)) zn.c (zn.F ++ (x37.2.2.1 ++ ([(some ⟨x9, 0, none⟩, [.int .i64 C]), (some ⟨x10, 0, none⟩, [.int .i64 ((t0 : Nat) : Int)])] : Fr))) zn.u
                                rw [et, eN]
                                exact hz1
                              · subst hzn
                                show (casL _ _ _ _).length = _
                                simp only [casL_length]
                                exact hcl
                              · subst hzn
                                show (if x106 = true then k + 1 else k) ≤ i + 1
                                split <;> omega
          · try (exact absurd c42 (by decide))
            all_goals (revert c42; (first | refine cv2 ?_ | refine cv4 ?_ | refine cv6 ?_ | refine cv8 ?_ | refine cva ?_ | refine cvc ?_ | refine cve ?_ | skip); intro c42)
            all_goals try (exfalso; omega)
            all_goals
             obtain ⟨i, z⟩ := y
             obtain ⟨d, F, u, cs, aa, am, k⟩ := z
             have hi : i = t0 := by have := hx.1; simp only [] at c42 this; omega
             subst hi
             have hdd := hx.2.1
             simp only [Nat.sub_self] at hdd
             replace hdd : d = doneCd ⟨0, true, 0, ⟨#[]⟩, (k : Int), 7 + (i : Int), 0, false⟩ := hdd
             subst hdd
            all_goals (refine k_exit rfl ?_; refine k_seq ?_; refine k_region ?_; refine j_move ?_; refine l_quiet (o_mkI (by exact rfl) (fun w => mkI_arena _ w)) rfl ?_; (refine j_own (cFH (V := fun x : Nat × Fr => .pointer (some ⟨x.1, 0, none⟩)) (Fc := fun x => x.2) (Hc := fun x => [(x.1, tO ba (doneCd Rs.zero) 0)]) (Oc := fun _ => []) (hc := fun w1 hw => newZ_c w1)) (fun x126 => ?_); try (refine l_fact (fun h126 => ?_))); refine j_assignL (fun _ => ?_); refine l_nil ?_; refine k_seq ?_; refine k_drawF (.one 0 [] (.one 1 [] (.one 2 [] (.one 3 [] (.one 4 [] (.one 5 [] (.one 6 [] (.one 8 [] (.one 9 [] (.one 10 [] (.one 11 [] (.one 7 [9] (.one 12 [] (.one 13 [] (.one 14 [] (.one 15 [] (.one 16 [] (.one 17 [] (.one 18 [] (.one 19 [] (.one 20 [] (.one 21 [] (.one 22 [] (.one 23 [] (.one 25 [] (.one 24 [] (.one 26 [] (.one 27 [] (.one 28 [] .nil))))))))))))))))))))))))))))) ?_; ((refine r_own (i := 0) (hq := (cV (hc := fun w1 hw => awake11_c w1))) (hfire := (fun _ => .nil)) (h := fun x127 => ?_); try (refine r_fact (fun h127 => ?_)))); refine r_move (i := 1) ?_)
            all_goals (first | refine r_un (i := 2) ?_ | (refine r_move (i := 2) ?_) | (refine r_case (g := 128) (by exact rfl) (fun g128 => ?_) (fun g128 => ?_) <;> (revert g128; (first | refine cv1 ?_ | refine cv2 ?_ | refine cvb ?_ | refine cvc ?_ | refine cv9 ?_ | refine cva ?_ | refine cv7 ?_ | refine cv8 ?_ | refine cvd ?_ | refine cve ?_ | skip); intro g128) <;> (try (exfalso; omega)) <;> (first | refine r_un (i := 2) ?_ | (refine r_move (i := 2) ?_))))
            all_goals (((first | refine r_un (i := 3) ?_ | ((refine r_own (i := 3) (hq := (cV (hc := fun w1 hw => tkDoneD_c (hw.st.at (by repeat (first | exact At.head | apply At.tail)))))) (hfire := (fun _ => .nil)) (h := fun x130 => ?_); try (refine r_fact (fun h130 => ?_)))))); refine r_pick (i := 4) ?_; refine r_move (i := 5) ?_)
            all_goals (first | refine r_un (i := 6) ?_ | (refine r_move (i := 6) ?_) | (refine r_case (g := 132) (by exact rfl) (fun g132 => ?_) (fun g132 => ?_) <;> (revert g132; (first | refine cv1 ?_ | refine cv2 ?_ | refine cvb ?_ | refine cvc ?_ | refine cv9 ?_ | refine cva ?_ | refine cv7 ?_ | refine cv8 ?_ | refine cvd ?_ | refine cve ?_ | skip); intro g132) <;> (try (exfalso; omega)) <;> (first | refine r_un (i := 6) ?_ | (refine r_move (i := 6) ?_))))
            all_goals ((first | refine r_un (i := 8) ?_ | (refine r_move (i := 8) ?_)); (first | refine r_un (i := 9) ?_ | (refine r_ownQ (i := 9) (hq := (o_loadF1 (a := some ⟨x10, 0, none⟩) (cs := [.int .i64 ((i : Nat) : Int)]) (q := 0) (v := .int .i64 ((i : Nat) : Int)) (by exact rfl) (by exact one_of rfl) (.new (FAt.of_mem (by simp))) rfl)) (h := ?_))); (first | refine r_un (i := 10) ?_ | (refine r_ownP (i := 10) (hq := (o_addE (r := 7 + (i : Int)) (by exact rfl) (by exact rfl) (by omega) rfl)) (h := ?_))); (first | refine r_un (i := 11) ?_ | (refine r_build (i := 11) ?_)); ((first | refine r_un (i := 7) ?_ | ((refine r_own (i := 7) (hq := (cV (hc := fun w1 hw => tkResD_c (hw.st.at (by repeat (first | exact At.head | apply At.tail)))))) (hfire := (fun _ => by first | (refine FireAll.cons (by first | exact a_own (hq := o_loadF1 (a := some ⟨x10, 0, none⟩) (cs := [.int .i64 ((i : Nat) : Int)]) (q := 0) (v := .int .i64 ((i : Nat) : Int)) (by exact rfl) (by exact one_of rfl) (.new (FAt.of_mem (by simp))) rfl) | exact a_un) ?_; exact FireAll.nil) | (refine fireall_fact ?_; refine FireAll.cons (by first | exact a_own (hq := o_loadF1 (a := some ⟨x10, 0, none⟩) (cs := [.int .i64 ((i : Nat) : Int)]) (q := 0) (v := .int .i64 ((i : Nat) : Int)) (by exact rfl) (by exact one_of rfl) (.new (FAt.of_mem (by simp))) rfl) | exact a_un) ?_; exact FireAll.nil))) (h := fun x134 => ?_); try (refine r_fact (fun h134 => ?_)))))); (first | refine r_un (i := 12) ?_ | (refine r_ownP (i := 12) (hq := (o_eqlRsT ⟨0, true, 0, ⟨#[]⟩, (k : Int), 7 + (i : Int), 0, false⟩ (by exact rfl) (by exact rfl) (rsT rfl))) (h := ?_))); refine r_pick (i := 13) ?_; refine r_move (i := 14) ?_)
            all_goals (first | refine r_un (i := 15) ?_ | (refine r_move (i := 15) ?_) | (refine r_case (g := 141) (by exact rfl) (fun g141 => ?_) (fun g141 => ?_) <;> (revert g141; (first | refine cv1 ?_ | refine cv2 ?_ | refine cvb ?_ | refine cvc ?_ | refine cv9 ?_ | refine cva ?_ | refine cv7 ?_ | refine cv8 ?_ | refine cvd ?_ | refine cve ?_ | skip); intro g141) <;> (try (exfalso; omega)) <;> (first | refine r_un (i := 15) ?_ | (refine r_move (i := 15) ?_))))
            all_goals ((first | refine r_un (i := 16) ?_ | (refine r_neq (i := 16) ?_)); refine r_pick (i := 17) ?_; refine r_move (i := 18) ?_)
            all_goals (first | refine r_un (i := 19) ?_ | (refine r_move (i := 19) ?_) | (refine r_case (g := 145) (by exact rfl) (fun g145 => ?_) (fun g145 => ?_) <;> (revert g145; (first | refine cv1 ?_ | refine cv2 ?_ | refine cvb ?_ | refine cvc ?_ | refine cv9 ?_ | refine cva ?_ | refine cv7 ?_ | refine cv8 ?_ | refine cvd ?_ | refine cve ?_ | skip); intro g145) <;> (try (exfalso; omega)) <;> (first | refine r_un (i := 19) ?_ | (refine r_move (i := 19) ?_))))
            all_goals (((first | refine r_un (i := 20) ?_ | ((refine r_own (i := 20) (hq := (cV (hc := fun w1 hw => tkDoneD_c (hw.st.at (by repeat (first | exact At.head | apply At.tail)))))) (hfire := (fun _ => .nil)) (h := fun x147 => ?_); try (refine r_fact (fun h147 => ?_)))))); refine r_pick (i := 21) ?_; refine r_move (i := 22) ?_)
            all_goals (first | refine r_un (i := 23) ?_ | (refine r_move (i := 23) ?_) | (refine r_case (g := 149) (by exact rfl) (fun g149 => ?_) (fun g149 => ?_) <;> (revert g149; (first | refine cv1 ?_ | refine cv2 ?_ | refine cvb ?_ | refine cvc ?_ | refine cv9 ?_ | refine cva ?_ | refine cv7 ?_ | refine cv8 ?_ | refine cvd ?_ | refine cve ?_ | skip); intro g149) <;> (try (exfalso; omega)) <;> (first | refine r_un (i := 23) ?_ | (refine r_move (i := 23) ?_))))
            all_goals ((first | refine r_un (i := 25) ?_ | (refine r_build (i := 25) ?_)); ((first | refine r_un (i := 24) ?_ | ((refine r_own (i := 24) (hq := (cV (hc := fun w1 hw => tkResD_c (hw.st.at (by repeat (first | exact At.head | apply At.tail)))))) (hfire := (fun _ => .nil)) (h := fun x151 => ?_); try (refine r_fact (fun h151 => ?_)))))); (first | refine r_un (i := 26) ?_ | (refine r_ownP (i := 26) (hq := (o_eqlRsT Rs.zero (by exact rfl) (by exact rfl) (rsT rfl))) (h := ?_))); refine r_pick (i := 27) ?_; refine r_assignL (i := 28) (hfire := (fun _ => .nil)) (h := fun _ => ?_); refine r_fin ?_)
            all_goals
             refine k_rv Try.results8 (fun w hw => ?_)
             first | exact ⟨rfl, hw.done⟩ | trace_state
end Go.Proofs.Ytmogngagpphnhaa
