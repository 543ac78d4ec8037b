/- ArenaOf: the walk. -/
import Derived.Test.YtmogngagpphnhaaArA
import Derived.Test.YtmogngagpphnhaaArU
set_option linter.unusedSimpArgs false
set_option linter.unusedVariables false
namespace Go.Ct
open Go Go.RowKit
section
variable {w0 w w' : World} {M : List Nat} {H : List (Nat × Obj)} {A F : Fr} {O : List Ow}
variable {P : Program} {S : List (Nat × Value)} {G : World → Prop} {d : Nat} {ty : TypeId} {pos : String} {af : Array Edge} {gd : Option (Nat × Bool)} {x y : Operand} {t t2 e : TypeId} {p a : Option Addr} {i m k c c2 : Nat}
def stsC (l : List StV) : List Value := l.flatMap StV.cells
theorem o_indexT {lst : List StV} {kk : IntKind} (hx : ev S x = .slice a m c) (hy : ev S y = .int kk ((k : Nat) : Int)) (ht : P.underlying t = some (.slice e)) (hs : aggOf P e 3 = true) (hf : FIn A F O a (stsC lst)) (h1 : k < m) (h2 : k < lst.length) :
    Quiet P S (SF w0 M H A F O) ⟨some d, .indexAddr t x y, ty, pos, af, gd⟩ (.pointer (some ⟨ablk a, aoff a + 3 * k, none⟩)) := o_indexG StV.len (by decide) hx hy ht hs hf h1 h2
theorem o_loadT {lst : List StV} {q : Nat} {s : StV} (hs : lst.getD q StV.zero = s) (hx : ev S x = .pointer (some ⟨ablk a, aoff a + 3 * q, none⟩)) (ht : aggOf P t 3 = true) (hf : FIn A F O a (stsC lst)) (hq : q < lst.length) :
    Quiet P S (SF w0 M H A F O) ⟨some d, .load t x, ty, pos, af, gd⟩ (.agg ⟨[.slice s.pn s.L.length s.cn, .slice s.pc s.cs.length s.cc, .int .i64 s.gen]⟩) := by
  subst hs
  exact o_loadG StV.zero StV.len hx ht hf hq
theorem SF.stV0 {s : StV} {A0 F0 : Fr} (h : SF w0 M H A F O w) (ok : s.Ok) (hs : ∀ f ∈ s.fr, f.2 = [] ∨ f ∈ A0 ∨ f ∈ F0) (hA : ∀ f ∈ A0, f ∈ A) (hF : ∀ f ∈ F0, f ∈ F) : StAt w s.L s.cs s.pn s.pc :=
  h.stV ok fun f hf => (hs f hf).imp id fun h => h.elim (fun h => .inl (hA f h)) fun h => .inr (.inl (hF f h))
end
end Go.Ct
namespace Go.Proofs.Ytmogngagpphnhaa
open Go.RowKit Go.Ct
theorem refProperT_c {b : Bool} {L : List NdV} {cs : List Int} {gen : Int} {pn pc : Option Addr} {cn cc : Nat} {w : World} (h : StAt w L cs pn pc) (hR : Rngs L) (hL : L.length ≤ 274877906944) (hC : cs.length ≤ 274877906944) (hb : b = true ↔ Proper L cs gen) :
    Calls Try.prog 25 #[.agg ⟨[.slice pn L.length cn, .slice pc cs.length cc, .int .i64 gen]⟩] w fun e w' => e = .returned (.bool b) ∧ St w [] [] w' :=
  (refProper_c h hR hL hC).mono fun e w' ⟨r, he, hr, hst⟩ => ⟨by rw [he, Bool.eq_iff_iff.2 (hr.trans hb.symm)], hst⟩
theorem sts_all {ss : List StV} {s0 sm x31 : StV} {p : Option Addr} {l : List Int} {n : Nd} {xs : List Int} {ys : List Pr} {x32 : Nat} {F1 : Fr} (hsd : ss = [s0, sm, x31]) (ok0 : s0.Ok) (ok1 : sm.Ok) (ok2 : x31.Ok) (hF1 : ∀ f ∈ famF sm.L, f ∈ F1) (h31 : ∀ f ∈ famF x31.L, f ∈ famF sm.L ∨ f ∈ NdV.fr ⟨n, xs, ys⟩) :
    ∀ s ∈ ss, s.Ok ∧ ∀ f ∈ s.fr, f.2 = [] ∨ f ∈ ((p, refsC l) :: (NdV.fr ⟨n, xs, ys⟩ ++ s0.fr) : Fr) ∨ f ∈ ((sm.pc, refsC sm.cs) :: (sm.pn, nvC sm.L) :: (some ⟨x32, 0, none⟩, stsC ss) :: (x31.pn, nvC x31.L) :: (x31.pc, refsC x31.cs) :: F1 : Fr) := by
  intro s hm
  have hm' := hm
  rw [hsd] at hm'
  simp only [List.mem_cons, List.not_mem_nil, or_false] at hm'
  rcases hm' with rfl | rfl | rfl
  · exact ⟨ok0, fun f hf => .inr (.inl (List.mem_cons_of_mem _ (List.mem_append_right _ hf)))⟩
  · refine ⟨ok1, fun f hf => .inr (.inr ?_)⟩
    rcases List.mem_cons.1 hf with rfl | hf
    · exact .tail _ (.head _)
    rcases List.mem_cons.1 hf with rfl | hf
    · exact .head _
    · exact .tail _ (.tail _ (.tail _ (.tail _ (.tail _ (hF1 f hf)))))
  · refine ⟨ok2, fun f hf => ?_⟩
    rcases List.mem_cons.1 hf with rfl | hf
    · exact .inr (.inr (.tail _ (.tail _ (.tail _ (.head _)))))
    rcases List.mem_cons.1 hf with rfl | hf
    · exact .inr (.inr (.tail _ (.tail _ (.tail _ (.tail _ (.head _))))))
    · rcases h31 f hf with h | h
      · exact .inr (.inr (.tail _ (.tail _ (.tail _ (.tail _ (.tail _ (hF1 f h)))))))
      · exact .inr (.inl (List.mem_cons_of_mem _ (List.mem_append_left _ h)))
theorem arenaOf_c {s0 : StV} {l : List Int} {p : Option Addr} {c : Nat} (i2 i3 : Int) {n : Nd} {xs : List Int} {ys : List Pr} {w : World} (h0 : StAt w s0.L s0.cs s0.pn s0.pc) (ok0 : s0.Ok) (hc : Cl w p (refsC l)) (hl : l.length ≤ 17592186043904) (hr : Rep w n xs ys) (hf : NdV.Fit ⟨n, xs, ys⟩) (hn : NdR n) (hL0 : s0.L.length ≤ 4611686018427387904) (hC0 : s0.cs.length ≤ 4611686018427387904) :
    Calls Try.prog 4 #[.agg ⟨[.slice s0.pn s0.L.length s0.cn, .slice s0.pc s0.cs.length s0.cc, .int .i64 s0.gen]⟩, .slice p l.length c, .int .i64 i2, .int .i64 i3, .agg ⟨n.cells⟩] w fun e w' => e = .returned (.bool true) ∧ St w [] [] w' := by
  refine enter Try.func4 Try.ntmps4 rfl rfl (SF.begin (A := (p, refsC l) :: (NdV.fr ⟨n, xs, ys⟩ ++ s0.fr)) (fun f hf => by
rcases List.mem_cons.1 hf with rfl | hf
· exact hc
rcases List.mem_append.1 hf with hf | hf
· simp only [NdV.fr, List.mem_cons, List.not_mem_nil, or_false] at hf
  rcases hf with rfl | rfl
  · exact hr.br
  · exact hr.pr
rcases List.mem_cons.1 hf with rfl | hf
· exact h0.nds
rcases List.mem_cons.1 hf with rfl | hf
· exact h0.cls
· exact h0.fam f hf)) ?_
  simp only [mkS]
  all_goals (refine k_seq ?_)
  all_goals refine k_region ?_
  all_goals refine j_box (fun x5 => ?_)
  all_goals refine j_box (fun x9 => ?_)
  all_goals refine j_assignL (fun _ => ?_)
  all_goals refine l_nil ?_
  all_goals (refine k_seq ?_)
  all_goals refine k_region ?_
  all_goals refine j_move ?_
  all_goals (refine j_own (cFH (Fc := fun _ => []) (Oc := fun _ => []) (hc := fun w1 hw => new_c)) (fun x17 => ?_); try (refine l_fact (fun h17 => ?_)))
  all_goals (refine j_own (cF1 (hc := fun w1 hw => mMem_c (hw.tape (by repeat (first | exact At.head | apply At.tail)) (by first | exact .new .head | exact .new (.tail .head) | exact .new (.tail (.tail .head)) | exact .new (.tail (.tail (.tail .head))) | exact .new (.tail (.tail (.tail (.tail .head)))) | exact .new (.tail (.tail (.tail (.tail (.tail .head))))) | exact .new (.tail (.tail (.tail (.tail (.tail (.tail .head)))))) | exact .new (.tail (.tail (.tail (.tail (.tail (.tail (.tail .head))))))) | exact .new (.tail (.tail (.tail (.tail (.tail (.tail (.tail (.tail .head)))))))) | exact .new (.tail (.tail (.tail (.tail (.tail (.tail (.tail (.tail (.tail .head))))))))) | exact .old .head | exact .old (.tail .head) | exact .old (.tail (.tail .head)) | exact .old (.tail (.tail (.tail .head))) | exact .old (.tail (.tail (.tail (.tail .head)))) | exact .old (.tail (.tail (.tail (.tail (.tail .head))))) | exact .own .head | exact .own (.tail .head) | exact .own (.tail (.tail .head)) | exact .own (.tail (.tail (.tail .head))) | exact .own (.tail (.tail (.tail (.tail .head)))) | exact .own (.tail (.tail (.tail (.tail (.tail .head))))) | exact .own (.tail (.tail (.tail (.tail (.tail (.tail .head)))))) | exact .own (.tail (.tail (.tail (.tail (.tail (.tail (.tail .head)))))))) hl))) (fun x18 => ?_); try (refine l_fact (fun h18 => ?_)))
  all_goals refine j_assignL (fun _ => ?_)
  all_goals refine l_nil ?_
  all_goals (refine k_seq ?_)
  all_goals (refine k_seq ?_)
  all_goals refine k_drawF (.one 0 [] (.one 1 [] (.one 2 [] (.one 3 [] (.one 4 [] (.one 5 [] (.one 6 [] (.one 7 [] (.one 8 [] (.one 9 [] (.one 10 [] (.one 11 [] (.one 15 [] (.one 12 [0, 4] (.one 13 [] (.one 14 [] .nil)))))))))))))))) ?_
  all_goals (refine r_load (i := 0) ?_)
  all_goals (refine r_move (i := 1) ?_)
  all_goals (refine r_nilCheck (i := 2) ?_)
  all_goals (refine r_fieldAddr (i := 3) ?_)
  all_goals (refine r_ownQ (i := 4) (hq := (o_loadPart (k := 3) (by exact rfl) (by repeat (first | exact At.head | apply At.tail)) (by exact agg_of rfl) (by simp only [List.drop_zero, List.take_succ_cons, List.take_zero]; exact rfl) rfl)) (h := ?_))
  all_goals (refine r_move (i := 5) ?_)
  all_goals (refine r_nilCheck (i := 6) ?_)
  all_goals (refine r_fieldAddr (i := 7) ?_)
  all_goals (refine r_ownQ (i := 8) (hq := (o_loadPart (k := 3) (by exact rfl) (by repeat (first | exact At.head | apply At.tail)) (by exact agg_of rfl) (by simp only [List.drop_zero, List.take_succ_cons, List.take_zero]; exact rfl) rfl)) (h := ?_))
  all_goals (refine r_move (i := 9) ?_)
  all_goals (refine r_move (i := 10) ?_)
  all_goals (refine r_load (i := 11) ?_)
  all_goals (refine r_move (i := 15) ?_)
  all_goals ((refine r_own (i := 12) (hq := (cF (V := fun s : StV => .agg ⟨s.cells⟩) (φ := fun s => (s.Ok ∧ ∀ f ∈ famF s.L, f ∈ famF x18.2.1.1 ∨ f ∈ NdV.fr ⟨n, xs, ys⟩) ∧ x18.2.1.1.length ≤ x18.2.2.1.2) (hc := fun w1 hw => Calls.mono (changed_c i2 i3 (hw.stAt (.inr (.inr (.inr ⟨_, .head _, rfl, rfl⟩))) (.inr (.inr (.inr ⟨_, .tail _ (.head _), rfl, rfl⟩))) (fun f hf => .inr (.inr (.inl (List.mem_append_left _ hf)))) h18.fit) h18.rng (hf.rep (hw.clH (f := (n.brA, refsC xs)) (.inr (.inl (List.mem_cons_of_mem _ (List.mem_append_left _ (by simp [NdV.fr])))))) (hw.clH (f := (n.prA, prC ys)) (.inr (.inl (List.mem_cons_of_mem _ (List.mem_append_left _ (by simp [NdV.fr]))))))) hf hn (by have := h18.hL; omega) (by have := h18.hc; omega) (by have := h18.proper.two; omega)) fun e w' ⟨s, he, hφ, hs⟩ => ⟨s, he, ⟨hφ, hw.capV .head⟩, hs⟩))) (hfire := (fun _ => by first | (refine FireAll.cons (by first | exact a_load | exact a_un) ?_; refine FireAll.cons (by first | exact a_own (hq := o_loadPart (k := 3) (by exact rfl) (by repeat (first | exact At.head | apply At.tail)) (by exact agg_of rfl) (by simp only [List.drop_zero, List.take_succ_cons, List.take_zero]; exact rfl) rfl) | exact a_un) ?_; exact FireAll.nil) | (refine fireall_fact ?_; refine FireAll.cons (by first | exact a_load | exact a_un) ?_; refine FireAll.cons (by first | exact a_own (hq := o_loadPart (k := 3) (by exact rfl) (by repeat (first | exact At.head | apply At.tail)) (by exact agg_of rfl) (by simp only [List.drop_zero, List.take_succ_cons, List.take_zero]; exact rfl) rfl) | exact a_un) ?_; exact FireAll.nil))) (h := fun x31 => ?_); try (refine r_fact (fun h31 => ?_))))
  all_goals (refine r_own (i := 13) (hq := (by exact lSFF fun _ => o_buildSlice (cs := stsC [s0, ⟨x18.2.1.1, x18.2.1.2, 3, x18.2.2.1.1, x18.2.2.1.2, x18.2.2.2.1.1, x18.2.2.2.1.2⟩, x31]) elem_state (by repeat (first | exact opParts_nil _ | (apply opParts_cons; (conv => { lhs; whnf })))) rfl rfl rfl rfl rfl)) (hfire := (fun _ => .nil)) (h := fun x32 => ?_))
  all_goals (refine r_len (i := 14) ?_)
  all_goals refine r_fin ?_
  all_goals (refine k_block ?_)
  all_goals
    obtain ⟨ss, hsd⟩ : ∃ ss, ss = [s0, ⟨x18.2.1.1, x18.2.1.2, 3, x18.2.2.1.1, x18.2.2.1.2, x18.2.2.2.1.1, x18.2.2.2.1.2⟩, x31] := ⟨_, rfl⟩
    have hlen : ss.length = 3 := by rw [hsd]; rfl
    have hss := sts_all (p := p) (l := l) (n := n) (xs := xs) (ys := ys) (x32 := x32) (F1 := famF x18.2.1.1 ++ []) hsd ok0 ⟨h18.fit, h18.rng, h31.2⟩ h31.1.1 (fun f hf => List.mem_append_left _ hf) h31.1.2
    refine k_loopF [10, 13, 14, 15, 34, 35, 36, 37, 38, 39, 40, 41, 42, 43, 44, 45, 46, 47, 48, 49, 50, 51, 52, 53, 54, 55, 56, 57, 58, 59, 60, 61, 62, 63, 64, 65, 66, 67, 68, 69, 70, 71, 72, 73, 74, 75, 76, 77, 78, 79, 80, 81, 82] (fun k => [(34, .int .i64 ((k : Nat) : Int))]) (fun k => k ≤ 3) (fun k => []) (fun k => ((x18.2.2.2.1.1, refsC x18.2.1.2) :: (x18.2.2.1.1, nvC x18.2.1.1) :: (some ⟨x32, 0, none⟩, stsC ss) :: (x31.pn, nvC x31.L) :: (x31.pc, refsC x31.cs) :: (famF x18.2.1.1 ++ []) : Fr)) (fun k => []) (fun k => 3 - k) (0) (by decide) (fun _ => by exact rfl) ?_ (Nat.zero_le _) (fun w hw => by subst hsd; have h3 := (hw.freeze .head).freeze .head; simp only [delO] at h3; exact h3.back (hF := FSub.all)) (fun k f hx => ?_)
    · repeat (first | exact knows_nil _ | refine knows_cons (by first | exact rfl | (conv => { lhs; whnf }; simp; done)) ?_)
    dsimp only [mkU, List.map, List.cons_append, List.nil_append]
    all_goals (refine k_seq ?_)
    all_goals refine k_region ?_
    all_goals refine j_lss ?_
    all_goals refine l_nil ?_
    all_goals (refine k_seq ?_)
    all_goals
      refine k_cond (by exact rfl) (fun c35 => ?_) (fun c35 => ?_)
      · try (exact absurd c35 (by decide))
        all_goals (revert c35; (first | refine cv1 ?_ | refine cv3 ?_ | refine cv5 ?_ | refine cv7 ?_ | refine cv9 ?_ | refine cvb ?_ | refine cvd ?_ | skip); intro c35)
        all_goals
          obtain ⟨s, hs⟩ : ∃ s, ss.getD k StV.zero = s := ⟨_, rfl⟩
          have hmem : s ∈ ss := by
            rw [← hs, List.getD_eq_getElem?_getD, List.getElem?_eq_getElem (by omega)]
            exact List.getElem_mem _
          obtain ⟨okS, hfr⟩ := hss s hmem
        all_goals (refine k_skip ?_)
        all_goals (refine k_seq ?_)
        all_goals (refine k_block ?_)
        all_goals (refine k_seq ?_)
        all_goals refine k_region ?_
        all_goals refine l_quiet (o_indexT (by exact rfl) (by exact rfl) (by exact sl_of rfl) (by exact agg_of rfl) (by first | exact .new .head | exact .new (.tail .head) | exact .new (.tail (.tail .head)) | exact .new (.tail (.tail (.tail .head))) | exact .new (.tail (.tail (.tail (.tail .head)))) | exact .new (.tail (.tail (.tail (.tail (.tail .head))))) | exact .new (.tail (.tail (.tail (.tail (.tail (.tail .head)))))) | exact .new (.tail (.tail (.tail (.tail (.tail (.tail (.tail .head))))))) | exact .new (.tail (.tail (.tail (.tail (.tail (.tail (.tail (.tail .head)))))))) | exact .new (.tail (.tail (.tail (.tail (.tail (.tail (.tail (.tail (.tail .head))))))))) | exact .old .head | exact .old (.tail .head) | exact .old (.tail (.tail .head)) | exact .old (.tail (.tail (.tail .head))) | exact .old (.tail (.tail (.tail (.tail .head)))) | exact .old (.tail (.tail (.tail (.tail (.tail .head))))) | exact .own .head | exact .own (.tail .head) | exact .own (.tail (.tail .head)) | exact .own (.tail (.tail (.tail .head))) | exact .own (.tail (.tail (.tail (.tail .head)))) | exact .own (.tail (.tail (.tail (.tail (.tail .head))))) | exact .own (.tail (.tail (.tail (.tail (.tail (.tail .head)))))) | exact .own (.tail (.tail (.tail (.tail (.tail (.tail (.tail .head)))))))) (by omega) (by omega)) rfl ?_
        all_goals refine l_quiet (o_loadT hs (by exact rfl) (by exact agg_of rfl) (by first | exact .new .head | exact .new (.tail .head) | exact .new (.tail (.tail .head)) | exact .new (.tail (.tail (.tail .head))) | exact .new (.tail (.tail (.tail (.tail .head)))) | exact .new (.tail (.tail (.tail (.tail (.tail .head))))) | exact .new (.tail (.tail (.tail (.tail (.tail (.tail .head)))))) | exact .new (.tail (.tail (.tail (.tail (.tail (.tail (.tail .head))))))) | exact .new (.tail (.tail (.tail (.tail (.tail (.tail (.tail (.tail .head)))))))) | exact .new (.tail (.tail (.tail (.tail (.tail (.tail (.tail (.tail (.tail .head))))))))) | exact .old .head | exact .old (.tail .head) | exact .old (.tail (.tail .head)) | exact .old (.tail (.tail (.tail .head))) | exact .old (.tail (.tail (.tail (.tail .head)))) | exact .old (.tail (.tail (.tail (.tail (.tail .head))))) | exact .own .head | exact .own (.tail .head) | exact .own (.tail (.tail .head)) | exact .own (.tail (.tail (.tail .head))) | exact .own (.tail (.tail (.tail (.tail .head)))) | exact .own (.tail (.tail (.tail (.tail (.tail .head))))) | exact .own (.tail (.tail (.tail (.tail (.tail (.tail .head)))))) | exact .own (.tail (.tail (.tail (.tail (.tail (.tail (.tail .head)))))))) (by omega)) rfl ?_
        all_goals refine j_alloc (fun x13 => ?_)
        all_goals refine j_store (fun _ => ?_)
        all_goals refine l_nil ?_
        all_goals (refine k_seq ?_)
        all_goals (refine k_seq ?_)
        all_goals refine k_region ?_
        all_goals refine j_fieldAddr ?_
        all_goals refine j_load ?_
        all_goals refine j_len ?_
        all_goals refine j_gtr ?_
        all_goals refine j_move ?_
        all_goals (first | refine j_un ?_ | (refine j_yes ?_; refine j_fieldAddr ?_) | (refine l_case (g := 42) (by exact rfl) (fun g42 => ?_) (fun g42 => ?_) <;> (revert g42; (first | refine cv1 ?_ | refine cv2 ?_ | refine cvb ?_ | refine cvc ?_ | refine cv9 ?_ | refine cva ?_ | refine cv7 ?_ | refine cv8 ?_ | refine cvd ?_ | refine cve ?_ | skip); intro g42) <;> (first | refine j_un ?_ | (refine j_yes ?_; refine j_fieldAddr ?_))))
        all_goals (first | refine j_un ?_ | (refine j_yes ?_; refine j_load ?_))
        all_goals (first | refine j_un ?_ | (refine j_yes ?_; refine j_len ?_))
        all_goals (first | refine j_un ?_ | (refine j_yes ?_; refine j_gtr ?_))
        all_goals refine j_pick ?_
        all_goals refine l_nil ?_
        all_goals
          refine k_cond (by exact rfl) (fun c47 => ?_) (fun c47 => ?_)
          · try (exact absurd c47 (by decide))
            all_goals (revert c47; (first | refine cv1 ?_ | refine cv3 ?_ | refine cv5 ?_ | refine cv7 ?_ | refine cv9 ?_ | refine cvb ?_ | refine cvd ?_ | skip); intro c47)
            all_goals (refine k_exit rfl ?_)
            all_goals refine k_region ?_
            all_goals refine j_inc ?_
            all_goals refine j_move ?_
            all_goals refine l_nil ?_
            all_goals
              refine k_roundF (k + 1) ?_ ?_ (by repeat (first | (with_reducible exact Pre.refl) | refine Pre.cons (by exact rfl) ?_)) ?_ (fun w hw => by first | exact hw.back (hF := FSub.all) (hO := by exact List.nil_sublist _) | exact hw.back (hF := FSub.ofSub fun f hf => List.mem_append_right _ (List.mem_append_right _ hf)) (hO := by exact List.nil_sublist _))
              · first | omega | (simp only []; omega)
              · repeat' (first | exact knows_nil _ | refine knows_cons ?_ ?_)
                all_goals (first | exact rfl | (conv => { lhs; whnf }; simp; done) | (conv => { lhs; whnf }; congr 1; omega))
              · omega
          · try (exact absurd c47 (by decide))
            all_goals (revert c47; (first | refine cv2 ?_ | refine cv4 ?_ | refine cv6 ?_ | refine cv8 ?_ | refine cva ?_ | refine cvc ?_ | refine cve ?_ | skip); intro c47)
            all_goals
              by_cases hp : Proper s.L s.cs s.gen
            all_goals (refine k_skip ?_)
            all_goals (refine k_seq ?_)
            all_goals refine k_region ?_
            all_goals refine j_load ?_
            all_goals (refine j_own (by first | exact cV (hc := fun w hw => ofNo_c (hw.stV0 okS hfr (fun _ h => h) (fun _ h => h)) (by omega) (by omega) hp) | exact cFH (hc := fun w hw => ofOk_c (hw.stV0 okS hfr (fun _ h => h) (fun _ h => h)) (by omega) (by omega) okS.cap hp)) (fun x50 => ?_); try (refine l_fact (fun h50 => ?_)))
            all_goals refine j_move ?_
            all_goals refine j_extract ?_
            all_goals refine j_extract ?_
            all_goals refine j_assignL (fun _ => ?_)
            all_goals refine j_assignL (fun _ => ?_)
            all_goals refine l_nil ?_
            all_goals (refine k_seq ?_)
            all_goals (refine k_seq ?_)
            all_goals refine k_region ?_
            all_goals refine j_move ?_
            all_goals refine j_eql ?_
            all_goals refine j_load ?_
            all_goals (refine j_own (by first | exact cV (hc := fun w hw => refProperT_c (b := false) (hw.stV0 okS hfr (fun _ h => h) (fun _ h => h)) okS.rng (by omega) (by omega) ⟨(fun h => nomatch h), fun h => absurd h hp⟩) | exact cV (hc := fun w hw => refProperT_c (b := true) (hw.stV0 okS hfr (fun _ h => h) (fun _ h => List.mem_append_right _ h)) okS.rng (by omega) (by omega) ⟨fun _ => hp, fun _ => rfl⟩)) (fun x56 => ?_); try (refine l_fact (fun h56 => ?_)))
            all_goals refine j_neqB ?_
            all_goals refine j_move ?_
            all_goals (first | refine j_un ?_ | (refine j_yes ?_; refine j_move ?_) | (refine l_case (g := 58) (by exact rfl) (fun g58 => ?_) (fun g58 => ?_) <;> (revert g58; (first | refine cv1 ?_ | refine cv2 ?_ | refine cvb ?_ | refine cvc ?_ | refine cv9 ?_ | refine cva ?_ | refine cv7 ?_ | refine cv8 ?_ | refine cvd ?_ | refine cve ?_ | skip); intro g58) <;> (first | refine j_un ?_ | (refine j_yes ?_; refine j_move ?_))))
            all_goals (first | refine j_un ?_ | (refine j_yes ?_; refine j_neq ?_))
            all_goals (first | refine j_un ?_ | (refine j_yes ?_; refine j_move ?_))
            all_goals (first | refine j_un ?_ | (refine j_yes ?_; refine j_move ?_) | (refine l_case (g := 61) (by exact rfl) (fun g61 => ?_) (fun g61 => ?_) <;> (revert g61; (first | refine cv1 ?_ | refine cv2 ?_ | refine cvb ?_ | refine cvc ?_ | refine cv9 ?_ | refine cva ?_ | refine cv7 ?_ | refine cv8 ?_ | refine cvd ?_ | refine cve ?_ | skip); intro g61) <;> (first | refine j_un ?_ | (refine j_yes ?_; refine j_move ?_))))
            all_goals (first | refine j_un ?_ | (refine j_yes ?_; refine j_neq ?_))
            all_goals (first | refine j_un ?_ | (refine j_yes ?_; refine j_pick ?_))
            all_goals refine j_pick ?_
            all_goals refine j_move ?_
            all_goals (first | refine j_un ?_ | (refine j_yes ?_; refine j_move ?_) | (refine l_case (g := 66) (by exact rfl) (fun g66 => ?_) (fun g66 => ?_) <;> (revert g66; (first | refine cv1 ?_ | refine cv2 ?_ | refine cvb ?_ | refine cvc ?_ | refine cv9 ?_ | refine cva ?_ | refine cv7 ?_ | refine cv8 ?_ | refine cvd ?_ | refine cve ?_ | skip); intro g66) <;> (first | refine j_un ?_ | (refine j_yes ?_; refine j_move ?_))))
            all_goals (first | refine j_un ?_ | (refine j_yes ?_; refine j_neq ?_))
            all_goals (first | refine j_un ?_ | (refine j_yes ?_; refine j_move ?_))
            all_goals (first | refine j_un ?_ | (refine j_yes ?_; refine j_eql ?_))
            all_goals (first | refine j_un ?_ | (refine j_yes ?_; refine j_neqB ?_))
            all_goals refine j_pick ?_
            all_goals refine l_nil ?_
            all_goals
              refine k_cond (by exact rfl) (fun c72 => ?_) (fun c72 => ?_)
              · try (exact absurd c72 (by decide))
                all_goals (revert c72; (first | refine cv1 ?_ | refine cv3 ?_ | refine cv5 ?_ | refine cv7 ?_ | refine cv9 ?_ | refine cvb ?_ | refine cvd ?_ | skip); intro c72)
                all_goals
                  exact absurd rfl c72
                all_goals (refine k_seq ?_)
                all_goals refine k_region ?_
                all_goals refine j_assignL (fun _ => ?_)
                all_goals refine l_nil ?_
                all_goals
                  refine k_retvF Try.results4 (.tmp (by conv => { lhs; whnf }) .nil) (fun w hw => ?_)
                  exact ⟨rfl, hw.done⟩
              · try (exact absurd c72 (by decide))
                all_goals (revert c72; (first | refine cv2 ?_ | refine cv4 ?_ | refine cv6 ?_ | refine cv8 ?_ | refine cva ?_ | refine cvc ?_ | refine cve ?_ | skip); intro c72)
                all_goals (refine k_skip ?_)
                all_goals (refine k_seq ?_)
                all_goals refine k_drawF (.one 0 [] (.one 1 [] (.one 2 [] (.one 3 [] (.one 5 [] (.one 4 [5] (.one 6 [] (.one 7 [] (.one 8 [] .nil))))))))) ?_
                all_goals (refine r_move (i := 0) ?_)
                all_goals (refine r_neq (i := 1) ?_)
                all_goals (refine r_move (i := 2) ?_)
                all_goals (first | refine r_un (i := 3) ?_ | (refine r_move (i := 3) ?_) | (refine r_case (g := 75) (by exact rfl) (fun g75 => ?_) (fun g75 => ?_) <;> (revert g75; (first | refine cv1 ?_ | refine cv2 ?_ | refine cvb ?_ | refine cvc ?_ | refine cv9 ?_ | refine cva ?_ | refine cv7 ?_ | refine cv8 ?_ | refine cvd ?_ | refine cve ?_ | skip); intro g75) <;> (first | refine r_un (i := 3) ?_ | (refine r_move (i := 3) ?_))))
                all_goals (first | refine r_un (i := 5) ?_ | (refine r_load (i := 5) ?_))
                all_goals (first | refine r_un (i := 4) ?_ | ((refine r_own (i := 4) (hq := (cMO (A0 := famF x50.2.1) (hA := HasAll.of fun f hf => .inr (.inr (.inl (List.mem_append_left _ hf)))) (hc := fun w hs => aState_c (L := x50.2.1) (cs := s.cs) hs h50.2 (by have := congrArg List.length h50.1; simp only [List.length_map, allV_length] at this; omega) (by omega)))) (hfire := (fun _ => by first | (refine FireAll.cons (by first | exact a_load | exact a_un) ?_; exact FireAll.nil) | (refine fireall_fact ?_; refine FireAll.cons (by first | exact a_load | exact a_un) ?_; exact FireAll.nil))) (h := fun x77 => ?_); try (refine r_fact (fun h77 => ?_)))))
                all_goals (first | refine r_un (i := 6) ?_ | ((refine r_own (i := 6) (hq := (cV (hc := fun w hw => sameT_c (L1 := x77.1) (L2 := s.L) (cs1 := s.cs) (cs2 := s.cs) (hw.stAt (.inr (.inr (.inr ⟨_, .head _, rfl, rfl⟩))) (.inr (.inr (.inr ⟨_, .tail _ (.head _), rfl, rfl⟩))) (fun f hf => .inr (.inr (.inl (List.mem_append_left _ hf)))) h77.2) (hw.stV0 okS hfr (fun _ h => h) (fun _ h => List.mem_append_right _ (List.mem_append_right _ h))) (by have h1 := congrArg List.length h77.1; have h2 := congrArg List.length h50.1; simp only [List.length_map, allV_length] at h1 h2; omega) (by omega) (by omega) ⟨h77.1.trans h50.1, rfl, rfl⟩))) (hfire := (fun _ => .nil)) (h := fun x79 => ?_); try (refine r_fact (fun h79 => ?_)))))
                all_goals (first | refine r_un (i := 7) ?_ | (refine r_not (i := 7) ?_))
                all_goals (refine r_pick (i := 8) ?_)
                all_goals refine r_fin ?_
                all_goals
                  refine k_cond (by exact rfl) (fun c81 => ?_) (fun c81 => ?_)
                  · try (exact absurd c81 (by decide))
                    all_goals (revert c81; (first | refine cv1 ?_ | refine cv3 ?_ | refine cv5 ?_ | refine cv7 ?_ | refine cv9 ?_ | refine cvb ?_ | refine cvd ?_ | skip); intro c81)
                    all_goals (refine k_seq ?_)
                    all_goals refine k_region ?_
                    all_goals refine j_assignL (fun _ => ?_)
                    all_goals refine l_nil ?_
                    all_goals
                      refine k_retvF Try.results4 (.tmp (by conv => { lhs; whnf }) .nil) (fun w hw => ?_)
                      exact ⟨rfl, hw.done⟩
                  · try (exact absurd c81 (by decide))
                    all_goals (revert c81; (first | refine cv2 ?_ | refine cv4 ?_ | refine cv6 ?_ | refine cv8 ?_ | refine cva ?_ | refine cvc ?_ | refine cve ?_ | skip); intro c81)
                    all_goals (refine k_skip ?_)
                    all_goals (refine k_blk ?_)
                    all_goals refine k_region ?_
                    all_goals refine j_inc ?_
                    all_goals refine j_move ?_
                    all_goals refine l_nil ?_
                    all_goals
                      refine k_roundF (k + 1) ?_ ?_ (by repeat (first | (with_reducible exact Pre.refl) | refine Pre.cons (by exact rfl) ?_)) ?_ (fun w hw => by first | exact hw.back (hF := FSub.all) (hO := by exact List.nil_sublist _) | exact hw.back (hF := FSub.ofSub fun f hf => List.mem_append_right _ (List.mem_append_right _ hf)) (hO := by exact List.nil_sublist _))
                      · first | omega | (simp only []; omega)
                      · repeat' (first | exact knows_nil _ | refine knows_cons ?_ ?_)
                        all_goals (first | exact rfl | (conv => { lhs; whnf }; simp; done) | (conv => { lhs; whnf }; congr 1; omega))
                      · omega
      · try (exact absurd c35 (by decide))
        all_goals (revert c35; (first | refine cv2 ?_ | refine cv4 ?_ | refine cv6 ?_ | refine cv8 ?_ | refine cva ?_ | refine cvc ?_ | refine cve ?_ | skip); intro c35)
        all_goals (refine k_exit rfl ?_)
        all_goals (refine k_seq ?_)
        all_goals refine k_region ?_
        all_goals (refine j_own (cV (hc := fun w1 hw => awake5_c w1)) (fun x83 => ?_); try (refine l_fact (fun h83 => ?_)))
        all_goals refine j_move ?_
        all_goals (first | refine j_un ?_ | (refine j_yes ?_; (refine j_own (cFH (Fc := fun _ => []) (hc := fun w1 hw => aNew_c w1)) (fun x85 => ?_); try (refine l_fact (fun h85 => ?_)))) | (refine l_case (g := 84) (by exact rfl) (fun g84 => ?_) (fun g84 => ?_) <;> (revert g84; (first | refine cv1 ?_ | refine cv2 ?_ | refine cvb ?_ | refine cvc ?_ | refine cv9 ?_ | refine cva ?_ | refine cv7 ?_ | refine cv8 ?_ | refine cvd ?_ | refine cve ?_ | skip); intro g84) <;> (first | refine j_un ?_ | (refine j_yes ?_; (refine j_own (cFH (Fc := fun _ => []) (hc := fun w1 hw => aNew_c w1)) (fun x85 => ?_); try (refine l_fact (fun h85 => ?_)))))))
        all_goals (first | refine j_un ?_ | (refine j_yes ?_; (refine j_own (cMO (A0 := []) (hc := fun w hs => aState_c (L := []) (cs := []) hs (fun _ h => (List.not_mem_nil h).elim) (by decide) (by decide))) (fun x86 => ?_); try (refine l_fact (fun h86 => ?_)))))
        all_goals (first | refine j_un ?_ | (refine j_yes ?_; (refine j_own (cFH (Fc := fun _ => []) (hc := fun w1 hw => mNew_c w1)) (fun x87 => ?_); try (refine l_fact (fun h87 => ?_)))))
        all_goals (first | refine j_un ?_ | (refine j_yes ?_; refine j_nilCheck ?_))
        all_goals (first | refine j_un ?_ | (refine j_yes ?_; refine j_fieldAddr ?_))
        all_goals (first | refine j_un ?_ | (refine j_yes ?_; refine l_quiet (o_loadPart (k := 3) (by exact rfl) (by repeat (first | exact At.head | apply At.tail)) (by exact agg_of rfl) (by simp only [List.drop_zero, List.take_succ_cons, List.take_zero]; exact rfl) rfl) rfl ?_))
        all_goals (first | refine j_un ?_ | (refine j_yes ?_; (refine j_own (cV (hc := fun w hw => sameT_c (L1 := x86.1) (L2 := [markV, markV]) (cs1 := []) (cs2 := []) (hw.stAt (.inr (.inr (.inr ⟨_, .tail _ (.tail _ (.head _)), rfl, rfl⟩))) (.inr (.inr (.inr ⟨_, .tail _ (.tail _ (.tail _ (.head _))), rfl, rfl⟩))) (fun f hf => .inr (.inr (.inl (List.mem_append_left _ hf)))) h86.2) (hw.stAt (.inr (.inr (.inr ⟨_, .head _, rfl, rfl⟩))) (.inr (.inr (.inr ⟨_, .tail _ (.head _), rfl, rfl⟩))) (fun f hf => .inl (by simp [famF, NdV.fr, markV] at hf; rcases hf with rfl | rfl | rfl | rfl <;> rfl)) good_new.fit) (by have h1 := congrArg List.length h86.1; simp only [List.length_map, allV_length] at h1; simp at h1; omega) (by decide) (by decide) ⟨h86.1, rfl, rfl⟩)) (fun x91 => ?_); try (refine l_fact (fun h91 => ?_)))))
        all_goals refine j_pick ?_
        all_goals refine j_assignL (fun _ => ?_)
        all_goals refine l_nil ?_
        all_goals
          refine k_retvF Try.results4 (.tmp (by conv => { lhs; whnf }) .nil) (fun w hw => ?_)
          exact ⟨rfl, hw.done⟩
end Go.Proofs.Ytmogngagpphnhaa
