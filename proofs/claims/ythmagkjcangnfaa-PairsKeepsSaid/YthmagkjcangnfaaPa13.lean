/- Pairs: the law PairsKeeps: the walk. -/
import Derived.Test.YthmagkjcangnfaaPa12
import Derived.Test.YthmagkjcangnfaaWipe
set_option linter.unusedSimpArgs false
set_option linter.unusedVariables false
namespace Go.Ct
open Go Go.RowKit
section
variable {P : Program} {S : List (Nat × Value)} {G : World → Prop} {d : Nat} {ty t t' e : TypeId} {pos : String} {af : Array Edge} {gd : Option (Nat × Bool)} {x y z : Operand} {a : Option Addr} {m c k n sz : Nat}
/-- l[:k:n] -/
theorem o_sliceHM (hx : ev S x = .slice a m c) (hy : ev S y = .int .i64 ((k : Nat) : Int)) (hz : ev S z = .int .i64 ((n : Nat) : Int)) (ht : P.underlying t = some (.slice e)) (hs : (P.info? e).map (·.size) = some sz) (hk : k ≤ n) (hn : n ≤ c) :
    Quiet P S G ⟨some d, .slice t x none (some y) (some z), ty, pos, af, gd⟩ (.slice a k n) := ⟨fun w _ => by
  have h0 : (if n = 0 then a else a.map (·.add 0)) = a := by
    split
    · rfl
    · cases a <;> simp [Addr.add_zero']
  have he : P.elem t = e := by simp [Program.elem, ht]
  have ht' : P.underlying t = some (.slice (P.elem t)) := by rw [he]; exact ht
  cases hi : P.info? e with
  | none => simp [hi] at hs
  | some i =>
    have := run_slice_hm (P := P) w t a m c ht' .i64 .i64 (k : Int) (n : Int) (by omega) (by omega) (by omega)
    simp [execOp, hx, hy, hz, run_sliceAt_slice w t _ _ _ _ ht', this, he, sizeOf, typeInfo, hi, sliced, h0]⟩
theorem o_cap (hx : ev S x = .slice a m c) (ht : P.underlying t = some (.slice e)) : Quiet P S G ⟨some d, .call { callee := .builtin .cap, args := #[x], argTypes := #[t] }, ty, pos, af, gd⟩ (.int .i64 c) := ⟨fun w _ => by simp [execOp, resolve, invoke, builtin, hx, Builtin.cap_, run_underlying ht, goInt]⟩
variable {w0 : World} {M : List Nat} {H : List (Nat × Obj)} {A F : Fr} {O : List Ow}
theorem o_indexV {cs : List Value} {kk : IntKind} (hx : ev S x = .slice a m c) (hy : ev S y = .int kk ((k : Nat) : Int)) (ht : P.underlying t = some (.slice e)) (hs : one P e = true) (hf : FIn A F O a cs) (h1 : k < m) (h2 : k < cs.length) :
    Quiet P S (SF w0 M H A F O) ⟨some d, .indexAddr t x y, ty, pos, af, gd⟩ (.pointer (some ⟨ablk a, aoff a + k, none⟩)) := ⟨fun w hw =>
  (o_index1 (G := SF w0 M H A F O) hx hy ht hs ((hw.cl hf).ptr (by omega)) h1).run w hw⟩
theorem o_loadV {cs : List Value} {q : Nat} {v : Value} (hx : ev S x = .pointer (some ⟨ablk a, aoff a + q, none⟩)) (ht : one P t = true) (hf : FIn A F O a cs) (hq : cs[q]? = some v) :
    Quiet P S (SF w0 M H A F O) ⟨some d, .load t x, ty, pos, af, gd⟩ v := o_loadW hx ht (fun w hw => hw.cl hf) hq
end
end Go.Ct
namespace Go.Proofs.Ythmagkjcangnfaa
open Go.RowKit Go.Ct
theorem hpEq_c {xs ys : List Pr} {a b : Option Addr} {ca cb : Nat} {w : World} (ha : Cl w a (prC xs)) (hb : Cl w b (prC ys)) (hx : xs.length < 4611686018427387904) :
    Calls Try.prog 110 #[.slice a xs.length ca, .slice b ys.length cb] w fun e w' => e = .returned (.bool (decide (xs = ys))) ∧ St w [] [] w' := by
  refine enter Try.func110 Try.ntmps110 rfl rfl (SF.s2 ha hb) ?_
  simp only [mkS]
  all_goals (refine k_seq ?_)
  all_goals refine k_region ?_
  all_goals refine j_assignL (fun _ => ?_)
  all_goals refine l_nil ?_
  all_goals (refine k_seq ?_)
  all_goals (refine k_seq ?_)
  all_goals refine k_region ?_
  all_goals refine j_move ?_
  all_goals refine j_len ?_
  all_goals refine j_move ?_
  all_goals refine j_len ?_
  all_goals refine j_neq ?_
  all_goals refine l_nil ?_
  all_goals
    refine k_cond (by exact rfl) (fun c10 => ?_) (fun c10 => ?_)
    · try (exact absurd c10 (by decide))
      all_goals (first | replace c10 := of_decide_eq_true c10 | replace c10 := sbeq_t c10 | replace c10 := sbne_t c10 | replace c10 := ibeq_t c10 | replace c10 := ibne_t c10 | replace c10 := ndec_t c10 | replace c10 := not_t c10 | skip)
      all_goals (refine k_seq ?_)
      all_goals refine k_region ?_
      all_goals refine j_assignL (fun _ => ?_)
      all_goals refine l_nil ?_
      all_goals
        refine k_retvF Try.results110 (.tmp (by conv => { lhs; whnf }) .nil) (fun w hw => ?_)
        exact ⟨by rw [dec_of_len (by omega)]; rfl, hw.done⟩
    · try (exact absurd c10 (by decide))
      all_goals (first | replace c10 := of_decide_eq_false c10 | replace c10 := sbeq_f c10 | replace c10 := sbne_f c10 | replace c10 := ibeq_f c10 | replace c10 := ibne_f c10 | replace c10 := ndec_f c10 | replace c10 := not_f c10 | skip)
      all_goals (refine k_skip ?_)
      all_goals (refine k_seq ?_)
      all_goals (refine k_seq ?_)
      all_goals refine k_region ?_
      all_goals refine j_assignL (fun _ => ?_)
      all_goals refine l_nil ?_
      all_goals (refine k_block ?_)
      all_goals
        refine k_loopC [4, 5, 11, 12, 13, 14, 15, 16, 17, 18, 19, 20, 21, 22, 23, 24, 25] (fun k => [(5, .int .i64 ((k : Nat) : Int))]) (fun k => k ≤ xs.length ∧ xs.take k = ys.take k) (fun k => xs.length - k) (0) (⟨Nat.zero_le _, by simp⟩) ?_ (fun k f hx => ?_)
        · repeat (first | exact knows_nil _ | refine knows_cons (by first | exact rfl | (conv => { lhs; whnf }; simp; done)) ?_)
        dsimp only [mkU, List.map, List.cons_append, List.nil_append]
        all_goals (refine k_seq ?_)
        all_goals (refine k_seq ?_)
        all_goals refine k_region ?_
        all_goals refine j_move ?_
        all_goals refine j_move ?_
        all_goals refine j_len ?_
        all_goals refine j_lss ?_
        all_goals refine l_nil ?_
        all_goals
          refine k_cond (by exact rfl) (fun c14 => ?_) (fun c14 => ?_)
          · try (exact absurd c14 (by decide))
            all_goals (first | replace c14 := of_decide_eq_true c14 | replace c14 := sbeq_t c14 | replace c14 := sbne_t c14 | replace c14 := ibeq_t c14 | replace c14 := ibne_t c14 | replace c14 := ndec_t c14 | replace c14 := not_t c14 | skip)
            all_goals (refine k_skip ?_)
            all_goals (refine k_seq ?_)
            all_goals (refine k_block ?_)
            all_goals (refine k_seq ?_)
            all_goals refine k_drawF (.one 0 [] (.one 1 [] (.one 2 [] (.one 3 [] (.one 4 [] (.one 5 [] (.one 6 [] (.one 7 [] (.one 8 [] .nil))))))))) ?_
            all_goals (refine r_move (i := 0) ?_)
            all_goals (refine r_move (i := 1) ?_)
            all_goals (refine r_indexAddr (i := 2) ?_)
            all_goals (refine r_load (i := 3) ?_)
            all_goals (refine r_move (i := 4) ?_)
            all_goals (refine r_move (i := 5) ?_)
            all_goals (refine r_indexAddr (i := 6) ?_)
            all_goals (refine r_load (i := 7) ?_)
            all_goals (refine r_neqPr (i := 8) ?_)
            all_goals refine r_fin ?_
            all_goals
              refine k_cond (by exact rfl) (fun c25 => ?_) (fun c25 => ?_)
              · try (exact absurd c25 (by decide))
                all_goals (first | replace c25 := of_decide_eq_true c25 | replace c25 := sbeq_t c25 | replace c25 := sbne_t c25 | replace c25 := ibeq_t c25 | replace c25 := ibne_t c25 | replace c25 := ndec_t c25 | replace c25 := not_t c25 | skip)
                all_goals (refine k_seq ?_)
                all_goals refine k_region ?_
                all_goals refine j_assignL (fun _ => ?_)
                all_goals refine l_nil ?_
                all_goals
                  refine k_retvF Try.results110 (.tmp (by conv => { lhs; whnf }) .nil) (fun w hw => ?_)
                  exact ⟨by rw [dec_of_get fun h => c25 ⟨congrArg Prod.fst h, congrArg Prod.snd h⟩]; rfl, hw.done⟩
              · try (exact absurd c25 (by decide))
                all_goals (first | replace c25 := of_decide_eq_false c25 | replace c25 := sbeq_f c25 | replace c25 := sbne_f c25 | replace c25 := ibeq_f c25 | replace c25 := ibne_f c25 | replace c25 := ndec_f c25 | replace c25 := not_f c25 | skip)
                all_goals (refine k_skip ?_)
                all_goals (refine k_blk ?_)
                all_goals refine k_region ?_
                all_goals refine j_move ?_
                all_goals refine j_inc ?_
                all_goals refine j_assignL (fun _ => ?_)
                all_goals refine l_nil ?_
                all_goals
                  refine k_roundC (k + 1) ?_ ?_ ?_
                  · first | omega | (simp only []; omega)
                  · repeat' (first | exact knows_nil _ | refine knows_cons ?_ ?_)
                    all_goals (first | exact rfl | (conv => { lhs; whnf }; simp; done) | (conv => { lhs; whnf }; congr 1; omega))
                  · exact ⟨by omega, take_next hx.2 (by omega) (by omega) (Prod.ext c25.1 c25.2)⟩
          · try (exact absurd c14 (by decide))
            all_goals (first | replace c14 := of_decide_eq_false c14 | replace c14 := sbeq_f c14 | replace c14 := sbne_f c14 | replace c14 := ibeq_f c14 | replace c14 := ibne_f c14 | replace c14 := ndec_f c14 | replace c14 := not_f c14 | skip)
            all_goals (refine k_exit rfl ?_)
            all_goals (refine k_seq ?_)
            all_goals refine k_region ?_
            all_goals refine j_assignL (fun _ => ?_)
            all_goals refine l_nil ?_
            all_goals
              refine k_retvF Try.results110 (.tmp (by conv => { lhs; whnf }) .nil) (fun w hw => ?_)
              exact ⟨by rw [dec_of_take (k := k) (by omega) (by omega) hx.2]; rfl, hw.done⟩
theorem hpEqT_c {xs : List Pr} {a b : Option Addr} {ca cb : Nat} {w : World} (ha : Cl w a (prC xs)) (hb : Cl w b (prC xs)) (hx : xs.length ≤ 1000000) :
    Calls Try.prog 110 #[.slice a xs.length ca, .slice b xs.length cb] w fun e w' => e = .returned (.bool true) ∧ St w [] [] w' := by
  have := hpEq_c (ca := ca) (cb := cb) ha hb (by omega)
  rw [decide_eq_true rfl] at this
  exact this
section
variable {l : List Pr} {a b : Option Addr} {c cb : Nat} {f : Pr} {w : World}
theorem spare_c (f : Pr) (ha : Cl w a (prC l)) (hlen : l.length ≤ 1000000) :
    Calls Try.prog 60 #[.slice a l.length c, .agg ⟨[.string f.1, .int .u64 f.2]⟩] w fun e w' => ∃ x : Option Addr, e = .returned (.slice x l.length (l.length + 3)) ∧ True ∧ SF w [] [] [] [(x, prC (l ++ [f, f, f]))] [] w' := by
  refine enter Try.func60 Try.ntmps60 rfl rfl (SF.s1 ha) ?_
  simp only [mkS]
  all_goals (refine k_seq ?_)
  all_goals refine k_region ?_
  all_goals refine j_box (fun x3 => ?_)
  all_goals refine j_assignL (fun _ => ?_)
  all_goals refine l_nil ?_
  all_goals (refine k_seq ?_)
  all_goals refine k_region ?_
  all_goals refine j_build0 (fun x6 => ?_)
  all_goals refine j_move ?_
  all_goals (refine j_own (by first | exact Loud.convOF (o_appP (l := []) (l2 := l) (by exact rfl) (by exact rfl) (by repeat (first | exact OAt.head | apply OAt.tail)) rfl (by first | exact .new .head | exact .new (.tail .head) | exact .new (.tail (.tail .head)) | exact .new (.tail (.tail (.tail .head))) | exact .new (.tail (.tail (.tail (.tail .head)))) | exact .new (.tail (.tail (.tail (.tail (.tail .head))))) | exact .new (.tail (.tail (.tail (.tail (.tail (.tail .head)))))) | exact .new (.tail (.tail (.tail (.tail (.tail (.tail (.tail .head))))))) | exact .new (.tail (.tail (.tail (.tail (.tail (.tail (.tail (.tail .head)))))))) | exact .new (.tail (.tail (.tail (.tail (.tail (.tail (.tail (.tail (.tail .head))))))))) | exact .old .head | exact .old (.tail .head) | exact .old (.tail (.tail .head)) | exact .old (.tail (.tail (.tail .head))) | exact .old (.tail (.tail (.tail (.tail .head)))) | exact .old (.tail (.tail (.tail (.tail (.tail .head))))) | exact .own .head | exact .own (.tail .head) | exact .own (.tail (.tail .head)) | exact .own (.tail (.tail (.tail .head))) | exact .own (.tail (.tail (.tail (.tail .head)))) | exact .own (.tail (.tail (.tail (.tail (.tail .head))))) | exact .own (.tail (.tail (.tail (.tail (.tail (.tail .head)))))) | exact .own (.tail (.tail (.tail (.tail (.tail (.tail (.tail .head)))))))) rfl (by exact elem_pairT rfl) (by exact sl_of rfl) (by simp only [List.length_nil]; omega)) (by intro x; simp only [setO, List.nil_append]; exact rfl) | exact Loud.convOF (o_appP (l := l) (l2 := [f, f, f]) (by exact rfl) (by exact rfl) (by repeat (first | exact OAt.head | apply OAt.tail)) (by simp; done) (by first | exact .new .head | exact .new (.tail .head) | exact .new (.tail (.tail .head)) | exact .new (.tail (.tail (.tail .head))) | exact .new (.tail (.tail (.tail (.tail .head)))) | exact .new (.tail (.tail (.tail (.tail (.tail .head))))) | exact .new (.tail (.tail (.tail (.tail (.tail (.tail .head)))))) | exact .new (.tail (.tail (.tail (.tail (.tail (.tail (.tail .head))))))) | exact .new (.tail (.tail (.tail (.tail (.tail (.tail (.tail (.tail .head)))))))) | exact .new (.tail (.tail (.tail (.tail (.tail (.tail (.tail (.tail (.tail .head))))))))) | exact .old .head | exact .old (.tail .head) | exact .old (.tail (.tail .head)) | exact .old (.tail (.tail (.tail .head))) | exact .old (.tail (.tail (.tail (.tail .head)))) | exact .old (.tail (.tail (.tail (.tail (.tail .head))))) | exact .own .head | exact .own (.tail .head) | exact .own (.tail (.tail .head)) | exact .own (.tail (.tail (.tail .head))) | exact .own (.tail (.tail (.tail (.tail .head)))) | exact .own (.tail (.tail (.tail (.tail (.tail .head))))) | exact .own (.tail (.tail (.tail (.tail (.tail (.tail .head)))))) | exact .own (.tail (.tail (.tail (.tail (.tail (.tail (.tail .head)))))))) rfl (by exact elem_pairT rfl) (by exact sl_of rfl) (by simp only [List.length_cons, List.length_nil]; omega)) (by intro x; simp only [setO]; exact rfl)) (fun x8 => ?_); try (refine l_fact (fun h8 => ?_)))
  all_goals refine j_assignL (fun _ => ?_)
  all_goals refine l_nil ?_
  all_goals (refine k_seq ?_)
  all_goals refine k_region ?_
  all_goals refine j_move ?_
  all_goals refine j_load ?_
  all_goals refine j_load ?_
  all_goals refine j_load ?_
  all_goals refine j_buildSlice (fun x13 => ?_)
  all_goals (refine j_own (by first | exact Loud.convOF (o_appP (l := []) (l2 := l) (by exact rfl) (by exact rfl) (by repeat (first | exact OAt.head | apply OAt.tail)) rfl (by first | exact .new .head | exact .new (.tail .head) | exact .new (.tail (.tail .head)) | exact .new (.tail (.tail (.tail .head))) | exact .new (.tail (.tail (.tail (.tail .head)))) | exact .new (.tail (.tail (.tail (.tail (.tail .head))))) | exact .new (.tail (.tail (.tail (.tail (.tail (.tail .head)))))) | exact .new (.tail (.tail (.tail (.tail (.tail (.tail (.tail .head))))))) | exact .new (.tail (.tail (.tail (.tail (.tail (.tail (.tail (.tail .head)))))))) | exact .new (.tail (.tail (.tail (.tail (.tail (.tail (.tail (.tail (.tail .head))))))))) | exact .old .head | exact .old (.tail .head) | exact .old (.tail (.tail .head)) | exact .old (.tail (.tail (.tail .head))) | exact .old (.tail (.tail (.tail (.tail .head)))) | exact .old (.tail (.tail (.tail (.tail (.tail .head))))) | exact .own .head | exact .own (.tail .head) | exact .own (.tail (.tail .head)) | exact .own (.tail (.tail (.tail .head))) | exact .own (.tail (.tail (.tail (.tail .head)))) | exact .own (.tail (.tail (.tail (.tail (.tail .head))))) | exact .own (.tail (.tail (.tail (.tail (.tail (.tail .head)))))) | exact .own (.tail (.tail (.tail (.tail (.tail (.tail (.tail .head)))))))) rfl (by exact elem_pairT rfl) (by exact sl_of rfl) (by simp only [List.length_nil]; omega)) (by intro x; simp only [setO, List.nil_append]; exact rfl) | exact Loud.convOF (o_appP (l := l) (l2 := [f, f, f]) (by exact rfl) (by exact rfl) (by repeat (first | exact OAt.head | apply OAt.tail)) (by simp; done) (by first | exact .new .head | exact .new (.tail .head) | exact .new (.tail (.tail .head)) | exact .new (.tail (.tail (.tail .head))) | exact .new (.tail (.tail (.tail (.tail .head)))) | exact .new (.tail (.tail (.tail (.tail (.tail .head))))) | exact .new (.tail (.tail (.tail (.tail (.tail (.tail .head)))))) | exact .new (.tail (.tail (.tail (.tail (.tail (.tail (.tail .head))))))) | exact .new (.tail (.tail (.tail (.tail (.tail (.tail (.tail (.tail .head)))))))) | exact .new (.tail (.tail (.tail (.tail (.tail (.tail (.tail (.tail (.tail .head))))))))) | exact .old .head | exact .old (.tail .head) | exact .old (.tail (.tail .head)) | exact .old (.tail (.tail (.tail .head))) | exact .old (.tail (.tail (.tail (.tail .head)))) | exact .old (.tail (.tail (.tail (.tail (.tail .head))))) | exact .own .head | exact .own (.tail .head) | exact .own (.tail (.tail .head)) | exact .own (.tail (.tail (.tail .head))) | exact .own (.tail (.tail (.tail (.tail .head)))) | exact .own (.tail (.tail (.tail (.tail (.tail .head))))) | exact .own (.tail (.tail (.tail (.tail (.tail (.tail .head)))))) | exact .own (.tail (.tail (.tail (.tail (.tail (.tail (.tail .head)))))))) rfl (by exact elem_pairT rfl) (by exact sl_of rfl) (by simp only [List.length_cons, List.length_nil]; omega)) (by intro x; simp only [setO]; exact rfl)) (fun x14 => ?_); try (refine l_fact (fun h14 => ?_)))
  all_goals refine j_assignL (fun _ => ?_)
  all_goals refine l_nil ?_
  all_goals (refine k_seq ?_)
  all_goals refine k_region ?_
  all_goals refine j_move ?_
  all_goals refine j_move ?_
  all_goals refine j_len ?_
  all_goals refine l_quiet (o_subN (m := 0 + l.length + 3) (n := 3) (by exact rfl) (by exact rfl) (by omega) (by omega)) rfl ?_
  all_goals refine j_move ?_
  all_goals refine j_len ?_
  all_goals refine l_quiet (o_sliceHM (by exact rfl) (by exact rfl) (by exact rfl) (by exact sl_of rfl) (by exact sz_any rfl) (by omega) (by omega)) rfl ?_
  all_goals refine j_assignL (fun _ => ?_)
  all_goals refine l_nil ?_
  all_goals
    refine k_retvF Try.results60 (.tmp (by conv => { lhs; whnf }) .nil) (fun w hw => ?_)
    exact ⟨x14.1, by rw [show 0 + l.length + 3 - 3 = l.length by omega]; show Ending.returned (tupleOf [Value.slice x14.1 l.length (0 + l.length + 3)]) = _; rw [Nat.zero_add]; rfl, trivial, (hw.freeze .head (by simp)).finH⟩
theorem get_app {l : List Pr} {f : Pr} {i : Nat} (h : i < 3) : (l ++ [f, f, f]).getD (l.length + i) (⟨#[]⟩, 0) = f := by
  rcases (by omega : i = 0 ∨ i = 1 ∨ i = 2) with rfl | rfl | rfl <;> simp [List.getD]
theorem kept_c (f : Pr) (ha : Cl w a (prC (l ++ [f, f, f]))) (hb : Cl w b (prC l)) (hlen : l.length ≤ 1000000) :
    Calls Try.prog 61 #[.slice a l.length (l.length + 3), .slice b l.length cb, .agg ⟨[.string f.1, .int .u64 f.2]⟩] w fun e w' => e = .returned (.bool true) ∧ St w [] [] w' := by
  have hlf : (l ++ [f, f, f]).length = l.length + 3 := by simp
  have g0 : (l ++ [f, f, f]).getD l.length (⟨#[]⟩, 0) = f := get_app (i := 0) (by omega)
  have g1 : (l ++ [f, f, f]).getD (l.length + 1) (⟨#[]⟩, 0) = f := get_app (i := 1) (by omega)
  have g2 : (l ++ [f, f, f]).getD (l.length + 2) (⟨#[]⟩, 0) = f := get_app (i := 2) (by omega)
  refine enter Try.func61 Try.ntmps61 rfl rfl (SF.s2 ha hb) ?_
  simp only [mkS]
  all_goals (refine k_seq ?_)
  all_goals refine k_region ?_
  all_goals refine j_box (fun x5 => ?_)
  all_goals refine j_assignL (fun _ => ?_)
  all_goals refine l_nil ?_
  all_goals (refine k_seq ?_)
  all_goals (refine k_seq ?_)
  all_goals refine k_region ?_
  all_goals refine j_move ?_
  all_goals refine j_move ?_
  all_goals (refine j_own (cV (hc := fun w1 hw => hpEqT_c (xs := l) (a := a) (b := b) (by have := (hw.cl (a := a) (cs := prC (l ++ [f, f, f])) (by first | exact .new .head | exact .new (.tail .head) | exact .new (.tail (.tail .head)) | exact .new (.tail (.tail (.tail .head))) | exact .new (.tail (.tail (.tail (.tail .head)))) | exact .new (.tail (.tail (.tail (.tail (.tail .head))))) | exact .new (.tail (.tail (.tail (.tail (.tail (.tail .head)))))) | exact .new (.tail (.tail (.tail (.tail (.tail (.tail (.tail .head))))))) | exact .new (.tail (.tail (.tail (.tail (.tail (.tail (.tail (.tail .head)))))))) | exact .new (.tail (.tail (.tail (.tail (.tail (.tail (.tail (.tail (.tail .head))))))))) | exact .old .head | exact .old (.tail .head) | exact .old (.tail (.tail .head)) | exact .old (.tail (.tail (.tail .head))) | exact .old (.tail (.tail (.tail (.tail .head)))) | exact .old (.tail (.tail (.tail (.tail (.tail .head))))) | exact .own .head | exact .own (.tail .head) | exact .own (.tail (.tail .head)) | exact .own (.tail (.tail (.tail .head))) | exact .own (.tail (.tail (.tail (.tail .head)))) | exact .own (.tail (.tail (.tail (.tail (.tail .head))))) | exact .own (.tail (.tail (.tail (.tail (.tail (.tail .head)))))) | exact .own (.tail (.tail (.tail (.tail (.tail (.tail (.tail .head))))))))).takeP l.length; rw [List.take_left'] at this; exact this; rfl) (hw.cl (by first | exact .new .head | exact .new (.tail .head) | exact .new (.tail (.tail .head)) | exact .new (.tail (.tail (.tail .head))) | exact .new (.tail (.tail (.tail (.tail .head)))) | exact .new (.tail (.tail (.tail (.tail (.tail .head))))) | exact .new (.tail (.tail (.tail (.tail (.tail (.tail .head)))))) | exact .new (.tail (.tail (.tail (.tail (.tail (.tail (.tail .head))))))) | exact .new (.tail (.tail (.tail (.tail (.tail (.tail (.tail (.tail .head)))))))) | exact .new (.tail (.tail (.tail (.tail (.tail (.tail (.tail (.tail (.tail .head))))))))) | exact .old .head | exact .old (.tail .head) | exact .old (.tail (.tail .head)) | exact .old (.tail (.tail (.tail .head))) | exact .old (.tail (.tail (.tail (.tail .head)))) | exact .old (.tail (.tail (.tail (.tail (.tail .head))))) | exact .own .head | exact .own (.tail .head) | exact .own (.tail (.tail .head)) | exact .own (.tail (.tail (.tail .head))) | exact .own (.tail (.tail (.tail (.tail .head)))) | exact .own (.tail (.tail (.tail (.tail (.tail .head))))) | exact .own (.tail (.tail (.tail (.tail (.tail (.tail .head)))))) | exact .own (.tail (.tail (.tail (.tail (.tail (.tail (.tail .head))))))))) hlen)) (fun x10 => ?_); try (refine l_fact (fun h10 => ?_)))
  all_goals refine j_not ?_
  all_goals refine j_move ?_
  all_goals (first | refine j_un ?_ | (refine j_yes ?_; refine j_move ?_) | (refine l_case (g := 12) (by exact rfl) (fun g12 => ?_) (fun g12 => ?_) <;> (first | replace g12 := of_decide_eq_true g12 | replace g12 := of_decide_eq_false g12 | skip) <;> (first | refine j_un ?_ | (refine j_yes ?_; refine j_move ?_))))
  all_goals (first | refine j_un ?_ | (refine j_yes ?_; (refine j_own (loud_of_quiet (o_cap (by exact rfl) (by exact sl_of rfl))) (fun x14 => ?_); try (refine l_fact (fun h14 => ?_)))) | (refine l_case (g := 12) (by exact rfl) (fun g12 => ?_) (fun g12 => ?_) <;> (first | replace g12 := of_decide_eq_true g12 | replace g12 := of_decide_eq_false g12 | skip) <;> (first | refine j_un ?_ | (refine j_yes ?_; (refine j_own (loud_of_quiet (o_cap (by exact rfl) (by exact sl_of rfl))) (fun x14 => ?_); try (refine l_fact (fun h14 => ?_)))))))
  all_goals (first | refine j_un ?_ | (refine j_yes ?_; refine j_move ?_) | (refine l_case (g := 12) (by exact rfl) (fun g12 => ?_) (fun g12 => ?_) <;> (first | replace g12 := of_decide_eq_true g12 | replace g12 := of_decide_eq_false g12 | skip) <;> (first | refine j_un ?_ | (refine j_yes ?_; refine j_move ?_))))
  all_goals (first | refine j_un ?_ | (refine j_yes ?_; refine j_len ?_) | (refine l_case (g := 12) (by exact rfl) (fun g12 => ?_) (fun g12 => ?_) <;> (first | replace g12 := of_decide_eq_true g12 | replace g12 := of_decide_eq_false g12 | skip) <;> (first | refine j_un ?_ | (refine j_yes ?_; refine j_len ?_))))
  all_goals (first | refine j_un ?_ | (refine j_yes ?_; refine l_quiet (o_addN (m := l.length) (n := 3) (by exact rfl) (by exact rfl) (by omega)) rfl ?_) | (refine l_case (g := 12) (by exact rfl) (fun g12 => ?_) (fun g12 => ?_) <;> (first | replace g12 := of_decide_eq_true g12 | replace g12 := of_decide_eq_false g12 | skip) <;> (first | refine j_un ?_ | (refine j_yes ?_; refine l_quiet (o_addN (m := l.length) (n := 3) (by exact rfl) (by exact rfl) (by omega)) rfl ?_))))
  all_goals (first | refine j_un ?_ | (refine j_yes ?_; refine j_lss ?_) | (refine l_case (g := 12) (by exact rfl) (fun g12 => ?_) (fun g12 => ?_) <;> (first | replace g12 := of_decide_eq_true g12 | replace g12 := of_decide_eq_false g12 | skip) <;> (first | refine j_un ?_ | (refine j_yes ?_; refine j_lss ?_))))
  all_goals refine j_pick ?_
  all_goals refine l_nil ?_
  all_goals
    refine k_cond (by exact rfl) (fun c19 => ?_) (fun c19 => ?_)
    · try (exact absurd c19 (by decide))
      all_goals (first | replace c19 := of_decide_eq_true c19 | replace c19 := sbeq_t c19 | replace c19 := sbne_t c19 | replace c19 := ibeq_t c19 | replace c19 := ibne_t c19 | replace c19 := ndec_t c19 | replace c19 := not_t c19 | skip)
      all_goals (refine k_seq ?_)
      all_goals refine k_region ?_
      all_goals refine j_assignL (fun _ => ?_)
      all_goals refine l_nil ?_
      all_goals
        refine k_retvF Try.results61 (.tmp (by conv => { lhs; whnf }) .nil) (fun w hw => ?_)
        first | exact ⟨rfl, hw.done⟩ | (exfalso; clear hw; simp_all; done) | (exfalso; clear hw; omega) | exact ⟨by rw [g2]; simp [tupleOf], hw.done⟩
    · try (exact absurd c19 (by decide))
      all_goals (first | replace c19 := of_decide_eq_false c19 | replace c19 := sbeq_f c19 | replace c19 := sbne_f c19 | replace c19 := ibeq_f c19 | replace c19 := ibne_f c19 | replace c19 := ndec_f c19 | replace c19 := not_f c19 | skip)
      all_goals (refine k_skip ?_)
      all_goals (refine k_seq ?_)
      all_goals refine k_region ?_
      all_goals refine j_move ?_
      all_goals refine j_move ?_
      all_goals refine j_len ?_
      all_goals refine l_quiet (o_addN (m := l.length) (n := 3) (by exact rfl) (by exact rfl) (by omega)) rfl ?_
      all_goals refine l_quiet (o_sliceH (by exact rfl) (by exact rfl) (by exact sl_of rfl) (by exact sz_any rfl) (by omega)) rfl ?_
      all_goals refine j_assignL (fun _ => ?_)
      all_goals refine l_nil ?_
      all_goals (refine k_seq ?_)
      all_goals refine k_drawF (.one 0 [] (.one 1 [] (.one 2 [] (.one 3 [] (.one 4 [] (.one 5 [] (.one 6 [] (.one 7 [] (.one 8 [] (.one 9 [] (.one 10 [] (.one 11 [] (.one 12 [] (.one 13 [] (.one 14 [] (.one 15 [] (.one 16 [] (.one 17 [] (.one 18 [] (.one 19 [] (.one 20 [] (.one 21 [] (.one 22 [] (.one 23 [] (.one 24 [] (.one 25 [] (.one 26 [] (.one 27 [] .nil)))))))))))))))))))))))))))) ?_
      all_goals (refine r_move (i := 0) ?_)
      all_goals (refine r_move (i := 1) ?_)
      all_goals (refine r_len (i := 2) ?_)
      all_goals (refine r_indexAddr (i := 3) ?_)
      all_goals (refine r_load (i := 4) ?_)
      all_goals (refine r_load (i := 5) ?_)
      all_goals (refine r_eqlPr (i := 6) ?_)
      all_goals (refine r_move (i := 7) ?_)
      all_goals (first | refine r_un (i := 8) ?_ | (refine r_move (i := 8) ?_) | (refine r_case (g := 32) (by exact rfl) (fun g32 => ?_) (fun g32 => ?_) <;> (first | replace g32 := of_decide_eq_true g32 | replace g32 := of_decide_eq_false g32 | skip) <;> (first | refine r_un (i := 8) ?_ | (refine r_move (i := 8) ?_))))
      all_goals (first | refine r_un (i := 9) ?_ | (refine r_move (i := 9) ?_) | (refine r_case (g := 32) (by exact rfl) (fun g32 => ?_) (fun g32 => ?_) <;> (first | replace g32 := of_decide_eq_true g32 | replace g32 := of_decide_eq_false g32 | skip) <;> (first | refine r_un (i := 9) ?_ | (refine r_move (i := 9) ?_))))
      all_goals (first | refine r_un (i := 10) ?_ | (refine r_len (i := 10) ?_) | (refine r_case (g := 32) (by exact rfl) (fun g32 => ?_) (fun g32 => ?_) <;> (first | replace g32 := of_decide_eq_true g32 | replace g32 := of_decide_eq_false g32 | skip) <;> (first | refine r_un (i := 10) ?_ | (refine r_len (i := 10) ?_))))
      all_goals (first | refine r_un (i := 11) ?_ | (refine r_ownP (i := 11) (hq := (o_inc (k := l.length) (by exact rfl) (by exact rfl) (by omega))) (h := ?_)) | (refine r_case (g := 32) (by exact rfl) (fun g32 => ?_) (fun g32 => ?_) <;> (first | replace g32 := of_decide_eq_true g32 | replace g32 := of_decide_eq_false g32 | skip) <;> (first | refine r_un (i := 11) ?_ | (refine r_ownP (i := 11) (hq := (o_inc (k := l.length) (by exact rfl) (by exact rfl) (by omega))) (h := ?_)))))
      all_goals (first | refine r_un (i := 12) ?_ | (refine r_indexAddr (i := 12) ?_) | (refine r_case (g := 32) (by exact rfl) (fun g32 => ?_) (fun g32 => ?_) <;> (first | replace g32 := of_decide_eq_true g32 | replace g32 := of_decide_eq_false g32 | skip) <;> (first | refine r_un (i := 12) ?_ | (refine r_indexAddr (i := 12) ?_))))
      all_goals (first | refine r_un (i := 13) ?_ | (refine r_load (i := 13) ?_) | (refine r_case (g := 32) (by exact rfl) (fun g32 => ?_) (fun g32 => ?_) <;> (first | replace g32 := of_decide_eq_true g32 | replace g32 := of_decide_eq_false g32 | skip) <;> (first | refine r_un (i := 13) ?_ | (refine r_load (i := 13) ?_))))
      all_goals (first | refine r_un (i := 14) ?_ | (refine r_load (i := 14) ?_) | (refine r_case (g := 32) (by exact rfl) (fun g32 => ?_) (fun g32 => ?_) <;> (first | replace g32 := of_decide_eq_true g32 | replace g32 := of_decide_eq_false g32 | skip) <;> (first | refine r_un (i := 14) ?_ | (refine r_load (i := 14) ?_))))
      all_goals (first | refine r_un (i := 15) ?_ | (refine r_eqlPr (i := 15) ?_) | (refine r_case (g := 32) (by exact rfl) (fun g32 => ?_) (fun g32 => ?_) <;> (first | replace g32 := of_decide_eq_true g32 | replace g32 := of_decide_eq_false g32 | skip) <;> (first | refine r_un (i := 15) ?_ | (refine r_eqlPr (i := 15) ?_))))
      all_goals (refine r_pick (i := 16) ?_)
      all_goals (refine r_move (i := 17) ?_)
      all_goals (first | refine r_un (i := 18) ?_ | (refine r_move (i := 18) ?_) | (refine r_case (g := 42) (by exact rfl) (fun g42 => ?_) (fun g42 => ?_) <;> (first | replace g42 := of_decide_eq_true g42 | replace g42 := of_decide_eq_false g42 | skip) <;> (first | refine r_un (i := 18) ?_ | (refine r_move (i := 18) ?_))))
      all_goals (first | refine r_un (i := 19) ?_ | (refine r_move (i := 19) ?_) | (refine r_case (g := 42) (by exact rfl) (fun g42 => ?_) (fun g42 => ?_) <;> (first | replace g42 := of_decide_eq_true g42 | replace g42 := of_decide_eq_false g42 | skip) <;> (first | refine r_un (i := 19) ?_ | (refine r_move (i := 19) ?_))))
      all_goals (first | refine r_un (i := 20) ?_ | (refine r_len (i := 20) ?_) | (refine r_case (g := 42) (by exact rfl) (fun g42 => ?_) (fun g42 => ?_) <;> (first | replace g42 := of_decide_eq_true g42 | replace g42 := of_decide_eq_false g42 | skip) <;> (first | refine r_un (i := 20) ?_ | (refine r_len (i := 20) ?_))))
      all_goals (first | refine r_un (i := 21) ?_ | (refine r_ownP (i := 21) (hq := (o_addN (m := l.length) (n := 2) (by exact rfl) (by exact rfl) (by omega))) (h := ?_)) | (refine r_case (g := 42) (by exact rfl) (fun g42 => ?_) (fun g42 => ?_) <;> (first | replace g42 := of_decide_eq_true g42 | replace g42 := of_decide_eq_false g42 | skip) <;> (first | refine r_un (i := 21) ?_ | (refine r_ownP (i := 21) (hq := (o_addN (m := l.length) (n := 2) (by exact rfl) (by exact rfl) (by omega))) (h := ?_)))))
      all_goals (first | refine r_un (i := 22) ?_ | (refine r_indexAddr (i := 22) ?_) | (refine r_case (g := 42) (by exact rfl) (fun g42 => ?_) (fun g42 => ?_) <;> (first | replace g42 := of_decide_eq_true g42 | replace g42 := of_decide_eq_false g42 | skip) <;> (first | refine r_un (i := 22) ?_ | (refine r_indexAddr (i := 22) ?_))))
      all_goals (first | refine r_un (i := 23) ?_ | (refine r_load (i := 23) ?_) | (refine r_case (g := 42) (by exact rfl) (fun g42 => ?_) (fun g42 => ?_) <;> (first | replace g42 := of_decide_eq_true g42 | replace g42 := of_decide_eq_false g42 | skip) <;> (first | refine r_un (i := 23) ?_ | (refine r_load (i := 23) ?_))))
      all_goals (first | refine r_un (i := 24) ?_ | (refine r_load (i := 24) ?_) | (refine r_case (g := 42) (by exact rfl) (fun g42 => ?_) (fun g42 => ?_) <;> (first | replace g42 := of_decide_eq_true g42 | replace g42 := of_decide_eq_false g42 | skip) <;> (first | refine r_un (i := 24) ?_ | (refine r_load (i := 24) ?_))))
      all_goals (first | refine r_un (i := 25) ?_ | (refine r_eqlPr (i := 25) ?_) | (refine r_case (g := 42) (by exact rfl) (fun g42 => ?_) (fun g42 => ?_) <;> (first | replace g42 := of_decide_eq_true g42 | replace g42 := of_decide_eq_false g42 | skip) <;> (first | refine r_un (i := 25) ?_ | (refine r_eqlPr (i := 25) ?_))))
      all_goals (refine r_pick (i := 26) ?_)
      all_goals (refine r_assignL (i := 27) (hfire := (fun _ => .nil)) (h := fun _ => ?_))
      all_goals refine r_fin ?_
      all_goals
        refine k_retvF Try.results61 (.tmp (by conv => { lhs; whnf }) .nil) (fun w hw => ?_)
        first | exact ⟨rfl, hw.done⟩ | (exfalso; clear hw; simp_all; done) | (exfalso; clear hw; omega) | exact ⟨by rw [g2]; simp [tupleOf], hw.done⟩
abbrev wipedP : Pr := (⟨#[119, 105, 112, 101, 100]⟩, 0)
theorem wipeN_c {N : Nat} (hN : l.length = N) (ho : OwOk w ⟨a, prC l, c, 37, 2⟩) (hl : N ≤ 1000000) :
    Calls Try.prog 29 #[.slice a N c, .agg ⟨[.string ⟨#[119, 105, 112, 101, 100]⟩, .int .u64 0]⟩] w fun e w' => ∃ x : Unit, e = .returned (.tuple #[]) ∧ True ∧ SF w (oblk a) [] [] [] [⟨a, prC (List.replicate l.length wipedP), c, 37, 2⟩] w' := by
  subst hN
  exact wipeP_c _ 0 ho (by omega)
theorem takeApp {a : Option Addr} {w : World} {X : List Pr} {f : Pr} (h : Cl w a (prC (X ++ [f, f, f]))) : Cl w a (prC X) := by
  have := h.takeP X.length
  rw [List.take_left' rfl] at this
  exact this
theorem zero_slP : zeroIs Try.prog 25 = some (.slice none 0 0) := by kernel_rfl
theorem elem_slP {t : Nat} (h : Nat.beq t 75 = true) : ElemIs Try.prog t 25 [.slice none 0 0] := by rw [Nat.eq_of_beq_eq_true h]; exact elem_mk (by kernel_rfl) zero_slP rfl
theorem under_slP : Try.prog.underlying 75 = some (.slice 25) := by kernel_rfl
theorem one_slP : one Try.prog 25 = true := by kernel_rfl
abbrev fillP : Pr := (⟨#[102, 105, 108, 108]⟩, 7)
theorem pairsKeeps_c {k : ByteArray} {v : Int} (hl : Cl w a (prC l)) (hc : l.length ≤ c) :
    Calls Try.prog 13 #[.slice a l.length c, .string k, .int .u64 v] w fun e w' => e = .returned (.bool true) ∧ St w [] [] w' := by
  have hl1 := take30 l
  have hl2 := ofL_len (l.take 30)
  obtain ⟨X, hX⟩ : ∃ X, X = ofL (l.take 30) := ⟨_, rfl⟩
  rw [← hX] at hl2
  have n1 := putO_le X k v
  have n2 := dropO_le X k
  have n3 := ofL_len X
  refine enter Try.func13 Try.ntmps13 rfl rfl (SF.s1 hl) ?_
  simp only [mkS]
  all_goals (refine k_seq ?_)
  all_goals refine k_region ?_
  all_goals refine j_assignL (fun _ => ?_)
  all_goals refine l_nil ?_
  all_goals (refine k_seq ?_)
  all_goals refine k_region ?_
  all_goals refine j_move ?_
  all_goals (refine j_own (cV (hc := fun w1 hw => first30_c hc)) (fun x13 => ?_); try (refine l_fact (fun h13 => ?_)))
  all_goals (refine j_own (cF (X := Option Addr × Nat) (φ := fun x : Option Addr × Nat => X.length ≤ x.2) (V := fun x : Option Addr × Nat => .slice x.1 X.length x.2) (Fc := fun x : Option Addr × Nat => [(x.1, prC X)]) (hc := fun w1 hw => by rw [hX]; exact refOf_c (l := l.take 30) ((hw.cl (by first | exact .new .head | exact .new (.tail .head) | exact .new (.tail (.tail .head)) | exact .new (.tail (.tail (.tail .head))) | exact .new (.tail (.tail (.tail (.tail .head)))) | exact .new (.tail (.tail (.tail (.tail (.tail .head))))) | exact .new (.tail (.tail (.tail (.tail (.tail (.tail .head)))))) | exact .new (.tail (.tail (.tail (.tail (.tail (.tail (.tail .head))))))) | exact .new (.tail (.tail (.tail (.tail (.tail (.tail (.tail (.tail .head)))))))) | exact .new (.tail (.tail (.tail (.tail (.tail (.tail (.tail (.tail (.tail .head))))))))) | exact .old .head | exact .old (.tail .head) | exact .old (.tail (.tail .head)) | exact .old (.tail (.tail (.tail .head))) | exact .old (.tail (.tail (.tail (.tail .head)))) | exact .old (.tail (.tail (.tail (.tail (.tail .head))))) | exact .own .head | exact .own (.tail .head) | exact .own (.tail (.tail .head)) | exact .own (.tail (.tail (.tail .head))) | exact .own (.tail (.tail (.tail (.tail .head)))) | exact .own (.tail (.tail (.tail (.tail (.tail .head))))) | exact .own (.tail (.tail (.tail (.tail (.tail (.tail .head)))))) | exact .own (.tail (.tail (.tail (.tail (.tail (.tail (.tail .head))))))))).takeP 30) (by omega))) (fun x14 => ?_); try (refine l_fact (fun h14 => ?_)))
  all_goals refine j_assignL (fun _ => ?_)
  all_goals refine l_nil ?_
  all_goals (refine k_seq ?_)
  all_goals refine k_region ?_
  all_goals refine j_build ?_
  all_goals refine j_alloc (fun x8 => ?_)
  all_goals refine j_store (fun _ => ?_)
  all_goals refine l_nil ?_
  all_goals (refine k_seq ?_)
  all_goals refine k_region ?_
  all_goals refine j_move ?_
  all_goals refine j_load ?_
  all_goals (refine j_own (cF (hc := fun w1 hw => spare_c (l := X) fillP (hw.cl (by first | exact .new .head | exact .new (.tail .head) | exact .new (.tail (.tail .head)) | exact .new (.tail (.tail (.tail .head))) | exact .new (.tail (.tail (.tail (.tail .head)))) | exact .new (.tail (.tail (.tail (.tail (.tail .head))))) | exact .new (.tail (.tail (.tail (.tail (.tail (.tail .head)))))) | exact .new (.tail (.tail (.tail (.tail (.tail (.tail (.tail .head))))))) | exact .new (.tail (.tail (.tail (.tail (.tail (.tail (.tail (.tail .head)))))))) | exact .new (.tail (.tail (.tail (.tail (.tail (.tail (.tail (.tail (.tail .head))))))))) | exact .old .head | exact .old (.tail .head) | exact .old (.tail (.tail .head)) | exact .old (.tail (.tail (.tail .head))) | exact .old (.tail (.tail (.tail (.tail .head)))) | exact .old (.tail (.tail (.tail (.tail (.tail .head))))) | exact .own .head | exact .own (.tail .head) | exact .own (.tail (.tail .head)) | exact .own (.tail (.tail (.tail .head))) | exact .own (.tail (.tail (.tail (.tail .head)))) | exact .own (.tail (.tail (.tail (.tail (.tail .head))))) | exact .own (.tail (.tail (.tail (.tail (.tail (.tail .head)))))) | exact .own (.tail (.tail (.tail (.tail (.tail (.tail (.tail .head))))))))) (by omega))) (fun x18 => ?_); try (refine l_fact (fun h18 => ?_)))
  all_goals refine j_assignL (fun _ => ?_)
  all_goals refine l_nil ?_
  all_goals (refine k_seq ?_)
  all_goals (refine k_seq ?_)
  all_goals refine k_region ?_
  all_goals refine j_move ?_
  all_goals refine j_move ?_
  all_goals refine j_move ?_
  all_goals (refine j_own (cFH (Hc := fun _ => []) (Fc := fun _ => []) (hc := fun w1 hw => prPut_o (l := X) (a := x18) k v (takeApp (f := fillP) (hw.cl (by first | exact .new .head | exact .new (.tail .head) | exact .new (.tail (.tail .head)) | exact .new (.tail (.tail (.tail .head))) | exact .new (.tail (.tail (.tail (.tail .head)))) | exact .new (.tail (.tail (.tail (.tail (.tail .head))))) | exact .new (.tail (.tail (.tail (.tail (.tail (.tail .head)))))) | exact .new (.tail (.tail (.tail (.tail (.tail (.tail (.tail .head))))))) | exact .new (.tail (.tail (.tail (.tail (.tail (.tail (.tail (.tail .head)))))))) | exact .new (.tail (.tail (.tail (.tail (.tail (.tail (.tail (.tail (.tail .head))))))))) | exact .old .head | exact .old (.tail .head) | exact .old (.tail (.tail .head)) | exact .old (.tail (.tail (.tail .head))) | exact .old (.tail (.tail (.tail (.tail .head)))) | exact .old (.tail (.tail (.tail (.tail (.tail .head))))) | exact .own .head | exact .own (.tail .head) | exact .own (.tail (.tail .head)) | exact .own (.tail (.tail (.tail .head))) | exact .own (.tail (.tail (.tail (.tail .head)))) | exact .own (.tail (.tail (.tail (.tail (.tail .head))))) | exact .own (.tail (.tail (.tail (.tail (.tail (.tail .head)))))) | exact .own (.tail (.tail (.tail (.tail (.tail (.tail (.tail .head)))))))))) (by omega) (by omega))) (fun x22 => ?_); try (refine l_fact (fun h22 => ?_)))
  all_goals refine j_move ?_
  all_goals refine j_move ?_
  all_goals (refine j_own (cFH (Hc := fun _ => []) (Fc := fun _ => []) (hc := fun w1 hw => prDrop_o (l := X) (a := x18) k (takeApp (f := fillP) (hw.cl (by first | exact .new .head | exact .new (.tail .head) | exact .new (.tail (.tail .head)) | exact .new (.tail (.tail (.tail .head))) | exact .new (.tail (.tail (.tail (.tail .head)))) | exact .new (.tail (.tail (.tail (.tail (.tail .head))))) | exact .new (.tail (.tail (.tail (.tail (.tail (.tail .head)))))) | exact .new (.tail (.tail (.tail (.tail (.tail (.tail (.tail .head))))))) | exact .new (.tail (.tail (.tail (.tail (.tail (.tail (.tail (.tail .head)))))))) | exact .new (.tail (.tail (.tail (.tail (.tail (.tail (.tail (.tail (.tail .head))))))))) | exact .old .head | exact .old (.tail .head) | exact .old (.tail (.tail .head)) | exact .old (.tail (.tail (.tail .head))) | exact .old (.tail (.tail (.tail (.tail .head)))) | exact .old (.tail (.tail (.tail (.tail (.tail .head))))) | exact .own .head | exact .own (.tail .head) | exact .own (.tail (.tail .head)) | exact .own (.tail (.tail (.tail .head))) | exact .own (.tail (.tail (.tail (.tail .head)))) | exact .own (.tail (.tail (.tail (.tail (.tail .head))))) | exact .own (.tail (.tail (.tail (.tail (.tail (.tail .head)))))) | exact .own (.tail (.tail (.tail (.tail (.tail (.tail (.tail .head)))))))))) (by omega) (by omega))) (fun x25 => ?_); try (refine l_fact (fun h25 => ?_)))
  all_goals refine j_move ?_
  all_goals (refine j_own (cFH (Hc := fun _ => []) (Fc := fun _ => []) (hc := fun w1 hw => prOf_o (l := X) (a := x18) (takeApp (f := fillP) (hw.cl (by first | exact .new .head | exact .new (.tail .head) | exact .new (.tail (.tail .head)) | exact .new (.tail (.tail (.tail .head))) | exact .new (.tail (.tail (.tail (.tail .head)))) | exact .new (.tail (.tail (.tail (.tail (.tail .head))))) | exact .new (.tail (.tail (.tail (.tail (.tail (.tail .head)))))) | exact .new (.tail (.tail (.tail (.tail (.tail (.tail (.tail .head))))))) | exact .new (.tail (.tail (.tail (.tail (.tail (.tail (.tail (.tail .head)))))))) | exact .new (.tail (.tail (.tail (.tail (.tail (.tail (.tail (.tail (.tail .head))))))))) | exact .old .head | exact .old (.tail .head) | exact .old (.tail (.tail .head)) | exact .old (.tail (.tail (.tail .head))) | exact .old (.tail (.tail (.tail (.tail .head)))) | exact .old (.tail (.tail (.tail (.tail (.tail .head))))) | exact .own .head | exact .own (.tail .head) | exact .own (.tail (.tail .head)) | exact .own (.tail (.tail (.tail .head))) | exact .own (.tail (.tail (.tail (.tail .head)))) | exact .own (.tail (.tail (.tail (.tail (.tail .head))))) | exact .own (.tail (.tail (.tail (.tail (.tail (.tail .head)))))) | exact .own (.tail (.tail (.tail (.tail (.tail (.tail (.tail .head)))))))))) (by omega) (by omega))) (fun x27 => ?_); try (refine l_fact (fun h27 => ?_)))
  all_goals refine j_own (lSFF fun _ => o_buildSlice (elem_slP rfl) (by repeat (first | exact opParts_nil _ | (apply opParts_cons; (conv => { lhs; whnf })))) (by exact rfl) (by exact rfl) (by exact rfl) (by exact rfl) (by simp only [flatP, cellsL, List.cons_append, List.nil_append]; exact rfl)) (fun x28 => ?_)
  all_goals refine l_quiet (o_len (by exact rfl) under_slP) rfl ?_
  all_goals refine j_move ?_
  all_goals refine l_nil ?_
  all_goals (refine k_block ?_)
  all_goals
    refine k_loopF [11, 30, 31, 32, 33, 34, 35, 36, 37] (fun z : Nat × List Pr × List Pr × List Pr => [(30, .int .i64 ((z.1 : Nat) : Int))]) (fun z => z.1 ≤ 3 ∧ z.2.1.length = (putO X k v).length ∧ z.2.2.1.length = (dropO X k).length ∧ z.2.2.2.length = (ofL X).length) (fun z => [(x8, .cells ⟨[.string ⟨#[102, 105, 108, 108]⟩, .int .u64 7]⟩ 37 (0, 0))]) (fun z => [(some ⟨x28, 0, none⟩, [.slice x22.1 (putO X k v).length x22.2, .slice x25.1 (dropO X k).length x25.2, .slice x27.1 (ofL X).length x27.2]), (x18, prC (X ++ [fillP, fillP, fillP])), (x14.1, prC X)]) (fun z => [⟨x27.1, prC z.2.2.2, x27.2, 37, 2⟩, ⟨x25.1, prC z.2.2.1, x25.2, 37, 2⟩, ⟨x22.1, prC z.2.1, x22.2, 37, 2⟩]) (fun z => 3 - z.1) ((0, putO X k v, dropO X k, ofL X)) (by decide) (fun _ => by exact rfl) ?_ (⟨by show 0 ≤ 3; omega, rfl, rfl, rfl⟩) (fun w hw => hw.back) (fun z f hx => ?_)
    · repeat (first | exact knows_nil _ | refine knows_cons (by first | exact rfl | (conv => { lhs; whnf }; simp; done)) ?_)
    dsimp only [mkU, List.map, List.cons_append, List.nil_append]
    obtain ⟨q1, q2, q3, q4⟩ := hx
    all_goals (refine k_seq ?_)
    all_goals refine k_region ?_
    all_goals refine j_lss ?_
    all_goals refine l_nil ?_
    all_goals (refine k_seq ?_)
    all_goals
      refine k_cond (by exact rfl) (fun c31 => ?_) (fun c31 => ?_)
      · try (exact absurd c31 (by decide))
        all_goals (first | replace c31 := of_decide_eq_true c31 | replace c31 := sbeq_t c31 | replace c31 := sbne_t c31 | replace c31 := ibeq_t c31 | replace c31 := ibne_t c31 | replace c31 := ndec_t c31 | replace c31 := not_t c31 | skip)
        all_goals
          have h3 : z.1 = 0 ∨ z.1 = 1 ∨ z.1 = 2 := by omega
          rcases h3 with h0 | h1 | h2
        all_goals (refine k_skip ?_)
        all_goals (refine k_seq ?_)
        all_goals (refine k_block ?_)
        all_goals (refine k_seq ?_)
        all_goals refine k_region ?_
        all_goals refine l_quiet (o_indexV (by exact rfl) (by exact rfl) under_slP one_slP (by first | exact .new .head | exact .new (.tail .head) | exact .new (.tail (.tail .head)) | exact .new (.tail (.tail (.tail .head))) | exact .new (.tail (.tail (.tail (.tail .head)))) | exact .new (.tail (.tail (.tail (.tail (.tail .head))))) | exact .new (.tail (.tail (.tail (.tail (.tail (.tail .head)))))) | exact .new (.tail (.tail (.tail (.tail (.tail (.tail (.tail .head))))))) | exact .new (.tail (.tail (.tail (.tail (.tail (.tail (.tail (.tail .head)))))))) | exact .new (.tail (.tail (.tail (.tail (.tail (.tail (.tail (.tail (.tail .head))))))))) | exact .old .head | exact .old (.tail .head) | exact .old (.tail (.tail .head)) | exact .old (.tail (.tail (.tail .head))) | exact .old (.tail (.tail (.tail (.tail .head)))) | exact .old (.tail (.tail (.tail (.tail (.tail .head))))) | exact .own .head | exact .own (.tail .head) | exact .own (.tail (.tail .head)) | exact .own (.tail (.tail (.tail .head))) | exact .own (.tail (.tail (.tail (.tail .head)))) | exact .own (.tail (.tail (.tail (.tail (.tail .head))))) | exact .own (.tail (.tail (.tail (.tail (.tail (.tail .head)))))) | exact .own (.tail (.tail (.tail (.tail (.tail (.tail (.tail .head)))))))) (by omega) (by simp only [List.length_cons, List.length_nil]; omega)) rfl ?_
        all_goals refine l_quiet (by first | exact o_loadV (v := .slice x22.1 (putO X k v).length x22.2) (by exact rfl) one_slP (by first | exact .new .head | exact .new (.tail .head) | exact .new (.tail (.tail .head)) | exact .new (.tail (.tail (.tail .head))) | exact .new (.tail (.tail (.tail (.tail .head)))) | exact .new (.tail (.tail (.tail (.tail (.tail .head))))) | exact .new (.tail (.tail (.tail (.tail (.tail (.tail .head)))))) | exact .new (.tail (.tail (.tail (.tail (.tail (.tail (.tail .head))))))) | exact .new (.tail (.tail (.tail (.tail (.tail (.tail (.tail (.tail .head)))))))) | exact .new (.tail (.tail (.tail (.tail (.tail (.tail (.tail (.tail (.tail .head))))))))) | exact .old .head | exact .old (.tail .head) | exact .old (.tail (.tail .head)) | exact .old (.tail (.tail (.tail .head))) | exact .old (.tail (.tail (.tail (.tail .head)))) | exact .old (.tail (.tail (.tail (.tail (.tail .head))))) | exact .own .head | exact .own (.tail .head) | exact .own (.tail (.tail .head)) | exact .own (.tail (.tail (.tail .head))) | exact .own (.tail (.tail (.tail (.tail .head)))) | exact .own (.tail (.tail (.tail (.tail (.tail .head))))) | exact .own (.tail (.tail (.tail (.tail (.tail (.tail .head)))))) | exact .own (.tail (.tail (.tail (.tail (.tail (.tail (.tail .head)))))))) (by rw [h0]; rfl) | exact o_loadV (v := .slice x25.1 (dropO X k).length x25.2) (by exact rfl) one_slP (by first | exact .new .head | exact .new (.tail .head) | exact .new (.tail (.tail .head)) | exact .new (.tail (.tail (.tail .head))) | exact .new (.tail (.tail (.tail (.tail .head)))) | exact .new (.tail (.tail (.tail (.tail (.tail .head))))) | exact .new (.tail (.tail (.tail (.tail (.tail (.tail .head)))))) | exact .new (.tail (.tail (.tail (.tail (.tail (.tail (.tail .head))))))) | exact .new (.tail (.tail (.tail (.tail (.tail (.tail (.tail (.tail .head)))))))) | exact .new (.tail (.tail (.tail (.tail (.tail (.tail (.tail (.tail (.tail .head))))))))) | exact .old .head | exact .old (.tail .head) | exact .old (.tail (.tail .head)) | exact .old (.tail (.tail (.tail .head))) | exact .old (.tail (.tail (.tail (.tail .head)))) | exact .old (.tail (.tail (.tail (.tail (.tail .head))))) | exact .own .head | exact .own (.tail .head) | exact .own (.tail (.tail .head)) | exact .own (.tail (.tail (.tail .head))) | exact .own (.tail (.tail (.tail (.tail .head)))) | exact .own (.tail (.tail (.tail (.tail (.tail .head))))) | exact .own (.tail (.tail (.tail (.tail (.tail (.tail .head)))))) | exact .own (.tail (.tail (.tail (.tail (.tail (.tail (.tail .head)))))))) (by rw [h1]; rfl) | exact o_loadV (v := .slice x27.1 (ofL X).length x27.2) (by exact rfl) one_slP (by first | exact .new .head | exact .new (.tail .head) | exact .new (.tail (.tail .head)) | exact .new (.tail (.tail (.tail .head))) | exact .new (.tail (.tail (.tail (.tail .head)))) | exact .new (.tail (.tail (.tail (.tail (.tail .head))))) | exact .new (.tail (.tail (.tail (.tail (.tail (.tail .head)))))) | exact .new (.tail (.tail (.tail (.tail (.tail (.tail (.tail .head))))))) | exact .new (.tail (.tail (.tail (.tail (.tail (.tail (.tail (.tail .head)))))))) | exact .new (.tail (.tail (.tail (.tail (.tail (.tail (.tail (.tail (.tail .head))))))))) | exact .old .head | exact .old (.tail .head) | exact .old (.tail (.tail .head)) | exact .old (.tail (.tail (.tail .head))) | exact .old (.tail (.tail (.tail (.tail .head)))) | exact .old (.tail (.tail (.tail (.tail (.tail .head))))) | exact .own .head | exact .own (.tail .head) | exact .own (.tail (.tail .head)) | exact .own (.tail (.tail (.tail .head))) | exact .own (.tail (.tail (.tail (.tail .head)))) | exact .own (.tail (.tail (.tail (.tail (.tail .head))))) | exact .own (.tail (.tail (.tail (.tail (.tail (.tail .head)))))) | exact .own (.tail (.tail (.tail (.tail (.tail (.tail (.tail .head)))))))) (by rw [h2]; rfl)) rfl ?_
        all_goals refine j_assignL (fun _ => ?_)
        all_goals refine l_nil ?_
        all_goals refine k_region ?_
        all_goals refine j_move ?_
        all_goals refine j_build ?_
        all_goals (refine j_own (by first | exact cFO (p := x22.1) (ho := (by repeat (first | exact OAt.head | apply OAt.tail))) (hc := fun w1 hw => wipeN_c q2 (hw.ow (by repeat (first | exact OAt.head | apply OAt.tail))) (by omega)) | exact cFO (p := x25.1) (ho := (by repeat (first | exact OAt.head | apply OAt.tail))) (hc := fun w1 hw => wipeN_c q3 (hw.ow (by repeat (first | exact OAt.head | apply OAt.tail))) (by omega)) | exact cFO (p := x27.1) (ho := (by repeat (first | exact OAt.head | apply OAt.tail))) (hc := fun w1 hw => wipeN_c q4 (hw.ow (by repeat (first | exact OAt.head | apply OAt.tail))) (by omega))) (fun x36 => ?_); try (refine l_fact (fun h36 => ?_)))
        all_goals refine l_nil ?_
        all_goals (refine k_blk ?_)
        all_goals refine k_region ?_
        all_goals refine j_inc ?_
        all_goals refine j_move ?_
        all_goals refine l_nil ?_
        all_goals
          refine k_roundF ((by first | exact lfst h0 (z.1 + 1, List.replicate z.2.1.length wipedP, z.2.2.1, z.2.2.2) | exact lfst h1 (z.1 + 1, z.2.1, List.replicate z.2.2.1.length wipedP, z.2.2.2) | exact lfst h2 (z.1 + 1, z.2.1, z.2.2.1, List.replicate z.2.2.2.length wipedP))) ?_ ?_ (by repeat (first | (with_reducible exact Pre.refl) | refine Pre.cons (by exact rfl) ?_)) ?_ (fun w hw => hw.back)
          · first | omega | (simp only []; omega)
          · repeat' (first | exact knows_nil _ | refine knows_cons ?_ ?_)
            all_goals (first | exact rfl | (conv => { lhs; whnf }; simp; done) | (conv => { lhs; whnf }; congr 1; omega))
          · refine ⟨by show z.1 + 1 ≤ 3; omega, ?_, ?_, ?_⟩ <;> first | exact q2 | exact q3 | exact q4 | exact List.length_replicate.trans q2 | exact List.length_replicate.trans q3 | exact List.length_replicate.trans q4
      · try (exact absurd c31 (by decide))
        all_goals (first | replace c31 := of_decide_eq_false c31 | replace c31 := sbeq_f c31 | replace c31 := sbne_f c31 | replace c31 := ibeq_f c31 | replace c31 := ibne_f c31 | replace c31 := ndec_f c31 | replace c31 := not_f c31 | skip)
        all_goals (refine k_exit rfl ?_)
        all_goals (refine k_seq ?_)
        all_goals refine k_region ?_
        all_goals (refine j_own (cV (hc := fun w1 hw => prAwake_c w1)) (fun x38 => ?_); try (refine l_fact (fun h38 => ?_)))
        all_goals refine j_move ?_
        all_goals (first | refine j_un ?_ | (refine j_yes ?_; refine j_move ?_) | (refine l_case (g := 39) (by exact rfl) (fun g39 => ?_) (fun g39 => ?_) <;> (first | replace g39 := of_decide_eq_true g39 | replace g39 := of_decide_eq_false g39 | skip) <;> (first | refine j_un ?_ | (refine j_yes ?_; refine j_move ?_))))
        all_goals (first | refine j_un ?_ | (refine j_yes ?_; refine j_move ?_) | (refine l_case (g := 39) (by exact rfl) (fun g39 => ?_) (fun g39 => ?_) <;> (first | replace g39 := of_decide_eq_true g39 | replace g39 := of_decide_eq_false g39 | skip) <;> (first | refine j_un ?_ | (refine j_yes ?_; refine j_move ?_))))
        all_goals (first | refine j_un ?_ | (refine j_yes ?_; refine j_load ?_) | (refine l_case (g := 39) (by exact rfl) (fun g39 => ?_) (fun g39 => ?_) <;> (first | replace g39 := of_decide_eq_true g39 | replace g39 := of_decide_eq_false g39 | skip) <;> (first | refine j_un ?_ | (refine j_yes ?_; refine j_load ?_))))
        all_goals (first | refine j_un ?_ | (refine j_yes ?_; (refine j_own (cV (hc := fun w1 hw => kept_c (l := X) fillP (hw.cl (by first | exact .new .head | exact .new (.tail .head) | exact .new (.tail (.tail .head)) | exact .new (.tail (.tail (.tail .head))) | exact .new (.tail (.tail (.tail (.tail .head)))) | exact .new (.tail (.tail (.tail (.tail (.tail .head))))) | exact .new (.tail (.tail (.tail (.tail (.tail (.tail .head)))))) | exact .new (.tail (.tail (.tail (.tail (.tail (.tail (.tail .head))))))) | exact .new (.tail (.tail (.tail (.tail (.tail (.tail (.tail (.tail .head)))))))) | exact .new (.tail (.tail (.tail (.tail (.tail (.tail (.tail (.tail (.tail .head))))))))) | exact .old .head | exact .old (.tail .head) | exact .old (.tail (.tail .head)) | exact .old (.tail (.tail (.tail .head))) | exact .old (.tail (.tail (.tail (.tail .head)))) | exact .old (.tail (.tail (.tail (.tail (.tail .head))))) | exact .own .head | exact .own (.tail .head) | exact .own (.tail (.tail .head)) | exact .own (.tail (.tail (.tail .head))) | exact .own (.tail (.tail (.tail (.tail .head)))) | exact .own (.tail (.tail (.tail (.tail (.tail .head))))) | exact .own (.tail (.tail (.tail (.tail (.tail (.tail .head)))))) | exact .own (.tail (.tail (.tail (.tail (.tail (.tail (.tail .head))))))))) (hw.cl (by first | exact .new .head | exact .new (.tail .head) | exact .new (.tail (.tail .head)) | exact .new (.tail (.tail (.tail .head))) | exact .new (.tail (.tail (.tail (.tail .head)))) | exact .new (.tail (.tail (.tail (.tail (.tail .head))))) | exact .new (.tail (.tail (.tail (.tail (.tail (.tail .head)))))) | exact .new (.tail (.tail (.tail (.tail (.tail (.tail (.tail .head))))))) | exact .new (.tail (.tail (.tail (.tail (.tail (.tail (.tail (.tail .head)))))))) | exact .new (.tail (.tail (.tail (.tail (.tail (.tail (.tail (.tail (.tail .head))))))))) | exact .old .head | exact .old (.tail .head) | exact .old (.tail (.tail .head)) | exact .old (.tail (.tail (.tail .head))) | exact .old (.tail (.tail (.tail (.tail .head)))) | exact .old (.tail (.tail (.tail (.tail (.tail .head))))) | exact .own .head | exact .own (.tail .head) | exact .own (.tail (.tail .head)) | exact .own (.tail (.tail (.tail .head))) | exact .own (.tail (.tail (.tail (.tail .head)))) | exact .own (.tail (.tail (.tail (.tail (.tail .head))))) | exact .own (.tail (.tail (.tail (.tail (.tail (.tail .head)))))) | exact .own (.tail (.tail (.tail (.tail (.tail (.tail (.tail .head))))))))) (by omega))) (fun x43 => ?_); try (refine l_fact (fun h43 => ?_)))) | (refine l_case (g := 39) (by exact rfl) (fun g39 => ?_) (fun g39 => ?_) <;> (first | replace g39 := of_decide_eq_true g39 | replace g39 := of_decide_eq_false g39 | skip) <;> (first | refine j_un ?_ | (refine j_yes ?_; (refine j_own (cV (hc := fun w1 hw => kept_c (l := X) fillP (hw.cl (by first | exact .new .head | exact .new (.tail .head) | exact .new (.tail (.tail .head)) | exact .new (.tail (.tail (.tail .head))) | exact .new (.tail (.tail (.tail (.tail .head)))) | exact .new (.tail (.tail (.tail (.tail (.tail .head))))) | exact .new (.tail (.tail (.tail (.tail (.tail (.tail .head)))))) | exact .new (.tail (.tail (.tail (.tail (.tail (.tail (.tail .head))))))) | exact .new (.tail (.tail (.tail (.tail (.tail (.tail (.tail (.tail .head)))))))) | exact .new (.tail (.tail (.tail (.tail (.tail (.tail (.tail (.tail (.tail .head))))))))) | exact .old .head | exact .old (.tail .head) | exact .old (.tail (.tail .head)) | exact .old (.tail (.tail (.tail .head))) | exact .old (.tail (.tail (.tail (.tail .head)))) | exact .old (.tail (.tail (.tail (.tail (.tail .head))))) | exact .own .head | exact .own (.tail .head) | exact .own (.tail (.tail .head)) | exact .own (.tail (.tail (.tail .head))) | exact .own (.tail (.tail (.tail (.tail .head)))) | exact .own (.tail (.tail (.tail (.tail (.tail .head))))) | exact .own (.tail (.tail (.tail (.tail (.tail (.tail .head)))))) | exact .own (.tail (.tail (.tail (.tail (.tail (.tail (.tail .head))))))))) (hw.cl (by first | exact .new .head | exact .new (.tail .head) | exact .new (.tail (.tail .head)) | exact .new (.tail (.tail (.tail .head))) | exact .new (.tail (.tail (.tail (.tail .head)))) | exact .new (.tail (.tail (.tail (.tail (.tail .head))))) | exact .new (.tail (.tail (.tail (.tail (.tail (.tail .head)))))) | exact .new (.tail (.tail (.tail (.tail (.tail (.tail (.tail .head))))))) | exact .new (.tail (.tail (.tail (.tail (.tail (.tail (.tail (.tail .head)))))))) | exact .new (.tail (.tail (.tail (.tail (.tail (.tail (.tail (.tail (.tail .head))))))))) | exact .old .head | exact .old (.tail .head) | exact .old (.tail (.tail .head)) | exact .old (.tail (.tail (.tail .head))) | exact .old (.tail (.tail (.tail (.tail .head)))) | exact .old (.tail (.tail (.tail (.tail (.tail .head))))) | exact .own .head | exact .own (.tail .head) | exact .own (.tail (.tail .head)) | exact .own (.tail (.tail (.tail .head))) | exact .own (.tail (.tail (.tail (.tail .head)))) | exact .own (.tail (.tail (.tail (.tail (.tail .head))))) | exact .own (.tail (.tail (.tail (.tail (.tail (.tail .head)))))) | exact .own (.tail (.tail (.tail (.tail (.tail (.tail (.tail .head))))))))) (by omega))) (fun x43 => ?_); try (refine l_fact (fun h43 => ?_)))))))
        all_goals refine j_pick ?_
        all_goals refine j_assignL (fun _ => ?_)
        all_goals refine l_nil ?_
        all_goals
          refine k_retvF Try.results13 (.tmp (by conv => { lhs; whnf }) .nil) (fun w hw => ?_)
          first | exact ⟨rfl, hw.done⟩ | (exfalso; clear hw; simp_all; done)
end
end Go.Proofs.Ythmagkjcangnfaa
