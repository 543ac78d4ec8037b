/- A memory out of a tape. -/
import Derived.Test.YtmogngagpphnhaaArG
set_option linter.unusedSimpArgs false
set_option linter.unusedVariables false
namespace Go.Ct
/-- The numbers of a node are numbers of their types. -/
structure NdR (n : Nd) : Prop where
  bm : ∃ b : Nat, n.bm = (b : Int) ∧ b < 18446744073709551616
  main : n.main ≤ 9223372036854775807
  prev : n.prev ≤ 9223372036854775807
  status : n.status ≤ 9223372036854775807
def Rngs (L : List NdV) : Prop := ∀ v ∈ L, NdR v.nd
structure MemGood (L : List NdV) (cs : List Int) : Prop where
  proper : Proper L cs 3
  fit : Fits L
  rng : Rngs L
  hL : L.length ≤ 10
  hc : cs.length ≤ 10
theorem good_new : MemGood [markV, markV] [] := by
  refine ⟨⟨by decide, by decide, rfl, rfl, fun i hi => by simp at hi, fun i hi => ?_, by simp [marks, markS, cellK, markV, Nd.zero]⟩, fun v hv => ?_, fun v hv => ?_, by decide, by decide⟩
  · have : i = 0 ∨ i = 1 := by simp at hi; omega
    have ok : NdOk 3 2 markV := ⟨⟨by simp [NdEq, Nd.own, Nd.xsOwn, Nd.ysOwn, markV, Nd.zero], by decide, by decide, by decide, .inl rfl⟩, by decide, fun i hi => by simp [markV] at hi, by decide, by decide, by decide⟩
    rcases this with rfl | rfl <;> exact ok
  · simp only [List.mem_cons, List.not_mem_nil, or_false] at hv
    rcases hv with rfl | rfl <;> exact fit_mark
  · simp only [List.mem_cons, List.not_mem_nil, or_false] at hv
    rcases hv with rfl | rfl <;> exact ⟨⟨0, rfl, by decide⟩, by decide, by decide, by decide⟩
end Go.Ct
namespace Go.Proofs.Ytmogngagpphnhaa
open Go.RowKit Go.Ct
theorem gen_eq {refs : Int} {n : Nd} {xs : List Int} {ys : List Pr} (g : GenNode refs n xs ys) : ({ n with brN := xs.length, prN := ys.length } : Nd) = n := by
  obtain ⟨_, e1, e2, _⟩ := g
  cases n
  simp only at e1 e2
  subst e1 e2
  rfl
theorem good_push {L : List NdV} {cs : List Int} {n : Nd} {xs : List Int} {ys : List Pr} {init : Int} {x : AX} {v : Nat} (h : Proper L cs 3 ∧ (Fits L ∧ Rngs L) ∧ L.length + v ≤ 10 ∧ cs.length + v ≤ 10) (hv : 0 < v) (g : GenNode (L.length : Int) n xs ys) (hi : 0 ≤ init ∧ init < (L.length : Int) + 1) :
    Proper (L ++ [alV n xs ys cs.length x]) (alCs n.kind cs init) 3 ∧ (Fits (L ++ [alV n xs ys cs.length x]) ∧ Rngs (L ++ [alV n xs ys cs.length x])) ∧ (L ++ [alV n xs ys cs.length x]).length + (v - 1) ≤ 10 ∧ (alCs n.kind cs init).length + (v - 1) ≤ 10 := by
  have ga := gen_al (N := L.length) (c := cs.length) (x := x) g
  have l1 := alCs_length (k := n.kind) (cs := cs) (init := init)
  refine ⟨proper_push h.1 (ga.1.mono (by omega)) ⟨hi.1, by omega⟩ (ga.2.imp (fun h => ⟨h.1, h.2 _ _⟩) fun h => ⟨h.1, h.2 _ _⟩), ⟨fun w hw => ?_, fun w hw => ?_⟩, by simp only [List.length_append, List.length_cons, List.length_nil]; omega, by omega⟩
  rcases List.mem_append.1 hw with hw | hw
  · exact h.2.1.1 w hw
  · simp only [List.mem_singleton] at hw
    subst hw
    exact fit_al (by have := g.xs64; omega) (by have := g.ys2; omega)
  rcases List.mem_append.1 hw with hw | hw
  · exact h.2.1.2 w hw
  · simp only [List.mem_singleton] at hw
    subst hw
    exact ⟨g.bm, by simp only [alV]; split <;> omega, by simp only [alV]; split <;> omega, by simp only [alV]; split <;> omega⟩
theorem mMem_c {l : List Int} {a : Option Addr} {b c k : Nat} {w : World} (ht : TpAt w b a l c k) :
    Calls Try.prog 17 #[.pointer (some ⟨b, 0, none⟩)] w fun e w' =>
    ∃ x : Nat × (List NdV × List Int) × (Option Addr × Nat) × (Option Addr × Nat) × Nat, e = .returned (.pointer (some ⟨x.1, 0, none⟩)) ∧ MemGood x.2.1.1 x.2.1.2 ∧
      SF w [b] ((b, tpO a l c x.2.2.2.2) :: [(x.1, mO x.2.1.1 x.2.1.2 3 0 x.2.2.1.1 x.2.2.1.2 x.2.2.2.1.1 x.2.2.2.1.2)]) [] (famF x.2.1.1) (mW x.2.1.1 x.2.1.2 x.2.2.1.1 x.2.2.1.2 x.2.2.2.1.1 x.2.2.2.1.2) w' := by
  refine enter Try.func17 Try.ntmps17 rfl rfl ht.start ?_
  simp only [mkS]
  all_goals (refine k_seq ?_; refine k_region ?_; refine j_assignL (fun _ => ?_); refine l_nil ?_; refine k_seq ?_; refine k_region ?_; (refine j_own (cFH (Fc := fun _ => []) (hc := fun w1 hw => mNew_c w1)) (fun x5 => ?_); try (refine l_fact (fun h5 => ?_))); refine j_assignL (fun _ => ?_); refine l_nil ?_; refine k_seq ?_; refine k_region ?_; refine j_move ?_; refine j_nilCheck ?_; refine j_fieldAddr ?_; refine j_fieldAddr ?_; refine j_store (fun _ => ?_); refine l_nil ?_; refine k_seq ?_; refine k_seq ?_; refine k_region ?_; refine j_move ?_; (refine j_own (cF1 (hc := fun w1 hw => next_c _ (hw.tape (by repeat (first | exact At.head | apply At.tail)) (by first | exact .new .head | exact .new (.tail .head) | exact .new (.tail (.tail .head)) | exact .new (.tail (.tail (.tail .head))) | exact .new (.tail (.tail (.tail (.tail .head)))) | exact .new (.tail (.tail (.tail (.tail (.tail .head))))) | exact .new (.tail (.tail (.tail (.tail (.tail (.tail .head)))))) | exact .new (.tail (.tail (.tail (.tail (.tail (.tail (.tail .head))))))) | exact .new (.tail (.tail (.tail (.tail (.tail (.tail (.tail (.tail .head)))))))) | exact .new (.tail (.tail (.tail (.tail (.tail (.tail (.tail (.tail (.tail .head))))))))) | exact .old .head | exact .old (.tail .head) | exact .old (.tail (.tail .head)) | exact .old (.tail (.tail (.tail .head))) | exact .old (.tail (.tail (.tail (.tail .head)))) | exact .old (.tail (.tail (.tail (.tail (.tail .head))))) | exact .own .head | exact .own (.tail .head) | exact .own (.tail (.tail .head)) | exact .own (.tail (.tail (.tail .head))) | exact .own (.tail (.tail (.tail (.tail .head)))) | exact .own (.tail (.tail (.tail (.tail (.tail .head))))) | exact .own (.tail (.tail (.tail (.tail (.tail (.tail .head)))))) | exact .own (.tail (.tail (.tail (.tail (.tail (.tail (.tail .head)))))))) ht.len) (by first | decide | omega) (by first | decide | omega))) (fun x11 => ?_); try (refine l_fact (fun h11 => ?_))); refine j_assignL (fun _ => ?_); refine l_nil ?_; refine k_block ?_)
  all_goals
   refine k_loopF [4, 12, 13, 14, 15, 16, 17, 18, 19, 20, 21, 22, 23, 24, 25, 26, 27, 28, 29, 30, 31, 32, 33, 34] (fun y : Nat × (List NdV × List Int) × (Option Addr × Nat) × (Option Addr × Nat) × Nat => [(4, .int .i64 ((y.1 : Nat) : Int))]) (fun y => Proper y.2.1.1 y.2.1.2 3 ∧ (Fits y.2.1.1 ∧ Rngs y.2.1.1) ∧ y.2.1.1.length + y.1 ≤ 10 ∧ y.2.1.2.length + y.1 ≤ 10) (fun y => [(x5.1, mO y.2.1.1 y.2.1.2 3 0 y.2.2.1.1 y.2.2.1.2 y.2.2.2.1.1 y.2.2.2.1.2), (b, tpO a l c y.2.2.2.2)]) (fun y => famF y.2.1.1) (fun y => [⟨y.2.2.1.1, nvC y.2.1.1, y.2.2.1.2, 48, 14⟩, ⟨y.2.2.2.1.1, refsC y.2.1.2, y.2.2.2.1.2, 39, 1⟩]) (fun y => y.1) ((x11, ([markV, markV], []), (x5.2, 2), (none, 0), tiN l k)) (by decide) (fun _ => by exact rfl) ?_ (⟨good_new.proper, ⟨good_new.fit, good_new.rng⟩, by simp only [List.length_cons, List.length_nil]; omega, by simp only [List.length_nil]; omega⟩) (fun w hw => hw.subF (F' := famF [markV, markV]) (fun f hf => .inl (by simp [famF, NdV.fr, markV, refsC, prC] at hf; rcases hf with rfl | rfl | rfl | rfl <;> rfl))) (fun y f hx => ?_)
   · repeat (first | exact knows_nil _ | refine knows_cons (by first | exact rfl | (conv => { lhs; whnf }; simp; done)) ?_)
   dsimp only [mkU, List.map, List.cons_append, List.nil_append]
   all_goals (refine k_seq ?_; refine k_seq ?_; refine k_region ?_; refine j_move ?_; refine j_gtr ?_; refine l_nil ?_)
   all_goals
    refine k_if (fun c13 => ?_) (fun c13 => ?_)
    · try (exact absurd c13 (by decide))
      all_goals (revert c13; (first | refine cv1 ?_ | refine cv3 ?_ | refine cv5 ?_ | refine cv7 ?_ | refine cv9 ?_ | refine cvb ?_ | refine cvd ?_ | skip); intro c13)
      all_goals (refine k_skip ?_; refine k_seq ?_; refine k_block ?_; refine k_drawF (.one 0 [] (.one 1 [] (.one 2 [] (.one 3 [] (.one 4 [] (.one 5 [] (.one 6 [] (.one 7 [] (.one 9 [] (.one 10 [] (.one 11 [] (.one 12 [] (.one 13 [] (.one 14 [] (.one 15 [] (.one 16 [] (.one 8 [14] (.one 17 [] (.one 18 [] .nil))))))))))))))))))) ?_; refine r_move (i := 0) ?_; refine r_move (i := 1) ?_; refine r_move (i := 2) ?_; refine r_nilCheck (i := 3) ?_; refine r_fieldAddr (i := 4) ?_; refine r_fieldAddr (i := 5) ?_; refine r_load (i := 6) ?_; refine r_len (i := 7) ?_; refine r_move (i := 9) ?_; refine r_move (i := 10) ?_; refine r_nilCheck (i := 11) ?_; refine r_fieldAddr (i := 12) ?_; refine r_fieldAddr (i := 13) ?_; refine r_load (i := 14) ?_; refine r_len (i := 15) ?_; refine r_inc (i := 16) ?_; ((refine r_own (i := 8) (hq := (cF1 (hc := fun w1 hw => tnode_c (y.2.1.1.length : Int) (hw.tape (by repeat (first | exact At.head | apply At.tail)) (by first | exact .new .head | exact .new (.tail .head) | exact .new (.tail (.tail .head)) | exact .new (.tail (.tail (.tail .head))) | exact .new (.tail (.tail (.tail (.tail .head)))) | exact .new (.tail (.tail (.tail (.tail (.tail .head))))) | exact .new (.tail (.tail (.tail (.tail (.tail (.tail .head)))))) | exact .new (.tail (.tail (.tail (.tail (.tail (.tail (.tail .head))))))) | exact .new (.tail (.tail (.tail (.tail (.tail (.tail (.tail (.tail .head)))))))) | exact .new (.tail (.tail (.tail (.tail (.tail (.tail (.tail (.tail (.tail .head))))))))) | exact .old .head | exact .old (.tail .head) | exact .old (.tail (.tail .head)) | exact .old (.tail (.tail (.tail .head))) | exact .old (.tail (.tail (.tail (.tail .head)))) | exact .old (.tail (.tail (.tail (.tail (.tail .head))))) | exact .own .head | exact .own (.tail .head) | exact .own (.tail (.tail .head)) | exact .own (.tail (.tail (.tail .head))) | exact .own (.tail (.tail (.tail (.tail .head)))) | exact .own (.tail (.tail (.tail (.tail (.tail .head))))) | exact .own (.tail (.tail (.tail (.tail (.tail (.tail .head)))))) | exact .own (.tail (.tail (.tail (.tail (.tail (.tail (.tail .head)))))))) ht.len) (by have := hx.1.two; omega) (by omega)))) (hfire := (fun _ => by first | (refine FireAll.cons (by first | exact a_load | exact a_un) ?_; exact FireAll.nil) | (refine fireall_fact ?_; refine FireAll.cons (by first | exact a_load | exact a_un) ?_; exact FireAll.nil))) (h := fun x24 => ?_); try (refine r_fact (fun h24 => ?_)))); ((refine r_own (i := 17) (hq := (cF1 (hc := fun w1 hw => next_c _ (hw.tape (by repeat (first | exact At.head | apply At.tail)) (by first | exact .new .head | exact .new (.tail .head) | exact .new (.tail (.tail .head)) | exact .new (.tail (.tail (.tail .head))) | exact .new (.tail (.tail (.tail (.tail .head)))) | exact .new (.tail (.tail (.tail (.tail (.tail .head))))) | exact .new (.tail (.tail (.tail (.tail (.tail (.tail .head)))))) | exact .new (.tail (.tail (.tail (.tail (.tail (.tail (.tail .head))))))) | exact .new (.tail (.tail (.tail (.tail (.tail (.tail (.tail (.tail .head)))))))) | exact .new (.tail (.tail (.tail (.tail (.tail (.tail (.tail (.tail (.tail .head))))))))) | exact .old .head | exact .old (.tail .head) | exact .old (.tail (.tail .head)) | exact .old (.tail (.tail (.tail .head))) | exact .old (.tail (.tail (.tail (.tail .head)))) | exact .old (.tail (.tail (.tail (.tail (.tail .head))))) | exact .own .head | exact .own (.tail .head) | exact .own (.tail (.tail .head)) | exact .own (.tail (.tail (.tail .head))) | exact .own (.tail (.tail (.tail (.tail .head)))) | exact .own (.tail (.tail (.tail (.tail (.tail .head))))) | exact .own (.tail (.tail (.tail (.tail (.tail (.tail .head)))))) | exact .own (.tail (.tail (.tail (.tail (.tail (.tail (.tail .head)))))))) ht.len) (by first | decide | omega) (by first | decide | omega)))) (hfire := (fun _ => .nil)) (h := fun x33 => ?_); try (refine r_fact (fun h33 => ?_)))); ((refine r_own (i := 18) (hq := (cM (hc := fun w hs => mAlloc_c (L := y.2.1.1) (cs := y.2.1.2) (n := { x24.1 with brN := x24.2.1.length, prN := x24.2.2.1.length }) (xs := x24.2.1) (ys := x24.2.2.1) ((x33 : Nat) : Int) hs rfl rfl (by have := h24.xs64; omega) (by have := h24.ys2; omega) (by omega) (by omega)))) (hfire := (fun _ => .nil)) (h := fun x34 => ?_); try (refine r_fact (fun h34 => ?_)))); refine r_fin ?_; refine k_blk ?_; refine k_region ?_; refine j_move ?_; refine j_dec ?_; refine j_assignL (fun _ => ?_); refine l_nil ?_)
      all_goals
       refine k_roundF ((y.1 - 1, (y.2.1.1 ++ [alV { x24.1 with brN := x24.2.1.length, prN := x24.2.2.1.length } x24.2.1 x24.2.2.1 y.2.1.2.length x34], alCs x24.1.kind y.2.1.2 ((x33 : Nat) : Int)), (x34.pn, x34.cn), (x34.pc, x34.cc), tiN l x24.2.2.2)) ?_ ?_ (by repeat (first | (with_reducible exact Pre.refl) | refine Pre.cons (by exact rfl) ?_)) ?_ (fun w hw => hw.pushF (L := y.2.1.1) (v := alV { x24.1 with brN := x24.2.1.length, prN := x24.2.2.1.length } x24.2.1 x24.2.2.1 y.2.1.2.length x34) (F' := []) (List.mem_cons_self ..) (List.mem_cons_of_mem _ (List.mem_cons_self ..)) (fun f hf => List.mem_cons_of_mem _ (List.mem_cons_of_mem _ (List.mem_cons_of_mem _ (List.mem_cons_of_mem _ hf)))))
       · first | omega | (simp only []; omega)
       · repeat' (first | exact knows_nil _ | refine knows_cons ?_ ?_)
         all_goals (first | exact rfl | (conv => { lhs; whnf }; simp; done) | (conv => { lhs; whnf }; congr 1; omega))
       · have e := gen_eq h24
         have g := good_push (x := x34) (init := ((x33 : Nat) : Int)) hx (by omega) h24 ⟨by omega, by omega⟩
         rw [e]
         exact g
    · try (exact absurd c13 (by decide))
      all_goals (revert c13; (first | refine cv2 ?_ | refine cv4 ?_ | refine cv6 ?_ | refine cv8 ?_ | refine cva ?_ | refine cvc ?_ | refine cve ?_ | skip); intro c13)
      all_goals (refine k_exit rfl ?_; refine k_seq ?_; refine k_region ?_; refine j_move ?_; refine j_assignL (fun _ => ?_); refine l_nil ?_)
      all_goals
       refine k_rv Try.results17 (fun w hw => ?_)
       have g1 : y.2.1.1.length ≤ 10 := by omega
       have g2 : y.2.1.2.length ≤ 10 := by omega
       refine ⟨(x5.1, y.2.1, y.2.2.1, y.2.2.2.1, y.2.2.2.2), rfl, ⟨hx.1, hx.2.1.1, hx.2.1.2, g1, g2⟩, ?_⟩
       exact (hw.perm (List.Perm.swap _ _ _) (List.Perm.refl _)).ret (List.Sublist.refl _) FSub.all (List.Sublist.refl _)
end Go.Proofs.Ytmogngagpphnhaa
