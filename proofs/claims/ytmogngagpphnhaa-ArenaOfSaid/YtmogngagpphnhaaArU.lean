/- A state of which a part is changed. -/
import Derived.Test.YtmogngagpphnhaaArT
set_option linter.unusedSimpArgs false
set_option linter.unusedVariables false
namespace Go.Ct
open Go Go.RowKit
section
variable {w0 w w' : World} {M : List Nat} {H : List (Nat × Obj)} {A F : Fr} {O : List Ow}
variable {P : Program} {S : List (Nat × Value)} {G : World → Prop} {d : Nat} {ty : TypeId} {pos : String} {af : Array Edge} {gd : Option (Nat × Bool)} {x y : Operand} {t t2 e : TypeId} {p a : Option Addr} {i m k c c2 sz : Nat}
theorem set_nvC {L : List NdV} {q j : Nat} {u : Value} {v : NdV} (hq : q < L.length) (hj : j < 14) (hv : (L.getD q NdV.zero).nd.cells.set j u = v.nd.cells) : (nvC L).set (14 * q + j) u = nvC (L.set q v) :=
  flat_set (g := fun v : NdV => v.nd.cells) (z := NdV.zero) (fun v => cells_length v.nd) hq hj hv
theorem o_storeV {L : List NdV} {q j : Nat} {u : Value} (v : NdV) (hx : ev S x = .pointer (some ⟨ablk p, aoff p + 14 * q + j, none⟩)) (hy : ev S y = u) (h1 : u.oneCell' = true) (ht : one P t = true) (ho : OAt O i p (nvC L) c e 14) (hq : q < L.length) (hj : j < 14) (hv : (L.getD q NdV.zero).nd.cells.set j u = v.nd.cells) :
    Loud P S (SF w0 M H A F O) ⟨none, .store t x y, ty, pos, af, gd⟩ Unit (fun _ => undef) (fun _ => SF w0 M H A F (setO O i ⟨p, nvC (L.set q v), c, e, 14⟩)) := by
  rw [← set_nvC hq hj hv]
  exact o_storeO (q := 14 * q + j) (by rw [hx, Nat.add_assoc]) hy h1 ht ho (by rw [nvC_length]; omega)
end
def GoodL (L : List NdV) (R : Fr) (L' : List NdV) : Prop := Fits L' ∧ Rngs L' ∧ ∀ f ∈ famF L', f ∈ famF L ∨ f ∈ R
theorem goodL_add {L L' : List NdV} {R : Fr} {v : NdV} (h : GoodL L R L') (h1 : v.Fit) (h2 : NdR v.nd) (h3 : ∀ f ∈ v.fr, f ∈ R) : GoodL L R (L' ++ [v]) := by
  refine ⟨fun u hu => ?_, fun u hu => ?_, fun f hf => ?_⟩
  · rcases List.mem_append.1 hu with hu | hu
    · exact h.1 u hu
    · rw [List.mem_singleton.1 hu]; exact h1
  · rcases List.mem_append.1 hu with hu | hu
    · exact h.2.1 u hu
    · rw [List.mem_singleton.1 hu]; exact h2
  · obtain ⟨u, hu, hf⟩ := mem_famF.1 hf
    rcases List.mem_append.1 hu with hu | hu
    · exact h.2.2 f (mem_famF.2 ⟨u, hu, hf⟩)
    · rw [List.mem_singleton.1 hu] at hf; exact .inr (h3 f hf)
theorem goodL_set {L L' : List NdV} {R : Fr} {v : NdV} {k : Nat} (h : GoodL L R L') (hk : k < L'.length) (h1 : v.Fit) (h2 : NdR v.nd) (h3 : v.fr = (L'.getD k NdV.zero).fr) : GoodL L R (L'.set k v) := by
  have hm : ∀ u ∈ L'.set k v, u ∈ L' ∨ u = v := fun u hu => by
    obtain ⟨i, hi, rfl⟩ := List.mem_iff_getElem.1 hu
    rw [List.length_set] at hi
    rw [List.getElem_set]
    split
    · exact .inr rfl
    · exact .inl (List.getElem_mem hi)
  refine ⟨fun u hu => ?_, fun u hu => ?_, fun f hf => ?_⟩
  · rcases hm u hu with hu | rfl
    · exact h.1 u hu
    · exact h1
  · rcases hm u hu with hu | rfl
    · exact h.2.1 u hu
    · exact h2
  · obtain ⟨u, hu, hf⟩ := mem_famF.1 hf
    rcases hm u hu with hu | hu
    · exact h.2.2 f (mem_famF.2 ⟨u, hu, hf⟩)
    · rw [hu, h3] at hf
      exact h.2.2 f (mem_famF.2 ⟨_, getD_mem hk, hf⟩)
theorem goodL_take {L L' : List NdV} {R : Fr} (h : GoodL L R L') (k : Nat) : GoodL L R (L'.take k) :=
  ⟨fun u hu => h.1 u (List.mem_of_mem_take hu), fun u hu => h.2.1 u (List.mem_of_mem_take hu), fun f hf => by
    obtain ⟨u, hu, hf⟩ := mem_famF.1 hf
    exact h.2.2 f (mem_famF.2 ⟨u, List.mem_of_mem_take hu, hf⟩)⟩
theorem chg_ret {w0 w : World} {H : List (Nat × Obj)} {A F : Fr} {L L' : List NdV} {R : Fr} {cs' : List Int} {pn pc : Option Addr} {cn cc m1 m2 : Nat} {N C : TypeId} {g : Int} (hw : SF w0 [] H A F [⟨pn, nvC L', cn, N, 14⟩, ⟨pc, refsC cs', cc, C, 1⟩] w) (g1 : GoodL L R L') (h1 : m1 ≤ L'.length) (h2 : m2 ≤ cs'.length) :
    ∃ s : StV, (Ending.returned (.agg ⟨[.slice pn m1 cn, .slice pc m2 cc, .int .i64 g]⟩) : Ending) = .returned (.agg ⟨s.cells⟩) ∧ (s.Ok ∧ ∀ f ∈ famF s.L, f ∈ famF L ∨ f ∈ R) ∧ SF w0 [] [] [] [(s.pn, nvC s.L), (s.pc, refsC s.cs)] [] w := by
  have hc := hw.capV .head
  have g2 := goodL_take g1 m1
  refine ⟨⟨L'.take m1, cs'.take m2, g, pn, cn, pc, cc⟩, ?_, ⟨⟨g2.1, g2.2.1, ?_⟩, g2.2.2⟩, ?_⟩
  · simp only [StV.cells, List.length_take, Nat.min_eq_left h1, Nat.min_eq_left h2]
  · simp only [List.length_take]; omega
  · have h3 := (hw.freeze .head).freeze .head
    simp only [delO] at h3
    have k1 := h3.new (pn, nvC L') (List.mem_cons_of_mem _ (List.mem_cons_self ..))
    have k2 := h3.new (pc, refsC cs') (List.mem_cons_self ..)
    have e1 : nvC (L'.take m1) = (nvC L').take (m1 * 14) := by
      have := congrArg nvC (List.take_append_drop m1 L')
      rw [nvC_append] at this
      rw [← this, List.take_left' (by rw [nvC_length, List.length_take, Nat.min_eq_left h1])]
    have k3 : SF w0 [] H A [(pn, nvC (L'.take m1)), (pc, refsC (cs'.take m2))] [] w := ⟨h3.st, h3.old, fun f hf => by
      simp only [List.mem_cons, List.not_mem_nil, or_false] at hf
      rcases hf with rfl | rfl
      · refine ⟨by rw [e1]; exact k1.1.take (List.take_prefix _ _), fun h => k1.2 fun h0 => h ?_⟩
        have h0' : nvC L' = [] := h0
        show nvC (L'.take m1) = []
        rw [e1, h0', List.take_nil]
      · refine ⟨by rw [← take_refsC]; exact k2.1.take (List.take_prefix _ _), fun h => k2.2 fun h0 => h ?_⟩
        have h0' : refsC cs' = [] := h0
        show refsC (cs'.take m2) = []
        rw [← take_refsC, h0', List.take_nil], fun _ h => (List.not_mem_nil h).elim, h3.dis⟩
    exact k3.ret (List.nil_sublist _) FSub.all (List.Sublist.refl _)
end Go.Ct
namespace Go.Proofs.Ytmogngagpphnhaa
open Go.RowKit Go.Ct
theorem modN_c (v : Int) (n : Nat) (w : World) (h0 : 0 < n) (h1 : n ≤ 274877906944) : Calls Try.prog 20 #[.int .i64 v, .int .i64 ((n : Nat) : Int)] w fun e w' => e = .returned (.int .i64 (((modv v n).toNat : Nat) : Int)) ∧ St w [] [] w' := by
  have h := modv_bound (v := v) (n := (n : Int)) (by omega) (by omega)
  rw [Int.toNat_of_nonneg h.1]
  exact mod_c v n w (by rw [wrap_u64]; omega)
theorem changed_c (kind v : Int) {n : Nd} {xs : List Int} {ys : List Pr} {L : List NdV} {cs : List Int} {gen : Int} {pn pc : Option Addr} {cn cc : Nat} {w : World} (h : StAt w L cs pn pc) (hR : Rngs L) (hr : Rep w n xs ys) (hf : NdV.Fit ⟨n, xs, ys⟩) (hn : NdR n) (hL : L.length ≤ 1000) (hC : cs.length ≤ 1000) (h2 : 0 < L.length) :
    Calls Try.prog 24 #[.agg ⟨[.slice pn L.length cn, .slice pc cs.length cc, .int .i64 gen]⟩, .int .i64 kind, .int .i64 v, .agg ⟨n.cells⟩] w fun e w' => ∃ s : StV, e = .returned (.agg ⟨s.cells⟩) ∧ (s.Ok ∧ ∀ f ∈ famF s.L, f ∈ famF L ∨ f ∈ NdV.fr ⟨n, xs, ys⟩) ∧
      SF w [] [] [] [(s.pn, nvC s.L), (s.pc, refsC s.cs)] [] w' := by
  have g0 : GoodL L (NdV.fr ⟨n, xs, ys⟩) L := ⟨h.fit, hR, fun f hf => .inl hf⟩
  have g2 := goodL_add g0 hf hn (fun f hf => hf)
  generalize hk : (modv v L.length).toNat = k
  have hkl : k < L.length := by
    have := modv_bound (v := v) (n := (L.length : Int)) (by omega) (by omega)
    omega
  have g3 : GoodL L (NdV.fr ⟨n, xs, ys⟩) (L.set k ⟨{ (L.getD k NdV.zero).nd with prev := (((modv v (5 : Nat)).toNat : Nat) : Int) }, (L.getD k NdV.zero).xs, (L.getD k NdV.zero).ys⟩) := goodL_set g0 hkl (by have := h.fit.at hkl; exact ⟨this.1, this.2, this.3, this.4⟩) (by
    have hm := modv_bound (v := v) (n := 5) (by decide) (by decide)
    obtain ⟨q1, q2, q3, q4⟩ := hR _ (getD_mem hkl)
    exact ⟨q1, q2, by show (((modv v (5 : Nat)).toNat : Nat) : Int) ≤ _; rw [show ((5 : Nat) : Int) = 5 from rfl]; omega, q4⟩) rfl
  have g4 : GoodL L (NdV.fr ⟨n, xs, ys⟩) (L.set k ⟨{ (L.getD k NdV.zero).nd with old := (((modv v (30 : Nat)).toNat : Nat) : Int) }, (L.getD k NdV.zero).xs, (L.getD k NdV.zero).ys⟩) := goodL_set g0 hkl (by have := h.fit.at hkl; exact ⟨this.1, this.2, this.3, this.4⟩) (by
    obtain ⟨q1, q2, q3, q4⟩ := hR _ (getD_mem hkl)
    exact ⟨q1, q2, q3, q4⟩) rfl
  refine enter Try.func24 Try.ntmps24 rfl rfl (h.start) ?_
  simp only [mkS]
  all_goals (refine k_seq ?_)
  all_goals refine k_region ?_
  all_goals refine j_box (fun x4 => ?_)
  all_goals refine j_box (fun x7 => ?_)
  all_goals refine j_alloc (fun x8 => ?_)
  all_goals refine l_nil ?_
  all_goals (refine k_seq ?_)
  all_goals refine k_region ?_
  all_goals refine j_load ?_
  all_goals (refine j_own (cFH (Hc := fun _ => []) (Fc := fun _ => []) (hc := fun w1 hw => refClone_c (hw.cl (.old .head)) (hw.cl (.old (.tail .head))) (by omega) (by omega))) (fun x11 => ?_); try (refine l_fact (fun h11 => ?_)))
  all_goals refine j_own0 (by first | exact Loud.convO (o_storeV ⟨{ (L.getD k NdV.zero).nd with prev := (((modv v (5 : Nat)).toNat : Nat) : Int) }, (L.getD k NdV.zero).xs, (L.getD k NdV.zero).ys⟩ (by exact rfl) (by exact rfl) rfl (by exact one_of rfl) (by repeat (first | exact OAt.head | apply OAt.tail)) (by omega) (by decide) rfl) (by intro x; simp only [setO]; exact rfl) | exact Loud.convO (o_storeV ⟨{ (L.getD k NdV.zero).nd with old := (((modv v (30 : Nat)).toNat : Nat) : Int) }, (L.getD k NdV.zero).xs, (L.getD k NdV.zero).ys⟩ (by exact rfl) (by exact rfl) rfl (by exact one_of rfl) (by repeat (first | exact OAt.head | apply OAt.tail)) (by omega) (by decide) rfl) (by intro x; simp only [setO]; exact rfl) | exact (lSF fun _ => o_store (by exact rfl) (by repeat (first | exact At.head | apply At.tail)) (by conv => { lhs; whnf }) (by exact rfl) (by exact one_of rfl) (by exact rfl) (by simp only [List.set_cons_succ, List.set_cons_zero]; exact rfl) (by simp only [setAt]; exact rfl)) | exact (lSF fun _ => o_storeAgg (by exact rfl) (by repeat (first | exact At.head | apply At.tail)) (by exact rfl) (by exact rfl) (by exact agg_of rfl) (by exact rfl) (by simp only [setAt]; exact rfl)) | exact (Loud.convO (o_storeR (by exact rfl) (by exact rfl) (by exact one_of rfl) (by repeat (first | exact OAt.head | apply OAt.tail)) (by omega)) (by intro x; simp only [setO]; exact rfl)) | exact (Loud.convO (o_storeB (by exact rfl) (by exact rfl) (by exact one_of rfl) (by repeat (first | exact OAt.head | apply OAt.tail)) (by omega)) (by intro x; simp only [setO]; exact rfl)) | exact (Loud.convO (o_storePv (by exact rfl) (by exact rfl) (by exact one_of rfl) (by repeat (first | exact OAt.head | apply OAt.tail)) (by omega)) (by intro x; simp only [setO]; exact rfl)) | exact (Loud.convO (o_storeP (by exact rfl) (by exact rfl) (by exact agg_of rfl) (by repeat (first | exact OAt.head | apply OAt.tail)) (by omega)) (by intro x; simp only [setO]; exact rfl))) (fun _ => ?_)
  all_goals refine l_nil ?_
  all_goals (refine k_seq ?_)
  all_goals refine k_region ?_
  all_goals refine j_move ?_
  all_goals refine j_fieldAddr ?_
  all_goals refine j_load ?_
  all_goals refine j_len ?_
  all_goals (refine j_own (cV (hc := fun w1 hw => by have := modN_c v L.length w1 h2 (by omega); rwa [hk] at this)) (fun x16 => ?_); try (refine l_fact (fun h16 => ?_)))
  all_goals refine j_assignL (fun _ => ?_)
  all_goals refine l_nil ?_
  all_goals (refine k_seq ?_)
  all_goals (refine k_seq ?_)
  all_goals refine k_region ?_
  all_goals refine j_move ?_
  all_goals (refine j_own (cV (hc := fun w1 hw => modN_c kind 7 w1 (by decide) (by decide))) (fun x18 => ?_); try (refine l_fact (fun h18 => ?_)))
  all_goals refine l_nil ?_
  all_goals (refine k_block ?_)
  all_goals (refine k_seq ?_)
  all_goals refine k_region ?_
  all_goals refine j_eql ?_
  all_goals refine j_assignL (fun _ => ?_)
  all_goals refine l_nil ?_
  all_goals
    refine k_cond (by exact rfl) (fun c19 => ?_) (fun c19 => ?_)
    · try (exact absurd c19 (by decide))
      all_goals (revert c19; (first | refine cv1 ?_ | refine cv3 ?_ | refine cv5 ?_ | refine cv7 ?_ | refine cv9 ?_ | refine cvb ?_ | refine cvd ?_ | skip); intro c19)
      all_goals refine k_region ?_
      all_goals refine j_move ?_
      all_goals refine j_fieldAddr ?_
      all_goals refine j_own0 (by first | exact Loud.convO (o_storeV ⟨{ (L.getD k NdV.zero).nd with prev := (((modv v (5 : Nat)).toNat : Nat) : Int) }, (L.getD k NdV.zero).xs, (L.getD k NdV.zero).ys⟩ (by exact rfl) (by exact rfl) rfl (by exact one_of rfl) (by repeat (first | exact OAt.head | apply OAt.tail)) (by omega) (by decide) rfl) (by intro x; simp only [setO]; exact rfl) | exact Loud.convO (o_storeV ⟨{ (L.getD k NdV.zero).nd with old := (((modv v (30 : Nat)).toNat : Nat) : Int) }, (L.getD k NdV.zero).xs, (L.getD k NdV.zero).ys⟩ (by exact rfl) (by exact rfl) rfl (by exact one_of rfl) (by repeat (first | exact OAt.head | apply OAt.tail)) (by omega) (by decide) rfl) (by intro x; simp only [setO]; exact rfl) | exact (lSF fun _ => o_store (by exact rfl) (by repeat (first | exact At.head | apply At.tail)) (by conv => { lhs; whnf }) (by exact rfl) (by exact one_of rfl) (by exact rfl) (by simp only [List.set_cons_succ, List.set_cons_zero]; exact rfl) (by simp only [setAt]; exact rfl)) | exact (lSF fun _ => o_storeAgg (by exact rfl) (by repeat (first | exact At.head | apply At.tail)) (by exact rfl) (by exact rfl) (by exact agg_of rfl) (by exact rfl) (by simp only [setAt]; exact rfl)) | exact (Loud.convO (o_storeR (by exact rfl) (by exact rfl) (by exact one_of rfl) (by repeat (first | exact OAt.head | apply OAt.tail)) (by omega)) (by intro x; simp only [setO]; exact rfl)) | exact (Loud.convO (o_storeB (by exact rfl) (by exact rfl) (by exact one_of rfl) (by repeat (first | exact OAt.head | apply OAt.tail)) (by omega)) (by intro x; simp only [setO]; exact rfl)) | exact (Loud.convO (o_storePv (by exact rfl) (by exact rfl) (by exact one_of rfl) (by repeat (first | exact OAt.head | apply OAt.tail)) (by omega)) (by intro x; simp only [setO]; exact rfl)) | exact (Loud.convO (o_storeP (by exact rfl) (by exact rfl) (by exact agg_of rfl) (by repeat (first | exact OAt.head | apply OAt.tail)) (by omega)) (by intro x; simp only [setO]; exact rfl))) (fun _ => ?_)
      all_goals refine l_nil ?_
      all_goals (refine k_blk ?_)
      all_goals (refine k_seq ?_)
      all_goals refine k_region ?_
      all_goals refine j_load ?_
      all_goals refine j_own0 (by first | exact Loud.convO (o_storeV ⟨{ (L.getD k NdV.zero).nd with prev := (((modv v (5 : Nat)).toNat : Nat) : Int) }, (L.getD k NdV.zero).xs, (L.getD k NdV.zero).ys⟩ (by exact rfl) (by exact rfl) rfl (by exact one_of rfl) (by repeat (first | exact OAt.head | apply OAt.tail)) (by omega) (by decide) rfl) (by intro x; simp only [setO]; exact rfl) | exact Loud.convO (o_storeV ⟨{ (L.getD k NdV.zero).nd with old := (((modv v (30 : Nat)).toNat : Nat) : Int) }, (L.getD k NdV.zero).xs, (L.getD k NdV.zero).ys⟩ (by exact rfl) (by exact rfl) rfl (by exact one_of rfl) (by repeat (first | exact OAt.head | apply OAt.tail)) (by omega) (by decide) rfl) (by intro x; simp only [setO]; exact rfl) | exact (lSF fun _ => o_store (by exact rfl) (by repeat (first | exact At.head | apply At.tail)) (by conv => { lhs; whnf }) (by exact rfl) (by exact one_of rfl) (by exact rfl) (by simp only [List.set_cons_succ, List.set_cons_zero]; exact rfl) (by simp only [setAt]; exact rfl)) | exact (lSF fun _ => o_storeAgg (by exact rfl) (by repeat (first | exact At.head | apply At.tail)) (by exact rfl) (by exact rfl) (by exact agg_of rfl) (by exact rfl) (by simp only [setAt]; exact rfl)) | exact (Loud.convO (o_storeR (by exact rfl) (by exact rfl) (by exact one_of rfl) (by repeat (first | exact OAt.head | apply OAt.tail)) (by omega)) (by intro x; simp only [setO]; exact rfl)) | exact (Loud.convO (o_storeB (by exact rfl) (by exact rfl) (by exact one_of rfl) (by repeat (first | exact OAt.head | apply OAt.tail)) (by omega)) (by intro x; simp only [setO]; exact rfl)) | exact (Loud.convO (o_storePv (by exact rfl) (by exact rfl) (by exact one_of rfl) (by repeat (first | exact OAt.head | apply OAt.tail)) (by omega)) (by intro x; simp only [setO]; exact rfl)) | exact (Loud.convO (o_storeP (by exact rfl) (by exact rfl) (by exact agg_of rfl) (by repeat (first | exact OAt.head | apply OAt.tail)) (by omega)) (by intro x; simp only [setO]; exact rfl))) (fun _ => ?_)
      all_goals refine l_nil ?_
      all_goals
        refine k_retvF Try.results24 (.cell (by exact rfl) (by repeat (first | exact At.head | apply At.tail)) (by exact agg_of rfl) .nil) (fun w hw => ?_)
        first | exact chg_ret hw g0 (by omega) (by first | omega | (simp; omega) | simp) | exact chg_ret hw g2 (by simp) (by omega) | exact chg_ret hw g3 (by simp) (by omega) | exact chg_ret hw g4 (by simp) (by omega)
    · try (exact absurd c19 (by decide))
      all_goals (revert c19; (first | refine cv2 ?_ | refine cv4 ?_ | refine cv6 ?_ | refine cv8 ?_ | refine cva ?_ | refine cvc ?_ | refine cve ?_ | skip); intro c19)
      all_goals (refine k_seq ?_)
      all_goals refine k_region ?_
      all_goals refine j_eql ?_
      all_goals refine j_assignL (fun _ => ?_)
      all_goals refine l_nil ?_
      all_goals
        refine k_cond (by exact rfl) (fun c23 => ?_) (fun c23 => ?_)
        · try (exact absurd c23 (by decide))
          all_goals (revert c23; (first | refine cv1 ?_ | refine cv3 ?_ | refine cv5 ?_ | refine cv7 ?_ | refine cv9 ?_ | refine cvb ?_ | refine cvd ?_ | skip); intro c23)
          all_goals refine k_region ?_
          all_goals refine j_fieldAddr ?_
          all_goals refine j_load ?_
          all_goals refine j_move ?_
          all_goals refine j_buildSlice (fun x28 => ?_)
          all_goals (refine j_append (fun x29 => ?_); try (refine l_fact (fun h29 => ?_)))
          all_goals refine j_fieldAddr ?_
          all_goals refine j_own0 (by first | exact Loud.convO (o_storeV ⟨{ (L.getD k NdV.zero).nd with prev := (((modv v (5 : Nat)).toNat : Nat) : Int) }, (L.getD k NdV.zero).xs, (L.getD k NdV.zero).ys⟩ (by exact rfl) (by exact rfl) rfl (by exact one_of rfl) (by repeat (first | exact OAt.head | apply OAt.tail)) (by omega) (by decide) rfl) (by intro x; simp only [setO]; exact rfl) | exact Loud.convO (o_storeV ⟨{ (L.getD k NdV.zero).nd with old := (((modv v (30 : Nat)).toNat : Nat) : Int) }, (L.getD k NdV.zero).xs, (L.getD k NdV.zero).ys⟩ (by exact rfl) (by exact rfl) rfl (by exact one_of rfl) (by repeat (first | exact OAt.head | apply OAt.tail)) (by omega) (by decide) rfl) (by intro x; simp only [setO]; exact rfl) | exact (lSF fun _ => o_store (by exact rfl) (by repeat (first | exact At.head | apply At.tail)) (by conv => { lhs; whnf }) (by exact rfl) (by exact one_of rfl) (by exact rfl) (by simp only [List.set_cons_succ, List.set_cons_zero]; exact rfl) (by simp only [setAt]; exact rfl)) | exact (lSF fun _ => o_storeAgg (by exact rfl) (by repeat (first | exact At.head | apply At.tail)) (by exact rfl) (by exact rfl) (by exact agg_of rfl) (by exact rfl) (by simp only [setAt]; exact rfl)) | exact (Loud.convO (o_storeR (by exact rfl) (by exact rfl) (by exact one_of rfl) (by repeat (first | exact OAt.head | apply OAt.tail)) (by omega)) (by intro x; simp only [setO]; exact rfl)) | exact (Loud.convO (o_storeB (by exact rfl) (by exact rfl) (by exact one_of rfl) (by repeat (first | exact OAt.head | apply OAt.tail)) (by omega)) (by intro x; simp only [setO]; exact rfl)) | exact (Loud.convO (o_storePv (by exact rfl) (by exact rfl) (by exact one_of rfl) (by repeat (first | exact OAt.head | apply OAt.tail)) (by omega)) (by intro x; simp only [setO]; exact rfl)) | exact (Loud.convO (o_storeP (by exact rfl) (by exact rfl) (by exact agg_of rfl) (by repeat (first | exact OAt.head | apply OAt.tail)) (by omega)) (by intro x; simp only [setO]; exact rfl))) (fun _ => ?_)
          all_goals refine l_nil ?_
          all_goals (refine k_blk ?_)
          all_goals (refine k_seq ?_)
          all_goals refine k_region ?_
          all_goals refine j_load ?_
          all_goals refine j_own0 (by first | exact Loud.convO (o_storeV ⟨{ (L.getD k NdV.zero).nd with prev := (((modv v (5 : Nat)).toNat : Nat) : Int) }, (L.getD k NdV.zero).xs, (L.getD k NdV.zero).ys⟩ (by exact rfl) (by exact rfl) rfl (by exact one_of rfl) (by repeat (first | exact OAt.head | apply OAt.tail)) (by omega) (by decide) rfl) (by intro x; simp only [setO]; exact rfl) | exact Loud.convO (o_storeV ⟨{ (L.getD k NdV.zero).nd with old := (((modv v (30 : Nat)).toNat : Nat) : Int) }, (L.getD k NdV.zero).xs, (L.getD k NdV.zero).ys⟩ (by exact rfl) (by exact rfl) rfl (by exact one_of rfl) (by repeat (first | exact OAt.head | apply OAt.tail)) (by omega) (by decide) rfl) (by intro x; simp only [setO]; exact rfl) | exact (lSF fun _ => o_store (by exact rfl) (by repeat (first | exact At.head | apply At.tail)) (by conv => { lhs; whnf }) (by exact rfl) (by exact one_of rfl) (by exact rfl) (by simp only [List.set_cons_succ, List.set_cons_zero]; exact rfl) (by simp only [setAt]; exact rfl)) | exact (lSF fun _ => o_storeAgg (by exact rfl) (by repeat (first | exact At.head | apply At.tail)) (by exact rfl) (by exact rfl) (by exact agg_of rfl) (by exact rfl) (by simp only [setAt]; exact rfl)) | exact (Loud.convO (o_storeR (by exact rfl) (by exact rfl) (by exact one_of rfl) (by repeat (first | exact OAt.head | apply OAt.tail)) (by omega)) (by intro x; simp only [setO]; exact rfl)) | exact (Loud.convO (o_storeB (by exact rfl) (by exact rfl) (by exact one_of rfl) (by repeat (first | exact OAt.head | apply OAt.tail)) (by omega)) (by intro x; simp only [setO]; exact rfl)) | exact (Loud.convO (o_storePv (by exact rfl) (by exact rfl) (by exact one_of rfl) (by repeat (first | exact OAt.head | apply OAt.tail)) (by omega)) (by intro x; simp only [setO]; exact rfl)) | exact (Loud.convO (o_storeP (by exact rfl) (by exact rfl) (by exact agg_of rfl) (by repeat (first | exact OAt.head | apply OAt.tail)) (by omega)) (by intro x; simp only [setO]; exact rfl))) (fun _ => ?_)
          all_goals refine l_nil ?_
          all_goals
            refine k_retvF Try.results24 (.cell (by exact rfl) (by repeat (first | exact At.head | apply At.tail)) (by exact agg_of rfl) .nil) (fun w hw => ?_)
            first | exact chg_ret hw g0 (by omega) (by first | omega | (simp; omega) | simp) | exact chg_ret hw g2 (by simp) (by omega) | exact chg_ret hw g3 (by simp) (by omega) | exact chg_ret hw g4 (by simp) (by omega)
        · try (exact absurd c23 (by decide))
          all_goals (revert c23; (first | refine cv2 ?_ | refine cv4 ?_ | refine cv6 ?_ | refine cv8 ?_ | refine cva ?_ | refine cvc ?_ | refine cve ?_ | skip); intro c23)
          all_goals (refine k_seq ?_)
          all_goals refine k_region ?_
          all_goals refine j_eql ?_
          all_goals refine j_assignL (fun _ => ?_)
          all_goals refine l_nil ?_
          all_goals
            refine k_cond (by exact rfl) (fun c31 => ?_) (fun c31 => ?_)
            · try (exact absurd c31 (by decide))
              all_goals (revert c31; (first | refine cv1 ?_ | refine cv3 ?_ | refine cv5 ?_ | refine cv7 ?_ | refine cv9 ?_ | refine cvb ?_ | refine cvd ?_ | skip); intro c31)
              all_goals refine k_region ?_
              all_goals refine j_fieldAddr ?_
              all_goals refine j_load ?_
              all_goals refine j_load ?_
              all_goals refine j_buildSlice (fun x36 => ?_)
              all_goals (refine j_own (Loud.convOF (o_appV1 ⟨n, xs, ys⟩ (by exact rfl) (by exact rfl) (by repeat (first | exact OAt.head | apply OAt.tail)) rfl (by first | exact .new .head | exact .new (.tail .head) | exact .new (.tail (.tail .head)) | exact .new (.tail (.tail (.tail .head))) | exact .new (.tail (.tail (.tail (.tail .head)))) | exact .new (.tail (.tail (.tail (.tail (.tail .head))))) | exact .new (.tail (.tail (.tail (.tail (.tail (.tail .head)))))) | exact .new (.tail (.tail (.tail (.tail (.tail (.tail (.tail .head))))))) | exact .new (.tail (.tail (.tail (.tail (.tail (.tail (.tail (.tail .head)))))))) | exact .new (.tail (.tail (.tail (.tail (.tail (.tail (.tail (.tail (.tail .head))))))))) | exact .old .head | exact .old (.tail .head) | exact .old (.tail (.tail .head)) | exact .old (.tail (.tail (.tail .head))) | exact .old (.tail (.tail (.tail (.tail .head)))) | exact .old (.tail (.tail (.tail (.tail (.tail .head))))) | exact .own .head | exact .own (.tail .head) | exact .own (.tail (.tail .head)) | exact .own (.tail (.tail (.tail .head))) | exact .own (.tail (.tail (.tail (.tail .head)))) | exact .own (.tail (.tail (.tail (.tail (.tail .head))))) | exact .own (.tail (.tail (.tail (.tail (.tail (.tail .head)))))) | exact .own (.tail (.tail (.tail (.tail (.tail (.tail (.tail .head)))))))) (by exact elem_nodeT rfl) rfl (by exact sl_of rfl) (by omega)) (by intro x; simp only [setO]; exact rfl)) (fun x37 => ?_); try (refine l_fact (fun h37 => ?_)))
              all_goals refine j_fieldAddr ?_
              all_goals refine j_own0 (by first | exact Loud.convO (o_storeV ⟨{ (L.getD k NdV.zero).nd with prev := (((modv v (5 : Nat)).toNat : Nat) : Int) }, (L.getD k NdV.zero).xs, (L.getD k NdV.zero).ys⟩ (by exact rfl) (by exact rfl) rfl (by exact one_of rfl) (by repeat (first | exact OAt.head | apply OAt.tail)) (by omega) (by decide) rfl) (by intro x; simp only [setO]; exact rfl) | exact Loud.convO (o_storeV ⟨{ (L.getD k NdV.zero).nd with old := (((modv v (30 : Nat)).toNat : Nat) : Int) }, (L.getD k NdV.zero).xs, (L.getD k NdV.zero).ys⟩ (by exact rfl) (by exact rfl) rfl (by exact one_of rfl) (by repeat (first | exact OAt.head | apply OAt.tail)) (by omega) (by decide) rfl) (by intro x; simp only [setO]; exact rfl) | exact (lSF fun _ => o_store (by exact rfl) (by repeat (first | exact At.head | apply At.tail)) (by conv => { lhs; whnf }) (by exact rfl) (by exact one_of rfl) (by exact rfl) (by simp only [List.set_cons_succ, List.set_cons_zero]; exact rfl) (by simp only [setAt]; exact rfl)) | exact (lSF fun _ => o_storeAgg (by exact rfl) (by repeat (first | exact At.head | apply At.tail)) (by exact rfl) (by exact rfl) (by exact agg_of rfl) (by exact rfl) (by simp only [setAt]; exact rfl)) | exact (Loud.convO (o_storeR (by exact rfl) (by exact rfl) (by exact one_of rfl) (by repeat (first | exact OAt.head | apply OAt.tail)) (by omega)) (by intro x; simp only [setO]; exact rfl)) | exact (Loud.convO (o_storeB (by exact rfl) (by exact rfl) (by exact one_of rfl) (by repeat (first | exact OAt.head | apply OAt.tail)) (by omega)) (by intro x; simp only [setO]; exact rfl)) | exact (Loud.convO (o_storePv (by exact rfl) (by exact rfl) (by exact one_of rfl) (by repeat (first | exact OAt.head | apply OAt.tail)) (by omega)) (by intro x; simp only [setO]; exact rfl)) | exact (Loud.convO (o_storeP (by exact rfl) (by exact rfl) (by exact agg_of rfl) (by repeat (first | exact OAt.head | apply OAt.tail)) (by omega)) (by intro x; simp only [setO]; exact rfl))) (fun _ => ?_)
              all_goals refine l_nil ?_
              all_goals (refine k_blk ?_)
              all_goals (refine k_seq ?_)
              all_goals refine k_region ?_
              all_goals refine j_load ?_
              all_goals refine j_own0 (by first | exact Loud.convO (o_storeV ⟨{ (L.getD k NdV.zero).nd with prev := (((modv v (5 : Nat)).toNat : Nat) : Int) }, (L.getD k NdV.zero).xs, (L.getD k NdV.zero).ys⟩ (by exact rfl) (by exact rfl) rfl (by exact one_of rfl) (by repeat (first | exact OAt.head | apply OAt.tail)) (by omega) (by decide) rfl) (by intro x; simp only [setO]; exact rfl) | exact Loud.convO (o_storeV ⟨{ (L.getD k NdV.zero).nd with old := (((modv v (30 : Nat)).toNat : Nat) : Int) }, (L.getD k NdV.zero).xs, (L.getD k NdV.zero).ys⟩ (by exact rfl) (by exact rfl) rfl (by exact one_of rfl) (by repeat (first | exact OAt.head | apply OAt.tail)) (by omega) (by decide) rfl) (by intro x; simp only [setO]; exact rfl) | exact (lSF fun _ => o_store (by exact rfl) (by repeat (first | exact At.head | apply At.tail)) (by conv => { lhs; whnf }) (by exact rfl) (by exact one_of rfl) (by exact rfl) (by simp only [List.set_cons_succ, List.set_cons_zero]; exact rfl) (by simp only [setAt]; exact rfl)) | exact (lSF fun _ => o_storeAgg (by exact rfl) (by repeat (first | exact At.head | apply At.tail)) (by exact rfl) (by exact rfl) (by exact agg_of rfl) (by exact rfl) (by simp only [setAt]; exact rfl)) | exact (Loud.convO (o_storeR (by exact rfl) (by exact rfl) (by exact one_of rfl) (by repeat (first | exact OAt.head | apply OAt.tail)) (by omega)) (by intro x; simp only [setO]; exact rfl)) | exact (Loud.convO (o_storeB (by exact rfl) (by exact rfl) (by exact one_of rfl) (by repeat (first | exact OAt.head | apply OAt.tail)) (by omega)) (by intro x; simp only [setO]; exact rfl)) | exact (Loud.convO (o_storePv (by exact rfl) (by exact rfl) (by exact one_of rfl) (by repeat (first | exact OAt.head | apply OAt.tail)) (by omega)) (by intro x; simp only [setO]; exact rfl)) | exact (Loud.convO (o_storeP (by exact rfl) (by exact rfl) (by exact agg_of rfl) (by repeat (first | exact OAt.head | apply OAt.tail)) (by omega)) (by intro x; simp only [setO]; exact rfl))) (fun _ => ?_)
              all_goals refine l_nil ?_
              all_goals
                refine k_retvF Try.results24 (.cell (by exact rfl) (by repeat (first | exact At.head | apply At.tail)) (by exact agg_of rfl) .nil) (fun w hw => ?_)
                first | exact chg_ret hw g0 (by omega) (by first | omega | (simp; omega) | simp) | exact chg_ret hw g2 (by simp) (by omega) | exact chg_ret hw g3 (by simp) (by omega) | exact chg_ret hw g4 (by simp) (by omega)
            · try (exact absurd c31 (by decide))
              all_goals (revert c31; (first | refine cv2 ?_ | refine cv4 ?_ | refine cv6 ?_ | refine cv8 ?_ | refine cva ?_ | refine cvc ?_ | refine cve ?_ | skip); intro c31)
              all_goals (refine k_seq ?_)
              all_goals refine k_region ?_
              all_goals refine j_eql ?_
              all_goals refine j_assignL (fun _ => ?_)
              all_goals refine l_nil ?_
              all_goals
                refine k_cond (by exact rfl) (fun c39 => ?_) (fun c39 => ?_)
                · try (exact absurd c39 (by decide))
                  all_goals (revert c39; (first | refine cv1 ?_ | refine cv3 ?_ | refine cv5 ?_ | refine cv7 ?_ | refine cv9 ?_ | refine cvb ?_ | refine cvd ?_ | skip); intro c39)
                  all_goals refine k_region ?_
                  all_goals refine j_fieldAddr ?_
                  all_goals refine j_load ?_
                  all_goals refine j_move ?_
                  all_goals refine j_sliceH (fun x44 => ?_)
                  all_goals refine j_fieldAddr ?_
                  all_goals refine j_own0 (by first | exact Loud.convO (o_storeV ⟨{ (L.getD k NdV.zero).nd with prev := (((modv v (5 : Nat)).toNat : Nat) : Int) }, (L.getD k NdV.zero).xs, (L.getD k NdV.zero).ys⟩ (by exact rfl) (by exact rfl) rfl (by exact one_of rfl) (by repeat (first | exact OAt.head | apply OAt.tail)) (by omega) (by decide) rfl) (by intro x; simp only [setO]; exact rfl) | exact Loud.convO (o_storeV ⟨{ (L.getD k NdV.zero).nd with old := (((modv v (30 : Nat)).toNat : Nat) : Int) }, (L.getD k NdV.zero).xs, (L.getD k NdV.zero).ys⟩ (by exact rfl) (by exact rfl) rfl (by exact one_of rfl) (by repeat (first | exact OAt.head | apply OAt.tail)) (by omega) (by decide) rfl) (by intro x; simp only [setO]; exact rfl) | exact (lSF fun _ => o_store (by exact rfl) (by repeat (first | exact At.head | apply At.tail)) (by conv => { lhs; whnf }) (by exact rfl) (by exact one_of rfl) (by exact rfl) (by simp only [List.set_cons_succ, List.set_cons_zero]; exact rfl) (by simp only [setAt]; exact rfl)) | exact (lSF fun _ => o_storeAgg (by exact rfl) (by repeat (first | exact At.head | apply At.tail)) (by exact rfl) (by exact rfl) (by exact agg_of rfl) (by exact rfl) (by simp only [setAt]; exact rfl)) | exact (Loud.convO (o_storeR (by exact rfl) (by exact rfl) (by exact one_of rfl) (by repeat (first | exact OAt.head | apply OAt.tail)) (by omega)) (by intro x; simp only [setO]; exact rfl)) | exact (Loud.convO (o_storeB (by exact rfl) (by exact rfl) (by exact one_of rfl) (by repeat (first | exact OAt.head | apply OAt.tail)) (by omega)) (by intro x; simp only [setO]; exact rfl)) | exact (Loud.convO (o_storePv (by exact rfl) (by exact rfl) (by exact one_of rfl) (by repeat (first | exact OAt.head | apply OAt.tail)) (by omega)) (by intro x; simp only [setO]; exact rfl)) | exact (Loud.convO (o_storeP (by exact rfl) (by exact rfl) (by exact agg_of rfl) (by repeat (first | exact OAt.head | apply OAt.tail)) (by omega)) (by intro x; simp only [setO]; exact rfl))) (fun _ => ?_)
                  all_goals refine l_nil ?_
                  all_goals (refine k_blk ?_)
                  all_goals (refine k_seq ?_)
                  all_goals refine k_region ?_
                  all_goals refine j_load ?_
                  all_goals refine j_own0 (by first | exact Loud.convO (o_storeV ⟨{ (L.getD k NdV.zero).nd with prev := (((modv v (5 : Nat)).toNat : Nat) : Int) }, (L.getD k NdV.zero).xs, (L.getD k NdV.zero).ys⟩ (by exact rfl) (by exact rfl) rfl (by exact one_of rfl) (by repeat (first | exact OAt.head | apply OAt.tail)) (by omega) (by decide) rfl) (by intro x; simp only [setO]; exact rfl) | exact Loud.convO (o_storeV ⟨{ (L.getD k NdV.zero).nd with old := (((modv v (30 : Nat)).toNat : Nat) : Int) }, (L.getD k NdV.zero).xs, (L.getD k NdV.zero).ys⟩ (by exact rfl) (by exact rfl) rfl (by exact one_of rfl) (by repeat (first | exact OAt.head | apply OAt.tail)) (by omega) (by decide) rfl) (by intro x; simp only [setO]; exact rfl) | exact (lSF fun _ => o_store (by exact rfl) (by repeat (first | exact At.head | apply At.tail)) (by conv => { lhs; whnf }) (by exact rfl) (by exact one_of rfl) (by exact rfl) (by simp only [List.set_cons_succ, List.set_cons_zero]; exact rfl) (by simp only [setAt]; exact rfl)) | exact (lSF fun _ => o_storeAgg (by exact rfl) (by repeat (first | exact At.head | apply At.tail)) (by exact rfl) (by exact rfl) (by exact agg_of rfl) (by exact rfl) (by simp only [setAt]; exact rfl)) | exact (Loud.convO (o_storeR (by exact rfl) (by exact rfl) (by exact one_of rfl) (by repeat (first | exact OAt.head | apply OAt.tail)) (by omega)) (by intro x; simp only [setO]; exact rfl)) | exact (Loud.convO (o_storeB (by exact rfl) (by exact rfl) (by exact one_of rfl) (by repeat (first | exact OAt.head | apply OAt.tail)) (by omega)) (by intro x; simp only [setO]; exact rfl)) | exact (Loud.convO (o_storePv (by exact rfl) (by exact rfl) (by exact one_of rfl) (by repeat (first | exact OAt.head | apply OAt.tail)) (by omega)) (by intro x; simp only [setO]; exact rfl)) | exact (Loud.convO (o_storeP (by exact rfl) (by exact rfl) (by exact agg_of rfl) (by repeat (first | exact OAt.head | apply OAt.tail)) (by omega)) (by intro x; simp only [setO]; exact rfl))) (fun _ => ?_)
                  all_goals refine l_nil ?_
                  all_goals
                    refine k_retvF Try.results24 (.cell (by exact rfl) (by repeat (first | exact At.head | apply At.tail)) (by exact agg_of rfl) .nil) (fun w hw => ?_)
                    first | exact chg_ret hw g0 (by omega) (by first | omega | (simp; omega) | simp) | exact chg_ret hw g2 (by simp) (by omega) | exact chg_ret hw g3 (by simp) (by omega) | exact chg_ret hw g4 (by simp) (by omega)
                · try (exact absurd c39 (by decide))
                  all_goals (revert c39; (first | refine cv2 ?_ | refine cv4 ?_ | refine cv6 ?_ | refine cv8 ?_ | refine cva ?_ | refine cvc ?_ | refine cve ?_ | skip); intro c39)
                  all_goals (refine k_seq ?_)
                  all_goals refine k_region ?_
                  all_goals refine j_eql ?_
                  all_goals refine j_assignL (fun _ => ?_)
                  all_goals refine l_nil ?_
                  all_goals
                    refine k_cond (by exact rfl) (fun c46 => ?_) (fun c46 => ?_)
                    · try (exact absurd c46 (by decide))
                      all_goals (revert c46; (first | refine cv1 ?_ | refine cv3 ?_ | refine cv5 ?_ | refine cv7 ?_ | refine cv9 ?_ | refine cvb ?_ | refine cvd ?_ | skip); intro c46)
                      all_goals refine k_drawF (.one 0 [] (.one 1 [] (.one 2 [] (.one 3 [] (.one 4 [1] (.one 5 [] (.one 6 [] (.one 7 [] .nil)))))))) ?_
                      all_goals (refine r_fieldAddr (i := 0) ?_)
                      all_goals (refine r_load (i := 1) ?_)
                      all_goals (refine r_move (i := 2) ?_)
                      all_goals (refine r_move (i := 3) ?_)
                      all_goals ((refine r_own (i := 4) (hq := (cV (hc := fun w1 hw => modN_c v 5 w1 (by decide) (by decide)))) (hfire := (fun _ => by first | (refine FireAll.cons (by first | exact a_load | exact a_un) ?_; exact FireAll.nil) | (refine fireall_fact ?_; refine FireAll.cons (by first | exact a_load | exact a_un) ?_; exact FireAll.nil))) (h := fun x52 => ?_); try (refine r_fact (fun h52 => ?_))))
                      all_goals (refine r_indexAddr (i := 5) ?_)
                      all_goals (refine r_fieldAddr (i := 6) ?_)
                      all_goals (refine r_own0 (i := 7) (hq := (by first | exact Loud.convO (o_storeV ⟨{ (L.getD k NdV.zero).nd with prev := (((modv v (5 : Nat)).toNat : Nat) : Int) }, (L.getD k NdV.zero).xs, (L.getD k NdV.zero).ys⟩ (by exact rfl) (by exact rfl) rfl (by exact one_of rfl) (by repeat (first | exact OAt.head | apply OAt.tail)) (by omega) (by decide) rfl) (by intro x; simp only [setO]; exact rfl) | exact Loud.convO (o_storeV ⟨{ (L.getD k NdV.zero).nd with old := (((modv v (30 : Nat)).toNat : Nat) : Int) }, (L.getD k NdV.zero).xs, (L.getD k NdV.zero).ys⟩ (by exact rfl) (by exact rfl) rfl (by exact one_of rfl) (by repeat (first | exact OAt.head | apply OAt.tail)) (by omega) (by decide) rfl) (by intro x; simp only [setO]; exact rfl) | exact (lSF fun _ => o_store (by exact rfl) (by repeat (first | exact At.head | apply At.tail)) (by conv => { lhs; whnf }) (by exact rfl) (by exact one_of rfl) (by exact rfl) (by simp only [List.set_cons_succ, List.set_cons_zero]; exact rfl) (by simp only [setAt]; exact rfl)) | exact (lSF fun _ => o_storeAgg (by exact rfl) (by repeat (first | exact At.head | apply At.tail)) (by exact rfl) (by exact rfl) (by exact agg_of rfl) (by exact rfl) (by simp only [setAt]; exact rfl)) | exact (Loud.convO (o_storeR (by exact rfl) (by exact rfl) (by exact one_of rfl) (by repeat (first | exact OAt.head | apply OAt.tail)) (by omega)) (by intro x; simp only [setO]; exact rfl)) | exact (Loud.convO (o_storeB (by exact rfl) (by exact rfl) (by exact one_of rfl) (by repeat (first | exact OAt.head | apply OAt.tail)) (by omega)) (by intro x; simp only [setO]; exact rfl)) | exact (Loud.convO (o_storePv (by exact rfl) (by exact rfl) (by exact one_of rfl) (by repeat (first | exact OAt.head | apply OAt.tail)) (by omega)) (by intro x; simp only [setO]; exact rfl)) | exact (Loud.convO (o_storeP (by exact rfl) (by exact rfl) (by exact agg_of rfl) (by repeat (first | exact OAt.head | apply OAt.tail)) (by omega)) (by intro x; simp only [setO]; exact rfl)))) (hfire := (fun _ => .nil)) (h := fun _ => ?_))
                      all_goals refine r_fin ?_
                      all_goals (refine k_blk ?_)
                      all_goals (refine k_seq ?_)
                      all_goals refine k_region ?_
                      all_goals refine j_load ?_
                      all_goals refine j_own0 (by first | exact Loud.convO (o_storeV ⟨{ (L.getD k NdV.zero).nd with prev := (((modv v (5 : Nat)).toNat : Nat) : Int) }, (L.getD k NdV.zero).xs, (L.getD k NdV.zero).ys⟩ (by exact rfl) (by exact rfl) rfl (by exact one_of rfl) (by repeat (first | exact OAt.head | apply OAt.tail)) (by omega) (by decide) rfl) (by intro x; simp only [setO]; exact rfl) | exact Loud.convO (o_storeV ⟨{ (L.getD k NdV.zero).nd with old := (((modv v (30 : Nat)).toNat : Nat) : Int) }, (L.getD k NdV.zero).xs, (L.getD k NdV.zero).ys⟩ (by exact rfl) (by exact rfl) rfl (by exact one_of rfl) (by repeat (first | exact OAt.head | apply OAt.tail)) (by omega) (by decide) rfl) (by intro x; simp only [setO]; exact rfl) | exact (lSF fun _ => o_store (by exact rfl) (by repeat (first | exact At.head | apply At.tail)) (by conv => { lhs; whnf }) (by exact rfl) (by exact one_of rfl) (by exact rfl) (by simp only [List.set_cons_succ, List.set_cons_zero]; exact rfl) (by simp only [setAt]; exact rfl)) | exact (lSF fun _ => o_storeAgg (by exact rfl) (by repeat (first | exact At.head | apply At.tail)) (by exact rfl) (by exact rfl) (by exact agg_of rfl) (by exact rfl) (by simp only [setAt]; exact rfl)) | exact (Loud.convO (o_storeR (by exact rfl) (by exact rfl) (by exact one_of rfl) (by repeat (first | exact OAt.head | apply OAt.tail)) (by omega)) (by intro x; simp only [setO]; exact rfl)) | exact (Loud.convO (o_storeB (by exact rfl) (by exact rfl) (by exact one_of rfl) (by repeat (first | exact OAt.head | apply OAt.tail)) (by omega)) (by intro x; simp only [setO]; exact rfl)) | exact (Loud.convO (o_storePv (by exact rfl) (by exact rfl) (by exact one_of rfl) (by repeat (first | exact OAt.head | apply OAt.tail)) (by omega)) (by intro x; simp only [setO]; exact rfl)) | exact (Loud.convO (o_storeP (by exact rfl) (by exact rfl) (by exact agg_of rfl) (by repeat (first | exact OAt.head | apply OAt.tail)) (by omega)) (by intro x; simp only [setO]; exact rfl))) (fun _ => ?_)
                      all_goals refine l_nil ?_
                      all_goals
                        refine k_retvF Try.results24 (.cell (by exact rfl) (by repeat (first | exact At.head | apply At.tail)) (by exact agg_of rfl) .nil) (fun w hw => ?_)
                        first | exact chg_ret hw g0 (by omega) (by first | omega | (simp; omega) | simp) | exact chg_ret hw g2 (by simp) (by omega) | exact chg_ret hw g3 (by simp) (by omega) | exact chg_ret hw g4 (by simp) (by omega)
                    · try (exact absurd c46 (by decide))
                      all_goals (revert c46; (first | refine cv2 ?_ | refine cv4 ?_ | refine cv6 ?_ | refine cv8 ?_ | refine cva ?_ | refine cvc ?_ | refine cve ?_ | skip); intro c46)
                      all_goals (refine k_seq ?_)
                      all_goals refine k_region ?_
                      all_goals refine j_eql ?_
                      all_goals refine j_assignL (fun _ => ?_)
                      all_goals refine l_nil ?_
                      all_goals
                        refine k_cond (by exact rfl) (fun c55 => ?_) (fun c55 => ?_)
                        · try (exact absurd c55 (by decide))
                          all_goals (revert c55; (first | refine cv1 ?_ | refine cv3 ?_ | refine cv5 ?_ | refine cv7 ?_ | refine cv9 ?_ | refine cvb ?_ | refine cvd ?_ | skip); intro c55)
                          all_goals refine k_drawF (.one 0 [] (.one 1 [] (.one 2 [] (.one 3 [] (.one 4 [1] (.one 5 [] (.one 6 [] (.one 7 [] .nil)))))))) ?_
                          all_goals (refine r_fieldAddr (i := 0) ?_)
                          all_goals (refine r_load (i := 1) ?_)
                          all_goals (refine r_move (i := 2) ?_)
                          all_goals (refine r_move (i := 3) ?_)
                          all_goals ((refine r_own (i := 4) (hq := (cV (hc := fun w1 hw => modN_c v 30 w1 (by decide) (by decide)))) (hfire := (fun _ => by first | (refine FireAll.cons (by first | exact a_load | exact a_un) ?_; exact FireAll.nil) | (refine fireall_fact ?_; refine FireAll.cons (by first | exact a_load | exact a_un) ?_; exact FireAll.nil))) (h := fun x61 => ?_); try (refine r_fact (fun h61 => ?_))))
                          all_goals (refine r_indexAddr (i := 5) ?_)
                          all_goals (refine r_fieldAddr (i := 6) ?_)
                          all_goals (refine r_own0 (i := 7) (hq := (by first | exact Loud.convO (o_storeV ⟨{ (L.getD k NdV.zero).nd with prev := (((modv v (5 : Nat)).toNat : Nat) : Int) }, (L.getD k NdV.zero).xs, (L.getD k NdV.zero).ys⟩ (by exact rfl) (by exact rfl) rfl (by exact one_of rfl) (by repeat (first | exact OAt.head | apply OAt.tail)) (by omega) (by decide) rfl) (by intro x; simp only [setO]; exact rfl) | exact Loud.convO (o_storeV ⟨{ (L.getD k NdV.zero).nd with old := (((modv v (30 : Nat)).toNat : Nat) : Int) }, (L.getD k NdV.zero).xs, (L.getD k NdV.zero).ys⟩ (by exact rfl) (by exact rfl) rfl (by exact one_of rfl) (by repeat (first | exact OAt.head | apply OAt.tail)) (by omega) (by decide) rfl) (by intro x; simp only [setO]; exact rfl) | exact (lSF fun _ => o_store (by exact rfl) (by repeat (first | exact At.head | apply At.tail)) (by conv => { lhs; whnf }) (by exact rfl) (by exact one_of rfl) (by exact rfl) (by simp only [List.set_cons_succ, List.set_cons_zero]; exact rfl) (by simp only [setAt]; exact rfl)) | exact (lSF fun _ => o_storeAgg (by exact rfl) (by repeat (first | exact At.head | apply At.tail)) (by exact rfl) (by exact rfl) (by exact agg_of rfl) (by exact rfl) (by simp only [setAt]; exact rfl)) | exact (Loud.convO (o_storeR (by exact rfl) (by exact rfl) (by exact one_of rfl) (by repeat (first | exact OAt.head | apply OAt.tail)) (by omega)) (by intro x; simp only [setO]; exact rfl)) | exact (Loud.convO (o_storeB (by exact rfl) (by exact rfl) (by exact one_of rfl) (by repeat (first | exact OAt.head | apply OAt.tail)) (by omega)) (by intro x; simp only [setO]; exact rfl)) | exact (Loud.convO (o_storePv (by exact rfl) (by exact rfl) (by exact one_of rfl) (by repeat (first | exact OAt.head | apply OAt.tail)) (by omega)) (by intro x; simp only [setO]; exact rfl)) | exact (Loud.convO (o_storeP (by exact rfl) (by exact rfl) (by exact agg_of rfl) (by repeat (first | exact OAt.head | apply OAt.tail)) (by omega)) (by intro x; simp only [setO]; exact rfl)))) (hfire := (fun _ => .nil)) (h := fun _ => ?_))
                          all_goals refine r_fin ?_
                          all_goals (refine k_blk ?_)
                          all_goals (refine k_seq ?_)
                          all_goals refine k_region ?_
                          all_goals refine j_load ?_
                          all_goals refine j_own0 (by first | exact Loud.convO (o_storeV ⟨{ (L.getD k NdV.zero).nd with prev := (((modv v (5 : Nat)).toNat : Nat) : Int) }, (L.getD k NdV.zero).xs, (L.getD k NdV.zero).ys⟩ (by exact rfl) (by exact rfl) rfl (by exact one_of rfl) (by repeat (first | exact OAt.head | apply OAt.tail)) (by omega) (by decide) rfl) (by intro x; simp only [setO]; exact rfl) | exact Loud.convO (o_storeV ⟨{ (L.getD k NdV.zero).nd with old := (((modv v (30 : Nat)).toNat : Nat) : Int) }, (L.getD k NdV.zero).xs, (L.getD k NdV.zero).ys⟩ (by exact rfl) (by exact rfl) rfl (by exact one_of rfl) (by repeat (first | exact OAt.head | apply OAt.tail)) (by omega) (by decide) rfl) (by intro x; simp only [setO]; exact rfl) | exact (lSF fun _ => o_store (by exact rfl) (by repeat (first | exact At.head | apply At.tail)) (by conv => { lhs; whnf }) (by exact rfl) (by exact one_of rfl) (by exact rfl) (by simp only [List.set_cons_succ, List.set_cons_zero]; exact rfl) (by simp only [setAt]; exact rfl)) | exact (lSF fun _ => o_storeAgg (by exact rfl) (by repeat (first | exact At.head | apply At.tail)) (by exact rfl) (by exact rfl) (by exact agg_of rfl) (by exact rfl) (by simp only [setAt]; exact rfl)) | exact (Loud.convO (o_storeR (by exact rfl) (by exact rfl) (by exact one_of rfl) (by repeat (first | exact OAt.head | apply OAt.tail)) (by omega)) (by intro x; simp only [setO]; exact rfl)) | exact (Loud.convO (o_storeB (by exact rfl) (by exact rfl) (by exact one_of rfl) (by repeat (first | exact OAt.head | apply OAt.tail)) (by omega)) (by intro x; simp only [setO]; exact rfl)) | exact (Loud.convO (o_storePv (by exact rfl) (by exact rfl) (by exact one_of rfl) (by repeat (first | exact OAt.head | apply OAt.tail)) (by omega)) (by intro x; simp only [setO]; exact rfl)) | exact (Loud.convO (o_storeP (by exact rfl) (by exact rfl) (by exact agg_of rfl) (by repeat (first | exact OAt.head | apply OAt.tail)) (by omega)) (by intro x; simp only [setO]; exact rfl))) (fun _ => ?_)
                          all_goals refine l_nil ?_
                          all_goals
                            refine k_retvF Try.results24 (.cell (by exact rfl) (by repeat (first | exact At.head | apply At.tail)) (by exact agg_of rfl) .nil) (fun w hw => ?_)
                            first | exact chg_ret hw g0 (by omega) (by first | omega | (simp; omega) | simp) | exact chg_ret hw g2 (by simp) (by omega) | exact chg_ret hw g3 (by simp) (by omega) | exact chg_ret hw g4 (by simp) (by omega)
                        · try (exact absurd c55 (by decide))
                          all_goals (revert c55; (first | refine cv2 ?_ | refine cv4 ?_ | refine cv6 ?_ | refine cv8 ?_ | refine cva ?_ | refine cvc ?_ | refine cve ?_ | skip); intro c55)
                          all_goals (refine k_seq ?_)
                          all_goals refine k_region ?_
                          all_goals refine j_eql ?_
                          all_goals refine j_assignL (fun _ => ?_)
                          all_goals refine l_nil ?_
                          all_goals
                            refine k_cond (by exact rfl) (fun c64 => ?_) (fun c64 => ?_)
                            · try (exact absurd c64 (by decide))
                              all_goals (revert c64; (first | refine cv1 ?_ | refine cv3 ?_ | refine cv5 ?_ | refine cv7 ?_ | refine cv9 ?_ | refine cvb ?_ | refine cvd ?_ | skip); intro c64)
                              all_goals (refine k_seq ?_)
                              all_goals refine k_region ?_
                              all_goals refine j_fieldAddr ?_
                              all_goals refine j_load ?_
                              all_goals refine j_len ?_
                              all_goals refine j_gtr ?_
                              all_goals refine l_nil ?_
                              all_goals
                                refine k_cond (by exact rfl) (fun c69 => ?_) (fun c69 => ?_)
                                · try (exact absurd c69 (by decide))
                                  all_goals (revert c69; (first | refine cv1 ?_ | refine cv3 ?_ | refine cv5 ?_ | refine cv7 ?_ | refine cv9 ?_ | refine cvb ?_ | refine cvd ?_ | skip); intro c69)
                                  all_goals refine k_region ?_
                                  all_goals refine j_fieldAddr ?_
                                  all_goals refine j_load ?_
                                  all_goals refine j_fieldAddr ?_
                                  all_goals refine j_load ?_
                                  all_goals refine j_len ?_
                                  all_goals refine j_dec ?_
                                  all_goals refine j_sliceH (fun x76 => ?_)
                                  all_goals refine j_fieldAddr ?_
                                  all_goals refine j_own0 (by first | exact Loud.convO (o_storeV ⟨{ (L.getD k NdV.zero).nd with prev := (((modv v (5 : Nat)).toNat : Nat) : Int) }, (L.getD k NdV.zero).xs, (L.getD k NdV.zero).ys⟩ (by exact rfl) (by exact rfl) rfl (by exact one_of rfl) (by repeat (first | exact OAt.head | apply OAt.tail)) (by omega) (by decide) rfl) (by intro x; simp only [setO]; exact rfl) | exact Loud.convO (o_storeV ⟨{ (L.getD k NdV.zero).nd with old := (((modv v (30 : Nat)).toNat : Nat) : Int) }, (L.getD k NdV.zero).xs, (L.getD k NdV.zero).ys⟩ (by exact rfl) (by exact rfl) rfl (by exact one_of rfl) (by repeat (first | exact OAt.head | apply OAt.tail)) (by omega) (by decide) rfl) (by intro x; simp only [setO]; exact rfl) | exact (lSF fun _ => o_store (by exact rfl) (by repeat (first | exact At.head | apply At.tail)) (by conv => { lhs; whnf }) (by exact rfl) (by exact one_of rfl) (by exact rfl) (by simp only [List.set_cons_succ, List.set_cons_zero]; exact rfl) (by simp only [setAt]; exact rfl)) | exact (lSF fun _ => o_storeAgg (by exact rfl) (by repeat (first | exact At.head | apply At.tail)) (by exact rfl) (by exact rfl) (by exact agg_of rfl) (by exact rfl) (by simp only [setAt]; exact rfl)) | exact (Loud.convO (o_storeR (by exact rfl) (by exact rfl) (by exact one_of rfl) (by repeat (first | exact OAt.head | apply OAt.tail)) (by omega)) (by intro x; simp only [setO]; exact rfl)) | exact (Loud.convO (o_storeB (by exact rfl) (by exact rfl) (by exact one_of rfl) (by repeat (first | exact OAt.head | apply OAt.tail)) (by omega)) (by intro x; simp only [setO]; exact rfl)) | exact (Loud.convO (o_storePv (by exact rfl) (by exact rfl) (by exact one_of rfl) (by repeat (first | exact OAt.head | apply OAt.tail)) (by omega)) (by intro x; simp only [setO]; exact rfl)) | exact (Loud.convO (o_storeP (by exact rfl) (by exact rfl) (by exact agg_of rfl) (by repeat (first | exact OAt.head | apply OAt.tail)) (by omega)) (by intro x; simp only [setO]; exact rfl))) (fun _ => ?_)
                                  all_goals refine l_nil ?_
                                  all_goals (refine k_blk ?_)
                                  all_goals (refine k_seq ?_)
                                  all_goals refine k_region ?_
                                  all_goals refine j_load ?_
                                  all_goals refine j_own0 (by first | exact Loud.convO (o_storeV ⟨{ (L.getD k NdV.zero).nd with prev := (((modv v (5 : Nat)).toNat : Nat) : Int) }, (L.getD k NdV.zero).xs, (L.getD k NdV.zero).ys⟩ (by exact rfl) (by exact rfl) rfl (by exact one_of rfl) (by repeat (first | exact OAt.head | apply OAt.tail)) (by omega) (by decide) rfl) (by intro x; simp only [setO]; exact rfl) | exact Loud.convO (o_storeV ⟨{ (L.getD k NdV.zero).nd with old := (((modv v (30 : Nat)).toNat : Nat) : Int) }, (L.getD k NdV.zero).xs, (L.getD k NdV.zero).ys⟩ (by exact rfl) (by exact rfl) rfl (by exact one_of rfl) (by repeat (first | exact OAt.head | apply OAt.tail)) (by omega) (by decide) rfl) (by intro x; simp only [setO]; exact rfl) | exact (lSF fun _ => o_store (by exact rfl) (by repeat (first | exact At.head | apply At.tail)) (by conv => { lhs; whnf }) (by exact rfl) (by exact one_of rfl) (by exact rfl) (by simp only [List.set_cons_succ, List.set_cons_zero]; exact rfl) (by simp only [setAt]; exact rfl)) | exact (lSF fun _ => o_storeAgg (by exact rfl) (by repeat (first | exact At.head | apply At.tail)) (by exact rfl) (by exact rfl) (by exact agg_of rfl) (by exact rfl) (by simp only [setAt]; exact rfl)) | exact (Loud.convO (o_storeR (by exact rfl) (by exact rfl) (by exact one_of rfl) (by repeat (first | exact OAt.head | apply OAt.tail)) (by omega)) (by intro x; simp only [setO]; exact rfl)) | exact (Loud.convO (o_storeB (by exact rfl) (by exact rfl) (by exact one_of rfl) (by repeat (first | exact OAt.head | apply OAt.tail)) (by omega)) (by intro x; simp only [setO]; exact rfl)) | exact (Loud.convO (o_storePv (by exact rfl) (by exact rfl) (by exact one_of rfl) (by repeat (first | exact OAt.head | apply OAt.tail)) (by omega)) (by intro x; simp only [setO]; exact rfl)) | exact (Loud.convO (o_storeP (by exact rfl) (by exact rfl) (by exact agg_of rfl) (by repeat (first | exact OAt.head | apply OAt.tail)) (by omega)) (by intro x; simp only [setO]; exact rfl))) (fun _ => ?_)
                                  all_goals refine l_nil ?_
                                  all_goals
                                    refine k_retvF Try.results24 (.cell (by exact rfl) (by repeat (first | exact At.head | apply At.tail)) (by exact agg_of rfl) .nil) (fun w hw => ?_)
                                    first | exact chg_ret hw g0 (by omega) (by first | omega | (simp; omega) | simp) | exact chg_ret hw g2 (by simp) (by omega) | exact chg_ret hw g3 (by simp) (by omega) | exact chg_ret hw g4 (by simp) (by omega)
                                · try (exact absurd c69 (by decide))
                                  all_goals (revert c69; (first | refine cv2 ?_ | refine cv4 ?_ | refine cv6 ?_ | refine cv8 ?_ | refine cva ?_ | refine cvc ?_ | refine cve ?_ | skip); intro c69)
                                  all_goals (refine k_skip ?_)
                                  all_goals (refine k_blk ?_)
                                  all_goals (refine k_seq ?_)
                                  all_goals refine k_region ?_
                                  all_goals refine j_load ?_
                                  all_goals refine j_own0 (by first | exact Loud.convO (o_storeV ⟨{ (L.getD k NdV.zero).nd with prev := (((modv v (5 : Nat)).toNat : Nat) : Int) }, (L.getD k NdV.zero).xs, (L.getD k NdV.zero).ys⟩ (by exact rfl) (by exact rfl) rfl (by exact one_of rfl) (by repeat (first | exact OAt.head | apply OAt.tail)) (by omega) (by decide) rfl) (by intro x; simp only [setO]; exact rfl) | exact Loud.convO (o_storeV ⟨{ (L.getD k NdV.zero).nd with old := (((modv v (30 : Nat)).toNat : Nat) : Int) }, (L.getD k NdV.zero).xs, (L.getD k NdV.zero).ys⟩ (by exact rfl) (by exact rfl) rfl (by exact one_of rfl) (by repeat (first | exact OAt.head | apply OAt.tail)) (by omega) (by decide) rfl) (by intro x; simp only [setO]; exact rfl) | exact (lSF fun _ => o_store (by exact rfl) (by repeat (first | exact At.head | apply At.tail)) (by conv => { lhs; whnf }) (by exact rfl) (by exact one_of rfl) (by exact rfl) (by simp only [List.set_cons_succ, List.set_cons_zero]; exact rfl) (by simp only [setAt]; exact rfl)) | exact (lSF fun _ => o_storeAgg (by exact rfl) (by repeat (first | exact At.head | apply At.tail)) (by exact rfl) (by exact rfl) (by exact agg_of rfl) (by exact rfl) (by simp only [setAt]; exact rfl)) | exact (Loud.convO (o_storeR (by exact rfl) (by exact rfl) (by exact one_of rfl) (by repeat (first | exact OAt.head | apply OAt.tail)) (by omega)) (by intro x; simp only [setO]; exact rfl)) | exact (Loud.convO (o_storeB (by exact rfl) (by exact rfl) (by exact one_of rfl) (by repeat (first | exact OAt.head | apply OAt.tail)) (by omega)) (by intro x; simp only [setO]; exact rfl)) | exact (Loud.convO (o_storePv (by exact rfl) (by exact rfl) (by exact one_of rfl) (by repeat (first | exact OAt.head | apply OAt.tail)) (by omega)) (by intro x; simp only [setO]; exact rfl)) | exact (Loud.convO (o_storeP (by exact rfl) (by exact rfl) (by exact agg_of rfl) (by repeat (first | exact OAt.head | apply OAt.tail)) (by omega)) (by intro x; simp only [setO]; exact rfl))) (fun _ => ?_)
                                  all_goals refine l_nil ?_
                                  all_goals
                                    refine k_retvF Try.results24 (.cell (by exact rfl) (by repeat (first | exact At.head | apply At.tail)) (by exact agg_of rfl) .nil) (fun w hw => ?_)
                                    first | exact chg_ret hw g0 (by omega) (by first | omega | (simp; omega) | simp) | exact chg_ret hw g2 (by simp) (by omega) | exact chg_ret hw g3 (by simp) (by omega) | exact chg_ret hw g4 (by simp) (by omega)
                            · try (exact absurd c64 (by decide))
                              all_goals (revert c64; (first | refine cv2 ?_ | refine cv4 ?_ | refine cv6 ?_ | refine cv8 ?_ | refine cva ?_ | refine cvc ?_ | refine cve ?_ | skip); intro c64)
                              all_goals (refine k_skip ?_)
                              all_goals (refine k_blk ?_)
                              all_goals (refine k_seq ?_)
                              all_goals refine k_region ?_
                              all_goals refine j_load ?_
                              all_goals refine j_own0 (by first | exact Loud.convO (o_storeV ⟨{ (L.getD k NdV.zero).nd with prev := (((modv v (5 : Nat)).toNat : Nat) : Int) }, (L.getD k NdV.zero).xs, (L.getD k NdV.zero).ys⟩ (by exact rfl) (by exact rfl) rfl (by exact one_of rfl) (by repeat (first | exact OAt.head | apply OAt.tail)) (by omega) (by decide) rfl) (by intro x; simp only [setO]; exact rfl) | exact Loud.convO (o_storeV ⟨{ (L.getD k NdV.zero).nd with old := (((modv v (30 : Nat)).toNat : Nat) : Int) }, (L.getD k NdV.zero).xs, (L.getD k NdV.zero).ys⟩ (by exact rfl) (by exact rfl) rfl (by exact one_of rfl) (by repeat (first | exact OAt.head | apply OAt.tail)) (by omega) (by decide) rfl) (by intro x; simp only [setO]; exact rfl) | exact (lSF fun _ => o_store (by exact rfl) (by repeat (first | exact At.head | apply At.tail)) (by conv => { lhs; whnf }) (by exact rfl) (by exact one_of rfl) (by exact rfl) (by simp only [List.set_cons_succ, List.set_cons_zero]; exact rfl) (by simp only [setAt]; exact rfl)) | exact (lSF fun _ => o_storeAgg (by exact rfl) (by repeat (first | exact At.head | apply At.tail)) (by exact rfl) (by exact rfl) (by exact agg_of rfl) (by exact rfl) (by simp only [setAt]; exact rfl)) | exact (Loud.convO (o_storeR (by exact rfl) (by exact rfl) (by exact one_of rfl) (by repeat (first | exact OAt.head | apply OAt.tail)) (by omega)) (by intro x; simp only [setO]; exact rfl)) | exact (Loud.convO (o_storeB (by exact rfl) (by exact rfl) (by exact one_of rfl) (by repeat (first | exact OAt.head | apply OAt.tail)) (by omega)) (by intro x; simp only [setO]; exact rfl)) | exact (Loud.convO (o_storePv (by exact rfl) (by exact rfl) (by exact one_of rfl) (by repeat (first | exact OAt.head | apply OAt.tail)) (by omega)) (by intro x; simp only [setO]; exact rfl)) | exact (Loud.convO (o_storeP (by exact rfl) (by exact rfl) (by exact agg_of rfl) (by repeat (first | exact OAt.head | apply OAt.tail)) (by omega)) (by intro x; simp only [setO]; exact rfl))) (fun _ => ?_)
                              all_goals refine l_nil ?_
                              all_goals
                                refine k_retvF Try.results24 (.cell (by exact rfl) (by repeat (first | exact At.head | apply At.tail)) (by exact agg_of rfl) .nil) (fun w hw => ?_)
                                first | exact chg_ret hw g0 (by omega) (by first | omega | (simp; omega) | simp) | exact chg_ret hw g2 (by simp) (by omega) | exact chg_ret hw g3 (by simp) (by omega) | exact chg_ret hw g4 (by simp) (by omega)
end Go.Proofs.Ytmogngagpphnhaa
