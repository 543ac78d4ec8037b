/- Tombs: TombDown: the walk. -/
import Derived.Test.YthmagkjcangnfaaTo8
import Derived.Test.YthmagkjcangnfaaNest
import Derived.Test.YthmagkjcangnfaaJoin
set_option linter.unusedSimpArgs false
set_option linter.unusedVariables false
namespace Go.Ct
open Go Go.RowKit
section
variable {P : Program} {S : List (Nat × Value)} {w0 w w' : World} {M : List Nat} {H : List (Nat × Obj)} {A F : Fr} {O : List Ow} {d : Nat} {ty : TypeId} {pos : String} {af : Array Edge} {gd : Option (Nat × Bool)} {x y : Operand} {t t2 e : TypeId} {p a : Option Addr} {i m k c c2 : Nat}
theorem SF.dropHd {a1 : Option Addr × List Value} (h : SF w0 M H (a1 :: A) F O w) : SF w0 M H A F O w := ⟨h.st, fun f hf => h.old f (List.mem_cons_of_mem _ hf), h.new, h.own, h.dis⟩
/-- append of a part of a list. -/
theorem o_appW {l l2 l3 : List Pr} (hl : l ++ l2 = l3) (hcl : ∀ w, SF w0 M H A F O w → SF w0 M H ((a, prC l2) :: A) F O w) (hx : ev S x = .slice p m c) (hy : ev S y = .slice a k c2) (ho : OAt O i p (prC l) c e 2) (hm : l.length = m) (hk : l2.length = k)
    (he : ElemIs P t e [.string ⟨#[]⟩, .int .u64 0]) (ht2 : P.underlying t2 = some (.slice e)) (hb : m + k ≤ 549755813888) :
    Loud P S (SF w0 M H A F O) ⟨some d, .call { callee := .builtin .append, args := #[x, y], argTypes := #[t, t2] }, ty, pos, af, gd⟩ (Option Addr × Nat) (fun q => .slice q.1 l3.length q.2)
      (fun q w => l3.length ≤ q.2 ∧ SF w0 M H A F (setO O i ⟨q.1, prC l3, q.2, e, 2⟩) w) := by
  have := o_appP (P := P) (w0 := w0) (M := M) (H := H) (A := (a, prC l2) :: A) (F := F) (d := d) (ty := ty) (pos := pos) (af := af) (gd := gd) hx hy ho hm (.old .head) hk he ht2 hb
  subst hl hm hk
  rw [← List.length_append] at this
  exact ⟨fun w hw => (this.run w (hcl w hw)).mono fun _ _ hg => ⟨hg.1, hg.2.dropHd⟩⟩
end
end Go.Ct
namespace Go.Proofs.Ythmagkjcangnfaa
open Go.RowKit Go.Ct
def dropAt (R : List Pr) (k : Nat) : List Pr := R.take k ++ R.drop (k + 1)
theorem pos_at {R : List Pr} {k : Nat} (hs : SA R) (hk : k < R.length) : PosAt R (R.getD k (⟨#[]⟩, 0)).1 k := by
  have g := fun i j (hi : i < R.length) (hj : j < R.length) (hij : i < j) => by
    have := List.pairwise_iff_getElem.1 hs i j hi hj hij
    rw [← getD_get hi, ← getD_get hj] at this
    exact this
  refine ⟨by omega, fun j hj => g j k (by omega) hk hj, fun j h1 h2 => ?_⟩
  rcases Nat.lt_or_eq_of_le h1 with h | rfl
  · exact sless_asymm (g k j hk h2 h)
  · exact sless_irrefl _
theorem dropO_at {R : List Pr} {k : Nat} (hs : SA R) (hk : k < R.length) : dropO R (R.getD k (⟨#[]⟩, 0)).1 = dropAt R k := by
  rw [dropO_eq hs, drop_found hs (pos_at hs hk) hk rfl]; rfl
theorem findO_at {R : List Pr} {k : Nat} (hs : SA R) (hk : k < R.length) : (findO R (R.getD k (⟨#[]⟩, 0)).1).isSome = true := by
  rw [findO_eq hs, fnd_found (pos_at hs hk) hk rfl]; rfl
theorem dropAt_len {R : List Pr} {k : Nat} (hk : k < R.length) : (dropAt R k).length = R.length - 1 := by
  unfold dropAt; rw [List.length_append, List.length_take, List.length_drop]; omega
theorem dropAt_sa {R : List Pr} {k : Nat} (hs : SA R) (hk : k < R.length) : SA (dropAt R k) := by rw [← dropO_at hs hk]; exact dropO_sa hs _
theorem dropAt_short {R : List Pr} {k : Nat} (h : Short R) : Short (dropAt R k) := short_of fun q hq => by
  rcases List.mem_append.1 hq with hq | hq
  · exact short_all h q (List.mem_of_mem_take hq)
  · exact short_all h q (List.mem_of_mem_drop hq)
/-- The node of the remaining pairs. -/
def ndD (R : List Pr) (h p : Int) (y : Option Addr × Nat) : Nd := if R.length = 1 then { Nd.zero with kind := 5, hash := h, key := (R.getD 0 (⟨#[]⟩, 0)).1, val := (R.getD 0 (⟨#[]⟩, 0)).2 } else ln h p R y
def ndDL (R : List Pr) : List Pr := if R.length = 1 then [] else R
theorem ndD_ln {R : List Pr} {h p : Int} {y : Option Addr × Nat} (hl : R.length ≠ 1) : ndD R h p y = ln h p R y := if_neg hl
theorem ndD_one {R : List Pr} {h p : Int} {y : Option Addr × Nat} (hl : R.length = 1) : ndD R h p y = { Nd.zero with kind := 5, hash := h, key := (R.getD 0 (⟨#[]⟩, 0)).1, val := (R.getD 0 (⟨#[]⟩, 0)).2 } := if_pos hl
theorem ndD_hash {R : List Pr} {h p : Int} {y : Option Addr × Nat} : (ndD R h p y).hash = h := by unfold ndD; split <;> rfl
structure DF (R : List Pr) : Prop where
  sa : SA R
  l1 : 1 ≤ R.length
  l8 : R.length ≤ 8
  sh : Short R
theorem DF.drop {R : List Pr} {k : Nat} (h : DF R) (hk : k < R.length) (h2 : 2 ≤ R.length) : DF (dropAt R k) := by
  have := h.l8
  exact ⟨dropAt_sa h.sa hk, by rw [dropAt_len hk]; omega, by rw [dropAt_len hk]; omega, dropAt_short h.sh⟩
theorem shrunkD_c {R : List Pr} {h p : Int} {y : Option Addr × Nat} {k : Nat} {w : World} (hp : 0 ≤ p) (hR : DF R) (h2 : 2 ≤ R.length) (hk : k < R.length) (hy : R.length ≤ y.2) (hc : Cl w y.1 (prC R)) : Calls Try.prog 68 #[(ndD R h p y).v, .string (R.getD k (⟨#[]⟩, 0)).1] w fun e w' => ∃ z : Option Addr × Nat, e = .returned (.tuple #[(ndD (dropAt R k) h 0 z).v, .bool true]) ∧ (ndDL (dropAt R k)).length ≤ z.2 ∧ SF w [] [] [] [(z.1, prC (ndDL (dropAt R k)))] [] w' := by
  have h8 := hR.l8
  rw [ndD_ln (by omega)]
  refine (shrunk_c (n := ln h p R y) (xs := []) (ys := R) (R.getD k (⟨#[]⟩, 0)).1 (lnRep hc (by omega)) hy (by omega)).mono fun e w' hg => ?_
  rw [show shrO (ln h p R y) [] R (R.getD k (⟨#[]⟩, 0)).1 = some (dropO R (R.getD k (⟨#[]⟩, 0)).1) from if_pos ⟨ln_valid hR.sa h2 hR.sh hp, findO_at hR.sa hk⟩, dropO_at hR.sa hk] at hg
  exact hg
theorem prsN_c {xs ys : List Pr} {a b : Option Addr} {ca cb N : Nat} {w : World} (hN : ys.length = N) (h : xs = ys) (ha : Cl w a (prC xs)) (hb : Cl w b (prC ys)) (hx : xs.length ≤ 1000000) :
    Calls Try.prog 56 #[.slice a xs.length ca, .slice b N cb] w fun e w' => e = .returned (.bool true) ∧ St w [] [] w' := by subst hN; exact prsT_c h ha hb hx
theorem eqD_c {R : List Pr} {h p : Int} {a : Option Addr × Nat} {b : Option Addr} {cb : Nat} {w : World} (h1 : 1 < R.length) (ha : Cl w a.1 (prC (ndDL R))) (hb : Cl w b (prC R)) (hx : R.length ≤ 1000000) :
    Calls Try.prog 56 #[.slice (ndD R h p a).prA (ndD R h p a).prN (ndD R h p a).prC, .slice b R.length cb] w fun e w' => e = .returned (.bool true) ∧ St w [] [] w' := by
  rw [show ndDL R = R from if_neg (by omega)] at ha
  rw [ndD_ln (by omega)]
  exact prsT_c rfl ha hb hx
theorem dl8 {R : List Pr} {k : Nat} (h : R.length ≤ 8) (hk : k < R.length) : (dropAt R k).length ≤ 8 := by rw [dropAt_len hk]; omega
theorem tombDown_c {l l2 : List Int} {p q : Option Addr} {c c2 : Nat} {w : World} (hl : Cl w p (refsC l)) (hlen : l.length ≤ 17592186043904) (hl2 : Cl w q (refsC l2)) (hlen2 : l2.length ≤ 17592186043904) :
    Calls Try.prog 17 #[.slice p l.length c, .slice q l2.length c2] w fun e w' => e = .returned (.bool true) ∧ St w [] [] w' := by
  refine enter Try.func17 Try.ntmps17 rfl rfl (SF.s2 hl hl2) ?_
  simp only [mkS]
  all_goals (refine k_seq ?_)
  all_goals refine k_region ?_
  all_goals refine j_assignL (fun _ => ?_)
  all_goals refine l_nil ?_
  all_goals (refine k_seq ?_)
  all_goals refine k_region ?_
  all_goals refine j_move ?_
  all_goals (refine j_own (cF (hc := fun w1 hw => lst_c (hw.cl (by first | exact .new .head | exact .new (.tail .head) | exact .new (.tail (.tail .head)) | exact .new (.tail (.tail (.tail .head))) | exact .new (.tail (.tail (.tail (.tail .head)))) | exact .new (.tail (.tail (.tail (.tail (.tail .head))))) | exact .new (.tail (.tail (.tail (.tail (.tail (.tail .head)))))) | exact .new (.tail (.tail (.tail (.tail (.tail (.tail (.tail .head))))))) | exact .new (.tail (.tail (.tail (.tail (.tail (.tail (.tail (.tail .head)))))))) | exact .new (.tail (.tail (.tail (.tail (.tail (.tail (.tail (.tail (.tail .head))))))))) | exact .old .head | exact .old (.tail .head) | exact .old (.tail (.tail .head)) | exact .old (.tail (.tail (.tail .head))) | exact .old (.tail (.tail (.tail (.tail .head)))) | exact .old (.tail (.tail (.tail (.tail (.tail .head))))) | exact .own .head | exact .own (.tail .head) | exact .own (.tail (.tail .head)) | exact .own (.tail (.tail (.tail .head))) | exact .own (.tail (.tail (.tail (.tail .head)))) | exact .own (.tail (.tail (.tail (.tail (.tail .head))))) | exact .own (.tail (.tail (.tail (.tail (.tail (.tail .head)))))) | exact .own (.tail (.tail (.tail (.tail (.tail (.tail (.tail .head))))))))) hlen)) (fun x12 => ?_); try (refine l_fact (fun h12 => ?_)))
  all_goals refine j_alloc (fun x5 => ?_)
  all_goals refine j_store (fun _ => ?_)
  all_goals refine l_nil ?_
  all_goals (refine k_seq ?_)
  all_goals refine k_region ?_
  all_goals refine j_move ?_
  all_goals (refine j_own (cFH (Fc := fun _ => []) (Oc := fun _ => []) (hc := fun w1 hw => new_c)) (fun x14 => ?_); try (refine l_fact (fun h14 => ?_)))
  all_goals refine j_assignL (fun _ => ?_)
  all_goals refine l_nil ?_
  all_goals (refine k_seq ?_)
  all_goals refine k_region ?_
  all_goals refine j_build0 (fun x15 => ?_)
  all_goals refine j_fieldAddr ?_
  all_goals refine j_load ?_
  all_goals (refine j_own (Loud.convOF (o_appP (l := []) (l2 := x12.2.2.1) (by exact rfl) (by exact rfl) (by repeat (first | exact OAt.head | apply OAt.tail)) rfl (by first | exact .new .head | exact .new (.tail .head) | exact .new (.tail (.tail .head)) | exact .new (.tail (.tail (.tail .head))) | exact .new (.tail (.tail (.tail (.tail .head)))) | exact .new (.tail (.tail (.tail (.tail (.tail .head))))) | exact .new (.tail (.tail (.tail (.tail (.tail (.tail .head)))))) | exact .new (.tail (.tail (.tail (.tail (.tail (.tail (.tail .head))))))) | exact .new (.tail (.tail (.tail (.tail (.tail (.tail (.tail (.tail .head)))))))) | exact .new (.tail (.tail (.tail (.tail (.tail (.tail (.tail (.tail (.tail .head))))))))) | exact .old .head | exact .old (.tail .head) | exact .old (.tail (.tail .head)) | exact .old (.tail (.tail (.tail .head))) | exact .old (.tail (.tail (.tail (.tail .head)))) | exact .old (.tail (.tail (.tail (.tail (.tail .head))))) | exact .own .head | exact .own (.tail .head) | exact .own (.tail (.tail .head)) | exact .own (.tail (.tail (.tail .head))) | exact .own (.tail (.tail (.tail (.tail .head)))) | exact .own (.tail (.tail (.tail (.tail (.tail .head))))) | exact .own (.tail (.tail (.tail (.tail (.tail (.tail .head)))))) | exact .own (.tail (.tail (.tail (.tail (.tail (.tail (.tail .head)))))))) rfl (by exact elem_pairT rfl) (by exact sl_of rfl) (by have := h12.1.l8; simp only [List.length_nil]; omega)) (by intro x; simp only [setO, List.nil_append]; exact rfl)) (fun x18 => ?_); try (refine l_fact (fun h18 => ?_)))
  all_goals refine j_assignL (fun _ => ?_)
  all_goals refine l_nil ?_
  all_goals (refine k_seq ?_)
  all_goals (refine k_block ?_)
  all_goals
    have m8 := h12.1.l8
    have m2 := h12.1.l2
    refine k_loopF [4, 7, 8, 9, 10, 19, 20, 21, 22, 23, 24, 25, 26, 27, 28, 29, 30, 31, 32, 33, 34, 35, 36, 37, 38, 39, 40, 41, 42, 43, 44, 45, 46, 47, 48, 49, 50, 51, 52, 53, 54, 55, 56, 57, 58, 59, 60, 61, 62, 63, 64, 65, 66, 67] (fun z : List Pr × Option Addr × Nat × Nat × (Option Addr × Nat) × Nat => [(7, .slice z.2.1 z.1.length z.2.2.1)]) (fun z => DF z.1 ∧ z.1.length ≤ z.2.2.1 ∧ (ndDL z.1).length ≤ z.2.2.2.2.1.2) (fun z => [(x14, tpO q l2 c2 z.2.2.2.2.2), (x5, .cells ⟨(ndD z.1 (x12.1 : Int) (z.2.2.2.1 : Int) z.2.2.2.2.1).cells⟩ 28 (0, 0))]) (fun z => [(z.2.1, prC z.1), (z.2.2.2.2.1.1, prC (ndDL z.1))]) (fun z => []) (fun z => z.1.length) ((x12.2.2.1, x18.1, x18.2, x12.2.1, x12.2.2.2, 0)) (by decide) (fun _ => by exact rfl) ?_ (⟨⟨h12.1.sa, by show 1 ≤ x12.2.2.1.length; omega, m8, h12.1.sh⟩, by have := h18; simpa using this, by show (ndDL x12.2.2.1).length ≤ x12.2.2.2.2; rw [show ndDL x12.2.2.1 = x12.2.2.1 from if_neg (by omega)]; exact h12.2⟩) (fun w hw => by
rw [ndD_ln (R := x12.2.2.1) (by omega), show ndDL x12.2.2.1 = x12.2.2.1 from if_neg (by omega)]
exact (hw.freeze .head (by simp)).back) (fun z f hx => ?_)
    · repeat (first | exact knows_nil _ | refine knows_cons (by first | exact rfl | (conv => { lhs; whnf }; simp; done)) ?_)
    dsimp only [mkU, List.map, List.cons_append, List.nil_append]
    obtain ⟨q1, q2, q3⟩ := hx
    have q8 := q1.l8
    have q9 := q1.l1
    all_goals (refine k_seq ?_)
    all_goals (refine k_seq ?_)
    all_goals refine k_region ?_
    all_goals refine j_move ?_
    all_goals refine j_len ?_
    all_goals refine j_gtr ?_
    all_goals refine l_nil ?_
    all_goals
      refine k_cond (by exact rfl) (fun c21 => ?_) (fun c21 => ?_)
      · try (exact absurd c21 (by decide))
        all_goals (first | replace c21 := of_decide_eq_true c21 | replace c21 := sbeq_t c21 | replace c21 := sbne_t c21 | replace c21 := ibeq_t c21 | replace c21 := ibne_t c21 | replace c21 := ndec_t c21 | replace c21 := not_t c21 | skip)
        all_goals
          have r2 : 2 ≤ z.1.length := by omega
          have r3 : ndDL z.1 = z.1 := if_neg (by omega)
          rw [r3] at q3
        all_goals (refine k_skip ?_)
        all_goals (refine k_block ?_)
        all_goals (refine k_seq ?_)
        all_goals refine k_region ?_
        all_goals refine j_move ?_
        all_goals refine j_move ?_
        all_goals refine j_len ?_
        all_goals (refine j_own (cF1 (hc := fun w1 hw => next_c (z.1.length : Int) (hw.tape (by repeat (first | exact At.head | apply At.tail)) (by first | exact .new .head | exact .new (.tail .head) | exact .new (.tail (.tail .head)) | exact .new (.tail (.tail (.tail .head))) | exact .new (.tail (.tail (.tail (.tail .head)))) | exact .new (.tail (.tail (.tail (.tail (.tail .head))))) | exact .new (.tail (.tail (.tail (.tail (.tail (.tail .head)))))) | exact .new (.tail (.tail (.tail (.tail (.tail (.tail (.tail .head))))))) | exact .new (.tail (.tail (.tail (.tail (.tail (.tail (.tail (.tail .head)))))))) | exact .new (.tail (.tail (.tail (.tail (.tail (.tail (.tail (.tail (.tail .head))))))))) | exact .old .head | exact .old (.tail .head) | exact .old (.tail (.tail .head)) | exact .old (.tail (.tail (.tail .head))) | exact .old (.tail (.tail (.tail (.tail .head)))) | exact .old (.tail (.tail (.tail (.tail (.tail .head))))) | exact .own .head | exact .own (.tail .head) | exact .own (.tail (.tail .head)) | exact .own (.tail (.tail (.tail .head))) | exact .own (.tail (.tail (.tail (.tail .head)))) | exact .own (.tail (.tail (.tail (.tail (.tail .head))))) | exact .own (.tail (.tail (.tail (.tail (.tail (.tail .head)))))) | exact .own (.tail (.tail (.tail (.tail (.tail (.tail (.tail .head)))))))) hlen2) (by omega) (by omega))) (fun x25 => ?_); try (refine l_fact (fun h25 => ?_)))
        all_goals refine j_assignL (fun _ => ?_)
        all_goals refine l_nil ?_
        all_goals (refine k_seq ?_)
        all_goals
          refine k_joinF [9, 10, 26, 27, 28, 29, 30, 31, 32, 33, 34, 35] (fun y : Nat × (Option Addr × Nat) => [(9, .pointer (some ⟨y.1, 0, none⟩)), (10, .bool true)]) (fun y => (ndDL (dropAt z.1 x25)).length ≤ y.2.2) (fun y => [(y.1, .cells ⟨(ndD (dropAt z.1 x25) (x12.1 : Int) 0 y.2).cells⟩ 28 (0, 0))]) (fun y => [(y.2.1, prC (ndDL (dropAt z.1 x25)))]) (fun _ => []) (by decide) (fun _ => by exact rfl) (fun _ => by simp only [List.nil_append, List.cons_append]; exact rfl) (fun _ => by simp only [List.nil_append, List.cons_append]; exact rfl) (fun _ => by simp only [List.nil_append, List.cons_append]; exact rfl) ?_ (fun y f hx => ?_)
          · refine k_drawF (.one 0 [] (.one 1 [] (.one 2 [] (.one 3 [] (.one 4 [] (.one 5 [] (.two 6 [3] (.one 7 [] (.one 8 [] (.one 9 [] (.one 10 [0, 3, 5] (.one 11 [] (.one 12 [] .nil)))))) 0 [] (.two 10 [0, 3, 5] (.one 6 [3] (.one 7 [] (.one 8 [] (.one 9 [] (.one 11 [] (.one 12 [] .nil)))))) 0 [] .nil)))))))) ?_
            all_goals (refine r_load (i := 0) ?_)
            all_goals (refine r_move (i := 1) ?_)
            all_goals (refine r_move (i := 2) ?_)
            all_goals (refine r_indexAddr (i := 3) ?_)
            all_goals (refine r_fieldAddr (i := 4) ?_)
            all_goals (refine r_load (i := 5) ?_)
            all_goals
              refine r_many (E := [6, 10]) (by decide +kernel) ((.cons ?_ (.cons ?_ .nil)))
              · (refine s_own (i := 6) (hq := (cF (hc := fun w1 hw => shrunkD_c (R := z.1) (h := (x12.1 : Int)) (p := (z.2.2.2.1 : Int)) (y := z.2.2.2.2.1) (k := x25) (Int.natCast_nonneg _) q1 r2 (by omega) q3 (by have := hw.cl (a := z.2.2.2.2.1.1) (cs := prC (ndDL z.1)) (by first | exact .new .head | exact .new (.tail .head) | exact .new (.tail (.tail .head)) | exact .new (.tail (.tail (.tail .head))) | exact .new (.tail (.tail (.tail (.tail .head)))) | exact .new (.tail (.tail (.tail (.tail (.tail .head))))) | exact .new (.tail (.tail (.tail (.tail (.tail (.tail .head)))))) | exact .new (.tail (.tail (.tail (.tail (.tail (.tail (.tail .head))))))) | exact .new (.tail (.tail (.tail (.tail (.tail (.tail (.tail (.tail .head)))))))) | exact .new (.tail (.tail (.tail (.tail (.tail (.tail (.tail (.tail (.tail .head))))))))) | exact .old .head | exact .old (.tail .head) | exact .old (.tail (.tail .head)) | exact .old (.tail (.tail (.tail .head))) | exact .old (.tail (.tail (.tail (.tail .head)))) | exact .old (.tail (.tail (.tail (.tail (.tail .head))))) | exact .own .head | exact .own (.tail .head) | exact .own (.tail (.tail .head)) | exact .own (.tail (.tail (.tail .head))) | exact .own (.tail (.tail (.tail (.tail .head)))) | exact .own (.tail (.tail (.tail (.tail (.tail .head))))) | exact .own (.tail (.tail (.tail (.tail (.tail (.tail .head)))))) | exact .own (.tail (.tail (.tail (.tail (.tail (.tail (.tail .head)))))))); rw [r3] at this; exact this)))) (hfire := (fun _ => by first | (refine FireAll.cons (by first | exact a_indexAddr | exact a_un) ?_; exact FireAll.nil) | (refine fireall_fact ?_; refine FireAll.cons (by first | exact a_indexAddr | exact a_un) ?_; exact FireAll.nil))) (h := fun x33 => ?_); try (refine r_fact (fun h33 => ?_)))
                all_goals (refine r_move (i := 7) ?_)
                all_goals (refine r_ownP (i := 8) (hq := (o_extr (by exact rfl) rfl)) (h := ?_))
                all_goals (refine r_ownP (i := 9) (hq := (o_extr (by exact rfl) rfl)) (h := ?_))
                all_goals (refine r_alloc (i := 10) (hfire := (fun _ => by first | (refine FireAll.cons (by first | exact a_load | exact a_un) ?_; refine FireAll.cons (by first | exact a_indexAddr | exact a_un) ?_; refine FireAll.cons (by first | exact a_load | exact a_un) ?_; exact FireAll.nil) | (refine fireall_fact ?_; refine FireAll.cons (by first | exact a_load | exact a_un) ?_; refine FireAll.cons (by first | exact a_indexAddr | exact a_un) ?_; refine FireAll.cons (by first | exact a_load | exact a_un) ?_; exact FireAll.nil))) (h := fun x9 => ?_))
                all_goals (refine r_store (i := 11) (hfire := (fun _ => .nil)) (h := fun _ => ?_))
                all_goals (refine r_assignL (i := 12) (hfire := (fun _ => .nil)) (h := fun _ => ?_))
                all_goals refine r_fin ?_
                all_goals
                  refine k_roundF ((x9, x33)) (by decide) ?_ (by repeat (first | (with_reducible exact Pre.refl) | refine Pre.cons (by exact rfl) ?_)) ?_ (fun w hw => hw.back)
                  · repeat' (first | exact knows_nil _ | refine knows_cons ?_ ?_)
                    all_goals (first | exact rfl | (conv => { lhs; whnf }; simp; done) | (conv => { lhs; whnf }; congr 1; omega))
                  · exact h33
              · refine s_alloc (i := 10) (hfire := (fun _ => by first | (refine FireAll.cons (by first | exact a_load | exact a_un) ?_; refine FireAll.cons (by first | exact a_indexAddr | exact a_un) ?_; refine FireAll.cons (by first | exact a_load | exact a_un) ?_; exact FireAll.nil) | (refine fireall_fact ?_; refine FireAll.cons (by first | exact a_load | exact a_un) ?_; refine FireAll.cons (by first | exact a_indexAddr | exact a_un) ?_; refine FireAll.cons (by first | exact a_load | exact a_un) ?_; exact FireAll.nil))) (h := fun x9 => ?_)
                all_goals ((refine r_own (i := 6) (hq := (cF (hc := fun w1 hw => shrunkD_c (R := z.1) (h := (x12.1 : Int)) (p := (z.2.2.2.1 : Int)) (y := z.2.2.2.2.1) (k := x25) (Int.natCast_nonneg _) q1 r2 (by omega) q3 (by have := hw.cl (a := z.2.2.2.2.1.1) (cs := prC (ndDL z.1)) (by first | exact .new .head | exact .new (.tail .head) | exact .new (.tail (.tail .head)) | exact .new (.tail (.tail (.tail .head))) | exact .new (.tail (.tail (.tail (.tail .head)))) | exact .new (.tail (.tail (.tail (.tail (.tail .head))))) | exact .new (.tail (.tail (.tail (.tail (.tail (.tail .head)))))) | exact .new (.tail (.tail (.tail (.tail (.tail (.tail (.tail .head))))))) | exact .new (.tail (.tail (.tail (.tail (.tail (.tail (.tail (.tail .head)))))))) | exact .new (.tail (.tail (.tail (.tail (.tail (.tail (.tail (.tail (.tail .head))))))))) | exact .old .head | exact .old (.tail .head) | exact .old (.tail (.tail .head)) | exact .old (.tail (.tail (.tail .head))) | exact .old (.tail (.tail (.tail (.tail .head)))) | exact .old (.tail (.tail (.tail (.tail (.tail .head))))) | exact .own .head | exact .own (.tail .head) | exact .own (.tail (.tail .head)) | exact .own (.tail (.tail (.tail .head))) | exact .own (.tail (.tail (.tail (.tail .head)))) | exact .own (.tail (.tail (.tail (.tail (.tail .head))))) | exact .own (.tail (.tail (.tail (.tail (.tail (.tail .head)))))) | exact .own (.tail (.tail (.tail (.tail (.tail (.tail (.tail .head)))))))); rw [r3] at this; exact this)))) (hfire := (fun _ => by first | (refine FireAll.cons (by first | exact a_indexAddr | exact a_un) ?_; exact FireAll.nil) | (refine fireall_fact ?_; refine FireAll.cons (by first | exact a_indexAddr | exact a_un) ?_; exact FireAll.nil))) (h := fun x33 => ?_); try (refine r_fact (fun h33 => ?_))))
                all_goals (refine r_move (i := 7) ?_)
                all_goals (refine r_ownP (i := 8) (hq := (o_extr (by exact rfl) rfl)) (h := ?_))
                all_goals (refine r_ownP (i := 9) (hq := (o_extr (by exact rfl) rfl)) (h := ?_))
                all_goals (refine r_store (i := 11) (hfire := (fun _ => .nil)) (h := fun _ => ?_))
                all_goals (refine r_assignL (i := 12) (hfire := (fun _ => .nil)) (h := fun _ => ?_))
                all_goals refine r_fin ?_
                all_goals
                  refine k_roundF ((x9, x33)) (by decide) ?_ (by repeat (first | (with_reducible exact Pre.refl) | refine Pre.cons (by exact rfl) ?_)) ?_ (fun w hw => hw.back)
                  · repeat' (first | exact knows_nil _ | refine knows_cons ?_ ?_)
                    all_goals (first | exact rfl | (conv => { lhs; whnf }; simp; done) | (conv => { lhs; whnf }; congr 1; omega))
                  · exact h33
          dsimp only [mkU, List.map, List.cons_append, List.nil_append]
        all_goals (refine k_seq ?_)
        all_goals refine k_drawF (.one 1 [] (.one 2 [] (.one 3 [] (.one 5 [] (.one 6 [] (.one 7 [] (.one 8 [] (.one 0 [] (.one 4 [] (.one 9 [] (.one 10 [] .nil))))))))))) ?_
        all_goals (refine r_move (i := 1) ?_)
        all_goals (refine r_move (i := 2) ?_)
        all_goals (refine r_ownP (i := 3) (hq := (o_sliceH (by exact rfl) (by exact rfl) (by exact sl_of rfl) (by exact sz_any rfl) (by omega))) (h := ?_))
        all_goals (refine r_move (i := 5) ?_)
        all_goals (refine r_move (i := 6) ?_)
        all_goals (refine r_inc (i := 7) ?_)
        all_goals (refine r_ownP (i := 8) (hq := (o_tailQP (k := x25 + 1) (by exact rfl) (by exact rfl) (by exact sl_of rfl) (by exact sz_of rfl) (by omega) (by omega))) (h := ?_))
        all_goals (refine r_build0 (i := 0) (hfire := (fun _ => .nil)) (h := fun x36 => ?_))
        all_goals ((refine r_own (i := 4) (hq := (Loud.convOF (o_appW (l := []) (l2 := z.1.take x25) (l3 := z.1.take x25) (List.nil_append _) (fun w hw => hw.headP (k := x25) (by first | exact .new .head | exact .new (.tail .head) | exact .new (.tail (.tail .head)) | exact .new (.tail (.tail (.tail .head))) | exact .new (.tail (.tail (.tail (.tail .head)))) | exact .new (.tail (.tail (.tail (.tail (.tail .head))))) | exact .new (.tail (.tail (.tail (.tail (.tail (.tail .head)))))) | exact .new (.tail (.tail (.tail (.tail (.tail (.tail (.tail .head))))))) | exact .new (.tail (.tail (.tail (.tail (.tail (.tail (.tail (.tail .head)))))))) | exact .new (.tail (.tail (.tail (.tail (.tail (.tail (.tail (.tail (.tail .head))))))))) | exact .old .head | exact .old (.tail .head) | exact .old (.tail (.tail .head)) | exact .old (.tail (.tail (.tail .head))) | exact .old (.tail (.tail (.tail (.tail .head)))) | exact .old (.tail (.tail (.tail (.tail (.tail .head))))) | exact .own .head | exact .own (.tail .head) | exact .own (.tail (.tail .head)) | exact .own (.tail (.tail (.tail .head))) | exact .own (.tail (.tail (.tail (.tail .head)))) | exact .own (.tail (.tail (.tail (.tail (.tail .head))))) | exact .own (.tail (.tail (.tail (.tail (.tail (.tail .head)))))) | exact .own (.tail (.tail (.tail (.tail (.tail (.tail (.tail .head))))))))) (by exact rfl) (by exact rfl) (by repeat (first | exact OAt.head | apply OAt.tail)) rfl (by rw [List.length_take]; omega) (by exact elem_pairT rfl) (by exact sl_of rfl) (by simp only [List.length_nil]; omega)) (by intro x; simp only [setO]; exact rfl))) (hfire := (fun _ => .nil)) (h := fun x40 => ?_); try (refine r_fact (fun h40 => ?_))))
        all_goals ((refine r_own (i := 9) (hq := (Loud.convOF (o_appW (l := z.1.take x25) (l2 := z.1.drop (x25 + 1)) (l3 := dropAt z.1 x25) rfl (fun w hw => hw.tailP (k := x25 + 1) (c := z.2.2.1) (by first | exact .new .head | exact .new (.tail .head) | exact .new (.tail (.tail .head)) | exact .new (.tail (.tail (.tail .head))) | exact .new (.tail (.tail (.tail (.tail .head)))) | exact .new (.tail (.tail (.tail (.tail (.tail .head))))) | exact .new (.tail (.tail (.tail (.tail (.tail (.tail .head)))))) | exact .new (.tail (.tail (.tail (.tail (.tail (.tail (.tail .head))))))) | exact .new (.tail (.tail (.tail (.tail (.tail (.tail (.tail (.tail .head)))))))) | exact .new (.tail (.tail (.tail (.tail (.tail (.tail (.tail (.tail (.tail .head))))))))) | exact .old .head | exact .old (.tail .head) | exact .old (.tail (.tail .head)) | exact .old (.tail (.tail (.tail .head))) | exact .old (.tail (.tail (.tail (.tail .head)))) | exact .old (.tail (.tail (.tail (.tail (.tail .head))))) | exact .own .head | exact .own (.tail .head) | exact .own (.tail (.tail .head)) | exact .own (.tail (.tail (.tail .head))) | exact .own (.tail (.tail (.tail (.tail .head)))) | exact .own (.tail (.tail (.tail (.tail (.tail .head))))) | exact .own (.tail (.tail (.tail (.tail (.tail (.tail .head)))))) | exact .own (.tail (.tail (.tail (.tail (.tail (.tail (.tail .head)))))))) q2) (by exact rfl) (by exact rfl) (by repeat (first | exact OAt.head | apply OAt.tail)) rfl (by rw [List.length_drop]) (by exact elem_pairT rfl) (by exact sl_of rfl) (by rw [List.length_take]; omega)) (by intro x; simp only [setO]; exact rfl))) (hfire := (fun _ => .nil)) (h := fun x45 => ?_); try (refine r_fact (fun h45 => ?_))))
        all_goals (refine r_assignL (i := 10) (hfire := (fun _ => .nil)) (h := fun _ => ?_))
        all_goals refine r_fin ?_
        all_goals (refine k_seq ?_)
        all_goals (refine k_seq ?_)
        all_goals refine k_region ?_
        all_goals refine j_move ?_
        all_goals refine j_not ?_
        all_goals refine j_move ?_
        all_goals (first | refine j_un ?_ | refine j_unu ?_ | (refine j_yes ?_; refine j_fieldAddr ?_) | (refine l_case (g := 48) (by exact rfl) (fun g48 => ?_) (fun g48 => ?_) <;> (first | replace g48 := of_decide_eq_true g48 | replace g48 := of_decide_eq_false g48 | skip) <;> (first | refine j_un ?_ | refine j_unu ?_ | (refine j_yes ?_; refine j_fieldAddr ?_))))
        all_goals (first | refine j_un ?_ | refine j_unu ?_ | (refine j_yes ?_; refine j_load ?_) | (refine l_case (g := 48) (by exact rfl) (fun g48 => ?_) (fun g48 => ?_) <;> (first | replace g48 := of_decide_eq_true g48 | replace g48 := of_decide_eq_false g48 | skip) <;> (first | refine j_un ?_ | refine j_unu ?_ | (refine j_yes ?_; refine j_load ?_))))
        all_goals (first | refine j_un ?_ | refine j_unu ?_ | (refine j_yes ?_; refine j_fieldAddr ?_) | (refine l_case (g := 48) (by exact rfl) (fun g48 => ?_) (fun g48 => ?_) <;> (first | replace g48 := of_decide_eq_true g48 | replace g48 := of_decide_eq_false g48 | skip) <;> (first | refine j_un ?_ | refine j_unu ?_ | (refine j_yes ?_; refine j_fieldAddr ?_))))
        all_goals (first | refine j_un ?_ | refine j_unu ?_ | (refine j_yes ?_; refine j_load ?_) | (refine l_case (g := 48) (by exact rfl) (fun g48 => ?_) (fun g48 => ?_) <;> (first | replace g48 := of_decide_eq_true g48 | replace g48 := of_decide_eq_false g48 | skip) <;> (first | refine j_un ?_ | refine j_unu ?_ | (refine j_yes ?_; refine j_load ?_))))
        all_goals (first | refine j_un ?_ | refine j_unu ?_ | (refine j_yes ?_; refine j_neq ?_) | (refine l_case (g := 48) (by exact rfl) (fun g48 => ?_) (fun g48 => ?_) <;> (first | replace g48 := of_decide_eq_true g48 | replace g48 := of_decide_eq_false g48 | skip) <;> (first | refine j_un ?_ | refine j_unu ?_ | (refine j_yes ?_; refine j_neq ?_))))
        all_goals refine j_pick ?_
        all_goals refine j_move ?_
        all_goals (first | refine j_un ?_ | refine j_unu ?_ | (refine j_yes ?_; refine j_move ?_) | (refine l_case (g := 55) (by exact rfl) (fun g55 => ?_) (fun g55 => ?_) <;> (first | replace g55 := of_decide_eq_true g55 | replace g55 := of_decide_eq_false g55 | skip) <;> (first | refine j_un ?_ | refine j_unu ?_ | (refine j_yes ?_; refine j_move ?_))))
        all_goals (first | refine j_un ?_ | refine j_unu ?_ | (refine j_yes ?_; refine j_len ?_) | (refine l_case (g := 55) (by exact rfl) (fun g55 => ?_) (fun g55 => ?_) <;> (first | replace g55 := of_decide_eq_true g55 | replace g55 := of_decide_eq_false g55 | skip) <;> (first | refine j_un ?_ | refine j_unu ?_ | (refine j_yes ?_; refine j_len ?_))))
        all_goals (first | refine j_un ?_ | refine j_unu ?_ | (refine j_yes ?_; refine j_gtr ?_) | (refine l_case (g := 55) (by exact rfl) (fun g55 => ?_) (fun g55 => ?_) <;> (first | replace g55 := of_decide_eq_true g55 | replace g55 := of_decide_eq_false g55 | skip) <;> (first | refine j_un ?_ | refine j_unu ?_ | (refine j_yes ?_; refine j_gtr ?_))))
        all_goals (first | refine j_un ?_ | refine j_unu ?_ | (refine j_yes ?_; refine j_move ?_) | (refine l_case (g := 55) (by exact rfl) (fun g55 => ?_) (fun g55 => ?_) <;> (first | replace g55 := of_decide_eq_true g55 | replace g55 := of_decide_eq_false g55 | skip) <;> (first | refine j_un ?_ | refine j_unu ?_ | (refine j_yes ?_; refine j_move ?_))))
        all_goals (first | refine j_un ?_ | refine j_unu ?_ | (refine j_yes ?_; refine j_fieldAddr ?_) | (refine l_case (g := 59) (by exact rfl) (fun g59 => ?_) (fun g59 => ?_) <;> (first | replace g59 := of_decide_eq_true g59 | replace g59 := of_decide_eq_false g59 | skip) <;> (first | refine j_un ?_ | refine j_unu ?_ | (refine j_yes ?_; refine j_fieldAddr ?_))))
        all_goals (first | refine j_un ?_ | refine j_unu ?_ | (refine j_yes ?_; refine j_load ?_) | (refine l_case (g := 59) (by exact rfl) (fun g59 => ?_) (fun g59 => ?_) <;> (first | replace g59 := of_decide_eq_true g59 | replace g59 := of_decide_eq_false g59 | skip) <;> (first | refine j_un ?_ | refine j_unu ?_ | (refine j_yes ?_; refine j_load ?_))))
        all_goals (first | refine j_un ?_ | refine j_unu ?_ | (refine j_yes ?_; refine j_move ?_) | (refine l_case (g := 59) (by exact rfl) (fun g59 => ?_) (fun g59 => ?_) <;> (first | replace g59 := of_decide_eq_true g59 | replace g59 := of_decide_eq_false g59 | skip) <;> (first | refine j_un ?_ | refine j_unu ?_ | (refine j_yes ?_; refine j_move ?_))))
        all_goals (first | refine j_un ?_ | refine j_unu ?_ | (refine j_yes ?_; (refine j_own (cV (hc := fun w1 hw => eqD_c (a := y.2) (b := x45.1) (by omega) (hw.cl (by first | exact .new .head | exact .new (.tail .head) | exact .new (.tail (.tail .head)) | exact .new (.tail (.tail (.tail .head))) | exact .new (.tail (.tail (.tail (.tail .head)))) | exact .new (.tail (.tail (.tail (.tail (.tail .head))))) | exact .new (.tail (.tail (.tail (.tail (.tail (.tail .head)))))) | exact .new (.tail (.tail (.tail (.tail (.tail (.tail (.tail .head))))))) | exact .new (.tail (.tail (.tail (.tail (.tail (.tail (.tail (.tail .head)))))))) | exact .new (.tail (.tail (.tail (.tail (.tail (.tail (.tail (.tail (.tail .head))))))))) | exact .old .head | exact .old (.tail .head) | exact .old (.tail (.tail .head)) | exact .old (.tail (.tail (.tail .head))) | exact .old (.tail (.tail (.tail (.tail .head)))) | exact .old (.tail (.tail (.tail (.tail (.tail .head))))) | exact .own .head | exact .own (.tail .head) | exact .own (.tail (.tail .head)) | exact .own (.tail (.tail (.tail .head))) | exact .own (.tail (.tail (.tail (.tail .head)))) | exact .own (.tail (.tail (.tail (.tail (.tail .head))))) | exact .own (.tail (.tail (.tail (.tail (.tail (.tail .head)))))) | exact .own (.tail (.tail (.tail (.tail (.tail (.tail (.tail .head))))))))) (hw.cl (by first | exact .new .head | exact .new (.tail .head) | exact .new (.tail (.tail .head)) | exact .new (.tail (.tail (.tail .head))) | exact .new (.tail (.tail (.tail (.tail .head)))) | exact .new (.tail (.tail (.tail (.tail (.tail .head))))) | exact .new (.tail (.tail (.tail (.tail (.tail (.tail .head)))))) | exact .new (.tail (.tail (.tail (.tail (.tail (.tail (.tail .head))))))) | exact .new (.tail (.tail (.tail (.tail (.tail (.tail (.tail (.tail .head)))))))) | exact .new (.tail (.tail (.tail (.tail (.tail (.tail (.tail (.tail (.tail .head))))))))) | exact .old .head | exact .old (.tail .head) | exact .old (.tail (.tail .head)) | exact .old (.tail (.tail (.tail .head))) | exact .old (.tail (.tail (.tail (.tail .head)))) | exact .old (.tail (.tail (.tail (.tail (.tail .head))))) | exact .own .head | exact .own (.tail .head) | exact .own (.tail (.tail .head)) | exact .own (.tail (.tail (.tail .head))) | exact .own (.tail (.tail (.tail (.tail .head)))) | exact .own (.tail (.tail (.tail (.tail (.tail .head))))) | exact .own (.tail (.tail (.tail (.tail (.tail (.tail .head)))))) | exact .own (.tail (.tail (.tail (.tail (.tail (.tail (.tail .head))))))))) (by have := dl8 q8 (k := x25) (by omega); omega))) (fun x63 => ?_); try (refine l_fact (fun h63 => ?_)))) | (refine l_case (g := 59) (by exact rfl) (fun g59 => ?_) (fun g59 => ?_) <;> (first | replace g59 := of_decide_eq_true g59 | replace g59 := of_decide_eq_false g59 | skip) <;> (first | refine j_un ?_ | refine j_unu ?_ | (refine j_yes ?_; (refine j_own (cV (hc := fun w1 hw => eqD_c (a := y.2) (b := x45.1) (by omega) (hw.cl (by first | exact .new .head | exact .new (.tail .head) | exact .new (.tail (.tail .head)) | exact .new (.tail (.tail (.tail .head))) | exact .new (.tail (.tail (.tail (.tail .head)))) | exact .new (.tail (.tail (.tail (.tail (.tail .head))))) | exact .new (.tail (.tail (.tail (.tail (.tail (.tail .head)))))) | exact .new (.tail (.tail (.tail (.tail (.tail (.tail (.tail .head))))))) | exact .new (.tail (.tail (.tail (.tail (.tail (.tail (.tail (.tail .head)))))))) | exact .new (.tail (.tail (.tail (.tail (.tail (.tail (.tail (.tail (.tail .head))))))))) | exact .old .head | exact .old (.tail .head) | exact .old (.tail (.tail .head)) | exact .old (.tail (.tail (.tail .head))) | exact .old (.tail (.tail (.tail (.tail .head)))) | exact .old (.tail (.tail (.tail (.tail (.tail .head))))) | exact .own .head | exact .own (.tail .head) | exact .own (.tail (.tail .head)) | exact .own (.tail (.tail (.tail .head))) | exact .own (.tail (.tail (.tail (.tail .head)))) | exact .own (.tail (.tail (.tail (.tail (.tail .head))))) | exact .own (.tail (.tail (.tail (.tail (.tail (.tail .head)))))) | exact .own (.tail (.tail (.tail (.tail (.tail (.tail (.tail .head))))))))) (hw.cl (by first | exact .new .head | exact .new (.tail .head) | exact .new (.tail (.tail .head)) | exact .new (.tail (.tail (.tail .head))) | exact .new (.tail (.tail (.tail (.tail .head)))) | exact .new (.tail (.tail (.tail (.tail (.tail .head))))) | exact .new (.tail (.tail (.tail (.tail (.tail (.tail .head)))))) | exact .new (.tail (.tail (.tail (.tail (.tail (.tail (.tail .head))))))) | exact .new (.tail (.tail (.tail (.tail (.tail (.tail (.tail (.tail .head)))))))) | exact .new (.tail (.tail (.tail (.tail (.tail (.tail (.tail (.tail (.tail .head))))))))) | exact .old .head | exact .old (.tail .head) | exact .old (.tail (.tail .head)) | exact .old (.tail (.tail (.tail .head))) | exact .old (.tail (.tail (.tail (.tail .head)))) | exact .old (.tail (.tail (.tail (.tail (.tail .head))))) | exact .own .head | exact .own (.tail .head) | exact .own (.tail (.tail .head)) | exact .own (.tail (.tail (.tail .head))) | exact .own (.tail (.tail (.tail (.tail .head)))) | exact .own (.tail (.tail (.tail (.tail (.tail .head))))) | exact .own (.tail (.tail (.tail (.tail (.tail (.tail .head)))))) | exact .own (.tail (.tail (.tail (.tail (.tail (.tail (.tail .head))))))))) (by have := dl8 q8 (k := x25) (by omega); omega))) (fun x63 => ?_); try (refine l_fact (fun h63 => ?_)))))))
        all_goals (first | refine j_un ?_ | refine j_unu ?_ | (refine j_yes ?_; refine j_not ?_) | (refine l_case (g := 59) (by exact rfl) (fun g59 => ?_) (fun g59 => ?_) <;> (first | replace g59 := of_decide_eq_true g59 | replace g59 := of_decide_eq_false g59 | skip) <;> (first | refine j_un ?_ | refine j_unu ?_ | (refine j_yes ?_; refine j_not ?_))))
        all_goals (first | refine j_un ?_ | refine j_unu ?_ | (refine j_yes ?_; refine j_pick ?_) | (refine l_case (g := 55) (by exact rfl) (fun g55 => ?_) (fun g55 => ?_) <;> (first | replace g55 := of_decide_eq_true g55 | replace g55 := of_decide_eq_false g55 | skip) <;> (first | refine j_un ?_ | refine j_unu ?_ | (refine j_yes ?_; refine j_pick ?_))))
        all_goals refine j_pick ?_
        all_goals refine l_nil ?_
        all_goals
          refine k_cond (by exact rfl) (fun c66 => ?_) (fun c66 => ?_)
          · try (exact absurd c66 (by decide))
            all_goals (first | replace c66 := of_decide_eq_true c66 | replace c66 := sbeq_t c66 | replace c66 := sbne_t c66 | replace c66 := ibeq_t c66 | replace c66 := ibne_t c66 | replace c66 := ndec_t c66 | replace c66 := not_t c66 | skip)
            all_goals (refine k_seq ?_)
            all_goals refine k_region ?_
            all_goals refine j_assignL (fun _ => ?_)
            all_goals refine l_nil ?_
            all_goals
              refine k_retvF Try.results17 (.tmp (by conv => { lhs; whnf }) .nil) (fun w hw => ?_)
              first
              | exact ⟨rfl, hw.done⟩
              | (exfalso; rw [ndD_hash, ndD_hash] at g55; simp at g55; done)
              | (have e1 : z.1.length = 1 := by omega
                 rw [ndD_one e1] at *
                 first | exact ⟨rfl, hw.done⟩ | (exfalso; clear hw; simp_all; done) | exact ⟨by simp [tupleOf], hw.done⟩)
          · try (exact absurd c66 (by decide))
            all_goals (first | replace c66 := of_decide_eq_false c66 | replace c66 := sbeq_f c66 | replace c66 := sbne_f c66 | replace c66 := ibeq_f c66 | replace c66 := ibne_f c66 | replace c66 := ndec_f c66 | replace c66 := not_f c66 | skip)
            all_goals
              have d1 := dropAt_len (R := z.1) (k := x25) (by omega)
            all_goals (refine k_skip ?_)
            all_goals refine k_region ?_
            all_goals refine j_load ?_
            all_goals refine j_store (fun _ => ?_)
            all_goals refine l_nil ?_
            all_goals (refine k_blk ?_)
            all_goals
              refine k_roundF ((dropAt z.1 x25, x45.1, x45.2, 0, y.2, tiN l2 z.2.2.2.2.2)) ?_ ?_ (by repeat (first | (with_reducible exact Pre.refl) | refine Pre.cons (by exact rfl) ?_)) ?_ (fun w hw => (hw.freeze .head (by simp)).back)
              · first | omega | (simp only []; omega)
              · repeat' (first | exact knows_nil _ | refine knows_cons ?_ ?_)
                all_goals (first | exact rfl | (conv => { lhs; whnf }; simp; done) | (conv => { lhs; whnf }; congr 1; omega))
              · exact ⟨q1.drop (by omega) r2, h45, hx⟩
      · try (exact absurd c21 (by decide))
        all_goals (first | replace c21 := of_decide_eq_false c21 | replace c21 := sbeq_f c21 | replace c21 := sbne_f c21 | replace c21 := ibeq_f c21 | replace c21 := ibne_f c21 | replace c21 := ndec_f c21 | replace c21 := not_f c21 | skip)
        all_goals (refine k_exit rfl ?_)
        all_goals (refine k_seq ?_)
        all_goals refine k_drawF (.one 0 [] (.one 1 [] (.one 2 [] (.one 3 [] (.one 4 [] (.one 5 [] (.one 6 [] (.one 7 [] (.one 8 [] (.one 9 [] (.one 10 [] (.one 11 [] (.one 12 [] (.one 13 [] (.one 14 [] (.one 15 [] (.one 16 [] (.one 17 [] (.one 18 [] (.one 19 [] (.one 20 [] (.one 21 [] (.one 22 [] (.one 23 [] (.one 24 [] .nil))))))))))))))))))))))))) ?_
        all_goals ((refine r_own (i := 0) (hq := (cV (hc := fun w1 hw => tawake_c w1))) (hfire := (fun _ => .nil)) (h := fun x68 => ?_); try (refine r_fact (fun h68 => ?_))))
        all_goals (refine r_move (i := 1) ?_)
        all_goals (first | refine r_un (i := 2) ?_ | (refine r_fieldAddr (i := 2) ?_) | (refine r_case (g := 69) (by exact rfl) (fun g69 => ?_) (fun g69 => ?_) <;> (first | replace g69 := of_decide_eq_true g69 | replace g69 := of_decide_eq_false g69 | skip) <;> (first | refine r_un (i := 2) ?_ | (refine r_fieldAddr (i := 2) ?_))))
        all_goals (first | refine r_un (i := 3) ?_ | (refine r_load (i := 3) ?_) | (refine r_case (g := 69) (by exact rfl) (fun g69 => ?_) (fun g69 => ?_) <;> (first | replace g69 := of_decide_eq_true g69 | replace g69 := of_decide_eq_false g69 | skip) <;> (first | refine r_un (i := 3) ?_ | (refine r_load (i := 3) ?_))))
        all_goals (first | refine r_un (i := 4) ?_ | (refine r_eql (i := 4) ?_) | (refine r_case (g := 69) (by exact rfl) (fun g69 => ?_) (fun g69 => ?_) <;> (first | replace g69 := of_decide_eq_true g69 | replace g69 := of_decide_eq_false g69 | skip) <;> (first | refine r_un (i := 4) ?_ | (refine r_eql (i := 4) ?_))))
        all_goals (refine r_pick (i := 5) ?_)
        all_goals (refine r_move (i := 6) ?_)
        all_goals (first | refine r_un (i := 7) ?_ | (refine r_fieldAddr (i := 7) ?_) | (refine r_case (g := 74) (by exact rfl) (fun g74 => ?_) (fun g74 => ?_) <;> (first | replace g74 := of_decide_eq_true g74 | replace g74 := of_decide_eq_false g74 | skip) <;> (first | refine r_un (i := 7) ?_ | (refine r_fieldAddr (i := 7) ?_))))
        all_goals (first | refine r_un (i := 8) ?_ | (refine r_load (i := 8) ?_) | (refine r_case (g := 74) (by exact rfl) (fun g74 => ?_) (fun g74 => ?_) <;> (first | replace g74 := of_decide_eq_true g74 | replace g74 := of_decide_eq_false g74 | skip) <;> (first | refine r_un (i := 8) ?_ | (refine r_load (i := 8) ?_))))
        all_goals (first | refine r_un (i := 9) ?_ | (refine r_move (i := 9) ?_) | (refine r_case (g := 74) (by exact rfl) (fun g74 => ?_) (fun g74 => ?_) <;> (first | replace g74 := of_decide_eq_true g74 | replace g74 := of_decide_eq_false g74 | skip) <;> (first | refine r_un (i := 9) ?_ | (refine r_move (i := 9) ?_))))
        all_goals (first | refine r_un (i := 10) ?_ | (refine r_ownQ (i := 10) (hq := (o_indexP (k := 0) (by exact rfl) (by exact rfl) (by exact sl_of rfl) (by exact agg_of rfl) (by first | exact .new .head | exact .new (.tail .head) | exact .new (.tail (.tail .head)) | exact .new (.tail (.tail (.tail .head))) | exact .new (.tail (.tail (.tail (.tail .head)))) | exact .new (.tail (.tail (.tail (.tail (.tail .head))))) | exact .new (.tail (.tail (.tail (.tail (.tail (.tail .head)))))) | exact .new (.tail (.tail (.tail (.tail (.tail (.tail (.tail .head))))))) | exact .new (.tail (.tail (.tail (.tail (.tail (.tail (.tail (.tail .head)))))))) | exact .new (.tail (.tail (.tail (.tail (.tail (.tail (.tail (.tail (.tail .head))))))))) | exact .old .head | exact .old (.tail .head) | exact .old (.tail (.tail .head)) | exact .old (.tail (.tail (.tail .head))) | exact .old (.tail (.tail (.tail (.tail .head)))) | exact .old (.tail (.tail (.tail (.tail (.tail .head))))) | exact .own .head | exact .own (.tail .head) | exact .own (.tail (.tail .head)) | exact .own (.tail (.tail (.tail .head))) | exact .own (.tail (.tail (.tail (.tail .head)))) | exact .own (.tail (.tail (.tail (.tail (.tail .head))))) | exact .own (.tail (.tail (.tail (.tail (.tail (.tail .head)))))) | exact .own (.tail (.tail (.tail (.tail (.tail (.tail (.tail .head)))))))) (by omega) (by omega))) (h := ?_)) | (refine r_case (g := 74) (by exact rfl) (fun g74 => ?_) (fun g74 => ?_) <;> (first | replace g74 := of_decide_eq_true g74 | replace g74 := of_decide_eq_false g74 | skip) <;> (first | refine r_un (i := 10) ?_ | (refine r_ownQ (i := 10) (hq := (o_indexP (k := 0) (by exact rfl) (by exact rfl) (by exact sl_of rfl) (by exact agg_of rfl) (by first | exact .new .head | exact .new (.tail .head) | exact .new (.tail (.tail .head)) | exact .new (.tail (.tail (.tail .head))) | exact .new (.tail (.tail (.tail (.tail .head)))) | exact .new (.tail (.tail (.tail (.tail (.tail .head))))) | exact .new (.tail (.tail (.tail (.tail (.tail (.tail .head)))))) | exact .new (.tail (.tail (.tail (.tail (.tail (.tail (.tail .head))))))) | exact .new (.tail (.tail (.tail (.tail (.tail (.tail (.tail (.tail .head)))))))) | exact .new (.tail (.tail (.tail (.tail (.tail (.tail (.tail (.tail (.tail .head))))))))) | exact .old .head | exact .old (.tail .head) | exact .old (.tail (.tail .head)) | exact .old (.tail (.tail (.tail .head))) | exact .old (.tail (.tail (.tail (.tail .head)))) | exact .old (.tail (.tail (.tail (.tail (.tail .head))))) | exact .own .head | exact .own (.tail .head) | exact .own (.tail (.tail .head)) | exact .own (.tail (.tail (.tail .head))) | exact .own (.tail (.tail (.tail (.tail .head)))) | exact .own (.tail (.tail (.tail (.tail (.tail .head))))) | exact .own (.tail (.tail (.tail (.tail (.tail (.tail .head)))))) | exact .own (.tail (.tail (.tail (.tail (.tail (.tail (.tail .head)))))))) (by omega) (by omega))) (h := ?_)))))
        all_goals (first | refine r_un (i := 11) ?_ | (refine r_fieldAddr (i := 11) ?_) | (refine r_case (g := 74) (by exact rfl) (fun g74 => ?_) (fun g74 => ?_) <;> (first | replace g74 := of_decide_eq_true g74 | replace g74 := of_decide_eq_false g74 | skip) <;> (first | refine r_un (i := 11) ?_ | (refine r_fieldAddr (i := 11) ?_))))
        all_goals (first | refine r_un (i := 12) ?_ | (refine r_ownQ (i := 12) (hq := (o_loadPk (q := 0) (lst := z.1) (by exact rfl) (by exact one_of rfl) (by first | exact .new .head | exact .new (.tail .head) | exact .new (.tail (.tail .head)) | exact .new (.tail (.tail (.tail .head))) | exact .new (.tail (.tail (.tail (.tail .head)))) | exact .new (.tail (.tail (.tail (.tail (.tail .head))))) | exact .new (.tail (.tail (.tail (.tail (.tail (.tail .head)))))) | exact .new (.tail (.tail (.tail (.tail (.tail (.tail (.tail .head))))))) | exact .new (.tail (.tail (.tail (.tail (.tail (.tail (.tail (.tail .head)))))))) | exact .new (.tail (.tail (.tail (.tail (.tail (.tail (.tail (.tail (.tail .head))))))))) | exact .old .head | exact .old (.tail .head) | exact .old (.tail (.tail .head)) | exact .old (.tail (.tail (.tail .head))) | exact .old (.tail (.tail (.tail (.tail .head)))) | exact .old (.tail (.tail (.tail (.tail (.tail .head))))) | exact .own .head | exact .own (.tail .head) | exact .own (.tail (.tail .head)) | exact .own (.tail (.tail (.tail .head))) | exact .own (.tail (.tail (.tail (.tail .head)))) | exact .own (.tail (.tail (.tail (.tail (.tail .head))))) | exact .own (.tail (.tail (.tail (.tail (.tail (.tail .head)))))) | exact .own (.tail (.tail (.tail (.tail (.tail (.tail (.tail .head)))))))) (by omega))) (h := ?_)) | (refine r_case (g := 74) (by exact rfl) (fun g74 => ?_) (fun g74 => ?_) <;> (first | replace g74 := of_decide_eq_true g74 | replace g74 := of_decide_eq_false g74 | skip) <;> (first | refine r_un (i := 12) ?_ | (refine r_ownQ (i := 12) (hq := (o_loadPk (q := 0) (lst := z.1) (by exact rfl) (by exact one_of rfl) (by first | exact .new .head | exact .new (.tail .head) | exact .new (.tail (.tail .head)) | exact .new (.tail (.tail (.tail .head))) | exact .new (.tail (.tail (.tail (.tail .head)))) | exact .new (.tail (.tail (.tail (.tail (.tail .head))))) | exact .new (.tail (.tail (.tail (.tail (.tail (.tail .head)))))) | exact .new (.tail (.tail (.tail (.tail (.tail (.tail (.tail .head))))))) | exact .new (.tail (.tail (.tail (.tail (.tail (.tail (.tail (.tail .head)))))))) | exact .new (.tail (.tail (.tail (.tail (.tail (.tail (.tail (.tail (.tail .head))))))))) | exact .old .head | exact .old (.tail .head) | exact .old (.tail (.tail .head)) | exact .old (.tail (.tail (.tail .head))) | exact .old (.tail (.tail (.tail (.tail .head)))) | exact .old (.tail (.tail (.tail (.tail (.tail .head))))) | exact .own .head | exact .own (.tail .head) | exact .own (.tail (.tail .head)) | exact .own (.tail (.tail (.tail .head))) | exact .own (.tail (.tail (.tail (.tail .head)))) | exact .own (.tail (.tail (.tail (.tail (.tail .head))))) | exact .own (.tail (.tail (.tail (.tail (.tail (.tail .head)))))) | exact .own (.tail (.tail (.tail (.tail (.tail (.tail (.tail .head)))))))) (by omega))) (h := ?_)))))
        all_goals (first | refine r_un (i := 13) ?_ | (refine r_seq (i := 13) ?_) | (refine r_case (g := 74) (by exact rfl) (fun g74 => ?_) (fun g74 => ?_) <;> (first | replace g74 := of_decide_eq_true g74 | replace g74 := of_decide_eq_false g74 | skip) <;> (first | refine r_un (i := 13) ?_ | (refine r_seq (i := 13) ?_))))
        all_goals (refine r_pick (i := 14) ?_)
        all_goals (refine r_move (i := 15) ?_)
        all_goals (first | refine r_un (i := 16) ?_ | (refine r_fieldAddr (i := 16) ?_) | (refine r_case (g := 83) (by exact rfl) (fun g83 => ?_) (fun g83 => ?_) <;> (first | replace g83 := of_decide_eq_true g83 | replace g83 := of_decide_eq_false g83 | skip) <;> (first | refine r_un (i := 16) ?_ | (refine r_fieldAddr (i := 16) ?_))))
        all_goals (first | refine r_un (i := 17) ?_ | (refine r_load (i := 17) ?_) | (refine r_case (g := 83) (by exact rfl) (fun g83 => ?_) (fun g83 => ?_) <;> (first | replace g83 := of_decide_eq_true g83 | replace g83 := of_decide_eq_false g83 | skip) <;> (first | refine r_un (i := 17) ?_ | (refine r_load (i := 17) ?_))))
        all_goals (first | refine r_un (i := 18) ?_ | (refine r_move (i := 18) ?_) | (refine r_case (g := 83) (by exact rfl) (fun g83 => ?_) (fun g83 => ?_) <;> (first | replace g83 := of_decide_eq_true g83 | replace g83 := of_decide_eq_false g83 | skip) <;> (first | refine r_un (i := 18) ?_ | (refine r_move (i := 18) ?_))))
        all_goals (first | refine r_un (i := 19) ?_ | (refine r_ownQ (i := 19) (hq := (o_indexP (k := 0) (by exact rfl) (by exact rfl) (by exact sl_of rfl) (by exact agg_of rfl) (by first | exact .new .head | exact .new (.tail .head) | exact .new (.tail (.tail .head)) | exact .new (.tail (.tail (.tail .head))) | exact .new (.tail (.tail (.tail (.tail .head)))) | exact .new (.tail (.tail (.tail (.tail (.tail .head))))) | exact .new (.tail (.tail (.tail (.tail (.tail (.tail .head)))))) | exact .new (.tail (.tail (.tail (.tail (.tail (.tail (.tail .head))))))) | exact .new (.tail (.tail (.tail (.tail (.tail (.tail (.tail (.tail .head)))))))) | exact .new (.tail (.tail (.tail (.tail (.tail (.tail (.tail (.tail (.tail .head))))))))) | exact .old .head | exact .old (.tail .head) | exact .old (.tail (.tail .head)) | exact .old (.tail (.tail (.tail .head))) | exact .old (.tail (.tail (.tail (.tail .head)))) | exact .old (.tail (.tail (.tail (.tail (.tail .head))))) | exact .own .head | exact .own (.tail .head) | exact .own (.tail (.tail .head)) | exact .own (.tail (.tail (.tail .head))) | exact .own (.tail (.tail (.tail (.tail .head)))) | exact .own (.tail (.tail (.tail (.tail (.tail .head))))) | exact .own (.tail (.tail (.tail (.tail (.tail (.tail .head)))))) | exact .own (.tail (.tail (.tail (.tail (.tail (.tail (.tail .head)))))))) (by omega) (by omega))) (h := ?_)) | (refine r_case (g := 83) (by exact rfl) (fun g83 => ?_) (fun g83 => ?_) <;> (first | replace g83 := of_decide_eq_true g83 | replace g83 := of_decide_eq_false g83 | skip) <;> (first | refine r_un (i := 19) ?_ | (refine r_ownQ (i := 19) (hq := (o_indexP (k := 0) (by exact rfl) (by exact rfl) (by exact sl_of rfl) (by exact agg_of rfl) (by first | exact .new .head | exact .new (.tail .head) | exact .new (.tail (.tail .head)) | exact .new (.tail (.tail (.tail .head))) | exact .new (.tail (.tail (.tail (.tail .head)))) | exact .new (.tail (.tail (.tail (.tail (.tail .head))))) | exact .new (.tail (.tail (.tail (.tail (.tail (.tail .head)))))) | exact .new (.tail (.tail (.tail (.tail (.tail (.tail (.tail .head))))))) | exact .new (.tail (.tail (.tail (.tail (.tail (.tail (.tail (.tail .head)))))))) | exact .new (.tail (.tail (.tail (.tail (.tail (.tail (.tail (.tail (.tail .head))))))))) | exact .old .head | exact .old (.tail .head) | exact .old (.tail (.tail .head)) | exact .old (.tail (.tail (.tail .head))) | exact .old (.tail (.tail (.tail (.tail .head)))) | exact .old (.tail (.tail (.tail (.tail (.tail .head))))) | exact .own .head | exact .own (.tail .head) | exact .own (.tail (.tail .head)) | exact .own (.tail (.tail (.tail .head))) | exact .own (.tail (.tail (.tail (.tail .head)))) | exact .own (.tail (.tail (.tail (.tail (.tail .head))))) | exact .own (.tail (.tail (.tail (.tail (.tail (.tail .head)))))) | exact .own (.tail (.tail (.tail (.tail (.tail (.tail (.tail .head)))))))) (by omega) (by omega))) (h := ?_)))))
        all_goals (first | refine r_un (i := 20) ?_ | (refine r_fieldAddr (i := 20) ?_) | (refine r_case (g := 83) (by exact rfl) (fun g83 => ?_) (fun g83 => ?_) <;> (first | replace g83 := of_decide_eq_true g83 | replace g83 := of_decide_eq_false g83 | skip) <;> (first | refine r_un (i := 20) ?_ | (refine r_fieldAddr (i := 20) ?_))))
        all_goals (first | refine r_un (i := 21) ?_ | (refine r_ownQ (i := 21) (hq := (o_loadPv (q := 0) (lst := z.1) (by exact rfl) (by exact one_of rfl) (by first | exact .new .head | exact .new (.tail .head) | exact .new (.tail (.tail .head)) | exact .new (.tail (.tail (.tail .head))) | exact .new (.tail (.tail (.tail (.tail .head)))) | exact .new (.tail (.tail (.tail (.tail (.tail .head))))) | exact .new (.tail (.tail (.tail (.tail (.tail (.tail .head)))))) | exact .new (.tail (.tail (.tail (.tail (.tail (.tail (.tail .head))))))) | exact .new (.tail (.tail (.tail (.tail (.tail (.tail (.tail (.tail .head)))))))) | exact .new (.tail (.tail (.tail (.tail (.tail (.tail (.tail (.tail (.tail .head))))))))) | exact .old .head | exact .old (.tail .head) | exact .old (.tail (.tail .head)) | exact .old (.tail (.tail (.tail .head))) | exact .old (.tail (.tail (.tail (.tail .head)))) | exact .old (.tail (.tail (.tail (.tail (.tail .head))))) | exact .own .head | exact .own (.tail .head) | exact .own (.tail (.tail .head)) | exact .own (.tail (.tail (.tail .head))) | exact .own (.tail (.tail (.tail (.tail .head)))) | exact .own (.tail (.tail (.tail (.tail (.tail .head))))) | exact .own (.tail (.tail (.tail (.tail (.tail (.tail .head)))))) | exact .own (.tail (.tail (.tail (.tail (.tail (.tail (.tail .head)))))))) (by omega))) (h := ?_)) | (refine r_case (g := 83) (by exact rfl) (fun g83 => ?_) (fun g83 => ?_) <;> (first | replace g83 := of_decide_eq_true g83 | replace g83 := of_decide_eq_false g83 | skip) <;> (first | refine r_un (i := 21) ?_ | (refine r_ownQ (i := 21) (hq := (o_loadPv (q := 0) (lst := z.1) (by exact rfl) (by exact one_of rfl) (by first | exact .new .head | exact .new (.tail .head) | exact .new (.tail (.tail .head)) | exact .new (.tail (.tail (.tail .head))) | exact .new (.tail (.tail (.tail (.tail .head)))) | exact .new (.tail (.tail (.tail (.tail (.tail .head))))) | exact .new (.tail (.tail (.tail (.tail (.tail (.tail .head)))))) | exact .new (.tail (.tail (.tail (.tail (.tail (.tail (.tail .head))))))) | exact .new (.tail (.tail (.tail (.tail (.tail (.tail (.tail (.tail .head)))))))) | exact .new (.tail (.tail (.tail (.tail (.tail (.tail (.tail (.tail (.tail .head))))))))) | exact .old .head | exact .old (.tail .head) | exact .old (.tail (.tail .head)) | exact .old (.tail (.tail (.tail .head))) | exact .old (.tail (.tail (.tail (.tail .head)))) | exact .old (.tail (.tail (.tail (.tail (.tail .head))))) | exact .own .head | exact .own (.tail .head) | exact .own (.tail (.tail .head)) | exact .own (.tail (.tail (.tail .head))) | exact .own (.tail (.tail (.tail (.tail .head)))) | exact .own (.tail (.tail (.tail (.tail (.tail .head))))) | exact .own (.tail (.tail (.tail (.tail (.tail (.tail .head)))))) | exact .own (.tail (.tail (.tail (.tail (.tail (.tail (.tail .head)))))))) (by omega))) (h := ?_)))))
        all_goals (first | refine r_un (i := 22) ?_ | (refine r_eql (i := 22) ?_) | (refine r_case (g := 83) (by exact rfl) (fun g83 => ?_) (fun g83 => ?_) <;> (first | replace g83 := of_decide_eq_true g83 | replace g83 := of_decide_eq_false g83 | skip) <;> (first | refine r_un (i := 22) ?_ | (refine r_eql (i := 22) ?_))))
        all_goals (refine r_pick (i := 23) ?_)
        all_goals (refine r_assignL (i := 24) (hfire := (fun _ => .nil)) (h := fun _ => ?_))
        all_goals refine r_fin ?_
        all_goals
          refine k_retvF Try.results17 (.tmp (by conv => { lhs; whnf }) .nil) (fun w hw => ?_)
          first
          | exact ⟨rfl, hw.done⟩
          | (exfalso; rw [ndD_hash, ndD_hash] at g55; simp at g55; done)
          | (have e1 : z.1.length = 1 := by omega
             rw [ndD_one e1] at *
             first | exact ⟨rfl, hw.done⟩ | (exfalso; clear hw; simp_all; done) | exact ⟨by simp [tupleOf], hw.done⟩)
end Go.Proofs.Ythmagkjcangnfaa
