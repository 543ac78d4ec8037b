/- Structs of numbers, bools and strings are compared. -/
import Derived.Test.YtmogngagpphnhaaGTk
import Derived.Test.YtmogngagpphnhaaPS0
import Derived.Test.YtmogngagpphnhaaGOp

set_option linter.unusedSimpArgs false
set_option linter.unusedVariables false
namespace Go.Ct
open Go Go.RowKit
section
variable {P : Program} {w : World}
def kOk (P : Program) (t : TypeId) : Nat → Bool
  | 0 => match P.underlying t with | some (.int _) => true | _ => false
  | 1 => match P.underlying t with | some .bool => true | _ => false
  | _ => match P.underlying t with | some .string => true | _ => false
/-- The two values are numbers of one kind, bools or strings; they are equal. -/
inductive VEq : Nat → Value → Value → Bool → Prop where
  | int (k : IntKind) (a b : Int) : VEq 0 (.int k a) (.int k b) (a == b)
  | bool (a b : Bool) : VEq 1 (.bool a) (.bool b) (a == b)
  | str (a b : ByteArray) : VEq 2 (.string a) (.string b) (decide (a = b))
theorem VEq.run {t : TypeId} {k : Nat} {u v : Value} {r : Bool} (h : VEq k u v r) (ht : kOk P t k = true) (d : Nat) : (Op.equalIn (d + 1) t u v).run P w = .ok r w := by
  cases h with
  | int k a b =>
    cases hu : P.underlying t with
    | none => simp [kOk, hu] at ht
    | some z =>
      cases z <;> simp [kOk, hu] at ht
      exact run_equalIn_int w d t k _ a b hu
  | bool a b =>
    cases hu : P.underlying t with
    | none => simp [kOk, hu] at ht
    | some z =>
      cases z <;> simp [kOk, hu] at ht
      exact run_equalIn_bool w d t a b hu
  | str a b =>
    cases hu : P.underlying t with
    | none => simp [kOk, hu] at ht
    | some z =>
      cases z <;> simp [kOk, hu] at ht
      rw [← bs_beq]
      exact run_equalIn_string w d t a b hu
def fOk (P : Program) (f : Field) (o k : Nat) : Bool := f.name != "_" && Nat.beq f.offset o && one P f.type && kOk P f.type k
theorem eqF_one {f : Field} {fs : List Field} {o k : Nat} {u v : Value} {r : Bool} {xs ys : Array Value} {d : Nat} (hf : fOk P f o k = true) (hx : xs[o]? = some u) (hy : ys[o]? = some v) (h : VEq k u v r) :
    (Op.eqFields (d + 1) xs ys (f :: fs)).run P w = if r = true then (Op.eqFields (d + 1) xs ys fs).run P w else .ok false w := by
  simp only [fOk, Bool.and_eq_true, bne_iff_ne, ne_eq] at hf
  obtain ⟨⟨⟨h1, h2⟩, h3⟩, h4⟩ := hf
  replace h2 := Nat.eq_of_beq_eq_true h2
  subst h2
  have p1 : (part f.type xs f.offset).run P w = .ok u w := run_part_one h3 hx w
  have p2 : (part f.type ys f.offset).run P w = .ok v w := run_part_one h3 hy w
  simp only [Op.eqFields, h1, ne_eq, not_false_eq_true, if_true, Sem.run_bind, p1, p2, h.run h4 d, Result.andThen_ok, Sem.run_ite, Sem.run_pure]
  cases r <;> simp
theorem eqF_nil {xs ys : Array Value} {d : Nat} : (Op.eqFields d xs ys []).run P w = .ok true w := by simp [Op.eqFields]
/-- A struct of the given kinds, one cell each. -/
def stIs (P : Program) (t : TypeId) : List Nat → Nat → List Field → Bool
  | [], _, fs => fs.isEmpty
  | k :: ks, o, f :: fs => fOk P f o k && stIs P t ks (o + 1) fs
  | _ :: _, _, [] => false
inductive VEqs : List Nat → List Value → List Value → Bool → Prop where
  | nil : VEqs [] [] [] true
  | cons {k : Nat} {ks : List Nat} {u v : Value} {us vs : List Value} {r r2 : Bool} (h : VEq k u v r) (hs : VEqs ks us vs r2) : VEqs (k :: ks) (u :: us) (v :: vs) (r && r2)
theorem eqF_all {t : TypeId} {d : Nat} : ∀ {ks : List Nat} {us vs : List Value} {r : Bool} {fs : List Field} {o : Nat} {xs ys : List Value}, VEqs ks us vs r → stIs P t ks o fs = true → xs.drop o = us → ys.drop o = vs →
    (Op.eqFields (d + 1) ⟨xs⟩ ⟨ys⟩ fs).run P w = .ok r w
  | [], _, _, _, fs, _, _, _, h, hs, _, _ => by
    cases h
    cases fs with
    | nil => exact eqF_nil
    | cons f fs => simp [stIs] at hs
  | k :: ks, _, _, _, fs, o, xs, ys, h, hs, hx, hy => by
    cases h with
    | @cons _ _ u v us vs r r2 h h2 =>
      cases fs with
      | nil => simp [stIs] at hs
      | cons f fs =>
        simp only [stIs, Bool.and_eq_true] at hs
        have ex : xs[o]? = some u := by rw [← List.head?_drop, hx]; rfl
        have ey : ys[o]? = some v := by rw [← List.head?_drop, hy]; rfl
        have hx2 : xs.drop (o + 1) = us := by rw [← List.drop_drop, hx]; rfl
        have hy2 : ys.drop (o + 1) = vs := by rw [← List.drop_drop, hy]; rfl
        rw [eqF_one hs.1 (by simpa using ex) (by simpa using ey) h, eqF_all h2 hs.2 hx2 hy2]
        cases r <;> simp
/-- A struct type whose fields are of the given kinds. -/
def plainSt (P : Program) (t : TypeId) (ks : List Nat) : Bool :=
  (match P.underlying t with
  | some (.struct fs) => stIs P t ks 0 fs.toList
  | _ => false) && !P.stoodInHeld t && !P.eqGuardType P.depth t
theorem plainSt_run {t : TypeId} {ks : List Nat} {us vs : List Value} {r : Bool} (h : plainSt P t ks = true) (hv : VEqs ks us vs r) (d : Nat) :
    (Op.equalIn (d + 2) t (.agg ⟨us⟩) (.agg ⟨vs⟩)).run P w = .ok r w ∧ P.eqGuardType P.depth t = false := by
  unfold plainSt at h
  cases hu : P.underlying t with
  | none => simp [hu] at h
  | some dd =>
    rw [hu] at h
    cases dd <;> simp only [Bool.false_and, Bool.false_eq_true] at h
    rename_i fs
    have hf : P.fieldsOf t = fs := by simp [Program.fieldsOf, hu]
    simp only [Bool.and_eq_true, Bool.not_eq_true'] at h
    refine ⟨?_, h.2⟩
    rw [run_equalIn_struct w (d + 1) t _ _ (by rw [hf]; exact hu) h.1.2, hf]
    exact eqF_all (o := 0) hv h.1.1 rfl rfl
/-- A struct whose last field is a struct of two cells, the others of one. -/
def stIs2 (P : Program) (t : TypeId) : List Nat → List Nat → Nat → List Field → Bool
  | [], k2, o, [f] => f.name != "_" && Nat.beq f.offset o && aggOf P f.type 2 && plainSt P f.type k2
  | k :: ks, k2, o, f :: fs => fOk P f o k && stIs2 P t ks k2 (o + 1) fs
  | _, _, _, _ => false
theorem run_part_two {t : TypeId} (h : aggOf P t 2 = true) {cs : List Value} {off : Nat} {u v : Value} (hv : cs.drop off = [u, v]) (w : World) : (part t ⟨cs⟩ off).run P w = .ok (.agg ⟨[u, v]⟩) w := by
  obtain ⟨dd, hu, hm, hi⟩ := agg_parts h
  have hagg : (isAgg t).run P w = .ok true w := by
    unfold isAgg
    rw [Sem.run_bind, run_underlying hu w]
    cases dd <;> simp_all
  cases hq' : P.info? t with
  | none => rw [hq'] at hi; simp at hi
  | some i =>
    have hs : i.size = 2 := by rw [hq'] at hi; simpa using hi
    simp [part, hagg, Go.sizeOf, typeInfo, hq', hs, hv]
theorem eqF_all2 {t : TypeId} {d : Nat} {k2 : List Nat} {a1 a2 b1 b2 : Value} {r2 : Bool} (hn : VEqs k2 [a1, a2] [b1, b2] r2) : ∀ {ks : List Nat} {us vs : List Value} {r : Bool} {fs : List Field} {o : Nat} {xs ys : List Value}, VEqs ks us vs r → stIs2 P t ks k2 o fs = true → xs.drop o = us ++ [a1, a2] → ys.drop o = vs ++ [b1, b2] →
    (Op.eqFields (d + 2) ⟨xs⟩ ⟨ys⟩ fs).run P w = .ok (r && r2) w
  | [], _, _, _, fs, o, xs, ys, h, hs, hx, hy => by
    cases h
    cases fs with
    | nil => simp [stIs2] at hs
    | cons f fs =>
      cases fs with
      | cons g fs => simp [stIs2] at hs
      | nil =>
        simp only [stIs2, Bool.and_eq_true, bne_iff_ne, ne_eq] at hs
        obtain ⟨⟨⟨h1, h2⟩, h3⟩, h4⟩ := hs
        replace h2 := Nat.eq_of_beq_eq_true h2
        subst h2
        have p1 : (part f.type ⟨xs⟩ f.offset).run P w = .ok (.agg ⟨[a1, a2]⟩) w := run_part_two h3 hx w
        have p2 : (part f.type ⟨ys⟩ f.offset).run P w = .ok (.agg ⟨[b1, b2]⟩) w := run_part_two h3 hy w
        simp only [Op.eqFields, h1, ne_eq, not_false_eq_true, if_true, Sem.run_bind, p1, p2, (plainSt_run (w := w) h4 hn d).1, Result.andThen_ok, Sem.run_ite, Sem.run_pure]
        cases r2 <;> simp
  | k :: ks, _, _, _, fs, o, xs, ys, h, hs, hx, hy => by
    cases h with
    | @cons _ _ u v us vs r r3 h h2 =>
      cases fs with
      | nil => simp [stIs2] at hs
      | cons f fs =>
        simp only [stIs2, Bool.and_eq_true] at hs
        have ex : xs[o]? = some u := by rw [← List.head?_drop, hx]; rfl
        have ey : ys[o]? = some v := by rw [← List.head?_drop, hy]; rfl
        have hx2 : xs.drop (o + 1) = us ++ [a1, a2] := by rw [← List.drop_drop, hx]; rfl
        have hy2 : ys.drop (o + 1) = vs ++ [b1, b2] := by rw [← List.drop_drop, hy]; rfl
        rw [eqF_one hs.1 (by simpa using ex) (by simpa using ey) h, eqF_all2 hn h2 hs.2 hx2 hy2]
        cases r <;> simp
def plainSt2 (P : Program) (t : TypeId) (ks k2 : List Nat) : Bool :=
  (match P.underlying t with
  | some (.struct fs) => stIs2 P t ks k2 0 fs.toList
  | _ => false) && !P.stoodInHeld t && !P.eqGuardType P.depth t
theorem plainSt2_run {t : TypeId} {ks k2 : List Nat} {us vs : List Value} {a1 a2 b1 b2 : Value} {r r2 : Bool} (h : plainSt2 P t ks k2 = true) (hv : VEqs ks us vs r) (hn : VEqs k2 [a1, a2] [b1, b2] r2) (d : Nat) :
    (Op.equalIn (d + 3) t (.agg ⟨us ++ [a1, a2]⟩) (.agg ⟨vs ++ [b1, b2]⟩)).run P w = .ok (r && r2) w ∧ P.eqGuardType P.depth t = false := by
  unfold plainSt2 at h
  cases hu : P.underlying t with
  | none => simp [hu] at h
  | some dd =>
    rw [hu] at h
    cases dd <;> simp only [Bool.false_and, Bool.false_eq_true] at h
    rename_i fs
    have hf : P.fieldsOf t = fs := by simp [Program.fieldsOf, hu]
    simp only [Bool.and_eq_true, Bool.not_eq_true'] at h
    refine ⟨?_, h.2⟩
    rw [run_equalIn_struct w (d + 2) t _ _ (by rw [hf]; exact hu) h.1.2, hf]
    exact eqF_all2 (o := 0) hn hv h.1.1 rfl rfl
variable {S : List (Nat × Value)} {G : World → Prop} {d : Nat} {ty t t' : TypeId} {pos : String} {af : Array Edge} {gd : Option (Nat × Bool)} {x y : Operand}
instance : DecidableEq Ac := fun a b => if h : a.k = b.k ∧ a.c = b.c ∧ a.o = b.o ∧ a.n = b.n then isTrue (by cases a; cases b; simp_all) else isFalse (fun e => h (by subst e; exact ⟨rfl, rfl, rfl, rfl⟩))
instance : DecidableEq Rs := fun a b => if h : a.err = b.err ∧ a.found = b.found ∧ a.val = b.val ∧ a.key = b.key ∧ a.cnt = b.cnt ∧ a.ref = b.ref ∧ a.root = b.root ∧ a.ro = b.ro then isTrue (by cases a; cases b; simp_all) else isFalse (fun e => h (by subst e; exact ⟨rfl, rfl, rfl, rfl, rfl, rfl, rfl, rfl⟩))
theorem ac_eqs (a b : Ac) : VEqs [0, 0, 0, 0] a.cells b.cells (decide (a = b)) := by
  have h := VEqs.cons (VEq.int .i64 a.k b.k) (.cons (.int .i64 a.c b.c) (.cons (.int .i64 a.o b.o) (.cons (.int .i64 a.n b.n) .nil)))
  have e : (a.k == b.k && (a.c == b.c && (a.o == b.o && (a.n == b.n && true)))) = decide (a = b) := by
    rw [Bool.eq_iff_iff]
    obtain ⟨a1, a2, a3, a4⟩ := a
    obtain ⟨b1, b2, b3, b4⟩ := b
    simp
  rw [e] at h
  exact h
theorem o_eqlAc {a b : Ac} (hx : ev S x = .agg ⟨a.cells⟩) (hy : ev S y = .agg ⟨b.cells⟩) (ht : plainSt P t [0, 0, 0, 0] = true) : Quiet P S G ⟨some d, .binOp .eql t x y t', ty, pos, af, gd⟩ (.bool (decide (a = b))) := ⟨fun w _ => by
  have h := plainSt_run (w := w) ht (ac_eqs a b) 9998
  simp [execOp, hx, hy, run_eqGuard_agg w _ t _ _ _ _ h.2, run_eql_struct, h.1]⟩
theorem o_neqAc {a b : Ac} (hx : ev S x = .agg ⟨a.cells⟩) (hy : ev S y = .agg ⟨b.cells⟩) (ht : plainSt P t [0, 0, 0, 0] = true) : Quiet P S G ⟨some d, .binOp .neq t x y t', ty, pos, af, gd⟩ (.bool (!decide (a = b))) := ⟨fun w _ => by
  have h := plainSt_run (w := w) ht (ac_eqs a b) 9998
  simp [execOp, hx, hy, run_eqGuard_agg w _ t _ _ _ _ h.2, run_neq_struct, h.1]⟩
theorem rs_eqs (a b : Rs) {t : TypeId} (ht : plainSt2 P t [0, 1, 0, 2, 0, 0] [0, 1] = true) (d : Nat) :
    (Op.equalIn (d + 3) t (.agg ⟨a.cells⟩) (.agg ⟨b.cells⟩)).run P w = .ok (decide (a = b)) w ∧ P.eqGuardType P.depth t = false := by
  have h := plainSt2_run (w := w) ht (VEqs.cons (VEq.int .i64 a.err b.err) (.cons (.bool a.found b.found) (.cons (.int .u64 a.val b.val) (.cons (.str a.key b.key) (.cons (.int .i64 a.cnt b.cnt) (.cons (.int .i64 a.ref b.ref) .nil))))))
    (VEqs.cons (VEq.int .i64 a.root b.root) (.cons (.bool a.ro b.ro) .nil)) d
  have e : ((a.err == b.err && (a.found == b.found && (a.val == b.val && (decide (a.key = b.key) && (a.cnt == b.cnt && (a.ref == b.ref && true)))))) && (a.root == b.root && (a.ro == b.ro && true))) = decide (a = b) := by
    rw [Bool.eq_iff_iff]
    obtain ⟨a1, a2, a3, a4, a5, a6, a7, a8⟩ := a
    obtain ⟨b1, b2, b3, b4, b5, b6, b7, b8⟩ := b
    simp [and_assoc]
  rw [e] at h
  exact h
theorem o_eqlRs {a b : Rs} (hx : ev S x = .agg ⟨a.cells⟩) (hy : ev S y = .agg ⟨b.cells⟩) (ht : plainSt2 P t [0, 1, 0, 2, 0, 0] [0, 1] = true) : Quiet P S G ⟨some d, .binOp .eql t x y t', ty, pos, af, gd⟩ (.bool (decide (a = b))) := ⟨fun w _ => by
  have h := rs_eqs (w := w) a b ht 9997
  simp [execOp, hx, hy, run_eqGuard_agg w _ t _ _ _ _ h.2, run_eql_struct, h.1]⟩
theorem o_neqRs {a b : Rs} (hx : ev S x = .agg ⟨a.cells⟩) (hy : ev S y = .agg ⟨b.cells⟩) (ht : plainSt2 P t [0, 1, 0, 2, 0, 0] [0, 1] = true) : Quiet P S G ⟨some d, .binOp .neq t x y t', ty, pos, af, gd⟩ (.bool (!decide (a = b))) := ⟨fun w _ => by
  have h := rs_eqs (w := w) a b ht 9997
  simp [execOp, hx, hy, run_eqGuard_agg w _ t _ _ _ _ h.2, run_neq_struct, h.1]⟩
end
end Go.Ct
namespace Go.Proofs.Ytmogngagpphnhaa
open Go Go.RowKit Go.Ct
theorem acT {t : Nat} (h : Nat.beq t 78 = true) : plainSt Try.prog t [0, 0, 0, 0] = true := by rw [Nat.eq_of_beq_eq_true h]; kernel_rfl
theorem rsT {t : Nat} (h : Nat.beq t 84 = true) : plainSt2 Try.prog t [0, 1, 0, 2, 0, 0] [0, 1] = true := by rw [Nat.eq_of_beq_eq_true h]; kernel_rfl
end Go.Proofs.Ytmogngagpphnhaa

/- The laws of tasks: the accesses of a plan, one access of a memory. -/
set_option linter.unusedSimpArgs false
set_option linter.unusedVariables false
namespace Go.Ct
open Go Go.RowKit
/-- What an access makes of the cells and of the result so far. -/
def doRs (cs : List Int) (x : Ac) (r : Rs) : Rs := if x.k = 1 then { r with ref := cellV cs x.c } else if casB cs x.c x.o = true then { r with cnt := r.cnt + 1 } else r
def doCs (cs : List Int) (x : Ac) : List Int := if x.k = 1 then cs else casL cs x.c x.o x.n
theorem planP_eq (a : Ac) (l : List Ac) (r : Rs) : planP (a :: l) r = if a.k = 1 then .load a.c fun v => planP l { r with ref := v } else .cas a.c a.o a.n fun b => planP l (if b then { r with cnt := r.cnt + 1 } else r) := rfl
theorem planP_next (a : Ac) (l : List Ac) (r : Rs) (cs : List Int) : (planP (a :: l) r).next cs = planP l (doRs cs a r) := by
  rw [planP_eq]
  unfold doRs
  split
  · rfl
  · rfl
theorem planP_cells (a : Ac) (l : List Ac) (r : Rs) (cs : List Int) : (planP (a :: l) r).cells cs = doCs cs a := by
  rw [planP_eq]
  unfold doCs
  split <;> rfl
theorem planP_live (a : Ac) (l : List Ac) (r : Rs) : (planP (a :: l) r).live = true := by
  rw [planP_eq]
  split <;> rfl
theorem planP_cl (a : Ac) (l : List Ac) (r : Rs) : (planP (a :: l) r).cl = a.c := by
  rw [planP_eq]
  split <;> rfl
/-- The accesses as a task shows them. -/
def showA (a : Ac) : Ac := if a.k = 1 then ⟨1, a.c, 0, 0⟩ else a
def madeA (l : List Ac) : List Ac := (keepA l).map showA
theorem showA_k (a : Ac) : (showA a).k = a.k := by
  unfold showA
  split
  · rename_i h; exact h.symm
  · rfl
theorem showA_c (a : Ac) : (showA a).c = a.c := by
  unfold showA
  split <;> rfl
theorem doRs_show (cs : List Int) (x : Ac) (r : Rs) : doRs cs (showA x) r = doRs cs x r := by
  by_cases h : x.k = 1
  · unfold doRs
    rw [if_pos (by rw [showA_k]; exact h), if_pos h, showA_c]
  · rw [show showA x = x from if_neg h]
theorem doCs_show (cs : List Int) (x : Ac) : doCs cs (showA x) = doCs cs x := by
  by_cases h : x.k = 1
  · unfold doCs
    rw [if_pos (by rw [showA_k]; exact h), if_pos h]
  · rw [show showA x = x from if_neg h]
theorem doCs_length (cs : List Int) (x : Ac) : (doCs cs x).length = cs.length := by
  unfold doCs
  split
  · rfl
  · exact casL_length
theorem madeA_push (l : List Ac) (a : Ac) : madeA (l ++ [a]) = madeA l ++ madeA [a] := by simp [madeA, keepA, List.filter_append]
theorem madeA_one {a : Ac} (h : a.k = 1) : madeA [a] = [⟨1, a.c, 0, 0⟩] := by simp [madeA, keepA, showA, h]
theorem madeA_two {a : Ac} (h : a.k = 2) : madeA [a] = [a] := by simp [madeA, keepA, showA, h]
theorem madeA_no {a : Ac} (h1 : ¬ a.k = 1) (h2 : ¬ a.k = 2) : madeA [a] = [] := by simp [madeA, keepA, h1, h2]
theorem madeA_len (l : List Ac) : (madeA l).length ≤ l.length := by
  unfold madeA
  rw [List.length_map]
  exact keepA_len l
/-- The same where the callee only reads a block, and leaves new frozen lists. -/
theorem SF.sameF {w w' : World} {b : Nat} {o : Obj} {F : Fr} (h : SF w [b] [(b, o)] [] F [] w') (hb : w.heap[b]? = some o) : SF w [] [] [] F [] w' := by
  have hs : St w [] [] w' := ⟨h.st.os, h.st.tape, h.st.output, h.st.size, fun k hk _ => by
    by_cases e : k = b
    · subst e; rw [h.st.has (k, o) (List.mem_singleton.2 rfl), hb]
    · exact h.st.keep k hk (by simpa using e), fun _ h => (List.not_mem_nil h).elim, fun _ h => (List.not_mem_nil h).elim, List.nodup_nil⟩
  refine ⟨hs, fun _ h => (List.not_mem_nil h).elim, fun f hf => ⟨(h.new f hf).1, fun hc => ?_⟩, fun _ h => (List.not_mem_nil h).elim, by simp [Ks]⟩
  obtain ⟨h1, h2⟩ := (h.new f hf).2 hc
  refine ⟨by simp [Ks], ?_⟩
  rcases h2 with h2 | h2
  · exact .inl h2
  · exact absurd (List.mem_singleton.1 h2) (by simpa [Ks] using h1)
/-- What plan makes of a tape: the first i accesses, and the place behind them. -/
def planS (l : List Int) (nc : Int) : Nat → List Ac × Nat
  | 0 => ([], tiN l 0)
  | i + 1 => let s := planS l nc i
    (s.1 ++ [⟨(tvN l s.2 4 : Nat), (tvN l (tiN l s.2) nc : Nat), (tvN l (tiN l (tiN l s.2)) 5 : Nat), (tvN l (tiN l (tiN l (tiN l s.2))) 5 : Nat)⟩], tiN l (tiN l (tiN l (tiN l s.2))))
def planF (l : List Int) (nc : Int) : List Ac := (planS l nc (tvN l 0 14)).1
theorem planS_len (l : List Int) (nc : Int) : ∀ i, (planS l nc i).1.length = i
  | 0 => rfl
  | i + 1 => by simp [planS, planS_len l nc i]
end Go.Ct
namespace Go.Proofs.Ytmogngagpphnhaa
open Go Go.RowKit Go.Ct
end Go.Proofs.Ytmogngagpphnhaa

/- The laws of tasks: plans out of a tape; an arena and a memory of one state. -/
set_option linter.unusedSimpArgs false
set_option linter.unusedVariables false
namespace Go.Proofs.Ytmogngagpphnhaa
open Go Go.RowKit Go.Ct
/-- An arena and a memory of one state. -/
structure PSt (s : PS) : Prop where
  rel : s.Rel
  hL : s.Lm.length ≤ 10
  hC : s.cs.length ≤ 10
  two : 2 ≤ s.Lm.length
  acca : s.acca = 0
  accm : s.accm = 0
theorem states_c {l : List Int} {a : Option Addr} {c : Nat} {w : World} (ha : Cl w a (refsC l)) (hl : l.length ≤ 17592186043904) :
    Calls Try.prog 39 #[.slice a l.length c] w fun e w' => ∃ x : PS × Nat × Nat, e = .returned (.tuple #[.pointer (some ⟨x.2.1, 0, none⟩), .pointer (some ⟨x.2.2, 0, none⟩)]) ∧ PSt x.1 ∧ SF w [] [(x.2.1, aO x.1.La x.1.cs x.1.gen 0 x.1.apn x.1.acn x.1.apc x.1.acc), (x.2.2, mO x.1.Lm x.1.cs x.1.gen 0 x.1.mpn x.1.mcn x.1.mpc x.1.mcc)] [] (famF x.1.La ++ famF x.1.Lm) (pOs x.1) w' := by
  refine enter Try.func39 Try.ntmps39 rfl rfl (SF.s1 ha) ?_
  simp only [mkS]
  all_goals (refine k_seq ?_; refine k_region ?_; refine j_assignL (fun _ => ?_); refine j_assignL (fun _ => ?_); refine l_nil ?_; refine k_seq ?_; refine k_region ?_; refine j_move ?_; (refine j_own (cFH (Fc := fun _ => []) (Oc := fun _ => []) (hc := fun w1 hw => new_c)) (fun x8 => ?_); try (refine l_fact (fun h8 => ?_))); (refine j_own (cF1 (hc := fun w1 hw => mMem_c (hw.tape (by repeat (first | exact At.head | apply At.tail)) (by first | exact .new .head | exact .new (.tail .head) | exact .new (.tail (.tail .head)) | exact .new (.tail (.tail (.tail .head))) | exact .new (.tail (.tail (.tail (.tail .head)))) | exact .new (.tail (.tail (.tail (.tail (.tail .head))))) | exact .new (.tail (.tail (.tail (.tail (.tail (.tail .head)))))) | exact .new (.tail (.tail (.tail (.tail (.tail (.tail (.tail .head))))))) | exact .new (.tail (.tail (.tail (.tail (.tail (.tail (.tail (.tail .head)))))))) | exact .new (.tail (.tail (.tail (.tail (.tail (.tail (.tail (.tail (.tail .head))))))))) | exact .old .head | exact .old (.tail .head) | exact .old (.tail (.tail .head)) | exact .old (.tail (.tail (.tail .head))) | exact .old (.tail (.tail (.tail (.tail .head)))) | exact .old (.tail (.tail (.tail (.tail (.tail .head))))) | exact .own .head | exact .own (.tail .head) | exact .own (.tail (.tail .head)) | exact .own (.tail (.tail (.tail .head))) | exact .own (.tail (.tail (.tail (.tail .head)))) | exact .own (.tail (.tail (.tail (.tail (.tail .head))))) | exact .own (.tail (.tail (.tail (.tail (.tail (.tail .head)))))) | exact .own (.tail (.tail (.tail (.tail (.tail (.tail (.tail .head)))))))) hl))) (fun x9 => ?_); try (refine l_fact (fun h9 => ?_))); refine j_assignL (fun _ => ?_); refine l_nil ?_; refine k_seq ?_; refine k_region ?_; refine j_move ?_; refine j_nilCheck ?_; refine j_fieldAddr ?_; refine l_quiet (o_loadPart (k := 3) (by exact rfl) (by repeat (first | exact At.head | apply At.tail)) (by exact agg_of rfl) (by simp only [List.drop_zero, List.take_succ_cons, List.take_zero]; exact rfl) rfl) rfl ?_; (refine j_own (cFH (hc := fun w1 hw => ofOk_c (hw.stAt (.inr (.inr (.inr ⟨_, .head _, rfl, rfl⟩))) (.inr (.inr (.inr ⟨_, .tail _ (.head _), rfl, rfl⟩))) (fun f hf => .inr (.inr (.inl (List.mem_append_left _ hf)))) h9.fit) (by have := h9.hL; omega) (by have := h9.hc; omega) (hw.capV .head) h9.proper)) (fun x15 => ?_); try (refine l_fact (fun h15 => ?_))); refine j_move ?_; refine j_extract ?_; refine j_extract ?_; refine j_assignL (fun _ => ?_); refine j_assignL (fun _ => ?_); refine l_nil ?_; refine k_seq ?_; refine k_region ?_; refine j_move ?_; refine j_move ?_; refine j_assignL (fun _ => ?_); refine j_assignL (fun _ => ?_); refine l_nil ?_)
  all_goals
   refine k_retvF Try.results39 (.tmp (by conv => { lhs; whnf }) (.tmp (by conv => { lhs; whnf }) .nil)) (fun w hw => ?_)
   refine ⟨(⟨x15.2.1, x9.2.1.1, x9.2.1.2, 3, 0, 0, x15.2.2.1.1, x15.2.2.1.2, x15.2.2.2.1, x15.2.2.2.2, x9.2.2.1.1, x9.2.2.1.2, x9.2.2.2.1.1, x9.2.2.2.1.2⟩, x15.1, x9.1), rfl, ⟨PS.Rel.mk0 _ rfl rfl h15.1 h15.2 h9.fit, h9.hL, h9.hc, h9.proper.two, rfl, rfl⟩, ?_⟩
   exact hw.ret (List.Sublist.cons_cons _ (List.Sublist.cons_cons _ (List.nil_sublist _))) (FSub.ofSub fun f hf => by simpa using hf) (List.Sublist.refl _)
theorem o_eqlRsT {S : List (Nat × Value)} {G : World → Prop} {d : Nat} {ty t t' : TypeId} {pos : String} {af : Array Edge} {gd : Option (Nat × Bool)} {x y : Operand} (a : Rs) (hx : ev S x = .agg ⟨a.cells⟩) (hy : ev S y = .agg ⟨a.cells⟩) (ht : plainSt2 Try.prog t [0, 1, 0, 2, 0, 0] [0, 1] = true) : Quiet Try.prog S G ⟨some d, .binOp .eql t x y t', ty, pos, af, gd⟩ (.bool true) := by
  have h := o_eqlRs (P := Try.prog) (G := G) (d := d) (ty := ty) (pos := pos) (af := af) (gd := gd) (t' := t') hx hy ht
  rwa [show decide (a = a) = true from decide_eq_true rfl] at h
/-- The example: two accesses of a cell. -/
def awL : List Ac := [⟨1, 1, 0, 0⟩, ⟨2, 1, 0, 2⟩]
def awR : Rs := ⟨0, false, 0, ⟨#[]⟩, 1, 0, 0, false⟩
def awS : TS := ⟨planP (keepA awL) Rs.zero, [0], 0, 0⟩
theorem aw_run : TS.run 9 awS = ⟨.done awR, [2], 2, 2⟩ := rfl
theorem awRun_c {D : List Nat} {A B : Fr} {pn pc : Option Addr} {cn cc b bt : Nat} {w : World} {c : Cd} (hs : SF w D [(bt, tO b c 0), (b, aO [] [0] 0 0 pn cn pc cc)] A [] (mW [] [0] pn cn pc cc) w) (hr : Rp Try.prog (planP (keepA awL) Rs.zero) c B) (hB : ∀ y ∈ B, y ∈ A) :
    Calls Try.prog 56 #[.pointer (some ⟨bt, 0, none⟩), .int .i64 9] w fun e w' => ∃ F : Fr, e = .returned (.int .i64 2) ∧ True ∧ SF w D [(bt, tO b (doneCd awR) 2), (b, aO [] [2] 0 2 pn cn pc cc)] [] F (mW [] [2] pn cn pc cc) w' := by
  refine (tkRun_c (s := awS) (most := 9) hs hr hB (fun k => ?_) (by decide) (by decide)).mono fun e w' ⟨y, h1, ⟨h2, _⟩, h3⟩ => ?_
  · match k with
    | 0 => decide
    | 1 => decide
    | 2 => decide
    | k + 3 => rw [TS.run_stop' (j := 2) rfl (by omega)]; decide
  · rw [show (9 : Int).toNat = 9 from rfl, aw_run] at h1 h2 h3
    have e1 : y.1 = doneCd awR := h2
    rw [e1] at h3
    exact ⟨y.2, h1, trivial, h3⟩
theorem awake11_c (w : World) : Calls Try.prog 50 #[] w fun e w' => e = .returned (.bool true) ∧ St w [] [] w' := by
  refine enter Try.func50 Try.ntmps50 rfl rfl (SF.s0 w) ?_
  simp only [mkS]
  all_goals (refine k_seq ?_; refine k_region ?_; refine j_assignL (fun _ => ?_); refine l_nil ?_; refine k_seq ?_; refine k_region ?_; (refine j_own (cFH (hc := fun w1 hw => aNew_c w1)) (fun x4 => ?_); try (refine l_fact (fun h4 => ?_))); refine j_assignL (fun _ => ?_); refine l_nil ?_; refine k_seq ?_; refine k_seq ?_; refine k_region ?_; refine j_move ?_; refine j_eql ?_; refine l_nil ?_)
  all_goals
   refine k_if (fun c6 => ?_) (fun c6 => ?_)
   · try (exact absurd c6 (by decide))
     all_goals (revert c6; (first | refine cv1 ?_ | refine cv3 ?_ | refine cv5 ?_ | refine cv7 ?_ | refine cv9 ?_ | refine cvb ?_ | refine cvd ?_ | skip); intro c6)
     all_goals
      cases c6
     all_goals (refine k_seq ?_; refine k_region ?_; refine j_assignL (fun _ => ?_); refine l_nil ?_)
     all_goals
      refine k_rv Try.results50 (fun w hw => ?_)
      exact ⟨rfl, hw.done⟩
   · try (exact absurd c6 (by decide))
     all_goals (revert c6; (first | refine cv2 ?_ | refine cv4 ?_ | refine cv6 ?_ | refine cv8 ?_ | refine cva ?_ | refine cvc ?_ | refine cve ?_ | skip); intro c6)
     all_goals (refine k_skip ?_; refine k_seq ?_; refine k_region ?_; refine j_move ?_; (refine j_own (cM (hc := fun w hs => aNewCell_c (L := []) (cs := []) 0 hs (by decide))) (fun x8 => ?_); try (refine l_fact (fun h8 => ?_))); refine j_assignL (fun _ => ?_); refine l_nil ?_; refine k_seq ?_; refine k_region ?_; refine j_move ?_; refine l_quiet (o_mkI (by exact rfl) (fun w => mkI_arena _ w)) rfl ?_; refine j_move ?_; refine j_build ?_; refine j_move ?_; refine j_build ?_; refine j_buildSlice (fun x15 => ?_); (refine j_own (cFH (V := fun x : Nat × Cd × Fr => .pointer (some ⟨x.1, 0, none⟩)) (Fc := fun x => x.2.2) (Hc := fun x => [(x.1, tO x4 x.2.1 0)]) (Oc := fun _ => []) (hc := fun w1 hw => tkPlan_c (l := awL) (hw.cl (.new .head)) (by decide))) (fun x16 => ?_); try (refine l_fact (fun h16 => ?_))); refine j_assignL (fun _ => ?_); refine l_nil ?_; refine k_seq ?_; refine k_region ?_; refine j_move ?_; refine j_neq ?_; refine j_move ?_)
     all_goals (first | refine j_un ?_ | (refine j_yes ?_; refine j_move ?_) | (refine l_case (g := 19) (by exact rfl) (fun g19 => ?_) (fun g19 => ?_) <;> (revert g19; (first | refine cv1 ?_ | refine cv2 ?_ | refine cvb ?_ | refine cvc ?_ | refine cv9 ?_ | refine cva ?_ | refine cv7 ?_ | refine cv8 ?_ | refine cvd ?_ | refine cve ?_ | skip); intro g19) <;> (first | refine j_un ?_ | (refine j_yes ?_; refine j_move ?_))))
     all_goals (((first | refine j_un ?_ | (refine j_yes ?_; (refine j_own (cM (V := fun _ : Fr => .int .i64 2) (Fc := fun y => y) (A0 := x16.2.2) (hs' := fun _ => [(x16.1, tO x4 (doneCd awR) 2), (x4, aO [] [2] 0 2 none 0 x8.1 x8.2)]) (os' := fun _ => mW [] [2] none 0 x8.1 x8.2) (hA := HasAll.of fun f hf => Or.inr (Or.inr (Or.inl (List.mem_append_left _ hf)))) (hc := fun w hw => awRun_c hw h16 (fun y hy => hy))) (fun x21 => ?_); try (refine l_fact (fun h21 => ?_)))))); (first | refine j_un ?_ | (refine j_yes ?_; refine j_eql ?_)); refine j_pick ?_; refine j_move ?_)
     all_goals (first | refine j_un ?_ | (refine j_yes ?_; refine j_move ?_) | (refine l_case (g := 24) (by exact rfl) (fun g24 => ?_) (fun g24 => ?_) <;> (revert g24; (first | refine cv1 ?_ | refine cv2 ?_ | refine cvb ?_ | refine cvc ?_ | refine cv9 ?_ | refine cva ?_ | refine cv7 ?_ | refine cv8 ?_ | refine cvd ?_ | refine cve ?_ | skip); intro g24) <;> (first | refine j_un ?_ | (refine j_yes ?_; refine j_move ?_))))
     all_goals (((first | refine j_un ?_ | (refine j_yes ?_; (refine j_own (cV (hc := fun w1 hw => tkDone_c (hw.st.at (by repeat (first | exact At.head | apply At.tail))))) (fun x26 => ?_); try (refine l_fact (fun h26 => ?_)))))); refine j_pick ?_; refine j_move ?_)
     all_goals (first | refine j_un ?_ | (refine j_yes ?_; refine j_move ?_) | (refine l_case (g := 28) (by exact rfl) (fun g28 => ?_) (fun g28 => ?_) <;> (revert g28; (first | refine cv1 ?_ | refine cv2 ?_ | refine cvb ?_ | refine cvc ?_ | refine cv9 ?_ | refine cva ?_ | refine cv7 ?_ | refine cv8 ?_ | refine cvd ?_ | refine cve ?_ | skip); intro g28) <;> (first | refine j_un ?_ | (refine j_yes ?_; refine j_move ?_))))
     all_goals (((first | refine j_un ?_ | (refine j_yes ?_; (refine j_own (cV (hc := fun w1 hw => tkResult_c (hw.st.at (by repeat (first | exact At.head | apply At.tail))))) (fun x30 => ?_); try (refine l_fact (fun h30 => ?_)))))); (first | refine j_un ?_ | (refine j_yes ?_; refine j_build ?_)); (first | refine j_un ?_ | (refine j_yes ?_; refine l_quiet (o_eqlRsT awR (by exact rfl) (by exact rfl) (rsT rfl)) rfl ?_)); refine j_pick ?_; refine j_move ?_)
     all_goals (first | refine j_un ?_ | (refine j_yes ?_; refine j_move ?_) | (refine l_case (g := 34) (by exact rfl) (fun g34 => ?_) (fun g34 => ?_) <;> (revert g34; (first | refine cv1 ?_ | refine cv2 ?_ | refine cvb ?_ | refine cvc ?_ | refine cv9 ?_ | refine cva ?_ | refine cv7 ?_ | refine cv8 ?_ | refine cvd ?_ | refine cve ?_ | skip); intro g34) <;> (first | refine j_un ?_ | (refine j_yes ?_; refine j_move ?_))))
     all_goals (((first | refine j_un ?_ | (refine j_yes ?_; (refine j_own (cV (hc := fun w1 hw => tkSteps_c (hw.st.at (by repeat (first | exact At.head | apply At.tail))))) (fun x36 => ?_); try (refine l_fact (fun h36 => ?_)))))); (first | refine j_un ?_ | (refine j_yes ?_; refine j_eql ?_)); refine j_pick ?_; refine j_move ?_)
     all_goals (first | refine j_un ?_ | (refine j_yes ?_; refine j_move ?_) | (refine l_case (g := 39) (by exact rfl) (fun g39 => ?_) (fun g39 => ?_) <;> (revert g39; (first | refine cv1 ?_ | refine cv2 ?_ | refine cvb ?_ | refine cvc ?_ | refine cv9 ?_ | refine cva ?_ | refine cv7 ?_ | refine cv8 ?_ | refine cvd ?_ | refine cve ?_ | skip); intro g39) <;> (first | refine j_un ?_ | (refine j_yes ?_; refine j_move ?_))))
     all_goals ((first | refine j_un ?_ | (refine j_yes ?_; refine j_move ?_)); ((first | refine j_un ?_ | (refine j_yes ?_; (refine j_own (cM (hc := fun w hs => aLoad_c (L := []) (cs := [2]) hs 1 (by decide) (by decide))) (fun x42 => ?_); try (refine l_fact (fun h42 => ?_)))))); (first | refine j_un ?_ | (refine j_yes ?_; refine j_eql ?_)); refine j_pick ?_; refine j_assignL (fun _ => ?_); refine l_nil ?_)
     all_goals
      refine k_rv Try.results50 (fun w hw => ?_)
      exact ⟨rfl, hw.done⟩
end Go.Proofs.Ytmogngagpphnhaa

/- The laws of tasks: what a plan makes, run by steps. -/
set_option linter.unusedSimpArgs false
set_option linter.unusedVariables false
namespace Go.Ct
open Go Go.RowKit
def fRs : List Ac → List Int → Rs → Rs
  | [], _, r => r
  | a :: l, cs, r => fRs l (doCs cs a) (doRs cs a r)
def fCs : List Ac → List Int → List Int
  | [], cs => cs
  | a :: l, cs => fCs l (doCs cs a)
theorem fCs_length : ∀ (l : List Ac) (cs : List Int), (fCs l cs).length = cs.length
  | [], _ => rfl
  | a :: l, cs => by rw [fCs, fCs_length l, doCs_length]
theorem doRs_cnt (cs : List Int) (a : Ac) (r : Rs) : r.cnt ≤ (doRs cs a r).cnt ∧ (doRs cs a r).cnt ≤ r.cnt + 1 := by
  unfold doRs
  split
  · exact ⟨Int.le_refl _, by show r.cnt ≤ r.cnt + 1; omega⟩
  · split
    · exact ⟨by show r.cnt ≤ r.cnt + 1; omega, Int.le_refl _⟩
    · exact ⟨Int.le_refl _, by omega⟩
theorem fRs_cnt : ∀ (l : List Ac) (cs : List Int) (r : Rs), r.cnt ≤ (fRs l cs r).cnt ∧ (fRs l cs r).cnt ≤ r.cnt + (l.length : Int)
  | [], _, _ => ⟨Int.le_refl _, by simp [fRs]⟩
  | a :: l, cs, r => by
    have h1 := fRs_cnt l (doCs cs a) (doRs cs a r)
    have h2 := doRs_cnt cs a r
    simp only [fRs, List.length_cons]
    omega
theorem fRs_push : ∀ (l : List Ac) (cs : List Int) (r : Rs) (a : Ac), fRs (l ++ [a]) cs r = doRs (fCs l cs) a (fRs l cs r)
  | [], _, _, _ => rfl
  | b :: l, cs, r, a => by
    show fRs (l ++ [a]) (doCs cs b) (doRs cs b r) = _
    rw [fRs_push l]
    rfl
theorem fCs_push : ∀ (l : List Ac) (cs : List Int) (a : Ac), fCs (l ++ [a]) cs = doCs (fCs l cs) a
  | [], _, _ => rfl
  | b :: l, cs, a => by
    show fCs (l ++ [a]) (doCs cs b) = _
    rw [fCs_push l]
    rfl
theorem TS.run_step (s : TS) : ∀ k, TS.run k s.step = TS.run (k + 1) s
  | 0 => rfl
  | k + 1 => by
    show (TS.run k s.step).step = (TS.run (k + 1) s).step
    rw [TS.run_step s k]
theorem up_nat {m : Nat} (h : m < 9223372036854775807) : up ((m : Nat) : Int) = ((m + 1 : Nat) : Int) := by
  unfold up
  rw [wrap_i64 (by omega) (by omega)]
  omega
theorem run_plan : ∀ (k : Nat) (l : List Ac) (r : Rs) (cs : List Int) (m n : Nat), m + l.length < 1000000000000 →
    TS.run k ⟨planP l r, cs, ((m : Nat) : Int), n⟩ = ⟨planP (l.drop k) (fRs (l.take k) cs r), fCs (l.take k) cs, ((m + min k l.length : Nat) : Int), n + min k l.length⟩
  | 0, l, r, cs, m, n, _ => by simp [TS.run, fRs, fCs]
  | k + 1, [], r, cs, m, n, h => by
    rw [← TS.run_step, TS.step_done rfl, run_plan k [] r cs m n h]
    simp [fRs, fCs]
  | k + 1, a :: l, r, cs, m, n, h => by
    simp only [List.length_cons] at h
    rw [← TS.run_step, TS.step_live (planP_live a l r)]
    show TS.run k ⟨(planP (a :: l) r).next cs, (planP (a :: l) r).cells cs, up ((m : Nat) : Int), n + 1⟩ = _
    rw [planP_next, planP_cells, up_nat (by omega), run_plan k l _ _ _ _ (by omega)]
    simp only [List.drop_succ_cons, List.take_succ_cons, List.length_cons, fRs, fCs]
    congr 1
    · congr 1; omega
    · omega
theorem planP_show (l : List Ac) : ∀ r, planP (l.map showA) r = planP l r := by
  induction l with
  | nil => exact fun _ => rfl
  | cons a l ih =>
    intro r
    rw [List.map_cons, planP_eq, planP_eq]
    by_cases h : a.k = 1
    · rw [if_pos (by rw [showA_k]; exact h), if_pos h, showA_c]
      congr 1
      funext v
      exact ih _
    · rw [show showA a = a from if_neg h, if_neg h, if_neg h]
      congr 1
      funext v
      exact ih _
theorem planP_made (l : List Ac) (r : Rs) : planP (keepA l) r = planP (madeA l) r := (planP_show _ r).symm
theorem keepA_made (l : List Ac) : keepA (madeA l) = madeA l := by
  unfold madeA keepA
  rw [List.filter_eq_self]
  intro a ha
  obtain ⟨b, hb, rfl⟩ := List.mem_map.1 ha
  have := (List.mem_filter.1 hb).2
  rw [showA_k]
  exact this
def AcsR (l : List Ac) : Prop := ∀ a ∈ l, a.c ≤ 9223372036854775807
theorem AcsR.made {l : List Ac} (h : AcsR l) : AcsR (madeA l) := fun a ha => by
  obtain ⟨b, hb, rfl⟩ := List.mem_map.1 ha
  rw [showA_c]
  exact h b (List.mem_filter.1 hb).1
theorem AcsR.drop {l : List Ac} (h : AcsR l) (k : Nat) : AcsR (l.drop k) := fun a ha => h a (List.drop_subset _ _ ha)
theorem planP_clR {l : List Ac} (h : AcsR l) (r : Rs) : (planP l r).cl ≤ 9223372036854775807 := by
  cases l with
  | nil => exact (by decide : (0 : Int) ≤ 9223372036854775807)
  | cons a l => rw [planP_cl]; exact h a (List.mem_cons_self ..)
theorem planS_R (l : List Int) (nc : Int) (h : 0 < nc) (h2 : nc ≤ 100000000) : ∀ i, AcsR (planS l nc i).1
  | 0 => fun a ha => (List.not_mem_nil ha).elim
  | i + 1 => fun a ha => by
    rcases List.mem_append.1 ha with ha | ha
    · exact planS_R l nc h h2 i a ha
    · rw [List.mem_singleton.1 ha]
      show ((tvN l _ nc : Nat) : Int) ≤ _
      have : ∀ q, ((tvN l q nc : Nat) : Int) < nc := fun q => by
        unfold tvN
        split
        · have := modv_bound (v := l.getD q 0) h (by omega)
          omega
        · omega
      have := this (tiN l (planS l nc i).2)
      omega
theorem fRs_append : ∀ (l m : List Ac) (cs : List Int) (r : Rs), fRs (l ++ m) cs r = fRs m (fCs l cs) (fRs l cs r)
  | [], _, _, _ => rfl
  | a :: l, m, cs, r => fRs_append l m (doCs cs a) (doRs cs a r)
theorem fCs_append : ∀ (l m : List Ac) (cs : List Int), fCs (l ++ m) cs = fCs m (fCs l cs)
  | [], _, _ => rfl
  | a :: l, m, cs => fCs_append l m (doCs cs a)
theorem fRs_split (l : List Ac) (k : Nat) (cs : List Int) (r : Rs) : fRs (l.drop k) (fCs (l.take k) cs) (fRs (l.take k) cs r) = fRs l cs r := by
  rw [← fRs_append, List.take_append_drop]
theorem fCs_split (l : List Ac) (k : Nat) (cs : List Int) : fCs (l.drop k) (fCs (l.take k) cs) = fCs l cs := by
  rw [← fCs_append, List.take_append_drop]
theorem AcsR.at {l : List Ac} (h : AcsR l) (k : Nat) : (l.getD k Ac.zero).c ≤ 9223372036854775807 := by
  by_cases hk : k < l.length
  · exact h _ (by rw [List.getD_eq_getElem?_getD, List.getElem?_eq_getElem hk]; exact List.getElem_mem _)
  · rw [List.getD_eq_getElem?_getD, List.getElem?_eq_none (by omega)]
    exact (by decide : (0 : Int) ≤ 9223372036854775807)
end Go.Ct
namespace Go.Proofs.Ytmogngagpphnhaa
open Go Go.RowKit Go.Ct
theorem planF_len (l : List Int) (nc : Int) : (planF l nc).length = tvN l 0 14 := planS_len l nc _
theorem planF_le (l : List Int) (nc : Int) : (planF l nc).length ≤ 13 := by
  rw [planF_len]
  unfold tvN
  split
  · have := modv_bound (v := l.getD 0 0) (n := 14) (by decide) (by decide)
    omega
  · omega
theorem madeF_le (l : List Int) (nc : Int) : (madeA (planF l nc)).length ≤ 13 := Nat.le_trans (madeA_len _) (planF_le l nc)
section
variable {D : List Nat} {A B : Fr} {L : List NdV} {cs : List Int} {gen acc : Int} {pn pc : Option Addr} {cn cc b bt n m : Nat} {w : World} {c : Cd} {r : Rs} {l : List Ac}
theorem plRun_c {most : Int} (hs : SF w D [(bt, tO b c n), (b, aO L cs gen ((m : Nat) : Int) pn cn pc cc)] A [] (mW L cs pn cn pc cc) w) (hr : Rp Try.prog (planP l r) c B) (hB : ∀ y ∈ B, y ∈ A) (hx : AcsR l) (hl : cs.length ≤ 274877906944) (hn : n + most.toNat < 1000000000) (hm : m + l.length < 1000000000000) :
    Calls Try.prog 56 #[.pointer (some ⟨bt, 0, none⟩), .int .i64 most] w fun e w' => ∃ y : Cd × Fr, e = .returned (.int .i64 ((min most.toNat l.length : Nat) : Int)) ∧ Rp Try.prog (planP (l.drop most.toNat) (fRs (l.take most.toNat) cs r)) y.1 (y.2 ++ B) ∧ SF w D [(bt, tO b y.1 (n + min most.toNat l.length)), (b, aO L (fCs (l.take most.toNat) cs) gen ((m + min most.toNat l.length : Nat) : Int) pn cn pc cc)] [] y.2 (mW L (fCs (l.take most.toNat) cs) pn cn pc cc) w' := by
  refine (tkRun_c (s := ⟨planP l r, cs, ((m : Nat) : Int), n⟩) (most := most) hs hr hB (fun k => ?_) hl hn).mono fun e w' ⟨y, h1, ⟨h2, _⟩, h3⟩ => ?_
  · rw [run_plan k l r cs m n hm]
    exact planP_clR (hx.drop k) _
  · rw [run_plan _ l r cs m n hm] at h1 h2 h3
    refine ⟨y, ?_, h2, h3⟩
    rw [h1]
    simp only [Nat.add_sub_cancel_left]
/-- The same where all accesses are made. -/
theorem plAll_c {most : Int} (hs : SF w D [(bt, tO b c n), (b, aO L cs gen ((m : Nat) : Int) pn cn pc cc)] A [] (mW L cs pn cn pc cc) w) (hr : Rp Try.prog (planP l r) c B) (hB : ∀ y ∈ B, y ∈ A) (hx : AcsR l) (hl : cs.length ≤ 274877906944) (hn : n + most.toNat < 1000000000) (hm : m + l.length < 1000000000000) (hk : l.length ≤ most.toNat) :
    Calls Try.prog 56 #[.pointer (some ⟨bt, 0, none⟩), .int .i64 most] w fun e w' => ∃ F : Fr, e = .returned (.int .i64 ((l.length : Nat) : Int)) ∧ True ∧ SF w D [(bt, tO b (doneCd (fRs l cs r)) (n + l.length)), (b, aO L (fCs l cs) gen ((m + l.length : Nat) : Int) pn cn pc cc)] [] F (mW L (fCs l cs) pn cn pc cc) w' := by
  refine (plRun_c hs hr hB hx hl hn hm).mono fun e w' ⟨y, h1, h2, h3⟩ => ?_
  rw [Nat.min_eq_right hk] at h1 h3
  rw [List.drop_eq_nil_of_le hk, List.take_of_length_le hk] at h2
  rw [List.take_of_length_le hk] at h3
  have e1 : y.1 = doneCd (fRs l cs r) := h2
  rw [e1] at h3
  exact ⟨y.2, h1, trivial, h3⟩
/-- A finished task makes no step. -/
theorem plStepD_c {acc : Int} (hs : SF w D [(bt, tO b (doneCd r) n), (b, aO L cs gen acc pn cn pc cc)] A [] (mW L cs pn cn pc cc) w) :
    Calls Try.prog 45 #[.pointer (some ⟨bt, 0, none⟩)] w fun e w' => ∃ q : Unit, e = .returned (.tuple #[]) ∧ True ∧ SF w D [(bt, tO b (doneCd r) n), (b, aO L cs gen acc pn cn pc cc)] [] [] (mW L cs pn cn pc cc) w' :=
  (tkStep_done hs rfl).mono fun e w' ⟨h1, h2⟩ => ⟨(), h1, trivial, h2⟩
theorem plRunD_c {most : Int} (hs : SF w D [(bt, tO b (doneCd r) n), (b, aO L cs gen ((m : Nat) : Int) pn cn pc cc)] A [] (mW L cs pn cn pc cc) w) (hl : cs.length ≤ 274877906944) (hn : n + most.toNat < 1000000000) (hm : m < 1000000000000) :
    Calls Try.prog 56 #[.pointer (some ⟨bt, 0, none⟩), .int .i64 most] w fun e w' => ∃ F : Fr, e = .returned (.int .i64 0) ∧ True ∧ SF w D [(bt, tO b (doneCd r) n), (b, aO L cs gen ((m : Nat) : Int) pn cn pc cc)] [] F (mW L cs pn cn pc cc) w' :=
  plAll_c (l := []) (r := r) (B := []) hs rfl (fun _ h => (List.not_mem_nil h).elim) (fun _ h => (List.not_mem_nil h).elim) hl hn (by simpa using hm) (Nat.zero_le _)
end
end Go.Proofs.Ytmogngagpphnhaa

/- TaskPlans: what it needs. -/
set_option linter.unusedSimpArgs false
set_option linter.unusedVariables false
namespace Go.Ct
open Go Go.RowKit
section
variable {P : Program} {S : List (Nat × Value)} {G : World → Prop} {d : Nat} {ty t t' e : TypeId} {pos : String} {af : Array Edge} {gd : Option (Nat × Bool)} {x y : Operand} {w0 : World} {M : List Nat} {H : List (Nat × Obj)} {A F : Fr} {O : List Ow} {a : Option Addr}
/-- An element of a list of one-cell elements. -/
theorem o_indexF {cs : List Value} {kk : IntKind} {m c k : Nat} (hx : ev S x = .slice a m c) (hy : ev S y = .int kk ((k : Nat) : Int)) (ht : P.underlying t = some (.slice e)) (hs : one P e = true) (hf : FIn A F O a cs) (h1 : k < m) (h2 : k < cs.length) :
    Quiet P S (SF w0 M H A F O) ⟨some d, .indexAddr t x y, ty, pos, af, gd⟩ (.pointer (some ⟨ablk a, aoff a + k, none⟩)) := ⟨fun w hw =>
  (o_index1 (G := SF w0 M H A F O) hx hy ht hs ((hw.cl hf).ptr (by omega)) h1).run w hw⟩
theorem o_neqAcF (a : Ac) (hx : ev S x = .agg ⟨a.cells⟩) (hy : ev S y = .agg ⟨a.cells⟩) (ht : plainSt P t [0, 0, 0, 0] = true) : Quiet P S G ⟨some d, .binOp .neq t x y t', ty, pos, af, gd⟩ (.bool false) := by
  have h := o_neqAc (P := P) (G := G) (d := d) (ty := ty) (pos := pos) (af := af) (gd := gd) (t' := t') hx hy ht
  rwa [show (!decide (a = a)) = false by simp] at h
theorem o_neqRsF (a b : Rs) (e : a = b) (hx : ev S x = .agg ⟨a.cells⟩) (hy : ev S y = .agg ⟨b.cells⟩) (ht : plainSt2 P t [0, 1, 0, 2, 0, 0] [0, 1] = true) : Quiet P S G ⟨some d, .binOp .neq t x y t', ty, pos, af, gd⟩ (.bool false) := by
  subst e
  have h := o_neqRs (P := P) (G := G) (d := d) (ty := ty) (pos := pos) (af := af) (gd := gd) (t' := t') hx hy ht
  rwa [show (!decide (a = a)) = false by simp] at h
end
/-- One of two lists. -/
def pickE (k : Nat) (a b : Option Addr × List Ac × Nat) : Option Addr × List Ac × Nat := if k = 0 then a else b
abbrev slE (a : Option Addr × List Ac × Nat) : Value := .slice a.1 a.2.1.length a.2.2
theorem pick_get {k : Nat} (hk : k < 2) (a b : Option Addr × List Ac × Nat) : ([slE a, slE b] : List Value)[k]? = some (slE (pickE k a b)) := by
  match k, hk with
  | 0, _ => rfl
  | 1, _ => rfl
/-- The next code of a plan shows the next access. -/
theorem plan_shows {P : Program} {l : List Ac} {a : Ac} {r : Rs} {c : Cd} {B : Fr} (h : Rp P (planP (showA a :: l) r) c B) (hk : a.k = 1 ∨ a.k = 2) : c.a = showA a := by
  rw [planP_eq] at h
  rw [showA_k] at h
  by_cases h1 : a.k = 1
  · rw [if_pos h1] at h
    obtain ⟨f, cap, hc, _⟩ := h
    rw [hc]
    show (⟨1, (showA a).c, 0, 0⟩ : Ac) = _
    rw [showA_c]
    exact (if_pos h1).symm
  · rw [if_neg h1] at h
    obtain ⟨f, cap, hc, _⟩ := h
    rw [hc, show showA a = a from if_neg h1]
    obtain ⟨k, c, o, n⟩ := a
    rcases hk with hk | hk
    · exact absurd hk h1
    · simp only at hk
      subst hk
      rfl
theorem made_at {l : List Ac} {i : Nat} (hi : i < (madeA l).length) : ∃ a : Ac, (a.k = 1 ∨ a.k = 2) ∧ (madeA l).getD i Ac.zero = showA a ∧ (madeA l).drop i = showA a :: (madeA l).drop (i + 1) := by
  have h1 : (madeA l)[i] ∈ madeA l := List.getElem_mem _
  obtain ⟨a, ha, he⟩ := List.mem_map.1 h1
  have h2 := (List.mem_filter.1 ha).2
  refine ⟨a, of_decide_eq_true h2, ?_, ?_⟩
  · rw [List.getD_eq_getElem?_getD, List.getElem?_eq_getElem hi, he]
    rfl
  · rw [he, List.drop_eq_getElem_cons hi]
end Go.Ct
namespace Go.Proofs.Ytmogngagpphnhaa
open Go Go.RowKit Go.Ct
section
variable {D : List Nat} {A B : Fr} {L : List NdV} {cs : List Int} {gen acc : Int} {pn pc : Option Addr} {cn cc b bt n m : Nat} {w : World} {c : Cd} {r : Rs} {l : List Ac} {x : Ac}
theorem elem_acss : ElemIs Try.prog 101 94 [.slice none 0 0] := elem_mk (z := .slice none 0 0) (by kernel_rfl) (by kernel_rfl) rfl
/-- What a task shows that has an access to make. -/
theorem tkNextA_c (h : w.heap[bt]? = some (tO b c n)) (hk : c.a.k ≠ 0) (hx : c.a = x) : Calls Try.prog 44 #[.pointer (some ⟨bt, 0, none⟩)] w fun e w' => e = .returned (.tuple #[.agg ⟨x.cells⟩, .bool true]) ∧ St w [] [] w' :=
  (tkNext_c h).mono fun e w' ⟨he, hs⟩ => ⟨by rw [he, if_neg hk, hx, show (x.k != 0) = true by rw [← hx]; simpa using hk], hs⟩
theorem tkNextD_c (h : w.heap[bt]? = some (tO b c n)) (hk : c.a.k = 0) : Calls Try.prog 44 #[.pointer (some ⟨bt, 0, none⟩)] w fun e w' => e = .returned (.tuple #[.agg ⟨Ac.zero.cells⟩, .bool false]) ∧ St w [] [] w' :=
  (tkNext_c h).mono fun e w' ⟨he, hs⟩ => ⟨by rw [he, if_pos hk, show (c.a.k != 0) = false by simpa using hk], hs⟩
theorem tkDoneA_c (h : w.heap[bt]? = some (tO b c n)) (hk : c.a.k ≠ 0) : Calls Try.prog 51 #[.pointer (some ⟨bt, 0, none⟩)] w fun e w' => e = .returned (.bool false) ∧ St w [] [] w' :=
  (tkDone_c h).mono fun e w' ⟨he, hs⟩ => ⟨by rw [he, show (c.a.k == 0) = false by simpa using hk], hs⟩
theorem tkDoneD_c (h : w.heap[bt]? = some (tO b (doneCd r) n)) : Calls Try.prog 51 #[.pointer (some ⟨bt, 0, none⟩)] w fun e w' => e = .returned (.bool true) ∧ St w [] [] w' := tkDone_c h
theorem tkResA_c (h : w.heap[bt]? = some (tO b c n)) (hk : c.a.k ≠ 0) : Calls Try.prog 52 #[.pointer (some ⟨bt, 0, none⟩)] w fun e w' => e = .returned (.agg ⟨Rs.zero.cells⟩) ∧ St w [] [] w' :=
  (tkResult_c h).mono fun e w' ⟨he, hs⟩ => ⟨by rw [he, if_neg hk], hs⟩
theorem tkResD_c (h : w.heap[bt]? = some (tO b (doneCd r) n)) : Calls Try.prog 52 #[.pointer (some ⟨bt, 0, none⟩)] w fun e w' => e = .returned (.agg ⟨r.cells⟩) ∧ St w [] [] w' :=
  (tkResult_c h).mono fun e w' ⟨he, hs⟩ => ⟨by rw [he, if_pos rfl], hs⟩
theorem plStep_c (hs : SF w D [(bt, tO b c n), (b, aO L cs gen ((m : Nat) : Int) pn cn pc cc)] A [] (mW L cs pn cn pc cc) w) (hr : Rp Try.prog (planP (x :: l) r) c B) (hB : ∀ y ∈ B, y ∈ A) (hx : x.c ≤ 9223372036854775807) (hl : cs.length ≤ 274877906944) (hn : n < 1000000000) (hm : m < 1000000000000) :
    Calls Try.prog 45 #[.pointer (some ⟨bt, 0, none⟩)] w fun e w' => ∃ y : Cd × Fr, e = .returned (.tuple #[]) ∧ Rp Try.prog (planP l (doRs cs x r)) y.1 (y.2 ++ B) ∧ SF w D [(bt, tO b y.1 (n + 1)), (b, aO L (doCs cs x) gen ((m + 1 : Nat) : Int) pn cn pc cc)] [] y.2 (mW L (doCs cs x) pn cn pc cc) w' := by
  have h := tkStep_live hs hr hB (planP_live x l r) (by rw [planP_cl]; exact hx) hl hn
  rw [planP_next, planP_cells, up_nat (by omega)] at h
  exact h
end
end Go.Proofs.Ytmogngagpphnhaa
