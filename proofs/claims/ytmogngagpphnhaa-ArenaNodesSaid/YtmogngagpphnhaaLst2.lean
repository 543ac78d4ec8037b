/- The engine, part 8: lists of numbers and of pairs: append, copy, stores, parts. -/
import Derived.Test.YtmogngagpphnhaaLst
set_option linter.unusedSimpArgs false
set_option linter.unusedVariables false
namespace Go.Ct
open Go Go.RowKit

section
variable {P : Program} {n : Nat} {S : List (Nat × Value)}
variable {w0 w w' : World} {M : List Nat} {H H' : List (Nat × Obj)} {A F F' : Fr} {O O' : List Ow} {G : World → Prop}
variable {d : Nat} {ty : TypeId} {pos : String} {af : Array Edge} {gd : Option (Nat × Bool)} {dst : Option Nat} {x y z : Operand} {t t2 e : TypeId} {p a : Option Addr} {i m k c c2 : Nat}

theorem refsC_append (a b : List Int) : refsC (a ++ b) = refsC a ++ refsC b := by simp [refsC]
theorem Loud.conv {o : Oper} {X : Type} {V : X → Value} {G1 G2 : X → World → Prop} (h : Loud P S G o X V G1) (hG : ∀ x w, G1 x w → G2 x w) : Loud P S G o X V G2 := ⟨fun w hw => (h.run w hw).mono hG⟩
theorem Loud.conv1 {o : Oper} {X : Type} {V : X → Value} {G1 G2 : X → World → Prop} (h : Loud P S G o X V G1) (hG : ∀ x w, G1 x w → G2 x w) : Loud P S G o X V G2 := h.conv hG
theorem Loud.convO {o : Oper} {X : Type} {V : X → Value} {O' O1 : X → List Ow} (h : Loud P S G o X V (fun x => SF w0 M H A F (O' x))) (hO : ∀ x, O' x = O1 x) : Loud P S G o X V (fun x => SF w0 M H A F (O1 x)) := h.conv fun x w h => by rw [hO x] at h; exact h
theorem Loud.convOF {o : Oper} {X : Type} {V : X → Value} {φ : X → Prop} {O' O1 : X → List Ow} (h : Loud P S G o X V (fun x w => φ x ∧ SF w0 M H A F (O' x) w)) (hO : ∀ x, O' x = O1 x) : Loud P S G o X V (fun x w => φ x ∧ SF w0 M H A F (O1 x) w) := h.conv fun x w h => by rw [hO x] at h; exact h
theorem o_appR {l l2 : List Int} (hx : ev S x = .slice p m c) (hy : ev S y = .slice a k c2) (ho : OAt O i p (refsC l) c e 1) (hm : l.length = m) (hf : FIn A F O a (refsC l2)) (hk : l2.length = k)
    (he : ElemIs P t e [.int .i64 0]) (ht2 : P.underlying t2 = some (.slice e)) (hb : m + k ≤ 549755813888) :
    Loud P S (SF w0 M H A F O) ⟨some d, .call { callee := .builtin .append, args := #[x, y], argTypes := #[t, t2] }, ty, pos, af, gd⟩ (Option Addr × Nat) (fun q => .slice q.1 (m + k) q.2)
      (fun q w => m + k ≤ q.2 ∧ SF w0 M H A F (setO O i ⟨q.1, refsC (l ++ l2), q.2, e, 1⟩) w) := by
  rw [refsC_append]
  exact o_append hx hy ho (by rw [refsC_length]; omega) hf (by rw [refsC_length]; omega) (oneCells_refsC l2) he rfl (by decide) ht2 hb
theorem o_appP {l l2 : List Pr} (hx : ev S x = .slice p m c) (hy : ev S y = .slice a k c2) (ho : OAt O i p (prC l) c e 2) (hm : l.length = m) (hf : FIn A F O a (prC l2)) (hk : l2.length = k)
    (he : ElemIs P t e [.string ⟨#[]⟩, .int .u64 0]) (ht2 : P.underlying t2 = some (.slice e)) (hb : m + k ≤ 549755813888) :
    Loud P S (SF w0 M H A F O) ⟨some d, .call { callee := .builtin .append, args := #[x, y], argTypes := #[t, t2] }, ty, pos, af, gd⟩ (Option Addr × Nat) (fun q => .slice q.1 (m + k) q.2)
      (fun q w => m + k ≤ q.2 ∧ SF w0 M H A F (setO O i ⟨q.1, prC (l ++ l2), q.2, e, 2⟩) w) := by
  rw [prC_append]
  exact o_append hx hy ho (by rw [prC_length]; omega) hf (by rw [prC_length]; omega) (oneCells_prC l2) he rfl (by decide) ht2 hb
theorem o_appR1 {l : List Int} {v : Int} (hx : ev S x = .slice p m c) (hy : ev S y = .slice a 1 c2) (ho : OAt O i p (refsC l) c e 1) (hm : l.length = m) (hf : FIn A F O a [.int .i64 v])
    (he : ElemIs P t e [.int .i64 0]) (ht2 : P.underlying t2 = some (.slice e)) (hb : m + 1 ≤ 549755813888) :
    Loud P S (SF w0 M H A F O) ⟨some d, .call { callee := .builtin .append, args := #[x, y], argTypes := #[t, t2] }, ty, pos, af, gd⟩ (Option Addr × Nat) (fun q => .slice q.1 (m + 1) q.2)
      (fun q w => m + 1 ≤ q.2 ∧ SF w0 M H A F (setO O i ⟨q.1, refsC (l ++ [v]), q.2, e, 1⟩) w) := o_appR (l2 := [v]) hx hy ho hm hf rfl he ht2 hb
theorem o_appP1 {l : List Pr} {s : ByteArray} {v : Int} (hx : ev S x = .slice p m c) (hy : ev S y = .slice a 1 c2) (ho : OAt O i p (prC l) c e 2) (hm : l.length = m) (hf : FIn A F O a [.string s, .int .u64 v])
    (he : ElemIs P t e [.string ⟨#[]⟩, .int .u64 0]) (ht2 : P.underlying t2 = some (.slice e)) (hb : m + 1 ≤ 549755813888) :
    Loud P S (SF w0 M H A F O) ⟨some d, .call { callee := .builtin .append, args := #[x, y], argTypes := #[t, t2] }, ty, pos, af, gd⟩ (Option Addr × Nat) (fun q => .slice q.1 (m + 1) q.2)
      (fun q w => m + 1 ≤ q.2 ∧ SF w0 M H A F (setO O i ⟨q.1, prC (l ++ [(s, v)]), q.2, e, 2⟩) w) := o_appP (l2 := [(s, v)]) hx hy ho hm hf rfl he ht2 hb

/-! ### A literal of no element -/
theorem o_build0 {zc : List Value} (he : ElemIs P t e zc) : Loud P S (SF w0 M H A F O) ⟨some d, .buildSlice t 0 #[], ty, pos, af, gd⟩ Nat (fun b => .slice (some ⟨b, 0, none⟩) 0 0) (fun b => SF w0 M H A F (⟨some ⟨b, 0, none⟩, [], 0, e, zc.length⟩ :: O)) :=
  loud_value fun w hw => by
    obtain ⟨i, z, hi, hz, hzc, hs, hb⟩ := he.z
    refine ⟨w.heap.size, w.alloc (.cells ⟨[]⟩ e (0, 0)), ?_, hw.addOwn (chg_alloc w _) (.inr ⟨w.heap.size, [], rfl, heap_alloc_new w _, by simp⟩) (by simp [oblk]) (oblk_nodup _)⟩
    simp [execOp, Instr.buildSlice, run_underlying he.sl, sizeOf, typeInfo, hi, Instr.fill, newRow]
    rw [show Array.range 0 = #[] from Array.eq_empty_of_size_eq_zero (by simp), Array.map_empty]
theorem o_build0R (he : ElemIs P t e [.int .i64 0]) : Loud P S (SF w0 M H A F O) ⟨some d, .buildSlice t 0 #[], ty, pos, af, gd⟩ Nat (fun b => .slice (some ⟨b, 0, none⟩) 0 0) (fun b => SF w0 M H A F (⟨some ⟨b, 0, none⟩, refsC [], 0, e, 1⟩ :: O)) := o_build0 he
theorem o_build0P (he : ElemIs P t e [.string ⟨#[]⟩, .int .u64 0]) : Loud P S (SF w0 M H A F O) ⟨some d, .buildSlice t 0 #[], ty, pos, af, gd⟩ Nat (fun b => .slice (some ⟨b, 0, none⟩) 0 0) (fun b => SF w0 M H A F (⟨some ⟨b, 0, none⟩, prC [], 0, e, 2⟩ :: O)) := o_build0 he

/-! ### copy -/
theorem run_cp {args : List Value} {v : Value} {w w1 : World} {at_ : Array TypeId} (hx : evL S [x, y] = args) (hr : (Builtin.copy_ at_ ty ⟨args⟩).run P w = .ok v w1) :
    (execOp (ev S) ⟨dst, .call { callee := .builtin .copy, args := #[x, y], argTypes := at_ }, ty, pos, af, gd⟩).run P w = .ok (.value v) w1 := by
  subst hx
  simp only [execOp, resolve, invoke, builtin, Sem.run_bind, Sem.run_pure, Result.andThen_ok, List.map_toArray, List.map_cons, List.map_nil]
  simp only [evL] at hr
  rw [hr]
  rfl
theorem o_copyO {b o dLen dCap sLen sCap sz : Nat} {cs ys : List Value} (hx : ev S x = .slice (some ⟨b, o, none⟩) dLen dCap) (hy : ev S y = .slice a sLen sCap) (ho : OAt O i (some ⟨b, 0, none⟩) cs c e sz) (hf : FIn A F [] a ys)
    (hlen : min sLen dLen * sz ≤ ys.length) (hfit : o + min sLen dLen * sz ≤ cs.length) (h1 : ys.all (·.oneCell') = true) (ht : P.underlying t = some (.slice e)) (hs : (P.info? e).map (·.size) = some sz) (h0 : 0 < sz) :
    Loud P S (SF w0 M H A F O) ⟨some d, .call { callee := .builtin .copy, args := #[x, y], argTypes := #[t, t2] }, ty, pos, af, gd⟩ Unit (fun _ => .int .i64 (min sLen dLen : Nat))
      (fun _ => SF w0 M H A F (setO O i ⟨some ⟨b, 0, none⟩, cs.take o ++ ys.take (min sLen dLen * sz) ++ cs.drop (o + min sLen dLen * sz), c, e, sz⟩)) :=
  loud_value fun w hw => by
    have hev : evL S [x, y] = [.slice (some ⟨b, o, none⟩) dLen dCap, .slice a sLen sCap] := by simp [evL, hx, hy]
    have hfl : FIn A F O a ys := by
      cases hf with
      | old h => exact .old h
      | new h => exact .new h
      | own h => cases h
      | hdr h _ => cases h
    have hcl := hw.cl hfl
    have hone : ∀ u ∈ ys, u.oneCell' = true := by simpa using h1
    obtain h2 := (hw.own _ ho.mem).1
    rcases h2 with ⟨h2, _⟩ | ⟨b', rest, hb', h2, h3⟩
    · simp at h2
    · simp only [Option.some.injEq, Addr.mk.injEq, and_true] at hb'
      subst hb'
      simp only at h2 h3
      have hfin : ∀ cs', cs' ++ rest = cs' ++ rest → cs'.length = cs.length → SF w0 M H A F (setO O i ⟨some ⟨b, 0, none⟩, cs', c, e, sz⟩) (w.setRow b ⟨cs' ++ rest⟩) := fun cs' _ hl =>
        hw.setOwn ho (chg_setRow w b _) (.inr ⟨b, rest, rfl, setRow_heap w b ⟨cs ++ rest⟩ _ e (0, 0) h2, by rw [List.length_append, hl, ← List.length_append]; exact h3⟩) (fun b hb => .inl hb) (oblk_nodup _)
      by_cases hz : min sLen dLen = 0
      · have hrow : cs.take o ++ ys.take (min sLen dLen * sz) ++ cs.drop (o + min sLen dLen * sz) = cs := by rw [hz]; simp
        have hr : (Builtin.copy_ #[t, t2] ty ⟨[.slice (some ⟨b, o, none⟩) dLen dCap, .slice a sLen sCap]⟩).run P w = .ok (goInt (Nat.min sLen dLen)) w := by
          have hl0 : ∀ a, (loadCells a 0).run P w = .ok #[] w := fun a => by simpa using run_loadCells_list (P := P) w a [] (by simp)
          cases hq : P.info? e with
          | none => simp [hq] at hs
          | some inf =>
            clear hrow hfin hfit hlen hev hx hy ho hw h3
            have e0 : Nat.min sLen dLen = 0 := hz
            have hfc : (Builtin.firstCells inf.size 0 (.slice a sLen sCap)).run P w = .ok #[] w := by
              cases a with
              | none => simp [Builtin.firstCells]
              | some a => simp [Builtin.firstCells, hl0]
            simp only [Builtin.copy_, List.getElem?_toArray, List.getElem?_cons_zero, List.getElem?_cons_succ, Sem.run_bind, run_underlying ht, Result.andThen_ok, Builtin.lenOf, Sem.run_pure, e0, sizeOf, typeInfo, hq, hfc, storeCells]
            simp [hq, hfc, storeCells, e0]
        refine ⟨(), w, run_cp hev hr, ?_⟩
        rw [hrow, setO_same ho]
        exact hw
      · have hyl : 0 < ys.length := by have := Nat.mul_pos (Nat.pos_of_ne_zero hz) h0; omega
        have hap := hcl.ptr hyl
        have hzl : (ys.take (min sLen dLen * sz)).length = min sLen dLen * sz := by rw [List.length_take]; omega
        have hr := run_copy_any (P := P) w t t2 ty e b o dLen dCap ⟨ablk a, aoff a, none⟩ sLen sCap ⟨cs ++ rest⟩ e (ys.take (min sLen dLen * sz)) sz ht hs h2 hzl
          (fun j v hj => hcl.cells j v (by rw [List.getElem?_take] at hj; split at hj; exact hj; cases hj)) (by simp only [hzl]; simp; omega) (fun v hv => hone v (List.mem_of_mem_take hv))
        rw [← hap] at hr
        have hrow : (cs ++ rest).take o ++ ys.take (min sLen dLen * sz) ++ (cs ++ rest).drop (o + (ys.take (min sLen dLen * sz)).length) = (cs.take o ++ ys.take (min sLen dLen * sz) ++ cs.drop (o + min sLen dLen * sz)) ++ rest := by
          rw [hzl, List.take_append_of_le_length (by omega), List.drop_append_of_le_length (by omega)]
          simp
        refine ⟨(), w.setRow b ⟨(cs.take o ++ ys.take (min sLen dLen * sz) ++ cs.drop (o + min sLen dLen * sz)) ++ rest⟩, run_cp hev ?_, hfin _ rfl ?_⟩
        · rw [hr, ← hrow]; rfl
        · simp only [List.length_append, hzl, List.length_take, List.length_drop]
          omega
theorem take_prC (l : List Pr) (k : Nat) : (prC l).take (2 * k) = prC (l.take k) := by
  conv => lhs; rw [← List.take_append_drop k l, prC_append]
  by_cases h : k ≤ l.length
  · rw [List.take_append_of_le_length (by rw [prC_length, List.length_take]; omega), List.take_of_length_le (by rw [prC_length, List.length_take]; omega)]
  · rw [List.drop_eq_nil_of_le (by omega)]
    simp only [prC, List.append_nil]
    rw [List.take_of_length_le (by rw [prC_length, List.length_take]; omega)]
theorem drop_prC (l : List Pr) (k : Nat) : (prC l).drop (2 * k) = prC (l.drop k) := by
  have h := List.take_append_drop (2 * k) (prC l)
  rw [take_prC] at h
  have h2 : prC l = prC (l.take k) ++ prC (l.drop k) := by rw [← prC_append, List.take_append_drop]
  rw [h2] at h
  exact List.append_cancel_left (by rw [← h2] at h; exact h.trans h2)
theorem take_refsC (l : List Int) (k : Nat) : (refsC l).take k = refsC (l.take k) := by simp [refsC]
theorem drop_refsC (l : List Int) (k : Nat) : (refsC l).drop k = refsC (l.drop k) := by simp [refsC]
theorem o_copyR {b q dLen dCap sLen sCap : Nat} {l l2 : List Int} (hx : ev S x = .slice (some ⟨b, q, none⟩) dLen dCap) (hy : ev S y = .slice a sLen sCap) (ho : OAt O i (some ⟨b, 0, none⟩) (refsC l) c e 1) (hf : FIn A F [] a (refsC l2))
    (hlen : min sLen dLen ≤ l2.length) (hfit : q + min sLen dLen ≤ l.length) (ht : P.underlying t = some (.slice e)) (hs : (P.info? e).map (·.size) = some 1) :
    Loud P S (SF w0 M H A F O) ⟨some d, .call { callee := .builtin .copy, args := #[x, y], argTypes := #[t, t2] }, ty, pos, af, gd⟩ Unit (fun _ => .int .i64 (min sLen dLen : Nat))
      (fun _ => SF w0 M H A F (setO O i ⟨some ⟨b, 0, none⟩, refsC (l.take q ++ l2.take (min sLen dLen) ++ l.drop (q + min sLen dLen)), c, e, 1⟩)) := by
  have := o_copyO (P := P) (w0 := w0) (M := M) (H := H) (d := d) (ty := ty) (pos := pos) (af := af) (gd := gd) (t2 := t2) hx hy ho hf (by rw [refsC_length]; omega) (by rw [refsC_length]; omega) (oneCells_refsC l2) ht hs (by decide)
  rw [Nat.mul_one, take_refsC, take_refsC, drop_refsC, ← refsC_append, ← refsC_append] at this
  exact this
theorem o_copyP {b q o dLen dCap sLen sCap : Nat} {l l2 : List Pr} (hx : ev S x = .slice (some ⟨b, o, none⟩) dLen dCap) (hy : ev S y = .slice a sLen sCap) (ho : OAt O i (some ⟨b, 0, none⟩) (prC l) c e 2) (hf : FIn A F [] a (prC l2)) (hq : o = 2 * q)
    (hlen : min sLen dLen ≤ l2.length) (hfit : q + min sLen dLen ≤ l.length) (ht : P.underlying t = some (.slice e)) (hs : (P.info? e).map (·.size) = some 2) :
    Loud P S (SF w0 M H A F O) ⟨some d, .call { callee := .builtin .copy, args := #[x, y], argTypes := #[t, t2] }, ty, pos, af, gd⟩ Unit (fun _ => .int .i64 (min sLen dLen : Nat))
      (fun _ => SF w0 M H A F (setO O i ⟨some ⟨b, 0, none⟩, prC (l.take q ++ l2.take (min sLen dLen) ++ l.drop (q + min sLen dLen)), c, e, 2⟩)) := by
  subst hq
  have := o_copyO (P := P) (w0 := w0) (M := M) (H := H) (d := d) (ty := ty) (pos := pos) (af := af) (gd := gd) (t2 := t2) hx hy ho hf (by rw [prC_length]; omega) (by rw [prC_length]; omega) (oneCells_prC l2) ht hs (by decide)
  rw [show 2 * q + min sLen dLen * 2 = 2 * (q + min sLen dLen) by omega, Nat.mul_comm (min sLen dLen) 2, take_prC, take_prC, drop_prC, ← prC_append, ← prC_append] at this
  exact this

theorem o_copyAllP {b dLen dCap sCap : Nat} {l l2 : List Pr} (hx : ev S x = .slice (some ⟨b, 0, none⟩) dLen dCap) (hy : ev S y = .slice a dLen sCap) (ho : OAt O i (some ⟨b, 0, none⟩) (prC l) c e 2) (hf : FIn A F [] a (prC l2)) (h1 : l.length = dLen) (h2 : l2.length = dLen)
    (ht : P.underlying t = some (.slice e)) (hs : (P.info? e).map (·.size) = some 2) :
    Loud P S (SF w0 M H A F O) ⟨some d, .call { callee := .builtin .copy, args := #[x, y], argTypes := #[t, t2] }, ty, pos, af, gd⟩ Unit (fun _ => .int .i64 (dLen : Nat))
      (fun _ => SF w0 M H A F (setO O i ⟨some ⟨b, 0, none⟩, prC l2, c, e, 2⟩)) := by
  have := o_copyP (P := P) (w0 := w0) (M := M) (H := H) (d := d) (ty := ty) (pos := pos) (af := af) (gd := gd) (t2 := t2) (q := 0) hx hy ho hf rfl (by omega) (by omega) ht hs
  rw [Nat.min_self] at this
  rw [show l.take 0 ++ l2.take dLen ++ l.drop (0 + dLen) = l2 by rw [List.take_of_length_le (l := l2) (by omega), List.drop_eq_nil_of_le (by omega)]; simp] at this
  exact this
theorem o_copyAllR {b dLen dCap sCap : Nat} {l l2 : List Int} (hx : ev S x = .slice (some ⟨b, 0, none⟩) dLen dCap) (hy : ev S y = .slice a dLen sCap) (ho : OAt O i (some ⟨b, 0, none⟩) (refsC l) c e 1) (hf : FIn A F [] a (refsC l2)) (h1 : l.length = dLen) (h2 : l2.length = dLen)
    (ht : P.underlying t = some (.slice e)) (hs : (P.info? e).map (·.size) = some 1) :
    Loud P S (SF w0 M H A F O) ⟨some d, .call { callee := .builtin .copy, args := #[x, y], argTypes := #[t, t2] }, ty, pos, af, gd⟩ Unit (fun _ => .int .i64 (dLen : Nat))
      (fun _ => SF w0 M H A F (setO O i ⟨some ⟨b, 0, none⟩, refsC l2, c, e, 1⟩)) := by
  have := o_copyR (P := P) (w0 := w0) (M := M) (H := H) (d := d) (ty := ty) (pos := pos) (af := af) (gd := gd) (t2 := t2) (q := 0) hx hy ho hf (by omega) (by omega) ht hs
  rw [Nat.min_self] at this
  rw [show l.take 0 ++ l2.take dLen ++ l.drop (0 + dLen) = l2 by rw [List.take_of_length_le (l := l2) (by omega), List.drop_eq_nil_of_le (by omega)]; simp] at this
  exact this

/-! ### Stores into own lists -/
theorem o_storeO {q : Nat} {cs : List Value} {sz : Nat} {v : Value} (hx : ev S x = .pointer (some ⟨ablk p, aoff p + q, none⟩)) (hy : ev S y = v) (hv : v.oneCell' = true) (ht : one P t = true) (ho : OAt O i p cs c e sz) (hq : q < cs.length) :
    Loud P S (SF w0 M H A F O) ⟨none, .store t x y, ty, pos, af, gd⟩ Unit (fun _ => undef) (fun _ => SF w0 M H A F (setO O i ⟨p, cs.set q v, c, e, sz⟩)) :=
  loud_skip fun w hw => by
    have h2 := (hw.own _ ho.mem).1
    rcases h2 with ⟨_, h2, _⟩ | ⟨b, rest, hb, h2, h3⟩
    · simp only at h2; subst h2; simp at hq
    · simp only at hb h2 h3
      subst hb
      simp only [ablk, aoff, Nat.zero_add] at hx
      have hqr : q < (cs ++ rest).length := by rw [List.length_append]; omega
      have hc : w.cell? ⟨b, q, none⟩ = some (cs ++ rest)[q] := by rw [cell_of_row w b q ⟨cs ++ rest⟩ e (0, 0) h2]; simp [hqr]
      have hfz : w.frozen? ⟨b, q, none⟩ = false := frozen_of_row w b q ⟨cs ++ rest⟩ e h2
      have hs : (store ⟨b, q, none⟩ v).run P w = .ok () (w.setCell ⟨b, q, none⟩ v) := by rw [run_store P w _ v _ hv, hc]; simp [hfz]
      have e1 : v.cells = #[v] := by cases v <;> simp_all [Value.cells, Value.oneCell']
      have hch : Chg w (w.setCell ⟨b, q, none⟩ v) (oblk (some ⟨b, 0, none⟩)) := ⟨rfl, rfl, rfl, by simp, fun k _ hk => heap_setCell_other w ⟨b, q, none⟩ k v (by simpa [oblk] using hk)⟩
      refine ⟨w.setCell ⟨b, q, none⟩ v, ?_, hw.setOwn ho hch (o' := ⟨some ⟨b, 0, none⟩, cs.set q v, c, e, sz⟩) (.inr ⟨b, rest, rfl, ?_, by simpa using h3⟩) (fun b hb => .inl hb) (oblk_nodup _)⟩
      · simp [execOp, hx, hy, Instr.storeAt, Instr.sureAddr, storeVar, e1, one_size ht, storeCells, Addr.add_zero', hs]
      · have := heap_setCell_same w b q ⟨cs ++ rest⟩ e v h2
        rw [this]
        simp [List.set_append_left _ _ hq]
theorem set_refsC (l : List Int) (k : Nat) (v : Int) : (refsC l).set k (.int .i64 v) = refsC (l.set k v) := by simp [refsC]
theorem set_prC : ∀ (l : List Pr) (k : Nat) (u : Int), (prC l).set (2 * k + 1) (.int .u64 u) = prC (l.set k ((l.getD k (⟨#[]⟩, 0)).1, u))
  | [], _, _ => rfl
  | p :: l, 0, u => by simp [prC]
  | p :: l, k + 1, u => by
    have := set_prC l k u
    rw [show 2 * (k + 1) + 1 = 2 * k + 1 + 1 + 1 by omega]
    simp only [prC, List.set_cons_succ, this, List.getD_cons_succ]
theorem o_storeR {q : Nat} {l : List Int} {v : Int} (hx : ev S x = .pointer (some ⟨ablk p, aoff p + q, none⟩)) (hy : ev S y = .int .i64 v) (ht : one P t = true) (ho : OAt O i p (refsC l) c e 1) (hq : q < l.length) :
    Loud P S (SF w0 M H A F O) ⟨none, .store t x y, ty, pos, af, gd⟩ Unit (fun _ => undef) (fun _ => SF w0 M H A F (setO O i ⟨p, refsC (l.set q v), c, e, 1⟩)) := by
  rw [← set_refsC]
  exact o_storeO hx hy rfl ht ho (by rw [refsC_length]; exact hq)
theorem o_storePv {q : Nat} {l : List Pr} {v : Int} (hx : ev S x = .pointer (some ⟨ablk p, aoff p + (2 * q + 1), none⟩)) (hy : ev S y = .int .u64 v) (ht : one P t = true) (ho : OAt O i p (prC l) c e 2) (hq : q < l.length) :
    Loud P S (SF w0 M H A F O) ⟨none, .store t x y, ty, pos, af, gd⟩ Unit (fun _ => undef) (fun _ => SF w0 M H A F (setO O i ⟨p, prC (l.set q ((l.getD q (⟨#[]⟩, 0)).1, v)), c, e, 2⟩)) := by
  rw [← set_prC]
  exact o_storeO hx hy rfl ht ho (by rw [prC_length]; omega)
theorem o_storeOA {q : Nat} {cs vs : List Value} {sz : Nat} (hx : ev S x = .pointer (some ⟨ablk p, aoff p + q, none⟩)) (hy : ev S y = .agg ⟨vs⟩) (h1 : vs.all (·.oneCell') = true) (ht : aggOf P t vs.length = true) (ho : OAt O i p cs c e sz) (hq : q + vs.length ≤ cs.length) (hv0 : 0 < vs.length) :
    Loud P S (SF w0 M H A F O) ⟨none, .store t x y, ty, pos, af, gd⟩ Unit (fun _ => undef) (fun _ => SF w0 M H A F (setO O i ⟨p, cs.take q ++ vs ++ cs.drop (q + vs.length), c, e, sz⟩)) :=
  loud_skip fun w hw => by
    have h2 := (hw.own _ ho.mem).1
    rcases h2 with ⟨_, h2, _⟩ | ⟨b, rest, hb, h2, h3⟩
    · simp only at h2; subst h2; simp only [List.length_nil] at hq; omega
    · simp only at hb h2 h3
      subst hb
      simp only [ablk, aoff, Nat.zero_add] at hx
      obtain ⟨dd, hu, hm, hi⟩ := agg_parts ht
      have hst := run_storeCells_at (P := P) b q e vs 0 ⟨cs ++ rest⟩ w h2 (by simp; omega) (by simpa using h1)
      have hrow : (cs ++ rest).take q ++ vs ++ (cs ++ rest).drop (q + vs.length) = (cs.take q ++ vs ++ cs.drop (q + vs.length)) ++ rest := by
        rw [List.take_append_of_le_length (by omega), List.drop_append_of_le_length (by omega)]
        simp
      simp only [Nat.add_zero] at hst
      rw [hrow] at hst
      refine ⟨w.setRow b ⟨(cs.take q ++ vs ++ cs.drop (q + vs.length)) ++ rest⟩, ?_, hw.setOwn ho (chg_setRow w b _) (.inr ⟨b, rest, rfl, setRow_heap w b ⟨cs ++ rest⟩ _ e (0, 0) h2, ?_⟩) (fun b hb => .inl hb) (oblk_nodup _)⟩
      · cases hq' : P.info? t with
        | none => rw [hq'] at hi; simp at hi
        | some inf =>
          have hs : inf.size = vs.length := by rw [hq'] at hi; simpa using hi
          simp [execOp, hx, hy, Instr.storeAt, Instr.sureAddr, storeVar, sizeOf, typeInfo, hq', hs, Value.cells, hst]
      · simp only [List.length_append, List.length_take, List.length_drop] at h3 ⊢
        omega
theorem o_storeP {q : Nat} {l : List Pr} {s : ByteArray} {v : Int} (hx : ev S x = .pointer (some ⟨ablk p, aoff p + 2 * q, none⟩)) (hy : ev S y = .agg ⟨[.string s, .int .u64 v]⟩) (ht : aggOf P t 2 = true) (ho : OAt O i p (prC l) c e 2) (hq : q < l.length) :
    Loud P S (SF w0 M H A F O) ⟨none, .store t x y, ty, pos, af, gd⟩ Unit (fun _ => undef) (fun _ => SF w0 M H A F (setO O i ⟨p, prC (l.set q (s, v)), c, e, 2⟩)) := by
  have := o_storeOA (P := P) (w0 := w0) (M := M) (H := H) (A := A) (F := F) (ty := ty) (pos := pos) (af := af) (gd := gd) (vs := [.string s, .int .u64 v]) hx hy rfl ht ho (by rw [prC_length]; simp; omega) (by simp)
  have e1 : (prC l).take (2 * q) ++ [.string s, .int .u64 v] ++ (prC l).drop (2 * q + 2) = prC (l.set q (s, v)) := by
    rw [show 2 * q + 2 = 2 * (q + 1) by omega, take_prC, drop_prC, show ([.string s, .int .u64 v] : List Value) = prC [(s, v)] from rfl, ← prC_append, ← prC_append]
    congr 1
    rw [List.set_eq_take_append_cons_drop, if_pos hq]
    simp
  rw [show ([.string s, .int .u64 v] : List Value).length = 2 from rfl, e1] at this
  exact this

/-! ### Parts of lists -/
theorem run_sl {v : Value} {w w1 : World} {lo hi : Option Operand} (hr : (Instr.sliceAt t (ev S x) (lo.map (ev S)) (hi.map (ev S)) none).run P w = .ok v w1) :
    (execOp (ev S) ⟨some d, .slice t x lo hi none, ty, pos, af, gd⟩).run P w = .ok (.value v) w1 := by
  simp only [execOp, Option.map_none, Sem.run_bind, hr, Result.andThen_ok, Sem.run_pure]
/-- l[:k] -/
theorem o_headF {sz : Nat} {cs : List Value} (hx : ev S x = .slice a m c) (hy : ev S y = .int .i64 ((k : Nat) : Int)) (ht : P.underlying t = some (.slice e)) (hs : (P.info? e).map (·.size) = some sz) (hk : k ≤ c) (hf : FIn A F [] a cs) :
    Loud P S (SF w0 M H A F O) ⟨some d, .slice t x none (some y) none, ty, pos, af, gd⟩ Unit (fun _ => .slice a k c) (fun _ => SF w0 M H ((a, cs.take (k * sz)) :: A) F O) :=
  loud_value fun w hw => ⟨(), w, (o_sliceH (G := fun _ => True) hx hy ht hs hk).run w trivial, hw.addOld hf (fun _ => rfl) (fun h => by rw [h]; simp) (fun w hc => hc.take (List.take_prefix _ _))⟩
theorem o_headR {l : List Int} (hx : ev S x = .slice a m c) (hy : ev S y = .int .i64 ((k : Nat) : Int)) (ht : P.underlying t = some (.slice e)) (hs : (P.info? e).map (·.size) = some 1) (hk : k ≤ c) (hf : FIn A F [] a (refsC l)) :
    Loud P S (SF w0 M H A F O) ⟨some d, .slice t x none (some y) none, ty, pos, af, gd⟩ Unit (fun _ => .slice a k c) (fun _ => SF w0 M H ((a, refsC (l.take k)) :: A) F O) := by
  rw [← take_refsC]
  have := o_headF (P := P) (w0 := w0) (M := M) (H := H) (O := O) (d := d) (ty := ty) (pos := pos) (af := af) (gd := gd) hx hy ht hs hk hf
  rwa [Nat.mul_one] at this
theorem o_headP {l : List Pr} (hx : ev S x = .slice a m c) (hy : ev S y = .int .i64 ((k : Nat) : Int)) (ht : P.underlying t = some (.slice e)) (hs : (P.info? e).map (·.size) = some 2) (hk : k ≤ c) (hf : FIn A F [] a (prC l)) :
    Loud P S (SF w0 M H A F O) ⟨some d, .slice t x none (some y) none, ty, pos, af, gd⟩ Unit (fun _ => .slice a k c) (fun _ => SF w0 M H ((a, prC (l.take k)) :: A) F O) := by
  rw [← take_prC]
  have := o_headF (P := P) (w0 := w0) (M := M) (H := H) (O := O) (d := d) (ty := ty) (pos := pos) (af := af) (gd := gd) hx hy ht hs hk hf
  rwa [Nat.mul_comm k 2] at this
theorem Cl.drop {cs : List Value} (h : Cl w a cs) (k : Nat) : Cl w (a.map (·.add k)) (cs.drop k) := by
  refine ⟨fun j u hj => ?_⟩
  rw [List.getElem?_drop] at hj
  obtain ⟨h1, h2⟩ := h.at_ _ u hj
  rw [h1]
  simp only [Option.map_some, Addr.add_lit, ablk, aoff] at h2 ⊢
  refine ⟨trivial, ?_⟩
  rw [Nat.add_assoc]
  exact h2
/-- l[k:] -/
theorem o_tailF {sz : Nat} {cs : List Value} (hx : ev S x = .slice a m c) (hy : ev S y = .int .i64 ((k : Nat) : Int)) (ht : P.underlying t = some (.slice e)) (hs : (P.info? e).map (·.size) = some sz) (hk : k ≤ m) (hf : FIn A F [] a cs) (hmc : m ≤ c) (hl : cs.length = m * sz) :
    Loud P S (SF w0 M H A F O) ⟨some d, .slice t x (some y) none none, ty, pos, af, gd⟩ (Option Addr) (fun p => .slice p (m - k) (c - k)) (fun p => SF w0 M H ((p, cs.drop (k * sz)) :: A) F O) :=
  loud_value fun w hw => by
    have he : P.elem t = e := by simp [Program.elem, ht]
    have ht' : P.underlying t = some (.slice (P.elem t)) := by rw [he]; exact ht
    cases hi : P.info? e with
    | none => simp [hi] at hs
    | some inf =>
      have hs' : inf.size = sz := by simpa [hi] using hs
      have hr := run_slice_l (P := P) w t a m c ht' .i64 (k : Int) (by omega) (by omega)
      refine ⟨if c = k then a else a.map (·.add (k * sz)), w, run_sl (v := .slice (if c = k then a else a.map (·.add (k * sz))) (m - k) (c - k)) ?_, hw.addOld hf (fun hn => ?_) (fun h => by rw [h]; simp) (fun w hc => ?_)⟩
      · simp [hx, hy, run_sliceAt_slice w t _ _ _ _ ht', hr, he, sizeOf, typeInfo, hi, hs', sliced]
      · split
        · rfl
        · cases a with
          | none => rfl
          | some a =>
            obtain ⟨b, o, s⟩ := a
            simp only [Option.map_some, ablk, Addr.add]
            split <;> rfl
      · split
        · rename_i heq
          have : cs.drop (k * sz) = [] := List.drop_eq_nil_of_le (by rw [hl]; exact Nat.mul_le_mul_right _ (by omega))
          rw [this]
          exact Cl.nil _ _
        · exact hc.drop _
theorem o_tailR {l : List Int} (hx : ev S x = .slice a m c) (hy : ev S y = .int .i64 ((k : Nat) : Int)) (ht : P.underlying t = some (.slice e)) (hs : (P.info? e).map (·.size) = some 1) (hk : k ≤ m) (hf : FIn A F [] a (refsC l)) (hmc : m ≤ c) (hl : l.length = m) :
    Loud P S (SF w0 M H A F O) ⟨some d, .slice t x (some y) none none, ty, pos, af, gd⟩ (Option Addr) (fun p => .slice p (m - k) (c - k)) (fun p => SF w0 M H ((p, refsC (l.drop k)) :: A) F O) := by
  have := o_tailF (P := P) (w0 := w0) (M := M) (H := H) (O := O) (d := d) (ty := ty) (pos := pos) (af := af) (gd := gd) hx hy ht hs hk hf hmc (by rw [refsC_length, hl, Nat.mul_one])
  rw [Nat.mul_one, drop_refsC] at this
  exact this
theorem o_tailP {l : List Pr} (hx : ev S x = .slice a m c) (hy : ev S y = .int .i64 ((k : Nat) : Int)) (ht : P.underlying t = some (.slice e)) (hs : (P.info? e).map (·.size) = some 2) (hk : k ≤ m) (hf : FIn A F [] a (prC l)) (hmc : m ≤ c) (hl : l.length = m) :
    Loud P S (SF w0 M H A F O) ⟨some d, .slice t x (some y) none none, ty, pos, af, gd⟩ (Option Addr) (fun p => .slice p (m - k) (c - k)) (fun p => SF w0 M H ((p, prC (l.drop k)) :: A) F O) := by
  have := o_tailF (P := P) (w0 := w0) (M := M) (H := H) (O := O) (d := d) (ty := ty) (pos := pos) (af := af) (gd := gd) hx hy ht hs hk hf hmc (by rw [prC_length, hl, Nat.mul_comm])
  rw [Nat.mul_comm k 2, drop_prC] at this
  exact this
/-- The same of an own list: its offset is told. -/
theorem o_tailO {sz b : Nat} (hx : ev S x = .slice (some ⟨b, 0, none⟩) m c) (hy : ev S y = .int .i64 ((k : Nat) : Int)) (ht : P.underlying t = some (.slice e)) (hs : (P.info? e).map (·.size) = some sz) (hk : k ≤ m) (hmc : m ≤ c) :
    Loud P S (SF w0 M H A F O) ⟨some d, .slice t x (some y) none none, ty, pos, af, gd⟩ Nat (fun q => .slice (some ⟨b, sz * q, none⟩) (m - k) (c - k)) (fun q w => (q = k ∨ (q = 0 ∧ c = k)) ∧ SF w0 M H A F O w) :=
  loud_value fun w hw => by
    have he : P.elem t = e := by simp [Program.elem, ht]
    have ht' : P.underlying t = some (.slice (P.elem t)) := by rw [he]; exact ht
    cases hi : P.info? e with
    | none => simp [hi] at hs
    | some inf =>
      have hs' : inf.size = sz := by simpa [hi] using hs
      have hr := run_slice_l (P := P) w t (some ⟨b, 0, none⟩) m c ht' .i64 (k : Int) (by omega) (by omega)
      refine ⟨if c = k then 0 else k, w, run_sl (v := .slice (some ⟨b, sz * (if c = k then 0 else k), none⟩) (m - k) (c - k)) ?_, ?_, hw⟩
      · simp [hx, hy, run_sliceAt_slice w t _ _ _ _ ht', hr, he, sizeOf, typeInfo, hi, hs', sliced, Addr.add_lit]
        split <;> simp [Nat.mul_comm]
      · split
        · exact .inr ⟨rfl, ‹_›⟩
        · exact .inl rfl
end
end Go.Ct
