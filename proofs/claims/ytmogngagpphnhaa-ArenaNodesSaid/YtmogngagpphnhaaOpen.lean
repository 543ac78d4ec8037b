/- The arguments are opened. -/
import Derived.Test.YtmogngagpphnhaaLift
import Derived.Test.YtmogngagpphnhaaSpec
import Derived.Test.YtmogngagpphnhaaTab
import Derived.Deep.Slices
set_option linter.unusedSimpArgs false
set_option linter.unusedVariables false
namespace Go.Ct
open Go Go.RowKit Go.ChangeShapes Go.WideShapes Go.ChangeAt

/-- The cells cs, read by the type t, are the datum d, which is not too great. -/
structure Rd {H : Type} (enc : TypeId × Value → H) (P : Program) (W : World) (t : TypeId) (cs : List Value) (d : DataW H) : Prop where
  rd : ∃ n p, DataW.trod enc P W 0 (fun _ => true) true n t cs = some (d, p)
  wt : ∀ k ∈ d.weights P t, k ≤ reachBytes

section
variable {H : Type} {enc : TypeId × Value → H} {P : Program} {W : World} {t e : TypeId} {cs : List Value} {d : DataW H}
theorem Rd.int {k : IntKind} (h : Rd enc P W t cs d) (ht : P.underlying t = some (.int k)) : ∃ i, cs = [.int k i] ∧ (Lit.int k i).wf = true := by
  obtain ⟨n, p, hr⟩ := h.rd
  obtain ⟨i, h1, _, h2⟩ := DataW.trod_int ht hr
  exact ⟨i, h1, h2⟩
theorem Rd.str (h : Rd enc P W t cs d) (ht : P.underlying t = some .string) : ∃ s : ByteArray, cs = [.string s] ∧ s.size ≤ reachBytes := by
  obtain ⟨n, p, hr⟩ := h.rd
  obtain ⟨s, h1, h2, _⟩ := DataW.trod_string ht hr
  refine ⟨s, h1, ?_⟩
  have hw := h.wt
  cases h2
  have := hw s.data.toList.length (by simp [DataW.weights])
  simpa using this
theorem Rd.bool (h : Rd enc P W t cs d) (ht : P.underlying t = some .bool) : ∃ b, cs = [.bool b] := by
  obtain ⟨n, p, hr⟩ := h.rd
  obtain ⟨b, h1, _⟩ := DataW.trod_bool ht hr
  exact ⟨b, h1⟩
theorem weightsAll_mem {k : Nat} {d : DataW H} : ∀ {l : List (DataW H)}, d ∈ l → k ∈ d.weights P e → k ∈ DataW.weightsAll P e l
  | x :: r, hd, hk => by
    simp only [DataW.weightsAll, List.mem_append]
    rcases List.mem_cons.1 hd with rfl | hd
    · exact .inl hk
    · exact .inr (weightsAll_mem hd hk)
theorem weightsEach_mem {k : Nat} : ∀ {ts : List TypeId} {l : List (DataW H)} {i : Nat} {ty : TypeId} {d : DataW H}, ts[i]? = some ty → l[i]? = some d → k ∈ d.weights P ty → k ∈ DataW.weightsEach P ts l
  | _ :: _, _ :: _, 0, _, _, h1, h2, hk => by
    simp only [List.getElem?_cons_zero, Option.some.injEq] at h1 h2
    subst h1 h2
    simp only [DataW.weightsEach, List.mem_append]
    exact .inl hk
  | _ :: _, _ :: _, i + 1, _, _, h1, h2, hk => by
    simp only [List.getElem?_cons_succ] at h1 h2
    simp only [DataW.weightsEach, List.mem_append]
    exact .inr (weightsEach_mem h1 h2 hk)
  | [], _, _, _, _, h1, _, _ => by simp at h1
  | _ :: _, [], _, _, _, _, h2, _ => by simp at h2
theorem Rd.slice (h : Rd enc P W t cs d) (ht : P.underlying t = some (.slice e)) (h0 : 0 < P.cellsOf e) :
    ∃ (a : Option Addr) (m c : Nat) (C : Nat → List Value) (D : Nat → DataW H), cs = [.slice a m c] ∧ m ≤ c ∧ c * P.bytesOf e ≤ reachBytes ∧
      ∀ i, i < m → (C i).length = P.cellsOf e ∧ (∀ j u, (C i)[j]? = some u → a = some ⟨ablk a, aoff a, none⟩ ∧ W.cell? ⟨ablk a, aoff a + (i * P.cellsOf e + j), none⟩ = some u) ∧ Rd enc P W e (C i) (D i) := by
  obtain ⟨n, p, hr⟩ := h.rd
  rcases Deep.open_slice ht hr with ⟨rfl, _⟩ | ⟨a, len, cap, m, n', D, Pl, rfl, hb, hl, hm, hmm, hx, hel⟩
  · exact ⟨none, 0, 0, fun _ => [], fun _ => .nil, rfl, Nat.le_refl _, by simp, fun i hi => absurd hi (Nat.not_lt_zero i)⟩
  · simp only [if_true] at hmm
    subst hmm
    simp only [Prod.mk.injEq] at hx
    obtain ⟨hd, _⟩ := hx
    have hw := h.wt
    subst hd
    have hwt : ∀ i, i < len → ∀ k ∈ (D i).weights P e, k ≤ reachBytes := fun i hi k hk => hw k (by
      simp only [DataW.weights, ht, List.mem_cons, List.mem_append]
      exact .inr (.inl (weightsAll_mem (List.mem_map.2 ⟨i, List.mem_range.2 hi, rfl⟩) hk)))
    obtain ⟨C, hC⟩ := Deep.choose_lt (α := List Value) (n := len) (p := fun i cs' => W.cells? 0 (a.add (i * P.cellsOf e)) (P.cellsOf e) = some cs' ∧ DataW.trod enc P W 0 (fun _ => true) true n' e cs' = some (D i, Pl i)) (fun i hi => hel i (by omega))
    refine ⟨some a, len, m, C, D, rfl, hl, ?_, fun i hi => ?_⟩
    · have := hw ((((List.range len).map D).length + ((List.range (m - len)).map fun j => D (len + j)).length) * P.bytesOf e) (by
        simp [DataW.weights, ht])
      simp only [List.length_map, List.length_range] at this
      rwa [show len + (m - len) = m by omega] at this
    · obtain ⟨h1, h2⟩ := hC i hi
      obtain ⟨_, hlen, hcell⟩ := World.cells?_some h1
      refine ⟨hlen, fun j u hj => ?_, ⟨n', Pl i, h2⟩, hwt i hi⟩
      have hjl : j < P.cellsOf e := by rw [← hlen]; exact (List.getElem?_eq_some_iff.1 hj).1
      have hc := (hcell j hjl).trans hj
      obtain ⟨b, o, s⟩ := a
      have hs : s = none := by
        obtain ⟨g1, _⟩ := hC 0 (by omega)
        obtain ⟨_, glen, gcell⟩ := World.cells?_some g1
        have g := gcell 0 h0
        rw [List.getElem?_eq_getElem (by rw [glen]; exact h0)] at g
        simp only [Nat.zero_mul, Addr.add, if_true] at g
        unfold World.cell? at g
        cases s with
        | none => rfl
        | some z => split at g <;> simp at g
      subst hs
      refine ⟨rfl, ?_⟩
      have e1 : (((⟨b, o, none⟩ : Addr).add (i * P.cellsOf e)).add j) = ⟨b, o + (i * P.cellsOf e + j), none⟩ := by rw [Addr.add_lit, Addr.add_lit]; congr 1; omega
      rw [e1] at hc
      exact hc
theorem cl_elems {α : Type} {a : Option Addr} {f : α → List Value} {sz : Nat} (h0 : 0 < sz) (hf : ∀ x, (f x).length = sz) : ∀ (xs : List α) (i0 : Nat),
    (∀ i x, xs[i]? = some x → ∀ j u, (f x)[j]? = some u → a = some ⟨ablk a, aoff a, none⟩ ∧ W.cell? ⟨ablk a, aoff a + ((i0 + i) * sz + j), none⟩ = some u) →
    ∀ q u, (xs.flatMap f)[q]? = some u → a = some ⟨ablk a, aoff a, none⟩ ∧ W.cell? ⟨ablk a, aoff a + (i0 * sz + q), none⟩ = some u
  | [], _, _, q, u, h => by simp at h
  | x :: xs, i0, h, q, u, hq => by
    simp only [List.flatMap_cons] at hq
    by_cases hlt : q < sz
    · rw [List.getElem?_append_left (by rw [hf]; exact hlt)] at hq
      have := h 0 x rfl q u hq
      simpa using this
    · rw [List.getElem?_append_right (by rw [hf]; omega), hf] at hq
      have := cl_elems h0 hf xs (i0 + 1) (fun i y hy j v hj => by
        have := h (i + 1) y (by simpa using hy) j v hj
        rwa [show i0 + (i + 1) = i0 + 1 + i by omega] at this) (q - sz) u hq
      rwa [show (i0 + 1) * sz + (q - sz) = i0 * sz + q by rw [Nat.add_mul]; omega] at this
theorem prC_flat : ∀ l : List Pr, prC l = l.flatMap fun p => [.string p.1, .int .u64 p.2]
  | [] => rfl
  | p :: r => by simp [prC, prC_flat r]
theorem refsC_flat : ∀ l : List Int, refsC l = l.flatMap fun i => [.int .i64 i]
  | [] => rfl
  | p :: r => by simp [refsC, ← refsC_flat r]
def i64ok (i : Int) : Prop := -9223372036854775808 ≤ i ∧ i ≤ 9223372036854775807
def u64ok (i : Int) : Prop := 0 ≤ i ∧ i ≤ 18446744073709551615
theorem i64_of {n : Int} (h : (Lit.int .i64 n).wf = true) : i64ok n := by
  simp [Lit.wf, IntKind.min, IntKind.max, IntKind.signed, IntKind.bits] at h
  exact h
theorem u64_of {n : Int} (h : (Lit.int .u64 n).wf = true) : u64ok n := by
  simp [Lit.wf, IntKind.min, IntKind.max, IntKind.signed, IntKind.bits] at h
  exact h
/-- A slice of numbers. -/
theorem Rd.refs (h : Rd enc P W t cs d) (ht : P.underlying t = some (.slice e)) (he : P.underlying e = some (.int .i64)) (hc : P.cellsOf e = 1) (hb : P.bytesOf e = 8) :
    ∃ (a : Option Addr) (l : List Int) (c : Nat), cs = [.slice a l.length c] ∧ l.length ≤ c ∧ c ≤ 17592186043904 ∧ Cl W a (refsC l) ∧ ∀ i ∈ l, i64ok i := by
  obtain ⟨a, m, c, C, D, rfl, hm, hw, hel⟩ := h.slice ht (by omega)
  have hV : ∃ V : Nat → Int, ∀ i, i < m → C i = [.int .i64 (V i)] ∧ (Lit.int .i64 (V i)).wf = true := Deep.choose_lt fun i hi => (hel i hi).2.2.int he
  obtain ⟨V, hV⟩ := hV
  refine ⟨a, (List.range m).map V, c, by simp, by simpa using hm, by rw [hb, reachBytes] at hw; omega, ?_, fun i hi => ?_⟩
  · refine ⟨fun q u hq => ?_⟩
    rw [refsC_flat] at hq
    have := cl_elems (W := W) (a := a) (f := fun i => [.int .i64 i]) (sz := 1) (by decide) (fun _ => rfl) ((List.range m).map V) 0 (fun i x hx j v hj => by
      have hi : i < m := by simpa using (List.getElem?_eq_some_iff.1 hx).1
      have hxv : x = V i := by simpa [hi] using hx.symm
      subst hxv
      rw [← (hV i hi).1] at hj
      have := (hel i hi).2.1 j v hj
      rw [hc] at this
      simpa using this) q u hq
    simpa using this
  · obtain ⟨k, hk, rfl⟩ := List.mem_map.1 hi
    exact i64_of (hV k (List.mem_range.1 hk)).2
def fieldsL (P : Program) (t : TypeId) : List (Nat × Nat) := match P.underlying t with | some (.struct fs) => fs.toList.map fun f => (f.offset, f.type) | _ => []
theorem Rd.struct (h : Rd enc P W t cs d) {L : List (Nat × Nat)} (hL : fieldsL P t = L) (h0 : L ≠ []) :
    cs.length = P.cellsOf t ∧ ∀ (i o ty : Nat), L[i]? = some (o, ty) → ∃ d', Rd enc P W ty ((cs.drop o).take (P.cellsOf ty)) d' := by
  obtain ⟨n, p, hr⟩ := h.rd
  unfold fieldsL at hL
  cases hu : P.underlying t with
  | none => rw [hu] at hL; exact absurd hL.symm h0
  | some dd =>
    rw [hu] at hL
    cases dd with
    | struct fs =>
      simp only at hL
      obtain ⟨xs, n', _, hx, hlen, hxl, hf⟩ := DataW.trod_struct hu hr
      simp only [Prod.mk.injEq] at hx
      refine ⟨hlen, fun i o ty hi => ?_⟩
      rw [← hL, List.getElem?_map] at hi
      obtain ⟨f, hfi, he⟩ := Option.map_eq_some_iff.1 hi
      simp only [Prod.mk.injEq] at he
      obtain ⟨rfl, rfl⟩ := he
      have hfi' : fs[i]? = some f := by simpa using hfi
      have hil : i < xs.length := by rw [hxl]; exact (Array.getElem?_eq_some_iff.1 hfi').1
      have hx' := hf i f hfi'
      rw [List.getElem?_eq_getElem hil] at hx'
      refine ⟨xs[i].1, ⟨n', xs[i].2, hx'⟩, fun k hk => h.wt k ?_⟩
      rw [hx.1]
      simp only [DataW.weights, hu]
      exact weightsEach_mem (i := i) (ty := f.type) (d := xs[i].1) (by simp [hfi']) (by simp [hil]) hk
    | _ => exact absurd hL.symm h0
theorem one_take {cs : List Value} {o : Nat} {v : Value} (h : (cs.drop o).take 1 = [v]) : cs[o]? = some v := by
  have h1 : ((cs.drop o).take 1)[0]? = some v := by rw [h]; rfl
  simpa using h1
/-- A slice of pairs. -/
theorem Rd.prs {ts tu : Nat} (h : Rd enc P W t cs d) (ht : P.underlying t = some (.slice e)) (hf : fieldsL P e = [(0, ts), (1, tu)]) (hs : P.underlying ts = some .string) (hu : P.underlying tu = some (.int .u64)) (hc : P.cellsOf e = 2) (h1 : P.cellsOf ts = 1) (h2 : P.cellsOf tu = 1) (hb : P.bytesOf e = 24) :
    ∃ (a : Option Addr) (l : List Pr) (c : Nat), cs = [.slice a l.length c] ∧ l.length ≤ c ∧ c ≤ 5864062014634 ∧ Cl W a (prC l) ∧ ∀ p ∈ l, p.1.size ≤ 140737488351232 ∧ u64ok p.2 := by
  obtain ⟨a, m, c, C, D, rfl, hm, hw, hel⟩ := h.slice ht (by omega)
  have hV : ∃ V : Nat → Pr, ∀ i, i < m → C i = [.string (V i).1, .int .u64 (V i).2] ∧ (V i).1.size ≤ reachBytes ∧ (Lit.int .u64 (V i).2).wf = true := Deep.choose_lt (α := Pr) (p := fun i (v : Pr) => C i = [.string v.1, .int .u64 v.2] ∧ v.1.size ≤ reachBytes ∧ (Lit.int .u64 v.2).wf = true) fun i hi => by
    obtain ⟨hl, _, hr⟩ := hel i hi
    obtain ⟨_, hfl⟩ := hr.struct hf (by simp)
    obtain ⟨d0, r0⟩ := hfl 0 0 ts rfl
    obtain ⟨d1, r1⟩ := hfl 1 1 tu rfl
    rw [h1] at r0
    rw [h2] at r1
    obtain ⟨s, e0, hs0⟩ := r0.str hs
    obtain ⟨u, e1, hu1⟩ := r1.int hu
    have g0 := one_take e0
    have g1 := one_take e1
    rw [hc] at hl
    refine ⟨(s, u), ?_, hs0, hu1⟩
    match hC : C i, hl with
    | [x, y], _ =>
      rw [hC] at g0 g1
      simp at g0 g1
      rw [g0, g1]
  obtain ⟨V, hV⟩ := hV
  refine ⟨a, (List.range m).map V, c, by simp, by simpa using hm, by rw [hb, reachBytes] at hw; omega, ?_, fun p hp => ?_⟩
  · refine ⟨fun q u hq => ?_⟩
    rw [prC_flat] at hq
    have := cl_elems (W := W) (a := a) (f := fun p : Pr => [.string p.1, .int .u64 p.2]) (sz := 2) (by decide) (fun _ => rfl) ((List.range m).map V) 0 (fun i x hx j v hj => by
      have hi : i < m := by simpa using (List.getElem?_eq_some_iff.1 hx).1
      have hxv : x = V i := by simpa [hi] using hx.symm
      subst hxv
      rw [← (hV i hi).1] at hj
      have := (hel i hi).2.1 j v hj
      rw [hc] at this
      simpa using this) q u hq
    simpa using this
  · obtain ⟨k, hk, rfl⟩ := List.mem_map.1 hp
    exact ⟨by have := (hV k (List.mem_range.1 hk)).2.1; rw [reachBytes] at this; omega, u64_of (hV k (List.mem_range.1 hk)).2.2⟩
/-! ### An argument -/
structure Arg {H : Type} (enc : TypeId × Value → H) (P : Program) (W : World) (t : TypeId) (v : Value) (d : DataW H) : Prop where
  val : ∃ base, Value.okWide P W .any base t v
  rd : Rd enc P W t v.cells.toList d
inductive ArgsL {H : Type} (enc : TypeId × Value → H) (P : Program) (W : World) : List TypeId → List Value → Prop where
  | nil : ArgsL enc P W [] []
  | cons {t : TypeId} {ts : List TypeId} {v : Value} {vs : List Value} {d : DataW H} (hv : ∃ base, Value.okWide P W .any base t v) (hr : Rd enc P W t v.cells.toList d) (h : ArgsL enc P W ts vs) : ArgsL enc P W (t :: ts) (v :: vs)
theorem ArgsL.next {ts : List TypeId} {vs : List Value} (h : ArgsL enc P W (t :: ts) vs) : ∃ v vs' d, vs = v :: vs' ∧ Arg enc P W t v d ∧ ArgsL enc P W ts vs' := by
  cases h with
  | @cons _ _ v vs d hv hr h => exact ⟨v, vs, d, rfl, ⟨hv, hr⟩, h⟩
theorem ArgsL.done {vs : List Value} (h : ArgsL enc P W [] vs) : vs = [] := by cases h; rfl
theorem argsL_of {base : Nat} {ts : List TypeId} {args : List Value} {ds : List (DataW H)} {p : List MemPlace} (hv : ∀ (j : Nat) t v, ts[j]? = some t → args[j]? = some v → Value.okWide P W .any base t v)
    (ht : DataW.TrodAll enc P W 0 (fun _ => true) true ts args ds p) (hw : ∀ k ∈ DataW.weightsEach P ts ds, k ≤ reachBytes) : ArgsL enc P W ts args := by
  induction ts generalizing args ds p with
  | nil => obtain ⟨rfl, _, _⟩ := trodAll_nil ht; exact .nil
  | cons t ts ih =>
    obtain ⟨v, vs, d, ds', a, b, rfl, rfl, rfl, h1, h2⟩ := trodAll_cons ht
    refine .cons (d := d) ⟨base, hv 0 t v rfl rfl⟩ ?_ (ih (fun j t' v' hj hj' => hv (j + 1) t' v' (by simpa using hj) (by simpa using hj')) h2 (fun k hk => hw k (by simp only [DataW.weightsEach, List.mem_append]; exact .inr hk)))
    obtain ⟨n, hn⟩ := h1
    exact ⟨⟨n, a, hn⟩, fun k hk => hw k (by simp only [DataW.weightsEach, List.mem_append]; exact .inl hk)⟩
theorem Came.split {fn : Func} {args : List Value} {ds : List (DataW H)} (h : Came enc P fn W args ds) : ArgsL enc P W fn.params.toList args := by
  obtain ⟨⟨base, hv⟩, ⟨p, ht, _⟩, hw⟩ := h
  exact argsL_of hv ht hw
variable {v : Value}
theorem Arg.int {k : IntKind} (h : Arg enc P W t v d) (ht : P.underlying t = some (.int k)) : ∃ i, v = .int k i ∧ (Lit.int k i).wf = true := by
  obtain ⟨⟨base, hv⟩, hr⟩ := h
  obtain ⟨i, hi⟩ := okWide_int ht hv
  subst hi
  obtain ⟨j, hj, hw⟩ := hr.int ht
  simp [Value.cells] at hj
  subst hj
  exact ⟨_, rfl, hw⟩
theorem Arg.str (h : Arg enc P W t v d) (ht : P.underlying t = some .string) : ∃ s : ByteArray, v = .string s ∧ s.size ≤ 140737488351232 := by
  obtain ⟨⟨base, hv⟩, hr⟩ := h
  obtain ⟨s, rfl⟩ := okWide_string ht hv
  obtain ⟨j, hj, hw⟩ := hr.str ht
  simp [Value.cells] at hj
  subst hj
  exact ⟨_, rfl, hw⟩
theorem Arg.bool (h : Arg enc P W t v d) (ht : P.underlying t = some .bool) : ∃ b, v = .bool b := by
  obtain ⟨⟨base, hv⟩, hr⟩ := h
  obtain ⟨b, rfl⟩ := okWide_bool ht hv
  exact ⟨b, rfl⟩
theorem Arg.slv (h : Arg enc P W t v d) (ht : P.underlying t = some (.slice e)) : Rd enc P W t [v] d := by
  obtain ⟨⟨base, hv⟩, hr⟩ := h
  obtain ⟨a, m, c, rfl⟩ := okWide_slice ht hv
  simpa [Value.cells] using hr
end
end Go.Ct
