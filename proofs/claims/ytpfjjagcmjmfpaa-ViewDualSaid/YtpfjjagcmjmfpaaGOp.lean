/- From the walk of a law to its row: one lemma for all laws. -/
import Derived.Test.YtpfjjagcmjmfpaaRows
import Derived.Test.YtpfjjagcmjmfpaaMem
import Derived.ProofKit
import Derived.Test.YtpfjjagcmjmfpaaSpec
import Derived.Test.YtpfjjagcmjmfpaaTab
import Derived.Deep.Slices

set_option linter.unusedSimpArgs false
set_option linter.unusedVariables false
namespace Go.Ct
open Go Go.RowKit Go.ChangeShapes Go.WideShapes Go.ChangeAt

theorem trodAll_stays {P : Program} {H : Type} {enc : TypeId × Value → H} {W W' : World} (hl : laidOutB P = true) (hb : Below W.heap.size W W') : ∀ {ts : List TypeId} {vs : List Value} {ds : List (DataW H)} {ps : List MemPlace},
    (ts.all fun t => P.readableRec t && Nat.blt t P.types.size) = true → DataW.TrodAll enc P W 0 (fun _ => true) true ts vs ds ps → (∀ p ∈ ps, p.block < W.heap.size) →
    DataW.TrodAll enc P W' 0 (fun b => decide (b < W.heap.size)) true ts vs ds ps
  | [], _, _, _, _, h, _ => by
    obtain ⟨rfl, rfl, rfl⟩ := trodAll_nil h
    exact rfl
  | t :: ts, _, _, _, ht, h, hs => by
    obtain ⟨v, vs, d, ds, a, b, rfl, rfl, rfl, h1, h2⟩ := trodAll_cons h
    simp only [List.all_cons, Bool.and_eq_true] at ht
    exact ⟨a, b, Below.trod hl ht.1.1 (Nat.le_of_ble_eq_true ht.1.2) h1 hb fun x hx => hs x (List.mem_append_left _ hx), trodAll_stays hl hb ht.2 h2 fun x hx => hs x (List.mem_append_right _ hx), rfl⟩

/-- What a law's walk is given of the arguments. -/
structure Came {H : Type} (enc : TypeId × Value → H) (P : Program) (fn : Func) (W : World) (args : List Value) (ds : List (DataW H)) : Prop where
  val : ∃ base, ∀ (j : Nat) t v, fn.params.toList[j]? = some t → args[j]? = some v → Value.okWide P W .any base t v
  trod : ∃ p, DataW.TrodAll enc P W 0 (fun _ => true) true fn.params.toList args ds p ∧ ∀ x ∈ p, x.block < W.heap.size
  wt : ∀ k ∈ DataW.weightsEach P fn.params.toList ds, k ≤ reachBytes

theorem law_post {P : Program} {H : Type} {enc : TypeId × Value → H} {fn : Func} {s : ChangeSpec} {W W' : World} {args : Array Value} {ds gs : List (DataW H)} {before : List MemPlace} {tb : TypeId}
    (hl : laidOutB P = true) (hrd : (fn.params.toList.all fun t => P.readableRec t && Nat.blt t P.types.size) = true) (hrt : fn.resultTypes = #[tb]) (hb : P.underlying tb = some .bool)
    (hv : s.vars = []) (hs : (s.fn H ds).results = [.lit (.bool true)] ∧ (s.fn H ds).args = ds ∧ (s.fn H ds).vars = [])
    (hW : DataW.Whole enc P fn.params.toList s.vars false W args.toList ds gs before) (hst : St W [] [] W') : s.post enc P fn false true false false W args (.bool true) W' := by
  have hlt := fun x hx => hW.lt x hx
  have hW' := hW
  obtain ⟨p, q, hA, hV, rfl, _, _⟩ := hW
  rw [hv] at hV
  obtain ⟨rfl, rfl⟩ := trodVars_none hV
  refine ⟨ds, [], p ++ [], [], p, [], hW', ?_, ?_, ?_, hst.below.frame _, fun h => nomatch h⟩
  · rw [List.append_nil, hs.1, hrt]
    exact trodAll_mk1 (shut_bool hb _)
  · rw [List.append_nil, hs.2.1]
    exact trodAll_stays hl hst.below hrd hA fun x hx => hlt x (by simpa using hx)
  · rw [List.append_nil, hs.2.2, hv]
    exact rfl

theorem law_lifted {C : Checked} {f : FuncId} {fn : Func} {s : ChangeSpec} {os : Os} {H : Type} {enc : TypeId × Value → H} {tb : TypeId} (started : os.Started)
    (own : ownKnob C.prog.godebug = none) (hl : laidOutB C.prog = true) (noInit : C.prog.inits.idxOf? f = none) (hfn : C.prog.funcs[f]? = some fn)
    (hrd : (fn.params.toList.all fun t => C.prog.readableRec t && Nat.blt t C.prog.types.size) = true) (hrt : fn.resultTypes = #[tb]) (hb : C.prog.underlying tb = some .bool) (hv : s.vars = [])
    (hs : ∀ ds : List (DataW H), ds.length = fn.params.size → (s.fn H ds).results = [.lit (.bool true)] ∧ (s.fn H ds).args = ds ∧ (s.fn H ds).vars = [])
    (witness : ∃ (w : World) (tape : Tape) (i : Input), w.os = os ∧ (w.forCall tape i).Shaped C.prog ∧ i.vars = [] ∧ Input.okWide C.prog (w.forCall tape i) .any w.heap.size f i ∧
      s.pre6 enc C.prog fn [] false (w.forCall tape i).memory i.args ∧ ({} : Assume).holds C.prog (lone (Frame.enter C.prog f i.args .normal) [] (w.forCall tape i)))
    (walk : ∀ (W : World) (args : List Value) (ds : List (DataW H)), Came enc C.prog fn W args ds → Calls C.prog f ⟨args⟩ W fun e W' => e = .returned (.bool true) ∧ St W [] [] W') :
    ReturnsInHanded {} C os f .any (s.pre6 enc C.prog fn [] false) (s.post enc C.prog fn false true false false) := by
  refine returnsInHanded_of_calls own started noInit witness ?_
  intro w tape i _ _ _ hok hpre _
  obtain ⟨_, _, _, fn', hfn', _, _, _, _, hval⟩ := hok
  have e : fn' = fn := Option.some.inj (hfn'.symm.trans hfn)
  subst e
  obtain ⟨⟨ds, gs, before, hw, _⟩, hz⟩ := hpre
  have hW := DataW.Whole.of_heap (w' := w.forCall tape i) (by rfl) hw
  have hwt := hz.weights hw
  generalize hWW : w.forCall tape i = W at *
  generalize hargs : i.args = args at *
  generalize hbase : w.heap.size = base at *
  suffices hs' : Calls C.prog f args W fun e W' => ∃ v, e = .returned v ∧ s.post enc C.prog fn' false true false false W args v W' from
    hs'.mono fun e W' ⟨v, he, hp⟩ => by subst he; exact ChangeSpec.post_blind hp
  have hlt := fun x hx => hW.lt x hx
  have hW' := hW
  obtain ⟨p, q, hA, hV, rfl, _, _⟩ := hW
  have hlen : ds.length = fn'.params.size := by
    have : ∀ {ts : List TypeId} {vs : List Value} {ds : List (DataW H)} {ps : List MemPlace}, DataW.TrodAll enc C.prog W 0 (fun _ => true) true ts vs ds ps → ds.length = ts.length := by
      intro ts
      induction ts with
      | nil => intro vs ds ps h; obtain ⟨_, rfl, _⟩ := trodAll_nil h; rfl
      | cons t ts ih => intro vs ds ps h; obtain ⟨v, vs, d, ds, a, b, rfl, rfl, rfl, _, h2⟩ := trodAll_cons h; simp [ih h2]
    simpa using this hA
  obtain ⟨args⟩ := args
  have hwt' : ∀ k ∈ DataW.weightsEach C.prog fn'.params.toList ds, k ≤ reachBytes := fun k hk => by
    have h1 := List.all_eq_true.1 hwt k (by
      have : ∀ {ts ts' : List TypeId} {l l' : List (DataW H)}, k ∈ DataW.weightsEach C.prog ts l → k ∈ DataW.weightsEach C.prog (ts ++ ts') (l ++ l') := by
        intro ts
        induction ts with
        | nil => intro ts' l l' h; simp [DataW.weightsEach] at h
        | cons t ts ih =>
          intro ts' l l' h
          cases l with
          | nil => simp [DataW.weightsEach] at h
          | cons x l =>
            simp only [DataW.weightsEach, List.cons_append, List.mem_append] at h ⊢
            exact h.imp id ih
      exact this hk)
    simpa using h1
  refine (walk W args ds ⟨⟨base, fun j t v h1 h2 => hval j t v (by simpa using h1) (by simpa using h2)⟩, ⟨p, hA, fun x hx => hlt x (List.mem_append_left _ hx)⟩, hwt'⟩).mono ?_
  rintro e W' ⟨rfl, hst⟩
  exact ⟨_, rfl, law_post hl hrd hrt hb hv (hs ds hlen) hW' hst⟩
end Go.Ct
namespace Go.Proofs.Ytpfjjagcmjmfpaa
open Go.RowKit Go.Ct
theorem ownT : ownKnob Try.prog.godebug = none := by kernel_rfl
theorem laidT : laidOutB Try.prog = true := by kernel_rfl
theorem boolT : Try.prog.underlying 4 = some .bool := by kernel_rfl
end Go.Proofs.Ytpfjjagcmjmfpaa

/- The arguments are opened. -/
set_option linter.unusedSimpArgs false
set_option linter.unusedVariables false
namespace Go.Ct
open Go Go.RowKit Go.ChangeShapes Go.WideShapes Go.ChangeAt

/-- The cells cs, read by the type t, are the datum d, which is not too great. -/
structure Rd {H : Type} (enc : TypeId × Value → H) (P : Program) (W : World) (t : TypeId) (cs : List Value) (d : DataW H) : Prop where
  rd : ∃ n p, DataW.trod enc P W 0 (fun _ => true) true n t cs = some (d, p)
  wt : ∀ k ∈ d.weights P t, k ≤ reachBytes

section
variable {H : Type} {enc : TypeId × Value → H} {P : Program} {W : World} {t e : TypeId} {cs : List Value} {d : DataW H}
theorem Rd.int {k : IntKind} (h : Rd enc P W t cs d) (ht : P.underlying t = some (.int k)) : ∃ i, cs = [.int k i] ∧ (Lit.int k i).wf = true := by
  obtain ⟨n, p, hr⟩ := h.rd
  obtain ⟨i, h1, _, h2⟩ := DataW.trod_int ht hr
  exact ⟨i, h1, h2⟩
theorem Rd.str (h : Rd enc P W t cs d) (ht : P.underlying t = some .string) : ∃ s : ByteArray, cs = [.string s] ∧ s.size ≤ reachBytes := by
  obtain ⟨n, p, hr⟩ := h.rd
  obtain ⟨s, h1, h2, _⟩ := DataW.trod_string ht hr
  refine ⟨s, h1, ?_⟩
  have hw := h.wt
  cases h2
  have := hw s.data.toList.length (by simp [DataW.weights])
  simpa using this
theorem Rd.bool (h : Rd enc P W t cs d) (ht : P.underlying t = some .bool) : ∃ b, cs = [.bool b] := by
  obtain ⟨n, p, hr⟩ := h.rd
  obtain ⟨b, h1, _⟩ := DataW.trod_bool ht hr
  exact ⟨b, h1⟩
theorem weightsAll_mem {k : Nat} {d : DataW H} : ∀ {l : List (DataW H)}, d ∈ l → k ∈ d.weights P e → k ∈ DataW.weightsAll P e l
  | x :: r, hd, hk => by
    simp only [DataW.weightsAll, List.mem_append]
    rcases List.mem_cons.1 hd with rfl | hd
    · exact .inl hk
    · exact .inr (weightsAll_mem hd hk)
theorem weightsEach_mem {k : Nat} : ∀ {ts : List TypeId} {l : List (DataW H)} {i : Nat} {ty : TypeId} {d : DataW H}, ts[i]? = some ty → l[i]? = some d → k ∈ d.weights P ty → k ∈ DataW.weightsEach P ts l
  | _ :: _, _ :: _, 0, _, _, h1, h2, hk => by
    simp only [List.getElem?_cons_zero, Option.some.injEq] at h1 h2
    subst h1 h2
    simp only [DataW.weightsEach, List.mem_append]
    exact .inl hk
  | _ :: _, _ :: _, i + 1, _, _, h1, h2, hk => by
    simp only [List.getElem?_cons_succ] at h1 h2
    simp only [DataW.weightsEach, List.mem_append]
    exact .inr (weightsEach_mem h1 h2 hk)
  | [], _, _, _, _, h1, _, _ => by simp at h1
  | _ :: _, [], _, _, _, _, h2, _ => by simp at h2
theorem Rd.slice (h : Rd enc P W t cs d) (ht : P.underlying t = some (.slice e)) (h0 : 0 < P.cellsOf e) :
    ∃ (a : Option Addr) (m c : Nat) (C : Nat → List Value) (D : Nat → DataW H), cs = [.slice a m c] ∧ m ≤ c ∧ c * P.bytesOf e ≤ reachBytes ∧
      ∀ i, i < m → (C i).length = P.cellsOf e ∧ (∀ j u, (C i)[j]? = some u → a = some ⟨ablk a, aoff a, none⟩ ∧ W.cell? ⟨ablk a, aoff a + (i * P.cellsOf e + j), none⟩ = some u) ∧ Rd enc P W e (C i) (D i) := by
  obtain ⟨n, p, hr⟩ := h.rd
  rcases Deep.open_slice ht hr with ⟨rfl, _⟩ | ⟨a, len, cap, m, n', D, Pl, rfl, hb, hl, hm, hmm, hx, hel⟩
  · exact ⟨none, 0, 0, fun _ => [], fun _ => .nil, rfl, Nat.le_refl _, by simp, fun i hi => absurd hi (Nat.not_lt_zero i)⟩
  · simp only [if_true] at hmm
    subst hmm
    simp only [Prod.mk.injEq] at hx
    obtain ⟨hd, _⟩ := hx
    have hw := h.wt
    subst hd
    have hwt : ∀ i, i < len → ∀ k ∈ (D i).weights P e, k ≤ reachBytes := fun i hi k hk => hw k (by
      simp only [DataW.weights, ht, List.mem_cons, List.mem_append]
      exact .inr (.inl (weightsAll_mem (List.mem_map.2 ⟨i, List.mem_range.2 hi, rfl⟩) hk)))
    obtain ⟨C, hC⟩ := Deep.choose_lt (α := List Value) (n := len) (p := fun i cs' => W.cells? 0 (a.add (i * P.cellsOf e)) (P.cellsOf e) = some cs' ∧ DataW.trod enc P W 0 (fun _ => true) true n' e cs' = some (D i, Pl i)) (fun i hi => hel i (by omega))
    refine ⟨some a, len, m, C, D, rfl, hl, ?_, fun i hi => ?_⟩
    · have := hw ((((List.range len).map D).length + ((List.range (m - len)).map fun j => D (len + j)).length) * P.bytesOf e) (by
        simp [DataW.weights, ht])
      simp only [List.length_map, List.length_range] at this
      rwa [show len + (m - len) = m by omega] at this
    · obtain ⟨h1, h2⟩ := hC i hi
      obtain ⟨_, hlen, hcell⟩ := World.cells?_some h1
      refine ⟨hlen, fun j u hj => ?_, ⟨n', Pl i, h2⟩, hwt i hi⟩
      have hjl : j < P.cellsOf e := by rw [← hlen]; exact (List.getElem?_eq_some_iff.1 hj).1
      have hc := (hcell j hjl).trans hj
      obtain ⟨b, o, s⟩ := a
      have hs : s = none := by
        obtain ⟨g1, _⟩ := hC 0 (by omega)
        obtain ⟨_, glen, gcell⟩ := World.cells?_some g1
        have g := gcell 0 h0
        rw [List.getElem?_eq_getElem (by rw [glen]; exact h0)] at g
        simp only [Nat.zero_mul, Addr.add, if_true] at g
        unfold World.cell? at g
        cases s with
        | none => rfl
        | some z => split at g <;> simp at g
      subst hs
      refine ⟨rfl, ?_⟩
      have e1 : (((⟨b, o, none⟩ : Addr).add (i * P.cellsOf e)).add j) = ⟨b, o + (i * P.cellsOf e + j), none⟩ := by rw [Addr.add_lit, Addr.add_lit]; congr 1; omega
      rw [e1] at hc
      exact hc
theorem cl_elems {α : Type} {a : Option Addr} {f : α → List Value} {sz : Nat} (h0 : 0 < sz) (hf : ∀ x, (f x).length = sz) : ∀ (xs : List α) (i0 : Nat),
    (∀ i x, xs[i]? = some x → ∀ j u, (f x)[j]? = some u → a = some ⟨ablk a, aoff a, none⟩ ∧ W.cell? ⟨ablk a, aoff a + ((i0 + i) * sz + j), none⟩ = some u) →
    ∀ q u, (xs.flatMap f)[q]? = some u → a = some ⟨ablk a, aoff a, none⟩ ∧ W.cell? ⟨ablk a, aoff a + (i0 * sz + q), none⟩ = some u
  | [], _, _, q, u, h => by simp at h
  | x :: xs, i0, h, q, u, hq => by
    simp only [List.flatMap_cons] at hq
    by_cases hlt : q < sz
    · rw [List.getElem?_append_left (by rw [hf]; exact hlt)] at hq
      have := h 0 x rfl q u hq
      simpa using this
    · rw [List.getElem?_append_right (by rw [hf]; omega), hf] at hq
      have := cl_elems h0 hf xs (i0 + 1) (fun i y hy j v hj => by
        have := h (i + 1) y (by simpa using hy) j v hj
        rwa [show i0 + (i + 1) = i0 + 1 + i by omega] at this) (q - sz) u hq
      rwa [show (i0 + 1) * sz + (q - sz) = i0 * sz + q by rw [Nat.add_mul]; omega] at this
theorem prC_flat : ∀ l : List Pr, prC l = l.flatMap fun p => [.string p.1, .int .u64 p.2]
  | [] => rfl
  | p :: r => by simp [prC, prC_flat r]
theorem refsC_flat : ∀ l : List Int, refsC l = l.flatMap fun i => [.int .i64 i]
  | [] => rfl
  | p :: r => by simp [refsC, ← refsC_flat r]
def i64ok (i : Int) : Prop := -9223372036854775808 ≤ i ∧ i ≤ 9223372036854775807
def u64ok (i : Int) : Prop := 0 ≤ i ∧ i ≤ 18446744073709551615
theorem i64_of {n : Int} (h : (Lit.int .i64 n).wf = true) : i64ok n := by
  simp [Lit.wf, IntKind.min, IntKind.max, IntKind.signed, IntKind.bits] at h
  exact h
theorem u64_of {n : Int} (h : (Lit.int .u64 n).wf = true) : u64ok n := by
  simp [Lit.wf, IntKind.min, IntKind.max, IntKind.signed, IntKind.bits] at h
  exact h
/-- A slice of numbers. -/
theorem Rd.refs (h : Rd enc P W t cs d) (ht : P.underlying t = some (.slice e)) (he : P.underlying e = some (.int .i64)) (hc : P.cellsOf e = 1) (hb : P.bytesOf e = 8) :
    ∃ (a : Option Addr) (l : List Int) (c : Nat), cs = [.slice a l.length c] ∧ l.length ≤ c ∧ c ≤ 17592186043904 ∧ Cl W a (refsC l) ∧ ∀ i ∈ l, i64ok i := by
  obtain ⟨a, m, c, C, D, rfl, hm, hw, hel⟩ := h.slice ht (by omega)
  have hV : ∃ V : Nat → Int, ∀ i, i < m → C i = [.int .i64 (V i)] ∧ (Lit.int .i64 (V i)).wf = true := Deep.choose_lt fun i hi => (hel i hi).2.2.int he
  obtain ⟨V, hV⟩ := hV
  refine ⟨a, (List.range m).map V, c, by simp, by simpa using hm, by rw [hb, reachBytes] at hw; omega, ?_, fun i hi => ?_⟩
  · refine ⟨fun q u hq => ?_⟩
    rw [refsC_flat] at hq
    have := cl_elems (W := W) (a := a) (f := fun i => [.int .i64 i]) (sz := 1) (by decide) (fun _ => rfl) ((List.range m).map V) 0 (fun i x hx j v hj => by
      have hi : i < m := by simpa using (List.getElem?_eq_some_iff.1 hx).1
      have hxv : x = V i := by simpa [hi] using hx.symm
      subst hxv
      rw [← (hV i hi).1] at hj
      have := (hel i hi).2.1 j v hj
      rw [hc] at this
      simpa using this) q u hq
    simpa using this
  · obtain ⟨k, hk, rfl⟩ := List.mem_map.1 hi
    exact i64_of (hV k (List.mem_range.1 hk)).2
def fieldsL (P : Program) (t : TypeId) : List (Nat × Nat) := match P.underlying t with | some (.struct fs) => fs.toList.map fun f => (f.offset, f.type) | _ => []
theorem Rd.struct (h : Rd enc P W t cs d) {L : List (Nat × Nat)} (hL : fieldsL P t = L) (h0 : L ≠ []) :
    cs.length = P.cellsOf t ∧ ∀ (i o ty : Nat), L[i]? = some (o, ty) → ∃ d', Rd enc P W ty ((cs.drop o).take (P.cellsOf ty)) d' := by
  obtain ⟨n, p, hr⟩ := h.rd
  unfold fieldsL at hL
  cases hu : P.underlying t with
  | none => rw [hu] at hL; exact absurd hL.symm h0
  | some dd =>
    rw [hu] at hL
    cases dd with
    | struct fs =>
      simp only at hL
      obtain ⟨xs, n', _, hx, hlen, hxl, hf⟩ := DataW.trod_struct hu hr
      simp only [Prod.mk.injEq] at hx
      refine ⟨hlen, fun i o ty hi => ?_⟩
      rw [← hL, List.getElem?_map] at hi
      obtain ⟨f, hfi, he⟩ := Option.map_eq_some_iff.1 hi
      simp only [Prod.mk.injEq] at he
      obtain ⟨rfl, rfl⟩ := he
      have hfi' : fs[i]? = some f := by simpa using hfi
      have hil : i < xs.length := by rw [hxl]; exact (Array.getElem?_eq_some_iff.1 hfi').1
      have hx' := hf i f hfi'
      rw [List.getElem?_eq_getElem hil] at hx'
      refine ⟨xs[i].1, ⟨n', xs[i].2, hx'⟩, fun k hk => h.wt k ?_⟩
      rw [hx.1]
      simp only [DataW.weights, hu]
      exact weightsEach_mem (i := i) (ty := f.type) (d := xs[i].1) (by simp [hfi']) (by simp [hil]) hk
    | _ => exact absurd hL.symm h0
theorem one_take {cs : List Value} {o : Nat} {v : Value} (h : (cs.drop o).take 1 = [v]) : cs[o]? = some v := by
  have h1 : ((cs.drop o).take 1)[0]? = some v := by rw [h]; rfl
  simpa using h1
/-- A slice of pairs. -/
theorem Rd.prs {ts tu : Nat} (h : Rd enc P W t cs d) (ht : P.underlying t = some (.slice e)) (hf : fieldsL P e = [(0, ts), (1, tu)]) (hs : P.underlying ts = some .string) (hu : P.underlying tu = some (.int .u64)) (hc : P.cellsOf e = 2) (h1 : P.cellsOf ts = 1) (h2 : P.cellsOf tu = 1) (hb : P.bytesOf e = 24) :
    ∃ (a : Option Addr) (l : List Pr) (c : Nat), cs = [.slice a l.length c] ∧ l.length ≤ c ∧ c ≤ 5864062014634 ∧ Cl W a (prC l) ∧ ∀ p ∈ l, p.1.size ≤ 140737488351232 ∧ u64ok p.2 := by
  obtain ⟨a, m, c, C, D, rfl, hm, hw, hel⟩ := h.slice ht (by omega)
  have hV : ∃ V : Nat → Pr, ∀ i, i < m → C i = [.string (V i).1, .int .u64 (V i).2] ∧ (V i).1.size ≤ reachBytes ∧ (Lit.int .u64 (V i).2).wf = true := Deep.choose_lt (α := Pr) (p := fun i (v : Pr) => C i = [.string v.1, .int .u64 v.2] ∧ v.1.size ≤ reachBytes ∧ (Lit.int .u64 v.2).wf = true) fun i hi => by
    obtain ⟨hl, _, hr⟩ := hel i hi
    obtain ⟨_, hfl⟩ := hr.struct hf (by simp)
    obtain ⟨d0, r0⟩ := hfl 0 0 ts rfl
    obtain ⟨d1, r1⟩ := hfl 1 1 tu rfl
    rw [h1] at r0
    rw [h2] at r1
    obtain ⟨s, e0, hs0⟩ := r0.str hs
    obtain ⟨u, e1, hu1⟩ := r1.int hu
    have g0 := one_take e0
    have g1 := one_take e1
    rw [hc] at hl
    refine ⟨(s, u), ?_, hs0, hu1⟩
    match hC : C i, hl with
    | [x, y], _ =>
      rw [hC] at g0 g1
      simp at g0 g1
      rw [g0, g1]
  obtain ⟨V, hV⟩ := hV
  refine ⟨a, (List.range m).map V, c, by simp, by simpa using hm, by rw [hb, reachBytes] at hw; omega, ?_, fun p hp => ?_⟩
  · refine ⟨fun q u hq => ?_⟩
    rw [prC_flat] at hq
    have := cl_elems (W := W) (a := a) (f := fun p : Pr => [.string p.1, .int .u64 p.2]) (sz := 2) (by decide) (fun _ => rfl) ((List.range m).map V) 0 (fun i x hx j v hj => by
      have hi : i < m := by simpa using (List.getElem?_eq_some_iff.1 hx).1
      have hxv : x = V i := by simpa [hi] using hx.symm
      subst hxv
      rw [← (hV i hi).1] at hj
      have := (hel i hi).2.1 j v hj
      rw [hc] at this
      simpa using this) q u hq
    simpa using this
  · obtain ⟨k, hk, rfl⟩ := List.mem_map.1 hp
    exact ⟨by have := (hV k (List.mem_range.1 hk)).2.1; rw [reachBytes] at this; omega, u64_of (hV k (List.mem_range.1 hk)).2.2⟩
/-! ### An argument -/
structure Arg {H : Type} (enc : TypeId × Value → H) (P : Program) (W : World) (t : TypeId) (v : Value) (d : DataW H) : Prop where
  val : ∃ base, Value.okWide P W .any base t v
  rd : Rd enc P W t v.cells.toList d
inductive ArgsL {H : Type} (enc : TypeId × Value → H) (P : Program) (W : World) : List TypeId → List Value → Prop where
  | nil : ArgsL enc P W [] []
  | cons {t : TypeId} {ts : List TypeId} {v : Value} {vs : List Value} {d : DataW H} (hv : ∃ base, Value.okWide P W .any base t v) (hr : Rd enc P W t v.cells.toList d) (h : ArgsL enc P W ts vs) : ArgsL enc P W (t :: ts) (v :: vs)
theorem ArgsL.next {ts : List TypeId} {vs : List Value} (h : ArgsL enc P W (t :: ts) vs) : ∃ v vs' d, vs = v :: vs' ∧ Arg enc P W t v d ∧ ArgsL enc P W ts vs' := by
  cases h with
  | @cons _ _ v vs d hv hr h => exact ⟨v, vs, d, rfl, ⟨hv, hr⟩, h⟩
theorem ArgsL.done {vs : List Value} (h : ArgsL enc P W [] vs) : vs = [] := by cases h; rfl
theorem argsL_of {base : Nat} {ts : List TypeId} {args : List Value} {ds : List (DataW H)} {p : List MemPlace} (hv : ∀ (j : Nat) t v, ts[j]? = some t → args[j]? = some v → Value.okWide P W .any base t v)
    (ht : DataW.TrodAll enc P W 0 (fun _ => true) true ts args ds p) (hw : ∀ k ∈ DataW.weightsEach P ts ds, k ≤ reachBytes) : ArgsL enc P W ts args := by
  induction ts generalizing args ds p with
  | nil => obtain ⟨rfl, _, _⟩ := trodAll_nil ht; exact .nil
  | cons t ts ih =>
    obtain ⟨v, vs, d, ds', a, b, rfl, rfl, rfl, h1, h2⟩ := trodAll_cons ht
    refine .cons (d := d) ⟨base, hv 0 t v rfl rfl⟩ ?_ (ih (fun j t' v' hj hj' => hv (j + 1) t' v' (by simpa using hj) (by simpa using hj')) h2 (fun k hk => hw k (by simp only [DataW.weightsEach, List.mem_append]; exact .inr hk)))
    obtain ⟨n, hn⟩ := h1
    exact ⟨⟨n, a, hn⟩, fun k hk => hw k (by simp only [DataW.weightsEach, List.mem_append]; exact .inl hk)⟩
theorem Came.split {fn : Func} {args : List Value} {ds : List (DataW H)} (h : Came enc P fn W args ds) : ArgsL enc P W fn.params.toList args := by
  obtain ⟨⟨base, hv⟩, ⟨p, ht, _⟩, hw⟩ := h
  exact argsL_of hv ht hw
variable {v : Value}
theorem Arg.int {k : IntKind} (h : Arg enc P W t v d) (ht : P.underlying t = some (.int k)) : ∃ i, v = .int k i ∧ (Lit.int k i).wf = true := by
  obtain ⟨⟨base, hv⟩, hr⟩ := h
  obtain ⟨i, hi⟩ := okWide_int ht hv
  subst hi
  obtain ⟨j, hj, hw⟩ := hr.int ht
  simp [Value.cells] at hj
  subst hj
  exact ⟨_, rfl, hw⟩
theorem Arg.str (h : Arg enc P W t v d) (ht : P.underlying t = some .string) : ∃ s : ByteArray, v = .string s ∧ s.size ≤ 140737488351232 := by
  obtain ⟨⟨base, hv⟩, hr⟩ := h
  obtain ⟨s, rfl⟩ := okWide_string ht hv
  obtain ⟨j, hj, hw⟩ := hr.str ht
  simp [Value.cells] at hj
  subst hj
  exact ⟨_, rfl, hw⟩
theorem Arg.bool (h : Arg enc P W t v d) (ht : P.underlying t = some .bool) : ∃ b, v = .bool b := by
  obtain ⟨⟨base, hv⟩, hr⟩ := h
  obtain ⟨b, rfl⟩ := okWide_bool ht hv
  exact ⟨b, rfl⟩
theorem Arg.slv (h : Arg enc P W t v d) (ht : P.underlying t = some (.slice e)) : Rd enc P W t [v] d := by
  obtain ⟨⟨base, hv⟩, hr⟩ := h
  obtain ⟨a, m, c, rfl⟩ := okWide_slice ht hv
  simpa [Value.cells] using hr
end
end Go.Ct

/- The arguments are opened: the types of the program. -/
set_option linter.unusedSimpArgs false
set_option linter.unusedVariables false
namespace Go.Proofs.Ytpfjjagcmjmfpaa
open Go.RowKit Go.Ct Go.ChangeShapes Go.WideShapes

theorem f_node : fieldsL Try.prog 35 = [(0, 3), (1, 3), (2, 31), (3, 22), (4, 32), (5, 22), (6, 9), (7, 22), (8, 33), (9, 31), (10, 29), (11, 29), (12, 29), (13, 31)] := by kernel_rfl
theorem f_pair : fieldsL Try.prog 56 = [(0, 9), (1, 22)] := by kernel_rfl
theorem c1_ok : ([3, 31, 22, 32, 9, 33, 29].all fun t => Nat.beq (Try.prog.cellsOf t) 1) = true := by kernel_rfl
theorem c1_of {t : Nat} (h : [3, 31, 22, 32, 9, 33, 29].elem t = true) : Try.prog.cellsOf t = 1 := Nat.eq_of_beq_eq_true (List.all_eq_true.1 c1_ok t (List.mem_of_elem_eq_true h))
theorem c_pair : Try.prog.cellsOf 56 = 2 := by kernel_rfl
theorem c_node : Try.prog.cellsOf 35 = 14 := by kernel_rfl
theorem b_pair : Try.prog.bytesOf 56 = 24 := by kernel_rfl
theorem b_ref : Try.prog.bytesOf 29 = 8 := by kernel_rfl
theorem b_int : Try.prog.bytesOf 3 = 8 := by kernel_rfl
theorem u_int : Try.prog.underlying 3 = some (.int .i64) := by kernel_rfl
theorem u_cell : Try.prog.underlying 31 = some (.int .i64) := by kernel_rfl
theorem u_ref : Try.prog.underlying 29 = some (.int .i64) := by kernel_rfl
theorem u_u64 : Try.prog.underlying 22 = some (.int .u64) := by kernel_rfl
theorem u_u8 : Try.prog.underlying 5 = some (.int .u8) := by kernel_rfl
theorem u_str : Try.prog.underlying 9 = some .string := by kernel_rfl
theorem u_refs : Try.prog.underlying 32 = some (.slice 29) := by kernel_rfl
theorem u_prs : Try.prog.underlying 33 = some (.slice 56) := by kernel_rfl
theorem u_ints : Try.prog.underlying 23 = some (.slice 3) := by kernel_rfl
theorem u_node : ∃ fs, Try.prog.underlying 35 = some (.struct fs) := by
  have h := f_node
  unfold fieldsL at h
  cases hu : Try.prog.underlying 35 with
  | none => rw [hu] at h; simp at h
  | some dd =>
    rw [hu] at h
    cases dd <;> first | exact ⟨_, rfl⟩ | (simp at h)

structure NdOk (n : Nd) (xs : List Int) (ys : List Pr) : Prop where
  kind : i64ok n.kind
  gen : i64ok n.gen
  main : i64ok n.main
  bm : u64ok n.bm
  hash : u64ok n.hash
  val : u64ok n.val
  prev : i64ok n.prev
  old : i64ok n.old
  exp : i64ok n.exp
  new : i64ok n.new
  status : i64ok n.status
  key : n.key.size ≤ 140737488351232
  brc : xs.length ≤ n.brC
  prc : ys.length ≤ n.prC
  brk : n.brC ≤ 17592186043904
  prk : n.prC ≤ 5864062014634
  xs : ∀ i ∈ xs, i64ok i
  ys : ∀ p ∈ ys, p.1.size ≤ 140737488351232 ∧ u64ok p.2
section
variable {H : Type} {enc : TypeId × Value → H} {W : World} {cs : List Value} {d : DataW H} {v : Value}
theorem ext14 {cs : List Value} {x0 x1 x2 x3 x4 x5 x6 x7 x8 x9 x10 x11 x12 x13 : Value} {l : List Value} (hl : cs.length = 14) (he : l = [x0, x1, x2, x3, x4, x5, x6, x7, x8, x9, x10, x11, x12, x13])
    (e0 : cs[0]? = some x0) (e1 : cs[1]? = some x1) (e2 : cs[2]? = some x2) (e3 : cs[3]? = some x3) (e4 : cs[4]? = some x4) (e5 : cs[5]? = some x5) (e6 : cs[6]? = some x6) (e7 : cs[7]? = some x7) (e8 : cs[8]? = some x8) (e9 : cs[9]? = some x9) (e10 : cs[10]? = some x10) (e11 : cs[11]? = some x11) (e12 : cs[12]? = some x12) (e13 : cs[13]? = some x13) : cs = l := by
  subst he
  refine List.ext_getElem? fun i => ?_
  match i with
  | 0 => exact e0
  | 1 => exact e1
  | 2 => exact e2
  | 3 => exact e3
  | 4 => exact e4
  | 5 => exact e5
  | 6 => exact e6
  | 7 => exact e7
  | 8 => exact e8
  | 9 => exact e9
  | 10 => exact e10
  | 11 => exact e11
  | 12 => exact e12
  | 13 => exact e13
  | k + 14 => rw [List.getElem?_eq_none (by omega), List.getElem?_eq_none (by simp)]
set_option maxRecDepth 100000
theorem rd_node (h : Rd enc Try.prog W 35 cs d) : ∃ (n : Nd) (xs : List Int) (ys : List Pr), cs = n.cells ∧ Rep W n xs ys ∧ NdOk n xs ys := by
  obtain ⟨hl, hf⟩ := h.struct f_node (by simp)
  rw [c_node] at hl
  have fint : ∀ {o ty : Nat}, Try.prog.cellsOf ty = 1 → Try.prog.underlying ty = some (.int .i64) → (∃ d', Rd enc Try.prog W ty ((cs.drop o).take (Try.prog.cellsOf ty)) d') → ∃ i, cs[o]? = some (.int .i64 i) ∧ i64ok i := by
    rintro o ty h1 h2 ⟨d', hr⟩
    rw [h1] at hr
    obtain ⟨i, e, hi⟩ := hr.int h2
    exact ⟨i, one_take e, i64_of hi⟩
  have fu : ∀ {o ty : Nat}, Try.prog.cellsOf ty = 1 → Try.prog.underlying ty = some (.int .u64) → (∃ d', Rd enc Try.prog W ty ((cs.drop o).take (Try.prog.cellsOf ty)) d') → ∃ i, cs[o]? = some (.int .u64 i) ∧ u64ok i := by
    rintro o ty h1 h2 ⟨d', hr⟩
    rw [h1] at hr
    obtain ⟨i, e, hi⟩ := hr.int h2
    exact ⟨i, one_take e, u64_of hi⟩
  obtain ⟨i0, e0, r0⟩ := fint (c1_of rfl) u_int (hf 0 _ _ rfl)
  obtain ⟨i1, e1, r1⟩ := fint (c1_of rfl) u_int (hf 1 _ _ rfl)
  obtain ⟨i2, e2, r2⟩ := fint (c1_of rfl) u_cell (hf 2 _ _ rfl)
  obtain ⟨i3, e3, r3⟩ := fu (c1_of rfl) u_u64 (hf 3 _ _ rfl)
  obtain ⟨i5, e5, r5⟩ := fu (c1_of rfl) u_u64 (hf 5 _ _ rfl)
  obtain ⟨i7, e7, r7⟩ := fu (c1_of rfl) u_u64 (hf 7 _ _ rfl)
  obtain ⟨i9, e9, r9⟩ := fint (c1_of rfl) u_cell (hf 9 _ _ rfl)
  obtain ⟨i10, e10, r10⟩ := fint (c1_of rfl) u_ref (hf 10 _ _ rfl)
  obtain ⟨i11, e11, r11⟩ := fint (c1_of rfl) u_ref (hf 11 _ _ rfl)
  obtain ⟨i12, e12, r12⟩ := fint (c1_of rfl) u_ref (hf 12 _ _ rfl)
  obtain ⟨i13, e13, r13⟩ := fint (c1_of rfl) u_cell (hf 13 _ _ rfl)
  obtain ⟨d4, h4⟩ := hf 4 _ _ rfl
  obtain ⟨d6, h6⟩ := hf 6 _ _ rfl
  obtain ⟨d8, h8⟩ := hf 8 _ _ rfl
  rw [c1_of rfl] at h4 h6 h8
  obtain ⟨a4, l4, c4, e4, r4, k4, cl4, o4⟩ := h4.refs u_refs u_ref (c1_of rfl) b_ref
  obtain ⟨s6, e6, k6⟩ := h6.str u_str
  obtain ⟨a8, l8, c8, e8, r8, k8, cl8, o8⟩ := h8.prs u_prs f_pair u_str u_u64 c_pair (c1_of rfl) (c1_of rfl) b_pair
  replace e4 := one_take e4
  replace e6 := one_take e6
  replace e8 := one_take e8
  refine ⟨⟨i0, i1, i2, i3, a4, l4.length, c4, i5, s6, i7, a8, l8.length, c8, i9, i10, i11, i12, i13⟩, l4, l8, ?_, ⟨rfl, rfl, cl4, cl8, by omega, by omega⟩, ⟨r0, r1, r2, r3, r5, r7, r9, r10, r11, r12, r13, by rw [reachBytes] at k6; exact k6, r4, r8, k4, k8, o4, o8⟩⟩
  exact ext14 hl rfl e0 e1 e2 e3 e4 e5 e6 e7 e8 e9 e10 e11 e12 e13
theorem arg_node (h : Arg enc Try.prog W 35 v d) : ∃ (n : Nd) (xs : List Int) (ys : List Pr), v = n.v ∧ Rep W n xs ys ∧ NdOk n xs ys := by
  obtain ⟨⟨base, hv⟩, hr⟩ := h
  obtain ⟨fs, hu⟩ := u_node
  unfold Value.okWide at hv
  rw [hu] at hv
  obtain ⟨⟨cs⟩, rfl, _⟩ := hv
  obtain ⟨n, xs, ys, hc, h1, h2⟩ := rd_node hr
  refine ⟨n, xs, ys, ?_, h1, h2⟩
  simp only [Value.cells] at hc
  rw [Nd.v, ← hc]
theorem arg_i64 {t : Nat} (h : Arg enc Try.prog W t v d) (ht : Try.prog.underlying t = some (.int .i64)) : ∃ i, v = .int .i64 i ∧ i64ok i := by
  obtain ⟨i, e, hi⟩ := h.int ht
  exact ⟨i, e, i64_of hi⟩
theorem arg_u64 {t : Nat} (h : Arg enc Try.prog W t v d) (ht : Try.prog.underlying t = some (.int .u64)) : ∃ i, v = .int .u64 i ∧ u64ok i := by
  obtain ⟨i, e, hi⟩ := h.int ht
  exact ⟨i, e, u64_of hi⟩
theorem arg_u8 {t : Nat} (h : Arg enc Try.prog W t v d) (ht : Try.prog.underlying t = some (.int .u8)) : ∃ i, v = .int .u8 i ∧ 0 ≤ i ∧ i ≤ 255 := by
  obtain ⟨i, e, hi⟩ := h.int ht
  simp [Lit.wf, IntKind.min, IntKind.max, IntKind.signed, IntKind.bits] at hi
  exact ⟨i, e, hi⟩
theorem arg_u16 {t : Nat} (h : Arg enc Try.prog W t v d) (ht : Try.prog.underlying t = some (.int .u16)) : ∃ i, v = .int .u16 i ∧ 0 ≤ i ∧ i ≤ 65535 := by
  obtain ⟨i, e, hi⟩ := h.int ht
  simp [Lit.wf, IntKind.min, IntKind.max, IntKind.signed, IntKind.bits] at hi
  exact ⟨i, e, hi⟩
theorem arg_prs (h : Arg enc Try.prog W 33 v d) : ∃ (a : Option Addr) (l : List Pr) (c : Nat), v = .slice a l.length c ∧ l.length ≤ c ∧ c ≤ 5864062014634 ∧ Cl W a (prC l) ∧ ∀ p ∈ l, p.1.size ≤ 140737488351232 ∧ u64ok p.2 := by
  obtain ⟨a, l, c, e, r⟩ := (h.slv u_prs).prs u_prs f_pair u_str u_u64 c_pair (c1_of rfl) (c1_of rfl) b_pair
  simp only [List.cons.injEq, and_true] at e
  exact ⟨a, l, c, e, r⟩
theorem arg_ints (h : Arg enc Try.prog W 23 v d) : ∃ (a : Option Addr) (l : List Int) (c : Nat), v = .slice a l.length c ∧ l.length ≤ c ∧ c ≤ 17592186043904 ∧ Cl W a (refsC l) ∧ ∀ i ∈ l, i64ok i := by
  obtain ⟨a, l, c, e, r⟩ := (h.slv u_ints).refs u_ints u_int (c1_of rfl) b_int
  simp only [List.cons.injEq, and_true] at e
  exact ⟨a, l, c, e, r⟩
end
end Go.Proofs.Ytpfjjagcmjmfpaa
