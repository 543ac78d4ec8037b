/- From the walk of a law to its row: one lemma for all laws. -/
import Derived.Test.YtmogngagpphnhaaRows
import Derived.Test.YtmogngagpphnhaaMem
import Derived.ProofKit
set_option linter.unusedSimpArgs false
set_option linter.unusedVariables false
namespace Go.Ct
open Go Go.RowKit Go.ChangeShapes Go.WideShapes Go.ChangeAt

theorem trodAll_stays {P : Program} {H : Type} {enc : TypeId × Value → H} {W W' : World} (hl : laidOutB P = true) (hb : Below W.heap.size W W') : ∀ {ts : List TypeId} {vs : List Value} {ds : List (DataW H)} {ps : List MemPlace},
    (ts.all fun t => P.readableRec t && Nat.blt t P.types.size) = true → DataW.TrodAll enc P W 0 (fun _ => true) true ts vs ds ps → (∀ p ∈ ps, p.block < W.heap.size) →
    DataW.TrodAll enc P W' 0 (fun b => decide (b < W.heap.size)) true ts vs ds ps
  | [], _, _, _, _, h, _ => by
    obtain ⟨rfl, rfl, rfl⟩ := trodAll_nil h
    exact rfl
  | t :: ts, _, _, _, ht, h, hs => by
    obtain ⟨v, vs, d, ds, a, b, rfl, rfl, rfl, h1, h2⟩ := trodAll_cons h
    simp only [List.all_cons, Bool.and_eq_true] at ht
    exact ⟨a, b, Below.trod hl ht.1.1 (Nat.le_of_ble_eq_true ht.1.2) h1 hb fun x hx => hs x (List.mem_append_left _ hx), trodAll_stays hl hb ht.2 h2 fun x hx => hs x (List.mem_append_right _ hx), rfl⟩

/-- What a law's walk is given of the arguments. -/
structure Came {H : Type} (enc : TypeId × Value → H) (P : Program) (fn : Func) (W : World) (args : List Value) (ds : List (DataW H)) : Prop where
  val : ∃ base, ∀ (j : Nat) t v, fn.params.toList[j]? = some t → args[j]? = some v → Value.okWide P W .any base t v
  trod : ∃ p, DataW.TrodAll enc P W 0 (fun _ => true) true fn.params.toList args ds p ∧ ∀ x ∈ p, x.block < W.heap.size
  wt : ∀ k ∈ DataW.weightsEach P fn.params.toList ds, k ≤ reachBytes

theorem law_post {P : Program} {H : Type} {enc : TypeId × Value → H} {fn : Func} {s : ChangeSpec} {W W' : World} {args : Array Value} {ds gs : List (DataW H)} {before : List MemPlace} {tb : TypeId}
    (hl : laidOutB P = true) (hrd : (fn.params.toList.all fun t => P.readableRec t && Nat.blt t P.types.size) = true) (hrt : fn.resultTypes = #[tb]) (hb : P.underlying tb = some .bool)
    (hv : s.vars = []) (hs : (s.fn H ds).results = [.lit (.bool true)] ∧ (s.fn H ds).args = ds ∧ (s.fn H ds).vars = [])
    (hW : DataW.Whole enc P fn.params.toList s.vars false W args.toList ds gs before) (hst : St W [] [] W') : s.post enc P fn false true false false W args (.bool true) W' := by
  have hlt := fun x hx => hW.lt x hx
  have hW' := hW
  obtain ⟨p, q, hA, hV, rfl, _, _⟩ := hW
  rw [hv] at hV
  obtain ⟨rfl, rfl⟩ := trodVars_none hV
  refine ⟨ds, [], p ++ [], [], p, [], hW', ?_, ?_, ?_, hst.below.frame _, fun h => nomatch h⟩
  · rw [List.append_nil, hs.1, hrt]
    exact trodAll_mk1 (shut_bool hb _)
  · rw [List.append_nil, hs.2.1]
    exact trodAll_stays hl hst.below hrd hA fun x hx => hlt x (by simpa using hx)
  · rw [List.append_nil, hs.2.2, hv]
    exact rfl

theorem law_lifted {C : Checked} {f : FuncId} {fn : Func} {s : ChangeSpec} {os : Os} {H : Type} {enc : TypeId × Value → H} {tb : TypeId} (started : os.Started)
    (own : ownKnob C.prog.godebug = none) (hl : laidOutB C.prog = true) (noInit : C.prog.inits.idxOf? f = none) (hfn : C.prog.funcs[f]? = some fn)
    (hrd : (fn.params.toList.all fun t => C.prog.readableRec t && Nat.blt t C.prog.types.size) = true) (hrt : fn.resultTypes = #[tb]) (hb : C.prog.underlying tb = some .bool) (hv : s.vars = [])
    (hs : ∀ ds : List (DataW H), ds.length = fn.params.size → (s.fn H ds).results = [.lit (.bool true)] ∧ (s.fn H ds).args = ds ∧ (s.fn H ds).vars = [])
    (witness : ∃ (w : World) (tape : Tape) (i : Input), w.os = os ∧ (w.forCall tape i).Shaped C.prog ∧ i.vars = [] ∧ Input.okWide C.prog (w.forCall tape i) .any w.heap.size f i ∧
      s.pre6 enc C.prog fn [] false (w.forCall tape i).memory i.args ∧ ({} : Assume).holds C.prog (lone (Frame.enter C.prog f i.args .normal) [] (w.forCall tape i)))
    (walk : ∀ (W : World) (args : List Value) (ds : List (DataW H)), Came enc C.prog fn W args ds → Calls C.prog f ⟨args⟩ W fun e W' => e = .returned (.bool true) ∧ St W [] [] W') :
    ReturnsInHanded {} C os f .any (s.pre6 enc C.prog fn [] false) (s.post enc C.prog fn false true false false) := by
  refine returnsInHanded_of_calls own started noInit witness ?_
  intro w tape i _ _ _ hok hpre _
  obtain ⟨_, _, _, fn', hfn', _, _, _, _, hval⟩ := hok
  have e : fn' = fn := Option.some.inj (hfn'.symm.trans hfn)
  subst e
  obtain ⟨⟨ds, gs, before, hw, _⟩, hz⟩ := hpre
  have hW := DataW.Whole.of_heap (w' := w.forCall tape i) (by rfl) hw
  have hwt := hz.weights hw
  generalize hWW : w.forCall tape i = W at *
  generalize hargs : i.args = args at *
  generalize hbase : w.heap.size = base at *
  suffices hs' : Calls C.prog f args W fun e W' => ∃ v, e = .returned v ∧ s.post enc C.prog fn' false true false false W args v W' from
    hs'.mono fun e W' ⟨v, he, hp⟩ => by subst he; exact ChangeSpec.post_blind hp
  have hlt := fun x hx => hW.lt x hx
  have hW' := hW
  obtain ⟨p, q, hA, hV, rfl, _, _⟩ := hW
  have hlen : ds.length = fn'.params.size := by
    have : ∀ {ts : List TypeId} {vs : List Value} {ds : List (DataW H)} {ps : List MemPlace}, DataW.TrodAll enc C.prog W 0 (fun _ => true) true ts vs ds ps → ds.length = ts.length := by
      intro ts
      induction ts with
      | nil => intro vs ds ps h; obtain ⟨_, rfl, _⟩ := trodAll_nil h; rfl
      | cons t ts ih => intro vs ds ps h; obtain ⟨v, vs, d, ds, a, b, rfl, rfl, rfl, _, h2⟩ := trodAll_cons h; simp [ih h2]
    simpa using this hA
  obtain ⟨args⟩ := args
  have hwt' : ∀ k ∈ DataW.weightsEach C.prog fn'.params.toList ds, k ≤ reachBytes := fun k hk => by
    have h1 := List.all_eq_true.1 hwt k (by
      have : ∀ {ts ts' : List TypeId} {l l' : List (DataW H)}, k ∈ DataW.weightsEach C.prog ts l → k ∈ DataW.weightsEach C.prog (ts ++ ts') (l ++ l') := by
        intro ts
        induction ts with
        | nil => intro ts' l l' h; simp [DataW.weightsEach] at h
        | cons t ts ih =>
          intro ts' l l' h
          cases l with
          | nil => simp [DataW.weightsEach] at h
          | cons x l =>
            simp only [DataW.weightsEach, List.cons_append, List.mem_append] at h ⊢
            exact h.imp id ih
      exact this hk)
    simpa using h1
  refine (walk W args ds ⟨⟨base, fun j t v h1 h2 => hval j t v (by simpa using h1) (by simpa using h2)⟩, ⟨p, hA, fun x hx => hlt x (List.mem_append_left _ hx)⟩, hwt'⟩).mono ?_
  rintro e W' ⟨rfl, hst⟩
  exact ⟨_, rfl, law_post hl hrd hrt hb hv (hs ds hlen) hW' hst⟩
end Go.Ct
namespace Go.Proofs.Ytmogngagpphnhaa
open Go.RowKit Go.Ct
theorem ownT : ownKnob Try.prog.godebug = none := by kernel_rfl
theorem laidT : laidOutB Try.prog = true := by kernel_rfl
theorem boolT : Try.prog.underlying 4 = some .bool := by kernel_rfl
end Go.Proofs.Ytmogngagpphnhaa
