/- The engine, part 13: function values that capture, deferred calls, and blocks that are frozen. -/
import Derived.Test.YtmogngagpphnhaaIv
import Derived.Defers
import Derived.Recover
set_option linter.unusedSimpArgs false
set_option linter.unusedVariables false
namespace Go.Ct
open Go Go.RowKit
/-- The judgements for a frame that has calls to make when it leaves. -/
structure KD (P : Program) (n : Nat) (ds : List Deferred) (Q : Exit → Act → World → Prop) (ks : List CK) (S : List (Nat × Value)) (G : World → Prop) : Prop where
  run : SOk n S → ∀ w, G w → runK P Q ks .normal ⟨tmArr n S, ds⟩ w
structure LD (P : Program) (n : Nat) (ds : List Deferred) (Q : Exit → Act → World → Prop) (ks : List CK) (ops : Array Oper) (l : List Oper) (S : List (Nat × Value)) (G : World → Prop) : Prop where
  run : SOk n S → ∀ w, G w → wpList P ops (runK P Q ks) l ⟨tmArr n S, ds⟩ w
section
variable {P : Program} {n : Nat} {ds : List Deferred} {Q : Exit → Act → World → Prop} {ks : List CK} {S : List (Nat × Value)} {G : World → Prop} {ops : Array Oper} {l : List Oper}
theorem kd_seq {x y : Code} (h : KD P n ds Q (.code x :: .code y :: ks) S G) : KD P n ds Q (.code (.seq x y) :: ks) S G := ⟨fun hS w hw => by
  have := h.run hS w hw
  simp only [runK] at this ⊢
  rw [runK_code] at this
  exact wp_seq this⟩
theorem kd_skip (h : KD P n ds Q ks S G) : KD P n ds Q (.code .skip :: ks) S G := ⟨fun hS w hw => wp_skip (h.run hS w hw)⟩
theorem kd_if {c : Operand} {x y : Code} {t : Bool} (ht : t = true → KD P n ds Q (.code x :: ks) S G)
    (hf : t = false → KD P n ds Q (.code y :: ks) S G) (hc : ev S c = .bool t := by exact rfl) : KD P n ds Q (.code (.cond c x y) :: ks) S G := ⟨fun hS w hw =>
  wp_cond_split (by rw [eval_tm hS]; exact hc) (fun h => (ht h).run hS w hw) (fun h => (hf h).run hS w hw)⟩
theorem kd_region {id : Nat} {l : List Oper} (h : LD P n ds Q ks l.toArray l S G) : KD P n ds Q (.code (.region id l.toArray false) :: ks) S G :=
  ⟨fun hS w hw => wp_region_lit (h.run hS w hw)⟩
theorem kd_regionA {id : Nat} {l l' : List Oper} (hl : l = l') (h : LD P n ds Q ks l'.toArray l' S G) : KD P n ds Q (.code (.region id l.toArray false) :: ks) S G := by subst hl; exact kd_region h
theorem kd_mono {G' : World → Prop} (hG : ∀ w, G w → G' w) (h : KD P n ds Q ks S G') : KD P n ds Q ks S G := ⟨fun hS w hw => h.run hS w (hG w hw)⟩
theorem kd_fact {φ : Prop} (h : φ → KD P n ds Q ks S G) : KD P n ds Q ks S (fun w => φ ∧ G w) := ⟨fun hS w hw => (h hw.1).run hS w hw.2⟩
theorem ld_fact {φ : Prop} (h : φ → LD P n ds Q ks ops l S G) : LD P n ds Q ks ops l S (fun w => φ ∧ G w) := ⟨fun hS w hw => (h hw.1).run hS w hw.2⟩
theorem ld_nil (h : KD P n ds Q ks S G) : LD P n ds Q ks ops [] S G := ⟨h.run⟩
theorem kd_ret (h : SOk n S → ∀ w, G w → Q .ret ⟨tmArr n S, ds⟩ w) : KD P n ds Q (.code .ret :: ks) S G := ⟨fun hS w hw => wp_ret (runK_ret (h hS w hw))⟩
theorem ld_quiet {d : Nat} {op : Op} {ty : TypeId} {pos : String} {af : Array Edge} {v : Value} (hrun : Quiet P S G ⟨some d, op, ty, pos, af, none⟩ v) (hd : Nat.blt d n = true)
    (h : LD P n ds Q ks ops l ((d, v) :: S) G) : LD P n ds Q ks ops (⟨some d, op, ty, pos, af, none⟩ :: l) S G := ⟨fun hS w hw =>
  wpList_plain rfl fun K hK => by
    unfold Oper.wp
    rw [eval_tm hS, hrun.run w hw]
    simp only [Oper.upon, put_tm]
    exact hK _ _ (h.run (hS.cons hd) w hw)⟩
theorem ld_loud {X : Type} {V : X → Value} {G' : X → World → Prop} {d : Nat} {op : Op} {ty : TypeId} {pos : String} {af : Array Edge} (hrun : Loud P S G ⟨some d, op, ty, pos, af, none⟩ X V G') (hd : Nat.blt d n = true)
    (h : ∀ x, LD P n ds Q ks ops l ((d, V x) :: S) (G' x)) : LD P n ds Q ks ops (⟨some d, op, ty, pos, af, none⟩ :: l) S G := ⟨fun hS w hw =>
  wpList_plain rfl fun K hK => by
    unfold Oper.wp
    rw [eval_tm hS]
    refine (hrun.run w hw).upon fun x w' hg => ?_
    rw [put_tm]
    exact hK _ _ ((h x).run (hS.cons hd) w' hg)⟩
theorem ld_loud0 {X : Type} {V : X → Value} {G' : X → World → Prop} {op : Op} {ty : TypeId} {pos : String} {af : Array Edge} (hrun : Loud P S G ⟨none, op, ty, pos, af, none⟩ X V G')
    (h : ∀ x, LD P n ds Q ks ops l S (G' x)) : LD P n ds Q ks ops (⟨none, op, ty, pos, af, none⟩ :: l) S G := ⟨fun hS w hw =>
  wpList_plain rfl fun K hK => by
    unfold Oper.wp
    rw [eval_tm hS]
    exact (hrun.run w hw).upon fun x w' hg => hK _ _ ((h x).run hS w' hg)⟩
theorem yielded_tm {n : Nat} {S : List (Nat × Value)} {ops : Array Oper} {j g : Nat} {t : Bool} (hS : SOk n S) (hj : (ops[j]?).bind (·.dst) = some g) (hg : look S g = .bool t) : yielded ops (tmArr n S) j = some t := by
  have e := congrFun (eval_tm (ds := []) hS) (.tmp g)
  simp only [Act.eval, ev, hg] at e
  unfold yielded
  rw [hj]
  simp only [Option.bind_some]
  rw [Array.getD_eq_getD_getElem?] at e
  cases h2 : (tmArr n S)[g]? with
  | none => rw [h2] at e; simp [undef] at e
  | some u => rw [h2] at e; simp at e; subst e; rfl
theorem ld_unwanted {d : Nat} {op : Op} {ty : TypeId} {pos : String} {af : Array Edge} {j : Nat} {want : Bool} {g : Nat} {t : Bool} (hd : Nat.blt d n = true)
    (hj : (ops[j]?).bind (·.dst) = some g) (hg : look S g = .bool t) (ht : t ≠ want)
    (h : LD P n ds Q ks ops l ((d, undef) :: S) G) : LD P n ds Q ks ops (⟨some d, op, ty, pos, af, some (j, want)⟩ :: l) S G := ⟨fun hS w hw => by
  have hy := yielded_tm hS hj hg
  refine wpList_step fun K hK => ?_
  have hw' : Region.wanted ⟨some d, op, ty, pos, af, some (j, want)⟩ (yielded ops (tmArr n S)) = false := by
    simp only [Region.wanted, hy]
    cases t <;> cases want <;> simp_all
  simp only [hw', Bool.false_eq_true, if_false, put_tm]
  exact hK _ _ (h.run (hS.cons hd) w hw)⟩
theorem ld_wanted {d : Nat} {op : Op} {ty : TypeId} {pos : String} {af : Array Edge} {j : Nat} {want : Bool} {g : Nat}
    (hj : (ops[j]?).bind (·.dst) = some g) (hg : look S g = .bool want)
    (h : LD P n ds Q ks ops (⟨some d, op, ty, pos, af, none⟩ :: l) S G) : LD P n ds Q ks ops (⟨some d, op, ty, pos, af, some (j, want)⟩ :: l) S G := ⟨fun hS w hw => by
  have hy := yielded_tm hS hj hg
  have := h.run hS w hw
  unfold wpList at this ⊢
  rw [if_pos (by simp [Region.wanted])] at this
  rw [if_pos (by simp [Region.wanted, hy])]
  exact this⟩
theorem ld_case {g : Nat} {t : Bool} (hg : look S g = .bool t) (h1 : t = true → LD P n ds Q ks ops l ((g, .bool true) :: S) G) (h2 : t = false → LD P n ds Q ks ops l ((g, .bool false) :: S) G) : LD P n ds Q ks ops l S G := ⟨fun hS w hw => by
  cases t with
  | true =>
    have := (h1 rfl).run (hS.same hg (by simp [undef])) w hw
    rwa [tm_same hg] at this
  | false =>
    have := (h2 rfl).run (hS.same hg (by simp [undef])) w hw
    rwa [tm_same hg] at this⟩
/-- A deferred call of a function value. -/
theorem ld_defer {x : Operand} {f : FuncId} {cap : Array Value} {ty : TypeId} {pos : String} {af : Array Edge} (hx : ev S x = .func (.func f) #[] cap)
    (h : LD P n (⟨.fn (.func f) cap, #[]⟩ :: ds) Q ks ops l S G) : LD P n ds Q ks ops (⟨none, .defer { callee := .value x, args := ⟨[]⟩, argTypes := ⟨[]⟩ }, ty, pos, af, none⟩ :: l) S G := ⟨fun hS w hw =>
  wpList_plain rfl fun K hK => by
    unfold Oper.wp
    rw [eval_tm hS]
    have hr : (execOp (ev S) ⟨none, .defer { callee := .value x, args := ⟨[]⟩, argTypes := ⟨[]⟩ }, ty, pos, af, none⟩).run P w = .ok (.defer ⟨.fn (.func f) cap, #[]⟩) w := by
      simp [execOp, resolve, hx, Deferred.ofValue]
    rw [hr]
    exact hK _ _ (h.run hS w hw)⟩
theorem enterD {P : Program} {f : FuncId} {fn : Func} {c : Code} {args : Array Value} {w : World} {R : Ending → World → Prop} {n : Nat} {G : World → Prop}
    (hf : P.funcs[f]? = some fn) (hn : fn.ntmps = n) (hb : fn.body = some c) (hlen : Nat.ble args.size n = true) (hG : G w)
    (h : KD P n [] (bodyPostD P fn R) [.code c] (mkS 0 args.toList) G) : Calls P f args w R := by
  subst hn
  have hl : args.size ≤ fn.ntmps := Nat.le_of_ble_eq_true hlen
  refine calls_of_wp_defers hf hb ?_
  rw [tm_start _ _ hl]
  exact h.run (SOk_mkS _ _ _ (by simpa using hl)) w hG
/-- The deferred function does nothing when its caller returns. -/
def Idle (P : Program) (g : FuncId) (cap : Array Value) : Prop := ∀ w, CallsD P g cap .returning w fun e u' w' => e = .returned (.tuple #[]) ∧ u' = .returning ∧ w' = w
variable {w0 : World} {M : List Nat} {H : List (Nat × Obj)} {A F : Fr} {O : List Ow}
theorem kd_retvF {fn : Func} {R : Ending → World → Prop} {rs : List ResultVar} {vs : List Value} {g : FuncId} {cap : Array Value} (hi : Idle P g cap) (hp : plain P g = true) (hr : fn.results = ⟨rs⟩) (hv : ResAt P S H rs vs) (h : ∀ w, SF w0 M H A F O w → R (.returned (tupleOf vs)) w) :
    KD P n [⟨.fn (.func g) cap, #[]⟩] (bodyPostD P fn R) (.code .ret :: ks) S (SF w0 M H A F O) :=
  kd_ret fun hS w hw => by
    refine leaves_cons (f := g) (args := cap) (by simp) (by simp [invoke, run_callFunc hp]) ?_
    refine (hi w).mono ?_
    rintro e u' w' ⟨rfl, rfl, rfl⟩
    exact ⟨_, res_run hS hw.st hr hv, h _ hw⟩
/-! ### Function values -/
variable {d : Nat} {ty t : TypeId} {pos : String} {af : Array Edge} {gd : Option (Nat × Bool)} {dst : Option Nat} {x y : Operand} {v : Value} {w w' : World}
theorem o_makeFunc {fn : Fn} {cap : List Operand} {vs : List Value} (hc : evL S cap = vs) : Quiet P S G ⟨some d, .makeFunc fn ⟨[]⟩ ⟨cap⟩, ty, pos, af, gd⟩ (.func fn #[] ⟨vs⟩) := ⟨fun w _ => by
  subst hc
  have hm : (cap.map (ev S)).toArray = ⟨evL S cap⟩ := by rw [evL_map]
  simp only [execOp, List.map_toArray, List.map_nil, hm]
  rfl⟩
theorem o_eqlFn {fn : Fn} {a b : Array Value} {t' : TypeId} (hx : ev S x = .func fn a b) (hy : ev S y = .nilFunc) (h : ∀ w, (binOp .eql t (.func fn a b) .nilFunc).run P w = .ok (.bool false) w) : Quiet P S G ⟨some d, .binOp .eql t x y t', ty, pos, af, gd⟩ (.bool false) := ⟨fun w _ => by
  simp [execOp, hx, hy, h w, eqGuard]⟩
theorem o_neqNI {pv : Value} {t2 t' : TypeId} (hx : ev S x = .iface t2 pv) (hy : ev S y = .nilIface) (h : ∀ w, (binOp .neq t (.iface t2 pv) .nilIface).run P w = .ok (.bool true) w) : Quiet P S G ⟨some d, .binOp .neq t x y t', ty, pos, af, gd⟩ (.bool true) := ⟨fun w _ => by
  simp [execOp, hx, hy, h w, eqGuard]⟩
theorem run_clo {f : FuncId} {cap : List Value} {os : List Operand} {at_ : Array TypeId} {vs : List Value} (hx : ev S x = .func (.func f) #[] ⟨cap⟩) (hp : plain P f = true) (ha : evL S os = vs) (w : World) :
    (execOp (ev S) ⟨dst, .call { callee := .value x, args := ⟨os⟩, argTypes := at_ }, ty, pos, af, gd⟩).run P w = .ok (.enter f ⟨vs ++ cap⟩) w := by
  subst ha
  have hm : (os.map (ev S)).toArray = ⟨evL S os⟩ := by rw [evL_map]
  simp [execOp, resolve, hx, Deferred.ofValue, invoke, run_callFunc hp, hm]
/-! ### Blocks are frozen -/
theorem delA_sub {α : Type} : ∀ (l : List α) (i : Nat), (delA l i).Sublist l
  | [], _ => List.Sublist.refl _
  | _ :: _, 0 => List.sublist_cons_self ..
  | _ :: r, i + 1 => (delA_sub r i).cons_cons _
theorem At.perm {H : List (Nat × Obj)} {i b : Nat} {o : Obj} (h : At H i b o) : H.Perm ((b, o) :: delA H i) := by
  induction h with
  | head => exact List.Perm.refl _
  | tail _ ih => exact (ih.cons _).trans (List.Perm.swap _ _ _)
theorem SF.freezeB (h : SF w0 M H A F O w) {i b : Nat} {cs : List Value} {T : TypeId} (ha : At H i b (.cells ⟨cs⟩ T (0, 0))) : SF w0 M (delA H i) A ((some ⟨b, 0, none⟩, cs) :: F) O w := by
  have hp := h.perm ha.perm.symm (List.Perm.refl _)
  have hs : (Ks (delA H i) O).Sublist (Ks ((b, .cells ⟨cs⟩ T (0, 0)) :: delA H i) O) := by
    unfold Ks
    exact ((List.sublist_cons_self ..).map _).append (List.Sublist.refl _)
  have hd := hp.dis
  have hb : b ∉ Ks (delA H i) O := by
    unfold Ks at hd ⊢
    simp only [List.map_cons, List.cons_append, List.nodup_cons] at hd
    exact hd.1
  refine ⟨h.st.sub (delA_sub H i), fun f hf => ⟨(hp.old f hf).1, fun hc hm => (hp.old f hf).2 hc (hs.subset hm)⟩, fun f hf => ?_, h.own, hp.dis.sublist hs⟩
  rcases List.mem_cons.1 hf with rfl | hf
  · refine ⟨Cl.block (pre := []) (rest := []) (T := T) (fr := (0, 0)) (by simpa using h.st.at ha) rfl, fun _ => ⟨hb, ?_⟩⟩
    exact (h.st.new _ ha.mem).symm
  · exact ⟨(h.new f hf).1, fun hc => ⟨fun hm => ((hp.new f hf).2 hc).1 (hs.subset hm), ((h.new f hf).2 hc).2⟩⟩
/-- A load of several cells out of a list that is known. -/
theorem o_loadFA {a : Option Addr} {cs vs : List Value} {q k : Nat} (hx : ev S x = .pointer (some ⟨ablk a, aoff a + q, none⟩)) (ht : aggOf P t k = true) (hf : FIn A F O a cs) (hv : (cs.drop q).take k = vs) (hl : vs.length = k) :
    Quiet P S (SF w0 M H A F O) ⟨some d, .load t x, ty, pos, af, gd⟩ (.agg ⟨vs⟩) := ⟨fun w hw => by
  have hcl := hw.cl hf
  obtain ⟨dd, hu, hm, hi⟩ := agg_parts ht
  have hagg : (isAgg t).run P w = .ok true w := by
    unfold isAgg
    rw [Sem.run_bind, run_underlying hu w]
    cases dd <;> simp_all
  have hc : (loadCells ⟨ablk a, aoff a + q, none⟩ k).run P w = .ok ⟨vs⟩ w := by
    have := run_loadCells_list (P := P) w ⟨ablk a, aoff a + q, none⟩ vs (fun j z hz => by
      subst hv
      have hj := (List.getElem?_eq_some_iff.1 hz).1
      have h2 : cs[q + j]? = some z := by
        rw [List.getElem?_take_of_lt (by simp at hj; omega), List.getElem?_drop] at hz
        exact hz
      rw [Addr.add_lit, show aoff a + q + j = aoff a + (q + j) by omega]
      exact (hcl.at_ _ _ h2).2)
    rw [hl] at this
    simpa using this
  cases hq' : P.info? t with
  | none => rw [hq'] at hi; simp at hi
  | some i =>
    have hs : i.size = k := by rw [hq'] at hi; simpa using hi
    simp [execOp, hx, Instr.loadAt, Instr.sureAddr, loadVar, hagg, Go.sizeOf, typeInfo, hq', hs, hc]⟩
/-- A load of one cell out of a list that is known. -/
theorem o_loadF1 {a : Option Addr} {cs : List Value} {q : Nat} {v : Value} (hx : ev S x = .pointer (some ⟨ablk a, aoff a + q, none⟩)) (ht : one P t = true) (hf : FIn A F O a cs) (hq : cs[q]? = some v) :
    Quiet P S (SF w0 M H A F O) ⟨some d, .load t x, ty, pos, af, gd⟩ v := o_loadW hx ht (fun w hw => hw.cl hf) hq
/-- A store of several cells into a known block. -/
theorem o_storePart {b off i : Nat} {vs old cs : List Value} {T : TypeId} {H' : List (Nat × Obj)} (hx : ev S x = .pointer (some ⟨b, off, none⟩)) (ha : At H i b (.cells ⟨old⟩ T (0, 0))) (hy : ev S y = .agg ⟨vs⟩) (h1 : vs.all (·.oneCell') = true)
    (ht : aggOf P t vs.length = true) (hl : off + vs.length ≤ old.length) (hcs : old.take off ++ vs ++ old.drop (off + vs.length) = cs) (hH : setAt H i (.cells ⟨cs⟩ T (0, 0)) = H') :
    Loud P S (St w0 M H) ⟨none, .store t x y, ty, pos, af, gd⟩ Unit (fun _ => undef) (fun _ => St w0 M H') :=
  loud_skip (fun w hw => by
    subst hH hcs
    have hb := hw.at ha
    obtain ⟨dd, hu, hm, hi⟩ := agg_parts ht
    have hst := run_storeCells_at (P := P) b off T vs 0 ⟨old⟩ w hb (by simpa using hl) (by simpa using h1)
    simp only [Nat.add_zero] at hst
    refine ⟨w.setRow b ⟨old.take off ++ vs ++ old.drop (off + vs.length)⟩, ?_, hw.write ha rfl rfl rfl (by simp) (fun k hk => setRow_other w b k _ hk) (setRow_heap w b ⟨old⟩ _ T (0, 0) hb)⟩
    cases hq' : P.info? t with
    | none => rw [hq'] at hi; simp at hi
    | some inf =>
      have hs : inf.size = vs.length := by rw [hq'] at hi; simpa using hi
      simp [execOp, hx, hy, Instr.storeAt, Instr.sureAddr, storeVar, sizeOf, typeInfo, hq', hs, Value.cells, hst])
end
end Go.Ct
