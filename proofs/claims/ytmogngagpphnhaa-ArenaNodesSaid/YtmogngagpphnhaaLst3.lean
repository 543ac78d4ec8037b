/- The engine, part 9: lists of strings and of nodes; tapes. -/
import Derived.Test.YtmogngagpphnhaaLst2
import Derived.Test.YtmogngagpphnhaaSpec
set_option linter.unusedSimpArgs false
set_option linter.unusedVariables false
namespace Go.Ct
open Go Go.RowKit

section
variable {P : Program} {n : Nat} {S : List (Nat × Value)}
variable {w0 w w' : World} {M : List Nat} {H H' : List (Nat × Obj)} {A F F' : Fr} {O O' : List Ow} {G : World → Prop}
variable {d : Nat} {ty : TypeId} {pos : String} {af : Array Edge} {gd : Option (Nat × Bool)} {dst : Option Nat} {x y z : Operand} {t t2 e : TypeId} {p a : Option Addr} {i m k c c2 : Nat}

def strsC (l : List ByteArray) : List Value := l.map Value.string
theorem o_indexS {lst : List ByteArray} {kk : IntKind} (hx : ev S x = .slice a m c) (hy : ev S y = .int kk ((k : Nat) : Int)) (ht : P.underlying t = some (.slice e)) (hs : one P e = true) (hf : FIn A F O a (strsC lst)) (h1 : k < m) (h2 : k < lst.length) :
    Quiet P S (SF w0 M H A F O) ⟨some d, .indexAddr t x y, ty, pos, af, gd⟩ (.pointer (some ⟨ablk a, aoff a + k, none⟩)) := ⟨fun w hw =>
  (o_index1 (G := SF w0 M H A F O) hx hy ht hs ((hw.cl hf).ptr (by simp only [strsC, List.length_map]; omega)) h1).run w hw⟩
theorem o_loadS {lst : List ByteArray} {q : Nat} (hx : ev S x = .pointer (some ⟨ablk a, aoff a + q, none⟩)) (ht : one P t = true) (hf : FIn A F O a (strsC lst)) (hq : q < lst.length) :
    Quiet P S (SF w0 M H A F O) ⟨some d, .load t x, ty, pos, af, gd⟩ (.string (lst.getD q ⟨#[]⟩)) := o_loadW hx ht (fun w hw => hw.cl hf) (by simp [strsC, hq, List.getD])

/-! ### Nodes in lists -/
def ndsC (l : List Nd) : List Value := l.flatMap Nd.cells
theorem ndsC_length : ∀ l : List Nd, (ndsC l).length = 14 * l.length
  | [] => rfl
  | _ :: r => by
    have := ndsC_length r
    simp only [ndsC, List.flatMap_cons, List.length_append, List.length_cons] at this ⊢
    rw [this]
    simp only [Nd.cells, List.length_cons, List.length_nil]
    omega
theorem ndsC_at : ∀ {l : List Nd} {k j : Nat}, k < l.length → j < 14 → (ndsC l)[14 * k + j]? = (l.getD k Nd.zero).cells[j]?
  | [], _, _, h, _ => by simp at h
  | n :: r, 0, j, _, hj => by
    simp only [ndsC, List.flatMap_cons, Nat.mul_zero, Nat.zero_add, List.getD_cons_zero]
    rw [List.getElem?_append_left (by simp only [Nd.cells, List.length_cons, List.length_nil]; omega)]
  | n :: r, k + 1, j, h, hj => by
    have := ndsC_at (l := r) (k := k) (j := j) (by simpa using h) hj
    simp only [ndsC, List.flatMap_cons, List.getD_cons_succ] at this ⊢
    rw [List.getElem?_append_right (by simp only [Nd.cells, List.length_cons, List.length_nil]; omega), ← this]
    congr 1
    simp only [Nd.cells, List.length_cons, List.length_nil]
    omega
theorem run_indexN {m c : Nat} {i : Int} {kk : IntKind} (hx : ev S x = .slice a m c) (hy : ev S y = .int kk ((k : Nat) : Int)) (ht : P.underlying t = some (.slice e)) (hs : aggOf P e 14 = true) (ha : a = some ⟨ablk a, aoff a, none⟩) (h1 : k < m) :
    Quiet P S G ⟨some d, .indexAddr t x y, ty, pos, af, gd⟩ (.pointer (some ⟨ablk a, aoff a + 14 * k, none⟩)) := ⟨fun w _ => by
  obtain ⟨_, _, _, hsz⟩ := agg_parts hs
  have := run_index (P := P) (a := a) (m := m) (c := c) (k := kk) ht hsz ha (i := (k : Int)) (by omega) (by omega) w
  simp only [Int.toNat_natCast, Nat.mul_comm k 14] at this
  simp [execOp, hx, hy, this]⟩
theorem o_indexN {lst : List Nd} {kk : IntKind} (hx : ev S x = .slice a m c) (hy : ev S y = .int kk ((k : Nat) : Int)) (ht : P.underlying t = some (.slice e)) (hs : aggOf P e 14 = true) (hf : FIn A F O a (ndsC lst)) (h1 : k < m) (h2 : k < lst.length) :
    Quiet P S (SF w0 M H A F O) ⟨some d, .indexAddr t x y, ty, pos, af, gd⟩ (.pointer (some ⟨ablk a, aoff a + 14 * k, none⟩)) := ⟨fun w hw =>
  (run_indexN (i := 0) (G := SF w0 M H A F O) hx hy ht hs ((hw.cl hf).ptr (by rw [ndsC_length]; omega)) h1).run w hw⟩
theorem o_loadN {lst : List Nd} {q : Nat} (hx : ev S x = .pointer (some ⟨ablk a, aoff a + 14 * q, none⟩)) (ht : aggOf P t 14 = true) (hf : FIn A F O a (ndsC lst)) (hq : q < lst.length) :
    Quiet P S (SF w0 M H A F O) ⟨some d, .load t x, ty, pos, af, gd⟩ (lst.getD q Nd.zero).v := ⟨fun w hw => by
  have hcl := hw.cl hf
  obtain ⟨dd, hu, hm, hi⟩ := agg_parts ht
  have hagg : (isAgg t).run P w = .ok true w := by
    unfold isAgg
    rw [Sem.run_bind, run_underlying hu w]
    cases dd <;> simp_all
  have hl : (loadCells ⟨ablk a, aoff a + 14 * q, none⟩ 14).run P w = .ok ⟨(lst.getD q Nd.zero).cells⟩ w := by
    have := run_loadCells_list (P := P) w ⟨ablk a, aoff a + 14 * q, none⟩ (lst.getD q Nd.zero).cells (fun j z hz => by
      have hj : j < 14 := (List.getElem?_eq_some_iff.1 hz).1
      rw [Addr.add_lit]
      have h3 := (hcl.at_ (14 * q + j) z (by rw [ndsC_at hq hj]; exact hz)).2
      rwa [← Nat.add_assoc] at h3)
    exact this
  cases hq' : P.info? t with
  | none => rw [hq'] at hi; simp at hi
  | some i =>
    have hs : i.size = 14 := by rw [hq'] at hi; simpa using hi
    simp [execOp, hx, Instr.loadAt, Instr.sureAddr, loadVar, hagg, Go.sizeOf, typeInfo, hq', hs, hl, Nd.v]⟩

/-! ### Tapes -/
def modv (v n : Int) : Int := IntKind.i64.wrap ((IntKind.u64.wrap v).tmod (IntKind.u64.wrap n))
def tvN (l : List Int) (k : Nat) (n : Int) : Nat := if k < l.length then (modv (l.getD k 0) n).toNat else 0
def tiN (l : List Int) (k : Nat) : Nat := if k < l.length then k + 1 else k
theorem wrap_u64 (i : Int) : IntKind.u64.wrap i = i % 18446744073709551616 := by
  simp [IntKind.wrap, IntKind.signed, IntKind.bits]
theorem modv_bound {v n : Int} (h0 : 0 < n) (h1 : n ≤ 9223372036854775807) : 0 ≤ modv v n ∧ modv v n < n := by
  unfold modv
  rw [wrap_u64, wrap_u64, Int.emod_eq_of_lt (a := n) (by omega) (by omega)]
  have h2 := Int.emod_nonneg v (show (18446744073709551616 : Int) ≠ 0 by decide)
  have h3 := Int.tmod_lt_of_pos (v % 18446744073709551616) h0
  have h4 := Int.tmod_nonneg n h2
  rw [wrap_i64 (by omega) (by omega)]
  exact ⟨h4, h3⟩
theorem tvN_lt {l : List Int} {k : Nat} {n : Int} (h0 : 0 < n) (h1 : n ≤ 9223372036854775807) : ((tvN l k n : Nat) : Int) < n := by
  unfold tvN
  split
  · have := modv_bound (v := l.getD k 0) h0 h1; omega
  · simpa using h0
/-- A tape: the list l from place k on. -/
def tapeO (T : TypeId) (a : Option Addr) (l : List Int) (c k : Nat) : Obj := .cells ⟨[.slice a l.length c, .int .i64 ((k : Nat) : Int)]⟩ T (0, 0)
structure TapeAt (w : World) (T : TypeId) (b : Nat) (a : Option Addr) (l : List Int) (c k : Nat) : Prop where
  obj : w.heap[b]? = some (tapeO T a l c k)
  cl : Cl w a (refsC l)
  ne : refsC l ≠ [] → ablk a ≠ b
  len : l.length ≤ 17592186043904
theorem SF.tape (h : SF w0 M H A F O w) {T b l} (ha : At H i b (tapeO T a l c k)) (hf : FIn A F [] a (refsC l)) (hl : l.length ≤ 17592186043904) : TapeAt w T b a l c k := by
  refine ⟨h.st.at ha, ?_, fun hc e => h.apart hf hc (e ▸ List.mem_append_left _ (List.mem_map.2 ⟨_, ha.mem, rfl⟩)), hl⟩
  cases hf with
  | old h1 => exact h.cl (.old h1)
  | new h1 => exact h.cl (.new h1)
  | own h1 => cases h1
  | hdr h1 _ => cases h1
theorem TapeAt.start {T b l} (h : TapeAt w T b a l c k) : SF w [b] [(b, .cells ⟨[.slice a l.length c, .int .i64 ((k : Nat) : Int)]⟩ T (0, 0))] [(a, refsC l)] [] [] w := by
  refine ⟨⟨rfl, rfl, rfl, Nat.le_refl _, fun _ _ _ => rfl, fun p hp => ?_, fun p hp => ?_, by simp⟩, fun f hf => ?_, fun _ h => (List.not_mem_nil h).elim, fun _ h => (List.not_mem_nil h).elim, by simp [Ks]⟩
  · simp only [List.mem_singleton] at hp
    subst hp
    exact h.obj
  · simp only [List.mem_singleton] at hp
    subst hp
    exact .inl (by simp)
  · simp only [List.mem_singleton] at hf
    subst hf
    exact ⟨h.cl, fun hc => by simp only [Ks, List.map_cons, List.map_nil, List.flatMap_nil, List.append_nil, List.mem_singleton]; exact h.ne hc⟩
end
end Go.Ct
