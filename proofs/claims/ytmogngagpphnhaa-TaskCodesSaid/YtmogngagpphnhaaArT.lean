/- Lists of states. -/
import Derived.Test.YtmogngagpphnhaaArM
set_option linter.unusedSimpArgs false
set_option linter.unusedVariables false
namespace Go.Ct
open Go Go.RowKit
section
variable {w0 w w' : World} {M : List Nat} {H : List (Nat × Obj)} {A F : Fr} {O : List Ow}
variable {P : Program} {S : List (Nat × Value)} {G : World → Prop} {d : Nat} {ty : TypeId} {pos : String} {af : Array Edge} {gd : Option (Nat × Bool)} {x y : Operand} {t t2 e : TypeId} {p a : Option Addr} {i m k c c2 sz : Nat}
variable {α : Type} {g : α → List Value} {z : α}
theorem flat_length (hg : ∀ x, (g x).length = sz) : ∀ l : List α, (l.flatMap g).length = sz * l.length
  | [] => by simp
  | x :: r => by
    have := flat_length hg r
    simp only [List.flatMap_cons, List.length_append, List.length_cons, this, hg, Nat.mul_add, Nat.mul_one]
    omega
theorem flat_at (hg : ∀ x, (g x).length = sz) : ∀ {l : List α} {k j : Nat}, k < l.length → j < sz → (l.flatMap g)[sz * k + j]? = (g (l.getD k z))[j]?
  | [], _, _, h, _ => by simp at h
  | n :: r, 0, j, _, hj => by
    simp only [List.flatMap_cons, Nat.mul_zero, Nat.zero_add, List.getD_cons_zero]
    rw [List.getElem?_append_left (by rw [hg]; exact hj)]
  | n :: r, k + 1, j, h, hj => by
    have := flat_at hg (l := r) (k := k) (j := j) (by simpa using h) hj
    simp only [List.flatMap_cons, List.getD_cons_succ]
    rw [List.getElem?_append_right (by rw [hg, Nat.mul_add]; omega), ← this, hg]
    congr 1
    rw [Nat.mul_add]
    omega
theorem flat_set (hg : ∀ x, (g x).length = sz) : ∀ {l : List α} {k j : Nat} {u : Value} {v : α}, k < l.length → j < sz → (g (l.getD k z)).set j u = g v → (l.flatMap g).set (sz * k + j) u = (l.set k v).flatMap g
  | n :: r, 0, j, u, v, _, hj, hv => by
    rw [List.getD_cons_zero] at hv
    rw [List.flatMap_cons, Nat.mul_zero, Nat.zero_add, List.set_cons_zero, List.flatMap_cons, List.set_append_left _ _ (by rw [hg]; exact hj), hv]
  | n :: r, k + 1, j, u, v, hk, hj, hv => by
    have := flat_set hg (l := r) (k := k) (j := j) (u := u) (v := v) (by simpa using hk) hj (by rw [List.getD_cons_succ] at hv; exact hv)
    rw [List.flatMap_cons, List.set_cons_succ, List.flatMap_cons, ← this, List.set_append_right _ _ (by rw [hg, Nat.mul_add]; omega), hg]
    congr 2
    rw [Nat.mul_add]
    omega
theorem SF.capR (h : SF w0 M H A F O w) {l : List Int} {T : TypeId} (ho : OAt O i p (refsC l) c T 1) : l.length ≤ c := by
  rcases (h.own _ ho.mem).1 with ⟨_, h2, _⟩ | ⟨b, rest, _, _, h3⟩
  · have h2' : refsC l = [] := h2
    have : (refsC l).length = 0 := by rw [h2']; rfl
    rw [refsC_length] at this
    omega
  · have h3' : (refsC l ++ rest).length = c * 1 := h3
    rw [List.length_append, refsC_length] at h3'
    omega
theorem o_indexG {lst : List α} {kk : IntKind} (hg : ∀ x, (g x).length = sz) (h0 : 0 < sz) (hx : ev S x = .slice a m c) (hy : ev S y = .int kk ((k : Nat) : Int)) (ht : P.underlying t = some (.slice e)) (hs : aggOf P e sz = true) (hf : FIn A F O a (lst.flatMap g)) (h1 : k < m) (h2 : k < lst.length) :
    Quiet P S (SF w0 M H A F O) ⟨some d, .indexAddr t x y, ty, pos, af, gd⟩ (.pointer (some ⟨ablk a, aoff a + sz * k, none⟩)) := ⟨fun w hw => by
  obtain ⟨_, _, _, hsz⟩ := agg_parts hs
  have ha := (hw.cl hf).ptr (by rw [flat_length hg]; exact Nat.mul_pos h0 (by omega))
  have := run_index (P := P) (a := a) (m := m) (c := c) (k := kk) ht hsz ha (i := (k : Int)) (by omega) (by omega) w
  simp only [Int.toNat_natCast, Nat.mul_comm k sz] at this
  simp [execOp, hx, hy, this]⟩
theorem o_loadG {lst : List α} {q : Nat} (z : α) (hg : ∀ x, (g x).length = sz) (hx : ev S x = .pointer (some ⟨ablk a, aoff a + sz * q, none⟩)) (ht : aggOf P t sz = true) (hf : FIn A F O a (lst.flatMap g)) (hq : q < lst.length) :
    Quiet P S (SF w0 M H A F O) ⟨some d, .load t x, ty, pos, af, gd⟩ (.agg ⟨g (lst.getD q z)⟩) := ⟨fun w hw => by
  have hcl := hw.cl hf
  obtain ⟨dd, hu, hm, hi⟩ := agg_parts ht
  have hagg : (isAgg t).run P w = .ok true w := by
    unfold isAgg
    rw [Sem.run_bind, run_underlying hu w]
    cases dd <;> simp_all
  have hl : (loadCells ⟨ablk a, aoff a + sz * q, none⟩ sz).run P w = .ok ⟨g (lst.getD q z)⟩ w := by
    have := run_loadCells_list (P := P) w ⟨ablk a, aoff a + sz * q, none⟩ (g (lst.getD q z)) (fun j u hz => by
      have hj : j < sz := by rw [← hg (lst.getD q z)]; exact (List.getElem?_eq_some_iff.1 hz).1
      rw [Addr.add_lit]
      have h3 := (hcl.at_ (sz * q + j) u (by rw [flat_at hg hq hj]; exact hz)).2
      rwa [← Nat.add_assoc] at h3)
    rwa [hg] at this
  cases hq' : P.info? t with
  | none => rw [hq'] at hi; simp at hi
  | some i =>
    have hs : i.size = sz := by rw [hq'] at hi; simpa using hi
    simp [execOp, hx, Instr.loadAt, Instr.sureAddr, loadVar, hagg, Go.sizeOf, typeInfo, hq', hs, hl]⟩
theorem o_loadGf {lst : List α} {q j : Nat} {v : Value} (z : α) (hg : ∀ x, (g x).length = sz) (hx : ev S x = .pointer (some ⟨ablk a, aoff a + sz * q + j, none⟩)) (ht : one P t = true) (hj : j < sz) (hv : (g (lst.getD q z))[j]? = some v) (hf : FIn A F O a (lst.flatMap g)) (hq : q < lst.length) :
    Quiet P S (SF w0 M H A F O) ⟨some d, .load t x, ty, pos, af, gd⟩ v := o_loadW (q := sz * q + j) (by rw [hx]; simp only [Nat.add_assoc]) ht (fun w hw => hw.cl hf) (by rw [flat_at (z := z) hg hq hj]; exact hv)
theorem set_nvC {L : List NdV} {q j : Nat} {u : Value} {v : NdV} (hq : q < L.length) (hj : j < 14) (hv : (L.getD q NdV.zero).nd.cells.set j u = v.nd.cells) : (nvC L).set (14 * q + j) u = nvC (L.set q v) :=
  flat_set (g := fun v : NdV => v.nd.cells) (z := NdV.zero) (fun v => cells_length v.nd) hq hj hv
theorem o_storeV {L : List NdV} {q j : Nat} {u : Value} (v : NdV) (hx : ev S x = .pointer (some ⟨ablk p, aoff p + 14 * q + j, none⟩)) (hy : ev S y = u) (h1 : u.oneCell' = true) (ht : one P t = true) (ho : OAt O i p (nvC L) c e 14) (hq : q < L.length) (hj : j < 14) (hv : (L.getD q NdV.zero).nd.cells.set j u = v.nd.cells) :
    Loud P S (SF w0 M H A F O) ⟨none, .store t x y, ty, pos, af, gd⟩ Unit (fun _ => undef) (fun _ => SF w0 M H A F (setO O i ⟨p, nvC (L.set q v), c, e, 14⟩)) := by
  rw [← set_nvC hq hj hv]
  exact o_storeO (q := 14 * q + j) (by rw [hx, Nat.add_assoc]) hy h1 ht ho (by rw [nvC_length]; omega)
end
/-- A state: what it holds and where its lists lie. -/
structure StV where
  L : List NdV
  cs : List Int
  gen : Int
  pn : Option Addr
  cn : Nat
  pc : Option Addr
  cc : Nat
def StV.cells (s : StV) : List Value := [.slice s.pn s.L.length s.cn, .slice s.pc s.cs.length s.cc, .int .i64 s.gen]
def StV.zero : StV := ⟨[], [], 0, none, 0, none, 0⟩
def StV.fr (s : StV) : Fr := (s.pn, nvC s.L) :: (s.pc, refsC s.cs) :: famF s.L
theorem StV.len (s : StV) : s.cells.length = 3 := rfl
structure StV.Ok (s : StV) : Prop where
  fit : Fits s.L
  rng : Rngs s.L
  cap : s.L.length ≤ s.cn
theorem SF.stV {w0 w : World} {M : List Nat} {H : List (Nat × Obj)} {A F : Fr} {O : List Ow} (h : SF w0 M H A F O w) {s : StV} (ok : s.Ok) (hs : ∀ f ∈ s.fr, Has A F O f) : StAt w s.L s.cs s.pn s.pc :=
  h.stAt (hs _ (List.mem_cons_self ..)) (hs _ (List.mem_cons_of_mem _ (List.mem_cons_self ..))) (fun f hf => hs f (List.mem_cons_of_mem _ (List.mem_cons_of_mem _ hf))) ok.fit
end Go.Ct
namespace Go.Proofs.Ytmogngagpphnhaa
open Go.RowKit Go.Ct
theorem refClone_c {L : List NdV} {cs : List Int} {gen : Int} {pn pc : Option Addr} {cn cc : Nat} {w : World} (h1 : Cl w pn (nvC L)) (h2 : Cl w pc (refsC cs)) (hL : L.length ≤ 274877906944) (hC : cs.length ≤ 274877906944) :
    Calls Try.prog 72 #[.agg ⟨[.slice pn L.length cn, .slice pc cs.length cc, .int .i64 gen]⟩] w fun e w' => ∃ x : (Option Addr × Nat) × (Option Addr × Nat), e = .returned (.agg ⟨[.slice x.1.1 L.length x.1.2, .slice x.2.1 cs.length x.2.2, .int .i64 gen]⟩) ∧ (L.length ≤ x.1.2 ∧ cs.length ≤ x.2.2) ∧
      SF w [] [] [] [] [⟨x.1.1, nvC L, x.1.2, 48, 14⟩, ⟨x.2.1, refsC cs, x.2.2, 39, 1⟩] w' := by
  refine enter Try.func72 Try.ntmps72 rfl rfl (SF.s2 h1 h2) ?_
  simp only [mkS]
  all_goals (refine k_seq ?_; refine k_region ?_; refine j_box (fun x1 => ?_); refine j_alloc (fun x2 => ?_); refine l_nil ?_; refine k_seq ?_)
  all_goals
   refine k_joinG [3, 4, 5, 6, 7, 8, 9, 10, 11, 12, 13] (fun j : (Option Addr × Nat) × (Option Addr × Nat) => []) (fun _ => True) (fun j => [(x2, .cells ⟨[.slice j.1.1 L.length j.1.2, .slice j.2.1 cs.length j.2.2, .int .i64 gen]⟩ 34 (0, 0)), (x1, .cells ⟨[.slice pn L.length cn, .slice pc cs.length cc, .int .i64 gen]⟩ 34 (0, 0))]) (fun j => []) (fun j => [⟨j.1.1, nvC L, j.1.2, 48, 14⟩, ⟨j.2.1, refsC cs, j.2.2, 39, 1⟩]) (by decide) (fun _ => by exact rfl) ?_ (fun j f hx => ?_)
   · refine k_drawF (.one 1 [] (.one 2 [] (.one 5 [] (.one 6 [] (.one 8 [] (.one 9 [] (.two 0 [2, 6, 9] (.two 3 [6, 9] (.one 4 [2, 6, 9] (.one 7 [9] (.one 10 [] (.one 11 [] .nil)))) 0 [] (.two 4 [2, 6, 9] (.one 3 [6, 9] (.one 7 [9] (.one 10 [] (.one 11 [] .nil)))) 0 [] .nil)) 0 [] (.two 4 [2, 6, 9] (.one 0 [2, 6, 9] (.one 3 [6, 9] (.one 7 [9] (.one 10 [] (.one 11 [] .nil))))) 0 [] .nil)))))))) ?_
     all_goals (refine r_fieldAddr (i := 1) ?_; refine r_load (i := 2) ?_; refine r_fieldAddr (i := 5) ?_; refine r_load (i := 6) ?_; refine r_fieldAddr (i := 8) ?_; refine r_load (i := 9) ?_)
     all_goals
      refine r_many (E := [0, 4]) (by decide +kernel) ((.cons ?_ (.cons ?_ .nil)))
      · refine s_build0 (i := 0) (hfire := (fun _ => by first | ((repeat (first | exact FireAll.nil | refine FireAll.cons (by first | exact a_load | exact a_un) ?_)); done) | (refine fireall_fact ?_; (repeat (first | exact FireAll.nil | refine FireAll.cons (by first | exact a_load | exact a_un) ?_)); done))) (h := fun x3 => ?_)
        all_goals
         refine r_many (E := [3, 4]) (by decide +kernel) ((.cons ?_ (.cons ?_ .nil)))
         · (refine s_append (i := 3) (hfire := (fun _ => by first | ((repeat (first | exact FireAll.nil | refine FireAll.cons (by first | exact a_load | exact a_un) ?_)); done) | (refine fireall_fact ?_; (repeat (first | exact FireAll.nil | refine FireAll.cons (by first | exact a_load | exact a_un) ?_)); done))) (h := fun x6 => ?_); try (refine r_fact (fun h6 => ?_)))
           all_goals (refine r_build0 (i := 4) (hfire := (fun _ => by first | ((repeat (first | exact FireAll.nil | refine FireAll.cons (by first | exact a_load | exact a_un) ?_)); done) | (refine fireall_fact ?_; (repeat (first | exact FireAll.nil | refine FireAll.cons (by first | exact a_load | exact a_un) ?_)); done))) (h := fun x7 => ?_); ((refine r_append (i := 7) (hfire := (fun _ => by first | (refine FireAll.cons (by first | exact a_load | exact a_un) ?_; exact FireAll.nil) | (refine fireall_fact ?_; refine FireAll.cons (by first | exact a_load | exact a_un) ?_; exact FireAll.nil))) (h := fun x10 => ?_); try (refine r_fact (fun h10 => ?_)))); refine r_build (i := 10) ?_; refine r_store (i := 11) (hfire := (fun _ => .nil)) (h := fun _ => ?_); refine r_fin ?_)
           all_goals
            refine k_roundF ((x6, x10)) (by decide) ?_ (by repeat (first | (with_reducible exact Pre.refl) | refine Pre.cons (by exact rfl) ?_)) ?_ (fun w hw => by
               simp only [List.nil_append, Nat.zero_add] at hw
               first | exact hw.back (hO := by exact List.Sublist.refl _) | exact hw.swapO.back (hO := by exact List.Sublist.refl _))
            · repeat' (first | exact knows_nil _ | refine knows_cons ?_ ?_)
              all_goals (first | exact rfl | (conv => { lhs; whnf }; simp; done) | (conv => { lhs; whnf }; congr 1; omega))
            · trivial
         · refine s_build0 (i := 4) (hfire := (fun _ => by first | ((repeat (first | exact FireAll.nil | refine FireAll.cons (by first | exact a_load | exact a_un) ?_)); done) | (refine fireall_fact ?_; (repeat (first | exact FireAll.nil | refine FireAll.cons (by first | exact a_load | exact a_un) ?_)); done))) (h := fun x7 => ?_)
           all_goals (((refine r_append (i := 3) (hfire := (fun _ => by first | ((repeat (first | exact FireAll.nil | refine FireAll.cons (by first | exact a_load | exact a_un) ?_)); done) | (refine fireall_fact ?_; (repeat (first | exact FireAll.nil | refine FireAll.cons (by first | exact a_load | exact a_un) ?_)); done))) (h := fun x6 => ?_); try (refine r_fact (fun h6 => ?_)))); ((refine r_append (i := 7) (hfire := (fun _ => by first | (refine FireAll.cons (by first | exact a_load | exact a_un) ?_; exact FireAll.nil) | (refine fireall_fact ?_; refine FireAll.cons (by first | exact a_load | exact a_un) ?_; exact FireAll.nil))) (h := fun x10 => ?_); try (refine r_fact (fun h10 => ?_)))); refine r_build (i := 10) ?_; refine r_store (i := 11) (hfire := (fun _ => .nil)) (h := fun _ => ?_); refine r_fin ?_)
           all_goals
            refine k_roundF ((x6, x10)) (by decide) ?_ (by repeat (first | (with_reducible exact Pre.refl) | refine Pre.cons (by exact rfl) ?_)) ?_ (fun w hw => by
               simp only [List.nil_append, Nat.zero_add] at hw
               first | exact hw.back (hO := by exact List.Sublist.refl _) | exact hw.swapO.back (hO := by exact List.Sublist.refl _))
            · repeat' (first | exact knows_nil _ | refine knows_cons ?_ ?_)
              all_goals (first | exact rfl | (conv => { lhs; whnf }; simp; done) | (conv => { lhs; whnf }; congr 1; omega))
            · trivial
      · refine s_build0 (i := 4) (hfire := (fun _ => by first | ((repeat (first | exact FireAll.nil | refine FireAll.cons (by first | exact a_load | exact a_un) ?_)); done) | (refine fireall_fact ?_; (repeat (first | exact FireAll.nil | refine FireAll.cons (by first | exact a_load | exact a_un) ?_)); done))) (h := fun x7 => ?_)
        all_goals (refine r_build0 (i := 0) (hfire := (fun _ => by first | ((repeat (first | exact FireAll.nil | refine FireAll.cons (by first | exact a_load | exact a_un) ?_)); done) | (refine fireall_fact ?_; (repeat (first | exact FireAll.nil | refine FireAll.cons (by first | exact a_load | exact a_un) ?_)); done))) (h := fun x3 => ?_); ((refine r_append (i := 3) (hfire := (fun _ => by first | ((repeat (first | exact FireAll.nil | refine FireAll.cons (by first | exact a_load | exact a_un) ?_)); done) | (refine fireall_fact ?_; (repeat (first | exact FireAll.nil | refine FireAll.cons (by first | exact a_load | exact a_un) ?_)); done))) (h := fun x6 => ?_); try (refine r_fact (fun h6 => ?_)))); ((refine r_append (i := 7) (hfire := (fun _ => by first | (refine FireAll.cons (by first | exact a_load | exact a_un) ?_; exact FireAll.nil) | (refine fireall_fact ?_; refine FireAll.cons (by first | exact a_load | exact a_un) ?_; exact FireAll.nil))) (h := fun x10 => ?_); try (refine r_fact (fun h10 => ?_)))); refine r_build (i := 10) ?_; refine r_store (i := 11) (hfire := (fun _ => .nil)) (h := fun _ => ?_); refine r_fin ?_)
        all_goals
         refine k_roundF ((x6, x10)) (by decide) ?_ (by repeat (first | (with_reducible exact Pre.refl) | refine Pre.cons (by exact rfl) ?_)) ?_ (fun w hw => by
            simp only [List.nil_append, Nat.zero_add] at hw
            first | exact hw.back (hO := by exact List.Sublist.refl _) | exact hw.swapO.back (hO := by exact List.Sublist.refl _))
         · repeat' (first | exact knows_nil _ | refine knows_cons ?_ ?_)
           all_goals (first | exact rfl | (conv => { lhs; whnf }; simp; done) | (conv => { lhs; whnf }; congr 1; omega))
         · trivial
   dsimp only [mkU, List.map, List.cons_append, List.nil_append]
  all_goals
   refine k_retvF Try.results72 (.cell (by exact rfl) (by repeat (first | exact At.head | apply At.tail)) (by exact agg_of rfl) .nil) (fun w hw => ?_)
   exact ⟨j, rfl, ⟨hw.capV .head, hw.capR (.tail .head)⟩, hw.finH⟩
end Go.Proofs.Ytmogngagpphnhaa
