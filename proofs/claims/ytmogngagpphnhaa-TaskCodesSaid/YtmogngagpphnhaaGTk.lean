/- Tasks: codes, what they mean. -/
import Derived.Test.YtmogngagpphnhaaAutoD
import Derived.Test.YtmogngagpphnhaaArT

set_option linter.unusedSimpArgs false
set_option linter.unusedVariables false
namespace Go.Ct
open Go Go.RowKit
/-- An access; a result; a code. -/
structure Ac where
  k : Int
  c : Int
  o : Int
  n : Int
structure Rs where
  err : Int
  found : Bool
  val : Int
  key : ByteArray
  cnt : Int
  ref : Int
  root : Int
  ro : Bool
/-- A function value: none, or a function with what it has captured. -/
abbrev Clo := Option (FuncId × List Value)
abbrev fnV : Clo → Value
  | none => .nilFunc
  | some p => .func (.func p.1) #[] ⟨p.2⟩
structure Cd where
  a : Ac
  f : Clo
  g : Clo
  r : Rs
abbrev Ac.cells (a : Ac) : List Value := [.int .i64 a.k, .int .i64 a.c, .int .i64 a.o, .int .i64 a.n]
abbrev Rs.cells (r : Rs) : List Value := [.int .i64 r.err, .bool r.found, .int .u64 r.val, .string r.key, .int .i64 r.cnt, .int .i64 r.ref, .int .i64 r.root, .bool r.ro]
abbrev Cd.cells (c : Cd) : List Value := [.int .i64 c.a.k, .int .i64 c.a.c, .int .i64 c.a.o, .int .i64 c.a.n, fnV c.f, fnV c.g, .int .i64 c.r.err, .bool c.r.found, .int .u64 c.r.val, .string c.r.key, .int .i64 c.r.cnt, .int .i64 c.r.ref, .int .i64 c.r.root, .bool c.r.ro]
abbrev Rs.zero : Rs := ⟨0, false, 0, ⟨#[]⟩, 0, 0, 0, false⟩
abbrev Ac.zero : Ac := ⟨0, 0, 0, 0⟩
abbrev doneCd (r : Rs) : Cd := ⟨⟨0, 0, 0, 0⟩, none, none, r⟩
abbrev loadCd (c : Int) (f : FuncId) (cap : List Value) : Cd := ⟨⟨1, c, 0, 0⟩, some (f, cap), none, ⟨0, false, 0, ⟨#[]⟩, 0, 0, 0, false⟩⟩
abbrev casCd (c o n : Int) (g : FuncId) (cap : List Value) : Cd := ⟨⟨2, c, o, n⟩, none, some (g, cap), ⟨0, false, 0, ⟨#[]⟩, 0, 0, 0, false⟩⟩
theorem cd_one (c : Cd) : c.cells.all (·.oneCell') = true := by
  obtain ⟨a, f, g, r⟩ := c
  cases f <;> cases g <;> rfl
def acC (l : List Ac) : List Value := l.flatMap Ac.cells
theorem ac_len (a : Ac) : a.cells.length = 4 := rfl
/-- What a code means: a computation that makes one access at a time. -/
inductive Pc where
  | done (r : Rs)
  | load (c : Int) (k : Int → Pc)
  | cas (c o n : Int) (k : Bool → Pc)
/-- A function value that gives a code of R for the argument. -/
def CloR (P : Program) (f : FuncId) (cap : List Value) (arg : Value) (B : Fr) (R : Cd → Fr → Prop) : Prop :=
  ∀ w, (∀ x ∈ B, Cl w x.1 x.2) → Calls P f ⟨arg :: cap⟩ w fun e w' => ∃ y : Cd × Fr, e = .returned (.agg ⟨y.1.cells⟩) ∧ R y.1 (y.2 ++ B) ∧ SF w [] [] [] y.2 [] w'
/-- The code c means p, where the lists of B are as they are. -/
def Rp (P : Program) : Pc → Cd → Fr → Prop
  | .done r, c, _ => c = doneCd r
  | .load x k, c, B => ∃ f cap, c = loadCd x f cap ∧ plain P f = true ∧ ∀ v : Int, CloR P f cap (.int .i64 v) B fun c' B' => Rp P (k v) c' B'
  | .cas x o n k, c, B => ∃ f cap, c = casCd x o n f cap ∧ plain P f = true ∧ ∀ v : Bool, CloR P f cap (.bool v) B fun c' B' => Rp P (k v) c' B'
/-- What holds of lists of B2 makes those of B known. -/
def Ent (B2 B : Fr) : Prop := ∀ w, (∀ x ∈ B2, Cl w x.1 x.2) → ∀ x ∈ B, Cl w x.1 x.2
theorem Ent.of {B2 B : Fr} (h : ∀ x ∈ B, x ∈ B2) : Ent B2 B := fun _ hw x hx => hw x (h x hx)
theorem Ent.app {C B2 B : Fr} (h : Ent B2 B) : Ent (C ++ B2) (C ++ B) := fun w hw x hx => by
  rcases List.mem_append.1 hx with h1 | h1
  · exact hw x (List.mem_append_left _ h1)
  · exact h w (fun y hy => hw y (List.mem_append_right _ hy)) x h1
theorem CloR.more {P : Program} {f : FuncId} {cap : List Value} {arg : Value} {B B2 : Fr} {R : Cd → Fr → Prop} (h : CloR P f cap arg B R) (hb : Ent B2 B) (hR : ∀ c C C2, Ent C2 C → R c C → R c C2) : CloR P f cap arg B2 R := fun w hw =>
  (h w (hb w hw)).mono fun e w' ⟨y, he, hr, hs⟩ => ⟨y, he, hR _ _ _ hb.app hr, hs⟩
theorem Rp.more {P : Program} : ∀ {p : Pc} {c : Cd} {B B2 : Fr}, Rp P p c B → Ent B2 B → Rp P p c B2
  | .done _, _, _, _, h, _ => h
  | .load _ k, _, _, _, ⟨f, cap, h1, h2, h3⟩, hb => ⟨f, cap, h1, h2, fun v => (h3 v).more hb fun _ _ _ hC h => Rp.more (p := k v) h hC⟩
  | .cas _ _ _ k, _, _, _, ⟨f, cap, h1, h2, h3⟩, hb => ⟨f, cap, h1, h2, fun v => (h3 v).more hb fun _ _ _ hC h => Rp.more (p := k v) h hC⟩
def Pc.kind : Pc → Int
  | .done _ => 0
  | .load _ _ => 1
  | .cas _ _ _ _ => 2
theorem Rp.kind {P : Program} {p : Pc} {c : Cd} {B : Fr} (h : Rp P p c B) : c.a.k = p.kind := by
  cases p with
  | done r => rw [show c = doneCd r from h]; rfl
  | load x k => obtain ⟨f, cap, h1, _⟩ := h; rw [h1]; rfl
  | cas x o n k => obtain ⟨f, cap, h1, _⟩ := h; rw [h1]; rfl
/-- The accesses of a plan, with the result of those before. -/
def planP : List Ac → Rs → Pc
  | [], r => .done r
  | a :: l, r => if a.k = 1 then .load a.c fun v => planP l { r with ref := v } else .cas a.c a.o a.n fun b => planP l (if b then { r with cnt := r.cnt + 1 } else r)
end Go.Ct
namespace Go.Proofs.Ytmogngagpphnhaa
open Go.RowKit Go.Ct
theorem tDone_c (r : Rs) (w : World) : Calls Try.prog 86 #[.agg ⟨r.cells⟩] w fun e w' => e = .returned (.agg ⟨(doneCd r).cells⟩) ∧ St w [] [] w' := by
  refine enter Try.func86 Try.ntmps86 rfl rfl (SF.s0 w) ?_
  simp only [mkS]
  all_goals (refine k_seq ?_; refine k_region ?_; refine j_box (fun x1 => ?_); refine j_alloc (fun x2 => ?_); refine l_nil ?_; refine k_seq ?_; refine k_region ?_; refine j_load ?_; refine j_build ?_; refine j_store (fun _ => ?_); refine l_nil ?_)
  all_goals
   refine k_retvF Try.results86 (.cell (by exact rfl) (by repeat (first | exact At.head | apply At.tail)) (by exact agg_of rfl) .nil) (fun w hw => ?_)
   exact ⟨rfl, hw.done⟩
theorem tLoad_c (c : Int) (f : FuncId) (cap : List Value) (w : World) : Calls Try.prog 87 #[.int .i64 c, .func (.func f) #[] ⟨cap⟩] w fun e w' => e = .returned (.agg ⟨(loadCd c f cap).cells⟩) ∧ St w [] [] w' := by
  refine enter Try.func87 Try.ntmps87 rfl rfl (SF.s0 w) ?_
  simp only [mkS]
  all_goals (refine k_seq ?_; refine k_region ?_; refine j_alloc (fun x4 => ?_); refine l_nil ?_; refine k_seq ?_; refine k_region ?_; refine j_move ?_; refine j_build ?_; refine j_move ?_; refine j_build ?_; refine j_store (fun _ => ?_); refine l_nil ?_)
  all_goals
   refine k_retvF Try.results87 (.cell (by exact rfl) (by repeat (first | exact At.head | apply At.tail)) (by exact agg_of rfl) .nil) (fun w hw => ?_)
   exact ⟨rfl, hw.done⟩
theorem tCAS_c (c o n : Int) (f : FuncId) (cap : List Value) (w : World) : Calls Try.prog 89 #[.int .i64 c, .int .i64 o, .int .i64 n, .func (.func f) #[] ⟨cap⟩] w fun e w' => e = .returned (.agg ⟨(casCd c o n f cap).cells⟩) ∧ St w [] [] w' := by
  refine enter Try.func89 Try.ntmps89 rfl rfl (SF.s0 w) ?_
  simp only [mkS]
  all_goals (refine k_seq ?_; refine k_region ?_; refine j_alloc (fun x8 => ?_); refine l_nil ?_; refine k_seq ?_; refine k_region ?_; refine j_move ?_; refine j_move ?_; refine j_move ?_; refine j_build ?_; refine j_move ?_; refine j_build ?_; refine j_store (fun _ => ?_); refine l_nil ?_)
  all_goals
   refine k_retvF Try.results89 (.cell (by exact rfl) (by repeat (first | exact At.head | apply At.tail)) (by exact agg_of rfl) .nil) (fun w hw => ?_)
   exact ⟨rfl, hw.done⟩
end Go.Proofs.Ytmogngagpphnhaa

/- Tasks: the codes of plans. -/
set_option linter.unusedSimpArgs false
set_option linter.unusedVariables false
namespace Go.Ct
open Go Go.RowKit
theorem perm1 {α : Type} {a b c d : α} : [a, b, c, d].Perm [c, a, b, d] := ((List.Perm.swap c b [d]).cons a).trans (List.Perm.swap c a [b, d])
theorem perm2 {α : Type} {a b c d : α} : [a, b, c, d].Perm [a, c, b, d] := (List.Perm.swap c b [d]).cons a
def tlA (a : Option Addr) (k c sz : Nat) : Option Addr := if c = k then a else a.map (·.add (k * sz))
section
variable {P : Program} {S : List (Nat × Value)} {G : World → Prop} {d : Nat} {ty : TypeId} {pos : String} {af : Array Edge} {gd : Option (Nat × Bool)} {x y : Operand} {t e : TypeId} {a : Option Addr} {m k c : Nat} {w : World}
theorem o_alloc1 {w0 : World} {M : List Nat} {H : List (Nat × Obj)} {z : Value} (hz : zeroIs P t = some z) (h1 : z.oneCell' = true) : Loud P S (St w0 M H) ⟨some d, .alloc t, ty, pos, af, gd⟩ Nat (fun b => .pointer (some ⟨b, 0, none⟩)) (fun b => St w0 M ((b, .cells ⟨[z]⟩ t (0, 0)) :: H)) :=
  o_new (fun w _ => by
    have e : z.cells = #[z] := by cases z <;> simp_all [Value.cells, Value.oneCell']
    simp [execOp, Instr.alloc, zero_run hz, newVar, newRow, e])
theorem o_tailQ {sz : Nat} (hx : ev S x = .slice a m c) (hy : ev S y = .int .i64 ((k : Nat) : Int)) (ht : P.underlying t = some (.slice e)) (hs : aggOf P e sz = true) (hk : k ≤ m) (hmc : m ≤ c) :
    Quiet P S G ⟨some d, .slice t x (some y) none none, ty, pos, af, gd⟩ (.slice (tlA a k c sz) (m - k) (c - k)) := ⟨fun w _ => by
  have he : P.elem t = e := by simp [Program.elem, ht]
  have ht' : P.underlying t = some (.slice (P.elem t)) := by rw [he]; exact ht
  obtain ⟨_, _, _, hs1⟩ := agg_parts hs
  cases hi : P.info? e with
  | none => simp [hi] at hs1
  | some inf =>
    have hs' : inf.size = sz := by simpa [hi] using hs1
    have hr := run_slice_l (P := P) w t a m c ht' .i64 (k : Int) (by omega) (by omega)
    refine run_sl (v := .slice (tlA a k c sz) (m - k) (c - k)) ?_
    simp [hx, hy, run_sliceAt_slice w t _ _ _ _ ht', hr, he, sizeOf, typeInfo, hi, hs', sliced, tlA]⟩
theorem Cl.tl {cs : List Value} {sz : Nat} (h : Cl w a cs) (hl : cs.length ≤ c * sz) : Cl w (tlA a k c sz) (cs.drop (k * sz)) := by
  unfold tlA
  split
  · rename_i heq
    have : cs.drop (k * sz) = [] := List.drop_eq_nil_of_le (by rw [← heq]; exact hl)
    rw [this]
    exact Cl.nil _ _
  · exact h.drop _
theorem Cl.tlAc {a0 : Ac} {l : List Ac} (h : Cl w a (acC (a0 :: l))) (hl : l.length + 1 ≤ c) : Cl w (tlA a 1 c 4) (acC l) := by
  have := h.tl (k := 1) (c := c) (sz := 4) (by unfold acC; rw [flat_length ac_len]; simp only [List.length_cons]; omega)
  exact this
theorem ent_tl {x r : Option Addr × List Value} {a0 : Ac} {l : List Ac} (hl : l.length + 1 ≤ c) {C : Fr} : Ent (C ++ [x, r, (a, acC (a0 :: l))]) (C ++ [(tlA a 1 c 4, acC l)]) := fun w hw y hy => by
  rcases List.mem_append.1 hy with h1 | h1
  · exact hw y (List.mem_append_left _ h1)
  · rw [List.mem_singleton.1 h1]
    exact Cl.tlAc (hw (a, acC (a0 :: l)) (by simp)) hl
end
end Go.Ct
namespace Go.Proofs.Ytmogngagpphnhaa
open Go.RowKit Go.Ct
/-- What planned gives. -/
def PlanC (l : List Ac) : Prop := ∀ (r : Rs) (a : Option Addr) (c : Nat) (w : World), Cl w a (acC l) → l.length ≤ c → -9223372036854775808 ≤ r.cnt → r.cnt + l.length ≤ 9223372036854775807 →
  Calls Try.prog 93 #[.slice a l.length c, .agg ⟨r.cells⟩] w fun e w' => ∃ y : Cd × Fr, e = .returned (.agg ⟨y.1.cells⟩) ∧ Rp Try.prog (planP l r) y.1 (y.2 ++ [(a, acC l)]) ∧ SF w [] [] [] y.2 [] w'
theorem clo1 {l : List Ac} (ih : PlanC l) {a0 : Ac} {r : Rs} {a : Option Addr} {c b3 b6 : Nat} (hl : l.length + 1 ≤ c) (h0 : -9223372036854775808 ≤ r.cnt) (h1 : r.cnt + (l.length + 1 : Nat) ≤ 9223372036854775807) (v : Int) :
    CloR Try.prog 110 [.pointer (some ⟨b3, 0, none⟩), .pointer (some ⟨b6, 0, none⟩)] (.int .i64 v) [(some ⟨b3, 0, none⟩, r.cells), (some ⟨b6, 0, none⟩, [.slice (tlA a 1 c 4) l.length (c - 1)]), (a, acC (a0 :: l))] fun c' B' => Rp Try.prog (planP l { r with ref := v }) c' B' := fun w hB => by
  have c1 := hB (some ⟨b3, 0, none⟩, r.cells) (by simp)
  have c2 := hB (some ⟨b6, 0, none⟩, [.slice (tlA a 1 c 4) l.length (c - 1)]) (by simp)
  have c3 := (hB (a, acC (a0 :: l)) (by simp)).tlAc hl
  have hs : SF w [] [] [(some ⟨b3, 0, none⟩, r.cells), (some ⟨b6, 0, none⟩, [.slice (tlA a 1 c 4) l.length (c - 1)]), (tlA a 1 c 4, acC l)] [] [] w := SF.begin fun f hf => by
    simp only [List.mem_cons, List.not_mem_nil, or_false] at hf
    rcases hf with rfl | rfl | rfl
    · exact c1
    · exact c2
    · exact c3
  refine enter Try.func110 Try.ntmps110 rfl rfl hs ?_
  simp only [mkS]
  all_goals (refine k_seq ?_; refine k_region ?_; refine j_alloc (fun x4 => ?_); refine l_nil ?_; refine k_seq ?_; refine k_region ?_; refine l_quiet (o_loadFA (k := 8) (vs := r.cells) (a := some ⟨b3, 0, none⟩) (q := 0) (by exact rfl) (by exact agg_of rfl) (.old .head) rfl rfl) rfl ?_; refine j_alloc (fun x5 => ?_); refine j_store (fun _ => ?_); refine l_nil ?_; refine k_seq ?_; refine k_region ?_; refine j_move ?_; refine j_fieldAddr ?_; refine j_store (fun _ => ?_); refine l_nil ?_; refine k_seq ?_; refine k_region ?_; refine l_quiet (o_loadF1 (a := some ⟨b6, 0, none⟩) (q := 0) (by exact rfl) (by exact one_of rfl) (.old (.tail .head)) rfl) rfl ?_; refine j_load ?_; (refine j_own (cF (V := fun y : Cd × Fr => .agg ⟨y.1.cells⟩) (Fc := fun y => y.2) (hc := fun w1 hw => ih { r with ref := v } (tlA a 1 c 4) (c - 1) w1 (hw.cl (.old (.tail (.tail .head)))) (by omega) h0 (by simp only [] at *; omega))) (fun x11 => ?_); try (refine l_fact (fun h11 => ?_))); refine j_own0 (lSF fun _ => o_storeAgg (by exact rfl) (by repeat (first | exact At.head | apply At.tail)) (by exact rfl) (cd_one _) (by exact agg_of rfl) (by exact rfl) (by simp only [setAt]; exact rfl)) (fun _ => ?_); refine l_nil ?_)
  all_goals
   refine k_retvF Try.results110 (.cell (by exact rfl) (by repeat (first | exact At.head | apply At.tail)) (by exact agg_of rfl) .nil) (fun w hw => ?_)
   exact ⟨x11, rfl, h11.more (ent_tl hl), hw.ret (List.nil_sublist _) (FSub.ofSub fun f hf => by simpa using hf) (List.nil_sublist _)⟩
theorem clo2 {l : List Ac} (ih : PlanC l) {a0 : Ac} {r : Rs} {a : Option Addr} {c b3 b6 : Nat} (hl : l.length + 1 ≤ c) (h0 : -9223372036854775808 ≤ r.cnt) (h1 : r.cnt + (l.length + 1 : Nat) ≤ 9223372036854775807) (v : Bool) :
    CloR Try.prog 111 [.pointer (some ⟨b3, 0, none⟩), .pointer (some ⟨b6, 0, none⟩)] (.bool v) [(some ⟨b3, 0, none⟩, r.cells), (some ⟨b6, 0, none⟩, [.slice (tlA a 1 c 4) l.length (c - 1)]), (a, acC (a0 :: l))] fun c' B' => Rp Try.prog (planP l (if v then { r with cnt := r.cnt + 1 } else r)) c' B' := fun w hB => by
  have c1 := hB (some ⟨b3, 0, none⟩, r.cells) (by simp)
  have c2 := hB (some ⟨b6, 0, none⟩, [.slice (tlA a 1 c 4) l.length (c - 1)]) (by simp)
  have c3 := (hB (a, acC (a0 :: l)) (by simp)).tlAc hl
  have hs : SF w [] [] [(some ⟨b3, 0, none⟩, r.cells), (some ⟨b6, 0, none⟩, [.slice (tlA a 1 c 4) l.length (c - 1)]), (tlA a 1 c 4, acC l)] [] [] w := SF.begin fun f hf => by
    simp only [List.mem_cons, List.not_mem_nil, or_false] at hf
    rcases hf with rfl | rfl | rfl
    · exact c1
    · exact c2
    · exact c3
  refine enter Try.func111 Try.ntmps111 rfl rfl hs ?_
  simp only [mkS]
  all_goals (refine k_seq ?_; refine k_region ?_; refine j_alloc (fun x4 => ?_); refine l_nil ?_; refine k_seq ?_; refine k_region ?_; refine l_quiet (o_loadFA (k := 8) (vs := r.cells) (a := some ⟨b3, 0, none⟩) (q := 0) (by exact rfl) (by exact agg_of rfl) (.old .head) rfl rfl) rfl ?_; refine j_alloc (fun x5 => ?_); refine j_store (fun _ => ?_); refine l_nil ?_; refine k_seq ?_; refine k_seq ?_; refine k_region ?_; refine j_move ?_; refine l_nil ?_)
  all_goals
   refine k_if (fun c7 => ?_) (fun c7 => ?_)
   · try (exact absurd c7 (by decide))
     all_goals (revert c7; (first | refine cv1 ?_ | refine cv3 ?_ | refine cv5 ?_ | refine cv7 ?_ | refine cv9 ?_ | refine cvb ?_ | refine cvd ?_ | skip); intro c7)
     all_goals
      subst c7
     all_goals (refine k_region ?_; refine j_fieldAddr ?_; refine j_load ?_; refine j_inc ?_; refine j_fieldAddr ?_; refine j_store (fun _ => ?_); refine l_nil ?_; refine k_seq ?_; refine k_region ?_; refine l_quiet (o_loadF1 (a := some ⟨b6, 0, none⟩) (q := 0) (by exact rfl) (by exact one_of rfl) (.old (.tail .head)) rfl) rfl ?_; refine j_load ?_; (refine j_own (by first | exact cF (V := fun y : Cd × Fr => .agg ⟨y.1.cells⟩) (Fc := fun y => y.2) (hc := fun w1 hw => ih { r with cnt := r.cnt + 1 } (tlA a 1 c 4) (c - 1) w1 (hw.cl (.old (.tail (.tail .head)))) (by omega) (by simp only []; omega) (by simp only [] at *; omega)) | exact cF (V := fun y : Cd × Fr => .agg ⟨y.1.cells⟩) (Fc := fun y => y.2) (hc := fun w1 hw => ih r (tlA a 1 c 4) (c - 1) w1 (hw.cl (.old (.tail (.tail .head)))) (by omega) h0 (by simp only [] at *; omega))) (fun x14 => ?_); try (refine l_fact (fun h14 => ?_))); refine j_own0 (lSF fun _ => o_storeAgg (by exact rfl) (by repeat (first | exact At.head | apply At.tail)) (by exact rfl) (cd_one _) (by exact agg_of rfl) (by exact rfl) (by simp only [setAt]; exact rfl)) (fun _ => ?_); refine l_nil ?_)
     all_goals
      refine k_retvF Try.results111 (.cell (by exact rfl) (by repeat (first | exact At.head | apply At.tail)) (by exact agg_of rfl) .nil) (fun w hw => ?_)
      exact ⟨x14, rfl, h14.more (ent_tl hl), hw.ret (List.nil_sublist _) (FSub.ofSub fun f hf => by simpa using hf) (List.nil_sublist _)⟩
   · try (exact absurd c7 (by decide))
     all_goals (revert c7; (first | refine cv2 ?_ | refine cv4 ?_ | refine cv6 ?_ | refine cv8 ?_ | refine cva ?_ | refine cvc ?_ | refine cve ?_ | skip); intro c7)
     all_goals
      subst c7
     all_goals (refine k_skip ?_; refine k_seq ?_; refine k_region ?_; refine l_quiet (o_loadF1 (a := some ⟨b6, 0, none⟩) (q := 0) (by exact rfl) (by exact one_of rfl) (.old (.tail .head)) rfl) rfl ?_; refine j_load ?_; (refine j_own (by first | exact cF (V := fun y : Cd × Fr => .agg ⟨y.1.cells⟩) (Fc := fun y => y.2) (hc := fun w1 hw => ih { r with cnt := r.cnt + 1 } (tlA a 1 c 4) (c - 1) w1 (hw.cl (.old (.tail (.tail .head)))) (by omega) (by simp only []; omega) (by simp only [] at *; omega)) | exact cF (V := fun y : Cd × Fr => .agg ⟨y.1.cells⟩) (Fc := fun y => y.2) (hc := fun w1 hw => ih r (tlA a 1 c 4) (c - 1) w1 (hw.cl (.old (.tail (.tail .head)))) (by omega) h0 (by simp only [] at *; omega))) (fun x14 => ?_); try (refine l_fact (fun h14 => ?_))); refine j_own0 (lSF fun _ => o_storeAgg (by exact rfl) (by repeat (first | exact At.head | apply At.tail)) (by exact rfl) (cd_one _) (by exact agg_of rfl) (by exact rfl) (by simp only [setAt]; exact rfl)) (fun _ => ?_); refine l_nil ?_)
     all_goals
      refine k_retvF Try.results111 (.cell (by exact rfl) (by repeat (first | exact At.head | apply At.tail)) (by exact agg_of rfl) .nil) (fun w hw => ?_)
      exact ⟨x14, rfl, h14.more (ent_tl hl), hw.ret (List.nil_sublist _) (FSub.ofSub fun f hf => by simpa using hf) (List.nil_sublist _)⟩
theorem planned_nil : PlanC [] := fun r a c w ha hl h0 h1 => by
  refine enter Try.func93 Try.ntmps93 rfl rfl (SF.s1 ha) ?_
  simp only [mkS]
  all_goals (refine k_seq ?_; refine k_region ?_; refine j_box (fun x3 => ?_); refine j_alloc (fun x4 => ?_); refine l_nil ?_; refine k_seq ?_; refine k_seq ?_; refine k_region ?_; refine j_move ?_; refine j_len ?_; refine j_eql ?_; refine l_nil ?_)
  all_goals
   refine k_if (fun c9 => ?_) (fun c9 => ?_)
   · try (exact absurd c9 (by decide))
     all_goals (revert c9; (first | refine cv1 ?_ | refine cv3 ?_ | refine cv5 ?_ | refine cv7 ?_ | refine cv9 ?_ | refine cvb ?_ | refine cvd ?_ | skip); intro c9)
     all_goals (refine k_seq ?_; refine k_region ?_; refine j_load ?_; (refine j_own (cV (hc := fun w1 hw => tDone_c r w1)) (fun x11 => ?_); try (refine l_fact (fun h11 => ?_))); refine j_store (fun _ => ?_); refine l_nil ?_)
     all_goals
      refine k_retvF Try.results93 (.cell (by exact rfl) (by repeat (first | exact At.head | apply At.tail)) (by exact agg_of rfl) .nil) (fun w hw => ?_)
      exact ⟨(doneCd r, []), rfl, rfl, hw.fin⟩
   · try (exact absurd c9 (by decide))
     all_goals (revert c9; (first | refine cv2 ?_ | refine cv4 ?_ | refine cv6 ?_ | refine cv8 ?_ | refine cva ?_ | refine cvc ?_ | refine cve ?_ | skip); intro c9)
     all_goals
      exfalso; omega
     all_goals (refine k_skip ?_; refine k_seq ?_)
     all_goals
      refine k_joinF [5, 6, 12, 13, 14, 15, 16] (fun j : Unit => []) (fun _ => True) (fun _ => []) (fun _ => []) (fun _ => []) (by decide) (fun _ => by exact rfl) (fun _ => by simp only [List.nil_append, List.cons_append]; exact rfl) (fun _ => by simp only [List.nil_append, List.cons_append]; exact rfl) (fun _ => by simp only [List.nil_append, List.cons_append]; exact rfl) ?_ (fun y f hx => ?_)
      · refine k_drawF (.one 0 [] (.one 1 [] (.one 2 [] (.one 3 [] (.two 4 [1, 2] (.two 5 [1, 2] (.one 6 [1, 2] (.one 7 [] (.one 8 [] .nil))) 0 [] (.two 6 [1, 2] (.one 5 [1, 2] (.one 7 [] (.one 8 [] .nil))) 0 [] .nil)) 0 [] (.two 5 [1, 2] (.two 4 [1, 2] (.one 6 [1, 2] (.one 7 [] (.one 8 [] .nil))) 0 [] (.two 6 [1, 2] (.two 4 [1, 2] (.one 7 [] (.one 8 [] .nil)) 0 [] (.two 7 [] (.one 4 [1, 2] (.one 8 [] .nil)) 0 [] .nil)) 0 [] .nil)) 0 [] (.two 6 [1, 2] (.two 4 [1, 2] (.one 5 [1, 2] (.one 7 [] (.one 8 [] .nil))) 0 [] (.two 5 [1, 2] (.two 4 [1, 2] (.one 7 [] (.one 8 [] .nil)) 0 [] (.two 7 [] (.one 4 [1, 2] (.one 8 [] .nil)) 0 [] .nil)) 0 [] .nil)) 0 [] .nil))))))) ?_
        all_goals (refine r_move (i := 0) ?_; refine r_indexAddr (i := 1) ?_; refine r_load (i := 2) ?_; refine r_move (i := 3) ?_)
        all_goals
         refine r_many (E := [4, 5, 6]) (by decide +kernel) ((.cons ?_ (.cons ?_ (.cons ?_ .nil))))
         · (refine s_sliceL (i := 4) (hfire := (fun _ => by first | ((repeat (first | exact FireAll.nil | refine FireAll.cons (by first | exact a_indexAddr | exact a_load | exact a_un) ?_)); done) | (refine fireall_fact ?_; (repeat (first | exact FireAll.nil | refine FireAll.cons (by first | exact a_indexAddr | exact a_load | exact a_un) ?_)); done))) (h := fun x16 => ?_); try (refine r_fact (fun h16 => ?_)))
           all_goals
            refine r_many (E := [5, 6]) (by decide +kernel) ((.cons ?_ (.cons ?_ .nil)))
            · refine s_alloc (i := 5) (hfire := (fun _ => by first | ((repeat (first | exact FireAll.nil | refine FireAll.cons (by first | exact a_indexAddr | exact a_load | exact a_un) ?_)); done) | (refine fireall_fact ?_; (repeat (first | exact FireAll.nil | refine FireAll.cons (by first | exact a_indexAddr | exact a_load | exact a_un) ?_)); done))) (h := fun x5 => ?_)
              all_goals (refine r_own (i := 6) (hq := (lSF fun _ => o_alloc1 (z := .slice none 0 0) (by kernel_rfl) rfl)) (hfire := (fun _ => by first | ((repeat (first | exact FireAll.nil | refine FireAll.cons (by first | exact a_indexAddr | exact a_load | exact a_un) ?_)); done) | (refine fireall_fact ?_; (repeat (first | exact FireAll.nil | refine FireAll.cons (by first | exact a_indexAddr | exact a_load | exact a_un) ?_)); done))) (h := fun x6 => ?_); refine r_store (i := 7) (hfire := (fun _ => .nil)) (h := fun _ => ?_); refine r_store (i := 8) (hfire := (fun _ => .nil)) (h := fun _ => ?_); refine r_fin ?_)
              all_goals
               refine k_roundF (()) (by decide) ?_ (by repeat (first | (with_reducible exact Pre.refl) | refine Pre.cons (by exact rfl) ?_)) ?_ (fun w hw => hw.back)
               · repeat' (first | exact knows_nil _ | refine knows_cons ?_ ?_)
                 all_goals (first | exact rfl | (conv => { lhs; whnf }; simp; done) | (conv => { lhs; whnf }; congr 1; omega))
               · trivial
            · refine s_own (i := 6) (hq := (lSF fun _ => o_alloc1 (z := .slice none 0 0) (by kernel_rfl) rfl)) (hfire := (fun _ => by first | ((repeat (first | exact FireAll.nil | refine FireAll.cons (by first | exact a_indexAddr | exact a_load | exact a_un) ?_)); done) | (refine fireall_fact ?_; (repeat (first | exact FireAll.nil | refine FireAll.cons (by first | exact a_indexAddr | exact a_load | exact a_un) ?_)); done))) (h := fun x6 => ?_)
              all_goals (refine r_alloc (i := 5) (hfire := (fun _ => by first | ((repeat (first | exact FireAll.nil | refine FireAll.cons (by first | exact a_indexAddr | exact a_load | exact a_un) ?_)); done) | (refine fireall_fact ?_; (repeat (first | exact FireAll.nil | refine FireAll.cons (by first | exact a_indexAddr | exact a_load | exact a_un) ?_)); done))) (h := fun x5 => ?_); refine r_store (i := 7) (hfire := (fun _ => .nil)) (h := fun _ => ?_); refine r_store (i := 8) (hfire := (fun _ => .nil)) (h := fun _ => ?_); refine r_fin ?_)
              all_goals
               refine k_roundF (()) (by decide) ?_ (by repeat (first | (with_reducible exact Pre.refl) | refine Pre.cons (by exact rfl) ?_)) ?_ (fun w hw => hw.back)
               · repeat' (first | exact knows_nil _ | refine knows_cons ?_ ?_)
                 all_goals (first | exact rfl | (conv => { lhs; whnf }; simp; done) | (conv => { lhs; whnf }; congr 1; omega))
               · trivial
         · refine s_alloc (i := 5) (hfire := (fun _ => by first | ((repeat (first | exact FireAll.nil | refine FireAll.cons (by first | exact a_indexAddr | exact a_load | exact a_un) ?_)); done) | (refine fireall_fact ?_; (repeat (first | exact FireAll.nil | refine FireAll.cons (by first | exact a_indexAddr | exact a_load | exact a_un) ?_)); done))) (h := fun x5 => ?_)
           all_goals
            refine r_many (E := [4, 6]) (by decide +kernel) ((.cons ?_ (.cons ?_ .nil)))
            · (refine s_sliceL (i := 4) (hfire := (fun _ => by first | ((repeat (first | exact FireAll.nil | refine FireAll.cons (by first | exact a_indexAddr | exact a_load | exact a_un) ?_)); done) | (refine fireall_fact ?_; (repeat (first | exact FireAll.nil | refine FireAll.cons (by first | exact a_indexAddr | exact a_load | exact a_un) ?_)); done))) (h := fun x16 => ?_); try (refine r_fact (fun h16 => ?_)))
              all_goals (refine r_own (i := 6) (hq := (lSF fun _ => o_alloc1 (z := .slice none 0 0) (by kernel_rfl) rfl)) (hfire := (fun _ => by first | ((repeat (first | exact FireAll.nil | refine FireAll.cons (by first | exact a_indexAddr | exact a_load | exact a_un) ?_)); done) | (refine fireall_fact ?_; (repeat (first | exact FireAll.nil | refine FireAll.cons (by first | exact a_indexAddr | exact a_load | exact a_un) ?_)); done))) (h := fun x6 => ?_); refine r_store (i := 7) (hfire := (fun _ => .nil)) (h := fun _ => ?_); refine r_store (i := 8) (hfire := (fun _ => .nil)) (h := fun _ => ?_); refine r_fin ?_)
              all_goals
               refine k_roundF (()) (by decide) ?_ (by repeat (first | (with_reducible exact Pre.refl) | refine Pre.cons (by exact rfl) ?_)) ?_ (fun w hw => hw.back)
               · repeat' (first | exact knows_nil _ | refine knows_cons ?_ ?_)
                 all_goals (first | exact rfl | (conv => { lhs; whnf }; simp; done) | (conv => { lhs; whnf }; congr 1; omega))
               · trivial
            · refine s_own (i := 6) (hq := (lSF fun _ => o_alloc1 (z := .slice none 0 0) (by kernel_rfl) rfl)) (hfire := (fun _ => by first | ((repeat (first | exact FireAll.nil | refine FireAll.cons (by first | exact a_indexAddr | exact a_load | exact a_un) ?_)); done) | (refine fireall_fact ?_; (repeat (first | exact FireAll.nil | refine FireAll.cons (by first | exact a_indexAddr | exact a_load | exact a_un) ?_)); done))) (h := fun x6 => ?_)
              all_goals
               refine r_many (E := [4, 7]) (by decide +kernel) ((.cons ?_ (.cons ?_ .nil)))
               · (refine s_sliceL (i := 4) (hfire := (fun _ => by first | ((repeat (first | exact FireAll.nil | refine FireAll.cons (by first | exact a_indexAddr | exact a_load | exact a_un) ?_)); done) | (refine fireall_fact ?_; (repeat (first | exact FireAll.nil | refine FireAll.cons (by first | exact a_indexAddr | exact a_load | exact a_un) ?_)); done))) (h := fun x16 => ?_); try (refine r_fact (fun h16 => ?_)))
                 all_goals (refine r_store (i := 7) (hfire := (fun _ => .nil)) (h := fun _ => ?_); refine r_store (i := 8) (hfire := (fun _ => .nil)) (h := fun _ => ?_); refine r_fin ?_)
                 all_goals
                  refine k_roundF (()) (by decide) ?_ (by repeat (first | (with_reducible exact Pre.refl) | refine Pre.cons (by exact rfl) ?_)) ?_ (fun w hw => hw.back)
                  · repeat' (first | exact knows_nil _ | refine knows_cons ?_ ?_)
                    all_goals (first | exact rfl | (conv => { lhs; whnf }; simp; done) | (conv => { lhs; whnf }; congr 1; omega))
                  · trivial
               · refine s_store (i := 7) (hfire := (fun _ => .nil)) (h := fun _ => ?_)
                 all_goals (((refine r_sliceL (i := 4) (hfire := (fun _ => by first | ((repeat (first | exact FireAll.nil | refine FireAll.cons (by first | exact a_indexAddr | exact a_load | exact a_un) ?_)); done) | (refine fireall_fact ?_; (repeat (first | exact FireAll.nil | refine FireAll.cons (by first | exact a_indexAddr | exact a_load | exact a_un) ?_)); done))) (h := fun x16 => ?_); try (refine r_fact (fun h16 => ?_)))); refine r_store (i := 8) (hfire := (fun _ => .nil)) (h := fun _ => ?_); refine r_fin ?_)
                 all_goals
                  refine k_roundF (()) (by decide) ?_ (by repeat (first | (with_reducible exact Pre.refl) | refine Pre.cons (by exact rfl) ?_)) ?_ (fun w hw => hw.back)
                  · repeat' (first | exact knows_nil _ | refine knows_cons ?_ ?_)
                    all_goals (first | exact rfl | (conv => { lhs; whnf }; simp; done) | (conv => { lhs; whnf }; congr 1; omega))
                  · trivial
         · refine s_own (i := 6) (hq := (lSF fun _ => o_alloc1 (z := .slice none 0 0) (by kernel_rfl) rfl)) (hfire := (fun _ => by first | ((repeat (first | exact FireAll.nil | refine FireAll.cons (by first | exact a_indexAddr | exact a_load | exact a_un) ?_)); done) | (refine fireall_fact ?_; (repeat (first | exact FireAll.nil | refine FireAll.cons (by first | exact a_indexAddr | exact a_load | exact a_un) ?_)); done))) (h := fun x6 => ?_)
           all_goals
            refine r_many (E := [4, 5]) (by decide +kernel) ((.cons ?_ (.cons ?_ .nil)))
            · (refine s_sliceL (i := 4) (hfire := (fun _ => by first | ((repeat (first | exact FireAll.nil | refine FireAll.cons (by first | exact a_indexAddr | exact a_load | exact a_un) ?_)); done) | (refine fireall_fact ?_; (repeat (first | exact FireAll.nil | refine FireAll.cons (by first | exact a_indexAddr | exact a_load | exact a_un) ?_)); done))) (h := fun x16 => ?_); try (refine r_fact (fun h16 => ?_)))
              all_goals (refine r_alloc (i := 5) (hfire := (fun _ => by first | ((repeat (first | exact FireAll.nil | refine FireAll.cons (by first | exact a_indexAddr | exact a_load | exact a_un) ?_)); done) | (refine fireall_fact ?_; (repeat (first | exact FireAll.nil | refine FireAll.cons (by first | exact a_indexAddr | exact a_load | exact a_un) ?_)); done))) (h := fun x5 => ?_); refine r_store (i := 7) (hfire := (fun _ => .nil)) (h := fun _ => ?_); refine r_store (i := 8) (hfire := (fun _ => .nil)) (h := fun _ => ?_); refine r_fin ?_)
              all_goals
               refine k_roundF (()) (by decide) ?_ (by repeat (first | (with_reducible exact Pre.refl) | refine Pre.cons (by exact rfl) ?_)) ?_ (fun w hw => hw.back)
               · repeat' (first | exact knows_nil _ | refine knows_cons ?_ ?_)
                 all_goals (first | exact rfl | (conv => { lhs; whnf }; simp; done) | (conv => { lhs; whnf }; congr 1; omega))
               · trivial
            · refine s_alloc (i := 5) (hfire := (fun _ => by first | ((repeat (first | exact FireAll.nil | refine FireAll.cons (by first | exact a_indexAddr | exact a_load | exact a_un) ?_)); done) | (refine fireall_fact ?_; (repeat (first | exact FireAll.nil | refine FireAll.cons (by first | exact a_indexAddr | exact a_load | exact a_un) ?_)); done))) (h := fun x5 => ?_)
              all_goals
               refine r_many (E := [4, 7]) (by decide +kernel) ((.cons ?_ (.cons ?_ .nil)))
               · (refine s_sliceL (i := 4) (hfire := (fun _ => by first | ((repeat (first | exact FireAll.nil | refine FireAll.cons (by first | exact a_indexAddr | exact a_load | exact a_un) ?_)); done) | (refine fireall_fact ?_; (repeat (first | exact FireAll.nil | refine FireAll.cons (by first | exact a_indexAddr | exact a_load | exact a_un) ?_)); done))) (h := fun x16 => ?_); try (refine r_fact (fun h16 => ?_)))
                 all_goals (refine r_store (i := 7) (hfire := (fun _ => .nil)) (h := fun _ => ?_); refine r_store (i := 8) (hfire := (fun _ => .nil)) (h := fun _ => ?_); refine r_fin ?_)
                 all_goals
                  refine k_roundF (()) (by decide) ?_ (by repeat (first | (with_reducible exact Pre.refl) | refine Pre.cons (by exact rfl) ?_)) ?_ (fun w hw => hw.back)
                  · repeat' (first | exact knows_nil _ | refine knows_cons ?_ ?_)
                    all_goals (first | exact rfl | (conv => { lhs; whnf }; simp; done) | (conv => { lhs; whnf }; congr 1; omega))
                  · trivial
               · refine s_store (i := 7) (hfire := (fun _ => .nil)) (h := fun _ => ?_)
                 all_goals (((refine r_sliceL (i := 4) (hfire := (fun _ => by first | ((repeat (first | exact FireAll.nil | refine FireAll.cons (by first | exact a_indexAddr | exact a_load | exact a_un) ?_)); done) | (refine fireall_fact ?_; (repeat (first | exact FireAll.nil | refine FireAll.cons (by first | exact a_indexAddr | exact a_load | exact a_un) ?_)); done))) (h := fun x16 => ?_); try (refine r_fact (fun h16 => ?_)))); refine r_store (i := 8) (hfire := (fun _ => .nil)) (h := fun _ => ?_); refine r_fin ?_)
                 all_goals
                  refine k_roundF (()) (by decide) ?_ (by repeat (first | (with_reducible exact Pre.refl) | refine Pre.cons (by exact rfl) ?_)) ?_ (fun w hw => hw.back)
                  · repeat' (first | exact knows_nil _ | refine knows_cons ?_ ?_)
                    all_goals (first | exact rfl | (conv => { lhs; whnf }; simp; done) | (conv => { lhs; whnf }; congr 1; omega))
                  · trivial
      dsimp only [mkU, List.map, List.cons_append, List.nil_append]
     all_goals (refine k_seq ?_; refine k_seq ?_; refine k_region ?_; refine j_fieldAddr ?_; refine j_load ?_; refine j_eql ?_; refine l_nil ?_)
     all_goals
      refine k_if (fun c19 => ?_) (fun c19 => ?_)
      · try (exact absurd c19 (by decide))
        all_goals (revert c19; (first | refine cv1 ?_ | refine cv3 ?_ | refine cv5 ?_ | refine cv7 ?_ | refine cv9 ?_ | refine cvb ?_ | refine cvd ?_ | skip); intro c19)
        all_goals (refine k_seq ?_; refine k_region ?_; refine j_fieldAddr ?_; refine j_load ?_; (refine l_quiet (o_makeFunc (by (repeat (first | exact evL_nil _ | (apply evL_cons; focus ((conv => { lhs; whnf }); try exact rfl)))); first | done | fail)) rfl ?_); (refine j_own (cV (hc := fun w1 hw => tLoad_c _ _ _ w1)) (fun x23 => ?_); try (refine l_fact (fun h23 => ?_))); refine j_store (fun _ => ?_); refine l_nil ?_)
        all_goals
         refine k_retvF Try.results93 (.cell (by exact rfl) (by repeat (first | exact At.head | apply At.tail)) (by exact agg_of rfl) .nil) (fun w hw => ?_)
         exact ⟨(doneCd r, []), rfl, rfl, hw.fin⟩
      · try (exact absurd c19 (by decide))
        all_goals (revert c19; (first | refine cv2 ?_ | refine cv4 ?_ | refine cv6 ?_ | refine cv8 ?_ | refine cva ?_ | refine cvc ?_ | refine cve ?_ | skip); intro c19)
        all_goals (refine k_skip ?_; refine k_seq ?_; refine k_region ?_; refine j_fieldAddr ?_; refine j_load ?_; refine j_fieldAddr ?_; refine j_load ?_; refine j_fieldAddr ?_; refine j_load ?_; (refine l_quiet (o_makeFunc (by (repeat (first | exact evL_nil _ | (apply evL_cons; focus ((conv => { lhs; whnf }); try exact rfl)))); first | done | fail)) rfl ?_); (refine j_own (cV (hc := fun w1 hw => tCAS_c _ _ _ _ _ w1)) (fun x31 => ?_); try (refine l_fact (fun h31 => ?_))); refine j_store (fun _ => ?_); refine l_nil ?_)
        all_goals
         refine k_retvF Try.results93 (.cell (by exact rfl) (by repeat (first | exact At.head | apply At.tail)) (by exact agg_of rfl) .nil) (fun w hw => ?_)
         exact ⟨(doneCd r, []), rfl, rfl, hw.fin⟩
theorem planned_cons {a0 : Ac} {l : List Ac} (ih : PlanC l) : PlanC (a0 :: l) := fun r a c w ha hl h0 h1 => by
  refine enter Try.func93 Try.ntmps93 rfl rfl (SF.s1 ha) ?_
  simp only [mkS]
  all_goals (refine k_seq ?_; refine k_region ?_; refine j_box (fun x3 => ?_); refine j_alloc (fun x4 => ?_); refine l_nil ?_; refine k_seq ?_; refine k_seq ?_; refine k_region ?_; refine j_move ?_; refine j_len ?_; refine j_eql ?_; refine l_nil ?_)
  all_goals
   refine k_if (fun c9 => ?_) (fun c9 => ?_)
   · try (exact absurd c9 (by decide))
     all_goals (revert c9; (first | refine cv1 ?_ | refine cv3 ?_ | refine cv5 ?_ | refine cv7 ?_ | refine cv9 ?_ | refine cvb ?_ | refine cvd ?_ | skip); intro c9)
     all_goals
      exfalso; simp only [List.length_cons] at c9; omega
     all_goals (refine k_seq ?_; refine k_region ?_; refine j_load ?_; (refine j_own (cV (hc := fun w1 hw => tDone_c r w1)) (fun x11 => ?_); try (refine l_fact (fun h11 => ?_))); refine j_store (fun _ => ?_); refine l_nil ?_)
     all_goals
      refine k_retvF Try.results93 (.cell (by exact rfl) (by repeat (first | exact At.head | apply At.tail)) (by exact agg_of rfl) .nil) (fun w hw => ?_)
      exact (Nat.noConfusion (show l.length + 1 = 0 by simpa using c9))
   · try (exact absurd c9 (by decide))
     all_goals (revert c9; (first | refine cv2 ?_ | refine cv4 ?_ | refine cv6 ?_ | refine cv8 ?_ | refine cva ?_ | refine cvc ?_ | refine cve ?_ | skip); intro c9)
     all_goals (refine k_skip ?_; refine k_seq ?_)
     all_goals
      refine k_joinG [5, 6, 12, 13, 14, 15, 16] (fun j : Nat × Nat => [(5, .pointer (some ⟨j.1, 0, none⟩)), (6, .pointer (some ⟨j.2, 0, none⟩))]) (fun _ => True) (fun j => [(j.1, .cells ⟨a0.cells⟩ 78 (0, 0)), (x4, .cells ⟨(doneCd Rs.zero).cells⟩ 86 (0, 0)), (j.2, .cells ⟨[.slice (tlA a 1 c 4) l.length (c - 1)]⟩ 94 (0, 0)), (x3, .cells ⟨r.cells⟩ 84 (0, 0))]) (fun j => []) (fun j => []) (by decide) (fun _ => by exact rfl) ?_ (fun j f hx => ?_)
      · refine k_drawF (.one 0 [] (.one 1 [] (.one 2 [] (.one 3 [] (.one 4 [] (.two 5 [1, 2] (.one 6 [1, 2] (.one 7 [] (.one 8 [] .nil))) 0 [] (.two 6 [1, 2] (.one 5 [1, 2] (.one 7 [] (.one 8 [] .nil))) 0 [] .nil))))))) ?_
        all_goals (refine r_move (i := 0) ?_; refine r_ownQ (i := 1) (hq := (o_indexG (g := Ac.cells) (lst := a0 :: l) (k := 0) ac_len (by decide) (by exact rfl) (by exact rfl) (by exact sl_of rfl) (by exact agg_of rfl) (.old .head) (by simp only [List.length_cons]; omega) (by simp only [List.length_cons]; omega))) (h := ?_); refine r_ownQ (i := 2) (hq := (o_loadG (g := Ac.cells) (lst := a0 :: l) (q := 0) Ac.zero ac_len (by exact rfl) (by exact agg_of rfl) (.old .head) (by simp only [List.length_cons]; omega))) (h := ?_); refine r_move (i := 3) ?_; refine r_ownP (i := 4) (hq := (o_tailQ (k := 1) (sz := 4) (by exact rfl) (by exact rfl) (by exact sl_of rfl) (by exact agg_of rfl) (by simp only [List.length_cons]; omega) hl)) (h := ?_))
        all_goals
         refine r_many (E := [5, 6]) (by decide +kernel) ((.cons ?_ (.cons ?_ .nil)))
         · refine s_alloc (i := 5) (hfire := (fun _ => by first | ((repeat (first | exact FireAll.nil | refine FireAll.cons (by first | exact a_own (hq := o_indexG (g := Ac.cells) (lst := a0 :: l) (k := 0) ac_len (by decide) (by exact rfl) (by exact rfl) (by exact sl_of rfl) (by exact agg_of rfl) (.old .head) (by simp only [List.length_cons]; omega) (by simp only [List.length_cons]; omega)) | exact a_own (hq := o_loadG (g := Ac.cells) (lst := a0 :: l) (q := 0) Ac.zero ac_len (by exact rfl) (by exact agg_of rfl) (.old .head) (by simp only [List.length_cons]; omega)) | exact a_un) ?_)); done) | (refine fireall_fact ?_; (repeat (first | exact FireAll.nil | refine FireAll.cons (by first | exact a_own (hq := o_indexG (g := Ac.cells) (lst := a0 :: l) (k := 0) ac_len (by decide) (by exact rfl) (by exact rfl) (by exact sl_of rfl) (by exact agg_of rfl) (.old .head) (by simp only [List.length_cons]; omega) (by simp only [List.length_cons]; omega)) | exact a_own (hq := o_loadG (g := Ac.cells) (lst := a0 :: l) (q := 0) Ac.zero ac_len (by exact rfl) (by exact agg_of rfl) (.old .head) (by simp only [List.length_cons]; omega)) | exact a_un) ?_)); done))) (h := fun x5 => ?_)
           all_goals (refine r_own (i := 6) (hq := (lSF fun _ => o_alloc1 (z := .slice none 0 0) (by kernel_rfl) rfl)) (hfire := (fun _ => by first | ((repeat (first | exact FireAll.nil | refine FireAll.cons (by first | exact a_own (hq := o_indexG (g := Ac.cells) (lst := a0 :: l) (k := 0) ac_len (by decide) (by exact rfl) (by exact rfl) (by exact sl_of rfl) (by exact agg_of rfl) (.old .head) (by simp only [List.length_cons]; omega) (by simp only [List.length_cons]; omega)) | exact a_own (hq := o_loadG (g := Ac.cells) (lst := a0 :: l) (q := 0) Ac.zero ac_len (by exact rfl) (by exact agg_of rfl) (.old .head) (by simp only [List.length_cons]; omega)) | exact a_un) ?_)); done) | (refine fireall_fact ?_; (repeat (first | exact FireAll.nil | refine FireAll.cons (by first | exact a_own (hq := o_indexG (g := Ac.cells) (lst := a0 :: l) (k := 0) ac_len (by decide) (by exact rfl) (by exact rfl) (by exact sl_of rfl) (by exact agg_of rfl) (.old .head) (by simp only [List.length_cons]; omega) (by simp only [List.length_cons]; omega)) | exact a_own (hq := o_loadG (g := Ac.cells) (lst := a0 :: l) (q := 0) Ac.zero ac_len (by exact rfl) (by exact agg_of rfl) (.old .head) (by simp only [List.length_cons]; omega)) | exact a_un) ?_)); done))) (h := fun x6 => ?_); refine r_store (i := 7) (hfire := (fun _ => .nil)) (h := fun _ => ?_); refine r_store (i := 8) (hfire := (fun _ => .nil)) (h := fun _ => ?_); refine r_fin ?_)
           all_goals
            refine k_roundF ((x5, x6)) (by decide) ?_ (by repeat (first | (with_reducible exact Pre.refl) | refine Pre.cons (by exact rfl) ?_)) ?_ (fun w hw => by
               simp only [List.length_cons, Nat.add_sub_cancel] at hw
               exact hw.perm (by first | exact perm1 | exact perm2) (List.Perm.refl _))
            · repeat' (first | exact knows_nil _ | refine knows_cons ?_ ?_)
              all_goals (first | exact rfl | (conv => { lhs; whnf }; simp; done) | (conv => { lhs; whnf }; congr 1; omega))
            · trivial
         · refine s_own (i := 6) (hq := (lSF fun _ => o_alloc1 (z := .slice none 0 0) (by kernel_rfl) rfl)) (hfire := (fun _ => by first | ((repeat (first | exact FireAll.nil | refine FireAll.cons (by first | exact a_own (hq := o_indexG (g := Ac.cells) (lst := a0 :: l) (k := 0) ac_len (by decide) (by exact rfl) (by exact rfl) (by exact sl_of rfl) (by exact agg_of rfl) (.old .head) (by simp only [List.length_cons]; omega) (by simp only [List.length_cons]; omega)) | exact a_own (hq := o_loadG (g := Ac.cells) (lst := a0 :: l) (q := 0) Ac.zero ac_len (by exact rfl) (by exact agg_of rfl) (.old .head) (by simp only [List.length_cons]; omega)) | exact a_un) ?_)); done) | (refine fireall_fact ?_; (repeat (first | exact FireAll.nil | refine FireAll.cons (by first | exact a_own (hq := o_indexG (g := Ac.cells) (lst := a0 :: l) (k := 0) ac_len (by decide) (by exact rfl) (by exact rfl) (by exact sl_of rfl) (by exact agg_of rfl) (.old .head) (by simp only [List.length_cons]; omega) (by simp only [List.length_cons]; omega)) | exact a_own (hq := o_loadG (g := Ac.cells) (lst := a0 :: l) (q := 0) Ac.zero ac_len (by exact rfl) (by exact agg_of rfl) (.old .head) (by simp only [List.length_cons]; omega)) | exact a_un) ?_)); done))) (h := fun x6 => ?_)
           all_goals (refine r_alloc (i := 5) (hfire := (fun _ => by first | ((repeat (first | exact FireAll.nil | refine FireAll.cons (by first | exact a_own (hq := o_indexG (g := Ac.cells) (lst := a0 :: l) (k := 0) ac_len (by decide) (by exact rfl) (by exact rfl) (by exact sl_of rfl) (by exact agg_of rfl) (.old .head) (by simp only [List.length_cons]; omega) (by simp only [List.length_cons]; omega)) | exact a_own (hq := o_loadG (g := Ac.cells) (lst := a0 :: l) (q := 0) Ac.zero ac_len (by exact rfl) (by exact agg_of rfl) (.old .head) (by simp only [List.length_cons]; omega)) | exact a_un) ?_)); done) | (refine fireall_fact ?_; (repeat (first | exact FireAll.nil | refine FireAll.cons (by first | exact a_own (hq := o_indexG (g := Ac.cells) (lst := a0 :: l) (k := 0) ac_len (by decide) (by exact rfl) (by exact rfl) (by exact sl_of rfl) (by exact agg_of rfl) (.old .head) (by simp only [List.length_cons]; omega) (by simp only [List.length_cons]; omega)) | exact a_own (hq := o_loadG (g := Ac.cells) (lst := a0 :: l) (q := 0) Ac.zero ac_len (by exact rfl) (by exact agg_of rfl) (.old .head) (by simp only [List.length_cons]; omega)) | exact a_un) ?_)); done))) (h := fun x5 => ?_); refine r_store (i := 7) (hfire := (fun _ => .nil)) (h := fun _ => ?_); refine r_store (i := 8) (hfire := (fun _ => .nil)) (h := fun _ => ?_); refine r_fin ?_)
           all_goals
            refine k_roundF ((x5, x6)) (by decide) ?_ (by repeat (first | (with_reducible exact Pre.refl) | refine Pre.cons (by exact rfl) ?_)) ?_ (fun w hw => by
               simp only [List.length_cons, Nat.add_sub_cancel] at hw
               exact hw.perm (by first | exact perm1 | exact perm2) (List.Perm.refl _))
            · repeat' (first | exact knows_nil _ | refine knows_cons ?_ ?_)
              all_goals (first | exact rfl | (conv => { lhs; whnf }; simp; done) | (conv => { lhs; whnf }; congr 1; omega))
            · trivial
      dsimp only [mkU, List.map, List.cons_append, List.nil_append]
     all_goals (refine k_seq ?_; refine k_seq ?_; refine k_region ?_; refine j_fieldAddr ?_; refine j_load ?_; refine j_eql ?_; refine l_nil ?_)
     all_goals
      refine k_if (fun c19 => ?_) (fun c19 => ?_)
      · try (exact absurd c19 (by decide))
        all_goals (revert c19; (first | refine cv1 ?_ | refine cv3 ?_ | refine cv5 ?_ | refine cv7 ?_ | refine cv9 ?_ | refine cvb ?_ | refine cvd ?_ | skip); intro c19)
        all_goals (refine k_seq ?_; refine k_region ?_; refine j_fieldAddr ?_; refine j_load ?_; (refine l_quiet (o_makeFunc (by (repeat (first | exact evL_nil _ | (apply evL_cons; focus ((conv => { lhs; whnf }); try exact rfl)))); first | done | fail)) rfl ?_); (refine j_own (cV (hc := fun w1 hw => tLoad_c _ _ _ w1)) (fun x23 => ?_); try (refine l_fact (fun h23 => ?_))); refine j_store (fun _ => ?_); refine l_nil ?_)
        all_goals
         refine k_retvF Try.results93 (.cell (by exact rfl) (by repeat (first | exact At.head | apply At.tail)) (by exact agg_of rfl) .nil) (fun w hw => ?_)
         refine ⟨(loadCd a0.c _ _, [(some ⟨x3, 0, none⟩, r.cells), (some ⟨j.2, 0, none⟩, [.slice (tlA a 1 c 4) l.length (c - 1)])]), rfl, ?_, ?_⟩
         · show Rp Try.prog (if a0.k = 1 then _ else _) _ _
           rw [if_pos c19]
           exact ⟨_, _, rfl, by kernel_rfl, fun v => clo1 ih (by simpa using hl) h0 (by simpa using h1) v⟩
         · exact ((hw.freezeB (.tail (.tail (.tail .head)))).freezeB (.tail (.tail .head))).ret (List.nil_sublist _) (FSub.ofSub fun f hf => by simp only [List.mem_cons, List.not_mem_nil, or_false] at hf ⊢; exact hf.symm) (List.nil_sublist _)
      · try (exact absurd c19 (by decide))
        all_goals (revert c19; (first | refine cv2 ?_ | refine cv4 ?_ | refine cv6 ?_ | refine cv8 ?_ | refine cva ?_ | refine cvc ?_ | refine cve ?_ | skip); intro c19)
        all_goals (refine k_skip ?_; refine k_seq ?_; refine k_region ?_; refine j_fieldAddr ?_; refine j_load ?_; refine j_fieldAddr ?_; refine j_load ?_; refine j_fieldAddr ?_; refine j_load ?_; (refine l_quiet (o_makeFunc (by (repeat (first | exact evL_nil _ | (apply evL_cons; focus ((conv => { lhs; whnf }); try exact rfl)))); first | done | fail)) rfl ?_); (refine j_own (cV (hc := fun w1 hw => tCAS_c _ _ _ _ _ w1)) (fun x31 => ?_); try (refine l_fact (fun h31 => ?_))); refine j_store (fun _ => ?_); refine l_nil ?_)
        all_goals
         refine k_retvF Try.results93 (.cell (by exact rfl) (by repeat (first | exact At.head | apply At.tail)) (by exact agg_of rfl) .nil) (fun w hw => ?_)
         refine ⟨(casCd a0.c a0.o a0.n _ _, [(some ⟨x3, 0, none⟩, r.cells), (some ⟨j.2, 0, none⟩, [.slice (tlA a 1 c 4) l.length (c - 1)])]), rfl, ?_, ?_⟩
         · show Rp Try.prog (if a0.k = 1 then _ else _) _ _
           rw [if_neg c19]
           exact ⟨_, _, rfl, by kernel_rfl, fun v => clo2 ih (by simpa using hl) h0 (by simpa using h1) v⟩
         · exact ((hw.freezeB (.tail (.tail (.tail .head)))).freezeB (.tail (.tail .head))).ret (List.nil_sublist _) (FSub.ofSub fun f hf => by simp only [List.mem_cons, List.not_mem_nil, or_false] at hf ⊢; exact hf.symm) (List.nil_sublist _)
theorem planned_c : ∀ l : List Ac, PlanC l
  | [] => planned_nil
  | _ :: l => planned_cons (planned_c l)
end Go.Proofs.Ytmogngagpphnhaa

/- Tasks: how they begin, how they go on. -/
set_option linter.unusedSimpArgs false
set_option linter.unusedVariables false
namespace Go.Ct
open Go Go.RowKit
/-- A function value of no argument that gives a code of the meaning p. -/
def Clo0 (P : Program) (f : FuncId) (cap : List Value) (B : Fr) (p : Pc) : Prop :=
  ∀ w, (∀ x ∈ B, Cl w x.1 x.2) → Calls P f ⟨cap⟩ w fun e w' => ∃ y : Cd × Fr, e = .returned (.agg ⟨y.1.cells⟩) ∧ Rp P p y.1 (y.2 ++ B) ∧ SF w [] [] [] y.2 [] w'
def Pc.live : Pc → Bool
  | .done _ => false
  | _ => true
def casB (cs : List Int) (c o : Int) : Bool := decide (1 ≤ c ∧ c ≤ (cs.length : Int) ∧ cs.getD (c - 1).toNat 0 = o)
/-- What is left of a computation after its next access; the cells behind it; the cell that it names. -/
def Pc.next (p : Pc) (cs : List Int) : Pc := match p with
  | .done r => .done r
  | .load c k => k (cellV cs c)
  | .cas c o _ k => k (casB cs c o)
def Pc.cells (p : Pc) (cs : List Int) : List Int := match p with
  | .cas c o n _ => casL cs c o n
  | _ => cs
def Pc.cl : Pc → Int
  | .done _ => 0
  | .load c _ => c
  | .cas c _ _ _ => c
end Go.Ct
namespace Go.Proofs.Ytmogngagpphnhaa
open Go Go.RowKit Go.Ct
theorem inv_Load (p : Option Addr) (a : Value) (w : World) : (callMethod (.iface 27 (.pointer p)) "Load" #[a]).run Try.prog w = .ok (.enter 21 #[.pointer p, a]) w := by kernel_rfl
theorem inv_CAS (p : Option Addr) (a b c : Value) (w : World) : (callMethod (.iface 27 (.pointer p)) "CAS" #[a, b, c]).run Try.prog w = .ok (.enter 22 #[.pointer p, a, b, c]) w := by kernel_rfl
theorem neqNI_arena (p : Option Addr) (w : World) : (binOp .neq 139 (.iface 27 (.pointer p)) .nilIface).run Try.prog w = .ok (.bool true) w := by kernel_rfl
theorem eqFn0 (f : Fn) (a b : Array Value) (w : World) : (binOp .eql 88 (.func f a b) .nilFunc).run Try.prog w = .ok (.bool false) w := by kernel_rfl
theorem eqFn1 (f : Fn) (a b : Array Value) (w : World) : (binOp .eql 79 (.func f a b) .nilFunc).run Try.prog w = .ok (.bool false) w := by kernel_rfl
theorem eqFn2 (f : Fn) (a b : Array Value) (w : World) : (binOp .eql 80 (.func f a b) .nilFunc).run Try.prog w = .ok (.bool false) w := by kernel_rfl
theorem idle_begun (p : Option Addr) : Idle Try.prog 108 #[.pointer p] := fun w => by
  refine callsD_of_wpS Try.func108 rfl fun c₀ cs hu => ?_
  apply wpS_seq
  apply wpS_region
  simp [wpOpsS, go_sem, recoverD, hu, Try.ntmps108, Exit.thenS]
  refine wpS_cond (t := false) (by simp [Act.eval, Array.replicate]) ?_
  simp only [Bool.false_eq_true, if_false]
  refine wpS_of_wp (wp_skip ?_)
  cases c₀
  simp_all [bodyPostS, results, Try.results108]
theorem idle_followed (p : Option Addr) : Idle Try.prog 109 #[.pointer p] := fun w => by
  refine callsD_of_wpS Try.func109 rfl fun c₀ cs hu => ?_
  apply wpS_seq
  apply wpS_region
  simp [wpOpsS, go_sem, recoverD, hu, Try.ntmps109, Exit.thenS]
  refine wpS_cond (t := false) (by simp [Act.eval, Array.replicate]) ?_
  simp only [Bool.false_eq_true, if_false]
  refine wpS_of_wp (wp_skip ?_)
  cases c₀
  simp_all [bodyPostS, results, Try.results109]
section
variable {S : List (Nat × Value)} {w0 w : World} {M : List Nat} {H : List (Nat × Obj)} {A F : Fr} {O : List Ow} {ty : TypeId} {pos : String} {af : Array Edge} {gd : Option (Nat × Bool)} {X : Type} {V : X → Value}
/-- A call of a function value that captures, that leaves new frozen lists. -/
theorem cFc {φ : X → Prop} {Fc F1 : X → Fr} {f : FuncId} {cap : List Value} {xs : List Operand} {at_ : Array TypeId} {vs : List Value} {dst : Option Nat} {x : Operand}
    (hx : ev S x = .func (.func f) #[] ⟨cap⟩ := by exact rfl) (ha : evL S xs = vs := by (repeat (first | exact evL_nil _ | (apply evL_cons; focus ((conv => { lhs; whnf }); try exact rfl)))); first | done | fail) (hp : plain Try.prog f = true)
    (hc : ∀ w, SF w0 M H A F O w → Calls Try.prog f ⟨vs ++ cap⟩ w fun e w' => ∃ x, e = .returned (V x) ∧ φ x ∧ SF w [] [] [] (Fc x) [] w')
    (hF1 : ∀ x, Fc x ++ F = F1 x := by intro x; first | (simp only [List.nil_append, List.cons_append]; exact rfl) | exact rfl) :
    Loud Try.prog S (SF w0 M H A F O) ⟨dst, .call { callee := .value x, args := ⟨xs⟩, argTypes := at_ }, ty, pos, af, gd⟩ X V (fun x w => φ x ∧ SF w0 M H A (F1 x) O w) :=
  loud_call (run_clo hx hp ha) fun w hw => (hc w hw).mono fun _ _ ⟨x, he, hx, hs⟩ => ⟨x, he, hx, by rw [← hF1 x]; simpa using hw.call hs⟩
end
theorem begun_c {f : FuncId} {cap : List Value} {B : Fr} {p : Pc} {w : World} (h : Clo0 Try.prog f cap B p) (hp : plain Try.prog f = true) (hB : ∀ x ∈ B, Cl w x.1 x.2) :
    Calls Try.prog 85 #[.func (.func f) #[] ⟨cap⟩] w fun e w' => ∃ y : Cd × Fr, e = .returned (.agg ⟨y.1.cells⟩) ∧ Rp Try.prog p y.1 (y.2 ++ B) ∧ SF w [] [] [] y.2 [] w' := by
  refine enterD Try.func85 Try.ntmps85 rfl rfl (SF.begin hB) ?_
  simp only [mkS]
  all_goals (refine kd_seq ?_; refine kd_region ?_; refine jd_alloc (fun x2 => ?_); refine ld_nil ?_; refine kd_seq ?_; refine kd_region ?_; (refine ld_quiet (o_makeFunc (by (repeat (first | exact evL_nil _ | (apply evL_cons; focus ((conv => { lhs; whnf }); try exact rfl)))); first | done | fail)) rfl ?_); refine ld_defer rfl ?_; refine ld_nil ?_; refine kd_seq ?_; refine kd_seq ?_; refine kd_region ?_; refine jd_move ?_; refine ld_quiet (o_eqlFn (by exact rfl) (by exact rfl) (eqFn0 _ _ _)) rfl ?_; refine ld_nil ?_)
  all_goals
   refine kd_if (fun c5 => ?_) (fun c5 => ?_)
   · try (exact absurd c5 (by decide))
     all_goals (revert c5; (first | refine cv1 ?_ | refine cv3 ?_ | refine cv5 ?_ | refine cv7 ?_ | refine cv9 ?_ | refine cvb ?_ | refine cvd ?_ | skip); intro c5)
     all_goals
      cases c5
     all_goals (refine kd_seq ?_; refine kd_region ?_; refine jd_build ?_; refine jd_store (fun _ => ?_); refine ld_nil ?_)
     all_goals
      refine kd_retvF (idle_begun _) (by kernel_rfl) Try.results85 (.cell (by exact rfl) (by repeat (first | exact At.head | apply At.tail)) (by exact agg_of rfl) .nil) (fun w hw => ?_)
      exact ⟨x8, rfl, h8, hw.ret (List.nil_sublist _) (FSub.ofSub fun f hf => by simpa using hf) (List.nil_sublist _)⟩
   · try (exact absurd c5 (by decide))
     all_goals (revert c5; (first | refine cv2 ?_ | refine cv4 ?_ | refine cv6 ?_ | refine cv8 ?_ | refine cva ?_ | refine cvc ?_ | refine cve ?_ | skip); intro c5)
     all_goals (refine kd_skip ?_; refine kd_seq ?_; refine kd_region ?_; refine jd_move ?_; (refine jd_own (cFc (V := fun y : Cd × Fr => .agg ⟨y.1.cells⟩) (Fc := fun y => y.2) (f := f) (cap := cap) (vs := []) (hp := hp) (hc := fun w1 hw => h w1 fun x hx => hw.cl (.old (FAt.of_mem hx)))) (fun x8 => ?_); try (refine ld_fact (fun h8 => ?_))); refine jd_own0 (lSF fun _ => o_storeAgg (by exact rfl) (by repeat (first | exact At.head | apply At.tail)) (by exact rfl) (cd_one _) (by exact agg_of rfl) (by exact rfl) (by simp only [setAt]; exact rfl)) (fun _ => ?_); refine ld_nil ?_)
     all_goals
      refine kd_retvF (idle_begun _) (by kernel_rfl) Try.results85 (.cell (by exact rfl) (by repeat (first | exact At.head | apply At.tail)) (by exact agg_of rfl) .nil) (fun w hw => ?_)
      exact ⟨x8, rfl, h8, hw.ret (List.nil_sublist _) (FSub.ofSub fun f hf => by simpa using hf) (List.nil_sublist _)⟩
section
variable {D : List Nat} {A B : Fr} {L : List NdV} {cs : List Int} {gen acc : Int} {pn pc : Option Addr} {cn cc b : Nat} {w : World} {c : Cd}
theorem followed_load {x : Int} {k : Int → Pc} (hs : SF w D [(b, aO L cs gen acc pn cn pc cc)] A [] (mW L cs pn cn pc cc) w) (hr : Rp Try.prog (.load x k) c B) (hB : ∀ y ∈ B, y ∈ A) (hx : x ≤ 9223372036854775807) (hl : cs.length ≤ 274877906944) :
    Calls Try.prog 91 #[.iface 27 (.pointer (some ⟨b, 0, none⟩)), .agg ⟨c.cells⟩] w fun e w' => ∃ y : Cd × Fr, e = .returned (.agg ⟨y.1.cells⟩) ∧ Rp Try.prog (k (cellV cs x)) y.1 (y.2 ++ B) ∧ SF w D [(b, aO L cs gen (up acc) pn cn pc cc)] [] y.2 (mW L cs pn cn pc cc) w' := by
  obtain ⟨f, cap, rfl, hp, hk⟩ := hr
  refine enterD Try.func91 Try.ntmps91 rfl rfl hs ?_
  simp only [mkS]
  all_goals (refine kd_seq ?_; refine kd_region ?_; refine jd_box (fun x3 => ?_); refine jd_alloc (fun x4 => ?_); refine ld_nil ?_; refine kd_seq ?_; refine kd_region ?_; (refine ld_quiet (o_makeFunc (by (repeat (first | exact evL_nil _ | (apply evL_cons; focus ((conv => { lhs; whnf }); try exact rfl)))); first | done | fail)) rfl ?_); refine ld_defer rfl ?_; refine ld_nil ?_; refine kd_seq ?_; refine kd_region ?_; refine jd_fieldAddr ?_; refine ld_quiet (o_loadPart (k := 4) (vs := (loadCd x f cap).a.cells) (by exact rfl) (by repeat (first | exact At.head | apply At.tail)) (by exact agg_of rfl) rfl rfl) rfl ?_; refine jd_alloc (fun x5 => ?_); refine jd_store (fun _ => ?_); refine ld_nil ?_; refine kd_seq ?_; refine kd_seq ?_; refine kd_region ?_; refine jd_fieldAddr ?_; refine jd_load ?_; refine jd_eql ?_; refine ld_nil ?_)
  all_goals
   refine kd_if (fun c13 => ?_) (fun c13 => ?_)
   · try (exact absurd c13 (by decide))
     all_goals (revert c13; (first | refine cv1 ?_ | refine cv3 ?_ | refine cv5 ?_ | refine cv7 ?_ | refine cv9 ?_ | refine cvb ?_ | refine cvd ?_ | skip); intro c13)
     all_goals (refine kd_seq ?_; refine kd_region ?_; refine jd_assignL (fun _ => ?_); refine ld_nil ?_; refine kd_seq ?_; refine kd_seq ?_; refine kd_region ?_; refine jd_move ?_; refine ld_quiet (o_neqNI (by exact rfl) (by exact rfl) (neqNI_arena _)) rfl ?_; refine ld_nil ?_)
     all_goals
      refine kd_if (fun c15 => ?_) (fun c15 => ?_)
      · try (exact absurd c15 (by decide))
        all_goals (revert c15; (first | refine cv1 ?_ | refine cv3 ?_ | refine cv5 ?_ | refine cv7 ?_ | refine cv9 ?_ | refine cvb ?_ | refine cvd ?_ | skip); intro c15)
        all_goals (refine kd_region ?_; refine jd_move ?_; refine jd_fieldAddr ?_; refine jd_load ?_; (refine jd_own (cMI (V := fun _ : Unit => .int .i64 (cellV cs x)) (os' := fun _ => mW L cs pn cn pc cc) (hs' := fun _ => [(b, aO L cs gen (up acc) pn cn pc cc)]) (Fc := fun _ => []) (A0 := A) (hm := fun w => inv_Load _ _ w) (hc := fun w hw => aLoad_c hw x hx hl)) (fun x19 => ?_); try (refine ld_fact (fun h19 => ?_))); refine jd_assignL (fun _ => ?_); refine ld_nil ?_; refine kd_seq ?_; refine kd_seq ?_; refine kd_region ?_; refine jd_fieldAddr ?_; refine jd_load ?_; refine ld_quiet (o_eqlFn (by exact rfl) (by exact rfl) (eqFn1 _ _ _)) rfl ?_; refine ld_nil ?_)
        all_goals
         refine kd_if (fun c22 => ?_) (fun c22 => ?_)
         · try (exact absurd c22 (by decide))
           all_goals (revert c22; (first | refine cv1 ?_ | refine cv3 ?_ | refine cv5 ?_ | refine cv7 ?_ | refine cv9 ?_ | refine cvb ?_ | refine cvd ?_ | skip); intro c22)
           all_goals
            cases c22
           all_goals (refine kd_seq ?_; refine kd_region ?_; refine jd_build ?_; refine jd_store (fun _ => ?_); refine ld_nil ?_)
           all_goals
            refine kd_retvF (idle_followed _) (by kernel_rfl) Try.results91 (.cell (by exact rfl) (by repeat (first | exact At.head | apply At.tail)) (by exact agg_of rfl) .nil) (fun w hw => ?_)
            exact ⟨x27, rfl, h27, hw.ret (by repeat (first | exact List.Sublist.refl _ | apply List.Sublist.cons)) (FSub.ofSub fun f hf => by simpa using hf) (List.Sublist.refl _)⟩
         · try (exact absurd c22 (by decide))
           all_goals (revert c22; (first | refine cv2 ?_ | refine cv4 ?_ | refine cv6 ?_ | refine cv8 ?_ | refine cva ?_ | refine cvc ?_ | refine cve ?_ | skip); intro c22)
           all_goals (refine kd_skip ?_; refine kd_seq ?_; refine kd_region ?_; refine jd_fieldAddr ?_; refine jd_load ?_; refine jd_move ?_; (refine jd_own (cFc (V := fun y : Cd × Fr => .agg ⟨y.1.cells⟩) (Fc := fun y => y.2) (f := f) (cap := cap) (vs := [.int .i64 (cellV cs x)]) (hp := hp) (hc := fun w1 hw => hk (cellV cs x) w1 fun y hy => hw.cl (.old (FAt.of_mem (hB y hy))))) (fun x27 => ?_); try (refine ld_fact (fun h27 => ?_))); refine jd_own0 (lSF fun _ => o_storeAgg (by exact rfl) (by repeat (first | exact At.head | apply At.tail)) (by exact rfl) (cd_one _) (by exact agg_of rfl) (by exact rfl) (by simp only [setAt]; exact rfl)) (fun _ => ?_); refine ld_nil ?_)
           all_goals
            refine kd_retvF (idle_followed _) (by kernel_rfl) Try.results91 (.cell (by exact rfl) (by repeat (first | exact At.head | apply At.tail)) (by exact agg_of rfl) .nil) (fun w hw => ?_)
            exact ⟨x27, rfl, h27, hw.ret (by repeat (first | exact List.Sublist.refl _ | apply List.Sublist.cons)) (FSub.ofSub fun f hf => by simpa using hf) (List.Sublist.refl _)⟩
      · try (exact absurd c15 (by decide))
        all_goals (revert c15; (first | refine cv2 ?_ | refine cv4 ?_ | refine cv6 ?_ | refine cv8 ?_ | refine cva ?_ | refine cvc ?_ | refine cve ?_ | skip); intro c15)
        all_goals
         cases c15
        all_goals (refine kd_skip ?_; refine kd_seq ?_; refine kd_seq ?_; refine kd_region ?_; refine jd_fieldAddr ?_; refine jd_load ?_; refine ld_quiet (o_eqlFn (by exact rfl) (by exact rfl) (eqFn1 _ _ _)) rfl ?_; refine ld_nil ?_)
        all_goals
         refine kd_if (fun c22 => ?_) (fun c22 => ?_)
         · try (exact absurd c22 (by decide))
           all_goals (revert c22; (first | refine cv1 ?_ | refine cv3 ?_ | refine cv5 ?_ | refine cv7 ?_ | refine cv9 ?_ | refine cvb ?_ | refine cvd ?_ | skip); intro c22)
           all_goals
            cases c22
           all_goals (refine kd_seq ?_; refine kd_region ?_; refine jd_build ?_; refine jd_store (fun _ => ?_); refine ld_nil ?_)
           all_goals
            refine kd_retvF (idle_followed _) (by kernel_rfl) Try.results91 (.cell (by exact rfl) (by repeat (first | exact At.head | apply At.tail)) (by exact agg_of rfl) .nil) (fun w hw => ?_)
            exact ⟨x27, rfl, h27, hw.ret (by repeat (first | exact List.Sublist.refl _ | apply List.Sublist.cons)) (FSub.ofSub fun f hf => by simpa using hf) (List.Sublist.refl _)⟩
         · try (exact absurd c22 (by decide))
           all_goals (revert c22; (first | refine cv2 ?_ | refine cv4 ?_ | refine cv6 ?_ | refine cv8 ?_ | refine cva ?_ | refine cvc ?_ | refine cve ?_ | skip); intro c22)
           all_goals (refine kd_skip ?_; refine kd_seq ?_; refine kd_region ?_; refine jd_fieldAddr ?_; refine jd_load ?_; refine jd_move ?_; (refine jd_own (cFc (V := fun y : Cd × Fr => .agg ⟨y.1.cells⟩) (Fc := fun y => y.2) (f := f) (cap := cap) (vs := [.int .i64 (cellV cs x)]) (hp := hp) (hc := fun w1 hw => hk (cellV cs x) w1 fun y hy => hw.cl (.old (FAt.of_mem (hB y hy))))) (fun x27 => ?_); try (refine ld_fact (fun h27 => ?_))); refine jd_own0 (lSF fun _ => o_storeAgg (by exact rfl) (by repeat (first | exact At.head | apply At.tail)) (by exact rfl) (cd_one _) (by exact agg_of rfl) (by exact rfl) (by simp only [setAt]; exact rfl)) (fun _ => ?_); refine ld_nil ?_)
           all_goals
            refine kd_retvF (idle_followed _) (by kernel_rfl) Try.results91 (.cell (by exact rfl) (by repeat (first | exact At.head | apply At.tail)) (by exact agg_of rfl) .nil) (fun w hw => ?_)
            exact ⟨x27, rfl, h27, hw.ret (by repeat (first | exact List.Sublist.refl _ | apply List.Sublist.cons)) (FSub.ofSub fun f hf => by simpa using hf) (List.Sublist.refl _)⟩
   · try (exact absurd c13 (by decide))
     all_goals (revert c13; (first | refine cv2 ?_ | refine cv4 ?_ | refine cv6 ?_ | refine cv8 ?_ | refine cva ?_ | refine cvc ?_ | refine cve ?_ | skip); intro c13)
     all_goals
      exact (c13 rfl).elim
     all_goals (refine kd_skip ?_; refine kd_seq ?_; refine kd_region ?_; refine jd_move ?_; refine ld_quiet (o_neqNI (by exact rfl) (by exact rfl) (neqNI_arena _)) rfl ?_; refine jd_move ?_)
     all_goals (first | refine jd_un ?_ | (refine jd_yes ?_; refine jd_move ?_) | (refine ld_case (g := 30) (by exact rfl) (fun g30 => ?_) (fun g30 => ?_) <;> (revert g30; (first | refine cv1 ?_ | refine cv2 ?_ | refine cvb ?_ | refine cvc ?_ | refine cv9 ?_ | refine cva ?_ | refine cv7 ?_ | refine cv8 ?_ | refine cvd ?_ | refine cve ?_ | skip); intro g30) <;> (first | refine jd_un ?_ | (refine jd_yes ?_; refine jd_move ?_))))
     all_goals ((first | refine jd_un ?_ | (refine jd_yes ?_; refine jd_fieldAddr ?_)); (first | refine jd_un ?_ | (refine jd_yes ?_; refine jd_load ?_)); (first | refine jd_un ?_ | (refine jd_yes ?_; refine jd_fieldAddr ?_)); (first | refine jd_un ?_ | (refine jd_yes ?_; refine jd_load ?_)); (first | refine jd_un ?_ | (refine jd_yes ?_; refine jd_fieldAddr ?_)); (first | refine jd_un ?_ | (refine jd_yes ?_; refine jd_load ?_)); ((first | refine jd_un ?_ | (refine jd_yes ?_; (refine jd_own (cMI (hm := fun w => inv_CAS _ _ _ _ w) (hc := fun w hw => aCAS_c hw _ _ _ _ hl)) (fun x38 => ?_); try (refine ld_fact (fun h38 => ?_)))))); refine jd_pick ?_; refine jd_assignL (fun _ => ?_); refine ld_nil ?_; refine kd_seq ?_; refine kd_seq ?_; refine kd_region ?_; refine jd_fieldAddr ?_; refine jd_load ?_; refine ld_quiet (o_eqlFn (by exact rfl) (by exact rfl) (eqFn2 _ _ _)) rfl ?_; refine ld_nil ?_)
     all_goals
      refine kd_if (fun c42 => ?_) (fun c42 => ?_)
      · try (exact absurd c42 (by decide))
        all_goals (revert c42; (first | refine cv1 ?_ | refine cv3 ?_ | refine cv5 ?_ | refine cv7 ?_ | refine cv9 ?_ | refine cvb ?_ | refine cvd ?_ | skip); intro c42)
        all_goals (refine kd_seq ?_; refine kd_region ?_; refine jd_build ?_; refine jd_store (fun _ => ?_); refine ld_nil ?_)
        all_goals
         refine kd_retvF (idle_followed _) (by kernel_rfl) Try.results91 (.cell (by exact rfl) (by repeat (first | exact At.head | apply At.tail)) (by exact agg_of rfl) .nil) (fun w hw => ?_)
         exact ⟨x27, rfl, h27, hw.ret (by repeat (first | exact List.Sublist.refl _ | apply List.Sublist.cons)) (FSub.ofSub fun f hf => by simpa using hf) (List.Sublist.refl _)⟩
      · try (exact absurd c42 (by decide))
        all_goals (revert c42; (first | refine cv2 ?_ | refine cv4 ?_ | refine cv6 ?_ | refine cv8 ?_ | refine cva ?_ | refine cvc ?_ | refine cve ?_ | skip); intro c42)
        all_goals (refine kd_skip ?_; refine kd_seq ?_; refine kd_region ?_; refine jd_fieldAddr ?_; refine jd_load ?_; refine jd_move ?_; (refine jd_own (cFc (V := fun y : Cd × Fr => .agg ⟨y.1.cells⟩) (Fc := fun y => y.2) (f := f) (cap := cap) (vs := [.int .i64 (cellV cs x)]) (hp := hp) (hc := fun w1 hw => hk (cellV cs x) w1 fun y hy => hw.cl (.old (FAt.of_mem (hB y hy))))) (fun x47 => ?_); try (refine ld_fact (fun h47 => ?_))); refine jd_own0 (lSF fun _ => o_storeAgg (by exact rfl) (by repeat (first | exact At.head | apply At.tail)) (by exact rfl) (cd_one _) (by exact agg_of rfl) (by exact rfl) (by simp only [setAt]; exact rfl)) (fun _ => ?_); refine ld_nil ?_)
        all_goals
         refine kd_retvF (idle_followed _) (by kernel_rfl) Try.results91 (.cell (by exact rfl) (by repeat (first | exact At.head | apply At.tail)) (by exact agg_of rfl) .nil) (fun w hw => ?_)
         exact ⟨x27, rfl, h27, hw.ret (by repeat (first | exact List.Sublist.refl _ | apply List.Sublist.cons)) (FSub.ofSub fun f hf => by simpa using hf) (List.Sublist.refl _)⟩
theorem cas_eqB {cs : List Int} {c o : Int} {r : Bool} (h : r = true ↔ CasOk cs c o) : r = casB cs c o := by
  rw [Bool.eq_iff_iff, h]
  unfold casB CasOk
  rw [decide_eq_true_eq]
theorem followed_cas {x o n : Int} {k : Bool → Pc} (hs : SF w D [(b, aO L cs gen acc pn cn pc cc)] A [] (mW L cs pn cn pc cc) w) (hr : Rp Try.prog (.cas x o n k) c B) (hB : ∀ y ∈ B, y ∈ A) (hx : x ≤ 9223372036854775807) (hl : cs.length ≤ 274877906944) :
    Calls Try.prog 91 #[.iface 27 (.pointer (some ⟨b, 0, none⟩)), .agg ⟨c.cells⟩] w fun e w' => ∃ y : Cd × Fr, e = .returned (.agg ⟨y.1.cells⟩) ∧ Rp Try.prog (k (casB cs x o)) y.1 (y.2 ++ B) ∧ SF w D [(b, aO L (casL cs x o n) gen (up acc) pn cn pc cc)] [] y.2 (mW L (casL cs x o n) pn cn pc cc) w' := by
  obtain ⟨f, cap, rfl, hp, hk⟩ := hr
  refine enterD Try.func91 Try.ntmps91 rfl rfl hs ?_
  simp only [mkS]
  all_goals (refine kd_seq ?_; refine kd_region ?_; refine jd_box (fun x3 => ?_); refine jd_alloc (fun x4 => ?_); refine ld_nil ?_; refine kd_seq ?_; refine kd_region ?_; (refine ld_quiet (o_makeFunc (by (repeat (first | exact evL_nil _ | (apply evL_cons; focus ((conv => { lhs; whnf }); try exact rfl)))); first | done | fail)) rfl ?_); refine ld_defer rfl ?_; refine ld_nil ?_; refine kd_seq ?_; refine kd_region ?_; refine jd_fieldAddr ?_; refine ld_quiet (o_loadPart (k := 4) (vs := (casCd x o n f cap).a.cells) (by exact rfl) (by repeat (first | exact At.head | apply At.tail)) (by exact agg_of rfl) rfl rfl) rfl ?_; refine jd_alloc (fun x5 => ?_); refine jd_store (fun _ => ?_); refine ld_nil ?_; refine kd_seq ?_; refine kd_seq ?_; refine kd_region ?_; refine jd_fieldAddr ?_; refine jd_load ?_; refine jd_eql ?_; refine ld_nil ?_)
  all_goals
   refine kd_if (fun c13 => ?_) (fun c13 => ?_)
   · try (exact absurd c13 (by decide))
     all_goals (revert c13; (first | refine cv1 ?_ | refine cv3 ?_ | refine cv5 ?_ | refine cv7 ?_ | refine cv9 ?_ | refine cvb ?_ | refine cvd ?_ | skip); intro c13)
     all_goals
      exact absurd (show (2 : Int) = 1 from c13) (by decide)
     all_goals (refine kd_seq ?_; refine kd_region ?_; refine jd_assignL (fun _ => ?_); refine ld_nil ?_; refine kd_seq ?_; refine kd_seq ?_; refine kd_region ?_; refine jd_move ?_; refine ld_quiet (o_neqNI (by exact rfl) (by exact rfl) (neqNI_arena _)) rfl ?_; refine ld_nil ?_)
     all_goals
      refine kd_if (fun c15 => ?_) (fun c15 => ?_)
      · try (exact absurd c15 (by decide))
        all_goals (revert c15; (first | refine cv1 ?_ | refine cv3 ?_ | refine cv5 ?_ | refine cv7 ?_ | refine cv9 ?_ | refine cvb ?_ | refine cvd ?_ | skip); intro c15)
        all_goals (refine kd_region ?_; refine jd_move ?_; refine jd_fieldAddr ?_; refine jd_load ?_; (refine jd_own (cMI (V := fun _ : Unit => .int .i64 (cellV cs x)) (os' := fun _ => mW L cs pn cn pc cc) (hs' := fun _ => [(b, aO L cs gen (up acc) pn cn pc cc)]) (Fc := fun _ => []) (A0 := A) (hm := fun w => inv_Load _ _ w) (hc := fun w hw => aLoad_c hw x hx hl)) (fun x19 => ?_); try (refine ld_fact (fun h19 => ?_))); refine jd_assignL (fun _ => ?_); refine ld_nil ?_; refine kd_seq ?_; refine kd_seq ?_; refine kd_region ?_; refine jd_fieldAddr ?_; refine jd_load ?_; refine ld_quiet (o_eqlFn (by exact rfl) (by exact rfl) (eqFn1 _ _ _)) rfl ?_; refine ld_nil ?_)
        all_goals
         refine kd_if (fun c22 => ?_) (fun c22 => ?_)
         · try (exact absurd c22 (by decide))
           all_goals (revert c22; (first | refine cv1 ?_ | refine cv3 ?_ | refine cv5 ?_ | refine cv7 ?_ | refine cv9 ?_ | refine cvb ?_ | refine cvd ?_ | skip); intro c22)
           all_goals (refine kd_seq ?_; refine kd_region ?_; refine jd_build ?_; refine jd_store (fun _ => ?_); refine ld_nil ?_)
           all_goals
            refine kd_retvF (idle_followed _) (by kernel_rfl) Try.results91 (.cell (by exact rfl) (by repeat (first | exact At.head | apply At.tail)) (by exact agg_of rfl) .nil) (fun w hw => ?_)
            exact ⟨x47, rfl, cas_eqB h38 ▸ h47, hw.ret (by repeat (first | exact List.Sublist.refl _ | apply List.Sublist.cons)) (FSub.ofSub fun f hf => by simpa using hf) (List.Sublist.refl _)⟩
         · try (exact absurd c22 (by decide))
           all_goals (revert c22; (first | refine cv2 ?_ | refine cv4 ?_ | refine cv6 ?_ | refine cv8 ?_ | refine cva ?_ | refine cvc ?_ | refine cve ?_ | skip); intro c22)
           all_goals (refine kd_skip ?_; refine kd_seq ?_; refine kd_region ?_; refine jd_fieldAddr ?_; refine jd_load ?_; refine jd_move ?_; (refine jd_own (cFc (V := fun y : Cd × Fr => .agg ⟨y.1.cells⟩) (Fc := fun y => y.2) (f := f) (cap := cap) (vs := [.bool x38]) (hp := hp) (hc := fun w1 hw => hk x38 w1 fun y hy => hw.cl (.old (FAt.of_mem (hB y hy))))) (fun x27 => ?_); try (refine ld_fact (fun h27 => ?_))); refine jd_own0 (lSF fun _ => o_storeAgg (by exact rfl) (by repeat (first | exact At.head | apply At.tail)) (by exact rfl) (cd_one _) (by exact agg_of rfl) (by exact rfl) (by simp only [setAt]; exact rfl)) (fun _ => ?_); refine ld_nil ?_)
           all_goals
            refine kd_retvF (idle_followed _) (by kernel_rfl) Try.results91 (.cell (by exact rfl) (by repeat (first | exact At.head | apply At.tail)) (by exact agg_of rfl) .nil) (fun w hw => ?_)
            exact ⟨x47, rfl, cas_eqB h38 ▸ h47, hw.ret (by repeat (first | exact List.Sublist.refl _ | apply List.Sublist.cons)) (FSub.ofSub fun f hf => by simpa using hf) (List.Sublist.refl _)⟩
      · try (exact absurd c15 (by decide))
        all_goals (revert c15; (first | refine cv2 ?_ | refine cv4 ?_ | refine cv6 ?_ | refine cv8 ?_ | refine cva ?_ | refine cvc ?_ | refine cve ?_ | skip); intro c15)
        all_goals (refine kd_skip ?_; refine kd_seq ?_; refine kd_seq ?_; refine kd_region ?_; refine jd_fieldAddr ?_; refine jd_load ?_; refine ld_quiet (o_eqlFn (by exact rfl) (by exact rfl) (eqFn1 _ _ _)) rfl ?_; refine ld_nil ?_)
        all_goals
         refine kd_if (fun c22 => ?_) (fun c22 => ?_)
         · try (exact absurd c22 (by decide))
           all_goals (revert c22; (first | refine cv1 ?_ | refine cv3 ?_ | refine cv5 ?_ | refine cv7 ?_ | refine cv9 ?_ | refine cvb ?_ | refine cvd ?_ | skip); intro c22)
           all_goals (refine kd_seq ?_; refine kd_region ?_; refine jd_build ?_; refine jd_store (fun _ => ?_); refine ld_nil ?_)
           all_goals
            refine kd_retvF (idle_followed _) (by kernel_rfl) Try.results91 (.cell (by exact rfl) (by repeat (first | exact At.head | apply At.tail)) (by exact agg_of rfl) .nil) (fun w hw => ?_)
            exact ⟨x47, rfl, cas_eqB h38 ▸ h47, hw.ret (by repeat (first | exact List.Sublist.refl _ | apply List.Sublist.cons)) (FSub.ofSub fun f hf => by simpa using hf) (List.Sublist.refl _)⟩
         · try (exact absurd c22 (by decide))
           all_goals (revert c22; (first | refine cv2 ?_ | refine cv4 ?_ | refine cv6 ?_ | refine cv8 ?_ | refine cva ?_ | refine cvc ?_ | refine cve ?_ | skip); intro c22)
           all_goals (refine kd_skip ?_; refine kd_seq ?_; refine kd_region ?_; refine jd_fieldAddr ?_; refine jd_load ?_; refine jd_move ?_; (refine jd_own (cFc (V := fun y : Cd × Fr => .agg ⟨y.1.cells⟩) (Fc := fun y => y.2) (f := f) (cap := cap) (vs := [.bool x38]) (hp := hp) (hc := fun w1 hw => hk x38 w1 fun y hy => hw.cl (.old (FAt.of_mem (hB y hy))))) (fun x27 => ?_); try (refine ld_fact (fun h27 => ?_))); refine jd_own0 (lSF fun _ => o_storeAgg (by exact rfl) (by repeat (first | exact At.head | apply At.tail)) (by exact rfl) (cd_one _) (by exact agg_of rfl) (by exact rfl) (by simp only [setAt]; exact rfl)) (fun _ => ?_); refine ld_nil ?_)
           all_goals
            refine kd_retvF (idle_followed _) (by kernel_rfl) Try.results91 (.cell (by exact rfl) (by repeat (first | exact At.head | apply At.tail)) (by exact agg_of rfl) .nil) (fun w hw => ?_)
            exact ⟨x47, rfl, cas_eqB h38 ▸ h47, hw.ret (by repeat (first | exact List.Sublist.refl _ | apply List.Sublist.cons)) (FSub.ofSub fun f hf => by simpa using hf) (List.Sublist.refl _)⟩
   · try (exact absurd c13 (by decide))
     all_goals (revert c13; (first | refine cv2 ?_ | refine cv4 ?_ | refine cv6 ?_ | refine cv8 ?_ | refine cva ?_ | refine cvc ?_ | refine cve ?_ | skip); intro c13)
     all_goals (refine kd_skip ?_; refine kd_seq ?_; refine kd_region ?_; refine jd_move ?_; refine ld_quiet (o_neqNI (by exact rfl) (by exact rfl) (neqNI_arena _)) rfl ?_; refine jd_move ?_)
     all_goals (first | refine jd_un ?_ | (refine jd_yes ?_; refine jd_move ?_) | (refine ld_case (g := 30) (by exact rfl) (fun g30 => ?_) (fun g30 => ?_) <;> (revert g30; (first | refine cv1 ?_ | refine cv2 ?_ | refine cvb ?_ | refine cvc ?_ | refine cv9 ?_ | refine cva ?_ | refine cv7 ?_ | refine cv8 ?_ | refine cvd ?_ | refine cve ?_ | skip); intro g30) <;> (first | refine jd_un ?_ | (refine jd_yes ?_; refine jd_move ?_))))
     all_goals ((first | refine jd_un ?_ | (refine jd_yes ?_; refine jd_fieldAddr ?_)); (first | refine jd_un ?_ | (refine jd_yes ?_; refine jd_load ?_)); (first | refine jd_un ?_ | (refine jd_yes ?_; refine jd_fieldAddr ?_)); (first | refine jd_un ?_ | (refine jd_yes ?_; refine jd_load ?_)); (first | refine jd_un ?_ | (refine jd_yes ?_; refine jd_fieldAddr ?_)); (first | refine jd_un ?_ | (refine jd_yes ?_; refine jd_load ?_)); ((first | refine jd_un ?_ | (refine jd_yes ?_; (refine jd_own (cMI (V := Value.bool) (os' := fun _ => mW L (casL cs x o n) pn cn pc cc) (hs' := fun _ => [(b, aO L (casL cs x o n) gen (up acc) pn cn pc cc)]) (Fc := fun _ => []) (A0 := A) (hm := fun w => inv_CAS _ _ _ _ w) (hc := fun w hw => aCAS_c hw x o n hx hl)) (fun x38 => ?_); try (refine ld_fact (fun h38 => ?_)))))); refine jd_pick ?_; refine jd_assignL (fun _ => ?_); refine ld_nil ?_; refine kd_seq ?_; refine kd_seq ?_; refine kd_region ?_; refine jd_fieldAddr ?_; refine jd_load ?_; refine ld_quiet (o_eqlFn (by exact rfl) (by exact rfl) (eqFn2 _ _ _)) rfl ?_; refine ld_nil ?_)
     all_goals
      refine kd_if (fun c42 => ?_) (fun c42 => ?_)
      · try (exact absurd c42 (by decide))
        all_goals (revert c42; (first | refine cv1 ?_ | refine cv3 ?_ | refine cv5 ?_ | refine cv7 ?_ | refine cv9 ?_ | refine cvb ?_ | refine cvd ?_ | skip); intro c42)
        all_goals
         cases c42
        all_goals (refine kd_seq ?_; refine kd_region ?_; refine jd_build ?_; refine jd_store (fun _ => ?_); refine ld_nil ?_)
        all_goals
         refine kd_retvF (idle_followed _) (by kernel_rfl) Try.results91 (.cell (by exact rfl) (by repeat (first | exact At.head | apply At.tail)) (by exact agg_of rfl) .nil) (fun w hw => ?_)
         exact ⟨x47, rfl, cas_eqB h38 ▸ h47, hw.ret (by repeat (first | exact List.Sublist.refl _ | apply List.Sublist.cons)) (FSub.ofSub fun f hf => by simpa using hf) (List.Sublist.refl _)⟩
      · try (exact absurd c42 (by decide))
        all_goals (revert c42; (first | refine cv2 ?_ | refine cv4 ?_ | refine cv6 ?_ | refine cv8 ?_ | refine cva ?_ | refine cvc ?_ | refine cve ?_ | skip); intro c42)
        all_goals (refine kd_skip ?_; refine kd_seq ?_; refine kd_region ?_; refine jd_fieldAddr ?_; refine jd_load ?_; refine jd_move ?_; (refine jd_own (cFc (V := fun y : Cd × Fr => .agg ⟨y.1.cells⟩) (Fc := fun y => y.2) (f := f) (cap := cap) (vs := [.bool x38]) (hp := hp) (hc := fun w1 hw => hk x38 w1 fun y hy => hw.cl (.old (FAt.of_mem (hB y hy))))) (fun x47 => ?_); try (refine ld_fact (fun h47 => ?_))); refine jd_own0 (lSF fun _ => o_storeAgg (by exact rfl) (by repeat (first | exact At.head | apply At.tail)) (by exact rfl) (cd_one _) (by exact agg_of rfl) (by exact rfl) (by simp only [setAt]; exact rfl)) (fun _ => ?_); refine ld_nil ?_)
        all_goals
         refine kd_retvF (idle_followed _) (by kernel_rfl) Try.results91 (.cell (by exact rfl) (by repeat (first | exact At.head | apply At.tail)) (by exact agg_of rfl) .nil) (fun w hw => ?_)
         exact ⟨x47, rfl, cas_eqB h38 ▸ h47, hw.ret (by repeat (first | exact List.Sublist.refl _ | apply List.Sublist.cons)) (FSub.ofSub fun f hf => by simpa using hf) (List.Sublist.refl _)⟩
theorem followed_c {p : Pc} (hs : SF w D [(b, aO L cs gen acc pn cn pc cc)] A [] (mW L cs pn cn pc cc) w) (hr : Rp Try.prog p c B) (hB : ∀ y ∈ B, y ∈ A) (hlv : p.live = true) (hx : p.cl ≤ 9223372036854775807) (hl : cs.length ≤ 274877906944) :
    Calls Try.prog 91 #[.iface 27 (.pointer (some ⟨b, 0, none⟩)), .agg ⟨c.cells⟩] w fun e w' => ∃ y : Cd × Fr, e = .returned (.agg ⟨y.1.cells⟩) ∧ Rp Try.prog (p.next cs) y.1 (y.2 ++ B) ∧ SF w D [(b, aO L (p.cells cs) gen (up acc) pn cn pc cc)] [] y.2 (mW L (p.cells cs) pn cn pc cc) w' := by
  cases p with
  | done r => cases hlv
  | load x k => exact followed_load hs hr hB hx hl
  | cas x o n k => exact followed_cas hs hr hB hx hl
end
end Go.Proofs.Ytmogngagpphnhaa

/- Tasks: New, Step, Next, Done, Result, Steps. -/
set_option linter.unusedSimpArgs false
set_option linter.unusedVariables false
namespace Go.Ct
open Go Go.RowKit
/-- A task's state: what is left, the cells, the number of accesses of the arena, the number of steps. -/
structure TS where
  p : Pc
  cs : List Int
  acc : Int
  n : Nat
def TS.step (s : TS) : TS := if s.p.live = true then ⟨s.p.next s.cs, s.p.cells s.cs, up s.acc, s.n + 1⟩ else s
theorem TS.step_live {s : TS} (h : s.p.live = true) : s.step = ⟨s.p.next s.cs, s.p.cells s.cs, up s.acc, s.n + 1⟩ := if_pos h
theorem TS.step_done {s : TS} (h : s.p.live = false) : s.step = s := if_neg (by rw [h]; decide)
theorem Pc.live_kind {p : Pc} : p.live = true ↔ p.kind ≠ 0 := by cases p <;> simp [Pc.live, Pc.kind]
/-- What is read of a block is as it was. -/
theorem SF.same {w w' : World} {b : Nat} {o : Obj} (h : SF w [b] [(b, o)] [] [] [] w') (hb : w.heap[b]? = some o) : St w [] [] w' :=
  ⟨h.st.os, h.st.tape, h.st.output, h.st.size, fun k hk _ => by
    by_cases e : k = b
    · subst e; rw [h.st.has (k, o) (List.mem_singleton.2 rfl), hb]
    · exact h.st.keep k hk (by simpa using e), fun _ h => (List.not_mem_nil h).elim, fun _ h => (List.not_mem_nil h).elim, List.nodup_nil⟩
theorem SF.ofBlk {w : World} {b : Nat} {o : Obj} (hb : w.heap[b]? = some o) : SF w [b] [(b, o)] [] [] [] w :=
  ⟨⟨rfl, rfl, rfl, Nat.le_refl _, fun _ _ _ => rfl, fun p hp => by rw [List.mem_singleton.1 hp]; exact hb, fun p hp => by rw [List.mem_singleton.1 hp]; exact .inl (List.mem_singleton.2 rfl), by simp⟩, fun _ h => (List.not_mem_nil h).elim, fun _ h => (List.not_mem_nil h).elim, fun _ h => (List.not_mem_nil h).elim, by simp [Ks]⟩
end Go.Ct
namespace Go.Proofs.Ytmogngagpphnhaa
open Go Go.RowKit Go.Ct
/-- A task's block. -/
abbrev tkC (b : Nat) (c : Cd) (n : Nat) (z : Bool) : List Value := [.iface 27 (.pointer (some ⟨b, 0, none⟩)), .int .i64 c.a.k, .int .i64 c.a.c, .int .i64 c.a.o, .int .i64 c.a.n, fnV c.f, fnV c.g, .int .i64 c.r.err, .bool c.r.found, .int .u64 c.r.val, .string c.r.key, .int .i64 c.r.cnt, .int .i64 c.r.ref, .int .i64 c.r.root, .bool c.r.ro, .int .i64 ((n : Nat) : Int), .bool z]
abbrev tO (b : Nat) (c : Cd) (n : Nat) : Obj := .cells ⟨tkC b c n false⟩ 141 (0, 0)
section
variable {D : List Nat} {A B : Fr} {L : List NdV} {cs : List Int} {gen acc : Int} {pn pc : Option Addr} {cn cc b bt n : Nat} {w : World} {c : Cd} {p : Pc}
theorem tkDone_c (h : w.heap[bt]? = some (tO b c n)) : Calls Try.prog 51 #[.pointer (some ⟨bt, 0, none⟩)] w fun e w' => e = .returned (.bool (c.a.k == 0)) ∧ St w [] [] w' := by
  refine enter Try.func51 Try.ntmps51 rfl rfl (SF.ofBlk h) ?_
  simp only [mkS]
  all_goals (refine k_seq ?_; refine k_region ?_; refine j_assignL (fun _ => ?_); refine l_nil ?_; refine k_seq ?_; refine k_region ?_; refine j_move ?_; refine j_nilCheck ?_; refine j_fieldAddr ?_; refine j_fieldAddr ?_; refine j_fieldAddr ?_; refine j_load ?_; refine j_eql ?_; refine j_assignL (fun _ => ?_); refine l_nil ?_)
  all_goals
   refine k_rv Try.results51 (fun w hw => ?_)
   exact ⟨rfl, hw.finH.same h⟩
theorem tkSteps_c (h : w.heap[bt]? = some (tO b c n)) : Calls Try.prog 48 #[.pointer (some ⟨bt, 0, none⟩)] w fun e w' => e = .returned (.int .i64 ((n : Nat) : Int)) ∧ St w [] [] w' := by
  refine enter Try.func48 Try.ntmps48 rfl rfl (SF.ofBlk h) ?_
  simp only [mkS]
  all_goals (refine k_seq ?_; refine k_region ?_; refine j_assignL (fun _ => ?_); refine l_nil ?_; refine k_seq ?_; refine k_region ?_; refine j_move ?_; refine j_nilCheck ?_; refine j_fieldAddr ?_; refine j_load ?_; refine j_assignL (fun _ => ?_); refine l_nil ?_)
  all_goals
   refine k_rv Try.results48 (fun w hw => ?_)
   exact ⟨rfl, hw.finH.same h⟩
theorem tkNext_c (h : w.heap[bt]? = some (tO b c n)) : Calls Try.prog 44 #[.pointer (some ⟨bt, 0, none⟩)] w fun e w' => e = .returned (.tuple #[.agg ⟨(if c.a.k = 0 then Ac.zero else c.a).cells⟩, .bool (c.a.k != 0)]) ∧ St w [] [] w' := by
  refine enter Try.func44 Try.ntmps44 rfl rfl (SF.ofBlk h) ?_
  simp only [mkS]
  all_goals (refine k_seq ?_; refine k_region ?_; refine j_alloc (fun x2 => ?_); refine j_assignL (fun _ => ?_); refine l_nil ?_; refine k_seq ?_; refine k_seq ?_; refine k_region ?_; refine j_move ?_; (refine j_own (cV (hc := fun w1 hw => tkDone_c (hw.st.at (by repeat (first | exact At.head | apply At.tail))))) (fun x5 => ?_); try (refine l_fact (fun h5 => ?_))); refine l_nil ?_)
  all_goals
   refine k_if (fun c5 => ?_) (fun c5 => ?_)
   · try (exact absurd c5 (by decide))
     all_goals (revert c5; (first | refine cv1 ?_ | refine cv3 ?_ | refine cv5 ?_ | refine cv7 ?_ | refine cv9 ?_ | refine cvb ?_ | refine cvd ?_ | skip); intro c5)
     all_goals (refine k_seq ?_; refine k_region ?_; refine j_build ?_; refine j_store (fun _ => ?_); refine j_assignL (fun _ => ?_); refine l_nil ?_)
     all_goals
      refine k_retvF Try.results44 (.cell (by exact rfl) (by repeat (first | exact At.head | apply At.tail)) (by exact agg_of rfl) (.tmp (by conv => { lhs; whnf }) .nil)) (fun w hw => ?_)
      refine ⟨?_, hw.finH.same h⟩
      rw [if_pos (by simpa using c5), show (c.a.k != 0) = false by simpa using c5]
      rfl
   · try (exact absurd c5 (by decide))
     all_goals (revert c5; (first | refine cv2 ?_ | refine cv4 ?_ | refine cv6 ?_ | refine cv8 ?_ | refine cva ?_ | refine cvc ?_ | refine cve ?_ | skip); intro c5)
     all_goals (refine k_skip ?_; refine k_seq ?_; refine k_region ?_; refine j_move ?_; refine j_nilCheck ?_; refine j_fieldAddr ?_; refine j_fieldAddr ?_; refine l_quiet (o_loadPart (k := 4) (vs := c.a.cells) (by exact rfl) (by repeat (first | exact At.head | apply At.tail)) (by exact agg_of rfl) rfl rfl) rfl ?_; refine j_store (fun _ => ?_); refine j_assignL (fun _ => ?_); refine l_nil ?_)
     all_goals
      refine k_retvF Try.results44 (.cell (by exact rfl) (by repeat (first | exact At.head | apply At.tail)) (by exact agg_of rfl) (.tmp (by conv => { lhs; whnf }) .nil)) (fun w hw => ?_)
      refine ⟨?_, hw.finH.same h⟩
      rw [if_neg (by simpa using c5), show (c.a.k != 0) = true by simpa using c5]
      rfl
theorem tkResult_c (h : w.heap[bt]? = some (tO b c n)) : Calls Try.prog 52 #[.pointer (some ⟨bt, 0, none⟩)] w fun e w' => e = .returned (.agg ⟨(if c.a.k = 0 then c.r else Rs.zero).cells⟩) ∧ St w [] [] w' := by
  refine enter Try.func52 Try.ntmps52 rfl rfl (SF.ofBlk h) ?_
  simp only [mkS]
  all_goals (refine k_seq ?_; refine k_region ?_; refine j_alloc (fun x2 => ?_); refine l_nil ?_; refine k_seq ?_; refine k_seq ?_; refine k_region ?_; refine j_move ?_; (refine j_own (cV (hc := fun w1 hw => tkDone_c (hw.st.at (by repeat (first | exact At.head | apply At.tail))))) (fun x4 => ?_); try (refine l_fact (fun h4 => ?_))); refine j_not ?_; refine l_nil ?_)
  all_goals
   refine k_if (fun c5 => ?_) (fun c5 => ?_)
   · try (exact absurd c5 (by decide))
     all_goals (revert c5; (first | refine cv1 ?_ | refine cv3 ?_ | refine cv5 ?_ | refine cv7 ?_ | refine cv9 ?_ | refine cvb ?_ | refine cvd ?_ | skip); intro c5)
     all_goals (refine k_seq ?_; refine k_region ?_; refine j_build ?_; refine j_store (fun _ => ?_); refine l_nil ?_)
     all_goals
      refine k_retvF Try.results52 (.cell (by exact rfl) (by repeat (first | exact At.head | apply At.tail)) (by exact agg_of rfl) .nil) (fun w hw => ?_)
      refine ⟨?_, hw.finH.same h⟩
      rw [if_neg (by simpa using c5)]
      rfl
   · try (exact absurd c5 (by decide))
     all_goals (revert c5; (first | refine cv2 ?_ | refine cv4 ?_ | refine cv6 ?_ | refine cv8 ?_ | refine cva ?_ | refine cvc ?_ | refine cve ?_ | skip); intro c5)
     all_goals (refine k_skip ?_; refine k_seq ?_; refine k_region ?_; refine j_move ?_; refine j_nilCheck ?_; refine j_fieldAddr ?_; refine j_fieldAddr ?_; refine l_quiet (o_loadPart (k := 8) (vs := c.r.cells) (by exact rfl) (by repeat (first | exact At.head | apply At.tail)) (by exact agg_of rfl) rfl rfl) rfl ?_; refine j_store (fun _ => ?_); refine l_nil ?_)
     all_goals
      refine k_retvF Try.results52 (.cell (by exact rfl) (by repeat (first | exact At.head | apply At.tail)) (by exact agg_of rfl) .nil) (fun w hw => ?_)
      refine ⟨?_, hw.finH.same h⟩
      rw [if_pos (by simpa using c5)]
      rfl
end
end Go.Proofs.Ytmogngagpphnhaa

/- Tasks: a step; Run. -/
set_option linter.unusedSimpArgs false
set_option linter.unusedVariables false
namespace Go.Proofs.Ytmogngagpphnhaa
open Go Go.RowKit Go.Ct
section
variable {D : List Nat} {A B : Fr} {L : List NdV} {cs : List Int} {gen acc : Int} {pn pc : Option Addr} {cn cc b bt n : Nat} {w : World} {c : Cd} {p : Pc}
theorem tkStep_live (hs : SF w D [(bt, tO b c n), (b, aO L cs gen acc pn cn pc cc)] A [] (mW L cs pn cn pc cc) w) (hr : Rp Try.prog p c B) (hB : ∀ y ∈ B, y ∈ A) (hlv : p.live = true) (hx : p.cl ≤ 9223372036854775807) (hl : cs.length ≤ 274877906944) (hn : n < 1000000000) :
    Calls Try.prog 45 #[.pointer (some ⟨bt, 0, none⟩)] w fun e w' => ∃ y : Cd × Fr, e = .returned (.tuple #[]) ∧ Rp Try.prog (p.next cs) y.1 (y.2 ++ B) ∧ SF w D [(bt, tO b y.1 (n + 1)), (b, aO L (p.cells cs) gen (up acc) pn cn pc cc)] [] y.2 (mW L (p.cells cs) pn cn pc cc) w' := by
  have hk : c.a.k ≠ 0 := by rw [hr.kind]; exact Pc.live_kind.1 hlv
  refine enter Try.func45 Try.ntmps45 rfl rfl hs ?_
  simp only [mkS]
  all_goals (refine k_seq ?_; refine k_seq ?_; refine k_region ?_; refine j_move ?_; (refine j_own (cV (hc := fun w1 hw => tkDone_c (hw.st.at (by repeat (first | exact At.head | apply At.tail))))) (fun x3 => ?_); try (refine l_fact (fun h3 => ?_))); refine j_move ?_)
  all_goals (first | refine j_un ?_ | (refine j_yes ?_; refine j_move ?_) | (refine l_case (g := 4) (by exact rfl) (fun g4 => ?_) (fun g4 => ?_) <;> (revert g4; (first | refine cv1 ?_ | refine cv2 ?_ | refine cvb ?_ | refine cvc ?_ | refine cv9 ?_ | refine cva ?_ | refine cv7 ?_ | refine cv8 ?_ | refine cvd ?_ | refine cve ?_ | skip); intro g4) <;> (try (exfalso; omega)) <;> (first | refine j_un ?_ | (refine j_yes ?_; refine j_move ?_))))
  all_goals ((first | refine j_un ?_ | (refine j_yes ?_; refine j_nilCheck ?_)); (first | refine j_un ?_ | (refine j_yes ?_; refine j_fieldAddr ?_)); (first | refine j_un ?_ | (refine j_yes ?_; refine j_load ?_)); refine j_pick ?_; refine l_nil ?_)
  all_goals
   refine k_if (fun c9 => ?_) (fun c9 => ?_)
   · try (exact absurd c9 (by decide))
     all_goals (revert c9; (first | refine cv1 ?_ | refine cv3 ?_ | refine cv5 ?_ | refine cv7 ?_ | refine cv9 ?_ | refine cvb ?_ | refine cvd ?_ | skip); intro c9)
     all_goals try (exfalso; omega)
     all_goals
      refine k_retvF Try.results45 .nil (fun w hw => ?_)
      exact absurd c9 (by simp)
   · try (exact absurd c9 (by decide))
     all_goals (revert c9; (first | refine cv2 ?_ | refine cv4 ?_ | refine cv6 ?_ | refine cv8 ?_ | refine cva ?_ | refine cvc ?_ | refine cve ?_ | skip); intro c9)
     all_goals try (exfalso; omega)
     all_goals (refine k_skip ?_; refine k_seq ?_; refine k_region ?_; refine j_move ?_; refine j_nilCheck ?_; refine j_fieldAddr ?_; refine j_store (fun _ => ?_); refine l_nil ?_; refine k_seq ?_; refine k_region ?_; refine j_move ?_; refine j_nilCheck ?_; refine j_fieldAddr ?_; refine j_load ?_; refine j_inc ?_; refine j_nilCheck ?_; refine j_fieldAddr ?_; refine j_store (fun _ => ?_); refine l_nil ?_; refine k_seq ?_; refine k_drawF (.one 0 [] (.one 1 [] (.one 2 [] (.one 3 [] (.one 4 [] (.one 5 [] (.one 6 [] (.one 7 [] (.one 8 [] (.one 9 [] (.one 10 [] (.one 11 [] (.one 12 [] .nil))))))))))))) ?_; refine r_move (i := 0) ?_; refine r_move (i := 1) ?_; refine r_nilCheck (i := 2) ?_; refine r_fieldAddr (i := 3) ?_; refine r_load (i := 4) ?_; refine r_move (i := 5) ?_; refine r_nilCheck (i := 6) ?_; refine r_fieldAddr (i := 7) ?_; refine r_ownQ (i := 8) (hq := (o_loadPart (k := 14) (vs := c.cells) (by exact rfl) (by repeat (first | exact At.head | apply At.tail)) (by exact agg_of rfl) rfl rfl)) (h := ?_); ((refine r_own (i := 9) (hq := (cM (V := fun y : Cd × Fr => .agg ⟨y.1.cells⟩) (Fc := fun y => y.2) (A0 := A) (hs' := fun _ => [(b, aO L (p.cells cs) gen (up acc) pn cn pc cc)]) (os' := fun _ => mW L (p.cells cs) pn cn pc cc) (hc := fun w hw => followed_c hw hr hB hlv hx hl))) (hfire := (fun _ => .nil)) (h := fun x29 => ?_); try (refine r_fact (fun h29 => ?_)))); refine r_nilCheck (i := 10) ?_; refine r_fieldAddr (i := 11) ?_; refine r_own0 (i := 12) (hq := (lSF fun _ => o_storePart (off := 1) (vs := x29.1.cells) (cs := tkC b x29.1 (n + 1) true) (by exact rfl) (by repeat (first | exact At.head | apply At.tail)) (by exact rfl) (cd_one _) (by exact agg_of rfl) (Nat.le_of_ble_eq_true rfl) (by exact rfl) (by simp only [setAt]; exact rfl))) (hfire := (fun _ => .nil)) (h := fun _ => ?_); refine r_fin ?_; refine k_region ?_; refine j_move ?_; refine j_nilCheck ?_; refine j_fieldAddr ?_; refine j_store (fun _ => ?_); refine l_nil ?_)
     all_goals
      refine k_endvF Try.results45 .nil (fun w hw => ?_)
      exact ⟨x29, rfl, h29, hw.ret (List.Sublist.refl _) (FSub.ofSub fun f hf => by simpa using hf) (List.Sublist.refl _)⟩
theorem tkStep_done (hs : SF w D [(bt, tO b c n), (b, aO L cs gen acc pn cn pc cc)] A [] (mW L cs pn cn pc cc) w) (hk : c.a.k = 0) :
    Calls Try.prog 45 #[.pointer (some ⟨bt, 0, none⟩)] w fun e w' => e = .returned (.tuple #[]) ∧ SF w D [(bt, tO b c n), (b, aO L cs gen acc pn cn pc cc)] [] [] (mW L cs pn cn pc cc) w' := by
  refine enter Try.func45 Try.ntmps45 rfl rfl hs ?_
  simp only [mkS]
  all_goals (refine k_seq ?_; refine k_seq ?_; refine k_region ?_; refine j_move ?_; (refine j_own (cV (hc := fun w1 hw => tkDone_c (hw.st.at (by repeat (first | exact At.head | apply At.tail))))) (fun x3 => ?_); try (refine l_fact (fun h3 => ?_))); refine j_move ?_)
  all_goals (first | refine j_un ?_ | (refine j_yes ?_; refine j_move ?_) | (refine l_case (g := 4) (by exact rfl) (fun g4 => ?_) (fun g4 => ?_) <;> (revert g4; (first | refine cv1 ?_ | refine cv2 ?_ | refine cvb ?_ | refine cvc ?_ | refine cv9 ?_ | refine cva ?_ | refine cv7 ?_ | refine cv8 ?_ | refine cvd ?_ | refine cve ?_ | skip); intro g4) <;> (try (exfalso; omega)) <;> (first | refine j_un ?_ | (refine j_yes ?_; refine j_move ?_))))
  all_goals ((first | refine j_un ?_ | (refine j_yes ?_; refine j_nilCheck ?_)); (first | refine j_un ?_ | (refine j_yes ?_; refine j_fieldAddr ?_)); (first | refine j_un ?_ | (refine j_yes ?_; refine j_load ?_)); refine j_pick ?_; refine l_nil ?_)
  all_goals
   refine k_if (fun c9 => ?_) (fun c9 => ?_)
   · try (exact absurd c9 (by decide))
     all_goals (revert c9; (first | refine cv1 ?_ | refine cv3 ?_ | refine cv5 ?_ | refine cv7 ?_ | refine cv9 ?_ | refine cvb ?_ | refine cvd ?_ | skip); intro c9)
     all_goals try (exfalso; omega)
     all_goals
      refine k_retvF Try.results45 .nil (fun w hw => ?_)
      exact ⟨rfl, hw.ret (List.Sublist.refl _) FSub.nil (List.Sublist.refl _)⟩
   · try (exact absurd c9 (by decide))
     all_goals (revert c9; (first | refine cv2 ?_ | refine cv4 ?_ | refine cv6 ?_ | refine cv8 ?_ | refine cva ?_ | refine cvc ?_ | refine cve ?_ | skip); intro c9)
     all_goals try (exfalso; omega)
     all_goals
      exact absurd c9 (by simp)
     all_goals (refine k_skip ?_; refine k_seq ?_; refine k_region ?_; refine j_move ?_; refine j_nilCheck ?_; refine j_fieldAddr ?_; refine j_store (fun _ => ?_); refine l_nil ?_; refine k_seq ?_; refine k_region ?_; refine j_move ?_; refine j_nilCheck ?_; refine j_fieldAddr ?_; refine j_load ?_; refine j_inc ?_; refine j_nilCheck ?_; refine j_fieldAddr ?_; refine j_store (fun _ => ?_); refine l_nil ?_; refine k_seq ?_; refine k_drawF (.one 0 [] (.one 1 [] (.one 2 [] (.one 3 [] (.one 4 [] (.one 5 [] (.one 6 [] (.one 7 [] (.one 8 [] (.one 9 [] (.one 10 [] (.one 11 [] (.one 12 [] .nil))))))))))))) ?_; refine r_move (i := 0) ?_; refine r_move (i := 1) ?_; refine r_nilCheck (i := 2) ?_; refine r_fieldAddr (i := 3) ?_; refine r_load (i := 4) ?_; refine r_move (i := 5) ?_; refine r_nilCheck (i := 6) ?_; refine r_fieldAddr (i := 7) ?_; refine r_load (i := 8) ?_; ((refine r_own (i := 9) (hq := (NO)) (hfire := (fun _ => .nil)) (h := fun x29 => ?_); try (refine r_fact (fun h29 => ?_)))); refine r_nilCheck (i := 10) ?_; refine r_fieldAddr (i := 11) ?_; refine r_store (i := 12) (hfire := (fun _ => .nil)) (h := fun _ => ?_); refine r_fin ?_; refine k_region ?_; refine j_move ?_; refine j_nilCheck ?_; refine j_fieldAddr ?_; refine j_store (fun _ => ?_); refine l_nil ?_)
     all_goals
      refine k_endvF Try.results45 .nil (fun w hw => ?_)
      exact ⟨rfl, hw.ret (List.Sublist.refl _) FSub.nil (List.Sublist.refl _)⟩
/-- A step, whether or not the task is finished. -/
theorem tkStep_c {s : TS} (hs : SF w D [(bt, tO b c s.n), (b, aO L s.cs gen s.acc pn cn pc cc)] A [] (mW L s.cs pn cn pc cc) w) (hr : Rp Try.prog s.p c B) (hB : ∀ y ∈ B, y ∈ A) (hx : s.p.cl ≤ 9223372036854775807) (hl : s.cs.length ≤ 274877906944) (hn : s.n < 1000000000) :
    Calls Try.prog 45 #[.pointer (some ⟨bt, 0, none⟩)] w fun e w' => ∃ y : Cd × Fr, e = .returned (.tuple #[]) ∧ Rp Try.prog s.step.p y.1 (y.2 ++ B) ∧ SF w D [(bt, tO b y.1 s.step.n), (b, aO L s.step.cs gen s.step.acc pn cn pc cc)] [] y.2 (mW L s.step.cs pn cn pc cc) w' := by
  cases hlv : s.p.live with
  | true => rw [TS.step_live hlv]; exact tkStep_live hs hr hB hlv hx hl hn
  | false =>
    rw [TS.step_done hlv]
    have hk : c.a.k = 0 := by
      rw [hr.kind]
      cases hp : s.p with
      | done r => rfl
      | load x k => rw [hp] at hlv; cases hlv
      | cas x o n k => rw [hp] at hlv; cases hlv
    exact (tkStep_done hs hk).mono fun e w' ⟨he, hw⟩ => ⟨(c, []), he, hr, hw⟩
end
end Go.Proofs.Ytmogngagpphnhaa

/- Tasks: Run, New, Plan. -/
set_option linter.unusedSimpArgs false
set_option linter.unusedVariables false
namespace Go.Ct
open Go Go.RowKit
def TS.run : Nat → TS → TS
  | 0, s => s
  | k + 1, s => (TS.run k s).step
theorem TS.step_len (s : TS) : s.step.cs.length = s.cs.length := by
  unfold TS.step
  split
  · show (s.p.cells s.cs).length = _
    cases s.p <;> simp [Pc.cells, casL_length]
  · rfl
theorem TS.run_len (s : TS) : ∀ k, (s.run k).cs.length = s.cs.length
  | 0 => rfl
  | k + 1 => (TS.step_len _).trans (TS.run_len s k)
theorem TS.run_stop {s : TS} {j : Nat} (h : (s.run j).p.live = false) : ∀ k, s.run (j + k) = s.run j
  | 0 => rfl
  | k + 1 => by
    show (s.run (j + k)).step = _
    rw [TS.run_stop h k, TS.step_done h]
theorem TS.run_stop' {s : TS} {j k : Nat} (h : (s.run j).p.live = false) (hk : j ≤ k) : s.run k = s.run j := by
  have := TS.run_stop h (k - j)
  rwa [show j + (k - j) = k by omega] at this
theorem live_of {P : Program} {p : Pc} {c : Cd} {B : Fr} (h : Rp P p c B) : (c.a.k ≠ 0 ↔ p.live = true) := by rw [h.kind]; exact Pc.live_kind.symm
theorem live_f {P : Program} {p : Pc} {c : Cd} {B : Fr} (h : Rp P p c B) (h0 : c.a.k = 0) : p.live = false := by
  cases hl : p.live with
  | false => rfl
  | true => exact absurd h0 ((live_of h).2 hl)
/-- The accesses that a plan makes. -/
def keepA (l : List Ac) : List Ac := l.filter fun a => decide (a.k = 1 ∨ a.k = 2)
theorem acC_push (l : List Ac) (a : Ac) : acC (l ++ [a]) = acC l ++ a.cells := by simp [acC, List.flatMap_append, Ac.cells]
theorem take_push {l : List Ac} {k : Nat} (hk : k < l.length) : l.take (k + 1) = l.take k ++ [l.getD k Ac.zero] := by
  rw [List.take_add_one, List.getElem?_eq_getElem hk]
  simp [List.getD, hk]
theorem keepA_yes {l : List Ac} {k : Nat} (hk : k < l.length) (h : (l.getD k Ac.zero).k = 1 ∨ (l.getD k Ac.zero).k = 2) : keepA (l.take (k + 1)) = keepA (l.take k) ++ [l.getD k Ac.zero] := by
  rw [take_push hk]
  unfold keepA
  rw [List.filter_append]
  simp only [List.filter_cons, List.filter_nil, h, decide_true, if_true]
theorem keepA_no {l : List Ac} {k : Nat} (hk : k < l.length) (h : ¬ ((l.getD k Ac.zero).k = 1 ∨ (l.getD k Ac.zero).k = 2)) : keepA (l.take (k + 1)) = keepA (l.take k) := by
  rw [take_push hk]
  unfold keepA
  rw [List.filter_append]
  simp only [List.filter_cons, List.filter_nil, h, decide_false, Bool.false_eq_true, if_false, List.append_nil]
theorem keepA_len (l : List Ac) : (keepA l).length ≤ l.length := List.length_filter_le _ _
end Go.Ct
namespace Go.Proofs.Ytmogngagpphnhaa
open Go Go.RowKit Go.Ct
section
variable {D : List Nat} {A B : Fr} {L : List NdV} {cs : List Int} {gen acc : Int} {pn pc : Option Addr} {cn cc b bt n : Nat} {w : World} {c : Cd} {p : Pc}
theorem tkRun_c {s : TS} {most : Int} (hs : SF w D [(bt, tO b c s.n), (b, aO L s.cs gen s.acc pn cn pc cc)] A [] (mW L s.cs pn cn pc cc) w) (hr : Rp Try.prog s.p c B) (hB : ∀ y ∈ B, y ∈ A) (hrng : ∀ k, (s.run k).p.cl ≤ 9223372036854775807) (hl : s.cs.length ≤ 274877906944) (hn : s.n + most.toNat < 1000000000) :
    Calls Try.prog 56 #[.pointer (some ⟨bt, 0, none⟩), .int .i64 most] w fun e w' => ∃ y : Cd × Fr, e = .returned (.int .i64 (((s.run most.toNat).n - s.n : Nat) : Int)) ∧ (Rp Try.prog (s.run most.toNat).p y.1 (y.2 ++ B) ∧ s.n ≤ (s.run most.toNat).n) ∧ SF w D [(bt, tO b y.1 (s.run most.toNat).n), (b, aO L (s.run most.toNat).cs gen (s.run most.toNat).acc pn cn pc cc)] [] y.2 (mW L (s.run most.toNat).cs pn cn pc cc) w' := by
  refine enter Try.func56 Try.ntmps56 rfl rfl hs ?_
  simp only [mkS]
  all_goals (refine k_seq ?_; refine k_region ?_; refine j_assignL (fun _ => ?_); refine l_nil ?_; refine k_seq ?_; refine k_region ?_; refine j_assignL (fun _ => ?_); refine l_nil ?_; refine k_seq ?_; refine k_block ?_)
  all_goals
   refine k_loopF [5, 6, 7, 8, 9, 10, 11, 12, 13, 14, 15, 16, 17, 18, 19, 20, 21, 22, 23, 24] (fun y : Nat × Cd × Fr => [(5, .int .i64 ((y.1 : Nat) : Int))]) (fun y => y.1 ≤ most.toNat ∧ Rp Try.prog (s.run y.1).p y.2.1 (y.2.2 ++ B) ∧ (s.run y.1).n = s.n + y.1) (fun y => [(bt, tO b y.2.1 (s.run y.1).n), (b, aO L (s.run y.1).cs gen (s.run y.1).acc pn cn pc cc)]) (fun y => y.2.2) (fun y => mW L (s.run y.1).cs pn cn pc cc) (fun y => most.toNat - y.1) ((0, c, [])) (by decide) (fun _ => by exact rfl) ?_ (⟨Nat.zero_le _, hr, rfl⟩) (fun w hw => hw) (fun y f hx => ?_)
   · repeat (first | exact knows_nil _ | refine knows_cons (by first | exact rfl | (conv => { lhs; whnf }; simp; done)) ?_)
   dsimp only [mkU, List.map, List.cons_append, List.nil_append]
   all_goals (refine k_seq ?_; refine k_seq ?_; refine k_region ?_; refine j_move ?_; refine j_move ?_; refine j_lss ?_; refine j_move ?_)
   all_goals (first | refine j_un ?_ | (refine j_yes ?_; refine j_move ?_) | (refine l_case (g := 9) (by exact rfl) (fun g9 => ?_) (fun g9 => ?_) <;> (revert g9; (first | refine cv1 ?_ | refine cv2 ?_ | refine cvb ?_ | refine cvc ?_ | refine cv9 ?_ | refine cva ?_ | refine cv7 ?_ | refine cv8 ?_ | refine cvd ?_ | refine cve ?_ | skip); intro g9) <;> (first | refine j_un ?_ | (refine j_yes ?_; refine j_move ?_))))
   all_goals (((first | refine j_un ?_ | (refine j_yes ?_; (refine j_own (cV (hc := fun w1 hw => tkDone_c (hw.st.at (by repeat (first | exact At.head | apply At.tail))))) (fun x11 => ?_); try (refine l_fact (fun h11 => ?_)))))); (first | refine j_un ?_ | (refine j_yes ?_; refine j_not ?_)); refine j_pick ?_; refine j_move ?_)
   all_goals (first | refine j_un ?_ | (refine j_yes ?_; refine j_move ?_) | (refine l_case (g := 14) (by exact rfl) (fun g14 => ?_) (fun g14 => ?_) <;> (revert g14; (first | refine cv1 ?_ | refine cv2 ?_ | refine cvb ?_ | refine cvc ?_ | refine cv9 ?_ | refine cva ?_ | refine cv7 ?_ | refine cv8 ?_ | refine cvd ?_ | refine cve ?_ | skip); intro g14) <;> (first | refine j_un ?_ | (refine j_yes ?_; refine j_move ?_))))
   all_goals ((first | refine j_un ?_ | (refine j_yes ?_; refine j_nilCheck ?_)); (first | refine j_un ?_ | (refine j_yes ?_; refine j_fieldAddr ?_)); (first | refine j_un ?_ | (refine j_yes ?_; refine j_load ?_)); (first | refine j_un ?_ | (refine j_yes ?_; refine j_not ?_)); refine j_pick ?_; refine l_nil ?_)
   all_goals
    refine k_if (fun c20 => ?_) (fun c20 => ?_)
    · try (exact absurd c20 (by decide))
      all_goals (revert c20; (first | refine cv1 ?_ | refine cv3 ?_ | refine cv5 ?_ | refine cv7 ?_ | refine cv9 ?_ | refine cvb ?_ | refine cvd ?_ | skip); intro c20)
      all_goals (refine k_skip ?_; refine k_block ?_; refine k_seq ?_; refine k_region ?_; refine j_move ?_; (refine j_own (cM (V := fun _ : Cd × Fr => .tuple #[]) (Fc := fun y => y.2) (A0 := y.2.2 ++ A) (hs' := fun z => [(bt, tO b z.1 (s.run (y.1 + 1)).n), (b, aO L (s.run (y.1 + 1)).cs gen (s.run (y.1 + 1)).acc pn cn pc cc)]) (os' := fun _ => mW L (s.run (y.1 + 1)).cs pn cn pc cc) (hA := HasAll.of fun f hf => by rcases List.mem_append.1 hf with h1 | h1; exact Or.inr (Or.inr (Or.inl h1)); exact Or.inr (Or.inl h1)) (hc := fun w hw => tkStep_c (s := s.run y.1) (B := y.2.2 ++ B) hw hx.2.1 (fun z hz => by rcases List.mem_append.1 hz with h1 | h1; exact List.mem_append_left _ h1; exact List.mem_append_right _ (hB z h1)) (hrng _) (by rw [TS.run_len]; exact hl) (by omega))) (fun x22 => ?_); try (refine l_fact (fun h22 => ?_))); refine l_nil ?_; refine k_region ?_; refine j_move ?_; refine j_inc ?_; refine j_assignL (fun _ => ?_); refine l_nil ?_; refine k_blk ?_)
      all_goals
       refine k_roundF ((y.1 + 1, x22.1, x22.2 ++ y.2.2)) ?_ ?_ (by repeat (first | (with_reducible exact Pre.refl) | refine Pre.cons (by exact rfl) ?_)) ?_ (fun w hw => hw)
       · first | omega | (simp only []; omega)
       · repeat' (first | exact knows_nil _ | refine knows_cons ?_ ?_)
         all_goals (first | exact rfl | (conv => { lhs; whnf }; simp; done) | (conv => { lhs; whnf }; congr 1; omega))
       · have hlv := (live_of hx.2.1).1 g14
         refine ⟨by show y.1 + 1 ≤ most.toNat; omega, ?_, ?_⟩
         · show Rp Try.prog (s.run y.1).step.p x22.1 (x22.2 ++ y.2.2 ++ B)
           rw [List.append_assoc]
           exact h22
         · show (s.run y.1).step.n = s.n + (y.1 + 1)
           rw [TS.step_live hlv]
           show (s.run y.1).n + 1 = _
           omega
    · try (exact absurd c20 (by decide))
      all_goals (revert c20; (first | refine cv2 ?_ | refine cv4 ?_ | refine cv6 ?_ | refine cv8 ?_ | refine cva ?_ | refine cvc ?_ | refine cve ?_ | skip); intro c20)
      all_goals (refine k_exit rfl ?_; refine k_seq ?_; refine k_region ?_; refine j_move ?_; refine j_assignL (fun _ => ?_); refine l_nil ?_)
      all_goals
       refine k_rv Try.results56 (fun w hw => ?_)
       have e : s.run most.toNat = s.run y.1 := by
        first | exact TS.run_stop' (live_f hx.2.1 g14) hx.1 | (rw [show most.toNat = y.1 by have := hx.1; omega])
       rw [e]
       refine ⟨y.2, ?_, ⟨hx.2.1, by omega⟩, hw.ret (List.Sublist.refl _) (FSub.ofSub fun f hf => hf) (List.Sublist.refl _)⟩
       rw [show (s.run y.1).n - s.n = y.1 by omega]
       rfl
theorem tkNew_c {f : FuncId} {cap : List Value} (h : Clo0 Try.prog f cap B p) (hp : plain Try.prog f = true) (hB : ∀ x ∈ B, Cl w x.1 x.2) :
    Calls Try.prog 41 #[.iface 27 (.pointer (some ⟨b, 0, none⟩)), .func (.func f) #[] ⟨cap⟩] w fun e w' => ∃ x : Nat × Cd × Fr, e = .returned (.pointer (some ⟨x.1, 0, none⟩)) ∧ Rp Try.prog p x.2.1 (x.2.2 ++ B) ∧ SF w [] [(x.1, tO b x.2.1 0)] [] x.2.2 [] w' := by
  refine enter Try.func41 Try.ntmps41 rfl rfl (SF.begin hB) ?_
  simp only [mkS]
  all_goals (refine k_seq ?_; refine k_region ?_; refine j_assignL (fun _ => ?_); refine l_nil ?_; refine k_seq ?_; refine k_region ?_; refine j_move ?_; refine j_build ?_; refine j_box (fun x8 => ?_); refine j_assignL (fun _ => ?_); refine l_nil ?_; refine k_seq ?_; refine k_region ?_; refine j_move ?_; refine j_move ?_; (refine j_own (cF (V := fun y : Cd × Fr => .agg ⟨y.1.cells⟩) (Fc := fun y => y.2) (hc := fun w1 hw => begun_c h hp fun x hx => hw.cl (.old (FAt.of_mem hx)))) (fun x11 => ?_); try (refine l_fact (fun h11 => ?_))); refine j_nilCheck ?_; refine j_fieldAddr ?_; refine j_own0 (lSF fun _ => o_storePart (off := 1) (vs := x11.1.cells) (cs := tkC b x11.1 0 false) (by exact rfl) (by repeat (first | exact At.head | apply At.tail)) (by exact rfl) (cd_one _) (by exact agg_of rfl) (Nat.le_of_ble_eq_true rfl) (by exact rfl) (by simp only [setAt]; exact rfl)) (fun _ => ?_); refine l_nil ?_; refine k_seq ?_; refine k_region ?_; refine j_move ?_; refine j_assignL (fun _ => ?_); refine l_nil ?_)
  all_goals
   refine k_rv Try.results41 (fun w hw => ?_)
   exact ⟨(x8, x11), rfl, h11, hw.ret (List.Sublist.refl _) (FSub.ofSub fun f hf => by simpa using hf) (List.nil_sublist _)⟩
end
/-- The accesses of a plan: those that are loads or swaps. -/
theorem planClo {l : List Ac} {b5 c : Nat} {p : Option Addr} (hl : l.length ≤ c) (hb : l.length ≤ 1000000000000) :
    Clo0 Try.prog 92 [.pointer (some ⟨b5, 0, none⟩)] [(some ⟨b5, 0, none⟩, [.slice p l.length c]), (p, acC l)] (planP l Rs.zero) := fun w hB => by
  refine enter Try.func92 Try.ntmps92 rfl rfl (SF.begin hB) ?_
  simp only [mkS]
  all_goals (refine k_seq ?_; refine k_region ?_; refine j_alloc (fun x1 => ?_); refine l_nil ?_; refine k_seq ?_; refine k_region ?_; refine l_quiet (o_loadF1 (a := some ⟨b5, 0, none⟩) (q := 0) (by exact rfl) (by exact one_of rfl) (.old .head) rfl) rfl ?_; refine j_build ?_; (refine j_own (cF (V := fun y : Cd × Fr => .agg ⟨y.1.cells⟩) (Fc := fun y => y.2) (hc := fun w1 hw => planned_c l Rs.zero p c w1 (hw.cl (.old (.tail .head))) hl (by decide) (by show (0 : Int) + _ ≤ _; omega))) (fun x4 => ?_); try (refine l_fact (fun h4 => ?_))); refine j_own0 (lSF fun _ => o_storeAgg (by exact rfl) (by repeat (first | exact At.head | apply At.tail)) (by exact rfl) (cd_one _) (by exact agg_of rfl) (by exact rfl) (by simp only [setAt]; exact rfl)) (fun _ => ?_); refine l_nil ?_)
  all_goals
   refine k_retvF Try.results92 (.cell (by exact rfl) (by repeat (first | exact At.head | apply At.tail)) (by exact agg_of rfl) .nil) (fun w hw => ?_)
   exact ⟨x4, rfl, h4.more (Ent.of fun x hx => by
    simp only [List.mem_append, List.mem_cons, List.not_mem_nil, or_false] at hx ⊢
    rcases hx with h1 | h1
    · exact .inl h1
    · exact .inr (.inr h1)), hw.ret (List.nil_sublist _) (FSub.ofSub fun f hf => by simpa using hf) (List.nil_sublist _)⟩
theorem tkPlan_c {l : List Ac} {a : Option Addr} {b c : Nat} {w : World} (ha : Cl w a (acC l)) (hb : l.length ≤ 100000000) :
    Calls Try.prog 55 #[.iface 27 (.pointer (some ⟨b, 0, none⟩)), .slice a l.length c] w fun e w' => ∃ x : Nat × Cd × Fr, e = .returned (.pointer (some ⟨x.1, 0, none⟩)) ∧ Rp Try.prog (planP (keepA l) Rs.zero) x.2.1 x.2.2 ∧ SF w [] [(x.1, tO b x.2.1 0)] [] x.2.2 [] w' := by
  refine enter Try.func55 Try.ntmps55 rfl rfl (SF.s1 ha) ?_
  simp only [mkS]
  refine k_mono (fun w h => h.nilOwn 78 4) ?_
  all_goals (refine k_seq ?_; refine k_region ?_; refine j_assignL (fun _ => ?_); refine l_nil ?_; refine k_seq ?_; refine k_region ?_; refine j_own (lSF fun _ => o_alloc1 (z := .slice none 0 0) (by kernel_rfl) rfl) (fun x5 => ?_); refine l_nil ?_; refine k_seq ?_; refine k_seq ?_; refine k_region ?_; refine j_move ?_; refine j_len ?_; refine j_move ?_; refine l_nil ?_; refine k_block ?_)
  all_goals
   refine k_loopF [7, 10, 11, 12, 13, 14, 15, 16, 17, 18, 19, 20, 21, 22, 23, 24, 25, 26] (fun y : Nat × Option Addr × Nat => [(10, .int .i64 ((y.1 : Nat) : Int))]) (fun y => y.1 ≤ l.length ∧ (keepA (l.take y.1)).length ≤ y.2.2) (fun y => [(x5, .cells ⟨[.slice y.2.1 (keepA (l.take y.1)).length y.2.2]⟩ 94 (0, 0))]) (fun y => []) (fun y => [⟨y.2.1, acC (keepA (l.take y.1)), y.2.2, 78, 4⟩]) (fun y => l.length - y.1) ((0, none, 0)) (by decide) (fun _ => by exact rfl) ?_ (⟨Nat.zero_le _, Nat.zero_le _⟩) (fun w hw => hw) (fun y f hx => ?_)
   · repeat (first | exact knows_nil _ | refine knows_cons (by first | exact rfl | (conv => { lhs; whnf }; simp; done)) ?_)
   dsimp only [mkU, List.map, List.cons_append, List.nil_append]
   all_goals (refine k_seq ?_; refine k_region ?_; refine j_lss ?_; refine l_nil ?_; refine k_seq ?_)
   all_goals
    refine k_if (fun c11 => ?_) (fun c11 => ?_)
    · try (exact absurd c11 (by decide))
      all_goals (revert c11; (first | refine cv1 ?_ | refine cv3 ?_ | refine cv5 ?_ | refine cv7 ?_ | refine cv9 ?_ | refine cvb ?_ | refine cvd ?_ | skip); intro c11)
      all_goals (refine k_skip ?_; refine k_seq ?_; refine k_block ?_; refine k_seq ?_; refine k_region ?_; refine l_quiet (o_indexG (g := Ac.cells) (lst := l) (k := y.1) ac_len (by decide) (by exact rfl) (by exact rfl) (by exact sl_of rfl) (by exact agg_of rfl) (.old .head) (by omega) (by omega)) rfl ?_; refine l_quiet (o_loadG (g := Ac.cells) (lst := l) (q := y.1) Ac.zero ac_len (by exact rfl) (by exact agg_of rfl) (.old .head) (by omega)) rfl ?_; refine j_alloc (fun x7 => ?_); refine j_store (fun _ => ?_); refine l_nil ?_; refine k_seq ?_; refine k_region ?_; refine j_fieldAddr ?_; refine j_load ?_; refine j_eql ?_; refine j_move ?_)
      all_goals (first | refine j_un ?_ | (refine j_yes ?_; refine j_fieldAddr ?_) | (refine l_case (g := 17) (by exact rfl) (fun g17 => ?_) (fun g17 => ?_) <;> (revert g17; (first | refine cv1 ?_ | refine cv2 ?_ | refine cvb ?_ | refine cvc ?_ | refine cv9 ?_ | refine cva ?_ | refine cv7 ?_ | refine cv8 ?_ | refine cvd ?_ | refine cve ?_ | skip); intro g17) <;> (first | refine j_un ?_ | (refine j_yes ?_; refine j_fieldAddr ?_))))
      all_goals ((first | refine j_un ?_ | (refine j_yes ?_; refine j_load ?_)); (first | refine j_un ?_ | (refine j_yes ?_; refine j_eql ?_)); refine j_pick ?_; refine l_nil ?_)
      all_goals
       refine k_if (fun c21 => ?_) (fun c21 => ?_)
       · try (exact absurd c21 (by decide))
         all_goals (revert c21; (first | refine cv1 ?_ | refine cv3 ?_ | refine cv5 ?_ | refine cv7 ?_ | refine cv9 ?_ | refine cvb ?_ | refine cvd ?_ | skip); intro c21)
         all_goals (refine k_region ?_; refine j_load ?_; refine j_load ?_; refine j_buildSlice (fun x24 => ?_); (refine j_own (Loud.convOF (o_append (sz := 4) (by exact rfl) (by exact rfl) (by repeat (first | exact OAt.head | apply OAt.tail)) (by unfold acC; rw [flat_length ac_len]; omega) (by first | exact .new .head | exact .new (.tail .head) | exact .new (.tail (.tail .head)) | exact .new (.tail (.tail (.tail .head))) | exact .new (.tail (.tail (.tail (.tail .head)))) | exact .new (.tail (.tail (.tail (.tail (.tail .head))))) | exact .new (.tail (.tail (.tail (.tail (.tail (.tail .head)))))) | exact .new (.tail (.tail (.tail (.tail (.tail (.tail (.tail .head))))))) | exact .new (.tail (.tail (.tail (.tail (.tail (.tail (.tail (.tail .head)))))))) | exact .new (.tail (.tail (.tail (.tail (.tail (.tail (.tail (.tail (.tail .head))))))))) | exact .old .head | exact .old (.tail .head) | exact .old (.tail (.tail .head)) | exact .old (.tail (.tail (.tail .head))) | exact .old (.tail (.tail (.tail (.tail .head)))) | exact .old (.tail (.tail (.tail (.tail (.tail .head))))) | exact .own .head | exact .own (.tail .head) | exact .own (.tail (.tail .head)) | exact .own (.tail (.tail (.tail .head))) | exact .own (.tail (.tail (.tail (.tail .head)))) | exact .own (.tail (.tail (.tail (.tail (.tail .head))))) | exact .own (.tail (.tail (.tail (.tail (.tail (.tail .head)))))) | exact .own (.tail (.tail (.tail (.tail (.tail (.tail (.tail .head)))))))) rfl rfl (by exact elem_accessT rfl) rfl (by decide) (by exact sl_of rfl) (by have := keepA_len (l.take y.1); rw [List.length_take] at this; omega)) (by intro x; simp only [setO]; exact rfl)) (fun x25 => ?_); try (refine l_fact (fun h25 => ?_))); refine j_store (fun _ => ?_); refine l_nil ?_; refine k_blk ?_; refine k_region ?_; refine j_inc ?_; refine j_move ?_; refine l_nil ?_)
         all_goals
          first
           | (obtain ⟨q, hq⟩ : ∃ q : Option Addr × Nat, q = x25 := ⟨_, rfl⟩; have e1 := keepA_yes (l := l) (k := y.1) (by omega) (by omega))
           | (obtain ⟨q, hq⟩ : ∃ q : Option Addr × Nat, q = y.2 := ⟨_, rfl⟩; have e1 := keepA_no (l := l) (k := y.1) (by omega) (by omega))
          refine k_roundF ((y.1 + 1, q.1, q.2)) ?_ ?_ (by repeat (first | (with_reducible exact Pre.refl) | refine Pre.cons (by exact rfl) ?_)) ?_ (fun w hw => by
             show SF _ [] [(x5, .cells ⟨[.slice q.1 (keepA (l.take (y.1 + 1))).length q.2]⟩ _ (0, 0))] _ [] [⟨q.1, acC (keepA (l.take (y.1 + 1))), q.2, _, 4⟩] w
             subst hq
             rw [e1]
             first | (simp only [List.length_append, List.length_cons, List.length_nil, acC_push]; exact hw.back) | exact hw.back)
          · first | omega | (simp only []; omega)
          · repeat' (first | exact knows_nil _ | refine knows_cons ?_ ?_)
            all_goals (first | exact rfl | (conv => { lhs; whnf }; simp; done) | (conv => { lhs; whnf }; congr 1; omega))
          · refine ⟨by show y.1 + 1 ≤ l.length; omega, ?_⟩
            show (keepA (l.take (y.1 + 1))).length ≤ q.2
            subst hq
            rw [e1]
            first | (simp only [List.length_append, List.length_cons, List.length_nil]; exact h25) | exact hx.2
       · try (exact absurd c21 (by decide))
         all_goals (revert c21; (first | refine cv2 ?_ | refine cv4 ?_ | refine cv6 ?_ | refine cv8 ?_ | refine cva ?_ | refine cvc ?_ | refine cve ?_ | skip); intro c21)
         all_goals (refine k_skip ?_; refine k_blk ?_; refine k_region ?_; refine j_inc ?_; refine j_move ?_; refine l_nil ?_)
         all_goals
          first
           | (obtain ⟨q, hq⟩ : ∃ q : Option Addr × Nat, q = x25 := ⟨_, rfl⟩; have e1 := keepA_yes (l := l) (k := y.1) (by omega) (by omega))
           | (obtain ⟨q, hq⟩ : ∃ q : Option Addr × Nat, q = y.2 := ⟨_, rfl⟩; have e1 := keepA_no (l := l) (k := y.1) (by omega) (by omega))
          refine k_roundF ((y.1 + 1, q.1, q.2)) ?_ ?_ (by repeat (first | (with_reducible exact Pre.refl) | refine Pre.cons (by exact rfl) ?_)) ?_ (fun w hw => by
             show SF _ [] [(x5, .cells ⟨[.slice q.1 (keepA (l.take (y.1 + 1))).length q.2]⟩ _ (0, 0))] _ [] [⟨q.1, acC (keepA (l.take (y.1 + 1))), q.2, _, 4⟩] w
             subst hq
             rw [e1]
             first | (simp only [List.length_append, List.length_cons, List.length_nil, acC_push]; exact hw.back) | exact hw.back)
          · first | omega | (simp only []; omega)
          · repeat' (first | exact knows_nil _ | refine knows_cons ?_ ?_)
            all_goals (first | exact rfl | (conv => { lhs; whnf }; simp; done) | (conv => { lhs; whnf }; congr 1; omega))
          · refine ⟨by show y.1 + 1 ≤ l.length; omega, ?_⟩
            show (keepA (l.take (y.1 + 1))).length ≤ q.2
            subst hq
            rw [e1]
            first | (simp only [List.length_append, List.length_cons, List.length_nil]; exact h25) | exact hx.2
    · try (exact absurd c11 (by decide))
      all_goals (revert c11; (first | refine cv2 ?_ | refine cv4 ?_ | refine cv6 ?_ | refine cv8 ?_ | refine cva ?_ | refine cvc ?_ | refine cve ?_ | skip); intro c11)
      all_goals (refine k_exit rfl ?_; refine k_seq ?_; refine k_region ?_; refine j_move ?_; (refine l_quiet (o_makeFunc (by (repeat (first | exact evL_nil _ | (apply evL_cons; focus ((conv => { lhs; whnf }); try exact rfl)))); first | done | fail)) rfl ?_); (refine j_own (cFH (V := fun x : Nat × Cd × Fr => .pointer (some ⟨x.1, 0, none⟩)) (Fc := fun x => x.2.2) (Hc := fun x => [(x.1, tO b x.2.1 0)]) (Oc := fun _ => []) (hc := fun w1 hw => tkNew_c (planClo (p := y.2.1) (l := keepA (l.take y.1)) (c := y.2.2) (b5 := x5) hx.2 (by have := keepA_len (l.take y.1); rw [List.length_take] at this; omega)) (by kernel_rfl) (fun z hz => by simp only [List.mem_cons, List.not_mem_nil, or_false] at hz; rcases hz with rfl | rfl; exact Cl.block (pre := []) (rest := []) (T := 94) (fr := (0, 0)) (by simpa using hw.st.at .head) rfl; exact hw.cl (.own .head)))) (fun x29 => ?_); try (refine l_fact (fun h29 => ?_))); refine j_assignL (fun _ => ?_); refine l_nil ?_)
      all_goals
       refine k_rv Try.results55 (fun w hw => ?_)
       have e : keepA (l.take y.1) = keepA l := by rw [List.take_of_length_le (by omega)]
       rw [e] at h29
       refine ⟨(x29.1, x29.2.1, x29.2.2 ++ [(some ⟨x5, 0, none⟩, [.slice y.2.1 (keepA l).length y.2.2]), (y.2.1, acC (keepA l))]), rfl, h29, ?_⟩
       rw [e] at hw
       exact ((hw.freezeB (.tail .head)).freeze .head).ret (List.Sublist.refl _) (FSub.ofSub fun f hf => by
        simp only [List.mem_append, List.mem_cons, List.not_mem_nil, or_false] at hf ⊢
        rcases hf with h1 | h1 | h1
        · exact .inr (.inr h1)
        · exact .inr (.inl h1)
        · exact .inl h1) (List.nil_sublist _)
end Go.Proofs.Ytmogngagpphnhaa
