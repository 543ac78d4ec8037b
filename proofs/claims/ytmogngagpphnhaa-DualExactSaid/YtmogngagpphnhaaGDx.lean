/- The reference of dual: pairs of branches, errors, nodes. -/
import Derived.Test.YtmogngagpphnhaaGDu

set_option linter.unusedSimpArgs false
set_option linter.unusedVariables false
namespace Go.Ct
open Go Go.RowKit
/-- A node is what is to be allocated. -/
structure Match (v : NdV) (a : NI) : Prop where
  xs : v.xs = a.xs
  ys : v.ys = a.ys
  kind : v.nd.kind = a.n.kind
  c : ∀ k, (alV v.nd v.xs v.ys k AX.no).c = a.c k
  fit : v.Fit
  sx : v.xs.length ≤ 1000
  sy : v.ys.length ≤ 1000
inductive MatchL : List NdV → List NI → Prop where
  | nil : MatchL [] []
  | cons {v : NdV} {a : NI} {L : List NdV} {l : List NI} (h : Match v a) (hr : MatchL L l) : MatchL (v :: L) (a :: l)
theorem MatchL.len {L : List NdV} {l : List NI} (h : MatchL L l) : L.length = l.length := by
  induction h with
  | nil => rfl
  | cons _ _ ih => simp [ih]
theorem MatchL.append {L M : List NdV} {l m : List NI} (h : MatchL L l) (h2 : MatchL M m) : MatchL (L ++ M) (l ++ m) := by
  induction h with
  | nil => exact h2
  | cons h _ ih => exact .cons h ih
theorem MatchL.at {L : List NdV} {l : List NI} (h : MatchL L l) {i : Nat} (hi : i < L.length) : ∃ a, l[i]? = some a ∧ Match (L.getD i NdV.zero) a := by
  induction h generalizing i with
  | nil => simp at hi
  | @cons v a L l h _ ih =>
    cases i with
    | zero => exact ⟨a, rfl, h⟩
    | succ i =>
      obtain ⟨b, h1, h2⟩ := ih (i := i) (by simpa using hi)
      exact ⟨b, by simpa using h1, by simpa using h2⟩
theorem MatchL.fits {L : List NdV} {l : List NI} (h : MatchL L l) : Fits L := by
  induction h with
  | nil => exact fun v hv => (List.not_mem_nil hv).elim
  | cons h _ ih =>
    intro v hv
    rcases List.mem_cons.1 hv with rfl | hv
    · exact h.fit
    · exact ih v hv
def initsL (l : List NI) : List Int := l.map NI.init
end Go.Ct
namespace Go.Proofs.Ytmogngagpphnhaa
open Go Go.RowKit Go.Ct
theorem pairR_c {i k : Nat} (hi : i < 64) (hk : k < 64) (hne : i ≠ k) (a b : Int) (w : World) :
    Calls Try.prog 120 #[.int .i64 (i : Int), .int .i64 a, .int .i64 (k : Int), .int .i64 b] w fun e w' => ∃ p : Option Addr, e = .returned (.agg ⟨[.int .i64 3, .int .i64 0, .int .i64 0, .int .u64 ((withI (withI 0 (i : Int)) (k : Int) : Nat) : Int), .slice p 2 2, .int .u64 0, .string ⟨#[]⟩, .int .u64 0, .slice none 0 0, .int .i64 0, .int .i64 0, .int .i64 0, .int .i64 0, .int .i64 0]⟩) ∧ True ∧ SF w [] [] [] [(p, refsC (two i k a b))] [] w' := by
  refine enter Try.func120 Try.ntmps120 rfl rfl (SF.s0 w) ?_
  simp only [mkS]
  all_goals (refine k_seq ?_; refine k_region ?_; refine j_alloc (fun x8 => ?_); refine l_nil ?_; refine k_seq ?_; refine k_region ?_; refine j_move ?_; (refine j_own (cV (hc := fun w1 hw => refWith_c (n := 0) (by decide) (i : Int) w1)) (fun x11 => ?_); try (refine l_fact (fun h11 => ?_))); refine j_move ?_; (refine j_own (cV (hc := fun w1 hw => refWith_c (n := withI 0 (i : Int)) (withI_lt (by decide) _) (k : Int) w1)) (fun x13 => ?_); try (refine l_fact (fun h13 => ?_))); refine j_move ?_; refine j_move ?_; refine j_buildSlice (fun x16 => ?_); refine j_build ?_; refine j_alloc (fun x9 => ?_); refine j_store (fun _ => ?_); refine l_nil ?_; refine k_seq ?_; refine k_seq ?_; refine k_region ?_; refine j_move ?_; refine j_move ?_; refine j_lss ?_; refine l_nil ?_)
  all_goals
   refine k_if (fun c20 => ?_) (fun c20 => ?_)
   · try (exact absurd c20 (by decide))
     all_goals (revert c20; (first | refine cv1 ?_ | refine cv3 ?_ | refine cv5 ?_ | refine cv7 ?_ | refine cv9 ?_ | refine cvb ?_ | refine cvd ?_ | skip); intro c20)
     all_goals (refine k_region ?_; refine j_move ?_; refine j_move ?_; refine j_buildSlice (fun x23 => ?_); refine j_fieldAddr ?_; refine j_store (fun _ => ?_); refine l_nil ?_; refine k_seq ?_; refine k_region ?_; refine j_load ?_; refine j_store (fun _ => ?_); refine l_nil ?_)
     all_goals
      refine k_retvF Try.results120 (.cell (by exact rfl) (by repeat (first | exact At.head | apply At.tail)) (by exact agg_of rfl) .nil) (fun w hw => ?_)
      first
       | exact ⟨some ⟨x23, 0, none⟩, rfl, trivial, by rw [show two i k a b = [b, a] from if_neg (by omega)]; exact hw.ret (List.nil_sublist _) (FSub.ofSub fun f hf => by rw [List.mem_singleton.1 hf]; exact .head _) (List.Sublist.refl _)⟩
       | exact ⟨some ⟨x16, 0, none⟩, rfl, trivial, by rw [show two i k a b = [a, b] from if_pos (by omega)]; exact hw.ret (List.nil_sublist _) (FSub.ofSub fun f hf => by rw [List.mem_singleton.1 hf]; exact .head _) (List.Sublist.refl _)⟩
   · try (exact absurd c20 (by decide))
     all_goals (revert c20; (first | refine cv2 ?_ | refine cv4 ?_ | refine cv6 ?_ | refine cv8 ?_ | refine cva ?_ | refine cvc ?_ | refine cve ?_ | skip); intro c20)
     all_goals (refine k_skip ?_; refine k_seq ?_; refine k_region ?_; refine j_load ?_; refine j_store (fun _ => ?_); refine l_nil ?_)
     all_goals
      refine k_retvF Try.results120 (.cell (by exact rfl) (by repeat (first | exact At.head | apply At.tail)) (by exact agg_of rfl) .nil) (fun w hw => ?_)
      first
       | exact ⟨some ⟨x23, 0, none⟩, rfl, trivial, by rw [show two i k a b = [b, a] from if_neg (by omega)]; exact hw.ret (List.nil_sublist _) (FSub.ofSub fun f hf => by rw [List.mem_singleton.1 hf]; exact .head _) (List.Sublist.refl _)⟩
       | exact ⟨some ⟨x16, 0, none⟩, rfl, trivial, by rw [show two i k a b = [a, b] from if_pos (by omega)]; exact hw.ret (List.nil_sublist _) (FSub.ofSub fun f hf => by rw [List.mem_singleton.1 hf]; exact .head _) (List.Sublist.refl _)⟩
end Go.Proofs.Ytmogngagpphnhaa

/- The reference of dual: Nodes. -/
set_option linter.unusedSimpArgs false
set_option linter.unusedVariables false
namespace Go.Ct
open Go Go.RowKit
theorem SF.swapF {w0 w : World} {M : List Nat} {H : List (Nat × Obj)} {A F : Fr} {O : List Ow} {f1 f2 : Option Addr × List Value} (h : SF w0 M H A (f1 :: f2 :: F) O w) : SF w0 M H A (f2 :: f1 :: F) O w := h.subF fun f hf => .inr (by
  simp only [List.mem_cons] at hf ⊢
  rcases hf with h | h | h
  · exact .inr (.inl h)
  · exact .inl h
  · exact .inr (.inr h))
theorem SF.capR2 {w0 w : World} {M : List Nat} {H : List (Nat × Obj)} {A F : Fr} {O : List Ow} {i c : Nat} {p : Option Addr} (h : SF w0 M H A F O w) {l : List Int} {T : TypeId} (ho : OAt O i p (refsC l) c T 1) : l.length ≤ c := by
  rcases (h.own _ ho.mem).1 with ⟨_, h2, _⟩ | ⟨b, rest, _, _, h3⟩
  · have h2' : refsC l = [] := h2
    have : (refsC l).length = 0 := by rw [h2']; rfl
    rw [refsC_length] at this
    omega
  · have h3' : (refsC l ++ rest).length = c * 1 := h3
    rw [List.length_append, refsC_length] at h3'
    omega
end Go.Ct
namespace Go.Proofs.Ytmogngagpphnhaa
open Go Go.RowKit Go.Ct
theorem refOf_r {l : List Pr} {a : Option Addr} {c : Nat} {w : World} (ha : Cl w a (prC l)) (hlen : l.length ≤ 1000000000) :
    Calls Try.prog 119 #[.slice a l.length c] w fun e w' => ∃ x : Option Addr × Nat, e = .returned (.slice x.1 (ofL l).length x.2) ∧ (ofL l).length ≤ x.2 ∧ SF w [] [] [] [(x.1, prC (ofL l))] [] w' := (refOf_c ha hlen).mono fun _ _ h => h
theorem refSliceI_c {h l : Nat} {i : Int} (hi : i = (l : Int)) (hh : h < 18446744073709551616) (hl : l ≤ 10) (w : World) : Calls Try.prog 94 #[.int .u64 (h : Int), .int .i64 i] w fun e w' => e = .returned (.int .i64 ((sl h l : Nat) : Int)) ∧ St w [] [] w' := by
  subst hi
  exact refSlice_c hh hl w
/-- The nodes as they are written. -/
abbrev ndList (h : Nat) (ys : List Pr) (p : Option Addr) (c : Nat) : NdV := ⟨{ Nd.zero with kind := 6, hash := (h : Int), prA := p, prN := ys.length, prC := c }, [], ys⟩
abbrev ndSingle (h : Nat) (k : ByteArray) (u : Int) : NdV := ⟨{ Nd.zero with kind := 4, hash := (h : Int), key := k, val := u }, [], []⟩
abbrev ndInner (gen : Int) : NdV := ⟨{ Nd.zero with kind := 2, gen := gen }, [], []⟩
abbrev ndC (n b : Nat) (xs : List Int) (p : Option Addr) : NdV := ⟨{ Nd.zero with kind := 3, bm := (b : Int), brA := p, brN := n, brC := n }, xs, []⟩
theorem z35 : (0 : Nat) ≤ 35184372088832 := Nat.zero_le _
theorem z11 : (0 : Nat) ≤ 11728124029610 := Nat.zero_le _
theorem mt_list {h : Nat} {ys : List Pr} {p : Option Addr} {c : Nat} (hy : ys.length ≤ 1000) : Match (ndList h ys p c) (niList h ys) := ⟨rfl, rfl, rfl, fun _ => rfl, ⟨rfl, rfl, z35, by show ys.length ≤ _; omega⟩, Nat.zero_le _, hy⟩
theorem mt_single {h : Nat} {k : ByteArray} {u : Int} : Match (ndSingle h k u) (niSingle h k u) := ⟨rfl, rfl, rfl, fun _ => rfl, ⟨rfl, rfl, z35, z11⟩, Nat.zero_le _, Nat.zero_le _⟩
theorem mt_inner {gen m : Int} : Match (ndInner gen) (niInner gen m) := ⟨rfl, rfl, rfl, fun _ => rfl, ⟨rfl, rfl, z35, z11⟩, Nat.zero_le _, Nat.zero_le _⟩
theorem mt_c {n b : Nat} {xs : List Int} {p : Option Addr} (hn : n = xs.length) (hx : xs.length ≤ 1000) : Match (ndC n b xs p) (niC b xs) := ⟨rfl, rfl, rfl, fun _ => rfl, ⟨hn, rfl, by show xs.length ≤ _; omega, z11⟩, hx, Nat.zero_le _⟩
/-- The two lists, as they lie. -/
structure RX where
  L : List NdV
  ini : List Int
  pn : Option Addr
  cn : Nat
  pc : Option Addr
  cc : Nat
structure RXOk (r : RX) (l : List NI) : Prop where
  m : MatchL r.L l
  ini : r.ini = initsL l
theorem RXOk.len {r : RX} {l : List NI} (h : RXOk r l) : r.L.length = l.length ∧ r.ini.length = l.length := ⟨h.m.len, by rw [h.ini]; simp [initsL]⟩
theorem RXOk.push {r : RX} {l : List NI} (h : RXOk r l) {gen m : Int} {n b : Nat} {xs : List Int} {p pn pc : Option Addr} {cn cc : Nat} (hn : n = xs.length) (hx : xs.length ≤ 1000) : RXOk ⟨r.L ++ [ndInner gen, ndC n b xs p], r.ini ++ [m, 0], pn, cn, pc, cc⟩ (l ++ [niInner gen m, niC b xs]) :=
  ⟨h.m.append (.cons mt_inner (.cons (mt_c hn hx) .nil)), by show r.ini ++ _ = _; rw [h.ini]; simp [initsL, niInner, niC]⟩
theorem famF_push2 {L : List NdV} {gen : Int} {b : Nat} {r : Int} {p : Option Addr} {F : Fr} {f : Option Addr × List Value} (hf : f ∈ famF (L ++ [ndInner gen, ndC 1 b [r] p])) (h1 : (p, refsC [r]) ∈ F) (h2 : f ∈ famF L → f ∈ F) : f.2 = [] ∨ f ∈ F := by
  simp only [famF, List.flatMap_append] at hf
  rcases List.mem_append.1 hf with hf | hf
  · exact .inr (h2 hf)
  · simp [NdV.fr] at hf
    rcases hf with rfl | rfl | rfl | rfl
    · exact .inl rfl
    · exact .inl rfl
    · exact .inr h1
    · exact .inl rfl
variable {v : NdV} {at' : Int} {h0 h : Nat} {k : ByteArray} {u gen : Int} {fi lvl : Nat}
abbrev dQ (at' : Int) (h0 h : Nat) (v : NdV) (k : ByteArray) (u gen : Int) (fi : Nat) (n : Nat) : List NI := dN at' h0 h (v.nd.key, v.nd.val) k u gen fi n (com h0 h - n)
theorem dQ_step {n : Nat} (hn : n < com h0 h) : dQ at' h0 h v k u gen fi (n + 1) = dQ at' h0 h v k u gen fi n ++ [niInner gen ((fi - 1 + (dQ at' h0 h v k u gen fi n).length : Nat) : Int), niC (withI 0 (sl h (com h0 h - (n + 1)) : Int)) [((fi + (dQ at' h0 h v k u gen fi n).length : Nat) : Int)]] := by
  have e : com h0 h - (n + 1) + 1 = com h0 h - n := by omega
  unfold dQ
  rw [dN, e]
theorem base_t {x y z : Option Addr} {c a b : Nat} (hc : com h0 h = 11) : RXOk ⟨[ndList h (ofL [(v.nd.key, v.nd.val), (k, u)]) z c], [0], x, a, y, b⟩ (dQ at' h0 h v k u gen fi 0) := by
  have e : dQ at' h0 h v k u gen fi 0 = [niList h (ofL [(v.nd.key, v.nd.val), (k, u)])] := by
    unfold dQ dN
    exact if_pos hc
  rw [e]
  exact ⟨.cons (mt_list (Nat.le_trans (ofL_len _) (by simp))) .nil, rfl⟩
theorem base_f {x y p : Option Addr} {a b : Nat} (hc : com h0 h ≠ 11) : RXOk ⟨[ndSingle h k u, ndC 2 (withI (withI 0 (sl h0 (com h0 h) : Int)) (sl h (com h0 h) : Int)) (two (sl h0 (com h0 h)) (sl h (com h0 h)) at' (fi : Int)) p], [0, 0], x, a, y, b⟩ (dQ at' h0 h v k u gen fi 0) := by
  have e : dQ at' h0 h v k u gen fi 0 = [niSingle h k u, niC (withI (withI 0 (sl h0 (com h0 h) : Int)) (sl h (com h0 h) : Int)) (two (sl h0 (com h0 h)) (sl h (com h0 h)) at' (fi : Int))] := by
    unfold dQ dN
    exact if_neg hc
  rw [e]
  exact ⟨.cons mt_single (.cons (mt_c (by unfold two; split <;> rfl) (by unfold two; split <;> simp)) .nil), rfl⟩
theorem nodesR_c (hv : v.nd.hash = (h0 : Int)) (hh0 : h0 < 18446744073709551616) (hh : h < 18446744073709551616) (hlv : lvl ≤ com h0 h) (hf1 : 1 ≤ fi) (hf2 : fi ≤ 1000) (w : World) :
    Calls Try.prog 97 #[.agg ⟨v.nd.cells⟩, .int .i64 at', .int .u64 (h : Int), .string k, .int .u64 u, .int .i64 (lvl : Int), .int .i64 gen, .int .i64 (fi : Int)] w fun e w' =>
      ∃ d : RX, e = .returned (.tuple #[.slice d.pn d.L.length d.cn, .slice d.pc d.ini.length d.cc]) ∧
      (RXOk d (dN at' h0 h (v.nd.key, v.nd.val) k u gen fi (com h0 h - lvl) lvl) ∧ d.L.length ≤ d.cn ∧ d.ini.length ≤ d.cc) ∧
      SF w [] [] [] ((d.pn, nvC d.L) :: (d.pc, refsC d.ini) :: famF d.L) [] w' := by
  have hcl := com_le h0 h
  refine enter Try.func97 Try.ntmps97 rfl rfl (SF.s0 w) ?_
  simp only [mkS]
  all_goals (refine k_seq ?_; refine k_region ?_; refine j_box (fun x8 => ?_); refine j_assignL (fun _ => ?_); refine j_assignL (fun _ => ?_); refine l_nil ?_; refine k_seq ?_; refine k_region ?_; refine j_fieldAddr ?_; refine j_load ?_; refine j_move ?_; (refine j_own (cV (hc := fun w1 hw => by rw [hv]; exact refCommon_c hh0 hh w1)) (fun x26 => ?_); try (refine l_fact (fun h26 => ?_))); refine j_assignL (fun _ => ?_); refine l_nil ?_; refine k_seq ?_)
  all_goals
   refine k_joinG [16, 17, 18, 19, 27, 28, 29, 30, 31, 32, 33, 34, 35, 36, 37, 38, 39, 40, 41, 42, 43, 44, 45, 46, 47, 48, 49, 50, 51, 52, 53, 54, 55, 56, 57, 58, 59] (fun q : RX => [(16, .slice q.pn q.L.length q.cn), (17, .slice q.pc q.ini.length q.cc), (18, .int .i64 ((com h0 h : Nat) : Int))]) (fun q => RXOk q (dQ at' h0 h v k u gen fi 0) ∧ q.L.length ≤ 2) (fun q => []) (fun q => famF q.L) (fun q => [⟨q.pn, nvC q.L, q.cn, 48, 14⟩, ⟨q.pc, refsC q.ini, q.cc, 39, 1⟩]) (by decide) (fun _ => by exact rfl) ?_ (fun q f hx => ?_)
   · all_goals (refine k_seq ?_)
     all_goals (refine k_region ?_; refine j_move ?_; refine j_geq ?_; refine l_nil ?_)
     all_goals
      refine k_if (fun c28 => ?_) (fun c28 => ?_)
      · try (exact absurd c28 (by decide))
        all_goals (revert c28; (first | refine cv1 ?_ | refine cv3 ?_ | refine cv5 ?_ | refine cv7 ?_ | refine cv9 ?_ | refine cvb ?_ | refine cvd ?_ | skip); intro c28)
        all_goals (refine k_seq ?_; refine k_region ?_; refine j_fieldAddr ?_; refine j_load ?_; refine j_fieldAddr ?_; refine j_load ?_; refine j_build ?_; refine j_move ?_; refine j_move ?_; refine j_build ?_; refine j_buildSlice (fun x37 => ?_); (refine j_own (cF (V := fun x : Option Addr × Nat => .slice x.1 (ofL [(v.nd.key, v.nd.val), (k, u)]).length x.2) (hc := fun w1 hw => refOf_r (l := [(v.nd.key, v.nd.val), (k, u)]) (hw.cl (.new .head)) (by simp))) (fun x38 => ?_); try (refine l_fact (fun h38 => ?_))); refine j_assignL (fun _ => ?_); refine l_nil ?_; refine k_seq ?_; refine k_region ?_; refine j_move ?_; refine j_move ?_; refine j_build ?_; refine j_own (lSFO (c := 1) (sz := 14) rfl (fun _ => o_buildSlice (cs := nvC [ndList h (ofL [(v.nd.key, v.nd.val), (k, u)]) x38.1 x38.2]) elem_node (by repeat (first | exact opParts_nil _ | (apply opParts_cons; (conv => { lhs; whnf })))) rfl rfl rfl rfl rfl)) (fun x42 => ?_); refine j_own (lSFO (c := 1) (sz := 1) rfl (fun _ => o_buildSlice (cs := refsC [0]) elem_ref (by repeat (first | exact opParts_nil _ | (apply opParts_cons; (conv => { lhs; whnf })))) rfl rfl rfl rfl rfl)) (fun x43 => ?_); refine j_assignL (fun _ => ?_); refine j_assignL (fun _ => ?_); refine l_nil ?_; refine k_region ?_; refine j_assignL (fun _ => ?_); refine l_nil ?_)
        all_goals
         refine k_roundF ((⟨[ndList h (ofL [(v.nd.key, v.nd.val), (k, u)]) x38.1 x38.2], [0], some ⟨x42, 0, none⟩, 1, some ⟨x43, 0, none⟩, 1⟩ : RX)) (by decide) ?_ (by repeat (first | (with_reducible exact Pre.refl) | refine Pre.cons (by exact rfl) ?_)) ?_ (fun w hw => (hw.swapO.subF fun f hf => by simp [famF, NdV.fr] at hf; rcases hf with rfl | rfl; exact .inl rfl; exact .inr (.head _)).sub (List.nil_sublist _) FSub.all (List.Sublist.refl _))
         · repeat' (first | exact knows_nil _ | refine knows_cons ?_ ?_)
           all_goals (first | exact rfl | (conv => { lhs; whnf }; simp; done) | (conv => { lhs; whnf }; congr 1; omega))
         · have hne : com h0 h = 11 := by omega
           exact ⟨base_t hne, Nat.le_succ 1⟩
      · try (exact absurd c28 (by decide))
        all_goals (revert c28; (first | refine cv2 ?_ | refine cv4 ?_ | refine cv6 ?_ | refine cv8 ?_ | refine cva ?_ | refine cvc ?_ | refine cve ?_ | skip); intro c28)
        all_goals (refine k_seq ?_; refine k_region ?_; refine j_move ?_; refine j_move ?_; refine j_move ?_; refine j_build ?_; refine j_fieldAddr ?_; refine j_load ?_; refine j_move ?_; (refine j_own (cV (hc := fun w1 hw => by rw [hv]; exact refSlice_c (l := com h0 h) hh0 (by omega) w1)) (fun x51 => ?_); try (refine l_fact (fun h51 => ?_))); refine j_move ?_; refine j_move ?_; refine j_move ?_; (refine j_own (cV (hc := fun w1 hw => refSlice_c (l := com h0 h) hh (by omega) w1)) (fun x55 => ?_); try (refine l_fact (fun h55 => ?_))); refine j_move ?_; (refine j_own (cF (hc := fun w1 hw => pairR_c (sl_lt h0 (com h0 h)) (sl_lt h (com h0 h)) (com_ne (h := h0) (k := h) (by omega)) at' (fi : Int) w1)) (fun x57 => ?_); try (refine l_fact (fun h57 => ?_))); refine j_own (lSFO (c := 2) (sz := 14) rfl (fun _ => o_buildSlice (cs := nvC [ndSingle h k u, ndC 2 (withI (withI 0 (sl h0 (com h0 h) : Int)) (sl h (com h0 h) : Int)) (two (sl h0 (com h0 h)) (sl h (com h0 h)) at' (fi : Int)) x57]) elem_node (by repeat (first | exact opParts_nil _ | (apply opParts_cons; (conv => { lhs; whnf })))) rfl rfl rfl rfl rfl)) (fun x58 => ?_); refine j_assignL (fun _ => ?_); refine l_nil ?_; refine k_region ?_; refine j_own (lSFO (c := 2) (sz := 1) rfl (fun _ => o_buildSlice (cs := refsC [0, 0]) elem_ref (by repeat (first | exact opParts_nil _ | (apply opParts_cons; (conv => { lhs; whnf })))) rfl rfl rfl rfl rfl)) (fun x59 => ?_); refine j_assignL (fun _ => ?_); refine l_nil ?_)
        all_goals
         refine k_roundF ((⟨[ndSingle h k u, ndC 2 (withI (withI 0 (sl h0 (com h0 h) : Int)) (sl h (com h0 h) : Int)) (two (sl h0 (com h0 h)) (sl h (com h0 h)) at' (fi : Int)) x57], [0, 0], some ⟨x58, 0, none⟩, 2, some ⟨x59, 0, none⟩, 2⟩ : RX)) (by decide) ?_ (by repeat (first | (with_reducible exact Pre.refl) | refine Pre.cons (by exact rfl) ?_)) ?_ (fun w hw => (hw.swapO.subF fun f hf => by simp [famF, NdV.fr] at hf; rcases hf with rfl | rfl | rfl | rfl; exact .inl rfl; exact .inl rfl; exact .inr (.head _); exact .inl rfl).sub (List.nil_sublist _) FSub.all (List.Sublist.refl _))
         · repeat' (first | exact knows_nil _ | refine knows_cons ?_ ?_)
           all_goals (first | exact rfl | (conv => { lhs; whnf }; simp; done) | (conv => { lhs; whnf }; congr 1; omega))
         · have hne : com h0 h ≠ 11 := by omega
           exact ⟨base_f hne, Nat.le_refl 2⟩
   dsimp only [mkU, List.map, List.cons_append, List.nil_append]
  all_goals (refine k_seq ?_; refine k_seq ?_; refine k_region ?_; refine j_move ?_; refine j_dec ?_; refine j_assignL (fun _ => ?_); refine l_nil ?_; refine k_block ?_)
  all_goals
   have hq2 := hx.1.len
   refine k_loopF [16, 17, 20, 21, 22, 62, 63, 64, 65, 66, 67, 68, 69, 70, 71, 72, 73, 74, 75, 76, 77, 78, 79, 80, 81, 82, 83, 84, 85, 86, 87, 88, 89] (fun y : Nat × RX => [(16, .slice y.2.pn y.2.L.length y.2.cn), (17, .slice y.2.pc y.2.ini.length y.2.cc), (20, .int .i64 (((com h0 h - y.1 : Nat) : Int) - 1))]) (fun y => y.1 ≤ com h0 h - lvl ∧ RXOk y.2 (dQ at' h0 h v k u gen fi y.1) ∧ y.2.L.length ≤ 2 + 2 * y.1) (fun _ => _) (fun y => famF y.2.L) (fun y => [⟨y.2.pn, nvC y.2.L, y.2.cn, 48, 14⟩, ⟨y.2.pc, refsC y.2.ini, y.2.cc, 39, 1⟩]) (fun y => com h0 h - lvl - y.1) ((0, q)) (by decide) (fun _ => by exact rfl) ?_ (⟨Nat.zero_le _, hx⟩) (fun w hw => hw.sub (List.Sublist.refl _) FSub.all (List.Sublist.refl _)) (fun y f hx => ?_)
   · repeat (first | exact knows_nil _ | refine knows_cons (by first | exact rfl | (conv => { lhs; whnf }; simp; done)) ?_)
   dsimp only [mkU, List.map, List.cons_append, List.nil_append]
   obtain ⟨hy1, hy2, hy3⟩ := hx
   obtain ⟨hy4, hy5⟩ := hy2.len
   all_goals (refine k_seq ?_; refine k_seq ?_; refine k_region ?_; refine j_move ?_; refine j_move ?_; refine j_geq ?_; refine l_nil ?_)
   all_goals
    refine k_if (fun c64 => ?_) (fun c64 => ?_)
    · try (exact absurd c64 (by decide))
      all_goals (revert c64; (first | refine cv1 ?_ | refine cv3 ?_ | refine cv5 ?_ | refine cv7 ?_ | refine cv9 ?_ | refine cvb ?_ | refine cvd ?_ | skip); intro c64)
      all_goals
       obtain ⟨lv, elv⟩ : ∃ lv : Nat, com h0 h - (y.1 + 1) = lv := ⟨_, rfl⟩
       have elv2 : (((com h0 h - y.1 : Nat) : Int) - 1) = (lv : Int) := by omega
       have hlv2 : lv ≤ 10 := by omega
      all_goals (refine k_skip ?_; refine k_seq ?_; refine k_block ?_; refine k_seq ?_; refine k_region ?_; refine j_move ?_; refine j_move ?_; refine j_len ?_; refine l_quiet (o_addN (by exact rfl) (by exact rfl) (by omega)) rfl ?_; refine l_quiet (o_subN (n := 1) (by exact rfl) (by exact rfl) (by omega) (by omega)) rfl ?_; refine j_assignL (fun _ => ?_); refine l_nil ?_; refine k_seq ?_; refine k_region ?_; refine j_move ?_; refine j_move ?_; (refine j_own (cV (hc := fun w1 hw => refSliceI_c elv2 hh hlv2 w1)) (fun x74 => ?_); try (refine l_fact (fun h74 => ?_))); refine j_assignL (fun _ => ?_); refine l_nil ?_; refine k_seq ?_; refine k_region ?_; refine j_move ?_; refine j_move ?_; refine j_build ?_; refine j_move ?_; (refine j_own (cV (hc := fun w1 hw => refWith_c (n := 0) (by decide) (sl h lv : Int) w1)) (fun x79 => ?_); try (refine l_fact (fun h79 => ?_))); refine j_move ?_; refine l_quiet (o_addN (n := 1) (by exact rfl) (by exact rfl) (by omega)) rfl ?_; refine j_own (lSFF (fun _ => o_buildSlice (cs := refsC [((fi + y.2.L.length - 1 + 1 : Nat) : Int)]) elem_ref (by repeat (first | exact opParts_nil _ | (apply opParts_cons; (conv => { lhs; whnf })))) rfl rfl rfl rfl rfl)) (fun x82 => ?_); refine j_build ?_; refine j_own (lSFF (fun _ => o_buildSlice (cs := nvC [ndInner gen, ndC 1 (withI 0 (sl h lv : Int)) [((fi + y.2.L.length - 1 + 1 : Nat) : Int)] (some ⟨x82, 0, none⟩)]) elem_node (by repeat (first | exact opParts_nil _ | (apply opParts_cons; (conv => { lhs; whnf })))) rfl rfl rfl rfl rfl)) (fun x84 => ?_); (refine j_own (Loud.convOF (o_appV (k := 2) (L2 := [ndInner gen, ndC 1 (withI 0 (sl h lv : Int)) [((fi + y.2.L.length - 1 + 1 : Nat) : Int)] (some ⟨x82, 0, none⟩)]) (by exact rfl) (by exact rfl) (by repeat (first | exact OAt.head | apply OAt.tail)) rfl (by first | exact .new .head | exact .new (.tail .head) | exact .new (.tail (.tail .head)) | exact .new (.tail (.tail (.tail .head))) | exact .new (.tail (.tail (.tail (.tail .head)))) | exact .new (.tail (.tail (.tail (.tail (.tail .head))))) | exact .new (.tail (.tail (.tail (.tail (.tail (.tail .head)))))) | exact .new (.tail (.tail (.tail (.tail (.tail (.tail (.tail .head))))))) | exact .new (.tail (.tail (.tail (.tail (.tail (.tail (.tail (.tail .head)))))))) | exact .new (.tail (.tail (.tail (.tail (.tail (.tail (.tail (.tail (.tail .head))))))))) | exact .old .head | exact .old (.tail .head) | exact .old (.tail (.tail .head)) | exact .old (.tail (.tail (.tail .head))) | exact .old (.tail (.tail (.tail (.tail .head)))) | exact .old (.tail (.tail (.tail (.tail (.tail .head))))) | exact .own .head | exact .own (.tail .head) | exact .own (.tail (.tail .head)) | exact .own (.tail (.tail (.tail .head))) | exact .own (.tail (.tail (.tail (.tail .head)))) | exact .own (.tail (.tail (.tail (.tail (.tail .head))))) | exact .own (.tail (.tail (.tail (.tail (.tail (.tail .head)))))) | exact .own (.tail (.tail (.tail (.tail (.tail (.tail (.tail .head)))))))) rfl (by exact elem_nodeT rfl) rfl (by exact sl_of rfl) (by omega)) (by intro x; simp only [setO]; exact rfl)) (fun x85 => ?_); try (refine l_fact (fun h85 => ?_))); refine j_assignL (fun _ => ?_); refine l_nil ?_; refine k_region ?_; refine j_move ?_; refine j_move ?_; refine j_own (lSFF (fun _ => o_buildSlice (cs := refsC [((fi + y.2.L.length - 1 : Nat) : Int), 0]) elem_ref (by repeat (first | exact opParts_nil _ | (apply opParts_cons; (conv => { lhs; whnf })))) rfl rfl rfl rfl rfl)) (fun x88 => ?_); (refine j_own (Loud.convOF (o_appR (k := 2) (l2 := [((fi + y.2.L.length - 1 : Nat) : Int), 0]) (by exact rfl) (by exact rfl) (by repeat (first | exact OAt.head | apply OAt.tail)) rfl (by first | exact .new .head | exact .new (.tail .head) | exact .new (.tail (.tail .head)) | exact .new (.tail (.tail (.tail .head))) | exact .new (.tail (.tail (.tail (.tail .head)))) | exact .new (.tail (.tail (.tail (.tail (.tail .head))))) | exact .new (.tail (.tail (.tail (.tail (.tail (.tail .head)))))) | exact .new (.tail (.tail (.tail (.tail (.tail (.tail (.tail .head))))))) | exact .new (.tail (.tail (.tail (.tail (.tail (.tail (.tail (.tail .head)))))))) | exact .new (.tail (.tail (.tail (.tail (.tail (.tail (.tail (.tail (.tail .head))))))))) | exact .old .head | exact .old (.tail .head) | exact .old (.tail (.tail .head)) | exact .old (.tail (.tail (.tail .head))) | exact .old (.tail (.tail (.tail (.tail .head)))) | exact .old (.tail (.tail (.tail (.tail (.tail .head))))) | exact .own .head | exact .own (.tail .head) | exact .own (.tail (.tail .head)) | exact .own (.tail (.tail (.tail .head))) | exact .own (.tail (.tail (.tail (.tail .head)))) | exact .own (.tail (.tail (.tail (.tail (.tail .head))))) | exact .own (.tail (.tail (.tail (.tail (.tail (.tail .head)))))) | exact .own (.tail (.tail (.tail (.tail (.tail (.tail (.tail .head)))))))) rfl (by first | exact elem_intT rfl | exact elem_refT rfl) (by exact sl_of rfl) (by omega)) (by intro x; simp only [setO]; exact rfl)) (fun x89 => ?_); try (refine l_fact (fun h89 => ?_))); refine j_assignL (fun _ => ?_); refine l_nil ?_; refine k_blk ?_; refine k_region ?_; refine j_move ?_; refine j_dec ?_; refine j_assignL (fun _ => ?_); refine l_nil ?_)
      all_goals
       refine k_roundF ((y.1 + 1, (⟨y.2.L ++ [ndInner gen, ndC 1 (withI 0 (sl h lv : Int)) [((fi + y.2.L.length - 1 + 1 : Nat) : Int)] (some ⟨x82, 0, none⟩)], y.2.ini ++ [((fi + y.2.L.length - 1 : Nat) : Int), 0], x85.1, x85.2, x89.1, x89.2⟩ : RX))) ?_ ?_ (by repeat (first | (with_reducible exact Pre.refl) | refine Pre.cons (by exact rfl) ?_)) ?_ (fun w hw => hw.subF fun f hf => famF_push2 hf (.tail _ (.tail _ (.head _))) (fun hf => .tail _ (.tail _ (.tail _ hf))))
       · first | omega | (simp only []; omega)
       · repeat' (first | exact knows_nil _ | refine knows_cons ?_ ?_)
         all_goals (first | exact rfl | (conv => { lhs; whnf }; simp; done) | (conv => { lhs; whnf }; congr 1; omega))
       · refine ⟨by omega, ?_, by simp only [List.length_append, List.length_cons, List.length_nil]; omega⟩
         have e1 : dQ at' h0 h v k u gen fi (y.1 + 1) = dQ at' h0 h v k u gen fi y.1 ++ [niInner gen ((fi + y.2.L.length - 1 : Nat) : Int), niC (withI 0 (sl h lv : Int)) [((fi + y.2.L.length - 1 + 1 : Nat) : Int)]] := by
          rw [dQ_step (by omega), elv, ← hy4, show fi - 1 + y.2.L.length = fi + y.2.L.length - 1 by omega, show fi + y.2.L.length - 1 + 1 = fi + y.2.L.length by omega]
         rw [e1]
         exact hy2.push rfl (by simp)
    · try (exact absurd c64 (by decide))
      all_goals (revert c64; (first | refine cv2 ?_ | refine cv4 ?_ | refine cv6 ?_ | refine cv8 ?_ | refine cva ?_ | refine cvc ?_ | refine cve ?_ | skip); intro c64)
      all_goals
       have en : y.1 = com h0 h - lvl := by omega
       have elv : com h0 h - y.1 = lvl := by omega
      all_goals (refine k_exit rfl ?_; refine k_seq ?_; refine k_region ?_; refine j_move ?_; refine j_move ?_; refine j_assignL (fun _ => ?_); refine j_assignL (fun _ => ?_); refine l_nil ?_)
      all_goals
       refine k_retvF Try.results97 (.tmp (by conv => { lhs; whnf }) (.tmp (by conv => { lhs; whnf }) .nil)) (fun w hw => ?_)
       refine ⟨y.2, rfl, ⟨?_, ?_, ?_⟩, ?_⟩
       · rw [← en]
         have := hy2
         unfold dQ at this
         rw [elv] at this
         exact this
       · exact hw.capV .head
       · exact hw.capR2 (.tail .head)
       · exact ((hw.freeze .head).freeze .head).swapF.ret (List.nil_sublist _) FSub.all (List.nil_sublist _)
end Go.Proofs.Ytmogngagpphnhaa

/- The reference of dual: the error, Build. -/
set_option linter.unusedSimpArgs false
set_option linter.unusedVariables false
namespace Go.Proofs.Ytmogngagpphnhaa
open Go Go.RowKit Go.Ct
def errI (v : NdV) (h0 h : Nat) (k : ByteArray) (lvl gen : Int) : Int := if lvl < 0 then 2 else errB v h0 h k lvl.toNat gen
variable {v : NdV} {h0 h : Nat} {k : ByteArray} {lvl gen : Int}
theorem errI_rng (h1 : lvl < 0 ∨ 11 < lvl ∨ gen < 1) : errI v h0 h k lvl gen = 2 := by
  unfold errI errB
  split
  · rfl
  · rw [if_pos (by omega)]
theorem errI_inv (h1 : ¬ (lvl < 0 ∨ 11 < lvl ∨ gen < 1)) (h2 : v.nd.kind ≠ 4 ∨ 64 < k.size ∨ k = v.nd.key ∨ (com h0 h : Int) < lvl) : errI v h0 h k lvl gen = 1 := by
  unfold errI errB
  rw [if_neg (by omega), if_neg (by omega)]
  refine if_pos ?_
  rcases h2 with h2 | h2 | h2 | h2
  · exact .inl h2
  · exact .inr (.inl h2)
  · exact .inr (.inr (.inl h2))
  · exact .inr (.inr (.inr (by omega)))
theorem errI_ok (h1 : ¬ (lvl < 0 ∨ 11 < lvl ∨ gen < 1)) (h2 : v.nd.kind = 4) (h3 : k.size ≤ 64) (h4 : k ≠ v.nd.key) (h5 : lvl ≤ (com h0 h : Int)) : errI v h0 h k lvl gen = 0 := by
  unfold errI errB
  rw [if_neg (by omega), if_neg (by omega)]
  refine if_neg ?_
  rintro (h | h | h | h)
  · exact h h2
  · omega
  · exact h4 h
  · omega
theorem errI_nat (n : Nat) : errI v h0 h k (n : Int) gen = errB v h0 h k n gen := by
  unfold errI
  rw [if_neg (by omega), Int.toNat_natCast]
variable {bm : Nat} {L : List NdV} {cs : List Int} {g acc : Int} {pn pc : Option Addr} {kn kc : Nat} {x u : Int}
theorem refErrI_c {D : List Nat} {A : Fr} {w : World} (hs : SF w D [(bm, mO L cs g acc pn kn pc kc)] A [] (mW L cs pn kn pc kc) w) (hl : L.length ≤ 700) (hxm : x ≤ 9223372036854775807) (hnv : nodeV L x = v) (hv : v.nd.kind = 4 → v.nd.hash = (h0 : Int)) (hh0 : h0 < 18446744073709551616) (hh : h < 18446744073709551616) :
    Calls Try.prog 66 #[.pointer (some ⟨bm, 0, none⟩), .int .i64 x, .int .u64 (h : Int), .string k, .int .i64 lvl, .int .i64 gen] w fun e w' => ∃ q : Unit, e = .returned (.int .i64 (errI v h0 h k lvl gen)) ∧ True ∧ SF w D [(bm, mO L cs g acc pn kn pc kc)] [] [] (mW L cs pn kn pc kc) w' := by
  subst hnv
  refine enter Try.func66 Try.ntmps66 rfl rfl (mOpen hs) ?_
  simp only [mkS]
  all_goals (refine k_seq ?_; refine k_region ?_; refine j_assignL (fun _ => ?_); refine l_nil ?_; refine k_seq ?_; refine k_seq ?_; refine k_region ?_; refine j_move ?_; refine j_lss ?_; refine j_move ?_)
  all_goals (first | refine j_un ?_ | (refine j_yes ?_; refine j_move ?_) | (refine l_case (g := 16) (by exact rfl) (fun g16 => ?_) (fun g16 => ?_) <;> (revert g16; (first | refine cv1 ?_ | refine cv2 ?_ | refine cvb ?_ | refine cvc ?_ | refine cv9 ?_ | refine cva ?_ | refine cv7 ?_ | refine cv8 ?_ | refine cvd ?_ | refine cve ?_ | skip); intro g16) <;> (try (exfalso; omega)) <;> (first | refine j_un ?_ | (refine j_yes ?_; refine j_move ?_))))
  all_goals ((first | refine j_un ?_ | (refine j_yes ?_; refine j_gtr ?_)); refine j_pick ?_; refine j_move ?_)
  all_goals (first | refine j_un ?_ | (refine j_yes ?_; refine j_move ?_) | (refine l_case (g := 20) (by exact rfl) (fun g20 => ?_) (fun g20 => ?_) <;> (revert g20; (first | refine cv1 ?_ | refine cv2 ?_ | refine cvb ?_ | refine cvc ?_ | refine cv9 ?_ | refine cva ?_ | refine cv7 ?_ | refine cv8 ?_ | refine cvd ?_ | refine cve ?_ | skip); intro g20) <;> (try (exfalso; omega)) <;> (first | refine j_un ?_ | (refine j_yes ?_; refine j_move ?_))))
  all_goals ((first | refine j_un ?_ | (refine j_yes ?_; refine j_lss ?_)); refine j_pick ?_; refine l_nil ?_)
  all_goals
   refine k_if (fun c23 => ?_) (fun c23 => ?_)
   · try (exact absurd c23 (by decide))
     all_goals (revert c23; (first | refine cv1 ?_ | refine cv3 ?_ | refine cv5 ?_ | refine cv7 ?_ | refine cv9 ?_ | refine cvb ?_ | refine cvd ?_ | skip); intro c23)
     all_goals try (exfalso; omega)
     all_goals (refine k_seq ?_; refine k_region ?_; refine j_assignL (fun _ => ?_); refine l_nil ?_)
     all_goals
      refine k_rv Try.results66 (fun w hw => ?_)
      exact ⟨(), by rw [errI_rng (by omega)]; rfl, trivial, hw.ret (by repeat (first | exact List.Sublist.refl _ | apply List.Sublist.cons)) (FSub.ofSub fun f hf => (List.not_mem_nil hf).elim) (by repeat (first | exact List.Sublist.refl _ | apply List.Sublist.cons))⟩
   · try (exact absurd c23 (by decide))
     all_goals (revert c23; (first | refine cv2 ?_ | refine cv4 ?_ | refine cv6 ?_ | refine cv8 ?_ | refine cva ?_ | refine cvc ?_ | refine cve ?_ | skip); intro c23)
     all_goals try (exfalso; omega)
     all_goals (refine k_skip ?_; refine k_seq ?_; refine k_region ?_; refine j_move ?_; refine j_move ?_; (refine j_own (cM (hc := fun w hs => mNode_c (L := L) (cs := cs) hs x hxm (by omega))) (fun x26 => ?_); try (refine l_fact (fun h26 => ?_))); refine j_alloc (fun x13 => ?_); refine j_store (fun _ => ?_); refine l_nil ?_; refine k_seq ?_; refine k_seq ?_; refine k_region ?_; refine j_fieldAddr ?_; refine j_load ?_; refine j_neq ?_; refine j_move ?_)
     all_goals (first | refine j_un ?_ | (refine j_yes ?_; refine j_move ?_) | (refine l_case (g := 30) (by exact rfl) (fun g30 => ?_) (fun g30 => ?_) <;> (revert g30; (first | refine cv1 ?_ | refine cv2 ?_ | refine cvb ?_ | refine cvc ?_ | refine cv9 ?_ | refine cva ?_ | refine cv7 ?_ | refine cv8 ?_ | refine cvd ?_ | refine cve ?_ | skip); intro g30) <;> (try (exfalso; omega)) <;> (first | refine j_un ?_ | (refine j_yes ?_; refine j_move ?_))))
     all_goals ((first | refine j_un ?_ | (refine j_yes ?_; refine j_lenStr ?_)); (first | refine j_un ?_ | (refine j_yes ?_; refine j_gtr ?_)); refine j_pick ?_; refine j_move ?_)
     all_goals (first | refine j_un ?_ | (refine j_yes ?_; refine j_fieldAddr ?_) | (refine l_case (g := 35) (by exact rfl) (fun g35 => ?_) (fun g35 => ?_) <;> (revert g35; (first | refine cv1 ?_ | refine cv2 ?_ | refine cvb ?_ | refine cvc ?_ | refine cv9 ?_ | refine cva ?_ | refine cv7 ?_ | refine cv8 ?_ | refine cvd ?_ | refine cve ?_ | skip); intro g35) <;> (try (exfalso; omega)) <;> (first | refine j_un ?_ | (refine j_yes ?_; refine j_fieldAddr ?_))))
     all_goals ((first | refine j_un ?_ | (refine j_yes ?_; refine j_load ?_)); (first | refine j_un ?_ | (refine j_yes ?_; refine j_move ?_)); (first | refine j_un ?_ | (refine j_yes ?_; refine j_seq ?_)); refine j_pick ?_; refine j_move ?_)
     all_goals (first | refine j_un ?_ | (refine j_yes ?_; refine j_fieldAddr ?_) | (refine l_case (g := 41) (by exact rfl) (fun g41 => ?_) (fun g41 => ?_) <;> (revert g41; (first | refine cv1 ?_ | refine cv2 ?_ | refine cvb ?_ | refine cvc ?_ | refine cv9 ?_ | refine cva ?_ | refine cv7 ?_ | refine cv8 ?_ | refine cvd ?_ | refine cve ?_ | skip); intro g41) <;> (try (exfalso; omega)) <;> (first | refine j_un ?_ | (refine j_yes ?_; refine j_fieldAddr ?_))))
     all_goals ((first | refine j_un ?_ | (refine j_yes ?_; refine j_load ?_)); (first | refine j_un ?_ | (refine j_yes ?_; refine j_move ?_)); ((first | refine j_un ?_ | (refine j_yes ?_; (refine j_own (cV (hc := fun w1 hw => by rw [hv (by omega)]; exact refCommon_c hh0 hh w1)) (fun x45 => ?_); try (refine l_fact (fun h45 => ?_)))))); (first | refine j_un ?_ | (refine j_yes ?_; refine j_move ?_)); (first | refine j_un ?_ | (refine j_yes ?_; refine j_lss ?_)); refine j_pick ?_; refine l_nil ?_)
     all_goals
      refine k_if (fun c48 => ?_) (fun c48 => ?_)
      · try (exact absurd c48 (by decide))
        all_goals (revert c48; (first | refine cv1 ?_ | refine cv3 ?_ | refine cv5 ?_ | refine cv7 ?_ | refine cv9 ?_ | refine cvb ?_ | refine cvd ?_ | skip); intro c48)
        all_goals try (exfalso; omega)
        all_goals (refine k_seq ?_; refine k_region ?_; refine j_assignL (fun _ => ?_); refine l_nil ?_)
        all_goals
         refine k_rv Try.results66 (fun w hw => ?_)
         exact ⟨(), by rw [errI_inv (by omega) (by first | exact .inl g30 | exact .inr (.inl (by omega)) | exact .inr (.inr (.inl g41.symm)) | exact .inr (.inr (.inr c48)))]; rfl, trivial, hw.ret (by repeat (first | exact List.Sublist.refl _ | apply List.Sublist.cons)) (FSub.ofSub fun f hf => (List.not_mem_nil hf).elim) (by repeat (first | exact List.Sublist.refl _ | apply List.Sublist.cons))⟩
      · try (exact absurd c48 (by decide))
        all_goals (revert c48; (first | refine cv2 ?_ | refine cv4 ?_ | refine cv6 ?_ | refine cv8 ?_ | refine cva ?_ | refine cvc ?_ | refine cve ?_ | skip); intro c48)
        all_goals try (exfalso; omega)
        all_goals (refine k_skip ?_; refine k_seq ?_; refine k_region ?_; refine j_assignL (fun _ => ?_); refine l_nil ?_)
        all_goals
         refine k_rv Try.results66 (fun w hw => ?_)
         exact ⟨(), by rw [errI_ok (by omega) (by omega) (by omega) (fun e => g41 e.symm) (by omega)]; rfl, trivial, hw.ret (by repeat (first | exact List.Sublist.refl _ | apply List.Sublist.cons)) (FSub.ofSub fun f hf => (List.not_mem_nil hf).elim) (by repeat (first | exact List.Sublist.refl _ | apply List.Sublist.cons))⟩
theorem refBuildE_c {D : List Nat} {A : Fr} {w : World} {e0 : Int} (hs : SF w D [(bm, mO L cs g acc pn kn pc kc)] A [] (mW L cs pn kn pc kc) w) (hl : L.length ≤ 700) (hxm : x ≤ 9223372036854775807) (hnv : nodeV L x = v) (hv : v.nd.kind = 4 → v.nd.hash = (h0 : Int)) (hh0 : h0 < 18446744073709551616) (hh : h < 18446744073709551616) (he : errI v h0 h k lvl gen = e0) (hne : e0 ≠ 0) :
    Calls Try.prog 64 #[.pointer (some ⟨bm, 0, none⟩), .int .i64 x, .int .u64 (h : Int), .string k, .int .u64 u, .int .i64 lvl, .int .i64 gen] w fun e w' => ∃ q : Unit, e = .returned (.tuple #[.int .i64 0, .int .i64 e0]) ∧ True ∧ SF w D [(bm, mO L cs g acc pn kn pc kc)] [] [] (mW L cs pn kn pc kc) w' := by
  subst he
  refine enter Try.func64 Try.ntmps64 rfl rfl hs ?_
  simp only [mkS]
  all_goals (refine k_seq ?_; refine k_region ?_; refine j_assignL (fun _ => ?_); refine j_assignL (fun _ => ?_); refine l_nil ?_; refine k_seq ?_; refine k_seq ?_; refine k_region ?_; refine j_move ?_; refine j_move ?_; refine j_move ?_; refine j_move ?_; refine j_move ?_; refine j_move ?_; (refine j_own (cM (hc := fun w hs => refErrI_c hs hl hxm hnv hv hh0 hh)) (fun x27 => ?_); try (refine l_fact (fun h27 => ?_))); refine j_assignL (fun _ => ?_); refine l_nil ?_; refine k_seq ?_; refine k_region ?_; refine j_move ?_; refine j_neq ?_; refine l_nil ?_)
  all_goals
   refine k_if (fun c29 => ?_) (fun c29 => ?_)
   · try (exact absurd c29 (by decide))
     all_goals (revert c29; (first | refine cv1 ?_ | refine cv3 ?_ | refine cv5 ?_ | refine cv7 ?_ | refine cv9 ?_ | refine cvb ?_ | refine cvd ?_ | skip); intro c29)
     all_goals (refine k_seq ?_; refine k_region ?_; refine j_move ?_; refine j_assignL (fun _ => ?_); refine j_assignL (fun _ => ?_); refine l_nil ?_)
     all_goals
      refine k_retvF Try.results64 (.tmp (by conv => { lhs; whnf }) (.tmp (by conv => { lhs; whnf }) .nil)) (fun w hw => ?_)
      exact ⟨(), rfl, trivial, hw.ret (List.Sublist.refl _) (FSub.ofSub fun f hf => (List.not_mem_nil hf).elim) (List.Sublist.refl _)⟩
   · try (exact absurd c29 (by decide))
     all_goals (revert c29; (first | refine cv2 ?_ | refine cv4 ?_ | refine cv6 ?_ | refine cv8 ?_ | refine cva ?_ | refine cvc ?_ | refine cve ?_ | skip); intro c29)
     all_goals
      exact absurd c29 hne
     all_goals (refine k_skip ?_; refine k_seq ?_; refine k_drawF (.one 0 [] (.one 1 [] (.one 3 [] (.one 4 [] (.one 5 [] (.one 6 [] (.one 7 [] (.one 8 [] (.one 9 [] (.one 10 [] (.one 11 [] (.one 12 [] (.one 13 [] (.one 14 [] (.one 15 [] (.one 2 [13] (.one 16 [] (.one 17 [] (.one 18 [] (.one 19 [] (.one 20 [] (.one 21 [] .nil)))))))))))))))))))))) ?_; refine r_move (i := 0) ?_; refine r_move (i := 1) ?_; refine r_move (i := 3) ?_; refine r_move (i := 4) ?_; refine r_move (i := 5) ?_; refine r_move (i := 6) ?_; refine r_move (i := 7) ?_; refine r_move (i := 8) ?_; refine r_move (i := 9) ?_; refine r_nilCheck (i := 10) ?_; refine r_fieldAddr (i := 11) ?_; refine r_fieldAddr (i := 12) ?_; refine r_load (i := 13) ?_; refine r_len (i := 14) ?_; refine r_inc (i := 15) ?_; ((refine r_own (i := 2) (hq := (NO)) (hfire := (fun _ => by first | (refine FireAll.cons (by first | exact a_load | exact a_un) ?_; exact FireAll.nil) | (refine fireall_fact ?_; refine FireAll.cons (by first | exact a_load | exact a_un) ?_; exact FireAll.nil))) (h := fun x34 => ?_); try (refine r_fact (fun h34 => ?_)))); ((refine r_own (i := 16) (hq := (NO)) (hfire := (fun _ => .nil)) (h := fun x48 => ?_); try (refine r_fact (fun h48 => ?_)))); refine r_move (i := 17) ?_; refine r_extract (i := 18) ?_; refine r_extract (i := 19) ?_; refine r_assignL (i := 20) (hfire := (fun _ => .nil)) (h := fun _ => ?_); refine r_assignL (i := 21) (hfire := (fun _ => .nil)) (h := fun _ => ?_); refine r_fin ?_; refine k_seq ?_; refine k_region ?_; refine j_assignL (fun _ => ?_); refine l_nil ?_; refine k_seq ?_; refine k_seq ?_; refine k_region ?_; refine j_assignL (fun _ => ?_); refine l_nil ?_; refine k_block ?_)
     all_goals
      refine k_loopC [19, 20, 51, 52, 53, 54, 55, 56, 57, 58, 59, 60, 61, 62, 63, 64, 65, 66] (fun y : Nat => []) (fun y => True) (fun y => 0) (0) (trivial) ?_ (fun k f hx => ?_)
      · repeat (first | exact knows_nil _ | refine knows_cons (by first | exact rfl | (conv => { lhs; whnf }; simp; done)) ?_)
      dsimp only [mkU, List.map, List.cons_append, List.nil_append]
      all_goals (refine k_seq ?_; refine k_seq ?_; refine k_region ?_; refine j_move ?_; refine j_move ?_; refine j_len ?_; refine j_lss ?_; refine l_nil ?_)
      all_goals
       refine k_if (fun c54 => ?_) (fun c54 => ?_)
       · try (exact absurd c54 (by decide))
         all_goals (revert c54; (first | refine cv1 ?_ | refine cv3 ?_ | refine cv5 ?_ | refine cv7 ?_ | refine cv9 ?_ | refine cvb ?_ | refine cvd ?_ | skip); intro c54)
         all_goals (refine k_skip ?_; refine k_seq ?_; refine k_block ?_; refine k_drawF (.one 0 [] (.one 1 [] (.one 2 [] (.one 3 [] (.one 4 [] (.one 5 [] (.one 6 [] (.one 7 [] (.one 8 [] (.one 9 [] (.one 10 [] .nil))))))))))) ?_; refine r_move (i := 0) ?_; refine r_move (i := 1) ?_; refine r_move (i := 2) ?_; refine r_indexAddr (i := 3) ?_; refine r_load (i := 4) ?_; refine r_move (i := 5) ?_; refine r_move (i := 6) ?_; refine r_indexAddr (i := 7) ?_; refine r_load (i := 8) ?_; ((refine r_own (i := 9) (hq := (NO)) (hfire := (fun _ => .nil)) (h := fun x66 => ?_); try (refine r_fact (fun h66 => ?_)))); refine r_assignL (i := 10) (hfire := (fun _ => .nil)) (h := fun _ => ?_); refine r_fin ?_; refine k_blk ?_; refine k_region ?_; refine j_move ?_; refine j_inc ?_; refine j_assignL (fun _ => ?_); refine l_nil ?_)
         all_goals
          refine k_roundC (0) ?_ ?_ ?_
          · first | omega | (simp only []; omega)
          · repeat' (first | exact knows_nil _ | refine knows_cons ?_ ?_)
            all_goals (first | exact rfl | (conv => { lhs; whnf }; simp; done) | (conv => { lhs; whnf }; congr 1; omega))
          · trivial
       · try (exact absurd c54 (by decide))
         all_goals (revert c54; (first | refine cv2 ?_ | refine cv4 ?_ | refine cv6 ?_ | refine cv8 ?_ | refine cva ?_ | refine cvc ?_ | refine cve ?_ | skip); intro c54)
         all_goals (refine k_exit rfl ?_; refine k_seq ?_; refine k_region ?_; refine j_move ?_; refine j_assignL (fun _ => ?_); refine j_assignL (fun _ => ?_); refine l_nil ?_)
         all_goals
          refine k_retvF Try.results64 (.tmp (by conv => { lhs; whnf }) (.tmp (by conv => { lhs; whnf }) .nil)) (fun w hw => ?_)
          exact ⟨(), rfl, trivial, hw.ret (List.Sublist.refl _) (FSub.ofSub fun f hf => (List.not_mem_nil hf).elim) (List.Sublist.refl _)⟩
def rI (n i : Nat) : Nat := if i = 0 then 0 else n + i
/-- What Build has allocated. -/
structure BX where
  i : Nat
  LM : List NdV
  M : List NdV
  C : List Int
  r : Nat
  pn : Option Addr
  cn : Nat
  pc : Option Addr
  cc : Nat
structure BXOk (y : BX) (L : List NdV) (cs : List Int) (l : List NI) : Prop where
  LM : y.LM = L ++ y.M
  C : y.C = allCs (l.take y.i) cs
  M : y.M.map NdV.c = alls (l.take y.i) cs.length
  fit : Fits y.M
  r : y.r = rI L.length y.i
  i : y.i ≤ l.length
theorem BXOk.len {y : BX} {l : List NI} (h : BXOk y L cs l) : y.LM.length = L.length + y.i ∧ y.C.length ≤ cs.length + y.i := by
  have h1 := congrArg List.length h.M
  have h2 := h.i
  simp only [List.length_map, alls_length, List.length_take] at h1
  constructor
  · rw [h.LM, List.length_append, h1]; omega
  · rw [h.C, allCs_len]
    have := allN_le (l.take y.i) cs.length
    rw [List.length_take] at this
    omega
theorem dN_pos {x : Int} {h0 h : Nat} {p0 : Pr} {k : ByteArray} {u gen : Int} {f : Nat} : ∀ n lvl, 1 ≤ (dN x h0 h p0 k u gen f n lvl).length
  | 0, lvl => by
    unfold dN
    split <;> simp
  | n + 1, lvl => by
    unfold dN
    simp only [List.length_append, List.length_cons, List.length_nil]
    omega
theorem BXOk.push {y : BX} {l : List NI} {a : NI} {b : NdV} {x : AX} {r : Nat} {pn pc : Option Addr} {cn cc : Nat} {init : Int} (h : BXOk y L cs l) (ha : l[y.i]? = some a) (hm : Match b a) (hi : init = a.init) (hr : r = L.length + y.i + 1) :
    BXOk ⟨y.i + 1, y.LM ++ [alV b.nd b.xs b.ys y.C.length x], y.M ++ [alV b.nd b.xs b.ys y.C.length x], alCs b.nd.kind y.C init, r, pn, cn, pc, cc⟩ L cs l := by
  have hlt : y.i < l.length := (List.getElem?_eq_some_iff.1 ha).1
  have et : l.take (y.i + 1) = l.take y.i ++ [a] := by
    rw [List.take_add_one, ha]; rfl
  have hC : y.C.length = allN (l.take y.i) cs.length := by rw [h.C, allCs_len]
  refine ⟨by show y.LM ++ _ = _; rw [h.LM, List.append_assoc], ?_, ?_, ?_, ?_, hlt⟩
  · show alCs b.nd.kind y.C init = allCs (l.take (y.i + 1)) cs
    rw [et, allCs_append, hm.kind, hi, h.C]
    rfl
  · show (y.M ++ _).map NdV.c = alls (l.take (y.i + 1)) cs.length
    rw [et, alls_append, List.map_append, h.M, hC]
    congr 1
    show [NdV.c _] = [NI.c a _]
    rw [← hm.c]
    rfl
  · exact fits_add h.fit (fun z hz => by rw [List.mem_singleton.1 hz]; exact fit_al (Nat.le_trans hm.sx (by decide)) (Nat.le_trans hm.sy (by decide)))
  · show r = rI L.length (y.i + 1)
    unfold rI
    rw [if_neg (by omega)]
    omega
theorem initsL_at {l : List NI} {i : Nat} {a : NI} (h : l[i]? = some a) : (initsL l).getD i 0 = a.init := by
  rw [List.getD_eq_getElem?_getD, initsL, List.getElem?_map, h]; rfl
theorem refBuildO_c {D : List Nat} {A : Fr} {w : World} {lvl : Nat} {l : List NI} (hs : SF w D [(bm, mO L cs g acc pn kn pc kc)] A [] (mW L cs pn kn pc kc) w) (hl : L.length ≤ 700) (hc : cs.length ≤ 700) (hxm : x ≤ 9223372036854775807) (hnv : nodeV L x = v) (hv : v.nd.kind = 4 → v.nd.hash = (h0 : Int)) (hh0 : h0 < 18446744073709551616) (hh : h < 18446744073709551616) (he : errB v h0 h k lvl gen = 0) (hN : dN x h0 h (v.nd.key, v.nd.val) k u gen (L.length + 1) (com h0 h - lvl) lvl = l) :
    Calls Try.prog 64 #[.pointer (some ⟨bm, 0, none⟩), .int .i64 x, .int .u64 (h : Int), .string k, .int .u64 u, .int .i64 (lvl : Int), .int .i64 gen] w fun e w' =>
      ∃ d : DX, e = .returned (.tuple #[.int .i64 ((L.length + l.length : Nat) : Int), .int .i64 0]) ∧ (d.L.map NdV.c = alls l cs.length ∧ Fits d.L) ∧
      SF w D [(bm, mO (L ++ d.L) (allCs l cs) g acc d.pn d.cn d.pc d.cc)] [] (famF d.L) (mW (L ++ d.L) (allCs l cs) d.pn d.cn d.pc d.cc) w' := by
  have hl1 : 1 ≤ l.length := by rw [← hN]; exact dN_pos _ _
  have hl2 : l.length ≤ 24 := by
    rw [← hN]
    have := dN_len (x := x) (h0 := h0) (h := h) (p0 := (v.nd.key, v.nd.val)) (k := k) (u := u) (gen := gen) (f := L.length + 1) (com h0 h - lvl) lvl
    have := com_le h0 h
    omega
  have hk4 : v.nd.kind = 4 ∧ lvl ≤ com h0 h := by
    unfold errB at he
    split at he
    · cases he
    · split at he
      · cases he
      · omega
  refine enter Try.func64 Try.ntmps64 rfl rfl (mOpen hs) ?_
  simp only [mkS]
  all_goals (refine k_seq ?_; refine k_region ?_; refine j_assignL (fun _ => ?_); refine j_assignL (fun _ => ?_); refine l_nil ?_; refine k_seq ?_; refine k_seq ?_; refine k_region ?_; refine j_move ?_; refine j_move ?_; refine j_move ?_; refine j_move ?_; refine j_move ?_; refine j_move ?_; (refine j_own (cM (hc := fun w hs => refErrI_c (L := L) (cs := cs) hs hl hxm hnv hv hh0 hh)) (fun x27 => ?_); try (refine l_fact (fun h27 => ?_))); refine j_assignL (fun _ => ?_); refine l_nil ?_; refine k_seq ?_; refine k_region ?_; refine j_move ?_; refine j_neq ?_; refine l_nil ?_)
  all_goals
   refine k_if (fun c29 => ?_) (fun c29 => ?_)
   · try (exact absurd c29 (by decide))
     all_goals (revert c29; (first | refine cv1 ?_ | refine cv3 ?_ | refine cv5 ?_ | refine cv7 ?_ | refine cv9 ?_ | refine cvb ?_ | refine cvd ?_ | skip); intro c29)
     all_goals
      exact absurd ((errI_nat lvl).trans he) c29
     all_goals (refine k_seq ?_; refine k_region ?_; refine j_move ?_; refine j_assignL (fun _ => ?_); refine j_assignL (fun _ => ?_); refine l_nil ?_)
     all_goals
      refine k_retvF Try.results64 (.tmp (by conv => { lhs; whnf }) (.tmp (by conv => { lhs; whnf }) .nil)) (fun w hw => ?_)
      have hyl : y.i = l.length := by omega
      have hM := hx.M
      have hC := hx.C
      have hr := hx.r
      rw [hyl, List.take_length] at hM hC
      rw [hyl, rI, if_neg (by omega)] at hr
      refine ⟨⟨y.M, y.pn, y.cn, y.pc, y.cc⟩, ?_, ⟨hM, hx.fit⟩, ?_⟩
      · rw [hr]; rfl
      · have hw2 := hw.ret (H' := [(bm, mO y.LM y.C g acc y.pn y.cn y.pc y.cc)]) (F' := famF y.M) (O' := mW y.LM y.C y.pn y.cn y.pc y.cc) (List.Sublist.refl _) (FSub.ofSub fun f hf => .tail _ (.tail _ (List.mem_append_right _ hf))) (List.Sublist.refl _)
        rw [hx.LM, hC] at hw2
        exact hw2
   · try (exact absurd c29 (by decide))
     all_goals (revert c29; (first | refine cv2 ?_ | refine cv4 ?_ | refine cv6 ?_ | refine cv8 ?_ | refine cva ?_ | refine cvc ?_ | refine cve ?_ | skip); intro c29)
     all_goals (refine k_skip ?_; refine k_seq ?_; refine k_drawF (.one 0 [] (.one 1 [] (.one 3 [] (.one 4 [] (.one 5 [] (.one 6 [] (.one 7 [] (.one 8 [] (.one 9 [] (.one 10 [] (.one 11 [] (.one 12 [] (.one 13 [] (.one 14 [] (.one 15 [] (.one 2 [13] (.one 16 [] (.one 17 [] (.one 18 [] (.one 19 [] (.one 20 [] (.one 21 [] .nil)))))))))))))))))))))) ?_; refine r_move (i := 0) ?_; refine r_move (i := 1) ?_; refine r_move (i := 3) ?_; refine r_move (i := 4) ?_; refine r_move (i := 5) ?_; refine r_move (i := 6) ?_; refine r_move (i := 7) ?_; refine r_move (i := 8) ?_; refine r_move (i := 9) ?_; refine r_nilCheck (i := 10) ?_; refine r_fieldAddr (i := 11) ?_; refine r_fieldAddr (i := 12) ?_; refine r_load (i := 13) ?_; refine r_len (i := 14) ?_; refine r_inc (i := 15) ?_; ((refine r_own (i := 2) (hq := (cM (hc := fun w hs => mNode_c (L := L) (cs := cs) hs x hxm (by omega)))) (hfire := (fun _ => by first | (refine FireAll.cons (by first | exact a_load | exact a_un) ?_; exact FireAll.nil) | (refine fireall_fact ?_; refine FireAll.cons (by first | exact a_load | exact a_un) ?_; exact FireAll.nil))) (h := fun x34 => ?_); try (refine r_fact (fun h34 => ?_)))); ((refine r_own (i := 16) (hq := (cF (hc := fun w1 hw => by rw [hnv]; exact nodesR_c (v := v) (fi := L.length + 1) (hv hk4.1) hh0 hh hk4.2 (by omega) (by omega) w1))) (hfire := (fun _ => .nil)) (h := fun x48 => ?_); try (refine r_fact (fun h48 => ?_)))); refine r_move (i := 17) ?_; refine r_extract (i := 18) ?_; refine r_extract (i := 19) ?_; refine r_assignL (i := 20) (hfire := (fun _ => .nil)) (h := fun _ => ?_); refine r_assignL (i := 21) (hfire := (fun _ => .nil)) (h := fun _ => ?_); refine r_fin ?_; refine k_seq ?_; refine k_region ?_; refine j_assignL (fun _ => ?_); refine l_nil ?_; refine k_seq ?_; refine k_seq ?_; refine k_region ?_; refine j_assignL (fun _ => ?_); refine l_nil ?_; refine k_block ?_)
     all_goals
      obtain ⟨hd, hd1, hd2⟩ := h48
      rw [hN] at hd
      obtain ⟨hd3, hd4⟩ := hd.len
      refine k_loopF [19, 20, 51, 52, 53, 54, 55, 56, 57, 58, 59, 60, 61, 62, 63, 64, 65, 66] (fun y : BX => [(19, .int .i64 (y.r : Int)), (20, .int .i64 (y.i : Int))]) (fun y => BXOk y L cs l) (fun y => [(bm, mO y.LM y.C g acc y.pn y.cn y.pc y.cc)]) (fun y => (x48.pn, nvC x48.L) :: (x48.pc, refsC x48.ini) :: (famF x48.L ++ famF y.M)) (fun y => mW y.LM y.C y.pn y.cn y.pc y.cc) (fun y => l.length - y.i) ((⟨0, L, [], cs, 0, pn, kn, pc, kc⟩ : BX)) (by decide) (fun _ => by exact rfl) ?_ (⟨(List.append_nil L).symm, rfl, rfl, fun z hz => (List.not_mem_nil hz).elim, rfl, Nat.zero_le _⟩) (fun w hw => hw.sub (List.Sublist.refl _) (FSub.ofSub fun f hf => by simpa [famF] using hf) (List.Sublist.refl _)) (fun y f hx => ?_)
      · repeat (first | exact knows_nil _ | refine knows_cons (by first | exact rfl | (conv => { lhs; whnf }; simp; done)) ?_)
      dsimp only [mkU, List.map, List.cons_append, List.nil_append]
      obtain ⟨hy1, hy2⟩ := hx.len
      have hyi := hx.i
      all_goals (refine k_seq ?_; refine k_seq ?_; refine k_region ?_; refine j_move ?_; refine j_move ?_; refine j_len ?_; refine j_lss ?_; refine l_nil ?_)
      all_goals
       refine k_if (fun c54 => ?_) (fun c54 => ?_)
       · try (exact absurd c54 (by decide))
         all_goals (revert c54; (first | refine cv1 ?_ | refine cv3 ?_ | refine cv5 ?_ | refine cv7 ?_ | refine cv9 ?_ | refine cvb ?_ | refine cvd ?_ | skip); intro c54)
         all_goals
          have hlt : y.i < x48.L.length := by omega
          obtain ⟨a, ha, hma⟩ := hd.m.at hlt
          have hini : x48.ini.getD y.i 0 = a.init := by rw [hd.ini]; exact initsL_at ha
          have hsx := hma.sx
          have hsy := hma.sy
         all_goals (refine k_skip ?_; refine k_seq ?_; refine k_block ?_; refine k_drawF (.one 0 [] (.one 1 [] (.one 2 [] (.one 3 [] (.one 4 [] (.one 5 [] (.one 6 [] (.one 7 [] (.one 8 [] (.one 9 [] (.one 10 [] .nil))))))))))) ?_; refine r_move (i := 0) ?_; refine r_move (i := 1) ?_; refine r_move (i := 2) ?_; refine r_indexAddr (i := 3) ?_; refine r_load (i := 4) ?_; refine r_move (i := 5) ?_; refine r_move (i := 6) ?_; refine r_indexAddr (i := 7) ?_; refine r_load (i := 8) ?_; ((refine r_own (i := 9) (hq := (cM (A0 := [((x48.L.getD y.i NdV.zero).nd.brA, refsC (x48.L.getD y.i NdV.zero).xs), ((x48.L.getD y.i NdV.zero).nd.prA, prC (x48.L.getD y.i NdV.zero).ys)]) (hA := HasAll.of fun f hf => .inr (.inr (.inl (by simp only [List.mem_cons, List.not_mem_nil, or_false] at hf; rcases hf with rfl | rfl; exact .tail _ (.tail _ (List.mem_append_left _ (famF_br hlt))); exact .tail _ (.tail _ (List.mem_append_left _ (famF_pr hlt))))))) (hc := fun w hs => mAlloc_c (L := y.LM) (cs := y.C) (n := (x48.L.getD y.i NdV.zero).nd) (xs := (x48.L.getD y.i NdV.zero).xs) (ys := (x48.L.getD y.i NdV.zero).ys) (x48.ini.getD y.i 0) hs hma.fit.brN hma.fit.prN (by omega) (by omega) (by omega) (by omega)))) (hfire := (fun _ => .nil)) (h := fun x66 => ?_); try (refine r_fact (fun h66 => ?_)))); refine r_assignL (i := 10) (hfire := (fun _ => .nil)) (h := fun _ => ?_); refine r_fin ?_; refine k_blk ?_; refine k_region ?_; refine j_move ?_; refine j_inc ?_; refine j_assignL (fun _ => ?_); refine l_nil ?_)
         all_goals
          refine k_roundF ((⟨y.i + 1, y.LM ++ [alV (x48.L.getD y.i NdV.zero).nd (x48.L.getD y.i NdV.zero).xs (x48.L.getD y.i NdV.zero).ys y.C.length x66], y.M ++ [alV (x48.L.getD y.i NdV.zero).nd (x48.L.getD y.i NdV.zero).xs (x48.L.getD y.i NdV.zero).ys y.C.length x66], alCs (x48.L.getD y.i NdV.zero).nd.kind y.C (x48.ini.getD y.i 0), y.LM.length + 1, x66.pn, x66.cn, x66.pc, x66.cc⟩ : BX)) ?_ ?_ (by repeat (first | (with_reducible exact Pre.refl) | refine Pre.cons (by exact rfl) ?_)) ?_ (fun w hw => hw.sub (List.Sublist.refl _) (FSub.ofSub fun f hf => by simp only [famF_append, List.mem_append, List.mem_cons] at hf ⊢; rcases hf with hf | hf | hf | hf | hf; exact .inr (.inl hf); exact .inr (.inr (.inl hf)); exact .inr (.inr (.inr (.inl hf))); exact .inr (.inr (.inr (.inr hf))); exact .inl (by simpa [famF] using hf)) (List.Sublist.refl _))
          · first | omega | (simp only []; omega)
          · repeat' (first | exact knows_nil _ | refine knows_cons ?_ ?_)
            all_goals (first | exact rfl | (conv => { lhs; whnf }; simp; done) | (conv => { lhs; whnf }; congr 1; omega))
          · exact hx.push ha hma hini (by omega)
       · try (exact absurd c54 (by decide))
         all_goals (revert c54; (first | refine cv2 ?_ | refine cv4 ?_ | refine cv6 ?_ | refine cv8 ?_ | refine cva ?_ | refine cvc ?_ | refine cve ?_ | skip); intro c54)
         all_goals (refine k_exit rfl ?_; refine k_seq ?_; refine k_region ?_; refine j_move ?_; refine j_assignL (fun _ => ?_); refine j_assignL (fun _ => ?_); refine l_nil ?_)
         all_goals
          refine k_retvF Try.results64 (.tmp (by conv => { lhs; whnf }) (.tmp (by conv => { lhs; whnf }) .nil)) (fun w hw => ?_)
          have hyl : y.i = l.length := by omega
          have hM := hx.M
          have hC := hx.C
          have hr := hx.r
          rw [hyl, List.take_length] at hM hC
          rw [hyl, rI, if_neg (by omega)] at hr
          refine ⟨⟨y.M, y.pn, y.cn, y.pc, y.cc⟩, ?_, ⟨hM, hx.fit⟩, ?_⟩
          · rw [hr]; rfl
          · have hw2 := hw.ret (H' := [(bm, mO y.LM y.C g acc y.pn y.cn y.pc y.cc)]) (F' := famF y.M) (O' := mW y.LM y.C y.pn y.cn y.pc y.cc) (List.Sublist.refl _) (FSub.ofSub fun f hf => .tail _ (.tail _ (List.mem_append_right _ hf))) (List.Sublist.refl _)
            rw [hx.LM, hC] at hw2
            exact hw2
end Go.Proofs.Ytmogngagpphnhaa

/- DualExact: the walk. -/
set_option linter.unusedSimpArgs false
set_option linter.unusedVariables false
namespace Go.Ct
open Go Go.RowKit
section
variable {P : Program} {S : List (Nat × Value)} {G : World → Prop} {d : Nat} {ty t t' : TypeId} {pos : String} {af : Array Edge} {gd : Option (Nat × Bool)} {x y : Operand}
theorem o_remU {a b : Int} {k : Nat} (hx : ev S x = .int .u8 a) (hy : ev S y = .int .u8 b) (h0 : b ≠ 0) (h : a.tmod b = (k : Int)) : Quiet P S G ⟨some d, .binOp .rem t x y t', ty, pos, af, gd⟩ (.int .u8 (k : Int)) := by
  have := o_rem (P := P) (G := G) (d := d) (ty := ty) (pos := pos) (af := af) (gd := gd) (t := t) (t' := t') hx hy h0
  rwa [h] at this
end
theorem wrap_le (a : Int) : IntKind.i64.wrap a ≤ 9223372036854775807 := by rw [IntKind.wrap_i64]; omega
theorem u8_rem {a b : Int} (ha : 0 ≤ a) (hb : 0 < b) : ∃ k : Nat, a.tmod b = (k : Int) ∧ (k : Int) < b := by
  refine ⟨(a % b).toNat, ?_, ?_⟩
  · rw [Int.tmod_eq_emod_of_nonneg ha, Int.toNat_of_nonneg (Int.emod_nonneg _ (by omega))]
  · rw [Int.toNat_of_nonneg (Int.emod_nonneg _ (by omega))]
    exact Int.emod_lt_of_pos _ hb
theorem rXor_rng (a b : Int) : 0 ≤ rXor .u64 a b ∧ rXor .u64 a b < 18446744073709551616 := by
  unfold rXor
  rw [wrap_u64]
  omega
theorem nodeV_c {L M : List NdV} (h : L.map NdV.c = M.map NdV.c) (r : Int) : (nodeV L r).c = (nodeV M r).c := by
  have hl : L.length = M.length := by
    have := congrArg List.length h
    simpa using this
  unfold nodeV
  by_cases hr : 1 ≤ r ∧ r ≤ (L.length : Int)
  · rw [if_pos hr, if_pos (by omega)]
    exact (map_c hl).1 h _ (by omega)
  · rw [if_neg hr, if_neg (by omega)]
end Go.Ct
namespace Go.Proofs.Ytmogngagpphnhaa
open Go Go.RowKit Go.Ct
variable {ba bm : Nat} {L : List NdV} {cs : List Int} {g acc : Int} {pn pc : Option Addr} {kn kc : Nat} {x : Int} {h h1 : Nat} {k key : ByteArray} {u v gen lvl : Int}
theorem buildNegD_c {D : List Nat} {w : World} (lvl : Int) (hlv : lvl < 0) (ifc : Value) (hs : SF w D [(ba, aO L cs g acc pn kn pc kc)] (famF L) [] (mW L cs pn kn pc kc) w) : Calls Try.prog 63 #[ifc, .int .i64 x, .int .u64 (h : Int), .string k, .int .u64 u, .int .i64 lvl, .int .i64 gen] w fun e w' => e = .returned (.tuple #[.int .i64 0, .int .i64 2]) ∧ SF w D [(ba, aO L cs g acc pn kn pc kc)] [] [] (mW L cs pn kn pc kc) w' := by
  refine enter Try.func63 Try.ntmps63 rfl rfl (aOpen hs) ?_
  simp only [mkS]
  all_goals (refine k_seq ?_; refine k_region ?_; refine j_assignL (fun _ => ?_); refine j_assignL (fun _ => ?_); refine l_nil ?_; refine k_seq ?_; refine k_seq ?_; refine k_region ?_; refine j_move ?_; refine j_lss ?_; refine j_move ?_)
  all_goals (first | refine j_un ?_ | (refine j_yes ?_; refine j_move ?_) | (refine l_case (g := 20) (by exact rfl) (fun g20 => ?_) (fun g20 => ?_) <;> (revert g20; (first | refine cv1 ?_ | refine cv2 ?_ | refine cvb ?_ | refine cvc ?_ | refine cv9 ?_ | refine cva ?_ | refine cv7 ?_ | refine cv8 ?_ | refine cvd ?_ | refine cve ?_ | skip); intro g20) <;> (try (exfalso; omega)) <;> (first | refine j_un ?_ | (refine j_yes ?_; refine j_move ?_))))
  all_goals ((first | refine j_un ?_ | (refine j_yes ?_; refine j_gtr ?_)); refine j_pick ?_; refine j_move ?_)
  all_goals (first | refine j_un ?_ | (refine j_yes ?_; refine j_move ?_) | (refine l_case (g := 24) (by exact rfl) (fun g24 => ?_) (fun g24 => ?_) <;> (revert g24; (first | refine cv1 ?_ | refine cv2 ?_ | refine cvb ?_ | refine cvc ?_ | refine cv9 ?_ | refine cva ?_ | refine cv7 ?_ | refine cv8 ?_ | refine cvd ?_ | refine cve ?_ | skip); intro g24) <;> (try (exfalso; omega)) <;> (first | refine j_un ?_ | (refine j_yes ?_; refine j_move ?_))))
  all_goals ((first | refine j_un ?_ | (refine j_yes ?_; refine j_lss ?_)); refine j_pick ?_; refine l_nil ?_)
  all_goals
   refine k_if (fun c27 => ?_) (fun c27 => ?_)
   · try (exact absurd c27 (by decide))
     all_goals (revert c27; (first | refine cv1 ?_ | refine cv3 ?_ | refine cv5 ?_ | refine cv7 ?_ | refine cv9 ?_ | refine cvb ?_ | refine cvd ?_ | skip); intro c27)
     all_goals try (exfalso; omega)
     all_goals (refine k_seq ?_; refine k_region ?_; refine j_assignL (fun _ => ?_); refine j_assignL (fun _ => ?_); refine l_nil ?_)
     all_goals
      refine k_retvF Try.results63 (.tmp (by conv => { lhs; whnf }) (.tmp (by conv => { lhs; whnf }) .nil)) (fun w hw => ?_)
      exact ⟨rfl, hw.ret (by repeat (first | exact List.Sublist.refl _ | apply List.Sublist.cons)) (FSub.ofSub fun f hf => (List.not_mem_nil hf).elim) (by repeat (first | exact List.Sublist.refl _ | apply List.Sublist.cons))⟩
   · try (exact absurd c27 (by decide))
     all_goals (revert c27; (first | refine cv2 ?_ | refine cv4 ?_ | refine cv6 ?_ | refine cv8 ?_ | refine cva ?_ | refine cvc ?_ | refine cve ?_ | skip); intro c27)
     all_goals try (exfalso; omega)
     all_goals (refine k_skip ?_; refine k_seq ?_; refine k_seq ?_; refine k_region ?_; refine j_move ?_; refine l_quiet (NO) rfl ?_; refine l_nil ?_)
     all_goals
      refine k_if (fun c29 => ?_) (fun c29 => ?_)
      · try (exact absurd c29 (by decide))
        all_goals (revert c29; (first | refine cv1 ?_ | refine cv3 ?_ | refine cv5 ?_ | refine cv7 ?_ | refine cv9 ?_ | refine cvb ?_ | refine cvd ?_ | skip); intro c29)
        all_goals try (exfalso; omega)
        all_goals (refine k_seq ?_; refine k_region ?_; refine j_assignL (fun _ => ?_); refine j_assignL (fun _ => ?_); refine l_nil ?_)
        all_goals
         refine k_retvF Try.results63 (.tmp (by conv => { lhs; whnf }) (.tmp (by conv => { lhs; whnf }) .nil)) (fun w hw => ?_)
         exact ⟨rfl, hw.ret (by repeat (first | exact List.Sublist.refl _ | apply List.Sublist.cons)) (FSub.ofSub fun f hf => (List.not_mem_nil hf).elim) (by repeat (first | exact List.Sublist.refl _ | apply List.Sublist.cons))⟩
      · try (exact absurd c29 (by decide))
        all_goals (revert c29; (first | refine cv2 ?_ | refine cv4 ?_ | refine cv6 ?_ | refine cv8 ?_ | refine cva ?_ | refine cvc ?_ | refine cve ?_ | skip); intro c29)
        all_goals try (exfalso; omega)
        all_goals (refine k_skip ?_; refine k_seq ?_; refine k_region ?_; refine j_move ?_; refine j_move ?_; (refine j_own (NO) (fun x32 => ?_); try (refine l_fact (fun h32 => ?_))); refine j_alloc (fun x16 => ?_); refine j_store (fun _ => ?_); refine l_nil ?_; refine k_seq ?_; refine k_seq ?_; refine k_region ?_; refine j_fieldAddr ?_; refine j_load ?_; refine j_neq ?_; refine j_move ?_)
        all_goals (first | refine j_un ?_ | (refine j_yes ?_; refine j_move ?_) | (refine l_case (g := 36) (by exact rfl) (fun g36 => ?_) (fun g36 => ?_) <;> (revert g36; (first | refine cv1 ?_ | refine cv2 ?_ | refine cvb ?_ | refine cvc ?_ | refine cv9 ?_ | refine cva ?_ | refine cv7 ?_ | refine cv8 ?_ | refine cvd ?_ | refine cve ?_ | skip); intro g36) <;> (try (exfalso; omega)) <;> (first | refine j_un ?_ | (refine j_yes ?_; refine j_move ?_))))
        all_goals ((first | refine j_un ?_ | (refine j_yes ?_; refine j_lenStr ?_)); (first | refine j_un ?_ | (refine j_yes ?_; refine j_gtr ?_)); refine j_pick ?_; refine j_move ?_)
        all_goals (first | refine j_un ?_ | (refine j_yes ?_; refine j_move ?_) | (refine l_case (g := 41) (by exact rfl) (fun g41 => ?_) (fun g41 => ?_) <;> (revert g41; (first | refine cv1 ?_ | refine cv2 ?_ | refine cvb ?_ | refine cvc ?_ | refine cv9 ?_ | refine cva ?_ | refine cv7 ?_ | refine cv8 ?_ | refine cvd ?_ | refine cve ?_ | skip); intro g41) <;> (try (exfalso; omega)) <;> (first | refine j_un ?_ | (refine j_yes ?_; refine j_move ?_))))
        all_goals ((first | refine j_un ?_ | (refine j_yes ?_; refine j_fieldAddr ?_)); (first | refine j_un ?_ | (refine j_yes ?_; refine j_load ?_)); (first | refine j_un ?_ | (refine j_yes ?_; refine j_seq ?_)); refine j_pick ?_; refine l_nil ?_)
        all_goals
         refine k_if (fun c46 => ?_) (fun c46 => ?_)
         · try (exact absurd c46 (by decide))
           all_goals (revert c46; (first | refine cv1 ?_ | refine cv3 ?_ | refine cv5 ?_ | refine cv7 ?_ | refine cv9 ?_ | refine cvb ?_ | refine cvd ?_ | skip); intro c46)
           all_goals try (exfalso; omega)
           all_goals (refine k_seq ?_; refine k_region ?_; refine j_assignL (fun _ => ?_); refine j_assignL (fun _ => ?_); refine l_nil ?_)
           all_goals
            refine k_retvF Try.results63 (.tmp (by conv => { lhs; whnf }) (.tmp (by conv => { lhs; whnf }) .nil)) (fun w hw => ?_)
            exact ⟨rfl, hw.ret (by repeat (first | exact List.Sublist.refl _ | apply List.Sublist.cons)) (FSub.ofSub fun f hf => (List.not_mem_nil hf).elim) (by repeat (first | exact List.Sublist.refl _ | apply List.Sublist.cons))⟩
         · try (exact absurd c46 (by decide))
           all_goals (revert c46; (first | refine cv2 ?_ | refine cv4 ?_ | refine cv6 ?_ | refine cv8 ?_ | refine cva ?_ | refine cvc ?_ | refine cve ?_ | skip); intro c46)
           all_goals try (exfalso; omega)
           all_goals (refine k_skip ?_; refine k_seq ?_; refine k_seq ?_; refine k_region ?_; refine j_fieldAddr ?_; refine j_load ?_; refine j_move ?_; (refine j_own (NO) (fun x50 => ?_); try (refine l_fact (fun h50 => ?_))); refine j_move ?_; refine j_lss ?_; refine l_nil ?_)
           all_goals
            refine k_if (fun c52 => ?_) (fun c52 => ?_)
            · try (exact absurd c52 (by decide))
              all_goals (revert c52; (first | refine cv1 ?_ | refine cv3 ?_ | refine cv5 ?_ | refine cv7 ?_ | refine cv9 ?_ | refine cvb ?_ | refine cvd ?_ | skip); intro c52)
              all_goals try (exfalso; omega)
              all_goals (refine k_seq ?_; refine k_region ?_; refine j_assignL (fun _ => ?_); refine j_assignL (fun _ => ?_); refine l_nil ?_)
              all_goals
               refine k_retvF Try.results63 (.tmp (by conv => { lhs; whnf }) (.tmp (by conv => { lhs; whnf }) .nil)) (fun w hw => ?_)
               exact ⟨rfl, hw.ret (by repeat (first | exact List.Sublist.refl _ | apply List.Sublist.cons)) (FSub.ofSub fun f hf => (List.not_mem_nil hf).elim) (by repeat (first | exact List.Sublist.refl _ | apply List.Sublist.cons))⟩
            · try (exact absurd c52 (by decide))
              all_goals (revert c52; (first | refine cv2 ?_ | refine cv4 ?_ | refine cv6 ?_ | refine cv8 ?_ | refine cva ?_ | refine cvc ?_ | refine cve ?_ | skip); intro c52)
              all_goals try (exfalso; omega)
              all_goals (refine k_skip ?_; refine k_seq ?_; refine k_region ?_; refine j_move ?_; refine j_move ?_; refine j_load ?_; refine j_move ?_; refine j_move ?_; refine j_move ?_; refine j_build ?_; refine j_move ?_; refine j_build ?_; refine j_alloc (fun x17 => ?_); refine j_store (fun _ => ?_); refine l_nil ?_; refine k_seq ?_; refine k_region ?_; refine j_move ?_; (refine j_own (NO) (fun x63 => ?_); try (refine l_fact (fun h63 => ?_))); refine j_assignL (fun _ => ?_); refine j_assignL (fun _ => ?_); refine l_nil ?_)
              all_goals
               refine k_retvF Try.results63 (.tmp (by conv => { lhs; whnf }) (.tmp (by conv => { lhs; whnf }) .nil)) (fun w hw => ?_)
               exact ⟨rfl, hw.ret (by repeat (first | exact List.Sublist.refl _ | apply List.Sublist.cons)) (FSub.ofSub fun f hf => (List.not_mem_nil hf).elim) (by repeat (first | exact List.Sublist.refl _ | apply List.Sublist.cons))⟩
/-- The error, what is allocated, the result. -/
def eK (h h1 : Nat) (key k : ByteArray) (lvl gen : Int) : Int := errI (ndSingle h key 0) h h1 k lvl gen
def lK (h h1 : Nat) (key k : ByteArray) (v u lvl gen : Int) : List NI := if eK h h1 key k lvl gen = 0 then dN 3 h h1 (key, v) k u gen 4 (com h h1 - lvl.toNat) lvl.toNat else []
def rK (h h1 : Nat) (key k : ByteArray) (v u lvl gen : Int) : Int := if eK h h1 key k lvl gen = 0 then ((3 + (lK h h1 key k v u lvl gen).length : Nat) : Int) else 0
theorem lK_len : (lK h h1 key k v u lvl gen).length ≤ 24 := by
  unfold lK
  split
  · have := dN_len (x := 3) (h0 := h) (h := h1) (p0 := (key, v)) (k := k) (u := u) (gen := gen) (f := 4) (com h h1 - lvl.toNat) lvl.toNat
    have := com_le h h1
    omega
  · exact Nat.zero_le _
theorem errI_cong {a b : NdV} (h1 : a.nd.kind = b.nd.kind) (h2 : a.nd.key = b.nd.key) {h0 h : Nat} : errI a h0 h k lvl gen = errI b h0 h k lvl gen := by
  unfold errI errB
  rw [h1, h2]
theorem SXOk.eK {s : SX} (ok : SXOk s h key v) : errI s.va h h1 k lvl gen = eK h h1 key k lvl gen := errI_cong ok.kind ok.key
theorem SXOk.eM {s : SX} (ok : SXOk s h key v) : errI s.vm h h1 k lvl gen = Proofs.Ytmogngagpphnhaa.eK h h1 key k lvl gen := errI_cong (congrArg Nv.kind ok.m) (congrArg Nv.key ok.m)
theorem eK_neg (hn : lvl < 0) : eK h h1 key k lvl gen = 2 := errI_rng (.inl hn)
theorem lK_no (he : eK h h1 key k lvl gen ≠ 0) : lK h h1 key k v u lvl gen = [] := if_neg he
theorem lK_ok (he : eK h h1 key k lvl gen = 0) : lK h h1 key k v u lvl gen = dN 3 h h1 (key, v) k u gen 4 (com h h1 - lvl.toNat) lvl.toNat := if_pos he
theorem rK_no (he : eK h h1 key k lvl gen ≠ 0) : rK h h1 key k v u lvl gen = 0 := if_neg he
theorem rK_ok (he : eK h h1 key k lvl gen = 0) : rK h h1 key k v u lvl gen = ((3 + (lK h h1 key k v u lvl gen).length : Nat) : Int) := if_pos he
theorem buildD_c {D : List Nat} {w : World} {s : SX} (ok : SXOk s h key v) (hh : h < 18446744073709551616) (hh1 : h1 < 18446744073709551616) (hlv : lvl ≤ 9223372036854775807) (hs : SF w D [(s.ba, aO [s.va] [] 5 0 s.apn s.acn s.apc s.acc)] (famF [s.va]) [] (mW [s.va] [] s.apn s.acn s.apc s.acc) w) :
    Calls Try.prog 63 #[.iface 27 (.pointer (some ⟨s.ba, 0, none⟩)), .int .i64 3, .int .u64 (h1 : Int), .string k, .int .u64 u, .int .i64 lvl, .int .i64 gen] w fun e w' =>
      ∃ d : DX, e = .returned (.tuple #[.int .i64 (rK h h1 key k v u lvl gen), .int .i64 (eK h h1 key k lvl gen)]) ∧ (d.L.map NdV.c = alls (lK h h1 key k v u lvl gen) 0 ∧ Fits d.L) ∧
      SF w D [(s.ba, aO ([s.va] ++ d.L) (allCs (lK h h1 key k v u lvl gen) []) 5 0 d.pn d.cn d.pc d.cc)] [] (famF d.L) (mW ([s.va] ++ d.L) (allCs (lK h h1 key k v u lvl gen) []) d.pn d.cn d.pc d.cc) w' := by
  rcases Int.lt_or_le lvl 0 with hn | hn
  · have he : eK h h1 key k lvl gen = 2 := eK_neg hn
    have hne : eK h h1 key k lvl gen ≠ 0 := by rw [he]; decide
    rw [rK_no hne, lK_no hne, he]
    exact (buildNegD_c (h := h1) (k := k) (u := u) (gen := gen) (x := 3) lvl hn _ hs).mono fun e w' ⟨he, hst⟩ => ⟨⟨[], s.apn, s.acn, s.apc, s.acc⟩, he, ⟨rfl, fun z hz => (List.not_mem_nil hz).elim⟩, hst⟩
  · obtain ⟨n, rfl⟩ : ∃ n : Nat, lvl = (n : Int) := ⟨lvl.toNat, by omega⟩
    have he : errB s.va h h1 k n gen = eK h h1 key k n gen := by rw [← errI_nat, ok.eK]
    refine (build_c (k := k) (u := u) (gen := gen) (h0 := h) (h := h1) (lvl := n) hs (fun z hz => by rw [List.mem_singleton.1 hz]; exact ok.fa) (by simp) (by simp) (by decide) (SXOk.at3 s.va) (fun _ => ⟨ok.hash, by decide⟩) hh hh1 hlv).mono fun e w' ⟨d, q1, q2, q3⟩ => ?_
    rw [he] at q1
    by_cases h0 : eK h h1 key k n gen = 0
    · have hN : newB 3 s.va h h1 k u gen ([s.va].length + 3) n = lK h h1 key k v u n gen := by
        rw [newB_ok (he.trans h0), lK_ok h0, Int.toNat_natCast, ok.key, show s.va.nd.val = v from congrArg Nv.val ok.c]
        rfl
      rw [hN] at q1 q2 q3
      refine ⟨d, ?_, q2, q3⟩
      rw [q1, h0, rK_ok h0]
      rfl
    · have hN : newB 3 s.va h h1 k u gen ([s.va].length + 3) n = lK h h1 key k v u n gen := by
        rw [newB_err (by rw [he]; exact h0), lK_no h0]
      rw [hN] at q1 q2 q3
      refine ⟨d, ?_, q2, q3⟩
      rw [q1, rK_no h0, resB, if_neg h0]
theorem refBuildD_c {D : List Nat} {A : Fr} {w : World} {s : SX} (ok : SXOk s h key v) (hh : h < 18446744073709551616) (hh1 : h1 < 18446744073709551616) (hs : SF w D [(s.bm, mO [markV, markV, s.vm] [] 5 0 s.mpn s.mcn s.mpc s.mcc)] A [] (mW [markV, markV, s.vm] [] s.mpn s.mcn s.mpc s.mcc) w) :
    Calls Try.prog 64 #[.pointer (some ⟨s.bm, 0, none⟩), .int .i64 3, .int .u64 (h1 : Int), .string k, .int .u64 u, .int .i64 lvl, .int .i64 gen] w fun e w' =>
      ∃ d : DX, e = .returned (.tuple #[.int .i64 (rK h h1 key k v u lvl gen), .int .i64 (eK h h1 key k lvl gen)]) ∧ (d.L.map NdV.c = alls (lK h h1 key k v u lvl gen) 0 ∧ Fits d.L) ∧
      SF w D [(s.bm, mO ([markV, markV, s.vm] ++ d.L) (allCs (lK h h1 key k v u lvl gen) []) 5 0 d.pn d.cn d.pc d.cc)] [] (famF d.L) (mW ([markV, markV, s.vm] ++ d.L) (allCs (lK h h1 key k v u lvl gen) []) d.pn d.cn d.pc d.cc) w' := by
  have hv : s.vm.nd.kind = 4 → s.vm.nd.hash = (h : Int) := fun _ => congrArg Nv.hash ok.m
  have hat : nodeV [markV, markV, s.vm] 3 = s.vm := SXOk.at3 s.vm
  by_cases h0 : eK h h1 key k lvl gen = 0
  · have hn : 0 ≤ lvl := by
      rcases Int.lt_or_le lvl 0 with hn | hn
      · rw [eK_neg hn] at h0; cases h0
      · exact hn
    obtain ⟨n, rfl⟩ : ∃ n : Nat, lvl = (n : Int) := ⟨lvl.toNat, by omega⟩
    have hN : dN 3 h h1 (s.vm.nd.key, s.vm.nd.val) k u gen ([markV, markV, s.vm].length + 1) (com h h1 - n) n = lK h h1 key k v u n gen := by
      rw [lK_ok h0, Int.toNat_natCast, show s.vm.nd.key = key from congrArg Nv.key ok.m, show s.vm.nd.val = v from congrArg Nv.val ok.m]
      rfl
    refine (refBuildO_c (k := k) (u := u) (gen := gen) (h0 := h) (h := h1) (lvl := n) hs (by simp) (by simp) (by decide) hat hv hh hh1 (by rw [← errI_nat, ok.eM, h0]) hN).mono fun e w' ⟨d, q1, q2, q3⟩ => ⟨d, ?_, q2, q3⟩
    rw [q1, h0, rK_ok h0]
    rfl
  · rw [rK_no h0, lK_no h0]
    exact (refBuildE_c (k := k) (u := u) (gen := gen) (h0 := h) (h := h1) (lvl := lvl) hs (by simp) (by decide) hat hv hh hh1 ok.eM h0).mono fun e w' ⟨_, q1, _, q3⟩ => ⟨⟨[], s.mpn, s.mcn, s.mpc, s.mcc⟩, q1, ⟨rfl, fun z hz => (List.not_mem_nil hz).elim⟩, q3⟩
theorem lenD {M : List NdV} (hM : M.map NdV.c = alls (lK h h1 key k v u lvl gen) 0) : M.length ≤ 24 ∧ (allCs (lK h h1 key k v u lvl gen) []).length ≤ 24 := by
  have q := congrArg List.length hM
  have hl := lK_len (h := h) (h1 := h1) (key := key) (k := k) (v := v) (u := u) (lvl := lvl) (gen := gen)
  simp only [List.length_map, alls_length] at q
  refine ⟨by omega, ?_⟩
  rw [allCs_len]
  have := allN_le (lK h h1 key k v u lvl gen) 0
  simp only [List.length_nil]
  omega
theorem memDx {v : NdV} {M N : List NdV} {X Y : Fr} {f : Option Addr × List Value} (h : f ∈ famF ([v] ++ M)) : f ∈ N.flatMap NdV.fr ++ (famF M ++ ((v.fr ++ X) ++ Y)) := by
  rw [famF_append] at h
  rcases List.mem_append.1 h with h | h
  · exact List.mem_append_right _ (List.mem_append_right _ (List.mem_append_left _ (List.mem_append_left _ (by simpa [famF] using h))))
  · exact List.mem_append_right _ (List.mem_append_left _ h)
theorem memDm {va vm : NdV} {T M N : List NdV} {Y A : Fr} {O : List Ow} {f : Option Addr × List Value} (h : f ∈ famF ([markV, markV, vm] ++ N)) : Has A (famF T ++ (famF N ++ (famF M ++ ((va.fr ++ vm.fr) ++ Y)))) O f := by
  rw [famF_append] at h
  rcases List.mem_append.1 h with h | h
  · have h2 : f ∈ markV.fr ++ (markV.fr ++ vm.fr) := by simpa [famF] using h
    have hm : ∀ f ∈ markV.fr, f.2 = [] := fun f hf => by
      simp [NdV.fr, markV, alV] at hf
      rcases hf with rfl | rfl <;> rfl
    rcases List.mem_append.1 h2 with h2 | h2
    · exact .inl (hm f h2)
    rcases List.mem_append.1 h2 with h2 | h2
    · exact .inl (hm f h2)
    · exact .inr (.inr (.inl (List.mem_append_right _ (List.mem_append_right _ (List.mem_append_right _ (List.mem_append_left _ (List.mem_append_right _ h2)))))))
  · exact .inr (.inr (.inl (List.mem_append_right _ (List.mem_append_left _ h))))
theorem fitDm {s : SX} (ok : SXOk s h key v) {N : List NdV} (hN : Fits N) : Fits ([markV, markV, s.vm] ++ N) := fits_add (fun z hz => by
  simp only [List.mem_cons, List.not_mem_nil, or_false] at hz
  rcases hz with rfl | rfl | rfl
  · exact fit_mark
  · exact fit_mark
  · exact ok.fm) hN
theorem same_fin {s : SX} (ok : SXOk s h key v) {M N T : List NdV} {l : List Nv} (h1 : T.map NdV.c = (allV ([s.va] ++ M)).map NdV.c) (h2 : M.map NdV.c = l) (h3 : N.map NdV.c = l) : T.map NdV.c = ([markV, markV, s.vm] ++ N).map NdV.c := by
  rw [h1, List.map_append, h3, ← h2]
  show markV.c :: markV.c :: s.va.c :: M.map NdV.c = markV.c :: markV.c :: s.vm.c :: M.map NdV.c
  rw [ok.c, ok.m]
theorem dualExact_c (i2 : Int) {i7 i8 : Int} {near : Bool} (hh : h < 18446744073709551616) (r2 : 0 ≤ i2 ∧ i2 ≤ 255) (r7 : -9223372036854775808 ≤ i7 ∧ i7 ≤ 9223372036854775807) (w : World) :
    Calls Try.prog 14 #[.int .u64 (h : Int), .int .u8 i2, .string key, .string k, .int .u64 v, .int .u64 u, .int .i64 i7, .int .i64 i8, .bool near] w fun e w' => e = .returned (.bool true) ∧ St w [] [] w' := by
  obtain ⟨b, hb, hb2⟩ := u8_rem (a := i2) (b := 64) r2.1 (by decide)
  refine enter Try.func14 Try.ntmps14 rfl rfl (SF.s0 w) ?_
  simp only [mkS]
  all_goals (refine k_seq ?_; refine k_region ?_; refine j_assignL (fun _ => ?_); refine l_nil ?_; refine k_seq ?_)
  all_goals
   refine k_joinG [6, 7, 27, 28, 29, 30, 31, 32, 33, 34, 35, 36] (fun yy : Int × Int => [(6, .int .i64 yy.1), (7, .int .i64 yy.2)]) (fun yy => yy.1 ≤ 9223372036854775807) (fun _ => []) (fun _ => []) (fun _ => []) (by decide) (fun _ => by exact rfl) ?_ (fun yy f hx => ?_)
   · all_goals (refine k_seq ?_)
     all_goals (refine k_region ?_; refine j_move ?_; refine l_nil ?_)
     all_goals
      refine k_if (fun c27 => ?_) (fun c27 => ?_)
      · try (exact absurd c27 (by decide))
        all_goals (revert c27; (first | refine cv1 ?_ | refine cv3 ?_ | refine cv5 ?_ | refine cv7 ?_ | refine cv9 ?_ | refine cvb ?_ | refine cvd ?_ | skip); intro c27)
        all_goals try (exfalso; omega)
        all_goals (refine k_region ?_; refine j_move ?_; refine j_convert ?_; refine j_rem ?_; refine j_convert ?_; refine j_move ?_; refine j_convert ?_; refine j_rem ?_; refine j_convert ?_; refine j_add ?_; refine j_assignL (fun _ => ?_); refine j_assignL (fun _ => ?_); refine l_nil ?_)
        all_goals
         refine k_roundF ((IntKind.i64.wrap ((IntKind.u64.wrap i7).tmod 12), IntKind.i64.wrap (1 + IntKind.i64.wrap ((IntKind.u64.wrap i8).tmod 5)))) (by decide) ?_ (by repeat (first | (with_reducible exact Pre.refl) | refine Pre.cons (by exact rfl) ?_)) ?_ (fun w hw => hw.back)
         · repeat' (first | exact knows_nil _ | refine knows_cons ?_ ?_)
           all_goals (first | exact rfl | (conv => { lhs; whnf }; simp; done) | (conv => { lhs; whnf }; congr 1; omega))
         · exact wrap_le _
      · try (exact absurd c27 (by decide))
        all_goals (revert c27; (first | refine cv2 ?_ | refine cv4 ?_ | refine cv6 ?_ | refine cv8 ?_ | refine cva ?_ | refine cvc ?_ | refine cve ?_ | skip); intro c27)
        all_goals try (exfalso; omega)
        all_goals refine k_skip ?_
        all_goals
         refine k_roundF ((i7, i8)) (by decide) ?_ (by repeat (first | (with_reducible exact Pre.refl) | refine Pre.cons (by exact rfl) ?_)) ?_ (fun w hw => hw.back)
         · repeat' (first | exact knows_nil _ | refine knows_cons ?_ ?_)
           all_goals (first | exact rfl | (conv => { lhs; whnf }; simp; done) | (conv => { lhs; whnf }; congr 1; omega))
         · exact r7.2
   dsimp only [mkU, List.map, List.cons_append, List.nil_append]
  all_goals (refine k_seq ?_; refine k_seq ?_; refine k_region ?_; refine j_move ?_; refine j_lenStr ?_; refine j_gtr ?_; refine l_nil ?_)
  all_goals
   refine k_if (fun c39 => ?_) (fun c39 => ?_)
   · try (exact absurd c39 (by decide))
     all_goals (revert c39; (first | refine cv1 ?_ | refine cv3 ?_ | refine cv5 ?_ | refine cv7 ?_ | refine cv9 ?_ | refine cvb ?_ | refine cvd ?_ | skip); intro c39)
     all_goals try (exfalso; omega)
     all_goals (refine k_seq ?_; refine k_region ?_; (refine j_own (cV (hc := fun w1 hw => awake8_c w1)) (fun x40 => ?_); try (refine l_fact (fun h40 => ?_))); refine j_assignL (fun _ => ?_); refine l_nil ?_)
     all_goals
      refine k_rv Try.results14 (fun w hw => ?_)
      exact ⟨rfl, hw.done⟩
   · try (exact absurd c39 (by decide))
     all_goals (revert c39; (first | refine cv2 ?_ | refine cv4 ?_ | refine cv6 ?_ | refine cv8 ?_ | refine cva ?_ | refine cvc ?_ | refine cve ?_ | skip); intro c39)
     all_goals try (exfalso; omega)
     all_goals (refine k_skip ?_; refine k_seq ?_; refine k_region ?_; refine j_move ?_; refine j_assignL (fun _ => ?_); refine l_nil ?_; refine k_seq ?_)
     all_goals
      refine k_joinG [19, 42, 43, 44, 45, 46, 47, 48] (fun kk : Nat => [(19, .int .u64 (kk : Int))]) (fun kk => kk < 18446744073709551616) (fun _ => []) (fun _ => []) (fun _ => []) (by decide) (fun _ => by exact rfl) ?_ (fun kk f hx => ?_)
      · all_goals (refine k_seq ?_)
        all_goals (refine k_region ?_; refine j_move ?_; refine j_lss ?_; refine l_nil ?_)
        all_goals
         refine k_if (fun c43 => ?_) (fun c43 => ?_)
         · try (exact absurd c43 (by decide))
           all_goals (revert c43; (first | refine cv1 ?_ | refine cv3 ?_ | refine cv5 ?_ | refine cv7 ?_ | refine cv9 ?_ | refine cvb ?_ | refine cvd ?_ | skip); intro c43)
           all_goals try (exfalso; omega)
           all_goals (refine k_region ?_; refine j_move ?_; refine j_move ?_; refine l_quiet (o_remU (by exact rfl) (by exact rfl) (by decide) hb) rfl ?_; refine j_shl ?_; refine j_xor ?_; refine j_assignL (fun _ => ?_); refine l_nil ?_)
           all_goals
            refine k_roundF ((rXor .u64 (h : Int) (rShl .u64 1 (b : Int))).toNat) (by decide) ?_ (by repeat (first | (with_reducible exact Pre.refl) | refine Pre.cons (by exact rfl) ?_)) ?_ (fun w hw => hw.back)
            · repeat' (first | exact knows_nil _ | refine knows_cons ?_ ?_)
              (conv => { lhs; whnf })
              rw [Int.toNat_of_nonneg (rXor_rng _ _).1]
            · have := rXor_rng (h : Int) (rShl .u64 1 (b : Int))
              omega
         · try (exact absurd c43 (by decide))
           all_goals (revert c43; (first | refine cv2 ?_ | refine cv4 ?_ | refine cv6 ?_ | refine cv8 ?_ | refine cva ?_ | refine cvc ?_ | refine cve ?_ | skip); intro c43)
           all_goals try (exfalso; omega)
           all_goals refine k_skip ?_
           all_goals
            refine k_roundF (h) (by decide) ?_ (by repeat (first | (with_reducible exact Pre.refl) | refine Pre.cons (by exact rfl) ?_)) ?_ (fun w hw => hw.back)
            · repeat' (first | exact knows_nil _ | refine knows_cons ?_ ?_)
              all_goals (first | exact rfl | (conv => { lhs; whnf }; simp; done) | (conv => { lhs; whnf }; congr 1; omega))
            · exact hh
      dsimp only [mkU, List.map, List.cons_append, List.nil_append]
     all_goals (refine k_seq ?_; refine k_region ?_; refine j_move ?_; refine j_move ?_; refine j_move ?_; (refine j_own (cFH (hc := fun w1 hw => start_c (h := h) (key := key) (v := v) (by omega) w1)) (fun x53 => ?_); try (refine l_fact (fun h53 => ?_))); refine j_move ?_; refine j_extract ?_; refine j_extract ?_; refine j_extract ?_; refine j_assignL (fun _ => ?_); refine j_assignL (fun _ => ?_); refine j_assignL (fun _ => ?_); refine l_nil ?_; refine k_seq ?_; refine k_seq ?_; refine k_region ?_; refine j_move ?_; refine j_eql ?_; refine l_nil ?_)
     all_goals
      refine k_if (fun c58 => ?_) (fun c58 => ?_)
      · try (exact absurd c58 (by decide))
        all_goals (revert c58; (first | refine cv1 ?_ | refine cv3 ?_ | refine cv5 ?_ | refine cv7 ?_ | refine cv9 ?_ | refine cvb ?_ | refine cvd ?_ | skip); intro c58)
        all_goals try (exfalso; omega)
        all_goals
         cases c58
        all_goals (refine k_seq ?_; refine k_region ?_; refine j_assignL (fun _ => ?_); refine l_nil ?_)
        all_goals
         refine k_rv Try.results14 (fun w hw => ?_)
         exact ⟨rfl, hw.done⟩
      · try (exact absurd c58 (by decide))
        all_goals (revert c58; (first | refine cv2 ?_ | refine cv4 ?_ | refine cv6 ?_ | refine cv8 ?_ | refine cva ?_ | refine cvc ?_ | refine cve ?_ | skip); intro c58)
        all_goals try (exfalso; omega)
        all_goals (refine k_skip ?_; refine k_seq ?_; refine k_region ?_; refine j_move ?_; refine l_quiet (o_mkI (by exact rfl) (fun w => mkI_arena _ w)) rfl ?_; refine j_move ?_; refine j_move ?_; refine j_move ?_; refine j_move ?_; refine j_move ?_; refine j_move ?_; (refine j_own (cM (A0 := famF [x53.va]) (hA := HasAll.of fun f hf => .inr (.inr (.inl (List.mem_append_left _ (List.mem_append_left _ (by simpa [famF] using hf)))))) (hc := fun w hs => buildD_c (s := x53) (lvl := yy.1) h53 hh hx (by omega) hs)) (fun x68 => ?_); try (refine l_fact (fun h68 => ?_))); refine j_move ?_; refine j_extract ?_; refine j_extract ?_; refine j_assignL (fun _ => ?_); refine j_assignL (fun _ => ?_); refine l_nil ?_; refine k_seq ?_; refine k_region ?_; refine j_move ?_; refine j_move ?_; refine j_move ?_; refine j_move ?_; refine j_move ?_; refine j_move ?_; refine j_move ?_; (refine j_own (cM (A0 := []) (hc := fun w hs => refBuildD_c (s := x53) h53 hh hx hs)) (fun x79 => ?_); try (refine l_fact (fun h79 => ?_))); refine j_move ?_; refine j_extract ?_; refine j_extract ?_; refine j_assignL (fun _ => ?_); refine j_assignL (fun _ => ?_); refine l_nil ?_; refine k_seq ?_; refine k_drawF (.one 0 [] (.one 1 [] (.one 2 [] (.one 3 [] (.one 4 [] (.one 5 [] (.one 6 [] (.one 7 [] (.one 8 [] (.one 9 [] (.one 10 [] (.one 11 [] (.one 12 [] (.one 14 [] (.one 15 [] (.one 16 [] (.one 17 [] (.one 13 [17] (.one 18 [] (.one 19 [] (.one 20 [] .nil))))))))))))))))))))) ?_; ((refine r_own (i := 0) (hq := (cV (hc := fun w1 hw => awake8_c w1))) (hfire := (fun _ => .nil)) (h := fun x82 => ?_); try (refine r_fact (fun h82 => ?_)))); refine r_move (i := 1) ?_)
        all_goals (first | refine r_un (i := 2) ?_ | (refine r_move (i := 2) ?_) | (refine r_case (g := 83) (by exact rfl) (fun g83 => ?_) (fun g83 => ?_) <;> (revert g83; (first | refine cv1 ?_ | refine cv2 ?_ | refine cvb ?_ | refine cvc ?_ | refine cv9 ?_ | refine cva ?_ | refine cv7 ?_ | refine cv8 ?_ | refine cvd ?_ | refine cve ?_ | skip); intro g83) <;> (try (exfalso; omega)) <;> (first | refine r_un (i := 2) ?_ | (refine r_move (i := 2) ?_))))
        all_goals ((first | refine r_un (i := 3) ?_ | (refine r_move (i := 3) ?_)); (first | refine r_un (i := 4) ?_ | (refine r_eql (i := 4) ?_)); refine r_pick (i := 5) ?_; refine r_move (i := 6) ?_)
        all_goals (first | refine r_un (i := 7) ?_ | (refine r_move (i := 7) ?_) | (refine r_case (g := 88) (by exact rfl) (fun g88 => ?_) (fun g88 => ?_) <;> (revert g88; (first | refine cv1 ?_ | refine cv2 ?_ | refine cvb ?_ | refine cvc ?_ | refine cv9 ?_ | refine cva ?_ | refine cv7 ?_ | refine cv8 ?_ | refine cvd ?_ | refine cve ?_ | skip); intro g88) <;> (try (exfalso; omega)) <;> (first | refine r_un (i := 7) ?_ | (refine r_move (i := 7) ?_))))
        all_goals ((first | refine r_un (i := 8) ?_ | (refine r_move (i := 8) ?_)); (first | refine r_un (i := 9) ?_ | (refine r_eql (i := 9) ?_)); refine r_pick (i := 10) ?_; refine r_move (i := 11) ?_)
        all_goals (first | refine r_un (i := 12) ?_ | (refine r_move (i := 12) ?_) | (refine r_case (g := 93) (by exact rfl) (fun g93 => ?_) (fun g93 => ?_) <;> (revert g93; (first | refine cv1 ?_ | refine cv2 ?_ | refine cvb ?_ | refine cvc ?_ | refine cv9 ?_ | refine cva ?_ | refine cv7 ?_ | refine cv8 ?_ | refine cvd ?_ | refine cve ?_ | skip); intro g93) <;> (try (exfalso; omega)) <;> (first | refine r_un (i := 12) ?_ | (refine r_move (i := 12) ?_))))
        all_goals ((first | refine r_un (i := 14) ?_ | (refine r_move (i := 14) ?_)); (first | refine r_un (i := 15) ?_ | (refine r_nilCheck (i := 15) ?_)); (first | refine r_un (i := 16) ?_ | (refine r_fieldAddr (i := 16) ?_)); (first | refine r_un (i := 17) ?_ | (refine r_ownQ (i := 17) (hq := (o_loadPart (k := 3) (by exact rfl) (by repeat (first | exact At.head | apply At.tail)) (by exact agg_of rfl) (by simp only [List.drop_zero, List.take_succ_cons, List.take_zero]; exact rfl) rfl)) (h := ?_))); ((first | refine r_un (i := 13) ?_ | ((refine r_own (i := 13) (hq := (cMO (A0 := famF ([x53.va] ++ x68.L)) (hA := HasAll.of fun f hf => .inr (.inr (.inl (memDx hf)))) (hc := fun w hs => aState_c (L := [x53.va] ++ x68.L) (cs := allCs (lK h kk key k v u yy.1 yy.2) []) hs (fits_add (fun z hz => by rw [List.mem_singleton.1 hz]; exact h53.fa) h68.2) (by have := lenD h68.1; simp only [List.length_append, List.length_cons, List.length_nil]; omega) (by have := lenD h68.1; omega)))) (hfire := (fun _ => by first | (refine FireAll.cons (by first | exact a_own (hq := o_loadPart (k := 3) (by exact rfl) (by repeat (first | exact At.head | apply At.tail)) (by exact agg_of rfl) (by simp only [List.drop_zero, List.take_succ_cons, List.take_zero]; exact rfl) rfl) | exact a_un) ?_; exact FireAll.nil) | (refine fireall_fact ?_; refine FireAll.cons (by first | exact a_own (hq := o_loadPart (k := 3) (by exact rfl) (by repeat (first | exact At.head | apply At.tail)) (by exact agg_of rfl) (by simp only [List.drop_zero, List.take_succ_cons, List.take_zero]; exact rfl) rfl) | exact a_un) ?_; exact FireAll.nil))) (h := fun x95 => ?_); try (refine r_fact (fun h95 => ?_)))))); ((first | refine r_un (i := 18) ?_ | ((refine r_own (i := 18) (hq := (cV (hc := fun w hw => sameT_c (L1 := x95.1) (L2 := [markV, markV, x53.vm] ++ x79.L) (cs1 := allCs (lK h kk key k v u yy.1 yy.2) []) (cs2 := allCs (lK h kk key k v u yy.1 yy.2) []) (hw.stAt (.inr (.inr (.inr ⟨_, .head _, rfl, rfl⟩))) (.inr (.inr (.inr ⟨_, .tail _ (.head _), rfl, rfl⟩))) (fun f hf => .inr (.inr (.inl (List.mem_append_left _ hf)))) h95.2) (hw.stAt (.inr (.inr (.inr ⟨_, .tail _ (.tail _ (.tail _ (.tail _ (.head _)))), rfl, rfl⟩))) (.inr (.inr (.inr ⟨_, .tail _ (.tail _ (.tail _ (.tail _ (.tail _ (.head _))))), rfl, rfl⟩))) (fun f hf => memDm hf) (fitDm h53 h79.2)) (by have h1 := congrArg List.length h95.1; have := lenD h68.1; simp only [List.length_map, allV_length, List.length_append, List.length_cons, List.length_nil] at h1; omega) (by have := lenD h79.1; simp only [List.length_append, List.length_cons, List.length_nil]; omega) (by have := lenD h68.1; omega) ⟨same_fin h53 h95.1 h68.1 h79.1, rfl, rfl⟩))) (hfire := (fun _ => .nil)) (h := fun x100 => ?_); try (refine r_fact (fun h100 => ?_)))))); refine r_pick (i := 19) ?_; refine r_assignL (i := 20) (hfire := (fun _ => .nil)) (h := fun _ => ?_); refine r_fin ?_)
        all_goals
         refine k_rv Try.results14 (fun w hw => ?_)
         exact ⟨rfl, hw.done⟩
end Go.Proofs.Ytmogngagpphnhaa
