/- Tasks whose codes own a variable: how they begin, how they go on. -/
import Derived.Test.YtmogngagpphnhaaGTk

set_option linter.unusedSimpArgs false
set_option linter.unusedVariables false
namespace Go.Ct
open Go Go.RowKit
/-- A variable that a code owns: its block and what it holds. -/
abbrev Ub := Nat × Int
abbrev ibox (T : TypeId) (v : Int) : Obj := .cells ⟨[.int .i64 v]⟩ T (0, 0)
def CloU (P : Program) (T : TypeId) (f : FuncId) (cap : List Value) (arg : Value) (B : Fr) (u : Ub) (R : Cd → Fr → Ub → Prop) : Prop :=
  ∀ w, SF w [u.1] [(u.1, ibox T u.2)] B [] [] w → Calls P f ⟨arg :: cap⟩ w fun e w' => ∃ y : Cd × Fr × Ub, e = .returned (.agg ⟨y.1.cells⟩) ∧ R y.1 (y.2.1 ++ B) y.2.2 ∧ SF w [u.1] [(y.2.2.1, ibox T y.2.2.2)] [] y.2.1 [] w'
/-- The code c means p, where the lists of B are as they are and the variable u is the code's own. -/
def Rq (P : Program) (T : TypeId) : Pc → Cd → Fr → Ub → Prop
  | .done r, c, _, _ => c = doneCd r
  | .load x k, c, B, u => ∃ f cap, c = loadCd x f cap ∧ plain P f = true ∧ ∀ v : Int, CloU P T f cap (.int .i64 v) B u fun c' B' u' => Rq P T (k v) c' B' u'
  | .cas x o n k, c, B, u => ∃ f cap, c = casCd x o n f cap ∧ plain P f = true ∧ ∀ v : Bool, CloU P T f cap (.bool v) B u fun c' B' u' => Rq P T (k v) c' B' u'
theorem Rq.kind {P : Program} {T : TypeId} {p : Pc} {c : Cd} {B : Fr} {u : Ub} (h : Rq P T p c B u) : c.a.k = p.kind := by
  cases p with
  | done r => rw [show c = doneCd r from h]; rfl
  | load x k => obtain ⟨f, cap, h1, _⟩ := h; rw [h1]; rfl
  | cas x o n k => obtain ⟨f, cap, h1, _⟩ := h; rw [h1]; rfl
theorem CloU.more {P : Program} {T : TypeId} {f : FuncId} {cap : List Value} {arg : Value} {B B2 : Fr} {u : Ub} {R : Cd → Fr → Ub → Prop} (h : CloU P T f cap arg B u R) (hb : ∀ x ∈ B, x ∈ B2) (hR : ∀ c C C2 v, (∀ x ∈ C, x ∈ C2) → R c C v → R c C2 v) : CloU P T f cap arg B2 u R := fun w hw =>
  (h w ⟨hw.st, fun f hf => hw.old f (hb f hf), hw.new, hw.own, hw.dis⟩).mono fun e w' ⟨y, he, hr, hs⟩ => ⟨y, he, hR _ _ _ _ (fun x hx => by
    rcases List.mem_append.1 hx with h1 | h1
    · exact List.mem_append_left _ h1
    · exact List.mem_append_right _ (hb x h1)) hr, hs⟩
theorem Rq.more {P : Program} {T : TypeId} : ∀ {p : Pc} {c : Cd} {B B2 : Fr} {u : Ub}, Rq P T p c B u → (∀ x ∈ B, x ∈ B2) → Rq P T p c B2 u
  | .done _, _, _, _, _, h, _ => h
  | .load _ k, _, _, _, _, ⟨f, cap, h1, h2, h3⟩, hb => ⟨f, cap, h1, h2, fun v => (h3 v).more hb fun _ _ _ _ hC h => Rq.more (p := k v) h hC⟩
  | .cas _ _ _ k, _, _, _, _, ⟨f, cap, h1, h2, h3⟩, hb => ⟨f, cap, h1, h2, fun v => (h3 v).more hb fun _ _ _ _ hC h => Rq.more (p := k v) h hC⟩
def CloU0 (P : Program) (T : TypeId) (f : FuncId) (cap : List Value) (B : Fr) (p : Pc) : Prop :=
  ∀ w, (∀ x ∈ B, Cl w x.1 x.2) → Calls P f ⟨cap⟩ w fun e w' => ∃ y : Cd × Fr × Ub, e = .returned (.agg ⟨y.1.cells⟩) ∧ Rq P T p y.1 (y.2.1 ++ B) y.2.2 ∧ SF w [] [(y.2.2.1, ibox T y.2.2.2)] [] y.2.1 [] w'
end Go.Ct
namespace Go.Proofs.Ytmogngagpphnhaa
open Go Go.RowKit Go.Ct
abbrev RqI := Rq Try.prog 3
section
variable {S : List (Nat × Value)} {w0 w : World} {M : List Nat} {H : List (Nat × Obj)} {A F : Fr} {O : List Ow} {ty : TypeId} {pos : String} {af : Array Edge} {gd : Option (Nat × Bool)} {X : Type} {V : X → Value}
/-- A call of a function value that captures, which may change known blocks. -/
theorem cMc {φ : X → Prop} {hs H' : List (Nat × Obj)} {hs' H1 : X → List (Nat × Obj)} {Fc F1 : X → Fr} {A0 : Fr} {is : List Nat} {f : FuncId} {cap : List Value} {xs : List Operand} {at_ : Array TypeId} {vs : List Value} {dst : Option Nat} {x : Operand}
    (hx : ev S x = .func (.func f) #[] ⟨cap⟩ := by exact rfl) (ha : evL S xs = vs := by (repeat (first | exact evL_nil _ | (apply evL_cons; focus ((conv => { lhs; whnf }); try exact rfl)))); first | done | fail) (hp : plain Try.prog f = true)
    (hc : ∀ w, SF w (Ks hs []) hs A0 [] [] w → Calls Try.prog f ⟨vs ++ cap⟩ w fun e w' => ∃ x, e = .returned (V x) ∧ φ x ∧ SF w (Ks hs []) (hs' x) [] (Fc x) [] w')
    (hH : Ats H is hs H' := by (repeat (first | exact Ats.nil | (apply Ats.cons; (focus ((repeat (first | exact LAt.head | apply LAt.tail)); done)); simp only [delA]))); first | done | fail)
    (hA : HasAll A F O A0 := by exact HasAll.of (fun _ h => Or.inr (Or.inl h)))
    (hl1 : ∀ x, is.length = (hs' x).length := by intro x; exact rfl)
    (hH1 : ∀ x, putA is (hs' x) H' = H1 x := by intro x; first | (simp only [putA, insA]; exact rfl) | exact rfl) (hF1 : ∀ x, Fc x ++ F = F1 x := by intro x; first | (simp only [List.nil_append, List.cons_append]; exact rfl) | exact rfl) :
    Loud Try.prog S (SF w0 M H A F O) ⟨dst, .call { callee := .value x, args := ⟨xs⟩, argTypes := at_ }, ty, pos, af, gd⟩ X V (fun x w => φ x ∧ SF w0 M (H1 x) A (F1 x) O w) :=
  loud_call (run_clo hx hp ha) fun w hw => (hc w (hw.memStart hH (Ats.nil (l := O)) hA)).mono fun _ _ ⟨x, he, hx, hs⟩ => ⟨x, he, hx, by
    have := hw.callMem (hs' := hs' x) (Hc := []) (os' := []) (Oc := []) hH (Ats.nil (l := O)) (by simpa using hs) (hl1 x) rfl
    rw [← hH1 x, ← hF1 x]
    simpa [putA] using this⟩
/-- A call of a function value that captures, which leaves new blocks. -/
theorem cFHc {φ : X → Prop} {Hc H1 : X → List (Nat × Obj)} {Fc F1 : X → Fr} {f : FuncId} {cap : List Value} {xs : List Operand} {at_ : Array TypeId} {vs : List Value} {dst : Option Nat} {x : Operand}
    (hx : ev S x = .func (.func f) #[] ⟨cap⟩ := by exact rfl) (ha : evL S xs = vs := by (repeat (first | exact evL_nil _ | (apply evL_cons; focus ((conv => { lhs; whnf }); try exact rfl)))); first | done | fail) (hp : plain Try.prog f = true)
    (hc : ∀ w, SF w0 M H A F O w → Calls Try.prog f ⟨vs ++ cap⟩ w fun e w' => ∃ x, e = .returned (V x) ∧ φ x ∧ SF w [] (Hc x) [] (Fc x) [] w')
    (hH1 : ∀ x, Hc x ++ H = H1 x := by intro x; first | (simp only [List.nil_append, List.cons_append]; exact rfl) | exact rfl) (hF1 : ∀ x, Fc x ++ F = F1 x := by intro x; first | (simp only [List.nil_append, List.cons_append]; exact rfl) | exact rfl) :
    Loud Try.prog S (SF w0 M H A F O) ⟨dst, .call { callee := .value x, args := ⟨xs⟩, argTypes := at_ }, ty, pos, af, gd⟩ X V (fun x w => φ x ∧ SF w0 M (H1 x) A (F1 x) O w) :=
  loud_call (run_clo hx hp ha) fun w hw => (hc w hw).mono fun _ _ ⟨x, he, hx, hs⟩ => ⟨x, he, hx, by rw [← hH1 x, ← hF1 x]; simpa using hw.call hs⟩
end
theorem begunU_c {f : FuncId} {cap : List Value} {B : Fr} {p : Pc} {w : World} (h : CloU0 Try.prog 3 f cap B p) (hp : plain Try.prog f = true) (hB : ∀ x ∈ B, Cl w x.1 x.2) :
    Calls Try.prog 85 #[.func (.func f) #[] ⟨cap⟩] w fun e w' => ∃ y : Cd × Fr × Ub, e = .returned (.agg ⟨y.1.cells⟩) ∧ RqI p y.1 (y.2.1 ++ B) y.2.2 ∧ SF w [] [(y.2.2.1, ibox 3 y.2.2.2)] [] y.2.1 [] w' := by
  refine enterD Try.func85 Try.ntmps85 rfl rfl (SF.begin hB) ?_
  simp only [mkS]
  all_goals (refine kd_seq ?_; refine kd_region ?_; refine jd_alloc (fun x2 => ?_); refine ld_nil ?_; refine kd_seq ?_; refine kd_region ?_; (refine ld_quiet (o_makeFunc (by (repeat (first | exact evL_nil _ | (apply evL_cons; focus ((conv => { lhs; whnf }); try exact rfl)))); first | done | fail)) rfl ?_); refine ld_defer rfl ?_; refine ld_nil ?_; refine kd_seq ?_; refine kd_seq ?_; refine kd_region ?_; refine jd_move ?_; refine ld_quiet (o_eqlFn (by exact rfl) (by exact rfl) (eqFn0 _ _ _)) rfl ?_; refine ld_nil ?_)
  all_goals
   refine kd_if (fun c5 => ?_) (fun c5 => ?_)
   · try (exact absurd c5 (by decide))
     all_goals (revert c5; (first | refine cv1 ?_ | refine cv3 ?_ | refine cv5 ?_ | refine cv7 ?_ | refine cv9 ?_ | refine cvb ?_ | refine cvd ?_ | skip); intro c5)
     all_goals
      cases c5
     all_goals (refine kd_seq ?_; refine kd_region ?_; refine jd_build ?_; refine jd_store (fun _ => ?_); refine ld_nil ?_)
     all_goals
      refine kd_retvF (idle_begun _) (by kernel_rfl) Try.results85 (.cell (by exact rfl) (by repeat (first | exact At.head | apply At.tail)) (by exact agg_of rfl) .nil) (fun w hw => ?_)
      exact ⟨x8, rfl, h8, hw.ret (by repeat (first | exact List.nil_sublist _ | apply List.Sublist.cons_cons | apply List.Sublist.cons)) (FSub.ofSub fun f hf => by simpa using hf) (List.nil_sublist _)⟩
   · try (exact absurd c5 (by decide))
     all_goals (revert c5; (first | refine cv2 ?_ | refine cv4 ?_ | refine cv6 ?_ | refine cv8 ?_ | refine cva ?_ | refine cvc ?_ | refine cve ?_ | skip); intro c5)
     all_goals (refine kd_skip ?_; refine kd_seq ?_; refine kd_region ?_; refine jd_move ?_; (refine jd_own (cFHc (V := fun y : Cd × Fr × Ub => .agg ⟨y.1.cells⟩) (Fc := fun y => y.2.1) (Hc := fun y => [(y.2.2.1, ibox 3 y.2.2.2)]) (f := f) (cap := cap) (vs := []) (hp := hp) (hc := fun w1 hw => h w1 fun x hx => hw.cl (.old (FAt.of_mem hx)))) (fun x8 => ?_); try (refine ld_fact (fun h8 => ?_))); refine jd_own0 (lSF fun _ => o_storeAgg (by exact rfl) (by repeat (first | exact At.head | apply At.tail)) (by exact rfl) (cd_one _) (by exact agg_of rfl) (by exact rfl) (by simp only [setAt]; exact rfl)) (fun _ => ?_); refine ld_nil ?_)
     all_goals
      refine kd_retvF (idle_begun _) (by kernel_rfl) Try.results85 (.cell (by exact rfl) (by repeat (first | exact At.head | apply At.tail)) (by exact agg_of rfl) .nil) (fun w hw => ?_)
      exact ⟨x8, rfl, h8, hw.ret (by repeat (first | exact List.nil_sublist _ | apply List.Sublist.cons_cons | apply List.Sublist.cons)) (FSub.ofSub fun f hf => by simpa using hf) (List.nil_sublist _)⟩
theorem newU_c {f : FuncId} {cap : List Value} {B : Fr} {p : Pc} {w : World} {b : Nat} (h : CloU0 Try.prog 3 f cap B p) (hp : plain Try.prog f = true) (hB : ∀ x ∈ B, Cl w x.1 x.2) :
    Calls Try.prog 41 #[.iface 27 (.pointer (some ⟨b, 0, none⟩)), .func (.func f) #[] ⟨cap⟩] w fun e w' => ∃ x : Nat × Cd × Fr × Ub, e = .returned (.pointer (some ⟨x.1, 0, none⟩)) ∧ RqI p x.2.1 (x.2.2.1 ++ B) x.2.2.2 ∧ SF w [] [(x.2.2.2.1, ibox 3 x.2.2.2.2), (x.1, tO b x.2.1 0)] [] x.2.2.1 [] w' := by
  refine enter Try.func41 Try.ntmps41 rfl rfl (SF.begin hB) ?_
  simp only [mkS]
  all_goals (refine k_seq ?_; refine k_region ?_; refine j_assignL (fun _ => ?_); refine l_nil ?_; refine k_seq ?_; refine k_region ?_; refine j_move ?_; refine j_build ?_; refine j_box (fun x8 => ?_); refine j_assignL (fun _ => ?_); refine l_nil ?_; refine k_seq ?_; refine k_region ?_; refine j_move ?_; refine j_move ?_; (refine j_own (cFH (V := fun y : Cd × Fr × Ub => .agg ⟨y.1.cells⟩) (Fc := fun y => y.2.1) (Hc := fun y => [(y.2.2.1, ibox 3 y.2.2.2)]) (Oc := fun _ => []) (hc := fun w1 hw => begunU_c h hp fun x hx => hw.cl (.old (FAt.of_mem hx)))) (fun x11 => ?_); try (refine l_fact (fun h11 => ?_))); refine j_nilCheck ?_; refine j_fieldAddr ?_; refine j_own0 (lSF fun _ => o_storePart (off := 1) (vs := x11.1.cells) (cs := tkC b x11.1 0 false) (by exact rfl) (by repeat (first | exact At.head | apply At.tail)) (by exact rfl) (cd_one _) (by exact agg_of rfl) (Nat.le_of_ble_eq_true rfl) (by exact rfl) (by simp only [setAt]; exact rfl)) (fun _ => ?_); refine l_nil ?_; refine k_seq ?_; refine k_region ?_; refine j_move ?_; refine j_assignL (fun _ => ?_); refine l_nil ?_)
  all_goals
   refine k_rv Try.results41 (fun w hw => ?_)
   exact ⟨(x8, x11), rfl, h11, hw.ret (List.Sublist.refl _) (FSub.ofSub fun f hf => by simpa using hf) (List.nil_sublist _)⟩
section
variable {D : List Nat} {A B : Fr} {L : List NdV} {cs : List Int} {gen acc : Int} {pn pc : Option Addr} {cn cc b bt n : Nat} {w : World} {c : Cd} {u : Ub}
theorem followedU_load {x : Int} {k : Int → Pc} (hs : SF w D [(b, aO L cs gen acc pn cn pc cc), (u.1, ibox 3 u.2)] A [] (mW L cs pn cn pc cc) w) (hr : RqI (.load x k) c B u) (hB : ∀ y ∈ B, y ∈ A) (hx : x ≤ 9223372036854775807) (hl : cs.length ≤ 274877906944) :
    Calls Try.prog 91 #[.iface 27 (.pointer (some ⟨b, 0, none⟩)), .agg ⟨c.cells⟩] w fun e w' => ∃ y : Cd × Fr × Ub, e = .returned (.agg ⟨y.1.cells⟩) ∧ RqI (k (cellV cs x)) y.1 (y.2.1 ++ B) y.2.2 ∧ SF w D [(b, aO L cs gen (up acc) pn cn pc cc), (y.2.2.1, ibox 3 y.2.2.2)] [] y.2.1 (mW L cs pn cn pc cc) w' := by
  obtain ⟨f, cap, rfl, hp, hk⟩ := hr
  refine enterD Try.func91 Try.ntmps91 rfl rfl hs ?_
  simp only [mkS]
  all_goals (refine kd_seq ?_; refine kd_region ?_; refine jd_box (fun x3 => ?_); refine jd_alloc (fun x4 => ?_); refine ld_nil ?_; refine kd_seq ?_; refine kd_region ?_; (refine ld_quiet (o_makeFunc (by (repeat (first | exact evL_nil _ | (apply evL_cons; focus ((conv => { lhs; whnf }); try exact rfl)))); first | done | fail)) rfl ?_); refine ld_defer rfl ?_; refine ld_nil ?_; refine kd_seq ?_; refine kd_region ?_; refine jd_fieldAddr ?_; refine ld_quiet (o_loadPart (k := 4) (vs := (loadCd x f cap).a.cells) (by exact rfl) (by repeat (first | exact At.head | apply At.tail)) (by exact agg_of rfl) rfl rfl) rfl ?_; refine jd_alloc (fun x5 => ?_); refine jd_store (fun _ => ?_); refine ld_nil ?_; refine kd_seq ?_; refine kd_seq ?_; refine kd_region ?_; refine jd_fieldAddr ?_; refine jd_load ?_; refine jd_eql ?_; refine ld_nil ?_)
  all_goals
   refine kd_if (fun c13 => ?_) (fun c13 => ?_)
   · try (exact absurd c13 (by decide))
     all_goals (revert c13; (first | refine cv1 ?_ | refine cv3 ?_ | refine cv5 ?_ | refine cv7 ?_ | refine cv9 ?_ | refine cvb ?_ | refine cvd ?_ | skip); intro c13)
     all_goals (refine kd_seq ?_; refine kd_region ?_; refine jd_assignL (fun _ => ?_); refine ld_nil ?_; refine kd_seq ?_; refine kd_seq ?_; refine kd_region ?_; refine jd_move ?_; refine ld_quiet (o_neqNI (by exact rfl) (by exact rfl) (neqNI_arena _)) rfl ?_; refine ld_nil ?_)
     all_goals
      refine kd_if (fun c15 => ?_) (fun c15 => ?_)
      · try (exact absurd c15 (by decide))
        all_goals (revert c15; (first | refine cv1 ?_ | refine cv3 ?_ | refine cv5 ?_ | refine cv7 ?_ | refine cv9 ?_ | refine cvb ?_ | refine cvd ?_ | skip); intro c15)
        all_goals (refine kd_region ?_; refine jd_move ?_; refine jd_fieldAddr ?_; refine jd_load ?_; (refine jd_own (cMI (V := fun _ : Unit => .int .i64 (cellV cs x)) (os' := fun _ => mW L cs pn cn pc cc) (hs' := fun _ => [(b, aO L cs gen (up acc) pn cn pc cc)]) (Fc := fun _ => []) (A0 := A) (hm := fun w => inv_Load _ _ w) (hc := fun w hw => aLoad_c hw x hx hl)) (fun x19 => ?_); try (refine ld_fact (fun h19 => ?_))); refine jd_assignL (fun _ => ?_); refine ld_nil ?_; refine kd_seq ?_; refine kd_seq ?_; refine kd_region ?_; refine jd_fieldAddr ?_; refine jd_load ?_; refine ld_quiet (o_eqlFn (by exact rfl) (by exact rfl) (eqFn1 _ _ _)) rfl ?_; refine ld_nil ?_)
        all_goals
         refine kd_if (fun c22 => ?_) (fun c22 => ?_)
         · try (exact absurd c22 (by decide))
           all_goals (revert c22; (first | refine cv1 ?_ | refine cv3 ?_ | refine cv5 ?_ | refine cv7 ?_ | refine cv9 ?_ | refine cvb ?_ | refine cvd ?_ | skip); intro c22)
           all_goals
            cases c22
           all_goals (refine kd_seq ?_; refine kd_region ?_; refine jd_build ?_; refine jd_store (fun _ => ?_); refine ld_nil ?_)
           all_goals
            refine kd_retvF (idle_followed _) (by kernel_rfl) Try.results91 (.cell (by exact rfl) (by repeat (first | exact At.head | apply At.tail)) (by exact agg_of rfl) .nil) (fun w hw => ?_)
            exact ⟨x27, rfl, h27, hw.ret (by repeat (first | exact List.Sublist.refl _ | apply List.Sublist.cons)) (FSub.ofSub fun f hf => by simpa using hf) (List.Sublist.refl _)⟩
         · try (exact absurd c22 (by decide))
           all_goals (revert c22; (first | refine cv2 ?_ | refine cv4 ?_ | refine cv6 ?_ | refine cv8 ?_ | refine cva ?_ | refine cvc ?_ | refine cve ?_ | skip); intro c22)
           all_goals (refine kd_skip ?_; refine kd_seq ?_; refine kd_region ?_; refine jd_fieldAddr ?_; refine jd_load ?_; refine jd_move ?_; (refine jd_own (cMc (V := fun y : Cd × Fr × Ub => .agg ⟨y.1.cells⟩) (Fc := fun y => y.2.1) (hs := [(u.1, ibox 3 u.2)]) (hs' := fun y => [(y.2.2.1, ibox 3 y.2.2.2)]) (A0 := B) (f := f) (cap := cap) (vs := [.int .i64 (cellV cs x)]) (hp := hp) (hA := HasAll.of fun y hy => Or.inr (Or.inl (hB y hy))) (hc := fun w1 hw => hk (cellV cs x) w1 hw)) (fun x27 => ?_); try (refine ld_fact (fun h27 => ?_))); refine jd_own0 (lSF fun _ => o_storeAgg (by exact rfl) (by repeat (first | exact At.head | apply At.tail)) (by exact rfl) (cd_one _) (by exact agg_of rfl) (by exact rfl) (by simp only [setAt]; exact rfl)) (fun _ => ?_); refine ld_nil ?_)
           all_goals
            refine kd_retvF (idle_followed _) (by kernel_rfl) Try.results91 (.cell (by exact rfl) (by repeat (first | exact At.head | apply At.tail)) (by exact agg_of rfl) .nil) (fun w hw => ?_)
            exact ⟨x27, rfl, h27, hw.ret (by repeat (first | exact List.Sublist.refl _ | apply List.Sublist.cons)) (FSub.ofSub fun f hf => by simpa using hf) (List.Sublist.refl _)⟩
      · try (exact absurd c15 (by decide))
        all_goals (revert c15; (first | refine cv2 ?_ | refine cv4 ?_ | refine cv6 ?_ | refine cv8 ?_ | refine cva ?_ | refine cvc ?_ | refine cve ?_ | skip); intro c15)
        all_goals
         cases c15
        all_goals (refine kd_skip ?_; refine kd_seq ?_; refine kd_seq ?_; refine kd_region ?_; refine jd_fieldAddr ?_; refine jd_load ?_; refine ld_quiet (o_eqlFn (by exact rfl) (by exact rfl) (eqFn1 _ _ _)) rfl ?_; refine ld_nil ?_)
        all_goals
         refine kd_if (fun c22 => ?_) (fun c22 => ?_)
         · try (exact absurd c22 (by decide))
           all_goals (revert c22; (first | refine cv1 ?_ | refine cv3 ?_ | refine cv5 ?_ | refine cv7 ?_ | refine cv9 ?_ | refine cvb ?_ | refine cvd ?_ | skip); intro c22)
           all_goals
            cases c22
           all_goals (refine kd_seq ?_; refine kd_region ?_; refine jd_build ?_; refine jd_store (fun _ => ?_); refine ld_nil ?_)
           all_goals
            refine kd_retvF (idle_followed _) (by kernel_rfl) Try.results91 (.cell (by exact rfl) (by repeat (first | exact At.head | apply At.tail)) (by exact agg_of rfl) .nil) (fun w hw => ?_)
            exact ⟨x27, rfl, h27, hw.ret (by repeat (first | exact List.Sublist.refl _ | apply List.Sublist.cons)) (FSub.ofSub fun f hf => by simpa using hf) (List.Sublist.refl _)⟩
         · try (exact absurd c22 (by decide))
           all_goals (revert c22; (first | refine cv2 ?_ | refine cv4 ?_ | refine cv6 ?_ | refine cv8 ?_ | refine cva ?_ | refine cvc ?_ | refine cve ?_ | skip); intro c22)
           all_goals (refine kd_skip ?_; refine kd_seq ?_; refine kd_region ?_; refine jd_fieldAddr ?_; refine jd_load ?_; refine jd_move ?_; (refine jd_own (cMc (V := fun y : Cd × Fr × Ub => .agg ⟨y.1.cells⟩) (Fc := fun y => y.2.1) (hs := [(u.1, ibox 3 u.2)]) (hs' := fun y => [(y.2.2.1, ibox 3 y.2.2.2)]) (A0 := B) (f := f) (cap := cap) (vs := [.int .i64 (cellV cs x)]) (hp := hp) (hA := HasAll.of fun y hy => Or.inr (Or.inl (hB y hy))) (hc := fun w1 hw => hk (cellV cs x) w1 hw)) (fun x27 => ?_); try (refine ld_fact (fun h27 => ?_))); refine jd_own0 (lSF fun _ => o_storeAgg (by exact rfl) (by repeat (first | exact At.head | apply At.tail)) (by exact rfl) (cd_one _) (by exact agg_of rfl) (by exact rfl) (by simp only [setAt]; exact rfl)) (fun _ => ?_); refine ld_nil ?_)
           all_goals
            refine kd_retvF (idle_followed _) (by kernel_rfl) Try.results91 (.cell (by exact rfl) (by repeat (first | exact At.head | apply At.tail)) (by exact agg_of rfl) .nil) (fun w hw => ?_)
            exact ⟨x27, rfl, h27, hw.ret (by repeat (first | exact List.Sublist.refl _ | apply List.Sublist.cons)) (FSub.ofSub fun f hf => by simpa using hf) (List.Sublist.refl _)⟩
   · try (exact absurd c13 (by decide))
     all_goals (revert c13; (first | refine cv2 ?_ | refine cv4 ?_ | refine cv6 ?_ | refine cv8 ?_ | refine cva ?_ | refine cvc ?_ | refine cve ?_ | skip); intro c13)
     all_goals
      exact (c13 rfl).elim
     all_goals (refine kd_skip ?_; refine kd_seq ?_; refine kd_region ?_; refine jd_move ?_; refine ld_quiet (o_neqNI (by exact rfl) (by exact rfl) (neqNI_arena _)) rfl ?_; refine jd_move ?_)
     all_goals (first | refine jd_un ?_ | (refine jd_yes ?_; refine jd_move ?_) | (refine ld_case (g := 30) (by exact rfl) (fun g30 => ?_) (fun g30 => ?_) <;> (revert g30; (first | refine cv1 ?_ | refine cv2 ?_ | refine cvb ?_ | refine cvc ?_ | refine cv9 ?_ | refine cva ?_ | refine cv7 ?_ | refine cv8 ?_ | refine cvd ?_ | refine cve ?_ | skip); intro g30) <;> (first | refine jd_un ?_ | (refine jd_yes ?_; refine jd_move ?_))))
     all_goals ((first | refine jd_un ?_ | (refine jd_yes ?_; refine jd_fieldAddr ?_)); (first | refine jd_un ?_ | (refine jd_yes ?_; refine jd_load ?_)); (first | refine jd_un ?_ | (refine jd_yes ?_; refine jd_fieldAddr ?_)); (first | refine jd_un ?_ | (refine jd_yes ?_; refine jd_load ?_)); (first | refine jd_un ?_ | (refine jd_yes ?_; refine jd_fieldAddr ?_)); (first | refine jd_un ?_ | (refine jd_yes ?_; refine jd_load ?_)); ((first | refine jd_un ?_ | (refine jd_yes ?_; (refine jd_own (cMI (hm := fun w => inv_CAS _ _ _ _ w) (hc := fun w hw => aCAS_c hw _ _ _ _ hl)) (fun x38 => ?_); try (refine ld_fact (fun h38 => ?_)))))); refine jd_pick ?_; refine jd_assignL (fun _ => ?_); refine ld_nil ?_; refine kd_seq ?_; refine kd_seq ?_; refine kd_region ?_; refine jd_fieldAddr ?_; refine jd_load ?_; refine ld_quiet (o_eqlFn (by exact rfl) (by exact rfl) (eqFn2 _ _ _)) rfl ?_; refine ld_nil ?_)
     all_goals
      refine kd_if (fun c42 => ?_) (fun c42 => ?_)
      · try (exact absurd c42 (by decide))
        all_goals (revert c42; (first | refine cv1 ?_ | refine cv3 ?_ | refine cv5 ?_ | refine cv7 ?_ | refine cv9 ?_ | refine cvb ?_ | refine cvd ?_ | skip); intro c42)
        all_goals (refine kd_seq ?_; refine kd_region ?_; refine jd_build ?_; refine jd_store (fun _ => ?_); refine ld_nil ?_)
        all_goals
         refine kd_retvF (idle_followed _) (by kernel_rfl) Try.results91 (.cell (by exact rfl) (by repeat (first | exact At.head | apply At.tail)) (by exact agg_of rfl) .nil) (fun w hw => ?_)
         exact ⟨x27, rfl, h27, hw.ret (by repeat (first | exact List.Sublist.refl _ | apply List.Sublist.cons)) (FSub.ofSub fun f hf => by simpa using hf) (List.Sublist.refl _)⟩
      · try (exact absurd c42 (by decide))
        all_goals (revert c42; (first | refine cv2 ?_ | refine cv4 ?_ | refine cv6 ?_ | refine cv8 ?_ | refine cva ?_ | refine cvc ?_ | refine cve ?_ | skip); intro c42)
        all_goals (refine kd_skip ?_; refine kd_seq ?_; refine kd_region ?_; refine jd_fieldAddr ?_; refine jd_load ?_; refine jd_move ?_; (refine jd_own (NO) (fun x47 => ?_); try (refine ld_fact (fun h47 => ?_))); refine jd_own0 (lSF fun _ => o_storeAgg (by exact rfl) (by repeat (first | exact At.head | apply At.tail)) (by exact rfl) (cd_one _) (by exact agg_of rfl) (by exact rfl) (by simp only [setAt]; exact rfl)) (fun _ => ?_); refine ld_nil ?_)
        all_goals
         refine kd_retvF (idle_followed _) (by kernel_rfl) Try.results91 (.cell (by exact rfl) (by repeat (first | exact At.head | apply At.tail)) (by exact agg_of rfl) .nil) (fun w hw => ?_)
         exact ⟨x27, rfl, h27, hw.ret (by repeat (first | exact List.Sublist.refl _ | apply List.Sublist.cons)) (FSub.ofSub fun f hf => by simpa using hf) (List.Sublist.refl _)⟩
theorem followedU_cas {x o n : Int} {k : Bool → Pc} (hs : SF w D [(b, aO L cs gen acc pn cn pc cc), (u.1, ibox 3 u.2)] A [] (mW L cs pn cn pc cc) w) (hr : RqI (.cas x o n k) c B u) (hB : ∀ y ∈ B, y ∈ A) (hx : x ≤ 9223372036854775807) (hl : cs.length ≤ 274877906944) :
    Calls Try.prog 91 #[.iface 27 (.pointer (some ⟨b, 0, none⟩)), .agg ⟨c.cells⟩] w fun e w' => ∃ y : Cd × Fr × Ub, e = .returned (.agg ⟨y.1.cells⟩) ∧ RqI (k (casB cs x o)) y.1 (y.2.1 ++ B) y.2.2 ∧ SF w D [(b, aO L (casL cs x o n) gen (up acc) pn cn pc cc), (y.2.2.1, ibox 3 y.2.2.2)] [] y.2.1 (mW L (casL cs x o n) pn cn pc cc) w' := by
  obtain ⟨f, cap, rfl, hp, hk⟩ := hr
  refine enterD Try.func91 Try.ntmps91 rfl rfl hs ?_
  simp only [mkS]
  all_goals (refine kd_seq ?_; refine kd_region ?_; refine jd_box (fun x3 => ?_); refine jd_alloc (fun x4 => ?_); refine ld_nil ?_; refine kd_seq ?_; refine kd_region ?_; (refine ld_quiet (o_makeFunc (by (repeat (first | exact evL_nil _ | (apply evL_cons; focus ((conv => { lhs; whnf }); try exact rfl)))); first | done | fail)) rfl ?_); refine ld_defer rfl ?_; refine ld_nil ?_; refine kd_seq ?_; refine kd_region ?_; refine jd_fieldAddr ?_; refine ld_quiet (o_loadPart (k := 4) (vs := (casCd x o n f cap).a.cells) (by exact rfl) (by repeat (first | exact At.head | apply At.tail)) (by exact agg_of rfl) rfl rfl) rfl ?_; refine jd_alloc (fun x5 => ?_); refine jd_store (fun _ => ?_); refine ld_nil ?_; refine kd_seq ?_; refine kd_seq ?_; refine kd_region ?_; refine jd_fieldAddr ?_; refine jd_load ?_; refine jd_eql ?_; refine ld_nil ?_)
  all_goals
   refine kd_if (fun c13 => ?_) (fun c13 => ?_)
   · try (exact absurd c13 (by decide))
     all_goals (revert c13; (first | refine cv1 ?_ | refine cv3 ?_ | refine cv5 ?_ | refine cv7 ?_ | refine cv9 ?_ | refine cvb ?_ | refine cvd ?_ | skip); intro c13)
     all_goals
      exact absurd (show (2 : Int) = 1 from c13) (by decide)
     all_goals (refine kd_seq ?_; refine kd_region ?_; refine jd_assignL (fun _ => ?_); refine ld_nil ?_; refine kd_seq ?_; refine kd_seq ?_; refine kd_region ?_; refine jd_move ?_; refine ld_quiet (o_neqNI (by exact rfl) (by exact rfl) (neqNI_arena _)) rfl ?_; refine ld_nil ?_)
     all_goals
      refine kd_if (fun c15 => ?_) (fun c15 => ?_)
      · try (exact absurd c15 (by decide))
        all_goals (revert c15; (first | refine cv1 ?_ | refine cv3 ?_ | refine cv5 ?_ | refine cv7 ?_ | refine cv9 ?_ | refine cvb ?_ | refine cvd ?_ | skip); intro c15)
        all_goals (refine kd_region ?_; refine jd_move ?_; refine jd_fieldAddr ?_; refine jd_load ?_; (refine jd_own (cMI (V := fun _ : Unit => .int .i64 (cellV cs x)) (os' := fun _ => mW L cs pn cn pc cc) (hs' := fun _ => [(b, aO L cs gen (up acc) pn cn pc cc)]) (Fc := fun _ => []) (A0 := A) (hm := fun w => inv_Load _ _ w) (hc := fun w hw => aLoad_c hw x hx hl)) (fun x19 => ?_); try (refine ld_fact (fun h19 => ?_))); refine jd_assignL (fun _ => ?_); refine ld_nil ?_; refine kd_seq ?_; refine kd_seq ?_; refine kd_region ?_; refine jd_fieldAddr ?_; refine jd_load ?_; refine ld_quiet (o_eqlFn (by exact rfl) (by exact rfl) (eqFn1 _ _ _)) rfl ?_; refine ld_nil ?_)
        all_goals
         refine kd_if (fun c22 => ?_) (fun c22 => ?_)
         · try (exact absurd c22 (by decide))
           all_goals (revert c22; (first | refine cv1 ?_ | refine cv3 ?_ | refine cv5 ?_ | refine cv7 ?_ | refine cv9 ?_ | refine cvb ?_ | refine cvd ?_ | skip); intro c22)
           all_goals (refine kd_seq ?_; refine kd_region ?_; refine jd_build ?_; refine jd_store (fun _ => ?_); refine ld_nil ?_)
           all_goals
            refine kd_retvF (idle_followed _) (by kernel_rfl) Try.results91 (.cell (by exact rfl) (by repeat (first | exact At.head | apply At.tail)) (by exact agg_of rfl) .nil) (fun w hw => ?_)
            exact ⟨x47, rfl, cas_eqB h38 ▸ h47, hw.ret (by repeat (first | exact List.Sublist.refl _ | apply List.Sublist.cons)) (FSub.ofSub fun f hf => by simpa using hf) (List.Sublist.refl _)⟩
         · try (exact absurd c22 (by decide))
           all_goals (revert c22; (first | refine cv2 ?_ | refine cv4 ?_ | refine cv6 ?_ | refine cv8 ?_ | refine cva ?_ | refine cvc ?_ | refine cve ?_ | skip); intro c22)
           all_goals (refine kd_skip ?_; refine kd_seq ?_; refine kd_region ?_; refine jd_fieldAddr ?_; refine jd_load ?_; refine jd_move ?_; (refine jd_own (NO) (fun x27 => ?_); try (refine ld_fact (fun h27 => ?_))); refine jd_own0 (lSF fun _ => o_storeAgg (by exact rfl) (by repeat (first | exact At.head | apply At.tail)) (by exact rfl) (cd_one _) (by exact agg_of rfl) (by exact rfl) (by simp only [setAt]; exact rfl)) (fun _ => ?_); refine ld_nil ?_)
           all_goals
            refine kd_retvF (idle_followed _) (by kernel_rfl) Try.results91 (.cell (by exact rfl) (by repeat (first | exact At.head | apply At.tail)) (by exact agg_of rfl) .nil) (fun w hw => ?_)
            exact ⟨x47, rfl, cas_eqB h38 ▸ h47, hw.ret (by repeat (first | exact List.Sublist.refl _ | apply List.Sublist.cons)) (FSub.ofSub fun f hf => by simpa using hf) (List.Sublist.refl _)⟩
      · try (exact absurd c15 (by decide))
        all_goals (revert c15; (first | refine cv2 ?_ | refine cv4 ?_ | refine cv6 ?_ | refine cv8 ?_ | refine cva ?_ | refine cvc ?_ | refine cve ?_ | skip); intro c15)
        all_goals (refine kd_skip ?_; refine kd_seq ?_; refine kd_seq ?_; refine kd_region ?_; refine jd_fieldAddr ?_; refine jd_load ?_; refine ld_quiet (o_eqlFn (by exact rfl) (by exact rfl) (eqFn1 _ _ _)) rfl ?_; refine ld_nil ?_)
        all_goals
         refine kd_if (fun c22 => ?_) (fun c22 => ?_)
         · try (exact absurd c22 (by decide))
           all_goals (revert c22; (first | refine cv1 ?_ | refine cv3 ?_ | refine cv5 ?_ | refine cv7 ?_ | refine cv9 ?_ | refine cvb ?_ | refine cvd ?_ | skip); intro c22)
           all_goals (refine kd_seq ?_; refine kd_region ?_; refine jd_build ?_; refine jd_store (fun _ => ?_); refine ld_nil ?_)
           all_goals
            refine kd_retvF (idle_followed _) (by kernel_rfl) Try.results91 (.cell (by exact rfl) (by repeat (first | exact At.head | apply At.tail)) (by exact agg_of rfl) .nil) (fun w hw => ?_)
            exact ⟨x47, rfl, cas_eqB h38 ▸ h47, hw.ret (by repeat (first | exact List.Sublist.refl _ | apply List.Sublist.cons)) (FSub.ofSub fun f hf => by simpa using hf) (List.Sublist.refl _)⟩
         · try (exact absurd c22 (by decide))
           all_goals (revert c22; (first | refine cv2 ?_ | refine cv4 ?_ | refine cv6 ?_ | refine cv8 ?_ | refine cva ?_ | refine cvc ?_ | refine cve ?_ | skip); intro c22)
           all_goals (refine kd_skip ?_; refine kd_seq ?_; refine kd_region ?_; refine jd_fieldAddr ?_; refine jd_load ?_; refine jd_move ?_; (refine jd_own (NO) (fun x27 => ?_); try (refine ld_fact (fun h27 => ?_))); refine jd_own0 (lSF fun _ => o_storeAgg (by exact rfl) (by repeat (first | exact At.head | apply At.tail)) (by exact rfl) (cd_one _) (by exact agg_of rfl) (by exact rfl) (by simp only [setAt]; exact rfl)) (fun _ => ?_); refine ld_nil ?_)
           all_goals
            refine kd_retvF (idle_followed _) (by kernel_rfl) Try.results91 (.cell (by exact rfl) (by repeat (first | exact At.head | apply At.tail)) (by exact agg_of rfl) .nil) (fun w hw => ?_)
            exact ⟨x47, rfl, cas_eqB h38 ▸ h47, hw.ret (by repeat (first | exact List.Sublist.refl _ | apply List.Sublist.cons)) (FSub.ofSub fun f hf => by simpa using hf) (List.Sublist.refl _)⟩
   · try (exact absurd c13 (by decide))
     all_goals (revert c13; (first | refine cv2 ?_ | refine cv4 ?_ | refine cv6 ?_ | refine cv8 ?_ | refine cva ?_ | refine cvc ?_ | refine cve ?_ | skip); intro c13)
     all_goals (refine kd_skip ?_; refine kd_seq ?_; refine kd_region ?_; refine jd_move ?_; refine ld_quiet (o_neqNI (by exact rfl) (by exact rfl) (neqNI_arena _)) rfl ?_; refine jd_move ?_)
     all_goals (first | refine jd_un ?_ | (refine jd_yes ?_; refine jd_move ?_) | (refine ld_case (g := 30) (by exact rfl) (fun g30 => ?_) (fun g30 => ?_) <;> (revert g30; (first | refine cv1 ?_ | refine cv2 ?_ | refine cvb ?_ | refine cvc ?_ | refine cv9 ?_ | refine cva ?_ | refine cv7 ?_ | refine cv8 ?_ | refine cvd ?_ | refine cve ?_ | skip); intro g30) <;> (first | refine jd_un ?_ | (refine jd_yes ?_; refine jd_move ?_))))
     all_goals ((first | refine jd_un ?_ | (refine jd_yes ?_; refine jd_fieldAddr ?_)); (first | refine jd_un ?_ | (refine jd_yes ?_; refine jd_load ?_)); (first | refine jd_un ?_ | (refine jd_yes ?_; refine jd_fieldAddr ?_)); (first | refine jd_un ?_ | (refine jd_yes ?_; refine jd_load ?_)); (first | refine jd_un ?_ | (refine jd_yes ?_; refine jd_fieldAddr ?_)); (first | refine jd_un ?_ | (refine jd_yes ?_; refine jd_load ?_)); ((first | refine jd_un ?_ | (refine jd_yes ?_; (refine jd_own (cMI (V := Value.bool) (os' := fun _ => mW L (casL cs x o n) pn cn pc cc) (hs' := fun _ => [(b, aO L (casL cs x o n) gen (up acc) pn cn pc cc)]) (Fc := fun _ => []) (A0 := A) (hm := fun w => inv_CAS _ _ _ _ w) (hc := fun w hw => aCAS_c hw x o n hx hl)) (fun x38 => ?_); try (refine ld_fact (fun h38 => ?_)))))); refine jd_pick ?_; refine jd_assignL (fun _ => ?_); refine ld_nil ?_; refine kd_seq ?_; refine kd_seq ?_; refine kd_region ?_; refine jd_fieldAddr ?_; refine jd_load ?_; refine ld_quiet (o_eqlFn (by exact rfl) (by exact rfl) (eqFn2 _ _ _)) rfl ?_; refine ld_nil ?_)
     all_goals
      refine kd_if (fun c42 => ?_) (fun c42 => ?_)
      · try (exact absurd c42 (by decide))
        all_goals (revert c42; (first | refine cv1 ?_ | refine cv3 ?_ | refine cv5 ?_ | refine cv7 ?_ | refine cv9 ?_ | refine cvb ?_ | refine cvd ?_ | skip); intro c42)
        all_goals
         cases c42
        all_goals (refine kd_seq ?_; refine kd_region ?_; refine jd_build ?_; refine jd_store (fun _ => ?_); refine ld_nil ?_)
        all_goals
         refine kd_retvF (idle_followed _) (by kernel_rfl) Try.results91 (.cell (by exact rfl) (by repeat (first | exact At.head | apply At.tail)) (by exact agg_of rfl) .nil) (fun w hw => ?_)
         exact ⟨x47, rfl, cas_eqB h38 ▸ h47, hw.ret (by repeat (first | exact List.Sublist.refl _ | apply List.Sublist.cons)) (FSub.ofSub fun f hf => by simpa using hf) (List.Sublist.refl _)⟩
      · try (exact absurd c42 (by decide))
        all_goals (revert c42; (first | refine cv2 ?_ | refine cv4 ?_ | refine cv6 ?_ | refine cv8 ?_ | refine cva ?_ | refine cvc ?_ | refine cve ?_ | skip); intro c42)
        all_goals (refine kd_skip ?_; refine kd_seq ?_; refine kd_region ?_; refine jd_fieldAddr ?_; refine jd_load ?_; refine jd_move ?_; (refine jd_own (cMc (V := fun y : Cd × Fr × Ub => .agg ⟨y.1.cells⟩) (Fc := fun y => y.2.1) (hs := [(u.1, ibox 3 u.2)]) (hs' := fun y => [(y.2.2.1, ibox 3 y.2.2.2)]) (A0 := B) (f := f) (cap := cap) (vs := [.bool x38]) (hp := hp) (hA := HasAll.of fun y hy => Or.inr (Or.inl (hB y hy))) (hc := fun w1 hw => hk x38 w1 hw)) (fun x47 => ?_); try (refine ld_fact (fun h47 => ?_))); refine jd_own0 (lSF fun _ => o_storeAgg (by exact rfl) (by repeat (first | exact At.head | apply At.tail)) (by exact rfl) (cd_one _) (by exact agg_of rfl) (by exact rfl) (by simp only [setAt]; exact rfl)) (fun _ => ?_); refine ld_nil ?_)
        all_goals
         refine kd_retvF (idle_followed _) (by kernel_rfl) Try.results91 (.cell (by exact rfl) (by repeat (first | exact At.head | apply At.tail)) (by exact agg_of rfl) .nil) (fun w hw => ?_)
         exact ⟨x47, rfl, cas_eqB h38 ▸ h47, hw.ret (by repeat (first | exact List.Sublist.refl _ | apply List.Sublist.cons)) (FSub.ofSub fun f hf => by simpa using hf) (List.Sublist.refl _)⟩
theorem followedU_c {p : Pc} (hs : SF w D [(b, aO L cs gen acc pn cn pc cc), (u.1, ibox 3 u.2)] A [] (mW L cs pn cn pc cc) w) (hr : RqI p c B u) (hB : ∀ y ∈ B, y ∈ A) (hlv : p.live = true) (hx : p.cl ≤ 9223372036854775807) (hl : cs.length ≤ 274877906944) :
    Calls Try.prog 91 #[.iface 27 (.pointer (some ⟨b, 0, none⟩)), .agg ⟨c.cells⟩] w fun e w' => ∃ y : Cd × Fr × Ub, e = .returned (.agg ⟨y.1.cells⟩) ∧ RqI (p.next cs) y.1 (y.2.1 ++ B) y.2.2 ∧ SF w D [(b, aO L (p.cells cs) gen (up acc) pn cn pc cc), (y.2.2.1, ibox 3 y.2.2.2)] [] y.2.1 (mW L (p.cells cs) pn cn pc cc) w' := by
  cases p with
  | done r => cases hlv
  | load x k => exact followedU_load hs hr hB hx hl
  | cas x o n k => exact followedU_cas hs hr hB hx hl
theorem tkStepU_c {p : Pc} (hs : SF w D [(bt, tO b c n), (b, aO L cs gen acc pn cn pc cc), (u.1, ibox 3 u.2)] A [] (mW L cs pn cn pc cc) w) (hr : RqI p c B u) (hB : ∀ y ∈ B, y ∈ A) (hlv : p.live = true) (hx : p.cl ≤ 9223372036854775807) (hl : cs.length ≤ 274877906944) (hn : n < 1000000000) :
    Calls Try.prog 45 #[.pointer (some ⟨bt, 0, none⟩)] w fun e w' => ∃ y : Cd × Fr × Ub, e = .returned (.tuple #[]) ∧ RqI (p.next cs) y.1 (y.2.1 ++ B) y.2.2 ∧ SF w D [(bt, tO b y.1 (n + 1)), (b, aO L (p.cells cs) gen (up acc) pn cn pc cc), (y.2.2.1, ibox 3 y.2.2.2)] [] y.2.1 (mW L (p.cells cs) pn cn pc cc) w' := by
  have hk : c.a.k ≠ 0 := by rw [hr.kind]; exact Pc.live_kind.1 hlv
  refine enter Try.func45 Try.ntmps45 rfl rfl hs ?_
  simp only [mkS]
  all_goals (refine k_seq ?_; refine k_seq ?_; refine k_region ?_; refine j_move ?_; (refine j_own (cV (hc := fun w1 hw => tkDone_c (hw.st.at (by repeat (first | exact At.head | apply At.tail))))) (fun x3 => ?_); try (refine l_fact (fun h3 => ?_))); refine j_move ?_)
  all_goals (first | refine j_un ?_ | (refine j_yes ?_; refine j_move ?_) | (refine l_case (g := 4) (by exact rfl) (fun g4 => ?_) (fun g4 => ?_) <;> (revert g4; (first | refine cv1 ?_ | refine cv2 ?_ | refine cvb ?_ | refine cvc ?_ | refine cv9 ?_ | refine cva ?_ | refine cv7 ?_ | refine cv8 ?_ | refine cvd ?_ | refine cve ?_ | skip); intro g4) <;> (try (exfalso; omega)) <;> (first | refine j_un ?_ | (refine j_yes ?_; refine j_move ?_))))
  all_goals ((first | refine j_un ?_ | (refine j_yes ?_; refine j_nilCheck ?_)); (first | refine j_un ?_ | (refine j_yes ?_; refine j_fieldAddr ?_)); (first | refine j_un ?_ | (refine j_yes ?_; refine j_load ?_)); refine j_pick ?_; refine l_nil ?_)
  all_goals
   refine k_if (fun c9 => ?_) (fun c9 => ?_)
   · try (exact absurd c9 (by decide))
     all_goals (revert c9; (first | refine cv1 ?_ | refine cv3 ?_ | refine cv5 ?_ | refine cv7 ?_ | refine cv9 ?_ | refine cvb ?_ | refine cvd ?_ | skip); intro c9)
     all_goals try (exfalso; omega)
     all_goals
      refine k_retvF Try.results45 .nil (fun w hw => ?_)
      exact absurd c9 (by simp)
   · try (exact absurd c9 (by decide))
     all_goals (revert c9; (first | refine cv2 ?_ | refine cv4 ?_ | refine cv6 ?_ | refine cv8 ?_ | refine cva ?_ | refine cvc ?_ | refine cve ?_ | skip); intro c9)
     all_goals try (exfalso; omega)
     all_goals (refine k_skip ?_; refine k_seq ?_; refine k_region ?_; refine j_move ?_; refine j_nilCheck ?_; refine j_fieldAddr ?_; refine j_store (fun _ => ?_); refine l_nil ?_; refine k_seq ?_; refine k_region ?_; refine j_move ?_; refine j_nilCheck ?_; refine j_fieldAddr ?_; refine j_load ?_; refine j_inc ?_; refine j_nilCheck ?_; refine j_fieldAddr ?_; refine j_store (fun _ => ?_); refine l_nil ?_; refine k_seq ?_; refine k_drawF (.one 0 [] (.one 1 [] (.one 2 [] (.one 3 [] (.one 4 [] (.one 5 [] (.one 6 [] (.one 7 [] (.one 8 [] (.one 9 [] (.one 10 [] (.one 11 [] (.one 12 [] .nil))))))))))))) ?_; refine r_move (i := 0) ?_; refine r_move (i := 1) ?_; refine r_nilCheck (i := 2) ?_; refine r_fieldAddr (i := 3) ?_; refine r_load (i := 4) ?_; refine r_move (i := 5) ?_; refine r_nilCheck (i := 6) ?_; refine r_fieldAddr (i := 7) ?_; refine r_ownQ (i := 8) (hq := (o_loadPart (k := 14) (vs := c.cells) (by exact rfl) (by repeat (first | exact At.head | apply At.tail)) (by exact agg_of rfl) rfl rfl)) (h := ?_); ((refine r_own (i := 9) (hq := (cM (V := fun y : Cd × Fr × Ub => .agg ⟨y.1.cells⟩) (Fc := fun y => y.2.1) (A0 := A) (hs' := fun y => [(b, aO L (p.cells cs) gen (up acc) pn cn pc cc), (y.2.2.1, ibox 3 y.2.2.2)]) (os' := fun _ => mW L (p.cells cs) pn cn pc cc) (hc := fun w hw => followedU_c hw hr hB hlv hx hl))) (hfire := (fun _ => .nil)) (h := fun x29 => ?_); try (refine r_fact (fun h29 => ?_)))); refine r_nilCheck (i := 10) ?_; refine r_fieldAddr (i := 11) ?_; refine r_own0 (i := 12) (hq := (lSF fun _ => o_storePart (off := 1) (vs := x29.1.cells) (cs := tkC b x29.1 (n + 1) true) (by exact rfl) (by repeat (first | exact At.head | apply At.tail)) (by exact rfl) (cd_one _) (by exact agg_of rfl) (Nat.le_of_ble_eq_true rfl) (by exact rfl) (by simp only [setAt]; exact rfl))) (hfire := (fun _ => .nil)) (h := fun _ => ?_); refine r_fin ?_; refine k_region ?_; refine j_move ?_; refine j_nilCheck ?_; refine j_fieldAddr ?_; refine j_store (fun _ => ?_); refine l_nil ?_)
     all_goals
      refine k_endvF Try.results45 .nil (fun w hw => ?_)
      exact ⟨x29, rfl, h29, hw.ret (List.Sublist.refl _) (FSub.ofSub fun f hf => by simpa using hf) (List.Sublist.refl _)⟩
end
end Go.Proofs.Ytmogngagpphnhaa

/- TaskCodes: the codes of the law. -/
set_option linter.unusedSimpArgs false
set_option linter.unusedVariables false
namespace Go.Ct
open Go Go.RowKit
def addP : Nat → Int → Int → Int → Pc
  | 0, _, n, d => .done ⟨0, true, 0, ⟨#[]⟩, d, n, 0, false⟩
  | t + 1, c, n, d => .load c fun old => .cas c old (n + 1) fun ok => addP t c (n + 1) (if ok = true then d + 1 else d)
end Go.Ct
namespace Go.Proofs.Ytmogngagpphnhaa
open Go Go.RowKit Go.Ct
def AddC (t : Nat) : Prop := ∀ (c n d : Int) (w : World), 0 ≤ n → n + (t : Int) ≤ 1000 → 0 ≤ d → d + (t : Int) ≤ 1000 →
  Calls Try.prog 43 #[.int .i64 c, .int .i64 n, .int .i64 ((t : Nat) : Int), .int .i64 d] w fun e w' => ∃ y : Cd × Fr × Ub, e = .returned (.agg ⟨y.1.cells⟩) ∧ RqI (addP t c n d) y.1 y.2.1 y.2.2 ∧ SF w [] [(y.2.2.1, ibox 3 y.2.2.2)] [] y.2.1 [] w'
theorem cloB {t : Nat} (ih : AddC t) {c n d : Int} {b4 b5 b6 b7 : Nat} (h0 : 0 ≤ n) (h1 : n + ((t + 1 : Nat) : Int) ≤ 1000) (h2 : 0 ≤ d) (h3 : d + ((t + 1 : Nat) : Int) ≤ 1000) (v : Bool) :
    CloU Try.prog 3 90 [.pointer (some ⟨b7, 0, none⟩), .pointer (some ⟨b4, 0, none⟩), .pointer (some ⟨b5, 0, none⟩), .pointer (some ⟨b6, 0, none⟩)] (.bool v) [(some ⟨b4, 0, none⟩, [.int .i64 c]), (some ⟨b5, 0, none⟩, [.int .i64 n]), (some ⟨b6, 0, none⟩, [.int .i64 ((t + 1 : Nat) : Int)])] (b7, d) fun c' B' u' => RqI (addP t c (n + 1) (if v = true then d + 1 else d)) c' B' u' := fun w hs => by
  refine enter Try.func90 Try.ntmps90 rfl rfl hs ?_
  simp only [mkS]
  all_goals (refine k_seq ?_; refine k_region ?_; refine j_alloc (fun x6 => ?_); refine l_nil ?_; refine k_seq ?_; refine k_seq ?_; refine k_region ?_; refine j_move ?_; refine l_nil ?_)
  all_goals
   refine k_if (fun c7 => ?_) (fun c7 => ?_)
   · try (exact absurd c7 (by decide))
     all_goals (revert c7; (first | refine cv1 ?_ | refine cv3 ?_ | refine cv5 ?_ | refine cv7 ?_ | refine cv9 ?_ | refine cvb ?_ | refine cvd ?_ | skip); intro c7)
     all_goals
      subst c7
     all_goals (refine k_region ?_; refine j_load ?_; refine l_quiet (o_addR (by exact rfl) (by exact rfl) (by omega)) rfl ?_; refine j_store (fun _ => ?_); refine l_nil ?_; refine k_seq ?_; refine k_region ?_; refine l_quiet (o_loadF1 (a := some ⟨b4, 0, none⟩) (cs := [.int .i64 c]) (q := 0) (by exact rfl) (by exact one_of rfl) (.old .head) rfl) rfl ?_; refine l_quiet (o_loadF1 (a := some ⟨b5, 0, none⟩) (cs := [.int .i64 n]) (q := 0) (by exact rfl) (by exact one_of rfl) (.old (.tail .head)) rfl) rfl ?_; refine l_quiet (o_addR (by exact rfl) (by exact rfl) (by omega)) rfl ?_; refine l_quiet (o_loadF1 (a := some ⟨b6, 0, none⟩) (cs := [.int .i64 ((t + 1 : Nat) : Int)]) (q := 0) (by exact rfl) (by exact one_of rfl) (.old (.tail (.tail .head))) rfl) rfl ?_; refine l_quiet (o_dec (k := t + 1) (by exact rfl) (by exact rfl) (by omega) (by omega)) rfl ?_; refine j_load ?_; (refine j_own (by first | exact cFH (V := fun y : Cd × Fr × Ub => .agg ⟨y.1.cells⟩) (Fc := fun y => y.2.1) (Hc := fun y => [(y.2.2.1, ibox 3 y.2.2.2)]) (Oc := fun _ => []) (hc := fun w1 hw => ih c (n + 1) (d + 1) w1 (by omega) (by omega) (by omega) (by omega)) | exact cFH (V := fun y : Cd × Fr × Ub => .agg ⟨y.1.cells⟩) (Fc := fun y => y.2.1) (Hc := fun y => [(y.2.2.1, ibox 3 y.2.2.2)]) (Oc := fun _ => []) (hc := fun w1 hw => ih c (n + 1) d w1 (by omega) (by omega) (by omega) (by omega))) (fun x16 => ?_); try (refine l_fact (fun h16 => ?_))); refine j_own0 (lSF fun _ => o_storeAgg (by exact rfl) (by repeat (first | exact At.head | apply At.tail)) (by exact rfl) (cd_one _) (by exact agg_of rfl) (by exact rfl) (by simp only [setAt]; exact rfl)) (fun _ => ?_); refine l_nil ?_)
     all_goals
      refine k_retvF Try.results90 (.cell (by exact rfl) (by repeat (first | exact At.head | apply At.tail)) (by exact agg_of rfl) .nil) (fun w hw => ?_)
      exact ⟨x16, rfl, h16.more (fun x hx => List.mem_append_left _ hx), hw.ret (by repeat (first | exact List.nil_sublist _ | apply List.Sublist.cons_cons | apply List.Sublist.cons)) (FSub.ofSub fun f hf => by simpa using hf) (List.nil_sublist _)⟩
   · try (exact absurd c7 (by decide))
     all_goals (revert c7; (first | refine cv2 ?_ | refine cv4 ?_ | refine cv6 ?_ | refine cv8 ?_ | refine cva ?_ | refine cvc ?_ | refine cve ?_ | skip); intro c7)
     all_goals
      subst c7
     all_goals (refine k_skip ?_; refine k_seq ?_; refine k_region ?_; refine l_quiet (o_loadF1 (a := some ⟨b4, 0, none⟩) (cs := [.int .i64 c]) (q := 0) (by exact rfl) (by exact one_of rfl) (.old .head) rfl) rfl ?_; refine l_quiet (o_loadF1 (a := some ⟨b5, 0, none⟩) (cs := [.int .i64 n]) (q := 0) (by exact rfl) (by exact one_of rfl) (.old (.tail .head)) rfl) rfl ?_; refine l_quiet (o_addR (by exact rfl) (by exact rfl) (by omega)) rfl ?_; refine l_quiet (o_loadF1 (a := some ⟨b6, 0, none⟩) (cs := [.int .i64 ((t + 1 : Nat) : Int)]) (q := 0) (by exact rfl) (by exact one_of rfl) (.old (.tail (.tail .head))) rfl) rfl ?_; refine l_quiet (o_dec (k := t + 1) (by exact rfl) (by exact rfl) (by omega) (by omega)) rfl ?_; refine j_load ?_; (refine j_own (by first | exact cFH (V := fun y : Cd × Fr × Ub => .agg ⟨y.1.cells⟩) (Fc := fun y => y.2.1) (Hc := fun y => [(y.2.2.1, ibox 3 y.2.2.2)]) (Oc := fun _ => []) (hc := fun w1 hw => ih c (n + 1) (d + 1) w1 (by omega) (by omega) (by omega) (by omega)) | exact cFH (V := fun y : Cd × Fr × Ub => .agg ⟨y.1.cells⟩) (Fc := fun y => y.2.1) (Hc := fun y => [(y.2.2.1, ibox 3 y.2.2.2)]) (Oc := fun _ => []) (hc := fun w1 hw => ih c (n + 1) d w1 (by omega) (by omega) (by omega) (by omega))) (fun x16 => ?_); try (refine l_fact (fun h16 => ?_))); refine j_own0 (lSF fun _ => o_storeAgg (by exact rfl) (by repeat (first | exact At.head | apply At.tail)) (by exact rfl) (cd_one _) (by exact agg_of rfl) (by exact rfl) (by simp only [setAt]; exact rfl)) (fun _ => ?_); refine l_nil ?_)
     all_goals
      refine k_retvF Try.results90 (.cell (by exact rfl) (by repeat (first | exact At.head | apply At.tail)) (by exact agg_of rfl) .nil) (fun w hw => ?_)
      exact ⟨x16, rfl, h16.more (fun x hx => List.mem_append_left _ hx), hw.ret (by repeat (first | exact List.nil_sublist _ | apply List.Sublist.cons_cons | apply List.Sublist.cons)) (FSub.ofSub fun f hf => by simpa using hf) (List.nil_sublist _)⟩
theorem cloA {t : Nat} (ih : AddC t) {c n d : Int} {b4 b5 b6 b7 : Nat} (h0 : 0 ≤ n) (h1 : n + ((t + 1 : Nat) : Int) ≤ 1000) (h2 : 0 ≤ d) (h3 : d + ((t + 1 : Nat) : Int) ≤ 1000) (v : Int) :
    CloU Try.prog 3 88 [.pointer (some ⟨b4, 0, none⟩), .pointer (some ⟨b5, 0, none⟩), .pointer (some ⟨b7, 0, none⟩), .pointer (some ⟨b6, 0, none⟩)] (.int .i64 v) [(some ⟨b4, 0, none⟩, [.int .i64 c]), (some ⟨b5, 0, none⟩, [.int .i64 n]), (some ⟨b6, 0, none⟩, [.int .i64 ((t + 1 : Nat) : Int)])] (b7, d) fun c' B' u' => RqI (.cas c v (n + 1) fun ok => addP t c (n + 1) (if ok = true then d + 1 else d)) c' B' u' := fun w hs => by
  refine enter Try.func88 Try.ntmps88 rfl rfl hs ?_
  simp only [mkS]
  all_goals (refine k_seq ?_; refine k_region ?_; refine j_alloc (fun x6 => ?_); refine l_nil ?_; refine k_seq ?_; refine k_region ?_; refine l_quiet (o_loadF1 (a := some ⟨b4, 0, none⟩) (cs := [.int .i64 c]) (q := 0) (by exact rfl) (by exact one_of rfl) (.old .head) rfl) rfl ?_; refine j_move ?_; refine l_quiet (o_loadF1 (a := some ⟨b5, 0, none⟩) (cs := [.int .i64 n]) (q := 0) (by exact rfl) (by exact one_of rfl) (.old (.tail .head)) rfl) rfl ?_; refine l_quiet (o_addR (by exact rfl) (by exact rfl) (by omega)) rfl ?_; (refine l_quiet (o_makeFunc (by (repeat (first | exact evL_nil _ | (apply evL_cons; focus ((conv => { lhs; whnf }); try exact rfl)))); first | done | fail)) rfl ?_); (refine j_own (cV (hc := fun w1 hw => tCAS_c _ _ _ _ _ w1)) (fun x12 => ?_); try (refine l_fact (fun h12 => ?_))); refine j_store (fun _ => ?_); refine l_nil ?_)
  all_goals
   refine k_retvF Try.results88 (.cell (by exact rfl) (by repeat (first | exact At.head | apply At.tail)) (by exact agg_of rfl) .nil) (fun w hw => ?_)
   exact ⟨(casCd c v (n + 1) _ _, [], (b7, d)), rfl, ⟨_, _, rfl, by kernel_rfl, fun ok => cloB ih h0 h1 h2 h3 ok⟩, hw.ret (by repeat (first | exact List.nil_sublist _ | apply List.Sublist.cons_cons | apply List.Sublist.cons)) (FSub.ofSub fun f hf => (List.not_mem_nil hf).elim) (List.nil_sublist _)⟩
theorem add_zero : AddC 0 := fun c n d w h0 h1 h2 h3 => by
  refine enter Try.func43 Try.ntmps43 rfl rfl (SF.s0 w) ?_
  simp only [mkS]
  all_goals (refine k_seq ?_; refine k_region ?_; refine j_box (fun x4 => ?_); refine j_box (fun x5 => ?_); refine j_box (fun x6 => ?_); refine j_box (fun x7 => ?_); refine j_alloc (fun x8 => ?_); refine l_nil ?_; refine k_seq ?_; refine k_seq ?_; refine k_region ?_; refine j_load ?_; refine j_eql ?_; refine l_nil ?_)
  all_goals
   refine k_if (fun c10 => ?_) (fun c10 => ?_)
   · try (exact absurd c10 (by decide))
     all_goals (revert c10; (first | refine cv1 ?_ | refine cv3 ?_ | refine cv5 ?_ | refine cv7 ?_ | refine cv9 ?_ | refine cvb ?_ | refine cvd ?_ | skip); intro c10)
     all_goals (refine k_seq ?_; refine k_region ?_; refine j_load ?_; refine j_load ?_; refine j_build ?_; (refine j_own (cV (hc := fun w1 hw => tDone_c ⟨0, true, 0, ⟨#[]⟩, d, n, 0, false⟩ w1)) (fun x14 => ?_); try (refine l_fact (fun h14 => ?_))); refine j_store (fun _ => ?_); refine l_nil ?_)
     all_goals
      refine k_retvF Try.results43 (.cell (by exact rfl) (by repeat (first | exact At.head | apply At.tail)) (by exact agg_of rfl) .nil) (fun w hw => ?_)
      exact ⟨(doneCd ⟨0, true, 0, ⟨#[]⟩, d, n, 0, false⟩, [], (x7, d)), rfl, rfl, hw.ret (.cons _ (.cons_cons _ (List.nil_sublist _))) FSub.nil (List.nil_sublist _)⟩
   · try (exact absurd c10 (by decide))
     all_goals (revert c10; (first | refine cv2 ?_ | refine cv4 ?_ | refine cv6 ?_ | refine cv8 ?_ | refine cva ?_ | refine cvc ?_ | refine cve ?_ | skip); intro c10)
     all_goals
      exact (c10 rfl).elim
     all_goals (refine k_skip ?_; refine k_seq ?_; refine k_region ?_; refine j_load ?_; (refine l_quiet (o_makeFunc (by (repeat (first | exact evL_nil _ | (apply evL_cons; focus ((conv => { lhs; whnf }); try exact rfl)))); first | done | fail)) rfl ?_); (refine j_own (cV (hc := fun w1 hw => tLoad_c _ _ _ w1)) (fun x17 => ?_); try (refine l_fact (fun h17 => ?_))); refine j_store (fun _ => ?_); refine l_nil ?_)
     all_goals
      refine k_retvF Try.results43 (.cell (by exact rfl) (by repeat (first | exact At.head | apply At.tail)) (by exact agg_of rfl) .nil) (fun w hw => ?_)
      exact ⟨(doneCd ⟨0, true, 0, ⟨#[]⟩, d, n, 0, false⟩, [], (x7, d)), rfl, rfl, hw.ret (.cons _ (.cons_cons _ (List.nil_sublist _))) FSub.nil (List.nil_sublist _)⟩
theorem add_succ {t : Nat} (ih : AddC t) : AddC (t + 1) := fun c n d w h0 h1 h2 h3 => by
  refine enter Try.func43 Try.ntmps43 rfl rfl (SF.s0 w) ?_
  simp only [mkS]
  all_goals (refine k_seq ?_; refine k_region ?_; refine j_box (fun x4 => ?_); refine j_box (fun x5 => ?_); refine j_box (fun x6 => ?_); refine j_box (fun x7 => ?_); refine j_alloc (fun x8 => ?_); refine l_nil ?_; refine k_seq ?_; refine k_seq ?_; refine k_region ?_; refine j_load ?_; refine j_eql ?_; refine l_nil ?_)
  all_goals
   refine k_if (fun c10 => ?_) (fun c10 => ?_)
   · try (exact absurd c10 (by decide))
     all_goals (revert c10; (first | refine cv1 ?_ | refine cv3 ?_ | refine cv5 ?_ | refine cv7 ?_ | refine cv9 ?_ | refine cvb ?_ | refine cvd ?_ | skip); intro c10)
     all_goals try (exfalso; omega)
     all_goals (refine k_seq ?_; refine k_region ?_; refine j_load ?_; refine j_load ?_; refine j_build ?_; (refine j_own (cV (hc := fun w1 hw => tDone_c ⟨0, true, 0, ⟨#[]⟩, d, n, 0, false⟩ w1)) (fun x14 => ?_); try (refine l_fact (fun h14 => ?_))); refine j_store (fun _ => ?_); refine l_nil ?_)
     all_goals
      refine k_retvF Try.results43 (.cell (by exact rfl) (by repeat (first | exact At.head | apply At.tail)) (by exact agg_of rfl) .nil) (fun w hw => ?_)
      exact ⟨(loadCd c _ _, [(some ⟨x4, 0, none⟩, [.int .i64 c]), (some ⟨x5, 0, none⟩, [.int .i64 n]), (some ⟨x6, 0, none⟩, [.int .i64 ((t + 1 : Nat) : Int)])], (x7, d)), rfl, ⟨_, _, rfl, by kernel_rfl, fun v => cloA ih h0 h1 h2 h3 v⟩, (((hw.freezeB (.tail (.tail .head))).freezeB (.tail (.tail .head))).freezeB (.tail (.tail .head))).ret (.cons _ (List.Sublist.refl _)) FSub.all (List.nil_sublist _)⟩
   · try (exact absurd c10 (by decide))
     all_goals (revert c10; (first | refine cv2 ?_ | refine cv4 ?_ | refine cv6 ?_ | refine cv8 ?_ | refine cva ?_ | refine cvc ?_ | refine cve ?_ | skip); intro c10)
     all_goals try (exfalso; omega)
     all_goals (refine k_skip ?_; refine k_seq ?_; refine k_region ?_; refine j_load ?_; (refine l_quiet (o_makeFunc (by (repeat (first | exact evL_nil _ | (apply evL_cons; focus ((conv => { lhs; whnf }); try exact rfl)))); first | done | fail)) rfl ?_); (refine j_own (cV (hc := fun w1 hw => tLoad_c _ _ _ w1)) (fun x17 => ?_); try (refine l_fact (fun h17 => ?_))); refine j_store (fun _ => ?_); refine l_nil ?_)
     all_goals
      refine k_retvF Try.results43 (.cell (by exact rfl) (by repeat (first | exact At.head | apply At.tail)) (by exact agg_of rfl) .nil) (fun w hw => ?_)
      exact ⟨(loadCd c _ _, [(some ⟨x4, 0, none⟩, [.int .i64 c]), (some ⟨x5, 0, none⟩, [.int .i64 n]), (some ⟨x6, 0, none⟩, [.int .i64 ((t + 1 : Nat) : Int)])], (x7, d)), rfl, ⟨_, _, rfl, by kernel_rfl, fun v => cloA ih h0 h1 h2 h3 v⟩, (((hw.freezeB (.tail (.tail .head))).freezeB (.tail (.tail .head))).freezeB (.tail (.tail .head))).ret (.cons _ (List.Sublist.refl _)) FSub.all (List.nil_sublist _)⟩
theorem add_c : ∀ t, AddC t
  | 0 => add_zero
  | t + 1 => add_succ (add_c t)
theorem codes1 {t b9 b10 : Nat} {c : Int} (ht : t ≤ 900) : CloU0 Try.prog 3 42 [.pointer (some ⟨b9, 0, none⟩), .pointer (some ⟨b10, 0, none⟩)] [(some ⟨b9, 0, none⟩, [.int .i64 c]), (some ⟨b10, 0, none⟩, [.int .i64 ((t : Nat) : Int)])] (addP t c 7 0) := fun w hB => by
  refine enter Try.func42 Try.ntmps42 rfl rfl (SF.begin hB) ?_
  simp only [mkS]
  all_goals (refine k_seq ?_; refine k_region ?_; refine j_alloc (fun x2 => ?_); refine l_nil ?_; refine k_seq ?_; refine k_region ?_; refine l_quiet (o_loadF1 (a := some ⟨b9, 0, none⟩) (cs := [.int .i64 c]) (q := 0) (by exact rfl) (by exact one_of rfl) (.old .head) rfl) rfl ?_; refine l_quiet (o_loadF1 (a := some ⟨b10, 0, none⟩) (cs := [.int .i64 ((t : Nat) : Int)]) (q := 0) (by exact rfl) (by exact one_of rfl) (.old (.tail .head)) rfl) rfl ?_; (refine j_own (cFH (V := fun y : Cd × Fr × Ub => .agg ⟨y.1.cells⟩) (Fc := fun y => y.2.1) (Hc := fun y => [(y.2.2.1, ibox 3 y.2.2.2)]) (Oc := fun _ => []) (hc := fun w1 hw => add_c t c 7 0 w1 (by omega) (by omega) (by omega) (by omega))) (fun x5 => ?_); try (refine l_fact (fun h5 => ?_))); refine j_own0 (lSF fun _ => o_storeAgg (by exact rfl) (by repeat (first | exact At.head | apply At.tail)) (by exact rfl) (cd_one _) (by exact agg_of rfl) (by exact rfl) (by simp only [setAt]; exact rfl)) (fun _ => ?_); refine l_nil ?_)
  all_goals
   refine k_retvF Try.results42 (.cell (by exact rfl) (by repeat (first | exact At.head | apply At.tail)) (by exact agg_of rfl) .nil) (fun w hw => ?_)
   exact ⟨x5, rfl, h5.more (fun x hx => List.mem_append_left _ hx), hw.ret (by repeat (first | exact List.nil_sublist _ | apply List.Sublist.cons_cons | apply List.Sublist.cons)) (FSub.ofSub fun f hf => by simpa using hf) (List.nil_sublist _)⟩
theorem codes2 : Clo0 Try.prog 49 [] [] (.done Rs.zero) := fun w hB => by
  refine enter Try.func49 Try.ntmps49 rfl rfl (SF.s0 w) ?_
  simp only [mkS]
  all_goals (refine k_seq ?_; refine k_region ?_; refine j_alloc (fun x0 => ?_); refine l_nil ?_; refine k_seq ?_; refine k_region ?_; refine j_build ?_; refine j_store (fun _ => ?_); refine l_nil ?_)
  all_goals
   refine k_retvF Try.results49 (.cell (by exact rfl) (by repeat (first | exact At.head | apply At.tail)) (by exact agg_of rfl) .nil) (fun w hw => ?_)
   exact ⟨(doneCd Rs.zero, []), rfl, rfl, hw.fin⟩
end Go.Proofs.Ytmogngagpphnhaa
