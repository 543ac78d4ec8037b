/- A call of an arena and of a memory: the walk. -/
import Derived.Test.YtmogngagpphnhaaArT
import Derived.Test.YtmogngagpphnhaaArA
set_option linter.unusedSimpArgs false
set_option linter.unusedVariables false
namespace Go.Ct
open Go Go.RowKit
/-- A step of a play: what it holds. -/
structure StepV where
  kind : Int
  a : Int
  b : Int
  c : Int
  cp : Option Addr
  cl : List Int
  cc : Nat
  v : NdV
abbrev StepV.L (t : StepV) : List Value := [.int .i64 t.kind, .int .i64 t.a, .int .i64 t.b, .int .i64 t.c, .slice t.cp t.cl.length t.cc, .int .i64 t.v.nd.kind, .int .i64 t.v.nd.gen, .int .i64 t.v.nd.main, .int .u64 t.v.nd.bm, .slice t.v.nd.brA t.v.nd.brN t.v.nd.brC, .int .u64 t.v.nd.hash, .string t.v.nd.key, .int .u64 t.v.nd.val, .slice t.v.nd.prA t.v.nd.prN t.v.nd.prC, .int .i64 t.v.nd.prev, .int .i64 t.v.nd.old, .int .i64 t.v.nd.exp, .int .i64 t.v.nd.new, .int .i64 t.v.nd.status]
def StepV.fr (s : StepV) : Fr := (s.cp, refsC s.cl) :: s.v.fr
structure StepV.Ok (s : StepV) : Prop where
  a : -9223372036854775808 ≤ s.a ∧ s.a ≤ 9223372036854775807
  fit : s.v.Fit
  cl : s.cl.length ≤ 17592186043904
/-- An arena and a memory. -/
structure PS where
  La : List NdV
  Lm : List NdV
  cs : List Int
  gen : Int
  acca : Int
  accm : Int
  apn : Option Addr
  acn : Nat
  apc : Option Addr
  acc : Nat
  mpn : Option Addr
  mcn : Nat
  mpc : Option Addr
  mcc : Nat
structure PS.Rel (s : PS) : Prop where
  same : (allV s.La).map NdV.c = s.Lm.map NdV.c
  fa : Fits s.La
  fm : Fits s.Lm
theorem PS.Rel.len {s : PS} (h : s.Rel) : s.La.length + 2 = s.Lm.length := by
  have := congrArg List.length h.same
  simpa [allV_length] using this
/-- What a step leaves. -/
structure PS.Next (s x : PS) (A : Fr) (Fc : Fr) : Prop where
  rel : x.Rel
  hl : x.Lm.length ≤ s.Lm.length + 1
  lm : s.Lm.length ≤ x.Lm.length
  hc : x.cs.length ≤ s.cs.length + 1
  acc : s.acca = s.accm → x.acca = x.accm
  fa : ∀ f ∈ famF x.La, f ∈ famF s.La ∨ f ∈ Fc
  fm : ∀ f ∈ famF x.Lm, f ∈ famF s.Lm ∨ f ∈ Fc
  pre : ∃ T, x.La = s.La ++ T
structure NSm (v : NdV) : Prop where
  fit : v.Fit
  xs : v.xs.length ≤ 100
  ys : v.ys.length ≤ 100
def StepV.zero : StepV := ⟨0, 0, 0, 0, none, [], 0, NdV.zero⟩
theorem StepV.len (t : StepV) : t.L.length = 19 := rfl
def stepsC (l : List StepV) : List Value := l.flatMap StepV.L
theorem PS.Rel.mk0 {La Lm : List NdV} (s : PS) (h1 : s.La = La) (h2 : s.Lm = Lm) (h : (allV La).map NdV.c = Lm.map NdV.c) (h3 : Fits La) (h4 : Fits Lm) : s.Rel := by subst h1 h2; exact ⟨h, h3, h4⟩
theorem famF_push {L : List NdV} {v : NdV} {Fc : Fr} (h : ∀ f ∈ v.fr, f ∈ Fc) : ∀ f ∈ famF (L ++ [v]), f ∈ famF L ∨ f ∈ Fc := fun f hf => by
  rw [famF_append] at hf
  rcases List.mem_append.1 hf with hf | hf
  · exact .inl hf
  · simp only [famF, List.flatMap_cons, List.flatMap_nil, List.append_nil] at hf
    exact .inr (h f hf)
end Go.Ct
namespace Go.Proofs.Ytmogngagpphnhaa
open Go.RowKit Go.Ct
abbrev pHs (s : PS) (ba bm : Nat) : List (Nat × Obj) := [(ba, aO s.La s.cs s.gen s.acca s.apn s.acn s.apc s.acc), (bm, mO s.Lm s.cs s.gen s.accm s.mpn s.mcn s.mpc s.mcc)]
abbrev pOs (s : PS) : List Ow := [⟨s.apn, nvC s.La, s.acn, 48, 14⟩, ⟨s.apc, refsC s.cs, s.acc, 39, 1⟩, ⟨s.mpn, nvC s.Lm, s.mcn, 48, 14⟩, ⟨s.mpc, refsC s.cs, s.mcc, 39, 1⟩]
theorem pOpen {s : PS} {w0 w : World} {D : List Nat} {ba bm : Nat} {A F : Fr} (h : SF w0 D (pHs s ba bm) A F (pOs s) w) : SF w0 D [(ba, .cells ⟨[.slice s.apn s.La.length s.acn, .slice s.apc s.cs.length s.acc, .int .i64 s.gen, .int .i64 s.acca]⟩ 123 (0, 0)), (bm, .cells ⟨[.slice s.mpn s.Lm.length s.mcn, .slice s.mpc s.cs.length s.mcc, .int .i64 s.gen, .int .i64 s.accm]⟩ 36 (0, 0))] A F [⟨s.apn, nvC s.La, s.acn, 48, 14⟩, ⟨s.apc, refsC s.cs, s.acc, 39, 1⟩, ⟨s.mpn, nvC s.Lm, s.mcn, 48, 14⟩, ⟨s.mpc, refsC s.cs, s.mcc, 39, 1⟩] w := h
theorem beq_ret {a b : Int} (h : a = b) : (Ending.returned (.bool (a == b)) : Ending) = .returned (.bool true) := by rw [beq_iff_eq.2 h]
theorem bool_ret {a b : Bool} (h : a = true ↔ b = true) : (Ending.returned (.bool (a == b)) : Ending) = .returned (.bool true) := by rw [Bool.eq_iff_iff.2 h, beq_self_eq_true]
theorem next_alloc {s : PS} {v : NdV} {old : Int} {x y : AX} {A : Fr} (hr : s.Rel) (hv : NSm v) : s.Next ⟨s.La ++ [alV v.nd v.xs v.ys s.cs.length x], s.Lm ++ [alV v.nd v.xs v.ys s.cs.length y], alCs v.nd.kind s.cs old, s.gen, s.acca, s.accm, x.pn, x.cn, x.pc, x.cc, y.pn, y.cn, y.pc, y.cc⟩ A ((alV v.nd v.xs v.ys s.cs.length y).fr ++ (alV v.nd v.xs v.ys s.cs.length x).fr) := by
  have f1 : ∀ z : AX, (alV v.nd v.xs v.ys s.cs.length z).Fit := fun z => fit_al (by have := hv.xs; omega) (by have := hv.ys; omega)
  refine ⟨⟨?_, fun u hu => ?_, fun u hu => ?_⟩, by simp, by simp, (alCs_length).2, id, famF_push fun f hf => List.mem_append_right _ hf, famF_push fun f hf => List.mem_append_left _ hf, ⟨_, rfl⟩⟩
  · show (allV s.La ++ [alV v.nd v.xs v.ys s.cs.length x]).map NdV.c = (s.Lm ++ [alV v.nd v.xs v.ys s.cs.length y]).map NdV.c
    rw [List.map_append, List.map_append, hr.same]
    rfl
  · rcases List.mem_append.1 hu with hu | hu
    · exact hr.fa u hu
    · rw [List.mem_singleton.1 hu]; exact f1 x
  · rcases List.mem_append.1 hu with hu | hu
    · exact hr.fm u hu
    · rw [List.mem_singleton.1 hu]; exact f1 y
set_option maxHeartbeats 1000000 in
theorem apply_c {s : PS} {ba bm : Nat} {t : StepV} {b : Bool} {D : List Nat} {A : Fr} {w : World} (hs : SF w D (pHs s ba bm) A [] (pOs s) w) (hr : s.Rel) (ok : t.Ok) (hA1 : ∀ f ∈ famF s.La, f ∈ A) (hA2 : ∀ f ∈ t.fr, f ∈ A) (hL : s.Lm.length ≤ 1000) (hL2 : 2 ≤ s.Lm.length) (hC : s.cs.length ≤ 1000) :
    Calls Try.prog 34 #[.pointer (some ⟨ba, 0, none⟩), .pointer (some ⟨bm, 0, none⟩), .agg ⟨t.L⟩, .bool b] w fun e w' =>
      ∃ x : PS × Fr, e = .returned (.bool true) ∧ s.Next x.1 A x.2 ∧ SF w D (pHs x.1 ba bm) [] x.2 (pOs x.1) w' := by
  have hlen := hr.len
  have okf := ok.fit
  have e1 := okf.brN
  have e2 := okf.prN
  refine enter Try.func34 Try.ntmps34 rfl rfl (pOpen hs) ?_
  simp only [mkS]
  all_goals (refine k_seq ?_)
  all_goals refine k_region ?_
  all_goals refine j_box (fun x6 => ?_)
  all_goals refine j_assignL (fun _ => ?_)
  all_goals refine l_nil ?_
  all_goals (refine k_seq ?_)
  all_goals
    refine k_joinG [9, 13, 14, 15, 16, 17, 18, 19, 20, 21, 22] (fun j : Nat × Nd × List Int × List Pr => [(9, .pointer (some ⟨j.1, 0, none⟩))]) (fun j => GenNode (s.Lm.length : Int) j.2.1 j.2.2.1 j.2.2.2) (fun j => [(j.1, .cells ⟨({ j.2.1 with brN := j.2.2.1.length, prN := j.2.2.2.length } : Nd).cells⟩ 48 (0, 0)), (x6, .cells ⟨t.L⟩ 65 (0, 0)), (ba, aO s.La s.cs s.gen s.acca s.apn s.acn s.apc s.acc), (bm, mO s.Lm s.cs s.gen s.accm s.mpn s.mcn s.mpc s.mcc)]) (fun j => [(j.2.1.brA, refsC j.2.2.1), (j.2.1.prA, prC j.2.2.2)]) (fun j => pOs s) (by decide) (fun _ => by exact rfl) ?_ (fun j f hx => ?_)
    · refine k_drawF (.one 0 [] (.one 1 [] (.one 3 [] (.one 4 [] (.one 5 [] (.one 6 [] (.one 7 [] (.one 8 [] (.two 2 [7] (.two 9 [] (.one 10 [1, 7] (.one 11 [] .nil)) 0 [] (.two 10 [1, 7] (.one 9 [] (.one 11 [] .nil)) 0 [] .nil)) 0 [] (.two 10 [1, 7] (.one 2 [7] (.one 9 [] (.one 11 [] .nil))) 0 [] .nil)))))))))) ?_
      all_goals (refine r_fieldAddr (i := 0) ?_)
      all_goals (refine r_load (i := 1) ?_)
      all_goals (refine r_move (i := 3) ?_)
      all_goals (refine r_nilCheck (i := 4) ?_)
      all_goals (refine r_fieldAddr (i := 5) ?_)
      all_goals (refine r_fieldAddr (i := 6) ?_)
      all_goals (refine r_load (i := 7) ?_)
      all_goals (refine r_len (i := 8) ?_)
      all_goals
        refine r_many (E := [2, 10]) (by decide +kernel) ((.cons ?_ (.cons ?_ .nil)))
        · (refine s_own (i := 2) (hq := (cFH (Fc := fun _ => []) (Oc := fun _ => []) (hc := fun w1 hw => new_c))) (hfire := (fun _ => by first | (refine FireAll.cons (by first | exact a_load | exact a_un) ?_; exact FireAll.nil) | (refine fireall_fact ?_; refine FireAll.cons (by first | exact a_load | exact a_un) ?_; exact FireAll.nil))) (h := fun x15 => ?_); try (refine r_fact (fun h15 => ?_)))
          all_goals
            refine r_many (E := [9, 10]) (by decide +kernel) ((.cons ?_ (.cons ?_ .nil)))
            · (refine s_own (i := 9) (hq := (cF1 (hc := fun w1 hw => tnode_c (s.Lm.length : Int) (hw.tape (by repeat (first | exact At.head | apply At.tail)) (FIn.old (FAt.of_mem (hA2 _ (List.mem_cons_self ..)))) ok.cl) (by omega) (by omega)))) (hfire := (fun _ => .nil)) (h := fun x22 => ?_); try (refine r_fact (fun h22 => ?_)))
              all_goals (refine r_alloc (i := 10) (hfire := (fun _ => by first | ((repeat (first | exact FireAll.nil | refine FireAll.cons (by first | exact a_load | exact a_un) ?_)); done) | (refine fireall_fact ?_; (repeat (first | exact FireAll.nil | refine FireAll.cons (by first | exact a_load | exact a_un) ?_)); done))) (h := fun x9 => ?_))
              all_goals (refine r_store (i := 11) (hfire := (fun _ => .nil)) (h := fun _ => ?_))
              all_goals refine r_fin ?_
              all_goals
                refine k_roundF ((x9, x22.1, x22.2.1, x22.2.2.1)) (by decide) ?_ (by repeat (first | (with_reducible exact Pre.refl) | refine Pre.cons (by exact rfl) ?_)) ?_ (fun w hw => by
exact hw.back (hH := by first | exact List.Sublist.cons_cons _ (List.Sublist.cons _ (List.Sublist.refl _)) | exact List.Sublist.cons _ (List.Sublist.refl _)) (hO := by exact List.Sublist.refl _))
                · repeat' (first | exact knows_nil _ | refine knows_cons ?_ ?_)
                  all_goals (first | exact rfl | (conv => { lhs; whnf }; simp; done) | (conv => { lhs; whnf }; congr 1; omega))
                · exact h22
            · refine s_alloc (i := 10) (hfire := (fun _ => by first | ((repeat (first | exact FireAll.nil | refine FireAll.cons (by first | exact a_load | exact a_un) ?_)); done) | (refine fireall_fact ?_; (repeat (first | exact FireAll.nil | refine FireAll.cons (by first | exact a_load | exact a_un) ?_)); done))) (h := fun x9 => ?_)
              all_goals ((refine r_own (i := 9) (hq := (cF1 (hc := fun w1 hw => tnode_c (s.Lm.length : Int) (hw.tape (by repeat (first | exact At.head | apply At.tail)) (FIn.old (FAt.of_mem (hA2 _ (List.mem_cons_self ..)))) ok.cl) (by omega) (by omega)))) (hfire := (fun _ => .nil)) (h := fun x22 => ?_); try (refine r_fact (fun h22 => ?_))))
              all_goals (refine r_store (i := 11) (hfire := (fun _ => .nil)) (h := fun _ => ?_))
              all_goals refine r_fin ?_
              all_goals
                refine k_roundF ((x9, x22.1, x22.2.1, x22.2.2.1)) (by decide) ?_ (by repeat (first | (with_reducible exact Pre.refl) | refine Pre.cons (by exact rfl) ?_)) ?_ (fun w hw => by
exact hw.back (hH := by first | exact List.Sublist.cons_cons _ (List.Sublist.cons _ (List.Sublist.refl _)) | exact List.Sublist.cons _ (List.Sublist.refl _)) (hO := by exact List.Sublist.refl _))
                · repeat' (first | exact knows_nil _ | refine knows_cons ?_ ?_)
                  all_goals (first | exact rfl | (conv => { lhs; whnf }; simp; done) | (conv => { lhs; whnf }; congr 1; omega))
                · exact h22
        · refine s_alloc (i := 10) (hfire := (fun _ => by first | ((repeat (first | exact FireAll.nil | refine FireAll.cons (by first | exact a_load | exact a_un) ?_)); done) | (refine fireall_fact ?_; (repeat (first | exact FireAll.nil | refine FireAll.cons (by first | exact a_load | exact a_un) ?_)); done))) (h := fun x9 => ?_)
          all_goals ((refine r_own (i := 2) (hq := (cFH (Fc := fun _ => []) (Oc := fun _ => []) (hc := fun w1 hw => new_c))) (hfire := (fun _ => by first | (refine FireAll.cons (by first | exact a_load | exact a_un) ?_; exact FireAll.nil) | (refine fireall_fact ?_; refine FireAll.cons (by first | exact a_load | exact a_un) ?_; exact FireAll.nil))) (h := fun x15 => ?_); try (refine r_fact (fun h15 => ?_))))
          all_goals ((refine r_own (i := 9) (hq := (cF1 (hc := fun w1 hw => tnode_c (s.Lm.length : Int) (hw.tape (by repeat (first | exact At.head | apply At.tail)) (FIn.old (FAt.of_mem (hA2 _ (List.mem_cons_self ..)))) ok.cl) (by omega) (by omega)))) (hfire := (fun _ => .nil)) (h := fun x22 => ?_); try (refine r_fact (fun h22 => ?_))))
          all_goals (refine r_store (i := 11) (hfire := (fun _ => .nil)) (h := fun _ => ?_))
          all_goals refine r_fin ?_
          all_goals
            refine k_roundF ((x9, x22.1, x22.2.1, x22.2.2.1)) (by decide) ?_ (by repeat (first | (with_reducible exact Pre.refl) | refine Pre.cons (by exact rfl) ?_)) ?_ (fun w hw => by
exact hw.back (hH := by first | exact List.Sublist.cons_cons _ (List.Sublist.cons _ (List.Sublist.refl _)) | exact List.Sublist.cons _ (List.Sublist.refl _)) (hO := by exact List.Sublist.refl _))
            · repeat' (first | exact knows_nil _ | refine knows_cons ?_ ?_)
              all_goals (first | exact rfl | (conv => { lhs; whnf }; simp; done) | (conv => { lhs; whnf }; congr 1; omega))
            · exact h22
    dsimp only [mkU, List.map, List.cons_append, List.nil_append]
  all_goals (refine k_seq ?_)
  all_goals
    refine k_joinG [23, 24, 25, 26, 27, 28, 29, 30, 31, 32, 33, 34, 35, 36, 37, 38, 39] (fun v : NdV => []) (fun v => NSm v ∧ ∀ f ∈ v.fr, f ∈ A ∨ f ∈ [(j.2.1.brA, refsC j.2.2.1), (j.2.1.prA, prC j.2.2.2)]) (fun v => [(j.1, .cells ⟨v.nd.cells⟩ 48 (0, 0)), (x6, .cells ⟨t.L⟩ 65 (0, 0)), (ba, aO s.La s.cs s.gen s.acca s.apn s.acn s.apc s.acc), (bm, mO s.Lm s.cs s.gen s.accm s.mpn s.mcn s.mpc s.mcc)]) (fun v => [(j.2.1.brA, refsC j.2.2.1), (j.2.1.prA, prC j.2.2.2)]) (fun v => pOs s) (by decide) (fun _ => by exact rfl) ?_ (fun v f hx => ?_)
    · all_goals (refine k_seq ?_)
      all_goals refine k_region ?_
      all_goals refine j_move ?_
      all_goals refine j_move ?_
      all_goals (first | refine j_un ?_ | (refine j_yes ?_; refine j_fieldAddr ?_) | (refine l_case (g := 24) (by exact rfl) (fun g24 => ?_) (fun g24 => ?_) <;> (revert g24; (first | refine cv1 ?_ | refine cv2 ?_ | refine cvb ?_ | refine cvc ?_ | refine cv9 ?_ | refine cva ?_ | refine cv7 ?_ | refine cv8 ?_ | refine cvd ?_ | refine cve ?_ | skip); intro g24) <;> (try (exfalso; omega)) <;> (first | refine j_un ?_ | (refine j_yes ?_; refine j_fieldAddr ?_))))
      all_goals (first | refine j_un ?_ | (refine j_yes ?_; refine j_fieldAddr ?_))
      all_goals (first | refine j_un ?_ | (refine j_yes ?_; refine j_load ?_))
      all_goals (first | refine j_un ?_ | (refine j_yes ?_; refine j_len ?_))
      all_goals (first | refine j_un ?_ | (refine j_yes ?_; refine j_lss ?_))
      all_goals refine j_pick ?_
      all_goals refine j_move ?_
      all_goals (first | refine j_un ?_ | (refine j_yes ?_; refine j_fieldAddr ?_) | (refine l_case (g := 31) (by exact rfl) (fun g31 => ?_) (fun g31 => ?_) <;> (revert g31; (first | refine cv1 ?_ | refine cv2 ?_ | refine cvb ?_ | refine cvc ?_ | refine cv9 ?_ | refine cva ?_ | refine cv7 ?_ | refine cv8 ?_ | refine cvd ?_ | refine cve ?_ | skip); intro g31) <;> (try (exfalso; omega)) <;> (first | refine j_un ?_ | (refine j_yes ?_; refine j_fieldAddr ?_))))
      all_goals (first | refine j_un ?_ | (refine j_yes ?_; refine j_fieldAddr ?_))
      all_goals (first | refine j_un ?_ | (refine j_yes ?_; refine j_load ?_))
      all_goals (first | refine j_un ?_ | (refine j_yes ?_; refine j_len ?_))
      all_goals (first | refine j_un ?_ | (refine j_yes ?_; refine j_lss ?_))
      all_goals refine j_pick ?_
      all_goals refine l_nil ?_
      all_goals
        refine k_cond (by exact rfl) (fun c37 => ?_) (fun c37 => ?_)
        · try (exact absurd c37 (by decide))
          all_goals (revert c37; (first | refine cv1 ?_ | refine cv3 ?_ | refine cv5 ?_ | refine cv7 ?_ | refine cv9 ?_ | refine cvb ?_ | refine cvd ?_ | skip); intro c37)
          all_goals try (exfalso; omega)
          all_goals refine k_region ?_
          all_goals refine j_fieldAddr ?_
          all_goals refine l_quiet (o_loadPart (k := 14) (by exact rfl) (by repeat (first | exact At.head | apply At.tail)) (by exact agg_of rfl) (by simp only [List.drop_succ_cons, List.drop_zero, List.take_succ_cons, List.take_zero]; exact rfl) rfl) rfl ?_
          all_goals refine j_store (fun _ => ?_)
          all_goals refine l_nil ?_
          all_goals
            refine k_roundF (t.v) (by decide) ?_ (by repeat (first | (with_reducible exact Pre.refl) | refine Pre.cons (by exact rfl) ?_)) ?_ (fun w hw => hw.back)
            · repeat' (first | exact knows_nil _ | refine knows_cons ?_ ?_)
              all_goals (first | exact rfl | (conv => { lhs; whnf }; simp; done) | (conv => { lhs; whnf }; congr 1; omega))
            · exact ⟨⟨okf, by omega, by omega⟩, fun f hf => .inl (hA2 f (List.mem_cons_of_mem _ hf))⟩
        · try (exact absurd c37 (by decide))
          all_goals (revert c37; (first | refine cv2 ?_ | refine cv4 ?_ | refine cv6 ?_ | refine cv8 ?_ | refine cva ?_ | refine cvc ?_ | refine cve ?_ | skip); intro c37)
          all_goals try (exfalso; omega)
          all_goals (refine k_skip ?_)
          all_goals
            refine k_roundF (⟨{ j.2.1 with brN := j.2.2.1.length, prN := j.2.2.2.length }, j.2.2.1, j.2.2.2⟩) (by decide) ?_ (by repeat (first | (with_reducible exact Pre.refl) | refine Pre.cons (by exact rfl) ?_)) ?_ (fun w hw => hw.back)
            · repeat' (first | exact knows_nil _ | refine knows_cons ?_ ?_)
              all_goals (first | exact rfl | (conv => { lhs; whnf }; simp; done) | (conv => { lhs; whnf }; congr 1; omega))
            · exact ⟨⟨⟨rfl, rfl, by have := hx.xs64; show j.2.2.1.length ≤ _; omega, by have := hx.ys2; show j.2.2.2.length ≤ _; omega⟩, by have := hx.xs64; show j.2.2.1.length ≤ _; omega, by have := hx.ys2; show j.2.2.2.length ≤ _; omega⟩, fun f hf => .inr hf⟩
    dsimp only [mkU, List.map, List.cons_append, List.nil_append]
    have hx2 := hx
  all_goals (refine k_seq ?_)
  all_goals refine k_region ?_
  all_goals refine j_fieldAddr ?_
  all_goals refine j_load ?_
  all_goals refine j_assignL (fun _ => ?_)
  all_goals refine l_nil ?_
  all_goals (refine k_seq ?_)
  all_goals
    refine k_joinG [10, 42, 43, 44, 45, 46, 47, 48, 49, 50, 51, 52, 53] (fun ci : Int => [(10, .int .i64 ci)]) (fun ci => ci ≤ 9223372036854775807) (fun ci => [(j.1, .cells ⟨v.nd.cells⟩ 48 (0, 0)), (x6, .cells ⟨t.L⟩ 65 (0, 0)), (ba, aO s.La s.cs s.gen s.acca s.apn s.acn s.apc s.acc), (bm, mO s.Lm s.cs s.gen s.accm s.mpn s.mcn s.mpc s.mcc)]) (fun ci => [(j.2.1.brA, refsC j.2.2.1), (j.2.1.prA, prC j.2.2.2)]) (fun ci => pOs s) (by decide) (fun _ => by exact rfl) ?_ (fun ci f hx => ?_)
    · all_goals (refine k_seq ?_)
      all_goals refine k_region ?_
      all_goals refine j_move ?_
      all_goals refine j_not ?_
      all_goals refine l_nil ?_
      all_goals
        refine k_cond (by exact rfl) (fun c43 => ?_) (fun c43 => ?_)
        · try (exact absurd c43 (by decide))
          all_goals (revert c43; (first | refine cv1 ?_ | refine cv3 ?_ | refine cv5 ?_ | refine cv7 ?_ | refine cv9 ?_ | refine cvb ?_ | refine cvd ?_ | skip); intro c43)
          all_goals try (exfalso; omega)
          all_goals refine k_drawF (.one 0 [] (.one 1 [] (.one 2 [] (.one 3 [] (.one 4 [] (.one 5 [] (.one 6 [] (.one 7 [] (.one 8 [] (.one 9 [] (.one 10 [] .nil))))))))))) ?_
          all_goals (refine r_fieldAddr (i := 0) ?_)
          all_goals (refine r_load (i := 1) ?_)
          all_goals (refine r_move (i := 2) ?_)
          all_goals (refine r_nilCheck (i := 3) ?_)
          all_goals (refine r_fieldAddr (i := 4) ?_)
          all_goals (refine r_fieldAddr (i := 5) ?_)
          all_goals (refine r_load (i := 6) ?_)
          all_goals (refine r_len (i := 7) ?_)
          all_goals (refine r_add (i := 8) ?_)
          all_goals ((refine r_own (i := 9) (hq := (cV (hc := fun w1 hw => mod_c t.a ((s.cs.length : Int) + 2) w1 (by rw [wrap_u64]; omega)))) (hfire := (fun _ => .nil)) (h := fun x53 => ?_); try (refine r_fact (fun h53 => ?_))))
          all_goals (refine r_assignL (i := 10) (hfire := (fun _ => .nil)) (h := fun _ => ?_))
          all_goals refine r_fin ?_
          all_goals
            refine k_roundF (modv t.a ((s.cs.length : Int) + 2)) (by decide) ?_ (by repeat (first | (with_reducible exact Pre.refl) | refine Pre.cons (by exact rfl) ?_)) ?_ (fun w hw => hw.back)
            · repeat' (first | exact knows_nil _ | refine knows_cons ?_ ?_)
              all_goals (first | exact rfl | (conv => { lhs; whnf }; simp; done) | (conv => { lhs; whnf }; congr 1; omega))
            · have hm := modv_bound (v := t.a) (n := (s.cs.length : Int) + 2) (by omega) (by omega)
              omega
        · try (exact absurd c43 (by decide))
          all_goals (revert c43; (first | refine cv2 ?_ | refine cv4 ?_ | refine cv6 ?_ | refine cv8 ?_ | refine cva ?_ | refine cvc ?_ | refine cve ?_ | skip); intro c43)
          all_goals try (exfalso; omega)
          all_goals (refine k_skip ?_)
          all_goals
            refine k_roundF (t.a) (by decide) ?_ (by repeat (first | (with_reducible exact Pre.refl) | refine Pre.cons (by exact rfl) ?_)) ?_ (fun w hw => hw.back)
            · repeat' (first | exact knows_nil _ | refine knows_cons ?_ ?_)
              all_goals (first | exact rfl | (conv => { lhs; whnf }; simp; done) | (conv => { lhs; whnf }; congr 1; omega))
            · exact ok.a.2
    dsimp only [mkU, List.map, List.cons_append, List.nil_append]
    have hx5 := hx
  all_goals (refine k_seq ?_)
  all_goals refine k_drawF (.one 0 [] (.one 1 [] (.one 2 [] (.one 3 [] (.one 4 [] (.one 5 [] (.one 6 [] (.one 7 [] (.one 8 [] (.one 10 [] (.one 11 [] (.one 12 [] (.one 13 [] (.one 14 [] (.one 15 [] (.one 16 [] (.one 17 [] (.one 18 [] (.one 9 [11, 16] (.one 19 [] (.one 20 [] (.one 21 [] .nil)))))))))))))))))))))) ?_
  all_goals (refine r_fieldAddr (i := 0) ?_)
  all_goals (refine r_load (i := 1) ?_)
  all_goals (refine r_move (i := 2) ?_)
  all_goals (refine r_nilCheck (i := 3) ?_)
  all_goals (refine r_fieldAddr (i := 4) ?_)
  all_goals (refine r_fieldAddr (i := 5) ?_)
  all_goals (refine r_load (i := 6) ?_)
  all_goals (refine r_len (i := 7) ?_)
  all_goals (refine r_inc (i := 8) ?_)
  all_goals (refine r_fieldAddr (i := 10) ?_)
  all_goals (refine r_load (i := 11) ?_)
  all_goals (refine r_move (i := 12) ?_)
  all_goals (refine r_nilCheck (i := 13) ?_)
  all_goals (refine r_fieldAddr (i := 14) ?_)
  all_goals (refine r_fieldAddr (i := 15) ?_)
  all_goals (refine r_load (i := 16) ?_)
  all_goals (refine r_len (i := 17) ?_)
  all_goals (refine r_inc (i := 18) ?_)
  all_goals ((refine r_own (i := 9) (hq := (cV (hc := fun w1 hw => mod_c t.b ((s.Lm.length : Int) + 1) w1 (by rw [wrap_u64]; omega)))) (hfire := (fun _ => by first | ((repeat (first | exact FireAll.nil | refine FireAll.cons (by first | exact a_load | exact a_un) ?_)); done) | (refine fireall_fact ?_; (repeat (first | exact FireAll.nil | refine FireAll.cons (by first | exact a_load | exact a_un) ?_)); done))) (h := fun x63 => ?_); try (refine r_fact (fun h63 => ?_))))
  all_goals ((refine r_own (i := 19) (hq := (cV (hc := fun w1 hw => mod_c t.c ((s.Lm.length : Int) + 1) w1 (by rw [wrap_u64]; omega)))) (hfire := (fun _ => .nil)) (h := fun x73 => ?_); try (refine r_fact (fun h73 => ?_))))
  all_goals (refine r_assignL (i := 20) (hfire := (fun _ => .nil)) (h := fun _ => ?_))
  all_goals (refine r_assignL (i := 21) (hfire := (fun _ => .nil)) (h := fun _ => ?_))
  all_goals refine r_fin ?_
  all_goals (refine k_seq ?_)
  all_goals
    refine k_joinG [11, 74, 75, 76, 77, 78, 79, 80, 81, 82, 83, 84, 85, 86, 87, 88, 89, 90, 91, 92, 93, 94, 95, 96, 97, 98, 99, 100] (fun old : Int => [(11, .int .i64 old)]) (fun _ => True) (fun old => [(j.1, .cells ⟨v.nd.cells⟩ 48 (0, 0)), (x6, .cells ⟨t.L⟩ 65 (0, 0)), (ba, aO s.La s.cs s.gen s.acca s.apn s.acn s.apc s.acc), (bm, mO s.Lm s.cs s.gen s.accm s.mpn s.mcn s.mpc s.mcc)]) (fun old => [(j.2.1.brA, refsC j.2.2.1), (j.2.1.prA, prC j.2.2.2)]) (fun old => pOs s) (by decide) (fun _ => by exact rfl) ?_ (fun old f hx => ?_)
    · all_goals (refine k_seq ?_)
      all_goals refine k_region ?_
      all_goals refine j_fieldAddr ?_
      all_goals refine j_load ?_
      all_goals refine j_rem ?_
      all_goals refine j_eql ?_
      all_goals refine j_move ?_
      all_goals (first | refine j_un ?_ | (refine j_yes ?_; refine j_move ?_) | (refine l_case (g := 78) (by exact rfl) (fun g78 => ?_) (fun g78 => ?_) <;> (revert g78; (first | refine cv1 ?_ | refine cv2 ?_ | refine cvb ?_ | refine cvc ?_ | refine cv9 ?_ | refine cva ?_ | refine cv7 ?_ | refine cv8 ?_ | refine cvd ?_ | refine cve ?_ | skip); intro g78) <;> (try (exfalso; omega)) <;> (first | refine j_un ?_ | (refine j_yes ?_; refine j_move ?_))))
      all_goals (first | refine j_un ?_ | (refine j_yes ?_; refine j_gtr ?_))
      all_goals refine j_pick ?_
      all_goals refine j_move ?_
      all_goals (first | refine j_un ?_ | (refine j_yes ?_; refine j_move ?_) | (refine l_case (g := 82) (by exact rfl) (fun g82 => ?_) (fun g82 => ?_) <;> (revert g82; (first | refine cv1 ?_ | refine cv2 ?_ | refine cvb ?_ | refine cvc ?_ | refine cv9 ?_ | refine cva ?_ | refine cv7 ?_ | refine cv8 ?_ | refine cvd ?_ | refine cve ?_ | skip); intro g82) <;> (try (exfalso; omega)) <;> (first | refine j_un ?_ | (refine j_yes ?_; refine j_move ?_))))
      all_goals (first | refine j_un ?_ | (refine j_yes ?_; refine j_move ?_))
      all_goals (first | refine j_un ?_ | (refine j_yes ?_; refine j_nilCheck ?_))
      all_goals (first | refine j_un ?_ | (refine j_yes ?_; refine j_fieldAddr ?_))
      all_goals (first | refine j_un ?_ | (refine j_yes ?_; refine j_fieldAddr ?_))
      all_goals (first | refine j_un ?_ | (refine j_yes ?_; refine j_load ?_))
      all_goals (first | refine j_un ?_ | (refine j_yes ?_; refine j_len ?_))
      all_goals (first | refine j_un ?_ | (refine j_yes ?_; refine j_leq ?_))
      all_goals refine j_pick ?_
      all_goals refine l_nil ?_
      all_goals
        refine k_cond (by exact rfl) (fun c91 => ?_) (fun c91 => ?_)
        · try (exact absurd c91 (by decide))
          all_goals (revert c91; (first | refine cv1 ?_ | refine cv3 ?_ | refine cv5 ?_ | refine cv7 ?_ | refine cv9 ?_ | refine cvb ?_ | refine cvd ?_ | skip); intro c91)
          all_goals try (exfalso; omega)
          all_goals refine k_region ?_
          all_goals refine j_move ?_
          all_goals refine j_nilCheck ?_
          all_goals refine j_fieldAddr ?_
          all_goals refine j_fieldAddr ?_
          all_goals refine j_load ?_
          all_goals refine j_move ?_
          all_goals refine l_quiet (o_decT (by exact rfl) (by exact rfl) (by omega) (by omega)) rfl ?_
          all_goals refine j_indexAddr ?_
          all_goals refine j_load ?_
          all_goals refine j_assignL (fun _ => ?_)
          all_goals refine l_nil ?_
          all_goals
            refine k_roundF (s.cs.getD (ci - 1).toNat 0) (by decide) ?_ (by repeat (first | (with_reducible exact Pre.refl) | refine Pre.cons (by exact rfl) ?_)) ?_ (fun w hw => hw.back)
            · repeat' (first | exact knows_nil _ | refine knows_cons ?_ ?_)
              all_goals (first | exact rfl | (conv => { lhs; whnf }; simp; done) | (conv => { lhs; whnf }; congr 1; omega))
            · trivial
        · try (exact absurd c91 (by decide))
          all_goals (revert c91; (first | refine cv2 ?_ | refine cv4 ?_ | refine cv6 ?_ | refine cv8 ?_ | refine cva ?_ | refine cvc ?_ | refine cve ?_ | skip); intro c91)
          all_goals try (exfalso; omega)
          all_goals (refine k_skip ?_)
          all_goals
            refine k_roundF (modv t.b ((s.Lm.length : Int) + 1)) (by decide) ?_ (by repeat (first | (with_reducible exact Pre.refl) | refine Pre.cons (by exact rfl) ?_)) ?_ (fun w hw => hw.back)
            · repeat' (first | exact knows_nil _ | refine knows_cons ?_ ?_)
              all_goals (first | exact rfl | (conv => { lhs; whnf }; simp; done) | (conv => { lhs; whnf }; congr 1; omega))
            · trivial
    dsimp only [mkU, List.map, List.cons_append, List.nil_append]
  all_goals (refine k_seq ?_)
  all_goals (refine k_seq ?_)
  all_goals refine k_region ?_
  all_goals refine j_fieldAddr ?_
  all_goals refine j_load ?_
  all_goals (refine j_own (cV (hc := fun w1 hw => modN_c t.kind 8 w1 (by decide) (by decide))) (fun x103 => ?_); try (refine l_fact (fun h103 => ?_)))
  all_goals refine l_nil ?_
  all_goals (refine k_block ?_)
  all_goals (refine k_seq ?_)
  all_goals (refine k_seq ?_)
  all_goals refine k_region ?_
  all_goals refine j_eql ?_
  all_goals refine j_assignL (fun _ => ?_)
  all_goals refine l_nil ?_
  all_goals
    refine k_cond (by exact rfl) (fun c104 => ?_) (fun c104 => ?_)
    · try (exact absurd c104 (by decide))
      all_goals (revert c104; (first | refine cv1 ?_ | refine cv3 ?_ | refine cv5 ?_ | refine cv7 ?_ | refine cv9 ?_ | refine cvb ?_ | refine cvd ?_ | skip); intro c104)
      all_goals try (exfalso; omega)
      all_goals (refine k_skip ?_)
      all_goals
        refine k_cond (by exact rfl) (fun c104 => ?_) (fun c104 => ?_)
        · try (exact absurd c104 (by decide))
          all_goals (revert c104; (first | refine cv1 ?_ | refine cv3 ?_ | refine cv5 ?_ | refine cv7 ?_ | refine cv9 ?_ | refine cvb ?_ | refine cvd ?_ | skip); intro c104)
          all_goals try (exfalso; omega)
          all_goals (refine k_seq ?_)
          all_goals refine k_drawF (.one 0 [] (.one 1 [] (.one 2 [] (.one 4 [] (.one 5 [] (.one 6 [] (.one 3 [5] (.one 7 [] (.one 8 [] (.one 9 [] .nil)))))))))) ?_
          all_goals (refine r_move (i := 0) ?_)
          all_goals (refine r_load (i := 1) ?_)
          all_goals (refine r_move (i := 2) ?_)
          all_goals (refine r_move (i := 4) ?_)
          all_goals (refine r_load (i := 5) ?_)
          all_goals (refine r_move (i := 6) ?_)
          all_goals ((refine r_own (i := 3) (hq := (cM (A0 := v.fr) (hA := HasAll.of fun f hf => (hx2.2 f hf).elim (fun h => .inr (.inl h)) (fun h => .inr (.inr (.inl h)))) (hc := fun w hs => aAlloc_c (L := s.La) (cs := s.cs) (n := v.nd) (xs := v.xs) (ys := v.ys) old hs hx2.1.fit.brN hx2.1.fit.prN (by have := hx2.1.xs; omega) (by have := hx2.1.ys; omega) (by omega) (by omega)))) (hfire := (fun _ => by first | (refine FireAll.cons (by first | exact a_load | exact a_un) ?_; exact FireAll.nil) | (refine fireall_fact ?_; refine FireAll.cons (by first | exact a_load | exact a_un) ?_; exact FireAll.nil))) (h := fun x110 => ?_); try (refine r_fact (fun h110 => ?_))))
          all_goals ((refine r_own (i := 7) (hq := (cM (A0 := v.fr) (hA := HasAll.of fun f hf => (hx2.2 f hf).elim (fun h => .inr (.inl h)) (fun h => .inr (.inr (.inl (List.mem_append_right _ h))))) (hc := fun w hs => mAlloc_c (L := s.Lm) (cs := s.cs) (n := v.nd) (xs := v.xs) (ys := v.ys) old hs hx2.1.fit.brN hx2.1.fit.prN (by have := hx2.1.xs; omega) (by have := hx2.1.ys; omega) (by omega) (by omega)))) (hfire := (fun _ => .nil)) (h := fun x114 => ?_); try (refine r_fact (fun h114 => ?_))))
          all_goals (refine r_eql (i := 8) ?_)
          all_goals (refine r_assignL (i := 9) (hfire := (fun _ => .nil)) (h := fun _ => ?_))
          all_goals refine r_fin ?_
          all_goals
            refine k_retvF Try.results34 (.tmp (by conv => { lhs; whnf }) .nil) (fun w hw => ?_)
            first | exact ⟨(⟨s.La ++ [alV v.nd v.xs v.ys s.cs.length x110], s.Lm ++ [alV v.nd v.xs v.ys s.cs.length x114], alCs v.nd.kind s.cs old, s.gen, s.acca, s.accm, x110.pn, x110.cn, x110.pc, x110.cc, x114.pn, x114.cn, x114.pc, x114.cc⟩, (alV v.nd v.xs v.ys s.cs.length x114).fr ++ (alV v.nd v.xs v.ys s.cs.length x110).fr), beq_ret (by omega), next_alloc hr hx2.1, hw.ret (by repeat (first | exact List.Sublist.refl _ | apply List.Sublist.cons)) (FSub.ofSub fun f hf => (List.mem_append.1 hf).elim (fun h => List.mem_append_left _ h) (fun h => List.mem_append_right _ (List.mem_append_left _ h))) (List.Sublist.refl _)⟩ | exact ⟨(⟨s.La, s.Lm, s.cs ++ [old], s.gen, s.acca, s.accm, s.apn, s.acn, x120.1, x120.2, s.mpn, s.mcn, x123.1, x123.2⟩, []), beq_ret rfl, ⟨⟨hr.same, hr.fa, hr.fm⟩, Nat.le_succ _, Nat.le_refl _, by simp, id, fun f hf => .inl hf, fun f hf => .inl hf, ⟨[], (List.append_nil _).symm⟩⟩, hw.ret (by repeat (first | exact List.Sublist.refl _ | apply List.Sublist.cons)) (FSub.ofSub fun f hf => (List.not_mem_nil hf).elim) (List.Sublist.refl _)⟩ | exact ⟨(⟨s.La, s.Lm, s.cs, up s.gen, s.acca, s.accm, s.apn, s.acn, s.apc, s.acc, s.mpn, s.mcn, s.mpc, s.mcc⟩, []), by first | (have hh := h128; have hk := h130; exact beq_ret rfl), ⟨⟨hr.same, hr.fa, hr.fm⟩, Nat.le_succ _, Nat.le_refl _, Nat.le_succ _, id, fun f hf => .inl hf, fun f hf => .inl hf, ⟨[], (List.append_nil _).symm⟩⟩, hw.ret (by repeat (first | exact List.Sublist.refl _ | apply List.Sublist.cons)) (FSub.ofSub fun f hf => (List.not_mem_nil hf).elim) (List.Sublist.refl _)⟩ | exact ⟨(⟨s.La, s.Lm, s.cs, s.gen, up s.acca, up s.accm, s.apn, s.acn, s.apc, s.acc, s.mpn, s.mcn, s.mpc, s.mcc⟩, []), by first | (have hh := h136; have hk := h139; exact beq_ret rfl), ⟨⟨hr.same, hr.fa, hr.fm⟩, Nat.le_succ _, Nat.le_refl _, Nat.le_succ _, fun h => by show up s.acca = up s.accm; rw [h], fun f hf => .inl hf, fun f hf => .inl hf, ⟨[], (List.append_nil _).symm⟩⟩, hw.ret (by repeat (first | exact List.Sublist.refl _ | apply List.Sublist.cons)) (FSub.ofSub fun f hf => (List.not_mem_nil hf).elim) (List.Sublist.refl _)⟩ | exact ⟨(⟨s.La, s.Lm, casL s.cs ci old (modv t.c ((s.Lm.length : Int) + 1)), s.gen, up s.acca, up s.accm, s.apn, s.acn, s.apc, s.acc, s.mpn, s.mcn, s.mpc, s.mcc⟩, []), bool_ret (h148.trans h153.symm), ⟨⟨hr.same, hr.fa, hr.fm⟩, Nat.le_succ _, Nat.le_refl _, by show (casL _ _ _ _).length ≤ _; rw [casL_length]; exact Nat.le_succ _, fun h => by show up s.acca = up s.accm; rw [h], fun f hf => .inl hf, fun f hf => .inl hf, ⟨[], (List.append_nil _).symm⟩⟩, hw.ret (by repeat (first | exact List.Sublist.refl _ | apply List.Sublist.cons)) (FSub.ofSub fun f hf => (List.not_mem_nil hf).elim) (List.Sublist.refl _)⟩ | exact ⟨(s, []), rfl, ⟨hr, Nat.le_succ _, Nat.le_refl _, Nat.le_succ _, id, fun f hf => .inl hf, fun f hf => .inl hf, ⟨[], (List.append_nil _).symm⟩⟩, hw.ret (by repeat (first | exact List.Sublist.refl _ | apply List.Sublist.cons)) (FSub.ofSub fun f hf => (List.not_mem_nil hf).elim) (List.Sublist.refl _)⟩
        · try (exact absurd c104 (by decide))
          all_goals (revert c104; (first | refine cv2 ?_ | refine cv4 ?_ | refine cv6 ?_ | refine cv8 ?_ | refine cva ?_ | refine cvc ?_ | refine cve ?_ | skip); intro c104)
          all_goals try (exfalso; omega)
          all_goals (refine k_seq ?_)
          all_goals refine k_region ?_
          all_goals refine j_eql ?_
          all_goals refine j_assignL (fun _ => ?_)
          all_goals refine l_nil ?_
          all_goals
            refine k_cond (by exact rfl) (fun c116 => ?_) (fun c116 => ?_)
            · try (exact absurd c116 (by decide))
              all_goals (revert c116; (first | refine cv1 ?_ | refine cv3 ?_ | refine cv5 ?_ | refine cv7 ?_ | refine cv9 ?_ | refine cvb ?_ | refine cvd ?_ | skip); intro c116)
              all_goals try (exfalso; omega)
              all_goals (refine k_seq ?_)
              all_goals refine k_region ?_
              all_goals refine j_move ?_
              all_goals refine j_move ?_
              all_goals (refine j_own (cM (hc := fun w hs => aNewCell_c (L := s.La) (cs := s.cs) old hs (by omega))) (fun x120 => ?_); try (refine l_fact (fun h120 => ?_)))
              all_goals refine j_move ?_
              all_goals refine j_move ?_
              all_goals (refine j_own (cM (hc := fun w hs => mNewCell_c (L := s.Lm) (cs := s.cs) old hs (by omega))) (fun x123 => ?_); try (refine l_fact (fun h123 => ?_)))
              all_goals refine j_eql ?_
              all_goals refine j_assignL (fun _ => ?_)
              all_goals refine l_nil ?_
              all_goals
                refine k_retvF Try.results34 (.tmp (by conv => { lhs; whnf }) .nil) (fun w hw => ?_)
                first | exact ⟨(⟨s.La ++ [alV v.nd v.xs v.ys s.cs.length x110], s.Lm ++ [alV v.nd v.xs v.ys s.cs.length x114], alCs v.nd.kind s.cs old, s.gen, s.acca, s.accm, x110.pn, x110.cn, x110.pc, x110.cc, x114.pn, x114.cn, x114.pc, x114.cc⟩, (alV v.nd v.xs v.ys s.cs.length x114).fr ++ (alV v.nd v.xs v.ys s.cs.length x110).fr), beq_ret (by omega), next_alloc hr hx2.1, hw.ret (by repeat (first | exact List.Sublist.refl _ | apply List.Sublist.cons)) (FSub.ofSub fun f hf => (List.mem_append.1 hf).elim (fun h => List.mem_append_left _ h) (fun h => List.mem_append_right _ (List.mem_append_left _ h))) (List.Sublist.refl _)⟩ | exact ⟨(⟨s.La, s.Lm, s.cs ++ [old], s.gen, s.acca, s.accm, s.apn, s.acn, x120.1, x120.2, s.mpn, s.mcn, x123.1, x123.2⟩, []), beq_ret rfl, ⟨⟨hr.same, hr.fa, hr.fm⟩, Nat.le_succ _, Nat.le_refl _, by simp, id, fun f hf => .inl hf, fun f hf => .inl hf, ⟨[], (List.append_nil _).symm⟩⟩, hw.ret (by repeat (first | exact List.Sublist.refl _ | apply List.Sublist.cons)) (FSub.ofSub fun f hf => (List.not_mem_nil hf).elim) (List.Sublist.refl _)⟩ | exact ⟨(⟨s.La, s.Lm, s.cs, up s.gen, s.acca, s.accm, s.apn, s.acn, s.apc, s.acc, s.mpn, s.mcn, s.mpc, s.mcc⟩, []), by first | (have hh := h128; have hk := h130; exact beq_ret rfl), ⟨⟨hr.same, hr.fa, hr.fm⟩, Nat.le_succ _, Nat.le_refl _, Nat.le_succ _, id, fun f hf => .inl hf, fun f hf => .inl hf, ⟨[], (List.append_nil _).symm⟩⟩, hw.ret (by repeat (first | exact List.Sublist.refl _ | apply List.Sublist.cons)) (FSub.ofSub fun f hf => (List.not_mem_nil hf).elim) (List.Sublist.refl _)⟩ | exact ⟨(⟨s.La, s.Lm, s.cs, s.gen, up s.acca, up s.accm, s.apn, s.acn, s.apc, s.acc, s.mpn, s.mcn, s.mpc, s.mcc⟩, []), by first | (have hh := h136; have hk := h139; exact beq_ret rfl), ⟨⟨hr.same, hr.fa, hr.fm⟩, Nat.le_succ _, Nat.le_refl _, Nat.le_succ _, fun h => by show up s.acca = up s.accm; rw [h], fun f hf => .inl hf, fun f hf => .inl hf, ⟨[], (List.append_nil _).symm⟩⟩, hw.ret (by repeat (first | exact List.Sublist.refl _ | apply List.Sublist.cons)) (FSub.ofSub fun f hf => (List.not_mem_nil hf).elim) (List.Sublist.refl _)⟩ | exact ⟨(⟨s.La, s.Lm, casL s.cs ci old (modv t.c ((s.Lm.length : Int) + 1)), s.gen, up s.acca, up s.accm, s.apn, s.acn, s.apc, s.acc, s.mpn, s.mcn, s.mpc, s.mcc⟩, []), bool_ret (h148.trans h153.symm), ⟨⟨hr.same, hr.fa, hr.fm⟩, Nat.le_succ _, Nat.le_refl _, by show (casL _ _ _ _).length ≤ _; rw [casL_length]; exact Nat.le_succ _, fun h => by show up s.acca = up s.accm; rw [h], fun f hf => .inl hf, fun f hf => .inl hf, ⟨[], (List.append_nil _).symm⟩⟩, hw.ret (by repeat (first | exact List.Sublist.refl _ | apply List.Sublist.cons)) (FSub.ofSub fun f hf => (List.not_mem_nil hf).elim) (List.Sublist.refl _)⟩ | exact ⟨(s, []), rfl, ⟨hr, Nat.le_succ _, Nat.le_refl _, Nat.le_succ _, id, fun f hf => .inl hf, fun f hf => .inl hf, ⟨[], (List.append_nil _).symm⟩⟩, hw.ret (by repeat (first | exact List.Sublist.refl _ | apply List.Sublist.cons)) (FSub.ofSub fun f hf => (List.not_mem_nil hf).elim) (List.Sublist.refl _)⟩
            · try (exact absurd c116 (by decide))
              all_goals (revert c116; (first | refine cv2 ?_ | refine cv4 ?_ | refine cv6 ?_ | refine cv8 ?_ | refine cva ?_ | refine cvc ?_ | refine cve ?_ | skip); intro c116)
              all_goals try (exfalso; omega)
              all_goals (refine k_seq ?_)
              all_goals refine k_region ?_
              all_goals refine j_eql ?_
              all_goals refine j_assignL (fun _ => ?_)
              all_goals refine l_nil ?_
              all_goals
                refine k_cond (by exact rfl) (fun c125 => ?_) (fun c125 => ?_)
                · try (exact absurd c125 (by decide))
                  all_goals (revert c125; (first | refine cv1 ?_ | refine cv3 ?_ | refine cv5 ?_ | refine cv7 ?_ | refine cv9 ?_ | refine cvb ?_ | refine cvd ?_ | skip); intro c125)
                  all_goals try (exfalso; omega)
                  all_goals (refine k_seq ?_)
                  all_goals refine k_region ?_
                  all_goals refine j_move ?_
                  all_goals (refine j_own (cM (hc := fun w hs => aNewGen_c (L := s.La) (cs := s.cs) hs)) (fun x128 => ?_); try (refine l_fact (fun h128 => ?_)))
                  all_goals refine j_move ?_
                  all_goals (refine j_own (cM (hc := fun w hs => mNewGen_c (L := s.Lm) (cs := s.cs) hs)) (fun x130 => ?_); try (refine l_fact (fun h130 => ?_)))
                  all_goals refine j_eql ?_
                  all_goals refine j_assignL (fun _ => ?_)
                  all_goals refine l_nil ?_
                  all_goals
                    refine k_retvF Try.results34 (.tmp (by conv => { lhs; whnf }) .nil) (fun w hw => ?_)
                    first | exact ⟨(⟨s.La ++ [alV v.nd v.xs v.ys s.cs.length x110], s.Lm ++ [alV v.nd v.xs v.ys s.cs.length x114], alCs v.nd.kind s.cs old, s.gen, s.acca, s.accm, x110.pn, x110.cn, x110.pc, x110.cc, x114.pn, x114.cn, x114.pc, x114.cc⟩, (alV v.nd v.xs v.ys s.cs.length x114).fr ++ (alV v.nd v.xs v.ys s.cs.length x110).fr), beq_ret (by omega), next_alloc hr hx2.1, hw.ret (by repeat (first | exact List.Sublist.refl _ | apply List.Sublist.cons)) (FSub.ofSub fun f hf => (List.mem_append.1 hf).elim (fun h => List.mem_append_left _ h) (fun h => List.mem_append_right _ (List.mem_append_left _ h))) (List.Sublist.refl _)⟩ | exact ⟨(⟨s.La, s.Lm, s.cs ++ [old], s.gen, s.acca, s.accm, s.apn, s.acn, x120.1, x120.2, s.mpn, s.mcn, x123.1, x123.2⟩, []), beq_ret rfl, ⟨⟨hr.same, hr.fa, hr.fm⟩, Nat.le_succ _, Nat.le_refl _, by simp, id, fun f hf => .inl hf, fun f hf => .inl hf, ⟨[], (List.append_nil _).symm⟩⟩, hw.ret (by repeat (first | exact List.Sublist.refl _ | apply List.Sublist.cons)) (FSub.ofSub fun f hf => (List.not_mem_nil hf).elim) (List.Sublist.refl _)⟩ | exact ⟨(⟨s.La, s.Lm, s.cs, up s.gen, s.acca, s.accm, s.apn, s.acn, s.apc, s.acc, s.mpn, s.mcn, s.mpc, s.mcc⟩, []), by first | (have hh := h128; have hk := h130; exact beq_ret rfl), ⟨⟨hr.same, hr.fa, hr.fm⟩, Nat.le_succ _, Nat.le_refl _, Nat.le_succ _, id, fun f hf => .inl hf, fun f hf => .inl hf, ⟨[], (List.append_nil _).symm⟩⟩, hw.ret (by repeat (first | exact List.Sublist.refl _ | apply List.Sublist.cons)) (FSub.ofSub fun f hf => (List.not_mem_nil hf).elim) (List.Sublist.refl _)⟩ | exact ⟨(⟨s.La, s.Lm, s.cs, s.gen, up s.acca, up s.accm, s.apn, s.acn, s.apc, s.acc, s.mpn, s.mcn, s.mpc, s.mcc⟩, []), by first | (have hh := h136; have hk := h139; exact beq_ret rfl), ⟨⟨hr.same, hr.fa, hr.fm⟩, Nat.le_succ _, Nat.le_refl _, Nat.le_succ _, fun h => by show up s.acca = up s.accm; rw [h], fun f hf => .inl hf, fun f hf => .inl hf, ⟨[], (List.append_nil _).symm⟩⟩, hw.ret (by repeat (first | exact List.Sublist.refl _ | apply List.Sublist.cons)) (FSub.ofSub fun f hf => (List.not_mem_nil hf).elim) (List.Sublist.refl _)⟩ | exact ⟨(⟨s.La, s.Lm, casL s.cs ci old (modv t.c ((s.Lm.length : Int) + 1)), s.gen, up s.acca, up s.accm, s.apn, s.acn, s.apc, s.acc, s.mpn, s.mcn, s.mpc, s.mcc⟩, []), bool_ret (h148.trans h153.symm), ⟨⟨hr.same, hr.fa, hr.fm⟩, Nat.le_succ _, Nat.le_refl _, by show (casL _ _ _ _).length ≤ _; rw [casL_length]; exact Nat.le_succ _, fun h => by show up s.acca = up s.accm; rw [h], fun f hf => .inl hf, fun f hf => .inl hf, ⟨[], (List.append_nil _).symm⟩⟩, hw.ret (by repeat (first | exact List.Sublist.refl _ | apply List.Sublist.cons)) (FSub.ofSub fun f hf => (List.not_mem_nil hf).elim) (List.Sublist.refl _)⟩ | exact ⟨(s, []), rfl, ⟨hr, Nat.le_succ _, Nat.le_refl _, Nat.le_succ _, id, fun f hf => .inl hf, fun f hf => .inl hf, ⟨[], (List.append_nil _).symm⟩⟩, hw.ret (by repeat (first | exact List.Sublist.refl _ | apply List.Sublist.cons)) (FSub.ofSub fun f hf => (List.not_mem_nil hf).elim) (List.Sublist.refl _)⟩
                · try (exact absurd c125 (by decide))
                  all_goals (revert c125; (first | refine cv2 ?_ | refine cv4 ?_ | refine cv6 ?_ | refine cv8 ?_ | refine cva ?_ | refine cvc ?_ | refine cve ?_ | skip); intro c125)
                  all_goals try (exfalso; omega)
                  all_goals (refine k_seq ?_)
                  all_goals refine k_region ?_
                  all_goals refine j_eql ?_
                  all_goals refine j_assignL (fun _ => ?_)
                  all_goals refine l_nil ?_
                  all_goals
                    refine k_cond (by exact rfl) (fun c132 => ?_) (fun c132 => ?_)
                    · try (exact absurd c132 (by decide))
                      all_goals (revert c132; (first | refine cv1 ?_ | refine cv3 ?_ | refine cv5 ?_ | refine cv7 ?_ | refine cv9 ?_ | refine cvb ?_ | refine cvd ?_ | skip); intro c132)
                      all_goals try (exfalso; omega)
                      all_goals (refine k_seq ?_)
                      all_goals refine k_region ?_
                      all_goals refine j_move ?_
                      all_goals refine j_move ?_
                      all_goals (refine j_own (cM (hc := fun w hs => aLoad_c (L := s.La) (cs := s.cs) hs ci hx5 (by omega))) (fun x136 => ?_); try (refine l_fact (fun h136 => ?_)))
                      all_goals refine j_move ?_
                      all_goals refine j_move ?_
                      all_goals (refine j_own (cM (hc := fun w hs => mLoad_c (L := s.Lm) (cs := s.cs) hs ci hx5 (by omega))) (fun x139 => ?_); try (refine l_fact (fun h139 => ?_)))
                      all_goals refine j_eql ?_
                      all_goals refine j_assignL (fun _ => ?_)
                      all_goals refine l_nil ?_
                      all_goals
                        refine k_retvF Try.results34 (.tmp (by conv => { lhs; whnf }) .nil) (fun w hw => ?_)
                        first | exact ⟨(⟨s.La ++ [alV v.nd v.xs v.ys s.cs.length x110], s.Lm ++ [alV v.nd v.xs v.ys s.cs.length x114], alCs v.nd.kind s.cs old, s.gen, s.acca, s.accm, x110.pn, x110.cn, x110.pc, x110.cc, x114.pn, x114.cn, x114.pc, x114.cc⟩, (alV v.nd v.xs v.ys s.cs.length x114).fr ++ (alV v.nd v.xs v.ys s.cs.length x110).fr), beq_ret (by omega), next_alloc hr hx2.1, hw.ret (by repeat (first | exact List.Sublist.refl _ | apply List.Sublist.cons)) (FSub.ofSub fun f hf => (List.mem_append.1 hf).elim (fun h => List.mem_append_left _ h) (fun h => List.mem_append_right _ (List.mem_append_left _ h))) (List.Sublist.refl _)⟩ | exact ⟨(⟨s.La, s.Lm, s.cs ++ [old], s.gen, s.acca, s.accm, s.apn, s.acn, x120.1, x120.2, s.mpn, s.mcn, x123.1, x123.2⟩, []), beq_ret rfl, ⟨⟨hr.same, hr.fa, hr.fm⟩, Nat.le_succ _, Nat.le_refl _, by simp, id, fun f hf => .inl hf, fun f hf => .inl hf, ⟨[], (List.append_nil _).symm⟩⟩, hw.ret (by repeat (first | exact List.Sublist.refl _ | apply List.Sublist.cons)) (FSub.ofSub fun f hf => (List.not_mem_nil hf).elim) (List.Sublist.refl _)⟩ | exact ⟨(⟨s.La, s.Lm, s.cs, up s.gen, s.acca, s.accm, s.apn, s.acn, s.apc, s.acc, s.mpn, s.mcn, s.mpc, s.mcc⟩, []), by first | (have hh := h128; have hk := h130; exact beq_ret rfl), ⟨⟨hr.same, hr.fa, hr.fm⟩, Nat.le_succ _, Nat.le_refl _, Nat.le_succ _, id, fun f hf => .inl hf, fun f hf => .inl hf, ⟨[], (List.append_nil _).symm⟩⟩, hw.ret (by repeat (first | exact List.Sublist.refl _ | apply List.Sublist.cons)) (FSub.ofSub fun f hf => (List.not_mem_nil hf).elim) (List.Sublist.refl _)⟩ | exact ⟨(⟨s.La, s.Lm, s.cs, s.gen, up s.acca, up s.accm, s.apn, s.acn, s.apc, s.acc, s.mpn, s.mcn, s.mpc, s.mcc⟩, []), by first | (have hh := h136; have hk := h139; exact beq_ret rfl), ⟨⟨hr.same, hr.fa, hr.fm⟩, Nat.le_succ _, Nat.le_refl _, Nat.le_succ _, fun h => by show up s.acca = up s.accm; rw [h], fun f hf => .inl hf, fun f hf => .inl hf, ⟨[], (List.append_nil _).symm⟩⟩, hw.ret (by repeat (first | exact List.Sublist.refl _ | apply List.Sublist.cons)) (FSub.ofSub fun f hf => (List.not_mem_nil hf).elim) (List.Sublist.refl _)⟩ | exact ⟨(⟨s.La, s.Lm, casL s.cs ci old (modv t.c ((s.Lm.length : Int) + 1)), s.gen, up s.acca, up s.accm, s.apn, s.acn, s.apc, s.acc, s.mpn, s.mcn, s.mpc, s.mcc⟩, []), bool_ret (h148.trans h153.symm), ⟨⟨hr.same, hr.fa, hr.fm⟩, Nat.le_succ _, Nat.le_refl _, by show (casL _ _ _ _).length ≤ _; rw [casL_length]; exact Nat.le_succ _, fun h => by show up s.acca = up s.accm; rw [h], fun f hf => .inl hf, fun f hf => .inl hf, ⟨[], (List.append_nil _).symm⟩⟩, hw.ret (by repeat (first | exact List.Sublist.refl _ | apply List.Sublist.cons)) (FSub.ofSub fun f hf => (List.not_mem_nil hf).elim) (List.Sublist.refl _)⟩ | exact ⟨(s, []), rfl, ⟨hr, Nat.le_succ _, Nat.le_refl _, Nat.le_succ _, id, fun f hf => .inl hf, fun f hf => .inl hf, ⟨[], (List.append_nil _).symm⟩⟩, hw.ret (by repeat (first | exact List.Sublist.refl _ | apply List.Sublist.cons)) (FSub.ofSub fun f hf => (List.not_mem_nil hf).elim) (List.Sublist.refl _)⟩
                    · try (exact absurd c132 (by decide))
                      all_goals (revert c132; (first | refine cv2 ?_ | refine cv4 ?_ | refine cv6 ?_ | refine cv8 ?_ | refine cva ?_ | refine cvc ?_ | refine cve ?_ | skip); intro c132)
                      all_goals try (exfalso; omega)
                      all_goals (refine k_seq ?_)
                      all_goals (refine k_seq ?_)
                      all_goals refine k_region ?_
                      all_goals refine j_eql ?_
                      all_goals refine j_assignL (fun _ => ?_)
                      all_goals refine l_nil ?_
                      all_goals
                        refine k_cond (by exact rfl) (fun c141 => ?_) (fun c141 => ?_)
                        · try (exact absurd c141 (by decide))
                          all_goals (revert c141; (first | refine cv1 ?_ | refine cv3 ?_ | refine cv5 ?_ | refine cv7 ?_ | refine cv9 ?_ | refine cvb ?_ | refine cvd ?_ | skip); intro c141)
                          all_goals try (exfalso; omega)
                          all_goals (refine k_skip ?_)
                          all_goals
                            refine k_cond (by exact rfl) (fun c141 => ?_) (fun c141 => ?_)
                            · try (exact absurd c141 (by decide))
                              all_goals (revert c141; (first | refine cv1 ?_ | refine cv3 ?_ | refine cv5 ?_ | refine cv7 ?_ | refine cv9 ?_ | refine cvb ?_ | refine cvd ?_ | skip); intro c141)
                              all_goals try (exfalso; omega)
                              all_goals (refine k_seq ?_)
                              all_goals refine k_region ?_
                              all_goals refine j_move ?_
                              all_goals refine j_move ?_
                              all_goals refine j_move ?_
                              all_goals refine j_move ?_
                              all_goals (refine j_own (cM (hc := fun w hs => aCAS_c (L := s.La) (cs := s.cs) hs ci old _ hx5 (by omega))) (fun x148 => ?_); try (refine l_fact (fun h148 => ?_)))
                              all_goals refine j_move ?_
                              all_goals refine j_move ?_
                              all_goals refine j_move ?_
                              all_goals refine j_move ?_
                              all_goals (refine j_own (cM (hc := fun w hs => mCAS_c (L := s.Lm) (cs := s.cs) hs ci old _ hx5 (by omega))) (fun x153 => ?_); try (refine l_fact (fun h153 => ?_)))
                              all_goals refine j_eqlB ?_
                              all_goals refine j_assignL (fun _ => ?_)
                              all_goals refine l_nil ?_
                              all_goals
                                refine k_retvF Try.results34 (.tmp (by conv => { lhs; whnf }) .nil) (fun w hw => ?_)
                                first | exact ⟨(⟨s.La ++ [alV v.nd v.xs v.ys s.cs.length x110], s.Lm ++ [alV v.nd v.xs v.ys s.cs.length x114], alCs v.nd.kind s.cs old, s.gen, s.acca, s.accm, x110.pn, x110.cn, x110.pc, x110.cc, x114.pn, x114.cn, x114.pc, x114.cc⟩, (alV v.nd v.xs v.ys s.cs.length x114).fr ++ (alV v.nd v.xs v.ys s.cs.length x110).fr), beq_ret (by omega), next_alloc hr hx2.1, hw.ret (by repeat (first | exact List.Sublist.refl _ | apply List.Sublist.cons)) (FSub.ofSub fun f hf => (List.mem_append.1 hf).elim (fun h => List.mem_append_left _ h) (fun h => List.mem_append_right _ (List.mem_append_left _ h))) (List.Sublist.refl _)⟩ | exact ⟨(⟨s.La, s.Lm, s.cs ++ [old], s.gen, s.acca, s.accm, s.apn, s.acn, x120.1, x120.2, s.mpn, s.mcn, x123.1, x123.2⟩, []), beq_ret rfl, ⟨⟨hr.same, hr.fa, hr.fm⟩, Nat.le_succ _, Nat.le_refl _, by simp, id, fun f hf => .inl hf, fun f hf => .inl hf, ⟨[], (List.append_nil _).symm⟩⟩, hw.ret (by repeat (first | exact List.Sublist.refl _ | apply List.Sublist.cons)) (FSub.ofSub fun f hf => (List.not_mem_nil hf).elim) (List.Sublist.refl _)⟩ | exact ⟨(⟨s.La, s.Lm, s.cs, up s.gen, s.acca, s.accm, s.apn, s.acn, s.apc, s.acc, s.mpn, s.mcn, s.mpc, s.mcc⟩, []), by first | (have hh := h128; have hk := h130; exact beq_ret rfl), ⟨⟨hr.same, hr.fa, hr.fm⟩, Nat.le_succ _, Nat.le_refl _, Nat.le_succ _, id, fun f hf => .inl hf, fun f hf => .inl hf, ⟨[], (List.append_nil _).symm⟩⟩, hw.ret (by repeat (first | exact List.Sublist.refl _ | apply List.Sublist.cons)) (FSub.ofSub fun f hf => (List.not_mem_nil hf).elim) (List.Sublist.refl _)⟩ | exact ⟨(⟨s.La, s.Lm, s.cs, s.gen, up s.acca, up s.accm, s.apn, s.acn, s.apc, s.acc, s.mpn, s.mcn, s.mpc, s.mcc⟩, []), by first | (have hh := h136; have hk := h139; exact beq_ret rfl), ⟨⟨hr.same, hr.fa, hr.fm⟩, Nat.le_succ _, Nat.le_refl _, Nat.le_succ _, fun h => by show up s.acca = up s.accm; rw [h], fun f hf => .inl hf, fun f hf => .inl hf, ⟨[], (List.append_nil _).symm⟩⟩, hw.ret (by repeat (first | exact List.Sublist.refl _ | apply List.Sublist.cons)) (FSub.ofSub fun f hf => (List.not_mem_nil hf).elim) (List.Sublist.refl _)⟩ | exact ⟨(⟨s.La, s.Lm, casL s.cs ci old (modv t.c ((s.Lm.length : Int) + 1)), s.gen, up s.acca, up s.accm, s.apn, s.acn, s.apc, s.acc, s.mpn, s.mcn, s.mpc, s.mcc⟩, []), bool_ret (h148.trans h153.symm), ⟨⟨hr.same, hr.fa, hr.fm⟩, Nat.le_succ _, Nat.le_refl _, by show (casL _ _ _ _).length ≤ _; rw [casL_length]; exact Nat.le_succ _, fun h => by show up s.acca = up s.accm; rw [h], fun f hf => .inl hf, fun f hf => .inl hf, ⟨[], (List.append_nil _).symm⟩⟩, hw.ret (by repeat (first | exact List.Sublist.refl _ | apply List.Sublist.cons)) (FSub.ofSub fun f hf => (List.not_mem_nil hf).elim) (List.Sublist.refl _)⟩ | exact ⟨(s, []), rfl, ⟨hr, Nat.le_succ _, Nat.le_refl _, Nat.le_succ _, id, fun f hf => .inl hf, fun f hf => .inl hf, ⟨[], (List.append_nil _).symm⟩⟩, hw.ret (by repeat (first | exact List.Sublist.refl _ | apply List.Sublist.cons)) (FSub.ofSub fun f hf => (List.not_mem_nil hf).elim) (List.Sublist.refl _)⟩
                            · try (exact absurd c141 (by decide))
                              all_goals (revert c141; (first | refine cv2 ?_ | refine cv4 ?_ | refine cv6 ?_ | refine cv8 ?_ | refine cva ?_ | refine cvc ?_ | refine cve ?_ | skip); intro c141)
                              all_goals try (exfalso; omega)
                              all_goals (refine k_skip ?_)
                              all_goals (refine k_blk ?_)
                              all_goals (refine k_seq ?_)
                              all_goals refine k_region ?_
                              all_goals refine j_assignL (fun _ => ?_)
                              all_goals refine l_nil ?_
                              all_goals
                                refine k_retvF Try.results34 (.tmp (by conv => { lhs; whnf }) .nil) (fun w hw => ?_)
                                first | exact ⟨(⟨s.La ++ [alV v.nd v.xs v.ys s.cs.length x110], s.Lm ++ [alV v.nd v.xs v.ys s.cs.length x114], alCs v.nd.kind s.cs old, s.gen, s.acca, s.accm, x110.pn, x110.cn, x110.pc, x110.cc, x114.pn, x114.cn, x114.pc, x114.cc⟩, (alV v.nd v.xs v.ys s.cs.length x114).fr ++ (alV v.nd v.xs v.ys s.cs.length x110).fr), beq_ret (by omega), next_alloc hr hx2.1, hw.ret (by repeat (first | exact List.Sublist.refl _ | apply List.Sublist.cons)) (FSub.ofSub fun f hf => (List.mem_append.1 hf).elim (fun h => List.mem_append_left _ h) (fun h => List.mem_append_right _ (List.mem_append_left _ h))) (List.Sublist.refl _)⟩ | exact ⟨(⟨s.La, s.Lm, s.cs ++ [old], s.gen, s.acca, s.accm, s.apn, s.acn, x120.1, x120.2, s.mpn, s.mcn, x123.1, x123.2⟩, []), beq_ret rfl, ⟨⟨hr.same, hr.fa, hr.fm⟩, Nat.le_succ _, Nat.le_refl _, by simp, id, fun f hf => .inl hf, fun f hf => .inl hf, ⟨[], (List.append_nil _).symm⟩⟩, hw.ret (by repeat (first | exact List.Sublist.refl _ | apply List.Sublist.cons)) (FSub.ofSub fun f hf => (List.not_mem_nil hf).elim) (List.Sublist.refl _)⟩ | exact ⟨(⟨s.La, s.Lm, s.cs, up s.gen, s.acca, s.accm, s.apn, s.acn, s.apc, s.acc, s.mpn, s.mcn, s.mpc, s.mcc⟩, []), by first | (have hh := h128; have hk := h130; exact beq_ret rfl), ⟨⟨hr.same, hr.fa, hr.fm⟩, Nat.le_succ _, Nat.le_refl _, Nat.le_succ _, id, fun f hf => .inl hf, fun f hf => .inl hf, ⟨[], (List.append_nil _).symm⟩⟩, hw.ret (by repeat (first | exact List.Sublist.refl _ | apply List.Sublist.cons)) (FSub.ofSub fun f hf => (List.not_mem_nil hf).elim) (List.Sublist.refl _)⟩ | exact ⟨(⟨s.La, s.Lm, s.cs, s.gen, up s.acca, up s.accm, s.apn, s.acn, s.apc, s.acc, s.mpn, s.mcn, s.mpc, s.mcc⟩, []), by first | (have hh := h136; have hk := h139; exact beq_ret rfl), ⟨⟨hr.same, hr.fa, hr.fm⟩, Nat.le_succ _, Nat.le_refl _, Nat.le_succ _, fun h => by show up s.acca = up s.accm; rw [h], fun f hf => .inl hf, fun f hf => .inl hf, ⟨[], (List.append_nil _).symm⟩⟩, hw.ret (by repeat (first | exact List.Sublist.refl _ | apply List.Sublist.cons)) (FSub.ofSub fun f hf => (List.not_mem_nil hf).elim) (List.Sublist.refl _)⟩ | exact ⟨(⟨s.La, s.Lm, casL s.cs ci old (modv t.c ((s.Lm.length : Int) + 1)), s.gen, up s.acca, up s.accm, s.apn, s.acn, s.apc, s.acc, s.mpn, s.mcn, s.mpc, s.mcc⟩, []), bool_ret (h148.trans h153.symm), ⟨⟨hr.same, hr.fa, hr.fm⟩, Nat.le_succ _, Nat.le_refl _, by show (casL _ _ _ _).length ≤ _; rw [casL_length]; exact Nat.le_succ _, fun h => by show up s.acca = up s.accm; rw [h], fun f hf => .inl hf, fun f hf => .inl hf, ⟨[], (List.append_nil _).symm⟩⟩, hw.ret (by repeat (first | exact List.Sublist.refl _ | apply List.Sublist.cons)) (FSub.ofSub fun f hf => (List.not_mem_nil hf).elim) (List.Sublist.refl _)⟩ | exact ⟨(s, []), rfl, ⟨hr, Nat.le_succ _, Nat.le_refl _, Nat.le_succ _, id, fun f hf => .inl hf, fun f hf => .inl hf, ⟨[], (List.append_nil _).symm⟩⟩, hw.ret (by repeat (first | exact List.Sublist.refl _ | apply List.Sublist.cons)) (FSub.ofSub fun f hf => (List.not_mem_nil hf).elim) (List.Sublist.refl _)⟩
                        · try (exact absurd c141 (by decide))
                          all_goals (revert c141; (first | refine cv2 ?_ | refine cv4 ?_ | refine cv6 ?_ | refine cv8 ?_ | refine cva ?_ | refine cvc ?_ | refine cve ?_ | skip); intro c141)
                          all_goals try (exfalso; omega)
                          all_goals refine k_region ?_
                          all_goals refine j_eql ?_
                          all_goals refine j_assignL (fun _ => ?_)
                          all_goals refine l_nil ?_
                          all_goals
                            refine k_cond (by exact rfl) (fun c141 => ?_) (fun c141 => ?_)
                            · try (exact absurd c141 (by decide))
                              all_goals (revert c141; (first | refine cv1 ?_ | refine cv3 ?_ | refine cv5 ?_ | refine cv7 ?_ | refine cv9 ?_ | refine cvb ?_ | refine cvd ?_ | skip); intro c141)
                              all_goals try (exfalso; omega)
                              all_goals (refine k_seq ?_)
                              all_goals refine k_region ?_
                              all_goals refine j_move ?_
                              all_goals refine j_move ?_
                              all_goals refine j_move ?_
                              all_goals refine j_move ?_
                              all_goals (refine j_own (cM (hc := fun w hs => aCAS_c (L := s.La) (cs := s.cs) hs ci old _ hx5 (by omega))) (fun x148 => ?_); try (refine l_fact (fun h148 => ?_)))
                              all_goals refine j_move ?_
                              all_goals refine j_move ?_
                              all_goals refine j_move ?_
                              all_goals refine j_move ?_
                              all_goals (refine j_own (cM (hc := fun w hs => mCAS_c (L := s.Lm) (cs := s.cs) hs ci old _ hx5 (by omega))) (fun x153 => ?_); try (refine l_fact (fun h153 => ?_)))
                              all_goals refine j_eqlB ?_
                              all_goals refine j_assignL (fun _ => ?_)
                              all_goals refine l_nil ?_
                              all_goals
                                refine k_retvF Try.results34 (.tmp (by conv => { lhs; whnf }) .nil) (fun w hw => ?_)
                                first | exact ⟨(⟨s.La ++ [alV v.nd v.xs v.ys s.cs.length x110], s.Lm ++ [alV v.nd v.xs v.ys s.cs.length x114], alCs v.nd.kind s.cs old, s.gen, s.acca, s.accm, x110.pn, x110.cn, x110.pc, x110.cc, x114.pn, x114.cn, x114.pc, x114.cc⟩, (alV v.nd v.xs v.ys s.cs.length x114).fr ++ (alV v.nd v.xs v.ys s.cs.length x110).fr), beq_ret (by omega), next_alloc hr hx2.1, hw.ret (by repeat (first | exact List.Sublist.refl _ | apply List.Sublist.cons)) (FSub.ofSub fun f hf => (List.mem_append.1 hf).elim (fun h => List.mem_append_left _ h) (fun h => List.mem_append_right _ (List.mem_append_left _ h))) (List.Sublist.refl _)⟩ | exact ⟨(⟨s.La, s.Lm, s.cs ++ [old], s.gen, s.acca, s.accm, s.apn, s.acn, x120.1, x120.2, s.mpn, s.mcn, x123.1, x123.2⟩, []), beq_ret rfl, ⟨⟨hr.same, hr.fa, hr.fm⟩, Nat.le_succ _, Nat.le_refl _, by simp, id, fun f hf => .inl hf, fun f hf => .inl hf, ⟨[], (List.append_nil _).symm⟩⟩, hw.ret (by repeat (first | exact List.Sublist.refl _ | apply List.Sublist.cons)) (FSub.ofSub fun f hf => (List.not_mem_nil hf).elim) (List.Sublist.refl _)⟩ | exact ⟨(⟨s.La, s.Lm, s.cs, up s.gen, s.acca, s.accm, s.apn, s.acn, s.apc, s.acc, s.mpn, s.mcn, s.mpc, s.mcc⟩, []), by first | (have hh := h128; have hk := h130; exact beq_ret rfl), ⟨⟨hr.same, hr.fa, hr.fm⟩, Nat.le_succ _, Nat.le_refl _, Nat.le_succ _, id, fun f hf => .inl hf, fun f hf => .inl hf, ⟨[], (List.append_nil _).symm⟩⟩, hw.ret (by repeat (first | exact List.Sublist.refl _ | apply List.Sublist.cons)) (FSub.ofSub fun f hf => (List.not_mem_nil hf).elim) (List.Sublist.refl _)⟩ | exact ⟨(⟨s.La, s.Lm, s.cs, s.gen, up s.acca, up s.accm, s.apn, s.acn, s.apc, s.acc, s.mpn, s.mcn, s.mpc, s.mcc⟩, []), by first | (have hh := h136; have hk := h139; exact beq_ret rfl), ⟨⟨hr.same, hr.fa, hr.fm⟩, Nat.le_succ _, Nat.le_refl _, Nat.le_succ _, fun h => by show up s.acca = up s.accm; rw [h], fun f hf => .inl hf, fun f hf => .inl hf, ⟨[], (List.append_nil _).symm⟩⟩, hw.ret (by repeat (first | exact List.Sublist.refl _ | apply List.Sublist.cons)) (FSub.ofSub fun f hf => (List.not_mem_nil hf).elim) (List.Sublist.refl _)⟩ | exact ⟨(⟨s.La, s.Lm, casL s.cs ci old (modv t.c ((s.Lm.length : Int) + 1)), s.gen, up s.acca, up s.accm, s.apn, s.acn, s.apc, s.acc, s.mpn, s.mcn, s.mpc, s.mcc⟩, []), bool_ret (h148.trans h153.symm), ⟨⟨hr.same, hr.fa, hr.fm⟩, Nat.le_succ _, Nat.le_refl _, by show (casL _ _ _ _).length ≤ _; rw [casL_length]; exact Nat.le_succ _, fun h => by show up s.acca = up s.accm; rw [h], fun f hf => .inl hf, fun f hf => .inl hf, ⟨[], (List.append_nil _).symm⟩⟩, hw.ret (by repeat (first | exact List.Sublist.refl _ | apply List.Sublist.cons)) (FSub.ofSub fun f hf => (List.not_mem_nil hf).elim) (List.Sublist.refl _)⟩ | exact ⟨(s, []), rfl, ⟨hr, Nat.le_succ _, Nat.le_refl _, Nat.le_succ _, id, fun f hf => .inl hf, fun f hf => .inl hf, ⟨[], (List.append_nil _).symm⟩⟩, hw.ret (by repeat (first | exact List.Sublist.refl _ | apply List.Sublist.cons)) (FSub.ofSub fun f hf => (List.not_mem_nil hf).elim) (List.Sublist.refl _)⟩
                            · try (exact absurd c141 (by decide))
                              all_goals (revert c141; (first | refine cv2 ?_ | refine cv4 ?_ | refine cv6 ?_ | refine cv8 ?_ | refine cva ?_ | refine cvc ?_ | refine cve ?_ | skip); intro c141)
                              all_goals try (exfalso; omega)
                              all_goals (refine k_skip ?_)
                              all_goals (refine k_blk ?_)
                              all_goals (refine k_seq ?_)
                              all_goals refine k_region ?_
                              all_goals refine j_assignL (fun _ => ?_)
                              all_goals refine l_nil ?_
                              all_goals
                                refine k_retvF Try.results34 (.tmp (by conv => { lhs; whnf }) .nil) (fun w hw => ?_)
                                first | exact ⟨(⟨s.La ++ [alV v.nd v.xs v.ys s.cs.length x110], s.Lm ++ [alV v.nd v.xs v.ys s.cs.length x114], alCs v.nd.kind s.cs old, s.gen, s.acca, s.accm, x110.pn, x110.cn, x110.pc, x110.cc, x114.pn, x114.cn, x114.pc, x114.cc⟩, (alV v.nd v.xs v.ys s.cs.length x114).fr ++ (alV v.nd v.xs v.ys s.cs.length x110).fr), beq_ret (by omega), next_alloc hr hx2.1, hw.ret (by repeat (first | exact List.Sublist.refl _ | apply List.Sublist.cons)) (FSub.ofSub fun f hf => (List.mem_append.1 hf).elim (fun h => List.mem_append_left _ h) (fun h => List.mem_append_right _ (List.mem_append_left _ h))) (List.Sublist.refl _)⟩ | exact ⟨(⟨s.La, s.Lm, s.cs ++ [old], s.gen, s.acca, s.accm, s.apn, s.acn, x120.1, x120.2, s.mpn, s.mcn, x123.1, x123.2⟩, []), beq_ret rfl, ⟨⟨hr.same, hr.fa, hr.fm⟩, Nat.le_succ _, Nat.le_refl _, by simp, id, fun f hf => .inl hf, fun f hf => .inl hf, ⟨[], (List.append_nil _).symm⟩⟩, hw.ret (by repeat (first | exact List.Sublist.refl _ | apply List.Sublist.cons)) (FSub.ofSub fun f hf => (List.not_mem_nil hf).elim) (List.Sublist.refl _)⟩ | exact ⟨(⟨s.La, s.Lm, s.cs, up s.gen, s.acca, s.accm, s.apn, s.acn, s.apc, s.acc, s.mpn, s.mcn, s.mpc, s.mcc⟩, []), by first | (have hh := h128; have hk := h130; exact beq_ret rfl), ⟨⟨hr.same, hr.fa, hr.fm⟩, Nat.le_succ _, Nat.le_refl _, Nat.le_succ _, id, fun f hf => .inl hf, fun f hf => .inl hf, ⟨[], (List.append_nil _).symm⟩⟩, hw.ret (by repeat (first | exact List.Sublist.refl _ | apply List.Sublist.cons)) (FSub.ofSub fun f hf => (List.not_mem_nil hf).elim) (List.Sublist.refl _)⟩ | exact ⟨(⟨s.La, s.Lm, s.cs, s.gen, up s.acca, up s.accm, s.apn, s.acn, s.apc, s.acc, s.mpn, s.mcn, s.mpc, s.mcc⟩, []), by first | (have hh := h136; have hk := h139; exact beq_ret rfl), ⟨⟨hr.same, hr.fa, hr.fm⟩, Nat.le_succ _, Nat.le_refl _, Nat.le_succ _, fun h => by show up s.acca = up s.accm; rw [h], fun f hf => .inl hf, fun f hf => .inl hf, ⟨[], (List.append_nil _).symm⟩⟩, hw.ret (by repeat (first | exact List.Sublist.refl _ | apply List.Sublist.cons)) (FSub.ofSub fun f hf => (List.not_mem_nil hf).elim) (List.Sublist.refl _)⟩ | exact ⟨(⟨s.La, s.Lm, casL s.cs ci old (modv t.c ((s.Lm.length : Int) + 1)), s.gen, up s.acca, up s.accm, s.apn, s.acn, s.apc, s.acc, s.mpn, s.mcn, s.mpc, s.mcc⟩, []), bool_ret (h148.trans h153.symm), ⟨⟨hr.same, hr.fa, hr.fm⟩, Nat.le_succ _, Nat.le_refl _, by show (casL _ _ _ _).length ≤ _; rw [casL_length]; exact Nat.le_succ _, fun h => by show up s.acca = up s.accm; rw [h], fun f hf => .inl hf, fun f hf => .inl hf, ⟨[], (List.append_nil _).symm⟩⟩, hw.ret (by repeat (first | exact List.Sublist.refl _ | apply List.Sublist.cons)) (FSub.ofSub fun f hf => (List.not_mem_nil hf).elim) (List.Sublist.refl _)⟩ | exact ⟨(s, []), rfl, ⟨hr, Nat.le_succ _, Nat.le_refl _, Nat.le_succ _, id, fun f hf => .inl hf, fun f hf => .inl hf, ⟨[], (List.append_nil _).symm⟩⟩, hw.ret (by repeat (first | exact List.Sublist.refl _ | apply List.Sublist.cons)) (FSub.ofSub fun f hf => (List.not_mem_nil hf).elim) (List.Sublist.refl _)⟩
    · try (exact absurd c104 (by decide))
      all_goals (revert c104; (first | refine cv2 ?_ | refine cv4 ?_ | refine cv6 ?_ | refine cv8 ?_ | refine cva ?_ | refine cvc ?_ | refine cve ?_ | skip); intro c104)
      all_goals try (exfalso; omega)
      all_goals refine k_region ?_
      all_goals refine j_eql ?_
      all_goals refine j_assignL (fun _ => ?_)
      all_goals refine l_nil ?_
      all_goals
        refine k_cond (by exact rfl) (fun c104 => ?_) (fun c104 => ?_)
        · try (exact absurd c104 (by decide))
          all_goals (revert c104; (first | refine cv1 ?_ | refine cv3 ?_ | refine cv5 ?_ | refine cv7 ?_ | refine cv9 ?_ | refine cvb ?_ | refine cvd ?_ | skip); intro c104)
          all_goals try (exfalso; omega)
          all_goals (refine k_seq ?_)
          all_goals refine k_drawF (.one 0 [] (.one 1 [] (.one 2 [] (.one 4 [] (.one 5 [] (.one 6 [] (.one 3 [5] (.one 7 [] (.one 8 [] (.one 9 [] .nil)))))))))) ?_
          all_goals (refine r_move (i := 0) ?_)
          all_goals (refine r_load (i := 1) ?_)
          all_goals (refine r_move (i := 2) ?_)
          all_goals (refine r_move (i := 4) ?_)
          all_goals (refine r_load (i := 5) ?_)
          all_goals (refine r_move (i := 6) ?_)
          all_goals ((refine r_own (i := 3) (hq := (cM (A0 := v.fr) (hA := HasAll.of fun f hf => (hx2.2 f hf).elim (fun h => .inr (.inl h)) (fun h => .inr (.inr (.inl h)))) (hc := fun w hs => aAlloc_c (L := s.La) (cs := s.cs) (n := v.nd) (xs := v.xs) (ys := v.ys) old hs hx2.1.fit.brN hx2.1.fit.prN (by have := hx2.1.xs; omega) (by have := hx2.1.ys; omega) (by omega) (by omega)))) (hfire := (fun _ => by first | (refine FireAll.cons (by first | exact a_load | exact a_un) ?_; exact FireAll.nil) | (refine fireall_fact ?_; refine FireAll.cons (by first | exact a_load | exact a_un) ?_; exact FireAll.nil))) (h := fun x110 => ?_); try (refine r_fact (fun h110 => ?_))))
          all_goals ((refine r_own (i := 7) (hq := (cM (A0 := v.fr) (hA := HasAll.of fun f hf => (hx2.2 f hf).elim (fun h => .inr (.inl h)) (fun h => .inr (.inr (.inl (List.mem_append_right _ h))))) (hc := fun w hs => mAlloc_c (L := s.Lm) (cs := s.cs) (n := v.nd) (xs := v.xs) (ys := v.ys) old hs hx2.1.fit.brN hx2.1.fit.prN (by have := hx2.1.xs; omega) (by have := hx2.1.ys; omega) (by omega) (by omega)))) (hfire := (fun _ => .nil)) (h := fun x114 => ?_); try (refine r_fact (fun h114 => ?_))))
          all_goals (refine r_eql (i := 8) ?_)
          all_goals (refine r_assignL (i := 9) (hfire := (fun _ => .nil)) (h := fun _ => ?_))
          all_goals refine r_fin ?_
          all_goals
            refine k_retvF Try.results34 (.tmp (by conv => { lhs; whnf }) .nil) (fun w hw => ?_)
            first | exact ⟨(⟨s.La ++ [alV v.nd v.xs v.ys s.cs.length x110], s.Lm ++ [alV v.nd v.xs v.ys s.cs.length x114], alCs v.nd.kind s.cs old, s.gen, s.acca, s.accm, x110.pn, x110.cn, x110.pc, x110.cc, x114.pn, x114.cn, x114.pc, x114.cc⟩, (alV v.nd v.xs v.ys s.cs.length x114).fr ++ (alV v.nd v.xs v.ys s.cs.length x110).fr), beq_ret (by omega), next_alloc hr hx2.1, hw.ret (by repeat (first | exact List.Sublist.refl _ | apply List.Sublist.cons)) (FSub.ofSub fun f hf => (List.mem_append.1 hf).elim (fun h => List.mem_append_left _ h) (fun h => List.mem_append_right _ (List.mem_append_left _ h))) (List.Sublist.refl _)⟩ | exact ⟨(⟨s.La, s.Lm, s.cs ++ [old], s.gen, s.acca, s.accm, s.apn, s.acn, x120.1, x120.2, s.mpn, s.mcn, x123.1, x123.2⟩, []), beq_ret rfl, ⟨⟨hr.same, hr.fa, hr.fm⟩, Nat.le_succ _, Nat.le_refl _, by simp, id, fun f hf => .inl hf, fun f hf => .inl hf, ⟨[], (List.append_nil _).symm⟩⟩, hw.ret (by repeat (first | exact List.Sublist.refl _ | apply List.Sublist.cons)) (FSub.ofSub fun f hf => (List.not_mem_nil hf).elim) (List.Sublist.refl _)⟩ | exact ⟨(⟨s.La, s.Lm, s.cs, up s.gen, s.acca, s.accm, s.apn, s.acn, s.apc, s.acc, s.mpn, s.mcn, s.mpc, s.mcc⟩, []), by first | (have hh := h128; have hk := h130; exact beq_ret rfl), ⟨⟨hr.same, hr.fa, hr.fm⟩, Nat.le_succ _, Nat.le_refl _, Nat.le_succ _, id, fun f hf => .inl hf, fun f hf => .inl hf, ⟨[], (List.append_nil _).symm⟩⟩, hw.ret (by repeat (first | exact List.Sublist.refl _ | apply List.Sublist.cons)) (FSub.ofSub fun f hf => (List.not_mem_nil hf).elim) (List.Sublist.refl _)⟩ | exact ⟨(⟨s.La, s.Lm, s.cs, s.gen, up s.acca, up s.accm, s.apn, s.acn, s.apc, s.acc, s.mpn, s.mcn, s.mpc, s.mcc⟩, []), by first | (have hh := h136; have hk := h139; exact beq_ret rfl), ⟨⟨hr.same, hr.fa, hr.fm⟩, Nat.le_succ _, Nat.le_refl _, Nat.le_succ _, fun h => by show up s.acca = up s.accm; rw [h], fun f hf => .inl hf, fun f hf => .inl hf, ⟨[], (List.append_nil _).symm⟩⟩, hw.ret (by repeat (first | exact List.Sublist.refl _ | apply List.Sublist.cons)) (FSub.ofSub fun f hf => (List.not_mem_nil hf).elim) (List.Sublist.refl _)⟩ | exact ⟨(⟨s.La, s.Lm, casL s.cs ci old (modv t.c ((s.Lm.length : Int) + 1)), s.gen, up s.acca, up s.accm, s.apn, s.acn, s.apc, s.acc, s.mpn, s.mcn, s.mpc, s.mcc⟩, []), bool_ret (h148.trans h153.symm), ⟨⟨hr.same, hr.fa, hr.fm⟩, Nat.le_succ _, Nat.le_refl _, by show (casL _ _ _ _).length ≤ _; rw [casL_length]; exact Nat.le_succ _, fun h => by show up s.acca = up s.accm; rw [h], fun f hf => .inl hf, fun f hf => .inl hf, ⟨[], (List.append_nil _).symm⟩⟩, hw.ret (by repeat (first | exact List.Sublist.refl _ | apply List.Sublist.cons)) (FSub.ofSub fun f hf => (List.not_mem_nil hf).elim) (List.Sublist.refl _)⟩ | exact ⟨(s, []), rfl, ⟨hr, Nat.le_succ _, Nat.le_refl _, Nat.le_succ _, id, fun f hf => .inl hf, fun f hf => .inl hf, ⟨[], (List.append_nil _).symm⟩⟩, hw.ret (by repeat (first | exact List.Sublist.refl _ | apply List.Sublist.cons)) (FSub.ofSub fun f hf => (List.not_mem_nil hf).elim) (List.Sublist.refl _)⟩
        · try (exact absurd c104 (by decide))
          all_goals (revert c104; (first | refine cv2 ?_ | refine cv4 ?_ | refine cv6 ?_ | refine cv8 ?_ | refine cva ?_ | refine cvc ?_ | refine cve ?_ | skip); intro c104)
          all_goals try (exfalso; omega)
          all_goals (refine k_seq ?_)
          all_goals refine k_region ?_
          all_goals refine j_eql ?_
          all_goals refine j_assignL (fun _ => ?_)
          all_goals refine l_nil ?_
          all_goals
            refine k_cond (by exact rfl) (fun c116 => ?_) (fun c116 => ?_)
            · try (exact absurd c116 (by decide))
              all_goals (revert c116; (first | refine cv1 ?_ | refine cv3 ?_ | refine cv5 ?_ | refine cv7 ?_ | refine cv9 ?_ | refine cvb ?_ | refine cvd ?_ | skip); intro c116)
              all_goals try (exfalso; omega)
              all_goals (refine k_seq ?_)
              all_goals refine k_region ?_
              all_goals refine j_move ?_
              all_goals refine j_move ?_
              all_goals (refine j_own (cM (hc := fun w hs => aNewCell_c (L := s.La) (cs := s.cs) old hs (by omega))) (fun x120 => ?_); try (refine l_fact (fun h120 => ?_)))
              all_goals refine j_move ?_
              all_goals refine j_move ?_
              all_goals (refine j_own (cM (hc := fun w hs => mNewCell_c (L := s.Lm) (cs := s.cs) old hs (by omega))) (fun x123 => ?_); try (refine l_fact (fun h123 => ?_)))
              all_goals refine j_eql ?_
              all_goals refine j_assignL (fun _ => ?_)
              all_goals refine l_nil ?_
              all_goals
                refine k_retvF Try.results34 (.tmp (by conv => { lhs; whnf }) .nil) (fun w hw => ?_)
                first | exact ⟨(⟨s.La ++ [alV v.nd v.xs v.ys s.cs.length x110], s.Lm ++ [alV v.nd v.xs v.ys s.cs.length x114], alCs v.nd.kind s.cs old, s.gen, s.acca, s.accm, x110.pn, x110.cn, x110.pc, x110.cc, x114.pn, x114.cn, x114.pc, x114.cc⟩, (alV v.nd v.xs v.ys s.cs.length x114).fr ++ (alV v.nd v.xs v.ys s.cs.length x110).fr), beq_ret (by omega), next_alloc hr hx2.1, hw.ret (by repeat (first | exact List.Sublist.refl _ | apply List.Sublist.cons)) (FSub.ofSub fun f hf => (List.mem_append.1 hf).elim (fun h => List.mem_append_left _ h) (fun h => List.mem_append_right _ (List.mem_append_left _ h))) (List.Sublist.refl _)⟩ | exact ⟨(⟨s.La, s.Lm, s.cs ++ [old], s.gen, s.acca, s.accm, s.apn, s.acn, x120.1, x120.2, s.mpn, s.mcn, x123.1, x123.2⟩, []), beq_ret rfl, ⟨⟨hr.same, hr.fa, hr.fm⟩, Nat.le_succ _, Nat.le_refl _, by simp, id, fun f hf => .inl hf, fun f hf => .inl hf, ⟨[], (List.append_nil _).symm⟩⟩, hw.ret (by repeat (first | exact List.Sublist.refl _ | apply List.Sublist.cons)) (FSub.ofSub fun f hf => (List.not_mem_nil hf).elim) (List.Sublist.refl _)⟩ | exact ⟨(⟨s.La, s.Lm, s.cs, up s.gen, s.acca, s.accm, s.apn, s.acn, s.apc, s.acc, s.mpn, s.mcn, s.mpc, s.mcc⟩, []), by first | (have hh := h128; have hk := h130; exact beq_ret rfl), ⟨⟨hr.same, hr.fa, hr.fm⟩, Nat.le_succ _, Nat.le_refl _, Nat.le_succ _, id, fun f hf => .inl hf, fun f hf => .inl hf, ⟨[], (List.append_nil _).symm⟩⟩, hw.ret (by repeat (first | exact List.Sublist.refl _ | apply List.Sublist.cons)) (FSub.ofSub fun f hf => (List.not_mem_nil hf).elim) (List.Sublist.refl _)⟩ | exact ⟨(⟨s.La, s.Lm, s.cs, s.gen, up s.acca, up s.accm, s.apn, s.acn, s.apc, s.acc, s.mpn, s.mcn, s.mpc, s.mcc⟩, []), by first | (have hh := h136; have hk := h139; exact beq_ret rfl), ⟨⟨hr.same, hr.fa, hr.fm⟩, Nat.le_succ _, Nat.le_refl _, Nat.le_succ _, fun h => by show up s.acca = up s.accm; rw [h], fun f hf => .inl hf, fun f hf => .inl hf, ⟨[], (List.append_nil _).symm⟩⟩, hw.ret (by repeat (first | exact List.Sublist.refl _ | apply List.Sublist.cons)) (FSub.ofSub fun f hf => (List.not_mem_nil hf).elim) (List.Sublist.refl _)⟩ | exact ⟨(⟨s.La, s.Lm, casL s.cs ci old (modv t.c ((s.Lm.length : Int) + 1)), s.gen, up s.acca, up s.accm, s.apn, s.acn, s.apc, s.acc, s.mpn, s.mcn, s.mpc, s.mcc⟩, []), bool_ret (h148.trans h153.symm), ⟨⟨hr.same, hr.fa, hr.fm⟩, Nat.le_succ _, Nat.le_refl _, by show (casL _ _ _ _).length ≤ _; rw [casL_length]; exact Nat.le_succ _, fun h => by show up s.acca = up s.accm; rw [h], fun f hf => .inl hf, fun f hf => .inl hf, ⟨[], (List.append_nil _).symm⟩⟩, hw.ret (by repeat (first | exact List.Sublist.refl _ | apply List.Sublist.cons)) (FSub.ofSub fun f hf => (List.not_mem_nil hf).elim) (List.Sublist.refl _)⟩ | exact ⟨(s, []), rfl, ⟨hr, Nat.le_succ _, Nat.le_refl _, Nat.le_succ _, id, fun f hf => .inl hf, fun f hf => .inl hf, ⟨[], (List.append_nil _).symm⟩⟩, hw.ret (by repeat (first | exact List.Sublist.refl _ | apply List.Sublist.cons)) (FSub.ofSub fun f hf => (List.not_mem_nil hf).elim) (List.Sublist.refl _)⟩
            · try (exact absurd c116 (by decide))
              all_goals (revert c116; (first | refine cv2 ?_ | refine cv4 ?_ | refine cv6 ?_ | refine cv8 ?_ | refine cva ?_ | refine cvc ?_ | refine cve ?_ | skip); intro c116)
              all_goals try (exfalso; omega)
              all_goals (refine k_seq ?_)
              all_goals refine k_region ?_
              all_goals refine j_eql ?_
              all_goals refine j_assignL (fun _ => ?_)
              all_goals refine l_nil ?_
              all_goals
                refine k_cond (by exact rfl) (fun c125 => ?_) (fun c125 => ?_)
                · try (exact absurd c125 (by decide))
                  all_goals (revert c125; (first | refine cv1 ?_ | refine cv3 ?_ | refine cv5 ?_ | refine cv7 ?_ | refine cv9 ?_ | refine cvb ?_ | refine cvd ?_ | skip); intro c125)
                  all_goals try (exfalso; omega)
                  all_goals (refine k_seq ?_)
                  all_goals refine k_region ?_
                  all_goals refine j_move ?_
                  all_goals (refine j_own (cM (hc := fun w hs => aNewGen_c (L := s.La) (cs := s.cs) hs)) (fun x128 => ?_); try (refine l_fact (fun h128 => ?_)))
                  all_goals refine j_move ?_
                  all_goals (refine j_own (cM (hc := fun w hs => mNewGen_c (L := s.Lm) (cs := s.cs) hs)) (fun x130 => ?_); try (refine l_fact (fun h130 => ?_)))
                  all_goals refine j_eql ?_
                  all_goals refine j_assignL (fun _ => ?_)
                  all_goals refine l_nil ?_
                  all_goals
                    refine k_retvF Try.results34 (.tmp (by conv => { lhs; whnf }) .nil) (fun w hw => ?_)
                    first | exact ⟨(⟨s.La ++ [alV v.nd v.xs v.ys s.cs.length x110], s.Lm ++ [alV v.nd v.xs v.ys s.cs.length x114], alCs v.nd.kind s.cs old, s.gen, s.acca, s.accm, x110.pn, x110.cn, x110.pc, x110.cc, x114.pn, x114.cn, x114.pc, x114.cc⟩, (alV v.nd v.xs v.ys s.cs.length x114).fr ++ (alV v.nd v.xs v.ys s.cs.length x110).fr), beq_ret (by omega), next_alloc hr hx2.1, hw.ret (by repeat (first | exact List.Sublist.refl _ | apply List.Sublist.cons)) (FSub.ofSub fun f hf => (List.mem_append.1 hf).elim (fun h => List.mem_append_left _ h) (fun h => List.mem_append_right _ (List.mem_append_left _ h))) (List.Sublist.refl _)⟩ | exact ⟨(⟨s.La, s.Lm, s.cs ++ [old], s.gen, s.acca, s.accm, s.apn, s.acn, x120.1, x120.2, s.mpn, s.mcn, x123.1, x123.2⟩, []), beq_ret rfl, ⟨⟨hr.same, hr.fa, hr.fm⟩, Nat.le_succ _, Nat.le_refl _, by simp, id, fun f hf => .inl hf, fun f hf => .inl hf, ⟨[], (List.append_nil _).symm⟩⟩, hw.ret (by repeat (first | exact List.Sublist.refl _ | apply List.Sublist.cons)) (FSub.ofSub fun f hf => (List.not_mem_nil hf).elim) (List.Sublist.refl _)⟩ | exact ⟨(⟨s.La, s.Lm, s.cs, up s.gen, s.acca, s.accm, s.apn, s.acn, s.apc, s.acc, s.mpn, s.mcn, s.mpc, s.mcc⟩, []), by first | (have hh := h128; have hk := h130; exact beq_ret rfl), ⟨⟨hr.same, hr.fa, hr.fm⟩, Nat.le_succ _, Nat.le_refl _, Nat.le_succ _, id, fun f hf => .inl hf, fun f hf => .inl hf, ⟨[], (List.append_nil _).symm⟩⟩, hw.ret (by repeat (first | exact List.Sublist.refl _ | apply List.Sublist.cons)) (FSub.ofSub fun f hf => (List.not_mem_nil hf).elim) (List.Sublist.refl _)⟩ | exact ⟨(⟨s.La, s.Lm, s.cs, s.gen, up s.acca, up s.accm, s.apn, s.acn, s.apc, s.acc, s.mpn, s.mcn, s.mpc, s.mcc⟩, []), by first | (have hh := h136; have hk := h139; exact beq_ret rfl), ⟨⟨hr.same, hr.fa, hr.fm⟩, Nat.le_succ _, Nat.le_refl _, Nat.le_succ _, fun h => by show up s.acca = up s.accm; rw [h], fun f hf => .inl hf, fun f hf => .inl hf, ⟨[], (List.append_nil _).symm⟩⟩, hw.ret (by repeat (first | exact List.Sublist.refl _ | apply List.Sublist.cons)) (FSub.ofSub fun f hf => (List.not_mem_nil hf).elim) (List.Sublist.refl _)⟩ | exact ⟨(⟨s.La, s.Lm, casL s.cs ci old (modv t.c ((s.Lm.length : Int) + 1)), s.gen, up s.acca, up s.accm, s.apn, s.acn, s.apc, s.acc, s.mpn, s.mcn, s.mpc, s.mcc⟩, []), bool_ret (h148.trans h153.symm), ⟨⟨hr.same, hr.fa, hr.fm⟩, Nat.le_succ _, Nat.le_refl _, by show (casL _ _ _ _).length ≤ _; rw [casL_length]; exact Nat.le_succ _, fun h => by show up s.acca = up s.accm; rw [h], fun f hf => .inl hf, fun f hf => .inl hf, ⟨[], (List.append_nil _).symm⟩⟩, hw.ret (by repeat (first | exact List.Sublist.refl _ | apply List.Sublist.cons)) (FSub.ofSub fun f hf => (List.not_mem_nil hf).elim) (List.Sublist.refl _)⟩ | exact ⟨(s, []), rfl, ⟨hr, Nat.le_succ _, Nat.le_refl _, Nat.le_succ _, id, fun f hf => .inl hf, fun f hf => .inl hf, ⟨[], (List.append_nil _).symm⟩⟩, hw.ret (by repeat (first | exact List.Sublist.refl _ | apply List.Sublist.cons)) (FSub.ofSub fun f hf => (List.not_mem_nil hf).elim) (List.Sublist.refl _)⟩
                · try (exact absurd c125 (by decide))
                  all_goals (revert c125; (first | refine cv2 ?_ | refine cv4 ?_ | refine cv6 ?_ | refine cv8 ?_ | refine cva ?_ | refine cvc ?_ | refine cve ?_ | skip); intro c125)
                  all_goals try (exfalso; omega)
                  all_goals (refine k_seq ?_)
                  all_goals refine k_region ?_
                  all_goals refine j_eql ?_
                  all_goals refine j_assignL (fun _ => ?_)
                  all_goals refine l_nil ?_
                  all_goals
                    refine k_cond (by exact rfl) (fun c132 => ?_) (fun c132 => ?_)
                    · try (exact absurd c132 (by decide))
                      all_goals (revert c132; (first | refine cv1 ?_ | refine cv3 ?_ | refine cv5 ?_ | refine cv7 ?_ | refine cv9 ?_ | refine cvb ?_ | refine cvd ?_ | skip); intro c132)
                      all_goals try (exfalso; omega)
                      all_goals (refine k_seq ?_)
                      all_goals refine k_region ?_
                      all_goals refine j_move ?_
                      all_goals refine j_move ?_
                      all_goals (refine j_own (cM (hc := fun w hs => aLoad_c (L := s.La) (cs := s.cs) hs ci hx5 (by omega))) (fun x136 => ?_); try (refine l_fact (fun h136 => ?_)))
                      all_goals refine j_move ?_
                      all_goals refine j_move ?_
                      all_goals (refine j_own (cM (hc := fun w hs => mLoad_c (L := s.Lm) (cs := s.cs) hs ci hx5 (by omega))) (fun x139 => ?_); try (refine l_fact (fun h139 => ?_)))
                      all_goals refine j_eql ?_
                      all_goals refine j_assignL (fun _ => ?_)
                      all_goals refine l_nil ?_
                      all_goals
                        refine k_retvF Try.results34 (.tmp (by conv => { lhs; whnf }) .nil) (fun w hw => ?_)
                        first | exact ⟨(⟨s.La ++ [alV v.nd v.xs v.ys s.cs.length x110], s.Lm ++ [alV v.nd v.xs v.ys s.cs.length x114], alCs v.nd.kind s.cs old, s.gen, s.acca, s.accm, x110.pn, x110.cn, x110.pc, x110.cc, x114.pn, x114.cn, x114.pc, x114.cc⟩, (alV v.nd v.xs v.ys s.cs.length x114).fr ++ (alV v.nd v.xs v.ys s.cs.length x110).fr), beq_ret (by omega), next_alloc hr hx2.1, hw.ret (by repeat (first | exact List.Sublist.refl _ | apply List.Sublist.cons)) (FSub.ofSub fun f hf => (List.mem_append.1 hf).elim (fun h => List.mem_append_left _ h) (fun h => List.mem_append_right _ (List.mem_append_left _ h))) (List.Sublist.refl _)⟩ | exact ⟨(⟨s.La, s.Lm, s.cs ++ [old], s.gen, s.acca, s.accm, s.apn, s.acn, x120.1, x120.2, s.mpn, s.mcn, x123.1, x123.2⟩, []), beq_ret rfl, ⟨⟨hr.same, hr.fa, hr.fm⟩, Nat.le_succ _, Nat.le_refl _, by simp, id, fun f hf => .inl hf, fun f hf => .inl hf, ⟨[], (List.append_nil _).symm⟩⟩, hw.ret (by repeat (first | exact List.Sublist.refl _ | apply List.Sublist.cons)) (FSub.ofSub fun f hf => (List.not_mem_nil hf).elim) (List.Sublist.refl _)⟩ | exact ⟨(⟨s.La, s.Lm, s.cs, up s.gen, s.acca, s.accm, s.apn, s.acn, s.apc, s.acc, s.mpn, s.mcn, s.mpc, s.mcc⟩, []), by first | (have hh := h128; have hk := h130; exact beq_ret rfl), ⟨⟨hr.same, hr.fa, hr.fm⟩, Nat.le_succ _, Nat.le_refl _, Nat.le_succ _, id, fun f hf => .inl hf, fun f hf => .inl hf, ⟨[], (List.append_nil _).symm⟩⟩, hw.ret (by repeat (first | exact List.Sublist.refl _ | apply List.Sublist.cons)) (FSub.ofSub fun f hf => (List.not_mem_nil hf).elim) (List.Sublist.refl _)⟩ | exact ⟨(⟨s.La, s.Lm, s.cs, s.gen, up s.acca, up s.accm, s.apn, s.acn, s.apc, s.acc, s.mpn, s.mcn, s.mpc, s.mcc⟩, []), by first | (have hh := h136; have hk := h139; exact beq_ret rfl), ⟨⟨hr.same, hr.fa, hr.fm⟩, Nat.le_succ _, Nat.le_refl _, Nat.le_succ _, fun h => by show up s.acca = up s.accm; rw [h], fun f hf => .inl hf, fun f hf => .inl hf, ⟨[], (List.append_nil _).symm⟩⟩, hw.ret (by repeat (first | exact List.Sublist.refl _ | apply List.Sublist.cons)) (FSub.ofSub fun f hf => (List.not_mem_nil hf).elim) (List.Sublist.refl _)⟩ | exact ⟨(⟨s.La, s.Lm, casL s.cs ci old (modv t.c ((s.Lm.length : Int) + 1)), s.gen, up s.acca, up s.accm, s.apn, s.acn, s.apc, s.acc, s.mpn, s.mcn, s.mpc, s.mcc⟩, []), bool_ret (h148.trans h153.symm), ⟨⟨hr.same, hr.fa, hr.fm⟩, Nat.le_succ _, Nat.le_refl _, by show (casL _ _ _ _).length ≤ _; rw [casL_length]; exact Nat.le_succ _, fun h => by show up s.acca = up s.accm; rw [h], fun f hf => .inl hf, fun f hf => .inl hf, ⟨[], (List.append_nil _).symm⟩⟩, hw.ret (by repeat (first | exact List.Sublist.refl _ | apply List.Sublist.cons)) (FSub.ofSub fun f hf => (List.not_mem_nil hf).elim) (List.Sublist.refl _)⟩ | exact ⟨(s, []), rfl, ⟨hr, Nat.le_succ _, Nat.le_refl _, Nat.le_succ _, id, fun f hf => .inl hf, fun f hf => .inl hf, ⟨[], (List.append_nil _).symm⟩⟩, hw.ret (by repeat (first | exact List.Sublist.refl _ | apply List.Sublist.cons)) (FSub.ofSub fun f hf => (List.not_mem_nil hf).elim) (List.Sublist.refl _)⟩
                    · try (exact absurd c132 (by decide))
                      all_goals (revert c132; (first | refine cv2 ?_ | refine cv4 ?_ | refine cv6 ?_ | refine cv8 ?_ | refine cva ?_ | refine cvc ?_ | refine cve ?_ | skip); intro c132)
                      all_goals try (exfalso; omega)
                      all_goals (refine k_seq ?_)
                      all_goals (refine k_seq ?_)
                      all_goals refine k_region ?_
                      all_goals refine j_eql ?_
                      all_goals refine j_assignL (fun _ => ?_)
                      all_goals refine l_nil ?_
                      all_goals
                        refine k_cond (by exact rfl) (fun c141 => ?_) (fun c141 => ?_)
                        · try (exact absurd c141 (by decide))
                          all_goals (revert c141; (first | refine cv1 ?_ | refine cv3 ?_ | refine cv5 ?_ | refine cv7 ?_ | refine cv9 ?_ | refine cvb ?_ | refine cvd ?_ | skip); intro c141)
                          all_goals try (exfalso; omega)
                          all_goals (refine k_skip ?_)
                          all_goals
                            refine k_cond (by exact rfl) (fun c141 => ?_) (fun c141 => ?_)
                            · try (exact absurd c141 (by decide))
                              all_goals (revert c141; (first | refine cv1 ?_ | refine cv3 ?_ | refine cv5 ?_ | refine cv7 ?_ | refine cv9 ?_ | refine cvb ?_ | refine cvd ?_ | skip); intro c141)
                              all_goals try (exfalso; omega)
                              all_goals (refine k_seq ?_)
                              all_goals refine k_region ?_
                              all_goals refine j_move ?_
                              all_goals refine j_move ?_
                              all_goals refine j_move ?_
                              all_goals refine j_move ?_
                              all_goals (refine j_own (cM (hc := fun w hs => aCAS_c (L := s.La) (cs := s.cs) hs ci old _ hx5 (by omega))) (fun x148 => ?_); try (refine l_fact (fun h148 => ?_)))
                              all_goals refine j_move ?_
                              all_goals refine j_move ?_
                              all_goals refine j_move ?_
                              all_goals refine j_move ?_
                              all_goals (refine j_own (cM (hc := fun w hs => mCAS_c (L := s.Lm) (cs := s.cs) hs ci old _ hx5 (by omega))) (fun x153 => ?_); try (refine l_fact (fun h153 => ?_)))
                              all_goals refine j_eqlB ?_
                              all_goals refine j_assignL (fun _ => ?_)
                              all_goals refine l_nil ?_
                              all_goals
                                refine k_retvF Try.results34 (.tmp (by conv => { lhs; whnf }) .nil) (fun w hw => ?_)
                                first | exact ⟨(⟨s.La ++ [alV v.nd v.xs v.ys s.cs.length x110], s.Lm ++ [alV v.nd v.xs v.ys s.cs.length x114], alCs v.nd.kind s.cs old, s.gen, s.acca, s.accm, x110.pn, x110.cn, x110.pc, x110.cc, x114.pn, x114.cn, x114.pc, x114.cc⟩, (alV v.nd v.xs v.ys s.cs.length x114).fr ++ (alV v.nd v.xs v.ys s.cs.length x110).fr), beq_ret (by omega), next_alloc hr hx2.1, hw.ret (by repeat (first | exact List.Sublist.refl _ | apply List.Sublist.cons)) (FSub.ofSub fun f hf => (List.mem_append.1 hf).elim (fun h => List.mem_append_left _ h) (fun h => List.mem_append_right _ (List.mem_append_left _ h))) (List.Sublist.refl _)⟩ | exact ⟨(⟨s.La, s.Lm, s.cs ++ [old], s.gen, s.acca, s.accm, s.apn, s.acn, x120.1, x120.2, s.mpn, s.mcn, x123.1, x123.2⟩, []), beq_ret rfl, ⟨⟨hr.same, hr.fa, hr.fm⟩, Nat.le_succ _, Nat.le_refl _, by simp, id, fun f hf => .inl hf, fun f hf => .inl hf, ⟨[], (List.append_nil _).symm⟩⟩, hw.ret (by repeat (first | exact List.Sublist.refl _ | apply List.Sublist.cons)) (FSub.ofSub fun f hf => (List.not_mem_nil hf).elim) (List.Sublist.refl _)⟩ | exact ⟨(⟨s.La, s.Lm, s.cs, up s.gen, s.acca, s.accm, s.apn, s.acn, s.apc, s.acc, s.mpn, s.mcn, s.mpc, s.mcc⟩, []), by first | (have hh := h128; have hk := h130; exact beq_ret rfl), ⟨⟨hr.same, hr.fa, hr.fm⟩, Nat.le_succ _, Nat.le_refl _, Nat.le_succ _, id, fun f hf => .inl hf, fun f hf => .inl hf, ⟨[], (List.append_nil _).symm⟩⟩, hw.ret (by repeat (first | exact List.Sublist.refl _ | apply List.Sublist.cons)) (FSub.ofSub fun f hf => (List.not_mem_nil hf).elim) (List.Sublist.refl _)⟩ | exact ⟨(⟨s.La, s.Lm, s.cs, s.gen, up s.acca, up s.accm, s.apn, s.acn, s.apc, s.acc, s.mpn, s.mcn, s.mpc, s.mcc⟩, []), by first | (have hh := h136; have hk := h139; exact beq_ret rfl), ⟨⟨hr.same, hr.fa, hr.fm⟩, Nat.le_succ _, Nat.le_refl _, Nat.le_succ _, fun h => by show up s.acca = up s.accm; rw [h], fun f hf => .inl hf, fun f hf => .inl hf, ⟨[], (List.append_nil _).symm⟩⟩, hw.ret (by repeat (first | exact List.Sublist.refl _ | apply List.Sublist.cons)) (FSub.ofSub fun f hf => (List.not_mem_nil hf).elim) (List.Sublist.refl _)⟩ | exact ⟨(⟨s.La, s.Lm, casL s.cs ci old (modv t.c ((s.Lm.length : Int) + 1)), s.gen, up s.acca, up s.accm, s.apn, s.acn, s.apc, s.acc, s.mpn, s.mcn, s.mpc, s.mcc⟩, []), bool_ret (h148.trans h153.symm), ⟨⟨hr.same, hr.fa, hr.fm⟩, Nat.le_succ _, Nat.le_refl _, by show (casL _ _ _ _).length ≤ _; rw [casL_length]; exact Nat.le_succ _, fun h => by show up s.acca = up s.accm; rw [h], fun f hf => .inl hf, fun f hf => .inl hf, ⟨[], (List.append_nil _).symm⟩⟩, hw.ret (by repeat (first | exact List.Sublist.refl _ | apply List.Sublist.cons)) (FSub.ofSub fun f hf => (List.not_mem_nil hf).elim) (List.Sublist.refl _)⟩ | exact ⟨(s, []), rfl, ⟨hr, Nat.le_succ _, Nat.le_refl _, Nat.le_succ _, id, fun f hf => .inl hf, fun f hf => .inl hf, ⟨[], (List.append_nil _).symm⟩⟩, hw.ret (by repeat (first | exact List.Sublist.refl _ | apply List.Sublist.cons)) (FSub.ofSub fun f hf => (List.not_mem_nil hf).elim) (List.Sublist.refl _)⟩
                            · try (exact absurd c141 (by decide))
                              all_goals (revert c141; (first | refine cv2 ?_ | refine cv4 ?_ | refine cv6 ?_ | refine cv8 ?_ | refine cva ?_ | refine cvc ?_ | refine cve ?_ | skip); intro c141)
                              all_goals try (exfalso; omega)
                              all_goals (refine k_skip ?_)
                              all_goals (refine k_blk ?_)
                              all_goals (refine k_seq ?_)
                              all_goals refine k_region ?_
                              all_goals refine j_assignL (fun _ => ?_)
                              all_goals refine l_nil ?_
                              all_goals
                                refine k_retvF Try.results34 (.tmp (by conv => { lhs; whnf }) .nil) (fun w hw => ?_)
                                first | exact ⟨(⟨s.La ++ [alV v.nd v.xs v.ys s.cs.length x110], s.Lm ++ [alV v.nd v.xs v.ys s.cs.length x114], alCs v.nd.kind s.cs old, s.gen, s.acca, s.accm, x110.pn, x110.cn, x110.pc, x110.cc, x114.pn, x114.cn, x114.pc, x114.cc⟩, (alV v.nd v.xs v.ys s.cs.length x114).fr ++ (alV v.nd v.xs v.ys s.cs.length x110).fr), beq_ret (by omega), next_alloc hr hx2.1, hw.ret (by repeat (first | exact List.Sublist.refl _ | apply List.Sublist.cons)) (FSub.ofSub fun f hf => (List.mem_append.1 hf).elim (fun h => List.mem_append_left _ h) (fun h => List.mem_append_right _ (List.mem_append_left _ h))) (List.Sublist.refl _)⟩ | exact ⟨(⟨s.La, s.Lm, s.cs ++ [old], s.gen, s.acca, s.accm, s.apn, s.acn, x120.1, x120.2, s.mpn, s.mcn, x123.1, x123.2⟩, []), beq_ret rfl, ⟨⟨hr.same, hr.fa, hr.fm⟩, Nat.le_succ _, Nat.le_refl _, by simp, id, fun f hf => .inl hf, fun f hf => .inl hf, ⟨[], (List.append_nil _).symm⟩⟩, hw.ret (by repeat (first | exact List.Sublist.refl _ | apply List.Sublist.cons)) (FSub.ofSub fun f hf => (List.not_mem_nil hf).elim) (List.Sublist.refl _)⟩ | exact ⟨(⟨s.La, s.Lm, s.cs, up s.gen, s.acca, s.accm, s.apn, s.acn, s.apc, s.acc, s.mpn, s.mcn, s.mpc, s.mcc⟩, []), by first | (have hh := h128; have hk := h130; exact beq_ret rfl), ⟨⟨hr.same, hr.fa, hr.fm⟩, Nat.le_succ _, Nat.le_refl _, Nat.le_succ _, id, fun f hf => .inl hf, fun f hf => .inl hf, ⟨[], (List.append_nil _).symm⟩⟩, hw.ret (by repeat (first | exact List.Sublist.refl _ | apply List.Sublist.cons)) (FSub.ofSub fun f hf => (List.not_mem_nil hf).elim) (List.Sublist.refl _)⟩ | exact ⟨(⟨s.La, s.Lm, s.cs, s.gen, up s.acca, up s.accm, s.apn, s.acn, s.apc, s.acc, s.mpn, s.mcn, s.mpc, s.mcc⟩, []), by first | (have hh := h136; have hk := h139; exact beq_ret rfl), ⟨⟨hr.same, hr.fa, hr.fm⟩, Nat.le_succ _, Nat.le_refl _, Nat.le_succ _, fun h => by show up s.acca = up s.accm; rw [h], fun f hf => .inl hf, fun f hf => .inl hf, ⟨[], (List.append_nil _).symm⟩⟩, hw.ret (by repeat (first | exact List.Sublist.refl _ | apply List.Sublist.cons)) (FSub.ofSub fun f hf => (List.not_mem_nil hf).elim) (List.Sublist.refl _)⟩ | exact ⟨(⟨s.La, s.Lm, casL s.cs ci old (modv t.c ((s.Lm.length : Int) + 1)), s.gen, up s.acca, up s.accm, s.apn, s.acn, s.apc, s.acc, s.mpn, s.mcn, s.mpc, s.mcc⟩, []), bool_ret (h148.trans h153.symm), ⟨⟨hr.same, hr.fa, hr.fm⟩, Nat.le_succ _, Nat.le_refl _, by show (casL _ _ _ _).length ≤ _; rw [casL_length]; exact Nat.le_succ _, fun h => by show up s.acca = up s.accm; rw [h], fun f hf => .inl hf, fun f hf => .inl hf, ⟨[], (List.append_nil _).symm⟩⟩, hw.ret (by repeat (first | exact List.Sublist.refl _ | apply List.Sublist.cons)) (FSub.ofSub fun f hf => (List.not_mem_nil hf).elim) (List.Sublist.refl _)⟩ | exact ⟨(s, []), rfl, ⟨hr, Nat.le_succ _, Nat.le_refl _, Nat.le_succ _, id, fun f hf => .inl hf, fun f hf => .inl hf, ⟨[], (List.append_nil _).symm⟩⟩, hw.ret (by repeat (first | exact List.Sublist.refl _ | apply List.Sublist.cons)) (FSub.ofSub fun f hf => (List.not_mem_nil hf).elim) (List.Sublist.refl _)⟩
                        · try (exact absurd c141 (by decide))
                          all_goals (revert c141; (first | refine cv2 ?_ | refine cv4 ?_ | refine cv6 ?_ | refine cv8 ?_ | refine cva ?_ | refine cvc ?_ | refine cve ?_ | skip); intro c141)
                          all_goals try (exfalso; omega)
                          all_goals refine k_region ?_
                          all_goals refine j_eql ?_
                          all_goals refine j_assignL (fun _ => ?_)
                          all_goals refine l_nil ?_
                          all_goals
                            refine k_cond (by exact rfl) (fun c141 => ?_) (fun c141 => ?_)
                            · try (exact absurd c141 (by decide))
                              all_goals (revert c141; (first | refine cv1 ?_ | refine cv3 ?_ | refine cv5 ?_ | refine cv7 ?_ | refine cv9 ?_ | refine cvb ?_ | refine cvd ?_ | skip); intro c141)
                              all_goals try (exfalso; omega)
                              all_goals (refine k_seq ?_)
                              all_goals refine k_region ?_
                              all_goals refine j_move ?_
                              all_goals refine j_move ?_
                              all_goals refine j_move ?_
                              all_goals refine j_move ?_
                              all_goals (refine j_own (cM (hc := fun w hs => aCAS_c (L := s.La) (cs := s.cs) hs ci old _ hx5 (by omega))) (fun x148 => ?_); try (refine l_fact (fun h148 => ?_)))
                              all_goals refine j_move ?_
                              all_goals refine j_move ?_
                              all_goals refine j_move ?_
                              all_goals refine j_move ?_
                              all_goals (refine j_own (cM (hc := fun w hs => mCAS_c (L := s.Lm) (cs := s.cs) hs ci old _ hx5 (by omega))) (fun x153 => ?_); try (refine l_fact (fun h153 => ?_)))
                              all_goals refine j_eqlB ?_
                              all_goals refine j_assignL (fun _ => ?_)
                              all_goals refine l_nil ?_
                              all_goals
                                refine k_retvF Try.results34 (.tmp (by conv => { lhs; whnf }) .nil) (fun w hw => ?_)
                                first | exact ⟨(⟨s.La ++ [alV v.nd v.xs v.ys s.cs.length x110], s.Lm ++ [alV v.nd v.xs v.ys s.cs.length x114], alCs v.nd.kind s.cs old, s.gen, s.acca, s.accm, x110.pn, x110.cn, x110.pc, x110.cc, x114.pn, x114.cn, x114.pc, x114.cc⟩, (alV v.nd v.xs v.ys s.cs.length x114).fr ++ (alV v.nd v.xs v.ys s.cs.length x110).fr), beq_ret (by omega), next_alloc hr hx2.1, hw.ret (by repeat (first | exact List.Sublist.refl _ | apply List.Sublist.cons)) (FSub.ofSub fun f hf => (List.mem_append.1 hf).elim (fun h => List.mem_append_left _ h) (fun h => List.mem_append_right _ (List.mem_append_left _ h))) (List.Sublist.refl _)⟩ | exact ⟨(⟨s.La, s.Lm, s.cs ++ [old], s.gen, s.acca, s.accm, s.apn, s.acn, x120.1, x120.2, s.mpn, s.mcn, x123.1, x123.2⟩, []), beq_ret rfl, ⟨⟨hr.same, hr.fa, hr.fm⟩, Nat.le_succ _, Nat.le_refl _, by simp, id, fun f hf => .inl hf, fun f hf => .inl hf, ⟨[], (List.append_nil _).symm⟩⟩, hw.ret (by repeat (first | exact List.Sublist.refl _ | apply List.Sublist.cons)) (FSub.ofSub fun f hf => (List.not_mem_nil hf).elim) (List.Sublist.refl _)⟩ | exact ⟨(⟨s.La, s.Lm, s.cs, up s.gen, s.acca, s.accm, s.apn, s.acn, s.apc, s.acc, s.mpn, s.mcn, s.mpc, s.mcc⟩, []), by first | (have hh := h128; have hk := h130; exact beq_ret rfl), ⟨⟨hr.same, hr.fa, hr.fm⟩, Nat.le_succ _, Nat.le_refl _, Nat.le_succ _, id, fun f hf => .inl hf, fun f hf => .inl hf, ⟨[], (List.append_nil _).symm⟩⟩, hw.ret (by repeat (first | exact List.Sublist.refl _ | apply List.Sublist.cons)) (FSub.ofSub fun f hf => (List.not_mem_nil hf).elim) (List.Sublist.refl _)⟩ | exact ⟨(⟨s.La, s.Lm, s.cs, s.gen, up s.acca, up s.accm, s.apn, s.acn, s.apc, s.acc, s.mpn, s.mcn, s.mpc, s.mcc⟩, []), by first | (have hh := h136; have hk := h139; exact beq_ret rfl), ⟨⟨hr.same, hr.fa, hr.fm⟩, Nat.le_succ _, Nat.le_refl _, Nat.le_succ _, fun h => by show up s.acca = up s.accm; rw [h], fun f hf => .inl hf, fun f hf => .inl hf, ⟨[], (List.append_nil _).symm⟩⟩, hw.ret (by repeat (first | exact List.Sublist.refl _ | apply List.Sublist.cons)) (FSub.ofSub fun f hf => (List.not_mem_nil hf).elim) (List.Sublist.refl _)⟩ | exact ⟨(⟨s.La, s.Lm, casL s.cs ci old (modv t.c ((s.Lm.length : Int) + 1)), s.gen, up s.acca, up s.accm, s.apn, s.acn, s.apc, s.acc, s.mpn, s.mcn, s.mpc, s.mcc⟩, []), bool_ret (h148.trans h153.symm), ⟨⟨hr.same, hr.fa, hr.fm⟩, Nat.le_succ _, Nat.le_refl _, by show (casL _ _ _ _).length ≤ _; rw [casL_length]; exact Nat.le_succ _, fun h => by show up s.acca = up s.accm; rw [h], fun f hf => .inl hf, fun f hf => .inl hf, ⟨[], (List.append_nil _).symm⟩⟩, hw.ret (by repeat (first | exact List.Sublist.refl _ | apply List.Sublist.cons)) (FSub.ofSub fun f hf => (List.not_mem_nil hf).elim) (List.Sublist.refl _)⟩ | exact ⟨(s, []), rfl, ⟨hr, Nat.le_succ _, Nat.le_refl _, Nat.le_succ _, id, fun f hf => .inl hf, fun f hf => .inl hf, ⟨[], (List.append_nil _).symm⟩⟩, hw.ret (by repeat (first | exact List.Sublist.refl _ | apply List.Sublist.cons)) (FSub.ofSub fun f hf => (List.not_mem_nil hf).elim) (List.Sublist.refl _)⟩
                            · try (exact absurd c141 (by decide))
                              all_goals (revert c141; (first | refine cv2 ?_ | refine cv4 ?_ | refine cv6 ?_ | refine cv8 ?_ | refine cva ?_ | refine cvc ?_ | refine cve ?_ | skip); intro c141)
                              all_goals try (exfalso; omega)
                              all_goals (refine k_skip ?_)
                              all_goals (refine k_blk ?_)
                              all_goals (refine k_seq ?_)
                              all_goals refine k_region ?_
                              all_goals refine j_assignL (fun _ => ?_)
                              all_goals refine l_nil ?_
                              all_goals
                                refine k_retvF Try.results34 (.tmp (by conv => { lhs; whnf }) .nil) (fun w hw => ?_)
                                first | exact ⟨(⟨s.La ++ [alV v.nd v.xs v.ys s.cs.length x110], s.Lm ++ [alV v.nd v.xs v.ys s.cs.length x114], alCs v.nd.kind s.cs old, s.gen, s.acca, s.accm, x110.pn, x110.cn, x110.pc, x110.cc, x114.pn, x114.cn, x114.pc, x114.cc⟩, (alV v.nd v.xs v.ys s.cs.length x114).fr ++ (alV v.nd v.xs v.ys s.cs.length x110).fr), beq_ret (by omega), next_alloc hr hx2.1, hw.ret (by repeat (first | exact List.Sublist.refl _ | apply List.Sublist.cons)) (FSub.ofSub fun f hf => (List.mem_append.1 hf).elim (fun h => List.mem_append_left _ h) (fun h => List.mem_append_right _ (List.mem_append_left _ h))) (List.Sublist.refl _)⟩ | exact ⟨(⟨s.La, s.Lm, s.cs ++ [old], s.gen, s.acca, s.accm, s.apn, s.acn, x120.1, x120.2, s.mpn, s.mcn, x123.1, x123.2⟩, []), beq_ret rfl, ⟨⟨hr.same, hr.fa, hr.fm⟩, Nat.le_succ _, Nat.le_refl _, by simp, id, fun f hf => .inl hf, fun f hf => .inl hf, ⟨[], (List.append_nil _).symm⟩⟩, hw.ret (by repeat (first | exact List.Sublist.refl _ | apply List.Sublist.cons)) (FSub.ofSub fun f hf => (List.not_mem_nil hf).elim) (List.Sublist.refl _)⟩ | exact ⟨(⟨s.La, s.Lm, s.cs, up s.gen, s.acca, s.accm, s.apn, s.acn, s.apc, s.acc, s.mpn, s.mcn, s.mpc, s.mcc⟩, []), by first | (have hh := h128; have hk := h130; exact beq_ret rfl), ⟨⟨hr.same, hr.fa, hr.fm⟩, Nat.le_succ _, Nat.le_refl _, Nat.le_succ _, id, fun f hf => .inl hf, fun f hf => .inl hf, ⟨[], (List.append_nil _).symm⟩⟩, hw.ret (by repeat (first | exact List.Sublist.refl _ | apply List.Sublist.cons)) (FSub.ofSub fun f hf => (List.not_mem_nil hf).elim) (List.Sublist.refl _)⟩ | exact ⟨(⟨s.La, s.Lm, s.cs, s.gen, up s.acca, up s.accm, s.apn, s.acn, s.apc, s.acc, s.mpn, s.mcn, s.mpc, s.mcc⟩, []), by first | (have hh := h136; have hk := h139; exact beq_ret rfl), ⟨⟨hr.same, hr.fa, hr.fm⟩, Nat.le_succ _, Nat.le_refl _, Nat.le_succ _, fun h => by show up s.acca = up s.accm; rw [h], fun f hf => .inl hf, fun f hf => .inl hf, ⟨[], (List.append_nil _).symm⟩⟩, hw.ret (by repeat (first | exact List.Sublist.refl _ | apply List.Sublist.cons)) (FSub.ofSub fun f hf => (List.not_mem_nil hf).elim) (List.Sublist.refl _)⟩ | exact ⟨(⟨s.La, s.Lm, casL s.cs ci old (modv t.c ((s.Lm.length : Int) + 1)), s.gen, up s.acca, up s.accm, s.apn, s.acn, s.apc, s.acc, s.mpn, s.mcn, s.mpc, s.mcc⟩, []), bool_ret (h148.trans h153.symm), ⟨⟨hr.same, hr.fa, hr.fm⟩, Nat.le_succ _, Nat.le_refl _, by show (casL _ _ _ _).length ≤ _; rw [casL_length]; exact Nat.le_succ _, fun h => by show up s.acca = up s.accm; rw [h], fun f hf => .inl hf, fun f hf => .inl hf, ⟨[], (List.append_nil _).symm⟩⟩, hw.ret (by repeat (first | exact List.Sublist.refl _ | apply List.Sublist.cons)) (FSub.ofSub fun f hf => (List.not_mem_nil hf).elim) (List.Sublist.refl _)⟩ | exact ⟨(s, []), rfl, ⟨hr, Nat.le_succ _, Nat.le_refl _, Nat.le_succ _, id, fun f hf => .inl hf, fun f hf => .inl hf, ⟨[], (List.append_nil _).symm⟩⟩, hw.ret (by repeat (first | exact List.Sublist.refl _ | apply List.Sublist.cons)) (FSub.ofSub fun f hf => (List.not_mem_nil hf).elim) (List.Sublist.refl _)⟩
end Go.Proofs.Ytmogngagpphnhaa
