/- The builder: what it calls; its lowest level. -/
import Derived.Test.YtpfjjagcmjmfpaaIv
import Derived.Test.YtpfjjagcmjmfpaaKh
import Derived.Test.YtpfjjagcmjmfpaaGBr
import Derived.Test.YtpfjjagcmjmfpaaGPa
set_option linter.unusedSimpArgs false
set_option linter.unusedVariables false
namespace Go.Ct
open Go Go.RowKit
theorem bv_zero : BV 0 [] := ⟨by decide, by decide, fun i hi => absurd hi (Nat.not_lt_zero i)⟩
theorem with0 {i : Nat} (hi : i < 64) : withI 0 (i : Int) = 2 ^ i := by
  unfold withI
  rw [if_pos ⟨by omega, by omega⟩, Int.toNat_natCast, Nat.zero_or]
theorem cnt_pow : ∀ i : Fin 64, cnt (2 ^ i.val) 64 = 1 := by decide +kernel
theorem cnt_z0 : ∀ k : Fin 65, cnt 0 k.val = 0 := by decide +kernel
theorem cnt_pow2 : ∀ i : Fin 64, ∀ k : Fin 64, cnt (2 ^ i.val) k.val = if i.val < k.val then 1 else 0 := by decide +kernel
theorem pos0 {i : Nat} (hi : i < 64) : posN 0 (i : Int) = 0 := by
  unfold posN
  rw [Int.toNat_natCast, Nat.min_eq_left (by omega)]
  exact cnt_z0 ⟨i, by omega⟩
theorem pos1 {i k : Nat} (hi : i < 64) (hk : k < 64) : posN (withI 0 (i : Int)) (k : Int) = if i < k then 1 else 0 := by
  unfold posN
  rw [with0 hi, Int.toNat_natCast, Nat.min_eq_left (by omega)]
  exact cnt_pow2 ⟨i, hi⟩ ⟨k, hk⟩
theorem has0 (i : Int) : hasI 0 i = false := by simp [hasI]
theorem has1 {i k : Nat} (hi : i < 64) (hk : k < 64) (hne : i ≠ k) : hasI (withI 0 (i : Int)) (k : Int) = false := by
  rw [hasI_in _ (by omega) (by omega), with0 hi, Int.toNat_natCast, Nat.testBit_two_pow]
  exact decide_eq_false hne
theorem bv_one {i : Nat} {x : Int} (hi : i < 64) (hx : 1 ≤ x) : BV (withI 0 (i : Int)) [x] := by
  refine ⟨withI_lt (by decide) _, ?_, fun j hj => ?_⟩
  · rw [with0 hi]; exact (cnt_pow ⟨i, hi⟩).symm
  · simp only [List.length_cons, List.length_nil] at hj
    rw [show j = 0 by omega]
    exact hx
/-- The branches of a node with two. -/
def two (i k : Nat) (x s : Int) : List Int := if i < k then [x, s] else [s, x]
theorem two_len (i k : Nat) (x s : Int) : (two i k x s).length = 2 := by unfold two; split <;> rfl
theorem ins0 {i : Nat} (hi : i < 64) (x : Int) : insL [] (posN 0 (i : Int)) x = [x] := by rw [pos0 hi]; rfl
theorem ins1 {i k : Nat} (hi : i < 64) (hk : k < 64) (x s : Int) : insL [x] (posN (withI 0 (i : Int)) (k : Int)) s = two i k x s := by
  rw [pos1 hi hk]
  unfold two
  split <;> rfl
/-- What is allocated: a node, its lists, what its cell holds first. -/
structure NI where
  n : Nd
  xs : List Int
  ys : List Pr
  init : Int
def AX.no : AX := ⟨none, 0, none, 0, none, 0, none, 0⟩
def nC (k : Int) : Nat := if k = 2 ∨ k = 3 ∨ k = 5 ∨ k = 6 ∨ k = 8 then 1 else 0
theorem alCs_len (k : Int) (cs : List Int) (i : Int) : (alCs k cs i).length = cs.length + nC k := by unfold alCs nC; split <;> simp
/-- What a node holds that is allocated when there are c cells. -/
def NI.c (a : NI) (c : Nat) : Nv := (alV a.n a.xs a.ys c AX.no).c
/-- What nodes hold that are allocated one behind the other, when there are c cells. -/
def alls : List NI → Nat → List Nv
  | [], _ => []
  | a :: r, c => a.c c :: alls r (c + nC a.n.kind)
def allN (l : List NI) (c : Nat) : Nat := l.foldl (fun c a => c + nC a.n.kind) c
def allCs (l : List NI) (cs : List Int) : List Int := l.foldl (fun cs a => alCs a.n.kind cs a.init) cs
theorem allCs_len : ∀ (l : List NI) (cs : List Int), (allCs l cs).length = allN l cs.length
  | [], _ => rfl
  | a :: r, cs => by
    show (allCs r (alCs a.n.kind cs a.init)).length = allN r (cs.length + nC a.n.kind)
    rw [allCs_len r, alCs_len]
theorem alls_append : ∀ (l r : List NI) (c : Nat), alls (l ++ r) c = alls l c ++ alls r (allN l c)
  | [], _, _ => rfl
  | a :: l, r, c => by
    show a.c c :: alls (l ++ r) (c + nC a.n.kind) = a.c c :: (alls l (c + nC a.n.kind) ++ alls r (allN l (c + nC a.n.kind)))
    rw [alls_append l r]
theorem allCs_append (l r : List NI) (cs : List Int) : allCs (l ++ r) cs = allCs r (allCs l cs) := by unfold allCs; rw [List.foldl_append]
theorem allN_append (l r : List NI) (c : Nat) : allN (l ++ r) c = allN r (allN l c) := by unfold allN; rw [List.foldl_append]
theorem alls_length : ∀ (l : List NI) (c : Nat), (alls l c).length = l.length
  | [], _ => rfl
  | a :: r, c => by simp only [alls, List.length_cons, alls_length r]
theorem allN_le : ∀ (l : List NI) (c : Nat), allN l c ≤ c + l.length
  | [], _ => Nat.le_refl _
  | a :: r, c => by
    have h : nC a.n.kind ≤ 1 := by unfold nC; split <;> omega
    have := allN_le r (c + nC a.n.kind)
    show allN r (c + nC a.n.kind) ≤ c + (r.length + 1)
    omega
end Go.Ct
namespace Go.Proofs.Ytpfjjagcmjmfpaa
open Go.RowKit Go.Ct
theorem prOf_r {l : List Pr} {a : Option Addr} {c : Nat} {w : World} (ha : Cl w a (prC l)) (hc : l.length ≤ c) (hlen : l.length ≤ 19) :
    Calls Try.prog 41 #[.slice a l.length c] w fun e w' => ∃ x : Option Addr × Nat, e = .returned (.slice x.1 (ofL l).length x.2) ∧ (ofL l).length ≤ x.2 ∧ SF w [] [] [] [(x.1, prC (ofL l))] [] w' := (prOf_o ha hc hlen).mono fun _ _ h => h.res
theorem ins_c {b : Nat} {xs : List Int} {x : Option Addr × Nat} {w : World} (hbv : BV b xs) {i : Nat} (hi : i < 64) (hn : hasI b (i : Int) = false) {r : Int} (hr : 1 ≤ r) (hx : xs.length ≤ x.2) (hxl : xs.length ≤ 64) (hc : Cl w x.1 (refsC xs)) :
    Calls Try.prog 45 #[(cn b xs x).v, .int .i64 (i : Int), .int .i64 r] w fun e w' => ∃ y : Option Addr × Nat, e = .returned (.tuple #[(cn (withI b (i : Int)) (insL xs (posN b (i : Int)) r) y).v, .bool true]) ∧ (insL xs (posN b (i : Int)) r).length ≤ y.2 ∧ SF w [] [] [] [(y.1, refsC (insL xs (posN b (i : Int)) r))] [] w' := by
  have h := inserted_c (n := cn b xs x) (xs := xs) (ys := []) (b := b) (i : Int) r rfl hbv.lt ⟨rfl, rfl, hc, Cl.nil _ _, by omega, by decide⟩ hx (by omega)
  rw [show inO (cn b xs x) xs [] b (i : Int) r = some (withI b (i : Int), insL xs (posN b (i : Int)) r) from if_pos ⟨cv_cn0 hbv x, ⟨by omega, by omega⟩, hr, hn⟩] at h
  exact h.mono fun e w' ⟨y, he, h1, h2⟩ => ⟨y, he, h1, h2⟩
theorem emptyC_c (w : World) : Calls Try.prog 43 #[] w fun e w' => e = .returned (cn 0 [] (none, 0)).v ∧ St w [] [] w' := empty_c w
/-- The builder's struct. -/
abbrev blL (ba : Nat) (x : Int) (v : NdV) (h : Nat) (k : ByteArray) (u : Int) (gen : Int) : List Value := [.iface 41 (.pointer (some ⟨ba, 0, none⟩)), .int .i64 x, .int .i64 v.nd.kind, .int .i64 v.nd.gen, .int .i64 v.nd.main, .int .u64 v.nd.bm, .slice v.nd.brA v.nd.brN v.nd.brC, .int .u64 v.nd.hash, .string v.nd.key, .int .u64 v.nd.val, .slice v.nd.prA v.nd.prN v.nd.prC, .int .i64 v.nd.prev, .int .i64 v.nd.old, .int .i64 v.nd.exp, .int .i64 v.nd.new, .int .i64 v.nd.status, .int .u64 (h : Int), .string k, .int .u64 u, .int .i64 gen]
abbrev blO (ba : Nat) (x : Int) (v : NdV) (h : Nat) (k : ByteArray) (u : Int) (gen : Int) : Obj := .cells ⟨blL ba x v h k u gen⟩ 75 (0, 0)
/-- What a part of the building leaves: the nodes that it has allocated. -/
structure DX where
  L : List NdV
  pn : Option Addr
  cn : Nat
  pc : Option Addr
  cc : Nat
variable {w : World} {D : List Nat} {ba bb : Nat} {L : List NdV} {cs : List Int} {g acc : Int} {pn pc : Option Addr} {kn kc : Nat} {A : Fr} {x : Int} {v : NdV} {h h0 : Nat} {k : ByteArray} {u gen : Int}
theorem aAllocD_c (a : NI) {n : Nd} (hs : SF w D [(ba, aO L cs g acc pn kn pc kc)] [(n.brA, refsC a.xs), (n.prA, prC a.ys)] [] (mW L cs pn kn pc kc) w) (e1 : n.brN = a.xs.length) (e2 : n.prN = a.ys.length) (h1 : a.xs.length ≤ 1000) (h2 : a.ys.length ≤ 1000)
    (hl : L.length ≤ 1000) (hc : cs.length ≤ 1000) (hn : (alV n a.xs a.ys cs.length AX.no).c = a.c cs.length) (hk : n.kind = a.n.kind) :
    Calls Try.prog 11 #[.pointer (some ⟨ba, 0, none⟩), n.v, .int .i64 a.init] w fun e w' => ∃ y : NdV × AX, e = .returned (.int .i64 ((L.length + 3 : Nat) : Int)) ∧ (y.1.c = a.c cs.length ∧ y.1.Fit) ∧
      SF w D [(ba, aO (L ++ [y.1]) (alCs a.n.kind cs a.init) g acc y.2.pn y.2.cn y.2.pc y.2.cc)] [] y.1.fr (mW (L ++ [y.1]) (alCs a.n.kind cs a.init) y.2.pn y.2.cn y.2.pc y.2.cc) w' := by
  rw [← hk]
  exact (aAlloc_c a.init hs e1 e2 (by omega) (by omega) (by omega) (by omega)).mono fun e w' ⟨y, he, _, h⟩ => ⟨(alV n a.xs a.ys cs.length y, y), he, ⟨hn, fit_al (by omega) (by omega)⟩, h⟩
abbrev niList (h : Nat) (ys : List Pr) : NI := ⟨{ Nd.zero with kind := 6, hash := (h : Int) }, [], ys, 0⟩
abbrev niSingle (h : Nat) (k : ByteArray) (u : Int) : NI := ⟨{ Nd.zero with kind := 4, hash := (h : Int), key := k, val := u }, [], [], 0⟩
abbrev niInner (gen m : Int) : NI := ⟨{ Nd.zero with kind := 2, gen := gen }, [], [], m⟩
abbrev niC (b : Nat) (xs : List Int) : NI := ⟨{ Nd.zero with kind := 3, bm := (b : Int) }, xs, [], 0⟩
/-- What a call of main has done. -/
abbrev Did (w : World) (D : List Nat) (bb ba : Nat) (x : Int) (v : NdV) (h : Nat) (k : ByteArray) (u gen : Int) (L : List NdV) (cs : List Int) (g acc : Int) (l : List NI) (e : Ending) (w' : World) : Prop :=
  ∃ d : DX, e = .returned (.int .i64 ((L.length + 2 + l.length : Nat) : Int)) ∧ (d.L.map NdV.c = alls l cs.length ∧ Fits d.L) ∧
    SF w D [(bb, blO ba x v h k u gen), (ba, aO (L ++ d.L) (allCs l cs) g acc d.pn d.cn d.pc d.cc)] [] (famF d.L) (mW (L ++ d.L) (allCs l cs) d.pn d.cn d.pc d.cc) w'
theorem main11_c (hs : SF w D [(bb, blO ba x v h k u gen), (ba, aO L cs g acc pn kn pc kc)] A [] (mW L cs pn kn pc kc) w) (hl : L.length ≤ 900) (hc : cs.length ≤ 900) :
    Calls Try.prog 25 #[.pointer (some ⟨bb, 0, none⟩), .int .i64 ((11 : Nat) : Int)] w (Did w D bb ba x v h k u gen L cs g acc [niList h (ofL [(v.nd.key, v.nd.val), (k, u)])]) := by
  have hol := ofL_len [(v.nd.key, v.nd.val), (k, u)]
  simp only [List.length_cons, List.length_nil] at hol
  refine enter Try.func25 Try.ntmps25 rfl rfl hs ?_
  simp only [mkS]
  all_goals (refine k_seq ?_; refine k_region ?_; refine j_assignL (fun _ => ?_); refine l_nil ?_; refine k_seq ?_; refine k_seq ?_; refine k_region ?_; refine j_move ?_; refine j_eql ?_; refine l_nil ?_)
  all_goals
   refine k_if (fun c13 => ?_) (fun c13 => ?_)
   · try (exact absurd c13 (by decide))
     all_goals (revert c13; (first | refine cv1 ?_ | refine cv3 ?_ | refine cv5 ?_ | refine cv7 ?_ | refine cv9 ?_ | refine cvb ?_ | refine cvd ?_ | skip); intro c13)
     all_goals try (exfalso; omega)
     all_goals (refine k_seq ?_; refine k_drawF (.one 0 [] (.one 1 [] (.one 2 [] (.one 3 [] (.one 4 [] (.one 5 [] (.one 6 [] (.one 7 [] (.one 8 [] (.one 9 [] (.one 10 [] (.one 11 [] (.one 12 [] (.one 13 [] (.one 14 [] (.one 15 [] (.one 16 [] (.one 17 [] .nil)))))))))))))))))) ?_; refine r_move (i := 0) ?_; refine r_nilCheck (i := 1) ?_; refine r_fieldAddr (i := 2) ?_; refine r_fieldAddr (i := 3) ?_; refine r_load (i := 4) ?_; refine r_move (i := 5) ?_; refine r_nilCheck (i := 6) ?_; refine r_fieldAddr (i := 7) ?_; refine r_fieldAddr (i := 8) ?_; refine r_load (i := 9) ?_; refine r_build (i := 10) ?_; refine r_move (i := 11) ?_; refine r_nilCheck (i := 12) ?_; refine r_fieldAddr (i := 13) ?_; refine r_ownQ (i := 14) (hq := (o_loadPart (k := 2) (by exact rfl) (by repeat (first | exact At.head | apply At.tail)) (by exact agg_of rfl) (by simp only [List.drop_succ_cons, List.drop_zero, List.take_succ_cons, List.take_zero]; exact rfl) rfl)) (h := ?_); refine r_buildSlice (i := 15) (hfire := (fun _ => .nil)) (h := fun x29 => ?_); ((refine r_own (i := 16) (hq := (cF (V := fun x : Option Addr × Nat => .slice x.1 (ofL [(v.nd.key, v.nd.val), (k, u)]).length x.2) (hc := fun w1 hw => prOf_r (l := [(v.nd.key, v.nd.val), (k, u)]) (hw.cl (.new .head)) (by simp) (by simp)))) (hfire := (fun _ => .nil)) (h := fun x30 => ?_); try (refine r_fact (fun h30 => ?_)))); refine r_assignL (i := 17) (hfire := (fun _ => .nil)) (h := fun _ => ?_); refine r_fin ?_; refine k_seq ?_; refine k_drawF (.one 0 [] (.one 1 [] (.one 2 [] (.one 3 [] (.one 4 [] (.one 5 [] (.one 6 [] (.one 7 [] (.one 8 [] (.one 10 [] (.one 11 [] (.one 9 [3] (.one 12 [] (.one 13 [] .nil)))))))))))))) ?_; refine r_move (i := 0) ?_; refine r_nilCheck (i := 1) ?_; refine r_fieldAddr (i := 2) ?_; refine r_load (i := 3) ?_; refine r_move (i := 4) ?_; refine r_nilCheck (i := 5) ?_; refine r_fieldAddr (i := 6) ?_; refine r_load (i := 7) ?_; refine r_move (i := 8) ?_; refine r_ownP (i := 10) (hq := (o_nilCheckI (by exact rfl))) (h := ?_); refine r_move (i := 11) ?_; ((refine r_own (i := 9) (hq := (cF (V := fun p : Option Addr => ({ Nd.zero with kind := 6, hash := (h : Int), prA := p, prN := (ofL [(v.nd.key, v.nd.val), (k, u)]).length, prC := (ofL [(v.nd.key, v.nd.val), (k, u)]).length } : Nd).v) (hc := fun w1 hw => list_c (hw.cl (.new .head)) (by omega)))) (hfire := (fun _ => by first | (refine FireAll.cons (by first | exact a_load | exact a_un) ?_; exact FireAll.nil) | (refine fireall_fact ?_; refine FireAll.cons (by first | exact a_load | exact a_un) ?_; exact FireAll.nil))) (h := fun x40 => ?_); try (refine r_fact (fun h40 => ?_)))); ((refine r_own (i := 12) (hq := (cMI (hm := fun w => inv_Alloc _ _ _ w) (hc := fun w hs => aAllocD_c (niList h (ofL [(v.nd.key, v.nd.val), (k, u)])) (L := L) (cs := cs) (n := { Nd.zero with kind := 6, hash := (h : Int), prA := x40, prN := (ofL [(v.nd.key, v.nd.val), (k, u)]).length, prC := (ofL [(v.nd.key, v.nd.val), (k, u)]).length }) hs rfl rfl (by simp) (by show (ofL _).length ≤ _; omega) (by omega) (by omega) rfl rfl))) (hfire := (fun _ => .nil)) (h := fun x43 => ?_); try (refine r_fact (fun h43 => ?_)))); refine r_assignL (i := 13) (hfire := (fun _ => .nil)) (h := fun _ => ?_); refine r_fin ?_)
     all_goals
      refine k_rv Try.results25 (fun w hw => ?_)
      exact ⟨⟨[x43.1], x43.2.pn, x43.2.cn, x43.2.pc, x43.2.cc⟩, rfl, ⟨by simp only [List.map_cons, List.map_nil, alls, h43.1], fun z hz => by rw [List.mem_singleton.1 hz]; exact h43.2⟩, hw.ret (List.Sublist.refl _) (FSub.ofSub fun f hf => List.mem_append_left _ (by simpa [famF] using hf)) (List.Sublist.refl _)⟩
   · try (exact absurd c13 (by decide))
     all_goals (revert c13; (first | refine cv2 ?_ | refine cv4 ?_ | refine cv6 ?_ | refine cv8 ?_ | refine cva ?_ | refine cvc ?_ | refine cve ?_ | skip); intro c13)
     all_goals try (exfalso; omega)
     all_goals (refine k_skip ?_; refine k_seq ?_; refine k_drawF (.one 0 [] (.one 1 [] (.one 2 [] (.one 3 [] (.one 4 [] (.one 6 [] (.one 7 [] (.one 8 [] (.one 9 [] (.one 10 [] (.one 11 [] (.one 5 [10] (.one 12 [] (.one 13 [] (.one 14 [] .nil))))))))))))))) ?_; refine r_move (i := 0) ?_; refine r_nilCheck (i := 1) ?_; refine r_fieldAddr (i := 2) ?_; refine r_load (i := 3) ?_; refine r_move (i := 4) ?_; refine r_move (i := 6) ?_; refine r_nilCheck (i := 7) ?_; refine r_fieldAddr (i := 8) ?_; refine r_fieldAddr (i := 9) ?_; refine r_load (i := 10) ?_; refine r_move (i := 11) ?_; ((refine r_own (i := 5) (hq := (NO)) (hfire := (fun _ => by first | (refine FireAll.cons (by first | exact a_load | exact a_un) ?_; exact FireAll.nil) | (refine fireall_fact ?_; refine FireAll.cons (by first | exact a_load | exact a_un) ?_; exact FireAll.nil))) (h := fun x49 => ?_); try (refine r_fact (fun h49 => ?_)))); ((refine r_own (i := 12) (hq := (NO)) (hfire := (fun _ => .nil)) (h := fun x56 => ?_); try (refine r_fact (fun h56 => ?_)))); refine r_assignL (i := 13) (hfire := (fun _ => .nil)) (h := fun _ => ?_); refine r_assignL (i := 14) (hfire := (fun _ => .nil)) (h := fun _ => ?_); refine r_fin ?_; refine k_seq ?_; refine k_region ?_; (refine j_own (NO) (fun x57 => ?_); try (refine l_fact (fun h57 => ?_))); refine j_alloc (fun x8 => ?_); refine j_store (fun _ => ?_); refine l_nil ?_; refine k_seq ?_; refine k_seq ?_; refine k_region ?_; refine j_move ?_; refine j_move ?_; refine j_neq ?_; refine l_nil ?_)
     all_goals
      refine k_if (fun c60 => ?_) (fun c60 => ?_)
      · try (exact absurd c60 (by decide))
        all_goals (revert c60; (first | refine cv1 ?_ | refine cv3 ?_ | refine cv5 ?_ | refine cv7 ?_ | refine cv9 ?_ | refine cvb ?_ | refine cvd ?_ | skip); intro c60)
        all_goals try (exfalso; omega)
        all_goals (refine k_seq ?_; refine k_drawF (.one 0 [] (.one 1 [] (.one 2 [] (.one 3 [] (.one 4 [] (.one 5 [] (.one 6 [] (.one 7 [] (.one 8 [] (.one 9 [] (.one 10 [] (.one 11 [] (.one 12 [] (.one 13 [] (.one 14 [] (.one 15 [] (.one 16 [] (.one 17 [] (.one 19 [] (.one 20 [] (.one 18 [3] (.one 21 [] (.one 22 [] .nil))))))))))))))))))))))) ?_; refine r_move (i := 0) ?_; refine r_nilCheck (i := 1) ?_; refine r_fieldAddr (i := 2) ?_; refine r_load (i := 3) ?_; refine r_move (i := 4) ?_; refine r_nilCheck (i := 5) ?_; refine r_fieldAddr (i := 6) ?_; refine r_load (i := 7) ?_; refine r_move (i := 8) ?_; refine r_nilCheck (i := 9) ?_; refine r_fieldAddr (i := 10) ?_; refine r_fieldAddr (i := 11) ?_; refine r_load (i := 12) ?_; refine r_move (i := 13) ?_; refine r_nilCheck (i := 14) ?_; refine r_fieldAddr (i := 15) ?_; refine r_fieldAddr (i := 16) ?_; refine r_load (i := 17) ?_; refine r_ownP (i := 19) (hq := (o_nilCheckI (by exact rfl))) (h := ?_); refine r_move (i := 20) ?_; ((refine r_own (i := 18) (hq := (NO)) (hfire := (fun _ => by first | (refine FireAll.cons (by first | exact a_load | exact a_un) ?_; exact FireAll.nil) | (refine fireall_fact ?_; refine FireAll.cons (by first | exact a_load | exact a_un) ?_; exact FireAll.nil))) (h := fun x79 => ?_); try (refine r_fact (fun h79 => ?_)))); ((refine r_own (i := 21) (hq := (cMI (hm := fun w => inv_Alloc _ _ _ w) (hc := fun w hs => aAllocD_c (niList h (ofL [(v.nd.key, v.nd.val), (k, u)])) (L := L) (cs := cs) (n := { Nd.zero with kind := 6, hash := (h : Int), prA := x40, prN := (ofL [(v.nd.key, v.nd.val), (k, u)]).length, prC := (ofL [(v.nd.key, v.nd.val), (k, u)]).length }) hs rfl rfl (by simp) (by show (ofL _).length ≤ _; omega) (by omega) (by omega) rfl rfl))) (hfire := (fun _ => .nil)) (h := fun x82 => ?_); try (refine r_fact (fun h82 => ?_)))); refine r_assignL (i := 22) (hfire := (fun _ => .nil)) (h := fun _ => ?_); refine r_fin ?_; refine k_seq ?_; refine k_drawF (.one 0 [] (.one 1 [] (.one 2 [] (.one 3 [] (.one 4 [] (.one 5 [] (.one 6 [] (.one 7 [] (.one 8 [] (.one 9 [] (.one 10 [] .nil))))))))))) ?_; refine r_load (i := 0) ?_; refine r_move (i := 1) ?_; refine r_move (i := 2) ?_; refine r_nilCheck (i := 3) ?_; refine r_fieldAddr (i := 4) ?_; refine r_load (i := 5) ?_; ((refine r_own (i := 6) (hq := (NO)) (hfire := (fun _ => .nil)) (h := fun x90 => ?_); try (refine r_fact (fun h90 => ?_)))); refine r_move (i := 7) ?_; refine r_extract (i := 8) ?_; refine r_extract (i := 9) ?_; refine r_store (i := 10) (hfire := (fun _ => .nil)) (h := fun _ => ?_); refine r_fin ?_; refine k_seq ?_; refine k_region ?_; refine j_load ?_; refine j_move ?_; refine j_move ?_; (refine j_own (NO) (fun x97 => ?_); try (refine l_fact (fun h97 => ?_))); refine j_move ?_; refine j_extract ?_; refine j_extract ?_; refine j_store (fun _ => ?_); refine l_nil ?_; refine k_seq ?_; refine k_drawF (.one 0 [] (.one 1 [] (.one 2 [] (.one 3 [] (.one 4 [] (.one 5 [] (.one 6 [] .nil))))))) ?_; refine r_move (i := 0) ?_; refine r_nilCheck (i := 1) ?_; refine r_fieldAddr (i := 2) ?_; refine r_load (i := 3) ?_; refine r_load (i := 4) ?_; ((refine r_own (i := 5) (hq := (cMI (hm := fun w => inv_Alloc _ _ _ w) (hc := fun w hs => aAllocD_c (niList h (ofL [(v.nd.key, v.nd.val), (k, u)])) (L := L) (cs := cs) (n := { Nd.zero with kind := 6, hash := (h : Int), prA := x40, prN := (ofL [(v.nd.key, v.nd.val), (k, u)]).length, prC := (ofL [(v.nd.key, v.nd.val), (k, u)]).length }) hs rfl rfl (by simp) (by show (ofL _).length ≤ _; omega) (by omega) (by omega) rfl rfl))) (hfire := (fun _ => .nil)) (h := fun x105 => ?_); try (refine r_fact (fun h105 => ?_)))); refine r_assignL (i := 6) (hfire := (fun _ => .nil)) (h := fun _ => ?_); refine r_fin ?_)
        all_goals
         refine k_rv Try.results25 (fun w hw => ?_)
         exact ⟨⟨[x43.1], x43.2.pn, x43.2.cn, x43.2.pc, x43.2.cc⟩, rfl, ⟨by simp only [List.map_cons, List.map_nil, alls, h43.1], fun z hz => by rw [List.mem_singleton.1 hz]; exact h43.2⟩, hw.ret (List.Sublist.refl _) (FSub.ofSub fun f hf => List.mem_append_left _ (by simpa [famF] using hf)) (List.Sublist.refl _)⟩
      · try (exact absurd c60 (by decide))
        all_goals (revert c60; (first | refine cv2 ?_ | refine cv4 ?_ | refine cv6 ?_ | refine cv8 ?_ | refine cva ?_ | refine cvc ?_ | refine cve ?_ | skip); intro c60)
        all_goals try (exfalso; omega)
        all_goals (refine k_skip ?_; refine k_seq ?_; refine k_region ?_; refine j_move ?_; refine j_move ?_; refine j_inc ?_; (refine j_own (NO) (fun x109 => ?_); try (refine l_fact (fun h109 => ?_))); refine j_assignL (fun _ => ?_); refine l_nil ?_; refine k_seq ?_; refine k_drawF (.one 0 [] (.one 1 [] (.one 2 [] (.one 3 [] (.one 4 [] (.one 5 [] (.one 6 [] (.one 7 [] (.one 9 [] (.one 10 [] (.one 11 [] (.one 8 [3] (.one 12 [] (.one 13 [] .nil)))))))))))))) ?_; refine r_move (i := 0) ?_; refine r_nilCheck (i := 1) ?_; refine r_fieldAddr (i := 2) ?_; refine r_load (i := 3) ?_; refine r_move (i := 4) ?_; refine r_nilCheck (i := 5) ?_; refine r_fieldAddr (i := 6) ?_; refine r_load (i := 7) ?_; refine r_move (i := 9) ?_; refine r_ownP (i := 10) (hq := (o_nilCheckI (by exact rfl))) (h := ?_); refine r_move (i := 11) ?_; ((refine r_own (i := 8) (hq := (NO)) (hfire := (fun _ => by first | (refine FireAll.cons (by first | exact a_load | exact a_un) ?_; exact FireAll.nil) | (refine fireall_fact ?_; refine FireAll.cons (by first | exact a_load | exact a_un) ?_; exact FireAll.nil))) (h := fun x118 => ?_); try (refine r_fact (fun h118 => ?_)))); ((refine r_own (i := 12) (hq := (cMI (hm := fun w => inv_Alloc _ _ _ w) (hc := fun w hs => aAllocD_c (niList h (ofL [(v.nd.key, v.nd.val), (k, u)])) (L := L) (cs := cs) (n := { Nd.zero with kind := 6, hash := (h : Int), prA := x40, prN := (ofL [(v.nd.key, v.nd.val), (k, u)]).length, prC := (ofL [(v.nd.key, v.nd.val), (k, u)]).length }) hs rfl rfl (by simp) (by show (ofL _).length ≤ _; omega) (by omega) (by omega) rfl rfl))) (hfire := (fun _ => .nil)) (h := fun x122 => ?_); try (refine r_fact (fun h122 => ?_)))); refine r_assignL (i := 13) (hfire := (fun _ => .nil)) (h := fun _ => ?_); refine r_fin ?_; refine k_seq ?_; refine k_region ?_; refine j_load ?_; refine j_move ?_; refine j_move ?_; (refine j_own (NO) (fun x127 => ?_); try (refine l_fact (fun h127 => ?_))); refine j_move ?_; refine j_extract ?_; refine j_extract ?_; refine j_store (fun _ => ?_); refine l_nil ?_; refine k_seq ?_; refine k_drawF (.one 0 [] (.one 1 [] (.one 2 [] (.one 3 [] (.one 4 [] (.one 5 [] (.one 6 [] .nil))))))) ?_; refine r_move (i := 0) ?_; refine r_nilCheck (i := 1) ?_; refine r_fieldAddr (i := 2) ?_; refine r_load (i := 3) ?_; refine r_load (i := 4) ?_; ((refine r_own (i := 5) (hq := (cMI (hm := fun w => inv_Alloc _ _ _ w) (hc := fun w hs => aAllocD_c (niList h (ofL [(v.nd.key, v.nd.val), (k, u)])) (L := L) (cs := cs) (n := { Nd.zero with kind := 6, hash := (h : Int), prA := x40, prN := (ofL [(v.nd.key, v.nd.val), (k, u)]).length, prC := (ofL [(v.nd.key, v.nd.val), (k, u)]).length }) hs rfl rfl (by simp) (by show (ofL _).length ≤ _; omega) (by omega) (by omega) rfl rfl))) (hfire := (fun _ => .nil)) (h := fun x135 => ?_); try (refine r_fact (fun h135 => ?_)))); refine r_assignL (i := 6) (hfire := (fun _ => .nil)) (h := fun _ => ?_); refine r_fin ?_)
        all_goals
         refine k_rv Try.results25 (fun w hw => ?_)
         exact ⟨⟨[x43.1], x43.2.pn, x43.2.cn, x43.2.pc, x43.2.cc⟩, rfl, ⟨by simp only [List.map_cons, List.map_nil, alls, h43.1], fun z hz => by rw [List.mem_singleton.1 hz]; exact h43.2⟩, hw.ret (List.Sublist.refl _) (FSub.ofSub fun f hf => List.mem_append_left _ (by simpa [famF] using hf)) (List.Sublist.refl _)⟩
theorem insA_c {i : Nat} (hi : i < 64) {x : Int} (hx : 1 ≤ x) (w : World) :
    Calls Try.prog 45 #[(cn 0 [] (none, 0)).v, .int .i64 (i : Int), .int .i64 x] w fun e w' => ∃ y : Option Addr × Nat, e = .returned (.tuple #[(cn (withI 0 (i : Int)) [x] y).v, .bool true]) ∧ 1 ≤ y.2 ∧ SF w [] [] [] [(y.1, refsC [x])] [] w' := by
  have := ins_c (w := w) (b := 0) (xs := []) (x := (none, 0)) bv_zero hi (has0 _) hx (by simp) (by simp) (Cl.nil _ _)
  rwa [ins0 hi] at this
theorem insB_c {i k : Nat} (hi : i < 64) (hk : k < 64) (hne : i ≠ k) {x s : Int} (hx : 1 ≤ x) (hs : 1 ≤ s) {y : Option Addr × Nat} (hy : 1 ≤ y.2) {w : World} (hc : Cl w y.1 (refsC [x])) :
    Calls Try.prog 45 #[(cn (withI 0 (i : Int)) [x] y).v, .int .i64 (k : Int), .int .i64 s] w fun e w' => ∃ z : Option Addr × Nat, e = .returned (.tuple #[(cn (withI (withI 0 (i : Int)) (k : Int)) (two i k x s) z).v, .bool true]) ∧ 2 ≤ z.2 ∧ SF w [] [] [] [(z.1, refsC (two i k x s))] [] w' := by
  have := ins_c (w := w) (b := withI 0 (i : Int)) (xs := [x]) (x := y) (bv_one hi hx) hk (has1 hi hk hne) hs hy (by simp) hc
  rwa [ins1 hi hk, two_len] at this
theorem mainB_c {lvl : Nat} (hs : SF w D [(bb, blO ba x v h k u gen), (ba, aO L cs g acc pn kn pc kc)] A [] (mW L cs pn kn pc kc) w) (hl : L.length ≤ 900) (hc : cs.length ≤ 900) (hv : v.nd.hash = (h0 : Int)) (hh0 : h0 < 18446744073709551616) (hh : h < 18446744073709551616) (hlv : lvl ≤ 10) (hne : sl h lvl ≠ sl h0 lvl) (hx : 1 ≤ x) :
    Calls Try.prog 25 #[.pointer (some ⟨bb, 0, none⟩), .int .i64 ((lvl : Nat) : Int)] w (Did w D bb ba x v h k u gen L cs g acc [niSingle h k u, niC (withI (withI 0 (sl h0 lvl : Int)) (sl h lvl : Int)) (two (sl h0 lvl) (sl h lvl) x ((L.length + 3 : Nat) : Int))]) := by
  refine enter Try.func25 Try.ntmps25 rfl rfl hs ?_
  simp only [mkS]
  all_goals (refine k_seq ?_; refine k_region ?_; refine j_assignL (fun _ => ?_); refine l_nil ?_; refine k_seq ?_; refine k_seq ?_; refine k_region ?_; refine j_move ?_; refine j_eql ?_; refine l_nil ?_)
  all_goals
   refine k_if (fun c13 => ?_) (fun c13 => ?_)
   · try (exact absurd c13 (by decide))
     all_goals (revert c13; (first | refine cv1 ?_ | refine cv3 ?_ | refine cv5 ?_ | refine cv7 ?_ | refine cv9 ?_ | refine cvb ?_ | refine cvd ?_ | skip); intro c13)
     all_goals try (exfalso; omega)
     all_goals (refine k_seq ?_; refine k_drawF (.one 0 [] (.one 1 [] (.one 2 [] (.one 3 [] (.one 4 [] (.one 5 [] (.one 6 [] (.one 7 [] (.one 8 [] (.one 9 [] (.one 10 [] (.one 11 [] (.one 12 [] (.one 13 [] (.one 14 [] (.one 15 [] (.one 16 [] (.one 17 [] .nil)))))))))))))))))) ?_; refine r_move (i := 0) ?_; refine r_nilCheck (i := 1) ?_; refine r_fieldAddr (i := 2) ?_; refine r_fieldAddr (i := 3) ?_; refine r_load (i := 4) ?_; refine r_move (i := 5) ?_; refine r_nilCheck (i := 6) ?_; refine r_fieldAddr (i := 7) ?_; refine r_fieldAddr (i := 8) ?_; refine r_load (i := 9) ?_; refine r_build (i := 10) ?_; refine r_move (i := 11) ?_; refine r_nilCheck (i := 12) ?_; refine r_fieldAddr (i := 13) ?_; refine r_load (i := 14) ?_; refine r_buildSlice (i := 15) (hfire := (fun _ => .nil)) (h := fun x29 => ?_); ((refine r_own (i := 16) (hq := (NO)) (hfire := (fun _ => .nil)) (h := fun x30 => ?_); try (refine r_fact (fun h30 => ?_)))); refine r_assignL (i := 17) (hfire := (fun _ => .nil)) (h := fun _ => ?_); refine r_fin ?_; refine k_seq ?_; refine k_drawF (.one 0 [] (.one 1 [] (.one 2 [] (.one 3 [] (.one 4 [] (.one 5 [] (.one 6 [] (.one 7 [] (.one 8 [] (.one 10 [] (.one 11 [] (.one 9 [3] (.one 12 [] (.one 13 [] .nil)))))))))))))) ?_; refine r_move (i := 0) ?_; refine r_nilCheck (i := 1) ?_; refine r_fieldAddr (i := 2) ?_; refine r_load (i := 3) ?_; refine r_move (i := 4) ?_; refine r_nilCheck (i := 5) ?_; refine r_fieldAddr (i := 6) ?_; refine r_load (i := 7) ?_; refine r_move (i := 8) ?_; refine r_ownP (i := 10) (hq := (o_nilCheckI (by exact rfl))) (h := ?_); refine r_move (i := 11) ?_; ((refine r_own (i := 9) (hq := (NO)) (hfire := (fun _ => by first | (refine FireAll.cons (by first | exact a_load | exact a_un) ?_; exact FireAll.nil) | (refine fireall_fact ?_; refine FireAll.cons (by first | exact a_load | exact a_un) ?_; exact FireAll.nil))) (h := fun x40 => ?_); try (refine r_fact (fun h40 => ?_)))); ((refine r_own (i := 12) (hq := (NO)) (hfire := (fun _ => .nil)) (h := fun x43 => ?_); try (refine r_fact (fun h43 => ?_)))); refine r_assignL (i := 13) (hfire := (fun _ => .nil)) (h := fun _ => ?_); refine r_fin ?_)
     all_goals
      refine k_rv Try.results25 (fun w hw => ?_)
      refine ⟨⟨[x82.1, x105.1], x105.2.pn, x105.2.cn, x105.2.pc, x105.2.cc⟩, by simp only [List.length_append, List.length_cons, List.length_nil]; rfl, ⟨?_, fun z hz => ?_⟩, ?_⟩
      · have e : (alCs 4 cs 0).length = cs.length + nC 4 := alCs_len 4 cs 0
        simp only [List.map_cons, List.map_nil, alls, h82.1, h105.1, e]
      · simp only [List.mem_cons, List.not_mem_nil, or_false] at hz
        rcases hz with rfl | rfl
        · exact h82.2
        · exact h105.2
      · have e : (L ++ [x82.1]) ++ [x105.1] = L ++ [x82.1, x105.1] := by simp
        rw [e] at hw
        exact hw.ret (by repeat (first | exact List.Sublist.refl _ | apply List.Sublist.cons)) (FSub.ofSub fun f hf => by simp only [famF, List.flatMap_cons, List.flatMap_nil, List.append_nil, List.mem_append] at hf; rcases hf with h | h <;> simp [h]) (List.Sublist.refl _)
   · try (exact absurd c13 (by decide))
     all_goals (revert c13; (first | refine cv2 ?_ | refine cv4 ?_ | refine cv6 ?_ | refine cv8 ?_ | refine cva ?_ | refine cvc ?_ | refine cve ?_ | skip); intro c13)
     all_goals try (exfalso; omega)
     all_goals (refine k_skip ?_; refine k_seq ?_; refine k_drawF (.one 0 [] (.one 1 [] (.one 2 [] (.one 3 [] (.one 4 [] (.one 6 [] (.one 7 [] (.one 8 [] (.one 9 [] (.one 10 [] (.one 11 [] (.one 5 [10] (.one 12 [] (.one 13 [] (.one 14 [] .nil))))))))))))))) ?_; refine r_move (i := 0) ?_; refine r_nilCheck (i := 1) ?_; refine r_fieldAddr (i := 2) ?_; refine r_load (i := 3) ?_; refine r_move (i := 4) ?_; refine r_move (i := 6) ?_; refine r_nilCheck (i := 7) ?_; refine r_fieldAddr (i := 8) ?_; refine r_fieldAddr (i := 9) ?_; refine r_load (i := 10) ?_; refine r_move (i := 11) ?_; ((refine r_own (i := 5) (hq := (cV (hc := fun w1 hw => khSlice_c hh hlv w1))) (hfire := (fun _ => by first | (refine FireAll.cons (by first | exact a_load | exact a_un) ?_; exact FireAll.nil) | (refine fireall_fact ?_; refine FireAll.cons (by first | exact a_load | exact a_un) ?_; exact FireAll.nil))) (h := fun x49 => ?_); try (refine r_fact (fun h49 => ?_)))); ((refine r_own (i := 12) (hq := (cV (hc := fun w1 hw => by rw [hv]; exact khSlice_c hh0 hlv w1))) (hfire := (fun _ => .nil)) (h := fun x56 => ?_); try (refine r_fact (fun h56 => ?_)))); refine r_assignL (i := 13) (hfire := (fun _ => .nil)) (h := fun _ => ?_); refine r_assignL (i := 14) (hfire := (fun _ => .nil)) (h := fun _ => ?_); refine r_fin ?_; refine k_seq ?_; refine k_region ?_; (refine j_own (cV (hc := fun w1 hw => emptyC_c w1)) (fun x57 => ?_); try (refine l_fact (fun h57 => ?_))); refine j_alloc (fun x8 => ?_); refine j_store (fun _ => ?_); refine l_nil ?_; refine k_seq ?_; refine k_seq ?_; refine k_region ?_; refine j_move ?_; refine j_move ?_; refine j_neq ?_; refine l_nil ?_)
     all_goals
      refine k_if (fun c60 => ?_) (fun c60 => ?_)
      · try (exact absurd c60 (by decide))
        all_goals (revert c60; (first | refine cv1 ?_ | refine cv3 ?_ | refine cv5 ?_ | refine cv7 ?_ | refine cv9 ?_ | refine cvb ?_ | refine cvd ?_ | skip); intro c60)
        all_goals try (exfalso; omega)
        all_goals (refine k_seq ?_; refine k_drawF (.one 0 [] (.one 1 [] (.one 2 [] (.one 3 [] (.one 4 [] (.one 5 [] (.one 6 [] (.one 7 [] (.one 8 [] (.one 9 [] (.one 10 [] (.one 11 [] (.one 12 [] (.one 13 [] (.one 14 [] (.one 15 [] (.one 16 [] (.one 17 [] (.one 19 [] (.one 20 [] (.one 18 [3] (.one 21 [] (.one 22 [] .nil))))))))))))))))))))))) ?_; refine r_move (i := 0) ?_; refine r_nilCheck (i := 1) ?_; refine r_fieldAddr (i := 2) ?_; refine r_load (i := 3) ?_; refine r_move (i := 4) ?_; refine r_nilCheck (i := 5) ?_; refine r_fieldAddr (i := 6) ?_; refine r_load (i := 7) ?_; refine r_move (i := 8) ?_; refine r_nilCheck (i := 9) ?_; refine r_fieldAddr (i := 10) ?_; refine r_fieldAddr (i := 11) ?_; refine r_load (i := 12) ?_; refine r_move (i := 13) ?_; refine r_nilCheck (i := 14) ?_; refine r_fieldAddr (i := 15) ?_; refine r_fieldAddr (i := 16) ?_; refine r_load (i := 17) ?_; refine r_ownP (i := 19) (hq := (o_nilCheckI (by exact rfl))) (h := ?_); refine r_move (i := 20) ?_; ((refine r_own (i := 18) (hq := (cV (hc := fun w1 hw => single_c (h : Int) k u w1))) (hfire := (fun _ => by first | (refine FireAll.cons (by first | exact a_load | exact a_un) ?_; exact FireAll.nil) | (refine fireall_fact ?_; refine FireAll.cons (by first | exact a_load | exact a_un) ?_; exact FireAll.nil))) (h := fun x79 => ?_); try (refine r_fact (fun h79 => ?_)))); ((refine r_own (i := 21) (hq := (cMI (A0 := [(none, refsC []), (none, prC [])]) (hm := fun w => inv_Alloc _ _ _ w) (hc := fun w hs => aAllocD_c (niSingle h k u) (L := L) (cs := cs) (n := { Nd.zero with kind := 4, hash := (h : Int), key := k, val := u }) hs rfl rfl (by simp) (by simp) (by omega) (by omega) rfl rfl))) (hfire := (fun _ => .nil)) (h := fun x82 => ?_); try (refine r_fact (fun h82 => ?_)))); refine r_assignL (i := 22) (hfire := (fun _ => .nil)) (h := fun _ => ?_); refine r_fin ?_; refine k_seq ?_; refine k_drawF (.one 0 [] (.one 1 [] (.one 2 [] (.one 3 [] (.one 4 [] (.one 5 [] (.one 6 [] (.one 7 [] (.one 8 [] (.one 9 [] (.one 10 [] .nil))))))))))) ?_; refine r_load (i := 0) ?_; refine r_move (i := 1) ?_; refine r_move (i := 2) ?_; refine r_nilCheck (i := 3) ?_; refine r_fieldAddr (i := 4) ?_; refine r_load (i := 5) ?_; ((refine r_own (i := 6) (hq := (cF (V := fun y : Option Addr × Nat => .tuple #[(cn (withI 0 (sl h0 lvl : Int)) [x] y).v, .bool true]) (hc := fun w1 hw => insA_c (sl_lt _ _) hx w1))) (hfire := (fun _ => .nil)) (h := fun x90 => ?_); try (refine r_fact (fun h90 => ?_)))); refine r_move (i := 7) ?_; refine r_extract (i := 8) ?_; refine r_extract (i := 9) ?_; refine r_store (i := 10) (hfire := (fun _ => .nil)) (h := fun _ => ?_); refine r_fin ?_; refine k_seq ?_; refine k_region ?_; refine j_load ?_; refine j_move ?_; refine j_move ?_; (refine j_own (cF (V := fun y : Option Addr × Nat => .tuple #[(cn (withI (withI 0 (sl h0 lvl : Int)) (sl h lvl : Int)) (two (sl h0 lvl) (sl h lvl) x ((L.length + 3 : Nat) : Int)) y).v, .bool true]) (hc := fun w1 hw => insB_c (sl_lt _ _) (sl_lt _ _) (fun e => hne e.symm) hx (by omega) h90 (hw.cl (.new .head)))) (fun x97 => ?_); try (refine l_fact (fun h97 => ?_))); refine j_move ?_; refine j_extract ?_; refine j_extract ?_; refine j_store (fun _ => ?_); refine l_nil ?_; refine k_seq ?_; refine k_drawF (.one 0 [] (.one 1 [] (.one 2 [] (.one 3 [] (.one 4 [] (.one 5 [] (.one 6 [] .nil))))))) ?_; refine r_move (i := 0) ?_; refine r_nilCheck (i := 1) ?_; refine r_fieldAddr (i := 2) ?_; refine r_load (i := 3) ?_; refine r_load (i := 4) ?_; ((refine r_own (i := 5) (hq := (cMI (A0 := [(x97.1, refsC (two (sl h0 lvl) (sl h lvl) x ((L.length + 3 : Nat) : Int))), (none, prC [])]) (hm := fun w => inv_Alloc _ _ _ w) (hc := fun w hs => aAllocD_c (niC (withI (withI 0 (sl h0 lvl : Int)) (sl h lvl : Int)) (two (sl h0 lvl) (sl h lvl) x ((L.length + 3 : Nat) : Int))) (L := L ++ [x82.1]) (cs := alCs 4 cs 0) (n := cn (withI (withI 0 (sl h0 lvl : Int)) (sl h lvl : Int)) (two (sl h0 lvl) (sl h lvl) x ((L.length + 3 : Nat) : Int)) x97) hs rfl rfl (by rw [two_len]; decide) (by simp) (by simp; omega) (by rw [alCs_len]; have : nC 4 = 0 := rfl; omega) rfl rfl))) (hfire := (fun _ => .nil)) (h := fun x105 => ?_); try (refine r_fact (fun h105 => ?_)))); refine r_assignL (i := 6) (hfire := (fun _ => .nil)) (h := fun _ => ?_); refine r_fin ?_)
        all_goals
         refine k_rv Try.results25 (fun w hw => ?_)
         refine ⟨⟨[x82.1, x105.1], x105.2.pn, x105.2.cn, x105.2.pc, x105.2.cc⟩, by simp only [List.length_append, List.length_cons, List.length_nil]; rfl, ⟨?_, fun z hz => ?_⟩, ?_⟩
         · have e : (alCs 4 cs 0).length = cs.length + nC 4 := alCs_len 4 cs 0
           simp only [List.map_cons, List.map_nil, alls, h82.1, h105.1, e]
         · simp only [List.mem_cons, List.not_mem_nil, or_false] at hz
           rcases hz with rfl | rfl
           · exact h82.2
           · exact h105.2
         · have e : (L ++ [x82.1]) ++ [x105.1] = L ++ [x82.1, x105.1] := by simp
           rw [e] at hw
           exact hw.ret (by repeat (first | exact List.Sublist.refl _ | apply List.Sublist.cons)) (FSub.ofSub fun f hf => by simp only [famF, List.flatMap_cons, List.flatMap_nil, List.append_nil, List.mem_append] at hf; rcases hf with h | h <;> simp [h]) (List.Sublist.refl _)
      · try (exact absurd c60 (by decide))
        all_goals (revert c60; (first | refine cv2 ?_ | refine cv4 ?_ | refine cv6 ?_ | refine cv8 ?_ | refine cva ?_ | refine cvc ?_ | refine cve ?_ | skip); intro c60)
        all_goals try (exfalso; omega)
        all_goals (refine k_skip ?_; refine k_seq ?_; refine k_region ?_; refine j_move ?_; refine j_move ?_; refine j_inc ?_; (refine j_own (NO) (fun x109 => ?_); try (refine l_fact (fun h109 => ?_))); refine j_assignL (fun _ => ?_); refine l_nil ?_; refine k_seq ?_; refine k_drawF (.one 0 [] (.one 1 [] (.one 2 [] (.one 3 [] (.one 4 [] (.one 5 [] (.one 6 [] (.one 7 [] (.one 9 [] (.one 10 [] (.one 11 [] (.one 8 [3] (.one 12 [] (.one 13 [] .nil)))))))))))))) ?_; refine r_move (i := 0) ?_; refine r_nilCheck (i := 1) ?_; refine r_fieldAddr (i := 2) ?_; refine r_load (i := 3) ?_; refine r_move (i := 4) ?_; refine r_nilCheck (i := 5) ?_; refine r_fieldAddr (i := 6) ?_; refine r_load (i := 7) ?_; refine r_move (i := 9) ?_; refine r_ownP (i := 10) (hq := (o_nilCheckI (by exact rfl))) (h := ?_); refine r_move (i := 11) ?_; ((refine r_own (i := 8) (hq := (NO)) (hfire := (fun _ => by first | (refine FireAll.cons (by first | exact a_load | exact a_un) ?_; exact FireAll.nil) | (refine fireall_fact ?_; refine FireAll.cons (by first | exact a_load | exact a_un) ?_; exact FireAll.nil))) (h := fun x118 => ?_); try (refine r_fact (fun h118 => ?_)))); ((refine r_own (i := 12) (hq := (NO)) (hfire := (fun _ => .nil)) (h := fun x122 => ?_); try (refine r_fact (fun h122 => ?_)))); refine r_assignL (i := 13) (hfire := (fun _ => .nil)) (h := fun _ => ?_); refine r_fin ?_; refine k_seq ?_; refine k_region ?_; refine j_load ?_; refine j_move ?_; refine j_move ?_; (refine j_own (NO) (fun x127 => ?_); try (refine l_fact (fun h127 => ?_))); refine j_move ?_; refine j_extract ?_; refine j_extract ?_; refine j_store (fun _ => ?_); refine l_nil ?_; refine k_seq ?_; refine k_drawF (.one 0 [] (.one 1 [] (.one 2 [] (.one 3 [] (.one 4 [] (.one 5 [] (.one 6 [] .nil))))))) ?_; refine r_move (i := 0) ?_; refine r_nilCheck (i := 1) ?_; refine r_fieldAddr (i := 2) ?_; refine r_load (i := 3) ?_; refine r_load (i := 4) ?_; ((refine r_own (i := 5) (hq := (NO)) (hfire := (fun _ => .nil)) (h := fun x135 => ?_); try (refine r_fact (fun h135 => ?_)))); refine r_assignL (i := 6) (hfire := (fun _ => .nil)) (h := fun _ => ?_); refine r_fin ?_)
        all_goals
         refine k_rv Try.results25 (fun w hw => ?_)
         refine ⟨⟨[x82.1, x105.1], x105.2.pn, x105.2.cn, x105.2.pc, x105.2.cc⟩, by simp only [List.length_append, List.length_cons, List.length_nil]; rfl, ⟨?_, fun z hz => ?_⟩, ?_⟩
         · have e : (alCs 4 cs 0).length = cs.length + nC 4 := alCs_len 4 cs 0
           simp only [List.map_cons, List.map_nil, alls, h82.1, h105.1, e]
         · simp only [List.mem_cons, List.not_mem_nil, or_false] at hz
           rcases hz with rfl | rfl
           · exact h82.2
           · exact h105.2
         · have e : (L ++ [x82.1]) ++ [x105.1] = L ++ [x82.1, x105.1] := by simp
           rw [e] at hw
           exact hw.ret (by repeat (first | exact List.Sublist.refl _ | apply List.Sublist.cons)) (FSub.ofSub fun f hf => by simp only [famF, List.flatMap_cons, List.flatMap_nil, List.append_nil, List.mem_append] at hf; rcases hf with h | h <;> simp [h]) (List.Sublist.refl _)
/-- A level above it. -/
theorem mainS_c {lvl : Nat} {l : List NI} (hs : SF w D [(bb, blO ba x v h k u gen), (ba, aO L cs g acc pn kn pc kc)] A [] (mW L cs pn kn pc kc) w) (hl : L.length + l.length ≤ 900) (hc : cs.length + l.length ≤ 900) (hv : v.nd.hash = (h0 : Int)) (hh0 : h0 < 18446744073709551616) (hh : h < 18446744073709551616) (hlv : lvl ≤ 10) (heq : sl h lvl = sl h0 lvl)
    (ih : ∀ (D : List Nat) (w : World), SF w D [(bb, blO ba x v h k u gen), (ba, aO L cs g acc pn kn pc kc)] [] [] (mW L cs pn kn pc kc) w → Calls Try.prog 25 #[.pointer (some ⟨bb, 0, none⟩), .int .i64 ((lvl + 1 : Nat) : Int)] w (Did w D bb ba x v h k u gen L cs g acc l)) :
    Calls Try.prog 25 #[.pointer (some ⟨bb, 0, none⟩), .int .i64 ((lvl : Nat) : Int)] w (Did w D bb ba x v h k u gen L cs g acc (l ++ [niInner gen ((L.length + 2 + l.length : Nat) : Int), niC (withI 0 (sl h lvl : Int)) [((L.length + 3 + l.length : Nat) : Int)]])) := by
  have hN := allN_le l cs.length
  refine enter Try.func25 Try.ntmps25 rfl rfl hs ?_
  simp only [mkS]
  all_goals (refine k_seq ?_; refine k_region ?_; refine j_assignL (fun _ => ?_); refine l_nil ?_; refine k_seq ?_; refine k_seq ?_; refine k_region ?_; refine j_move ?_; refine j_eql ?_; refine l_nil ?_)
  all_goals
   refine k_if (fun c13 => ?_) (fun c13 => ?_)
   · try (exact absurd c13 (by decide))
     all_goals (revert c13; (first | refine cv1 ?_ | refine cv3 ?_ | refine cv5 ?_ | refine cv7 ?_ | refine cv9 ?_ | refine cvb ?_ | refine cvd ?_ | skip); intro c13)
     all_goals try (exfalso; omega)
     all_goals (refine k_seq ?_; refine k_drawF (.one 0 [] (.one 1 [] (.one 2 [] (.one 3 [] (.one 4 [] (.one 5 [] (.one 6 [] (.one 7 [] (.one 8 [] (.one 9 [] (.one 10 [] (.one 11 [] (.one 12 [] (.one 13 [] (.one 14 [] (.one 15 [] (.one 16 [] (.one 17 [] .nil)))))))))))))))))) ?_; refine r_move (i := 0) ?_; refine r_nilCheck (i := 1) ?_; refine r_fieldAddr (i := 2) ?_; refine r_fieldAddr (i := 3) ?_; refine r_load (i := 4) ?_; refine r_move (i := 5) ?_; refine r_nilCheck (i := 6) ?_; refine r_fieldAddr (i := 7) ?_; refine r_fieldAddr (i := 8) ?_; refine r_load (i := 9) ?_; refine r_build (i := 10) ?_; refine r_move (i := 11) ?_; refine r_nilCheck (i := 12) ?_; refine r_fieldAddr (i := 13) ?_; refine r_load (i := 14) ?_; refine r_buildSlice (i := 15) (hfire := (fun _ => .nil)) (h := fun x29 => ?_); ((refine r_own (i := 16) (hq := (NO)) (hfire := (fun _ => .nil)) (h := fun x30 => ?_); try (refine r_fact (fun h30 => ?_)))); refine r_assignL (i := 17) (hfire := (fun _ => .nil)) (h := fun _ => ?_); refine r_fin ?_; refine k_seq ?_; refine k_drawF (.one 0 [] (.one 1 [] (.one 2 [] (.one 3 [] (.one 4 [] (.one 5 [] (.one 6 [] (.one 7 [] (.one 8 [] (.one 10 [] (.one 11 [] (.one 9 [3] (.one 12 [] (.one 13 [] .nil)))))))))))))) ?_; refine r_move (i := 0) ?_; refine r_nilCheck (i := 1) ?_; refine r_fieldAddr (i := 2) ?_; refine r_load (i := 3) ?_; refine r_move (i := 4) ?_; refine r_nilCheck (i := 5) ?_; refine r_fieldAddr (i := 6) ?_; refine r_load (i := 7) ?_; refine r_move (i := 8) ?_; refine r_ownP (i := 10) (hq := (o_nilCheckI (by exact rfl))) (h := ?_); refine r_move (i := 11) ?_; ((refine r_own (i := 9) (hq := (NO)) (hfire := (fun _ => by first | (refine FireAll.cons (by first | exact a_load | exact a_un) ?_; exact FireAll.nil) | (refine fireall_fact ?_; refine FireAll.cons (by first | exact a_load | exact a_un) ?_; exact FireAll.nil))) (h := fun x40 => ?_); try (refine r_fact (fun h40 => ?_)))); ((refine r_own (i := 12) (hq := (NO)) (hfire := (fun _ => .nil)) (h := fun x43 => ?_); try (refine r_fact (fun h43 => ?_)))); refine r_assignL (i := 13) (hfire := (fun _ => .nil)) (h := fun _ => ?_); refine r_fin ?_)
     all_goals
      refine k_rv Try.results25 (fun w hw => ?_)
      have h1 := congrArg List.length h109.1; simp only [List.length_map, alls_length] at h1
      have e0 : (L ++ x109.L).length + 3 = L.length + 3 + l.length := by simp only [List.length_append]; omega
      rw [e0] at h135 hw
      have e : ((L ++ x109.L) ++ [x122.1]) ++ [x135.1] = L ++ (x109.L ++ [x122.1, x135.1]) := by simp
      have e2 : allCs (l ++ [niInner gen ((L.length + 2 + l.length : Nat) : Int), niC (withI 0 (sl h lvl : Int)) [((L.length + 3 + l.length : Nat) : Int)]]) cs = alCs 3 (alCs 2 (allCs l cs) ((L.length + 2 + l.length : Nat) : Int)) 0 := by rw [allCs_append]; rfl
      refine ⟨⟨x109.L ++ [x122.1, x135.1], x135.2.pn, x135.2.cn, x135.2.pc, x135.2.cc⟩, ?_, ⟨?_, fun z hz => ?_⟩, ?_⟩
      · show Ending.returned (.int .i64 _) = Ending.returned (.int .i64 _)
        simp only [List.length_append, List.length_cons, List.length_nil]
        rw [h1]
        congr 3
        omega
      · have e3 : (alCs 2 (allCs l cs) ((L.length + 2 + l.length : Nat) : Int)).length = allN l cs.length + nC 2 := by rw [alCs_len, allCs_len]
        rw [alls_append, List.map_append, h109.1]
        simp only [List.map_cons, List.map_nil, alls, h122.1, h135.1, e3, allCs_len]
      · rcases List.mem_append.1 hz with hz | hz
        · exact h109.2 z hz
        simp only [List.mem_cons, List.not_mem_nil, or_false] at hz
        rcases hz with rfl | rfl
        · exact h122.2
        · exact h135.2
      · rw [e] at hw
        rw [e2]
        exact hw.ret (by repeat (first | exact List.Sublist.refl _ | apply List.Sublist.cons)) (FSub.ofSub fun f hf => by simp only [famF, List.flatMap_append, List.flatMap_cons, List.flatMap_nil, List.append_nil, List.mem_append] at hf; rcases hf with h | h | h <;> simp [h, famF]) (List.Sublist.refl _)
   · try (exact absurd c13 (by decide))
     all_goals (revert c13; (first | refine cv2 ?_ | refine cv4 ?_ | refine cv6 ?_ | refine cv8 ?_ | refine cva ?_ | refine cvc ?_ | refine cve ?_ | skip); intro c13)
     all_goals try (exfalso; omega)
     all_goals (refine k_skip ?_; refine k_seq ?_; refine k_drawF (.one 0 [] (.one 1 [] (.one 2 [] (.one 3 [] (.one 4 [] (.one 6 [] (.one 7 [] (.one 8 [] (.one 9 [] (.one 10 [] (.one 11 [] (.one 5 [10] (.one 12 [] (.one 13 [] (.one 14 [] .nil))))))))))))))) ?_; refine r_move (i := 0) ?_; refine r_nilCheck (i := 1) ?_; refine r_fieldAddr (i := 2) ?_; refine r_load (i := 3) ?_; refine r_move (i := 4) ?_; refine r_move (i := 6) ?_; refine r_nilCheck (i := 7) ?_; refine r_fieldAddr (i := 8) ?_; refine r_fieldAddr (i := 9) ?_; refine r_load (i := 10) ?_; refine r_move (i := 11) ?_; ((refine r_own (i := 5) (hq := (cV (hc := fun w1 hw => khSlice_c hh hlv w1))) (hfire := (fun _ => by first | (refine FireAll.cons (by first | exact a_load | exact a_un) ?_; exact FireAll.nil) | (refine fireall_fact ?_; refine FireAll.cons (by first | exact a_load | exact a_un) ?_; exact FireAll.nil))) (h := fun x49 => ?_); try (refine r_fact (fun h49 => ?_)))); ((refine r_own (i := 12) (hq := (cV (hc := fun w1 hw => by rw [hv]; exact khSlice_c hh0 hlv w1))) (hfire := (fun _ => .nil)) (h := fun x56 => ?_); try (refine r_fact (fun h56 => ?_)))); refine r_assignL (i := 13) (hfire := (fun _ => .nil)) (h := fun _ => ?_); refine r_assignL (i := 14) (hfire := (fun _ => .nil)) (h := fun _ => ?_); refine r_fin ?_; refine k_seq ?_; refine k_region ?_; (refine j_own (cV (hc := fun w1 hw => emptyC_c w1)) (fun x57 => ?_); try (refine l_fact (fun h57 => ?_))); refine j_alloc (fun x8 => ?_); refine j_store (fun _ => ?_); refine l_nil ?_; refine k_seq ?_; refine k_seq ?_; refine k_region ?_; refine j_move ?_; refine j_move ?_; refine j_neq ?_; refine l_nil ?_)
     all_goals
      refine k_if (fun c60 => ?_) (fun c60 => ?_)
      · try (exact absurd c60 (by decide))
        all_goals (revert c60; (first | refine cv1 ?_ | refine cv3 ?_ | refine cv5 ?_ | refine cv7 ?_ | refine cv9 ?_ | refine cvb ?_ | refine cvd ?_ | skip); intro c60)
        all_goals try (exfalso; omega)
        all_goals (refine k_seq ?_; refine k_drawF (.one 0 [] (.one 1 [] (.one 2 [] (.one 3 [] (.one 4 [] (.one 5 [] (.one 6 [] (.one 7 [] (.one 8 [] (.one 9 [] (.one 10 [] (.one 11 [] (.one 12 [] (.one 13 [] (.one 14 [] (.one 15 [] (.one 16 [] (.one 17 [] (.one 19 [] (.one 20 [] (.one 18 [3] (.one 21 [] (.one 22 [] .nil))))))))))))))))))))))) ?_; refine r_move (i := 0) ?_; refine r_nilCheck (i := 1) ?_; refine r_fieldAddr (i := 2) ?_; refine r_load (i := 3) ?_; refine r_move (i := 4) ?_; refine r_nilCheck (i := 5) ?_; refine r_fieldAddr (i := 6) ?_; refine r_load (i := 7) ?_; refine r_move (i := 8) ?_; refine r_nilCheck (i := 9) ?_; refine r_fieldAddr (i := 10) ?_; refine r_fieldAddr (i := 11) ?_; refine r_load (i := 12) ?_; refine r_move (i := 13) ?_; refine r_nilCheck (i := 14) ?_; refine r_fieldAddr (i := 15) ?_; refine r_fieldAddr (i := 16) ?_; refine r_load (i := 17) ?_; refine r_ownP (i := 19) (hq := (o_nilCheckI (by exact rfl))) (h := ?_); refine r_move (i := 20) ?_; ((refine r_own (i := 18) (hq := (NO)) (hfire := (fun _ => by first | (refine FireAll.cons (by first | exact a_load | exact a_un) ?_; exact FireAll.nil) | (refine fireall_fact ?_; refine FireAll.cons (by first | exact a_load | exact a_un) ?_; exact FireAll.nil))) (h := fun x79 => ?_); try (refine r_fact (fun h79 => ?_)))); ((refine r_own (i := 21) (hq := (NO)) (hfire := (fun _ => .nil)) (h := fun x82 => ?_); try (refine r_fact (fun h82 => ?_)))); refine r_assignL (i := 22) (hfire := (fun _ => .nil)) (h := fun _ => ?_); refine r_fin ?_; refine k_seq ?_; refine k_drawF (.one 0 [] (.one 1 [] (.one 2 [] (.one 3 [] (.one 4 [] (.one 5 [] (.one 6 [] (.one 7 [] (.one 8 [] (.one 9 [] (.one 10 [] .nil))))))))))) ?_; refine r_load (i := 0) ?_; refine r_move (i := 1) ?_; refine r_move (i := 2) ?_; refine r_nilCheck (i := 3) ?_; refine r_fieldAddr (i := 4) ?_; refine r_load (i := 5) ?_; ((refine r_own (i := 6) (hq := (NO)) (hfire := (fun _ => .nil)) (h := fun x90 => ?_); try (refine r_fact (fun h90 => ?_)))); refine r_move (i := 7) ?_; refine r_extract (i := 8) ?_; refine r_extract (i := 9) ?_; refine r_store (i := 10) (hfire := (fun _ => .nil)) (h := fun _ => ?_); refine r_fin ?_; refine k_seq ?_; refine k_region ?_; refine j_load ?_; refine j_move ?_; refine j_move ?_; (refine j_own (NO) (fun x97 => ?_); try (refine l_fact (fun h97 => ?_))); refine j_move ?_; refine j_extract ?_; refine j_extract ?_; refine j_store (fun _ => ?_); refine l_nil ?_; refine k_seq ?_; refine k_drawF (.one 0 [] (.one 1 [] (.one 2 [] (.one 3 [] (.one 4 [] (.one 5 [] (.one 6 [] .nil))))))) ?_; refine r_move (i := 0) ?_; refine r_nilCheck (i := 1) ?_; refine r_fieldAddr (i := 2) ?_; refine r_load (i := 3) ?_; refine r_load (i := 4) ?_; ((refine r_own (i := 5) (hq := (NO)) (hfire := (fun _ => .nil)) (h := fun x105 => ?_); try (refine r_fact (fun h105 => ?_)))); refine r_assignL (i := 6) (hfire := (fun _ => .nil)) (h := fun _ => ?_); refine r_fin ?_)
        all_goals
         refine k_rv Try.results25 (fun w hw => ?_)
         have h1 := congrArg List.length h109.1; simp only [List.length_map, alls_length] at h1
         have e0 : (L ++ x109.L).length + 3 = L.length + 3 + l.length := by simp only [List.length_append]; omega
         rw [e0] at h135 hw
         have e : ((L ++ x109.L) ++ [x122.1]) ++ [x135.1] = L ++ (x109.L ++ [x122.1, x135.1]) := by simp
         have e2 : allCs (l ++ [niInner gen ((L.length + 2 + l.length : Nat) : Int), niC (withI 0 (sl h lvl : Int)) [((L.length + 3 + l.length : Nat) : Int)]]) cs = alCs 3 (alCs 2 (allCs l cs) ((L.length + 2 + l.length : Nat) : Int)) 0 := by rw [allCs_append]; rfl
         refine ⟨⟨x109.L ++ [x122.1, x135.1], x135.2.pn, x135.2.cn, x135.2.pc, x135.2.cc⟩, ?_, ⟨?_, fun z hz => ?_⟩, ?_⟩
         · show Ending.returned (.int .i64 _) = Ending.returned (.int .i64 _)
           simp only [List.length_append, List.length_cons, List.length_nil]
           rw [h1]
           congr 3
           omega
         · have e3 : (alCs 2 (allCs l cs) ((L.length + 2 + l.length : Nat) : Int)).length = allN l cs.length + nC 2 := by rw [alCs_len, allCs_len]
           rw [alls_append, List.map_append, h109.1]
           simp only [List.map_cons, List.map_nil, alls, h122.1, h135.1, e3, allCs_len]
         · rcases List.mem_append.1 hz with hz | hz
           · exact h109.2 z hz
           simp only [List.mem_cons, List.not_mem_nil, or_false] at hz
           rcases hz with rfl | rfl
           · exact h122.2
           · exact h135.2
         · rw [e] at hw
           rw [e2]
           exact hw.ret (by repeat (first | exact List.Sublist.refl _ | apply List.Sublist.cons)) (FSub.ofSub fun f hf => by simp only [famF, List.flatMap_append, List.flatMap_cons, List.flatMap_nil, List.append_nil, List.mem_append] at hf; rcases hf with h | h | h <;> simp [h, famF]) (List.Sublist.refl _)
      · try (exact absurd c60 (by decide))
        all_goals (revert c60; (first | refine cv2 ?_ | refine cv4 ?_ | refine cv6 ?_ | refine cv8 ?_ | refine cva ?_ | refine cvc ?_ | refine cve ?_ | skip); intro c60)
        all_goals try (exfalso; omega)
        all_goals (refine k_skip ?_; refine k_seq ?_; refine k_region ?_; refine j_move ?_; refine j_move ?_; refine l_quiet (o_addN (n := 1) (by exact rfl) (by exact rfl) (by omega)) rfl ?_; (refine j_own (cM (A0 := []) (hc := fun w hs => ih _ w hs)) (fun x109 => ?_); try (refine l_fact (fun h109 => ?_))); refine j_assignL (fun _ => ?_); refine l_nil ?_; refine k_seq ?_; refine k_drawF (.one 0 [] (.one 1 [] (.one 2 [] (.one 3 [] (.one 4 [] (.one 5 [] (.one 6 [] (.one 7 [] (.one 9 [] (.one 10 [] (.one 11 [] (.one 8 [3] (.one 12 [] (.one 13 [] .nil)))))))))))))) ?_; refine r_move (i := 0) ?_; refine r_nilCheck (i := 1) ?_; refine r_fieldAddr (i := 2) ?_; refine r_load (i := 3) ?_; refine r_move (i := 4) ?_; refine r_nilCheck (i := 5) ?_; refine r_fieldAddr (i := 6) ?_; refine r_load (i := 7) ?_; refine r_move (i := 9) ?_; refine r_ownP (i := 10) (hq := (o_nilCheckI (by exact rfl))) (h := ?_); refine r_move (i := 11) ?_; ((refine r_own (i := 8) (hq := (cV (hc := fun w1 hw => inner_c gen w1))) (hfire := (fun _ => by first | (refine FireAll.cons (by first | exact a_load | exact a_un) ?_; exact FireAll.nil) | (refine fireall_fact ?_; refine FireAll.cons (by first | exact a_load | exact a_un) ?_; exact FireAll.nil))) (h := fun x118 => ?_); try (refine r_fact (fun h118 => ?_)))); ((refine r_own (i := 12) (hq := (cMI (A0 := [(none, refsC []), (none, prC [])]) (hm := fun w => inv_Alloc _ _ _ w) (hc := fun w hs => aAllocD_c (niInner gen ((L.length + 2 + l.length : Nat) : Int)) (L := L ++ x109.L) (cs := allCs l cs) (n := { Nd.zero with kind := 2, gen := gen }) hs rfl rfl (by simp) (by simp) (by have h1 := congrArg List.length h109.1; simp only [List.length_map, alls_length] at h1; simp only [List.length_append]; omega) (by rw [allCs_len]; omega) rfl rfl))) (hfire := (fun _ => .nil)) (h := fun x122 => ?_); try (refine r_fact (fun h122 => ?_)))); refine r_assignL (i := 13) (hfire := (fun _ => .nil)) (h := fun _ => ?_); refine r_fin ?_; refine k_seq ?_; refine k_region ?_; refine j_load ?_; refine j_move ?_; refine j_move ?_; (refine j_own (cF (V := fun y : Option Addr × Nat => .tuple #[(cn (withI 0 (sl h lvl : Int)) [(((L ++ x109.L).length + 3 : Nat) : Int)] y).v, .bool true]) (hc := fun w1 hw => insA_c (sl_lt _ _) (by omega) w1)) (fun x127 => ?_); try (refine l_fact (fun h127 => ?_))); refine j_move ?_; refine j_extract ?_; refine j_extract ?_; refine j_store (fun _ => ?_); refine l_nil ?_; refine k_seq ?_; refine k_drawF (.one 0 [] (.one 1 [] (.one 2 [] (.one 3 [] (.one 4 [] (.one 5 [] (.one 6 [] .nil))))))) ?_; refine r_move (i := 0) ?_; refine r_nilCheck (i := 1) ?_; refine r_fieldAddr (i := 2) ?_; refine r_load (i := 3) ?_; refine r_load (i := 4) ?_; ((refine r_own (i := 5) (hq := (cMI (A0 := [(x127.1, refsC [(((L ++ x109.L).length + 3 : Nat) : Int)]), (none, prC [])]) (hm := fun w => inv_Alloc _ _ _ w) (hc := fun w hs => aAllocD_c (niC (withI 0 (sl h lvl : Int)) [(((L ++ x109.L).length + 3 : Nat) : Int)]) (L := (L ++ x109.L) ++ [x122.1]) (cs := alCs 2 (allCs l cs) ((L.length + 2 + l.length : Nat) : Int)) (n := cn (withI 0 (sl h lvl : Int)) [(((L ++ x109.L).length + 3 : Nat) : Int)] x127) hs rfl rfl (by simp) (by simp) (by have h1 := congrArg List.length h109.1; simp only [List.length_map, alls_length] at h1; simp only [List.length_append, List.length_cons, List.length_nil]; omega) (by rw [alCs_len, allCs_len]; have : nC 2 = 1 := rfl; omega) rfl rfl))) (hfire := (fun _ => .nil)) (h := fun x135 => ?_); try (refine r_fact (fun h135 => ?_)))); refine r_assignL (i := 6) (hfire := (fun _ => .nil)) (h := fun _ => ?_); refine r_fin ?_)
        all_goals
         refine k_rv Try.results25 (fun w hw => ?_)
         have h1 := congrArg List.length h109.1; simp only [List.length_map, alls_length] at h1
         have e0 : (L ++ x109.L).length + 3 = L.length + 3 + l.length := by simp only [List.length_append]; omega
         rw [e0] at h135 hw
         have e : ((L ++ x109.L) ++ [x122.1]) ++ [x135.1] = L ++ (x109.L ++ [x122.1, x135.1]) := by simp
         have e2 : allCs (l ++ [niInner gen ((L.length + 2 + l.length : Nat) : Int), niC (withI 0 (sl h lvl : Int)) [((L.length + 3 + l.length : Nat) : Int)]]) cs = alCs 3 (alCs 2 (allCs l cs) ((L.length + 2 + l.length : Nat) : Int)) 0 := by rw [allCs_append]; rfl
         refine ⟨⟨x109.L ++ [x122.1, x135.1], x135.2.pn, x135.2.cn, x135.2.pc, x135.2.cc⟩, ?_, ⟨?_, fun z hz => ?_⟩, ?_⟩
         · show Ending.returned (.int .i64 _) = Ending.returned (.int .i64 _)
           simp only [List.length_append, List.length_cons, List.length_nil]
           rw [h1]
           congr 3
           omega
         · have e3 : (alCs 2 (allCs l cs) ((L.length + 2 + l.length : Nat) : Int)).length = allN l cs.length + nC 2 := by rw [alCs_len, allCs_len]
           rw [alls_append, List.map_append, h109.1]
           simp only [List.map_cons, List.map_nil, alls, h122.1, h135.1, e3, allCs_len]
         · rcases List.mem_append.1 hz with hz | hz
           · exact h109.2 z hz
           simp only [List.mem_cons, List.not_mem_nil, or_false] at hz
           rcases hz with rfl | rfl
           · exact h122.2
           · exact h135.2
         · rw [e] at hw
           rw [e2]
           exact hw.ret (by repeat (first | exact List.Sublist.refl _ | apply List.Sublist.cons)) (FSub.ofSub fun f hf => by simp only [famF, List.flatMap_append, List.flatMap_cons, List.flatMap_nil, List.append_nil, List.mem_append] at hf; rcases hf with h | h | h <;> simp [h, famF]) (List.Sublist.refl _)
end Go.Proofs.Ytpfjjagcmjmfpaa
