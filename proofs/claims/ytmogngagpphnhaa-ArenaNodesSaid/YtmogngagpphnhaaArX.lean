/- ArenaNodes: the walk. -/
import Derived.Test.YtmogngagpphnhaaArV
set_option linter.unusedSimpArgs false
set_option linter.unusedVariables false
namespace Go.Ct
open Go Go.RowKit
abbrev ndL (n : Nd) (xs : List Int) (ys : List Pr) : List Value := [.int .i64 n.kind, .int .i64 n.gen, .int .i64 n.main, .int .u64 n.bm, .slice n.brA xs.length n.brC, .int .u64 n.hash, .string n.key, .int .u64 n.val, .slice n.prA ys.length n.prC, .int .i64 n.prev, .int .i64 n.old, .int .i64 n.exp, .int .i64 n.new, .int .i64 n.status]
abbrev mineL (n : Nd) (xs : List Int) (ys : List Pr) (p q : Option Addr × Nat) : List Value := [.int .i64 n.kind, .int .i64 n.gen, .int .i64 0, .int .u64 n.bm, .slice p.1 xs.length p.2, .int .u64 n.hash, .string n.key, .int .u64 n.val, .slice q.1 ys.length q.2, .int .i64 0, .int .i64 n.old, .int .i64 n.exp, .int .i64 n.new, .int .i64 0]
abbrev atL (v : NdV) (p q : Option Addr) : List Value := [.int .i64 v.nd.kind, .int .i64 v.nd.gen, .int .i64 v.nd.main, .int .u64 v.nd.bm, .slice p v.xs.length v.xs.length, .int .u64 v.nd.hash, .string v.nd.key, .int .u64 v.nd.val, .slice q v.ys.length v.ys.length, .int .i64 v.nd.prev, .int .i64 v.nd.old, .int .i64 v.nd.exp, .int .i64 v.nd.new, .int .i64 v.nd.status]
abbrev at0L (v : NdV) (p q : Option Addr) : List Value := [.int .i64 v.nd.kind, .int .i64 v.nd.gen, .int .i64 0, .int .u64 v.nd.bm, .slice p v.xs.length v.xs.length, .int .u64 v.nd.hash, .string v.nd.key, .int .u64 v.nd.val, .slice q v.ys.length v.ys.length, .int .i64 0, .int .i64 v.nd.old, .int .i64 v.nd.exp, .int .i64 v.nd.new, .int .i64 0]
abbrev ndN (n : Nd) (xs : List Int) (ys : List Pr) : Nd := { n with brN := xs.length, prN := ys.length }
abbrev mineN (n : Nd) (xs : List Int) (ys : List Pr) (p q : Option Addr × Nat) : Nd := { n with main := 0, brA := p.1, brN := xs.length, brC := p.2, prA := q.1, prN := ys.length, prC := q.2, prev := 0, status := 0 }
abbrev atN (v : NdV) (p q : Option Addr) : Nd := { v.nd with brA := p, brN := v.xs.length, brC := v.xs.length, prA := q, prN := v.ys.length, prC := v.ys.length }
abbrev at0N (v : NdV) (p q : Option Addr) : Nd := { v.nd with main := 0, brA := p, brN := v.xs.length, brC := v.xs.length, prA := q, prN := v.ys.length, prC := v.ys.length, prev := 0, status := 0 }
theorem nodeV_r {L1 T : List NdV} {v : NdV} : nodeV (allV ((L1 ++ [v]) ++ T)) ((L1.length + 3 : Nat) : Int) = v := by
  rw [nodeV_at (k := L1.length + 2) (by simp [allV])]
  show ((markV :: markV :: ((L1 ++ [v]) ++ T)).getD (L1.length + 2) NdV.zero) = v
  rw [List.getD_cons_succ, List.getD_cons_succ, List.append_assoc, List.getD_eq_getElem?_getD, List.getElem?_append_right (Nat.le_refl _), Nat.sub_self]
  rfl
section
variable {w0 w w' : World} {M : List Nat} {H : List (Nat × Obj)} {A F : Fr} {O : List Ow}
variable {P : Program} {S : List (Nat × Value)} {d : Nat} {ty : TypeId} {pos : String} {af : Array Edge} {gd : Option (Nat × Bool)} {x y : Operand} {t e : TypeId} {p : Option Addr} {i c : Nat}
theorem set_prK : ∀ (l : List Pr) (k : Nat) (u : ByteArray), (prC l).set (2 * k) (.string u) = prC (l.set k (u, (l.getD k (⟨#[]⟩, 0)).2))
  | [], _, _ => rfl
  | p :: l, 0, u => by simp [prC]
  | p :: l, k + 1, u => by
    have := set_prK l k u
    rw [show 2 * (k + 1) = 2 * k + 1 + 1 by omega]
    simp only [prC, List.set_cons_succ, this, List.getD_cons_succ]
theorem o_storePk {q : Nat} {l : List Pr} {v : ByteArray} (hx : ev S x = .pointer (some ⟨ablk p, aoff p + 2 * q, none⟩)) (hy : ev S y = .string v) (ht : one P t = true) (ho : OAt O i p (prC l) c e 2) (hq : q < l.length) :
    Loud P S (SF w0 M H A F O) ⟨none, .store t x y, ty, pos, af, gd⟩ Unit (fun _ => undef) (fun _ => SF w0 M H A F (setO O i ⟨p, prC (l.set q (v, (l.getD q (⟨#[]⟩, 0)).2)), c, e, 2⟩)) := by
  rw [← set_prK]
  exact o_storeO hx hy rfl ht ho (by rw [prC_length]; omega)
end
theorem mem4 {a b c d f : Option Addr × List Value} {R : Fr} (h : f ∈ [a, b, c, d]) : f ∈ a :: b :: c :: d :: R := List.mem_append_left R h
theorem mem4r {a b c d f : Option Addr × List Value} {R : Fr} (h : f ∈ R) : f ∈ a :: b :: c :: d :: R := .tail _ (.tail _ (.tail _ (.tail _ h)))
theorem famF_one {L : List NdV} {v : NdV} {f : Option Addr × List Value} (h : f ∈ famF (L ++ [v])) : f ∈ famF L ∨ f ∈ v.fr := by
  rw [famF_append] at h
  rcases List.mem_append.1 h with h | h
  · exact .inl h
  · exact .inr (by simpa [famF] using h)
theorem getD_r {L1 T L : List NdV} {v : NdV} (h : L = (L1 ++ [v]) ++ T) : (allV L).getD (L1.length + 3 - 1) NdV.zero = v := by
  subst h
  have := nodeV_r (L1 := L1) (T := T) (v := v)
  rwa [nodeV_at (k := L1.length + 2) (by simp [allV])] at this
/-- An arena: what it holds and where it lies. -/
structure AV where
  L : List NdV
  cs : List Int
  gen : Int
  acc : Int
  pn : Option Addr
  cn : Nat
  pc : Option Addr
  cc : Nat
end Go.Ct
namespace Go.Proofs.Ytmogngagpphnhaa
open Go.RowKit Go.Ct
theorem tnodeB_c {l : List Int} {a : Option Addr} {b c k : Nat} {w : World} (refs : Int) (ht : TpAt w b a l c k) (h0 : 0 < refs) (h1 : refs ≤ 1073741824) :
    Calls Try.prog 32 #[.pointer (some ⟨b, 0, none⟩), .int .i64 refs] w fun e w' =>
    ∃ x : Nd × List Int × List Pr × Nat, e = .returned (.agg ⟨ndL x.1 x.2.1 x.2.2.1⟩) ∧ (GenNode refs x.1 x.2.1 x.2.2.1 ∧ x.2.1.length ≤ 64 ∧ x.2.2.1.length ≤ 2) ∧ SF w [b] ((b, tpO a l c x.2.2.2) :: []) [] [(x.1.brA, refsC x.2.1), (x.1.prA, prC x.2.2.1)] [] w' :=
  (tnode_c refs ht h0 h1).mono fun e w' ⟨x, he, g, hs⟩ => ⟨x, he, ⟨g, g.xs64, g.ys2⟩, hs⟩
theorem eqT_c {a b : Nd} {x1 x2 : List Int} {y1 y2 : List Pr} {w : World} (ha : Rep w a x1 y1) (hb : Rep w b x2 y2) (h : a.c x1 y1 = b.c x2 y2) : Calls Try.prog 30 #[a.v, b.v] w fun e w' => e = .returned (.bool true) ∧ St w [] [] w' :=
  (refEq_c ha hb).mono fun e w' ⟨r, he, h1, h2⟩ => ⟨by rw [he, h1.2 (ndEq_iff.2 h)], h2⟩
section
variable {w : World} {D : List Nat} {b : Nat} {L : List NdV} {cs : List Int} {gen acc : Int} {pn pc : Option Addr} {cn cc : Nat} {A : Fr}
theorem aNodeR_c {v : NdV} {r : Int} (hs : SF w D [(b, aO L cs gen acc pn cn pc cc)] (famF L) [] (mW L cs pn cn pc cc) w) (hf : Fits L) (hr : r ≤ 9223372036854775807) (hl : L.length ≤ 274877906944) (hv : nodeV (allV L) r = v) :
    Calls Try.prog 31 #[.pointer (some ⟨b, 0, none⟩), .int .i64 r] w fun e w' => ∃ q : Option Addr × Option Addr, e = .returned (.agg ⟨atL v q.1 q.2⟩) ∧ True ∧
    SF w D [(b, aO L cs gen acc pn cn pc cc)] [] [] (mW L cs pn cn pc cc ++ [⟨q.2, prC v.ys, v.ys.length, 67, 2⟩, ⟨q.1, refsC v.xs, v.xs.length, 39, 1⟩]) w' := by
  have h2 := aNode_c hs hf r hr hl
  have h3 := fit_nodeV hf.all r
  rw [hv] at h2 h3
  have e : atL v = fun p q => (v.at_ p q).nd.cells := by
    funext p q
    simp only [atL, NdV.at_, Nd.cells, h3.brN, h3.prN]
  rw [e]
  exact h2
theorem aAllocN_c {n : Nd} {xs : List Int} {ys : List Pr} (hs : SF w D [(b, aO L cs gen acc pn cn pc cc)] [(n.brA, refsC xs), (n.prA, prC ys)] [] (mW L cs pn cn pc cc) w) (hf : Fits L) (e1 : n.brN = xs.length) (e2 : n.prN = ys.length) (h1 : xs.length ≤ 274877906944) (h2 : ys.length ≤ 274877906944)
    (hl : L.length ≤ 274877906944) (hc : cs.length ≤ 274877906944) :
    Calls Try.prog 33 #[.pointer (some ⟨b, 0, none⟩), n.v, .int .i64 0] w fun e w' => ∃ x : NdV × AX × List Int, e = .returned (.int .i64 ((L.length + 3 : Nat) : Int)) ∧
      (Fits (L ++ [x.1]) ∧ x.1.xs = xs ∧ x.1.ys = ys ∧ x.2.2.length ≤ cs.length + 1 ∧ ({ x.1.nd with main := 0, prev := 0, status := 0 } : Nd).c xs ys = ({ n with main := 0, prev := 0, status := 0 } : Nd).c xs ys) ∧
      SF w D [(b, aO (L ++ [x.1]) x.2.2 gen acc x.2.1.pn x.2.1.cn x.2.1.pc x.2.1.cc)] [] x.1.fr (mW (L ++ [x.1]) x.2.2 x.2.1.pn x.2.1.cn x.2.1.pc x.2.1.cc) w' :=
  (aAlloc_c 0 hs e1 e2 h1 h2 hl hc).mono fun e w' ⟨x, he, _, h⟩ => ⟨(alV n xs ys cs.length x, x, alCs n.kind cs 0), he, ⟨fun u hu => by
    rcases List.mem_append.1 hu with hu | hu
    · exact hf u hu
    · rw [List.mem_singleton.1 hu]; exact fit_al (by omega) (by omega), rfl, rfl, alCs_length.2, rfl⟩, h⟩
theorem aStateR_c {v : NdV} {k : Nat} (hs : SF w D [(b, aO L cs gen acc pn cn pc cc)] (famF L) [] (mW L cs pn cn pc cc) w) (hf : Fits L) (hl : L.length ≤ 274877906944) (hc : cs.length ≤ 274877906944) (hv : (allV L).getD k NdV.zero = v) (hk : k < L.length + 2) :
    Calls Try.prog 27 #[.pointer (some ⟨b, 0, none⟩)] w fun e w' => ∃ x : List NdV × (Option Addr × Nat) × (Option Addr × Nat), e = .returned (.agg ⟨[.slice x.2.1.1 x.1.length x.2.1.2, .slice x.2.2.1 cs.length x.2.2.2, .int .i64 gen]⟩) ∧
      (Fits x.1 ∧ x.1.length = L.length + 2 ∧ (x.1.getD k NdV.zero).c = v.c) ∧
    SF w D [(b, aO L cs gen acc pn cn pc cc)] [] (famF x.1) (mW L cs pn cn pc cc ++ [⟨x.2.1.1, nvC x.1, x.2.1.2, 48, 14⟩, ⟨x.2.2.1, refsC cs, x.2.2.2, 39, 1⟩]) w' :=
  (aState_c hs hf hl hc).mono fun e w' ⟨x, he, ⟨h1, h2⟩, h3⟩ => ⟨x, he, by
    have hlen : x.1.length = L.length + 2 := by
      have := congrArg List.length h1
      simpa [allV_length] using this
    refine ⟨h2, hlen, ?_⟩
    rw [← hv]
    exact (map_c (by rw [hlen, allV_length])).1 h1 k (by omega), h3⟩
theorem a2_c (hs : SF w D [(b, aO L cs gen acc pn cn pc cc)] (famF L) [] (mW L cs pn cn pc cc) w) (hf : Fits L) (hl : L.length ≤ 274877906944) (hc : cs.length ≤ 274877906944) :
    Calls Try.prog 35 #[.pointer (some ⟨b, 0, none⟩)] w fun e w' => ∃ x : Nat × List NdV × (Option Addr × Nat) × (Option Addr × Nat), e = .returned (.pointer (some ⟨x.1, 0, none⟩)) ∧ ((allV L).map NdV.c = x.2.1.map NdV.c ∧ Fits x.2.1) ∧
    SF w D ([(b, aO L cs gen acc pn cn pc cc)] ++ [(x.1, mO x.2.1 cs gen 0 x.2.2.1.1 x.2.2.1.2 x.2.2.2.1 x.2.2.2.2)]) [] (famF x.2.1) (mW L cs pn cn pc cc ++ mW x.2.1 cs x.2.2.1.1 x.2.2.1.2 x.2.2.2.1 x.2.2.2.2) w' := by
  refine enter Try.func35 Try.ntmps35 rfl rfl (aOpen hs) ?_
  simp only [mkS]
  all_goals (refine k_seq ?_)
  all_goals refine k_region ?_
  all_goals refine j_assignL (fun _ => ?_)
  all_goals refine l_nil ?_
  all_goals (refine k_seq ?_)
  all_goals refine k_region ?_
  all_goals refine j_move ?_
  all_goals (refine j_own (cMO (A0 := famF L) (hc := fun w hs => aState_c (L := L) (cs := cs) hs hf hl hc)) (fun x4 => ?_); try (refine l_fact (fun h4 => ?_)))
  all_goals refine j_build ?_
  all_goals refine j_box (fun x6 => ?_)
  all_goals refine j_assignL (fun _ => ?_)
  all_goals refine l_nil ?_
  all_goals
    refine k_retvF Try.results35 (.tmp (by conv => { lhs; whnf }) .nil) (fun w hw => ?_)
    refine ⟨(x6, x4.1, x4.2.1, x4.2.2), rfl, ⟨h4.1.symm, h4.2⟩, ?_⟩
    have h1 : SF _ _ [(b, aO L cs gen acc pn cn pc cc), (x6, mO x4.1 cs gen 0 x4.2.1.1 x4.2.1.2 x4.2.2.1 x4.2.2.2)] _ _ (mW L cs pn cn pc cc ++ mW x4.1 cs x4.2.1.1 x4.2.1.2 x4.2.2.1 x4.2.2.2) _ := hw.perm (List.Perm.swap _ _ _) (List.perm_append_comm (l₁ := mW L cs pn cn pc cc) (l₂ := mW x4.1 cs x4.2.1.1 x4.2.1.2 x4.2.2.1 x4.2.2.2))
    exact h1.ret (List.Sublist.refl _) (FSub.ofSub fun f hf => by simpa using hf) (List.Sublist.refl _)
end
end Go.Proofs.Ytmogngagpphnhaa
