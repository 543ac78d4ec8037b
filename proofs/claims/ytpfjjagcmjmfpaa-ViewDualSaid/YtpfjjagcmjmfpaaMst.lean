/- The engine, part 12: a callee that may change several of its caller's blocks and own lists. -/
import Derived.Test.YtpfjjagcmjmfpaaJoin
import Derived.Test.YtpfjjagcmjmfpaaNv
set_option linter.unusedSimpArgs false
set_option linter.unusedVariables false
namespace Go.Ct
open Go Go.RowKit
section
variable {α : Type}
inductive LAt : List α → Nat → α → Prop where
  | head {a : α} {l : List α} : LAt (a :: l) 0 a
  | tail {a b : α} {l : List α} {i : Nat} : LAt l i b → LAt (a :: l) (i + 1) b
def delA : List α → Nat → List α
  | [], _ => []
  | _ :: r, 0 => r
  | p :: r, i + 1 => p :: delA r i
def insA : List α → Nat → α → List α
  | l, 0, a => a :: l
  | p :: r, i + 1, a => p :: insA r i a
  | [], _ + 1, a => [a]
/-- es are elements of l, each at its number in what the ones before have left; r is the rest. -/
inductive Ats : List α → List Nat → List α → List α → Prop where
  | nil {l : List α} : Ats l [] [] l
  | cons {l es r : List α} {i : Nat} {a : α} {js : List Nat} : LAt l i a → Ats (delA l i) js es r → Ats l (i :: js) (a :: es) r
def putA : List Nat → List α → List α → List α
  | i :: js, a :: es, r => insA (putA js es r) i a
  | _, _, r => r
theorem LAt.perm {l : List α} {i : Nat} {a : α} (h : LAt l i a) : l.Perm (a :: delA l i) := by
  induction h with
  | head => exact List.Perm.refl _
  | tail _ ih => exact (ih.cons _).trans (List.Perm.swap _ _ _)
theorem insA_perm (a : α) : ∀ (l : List α) (i : Nat), (insA l i a).Perm (a :: l)
  | l, 0 => by cases l <;> exact List.Perm.refl _
  | [], _ + 1 => List.Perm.refl _
  | p :: r, i + 1 => ((insA_perm a r i).cons p).trans (List.Perm.swap _ _ _)
theorem Ats.perm {l es r : List α} {js : List Nat} (h : Ats l js es r) : l.Perm (es ++ r) := by
  induction h with
  | nil => exact List.Perm.refl _
  | cons h _ ih => exact h.perm.trans (ih.cons _)
theorem putA_perm : ∀ (js : List Nat) (es r : List α), js.length = es.length → (putA js es r).Perm (es ++ r)
  | [], [], _, _ => List.Perm.refl _
  | i :: js, a :: es, r, h => (insA_perm a _ i).trans ((putA_perm js es r (by simpa using h)).cons a)
  | [], _ :: _, _, h => by simp at h
  | _ :: _, [], _, h => by simp at h
theorem Ats.len {l es r : List α} {js : List Nat} (h : Ats l js es r) : js.length = es.length := by
  induction h with
  | nil => rfl
  | cons _ _ ih => simp [ih]
end
section
variable {P : Program} {S : List (Nat × Value)} {w0 w w' : World} {M : List Nat} {H H' hs : List (Nat × Obj)} {A F : Fr} {O O' os : List Ow} {is js : List Nat}
/-- A list that is known in the frame. -/
def Has (A F : Fr) (O : List Ow) (f : Option Addr × List Value) : Prop := f.2 = [] ∨ f ∈ A ∨ f ∈ F ∨ ∃ o ∈ O, o.p = f.1 ∧ o.cs = f.2
inductive HasAll (A F : Fr) (O : List Ow) : Fr → Prop where
  | nil : HasAll A F O []
  | cons {f : Option Addr × List Value} {r : Fr} (h : Has A F O f) (hr : HasAll A F O r) : HasAll A F O (f :: r)
  | of {A0 : Fr} (h : ∀ f ∈ A0, Has A F O f) : HasAll A F O A0
theorem HasAll.get {A0 : Fr} (h : HasAll A F O A0) : ∀ f ∈ A0, Has A F O f := by
  induction h with
  | nil => intro f hf; exact (List.not_mem_nil hf).elim
  | cons h _ ih =>
    intro f hf
    rcases List.mem_cons.1 hf with rfl | hf
    · exact h
    · exact ih f hf
  | of h => exact h
theorem FAt.of_mem {a : Option Addr} {cs : List Value} : ∀ {F : Fr}, (a, cs) ∈ F → FAt F a cs
  | [], h => (List.not_mem_nil h).elim
  | (b, d) :: F, h => by
    rcases List.mem_cons.1 h with h | h
    · cases h; exact .head
    · exact .tail (FAt.of_mem h)
theorem FSub.ofSub {F : Fr} : ∀ {F' : Fr}, (∀ f ∈ F', f ∈ F) → FSub F F'
  | [], _ => .nil
  | (a, cs) :: F', h => .cons (FAt.of_mem (h _ (List.mem_cons_self ..))) (FSub.ofSub fun f hf => h f (List.mem_cons_of_mem _ hf))
theorem SF.clH (h : SF w0 M H A F O w) {f : Option Addr × List Value} (hf : Has A F O f) : Cl w f.1 f.2 := by
  rcases hf with h0 | h1 | h1 | ⟨o, ho, h1, h2⟩
  · rw [h0]; exact Cl.nil _ _
  · exact (h.old f h1).1
  · exact (h.new f h1).1
  · rw [← h1, ← h2]; exact (h.own o ho).1.cl
theorem SF.stAt {w0 w : World} {M : List Nat} {H : List (Nat × Obj)} {A F : Fr} {O : List Ow} (h : SF w0 M H A F O w) {L : List NdV} {cs : List Int} {pn pc : Option Addr} (h1 : Has A F O (pn, nvC L)) (h2 : Has A F O (pc, refsC cs)) (h3 : ∀ f ∈ famF L, Has A F O f) (hf : Fits L) : StAt w L cs pn pc :=
  ⟨h.clH h1, h.clH h2, fun f hm => h.clH (h3 f hm), hf⟩
/-- The start of a callee that may change the blocks hs and the own lists os, and sees the lists A0. -/
theorem SF.memStart (h : SF w0 M H A F O w) (hH : Ats H is hs H') (hO : Ats O js os O') {A0 : Fr} (hA : HasAll A F O' A0) : SF w (Ks hs os) hs A0 [] os w := by
  have pH := hH.perm
  have pO := hO.perm
  have h1 := h.perm pH.symm pO.symm
  have hnd := (Ks_perm pH.symm pO.symm).nodup_iff.2 h.dis
  have sub : (Ks hs os).Sublist (Ks (hs ++ H') (os ++ O')) := by
    unfold Ks
    rw [List.map_append, List.flatMap_append]
    exact (List.sublist_append_left _ _).append (List.sublist_append_left _ _)
  have nd1 : (Ks hs os).Nodup := hnd.sublist sub
  have kperm : (Ks (hs ++ H') (os ++ O')).Perm (Ks hs os ++ Ks H' O') := by
    unfold Ks
    rw [List.map_append, List.flatMap_append]
    simp only [List.append_assoc]
    refine List.Perm.append_left _ ?_
    rw [← List.append_assoc, ← List.append_assoc]
    exact List.Perm.append_right _ List.perm_append_comm
  have disj : ∀ b ∈ Ks hs os, b ∉ Ks H' O' := fun b hb hm => (List.nodup_append.1 (kperm.nodup_iff.1 hnd)).2.2 b hb b hm rfl
  refine ⟨⟨rfl, rfl, rfl, Nat.le_refl _, fun _ _ _ => rfl, fun p hp => h1.st.has p (List.mem_append_left _ hp), fun p hp => .inl (mem_Ks.2 (.inl ⟨p, hp, rfl⟩)), (List.nodup_append.1 nd1).1⟩, fun f hf => ?_, fun _ h => (List.not_mem_nil h).elim, fun o ho => ⟨(h1.own o (List.mem_append_left _ ho)).1, fun b hb => .inr (mem_Ks.2 (.inr ⟨o, ho, hb⟩))⟩, nd1⟩
  have hg := hA.get f hf
  refine ⟨?_, fun hc hm => ?_⟩
  · rcases hg with h0 | h2 | h2 | ⟨o, ho, h2, h3⟩
    · rw [h0]; exact Cl.nil _ _
    · exact (h.old f h2).1
    · exact (h.new f h2).1
    · rw [← h2, ← h3]; exact (h1.own o (List.mem_append_right _ ho)).1.cl
  · rcases hg with h0 | h2 | h2 | ⟨o, ho, h2, h3⟩
    · exact hc h0
    · exact (h1.old f h2).2 hc (sub.subset hm)
    · exact ((h1.new f h2).2 hc).1 (sub.subset hm)
    · have hok := (h1.own o (List.mem_append_right _ ho)).1
      have hb := hok.blk (by rw [h3]; exact hc)
      exact disj _ hm (mem_Ks.2 (.inr ⟨o, ho, by rw [hb, h2]; exact List.mem_singleton.2 rfl⟩))
/-- Behind it. -/
theorem SF.callMem (h : SF w0 M H A F O w) (hH : Ats H is hs H') (hO : Ats O js os O') {hs' Hc : List (Nat × Obj)} {os' Oc : List Ow} {Fc : Fr}
    (hc : SF w (Ks hs os) (hs' ++ Hc) [] Fc (os' ++ Oc) w') (h1 : is.length = hs'.length) (h2 : js.length = os'.length) :
    SF w0 M (Hc ++ putA is hs' H') A (Fc ++ F) (Oc ++ putA js os' O') w' := by
  have pH := hH.perm
  have pO := hO.perm
  have hp := h.perm pH.symm pO.symm
  have qH := putA_perm is hs' H' h1
  have qO := putA_perm js os' O' h2
  have kperm : ∀ (a c : List (Nat × Obj)) (b d : List Ow), (Ks (a ++ c) (b ++ d)).Perm (Ks a b ++ Ks c d) := fun a c b d => by
    unfold Ks
    rw [List.map_append, List.flatMap_append]
    simp only [List.append_assoc]
    refine List.Perm.append_left _ ?_
    rw [← List.append_assoc, ← List.append_assoc]
    exact List.Perm.append_right _ List.perm_append_comm
  have nd0 := (kperm hs H' os O').nodup_iff.1 hp.dis
  have disj : ∀ b ∈ Ks hs os, b ∉ Ks H' O' := fun b hb hm => (List.nodup_append.1 nd0).2.2 b hb b hm rfl
  have sub : ∀ b ∈ Ks hs' os', b ∈ Ks (hs' ++ Hc) (os' ++ Oc) := fun b hb => (kperm hs' Hc os' Oc).mem_iff.2 (List.mem_append_left _ hb)
  have nd1 : (Ks (hs' ++ H') (os' ++ O')).Nodup := by
    rw [(kperm hs' H' os' O').nodup_iff]
    refine List.nodup_append.2 ⟨(List.nodup_append.1 ((kperm hs' Hc os' Oc).nodup_iff.1 hc.dis)).1, (List.nodup_append.1 nd0).2.1, fun a ha b hb e => ?_⟩
    subst e
    rcases hc.newM a (sub a ha) with h3 | h3
    · have := hp.lt a ((kperm hs H' os O').mem_iff.2 (List.mem_append_right _ hb))
      omega
    · exact disj a h3 hb
  have r := hp.callM (D := Ks hs os) (Hm := hs') (Hc := Hc) (H1 := hs' ++ H') (Fc := Fc) (Om := os') (Oc := Oc) (O1 := os' ++ O') hc (fun b hb => (kperm hs H' os O').mem_iff.2 (List.mem_append_left _ hb))
    (fun p hpm => by
      rcases List.mem_append.1 hpm with h3 | h3
      · exact .inl h3
      · exact .inr ⟨List.mem_append_right _ h3, fun hm => disj _ hm (mem_Ks.2 (.inl ⟨p, h3, rfl⟩))⟩)
    (fun o ho => by
      rcases List.mem_append.1 ho with h3 | h3
      · exact .inl h3
      · exact .inr ⟨List.mem_append_right _ h3, fun b hb hm => disj _ hm (mem_Ks.2 (.inr ⟨o, h3, hb⟩))⟩)
    nd1
  exact r.perm (List.Perm.append_left _ qH) (List.Perm.append_left _ qO)
/-- Other lists, all known. -/
theorem SF.subF (h : SF w0 M H A F O w) {F' : Fr} (hF : ∀ f ∈ F', f.2 = [] ∨ f ∈ F) : SF w0 M H A F' O w := ⟨h.st, h.old, fun f hf => by
  rcases hF f hf with h0 | h1
  · exact ⟨by rw [h0]; exact Cl.nil _ _, fun hc => absurd h0 hc⟩
  · exact h.new f h1, h.own, h.dis⟩
theorem SF.swapO {o1 o2 : Ow} (h : SF w0 M H A F (o1 :: o2 :: O) w) : SF w0 M H A F (o2 :: o1 :: O) w := h.perm (List.Perm.refl _) (List.Perm.swap _ _ _)
theorem SF.nil2 (h : SF w0 M H A F O w) (T1 : TypeId) (s1 : Nat) (T2 : TypeId) (s2 : Nat) : SF w0 M H A F (O ++ [⟨none, [], 0, T1, s1⟩, ⟨none, [], 0, T2, s2⟩]) w := ((h.nilOwn T2 s2).nilOwn T1 s1).perm (List.Perm.refl _) List.perm_append_comm
theorem SF.toEnd {o1 o2 : Ow} (h : SF w0 M H A F (o1 :: o2 :: O) w) : SF w0 M H A F (O ++ [o1, o2]) w := h.perm (List.Perm.refl _) List.perm_append_comm
theorem SF.pushF {L : List NdV} {v : NdV} {F' : Fr} (h : SF w0 M H A F O w) (h1 : (v.nd.brA, refsC v.xs) ∈ F) (h2 : (v.nd.prA, prC v.ys) ∈ F) (h3 : ∀ f ∈ famF L, f ∈ F) : SF w0 M H A (famF (L ++ [v])) O w := h.subF fun f hf => by
  rw [famF_append] at hf
  rcases List.mem_append.1 hf with hf | hf
  · exact .inr (h3 f hf)
  · simp only [famF, List.flatMap_cons, List.flatMap_nil, List.append_nil, NdV.fr, List.mem_cons, List.not_mem_nil, or_false] at hf
    rcases hf with rfl | rfl
    · exact .inr h1
    · exact .inr h2
theorem FSub.all {F : Fr} : FSub F F := FSub.ofSub fun _ h => h
theorem SF.callA (h : SF w0 M H A F O w) : Ks H O ⊆ Ks H O := fun _ h => h

/-- A memory: where it lies, what it holds. -/
structure Ms where
  L : List NdV
  cs : List Int
  gen : Int
  acc : Int
  pn : Option Addr
  cn : Nat
  pc : Option Addr
  cc : Nat
abbrev Ms.obj (T : TypeId) (m : Ms) : Obj := .cells ⟨[.slice m.pn m.L.length m.cn, .slice m.pc m.cs.length m.cc, .int .i64 m.gen, .int .i64 m.acc]⟩ T (0, 0)
abbrev Ms.ow (N C : TypeId) (m : Ms) : List Ow := [⟨m.pn, nvC m.L, m.cn, N, 14⟩, ⟨m.pc, refsC m.cs, m.cc, C, 1⟩]
end
end Go.Ct
