/- Memories: the rule for calls that may change them. -/
import Derived.Test.YtpfjjagcmjmfpaaMst
set_option linter.unusedSimpArgs false
set_option linter.unusedVariables false
namespace Go.Proofs.Ytpfjjagcmjmfpaa
open Go Go.RowKit Go.Ct
/-- A memory (of the reference, of the program): its block and its own lists. -/
abbrev mO (L : List NdV) (cs : List Int) (gen acc : Int) (pn : Option Addr) (cn : Nat) (pc : Option Addr) (cc : Nat) : Obj := .cells ⟨[.slice pn L.length cn, .slice pc cs.length cc, .int .i64 gen, .int .i64 acc]⟩ 40 (0, 0)
abbrev aO (L : List NdV) (cs : List Int) (gen acc : Int) (pn : Option Addr) (cn : Nat) (pc : Option Addr) (cc : Nat) : Obj := .cells ⟨[.slice pn L.length cn, .slice pc cs.length cc, .int .i64 gen, .int .i64 acc]⟩ 69 (0, 0)
abbrev mW (L : List NdV) (cs : List Int) (pn : Option Addr) (cn : Nat) (pc : Option Addr) (cc : Nat) : List Ow := [⟨pn, nvC L, cn, 35, 14⟩, ⟨pc, refsC cs, cc, 29, 1⟩]
theorem mOpen {w0 w : World} {D : List Nat} {b : Nat} {L : List NdV} {cs : List Int} {gen acc : Int} {pn pc : Option Addr} {cn cc : Nat} {A F : Fr} (h : SF w0 D [(b, mO L cs gen acc pn cn pc cc)] A F (mW L cs pn cn pc cc) w) :
    SF w0 D [(b, .cells ⟨[.slice pn L.length cn, .slice pc cs.length cc, .int .i64 gen, .int .i64 acc]⟩ 40 (0, 0))] A F [⟨pn, nvC L, cn, 35, 14⟩, ⟨pc, refsC cs, cc, 29, 1⟩] w := h
theorem aOpen {w0 w : World} {D : List Nat} {b : Nat} {L : List NdV} {cs : List Int} {gen acc : Int} {pn pc : Option Addr} {cn cc : Nat} {A F : Fr} (h : SF w0 D [(b, aO L cs gen acc pn cn pc cc)] A F (mW L cs pn cn pc cc) w) :
    SF w0 D [(b, .cells ⟨[.slice pn L.length cn, .slice pc cs.length cc, .int .i64 gen, .int .i64 acc]⟩ 69 (0, 0))] A F [⟨pn, nvC L, cn, 35, 14⟩, ⟨pc, refsC cs, cc, 29, 1⟩] w := h
variable {S : List (Nat × Value)} {w0 w : World} {M : List Nat} {H : List (Nat × Obj)} {A F : Fr} {O : List Ow} {ty : TypeId} {pos : String} {af : Array Edge} {gd : Option (Nat × Bool)} {X : Type} {V : X → Value}
theorem cM {φ : X → Prop} {hs H' : List (Nat × Obj)} {os O' : List Ow} {hs' H1 : X → List (Nat × Obj)} {os' O1 : X → List Ow} {Fc F1 : X → Fr} {A0 : Fr} {is js : List Nat} {f : FuncId} {xs : List Operand} {at_ : Array TypeId} {vs : List Value} {dst : Option Nat}
    (ha : evL S xs = vs := by (repeat (first | exact evL_nil _ | (apply evL_cons; focus ((conv => { lhs; whnf }); try exact rfl)))); first | done | fail) (hp : plain Try.prog f = true := by kernel_rfl)
    (hc : ∀ w, SF w (Ks hs os) hs A0 [] os w → Calls Try.prog f ⟨vs⟩ w fun e w' => ∃ x, e = .returned (V x) ∧ φ x ∧ SF w (Ks hs os) (hs' x) [] (Fc x) (os' x) w')
    (hH : Ats H is hs H' := by (repeat (first | exact Ats.nil | (apply Ats.cons; (focus ((repeat (first | exact LAt.head | apply LAt.tail)); done)); simp only [delA]))); first | done | fail)
    (hO : Ats O js os O' := by (repeat (first | exact Ats.nil | (apply Ats.cons; (focus ((repeat (first | exact LAt.head | apply LAt.tail)); done)); simp only [delA]))); first | done | fail)
    (hA : HasAll A F O' A0 := by (repeat (first | exact HasAll.of (fun _ h => Or.inr (Or.inl h)) | exact HasAll.nil | (refine HasAll.cons (by first | exact Or.inl rfl | exact Or.inr (Or.inr (Or.inl (by simp))) | exact Or.inr (Or.inl (by simp)) | exact Or.inr (Or.inr (Or.inr (by simp)))) ?_))); first | done | fail)
    (hl1 : ∀ x, is.length = (hs' x).length := by intro x; exact rfl) (hl2 : ∀ x, js.length = (os' x).length := by intro x; exact rfl)
    (hH1 : ∀ x, putA is (hs' x) H' = H1 x := by intro x; first | (simp only [putA, insA]; exact rfl) | exact rfl) (hF1 : ∀ x, Fc x ++ F = F1 x := by intro x; first | (simp only [List.nil_append, List.cons_append]; exact rfl) | exact rfl) (hO1 : ∀ x, putA js (os' x) O' = O1 x := by intro x; simp only [putA, insA, mW]; exact rfl) :
    Loud Try.prog S (SF w0 M H A F O) ⟨dst, .call { callee := .value (.func f), args := ⟨xs⟩, argTypes := at_ }, ty, pos, af, gd⟩ X V (fun x w => φ x ∧ SF w0 M (H1 x) A (F1 x) (O1 x) w) :=
  loud_call (run_call hp ha) fun w hw => (hc w (hw.memStart hH hO hA)).mono fun _ _ ⟨x, he, hx, hs⟩ => ⟨x, he, hx, by
    have := hw.callMem (hs' := hs' x) (Hc := []) (os' := os' x) (Oc := []) hH hO (by simpa using hs) (hl1 x) (hl2 x)
    rw [← hH1 x, ← hF1 x, ← hO1 x]
    simpa using this⟩
/-- The same, the callee leaves own lists of its own too. -/
theorem cMO {φ : X → Prop} {hs H' : List (Nat × Obj)} {os O' : List Ow} {hs' H1 : X → List (Nat × Obj)} {os' Oc O1 : X → List Ow} {Fc F1 : X → Fr} {A0 : Fr} {is js : List Nat} {f : FuncId} {xs : List Operand} {at_ : Array TypeId} {vs : List Value} {dst : Option Nat}
    (ha : evL S xs = vs := by (repeat (first | exact evL_nil _ | (apply evL_cons; focus ((conv => { lhs; whnf }); try exact rfl)))); first | done | fail) (hp : plain Try.prog f = true := by kernel_rfl)
    (hc : ∀ w, SF w (Ks hs os) hs A0 [] os w → Calls Try.prog f ⟨vs⟩ w fun e w' => ∃ x, e = .returned (V x) ∧ φ x ∧ SF w (Ks hs os) (hs' x) [] (Fc x) (os' x ++ Oc x) w')
    (hH : Ats H is hs H' := by (repeat (first | exact Ats.nil | (apply Ats.cons; (focus ((repeat (first | exact LAt.head | apply LAt.tail)); done)); simp only [delA]))); first | done | fail)
    (hO : Ats O js os O' := by (repeat (first | exact Ats.nil | (apply Ats.cons; (focus ((repeat (first | exact LAt.head | apply LAt.tail)); done)); simp only [delA]))); first | done | fail)
    (hA : HasAll A F O' A0 := by (repeat (first | exact HasAll.of (fun _ h => Or.inr (Or.inl h)) | exact HasAll.nil | (refine HasAll.cons (by first | exact Or.inl rfl | exact Or.inr (Or.inr (Or.inl (by simp))) | exact Or.inr (Or.inl (by simp)) | exact Or.inr (Or.inr (Or.inr (by simp)))) ?_))); first | done | fail)
    (hl1 : ∀ x, is.length = (hs' x).length := by intro x; exact rfl) (hl2 : ∀ x, js.length = (os' x).length := by intro x; exact rfl)
    (hH1 : ∀ x, putA is (hs' x) H' = H1 x := by intro x; first | (simp only [putA, insA]; exact rfl) | exact rfl) (hF1 : ∀ x, Fc x ++ F = F1 x := by intro x; first | (simp only [List.nil_append, List.cons_append]; exact rfl) | exact rfl) (hO1 : ∀ x, Oc x ++ putA js (os' x) O' = O1 x := by intro x; simp only [putA, insA, mW, List.nil_append, List.cons_append]; exact rfl) :
    Loud Try.prog S (SF w0 M H A F O) ⟨dst, .call { callee := .value (.func f), args := ⟨xs⟩, argTypes := at_ }, ty, pos, af, gd⟩ X V (fun x w => φ x ∧ SF w0 M (H1 x) A (F1 x) (O1 x) w) :=
  loud_call (run_call hp ha) fun w hw => (hc w (hw.memStart hH hO hA)).mono fun _ _ ⟨x, he, hx, hs⟩ => ⟨x, he, hx, by
    have := hw.callMem (hs' := hs' x) (Hc := []) (os' := os' x) (Oc := Oc x) hH hO (by simpa using hs) (hl1 x) (hl2 x)
    rw [← hH1 x, ← hF1 x, ← hO1 x]
    simpa using this⟩
end Go.Proofs.Ytpfjjagcmjmfpaa
