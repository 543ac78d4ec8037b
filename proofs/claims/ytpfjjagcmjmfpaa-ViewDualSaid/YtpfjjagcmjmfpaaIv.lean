/- Calls through interfaces. -/
import Derived.Test.YtpfjjagcmjmfpaaArN
set_option linter.unusedSimpArgs false
set_option linter.unusedVariables false
namespace Go.Ct
open Go Go.RowKit
section
variable {P : Program} {S : List (Nat × Value)} {G : World → Prop} {d : Nat} {ty t t2 : TypeId} {pos : String} {af : Array Edge} {gd : Option (Nat × Bool)} {x y : Operand} {dst : Option Nat} {v : Value}
theorem run_inv {f : FuncId} {xs : List Operand} {at_ : Array TypeId} {vs : List Value} {t : TypeId} {pv : Value} {name : String} (hx : ev S x = .iface t pv) (ha : evL S xs = vs) (hm : ∀ w, (callMethod (.iface t pv) name ⟨vs⟩).run P w = .ok (.enter f ⟨pv :: vs⟩) w) (w : World) :
    (execOp (ev S) ⟨dst, .call { callee := .invoke x name, args := ⟨xs⟩, argTypes := at_ }, ty, pos, af, gd⟩).run P w = .ok (.enter f ⟨pv :: vs⟩) w := by
  subst ha
  have hm' : (xs.map (ev S)).toArray = ⟨evL S xs⟩ := by rw [evL_map]
  have := hm w
  simp only [execOp, resolve, hx]
  simp [invoke, hm', this]
theorem o_mkI (hx : ev S x = v) (h : ∀ w, (Instr.makeInterface t v).run P w = .ok (.iface t v) w) : Quiet P S G ⟨some d, .makeInterface t x, ty, pos, af, gd⟩ (.iface t v) := ⟨fun w _ => by
  simp [execOp, hx, h w]⟩
theorem o_eqlNI {pv : Value} (hx : ev S x = .iface t2 pv) (hy : ev S y = .nilIface) (h : ∀ w, (binOp .eql t (.iface t2 pv) .nilIface).run P w = .ok (.bool false) w) {t' : TypeId} : Quiet P S G ⟨some d, .binOp .eql t x y t', ty, pos, af, gd⟩ (.bool false) := ⟨fun w _ => by
  simp [execOp, hx, hy, h w, eqGuard]⟩
theorem o_nilCheckI {b off : Nat} (hx : ev S x = .iface t (.pointer (some ⟨b, off, none⟩))) : Quiet P S G ⟨some d, .nilCheck x, ty, pos, af, gd⟩ (.iface t (.pointer (some ⟨b, off, none⟩))) := ⟨fun w _ => by
  simp [execOp, hx]⟩
end
end Go.Ct
namespace Go.Proofs.Ytpfjjagcmjmfpaa
open Go Go.RowKit Go.Ct
theorem inv_Node (p : Option Addr) (a : Value) (w : World) : (callMethod (.iface 41 (.pointer p)) "Node" #[a]).run Try.prog w = .ok (.enter 30 #[.pointer p, a]) w := by kernel_rfl
theorem inv_Alloc (p : Option Addr) (a b : Value) (w : World) : (callMethod (.iface 41 (.pointer p)) "Alloc" #[a, b]).run Try.prog w = .ok (.enter 11 #[.pointer p, a, b]) w := by kernel_rfl
theorem mkI_arena (p : Option Addr) (w : World) : (Instr.makeInterface 41 (.pointer p)).run Try.prog w = .ok (.iface 41 (.pointer p)) w := by kernel_rfl
theorem eqNI_arena (p : Option Addr) (w : World) : (binOp .eql 72 (.iface 41 (.pointer p)) .nilIface).run Try.prog w = .ok (.bool false) w := by kernel_rfl
section
variable {S : List (Nat × Value)} {w0 w : World} {M : List Nat} {H : List (Nat × Obj)} {A F : Fr} {O : List Ow} {ty : TypeId} {pos : String} {af : Array Edge} {gd : Option (Nat × Bool)} {X : Type} {V : X → Value}
/-- A call of a method of an interface's value, that may change known blocks and own lists. -/
theorem cMI {φ : X → Prop} {hs H' : List (Nat × Obj)} {os O' : List Ow} {hs' H1 : X → List (Nat × Obj)} {os' O1 : X → List Ow} {Fc F1 : X → Fr} {A0 : Fr} {is js : List Nat} {f : FuncId} {recv : Operand} {t : TypeId} {pv : Value} {name : String} {xs : List Operand} {at_ : Array TypeId} {vs : List Value} {dst : Option Nat}
    (hx : ev S recv = .iface t pv := by (conv => { lhs; whnf }))
    (ha : evL S xs = vs := by (repeat (first | exact evL_nil _ | (apply evL_cons; focus ((conv => { lhs; whnf }); try exact rfl)))); first | done | fail) (hm : ∀ w, (callMethod (.iface t pv) name ⟨vs⟩).run Try.prog w = .ok (.enter f ⟨pv :: vs⟩) w)
    (hc : ∀ w, SF w (Ks hs os) hs A0 [] os w → Calls Try.prog f ⟨pv :: vs⟩ w fun e w' => ∃ x, e = .returned (V x) ∧ φ x ∧ SF w (Ks hs os) (hs' x) [] (Fc x) (os' x) w')
    (hH : Ats H is hs H' := by (repeat (first | exact Ats.nil | (apply Ats.cons; (focus ((repeat (first | exact LAt.head | apply LAt.tail)); done)); simp only [delA]))); first | done | fail)
    (hO : Ats O js os O' := by (repeat (first | exact Ats.nil | (apply Ats.cons; (focus ((repeat (first | exact LAt.head | apply LAt.tail)); done)); simp only [delA]))); first | done | fail)
    (hA : HasAll A F O' A0 := by (repeat (first | exact HasAll.of (fun _ h => Or.inr (Or.inl h)) | exact HasAll.nil | (refine HasAll.cons (by first | exact Or.inl rfl | exact Or.inr (Or.inr (Or.inl (by simp))) | exact Or.inr (Or.inl (by simp)) | exact Or.inr (Or.inr (Or.inr (by simp)))) ?_))); first | done | fail)
    (hl1 : ∀ x, is.length = (hs' x).length := by intro x; exact rfl) (hl2 : ∀ x, js.length = (os' x).length := by intro x; exact rfl)
    (hH1 : ∀ x, putA is (hs' x) H' = H1 x := by intro x; first | (simp only [putA, insA]; exact rfl) | exact rfl) (hF1 : ∀ x, Fc x ++ F = F1 x := by intro x; first | (simp only [List.nil_append, List.cons_append]; exact rfl) | exact rfl) (hO1 : ∀ x, putA js (os' x) O' = O1 x := by intro x; simp only [putA, insA, mW]; exact rfl) :
    Loud Try.prog S (SF w0 M H A F O) ⟨dst, .call { callee := .invoke recv name, args := ⟨xs⟩, argTypes := at_ }, ty, pos, af, gd⟩ X V (fun x w => φ x ∧ SF w0 M (H1 x) A (F1 x) (O1 x) w) :=
  loud_call (run_inv hx ha hm) fun w hw => (hc w (hw.memStart hH hO hA)).mono fun _ _ ⟨x, he, hx, hs⟩ => ⟨x, he, hx, by
    have := hw.callMem (hs' := hs' x) (Hc := []) (os' := os' x) (Oc := []) hH hO (by simpa using hs) (hl1 x) (hl2 x)
    rw [← hH1 x, ← hF1 x, ← hO1 x]
    simpa using this⟩
/-- A call of a method of an interface's value, that may change known blocks and own lists, and leaves new own lists. -/
theorem cMIO {φ : X → Prop} {hs H' : List (Nat × Obj)} {os O' : List Ow} {hs' H1 : X → List (Nat × Obj)} {os' Oc O1 : X → List Ow} {Fc F1 : X → Fr} {A0 : Fr} {is js : List Nat} {f : FuncId} {recv : Operand} {t : TypeId} {pv : Value} {name : String} {xs : List Operand} {at_ : Array TypeId} {vs : List Value} {dst : Option Nat}
    (hx : ev S recv = .iface t pv := by (conv => { lhs; whnf }))
    (ha : evL S xs = vs := by (repeat (first | exact evL_nil _ | (apply evL_cons; focus ((conv => { lhs; whnf }); try exact rfl)))); first | done | fail) (hm : ∀ w, (callMethod (.iface t pv) name ⟨vs⟩).run Try.prog w = .ok (.enter f ⟨pv :: vs⟩) w)
    (hc : ∀ w, SF w (Ks hs os) hs A0 [] os w → Calls Try.prog f ⟨pv :: vs⟩ w fun e w' => ∃ x, e = .returned (V x) ∧ φ x ∧ SF w (Ks hs os) (hs' x) [] (Fc x) (os' x ++ Oc x) w')
    (hH : Ats H is hs H' := by (repeat (first | exact Ats.nil | (apply Ats.cons; (focus ((repeat (first | exact LAt.head | apply LAt.tail)); done)); simp only [delA]))); first | done | fail)
    (hO : Ats O js os O' := by (repeat (first | exact Ats.nil | (apply Ats.cons; (focus ((repeat (first | exact LAt.head | apply LAt.tail)); done)); simp only [delA]))); first | done | fail)
    (hA : HasAll A F O' A0 := by (repeat (first | exact HasAll.of (fun _ h => Or.inr (Or.inl h)) | exact HasAll.nil | (refine HasAll.cons (by first | exact Or.inl rfl | exact Or.inr (Or.inr (Or.inl (by simp))) | exact Or.inr (Or.inl (by simp)) | exact Or.inr (Or.inr (Or.inr (by simp)))) ?_))); first | done | fail)
    (hl1 : ∀ x, is.length = (hs' x).length := by intro x; exact rfl) (hl2 : ∀ x, js.length = (os' x).length := by intro x; exact rfl)
    (hH1 : ∀ x, putA is (hs' x) H' = H1 x := by intro x; first | (simp only [putA, insA]; exact rfl) | exact rfl) (hF1 : ∀ x, Fc x ++ F = F1 x := by intro x; first | (simp only [List.nil_append, List.cons_append]; exact rfl) | exact rfl) (hO1 : ∀ x, Oc x ++ putA js (os' x) O' = O1 x := by intro x; simp only [putA, insA, mW, List.nil_append, List.cons_append]; exact rfl) :
    Loud Try.prog S (SF w0 M H A F O) ⟨dst, .call { callee := .invoke recv name, args := ⟨xs⟩, argTypes := at_ }, ty, pos, af, gd⟩ X V (fun x w => φ x ∧ SF w0 M (H1 x) A (F1 x) (O1 x) w) :=
  loud_call (run_inv hx ha hm) fun w hw => (hc w (hw.memStart hH hO hA)).mono fun _ _ ⟨x, he, hx, hs⟩ => ⟨x, he, hx, by
    have := hw.callMem (hs' := hs' x) (Hc := []) (os' := os' x) (Oc := Oc x) hH hO (by simpa using hs) (hl1 x) (hl2 x)
    rw [← hH1 x, ← hF1 x, ← hO1 x]
    simpa using this⟩
end
end Go.Proofs.Ytpfjjagcmjmfpaa
