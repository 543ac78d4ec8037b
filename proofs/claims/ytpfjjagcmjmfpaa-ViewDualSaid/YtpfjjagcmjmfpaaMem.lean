/- The engine, part 5: bits, strings, pairs, slices that are made, copied and appended to. -/
import Derived.Test.YtpfjjagcmjmfpaaFun
import Derived.Laws.StructEq
import Derived.Laws.Slices
import Derived.Deep.AppendSrc
import Derived.Laws.OwnMore
import Derived.Laws.CopyRow
import Derived.Great.BuildSlice
import Derived.Laws.Small
set_option linter.unusedSimpArgs false
set_option linter.unusedVariables false
namespace Go.Ct
open Go Go.RowKit

section
variable {P : Program} {n : Nat} {Q : Exit → Act → World → Prop} {ks : List CK} {S : List (Nat × Value)} {ops : Array Oper} {l : List Oper}
variable {w0 : World} {M : List Nat} {H : List (Nat × Obj)} {G : World → Prop}
variable {d : Nat} {ty : TypeId} {pos : String} {af : Array Edge} {gd : Option (Nat × Bool)} {x y : Operand} {t t' e : TypeId}

/-! ### Bits, as they are -/
def rAnd (k : IntKind) (a b : Int) : Int := k.wrap ((BitVec.ofInt k.bits a &&& BitVec.ofInt k.bits b).toNat : Int)
def rOr (k : IntKind) (a b : Int) : Int := k.wrap ((BitVec.ofInt k.bits a ||| BitVec.ofInt k.bits b).toNat : Int)
def rXor (k : IntKind) (a b : Int) : Int := k.wrap ((BitVec.ofInt k.bits a ^^^ BitVec.ofInt k.bits b).toNat : Int)
def rAndNot (k : IntKind) (a b : Int) : Int := k.wrap ((BitVec.ofInt k.bits a &&& ~~~ BitVec.ofInt k.bits b).toNat : Int)
def rShr (k : IntKind) (a b : Int) : Int := a.fdiv (2 ^ min b.toNat k.bits)
def rShl (k : IntKind) (a b : Int) : Int := k.wrap (a * 2 ^ min b.toNat k.bits)
section
variable {k k' : IntKind} {a b : Int}
theorem o_and (hx : ev S x = .int k a) (hy : ev S y = .int k b) : Quiet P S G ⟨some d, .binOp .and t x y t', ty, pos, af, gd⟩ (.int k (rAnd k a b)) := ⟨fun w _ => by simp [execOp, hx, hy, eqGuard_at_int, binOp, Op.intBits, rAnd]⟩
theorem o_or (hx : ev S x = .int k a) (hy : ev S y = .int k b) : Quiet P S G ⟨some d, .binOp .or t x y t', ty, pos, af, gd⟩ (.int k (rOr k a b)) := ⟨fun w _ => by simp [execOp, hx, hy, eqGuard_at_int, binOp, Op.intBits, rOr]⟩
theorem o_xor (hx : ev S x = .int k a) (hy : ev S y = .int k b) : Quiet P S G ⟨some d, .binOp .xor t x y t', ty, pos, af, gd⟩ (.int k (rXor k a b)) := ⟨fun w _ => by simp [execOp, hx, hy, eqGuard_at_int, binOp, Op.intBits, rXor]⟩
theorem o_andNot (hx : ev S x = .int k a) (hy : ev S y = .int k b) : Quiet P S G ⟨some d, .binOp .andNot t x y t', ty, pos, af, gd⟩ (.int k (rAndNot k a b)) := ⟨fun w _ => by simp [execOp, hx, hy, eqGuard_at_int, binOp, Op.intBits, rAndNot]⟩
theorem o_shr (hx : ev S x = .int k a) (hy : ev S y = .int k' b) (h0 : 0 ≤ b) : Quiet P S G ⟨some d, .binOp .shr t x y t', ty, pos, af, gd⟩ (.int k (rShr k a b)) := ⟨fun w _ => by
  have h : ¬ b < 0 := by omega
  simp [execOp, hx, hy, eqGuard_at_int, binOp, Op.shift, rShr, h]⟩
theorem o_shl (hx : ev S x = .int k a) (hy : ev S y = .int k' b) (h0 : 0 ≤ b) : Quiet P S G ⟨some d, .binOp .shl t x y t', ty, pos, af, gd⟩ (.int k (rShl k a b)) := ⟨fun w _ => by
  have h : ¬ b < 0 := by omega
  simp [execOp, hx, hy, eqGuard_at_int, binOp, Op.shift, rShl, h]⟩
theorem o_rem {a b : Int} (hx : ev S x = .int k a) (hy : ev S y = .int k b) (h0 : b ≠ 0) : Quiet P S G ⟨some d, .binOp .rem t x y t', ty, pos, af, gd⟩ (.int k (a.tmod b)) := ⟨fun w _ => by
  simp [execOp, hx, hy, eqGuard_at_int, binOp, Op.intDiv, h0]⟩
end
def intIs (P : Program) (t : TypeId) (k : IntKind) : Bool := match P.underlying t with | some (.int k') => k' == k | _ => false
theorem intIs_under {k : IntKind} (h : intIs P t k = true) : P.underlying t = some (.int k) := by
  unfold intIs at h
  cases hu : P.underlying t with
  | none => rw [hu] at h; cases h
  | some dd => rw [hu] at h; cases dd <;> simp at h; rw [h]
theorem o_convert {k k' k2 : IntKind} {a : Int} {s : TypeId} (hx : ev S x = .int k' a) (hs : intIs P s k2 = true) (ht : intIs P t k = true) : Quiet P S G ⟨some d, .convert s t x, ty, pos, af, gd⟩ (.int k (k.wrap a)) := ⟨fun w _ => by
  simp [execOp, hx, convert, run_underlying (intIs_under hs), run_underlying (intIs_under ht), Conv.intToInt]⟩

theorem o_convI {k' k2 : IntKind} {a : Int} {s : TypeId} (hx : ev S x = .int k' a) (hs : intIs P s k2 = true) (ht : intIs P t .i64 = true) (h : -9223372036854775808 ≤ a ∧ a ≤ 9223372036854775807) : Quiet P S G ⟨some d, .convert s t x, ty, pos, af, gd⟩ (.int .i64 a) := by
  have := o_convert (P := P) (G := G) (d := d) (ty := ty) (pos := pos) (af := af) (gd := gd) hx hs ht
  rwa [wrap_i64 h.1 h.2] at this
theorem o_convU {k' k2 : IntKind} {a : Int} {s : TypeId} (hx : ev S x = .int k' a) (hs : intIs P s k2 = true) (ht : intIs P t .u64 = true) (h : 0 ≤ a ∧ a ≤ 18446744073709551615) : Quiet P S G ⟨some d, .convert s t x, ty, pos, af, gd⟩ (.int .u64 a) := by
  have := o_convert (P := P) (G := G) (d := d) (ty := ty) (pos := pos) (af := af) (gd := gd) hx hs ht
  have e : IntKind.u64.wrap a = a := by
    have h2 : IntKind.u64.wrap a = a % 18446744073709551616 := by simp [IntKind.wrap, IntKind.signed, IntKind.bits]
    omega
  rwa [e] at this

theorem o_eqlB {a b : Bool} (hx : ev S x = .bool a) (hy : ev S y = .bool b) (ht : P.underlying t = some .bool) : Quiet P S G ⟨some d, .binOp .eql t x y t', ty, pos, af, gd⟩ (.bool (a == b)) := ⟨fun w _ => by simp [execOp, hx, hy, eqGuard_at_bool, run_eql_bool w t a b ht]⟩
theorem o_neqB {a b : Bool} (hx : ev S x = .bool a) (hy : ev S y = .bool b) (ht : P.underlying t = some .bool) : Quiet P S G ⟨some d, .binOp .neq t x y t', ty, pos, af, gd⟩ (.bool (a != b)) := ⟨fun w _ => by
  have h : (binOp .neq t (.bool a) (.bool b)).run P w = .ok (.bool (a != b)) w := by
    simp only [binOp]
    simp [Op.equal, Op.maxDepth, run_equalIn_bool w 9999 t a b ht]
    cases a <;> cases b <;> rfl
  simp [execOp, hx, hy, eqGuard_at_bool, h]⟩

/-! ### Strings -/
def sless (a b : ByteArray) : Bool := Op.bytesLess a.toList b.toList
theorem o_lssStr {a b : ByteArray} (hx : ev S x = .string a) (hy : ev S y = .string b) : Quiet P S G ⟨some d, .binOp .lss t x y t', ty, pos, af, gd⟩ (.bool (sless a b)) := ⟨fun w _ => by simp [execOp, hx, hy, eqGuard_at_string, binOp, Op.stringOp, sless]⟩
theorem o_leqStr {a b : ByteArray} (hx : ev S x = .string a) (hy : ev S y = .string b) : Quiet P S G ⟨some d, .binOp .leq t x y t', ty, pos, af, gd⟩ (.bool (sless a b || decide (a = b))) := ⟨fun w _ => by rw [← bs_beq]; simp [execOp, hx, hy, eqGuard_at_string, binOp, Op.stringOp, sless]⟩
theorem o_gtrStr {a b : ByteArray} (hx : ev S x = .string a) (hy : ev S y = .string b) : Quiet P S G ⟨some d, .binOp .gtr t x y t', ty, pos, af, gd⟩ (.bool (!(sless a b || decide (a = b)))) := ⟨fun w _ => by rw [← bs_beq]; simp [execOp, hx, hy, eqGuard_at_string, binOp, Op.stringOp, sless]⟩
theorem o_geqStr {a b : ByteArray} (hx : ev S x = .string a) (hy : ev S y = .string b) : Quiet P S G ⟨some d, .binOp .geq t x y t', ty, pos, af, gd⟩ (.bool (!sless a b)) := ⟨fun w _ => by simp [execOp, hx, hy, eqGuard_at_string, binOp, Op.stringOp, sless]⟩
theorem o_catStr {a b : ByteArray} (hx : ev S x = .string a) (hy : ev S y = .string b) (hl : a.size + b.size < 9223372036854775808) : Quiet P S G ⟨some d, .binOp .add t x y t', ty, pos, af, gd⟩ (.string (a ++ b)) := ⟨fun w _ => by
  have h : ¬ (((a.size : Int) + (b.size : Int)) > 9223372036854775807) := by omega
  simp [execOp, hx, hy, eqGuard_at_string, binOp, Op.stringOp]
  omega⟩

theorem bl_irrefl : ∀ a : List UInt8, Op.bytesLess a a = false
  | [] => rfl
  | x :: a => by simp [Op.bytesLess, bl_irrefl a]
theorem bl_asymm : ∀ a b : List UInt8, Op.bytesLess a b = true → Op.bytesLess b a = false
  | [], [], h => by simp [Op.bytesLess] at h
  | [], _ :: _, _ => rfl
  | _ :: _, [], h => by simp [Op.bytesLess] at h
  | x :: a, y :: b, h => by
    simp only [Op.bytesLess, Bool.or_eq_true, decide_eq_true_eq, Bool.and_eq_true, beq_iff_eq] at h
    simp only [Op.bytesLess, Bool.or_eq_false_iff, decide_eq_false_iff_not, Bool.and_eq_false_imp, beq_iff_eq]
    rcases h with h | ⟨h, h2⟩
    · exact ⟨fun h' => absurd h (UInt8.lt_asymm h'), fun e => by subst e; exact absurd h (UInt8.lt_irrefl _)⟩
    · subst h; exact ⟨UInt8.lt_irrefl _, fun _ => bl_asymm a b h2⟩
theorem bl_total : ∀ a b : List UInt8, Op.bytesLess a b = false → Op.bytesLess b a = false → a = b
  | [], [], _, _ => rfl
  | [], _ :: _, h, _ => by simp [Op.bytesLess] at h
  | _ :: _, [], _, h => by simp [Op.bytesLess] at h
  | x :: a, y :: b, h1, h2 => by
    simp only [Op.bytesLess, Bool.or_eq_false_iff, decide_eq_false_iff_not, Bool.and_eq_false_imp, beq_iff_eq] at h1 h2
    have e : x = y := UInt8.le_antisymm (UInt8.not_lt.1 h2.1) (UInt8.not_lt.1 h1.1)
    subst e
    rw [bl_total a b (h1.2 rfl) (h2.2 rfl)]
theorem bl_trans : ∀ a b c : List UInt8, Op.bytesLess a b = true → Op.bytesLess b c = true → Op.bytesLess a c = true
  | [], [], _, h, _ => by simp [Op.bytesLess] at h
  | _, _ :: _, [], _, h => by simp [Op.bytesLess] at h
  | [], _ :: _, _ :: _, _, _ => rfl
  | _ :: _, [], _, h, _ => by simp [Op.bytesLess] at h
  | x :: a, y :: b, z :: c, h1, h2 => by
    simp only [Op.bytesLess, Bool.or_eq_true, decide_eq_true_eq, Bool.and_eq_true, beq_iff_eq] at h1 h2 ⊢
    rcases h1 with h1 | ⟨rfl, h1⟩ <;> rcases h2 with h2 | ⟨rfl, h2⟩
    · exact .inl (UInt8.lt_trans h1 h2)
    · exact .inl h1
    · exact .inl h2
    · exact .inr ⟨rfl, bl_trans a b c h1 h2⟩
theorem sless_irrefl (a : ByteArray) : sless a a = false := bl_irrefl _
theorem sless_asymm {a b : ByteArray} (h : sless a b = true) : sless b a = false := bl_asymm _ _ h
theorem sless_total {a b : ByteArray} (h : sless a b = false) (h2 : sless b a = false) : a = b := toList_inj (bl_total _ _ h h2)
theorem sless_trans {a b c : ByteArray} (h : sless a b = true) (h2 : sless b c = true) : sless a c = true := bl_trans _ _ _ h h2
theorem sle_t {a b : ByteArray} (h : (sless a b || decide (a = b)) = true) : sless b a = false := by
  simp only [Bool.or_eq_true, decide_eq_true_eq] at h
  rcases h with h | rfl
  · exact sless_asymm h
  · exact sless_irrefl _
theorem sle_f {a b : ByteArray} (h : (sless a b || decide (a = b)) = false) : sless b a = true := by
  simp only [Bool.or_eq_false_iff, decide_eq_false_iff_not] at h
  cases hb : sless b a with
  | true => rfl
  | false => exact absurd (sless_total h.1 hb) h.2
theorem o_dec {k : Nat} (hx : ev S x = .int .i64 ((k : Nat) : Int)) (hy : ev S y = .int .i64 1) (hk : 1 ≤ k) (hk2 : k ≤ 9223372036854775807) :
    Quiet P S G ⟨some d, .binOp .sub t x y t', ty, pos, af, gd⟩ (.int .i64 ((k - 1 : Nat) : Int)) := by
  have := o_sub (P := P) (G := G) (d := d) (ty := ty) (pos := pos) (af := af) (gd := gd) (t := t) (t' := t') hx hy
  rw [wrap_i64 (by omega) (by omega)] at this
  rw [show (((k - 1 : Nat) : Int)) = (k : Int) - 1 by omega]
  exact this

theorem o_addR {a b : Int} (hx : ev S x = .int .i64 a) (hy : ev S y = .int .i64 b) (h : -9223372036854775808 ≤ a + b ∧ a + b ≤ 9223372036854775807) : Quiet P S G ⟨some d, .binOp .add t x y t', ty, pos, af, gd⟩ (.int .i64 (a + b)) := by
  have := o_add (P := P) (G := G) (d := d) (ty := ty) (pos := pos) (af := af) (gd := gd) (t := t) (t' := t') hx hy
  rwa [wrap_i64 h.1 h.2] at this
theorem o_subR {a b : Int} (hx : ev S x = .int .i64 a) (hy : ev S y = .int .i64 b) (h : -9223372036854775808 ≤ a - b ∧ a - b ≤ 9223372036854775807) : Quiet P S G ⟨some d, .binOp .sub t x y t', ty, pos, af, gd⟩ (.int .i64 (a - b)) := by
  have := o_sub (P := P) (G := G) (d := d) (ty := ty) (pos := pos) (af := af) (gd := gd) (t := t) (t' := t') hx hy
  rwa [wrap_i64 h.1 h.2] at this

/-! ### Pairs: a string and a number -/
def pairIs (P : Program) (t : TypeId) : Bool :=
  (match P.underlying t with
  | some (.struct fs) => (match fs.toList with
    | [f, g] => f.name != "_" && g.name != "_" && Nat.beq f.offset 0 && Nat.beq g.offset 1 && one P f.type && one P g.type && (match P.underlying f.type with | some .string => true | _ => false) && (match P.underlying g.type with | some (.int _) => true | _ => false)
    | _ => false)
  | _ => false) && !P.stoodInHeld t && !P.eqGuardType P.depth t
theorem run_part_one {f : TypeId} (h : one P f = true) {cs : Array Value} {off : Nat} {v : Value} (hv : cs[off]? = some v) (w : World) : (part f cs off).run P w = .ok v w := by
  simp [part, one_agg h, hv]
theorem pair_eq {a b : ByteArray} {u v : Int} {k : IntKind} (h : pairIs P t = true) (w : World) :
    (Op.equalIn 10000 t (.agg ⟨[.string a, .int k u]⟩) (.agg ⟨[.string b, .int k v]⟩)).run P w = .ok (decide (a = b ∧ u = v)) w ∧ P.eqGuardType P.depth t = false := by
  unfold pairIs at h
  cases hu : P.underlying t with
  | none => simp [hu] at h
  | some dd =>
    rw [hu] at h
    cases dd <;> simp only [Bool.false_and, Bool.false_eq_true] at h
    rename_i fs
    have hf : P.fieldsOf t = fs := by simp [Program.fieldsOf, hu]
    cases hl : fs.toList with
    | nil => simp [hl] at h
    | cons f r =>
      cases r with
      | nil => simp [hl] at h
      | cons g r =>
        cases r with
        | cons _ _ => simp [hl] at h
        | nil =>
          simp only [hl, Bool.and_eq_true, bne_iff_ne, ne_eq, Bool.not_eq_true'] at h
          obtain ⟨⟨⟨⟨⟨⟨⟨⟨⟨h1, h2⟩, h3⟩, h4⟩, h5⟩, h6⟩, h7⟩, h8⟩, h9⟩, h10⟩ := h
          replace h3 := Nat.eq_of_beq_eq_true h3
          replace h4 := Nat.eq_of_beq_eq_true h4
          refine ⟨?_, h10⟩
          have hsf : P.underlying f.type = some .string := by
            cases hq : P.underlying f.type with
            | none => simp [hq] at h7
            | some z => rw [hq] at h7; cases z <;> simp at h7; rfl
          obtain ⟨k', hsg⟩ : ∃ k', P.underlying g.type = some (.int k') := by
            cases hq : P.underlying g.type with
            | none => simp [hq] at h8
            | some z => rw [hq] at h8; cases z <;> simp at h8; exact ⟨_, rfl⟩
          rw [run_equalIn_agg w 9999 t _ _ (by rw [hf]; exact hu) h9, hf, hl]
          have p1 : ∀ (s : ByteArray) (z : Int) (w : World), (part f.type ⟨[.string s, .int k z]⟩ f.offset).run P w = .ok (.string s) w := fun s z w => by rw [h3]; exact run_part_one h5 rfl w
          have p2 : ∀ (s : ByteArray) (z : Int) (w : World), (part g.type ⟨[.string s, .int k z]⟩ g.offset).run P w = .ok (.int k z) w := fun s z w => by rw [h4]; exact run_part_one h6 rfl w
          have q1 : ∀ w : World, (Op.equalIn 9999 f.type (.string a) (.string b)).run P w = .ok (a.toList == b.toList) w := fun w => run_equalIn_string w 9998 f.type a b hsf
          have q2 : ∀ w : World, (Op.equalIn 9999 g.type (.int k u) (.int k v)).run P w = .ok (u == v) w := fun w => run_equalIn_int w 9998 g.type k k' u v hsg
          simp only [Op.eqFields, h1, h2, ne_eq, not_false_eq_true, if_true, Sem.run_bind, p1, p2, q1, q2, Result.andThen_ok, Sem.run_ite, Sem.run_pure]
          by_cases hab : a = b
          · subst hab
            by_cases huv : u = v
            · subst huv; simp
            · simp [huv]
          · have : (a.toList == b.toList) = false := by rw [bs_beq]; simp [hab]
            simp [this, hab]
theorem o_neqPr {a b : ByteArray} {u v : Int} {k : IntKind} (hx : ev S x = .agg ⟨[.string a, .int k u]⟩) (hy : ev S y = .agg ⟨[.string b, .int k v]⟩) (ht : pairIs P t = true) :
    Quiet P S G ⟨some d, .binOp .neq t x y t', ty, pos, af, gd⟩ (.bool (!decide (a = b ∧ u = v))) := ⟨fun w _ => by
  have h := pair_eq (a := a) (b := b) (u := u) (v := v) (k := k) ht w
  simp [execOp, hx, hy, run_eqGuard_agg w _ t _ _ _ _ h.2, run_neq_struct, h.1]⟩
theorem o_eqlPr {a b : ByteArray} {u v : Int} {k : IntKind} (hx : ev S x = .agg ⟨[.string a, .int k u]⟩) (hy : ev S y = .agg ⟨[.string b, .int k v]⟩) (ht : pairIs P t = true) :
    Quiet P S G ⟨some d, .binOp .eql t x y t', ty, pos, af, gd⟩ (.bool (decide (a = b ∧ u = v))) := ⟨fun w _ => by
  have h := pair_eq (a := a) (b := b) (u := u) (v := v) (k := k) ht w
  simp [execOp, hx, hy, run_eqGuard_agg w _ t _ _ _ _ h.2, run_eql_struct, h.1]⟩
theorem o_seq {a b : ByteArray} (hx : ev S x = .string a) (hy : ev S y = .string b) : Quiet P S G ⟨some d, .binOp .eql t x y t', ty, pos, af, gd⟩ (.bool (decide (a = b))) := by rw [← bs_beq]; exact o_eqlStr hx hy
theorem o_sne {a b : ByteArray} (hx : ev S x = .string a) (hy : ev S y = .string b) : Quiet P S G ⟨some d, .binOp .neq t x y t', ty, pos, af, gd⟩ (.bool (!decide (a = b))) := by rw [← bs_bne]; exact o_neqStr hx hy
theorem ndec_t {p : Prop} [Decidable p] (h : (!decide p) = true) : ¬ p := of_decide_eq_false (by revert h; cases decide p <;> simp)
theorem ndec_f {p : Prop} [Decidable p] (h : (!decide p) = false) : p := of_decide_eq_true (by revert h; cases decide p <;> simp)
theorem pne_t {a b : ByteArray} {u v : Int} (h : (!decide (a = b ∧ u = v)) = true) : ¬ (a = b ∧ u = v) := of_decide_eq_false (by revert h; cases decide (a = b ∧ u = v) <;> simp)
theorem pne_f {a b : ByteArray} {u v : Int} (h : (!decide (a = b ∧ u = v)) = false) : a = b ∧ u = v := of_decide_eq_true (by revert h; cases decide (a = b ∧ u = v) <;> simp)
theorem not_t {b : Bool} (h : (!b) = true) : b = false := by simpa using h
theorem not_f {b : Bool} (h : (!b) = false) : b = true := by simpa using h
theorem cv1 {p : Prop} [Decidable p] {g : Prop} (h : (p) → g) (e : decide p = true) : g := h (of_decide_eq_true e)
theorem cv2 {p : Prop} [Decidable p] {g : Prop} (h : (¬ p) → g) (e : decide p = false) : g := h (of_decide_eq_false e)
theorem cvb {p : Prop} [Decidable p] {g : Prop} (h : (¬ p) → g) (e : (!decide p) = true) : g := h (ndec_t e)
theorem cvc {p : Prop} [Decidable p] {g : Prop} (h : (p) → g) (e : (!decide p) = false) : g := h (ndec_f e)
theorem cv3 {a b : ByteArray} {g : Prop} (h : a = b → g) (e : (a.toList == b.toList) = true) : g := h (sbeq_t e)
theorem cv4 {a b : ByteArray} {g : Prop} (h : a ≠ b → g) (e : (a.toList == b.toList) = false) : g := h (sbeq_f e)
theorem cv5 {a b : ByteArray} {g : Prop} (h : a ≠ b → g) (e : (a.toList != b.toList) = true) : g := h (sbne_t e)
theorem cv6 {a b : ByteArray} {g : Prop} (h : a = b → g) (e : (a.toList != b.toList) = false) : g := h (sbne_f e)
theorem cv7 {a b : Int} {g : Prop} (h : a = b → g) (e : (a == b) = true) : g := h (ibeq_t e)
theorem cv8 {a b : Int} {g : Prop} (h : a ≠ b → g) (e : (a == b) = false) : g := h (ibeq_f e)
theorem cv9 {a b : Int} {g : Prop} (h : a ≠ b → g) (e : (a != b) = true) : g := h (ibne_t e)
theorem cva {a b : Int} {g : Prop} (h : a = b → g) (e : (a != b) = false) : g := h (ibne_f e)
theorem cvd {b : Bool} {g : Prop} (h : b = false → g) (e : (!b) = true) : g := h (not_t e)
theorem cve {b : Bool} {g : Prop} (h : b = true → g) (e : (!b) = false) : g := h (not_f e)

/-! ### Part of a slice -/
theorem o_sliceH {a : Option Addr} {m c k sz : Nat} {kk : IntKind} (hx : ev S x = .slice a m c) (hy : ev S y = .int kk ((k : Nat) : Int)) (ht : P.underlying t = some (.slice e)) (hs : (P.info? e).map (·.size) = some sz) (hk : k ≤ c) :
    Quiet P S G ⟨some d, .slice t x none (some y) none, ty, pos, af, gd⟩ (.slice a k c) := ⟨fun w _ => by
  have h0 : (if c = 0 then a else a.map (·.add 0)) = a := by
    split
    · rfl
    · cases a <;> simp [Addr.add_zero']
  have he : P.elem t = e := by simp [Program.elem, ht]
  have ht' : P.underlying t = some (.slice (P.elem t)) := by rw [he]; exact ht
  cases hi : P.info? e with
  | none => simp [hi] at hs
  | some i =>
    have := run_slice_h (P := P) w t a m c ht' kk (k : Int) (by omega) (by omega)
    simp [execOp, hx, hy, run_sliceAt_slice w t _ _ _ _ ht', this, he, sizeOf, typeInfo, hi, sliced, h0]⟩

/-! ### Slices that are made -/
/-- The zero cells of a made slice. -/
def made (zc : List Value) (k : Nat) : List Value := (madeCells ⟨zc⟩ (k * zc.length)).toList
theorem made_length (zc : List Value) (k : Nat) : (made zc k).length = k * zc.length := by simp [made, size_madeCells]
/-- What a made slice needs of the element's type: its zero cells, its size, its bytes. -/
structure ElemIs (P : Program) (t e : TypeId) (zc : List Value) : Prop where
  sl : P.underlying t = some (.slice e)
  z : ∃ i z, P.info? e = some i ∧ i.zero = some z ∧ z.cells = ⟨zc⟩ ∧ i.size = zc.length ∧ i.bytes ≤ 256
theorem o_makeSlice {k : Nat} {k1 k2 : IntKind} {zc : List Value} (hx : ev S x = .int k1 ((k : Nat) : Int)) (hy : ev S y = .int k2 ((k : Nat) : Int)) (he : ElemIs P t e zc) (hk : k ≤ 1099511627776) :
    Loud P S (St w0 M H) ⟨some d, .makeSlice t x y, ty, pos, af, gd⟩ Nat (fun b => .slice (some ⟨b, 0, none⟩) k k) (fun b => St w0 M ((b, .cells ⟨made zc k⟩ e (0, 0)) :: H)) :=
  loud_value fun w hw => by
    obtain ⟨i, z, hi, hz, hzc, hs, hb⟩ := he.z
    have hbb : (i.bytes : Int) * (k : Int) ≤ 281474976710656 := by
      have : i.bytes * k ≤ 256 * 1099511627776 := Nat.mul_le_mul hb hk
      have h2 : ((i.bytes * k : Nat) : Int) ≤ 281474976710656 := by omega
      rwa [Int.natCast_mul] at h2
    have hr := run_make (P := P) w t e i z he.sl hi hz k1 k2 (k : Int) (k : Int) (by omega) (Int.le_refl _) hbb (by omega)
    refine ⟨w.heap.size, _, ?_, hw.alloc _⟩
    simp only [execOp, hx, hy, Sem.run_bind, hr, Result.andThen_ok, Sem.run_pure, Int.toNat_natCast, hzc, hs]
    rfl
theorem run_copy_any (w : World) (dT sT ty elem : TypeId) (g o dLen dCap : Nat) (a : Addr) (sLen sCap : Nat) (cur : Array Value) (t : TypeId) (cs : List Value) (s : Nat)
    (hu : P.underlying dT = some (.slice elem)) (hs : (P.info? elem).map (·.size) = some s)
    (hg : w.heap[g]? = some (.cells cur t (0, 0))) (hn : cs.length = Nat.min sLen dLen * s)
    (hsrc : ∀ j v, cs[j]? = some v → w.cell? (a.add j) = some v) (hfit : o + cs.length ≤ cur.size) (h1 : ∀ v ∈ cs, v.oneCell' = true) :
    (Builtin.copy_ #[dT, sT] ty #[.slice (some ⟨g, o, none⟩) dLen dCap, .slice (some a) sLen sCap]).run P w =
      .ok (goInt (Nat.min sLen dLen)) (w.setRow g (cur.toList.take o ++ cs ++ cur.toList.drop (o + cs.length)).toArray) := by
  have hl := run_loadCells_list (P := P) w a cs hsrc
  have hst := run_storeCells_at P g o t cs 0 cur w hg (by simpa using hfit) h1
  cases hq : P.info? elem with
  | none => simp [hq] at hs
  | some i =>
    have hi : i.size = s := by simpa [hq] using hs
    simp [Builtin.copy_, run_underlying hu, Builtin.lenOf, Builtin.firstCells, sizeOf, typeInfo, hq, hi, ← hn, hl, hst]
theorem Cl.cells {w : World} {a : Option Addr} {cs : List Value} (h : Cl w a cs) : ∀ j v, cs[j]? = some v → w.cell? ((⟨ablk a, aoff a, none⟩ : Addr).add j) = some v := fun j v hj => by
  rw [Addr.add_lit]; exact (h.at_ j v hj).2
/-- copy into a known block. -/
theorem o_copy {b o dLen dCap sLen sCap i s : Nat} {a : Option Addr} {cur cs cs' : List Value} {T t2 : TypeId} {H' : List (Nat × Obj)} (hx : ev S x = .slice (some ⟨b, o, none⟩) dLen dCap) (hb : At H i b (.cells ⟨cur⟩ T (0, 0)))
    (hy : ev S y = .slice a sLen sCap) (ha : a = some ⟨ablk a, aoff a, none⟩) (hcl : ∀ w, St w0 M H w → Cl w a cs) (ht : P.underlying t = some (.slice e)) (hs : (P.info? e).map (·.size) = some s) (hn : cs.length = Nat.min sLen dLen * s)
    (hfit : o + cs.length ≤ cur.length) (h1 : cs.all (·.oneCell') = true) (hcs : cur.take o ++ cs ++ cur.drop (o + cs.length) = cs') (hH : setAt H i (.cells ⟨cs'⟩ T (0, 0)) = H') :
    Loud P S (St w0 M H) ⟨some d, .call { callee := .builtin .copy, args := #[x, y], argTypes := #[t, t2] }, ty, pos, af, gd⟩ Unit (fun _ => .int .i64 (Nat.min sLen dLen : Nat)) (fun _ => St w0 M H') :=
  loud_value fun w hw => by
    subst hcs hH
    have hbw := hw.at hb
    have hr := run_copy_any (P := P) w t t2 ty e b o dLen dCap ⟨ablk a, aoff a, none⟩ sLen sCap ⟨cur⟩ T cs s ht hs hbw hn (hcl w hw).cells (by simpa using hfit) (by simpa using h1)
    refine ⟨(), w.setRow b ⟨cur.take o ++ cs ++ cur.drop (o + cs.length)⟩, ?_, hw.write hb rfl rfl rfl (by simp) (fun k hk => setRow_other w b k _ hk) (setRow_heap w b ⟨cur⟩ _ T (0, 0) hbw)⟩
    rw [← ha] at hr
    simp only [execOp, resolve, invoke, builtin, Sem.run_bind, Sem.run_pure, Result.andThen_ok, List.map_toArray, List.map_cons, List.map_nil, hx, hy, hr]
    rfl

def flatP : List (Nat × Value) → List Value
  | [] => []
  | (_, v) :: r => cellsL v ++ flatP r
theorem flatP_eq : ∀ r : List (Nat × Value), (r.map Prod.snd).flatMap (fun v => v.cells.toList) = flatP r
  | [] => rfl
  | (_, v) :: r => by simp [flatP, cellsL_eq, ← flatP_eq r]
theorem zip_parts : ∀ (r : List (Nat × Value)) (k : Nat), r.map Prod.fst = List.range' k r.length → ((r.map Prod.snd).zipIdx k).map (fun x => (x.2, x.1)) = r
  | [], _, _ => rfl
  | (i, v) :: r, k, h => by
    simp only [List.map_cons, List.length_cons, List.range'_succ, List.cons.injEq] at h
    simp only [List.map_cons, List.zipIdx_cons, zip_parts r (k + 1) h.2, h.1]
theorem o_buildSlice {len : Nat} {parts : List (Nat × Operand)} {ps : List (Nat × Value)} {zc cs : List Value} (he : ElemIs P t e zc) (hv : opParts S parts = ps) (hlen : ps.length = len) (hidx : ps.map Prod.fst = List.range' 0 ps.length) (h1 : (ps.all fun p => Nat.beq (cellsL p.2).length zc.length) = true)
    (hpos : (Nat.blt 0 len && Nat.blt 0 zc.length && Nat.ble (len * zc.length) 16777216) = true) (hcs : flatP ps = cs) :
    Loud P S (St w0 M H) ⟨some d, .buildSlice t len ⟨parts⟩, ty, pos, af, gd⟩ Nat (fun b => .slice (some ⟨b, 0, none⟩) len len) (fun b => St w0 M ((b, .cells ⟨cs⟩ e (0, 0)) :: H)) :=
  loud_value fun w hw => by
    subst hcs hlen
    obtain ⟨i, z, hi, hz, hzc, hs, hb⟩ := he.z
    simp only [Bool.and_eq_true] at hpos
    obtain ⟨⟨p1, p2⟩, p3⟩ := hpos
    replace p1 := Nat.le_of_ble_eq_true p1
    replace p2 := Nat.le_of_ble_eq_true p2
    replace p3 := Nat.le_of_ble_eq_true p3
    have p4 : 0 < ps.length * zc.length := Nat.mul_pos p1 p2
    have e1 : (Array.map (fun x => match x with | (i, x) => (i, ev S x)) (⟨parts⟩ : Array (Nat × Operand))).toList = ps := by rw [← hv, opParts_eq]; simp
    have hf := Great.fill_whole (s := zc.length) p2 (ps.map Prod.snd) ((Array.range (ps.length * i.size)).map (z.cells[· % z.cells.size]!)) (fun v hv => by
      obtain ⟨p, hp, rfl⟩ := List.mem_map.1 hv
      have := Nat.eq_of_beq_eq_true (List.all_eq_true.1 h1 p hp)
      rw [← this, ← cellsL_eq]; rfl) (by simp [hs])
    rw [zip_parts ps 0 hidx, flatP_eq] at hf
    have hr := run_buildSlice (P := P) w t e ps.length (Array.map (fun x => match x with | (i, x) => (i, ev S x)) ⟨parts⟩) ⟨flatP ps⟩ i z he.sl hi hz (by rw [hs]; omega) (by rw [hs]; omega) (by rw [e1, hs]; rw [hs] at hf; exact hf)
    refine ⟨w.heap.size, _, ?_, hw.alloc _⟩
    simp only [execOp, Sem.run_bind, hr, Result.andThen_ok, Sem.run_pure]

/-! ### A new base -/
theorem st_rebase {w : World} (h : St w0 M H w) : St w (H.map Prod.fst) H w :=
  ⟨rfl, rfl, rfl, Nat.le_refl _, fun _ _ _ => rfl, h.has, fun p hp => .inl (List.mem_map.2 ⟨p, hp, rfl⟩), h.nodup⟩
theorem l_base {Φ : World → Prop} (h : ∀ w1, St w0 M H w1 → Φ w1 → JL P n Q ks ops l S (St w1 (H.map Prod.fst) H)) : JL P n Q ks ops l S (fun w => Φ w ∧ St w0 M H w) :=
  ⟨fun hS w hw => (h w hw.2 hw.1).run hS w (st_rebase hw.2)⟩
theorem k_base {Φ : World → Prop} (h : ∀ w1, St w0 M H w1 → Φ w1 → JK P n Q ks S (St w1 (H.map Prod.fst) H)) : JK P n Q ks S (fun w => Φ w ∧ St w0 M H w) :=
  ⟨fun hS w hw => (h w hw.2 hw.1).run hS w (st_rebase hw.2)⟩
theorem Cl.keepF {w : World} {a : Option Addr} {cs : List Value} (hc : Cl w0 a cs) (h : St w0 M H w) (hM : cs ≠ [] → ablk a ∉ M) : Cl w a cs := by
  by_cases hcs : cs = []
  · subst hcs; exact Cl.nil w a
  · exact hc.keep h (hM hcs)
/-- A call by a contract with facts on the world behind it, and ahead of it. -/
theorem c_callW {X : Type} {V : X → Value} {Φ : X → World → World → Prop} {f : FuncId} {as : List Operand} {at_ : Array TypeId} {vs : List Value} {dst : Option Nat} (hp : plain P f = true) (ha : evL S as = vs)
    (hc : ∀ w, St w0 M H w → Calls P f ⟨vs⟩ w fun e w' => ∃ x, e = .returned (V x) ∧ Φ x w w' ∧ St w [] [] w') :
    Loud P S (St w0 M H) ⟨dst, .call { callee := .value (.func f), args := ⟨as⟩, argTypes := at_ }, ty, pos, af, gd⟩ X V (fun x w => (∃ w1, St w0 M H w1 ∧ Φ x w1 w) ∧ St w0 M H w) :=
  loud_call (run_call hp ha) fun w hw => (hc w hw).mono fun _ _ ⟨x, he, hx, hs⟩ => ⟨x, he, ⟨w, hw, hx⟩, by simpa using hw.call0 hs⟩
theorem refsC_length (l : List Int) : (refsC l).length = l.length := by simp [refsC]
/-- A copy: it lies in a new block, if it has an element. -/
structure Copy (w w' : World) (p : Option Addr) (cs : List Value) (e : TypeId) : Prop where
  cl : Cl w' p cs
  nil : cs = [] → p = none
  blk : cs ≠ [] → p = some ⟨ablk p, 0, none⟩ ∧ w.heap.size ≤ ablk p ∧ w'.heap[ablk p]? = some (.cells ⟨cs⟩ e (0, 0))
theorem fresh_key {w : World} (h : St w0 M H w) {b : Nat} (hb : w.heap.size ≤ b) : b ∉ H.map Prod.fst := fun hm => by
  obtain ⟨q, hq, rfl⟩ := List.mem_map.1 hm
  have := lt_of_heap (h.has q hq)
  omega
theorem Copy.lift {w1 w2 w : World} {p : Option Addr} {cs : List Value} {e : TypeId} {H' : List (Nat × Obj)} (h : Copy w1 w2 p cs e) (s1 : St w0 M H w1) (hw : St w2 (H.map Prod.fst) H' w) : Copy w0 w p cs e :=
  ⟨h.cl.keepF hw fun hc => fresh_key s1 (h.blk hc).2.1, h.nil, fun hc => ⟨(h.blk hc).1, Nat.le_trans s1.size (h.blk hc).2.1, by rw [hw.keep _ (lt_of_heap (h.blk hc).2.2) (fresh_key s1 (h.blk hc).2.1)]; exact (h.blk hc).2.2⟩⟩
/-- The same rule, the facts on the cells general. -/
theorem o_loadW {a : Option Addr} {cs : List Value} {q : Nat} {v : Value} (hx : ev S x = .pointer (some ⟨ablk a, aoff a + q, none⟩)) (ht : one P t = true) (hcl : ∀ w, G w → Cl w a cs) (hq : cs[q]? = some v) :
    Quiet P S G ⟨some d, .load t x, ty, pos, af, gd⟩ v := ⟨fun w hw => by
  have hc := ((hcl w hw).at_ q v hq).2
  simp [execOp, hx, Instr.loadAt, Instr.sureAddr, loadVar, one_agg ht, hc]⟩
theorem Cl.take {w : World} {a : Option Addr} {cs cs' : List Value} (h : Cl w a cs) (hp : cs' <+: cs) : Cl w a cs' := by
  obtain ⟨r, rfl⟩ := hp
  refine ⟨fun j u hj => h.at_ j u ?_⟩
  rw [List.getElem?_append_left (List.getElem?_eq_some_iff.1 hj).1]
  exact hj
theorem prC_append : ∀ (a b : List Pr), prC (a ++ b) = prC a ++ prC b
  | [], _ => rfl
  | _ :: a, b => by simp [prC, prC_append a b]
theorem Cl.takeP {w : World} {a : Option Addr} {l : List Pr} (h : Cl w a (prC l)) (k : Nat) : Cl w a (prC (l.take k)) := by
  refine h.take ⟨prC (l.drop k), ?_⟩
  rw [← prC_append, List.take_append_drop]
theorem Cl.takeR {w : World} {a : Option Addr} {l : List Int} (h : Cl w a (refsC l)) (k : Nat) : Cl w a (refsC (l.take k)) := by
  refine h.take ⟨refsC (l.drop k), ?_⟩
  simp [refsC]
theorem oneCells_prC : ∀ l : List Pr, (prC l).all (·.oneCell') = true
  | [] => rfl
  | _ :: l => by simpa [prC, Value.oneCell'] using oneCells_prC l
theorem oneCells_refsC (l : List Int) : (refsC l).all (·.oneCell') = true := by simp [refsC, Value.oneCell']
theorem fieldSl {a : Option Addr} {q k off : Nat} (hx : ev S x = .pointer (some ⟨ablk a, q, none⟩)) (hf : fieldIs P t k = some off) : Quiet P S G ⟨some d, .fieldAddr t x k, ty, pos, af, gd⟩ (.pointer (some ⟨ablk a, q + off, none⟩)) := o_fieldAddr hx hf
end
end Go.Ct
