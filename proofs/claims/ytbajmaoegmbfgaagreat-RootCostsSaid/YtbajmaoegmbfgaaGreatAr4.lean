/- Alloc of the two memories. -/
import Derived.Test.YtbajmaoegmbfgaaGreatGMst
set_option linter.unusedSimpArgs false
set_option linter.unusedVariables false
namespace Go.Proofs.YtbajmaoegmbfgaaGreat
open Go.RowKit Go.Ct
variable{w:World}{D:List Nat}{b:Nat}{L:List aP}{cs:List Int}{gen acc:Int}{pn pc:Option Addr}{cn cc:Nat}{A:Fr}
theorem Au {n : Nd} {xs : List Int} {ys : List Pr} (init : Int) (hs : SF w D [(b, mO L cs gen acc pn cn pc cc)] [(n.brA, aH xs), (n.prA, cZ ys)] [] (mW L cs pn cn pc cc) w) (e1 : n.brN = xs.length) (e2 : n.prN = ys.length) (h1 : xs.length ≤ 274877906944) (h2 : ys.length ≤ 274877906944)
    (hl : L.length ≤ 274877906944) (hc : cs.length ≤ 274877906944) :
    Calls Tryz.prog 92 #[.pointer (some ⟨b, 0, none⟩), n.v, .int .i64 init] w fun e w' => ∃ x : AX, e = .returned (.int .i64 ((L.length + 1 : Nat) : Int)) ∧ True ∧
      SF w D [(b, mO (L ++ [jU n xs ys cs.length x]) (fN n.kind cs init) gen acc x.pn x.cn x.pc x.cc)] [] (jU n xs ys cs.length x).fr (mW (L ++ [jU n xs ys cs.length x]) (fN n.kind cs init) x.pn x.cn x.pc x.cc) w' := by
  refine enter Tryz.func92 Tryz.ntmps92 rfl rfl (zD hs) ?_
  simp only [cA]
  simp only [Nd.v, Nd.cells]
  refine J0 ?_; refine bK (fun x4 => ?_); refine J1 ?_; refine J0 ?_; refine aF ?_; refine kJ (fun _ => ?_); refine aF ?_; refine kJ (fun _ => ?_); refine vF ?_; refine B7 ?_; refine aG ?_; refine dD ?_; refine lQ ?_
  refine bD (fun c12 => ?_) (fun c12 => ?_)
  · try (exfalso; omega)
    refine Jc ?_; refine aD (cM (hc := fun w hs => lJ init hs hc)) (fun x16 h16 => ?_); refine vF ?_; refine fG ?_; refine J0 ?_; refine iS (fun x32 => ?_); refine J3 ?_; (refine fE (fun x35 => ?_); try (refine eN (fun h35 => ?_))); refine vF ?_; refine J0 ?_; refine iS (fun x37 => ?_); refine J3 ?_; (refine fE (fun x40 => ?_); try (refine eN (fun h40 => ?_))); refine vF ?_; refine aS ?_; refine eG [(0, []), (1, []), (2, []), (3, []), (4, []), (5, []), (6, []), (7, [5]), (8, []), (9, []), (10, []), (11, []), (12, [])] ?_; refine aT ?_; refine yN ?_; refine bO ?_; refine cB (h := fun x49 => ?_); ((refine cO (i := 8) (hq := (bG.eM (fV (sz := 14) rf rf yX (by rw [dY]) fin rfl rfl Kz rfl (by decide) gH om) vJ)) (h := fun x50 => ?_); try (refine eI (fun h50 => ?_)))); refine J4 ?_; refine aU ?_; refine yR ?_; refine I1 ?_; refine R3 ?_; refine J1 ?_
    refine aQ Tryz.results92 (fun w hw => ?_)
    have h2 := (hw.freeze .head).freeze .head
    simp only [rM, List.nil_append] at h2
    have h3 := h2.aX (H' := [(b, _)]) (F' := [(x35.1, aH xs), (x40.1, cZ ys)]) (O' := [_, _])
    exact ⟨⟨x50.1, x50.2, x16.1, x16.2, x35.1, x35.2, x40.1, x40.2⟩, rfl, trivial, by simpa [mO, aO, mW, jU, aP.fr, fN, kD, Nd.cells, *] using h3⟩
  · try (exfalso; omega)
    refine aS ?_; refine lQ ?_
    refine bD (fun c18 => ?_) (fun c18 => ?_)
    · try (exfalso; omega)
      refine aW ?_
      refine bD (fun c18 => ?_) (fun c18 => ?_)
      · try (exfalso; omega)
        refine Jc ?_; refine aD (cM (hc := fun w hs => lJ init hs hc)) (fun x24 h24 => ?_); refine vF ?_; refine fG ?_; refine J0 ?_; refine iS (fun x32 => ?_); refine J3 ?_; (refine fE (fun x35 => ?_); try (refine eN (fun h35 => ?_))); refine vF ?_; refine J0 ?_; refine iS (fun x37 => ?_); refine J3 ?_; (refine fE (fun x40 => ?_); try (refine eN (fun h40 => ?_))); refine vF ?_; refine aS ?_; refine eG [(0, []), (1, []), (2, []), (3, []), (4, []), (5, []), (6, []), (7, [5]), (8, []), (9, []), (10, []), (11, []), (12, [])] ?_; refine aT ?_; refine yN ?_; refine bO ?_; refine cB (h := fun x49 => ?_); ((refine cO (i := 8) (hq := (bG.eM (fV (sz := 14) rf rf yX (by rw [dY]) fin rfl rfl Kz rfl (by decide) gH om) vJ)) (h := fun x50 => ?_); try (refine eI (fun h50 => ?_)))); refine J4 ?_; refine aU ?_; refine yR ?_; refine I1 ?_; refine R3 ?_; refine J1 ?_
        refine aQ Tryz.results92 (fun w hw => ?_)
        have h2 := (hw.freeze .head).freeze .head
        simp only [rM, List.nil_append] at h2
        have h3 := h2.aX (H' := [(b, _)]) (F' := [(x35.1, aH xs), (x40.1, cZ ys)]) (O' := [_, _])
        exact ⟨⟨x50.1, x50.2, x24.1, x24.2, x35.1, x35.2, x40.1, x40.2⟩, rfl, trivial, by simpa [mO, aO, mW, jU, aP.fr, fN, kD, Nd.cells, *] using h3⟩
      · try (exfalso; omega)
    · try (exfalso; omega)
      refine lQ ?_
      refine bD (fun c18 => ?_) (fun c18 => ?_)
      · try (exfalso; omega)
        refine aW ?_
        refine bD (fun c18 => ?_) (fun c18 => ?_)
        · try (exfalso; omega)
          refine Jc ?_; refine aD (cM (hc := fun w hs => lJ init hs hc)) (fun x24 h24 => ?_); refine vF ?_; refine fG ?_; refine J0 ?_; refine iS (fun x32 => ?_); refine J3 ?_; (refine fE (fun x35 => ?_); try (refine eN (fun h35 => ?_))); refine vF ?_; refine J0 ?_; refine iS (fun x37 => ?_); refine J3 ?_; (refine fE (fun x40 => ?_); try (refine eN (fun h40 => ?_))); refine vF ?_; refine aS ?_; refine eG [(0, []), (1, []), (2, []), (3, []), (4, []), (5, []), (6, []), (7, [5]), (8, []), (9, []), (10, []), (11, []), (12, [])] ?_; refine aT ?_; refine yN ?_; refine bO ?_; refine cB (h := fun x49 => ?_); ((refine cO (i := 8) (hq := (bG.eM (fV (sz := 14) rf rf yX (by rw [dY]) fin rfl rfl Kz rfl (by decide) gH om) vJ)) (h := fun x50 => ?_); try (refine eI (fun h50 => ?_)))); refine J4 ?_; refine aU ?_; refine yR ?_; refine I1 ?_; refine R3 ?_; refine J1 ?_
          refine aQ Tryz.results92 (fun w hw => ?_)
          have h2 := (hw.freeze .head).freeze .head
          simp only [rM, List.nil_append] at h2
          have h3 := h2.aX (H' := [(b, _)]) (F' := [(x35.1, aH xs), (x40.1, cZ ys)]) (O' := [_, _])
          exact ⟨⟨x50.1, x50.2, x24.1, x24.2, x35.1, x35.2, x40.1, x40.2⟩, rfl, trivial, by simpa [mO, aO, mW, jU, aP.fr, fN, kD, Nd.cells, *] using h3⟩
        · try (exfalso; omega)
      · try (exfalso; omega)
        refine dG ?_; refine Rq ?_
        refine bD (fun c18 => ?_) (fun c18 => ?_)
        · try (exfalso; omega)
          refine Jc ?_; refine aD (cM (hc := fun w hs => lJ init hs hc)) (fun x24 h24 => ?_); refine vF ?_; refine fG ?_; refine J0 ?_; refine iS (fun x32 => ?_); refine J3 ?_; (refine fE (fun x35 => ?_); try (refine eN (fun h35 => ?_))); refine vF ?_; refine J0 ?_; refine iS (fun x37 => ?_); refine J3 ?_; (refine fE (fun x40 => ?_); try (refine eN (fun h40 => ?_))); refine vF ?_; refine aS ?_; refine eG [(0, []), (1, []), (2, []), (3, []), (4, []), (5, []), (6, []), (7, [5]), (8, []), (9, []), (10, []), (11, []), (12, [])] ?_; refine aT ?_; refine yN ?_; refine bO ?_; refine cB (h := fun x49 => ?_); ((refine cO (i := 8) (hq := (bG.eM (fV (sz := 14) rf rf yX (by rw [dY]) fin rfl rfl Kz rfl (by decide) gH om) vJ)) (h := fun x50 => ?_); try (refine eI (fun h50 => ?_)))); refine J4 ?_; refine aU ?_; refine yR ?_; refine I1 ?_; refine R3 ?_; refine J1 ?_
          refine aQ Tryz.results92 (fun w hw => ?_)
          have h2 := (hw.freeze .head).freeze .head
          simp only [rM, List.nil_append] at h2
          have h3 := h2.aX (H' := [(b, _)]) (F' := [(x35.1, aH xs), (x40.1, cZ ys)]) (O' := [_, _])
          exact ⟨⟨x50.1, x50.2, x24.1, x24.2, x35.1, x35.2, x40.1, x40.2⟩, rfl, trivial, by simpa [mO, aO, mW, jU, aP.fr, fN, kD, Nd.cells, *] using h3⟩
        · try (exfalso; omega)
          refine lQ ?_
          refine bD (fun c26 => ?_) (fun c26 => ?_)
          · try (exfalso; omega)
            refine Jc ?_; refine aD (cM (hc := fun w hs => lJ init hs hc)) (fun x30 h30 => ?_); refine vF ?_; refine fG ?_; refine J0 ?_; refine iS (fun x32 => ?_); refine J3 ?_; (refine fE (fun x35 => ?_); try (refine eN (fun h35 => ?_))); refine vF ?_; refine J0 ?_; refine iS (fun x37 => ?_); refine J3 ?_; (refine fE (fun x40 => ?_); try (refine eN (fun h40 => ?_))); refine vF ?_; refine aS ?_; refine eG [(0, []), (1, []), (2, []), (3, []), (4, []), (5, []), (6, []), (7, [5]), (8, []), (9, []), (10, []), (11, []), (12, [])] ?_; refine aT ?_; refine yN ?_; refine bO ?_; refine cB (h := fun x49 => ?_); ((refine cO (i := 8) (hq := (bG.eM (fV (sz := 14) rf rf yX (by rw [dY]) fin rfl rfl Kz rfl (by decide) gH om) vJ)) (h := fun x50 => ?_); try (refine eI (fun h50 => ?_)))); refine J4 ?_; refine aU ?_; refine yR ?_; refine I1 ?_; refine R3 ?_; refine J1 ?_
            refine aQ Tryz.results92 (fun w hw => ?_)
            have h2 := (hw.freeze .head).freeze .head
            simp only [rM, List.nil_append] at h2
            have h3 := h2.aX (H' := [(b, _)]) (F' := [(x35.1, aH xs), (x40.1, cZ ys)]) (O' := [_, _])
            exact ⟨⟨x50.1, x50.2, x30.1, x30.2, x35.1, x35.2, x40.1, x40.2⟩, rfl, trivial, by simpa [mO, aO, mW, jU, aP.fr, fN, kD, Nd.cells, *] using h3⟩
          · try (exfalso; omega)
            refine pG ?_; refine J0 ?_; refine iS (fun x32 => ?_); refine J3 ?_; (refine fE (fun x35 => ?_); try (refine eN (fun h35 => ?_))); refine vF ?_; refine J0 ?_; refine iS (fun x37 => ?_); refine J3 ?_; (refine fE (fun x40 => ?_); try (refine eN (fun h40 => ?_))); refine vF ?_; refine aS ?_; refine eG [(0, []), (1, []), (2, []), (3, []), (4, []), (5, []), (6, []), (7, [5]), (8, []), (9, []), (10, []), (11, []), (12, [])] ?_; refine aT ?_; refine yN ?_; refine bO ?_; refine cB (h := fun x49 => ?_); ((refine cO (i := 8) (hq := (bG.eM (fV (sz := 14) rf rf yX (by rw [dY]) fin rfl rfl Kz rfl (by decide) gH om) vJ)) (h := fun x50 => ?_); try (refine eI (fun h50 => ?_)))); refine J4 ?_; refine aU ?_; refine yR ?_; refine I1 ?_; refine R3 ?_; refine J1 ?_
            refine aQ Tryz.results92 (fun w hw => ?_)
            have h2 := (hw.freeze .head).freeze .head
            simp only [rM, List.nil_append] at h2
            have h3 := h2.aX (H' := [(b, _)]) (F' := [(x35.1, aH xs), (x40.1, cZ ys)]) (O' := [_, _])
            exact ⟨⟨x50.1, x50.2, pc, cc, x35.1, x35.2, x40.1, x40.2⟩, rfl, trivial, by simpa [mO, aO, mW, jU, aP.fr, fN, kD, Nd.cells, *] using h3⟩
theorem nV{m c:Nat}{p:Option Addr}{v1 v2 v3:Value}(hs:SF w D [(b,.cells ⟨[.slice p m c,v1,v2,v3]⟩ 139 (0,0))] A [] [] w)(hl:m<=274877906945):Calls Tryz.prog 81 #[.pointer (some ⟨b,0,none⟩)] w λ e w'=>∃q:Unit,e=.returned (.int .i64 ((m+2:Nat):Int))/\True /\
  SF w D [(b,.cells ⟨[.slice p m c,v1,v2,v3]⟩ 139 (0,0))] [] [] [] w':=by
 refine enter Tryz.func81 Tryz.ntmps81 rfl rfl hs ?_
 simp only[cA]
 refine cS ?_;refine mA ?_;refine eA ?_;refine Gn ?_;refine J1 ?_
 refine aQ Tryz.results81 (λ w hw=>?_)
 exact⟨(),by rw[show(2:Int)+(m:Int)=((m+2:Nat):Int) by omega];rfl,trivial,hw.aX⟩
theorem ck {n : Nd} {xs : List Int} {ys : List Pr} (init : Int) (hs : SF w D [(b, aO L cs gen acc pn cn pc cc)] [(n.brA, aH xs), (n.prA, cZ ys)] [] (mW L cs pn cn pc cc) w) (e1 : n.brN = xs.length) (e2 : n.prN = ys.length) (h1 : xs.length ≤ 274877906944) (h2 : ys.length ≤ 274877906944)
    (hl : L.length ≤ 274877906944) (hc : cs.length ≤ 274877906944) :
    Calls Tryz.prog 29 #[.pointer (some ⟨b, 0, none⟩), n.v, .int .i64 init] w fun e w' => ∃ x : AX, e = .returned (.int .i64 ((L.length + 3 : Nat) : Int)) ∧ True ∧
      SF w D [(b, aO (L ++ [jU n xs ys cs.length x]) (fN n.kind cs init) gen acc x.pn x.cn x.pc x.cc)] [] (jU n xs ys cs.length x).fr (mW (L ++ [jU n xs ys cs.length x]) (fN n.kind cs init) x.pn x.cn x.pc x.cc) w' := by
  refine enter Tryz.func29 Tryz.ntmps29 rfl rfl (wK hs) ?_
  simp only [cA]
  simp only [Nd.v, Nd.cells]
  refine J0 ?_; refine bK (fun x4 => ?_); refine J1 ?_; refine nF ?_; refine aD (cF (V := fun p : Option Addr × Option Addr => .agg ⟨[.int .i64 n.kind, .int .i64 n.gen, .int .i64 n.main, .int .u64 n.bm, .slice p.1 n.brN xs.length, .int .u64 n.hash, .string n.key, .int .u64 n.val, .slice p.2 n.prN ys.length, .int .i64 n.prev, .int .i64 n.bA, .int .i64 n.exp, .int .i64 n.new, .int .i64 n.status]⟩) (hc := fun w1 hw => Ve (n := n) ⟨e1, e2, hw.cl (.bA .head), hw.cl (.bA (.tail .head)), by omega, by omega⟩ (by omega) (by omega))) (fun x8 h8 => ?_); refine J5 ?_; refine J0 ?_; refine aF ?_; refine kJ (fun _ => ?_); refine aF ?_; refine kJ (fun _ => ?_); refine vF ?_; refine Ds ?_; refine iB ?_; refine Rq ?_
  refine bD (fun c12 => ?_) (fun c12 => ?_)
  · try (exfalso; omega)
    refine Jc ?_; refine aD (cM (hc := fun w hs => Ae init hs hc)) (fun x18 h18 => ?_); refine vF ?_; refine fG ?_; refine aS ?_; refine eG [(0, []), (1, []), (2, []), (3, []), (4, []), (5, []), (6, [4]), (7, []), (8, []), (9, []), (10, [])] ?_; refine Xf ?_; refine bO ?_; refine cB (h := fun x41 => ?_); ((refine cO (i := 7) (hq := (bG.eM (fV (sz := 14) rf rf yX (by rw [dY]) fin rfl rfl Kz rfl (by decide) gH om) vJ)) (h := fun x42 => ?_); try (refine eI (fun h42 => ?_)))); refine J88 ?_; refine J2 ?_; refine aD (cM (hc := fun w hs => nV (m := L.length + 1) hs (by omega))) (fun x46 h46 => ?_); refine J1 ?_
    refine aQ Tryz.results29 (fun w hw => ?_)
    have h3 := hw.aX (H' := [(b, _)]) (F' := [(x8.1, aH xs), (x8.2, cZ ys)]) (O' := [_, _])
    exact ⟨⟨x42.1, x42.2, x18.1, x18.2, x8.1, xs.length, x8.2, ys.length⟩, rfl, trivial, by simpa [mO, aO, mW, jU, aP.fr, fN, kD, Nd.cells, *] using h3⟩
  · try (exfalso; omega)
    refine nF ?_; refine aD (c0 (V := .bool) (hc := fun w1 hw => Sq ({ n with main := 0, prev := 0, status := 0, brA := x8.1, brC := xs.length, prA := x8.2, cZ := ys.length } : Nd) w1)) (fun x22 h22 => ?_); refine J1 ?_
    refine bD (fun c20 => ?_) (fun c20 => ?_)
    · try (exfalso; omega)
      have k22 : n.kind = 3 ∨ n.kind = 5 ∨ n.kind = 6 := h22.1 c20
      rcases k22 with k22 | k22 | k22
      all_goals (refine Jc ?_; refine aD (cM (hc := fun w hs => Ae init hs hc)) (fun x25 h25 => ?_); refine vF ?_; refine fG ?_; refine aS ?_; refine eG [(0, []), (1, []), (2, []), (3, []), (4, []), (5, []), (6, [4]), (7, []), (8, []), (9, []), (10, [])] ?_; refine Xf ?_; refine bO ?_; refine cB (h := fun x41 => ?_); ((refine cO (i := 7) (hq := (bG.eM (fV (sz := 14) rf rf yX (by rw [dY]) fin rfl rfl Kz rfl (by decide) gH om) vJ)) (h := fun x42 => ?_); try (refine eI (fun h42 => ?_)))); refine J88 ?_; refine J2 ?_; refine aD (cM (hc := fun w hs => nV (m := L.length + 1) hs (by omega))) (fun x46 h46 => ?_); refine J1 ?_)
      all_goals
       refine aQ Tryz.results29 (fun w hw => ?_)
       have h3 := hw.aX (H' := [(b, _)]) (F' := [(x8.1, aH xs), (x8.2, cZ ys)]) (O' := [_, _])
       exact ⟨⟨x42.1, x42.2, x25.1, x25.2, x8.1, xs.length, x8.2, ys.length⟩, rfl, trivial, by simpa [mO, aO, mW, jU, aP.fr, fN, kD, Nd.cells, *] using h3⟩
    · try (exfalso; omega)
      have k22 : ¬ (n.kind = 3 ∨ n.kind = 5 ∨ n.kind = 6) := fun k => by rw [h22.2 k] at c20; cases c20
      obtain ⟨k3, k56⟩ := not_or.1 k22
      obtain ⟨k5, k6⟩ := not_or.1 k56
      refine iB ?_; refine Rq ?_
      refine bD (fun c27 => ?_) (fun c27 => ?_)
      · try (exfalso; omega)
        refine Jc ?_; refine aD (cM (hc := fun w hs => Ae init hs hc)) (fun x33 h33 => ?_); refine vF ?_; refine fG ?_; refine aS ?_; refine eG [(0, []), (1, []), (2, []), (3, []), (4, []), (5, []), (6, [4]), (7, []), (8, []), (9, []), (10, [])] ?_; refine Xf ?_; refine bO ?_; refine cB (h := fun x41 => ?_); ((refine cO (i := 7) (hq := (bG.eM (fV (sz := 14) rf rf yX (by rw [dY]) fin rfl rfl Kz rfl (by decide) gH om) vJ)) (h := fun x42 => ?_); try (refine eI (fun h42 => ?_)))); refine J88 ?_; refine J2 ?_; refine aD (cM (hc := fun w hs => nV (m := L.length + 1) hs (by omega))) (fun x46 h46 => ?_); refine J1 ?_
        refine aQ Tryz.results29 (fun w hw => ?_)
        have h3 := hw.aX (H' := [(b, _)]) (F' := [(x8.1, aH xs), (x8.2, cZ ys)]) (O' := [_, _])
        exact ⟨⟨x42.1, x42.2, x33.1, x33.2, x8.1, xs.length, x8.2, ys.length⟩, rfl, trivial, by simpa [mO, aO, mW, jU, aP.fr, fN, kD, Nd.cells, *] using h3⟩
      · try (exfalso; omega)
        refine pG ?_; refine aS ?_; refine eG [(0, []), (1, []), (2, []), (3, []), (4, []), (5, []), (6, [4]), (7, []), (8, []), (9, []), (10, [])] ?_; refine Xf ?_; refine bO ?_; refine cB (h := fun x41 => ?_); ((refine cO (i := 7) (hq := (bG.eM (fV (sz := 14) rf rf yX (by rw [dY]) fin rfl rfl Kz rfl (by decide) gH om) vJ)) (h := fun x42 => ?_); try (refine eI (fun h42 => ?_)))); refine J88 ?_; refine J2 ?_; refine aD (cM (hc := fun w hs => nV (m := L.length + 1) hs (by omega))) (fun x46 h46 => ?_); refine J1 ?_
        refine aQ Tryz.results29 (fun w hw => ?_)
        have h3 := hw.aX (H' := [(b, _)]) (F' := [(x8.1, aH xs), (x8.2, cZ ys)]) (O' := [_, _])
        exact ⟨⟨x42.1, x42.2, pc, cc, x8.1, xs.length, x8.2, ys.length⟩, rfl, trivial, by simpa [mO, aO, mW, jU, aP.fr, fN, kD, Nd.cells, *] using h3⟩
end Go.Proofs.YtbajmaoegmbfgaaGreat
