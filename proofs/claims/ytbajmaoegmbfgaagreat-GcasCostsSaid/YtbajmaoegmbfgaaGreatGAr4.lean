/- Alloc of the two memories. -/
import Derived.Test.YtbajmaoegmbfgaaGreatGMst
import Derived.Test.YtbajmaoegmbfgaaGreatGNode1

set_option linter.unusedSimpArgs false
set_option linter.unusedVariables false
namespace Go.Proofs.YtbajmaoegmbfgaaGreat
section
open Go.RowKit Go.Ct
variable{w:World}{D:List Nat}{b:Nat}{L:List aP}{cs:List Int}{gen acc:Int}{pn pc:Option Addr}{cn cc:Nat}{A:Fr}
theorem Gv {n : Nd} {xs : List Int} {ys : List Pr} (init : Int) (hs : SF w D [(b, mO L cs gen acc pn cn pc cc)] [(n.brA, aG xs), (n.prA, cR ys)] [] (mW L cs pn cn pc cc) w) (e1 : n.brN = xs.length) (e2 : n.prN = ys.length) (h1 : xs.length ≤ 274877906944) (h2 : ys.length ≤ 274877906944)
    (hl : L.length ≤ 274877906944) (hc : cs.length ≤ 274877906944) :
    Calls Tryz.prog 92 #[.pointer (some ⟨b, 0, none⟩), n.v, .int .i64 init] w fun e w' => ∃ x : AX, e = .returned (.int .i64 ((L.length + 1 : Nat) : Int)) ∧ True ∧
      SF w D [(b, mO (L ++ [nX n xs ys cs.length x]) (fS n.kind cs init) gen acc x.pn x.cn x.pc x.cc)] [] (nX n xs ys cs.length x).fr (mW (L ++ [nX n xs ys cs.length x]) (fS n.kind cs init) x.pn x.cn x.pc x.cc) w' := by
  refine enter Tryz.func92 Tryz.ntmps92 rfl rfl (yA hs) ?_
  simp only [cD]
  simp only [Nd.v, Nd.cells]
  refine J0 ?_; refine bK (fun x4 => ?_); refine J1 ?_; refine J0 ?_; refine aF ?_; refine iV (fun _ => ?_); refine aF ?_; refine iV (fun _ => ?_); refine uS ?_; refine Cx ?_; refine aH ?_; refine cZ ?_; refine lP ?_
  refine aZ (fun c12 => ?_) (fun c12 => ?_)
  · try (exfalso; omega)
    refine Ih ?_; refine aD (cM (hc := fun w hs => lB init hs hc)) (fun x16 h16 => ?_); refine uS ?_; refine fF ?_; refine J0 ?_; refine iD (fun x32 => ?_); refine J3 ?_; (refine eX (fun x35 => ?_); try (refine eR (fun h35 => ?_))); refine uS ?_; refine J0 ?_; refine iD (fun x37 => ?_); refine J3 ?_; (refine eX (fun x40 => ?_); try (refine eR (fun h40 => ?_))); refine uS ?_; refine aS ?_; refine dZ [(0, []), (1, []), (2, []), (3, []), (4, []), (5, []), (6, []), (7, [5]), (8, []), (9, []), (10, []), (11, []), (12, [])] ?_; refine aT ?_; refine xP ?_; refine bN ?_; refine cB (h := fun x49 => ?_); ((refine cL (i := 8) (hq := (bC.eN (fN (sz := 14) rf rf yO (by rw [dW]) fin rfl rfl Ns rfl (by decide) gA om) uR)) (h := fun x50 => ?_); try (refine eG (fun h50 => ?_)))); refine J4 ?_; refine aU ?_; refine B8 ?_; refine H7 ?_; refine Qt ?_; refine J1 ?_
    refine aQ Tryz.results92 (fun w hw => ?_)
    have h2 := (hw.freeze .head).freeze .head
    simp only [sD, List.nil_append] at h2
    have h3 := h2.aV (H' := [(b, _)]) (F' := [(x35.1, aG xs), (x40.1, cR ys)]) (O' := [_, _])
    exact ⟨⟨x50.1, x50.2, x16.1, x16.2, x35.1, x35.2, x40.1, x40.2⟩, rfl, trivial, by simpa [mO, aO, mW, nX, aP.fr, fS, jV, Nd.cells, *] using h3⟩
  · try (exfalso; omega)
    refine aS ?_; refine lP ?_
    refine aZ (fun c18 => ?_) (fun c18 => ?_)
    · try (exfalso; omega)
      refine aX ?_
      refine aZ (fun c18 => ?_) (fun c18 => ?_)
      · try (exfalso; omega)
        refine Ih ?_; refine aD (cM (hc := fun w hs => lB init hs hc)) (fun x24 h24 => ?_); refine uS ?_; refine fF ?_; refine J0 ?_; refine iD (fun x32 => ?_); refine J3 ?_; (refine eX (fun x35 => ?_); try (refine eR (fun h35 => ?_))); refine uS ?_; refine J0 ?_; refine iD (fun x37 => ?_); refine J3 ?_; (refine eX (fun x40 => ?_); try (refine eR (fun h40 => ?_))); refine uS ?_; refine aS ?_; refine dZ [(0, []), (1, []), (2, []), (3, []), (4, []), (5, []), (6, []), (7, [5]), (8, []), (9, []), (10, []), (11, []), (12, [])] ?_; refine aT ?_; refine xP ?_; refine bN ?_; refine cB (h := fun x49 => ?_); ((refine cL (i := 8) (hq := (bC.eN (fN (sz := 14) rf rf yO (by rw [dW]) fin rfl rfl Ns rfl (by decide) gA om) uR)) (h := fun x50 => ?_); try (refine eG (fun h50 => ?_)))); refine J4 ?_; refine aU ?_; refine B8 ?_; refine H7 ?_; refine Qt ?_; refine J1 ?_
        refine aQ Tryz.results92 (fun w hw => ?_)
        have h2 := (hw.freeze .head).freeze .head
        simp only [sD, List.nil_append] at h2
        have h3 := h2.aV (H' := [(b, _)]) (F' := [(x35.1, aG xs), (x40.1, cR ys)]) (O' := [_, _])
        exact ⟨⟨x50.1, x50.2, x24.1, x24.2, x35.1, x35.2, x40.1, x40.2⟩, rfl, trivial, by simpa [mO, aO, mW, nX, aP.fr, fS, jV, Nd.cells, *] using h3⟩
      · try (exfalso; omega)
    · try (exfalso; omega)
      refine lP ?_
      refine aZ (fun c18 => ?_) (fun c18 => ?_)
      · try (exfalso; omega)
        refine aX ?_
        refine aZ (fun c18 => ?_) (fun c18 => ?_)
        · try (exfalso; omega)
          refine Ih ?_; refine aD (cM (hc := fun w hs => lB init hs hc)) (fun x24 h24 => ?_); refine uS ?_; refine fF ?_; refine J0 ?_; refine iD (fun x32 => ?_); refine J3 ?_; (refine eX (fun x35 => ?_); try (refine eR (fun h35 => ?_))); refine uS ?_; refine J0 ?_; refine iD (fun x37 => ?_); refine J3 ?_; (refine eX (fun x40 => ?_); try (refine eR (fun h40 => ?_))); refine uS ?_; refine aS ?_; refine dZ [(0, []), (1, []), (2, []), (3, []), (4, []), (5, []), (6, []), (7, [5]), (8, []), (9, []), (10, []), (11, []), (12, [])] ?_; refine aT ?_; refine xP ?_; refine bN ?_; refine cB (h := fun x49 => ?_); ((refine cL (i := 8) (hq := (bC.eN (fN (sz := 14) rf rf yO (by rw [dW]) fin rfl rfl Ns rfl (by decide) gA om) uR)) (h := fun x50 => ?_); try (refine eG (fun h50 => ?_)))); refine J4 ?_; refine aU ?_; refine B8 ?_; refine H7 ?_; refine Qt ?_; refine J1 ?_
          refine aQ Tryz.results92 (fun w hw => ?_)
          have h2 := (hw.freeze .head).freeze .head
          simp only [sD, List.nil_append] at h2
          have h3 := h2.aV (H' := [(b, _)]) (F' := [(x35.1, aG xs), (x40.1, cR ys)]) (O' := [_, _])
          exact ⟨⟨x50.1, x50.2, x24.1, x24.2, x35.1, x35.2, x40.1, x40.2⟩, rfl, trivial, by simpa [mO, aO, mW, nX, aP.fr, fS, jV, Nd.cells, *] using h3⟩
        · try (exfalso; omega)
      · try (exfalso; omega)
        refine dI ?_; refine Qs ?_
        refine aZ (fun c18 => ?_) (fun c18 => ?_)
        · try (exfalso; omega)
          refine Ih ?_; refine aD (cM (hc := fun w hs => lB init hs hc)) (fun x24 h24 => ?_); refine uS ?_; refine fF ?_; refine J0 ?_; refine iD (fun x32 => ?_); refine J3 ?_; (refine eX (fun x35 => ?_); try (refine eR (fun h35 => ?_))); refine uS ?_; refine J0 ?_; refine iD (fun x37 => ?_); refine J3 ?_; (refine eX (fun x40 => ?_); try (refine eR (fun h40 => ?_))); refine uS ?_; refine aS ?_; refine dZ [(0, []), (1, []), (2, []), (3, []), (4, []), (5, []), (6, []), (7, [5]), (8, []), (9, []), (10, []), (11, []), (12, [])] ?_; refine aT ?_; refine xP ?_; refine bN ?_; refine cB (h := fun x49 => ?_); ((refine cL (i := 8) (hq := (bC.eN (fN (sz := 14) rf rf yO (by rw [dW]) fin rfl rfl Ns rfl (by decide) gA om) uR)) (h := fun x50 => ?_); try (refine eG (fun h50 => ?_)))); refine J4 ?_; refine aU ?_; refine B8 ?_; refine H7 ?_; refine Qt ?_; refine J1 ?_
          refine aQ Tryz.results92 (fun w hw => ?_)
          have h2 := (hw.freeze .head).freeze .head
          simp only [sD, List.nil_append] at h2
          have h3 := h2.aV (H' := [(b, _)]) (F' := [(x35.1, aG xs), (x40.1, cR ys)]) (O' := [_, _])
          exact ⟨⟨x50.1, x50.2, x24.1, x24.2, x35.1, x35.2, x40.1, x40.2⟩, rfl, trivial, by simpa [mO, aO, mW, nX, aP.fr, fS, jV, Nd.cells, *] using h3⟩
        · try (exfalso; omega)
          refine lP ?_
          refine aZ (fun c26 => ?_) (fun c26 => ?_)
          · try (exfalso; omega)
            refine Ih ?_; refine aD (cM (hc := fun w hs => lB init hs hc)) (fun x30 h30 => ?_); refine uS ?_; refine fF ?_; refine J0 ?_; refine iD (fun x32 => ?_); refine J3 ?_; (refine eX (fun x35 => ?_); try (refine eR (fun h35 => ?_))); refine uS ?_; refine J0 ?_; refine iD (fun x37 => ?_); refine J3 ?_; (refine eX (fun x40 => ?_); try (refine eR (fun h40 => ?_))); refine uS ?_; refine aS ?_; refine dZ [(0, []), (1, []), (2, []), (3, []), (4, []), (5, []), (6, []), (7, [5]), (8, []), (9, []), (10, []), (11, []), (12, [])] ?_; refine aT ?_; refine xP ?_; refine bN ?_; refine cB (h := fun x49 => ?_); ((refine cL (i := 8) (hq := (bC.eN (fN (sz := 14) rf rf yO (by rw [dW]) fin rfl rfl Ns rfl (by decide) gA om) uR)) (h := fun x50 => ?_); try (refine eG (fun h50 => ?_)))); refine J4 ?_; refine aU ?_; refine B8 ?_; refine H7 ?_; refine Qt ?_; refine J1 ?_
            refine aQ Tryz.results92 (fun w hw => ?_)
            have h2 := (hw.freeze .head).freeze .head
            simp only [sD, List.nil_append] at h2
            have h3 := h2.aV (H' := [(b, _)]) (F' := [(x35.1, aG xs), (x40.1, cR ys)]) (O' := [_, _])
            exact ⟨⟨x50.1, x50.2, x30.1, x30.2, x35.1, x35.2, x40.1, x40.2⟩, rfl, trivial, by simpa [mO, aO, mW, nX, aP.fr, fS, jV, Nd.cells, *] using h3⟩
          · try (exfalso; omega)
            refine oP ?_; refine J0 ?_; refine iD (fun x32 => ?_); refine J3 ?_; (refine eX (fun x35 => ?_); try (refine eR (fun h35 => ?_))); refine uS ?_; refine J0 ?_; refine iD (fun x37 => ?_); refine J3 ?_; (refine eX (fun x40 => ?_); try (refine eR (fun h40 => ?_))); refine uS ?_; refine aS ?_; refine dZ [(0, []), (1, []), (2, []), (3, []), (4, []), (5, []), (6, []), (7, [5]), (8, []), (9, []), (10, []), (11, []), (12, [])] ?_; refine aT ?_; refine xP ?_; refine bN ?_; refine cB (h := fun x49 => ?_); ((refine cL (i := 8) (hq := (bC.eN (fN (sz := 14) rf rf yO (by rw [dW]) fin rfl rfl Ns rfl (by decide) gA om) uR)) (h := fun x50 => ?_); try (refine eG (fun h50 => ?_)))); refine J4 ?_; refine aU ?_; refine B8 ?_; refine H7 ?_; refine Qt ?_; refine J1 ?_
            refine aQ Tryz.results92 (fun w hw => ?_)
            have h2 := (hw.freeze .head).freeze .head
            simp only [sD, List.nil_append] at h2
            have h3 := h2.aV (H' := [(b, _)]) (F' := [(x35.1, aG xs), (x40.1, cR ys)]) (O' := [_, _])
            exact ⟨⟨x50.1, x50.2, pc, cc, x35.1, x35.2, x40.1, x40.2⟩, rfl, trivial, by simpa [mO, aO, mW, nX, aP.fr, fS, jV, Nd.cells, *] using h3⟩
theorem rS{m c:Nat}{p:Option Addr}{v1 v2 v3:Value}(hs:SF w D [(b,.cells ⟨[.slice p m c,v1,v2,v3]⟩ 139 (0,0))] A [] [] w)(hl:m<=274877906945):Calls Tryz.prog 81 #[.pointer (some ⟨b,0,none⟩)] w λ e w'=>∃q:Unit,e=.returned (.int .i64 ((m+2:Nat):Int))/\True /\
  SF w D [(b,.cells ⟨[.slice p m c,v1,v2,v3]⟩ 139 (0,0))] [] [] [] w':=by
 refine enter Tryz.func81 Tryz.ntmps81 rfl rfl hs ?_
 simp only[cD]
 refine cP ?_;refine mJ ?_;refine dJ ?_;refine Er ?_;refine J1 ?_
 refine aQ Tryz.results81 (λ w hw=>?_)
 exact⟨(),by rw[show(2:Int)+(m:Int)=((m+2:Nat):Int) by omega];rfl,trivial,hw.aV⟩
theorem cj {n : Nd} {xs : List Int} {ys : List Pr} (init : Int) (hs : SF w D [(b, aO L cs gen acc pn cn pc cc)] [(n.brA, aG xs), (n.prA, cR ys)] [] (mW L cs pn cn pc cc) w) (e1 : n.brN = xs.length) (e2 : n.prN = ys.length) (h1 : xs.length ≤ 274877906944) (h2 : ys.length ≤ 274877906944)
    (hl : L.length ≤ 274877906944) (hc : cs.length ≤ 274877906944) :
    Calls Tryz.prog 29 #[.pointer (some ⟨b, 0, none⟩), n.v, .int .i64 init] w fun e w' => ∃ x : AX, e = .returned (.int .i64 ((L.length + 3 : Nat) : Int)) ∧ True ∧
      SF w D [(b, aO (L ++ [nX n xs ys cs.length x]) (fS n.kind cs init) gen acc x.pn x.cn x.pc x.cc)] [] (nX n xs ys cs.length x).fr (mW (L ++ [nX n xs ys cs.length x]) (fS n.kind cs init) x.pn x.cn x.pc x.cc) w' := by
  refine enter Tryz.func29 Tryz.ntmps29 rfl rfl (zW hs) ?_
  simp only [cD]
  simp only [Nd.v, Nd.cells]
  refine J0 ?_; refine bK (fun x4 => ?_); refine J1 ?_; refine oC ?_; refine aD (cF (V := fun p : Option Addr × Option Addr => .agg ⟨[.int .i64 n.kind, .int .i64 n.gen, .int .i64 n.main, .int .u64 n.bm, .slice p.1 n.brN xs.length, .int .u64 n.hash, .string n.key, .int .u64 n.val, .slice p.2 n.prN ys.length, .int .i64 n.prev, .int .i64 n.bJ, .int .i64 n.exp, .int .i64 n.new, .int .i64 n.status]⟩) (hc := fun w1 hw => U8 (n := n) ⟨e1, e2, hw.cl (.bJ .head), hw.cl (.bJ (.tail .head)), by omega, by omega⟩ (by omega) (by omega))) (fun x8 h8 => ?_); refine J5 ?_; refine J0 ?_; refine aF ?_; refine iV (fun _ => ?_); refine aF ?_; refine iV (fun _ => ?_); refine uS ?_; refine Co ?_; refine hZ ?_; refine Qs ?_
  refine aZ (fun c12 => ?_) (fun c12 => ?_)
  · try (exfalso; omega)
    refine Ih ?_; refine aD (cM (hc := fun w hs => yR init hs hc)) (fun x18 h18 => ?_); refine uS ?_; refine fF ?_; refine aS ?_; refine dZ [(0, []), (1, []), (2, []), (3, []), (4, []), (5, []), (6, [4]), (7, []), (8, []), (9, []), (10, [])] ?_; refine W0 ?_; refine bN ?_; refine cB (h := fun x41 => ?_); ((refine cL (i := 7) (hq := (bC.eN (fN (sz := 14) rf rf yO (by rw [dW]) fin rfl rfl Ns rfl (by decide) gA om) uR)) (h := fun x42 => ?_); try (refine eG (fun h42 => ?_)))); refine yx ?_; refine J2 ?_; refine aD (cM (hc := fun w hs => rS (m := L.length + 1) hs (by omega))) (fun x46 h46 => ?_); refine J1 ?_
    refine aQ Tryz.results29 (fun w hw => ?_)
    have h3 := hw.aV (H' := [(b, _)]) (F' := [(x8.1, aG xs), (x8.2, cR ys)]) (O' := [_, _])
    exact ⟨⟨x42.1, x42.2, x18.1, x18.2, x8.1, xs.length, x8.2, ys.length⟩, rfl, trivial, by simpa [mO, aO, mW, nX, aP.fr, fS, jV, Nd.cells, *] using h3⟩
  · try (exfalso; omega)
    refine oC ?_; refine aD (c0 (V := .bool) (hc := fun w1 hw => Qy ({ n with main := 0, prev := 0, status := 0, brA := x8.1, brC := xs.length, prA := x8.2, cR := ys.length } : Nd) w1)) (fun x22 h22 => ?_); refine J1 ?_
    refine aZ (fun c20 => ?_) (fun c20 => ?_)
    · try (exfalso; omega)
      have k22 : n.kind = 3 ∨ n.kind = 5 ∨ n.kind = 6 := h22.1 c20
      rcases k22 with k22 | k22 | k22
      all_goals (refine Ih ?_; refine aD (cM (hc := fun w hs => yR init hs hc)) (fun x25 h25 => ?_); refine uS ?_; refine fF ?_; refine aS ?_; refine dZ [(0, []), (1, []), (2, []), (3, []), (4, []), (5, []), (6, [4]), (7, []), (8, []), (9, []), (10, [])] ?_; refine W0 ?_; refine bN ?_; refine cB (h := fun x41 => ?_); ((refine cL (i := 7) (hq := (bC.eN (fN (sz := 14) rf rf yO (by rw [dW]) fin rfl rfl Ns rfl (by decide) gA om) uR)) (h := fun x42 => ?_); try (refine eG (fun h42 => ?_)))); refine yx ?_; refine J2 ?_; refine aD (cM (hc := fun w hs => rS (m := L.length + 1) hs (by omega))) (fun x46 h46 => ?_); refine J1 ?_)
      all_goals
       refine aQ Tryz.results29 (fun w hw => ?_)
       have h3 := hw.aV (H' := [(b, _)]) (F' := [(x8.1, aG xs), (x8.2, cR ys)]) (O' := [_, _])
       exact ⟨⟨x42.1, x42.2, x25.1, x25.2, x8.1, xs.length, x8.2, ys.length⟩, rfl, trivial, by simpa [mO, aO, mW, nX, aP.fr, fS, jV, Nd.cells, *] using h3⟩
    · try (exfalso; omega)
      have k22 : ¬ (n.kind = 3 ∨ n.kind = 5 ∨ n.kind = 6) := fun k => by rw [h22.2 k] at c20; cases c20
      obtain ⟨k3, k56⟩ := not_or.1 k22
      obtain ⟨k5, k6⟩ := not_or.1 k56
      refine hZ ?_; refine Qs ?_
      refine aZ (fun c27 => ?_) (fun c27 => ?_)
      · try (exfalso; omega)
        refine Ih ?_; refine aD (cM (hc := fun w hs => yR init hs hc)) (fun x33 h33 => ?_); refine uS ?_; refine fF ?_; refine aS ?_; refine dZ [(0, []), (1, []), (2, []), (3, []), (4, []), (5, []), (6, [4]), (7, []), (8, []), (9, []), (10, [])] ?_; refine W0 ?_; refine bN ?_; refine cB (h := fun x41 => ?_); ((refine cL (i := 7) (hq := (bC.eN (fN (sz := 14) rf rf yO (by rw [dW]) fin rfl rfl Ns rfl (by decide) gA om) uR)) (h := fun x42 => ?_); try (refine eG (fun h42 => ?_)))); refine yx ?_; refine J2 ?_; refine aD (cM (hc := fun w hs => rS (m := L.length + 1) hs (by omega))) (fun x46 h46 => ?_); refine J1 ?_
        refine aQ Tryz.results29 (fun w hw => ?_)
        have h3 := hw.aV (H' := [(b, _)]) (F' := [(x8.1, aG xs), (x8.2, cR ys)]) (O' := [_, _])
        exact ⟨⟨x42.1, x42.2, x33.1, x33.2, x8.1, xs.length, x8.2, ys.length⟩, rfl, trivial, by simpa [mO, aO, mW, nX, aP.fr, fS, jV, Nd.cells, *] using h3⟩
      · try (exfalso; omega)
        refine oP ?_; refine aS ?_; refine dZ [(0, []), (1, []), (2, []), (3, []), (4, []), (5, []), (6, [4]), (7, []), (8, []), (9, []), (10, [])] ?_; refine W0 ?_; refine bN ?_; refine cB (h := fun x41 => ?_); ((refine cL (i := 7) (hq := (bC.eN (fN (sz := 14) rf rf yO (by rw [dW]) fin rfl rfl Ns rfl (by decide) gA om) uR)) (h := fun x42 => ?_); try (refine eG (fun h42 => ?_)))); refine yx ?_; refine J2 ?_; refine aD (cM (hc := fun w hs => rS (m := L.length + 1) hs (by omega))) (fun x46 h46 => ?_); refine J1 ?_
        refine aQ Tryz.results29 (fun w hw => ?_)
        have h3 := hw.aV (H' := [(b, _)]) (F' := [(x8.1, aG xs), (x8.2, cR ys)]) (O' := [_, _])
        exact ⟨⟨x42.1, x42.2, pc, cc, x8.1, xs.length, x8.2, ys.length⟩, rfl, trivial, by simpa [mO, aO, mW, nX, aP.fr, fS, jV, Nd.cells, *] using h3⟩
end

/- Nodes of the program's arena are read; lists are cloned; the state is read. -/
end Go.Proofs.YtbajmaoegmbfgaaGreat
namespace Go.Ct
section
theorem Cl.ak{w:Go.World}{cs:List Go.Value}(h:Cl w none cs):cs=[]:=by
 cases cs with
 | nil=>rfl
 | cons v r=>exact absurd (h.ptr (by simp)) (by simp)
theorem Xs{l:List Int}(h:aG l=[]):l=[]:=by simpa[aG] using h
theorem E1{L:List aP}{k:Nat}(h:k<2):aB (bS L) ((k+1:Nat):Int)=fE:=by
 rw[vZ (by rw[oD];omega)]
 rcases(show k=0∨k=1 by omega) with rfl|rfl<;>rfl
theorem Jp{L:List aP}{k:Nat}(h:2<=k)(h2:k<L.length+2):aB (bS L) ((k+1:Nat):Int)=L.getD (k+1-2-1) aP.zero:=by
 rw[vZ (by rw[oD];omega)]
 obtain⟨j,rfl⟩:∃j,k=j+2:=⟨k-2,by omega⟩
 rw[show j+2+1-2-1=j by omega]
 rfl
end
end Go.Ct
namespace Go.Proofs.YtbajmaoegmbfgaaGreat
section
open Go.RowKit Go.Ct
variable{w:World}{D:List Nat}{b:Nat}{L:List aP}{cs:List Int}{gen acc:Int}{pn pc:Option Addr}{cn cc:Nat}{A:Fr}
theorem Tj{l:List Int}{a:Option Addr}{c:Nat}{w:World}(ha:Cl w a (aG l))(hl:l.length<=274877906944):Calls Tryz.prog 84 #[.slice a l.length c] w λ e w' =>
  ∃x:Option Addr×Nat,e=.returned (.slice x.1 l.length x.2)/\True/\SF w [] [] [] [] [⟨x.1,aG l,x.2,37,1⟩] w':=by
 refine enter Tryz.func84 Tryz.ntmps84 rfl rfl (SF.s1 ha) ?_
 simp only[cD]
 refine cP ?_;refine kX ?_;refine sH ?_
 refine aZ (λ c4=>?_) (λ c4=>?_)
 ·have e0:a=none:=by cases a with|none=>rfl|some _=>cases c4
  subst e0
  obtain rfl:=Xs ha.ak
  refine cP ?_
  refine aQ Tryz.results84 (λ w hw=>?_)
  exact⟨(none,0),rfl,trivial,(hw.kH 37 1).aV⟩
 ·refine aX ?_;refine J0 ?_;refine iD (λ x5=>?_);refine aA ?_;(refine eX (λ x7=>?_);try (refine eR (λ h7=>?_)));refine J1 ?_
  refine aQ Tryz.results84 (λ w hw=>?_)
  exact⟨x7,by simp only[Nat.zero_add];rfl,trivial,by simpa using hw.aV (F':=[]) (H':=[])⟩
theorem Zw(hs:SF w D [(b,aO L cs gen acc pn cn pc cc)] A [] (mW L cs pn cn pc cc) w)(r:Int)(hr:r<1)(hl:L.length<=274877906944) :
  Calls Tryz.prog 36 #[.pointer (some ⟨b,0,none⟩),.int .i64 r] w λ e w'=>∃q:Option Addr×Option Addr,e=.returned ((aB (bS L) r).at_ q.1 q.2).nd.v/\True /\
  SF w D [(b,aO L cs gen acc pn cn pc cc)] [] [] (mW L cs pn cn pc cc++[⟨q.2,cR (aB (bS L) r).ys,(aB (bS L) r).ys.length,164,2⟩,⟨q.1,aG (aB (bS L) r).xs,(aB (bS L) r).xs.length,37,1⟩]) w':=by
 rw[pM (by omega)]
 refine enter Tryz.func36 Tryz.ntmps36 rfl rfl (zW hs) ?_
 simp only[cD]
 refine J0 ?_;refine aJ (λ x4=>?_);refine aH ?_;refine kX ?_;refine Az ?_
 (refine dX 7 (λ g7=>?_) (λ g7=>?_)<;>(try (exfalso;omega))<;>(refine aI ?_))
 (refine aI ?_);(refine aI ?_);refine zJ ?_;refine aH ?_
 refine aZ (λ c12=>?_) (λ c12=>?_)
 ·try (exfalso;omega)
  refine J0 ?_;refine vL ?_
  refine aY Tryz.results36 (λ w hw=>?_)
  exact⟨(none,none),rfl,trivial,(hw.yr 164 2 37 1).aV⟩
 ·exact nv c12
theorem dx(hs:SF w D [(b,aO L cs gen acc pn cn pc cc)] (aM L) [] (mW L cs pn cn pc cc) w)(hf:Fits L){k:Nat}(hk:(k:Int)<9223372036854775807)(hl:L.length<=274877906944) :
  Calls Tryz.prog 36 #[.pointer (some ⟨b,0,none⟩),.int .i64 ((k+1:Nat):Int)] w λ e w'=>∃q:Option Addr×Option Addr,e=.returned ((aB (bS L) ((k+1:Nat):Int)).at_ q.1 q.2).nd.v/\True /\
  SF w D [(b,aO L cs gen acc pn cn pc cc)] [] [] (mW L cs pn cn pc cc++[⟨q.2,cR (aB (bS L) ((k+1:Nat):Int)).ys,(aB (bS L) ((k+1:Nat):Int)).ys.length,164,2⟩,⟨q.1,aG (aB (bS L) ((k+1:Nat):Int)).xs,(aB (bS L) ((k+1:Nat):Int)).xs.length,37,1⟩]) w':=by
 refine enter Tryz.func36 Tryz.ntmps36 rfl rfl (zW hs) ?_
 simp only[cD]
 refine J0 ?_;refine aJ (λ x4=>?_);refine aH ?_;refine kX ?_;refine Az ?_
 (refine aE ?_;refine aA ?_)
 ((refine aE ?_;refine aA ?_));((refine aE ?_;refine aD (cM (hc:=λ w hs=>rS (m:=L.length) hs (by omega))) (λ x10 h10=>?_)));refine zJ ?_;refine aH ?_
 refine aZ (λ c12=>?_) (λ c12=>?_)
 ·try (exfalso;omega)
  refine J0 ?_;refine vL ?_
  refine aY Tryz.results36 (λ w hw=>?_)
  exact⟨(none,none),by rw[pM (by rw[oD];omega)];rfl,trivial,by rw[pM (by rw[oD];omega)];exact(hw.yr 164 2 37 1).aV⟩
 ·try (exfalso;omega)
  refine kK ?_;refine J2 ?_;refine xY ?_;refine aH ?_
  refine aZ (λ c15=>?_) (λ c15=>?_)
  ·try (exfalso;omega)
   refine J0 ?_;refine vL ?_
   refine aY Tryz.results36 (λ w hw=>?_)
   exact⟨(none,none),by rw[E1 (by omega)];rfl,trivial,by rw[E1 (by omega)];exact(hw.yr 164 2 37 1).aV⟩
  ·try (exfalso;omega)
   refine sc ?_;refine aA ?_;refine aC (by exact jJ (n:=2) rf rf (by omega) (by omega)) rfl ?_;refine aC (by exact ao rf rf (by omega) (by omega)) rfl ?_;refine Qq ?_;refine aD (Rb (Hc:=λ _=>[]) (Fc:=λ _=>[]) (V:=λ p:Option Addr×Option Addr=>((L.getD (k+1-2-1) aP.zero).at_ p.1 p.2).nd.v) (hc:=λ w1 hw=>Vv (hw.aA0 hf (by omega)) (hf.at (by omega)).brS (hf.at (by omega)).prS)) (λ x26 h26=>?_);refine J5 ?_
   refine aY Tryz.results36 (λ w hw=>?_)
   exact⟨x26,by rw[Jp (by omega) (by omega)];rfl,trivial,by rw[Jp (by omega) (by omega)];exact hw.toEnd.aV⟩
end

/- The arena's state is read. -/
section
open Go.RowKit Go.Ct
variable{w:World}{D:List Nat}{b:Nat}{L:List aP}{cs:List Int}{gen acc:Int}{pn pc:Option Addr}{cn cc:Nat}{A:Fr}
theorem ox(hs:SF w D [(b,aO L cs gen acc pn cn pc cc)] (aM L) [] (mW L cs pn cn pc cc) w)(hf:Fits L)(r:Int)(hr:r<=9223372036854775807)(hl:L.length<=274877906944) :
  Calls Tryz.prog 36 #[.pointer (some ⟨b,0,none⟩),.int .i64 r] w λ e w'=>∃q:Option Addr×Option Addr,e=.returned (.agg ⟨((aB (bS L) r).at_ q.1 q.2).nd.cells⟩)/\True /\
  SF w D [(b,aO L cs gen acc pn cn pc cc)] [] [] (mW L cs pn cn pc cc++[⟨q.2,cR (aB (bS L) r).ys,(aB (bS L) r).ys.length,164,2⟩,⟨q.1,aG (aB (bS L) r).xs,(aB (bS L) r).xs.length,37,1⟩]) w':=by
 rcases Int.lt_or_le r 1 with h|h
 ·exact Zw hs r h hl
 ·obtain⟨k,rfl⟩:∃k:Nat,r=((k+1:Nat):Int):=⟨(r-1).toNat,by omega⟩
  exact dx hs hf (by omega) hl
end

/- Proper states: the program's check. -/
end Go.Proofs.YtbajmaoegmbfgaaGreat
namespace Go.Ct
section
def fX(n:Nd):Option Int:=if n.kind=2 then some n.main else if n.kind=3∨n.kind=5∨n.kind=6 then some n.prev else if n.kind=8 then some n.status else none
def eI(u:Option (List Bool))(n:Nd):Option (List Bool) :=
 match u with
 | none=>none
 | some u=>match fX n with
  | none=>some u
  | some c=>if 1<=c/\c<=u.length/\u.getD (c-1).toNat false=false then some (u.set (c-1).toNat true) else none
def marks(m:Nat)(L:List aP):Option (List Bool):=L.foldl (λ u v=>eI u v.nd) (some (List.replicate m false))
theorem nI{m:Nat}{L:List aP}{k:Nat}(h:k<L.length):marks m (L.take (k+1))=eI (marks m (L.take k)) (L.getD k aP.zero).nd:=by
 rw[marks,List.take_succ_eq_append_getElem h,List.foldl_append,jC,List.getElem?_eq_getElem h]
 rfl
theorem Fi{m:Nat}{L:List aP}{k:Nat}(h:marks m (L.take k)=none):marks m L=none:=by
 have e:L=L.take k++L.drop k:=(List.take_append_drop k L).symm
 rw[e,marks,List.foldl_append]
 rw[marks] at h
 rw[h]
 generalize L.drop k=l
 induction l with
 | nil=>rfl
 | cons v l ih=>exact ih
theorem A9{m:Nat}:∀{L:List aP} {u:List Bool},marks m L=some u->u.length=m:=by
 intro L
 have key:∀(l:List aP) (u0:Option (List Bool)),(∀u,u0=some u->u.length=m)->∀u,l.foldl (λ u v=>eI u v.nd) u0=some u->u.length=m:=by
  intro l
  induction l with
  | nil=>intro u0 h u hu;exact h u hu
  | cons v l ih =>
   intro u0 h u hu
   refine ih (eI u0 v.nd) (λ u1 h1=>?_) u hu
   cases u0 with
   | none=>simp[eI] at h1
   | some u2 =>
    have:=h u2 rfl
    simp only[eI] at h1
    cases hc:fX v.nd with
    | none=>rw[hc] at h1;simp only[Option.some.injEq] at h1;rw[<- h1];exact this
    | some c =>
     rw[hc] at h1
     simp only at h1
     split at h1
     ·simp only[Option.some.injEq] at h1;rw[<- h1,List.length_set];exact this
     ·cases h1
 intro u hu
 exact key L _ (λ u h=>by simp only[Option.some.injEq] at h;rw[<- h];simp) u hu
def Ds(r:Int)(n:Nat):Prop:=0<=r/\r<=(n:Int)
instance (r:Int) (n:Nat):Decidable (Ds r n):=inferInstanceAs (Decidable (0<=r/\r<=(n:Int)))
theorem yi{r:Int}{n:Nat}(h:0<=r):decide (Ds r n)=decide (r<=(n:Int)):=by
 by_cases h2:r<=(n:Int)
 ·rw[decide_eq_true h2,decide_eq_true ⟨h,h2⟩]
 ·rw[decide_eq_false h2,decide_eq_false λ h3=>h2 h3.2]
def Sl(n:Nd)(xs:List Int)(N:Nat):Prop:=(∀i,i<xs.length->Ds (xs.getD i 0) N)/\Ds n.bJ N/\Ds n.exp N/\Ds n.new N
def mL(gen:Int)(N:Nat)(v:aP):Prop:=cC v.nd v.xs v.ys/\v.nd.gen<=gen/\Sl v.nd v.xs N
structure fY(L:List aP)(cs:List Int)(gen:Int):Prop where
 two:2<=L.length
 gen0:0<=gen
 m0:(L.getD 0 aP.zero).nd.kind=1
 m1:(L.getD 1 aP.zero).nd.kind=1
 cells:∀i,i<cs.length->Ds (cs.getD i 0) L.length
 nodes:∀i,i<L.length->mL gen L.length (L.getD i aP.zero)
 marks:marks cs.length L≠none
end
end Go.Ct
namespace Go.Proofs.YtbajmaoegmbfgaaGreat
section
open Go.RowKit Go.Ct
theorem wI(r:Int)(n:Nat)(w:World):Calls Tryz.prog 157 #[.int .i64 r,.int .i64 ((n:Nat):Int)] w λ e w'=>e=.returned (.bool (decide (Ds r n)))/\St w [] [] w':=by
 refine enter Tryz.func157 Tryz.ntmps157 rfl rfl (SF.s0 w) ?_
 simp only[cD]
 refine cP ?_;refine J2 ?_;refine nT ?_;refine aA ?_
 (refine dX 7 (λ g7=>?_) (λ g7=>?_)<;>(first|refine aI ?_|(refine aE ?_;refine aA ?_)))
 all_goals ((first|refine aI ?_|(refine aE ?_;refine aA ?_));(first|refine aI ?_|(refine aE ?_;refine xY ?_));refine bY ?_;refine J1 ?_)
 all_goals
 refine aQ Tryz.results157 (λ w hw=>?_)
 refine⟨?_,hw.done⟩
 first|(rw[decide_eq_false (show ¬Ds r n from λ h=>by have:=h.1;have:=h.2;omega)];rfl)|(rw[yi (by omega)];rfl)
theorem Lk{n:Nd}{xs:List Int}{N:Nat}{w:World}(e1:n.brN=xs.length)(ha:Cl w n.brA (aG xs))(hx:xs.length<4611686018427387904) :
  Calls Tryz.prog 159 #[n.v,.int .i64 ((N:Nat):Int)] w λ e w'=>∃r:Bool,e=.returned (.bool r)/\(r=true↔Sl n xs N)/\St w [] [] w':=by
 refine enter Tryz.func159 Tryz.ntmps159 rfl rfl (SF.s1 ha) ?_
 simp only[cD]
 simp only[Nd.v,Nd.cells,e1]
 refine J0 ?_;refine bK (λ x2=>?_);refine iO ?_;refine hZ ?_;refine dJ ?_;refine P4 ?_;refine cZ ?_
 refine oI [4,6,10,11,12,13,14,15,16,17,18] (λ k=>[(10,.int .i64 ((k:Nat):Int))]) (λ k=>k<=xs.length/\∀i,i<k->Ds (xs.getD i 0) N) (λ k=>_) (λ _=>_) (λ _=>_) (λ k=>xs.length-k) (0) (⟨Nat.zero_le _,λ i hi=>absurd hi (Nat.not_lt_zero i)⟩) (λ k f hx=>?_)
 dsimp only[iA,List.map,List.cons_append,List.nil_append]
 refine J0 ?_;refine Cf ?_;refine aS ?_
 refine aZ (λ c11=>?_) (λ c11=>?_)
 ·refine rR ?_;refine J0 ?_;refine Qq ?_;refine zI ?_;refine aN (cV (hc:=λ w1 hw=>wI _ N w1)) (λ x16=>?_);refine oU ?_
  refine aZ (λ c17=>?_) (λ c17=>?_)
  ·refine cP ?_
   refine aQ Tryz.results159 (λ w hw=>?_)
   exact⟨false,rfl,⟨(λ h=>nomatch h),λ h=>absurd (h.1 k (by omega)) (by assumption)⟩,hw.done⟩
  ·refine oP ?_;refine qt ?_;refine P4 ?_
   refine jG (k+1) ?_
   ·exact⟨by omega,λ i hi=>by rcases Nat.lt_succ_iff_lt_or_eq.1 hi with h|rfl;exact hx.2 i h;assumption⟩
 ·refine bR rfl ?_;refine hZ ?_;refine aA ?_;refine aN (cV (hc:=λ w1 hw=>wI _ N w1)) (λ x22=>?_);refine aA ?_
  (refine dX 23 (λ g23=>?_) (λ g23=>?_)<;>(first|refine aI ?_|(refine aE ?_;refine aF ?_)))
  all_goals (refine fv ?_;(first|refine aI ?_|(refine aE ?_;refine aN (cV (hc:=λ w1 hw=>wI _ N w1)) (λ x27=>?_)));refine bY ?_;refine aA ?_)
  all_goals (first|refine aI ?_|(refine dX 29 (λ g29=>?_) (λ g29=>?_)<;>(first|refine aI ?_|(refine aE ?_;refine aF ?_))))
  all_goals (refine fv ?_;(first|refine aI ?_|(refine aE ?_;refine aN (cV (hc:=λ w1 hw=>wI _ N w1)) (λ x33=>?_)));refine bY ?_;refine J1 ?_)
  all_goals
  refine aQ Tryz.results159 (λ w hw=>?_)
  have hall:∀i,i<xs.length->Ds (xs.getD i 0) N:=λ i hi=>hx.2 i (by omega)
  first|exact⟨_,rfl,by simp_all[Sl],hw.done⟩
theorem fx(n:Nd)(w:World):Calls Tryz.prog 160 #[n.v] w λ e w'=>e=.returned (.tuple #[.int .i64 ((fX n).getD 0),.bool (fX n).isSome])/\St w [] [] w':=by
 refine enter Tryz.func160 Tryz.ntmps160 rfl rfl (SF.s0 w) ?_
 simp only[cD]
 simp only[Nd.v,Nd.cells]
 refine J0 ?_;refine bK (λ x1=>?_);refine J8 ?_;refine Co ?_;refine hZ ?_;refine Qs ?_
 refine aZ (λ c4=>?_) (λ c4=>?_)
 ·refine hZ ?_;refine J8 ?_
  refine aY Tryz.results160 (λ w hw=>?_)
  refine⟨?_,hw.done⟩
  (rw[show fX n=some n.main by simp[fX,c4]];rfl)
 ·refine oC ?_;refine aD (c0 (V:=.bool) (hc:=λ w1 hw=>Qy n w1)) (λ x12 h12=>?_);refine J1 ?_
  refine aZ (λ c10=>?_) (λ c10=>?_)
  ·have k22:n.kind=3∨n.kind=5∨n.kind=6:=h12.1 c10
   refine hZ ?_;refine J8 ?_
   refine aY Tryz.results160 (λ w hw=>?_)
   refine⟨?_,hw.done⟩
   (rw[show fX n=some n.prev by simp only[fX];rw[if_neg c4,if_pos k22]];rfl)
  ·have k22:¬(n.kind=3∨n.kind=5∨n.kind=6):=λ k=>by rw[h12.2 k] at c10;cases c10
   refine hZ ?_;refine Qs ?_
   refine aZ (λ c15=>?_) (λ c15=>?_)
   ·refine hZ ?_;refine J8 ?_
    refine aY Tryz.results160 (λ w hw=>?_)
    refine⟨?_,hw.done⟩
    (rw[show fX n=some n.status by simp only[fX];rw[if_neg c4,if_neg k22,if_pos c15]];rfl)
   ·refine oP ?_;refine P2 ?_
    refine aY Tryz.results160 (λ w hw=>?_)
    refine⟨?_,hw.done⟩
    (rw[show fX n=none by simp only[fX];rw[if_neg c4,if_neg k22,if_neg c15]];rfl)
end

/- Proper states: the walk through the program's check. -/
section
open Go.RowKit Go.Ct
set_option maxRecDepth 100000 in
theorem M4{L:List aP}{cs:List Int}{gen:Int}{pn pc:Option Addr}{cn cc:Nat}{w:World}(h:qT w L cs pn pc)(hL:L.length<=274877906944)(hC:cs.length<=274877906944) :
    Calls Tryz.prog 117 #[.agg ⟨[.slice pn L.length cn,.slice pc cs.length cc,.int .i64 gen]⟩] w λ e w'=>∃r:Bool,e=.returned (.bool r)/\(r=true↔fY L cs gen)/\St w [] [] w':=by
  refine enter Tryz.func117 Tryz.ntmps117 rfl rfl h.start ?_
  simp only[cD]
  refine J0 ?_;refine bK (λ x1=>?_);refine iO ?_;refine hZ ?_;refine dJ ?_;refine Az ?_
  (refine dX 14 (λ g14=>?_) (λ g14=>?_)<;>(first|refine aI ?_|(refine aE ?_;refine aF ?_)))
  all_goals (refine yf ?_;refine aH ?_)
  all_goals
   refine aZ (λ c18=>?_) (λ c18=>?_)
   · all_goals refine cP ?_
     all_goals
      refine aQ Tryz.results117 (λ w hw=>?_)
      exact⟨false,rfl,⟨(λ h=>nomatch h),λ hp=>by have h1:=hp.two;have h2:=hp.gen0;exfalso;omega⟩,hw.done⟩
   · try exact nv c18
     all_goals (refine kK ?_;refine hZ ?_;refine aC (sB (k:=0) rf rf gA eP fin (by omega) (by omega)) rfl ?_;refine aF ?_;refine aC (vD (q:=0) rf fR fin (by omega)) rfl ?_;refine lU ?_;refine aA ?_)
     all_goals ((refine dX 25 (λ g25=>?_) (λ g25=>?_)<;>(first|refine aI ?_|(refine aE ?_;refine aF ?_))))
     all_goals ((first|refine aI ?_|(refine aE ?_;refine bP ?_));(first|refine aI ?_|(refine aE ?_;refine aC (sB (k:=1) rf rf gA eP fin (by omega) (by omega)) rfl ?_));(first|refine aI ?_|(refine aE ?_;refine aF ?_));(first|refine aI ?_|(refine aE ?_;refine aC (vD (q:=1) rf fR fin (by omega)) rfl ?_));refine Q9 ?_;refine aH ?_)
     all_goals
      refine aZ (λ c32=>?_) (λ c32=>?_)
      · all_goals refine cP ?_
        all_goals
         refine aQ Tryz.results117 (λ w hw=>?_)
         exact⟨false,rfl,⟨(λ h=>nomatch h),λ hp=>by have h1:=hp.m0;have h2:=hp.m1;exfalso;omega⟩,hw.done⟩
      · try exact nv c32
        all_goals (refine kK ?_;refine hZ ?_;refine dJ ?_;refine P4 ?_;refine cZ ?_)
        all_goals
         refine hY [2,4,36,37,38,39,40,41,42,43,44,45,46] (λ k=>[(36,.int .i64 ((k:Nat):Int))]) (λ k=>k<=cs.length/\∀i,i<k->Ds (cs.getD i 0) L.length) (λ k=>cs.length-k) (0) (⟨Nat.zero_le _,λ i hi=>absurd hi (Nat.not_lt_zero i)⟩) ?_ (λ k f hx=>?_)
         · repeat (first|exact bG _|refine bA (by exact rfl) ?_)
         dsimp only[iA,List.map,List.cons_append,List.nil_append]
         refine J0 ?_;refine Cf ?_;refine aS ?_
         refine aZ (λ c37=>?_) (λ c37=>?_)
         · refine rR ?_;refine J0 ?_;refine Qq ?_;refine J1 ?_;refine J2 ?_;refine Qt ?_;refine aN (cV (hc:=λ w1 hw=>wI _ _ w1)) (λ x44=>?_);refine oU ?_
           refine aZ (λ c45=>?_) (λ c45=>?_)
           · refine cP ?_
             refine aQ Tryz.results117 (λ w hw=>?_)
             exact⟨false,rfl,⟨(λ h=>nomatch h),λ hp=>absurd (hp.cells k (by omega)) (by assumption)⟩,hw.done⟩
           · refine oP ?_;refine qt ?_;refine P4 ?_
             refine fD (k+1) ?_ ?_ ?_
             · omega
             · repeat' (first|exact bG _|refine bA ?_ ?_)
               exact rfl
             · exact⟨by omega,λ i hi=>by rcases Nat.lt_succ_iff_lt_or_eq.1 hi with h|rfl;exact hx.2 i h;assumption⟩
         · refine bR rfl ?_;refine hZ ?_;refine dJ ?_;refine vR (λ x50=>?_);refine iO ?_;refine hZ ?_;refine dJ ?_;refine P4 ?_;refine cZ ?_
           have hcells:∀i,i<cs.length->Ds (cs.getD i 0) L.length:=λ i hi=>hx.2 i (by omega)
           clear hx
           refine oI [2,7,8,9,54,55,56,57,58,59,60,61,62,63,64,65,66,67,68,69,70,71,72,73,74,75,76,77,78,79,80,81,82,83,84,85,86,87,88,89,90,91,92,93,94,95,96,97,98,99,100,101,102,103] (λ y:Nat×List Bool=>[(54,.int .i64 ((y.1:Nat):Int))]) (λ y=>y.1<=L.length/\marks cs.length (L.take y.1)=some y.2/\∀i,i<y.1->mL gen L.length (L.getD i aP.zero)) (λ _=>_) (λ _=>_) (λ y=>[⟨some ⟨x50,0,none⟩,jI y.2,cs.length,4,1⟩]) (λ y=>L.length-y.1) ((0,List.replicate cs.length false)) (⟨Nat.zero_le _,rfl,λ i hi=>absurd hi (Nat.not_lt_zero i)⟩) (λ y f hx=>?_)
           dsimp only[iA,List.map,List.cons_append,List.nil_append]
           have hu:=A9 hx.2.1
           refine J0 ?_;refine Cf ?_;refine aS ?_
           refine aZ (λ c55=>?_) (λ c55=>?_)
           · refine rR ?_;refine J0 ?_;refine Qq ?_;refine aJ (λ x7=>?_);refine J5 ?_;refine aS ?_;refine oC ?_;refine aD (c0 (V:=.bool) (hc:=λ w1 hw=>Wg (hw.Qj h.fit (by omega)))) (λ x59 h59=>?_);refine Cb ?_
             (refine dX 61 (λ g61=>?_) (λ g61=>?_)<;>(first|refine aI ?_|(refine aE ?_;refine aF ?_)))
             all_goals (refine Ci ?_;refine zJ ?_;refine aA ?_)
             all_goals (first|refine aI ?_|(refine dX 68 (λ g68=>?_) (λ g68=>?_)<;>(first|refine aI ?_|(refine aE ?_;refine bP ?_))))
             all_goals (refine Rh ?_;(first|refine aI ?_|(refine aE ?_;refine aD (c0 (V:=.bool) (hc:=λ w1 hw=>Lk (hw.Qj h.fit (by omega)).brN (hw.Qj h.fit (by omega)).br (hw.Qj h.fit (by omega)).brS)) (λ x73 h73=>?_)));refine Mv ?_;refine aH ?_)
             all_goals
              refine aZ (λ c75=>?_) (λ c75=>?_)
              · all_goals refine cP ?_
                all_goals
                 refine aQ Tryz.results117 (λ w hw=>?_)
                 refine⟨false,rfl,⟨(λ h=>nomatch h),λ hp=>?_⟩,hw.done⟩
                 obtain⟨q1,q2,q3⟩:=hp.nodes y.1 (by omega)
                 first|(exfalso;omega)|(have:=h59.2 q1;simp_all;done) 
              · try exact nv c75
                all_goals
                 have hok:mL gen L.length (L.getD y.1 aP.zero):=⟨h59.1 (by simp_all),by omega,h73.1 (by simp_all)⟩
                all_goals (refine aX ?_;refine oC ?_;refine aN (cV (hc:=λ w1 hw=>fx (L.getD y.1 aP.zero).nd w1)) (λ x78=>?_);refine Lc ?_;refine J8 ?_;refine kX ?_;refine oU ?_)
                all_goals
                 refine aZ (λ c82=>?_) (λ c82=>?_)
                 · have hmk:eI (some y.2) (L.getD y.1 aP.zero).nd=some y.2:=by
                    have e:fX (L.getD y.1 aP.zero).nd=none:=by cases hq:fX (L.getD y.1 aP.zero).nd<;>simp_all
                    simp only[eI,e]
                   refine bR rfl ?_;refine qt ?_;refine P4 ?_
                   refine jG ((y.1+1,(eI (some y.2) (L.getD y.1 aP.zero).nd).getD y.2)) ?_ (hw1:=λ w hw=>by rw[hmk];exact hw.back)
                   · refine⟨by omega,by rw[nI (by omega),hx.2.1,hmk];rfl,λ i hi=>?_⟩
                     rcases Nat.lt_succ_iff_lt_or_eq.1 hi with h|rfl
                     · exact hx.2.2 i h
                     · exact hok
                 · obtain⟨c,hc⟩:∃c,fX (L.getD y.1 aP.zero).nd=some c:=Option.isSome_iff_exists.1 c82
                   rw[hc,Option.getD_some]
                   refine kK ?_;refine J2 ?_;refine Az ?_
                   (refine dX 85 (λ g85=>?_) (λ g85=>?_)<;>(first|refine aI ?_|(refine aE ?_;refine aA ?_)))
                   all_goals (refine Rh ?_;refine zJ ?_;refine aA ?_)
                   all_goals (first|refine aI ?_|(refine dX 92 (λ g92=>?_) (λ g92=>?_)<;>(first|refine aI ?_|(refine aE ?_;refine aA ?_))))
                   all_goals ((first|refine aI ?_|(refine aE ?_;refine aA ?_));(first|refine aI ?_|(refine aE ?_;refine aC (Mr rf rf (by omega) (by omega)) rfl ?_));(first|refine aI ?_|(refine aE ?_;refine aC (nW rf rf gA fR fin (by omega) (by omega)) rfl ?_));(first|refine aI ?_|(refine aE ?_;refine aC (Ah rf fR fin (by omega)) rfl ?_));refine bY ?_;refine aH ?_)
                   all_goals
                    refine aZ (λ c98=>?_) (λ c98=>?_)
                    · all_goals refine cP ?_
                      all_goals
                       refine aQ Tryz.results117 (λ w hw=>?_)
                       refine⟨false,rfl,⟨(λ h=>nomatch h),λ hp=>?_⟩,hw.done⟩
                       have hm:marks cs.length (L.take (y.1+1))=none:=by
                        rw[nI (by omega),hx.2.1]
                        simp only[eI,hc]
                        refine if_neg λ hh=>?_
                        obtain⟨q1,q2,q3⟩:=hh
                        first|(exfalso;omega)|(exfalso;rw[q3] at c98;cases c98)
                       exact absurd (Fi hm) hp.marks
                    · try exact nv c98
                      all_goals
                       have hmk:eI (some y.2) (L.getD y.1 aP.zero).nd=some (y.2.set (c-1).toNat true):=by
                        simp only[eI,hc]
                        rw[if_pos ⟨by omega,by omega,c98⟩]
                      all_goals (refine aX ?_;refine Ih ?_;refine aC (Mr rf rf (by omega) (by omega)) rfl ?_;refine aC (nW rf rf gA fR fin (by omega) (by omega)) rfl ?_;refine J5 ?_;refine fF ?_;refine qt ?_;refine P4 ?_)
                      all_goals
                       refine jG ((y.1+1,(eI (some y.2) (L.getD y.1 aP.zero).nd).getD y.2)) ?_ (hw1:=λ w hw=>by rw[hmk];exact hw.back)
                       · refine⟨by omega,by rw[nI (by omega),hx.2.1,hmk];rfl,λ i hi=>?_⟩
                         rcases Nat.lt_succ_iff_lt_or_eq.1 hi with h|rfl
                         · exact hx.2.2 i h
                         · exact hok
           · refine bR rfl ?_;refine cP ?_
             refine aQ Tryz.results117 (λ w hw=>?_)
             have hy:y.1=L.length:=by omega
             have hmm:marks cs.length L=some y.2:=by have:=hx.2.1;rwa [hy,List.take_length] at this
             exact⟨true,rfl,⟨λ _=>⟨by omega,by omega,by omega,by omega,hcells,λ i hi=>hx.2.2 i (by omega),by rw[hmm];exact λ h=>nomatch h⟩,λ _=>rfl⟩,hw.done⟩
end

end Go.Proofs.YtbajmaoegmbfgaaGreat
