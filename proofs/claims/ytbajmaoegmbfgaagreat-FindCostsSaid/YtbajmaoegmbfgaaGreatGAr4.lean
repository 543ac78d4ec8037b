/- Merged. -/
import Derived.Test.YtbajmaoegmbfgaaGreatGNode2
import Derived.Test.YtbajmaoegmbfgaaGreatGFun
import Derived.Test.YtbajmaoegmbfgaaGreatAuto
set_option linter.unusedSimpArgs false
set_option linter.unusedVariables false
namespace Go.Proofs.YtbajmaoegmbfgaaGreat
open Go.Proofs.Tryz
open Go.RowKit Go.Ct
section
variable{w:World}{D:List Nat}{b:Nat}{L:List aR}{cs:List Int}{gen acc:Int}{pn pc:Option Addr}{cn cc:Nat}{A:Fr}
variable{n:Nd}{xs:List Int}{ys:List Pr}
theorem H5(init : Int)(hs : SF w D [(b, mO L cs gen acc pn cn pc cc)] [(n.brA, aH xs), (n.prA, dI ys)] [] (mW L cs pn cn pc cc) w)(e1 : n.brN = xs.length)(e2 : n.prN = ys.length)(h1 : xs.length ≤ 274877906944)(h2 : ys.length ≤ 274877906944)(hl : L.length ≤ 274877906944)(hc : cs.length ≤ 274877906944) :
    Calls prog 92 #[.pointer (some ⟨b, 0, none⟩), n.v, .int .i64 init] w fun e w' => ∃ x : AX, e = .returned (.int .i64 ((L.length + 1 : Nat) : Int)) ∧ True ∧
      SF w D [(b, mO (L ++ [pW n xs ys cs.length x]) (fJ n.kind cs init) gen acc x.pn x.cn x.pc x.cc)] [] (pW n xs ys cs.length x).fr (mW (L ++ [pW n xs ys cs.length x]) (fJ n.kind cs init) x.pn x.cn x.pc x.cc) w' := by
  refine enter func92 ntmps92 rfl rfl (zI hs) ?_;simp only [cC];simp only [Nd.v, Nd.cells];refine J0 ?_; refine bL (fun x4 => ?_); refine J1 ?_; refine J0 ?_; refine aE ?_; refine lU (fun _ => ?_); refine aE ?_; refine lU (fun _ => ?_); refine vU ?_; refine B9 ?_; refine aG ?_; refine cR ?_; refine lN ?_;refine bD (fun c12 => ?_) (fun c12 => ?_)
  · try (exfalso; omega)
    refine Jl ?_; refine aD (cM (hc := fun w hs => mA init hs hc)) (fun x16 h16 => ?_); refine vU ?_; refine eV ?_; refine J0 ?_; refine iU (fun x32 => ?_); refine J3 ?_; (refine fI (fun x35 => ?_); try (refine eP (fun h35 => ?_))); refine vU ?_; refine J0 ?_; refine iU (fun x37 => ?_); refine J3 ?_; (refine fI (fun x40 => ?_); try (refine eP (fun h40 => ?_))); refine vU ?_; refine aV ?_; refine eM [(0, []), (1, []), (2, []), (3, []), (4, []), (5, []), (6, []), (7, [5]), (8, []), (9, []), (10, []), (11, []), (12, [])] ?_; refine aT ?_; refine yX ?_; refine bW ?_; refine cG (h := fun x49 => ?_); ((refine dD (i := 8) (hq := (bE.eW (fX (sz := 14) rf rf Al (by rw [eC]) fin rfl rfl P9 rfl (by decide) gS om) vS)) (h := fun x50 => ?_); try (refine eL (fun h50 => ?_)))); refine J4 ?_; refine aX ?_; refine Ca ?_; refine Jg ?_; refine Sx ?_; refine J1 ?_;refine aS results92 (fun w hw => ?_);have h2 := (hw.freeze .head).freeze .head;simp only [sZ, List.nil_append] at h2
    have h3 := h2.bA (H' := [(b, _)]) (F' := [(x35.1, aH xs), (x40.1, dI ys)]) (O' := [_, _]);exact ⟨⟨x50.1, x50.2, x16.1, x16.2, x35.1, x35.2, x40.1, x40.2⟩, rfl, trivial, by simpa [mO, aO, mW, pW, aR.fr, fJ, kM, Nd.cells, *] using h3⟩
  · try (exfalso; omega)
    refine aV ?_; refine lN ?_;refine bD (fun c18 => ?_) (fun c18 => ?_)
    · try (exfalso; omega)
      refine aW ?_;refine bD (fun c18 => ?_) (fun c18 => ?_)
      · try (exfalso; omega)
        refine Jl ?_; refine aD (cM (hc := fun w hs => mA init hs hc)) (fun x24 h24 => ?_); refine vU ?_; refine eV ?_; refine J0 ?_; refine iU (fun x32 => ?_); refine J3 ?_; (refine fI (fun x35 => ?_); try (refine eP (fun h35 => ?_))); refine vU ?_; refine J0 ?_; refine iU (fun x37 => ?_); refine J3 ?_; (refine fI (fun x40 => ?_); try (refine eP (fun h40 => ?_))); refine vU ?_; refine aV ?_; refine eM [(0, []), (1, []), (2, []), (3, []), (4, []), (5, []), (6, []), (7, [5]), (8, []), (9, []), (10, []), (11, []), (12, [])] ?_; refine aT ?_; refine yX ?_; refine bW ?_; refine cG (h := fun x49 => ?_); ((refine dD (i := 8) (hq := (bE.eW (fX (sz := 14) rf rf Al (by rw [eC]) fin rfl rfl P9 rfl (by decide) gS om) vS)) (h := fun x50 => ?_); try (refine eL (fun h50 => ?_)))); refine J4 ?_; refine aX ?_; refine Ca ?_; refine Jg ?_; refine Sx ?_; refine J1 ?_;refine aS results92 (fun w hw => ?_);have h2 := (hw.freeze .head).freeze .head;simp only [sZ, List.nil_append] at h2
        have h3 := h2.bA (H' := [(b, _)]) (F' := [(x35.1, aH xs), (x40.1, dI ys)]) (O' := [_, _]);exact ⟨⟨x50.1, x50.2, x24.1, x24.2, x35.1, x35.2, x40.1, x40.2⟩, rfl, trivial, by simpa [mO, aO, mW, pW, aR.fr, fJ, kM, Nd.cells, *] using h3⟩
      · try (exfalso; omega)
    · try (exfalso; omega)
      refine lN ?_;refine bD (fun c18 => ?_) (fun c18 => ?_)
      · try (exfalso; omega)
        refine aW ?_;refine bD (fun c18 => ?_) (fun c18 => ?_)
        · try (exfalso; omega)
          refine Jl ?_; refine aD (cM (hc := fun w hs => mA init hs hc)) (fun x24 h24 => ?_); refine vU ?_; refine eV ?_; refine J0 ?_; refine iU (fun x32 => ?_); refine J3 ?_; (refine fI (fun x35 => ?_); try (refine eP (fun h35 => ?_))); refine vU ?_; refine J0 ?_; refine iU (fun x37 => ?_); refine J3 ?_; (refine fI (fun x40 => ?_); try (refine eP (fun h40 => ?_))); refine vU ?_; refine aV ?_; refine eM [(0, []), (1, []), (2, []), (3, []), (4, []), (5, []), (6, []), (7, [5]), (8, []), (9, []), (10, []), (11, []), (12, [])] ?_; refine aT ?_; refine yX ?_; refine bW ?_; refine cG (h := fun x49 => ?_); ((refine dD (i := 8) (hq := (bE.eW (fX (sz := 14) rf rf Al (by rw [eC]) fin rfl rfl P9 rfl (by decide) gS om) vS)) (h := fun x50 => ?_); try (refine eL (fun h50 => ?_)))); refine J4 ?_; refine aX ?_; refine Ca ?_; refine Jg ?_; refine Sx ?_; refine J1 ?_;refine aS results92 (fun w hw => ?_);have h2 := (hw.freeze .head).freeze .head;simp only [sZ, List.nil_append] at h2
          have h3 := h2.bA (H' := [(b, _)]) (F' := [(x35.1, aH xs), (x40.1, dI ys)]) (O' := [_, _]);exact ⟨⟨x50.1, x50.2, x24.1, x24.2, x35.1, x35.2, x40.1, x40.2⟩, rfl, trivial, by simpa [mO, aO, mW, pW, aR.fr, fJ, kM, Nd.cells, *] using h3⟩
        · try (exfalso; omega)
      · try (exfalso; omega)
        refine dU ?_; refine S7 ?_;refine bD (fun c18 => ?_) (fun c18 => ?_)
        · try (exfalso; omega)
          refine Jl ?_; refine aD (cM (hc := fun w hs => mA init hs hc)) (fun x24 h24 => ?_); refine vU ?_; refine eV ?_; refine J0 ?_; refine iU (fun x32 => ?_); refine J3 ?_; (refine fI (fun x35 => ?_); try (refine eP (fun h35 => ?_))); refine vU ?_; refine J0 ?_; refine iU (fun x37 => ?_); refine J3 ?_; (refine fI (fun x40 => ?_); try (refine eP (fun h40 => ?_))); refine vU ?_; refine aV ?_; refine eM [(0, []), (1, []), (2, []), (3, []), (4, []), (5, []), (6, []), (7, [5]), (8, []), (9, []), (10, []), (11, []), (12, [])] ?_; refine aT ?_; refine yX ?_; refine bW ?_; refine cG (h := fun x49 => ?_); ((refine dD (i := 8) (hq := (bE.eW (fX (sz := 14) rf rf Al (by rw [eC]) fin rfl rfl P9 rfl (by decide) gS om) vS)) (h := fun x50 => ?_); try (refine eL (fun h50 => ?_)))); refine J4 ?_; refine aX ?_; refine Ca ?_; refine Jg ?_; refine Sx ?_; refine J1 ?_;refine aS results92 (fun w hw => ?_);have h2 := (hw.freeze .head).freeze .head;simp only [sZ, List.nil_append] at h2
          have h3 := h2.bA (H' := [(b, _)]) (F' := [(x35.1, aH xs), (x40.1, dI ys)]) (O' := [_, _]);exact ⟨⟨x50.1, x50.2, x24.1, x24.2, x35.1, x35.2, x40.1, x40.2⟩, rfl, trivial, by simpa [mO, aO, mW, pW, aR.fr, fJ, kM, Nd.cells, *] using h3⟩
        · try (exfalso; omega)
          refine lN ?_;refine bD (fun c26 => ?_) (fun c26 => ?_)
          · try (exfalso; omega)
            refine Jl ?_; refine aD (cM (hc := fun w hs => mA init hs hc)) (fun x30 h30 => ?_); refine vU ?_; refine eV ?_; refine J0 ?_; refine iU (fun x32 => ?_); refine J3 ?_; (refine fI (fun x35 => ?_); try (refine eP (fun h35 => ?_))); refine vU ?_; refine J0 ?_; refine iU (fun x37 => ?_); refine J3 ?_; (refine fI (fun x40 => ?_); try (refine eP (fun h40 => ?_))); refine vU ?_; refine aV ?_; refine eM [(0, []), (1, []), (2, []), (3, []), (4, []), (5, []), (6, []), (7, [5]), (8, []), (9, []), (10, []), (11, []), (12, [])] ?_; refine aT ?_; refine yX ?_; refine bW ?_; refine cG (h := fun x49 => ?_); ((refine dD (i := 8) (hq := (bE.eW (fX (sz := 14) rf rf Al (by rw [eC]) fin rfl rfl P9 rfl (by decide) gS om) vS)) (h := fun x50 => ?_); try (refine eL (fun h50 => ?_)))); refine J4 ?_; refine aX ?_; refine Ca ?_; refine Jg ?_; refine Sx ?_; refine J1 ?_;refine aS results92 (fun w hw => ?_);have h2 := (hw.freeze .head).freeze .head;simp only [sZ, List.nil_append] at h2
            have h3 := h2.bA (H' := [(b, _)]) (F' := [(x35.1, aH xs), (x40.1, dI ys)]) (O' := [_, _]);exact ⟨⟨x50.1, x50.2, x30.1, x30.2, x35.1, x35.2, x40.1, x40.2⟩, rfl, trivial, by simpa [mO, aO, mW, pW, aR.fr, fJ, kM, Nd.cells, *] using h3⟩
          · try (exfalso; omega)
            refine pP ?_; refine J0 ?_; refine iU (fun x32 => ?_); refine J3 ?_; (refine fI (fun x35 => ?_); try (refine eP (fun h35 => ?_))); refine vU ?_; refine J0 ?_; refine iU (fun x37 => ?_); refine J3 ?_; (refine fI (fun x40 => ?_); try (refine eP (fun h40 => ?_))); refine vU ?_; refine aV ?_; refine eM [(0, []), (1, []), (2, []), (3, []), (4, []), (5, []), (6, []), (7, [5]), (8, []), (9, []), (10, []), (11, []), (12, [])] ?_; refine aT ?_; refine yX ?_; refine bW ?_; refine cG (h := fun x49 => ?_); ((refine dD (i := 8) (hq := (bE.eW (fX (sz := 14) rf rf Al (by rw [eC]) fin rfl rfl P9 rfl (by decide) gS om) vS)) (h := fun x50 => ?_); try (refine eL (fun h50 => ?_)))); refine J4 ?_; refine aX ?_; refine Ca ?_; refine Jg ?_; refine Sx ?_; refine J1 ?_;refine aS results92 (fun w hw => ?_);have h2 := (hw.freeze .head).freeze .head;simp only [sZ, List.nil_append] at h2
            have h3 := h2.bA (H' := [(b, _)]) (F' := [(x35.1, aH xs), (x40.1, dI ys)]) (O' := [_, _]);exact ⟨⟨x50.1, x50.2, pc, cc, x35.1, x35.2, x40.1, x40.2⟩, rfl, trivial, by simpa [mO, aO, mW, pW, aR.fr, fJ, kM, Nd.cells, *] using h3⟩
theorem tI{m c:Nat}{p:Option Addr}{v1 v2 v3:Value}(hs:SF w D [(b,.cells ⟨[.slice p m c,v1,v2,v3]⟩ 139 (0,0))] A [] [] w)(hl:m<=274877906945):Calls prog 81 #[.pointer (some ⟨b,0,none⟩)] w λ e w'=>∃q:Unit,e=.returned (.int .i64 ((m+2:Nat):Int))/\True /\
  SF w D [(b,.cells ⟨[.slice p m c,v1,v2,v3]⟩ 139 (0,0))] [] [] [] w':=by refine enter func81 ntmps81 rfl rfl hs ?_;simp only[cC];refine cX ?_;refine mY ?_;refine dW ?_;refine Eb ?_;refine J1 ?_;refine aS results81 (λ w hw=>?_);exact⟨(),by rw[show(2:Int)+(m:Int)=((m+2:Nat):Int) by omega];rfl,trivial,hw.bA⟩
theorem du(init : Int)(hs : SF w D [(b, aO L cs gen acc pn cn pc cc)] [(n.brA, aH xs), (n.prA, dI ys)] [] (mW L cs pn cn pc cc) w)(e1 : n.brN = xs.length)(e2 : n.prN = ys.length)(h1 : xs.length ≤ 274877906944)(h2 : ys.length ≤ 274877906944)(hl : L.length ≤ 274877906944)(hc : cs.length ≤ 274877906944) :
    Calls prog 29 #[.pointer (some ⟨b, 0, none⟩), n.v, .int .i64 init] w fun e w' => ∃ x : AX, e = .returned (.int .i64 ((L.length + 3 : Nat) : Int)) ∧ True ∧
      SF w D [(b, aO (L ++ [pW n xs ys cs.length x]) (fJ n.kind cs init) gen acc x.pn x.cn x.pc x.cc)] [] (pW n xs ys cs.length x).fr (mW (L ++ [pW n xs ys cs.length x]) (fJ n.kind cs init) x.pn x.cn x.pc x.cc) w' := by
  refine enter func29 ntmps29 rfl rfl (Bb hs) ?_;simp only [cC];simp only [Nd.v, Nd.cells];refine J0 ?_; refine bL (fun x4 => ?_); refine J1 ?_; refine nG ?_; refine aD (cF (V := fun p : Option Addr × Option Addr => .agg ⟨[.int .i64 n.kind, .int .i64 n.gen, .int .i64 n.main, .int .u64 n.bm, .slice p.1 n.brN xs.length, .int .u64 n.hash, .string n.key, .int .u64 n.val, .slice p.2 n.prN ys.length, .int .i64 n.prev, .int .i64 n.bR, .int .i64 n.exp, .int .i64 n.new, .int .i64 n.status]⟩) (hc := fun w1 hw => W2 (n := n) ⟨e1, e2, hw.cl (.bR .head), hw.cl (.bR (.tail .head)), by omega, by omega⟩ (by omega) (by omega))) (fun x8 h8 => ?_); refine J5 ?_; refine J0 ?_; refine aE ?_; refine lU (fun _ => ?_); refine aE ?_; refine lU (fun _ => ?_); refine vU ?_; refine Dm ?_; refine iB ?_; refine S7 ?_;refine bD (fun c12 => ?_) (fun c12 => ?_)
  · try (exfalso; omega)
    refine Jl ?_; refine aD (cM (hc := fun w hs => Ai init hs hc)) (fun x18 h18 => ?_); refine vU ?_; refine eV ?_; refine aV ?_; refine eM [(0, []), (1, []), (2, []), (3, []), (4, []), (5, []), (6, [4]), (7, []), (8, []), (9, []), (10, [])] ?_; refine cg ?_; refine bW ?_; refine cG (h := fun x41 => ?_); ((refine dD (i := 7) (hq := (bE.eW (fX (sz := 14) rf rf Al (by rw [eC]) fin rfl rfl P9 rfl (by decide) gS om) vS)) (h := fun x42 => ?_); try (refine eL (fun h42 => ?_)))); refine J88 ?_; refine J2 ?_; refine aD (cM (hc := fun w hs => tI (m := L.length + 1) hs (by omega))) (fun x46 h46 => ?_); refine J1 ?_;refine aS results29 (fun w hw => ?_);have h3 := hw.bA (H' := [(b, _)]) (F' := [(x8.1, aH xs), (x8.2, dI ys)]) (O' := [_, _]);exact ⟨⟨x42.1, x42.2, x18.1, x18.2, x8.1, xs.length, x8.2, ys.length⟩, rfl, trivial, by simpa [mO, aO, mW, pW, aR.fr, fJ, kM, Nd.cells, *] using h3⟩
  · try (exfalso; omega)
    refine nG ?_; refine aD (c0 (V := .bool) (hc := fun w1 hw => Vi ({ n with main := 0, prev := 0, status := 0, brA := x8.1, brC := xs.length, prA := x8.2, dI := ys.length } : Nd) w1)) (fun x22 h22 => ?_); refine J1 ?_;refine bD (fun c20 => ?_) (fun c20 => ?_)
    · try (exfalso; omega)
      have k22 : n.kind = 3 ∨ n.kind = 5 ∨ n.kind = 6 := h22.1 c20;rcases k22 with k22 | k22 | k22
      all_goals (refine Jl ?_; refine aD (cM (hc := fun w hs => Ai init hs hc)) (fun x25 h25 => ?_); refine vU ?_; refine eV ?_; refine aV ?_; refine eM [(0, []), (1, []), (2, []), (3, []), (4, []), (5, []), (6, [4]), (7, []), (8, []), (9, []), (10, [])] ?_; refine cg ?_; refine bW ?_; refine cG (h := fun x41 => ?_); ((refine dD (i := 7) (hq := (bE.eW (fX (sz := 14) rf rf Al (by rw [eC]) fin rfl rfl P9 rfl (by decide) gS om) vS)) (h := fun x42 => ?_); try (refine eL (fun h42 => ?_)))); refine J88 ?_; refine J2 ?_; refine aD (cM (hc := fun w hs => tI (m := L.length + 1) hs (by omega))) (fun x46 h46 => ?_); refine J1 ?_)
      all_goals
       refine aS results29 (fun w hw => ?_);have h3 := hw.bA (H' := [(b, _)]) (F' := [(x8.1, aH xs), (x8.2, dI ys)]) (O' := [_, _]);exact ⟨⟨x42.1, x42.2, x25.1, x25.2, x8.1, xs.length, x8.2, ys.length⟩, rfl, trivial, by simpa [mO, aO, mW, pW, aR.fr, fJ, kM, Nd.cells, *] using h3⟩
    · try (exfalso; omega)
      have k22 : ¬ (n.kind = 3 ∨ n.kind = 5 ∨ n.kind = 6) := fun k => by rw [h22.2 k] at c20; cases c20
      obtain ⟨k3, k56⟩ := not_or.1 k22
      obtain ⟨k5, k6⟩ := not_or.1 k56
      refine iB ?_; refine S7 ?_;refine bD (fun c27 => ?_) (fun c27 => ?_)
      · try (exfalso; omega)
        refine Jl ?_; refine aD (cM (hc := fun w hs => Ai init hs hc)) (fun x33 h33 => ?_); refine vU ?_; refine eV ?_; refine aV ?_; refine eM [(0, []), (1, []), (2, []), (3, []), (4, []), (5, []), (6, [4]), (7, []), (8, []), (9, []), (10, [])] ?_; refine cg ?_; refine bW ?_; refine cG (h := fun x41 => ?_); ((refine dD (i := 7) (hq := (bE.eW (fX (sz := 14) rf rf Al (by rw [eC]) fin rfl rfl P9 rfl (by decide) gS om) vS)) (h := fun x42 => ?_); try (refine eL (fun h42 => ?_)))); refine J88 ?_; refine J2 ?_; refine aD (cM (hc := fun w hs => tI (m := L.length + 1) hs (by omega))) (fun x46 h46 => ?_); refine J1 ?_;refine aS results29 (fun w hw => ?_);have h3 := hw.bA (H' := [(b, _)]) (F' := [(x8.1, aH xs), (x8.2, dI ys)]) (O' := [_, _]);exact ⟨⟨x42.1, x42.2, x33.1, x33.2, x8.1, xs.length, x8.2, ys.length⟩, rfl, trivial, by simpa [mO, aO, mW, pW, aR.fr, fJ, kM, Nd.cells, *] using h3⟩
      · try (exfalso; omega)
        refine pP ?_; refine aV ?_; refine eM [(0, []), (1, []), (2, []), (3, []), (4, []), (5, []), (6, [4]), (7, []), (8, []), (9, []), (10, [])] ?_; refine cg ?_; refine bW ?_; refine cG (h := fun x41 => ?_); ((refine dD (i := 7) (hq := (bE.eW (fX (sz := 14) rf rf Al (by rw [eC]) fin rfl rfl P9 rfl (by decide) gS om) vS)) (h := fun x42 => ?_); try (refine eL (fun h42 => ?_)))); refine J88 ?_; refine J2 ?_; refine aD (cM (hc := fun w hs => tI (m := L.length + 1) hs (by omega))) (fun x46 h46 => ?_); refine J1 ?_;refine aS results29 (fun w hw => ?_);have h3 := hw.bA (H' := [(b, _)]) (F' := [(x8.1, aH xs), (x8.2, dI ys)]) (O' := [_, _]);exact ⟨⟨x42.1, x42.2, pc, cc, x8.1, xs.length, x8.2, ys.length⟩, rfl, trivial, by simpa [mO, aO, mW, pW, aR.fr, fJ, kM, Nd.cells, *] using h3⟩
end
end Go.Proofs.YtbajmaoegmbfgaaGreat
namespace Go.Ct
section
theorem Cl.na{w:Go.World}{cs:List Go.Value}(h:Cl w none cs):cs=[]:=by
 cases cs with
 | nil=>rfl
 | cons v r=>exact absurd (h.ptr (by simp)) (by simp)
theorem Zr{l:List Int}(h:aH l=[]):l=[]:=by simpa[aH] using h
theorem G4{L:List aR}{k:Nat}(h:k<2):aB (cO L) ((k+1:Nat):Int)=fG:=by rw[xG (by rw[pC];omega)];rcases(show k=0∨k=1 by omega) with rfl|rfl<;>rfl
theorem La{L:List aR}{k:Nat}(h:2<=k)(h2:k<L.length+2):aB (cO L) ((k+1:Nat):Int)=L.getD (k+1-2-1) aR.zero:=by rw[xG (by rw[pC];omega)];obtain⟨j,rfl⟩:∃j,k=j+2:=⟨k-2,by omega⟩;rw[show j+2+1-2-1=j by omega];rfl
end
end Go.Ct
namespace Go.Proofs.YtbajmaoegmbfgaaGreat
open Go.Proofs.Tryz
open Go.RowKit Go.Ct
section
variable{w:World}{D:List Nat}{b:Nat}{L:List aR}{cs:List Int}{gen acc:Int}{pn pc:Option Addr}{cn cc:Nat}{A:Fr}
theorem Vb{l:List Int}{a:Option Addr}{c:Nat}{w:World}(ha:Cl w a (aH l))(hl:l.length<=274877906944):Calls prog 84 #[.slice a l.length c] w λ e w' =>
  ∃x:Option Addr×Nat,e=.returned (.slice x.1 l.length x.2)/\True/\SF w [] [] [] [] [⟨x.1,aH l,x.2,37,1⟩] w':=by
 refine enter func84 ntmps84 rfl rfl (SF.s1 ha) ?_;simp only[cC];refine Ka6 ?_;refine tH ?_;refine bD (λ c4=>?_) (λ c4=>?_)
 ·have e0:a=none:=by cases a with|none=>rfl|some _=>cases c4
  subst e0;obtain rfl:=Zr ha.na;refine cX ?_;refine aS results84 (λ w hw=>?_);exact⟨(none,0),rfl,trivial,(hw.kQ 37 1).bA⟩
 ·refine aW ?_;refine J0 ?_;refine iU (λ x5=>?_);refine aA ?_;(refine fI (λ x7=>?_);try (refine eP (λ h7=>?_)));refine J1 ?_;refine aS results84 (λ w hw=>?_);exact⟨x7,by simp only[Nat.zero_add];rfl,trivial,by simpa using hw.bA (F':=[]) (H':=[])⟩
theorem cx(hs:SF w D [(b,aO L cs gen acc pn cn pc cc)] A [] (mW L cs pn cn pc cc) w)(r:Int)(hr:r<1)(hl:L.length<=274877906944) :
  Calls prog 36 #[.pointer (some ⟨b,0,none⟩),.int .i64 r] w λ e w'=>∃q:Option Addr×Option Addr,e=.returned ((aB (cO L) r).at_ q.1 q.2).nd.v/\True /\
  SF w D [(b,aO L cs gen acc pn cn pc cc)] [] [] (mW L cs pn cn pc cc++[⟨q.2,dI (aB (cO L) r).ys,(aB (cO L) r).ys.length,164,2⟩,⟨q.1,aH (aB (cO L) r).xs,(aB (cO L) r).xs.length,37,1⟩]) w':=by
 rw[qV (by omega)];refine enter func36 ntmps36 rfl rfl (Bb hs) ?_;simp only[cC];refine K0q ?_;intro x4;refine kF ?_;refine Au ?_;(refine eF 7 (λ g7=>?_) (λ g7=>?_)<;>(try (exfalso;omega))<;>(refine aI ?_));(refine aI ?_);(refine aI ?_);refine Ka7 ?_;refine bD (λ c12=>?_) (λ c12=>?_)
 ·try (exfalso;omega)
  refine Kc2 ?_;refine aY results36 (λ w hw=>?_);exact⟨(none,none),rfl,trivial,(hw.aBF 164 2 37 1).bA⟩
 ·exact nv c12
theorem kz(hs:SF w D [(b,aO L cs gen acc pn cn pc cc)] (aP L) [] (mW L cs pn cn pc cc) w)(hf:Fits L){k:Nat}(hk:(k:Int)<9223372036854775807)(hl:L.length<=274877906944) :
  Calls prog 36 #[.pointer (some ⟨b,0,none⟩),.int .i64 ((k+1:Nat):Int)] w λ e w'=>∃q:Option Addr×Option Addr,e=.returned ((aB (cO L) ((k+1:Nat):Int)).at_ q.1 q.2).nd.v/\True /\
  SF w D [(b,aO L cs gen acc pn cn pc cc)] [] [] (mW L cs pn cn pc cc++[⟨q.2,dI (aB (cO L) ((k+1:Nat):Int)).ys,(aB (cO L) ((k+1:Nat):Int)).ys.length,164,2⟩,⟨q.1,aH (aB (cO L) ((k+1:Nat):Int)).xs,(aB (cO L) ((k+1:Nat):Int)).xs.length,37,1⟩]) w':=by
 refine enter func36 ntmps36 rfl rfl (Bb hs) ?_;simp only[cC];refine K0q ?_;intro x4;refine kF ?_;refine Au ?_;(refine Ka3 ?_);((refine Ka3 ?_));((refine aF ?_;refine aD (cM (hc:=λ w hs=>tI (m:=L.length) hs (by omega))) (λ x10 h10=>?_)));refine Ka7 ?_;refine bD (λ c12=>?_) (λ c12=>?_)
 ·try (exfalso;omega)
  refine Kc2 ?_;refine aY results36 (λ w hw=>?_);exact⟨(none,none),by rw[qV (by rw[pC];omega)];rfl,trivial,by rw[qV (by rw[pC];omega)];exact(hw.aBF 164 2 37 1).bA⟩
 ·try (exfalso;omega)
  refine lH ?_;refine J2 ?_;refine wB ?_;refine aG ?_;refine bD (λ c15=>?_) (λ c15=>?_)
  ·try (exfalso;omega)
   refine Kc2 ?_;refine aY results36 (λ w hw=>?_);exact⟨(none,none),by rw[G4 (by omega)];rfl,trivial,by rw[G4 (by omega)];exact(hw.aBF 164 2 37 1).bA⟩
  ·try (exfalso;omega)
   refine J83 ?_;refine aA ?_;refine aC (by exact jX (n:=2) rf rf (by omega) (by omega)) rfl ?_;refine aC (by exact kf rf rf (by omega) (by omega)) rfl ?_;refine Pz ?_;refine aD (Zv (Hc:=λ _=>[]) (Fc:=λ _=>[]) (V:=λ p:Option Addr×Option Addr=>((L.getD (k+1-2-1) aR.zero).at_ p.1 p.2).nd.v) (hc:=λ w1 hw=>X6 (hw.aCv hf (by omega)) (hf.at (by omega)).brS (hf.at (by omega)).prS)) (λ x26 h26=>?_);refine J5 ?_;refine aY results36 (λ w hw=>?_);exact⟨x26,by rw[La (by omega) (by omega)];rfl,trivial,by rw[La (by omega) (by omega)];exact hw.toEnd.bA⟩
end
section
variable{w:World}{D:List Nat}{b:Nat}{L:List aR}{cs:List Int}{gen acc:Int}{pn pc:Option Addr}{cn cc:Nat}{A:Fr}
theorem xd(hs:SF w D [(b,aO L cs gen acc pn cn pc cc)] (aP L) [] (mW L cs pn cn pc cc) w)(hf:Fits L)(r:Int)(hr:r<=9223372036854775807)(hl:L.length<=274877906944) :
  Calls prog 36 #[.pointer (some ⟨b,0,none⟩),.int .i64 r] w λ e w'=>∃q:Option Addr×Option Addr,e=.returned (.agg ⟨((aB (cO L) r).at_ q.1 q.2).nd.cells⟩)/\True /\
  SF w D [(b,aO L cs gen acc pn cn pc cc)] [] [] (mW L cs pn cn pc cc++[⟨q.2,dI (aB (cO L) r).ys,(aB (cO L) r).ys.length,164,2⟩,⟨q.1,aH (aB (cO L) r).xs,(aB (cO L) r).xs.length,37,1⟩]) w':=by
 rcases Int.lt_or_le r 1 with h|h;·exact cx hs r h hl
 ·obtain⟨k,rfl⟩:∃k:Nat,r=((k+1:Nat):Int):=⟨(r-1).toNat,by omega⟩;exact kz hs hf (by omega) hl
end
section
theorem aCV (n : Nd) (w : World) : Calls prog 197 #[n.v] w fun e w' => e = .returned n.own.v ∧ St w [] [] w' := by
 refine enter func197 ntmps197 rfl rfl (SF.s0 w) ?_;simp only [cC];refine J0 ?_; refine bL (fun x1 => ?_); refine aJ (fun x2 => ?_); refine aG ?_; refine iB ?_; refine bN ?_; refine aJ (fun x3 => ?_); refine J5 ?_; refine B9 ?_; refine aG ?_; refine cR ?_; refine Dm ?_; refine Dm ?_; refine Dm ?_; refine Dm ?_; refine Dm ?_; refine Dm ?_; refine Dm ?_; refine aV ?_; refine aV ?_; refine lN ?_;refine bD (fun c9 => ?_) (fun c9 => ?_);·refine bS rfl ?_; refine aV ?_; refine eM [(0, []), (1, []), (2, []), (3, []), (4, []), (5, [3]), (6, []), (7, [])] ?_; refine mI ?_; refine mI ?_; refine aX ?_; refine Tx ?_; refine Ca ?_; refine bS rfl ?_; refine nG ?_; refine J5 ?_;refine aY results197 (fun w hw => ?_);exact ⟨by simp only [Nd.own, beq_iff_eq, *, if_true, if_false]; rfl, hw.done⟩
 ·refine lH ?_; refine lN ?_;refine bD (fun c11 => ?_) (fun c11 => ?_);·refine bS rfl ?_; refine aV ?_; refine eM [(0, []), (1, []), (2, []), (3, []), (4, []), (5, []), (6, []), (7, [3, 5]), (8, []), (9, [5]), (10, []), (11, [])] ?_; refine mI ?_; refine mI ?_; refine mI ?_; refine aX ?_; refine Tx ?_; refine Tx ?_; refine Ca ?_; refine bS rfl ?_; refine nG ?_; refine J5 ?_;refine aY results197 (fun w hw => ?_);exact ⟨by simp only [Nd.own, beq_iff_eq, *, if_true, if_false]; rfl, hw.done⟩
  ·refine lH ?_; refine lN ?_;refine bD (fun c13 => ?_) (fun c13 => ?_);·refine bS rfl ?_; refine dU ?_; refine J3 ?_; refine vU ?_; refine eV ?_; refine aV ?_; refine eM [(0, []), (1, []), (2, []), (3, []), (4, []), (5, []), (6, []), (7, [3, 5]), (8, []), (9, [5]), (10, []), (11, [])] ?_; refine mI ?_; refine mI ?_; refine mI ?_; refine aX ?_; refine Tx ?_; refine Tx ?_; refine Ca ?_; refine bS rfl ?_; refine nG ?_; refine J5 ?_;refine aY results197 (fun w hw => ?_);exact ⟨by simp only [Nd.own, beq_iff_eq, *, if_true, if_false]; rfl, hw.done⟩
   ·refine lH ?_; refine lN ?_;refine bD (fun c15 => ?_) (fun c15 => ?_);·refine bS rfl ?_; refine aV ?_; refine eM [(0, []), (1, []), (2, []), (3, []), (4, []), (5, []), (6, []), (7, [3, 5]), (8, []), (9, [5]), (10, []), (11, [])] ?_; refine mI ?_; refine mI ?_; refine mI ?_; refine aX ?_; refine Tx ?_; refine Tx ?_; refine Ca ?_; refine bS rfl ?_; refine nG ?_; refine J5 ?_;refine aY results197 (fun w hw => ?_);exact ⟨by simp only [Nd.own, beq_iff_eq, *, if_true, if_false]; rfl, hw.done⟩
    ·refine lH ?_; refine lN ?_;refine bD (fun c17 => ?_) (fun c17 => ?_);·refine bS rfl ?_; refine aV ?_; refine eM [(0, []), (1, []), (2, []), (3, []), (4, []), (5, []), (6, []), (7, [3, 5]), (8, []), (9, [5]), (10, []), (11, [])] ?_; refine mI ?_; refine mI ?_; refine mI ?_; refine aX ?_; refine Tx ?_; refine Tx ?_; refine Ca ?_; refine bS rfl ?_; refine nG ?_; refine J5 ?_;refine aY results197 (fun w hw => ?_);exact ⟨by simp only [Nd.own, beq_iff_eq, *, if_true, if_false]; rfl, hw.done⟩
     ·refine lH ?_; refine lN ?_;refine bD (fun c19 => ?_) (fun c19 => ?_);·refine bS rfl ?_; refine eM [(0, []), (1, []), (2, []), (3, []), (4, []), (5, []), (6, []), (7, [3, 5]), (8, []), (9, [5]), (10, []), (11, [])] ?_; refine mI ?_; refine mI ?_; refine mI ?_; refine aX ?_; refine Tx ?_; refine Tx ?_; refine Ca ?_; refine eV ?_; refine iB ?_; refine vU ?_; refine bS rfl ?_; refine nG ?_; refine J5 ?_;refine aY results197 (fun w hw => ?_);exact ⟨by simp only [Nd.own, beq_iff_eq, *, if_true, if_false]; rfl, hw.done⟩
      ·refine aW ?_; refine lN ?_;refine bD (fun c21 => ?_) (fun c21 => ?_);·refine bS rfl ?_; refine iB ?_; refine vU ?_; refine bS rfl ?_; refine nG ?_; refine J5 ?_;refine aY results197 (fun w hw => ?_);exact ⟨by simp only [Nd.own, beq_iff_eq, *, if_true, if_false]; rfl, hw.done⟩
       ·refine aW ?_; refine bS rfl ?_; refine nG ?_; refine J5 ?_;refine aY results197 (fun w hw => ?_);exact ⟨by simp only [Nd.own, beq_iff_eq, *, if_true, if_false]; rfl, hw.done⟩
end
section
theorem aCk(b:Int)(w:World):Calls prog 238 #[.int .u64 b] w λ e w'=>e=.returned (.int .i64 (xK b))/\St w [] [] w':=by refine enter func238 ntmps238 rfl rfl (SF.s0 w) ?_;simp only[cC];refine Kb4 ?_;refine D3 ?_;refine Av ?_;refine aA ?_;refine Av ?_;refine Eb ?_;refine Ka4 ?_;refine D3 ?_;refine Av ?_;refine aA ?_;refine Av ?_;refine Eb ?_;refine Ka4 ?_;refine D3 ?_;refine aA ?_;refine Eb ?_;refine Av ?_;refine zO ?_;refine D3 ?_;refine Eb ?_;refine zO ?_;refine D3 ?_;refine Eb ?_;refine zO ?_;refine D3 ?_;refine Eb ?_;refine Ka4 ?_;refine gP ?_;refine Av ?_;refine J1 ?_;refine aS results238 (λ w hw=>?_);exact⟨rfl,hw.done⟩
theorem Ob(b:Int)(w:World):Calls prog 198 #[.int .u64 b] w λ e w'=>e=.returned (.int .i64 (xK b))/\St w [] [] w':=by refine enter func198 ntmps198 rfl rfl (SF.s0 w) ?_;simp only[cC];refine Kb4 ?_;refine aN (cV (hc:=λ w1 hw=>aCk b w1)) (λ x4=>?_);refine J1 ?_;refine aS results198 (λ w hw=>?_);exact⟨rfl,hw.done⟩
theorem K8{n:Nd}{xs:List Int}{ys:List Pr}{w:World}(hr:sE w n xs ys) :
  Calls prog 158 #[n.v] w λ e w'=>∃r:Bool,e=.returned (.bool r)/\(r=true↔cJ n xs ys)/\St w [] [] w':=by
 have e1:=hr.brN;have e2:=hr.prN;refine enter func158 ntmps158 rfl rfl (SF.s0 w) ?_;simp only[cC]
 refine J0 ?_;refine bL (λ x1=>?_);refine jG ?_;refine aV ?_;refine eM [(0,[]),(1,[]),(2,[0]),(3,[]),(4,[])] ?_;refine bW ?_;refine bW ?_;refine dD (i:=2) (hq:=(cV (hc:=λ w1 hw=>aCV n w1))) (h:=λ x5=>?_);refine bK (i:=3) (hq:=(c0 (V:=.bool) (hc:=λ w1 hw=>aBf (hr.fU hw.st) (hr.fU hw.st).own))) (h:=λ x6 h6=>?_);refine ry ?_;refine eS ?_;refine bD (λ c7=>?_) (λ c7=>?_);·refine cX ?_;refine K2e ?_;intro w hw;refine⟨_,rfl,?_,hw.done⟩;(simp_all[cJ];done)
 ·refine lH ?_;refine iB ?_;refine Au ?_;(refine eF 11 (λ g11=>?_) (λ g11=>?_)<;>refine Ka1 ?_);all_goals (refine J89 ?_;refine aA ?_)
  all_goals (first|refine aI ?_|(refine eF 16 (λ g16=>?_) (λ g16=>?_)<;>refine Ka1 ?_))
  all_goals (refine J89 ?_;refine aG ?_)
  all_goals
  refine bD (λ c20=>?_) (λ c20=>?_)
  ·all_goals refine cX ?_
   all_goals refine K2e ?_;intro w hw;refine⟨_,rfl,?_,hw.done⟩;(simp_all[cJ];omega)
  ·try exact nv c20
   all_goals (refine lH ?_;refine iB ?_;refine aG ?_;refine cR ?_;refine Dm ?_;refine Dm ?_;refine Dm ?_;refine Dm ?_;refine cR ?_;refine Dm ?_;refine Dm ?_;refine Dm ?_;refine aV ?_;refine aV ?_;refine lN ?_)
   all_goals
    refine bD (λ c23=>?_) (λ c23=>?_);·refine bS rfl ?_;refine aV ?_;refine cX ?_;refine K2e ?_;intro w hw;refine⟨_,rfl,?_,hw.done⟩;(simp_all[cJ];done)
    ·refine lH ?_;refine lN ?_;refine bD (λ c25=>?_) (λ c25=>?_);·refine bS rfl ?_;refine B9 ?_;refine lK ?_;refine J1 ?_;refine K2e ?_;intro w hw;refine⟨_,rfl,?_,hw.done⟩;(simp_all[cJ];done)
     ·refine lH ?_;refine lN ?_;refine bD (λ c27=>?_) (λ c27=>?_)
      ·refine bS rfl ?_;refine aV ?_;refine aV ?_;refine eM [(0,[]),(1,[]),(2,[]),(3,[]),(4,[]),(5,[1]),(6,[]),(7,[]),(8,[]),(9,[]),(10,[]),(11,[]),(12,[])] ?_;refine mI ?_;refine pX ?_;refine mI ?_;refine dD (i:=5) (hq:=(cV (hc:=λ w1 hw=>Ob n.bm w1))) (h:=λ x47=>?_);refine oW ?_;refine aT ?_;(refine qj 49 (λ g49=>?_) (λ g49=>?_)<;>(first|refine iA ?_|(refine aX ?_)));all_goals ((first|refine iA ?_|(refine bW ?_));(first|refine iA ?_|(refine bK (i:=10) (hq:=(c0 (V:=.bool) (hc:=λ w1 hw=>by rw[e1];exact Uh (hr.br.fU hw.st) hr.brS))) (h:=λ x52 h52=>?_)));refine jY ?_;refine J7 ?_)
       all_goals
       refine K2e ?_;intro w hw;refine⟨_,rfl,?_,hw.done⟩;(simp_all[cJ];done)
      ·refine lH ?_;refine lN ?_;refine bD (λ c29=>?_) (λ c29=>?_);·refine az ?_;refine B9 ?_;refine kT ?_;refine wB ?_;refine J1 ?_;refine K2e ?_;intro w hw;refine⟨_,rfl,?_,hw.done⟩;(simp_all[cJ];omega)
       ·refine lH ?_;refine lN ?_;refine bD (λ c31=>?_) (λ c31=>?_);·refine bS rfl ?_;refine B9 ?_;refine kT ?_;refine wB ?_;refine J1 ?_;refine K2e ?_;intro w hw;refine⟨_,rfl,?_,hw.done⟩;(simp_all[cJ];omega)
        ·refine lH ?_;refine lN ?_;refine bD (λ c33=>?_) (λ c33=>?_)
         ·refine bS rfl ?_;refine B9 ?_;refine dW ?_;refine lK ?_;refine aA ?_;(refine eF 62 (λ g62=>?_) (λ g62=>?_)<;>refine Ka1 ?_);all_goals (refine Ka2 ?_;(first|refine aI ?_|(refine aF ?_;refine aD (c0 (V:=.bool) (hc:=λ w1 hw=>by rw[e2];exact K5 (hr.pr.fU hw.st) hr.prS)) (λ x65 h65=>?_)));refine Kb9 ?_)
          all_goals (first|refine aI ?_|(refine eF 67 (λ g67=>?_) (λ g67=>?_)<;>refine Ka1 ?_))
          all_goals (refine Ka2 ?_;(first|refine aI ?_|(refine aF ?_;refine aD (c0 (V:=.bool) (hc:=λ w1 hw=>by rw[e2];exact Pg (hr.pr.fU hw.st) hr.prS)) (λ x70 h70=>?_)));refine Kb8 ?_)
          all_goals
          refine K2e ?_;intro w hw;refine⟨_,rfl,?_,hw.done⟩;first|(simp_all[cJ];done)|(simp_all[cJ];omega)
         ·refine lH ?_;refine lN ?_;refine bD (λ c35=>?_) (λ c35=>?_)
          ·refine bS rfl ?_;refine iB ?_;refine Au ?_;(refine eF 75 (λ g75=>?_) (λ g75=>?_)<;>refine Ka1 ?_);all_goals (refine J89 ?_;refine aG ?_)
           all_goals
           refine bD (λ c79=>?_) (λ c79=>?_)
           ·all_goals refine cX ?_
            all_goals refine K2e ?_;intro w hw;refine⟨_,rfl,?_,hw.done⟩;(simp_all[cJ];omega)
           ·try exact nv c79
            all_goals (refine pP ?_;refine B9 ?_;refine lK ?_;refine J1 ?_)
            all_goals refine K2e ?_;intro w hw;refine⟨_,rfl,?_,hw.done⟩;(simp_all[cJ];done)
          ·refine aW ?_;refine lN ?_;refine bD (λ c37=>?_) (λ c37=>?_);·refine bS rfl ?_;refine B9 ?_;refine lK ?_;refine J1 ?_;refine K2e ?_;intro w hw;refine⟨_,rfl,?_,hw.done⟩;(simp_all[cJ];done)
           ·refine aW ?_;refine K1u ?_;refine K2e ?_;intro w hw;refine⟨_,rfl,?_,hw.done⟩;(simp_all[cJ];done)
end
end Go.Proofs.YtbajmaoegmbfgaaGreat
namespace Go.Ct
section
def gI(n:Nd):Option Int:=if n.kind=2 then some n.main else if n.kind=3∨n.kind=5∨n.kind=6 then some n.prev else if n.kind=8 then some n.status else none
def eU(u:Option (List Bool))(n:Nd):Option (List Bool) :=
 match u with
 | none=>none
 | some u=>match gI n with
  | none=>some u
  | some c=>if 1<=c/\c<=u.length/\u.getD (c-1).toNat false=false then some (u.set (c-1).toNat true) else none
def marks(m:Nat)(L:List aR):Option (List Bool):=L.foldl (λ u v=>eU u v.nd) (some (List.replicate m false))
variable{m k:Nat}
theorem nV{L:List aR}(h:k<L.length):marks m (L.take (k+1))=eU (marks m (L.take k)) (L.getD k aR.zero).nd:=by rw[marks,List.take_succ_eq_append_getElem h,List.foldl_append,jA,List.getElem?_eq_getElem h];rfl
theorem F6{L:List aR}(h:marks m (L.take k)=none):marks m L=none:=by
 have e:L=L.take k++L.drop k:=(List.take_append_drop k L).symm;rw[e,marks,List.foldl_append];rw[marks] at h;rw[h];generalize L.drop k=l;induction l with
 | nil=>rfl
 | cons v l ih=>exact ih
theorem Db:∀{L:List aR} {u:List Bool},marks m L=some u->u.length=m:=by
 intro L;have key:∀(l:List aR) (u0:Option (List Bool)),(∀u,u0=some u->u.length=m)->∀u,l.foldl (λ u v=>eU u v.nd) u0=some u->u.length=m:=by
  intro l;induction l with
  | nil=>intro u0 h u hu;exact h u hu
  | cons v l ih=>
   intro u0 h u hu;refine ih (eU u0 v.nd) (λ u1 h1=>?_) u hu;cases u0 with
   | none=>simp[eU] at h1
   | some u2=>
    have:=h u2 rfl;simp only[eU] at h1;cases hc:gI v.nd with
    | none=>rw[hc] at h1;simp only[Option.some.injEq] at h1;rw[<- h1];exact this
    | some c=>
     rw[hc] at h1;simp only at h1;split at h1;·simp only[Option.some.injEq] at h1;rw[<- h1,List.length_set];exact this
     ·cases h1
 intro u hu;exact key L _ (λ u h=>by simp only[Option.some.injEq] at h;rw[<- h];simp) u hu
def E3(r:Int)(n:Nat):Prop:=0<=r/\r<=(n:Int)
instance (r:Int) (n:Nat):Decidable (E3 r n):=inferInstanceAs (Decidable (0<=r/\r<=(n:Int)))
theorem aBP{r:Int}{n:Nat}(h:0<=r):decide (E3 r n)=decide (r<=(n:Int)):=by
 by_cases h2:r<=(n:Int);·rw[decide_eq_true h2,decide_eq_true ⟨h,h2⟩]
 ·rw[decide_eq_false h2,decide_eq_false λ h3=>h2 h3.2]
def U4(n:Nd)(xs:List Int)(N:Nat):Prop:=(∀i,i<xs.length->E3 (xs.getD i 0) N)/\E3 n.bR N/\E3 n.exp N/\E3 n.new N
def nF(gen:Int)(N:Nat)(v:aR):Prop:=cJ v.nd v.xs v.ys/\v.nd.gen<=gen/\U4 v.nd v.xs N
structure fW(L:List aR)(cs:List Int)(gen:Int):Prop where
 two:2<=L.length
 gen0:0<=gen
 m0:(L.getD 0 aR.zero).nd.kind=1
 m1:(L.getD 1 aR.zero).nd.kind=1
 cells:∀i,i<cs.length->E3 (cs.getD i 0) L.length
 nodes:∀i,i<L.length->nF gen L.length (L.getD i aR.zero)
 marks:marks cs.length L≠none
end
end Go.Ct
namespace Go.Proofs.YtbajmaoegmbfgaaGreat
open Go.Proofs.Tryz
open Go.RowKit Go.Ct
section
theorem wW(r:Int)(n:Nat)(w:World):Calls prog 157 #[.int .i64 r,.int .i64 ((n:Nat):Int)] w λ e w'=>e=.returned (.bool (decide (E3 r n)))/\St w [] [] w':=by
 refine enter func157 ntmps157 rfl rfl (SF.s0 w) ?_;simp only[cC];refine Kb4 ?_;refine lK ?_;refine aA ?_;(refine eF 7 (λ g7=>?_) (λ g7=>?_)<;>refine Ka0 ?_);all_goals (refine Ka0 ?_;(first|refine aI ?_|(refine aF ?_;refine wB ?_));refine Kb8 ?_)
 all_goals
 refine aS results157 (λ w hw=>?_);refine⟨?_,hw.done⟩;first|(rw[decide_eq_false (show ¬E3 r n from λ h=>by have:=h.1;have:=h.2;omega)];rfl)|(rw[aBP (by omega)];rfl)
theorem Np{n:Nd}{xs:List Int}{N:Nat}{w:World}(e1:n.brN=xs.length)(ha:Cl w n.brA (aH xs))(hx:xs.length<4611686018427387904) :
  Calls prog 159 #[n.v,.int .i64 ((N:Nat):Int)] w λ e w'=>∃r:Bool,e=.returned (.bool r)/\(r=true↔U4 n xs N)/\St w [] [] w':=by
 refine enter func159 ntmps159 rfl rfl (SF.s1 ha) ?_;simp only[cC];simp only[Nd.v,Nd.cells,e1];refine K1k ?_;intro x2;refine jG ?_;refine iB ?_;refine K1p ?_;refine nB [4,6,10,11,12,13,14,15,16,17,18] (λ k=>[(10,.int .i64 ((k:Nat):Int))]) (λ k=>k<=xs.length/\∀i,i<k->E3 (xs.getD i 0) N) (λ k=>_) (λ _=>_) (λ _=>_) (λ k=>xs.length-k) (0) (⟨Nat.zero_le _,λ i hi=>absurd hi (Nat.not_lt_zero i)⟩) (λ k f hx=>?_);refine K0a ?_;refine K1b ?_;refine bD (λ c11=>?_) (λ c11=>?_)
 ·refine sG ?_;refine J0 ?_;refine Pz ?_;refine zO ?_;refine aN (cV (hc:=λ w1 hw=>wW _ N w1)) (λ x16=>?_);refine oD ?_;refine bD (λ c17=>?_) (λ c17=>?_);·refine cX ?_;refine aS results159 (λ w hw=>?_);exact⟨false,rfl,⟨(λ h=>nomatch h),λ h=>absurd (h.1 k (by omega)) (by assumption)⟩,hw.done⟩
  ·refine pP ?_;refine mq ?_;refine Jm ?_;refine iX (k+1) ?_;·exact⟨by omega,λ i hi=>by rcases Nat.lt_succ_iff_lt_or_eq.1 hi with h|rfl;exact hx.2 i h;assumption⟩
 ·refine bS rfl ?_;refine Kc3 ?_;refine aN (cV (hc:=λ w1 hw=>wW _ N w1)) (λ x22=>?_);refine aA ?_;(refine eF 23 (λ g23=>?_) (λ g23=>?_)<;>refine Ka1 ?_);all_goals (refine Zg ?_;(first|refine aI ?_|(refine aF ?_;refine aN (cV (hc:=λ w1 hw=>wW _ N w1)) (λ x27=>?_)));refine Kb9 ?_)
  all_goals (first|refine aI ?_|(refine eF 29 (λ g29=>?_) (λ g29=>?_)<;>refine Ka1 ?_))
  all_goals (refine Zg ?_;(first|refine aI ?_|(refine aF ?_;refine aN (cV (hc:=λ w1 hw=>wW _ N w1)) (λ x33=>?_)));refine Kb8 ?_)
  all_goals
  refine aS results159 (λ w hw=>?_);have hall:∀i,i<xs.length->E3 (xs.getD i 0) N:=λ i hi=>hx.2 i (by omega);first|exact⟨_,rfl,by simp_all[U4],hw.done⟩
theorem kh(n:Nd)(w:World):Calls prog 160 #[n.v] w λ e w'=>e=.returned (.tuple #[.int .i64 ((gI n).getD 0),.bool (gI n).isSome])/\St w [] [] w':=by
 refine enter func160 ntmps160 rfl rfl (SF.s0 w) ?_;simp only[cC];simp only[Nd.v,Nd.cells];refine J0 ?_;refine bL (λ x1=>?_);refine J8 ?_;refine Dm ?_;refine iB ?_;refine S7 ?_;refine bD (λ c4=>?_) (λ c4=>?_);·refine iB ?_;refine J8 ?_;refine aY results160 (λ w hw=>?_);refine⟨?_,hw.done⟩;(rw[show gI n=some n.main by simp[gI,c4]];rfl)
 ·refine nG ?_;refine aD (c0 (V:=.bool) (hc:=λ w1 hw=>Vi n w1)) (λ x12 h12=>?_);refine J1 ?_;refine bD (λ c10=>?_) (λ c10=>?_);·have k22:n.kind=3∨n.kind=5∨n.kind=6:=h12.1 c10;refine iB ?_;refine J8 ?_;refine aY results160 (λ w hw=>?_);refine⟨?_,hw.done⟩;(rw[show gI n=some n.prev by simp only[gI];rw[if_neg c4,if_pos k22]];rfl)
  ·have k22:¬(n.kind=3∨n.kind=5∨n.kind=6):=λ k=>by rw[h12.2 k] at c10;cases c10
   refine iB ?_;refine S7 ?_;refine bD (λ c15=>?_) (λ c15=>?_);·refine iB ?_;refine J8 ?_;refine aY results160 (λ w hw=>?_);refine⟨?_,hw.done⟩;(rw[show gI n=some n.status by simp only[gI];rw[if_neg c4,if_neg k22,if_pos c15]];rfl)
   ·refine pP ?_;refine Iu ?_;refine aY results160 (λ w hw=>?_);refine⟨?_,hw.done⟩;(rw[show gI n=none by simp only[gI];rw[if_neg c4,if_neg k22,if_neg c15]];rfl)
end
section
set_option maxRecDepth 100000 in
theorem Pt{L:List aR}{cs:List Int}{gen:Int}{pn pc:Option Addr}{cn cc:Nat}{w:World}(h:rQ w L cs pn pc)(hL:L.length<=274877906944)(hC:cs.length<=274877906944) :
    Calls prog 117 #[.agg ⟨[.slice pn L.length cn,.slice pc cs.length cc,.int .i64 gen]⟩] w λ e w'=>∃r:Bool,e=.returned (.bool r)/\(r=true↔fW L cs gen)/\St w [] [] w':=by
     refine enter func117 ntmps117 rfl rfl h.start ?_;simp only[cC];refine J0 ?_;refine bL (λ x1=>?_);refine jG ?_;refine iB ?_;refine dW ?_;refine Au ?_;(refine eF 14 (λ g14=>?_) (λ g14=>?_)<;>refine Ka1 ?_);all_goals (refine J89 ?_;refine aG ?_)
     all_goals
      refine bD (λ c18=>?_) (λ c18=>?_)
      ·all_goals refine cX ?_
       all_goals refine aS results117 (λ w hw=>?_);exact⟨false,rfl,⟨(λ h=>nomatch h),λ hp=>by have h1:=hp.two;have h2:=hp.gen0;exfalso;omega⟩,hw.done⟩
      ·try exact nv c18
       all_goals (refine lH ?_;refine iB ?_;refine aC (sP (k:=0) rf rf gS eE fin (by omega) (by omega)) rfl ?_;refine aE ?_;refine aC (xS (q:=0) rf gB fin (by omega)) rfl ?_;refine mU ?_;refine aA ?_)
       all_goals ((refine eF 25 (λ g25=>?_) (λ g25=>?_)<;>refine Ka1 ?_))
       all_goals (refine Ka2 ?_;(first|refine aI ?_|(refine aF ?_;refine aC (sP (k:=1) rf rf gS eE fin (by omega) (by omega)) rfl ?_));refine Ka1 ?_;(first|refine aI ?_|(refine aF ?_;refine aC (xS (q:=1) rf gB fin (by omega)) rfl ?_));refine S4 ?_;refine aG ?_)
       all_goals
        refine bD (λ c32=>?_) (λ c32=>?_)
        ·all_goals refine cX ?_
         all_goals refine aS results117 (λ w hw=>?_);exact⟨false,rfl,⟨(λ h=>nomatch h),λ hp=>by have h1:=hp.m0;have h2:=hp.m1;exfalso;omega⟩,hw.done⟩
        ·try exact nv c32
         all_goals (refine lH ?_;refine iB ?_;refine dW ?_;refine Jm ?_;refine cR ?_)
         all_goals
          refine gK [2,4,36,37,38,39,40,41,42,43,44,45,46] (λ k=>[(36,.int .i64 ((k:Nat):Int))]) (λ k=>k<=cs.length/\∀i,i<k->E3 (cs.getD i 0) L.length) (λ k=>cs.length-k) (0) (⟨Nat.zero_le _,λ i hi=>absurd hi (Nat.not_lt_zero i)⟩) ?_ (λ k f hx=>?_);·repeat (first|exact bF _|refine bB (by exact rfl) ?_)
          refine K0a ?_;refine K1b ?_;refine bD (λ c37=>?_) (λ c37=>?_)
          ·refine sG ?_;refine J0 ?_;refine Pz ?_;refine Ka4 ?_;refine Sx ?_;refine aN (cV (hc:=λ w1 hw=>wW _ _ w1)) (λ x44=>?_);refine oD ?_;refine bD (λ c45=>?_) (λ c45=>?_);·refine cX ?_;refine aS results117 (λ w hw=>?_);exact⟨false,rfl,⟨(λ h=>nomatch h),λ hp=>absurd (hp.cells k (by omega)) (by assumption)⟩,hw.done⟩
           ·refine pP ?_;refine mq ?_;refine Jm ?_;refine eN (k+1) ?_ ?_ ?_;·omega
            ·repeat' (first|exact bF _|refine bB ?_ ?_)
             exact rfl
            ·exact⟨by omega,λ i hi=>by rcases Nat.lt_succ_iff_lt_or_eq.1 hi with h|rfl;exact hx.2 i h;assumption⟩
          ·refine bS rfl ?_;refine iB ?_;refine dW ?_;refine xL (λ x50=>?_);refine jG ?_;refine iB ?_;refine K1p ?_;have hcells:∀i,i<cs.length->E3 (cs.getD i 0) L.length:=λ i hi=>hx.2 i (by omega);clear hx;refine nB [2,7,8,9,54,55,56,57,58,59,60,61,62,63,64,65,66,67,68,69,70,71,72,73,74,75,76,77,78,79,80,81,82,83,84,85,86,87,88,89,90,91,92,93,94,95,96,97,98,99,100,101,102,103] (λ y:Nat×List Bool=>[(54,.int .i64 ((y.1:Nat):Int))]) (λ y=>y.1<=L.length/\marks cs.length (L.take y.1)=some y.2/\∀i,i<y.1->nF gen L.length (L.getD i aR.zero)) (λ _=>_) (λ _=>_) (λ y=>[⟨some ⟨x50,0,none⟩,jW y.2,cs.length,4,1⟩]) (λ y=>L.length-y.1) ((0,List.replicate cs.length false)) (⟨Nat.zero_le _,rfl,λ i hi=>absurd hi (Nat.not_lt_zero i)⟩) (λ y f hx=>?_);refine K0a ?_;have hu:=Db hx.2.1;refine K1b ?_;refine bD (λ c55=>?_) (λ c55=>?_)
           ·refine sG ?_;refine J0 ?_;refine Pz ?_;refine aJ (λ x7=>?_);refine J5 ?_;refine aV ?_;refine nG ?_;refine aD (c0 (V:=.bool) (hc:=λ w1 hw=>K8 (hw.Ql h.fit (by omega)))) (λ x59 h59=>?_);refine D5 ?_;(refine eF 61 (λ g61=>?_) (λ g61=>?_)<;>refine Ka1 ?_);all_goals (refine Co ?_;refine Bf ?_;refine aA ?_)
            all_goals (first|refine aI ?_|(refine eF 68 (λ g68=>?_) (λ g68=>?_)<;>refine Ka2 ?_))
            all_goals (refine U8 ?_;(first|refine aI ?_|(refine aF ?_;refine aD (c0 (V:=.bool) (hc:=λ w1 hw=>Np (hw.Ql h.fit (by omega)).brN (hw.Ql h.fit (by omega)).br (hw.Ql h.fit (by omega)).brS)) (λ x73 h73=>?_)));refine Kc4 ?_)
            all_goals
             refine bD (λ c75=>?_) (λ c75=>?_)
             ·all_goals refine cX ?_
              all_goals refine aS results117 (λ w hw=>?_);refine⟨false,rfl,⟨(λ h=>nomatch h),λ hp=>?_⟩,hw.done⟩;obtain⟨q1,q2,q3⟩:=hp.nodes y.1 (by omega);first|(exfalso;omega)|(have:=h59.2 q1;simp_all;done) 
             ·try exact nv c75
              all_goals have hok:nF gen L.length (L.getD y.1 aR.zero):=⟨h59.1 (by simp_all),by omega,h73.1 (by simp_all)⟩
              all_goals (refine aW ?_;refine nG ?_;refine aN (cV (hc:=λ w1 hw=>kh (L.getD y.1 aR.zero).nd w1)) (λ x78=>?_);refine Kb7 ?_;refine oD ?_)
              all_goals
               refine bD (λ c82=>?_) (λ c82=>?_)
               ·have hmk:eU (some y.2) (L.getD y.1 aR.zero).nd=some y.2:=by
                 have e:gI (L.getD y.1 aR.zero).nd=none:=by cases hq:gI (L.getD y.1 aR.zero).nd<;>simp_all
                 simp only[eU,e]
                refine bS rfl ?_;refine mq ?_;refine Jm ?_;refine iX ((y.1+1,(eU (some y.2) (L.getD y.1 aR.zero).nd).getD y.2)) ?_ (hw1:=λ w hw=>by rw[hmk];exact hw.back)
                ·refine⟨by omega,by rw[nV (by omega),hx.2.1,hmk];rfl,λ i hi=>?_⟩;rcases Nat.lt_succ_iff_lt_or_eq.1 hi with h|rfl;·exact hx.2.2 i h
                 ·exact hok
               ·obtain⟨c,hc⟩:∃c,gI (L.getD y.1 aR.zero).nd=some c:=Option.isSome_iff_exists.1 c82;rw[hc,Option.getD_some];refine lH ?_;refine J2 ?_;refine Au ?_;(refine eF 85 (λ g85=>?_) (λ g85=>?_)<;>refine Ka0 ?_);all_goals (refine U8 ?_;refine Bf ?_;refine aA ?_)
                all_goals (first|refine aI ?_|(refine eF 92 (λ g92=>?_) (λ g92=>?_)<;>refine Ka0 ?_))
                all_goals (refine Ka0 ?_;(first|refine aI ?_|(refine aF ?_;refine aC (Nn rf rf (by omega) (by omega)) rfl ?_));(first|refine aI ?_|(refine aF ?_;refine aC (pD rf rf gS gB fin (by omega) (by omega)) rfl ?_));(first|refine aI ?_|(refine aF ?_;refine aC (Bi rf gB fin (by omega)) rfl ?_));refine cH ?_;refine aG ?_)
                all_goals
                 refine bD (λ c98=>?_) (λ c98=>?_)
                 ·all_goals refine cX ?_
                  all_goals
                   refine aS results117 (λ w hw=>?_);refine⟨false,rfl,⟨(λ h=>nomatch h),λ hp=>?_⟩,hw.done⟩;have hm:marks cs.length (L.take (y.1+1))=none:=by rw[nV (by omega),hx.2.1];simp only[eU,hc];refine if_neg λ hh=>?_;obtain⟨q1,q2,q3⟩:=hh;first|(exfalso;omega)|(exfalso;rw[q3] at c98;cases c98)
                   exact absurd (F6 hm) hp.marks
                 ·try exact nv c98
                  all_goals have hmk:eU (some y.2) (L.getD y.1 aR.zero).nd=some (y.2.set (c-1).toNat true):=by simp only[eU,hc];rw[if_pos ⟨by omega,by omega,c98⟩]
                  all_goals (refine aW ?_;refine Jl ?_;refine aC (Nn rf rf (by omega) (by omega)) rfl ?_;refine aC (pD rf rf gS gB fin (by omega) (by omega)) rfl ?_;refine J5 ?_;refine eV ?_;refine mq ?_;refine Jm ?_)
                  all_goals
                   refine iX ((y.1+1,(eU (some y.2) (L.getD y.1 aR.zero).nd).getD y.2)) ?_ (hw1:=λ w hw=>by rw[hmk];exact hw.back)
                   ·refine⟨by omega,by rw[nV (by omega),hx.2.1,hmk];rfl,λ i hi=>?_⟩;rcases Nat.lt_succ_iff_lt_or_eq.1 hi with h|rfl;·exact hx.2.2 i h
                    ·exact hok
           ·refine K1u ?_;refine aS results117 (λ w hw=>?_);have hy:y.1=L.length:=by omega
            have hmm:marks cs.length L=some y.2:=by have:=hx.2.1;rwa [hy,List.take_length] at this
            exact⟨true,rfl,⟨λ _=>⟨by omega,by omega,by omega,by omega,hcells,λ i hi=>hx.2.2 i (by omega),by rw[hmm];exact λ h=>nomatch h⟩,λ _=>rfl⟩,hw.done⟩
end
end Go.Proofs.YtbajmaoegmbfgaaGreat
