/- Merged. -/
import Derived.Test.YtbajmaoegmbfgaaGreatGNode2
import Derived.Test.YtbajmaoegmbfgaaGreatGMem
import Derived.Test.YtbajmaoegmbfgaaGreatAuto
set_option linter.unusedSimpArgs false
set_option linter.unusedVariables false
namespace Go.Proofs.YtbajmaoegmbfgaaGreat
open Go.RowKit Go.Ct
section
variable{w:World}{D:List Nat}{b:Nat}{L:List aU}{cs:List Int}{gen acc:Int}{pn pc:Option Addr}{cn cc:Nat}{A:Fr}
theorem Gk {n : Nd} {xs : List Int} {ys : List Pr} (init : Int) (hs : SF w D [(b, mO L cs gen acc pn cn pc cc)] [(n.brA, aH xs), (n.prA, dE ys)] [] (mW L cs pn cn pc cc) w) (e1 : n.brN = xs.length) (e2 : n.prN = ys.length) (h1 : xs.length ≤ 274877906944) (h2 : ys.length ≤ 274877906944)
    (hl : L.length ≤ 274877906944) (hc : cs.length ≤ 274877906944) :
    Calls Tryz.prog 92 #[.pointer (some ⟨b, 0, none⟩), n.v, .int .i64 init] w fun e w' => ∃ x : AX, e = .returned (.int .i64 ((L.length + 1 : Nat) : Int)) ∧ True ∧
      SF w D [(b, mO (L ++ [kZ n xs ys cs.length x]) (eU n.kind cs init) gen acc x.pn x.cn x.pc x.cc)] [] (kZ n xs ys cs.length x).fr (mW (L ++ [kZ n xs ys cs.length x]) (eU n.kind cs init) x.pn x.cn x.pc x.cc) w' := by
  refine enter Tryz.func92 Tryz.ntmps92 rfl rfl (yM hs) ?_
  simp only [cE]
  simp only [Nd.v, Nd.cells]
  refine J0 ?_; refine bN (fun x4 => ?_); refine J1 ?_; refine J0 ?_; refine aE ?_; refine lC (fun _ => ?_); refine aE ?_; refine lC (fun _ => ?_); refine wV ?_; refine D3 ?_; refine aG ?_; refine cY ?_; refine lO ?_
  refine bE (fun c12 => ?_) (fun c12 => ?_)
  · try (exfalso; omega)
    refine Jv ?_; refine aC (cM (hc := fun w hs => lJ init hs hc)) (fun x16 h16 => ?_); refine wV ?_; refine eL ?_; refine J0 ?_; refine iO (fun x32 => ?_); refine J3 ?_; (refine fP (fun x35 => ?_); try (refine fD (fun h35 => ?_))); refine wV ?_; refine J0 ?_; refine iO (fun x37 => ?_); refine J3 ?_; (refine fP (fun x40 => ?_); try (refine fD (fun h40 => ?_))); refine wV ?_; refine aR ?_; refine eQ [(0, []), (1, []), (2, []), (3, []), (4, []), (5, []), (6, []), (7, [5]), (8, []), (9, []), (10, []), (11, []), (12, [])] ?_; refine bC ?_; refine yA ?_; refine bX ?_; refine cO (h := fun x49 => ?_); ((refine dC (i := 8) (hq := (bF.eX (fT (sz := 14) rf rf Ar (by rw [eA]) fin rfl rfl Q6 rfl (by decide) gO om) xN)) (h := fun x50 => ?_); try (refine fL (fun h50 => ?_)))); refine J4 ?_; refine aT ?_; refine Bb ?_; refine Ip ?_; refine R4 ?_; refine J1 ?_
    refine aN Tryz.results92 (fun w hw => ?_)
    have h2 := (hw.freeze .head).freeze .head
    simp only [sE, List.nil_append] at h2
    have h3 := h2.aX (H' := [(b, _)]) (F' := [(x35.1, aH xs), (x40.1, dE ys)]) (O' := [_, _])
    exact ⟨⟨x50.1, x50.2, x16.1, x16.2, x35.1, x35.2, x40.1, x40.2⟩, rfl, trivial, by simpa [mO, aO, mW, kZ, aU.fr, eU, kE, Nd.cells, *] using h3⟩
  · try (exfalso; omega)
    refine aR ?_; refine lO ?_
    refine bE (fun c18 => ?_) (fun c18 => ?_)
    · try (exfalso; omega)
      refine aS ?_
      refine bE (fun c18 => ?_) (fun c18 => ?_)
      · try (exfalso; omega)
        refine Jv ?_; refine aC (cM (hc := fun w hs => lJ init hs hc)) (fun x24 h24 => ?_); refine wV ?_; refine eL ?_; refine J0 ?_; refine iO (fun x32 => ?_); refine J3 ?_; (refine fP (fun x35 => ?_); try (refine fD (fun h35 => ?_))); refine wV ?_; refine J0 ?_; refine iO (fun x37 => ?_); refine J3 ?_; (refine fP (fun x40 => ?_); try (refine fD (fun h40 => ?_))); refine wV ?_; refine aR ?_; refine eQ [(0, []), (1, []), (2, []), (3, []), (4, []), (5, []), (6, []), (7, [5]), (8, []), (9, []), (10, []), (11, []), (12, [])] ?_; refine bC ?_; refine yA ?_; refine bX ?_; refine cO (h := fun x49 => ?_); ((refine dC (i := 8) (hq := (bF.eX (fT (sz := 14) rf rf Ar (by rw [eA]) fin rfl rfl Q6 rfl (by decide) gO om) xN)) (h := fun x50 => ?_); try (refine fL (fun h50 => ?_)))); refine J4 ?_; refine aT ?_; refine Bb ?_; refine Ip ?_; refine R4 ?_; refine J1 ?_
        refine aN Tryz.results92 (fun w hw => ?_)
        have h2 := (hw.freeze .head).freeze .head
        simp only [sE, List.nil_append] at h2
        have h3 := h2.aX (H' := [(b, _)]) (F' := [(x35.1, aH xs), (x40.1, dE ys)]) (O' := [_, _])
        exact ⟨⟨x50.1, x50.2, x24.1, x24.2, x35.1, x35.2, x40.1, x40.2⟩, rfl, trivial, by simpa [mO, aO, mW, kZ, aU.fr, eU, kE, Nd.cells, *] using h3⟩
      · try (exfalso; omega)
    · try (exfalso; omega)
      refine lO ?_
      refine bE (fun c18 => ?_) (fun c18 => ?_)
      · try (exfalso; omega)
        refine aS ?_
        refine bE (fun c18 => ?_) (fun c18 => ?_)
        · try (exfalso; omega)
          refine Jv ?_; refine aC (cM (hc := fun w hs => lJ init hs hc)) (fun x24 h24 => ?_); refine wV ?_; refine eL ?_; refine J0 ?_; refine iO (fun x32 => ?_); refine J3 ?_; (refine fP (fun x35 => ?_); try (refine fD (fun h35 => ?_))); refine wV ?_; refine J0 ?_; refine iO (fun x37 => ?_); refine J3 ?_; (refine fP (fun x40 => ?_); try (refine fD (fun h40 => ?_))); refine wV ?_; refine aR ?_; refine eQ [(0, []), (1, []), (2, []), (3, []), (4, []), (5, []), (6, []), (7, [5]), (8, []), (9, []), (10, []), (11, []), (12, [])] ?_; refine bC ?_; refine yA ?_; refine bX ?_; refine cO (h := fun x49 => ?_); ((refine dC (i := 8) (hq := (bF.eX (fT (sz := 14) rf rf Ar (by rw [eA]) fin rfl rfl Q6 rfl (by decide) gO om) xN)) (h := fun x50 => ?_); try (refine fL (fun h50 => ?_)))); refine J4 ?_; refine aT ?_; refine Bb ?_; refine Ip ?_; refine R4 ?_; refine J1 ?_
          refine aN Tryz.results92 (fun w hw => ?_)
          have h2 := (hw.freeze .head).freeze .head
          simp only [sE, List.nil_append] at h2
          have h3 := h2.aX (H' := [(b, _)]) (F' := [(x35.1, aH xs), (x40.1, dE ys)]) (O' := [_, _])
          exact ⟨⟨x50.1, x50.2, x24.1, x24.2, x35.1, x35.2, x40.1, x40.2⟩, rfl, trivial, by simpa [mO, aO, mW, kZ, aU.fr, eU, kE, Nd.cells, *] using h3⟩
        · try (exfalso; omega)
      · try (exfalso; omega)
        refine dJ ?_; refine Qq ?_
        refine bE (fun c18 => ?_) (fun c18 => ?_)
        · try (exfalso; omega)
          refine Jv ?_; refine aC (cM (hc := fun w hs => lJ init hs hc)) (fun x24 h24 => ?_); refine wV ?_; refine eL ?_; refine J0 ?_; refine iO (fun x32 => ?_); refine J3 ?_; (refine fP (fun x35 => ?_); try (refine fD (fun h35 => ?_))); refine wV ?_; refine J0 ?_; refine iO (fun x37 => ?_); refine J3 ?_; (refine fP (fun x40 => ?_); try (refine fD (fun h40 => ?_))); refine wV ?_; refine aR ?_; refine eQ [(0, []), (1, []), (2, []), (3, []), (4, []), (5, []), (6, []), (7, [5]), (8, []), (9, []), (10, []), (11, []), (12, [])] ?_; refine bC ?_; refine yA ?_; refine bX ?_; refine cO (h := fun x49 => ?_); ((refine dC (i := 8) (hq := (bF.eX (fT (sz := 14) rf rf Ar (by rw [eA]) fin rfl rfl Q6 rfl (by decide) gO om) xN)) (h := fun x50 => ?_); try (refine fL (fun h50 => ?_)))); refine J4 ?_; refine aT ?_; refine Bb ?_; refine Ip ?_; refine R4 ?_; refine J1 ?_
          refine aN Tryz.results92 (fun w hw => ?_)
          have h2 := (hw.freeze .head).freeze .head
          simp only [sE, List.nil_append] at h2
          have h3 := h2.aX (H' := [(b, _)]) (F' := [(x35.1, aH xs), (x40.1, dE ys)]) (O' := [_, _])
          exact ⟨⟨x50.1, x50.2, x24.1, x24.2, x35.1, x35.2, x40.1, x40.2⟩, rfl, trivial, by simpa [mO, aO, mW, kZ, aU.fr, eU, kE, Nd.cells, *] using h3⟩
        · try (exfalso; omega)
          refine lO ?_
          refine bE (fun c26 => ?_) (fun c26 => ?_)
          · try (exfalso; omega)
            refine Jv ?_; refine aC (cM (hc := fun w hs => lJ init hs hc)) (fun x30 h30 => ?_); refine wV ?_; refine eL ?_; refine J0 ?_; refine iO (fun x32 => ?_); refine J3 ?_; (refine fP (fun x35 => ?_); try (refine fD (fun h35 => ?_))); refine wV ?_; refine J0 ?_; refine iO (fun x37 => ?_); refine J3 ?_; (refine fP (fun x40 => ?_); try (refine fD (fun h40 => ?_))); refine wV ?_; refine aR ?_; refine eQ [(0, []), (1, []), (2, []), (3, []), (4, []), (5, []), (6, []), (7, [5]), (8, []), (9, []), (10, []), (11, []), (12, [])] ?_; refine bC ?_; refine yA ?_; refine bX ?_; refine cO (h := fun x49 => ?_); ((refine dC (i := 8) (hq := (bF.eX (fT (sz := 14) rf rf Ar (by rw [eA]) fin rfl rfl Q6 rfl (by decide) gO om) xN)) (h := fun x50 => ?_); try (refine fL (fun h50 => ?_)))); refine J4 ?_; refine aT ?_; refine Bb ?_; refine Ip ?_; refine R4 ?_; refine J1 ?_
            refine aN Tryz.results92 (fun w hw => ?_)
            have h2 := (hw.freeze .head).freeze .head
            simp only [sE, List.nil_append] at h2
            have h3 := h2.aX (H' := [(b, _)]) (F' := [(x35.1, aH xs), (x40.1, dE ys)]) (O' := [_, _])
            exact ⟨⟨x50.1, x50.2, x30.1, x30.2, x35.1, x35.2, x40.1, x40.2⟩, rfl, trivial, by simpa [mO, aO, mW, kZ, aU.fr, eU, kE, Nd.cells, *] using h3⟩
          · try (exfalso; omega)
            refine pM ?_; refine J0 ?_; refine iO (fun x32 => ?_); refine J3 ?_; (refine fP (fun x35 => ?_); try (refine fD (fun h35 => ?_))); refine wV ?_; refine J0 ?_; refine iO (fun x37 => ?_); refine J3 ?_; (refine fP (fun x40 => ?_); try (refine fD (fun h40 => ?_))); refine wV ?_; refine aR ?_; refine eQ [(0, []), (1, []), (2, []), (3, []), (4, []), (5, []), (6, []), (7, [5]), (8, []), (9, []), (10, []), (11, []), (12, [])] ?_; refine bC ?_; refine yA ?_; refine bX ?_; refine cO (h := fun x49 => ?_); ((refine dC (i := 8) (hq := (bF.eX (fT (sz := 14) rf rf Ar (by rw [eA]) fin rfl rfl Q6 rfl (by decide) gO om) xN)) (h := fun x50 => ?_); try (refine fL (fun h50 => ?_)))); refine J4 ?_; refine aT ?_; refine Bb ?_; refine Ip ?_; refine R4 ?_; refine J1 ?_
            refine aN Tryz.results92 (fun w hw => ?_)
            have h2 := (hw.freeze .head).freeze .head
            simp only [sE, List.nil_append] at h2
            have h3 := h2.aX (H' := [(b, _)]) (F' := [(x35.1, aH xs), (x40.1, dE ys)]) (O' := [_, _])
            exact ⟨⟨x50.1, x50.2, pc, cc, x35.1, x35.2, x40.1, x40.2⟩, rfl, trivial, by simpa [mO, aO, mW, kZ, aU.fr, eU, kE, Nd.cells, *] using h3⟩
theorem sS{m c:Nat}{p:Option Addr}{v1 v2 v3:Value}(hs:SF w D [(b,.cells ⟨[.slice p m c,v1,v2,v3]⟩ 139 (0,0))] A [] [] w)(hl:m<=274877906945):Calls Tryz.prog 81 #[.pointer (some ⟨b,0,none⟩)] w λ e w'=>∃q:Unit,e=.returned (.int .i64 ((m+2:Nat):Int))/\True /\
  SF w D [(b,.cells ⟨[.slice p m c,v1,v2,v3]⟩ 139 (0,0))] [] [] [] w':=by
 refine enter Tryz.func81 Tryz.ntmps81 rfl rfl hs ?_
 simp only[cE]
 refine cZ ?_;refine lQ ?_;refine dX ?_;refine E5 ?_;refine J1 ?_
 refine aN Tryz.results81 (λ w hw=>?_)
 exact⟨(),by rw[show(2:Int)+(m:Int)=((m+2:Nat):Int) by omega];rfl,trivial,hw.aX⟩
theorem dm {n : Nd} {xs : List Int} {ys : List Pr} (init : Int) (hs : SF w D [(b, aO L cs gen acc pn cn pc cc)] [(n.brA, aH xs), (n.prA, dE ys)] [] (mW L cs pn cn pc cc) w) (e1 : n.brN = xs.length) (e2 : n.prN = ys.length) (h1 : xs.length ≤ 274877906944) (h2 : ys.length ≤ 274877906944)
    (hl : L.length ≤ 274877906944) (hc : cs.length ≤ 274877906944) :
    Calls Tryz.prog 29 #[.pointer (some ⟨b, 0, none⟩), n.v, .int .i64 init] w fun e w' => ∃ x : AX, e = .returned (.int .i64 ((L.length + 3 : Nat) : Int)) ∧ True ∧
      SF w D [(b, aO (L ++ [kZ n xs ys cs.length x]) (eU n.kind cs init) gen acc x.pn x.cn x.pc x.cc)] [] (kZ n xs ys cs.length x).fr (mW (L ++ [kZ n xs ys cs.length x]) (eU n.kind cs init) x.pn x.cn x.pc x.cc) w' := by
  refine enter Tryz.func29 Tryz.ntmps29 rfl rfl (yH hs) ?_
  simp only [cE]
  simp only [Nd.v, Nd.cells]
  refine J0 ?_; refine bN (fun x4 => ?_); refine J1 ?_; refine oX ?_; refine aC (cF (V := fun p : Option Addr × Option Addr => .agg ⟨[.int .i64 n.kind, .int .i64 n.gen, .int .i64 n.main, .int .u64 n.bm, .slice p.1 n.brN xs.length, .int .u64 n.hash, .string n.key, .int .u64 n.val, .slice p.2 n.prN ys.length, .int .i64 n.prev, .int .i64 n.bA, .int .i64 n.exp, .int .i64 n.new, .int .i64 n.status]⟩) (hc := fun w1 hw => Vs (n := n) ⟨e1, e2, hw.cl (.bA .head), hw.cl (.bA (.tail .head)), by omega, by omega⟩ (by omega) (by omega))) (fun x8 h8 => ?_); refine J5 ?_; refine J0 ?_; refine aE ?_; refine lC (fun _ => ?_); refine aE ?_; refine lC (fun _ => ?_); refine wV ?_; refine Cz ?_; refine gY ?_; refine Qq ?_
  refine bE (fun c12 => ?_) (fun c12 => ?_)
  · try (exfalso; omega)
    refine Jv ?_; refine aC (cM (hc := fun w hs => yV init hs hc)) (fun x18 h18 => ?_); refine wV ?_; refine eL ?_; refine aR ?_; refine eQ [(0, []), (1, []), (2, []), (3, []), (4, []), (5, []), (6, [4]), (7, []), (8, []), (9, []), (10, [])] ?_; refine Xo ?_; refine bX ?_; refine cO (h := fun x41 => ?_); ((refine dC (i := 7) (hq := (bF.eX (fT (sz := 14) rf rf Ar (by rw [eA]) fin rfl rfl Q6 rfl (by decide) gO om) xN)) (h := fun x42 => ?_); try (refine fL (fun h42 => ?_)))); refine J88 ?_; refine J2 ?_; refine aC (cM (hc := fun w hs => sS (m := L.length + 1) hs (by omega))) (fun x46 h46 => ?_); refine J1 ?_
    refine aN Tryz.results29 (fun w hw => ?_)
    have h3 := hw.aX (H' := [(b, _)]) (F' := [(x8.1, aH xs), (x8.2, dE ys)]) (O' := [_, _])
    exact ⟨⟨x42.1, x42.2, x18.1, x18.2, x8.1, xs.length, x8.2, ys.length⟩, rfl, trivial, by simpa [mO, aO, mW, kZ, aU.fr, eU, kE, Nd.cells, *] using h3⟩
  · try (exfalso; omega)
    refine oX ?_; refine aC (c0 (V := .bool) (hc := fun w1 hw => Ro ({ n with main := 0, prev := 0, status := 0, brA := x8.1, brC := xs.length, prA := x8.2, dE := ys.length } : Nd) w1)) (fun x22 h22 => ?_); refine J1 ?_
    refine bE (fun c20 => ?_) (fun c20 => ?_)
    · try (exfalso; omega)
      have k22 : n.kind = 3 ∨ n.kind = 5 ∨ n.kind = 6 := h22.1 c20
      rcases k22 with k22 | k22 | k22
      all_goals (refine Jv ?_; refine aC (cM (hc := fun w hs => yV init hs hc)) (fun x25 h25 => ?_); refine wV ?_; refine eL ?_; refine aR ?_; refine eQ [(0, []), (1, []), (2, []), (3, []), (4, []), (5, []), (6, [4]), (7, []), (8, []), (9, []), (10, [])] ?_; refine Xo ?_; refine bX ?_; refine cO (h := fun x41 => ?_); ((refine dC (i := 7) (hq := (bF.eX (fT (sz := 14) rf rf Ar (by rw [eA]) fin rfl rfl Q6 rfl (by decide) gO om) xN)) (h := fun x42 => ?_); try (refine fL (fun h42 => ?_)))); refine J88 ?_; refine J2 ?_; refine aC (cM (hc := fun w hs => sS (m := L.length + 1) hs (by omega))) (fun x46 h46 => ?_); refine J1 ?_)
      all_goals
       refine aN Tryz.results29 (fun w hw => ?_)
       have h3 := hw.aX (H' := [(b, _)]) (F' := [(x8.1, aH xs), (x8.2, dE ys)]) (O' := [_, _])
       exact ⟨⟨x42.1, x42.2, x25.1, x25.2, x8.1, xs.length, x8.2, ys.length⟩, rfl, trivial, by simpa [mO, aO, mW, kZ, aU.fr, eU, kE, Nd.cells, *] using h3⟩
    · try (exfalso; omega)
      have k22 : ¬ (n.kind = 3 ∨ n.kind = 5 ∨ n.kind = 6) := fun k => by rw [h22.2 k] at c20; cases c20
      obtain ⟨k3, k56⟩ := not_or.1 k22
      obtain ⟨k5, k6⟩ := not_or.1 k56
      refine gY ?_; refine Qq ?_
      refine bE (fun c27 => ?_) (fun c27 => ?_)
      · try (exfalso; omega)
        refine Jv ?_; refine aC (cM (hc := fun w hs => yV init hs hc)) (fun x33 h33 => ?_); refine wV ?_; refine eL ?_; refine aR ?_; refine eQ [(0, []), (1, []), (2, []), (3, []), (4, []), (5, []), (6, [4]), (7, []), (8, []), (9, []), (10, [])] ?_; refine Xo ?_; refine bX ?_; refine cO (h := fun x41 => ?_); ((refine dC (i := 7) (hq := (bF.eX (fT (sz := 14) rf rf Ar (by rw [eA]) fin rfl rfl Q6 rfl (by decide) gO om) xN)) (h := fun x42 => ?_); try (refine fL (fun h42 => ?_)))); refine J88 ?_; refine J2 ?_; refine aC (cM (hc := fun w hs => sS (m := L.length + 1) hs (by omega))) (fun x46 h46 => ?_); refine J1 ?_
        refine aN Tryz.results29 (fun w hw => ?_)
        have h3 := hw.aX (H' := [(b, _)]) (F' := [(x8.1, aH xs), (x8.2, dE ys)]) (O' := [_, _])
        exact ⟨⟨x42.1, x42.2, x33.1, x33.2, x8.1, xs.length, x8.2, ys.length⟩, rfl, trivial, by simpa [mO, aO, mW, kZ, aU.fr, eU, kE, Nd.cells, *] using h3⟩
      · try (exfalso; omega)
        refine pM ?_; refine aR ?_; refine eQ [(0, []), (1, []), (2, []), (3, []), (4, []), (5, []), (6, [4]), (7, []), (8, []), (9, []), (10, [])] ?_; refine Xo ?_; refine bX ?_; refine cO (h := fun x41 => ?_); ((refine dC (i := 7) (hq := (bF.eX (fT (sz := 14) rf rf Ar (by rw [eA]) fin rfl rfl Q6 rfl (by decide) gO om) xN)) (h := fun x42 => ?_); try (refine fL (fun h42 => ?_)))); refine J88 ?_; refine J2 ?_; refine aC (cM (hc := fun w hs => sS (m := L.length + 1) hs (by omega))) (fun x46 h46 => ?_); refine J1 ?_
        refine aN Tryz.results29 (fun w hw => ?_)
        have h3 := hw.aX (H' := [(b, _)]) (F' := [(x8.1, aH xs), (x8.2, dE ys)]) (O' := [_, _])
        exact ⟨⟨x42.1, x42.2, pc, cc, x8.1, xs.length, x8.2, ys.length⟩, rfl, trivial, by simpa [mO, aO, mW, kZ, aU.fr, eU, kE, Nd.cells, *] using h3⟩
end
end Go.Proofs.YtbajmaoegmbfgaaGreat
namespace Go.Ct
section
theorem Cl.kf{w:Go.World}{cs:List Go.Value}(h:Cl w none cs):cs=[]:=by
 cases cs with
 | nil=>rfl
 | cons v r=>exact absurd (h.ptr (by simp)) (by simp)
theorem X4{l:List Int}(h:aH l=[]):l=[]:=by simpa[aH] using h
theorem Fb{L:List aU}{k:Nat}(h:k<2):aD (dH L) ((k+1:Nat):Int)=fA:=by
 rw[Ap (by rw[nX];omega)]
 rcases(show k=0∨k=1 by omega) with rfl|rfl<;>rfl
theorem Jl{L:List aU}{k:Nat}(h:2<=k)(h2:k<L.length+2):aD (dH L) ((k+1:Nat):Int)=L.getD (k+1-2-1) aU.zero:=by
 rw[Ap (by rw[nX];omega)]
 obtain⟨j,rfl⟩:∃j,k=j+2:=⟨k-2,by omega⟩
 rw[show j+2+1-2-1=j by omega]
 rfl
end
end Go.Ct
namespace Go.Proofs.YtbajmaoegmbfgaaGreat
open Go.Proofs.Tryz (prog)
open Go.RowKit Go.Ct
section
variable{w:World}{D:List Nat}{b:Nat}{L:List aU}{cs:List Int}{gen acc:Int}{pn pc:Option Addr}{cn cc:Nat}{A:Fr}
theorem Q8{l:List Int}{a:Option Addr}{c:Nat}{w:World}(ha:Cl w a (aH l))(hl:l.length<=274877906944):Calls prog 84 #[.slice a l.length c] w λ e w' =>
  ∃x:Option Addr×Nat,e=.returned (.slice x.1 l.length x.2)/\True/\SF w [] [] [] [] [⟨x.1,aH l,x.2,37,1⟩] w':=by
 refine enter Tryz.func84 Tryz.ntmps84 rfl rfl (SF.s1 ha) ?_
 simp only[cE]
 refine Kc4 ?_;refine uM ?_
 refine bE (λ c4=>?_) (λ c4=>?_)
 ·have e0:a=none:=by cases a with|none=>rfl|some _=>cases c4
  subst e0
  obtain rfl:=X4 ha.kf
  refine cZ ?_
  refine aN Tryz.results84 (λ w hw=>?_)
  exact⟨(none,0),rfl,trivial,(hw.lN 37 1).aX⟩
 ·refine aS ?_;refine J0 ?_;refine iO (λ x5=>?_);refine aA ?_;(refine fP (λ x7=>?_);try (refine fD (λ h7=>?_)));refine J1 ?_
  refine aN Tryz.results84 (λ w hw=>?_)
  exact⟨x7,by simp only[Nat.zero_add];rfl,trivial,by simpa using hw.aX (F':=[]) (H':=[])⟩
theorem Y8(hs:SF w D [(b,aO L cs gen acc pn cn pc cc)] A [] (mW L cs pn cn pc cc) w)(r:Int)(hr:r<1)(hl:L.length<=274877906944) :
  Calls prog 36 #[.pointer (some ⟨b,0,none⟩),.int .i64 r] w λ e w'=>∃q:Option Addr×Option Addr,e=.returned ((aD (dH L) r).at_ q.1 q.2).nd.v/\True /\
  SF w D [(b,aO L cs gen acc pn cn pc cc)] [] [] (mW L cs pn cn pc cc++[⟨q.2,dE (aD (dH L) r).ys,(aD (dH L) r).ys.length,164,2⟩,⟨q.1,aH (aD (dH L) r).xs,(aD (dH L) r).xs.length,37,1⟩]) w':=by
 rw[pY (by omega)]
 refine enter Tryz.func36 Tryz.ntmps36 rfl rfl (yH hs) ?_
 simp only[cE]
 refine J0 ?_;refine aJ (λ x4=>?_);refine aG ?_;refine Kb3 ?_
 (refine eG 7 (λ g7=>?_) (λ g7=>?_)<;>(try (exfalso;omega))<;>(refine aI ?_))
 (refine aI ?_);(refine aI ?_);refine Ka8 ?_
 refine bE (λ c12=>?_) (λ c12=>?_)
 ·try (exfalso;omega)
  refine Kb8 ?_
  refine bB Tryz.results36 (λ w hw=>?_)
  exact⟨(none,none),rfl,trivial,(hw.zh 164 2 37 1).aX⟩
 ·exact nv c12
theorem jt(hs:SF w D [(b,aO L cs gen acc pn cn pc cc)] (aL L) [] (mW L cs pn cn pc cc) w)(hf:Fits L){k:Nat}(hk:(k:Int)<9223372036854775807)(hl:L.length<=274877906944) :
  Calls prog 36 #[.pointer (some ⟨b,0,none⟩),.int .i64 ((k+1:Nat):Int)] w λ e w'=>∃q:Option Addr×Option Addr,e=.returned ((aD (dH L) ((k+1:Nat):Int)).at_ q.1 q.2).nd.v/\True /\
  SF w D [(b,aO L cs gen acc pn cn pc cc)] [] [] (mW L cs pn cn pc cc++[⟨q.2,dE (aD (dH L) ((k+1:Nat):Int)).ys,(aD (dH L) ((k+1:Nat):Int)).ys.length,164,2⟩,⟨q.1,aH (aD (dH L) ((k+1:Nat):Int)).xs,(aD (dH L) ((k+1:Nat):Int)).xs.length,37,1⟩]) w':=by
 refine enter Tryz.func36 Tryz.ntmps36 rfl rfl (yH hs) ?_
 simp only[cE]
 refine J0 ?_;refine aJ (λ x4=>?_);refine aG ?_;refine Kb3 ?_
 (refine Ka3 ?_)
 ((refine Ka3 ?_));((refine aF ?_;refine aC (cM (hc:=λ w hs=>sS (m:=L.length) hs (by omega))) (λ x10 h10=>?_)));refine Ka8 ?_
 refine bE (λ c12=>?_) (λ c12=>?_)
 ·try (exfalso;omega)
  refine Kb8 ?_
  refine bB Tryz.results36 (λ w hw=>?_)
  exact⟨(none,none),by rw[pY (by rw[nX];omega)];rfl,trivial,by rw[pY (by rw[nX];omega)];exact(hw.zh 164 2 37 1).aX⟩
 ·try (exfalso;omega)
  refine lW ?_;refine J2 ?_;refine Am ?_;refine aG ?_
  refine bE (λ c15=>?_) (λ c15=>?_)
  ·try (exfalso;omega)
   refine Kb8 ?_
   refine bB Tryz.results36 (λ w hw=>?_)
   exact⟨(none,none),by rw[Fb (by omega)];rfl,trivial,by rw[Fb (by omega)];exact(hw.zh 164 2 37 1).aX⟩
  ·try (exfalso;omega)
   refine vx ?_;refine aA ?_;refine aB (by exact jI (n:=2) rf rf (by omega) (by omega)) rfl ?_;refine aB (by exact k9 rf rf (by omega) (by omega)) rfl ?_;refine Qw ?_;refine aC (Yr (Hc:=λ _=>[]) (Fc:=λ _=>[]) (V:=λ p:Option Addr×Option Addr=>((L.getD (k+1-2-1) aU.zero).at_ p.1 p.2).nd.v) (hc:=λ w1 hw=>Va (hw.aBG hf (by omega)) (hf.at (by omega)).brS (hf.at (by omega)).prS)) (λ x26 h26=>?_);refine J5 ?_
   refine bB Tryz.results36 (λ w hw=>?_)
   exact⟨x26,by rw[Jl (by omega) (by omega)];rfl,trivial,by rw[Jl (by omega) (by omega)];exact hw.toEnd.aX⟩
end
section
variable{w:World}{D:List Nat}{b:Nat}{L:List aU}{cs:List Int}{gen acc:Int}{pn pc:Option Addr}{cn cc:Nat}{A:Fr}
theorem U8(hs:SF w D [(b,aO L cs gen acc pn cn pc cc)] (aL L) [] (mW L cs pn cn pc cc) w)(hf:Fits L)(r:Int)(hr:r<=9223372036854775807)(hl:L.length<=274877906944) :
  Calls prog 36 #[.pointer (some ⟨b,0,none⟩),.int .i64 r] w λ e w'=>∃q:Option Addr×Option Addr,e=.returned (.agg ⟨((aD (dH L) r).at_ q.1 q.2).nd.cells⟩)/\True /\
  SF w D [(b,aO L cs gen acc pn cn pc cc)] [] [] (mW L cs pn cn pc cc++[⟨q.2,dE (aD (dH L) r).ys,(aD (dH L) r).ys.length,164,2⟩,⟨q.1,aH (aD (dH L) r).xs,(aD (dH L) r).xs.length,37,1⟩]) w':=by
 rcases Int.lt_or_le r 1 with h|h
 ·exact Y8 hs r h hl
 ·obtain⟨k,rfl⟩:∃k:Nat,r=((k+1:Nat):Int):=⟨(r-1).toNat,by omega⟩
  exact jt hs hf (by omega) hl
end
section
theorem aBi (n : Nd) (w : World) : Calls prog 197 #[n.v] w fun e w' => e = .returned n.own.v ∧ St w [] [] w' := by
  refine enter Tryz.func197 Tryz.ntmps197 rfl rfl (SF.s0 w) ?_
  simp only [cE]
  refine J0 ?_; refine bN (fun x1 => ?_); refine aJ (fun x2 => ?_); refine aG ?_; refine gY ?_; refine bK ?_; refine aJ (fun x3 => ?_); refine J5 ?_; refine D3 ?_; refine aG ?_; refine cY ?_; refine Cz ?_; refine Cz ?_; refine Cz ?_; refine Cz ?_; refine Cz ?_; refine Cz ?_; refine Cz ?_; refine aR ?_; refine aR ?_; refine lO ?_
  refine bE (fun c9 => ?_) (fun c9 => ?_)
  · refine bR rfl ?_; refine aR ?_; refine eQ [(0, []), (1, []), (2, []), (3, []), (4, []), (5, [3]), (6, []), (7, [])] ?_; refine pG ?_; refine pG ?_; refine aT ?_; refine Sb ?_; refine Bb ?_; refine bR rfl ?_; refine oX ?_; refine J5 ?_
    refine bB Tryz.results197 (fun w hw => ?_)
    exact ⟨by simp only [Nd.own, beq_iff_eq, *, if_true, if_false]; rfl, hw.done⟩
  · refine lW ?_; refine lO ?_
    refine bE (fun c11 => ?_) (fun c11 => ?_)
    · refine bR rfl ?_; refine aR ?_; refine eQ [(0, []), (1, []), (2, []), (3, []), (4, []), (5, []), (6, []), (7, [3, 5]), (8, []), (9, [5]), (10, []), (11, [])] ?_; refine pG ?_; refine pG ?_; refine pG ?_; refine aT ?_; refine Sb ?_; refine Sb ?_; refine Bb ?_; refine bR rfl ?_; refine oX ?_; refine J5 ?_
      refine bB Tryz.results197 (fun w hw => ?_)
      exact ⟨by simp only [Nd.own, beq_iff_eq, *, if_true, if_false]; rfl, hw.done⟩
    · refine lW ?_; refine lO ?_
      refine bE (fun c13 => ?_) (fun c13 => ?_)
      · refine bR rfl ?_; refine dJ ?_; refine J3 ?_; refine wV ?_; refine eL ?_; refine aR ?_; refine eQ [(0, []), (1, []), (2, []), (3, []), (4, []), (5, []), (6, []), (7, [3, 5]), (8, []), (9, [5]), (10, []), (11, [])] ?_; refine pG ?_; refine pG ?_; refine pG ?_; refine aT ?_; refine Sb ?_; refine Sb ?_; refine Bb ?_; refine bR rfl ?_; refine oX ?_; refine J5 ?_
        refine bB Tryz.results197 (fun w hw => ?_)
        exact ⟨by simp only [Nd.own, beq_iff_eq, *, if_true, if_false]; rfl, hw.done⟩
      · refine lW ?_; refine lO ?_
        refine bE (fun c15 => ?_) (fun c15 => ?_)
        · refine bR rfl ?_; refine aR ?_; refine eQ [(0, []), (1, []), (2, []), (3, []), (4, []), (5, []), (6, []), (7, [3, 5]), (8, []), (9, [5]), (10, []), (11, [])] ?_; refine pG ?_; refine pG ?_; refine pG ?_; refine aT ?_; refine Sb ?_; refine Sb ?_; refine Bb ?_; refine bR rfl ?_; refine oX ?_; refine J5 ?_
          refine bB Tryz.results197 (fun w hw => ?_)
          exact ⟨by simp only [Nd.own, beq_iff_eq, *, if_true, if_false]; rfl, hw.done⟩
        · refine lW ?_; refine lO ?_
          refine bE (fun c17 => ?_) (fun c17 => ?_)
          · refine bR rfl ?_; refine aR ?_; refine eQ [(0, []), (1, []), (2, []), (3, []), (4, []), (5, []), (6, []), (7, [3, 5]), (8, []), (9, [5]), (10, []), (11, [])] ?_; refine pG ?_; refine pG ?_; refine pG ?_; refine aT ?_; refine Sb ?_; refine Sb ?_; refine Bb ?_; refine bR rfl ?_; refine oX ?_; refine J5 ?_
            refine bB Tryz.results197 (fun w hw => ?_)
            exact ⟨by simp only [Nd.own, beq_iff_eq, *, if_true, if_false]; rfl, hw.done⟩
          · refine lW ?_; refine lO ?_
            refine bE (fun c19 => ?_) (fun c19 => ?_)
            · refine bR rfl ?_; refine eQ [(0, []), (1, []), (2, []), (3, []), (4, []), (5, []), (6, []), (7, [3, 5]), (8, []), (9, [5]), (10, []), (11, [])] ?_; refine pG ?_; refine pG ?_; refine pG ?_; refine aT ?_; refine Sb ?_; refine Sb ?_; refine Bb ?_; refine eL ?_; refine gY ?_; refine wV ?_; refine bR rfl ?_; refine oX ?_; refine J5 ?_
              refine bB Tryz.results197 (fun w hw => ?_)
              exact ⟨by simp only [Nd.own, beq_iff_eq, *, if_true, if_false]; rfl, hw.done⟩
            · refine aS ?_; refine lO ?_
              refine bE (fun c21 => ?_) (fun c21 => ?_)
              · refine bR rfl ?_; refine gY ?_; refine wV ?_; refine bR rfl ?_; refine oX ?_; refine J5 ?_
                refine bB Tryz.results197 (fun w hw => ?_)
                exact ⟨by simp only [Nd.own, beq_iff_eq, *, if_true, if_false]; rfl, hw.done⟩
              · refine aS ?_; refine bR rfl ?_; refine oX ?_; refine J5 ?_
                refine bB Tryz.results197 (fun w hw => ?_)
                exact ⟨by simp only [Nd.own, beq_iff_eq, *, if_true, if_false]; rfl, hw.done⟩
end
end Go.Proofs.YtbajmaoegmbfgaaGreat
