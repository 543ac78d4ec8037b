/- Merged. -/
import Derived.Test.YtbajmaoegmbfgaaGreatGNode2
import Derived.Test.YtbajmaoegmbfgaaGreatGFun
import Derived.Test.YtbajmaoegmbfgaaGreatAuto
set_option linter.unusedSimpArgs false
set_option linter.unusedVariables false
namespace Go.Proofs.YtbajmaoegmbfgaaGreat
open Go.RowKit Go.Ct
section
variable{w:World}{D:List Nat}{b:Nat}{L:List aQ}{cs:List Int}{gen acc:Int}{pn pc:Option Addr}{cn cc:Nat}{A:Fr}
theorem H0 {n : Nd} {xs : List Int} {ys : List Pr} (init : Int) (hs : SF w D [(b, mO L cs gen acc pn cn pc cc)] [(n.brA, aH xs), (n.prA, cX ys)] [] (mW L cs pn cn pc cc) w) (e1 : n.brN = xs.length) (e2 : n.prN = ys.length) (h1 : xs.length ≤ 274877906944) (h2 : ys.length ≤ 274877906944)
    (hl : L.length ≤ 274877906944) (hc : cs.length ≤ 274877906944) :
    Calls Tryz.prog 92 #[.pointer (some ⟨b, 0, none⟩), n.v, .int .i64 init] w fun e w' => ∃ x : AX, e = .returned (.int .i64 ((L.length + 1 : Nat) : Int)) ∧ True ∧
      SF w D [(b, mO (L ++ [mZ n xs ys cs.length x]) (eZ n.kind cs init) gen acc x.pn x.cn x.pc x.cc)] [] (mZ n xs ys cs.length x).fr (mW (L ++ [mZ n xs ys cs.length x]) (eZ n.kind cs init) x.pn x.cn x.pc x.cc) w' := by
  refine enter Tryz.func92 Tryz.ntmps92 rfl rfl (yZ hs) ?_
  simp only [cG]
  simp only [Nd.v, Nd.cells]
  refine J0 ?_; refine bM (fun x4 => ?_); refine J1 ?_; refine J0 ?_; refine aG ?_; refine kP (fun _ => ?_); refine aG ?_; refine kP (fun _ => ?_); refine vL ?_; refine Df ?_; refine aI ?_; refine cW ?_; refine mB ?_
  refine bC (fun c12 => ?_) (fun c12 => ?_)
  · try (exfalso; omega)
    refine Jb ?_; refine aE (cM (hc := fun w hs => lU init hs hc)) (fun x16 h16 => ?_); refine vL ?_; refine fG ?_; refine J0 ?_; refine iS (fun x32 => ?_); refine J3 ?_; (refine fD (fun x35 => ?_); try (refine eY (fun h35 => ?_))); refine vL ?_; refine J0 ?_; refine iS (fun x37 => ?_); refine J3 ?_; (refine fD (fun x40 => ?_); try (refine eY (fun h40 => ?_))); refine vL ?_; refine aV ?_; refine eH [(0, []), (1, []), (2, []), (3, []), (4, []), (5, []), (6, []), (7, [5]), (8, []), (9, []), (10, []), (11, []), (12, [])] ?_; refine aR ?_; refine yJ ?_; refine bS ?_; refine cE (h := fun x49 => ?_); ((refine dC (i := 8) (hq := (bG.eR (fY (sz := 14) rf rf zM (by rw [eD]) fin rfl rfl Jc rfl (by decide) fZ om) vM)) (h := fun x50 => ?_); try (refine eK (fun h50 => ?_)))); refine J4 ?_; refine aW ?_; refine A7 ?_; refine I1 ?_; refine Rr ?_; refine J1 ?_
    refine aT Tryz.results92 (fun w hw => ?_)
    have h2 := (hw.freeze .head).freeze .head
    simp only [sW, List.nil_append] at h2
    have h3 := h2.aY (H' := [(b, _)]) (F' := [(x35.1, aH xs), (x40.1, cX ys)]) (O' := [_, _])
    exact ⟨⟨x50.1, x50.2, x16.1, x16.2, x35.1, x35.2, x40.1, x40.2⟩, rfl, trivial, by simpa [mO, aO, mW, mZ, aQ.fr, eZ, kF, Nd.cells, *] using h3⟩
  · try (exfalso; omega)
    refine aV ?_; refine mB ?_
    refine bC (fun c18 => ?_) (fun c18 => ?_)
    · try (exfalso; omega)
      refine aZ ?_
      refine bC (fun c18 => ?_) (fun c18 => ?_)
      · try (exfalso; omega)
        refine Jb ?_; refine aE (cM (hc := fun w hs => lU init hs hc)) (fun x24 h24 => ?_); refine vL ?_; refine fG ?_; refine J0 ?_; refine iS (fun x32 => ?_); refine J3 ?_; (refine fD (fun x35 => ?_); try (refine eY (fun h35 => ?_))); refine vL ?_; refine J0 ?_; refine iS (fun x37 => ?_); refine J3 ?_; (refine fD (fun x40 => ?_); try (refine eY (fun h40 => ?_))); refine vL ?_; refine aV ?_; refine eH [(0, []), (1, []), (2, []), (3, []), (4, []), (5, []), (6, []), (7, [5]), (8, []), (9, []), (10, []), (11, []), (12, [])] ?_; refine aR ?_; refine yJ ?_; refine bS ?_; refine cE (h := fun x49 => ?_); ((refine dC (i := 8) (hq := (bG.eR (fY (sz := 14) rf rf zM (by rw [eD]) fin rfl rfl Jc rfl (by decide) fZ om) vM)) (h := fun x50 => ?_); try (refine eK (fun h50 => ?_)))); refine J4 ?_; refine aW ?_; refine A7 ?_; refine I1 ?_; refine Rr ?_; refine J1 ?_
        refine aT Tryz.results92 (fun w hw => ?_)
        have h2 := (hw.freeze .head).freeze .head
        simp only [sW, List.nil_append] at h2
        have h3 := h2.aY (H' := [(b, _)]) (F' := [(x35.1, aH xs), (x40.1, cX ys)]) (O' := [_, _])
        exact ⟨⟨x50.1, x50.2, x24.1, x24.2, x35.1, x35.2, x40.1, x40.2⟩, rfl, trivial, by simpa [mO, aO, mW, mZ, aQ.fr, eZ, kF, Nd.cells, *] using h3⟩
      · try (exfalso; omega)
    · try (exfalso; omega)
      refine mB ?_
      refine bC (fun c18 => ?_) (fun c18 => ?_)
      · try (exfalso; omega)
        refine aZ ?_
        refine bC (fun c18 => ?_) (fun c18 => ?_)
        · try (exfalso; omega)
          refine Jb ?_; refine aE (cM (hc := fun w hs => lU init hs hc)) (fun x24 h24 => ?_); refine vL ?_; refine fG ?_; refine J0 ?_; refine iS (fun x32 => ?_); refine J3 ?_; (refine fD (fun x35 => ?_); try (refine eY (fun h35 => ?_))); refine vL ?_; refine J0 ?_; refine iS (fun x37 => ?_); refine J3 ?_; (refine fD (fun x40 => ?_); try (refine eY (fun h40 => ?_))); refine vL ?_; refine aV ?_; refine eH [(0, []), (1, []), (2, []), (3, []), (4, []), (5, []), (6, []), (7, [5]), (8, []), (9, []), (10, []), (11, []), (12, [])] ?_; refine aR ?_; refine yJ ?_; refine bS ?_; refine cE (h := fun x49 => ?_); ((refine dC (i := 8) (hq := (bG.eR (fY (sz := 14) rf rf zM (by rw [eD]) fin rfl rfl Jc rfl (by decide) fZ om) vM)) (h := fun x50 => ?_); try (refine eK (fun h50 => ?_)))); refine J4 ?_; refine aW ?_; refine A7 ?_; refine I1 ?_; refine Rr ?_; refine J1 ?_
          refine aT Tryz.results92 (fun w hw => ?_)
          have h2 := (hw.freeze .head).freeze .head
          simp only [sW, List.nil_append] at h2
          have h3 := h2.aY (H' := [(b, _)]) (F' := [(x35.1, aH xs), (x40.1, cX ys)]) (O' := [_, _])
          exact ⟨⟨x50.1, x50.2, x24.1, x24.2, x35.1, x35.2, x40.1, x40.2⟩, rfl, trivial, by simpa [mO, aO, mW, mZ, aQ.fr, eZ, kF, Nd.cells, *] using h3⟩
        · try (exfalso; omega)
      · try (exfalso; omega)
        refine dR ?_; refine Rt ?_
        refine bC (fun c18 => ?_) (fun c18 => ?_)
        · try (exfalso; omega)
          refine Jb ?_; refine aE (cM (hc := fun w hs => lU init hs hc)) (fun x24 h24 => ?_); refine vL ?_; refine fG ?_; refine J0 ?_; refine iS (fun x32 => ?_); refine J3 ?_; (refine fD (fun x35 => ?_); try (refine eY (fun h35 => ?_))); refine vL ?_; refine J0 ?_; refine iS (fun x37 => ?_); refine J3 ?_; (refine fD (fun x40 => ?_); try (refine eY (fun h40 => ?_))); refine vL ?_; refine aV ?_; refine eH [(0, []), (1, []), (2, []), (3, []), (4, []), (5, []), (6, []), (7, [5]), (8, []), (9, []), (10, []), (11, []), (12, [])] ?_; refine aR ?_; refine yJ ?_; refine bS ?_; refine cE (h := fun x49 => ?_); ((refine dC (i := 8) (hq := (bG.eR (fY (sz := 14) rf rf zM (by rw [eD]) fin rfl rfl Jc rfl (by decide) fZ om) vM)) (h := fun x50 => ?_); try (refine eK (fun h50 => ?_)))); refine J4 ?_; refine aW ?_; refine A7 ?_; refine I1 ?_; refine Rr ?_; refine J1 ?_
          refine aT Tryz.results92 (fun w hw => ?_)
          have h2 := (hw.freeze .head).freeze .head
          simp only [sW, List.nil_append] at h2
          have h3 := h2.aY (H' := [(b, _)]) (F' := [(x35.1, aH xs), (x40.1, cX ys)]) (O' := [_, _])
          exact ⟨⟨x50.1, x50.2, x24.1, x24.2, x35.1, x35.2, x40.1, x40.2⟩, rfl, trivial, by simpa [mO, aO, mW, mZ, aQ.fr, eZ, kF, Nd.cells, *] using h3⟩
        · try (exfalso; omega)
          refine mB ?_
          refine bC (fun c26 => ?_) (fun c26 => ?_)
          · try (exfalso; omega)
            refine Jb ?_; refine aE (cM (hc := fun w hs => lU init hs hc)) (fun x30 h30 => ?_); refine vL ?_; refine fG ?_; refine J0 ?_; refine iS (fun x32 => ?_); refine J3 ?_; (refine fD (fun x35 => ?_); try (refine eY (fun h35 => ?_))); refine vL ?_; refine J0 ?_; refine iS (fun x37 => ?_); refine J3 ?_; (refine fD (fun x40 => ?_); try (refine eY (fun h40 => ?_))); refine vL ?_; refine aV ?_; refine eH [(0, []), (1, []), (2, []), (3, []), (4, []), (5, []), (6, []), (7, [5]), (8, []), (9, []), (10, []), (11, []), (12, [])] ?_; refine aR ?_; refine yJ ?_; refine bS ?_; refine cE (h := fun x49 => ?_); ((refine dC (i := 8) (hq := (bG.eR (fY (sz := 14) rf rf zM (by rw [eD]) fin rfl rfl Jc rfl (by decide) fZ om) vM)) (h := fun x50 => ?_); try (refine eK (fun h50 => ?_)))); refine J4 ?_; refine aW ?_; refine A7 ?_; refine I1 ?_; refine Rr ?_; refine J1 ?_
            refine aT Tryz.results92 (fun w hw => ?_)
            have h2 := (hw.freeze .head).freeze .head
            simp only [sW, List.nil_append] at h2
            have h3 := h2.aY (H' := [(b, _)]) (F' := [(x35.1, aH xs), (x40.1, cX ys)]) (O' := [_, _])
            exact ⟨⟨x50.1, x50.2, x30.1, x30.2, x35.1, x35.2, x40.1, x40.2⟩, rfl, trivial, by simpa [mO, aO, mW, mZ, aQ.fr, eZ, kF, Nd.cells, *] using h3⟩
          · try (exfalso; omega)
            refine pF ?_; refine J0 ?_; refine iS (fun x32 => ?_); refine J3 ?_; (refine fD (fun x35 => ?_); try (refine eY (fun h35 => ?_))); refine vL ?_; refine J0 ?_; refine iS (fun x37 => ?_); refine J3 ?_; (refine fD (fun x40 => ?_); try (refine eY (fun h40 => ?_))); refine vL ?_; refine aV ?_; refine eH [(0, []), (1, []), (2, []), (3, []), (4, []), (5, []), (6, []), (7, [5]), (8, []), (9, []), (10, []), (11, []), (12, [])] ?_; refine aR ?_; refine yJ ?_; refine bS ?_; refine cE (h := fun x49 => ?_); ((refine dC (i := 8) (hq := (bG.eR (fY (sz := 14) rf rf zM (by rw [eD]) fin rfl rfl Jc rfl (by decide) fZ om) vM)) (h := fun x50 => ?_); try (refine eK (fun h50 => ?_)))); refine J4 ?_; refine aW ?_; refine A7 ?_; refine I1 ?_; refine Rr ?_; refine J1 ?_
            refine aT Tryz.results92 (fun w hw => ?_)
            have h2 := (hw.freeze .head).freeze .head
            simp only [sW, List.nil_append] at h2
            have h3 := h2.aY (H' := [(b, _)]) (F' := [(x35.1, aH xs), (x40.1, cX ys)]) (O' := [_, _])
            exact ⟨⟨x50.1, x50.2, pc, cc, x35.1, x35.2, x40.1, x40.2⟩, rfl, trivial, by simpa [mO, aO, mW, mZ, aQ.fr, eZ, kF, Nd.cells, *] using h3⟩
theorem sH{m c:Nat}{p:Option Addr}{v1 v2 v3:Value}(hs:SF w D [(b,.cells ⟨[.slice p m c,v1,v2,v3]⟩ 139 (0,0))] A [] [] w)(hl:m<=274877906945):Calls Tryz.prog 81 #[.pointer (some ⟨b,0,none⟩)] w λ e w'=>∃q:Unit,e=.returned (.int .i64 ((m+2:Nat):Int))/\True /\
  SF w D [(b,.cells ⟨[.slice p m c,v1,v2,v3]⟩ 139 (0,0))] [] [] [] w':=by
 refine enter Tryz.func81 Tryz.ntmps81 rfl rfl hs ?_
 simp only[cG]
 refine dA ?_;refine mK ?_;refine dS ?_;refine F8 ?_;refine J1 ?_
 refine aT Tryz.results81 (λ w hw=>?_)
 exact⟨(),by rw[show(2:Int)+(m:Int)=((m+2:Nat):Int) by omega];rfl,trivial,hw.aY⟩
theorem ic {n : Nd} {xs : List Int} {ys : List Pr} (init : Int) (hs : SF w D [(b, aO L cs gen acc pn cn pc cc)] [(n.brA, aH xs), (n.prA, cX ys)] [] (mW L cs pn cn pc cc) w) (e1 : n.brN = xs.length) (e2 : n.prN = ys.length) (h1 : xs.length ≤ 274877906944) (h2 : ys.length ≤ 274877906944)
    (hl : L.length ≤ 274877906944) (hc : cs.length ≤ 274877906944) :
    Calls Tryz.prog 29 #[.pointer (some ⟨b, 0, none⟩), n.v, .int .i64 init] w fun e w' => ∃ x : AX, e = .returned (.int .i64 ((L.length + 3 : Nat) : Int)) ∧ True ∧
      SF w D [(b, aO (L ++ [mZ n xs ys cs.length x]) (eZ n.kind cs init) gen acc x.pn x.cn x.pc x.cc)] [] (mZ n xs ys cs.length x).fr (mW (L ++ [mZ n xs ys cs.length x]) (eZ n.kind cs init) x.pn x.cn x.pc x.cc) w' := by
  refine enter Tryz.func29 Tryz.ntmps29 rfl rfl (Ab hs) ?_
  simp only [cG]
  simp only [Nd.v, Nd.cells]
  refine J0 ?_; refine bM (fun x4 => ?_); refine J1 ?_; refine oR ?_; refine aE (cF (V := fun p : Option Addr × Option Addr => .agg ⟨[.int .i64 n.kind, .int .i64 n.gen, .int .i64 n.main, .int .u64 n.bm, .slice p.1 n.brN xs.length, .int .u64 n.hash, .string n.key, .int .u64 n.val, .slice p.2 n.prN ys.length, .int .i64 n.prev, .int .i64 n.bK, .int .i64 n.exp, .int .i64 n.new, .int .i64 n.status]⟩) (hc := fun w1 hw => Vh (n := n) ⟨e1, e2, hw.cl (.bK .head), hw.cl (.bK (.tail .head)), by omega, by omega⟩ (by omega) (by omega))) (fun x8 h8 => ?_); refine J5 ?_; refine J0 ?_; refine aG ?_; refine kP (fun _ => ?_); refine aG ?_; refine kP (fun _ => ?_); refine vL ?_; refine D2 ?_; refine iH ?_; refine Rt ?_
  refine bC (fun c12 => ?_) (fun c12 => ?_)
  · try (exfalso; omega)
    refine Jb ?_; refine aE (cM (hc := fun w hs => zS init hs hc)) (fun x18 h18 => ?_); refine vL ?_; refine fG ?_; refine aV ?_; refine eH [(0, []), (1, []), (2, []), (3, []), (4, []), (5, []), (6, [4]), (7, []), (8, []), (9, []), (10, [])] ?_; refine Zg ?_; refine bS ?_; refine cE (h := fun x41 => ?_); ((refine dC (i := 7) (hq := (bG.eR (fY (sz := 14) rf rf zM (by rw [eD]) fin rfl rfl Jc rfl (by decide) fZ om) vM)) (h := fun x42 => ?_); try (refine eK (fun h42 => ?_)))); refine J88 ?_; refine J2 ?_; refine aE (cM (hc := fun w hs => sH (m := L.length + 1) hs (by omega))) (fun x46 h46 => ?_); refine J1 ?_
    refine aT Tryz.results29 (fun w hw => ?_)
    have h3 := hw.aY (H' := [(b, _)]) (F' := [(x8.1, aH xs), (x8.2, cX ys)]) (O' := [_, _])
    exact ⟨⟨x42.1, x42.2, x18.1, x18.2, x8.1, xs.length, x8.2, ys.length⟩, rfl, trivial, by simpa [mO, aO, mW, mZ, aQ.fr, eZ, kF, Nd.cells, *] using h3⟩
  · try (exfalso; omega)
    refine oR ?_; refine aE (c0 (V := .bool) (hc := fun w1 hw => So ({ n with main := 0, prev := 0, status := 0, brA := x8.1, brC := xs.length, prA := x8.2, cX := ys.length } : Nd) w1)) (fun x22 h22 => ?_); refine J1 ?_
    refine bC (fun c20 => ?_) (fun c20 => ?_)
    · try (exfalso; omega)
      have k22 : n.kind = 3 ∨ n.kind = 5 ∨ n.kind = 6 := h22.1 c20
      rcases k22 with k22 | k22 | k22
      all_goals (refine Jb ?_; refine aE (cM (hc := fun w hs => zS init hs hc)) (fun x25 h25 => ?_); refine vL ?_; refine fG ?_; refine aV ?_; refine eH [(0, []), (1, []), (2, []), (3, []), (4, []), (5, []), (6, [4]), (7, []), (8, []), (9, []), (10, [])] ?_; refine Zg ?_; refine bS ?_; refine cE (h := fun x41 => ?_); ((refine dC (i := 7) (hq := (bG.eR (fY (sz := 14) rf rf zM (by rw [eD]) fin rfl rfl Jc rfl (by decide) fZ om) vM)) (h := fun x42 => ?_); try (refine eK (fun h42 => ?_)))); refine J88 ?_; refine J2 ?_; refine aE (cM (hc := fun w hs => sH (m := L.length + 1) hs (by omega))) (fun x46 h46 => ?_); refine J1 ?_)
      all_goals
       refine aT Tryz.results29 (fun w hw => ?_)
       have h3 := hw.aY (H' := [(b, _)]) (F' := [(x8.1, aH xs), (x8.2, cX ys)]) (O' := [_, _])
       exact ⟨⟨x42.1, x42.2, x25.1, x25.2, x8.1, xs.length, x8.2, ys.length⟩, rfl, trivial, by simpa [mO, aO, mW, mZ, aQ.fr, eZ, kF, Nd.cells, *] using h3⟩
    · try (exfalso; omega)
      have k22 : ¬ (n.kind = 3 ∨ n.kind = 5 ∨ n.kind = 6) := fun k => by rw [h22.2 k] at c20; cases c20
      obtain ⟨k3, k56⟩ := not_or.1 k22
      obtain ⟨k5, k6⟩ := not_or.1 k56
      refine iH ?_; refine Rt ?_
      refine bC (fun c27 => ?_) (fun c27 => ?_)
      · try (exfalso; omega)
        refine Jb ?_; refine aE (cM (hc := fun w hs => zS init hs hc)) (fun x33 h33 => ?_); refine vL ?_; refine fG ?_; refine aV ?_; refine eH [(0, []), (1, []), (2, []), (3, []), (4, []), (5, []), (6, [4]), (7, []), (8, []), (9, []), (10, [])] ?_; refine Zg ?_; refine bS ?_; refine cE (h := fun x41 => ?_); ((refine dC (i := 7) (hq := (bG.eR (fY (sz := 14) rf rf zM (by rw [eD]) fin rfl rfl Jc rfl (by decide) fZ om) vM)) (h := fun x42 => ?_); try (refine eK (fun h42 => ?_)))); refine J88 ?_; refine J2 ?_; refine aE (cM (hc := fun w hs => sH (m := L.length + 1) hs (by omega))) (fun x46 h46 => ?_); refine J1 ?_
        refine aT Tryz.results29 (fun w hw => ?_)
        have h3 := hw.aY (H' := [(b, _)]) (F' := [(x8.1, aH xs), (x8.2, cX ys)]) (O' := [_, _])
        exact ⟨⟨x42.1, x42.2, x33.1, x33.2, x8.1, xs.length, x8.2, ys.length⟩, rfl, trivial, by simpa [mO, aO, mW, mZ, aQ.fr, eZ, kF, Nd.cells, *] using h3⟩
      · try (exfalso; omega)
        refine pF ?_; refine aV ?_; refine eH [(0, []), (1, []), (2, []), (3, []), (4, []), (5, []), (6, [4]), (7, []), (8, []), (9, []), (10, [])] ?_; refine Zg ?_; refine bS ?_; refine cE (h := fun x41 => ?_); ((refine dC (i := 7) (hq := (bG.eR (fY (sz := 14) rf rf zM (by rw [eD]) fin rfl rfl Jc rfl (by decide) fZ om) vM)) (h := fun x42 => ?_); try (refine eK (fun h42 => ?_)))); refine J88 ?_; refine J2 ?_; refine aE (cM (hc := fun w hs => sH (m := L.length + 1) hs (by omega))) (fun x46 h46 => ?_); refine J1 ?_
        refine aT Tryz.results29 (fun w hw => ?_)
        have h3 := hw.aY (H' := [(b, _)]) (F' := [(x8.1, aH xs), (x8.2, cX ys)]) (O' := [_, _])
        exact ⟨⟨x42.1, x42.2, pc, cc, x8.1, xs.length, x8.2, ys.length⟩, rfl, trivial, by simpa [mO, aO, mW, mZ, aQ.fr, eZ, kF, Nd.cells, *] using h3⟩
end
end Go.Proofs.YtbajmaoegmbfgaaGreat
namespace Go.Ct
section
theorem Cl.cu{w:Go.World}{cs:List Go.Value}(h:Cl w none cs):cs=[]:=by
 cases cs with
 | nil=>rfl
 | cons v r=>exact absurd (h.ptr (by simp)) (by simp)
theorem Y7{l:List Int}(h:aH l=[]):l=[]:=by simpa[aH] using h
theorem Fu{L:List aQ}{k:Nat}(h:k<2):aC (dL L) ((k+1:Nat):Int)=fK:=by
 rw[sE (by rw[oH];omega)]
 rcases(show k=0∨k=1 by omega) with rfl|rfl<;>rfl
theorem Ko{L:List aQ}{k:Nat}(h:2<=k)(h2:k<L.length+2):aC (dL L) ((k+1:Nat):Int)=L.getD (k+1-2-1) aQ.zero:=by
 rw[sE (by rw[oH];omega)]
 obtain⟨j,rfl⟩:∃j,k=j+2:=⟨k-2,by omega⟩
 rw[show j+2+1-2-1=j by omega]
 rfl
end
end Go.Ct
namespace Go.Proofs.YtbajmaoegmbfgaaGreat
open Go.Proofs.Tryz (prog)
open Go.RowKit Go.Ct
section
variable{w:World}{D:List Nat}{b:Nat}{L:List aQ}{cs:List Int}{gen acc:Int}{pn pc:Option Addr}{cn cc:Nat}{A:Fr}
theorem Tj{l:List Int}{a:Option Addr}{c:Nat}{w:World}(ha:Cl w a (aH l))(hl:l.length<=274877906944):Calls prog 84 #[.slice a l.length c] w λ e w' =>
  ∃x:Option Addr×Nat,e=.returned (.slice x.1 l.length x.2)/\True/\SF w [] [] [] [] [⟨x.1,aH l,x.2,37,1⟩] w':=by
 refine enter Tryz.func84 Tryz.ntmps84 rfl rfl (SF.s1 ha) ?_
 simp only[cG]
 refine dA ?_;refine kT ?_;refine uQ ?_
 refine bC (λ c4=>?_) (λ c4=>?_)
 ·have e0:a=none:=by cases a with|none=>rfl|some _=>cases c4
  subst e0
  obtain rfl:=Y7 ha.cu
  refine dA ?_
  refine aT Tryz.results84 (λ w hw=>?_)
  exact⟨(none,0),rfl,trivial,(hw.kA 37 1).aY⟩
 ·refine aZ ?_;refine J0 ?_;refine iS (λ x5=>?_);refine aB ?_;(refine fD (λ x7=>?_);try (refine eY (λ h7=>?_)));refine J1 ?_
  refine aT Tryz.results84 (λ w hw=>?_)
  exact⟨x7,by simp only[Nat.zero_add];rfl,trivial,by simpa using hw.aY (F':=[]) (H':=[])⟩
theorem j9(hs:SF w D [(b,aO L cs gen acc pn cn pc cc)] A [] (mW L cs pn cn pc cc) w)(r:Int)(hr:r<1)(hl:L.length<=274877906944) :
  Calls prog 36 #[.pointer (some ⟨b,0,none⟩),.int .i64 r] w λ e w'=>∃q:Option Addr×Option Addr,e=.returned ((aC (dL L) r).at_ q.1 q.2).nd.v/\True /\
  SF w D [(b,aO L cs gen acc pn cn pc cc)] [] [] (mW L cs pn cn pc cc++[⟨q.2,cX (aC (dL L) r).ys,(aC (dL L) r).ys.length,164,2⟩,⟨q.1,aH (aC (dL L) r).xs,(aC (dL L) r).xs.length,37,1⟩]) w':=by
 rw[pW (by omega)]
 refine enter Tryz.func36 Tryz.ntmps36 rfl rfl (Ab hs) ?_
 simp only[cG]
 refine J0 ?_;refine aL (λ x4=>?_);refine aI ?_;refine Kb6 ?_
 (refine eI 7 (λ g7=>?_) (λ g7=>?_)<;>(try (exfalso;omega))<;>(refine aJ ?_))
 (refine aJ ?_);(refine aJ ?_);refine Ka7 ?_
 refine bC (λ c12=>?_) (λ c12=>?_)
 ·try (exfalso;omega)
  refine Kb8 ?_
  refine bD Tryz.results36 (λ w hw=>?_)
  exact⟨(none,none),rfl,trivial,(hw.y0 164 2 37 1).aY⟩
 ·exact nv c12
theorem db(hs:SF w D [(b,aO L cs gen acc pn cn pc cc)] (aN L) [] (mW L cs pn cn pc cc) w)(hf:Fits L){k:Nat}(hk:(k:Int)<9223372036854775807)(hl:L.length<=274877906944) :
  Calls prog 36 #[.pointer (some ⟨b,0,none⟩),.int .i64 ((k+1:Nat):Int)] w λ e w'=>∃q:Option Addr×Option Addr,e=.returned ((aC (dL L) ((k+1:Nat):Int)).at_ q.1 q.2).nd.v/\True /\
  SF w D [(b,aO L cs gen acc pn cn pc cc)] [] [] (mW L cs pn cn pc cc++[⟨q.2,cX (aC (dL L) ((k+1:Nat):Int)).ys,(aC (dL L) ((k+1:Nat):Int)).ys.length,164,2⟩,⟨q.1,aH (aC (dL L) ((k+1:Nat):Int)).xs,(aC (dL L) ((k+1:Nat):Int)).xs.length,37,1⟩]) w':=by
 refine enter Tryz.func36 Tryz.ntmps36 rfl rfl (Ab hs) ?_
 simp only[cG]
 refine J0 ?_;refine aL (λ x4=>?_);refine aI ?_;refine Kb6 ?_
 (refine Ka3 ?_)
 ((refine Ka3 ?_));((refine aF ?_;refine aE (cM (hc:=λ w hs=>sH (m:=L.length) hs (by omega))) (λ x10 h10=>?_)));refine Ka7 ?_
 refine bC (λ c12=>?_) (λ c12=>?_)
 ·try (exfalso;omega)
  refine Kb8 ?_
  refine bD Tryz.results36 (λ w hw=>?_)
  exact⟨(none,none),by rw[pW (by rw[oH];omega)];rfl,trivial,by rw[pW (by rw[oH];omega)];exact(hw.y0 164 2 37 1).aY⟩
 ·try (exfalso;omega)
  refine kZ ?_;refine J2 ?_;refine A2 ?_;refine aI ?_
  refine bC (λ c15=>?_) (λ c15=>?_)
  ·try (exfalso;omega)
   refine Kb8 ?_
   refine bD Tryz.results36 (λ w hw=>?_)
   exact⟨(none,none),by rw[Fu (by omega)];rfl,trivial,by rw[Fu (by omega)];exact(hw.y0 164 2 37 1).aY⟩
  ·try (exfalso;omega)
   refine xd ?_;refine aB ?_;refine aD (by exact jK (n:=2) rf rf (by omega) (by omega)) rfl ?_;refine aD (by exact n9 rf rf (by omega) (by omega)) rfl ?_;refine Rw ?_;refine aE (U0 (Hc:=λ _=>[]) (Fc:=λ _=>[]) (V:=λ p:Option Addr×Option Addr=>((L.getD (k+1-2-1) aQ.zero).at_ p.1 p.2).nd.v) (hc:=λ w1 hw=>U1 (hw.aBu hf (by omega)) (hf.at (by omega)).brS (hf.at (by omega)).prS)) (λ x26 h26=>?_);refine J5 ?_
   refine bD Tryz.results36 (λ w hw=>?_)
   exact⟨x26,by rw[Ko (by omega) (by omega)];rfl,trivial,by rw[Ko (by omega) (by omega)];exact hw.toEnd.aY⟩
end
section
variable{w:World}{D:List Nat}{b:Nat}{L:List aQ}{cs:List Int}{gen acc:Int}{pn pc:Option Addr}{cn cc:Nat}{A:Fr}
theorem tu(hs:SF w D [(b,aO L cs gen acc pn cn pc cc)] (aN L) [] (mW L cs pn cn pc cc) w)(hf:Fits L)(r:Int)(hr:r<=9223372036854775807)(hl:L.length<=274877906944) :
  Calls prog 36 #[.pointer (some ⟨b,0,none⟩),.int .i64 r] w λ e w'=>∃q:Option Addr×Option Addr,e=.returned (.agg ⟨((aC (dL L) r).at_ q.1 q.2).nd.cells⟩)/\True /\
  SF w D [(b,aO L cs gen acc pn cn pc cc)] [] [] (mW L cs pn cn pc cc++[⟨q.2,cX (aC (dL L) r).ys,(aC (dL L) r).ys.length,164,2⟩,⟨q.1,aH (aC (dL L) r).xs,(aC (dL L) r).xs.length,37,1⟩]) w':=by
 rcases Int.lt_or_le r 1 with h|h
 ·exact j9 hs r h hl
 ·obtain⟨k,rfl⟩:∃k:Nat,r=((k+1:Nat):Int):=⟨(r-1).toNat,by omega⟩
  exact db hs hf (by omega) hl
end
section
theorem aBJ (n : Nd) (w : World) : Calls prog 197 #[n.v] w fun e w' => e = .returned n.own.v ∧ St w [] [] w' := by
  refine enter Tryz.func197 Tryz.ntmps197 rfl rfl (SF.s0 w) ?_
  simp only [cG]
  refine J0 ?_; refine bM (fun x1 => ?_); refine aL (fun x2 => ?_); refine aI ?_; refine iH ?_; refine bO ?_; refine aL (fun x3 => ?_); refine J5 ?_; refine Df ?_; refine aI ?_; refine cW ?_; refine D2 ?_; refine D2 ?_; refine D2 ?_; refine D2 ?_; refine D2 ?_; refine D2 ?_; refine D2 ?_; refine aV ?_; refine aV ?_; refine mB ?_
  refine bC (fun c9 => ?_) (fun c9 => ?_)
  · refine bT rfl ?_; refine aV ?_; refine eH [(0, []), (1, []), (2, []), (3, []), (4, []), (5, [3]), (6, []), (7, [])] ?_; refine lK ?_; refine lK ?_; refine aW ?_; refine S6 ?_; refine A7 ?_; refine bT rfl ?_; refine oR ?_; refine J5 ?_
    refine bD Tryz.results197 (fun w hw => ?_)
    exact ⟨by simp only [Nd.own, beq_iff_eq, *, if_true, if_false]; rfl, hw.done⟩
  · refine kZ ?_; refine mB ?_
    refine bC (fun c11 => ?_) (fun c11 => ?_)
    · refine bT rfl ?_; refine aV ?_; refine eH [(0, []), (1, []), (2, []), (3, []), (4, []), (5, []), (6, []), (7, [3, 5]), (8, []), (9, [5]), (10, []), (11, [])] ?_; refine lK ?_; refine lK ?_; refine lK ?_; refine aW ?_; refine S6 ?_; refine S6 ?_; refine A7 ?_; refine bT rfl ?_; refine oR ?_; refine J5 ?_
      refine bD Tryz.results197 (fun w hw => ?_)
      exact ⟨by simp only [Nd.own, beq_iff_eq, *, if_true, if_false]; rfl, hw.done⟩
    · refine kZ ?_; refine mB ?_
      refine bC (fun c13 => ?_) (fun c13 => ?_)
      · refine bT rfl ?_; refine dR ?_; refine J3 ?_; refine vL ?_; refine fG ?_; refine aV ?_; refine eH [(0, []), (1, []), (2, []), (3, []), (4, []), (5, []), (6, []), (7, [3, 5]), (8, []), (9, [5]), (10, []), (11, [])] ?_; refine lK ?_; refine lK ?_; refine lK ?_; refine aW ?_; refine S6 ?_; refine S6 ?_; refine A7 ?_; refine bT rfl ?_; refine oR ?_; refine J5 ?_
        refine bD Tryz.results197 (fun w hw => ?_)
        exact ⟨by simp only [Nd.own, beq_iff_eq, *, if_true, if_false]; rfl, hw.done⟩
      · refine kZ ?_; refine mB ?_
        refine bC (fun c15 => ?_) (fun c15 => ?_)
        · refine bT rfl ?_; refine aV ?_; refine eH [(0, []), (1, []), (2, []), (3, []), (4, []), (5, []), (6, []), (7, [3, 5]), (8, []), (9, [5]), (10, []), (11, [])] ?_; refine lK ?_; refine lK ?_; refine lK ?_; refine aW ?_; refine S6 ?_; refine S6 ?_; refine A7 ?_; refine bT rfl ?_; refine oR ?_; refine J5 ?_
          refine bD Tryz.results197 (fun w hw => ?_)
          exact ⟨by simp only [Nd.own, beq_iff_eq, *, if_true, if_false]; rfl, hw.done⟩
        · refine kZ ?_; refine mB ?_
          refine bC (fun c17 => ?_) (fun c17 => ?_)
          · refine bT rfl ?_; refine aV ?_; refine eH [(0, []), (1, []), (2, []), (3, []), (4, []), (5, []), (6, []), (7, [3, 5]), (8, []), (9, [5]), (10, []), (11, [])] ?_; refine lK ?_; refine lK ?_; refine lK ?_; refine aW ?_; refine S6 ?_; refine S6 ?_; refine A7 ?_; refine bT rfl ?_; refine oR ?_; refine J5 ?_
            refine bD Tryz.results197 (fun w hw => ?_)
            exact ⟨by simp only [Nd.own, beq_iff_eq, *, if_true, if_false]; rfl, hw.done⟩
          · refine kZ ?_; refine mB ?_
            refine bC (fun c19 => ?_) (fun c19 => ?_)
            · refine bT rfl ?_; refine eH [(0, []), (1, []), (2, []), (3, []), (4, []), (5, []), (6, []), (7, [3, 5]), (8, []), (9, [5]), (10, []), (11, [])] ?_; refine lK ?_; refine lK ?_; refine lK ?_; refine aW ?_; refine S6 ?_; refine S6 ?_; refine A7 ?_; refine fG ?_; refine iH ?_; refine vL ?_; refine bT rfl ?_; refine oR ?_; refine J5 ?_
              refine bD Tryz.results197 (fun w hw => ?_)
              exact ⟨by simp only [Nd.own, beq_iff_eq, *, if_true, if_false]; rfl, hw.done⟩
            · refine aZ ?_; refine mB ?_
              refine bC (fun c21 => ?_) (fun c21 => ?_)
              · refine bT rfl ?_; refine iH ?_; refine vL ?_; refine bT rfl ?_; refine oR ?_; refine J5 ?_
                refine bD Tryz.results197 (fun w hw => ?_)
                exact ⟨by simp only [Nd.own, beq_iff_eq, *, if_true, if_false]; rfl, hw.done⟩
              · refine aZ ?_; refine bT rfl ?_; refine oR ?_; refine J5 ?_
                refine bD Tryz.results197 (fun w hw => ?_)
                exact ⟨by simp only [Nd.own, beq_iff_eq, *, if_true, if_false]; rfl, hw.done⟩
end
section
theorem yi(b:Int)(w:World):Calls prog 238 #[.int .u64 b] w λ e w'=>e=.returned (.int .i64 (yX b))/\St w [] [] w':=by
 refine enter Tryz.func238 Tryz.ntmps238 rfl rfl (SF.s0 w) ?_
 simp only[cG]
 refine Kc7 ?_;refine Fo ?_;refine Gw ?_;refine aB ?_;refine Gw ?_;refine F8 ?_;refine Ka4 ?_;refine Fo ?_;refine Gw ?_;refine aB ?_;refine Gw ?_;refine F8 ?_;refine Ka4 ?_;refine Fo ?_;refine aB ?_;refine F8 ?_;refine Gw ?_;refine zZ ?_;refine Fo ?_;refine F8 ?_;refine zZ ?_;refine Fo ?_;refine F8 ?_;refine zZ ?_;refine Fo ?_;refine F8 ?_;refine Ka4 ?_;refine nM ?_;refine Gw ?_;refine J1 ?_
 refine aT Tryz.results238 (λ w hw=>?_)
 exact⟨rfl,hw.done⟩
theorem tj(b:Int)(w:World):Calls prog 198 #[.int .u64 b] w λ e w'=>e=.returned (.int .i64 (yX b))/\St w [] [] w':=by
 refine enter Tryz.func198 Tryz.ntmps198 rfl rfl (SF.s0 w) ?_
 simp only[cG]
 refine Kc7 ?_;refine aP (cV (hc:=λ w1 hw=>yi b w1)) (λ x4=>?_);refine J1 ?_
 refine aT Tryz.results198 (λ w hw=>?_)
 exact⟨rfl,hw.done⟩
theorem Xy{n:Nd}{xs:List Int}{ys:List Pr}{w:World}(hr:sG w n xs ys) :
  Calls prog 158 #[n.v] w λ e w'=>∃r:Bool,e=.returned (.bool r)/\(r=true↔cC n xs ys)/\St w [] [] w':=by
 have e1:=hr.brN;have e2:=hr.prN
 refine enter Tryz.func158 Tryz.ntmps158 rfl rfl (SF.s0 w) ?_
 simp only[cG]
 refine J0 ?_;refine bM (λ x1=>?_);refine iT ?_;refine aV ?_;refine eH [(0,[]),(1,[]),(2,[0]),(3,[]),(4,[])] ?_;refine bS ?_;refine bS ?_;refine dC (i:=2) (hq:=(cV (hc:=λ w1 hw=>aBJ n w1))) (h:=λ x5=>?_);refine bE (i:=3) (hq:=(c0 (V:=.bool) (hc:=λ w1 hw=>aAV (hr.gH hw.st) (hr.gH hw.st).own))) (h:=λ x6 h6=>?_);refine W1 ?_;refine eL ?_
 refine bC (λ c7=>?_) (λ c7=>?_)
 ·refine dA ?_
  refine aT Tryz.results158 (λ w hw=>?_)
  refine⟨_,rfl,?_,hw.done⟩
  (simp_all[cC];done)
 ·refine kZ ?_;refine iH ?_;refine Ca ?_
  (refine eI 11 (λ g11=>?_) (λ g11=>?_)<;>refine Ka1 ?_)
  all_goals (refine xu ?_;refine aB ?_)
  all_goals (first|refine aJ ?_|(refine eI 16 (λ g16=>?_) (λ g16=>?_)<;>refine Ka1 ?_))
  all_goals (refine xu ?_;refine aI ?_)
  all_goals
  refine bC (λ c20=>?_) (λ c20=>?_)
  ·all_goals refine dA ?_
   all_goals
    refine aT Tryz.results158 (λ w hw=>?_)
    refine⟨_,rfl,?_,hw.done⟩
    (simp_all[cC];omega)
  ·try exact nv c20
   all_goals (refine kZ ?_;refine iH ?_;refine aI ?_;refine cW ?_;refine D2 ?_;refine D2 ?_;refine D2 ?_;refine D2 ?_;refine cW ?_;refine D2 ?_;refine D2 ?_;refine D2 ?_;refine aV ?_;refine aV ?_;refine mB ?_)
   all_goals
    refine bC (λ c23=>?_) (λ c23=>?_)
    ·refine bT rfl ?_;refine aV ?_;refine dA ?_
     refine aT Tryz.results158 (λ w hw=>?_)
     refine⟨_,rfl,?_,hw.done⟩
     (simp_all[cC];done)
    ·refine kZ ?_;refine mB ?_
     refine bC (λ c25=>?_) (λ c25=>?_)
     ·refine bT rfl ?_;refine Df ?_;refine oG ?_;refine J1 ?_
      refine aT Tryz.results158 (λ w hw=>?_)
      refine⟨_,rfl,?_,hw.done⟩
      (simp_all[cC];done)
     ·refine kZ ?_;refine mB ?_
      refine bC (λ c27=>?_) (λ c27=>?_)
      ·refine bT rfl ?_;refine aV ?_;refine aV ?_;refine eH [(0,[]),(1,[]),(2,[]),(3,[]),(4,[]),(5,[1]),(6,[]),(7,[]),(8,[]),(9,[]),(10,[]),(11,[]),(12,[])] ?_;refine lK ?_;refine oE ?_;refine lK ?_;refine dC (i:=5) (hq:=(cV (hc:=λ w1 hw=>tj n.bm w1))) (h:=λ x47=>?_);refine oJ ?_;refine aR ?_
       (refine qa 49 (λ g49=>?_) (λ g49=>?_)<;>(first|refine fQ ?_|(refine aW ?_)))
       all_goals ((first|refine fQ ?_|(refine bS ?_));(first|refine fQ ?_|(refine bE (i:=10) (hq:=(c0 (V:=.bool) (hc:=λ w1 hw=>by rw[e1];exact Tu (hr.br.gH hw.st) hr.brS))) (h:=λ x52 h52=>?_)));refine kY ?_;refine J7 ?_)
       all_goals
       refine aT Tryz.results158 (λ w hw=>?_)
       refine⟨_,rfl,?_,hw.done⟩
       (simp_all[cC];done)
      ·refine kZ ?_;refine mB ?_
       refine bC (λ c29=>?_) (λ c29=>?_)
       ·refine Yn ?_;refine Df ?_;refine mH ?_;refine A2 ?_;refine J1 ?_
        refine aT Tryz.results158 (λ w hw=>?_)
        refine⟨_,rfl,?_,hw.done⟩
        (simp_all[cC];omega)
       ·refine kZ ?_;refine mB ?_
        refine bC (λ c31=>?_) (λ c31=>?_)
        ·refine bT rfl ?_;refine Df ?_;refine mH ?_;refine A2 ?_;refine J1 ?_
         refine aT Tryz.results158 (λ w hw=>?_)
         refine⟨_,rfl,?_,hw.done⟩
         (simp_all[cC];omega)
        ·refine kZ ?_;refine mB ?_
         refine bC (λ c33=>?_) (λ c33=>?_)
         ·refine bT rfl ?_;refine Df ?_;refine dS ?_;refine oG ?_;refine aB ?_
          (refine eI 62 (λ g62=>?_) (λ g62=>?_)<;>refine Ka1 ?_)
          all_goals (refine Ka2 ?_;(first|refine aJ ?_|(refine aF ?_;refine aE (c0 (V:=.bool) (hc:=λ w1 hw=>by rw[e2];exact Zp (hr.pr.gH hw.st) hr.prS)) (λ x65 h65=>?_)));refine Ka6 ?_)
          all_goals (first|refine aJ ?_|(refine eI 67 (λ g67=>?_) (λ g67=>?_)<;>refine Ka1 ?_))
          all_goals (refine Ka2 ?_;(first|refine aJ ?_|(refine aF ?_;refine aE (c0 (V:=.bool) (hc:=λ w1 hw=>by rw[e2];exact Pc (hr.pr.gH hw.st) hr.prS)) (λ x70 h70=>?_)));refine Kb7 ?_)
          all_goals
          refine aT Tryz.results158 (λ w hw=>?_)
          refine⟨_,rfl,?_,hw.done⟩
          first|(simp_all[cC];done)|(simp_all[cC];omega)
         ·refine kZ ?_;refine mB ?_
          refine bC (λ c35=>?_) (λ c35=>?_)
          ·refine bT rfl ?_;refine iH ?_;refine Ca ?_
           (refine eI 75 (λ g75=>?_) (λ g75=>?_)<;>refine Ka1 ?_)
           all_goals (refine xu ?_;refine aI ?_)
           all_goals
           refine bC (λ c79=>?_) (λ c79=>?_)
           ·all_goals refine dA ?_
            all_goals
             refine aT Tryz.results158 (λ w hw=>?_)
             refine⟨_,rfl,?_,hw.done⟩
             (simp_all[cC];omega)
           ·try exact nv c79
            all_goals (refine pF ?_;refine Df ?_;refine oG ?_;refine J1 ?_)
            all_goals
             refine aT Tryz.results158 (λ w hw=>?_)
             refine⟨_,rfl,?_,hw.done⟩
             (simp_all[cC];done)
          ·refine aZ ?_;refine mB ?_
           refine bC (λ c37=>?_) (λ c37=>?_)
           ·refine bT rfl ?_;refine Df ?_;refine oG ?_;refine J1 ?_
            refine aT Tryz.results158 (λ w hw=>?_)
            refine⟨_,rfl,?_,hw.done⟩
            (simp_all[cC];done)
           ·refine aZ ?_;refine bT rfl ?_;refine dA ?_
            refine aT Tryz.results158 (λ w hw=>?_)
            refine⟨_,rfl,?_,hw.done⟩
            (simp_all[cC];done)
end
end Go.Proofs.YtbajmaoegmbfgaaGreat
namespace Go.Ct
section
def gG(n:Nd):Option Int:=if n.kind=2 then some n.main else if n.kind=3∨n.kind=5∨n.kind=6 then some n.prev else if n.kind=8 then some n.status else none
def eQ(u:Option (List Bool))(n:Nd):Option (List Bool) :=
 match u with
 | none=>none
 | some u=>match gG n with
  | none=>some u
  | some c=>if 1<=c/\c<=u.length/\u.getD (c-1).toNat false=false then some (u.set (c-1).toNat true) else none
def marks(m:Nat)(L:List aQ):Option (List Bool):=L.foldl (λ u v=>eQ u v.nd) (some (List.replicate m false))
theorem nJ{m:Nat}{L:List aQ}{k:Nat}(h:k<L.length):marks m (L.take (k+1))=eQ (marks m (L.take k)) (L.getD k aQ.zero).nd:=by
 rw[marks,List.take_succ_eq_append_getElem h,List.foldl_append,iU,List.getElem?_eq_getElem h]
 rfl
theorem H6{m:Nat}{L:List aQ}{k:Nat}(h:marks m (L.take k)=none):marks m L=none:=by
 have e:L=L.take k++L.drop k:=(List.take_append_drop k L).symm
 rw[e,marks,List.foldl_append]
 rw[marks] at h
 rw[h]
 generalize L.drop k=l
 induction l with
 | nil=>rfl
 | cons v l ih=>exact ih
theorem Bw{m:Nat}:∀{L:List aQ} {u:List Bool},marks m L=some u->u.length=m:=by
 intro L
 have key:∀(l:List aQ) (u0:Option (List Bool)),(∀u,u0=some u->u.length=m)->∀u,l.foldl (λ u v=>eQ u v.nd) u0=some u->u.length=m:=by
  intro l
  induction l with
  | nil=>intro u0 h u hu;exact h u hu
  | cons v l ih =>
   intro u0 h u hu
   refine ih (eQ u0 v.nd) (λ u1 h1=>?_) u hu
   cases u0 with
   | none=>simp[eQ] at h1
   | some u2 =>
    have:=h u2 rfl
    simp only[eQ] at h1
    cases hc:gG v.nd with
    | none=>rw[hc] at h1;simp only[Option.some.injEq] at h1;rw[<- h1];exact this
    | some c =>
     rw[hc] at h1
     simp only at h1
     split at h1
     ·simp only[Option.some.injEq] at h1;rw[<- h1,List.length_set];exact this
     ·cases h1
 intro u hu
 exact key L _ (λ u h=>by simp only[Option.some.injEq] at h;rw[<- h];simp) u hu
def Ej(r:Int)(n:Nat):Prop:=0<=r/\r<=(n:Int)
instance (r:Int) (n:Nat):Decidable (Ej r n):=inferInstanceAs (Decidable (0<=r/\r<=(n:Int)))
theorem yr{r:Int}{n:Nat}(h:0<=r):decide (Ej r n)=decide (r<=(n:Int)):=by
 by_cases h2:r<=(n:Int)
 ·rw[decide_eq_true h2,decide_eq_true ⟨h,h2⟩]
 ·rw[decide_eq_false h2,decide_eq_false λ h3=>h2 h3.2]
def Un(n:Nd)(xs:List Int)(N:Nat):Prop:=(∀i,i<xs.length->Ej (xs.getD i 0) N)/\Ej n.bK N/\Ej n.exp N/\Ej n.new N
def nC(gen:Int)(N:Nat)(v:aQ):Prop:=cC v.nd v.xs v.ys/\v.nd.gen<=gen/\Un v.nd v.xs N
structure gJ(L:List aQ)(cs:List Int)(gen:Int):Prop where
 two:2<=L.length
 gen0:0<=gen
 m0:(L.getD 0 aQ.zero).nd.kind=1
 m1:(L.getD 1 aQ.zero).nd.kind=1
 cells:∀i,i<cs.length->Ej (cs.getD i 0) L.length
 nodes:∀i,i<L.length->nC gen L.length (L.getD i aQ.zero)
 marks:marks cs.length L≠none
end
end Go.Ct
namespace Go.Proofs.YtbajmaoegmbfgaaGreat
open Go.RowKit Go.Ct
section
theorem xB(r:Int)(n:Nat)(w:World):Calls Tryz.prog 157 #[.int .i64 r,.int .i64 ((n:Nat):Int)] w λ e w'=>e=.returned (.bool (decide (Ej r n)))/\St w [] [] w':=by
 refine enter Tryz.func157 Tryz.ntmps157 rfl rfl (SF.s0 w) ?_
 simp only[cG]
 refine Kc7 ?_;refine oG ?_;refine aB ?_
 (refine eI 7 (λ g7=>?_) (λ g7=>?_)<;>refine Ka0 ?_)
 all_goals (refine Ka0 ?_;(first|refine aJ ?_|(refine aF ?_;refine A2 ?_));refine Kb7 ?_)
 all_goals
 refine aT Tryz.results157 (λ w hw=>?_)
 refine⟨?_,hw.done⟩
 first|(rw[decide_eq_false (show ¬Ej r n from λ h=>by have:=h.1;have:=h.2;omega)];rfl)|(rw[yr (by omega)];rfl)
theorem L6{n:Nd}{xs:List Int}{N:Nat}{w:World}(e1:n.brN=xs.length)(ha:Cl w n.brA (aH xs))(hx:xs.length<4611686018427387904) :
  Calls Tryz.prog 159 #[n.v,.int .i64 ((N:Nat):Int)] w λ e w'=>∃r:Bool,e=.returned (.bool r)/\(r=true↔Un n xs N)/\St w [] [] w':=by
 refine enter Tryz.func159 Tryz.ntmps159 rfl rfl (SF.s1 ha) ?_
 simp only[cG]
 simp only[Nd.v,Nd.cells,e1]
 refine J0 ?_;refine bM (λ x2=>?_);refine iT ?_;refine iH ?_;refine dS ?_;refine Lk ?_;refine cW ?_
 refine nT [4,6,10,11,12,13,14,15,16,17,18] (λ k=>[(10,.int .i64 ((k:Nat):Int))]) (λ k=>k<=xs.length/\∀i,i<k->Ej (xs.getD i 0) N) (λ k=>_) (λ _=>_) (λ _=>_) (λ k=>xs.length-k) (0) (⟨Nat.zero_le _,λ i hi=>absurd hi (Nat.not_lt_zero i)⟩) (λ k f hx=>?_)
 dsimp only[iC,List.map,List.cons_append,List.nil_append]
 refine J0 ?_;refine Bi ?_;refine aV ?_
 refine bC (λ c11=>?_) (λ c11=>?_)
 ·refine rY ?_;refine J0 ?_;refine Rw ?_;refine zZ ?_;refine aP (cV (hc:=λ w1 hw=>xB _ N w1)) (λ x16=>?_);refine pE ?_
  refine bC (λ c17=>?_) (λ c17=>?_)
  ·refine dA ?_
   refine aT Tryz.results159 (λ w hw=>?_)
   exact⟨false,rfl,⟨(λ h=>nomatch h),λ h=>absurd (h.1 k (by omega)) (by assumption)⟩,hw.done⟩
  ·refine pF ?_;refine oq ?_;refine Lk ?_
   refine iO (k+1) ?_
   ·exact⟨by omega,λ i hi=>by rcases Nat.lt_succ_iff_lt_or_eq.1 hi with h|rfl;exact hx.2 i h;assumption⟩
 ·refine bT rfl ?_;refine Kb9 ?_;refine aP (cV (hc:=λ w1 hw=>xB _ N w1)) (λ x22=>?_);refine aB ?_
  (refine eI 23 (λ g23=>?_) (λ g23=>?_)<;>refine Ka1 ?_)
  all_goals (refine ig ?_;(first|refine aJ ?_|(refine aF ?_;refine aP (cV (hc:=λ w1 hw=>xB _ N w1)) (λ x27=>?_)));refine Ka6 ?_)
  all_goals (first|refine aJ ?_|(refine eI 29 (λ g29=>?_) (λ g29=>?_)<;>refine Ka1 ?_))
  all_goals (refine ig ?_;(first|refine aJ ?_|(refine aF ?_;refine aP (cV (hc:=λ w1 hw=>xB _ N w1)) (λ x33=>?_)));refine Kb7 ?_)
  all_goals
  refine aT Tryz.results159 (λ w hw=>?_)
  have hall:∀i,i<xs.length->Ej (xs.getD i 0) N:=λ i hi=>hx.2 i (by omega)
  first|exact⟨_,rfl,by simp_all[Un],hw.done⟩
theorem cq(n:Nd)(w:World):Calls Tryz.prog 160 #[n.v] w λ e w'=>e=.returned (.tuple #[.int .i64 ((gG n).getD 0),.bool (gG n).isSome])/\St w [] [] w':=by
 refine enter Tryz.func160 Tryz.ntmps160 rfl rfl (SF.s0 w) ?_
 simp only[cG]
 simp only[Nd.v,Nd.cells]
 refine J0 ?_;refine bM (λ x1=>?_);refine J8 ?_;refine D2 ?_;refine iH ?_;refine Rt ?_
 refine bC (λ c4=>?_) (λ c4=>?_)
 ·refine iH ?_;refine J8 ?_
  refine bD Tryz.results160 (λ w hw=>?_)
  refine⟨?_,hw.done⟩
  (rw[show gG n=some n.main by simp[gG,c4]];rfl)
 ·refine oR ?_;refine aE (c0 (V:=.bool) (hc:=λ w1 hw=>So n w1)) (λ x12 h12=>?_);refine J1 ?_
  refine bC (λ c10=>?_) (λ c10=>?_)
  ·have k22:n.kind=3∨n.kind=5∨n.kind=6:=h12.1 c10
   refine iH ?_;refine J8 ?_
   refine bD Tryz.results160 (λ w hw=>?_)
   refine⟨?_,hw.done⟩
   (rw[show gG n=some n.prev by simp only[gG];rw[if_neg c4,if_pos k22]];rfl)
  ·have k22:¬(n.kind=3∨n.kind=5∨n.kind=6):=λ k=>by rw[h12.2 k] at c10;cases c10
   refine iH ?_;refine Rt ?_
   refine bC (λ c15=>?_) (λ c15=>?_)
   ·refine iH ?_;refine J8 ?_
    refine bD Tryz.results160 (λ w hw=>?_)
    refine⟨?_,hw.done⟩
    (rw[show gG n=some n.status by simp only[gG];rw[if_neg c4,if_neg k22,if_pos c15]];rfl)
   ·refine pF ?_;refine Ov ?_
    refine bD Tryz.results160 (λ w hw=>?_)
    refine⟨?_,hw.done⟩
    (rw[show gG n=none by simp only[gG];rw[if_neg c4,if_neg k22,if_neg c15]];rfl)
end
section
set_option maxRecDepth 100000 in
theorem Ri{L:List aQ}{cs:List Int}{gen:Int}{pn pc:Option Addr}{cn cc:Nat}{w:World}(h:rU w L cs pn pc)(hL:L.length<=274877906944)(hC:cs.length<=274877906944) :
    Calls Tryz.prog 117 #[.agg ⟨[.slice pn L.length cn,.slice pc cs.length cc,.int .i64 gen]⟩] w λ e w'=>∃r:Bool,e=.returned (.bool r)/\(r=true↔gJ L cs gen)/\St w [] [] w':=by
  refine enter Tryz.func117 Tryz.ntmps117 rfl rfl h.start ?_
  simp only[cG]
  refine J0 ?_;refine bM (λ x1=>?_);refine iT ?_;refine iH ?_;refine dS ?_;refine Ca ?_
  (refine eI 14 (λ g14=>?_) (λ g14=>?_)<;>refine Ka1 ?_)
  all_goals (refine xu ?_;refine aI ?_)
  all_goals
   refine bC (λ c18=>?_) (λ c18=>?_)
   · all_goals refine dA ?_
     all_goals
      refine aT Tryz.results117 (λ w hw=>?_)
      exact⟨false,rfl,⟨(λ h=>nomatch h),λ hp=>by have h1:=hp.two;have h2:=hp.gen0;exfalso;omega⟩,hw.done⟩
   · try exact nv c18
     all_goals (refine kZ ?_;refine iH ?_;refine aD (sI (k:=0) rf rf fZ eT fin (by omega) (by omega)) rfl ?_;refine aG ?_;refine aD (wB (q:=0) rf fO fin (by omega)) rfl ?_;refine nD ?_;refine aB ?_)
     all_goals ((refine eI 25 (λ g25=>?_) (λ g25=>?_)<;>refine Ka1 ?_))
     all_goals (refine Ka2 ?_;(first|refine aJ ?_|(refine aF ?_;refine aD (sI (k:=1) rf rf fZ eT fin (by omega) (by omega)) rfl ?_));refine Ka1 ?_;(first|refine aJ ?_|(refine aF ?_;refine aD (wB (q:=1) rf fO fin (by omega)) rfl ?_));refine Ry ?_;refine aI ?_)
     all_goals
      refine bC (λ c32=>?_) (λ c32=>?_)
      · all_goals refine dA ?_
        all_goals
         refine aT Tryz.results117 (λ w hw=>?_)
         exact⟨false,rfl,⟨(λ h=>nomatch h),λ hp=>by have h1:=hp.m0;have h2:=hp.m1;exfalso;omega⟩,hw.done⟩
      · try exact nv c32
        all_goals (refine kZ ?_;refine iH ?_;refine dS ?_;refine Lk ?_;refine cW ?_)
        all_goals
         refine iF [2,4,36,37,38,39,40,41,42,43,44,45,46] (λ k=>[(36,.int .i64 ((k:Nat):Int))]) (λ k=>k<=cs.length/\∀i,i<k->Ej (cs.getD i 0) L.length) (λ k=>cs.length-k) (0) (⟨Nat.zero_le _,λ i hi=>absurd hi (Nat.not_lt_zero i)⟩) ?_ (λ k f hx=>?_)
         · repeat (first|exact bJ _|refine bF (by exact rfl) ?_)
         dsimp only[iC,List.map,List.cons_append,List.nil_append]
         refine J0 ?_;refine Bi ?_;refine aV ?_
         refine bC (λ c37=>?_) (λ c37=>?_)
         · refine rY ?_;refine J0 ?_;refine Rw ?_;refine Ka4 ?_;refine Rr ?_;refine aP (cV (hc:=λ w1 hw=>xB _ _ w1)) (λ x44=>?_);refine pE ?_
           refine bC (λ c45=>?_) (λ c45=>?_)
           · refine dA ?_
             refine aT Tryz.results117 (λ w hw=>?_)
             exact⟨false,rfl,⟨(λ h=>nomatch h),λ hp=>absurd (hp.cells k (by omega)) (by assumption)⟩,hw.done⟩
           · refine pF ?_;refine oq ?_;refine Lk ?_
             refine fP (k+1) ?_ ?_ ?_
             · omega
             · repeat' (first|exact bJ _|refine bF ?_ ?_)
               exact rfl
             · exact⟨by omega,λ i hi=>by rcases Nat.lt_succ_iff_lt_or_eq.1 hi with h|rfl;exact hx.2 i h;assumption⟩
         · refine bT rfl ?_;refine iH ?_;refine dS ?_;refine xJ (λ x50=>?_);refine iT ?_;refine iH ?_;refine dS ?_;refine Lk ?_;refine cW ?_
           have hcells:∀i,i<cs.length->Ej (cs.getD i 0) L.length:=λ i hi=>hx.2 i (by omega)
           clear hx
           refine nT [2,7,8,9,54,55,56,57,58,59,60,61,62,63,64,65,66,67,68,69,70,71,72,73,74,75,76,77,78,79,80,81,82,83,84,85,86,87,88,89,90,91,92,93,94,95,96,97,98,99,100,101,102,103] (λ y:Nat×List Bool=>[(54,.int .i64 ((y.1:Nat):Int))]) (λ y=>y.1<=L.length/\marks cs.length (L.take y.1)=some y.2/\∀i,i<y.1->nC gen L.length (L.getD i aQ.zero)) (λ _=>_) (λ _=>_) (λ y=>[⟨some ⟨x50,0,none⟩,jP y.2,cs.length,4,1⟩]) (λ y=>L.length-y.1) ((0,List.replicate cs.length false)) (⟨Nat.zero_le _,rfl,λ i hi=>absurd hi (Nat.not_lt_zero i)⟩) (λ y f hx=>?_)
           dsimp only[iC,List.map,List.cons_append,List.nil_append]
           have hu:=Bw hx.2.1
           refine J0 ?_;refine Bi ?_;refine aV ?_
           refine bC (λ c55=>?_) (λ c55=>?_)
           · refine rY ?_;refine J0 ?_;refine Rw ?_;refine aL (λ x7=>?_);refine J5 ?_;refine aV ?_;refine oR ?_;refine aE (c0 (V:=.bool) (hc:=λ w1 hw=>Xy (hw.P2 h.fit (by omega)))) (λ x59 h59=>?_);refine Dg ?_
             (refine eI 61 (λ g61=>?_) (λ g61=>?_)<;>refine Ka1 ?_)
             all_goals (refine Cq ?_;refine Ar ?_;refine aB ?_)
             all_goals (first|refine aJ ?_|(refine eI 68 (λ g68=>?_) (λ g68=>?_)<;>refine Ka2 ?_))
             all_goals (refine Ts ?_;(first|refine aJ ?_|(refine aF ?_;refine aE (c0 (V:=.bool) (hc:=λ w1 hw=>L6 (hw.P2 h.fit (by omega)).brN (hw.P2 h.fit (by omega)).br (hw.P2 h.fit (by omega)).brS)) (λ x73 h73=>?_)));refine Kc0 ?_)
             all_goals
              refine bC (λ c75=>?_) (λ c75=>?_)
              · all_goals refine dA ?_
                all_goals
                 refine aT Tryz.results117 (λ w hw=>?_)
                 refine⟨false,rfl,⟨(λ h=>nomatch h),λ hp=>?_⟩,hw.done⟩
                 obtain⟨q1,q2,q3⟩:=hp.nodes y.1 (by omega)
                 first|(exfalso;omega)|(have:=h59.2 q1;simp_all;done) 
              · try exact nv c75
                all_goals
                 have hok:nC gen L.length (L.getD y.1 aQ.zero):=⟨h59.1 (by simp_all),by omega,h73.1 (by simp_all)⟩
                all_goals (refine aZ ?_;refine oR ?_;refine aP (cV (hc:=λ w1 hw=>cq (L.getD y.1 aQ.zero).nd w1)) (λ x78=>?_);refine Kb5 ?_;refine pE ?_)
                all_goals
                 refine bC (λ c82=>?_) (λ c82=>?_)
                 · have hmk:eQ (some y.2) (L.getD y.1 aQ.zero).nd=some y.2:=by
                    have e:gG (L.getD y.1 aQ.zero).nd=none:=by cases hq:gG (L.getD y.1 aQ.zero).nd<;>simp_all
                    simp only[eQ,e]
                   refine bT rfl ?_;refine oq ?_;refine Lk ?_
                   refine iO ((y.1+1,(eQ (some y.2) (L.getD y.1 aQ.zero).nd).getD y.2)) ?_ (hw1:=λ w hw=>by rw[hmk];exact hw.back)
                   · refine⟨by omega,by rw[nJ (by omega),hx.2.1,hmk];rfl,λ i hi=>?_⟩
                     rcases Nat.lt_succ_iff_lt_or_eq.1 hi with h|rfl
                     · exact hx.2.2 i h
                     · exact hok
                 · obtain⟨c,hc⟩:∃c,gG (L.getD y.1 aQ.zero).nd=some c:=Option.isSome_iff_exists.1 c82
                   rw[hc,Option.getD_some]
                   refine kZ ?_;refine J2 ?_;refine Ca ?_
                   (refine eI 85 (λ g85=>?_) (λ g85=>?_)<;>refine Ka0 ?_)
                   all_goals (refine Ts ?_;refine Ar ?_;refine aB ?_)
                   all_goals (first|refine aJ ?_|(refine eI 92 (λ g92=>?_) (λ g92=>?_)<;>refine Ka0 ?_))
                   all_goals (refine Ka0 ?_;(first|refine aJ ?_|(refine aF ?_;refine aD (L7 rf rf (by omega) (by omega)) rfl ?_));(first|refine aJ ?_|(refine aF ?_;refine aD (oD rf rf fZ fO fin (by omega) (by omega)) rfl ?_));(first|refine aJ ?_|(refine aF ?_;refine aD (Au rf fO fin (by omega)) rfl ?_));refine cA ?_;refine aI ?_)
                   all_goals
                    refine bC (λ c98=>?_) (λ c98=>?_)
                    · all_goals refine dA ?_
                      all_goals
                       refine aT Tryz.results117 (λ w hw=>?_)
                       refine⟨false,rfl,⟨(λ h=>nomatch h),λ hp=>?_⟩,hw.done⟩
                       have hm:marks cs.length (L.take (y.1+1))=none:=by
                        rw[nJ (by omega),hx.2.1]
                        simp only[eQ,hc]
                        refine if_neg λ hh=>?_
                        obtain⟨q1,q2,q3⟩:=hh
                        first|(exfalso;omega)|(exfalso;rw[q3] at c98;cases c98)
                       exact absurd (H6 hm) hp.marks
                    · try exact nv c98
                      all_goals
                       have hmk:eQ (some y.2) (L.getD y.1 aQ.zero).nd=some (y.2.set (c-1).toNat true):=by
                        simp only[eQ,hc]
                        rw[if_pos ⟨by omega,by omega,c98⟩]
                      all_goals (refine aZ ?_;refine Jb ?_;refine aD (L7 rf rf (by omega) (by omega)) rfl ?_;refine aD (oD rf rf fZ fO fin (by omega) (by omega)) rfl ?_;refine J5 ?_;refine fG ?_;refine oq ?_;refine Lk ?_)
                      all_goals
                       refine iO ((y.1+1,(eQ (some y.2) (L.getD y.1 aQ.zero).nd).getD y.2)) ?_ (hw1:=λ w hw=>by rw[hmk];exact hw.back)
                       · refine⟨by omega,by rw[nJ (by omega),hx.2.1,hmk];rfl,λ i hi=>?_⟩
                         rcases Nat.lt_succ_iff_lt_or_eq.1 hi with h|rfl
                         · exact hx.2.2 i h
                         · exact hok
           · refine bT rfl ?_;refine dA ?_
             refine aT Tryz.results117 (λ w hw=>?_)
             have hy:y.1=L.length:=by omega
             have hmm:marks cs.length L=some y.2:=by have:=hx.2.1;rwa [hy,List.take_length] at this
             exact⟨true,rfl,⟨λ _=>⟨by omega,by omega,by omega,by omega,hcells,λ i hi=>hx.2.2 i (by omega),by rw[hmm];exact λ h=>nomatch h⟩,λ _=>rfl⟩,hw.done⟩
end
end Go.Proofs.YtbajmaoegmbfgaaGreat
