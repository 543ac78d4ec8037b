/- linz.newSearch on the history of awake28. (Printed by genlz6.py.) -/
import Derived.Test.YtnilhhnfjfdokaaGreatDoorGLz3
set_option linter.unusedSimpArgs false
set_option linter.unusedVariables false
namespace Go.Proofs.YtnilhhnfjfdokaaGreatDoor
open Go Go.RowKit Go.Ct
structure L0 where
 b:Nat
 mf:Nat
 pc:Option Addr
 cc:Nat
 pe:Option Addr
 ce:Nat
 pk:Option Addr
 ck:Nat
 pr:Option Addr
 cr:Nat
 pm:Option Addr
 cm:Nat
abbrev mJ:List (Nat×Nat):=[(0,0),(1,0),(1,1)]
abbrev G4(rb:Nat)(y:L0):Obj:=.cells ⟨[pt rb,.slice y.pc 3 y.cc,.int .u32 7,.slice y.pe 3 y.ce,.slice y.pk 3 y.ck,.slice y.pr 3 y.cr,.slice y.pm 3 y.cm,.map (some y.mf)]⟩ 119 (0,0)
abbrev L0.fr(y:L0):Fr:=[(y.pm,[.int .i64 1,.int .i64 17,.int .i64 18]),(y.pr,[.int .i64 0,.int .i64 0,.int .i64 0]),(y.pk,[.int .i64 1,.int .i64 1,.int .i64 7]),(y.pe,[.int .u32 0,.int .u32 0,.int .u32 3]),(y.pc,dR gZ mJ)]
theorem mE:dL Tryz.prog 117 83 [.int .u32 0]:=fZ (z:=.int .u32 0) (by kernel_rfl) (by kernel_rfl) rfl
theorem eI:dL Tryz.prog 22 3 [.int .i64 0]:=fZ (z:=.int .i64 0) (by kernel_rfl) (by kernel_rfl) rfl
section
variable{P:Program}{S:List (Nat×Value)}{G:World->Prop}{d:Nat}{ty t t':TypeId}{pos:String}{af:Array Edge}{gd:Option (Nat×Bool)}{x y:Operand}{k k':IntKind}{a b c:Int}
theorem yW(hx:ev S x=.int k a)(hy:ev S y=.int k b)(h:ki k a b=c):aG P S G ⟨some d,.binOp .or t x y t',ty,pos,af,gd⟩ (.int k c):=h▸lf hx hy
theorem eD(hx:ev S x=.int k a)(hy:ev S y=.int k b)(h:lJ k a b=c):aG P S G ⟨some d,.binOp .and t x y t',ty,pos,af,gd⟩ (.int k c):=h▸Sx hx hy
theorem xH(hx:ev S x=.int k a)(hy:ev S y=.int k b)(h:Fz k a b=c):aG P S G ⟨some d,.binOp .andNot t x y t',ty,pos,af,gd⟩ (.int k c):=h▸V1 hx hy
theorem qL(hx:ev S x=.int k a)(hy:ev S y=.int k' b)(h0:0<=b)(h:Ht k a b=c):aG P S G ⟨some d,.binOp .shl t x y t',ty,pos,af,gd⟩ (.int k c):=h▸bh hx hy h0
theorem eQ(hx:ev S x=.int k a)(hy:ev S y=.int k' b)(h0:0<=b)(h:lG k a b=c):aG P S G ⟨some d,.binOp .shr t x y t',ty,pos,af,gd⟩ (.int k c):=h▸Nk hx hy h0
end
section
variable{w:World}{D:List Nat}{x:Gu}{p p0 p1:Option Addr}{c c0 c1:Nat}{a:Nat×Nat}
set_option maxRecDepth 100000 in
set_option maxHeartbeats 2000000 in
theorem Iu(hs:SF w D [(x.b,gB p c x)] (lT x p p0 c0 p1 c1) [] [] w):Calls Tryz.prog 28 #[pt x.b] w λ e w'=>∃y:L0,e=.returned (pt y.b)/\True/\SF w D [(y.b,G4 x.b y),(y.mf,bW [] 0),(x.b,gB p c x)] [] y.fr [] w':=by
 refine enter Tryz.func28 Tryz.ntmps28 rfl rfl hs ?_
 simp only[cP]
 refine Kd1 ?_;refine aF (cE λ _=>kC) (λ x15=>?_);refine cK ?_;refine bF (λ x17=>?_);refine kZ ?_;refine aJ ?_
 refine tX (λ w hw=>((((hw.gU 3 1).gU 3 1).gU 3 1).gU 83 1).gU 45 2) ?_
 refine Gt ?_;refine bC ?_;refine oi ?_;refine Ka7 ?_;refine cJ ?_;refine Ka1 ?_
 refine aU (λ c24=>?_) (λ c24=>?_)
 ·try (first|contradiction|(exfalso;omega))
  refine Ka6 ?_;refine aA (bR (cs:=x.out) rf rf dJ eC (.old .head) (Nat.le_of_ble_eq_true rfl) (Nat.le_of_ble_eq_true rfl)) rfl ?_;refine aA (bO (cs:=x.out) rf eC (.old .head) rfl) rfl ?_;refine J8 ?_;refine J2 ?_;refine Ka8 ?_;refine cJ ?_;refine Ka1 ?_
  refine aU (λ c31=>?_) (λ c31=>?_)
  ·try (first|contradiction|(exfalso;omega))
   refine Ka6 ?_;refine aA (aY (f:=oM.cells) eL (by decide) rf rf dJ cY (.old (.tail .head)) (Nat.le_of_ble_eq_true rfl) (Nat.le_of_ble_eq_true rfl)) rfl ?_;refine aA (cH (f:=oM.cells) eL rf cY (.old (.tail .head)) rfl) rfl ?_;refine aI (λ x7=>?_);refine bX (λ _=>?_);refine J5 ?_;refine jA ?_;refine iP ?_;refine aB ?_
   (refine Kb6 ?_)
   ((refine aE ?_;refine aF (cV (hc:=λ w1 hw=>kD _ (by decide) w1)) (λ x40=>?_)));refine Q9 ?_;refine aD ?_
   refine aU (λ c42=>?_) (λ c42=>?_)
   ·try (first|contradiction|(exfalso;omega))
    refine Cw ?_;refine bC ?_;refine J3 ?_;refine G3 ?_;refine aA (mK rf rf) rfl ?_;refine aF (by exact gD λ _=>aP fO mH rf rf rf rf (by simp only[dQ,cI,List.cons_append,List.nil_append,List.append_nil];exact rfl)) (λ x51=>?_);(refine aF (aQ.cL (cQ (sz:=2) rf rf .head rfl (.new .head) rfl rfl fO rfl (by decide) dJ (by decide)) hP) (λ x52=>?_);try (refine eH (λ h52=>?_)));refine Ak ?_;refine Ka9 ?_;refine bH ?_;refine Ka1 ?_
    refine aU (λ c31=>?_) (λ c31=>?_)
    ·exact nv c31
    ·try (first|contradiction|(exfalso;omega))
     refine Ry ?_;refine Ka3 ?_;refine bH ?_;refine Ka1 ?_
     refine aU (λ c24=>?_) (λ c24=>?_)
     ·try (first|contradiction|(exfalso;omega))
      refine Ka6 ?_;refine aA (bR (cs:=x.out) rf rf dJ eC (.old .head) (Nat.le_of_ble_eq_true rfl) (Nat.le_of_ble_eq_true rfl)) rfl ?_;refine aA (bO (cs:=x.out) rf eC (.old .head) rfl) rfl ?_;refine J8 ?_;refine J2 ?_;refine Ka8 ?_;refine cJ ?_;refine Ka1 ?_
      refine aU (λ c31=>?_) (λ c31=>?_)
      ·try (first|contradiction|(exfalso;omega))
       refine Ka6 ?_;refine aA (aY (f:=oM.cells) eL (by decide) rf rf dJ cY (.old (.tail (.tail .head))) (Nat.le_of_ble_eq_true rfl) (Nat.le_of_ble_eq_true rfl)) rfl ?_;refine aA (cH (f:=oM.cells) (k:=0) eL rf cY (.old (.tail (.tail .head))) rfl) rfl ?_;refine aI (λ x7=>?_);refine bX (λ _=>?_);refine J5 ?_;refine jA ?_;refine iP ?_;refine aB ?_
       (refine Kb6 ?_)
       ((refine aE ?_;refine aF (cV (hc:=λ w1 hw=>kD _ (by decide) w1)) (λ x40=>?_)));refine Q9 ?_;refine aD ?_
       refine aU (λ c42=>?_) (λ c42=>?_)
       ·try (first|contradiction|(exfalso;omega))
        refine Cw ?_;refine bC ?_;refine J3 ?_;refine G3 ?_;refine aA (mK rf rf) rfl ?_;refine aF (by exact gD λ _=>aP fO mH rf rf rf rf (by simp only[dQ,cI,List.cons_append,List.nil_append,List.append_nil];exact rfl)) (λ x51=>?_);(refine aF (aQ.cL (cQ (sz:=2) rf rf .head rfl (.new .head) rfl rfl fO rfl (by decide) dJ (by decide)) hP) (λ x52=>?_);try (refine eH (λ h52=>?_)));refine Ak ?_;refine Ka9 ?_;refine bH ?_;refine Ka1 ?_
        refine aU (λ c31=>?_) (λ c31=>?_)
        ·try (first|contradiction|(exfalso;omega))
         refine Ka6 ?_;refine aA (aY (f:=oM.cells) eL (by decide) rf rf dJ cY (.old (.tail (.tail .head))) (Nat.le_of_ble_eq_true rfl) (Nat.le_of_ble_eq_true rfl)) rfl ?_;refine aA (cH (f:=oM.cells) (k:=1) eL rf cY (.old (.tail (.tail .head))) rfl) rfl ?_;refine aI (λ x7=>?_);refine bX (λ _=>?_);refine J5 ?_;refine jA ?_;refine iP ?_;refine aB ?_
         (refine Kb6 ?_)
         ((refine aE ?_;refine aF (cV (hc:=λ w1 hw=>kD _ (by decide) w1)) (λ x40=>?_)));refine Q9 ?_;refine aD ?_
         refine aU (λ c42=>?_) (λ c42=>?_)
         ·try (first|contradiction|(exfalso;omega))
          refine Cw ?_;refine bC ?_;refine J3 ?_;refine G3 ?_;refine aA (mK rf rf) rfl ?_;refine aF (by exact gD λ _=>aP fO mH rf rf rf rf (by simp only[dQ,cI,List.cons_append,List.nil_append,List.append_nil];exact rfl)) (λ x51=>?_);(refine aF (aQ.cL (cQ (sz:=2) rf rf .head rfl (.new .head) rfl rfl fO rfl (by decide) dJ (by decide)) hP) (λ x52=>?_);try (refine eH (λ h52=>?_)));refine Ak ?_;refine Ka9 ?_;refine bH ?_;refine Ka1 ?_
          refine aU (λ c31=>?_) (λ c31=>?_)
          ·exact nv c31
          ·try (first|contradiction|(exfalso;omega))
           refine Ry ?_;refine Ka3 ?_;refine bH ?_;refine Ka1 ?_
           refine aU (λ c24=>?_) (λ c24=>?_)
           ·exact nv c24
           ·try (first|contradiction|(exfalso;omega))
            refine aX rfl ?_;refine aJ ?_;refine Kc6 ?_;refine cJ ?_;refine Ka1 ?_
            refine aU (λ c63=>?_) (λ c63=>?_)
            ·try (first|contradiction|(exfalso;omega))
             refine Ka6 ?_;refine aA (aY (f:=gZ) (l:=mJ) dM (by decide) rf rf dJ (by kernel_rfl) (.own .head) (Nat.le_of_ble_eq_true rfl) (Nat.le_of_ble_eq_true rfl)) rfl ?_;refine aA (cH (f:=gZ) (l:=mJ) (k:=0) dM rf (by kernel_rfl) (.own .head) rfl) rfl ?_;refine aF (cE λ _=>cG (z:=[.int .i64 0,.int .i64 0]) (by kernel_rfl)) (λ x9=>?_);refine bX (λ _=>?_);refine aL (cE λ _=>aC rf bD rf rfl (by kernel_rfl) rf dI) (λ _=>?_);refine Kc8 ?_;refine aA (fR (aN rf bD (by kernel_rfl))) rfl ?_;refine aH (cM (φ:=λ _=>True) (V:=λ _:Unit=>.agg ⟨(wL (0,0)).cells⟩) (hs:=[(x.b,gB p c x)]) (os:=[]) (A0:=lT x p p0 c0 p1 c1) (hs':=λ _=>[(x.b,gB p c x)]) (os':=λ _=>[]) (Fc:=λ _=>[]) (hc:=λ w1 hw=>(dS (a:=(0,0)) (.inl rfl) hw).mono λ _ _ ⟨e,h⟩=>⟨(),e,trivial,h⟩)) (λ x69 h69=>?_);refine nF ?_;refine Kc9 ?_
             refine aU (λ c71=>?_) (λ c71=>?_)
             ·try (first|contradiction|(exfalso;omega))
              refine iM [0,1,2,3,4,5,6,7,8,9] ?_;refine mG ?_;refine aR ?_;refine cZ (i:=5) (hq:=(qL (c:=1) rf rf (by decide) (by decide))) (h:=?_);refine cZ (i:=6) (hq:=(yW (c:=1) rf rf (by decide))) (h:=?_);refine Gq ?_;refine Lf ?_;refine Kc6 ?_;refine cJ ?_;refine Ka1 ?_
              refine aU (λ c87=>?_) (λ c87=>?_)
              ·try (first|contradiction|(exfalso;omega))
               refine Ka6 ?_;refine aA (aY (f:=gZ) (l:=mJ) dM (by decide) rf rf dJ (by kernel_rfl) (.own .head) (Nat.le_of_ble_eq_true rfl) (Nat.le_of_ble_eq_true rfl)) rfl ?_;refine aA (cH (f:=gZ) (l:=mJ) (k:=0) dM rf (by kernel_rfl) (.own .head) rfl) rfl ?_;refine aF (cE λ _=>cG (z:=[.int .i64 0,.int .i64 0]) (by kernel_rfl)) (λ x12=>?_);refine bX (λ _=>?_);refine aL (cE λ _=>aC rf bD rf rfl (by kernel_rfl) rf dI) (λ _=>?_);refine Kb8 ?_;refine aA (fR (aN rf bD (by kernel_rfl))) rfl ?_;refine aH (cM (φ:=λ _=>True) (V:=λ _:Unit=>.agg ⟨(wL (0,0)).cells⟩) (hs:=[(x.b,gB p c x)]) (os:=[]) (A0:=lT x p p0 c0 p1 c1) (hs':=λ _=>[(x.b,gB p c x)]) (os':=λ _=>[]) (Fc:=λ _=>[]) (hc:=λ w1 hw=>(dS (a:=(0,0)) (.inl rfl) hw).mono λ _ _ ⟨e,h⟩=>⟨(),e,trivial,h⟩)) (λ x93 h93=>?_);refine aI (λ x13=>?_);refine aL (cE λ _=>aC rf bD rf rfl (by kernel_rfl) rf dI) (λ _=>?_);refine pT ?_;refine eG [(0,[]),(1,[]),(2,[]),(3,[]),(4,[]),(5,[]),(6,[]),(7,[]),(8,[5]),(9,[]),(10,[]),(11,[])] ?_;refine gY ?_;refine tH ?_;refine aR ?_
               (refine bM ?_)
               ((refine cB ?_));((refine aR ?_));((refine aS (i:=7) (hq:=(fR (aN rf bD (by kernel_rfl)))) (h:=?_)));((refine bS (i:=8) (hq:=(cM (φ:=λ _=>True) (V:=λ _:Unit=>.agg ⟨(wL (0,0)).cells⟩) (hs:=[(x.b,gB p c x)]) (os:=[]) (A0:=lT x p p0 c0 p1 c1) (hs':=λ _=>[(x.b,gB p c x)]) (os':=λ _=>[]) (Fc:=λ _=>[]) (hc:=λ w1 hw=>(dS (a:=(0,0)) (.inl rfl) hw).mono λ _ _ ⟨e,h⟩=>⟨(),e,trivial,h⟩))) (h:=λ x102 h102=>?_)));((refine gR ?_));((refine pK ?_));refine Kd4 ?_
               refine aU (λ c105=>?_) (λ c105=>?_)
               ·exact nv c105
               ·try (first|contradiction|(exfalso;omega))
                refine Kc0 ?_;refine bH ?_;refine Ka1 ?_
                refine aU (λ c87=>?_) (λ c87=>?_)
                ·try (first|contradiction|(exfalso;omega))
                 refine Ka6 ?_;refine aA (aY (f:=gZ) (l:=mJ) dM (by decide) rf rf dJ (by kernel_rfl) (.own .head) (Nat.le_of_ble_eq_true rfl) (Nat.le_of_ble_eq_true rfl)) rfl ?_;refine aA (cH (f:=gZ) (l:=mJ) (k:=1) dM rf (by kernel_rfl) (.own .head) rfl) rfl ?_;refine aF (cE λ _=>cG (z:=[.int .i64 0,.int .i64 0]) (by kernel_rfl)) (λ x12=>?_);refine bX (λ _=>?_);refine aL (cE λ _=>aC rf bD rf rfl (by kernel_rfl) rf dI) (λ _=>?_);refine Kb8 ?_;refine aA (fR (aN rf bD (by kernel_rfl))) rfl ?_;refine aH (cM (φ:=λ _=>True) (V:=λ _:Unit=>.agg ⟨(wL (1,0)).cells⟩) (hs:=[(x.b,gB p c x)]) (os:=[]) (A0:=lT x p p0 c0 p1 c1) (hs':=λ _=>[(x.b,gB p c x)]) (os':=λ _=>[]) (Fc:=λ _=>[]) (hc:=λ w1 hw=>(dS (a:=(1,0)) (.inr (.inl rfl)) hw).mono λ _ _ ⟨e,h⟩=>⟨(),e,trivial,h⟩)) (λ x93 h93=>?_);refine aI (λ x13=>?_);refine aL (cE λ _=>aC rf bD rf rfl (by kernel_rfl) rf dI) (λ _=>?_);refine pT ?_;refine eG [(0,[]),(1,[]),(2,[]),(3,[]),(4,[]),(5,[]),(6,[]),(7,[]),(8,[5]),(9,[]),(10,[]),(11,[])] ?_;refine gY ?_;refine tH ?_;refine aR ?_
                 (refine bM ?_)
                 ((refine cB ?_));((refine aR ?_));((refine aS (i:=7) (hq:=(fR (aN rf bD (by kernel_rfl)))) (h:=?_)));((refine bS (i:=8) (hq:=(cM (φ:=λ _=>True) (V:=λ _:Unit=>.agg ⟨(wL (0,0)).cells⟩) (hs:=[(x.b,gB p c x)]) (os:=[]) (A0:=lT x p p0 c0 p1 c1) (hs':=λ _=>[(x.b,gB p c x)]) (os':=λ _=>[]) (Fc:=λ _=>[]) (hc:=λ w1 hw=>(dS (a:=(0,0)) (.inl rfl) hw).mono λ _ _ ⟨e,h⟩=>⟨(),e,trivial,h⟩))) (h:=λ x102 h102=>?_)));((refine gR ?_));((refine pK ?_));refine Kd4 ?_
                 refine aU (λ c105=>?_) (λ c105=>?_)
                 ·exact nv c105
                 ·try (first|contradiction|(exfalso;omega))
                  refine Kc0 ?_;refine bH ?_;refine Ka1 ?_
                  refine aU (λ c87=>?_) (λ c87=>?_)
                  ·try (first|contradiction|(exfalso;omega))
                   refine Ka6 ?_;refine aA (aY (f:=gZ) (l:=mJ) dM (by decide) rf rf dJ (by kernel_rfl) (.own .head) (Nat.le_of_ble_eq_true rfl) (Nat.le_of_ble_eq_true rfl)) rfl ?_;refine aA (cH (f:=gZ) (l:=mJ) (k:=2) dM rf (by kernel_rfl) (.own .head) rfl) rfl ?_;refine aF (cE λ _=>cG (z:=[.int .i64 0,.int .i64 0]) (by kernel_rfl)) (λ x12=>?_);refine bX (λ _=>?_);refine aL (cE λ _=>aC rf bD rf rfl (by kernel_rfl) rf dI) (λ _=>?_);refine Kb8 ?_;refine aA (fR (aN rf bD (by kernel_rfl))) rfl ?_;refine aH (cM (φ:=λ _=>True) (V:=λ _:Unit=>.agg ⟨(wL (1,1)).cells⟩) (hs:=[(x.b,gB p c x)]) (os:=[]) (A0:=lT x p p0 c0 p1 c1) (hs':=λ _=>[(x.b,gB p c x)]) (os':=λ _=>[]) (Fc:=λ _=>[]) (hc:=λ w1 hw=>(dS (a:=(1,1)) (.inr (.inr rfl)) hw).mono λ _ _ ⟨e,h⟩=>⟨(),e,trivial,h⟩)) (λ x93 h93=>?_);refine aI (λ x13=>?_);refine aL (cE λ _=>aC rf bD rf rfl (by kernel_rfl) rf dI) (λ _=>?_);refine pT ?_;refine eG [(0,[]),(1,[]),(2,[]),(3,[]),(4,[]),(5,[]),(6,[]),(7,[]),(8,[5]),(9,[]),(10,[]),(11,[])] ?_;refine gY ?_;refine tH ?_;refine aR ?_
                   (refine bM ?_)
                   ((refine cB ?_));((refine aR ?_));((refine aS (i:=7) (hq:=(fR (aN rf bD (by kernel_rfl)))) (h:=?_)));((refine bS (i:=8) (hq:=(cM (φ:=λ _=>True) (V:=λ _:Unit=>.agg ⟨(wL (0,0)).cells⟩) (hs:=[(x.b,gB p c x)]) (os:=[]) (A0:=lT x p p0 c0 p1 c1) (hs':=λ _=>[(x.b,gB p c x)]) (os':=λ _=>[]) (Fc:=λ _=>[]) (hc:=λ w1 hw=>(dS (a:=(0,0)) (.inl rfl) hw).mono λ _ _ ⟨e,h⟩=>⟨(),e,trivial,h⟩))) (h:=λ x102 h102=>?_)));((refine gR ?_));((refine pK ?_));refine Kd4 ?_
                   refine aU (λ c105=>?_) (λ c105=>?_)
                   ·exact nv c105
                   ·try (first|contradiction|(exfalso;omega))
                    refine Kc0 ?_;refine bH ?_;refine Ka1 ?_
                    refine aU (λ c87=>?_) (λ c87=>?_)
                    ·exact nv c87
                    ·try (first|contradiction|(exfalso;omega))
                     refine aX rfl ?_;refine mL ?_;refine bC ?_;refine J3 ?_;refine aB ?_;refine aF (by exact gD λ _=>aP mE mH rf rf rf rf (by simp only[dQ,cI,List.cons_append,List.nil_append,List.append_nil];exact rfl)) (λ x117=>?_);(refine aF (aQ.cL (cQ (sz:=1) rf rf (.tail .head) rfl (.new .head) rfl rfl mE rfl (by decide) dJ (by decide)) hP) (λ x118=>?_);try (refine eH (λ h118=>?_)));refine Ak ?_;refine aJ ?_;refine eG [(0,[]),(1,[]),(2,[]),(3,[]),(4,[]),(5,[]),(6,[]),(7,[4]),(8,[]),(9,[4]),(10,[]),(11,[]),(12,[]),(13,[])] ?_;refine Cy ?_;refine aR ?_;refine aS (i:=6) (hq:=(fR (aN rf bD (by kernel_rfl)))) (h:=?_);refine bS (i:=7) (hq:=(cM (φ:=λ _=>True) (V:=λ _:Unit=>.agg ⟨(wM (0,0)).cells⟩) (hs:=[(x.b,gB p c x)]) (os:=[]) (A0:=lT x p p0 c0 p1 c1) (hs':=λ _=>[(x.b,gB p c x)]) (os':=λ _=>[]) (Fc:=λ _=>[]) (hc:=λ w1 hw=>(nM (a:=(0,0)) (.inl rfl) hw).mono λ _ _ ⟨e,h⟩=>⟨(),e,trivial,h⟩))) (h:=λ x128 h128=>?_);refine gR ?_;refine bZ (i:=9) (hq:=(by exact gD λ _=>aP eI mH rf rf rf rf (by simp only[dQ,cI,List.cons_append,List.nil_append,List.append_nil];exact rfl))) (h:=λ x130=>?_);((refine bZ (i:=10) (hq:=(aQ.cL (cQ (sz:=1) rf rf (.tail (.tail .head)) rfl (.new .head) rfl rfl eI rfl (by decide) dJ (by decide)) hP)) (h:=λ x131=>?_);try (refine eR (λ h131=>?_))));refine Gq ?_;refine aJ ?_;refine eG [(0,[]),(1,[]),(2,[]),(3,[]),(4,[]),(5,[]),(6,[]),(7,[4]),(8,[4]),(9,[]),(10,[]),(11,[]),(12,[])] ?_;refine Cy ?_;refine aR ?_;refine aS (i:=6) (hq:=(fR (aN rf bD (by kernel_rfl)))) (h:=?_);refine bS (i:=7) (hq:=(cM (φ:=λ _=>True) (V:=λ _:Unit=>.int .i64 0) (hs:=[(x.b,gB p c x)]) (os:=[]) (A0:=lT x p p0 c0 p1 c1) (hs':=λ _=>[(x.b,gB p c x)]) (os':=λ _=>[]) (Fc:=λ _=>[]) (hc:=λ w1 hw=>(xB (a:=(0,0)) (.inl rfl) hw).mono λ _ _ ⟨e,h⟩=>⟨(),e,trivial,h⟩))) (h:=λ x141 h141=>?_);refine bZ (i:=8) (hq:=(by exact gD λ _=>aP eI mH rf rf rf rf (by simp only[dQ,cI,List.cons_append,List.nil_append,List.append_nil];exact rfl))) (h:=λ x142=>?_);((refine bZ (i:=9) (hq:=(aQ.cL (cQ (sz:=1) rf rf (.tail (.tail (.tail .head))) rfl (.new .head) rfl rfl eI rfl (by decide) dJ (by decide)) hP)) (h:=λ x143=>?_);try (refine eR (λ h143=>?_))));refine Gq ?_;refine eG [(0,[]),(1,[]),(2,[]),(3,[]),(4,[]),(5,[]),(6,[]),(7,[]),(8,[]),(9,[4]),(10,[4]),(11,[]),(12,[]),(13,[]),(14,[])] ?_;refine Cy ?_;refine aS (i:=5) (hq:=(cR (n:=2) (k:=0) (e:=3) rf rf (by kernel_rfl) (by kernel_rfl) (by decide))) (h:=?_);refine cB ?_;refine aS (i:=7) (hq:=(cR (n:=2) (k:=1) (e:=3) rf rf (by kernel_rfl) (by kernel_rfl) (by decide))) (h:=?_);refine cB ?_;refine bZ (i:=9) (hq:=(cV (v:=.int .i64 1) (hc:=λ w1 hw=>iC (k:=0) (i:=0) (by decide) (by decide) w1))) (h:=λ x155=>?_);refine bZ (i:=10) (hq:=(by exact gD λ _=>aP eI mH rf rf rf rf (by simp only[dQ,cI,List.cons_append,List.nil_append,List.append_nil];exact rfl))) (h:=λ x156=>?_);((refine bZ (i:=11) (hq:=(aQ.cL (cQ (sz:=1) rf rf (.tail (.tail (.tail (.tail .head)))) rfl (.new .head) rfl rfl eI rfl (by decide) dJ (by decide)) hP)) (h:=λ x157=>?_);try (refine eR (λ h157=>?_))));refine Gq ?_;refine Ka9 ?_;refine bH ?_;refine Ka1 ?_
                     refine aU (λ c63=>?_) (λ c63=>?_)
                     ·try (first|contradiction|(exfalso;omega))
                      refine Ka6 ?_;refine aA (aY (f:=gZ) (l:=mJ) dM (by decide) rf rf dJ (by kernel_rfl) (.own .head) (Nat.le_of_ble_eq_true rfl) (Nat.le_of_ble_eq_true rfl)) rfl ?_;refine aA (cH (f:=gZ) (l:=mJ) (k:=1) dM rf (by kernel_rfl) (.own .head) rfl) rfl ?_;refine aF (cE λ _=>cG (z:=[.int .i64 0,.int .i64 0]) (by kernel_rfl)) (λ x9=>?_);refine bX (λ _=>?_);refine aL (cE λ _=>aC rf bD rf rfl (by kernel_rfl) rf dI) (λ _=>?_);refine Kc8 ?_;refine aA (fR (aN rf bD (by kernel_rfl))) rfl ?_;refine aH (cM (φ:=λ _=>True) (V:=λ _:Unit=>.agg ⟨(wL (1,0)).cells⟩) (hs:=[(x.b,gB p c x)]) (os:=[]) (A0:=lT x p p0 c0 p1 c1) (hs':=λ _=>[(x.b,gB p c x)]) (os':=λ _=>[]) (Fc:=λ _=>[]) (hc:=λ w1 hw=>(dS (a:=(1,0)) (.inr (.inl rfl)) hw).mono λ _ _ ⟨e,h⟩=>⟨(),e,trivial,h⟩)) (λ x69 h69=>?_);refine nF ?_;refine Kc9 ?_
                      refine aU (λ c71=>?_) (λ c71=>?_)
                      ·try (first|contradiction|(exfalso;omega))
                       refine iM [0,1,2,3,4,5,6,7,8,9] ?_;refine mG ?_;refine aR ?_;refine cZ (i:=5) (hq:=(qL (c:=2) rf rf (by decide) (by decide))) (h:=?_);refine cZ (i:=6) (hq:=(yW (c:=3) rf rf (by decide))) (h:=?_);refine Gq ?_;refine Lf ?_;refine Kc6 ?_;refine cJ ?_;refine Ka1 ?_
                       refine aU (λ c87=>?_) (λ c87=>?_)
                       ·try (first|contradiction|(exfalso;omega))
                        refine Ka6 ?_;refine aA (aY (f:=gZ) (l:=mJ) dM (by decide) rf rf dJ (by kernel_rfl) (.own .head) (Nat.le_of_ble_eq_true rfl) (Nat.le_of_ble_eq_true rfl)) rfl ?_;refine aA (cH (f:=gZ) (l:=mJ) (k:=0) dM rf (by kernel_rfl) (.own .head) rfl) rfl ?_;refine aF (cE λ _=>cG (z:=[.int .i64 0,.int .i64 0]) (by kernel_rfl)) (λ x12=>?_);refine bX (λ _=>?_);refine aL (cE λ _=>aC rf bD rf rfl (by kernel_rfl) rf dI) (λ _=>?_);refine Kb8 ?_;refine aA (fR (aN rf bD (by kernel_rfl))) rfl ?_;refine aH (cM (φ:=λ _=>True) (V:=λ _:Unit=>.agg ⟨(wL (0,0)).cells⟩) (hs:=[(x.b,gB p c x)]) (os:=[]) (A0:=lT x p p0 c0 p1 c1) (hs':=λ _=>[(x.b,gB p c x)]) (os':=λ _=>[]) (Fc:=λ _=>[]) (hc:=λ w1 hw=>(dS (a:=(0,0)) (.inl rfl) hw).mono λ _ _ ⟨e,h⟩=>⟨(),e,trivial,h⟩)) (λ x93 h93=>?_);refine aI (λ x13=>?_);refine aL (cE λ _=>aC rf bD rf rfl (by kernel_rfl) rf dI) (λ _=>?_);refine pT ?_;refine eG [(0,[]),(1,[]),(2,[]),(3,[]),(4,[]),(5,[]),(6,[]),(7,[]),(8,[5]),(9,[]),(10,[]),(11,[])] ?_;refine gY ?_;refine tH ?_;refine aR ?_
                        (refine bM ?_)
                        ((refine cB ?_));((refine aR ?_));((refine aS (i:=7) (hq:=(fR (aN rf bD (by kernel_rfl)))) (h:=?_)));((refine bS (i:=8) (hq:=(cM (φ:=λ _=>True) (V:=λ _:Unit=>.agg ⟨(wL (1,0)).cells⟩) (hs:=[(x.b,gB p c x)]) (os:=[]) (A0:=lT x p p0 c0 p1 c1) (hs':=λ _=>[(x.b,gB p c x)]) (os':=λ _=>[]) (Fc:=λ _=>[]) (hc:=λ w1 hw=>(dS (a:=(1,0)) (.inr (.inl rfl)) hw).mono λ _ _ ⟨e,h⟩=>⟨(),e,trivial,h⟩))) (h:=λ x102 h102=>?_)));((refine gR ?_));((refine pK ?_));refine Kd4 ?_
                        refine aU (λ c105=>?_) (λ c105=>?_)
                        ·exact nv c105
                        ·try (first|contradiction|(exfalso;omega))
                         refine Kc0 ?_;refine bH ?_;refine Ka1 ?_
                         refine aU (λ c87=>?_) (λ c87=>?_)
                         ·try (first|contradiction|(exfalso;omega))
                          refine Ka6 ?_;refine aA (aY (f:=gZ) (l:=mJ) dM (by decide) rf rf dJ (by kernel_rfl) (.own .head) (Nat.le_of_ble_eq_true rfl) (Nat.le_of_ble_eq_true rfl)) rfl ?_;refine aA (cH (f:=gZ) (l:=mJ) (k:=1) dM rf (by kernel_rfl) (.own .head) rfl) rfl ?_;refine aF (cE λ _=>cG (z:=[.int .i64 0,.int .i64 0]) (by kernel_rfl)) (λ x12=>?_);refine bX (λ _=>?_);refine aL (cE λ _=>aC rf bD rf rfl (by kernel_rfl) rf dI) (λ _=>?_);refine Kb8 ?_;refine aA (fR (aN rf bD (by kernel_rfl))) rfl ?_;refine aH (cM (φ:=λ _=>True) (V:=λ _:Unit=>.agg ⟨(wL (1,0)).cells⟩) (hs:=[(x.b,gB p c x)]) (os:=[]) (A0:=lT x p p0 c0 p1 c1) (hs':=λ _=>[(x.b,gB p c x)]) (os':=λ _=>[]) (Fc:=λ _=>[]) (hc:=λ w1 hw=>(dS (a:=(1,0)) (.inr (.inl rfl)) hw).mono λ _ _ ⟨e,h⟩=>⟨(),e,trivial,h⟩)) (λ x93 h93=>?_);refine aI (λ x13=>?_);refine aL (cE λ _=>aC rf bD rf rfl (by kernel_rfl) rf dI) (λ _=>?_);refine pT ?_;refine eG [(0,[]),(1,[]),(2,[]),(3,[]),(4,[]),(5,[]),(6,[]),(7,[]),(8,[5]),(9,[]),(10,[]),(11,[])] ?_;refine gY ?_;refine tH ?_;refine aR ?_
                          (refine bM ?_)
                          ((refine cB ?_));((refine aR ?_));((refine aS (i:=7) (hq:=(fR (aN rf bD (by kernel_rfl)))) (h:=?_)));((refine bS (i:=8) (hq:=(cM (φ:=λ _=>True) (V:=λ _:Unit=>.agg ⟨(wL (1,0)).cells⟩) (hs:=[(x.b,gB p c x)]) (os:=[]) (A0:=lT x p p0 c0 p1 c1) (hs':=λ _=>[(x.b,gB p c x)]) (os':=λ _=>[]) (Fc:=λ _=>[]) (hc:=λ w1 hw=>(dS (a:=(1,0)) (.inr (.inl rfl)) hw).mono λ _ _ ⟨e,h⟩=>⟨(),e,trivial,h⟩))) (h:=λ x102 h102=>?_)));((refine gR ?_));((refine pK ?_));refine Kd4 ?_
                          refine aU (λ c105=>?_) (λ c105=>?_)
                          ·exact nv c105
                          ·try (first|contradiction|(exfalso;omega))
                           refine Kc0 ?_;refine bH ?_;refine Ka1 ?_
                           refine aU (λ c87=>?_) (λ c87=>?_)
                           ·try (first|contradiction|(exfalso;omega))
                            refine Ka6 ?_;refine aA (aY (f:=gZ) (l:=mJ) dM (by decide) rf rf dJ (by kernel_rfl) (.own .head) (Nat.le_of_ble_eq_true rfl) (Nat.le_of_ble_eq_true rfl)) rfl ?_;refine aA (cH (f:=gZ) (l:=mJ) (k:=2) dM rf (by kernel_rfl) (.own .head) rfl) rfl ?_;refine aF (cE λ _=>cG (z:=[.int .i64 0,.int .i64 0]) (by kernel_rfl)) (λ x12=>?_);refine bX (λ _=>?_);refine aL (cE λ _=>aC rf bD rf rfl (by kernel_rfl) rf dI) (λ _=>?_);refine Kb8 ?_;refine aA (fR (aN rf bD (by kernel_rfl))) rfl ?_;refine aH (cM (φ:=λ _=>True) (V:=λ _:Unit=>.agg ⟨(wL (1,1)).cells⟩) (hs:=[(x.b,gB p c x)]) (os:=[]) (A0:=lT x p p0 c0 p1 c1) (hs':=λ _=>[(x.b,gB p c x)]) (os':=λ _=>[]) (Fc:=λ _=>[]) (hc:=λ w1 hw=>(dS (a:=(1,1)) (.inr (.inr rfl)) hw).mono λ _ _ ⟨e,h⟩=>⟨(),e,trivial,h⟩)) (λ x93 h93=>?_);refine aI (λ x13=>?_);refine aL (cE λ _=>aC rf bD rf rfl (by kernel_rfl) rf dI) (λ _=>?_);refine pT ?_;refine eG [(0,[]),(1,[]),(2,[]),(3,[]),(4,[]),(5,[]),(6,[]),(7,[]),(8,[5]),(9,[]),(10,[]),(11,[])] ?_;refine gY ?_;refine tH ?_;refine aR ?_
                            (refine bM ?_)
                            ((refine cB ?_));((refine aR ?_));((refine aS (i:=7) (hq:=(fR (aN rf bD (by kernel_rfl)))) (h:=?_)));((refine bS (i:=8) (hq:=(cM (φ:=λ _=>True) (V:=λ _:Unit=>.agg ⟨(wL (1,0)).cells⟩) (hs:=[(x.b,gB p c x)]) (os:=[]) (A0:=lT x p p0 c0 p1 c1) (hs':=λ _=>[(x.b,gB p c x)]) (os':=λ _=>[]) (Fc:=λ _=>[]) (hc:=λ w1 hw=>(dS (a:=(1,0)) (.inr (.inl rfl)) hw).mono λ _ _ ⟨e,h⟩=>⟨(),e,trivial,h⟩))) (h:=λ x102 h102=>?_)));((refine gR ?_));((refine pK ?_));refine Kd4 ?_
                            refine aU (λ c105=>?_) (λ c105=>?_)
                            ·exact nv c105
                            ·try (first|contradiction|(exfalso;omega))
                             refine Kc0 ?_;refine bH ?_;refine Ka1 ?_
                             refine aU (λ c87=>?_) (λ c87=>?_)
                             ·exact nv c87
                             ·try (first|contradiction|(exfalso;omega))
                              refine aX rfl ?_;refine mL ?_;refine bC ?_;refine J3 ?_;refine aB ?_;refine aF (by exact gD λ _=>aP mE mH rf rf rf rf (by simp only[dQ,cI,List.cons_append,List.nil_append,List.append_nil];exact rfl)) (λ x117=>?_);(refine aF (aQ.cL (cQ (sz:=1) rf rf (.tail .head) rfl (.new .head) rfl rfl mE rfl (by decide) dJ (by decide)) hP) (λ x118=>?_);try (refine eH (λ h118=>?_)));refine Ak ?_;refine aJ ?_;refine eG [(0,[]),(1,[]),(2,[]),(3,[]),(4,[]),(5,[]),(6,[]),(7,[4]),(8,[]),(9,[4]),(10,[]),(11,[]),(12,[]),(13,[])] ?_;refine Cy ?_;refine aR ?_;refine aS (i:=6) (hq:=(fR (aN rf bD (by kernel_rfl)))) (h:=?_);refine bS (i:=7) (hq:=(cM (φ:=λ _=>True) (V:=λ _:Unit=>.agg ⟨(wM (1,0)).cells⟩) (hs:=[(x.b,gB p c x)]) (os:=[]) (A0:=lT x p p0 c0 p1 c1) (hs':=λ _=>[(x.b,gB p c x)]) (os':=λ _=>[]) (Fc:=λ _=>[]) (hc:=λ w1 hw=>(nM (a:=(1,0)) (.inr (.inl rfl)) hw).mono λ _ _ ⟨e,h⟩=>⟨(),e,trivial,h⟩))) (h:=λ x128 h128=>?_);refine gR ?_;refine bZ (i:=9) (hq:=(by exact gD λ _=>aP eI mH rf rf rf rf (by simp only[dQ,cI,List.cons_append,List.nil_append,List.append_nil];exact rfl))) (h:=λ x130=>?_);((refine bZ (i:=10) (hq:=(aQ.cL (cQ (sz:=1) rf rf (.tail (.tail .head)) rfl (.new .head) rfl rfl eI rfl (by decide) dJ (by decide)) hP)) (h:=λ x131=>?_);try (refine eR (λ h131=>?_))));refine Gq ?_;refine aJ ?_;refine eG [(0,[]),(1,[]),(2,[]),(3,[]),(4,[]),(5,[]),(6,[]),(7,[4]),(8,[4]),(9,[]),(10,[]),(11,[]),(12,[])] ?_;refine Cy ?_;refine aR ?_;refine aS (i:=6) (hq:=(fR (aN rf bD (by kernel_rfl)))) (h:=?_);refine bS (i:=7) (hq:=(cM (φ:=λ _=>True) (V:=λ _:Unit=>.int .i64 0) (hs:=[(x.b,gB p c x)]) (os:=[]) (A0:=lT x p p0 c0 p1 c1) (hs':=λ _=>[(x.b,gB p c x)]) (os':=λ _=>[]) (Fc:=λ _=>[]) (hc:=λ w1 hw=>(xB (a:=(1,0)) (.inr (.inl rfl)) hw).mono λ _ _ ⟨e,h⟩=>⟨(),e,trivial,h⟩))) (h:=λ x141 h141=>?_);refine bZ (i:=8) (hq:=(by exact gD λ _=>aP eI mH rf rf rf rf (by simp only[dQ,cI,List.cons_append,List.nil_append,List.append_nil];exact rfl))) (h:=λ x142=>?_);((refine bZ (i:=9) (hq:=(aQ.cL (cQ (sz:=1) rf rf (.tail (.tail (.tail .head))) rfl (.new .head) rfl rfl eI rfl (by decide) dJ (by decide)) hP)) (h:=λ x143=>?_);try (refine eR (λ h143=>?_))));refine Gq ?_;refine eG [(0,[]),(1,[]),(2,[]),(3,[]),(4,[]),(5,[]),(6,[]),(7,[]),(8,[]),(9,[4]),(10,[4]),(11,[]),(12,[]),(13,[]),(14,[])] ?_;refine Cy ?_;refine aS (i:=5) (hq:=(cR (n:=2) (k:=0) (e:=3) rf rf (by kernel_rfl) (by kernel_rfl) (by decide))) (h:=?_);refine cB ?_;refine aS (i:=7) (hq:=(cR (n:=2) (k:=1) (e:=3) rf rf (by kernel_rfl) (by kernel_rfl) (by decide))) (h:=?_);refine cB ?_;refine bZ (i:=9) (hq:=(cV (v:=.int .i64 17) (hc:=λ w1 hw=>iC (k:=1) (i:=0) (by decide) (by decide) w1))) (h:=λ x155=>?_);refine bZ (i:=10) (hq:=(by exact gD λ _=>aP eI mH rf rf rf rf (by simp only[dQ,cI,List.cons_append,List.nil_append,List.append_nil];exact rfl))) (h:=λ x156=>?_);((refine bZ (i:=11) (hq:=(aQ.cL (cQ (sz:=1) rf rf (.tail (.tail (.tail (.tail .head)))) rfl (.new .head) rfl rfl eI rfl (by decide) dJ (by decide)) hP)) (h:=λ x157=>?_);try (refine eR (λ h157=>?_))));refine Gq ?_;refine Ka9 ?_;refine bH ?_;refine Ka1 ?_
                              refine aU (λ c63=>?_) (λ c63=>?_)
                              ·try (first|contradiction|(exfalso;omega))
                               refine Ka6 ?_;refine aA (aY (f:=gZ) (l:=mJ) dM (by decide) rf rf dJ (by kernel_rfl) (.own .head) (Nat.le_of_ble_eq_true rfl) (Nat.le_of_ble_eq_true rfl)) rfl ?_;refine aA (cH (f:=gZ) (l:=mJ) (k:=2) dM rf (by kernel_rfl) (.own .head) rfl) rfl ?_;refine aF (cE λ _=>cG (z:=[.int .i64 0,.int .i64 0]) (by kernel_rfl)) (λ x9=>?_);refine bX (λ _=>?_);refine aL (cE λ _=>aC rf bD rf rfl (by kernel_rfl) rf dI) (λ _=>?_);refine Kc8 ?_;refine aA (fR (aN rf bD (by kernel_rfl))) rfl ?_;refine aH (cM (φ:=λ _=>True) (V:=λ _:Unit=>.agg ⟨(wL (1,1)).cells⟩) (hs:=[(x.b,gB p c x)]) (os:=[]) (A0:=lT x p p0 c0 p1 c1) (hs':=λ _=>[(x.b,gB p c x)]) (os':=λ _=>[]) (Fc:=λ _=>[]) (hc:=λ w1 hw=>(dS (a:=(1,1)) (.inr (.inr rfl)) hw).mono λ _ _ ⟨e,h⟩=>⟨(),e,trivial,h⟩)) (λ x69 h69=>?_);refine nF ?_;refine Kc9 ?_
                               refine aU (λ c71=>?_) (λ c71=>?_)
                               ·try (first|contradiction|(exfalso;omega))
                                refine iM [0,1,2,3,4,5,6,7,8,9] ?_;refine mG ?_;refine aR ?_;refine cZ (i:=5) (hq:=(qL (c:=4) rf rf (by decide) (by decide))) (h:=?_);refine cZ (i:=6) (hq:=(yW (c:=7) rf rf (by decide))) (h:=?_);refine Gq ?_;refine Lf ?_;refine Kc6 ?_;refine cJ ?_;refine Ka1 ?_
                                refine aU (λ c87=>?_) (λ c87=>?_)
                                ·try (first|contradiction|(exfalso;omega))
                                 refine Ka6 ?_;refine aA (aY (f:=gZ) (l:=mJ) dM (by decide) rf rf dJ (by kernel_rfl) (.own .head) (Nat.le_of_ble_eq_true rfl) (Nat.le_of_ble_eq_true rfl)) rfl ?_;refine aA (cH (f:=gZ) (l:=mJ) (k:=0) dM rf (by kernel_rfl) (.own .head) rfl) rfl ?_;refine aF (cE λ _=>cG (z:=[.int .i64 0,.int .i64 0]) (by kernel_rfl)) (λ x12=>?_);refine bX (λ _=>?_);refine aL (cE λ _=>aC rf bD rf rfl (by kernel_rfl) rf dI) (λ _=>?_);refine Kb8 ?_;refine aA (fR (aN rf bD (by kernel_rfl))) rfl ?_;refine aH (cM (φ:=λ _=>True) (V:=λ _:Unit=>.agg ⟨(wL (0,0)).cells⟩) (hs:=[(x.b,gB p c x)]) (os:=[]) (A0:=lT x p p0 c0 p1 c1) (hs':=λ _=>[(x.b,gB p c x)]) (os':=λ _=>[]) (Fc:=λ _=>[]) (hc:=λ w1 hw=>(dS (a:=(0,0)) (.inl rfl) hw).mono λ _ _ ⟨e,h⟩=>⟨(),e,trivial,h⟩)) (λ x93 h93=>?_);refine aI (λ x13=>?_);refine aL (cE λ _=>aC rf bD rf rfl (by kernel_rfl) rf dI) (λ _=>?_);refine pT ?_;refine eG [(0,[]),(1,[]),(2,[]),(3,[]),(4,[]),(5,[]),(6,[]),(7,[]),(8,[5]),(9,[]),(10,[]),(11,[])] ?_;refine gY ?_;refine tH ?_;refine aR ?_
                                 (refine bM ?_)
                                 ((refine cB ?_));((refine aR ?_));((refine aS (i:=7) (hq:=(fR (aN rf bD (by kernel_rfl)))) (h:=?_)));((refine bS (i:=8) (hq:=(cM (φ:=λ _=>True) (V:=λ _:Unit=>.agg ⟨(wL (1,1)).cells⟩) (hs:=[(x.b,gB p c x)]) (os:=[]) (A0:=lT x p p0 c0 p1 c1) (hs':=λ _=>[(x.b,gB p c x)]) (os':=λ _=>[]) (Fc:=λ _=>[]) (hc:=λ w1 hw=>(dS (a:=(1,1)) (.inr (.inr rfl)) hw).mono λ _ _ ⟨e,h⟩=>⟨(),e,trivial,h⟩))) (h:=λ x102 h102=>?_)));((refine gR ?_));((refine pK ?_));refine Kd4 ?_
                                 refine aU (λ c105=>?_) (λ c105=>?_)
                                 ·try (first|contradiction|(exfalso;omega))
                                  refine Cw ?_;refine aA (qL (c:=1) rf rf (by decide) (by decide)) rfl ?_;refine aA (yW (c:=1) rf rf (by decide)) rfl ?_;refine Kd7 ?_;refine bH ?_;refine Ka1 ?_
                                  refine aU (λ c87=>?_) (λ c87=>?_)
                                  ·try (first|contradiction|(exfalso;omega))
                                   refine Ka6 ?_;refine aA (aY (f:=gZ) (l:=mJ) dM (by decide) rf rf dJ (by kernel_rfl) (.own .head) (Nat.le_of_ble_eq_true rfl) (Nat.le_of_ble_eq_true rfl)) rfl ?_;refine aA (cH (f:=gZ) (l:=mJ) (k:=1) dM rf (by kernel_rfl) (.own .head) rfl) rfl ?_;refine aF (cE λ _=>cG (z:=[.int .i64 0,.int .i64 0]) (by kernel_rfl)) (λ x12=>?_);refine bX (λ _=>?_);refine aL (cE λ _=>aC rf bD rf rfl (by kernel_rfl) rf dI) (λ _=>?_);refine Kb8 ?_;refine aA (fR (aN rf bD (by kernel_rfl))) rfl ?_;refine aH (cM (φ:=λ _=>True) (V:=λ _:Unit=>.agg ⟨(wL (1,0)).cells⟩) (hs:=[(x.b,gB p c x)]) (os:=[]) (A0:=lT x p p0 c0 p1 c1) (hs':=λ _=>[(x.b,gB p c x)]) (os':=λ _=>[]) (Fc:=λ _=>[]) (hc:=λ w1 hw=>(dS (a:=(1,0)) (.inr (.inl rfl)) hw).mono λ _ _ ⟨e,h⟩=>⟨(),e,trivial,h⟩)) (λ x93 h93=>?_);refine aI (λ x13=>?_);refine aL (cE λ _=>aC rf bD rf rfl (by kernel_rfl) rf dI) (λ _=>?_);refine pT ?_;refine eG [(0,[]),(1,[]),(2,[]),(3,[]),(4,[]),(5,[]),(6,[]),(7,[]),(8,[5]),(9,[]),(10,[]),(11,[])] ?_;refine gY ?_;refine tH ?_;refine aR ?_
                                   (refine bM ?_)
                                   ((refine cB ?_));((refine aR ?_));((refine aS (i:=7) (hq:=(fR (aN rf bD (by kernel_rfl)))) (h:=?_)));((refine bS (i:=8) (hq:=(cM (φ:=λ _=>True) (V:=λ _:Unit=>.agg ⟨(wL (1,1)).cells⟩) (hs:=[(x.b,gB p c x)]) (os:=[]) (A0:=lT x p p0 c0 p1 c1) (hs':=λ _=>[(x.b,gB p c x)]) (os':=λ _=>[]) (Fc:=λ _=>[]) (hc:=λ w1 hw=>(dS (a:=(1,1)) (.inr (.inr rfl)) hw).mono λ _ _ ⟨e,h⟩=>⟨(),e,trivial,h⟩))) (h:=λ x102 h102=>?_)));((refine gR ?_));((refine pK ?_));refine Kd4 ?_
                                   refine aU (λ c105=>?_) (λ c105=>?_)
                                   ·try (first|contradiction|(exfalso;omega))
                                    refine Cw ?_;refine aA (qL (c:=2) rf rf (by decide) (by decide)) rfl ?_;refine aA (yW (c:=3) rf rf (by decide)) rfl ?_;refine Kd7 ?_;refine bH ?_;refine Ka1 ?_
                                    refine aU (λ c87=>?_) (λ c87=>?_)
                                    ·try (first|contradiction|(exfalso;omega))
                                     refine Ka6 ?_;refine aA (aY (f:=gZ) (l:=mJ) dM (by decide) rf rf dJ (by kernel_rfl) (.own .head) (Nat.le_of_ble_eq_true rfl) (Nat.le_of_ble_eq_true rfl)) rfl ?_;refine aA (cH (f:=gZ) (l:=mJ) (k:=2) dM rf (by kernel_rfl) (.own .head) rfl) rfl ?_;refine aF (cE λ _=>cG (z:=[.int .i64 0,.int .i64 0]) (by kernel_rfl)) (λ x12=>?_);refine bX (λ _=>?_);refine aL (cE λ _=>aC rf bD rf rfl (by kernel_rfl) rf dI) (λ _=>?_);refine Kb8 ?_;refine aA (fR (aN rf bD (by kernel_rfl))) rfl ?_;refine aH (cM (φ:=λ _=>True) (V:=λ _:Unit=>.agg ⟨(wL (1,1)).cells⟩) (hs:=[(x.b,gB p c x)]) (os:=[]) (A0:=lT x p p0 c0 p1 c1) (hs':=λ _=>[(x.b,gB p c x)]) (os':=λ _=>[]) (Fc:=λ _=>[]) (hc:=λ w1 hw=>(dS (a:=(1,1)) (.inr (.inr rfl)) hw).mono λ _ _ ⟨e,h⟩=>⟨(),e,trivial,h⟩)) (λ x93 h93=>?_);refine aI (λ x13=>?_);refine aL (cE λ _=>aC rf bD rf rfl (by kernel_rfl) rf dI) (λ _=>?_);refine pT ?_;refine eG [(0,[]),(1,[]),(2,[]),(3,[]),(4,[]),(5,[]),(6,[]),(7,[]),(8,[5]),(9,[]),(10,[]),(11,[])] ?_;refine gY ?_;refine tH ?_;refine aR ?_
                                     (refine bM ?_)
                                     ((refine cB ?_));((refine aR ?_));((refine aS (i:=7) (hq:=(fR (aN rf bD (by kernel_rfl)))) (h:=?_)));((refine bS (i:=8) (hq:=(cM (φ:=λ _=>True) (V:=λ _:Unit=>.agg ⟨(wL (1,1)).cells⟩) (hs:=[(x.b,gB p c x)]) (os:=[]) (A0:=lT x p p0 c0 p1 c1) (hs':=λ _=>[(x.b,gB p c x)]) (os':=λ _=>[]) (Fc:=λ _=>[]) (hc:=λ w1 hw=>(dS (a:=(1,1)) (.inr (.inr rfl)) hw).mono λ _ _ ⟨e,h⟩=>⟨(),e,trivial,h⟩))) (h:=λ x102 h102=>?_)));((refine gR ?_));((refine pK ?_));refine Kd4 ?_
                                     refine aU (λ c105=>?_) (λ c105=>?_)
                                     ·exact nv c105
                                     ·try (first|contradiction|(exfalso;omega))
                                      refine Kc0 ?_;refine bH ?_;refine Ka1 ?_
                                      refine aU (λ c87=>?_) (λ c87=>?_)
                                      ·exact nv c87
                                      ·try (first|contradiction|(exfalso;omega))
                                       refine aX rfl ?_;refine mL ?_;refine bC ?_;refine J3 ?_;refine aB ?_;refine aF (by exact gD λ _=>aP mE mH rf rf rf rf (by simp only[dQ,cI,List.cons_append,List.nil_append,List.append_nil];exact rfl)) (λ x117=>?_);(refine aF (aQ.cL (cQ (sz:=1) rf rf (.tail .head) rfl (.new .head) rfl rfl mE rfl (by decide) dJ (by decide)) hP) (λ x118=>?_);try (refine eH (λ h118=>?_)));refine Ak ?_;refine aJ ?_;refine eG [(0,[]),(1,[]),(2,[]),(3,[]),(4,[]),(5,[]),(6,[]),(7,[4]),(8,[]),(9,[4]),(10,[]),(11,[]),(12,[]),(13,[])] ?_;refine Cy ?_;refine aR ?_;refine aS (i:=6) (hq:=(fR (aN rf bD (by kernel_rfl)))) (h:=?_);refine bS (i:=7) (hq:=(cM (φ:=λ _=>True) (V:=λ _:Unit=>.agg ⟨(wM (1,1)).cells⟩) (hs:=[(x.b,gB p c x)]) (os:=[]) (A0:=lT x p p0 c0 p1 c1) (hs':=λ _=>[(x.b,gB p c x)]) (os':=λ _=>[]) (Fc:=λ _=>[]) (hc:=λ w1 hw=>(nM (a:=(1,1)) (.inr (.inr rfl)) hw).mono λ _ _ ⟨e,h⟩=>⟨(),e,trivial,h⟩))) (h:=λ x128 h128=>?_);refine gR ?_;refine bZ (i:=9) (hq:=(by exact gD λ _=>aP eI mH rf rf rf rf (by simp only[dQ,cI,List.cons_append,List.nil_append,List.append_nil];exact rfl))) (h:=λ x130=>?_);((refine bZ (i:=10) (hq:=(aQ.cL (cQ (sz:=1) rf rf (.tail (.tail .head)) rfl (.new .head) rfl rfl eI rfl (by decide) dJ (by decide)) hP)) (h:=λ x131=>?_);try (refine eR (λ h131=>?_))));refine Gq ?_;refine aJ ?_;refine eG [(0,[]),(1,[]),(2,[]),(3,[]),(4,[]),(5,[]),(6,[]),(7,[4]),(8,[4]),(9,[]),(10,[]),(11,[]),(12,[])] ?_;refine Cy ?_;refine aR ?_;refine aS (i:=6) (hq:=(fR (aN rf bD (by kernel_rfl)))) (h:=?_);refine bS (i:=7) (hq:=(cM (φ:=λ _=>True) (V:=λ _:Unit=>.int .i64 0) (hs:=[(x.b,gB p c x)]) (os:=[]) (A0:=lT x p p0 c0 p1 c1) (hs':=λ _=>[(x.b,gB p c x)]) (os':=λ _=>[]) (Fc:=λ _=>[]) (hc:=λ w1 hw=>(xB (a:=(1,1)) (.inr (.inr rfl)) hw).mono λ _ _ ⟨e,h⟩=>⟨(),e,trivial,h⟩))) (h:=λ x141 h141=>?_);refine bZ (i:=8) (hq:=(by exact gD λ _=>aP eI mH rf rf rf rf (by simp only[dQ,cI,List.cons_append,List.nil_append,List.append_nil];exact rfl))) (h:=λ x142=>?_);((refine bZ (i:=9) (hq:=(aQ.cL (cQ (sz:=1) rf rf (.tail (.tail (.tail .head))) rfl (.new .head) rfl rfl eI rfl (by decide) dJ (by decide)) hP)) (h:=λ x143=>?_);try (refine eR (λ h143=>?_))));refine Gq ?_;refine eG [(0,[]),(1,[]),(2,[]),(3,[]),(4,[]),(5,[]),(6,[]),(7,[]),(8,[]),(9,[4]),(10,[4]),(11,[]),(12,[]),(13,[]),(14,[])] ?_;refine Cy ?_;refine aS (i:=5) (hq:=(cR (n:=2) (k:=0) (e:=3) rf rf (by kernel_rfl) (by kernel_rfl) (by decide))) (h:=?_);refine cB ?_;refine aS (i:=7) (hq:=(cR (n:=2) (k:=1) (e:=3) rf rf (by kernel_rfl) (by kernel_rfl) (by decide))) (h:=?_);refine cB ?_;refine bZ (i:=9) (hq:=(cV (v:=.int .i64 18) (hc:=λ w1 hw=>iC (k:=1) (i:=1) (by decide) (by decide) w1))) (h:=λ x155=>?_);refine bZ (i:=10) (hq:=(by exact gD λ _=>aP eI mH rf rf rf rf (by simp only[dQ,cI,List.cons_append,List.nil_append,List.append_nil];exact rfl))) (h:=λ x156=>?_);((refine bZ (i:=11) (hq:=(aQ.cL (cQ (sz:=1) rf rf (.tail (.tail (.tail (.tail .head)))) rfl (.new .head) rfl rfl eI rfl (by decide) dJ (by decide)) hP)) (h:=λ x157=>?_);try (refine eR (λ h157=>?_))));refine Gq ?_;refine Ka9 ?_;refine bH ?_;refine Ka1 ?_
                                       refine aU (λ c63=>?_) (λ c63=>?_)
                                       ·exact nv c63
                                       ·try (first|contradiction|(exfalso;omega))
                                        refine aX rfl ?_;refine J2 ?_;refine J1 ?_
                                        refine bE Tryz.results28 (λ w hw=>?_)
                                        exact⟨⟨x17,x15,x52.1,x52.2,x118.1,x118.2,x131.1,x131.2,x143.1,x143.2,x157.1,x157.2⟩,rfl,trivial,(((((hw.freeze .head).freeze .head).freeze .head).freeze .head).freeze .head).ret (by repeat (first|exact List.Sublist.refl _|apply List.Sublist.cons)) (bL.dH λ f hf=>List.mem_append_left _ hf) (List.Sublist.refl _)⟩
                                    ·exact nv c87
                                   ·exact nv c105
                                  ·exact nv c87
                                 ·exact nv c105
                                ·exact nv c87
                               ·exact nv c71
                              ·exact nv c63
                           ·exact nv c87
                         ·exact nv c87
                       ·exact nv c87
                      ·exact nv c71
                     ·exact nv c63
                  ·exact nv c87
                ·exact nv c87
              ·exact nv c87
             ·exact nv c71
            ·exact nv c63
         ·exact nv c42
        ·exact nv c31
       ·exact nv c42
      ·exact nv c31
     ·exact nv c24
   ·exact nv c42
  ·exact nv c31
 ·exact nv c24
end
end Go.Proofs.YtnilhhnfjfdokaaGreatDoor
