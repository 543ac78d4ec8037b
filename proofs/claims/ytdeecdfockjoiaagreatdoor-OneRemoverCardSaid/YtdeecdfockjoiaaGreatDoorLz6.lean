/- Merged. -/
import Derived.Test.YtdeecdfockjoiaaGreatDoorGWa1
set_option linter.unusedSimpArgs false
set_option linter.unusedVariables false
namespace Go.Proofs.YtdeecdfockjoiaaGreatDoor
open Go.Proofs.Tryz
open Go Go.RowKit Go.Ct
structure U4 where
 b:Nat
 mf:Nat
 pc:Option Addr
 cc:Nat
 pe:Option Addr
 ce:Nat
 pk:Option Addr
 ck:Nat
 pr:Option Addr
 cr:Nat
 pm:Option Addr
 cm:Nat
abbrev qF:List (Nat×Nat):=[(0,0),(1,0),(1,1)]
abbrev Pj(rb:Nat)(y:U4):Obj:=.cells ⟨[pt rb,.slice y.pc 3 y.cc,.int .u32 7,.slice y.pe 3 y.ce,.slice y.pk 3 y.ck,.slice y.pr 3 y.cr,.slice y.pm 3 y.cm,.map (some y.mf)]⟩ 137 (0,0)
abbrev U4.fr(y:U4):Fr:=[(y.pm,[.int .i64 1,.int .i64 17,.int .i64 18]),(y.pr,[.int .i64 0,.int .i64 0,.int .i64 0]),(y.pk,[.int .i64 1,.int .i64 1,.int .i64 7]),(y.pe,[.int .u32 0,.int .u32 0,.int .u32 3]),(y.pc,eV jO qF)]
theorem pL:dU prog 135 92 [.int .u32 0]:=gR (z:=.int .u32 0) (by kernel_rfl) (by kernel_rfl) rfl
theorem fH:dU prog 22 3 [.int .i64 0]:=gR (z:=.int .i64 0) (by kernel_rfl) (by kernel_rfl) rfl
section
variable{P:Program}{S:List (Nat×Value)}{G:World->Prop}{d:Nat}{ty t t':TypeId}{pos:String}{af:Array Edge}{gd:Option (Nat×Bool)}{x y:Operand}{k k':IntKind}{a b c:Int}
theorem Ei(hx:ev S x=.int k a)(hy:ev S y=.int k b)(h:rOr k a b=c):aN P S G ⟨some d,.binOp .or t x y t',ty,pos,af,gd⟩ (.int k c):=h▸aBT hx hy
theorem fB(hx:ev S x=.int k a)(hy:ev S y=.int k b)(h:oN k a b=c):aN P S G ⟨some d,.binOp .and t x y t',ty,pos,af,gd⟩ (.int k c):=h▸nj hx hy
theorem Dk(hx:ev S x=.int k a)(hy:ev S y=.int k b)(h:Cc k a b=c):aN P S G ⟨some d,.binOp .andNot t x y t',ty,pos,af,gd⟩ (.int k c):=h▸Sb hx hy
theorem vO(hx:ev S x=.int k a)(hy:ev S y=.int k' b)(h0:0<=b)(h:M1 k a b=c):aN P S G ⟨some d,.binOp .shl t x y t',ty,pos,af,gd⟩ (.int k c):=h▸xv hx hy h0
theorem fV(hx:ev S x=.int k a)(hy:ev S y=.int k' b)(h0:0<=b)(h:oK k a b=c):aN P S G ⟨some d,.binOp .shr t x y t',ty,pos,af,gd⟩ (.int k c):=h▸V9 hx hy h0
end
section
variable{w:World}{D:List Nat}{x:Ou}{p p0 p1:Option Addr}{c c0 c1:Nat}{a:Nat×Nat}
set_option maxRecDepth 100000 in
set_option maxHeartbeats 2000000 in
theorem Pn(hs:SF w D [(x.b,iR p c x)] (oZ x p p0 c0 p1 c1) [] [] w):Calls prog 36 #[pt x.b] w λ e w'=>∃y:U4,e=.returned (pt y.b)/\True/\SF w D [(y.b,Pj x.b y),(y.mf,cQ [] 0),(x.b,iR p c x)] [] y.fr [] w':=by
 refine enter func36 ntmps36 rfl rfl hs ?_;simp only[cN];refine Kd3 ?_;refine aH (cC λ _=>mQ) (λ x15=>?_);refine cI ?_;refine bC (λ x17=>?_);refine lX ?_;refine aL ?_;refine rE (λ w hw=>((((hw.gN 3 1).gN 3 1).gN 3 1).gN 92 1).gN 49 2) ?_;refine Cg ?_;refine bN ?_;refine J85 ?_;refine Ka7 ?_;refine dC ?_;refine Ka1 ?_;refine aX (λ c24=>?_) (λ c24=>?_)
 ·try (first|contradiction|(exfalso;omega))
  refine K0q ?_;refine aX (λ c31=>?_) (λ c31=>?_)
  ·try (first|contradiction|(exfalso;omega))
   refine K2r ?_;refine aJ (λ x7=>?_);refine cO (λ _=>?_);refine J5 ?_;refine jN ?_;refine iK ?_;refine aB ?_;(refine Kc5 ?_);((refine aF ?_;refine aH (cV (hc:=λ w1 hw=>mS _ (by decide) w1)) (λ x40=>?_)));refine Ke4 ?_;refine aX (λ c42=>?_) (λ c42=>?_)
   ·try (first|contradiction|(exfalso;omega))
    refine K1g ?_;intro x51;(refine aH (aW.cX (dG (sz:=2) rf rf .head rfl (.new .head) rfl rfl gZ rfl (by decide) dP (by decide)) jK) (λ x52=>?_);try (refine dQ (λ h52=>?_)));refine E4 ?_;refine K3z ?_;refine aX (λ c31=>?_) (λ c31=>?_);·exact nv c31
    ·try (first|contradiction|(exfalso;omega))
     refine bg ?_;refine Ka4 ?_;refine K0x ?_;refine aX (λ c24=>?_) (λ c24=>?_)
     ·try (first|contradiction|(exfalso;omega))
      refine K0q ?_;refine aX (λ c31=>?_) (λ c31=>?_)
      ·try (first|contradiction|(exfalso;omega))
       refine K0z ?_;refine aA (cZ (f:=tC.cells) (k:=0) fJ rf cY (.old (.tail (.tail .head))) rfl) rfl ?_;refine aJ (λ x7=>?_);refine cO (λ _=>?_);refine J5 ?_;refine jN ?_;refine iK ?_;refine aB ?_;(refine Kc5 ?_);((refine aF ?_;refine aH (cV (hc:=λ w1 hw=>mS _ (by decide) w1)) (λ x40=>?_)));refine Ke4 ?_;refine aX (λ c42=>?_) (λ c42=>?_)
       ·try (first|contradiction|(exfalso;omega))
        refine K1g ?_;intro x51;(refine aH (aW.cX (dG (sz:=2) rf rf .head rfl (.new .head) rfl rfl gZ rfl (by decide) dP (by decide)) jK) (λ x52=>?_);try (refine dQ (λ h52=>?_)));refine E4 ?_;refine K3z ?_;refine aX (λ c31=>?_) (λ c31=>?_)
        ·try (first|contradiction|(exfalso;omega))
         refine K0z ?_;refine aA (cZ (f:=tC.cells) (k:=1) fJ rf cY (.old (.tail (.tail .head))) rfl) rfl ?_;refine aJ (λ x7=>?_);refine cO (λ _=>?_);refine J5 ?_;refine jN ?_;refine iK ?_;refine aB ?_;(refine Kc5 ?_);((refine aF ?_;refine aH (cV (hc:=λ w1 hw=>mS _ (by decide) w1)) (λ x40=>?_)));refine Ke4 ?_;refine aX (λ c42=>?_) (λ c42=>?_)
         ·try (first|contradiction|(exfalso;omega))
          refine K1g ?_;intro x51;(refine aH (aW.cX (dG (sz:=2) rf rf .head rfl (.new .head) rfl rfl gZ rfl (by decide) dP (by decide)) jK) (λ x52=>?_);try (refine dQ (λ h52=>?_)));refine E4 ?_;refine K3z ?_;refine aX (λ c31=>?_) (λ c31=>?_);·exact nv c31
          ·try (first|contradiction|(exfalso;omega))
           refine bg ?_;refine Ka4 ?_;refine K0x ?_;refine aX (λ c24=>?_) (λ c24=>?_);·exact nv c24
           ·try (first|contradiction|(exfalso;omega))
            refine K1z ?_;refine aL ?_;refine K1l ?_;refine aX (λ c63=>?_) (λ c63=>?_)
            ·try (first|contradiction|(exfalso;omega))
             refine K0e ?_;refine K2q ?_;refine aH (cC λ _=>cW (z:=[.int .i64 0,.int .i64 0]) (by kernel_rfl)) (λ x9=>?_);refine cO (λ _=>?_);refine aM (cC λ _=>aC rf bI rf rfl (by kernel_rfl) rf dM) (λ _=>?_);refine Ke3 ?_;refine K0w ?_;refine aI (cM (φ:=λ _=>True) (V:=λ _:Unit=>.agg ⟨(Ck (0,0)).cells⟩) (hs:=[(x.b,iR p c x)]) (os:=[]) (A0:=oZ x p p0 c0 p1 c1) (hs':=λ _=>[(x.b,iR p c x)]) (os':=λ _=>[]) (Fc:=λ _=>[]) (hc:=λ w1 hw=>(eW (a:=(0,0)) (.inl rfl) hw).mono λ _ _ ⟨e,h⟩=>⟨(),e,trivial,h⟩)) (λ x69 h69=>?_);refine nV ?_;refine Kc0 ?_;refine aX (λ c71=>?_) (λ c71=>?_)
             ·try (first|contradiction|(exfalso;omega))
              refine fO [0,1,2,3,4,5,6,7,8,9] ?_;refine Kd4 ?_;refine cD (i:=5) (hq:=(vO (c:=1) rf rf (by decide) (by decide))) (h:=?_);refine cD (i:=6) (hq:=(Ei (c:=1) rf rf (by decide))) (h:=?_);refine Ln ?_;refine Uh ?_;refine K1l ?_;refine aX (λ c87=>?_) (λ c87=>?_)
              ·try (first|contradiction|(exfalso;omega))
               refine K0e ?_;refine K2q ?_;refine K0n ?_;intro x12;refine cO (λ _=>?_);refine aM (cC λ _=>aC rf bI rf rfl (by kernel_rfl) rf dM) (λ _=>?_);refine K0v ?_;intro x93 h93 x13;refine aM (cC λ _=>aC rf bI rf rfl (by kernel_rfl) rf dM) (λ _=>?_);refine K0h ?_;((refine bH ?_));((refine aP ?_));((refine aS (i:=7) (hq:=(iE (bA rf bI (by kernel_rfl)))) (h:=?_)));((refine bE (i:=8) (hq:=(cM (φ:=λ _=>True) (V:=λ _:Unit=>.agg ⟨(Ck (0,0)).cells⟩) (hs:=[(x.b,iR p c x)]) (os:=[]) (A0:=oZ x p p0 c0 p1 c1) (hs':=λ _=>[(x.b,iR p c x)]) (os':=λ _=>[]) (Fc:=λ _=>[]) (hc:=λ w1 hw=>(eW (a:=(0,0)) (.inl rfl) hw).mono λ _ _ ⟨e,h⟩=>⟨(),e,trivial,h⟩))) (h:=λ x102 h102=>?_)));((refine jI ?_));((refine qZ ?_));refine Kd7 ?_;refine aX (λ c105=>?_) (λ c105=>?_);·exact nv c105
               ·try (first|contradiction|(exfalso;omega))
                refine Kc1 ?_;refine K0x ?_;refine aX (λ c87=>?_) (λ c87=>?_)
                ·try (first|contradiction|(exfalso;omega))
                 refine K0e ?_;refine K2p ?_;refine K0n ?_;intro x12;refine cO (λ _=>?_);refine aM (cC λ _=>aC rf bI rf rfl (by kernel_rfl) rf dM) (λ _=>?_);refine K0t ?_;intro x93 h93 x13;refine aM (cC λ _=>aC rf bI rf rfl (by kernel_rfl) rf dM) (λ _=>?_);refine K0h ?_;((refine bH ?_));((refine aP ?_));((refine aS (i:=7) (hq:=(iE (bA rf bI (by kernel_rfl)))) (h:=?_)));((refine bE (i:=8) (hq:=(cM (φ:=λ _=>True) (V:=λ _:Unit=>.agg ⟨(Ck (0,0)).cells⟩) (hs:=[(x.b,iR p c x)]) (os:=[]) (A0:=oZ x p p0 c0 p1 c1) (hs':=λ _=>[(x.b,iR p c x)]) (os':=λ _=>[]) (Fc:=λ _=>[]) (hc:=λ w1 hw=>(eW (a:=(0,0)) (.inl rfl) hw).mono λ _ _ ⟨e,h⟩=>⟨(),e,trivial,h⟩))) (h:=λ x102 h102=>?_)));((refine jI ?_));((refine qZ ?_));refine Kd7 ?_;refine aX (λ c105=>?_) (λ c105=>?_);·exact nv c105
                 ·try (first|contradiction|(exfalso;omega))
                  refine Kc1 ?_;refine K0x ?_;refine aX (λ c87=>?_) (λ c87=>?_)
                  ·try (first|contradiction|(exfalso;omega))
                   refine K0e ?_;refine K2o ?_;refine K0n ?_;intro x12;refine cO (λ _=>?_);refine aM (cC λ _=>aC rf bI rf rfl (by kernel_rfl) rf dM) (λ _=>?_);refine K0s ?_;intro x93 h93 x13;refine aM (cC λ _=>aC rf bI rf rfl (by kernel_rfl) rf dM) (λ _=>?_);refine K0h ?_;((refine bH ?_));((refine aP ?_));((refine aS (i:=7) (hq:=(iE (bA rf bI (by kernel_rfl)))) (h:=?_)));((refine bE (i:=8) (hq:=(cM (φ:=λ _=>True) (V:=λ _:Unit=>.agg ⟨(Ck (0,0)).cells⟩) (hs:=[(x.b,iR p c x)]) (os:=[]) (A0:=oZ x p p0 c0 p1 c1) (hs':=λ _=>[(x.b,iR p c x)]) (os':=λ _=>[]) (Fc:=λ _=>[]) (hc:=λ w1 hw=>(eW (a:=(0,0)) (.inl rfl) hw).mono λ _ _ ⟨e,h⟩=>⟨(),e,trivial,h⟩))) (h:=λ x102 h102=>?_)));((refine jI ?_));((refine qZ ?_));refine Kd7 ?_;refine aX (λ c105=>?_) (λ c105=>?_);·exact nv c105
                   ·try (first|contradiction|(exfalso;omega))
                    refine Kc1 ?_;refine K0x ?_;refine aX (λ c87=>?_) (λ c87=>?_);·exact nv c87
                    ·try (first|contradiction|(exfalso;omega))
                     refine K1q ?_;intro x117;(refine aH (aW.cX (dG (sz:=1) rf rf (.tail .head) rfl (.new .head) rfl rfl pL rfl (by decide) dP (by decide)) jK) (λ x118=>?_);try (refine dQ (λ h118=>?_)));refine K1b ?_;refine bE (i:=7) (hq:=(cM (φ:=λ _=>True) (V:=λ _:Unit=>.agg ⟨(Cm (0,0)).cells⟩) (hs:=[(x.b,iR p c x)]) (os:=[]) (A0:=oZ x p p0 c0 p1 c1) (hs':=λ _=>[(x.b,iR p c x)]) (os':=λ _=>[]) (Fc:=λ _=>[]) (hc:=λ w1 hw=>(rK (a:=(0,0)) (.inl rfl) hw).mono λ _ _ ⟨e,h⟩=>⟨(),e,trivial,h⟩))) (h:=λ x128 h128=>?_);refine jI ?_;refine bR (i:=9) (hq:=E0e) (h:=λ x130=>?_);((refine bR (i:=10) (hq:=(aW.cX (dG (sz:=1) rf rf (.tail (.tail .head)) rfl (.new .head) rfl rfl fH rfl (by decide) dP (by decide)) jK)) (h:=λ x131=>?_);try (refine eZ (λ h131=>?_))));refine K1c ?_;refine bE (i:=7) (hq:=(cM (φ:=λ _=>True) (V:=λ _:Unit=>.int .i64 0) (hs:=[(x.b,iR p c x)]) (os:=[]) (A0:=oZ x p p0 c0 p1 c1) (hs':=λ _=>[(x.b,iR p c x)]) (os':=λ _=>[]) (Fc:=λ _=>[]) (hc:=λ w1 hw=>(Dn (a:=(0,0)) (.inl rfl) hw).mono λ _ _ ⟨e,h⟩=>⟨(),e,trivial,h⟩))) (h:=λ x141 h141=>?_);refine bR (i:=8) (hq:=E0e) (h:=λ x142=>?_);((refine bR (i:=9) (hq:=(aW.cX (dG (sz:=1) rf rf (.tail (.tail (.tail .head))) rfl (.new .head) rfl rfl fH rfl (by decide) dP (by decide)) jK)) (h:=λ x143=>?_);try (refine eZ (λ h143=>?_))));refine K0o ?_;refine bR (i:=9) (hq:=(cV (v:=.int .i64 1) (hc:=λ w1 hw=>kD (k:=0) (i:=0) (by decide) (by decide) w1))) (h:=λ x155=>?_);refine bR (i:=10) (hq:=E0e) (h:=λ x156=>?_);((refine bR (i:=11) (hq:=(aW.cX (dG (sz:=1) rf rf (.tail (.tail (.tail (.tail .head)))) rfl (.new .head) rfl rfl fH rfl (by decide) dP (by decide)) jK)) (h:=λ x157=>?_);try (refine eZ (λ h157=>?_))));refine Ln ?_;refine K3z ?_;refine aX (λ c63=>?_) (λ c63=>?_)
                     ·try (first|contradiction|(exfalso;omega))
                      refine K0e ?_;refine K2p ?_;refine aH (cC λ _=>cW (z:=[.int .i64 0,.int .i64 0]) (by kernel_rfl)) (λ x9=>?_);refine cO (λ _=>?_);refine aM (cC λ _=>aC rf bI rf rfl (by kernel_rfl) rf dM) (λ _=>?_);refine Ke3 ?_;refine K0w ?_;refine aI (cM (φ:=λ _=>True) (V:=λ _:Unit=>.agg ⟨(Ck (1,0)).cells⟩) (hs:=[(x.b,iR p c x)]) (os:=[]) (A0:=oZ x p p0 c0 p1 c1) (hs':=λ _=>[(x.b,iR p c x)]) (os':=λ _=>[]) (Fc:=λ _=>[]) (hc:=λ w1 hw=>(eW (a:=(1,0)) (.inr (.inl rfl)) hw).mono λ _ _ ⟨e,h⟩=>⟨(),e,trivial,h⟩)) (λ x69 h69=>?_);refine nV ?_;refine Kc0 ?_;refine aX (λ c71=>?_) (λ c71=>?_)
                      ·try (first|contradiction|(exfalso;omega))
                       refine fO [0,1,2,3,4,5,6,7,8,9] ?_;refine Kd4 ?_;refine cD (i:=5) (hq:=(vO (c:=2) rf rf (by decide) (by decide))) (h:=?_);refine cD (i:=6) (hq:=(Ei (c:=3) rf rf (by decide))) (h:=?_);refine Ln ?_;refine Uh ?_;refine K1l ?_;refine aX (λ c87=>?_) (λ c87=>?_)
                       ·try (first|contradiction|(exfalso;omega))
                        refine K0e ?_;refine K2q ?_;refine K0n ?_;intro x12;refine cO (λ _=>?_);refine aM (cC λ _=>aC rf bI rf rfl (by kernel_rfl) rf dM) (λ _=>?_);refine K0v ?_;intro x93 h93 x13;refine aM (cC λ _=>aC rf bI rf rfl (by kernel_rfl) rf dM) (λ _=>?_);refine K0h ?_;((refine bH ?_));((refine aP ?_));((refine aS (i:=7) (hq:=(iE (bA rf bI (by kernel_rfl)))) (h:=?_)));((refine bE (i:=8) (hq:=(cM (φ:=λ _=>True) (V:=λ _:Unit=>.agg ⟨(Ck (1,0)).cells⟩) (hs:=[(x.b,iR p c x)]) (os:=[]) (A0:=oZ x p p0 c0 p1 c1) (hs':=λ _=>[(x.b,iR p c x)]) (os':=λ _=>[]) (Fc:=λ _=>[]) (hc:=λ w1 hw=>(eW (a:=(1,0)) (.inr (.inl rfl)) hw).mono λ _ _ ⟨e,h⟩=>⟨(),e,trivial,h⟩))) (h:=λ x102 h102=>?_)));((refine jI ?_));((refine qZ ?_));refine Kd7 ?_;refine aX (λ c105=>?_) (λ c105=>?_);·exact nv c105
                        ·try (first|contradiction|(exfalso;omega))
                         refine Kc1 ?_;refine K0x ?_;refine aX (λ c87=>?_) (λ c87=>?_)
                         ·try (first|contradiction|(exfalso;omega))
                          refine K0e ?_;refine K2p ?_;refine K0n ?_;intro x12;refine cO (λ _=>?_);refine aM (cC λ _=>aC rf bI rf rfl (by kernel_rfl) rf dM) (λ _=>?_);refine K0t ?_;intro x93 h93 x13;refine aM (cC λ _=>aC rf bI rf rfl (by kernel_rfl) rf dM) (λ _=>?_);refine K0h ?_;((refine bH ?_));((refine aP ?_));((refine aS (i:=7) (hq:=(iE (bA rf bI (by kernel_rfl)))) (h:=?_)));((refine bE (i:=8) (hq:=(cM (φ:=λ _=>True) (V:=λ _:Unit=>.agg ⟨(Ck (1,0)).cells⟩) (hs:=[(x.b,iR p c x)]) (os:=[]) (A0:=oZ x p p0 c0 p1 c1) (hs':=λ _=>[(x.b,iR p c x)]) (os':=λ _=>[]) (Fc:=λ _=>[]) (hc:=λ w1 hw=>(eW (a:=(1,0)) (.inr (.inl rfl)) hw).mono λ _ _ ⟨e,h⟩=>⟨(),e,trivial,h⟩))) (h:=λ x102 h102=>?_)));((refine jI ?_));((refine qZ ?_));refine Kd7 ?_;refine aX (λ c105=>?_) (λ c105=>?_);·exact nv c105
                          ·try (first|contradiction|(exfalso;omega))
                           refine Kc1 ?_;refine K0x ?_;refine aX (λ c87=>?_) (λ c87=>?_)
                           ·try (first|contradiction|(exfalso;omega))
                            refine K0e ?_;refine K2o ?_;refine K0n ?_;intro x12;refine cO (λ _=>?_);refine aM (cC λ _=>aC rf bI rf rfl (by kernel_rfl) rf dM) (λ _=>?_);refine K0s ?_;intro x93 h93 x13;refine aM (cC λ _=>aC rf bI rf rfl (by kernel_rfl) rf dM) (λ _=>?_);refine K0h ?_;((refine bH ?_));((refine aP ?_));((refine aS (i:=7) (hq:=(iE (bA rf bI (by kernel_rfl)))) (h:=?_)));((refine bE (i:=8) (hq:=(cM (φ:=λ _=>True) (V:=λ _:Unit=>.agg ⟨(Ck (1,0)).cells⟩) (hs:=[(x.b,iR p c x)]) (os:=[]) (A0:=oZ x p p0 c0 p1 c1) (hs':=λ _=>[(x.b,iR p c x)]) (os':=λ _=>[]) (Fc:=λ _=>[]) (hc:=λ w1 hw=>(eW (a:=(1,0)) (.inr (.inl rfl)) hw).mono λ _ _ ⟨e,h⟩=>⟨(),e,trivial,h⟩))) (h:=λ x102 h102=>?_)));((refine jI ?_));((refine qZ ?_));refine Kd7 ?_;refine aX (λ c105=>?_) (λ c105=>?_);·exact nv c105
                            ·try (first|contradiction|(exfalso;omega))
                             refine Kc1 ?_;refine K0x ?_;refine aX (λ c87=>?_) (λ c87=>?_);·exact nv c87
                             ·try (first|contradiction|(exfalso;omega))
                              refine K1q ?_;intro x117;(refine aH (aW.cX (dG (sz:=1) rf rf (.tail .head) rfl (.new .head) rfl rfl pL rfl (by decide) dP (by decide)) jK) (λ x118=>?_);try (refine dQ (λ h118=>?_)));refine K1b ?_;refine bE (i:=7) (hq:=(cM (φ:=λ _=>True) (V:=λ _:Unit=>.agg ⟨(Cm (1,0)).cells⟩) (hs:=[(x.b,iR p c x)]) (os:=[]) (A0:=oZ x p p0 c0 p1 c1) (hs':=λ _=>[(x.b,iR p c x)]) (os':=λ _=>[]) (Fc:=λ _=>[]) (hc:=λ w1 hw=>(rK (a:=(1,0)) (.inr (.inl rfl)) hw).mono λ _ _ ⟨e,h⟩=>⟨(),e,trivial,h⟩))) (h:=λ x128 h128=>?_);refine jI ?_;refine bR (i:=9) (hq:=E0e) (h:=λ x130=>?_);((refine bR (i:=10) (hq:=(aW.cX (dG (sz:=1) rf rf (.tail (.tail .head)) rfl (.new .head) rfl rfl fH rfl (by decide) dP (by decide)) jK)) (h:=λ x131=>?_);try (refine eZ (λ h131=>?_))));refine K1c ?_;refine bE (i:=7) (hq:=(cM (φ:=λ _=>True) (V:=λ _:Unit=>.int .i64 0) (hs:=[(x.b,iR p c x)]) (os:=[]) (A0:=oZ x p p0 c0 p1 c1) (hs':=λ _=>[(x.b,iR p c x)]) (os':=λ _=>[]) (Fc:=λ _=>[]) (hc:=λ w1 hw=>(Dn (a:=(1,0)) (.inr (.inl rfl)) hw).mono λ _ _ ⟨e,h⟩=>⟨(),e,trivial,h⟩))) (h:=λ x141 h141=>?_);refine bR (i:=8) (hq:=E0e) (h:=λ x142=>?_);((refine bR (i:=9) (hq:=(aW.cX (dG (sz:=1) rf rf (.tail (.tail (.tail .head))) rfl (.new .head) rfl rfl fH rfl (by decide) dP (by decide)) jK)) (h:=λ x143=>?_);try (refine eZ (λ h143=>?_))));refine K0o ?_;refine bR (i:=9) (hq:=(cV (v:=.int .i64 17) (hc:=λ w1 hw=>kD (k:=1) (i:=0) (by decide) (by decide) w1))) (h:=λ x155=>?_);refine bR (i:=10) (hq:=E0e) (h:=λ x156=>?_);((refine bR (i:=11) (hq:=(aW.cX (dG (sz:=1) rf rf (.tail (.tail (.tail (.tail .head)))) rfl (.new .head) rfl rfl fH rfl (by decide) dP (by decide)) jK)) (h:=λ x157=>?_);try (refine eZ (λ h157=>?_))));refine Ln ?_;refine K3z ?_;refine aX (λ c63=>?_) (λ c63=>?_)
                              ·try (first|contradiction|(exfalso;omega))
                               refine K0e ?_;refine K2o ?_;refine aH (cC λ _=>cW (z:=[.int .i64 0,.int .i64 0]) (by kernel_rfl)) (λ x9=>?_);refine cO (λ _=>?_);refine aM (cC λ _=>aC rf bI rf rfl (by kernel_rfl) rf dM) (λ _=>?_);refine Ke3 ?_;refine K0w ?_;refine aI (cM (φ:=λ _=>True) (V:=λ _:Unit=>.agg ⟨(Ck (1,1)).cells⟩) (hs:=[(x.b,iR p c x)]) (os:=[]) (A0:=oZ x p p0 c0 p1 c1) (hs':=λ _=>[(x.b,iR p c x)]) (os':=λ _=>[]) (Fc:=λ _=>[]) (hc:=λ w1 hw=>(eW (a:=(1,1)) (.inr (.inr rfl)) hw).mono λ _ _ ⟨e,h⟩=>⟨(),e,trivial,h⟩)) (λ x69 h69=>?_);refine nV ?_;refine Kc0 ?_;refine aX (λ c71=>?_) (λ c71=>?_)
                               ·try (first|contradiction|(exfalso;omega))
                                refine fO [0,1,2,3,4,5,6,7,8,9] ?_;refine Kd4 ?_;refine cD (i:=5) (hq:=(vO (c:=4) rf rf (by decide) (by decide))) (h:=?_);refine cD (i:=6) (hq:=(Ei (c:=7) rf rf (by decide))) (h:=?_);refine Ln ?_;refine Uh ?_;refine K1l ?_;refine aX (λ c87=>?_) (λ c87=>?_)
                                ·try (first|contradiction|(exfalso;omega))
                                 refine K0e ?_;refine K2q ?_;refine K0n ?_;intro x12;refine cO (λ _=>?_);refine aM (cC λ _=>aC rf bI rf rfl (by kernel_rfl) rf dM) (λ _=>?_);refine K0v ?_;intro x93 h93 x13;refine aM (cC λ _=>aC rf bI rf rfl (by kernel_rfl) rf dM) (λ _=>?_);refine K0h ?_;((refine bH ?_));((refine aP ?_));((refine aS (i:=7) (hq:=(iE (bA rf bI (by kernel_rfl)))) (h:=?_)));((refine bE (i:=8) (hq:=(cM (φ:=λ _=>True) (V:=λ _:Unit=>.agg ⟨(Ck (1,1)).cells⟩) (hs:=[(x.b,iR p c x)]) (os:=[]) (A0:=oZ x p p0 c0 p1 c1) (hs':=λ _=>[(x.b,iR p c x)]) (os':=λ _=>[]) (Fc:=λ _=>[]) (hc:=λ w1 hw=>(eW (a:=(1,1)) (.inr (.inr rfl)) hw).mono λ _ _ ⟨e,h⟩=>⟨(),e,trivial,h⟩))) (h:=λ x102 h102=>?_)));((refine jI ?_));((refine qZ ?_));refine Kd7 ?_;refine aX (λ c105=>?_) (λ c105=>?_)
                                 ·try (first|contradiction|(exfalso;omega))
                                  refine Fw ?_;refine aA (vO (c:=1) rf rf (by decide) (by decide)) rfl ?_;refine aA (Ei (c:=1) rf rf (by decide)) rfl ?_;refine Kd8 ?_;refine K0x ?_;refine aX (λ c87=>?_) (λ c87=>?_)
                                  ·try (first|contradiction|(exfalso;omega))
                                   refine K0e ?_;refine K2p ?_;refine K0n ?_;intro x12;refine cO (λ _=>?_);refine aM (cC λ _=>aC rf bI rf rfl (by kernel_rfl) rf dM) (λ _=>?_);refine K0t ?_;intro x93 h93 x13;refine aM (cC λ _=>aC rf bI rf rfl (by kernel_rfl) rf dM) (λ _=>?_);refine K0h ?_;((refine bH ?_));((refine aP ?_));((refine aS (i:=7) (hq:=(iE (bA rf bI (by kernel_rfl)))) (h:=?_)));((refine bE (i:=8) (hq:=(cM (φ:=λ _=>True) (V:=λ _:Unit=>.agg ⟨(Ck (1,1)).cells⟩) (hs:=[(x.b,iR p c x)]) (os:=[]) (A0:=oZ x p p0 c0 p1 c1) (hs':=λ _=>[(x.b,iR p c x)]) (os':=λ _=>[]) (Fc:=λ _=>[]) (hc:=λ w1 hw=>(eW (a:=(1,1)) (.inr (.inr rfl)) hw).mono λ _ _ ⟨e,h⟩=>⟨(),e,trivial,h⟩))) (h:=λ x102 h102=>?_)));((refine jI ?_));((refine qZ ?_));refine Kd7 ?_;refine aX (λ c105=>?_) (λ c105=>?_)
                                   ·try (first|contradiction|(exfalso;omega))
                                    refine Fw ?_;refine aA (vO (c:=2) rf rf (by decide) (by decide)) rfl ?_;refine aA (Ei (c:=3) rf rf (by decide)) rfl ?_;refine Kd8 ?_;refine K0x ?_;refine aX (λ c87=>?_) (λ c87=>?_)
                                    ·try (first|contradiction|(exfalso;omega))
                                     refine K0e ?_;refine K2o ?_;refine K0n ?_;intro x12;refine cO (λ _=>?_);refine aM (cC λ _=>aC rf bI rf rfl (by kernel_rfl) rf dM) (λ _=>?_);refine K0s ?_;intro x93 h93 x13;refine aM (cC λ _=>aC rf bI rf rfl (by kernel_rfl) rf dM) (λ _=>?_);refine K0h ?_;((refine bH ?_));((refine aP ?_));((refine aS (i:=7) (hq:=(iE (bA rf bI (by kernel_rfl)))) (h:=?_)));((refine bE (i:=8) (hq:=(cM (φ:=λ _=>True) (V:=λ _:Unit=>.agg ⟨(Ck (1,1)).cells⟩) (hs:=[(x.b,iR p c x)]) (os:=[]) (A0:=oZ x p p0 c0 p1 c1) (hs':=λ _=>[(x.b,iR p c x)]) (os':=λ _=>[]) (Fc:=λ _=>[]) (hc:=λ w1 hw=>(eW (a:=(1,1)) (.inr (.inr rfl)) hw).mono λ _ _ ⟨e,h⟩=>⟨(),e,trivial,h⟩))) (h:=λ x102 h102=>?_)));((refine jI ?_));((refine qZ ?_));refine Kd7 ?_;refine aX (λ c105=>?_) (λ c105=>?_);·exact nv c105
                                     ·try (first|contradiction|(exfalso;omega))
                                      refine Kc1 ?_;refine K0x ?_;refine aX (λ c87=>?_) (λ c87=>?_);·exact nv c87
                                      ·try (first|contradiction|(exfalso;omega))
                                       refine K1q ?_;intro x117;(refine aH (aW.cX (dG (sz:=1) rf rf (.tail .head) rfl (.new .head) rfl rfl pL rfl (by decide) dP (by decide)) jK) (λ x118=>?_);try (refine dQ (λ h118=>?_)));refine K1b ?_;refine bE (i:=7) (hq:=(cM (φ:=λ _=>True) (V:=λ _:Unit=>.agg ⟨(Cm (1,1)).cells⟩) (hs:=[(x.b,iR p c x)]) (os:=[]) (A0:=oZ x p p0 c0 p1 c1) (hs':=λ _=>[(x.b,iR p c x)]) (os':=λ _=>[]) (Fc:=λ _=>[]) (hc:=λ w1 hw=>(rK (a:=(1,1)) (.inr (.inr rfl)) hw).mono λ _ _ ⟨e,h⟩=>⟨(),e,trivial,h⟩))) (h:=λ x128 h128=>?_);refine jI ?_;refine bR (i:=9) (hq:=E0e) (h:=λ x130=>?_);((refine bR (i:=10) (hq:=(aW.cX (dG (sz:=1) rf rf (.tail (.tail .head)) rfl (.new .head) rfl rfl fH rfl (by decide) dP (by decide)) jK)) (h:=λ x131=>?_);try (refine eZ (λ h131=>?_))));refine K1c ?_;refine bE (i:=7) (hq:=(cM (φ:=λ _=>True) (V:=λ _:Unit=>.int .i64 0) (hs:=[(x.b,iR p c x)]) (os:=[]) (A0:=oZ x p p0 c0 p1 c1) (hs':=λ _=>[(x.b,iR p c x)]) (os':=λ _=>[]) (Fc:=λ _=>[]) (hc:=λ w1 hw=>(Dn (a:=(1,1)) (.inr (.inr rfl)) hw).mono λ _ _ ⟨e,h⟩=>⟨(),e,trivial,h⟩))) (h:=λ x141 h141=>?_);refine bR (i:=8) (hq:=E0e) (h:=λ x142=>?_);((refine bR (i:=9) (hq:=(aW.cX (dG (sz:=1) rf rf (.tail (.tail (.tail .head))) rfl (.new .head) rfl rfl fH rfl (by decide) dP (by decide)) jK)) (h:=λ x143=>?_);try (refine eZ (λ h143=>?_))));refine K0o ?_;refine bR (i:=9) (hq:=(cV (v:=.int .i64 18) (hc:=λ w1 hw=>kD (k:=1) (i:=1) (by decide) (by decide) w1))) (h:=λ x155=>?_);refine bR (i:=10) (hq:=E0e) (h:=λ x156=>?_);((refine bR (i:=11) (hq:=(aW.cX (dG (sz:=1) rf rf (.tail (.tail (.tail (.tail .head)))) rfl (.new .head) rfl rfl fH rfl (by decide) dP (by decide)) jK)) (h:=λ x157=>?_);try (refine eZ (λ h157=>?_))));refine Ln ?_;refine K3z ?_;refine aX (λ c63=>?_) (λ c63=>?_);·exact nv c63
                                       ·try (first|contradiction|(exfalso;omega))
                                        refine K1z ?_;refine Kd6 ?_;refine bJ results36 (λ w hw=>?_);exact⟨⟨x17,x15,x52.1,x52.2,x118.1,x118.2,x131.1,x131.2,x143.1,x143.2,x157.1,x157.2⟩,rfl,trivial,(((((hw.freeze .head).freeze .head).freeze .head).freeze .head).freeze .head).ret E0a (bM.dB λ f hf=>List.mem_append_left _ hf) (List.Sublist.refl _)⟩
                                    ·exact nv c87
                                   ·exact nv c105
                                  ·exact nv c87
                                 ·exact nv c105
                                ·exact nv c87
                               ·exact nv c71
                              ·exact nv c63
                           ·exact nv c87
                         ·exact nv c87
                       ·exact nv c87
                      ·exact nv c71
                     ·exact nv c63
                  ·exact nv c87
                ·exact nv c87
              ·exact nv c87
             ·exact nv c71
            ·exact nv c63
         ·exact nv c42
        ·exact nv c31
       ·exact nv c42
      ·exact nv c31
     ·exact nv c24
   ·exact nv c42
  ·exact nv c31
 ·exact nv c24
end
end Go.Proofs.YtdeecdfockjoiaaGreatDoor
