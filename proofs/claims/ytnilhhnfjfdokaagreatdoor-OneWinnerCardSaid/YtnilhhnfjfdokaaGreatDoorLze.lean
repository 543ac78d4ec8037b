/- families: Contents; linz.needed. (Printed by genlze.py.) -/
import Derived.Test.YtnilhhnfjfdokaaGreatDoorGLzb
set_option linter.unusedSimpArgs false
set_option linter.unusedVariables false
namespace Go.Proofs.YtnilhhnfjfdokaaGreatDoor
open Go Go.RowKit Go.Ct
def rn(ve:List MapEntry)(vc:Nat)(ps:List (ByteArray×Int)):Prop:=(ve=[]/\vc=0/\ps=[])∨∃v:Int,ve=[⟨.string fB,.int .u64 v,0⟩]/\vc=1/\ps=[(fB,v)]
section
variable{w:World}{D:List Nat}{A:Fr}{u:Js}{v:Int}{ve:List MapEntry}{vc:Nat}{ps:List (ByteArray×Int)}
theorem Xd(h:rn ve vc ps)(hs:SF w D (iX u ve vc) A [] [] w):Calls Tryz.prog 90 #[pt u.b,.agg ⟨[.map (some u.bv),.bool false]⟩] w λ e w'=>∃x:Option Addr×Nat,e=.returned (.slice x.1 ps.length x.2)/\True/\SF w D (iX u ve vc) [] [(x.1,dR B3 ps)] [] w':=by
 rcases h with⟨rfl,rfl,rfl⟩|⟨v,rfl,rfl,rfl⟩
 ·exact Sg hs
 ·exact Wi hs
theorem A2(h:rn ve vc ps)(hs:SF w D (iX u ve vc) A [] [] w):Calls Tryz.prog 59 #[pt u.b,.int .i64 0] w λ e w'=>∃x:Option Addr×Nat,e=.returned (.tuple #[.slice x.1 ps.length x.2,.bool false,.bool true])/\True/\SF w D (iX u ve vc) [] [(x.1,dR B3 ps)] [] w':=by
 refine enter Tryz.func59 Tryz.ntmps59 rfl rfl hs ?_
 simp only[cP]
 refine J0 ?_;refine bX (λ _=>?_);refine J8 ?_;refine oJ ?_;refine aB ?_;refine aA (fR (iE (K:=3) (E:=131) (dK:=.int .i64) (ze:=.agg ⟨[.map none,.bool false]⟩) (k:=.int .i64 0) (es:=Jt u.bv) (c:=1) (r:=some (0,.agg ⟨[.map (some u.bv),.bool false]⟩)) rf rf bD (by kernel_rfl) (by kernel_rfl) rfl (by kernel_rfl) rfl)) rfl ?_;refine C9 ?_;refine aI (λ x7=>?_);refine aL (cE λ _=>aC (cs:=[.map (some u.bv),.bool false]) rf bD rf rfl (by kernel_rfl) rf dI) (λ _=>?_);refine Kc7 ?_;refine wO ?_
 refine aU (λ c19=>?_) (λ c19=>?_)
 ·try (contradiction)
 ·try (first|contradiction|(exfalso;omega))
  refine lS ?_;refine eG [(0,[]),(1,[]),(3,[]),(4,[]),(2,[4]),(5,[4]),(6,[]),(7,[])] ?_;refine aR ?_;refine cB ?_;refine gY ?_;refine bS (i:=2) (hq:=(cM (V:=λ x:Option Addr×Nat=>.slice x.1 ps.length x.2) (hs:=iX u ve vc) (os:=[]) (A0:=[]) (hs':=λ _=>iX u ve vc) (os':=λ _=>[]) (Fc:=λ x=>[(x.1,dR B3 ps)]) (hc:=λ w1 hw=>Xd h hw))) (h:=λ x22 h22=>?_);refine nU (h:=λ _=>?_);refine dg ?_
  refine bV Tryz.results59 (λ w hw=>?_)
  exact⟨x22,rfl,trivial,hw.ret (by repeat (first|exact List.Sublist.refl _|apply List.Sublist.cons)) (by exact bL.all) (List.Sublist.refl _)⟩
end
def rL(b:Bool):List Value:=.bool b::List.replicate 128 (.bool false)
section
variable{w:World}{D:List Nat}{y:L0}{rb:Nat}
set_option maxRecDepth 100000 in
theorem Ps(hs:SF w D [(y.b,G4 rb y)] y.fr [] [] w):Calls Tryz.prog 58 #[pt y.b,.int .u32 0] w λ e w'=>e=.returned (.agg ⟨rL true⟩)/\SF w D [(y.b,G4 rb y)] [] [] [] w':=by
 refine enter Tryz.func58 Tryz.ntmps58 rfl rfl hs ?_
 simp only[cP]
 refine J0 ?_;refine aF (cE λ _=>cG (z:=rL false) (by kernel_rfl)) (λ x4=>?_);refine Kb4 ?_;refine aF (cE λ _=>cG (z:=rL false) (by kernel_rfl)) (λ x5=>?_);refine pT ?_;refine W0 ?_;refine cJ ?_;refine gS ?_;refine aD ?_
 refine aU (λ c10=>?_) (λ c10=>?_)
 ·try (first|contradiction|(exfalso;omega))
  refine bB ?_;refine aV ?_;refine dW ?_;refine Kc6 ?_;refine cJ ?_;refine Ka1 ?_
  refine aU (λ c17=>?_) (λ c17=>?_)
  ·try (first|contradiction|(exfalso;omega))
   refine Ka6 ?_;refine aA (bR rf rf dJ eC (.old (.tail .head)) (Nat.le_of_ble_eq_true rfl) (Nat.le_of_ble_eq_true rfl)) rfl ?_;refine aA (bO rf eC (.old (.tail .head)) rfl) rfl ?_;refine Kc2 ?_;refine aA (eQ (c:=0) rf rf (by decide) (by decide)) rfl ?_;refine aA (eD (c:=0) rf rf (by decide)) rfl ?_;refine Kb2 ?_
   (refine Ka2 ?_)
   refine Kb5 ?_
   (refine Ka2 ?_)
   ((refine Kc5 ?_));refine Kb3 ?_
   (refine Ka2 ?_)
   ((refine aE ?_;refine aA (cR (n:=129) (k:=0) (e:=4) rf rf (by kernel_rfl) (by kernel_rfl) (by decide)) rfl ?_));((refine Kb6 ?_));refine Kb0 ?_
   refine aU (λ c38=>?_) (λ c38=>?_)
   ·exact nv c38
   ·try (first|contradiction|(exfalso;omega))
    refine Vz ?_;refine aB ?_;refine aA (bR rf rf dJ eC (.old (.tail (.tail .head))) (Nat.le_of_ble_eq_true rfl) (Nat.le_of_ble_eq_true rfl)) rfl ?_;refine aA (bO rf eC (.old (.tail (.tail .head))) rfl) rfl ?_;refine Kb2 ?_
    (refine Ka2 ?_)
    ((refine Kc3 ?_));refine J6 ?_;((refine Ka2 ?_));((refine aE ?_;refine aA (bR rf rf dJ eC (.old (.tail (.tail .head))) (Nat.le_of_ble_eq_true rfl) (Nat.le_of_ble_eq_true rfl)) rfl ?_));((refine aE ?_;refine aA (bO rf eC (.old (.tail (.tail .head))) rfl) rfl ?_));refine Kd6 ?_
    refine aT ?_
    (refine aT ?_);refine J6 ?_;(refine aT ?_);(refine aT ?_);(refine aT ?_);((refine aT ?_));refine bI ?_;refine Ni ?_
    (refine Ka2 ?_)
    ((refine Kc3 ?_));refine J6 ?_;((refine Ka2 ?_));((refine aE ?_;refine aA (eQ (c:=7) rf rf (by decide) (by decide)) rfl ?_));((refine aE ?_;refine aA (eD (c:=1) rf rf (by decide)) rfl ?_));refine zM ?_;refine aD ?_
    refine aU (λ c77=>?_) (λ c77=>?_)
    ·try (first|contradiction|(exfalso;omega))
     refine J2 ?_;refine aA (cR (n:=129) (k:=0) (e:=4) rf rf (by kernel_rfl) (by kernel_rfl) (by decide)) rfl ?_;refine aL (cE λ _=>zU (cs:=rL false) rf bD wn rf (by kernel_rfl) rfl rfl dI) (λ _=>?_);refine aD ?_;refine dD ?_;refine Kd7 ?_;refine bH ?_;refine Ka1 ?_
     refine aU (λ c17=>?_) (λ c17=>?_)
     ·try (first|contradiction|(exfalso;omega))
      refine Ka6 ?_;refine aA (bR rf rf dJ eC (.old (.tail .head)) (Nat.le_of_ble_eq_true rfl) (Nat.le_of_ble_eq_true rfl)) rfl ?_;refine aA (bO rf eC (.old (.tail .head)) rfl) rfl ?_;refine Kc2 ?_;refine aA (eQ (c:=0) rf rf (by decide) (by decide)) rfl ?_;refine aA (eD (c:=0) rf rf (by decide)) rfl ?_;refine Kb2 ?_
      (refine Ka2 ?_)
      refine Kb5 ?_
      (refine Ka2 ?_)
      ((refine Kc5 ?_));refine Kb3 ?_
      (refine Ka2 ?_)
      ((refine aE ?_;refine aA (cR (n:=129) (k:=0) (e:=4) rf rf (by kernel_rfl) (by kernel_rfl) (by decide)) rfl ?_));((refine Kb6 ?_));refine Kb0 ?_
      refine aU (λ c38=>?_) (λ c38=>?_)
      ·try (first|contradiction|(exfalso;omega))
       refine aX rfl ?_;refine Ka3 ?_;refine bH ?_;refine Ka1 ?_
       refine aU (λ c17=>?_) (λ c17=>?_)
       ·try (first|contradiction|(exfalso;omega))
        refine Ka6 ?_;refine aA (bR rf rf dJ eC (.old (.tail .head)) (Nat.le_of_ble_eq_true rfl) (Nat.le_of_ble_eq_true rfl)) rfl ?_;refine aA (bO rf eC (.old (.tail .head)) rfl) rfl ?_;refine Kc2 ?_;refine aA (eQ (c:=0) rf rf (by decide) (by decide)) rfl ?_;refine aA (eD (c:=0) rf rf (by decide)) rfl ?_;refine Kb2 ?_
        (refine Ka2 ?_)
        refine Kb5 ?_
        (refine Ka2 ?_)
        ((refine Kc5 ?_));refine Kb3 ?_
        (refine Ka2 ?_)
        ((refine aE ?_;refine aA (cR (n:=129) (k:=0) (e:=4) rf rf (by kernel_rfl) (by kernel_rfl) (by decide)) rfl ?_));((refine Kb6 ?_));refine Kb0 ?_
        refine aU (λ c38=>?_) (λ c38=>?_)
        ·try (first|contradiction|(exfalso;omega))
         refine aX rfl ?_;refine Ka3 ?_;refine bH ?_;refine Ka1 ?_
         refine aU (λ c17=>?_) (λ c17=>?_)
         ·exact nv c17
         ·try (first|contradiction|(exfalso;omega))
          refine Ry ?_;refine bH ?_;refine gS ?_;refine aD ?_
          refine aU (λ c10=>?_) (λ c10=>?_)
          ·try (first|contradiction|(exfalso;omega))
           refine bB ?_;refine aV ?_;refine dW ?_;refine Kc6 ?_;refine cJ ?_;refine Ka1 ?_
           refine aU (λ c17=>?_) (λ c17=>?_)
           ·try (first|contradiction|(exfalso;omega))
            refine Ka6 ?_;refine aA (bR rf rf dJ eC (.old (.tail .head)) (Nat.le_of_ble_eq_true rfl) (Nat.le_of_ble_eq_true rfl)) rfl ?_;refine aA (bO rf eC (.old (.tail .head)) rfl) rfl ?_;refine Kc2 ?_;refine aA (eQ (c:=0) rf rf (by decide) (by decide)) rfl ?_;refine aA (eD (c:=0) rf rf (by decide)) rfl ?_;refine Kb2 ?_
            (refine Ka2 ?_)
            refine Kb5 ?_
            (refine Ka2 ?_)
            ((refine Kc5 ?_));refine Kb3 ?_
            (refine Ka2 ?_)
            ((refine aE ?_;refine aA (cR (n:=129) (k:=0) (e:=4) rf rf (by kernel_rfl) (by kernel_rfl) (by decide)) rfl ?_));((refine Kb6 ?_));refine Kb0 ?_
            refine aU (λ c38=>?_) (λ c38=>?_)
            ·try (first|contradiction|(exfalso;omega))
             refine aX rfl ?_;refine Ka3 ?_;refine bH ?_;refine Ka1 ?_
             refine aU (λ c17=>?_) (λ c17=>?_)
             ·try (first|contradiction|(exfalso;omega))
              refine Ka6 ?_;refine aA (bR rf rf dJ eC (.old (.tail .head)) (Nat.le_of_ble_eq_true rfl) (Nat.le_of_ble_eq_true rfl)) rfl ?_;refine aA (bO rf eC (.old (.tail .head)) rfl) rfl ?_;refine Kc2 ?_;refine aA (eQ (c:=0) rf rf (by decide) (by decide)) rfl ?_;refine aA (eD (c:=0) rf rf (by decide)) rfl ?_;refine Kb2 ?_
              (refine Ka2 ?_)
              refine Kb5 ?_
              (refine Ka2 ?_)
              ((refine Kc5 ?_));refine Kb3 ?_
              (refine Ka2 ?_)
              ((refine aE ?_;refine aA (cR (n:=129) (k:=0) (e:=4) rf rf (by kernel_rfl) (by kernel_rfl) (by decide)) rfl ?_));((refine Kb6 ?_));refine Kb0 ?_
              refine aU (λ c38=>?_) (λ c38=>?_)
              ·try (first|contradiction|(exfalso;omega))
               refine aX rfl ?_;refine Ka3 ?_;refine bH ?_;refine Ka1 ?_
               refine aU (λ c17=>?_) (λ c17=>?_)
               ·try (first|contradiction|(exfalso;omega))
                refine Ka6 ?_;refine aA (bR rf rf dJ eC (.old (.tail .head)) (Nat.le_of_ble_eq_true rfl) (Nat.le_of_ble_eq_true rfl)) rfl ?_;refine aA (bO rf eC (.old (.tail .head)) rfl) rfl ?_;refine Kc2 ?_;refine aA (eQ (c:=0) rf rf (by decide) (by decide)) rfl ?_;refine aA (eD (c:=0) rf rf (by decide)) rfl ?_;refine Kb2 ?_
                (refine Ka2 ?_)
                refine Kb5 ?_
                (refine Ka2 ?_)
                ((refine Kc5 ?_));refine Kb3 ?_
                (refine Ka2 ?_)
                ((refine aE ?_;refine aA (cR (n:=129) (k:=0) (e:=4) rf rf (by kernel_rfl) (by kernel_rfl) (by decide)) rfl ?_));((refine Kb6 ?_));refine Kb0 ?_
                refine aU (λ c38=>?_) (λ c38=>?_)
                ·try (first|contradiction|(exfalso;omega))
                 refine aX rfl ?_;refine Ka3 ?_;refine bH ?_;refine Ka1 ?_
                 refine aU (λ c17=>?_) (λ c17=>?_)
                 ·exact nv c17
                 ·try (first|contradiction|(exfalso;omega))
                  refine Ry ?_;refine bH ?_;refine gS ?_;refine aD ?_
                  refine aU (λ c10=>?_) (λ c10=>?_)
                  ·exact nv c10
                  ·try (first|contradiction|(exfalso;omega))
                   refine aX rfl ?_;refine J0 ?_;refine aA (fR (aN rf bD (by kernel_rfl))) rfl ?_;refine aL (cE λ _=>aC (old:=rL false) (cs:=rL true) rf bD rf rfl (by kernel_rfl) rf dI) (λ _=>?_);refine aD ?_
                   refine nE Tryz.results58 (.cell rf bD (by kernel_rfl) .nil) (λ w hw=>?_)
                   exact⟨rfl,hw.ret (by repeat (first|exact List.Sublist.refl _|apply List.Sublist.cons)) bL.nil (List.Sublist.refl _)⟩
                ·exact nv c38
               ·exact nv c17
              ·exact nv c38
             ·exact nv c17
            ·exact nv c38
           ·exact nv c17
          ·exact nv c10
        ·exact nv c38
       ·exact nv c17
      ·exact nv c38
     ·exact nv c17
    ·exact nv c77
  ·exact nv c17
 ·exact nv c10
set_option maxRecDepth 100000 in
theorem Qu(hs:SF w D [(y.b,G4 rb y)] y.fr [] [] w):Calls Tryz.prog 58 #[pt y.b,.int .u32 1] w λ e w'=>e=.returned (.agg ⟨rL true⟩)/\SF w D [(y.b,G4 rb y)] [] [] [] w':=by
 refine enter Tryz.func58 Tryz.ntmps58 rfl rfl hs ?_
 simp only[cP]
 refine J0 ?_;refine aF (cE λ _=>cG (z:=rL false) (by kernel_rfl)) (λ x4=>?_);refine Kb4 ?_;refine aF (cE λ _=>cG (z:=rL false) (by kernel_rfl)) (λ x5=>?_);refine pT ?_;refine W0 ?_;refine cJ ?_;refine gS ?_;refine aD ?_
 refine aU (λ c10=>?_) (λ c10=>?_)
 ·try (first|contradiction|(exfalso;omega))
  refine bB ?_;refine aV ?_;refine dW ?_;refine Kc6 ?_;refine cJ ?_;refine Ka1 ?_
  refine aU (λ c17=>?_) (λ c17=>?_)
  ·try (first|contradiction|(exfalso;omega))
   refine Ka6 ?_;refine aA (bR rf rf dJ eC (.old (.tail .head)) (Nat.le_of_ble_eq_true rfl) (Nat.le_of_ble_eq_true rfl)) rfl ?_;refine aA (bO rf eC (.old (.tail .head)) rfl) rfl ?_;refine Kc2 ?_;refine aA (eQ (c:=1) rf rf (by decide) (by decide)) rfl ?_;refine aA (eD (c:=1) rf rf (by decide)) rfl ?_;refine Kb2 ?_
   refine aT ?_
   refine Kb5 ?_
   refine aT ?_
   (refine aT ?_);refine Kb3 ?_
   refine aT ?_
   (refine aT ?_);(refine aT ?_);refine Kb0 ?_
   refine aU (λ c38=>?_) (λ c38=>?_)
   ·try (first|contradiction|(exfalso;omega))
    refine aX rfl ?_;refine Ka3 ?_;refine bH ?_;refine Ka1 ?_
    refine aU (λ c17=>?_) (λ c17=>?_)
    ·try (first|contradiction|(exfalso;omega))
     refine Ka6 ?_;refine aA (bR rf rf dJ eC (.old (.tail .head)) (Nat.le_of_ble_eq_true rfl) (Nat.le_of_ble_eq_true rfl)) rfl ?_;refine aA (bO rf eC (.old (.tail .head)) rfl) rfl ?_;refine Kc2 ?_;refine aA (eQ (c:=0) rf rf (by decide) (by decide)) rfl ?_;refine aA (eD (c:=0) rf rf (by decide)) rfl ?_;refine Kb2 ?_
     (refine Ka2 ?_)
     refine Kb5 ?_
     (refine Ka2 ?_)
     ((refine Kc5 ?_));refine Kb3 ?_
     (refine Ka2 ?_)
     ((refine aE ?_;refine aA (cR (n:=129) (k:=0) (e:=4) rf rf (by kernel_rfl) (by kernel_rfl) (by decide)) rfl ?_));((refine Kb6 ?_));refine Kb0 ?_
     refine aU (λ c38=>?_) (λ c38=>?_)
     ·exact nv c38
     ·try (first|contradiction|(exfalso;omega))
      refine Vz ?_;refine aB ?_;refine aA (bR rf rf dJ eC (.old (.tail (.tail .head))) (Nat.le_of_ble_eq_true rfl) (Nat.le_of_ble_eq_true rfl)) rfl ?_;refine aA (bO rf eC (.old (.tail (.tail .head))) rfl) rfl ?_;refine Kb2 ?_
      (refine Ka2 ?_)
      ((refine Kc3 ?_));refine J6 ?_;((refine Ka2 ?_));((refine aE ?_;refine aA (bR rf rf dJ eC (.old (.tail (.tail .head))) (Nat.le_of_ble_eq_true rfl) (Nat.le_of_ble_eq_true rfl)) rfl ?_));((refine aE ?_;refine aA (bO rf eC (.old (.tail (.tail .head))) rfl) rfl ?_));refine Kd6 ?_
      refine aT ?_
      (refine aT ?_);refine J6 ?_;(refine aT ?_);(refine aT ?_);(refine aT ?_);((refine aT ?_));refine bI ?_;refine Ni ?_
      (refine Ka2 ?_)
      ((refine Kc3 ?_));refine J6 ?_;((refine Ka2 ?_));((refine aE ?_;refine aA (eQ (c:=3) rf rf (by decide) (by decide)) rfl ?_));((refine aE ?_;refine aA (eD (c:=1) rf rf (by decide)) rfl ?_));refine zM ?_;refine aD ?_
      refine aU (λ c77=>?_) (λ c77=>?_)
      ·try (first|contradiction|(exfalso;omega))
       refine J2 ?_;refine aA (cR (n:=129) (k:=0) (e:=4) rf rf (by kernel_rfl) (by kernel_rfl) (by decide)) rfl ?_;refine aL (cE λ _=>zU (cs:=rL false) rf bD wn rf (by kernel_rfl) rfl rfl dI) (λ _=>?_);refine aD ?_;refine dD ?_;refine Kd7 ?_;refine bH ?_;refine Ka1 ?_
       refine aU (λ c17=>?_) (λ c17=>?_)
       ·try (first|contradiction|(exfalso;omega))
        refine Ka6 ?_;refine aA (bR rf rf dJ eC (.old (.tail .head)) (Nat.le_of_ble_eq_true rfl) (Nat.le_of_ble_eq_true rfl)) rfl ?_;refine aA (bO rf eC (.old (.tail .head)) rfl) rfl ?_;refine Kc2 ?_;refine aA (eQ (c:=0) rf rf (by decide) (by decide)) rfl ?_;refine aA (eD (c:=0) rf rf (by decide)) rfl ?_;refine Kb2 ?_
        (refine Ka2 ?_)
        refine Kb5 ?_
        (refine Ka2 ?_)
        ((refine Kc5 ?_));refine Kb3 ?_
        (refine Ka2 ?_)
        ((refine aE ?_;refine aA (cR (n:=129) (k:=0) (e:=4) rf rf (by kernel_rfl) (by kernel_rfl) (by decide)) rfl ?_));((refine Kb6 ?_));refine Kb0 ?_
        refine aU (λ c38=>?_) (λ c38=>?_)
        ·try (first|contradiction|(exfalso;omega))
         refine aX rfl ?_;refine Ka3 ?_;refine bH ?_;refine Ka1 ?_
         refine aU (λ c17=>?_) (λ c17=>?_)
         ·exact nv c17
         ·try (first|contradiction|(exfalso;omega))
          refine Ry ?_;refine bH ?_;refine gS ?_;refine aD ?_
          refine aU (λ c10=>?_) (λ c10=>?_)
          ·try (first|contradiction|(exfalso;omega))
           refine bB ?_;refine aV ?_;refine dW ?_;refine Kc6 ?_;refine cJ ?_;refine Ka1 ?_
           refine aU (λ c17=>?_) (λ c17=>?_)
           ·try (first|contradiction|(exfalso;omega))
            refine Ka6 ?_;refine aA (bR rf rf dJ eC (.old (.tail .head)) (Nat.le_of_ble_eq_true rfl) (Nat.le_of_ble_eq_true rfl)) rfl ?_;refine aA (bO rf eC (.old (.tail .head)) rfl) rfl ?_;refine Kc2 ?_;refine aA (eQ (c:=1) rf rf (by decide) (by decide)) rfl ?_;refine aA (eD (c:=1) rf rf (by decide)) rfl ?_;refine Kb2 ?_
            refine aT ?_
            refine Kb5 ?_
            refine aT ?_
            (refine aT ?_);refine Kb3 ?_
            refine aT ?_
            (refine aT ?_);(refine aT ?_);refine Kb0 ?_
            refine aU (λ c38=>?_) (λ c38=>?_)
            ·try (first|contradiction|(exfalso;omega))
             refine aX rfl ?_;refine Ka3 ?_;refine bH ?_;refine Ka1 ?_
             refine aU (λ c17=>?_) (λ c17=>?_)
             ·try (first|contradiction|(exfalso;omega))
              refine Ka6 ?_;refine aA (bR rf rf dJ eC (.old (.tail .head)) (Nat.le_of_ble_eq_true rfl) (Nat.le_of_ble_eq_true rfl)) rfl ?_;refine aA (bO rf eC (.old (.tail .head)) rfl) rfl ?_;refine Kc2 ?_;refine aA (eQ (c:=0) rf rf (by decide) (by decide)) rfl ?_;refine aA (eD (c:=0) rf rf (by decide)) rfl ?_;refine Kb2 ?_
              (refine Ka2 ?_)
              refine Kb5 ?_
              (refine Ka2 ?_)
              ((refine Kc5 ?_));refine Kb3 ?_
              (refine Ka2 ?_)
              ((refine aE ?_;refine aA (cR (n:=129) (k:=0) (e:=4) rf rf (by kernel_rfl) (by kernel_rfl) (by decide)) rfl ?_));((refine Kb6 ?_));refine Kb0 ?_
              refine aU (λ c38=>?_) (λ c38=>?_)
              ·try (first|contradiction|(exfalso;omega))
               refine aX rfl ?_;refine Ka3 ?_;refine bH ?_;refine Ka1 ?_
               refine aU (λ c17=>?_) (λ c17=>?_)
               ·try (first|contradiction|(exfalso;omega))
                refine Ka6 ?_;refine aA (bR rf rf dJ eC (.old (.tail .head)) (Nat.le_of_ble_eq_true rfl) (Nat.le_of_ble_eq_true rfl)) rfl ?_;refine aA (bO rf eC (.old (.tail .head)) rfl) rfl ?_;refine Kc2 ?_;refine aA (eQ (c:=0) rf rf (by decide) (by decide)) rfl ?_;refine aA (eD (c:=0) rf rf (by decide)) rfl ?_;refine Kb2 ?_
                (refine Ka2 ?_)
                refine Kb5 ?_
                (refine Ka2 ?_)
                ((refine Kc5 ?_));refine Kb3 ?_
                (refine Ka2 ?_)
                ((refine aE ?_;refine aA (cR (n:=129) (k:=0) (e:=4) rf rf (by kernel_rfl) (by kernel_rfl) (by decide)) rfl ?_));((refine Kb6 ?_));refine Kb0 ?_
                refine aU (λ c38=>?_) (λ c38=>?_)
                ·try (first|contradiction|(exfalso;omega))
                 refine aX rfl ?_;refine Ka3 ?_;refine bH ?_;refine Ka1 ?_
                 refine aU (λ c17=>?_) (λ c17=>?_)
                 ·exact nv c17
                 ·try (first|contradiction|(exfalso;omega))
                  refine Ry ?_;refine bH ?_;refine gS ?_;refine aD ?_
                  refine aU (λ c10=>?_) (λ c10=>?_)
                  ·exact nv c10
                  ·try (first|contradiction|(exfalso;omega))
                   refine aX rfl ?_;refine J0 ?_;refine aA (fR (aN rf bD (by kernel_rfl))) rfl ?_;refine aL (cE λ _=>aC (old:=rL false) (cs:=rL true) rf bD rf rfl (by kernel_rfl) rf dI) (λ _=>?_);refine aD ?_
                   refine nE Tryz.results58 (.cell rf bD (by kernel_rfl) .nil) (λ w hw=>?_)
                   exact⟨rfl,hw.ret (by repeat (first|exact List.Sublist.refl _|apply List.Sublist.cons)) bL.nil (List.Sublist.refl _)⟩
                ·exact nv c38
               ·exact nv c17
              ·exact nv c38
             ·exact nv c17
            ·exact nv c38
           ·exact nv c17
          ·exact nv c10
        ·exact nv c38
       ·exact nv c17
      ·exact nv c77
    ·exact nv c17
   ·exact nv c38
  ·exact nv c17
 ·exact nv c10
set_option maxRecDepth 100000 in
theorem Pv(hs:SF w D [(y.b,G4 rb y)] y.fr [] [] w):Calls Tryz.prog 58 #[pt y.b,.int .u32 3] w λ e w'=>e=.returned (.agg ⟨rL true⟩)/\SF w D [(y.b,G4 rb y)] [] [] [] w':=by
 refine enter Tryz.func58 Tryz.ntmps58 rfl rfl hs ?_
 simp only[cP]
 refine J0 ?_;refine aF (cE λ _=>cG (z:=rL false) (by kernel_rfl)) (λ x4=>?_);refine Kb4 ?_;refine aF (cE λ _=>cG (z:=rL false) (by kernel_rfl)) (λ x5=>?_);refine pT ?_;refine W0 ?_;refine cJ ?_;refine gS ?_;refine aD ?_
 refine aU (λ c10=>?_) (λ c10=>?_)
 ·try (first|contradiction|(exfalso;omega))
  refine bB ?_;refine aV ?_;refine dW ?_;refine Kc6 ?_;refine cJ ?_;refine Ka1 ?_
  refine aU (λ c17=>?_) (λ c17=>?_)
  ·try (first|contradiction|(exfalso;omega))
   refine Ka6 ?_;refine aA (bR rf rf dJ eC (.old (.tail .head)) (Nat.le_of_ble_eq_true rfl) (Nat.le_of_ble_eq_true rfl)) rfl ?_;refine aA (bO rf eC (.old (.tail .head)) rfl) rfl ?_;refine Kc2 ?_;refine aA (eQ (c:=3) rf rf (by decide) (by decide)) rfl ?_;refine aA (eD (c:=1) rf rf (by decide)) rfl ?_;refine Kb2 ?_
   refine aT ?_
   refine Kb5 ?_
   refine aT ?_
   (refine aT ?_);refine Kb3 ?_
   refine aT ?_
   (refine aT ?_);(refine aT ?_);refine Kb0 ?_
   refine aU (λ c38=>?_) (λ c38=>?_)
   ·try (first|contradiction|(exfalso;omega))
    refine aX rfl ?_;refine Ka3 ?_;refine bH ?_;refine Ka1 ?_
    refine aU (λ c17=>?_) (λ c17=>?_)
    ·try (first|contradiction|(exfalso;omega))
     refine Ka6 ?_;refine aA (bR rf rf dJ eC (.old (.tail .head)) (Nat.le_of_ble_eq_true rfl) (Nat.le_of_ble_eq_true rfl)) rfl ?_;refine aA (bO rf eC (.old (.tail .head)) rfl) rfl ?_;refine Kc2 ?_;refine aA (eQ (c:=1) rf rf (by decide) (by decide)) rfl ?_;refine aA (eD (c:=1) rf rf (by decide)) rfl ?_;refine Kb2 ?_
     refine aT ?_
     refine Kb5 ?_
     refine aT ?_
     (refine aT ?_);refine Kb3 ?_
     refine aT ?_
     (refine aT ?_);(refine aT ?_);refine Kb0 ?_
     refine aU (λ c38=>?_) (λ c38=>?_)
     ·try (first|contradiction|(exfalso;omega))
      refine aX rfl ?_;refine Ka3 ?_;refine bH ?_;refine Ka1 ?_
      refine aU (λ c17=>?_) (λ c17=>?_)
      ·try (first|contradiction|(exfalso;omega))
       refine Ka6 ?_;refine aA (bR rf rf dJ eC (.old (.tail .head)) (Nat.le_of_ble_eq_true rfl) (Nat.le_of_ble_eq_true rfl)) rfl ?_;refine aA (bO rf eC (.old (.tail .head)) rfl) rfl ?_;refine Kc2 ?_;refine aA (eQ (c:=0) rf rf (by decide) (by decide)) rfl ?_;refine aA (eD (c:=0) rf rf (by decide)) rfl ?_;refine Kb2 ?_
       (refine Ka2 ?_)
       refine Kb5 ?_
       (refine Ka2 ?_)
       ((refine Kc5 ?_));refine Kb3 ?_
       (refine Ka2 ?_)
       ((refine aE ?_;refine aA (cR (n:=129) (k:=0) (e:=4) rf rf (by kernel_rfl) (by kernel_rfl) (by decide)) rfl ?_));((refine Kb6 ?_));refine Kb0 ?_
       refine aU (λ c38=>?_) (λ c38=>?_)
       ·exact nv c38
       ·try (first|contradiction|(exfalso;omega))
        refine Vz ?_;refine aB ?_;refine aA (bR rf rf dJ eC (.old (.tail (.tail .head))) (Nat.le_of_ble_eq_true rfl) (Nat.le_of_ble_eq_true rfl)) rfl ?_;refine aA (bO rf eC (.old (.tail (.tail .head))) rfl) rfl ?_;refine Kb2 ?_
        (refine Ka2 ?_)
        ((refine Kc3 ?_));refine J6 ?_;((refine Ka2 ?_));((refine aE ?_;refine aA (bR rf rf dJ eC (.old (.tail (.tail .head))) (Nat.le_of_ble_eq_true rfl) (Nat.le_of_ble_eq_true rfl)) rfl ?_));((refine aE ?_;refine aA (bO rf eC (.old (.tail (.tail .head))) rfl) rfl ?_));refine Kd6 ?_
        refine aT ?_
        (refine aT ?_);refine J6 ?_;(refine aT ?_);(refine aT ?_);(refine aT ?_);((refine aT ?_));refine bI ?_;refine Ni ?_
        (refine Ka2 ?_)
        ((refine Kc3 ?_));refine J6 ?_;((refine Ka2 ?_));((refine aE ?_;refine aA (eQ (c:=1) rf rf (by decide) (by decide)) rfl ?_));((refine aE ?_;refine aA (eD (c:=1) rf rf (by decide)) rfl ?_));refine zM ?_;refine aD ?_
        refine aU (λ c77=>?_) (λ c77=>?_)
        ·try (first|contradiction|(exfalso;omega))
         refine J2 ?_;refine aA (cR (n:=129) (k:=0) (e:=4) rf rf (by kernel_rfl) (by kernel_rfl) (by decide)) rfl ?_;refine aL (cE λ _=>zU (cs:=rL false) rf bD wn rf (by kernel_rfl) rfl rfl dI) (λ _=>?_);refine aD ?_;refine dD ?_;refine Kd7 ?_;refine bH ?_;refine Ka1 ?_
         refine aU (λ c17=>?_) (λ c17=>?_)
         ·exact nv c17
         ·try (first|contradiction|(exfalso;omega))
          refine Ry ?_;refine bH ?_;refine gS ?_;refine aD ?_
          refine aU (λ c10=>?_) (λ c10=>?_)
          ·try (first|contradiction|(exfalso;omega))
           refine bB ?_;refine aV ?_;refine dW ?_;refine Kc6 ?_;refine cJ ?_;refine Ka1 ?_
           refine aU (λ c17=>?_) (λ c17=>?_)
           ·try (first|contradiction|(exfalso;omega))
            refine Ka6 ?_;refine aA (bR rf rf dJ eC (.old (.tail .head)) (Nat.le_of_ble_eq_true rfl) (Nat.le_of_ble_eq_true rfl)) rfl ?_;refine aA (bO rf eC (.old (.tail .head)) rfl) rfl ?_;refine Kc2 ?_;refine aA (eQ (c:=3) rf rf (by decide) (by decide)) rfl ?_;refine aA (eD (c:=1) rf rf (by decide)) rfl ?_;refine Kb2 ?_
            refine aT ?_
            refine Kb5 ?_
            refine aT ?_
            (refine aT ?_);refine Kb3 ?_
            refine aT ?_
            (refine aT ?_);(refine aT ?_);refine Kb0 ?_
            refine aU (λ c38=>?_) (λ c38=>?_)
            ·try (first|contradiction|(exfalso;omega))
             refine aX rfl ?_;refine Ka3 ?_;refine bH ?_;refine Ka1 ?_
             refine aU (λ c17=>?_) (λ c17=>?_)
             ·try (first|contradiction|(exfalso;omega))
              refine Ka6 ?_;refine aA (bR rf rf dJ eC (.old (.tail .head)) (Nat.le_of_ble_eq_true rfl) (Nat.le_of_ble_eq_true rfl)) rfl ?_;refine aA (bO rf eC (.old (.tail .head)) rfl) rfl ?_;refine Kc2 ?_;refine aA (eQ (c:=1) rf rf (by decide) (by decide)) rfl ?_;refine aA (eD (c:=1) rf rf (by decide)) rfl ?_;refine Kb2 ?_
              refine aT ?_
              refine Kb5 ?_
              refine aT ?_
              (refine aT ?_);refine Kb3 ?_
              refine aT ?_
              (refine aT ?_);(refine aT ?_);refine Kb0 ?_
              refine aU (λ c38=>?_) (λ c38=>?_)
              ·try (first|contradiction|(exfalso;omega))
               refine aX rfl ?_;refine Ka3 ?_;refine bH ?_;refine Ka1 ?_
               refine aU (λ c17=>?_) (λ c17=>?_)
               ·try (first|contradiction|(exfalso;omega))
                refine Ka6 ?_;refine aA (bR rf rf dJ eC (.old (.tail .head)) (Nat.le_of_ble_eq_true rfl) (Nat.le_of_ble_eq_true rfl)) rfl ?_;refine aA (bO rf eC (.old (.tail .head)) rfl) rfl ?_;refine Kc2 ?_;refine aA (eQ (c:=0) rf rf (by decide) (by decide)) rfl ?_;refine aA (eD (c:=0) rf rf (by decide)) rfl ?_;refine Kb2 ?_
                (refine Ka2 ?_)
                refine Kb5 ?_
                (refine Ka2 ?_)
                ((refine Kc5 ?_));refine Kb3 ?_
                (refine Ka2 ?_)
                ((refine aE ?_;refine aA (cR (n:=129) (k:=0) (e:=4) rf rf (by kernel_rfl) (by kernel_rfl) (by decide)) rfl ?_));((refine Kb6 ?_));refine Kb0 ?_
                refine aU (λ c38=>?_) (λ c38=>?_)
                ·try (first|contradiction|(exfalso;omega))
                 refine aX rfl ?_;refine Ka3 ?_;refine bH ?_;refine Ka1 ?_
                 refine aU (λ c17=>?_) (λ c17=>?_)
                 ·exact nv c17
                 ·try (first|contradiction|(exfalso;omega))
                  refine Ry ?_;refine bH ?_;refine gS ?_;refine aD ?_
                  refine aU (λ c10=>?_) (λ c10=>?_)
                  ·exact nv c10
                  ·try (first|contradiction|(exfalso;omega))
                   refine aX rfl ?_;refine J0 ?_;refine aA (fR (aN rf bD (by kernel_rfl))) rfl ?_;refine aL (cE λ _=>aC (old:=rL false) (cs:=rL true) rf bD rf rfl (by kernel_rfl) rf dI) (λ _=>?_);refine aD ?_
                   refine nE Tryz.results58 (.cell rf bD (by kernel_rfl) .nil) (λ w hw=>?_)
                   exact⟨rfl,hw.ret (by repeat (first|exact List.Sublist.refl _|apply List.Sublist.cons)) bL.nil (List.Sublist.refl _)⟩
                ·exact nv c38
               ·exact nv c17
              ·exact nv c38
             ·exact nv c17
            ·exact nv c38
           ·exact nv c17
          ·exact nv c10
        ·exact nv c77
      ·exact nv c17
     ·exact nv c38
    ·exact nv c17
   ·exact nv c38
  ·exact nv c17
 ·exact nv c10
end
end Go.Proofs.YtnilhhnfjfdokaaGreatDoor
