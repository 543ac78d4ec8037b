/- Merged. -/
import Derived.Test.YtdeecdfockjoiaaGreatDoorGLz7
set_option linter.unusedSimpArgs false
set_option linter.unusedVariables false
namespace Go.Proofs.YtdeecdfockjoiaaGreatDoor
open Go.Proofs.Tryz
open Go Go.RowKit Go.Ct
section
def FmC(ve:List MapEntry)(vc:Nat)(ps:List (ByteArray×Int)):Prop:=(ve=[]/\vc=0/\ps=[])∨∃v:Int,ve=[⟨.string gD,.int .u64 v,0⟩]/\vc=1/\ps=[(gD,v)]
section
variable{w:World}{D:List Nat}{A:Fr}{u:S2}{v:Int}{ve:List MapEntry}{vc:Nat}{ps:List (ByteArray×Int)}
theorem wj(h:FmC ve vc ps)(hs:SF w D (lB u ve vc) A [] [] w):Calls prog 122 #[pt u.b,.agg ⟨[.map (some u.bv),.bool false]⟩] w λ e w'=>∃x:Option Addr×Nat,e=.returned (.slice x.1 ps.length x.2)/\True/\SF w D (lB u ve vc) [] [(x.1,eV Ir ps)] [] w':=by
 rcases h with⟨rfl,rfl,rfl⟩|⟨v,rfl,rfl,rfl⟩;·exact fx hs
 ·exact cw hs
theorem I9(h:FmC ve vc ps)(hs:SF w D (lB u ve vc) A [] [] w):Calls prog 76 #[pt u.b,.int .i64 0] w λ e w'=>∃x:Option Addr×Nat,e=.returned (.tuple #[.slice x.1 ps.length x.2,.bool false,.bool true])/\True/\SF w D (lB u ve vc) [] [(x.1,eV Ir ps)] [] w':=by
 refine enter func76 ntmps76 rfl rfl hs ?_;simp only[cN];refine J0 ?_;refine cO (λ _=>?_);refine J8 ?_;refine qQ ?_;refine aB ?_;refine aA (iE (kH (K:=3) (E:=149) (dK:=.int .i64) (ze:=.agg ⟨[.map none,.bool false]⟩) (k:=.int .i64 0) (es:=S5 u.bv) (c:=1) (r:=some (0,.agg ⟨[.map (some u.bv),.bool false]⟩)) rf rf bI (by kernel_rfl) (by kernel_rfl) rfl (by kernel_rfl) rfl)) rfl ?_;refine Ez ?_;refine aJ (λ x7=>?_);refine aM (cC λ _=>aC (cs:=[.map (some u.bv),.bool false]) rf bI rf rfl (by kernel_rfl) rf dM) (λ _=>?_);refine Kc7 ?_;refine pU ?_;refine aX (λ c19=>?_) (λ c19=>?_);·try (contradiction)
 ·try (first|contradiction|(exfalso;omega))
  refine lL ?_;refine eO [(0,[]),(1,[]),(3,[]),(4,[]),(2,[4]),(5,[4]),(6,[]),(7,[])] ?_;refine aP ?_;refine bH ?_;refine hY ?_;refine bE (i:=2) (hq:=(cM (V:=λ x:Option Addr×Nat=>.slice x.1 ps.length x.2) (hs:=lB u ve vc) (os:=[]) (A0:=[]) (hs':=λ _=>lB u ve vc) (os':=λ _=>[]) (Fc:=λ x=>[(x.1,eV Ir ps)]) (hc:=λ w1 hw=>wj h hw))) (h:=λ x22 h22=>?_);refine sI (h:=λ _=>?_);refine Vz ?_;refine bF results76 (λ w hw=>?_);exact⟨x22,rfl,trivial,hw.ret E0a (by exact bM.all) (List.Sublist.refl _)⟩
end
def wZ(b:Bool):List Value:=.bool b::List.replicate 128 (.bool false)
section
variable{w:World}{D:List Nat}{y:U4}{rb:Nat}
set_option maxRecDepth 100000 in
theorem Y7(hs:SF w D [(y.b,Pj rb y)] y.fr [] [] w):Calls prog 75 #[pt y.b,.int .u32 0] w λ e w'=>e=.returned (.agg ⟨wZ true⟩)/\SF w D [(y.b,Pj rb y)] [] [] [] w':=by
 refine enter func75 ntmps75 rfl rfl hs ?_;simp only[cN];refine K1h ?_;intro x4 x5;refine aX (λ c10=>?_) (λ c10=>?_)
 ·try (first|contradiction|(exfalso;omega))
  refine K3y ?_;refine aX (λ c17=>?_) (λ c17=>?_)
  ·try (first|contradiction|(exfalso;omega))
   refine K0a ?_;((refine Kd1 ?_));refine K3e ?_;((refine aF ?_;refine aA (dH (n:=129) (k:=0) (e:=4) rf rf (by kernel_rfl) (by kernel_rfl) (by decide)) rfl ?_));((refine Kc5 ?_));refine Kb1 ?_;refine aX (λ c38=>?_) (λ c38=>?_);·exact nv c38
   ·try (first|contradiction|(exfalso;omega))
    refine K1a ?_;((refine Kc9 ?_));refine J6 ?_;((refine Ka2 ?_));((refine aF ?_;refine aA (cK rf rf dP eL (.old (.tail (.tail .head))) (Nat.le_of_ble_eq_true rfl) (Nat.le_of_ble_eq_true rfl)) rfl ?_));((refine aF ?_;refine aA (cG rf eL (.old (.tail (.tail .head))) rfl) rfl ?_));refine K4c ?_;((refine aZ ?_));refine bY ?_;refine Jo ?_;(refine Ka2 ?_);((refine Kc9 ?_));refine J6 ?_;((refine Ka2 ?_));((refine aF ?_;refine aA (fV (c:=7) rf rf (by decide) (by decide)) rfl ?_));((refine aF ?_;refine aA (fB (c:=1) rf rf (by decide)) rfl ?_));refine Co ?_;refine aE ?_;refine aX (λ c77=>?_) (λ c77=>?_)
    ·try (first|contradiction|(exfalso;omega))
     refine K2z ?_;refine aM (cC λ _=>Fj (cs:=wZ false) rf bI wn rf (by kernel_rfl) rfl rfl dM) (λ _=>?_);refine aE ?_;refine eC ?_;refine Kd8 ?_;refine K0x ?_;refine aX (λ c17=>?_) (λ c17=>?_)
     ·try (first|contradiction|(exfalso;omega))
      refine K0a ?_;((refine Kd1 ?_));refine K3e ?_;((refine aF ?_;refine aA (dH (n:=129) (k:=0) (e:=4) rf rf (by kernel_rfl) (by kernel_rfl) (by decide)) rfl ?_));((refine Kc5 ?_));refine Kb1 ?_;refine aX (λ c38=>?_) (λ c38=>?_)
      ·try (first|contradiction|(exfalso;omega))
       refine K0p ?_;refine aX (λ c17=>?_) (λ c17=>?_)
       ·try (first|contradiction|(exfalso;omega))
        refine K0a ?_;((refine Kd1 ?_));refine K3e ?_;((refine aF ?_;refine aA (dH (n:=129) (k:=0) (e:=4) rf rf (by kernel_rfl) (by kernel_rfl) (by decide)) rfl ?_));((refine Kc5 ?_));refine Kb1 ?_;refine aX (λ c38=>?_) (λ c38=>?_)
        ·try (first|contradiction|(exfalso;omega))
         refine K0p ?_;refine aX (λ c17=>?_) (λ c17=>?_);·exact nv c17
         ·try (first|contradiction|(exfalso;omega))
          refine K2y ?_;refine aX (λ c10=>?_) (λ c10=>?_)
          ·try (first|contradiction|(exfalso;omega))
           refine K3y ?_;refine aX (λ c17=>?_) (λ c17=>?_)
           ·try (first|contradiction|(exfalso;omega))
            refine K0a ?_;((refine Kd1 ?_));refine K3e ?_;((refine aF ?_;refine aA (dH (n:=129) (k:=0) (e:=4) rf rf (by kernel_rfl) (by kernel_rfl) (by decide)) rfl ?_));((refine Kc5 ?_));refine Kb1 ?_;refine aX (λ c38=>?_) (λ c38=>?_)
            ·try (first|contradiction|(exfalso;omega))
             refine K0p ?_;refine aX (λ c17=>?_) (λ c17=>?_)
             ·try (first|contradiction|(exfalso;omega))
              refine K0a ?_;((refine Kd1 ?_));refine K3e ?_;((refine aF ?_;refine aA (dH (n:=129) (k:=0) (e:=4) rf rf (by kernel_rfl) (by kernel_rfl) (by decide)) rfl ?_));((refine Kc5 ?_));refine Kb1 ?_;refine aX (λ c38=>?_) (λ c38=>?_)
              ·try (first|contradiction|(exfalso;omega))
               refine K0p ?_;refine aX (λ c17=>?_) (λ c17=>?_)
               ·try (first|contradiction|(exfalso;omega))
                refine K0a ?_;((refine Kd1 ?_));refine K3e ?_;((refine aF ?_;refine aA (dH (n:=129) (k:=0) (e:=4) rf rf (by kernel_rfl) (by kernel_rfl) (by decide)) rfl ?_));((refine Kc5 ?_));refine Kb1 ?_;refine aX (λ c38=>?_) (λ c38=>?_)
                ·try (first|contradiction|(exfalso;omega))
                 refine K0p ?_;refine aX (λ c17=>?_) (λ c17=>?_);·exact nv c17
                 ·try (first|contradiction|(exfalso;omega))
                  refine K2y ?_;refine aX (λ c10=>?_) (λ c10=>?_);·exact nv c10
                  ·try (first|contradiction|(exfalso;omega))
                   refine K1z ?_;refine J0 ?_;refine K0w ?_;refine aM (cC λ _=>aC (old:=wZ false) (cs:=wZ true) rf bI rf rfl (by kernel_rfl) rf dM) (λ _=>?_);refine aE ?_;refine rA results75 (.cell rf bI (by kernel_rfl) .nil) (λ w hw=>?_);exact⟨rfl,hw.ret E0a bM.nil (List.Sublist.refl _)⟩
                ·exact nv c38
               ·exact nv c17
              ·exact nv c38
             ·exact nv c17
            ·exact nv c38
           ·exact nv c17
          ·exact nv c10
        ·exact nv c38
       ·exact nv c17
      ·exact nv c38
     ·exact nv c17
    ·exact nv c77
  ·exact nv c17
 ·exact nv c10
set_option maxRecDepth 100000 in
theorem Yt(hs:SF w D [(y.b,Pj rb y)] y.fr [] [] w):Calls prog 75 #[pt y.b,.int .u32 1] w λ e w'=>e=.returned (.agg ⟨wZ true⟩)/\SF w D [(y.b,Pj rb y)] [] [] [] w':=by
 refine enter func75 ntmps75 rfl rfl hs ?_;simp only[cN];refine K1h ?_;intro x4 x5;refine aX (λ c10=>?_) (λ c10=>?_)
 ·try (first|contradiction|(exfalso;omega))
  refine K3y ?_;refine aX (λ c17=>?_) (λ c17=>?_)
  ·try (first|contradiction|(exfalso;omega))
   refine K0b ?_;refine K2j ?_;refine K0k ?_;refine aX (λ c38=>?_) (λ c38=>?_)
   ·try (first|contradiction|(exfalso;omega))
    refine K0p ?_;refine aX (λ c17=>?_) (λ c17=>?_)
    ·try (first|contradiction|(exfalso;omega))
     refine K0a ?_;((refine Kd1 ?_));refine K3e ?_;((refine aF ?_;refine aA (dH (n:=129) (k:=0) (e:=4) rf rf (by kernel_rfl) (by kernel_rfl) (by decide)) rfl ?_));((refine Kc5 ?_));refine Kb1 ?_;refine aX (λ c38=>?_) (λ c38=>?_);·exact nv c38
     ·try (first|contradiction|(exfalso;omega))
      refine K1a ?_;((refine Kc9 ?_));refine J6 ?_;((refine Ka2 ?_));((refine aF ?_;refine aA (cK rf rf dP eL (.old (.tail (.tail .head))) (Nat.le_of_ble_eq_true rfl) (Nat.le_of_ble_eq_true rfl)) rfl ?_));((refine aF ?_;refine aA (cG rf eL (.old (.tail (.tail .head))) rfl) rfl ?_));refine K4c ?_;((refine aZ ?_));refine bY ?_;refine Jo ?_;(refine Ka2 ?_);((refine Kc9 ?_));refine J6 ?_;((refine Ka2 ?_));((refine aF ?_;refine aA (fV (c:=3) rf rf (by decide) (by decide)) rfl ?_));((refine aF ?_;refine aA (fB (c:=1) rf rf (by decide)) rfl ?_));refine Co ?_;refine aE ?_;refine aX (λ c77=>?_) (λ c77=>?_)
      ·try (first|contradiction|(exfalso;omega))
       refine K2z ?_;refine aM (cC λ _=>Fj (cs:=wZ false) rf bI wn rf (by kernel_rfl) rfl rfl dM) (λ _=>?_);refine aE ?_;refine eC ?_;refine Kd8 ?_;refine K0x ?_;refine aX (λ c17=>?_) (λ c17=>?_)
       ·try (first|contradiction|(exfalso;omega))
        refine K0a ?_;((refine Kd1 ?_));refine K3e ?_;((refine aF ?_;refine aA (dH (n:=129) (k:=0) (e:=4) rf rf (by kernel_rfl) (by kernel_rfl) (by decide)) rfl ?_));((refine Kc5 ?_));refine Kb1 ?_;refine aX (λ c38=>?_) (λ c38=>?_)
        ·try (first|contradiction|(exfalso;omega))
         refine K0p ?_;refine aX (λ c17=>?_) (λ c17=>?_);·exact nv c17
         ·try (first|contradiction|(exfalso;omega))
          refine K2y ?_;refine aX (λ c10=>?_) (λ c10=>?_)
          ·try (first|contradiction|(exfalso;omega))
           refine K3y ?_;refine aX (λ c17=>?_) (λ c17=>?_)
           ·try (first|contradiction|(exfalso;omega))
            refine K0b ?_;refine K2j ?_;refine K0k ?_;refine aX (λ c38=>?_) (λ c38=>?_)
            ·try (first|contradiction|(exfalso;omega))
             refine K0p ?_;refine aX (λ c17=>?_) (λ c17=>?_)
             ·try (first|contradiction|(exfalso;omega))
              refine K0a ?_;((refine Kd1 ?_));refine K3e ?_;((refine aF ?_;refine aA (dH (n:=129) (k:=0) (e:=4) rf rf (by kernel_rfl) (by kernel_rfl) (by decide)) rfl ?_));((refine Kc5 ?_));refine Kb1 ?_;refine aX (λ c38=>?_) (λ c38=>?_)
              ·try (first|contradiction|(exfalso;omega))
               refine K0p ?_;refine aX (λ c17=>?_) (λ c17=>?_)
               ·try (first|contradiction|(exfalso;omega))
                refine K0a ?_;((refine Kd1 ?_));refine K3e ?_;((refine aF ?_;refine aA (dH (n:=129) (k:=0) (e:=4) rf rf (by kernel_rfl) (by kernel_rfl) (by decide)) rfl ?_));((refine Kc5 ?_));refine Kb1 ?_;refine aX (λ c38=>?_) (λ c38=>?_)
                ·try (first|contradiction|(exfalso;omega))
                 refine K0p ?_;refine aX (λ c17=>?_) (λ c17=>?_);·exact nv c17
                 ·try (first|contradiction|(exfalso;omega))
                  refine K2y ?_;refine aX (λ c10=>?_) (λ c10=>?_);·exact nv c10
                  ·try (first|contradiction|(exfalso;omega))
                   refine K1z ?_;refine J0 ?_;refine K0w ?_;refine aM (cC λ _=>aC (old:=wZ false) (cs:=wZ true) rf bI rf rfl (by kernel_rfl) rf dM) (λ _=>?_);refine aE ?_;refine rA results75 (.cell rf bI (by kernel_rfl) .nil) (λ w hw=>?_);exact⟨rfl,hw.ret E0a bM.nil (List.Sublist.refl _)⟩
                ·exact nv c38
               ·exact nv c17
              ·exact nv c38
             ·exact nv c17
            ·exact nv c38
           ·exact nv c17
          ·exact nv c10
        ·exact nv c38
       ·exact nv c17
      ·exact nv c77
    ·exact nv c17
   ·exact nv c38
  ·exact nv c17
 ·exact nv c10
set_option maxRecDepth 100000 in
theorem Zf(hs:SF w D [(y.b,Pj rb y)] y.fr [] [] w):Calls prog 75 #[pt y.b,.int .u32 3] w λ e w'=>e=.returned (.agg ⟨wZ true⟩)/\SF w D [(y.b,Pj rb y)] [] [] [] w':=by
 refine enter func75 ntmps75 rfl rfl hs ?_;simp only[cN];refine K1h ?_;intro x4 x5;refine aX (λ c10=>?_) (λ c10=>?_)
 ·try (first|contradiction|(exfalso;omega))
  refine K3y ?_;refine aX (λ c17=>?_) (λ c17=>?_)
  ·try (first|contradiction|(exfalso;omega))
   refine K0b ?_;refine aA (fV (c:=3) rf rf (by decide) (by decide)) rfl ?_;refine K0k ?_;refine aX (λ c38=>?_) (λ c38=>?_)
   ·try (first|contradiction|(exfalso;omega))
    refine K0p ?_;refine aX (λ c17=>?_) (λ c17=>?_)
    ·try (first|contradiction|(exfalso;omega))
     refine K0b ?_;refine K2j ?_;refine K0k ?_;refine aX (λ c38=>?_) (λ c38=>?_)
     ·try (first|contradiction|(exfalso;omega))
      refine K0p ?_;refine aX (λ c17=>?_) (λ c17=>?_)
      ·try (first|contradiction|(exfalso;omega))
       refine K0a ?_;((refine Kd1 ?_));refine K3e ?_;((refine aF ?_;refine aA (dH (n:=129) (k:=0) (e:=4) rf rf (by kernel_rfl) (by kernel_rfl) (by decide)) rfl ?_));((refine Kc5 ?_));refine Kb1 ?_;refine aX (λ c38=>?_) (λ c38=>?_);·exact nv c38
       ·try (first|contradiction|(exfalso;omega))
        refine K1a ?_;((refine Kc9 ?_));refine J6 ?_;((refine Ka2 ?_));((refine aF ?_;refine aA (cK rf rf dP eL (.old (.tail (.tail .head))) (Nat.le_of_ble_eq_true rfl) (Nat.le_of_ble_eq_true rfl)) rfl ?_));((refine aF ?_;refine aA (cG rf eL (.old (.tail (.tail .head))) rfl) rfl ?_));refine K4c ?_;((refine aZ ?_));refine bY ?_;refine Jo ?_;(refine Ka2 ?_);((refine Kc9 ?_));refine J6 ?_;((refine Ka2 ?_));((refine aF ?_;refine aA (fV (c:=1) rf rf (by decide) (by decide)) rfl ?_));((refine aF ?_;refine aA (fB (c:=1) rf rf (by decide)) rfl ?_));refine Co ?_;refine aE ?_;refine aX (λ c77=>?_) (λ c77=>?_)
        ·try (first|contradiction|(exfalso;omega))
         refine K2z ?_;refine aM (cC λ _=>Fj (cs:=wZ false) rf bI wn rf (by kernel_rfl) rfl rfl dM) (λ _=>?_);refine aE ?_;refine eC ?_;refine Kd8 ?_;refine K0x ?_;refine aX (λ c17=>?_) (λ c17=>?_);·exact nv c17
         ·try (first|contradiction|(exfalso;omega))
          refine K2y ?_;refine aX (λ c10=>?_) (λ c10=>?_)
          ·try (first|contradiction|(exfalso;omega))
           refine K3y ?_;refine aX (λ c17=>?_) (λ c17=>?_)
           ·try (first|contradiction|(exfalso;omega))
            refine K0b ?_;refine aA (fV (c:=3) rf rf (by decide) (by decide)) rfl ?_;refine K0k ?_;refine aX (λ c38=>?_) (λ c38=>?_)
            ·try (first|contradiction|(exfalso;omega))
             refine K0p ?_;refine aX (λ c17=>?_) (λ c17=>?_)
             ·try (first|contradiction|(exfalso;omega))
              refine K0b ?_;refine K2j ?_;refine K0k ?_;refine aX (λ c38=>?_) (λ c38=>?_)
              ·try (first|contradiction|(exfalso;omega))
               refine K0p ?_;refine aX (λ c17=>?_) (λ c17=>?_)
               ·try (first|contradiction|(exfalso;omega))
                refine K0a ?_;((refine Kd1 ?_));refine K3e ?_;((refine aF ?_;refine aA (dH (n:=129) (k:=0) (e:=4) rf rf (by kernel_rfl) (by kernel_rfl) (by decide)) rfl ?_));((refine Kc5 ?_));refine Kb1 ?_;refine aX (λ c38=>?_) (λ c38=>?_)
                ·try (first|contradiction|(exfalso;omega))
                 refine K0p ?_;refine aX (λ c17=>?_) (λ c17=>?_);·exact nv c17
                 ·try (first|contradiction|(exfalso;omega))
                  refine K2y ?_;refine aX (λ c10=>?_) (λ c10=>?_);·exact nv c10
                  ·try (first|contradiction|(exfalso;omega))
                   refine K1z ?_;refine J0 ?_;refine K0w ?_;refine aM (cC λ _=>aC (old:=wZ false) (cs:=wZ true) rf bI rf rfl (by kernel_rfl) rf dM) (λ _=>?_);refine aE ?_;refine rA results75 (.cell rf bI (by kernel_rfl) .nil) (λ w hw=>?_);exact⟨rfl,hw.ret E0a bM.nil (List.Sublist.refl _)⟩
                ·exact nv c38
               ·exact nv c17
              ·exact nv c38
             ·exact nv c17
            ·exact nv c38
           ·exact nv c17
          ·exact nv c10
        ·exact nv c77
      ·exact nv c17
     ·exact nv c38
    ·exact nv c17
   ·exact nv c38
  ·exact nv c17
 ·exact nv c10
end
end
section
theorem T0{i:Nat}(h:i<129):(wZ true)[i]?=some (.bool (decide (i=0))):=by
 cases i with
 | zero=>rfl
 | succ n=>show(List.replicate 128 (Value.bool false))[n]?=_;rw[List.getElem?_replicate,if_pos (by omega)];simp
abbrev aw(rb:Nat)(y:U4)(f:S2)(ve:List MapEntry)(vc:Nat):List (Nat×Obj):=[(y.b,Pj rb y),(f.b,.cells ⟨[.int .u64 63,.map (some f.bm),.map (some f.bi)]⟩ 153 (0,0)),(f.bm,cQ (S5 f.bv) 1),(f.bi,cQ [] 0),(f.bv,cQ ve vc)]
theorem lU(a:List Int)(n:Int):(a++[n]).length=a.length+1:=by simp
theorem pq(a:List Int):(a++fU gD).length=a.length+1:=by simp[Hr];rfl
section
variable{w:World}{D:List Nat}{y:U4}{rb:Nat}{u:S2}
set_option maxRecDepth 100000 in
theorem vx(hs:SF w D (aw rb y u (iV 0) (jE 0)) y.fr [] [] w):Calls prog 54 #[pt y.b,.int .u32 0,pt u.b] w λ e w'=>∃s:ByteArray,e=.returned (.string s)/\True/\SF w D (aw rb y u (iV 0) (jE 0)) [] [] [] w':=by
 refine enter func54 ntmps54 rfl rfl hs ?_;simp only[cN];refine eD ?_;refine lV ?_;refine aI (cM (φ:=λ _=>True) (V:=λ _:Unit=>.agg ⟨wZ true⟩) (hs:=[(y.b,Pj rb y)]) (os:=[]) (A0:=y.fr) (hs':=λ _=>[(y.b,Pj rb y)]) (os':=λ _=>[]) (Fc:=λ _=>[]) (hc:=λ w1 hw=>(Y7 hw).mono λ _ _ ⟨e,h⟩=>⟨(),e,trivial,h⟩)) (λ x18 h18=>?_);refine aH (cC λ _=>cW (z:=wZ false) (by kernel_rfl)) (λ x7=>?_);refine aM (cC λ _=>aC (old:=wZ false) (cs:=wZ true) rf bI rf rfl (by kernel_rfl) rf dM) (λ _=>?_);refine K0g ?_;intro z f hx;refine K0c ?_;obtain⟨hz1,hz2,hz3,hz4⟩:=hx;refine Ka1 ?_;refine aX (λ c21=>?_) (λ c21=>?_)
 ·try (first|contradiction|(exfalso;omega))
  refine K1n ?_;refine aX (λ c25=>?_) (λ c25=>?_)
  ·try (first|contradiction|(exfalso;omega))
   have hz0:z.1≠0:=by simpa using c25
   refine K1z ?_;refine Ka4 ?_;refine xS (by exact(z.1+1,z.2)) ?_ (hμ:=by omega);·exact⟨by omega,hz2,λ _=>hz3 (by omega),λ h=>absurd h (by omega)⟩
  ·try (first|contradiction|(exfalso;omega))
   have hz0:z.1=0:=by simpa using c25
   have hz5:((z.1:Nat):Int)=0:=by omega
   have hz6:=hz4 hz0;have hz7:z.2.2.1.length=0:=by rw[hz6];rfl
   refine yO ?_;refine aI (cM (V:=λ x:Option Addr×Nat=>.tuple #[.slice x.1 (List.length ([]:List (ByteArray×Int))) x.2,.bool false,.bool true]) (hs:=lB u (iV 0) (jE 0)) (os:=[]) (A0:=[]) (hs':=λ _=>lB u (iV 0) (jE 0)) (os':=λ _=>[]) (Fc:=λ x=>[(x.1,eV Ir [])]) (hc:=λ w1 hw=>by rw[hz5];exact I9 (.inl ⟨rfl,rfl,rfl⟩) hw)) (λ x29 h29=>?_);refine Ez ?_;refine kL ?_;refine cO (λ _=>?_);refine Ke9 ?_;refine aX (λ c34=>?_) (λ c34=>?_);·exact nv c34
   ·try (first|contradiction|(exfalso;omega))
    refine K0m ?_;intro x37 h37 x39;(refine aH (aW.cX (mK (ns:=x37.2.1) rf rf .head rfl (.new .head) dY (by kernel_rfl) E1i) jK) (λ x40=>?_);try (refine dQ (λ h40=>?_)));refine K0u ?_;intro x42 h42;refine aX (λ c46=>?_) (λ c46=>?_);·exact nv c46
    ·try (first|contradiction|(exfalso;omega))
     refine K1v ?_;intro x70;(refine aH (aW.cX (mK (ns:=x42.2.1) rf rf .head rfl (.new .head) dY (by kernel_rfl) E1a) jK) (λ x71=>?_);try (refine dQ (λ h71=>?_)));refine Kd8 ?_;refine xS (by exact(z.1+1,x71.1,x42.2.1++[10],x71.2)) ?_ (hμ:=by omega);·(exact⟨by omega,by show List.length (x42.2.1++[10])<=100;have e1:=lU x37.2.1 32;have e7:=lU x42.2.1 10;omega,λ _=>by show 0<List.length (x42.2.1++[10]);have e1:=lU x37.2.1 32;have e7:=lU x42.2.1 10;omega,λ h=>absurd h (Nat.succ_ne_zero _)⟩)
 ·try (first|contradiction|(exfalso;omega))
  refine K1r ?_;intro x74 w hw;exact⟨x74,rfl,trivial,hw.ret E0a bM.nil (List.nil_sublist _)⟩
set_option maxRecDepth 100000 in
theorem sf(hs:SF w D (aw rb y u (iV 1) (jE 1)) y.fr [] [] w):Calls prog 54 #[pt y.b,.int .u32 1,pt u.b] w λ e w'=>∃s:ByteArray,e=.returned (.string s)/\True/\SF w D (aw rb y u (iV 1) (jE 1)) [] [] [] w':=by
 refine enter func54 ntmps54 rfl rfl hs ?_;simp only[cN];refine eD ?_;refine lV ?_;refine aI (cM (φ:=λ _=>True) (V:=λ _:Unit=>.agg ⟨wZ true⟩) (hs:=[(y.b,Pj rb y)]) (os:=[]) (A0:=y.fr) (hs':=λ _=>[(y.b,Pj rb y)]) (os':=λ _=>[]) (Fc:=λ _=>[]) (hc:=λ w1 hw=>(Yt hw).mono λ _ _ ⟨e,h⟩=>⟨(),e,trivial,h⟩)) (λ x18 h18=>?_);refine aH (cC λ _=>cW (z:=wZ false) (by kernel_rfl)) (λ x7=>?_);refine aM (cC λ _=>aC (old:=wZ false) (cs:=wZ true) rf bI rf rfl (by kernel_rfl) rf dM) (λ _=>?_);refine K0g ?_;intro z f hx;refine K0c ?_;obtain⟨hz1,hz2,hz3,hz4⟩:=hx;refine Ka1 ?_;refine aX (λ c21=>?_) (λ c21=>?_)
 ·try (first|contradiction|(exfalso;omega))
  refine K1n ?_;refine aX (λ c25=>?_) (λ c25=>?_)
  ·try (first|contradiction|(exfalso;omega))
   have hz0:z.1≠0:=by simpa using c25
   refine K1z ?_;refine Ka4 ?_;refine xS (by exact(z.1+1,z.2)) ?_ (hμ:=by omega);·exact⟨by omega,hz2,λ _=>hz3 (by omega),λ h=>absurd h (by omega)⟩
  ·try (first|contradiction|(exfalso;omega))
   have hz0:z.1=0:=by simpa using c25
   have hz5:((z.1:Nat):Int)=0:=by omega
   have hz6:=hz4 hz0;have hz7:z.2.2.1.length=0:=by rw[hz6];rfl
   refine yO ?_;refine aI (cM (V:=λ x:Option Addr×Nat=>.tuple #[.slice x.1 (List.length ([(gD,1)]:List (ByteArray×Int))) x.2,.bool false,.bool true]) (hs:=lB u (iV 1) (jE 1)) (os:=[]) (A0:=[]) (hs':=λ _=>lB u (iV 1) (jE 1)) (os':=λ _=>[]) (Fc:=λ x=>[(x.1,eV Ir [(gD,1)])]) (hc:=λ w1 hw=>by rw[hz5];exact I9 (.inr ⟨1,rfl,rfl,rfl⟩) hw)) (λ x29 h29=>?_);refine Ez ?_;refine kL ?_;refine cO (λ _=>?_);refine Ke9 ?_;refine aX (λ c34=>?_) (λ c34=>?_);·exact nv c34
   ·try (first|contradiction|(exfalso;omega))
    refine K0m ?_;intro x37 h37 x39;(refine aH (aW.cX (mK (ns:=x37.2.1) rf rf .head rfl (.new .head) dY (by kernel_rfl) E1i) jK) (λ x40=>?_);try (refine dQ (λ h40=>?_)));refine K0u ?_;intro x42 h42;refine aX (λ c46=>?_) (λ c46=>?_)
    ·try (first|contradiction|(exfalso;omega))
     refine Ke1 ?_;refine aA (bP (f:=Ir) (l:=[(gD,1)]) (k:=0) wY (by decide) rf rf dP cY (.new (.tail .head)) (by decide) (by decide)) rfl ?_;refine aA (cZ (f:=Ir) (l:=[(gD,1)]) (k:=0) wY rf cY (.new (.tail .head)) rfl) rfl ?_;refine aH (cC λ _=>cW (z:=Ir (⟨#[]⟩,0)) (by kernel_rfl)) (λ x15=>?_);refine aM (cC λ _=>aC (old:=Ir (⟨#[]⟩,0)) (cs:=Ir (gD,1)) rf bI rf rfl (by kernel_rfl) rf dM) (λ _=>?_);refine pJ ?_;refine eO [(0,[]),(3,[]),(4,[]),(5,[]),(1,[4]),(2,[4]),(6,[]),(7,[])] ?_;refine aP ?_;refine hY ?_;refine Rk ?_;refine bR (i:=1) (hq:=E0i) (h:=λ x50=>?_);((refine bR (i:=2) (hq:=(aW.cX (mK (ns:=x42.2.1) rf rf .head rfl (.new .head) dY (by kernel_rfl) E1a) jK)) (h:=λ x51=>?_);try (refine eZ (λ h51=>?_))));refine bE (i:=6) (hq:=(cM (V:=λ x:Option Addr×List Int×Nat=>.slice x.1 x.2.1.length x.2.2) (hs:=[]) (os:=[⟨x51.1,oO (x42.2.1++[32]),x51.2,5,1⟩]) (A0:=[]) (hs':=λ _=>[]) (os':=λ x=>[⟨x.1,oO x.2.1,x.2.2,5,1⟩]) (Fc:=λ _=>[]) (hc:=λ w1 hw=>A3 (ns:=x42.2.1++[32]) (n:=1) (.inr (.inl rfl)) (by have e1:=lU x37.2.1 32;have e2:=lU x42.2.1 32;omega) hw))) (h:=λ x55 h55=>?_);refine J7 ?_;refine aL ?_;refine K2e ?_;refine bR (i:=1) (hq:=E0i) (h:=λ x57=>?_);((refine bR (i:=2) (hq:=(aW.cX (mK (ns:=x55.2.1) rf rf .head rfl (.new .head) dY (by kernel_rfl) E1k) jK)) (h:=λ x58=>?_);try (refine eZ (λ h58=>?_))));((refine bR (i:=5) (hq:=(aW.cX (Fh (ns:=x55.2.1++[32]) (s:=gD) rf rf .head rfl (by decide) dY (by kernel_rfl) E1e) jK)) (h:=λ x61=>?_);try (refine eZ (λ h61=>?_))));refine J7 ?_;refine K2e ?_;refine bR (i:=1) (hq:=E0i) (h:=λ x63=>?_);((refine bR (i:=2) (hq:=(aW.cX (mK (ns:=(x55.2.1++[32]++fU gD)) rf rf .head rfl (.new .head) dY (by kernel_rfl) E0u) jK)) (h:=λ x64=>?_);try (refine eZ (λ h64=>?_))));refine bE (i:=5) (hq:=(cM (V:=λ x:Option Addr×List Int×Nat=>.slice x.1 x.2.1.length x.2.2) (hs:=[]) (os:=[⟨x64.1,oO (x55.2.1++[32]++fU gD++[32]),x64.2,5,1⟩]) (A0:=[]) (hs':=λ _=>[]) (os':=λ x=>[⟨x.1,oO x.2.1,x.2.2,5,1⟩]) (Fc:=λ _=>[]) (hc:=λ w1 hw=>P7 (ns:=x55.2.1++[32]++fU gD++[32]) (n:=1) (.inr (.inl rfl)) E0v hw))) (h:=λ x67 h67=>?_);refine J7 ?_;refine K3z ?_;refine aX (λ c46=>?_) (λ c46=>?_);·exact nv c46
     ·try (first|contradiction|(exfalso;omega))
      refine K1v ?_;intro x70;(refine aH (aW.cX (mK (ns:=x67.2.1) rf rf .head rfl (.new .head) dY (by kernel_rfl) E0t) jK) (λ x71=>?_);try (refine dQ (λ h71=>?_)));refine Kd8 ?_;refine xS (by exact(z.1+1,x71.1,x67.2.1++[10],x71.2)) ?_ (hμ:=by omega);·(exact⟨by omega,by show List.length (x67.2.1++[10])<=100;have e1:=lU x37.2.1 32;have e2:=lU x42.2.1 32;have e3:=lU x55.2.1 32;have e4:=pq (x55.2.1++[32]);have e5:=lU (x55.2.1++[32]++fU gD) 32;have e6:=lU x67.2.1 10;omega,λ _=>by show 0<List.length (x67.2.1++[10]);have e1:=lU x37.2.1 32;have e2:=lU x42.2.1 32;have e3:=lU x55.2.1 32;have e4:=pq (x55.2.1++[32]);have e5:=lU (x55.2.1++[32]++fU gD) 32;have e6:=lU x67.2.1 10;omega,λ h=>absurd h (Nat.succ_ne_zero _)⟩)
    ·exact nv c46
 ·try (first|contradiction|(exfalso;omega))
  refine K1r ?_;intro x74 w hw;exact⟨x74,rfl,trivial,hw.ret E0a bM.nil (List.nil_sublist _)⟩
set_option maxRecDepth 100000 in
theorem sm(hs:SF w D (aw rb y u (iV 2) (jE 2)) y.fr [] [] w):Calls prog 54 #[pt y.b,.int .u32 3,pt u.b] w λ e w'=>∃s:ByteArray,e=.returned (.string s)/\True/\SF w D (aw rb y u (iV 2) (jE 2)) [] [] [] w':=by
 refine enter func54 ntmps54 rfl rfl hs ?_;simp only[cN];refine eD ?_;refine lV ?_;refine aI (cM (φ:=λ _=>True) (V:=λ _:Unit=>.agg ⟨wZ true⟩) (hs:=[(y.b,Pj rb y)]) (os:=[]) (A0:=y.fr) (hs':=λ _=>[(y.b,Pj rb y)]) (os':=λ _=>[]) (Fc:=λ _=>[]) (hc:=λ w1 hw=>(Zf hw).mono λ _ _ ⟨e,h⟩=>⟨(),e,trivial,h⟩)) (λ x18 h18=>?_);refine aH (cC λ _=>cW (z:=wZ false) (by kernel_rfl)) (λ x7=>?_);refine aM (cC λ _=>aC (old:=wZ false) (cs:=wZ true) rf bI rf rfl (by kernel_rfl) rf dM) (λ _=>?_);refine K0g ?_;intro z f hx;refine K0c ?_;obtain⟨hz1,hz2,hz3,hz4⟩:=hx;refine Ka1 ?_;refine aX (λ c21=>?_) (λ c21=>?_)
 ·try (first|contradiction|(exfalso;omega))
  refine K1n ?_;refine aX (λ c25=>?_) (λ c25=>?_)
  ·try (first|contradiction|(exfalso;omega))
   have hz0:z.1≠0:=by simpa using c25
   refine K1z ?_;refine Ka4 ?_;refine xS (by exact(z.1+1,z.2)) ?_ (hμ:=by omega);·exact⟨by omega,hz2,λ _=>hz3 (by omega),λ h=>absurd h (by omega)⟩
  ·try (first|contradiction|(exfalso;omega))
   have hz0:z.1=0:=by simpa using c25
   have hz5:((z.1:Nat):Int)=0:=by omega
   have hz6:=hz4 hz0;have hz7:z.2.2.1.length=0:=by rw[hz6];rfl
   refine yO ?_;refine aI (cM (V:=λ x:Option Addr×Nat=>.tuple #[.slice x.1 (List.length ([(gD,2)]:List (ByteArray×Int))) x.2,.bool false,.bool true]) (hs:=lB u (iV 2) (jE 2)) (os:=[]) (A0:=[]) (hs':=λ _=>lB u (iV 2) (jE 2)) (os':=λ _=>[]) (Fc:=λ x=>[(x.1,eV Ir [(gD,2)])]) (hc:=λ w1 hw=>by rw[hz5];exact I9 (.inr ⟨2,rfl,rfl,rfl⟩) hw)) (λ x29 h29=>?_);refine Ez ?_;refine kL ?_;refine cO (λ _=>?_);refine Ke9 ?_;refine aX (λ c34=>?_) (λ c34=>?_);·exact nv c34
   ·try (first|contradiction|(exfalso;omega))
    refine K0m ?_;intro x37 h37 x39;(refine aH (aW.cX (mK (ns:=x37.2.1) rf rf .head rfl (.new .head) dY (by kernel_rfl) E1i) jK) (λ x40=>?_);try (refine dQ (λ h40=>?_)));refine K0u ?_;intro x42 h42;refine aX (λ c46=>?_) (λ c46=>?_)
    ·try (first|contradiction|(exfalso;omega))
     refine Ke1 ?_;refine aA (bP (f:=Ir) (l:=[(gD,2)]) (k:=0) wY (by decide) rf rf dP cY (.new (.tail .head)) (by decide) (by decide)) rfl ?_;refine aA (cZ (f:=Ir) (l:=[(gD,2)]) (k:=0) wY rf cY (.new (.tail .head)) rfl) rfl ?_;refine aH (cC λ _=>cW (z:=Ir (⟨#[]⟩,0)) (by kernel_rfl)) (λ x15=>?_);refine aM (cC λ _=>aC (old:=Ir (⟨#[]⟩,0)) (cs:=Ir (gD,2)) rf bI rf rfl (by kernel_rfl) rf dM) (λ _=>?_);refine pJ ?_;refine eO [(0,[]),(3,[]),(4,[]),(5,[]),(1,[4]),(2,[4]),(6,[]),(7,[])] ?_;refine aP ?_;refine hY ?_;refine Rk ?_;refine bR (i:=1) (hq:=E0i) (h:=λ x50=>?_);((refine bR (i:=2) (hq:=(aW.cX (mK (ns:=x42.2.1) rf rf .head rfl (.new .head) dY (by kernel_rfl) E1a) jK)) (h:=λ x51=>?_);try (refine eZ (λ h51=>?_))));refine bE (i:=6) (hq:=(cM (V:=λ x:Option Addr×List Int×Nat=>.slice x.1 x.2.1.length x.2.2) (hs:=[]) (os:=[⟨x51.1,oO (x42.2.1++[32]),x51.2,5,1⟩]) (A0:=[]) (hs':=λ _=>[]) (os':=λ x=>[⟨x.1,oO x.2.1,x.2.2,5,1⟩]) (Fc:=λ _=>[]) (hc:=λ w1 hw=>A3 (ns:=x42.2.1++[32]) (n:=1) (.inr (.inl rfl)) (by have e1:=lU x37.2.1 32;have e2:=lU x42.2.1 32;omega) hw))) (h:=λ x55 h55=>?_);refine J7 ?_;refine aL ?_;refine K2e ?_;refine bR (i:=1) (hq:=E0i) (h:=λ x57=>?_);((refine bR (i:=2) (hq:=(aW.cX (mK (ns:=x55.2.1) rf rf .head rfl (.new .head) dY (by kernel_rfl) E1k) jK)) (h:=λ x58=>?_);try (refine eZ (λ h58=>?_))));((refine bR (i:=5) (hq:=(aW.cX (Fh (ns:=x55.2.1++[32]) (s:=gD) rf rf .head rfl (by decide) dY (by kernel_rfl) E1e) jK)) (h:=λ x61=>?_);try (refine eZ (λ h61=>?_))));refine J7 ?_;refine K2e ?_;refine bR (i:=1) (hq:=E0i) (h:=λ x63=>?_);((refine bR (i:=2) (hq:=(aW.cX (mK (ns:=(x55.2.1++[32]++fU gD)) rf rf .head rfl (.new .head) dY (by kernel_rfl) E0u) jK)) (h:=λ x64=>?_);try (refine eZ (λ h64=>?_))));refine bE (i:=5) (hq:=(cM (V:=λ x:Option Addr×List Int×Nat=>.slice x.1 x.2.1.length x.2.2) (hs:=[]) (os:=[⟨x64.1,oO (x55.2.1++[32]++fU gD++[32]),x64.2,5,1⟩]) (A0:=[]) (hs':=λ _=>[]) (os':=λ x=>[⟨x.1,oO x.2.1,x.2.2,5,1⟩]) (Fc:=λ _=>[]) (hc:=λ w1 hw=>P7 (ns:=x55.2.1++[32]++fU gD++[32]) (n:=2) (.inr (.inr rfl)) E0v hw))) (h:=λ x67 h67=>?_);refine J7 ?_;refine K3z ?_;refine aX (λ c46=>?_) (λ c46=>?_);·exact nv c46
     ·try (first|contradiction|(exfalso;omega))
      refine K1v ?_;intro x70;(refine aH (aW.cX (mK (ns:=x67.2.1) rf rf .head rfl (.new .head) dY (by kernel_rfl) E0t) jK) (λ x71=>?_);try (refine dQ (λ h71=>?_)));refine Kd8 ?_;refine xS (by exact(z.1+1,x71.1,x67.2.1++[10],x71.2)) ?_ (hμ:=by omega);·(exact⟨by omega,by show List.length (x67.2.1++[10])<=100;have e1:=lU x37.2.1 32;have e2:=lU x42.2.1 32;have e3:=lU x55.2.1 32;have e4:=pq (x55.2.1++[32]);have e5:=lU (x55.2.1++[32]++fU gD) 32;have e6:=lU x67.2.1 10;omega,λ _=>by show 0<List.length (x67.2.1++[10]);have e1:=lU x37.2.1 32;have e2:=lU x42.2.1 32;have e3:=lU x55.2.1 32;have e4:=pq (x55.2.1++[32]);have e5:=lU (x55.2.1++[32]++fU gD) 32;have e6:=lU x67.2.1 10;omega,λ h=>absurd h (Nat.succ_ne_zero _)⟩)
    ·exact nv c46
 ·try (first|contradiction|(exfalso;omega))
  refine K1r ?_;intro x74 w hw;exact⟨x74,rfl,trivial,hw.ret E0a bM.nil (List.nil_sublist _)⟩
end
end
end Go.Proofs.YtdeecdfockjoiaaGreatDoor
