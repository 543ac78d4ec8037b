/- linz.from on the history of awake28. (Printed by genlzg.py.) -/
import Derived.Test.YtnilhhnfjfdokaaGreatDoorLzf
set_option linter.unusedSimpArgs false
set_option linter.unusedVariables false
namespace Go.Ct
open Go Go.RowKit
section
variable{P:Program}{S:List (Nat×Value)}{w0:World}{M:List Nat}{H:List (Nat×Obj)}{G:World->Prop}{d:Nat}{ty t K E:TypeId}{pos:String}{af:Array Edge}{gd:Option (Nat×Bool)}{x y:Operand}{k v r ze:Value}{es:List MapEntry}{c i b n:Nat}
theorem Ax(hx:ev S x=v)(h:∀w,(Instr.field t v n).run P w=.ok r w):aG P S G ⟨some d,.field t x n,ty,pos,af,gd⟩ r:=⟨λ w _=>by simp[execOp,hx,h]⟩
theorem An(hx:ev S x=.map (some b))(hy:ev S y=k)(ha:At H i b (bW [] c))(hu:P.underlying t=some (.map K E))(hck:∀e w,(Instr.checkKey e 10000 K k).run P w=.ok () w)(hr:∀w,(Instr.findKey K k []).run P w=.ok none w)(hz:bY P E=some ze) :
  aG P S (St w0 M H) ⟨some d,.lookup t x y false,ty,pos,af,gd⟩ ze:=Hz (r:=none) hx hy ha hu hck hr hz
end
end Go.Ct
namespace Go.Proofs.YtnilhhnfjfdokaaGreatDoor
open Go Go.RowKit Go.Ct
theorem Bh{S:List (Nat×Value)}{G:World->Prop}{d:Nat}{ty t t':TypeId}{pos:String}{af:Array Edge}{gd:Option (Nat×Bool)}{x y:Operand}(a:Rs)(hx:ev S x=.agg ⟨a.cells⟩)(hy:ev S y=.agg ⟨a.cells⟩)(ht:mP Tryz.prog t [0,1,0,2,0,0] [0,1]=true):aG Tryz.prog S G ⟨some d,.binOp .neq t x y t',ty,pos,af,gd⟩ (.bool false):=by
 have h:=Eo (P:=Tryz.prog) (G:=G) (d:=d) (ty:=ty) (pos:=pos) (af:=af) (gd:=gd) (t':=t') hx hy ht
 rw[decide_eq_true (rfl:a=a)] at h
 exact h
theorem B9(s:oM)(w:World):(Instr.field 113 (.agg ⟨s.cells⟩) 2).run Tryz.prog w=.ok (.agg ⟨s.r.cells⟩) w:=by kernel_rfl
theorem K0(st:Int)(s:ByteArray):∀e w,(Instr.checkKey e 10000 126 (.agg ⟨[.int .u32 st,.string s]⟩)).run Tryz.prog w=.ok () w:=λ e w=>by kernel_rfl
theorem Ky(st:Int)(s:ByteArray):∀w,(Instr.findKey 126 (.agg ⟨[.int .u32 st,.string s]⟩) []).run Tryz.prog w=.ok none w:=λ w=>by kernel_rfl
abbrev Ew(p:Option Addr)(c:Nat)(x:Gu)(y:L0)(f:Js)(ve:List MapEntry)(vc:Nat):List (Nat×Obj):=[(y.b,G4 x.b y),(y.mf,bW [] 0),(x.b,gB p c x),(f.b,.cells ⟨[.int .u64 63,.map (some f.bm),.map (some f.bi)]⟩ 135 (0,0)),(f.bm,bW (Jt f.bv) 1),(f.bi,bW [] 0),(f.bv,bW ve vc)]
abbrev Ul(x:Gu)(y:L0)(p p0:Option Addr)(c0:Nat)(p1:Option Addr)(c1:Nat):Fr:=[(y.pm,[.int .i64 1,.int .i64 17,.int .i64 18]),(y.pr,[.int .i64 0,.int .i64 0,.int .i64 0]),(y.pk,[.int .i64 1,.int .i64 1,.int .i64 7]),(y.pe,[.int .u32 0,.int .u32 0,.int .u32 3]),(y.pc,dR gZ mJ),(x.po,x.out),(some ⟨x.q0,0,none⟩,Ww (l4 6)),(some ⟨x.q1,0,none⟩,Ww (l8 6)),(p,gQ (G5 p0 c0 p1 c1)),(p0,gG [⟨1,0,fB,1,0⟩]),(p1,gG [⟨1,0,fB,2,0⟩,⟨7,0,fB,0,0⟩])]
theorem Uf{x:Gu}{y:L0}{p p0:Option Addr}{c0:Nat}{p1:Option Addr}{c1:Nat}{F:Fr}{O:List Ow}:cA (Ul x y p p0 c0 p1 c1) F O y.fr:=cA.of λ f hf=>.inr (.inl (by
 show f∈y.fr++lT x p p0 c0 p1 c1
 exact List.mem_append_left _ hf))
theorem wI{x:Gu}{y:L0}{p p0:Option Addr}{c0:Nat}{p1:Option Addr}{c1:Nat}{F:Fr}{O:List Ow}:cA (Ul x y p p0 c0 p1 c1) F O (lT x p p0 c0 p1 c1):=cA.of λ f hf=>.inr (.inl (by
 show f∈y.fr++lT x p p0 c0 p1 c1
 exact List.mem_append_right _ hf))
def od(H:List (Nat×Obj))(w:World)(D:List Nat)(e:Ending)(w':World):Prop:=∃q:(Option Addr×Nat)×Option Addr×Nat,e=.returned (.tuple #[.slice q.1.1 3 q.1.2,.bool true])/\True/\SF w D H [] [] [⟨q.2.1,dR gZ mJ,q.2.2,45,2⟩] w'
section
variable{w:World}{D:List Nat}{x:Gu}{y:L0}{u:Js}{p p0 p1 po:Option Addr}{c c0 c1 co:Nat}
set_option maxRecDepth 100000 in
theorem Zd(hs:SF w D (Ew p c x y u (gF 3) (gL 3)) (Ul x y p p0 c0 p1 c1) [] [⟨po,dR gZ mJ,co,45,2⟩] w):Calls Tryz.prog 29 #[pt y.b,.int .u32 7,pt u.b,.slice po 3 co] w (od (Ew p c x y u (gF 3) (gL 3)) w D):=by
 refine enter Tryz.func29 Tryz.ntmps29 rfl rfl hs ?_
 simp only[cP]
 refine Wb ?_;refine aJ ?_;refine aJ ?_;refine iM [0,1,2,3,4,5,6,7,8,9,10] ?_;refine Cy ?_;refine cZ (i:=5) (hq:=(eD (c:=7) rf rf (by decide))) (h:=?_);refine mG ?_;refine rE ?_;refine dC ?_
 refine aU (λ c27=>?_) (λ c27=>?_)
 ·try (first|contradiction|(exfalso;omega))
  refine J2 ?_;refine aH (cF (V:=λ q:Option Addr×Nat=>.slice q.1 3 q.2) (Fc:=λ q=>[(q.1,dR gZ mJ)]) (hc:=λ w1 hw=>Lj (l:=mJ) (hw.cl (.own .head)) (by decide))) (λ x29 h29=>?_);refine J8 ?_
  refine bV Tryz.results29 (λ w hw=>?_)
  exact⟨((x29.1,x29.2),po,co),rfl,trivial,hw.ret (by repeat (exact List.Sublist.refl _)) bL.nil (List.Sublist.refl _)⟩
 ·exact nv c27
set_option maxRecDepth 100000 in
theorem Yb(hs:SF w D (Ew p c x y u (gF 2) (gL 2)) (Ul x y p p0 c0 p1 c1) [] [⟨po,dR gZ [(0,0),(1,0)],co,45,2⟩] w):Calls Tryz.prog 29 #[pt y.b,.int .u32 3,pt u.b,.slice po 2 co] w (od (Ew p c x y u (gF 2) (gL 2)) w D):=by
 refine enter Tryz.func29 Tryz.ntmps29 rfl rfl hs ?_
 simp only[cP]
 refine Wb ?_;refine aJ ?_;refine aJ ?_;refine iM [0,1,2,3,4,5,6,7,8,9,10] ?_;refine Cy ?_;refine cZ (i:=5) (hq:=(eD (c:=3) rf rf (by decide))) (h:=?_);refine mG ?_;refine rE ?_;refine dC ?_
 refine aU (λ c27=>?_) (λ c27=>?_)
 ·exact nv c27
 ·try (first|contradiction|(exfalso;omega))
  refine C5 ?_;refine G3 ?_;refine aH (cM (V:=λ s:ByteArray=>.string s) (hs:=Q8 x.b y u (gF 2) (gL 2)) (os:=[]) (A0:=y.fr) (hs':=λ _=>Q8 x.b y u (gF 2) (gL 2)) (os':=λ _=>[]) (Fc:=λ _=>[]) (hc:=λ w1 hw=>Xw hw) (hA:=Uf)) (λ x34 h34=>?_);refine cK ?_;refine aF (cE λ _=>cG (z:=[.int .u32 0,.string ⟨#[]⟩]) (by kernel_rfl)) (λ x10=>?_);refine aL (cE λ _=>aC (old:=[.int .u32 0,.string ⟨#[]⟩]) (cs:=[.int .u32 3,.string x34]) rf bD rf rfl (by kernel_rfl) rf dI) (λ _=>?_);refine pT ?_;refine aJ ?_;refine iM [0,1,2,3,4,5] ?_;refine mG ?_;refine aS (i:=4) (hq:=(fR (aN rf bD (by kernel_rfl)))) (h:=?_);refine aS (i:=5) (hq:=(fR (An (k:=.agg ⟨[.int .u32 3,.string x34]⟩) (K:=126) (E:=4) (c:=0) (ze:=.bool false) rf rf bD (by kernel_rfl) (K0 3 x34) (Ky 3 x34) (by kernel_rfl)))) (h:=?_);refine dC ?_
  refine aU (λ c41=>?_) (λ c41=>?_)
  ·exact nv c41
  ·try (first|contradiction|(exfalso;omega))
   refine lS ?_;refine Kc6 ?_;refine cJ ?_;refine Ka1 ?_
   refine aU (λ c48=>?_) (λ c48=>?_)
   ·try (first|contradiction|(exfalso;omega))
    refine Ka6 ?_;refine aA (aY (f:=gZ) (l:=mJ) dM (by decide) rf rf dJ (by kernel_rfl) (.old (.tail (.tail (.tail (.tail .head))))) (Nat.le_of_ble_eq_true rfl) (Nat.le_of_ble_eq_true rfl)) rfl ?_;refine aA (cH (f:=gZ) (l:=mJ) (k:=0) dM rf (by kernel_rfl) (.old (.tail (.tail (.tail (.tail .head))))) rfl) rfl ?_;refine aF (cE λ _=>cG (z:=[.int .i64 0,.int .i64 0]) (by kernel_rfl)) (λ x12=>?_);refine bX (λ _=>?_);refine aL (cE λ _=>aC rf bD rf rfl (by kernel_rfl) rf dI) (λ _=>?_);refine aD ?_;refine pF ?_;refine aA (eQ (c:=3) rf rf (by decide) (by decide)) rfl ?_;refine aA (eD (c:=1) rf rf (by decide)) rfl ?_;refine Kb2 ?_
    refine aT ?_
    (refine aT ?_);refine J6 ?_;(refine aT ?_);(refine aT ?_);(refine aT ?_);(refine aT ?_);(refine aT ?_);refine X4 ?_;refine aD ?_
    refine aU (λ c68=>?_) (λ c68=>?_)
    ·try (first|contradiction|(exfalso;omega))
     refine aX rfl ?_;refine Ka3 ?_;refine bH ?_;refine Ka1 ?_
     refine aU (λ c48=>?_) (λ c48=>?_)
     ·try (first|contradiction|(exfalso;omega))
      refine Ka6 ?_;refine aA (aY (f:=gZ) (l:=mJ) dM (by decide) rf rf dJ (by kernel_rfl) (.old (.tail (.tail (.tail (.tail .head))))) (Nat.le_of_ble_eq_true rfl) (Nat.le_of_ble_eq_true rfl)) rfl ?_;refine aA (cH (f:=gZ) (l:=mJ) (k:=1) dM rf (by kernel_rfl) (.old (.tail (.tail (.tail (.tail .head))))) rfl) rfl ?_;refine aF (cE λ _=>cG (z:=[.int .i64 0,.int .i64 0]) (by kernel_rfl)) (λ x12=>?_);refine bX (λ _=>?_);refine aL (cE λ _=>aC rf bD rf rfl (by kernel_rfl) rf dI) (λ _=>?_);refine aD ?_;refine pF ?_;refine aA (eQ (c:=1) rf rf (by decide) (by decide)) rfl ?_;refine aA (eD (c:=1) rf rf (by decide)) rfl ?_;refine Kb2 ?_
      refine aT ?_
      (refine aT ?_);refine J6 ?_;(refine aT ?_);(refine aT ?_);(refine aT ?_);(refine aT ?_);(refine aT ?_);refine X4 ?_;refine aD ?_
      refine aU (λ c68=>?_) (λ c68=>?_)
      ·try (first|contradiction|(exfalso;omega))
       refine aX rfl ?_;refine Ka3 ?_;refine bH ?_;refine Ka1 ?_
       refine aU (λ c48=>?_) (λ c48=>?_)
       ·try (first|contradiction|(exfalso;omega))
        refine Ka6 ?_;refine aA (aY (f:=gZ) (l:=mJ) dM (by decide) rf rf dJ (by kernel_rfl) (.old (.tail (.tail (.tail (.tail .head))))) (Nat.le_of_ble_eq_true rfl) (Nat.le_of_ble_eq_true rfl)) rfl ?_;refine aA (cH (f:=gZ) (l:=mJ) (k:=2) dM rf (by kernel_rfl) (.old (.tail (.tail (.tail (.tail .head))))) rfl) rfl ?_;refine aF (cE λ _=>cG (z:=[.int .i64 0,.int .i64 0]) (by kernel_rfl)) (λ x12=>?_);refine bX (λ _=>?_);refine aL (cE λ _=>aC rf bD rf rfl (by kernel_rfl) rf dI) (λ _=>?_);refine aD ?_;refine pF ?_;refine aA (eQ (c:=0) rf rf (by decide) (by decide)) rfl ?_;refine aA (eD (c:=0) rf rf (by decide)) rfl ?_;refine Kb2 ?_
        (refine Ka2 ?_)
        ((refine Kc3 ?_));refine J6 ?_;((refine Ka2 ?_));((refine aE ?_;refine aA (bR rf rf dJ eC (.old (.tail (.tail (.tail .head)))) (Nat.le_of_ble_eq_true rfl) (Nat.le_of_ble_eq_true rfl)) rfl ?_));((refine aE ?_;refine aA (bO rf eC (.old (.tail (.tail (.tail .head)))) rfl) rfl ?_));((refine Ka2 ?_));((refine aE ?_;refine aA (xH (c:=0) rf rf (by decide)) rfl ?_));refine X4 ?_;refine aD ?_
        refine aU (λ c68=>?_) (λ c68=>?_)
        ·exact nv c68
        ·try (first|contradiction|(exfalso;omega))
         refine Kd3 ?_;refine aH (Jh (V:=λ g:Js=>pt g.b) (hs:=iX u (gF 2) (gL 2)) (os:=[]) (hs':=λ _=>iX u (gF 2) (gL 2)) (Hc:=λ g=>iX g (gF 2) (gL 2)) (os':=λ _=>[]) (Oc:=λ _=>[]) (Fc:=λ _=>[]) (A0:=[]) (hc:=λ w1 hw=>Ag hw)) (λ x70 h70=>?_);refine kZ ?_
         refine oV [14,71,72,73,74,75,76,77,78,79,80,81,82] (λ k:Nat=>[(14,.pointer (some ⟨k,0,none⟩))]) (λ _=>True) (λ k=>[(k,.cells ⟨(dG true 2).cells⟩ 40 (0,0))]++iX x70 (gF 3) (gL 3)++[(x12,.cells ⟨gZ (1,1)⟩ 45 (0,0))]++Ew p c x y u (gF 2) (gL 2)) (λ _=>[]) (λ _=>[⟨po,dR gZ [(0,0),(1,0)],co,45,2⟩]) (by decide) (λ _=>by exact rfl) ?_ (λ k f hx=>?_)
         ·refine mB (.one 0 [] (.one 1 [] (.one 2 [] (.one 3 [] (.one 4 [] (.one 5 [] (.one 6 [] (.one 7 [] (.one 8 [] (.one 9 [] (.two 10 [1,2,3,4] (.two 11 [] (.one 12 [1,2,3,4,8,9] (.one 13 [] .nil)) 0 [] (.two 12 [1,2,3,4,8,9] (.one 11 [] (.one 13 [] .nil)) 0 [] .nil)) 0 [] (.two 12 [1,2,3,4,8,9] (.one 10 [1,2,3,4] (.one 11 [] (.one 13 [] .nil))) 0 [] .nil)))))))))))) ?_
          refine aR ?_;refine aS (i:=1) (hq:=(cR (n:=2) (k:=0) (e:=3) rf rf (by kernel_rfl) (by kernel_rfl) (by decide))) (h:=?_);refine cB ?_;refine aS (i:=3) (hq:=(cR (n:=2) (k:=1) (e:=3) rf rf (by kernel_rfl) (by kernel_rfl) (by decide))) (h:=?_);refine cB ?_;refine mG ?_;refine aS (i:=9) (hq:=(fR (aN rf bD (by kernel_rfl)))) (h:=?_)
          refine kS (E:=[10,12]) (by decide +kernel) ((.cons ?_ (.cons ?_ .nil)))
          ·refine qW (i:=10) (hq:=(cM (φ:=λ _=>True) (V:=λ _:Unit=>.agg ⟨(wM (1,1)).cells⟩) (hs:=[(x.b,gB p c x)]) (os:=[]) (A0:=lT x p p0 c0 p1 c1) (hs':=λ _=>[(x.b,gB p c x)]) (os':=λ _=>[]) (Fc:=λ _=>[]) (hc:=λ w1 hw=>(nM (a:=(1,1)) (.inr (.inr rfl)) hw).mono λ _ _ ⟨e,h⟩=>⟨(),e,trivial,h⟩) (hA:=wI))) (hfire:=(λ _=>by(refine eA ?_;(repeat (first|exact aM.nil|refine aM.cons (by first|exact cX (hq:=cR (n:=2) (k:=0) (e:=3) rf rf (by kernel_rfl) (by kernel_rfl) (by decide))|exact eE|exact cX (hq:=cR (n:=2) (k:=1) (e:=3) rf rf (by kernel_rfl) (by kernel_rfl) (by decide))) ?_));done))) (h:=λ x81 h81=>?_)
           refine kS (E:=[11,12]) (by decide +kernel) ((.cons ?_ (.cons ?_ .nil)))
           ·refine qW (i:=11) (hq:=(cM (φ:=λ _=>True) (V:=λ _:Unit=>.agg ⟨(dG true 2).cells⟩) (hs:=iX x70 (gF 2) (gL 2)) (os:=[]) (A0:=[]) (hs':=λ _=>iX x70 (gF 3) (gL 3)) (os':=λ _=>[]) (Fc:=λ _=>[]) (hc:=λ w1 hw=>(tS hw).mono λ _ _ ⟨e,h⟩=>⟨(),e,trivial,h⟩))) (h:=λ x82 h82=>?_)
            refine bZ (i:=12) (hq:=(cE λ _=>cG (z:=Rs.zero.cells) (by kernel_rfl))) (hfire:=(λ _=>by((repeat (first|exact aM.nil|refine aM.cons (by first|exact cX (hq:=cR (n:=2) (k:=0) (e:=3) rf rf (by kernel_rfl) (by kernel_rfl) (by decide))|exact eE|exact cX (hq:=cR (n:=2) (k:=1) (e:=3) rf rf (by kernel_rfl) (by kernel_rfl) (by decide))|exact cX (hq:=fR (aN rf bD (by kernel_rfl)))) ?_));done))) (h:=λ x14=>?_);refine fE (i:=13) (hq:=(cE λ _=>aC (old:=Rs.zero.cells) (cs:=(dG true 2).cells) rf bD rf rfl (by kernel_rfl) rf dI)) (h:=λ _=>?_);refine dC ?_
            refine nR (x14) ?_ (hw1:=λ w hw=>hw.back (hH:=by repeat (first|exact List.Sublist.refl _|refine List.Sublist.cons_cons _ ?_|refine List.Sublist.cons _ ?_)) (hF:=by exact bL.nil) (hO:=by exact List.Sublist.refl _))
            ·trivial
           ·refine nD (i:=12) (hq:=(cE λ _=>cG (z:=Rs.zero.cells) (by kernel_rfl))) (hfire:=(λ _=>by((repeat (first|exact aM.nil|refine aM.cons (by first|exact cX (hq:=cR (n:=2) (k:=0) (e:=3) rf rf (by kernel_rfl) (by kernel_rfl) (by decide))|exact eE|exact cX (hq:=cR (n:=2) (k:=1) (e:=3) rf rf (by kernel_rfl) (by kernel_rfl) (by decide))|exact cX (hq:=fR (aN rf bD (by kernel_rfl)))) ?_));done))) (h:=λ x14=>?_)
            refine bS (i:=11) (hq:=(cM (φ:=λ _=>True) (V:=λ _:Unit=>.agg ⟨(dG true 2).cells⟩) (hs:=iX x70 (gF 2) (gL 2)) (os:=[]) (A0:=[]) (hs':=λ _=>iX x70 (gF 3) (gL 3)) (os':=λ _=>[]) (Fc:=λ _=>[]) (hc:=λ w1 hw=>(tS hw).mono λ _ _ ⟨e,h⟩=>⟨(),e,trivial,h⟩))) (h:=λ x82 h82=>?_);refine fE (i:=13) (hq:=(cE λ _=>aC (old:=Rs.zero.cells) (cs:=(dG true 2).cells) rf bD rf rfl (by kernel_rfl) rf dI)) (h:=λ _=>?_);refine dC ?_
            refine nR (x14) ?_ (hw1:=λ w hw=>hw.back (hH:=by repeat (first|exact List.Sublist.refl _|refine List.Sublist.cons_cons _ ?_|refine List.Sublist.cons _ ?_)) (hF:=by exact bL.nil) (hO:=by exact List.Sublist.refl _))
            ·trivial
          ·refine nD (i:=12) (hq:=(cE λ _=>cG (z:=Rs.zero.cells) (by kernel_rfl))) (hfire:=(λ _=>by((repeat (first|exact aM.nil|refine aM.cons (by first|exact cX (hq:=cR (n:=2) (k:=0) (e:=3) rf rf (by kernel_rfl) (by kernel_rfl) (by decide))|exact eE|exact cX (hq:=cR (n:=2) (k:=1) (e:=3) rf rf (by kernel_rfl) (by kernel_rfl) (by decide))|exact cX (hq:=fR (aN rf bD (by kernel_rfl)))) ?_));done))) (h:=λ x14=>?_)
           refine bS (i:=10) (hq:=(cM (φ:=λ _=>True) (V:=λ _:Unit=>.agg ⟨(wM (1,1)).cells⟩) (hs:=[(x.b,gB p c x)]) (os:=[]) (A0:=lT x p p0 c0 p1 c1) (hs':=λ _=>[(x.b,gB p c x)]) (os':=λ _=>[]) (Fc:=λ _=>[]) (hc:=λ w1 hw=>(nM (a:=(1,1)) (.inr (.inr rfl)) hw).mono λ _ _ ⟨e,h⟩=>⟨(),e,trivial,h⟩) (hA:=wI))) (hfire:=(λ _=>by(refine eA ?_;(repeat (first|exact aM.nil|refine aM.cons (by first|exact cX (hq:=cR (n:=2) (k:=0) (e:=3) rf rf (by kernel_rfl) (by kernel_rfl) (by decide))|exact eE|exact cX (hq:=cR (n:=2) (k:=1) (e:=3) rf rf (by kernel_rfl) (by kernel_rfl) (by decide))) ?_));done))) (h:=λ x81 h81=>?_);refine bS (i:=11) (hq:=(cM (φ:=λ _=>True) (V:=λ _:Unit=>.agg ⟨(dG true 2).cells⟩) (hs:=iX x70 (gF 2) (gL 2)) (os:=[]) (A0:=[]) (hs':=λ _=>iX x70 (gF 3) (gL 3)) (os':=λ _=>[]) (Fc:=λ _=>[]) (hc:=λ w1 hw=>(tS hw).mono λ _ _ ⟨e,h⟩=>⟨(),e,trivial,h⟩))) (h:=λ x82 h82=>?_);refine fE (i:=13) (hq:=(cE λ _=>aC (old:=Rs.zero.cells) (cs:=(dG true 2).cells) rf bD rf rfl (by kernel_rfl) rf dI)) (h:=λ _=>?_);refine dC ?_
           refine nR (x14) ?_ (hw1:=λ w hw=>hw.back (hH:=by repeat (first|exact List.Sublist.refl _|refine List.Sublist.cons_cons _ ?_|refine List.Sublist.cons _ ?_)) (hF:=by exact bL.nil) (hO:=by exact List.Sublist.refl _))
           ·trivial
         dsimp only[lP,List.map,List.cons_append,List.nil_append]
         refine aJ ?_;refine aJ ?_;refine eG [(0,[]),(1,[]),(2,[]),(3,[]),(4,[]),(5,[]),(6,[]),(7,[]),(8,[]),(9,[]),(10,[]),(11,[]),(12,[]),(13,[]),(14,[]),(15,[9]),(16,[]),(17,[]),(18,[])] ?_;refine mG ?_;refine aR ?_;refine cZ (i:=5) (hq:=(eQ (c:=1) rf rf (by decide) (by decide))) (h:=?_);refine cZ (i:=6) (hq:=(eD (c:=1) rf rf (by decide))) (h:=?_);refine rE ?_;refine aR ?_
         (refine aS (i:=9) (hq:=(fR (aN rf bD (by kernel_rfl)))) (h:=?_))
         ((refine aR ?_));refine pj ?_;((refine aS (i:=14) (hq:=(fR (aN rf bD (by kernel_rfl)))) (h:=?_)));((refine bS (i:=15) (hq:=(cM (φ:=λ _=>True) (V:=λ _:Unit=>.agg ⟨(wL (1,1)).cells⟩) (hs:=[(x.b,gB p c x)]) (os:=[]) (A0:=lT x p p0 c0 p1 c1) (hs':=λ _=>[(x.b,gB p c x)]) (os':=λ _=>[]) (Fc:=λ _=>[]) (hc:=λ w1 hw=>(dS (a:=(1,1)) (.inr (.inr rfl)) hw).mono λ _ _ ⟨e,h⟩=>⟨(),e,trivial,h⟩) (hA:=wI))) (hfire:=(λ _=>by(refine eA ?_;refine aM.cons (by exact cX (hq:=fR (aN rf bD (by kernel_rfl)))) ?_;exact aM.nil))) (h:=λ x98 h98=>?_)));((refine cZ (i:=16) (hq:=(Ax (v:=.agg ⟨(wL (1,1)).cells⟩) rf (B9 _))) (h:=?_)));((refine cZ (i:=17) (hq:=(Bh (dG true 2) rf rf (by kernel_rfl))) (h:=?_)));refine Kd4 ?_
         refine aU (λ c101=>?_) (λ c101=>?_)
         ·exact nv c101
         ·try (first|contradiction|(exfalso;omega))
          refine lS ?_;refine iM [0,1,2,3,4,5,6,7,8,9,10,11,12,13,14,15] ?_;refine Hj ?_;refine aR ?_;refine cZ (i:=3) (hq:=(qL (c:=4) rf rf (by decide) (by decide))) (h:=?_);refine cZ (i:=4) (hq:=(yW (c:=7) rf rf (by decide))) (h:=?_);refine Hj ?_;refine aS (i:=7) (hq:=(fR (aN rf bD (by kernel_rfl)))) (h:=?_);refine bZ (i:=8) (hq:=(by exact gD λ _=>aP fO mH rf rf rf rf (by simp only[dQ,cI,List.cons_append,List.nil_append,List.append_nil];exact rfl))) (h:=λ x111=>?_);((refine bZ (i:=9) (hq:=(aQ.cL (cQ (sz:=2) (cs:=dR gZ [(0,0),(1,0)]) (m:=2) rf rf .head rfl (.new .head) rfl rfl fO rfl (by decide) dJ (by decide)) hP)) (h:=λ x112=>?_);try (refine eR (λ h112=>?_))));refine bS (i:=10) (hq:=(cM (V:=λ q:(Option Addr×Nat)×Option Addr×Nat=>.tuple #[.slice q.1.1 3 q.1.2,.bool true]) (hs:=Ew p c x y x70 (gF 3) (gL 3)) (os:=[⟨x112.1,dR gZ (mJ),x112.2,45,2⟩]) (A0:=Ul x y p p0 c0 p1 c1) (hs':=λ _=>Ew p c x y x70 (gF 3) (gL 3)) (os':=λ q=>[⟨q.2.1,dR gZ mJ,q.2.2,45,2⟩]) (Fc:=λ _=>[]) (hc:=λ w1 hw=>Zd hw))) (h:=λ x113 h113=>?_);refine aR ?_;refine eP ?_;refine eP ?_;refine dg ?_;refine J2 ?_;refine aD ?_
          refine aU (λ c116=>?_) (λ c116=>?_)
          ·try (first|contradiction|(exfalso;omega))
           refine J2 ?_;refine J8 ?_
           refine bV Tryz.results29 (λ w hw=>?_)
           exact⟨x113,rfl,trivial,hw.ret (by repeat (first|exact List.Sublist.refl _|apply List.Sublist.cons)) bL.nil (List.Sublist.refl _)⟩
          ·exact nv c116
       ·exact nv c48
      ·exact nv c68
     ·exact nv c48
    ·exact nv c68
   ·exact nv c48
set_option maxRecDepth 100000 in
theorem Yy(hs:SF w D (Ew p c x y u (gF 1) (gL 1)) (Ul x y p p0 c0 p1 c1) [] [⟨po,dR gZ [(0,0)],co,45,2⟩] w):Calls Tryz.prog 29 #[pt y.b,.int .u32 1,pt u.b,.slice po 1 co] w (od (Ew p c x y u (gF 1) (gL 1)) w D):=by
 refine enter Tryz.func29 Tryz.ntmps29 rfl rfl hs ?_
 simp only[cP]
 refine Wb ?_;refine aJ ?_;refine aJ ?_;refine iM [0,1,2,3,4,5,6,7,8,9,10] ?_;refine Cy ?_;refine cZ (i:=5) (hq:=(eD (c:=1) rf rf (by decide))) (h:=?_);refine mG ?_;refine rE ?_;refine dC ?_
 refine aU (λ c27=>?_) (λ c27=>?_)
 ·exact nv c27
 ·try (first|contradiction|(exfalso;omega))
  refine C5 ?_;refine G3 ?_;refine aH (cM (V:=λ s:ByteArray=>.string s) (hs:=Q8 x.b y u (gF 1) (gL 1)) (os:=[]) (A0:=y.fr) (hs':=λ _=>Q8 x.b y u (gF 1) (gL 1)) (os':=λ _=>[]) (Fc:=λ _=>[]) (hc:=λ w1 hw=>ai hw) (hA:=Uf)) (λ x34 h34=>?_);refine cK ?_;refine aF (cE λ _=>cG (z:=[.int .u32 0,.string ⟨#[]⟩]) (by kernel_rfl)) (λ x10=>?_);refine aL (cE λ _=>aC (old:=[.int .u32 0,.string ⟨#[]⟩]) (cs:=[.int .u32 1,.string x34]) rf bD rf rfl (by kernel_rfl) rf dI) (λ _=>?_);refine pT ?_;refine aJ ?_;refine iM [0,1,2,3,4,5] ?_;refine mG ?_;refine aS (i:=4) (hq:=(fR (aN rf bD (by kernel_rfl)))) (h:=?_);refine aS (i:=5) (hq:=(fR (An (k:=.agg ⟨[.int .u32 1,.string x34]⟩) (K:=126) (E:=4) (c:=0) (ze:=.bool false) rf rf bD (by kernel_rfl) (K0 1 x34) (Ky 1 x34) (by kernel_rfl)))) (h:=?_);refine dC ?_
  refine aU (λ c41=>?_) (λ c41=>?_)
  ·exact nv c41
  ·try (first|contradiction|(exfalso;omega))
   refine lS ?_;refine Kc6 ?_;refine cJ ?_;refine Ka1 ?_
   refine aU (λ c48=>?_) (λ c48=>?_)
   ·try (first|contradiction|(exfalso;omega))
    refine Ka6 ?_;refine aA (aY (f:=gZ) (l:=mJ) dM (by decide) rf rf dJ (by kernel_rfl) (.old (.tail (.tail (.tail (.tail .head))))) (Nat.le_of_ble_eq_true rfl) (Nat.le_of_ble_eq_true rfl)) rfl ?_;refine aA (cH (f:=gZ) (l:=mJ) (k:=0) dM rf (by kernel_rfl) (.old (.tail (.tail (.tail (.tail .head))))) rfl) rfl ?_;refine aF (cE λ _=>cG (z:=[.int .i64 0,.int .i64 0]) (by kernel_rfl)) (λ x12=>?_);refine bX (λ _=>?_);refine aL (cE λ _=>aC rf bD rf rfl (by kernel_rfl) rf dI) (λ _=>?_);refine aD ?_;refine pF ?_;refine aA (eQ (c:=1) rf rf (by decide) (by decide)) rfl ?_;refine aA (eD (c:=1) rf rf (by decide)) rfl ?_;refine Kb2 ?_
    refine aT ?_
    (refine aT ?_);refine J6 ?_;(refine aT ?_);(refine aT ?_);(refine aT ?_);(refine aT ?_);(refine aT ?_);refine X4 ?_;refine aD ?_
    refine aU (λ c68=>?_) (λ c68=>?_)
    ·try (first|contradiction|(exfalso;omega))
     refine aX rfl ?_;refine Ka3 ?_;refine bH ?_;refine Ka1 ?_
     refine aU (λ c48=>?_) (λ c48=>?_)
     ·try (first|contradiction|(exfalso;omega))
      refine Ka6 ?_;refine aA (aY (f:=gZ) (l:=mJ) dM (by decide) rf rf dJ (by kernel_rfl) (.old (.tail (.tail (.tail (.tail .head))))) (Nat.le_of_ble_eq_true rfl) (Nat.le_of_ble_eq_true rfl)) rfl ?_;refine aA (cH (f:=gZ) (l:=mJ) (k:=1) dM rf (by kernel_rfl) (.old (.tail (.tail (.tail (.tail .head))))) rfl) rfl ?_;refine aF (cE λ _=>cG (z:=[.int .i64 0,.int .i64 0]) (by kernel_rfl)) (λ x12=>?_);refine bX (λ _=>?_);refine aL (cE λ _=>aC rf bD rf rfl (by kernel_rfl) rf dI) (λ _=>?_);refine aD ?_;refine pF ?_;refine aA (eQ (c:=0) rf rf (by decide) (by decide)) rfl ?_;refine aA (eD (c:=0) rf rf (by decide)) rfl ?_;refine Kb2 ?_
      (refine Ka2 ?_)
      ((refine Kc3 ?_));refine J6 ?_;((refine Ka2 ?_));((refine aE ?_;refine aA (bR rf rf dJ eC (.old (.tail (.tail (.tail .head)))) (Nat.le_of_ble_eq_true rfl) (Nat.le_of_ble_eq_true rfl)) rfl ?_));((refine aE ?_;refine aA (bO rf eC (.old (.tail (.tail (.tail .head)))) rfl) rfl ?_));((refine Ka2 ?_));((refine aE ?_;refine aA (xH (c:=0) rf rf (by decide)) rfl ?_));refine X4 ?_;refine aD ?_
      refine aU (λ c68=>?_) (λ c68=>?_)
      ·exact nv c68
      ·try (first|contradiction|(exfalso;omega))
       refine Kd3 ?_;refine aH (Jh (V:=λ g:Js=>pt g.b) (hs:=iX u (gF 1) (gL 1)) (os:=[]) (hs':=λ _=>iX u (gF 1) (gL 1)) (Hc:=λ g=>iX g (gF 1) (gL 1)) (os':=λ _=>[]) (Oc:=λ _=>[]) (Fc:=λ _=>[]) (A0:=[]) (hc:=λ w1 hw=>Ag hw)) (λ x70 h70=>?_);refine kZ ?_
       refine oV [14,71,72,73,74,75,76,77,78,79,80,81,82] (λ k:Nat=>[(14,.pointer (some ⟨k,0,none⟩))]) (λ _=>True) (λ k=>[(k,.cells ⟨(fL true 1).cells⟩ 40 (0,0))]++iX x70 (gF 2) (gL 2)++[(x12,.cells ⟨gZ (1,0)⟩ 45 (0,0))]++Ew p c x y u (gF 1) (gL 1)) (λ _=>[]) (λ _=>[⟨po,dR gZ [(0,0)],co,45,2⟩]) (by decide) (λ _=>by exact rfl) ?_ (λ k f hx=>?_)
       ·refine mB (.one 0 [] (.one 1 [] (.one 2 [] (.one 3 [] (.one 4 [] (.one 5 [] (.one 6 [] (.one 7 [] (.one 8 [] (.one 9 [] (.two 10 [1,2,3,4] (.two 11 [] (.one 12 [1,2,3,4,8,9] (.one 13 [] .nil)) 0 [] (.two 12 [1,2,3,4,8,9] (.one 11 [] (.one 13 [] .nil)) 0 [] .nil)) 0 [] (.two 12 [1,2,3,4,8,9] (.one 10 [1,2,3,4] (.one 11 [] (.one 13 [] .nil))) 0 [] .nil)))))))))))) ?_
        refine aR ?_;refine aS (i:=1) (hq:=(cR (n:=2) (k:=0) (e:=3) rf rf (by kernel_rfl) (by kernel_rfl) (by decide))) (h:=?_);refine cB ?_;refine aS (i:=3) (hq:=(cR (n:=2) (k:=1) (e:=3) rf rf (by kernel_rfl) (by kernel_rfl) (by decide))) (h:=?_);refine cB ?_;refine mG ?_;refine aS (i:=9) (hq:=(fR (aN rf bD (by kernel_rfl)))) (h:=?_)
        refine kS (E:=[10,12]) (by decide +kernel) ((.cons ?_ (.cons ?_ .nil)))
        ·refine qW (i:=10) (hq:=(cM (φ:=λ _=>True) (V:=λ _:Unit=>.agg ⟨(wM (1,0)).cells⟩) (hs:=[(x.b,gB p c x)]) (os:=[]) (A0:=lT x p p0 c0 p1 c1) (hs':=λ _=>[(x.b,gB p c x)]) (os':=λ _=>[]) (Fc:=λ _=>[]) (hc:=λ w1 hw=>(nM (a:=(1,0)) (.inr (.inl rfl)) hw).mono λ _ _ ⟨e,h⟩=>⟨(),e,trivial,h⟩) (hA:=wI))) (hfire:=(λ _=>by(refine eA ?_;(repeat (first|exact aM.nil|refine aM.cons (by first|exact cX (hq:=cR (n:=2) (k:=0) (e:=3) rf rf (by kernel_rfl) (by kernel_rfl) (by decide))|exact eE|exact cX (hq:=cR (n:=2) (k:=1) (e:=3) rf rf (by kernel_rfl) (by kernel_rfl) (by decide))) ?_));done))) (h:=λ x81 h81=>?_)
         refine kS (E:=[11,12]) (by decide +kernel) ((.cons ?_ (.cons ?_ .nil)))
         ·refine qW (i:=11) (hq:=(cM (φ:=λ _=>True) (V:=λ _:Unit=>.agg ⟨(fL true 1).cells⟩) (hs:=iX x70 (gF 1) (gL 1)) (os:=[]) (A0:=[]) (hs':=λ _=>iX x70 (gF 2) (gL 2)) (os':=λ _=>[]) (Fc:=λ _=>[]) (hc:=λ w1 hw=>(tR hw).mono λ _ _ ⟨e,h⟩=>⟨(),e,trivial,h⟩))) (h:=λ x82 h82=>?_)
          refine bZ (i:=12) (hq:=(cE λ _=>cG (z:=Rs.zero.cells) (by kernel_rfl))) (hfire:=(λ _=>by((repeat (first|exact aM.nil|refine aM.cons (by first|exact cX (hq:=cR (n:=2) (k:=0) (e:=3) rf rf (by kernel_rfl) (by kernel_rfl) (by decide))|exact eE|exact cX (hq:=cR (n:=2) (k:=1) (e:=3) rf rf (by kernel_rfl) (by kernel_rfl) (by decide))|exact cX (hq:=fR (aN rf bD (by kernel_rfl)))) ?_));done))) (h:=λ x14=>?_);refine fE (i:=13) (hq:=(cE λ _=>aC (old:=Rs.zero.cells) (cs:=(fL true 1).cells) rf bD rf rfl (by kernel_rfl) rf dI)) (h:=λ _=>?_);refine dC ?_
          refine nR (x14) ?_ (hw1:=λ w hw=>hw.back (hH:=by repeat (first|exact List.Sublist.refl _|refine List.Sublist.cons_cons _ ?_|refine List.Sublist.cons _ ?_)) (hF:=by exact bL.nil) (hO:=by exact List.Sublist.refl _))
          ·trivial
         ·refine nD (i:=12) (hq:=(cE λ _=>cG (z:=Rs.zero.cells) (by kernel_rfl))) (hfire:=(λ _=>by((repeat (first|exact aM.nil|refine aM.cons (by first|exact cX (hq:=cR (n:=2) (k:=0) (e:=3) rf rf (by kernel_rfl) (by kernel_rfl) (by decide))|exact eE|exact cX (hq:=cR (n:=2) (k:=1) (e:=3) rf rf (by kernel_rfl) (by kernel_rfl) (by decide))|exact cX (hq:=fR (aN rf bD (by kernel_rfl)))) ?_));done))) (h:=λ x14=>?_)
          refine bS (i:=11) (hq:=(cM (φ:=λ _=>True) (V:=λ _:Unit=>.agg ⟨(fL true 1).cells⟩) (hs:=iX x70 (gF 1) (gL 1)) (os:=[]) (A0:=[]) (hs':=λ _=>iX x70 (gF 2) (gL 2)) (os':=λ _=>[]) (Fc:=λ _=>[]) (hc:=λ w1 hw=>(tR hw).mono λ _ _ ⟨e,h⟩=>⟨(),e,trivial,h⟩))) (h:=λ x82 h82=>?_);refine fE (i:=13) (hq:=(cE λ _=>aC (old:=Rs.zero.cells) (cs:=(fL true 1).cells) rf bD rf rfl (by kernel_rfl) rf dI)) (h:=λ _=>?_);refine dC ?_
          refine nR (x14) ?_ (hw1:=λ w hw=>hw.back (hH:=by repeat (first|exact List.Sublist.refl _|refine List.Sublist.cons_cons _ ?_|refine List.Sublist.cons _ ?_)) (hF:=by exact bL.nil) (hO:=by exact List.Sublist.refl _))
          ·trivial
        ·refine nD (i:=12) (hq:=(cE λ _=>cG (z:=Rs.zero.cells) (by kernel_rfl))) (hfire:=(λ _=>by((repeat (first|exact aM.nil|refine aM.cons (by first|exact cX (hq:=cR (n:=2) (k:=0) (e:=3) rf rf (by kernel_rfl) (by kernel_rfl) (by decide))|exact eE|exact cX (hq:=cR (n:=2) (k:=1) (e:=3) rf rf (by kernel_rfl) (by kernel_rfl) (by decide))|exact cX (hq:=fR (aN rf bD (by kernel_rfl)))) ?_));done))) (h:=λ x14=>?_)
         refine bS (i:=10) (hq:=(cM (φ:=λ _=>True) (V:=λ _:Unit=>.agg ⟨(wM (1,0)).cells⟩) (hs:=[(x.b,gB p c x)]) (os:=[]) (A0:=lT x p p0 c0 p1 c1) (hs':=λ _=>[(x.b,gB p c x)]) (os':=λ _=>[]) (Fc:=λ _=>[]) (hc:=λ w1 hw=>(nM (a:=(1,0)) (.inr (.inl rfl)) hw).mono λ _ _ ⟨e,h⟩=>⟨(),e,trivial,h⟩) (hA:=wI))) (hfire:=(λ _=>by(refine eA ?_;(repeat (first|exact aM.nil|refine aM.cons (by first|exact cX (hq:=cR (n:=2) (k:=0) (e:=3) rf rf (by kernel_rfl) (by kernel_rfl) (by decide))|exact eE|exact cX (hq:=cR (n:=2) (k:=1) (e:=3) rf rf (by kernel_rfl) (by kernel_rfl) (by decide))) ?_));done))) (h:=λ x81 h81=>?_);refine bS (i:=11) (hq:=(cM (φ:=λ _=>True) (V:=λ _:Unit=>.agg ⟨(fL true 1).cells⟩) (hs:=iX x70 (gF 1) (gL 1)) (os:=[]) (A0:=[]) (hs':=λ _=>iX x70 (gF 2) (gL 2)) (os':=λ _=>[]) (Fc:=λ _=>[]) (hc:=λ w1 hw=>(tR hw).mono λ _ _ ⟨e,h⟩=>⟨(),e,trivial,h⟩))) (h:=λ x82 h82=>?_);refine fE (i:=13) (hq:=(cE λ _=>aC (old:=Rs.zero.cells) (cs:=(fL true 1).cells) rf bD rf rfl (by kernel_rfl) rf dI)) (h:=λ _=>?_);refine dC ?_
         refine nR (x14) ?_ (hw1:=λ w hw=>hw.back (hH:=by repeat (first|exact List.Sublist.refl _|refine List.Sublist.cons_cons _ ?_|refine List.Sublist.cons _ ?_)) (hF:=by exact bL.nil) (hO:=by exact List.Sublist.refl _))
         ·trivial
       dsimp only[lP,List.map,List.cons_append,List.nil_append]
       refine aJ ?_;refine aJ ?_;refine eG [(0,[]),(1,[]),(2,[]),(3,[]),(4,[]),(5,[]),(6,[]),(7,[]),(8,[]),(9,[]),(10,[]),(11,[]),(12,[]),(13,[]),(14,[]),(15,[9]),(16,[]),(17,[]),(18,[])] ?_;refine mG ?_;refine aR ?_;refine cZ (i:=5) (hq:=(eQ (c:=3) rf rf (by decide) (by decide))) (h:=?_);refine cZ (i:=6) (hq:=(eD (c:=1) rf rf (by decide))) (h:=?_);refine rE ?_;refine aR ?_
       (refine aS (i:=9) (hq:=(fR (aN rf bD (by kernel_rfl)))) (h:=?_))
       ((refine aR ?_));refine pj ?_;((refine aS (i:=14) (hq:=(fR (aN rf bD (by kernel_rfl)))) (h:=?_)));((refine bS (i:=15) (hq:=(cM (φ:=λ _=>True) (V:=λ _:Unit=>.agg ⟨(wL (1,0)).cells⟩) (hs:=[(x.b,gB p c x)]) (os:=[]) (A0:=lT x p p0 c0 p1 c1) (hs':=λ _=>[(x.b,gB p c x)]) (os':=λ _=>[]) (Fc:=λ _=>[]) (hc:=λ w1 hw=>(dS (a:=(1,0)) (.inr (.inl rfl)) hw).mono λ _ _ ⟨e,h⟩=>⟨(),e,trivial,h⟩) (hA:=wI))) (hfire:=(λ _=>by(refine eA ?_;refine aM.cons (by exact cX (hq:=fR (aN rf bD (by kernel_rfl)))) ?_;exact aM.nil))) (h:=λ x98 h98=>?_)));((refine cZ (i:=16) (hq:=(Ax (v:=.agg ⟨(wL (1,0)).cells⟩) rf (B9 _))) (h:=?_)));((refine cZ (i:=17) (hq:=(Bh (fL true 1) rf rf (by kernel_rfl))) (h:=?_)));refine Kd4 ?_
       refine aU (λ c101=>?_) (λ c101=>?_)
       ·exact nv c101
       ·try (first|contradiction|(exfalso;omega))
        refine lS ?_;refine iM [0,1,2,3,4,5,6,7,8,9,10,11,12,13,14,15] ?_;refine Hj ?_;refine aR ?_;refine cZ (i:=3) (hq:=(qL (c:=2) rf rf (by decide) (by decide))) (h:=?_);refine cZ (i:=4) (hq:=(yW (c:=3) rf rf (by decide))) (h:=?_);refine Hj ?_;refine aS (i:=7) (hq:=(fR (aN rf bD (by kernel_rfl)))) (h:=?_);refine bZ (i:=8) (hq:=(by exact gD λ _=>aP fO mH rf rf rf rf (by simp only[dQ,cI,List.cons_append,List.nil_append,List.append_nil];exact rfl))) (h:=λ x111=>?_);((refine bZ (i:=9) (hq:=(aQ.cL (cQ (sz:=2) (cs:=dR gZ [(0,0)]) (m:=1) rf rf .head rfl (.new .head) rfl rfl fO rfl (by decide) dJ (by decide)) hP)) (h:=λ x112=>?_);try (refine eR (λ h112=>?_))));refine bS (i:=10) (hq:=(cM (V:=λ q:(Option Addr×Nat)×Option Addr×Nat=>.tuple #[.slice q.1.1 3 q.1.2,.bool true]) (hs:=Ew p c x y x70 (gF 2) (gL 2)) (os:=[⟨x112.1,dR gZ ([(0,0),(1,0)]),x112.2,45,2⟩]) (A0:=Ul x y p p0 c0 p1 c1) (hs':=λ _=>Ew p c x y x70 (gF 2) (gL 2)) (os':=λ q=>[⟨q.2.1,dR gZ mJ,q.2.2,45,2⟩]) (Fc:=λ _=>[]) (hc:=λ w1 hw=>Yb hw))) (h:=λ x113 h113=>?_);refine aR ?_;refine eP ?_;refine eP ?_;refine dg ?_;refine J2 ?_;refine aD ?_
        refine aU (λ c116=>?_) (λ c116=>?_)
        ·try (first|contradiction|(exfalso;omega))
         refine J2 ?_;refine J8 ?_
         refine bV Tryz.results29 (λ w hw=>?_)
         exact⟨x113,rfl,trivial,hw.ret (by repeat (first|exact List.Sublist.refl _|apply List.Sublist.cons)) bL.nil (List.Sublist.refl _)⟩
        ·exact nv c116
     ·exact nv c48
    ·exact nv c68
   ·exact nv c48
set_option maxRecDepth 100000 in
theorem Za(hs:SF w D (Ew p c x y u (gF 0) (gL 0)) (Ul x y p p0 c0 p1 c1) [] [⟨po,dR gZ [],co,45,2⟩] w):Calls Tryz.prog 29 #[pt y.b,.int .u32 0,pt u.b,.slice po 0 co] w (od (Ew p c x y u (gF 0) (gL 0)) w D):=by
 refine enter Tryz.func29 Tryz.ntmps29 rfl rfl hs ?_
 simp only[cP]
 refine Wb ?_;refine aJ ?_;refine aJ ?_;refine iM [0,1,2,3,4,5,6,7,8,9,10] ?_;refine Cy ?_;refine cZ (i:=5) (hq:=(eD (c:=0) rf rf (by decide))) (h:=?_);refine mG ?_;refine rE ?_;refine dC ?_
 refine aU (λ c27=>?_) (λ c27=>?_)
 ·exact nv c27
 ·try (first|contradiction|(exfalso;omega))
  refine C5 ?_;refine G3 ?_;refine aH (cM (V:=λ s:ByteArray=>.string s) (hs:=Q8 x.b y u (gF 0) (gL 0)) (os:=[]) (A0:=y.fr) (hs':=λ _=>Q8 x.b y u (gF 0) (gL 0)) (os':=λ _=>[]) (Fc:=λ _=>[]) (hc:=λ w1 hw=>Xb hw) (hA:=Uf)) (λ x34 h34=>?_);refine cK ?_;refine aF (cE λ _=>cG (z:=[.int .u32 0,.string ⟨#[]⟩]) (by kernel_rfl)) (λ x10=>?_);refine aL (cE λ _=>aC (old:=[.int .u32 0,.string ⟨#[]⟩]) (cs:=[.int .u32 0,.string x34]) rf bD rf rfl (by kernel_rfl) rf dI) (λ _=>?_);refine pT ?_;refine aJ ?_;refine iM [0,1,2,3,4,5] ?_;refine mG ?_;refine aS (i:=4) (hq:=(fR (aN rf bD (by kernel_rfl)))) (h:=?_);refine aS (i:=5) (hq:=(fR (An (k:=.agg ⟨[.int .u32 0,.string x34]⟩) (K:=126) (E:=4) (c:=0) (ze:=.bool false) rf rf bD (by kernel_rfl) (K0 0 x34) (Ky 0 x34) (by kernel_rfl)))) (h:=?_);refine dC ?_
  refine aU (λ c41=>?_) (λ c41=>?_)
  ·exact nv c41
  ·try (first|contradiction|(exfalso;omega))
   refine lS ?_;refine Kc6 ?_;refine cJ ?_;refine Ka1 ?_
   refine aU (λ c48=>?_) (λ c48=>?_)
   ·try (first|contradiction|(exfalso;omega))
    refine Ka6 ?_;refine aA (aY (f:=gZ) (l:=mJ) dM (by decide) rf rf dJ (by kernel_rfl) (.old (.tail (.tail (.tail (.tail .head))))) (Nat.le_of_ble_eq_true rfl) (Nat.le_of_ble_eq_true rfl)) rfl ?_;refine aA (cH (f:=gZ) (l:=mJ) (k:=0) dM rf (by kernel_rfl) (.old (.tail (.tail (.tail (.tail .head))))) rfl) rfl ?_;refine aF (cE λ _=>cG (z:=[.int .i64 0,.int .i64 0]) (by kernel_rfl)) (λ x12=>?_);refine bX (λ _=>?_);refine aL (cE λ _=>aC rf bD rf rfl (by kernel_rfl) rf dI) (λ _=>?_);refine aD ?_;refine pF ?_;refine aA (eQ (c:=0) rf rf (by decide) (by decide)) rfl ?_;refine aA (eD (c:=0) rf rf (by decide)) rfl ?_;refine Kb2 ?_
    (refine Ka2 ?_)
    ((refine Kc3 ?_));refine J6 ?_;((refine Ka2 ?_));((refine aE ?_;refine aA (bR rf rf dJ eC (.old (.tail (.tail (.tail .head)))) (Nat.le_of_ble_eq_true rfl) (Nat.le_of_ble_eq_true rfl)) rfl ?_));((refine aE ?_;refine aA (bO rf eC (.old (.tail (.tail (.tail .head)))) rfl) rfl ?_));((refine Ka2 ?_));((refine aE ?_;refine aA (xH (c:=0) rf rf (by decide)) rfl ?_));refine X4 ?_;refine aD ?_
    refine aU (λ c68=>?_) (λ c68=>?_)
    ·exact nv c68
    ·try (first|contradiction|(exfalso;omega))
     refine Kd3 ?_;refine aH (Jh (V:=λ g:Js=>pt g.b) (hs:=iX u (gF 0) (gL 0)) (os:=[]) (hs':=λ _=>iX u (gF 0) (gL 0)) (Hc:=λ g=>iX g (gF 0) (gL 0)) (os':=λ _=>[]) (Oc:=λ _=>[]) (Fc:=λ _=>[]) (A0:=[]) (hc:=λ w1 hw=>Ag hw)) (λ x70 h70=>?_);refine kZ ?_
     refine oV [14,71,72,73,74,75,76,77,78,79,80,81,82] (λ k:Nat=>[(14,.pointer (some ⟨k,0,none⟩))]) (λ _=>True) (λ k=>[(k,.cells ⟨(fL false 0).cells⟩ 40 (0,0))]++iX x70 (gF 1) (gL 1)++[(x12,.cells ⟨gZ (0,0)⟩ 45 (0,0))]++Ew p c x y u (gF 0) (gL 0)) (λ _=>[]) (λ _=>[⟨po,dR gZ [],co,45,2⟩]) (by decide) (λ _=>by exact rfl) ?_ (λ k f hx=>?_)
     ·refine mB (.one 0 [] (.one 1 [] (.one 2 [] (.one 3 [] (.one 4 [] (.one 5 [] (.one 6 [] (.one 7 [] (.one 8 [] (.one 9 [] (.two 10 [1,2,3,4] (.two 11 [] (.one 12 [1,2,3,4,8,9] (.one 13 [] .nil)) 0 [] (.two 12 [1,2,3,4,8,9] (.one 11 [] (.one 13 [] .nil)) 0 [] .nil)) 0 [] (.two 12 [1,2,3,4,8,9] (.one 10 [1,2,3,4] (.one 11 [] (.one 13 [] .nil))) 0 [] .nil)))))))))))) ?_
      refine aR ?_;refine aS (i:=1) (hq:=(cR (n:=2) (k:=0) (e:=3) rf rf (by kernel_rfl) (by kernel_rfl) (by decide))) (h:=?_);refine cB ?_;refine aS (i:=3) (hq:=(cR (n:=2) (k:=1) (e:=3) rf rf (by kernel_rfl) (by kernel_rfl) (by decide))) (h:=?_);refine cB ?_;refine mG ?_;refine aS (i:=9) (hq:=(fR (aN rf bD (by kernel_rfl)))) (h:=?_)
      refine kS (E:=[10,12]) (by decide +kernel) ((.cons ?_ (.cons ?_ .nil)))
      ·refine qW (i:=10) (hq:=(cM (φ:=λ _=>True) (V:=λ _:Unit=>.agg ⟨(wM (0,0)).cells⟩) (hs:=[(x.b,gB p c x)]) (os:=[]) (A0:=lT x p p0 c0 p1 c1) (hs':=λ _=>[(x.b,gB p c x)]) (os':=λ _=>[]) (Fc:=λ _=>[]) (hc:=λ w1 hw=>(nM (a:=(0,0)) (.inl rfl) hw).mono λ _ _ ⟨e,h⟩=>⟨(),e,trivial,h⟩) (hA:=wI))) (hfire:=(λ _=>by(refine eA ?_;(repeat (first|exact aM.nil|refine aM.cons (by first|exact cX (hq:=cR (n:=2) (k:=0) (e:=3) rf rf (by kernel_rfl) (by kernel_rfl) (by decide))|exact eE|exact cX (hq:=cR (n:=2) (k:=1) (e:=3) rf rf (by kernel_rfl) (by kernel_rfl) (by decide))) ?_));done))) (h:=λ x81 h81=>?_)
       refine kS (E:=[11,12]) (by decide +kernel) ((.cons ?_ (.cons ?_ .nil)))
       ·refine qW (i:=11) (hq:=(cM (φ:=λ _=>True) (V:=λ _:Unit=>.agg ⟨(fL false 0).cells⟩) (hs:=iX x70 (gF 0) (gL 0)) (os:=[]) (A0:=[]) (hs':=λ _=>iX x70 (gF 1) (gL 1)) (os':=λ _=>[]) (Fc:=λ _=>[]) (hc:=λ w1 hw=>(tT hw).mono λ _ _ ⟨e,h⟩=>⟨(),e,trivial,h⟩))) (h:=λ x82 h82=>?_)
        refine bZ (i:=12) (hq:=(cE λ _=>cG (z:=Rs.zero.cells) (by kernel_rfl))) (hfire:=(λ _=>by((repeat (first|exact aM.nil|refine aM.cons (by first|exact cX (hq:=cR (n:=2) (k:=0) (e:=3) rf rf (by kernel_rfl) (by kernel_rfl) (by decide))|exact eE|exact cX (hq:=cR (n:=2) (k:=1) (e:=3) rf rf (by kernel_rfl) (by kernel_rfl) (by decide))|exact cX (hq:=fR (aN rf bD (by kernel_rfl)))) ?_));done))) (h:=λ x14=>?_);refine fE (i:=13) (hq:=(cE λ _=>aC (old:=Rs.zero.cells) (cs:=(fL false 0).cells) rf bD rf rfl (by kernel_rfl) rf dI)) (h:=λ _=>?_);refine dC ?_
        refine nR (x14) ?_ (hw1:=λ w hw=>hw.back (hH:=by repeat (first|exact List.Sublist.refl _|refine List.Sublist.cons_cons _ ?_|refine List.Sublist.cons _ ?_)) (hF:=by exact bL.nil) (hO:=by exact List.Sublist.refl _))
        ·trivial
       ·refine nD (i:=12) (hq:=(cE λ _=>cG (z:=Rs.zero.cells) (by kernel_rfl))) (hfire:=(λ _=>by((repeat (first|exact aM.nil|refine aM.cons (by first|exact cX (hq:=cR (n:=2) (k:=0) (e:=3) rf rf (by kernel_rfl) (by kernel_rfl) (by decide))|exact eE|exact cX (hq:=cR (n:=2) (k:=1) (e:=3) rf rf (by kernel_rfl) (by kernel_rfl) (by decide))|exact cX (hq:=fR (aN rf bD (by kernel_rfl)))) ?_));done))) (h:=λ x14=>?_)
        refine bS (i:=11) (hq:=(cM (φ:=λ _=>True) (V:=λ _:Unit=>.agg ⟨(fL false 0).cells⟩) (hs:=iX x70 (gF 0) (gL 0)) (os:=[]) (A0:=[]) (hs':=λ _=>iX x70 (gF 1) (gL 1)) (os':=λ _=>[]) (Fc:=λ _=>[]) (hc:=λ w1 hw=>(tT hw).mono λ _ _ ⟨e,h⟩=>⟨(),e,trivial,h⟩))) (h:=λ x82 h82=>?_);refine fE (i:=13) (hq:=(cE λ _=>aC (old:=Rs.zero.cells) (cs:=(fL false 0).cells) rf bD rf rfl (by kernel_rfl) rf dI)) (h:=λ _=>?_);refine dC ?_
        refine nR (x14) ?_ (hw1:=λ w hw=>hw.back (hH:=by repeat (first|exact List.Sublist.refl _|refine List.Sublist.cons_cons _ ?_|refine List.Sublist.cons _ ?_)) (hF:=by exact bL.nil) (hO:=by exact List.Sublist.refl _))
        ·trivial
      ·refine nD (i:=12) (hq:=(cE λ _=>cG (z:=Rs.zero.cells) (by kernel_rfl))) (hfire:=(λ _=>by((repeat (first|exact aM.nil|refine aM.cons (by first|exact cX (hq:=cR (n:=2) (k:=0) (e:=3) rf rf (by kernel_rfl) (by kernel_rfl) (by decide))|exact eE|exact cX (hq:=cR (n:=2) (k:=1) (e:=3) rf rf (by kernel_rfl) (by kernel_rfl) (by decide))|exact cX (hq:=fR (aN rf bD (by kernel_rfl)))) ?_));done))) (h:=λ x14=>?_)
       refine bS (i:=10) (hq:=(cM (φ:=λ _=>True) (V:=λ _:Unit=>.agg ⟨(wM (0,0)).cells⟩) (hs:=[(x.b,gB p c x)]) (os:=[]) (A0:=lT x p p0 c0 p1 c1) (hs':=λ _=>[(x.b,gB p c x)]) (os':=λ _=>[]) (Fc:=λ _=>[]) (hc:=λ w1 hw=>(nM (a:=(0,0)) (.inl rfl) hw).mono λ _ _ ⟨e,h⟩=>⟨(),e,trivial,h⟩) (hA:=wI))) (hfire:=(λ _=>by(refine eA ?_;(repeat (first|exact aM.nil|refine aM.cons (by first|exact cX (hq:=cR (n:=2) (k:=0) (e:=3) rf rf (by kernel_rfl) (by kernel_rfl) (by decide))|exact eE|exact cX (hq:=cR (n:=2) (k:=1) (e:=3) rf rf (by kernel_rfl) (by kernel_rfl) (by decide))) ?_));done))) (h:=λ x81 h81=>?_);refine bS (i:=11) (hq:=(cM (φ:=λ _=>True) (V:=λ _:Unit=>.agg ⟨(fL false 0).cells⟩) (hs:=iX x70 (gF 0) (gL 0)) (os:=[]) (A0:=[]) (hs':=λ _=>iX x70 (gF 1) (gL 1)) (os':=λ _=>[]) (Fc:=λ _=>[]) (hc:=λ w1 hw=>(tT hw).mono λ _ _ ⟨e,h⟩=>⟨(),e,trivial,h⟩))) (h:=λ x82 h82=>?_);refine fE (i:=13) (hq:=(cE λ _=>aC (old:=Rs.zero.cells) (cs:=(fL false 0).cells) rf bD rf rfl (by kernel_rfl) rf dI)) (h:=λ _=>?_);refine dC ?_
       refine nR (x14) ?_ (hw1:=λ w hw=>hw.back (hH:=by repeat (first|exact List.Sublist.refl _|refine List.Sublist.cons_cons _ ?_|refine List.Sublist.cons _ ?_)) (hF:=by exact bL.nil) (hO:=by exact List.Sublist.refl _))
       ·trivial
     dsimp only[lP,List.map,List.cons_append,List.nil_append]
     refine aJ ?_;refine aJ ?_;refine eG [(0,[]),(1,[]),(2,[]),(3,[]),(4,[]),(5,[]),(6,[]),(7,[]),(8,[]),(9,[]),(10,[]),(11,[]),(12,[]),(13,[]),(14,[]),(15,[9]),(16,[]),(17,[]),(18,[])] ?_;refine mG ?_;refine aR ?_;refine cZ (i:=5) (hq:=(eQ (c:=7) rf rf (by decide) (by decide))) (h:=?_);refine cZ (i:=6) (hq:=(eD (c:=1) rf rf (by decide))) (h:=?_);refine rE ?_;refine aR ?_
     (refine aS (i:=9) (hq:=(fR (aN rf bD (by kernel_rfl)))) (h:=?_))
     ((refine aR ?_));refine pj ?_;((refine aS (i:=14) (hq:=(fR (aN rf bD (by kernel_rfl)))) (h:=?_)));((refine bS (i:=15) (hq:=(cM (φ:=λ _=>True) (V:=λ _:Unit=>.agg ⟨(wL (0,0)).cells⟩) (hs:=[(x.b,gB p c x)]) (os:=[]) (A0:=lT x p p0 c0 p1 c1) (hs':=λ _=>[(x.b,gB p c x)]) (os':=λ _=>[]) (Fc:=λ _=>[]) (hc:=λ w1 hw=>(dS (a:=(0,0)) (.inl rfl) hw).mono λ _ _ ⟨e,h⟩=>⟨(),e,trivial,h⟩) (hA:=wI))) (hfire:=(λ _=>by(refine eA ?_;refine aM.cons (by exact cX (hq:=fR (aN rf bD (by kernel_rfl)))) ?_;exact aM.nil))) (h:=λ x98 h98=>?_)));((refine cZ (i:=16) (hq:=(Ax (v:=.agg ⟨(wL (0,0)).cells⟩) rf (B9 _))) (h:=?_)));((refine cZ (i:=17) (hq:=(Bh (fL false 0) rf rf (by kernel_rfl))) (h:=?_)));refine Kd4 ?_
     refine aU (λ c101=>?_) (λ c101=>?_)
     ·exact nv c101
     ·try (first|contradiction|(exfalso;omega))
      refine lS ?_;refine iM [0,1,2,3,4,5,6,7,8,9,10,11,12,13,14,15] ?_;refine Hj ?_;refine aR ?_;refine cZ (i:=3) (hq:=(qL (c:=1) rf rf (by decide) (by decide))) (h:=?_);refine cZ (i:=4) (hq:=(yW (c:=1) rf rf (by decide))) (h:=?_);refine Hj ?_;refine aS (i:=7) (hq:=(fR (aN rf bD (by kernel_rfl)))) (h:=?_);refine bZ (i:=8) (hq:=(by exact gD λ _=>aP fO mH rf rf rf rf (by simp only[dQ,cI,List.cons_append,List.nil_append,List.append_nil];exact rfl))) (h:=λ x111=>?_);((refine bZ (i:=9) (hq:=(aQ.cL (cQ (sz:=2) (cs:=dR gZ []) (m:=0) rf rf .head rfl (.new .head) rfl rfl fO rfl (by decide) dJ (by decide)) hP)) (h:=λ x112=>?_);try (refine eR (λ h112=>?_))));refine bS (i:=10) (hq:=(cM (V:=λ q:(Option Addr×Nat)×Option Addr×Nat=>.tuple #[.slice q.1.1 3 q.1.2,.bool true]) (hs:=Ew p c x y x70 (gF 1) (gL 1)) (os:=[⟨x112.1,dR gZ ([(0,0)]),x112.2,45,2⟩]) (A0:=Ul x y p p0 c0 p1 c1) (hs':=λ _=>Ew p c x y x70 (gF 1) (gL 1)) (os':=λ q=>[⟨q.2.1,dR gZ mJ,q.2.2,45,2⟩]) (Fc:=λ _=>[]) (hc:=λ w1 hw=>Yy hw))) (h:=λ x113 h113=>?_);refine aR ?_;refine eP ?_;refine eP ?_;refine dg ?_;refine J2 ?_;refine aD ?_
      refine aU (λ c116=>?_) (λ c116=>?_)
      ·try (first|contradiction|(exfalso;omega))
       refine J2 ?_;refine J8 ?_
       refine bV Tryz.results29 (λ w hw=>?_)
       exact⟨x113,rfl,trivial,hw.ret (by repeat (first|exact List.Sublist.refl _|apply List.Sublist.cons)) bL.nil (List.Sublist.refl _)⟩
      ·exact nv c116
   ·exact nv c48
end
end Go.Proofs.YtnilhhnfjfdokaaGreatDoor
