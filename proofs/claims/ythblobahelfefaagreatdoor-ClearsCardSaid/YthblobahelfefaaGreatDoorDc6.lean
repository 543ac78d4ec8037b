/- Merged. -/
import Derived.Test.YthblobahelfefaaGreatDoorGDc4
set_option linter.unusedSimpArgs false
set_option linter.unusedVariables false
namespace Go.Ct
open Go Go.RowKit
variable{S:List (Nat×Value)}{w0:World}{M:List Nat}{H:List (Nat×Obj)}{d c i b:Nat}{ty t K E:TypeId}{pos:String}{af:Array Edge}{gd:Option (Nat×Bool)}{x y:Operand}{k v ze:Value}{es:List MapEntry}{r:Option (Nat×Value)}
theorem oJ{P:Program}{dK:TypeDesc}(hx:ev S x=.map (some b))(hy:ev S y=k)(ha:At H i b (bV es c))(hu:P.underlying t=some (.map K E))(hd:P.underlying K=some dK)(hk:MapKept.IsKey dK k)(hz:bR P E=some ze)(hr:Instr.findNow dK k es 0=some r)(hv:(r.map Prod.snd).getD ze=v) :
  aH P S (St w0 M H) ⟨some d,.lookup t x y false,ty,pos,af,gd⟩ v:=hv▸Py hx hy ha hu hd hk hz hr
theorem cx{P:Program}{dK:TypeDesc}(hx:ev S x=.map (some b))(hy:ev S y=k)(ha:At H i b (bV es c))(hu:P.underlying t=some (.map K E))(hd:P.underlying K=some dK)(hk:MapKept.IsKey dK k)(hz:bR P E=some ze)(hr:Instr.findNow dK k es 0=some r)(hv:.tuple #[(r.map Prod.snd).getD ze,.bool r.isSome]=v) :
  aH P S (St w0 M H) ⟨some d,.lookup t x y true,ty,pos,af,gd⟩ v:=hv▸iO hx hy ha hu hd hk hz hr
end Go.Ct
namespace Go.Proofs.YthblobahelfefaaGreatDoor
open Go.Proofs.Tryz
open Go Go.RowKit Go.Ct
section
variable{w:World}{D:List Nat}{A:Fr}{vc bv m k:Nat}{ve:List MapEntry}{u:fz}{o:kA}{a:Nat×Nat}{pk:Nat->ByteArray}{mv:List (Nat×Nat)}
theorem Jg.kd(h:Jg pk o):(o.kind=1∨o.kind=7∨o.kind=10)/\o.key.size<=64:=by
 cases h with
 | put v hv hk=>exact⟨.inl rfl,hk⟩
 | look key hk=>exact⟨.inr (.inl rfl),hk⟩
 | clr=>exact⟨.inr (.inr rfl),by decide⟩
theorem Z8(ho:o.kind=1∨o.kind=7∨o.kind=10)(hkz:o.key.size<=64)(h0:o.handle=0)(hs:SF w D (pP m u ve vc) A [] [] w):Calls prog 90 #[pt u.b,.agg ⟨o.cells⟩] w λ e w'=>e=.returned (.int .i64 0)/\SF w D (pP m u ve vc) [] [] [] w':=by
 refine enter func90 ntmps90 rfl rfl hs ?_;simp only[bY];simp only[kA.cells,h0];refine K1m ?_;intro x3;refine nN ?_;refine eQ [(0,[]),(1,[]),(2,[]),(3,[]),(4,[]),(5,[]),(6,[]),(7,[]),(8,[]),(9,[]),(10,[3,5,6]),(11,[]),(12,[])] ?_;refine nZ ?_;refine iX ?_;refine bI (i:=6) (hq:=(nT (iO (K:=3) (E:=116) (dK:=.int .i64) (ze:=.agg ⟨[.map none,.bool false]⟩) (k:=.int .i64 0) (es:=Yj u.bv) (c:=1) (r:=some (0,.agg ⟨[.map (some u.bv),.bool false]⟩)) rf rf bU (by kernel_rfl) (by kernel_rfl) rfl (by kernel_rfl) rfl))) (h:=?_);refine K0x ?_;refine sN (hfire:=(λ _=>by((repeat (first|exact aS.nil|refine aS.cons (by first|exact fR|exact fO (hq:=nT (iO (K:=3) (E:=116) (dK:=.int .i64) (ze:=.agg ⟨[.map none,.bool false]⟩) (k:=.int .i64 0) (es:=Yj u.bv) (c:=1) (r:=some (0,.agg ⟨[.map (some u.bv),.bool false]⟩)) rf rf bU (by kernel_rfl) (by kernel_rfl) rfl (by kernel_rfl) rfl))) ?_));done))) (h:=λ x5=>?_);refine J40 ?_;refine jF ?_;refine pG ?_;refine aX (λ c18=>?_) (λ c18=>?_);·try (contradiction)
 ·try (first|contradiction|(exfalso;omega))
  refine mD ?_;refine gP ?_;refine xW ?_;refine aD ?_;(refine kT 22 (λ g22=>?_) (λ g22=>?_)<;>refine Ka1 ?_);all_goals (refine Kb9 ?_;(first|refine bG ?_|(refine aG ?_;refine aK (cV (v:=.bool true) (hc:=λ w1 hw=>by have h1:=wB o.key w1;rw[show(decide (o.key.size<=64))=true by simp[hkz]] at h1;exact h1)) (λ x25=>?_)));refine y7 ?_;refine aC ?_)
  all_goals
  refine aX (λ c27=>?_) (λ c27=>?_);·exact nv c27
  ·all_goals try (first|contradiction|(exfalso;omega))
   all_goals (refine mD ?_;refine gP ?_;refine Kb2 ?_;refine Kb1 ?_)
   all_goals
    refine aX (λ c30=>?_) (λ c30=>?_)
    ·all_goals try ((exfalso;omega))
     all_goals refine bD ?_
     all_goals
     refine aX (λ c30=>?_) (λ c30=>?_)
     ·try (first|contradiction|(exfalso;omega))
      refine gP ?_;refine aC ?_;refine aX (λ c39=>?_) (λ c39=>?_);·exact nv c39
      ·try (first|contradiction|(exfalso;omega))
       refine Ka2 ?_;refine aP results90 (λ w hw=>?_);exact⟨rfl,hw.ret E0a (aT.bA λ f hf=>hf) (List.Sublist.refl _)⟩
     ·try (contradiction)
    ·all_goals try (first|contradiction|(exfalso;omega))
     all_goals refine iC ?_
     all_goals
     refine aX (λ c30=>?_) (λ c30=>?_);·all_goals try ((exfalso;omega))
     ·all_goals try (first|contradiction|(exfalso;omega))
      all_goals refine iC ?_
      all_goals
       refine aX (λ c30=>?_) (λ c30=>?_);·all_goals try ((exfalso;omega))
       ·all_goals try (first|contradiction|(exfalso;omega))
        all_goals refine iC ?_
        all_goals
        refine aX (λ c30=>?_) (λ c30=>?_);·all_goals try ((exfalso;omega))
        ·all_goals try (first|contradiction|(exfalso;omega))
         all_goals refine iC ?_
         all_goals
          refine aX (λ c30=>?_) (λ c30=>?_);·all_goals try ((exfalso;omega))
          ·all_goals try (first|contradiction|(exfalso;omega))
           all_goals refine iC ?_
           all_goals
           refine aX (λ c30=>?_) (λ c30=>?_);·all_goals try ((exfalso;omega))
           ·all_goals try (first|contradiction|(exfalso;omega))
            all_goals (refine Kb3 ?_)
            all_goals
             refine aX (λ c30=>?_) (λ c30=>?_)
             ·all_goals try ((exfalso;omega))
              all_goals (refine gP ?_;refine aC ?_)
              all_goals
              refine aX (λ c39=>?_) (λ c39=>?_);·exact nv c39
              ·try (first|contradiction|(exfalso;omega))
               refine Ka2 ?_;refine aP results90 (λ w hw=>?_);exact⟨rfl,hw.ret E0a (aT.bA λ f hf=>hf) (List.Sublist.refl _)⟩
             ·all_goals try ((exfalso;omega))
              all_goals (refine Kb1 ?_)
              all_goals
              refine aX (λ c40=>?_) (λ c40=>?_);·try ((exfalso;omega))
              ·try (first|contradiction|(exfalso;omega))
               refine Kb3 ?_;refine aX (λ c40=>?_) (λ c40=>?_);·try ((exfalso;omega))
               ·try (first|contradiction|(exfalso;omega))
                refine Ka2 ?_;refine aP results90 (λ w hw=>?_);exact⟨rfl,hw.ret E0a (aT.bA λ f hf=>hf) (List.Sublist.refl _)⟩
theorem aF3(a:Nat×Nat)(bv:Nat):Instr.findNow (.int .i64) (.int .i64 ((1+a.1*16+a.2:Nat):Int)) (Yj bv) 0=some none:=by
 have hne:((((1+a.1*16+a.2:Nat):Int))==(0:Int))=false:=by simp;omega
 show(match(if IntKind.i64=IntKind.i64 then some ((((1+a.1*16+a.2:Nat):Int))==(0:Int)) else none) with|some true=>_|some false=>Instr.findNow (.int .i64) _ [] 1|none=>_)=_;rw[if_pos rfl,hne];rfl
theorem vD(hn1:a.1<8)(hn2:a.2<16)(ho:Jg pk o)(hs:SF w D (pP m u ve vc) A [] [] w):Calls prog 62 #[pt u.b,.int .i64 (a.1:Int),.int .i64 (a.2:Int),.agg ⟨o.cells⟩] w λ e w'=>e=.returned (.int .i64 0)/\SF w D (pP m u ve vc) [] [] [] w':=by
 obtain⟨hk1,hk3⟩:=ho.kd;have hk2:=ho.h0.1;have hfa:=aF3 a u.bv;refine enter func62 ntmps62 rfl rfl hs ?_;simp only[bY]
 simp only[kA.cells];refine J0 ?_;refine bC (λ x7=>?_);refine P2 ?_;refine aK (cV (hc:=λ w1 hw=>lN hn1 hn2 w1)) (λ x19=>?_);refine Kc5 ?_;refine Q9 ?_;(refine aG ?_;refine aF ?_);refine J89 ?_;refine aD ?_;(refine kT 27 (λ g27=>?_) (λ g27=>?_)<;>(try ((exfalso;omega)))<;>((refine aG ?_;refine aF ?_)));((refine aG ?_;refine bW ?_));refine vd ?_;refine aC ?_;refine aX (λ c31=>?_) (λ c31=>?_);·try ((exfalso;omega))
 ·try (first|contradiction|(exfalso;omega))
  refine mD ?_;refine gP ?_;refine Fe ?_;refine aX (λ c34=>?_) (λ c34=>?_);·try ((exfalso;omega))
  ·try (first|contradiction|(exfalso;omega))
   refine J2 ?_;refine bW ?_;refine aJ (cM (φ:=λ _=>True) (V:=λ _:Unit=>.int .i64 0) (hs:=pP m u ve vc) (os:=[]) (A0:=[]) (hs':=λ _=>pP m u ve vc) (os':=λ _=>[]) (Fc:=λ _=>[]) (hc:=λ w1 hw=>(Z8 hk1 hk3 hk2 hw).mono λ _ _ ⟨e,h⟩=>⟨(),e,trivial,h⟩)) (λ x55 h55=>?_);refine Kb7 ?_;refine Kc0 ?_;refine aX (λ c57=>?_) (λ c57=>?_);·exact nv c57
   ·try (first|contradiction|(exfalso;omega))
    refine J83 ?_;refine aD ?_;refine aA (nT (iO (K:=3) (E:=116) (dK:=.int .i64) (ze:=.agg ⟨[.map none,.bool false]⟩) (k:=.int .i64 ((1+a.1*16+a.2:Nat):Int)) (es:=Yj u.bv) (c:=1) (r:=none) rf rf bU (by kernel_rfl) (by kernel_rfl) rfl (by kernel_rfl) hfa)) rfl ?_;refine Ot ?_;refine aI (λ x13=>?_);refine J46 ?_;refine zG ?_;refine aD ?_;refine aA (nT (iO (K:=3) (E:=166) (dK:=.int .i64) (ze:=.agg ⟨[.int .i64 0,.int .i64 0,.int .i64 0]⟩) (k:=.int .i64 ((1+a.1*16+a.2:Nat):Int)) (es:=[]) (c:=0) (r:=none) rf rf bU (by kernel_rfl) (by kernel_rfl) rfl (by kernel_rfl) rfl)) rfl ?_;refine Ot ?_;refine aI (λ x15=>?_);refine pJ (λ _=>?_);refine nN ?_;refine lV ?_;(refine Ka4 ?_);refine Kc2 ?_;refine aX (λ c80=>?_) (λ c80=>?_);·exact nv c80
    ·try (first|contradiction|(exfalso;omega))
     refine bD ?_;refine cC ?_;refine aP results62 (λ w hw=>?_);exact⟨rfl,hw.ret E0a aT.nil (List.Sublist.refl _)⟩
theorem vn{v:Nat}(hs:SF w D [(bv,bV (kW pk mv) k)] A [] [] w):Calls prog 63 #[.agg ⟨[.map (some bv),.bool false]⟩,.agg ⟨kA.cells ⟨1,0,pk v,(v:Int),0⟩⟩] w λ e w'=>e=.returned (.agg ⟨(B0 pk ⟨1,0,pk v,(v:Int),0⟩ (mv.map Prod.fst)).1.cells⟩)/\SF w D [(bv,bV (kW pk (qA pk v k mv)) (if(tK pk (pk v) (mv.map Prod.fst)).isSome=true then k else k+1))] [] [] [] w':=by
 cases hf:tK pk (pk v) (mv.map Prod.fst) with
 | none=>
  have h1:=Iy 0 hf;have hr:(B0 pk ⟨1,0,pk v,(v:Int),0⟩ (mv.map Prod.fst)).1=A7 false 0:=by unfold B0;rw[if_pos rfl,hf]
  have he:kW pk (qA pk v k mv)=kW pk mv++[⟨.string (pk v),.int .u64 (v:Int),k⟩]:=by rw[Hz hf];simp[kW]
  rw[hr,he];refine enter func63 ntmps63 rfl rfl hs ?_;simp only[bY];simp only[kA.cells];refine K1j ?_;intro x2 x3;refine aI (λ x4=>?_);refine aC ?_;refine gP ?_;refine J3 ?_;refine aA (nT (iO (K:=9) (E:=23) (dK:=.string) (ze:=.int .u64 0) (k:=.string (pk v)) (r:=none) rf rf bU (by kernel_rfl) (by kernel_rfl) trivial (by kernel_rfl) h1)) rfl ?_;refine Ot ?_;refine J8 ?_;refine lV ?_;refine bX ?_;refine aI (λ x7=>?_);refine J5 ?_;refine cC ?_;refine I9 ?_;refine Kb2 ?_;refine iC ?_;refine aX (λ c22=>?_) (λ c22=>?_);·exact nv c22
  ·try (first|contradiction|(exfalso;omega))
   refine iC ?_;refine aX (λ c26=>?_) (λ c26=>?_);·exact nv c26
   ·try (first|contradiction|(exfalso;omega))
    refine iC ?_;refine aX (λ c29=>?_) (λ c29=>?_);·exact nv c29
    ·try (first|contradiction|(exfalso;omega))
     refine lI ?_;refine jF ?_;refine aC ?_;refine aX (λ c38=>?_) (λ c38=>?_)
     ·try (first|contradiction|(exfalso;omega))
      refine gP ?_;refine J3 ?_;refine J3 ?_;refine aM (cK λ _=>Mb (K:=9) (E:=23) (dK:=.string) (k:=.string (pk v)) (v:=.int .u64 (v:Int)) rf rf rf bU (by kernel_rfl) (by kernel_rfl) trivial h1 dV) (λ _=>?_);refine aC ?_;refine cD ?_;refine Tk ?_;refine Kc8 ?_;refine bJ results63 (λ w hw=>?_);exact⟨rfl,hw.ret E0a aT.nil (List.Sublist.refl _)⟩
     ·exact nv c38
 | some u=>
  obtain⟨j,b,h1,h2,h3,h4⟩:=Hg 0 hf;have hr:(B0 pk ⟨1,0,pk v,(v:Int),0⟩ (mv.map Prod.fst)).1=A7 true u:=by unfold B0;rw[if_pos rfl,hf]
  have h5:(kW pk mv)[j]?=some ⟨.string (pk v),.int .u64 (u:Int),b⟩:=by unfold kW;rw[List.getElem?_map,h2];show some _=_;rw[<- h3]
  rw[hr,h4 v k rfl];rw[Nat.zero_add] at h1;refine enter func63 ntmps63 rfl rfl hs ?_;simp only[bY];simp only[kA.cells];refine K1j ?_;intro x2 x3;refine aI (λ x4=>?_);refine aC ?_;refine gP ?_;refine J3 ?_;refine aA (nT (iO (K:=9) (E:=23) (dK:=.string) (ze:=.int .u64 0) (k:=.string (pk v)) (r:=some (j,.int .u64 (u:Int))) rf rf bU (by kernel_rfl) (by kernel_rfl) trivial (by kernel_rfl) h1)) rfl ?_;refine Ot ?_;refine J8 ?_;refine lV ?_;refine bX ?_;refine aI (λ x7=>?_);refine J5 ?_;refine cC ?_;refine I9 ?_;refine Kb2 ?_;refine iC ?_;refine aX (λ c22=>?_) (λ c22=>?_);·exact nv c22
  ·try (first|contradiction|(exfalso;omega))
   refine iC ?_;refine aX (λ c26=>?_) (λ c26=>?_);·exact nv c26
   ·try (first|contradiction|(exfalso;omega))
    refine iC ?_;refine aX (λ c29=>?_) (λ c29=>?_);·exact nv c29
    ·try (first|contradiction|(exfalso;omega))
     refine lI ?_;refine jF ?_;refine aC ?_;refine aX (λ c38=>?_) (λ c38=>?_)
     ·try (first|contradiction|(exfalso;omega))
      refine gP ?_;refine J3 ?_;refine J3 ?_;refine aM (cK λ _=>mw (K:=9) (E:=23) (dK:=.string) (k:=.string (pk v)) (v:=.int .u64 (v:Int)) (j:=j) (u:=.int .u64 (u:Int)) (e:=⟨.string (pk v),.int .u64 (u:Int),b⟩) rf rf rf bU (by kernel_rfl) (by kernel_rfl) trivial h1 h5 rfl dV) (λ _=>?_);refine aC ?_;refine cD ?_;refine Tk ?_;refine Kc8 ?_;refine bJ results63 (λ w hw=>?_);exact⟨rfl,hw.ret E0a aT.nil (List.Sublist.refl _)⟩
     ·exact nv c38
theorem Cp(hn1:a.1<8)(hn2:a.2<16)(ho:Jg pk o)(hs:SF w D (pP m u (kW pk mv) k) A [] [] w):Calls prog 47 #[pt u.b,.int .i64 (a.1:Int),.int .i64 (a.2:Int),.agg ⟨o.cells⟩] w λ e w'=>e=.returned (.agg ⟨(B0 pk o (mv.map Prod.fst)).1.cells⟩)/\SF w D (pP m u (kW pk (Ke pk o mv k).1) (Ke pk o mv k).2) [] [] [] w':=by
 have ho2:=ho;have hkd:=ho.kd;cases ho with
 | put v hv hk=>
  obtain⟨r,hr⟩:∃r,r=(B0 pk ⟨1,0,pk v,(v:Int),0⟩ (mv.map Prod.fst)).1:=⟨_,rfl⟩;rw[<- hr];refine enter func47 ntmps47 rfl rfl hs ?_;simp only[bY];simp only[kA.cells];refine K0f ?_;intro x7 x8 x18 h18;refine aX (λ c20=>?_) (λ c20=>?_);·exact nv c20
  ·try (first|contradiction|(exfalso;omega))
   refine K0b ?_;intro x25;refine sN (hfire:=E0e) (h:=λ x11=>?_);refine fC (i:=8) (hq:=(cK λ _=>aE (cs:=[.map (some u.bv),.bool false]) rf bU rf rfl (by kernel_rfl) rf dV)) (h:=λ _=>?_);refine dY ?_;refine I9 ?_;refine Kb2 ?_;refine Kb1 ?_;refine aX (λ c35=>?_) (λ c35=>?_)
   ·try (first|contradiction|(exfalso;omega))
    refine bD ?_;refine aX (λ c35=>?_) (λ c35=>?_)
    ·try (first|contradiction|(exfalso;omega))
     refine tB ?_;refine bW ?_;refine aJ (cM (φ:=λ _=>True) (V:=λ _:Unit=>.agg ⟨r.cells⟩) (hs:=[(u.bv,bV (kW pk mv) k)]) (os:=[]) (A0:=[]) (hs':=λ _=>[(u.bv,bV (kW pk (qA pk v k mv)) (if(tK pk (pk v) (mv.map Prod.fst)).isSome=true then k else k+1))]) (os':=λ _=>[]) (Fc:=λ _=>[]) (hc:=λ w1 hw=>(hr▸vn hw).mono λ _ _ ⟨e,h⟩=>⟨(),e,trivial,h⟩)) (λ x42 h42=>?_);refine aM (cK λ _=>aE (cs:=r.cells) rf bU rf rfl cW rf dV) (λ _=>?_);refine aC ?_;refine bJ results47 (λ w hw=>?_);exact⟨rfl,hw.ret E0a aT.nil (List.Sublist.refl _)⟩
    ·exact nv c35
   ·exact nv c35
 | look key hk=>
  obtain⟨f,x,r,hr,hv,he⟩:∃f x r,Instr.findNow .string (.string key) (kW pk mv) 0=some r/\Value.tuple #[(r.map Prod.snd).getD (.int .u64 0),.bool r.isSome]=.tuple #[.int .u64 x,.bool f]/\(B0 pk ⟨7,0,key,0,0⟩ (mv.map Prod.fst)).1=dW f x:=by
   unfold B0;rw[if_neg (show ¬(7:Int)=1 by decide),if_pos rfl];cases hf:tK pk key (mv.map Prod.fst) with
   | none=>exact⟨false,0,none,Iy 0 hf,rfl,rfl⟩
   | some u=>obtain⟨j,b,h1,_⟩:=Hg 0 hf;exact⟨true,u,_,h1,rfl,rfl⟩
  rw[he];refine enter func47 ntmps47 rfl rfl hs ?_;simp only[bY];simp only[kA.cells];refine K0f ?_;intro x7 x8 x18 h18;refine aX (λ c20=>?_) (λ c20=>?_);·exact nv c20
  ·try (first|contradiction|(exfalso;omega))
   refine K0b ?_;intro x25;refine sN (hfire:=E0e) (h:=λ x11=>?_);refine fC (i:=8) (hq:=(cK λ _=>aE (cs:=[.map (some u.bv),.bool false]) rf bU rf rfl (by kernel_rfl) rf dV)) (h:=λ _=>?_);refine dY ?_;refine I9 ?_;refine Kb2 ?_;refine Kb1 ?_;refine aX (λ c35=>?_) (λ c35=>?_);·exact nv c35
   ·try (first|contradiction|(exfalso;omega))
    refine iC ?_;refine aX (λ c35=>?_) (λ c35=>?_);·exact nv c35
    ·try (first|contradiction|(exfalso;omega))
     refine iC ?_;refine aX (λ c35=>?_) (λ c35=>?_);·exact nv c35
     ·try (first|contradiction|(exfalso;omega))
      refine Kb3 ?_;refine aX (λ c35=>?_) (λ c35=>?_);·exact nv c35
      ·try (first|contradiction|(exfalso;omega))
       refine Kb1 ?_;refine aX (λ c43=>?_) (λ c43=>?_);·exact nv c43
       ·try (first|contradiction|(exfalso;omega))
        refine Kb3 ?_;refine aX (λ c43=>?_) (λ c43=>?_);·exact nv c43
        ·try (first|contradiction|(exfalso;omega))
         refine iC ?_;refine aX (λ c49=>?_) (λ c49=>?_)
         ·try (first|contradiction|(exfalso;omega))
          refine gP ?_;refine J3 ?_;refine aA (nT (cx (K:=9) (E:=23) (dK:=.string) (ze:=.int .u64 0) (k:=.string key) (r:=r) rf rf bU (by kernel_rfl) (by kernel_rfl) trivial (by kernel_rfl) hr hv)) rfl ?_;refine Ot ?_;refine J8 ?_;refine lV ?_;refine P1 ?_;refine bJ results47 (λ w hw=>?_);exact⟨rfl,hw.ret E0a aT.nil (List.Sublist.refl _)⟩
         ·exact nv c49
 | clr=>
  refine enter func47 ntmps47 rfl rfl hs ?_;simp only[bY];simp only[kA.cells];refine K0f ?_;intro x7 x8 x18 h18;refine aX (λ c20=>?_) (λ c20=>?_);·exact nv c20
  ·try (first|contradiction|(exfalso;omega))
   refine K0b ?_;intro x25;refine sN (hfire:=E0e) (h:=λ x11=>?_);refine fC (i:=8) (hq:=(cK λ _=>aE (cs:=[.map (some u.bv),.bool false]) rf bU rf rfl (by kernel_rfl) rf dV)) (h:=λ _=>?_);refine dY ?_;refine I9 ?_;refine Kb2 ?_;refine Kb1 ?_;refine aX (λ c35=>?_) (λ c35=>?_);·exact nv c35
   ·try (first|contradiction|(exfalso;omega))
    refine iC ?_;refine aX (λ c35=>?_) (λ c35=>?_);·exact nv c35
    ·try (first|contradiction|(exfalso;omega))
     refine iC ?_;refine aX (λ c35=>?_) (λ c35=>?_);·exact nv c35
     ·try (first|contradiction|(exfalso;omega))
      refine Kb3 ?_;refine aX (λ c35=>?_) (λ c35=>?_);·exact nv c35
      ·try (first|contradiction|(exfalso;omega))
       refine Kb1 ?_;refine aX (λ c43=>?_) (λ c43=>?_);·exact nv c43
       ·try (first|contradiction|(exfalso;omega))
        refine Kb3 ?_;refine aX (λ c43=>?_) (λ c43=>?_);·exact nv c43
        ·try (first|contradiction|(exfalso;omega))
         refine iC ?_;refine aX (λ c49=>?_) (λ c49=>?_);·exact nv c49
         ·try (first|contradiction|(exfalso;omega))
          refine Kb1 ?_;refine aX (λ c62=>?_) (λ c62=>?_);·exact nv c62
          ·try (first|contradiction|(exfalso;omega))
           refine Kb3 ?_;refine aX (λ c62=>?_) (λ c62=>?_);·exact nv c62
           ·try (first|contradiction|(exfalso;omega))
            refine iC ?_;refine aX (λ c78=>?_) (λ c78=>?_)
            ·try (first|contradiction|(exfalso;omega))
             refine gP ?_;refine aM (cK λ _=>ue (K:=9) (E:=23) rf bU (by kernel_rfl) dV) (λ _=>?_);refine Kb0 ?_;refine P1 ?_;refine bJ results47 (λ w hw=>?_);exact⟨rfl,hw.ret E0a aT.nil (List.Sublist.refl _)⟩
            ·exact nv c78
end
end Go.Proofs.YthblobahelfefaaGreatDoor
