/- linz.seen. (Printed by genlzf.py.) -/
import Derived.Test.YtnilhhnfjfdokaaGreatDoorLze
set_option linter.unusedSimpArgs false
set_option linter.unusedVariables false
namespace Go.Proofs.YtnilhhnfjfdokaaGreatDoor
open Go Go.RowKit Go.Ct
theorem Mi{i:Nat}(h:i<129):(rL true)[i]?=some (.bool (decide (i=0))):=by
 cases i with
 | zero=>rfl
 | succ n =>
  show(List.replicate 128 (Value.bool false))[n]?=_
  rw[List.getElem?_replicate,if_pos (by omega)]
  simp
abbrev Q8(rb:Nat)(y:L0)(f:Js)(ve:List MapEntry)(vc:Nat):List (Nat×Obj):=[(y.b,G4 rb y),(f.b,.cells ⟨[.int .u64 63,.map (some f.bm),.map (some f.bi)]⟩ 135 (0,0)),(f.bm,bW (Jt f.bv) 1),(f.bi,bW [] 0),(f.bv,bW ve vc)]
theorem jM(a:List Int)(n:Int):(a++[n]).length=a.length+1:=by simp
theorem W2(a:List Int):(a++eS fB).length=a.length+1:=by simp[A5];rfl
section
variable{w:World}{D:List Nat}{y:L0}{rb:Nat}{u:Js}
set_option maxRecDepth 100000 in
theorem Xb(hs:SF w D (Q8 rb y u (gF 0) (gL 0)) y.fr [] [] w):Calls Tryz.prog 48 #[pt y.b,.int .u32 0,pt u.b] w λ e w'=>∃s:ByteArray,e=.returned (.string s)/\True/\SF w D (Q8 rb y u (gF 0) (gL 0)) [] [] [] w':=by
 refine enter Tryz.func48 Tryz.ntmps48 rfl rfl hs ?_
 simp only[cP]
 refine dW ?_;refine mL ?_;refine aH (cM (φ:=λ _=>True) (V:=λ _:Unit=>.agg ⟨rL true⟩) (hs:=[(y.b,G4 rb y)]) (os:=[]) (A0:=y.fr) (hs':=λ _=>[(y.b,G4 rb y)]) (os':=λ _=>[]) (Fc:=λ _=>[]) (hc:=λ w1 hw=>(Ps hw).mono λ _ _ ⟨e,h⟩=>⟨(),e,trivial,h⟩)) (λ x18 h18=>?_);refine aF (cE λ _=>cG (z:=rL false) (by kernel_rfl)) (λ x7=>?_);refine aL (cE λ _=>aC (old:=rL false) (cs:=rL true) rf bD rf rfl (by kernel_rfl) rf dI) (λ _=>?_);refine aD ?_;refine Lf ?_;refine J0 ?_;refine aA (fR (aN rf bD (by kernel_rfl))) rfl ?_;refine Ka7 ?_
 refine uD [8,9,10,11,12,13,15,20,21,22,23,24,25,26,27,28,29,30,31,32,33,34,35,36,37,38,39,40,41,42,43,44,45,46,47,48,49,50,51,52,53,54,55,56,57,58,59,60,61,62,63,64,65,66,67,68,69,70,71,72] (λ z:Nat×Option Addr×List Int×Nat=>[(20,.int .i64 ((z.1:Nat):Int)),(8,.slice z.2.1 z.2.2.1.length z.2.2.2)]) (λ z=>z.1<=129/\z.2.2.1.length<=100/\(0<z.1->0<z.2.2.1.length)/\(z.1=0->z.2.2.1=[])) (λ _=>_) (λ _=>_) (λ z=>[⟨z.2.1,lM z.2.2.1,z.2.2.2,5,1⟩]) (λ z=>129-z.1) ((0,none,[],0)) (⟨Nat.zero_le _,Nat.zero_le _,λ h=>absurd h (by decide),λ _=>rfl⟩) (λ z f hx=>?_) (hw0:=λ w hw=>(hw.gU 5 1))
 dsimp only[lP,List.map,List.cons_append,List.nil_append]
 obtain⟨hz1,hz2,hz3,hz4⟩:=hx
 refine Ka1 ?_
 refine aU (λ c21=>?_) (λ c21=>?_)
 ·try (first|contradiction|(exfalso;omega))
  refine Ka6 ?_;refine aA (tK (e:=4) (n:=129) (k:=z.1) (cs:=rL true) (v:=.bool (decide (z.1=0))) rf rf (by kernel_rfl) (by kernel_rfl) (by omega) (Mi (by omega))) rfl ?_;refine J8 ?_;refine gS ?_;refine wO ?_
  refine aU (λ c25=>?_) (λ c25=>?_)
  ·try (first|contradiction|(exfalso;omega))
   have hz0:z.1≠0:=by simpa using c25
   refine aX rfl ?_;refine Ka3 ?_
   refine zI (by exact(z.1+1,z.2)) ?_ (hμ:=by omega)
   ·exact⟨by omega,hz2,λ _=>hz3 (by omega),λ h=>absurd h (by omega)⟩
  ·try (first|contradiction|(exfalso;omega))
   have hz0:z.1=0:=by simpa using c25
   have hz5:((z.1:Nat):Int)=0:=by omega
   have hz6:=hz4 hz0
   have hz7:z.2.2.1.length=0:=by rw[hz6];rfl
   refine C5 ?_;refine aH (cM (V:=λ x:Option Addr×Nat=>.tuple #[.slice x.1 (List.length ([]:List (ByteArray×Int))) x.2,.bool false,.bool true]) (hs:=iX u (gF 0) (gL 0)) (os:=[]) (A0:=[]) (hs':=λ _=>iX u (gF 0) (gL 0)) (os':=λ _=>[]) (Fc:=λ x=>[(x.1,dR B3 [])]) (hc:=λ w1 hw=>by rw[hz5];exact A2 (.inl ⟨rfl,rfl,rfl⟩) hw)) (λ x29 h29=>?_);refine C9 ?_;refine iI ?_;refine bX (λ _=>?_);refine J8 ?_;refine gS ?_;refine wO ?_
   refine aU (λ c34=>?_) (λ c34=>?_)
   ·exact nv c34
   ·try (first|contradiction|(exfalso;omega))
    refine C5 ?_;refine aH (cM (V:=λ x:Option Addr×List Int×Nat=>.slice x.1 x.2.1.length x.2.2) (hs:=[]) (os:=[⟨z.2.1,lM z.2.2.1,z.2.2.2,5,1⟩]) (A0:=[]) (hs':=λ _=>[]) (os':=λ x=>[⟨x.1,lM x.2.1,x.2.2,5,1⟩]) (Fc:=λ _=>[]) (hc:=λ w1 hw=>vA (ns:=z.2.2.1) (n:=z.1) (.inl hz0) (by omega) hw)) (λ x37 h37=>?_);refine Kb7 ?_;refine aF (by exact gD λ _=>aP dB mH rf rf rf rf (by simp only[dQ,cI,List.cons_append,List.nil_append,List.append_nil];exact rfl)) (λ x39=>?_);(refine aF (aQ.cL (jU (ns:=x37.2.1) rf rf .head rfl (.new .head) dB (by kernel_rfl) (by show(List.length x37.2.1)+1<=_;skip;omega)) hP) (λ x40=>?_);try (refine eH (λ h40=>?_)));refine aB ?_;refine aH (cM (V:=λ x:Option Addr×List Int×Nat=>.slice x.1 x.2.1.length x.2.2) (hs:=[]) (os:=[⟨x40.1,lM (x37.2.1++[32]),x40.2,5,1⟩]) (A0:=[]) (hs':=λ _=>[]) (os':=λ x=>[⟨x.1,lM x.2.1,x.2.2,5,1⟩]) (Fc:=λ _=>[]) (hc:=λ w1 hw=>Cb (ns:=x37.2.1++[32]) (by have e1:=jM x37.2.1 32;omega) hw)) (λ x42 h42=>?_);refine Kc7 ?_;refine Ka8 ?_;refine cJ ?_;refine Ka1 ?_
    refine aU (λ c46=>?_) (λ c46=>?_)
    ·exact nv c46
    ·try (first|contradiction|(exfalso;omega))
     refine aX rfl ?_;refine Gt ?_;refine aF (by exact gD λ _=>aP dB mH rf rf rf rf (by simp only[dQ,cI,List.cons_append,List.nil_append,List.append_nil];exact rfl)) (λ x70=>?_);(refine aF (aQ.cL (jU (ns:=x42.2.1) rf rf .head rfl (.new .head) dB (by kernel_rfl) (by show(List.length x42.2.1)+1<=_;have e1:=jM x37.2.1 32;omega)) hP) (λ x71=>?_);try (refine eH (λ h71=>?_)));refine Kd7 ?_
     refine zI (by exact(z.1+1,x71.1,x42.2.1++[10],x71.2)) ?_ (hμ:=by omega)
     ·(exact⟨by omega,by show List.length (x42.2.1++[10])<=100;have e1:=jM x37.2.1 32;have e7:=jM x42.2.1 10;omega,λ _=>by show 0<List.length (x42.2.1++[10]);have e1:=jM x37.2.1 32;have e7:=jM x42.2.1 10;omega,λ h=>absurd h (Nat.succ_ne_zero _)⟩)
 ·try (first|contradiction|(exfalso;omega))
  refine aX rfl ?_;refine J2 ?_;refine aF (Bp (e:=5) (ns:=z.2.2.1) rf (.own .head) rfl (by omega) (by kernel_rfl) (by kernel_rfl) (by kernel_rfl)) (λ x74=>?_);refine J1 ?_
  refine bE Tryz.results48 (λ w hw=>?_)
  exact⟨x74,rfl,trivial,hw.ret (by repeat (first|exact List.Sublist.refl _|apply List.Sublist.cons)) bL.nil (List.nil_sublist _)⟩
set_option maxRecDepth 100000 in
theorem ai(hs:SF w D (Q8 rb y u (gF 1) (gL 1)) y.fr [] [] w):Calls Tryz.prog 48 #[pt y.b,.int .u32 1,pt u.b] w λ e w'=>∃s:ByteArray,e=.returned (.string s)/\True/\SF w D (Q8 rb y u (gF 1) (gL 1)) [] [] [] w':=by
 refine enter Tryz.func48 Tryz.ntmps48 rfl rfl hs ?_
 simp only[cP]
 refine dW ?_;refine mL ?_;refine aH (cM (φ:=λ _=>True) (V:=λ _:Unit=>.agg ⟨rL true⟩) (hs:=[(y.b,G4 rb y)]) (os:=[]) (A0:=y.fr) (hs':=λ _=>[(y.b,G4 rb y)]) (os':=λ _=>[]) (Fc:=λ _=>[]) (hc:=λ w1 hw=>(Qu hw).mono λ _ _ ⟨e,h⟩=>⟨(),e,trivial,h⟩)) (λ x18 h18=>?_);refine aF (cE λ _=>cG (z:=rL false) (by kernel_rfl)) (λ x7=>?_);refine aL (cE λ _=>aC (old:=rL false) (cs:=rL true) rf bD rf rfl (by kernel_rfl) rf dI) (λ _=>?_);refine aD ?_;refine Lf ?_;refine J0 ?_;refine aA (fR (aN rf bD (by kernel_rfl))) rfl ?_;refine Ka7 ?_
 refine uD [8,9,10,11,12,13,15,20,21,22,23,24,25,26,27,28,29,30,31,32,33,34,35,36,37,38,39,40,41,42,43,44,45,46,47,48,49,50,51,52,53,54,55,56,57,58,59,60,61,62,63,64,65,66,67,68,69,70,71,72] (λ z:Nat×Option Addr×List Int×Nat=>[(20,.int .i64 ((z.1:Nat):Int)),(8,.slice z.2.1 z.2.2.1.length z.2.2.2)]) (λ z=>z.1<=129/\z.2.2.1.length<=100/\(0<z.1->0<z.2.2.1.length)/\(z.1=0->z.2.2.1=[])) (λ _=>_) (λ _=>_) (λ z=>[⟨z.2.1,lM z.2.2.1,z.2.2.2,5,1⟩]) (λ z=>129-z.1) ((0,none,[],0)) (⟨Nat.zero_le _,Nat.zero_le _,λ h=>absurd h (by decide),λ _=>rfl⟩) (λ z f hx=>?_) (hw0:=λ w hw=>(hw.gU 5 1))
 dsimp only[lP,List.map,List.cons_append,List.nil_append]
 obtain⟨hz1,hz2,hz3,hz4⟩:=hx
 refine Ka1 ?_
 refine aU (λ c21=>?_) (λ c21=>?_)
 ·try (first|contradiction|(exfalso;omega))
  refine Ka6 ?_;refine aA (tK (e:=4) (n:=129) (k:=z.1) (cs:=rL true) (v:=.bool (decide (z.1=0))) rf rf (by kernel_rfl) (by kernel_rfl) (by omega) (Mi (by omega))) rfl ?_;refine J8 ?_;refine gS ?_;refine wO ?_
  refine aU (λ c25=>?_) (λ c25=>?_)
  ·try (first|contradiction|(exfalso;omega))
   have hz0:z.1≠0:=by simpa using c25
   refine aX rfl ?_;refine Ka3 ?_
   refine zI (by exact(z.1+1,z.2)) ?_ (hμ:=by omega)
   ·exact⟨by omega,hz2,λ _=>hz3 (by omega),λ h=>absurd h (by omega)⟩
  ·try (first|contradiction|(exfalso;omega))
   have hz0:z.1=0:=by simpa using c25
   have hz5:((z.1:Nat):Int)=0:=by omega
   have hz6:=hz4 hz0
   have hz7:z.2.2.1.length=0:=by rw[hz6];rfl
   refine C5 ?_;refine aH (cM (V:=λ x:Option Addr×Nat=>.tuple #[.slice x.1 (List.length ([(fB,1)]:List (ByteArray×Int))) x.2,.bool false,.bool true]) (hs:=iX u (gF 1) (gL 1)) (os:=[]) (A0:=[]) (hs':=λ _=>iX u (gF 1) (gL 1)) (os':=λ _=>[]) (Fc:=λ x=>[(x.1,dR B3 [(fB,1)])]) (hc:=λ w1 hw=>by rw[hz5];exact A2 (.inr ⟨1,rfl,rfl,rfl⟩) hw)) (λ x29 h29=>?_);refine C9 ?_;refine iI ?_;refine bX (λ _=>?_);refine J8 ?_;refine gS ?_;refine wO ?_
   refine aU (λ c34=>?_) (λ c34=>?_)
   ·exact nv c34
   ·try (first|contradiction|(exfalso;omega))
    refine C5 ?_;refine aH (cM (V:=λ x:Option Addr×List Int×Nat=>.slice x.1 x.2.1.length x.2.2) (hs:=[]) (os:=[⟨z.2.1,lM z.2.2.1,z.2.2.2,5,1⟩]) (A0:=[]) (hs':=λ _=>[]) (os':=λ x=>[⟨x.1,lM x.2.1,x.2.2,5,1⟩]) (Fc:=λ _=>[]) (hc:=λ w1 hw=>vA (ns:=z.2.2.1) (n:=z.1) (.inl hz0) (by omega) hw)) (λ x37 h37=>?_);refine Kb7 ?_;refine aF (by exact gD λ _=>aP dB mH rf rf rf rf (by simp only[dQ,cI,List.cons_append,List.nil_append,List.append_nil];exact rfl)) (λ x39=>?_);(refine aF (aQ.cL (jU (ns:=x37.2.1) rf rf .head rfl (.new .head) dB (by kernel_rfl) (by show(List.length x37.2.1)+1<=_;skip;omega)) hP) (λ x40=>?_);try (refine eH (λ h40=>?_)));refine aB ?_;refine aH (cM (V:=λ x:Option Addr×List Int×Nat=>.slice x.1 x.2.1.length x.2.2) (hs:=[]) (os:=[⟨x40.1,lM (x37.2.1++[32]),x40.2,5,1⟩]) (A0:=[]) (hs':=λ _=>[]) (os':=λ x=>[⟨x.1,lM x.2.1,x.2.2,5,1⟩]) (Fc:=λ _=>[]) (hc:=λ w1 hw=>Cb (ns:=x37.2.1++[32]) (by have e1:=jM x37.2.1 32;omega) hw)) (λ x42 h42=>?_);refine Kc7 ?_;refine Ka8 ?_;refine cJ ?_;refine Ka1 ?_
    refine aU (λ c46=>?_) (λ c46=>?_)
    ·try (first|contradiction|(exfalso;omega))
     refine Kd2 ?_;refine aA (aY (f:=B3) (l:=[(fB,1)]) (k:=0) rQ (by decide) rf rf dJ cY (.new (.tail .head)) (by decide) (by decide)) rfl ?_;refine aA (cH (f:=B3) (l:=[(fB,1)]) (k:=0) rQ rf cY (.new (.tail .head)) rfl) rfl ?_;refine aF (cE λ _=>cG (z:=B3 (⟨#[]⟩,0)) (by kernel_rfl)) (λ x15=>?_);refine aL (cE λ _=>aC (old:=B3 (⟨#[]⟩,0)) (cs:=B3 (fB,1)) rf bD rf rfl (by kernel_rfl) rf dI) (λ _=>?_);refine pT ?_;refine eG [(0,[]),(3,[]),(4,[]),(5,[]),(1,[4]),(2,[4]),(6,[]),(7,[])] ?_;refine aR ?_;refine gY ?_;refine H9 ?_;refine bZ (i:=1) (hq:=(by exact gD λ _=>aP dB mH rf rf rf rf (by simp only[dQ,cI,List.cons_append,List.nil_append,List.append_nil];exact rfl))) (h:=λ x50=>?_);((refine bZ (i:=2) (hq:=(aQ.cL (jU (ns:=x42.2.1) rf rf .head rfl (.new .head) dB (by kernel_rfl) (by show(List.length x42.2.1)+1<=_;have e1:=jM x37.2.1 32;omega)) hP)) (h:=λ x51=>?_);try (refine eR (λ h51=>?_))));refine bS (i:=6) (hq:=(cM (V:=λ x:Option Addr×List Int×Nat=>.slice x.1 x.2.1.length x.2.2) (hs:=[]) (os:=[⟨x51.1,lM (x42.2.1++[32]),x51.2,5,1⟩]) (A0:=[]) (hs':=λ _=>[]) (os':=λ x=>[⟨x.1,lM x.2.1,x.2.2,5,1⟩]) (Fc:=λ _=>[]) (hc:=λ w1 hw=>vA (ns:=x42.2.1++[32]) (n:=1) (.inr (.inl rfl)) (by have e1:=jM x37.2.1 32;have e2:=jM x42.2.1 32;omega) hw))) (h:=λ x55 h55=>?_);refine J7 ?_;refine aJ ?_;refine eG [(0,[]),(3,[]),(4,[]),(1,[4]),(2,[4]),(5,[]),(6,[])] ?_;refine aR ?_;refine gY ?_;refine bZ (i:=1) (hq:=(by exact gD λ _=>aP dB mH rf rf rf rf (by simp only[dQ,cI,List.cons_append,List.nil_append,List.append_nil];exact rfl))) (h:=λ x57=>?_);((refine bZ (i:=2) (hq:=(aQ.cL (jU (ns:=x55.2.1) rf rf .head rfl (.new .head) dB (by kernel_rfl) (by show(List.length x55.2.1)+1<=_;have e1:=jM x37.2.1 32;have e2:=jM x42.2.1 32;omega)) hP)) (h:=λ x58=>?_);try (refine eR (λ h58=>?_))));((refine bZ (i:=5) (hq:=(aQ.cL (zZ (ns:=x55.2.1++[32]) (s:=fB) rf rf .head rfl (by decide) dB (by kernel_rfl) (by show(x55.2.1++[32]).length+1<=_;have e1:=jM x37.2.1 32;have e2:=jM x42.2.1 32;have e3:=jM x55.2.1 32;omega)) hP)) (h:=λ x61=>?_);try (refine eR (λ h61=>?_))));refine J7 ?_;refine eG [(0,[]),(3,[]),(4,[]),(1,[4]),(2,[4]),(5,[]),(6,[])] ?_;refine aR ?_;refine gY ?_;refine bZ (i:=1) (hq:=(by exact gD λ _=>aP dB mH rf rf rf rf (by simp only[dQ,cI,List.cons_append,List.nil_append,List.append_nil];exact rfl))) (h:=λ x63=>?_);((refine bZ (i:=2) (hq:=(aQ.cL (jU (ns:=(x55.2.1++[32]++eS fB)) rf rf .head rfl (.new .head) dB (by kernel_rfl) (by show(List.length (x55.2.1++[32]++eS fB))+1<=_;have e1:=jM x37.2.1 32;have e2:=jM x42.2.1 32;have e3:=jM x55.2.1 32;have e4:=W2 (x55.2.1++[32]);omega)) hP)) (h:=λ x64=>?_);try (refine eR (λ h64=>?_))));refine bS (i:=5) (hq:=(cM (V:=λ x:Option Addr×List Int×Nat=>.slice x.1 x.2.1.length x.2.2) (hs:=[]) (os:=[⟨x64.1,lM (x55.2.1++[32]++eS fB++[32]),x64.2,5,1⟩]) (A0:=[]) (hs':=λ _=>[]) (os':=λ x=>[⟨x.1,lM x.2.1,x.2.2,5,1⟩]) (Fc:=λ _=>[]) (hc:=λ w1 hw=>I1 (ns:=x55.2.1++[32]++eS fB++[32]) (n:=1) (.inr (.inl rfl)) (by have e1:=jM x37.2.1 32;have e2:=jM x42.2.1 32;have e3:=jM x55.2.1 32;have e4:=W2 (x55.2.1++[32]);have e5:=jM (x55.2.1++[32]++eS fB) 32;omega) hw))) (h:=λ x67 h67=>?_);refine J7 ?_;refine Ka9 ?_;refine bH ?_;refine Ka1 ?_
     refine aU (λ c46=>?_) (λ c46=>?_)
     ·exact nv c46
     ·try (first|contradiction|(exfalso;omega))
      refine aX rfl ?_;refine Gt ?_;refine aF (by exact gD λ _=>aP dB mH rf rf rf rf (by simp only[dQ,cI,List.cons_append,List.nil_append,List.append_nil];exact rfl)) (λ x70=>?_);(refine aF (aQ.cL (jU (ns:=x67.2.1) rf rf .head rfl (.new .head) dB (by kernel_rfl) (by show(List.length x67.2.1)+1<=_;have e1:=jM x37.2.1 32;have e2:=jM x42.2.1 32;have e3:=jM x55.2.1 32;have e4:=W2 (x55.2.1++[32]);have e5:=jM (x55.2.1++[32]++eS fB) 32;omega)) hP) (λ x71=>?_);try (refine eH (λ h71=>?_)));refine Kd7 ?_
      refine zI (by exact(z.1+1,x71.1,x67.2.1++[10],x71.2)) ?_ (hμ:=by omega)
      ·(exact⟨by omega,by show List.length (x67.2.1++[10])<=100;have e1:=jM x37.2.1 32;have e2:=jM x42.2.1 32;have e3:=jM x55.2.1 32;have e4:=W2 (x55.2.1++[32]);have e5:=jM (x55.2.1++[32]++eS fB) 32;have e6:=jM x67.2.1 10;omega,λ _=>by show 0<List.length (x67.2.1++[10]);have e1:=jM x37.2.1 32;have e2:=jM x42.2.1 32;have e3:=jM x55.2.1 32;have e4:=W2 (x55.2.1++[32]);have e5:=jM (x55.2.1++[32]++eS fB) 32;have e6:=jM x67.2.1 10;omega,λ h=>absurd h (Nat.succ_ne_zero _)⟩)
    ·exact nv c46
 ·try (first|contradiction|(exfalso;omega))
  refine aX rfl ?_;refine J2 ?_;refine aF (Bp (e:=5) (ns:=z.2.2.1) rf (.own .head) rfl (by omega) (by kernel_rfl) (by kernel_rfl) (by kernel_rfl)) (λ x74=>?_);refine J1 ?_
  refine bE Tryz.results48 (λ w hw=>?_)
  exact⟨x74,rfl,trivial,hw.ret (by repeat (first|exact List.Sublist.refl _|apply List.Sublist.cons)) bL.nil (List.nil_sublist _)⟩
set_option maxRecDepth 100000 in
theorem Xw(hs:SF w D (Q8 rb y u (gF 2) (gL 2)) y.fr [] [] w):Calls Tryz.prog 48 #[pt y.b,.int .u32 3,pt u.b] w λ e w'=>∃s:ByteArray,e=.returned (.string s)/\True/\SF w D (Q8 rb y u (gF 2) (gL 2)) [] [] [] w':=by
 refine enter Tryz.func48 Tryz.ntmps48 rfl rfl hs ?_
 simp only[cP]
 refine dW ?_;refine mL ?_;refine aH (cM (φ:=λ _=>True) (V:=λ _:Unit=>.agg ⟨rL true⟩) (hs:=[(y.b,G4 rb y)]) (os:=[]) (A0:=y.fr) (hs':=λ _=>[(y.b,G4 rb y)]) (os':=λ _=>[]) (Fc:=λ _=>[]) (hc:=λ w1 hw=>(Pv hw).mono λ _ _ ⟨e,h⟩=>⟨(),e,trivial,h⟩)) (λ x18 h18=>?_);refine aF (cE λ _=>cG (z:=rL false) (by kernel_rfl)) (λ x7=>?_);refine aL (cE λ _=>aC (old:=rL false) (cs:=rL true) rf bD rf rfl (by kernel_rfl) rf dI) (λ _=>?_);refine aD ?_;refine Lf ?_;refine J0 ?_;refine aA (fR (aN rf bD (by kernel_rfl))) rfl ?_;refine Ka7 ?_
 refine uD [8,9,10,11,12,13,15,20,21,22,23,24,25,26,27,28,29,30,31,32,33,34,35,36,37,38,39,40,41,42,43,44,45,46,47,48,49,50,51,52,53,54,55,56,57,58,59,60,61,62,63,64,65,66,67,68,69,70,71,72] (λ z:Nat×Option Addr×List Int×Nat=>[(20,.int .i64 ((z.1:Nat):Int)),(8,.slice z.2.1 z.2.2.1.length z.2.2.2)]) (λ z=>z.1<=129/\z.2.2.1.length<=100/\(0<z.1->0<z.2.2.1.length)/\(z.1=0->z.2.2.1=[])) (λ _=>_) (λ _=>_) (λ z=>[⟨z.2.1,lM z.2.2.1,z.2.2.2,5,1⟩]) (λ z=>129-z.1) ((0,none,[],0)) (⟨Nat.zero_le _,Nat.zero_le _,λ h=>absurd h (by decide),λ _=>rfl⟩) (λ z f hx=>?_) (hw0:=λ w hw=>(hw.gU 5 1))
 dsimp only[lP,List.map,List.cons_append,List.nil_append]
 obtain⟨hz1,hz2,hz3,hz4⟩:=hx
 refine Ka1 ?_
 refine aU (λ c21=>?_) (λ c21=>?_)
 ·try (first|contradiction|(exfalso;omega))
  refine Ka6 ?_;refine aA (tK (e:=4) (n:=129) (k:=z.1) (cs:=rL true) (v:=.bool (decide (z.1=0))) rf rf (by kernel_rfl) (by kernel_rfl) (by omega) (Mi (by omega))) rfl ?_;refine J8 ?_;refine gS ?_;refine wO ?_
  refine aU (λ c25=>?_) (λ c25=>?_)
  ·try (first|contradiction|(exfalso;omega))
   have hz0:z.1≠0:=by simpa using c25
   refine aX rfl ?_;refine Ka3 ?_
   refine zI (by exact(z.1+1,z.2)) ?_ (hμ:=by omega)
   ·exact⟨by omega,hz2,λ _=>hz3 (by omega),λ h=>absurd h (by omega)⟩
  ·try (first|contradiction|(exfalso;omega))
   have hz0:z.1=0:=by simpa using c25
   have hz5:((z.1:Nat):Int)=0:=by omega
   have hz6:=hz4 hz0
   have hz7:z.2.2.1.length=0:=by rw[hz6];rfl
   refine C5 ?_;refine aH (cM (V:=λ x:Option Addr×Nat=>.tuple #[.slice x.1 (List.length ([(fB,2)]:List (ByteArray×Int))) x.2,.bool false,.bool true]) (hs:=iX u (gF 2) (gL 2)) (os:=[]) (A0:=[]) (hs':=λ _=>iX u (gF 2) (gL 2)) (os':=λ _=>[]) (Fc:=λ x=>[(x.1,dR B3 [(fB,2)])]) (hc:=λ w1 hw=>by rw[hz5];exact A2 (.inr ⟨2,rfl,rfl,rfl⟩) hw)) (λ x29 h29=>?_);refine C9 ?_;refine iI ?_;refine bX (λ _=>?_);refine J8 ?_;refine gS ?_;refine wO ?_
   refine aU (λ c34=>?_) (λ c34=>?_)
   ·exact nv c34
   ·try (first|contradiction|(exfalso;omega))
    refine C5 ?_;refine aH (cM (V:=λ x:Option Addr×List Int×Nat=>.slice x.1 x.2.1.length x.2.2) (hs:=[]) (os:=[⟨z.2.1,lM z.2.2.1,z.2.2.2,5,1⟩]) (A0:=[]) (hs':=λ _=>[]) (os':=λ x=>[⟨x.1,lM x.2.1,x.2.2,5,1⟩]) (Fc:=λ _=>[]) (hc:=λ w1 hw=>vA (ns:=z.2.2.1) (n:=z.1) (.inl hz0) (by omega) hw)) (λ x37 h37=>?_);refine Kb7 ?_;refine aF (by exact gD λ _=>aP dB mH rf rf rf rf (by simp only[dQ,cI,List.cons_append,List.nil_append,List.append_nil];exact rfl)) (λ x39=>?_);(refine aF (aQ.cL (jU (ns:=x37.2.1) rf rf .head rfl (.new .head) dB (by kernel_rfl) (by show(List.length x37.2.1)+1<=_;skip;omega)) hP) (λ x40=>?_);try (refine eH (λ h40=>?_)));refine aB ?_;refine aH (cM (V:=λ x:Option Addr×List Int×Nat=>.slice x.1 x.2.1.length x.2.2) (hs:=[]) (os:=[⟨x40.1,lM (x37.2.1++[32]),x40.2,5,1⟩]) (A0:=[]) (hs':=λ _=>[]) (os':=λ x=>[⟨x.1,lM x.2.1,x.2.2,5,1⟩]) (Fc:=λ _=>[]) (hc:=λ w1 hw=>Cb (ns:=x37.2.1++[32]) (by have e1:=jM x37.2.1 32;omega) hw)) (λ x42 h42=>?_);refine Kc7 ?_;refine Ka8 ?_;refine cJ ?_;refine Ka1 ?_
    refine aU (λ c46=>?_) (λ c46=>?_)
    ·try (first|contradiction|(exfalso;omega))
     refine Kd2 ?_;refine aA (aY (f:=B3) (l:=[(fB,2)]) (k:=0) rQ (by decide) rf rf dJ cY (.new (.tail .head)) (by decide) (by decide)) rfl ?_;refine aA (cH (f:=B3) (l:=[(fB,2)]) (k:=0) rQ rf cY (.new (.tail .head)) rfl) rfl ?_;refine aF (cE λ _=>cG (z:=B3 (⟨#[]⟩,0)) (by kernel_rfl)) (λ x15=>?_);refine aL (cE λ _=>aC (old:=B3 (⟨#[]⟩,0)) (cs:=B3 (fB,2)) rf bD rf rfl (by kernel_rfl) rf dI) (λ _=>?_);refine pT ?_;refine eG [(0,[]),(3,[]),(4,[]),(5,[]),(1,[4]),(2,[4]),(6,[]),(7,[])] ?_;refine aR ?_;refine gY ?_;refine H9 ?_;refine bZ (i:=1) (hq:=(by exact gD λ _=>aP dB mH rf rf rf rf (by simp only[dQ,cI,List.cons_append,List.nil_append,List.append_nil];exact rfl))) (h:=λ x50=>?_);((refine bZ (i:=2) (hq:=(aQ.cL (jU (ns:=x42.2.1) rf rf .head rfl (.new .head) dB (by kernel_rfl) (by show(List.length x42.2.1)+1<=_;have e1:=jM x37.2.1 32;omega)) hP)) (h:=λ x51=>?_);try (refine eR (λ h51=>?_))));refine bS (i:=6) (hq:=(cM (V:=λ x:Option Addr×List Int×Nat=>.slice x.1 x.2.1.length x.2.2) (hs:=[]) (os:=[⟨x51.1,lM (x42.2.1++[32]),x51.2,5,1⟩]) (A0:=[]) (hs':=λ _=>[]) (os':=λ x=>[⟨x.1,lM x.2.1,x.2.2,5,1⟩]) (Fc:=λ _=>[]) (hc:=λ w1 hw=>vA (ns:=x42.2.1++[32]) (n:=1) (.inr (.inl rfl)) (by have e1:=jM x37.2.1 32;have e2:=jM x42.2.1 32;omega) hw))) (h:=λ x55 h55=>?_);refine J7 ?_;refine aJ ?_;refine eG [(0,[]),(3,[]),(4,[]),(1,[4]),(2,[4]),(5,[]),(6,[])] ?_;refine aR ?_;refine gY ?_;refine bZ (i:=1) (hq:=(by exact gD λ _=>aP dB mH rf rf rf rf (by simp only[dQ,cI,List.cons_append,List.nil_append,List.append_nil];exact rfl))) (h:=λ x57=>?_);((refine bZ (i:=2) (hq:=(aQ.cL (jU (ns:=x55.2.1) rf rf .head rfl (.new .head) dB (by kernel_rfl) (by show(List.length x55.2.1)+1<=_;have e1:=jM x37.2.1 32;have e2:=jM x42.2.1 32;omega)) hP)) (h:=λ x58=>?_);try (refine eR (λ h58=>?_))));((refine bZ (i:=5) (hq:=(aQ.cL (zZ (ns:=x55.2.1++[32]) (s:=fB) rf rf .head rfl (by decide) dB (by kernel_rfl) (by show(x55.2.1++[32]).length+1<=_;have e1:=jM x37.2.1 32;have e2:=jM x42.2.1 32;have e3:=jM x55.2.1 32;omega)) hP)) (h:=λ x61=>?_);try (refine eR (λ h61=>?_))));refine J7 ?_;refine eG [(0,[]),(3,[]),(4,[]),(1,[4]),(2,[4]),(5,[]),(6,[])] ?_;refine aR ?_;refine gY ?_;refine bZ (i:=1) (hq:=(by exact gD λ _=>aP dB mH rf rf rf rf (by simp only[dQ,cI,List.cons_append,List.nil_append,List.append_nil];exact rfl))) (h:=λ x63=>?_);((refine bZ (i:=2) (hq:=(aQ.cL (jU (ns:=(x55.2.1++[32]++eS fB)) rf rf .head rfl (.new .head) dB (by kernel_rfl) (by show(List.length (x55.2.1++[32]++eS fB))+1<=_;have e1:=jM x37.2.1 32;have e2:=jM x42.2.1 32;have e3:=jM x55.2.1 32;have e4:=W2 (x55.2.1++[32]);omega)) hP)) (h:=λ x64=>?_);try (refine eR (λ h64=>?_))));refine bS (i:=5) (hq:=(cM (V:=λ x:Option Addr×List Int×Nat=>.slice x.1 x.2.1.length x.2.2) (hs:=[]) (os:=[⟨x64.1,lM (x55.2.1++[32]++eS fB++[32]),x64.2,5,1⟩]) (A0:=[]) (hs':=λ _=>[]) (os':=λ x=>[⟨x.1,lM x.2.1,x.2.2,5,1⟩]) (Fc:=λ _=>[]) (hc:=λ w1 hw=>I1 (ns:=x55.2.1++[32]++eS fB++[32]) (n:=2) (.inr (.inr rfl)) (by have e1:=jM x37.2.1 32;have e2:=jM x42.2.1 32;have e3:=jM x55.2.1 32;have e4:=W2 (x55.2.1++[32]);have e5:=jM (x55.2.1++[32]++eS fB) 32;omega) hw))) (h:=λ x67 h67=>?_);refine J7 ?_;refine Ka9 ?_;refine bH ?_;refine Ka1 ?_
     refine aU (λ c46=>?_) (λ c46=>?_)
     ·exact nv c46
     ·try (first|contradiction|(exfalso;omega))
      refine aX rfl ?_;refine Gt ?_;refine aF (by exact gD λ _=>aP dB mH rf rf rf rf (by simp only[dQ,cI,List.cons_append,List.nil_append,List.append_nil];exact rfl)) (λ x70=>?_);(refine aF (aQ.cL (jU (ns:=x67.2.1) rf rf .head rfl (.new .head) dB (by kernel_rfl) (by show(List.length x67.2.1)+1<=_;have e1:=jM x37.2.1 32;have e2:=jM x42.2.1 32;have e3:=jM x55.2.1 32;have e4:=W2 (x55.2.1++[32]);have e5:=jM (x55.2.1++[32]++eS fB) 32;omega)) hP) (λ x71=>?_);try (refine eH (λ h71=>?_)));refine Kd7 ?_
      refine zI (by exact(z.1+1,x71.1,x67.2.1++[10],x71.2)) ?_ (hμ:=by omega)
      ·(exact⟨by omega,by show List.length (x67.2.1++[10])<=100;have e1:=jM x37.2.1 32;have e2:=jM x42.2.1 32;have e3:=jM x55.2.1 32;have e4:=W2 (x55.2.1++[32]);have e5:=jM (x55.2.1++[32]++eS fB) 32;have e6:=jM x67.2.1 10;omega,λ _=>by show 0<List.length (x67.2.1++[10]);have e1:=jM x37.2.1 32;have e2:=jM x42.2.1 32;have e3:=jM x55.2.1 32;have e4:=W2 (x55.2.1++[32]);have e5:=jM (x55.2.1++[32]++eS fB) 32;have e6:=jM x67.2.1 10;omega,λ h=>absurd h (Nat.succ_ne_zero _)⟩)
    ·exact nv c46
 ·try (first|contradiction|(exfalso;omega))
  refine aX rfl ?_;refine J2 ?_;refine aF (Bp (e:=5) (ns:=z.2.2.1) rf (.own .head) rfl (by omega) (by kernel_rfl) (by kernel_rfl) (by kernel_rfl)) (λ x74=>?_);refine J1 ?_
  refine bE Tryz.results48 (λ w hw=>?_)
  exact⟨x74,rfl,trivial,hw.ret (by repeat (first|exact List.Sublist.refl _|apply List.Sublist.cons)) bL.nil (List.nil_sublist _)⟩
end
end Go.Proofs.YtnilhhnfjfdokaaGreatDoor
