/- Executions of the reference: a call. -/
import Derived.Test.YtadnboagdhcedaaGreatDoorGEx20
set_option linter.unusedSimpArgs false
set_option linter.unusedVariables false
namespace Go.Proofs.YtadnboagdhcedaaGreatDoor
open Go Go.RowKit Go.Ct
abbrev Rt(k:Cl):List Value:=[.int .i64 k.kind,.int .i64 k.t.root,.bool k.t.ro,.int .i64 k.a,.int .i64 k.b,.int .i64 k.n,.int .i64 k.index,.int .u64 k.hash,.int .u64 k.mask,.string k.key,.int .u64 k.val,.int .u64 k.exp,.int .i64 k.Is,.bool k.only,.bool false,.slice none 0 0,.slice none 0 0,.int .i64 0,.bool false,.int .u64 0,.string ⟨#[]⟩,.int .i64 0,.int .i64 0,.int .i64 0,.bool false]
def tw(k:Cl):Prop:=(1<=k.kind/\k.kind<=4)∨(7<=k.kind/\k.kind<=12)
theorem bR{k:Cl}(h:k.kind=7∨k.kind=9):refuse k=if k.key.size<=64 then 0 else 1:=if_pos h
theorem cD{k:Cl}(h:k.kind=8):refuse k=if k.key.size<=64/\0<=k.Is/\k.Is<=3 then 0 else 1:=(if_neg (by omega)).trans (if_pos h)
theorem fI{k:Cl}(h:k.kind<7∨9<k.kind):refuse k=0:=(if_neg (by omega)).trans (if_neg (by omega))
theorem Xc{k:Cl}(hk:tw k)(w:World):Calls Tryz.prog 80 #[.agg ⟨Rt k⟩] w λ e w'=>e=.returned (.int .i64 (refuse k))/\St w [] [] w':=by
 have hk2:=hk;unfold tw at hk2;refine enter Tryz.func80 Tryz.ntmps80 rfl rfl (SF.s0 w) ?_;simp only[cP]
 refine K1k ?_;intro x1;refine gX ?_;refine gH ?_;refine Kc3 ?_;refine aV ?_;refine jM ?_;refine bA (λ c5=>?_) (λ c5=>?_)
 ·refine bB ?_;refine bA (λ c5=>?_) (λ c5=>?_)
  ·refine gH ?_;refine aS (cV (hc:=λ w1 hw=>nW _ w1)) (λ x10=>?_);refine lA ?_;refine bA (λ c11=>?_) (λ c11=>?_)
   ·refine cR ?_;refine K1i ?_;intro w hw;first
    | (rw[bR (by omega),if_neg (by simp_all)];exact⟨rfl,hw.done⟩)
    | (rw[bR (by omega),if_pos (by simp_all)];exact⟨rfl,hw.done⟩)
    | (rw[cD (by omega),if_neg (by rintro ⟨h1,h2,h3⟩;first|omega|simp_all)];exact⟨rfl,hw.done⟩)
    | (rw[cD (by omega),if_pos ⟨by simp_all,by omega,by omega⟩];exact⟨rfl,hw.done⟩)
    | (rw[fI (by omega)];exact⟨rfl,hw.done⟩)
    | (exfalso;omega)
   ·refine Kb6 ?_;refine K1i ?_;intro w hw;first
    | (rw[bR (by omega),if_neg (by simp_all)];exact⟨rfl,hw.done⟩)
    | (rw[bR (by omega),if_pos (by simp_all)];exact⟨rfl,hw.done⟩)
    | (rw[cD (by omega),if_neg (by rintro ⟨h1,h2,h3⟩;first|omega|simp_all)];exact⟨rfl,hw.done⟩)
    | (rw[cD (by omega),if_pos ⟨by simp_all,by omega,by omega⟩];exact⟨rfl,hw.done⟩)
    | (rw[fI (by omega)];exact⟨rfl,hw.done⟩)
    | (exfalso;omega)
  ·refine jM ?_;refine bA (λ c12=>?_) (λ c12=>?_)
   ·refine gH ?_;refine aS (cV (hc:=λ w1 hw=>nW _ w1)) (λ x16=>?_);refine C6 ?_;(refine eM 18 (λ g18=>?_) (λ g18=>?_)<;>refine Ka1 ?_);all_goals (refine xw ?_;refine aB ?_)
    all_goals (first|refine aJ ?_|(refine eM 23 (λ g23=>?_) (λ g23=>?_)<;>refine Ka1 ?_))
    all_goals (refine Ka2 ?_;refine Kb2 ?_)
    all_goals
    refine bA (λ c27=>?_) (λ c27=>?_)
    ·all_goals refine cR ?_
     all_goals
      refine K1i ?_;intro w hw;first
      | (rw[bR (by omega),if_neg (by simp_all)];exact⟨rfl,hw.done⟩)
      | (rw[bR (by omega),if_pos (by simp_all)];exact⟨rfl,hw.done⟩)
      | (rw[cD (by omega),if_neg (by rintro ⟨h1,h2,h3⟩;first|omega|simp_all)];exact⟨rfl,hw.done⟩)
      | (rw[cD (by omega),if_pos ⟨by simp_all,by omega,by omega⟩];exact⟨rfl,hw.done⟩)
      | (rw[fI (by omega)];exact⟨rfl,hw.done⟩)
      | (exfalso;omega)
    ·try exact nv c27
     all_goals (refine Kb6 ?_)
     all_goals
      refine K1i ?_;intro w hw;first
      | (rw[bR (by omega),if_neg (by simp_all)];exact⟨rfl,hw.done⟩)
      | (rw[bR (by omega),if_pos (by simp_all)];exact⟨rfl,hw.done⟩)
      | (rw[cD (by omega),if_neg (by rintro ⟨h1,h2,h3⟩;first|omega|simp_all)];exact⟨rfl,hw.done⟩)
      | (rw[cD (by omega),if_pos ⟨by simp_all,by omega,by omega⟩];exact⟨rfl,hw.done⟩)
      | (rw[fI (by omega)];exact⟨rfl,hw.done⟩)
      | (exfalso;omega)
   ·refine aV ?_;refine jM ?_;refine bA (λ c28=>?_) (λ c28=>?_)
    ·refine bB ?_;refine bA (λ c28=>?_) (λ c28=>?_)
     ·refine J0 ?_;refine Kc5 ?_;refine lA ?_;refine bA (λ c34=>?_) (λ c34=>?_)
      ·refine cR ?_;refine K1i ?_;intro w hw;first
       | (rw[bR (by omega),if_neg (by simp_all)];exact⟨rfl,hw.done⟩)
       | (rw[bR (by omega),if_pos (by simp_all)];exact⟨rfl,hw.done⟩)
       | (rw[cD (by omega),if_neg (by rintro ⟨h1,h2,h3⟩;omega)];exact⟨rfl,hw.done⟩)
       | (rw[cD (by omega),if_pos ⟨by simp_all,by omega,by omega⟩];exact⟨rfl,hw.done⟩)
       | (rw[fI (by omega)];exact⟨rfl,hw.done⟩)
       | (exfalso;omega)
      ·refine Kb6 ?_;refine K1i ?_;intro w hw;first
       | (rw[bR (by omega),if_neg (by simp_all)];exact⟨rfl,hw.done⟩)
       | (rw[bR (by omega),if_pos (by simp_all)];exact⟨rfl,hw.done⟩)
       | (rw[cD (by omega),if_neg (by rintro ⟨h1,h2,h3⟩;first|omega|simp_all)];exact⟨rfl,hw.done⟩)
       | (rw[cD (by omega),if_pos ⟨by simp_all,by omega,by omega⟩];exact⟨rfl,hw.done⟩)
       | (rw[fI (by omega)];exact⟨rfl,hw.done⟩)
       | (exfalso;omega)
     ·refine Kb6 ?_;refine K1i ?_;intro w hw;first
      | (rw[bR (by omega),if_neg (by simp_all)];exact⟨rfl,hw.done⟩)
      | (rw[bR (by omega),if_pos (by simp_all)];exact⟨rfl,hw.done⟩)
      | (rw[cD (by omega),if_neg (by rintro ⟨h1,h2,h3⟩;first|omega|simp_all)];exact⟨rfl,hw.done⟩)
      | (rw[cD (by omega),if_pos ⟨by simp_all,by omega,by omega⟩];exact⟨rfl,hw.done⟩)
      | (rw[fI (by omega)];exact⟨rfl,hw.done⟩)
      | (exfalso;omega)
    ·refine dM ?_;refine Oa ?_;refine bA (λ c28=>?_) (λ c28=>?_)
     ·refine J0 ?_;refine Kc5 ?_;refine lA ?_;refine bA (λ c34=>?_) (λ c34=>?_)
      ·refine cR ?_;refine K1i ?_;intro w hw;first
       | (rw[bR (by omega),if_neg (by simp_all)];exact⟨rfl,hw.done⟩)
       | (rw[bR (by omega),if_pos (by simp_all)];exact⟨rfl,hw.done⟩)
       | (rw[cD (by omega),if_neg (by rintro ⟨h1,h2,h3⟩;omega)];exact⟨rfl,hw.done⟩)
       | (rw[cD (by omega),if_pos ⟨by simp_all,by omega,by omega⟩];exact⟨rfl,hw.done⟩)
       | (rw[fI (by omega)];exact⟨rfl,hw.done⟩)
       | (exfalso;omega)
      ·refine Kb6 ?_;refine K1i ?_;intro w hw;first
       | (rw[bR (by omega),if_neg (by simp_all)];exact⟨rfl,hw.done⟩)
       | (rw[bR (by omega),if_pos (by simp_all)];exact⟨rfl,hw.done⟩)
       | (rw[cD (by omega),if_neg (by rintro ⟨h1,h2,h3⟩;first|omega|simp_all)];exact⟨rfl,hw.done⟩)
       | (rw[cD (by omega),if_pos ⟨by simp_all,by omega,by omega⟩];exact⟨rfl,hw.done⟩)
       | (rw[fI (by omega)];exact⟨rfl,hw.done⟩)
       | (exfalso;omega)
     ·refine Kb6 ?_;refine K1i ?_;intro w hw;first
      | (rw[bR (by omega),if_neg (by simp_all)];exact⟨rfl,hw.done⟩)
      | (rw[bR (by omega),if_pos (by simp_all)];exact⟨rfl,hw.done⟩)
      | (rw[cD (by omega),if_neg (by rintro ⟨h1,h2,h3⟩;first|omega|simp_all)];exact⟨rfl,hw.done⟩)
      | (rw[cD (by omega),if_pos ⟨by simp_all,by omega,by omega⟩];exact⟨rfl,hw.done⟩)
      | (rw[fI (by omega)];exact⟨rfl,hw.done⟩)
      | (exfalso;omega)
 ·refine dM ?_;refine Oa ?_;refine bA (λ c5=>?_) (λ c5=>?_)
  ·refine gH ?_;refine aS (cV (hc:=λ w1 hw=>nW _ w1)) (λ x10=>?_);refine lA ?_;refine bA (λ c11=>?_) (λ c11=>?_)
   ·refine cR ?_;refine K1i ?_;intro w hw;first
    | (rw[bR (by omega),if_neg (by simp_all)];exact⟨rfl,hw.done⟩)
    | (rw[bR (by omega),if_pos (by simp_all)];exact⟨rfl,hw.done⟩)
    | (rw[cD (by omega),if_neg (by rintro ⟨h1,h2,h3⟩;first|omega|simp_all)];exact⟨rfl,hw.done⟩)
    | (rw[cD (by omega),if_pos ⟨by simp_all,by omega,by omega⟩];exact⟨rfl,hw.done⟩)
    | (rw[fI (by omega)];exact⟨rfl,hw.done⟩)
    | (exfalso;omega)
   ·refine Kb6 ?_;refine K1i ?_;intro w hw;first
    | (rw[bR (by omega),if_neg (by simp_all)];exact⟨rfl,hw.done⟩)
    | (rw[bR (by omega),if_pos (by simp_all)];exact⟨rfl,hw.done⟩)
    | (rw[cD (by omega),if_neg (by rintro ⟨h1,h2,h3⟩;first|omega|simp_all)];exact⟨rfl,hw.done⟩)
    | (rw[cD (by omega),if_pos ⟨by simp_all,by omega,by omega⟩];exact⟨rfl,hw.done⟩)
    | (rw[fI (by omega)];exact⟨rfl,hw.done⟩)
    | (exfalso;omega)
  ·refine jM ?_;refine bA (λ c12=>?_) (λ c12=>?_)
   ·refine gH ?_;refine aS (cV (hc:=λ w1 hw=>nW _ w1)) (λ x16=>?_);refine C6 ?_;(refine eM 18 (λ g18=>?_) (λ g18=>?_)<;>refine Ka1 ?_);all_goals (refine xw ?_;refine aB ?_)
    all_goals (first|refine aJ ?_|(refine eM 23 (λ g23=>?_) (λ g23=>?_)<;>refine Ka1 ?_))
    all_goals (refine Ka2 ?_;refine Kb2 ?_)
    all_goals
    refine bA (λ c27=>?_) (λ c27=>?_)
    ·all_goals refine cR ?_
     all_goals
      refine K1i ?_;intro w hw;first
      | (rw[bR (by omega),if_neg (by simp_all)];exact⟨rfl,hw.done⟩)
      | (rw[bR (by omega),if_pos (by simp_all)];exact⟨rfl,hw.done⟩)
      | (rw[cD (by omega),if_neg (by rintro ⟨h1,h2,h3⟩;omega)];exact⟨rfl,hw.done⟩)
      | (rw[cD (by omega),if_pos ⟨by simp_all,by omega,by omega⟩];exact⟨rfl,hw.done⟩)
      | (rw[fI (by omega)];exact⟨rfl,hw.done⟩)
      | (exfalso;omega)
    ·try exact nv c27
     all_goals (refine Kb6 ?_)
     all_goals
      refine K1i ?_;intro w hw;first
      | (rw[bR (by omega),if_neg (by simp_all)];exact⟨rfl,hw.done⟩)
      | (rw[bR (by omega),if_pos (by simp_all)];exact⟨rfl,hw.done⟩)
      | (rw[cD (by omega),if_neg (by rintro ⟨h1,h2,h3⟩;simp_all)];exact⟨rfl,hw.done⟩)
      | (rw[cD (by omega),if_pos ⟨by simp_all,by omega,by omega⟩];exact⟨rfl,hw.done⟩)
      | (rw[fI (by omega)];exact⟨rfl,hw.done⟩)
      | (exfalso;omega)
   ·refine aV ?_;refine jM ?_;refine bA (λ c28=>?_) (λ c28=>?_)
    ·refine bB ?_;refine bA (λ c28=>?_) (λ c28=>?_)
     ·refine J0 ?_;refine Kc5 ?_;refine lA ?_;refine bA (λ c34=>?_) (λ c34=>?_)
      ·refine cR ?_;refine K1i ?_;intro w hw;first
       | (rw[bR (by omega),if_neg (by simp_all)];exact⟨rfl,hw.done⟩)
       | (rw[bR (by omega),if_pos (by simp_all)];exact⟨rfl,hw.done⟩)
       | (rw[cD (by omega),if_neg (by rintro ⟨h1,h2,h3⟩;omega)];exact⟨rfl,hw.done⟩)
       | (rw[cD (by omega),if_pos ⟨by simp_all,by omega,by omega⟩];exact⟨rfl,hw.done⟩)
       | (rw[fI (by omega)];exact⟨rfl,hw.done⟩)
       | (exfalso;omega)
      ·refine Kb6 ?_;refine K1i ?_;intro w hw;first
       | (rw[bR (by omega),if_neg (by simp_all)];exact⟨rfl,hw.done⟩)
       | (rw[bR (by omega),if_pos (by simp_all)];exact⟨rfl,hw.done⟩)
       | (rw[cD (by omega),if_neg (by rintro ⟨h1,h2,h3⟩;first|omega|simp_all)];exact⟨rfl,hw.done⟩)
       | (rw[cD (by omega),if_pos ⟨by simp_all,by omega,by omega⟩];exact⟨rfl,hw.done⟩)
       | (rw[fI (by omega)];exact⟨rfl,hw.done⟩)
       | (exfalso;omega)
     ·refine Kb6 ?_;refine K1i ?_;intro w hw;first
      | (rw[bR (by omega),if_neg (by simp_all)];exact⟨rfl,hw.done⟩)
      | (rw[bR (by omega),if_pos (by simp_all)];exact⟨rfl,hw.done⟩)
      | (rw[cD (by omega),if_neg (by rintro ⟨h1,h2,h3⟩;first|omega|simp_all)];exact⟨rfl,hw.done⟩)
      | (rw[cD (by omega),if_pos ⟨by simp_all,by omega,by omega⟩];exact⟨rfl,hw.done⟩)
      | (rw[fI (by omega)];exact⟨rfl,hw.done⟩)
      | (exfalso;omega)
    ·refine dM ?_;refine Oa ?_;refine bA (λ c28=>?_) (λ c28=>?_)
     ·refine J0 ?_;refine Kc5 ?_;refine lA ?_;refine bA (λ c34=>?_) (λ c34=>?_)
      ·refine cR ?_;refine K1i ?_;intro w hw;first
       | (rw[bR (by omega),if_neg (by simp_all)];exact⟨rfl,hw.done⟩)
       | (rw[bR (by omega),if_pos (by simp_all)];exact⟨rfl,hw.done⟩)
       | (rw[cD (by omega),if_neg (by rintro ⟨h1,h2,h3⟩;omega)];exact⟨rfl,hw.done⟩)
       | (rw[cD (by omega),if_pos ⟨by simp_all,by omega,by omega⟩];exact⟨rfl,hw.done⟩)
       | (rw[fI (by omega)];exact⟨rfl,hw.done⟩)
       | (exfalso;omega)
      ·refine Kb6 ?_;refine K1i ?_;intro w hw;first
       | (rw[bR (by omega),if_neg (by simp_all)];exact⟨rfl,hw.done⟩)
       | (rw[bR (by omega),if_pos (by simp_all)];exact⟨rfl,hw.done⟩)
       | (rw[cD (by omega),if_neg (by rintro ⟨h1,h2,h3⟩;first|omega|simp_all)];exact⟨rfl,hw.done⟩)
       | (rw[cD (by omega),if_pos ⟨by simp_all,by omega,by omega⟩];exact⟨rfl,hw.done⟩)
       | (rw[fI (by omega)];exact⟨rfl,hw.done⟩)
       | (exfalso;omega)
     ·refine Kb6 ?_;refine K1i ?_;intro w hw;first
      | (rw[bR (by omega),if_neg (by simp_all)];exact⟨rfl,hw.done⟩)
      | (rw[bR (by omega),if_pos (by simp_all)];exact⟨rfl,hw.done⟩)
      | (rw[cD (by omega),if_neg (by rintro ⟨h1,h2,h3⟩;first|omega|simp_all)];exact⟨rfl,hw.done⟩)
      | (rw[cD (by omega),if_pos ⟨by simp_all,by omega,by omega⟩];exact⟨rfl,hw.done⟩)
      | (rw[fI (by omega)];exact⟨rfl,hw.done⟩)
      | (exfalso;omega)
theorem M2(r:Int)(f:Bool)(w:World):Calls Tryz.prog 81 #[.int .i64 r,.bool f] w λ e w'=>e=.returned (.agg ⟨(M6 r f).cells⟩)/\St w [] [] w':=by
 refine enter Tryz.func81 Tryz.ntmps81 rfl rfl (SF.s0 w) ?_;simp only[cP]
 refine J0 ?_;refine aT (λ x4=>?_);refine aK ?_;refine jJ ?_;refine B9 ?_;refine bK Tryz.results81 (λ w hw=>?_);exact⟨rfl,hw.done⟩
theorem Uw{k:Cl}{B:Bool->Tr}{C:Tr}(h:k.kind=10∨k.kind=11):(if k.kind=10 then B false else if k.kind=11 then B true else C)=B (k.kind==11):=by
 rcases h with h|h<;>rw[h]<;>rfl
section
variable{k:Cl}{bx bm:Nat}{x:XS}{dn:Bool}{rs:Rs}{D:List Nat}{A:Fr}{w:World}{g:Gx}
set_option maxRecDepth 100000 in
set_option maxHeartbeats 2000000 in
theorem aCn(hg:g.Ok){m:Nat}(n:Nat)(hk:tw k)(hn:n<=1073741824)(hm:m<18446744073709551616)(em:k.mask=(m:Int))(ht:k.t.root<=9223372036854775807)(ha:k.a<=x.L.length)(hb:k.b<=x.L.length)(hnn:k.n<=x.L.length)(hA:∀f∈bD x.L,f∈A)(go:gS g x (mH k (jW k.key m) n))(ok:x.Ok)(hs:SF w D (xH k bx bm x dn rs) A [] (xW x) w):Calls Tryz.prog 66 #[.pointer (some ⟨bx,0,none⟩)] w λ e w'=>∃q:Rs×XS×List aI,e=.returned (.agg ⟨q.1.cells⟩)/\Nx g x q.2.1 q.2.2 (.done q.1) 0/\SF w D (xH k bx bm q.2.1 dn rs) [] (bD q.2.2) (xW q.2.1) w':=by
 have hk2:=hk;unfold tw at hk2;refine enter Tryz.func66 Tryz.ntmps66 rfl rfl (cL hs) ?_;simp only[cP]
 refine J0 ?_;refine aT (λ x2=>?_);refine aK ?_;refine Ii ?_;refine aE (aW (k:=25) (vs:=Rt k) rf dI dR rfl rfl) rfl ?_;refine aT (λ x3=>?_);refine J5 ?_;refine aV ?_;refine iH ?_;refine aS (cV (hc:=λ w1 hw=>Xc hk w1)) (λ x14=>?_);refine Ka6 ?_;refine Ka7 ?_;refine bA (λ c16=>?_) (λ c16=>?_)
 ·refine J2 ?_;refine B9 ?_;refine bK Tryz.results66 (λ w hw=>?_);first
  | exact⟨({Rs.zero with err:=refuse k},x,[]),rfl,⟨go.to (λ _=>if_pos c16),ok,by simp,Nat.le_refl _,(bT _)⟩,hw.aQ (hF:=by exact aP.nil)⟩
 ·have g0:=go.to (λ _=>if_neg (λ h:refuse k≠0=>absurd (show refuse k=0 from by assumption) h));have e0:refuse k=0:=by assumption
  refine jH ?_;refine gH ?_;refine Kd4 ?_;refine bA (λ c21=>?_) (λ c21=>?_)
  ·have q:=g0.to (λ _=>if_pos c21);refine J2 ?_;refine K0q ?_;refine J3 ?_;refine aD (cM (hs:=xH k bx bm x dn rs) (os:=xW x) (hc:=λ w hs=>oU hg k.t k.a _ ht ha q ok hs)) (λ x28 h28=>?_);refine aS (cV (hc:=λ w1 hw=>M2 _ _ w1)) (λ x29=>?_);refine K1h ?_;intro w hw;first
   | exact⟨({Rs.zero with err:=refuse k},x,[]),rfl,⟨go.to (λ _=>if_pos c16),ok,by simp,Nat.le_refl _,(bT _)⟩,hw.aQ (hF:=by exact aP.nil)⟩
   | exact⟨(M6 x28.1 false,x28.2.1,x28.2.2),rfl,h28.cU h28.go (bT _),by rw[List.append_nil] at hw;exact hw.zA0⟩
  ·have g1:=g0.to (λ _=>if_neg c21);refine jM ?_;refine bA (λ c30=>?_) (λ c30=>?_)
   ·have q:=g1.to (λ _=>if_pos c30);refine J2 ?_;refine K0q ?_;refine Kd3 ?_;refine J3 ?_;refine aD (cM (hs:=xH k bx bm x dn rs) (os:=xW x) (hc:=λ w hs=>tX hg k.t k.a k.b k.n _ ht ha hnn q ok hs)) (λ x41 h41=>?_);refine aS (cV (hc:=λ w1 hw=>M2 _ _ w1)) (λ x42=>?_);refine K1h ?_;intro w hw;first
    | exact⟨({Rs.zero with err:=refuse k},x,[]),rfl,⟨go.to (λ _=>if_pos c16),ok,by simp,Nat.le_refl _,(bT _)⟩,hw.aQ (hF:=by exact aP.nil)⟩
    | exact⟨(M6 0 x41.1,x41.2.1,x41.2.2),rfl,h41,by rw[List.append_nil] at hw;exact hw.zA0⟩
   ·have g2:=g1.to (λ _=>if_neg c30);refine jM ?_;refine bA (λ c43=>?_) (λ c43=>?_)
    ·have q:=g2.to (λ _=>if_pos c43);refine J2 ?_;refine K0q ?_;refine aD (cM (hs:=xH k bx bm x dn rs) (os:=xW x) (hc:=λ w hs=>Cz hg k.t _ ht q ok hs)) (λ x48 h48=>?_);refine aS (cV (hc:=λ w1 hw=>M2 _ _ w1)) (λ x49=>?_);refine K1h ?_;intro w hw;first
     | exact⟨({Rs.zero with err:=refuse k},x,[]),rfl,⟨go.to (λ _=>if_pos c16),ok,by simp,Nat.le_refl _,(bT _)⟩,hw.aQ (hF:=by exact aP.nil)⟩
     | exact⟨(M6 x48.1 false,x48.2.1,x48.2.2),rfl,h48.cU h48.go (bT _),by rw[List.append_nil] at hw;exact hw.zA0⟩
    ·have g3:=g2.to (λ _=>if_neg c43);refine jM ?_;refine bA (λ c50=>?_) (λ c50=>?_)
     ·have q:=g3.to (λ _=>if_pos c50);refine J2 ?_;refine K0q ?_;refine Kd3 ?_;refine J3 ?_;refine aD (cM (hs:=xH k bx bm x dn rs) (os:=xW x) (hc:=λ w hs=>Mk hg k.t k.a k.b k.n _ ht ha hb hnn q ok hs)) (λ x61 h61=>?_);refine aS (cV (hc:=λ w1 hw=>M2 _ _ w1)) (λ x62=>?_);refine K1h ?_;intro w hw;first
      | exact⟨({Rs.zero with err:=refuse k},x,[]),rfl,⟨go.to (λ _=>if_pos c16),ok,by simp,Nat.le_refl _,(bT _)⟩,hw.aQ (hF:=by exact aP.nil)⟩
      | exact⟨(M6 0 x61.1,x61.2.1,x61.2.2),rfl,h61,by rw[List.append_nil] at hw;exact hw.zA0⟩
     ·have g4:=g3.to (λ _=>if_neg c50);refine jM ?_;refine bA (λ c63=>?_) (λ c63=>?_)
      ·exfalso;omega
      ·refine jM ?_;refine bA (λ c79=>?_) (λ c79=>?_)
       ·exfalso;omega
       ·refine jM ?_;refine bA (λ c94=>?_) (λ c94=>?_)
        ·have q:=g4.to (λ _=>if_pos c94);have ek:k.key.size<=64:=by rw[bR (by omega)] at e0;split at e0;assumption;cases e0
         refine J2 ?_;refine aD (cM (hs:=xH k bx bm x dn rs) (os:=xW x) (A0:=bD x.L) (hA:=bU.of λ f hf=>.inr (.inl (hA f hf))) (hc:=λ w hs=>yi hg _ n hn hm em ek ht (λ f hf=>hf) q ok hs)) (λ x97 h97=>?_);refine K1h ?_;intro w hw;first
         | exact⟨({Rs.zero with err:=refuse k},x,[]),rfl,⟨go.to (λ _=>if_pos c16),ok,by simp,Nat.le_refl _,(bT _)⟩,hw.aQ (hF:=by exact aP.nil)⟩
         | exact⟨(x97.1,x97.2.1,x97.2.2),rfl,h97,by rw[List.append_nil] at hw;exact hw.zA0⟩
        ·have g7:=g4.to (λ _=>if_neg c94);refine jM ?_;refine bA (λ c98=>?_) (λ c98=>?_)
         ·have q:=g7.to (λ _=>if_pos c98);have ek:k.key.size<=64:=by rw[cD (by omega)] at e0;split at e0;(rename_i h;exact h.1);cases e0
          refine J2 ?_;refine aD (cM (hs:=xH k bx bm x dn rs) (os:=xW x) (A0:=bD x.L) (hA:=bU.of λ f hf=>.inr (.inl (hA f hf))) (hc:=λ w hs=>aBk hg _ n hn hm em ek ht (λ f hf=>hf) q ok hs)) (λ x101 h101=>?_);refine K1h ?_;intro w hw;first
          | exact⟨({Rs.zero with err:=refuse k},x,[]),rfl,⟨go.to (λ _=>if_pos c16),ok,by simp,Nat.le_refl _,(bT _)⟩,hw.aQ (hF:=by exact aP.nil)⟩
          | exact⟨(x101.1,x101.2.1,x101.2.2),rfl,h101,by rw[List.append_nil] at hw;exact hw.zA0⟩
         ·have g8:=g7.to (λ _=>if_neg c98);refine jM ?_;refine bA (λ c102=>?_) (λ c102=>?_)
          ·have q:=g8.to (λ _=>if_pos c102);have ek:k.key.size<=64:=by rw[bR (by omega)] at e0;split at e0;assumption;cases e0
           refine J2 ?_;refine aD (cM (hs:=xH k bx bm x dn rs) (os:=xW x) (A0:=bD x.L) (hA:=bU.of λ f hf=>.inr (.inl (hA f hf))) (hc:=λ w hs=>w5 hg _ n hn hm em ek ht (λ f hf=>hf) q ok hs)) (λ x105 h105=>?_);refine K1h ?_;intro w hw;first
           | exact⟨({Rs.zero with err:=refuse k},x,[]),rfl,⟨go.to (λ _=>if_pos c16),ok,by simp,Nat.le_refl _,(bT _)⟩,hw.aQ (hF:=by exact aP.nil)⟩
           | exact⟨(x105.1,x105.2.1,x105.2.2),rfl,h105,by rw[List.append_nil] at hw;exact hw.zA0⟩
          ·have g9:=g8.to (λ _=>if_neg c102);refine aV ?_;refine jM ?_;refine bA (λ c106=>?_) (λ c106=>?_)
           ·refine bB ?_;refine bA (λ c106=>?_) (λ c106=>?_)
            ·refine K2i ?_;intro x113 h113;refine K1h ?_;intro w hw;first
             | exact⟨({Rs.zero with err:=refuse k},x,[]),rfl,⟨go.to (λ _=>if_pos c16),ok,by simp,Nat.le_refl _,(bT _)⟩,hw.aQ (hF:=by exact aP.nil)⟩
             | exact⟨(x113.1,x113.2.1,x113.2.2),rfl,h113,by rw[List.append_nil] at hw;exact hw.zA0⟩
            ·refine jM ?_;refine bA (λ c114=>?_) (λ c114=>?_)
             ·have q:=(g9.to (λ _=>if_neg (by omega))).to (λ _=>if_neg (by omega));refine J2 ?_;refine aD (cM (hs:=xH k bx bm x dn rs) (os:=xW x) (hc:=λ w hs=>Vw hg _ n ht q ok hs)) (λ x117 h117=>?_);refine K1h ?_;intro w hw;first
              | exact⟨({Rs.zero with err:=refuse k},x,[]),rfl,⟨go.to (λ _=>if_pos c16),ok,by simp,Nat.le_refl _,(bT _)⟩,hw.aQ (hF:=by exact aP.nil)⟩
              | exact⟨(x117.1,x117.2.1,x117.2.2),rfl,h117,by rw[List.append_nil] at hw;exact hw.zA0⟩
             ·exfalso;omega
           ·refine dM ?_;refine Oa ?_;refine bA (λ c106=>?_) (λ c106=>?_)
            ·refine K2i ?_;intro x113 h113;refine K1h ?_;intro w hw;first
             | exact⟨({Rs.zero with err:=refuse k},x,[]),rfl,⟨go.to (λ _=>if_pos c16),ok,by simp,Nat.le_refl _,(bT _)⟩,hw.aQ (hF:=by exact aP.nil)⟩
             | exact⟨(x113.1,x113.2.1,x113.2.2),rfl,h113,by rw[List.append_nil] at hw;exact hw.zA0⟩
            ·refine jM ?_;refine bA (λ c114=>?_) (λ c114=>?_)
             ·have q:=(g9.to (λ _=>if_neg (by omega))).to (λ _=>if_neg (by omega));refine J2 ?_;refine aD (cM (hs:=xH k bx bm x dn rs) (os:=xW x) (hc:=λ w hs=>Vw hg _ n ht q ok hs)) (λ x117 h117=>?_);refine K1h ?_;intro w hw;first
              | exact⟨({Rs.zero with err:=refuse k},x,[]),rfl,⟨go.to (λ _=>if_pos c16),ok,by simp,Nat.le_refl _,(bT _)⟩,hw.aQ (hF:=by exact aP.nil)⟩
              | exact⟨(x117.1,x117.2.1,x117.2.2),rfl,h117,by rw[List.append_nil] at hw;exact hw.zA0⟩
             ·exfalso;omega
end
end Go.Proofs.YtadnboagdhcedaaGreatDoor
