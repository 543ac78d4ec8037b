/- Executions of the reference: a call. -/
import Derived.Test.YtadnboagdhcedaaGreatDoorGEx20
set_option linter.unusedSimpArgs false
set_option linter.unusedVariables false
namespace Go.Proofs.YtadnboagdhcedaaGreatDoor
open Go Go.RowKit Go.Ct
abbrev Nq(k:Cl):List Value:=[.int .i64 k.kind,.int .i64 k.t.root,.bool k.t.ro,.int .i64 k.a,.int .i64 k.b,.int .i64 k.n,.int .i64 k.index,.int .u64 k.hash,.int .u64 k.mask,.string k.key,.int .u64 k.val,.int .u64 k.exp,.int .i64 k.Ge,.bool k.only,.bool false,.slice none 0 0,.slice none 0 0,.int .i64 0,.bool false,.int .u64 0,.string ⟨#[]⟩,.int .i64 0,.int .i64 0,.int .i64 0,.bool false]
def dq(k:Cl):Prop:=(1<=k.kind/\k.kind<=4)∨(7<=k.kind/\k.kind<=12)
theorem bG{k:Cl}(h:k.kind=7∨k.kind=9):refuse k=if k.key.size<=64 then 0 else 1:=if_pos h
theorem bS{k:Cl}(h:k.kind=8):refuse k=if k.key.size<=64/\0<=k.Ge/\k.Ge<=3 then 0 else 1:=(if_neg (by omega)).trans (if_pos h)
theorem dY{k:Cl}(h:k.kind<7∨9<k.kind):refuse k=0:=(if_neg (by omega)).trans (if_neg (by omega))
theorem Vh{k:Cl}(hk:dq k)(w:World):Calls Tryz.prog 80 #[.agg ⟨Nq k⟩] w λ e w'=>e=.returned (.int .i64 (refuse k))/\St w [] [] w':=by
 have hk2:=hk
 unfold dq at hk2
 refine enter Tryz.func80 Tryz.ntmps80 rfl rfl (SF.s0 w) ?_
 simp only[cP]
 refine J0 ?_;refine bP (λ x1=>?_);refine gP ?_;refine gU ?_;refine Kc3 ?_;refine aR ?_;refine jC ?_
 refine aZ (λ c5=>?_) (λ c5=>?_)
 ·refine bA ?_
  refine aZ (λ c5=>?_) (λ c5=>?_)
  ·refine gU ?_;refine aU (cV (hc:=λ w1 hw=>mD _ w1)) (λ x10=>?_);refine mS ?_
   refine aZ (λ c11=>?_) (λ c11=>?_)
   ·refine cQ ?_
    refine aQ Tryz.results80 (λ w hw=>?_)
    first
    | (rw[bG (by omega),if_neg (by simp_all)];exact⟨rfl,hw.done⟩)
    | (rw[bG (by omega),if_pos (by simp_all)];exact⟨rfl,hw.done⟩)
    | (rw[bS (by omega),if_neg (by rintro ⟨h1,h2,h3⟩;first|omega|simp_all)];exact⟨rfl,hw.done⟩)
    | (rw[bS (by omega),if_pos ⟨by simp_all,by omega,by omega⟩];exact⟨rfl,hw.done⟩)
    | (rw[dY (by omega)];exact⟨rfl,hw.done⟩)
    | (exfalso;omega)
   ·refine Kb1 ?_
    refine aQ Tryz.results80 (λ w hw=>?_)
    first
    | (rw[bG (by omega),if_neg (by simp_all)];exact⟨rfl,hw.done⟩)
    | (rw[bG (by omega),if_pos (by simp_all)];exact⟨rfl,hw.done⟩)
    | (rw[bS (by omega),if_neg (by rintro ⟨h1,h2,h3⟩;first|omega|simp_all)];exact⟨rfl,hw.done⟩)
    | (rw[bS (by omega),if_pos ⟨by simp_all,by omega,by omega⟩];exact⟨rfl,hw.done⟩)
    | (rw[dY (by omega)];exact⟨rfl,hw.done⟩)
    | (exfalso;omega)
  ·refine jC ?_
   refine aZ (λ c12=>?_) (λ c12=>?_)
   ·refine gU ?_;refine aU (cV (hc:=λ w1 hw=>mD _ w1)) (λ x16=>?_);refine C4 ?_
    (refine eF 18 (λ g18=>?_) (λ g18=>?_)<;>refine Ka1 ?_)
    all_goals (refine wa ?_;refine aB ?_)
    all_goals (first|refine aH ?_|(refine eF 23 (λ g23=>?_) (λ g23=>?_)<;>refine Ka1 ?_))
    all_goals (refine Ka2 ?_;refine Kb5 ?_)
    all_goals
    refine aZ (λ c27=>?_) (λ c27=>?_)
    ·all_goals refine cQ ?_
     all_goals
      refine aQ Tryz.results80 (λ w hw=>?_)
      first
      | (rw[bG (by omega),if_neg (by simp_all)];exact⟨rfl,hw.done⟩)
      | (rw[bG (by omega),if_pos (by simp_all)];exact⟨rfl,hw.done⟩)
      | (rw[bS (by omega),if_neg (by rintro ⟨h1,h2,h3⟩;first|omega|simp_all)];exact⟨rfl,hw.done⟩)
      | (rw[bS (by omega),if_pos ⟨by simp_all,by omega,by omega⟩];exact⟨rfl,hw.done⟩)
      | (rw[dY (by omega)];exact⟨rfl,hw.done⟩)
      | (exfalso;omega)
    ·try exact nv c27
     all_goals (refine Kb1 ?_)
     all_goals
      refine aQ Tryz.results80 (λ w hw=>?_)
      first
      | (rw[bG (by omega),if_neg (by simp_all)];exact⟨rfl,hw.done⟩)
      | (rw[bG (by omega),if_pos (by simp_all)];exact⟨rfl,hw.done⟩)
      | (rw[bS (by omega),if_neg (by rintro ⟨h1,h2,h3⟩;first|omega|simp_all)];exact⟨rfl,hw.done⟩)
      | (rw[bS (by omega),if_pos ⟨by simp_all,by omega,by omega⟩];exact⟨rfl,hw.done⟩)
      | (rw[dY (by omega)];exact⟨rfl,hw.done⟩)
      | (exfalso;omega)
   ·refine aR ?_;refine jC ?_
    refine aZ (λ c28=>?_) (λ c28=>?_)
    ·refine bA ?_
     refine aZ (λ c28=>?_) (λ c28=>?_)
     ·refine J0 ?_;refine Kb7 ?_;refine mS ?_
      refine aZ (λ c34=>?_) (λ c34=>?_)
      ·refine cQ ?_
       refine aQ Tryz.results80 (λ w hw=>?_)
       first
       | (rw[bG (by omega),if_neg (by simp_all)];exact⟨rfl,hw.done⟩)
       | (rw[bG (by omega),if_pos (by simp_all)];exact⟨rfl,hw.done⟩)
       | (rw[bS (by omega),if_neg (by rintro ⟨h1,h2,h3⟩;omega)];exact⟨rfl,hw.done⟩)
       | (rw[bS (by omega),if_pos ⟨by simp_all,by omega,by omega⟩];exact⟨rfl,hw.done⟩)
       | (rw[dY (by omega)];exact⟨rfl,hw.done⟩)
       | (exfalso;omega)
      ·refine Kb1 ?_
       refine aQ Tryz.results80 (λ w hw=>?_)
       first
       | (rw[bG (by omega),if_neg (by simp_all)];exact⟨rfl,hw.done⟩)
       | (rw[bG (by omega),if_pos (by simp_all)];exact⟨rfl,hw.done⟩)
       | (rw[bS (by omega),if_neg (by rintro ⟨h1,h2,h3⟩;first|omega|simp_all)];exact⟨rfl,hw.done⟩)
       | (rw[bS (by omega),if_pos ⟨by simp_all,by omega,by omega⟩];exact⟨rfl,hw.done⟩)
       | (rw[dY (by omega)];exact⟨rfl,hw.done⟩)
       | (exfalso;omega)
     ·refine Kb1 ?_
      refine aQ Tryz.results80 (λ w hw=>?_)
      first
      | (rw[bG (by omega),if_neg (by simp_all)];exact⟨rfl,hw.done⟩)
      | (rw[bG (by omega),if_pos (by simp_all)];exact⟨rfl,hw.done⟩)
      | (rw[bS (by omega),if_neg (by rintro ⟨h1,h2,h3⟩;first|omega|simp_all)];exact⟨rfl,hw.done⟩)
      | (rw[bS (by omega),if_pos ⟨by simp_all,by omega,by omega⟩];exact⟨rfl,hw.done⟩)
      | (rw[dY (by omega)];exact⟨rfl,hw.done⟩)
      | (exfalso;omega)
    ·refine dJ ?_;refine Qd ?_
     refine aZ (λ c28=>?_) (λ c28=>?_)
     ·refine J0 ?_;refine Kb7 ?_;refine mS ?_
      refine aZ (λ c34=>?_) (λ c34=>?_)
      ·refine cQ ?_
       refine aQ Tryz.results80 (λ w hw=>?_)
       first
       | (rw[bG (by omega),if_neg (by simp_all)];exact⟨rfl,hw.done⟩)
       | (rw[bG (by omega),if_pos (by simp_all)];exact⟨rfl,hw.done⟩)
       | (rw[bS (by omega),if_neg (by rintro ⟨h1,h2,h3⟩;omega)];exact⟨rfl,hw.done⟩)
       | (rw[bS (by omega),if_pos ⟨by simp_all,by omega,by omega⟩];exact⟨rfl,hw.done⟩)
       | (rw[dY (by omega)];exact⟨rfl,hw.done⟩)
       | (exfalso;omega)
      ·refine Kb1 ?_
       refine aQ Tryz.results80 (λ w hw=>?_)
       first
       | (rw[bG (by omega),if_neg (by simp_all)];exact⟨rfl,hw.done⟩)
       | (rw[bG (by omega),if_pos (by simp_all)];exact⟨rfl,hw.done⟩)
       | (rw[bS (by omega),if_neg (by rintro ⟨h1,h2,h3⟩;first|omega|simp_all)];exact⟨rfl,hw.done⟩)
       | (rw[bS (by omega),if_pos ⟨by simp_all,by omega,by omega⟩];exact⟨rfl,hw.done⟩)
       | (rw[dY (by omega)];exact⟨rfl,hw.done⟩)
       | (exfalso;omega)
     ·refine Kb1 ?_
      refine aQ Tryz.results80 (λ w hw=>?_)
      first
      | (rw[bG (by omega),if_neg (by simp_all)];exact⟨rfl,hw.done⟩)
      | (rw[bG (by omega),if_pos (by simp_all)];exact⟨rfl,hw.done⟩)
      | (rw[bS (by omega),if_neg (by rintro ⟨h1,h2,h3⟩;first|omega|simp_all)];exact⟨rfl,hw.done⟩)
      | (rw[bS (by omega),if_pos ⟨by simp_all,by omega,by omega⟩];exact⟨rfl,hw.done⟩)
      | (rw[dY (by omega)];exact⟨rfl,hw.done⟩)
      | (exfalso;omega)
 ·refine dJ ?_;refine Qd ?_
  refine aZ (λ c5=>?_) (λ c5=>?_)
  ·refine gU ?_;refine aU (cV (hc:=λ w1 hw=>mD _ w1)) (λ x10=>?_);refine mS ?_
   refine aZ (λ c11=>?_) (λ c11=>?_)
   ·refine cQ ?_
    refine aQ Tryz.results80 (λ w hw=>?_)
    first
    | (rw[bG (by omega),if_neg (by simp_all)];exact⟨rfl,hw.done⟩)
    | (rw[bG (by omega),if_pos (by simp_all)];exact⟨rfl,hw.done⟩)
    | (rw[bS (by omega),if_neg (by rintro ⟨h1,h2,h3⟩;first|omega|simp_all)];exact⟨rfl,hw.done⟩)
    | (rw[bS (by omega),if_pos ⟨by simp_all,by omega,by omega⟩];exact⟨rfl,hw.done⟩)
    | (rw[dY (by omega)];exact⟨rfl,hw.done⟩)
    | (exfalso;omega)
   ·refine Kb1 ?_
    refine aQ Tryz.results80 (λ w hw=>?_)
    first
    | (rw[bG (by omega),if_neg (by simp_all)];exact⟨rfl,hw.done⟩)
    | (rw[bG (by omega),if_pos (by simp_all)];exact⟨rfl,hw.done⟩)
    | (rw[bS (by omega),if_neg (by rintro ⟨h1,h2,h3⟩;first|omega|simp_all)];exact⟨rfl,hw.done⟩)
    | (rw[bS (by omega),if_pos ⟨by simp_all,by omega,by omega⟩];exact⟨rfl,hw.done⟩)
    | (rw[dY (by omega)];exact⟨rfl,hw.done⟩)
    | (exfalso;omega)
  ·refine jC ?_
   refine aZ (λ c12=>?_) (λ c12=>?_)
   ·refine gU ?_;refine aU (cV (hc:=λ w1 hw=>mD _ w1)) (λ x16=>?_);refine C4 ?_
    (refine eF 18 (λ g18=>?_) (λ g18=>?_)<;>refine Ka1 ?_)
    all_goals (refine wa ?_;refine aB ?_)
    all_goals (first|refine aH ?_|(refine eF 23 (λ g23=>?_) (λ g23=>?_)<;>refine Ka1 ?_))
    all_goals (refine Ka2 ?_;refine Kb5 ?_)
    all_goals
    refine aZ (λ c27=>?_) (λ c27=>?_)
    ·all_goals refine cQ ?_
     all_goals
      refine aQ Tryz.results80 (λ w hw=>?_)
      first
      | (rw[bG (by omega),if_neg (by simp_all)];exact⟨rfl,hw.done⟩)
      | (rw[bG (by omega),if_pos (by simp_all)];exact⟨rfl,hw.done⟩)
      | (rw[bS (by omega),if_neg (by rintro ⟨h1,h2,h3⟩;omega)];exact⟨rfl,hw.done⟩)
      | (rw[bS (by omega),if_pos ⟨by simp_all,by omega,by omega⟩];exact⟨rfl,hw.done⟩)
      | (rw[dY (by omega)];exact⟨rfl,hw.done⟩)
      | (exfalso;omega)
    ·try exact nv c27
     all_goals (refine Kb1 ?_)
     all_goals
      refine aQ Tryz.results80 (λ w hw=>?_)
      first
      | (rw[bG (by omega),if_neg (by simp_all)];exact⟨rfl,hw.done⟩)
      | (rw[bG (by omega),if_pos (by simp_all)];exact⟨rfl,hw.done⟩)
      | (rw[bS (by omega),if_neg (by rintro ⟨h1,h2,h3⟩;simp_all)];exact⟨rfl,hw.done⟩)
      | (rw[bS (by omega),if_pos ⟨by simp_all,by omega,by omega⟩];exact⟨rfl,hw.done⟩)
      | (rw[dY (by omega)];exact⟨rfl,hw.done⟩)
      | (exfalso;omega)
   ·refine aR ?_;refine jC ?_
    refine aZ (λ c28=>?_) (λ c28=>?_)
    ·refine bA ?_
     refine aZ (λ c28=>?_) (λ c28=>?_)
     ·refine J0 ?_;refine Kb7 ?_;refine mS ?_
      refine aZ (λ c34=>?_) (λ c34=>?_)
      ·refine cQ ?_
       refine aQ Tryz.results80 (λ w hw=>?_)
       first
       | (rw[bG (by omega),if_neg (by simp_all)];exact⟨rfl,hw.done⟩)
       | (rw[bG (by omega),if_pos (by simp_all)];exact⟨rfl,hw.done⟩)
       | (rw[bS (by omega),if_neg (by rintro ⟨h1,h2,h3⟩;omega)];exact⟨rfl,hw.done⟩)
       | (rw[bS (by omega),if_pos ⟨by simp_all,by omega,by omega⟩];exact⟨rfl,hw.done⟩)
       | (rw[dY (by omega)];exact⟨rfl,hw.done⟩)
       | (exfalso;omega)
      ·refine Kb1 ?_
       refine aQ Tryz.results80 (λ w hw=>?_)
       first
       | (rw[bG (by omega),if_neg (by simp_all)];exact⟨rfl,hw.done⟩)
       | (rw[bG (by omega),if_pos (by simp_all)];exact⟨rfl,hw.done⟩)
       | (rw[bS (by omega),if_neg (by rintro ⟨h1,h2,h3⟩;first|omega|simp_all)];exact⟨rfl,hw.done⟩)
       | (rw[bS (by omega),if_pos ⟨by simp_all,by omega,by omega⟩];exact⟨rfl,hw.done⟩)
       | (rw[dY (by omega)];exact⟨rfl,hw.done⟩)
       | (exfalso;omega)
     ·refine Kb1 ?_
      refine aQ Tryz.results80 (λ w hw=>?_)
      first
      | (rw[bG (by omega),if_neg (by simp_all)];exact⟨rfl,hw.done⟩)
      | (rw[bG (by omega),if_pos (by simp_all)];exact⟨rfl,hw.done⟩)
      | (rw[bS (by omega),if_neg (by rintro ⟨h1,h2,h3⟩;first|omega|simp_all)];exact⟨rfl,hw.done⟩)
      | (rw[bS (by omega),if_pos ⟨by simp_all,by omega,by omega⟩];exact⟨rfl,hw.done⟩)
      | (rw[dY (by omega)];exact⟨rfl,hw.done⟩)
      | (exfalso;omega)
    ·refine dJ ?_;refine Qd ?_
     refine aZ (λ c28=>?_) (λ c28=>?_)
     ·refine J0 ?_;refine Kb7 ?_;refine mS ?_
      refine aZ (λ c34=>?_) (λ c34=>?_)
      ·refine cQ ?_
       refine aQ Tryz.results80 (λ w hw=>?_)
       first
       | (rw[bG (by omega),if_neg (by simp_all)];exact⟨rfl,hw.done⟩)
       | (rw[bG (by omega),if_pos (by simp_all)];exact⟨rfl,hw.done⟩)
       | (rw[bS (by omega),if_neg (by rintro ⟨h1,h2,h3⟩;omega)];exact⟨rfl,hw.done⟩)
       | (rw[bS (by omega),if_pos ⟨by simp_all,by omega,by omega⟩];exact⟨rfl,hw.done⟩)
       | (rw[dY (by omega)];exact⟨rfl,hw.done⟩)
       | (exfalso;omega)
      ·refine Kb1 ?_
       refine aQ Tryz.results80 (λ w hw=>?_)
       first
       | (rw[bG (by omega),if_neg (by simp_all)];exact⟨rfl,hw.done⟩)
       | (rw[bG (by omega),if_pos (by simp_all)];exact⟨rfl,hw.done⟩)
       | (rw[bS (by omega),if_neg (by rintro ⟨h1,h2,h3⟩;first|omega|simp_all)];exact⟨rfl,hw.done⟩)
       | (rw[bS (by omega),if_pos ⟨by simp_all,by omega,by omega⟩];exact⟨rfl,hw.done⟩)
       | (rw[dY (by omega)];exact⟨rfl,hw.done⟩)
       | (exfalso;omega)
     ·refine Kb1 ?_
      refine aQ Tryz.results80 (λ w hw=>?_)
      first
      | (rw[bG (by omega),if_neg (by simp_all)];exact⟨rfl,hw.done⟩)
      | (rw[bG (by omega),if_pos (by simp_all)];exact⟨rfl,hw.done⟩)
      | (rw[bS (by omega),if_neg (by rintro ⟨h1,h2,h3⟩;first|omega|simp_all)];exact⟨rfl,hw.done⟩)
      | (rw[bS (by omega),if_pos ⟨by simp_all,by omega,by omega⟩];exact⟨rfl,hw.done⟩)
      | (rw[dY (by omega)];exact⟨rfl,hw.done⟩)
      | (exfalso;omega)
theorem Kk(r:Int)(f:Bool)(w:World):Calls Tryz.prog 81 #[.int .i64 r,.bool f] w λ e w'=>e=.returned (.agg ⟨(Kb r f).cells⟩)/\St w [] [] w':=by
 refine enter Tryz.func81 Tryz.ntmps81 rfl rfl (SF.s0 w) ?_
 simp only[cP]
 refine J0 ?_;refine aP (λ x4=>?_);refine aI ?_;refine iQ ?_;refine zO ?_
 refine bK Tryz.results81 (λ w hw=>?_)
 exact⟨rfl,hw.done⟩
theorem Ti{k:Cl}{B:Bool->Tr}{C:Tr}(h:k.kind=10∨k.kind=11):(if k.kind=10 then B false else if k.kind=11 then B true else C)=B (k.kind==11):=by
 rcases h with h|h<;>rw[h]<;>rfl
section
variable{k:Cl}{bx bm:Nat}{x:XS}{dn:Bool}{rs:Rs}{D:List Nat}{A:Fr}{w:World}{g:Gx}
set_option maxRecDepth 100000 in
set_option maxHeartbeats 2000000 in
theorem xo(hg:g.Ok){m:Nat}(n:Nat)(hk:dq k)(hn:n<=1073741824)(hm:m<18446744073709551616)(em:k.mask=(m:Int))(ht:k.t.root<=9223372036854775807)(ha:k.a<=x.L.length)(hb:k.b<=x.L.length)(hnn:k.n<=x.L.length)(hA:∀f∈aV x.L,f∈A)(go:fD g x (lA k (kD k.key m) n))(ok:x.Ok)(hs:SF w D (xH k bx bm x dn rs) A [] (xW x) w):Calls Tryz.prog 66 #[.pointer (some ⟨bx,0,none⟩)] w λ e w'=>∃q:Rs×XS×List aL,e=.returned (.agg ⟨q.1.cells⟩)/\Nx g x q.2.1 q.2.2 (.done q.1) 0/\SF w D (xH k bx bm q.2.1 dn rs) [] (aV q.2.2) (xW q.2.1) w':=by
 have hk2:=hk
 unfold dq at hk2
 refine enter Tryz.func66 Tryz.ntmps66 rfl rfl (bX hs) ?_
 simp only[cP]
 refine J0 ?_;refine aP (λ x2=>?_);refine aI ?_;refine Fo ?_;refine aE (aK (k:=25) (vs:=Nq k) rf dU fX rfl rfl) rfl ?_;refine aP (λ x3=>?_);refine J5 ?_;refine aR ?_;refine kN ?_;refine aU (cV (hc:=λ w1 hw=>Vh hk w1)) (λ x14=>?_);refine Ka3 ?_;refine Kc0 ?_
 refine aZ (λ c16=>?_) (λ c16=>?_)
 ·refine J2 ?_;refine zO ?_
  refine bK Tryz.results66 (λ w hw=>?_)
  first
  | exact⟨({Rs.zero with err:=refuse k},x,[]),rfl,⟨go.to (λ _=>if_pos c16),ok,by simp,Nat.le_refl _,(bF _)⟩,hw.aT (hF:=by exact aW.nil)⟩
 ·have g0:=go.to (λ _=>if_neg (λ h:refuse k≠0=>absurd (show refuse k=0 from by assumption) h))
  have e0:refuse k=0:=by assumption
  refine jM ?_;refine gU ?_;refine Kc3 ?_;refine jC ?_
  refine aZ (λ c21=>?_) (λ c21=>?_)
  ·have q:=g0.to (λ _=>if_pos c21)
   refine J2 ?_;refine aD ?_;refine aE (aK (k:=2) (vs:=[.int .i64 k.t.root,.bool k.t.ro]) rf dU fX rfl rfl) rfl ?_;refine J3 ?_;refine aC (cM (hs:=xH k bx bm x dn rs) (os:=xW x) (hc:=λ w hs=>nE hg k.t k.a _ ht ha q ok hs)) (λ x28 h28=>?_);refine aU (cV (hc:=λ w1 hw=>Kk _ _ w1)) (λ x29=>?_);refine J5 ?_
   refine bK Tryz.results66 (λ w hw=>?_)
   first
   | exact⟨({Rs.zero with err:=refuse k},x,[]),rfl,⟨go.to (λ _=>if_pos c16),ok,by simp,Nat.le_refl _,(bF _)⟩,hw.aT (hF:=by exact aW.nil)⟩
   | exact⟨(Kb x28.1 false,x28.2.1,x28.2.2),rfl,h28.cD h28.go (bF _),by rw[List.append_nil] at hw;exact hw.v4⟩
  ·have g1:=g0.to (λ _=>if_neg c21)
   refine jC ?_
   refine aZ (λ c30=>?_) (λ c30=>?_)
   ·have q:=g1.to (λ _=>if_pos c30)
    refine J2 ?_;refine aD ?_;refine aE (aK (k:=2) (vs:=[.int .i64 k.t.root,.bool k.t.ro]) rf dU fX rfl rfl) rfl ?_;refine Kc6 ?_;refine J3 ?_;refine aC (cM (hs:=xH k bx bm x dn rs) (os:=xW x) (hc:=λ w hs=>rT hg k.t k.a k.b k.n _ ht ha hnn q ok hs)) (λ x41 h41=>?_);refine aU (cV (hc:=λ w1 hw=>Kk _ _ w1)) (λ x42=>?_);refine J5 ?_
    refine bK Tryz.results66 (λ w hw=>?_)
    first
    | exact⟨({Rs.zero with err:=refuse k},x,[]),rfl,⟨go.to (λ _=>if_pos c16),ok,by simp,Nat.le_refl _,(bF _)⟩,hw.aT (hF:=by exact aW.nil)⟩
    | exact⟨(Kb 0 x41.1,x41.2.1,x41.2.2),rfl,h41,by rw[List.append_nil] at hw;exact hw.v4⟩
   ·have g2:=g1.to (λ _=>if_neg c30)
    refine jC ?_
    refine aZ (λ c43=>?_) (λ c43=>?_)
    ·have q:=g2.to (λ _=>if_pos c43)
     refine J2 ?_;refine aD ?_;refine aE (aK (k:=2) (vs:=[.int .i64 k.t.root,.bool k.t.ro]) rf dU fX rfl rfl) rfl ?_;refine aC (cM (hs:=xH k bx bm x dn rs) (os:=xW x) (hc:=λ w hs=>Aj hg k.t _ ht q ok hs)) (λ x48 h48=>?_);refine aU (cV (hc:=λ w1 hw=>Kk _ _ w1)) (λ x49=>?_);refine J5 ?_
     refine bK Tryz.results66 (λ w hw=>?_)
     first
     | exact⟨({Rs.zero with err:=refuse k},x,[]),rfl,⟨go.to (λ _=>if_pos c16),ok,by simp,Nat.le_refl _,(bF _)⟩,hw.aT (hF:=by exact aW.nil)⟩
     | exact⟨(Kb x48.1 false,x48.2.1,x48.2.2),rfl,h48.cD h48.go (bF _),by rw[List.append_nil] at hw;exact hw.v4⟩
    ·have g3:=g2.to (λ _=>if_neg c43)
     refine jC ?_
     refine aZ (λ c50=>?_) (λ c50=>?_)
     ·have q:=g3.to (λ _=>if_pos c50)
      refine J2 ?_;refine aD ?_;refine aE (aK (k:=2) (vs:=[.int .i64 k.t.root,.bool k.t.ro]) rf dU fX rfl rfl) rfl ?_;refine Kc6 ?_;refine J3 ?_;refine aC (cM (hs:=xH k bx bm x dn rs) (os:=xW x) (hc:=λ w hs=>Jc hg k.t k.a k.b k.n _ ht ha hb hnn q ok hs)) (λ x61 h61=>?_);refine aU (cV (hc:=λ w1 hw=>Kk _ _ w1)) (λ x62=>?_);refine J5 ?_
      refine bK Tryz.results66 (λ w hw=>?_)
      first
      | exact⟨({Rs.zero with err:=refuse k},x,[]),rfl,⟨go.to (λ _=>if_pos c16),ok,by simp,Nat.le_refl _,(bF _)⟩,hw.aT (hF:=by exact aW.nil)⟩
      | exact⟨(Kb 0 x61.1,x61.2.1,x61.2.2),rfl,h61,by rw[List.append_nil] at hw;exact hw.v4⟩
     ·have g4:=g3.to (λ _=>if_neg c50)
      refine jC ?_
      refine aZ (λ c63=>?_) (λ c63=>?_)
      ·exfalso;omega
      ·refine jC ?_
       refine aZ (λ c79=>?_) (λ c79=>?_)
       ·exfalso;omega
       ·refine jC ?_
        refine aZ (λ c94=>?_) (λ c94=>?_)
        ·have q:=g4.to (λ _=>if_pos c94)
         have ek:k.key.size<=64:=by rw[bG (by omega)] at e0;split at e0;assumption;cases e0
         refine J2 ?_;refine aC (cM (hs:=xH k bx bm x dn rs) (os:=xW x) (A0:=aV x.L) (hA:=bQ.of λ f hf=>.inr (.inl (hA f hf))) (hc:=λ w hs=>qy hg _ n hn hm em ek ht (λ f hf=>hf) q ok hs)) (λ x97 h97=>?_);refine J5 ?_
         refine bK Tryz.results66 (λ w hw=>?_)
         first
         | exact⟨({Rs.zero with err:=refuse k},x,[]),rfl,⟨go.to (λ _=>if_pos c16),ok,by simp,Nat.le_refl _,(bF _)⟩,hw.aT (hF:=by exact aW.nil)⟩
         | exact⟨(x97.1,x97.2.1,x97.2.2),rfl,h97,by rw[List.append_nil] at hw;exact hw.v4⟩
        ·have g7:=g4.to (λ _=>if_neg c94)
         refine jC ?_
         refine aZ (λ c98=>?_) (λ c98=>?_)
         ·have q:=g7.to (λ _=>if_pos c98)
          have ek:k.key.size<=64:=by rw[bS (by omega)] at e0;split at e0;(rename_i h;exact h.1);cases e0
          refine J2 ?_;refine aC (cM (hs:=xH k bx bm x dn rs) (os:=xW x) (A0:=aV x.L) (hA:=bQ.of λ f hf=>.inr (.inl (hA f hf))) (hc:=λ w hs=>zi hg _ n hn hm em ek ht (λ f hf=>hf) q ok hs)) (λ x101 h101=>?_);refine J5 ?_
          refine bK Tryz.results66 (λ w hw=>?_)
          first
          | exact⟨({Rs.zero with err:=refuse k},x,[]),rfl,⟨go.to (λ _=>if_pos c16),ok,by simp,Nat.le_refl _,(bF _)⟩,hw.aT (hF:=by exact aW.nil)⟩
          | exact⟨(x101.1,x101.2.1,x101.2.2),rfl,h101,by rw[List.append_nil] at hw;exact hw.v4⟩
         ·have g8:=g7.to (λ _=>if_neg c98)
          refine jC ?_
          refine aZ (λ c102=>?_) (λ c102=>?_)
          ·have q:=g8.to (λ _=>if_pos c102)
           have ek:k.key.size<=64:=by rw[bG (by omega)] at e0;split at e0;assumption;cases e0
           refine J2 ?_;refine aC (cM (hs:=xH k bx bm x dn rs) (os:=xW x) (A0:=aV x.L) (hA:=bQ.of λ f hf=>.inr (.inl (hA f hf))) (hc:=λ w hs=>rp hg _ n hn hm em ek ht (λ f hf=>hf) q ok hs)) (λ x105 h105=>?_);refine J5 ?_
           refine bK Tryz.results66 (λ w hw=>?_)
           first
           | exact⟨({Rs.zero with err:=refuse k},x,[]),rfl,⟨go.to (λ _=>if_pos c16),ok,by simp,Nat.le_refl _,(bF _)⟩,hw.aT (hF:=by exact aW.nil)⟩
           | exact⟨(x105.1,x105.2.1,x105.2.2),rfl,h105,by rw[List.append_nil] at hw;exact hw.v4⟩
          ·have g9:=g8.to (λ _=>if_neg c102)
           refine aR ?_;refine jC ?_
           refine aZ (λ c106=>?_) (λ c106=>?_)
           ·refine bA ?_
            refine aZ (λ c106=>?_) (λ c106=>?_)
            ·refine J2 ?_;refine J3 ?_;refine lH ?_;refine aC (cM (hs:=xH k bx bm x dn rs) (os:=xW x) (hc:=λ w hs=>Dm hg (k.kind==11) _ n ht (g9.to (λ _=>Ti (B:=λ b=>rB k.t b .done n) (by omega))) ok hs)) (λ x113 h113=>?_);refine J5 ?_
             refine bK Tryz.results66 (λ w hw=>?_)
             first
             | exact⟨({Rs.zero with err:=refuse k},x,[]),rfl,⟨go.to (λ _=>if_pos c16),ok,by simp,Nat.le_refl _,(bF _)⟩,hw.aT (hF:=by exact aW.nil)⟩
             | exact⟨(x113.1,x113.2.1,x113.2.2),rfl,h113,by rw[List.append_nil] at hw;exact hw.v4⟩
            ·refine jC ?_
             refine aZ (λ c114=>?_) (λ c114=>?_)
             ·have q:=(g9.to (λ _=>if_neg (by omega))).to (λ _=>if_neg (by omega))
              refine J2 ?_;refine aC (cM (hs:=xH k bx bm x dn rs) (os:=xW x) (hc:=λ w hs=>Su hg _ n ht q ok hs)) (λ x117 h117=>?_);refine J5 ?_
              refine bK Tryz.results66 (λ w hw=>?_)
              first
              | exact⟨({Rs.zero with err:=refuse k},x,[]),rfl,⟨go.to (λ _=>if_pos c16),ok,by simp,Nat.le_refl _,(bF _)⟩,hw.aT (hF:=by exact aW.nil)⟩
              | exact⟨(x117.1,x117.2.1,x117.2.2),rfl,h117,by rw[List.append_nil] at hw;exact hw.v4⟩
             ·exfalso;omega
           ·refine dJ ?_;refine Qd ?_
            refine aZ (λ c106=>?_) (λ c106=>?_)
            ·refine J2 ?_;refine J3 ?_;refine lH ?_;refine aC (cM (hs:=xH k bx bm x dn rs) (os:=xW x) (hc:=λ w hs=>Dm hg (k.kind==11) _ n ht (g9.to (λ _=>Ti (B:=λ b=>rB k.t b .done n) (by omega))) ok hs)) (λ x113 h113=>?_);refine J5 ?_
             refine bK Tryz.results66 (λ w hw=>?_)
             first
             | exact⟨({Rs.zero with err:=refuse k},x,[]),rfl,⟨go.to (λ _=>if_pos c16),ok,by simp,Nat.le_refl _,(bF _)⟩,hw.aT (hF:=by exact aW.nil)⟩
             | exact⟨(x113.1,x113.2.1,x113.2.2),rfl,h113,by rw[List.append_nil] at hw;exact hw.v4⟩
            ·refine jC ?_
             refine aZ (λ c114=>?_) (λ c114=>?_)
             ·have q:=(g9.to (λ _=>if_neg (by omega))).to (λ _=>if_neg (by omega))
              refine J2 ?_;refine aC (cM (hs:=xH k bx bm x dn rs) (os:=xW x) (hc:=λ w hs=>Su hg _ n ht q ok hs)) (λ x117 h117=>?_);refine J5 ?_
              refine bK Tryz.results66 (λ w hw=>?_)
              first
              | exact⟨({Rs.zero with err:=refuse k},x,[]),rfl,⟨go.to (λ _=>if_pos c16),ok,by simp,Nat.le_refl _,(bF _)⟩,hw.aT (hF:=by exact aW.nil)⟩
              | exact⟨(x117.1,x117.2.1,x117.2.2),rfl,h117,by rw[List.append_nil] at hw;exact hw.v4⟩
             ·exfalso;omega
end
end Go.Proofs.YtadnboagdhcedaaGreatDoor
