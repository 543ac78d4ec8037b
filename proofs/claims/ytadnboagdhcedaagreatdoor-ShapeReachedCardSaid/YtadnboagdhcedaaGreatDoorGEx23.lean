/- Executions of the reference: a call. -/
import Derived.Test.YtadnboagdhcedaaGreatDoorGEx20
import Derived.Test.YtadnboagdhcedaaGreatDoorGRn1

set_option linter.unusedSimpArgs false
set_option linter.unusedVariables false
namespace Go.Proofs.YtadnboagdhcedaaGreatDoor
section
open Go Go.RowKit Go.Ct
abbrev Nt(k:Cl):List Value:=[.int .i64 k.kind,.int .i64 k.t.root,.bool k.t.ro,.int .i64 k.a,.int .i64 k.b,.int .i64 k.n,.int .i64 k.index,.int .u64 k.hash,.int .u64 k.mask,.string k.key,.int .u64 k.val,.int .u64 k.exp,.int .i64 k.Ge,.bool k.only,.bool false,.slice none 0 0,.slice none 0 0,.int .i64 0,.bool false,.int .u64 0,.string ⟨#[]⟩,.int .i64 0,.int .i64 0,.int .i64 0,.bool false]
def mu(k:Cl):Prop:=(1<=k.kind/\k.kind<=4)∨(7<=k.kind/\k.kind<=12)
theorem bE{k:Cl}(h:k.kind=7∨k.kind=9):refuse k=if k.key.size<=64 then 0 else 1:=if_pos h
theorem bT{k:Cl}(h:k.kind=8):refuse k=if k.key.size<=64/\0<=k.Ge/\k.Ge<=3 then 0 else 1:=(if_neg (by omega)).trans (if_pos h)
theorem dY{k:Cl}(h:k.kind<7∨9<k.kind):refuse k=0:=(if_neg (by omega)).trans (if_neg (by omega))
theorem U2{k:Cl}(hk:mu k)(w:World):Calls Tryz.prog 80 #[.agg ⟨Nt k⟩] w λ e w'=>e=.returned (.int .i64 (refuse k))/\St w [] [] w':=by
 have hk2:=hk
 unfold mu at hk2
 refine enter Tryz.func80 Tryz.ntmps80 rfl rfl (SF.s0 w) ?_
 simp only[cO]
 refine J0 ?_;refine bQ (λ x1=>?_);refine gQ ?_;refine gU ?_;refine Kc4 ?_;refine aR ?_;refine jE ?_
 refine aZ (λ c5=>?_) (λ c5=>?_)
 ·refine bA ?_
  refine aZ (λ c5=>?_) (λ c5=>?_)
  ·refine gU ?_;refine aT (cV (hc:=λ w1 hw=>mD _ w1)) (λ x10=>?_);refine mJ ?_
   refine aZ (λ c11=>?_) (λ c11=>?_)
   ·refine cQ ?_
    refine aQ Tryz.results80 (λ w hw=>?_)
    first
    | (rw[bE (by omega),if_neg (by simp_all)];exact⟨rfl,hw.done⟩)
    | (rw[bE (by omega),if_pos (by simp_all)];exact⟨rfl,hw.done⟩)
    | (rw[bT (by omega),if_neg (by rintro ⟨h1,h2,h3⟩;first|omega|simp_all)];exact⟨rfl,hw.done⟩)
    | (rw[bT (by omega),if_pos ⟨by simp_all,by omega,by omega⟩];exact⟨rfl,hw.done⟩)
    | (rw[dY (by omega)];exact⟨rfl,hw.done⟩)
    | (exfalso;omega)
   ·refine Kb0 ?_
    refine aQ Tryz.results80 (λ w hw=>?_)
    first
    | (rw[bE (by omega),if_neg (by simp_all)];exact⟨rfl,hw.done⟩)
    | (rw[bE (by omega),if_pos (by simp_all)];exact⟨rfl,hw.done⟩)
    | (rw[bT (by omega),if_neg (by rintro ⟨h1,h2,h3⟩;first|omega|simp_all)];exact⟨rfl,hw.done⟩)
    | (rw[bT (by omega),if_pos ⟨by simp_all,by omega,by omega⟩];exact⟨rfl,hw.done⟩)
    | (rw[dY (by omega)];exact⟨rfl,hw.done⟩)
    | (exfalso;omega)
  ·refine jE ?_
   refine aZ (λ c12=>?_) (λ c12=>?_)
   ·refine gU ?_;refine aT (cV (hc:=λ w1 hw=>mD _ w1)) (λ x16=>?_);refine E8 ?_
    (refine eF 18 (λ g18=>?_) (λ g18=>?_)<;>refine Ka1 ?_)
    all_goals (refine vp ?_;refine aB ?_)
    all_goals (first|refine aH ?_|(refine eF 23 (λ g23=>?_) (λ g23=>?_)<;>refine Ka1 ?_))
    all_goals (refine Ka2 ?_;refine Kb9 ?_)
    all_goals
    refine aZ (λ c27=>?_) (λ c27=>?_)
    ·all_goals refine cQ ?_
     all_goals
      refine aQ Tryz.results80 (λ w hw=>?_)
      first
      | (rw[bE (by omega),if_neg (by simp_all)];exact⟨rfl,hw.done⟩)
      | (rw[bE (by omega),if_pos (by simp_all)];exact⟨rfl,hw.done⟩)
      | (rw[bT (by omega),if_neg (by rintro ⟨h1,h2,h3⟩;first|omega|simp_all)];exact⟨rfl,hw.done⟩)
      | (rw[bT (by omega),if_pos ⟨by simp_all,by omega,by omega⟩];exact⟨rfl,hw.done⟩)
      | (rw[dY (by omega)];exact⟨rfl,hw.done⟩)
      | (exfalso;omega)
    ·try exact nv c27
     all_goals (refine Kb0 ?_)
     all_goals
      refine aQ Tryz.results80 (λ w hw=>?_)
      first
      | (rw[bE (by omega),if_neg (by simp_all)];exact⟨rfl,hw.done⟩)
      | (rw[bE (by omega),if_pos (by simp_all)];exact⟨rfl,hw.done⟩)
      | (rw[bT (by omega),if_neg (by rintro ⟨h1,h2,h3⟩;first|omega|simp_all)];exact⟨rfl,hw.done⟩)
      | (rw[bT (by omega),if_pos ⟨by simp_all,by omega,by omega⟩];exact⟨rfl,hw.done⟩)
      | (rw[dY (by omega)];exact⟨rfl,hw.done⟩)
      | (exfalso;omega)
   ·refine aR ?_;refine jE ?_
    refine aZ (λ c28=>?_) (λ c28=>?_)
    ·refine bA ?_
     refine aZ (λ c28=>?_) (λ c28=>?_)
     ·refine J0 ?_;refine Kb7 ?_;refine mJ ?_
      refine aZ (λ c34=>?_) (λ c34=>?_)
      ·refine cQ ?_
       refine aQ Tryz.results80 (λ w hw=>?_)
       first
       | (rw[bE (by omega),if_neg (by simp_all)];exact⟨rfl,hw.done⟩)
       | (rw[bE (by omega),if_pos (by simp_all)];exact⟨rfl,hw.done⟩)
       | (rw[bT (by omega),if_neg (by rintro ⟨h1,h2,h3⟩;omega)];exact⟨rfl,hw.done⟩)
       | (rw[bT (by omega),if_pos ⟨by simp_all,by omega,by omega⟩];exact⟨rfl,hw.done⟩)
       | (rw[dY (by omega)];exact⟨rfl,hw.done⟩)
       | (exfalso;omega)
      ·refine Kb0 ?_
       refine aQ Tryz.results80 (λ w hw=>?_)
       first
       | (rw[bE (by omega),if_neg (by simp_all)];exact⟨rfl,hw.done⟩)
       | (rw[bE (by omega),if_pos (by simp_all)];exact⟨rfl,hw.done⟩)
       | (rw[bT (by omega),if_neg (by rintro ⟨h1,h2,h3⟩;first|omega|simp_all)];exact⟨rfl,hw.done⟩)
       | (rw[bT (by omega),if_pos ⟨by simp_all,by omega,by omega⟩];exact⟨rfl,hw.done⟩)
       | (rw[dY (by omega)];exact⟨rfl,hw.done⟩)
       | (exfalso;omega)
     ·refine Kb0 ?_
      refine aQ Tryz.results80 (λ w hw=>?_)
      first
      | (rw[bE (by omega),if_neg (by simp_all)];exact⟨rfl,hw.done⟩)
      | (rw[bE (by omega),if_pos (by simp_all)];exact⟨rfl,hw.done⟩)
      | (rw[bT (by omega),if_neg (by rintro ⟨h1,h2,h3⟩;first|omega|simp_all)];exact⟨rfl,hw.done⟩)
      | (rw[bT (by omega),if_pos ⟨by simp_all,by omega,by omega⟩];exact⟨rfl,hw.done⟩)
      | (rw[dY (by omega)];exact⟨rfl,hw.done⟩)
      | (exfalso;omega)
    ·refine dL ?_;refine P5 ?_
     refine aZ (λ c28=>?_) (λ c28=>?_)
     ·refine J0 ?_;refine Kb7 ?_;refine mJ ?_
      refine aZ (λ c34=>?_) (λ c34=>?_)
      ·refine cQ ?_
       refine aQ Tryz.results80 (λ w hw=>?_)
       first
       | (rw[bE (by omega),if_neg (by simp_all)];exact⟨rfl,hw.done⟩)
       | (rw[bE (by omega),if_pos (by simp_all)];exact⟨rfl,hw.done⟩)
       | (rw[bT (by omega),if_neg (by rintro ⟨h1,h2,h3⟩;omega)];exact⟨rfl,hw.done⟩)
       | (rw[bT (by omega),if_pos ⟨by simp_all,by omega,by omega⟩];exact⟨rfl,hw.done⟩)
       | (rw[dY (by omega)];exact⟨rfl,hw.done⟩)
       | (exfalso;omega)
      ·refine Kb0 ?_
       refine aQ Tryz.results80 (λ w hw=>?_)
       first
       | (rw[bE (by omega),if_neg (by simp_all)];exact⟨rfl,hw.done⟩)
       | (rw[bE (by omega),if_pos (by simp_all)];exact⟨rfl,hw.done⟩)
       | (rw[bT (by omega),if_neg (by rintro ⟨h1,h2,h3⟩;first|omega|simp_all)];exact⟨rfl,hw.done⟩)
       | (rw[bT (by omega),if_pos ⟨by simp_all,by omega,by omega⟩];exact⟨rfl,hw.done⟩)
       | (rw[dY (by omega)];exact⟨rfl,hw.done⟩)
       | (exfalso;omega)
     ·refine Kb0 ?_
      refine aQ Tryz.results80 (λ w hw=>?_)
      first
      | (rw[bE (by omega),if_neg (by simp_all)];exact⟨rfl,hw.done⟩)
      | (rw[bE (by omega),if_pos (by simp_all)];exact⟨rfl,hw.done⟩)
      | (rw[bT (by omega),if_neg (by rintro ⟨h1,h2,h3⟩;first|omega|simp_all)];exact⟨rfl,hw.done⟩)
      | (rw[bT (by omega),if_pos ⟨by simp_all,by omega,by omega⟩];exact⟨rfl,hw.done⟩)
      | (rw[dY (by omega)];exact⟨rfl,hw.done⟩)
      | (exfalso;omega)
 ·refine dL ?_;refine P5 ?_
  refine aZ (λ c5=>?_) (λ c5=>?_)
  ·refine gU ?_;refine aT (cV (hc:=λ w1 hw=>mD _ w1)) (λ x10=>?_);refine mJ ?_
   refine aZ (λ c11=>?_) (λ c11=>?_)
   ·refine cQ ?_
    refine aQ Tryz.results80 (λ w hw=>?_)
    first
    | (rw[bE (by omega),if_neg (by simp_all)];exact⟨rfl,hw.done⟩)
    | (rw[bE (by omega),if_pos (by simp_all)];exact⟨rfl,hw.done⟩)
    | (rw[bT (by omega),if_neg (by rintro ⟨h1,h2,h3⟩;first|omega|simp_all)];exact⟨rfl,hw.done⟩)
    | (rw[bT (by omega),if_pos ⟨by simp_all,by omega,by omega⟩];exact⟨rfl,hw.done⟩)
    | (rw[dY (by omega)];exact⟨rfl,hw.done⟩)
    | (exfalso;omega)
   ·refine Kb0 ?_
    refine aQ Tryz.results80 (λ w hw=>?_)
    first
    | (rw[bE (by omega),if_neg (by simp_all)];exact⟨rfl,hw.done⟩)
    | (rw[bE (by omega),if_pos (by simp_all)];exact⟨rfl,hw.done⟩)
    | (rw[bT (by omega),if_neg (by rintro ⟨h1,h2,h3⟩;first|omega|simp_all)];exact⟨rfl,hw.done⟩)
    | (rw[bT (by omega),if_pos ⟨by simp_all,by omega,by omega⟩];exact⟨rfl,hw.done⟩)
    | (rw[dY (by omega)];exact⟨rfl,hw.done⟩)
    | (exfalso;omega)
  ·refine jE ?_
   refine aZ (λ c12=>?_) (λ c12=>?_)
   ·refine gU ?_;refine aT (cV (hc:=λ w1 hw=>mD _ w1)) (λ x16=>?_);refine E8 ?_
    (refine eF 18 (λ g18=>?_) (λ g18=>?_)<;>refine Ka1 ?_)
    all_goals (refine vp ?_;refine aB ?_)
    all_goals (first|refine aH ?_|(refine eF 23 (λ g23=>?_) (λ g23=>?_)<;>refine Ka1 ?_))
    all_goals (refine Ka2 ?_;refine Kb9 ?_)
    all_goals
    refine aZ (λ c27=>?_) (λ c27=>?_)
    ·all_goals refine cQ ?_
     all_goals
      refine aQ Tryz.results80 (λ w hw=>?_)
      first
      | (rw[bE (by omega),if_neg (by simp_all)];exact⟨rfl,hw.done⟩)
      | (rw[bE (by omega),if_pos (by simp_all)];exact⟨rfl,hw.done⟩)
      | (rw[bT (by omega),if_neg (by rintro ⟨h1,h2,h3⟩;omega)];exact⟨rfl,hw.done⟩)
      | (rw[bT (by omega),if_pos ⟨by simp_all,by omega,by omega⟩];exact⟨rfl,hw.done⟩)
      | (rw[dY (by omega)];exact⟨rfl,hw.done⟩)
      | (exfalso;omega)
    ·try exact nv c27
     all_goals (refine Kb0 ?_)
     all_goals
      refine aQ Tryz.results80 (λ w hw=>?_)
      first
      | (rw[bE (by omega),if_neg (by simp_all)];exact⟨rfl,hw.done⟩)
      | (rw[bE (by omega),if_pos (by simp_all)];exact⟨rfl,hw.done⟩)
      | (rw[bT (by omega),if_neg (by rintro ⟨h1,h2,h3⟩;simp_all)];exact⟨rfl,hw.done⟩)
      | (rw[bT (by omega),if_pos ⟨by simp_all,by omega,by omega⟩];exact⟨rfl,hw.done⟩)
      | (rw[dY (by omega)];exact⟨rfl,hw.done⟩)
      | (exfalso;omega)
   ·refine aR ?_;refine jE ?_
    refine aZ (λ c28=>?_) (λ c28=>?_)
    ·refine bA ?_
     refine aZ (λ c28=>?_) (λ c28=>?_)
     ·refine J0 ?_;refine Kb7 ?_;refine mJ ?_
      refine aZ (λ c34=>?_) (λ c34=>?_)
      ·refine cQ ?_
       refine aQ Tryz.results80 (λ w hw=>?_)
       first
       | (rw[bE (by omega),if_neg (by simp_all)];exact⟨rfl,hw.done⟩)
       | (rw[bE (by omega),if_pos (by simp_all)];exact⟨rfl,hw.done⟩)
       | (rw[bT (by omega),if_neg (by rintro ⟨h1,h2,h3⟩;omega)];exact⟨rfl,hw.done⟩)
       | (rw[bT (by omega),if_pos ⟨by simp_all,by omega,by omega⟩];exact⟨rfl,hw.done⟩)
       | (rw[dY (by omega)];exact⟨rfl,hw.done⟩)
       | (exfalso;omega)
      ·refine Kb0 ?_
       refine aQ Tryz.results80 (λ w hw=>?_)
       first
       | (rw[bE (by omega),if_neg (by simp_all)];exact⟨rfl,hw.done⟩)
       | (rw[bE (by omega),if_pos (by simp_all)];exact⟨rfl,hw.done⟩)
       | (rw[bT (by omega),if_neg (by rintro ⟨h1,h2,h3⟩;first|omega|simp_all)];exact⟨rfl,hw.done⟩)
       | (rw[bT (by omega),if_pos ⟨by simp_all,by omega,by omega⟩];exact⟨rfl,hw.done⟩)
       | (rw[dY (by omega)];exact⟨rfl,hw.done⟩)
       | (exfalso;omega)
     ·refine Kb0 ?_
      refine aQ Tryz.results80 (λ w hw=>?_)
      first
      | (rw[bE (by omega),if_neg (by simp_all)];exact⟨rfl,hw.done⟩)
      | (rw[bE (by omega),if_pos (by simp_all)];exact⟨rfl,hw.done⟩)
      | (rw[bT (by omega),if_neg (by rintro ⟨h1,h2,h3⟩;first|omega|simp_all)];exact⟨rfl,hw.done⟩)
      | (rw[bT (by omega),if_pos ⟨by simp_all,by omega,by omega⟩];exact⟨rfl,hw.done⟩)
      | (rw[dY (by omega)];exact⟨rfl,hw.done⟩)
      | (exfalso;omega)
    ·refine dL ?_;refine P5 ?_
     refine aZ (λ c28=>?_) (λ c28=>?_)
     ·refine J0 ?_;refine Kb7 ?_;refine mJ ?_
      refine aZ (λ c34=>?_) (λ c34=>?_)
      ·refine cQ ?_
       refine aQ Tryz.results80 (λ w hw=>?_)
       first
       | (rw[bE (by omega),if_neg (by simp_all)];exact⟨rfl,hw.done⟩)
       | (rw[bE (by omega),if_pos (by simp_all)];exact⟨rfl,hw.done⟩)
       | (rw[bT (by omega),if_neg (by rintro ⟨h1,h2,h3⟩;omega)];exact⟨rfl,hw.done⟩)
       | (rw[bT (by omega),if_pos ⟨by simp_all,by omega,by omega⟩];exact⟨rfl,hw.done⟩)
       | (rw[dY (by omega)];exact⟨rfl,hw.done⟩)
       | (exfalso;omega)
      ·refine Kb0 ?_
       refine aQ Tryz.results80 (λ w hw=>?_)
       first
       | (rw[bE (by omega),if_neg (by simp_all)];exact⟨rfl,hw.done⟩)
       | (rw[bE (by omega),if_pos (by simp_all)];exact⟨rfl,hw.done⟩)
       | (rw[bT (by omega),if_neg (by rintro ⟨h1,h2,h3⟩;first|omega|simp_all)];exact⟨rfl,hw.done⟩)
       | (rw[bT (by omega),if_pos ⟨by simp_all,by omega,by omega⟩];exact⟨rfl,hw.done⟩)
       | (rw[dY (by omega)];exact⟨rfl,hw.done⟩)
       | (exfalso;omega)
     ·refine Kb0 ?_
      refine aQ Tryz.results80 (λ w hw=>?_)
      first
      | (rw[bE (by omega),if_neg (by simp_all)];exact⟨rfl,hw.done⟩)
      | (rw[bE (by omega),if_pos (by simp_all)];exact⟨rfl,hw.done⟩)
      | (rw[bT (by omega),if_neg (by rintro ⟨h1,h2,h3⟩;first|omega|simp_all)];exact⟨rfl,hw.done⟩)
      | (rw[bT (by omega),if_pos ⟨by simp_all,by omega,by omega⟩];exact⟨rfl,hw.done⟩)
      | (rw[dY (by omega)];exact⟨rfl,hw.done⟩)
      | (exfalso;omega)
theorem Jr(r:Int)(f:Bool)(w:World):Calls Tryz.prog 81 #[.int .i64 r,.bool f] w λ e w'=>e=.returned (.agg ⟨(Kb r f).cells⟩)/\St w [] [] w':=by
 refine enter Tryz.func81 Tryz.ntmps81 rfl rfl (SF.s0 w) ?_
 simp only[cO]
 refine J0 ?_;refine aN (λ x4=>?_);refine aI ?_;refine iR ?_;refine As ?_
 refine bK Tryz.results81 (λ w hw=>?_)
 exact⟨rfl,hw.done⟩
theorem Rw{k:Cl}{B:Bool->Tr}{C:Tr}(h:k.kind=10∨k.kind=11):(if k.kind=10 then B false else if k.kind=11 then B true else C)=B (k.kind==11):=by
 rcases h with h|h<;>rw[h]<;>rfl
section
variable{k:Cl}{bx bm:Nat}{x:XS}{dn:Bool}{rs:Rs}{D:List Nat}{A:Fr}{w:World}{g:Gx}
set_option maxRecDepth 100000 in
set_option maxHeartbeats 2000000 in
theorem v8(hg:g.Ok){m:Nat}(n:Nat)(hk:mu k)(hn:n<=1073741824)(hm:m<18446744073709551616)(em:k.mask=(m:Int))(ht:k.t.root<=9223372036854775807)(ha:k.a<=x.L.length)(hb:k.b<=x.L.length)(hnn:k.n<=x.L.length)(hA:∀f∈aW x.L,f∈A)(go:fD g x (kW k (kI k.key m) n))(ok:x.Ok)(hs:SF w D (xH k bx bm x dn rs) A [] (xW x) w):Calls Tryz.prog 66 #[.pointer (some ⟨bx,0,none⟩)] w λ e w'=>∃q:Rs×XS×List aL,e=.returned (.agg ⟨q.1.cells⟩)/\Nx g x q.2.1 q.2.2 (.done q.1) 0/\SF w D (xH k bx bm q.2.1 dn rs) [] (aW q.2.2) (xW q.2.1) w':=by
 have hk2:=hk
 unfold mu at hk2
 refine enter Tryz.func66 Tryz.ntmps66 rfl rfl (bX hs) ?_
 simp only[cO]
 refine J0 ?_;refine aN (λ x2=>?_);refine aI ?_;refine Fv ?_;refine aE (aK (k:=25) (vs:=Nt k) rf dV fX rfl rfl) rfl ?_;refine aN (λ x3=>?_);refine J5 ?_;refine aR ?_;refine kV ?_;refine aT (cV (hc:=λ w1 hw=>U2 hk w1)) (λ x14=>?_);refine Ka4 ?_;refine Kc0 ?_
 refine aZ (λ c16=>?_) (λ c16=>?_)
 ·refine J2 ?_;refine As ?_
  refine bK Tryz.results66 (λ w hw=>?_)
  first
  | exact⟨({Rs.zero with err:=refuse k},x,[]),rfl,⟨go.to (λ _=>if_pos c16),ok,by simp,Nat.le_refl _,(bH _)⟩,hw.aS (hF:=by exact aV.nil)⟩
 ·have g0:=go.to (λ _=>if_neg (λ h:refuse k≠0=>absurd (show refuse k=0 from by assumption) h))
  have e0:refuse k=0:=by assumption
  refine jM ?_;refine gU ?_;refine Kc4 ?_;refine jE ?_
  refine aZ (λ c21=>?_) (λ c21=>?_)
  ·have q:=g0.to (λ _=>if_pos c21)
   refine J2 ?_;refine aD ?_;refine aE (aK (k:=2) (vs:=[.int .i64 k.t.root,.bool k.t.ro]) rf dV fX rfl rfl) rfl ?_;refine J3 ?_;refine aC (cM (hs:=xH k bx bm x dn rs) (os:=xW x) (hc:=λ w hs=>nF hg k.t k.a _ ht ha q ok hs)) (λ x28 h28=>?_);refine aT (cV (hc:=λ w1 hw=>Jr _ _ w1)) (λ x29=>?_);refine J5 ?_
   refine bK Tryz.results66 (λ w hw=>?_)
   first
   | exact⟨({Rs.zero with err:=refuse k},x,[]),rfl,⟨go.to (λ _=>if_pos c16),ok,by simp,Nat.le_refl _,(bH _)⟩,hw.aS (hF:=by exact aV.nil)⟩
   | exact⟨(Kb x28.1 false,x28.2.1,x28.2.2),rfl,h28.cC h28.go (bH _),by rw[List.append_nil] at hw;exact hw.v1⟩
  ·have g1:=g0.to (λ _=>if_neg c21)
   refine jE ?_
   refine aZ (λ c30=>?_) (λ c30=>?_)
   ·have q:=g1.to (λ _=>if_pos c30)
    refine J2 ?_;refine aD ?_;refine aE (aK (k:=2) (vs:=[.int .i64 k.t.root,.bool k.t.ro]) rf dV fX rfl rfl) rfl ?_;refine Kc7 ?_;refine J3 ?_;refine aC (cM (hs:=xH k bx bm x dn rs) (os:=xW x) (hc:=λ w hs=>rN hg k.t k.a k.b k.n _ ht ha hnn q ok hs)) (λ x41 h41=>?_);refine aT (cV (hc:=λ w1 hw=>Jr _ _ w1)) (λ x42=>?_);refine J5 ?_
    refine bK Tryz.results66 (λ w hw=>?_)
    first
    | exact⟨({Rs.zero with err:=refuse k},x,[]),rfl,⟨go.to (λ _=>if_pos c16),ok,by simp,Nat.le_refl _,(bH _)⟩,hw.aS (hF:=by exact aV.nil)⟩
    | exact⟨(Kb 0 x41.1,x41.2.1,x41.2.2),rfl,h41,by rw[List.append_nil] at hw;exact hw.v1⟩
   ·have g2:=g1.to (λ _=>if_neg c30)
    refine jE ?_
    refine aZ (λ c43=>?_) (λ c43=>?_)
    ·have q:=g2.to (λ _=>if_pos c43)
     refine J2 ?_;refine aD ?_;refine aE (aK (k:=2) (vs:=[.int .i64 k.t.root,.bool k.t.ro]) rf dV fX rfl rfl) rfl ?_;refine aC (cM (hs:=xH k bx bm x dn rs) (os:=xW x) (hc:=λ w hs=>zX hg k.t _ ht q ok hs)) (λ x48 h48=>?_);refine aT (cV (hc:=λ w1 hw=>Jr _ _ w1)) (λ x49=>?_);refine J5 ?_
     refine bK Tryz.results66 (λ w hw=>?_)
     first
     | exact⟨({Rs.zero with err:=refuse k},x,[]),rfl,⟨go.to (λ _=>if_pos c16),ok,by simp,Nat.le_refl _,(bH _)⟩,hw.aS (hF:=by exact aV.nil)⟩
     | exact⟨(Kb x48.1 false,x48.2.1,x48.2.2),rfl,h48.cC h48.go (bH _),by rw[List.append_nil] at hw;exact hw.v1⟩
    ·have g3:=g2.to (λ _=>if_neg c43)
     refine jE ?_
     refine aZ (λ c50=>?_) (λ c50=>?_)
     ·have q:=g3.to (λ _=>if_pos c50)
      refine J2 ?_;refine aD ?_;refine aE (aK (k:=2) (vs:=[.int .i64 k.t.root,.bool k.t.ro]) rf dV fX rfl rfl) rfl ?_;refine Kc7 ?_;refine J3 ?_;refine aC (cM (hs:=xH k bx bm x dn rs) (os:=xW x) (hc:=λ w hs=>Ke hg k.t k.a k.b k.n _ ht ha hb hnn q ok hs)) (λ x61 h61=>?_);refine aT (cV (hc:=λ w1 hw=>Jr _ _ w1)) (λ x62=>?_);refine J5 ?_
      refine bK Tryz.results66 (λ w hw=>?_)
      first
      | exact⟨({Rs.zero with err:=refuse k},x,[]),rfl,⟨go.to (λ _=>if_pos c16),ok,by simp,Nat.le_refl _,(bH _)⟩,hw.aS (hF:=by exact aV.nil)⟩
      | exact⟨(Kb 0 x61.1,x61.2.1,x61.2.2),rfl,h61,by rw[List.append_nil] at hw;exact hw.v1⟩
     ·have g4:=g3.to (λ _=>if_neg c50)
      refine jE ?_
      refine aZ (λ c63=>?_) (λ c63=>?_)
      ·exfalso;omega
      ·refine jE ?_
       refine aZ (λ c79=>?_) (λ c79=>?_)
       ·exfalso;omega
       ·refine jE ?_
        refine aZ (λ c94=>?_) (λ c94=>?_)
        ·have q:=g4.to (λ _=>if_pos c94)
         have ek:k.key.size<=64:=by rw[bE (by omega)] at e0;split at e0;assumption;cases e0
         refine J2 ?_;refine aC (cM (hs:=xH k bx bm x dn rs) (os:=xW x) (A0:=aW x.L) (hA:=bP.of λ f hf=>.inr (.inl (hA f hf))) (hc:=λ w hs=>th hg _ n hn hm em ek ht (λ f hf=>hf) q ok hs)) (λ x97 h97=>?_);refine J5 ?_
         refine bK Tryz.results66 (λ w hw=>?_)
         first
         | exact⟨({Rs.zero with err:=refuse k},x,[]),rfl,⟨go.to (λ _=>if_pos c16),ok,by simp,Nat.le_refl _,(bH _)⟩,hw.aS (hF:=by exact aV.nil)⟩
         | exact⟨(x97.1,x97.2.1,x97.2.2),rfl,h97,by rw[List.append_nil] at hw;exact hw.v1⟩
        ·have g7:=g4.to (λ _=>if_neg c94)
         refine jE ?_
         refine aZ (λ c98=>?_) (λ c98=>?_)
         ·have q:=g7.to (λ _=>if_pos c98)
          have ek:k.key.size<=64:=by rw[bT (by omega)] at e0;split at e0;(rename_i h;exact h.1);cases e0
          refine J2 ?_;refine aC (cM (hs:=xH k bx bm x dn rs) (os:=xW x) (A0:=aW x.L) (hA:=bP.of λ f hf=>.inr (.inl (hA f hf))) (hc:=λ w hs=>w3 hg _ n hn hm em ek ht (λ f hf=>hf) q ok hs)) (λ x101 h101=>?_);refine J5 ?_
          refine bK Tryz.results66 (λ w hw=>?_)
          first
          | exact⟨({Rs.zero with err:=refuse k},x,[]),rfl,⟨go.to (λ _=>if_pos c16),ok,by simp,Nat.le_refl _,(bH _)⟩,hw.aS (hF:=by exact aV.nil)⟩
          | exact⟨(x101.1,x101.2.1,x101.2.2),rfl,h101,by rw[List.append_nil] at hw;exact hw.v1⟩
         ·have g8:=g7.to (λ _=>if_neg c98)
          refine jE ?_
          refine aZ (λ c102=>?_) (λ c102=>?_)
          ·have q:=g8.to (λ _=>if_pos c102)
           have ek:k.key.size<=64:=by rw[bE (by omega)] at e0;split at e0;assumption;cases e0
           refine J2 ?_;refine aC (cM (hs:=xH k bx bm x dn rs) (os:=xW x) (A0:=aW x.L) (hA:=bP.of λ f hf=>.inr (.inl (hA f hf))) (hc:=λ w hs=>uy hg _ n hn hm em ek ht (λ f hf=>hf) q ok hs)) (λ x105 h105=>?_);refine J5 ?_
           refine bK Tryz.results66 (λ w hw=>?_)
           first
           | exact⟨({Rs.zero with err:=refuse k},x,[]),rfl,⟨go.to (λ _=>if_pos c16),ok,by simp,Nat.le_refl _,(bH _)⟩,hw.aS (hF:=by exact aV.nil)⟩
           | exact⟨(x105.1,x105.2.1,x105.2.2),rfl,h105,by rw[List.append_nil] at hw;exact hw.v1⟩
          ·have g9:=g8.to (λ _=>if_neg c102)
           refine aR ?_;refine jE ?_
           refine aZ (λ c106=>?_) (λ c106=>?_)
           ·refine bA ?_
            refine aZ (λ c106=>?_) (λ c106=>?_)
            ·refine J2 ?_;refine J3 ?_;refine lJ ?_;refine aC (cM (hs:=xH k bx bm x dn rs) (os:=xW x) (hc:=λ w hs=>E6 hg (k.kind==11) _ n ht (g9.to (λ _=>Rw (B:=λ b=>qY k.t b .done n) (by omega))) ok hs)) (λ x113 h113=>?_);refine J5 ?_
             refine bK Tryz.results66 (λ w hw=>?_)
             first
             | exact⟨({Rs.zero with err:=refuse k},x,[]),rfl,⟨go.to (λ _=>if_pos c16),ok,by simp,Nat.le_refl _,(bH _)⟩,hw.aS (hF:=by exact aV.nil)⟩
             | exact⟨(x113.1,x113.2.1,x113.2.2),rfl,h113,by rw[List.append_nil] at hw;exact hw.v1⟩
            ·refine jE ?_
             refine aZ (λ c114=>?_) (λ c114=>?_)
             ·have q:=(g9.to (λ _=>if_neg (by omega))).to (λ _=>if_neg (by omega))
              refine J2 ?_;refine aC (cM (hs:=xH k bx bm x dn rs) (os:=xW x) (hc:=λ w hs=>Q3 hg _ n ht q ok hs)) (λ x117 h117=>?_);refine J5 ?_
              refine bK Tryz.results66 (λ w hw=>?_)
              first
              | exact⟨({Rs.zero with err:=refuse k},x,[]),rfl,⟨go.to (λ _=>if_pos c16),ok,by simp,Nat.le_refl _,(bH _)⟩,hw.aS (hF:=by exact aV.nil)⟩
              | exact⟨(x117.1,x117.2.1,x117.2.2),rfl,h117,by rw[List.append_nil] at hw;exact hw.v1⟩
             ·exfalso;omega
           ·refine dL ?_;refine P5 ?_
            refine aZ (λ c106=>?_) (λ c106=>?_)
            ·refine J2 ?_;refine J3 ?_;refine lJ ?_;refine aC (cM (hs:=xH k bx bm x dn rs) (os:=xW x) (hc:=λ w hs=>E6 hg (k.kind==11) _ n ht (g9.to (λ _=>Rw (B:=λ b=>qY k.t b .done n) (by omega))) ok hs)) (λ x113 h113=>?_);refine J5 ?_
             refine bK Tryz.results66 (λ w hw=>?_)
             first
             | exact⟨({Rs.zero with err:=refuse k},x,[]),rfl,⟨go.to (λ _=>if_pos c16),ok,by simp,Nat.le_refl _,(bH _)⟩,hw.aS (hF:=by exact aV.nil)⟩
             | exact⟨(x113.1,x113.2.1,x113.2.2),rfl,h113,by rw[List.append_nil] at hw;exact hw.v1⟩
            ·refine jE ?_
             refine aZ (λ c114=>?_) (λ c114=>?_)
             ·have q:=(g9.to (λ _=>if_neg (by omega))).to (λ _=>if_neg (by omega))
              refine J2 ?_;refine aC (cM (hs:=xH k bx bm x dn rs) (os:=xW x) (hc:=λ w hs=>Q3 hg _ n ht q ok hs)) (λ x117 h117=>?_);refine J5 ?_
              refine bK Tryz.results66 (λ w hw=>?_)
              first
              | exact⟨({Rs.zero with err:=refuse k},x,[]),rfl,⟨go.to (λ _=>if_pos c16),ok,by simp,Nat.le_refl _,(bH _)⟩,hw.aS (hF:=by exact aV.nil)⟩
              | exact⟨(x117.1,x117.2.1,x117.2.2),rfl,h117,by rw[List.append_nil] at hw;exact hw.v1⟩
             ·exfalso;omega
end
end

/- Executions of the reference: one repetition. -/
end Go.Proofs.YtadnboagdhcedaaGreatDoor
namespace Go.Ct
section
open Go Go.RowKit
theorem ld{L:List Nv}{r:Rs}{gs ms cl gn:List Int}{R:Tr}(h:Wk L (.done r) gs ms cl gn R):gs=[]/\ms=[]/\cl=[]/\gn=[]/\R=.done r:=by
 cases h
 exact⟨rfl,rfl,rfl,rfl,rfl⟩
def XS.re(x:XS)(free:Nat):XS:={x with a:=0,m:=0,c:=0,g:=0,fr:=free,st:=false}
theorem xb{T R:Tr}{x:XS}{free N:Nat}(hw:Wk x.nodes T x.got x.made x.cel x.gns R)(hN:x.got.length+free=N):fD ⟨T,R,x.mm,free,N⟩ (x.re free) T:=.inl ⟨rfl,R,⟨Wk.nil _,hw,by show Rc (free-free) R x.mm R x.mm;rw[Nat.sub_self];exact Rc.refl _ _,Nat.le_refl _,Nat.zero_le _,Nat.zero_le _,Nat.zero_le _,Nat.zero_le _,hN⟩⟩
structure zV(T R:Tr)(free N:Nat)(rs:Rs)(x x':XS)(N':List aL)(dn':Bool)(rs':Rs):Prop where
 ok:x'.Ok
 ext:x'.L=x.L++N'
 lc:x.cs.length<=x'.cs.length
 gl:x'.got.length<=N
 Vt:(dn'=true/\∃j,j<=free/\x'.got.length+free=N+j/\Wk x'.nodes T x'.got x'.made x'.cel x'.gns (.done rs')/\Rc j R x.mm (.done rs') x'.mm)∨(dn'=false/\rs'=rs/\x'.got.length=N/\∃R',R'.acc=some x'.nx/\Wk x'.nodes T x'.got x'.made x'.cel x'.gns R'/\Rc free R x.mm R' x'.mm)
theorem Nx.m7{T R:Tr}{free N:Nat}{rs r:Rs}{x x':XS}{N':List aL}(h:Nx ⟨T,R,x.mm,free,N⟩ (x.re free) x' N' (.done r) 0)(hs:x'.st=false):zV T R free N rs x x' N' true r:=by
 obtain⟨R',hR⟩:=h.go.run hs
 obtain⟨e1,e2,e3,e4,e5⟩:=ld hR.suf
 refine⟨h.ok,h.ext,h.lc,(by have:=hR.hN;show x'.got.length<=N;simp only at this;omega),.inl ⟨rfl,free-x'.fr,Nat.sub_le _ _,(by have:=hR.hN;have:=hR.hf;simp only at *;omega),?_,e5▸hR.rc⟩⟩
 have hp:=hR.pre
 rwa [List.take_of_length_le (List.drop_eq_nil_iff.1 e1),List.take_of_length_le (List.drop_eq_nil_iff.1 e2),List.take_of_length_le (List.drop_eq_nil_iff.1 e3),List.take_of_length_le (List.drop_eq_nil_iff.1 e4)] at hp
theorem Nx.n6{T R:Tr}{free N:Nat}{rs r:Rs}{x x':XS}{N':List aL}(h:Nx ⟨T,R,x.mm,free,N⟩ (x.re free) x' N' (.done r) 0)(hs:x'.st=true):zV T R free N rs x x' N' false rs:=by
 rcases h.go with h1|h1
 ·rw[hs] at h1;exact nomatch h1.1
 ·obtain⟨R',hR⟩:=h1.2
  exact⟨h.ok,h.ext,h.lc,Nat.le_of_eq hR.hN,.inr ⟨rfl,rfl,hR.hN,R',hR.ac,hR.wk,hR.rc⟩⟩
end
end Go.Ct
namespace Go.Proofs.YtadnboagdhcedaaGreatDoor
section
open Go Go.RowKit Go.Ct
section
variable{k:Cl}{bx bm:Nat}{x:XS}{rs:Rs}{D:List Nat}{A:Fr}{w:World}
theorem Kz{m n N:Nat}{R:Tr}(free:Nat)(hg:Gx.Ok ⟨kW k (kI k.key m) n,R,x.mm,free,N⟩)(hwk:Wk x.nodes (kW k (kI k.key m) n) x.got x.made x.cel x.gns R)(hN:x.got.length+free=N)(hk:mu k)(hn:n<=1073741824)(hm:m<18446744073709551616)(em:k.mask=(m:Int))(ht:k.t.root<=9223372036854775807)(ha:k.a<=x.L.length)(hb:k.b<=x.L.length)(hnn:k.n<=x.L.length)(hA:∀f∈aW x.L,f∈A)(ok:x.Ok)(hs:SF w D (xH k bx bm x false rs) A [] (xW x) w):Calls Tryz.prog 50 #[.pointer (some ⟨bx,0,none⟩),.int .i64 (free:Int)] w λ e w'=>∃q:XS×List aL×Bool×Rs,e=.returned (.tuple #[])/\zV (kW k (kI k.key m) n) R free N rs x q.1 q.2.1 q.2.2.1 q.2.2.2/\SF w D (xH k bx bm q.1 q.2.2.1 q.2.2.2) [] (aW q.2.1) (xW q.1) w':=by
 have hfr:=hg.hf
 have ok0:(x.re free).Ok:=ok.ny rfl rfl rfl rfl rfl rfl (Nat.zero_le _) (Nat.zero_le _) (Nat.zero_le _) (Nat.zero_le _) hfr
 refine enter Tryz.func50 Tryz.ntmps50 rfl rfl (bX hs) ?_
 simp only[cO]
 refine iR ?_;refine oX ?_;refine oX ?_;refine aB ?_;refine Kx ?_;refine jY (by exact sY λ _=>eA rf dV wn rf gB rf rf xL) (λ _=>?_);refine Kx ?_;refine jY (by exact sY λ _=>eA rf dV wn rf gB rf rf xL) (λ _=>?_);refine Kx ?_;refine jY (by exact sY λ _=>eA rf dV wn rf gB rf rf xL) (λ _=>?_);refine Kx ?_;refine jY (by exact sY λ _=>eA rf dV wn rf gB rf rf xL) (λ _=>?_);refine Kx ?_;refine jY (by exact sY λ _=>eA rf dV wn rf gB rf rf xL) (λ _=>?_);refine Kx ?_;refine jY (by exact sY λ _=>eA rf dV wn rf gB rf rf xL) (λ _=>?_);refine aI ?_;refine J2 ?_;refine aC (cM (hs:=xH k bx bm (x.re free) false rs) (os:=xW (x.re free)) (A0:=aW x.L) (hA:=bP.of λ f hf=>.inr (.inl (hA f hf))) (hc:=λ w hs=>v8 hg (x:=x.re free) n hk hn hm em ht ha hb hnn (λ f hf=>hf) (xb hwk hN) ok0 hs)) (λ x25 h25=>?_);refine aN (λ x4=>?_);refine jY (by exact(sY λ _=>D0 rf dV rf rf fX rf xL)) (λ _=>?_);refine aI ?_;refine mV ?_;refine mJ ?_
 refine aZ (λ c30=>?_) (λ c30=>?_)
 ·refine eG [(0,[]),(1,[]),(2,[]),(3,[]),(4,[]),(5,[2]),(6,[]),(7,[]),(8,[])] ?_;refine gP ?_;refine bO ?_;refine J4 ?_;refine lZ (i:=5) (hq:=(by exact sY λ _=>eA rf dV wn rf gB rf rf xL)) (h:=λ _=>?_);refine J4 ?_;refine lZ (i:=8) (hq:=(sY λ _=>pG (off:=41) (vs:=x25.1.cells) rf dV rf rfl fX (Nat.le_of_ble_eq_true rfl) rf xL)) (h:=λ _=>?_);refine dS ?_
  refine Cd Tryz.results50 (λ w hw=>?_)
  first
  | exact⟨(x25.2.1,x25.2.2,true,x25.1),rfl,h25.m7 (by simpa using c30),by rw[List.append_nil] at hw;exact hw.v1⟩
  | exact⟨(x25.2.1,x25.2.2,false,rs),rfl,h25.n6 (by simpa using c30),by rw[List.append_nil] at hw;exact hw.v1⟩
 ·refine bA ?_
  refine Cd Tryz.results50 (λ w hw=>?_)
  first
  | exact⟨(x25.2.1,x25.2.2,true,x25.1),rfl,h25.m7 (by simpa using c30),by rw[List.append_nil] at hw;exact hw.v1⟩
  | exact⟨(x25.2.1,x25.2.2,false,rs),rfl,h25.n6 (by simpa using c30),by rw[List.append_nil] at hw;exact hw.v1⟩
end
end

/- Executions of the reference: steps. -/
end Go.Proofs.YtadnboagdhcedaaGreatDoor
namespace Go.Ct
section
open Go Go.RowKit
theorem L0{R:Tr}{a:Ac}(h:R.acc=some a){n c:Nat}(ht:bZ R n c)(hn:1<=n):bZ R n 64:=by
 cases R<;>simp only[Tr.acc,reduceCtorEq] at h
 ·cases n with
  | zero=>omega
  | succ n=>simpa only[bZ] using ht
 ·cases n with
  | zero=>omega
  | succ n=>simpa only[bZ] using ht
structure ob(T:Tr)(x:XS)(dn:Bool)(rs:Rs)(R:Tr):Prop where
 ok:x.Ok
 wk:Wk x.nodes T x.got x.made x.cel x.gns R
 Vt:(dn=true/\R=.done rs)∨(dn=false/\R.acc=some x.nx)
theorem zV.exI{T R:Tr}{free N:Nat}{rs rs':Rs}{x x':XS}{N':List aL}{dn':Bool}(h:zV T R free N rs x x' N' dn' rs'):∃R' j,j<=free/\(dn'=false->j=free)/\ob T x' dn' rs' R'/\Rc j R x.mm R' x'.mm/\x'.L=x.L++N'/\x.cs.length<=x'.cs.length:=by
 rcases h.Vt with⟨e,j,h1,_,h2,h3⟩|⟨e,_,_,R',h1,h2,h3⟩
 ·exact⟨_,j,h1,(λ h=>by rw[e] at h;cases h),⟨h.ok,h2,.inl ⟨e,rfl⟩⟩,h3,h.ext,h.lc⟩
 ·exact⟨R',free,Nat.le_refl _,λ _=>rfl,⟨h.ok,h2,.inr ⟨e,h1⟩⟩,h3,h.ext,h.lc⟩
end
end Go.Ct
namespace Go.Proofs.YtadnboagdhcedaaGreatDoor
section
open Go Go.RowKit Go.Ct
section
variable{k:Cl}{bx bm:Nat}{x:XS}{dn:Bool}{rs:Rs}{D:List Nat}{A:Fr}{w:World}
theorem Pz(hs:SF w D (xH k bx bm x dn rs) A [] (xW x) w):Calls Tryz.prog 39 #[.pointer (some ⟨bx,0,none⟩)] w λ e w'=>∃q:Unit,e=.returned (.bool dn)/\True/\SF w D (xH k bx bm x dn rs) [] [] (xW x) w':=by
 refine enter Tryz.func39 Tryz.ntmps39 rfl rfl (bX hs) ?_
 simp only[cO]
 refine cQ ?_;refine mV ?_;refine J1 ?_
 refine aQ Tryz.results39 (λ w hw=>?_)
 exact⟨(),rfl,trivial,hw.aS⟩
theorem Wl(hs:SF w D (xH k bx bm x dn rs) A [] (xW x) w):Calls Tryz.prog 65 #[.pointer (some ⟨bx,0,none⟩)] w λ e w'=>∃q:Unit,e=.returned (.agg ⟨rs.cells⟩)/\True/\SF w D (xH k bx bm x dn rs) [] [] (xW x) w':=by
 refine enter Tryz.func65 Tryz.ntmps65 rfl rfl (bX hs) ?_
 simp only[cO]
 refine J0 ?_;refine aN (λ x2=>?_);refine aI ?_;refine Fv ?_;refine aE (aK (k:=8) (vs:=rs.cells) rf dV fX rfl rfl) rfl ?_;refine J5 ?_
 refine bK Tryz.results65 (λ w hw=>?_)
 exact⟨(),rfl,trivial,hw.aS⟩
theorem Y0{m n N:Nat}{R:Tr}(hT:bZ (kW k (kI k.key m) n) N 64)(hN:N<=1073741824)(hgN:x.got.length+1=N)(hsz:x.L.length<=137438953472/\x.cs.length<=137438953472/\x.gen<=137438953472)(hi:ob (kW k (kI k.key m) n) x dn rs R)(hk:mu k)(hn:n<=1073741824)(hm:m<18446744073709551616)(em:k.mask=(m:Int))(ht:k.t.root<=9223372036854775807)(ha:k.a<=x.L.length)(hb:k.b<=x.L.length)(hnn:k.n<=x.L.length)(hA:∀f∈aW x.L,f∈A)(hs:SF w D (xH k bx bm x dn rs) A [] (xW x) w):Calls Tryz.prog 29 #[.pointer (some ⟨bx,0,none⟩)] w λ e w'=>∃q:XS×List aL×Bool×Rs,e=.returned (.tuple #[])/\((dn=true/\q=(x,[],true,rs))∨(dn=false/\zV (kW k (kI k.key m) n) R 1 N rs x q.1 q.2.1 q.2.2.1 q.2.2.2))/\SF w D (xH k bx bm q.1 q.2.2.1 q.2.2.2) [] (aW q.2.1) (xW q.1) w':=by
 have hg:dn=false->Gx.Ok ⟨kW k (kI k.key m) n,R,x.mm,1,N⟩:=λ e=>by
  rcases hi.Vt with⟨e2,_⟩|⟨_,e2⟩
  ·rw[e] at e2;cases e2
  ·obtain⟨c,h1,_,_⟩:=hi.wk.uI (Nat.le_refl 64) hT (by omega)
   refine⟨hT,⟨N-x.got.length,by show 1<=N-x.got.length;omega,L0 e2 h1 (by omega)⟩,hN,Nat.le_refl 1,?_⟩
   show(x.L.map aL.c).length<=_/\_
   rw[List.length_map]
   exact hsz
 refine enter Tryz.func29 Tryz.ntmps29 rfl rfl (bX hs) ?_
 simp only[cO]
 refine mV ?_;refine mJ ?_
 refine aZ (λ c6=>?_) (λ c6=>?_)
 ·have ed:dn=false:=by simpa using c6
  subst ed
  refine xJ ?_;refine aC (cM (hs:=xH k bx bm x false rs) (os:=xW x) (A0:=aW x.L) (hA:=bP.of λ f hf=>.inr (.inl (hA f hf))) (hc:=λ w hs=>Kz (N:=N) (n:=n) (m:=m) 1 (hg rfl) hi.wk hgN hk hn hm em ht ha hb hnn (λ f hf=>hf) hi.ok hs)) (λ x8 h8=>?_);refine aI ?_
  refine Cd Tryz.results29 (λ w hw=>?_)
  first
  | exact⟨x8,rfl,.inr ⟨rfl,h8⟩,by rw[List.append_nil] at hw;exact hw.v1⟩
  | exact⟨(x,[],true,rs),rfl,.inl ⟨by simpa using c6,rfl⟩,by rw[show dn=true from by simpa using c6] at hw;exact hw.aS (hF:=by exact aV.nil)⟩
 ·refine bA ?_
  refine Cd Tryz.results29 (λ w hw=>?_)
  first
  | exact⟨(x,[],true,rs),rfl,.inl ⟨by simpa using c6,rfl⟩,by rw[show dn=true from by simpa using c6] at hw;exact hw.aS (hF:=by exact aV.nil)⟩
end
end

/- Executions of the reference: the start. -/
end Go.Proofs.YtadnboagdhcedaaGreatDoor
namespace Go.Ct
section
open Go Go.RowKit
def XS.new(L:List aL)(cs:List Int)(gen acc:Int)(pn:Option Addr)(cn:Nat)(pc:Option Addr)(cc:Nat):XS:=⟨L,cs,gen,acc,pn,cn,pc,cc,[],[],[],[],none,0,none,0,none,0,none,0,0,0,0,0,0,false,Ac.zero⟩
end
end Go.Ct
namespace Go.Proofs.YtadnboagdhcedaaGreatDoor
section
open Go Go.RowKit Go.Ct
section
variable{k:Cl}{bm:Nat}{L:List aL}{cs:List Int}{gen acc:Int}{pn pc:Option Addr}{cn cc:Nat}{D:List Nat}{A:Fr}{w:World}
theorem ik{m n N:Nat}(hT:bZ (kW k (kI k.key m) n) N 64)(hN:N<=1073741824)(hsz:L.length<=137438953472/\cs.length<=137438953472/\gen<=137438953472)(hk:mu k)(hn:n<=1073741824)(hm:m<18446744073709551616)(em:k.mask=(m:Int))(ht:k.t.root<=9223372036854775807)(ha:k.a<=L.length)(hb:k.b<=L.length)(hnn:k.n<=L.length)(hA:∀f∈aW L,f∈A)(ok:(XS.new L cs gen acc pn cn pc cc).Ok)(hs:SF w D [(bm,mO L cs gen acc pn cn pc cc)] A [] [⟨pn,gR L,cn,77,14⟩,⟨pc,aG cs,cc,62,1⟩] w)(hN0:N=0:=by rfl):Calls Tryz.prog 42 #[.pointer (some ⟨bm,0,none⟩),.agg ⟨Nt k⟩] w λ e w'=>∃q:Nat×XS×List aL×Bool×Rs,e=.returned (.pointer (some ⟨q.1,0,none⟩))/\zV (kW k (kI k.key m) n) (kW k (kI k.key m) n) 0 N Rs.zero (XS.new L cs gen acc pn cn pc cc) q.2.1 q.2.2.1 q.2.2.2.1 q.2.2.2.2/\SF w D (xH k q.1 bm q.2.1 q.2.2.2.1 q.2.2.2.2) [] (aW q.2.2.1) (xW q.2.1) w':=by
 have hg:Gx.Ok ⟨kW k (kI k.key m) n,kW k (kI k.key m) n,(XS.new L cs gen acc pn cn pc cc).mm,0,N⟩:=⟨hT,⟨N,Nat.zero_le _,hT⟩,hN,Nat.zero_le _,by
  show(L.map aL.c).length<=_/\_
  rw[List.length_map]
  exact hsz⟩
 refine enter Tryz.func42 Tryz.ntmps42 rfl rfl ((((hs.kE 3 1).kE 27 1).kE 62 1).kE 62 1) ?_
 simp only[cO]
 refine J0 ?_;refine bQ (λ x3=>?_);refine Ka4 ?_;refine aE (aK (k:=25) (vs:=Nt k) rf dV fX rfl rfl) rfl ?_;refine bG ?_;refine bQ (λ x9=>?_);refine Ka4 ?_;refine aC (cM (hs:=xH k x9 bm (XS.new L cs gen acc pn cn pc cc) false Rs.zero) (os:=xW (XS.new L cs gen acc pn cn pc cc)) (A0:=aW L) (hA:=bP.of λ f hf=>.inr (.inl (hA f hf))) (hc:=λ w hs=>Kz (N:=N) (n:=n) (m:=m) 0 hg (Wk.nil _) hN0.symm hk hn hm em ht ha hb hnn (λ f hf=>hf) ok hs)) (λ x11 h11=>?_);refine aI ?_;refine Ka5 ?_
 refine aQ Tryz.results42 (λ w hw=>?_)
 exact⟨(x9,x11.1,x11.2.1,x11.2.2.1,x11.2.2.2),rfl,h11,by rw[List.append_nil] at hw;exact hw.v1⟩
end
end

/- The trees are never stuck within as many accesses as they have fuel: single procedures. -/
section
open Go Go.RowKit Go.Ct
theorem uc:∀{t:Tr} {n c c':Nat},c<=c'->bZ t n c->bZ t n c':=by
 intro t
 induction t with
 | done r=>intros;simp[bZ]
 | stuck=>intro n c c' _ h;simp[bZ] at h
 | load r k ih =>
  intro n c c' _ h
  cases n with
  | zero=>simp[bZ]
  | succ n=>simpa only[bZ] using h
 | nV r o m k ih =>
  intro n c c' _ h
  cases n with
  | zero=>simp[bZ]
  | succ n=>simpa only[bZ] using h
 | alloc r o k ih =>
  intro n c c' hc h
  cases c with
  | zero=>simp[bZ] at h
  | succ c =>
   cases c' with
   | zero=>omega
   | succ c'=>simp only[bZ] at h ⊢;exact λ v=>ih v (by omega) (h v)
 | cell r k ih =>
  intro n c c' hc h
  cases c with
  | zero=>simp[bZ] at h
  | succ c =>
   cases c' with
   | zero=>omega
   | succ c'=>simp only[bZ] at h ⊢;exact λ v=>ih v (by omega) (h v)
 | gen k ih =>
  intro n c c' hc h
  cases c with
  | zero=>simp[bZ] at h
  | succ c =>
   cases c' with
   | zero=>omega
   | succ c'=>simp only[bZ] at h ⊢;exact λ v=>ih v (by omega) (h v)
 | node r k ih =>
  intro n c c' hc h
  cases c<;>cases c'<;>simp only[bZ] at h ⊢ <;> exact λ v=>ih v (by omega) (h v)
section
variable{n c:Nat}
theorem oG{a:Int}{k:Int->Tr}(h:∀n',n'<n->∀v,bZ (k v) n' 64):bZ (.load a k) n c:=by
 cases n with
 | zero=>simp[bZ]
 | succ n=>simp only[bZ];exact h n (Nat.lt_succ_self n)
theorem By{a o m:Int}{k:Bool->Tr}(h:∀n',n'<n->∀v,bZ (k v) n' 64):bZ (.nV a o m k) n c:=by
 cases n with
 | zero=>simp[bZ]
 | succ n=>simp only[bZ];exact h n (Nat.lt_succ_self n)
theorem Ij{a:Nv}{i:Int}{k:Int->Tr}(h:∀v,bZ (k v) n c):bZ (.alloc a i k) n (c+1):=by simp only[bZ];exact h
theorem ry{i:Int}{k:Int->Tr}(h:∀v,bZ (k v) n c):bZ (.cell i k) n (c+1):=by simp only[bZ];exact h
theorem yj{k:Int->Tr}(h:∀v,bZ (k v) n c):bZ (.gen k) n (c+1):=by simp only[bZ];exact h
theorem cL{r:Int}{k:Nv->Tr}(h:∀v,bZ (k v) n c):bZ (.node r k) n c:=by
 cases c<;>simp only[bZ]<;>exact h
abbrev F2{X:Type}(K:X->Tr)(n:Nat):Prop:=∀n',n'<n->∀v,bZ (K v) n' 64
theorem F2.lt{X:Type}{K:X->Tr}{m:Nat}(h:F2 K n)(hm:m<=n):F2 K m:=λ n' h' v=>h n' (by omega) v
theorem Xe{v s:Int}{K:Int->Tr}(h:∀w,bZ (K w) n c):bZ (qi v s K) n c:=cL λ _=>h _
theorem tC{t:dZ}{v s:Int}{K:Int->Tr}(h:F2 K n):bZ (Ga t v s K) n c:=Xe λ _=>By λ n' hn _=>h n' hn _
theorem Un{t:dZ}{K:Int->Tr}(h:F2 K n):bZ (Qw t K) n c:=oG λ n1 h1 v=>cL λ nv=>by
 split
 ·exact h n1 h1 v
 ·exact cL λ _=>oG λ n2 h2 s=>by
   split
   ·exact cL λ _=>By λ n3 h3 _=>cL λ _=>oG λ n4 h4 _=>tC (h.lt (by omega))
   ·exact tC (h.lt (by omega))
theorem M1{i m p:Int}{K:Int->Tr}(h:F2 K n):bZ (Xl i m p K) n c:=cL λ _=>cL λ _=>By λ n' hn _=>cL λ _=>h n' hn _
theorem xS{i m:Int}{K:Int->Tr}(h:F2 K n):bZ (uP i m K) n c:=cL λ _=>oG λ n1 h1 p=>by
 split
 ·exact h n1 h1 _
 ·exact M1 (h.lt (by omega))
theorem Hi{i m p:Int}{b:Bool}{K:Int->Tr}(h:F2 K n)(hc:1<=c):bZ (Fl i m p b K) n c:=by
 unfold Fl
 split
 ·exact cL λ _=>By λ n1 h1 _=>xS (h.lt (by omega))
 ·obtain⟨c,rfl⟩:∃d,c=d+1:=⟨c-1,by omega⟩
  exact cL λ _=>Ij λ _=>By λ n1 h1 _=>xS (h.lt (by omega))
theorem Bn{t:dZ}{i m:Int}{K:Int->Tr}(h:F2 K n):bZ (uX t i m K) n c:=cL λ _=>oG λ n1 h1 p=>by
 split
 ·exact h n1 h1 _
 ·refine cL λ _=>?_
  split
  ·split
   ·exact Hi (h.lt (by omega)) (by decide)
   ·exact Un λ n2 h2 _=>cL λ _=>cL λ _=>Hi (h.lt (by omega)) (by decide)
  ·exact M1 (h.lt (by omega))
theorem gA{t:dZ}{i:Int}{K:Int->Tr}(h:F2 K n):bZ (lM t i K) n c:=cL λ _=>oG λ n1 h1 _=>Bn (h.lt (by omega))
theorem Bk{t:dZ}{v:Int}{K:Tr}(h:∀n',n'<n->bZ K n' 64):bZ (vK t v K) n c:=cL λ _=>gA λ n1 h1 _=>cL λ _=>cL λ _=>By λ n2 h2 _=>h n2 (by omega)
theorem oA{t:dZ}{K:Int->Tr}(h:F2 K n):bZ (rY t K) n c:=oG λ n1 h1 v=>cL λ nv=>by
 split
 ·exact h n1 h1 v
 ·exact cL λ _=>oG λ n2 h2 s=>by
   split
   ·exact Bk λ n3 h3=>cL λ _=>oG λ n4 h4 _=>tC (h.lt (by omega))
   ·exact tC (h.lt (by omega))
theorem jB{t:dZ}{i o m:Int}{K:Bool->Tr}(h:F2 K n):bZ (mP t i o m K) n c:=cL λ _=>By λ n1 h1 b=>by
 split
 ·exact Bn λ n2 h2 _=>h n2 (by omega) _
 ·exact h n1 h1 _
theorem xB{t:dZ}{o e m:Int}{K:Bool->Tr}(h:F2 K n)(hc:1<=c):bZ (tR t o e m K) n c:=by
 obtain⟨c,rfl⟩:∃d,c=d+1:=⟨c-1,by omega⟩
 exact Ij λ _=>By λ n1 h1 b=>by
  split
  ·exact Bk λ n2 h2=>cL λ _=>oG λ n3 h3 _=>tC λ n4 h4 _=>h n4 (by omega) _
  ·exact h n1 h1 _
end
end

end Go.Proofs.YtadnboagdhcedaaGreatDoor
