/- Merged. -/
import Derived.Test.YtbajmaoegmbfgaaGreatGEx20
import Derived.Test.YtbajmaoegmbfgaaGreatGRn1
set_option linter.unusedSimpArgs false
set_option linter.unusedVariables false
namespace Go.Proofs.YtbajmaoegmbfgaaGreat
open Go Go.RowKit Go.Ct
section
abbrev Rv(k:Cl):List Value:=[.int .i64 k.kind,.int .i64 k.t.root,.bool k.t.ro,.int .i64 k.a,.int .i64 k.b,.int .i64 k.n,.int .i64 k.index,.int .u64 k.hash,.int .u64 k.mask,.string k.key,.int .u64 k.val,.int .u64 k.exp,.int .i64 k.I0,.bool k.only,.bool false,.slice none 0 0,.slice none 0 0,.int .i64 0,.bool false,.int .u64 0,.string ⟨#[]⟩,.int .i64 0,.int .i64 0,.int .i64 0,.bool false]
def gu(k:Cl):Prop:=(1<=k.kind/\k.kind<=4)∨(7<=k.kind/\k.kind<=12)
theorem bN{k:Cl}(h:k.kind=7∨k.kind=9):refuse k=if k.key.size<=64 then 0 else 1:=if_pos h
theorem bZ{k:Cl}(h:k.kind=8):refuse k=if k.key.size<=64/\0<=k.I0/\k.I0<=3 then 0 else 1:=(if_neg (by omega)).trans (if_pos h)
theorem eU{k:Cl}(h:k.kind<7∨9<k.kind):refuse k=0:=(if_neg (by omega)).trans (if_neg (by omega))
theorem Yt{k:Cl}(hk:gu k)(w:World):Calls Tryz.prog 175 #[.agg ⟨Rv k⟩] w λ e w'=>e=.returned (.int .i64 (refuse k))/\St w [] [] w':=by
 have hk2:=hk
 unfold gu at hk2
 refine enter Tryz.func175 Tryz.ntmps175 rfl rfl (SF.s0 w) ?_
 simp only[cG]
 refine J0 ?_;refine bM (λ x1=>?_);refine iT ?_;refine iH ?_;refine aI ?_;refine cW ?_;refine aV ?_;refine mB ?_
 refine bC (λ c5=>?_) (λ c5=>?_)
 ·refine aZ ?_
  refine bC (λ c5=>?_) (λ c5=>?_)
  ·refine iH ?_;refine aP (cV (hc:=λ w1 hw=>oB _ w1)) (λ x10=>?_);refine pE ?_
   refine bC (λ c11=>?_) (λ c11=>?_)
   ·refine dA ?_
    refine aT Tryz.results175 (λ w hw=>?_)
    first
    | (rw[bN (by omega),if_neg (by simp_all)];exact⟨rfl,hw.done⟩)
    | (rw[bN (by omega),if_pos (by simp_all)];exact⟨rfl,hw.done⟩)
    | (rw[bZ (by omega),if_neg (by rintro ⟨h1,h2,h3⟩;first|omega|simp_all)];exact⟨rfl,hw.done⟩)
    | (rw[bZ (by omega),if_pos ⟨by simp_all,by omega,by omega⟩];exact⟨rfl,hw.done⟩)
    | (rw[eU (by omega)];exact⟨rfl,hw.done⟩)
    | (exfalso;omega)
   ·refine Kb0 ?_
    refine aT Tryz.results175 (λ w hw=>?_)
    first
    | (rw[bN (by omega),if_neg (by simp_all)];exact⟨rfl,hw.done⟩)
    | (rw[bN (by omega),if_pos (by simp_all)];exact⟨rfl,hw.done⟩)
    | (rw[bZ (by omega),if_neg (by rintro ⟨h1,h2,h3⟩;first|omega|simp_all)];exact⟨rfl,hw.done⟩)
    | (rw[bZ (by omega),if_pos ⟨by simp_all,by omega,by omega⟩];exact⟨rfl,hw.done⟩)
    | (rw[eU (by omega)];exact⟨rfl,hw.done⟩)
    | (exfalso;omega)
  ·refine mB ?_
   refine bC (λ c12=>?_) (λ c12=>?_)
   ·refine iH ?_;refine aP (cV (hc:=λ w1 hw=>oB _ w1)) (λ x16=>?_);refine Dg ?_
    (refine eI 18 (λ g18=>?_) (λ g18=>?_)<;>refine Ka1 ?_)
    all_goals (refine xu ?_;refine aB ?_)
    all_goals (first|refine aJ ?_|(refine eI 23 (λ g23=>?_) (λ g23=>?_)<;>refine Ka1 ?_))
    all_goals (refine Ka2 ?_;refine Ka7 ?_)
    all_goals
    refine bC (λ c27=>?_) (λ c27=>?_)
    ·all_goals refine dA ?_
     all_goals
      refine aT Tryz.results175 (λ w hw=>?_)
      first
      | (rw[bN (by omega),if_neg (by simp_all)];exact⟨rfl,hw.done⟩)
      | (rw[bN (by omega),if_pos (by simp_all)];exact⟨rfl,hw.done⟩)
      | (rw[bZ (by omega),if_neg (by rintro ⟨h1,h2,h3⟩;first|omega|simp_all)];exact⟨rfl,hw.done⟩)
      | (rw[bZ (by omega),if_pos ⟨by simp_all,by omega,by omega⟩];exact⟨rfl,hw.done⟩)
      | (rw[eU (by omega)];exact⟨rfl,hw.done⟩)
      | (exfalso;omega)
    ·try exact nv c27
     all_goals (refine Kb0 ?_)
     all_goals
      refine aT Tryz.results175 (λ w hw=>?_)
      first
      | (rw[bN (by omega),if_neg (by simp_all)];exact⟨rfl,hw.done⟩)
      | (rw[bN (by omega),if_pos (by simp_all)];exact⟨rfl,hw.done⟩)
      | (rw[bZ (by omega),if_neg (by rintro ⟨h1,h2,h3⟩;first|omega|simp_all)];exact⟨rfl,hw.done⟩)
      | (rw[bZ (by omega),if_pos ⟨by simp_all,by omega,by omega⟩];exact⟨rfl,hw.done⟩)
      | (rw[eU (by omega)];exact⟨rfl,hw.done⟩)
      | (exfalso;omega)
   ·refine aV ?_;refine mB ?_
    refine bC (λ c28=>?_) (λ c28=>?_)
    ·refine aZ ?_
     refine bC (λ c28=>?_) (λ c28=>?_)
     ·refine Kc5 ?_;refine J3 ?_;refine pE ?_
      refine bC (λ c34=>?_) (λ c34=>?_)
      ·refine dA ?_
       refine aT Tryz.results175 (λ w hw=>?_)
       first
       | (rw[bN (by omega),if_neg (by simp_all)];exact⟨rfl,hw.done⟩)
       | (rw[bN (by omega),if_pos (by simp_all)];exact⟨rfl,hw.done⟩)
       | (rw[bZ (by omega),if_neg (by rintro ⟨h1,h2,h3⟩;omega)];exact⟨rfl,hw.done⟩)
       | (rw[bZ (by omega),if_pos ⟨by simp_all,by omega,by omega⟩];exact⟨rfl,hw.done⟩)
       | (rw[eU (by omega)];exact⟨rfl,hw.done⟩)
       | (exfalso;omega)
      ·refine Kb0 ?_
       refine aT Tryz.results175 (λ w hw=>?_)
       first
       | (rw[bN (by omega),if_neg (by simp_all)];exact⟨rfl,hw.done⟩)
       | (rw[bN (by omega),if_pos (by simp_all)];exact⟨rfl,hw.done⟩)
       | (rw[bZ (by omega),if_neg (by rintro ⟨h1,h2,h3⟩;first|omega|simp_all)];exact⟨rfl,hw.done⟩)
       | (rw[bZ (by omega),if_pos ⟨by simp_all,by omega,by omega⟩];exact⟨rfl,hw.done⟩)
       | (rw[eU (by omega)];exact⟨rfl,hw.done⟩)
       | (exfalso;omega)
     ·refine Kb0 ?_
      refine aT Tryz.results175 (λ w hw=>?_)
      first
      | (rw[bN (by omega),if_neg (by simp_all)];exact⟨rfl,hw.done⟩)
      | (rw[bN (by omega),if_pos (by simp_all)];exact⟨rfl,hw.done⟩)
      | (rw[bZ (by omega),if_neg (by rintro ⟨h1,h2,h3⟩;first|omega|simp_all)];exact⟨rfl,hw.done⟩)
      | (rw[bZ (by omega),if_pos ⟨by simp_all,by omega,by omega⟩];exact⟨rfl,hw.done⟩)
      | (rw[eU (by omega)];exact⟨rfl,hw.done⟩)
      | (exfalso;omega)
    ·refine dR ?_;refine Rt ?_
     refine bC (λ c28=>?_) (λ c28=>?_)
     ·refine Kc5 ?_;refine J3 ?_;refine pE ?_
      refine bC (λ c34=>?_) (λ c34=>?_)
      ·refine dA ?_
       refine aT Tryz.results175 (λ w hw=>?_)
       first
       | (rw[bN (by omega),if_neg (by simp_all)];exact⟨rfl,hw.done⟩)
       | (rw[bN (by omega),if_pos (by simp_all)];exact⟨rfl,hw.done⟩)
       | (rw[bZ (by omega),if_neg (by rintro ⟨h1,h2,h3⟩;omega)];exact⟨rfl,hw.done⟩)
       | (rw[bZ (by omega),if_pos ⟨by simp_all,by omega,by omega⟩];exact⟨rfl,hw.done⟩)
       | (rw[eU (by omega)];exact⟨rfl,hw.done⟩)
       | (exfalso;omega)
      ·refine Kb0 ?_
       refine aT Tryz.results175 (λ w hw=>?_)
       first
       | (rw[bN (by omega),if_neg (by simp_all)];exact⟨rfl,hw.done⟩)
       | (rw[bN (by omega),if_pos (by simp_all)];exact⟨rfl,hw.done⟩)
       | (rw[bZ (by omega),if_neg (by rintro ⟨h1,h2,h3⟩;first|omega|simp_all)];exact⟨rfl,hw.done⟩)
       | (rw[bZ (by omega),if_pos ⟨by simp_all,by omega,by omega⟩];exact⟨rfl,hw.done⟩)
       | (rw[eU (by omega)];exact⟨rfl,hw.done⟩)
       | (exfalso;omega)
     ·refine Kb0 ?_
      refine aT Tryz.results175 (λ w hw=>?_)
      first
      | (rw[bN (by omega),if_neg (by simp_all)];exact⟨rfl,hw.done⟩)
      | (rw[bN (by omega),if_pos (by simp_all)];exact⟨rfl,hw.done⟩)
      | (rw[bZ (by omega),if_neg (by rintro ⟨h1,h2,h3⟩;first|omega|simp_all)];exact⟨rfl,hw.done⟩)
      | (rw[bZ (by omega),if_pos ⟨by simp_all,by omega,by omega⟩];exact⟨rfl,hw.done⟩)
      | (rw[eU (by omega)];exact⟨rfl,hw.done⟩)
      | (exfalso;omega)
 ·refine dR ?_;refine Rt ?_
  refine bC (λ c5=>?_) (λ c5=>?_)
  ·refine iH ?_;refine aP (cV (hc:=λ w1 hw=>oB _ w1)) (λ x10=>?_);refine pE ?_
   refine bC (λ c11=>?_) (λ c11=>?_)
   ·refine dA ?_
    refine aT Tryz.results175 (λ w hw=>?_)
    first
    | (rw[bN (by omega),if_neg (by simp_all)];exact⟨rfl,hw.done⟩)
    | (rw[bN (by omega),if_pos (by simp_all)];exact⟨rfl,hw.done⟩)
    | (rw[bZ (by omega),if_neg (by rintro ⟨h1,h2,h3⟩;first|omega|simp_all)];exact⟨rfl,hw.done⟩)
    | (rw[bZ (by omega),if_pos ⟨by simp_all,by omega,by omega⟩];exact⟨rfl,hw.done⟩)
    | (rw[eU (by omega)];exact⟨rfl,hw.done⟩)
    | (exfalso;omega)
   ·refine Kb0 ?_
    refine aT Tryz.results175 (λ w hw=>?_)
    first
    | (rw[bN (by omega),if_neg (by simp_all)];exact⟨rfl,hw.done⟩)
    | (rw[bN (by omega),if_pos (by simp_all)];exact⟨rfl,hw.done⟩)
    | (rw[bZ (by omega),if_neg (by rintro ⟨h1,h2,h3⟩;first|omega|simp_all)];exact⟨rfl,hw.done⟩)
    | (rw[bZ (by omega),if_pos ⟨by simp_all,by omega,by omega⟩];exact⟨rfl,hw.done⟩)
    | (rw[eU (by omega)];exact⟨rfl,hw.done⟩)
    | (exfalso;omega)
  ·refine mB ?_
   refine bC (λ c12=>?_) (λ c12=>?_)
   ·refine iH ?_;refine aP (cV (hc:=λ w1 hw=>oB _ w1)) (λ x16=>?_);refine Dg ?_
    (refine eI 18 (λ g18=>?_) (λ g18=>?_)<;>refine Ka1 ?_)
    all_goals (refine xu ?_;refine aB ?_)
    all_goals (first|refine aJ ?_|(refine eI 23 (λ g23=>?_) (λ g23=>?_)<;>refine Ka1 ?_))
    all_goals (refine Ka2 ?_;refine Ka7 ?_)
    all_goals
    refine bC (λ c27=>?_) (λ c27=>?_)
    ·all_goals refine dA ?_
     all_goals
      refine aT Tryz.results175 (λ w hw=>?_)
      first
      | (rw[bN (by omega),if_neg (by simp_all)];exact⟨rfl,hw.done⟩)
      | (rw[bN (by omega),if_pos (by simp_all)];exact⟨rfl,hw.done⟩)
      | (rw[bZ (by omega),if_neg (by rintro ⟨h1,h2,h3⟩;omega)];exact⟨rfl,hw.done⟩)
      | (rw[bZ (by omega),if_pos ⟨by simp_all,by omega,by omega⟩];exact⟨rfl,hw.done⟩)
      | (rw[eU (by omega)];exact⟨rfl,hw.done⟩)
      | (exfalso;omega)
    ·try exact nv c27
     all_goals (refine Kb0 ?_)
     all_goals
      refine aT Tryz.results175 (λ w hw=>?_)
      first
      | (rw[bN (by omega),if_neg (by simp_all)];exact⟨rfl,hw.done⟩)
      | (rw[bN (by omega),if_pos (by simp_all)];exact⟨rfl,hw.done⟩)
      | (rw[bZ (by omega),if_neg (by rintro ⟨h1,h2,h3⟩;simp_all)];exact⟨rfl,hw.done⟩)
      | (rw[bZ (by omega),if_pos ⟨by simp_all,by omega,by omega⟩];exact⟨rfl,hw.done⟩)
      | (rw[eU (by omega)];exact⟨rfl,hw.done⟩)
      | (exfalso;omega)
   ·refine aV ?_;refine mB ?_
    refine bC (λ c28=>?_) (λ c28=>?_)
    ·refine aZ ?_
     refine bC (λ c28=>?_) (λ c28=>?_)
     ·refine Kc5 ?_;refine J3 ?_;refine pE ?_
      refine bC (λ c34=>?_) (λ c34=>?_)
      ·refine dA ?_
       refine aT Tryz.results175 (λ w hw=>?_)
       first
       | (rw[bN (by omega),if_neg (by simp_all)];exact⟨rfl,hw.done⟩)
       | (rw[bN (by omega),if_pos (by simp_all)];exact⟨rfl,hw.done⟩)
       | (rw[bZ (by omega),if_neg (by rintro ⟨h1,h2,h3⟩;omega)];exact⟨rfl,hw.done⟩)
       | (rw[bZ (by omega),if_pos ⟨by simp_all,by omega,by omega⟩];exact⟨rfl,hw.done⟩)
       | (rw[eU (by omega)];exact⟨rfl,hw.done⟩)
       | (exfalso;omega)
      ·refine Kb0 ?_
       refine aT Tryz.results175 (λ w hw=>?_)
       first
       | (rw[bN (by omega),if_neg (by simp_all)];exact⟨rfl,hw.done⟩)
       | (rw[bN (by omega),if_pos (by simp_all)];exact⟨rfl,hw.done⟩)
       | (rw[bZ (by omega),if_neg (by rintro ⟨h1,h2,h3⟩;first|omega|simp_all)];exact⟨rfl,hw.done⟩)
       | (rw[bZ (by omega),if_pos ⟨by simp_all,by omega,by omega⟩];exact⟨rfl,hw.done⟩)
       | (rw[eU (by omega)];exact⟨rfl,hw.done⟩)
       | (exfalso;omega)
     ·refine Kb0 ?_
      refine aT Tryz.results175 (λ w hw=>?_)
      first
      | (rw[bN (by omega),if_neg (by simp_all)];exact⟨rfl,hw.done⟩)
      | (rw[bN (by omega),if_pos (by simp_all)];exact⟨rfl,hw.done⟩)
      | (rw[bZ (by omega),if_neg (by rintro ⟨h1,h2,h3⟩;first|omega|simp_all)];exact⟨rfl,hw.done⟩)
      | (rw[bZ (by omega),if_pos ⟨by simp_all,by omega,by omega⟩];exact⟨rfl,hw.done⟩)
      | (rw[eU (by omega)];exact⟨rfl,hw.done⟩)
      | (exfalso;omega)
    ·refine dR ?_;refine Rt ?_
     refine bC (λ c28=>?_) (λ c28=>?_)
     ·refine Kc5 ?_;refine J3 ?_;refine pE ?_
      refine bC (λ c34=>?_) (λ c34=>?_)
      ·refine dA ?_
       refine aT Tryz.results175 (λ w hw=>?_)
       first
       | (rw[bN (by omega),if_neg (by simp_all)];exact⟨rfl,hw.done⟩)
       | (rw[bN (by omega),if_pos (by simp_all)];exact⟨rfl,hw.done⟩)
       | (rw[bZ (by omega),if_neg (by rintro ⟨h1,h2,h3⟩;omega)];exact⟨rfl,hw.done⟩)
       | (rw[bZ (by omega),if_pos ⟨by simp_all,by omega,by omega⟩];exact⟨rfl,hw.done⟩)
       | (rw[eU (by omega)];exact⟨rfl,hw.done⟩)
       | (exfalso;omega)
      ·refine Kb0 ?_
       refine aT Tryz.results175 (λ w hw=>?_)
       first
       | (rw[bN (by omega),if_neg (by simp_all)];exact⟨rfl,hw.done⟩)
       | (rw[bN (by omega),if_pos (by simp_all)];exact⟨rfl,hw.done⟩)
       | (rw[bZ (by omega),if_neg (by rintro ⟨h1,h2,h3⟩;first|omega|simp_all)];exact⟨rfl,hw.done⟩)
       | (rw[bZ (by omega),if_pos ⟨by simp_all,by omega,by omega⟩];exact⟨rfl,hw.done⟩)
       | (rw[eU (by omega)];exact⟨rfl,hw.done⟩)
       | (exfalso;omega)
     ·refine Kb0 ?_
      refine aT Tryz.results175 (λ w hw=>?_)
      first
      | (rw[bN (by omega),if_neg (by simp_all)];exact⟨rfl,hw.done⟩)
      | (rw[bN (by omega),if_pos (by simp_all)];exact⟨rfl,hw.done⟩)
      | (rw[bZ (by omega),if_neg (by rintro ⟨h1,h2,h3⟩;first|omega|simp_all)];exact⟨rfl,hw.done⟩)
      | (rw[bZ (by omega),if_pos ⟨by simp_all,by omega,by omega⟩];exact⟨rfl,hw.done⟩)
      | (rw[eU (by omega)];exact⟨rfl,hw.done⟩)
      | (exfalso;omega)
theorem Ll(r:Int)(f:Bool)(w:World):Calls Tryz.prog 176 #[.int .i64 r,.bool f] w λ e w'=>e=.returned (.agg ⟨(fC r f).cells⟩)/\St w [] [] w':=by
 refine enter Tryz.func176 Tryz.ntmps176 rfl rfl (SF.s0 w) ?_
 simp only[cG]
 refine J0 ?_;refine aL (λ x4=>?_);refine aI ?_;refine jF ?_;refine xF ?_
 refine bD Tryz.results176 (λ w hw=>?_)
 exact⟨rfl,hw.done⟩
theorem W0{k:Cl}{B:Bool->Tr}{C:Tr}(h:k.kind=10∨k.kind=11):(if k.kind=10 then B false else if k.kind=11 then B true else C)=B (k.kind==11):=by
 rcases h with h|h<;>rw[h]<;>rfl
section
variable{k:Cl}{bx bm:Nat}{x:XS}{dn:Bool}{rs:Rs}{D:List Nat}{A:Fr}{w:World}{g:Gx}
set_option maxRecDepth 100000 in
set_option maxHeartbeats 2000000 in
theorem aBq(hg:g.Ok){m:Nat}(n:Nat)(hk:gu k)(hn:n<=1073741824)(hm:m<18446744073709551616)(em:k.mask=(m:Int))(ht:k.t.root<=9223372036854775807)(ha:k.a<=x.L.length)(hb:k.b<=x.L.length)(hnn:k.n<=x.L.length)(hA:∀f∈aN x.L,f∈A)(go:gE g x (lG k (mJ k.key m) n))(ok:x.Ok)(hs:SF w D (xH k bx bm x dn rs) A [] (xW x) w):Calls Tryz.prog 143 #[.pointer (some ⟨bx,0,none⟩)] w λ e w'=>∃q:Rs×XS×List aQ,e=.returned (.agg ⟨q.1.cells⟩)/\Nx g x q.2.1 q.2.2 (.done q.1) 0/\SF w D (xH k bx bm q.2.1 dn rs) [] (aN q.2.2) (xW q.2.1) w':=by
 have hk2:=hk
 unfold gu at hk2
 refine enter Tryz.func143 Tryz.ntmps143 rfl rfl (cD hs) ?_
 simp only[cG]
 refine J0 ?_;refine aL (λ x2=>?_);refine aI ?_;refine I1 ?_;refine aD (aU (k:=25) (vs:=Rv k) rf cS eT rfl rfl) rfl ?_;refine aL (λ x3=>?_);refine J5 ?_;refine aV ?_;refine oR ?_;refine aP (cV (hc:=λ w1 hw=>Yt hk w1)) (λ x14=>?_);refine Ka4 ?_;refine Kc9 ?_
 refine bC (λ c16=>?_) (λ c16=>?_)
 ·refine J2 ?_;refine xF ?_
  refine bD Tryz.results143 (λ w hw=>?_)
  first
  | exact⟨({Rs.zero with err:=refuse k},x,[]),rfl,⟨go.to (λ _=>if_pos c16),ok,by simp,Nat.le_refl _,(bL _)⟩,hw.aY (hF:=by exact aX.nil)⟩
 ·have g0:=go.to (λ _=>if_neg (λ h:refuse k≠0=>absurd (show refuse k=0 from by assumption) h))
  have e0:refuse k=0:=by assumption
  refine kZ ?_;refine iH ?_;refine aI ?_;refine cW ?_;refine mB ?_
  refine bC (λ c21=>?_) (λ c21=>?_)
  ·have q:=g0.to (λ _=>if_pos c21)
   refine J2 ?_;refine aG ?_;refine aD (aU (k:=2) (vs:=[.int .i64 k.t.root,.bool k.t.ro]) rf cS eT rfl rfl) rfl ?_;refine J3 ?_;refine aE (cM (hs:=xH k bx bm x dn rs) (os:=xW x) (hc:=λ w hs=>pB hg k.t k.a _ ht ha q ok hs)) (λ x28 h28=>?_);refine aP (cV (hc:=λ w1 hw=>Ll _ _ w1)) (λ x29=>?_);refine J5 ?_
   refine bD Tryz.results143 (λ w hw=>?_)
   first
   | exact⟨({Rs.zero with err:=refuse k},x,[]),rfl,⟨go.to (λ _=>if_pos c16),ok,by simp,Nat.le_refl _,(bL _)⟩,hw.aY (hF:=by exact aX.nil)⟩
   | exact⟨(fC x28.1 false,x28.2.1,x28.2.2),rfl,h28.cI h28.go (bL _),by rw[List.append_nil] at hw;exact hw.v4⟩
  ·have g1:=g0.to (λ _=>if_neg c21)
   refine mB ?_
   refine bC (λ c30=>?_) (λ c30=>?_)
   ·have q:=g1.to (λ _=>if_pos c30)
    refine J2 ?_;refine aG ?_;refine aD (aU (k:=2) (vs:=[.int .i64 k.t.root,.bool k.t.ro]) rf cS eT rfl rfl) rfl ?_;refine J3 ?_;refine J3 ?_;refine J3 ?_;refine aE (cM (hs:=xH k bx bm x dn rs) (os:=xW x) (hc:=λ w hs=>tH hg k.t k.a k.b k.n _ ht ha hnn q ok hs)) (λ x41 h41=>?_);refine aP (cV (hc:=λ w1 hw=>Ll _ _ w1)) (λ x42=>?_);refine J5 ?_
    refine bD Tryz.results143 (λ w hw=>?_)
    first
    | exact⟨({Rs.zero with err:=refuse k},x,[]),rfl,⟨go.to (λ _=>if_pos c16),ok,by simp,Nat.le_refl _,(bL _)⟩,hw.aY (hF:=by exact aX.nil)⟩
    | exact⟨(fC 0 x41.1,x41.2.1,x41.2.2),rfl,h41,by rw[List.append_nil] at hw;exact hw.v4⟩
   ·have g2:=g1.to (λ _=>if_neg c30)
    refine mB ?_
    refine bC (λ c43=>?_) (λ c43=>?_)
    ·have q:=g2.to (λ _=>if_pos c43)
     refine J2 ?_;refine aG ?_;refine aD (aU (k:=2) (vs:=[.int .i64 k.t.root,.bool k.t.ro]) rf cS eT rfl rfl) rfl ?_;refine aE (cM (hs:=xH k bx bm x dn rs) (os:=xW x) (hc:=λ w hs=>Cc hg k.t _ ht q ok hs)) (λ x48 h48=>?_);refine aP (cV (hc:=λ w1 hw=>Ll _ _ w1)) (λ x49=>?_);refine J5 ?_
     refine bD Tryz.results143 (λ w hw=>?_)
     first
     | exact⟨({Rs.zero with err:=refuse k},x,[]),rfl,⟨go.to (λ _=>if_pos c16),ok,by simp,Nat.le_refl _,(bL _)⟩,hw.aY (hF:=by exact aX.nil)⟩
     | exact⟨(fC x48.1 false,x48.2.1,x48.2.2),rfl,h48.cI h48.go (bL _),by rw[List.append_nil] at hw;exact hw.v4⟩
    ·have g3:=g2.to (λ _=>if_neg c43)
     refine mB ?_
     refine bC (λ c50=>?_) (λ c50=>?_)
     ·have q:=g3.to (λ _=>if_pos c50)
      refine J2 ?_;refine aG ?_;refine aD (aU (k:=2) (vs:=[.int .i64 k.t.root,.bool k.t.ro]) rf cS eT rfl rfl) rfl ?_;refine J3 ?_;refine J3 ?_;refine J3 ?_;refine aE (cM (hs:=xH k bx bm x dn rs) (os:=xW x) (hc:=λ w hs=>Ln hg k.t k.a k.b k.n _ ht ha hb hnn q ok hs)) (λ x61 h61=>?_);refine aP (cV (hc:=λ w1 hw=>Ll _ _ w1)) (λ x62=>?_);refine J5 ?_
      refine bD Tryz.results143 (λ w hw=>?_)
      first
      | exact⟨({Rs.zero with err:=refuse k},x,[]),rfl,⟨go.to (λ _=>if_pos c16),ok,by simp,Nat.le_refl _,(bL _)⟩,hw.aY (hF:=by exact aX.nil)⟩
      | exact⟨(fC 0 x61.1,x61.2.1,x61.2.2),rfl,h61,by rw[List.append_nil] at hw;exact hw.v4⟩
     ·have g4:=g3.to (λ _=>if_neg c50)
      refine mB ?_
      refine bC (λ c63=>?_) (λ c63=>?_)
      ·exfalso;omega
      ·refine mB ?_
       refine bC (λ c79=>?_) (λ c79=>?_)
       ·exfalso;omega
       ·refine mB ?_
        refine bC (λ c94=>?_) (λ c94=>?_)
        ·have q:=g4.to (λ _=>if_pos c94)
         have ek:k.key.size<=64:=by rw[bN (by omega)] at e0;split at e0;assumption;cases e0
         refine J2 ?_;refine aE (cM (hs:=xH k bx bm x dn rs) (os:=xW x) (A0:=aN x.L) (hA:=bH.of λ f hf=>.inr (.inl (hA f hf))) (hc:=λ w hs=>zw hg _ n hn hm em ek ht (λ f hf=>hf) q ok hs)) (λ x97 h97=>?_);refine J5 ?_
         refine bD Tryz.results143 (λ w hw=>?_)
         first
         | exact⟨({Rs.zero with err:=refuse k},x,[]),rfl,⟨go.to (λ _=>if_pos c16),ok,by simp,Nat.le_refl _,(bL _)⟩,hw.aY (hF:=by exact aX.nil)⟩
         | exact⟨(x97.1,x97.2.1,x97.2.2),rfl,h97,by rw[List.append_nil] at hw;exact hw.v4⟩
        ·have g7:=g4.to (λ _=>if_neg c94)
         refine mB ?_
         refine bC (λ c98=>?_) (λ c98=>?_)
         ·have q:=g7.to (λ _=>if_pos c98)
          have ek:k.key.size<=64:=by rw[bZ (by omega)] at e0;split at e0;(rename_i h;exact h.1);cases e0
          refine J2 ?_;refine aE (cM (hs:=xH k bx bm x dn rs) (os:=xW x) (A0:=aN x.L) (hA:=bH.of λ f hf=>.inr (.inl (hA f hf))) (hc:=λ w hs=>aCz hg _ n hn hm em ek ht (λ f hf=>hf) q ok hs)) (λ x101 h101=>?_);refine J5 ?_
          refine bD Tryz.results143 (λ w hw=>?_)
          first
          | exact⟨({Rs.zero with err:=refuse k},x,[]),rfl,⟨go.to (λ _=>if_pos c16),ok,by simp,Nat.le_refl _,(bL _)⟩,hw.aY (hF:=by exact aX.nil)⟩
          | exact⟨(x101.1,x101.2.1,x101.2.2),rfl,h101,by rw[List.append_nil] at hw;exact hw.v4⟩
         ·have g8:=g7.to (λ _=>if_neg c98)
          refine mB ?_
          refine bC (λ c102=>?_) (λ c102=>?_)
          ·have q:=g8.to (λ _=>if_pos c102)
           have ek:k.key.size<=64:=by rw[bN (by omega)] at e0;split at e0;assumption;cases e0
           refine J2 ?_;refine aE (cM (hs:=xH k bx bm x dn rs) (os:=xW x) (A0:=aN x.L) (hA:=bH.of λ f hf=>.inr (.inl (hA f hf))) (hc:=λ w hs=>zp hg _ n hn hm em ek ht (λ f hf=>hf) q ok hs)) (λ x105 h105=>?_);refine J5 ?_
           refine bD Tryz.results143 (λ w hw=>?_)
           first
           | exact⟨({Rs.zero with err:=refuse k},x,[]),rfl,⟨go.to (λ _=>if_pos c16),ok,by simp,Nat.le_refl _,(bL _)⟩,hw.aY (hF:=by exact aX.nil)⟩
           | exact⟨(x105.1,x105.2.1,x105.2.2),rfl,h105,by rw[List.append_nil] at hw;exact hw.v4⟩
          ·have g9:=g8.to (λ _=>if_neg c102)
           refine aV ?_;refine mB ?_
           refine bC (λ c106=>?_) (λ c106=>?_)
           ·refine aZ ?_
            refine bC (λ c106=>?_) (λ c106=>?_)
            ·refine J2 ?_;refine J3 ?_;refine lF ?_;refine aE (cM (hs:=xH k bx bm x dn rs) (os:=xW x) (hc:=λ w hs=>Ff hg (k.kind==11) _ n ht (g9.to (λ _=>W0 (B:=λ b=>tT k.t b .done n) (by omega))) ok hs)) (λ x113 h113=>?_);refine J5 ?_
             refine bD Tryz.results143 (λ w hw=>?_)
             first
             | exact⟨({Rs.zero with err:=refuse k},x,[]),rfl,⟨go.to (λ _=>if_pos c16),ok,by simp,Nat.le_refl _,(bL _)⟩,hw.aY (hF:=by exact aX.nil)⟩
             | exact⟨(x113.1,x113.2.1,x113.2.2),rfl,h113,by rw[List.append_nil] at hw;exact hw.v4⟩
            ·refine mB ?_
             refine bC (λ c114=>?_) (λ c114=>?_)
             ·have q:=(g9.to (λ _=>if_neg (by omega))).to (λ _=>if_neg (by omega))
              refine J2 ?_;refine aE (cM (hs:=xH k bx bm x dn rs) (os:=xW x) (hc:=λ w hs=>W2 hg _ n ht q ok hs)) (λ x117 h117=>?_);refine J5 ?_
              refine bD Tryz.results143 (λ w hw=>?_)
              first
              | exact⟨({Rs.zero with err:=refuse k},x,[]),rfl,⟨go.to (λ _=>if_pos c16),ok,by simp,Nat.le_refl _,(bL _)⟩,hw.aY (hF:=by exact aX.nil)⟩
              | exact⟨(x117.1,x117.2.1,x117.2.2),rfl,h117,by rw[List.append_nil] at hw;exact hw.v4⟩
             ·exfalso;omega
           ·refine dR ?_;refine Rt ?_
            refine bC (λ c106=>?_) (λ c106=>?_)
            ·refine J2 ?_;refine J3 ?_;refine lF ?_;refine aE (cM (hs:=xH k bx bm x dn rs) (os:=xW x) (hc:=λ w hs=>Ff hg (k.kind==11) _ n ht (g9.to (λ _=>W0 (B:=λ b=>tT k.t b .done n) (by omega))) ok hs)) (λ x113 h113=>?_);refine J5 ?_
             refine bD Tryz.results143 (λ w hw=>?_)
             first
             | exact⟨({Rs.zero with err:=refuse k},x,[]),rfl,⟨go.to (λ _=>if_pos c16),ok,by simp,Nat.le_refl _,(bL _)⟩,hw.aY (hF:=by exact aX.nil)⟩
             | exact⟨(x113.1,x113.2.1,x113.2.2),rfl,h113,by rw[List.append_nil] at hw;exact hw.v4⟩
            ·refine mB ?_
             refine bC (λ c114=>?_) (λ c114=>?_)
             ·have q:=(g9.to (λ _=>if_neg (by omega))).to (λ _=>if_neg (by omega))
              refine J2 ?_;refine aE (cM (hs:=xH k bx bm x dn rs) (os:=xW x) (hc:=λ w hs=>W2 hg _ n ht q ok hs)) (λ x117 h117=>?_);refine J5 ?_
              refine bD Tryz.results143 (λ w hw=>?_)
              first
              | exact⟨({Rs.zero with err:=refuse k},x,[]),rfl,⟨go.to (λ _=>if_pos c16),ok,by simp,Nat.le_refl _,(bL _)⟩,hw.aY (hF:=by exact aX.nil)⟩
              | exact⟨(x117.1,x117.2.1,x117.2.2),rfl,h117,by rw[List.append_nil] at hw;exact hw.v4⟩
             ·exfalso;omega
end
end
end Go.Proofs.YtbajmaoegmbfgaaGreat
namespace Go.Ct
open Go Go.RowKit
section
theorem tf{L:List Nv}{r:Rs}{gs ms cl gn:List Int}{R:Tr}(h:Wk L (.done r) gs ms cl gn R):gs=[]/\ms=[]/\cl=[]/\gn=[]/\R=.done r:=by
 cases h
 exact⟨rfl,rfl,rfl,rfl,rfl⟩
def XS.re(x:XS)(free:Nat):XS:={x with a:=0,m:=0,c:=0,g:=0,fr:=free,st:=false}
theorem aBx{T R:Tr}{x:XS}{free N:Nat}(hw:Wk x.nodes T x.got x.made x.cel x.gns R)(hN:x.got.length+free=N):gE ⟨T,R,x.mm,free,N⟩ (x.re free) T:=.inl ⟨rfl,R,⟨Wk.nil _,hw,by show Rc (free-free) R x.mm R x.mm;rw[Nat.sub_self];exact Rc.refl _ _,Nat.le_refl _,Nat.zero_le _,Nat.zero_le _,Nat.zero_le _,Nat.zero_le _,hN⟩⟩
structure Ay(T R:Tr)(free N:Nat)(rs:Rs)(x x':XS)(N':List aQ)(dn':Bool)(rs':Rs):Prop where
 ok:x'.Ok
 ext:x'.L=x.L++N'
 lc:x.cs.length<=x'.cs.length
 gl:x'.got.length<=N
 Z0:(dn'=true/\∃j,j<=free/\x'.got.length+free=N+j/\Wk x'.nodes T x'.got x'.made x'.cel x'.gns (.done rs')/\Rc j R x.mm (.done rs') x'.mm)∨(dn'=false/\rs'=rs/\x'.got.length=N/\∃R',R'.acc=some x'.nx/\Wk x'.nodes T x'.got x'.made x'.cel x'.gns R'/\Rc free R x.mm R' x'.mm)
theorem Nx.wj{T R:Tr}{free N:Nat}{rs r:Rs}{x x':XS}{N':List aQ}(h:Nx ⟨T,R,x.mm,free,N⟩ (x.re free) x' N' (.done r) 0)(hs:x'.st=false):Ay T R free N rs x x' N' true r:=by
 obtain⟨R',hR⟩:=h.go.run hs
 obtain⟨e1,e2,e3,e4,e5⟩:=tf hR.suf
 refine⟨h.ok,h.ext,h.lc,(by have:=hR.hN;show x'.got.length<=N;simp only at this;omega),.inl ⟨rfl,free-x'.fr,Nat.sub_le _ _,(by have:=hR.hN;have:=hR.hf;simp only at *;omega),?_,e5▸hR.rc⟩⟩
 have hp:=hR.pre
 rwa [List.take_of_length_le (List.drop_eq_nil_iff.1 e1),List.take_of_length_le (List.drop_eq_nil_iff.1 e2),List.take_of_length_le (List.drop_eq_nil_iff.1 e3),List.take_of_length_le (List.drop_eq_nil_iff.1 e4)] at hp
theorem Nx.vv{T R:Tr}{free N:Nat}{rs r:Rs}{x x':XS}{N':List aQ}(h:Nx ⟨T,R,x.mm,free,N⟩ (x.re free) x' N' (.done r) 0)(hs:x'.st=true):Ay T R free N rs x x' N' false rs:=by
 rcases h.go with h1|h1
 ·rw[hs] at h1;exact nomatch h1.1
 ·obtain⟨R',hR⟩:=h1.2
  exact⟨h.ok,h.ext,h.lc,Nat.le_of_eq hR.hN,.inr ⟨rfl,rfl,hR.hN,R',hR.ac,hR.wk,hR.rc⟩⟩
end
end Go.Ct
namespace Go.Proofs.YtbajmaoegmbfgaaGreat
open Go Go.RowKit Go.Ct
section
section
variable{k:Cl}{bx bm:Nat}{x:XS}{rs:Rs}{D:List Nat}{A:Fr}{w:World}
theorem Px{m n N:Nat}{R:Tr}(free:Nat)(hg:Gx.Ok ⟨lG k (mJ k.key m) n,R,x.mm,free,N⟩)(hwk:Wk x.nodes (lG k (mJ k.key m) n) x.got x.made x.cel x.gns R)(hN:x.got.length+free=N)(hk:gu k)(hn:n<=1073741824)(hm:m<18446744073709551616)(em:k.mask=(m:Int))(ht:k.t.root<=9223372036854775807)(ha:k.a<=x.L.length)(hb:k.b<=x.L.length)(hnn:k.n<=x.L.length)(hA:∀f∈aN x.L,f∈A)(ok:x.Ok)(hs:SF w D (xH k bx bm x false rs) A [] (xW x) w):Calls Tryz.prog 99 #[.pointer (some ⟨bx,0,none⟩),.int .i64 (free:Int)] w λ e w'=>∃q:XS×List aQ×Bool×Rs,e=.returned (.tuple #[])/\Ay (lG k (mJ k.key m) n) R free N rs x q.1 q.2.1 q.2.2.1 q.2.2.2/\SF w D (xH k bx bm q.1 q.2.2.1 q.2.2.2) [] (aN q.2.1) (xW q.1) w':=by
 have hfr:=hg.hf
 have ok0:(x.re free).Ok:=ok.xf rfl rfl rfl rfl rfl rfl (Nat.zero_le _) (Nat.zero_le _) (Nat.zero_le _) (Nat.zero_le _) hfr
 refine enter Tryz.func99 Tryz.ntmps99 rfl rfl (cD hs) ?_
 simp only[cG]
 refine jF ?_;refine pM ?_;refine pM ?_;refine aB ?_;refine N5 ?_;refine cR (by exact jG λ _=>fE rf cS wn rf fO rf rf lE) (λ _=>?_);refine N5 ?_;refine cR (by exact jG λ _=>fE rf cS wn rf fO rf rf lE) (λ _=>?_);refine N5 ?_;refine cR (by exact jG λ _=>fE rf cS wn rf fO rf rf lE) (λ _=>?_);refine N5 ?_;refine cR (by exact jG λ _=>fE rf cS wn rf fO rf rf lE) (λ _=>?_);refine N5 ?_;refine cR (by exact jG λ _=>fE rf cS wn rf fO rf rf lE) (λ _=>?_);refine N5 ?_;refine cR (by exact jG λ _=>fE rf cS wn rf fO rf rf lE) (λ _=>?_);refine aI ?_;refine J2 ?_;refine aE (cM (hs:=xH k bx bm (x.re free) false rs) (os:=xW (x.re free)) (A0:=aN x.L) (hA:=bH.of λ f hf=>.inr (.inl (hA f hf))) (hc:=λ w hs=>aBq hg (x:=x.re free) n hk hn hm em ht ha hb hnn (λ f hf=>hf) (aBx hwk hN) ok0 hs)) (λ x25 h25=>?_);refine aL (λ x4=>?_);refine cR (by exact(jG λ _=>bP rf cS rf rf eT rf lE)) (λ _=>?_);refine aI ?_;refine mK ?_;refine pE ?_
 refine bC (λ c30=>?_) (λ c30=>?_)
 ·refine eH [(0,[]),(1,[]),(2,[]),(3,[]),(4,[]),(5,[2]),(6,[]),(7,[]),(8,[])] ?_;refine iK ?_;refine bS ?_;refine J4 ?_;refine kW (i:=5) (hq:=(by exact jG λ _=>fE rf cS wn rf fO rf rf lE)) (h:=λ _=>?_);refine J4 ?_;refine kW (i:=8) (hq:=(jG λ _=>lV (off:=41) (vs:=x25.1.cells) rf cS rf rfl eT (Nat.le_of_ble_eq_true rfl) rf lE)) (h:=λ _=>?_);refine eL ?_
  refine B6 Tryz.results99 (λ w hw=>?_)
  first
  | exact⟨(x25.2.1,x25.2.2,true,x25.1),rfl,h25.wj (by simpa using c30),by rw[List.append_nil] at hw;exact hw.v4⟩
  | exact⟨(x25.2.1,x25.2.2,false,rs),rfl,h25.vv (by simpa using c30),by rw[List.append_nil] at hw;exact hw.v4⟩
 ·refine aZ ?_
  refine B6 Tryz.results99 (λ w hw=>?_)
  first
  | exact⟨(x25.2.1,x25.2.2,true,x25.1),rfl,h25.wj (by simpa using c30),by rw[List.append_nil] at hw;exact hw.v4⟩
  | exact⟨(x25.2.1,x25.2.2,false,rs),rfl,h25.vv (by simpa using c30),by rw[List.append_nil] at hw;exact hw.v4⟩
end
end
end Go.Proofs.YtbajmaoegmbfgaaGreat
namespace Go.Ct
open Go Go.RowKit
section
theorem Qk{R:Tr}{a:Ac}(h:R.acc=some a){n c:Nat}(ht:bW R n c)(hn:1<=n):bW R n 64:=by
 cases R<;>simp only[Tr.acc,reduceCtorEq] at h
 ·cases n with
  | zero=>omega
  | succ n=>simpa only[bW] using ht
 ·cases n with
  | zero=>omega
  | succ n=>simpa only[bW] using ht
structure qv(T:Tr)(x:XS)(dn:Bool)(rs:Rs)(R:Tr):Prop where
 ok:x.Ok
 wk:Wk x.nodes T x.got x.made x.cel x.gns R
 Z0:(dn=true/\R=.done rs)∨(dn=false/\R.acc=some x.nx)
theorem Ay.exI{T R:Tr}{free N:Nat}{rs rs':Rs}{x x':XS}{N':List aQ}{dn':Bool}(h:Ay T R free N rs x x' N' dn' rs'):∃R' j,j<=free/\(dn'=false->j=free)/\qv T x' dn' rs' R'/\Rc j R x.mm R' x'.mm/\x'.L=x.L++N'/\x.cs.length<=x'.cs.length:=by
 rcases h.Z0 with⟨e,j,h1,_,h2,h3⟩|⟨e,_,_,R',h1,h2,h3⟩
 ·exact⟨_,j,h1,(λ h=>by rw[e] at h;cases h),⟨h.ok,h2,.inl ⟨e,rfl⟩⟩,h3,h.ext,h.lc⟩
 ·exact⟨R',free,Nat.le_refl _,λ _=>rfl,⟨h.ok,h2,.inr ⟨e,h1⟩⟩,h3,h.ext,h.lc⟩
end
end Go.Ct
namespace Go.Proofs.YtbajmaoegmbfgaaGreat
open Go Go.RowKit Go.Ct
section
section
variable{k:Cl}{bx bm:Nat}{x:XS}{dn:Bool}{rs:Rs}{D:List Nat}{A:Fr}{w:World}
theorem Rz(hs:SF w D (xH k bx bm x dn rs) A [] (xW x) w):Calls Tryz.prog 69 #[.pointer (some ⟨bx,0,none⟩)] w λ e w'=>∃q:Unit,e=.returned (.bool dn)/\True/\SF w D (xH k bx bm x dn rs) [] [] (xW x) w':=by
 refine enter Tryz.func69 Tryz.ntmps69 rfl rfl (cD hs) ?_
 simp only[cG]
 refine dA ?_;refine mK ?_;refine J1 ?_
 refine aT Tryz.results69 (λ w hw=>?_)
 exact⟨(),rfl,trivial,hw.aY⟩
theorem bg(hs:SF w D (xH k bx bm x dn rs) A [] (xW x) w):Calls Tryz.prog 135 #[.pointer (some ⟨bx,0,none⟩)] w λ e w'=>∃q:Unit,e=.returned (.agg ⟨rs.cells⟩)/\True/\SF w D (xH k bx bm x dn rs) [] [] (xW x) w':=by
 refine enter Tryz.func135 Tryz.ntmps135 rfl rfl (cD hs) ?_
 simp only[cG]
 refine J0 ?_;refine aL (λ x2=>?_);refine aI ?_;refine I1 ?_;refine aD (aU (k:=8) (vs:=rs.cells) rf cS eT rfl rfl) rfl ?_;refine J5 ?_
 refine bD Tryz.results135 (λ w hw=>?_)
 exact⟨(),rfl,trivial,hw.aY⟩
theorem iz{m n N:Nat}{R:Tr}(hT:bW (lG k (mJ k.key m) n) N 64)(hN:N<=1073741824)(hgN:x.got.length+1=N)(hsz:x.L.length<=137438953472/\x.cs.length<=137438953472/\x.gen<=137438953472)(hi:qv (lG k (mJ k.key m) n) x dn rs R)(hk:gu k)(hn:n<=1073741824)(hm:m<18446744073709551616)(em:k.mask=(m:Int))(ht:k.t.root<=9223372036854775807)(ha:k.a<=x.L.length)(hb:k.b<=x.L.length)(hnn:k.n<=x.L.length)(hA:∀f∈aN x.L,f∈A)(hs:SF w D (xH k bx bm x dn rs) A [] (xW x) w):Calls Tryz.prog 68 #[.pointer (some ⟨bx,0,none⟩)] w λ e w'=>∃q:XS×List aQ×Bool×Rs,e=.returned (.tuple #[])/\((dn=true/\q=(x,[],true,rs))∨(dn=false/\Ay (lG k (mJ k.key m) n) R 1 N rs x q.1 q.2.1 q.2.2.1 q.2.2.2))/\SF w D (xH k bx bm q.1 q.2.2.1 q.2.2.2) [] (aN q.2.1) (xW q.1) w':=by
 have hg:dn=false->Gx.Ok ⟨lG k (mJ k.key m) n,R,x.mm,1,N⟩:=λ e=>by
  rcases hi.Z0 with⟨e2,_⟩|⟨_,e2⟩
  ·rw[e] at e2;cases e2
  ·obtain⟨c,h1,_,_⟩:=hi.wk.vQ (Nat.le_refl 64) hT (by omega)
   refine⟨hT,⟨N-x.got.length,by show 1<=N-x.got.length;omega,Qk e2 h1 (by omega)⟩,hN,Nat.le_refl 1,?_⟩
   show(x.L.map aQ.c).length<=_/\_
   rw[List.length_map]
   exact hsz
 refine enter Tryz.func68 Tryz.ntmps68 rfl rfl (cD hs) ?_
 simp only[cG]
 refine mK ?_;refine pE ?_
 refine bC (λ c6=>?_) (λ c6=>?_)
 ·have ed:dn=false:=by simpa using c6
  subst ed
  refine xK ?_;refine aE (cM (hs:=xH k bx bm x false rs) (os:=xW x) (A0:=aN x.L) (hA:=bH.of λ f hf=>.inr (.inl (hA f hf))) (hc:=λ w hs=>Px (N:=N) (n:=n) (m:=m) 1 (hg rfl) hi.wk hgN hk hn hm em ht ha hb hnn (λ f hf=>hf) hi.ok hs)) (λ x8 h8=>?_);refine aI ?_
  refine B6 Tryz.results68 (λ w hw=>?_)
  first
  | exact⟨x8,rfl,.inr ⟨rfl,h8⟩,by rw[List.append_nil] at hw;exact hw.v4⟩
  | exact⟨(x,[],true,rs),rfl,.inl ⟨by simpa using c6,rfl⟩,by rw[show dn=true from by simpa using c6] at hw;exact hw.aY (hF:=by exact aX.nil)⟩
 ·refine aZ ?_
  refine B6 Tryz.results68 (λ w hw=>?_)
  first
  | exact⟨(x,[],true,rs),rfl,.inl ⟨by simpa using c6,rfl⟩,by rw[show dn=true from by simpa using c6] at hw;exact hw.aY (hF:=by exact aX.nil)⟩
end
end
end Go.Proofs.YtbajmaoegmbfgaaGreat
namespace Go.Ct
open Go Go.RowKit
section
def XS.new(L:List aQ)(cs:List Int)(gen acc:Int)(pn:Option Addr)(cn:Nat)(pc:Option Addr)(cc:Nat):XS:=⟨L,cs,gen,acc,pn,cn,pc,cc,[],[],[],[],none,0,none,0,none,0,none,0,0,0,0,0,0,false,Ac.zero⟩
end
end Go.Ct
namespace Go.Proofs.YtbajmaoegmbfgaaGreat
open Go Go.RowKit Go.Ct
section
section
variable{k:Cl}{bm:Nat}{L:List aQ}{cs:List Int}{gen acc:Int}{pn pc:Option Addr}{cn cc:Nat}{D:List Nat}{A:Fr}{w:World}
theorem r5{m n N:Nat}(hT:bW (lG k (mJ k.key m) n) N 64)(hN:N<=1073741824)(hsz:L.length<=137438953472/\cs.length<=137438953472/\gen<=137438953472)(hk:gu k)(hn:n<=1073741824)(hm:m<18446744073709551616)(em:k.mask=(m:Int))(ht:k.t.root<=9223372036854775807)(ha:k.a<=L.length)(hb:k.b<=L.length)(hnn:k.n<=L.length)(hA:∀f∈aN L,f∈A)(ok:(XS.new L cs gen acc pn cn pc cc).Ok)(hs:SF w D [(bm,mO L cs gen acc pn cn pc cc)] A [] [⟨pn,iI L,cn,47,14⟩,⟨pc,aH cs,cc,37,1⟩] w)(hN0:N=0:=by rfl):Calls Tryz.prog 49 #[.pointer (some ⟨bm,0,none⟩),.agg ⟨Rv k⟩] w λ e w'=>∃q:Nat×XS×List aQ×Bool×Rs,e=.returned (.pointer (some ⟨q.1,0,none⟩))/\Ay (lG k (mJ k.key m) n) (lG k (mJ k.key m) n) 0 N Rs.zero (XS.new L cs gen acc pn cn pc cc) q.2.1 q.2.2.1 q.2.2.2.1 q.2.2.2.2/\SF w D (xH k q.1 bm q.2.1 q.2.2.2.1 q.2.2.2.2) [] (aN q.2.2.1) (xW q.2.1) w':=by
 have hg:Gx.Ok ⟨lG k (mJ k.key m) n,lG k (mJ k.key m) n,(XS.new L cs gen acc pn cn pc cc).mm,0,N⟩:=⟨hT,⟨N,Nat.zero_le _,hT⟩,hN,Nat.zero_le _,by
  show(L.map aQ.c).length<=_/\_
  rw[List.length_map]
  exact hsz⟩
 refine enter Tryz.func49 Tryz.ntmps49 rfl rfl ((((hs.kA 3 1).kA 27 1).kA 37 1).kA 37 1) ?_
 simp only[cG]
 refine J0 ?_;refine bM (λ x3=>?_);refine Ka4 ?_;refine aD (aU (k:=25) (vs:=Rv k) rf cS eT rfl rfl) rfl ?_;refine bO ?_;refine bM (λ x9=>?_);refine Ka4 ?_;refine aE (cM (hs:=xH k x9 bm (XS.new L cs gen acc pn cn pc cc) false Rs.zero) (os:=xW (XS.new L cs gen acc pn cn pc cc)) (A0:=aN L) (hA:=bH.of λ f hf=>.inr (.inl (hA f hf))) (hc:=λ w hs=>Px (N:=N) (n:=n) (m:=m) 0 hg (Wk.nil _) hN0.symm hk hn hm em ht ha hb hnn (λ f hf=>hf) ok hs)) (λ x11 h11=>?_);refine aI ?_;refine Ka5 ?_
 refine aT Tryz.results49 (λ w hw=>?_)
 exact⟨(x9,x11.1,x11.2.1,x11.2.2.1,x11.2.2.2),rfl,h11,by rw[List.append_nil] at hw;exact hw.v4⟩
end
end
section
theorem aAu:∀{t:Tr} {n c c':Nat},c<=c'->bW t n c->bW t n c':=by
 intro t
 induction t with
 | done r=>intros;simp[bW]
 | stuck=>intro n c c' _ h;simp[bW] at h
 | load r k ih =>
  intro n c c' _ h
  cases n with
  | zero=>simp[bW]
  | succ n=>simpa only[bW] using h
 | jW r o m k ih =>
  intro n c c' _ h
  cases n with
  | zero=>simp[bW]
  | succ n=>simpa only[bW] using h
 | alloc r o k ih =>
  intro n c c' hc h
  cases c with
  | zero=>simp[bW] at h
  | succ c =>
   cases c' with
   | zero=>omega
   | succ c'=>simp only[bW] at h ⊢;exact λ v=>ih v (by omega) (h v)
 | cell r k ih =>
  intro n c c' hc h
  cases c with
  | zero=>simp[bW] at h
  | succ c =>
   cases c' with
   | zero=>omega
   | succ c'=>simp only[bW] at h ⊢;exact λ v=>ih v (by omega) (h v)
 | gen k ih =>
  intro n c c' hc h
  cases c with
  | zero=>simp[bW] at h
  | succ c =>
   cases c' with
   | zero=>omega
   | succ c'=>simp only[bW] at h ⊢;exact λ v=>ih v (by omega) (h v)
 | node r k ih =>
  intro n c c' hc h
  cases c<;>cases c'<;>simp only[bW] at h ⊢ <;> exact λ v=>ih v (by omega) (h v)
section
variable{n c:Nat}
theorem pV{a:Int}{k:Int->Tr}(h:∀n',n'<n->∀v,bW (k v) n' 64):bW (.load a k) n c:=by
 cases n with
 | zero=>simp[bW]
 | succ n=>simp only[bW];exact h n (Nat.lt_succ_self n)
theorem C5{a o m:Int}{k:Bool->Tr}(h:∀n',n'<n->∀v,bW (k v) n' 64):bW (.jW a o m k) n c:=by
 cases n with
 | zero=>simp[bW]
 | succ n=>simp only[bW];exact h n (Nat.lt_succ_self n)
theorem M6{a:Nv}{i:Int}{k:Int->Tr}(h:∀v,bW (k v) n c):bW (.alloc a i k) n (c+1):=by simp only[bW];exact h
theorem aAk{i:Int}{k:Int->Tr}(h:∀v,bW (k v) n c):bW (.cell i k) n (c+1):=by simp only[bW];exact h
theorem aCp{k:Int->Tr}(h:∀v,bW (k v) n c):bW (.gen k) n (c+1):=by simp only[bW];exact h
theorem cQ{r:Int}{k:Nv->Tr}(h:∀v,bW (k v) n c):bW (.node r k) n c:=by
 cases c<;>simp only[bW]<;>exact h
abbrev I9{X:Type}(K:X->Tr)(n:Nat):Prop:=∀n',n'<n->∀v,bW (K v) n' 64
theorem I9.lt{X:Type}{K:X->Tr}{m:Nat}(h:I9 K n)(hm:m<=n):I9 K m:=λ n' h' v=>h n' (by omega) v
theorem ax{v s:Int}{K:Int->Tr}(h:∀w,bW (K w) n c):bW (yv v s K) n c:=cQ λ _=>h _
theorem wE{t:dU}{v s:Int}{K:Int->Tr}(h:I9 K n):bW (uW t v s K) n c:=ax λ _=>C5 λ n' hn _=>h n' hn _
theorem Zn{t:dU}{K:Int->Tr}(h:I9 K n):bW (Ak t K) n c:=pV λ n1 h1 v=>cQ λ nv=>by
 split
 ·exact h n1 h1 v
 ·exact cQ λ _=>pV λ n2 h2 s=>by
   split
   ·exact cQ λ _=>C5 λ n3 h3 _=>cQ λ _=>pV λ n4 h4 _=>wE (h.lt (by omega))
   ·exact wE (h.lt (by omega))
theorem Q5{i m p:Int}{K:Int->Tr}(h:I9 K n):bW (Ih i m p K) n c:=cQ λ _=>cQ λ _=>C5 λ n' hn _=>cQ λ _=>h n' hn _
theorem Bg{i m:Int}{K:Int->Tr}(h:I9 K n):bW (kI i m K) n c:=cQ λ _=>pV λ n1 h1 p=>by
 split
 ·exact h n1 h1 _
 ·exact Q5 (h.lt (by omega))
theorem Jn{i m p:Int}{b:Bool}{K:Int->Tr}(h:I9 K n)(hc:1<=c):bW (kR i m p b K) n c:=by
 unfold kR
 split
 ·exact cQ λ _=>C5 λ n1 h1 _=>Bg (h.lt (by omega))
 ·obtain⟨c,rfl⟩:∃d,c=d+1:=⟨c-1,by omega⟩
  exact cQ λ _=>M6 λ _=>C5 λ n1 h1 _=>Bg (h.lt (by omega))
theorem Db{t:dU}{i m:Int}{K:Int->Tr}(h:I9 K n):bW (mY t i m K) n c:=cQ λ _=>pV λ n1 h1 p=>by
 split
 ·exact h n1 h1 _
 ·refine cQ λ _=>?_
  split
  ·split
   ·exact Jn (h.lt (by omega)) (by decide)
   ·exact Zn λ n2 h2 _=>cQ λ _=>cQ λ _=>Jn (h.lt (by omega)) (by decide)
  ·exact Q5 (h.lt (by omega))
theorem iB{t:dU}{i:Int}{K:Int->Tr}(h:I9 K n):bW (jQ t i K) n c:=cQ λ _=>pV λ n1 h1 _=>Db (h.lt (by omega))
theorem Dr{t:dU}{v:Int}{K:Tr}(h:∀n',n'<n->bW K n' 64):bW (yE t v K) n c:=cQ λ _=>iB λ n1 h1 _=>cQ λ _=>cQ λ _=>C5 λ n2 h2 _=>h n2 (by omega)
theorem pP{t:dU}{K:Int->Tr}(h:I9 K n):bW (uP t K) n c:=pV λ n1 h1 v=>cQ λ nv=>by
 split
 ·exact h n1 h1 v
 ·exact cQ λ _=>pV λ n2 h2 s=>by
   split
   ·exact Dr λ n3 h3=>cQ λ _=>pV λ n4 h4 _=>wE (h.lt (by omega))
   ·exact wE (h.lt (by omega))
theorem kK{t:dU}{i o m:Int}{K:Bool->Tr}(h:I9 K n):bW (jU t i o m K) n c:=cQ λ _=>C5 λ n1 h1 b=>by
 split
 ·exact Db λ n2 h2 _=>h n2 (by omega) _
 ·exact h n1 h1 _
theorem zX{t:dU}{o e m:Int}{K:Bool->Tr}(h:I9 K n)(hc:1<=c):bW (vV t o e m K) n c:=by
 obtain⟨c,rfl⟩:∃d,c=d+1:=⟨c-1,by omega⟩
 exact M6 λ _=>C5 λ n1 h1 b=>by
  split
  ·exact Dr λ n2 h2=>cQ λ _=>pV λ n3 h3 _=>wE λ n4 h4 _=>h n4 (by omega) _
  ·exact h n1 h1 _
end
end
end Go.Proofs.YtbajmaoegmbfgaaGreat
