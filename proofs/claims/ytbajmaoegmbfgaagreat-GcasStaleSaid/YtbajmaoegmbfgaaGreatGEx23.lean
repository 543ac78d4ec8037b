/- Merged. -/
import Derived.Test.YtbajmaoegmbfgaaGreatGEx20
import Derived.Test.YtbajmaoegmbfgaaGreatGRn1
set_option linter.unusedSimpArgs false
set_option linter.unusedVariables false
namespace Go.Proofs.YtbajmaoegmbfgaaGreat
open Go Go.RowKit Go.Ct
section
abbrev Ry(k:Cl):List Value:=[.int .i64 k.kind,.int .i64 k.t.root,.bool k.t.ro,.int .i64 k.a,.int .i64 k.b,.int .i64 k.n,.int .i64 k.index,.int .u64 k.hash,.int .u64 k.mask,.string k.key,.int .u64 k.val,.int .u64 k.exp,.int .i64 k.I5,.bool k.only,.bool false,.slice none 0 0,.slice none 0 0,.int .i64 0,.bool false,.int .u64 0,.string ⟨#[]⟩,.int .i64 0,.int .i64 0,.int .i64 0,.bool false]
def cp(k:Cl):Prop:=(1<=k.kind/\k.kind<=4)∨(7<=k.kind/\k.kind<=12)
theorem bL{k:Cl}(h:k.kind=7∨k.kind=9):refuse k=if k.key.size<=64 then 0 else 1:=if_pos h
theorem bY{k:Cl}(h:k.kind=8):refuse k=if k.key.size<=64/\0<=k.I5/\k.I5<=3 then 0 else 1:=(if_neg (by omega)).trans (if_pos h)
theorem eS{k:Cl}(h:k.kind<7∨9<k.kind):refuse k=0:=(if_neg (by omega)).trans (if_neg (by omega))
theorem Yw{k:Cl}(hk:cp k)(w:World):Calls Tryz.prog 175 #[.agg ⟨Ry k⟩] w λ e w'=>e=.returned (.int .i64 (refuse k))/\St w [] [] w':=by
 have hk2:=hk
 unfold cp at hk2
 refine enter Tryz.func175 Tryz.ntmps175 rfl rfl (SF.s0 w) ?_
 simp only[cC]
 refine J0 ?_;refine bM (λ x1=>?_);refine jF ?_;refine iI ?_;refine aH ?_;refine cS ?_;refine aV ?_;refine lQ ?_
 refine bC (λ c5=>?_) (λ c5=>?_)
 ·refine aZ ?_
  refine bC (λ c5=>?_) (λ c5=>?_)
  ·refine iI ?_;refine aQ (cV (hc:=λ w1 hw=>oB _ w1)) (λ x10=>?_);refine oV ?_
   refine bC (λ c11=>?_) (λ c11=>?_)
   ·refine cX ?_
    refine aR Tryz.results175 (λ w hw=>?_)
    first
    | (rw[bL (by omega),if_neg (by simp_all)];exact⟨rfl,hw.done⟩)
    | (rw[bL (by omega),if_pos (by simp_all)];exact⟨rfl,hw.done⟩)
    | (rw[bY (by omega),if_neg (by rintro ⟨h1,h2,h3⟩;first|omega|simp_all)];exact⟨rfl,hw.done⟩)
    | (rw[bY (by omega),if_pos ⟨by simp_all,by omega,by omega⟩];exact⟨rfl,hw.done⟩)
    | (rw[eS (by omega)];exact⟨rfl,hw.done⟩)
    | (exfalso;omega)
   ·refine Ka7 ?_
    refine aR Tryz.results175 (λ w hw=>?_)
    first
    | (rw[bL (by omega),if_neg (by simp_all)];exact⟨rfl,hw.done⟩)
    | (rw[bL (by omega),if_pos (by simp_all)];exact⟨rfl,hw.done⟩)
    | (rw[bY (by omega),if_neg (by rintro ⟨h1,h2,h3⟩;first|omega|simp_all)];exact⟨rfl,hw.done⟩)
    | (rw[bY (by omega),if_pos ⟨by simp_all,by omega,by omega⟩];exact⟨rfl,hw.done⟩)
    | (rw[eS (by omega)];exact⟨rfl,hw.done⟩)
    | (exfalso;omega)
  ·refine lQ ?_
   refine bC (λ c12=>?_) (λ c12=>?_)
   ·refine iI ?_;refine aQ (cV (hc:=λ w1 hw=>oB _ w1)) (λ x16=>?_);refine Dg ?_
    (refine eJ 18 (λ g18=>?_) (λ g18=>?_)<;>refine Ka1 ?_)
    all_goals (refine J89 ?_;refine aA ?_)
    all_goals (first|refine aI ?_|(refine eJ 23 (λ g23=>?_) (λ g23=>?_)<;>refine Ka1 ?_))
    all_goals (refine Ka2 ?_;refine Ka6 ?_)
    all_goals
    refine bC (λ c27=>?_) (λ c27=>?_)
    ·all_goals refine cX ?_
     all_goals
      refine aR Tryz.results175 (λ w hw=>?_)
      first
      | (rw[bL (by omega),if_neg (by simp_all)];exact⟨rfl,hw.done⟩)
      | (rw[bL (by omega),if_pos (by simp_all)];exact⟨rfl,hw.done⟩)
      | (rw[bY (by omega),if_neg (by rintro ⟨h1,h2,h3⟩;first|omega|simp_all)];exact⟨rfl,hw.done⟩)
      | (rw[bY (by omega),if_pos ⟨by simp_all,by omega,by omega⟩];exact⟨rfl,hw.done⟩)
      | (rw[eS (by omega)];exact⟨rfl,hw.done⟩)
      | (exfalso;omega)
    ·try exact nv c27
     all_goals (refine Ka7 ?_)
     all_goals
      refine aR Tryz.results175 (λ w hw=>?_)
      first
      | (rw[bL (by omega),if_neg (by simp_all)];exact⟨rfl,hw.done⟩)
      | (rw[bL (by omega),if_pos (by simp_all)];exact⟨rfl,hw.done⟩)
      | (rw[bY (by omega),if_neg (by rintro ⟨h1,h2,h3⟩;first|omega|simp_all)];exact⟨rfl,hw.done⟩)
      | (rw[bY (by omega),if_pos ⟨by simp_all,by omega,by omega⟩];exact⟨rfl,hw.done⟩)
      | (rw[eS (by omega)];exact⟨rfl,hw.done⟩)
      | (exfalso;omega)
   ·refine aV ?_;refine lQ ?_
    refine bC (λ c28=>?_) (λ c28=>?_)
    ·refine aZ ?_
     refine bC (λ c28=>?_) (λ c28=>?_)
     ·refine Kc3 ?_;refine J3 ?_;refine oV ?_
      refine bC (λ c34=>?_) (λ c34=>?_)
      ·refine cX ?_
       refine aR Tryz.results175 (λ w hw=>?_)
       first
       | (rw[bL (by omega),if_neg (by simp_all)];exact⟨rfl,hw.done⟩)
       | (rw[bL (by omega),if_pos (by simp_all)];exact⟨rfl,hw.done⟩)
       | (rw[bY (by omega),if_neg (by rintro ⟨h1,h2,h3⟩;omega)];exact⟨rfl,hw.done⟩)
       | (rw[bY (by omega),if_pos ⟨by simp_all,by omega,by omega⟩];exact⟨rfl,hw.done⟩)
       | (rw[eS (by omega)];exact⟨rfl,hw.done⟩)
       | (exfalso;omega)
      ·refine Ka7 ?_
       refine aR Tryz.results175 (λ w hw=>?_)
       first
       | (rw[bL (by omega),if_neg (by simp_all)];exact⟨rfl,hw.done⟩)
       | (rw[bL (by omega),if_pos (by simp_all)];exact⟨rfl,hw.done⟩)
       | (rw[bY (by omega),if_neg (by rintro ⟨h1,h2,h3⟩;first|omega|simp_all)];exact⟨rfl,hw.done⟩)
       | (rw[bY (by omega),if_pos ⟨by simp_all,by omega,by omega⟩];exact⟨rfl,hw.done⟩)
       | (rw[eS (by omega)];exact⟨rfl,hw.done⟩)
       | (exfalso;omega)
     ·refine Ka7 ?_
      refine aR Tryz.results175 (λ w hw=>?_)
      first
      | (rw[bL (by omega),if_neg (by simp_all)];exact⟨rfl,hw.done⟩)
      | (rw[bL (by omega),if_pos (by simp_all)];exact⟨rfl,hw.done⟩)
      | (rw[bY (by omega),if_neg (by rintro ⟨h1,h2,h3⟩;first|omega|simp_all)];exact⟨rfl,hw.done⟩)
      | (rw[bY (by omega),if_pos ⟨by simp_all,by omega,by omega⟩];exact⟨rfl,hw.done⟩)
      | (rw[eS (by omega)];exact⟨rfl,hw.done⟩)
      | (exfalso;omega)
    ·refine dM ?_;refine Ro ?_
     refine bC (λ c28=>?_) (λ c28=>?_)
     ·refine Kc3 ?_;refine J3 ?_;refine oV ?_
      refine bC (λ c34=>?_) (λ c34=>?_)
      ·refine cX ?_
       refine aR Tryz.results175 (λ w hw=>?_)
       first
       | (rw[bL (by omega),if_neg (by simp_all)];exact⟨rfl,hw.done⟩)
       | (rw[bL (by omega),if_pos (by simp_all)];exact⟨rfl,hw.done⟩)
       | (rw[bY (by omega),if_neg (by rintro ⟨h1,h2,h3⟩;omega)];exact⟨rfl,hw.done⟩)
       | (rw[bY (by omega),if_pos ⟨by simp_all,by omega,by omega⟩];exact⟨rfl,hw.done⟩)
       | (rw[eS (by omega)];exact⟨rfl,hw.done⟩)
       | (exfalso;omega)
      ·refine Ka7 ?_
       refine aR Tryz.results175 (λ w hw=>?_)
       first
       | (rw[bL (by omega),if_neg (by simp_all)];exact⟨rfl,hw.done⟩)
       | (rw[bL (by omega),if_pos (by simp_all)];exact⟨rfl,hw.done⟩)
       | (rw[bY (by omega),if_neg (by rintro ⟨h1,h2,h3⟩;first|omega|simp_all)];exact⟨rfl,hw.done⟩)
       | (rw[bY (by omega),if_pos ⟨by simp_all,by omega,by omega⟩];exact⟨rfl,hw.done⟩)
       | (rw[eS (by omega)];exact⟨rfl,hw.done⟩)
       | (exfalso;omega)
     ·refine Ka7 ?_
      refine aR Tryz.results175 (λ w hw=>?_)
      first
      | (rw[bL (by omega),if_neg (by simp_all)];exact⟨rfl,hw.done⟩)
      | (rw[bL (by omega),if_pos (by simp_all)];exact⟨rfl,hw.done⟩)
      | (rw[bY (by omega),if_neg (by rintro ⟨h1,h2,h3⟩;first|omega|simp_all)];exact⟨rfl,hw.done⟩)
      | (rw[bY (by omega),if_pos ⟨by simp_all,by omega,by omega⟩];exact⟨rfl,hw.done⟩)
      | (rw[eS (by omega)];exact⟨rfl,hw.done⟩)
      | (exfalso;omega)
 ·refine dM ?_;refine Ro ?_
  refine bC (λ c5=>?_) (λ c5=>?_)
  ·refine iI ?_;refine aQ (cV (hc:=λ w1 hw=>oB _ w1)) (λ x10=>?_);refine oV ?_
   refine bC (λ c11=>?_) (λ c11=>?_)
   ·refine cX ?_
    refine aR Tryz.results175 (λ w hw=>?_)
    first
    | (rw[bL (by omega),if_neg (by simp_all)];exact⟨rfl,hw.done⟩)
    | (rw[bL (by omega),if_pos (by simp_all)];exact⟨rfl,hw.done⟩)
    | (rw[bY (by omega),if_neg (by rintro ⟨h1,h2,h3⟩;first|omega|simp_all)];exact⟨rfl,hw.done⟩)
    | (rw[bY (by omega),if_pos ⟨by simp_all,by omega,by omega⟩];exact⟨rfl,hw.done⟩)
    | (rw[eS (by omega)];exact⟨rfl,hw.done⟩)
    | (exfalso;omega)
   ·refine Ka7 ?_
    refine aR Tryz.results175 (λ w hw=>?_)
    first
    | (rw[bL (by omega),if_neg (by simp_all)];exact⟨rfl,hw.done⟩)
    | (rw[bL (by omega),if_pos (by simp_all)];exact⟨rfl,hw.done⟩)
    | (rw[bY (by omega),if_neg (by rintro ⟨h1,h2,h3⟩;first|omega|simp_all)];exact⟨rfl,hw.done⟩)
    | (rw[bY (by omega),if_pos ⟨by simp_all,by omega,by omega⟩];exact⟨rfl,hw.done⟩)
    | (rw[eS (by omega)];exact⟨rfl,hw.done⟩)
    | (exfalso;omega)
  ·refine lQ ?_
   refine bC (λ c12=>?_) (λ c12=>?_)
   ·refine iI ?_;refine aQ (cV (hc:=λ w1 hw=>oB _ w1)) (λ x16=>?_);refine Dg ?_
    (refine eJ 18 (λ g18=>?_) (λ g18=>?_)<;>refine Ka1 ?_)
    all_goals (refine J89 ?_;refine aA ?_)
    all_goals (first|refine aI ?_|(refine eJ 23 (λ g23=>?_) (λ g23=>?_)<;>refine Ka1 ?_))
    all_goals (refine Ka2 ?_;refine Ka6 ?_)
    all_goals
    refine bC (λ c27=>?_) (λ c27=>?_)
    ·all_goals refine cX ?_
     all_goals
      refine aR Tryz.results175 (λ w hw=>?_)
      first
      | (rw[bL (by omega),if_neg (by simp_all)];exact⟨rfl,hw.done⟩)
      | (rw[bL (by omega),if_pos (by simp_all)];exact⟨rfl,hw.done⟩)
      | (rw[bY (by omega),if_neg (by rintro ⟨h1,h2,h3⟩;omega)];exact⟨rfl,hw.done⟩)
      | (rw[bY (by omega),if_pos ⟨by simp_all,by omega,by omega⟩];exact⟨rfl,hw.done⟩)
      | (rw[eS (by omega)];exact⟨rfl,hw.done⟩)
      | (exfalso;omega)
    ·try exact nv c27
     all_goals (refine Ka7 ?_)
     all_goals
      refine aR Tryz.results175 (λ w hw=>?_)
      first
      | (rw[bL (by omega),if_neg (by simp_all)];exact⟨rfl,hw.done⟩)
      | (rw[bL (by omega),if_pos (by simp_all)];exact⟨rfl,hw.done⟩)
      | (rw[bY (by omega),if_neg (by rintro ⟨h1,h2,h3⟩;simp_all)];exact⟨rfl,hw.done⟩)
      | (rw[bY (by omega),if_pos ⟨by simp_all,by omega,by omega⟩];exact⟨rfl,hw.done⟩)
      | (rw[eS (by omega)];exact⟨rfl,hw.done⟩)
      | (exfalso;omega)
   ·refine aV ?_;refine lQ ?_
    refine bC (λ c28=>?_) (λ c28=>?_)
    ·refine aZ ?_
     refine bC (λ c28=>?_) (λ c28=>?_)
     ·refine Kc3 ?_;refine J3 ?_;refine oV ?_
      refine bC (λ c34=>?_) (λ c34=>?_)
      ·refine cX ?_
       refine aR Tryz.results175 (λ w hw=>?_)
       first
       | (rw[bL (by omega),if_neg (by simp_all)];exact⟨rfl,hw.done⟩)
       | (rw[bL (by omega),if_pos (by simp_all)];exact⟨rfl,hw.done⟩)
       | (rw[bY (by omega),if_neg (by rintro ⟨h1,h2,h3⟩;omega)];exact⟨rfl,hw.done⟩)
       | (rw[bY (by omega),if_pos ⟨by simp_all,by omega,by omega⟩];exact⟨rfl,hw.done⟩)
       | (rw[eS (by omega)];exact⟨rfl,hw.done⟩)
       | (exfalso;omega)
      ·refine Ka7 ?_
       refine aR Tryz.results175 (λ w hw=>?_)
       first
       | (rw[bL (by omega),if_neg (by simp_all)];exact⟨rfl,hw.done⟩)
       | (rw[bL (by omega),if_pos (by simp_all)];exact⟨rfl,hw.done⟩)
       | (rw[bY (by omega),if_neg (by rintro ⟨h1,h2,h3⟩;first|omega|simp_all)];exact⟨rfl,hw.done⟩)
       | (rw[bY (by omega),if_pos ⟨by simp_all,by omega,by omega⟩];exact⟨rfl,hw.done⟩)
       | (rw[eS (by omega)];exact⟨rfl,hw.done⟩)
       | (exfalso;omega)
     ·refine Ka7 ?_
      refine aR Tryz.results175 (λ w hw=>?_)
      first
      | (rw[bL (by omega),if_neg (by simp_all)];exact⟨rfl,hw.done⟩)
      | (rw[bL (by omega),if_pos (by simp_all)];exact⟨rfl,hw.done⟩)
      | (rw[bY (by omega),if_neg (by rintro ⟨h1,h2,h3⟩;first|omega|simp_all)];exact⟨rfl,hw.done⟩)
      | (rw[bY (by omega),if_pos ⟨by simp_all,by omega,by omega⟩];exact⟨rfl,hw.done⟩)
      | (rw[eS (by omega)];exact⟨rfl,hw.done⟩)
      | (exfalso;omega)
    ·refine dM ?_;refine Ro ?_
     refine bC (λ c28=>?_) (λ c28=>?_)
     ·refine Kc3 ?_;refine J3 ?_;refine oV ?_
      refine bC (λ c34=>?_) (λ c34=>?_)
      ·refine cX ?_
       refine aR Tryz.results175 (λ w hw=>?_)
       first
       | (rw[bL (by omega),if_neg (by simp_all)];exact⟨rfl,hw.done⟩)
       | (rw[bL (by omega),if_pos (by simp_all)];exact⟨rfl,hw.done⟩)
       | (rw[bY (by omega),if_neg (by rintro ⟨h1,h2,h3⟩;omega)];exact⟨rfl,hw.done⟩)
       | (rw[bY (by omega),if_pos ⟨by simp_all,by omega,by omega⟩];exact⟨rfl,hw.done⟩)
       | (rw[eS (by omega)];exact⟨rfl,hw.done⟩)
       | (exfalso;omega)
      ·refine Ka7 ?_
       refine aR Tryz.results175 (λ w hw=>?_)
       first
       | (rw[bL (by omega),if_neg (by simp_all)];exact⟨rfl,hw.done⟩)
       | (rw[bL (by omega),if_pos (by simp_all)];exact⟨rfl,hw.done⟩)
       | (rw[bY (by omega),if_neg (by rintro ⟨h1,h2,h3⟩;first|omega|simp_all)];exact⟨rfl,hw.done⟩)
       | (rw[bY (by omega),if_pos ⟨by simp_all,by omega,by omega⟩];exact⟨rfl,hw.done⟩)
       | (rw[eS (by omega)];exact⟨rfl,hw.done⟩)
       | (exfalso;omega)
     ·refine Ka7 ?_
      refine aR Tryz.results175 (λ w hw=>?_)
      first
      | (rw[bL (by omega),if_neg (by simp_all)];exact⟨rfl,hw.done⟩)
      | (rw[bL (by omega),if_pos (by simp_all)];exact⟨rfl,hw.done⟩)
      | (rw[bY (by omega),if_neg (by rintro ⟨h1,h2,h3⟩;first|omega|simp_all)];exact⟨rfl,hw.done⟩)
      | (rw[bY (by omega),if_pos ⟨by simp_all,by omega,by omega⟩];exact⟨rfl,hw.done⟩)
      | (rw[eS (by omega)];exact⟨rfl,hw.done⟩)
      | (exfalso;omega)
theorem M0(r:Int)(f:Bool)(w:World):Calls Tryz.prog 176 #[.int .i64 r,.bool f] w λ e w'=>e=.returned (.agg ⟨(kF r f).cells⟩)/\St w [] [] w':=by
 refine enter Tryz.func176 Tryz.ntmps176 rfl rfl (SF.s0 w) ?_
 simp only[cC]
 refine J0 ?_;refine aK (λ x4=>?_);refine aH ?_;refine jG ?_;refine wT ?_
 refine bE Tryz.results176 (λ w hw=>?_)
 exact⟨rfl,hw.done⟩
theorem U8{k:Cl}{B:Bool->Tr}{C:Tr}(h:k.kind=10∨k.kind=11):(if k.kind=10 then B false else if k.kind=11 then B true else C)=B (k.kind==11):=by
 rcases h with h|h<;>rw[h]<;>rfl
section
variable{k:Cl}{bx bm:Nat}{x:XS}{dn:Bool}{rs:Rs}{D:List Nat}{A:Fr}{w:World}{g:Gx}
set_option maxRecDepth 100000 in
set_option maxHeartbeats 2000000 in
theorem aBG(hg:g.Ok){m:Nat}(n:Nat)(hk:cp k)(hn:n<=1073741824)(hm:m<18446744073709551616)(em:k.mask=(m:Int))(ht:k.t.root<=9223372036854775807)(ha:k.a<=x.L.length)(hb:k.b<=x.L.length)(hnn:k.n<=x.L.length)(hA:∀f∈aM x.L,f∈A)(go:gF g x (kZ k (mJ k.key m) n))(ok:x.Ok)(hs:SF w D (xH k bx bm x dn rs) A [] (xW x) w):Calls Tryz.prog 143 #[.pointer (some ⟨bx,0,none⟩)] w λ e w'=>∃q:Rs×XS×List aP,e=.returned (.agg ⟨q.1.cells⟩)/\Nx g x q.2.1 q.2.2 (.done q.1) 0/\SF w D (xH k bx bm q.2.1 dn rs) [] (aM q.2.2) (xW q.2.1) w':=by
 have hk2:=hk
 unfold cp at hk2
 refine enter Tryz.func143 Tryz.ntmps143 rfl rfl (cB hs) ?_
 simp only[cC]
 refine J0 ?_;refine aK (λ x2=>?_);refine aH ?_;refine I1 ?_;refine aC (aT (k:=25) (vs:=Ry k) rf dC eT rfl rfl) rfl ?_;refine aK (λ x3=>?_);refine J5 ?_;refine aV ?_;refine nI ?_;refine aQ (cV (hc:=λ w1 hw=>Yw hk w1)) (λ x14=>?_);refine Ka5 ?_;refine Kc8 ?_
 refine bC (λ c16=>?_) (λ c16=>?_)
 ·refine J2 ?_;refine wT ?_
  refine bE Tryz.results143 (λ w hw=>?_)
  first
  | exact⟨({Rs.zero with err:=refuse k},x,[]),rfl,⟨go.to (λ _=>if_pos c16),ok,by simp,Nat.le_refl _,(bK _)⟩,hw.aX (hF:=by exact aY.nil)⟩
 ·have g0:=go.to (λ _=>if_neg (λ h:refuse k≠0=>absurd (show refuse k=0 from by assumption) h))
  have e0:refuse k=0:=by assumption
  refine kW ?_;refine iI ?_;refine aH ?_;refine cS ?_;refine lQ ?_
  refine bC (λ c21=>?_) (λ c21=>?_)
  ·have q:=g0.to (λ _=>if_pos c21)
   refine J2 ?_;refine aF ?_;refine aC (aT (k:=2) (vs:=[.int .i64 k.t.root,.bool k.t.ro]) rf dC eT rfl rfl) rfl ?_;refine J3 ?_;refine aD (cM (hs:=xH k bx bm x dn rs) (os:=xW x) (hc:=λ w hs=>oY hg k.t k.a _ ht ha q ok hs)) (λ x28 h28=>?_);refine aQ (cV (hc:=λ w1 hw=>M0 _ _ w1)) (λ x29=>?_);refine J5 ?_
   refine bE Tryz.results143 (λ w hw=>?_)
   first
   | exact⟨({Rs.zero with err:=refuse k},x,[]),rfl,⟨go.to (λ _=>if_pos c16),ok,by simp,Nat.le_refl _,(bK _)⟩,hw.aX (hF:=by exact aY.nil)⟩
   | exact⟨(kF x28.1 false,x28.2.1,x28.2.2),rfl,h28.cH h28.go (bK _),by rw[List.append_nil] at hw;exact hw.v4⟩
  ·have g1:=g0.to (λ _=>if_neg c21)
   refine lQ ?_
   refine bC (λ c30=>?_) (λ c30=>?_)
   ·have q:=g1.to (λ _=>if_pos c30)
    refine J2 ?_;refine aF ?_;refine aC (aT (k:=2) (vs:=[.int .i64 k.t.root,.bool k.t.ro]) rf dC eT rfl rfl) rfl ?_;refine J3 ?_;refine J3 ?_;refine J3 ?_;refine aD (cM (hs:=xH k bx bm x dn rs) (os:=xW x) (hc:=λ w hs=>tB hg k.t k.a k.b k.n _ ht ha hnn q ok hs)) (λ x41 h41=>?_);refine aQ (cV (hc:=λ w1 hw=>M0 _ _ w1)) (λ x42=>?_);refine J5 ?_
    refine bE Tryz.results143 (λ w hw=>?_)
    first
    | exact⟨({Rs.zero with err:=refuse k},x,[]),rfl,⟨go.to (λ _=>if_pos c16),ok,by simp,Nat.le_refl _,(bK _)⟩,hw.aX (hF:=by exact aY.nil)⟩
    | exact⟨(kF 0 x41.1,x41.2.1,x41.2.2),rfl,h41,by rw[List.append_nil] at hw;exact hw.v4⟩
   ·have g2:=g1.to (λ _=>if_neg c30)
    refine lQ ?_
    refine bC (λ c43=>?_) (λ c43=>?_)
    ·have q:=g2.to (λ _=>if_pos c43)
     refine J2 ?_;refine aF ?_;refine aC (aT (k:=2) (vs:=[.int .i64 k.t.root,.bool k.t.ro]) rf dC eT rfl rfl) rfl ?_;refine aD (cM (hs:=xH k bx bm x dn rs) (os:=xW x) (hc:=λ w hs=>Bf hg k.t _ ht q ok hs)) (λ x48 h48=>?_);refine aQ (cV (hc:=λ w1 hw=>M0 _ _ w1)) (λ x49=>?_);refine J5 ?_
     refine bE Tryz.results143 (λ w hw=>?_)
     first
     | exact⟨({Rs.zero with err:=refuse k},x,[]),rfl,⟨go.to (λ _=>if_pos c16),ok,by simp,Nat.le_refl _,(bK _)⟩,hw.aX (hF:=by exact aY.nil)⟩
     | exact⟨(kF x48.1 false,x48.2.1,x48.2.2),rfl,h48.cH h48.go (bK _),by rw[List.append_nil] at hw;exact hw.v4⟩
    ·have g3:=g2.to (λ _=>if_neg c43)
     refine lQ ?_
     refine bC (λ c50=>?_) (λ c50=>?_)
     ·have q:=g3.to (λ _=>if_pos c50)
      refine J2 ?_;refine aF ?_;refine aC (aT (k:=2) (vs:=[.int .i64 k.t.root,.bool k.t.ro]) rf dC eT rfl rfl) rfl ?_;refine J3 ?_;refine J3 ?_;refine J3 ?_;refine aD (cM (hs:=xH k bx bm x dn rs) (os:=xW x) (hc:=λ w hs=>Mj hg k.t k.a k.b k.n _ ht ha hb hnn q ok hs)) (λ x61 h61=>?_);refine aQ (cV (hc:=λ w1 hw=>M0 _ _ w1)) (λ x62=>?_);refine J5 ?_
      refine bE Tryz.results143 (λ w hw=>?_)
      first
      | exact⟨({Rs.zero with err:=refuse k},x,[]),rfl,⟨go.to (λ _=>if_pos c16),ok,by simp,Nat.le_refl _,(bK _)⟩,hw.aX (hF:=by exact aY.nil)⟩
      | exact⟨(kF 0 x61.1,x61.2.1,x61.2.2),rfl,h61,by rw[List.append_nil] at hw;exact hw.v4⟩
     ·have g4:=g3.to (λ _=>if_neg c50)
      refine lQ ?_
      refine bC (λ c63=>?_) (λ c63=>?_)
      ·exfalso;omega
      ·refine lQ ?_
       refine bC (λ c79=>?_) (λ c79=>?_)
       ·exfalso;omega
       ·refine lQ ?_
        refine bC (λ c94=>?_) (λ c94=>?_)
        ·have q:=g4.to (λ _=>if_pos c94)
         have ek:k.key.size<=64:=by rw[bL (by omega)] at e0;split at e0;assumption;cases e0
         refine J2 ?_;refine aD (cM (hs:=xH k bx bm x dn rs) (os:=xW x) (A0:=aM x.L) (hA:=bG.of λ f hf=>.inr (.inl (hA f hf))) (hc:=λ w hs=>aAk hg _ n hn hm em ek ht (λ f hf=>hf) q ok hs)) (λ x97 h97=>?_);refine J5 ?_
         refine bE Tryz.results143 (λ w hw=>?_)
         first
         | exact⟨({Rs.zero with err:=refuse k},x,[]),rfl,⟨go.to (λ _=>if_pos c16),ok,by simp,Nat.le_refl _,(bK _)⟩,hw.aX (hF:=by exact aY.nil)⟩
         | exact⟨(x97.1,x97.2.1,x97.2.2),rfl,h97,by rw[List.append_nil] at hw;exact hw.v4⟩
        ·have g7:=g4.to (λ _=>if_neg c94)
         refine lQ ?_
         refine bC (λ c98=>?_) (λ c98=>?_)
         ·have q:=g7.to (λ _=>if_pos c98)
          have ek:k.key.size<=64:=by rw[bY (by omega)] at e0;split at e0;(rename_i h;exact h.1);cases e0
          refine J2 ?_;refine aD (cM (hs:=xH k bx bm x dn rs) (os:=xW x) (A0:=aM x.L) (hA:=bG.of λ f hf=>.inr (.inl (hA f hf))) (hc:=λ w hs=>aAK hg _ n hn hm em ek ht (λ f hf=>hf) q ok hs)) (λ x101 h101=>?_);refine J5 ?_
          refine bE Tryz.results143 (λ w hw=>?_)
          first
          | exact⟨({Rs.zero with err:=refuse k},x,[]),rfl,⟨go.to (λ _=>if_pos c16),ok,by simp,Nat.le_refl _,(bK _)⟩,hw.aX (hF:=by exact aY.nil)⟩
          | exact⟨(x101.1,x101.2.1,x101.2.2),rfl,h101,by rw[List.append_nil] at hw;exact hw.v4⟩
         ·have g8:=g7.to (λ _=>if_neg c98)
          refine lQ ?_
          refine bC (λ c102=>?_) (λ c102=>?_)
          ·have q:=g8.to (λ _=>if_pos c102)
           have ek:k.key.size<=64:=by rw[bL (by omega)] at e0;split at e0;assumption;cases e0
           refine J2 ?_;refine aD (cM (hs:=xH k bx bm x dn rs) (os:=xW x) (A0:=aM x.L) (hA:=bG.of λ f hf=>.inr (.inl (hA f hf))) (hc:=λ w hs=>xw hg _ n hn hm em ek ht (λ f hf=>hf) q ok hs)) (λ x105 h105=>?_);refine J5 ?_
           refine bE Tryz.results143 (λ w hw=>?_)
           first
           | exact⟨({Rs.zero with err:=refuse k},x,[]),rfl,⟨go.to (λ _=>if_pos c16),ok,by simp,Nat.le_refl _,(bK _)⟩,hw.aX (hF:=by exact aY.nil)⟩
           | exact⟨(x105.1,x105.2.1,x105.2.2),rfl,h105,by rw[List.append_nil] at hw;exact hw.v4⟩
          ·have g9:=g8.to (λ _=>if_neg c102)
           refine aV ?_;refine lQ ?_
           refine bC (λ c106=>?_) (λ c106=>?_)
           ·refine aZ ?_
            refine bC (λ c106=>?_) (λ c106=>?_)
            ·refine J2 ?_;refine J3 ?_;refine mF ?_;refine aD (cM (hs:=xH k bx bm x dn rs) (os:=xW x) (hc:=λ w hs=>Fh hg (k.kind==11) _ n ht (g9.to (λ _=>U8 (B:=λ b=>tE k.t b .done n) (by omega))) ok hs)) (λ x113 h113=>?_);refine J5 ?_
             refine bE Tryz.results143 (λ w hw=>?_)
             first
             | exact⟨({Rs.zero with err:=refuse k},x,[]),rfl,⟨go.to (λ _=>if_pos c16),ok,by simp,Nat.le_refl _,(bK _)⟩,hw.aX (hF:=by exact aY.nil)⟩
             | exact⟨(x113.1,x113.2.1,x113.2.2),rfl,h113,by rw[List.append_nil] at hw;exact hw.v4⟩
            ·refine lQ ?_
             refine bC (λ c114=>?_) (λ c114=>?_)
             ·have q:=(g9.to (λ _=>if_neg (by omega))).to (λ _=>if_neg (by omega))
              refine J2 ?_;refine aD (cM (hs:=xH k bx bm x dn rs) (os:=xW x) (hc:=λ w hs=>V8 hg _ n ht q ok hs)) (λ x117 h117=>?_);refine J5 ?_
              refine bE Tryz.results143 (λ w hw=>?_)
              first
              | exact⟨({Rs.zero with err:=refuse k},x,[]),rfl,⟨go.to (λ _=>if_pos c16),ok,by simp,Nat.le_refl _,(bK _)⟩,hw.aX (hF:=by exact aY.nil)⟩
              | exact⟨(x117.1,x117.2.1,x117.2.2),rfl,h117,by rw[List.append_nil] at hw;exact hw.v4⟩
             ·exfalso;omega
           ·refine dM ?_;refine Ro ?_
            refine bC (λ c106=>?_) (λ c106=>?_)
            ·refine J2 ?_;refine J3 ?_;refine mF ?_;refine aD (cM (hs:=xH k bx bm x dn rs) (os:=xW x) (hc:=λ w hs=>Fh hg (k.kind==11) _ n ht (g9.to (λ _=>U8 (B:=λ b=>tE k.t b .done n) (by omega))) ok hs)) (λ x113 h113=>?_);refine J5 ?_
             refine bE Tryz.results143 (λ w hw=>?_)
             first
             | exact⟨({Rs.zero with err:=refuse k},x,[]),rfl,⟨go.to (λ _=>if_pos c16),ok,by simp,Nat.le_refl _,(bK _)⟩,hw.aX (hF:=by exact aY.nil)⟩
             | exact⟨(x113.1,x113.2.1,x113.2.2),rfl,h113,by rw[List.append_nil] at hw;exact hw.v4⟩
            ·refine lQ ?_
             refine bC (λ c114=>?_) (λ c114=>?_)
             ·have q:=(g9.to (λ _=>if_neg (by omega))).to (λ _=>if_neg (by omega))
              refine J2 ?_;refine aD (cM (hs:=xH k bx bm x dn rs) (os:=xW x) (hc:=λ w hs=>V8 hg _ n ht q ok hs)) (λ x117 h117=>?_);refine J5 ?_
              refine bE Tryz.results143 (λ w hw=>?_)
              first
              | exact⟨({Rs.zero with err:=refuse k},x,[]),rfl,⟨go.to (λ _=>if_pos c16),ok,by simp,Nat.le_refl _,(bK _)⟩,hw.aX (hF:=by exact aY.nil)⟩
              | exact⟨(x117.1,x117.2.1,x117.2.2),rfl,h117,by rw[List.append_nil] at hw;exact hw.v4⟩
             ·exfalso;omega
end
end
end Go.Proofs.YtbajmaoegmbfgaaGreat
namespace Go.Ct
open Go Go.RowKit
section
theorem o8{L:List Nv}{r:Rs}{gs ms cl gn:List Int}{R:Tr}(h:Wk L (.done r) gs ms cl gn R):gs=[]/\ms=[]/\cl=[]/\gn=[]/\R=.done r:=by
 cases h
 exact⟨rfl,rfl,rfl,rfl,rfl⟩
def XS.re(x:XS)(free:Nat):XS:={x with a:=0,m:=0,c:=0,g:=0,fr:=free,st:=false}
theorem aBS{T R:Tr}{x:XS}{free N:Nat}(hw:Wk x.nodes T x.got x.made x.cel x.gns R)(hN:x.got.length+free=N):gF ⟨T,R,x.mm,free,N⟩ (x.re free) T:=.inl ⟨rfl,R,⟨Wk.nil _,hw,by show Rc (free-free) R x.mm R x.mm;rw[Nat.sub_self];exact Rc.refl _ _,Nat.le_refl _,Nat.zero_le _,Nat.zero_le _,Nat.zero_le _,Nat.zero_le _,hN⟩⟩
structure Ak(T R:Tr)(free N:Nat)(rs:Rs)(x x':XS)(N':List aP)(dn':Bool)(rs':Rs):Prop where
 ok:x'.Ok
 ext:x'.L=x.L++N'
 lc:x.cs.length<=x'.cs.length
 gl:x'.got.length<=N
 Zp:(dn'=true/\∃j,j<=free/\x'.got.length+free=N+j/\Wk x'.nodes T x'.got x'.made x'.cel x'.gns (.done rs')/\Rc j R x.mm (.done rs') x'.mm)∨(dn'=false/\rs'=rs/\x'.got.length=N/\∃R',R'.acc=some x'.nx/\Wk x'.nodes T x'.got x'.made x'.cel x'.gns R'/\Rc free R x.mm R' x'.mm)
theorem Nx.w3{T R:Tr}{free N:Nat}{rs r:Rs}{x x':XS}{N':List aP}(h:Nx ⟨T,R,x.mm,free,N⟩ (x.re free) x' N' (.done r) 0)(hs:x'.st=false):Ak T R free N rs x x' N' true r:=by
 obtain⟨R',hR⟩:=h.go.run hs
 obtain⟨e1,e2,e3,e4,e5⟩:=o8 hR.suf
 refine⟨h.ok,h.ext,h.lc,(by have:=hR.hN;show x'.got.length<=N;simp only at this;omega),.inl ⟨rfl,free-x'.fr,Nat.sub_le _ _,(by have:=hR.hN;have:=hR.hf;simp only at *;omega),?_,e5▸hR.rc⟩⟩
 have hp:=hR.pre
 rwa [List.take_of_length_le (List.drop_eq_nil_iff.1 e1),List.take_of_length_le (List.drop_eq_nil_iff.1 e2),List.take_of_length_le (List.drop_eq_nil_iff.1 e3),List.take_of_length_le (List.drop_eq_nil_iff.1 e4)] at hp
theorem Nx.u6{T R:Tr}{free N:Nat}{rs r:Rs}{x x':XS}{N':List aP}(h:Nx ⟨T,R,x.mm,free,N⟩ (x.re free) x' N' (.done r) 0)(hs:x'.st=true):Ak T R free N rs x x' N' false rs:=by
 rcases h.go with h1|h1
 ·rw[hs] at h1;exact nomatch h1.1
 ·obtain⟨R',hR⟩:=h1.2
  exact⟨h.ok,h.ext,h.lc,Nat.le_of_eq hR.hN,.inr ⟨rfl,rfl,hR.hN,R',hR.ac,hR.wk,hR.rc⟩⟩
end
end Go.Ct
namespace Go.Proofs.YtbajmaoegmbfgaaGreat
open Go Go.RowKit Go.Ct
section
section
variable{k:Cl}{bx bm:Nat}{x:XS}{rs:Rs}{D:List Nat}{A:Fr}{w:World}
theorem Qg{m n N:Nat}{R:Tr}(free:Nat)(hg:Gx.Ok ⟨kZ k (mJ k.key m) n,R,x.mm,free,N⟩)(hwk:Wk x.nodes (kZ k (mJ k.key m) n) x.got x.made x.cel x.gns R)(hN:x.got.length+free=N)(hk:cp k)(hn:n<=1073741824)(hm:m<18446744073709551616)(em:k.mask=(m:Int))(ht:k.t.root<=9223372036854775807)(ha:k.a<=x.L.length)(hb:k.b<=x.L.length)(hnn:k.n<=x.L.length)(hA:∀f∈aM x.L,f∈A)(ok:x.Ok)(hs:SF w D (xH k bx bm x false rs) A [] (xW x) w):Calls Tryz.prog 99 #[.pointer (some ⟨bx,0,none⟩),.int .i64 (free:Int)] w λ e w'=>∃q:XS×List aP×Bool×Rs,e=.returned (.tuple #[])/\Ak (kZ k (mJ k.key m) n) R free N rs x q.1 q.2.1 q.2.2.1 q.2.2.2/\SF w D (xH k bx bm q.1 q.2.2.1 q.2.2.2) [] (aM q.2.1) (xW q.1) w':=by
 have hfr:=hg.hf
 have ok0:(x.re free).Ok:=ok.vf rfl rfl rfl rfl rfl rfl (Nat.zero_le _) (Nat.zero_le _) (Nat.zero_le _) (Nat.zero_le _) hfr
 refine enter Tryz.func99 Tryz.ntmps99 rfl rfl (cB hs) ?_
 simp only[cC]
 refine jG ?_;refine pK ?_;refine pK ?_;refine aA ?_;refine Nu ?_;refine dA (by exact jR λ _=>fE rf dC wn rf fW rf rf lS) (λ _=>?_);refine Nu ?_;refine dA (by exact jR λ _=>fE rf dC wn rf fW rf rf lS) (λ _=>?_);refine Nu ?_;refine dA (by exact jR λ _=>fE rf dC wn rf fW rf rf lS) (λ _=>?_);refine Nu ?_;refine dA (by exact jR λ _=>fE rf dC wn rf fW rf rf lS) (λ _=>?_);refine Nu ?_;refine dA (by exact jR λ _=>fE rf dC wn rf fW rf rf lS) (λ _=>?_);refine Nu ?_;refine dA (by exact jR λ _=>fE rf dC wn rf fW rf rf lS) (λ _=>?_);refine aH ?_;refine J2 ?_;refine aD (cM (hs:=xH k bx bm (x.re free) false rs) (os:=xW (x.re free)) (A0:=aM x.L) (hA:=bG.of λ f hf=>.inr (.inl (hA f hf))) (hc:=λ w hs=>aBG hg (x:=x.re free) n hk hn hm em ht ha hb hnn (λ f hf=>hf) (aBS hwk hN) ok0 hs)) (λ x25 h25=>?_);refine aK (λ x4=>?_);refine dA (by exact(jR λ _=>bS rf dC rf rf eT rf lS)) (λ _=>?_);refine aH ?_;refine mD ?_;refine oV ?_
 refine bC (λ c30=>?_) (λ c30=>?_)
 ·refine eC [(0,[]),(1,[]),(2,[]),(3,[]),(4,[]),(5,[2]),(6,[]),(7,[]),(8,[])] ?_;refine iL ?_;refine bT ?_;refine J4 ?_;refine kU (i:=5) (hq:=(by exact jR λ _=>fE rf dC wn rf fW rf rf lS)) (h:=λ _=>?_);refine J4 ?_;refine kU (i:=8) (hq:=(jR λ _=>lU (off:=41) (vs:=x25.1.cells) rf dC rf rfl eT (Nat.le_of_ble_eq_true rfl) rf lS)) (h:=λ _=>?_);refine eL ?_
  refine Cq Tryz.results99 (λ w hw=>?_)
  first
  | exact⟨(x25.2.1,x25.2.2,true,x25.1),rfl,h25.w3 (by simpa using c30),by rw[List.append_nil] at hw;exact hw.v4⟩
  | exact⟨(x25.2.1,x25.2.2,false,rs),rfl,h25.u6 (by simpa using c30),by rw[List.append_nil] at hw;exact hw.v4⟩
 ·refine aZ ?_
  refine Cq Tryz.results99 (λ w hw=>?_)
  first
  | exact⟨(x25.2.1,x25.2.2,true,x25.1),rfl,h25.w3 (by simpa using c30),by rw[List.append_nil] at hw;exact hw.v4⟩
  | exact⟨(x25.2.1,x25.2.2,false,rs),rfl,h25.u6 (by simpa using c30),by rw[List.append_nil] at hw;exact hw.v4⟩
end
end
end Go.Proofs.YtbajmaoegmbfgaaGreat
namespace Go.Ct
open Go Go.RowKit
section
theorem Oa{R:Tr}{a:Ac}(h:R.acc=some a){n c:Nat}(ht:bU R n c)(hn:1<=n):bU R n 64:=by
 cases R<;>simp only[Tr.acc,reduceCtorEq] at h
 ·cases n with
  | zero=>omega
  | succ n=>simpa only[bU] using ht
 ·cases n with
  | zero=>omega
  | succ n=>simpa only[bU] using ht
structure s5(T:Tr)(x:XS)(dn:Bool)(rs:Rs)(R:Tr):Prop where
 ok:x.Ok
 wk:Wk x.nodes T x.got x.made x.cel x.gns R
 Zp:(dn=true/\R=.done rs)∨(dn=false/\R.acc=some x.nx)
theorem Ak.exI{T R:Tr}{free N:Nat}{rs rs':Rs}{x x':XS}{N':List aP}{dn':Bool}(h:Ak T R free N rs x x' N' dn' rs'):∃R' j,j<=free/\(dn'=false->j=free)/\s5 T x' dn' rs' R'/\Rc j R x.mm R' x'.mm/\x'.L=x.L++N'/\x.cs.length<=x'.cs.length:=by
 rcases h.Zp with⟨e,j,h1,_,h2,h3⟩|⟨e,_,_,R',h1,h2,h3⟩
 ·exact⟨_,j,h1,(λ h=>by rw[e] at h;cases h),⟨h.ok,h2,.inl ⟨e,rfl⟩⟩,h3,h.ext,h.lc⟩
 ·exact⟨R',free,Nat.le_refl _,λ _=>rfl,⟨h.ok,h2,.inr ⟨e,h1⟩⟩,h3,h.ext,h.lc⟩
end
end Go.Ct
namespace Go.Proofs.YtbajmaoegmbfgaaGreat
open Go Go.RowKit Go.Ct
section
section
variable{k:Cl}{bx bm:Nat}{x:XS}{dn:Bool}{rs:Rs}{D:List Nat}{A:Fr}{w:World}
theorem Tm(hs:SF w D (xH k bx bm x dn rs) A [] (xW x) w):Calls Tryz.prog 69 #[.pointer (some ⟨bx,0,none⟩)] w λ e w'=>∃q:Unit,e=.returned (.bool dn)/\True/\SF w D (xH k bx bm x dn rs) [] [] (xW x) w':=by
 refine enter Tryz.func69 Tryz.ntmps69 rfl rfl (cB hs) ?_
 simp only[cC]
 refine cX ?_;refine mD ?_;refine J1 ?_
 refine aR Tryz.results69 (λ w hw=>?_)
 exact⟨(),rfl,trivial,hw.aX⟩
theorem Zw(hs:SF w D (xH k bx bm x dn rs) A [] (xW x) w):Calls Tryz.prog 135 #[.pointer (some ⟨bx,0,none⟩)] w λ e w'=>∃q:Unit,e=.returned (.agg ⟨rs.cells⟩)/\True/\SF w D (xH k bx bm x dn rs) [] [] (xW x) w':=by
 refine enter Tryz.func135 Tryz.ntmps135 rfl rfl (cB hs) ?_
 simp only[cC]
 refine J0 ?_;refine aK (λ x2=>?_);refine aH ?_;refine I1 ?_;refine aC (aT (k:=8) (vs:=rs.cells) rf dC eT rfl rfl) rfl ?_;refine J5 ?_
 refine bE Tryz.results135 (λ w hw=>?_)
 exact⟨(),rfl,trivial,hw.aX⟩
theorem iw{m n N:Nat}{R:Tr}(hT:bU (kZ k (mJ k.key m) n) N 64)(hN:N<=1073741824)(hgN:x.got.length+1=N)(hsz:x.L.length<=137438953472/\x.cs.length<=137438953472/\x.gen<=137438953472)(hi:s5 (kZ k (mJ k.key m) n) x dn rs R)(hk:cp k)(hn:n<=1073741824)(hm:m<18446744073709551616)(em:k.mask=(m:Int))(ht:k.t.root<=9223372036854775807)(ha:k.a<=x.L.length)(hb:k.b<=x.L.length)(hnn:k.n<=x.L.length)(hA:∀f∈aM x.L,f∈A)(hs:SF w D (xH k bx bm x dn rs) A [] (xW x) w):Calls Tryz.prog 68 #[.pointer (some ⟨bx,0,none⟩)] w λ e w'=>∃q:XS×List aP×Bool×Rs,e=.returned (.tuple #[])/\((dn=true/\q=(x,[],true,rs))∨(dn=false/\Ak (kZ k (mJ k.key m) n) R 1 N rs x q.1 q.2.1 q.2.2.1 q.2.2.2))/\SF w D (xH k bx bm q.1 q.2.2.1 q.2.2.2) [] (aM q.2.1) (xW q.1) w':=by
 have hg:dn=false->Gx.Ok ⟨kZ k (mJ k.key m) n,R,x.mm,1,N⟩:=λ e=>by
  rcases hi.Zp with⟨e2,_⟩|⟨_,e2⟩
  ·rw[e] at e2;cases e2
  ·obtain⟨c,h1,_,_⟩:=hi.wk.vP (Nat.le_refl 64) hT (by omega)
   refine⟨hT,⟨N-x.got.length,by show 1<=N-x.got.length;omega,Oa e2 h1 (by omega)⟩,hN,Nat.le_refl 1,?_⟩
   show(x.L.map aP.c).length<=_/\_
   rw[List.length_map]
   exact hsz
 refine enter Tryz.func68 Tryz.ntmps68 rfl rfl (cB hs) ?_
 simp only[cC]
 refine mD ?_;refine oV ?_
 refine bC (λ c6=>?_) (λ c6=>?_)
 ·have ed:dn=false:=by simpa using c6
  subst ed
  refine zG ?_;refine aD (cM (hs:=xH k bx bm x false rs) (os:=xW x) (A0:=aM x.L) (hA:=bG.of λ f hf=>.inr (.inl (hA f hf))) (hc:=λ w hs=>Qg (N:=N) (n:=n) (m:=m) 1 (hg rfl) hi.wk hgN hk hn hm em ht ha hb hnn (λ f hf=>hf) hi.ok hs)) (λ x8 h8=>?_);refine aH ?_
  refine Cq Tryz.results68 (λ w hw=>?_)
  first
  | exact⟨x8,rfl,.inr ⟨rfl,h8⟩,by rw[List.append_nil] at hw;exact hw.v4⟩
  | exact⟨(x,[],true,rs),rfl,.inl ⟨by simpa using c6,rfl⟩,by rw[show dn=true from by simpa using c6] at hw;exact hw.aX (hF:=by exact aY.nil)⟩
 ·refine aZ ?_
  refine Cq Tryz.results68 (λ w hw=>?_)
  first
  | exact⟨(x,[],true,rs),rfl,.inl ⟨by simpa using c6,rfl⟩,by rw[show dn=true from by simpa using c6] at hw;exact hw.aX (hF:=by exact aY.nil)⟩
end
end
end Go.Proofs.YtbajmaoegmbfgaaGreat
namespace Go.Ct
open Go Go.RowKit
section
def XS.new(L:List aP)(cs:List Int)(gen acc:Int)(pn:Option Addr)(cn:Nat)(pc:Option Addr)(cc:Nat):XS:=⟨L,cs,gen,acc,pn,cn,pc,cc,[],[],[],[],none,0,none,0,none,0,none,0,0,0,0,0,0,false,Ac.zero⟩
end
end Go.Ct
namespace Go.Proofs.YtbajmaoegmbfgaaGreat
open Go Go.RowKit Go.Ct
section
section
variable{k:Cl}{bm:Nat}{L:List aP}{cs:List Int}{gen acc:Int}{pn pc:Option Addr}{cn cc:Nat}{D:List Nat}{A:Fr}{w:World}
theorem sc{m n N:Nat}(hT:bU (kZ k (mJ k.key m) n) N 64)(hN:N<=1073741824)(hsz:L.length<=137438953472/\cs.length<=137438953472/\gen<=137438953472)(hk:cp k)(hn:n<=1073741824)(hm:m<18446744073709551616)(em:k.mask=(m:Int))(ht:k.t.root<=9223372036854775807)(ha:k.a<=L.length)(hb:k.b<=L.length)(hnn:k.n<=L.length)(hA:∀f∈aM L,f∈A)(ok:(XS.new L cs gen acc pn cn pc cc).Ok)(hs:SF w D [(bm,mO L cs gen acc pn cn pc cc)] A [] [⟨pn,iJ L,cn,47,14⟩,⟨pc,aG cs,cc,37,1⟩] w)(hN0:N=0:=by rfl):Calls Tryz.prog 49 #[.pointer (some ⟨bm,0,none⟩),.agg ⟨Ry k⟩] w λ e w'=>∃q:Nat×XS×List aP×Bool×Rs,e=.returned (.pointer (some ⟨q.1,0,none⟩))/\Ak (kZ k (mJ k.key m) n) (kZ k (mJ k.key m) n) 0 N Rs.zero (XS.new L cs gen acc pn cn pc cc) q.2.1 q.2.2.1 q.2.2.2.1 q.2.2.2.2/\SF w D (xH k q.1 bm q.2.1 q.2.2.2.1 q.2.2.2.2) [] (aM q.2.2.1) (xW q.2.1) w':=by
 have hg:Gx.Ok ⟨kZ k (mJ k.key m) n,kZ k (mJ k.key m) n,(XS.new L cs gen acc pn cn pc cc).mm,0,N⟩:=⟨hT,⟨N,Nat.zero_le _,hT⟩,hN,Nat.zero_le _,by
  show(L.map aP.c).length<=_/\_
  rw[List.length_map]
  exact hsz⟩
 refine enter Tryz.func49 Tryz.ntmps49 rfl rfl ((((hs.jX 3 1).jX 27 1).jX 37 1).jX 37 1) ?_
 simp only[cC]
 refine J0 ?_;refine bM (λ x3=>?_);refine Ka5 ?_;refine aC (aT (k:=25) (vs:=Ry k) rf dC eT rfl rfl) rfl ?_;refine bN ?_;refine bM (λ x9=>?_);refine Ka5 ?_;refine aD (cM (hs:=xH k x9 bm (XS.new L cs gen acc pn cn pc cc) false Rs.zero) (os:=xW (XS.new L cs gen acc pn cn pc cc)) (A0:=aM L) (hA:=bG.of λ f hf=>.inr (.inl (hA f hf))) (hc:=λ w hs=>Qg (N:=N) (n:=n) (m:=m) 0 hg (Wk.nil _) hN0.symm hk hn hm em ht ha hb hnn (λ f hf=>hf) ok hs)) (λ x11 h11=>?_);refine aH ?_;refine Ka4 ?_
 refine aR Tryz.results49 (λ w hw=>?_)
 exact⟨(x9,x11.1,x11.2.1,x11.2.2.1,x11.2.2.2),rfl,h11,by rw[List.append_nil] at hw;exact hw.v4⟩
end
end
section
theorem aAF:∀{t:Tr} {n c c':Nat},c<=c'->bU t n c->bU t n c':=by
 intro t
 induction t with
 | done r=>intros;simp[bU]
 | stuck=>intro n c c' _ h;simp[bU] at h
 | load r k ih =>
  intro n c c' _ h
  cases n with
  | zero=>simp[bU]
  | succ n=>simpa only[bU] using h
 | jE r o m k ih =>
  intro n c c' _ h
  cases n with
  | zero=>simp[bU]
  | succ n=>simpa only[bU] using h
 | alloc r o k ih =>
  intro n c c' hc h
  cases c with
  | zero=>simp[bU] at h
  | succ c =>
   cases c' with
   | zero=>omega
   | succ c'=>simp only[bU] at h ⊢;exact λ v=>ih v (by omega) (h v)
 | cell r k ih =>
  intro n c c' hc h
  cases c with
  | zero=>simp[bU] at h
  | succ c =>
   cases c' with
   | zero=>omega
   | succ c'=>simp only[bU] at h ⊢;exact λ v=>ih v (by omega) (h v)
 | gen k ih =>
  intro n c c' hc h
  cases c with
  | zero=>simp[bU] at h
  | succ c =>
   cases c' with
   | zero=>omega
   | succ c'=>simp only[bU] at h ⊢;exact λ v=>ih v (by omega) (h v)
 | node r k ih =>
  intro n c c' hc h
  cases c<;>cases c'<;>simp only[bU] at h ⊢ <;> exact λ v=>ih v (by omega) (h v)
section
variable{n c:Nat}
theorem pY{a:Int}{k:Int->Tr}(h:∀n',n'<n->∀v,bU (k v) n' 64):bU (.load a k) n c:=by
 cases n with
 | zero=>simp[bU]
 | succ n=>simp only[bU];exact h n (Nat.lt_succ_self n)
theorem D1{a o m:Int}{k:Bool->Tr}(h:∀n',n'<n->∀v,bU (k v) n' 64):bU (.jE a o m k) n c:=by
 cases n with
 | zero=>simp[bU]
 | succ n=>simp only[bU];exact h n (Nat.lt_succ_self n)
theorem Ml{a:Nv}{i:Int}{k:Int->Tr}(h:∀v,bU (k v) n c):bU (.alloc a i k) n (c+1):=by simp only[bU];exact h
theorem yo{i:Int}{k:Int->Tr}(h:∀v,bU (k v) n c):bU (.cell i k) n (c+1):=by simp only[bU];exact h
theorem aA3{k:Int->Tr}(h:∀v,bU (k v) n c):bU (.gen k) n (c+1):=by simp only[bU];exact h
theorem cO{r:Int}{k:Nv->Tr}(h:∀v,bU (k v) n c):bU (.node r k) n c:=by
 cases c<;>simp only[bU]<;>exact h
abbrev Iy{X:Type}(K:X->Tr)(n:Nat):Prop:=∀n',n'<n->∀v,bU (K v) n' 64
theorem Iy.lt{X:Type}{K:X->Tr}{m:Nat}(h:Iy K n)(hm:m<=n):Iy K m:=λ n' h' v=>h n' (by omega) v
theorem gu{v s:Int}{K:Int->Tr}(h:∀w,bU (K w) n c):bU (yh v s K) n c:=cO λ _=>h _
theorem wW{t:dL}{v s:Int}{K:Int->Tr}(h:Iy K n):bU (uL t v s K) n c:=gu λ _=>D1 λ n' hn _=>h n' hn _
theorem X4{t:dL}{K:Int->Tr}(h:Iy K n):bU (C4 t K) n c:=pY λ n1 h1 v=>cO λ nv=>by
 split
 ·exact h n1 h1 v
 ·exact cO λ _=>pY λ n2 h2 s=>by
   split
   ·exact cO λ _=>D1 λ n3 h3 _=>cO λ _=>pY λ n4 h4 _=>wW (h.lt (by omega))
   ·exact wW (h.lt (by omega))
theorem Q3{i m p:Int}{K:Int->Tr}(h:Iy K n):bU (I3 i m p K) n c:=cO λ _=>cO λ _=>D1 λ n' hn _=>cO λ _=>h n' hn _
theorem Ar{i m:Int}{K:Int->Tr}(h:Iy K n):bU (kJ i m K) n c:=cO λ _=>pY λ n1 h1 p=>by
 split
 ·exact h n1 h1 _
 ·exact Q3 (h.lt (by omega))
theorem Jw{i m p:Int}{b:Bool}{K:Int->Tr}(h:Iy K n)(hc:1<=c):bU (jP i m p b K) n c:=by
 unfold jP
 split
 ·exact cO λ _=>D1 λ n1 h1 _=>Ar (h.lt (by omega))
 ·obtain⟨c,rfl⟩:∃d,c=d+1:=⟨c-1,by omega⟩
  exact cO λ _=>Ml λ _=>D1 λ n1 h1 _=>Ar (h.lt (by omega))
theorem Dj{t:dL}{i m:Int}{K:Int->Tr}(h:Iy K n):bU (pJ t i m K) n c:=cO λ _=>pY λ n1 h1 p=>by
 split
 ·exact h n1 h1 _
 ·refine cO λ _=>?_
  split
  ·split
   ·exact Jw (h.lt (by omega)) (by decide)
   ·exact X4 λ n2 h2 _=>cO λ _=>cO λ _=>Jw (h.lt (by omega)) (by decide)
  ·exact Q3 (h.lt (by omega))
theorem iB{t:dL}{i:Int}{K:Int->Tr}(h:Iy K n):bU (nC t i K) n c:=cO λ _=>pY λ n1 h1 _=>Dj (h.lt (by omega))
theorem Di{t:dL}{v:Int}{K:Tr}(h:∀n',n'<n->bU K n' 64):bU (xY t v K) n c:=cO λ _=>iB λ n1 h1 _=>cO λ _=>cO λ _=>D1 λ n2 h2 _=>h n2 (by omega)
theorem pP{t:dL}{K:Int->Tr}(h:Iy K n):bU (uK t K) n c:=pY λ n1 h1 v=>cO λ nv=>by
 split
 ·exact h n1 h1 v
 ·exact cO λ _=>pY λ n2 h2 s=>by
   split
   ·exact Di λ n3 h3=>cO λ _=>pY λ n4 h4 _=>wW (h.lt (by omega))
   ·exact wW (h.lt (by omega))
theorem kL{t:dL}{i o m:Int}{K:Bool->Tr}(h:Iy K n):bU (jT t i o m K) n c:=cO λ _=>D1 λ n1 h1 b=>by
 split
 ·exact Dj λ n2 h2 _=>h n2 (by omega) _
 ·exact h n1 h1 _
theorem zN{t:dL}{o e m:Int}{K:Bool->Tr}(h:Iy K n)(hc:1<=c):bU (vR t o e m K) n c:=by
 obtain⟨c,rfl⟩:∃d,c=d+1:=⟨c-1,by omega⟩
 exact Ml λ _=>D1 λ n1 h1 b=>by
  split
  ·exact Di λ n2 h2=>cO λ _=>pY λ n3 h3 _=>wW λ n4 h4 _=>h n4 (by omega) _
  ·exact h n1 h1 _
end
end
end Go.Proofs.YtbajmaoegmbfgaaGreat
