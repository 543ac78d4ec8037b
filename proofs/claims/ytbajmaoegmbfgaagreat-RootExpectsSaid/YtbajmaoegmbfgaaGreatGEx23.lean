/- Executions of the reference: a call. -/
import Derived.Test.YtbajmaoegmbfgaaGreatGEx20
import Derived.Test.YtbajmaoegmbfgaaGreatGRn1

set_option linter.unusedSimpArgs false
set_option linter.unusedVariables false
namespace Go.Proofs.YtbajmaoegmbfgaaGreat
section
open Go Go.RowKit Go.Ct
abbrev P7(k:Cl):List Value:=[.int .i64 k.kind,.int .i64 k.t.root,.bool k.t.ro,.int .i64 k.a,.int .i64 k.b,.int .i64 k.n,.int .i64 k.index,.int .u64 k.hash,.int .u64 k.mask,.string k.key,.int .u64 k.val,.int .u64 k.exp,.int .i64 k.H7,.bool k.only,.bool false,.slice none 0 0,.slice none 0 0,.int .i64 0,.bool false,.int .u64 0,.string ⟨#[]⟩,.int .i64 0,.int .i64 0,.int .i64 0,.bool false]
def jf(k:Cl):Prop:=(1<=k.kind/\k.kind<=4)∨(7<=k.kind/\k.kind<=12)
theorem bL{k:Cl}(h:k.kind=7∨k.kind=9):refuse k=if k.key.size<=64 then 0 else 1:=if_pos h
theorem bV{k:Cl}(h:k.kind=8):refuse k=if k.key.size<=64/\0<=k.H7/\k.H7<=3 then 0 else 1:=(if_neg (by omega)).trans (if_pos h)
theorem eJ{k:Cl}(h:k.kind<7∨9<k.kind):refuse k=0:=(if_neg (by omega)).trans (if_neg (by omega))
theorem Wn{k:Cl}(hk:jf k)(w:World):Calls Tryz.prog 175 #[.agg ⟨P7 k⟩] w λ e w'=>e=.returned (.int .i64 (refuse k))/\St w [] [] w':=by
 have hk2:=hk
 unfold jf at hk2
 refine enter Tryz.func175 Tryz.ntmps175 rfl rfl (SF.s0 w) ?_
 simp only[cD]
 refine J0 ?_;refine bO (λ x1=>?_);refine iW ?_;refine gP ?_;refine aG ?_;refine cY ?_;refine aR ?_;refine lK ?_
 refine bC (λ c5=>?_) (λ c5=>?_)
 ·refine aV ?_
  refine bC (λ c5=>?_) (λ c5=>?_)
  ·refine gP ?_;refine aM (cV (hc:=λ w1 hw=>mZ _ w1)) (λ x10=>?_);refine pD ?_
   refine bC (λ c11=>?_) (λ c11=>?_)
   ·refine cU ?_
    refine aN Tryz.results175 (λ w hw=>?_)
    first
    | (rw[bL (by omega),if_neg (by simp_all)];exact⟨rfl,hw.done⟩)
    | (rw[bL (by omega),if_pos (by simp_all)];exact⟨rfl,hw.done⟩)
    | (rw[bV (by omega),if_neg (by rintro ⟨h1,h2,h3⟩;first|omega|simp_all)];exact⟨rfl,hw.done⟩)
    | (rw[bV (by omega),if_pos ⟨by simp_all,by omega,by omega⟩];exact⟨rfl,hw.done⟩)
    | (rw[eJ (by omega)];exact⟨rfl,hw.done⟩)
    | (exfalso;omega)
   ·refine Ka8 ?_
    refine aN Tryz.results175 (λ w hw=>?_)
    first
    | (rw[bL (by omega),if_neg (by simp_all)];exact⟨rfl,hw.done⟩)
    | (rw[bL (by omega),if_pos (by simp_all)];exact⟨rfl,hw.done⟩)
    | (rw[bV (by omega),if_neg (by rintro ⟨h1,h2,h3⟩;first|omega|simp_all)];exact⟨rfl,hw.done⟩)
    | (rw[bV (by omega),if_pos ⟨by simp_all,by omega,by omega⟩];exact⟨rfl,hw.done⟩)
    | (rw[eJ (by omega)];exact⟨rfl,hw.done⟩)
    | (exfalso;omega)
  ·refine lK ?_
   refine bC (λ c12=>?_) (λ c12=>?_)
   ·refine gP ?_;refine aM (cV (hc:=λ w1 hw=>mZ _ w1)) (λ x16=>?_);refine Et ?_
    (refine eC 18 (λ g18=>?_) (λ g18=>?_)<;>refine Ka1 ?_)
    all_goals (refine yo ?_;refine aA ?_)
    all_goals (first|refine aI ?_|(refine eC 23 (λ g23=>?_) (λ g23=>?_)<;>refine Ka1 ?_))
    all_goals (refine Ka2 ?_;refine Ka7 ?_)
    all_goals
    refine bC (λ c27=>?_) (λ c27=>?_)
    ·all_goals refine cU ?_
     all_goals
      refine aN Tryz.results175 (λ w hw=>?_)
      first
      | (rw[bL (by omega),if_neg (by simp_all)];exact⟨rfl,hw.done⟩)
      | (rw[bL (by omega),if_pos (by simp_all)];exact⟨rfl,hw.done⟩)
      | (rw[bV (by omega),if_neg (by rintro ⟨h1,h2,h3⟩;first|omega|simp_all)];exact⟨rfl,hw.done⟩)
      | (rw[bV (by omega),if_pos ⟨by simp_all,by omega,by omega⟩];exact⟨rfl,hw.done⟩)
      | (rw[eJ (by omega)];exact⟨rfl,hw.done⟩)
      | (exfalso;omega)
    ·try exact nv c27
     all_goals (refine Ka8 ?_)
     all_goals
      refine aN Tryz.results175 (λ w hw=>?_)
      first
      | (rw[bL (by omega),if_neg (by simp_all)];exact⟨rfl,hw.done⟩)
      | (rw[bL (by omega),if_pos (by simp_all)];exact⟨rfl,hw.done⟩)
      | (rw[bV (by omega),if_neg (by rintro ⟨h1,h2,h3⟩;first|omega|simp_all)];exact⟨rfl,hw.done⟩)
      | (rw[bV (by omega),if_pos ⟨by simp_all,by omega,by omega⟩];exact⟨rfl,hw.done⟩)
      | (rw[eJ (by omega)];exact⟨rfl,hw.done⟩)
      | (exfalso;omega)
   ·refine aR ?_;refine lK ?_
    refine bC (λ c28=>?_) (λ c28=>?_)
    ·refine aV ?_
     refine bC (λ c28=>?_) (λ c28=>?_)
     ·refine Ka9 ?_;refine J3 ?_;refine pD ?_
      refine bC (λ c34=>?_) (λ c34=>?_)
      ·refine cU ?_
       refine aN Tryz.results175 (λ w hw=>?_)
       first
       | (rw[bL (by omega),if_neg (by simp_all)];exact⟨rfl,hw.done⟩)
       | (rw[bL (by omega),if_pos (by simp_all)];exact⟨rfl,hw.done⟩)
       | (rw[bV (by omega),if_neg (by rintro ⟨h1,h2,h3⟩;omega)];exact⟨rfl,hw.done⟩)
       | (rw[bV (by omega),if_pos ⟨by simp_all,by omega,by omega⟩];exact⟨rfl,hw.done⟩)
       | (rw[eJ (by omega)];exact⟨rfl,hw.done⟩)
       | (exfalso;omega)
      ·refine Ka8 ?_
       refine aN Tryz.results175 (λ w hw=>?_)
       first
       | (rw[bL (by omega),if_neg (by simp_all)];exact⟨rfl,hw.done⟩)
       | (rw[bL (by omega),if_pos (by simp_all)];exact⟨rfl,hw.done⟩)
       | (rw[bV (by omega),if_neg (by rintro ⟨h1,h2,h3⟩;first|omega|simp_all)];exact⟨rfl,hw.done⟩)
       | (rw[bV (by omega),if_pos ⟨by simp_all,by omega,by omega⟩];exact⟨rfl,hw.done⟩)
       | (rw[eJ (by omega)];exact⟨rfl,hw.done⟩)
       | (exfalso;omega)
     ·refine Ka8 ?_
      refine aN Tryz.results175 (λ w hw=>?_)
      first
      | (rw[bL (by omega),if_neg (by simp_all)];exact⟨rfl,hw.done⟩)
      | (rw[bL (by omega),if_pos (by simp_all)];exact⟨rfl,hw.done⟩)
      | (rw[bV (by omega),if_neg (by rintro ⟨h1,h2,h3⟩;first|omega|simp_all)];exact⟨rfl,hw.done⟩)
      | (rw[bV (by omega),if_pos ⟨by simp_all,by omega,by omega⟩];exact⟨rfl,hw.done⟩)
      | (rw[eJ (by omega)];exact⟨rfl,hw.done⟩)
      | (exfalso;omega)
    ·refine dH ?_;refine Qc ?_
     refine bC (λ c28=>?_) (λ c28=>?_)
     ·refine Ka9 ?_;refine J3 ?_;refine pD ?_
      refine bC (λ c34=>?_) (λ c34=>?_)
      ·refine cU ?_
       refine aN Tryz.results175 (λ w hw=>?_)
       first
       | (rw[bL (by omega),if_neg (by simp_all)];exact⟨rfl,hw.done⟩)
       | (rw[bL (by omega),if_pos (by simp_all)];exact⟨rfl,hw.done⟩)
       | (rw[bV (by omega),if_neg (by rintro ⟨h1,h2,h3⟩;omega)];exact⟨rfl,hw.done⟩)
       | (rw[bV (by omega),if_pos ⟨by simp_all,by omega,by omega⟩];exact⟨rfl,hw.done⟩)
       | (rw[eJ (by omega)];exact⟨rfl,hw.done⟩)
       | (exfalso;omega)
      ·refine Ka8 ?_
       refine aN Tryz.results175 (λ w hw=>?_)
       first
       | (rw[bL (by omega),if_neg (by simp_all)];exact⟨rfl,hw.done⟩)
       | (rw[bL (by omega),if_pos (by simp_all)];exact⟨rfl,hw.done⟩)
       | (rw[bV (by omega),if_neg (by rintro ⟨h1,h2,h3⟩;first|omega|simp_all)];exact⟨rfl,hw.done⟩)
       | (rw[bV (by omega),if_pos ⟨by simp_all,by omega,by omega⟩];exact⟨rfl,hw.done⟩)
       | (rw[eJ (by omega)];exact⟨rfl,hw.done⟩)
       | (exfalso;omega)
     ·refine Ka8 ?_
      refine aN Tryz.results175 (λ w hw=>?_)
      first
      | (rw[bL (by omega),if_neg (by simp_all)];exact⟨rfl,hw.done⟩)
      | (rw[bL (by omega),if_pos (by simp_all)];exact⟨rfl,hw.done⟩)
      | (rw[bV (by omega),if_neg (by rintro ⟨h1,h2,h3⟩;first|omega|simp_all)];exact⟨rfl,hw.done⟩)
      | (rw[bV (by omega),if_pos ⟨by simp_all,by omega,by omega⟩];exact⟨rfl,hw.done⟩)
      | (rw[eJ (by omega)];exact⟨rfl,hw.done⟩)
      | (exfalso;omega)
 ·refine dH ?_;refine Qc ?_
  refine bC (λ c5=>?_) (λ c5=>?_)
  ·refine gP ?_;refine aM (cV (hc:=λ w1 hw=>mZ _ w1)) (λ x10=>?_);refine pD ?_
   refine bC (λ c11=>?_) (λ c11=>?_)
   ·refine cU ?_
    refine aN Tryz.results175 (λ w hw=>?_)
    first
    | (rw[bL (by omega),if_neg (by simp_all)];exact⟨rfl,hw.done⟩)
    | (rw[bL (by omega),if_pos (by simp_all)];exact⟨rfl,hw.done⟩)
    | (rw[bV (by omega),if_neg (by rintro ⟨h1,h2,h3⟩;first|omega|simp_all)];exact⟨rfl,hw.done⟩)
    | (rw[bV (by omega),if_pos ⟨by simp_all,by omega,by omega⟩];exact⟨rfl,hw.done⟩)
    | (rw[eJ (by omega)];exact⟨rfl,hw.done⟩)
    | (exfalso;omega)
   ·refine Ka8 ?_
    refine aN Tryz.results175 (λ w hw=>?_)
    first
    | (rw[bL (by omega),if_neg (by simp_all)];exact⟨rfl,hw.done⟩)
    | (rw[bL (by omega),if_pos (by simp_all)];exact⟨rfl,hw.done⟩)
    | (rw[bV (by omega),if_neg (by rintro ⟨h1,h2,h3⟩;first|omega|simp_all)];exact⟨rfl,hw.done⟩)
    | (rw[bV (by omega),if_pos ⟨by simp_all,by omega,by omega⟩];exact⟨rfl,hw.done⟩)
    | (rw[eJ (by omega)];exact⟨rfl,hw.done⟩)
    | (exfalso;omega)
  ·refine lK ?_
   refine bC (λ c12=>?_) (λ c12=>?_)
   ·refine gP ?_;refine aM (cV (hc:=λ w1 hw=>mZ _ w1)) (λ x16=>?_);refine Et ?_
    (refine eC 18 (λ g18=>?_) (λ g18=>?_)<;>refine Ka1 ?_)
    all_goals (refine yo ?_;refine aA ?_)
    all_goals (first|refine aI ?_|(refine eC 23 (λ g23=>?_) (λ g23=>?_)<;>refine Ka1 ?_))
    all_goals (refine Ka2 ?_;refine Ka7 ?_)
    all_goals
    refine bC (λ c27=>?_) (λ c27=>?_)
    ·all_goals refine cU ?_
     all_goals
      refine aN Tryz.results175 (λ w hw=>?_)
      first
      | (rw[bL (by omega),if_neg (by simp_all)];exact⟨rfl,hw.done⟩)
      | (rw[bL (by omega),if_pos (by simp_all)];exact⟨rfl,hw.done⟩)
      | (rw[bV (by omega),if_neg (by rintro ⟨h1,h2,h3⟩;omega)];exact⟨rfl,hw.done⟩)
      | (rw[bV (by omega),if_pos ⟨by simp_all,by omega,by omega⟩];exact⟨rfl,hw.done⟩)
      | (rw[eJ (by omega)];exact⟨rfl,hw.done⟩)
      | (exfalso;omega)
    ·try exact nv c27
     all_goals (refine Ka8 ?_)
     all_goals
      refine aN Tryz.results175 (λ w hw=>?_)
      first
      | (rw[bL (by omega),if_neg (by simp_all)];exact⟨rfl,hw.done⟩)
      | (rw[bL (by omega),if_pos (by simp_all)];exact⟨rfl,hw.done⟩)
      | (rw[bV (by omega),if_neg (by rintro ⟨h1,h2,h3⟩;simp_all)];exact⟨rfl,hw.done⟩)
      | (rw[bV (by omega),if_pos ⟨by simp_all,by omega,by omega⟩];exact⟨rfl,hw.done⟩)
      | (rw[eJ (by omega)];exact⟨rfl,hw.done⟩)
      | (exfalso;omega)
   ·refine aR ?_;refine lK ?_
    refine bC (λ c28=>?_) (λ c28=>?_)
    ·refine aV ?_
     refine bC (λ c28=>?_) (λ c28=>?_)
     ·refine Ka9 ?_;refine J3 ?_;refine pD ?_
      refine bC (λ c34=>?_) (λ c34=>?_)
      ·refine cU ?_
       refine aN Tryz.results175 (λ w hw=>?_)
       first
       | (rw[bL (by omega),if_neg (by simp_all)];exact⟨rfl,hw.done⟩)
       | (rw[bL (by omega),if_pos (by simp_all)];exact⟨rfl,hw.done⟩)
       | (rw[bV (by omega),if_neg (by rintro ⟨h1,h2,h3⟩;omega)];exact⟨rfl,hw.done⟩)
       | (rw[bV (by omega),if_pos ⟨by simp_all,by omega,by omega⟩];exact⟨rfl,hw.done⟩)
       | (rw[eJ (by omega)];exact⟨rfl,hw.done⟩)
       | (exfalso;omega)
      ·refine Ka8 ?_
       refine aN Tryz.results175 (λ w hw=>?_)
       first
       | (rw[bL (by omega),if_neg (by simp_all)];exact⟨rfl,hw.done⟩)
       | (rw[bL (by omega),if_pos (by simp_all)];exact⟨rfl,hw.done⟩)
       | (rw[bV (by omega),if_neg (by rintro ⟨h1,h2,h3⟩;first|omega|simp_all)];exact⟨rfl,hw.done⟩)
       | (rw[bV (by omega),if_pos ⟨by simp_all,by omega,by omega⟩];exact⟨rfl,hw.done⟩)
       | (rw[eJ (by omega)];exact⟨rfl,hw.done⟩)
       | (exfalso;omega)
     ·refine Ka8 ?_
      refine aN Tryz.results175 (λ w hw=>?_)
      first
      | (rw[bL (by omega),if_neg (by simp_all)];exact⟨rfl,hw.done⟩)
      | (rw[bL (by omega),if_pos (by simp_all)];exact⟨rfl,hw.done⟩)
      | (rw[bV (by omega),if_neg (by rintro ⟨h1,h2,h3⟩;first|omega|simp_all)];exact⟨rfl,hw.done⟩)
      | (rw[bV (by omega),if_pos ⟨by simp_all,by omega,by omega⟩];exact⟨rfl,hw.done⟩)
      | (rw[eJ (by omega)];exact⟨rfl,hw.done⟩)
      | (exfalso;omega)
    ·refine dH ?_;refine Qc ?_
     refine bC (λ c28=>?_) (λ c28=>?_)
     ·refine Ka9 ?_;refine J3 ?_;refine pD ?_
      refine bC (λ c34=>?_) (λ c34=>?_)
      ·refine cU ?_
       refine aN Tryz.results175 (λ w hw=>?_)
       first
       | (rw[bL (by omega),if_neg (by simp_all)];exact⟨rfl,hw.done⟩)
       | (rw[bL (by omega),if_pos (by simp_all)];exact⟨rfl,hw.done⟩)
       | (rw[bV (by omega),if_neg (by rintro ⟨h1,h2,h3⟩;omega)];exact⟨rfl,hw.done⟩)
       | (rw[bV (by omega),if_pos ⟨by simp_all,by omega,by omega⟩];exact⟨rfl,hw.done⟩)
       | (rw[eJ (by omega)];exact⟨rfl,hw.done⟩)
       | (exfalso;omega)
      ·refine Ka8 ?_
       refine aN Tryz.results175 (λ w hw=>?_)
       first
       | (rw[bL (by omega),if_neg (by simp_all)];exact⟨rfl,hw.done⟩)
       | (rw[bL (by omega),if_pos (by simp_all)];exact⟨rfl,hw.done⟩)
       | (rw[bV (by omega),if_neg (by rintro ⟨h1,h2,h3⟩;first|omega|simp_all)];exact⟨rfl,hw.done⟩)
       | (rw[bV (by omega),if_pos ⟨by simp_all,by omega,by omega⟩];exact⟨rfl,hw.done⟩)
       | (rw[eJ (by omega)];exact⟨rfl,hw.done⟩)
       | (exfalso;omega)
     ·refine Ka8 ?_
      refine aN Tryz.results175 (λ w hw=>?_)
      first
      | (rw[bL (by omega),if_neg (by simp_all)];exact⟨rfl,hw.done⟩)
      | (rw[bL (by omega),if_pos (by simp_all)];exact⟨rfl,hw.done⟩)
      | (rw[bV (by omega),if_neg (by rintro ⟨h1,h2,h3⟩;first|omega|simp_all)];exact⟨rfl,hw.done⟩)
      | (rw[bV (by omega),if_pos ⟨by simp_all,by omega,by omega⟩];exact⟨rfl,hw.done⟩)
      | (rw[eJ (by omega)];exact⟨rfl,hw.done⟩)
      | (exfalso;omega)
theorem Kx(r:Int)(f:Bool)(w:World):Calls Tryz.prog 176 #[.int .i64 r,.bool f] w λ e w'=>e=.returned (.agg ⟨(iD r f).cells⟩)/\St w [] [] w':=by
 refine enter Tryz.func176 Tryz.ntmps176 rfl rfl (SF.s0 w) ?_
 simp only[cD]
 refine J0 ?_;refine aJ (λ x4=>?_);refine aG ?_;refine iX ?_;refine uU ?_
 refine bA Tryz.results176 (λ w hw=>?_)
 exact⟨rfl,hw.done⟩
theorem Ue{k:Cl}{B:Bool->Tr}{C:Tr}(h:k.kind=10∨k.kind=11):(if k.kind=10 then B false else if k.kind=11 then B true else C)=B (k.kind==11):=by
 rcases h with h|h<;>rw[h]<;>rfl
section
variable{k:Cl}{bx bm:Nat}{x:XS}{dn:Bool}{rs:Rs}{D:List Nat}{A:Fr}{w:World}{g:Gx}
set_option maxRecDepth 100000 in
set_option maxHeartbeats 2000000 in
theorem aBb(hg:g.Ok){m:Nat}(n:Nat)(hk:jf k)(hn:n<=1073741824)(hm:m<18446744073709551616)(em:k.mask=(m:Int))(ht:k.t.root<=9223372036854775807)(ha:k.a<=x.L.length)(hb:k.b<=x.L.length)(hnn:k.n<=x.L.length)(hA:∀f∈aL x.L,f∈A)(go:fN g x (kM k (mC k.key m) n))(ok:x.Ok)(hs:SF w D (xH k bx bm x dn rs) A [] (xW x) w):Calls Tryz.prog 143 #[.pointer (some ⟨bx,0,none⟩)] w λ e w'=>∃q:Rs×XS×List aU,e=.returned (.agg ⟨q.1.cells⟩)/\Nx g x q.2.1 q.2.2 (.done q.1) 0/\SF w D (xH k bx bm q.2.1 dn rs) [] (aL q.2.2) (xW q.2.1) w':=by
 have hk2:=hk
 unfold jf at hk2
 refine enter Tryz.func143 Tryz.ntmps143 rfl rfl (cB hs) ?_
 simp only[cD]
 refine J0 ?_;refine aJ (λ x2=>?_);refine aG ?_;refine Hw ?_;refine aB (aP (k:=25) (vs:=P7 k) rf cX eH rfl rfl) rfl ?_;refine aJ (λ x3=>?_);refine J5 ?_;refine aR ?_;refine oI ?_;refine aM (cV (hc:=λ w1 hw=>Wn hk w1)) (λ x14=>?_);refine Ka4 ?_;refine mH ?_;refine aG ?_
 refine bC (λ c16=>?_) (λ c16=>?_)
 ·refine J2 ?_;refine uU ?_
  refine bA Tryz.results143 (λ w hw=>?_)
  first
  | exact⟨({Rs.zero with err:=refuse k},x,[]),rfl,⟨go.to (λ _=>if_pos c16),ok,by simp,Nat.le_refl _,(bH _)⟩,hw.aW (hF:=by exact aY.nil)⟩
 ·have g0:=go.to (λ _=>if_neg (λ h:refuse k≠0=>absurd (show refuse k=0 from by assumption) h))
  have e0:refuse k=0:=by assumption
  refine lI ?_;refine gP ?_;refine aG ?_;refine cY ?_;refine lK ?_
  refine bC (λ c21=>?_) (λ c21=>?_)
  ·have q:=g0.to (λ _=>if_pos c21)
   refine J2 ?_;refine aE ?_;refine aB (aP (k:=2) (vs:=[.int .i64 k.t.root,.bool k.t.ro]) rf cX eH rfl rfl) rfl ?_;refine J3 ?_;refine aD (cM (hs:=xH k bx bm x dn rs) (os:=xW x) (hc:=λ w hs=>nZ hg k.t k.a _ ht ha q ok hs)) (λ x28 h28=>?_);refine aM (cV (hc:=λ w1 hw=>Kx _ _ w1)) (λ x29=>?_);refine J5 ?_
   refine bA Tryz.results143 (λ w hw=>?_)
   first
   | exact⟨({Rs.zero with err:=refuse k},x,[]),rfl,⟨go.to (λ _=>if_pos c16),ok,by simp,Nat.le_refl _,(bH _)⟩,hw.aW (hF:=by exact aY.nil)⟩
   | exact⟨(iD x28.1 false,x28.2.1,x28.2.2),rfl,h28.cH h28.go (bH _),by rw[List.append_nil] at hw;exact hw.v4⟩
  ·have g1:=g0.to (λ _=>if_neg c21)
   refine lK ?_
   refine bC (λ c30=>?_) (λ c30=>?_)
   ·have q:=g1.to (λ _=>if_pos c30)
    refine J2 ?_;refine aE ?_;refine aB (aP (k:=2) (vs:=[.int .i64 k.t.root,.bool k.t.ro]) rf cX eH rfl rfl) rfl ?_;refine J3 ?_;refine J3 ?_;refine J3 ?_;refine aD (cM (hs:=xH k bx bm x dn rs) (os:=xW x) (hc:=λ w hs=>sL hg k.t k.a k.b k.n _ ht ha hnn q ok hs)) (λ x41 h41=>?_);refine aM (cV (hc:=λ w1 hw=>Kx _ _ w1)) (λ x42=>?_);refine J5 ?_
    refine bA Tryz.results143 (λ w hw=>?_)
    first
    | exact⟨({Rs.zero with err:=refuse k},x,[]),rfl,⟨go.to (λ _=>if_pos c16),ok,by simp,Nat.le_refl _,(bH _)⟩,hw.aW (hF:=by exact aY.nil)⟩
    | exact⟨(iD 0 x41.1,x41.2.1,x41.2.2),rfl,h41,by rw[List.append_nil] at hw;exact hw.v4⟩
   ·have g2:=g1.to (λ _=>if_neg c30)
    refine lK ?_
    refine bC (λ c43=>?_) (λ c43=>?_)
    ·have q:=g2.to (λ _=>if_pos c43)
     refine J2 ?_;refine aE ?_;refine aB (aP (k:=2) (vs:=[.int .i64 k.t.root,.bool k.t.ro]) rf cX eH rfl rfl) rfl ?_;refine aD (cM (hs:=xH k bx bm x dn rs) (os:=xW x) (hc:=λ w hs=>B4 hg k.t _ ht q ok hs)) (λ x48 h48=>?_);refine aM (cV (hc:=λ w1 hw=>Kx _ _ w1)) (λ x49=>?_);refine J5 ?_
     refine bA Tryz.results143 (λ w hw=>?_)
     first
     | exact⟨({Rs.zero with err:=refuse k},x,[]),rfl,⟨go.to (λ _=>if_pos c16),ok,by simp,Nat.le_refl _,(bH _)⟩,hw.aW (hF:=by exact aY.nil)⟩
     | exact⟨(iD x48.1 false,x48.2.1,x48.2.2),rfl,h48.cH h48.go (bH _),by rw[List.append_nil] at hw;exact hw.v4⟩
    ·have g3:=g2.to (λ _=>if_neg c43)
     refine lK ?_
     refine bC (λ c50=>?_) (λ c50=>?_)
     ·have q:=g3.to (λ _=>if_pos c50)
      refine J2 ?_;refine aE ?_;refine aB (aP (k:=2) (vs:=[.int .i64 k.t.root,.bool k.t.ro]) rf cX eH rfl rfl) rfl ?_;refine J3 ?_;refine J3 ?_;refine J3 ?_;refine aD (cM (hs:=xH k bx bm x dn rs) (os:=xW x) (hc:=λ w hs=>Lb hg k.t k.a k.b k.n _ ht ha hb hnn q ok hs)) (λ x61 h61=>?_);refine aM (cV (hc:=λ w1 hw=>Kx _ _ w1)) (λ x62=>?_);refine J5 ?_
      refine bA Tryz.results143 (λ w hw=>?_)
      first
      | exact⟨({Rs.zero with err:=refuse k},x,[]),rfl,⟨go.to (λ _=>if_pos c16),ok,by simp,Nat.le_refl _,(bH _)⟩,hw.aW (hF:=by exact aY.nil)⟩
      | exact⟨(iD 0 x61.1,x61.2.1,x61.2.2),rfl,h61,by rw[List.append_nil] at hw;exact hw.v4⟩
     ·have g4:=g3.to (λ _=>if_neg c50)
      refine lK ?_
      refine bC (λ c63=>?_) (λ c63=>?_)
      ·exfalso;omega
      ·refine lK ?_
       refine bC (λ c79=>?_) (λ c79=>?_)
       ·exfalso;omega
       ·refine lK ?_
        refine bC (λ c94=>?_) (λ c94=>?_)
        ·have q:=g4.to (λ _=>if_pos c94)
         have ek:k.key.size<=64:=by rw[bL (by omega)] at e0;split at e0;assumption;cases e0
         refine J2 ?_;refine aD (cM (hs:=xH k bx bm x dn rs) (os:=xW x) (A0:=aL x.L) (hA:=bJ.of λ f hf=>.inr (.inl (hA f hf))) (hc:=λ w hs=>y9 hg _ n hn hm em ek ht (λ f hf=>hf) q ok hs)) (λ x97 h97=>?_);refine J5 ?_
         refine bA Tryz.results143 (λ w hw=>?_)
         first
         | exact⟨({Rs.zero with err:=refuse k},x,[]),rfl,⟨go.to (λ _=>if_pos c16),ok,by simp,Nat.le_refl _,(bH _)⟩,hw.aW (hF:=by exact aY.nil)⟩
         | exact⟨(x97.1,x97.2.1,x97.2.2),rfl,h97,by rw[List.append_nil] at hw;exact hw.v4⟩
        ·have g7:=g4.to (λ _=>if_neg c94)
         refine lK ?_
         refine bC (λ c98=>?_) (λ c98=>?_)
         ·have q:=g7.to (λ _=>if_pos c98)
          have ek:k.key.size<=64:=by rw[bV (by omega)] at e0;split at e0;(rename_i h;exact h.1);cases e0
          refine J2 ?_;refine aD (cM (hs:=xH k bx bm x dn rs) (os:=xW x) (A0:=aL x.L) (hA:=bJ.of λ f hf=>.inr (.inl (hA f hf))) (hc:=λ w hs=>aAq hg _ n hn hm em ek ht (λ f hf=>hf) q ok hs)) (λ x101 h101=>?_);refine J5 ?_
          refine bA Tryz.results143 (λ w hw=>?_)
          first
          | exact⟨({Rs.zero with err:=refuse k},x,[]),rfl,⟨go.to (λ _=>if_pos c16),ok,by simp,Nat.le_refl _,(bH _)⟩,hw.aW (hF:=by exact aY.nil)⟩
          | exact⟨(x101.1,x101.2.1,x101.2.2),rfl,h101,by rw[List.append_nil] at hw;exact hw.v4⟩
         ·have g8:=g7.to (λ _=>if_neg c98)
          refine lK ?_
          refine bC (λ c102=>?_) (λ c102=>?_)
          ·have q:=g8.to (λ _=>if_pos c102)
           have ek:k.key.size<=64:=by rw[bL (by omega)] at e0;split at e0;assumption;cases e0
           refine J2 ?_;refine aD (cM (hs:=xH k bx bm x dn rs) (os:=xW x) (A0:=aL x.L) (hA:=bJ.of λ f hf=>.inr (.inl (hA f hf))) (hc:=λ w hs=>xo hg _ n hn hm em ek ht (λ f hf=>hf) q ok hs)) (λ x105 h105=>?_);refine J5 ?_
           refine bA Tryz.results143 (λ w hw=>?_)
           first
           | exact⟨({Rs.zero with err:=refuse k},x,[]),rfl,⟨go.to (λ _=>if_pos c16),ok,by simp,Nat.le_refl _,(bH _)⟩,hw.aW (hF:=by exact aY.nil)⟩
           | exact⟨(x105.1,x105.2.1,x105.2.2),rfl,h105,by rw[List.append_nil] at hw;exact hw.v4⟩
          ·have g9:=g8.to (λ _=>if_neg c102)
           refine aR ?_;refine lK ?_
           refine bC (λ c106=>?_) (λ c106=>?_)
           ·refine aV ?_
            refine bC (λ c106=>?_) (λ c106=>?_)
            ·refine J2 ?_;refine J3 ?_;refine kE ?_;refine aD (cM (hs:=xH k bx bm x dn rs) (os:=xW x) (hc:=λ w hs=>Fw hg (k.kind==11) _ n ht (g9.to (λ _=>Ue (B:=λ b=>sS k.t b .done n) (by omega))) ok hs)) (λ x113 h113=>?_);refine J5 ?_
             refine bA Tryz.results143 (λ w hw=>?_)
             first
             | exact⟨({Rs.zero with err:=refuse k},x,[]),rfl,⟨go.to (λ _=>if_pos c16),ok,by simp,Nat.le_refl _,(bH _)⟩,hw.aW (hF:=by exact aY.nil)⟩
             | exact⟨(x113.1,x113.2.1,x113.2.2),rfl,h113,by rw[List.append_nil] at hw;exact hw.v4⟩
            ·refine lK ?_
             refine bC (λ c114=>?_) (λ c114=>?_)
             ·have q:=(g9.to (λ _=>if_neg (by omega))).to (λ _=>if_neg (by omega))
              refine J2 ?_;refine aD (cM (hs:=xH k bx bm x dn rs) (os:=xW x) (hc:=λ w hs=>Um hg _ n ht q ok hs)) (λ x117 h117=>?_);refine J5 ?_
              refine bA Tryz.results143 (λ w hw=>?_)
              first
              | exact⟨({Rs.zero with err:=refuse k},x,[]),rfl,⟨go.to (λ _=>if_pos c16),ok,by simp,Nat.le_refl _,(bH _)⟩,hw.aW (hF:=by exact aY.nil)⟩
              | exact⟨(x117.1,x117.2.1,x117.2.2),rfl,h117,by rw[List.append_nil] at hw;exact hw.v4⟩
             ·exfalso;omega
           ·refine dH ?_;refine Qc ?_
            refine bC (λ c106=>?_) (λ c106=>?_)
            ·refine J2 ?_;refine J3 ?_;refine kE ?_;refine aD (cM (hs:=xH k bx bm x dn rs) (os:=xW x) (hc:=λ w hs=>Fw hg (k.kind==11) _ n ht (g9.to (λ _=>Ue (B:=λ b=>sS k.t b .done n) (by omega))) ok hs)) (λ x113 h113=>?_);refine J5 ?_
             refine bA Tryz.results143 (λ w hw=>?_)
             first
             | exact⟨({Rs.zero with err:=refuse k},x,[]),rfl,⟨go.to (λ _=>if_pos c16),ok,by simp,Nat.le_refl _,(bH _)⟩,hw.aW (hF:=by exact aY.nil)⟩
             | exact⟨(x113.1,x113.2.1,x113.2.2),rfl,h113,by rw[List.append_nil] at hw;exact hw.v4⟩
            ·refine lK ?_
             refine bC (λ c114=>?_) (λ c114=>?_)
             ·have q:=(g9.to (λ _=>if_neg (by omega))).to (λ _=>if_neg (by omega))
              refine J2 ?_;refine aD (cM (hs:=xH k bx bm x dn rs) (os:=xW x) (hc:=λ w hs=>Um hg _ n ht q ok hs)) (λ x117 h117=>?_);refine J5 ?_
              refine bA Tryz.results143 (λ w hw=>?_)
              first
              | exact⟨({Rs.zero with err:=refuse k},x,[]),rfl,⟨go.to (λ _=>if_pos c16),ok,by simp,Nat.le_refl _,(bH _)⟩,hw.aW (hF:=by exact aY.nil)⟩
              | exact⟨(x117.1,x117.2.1,x117.2.2),rfl,h117,by rw[List.append_nil] at hw;exact hw.v4⟩
             ·exfalso;omega
end
end

/- Executions of the reference: one repetition. -/
end Go.Proofs.YtbajmaoegmbfgaaGreat
namespace Go.Ct
section
open Go Go.RowKit
theorem l7{L:List Nv}{r:Rs}{gs ms cl gn:List Int}{R:Tr}(h:Wk L (.done r) gs ms cl gn R):gs=[]/\ms=[]/\cl=[]/\gn=[]/\R=.done r:=by
 cases h
 exact⟨rfl,rfl,rfl,rfl,rfl⟩
def XS.re(x:XS)(free:Nat):XS:={x with a:=0,m:=0,c:=0,g:=0,fr:=free,st:=false}
theorem aA2{T R:Tr}{x:XS}{free N:Nat}(hw:Wk x.nodes T x.got x.made x.cel x.gns R)(hN:x.got.length+free=N):fN ⟨T,R,x.mm,free,N⟩ (x.re free) T:=.inl ⟨rfl,R,⟨Wk.nil _,hw,by show Rc (free-free) R x.mm R x.mm;rw[Nat.sub_self];exact Rc.refl _ _,Nat.le_refl _,Nat.zero_le _,Nat.zero_le _,Nat.zero_le _,Nat.zero_le _,hN⟩⟩
structure Ak(T R:Tr)(free N:Nat)(rs:Rs)(x x':XS)(N':List aU)(dn':Bool)(rs':Rs):Prop where
 ok:x'.Ok
 ext:x'.L=x.L++N'
 lc:x.cs.length<=x'.cs.length
 gl:x'.got.length<=N
 X2:(dn'=true/\∃j,j<=free/\x'.got.length+free=N+j/\Wk x'.nodes T x'.got x'.made x'.cel x'.gns (.done rs')/\Rc j R x.mm (.done rs') x'.mm)∨(dn'=false/\rs'=rs/\x'.got.length=N/\∃R',R'.acc=some x'.nx/\Wk x'.nodes T x'.got x'.made x'.cel x'.gns R'/\Rc free R x.mm R' x'.mm)
theorem Nx.s4{T R:Tr}{free N:Nat}{rs r:Rs}{x x':XS}{N':List aU}(h:Nx ⟨T,R,x.mm,free,N⟩ (x.re free) x' N' (.done r) 0)(hs:x'.st=false):Ak T R free N rs x x' N' true r:=by
 obtain⟨R',hR⟩:=h.go.run hs
 obtain⟨e1,e2,e3,e4,e5⟩:=l7 hR.suf
 refine⟨h.ok,h.ext,h.lc,(by have:=hR.hN;show x'.got.length<=N;simp only at this;omega),.inl ⟨rfl,free-x'.fr,Nat.sub_le _ _,(by have:=hR.hN;have:=hR.hf;simp only at *;omega),?_,e5▸hR.rc⟩⟩
 have hp:=hR.pre
 rwa [List.take_of_length_le (List.drop_eq_nil_iff.1 e1),List.take_of_length_le (List.drop_eq_nil_iff.1 e2),List.take_of_length_le (List.drop_eq_nil_iff.1 e3),List.take_of_length_le (List.drop_eq_nil_iff.1 e4)] at hp
theorem Nx.uj{T R:Tr}{free N:Nat}{rs r:Rs}{x x':XS}{N':List aU}(h:Nx ⟨T,R,x.mm,free,N⟩ (x.re free) x' N' (.done r) 0)(hs:x'.st=true):Ak T R free N rs x x' N' false rs:=by
 rcases h.go with h1|h1
 ·rw[hs] at h1;exact nomatch h1.1
 ·obtain⟨R',hR⟩:=h1.2
  exact⟨h.ok,h.ext,h.lc,Nat.le_of_eq hR.hN,.inr ⟨rfl,rfl,hR.hN,R',hR.ac,hR.wk,hR.rc⟩⟩
end
end Go.Ct
namespace Go.Proofs.YtbajmaoegmbfgaaGreat
section
open Go Go.RowKit Go.Ct
section
variable{k:Cl}{bx bm:Nat}{x:XS}{rs:Rs}{D:List Nat}{A:Fr}{w:World}
theorem Pm{m n N:Nat}{R:Tr}(free:Nat)(hg:Gx.Ok ⟨kM k (mC k.key m) n,R,x.mm,free,N⟩)(hwk:Wk x.nodes (kM k (mC k.key m) n) x.got x.made x.cel x.gns R)(hN:x.got.length+free=N)(hk:jf k)(hn:n<=1073741824)(hm:m<18446744073709551616)(em:k.mask=(m:Int))(ht:k.t.root<=9223372036854775807)(ha:k.a<=x.L.length)(hb:k.b<=x.L.length)(hnn:k.n<=x.L.length)(hA:∀f∈aL x.L,f∈A)(ok:x.Ok)(hs:SF w D (xH k bx bm x false rs) A [] (xW x) w):Calls Tryz.prog 99 #[.pointer (some ⟨bx,0,none⟩),.int .i64 (free:Int)] w λ e w'=>∃q:XS×List aU×Bool×Rs,e=.returned (.tuple #[])/\Ak (kM k (mC k.key m) n) R free N rs x q.1 q.2.1 q.2.2.1 q.2.2.2/\SF w D (xH k bx bm q.1 q.2.2.1 q.2.2.2) [] (aL q.2.1) (xW q.1) w':=by
 have hfr:=hg.hf
 have ok0:(x.re free).Ok:=ok.uw rfl rfl rfl rfl rfl rfl (Nat.zero_le _) (Nat.zero_le _) (Nat.zero_le _) (Nat.zero_le _) hfr
 refine enter Tryz.func99 Tryz.ntmps99 rfl rfl (cB hs) ?_
 simp only[cD]
 refine iX ?_;refine pQ ?_;refine pQ ?_;refine aA ?_;refine I7 ?_;refine cI (by exact gS λ _=>eR rf cX wn rf gN rf rf jV) (λ _=>?_);refine I7 ?_;refine cI (by exact gS λ _=>eR rf cX wn rf gN rf rf jV) (λ _=>?_);refine I7 ?_;refine cI (by exact gS λ _=>eR rf cX wn rf gN rf rf jV) (λ _=>?_);refine I7 ?_;refine cI (by exact gS λ _=>eR rf cX wn rf gN rf rf jV) (λ _=>?_);refine I7 ?_;refine cI (by exact gS λ _=>eR rf cX wn rf gN rf rf jV) (λ _=>?_);refine I7 ?_;refine cI (by exact gS λ _=>eR rf cX wn rf gN rf rf jV) (λ _=>?_);refine aG ?_;refine J2 ?_;refine aD (cM (hs:=xH k bx bm (x.re free) false rs) (os:=xW (x.re free)) (A0:=aL x.L) (hA:=bJ.of λ f hf=>.inr (.inl (hA f hf))) (hc:=λ w hs=>aBb hg (x:=x.re free) n hk hn hm em ht ha hb hnn (λ f hf=>hf) (aA2 hwk hN) ok0 hs)) (λ x25 h25=>?_);refine aJ (λ x4=>?_);refine cI (by exact(gS λ _=>bE rf cX rf rf eH rf jV)) (λ _=>?_);refine aG ?_;refine lD ?_;refine pD ?_
 refine bC (λ c30=>?_) (λ c30=>?_)
 ·refine eM [(0,[]),(1,[]),(2,[]),(3,[]),(4,[]),(5,[2]),(6,[]),(7,[]),(8,[])] ?_;refine gU ?_;refine bY ?_;refine J4 ?_;refine kZ (i:=5) (hq:=(by exact gS λ _=>eR rf cX wn rf gN rf rf jV)) (h:=λ _=>?_);refine J4 ?_;refine kZ (i:=8) (hq:=(gS λ _=>lE (off:=41) (vs:=x25.1.cells) rf cX rf rfl eH (Nat.le_of_ble_eq_true rfl) rf jV)) (h:=λ _=>?_);refine eK ?_
  refine Bl Tryz.results99 (λ w hw=>?_)
  first
  | exact⟨(x25.2.1,x25.2.2,true,x25.1),rfl,h25.s4 (by simpa using c30),by rw[List.append_nil] at hw;exact hw.v4⟩
  | exact⟨(x25.2.1,x25.2.2,false,rs),rfl,h25.uj (by simpa using c30),by rw[List.append_nil] at hw;exact hw.v4⟩
 ·refine aV ?_
  refine Bl Tryz.results99 (λ w hw=>?_)
  first
  | exact⟨(x25.2.1,x25.2.2,true,x25.1),rfl,h25.s4 (by simpa using c30),by rw[List.append_nil] at hw;exact hw.v4⟩
  | exact⟨(x25.2.1,x25.2.2,false,rs),rfl,h25.uj (by simpa using c30),by rw[List.append_nil] at hw;exact hw.v4⟩
end
end

/- Executions of the reference: steps. -/
end Go.Proofs.YtbajmaoegmbfgaaGreat
namespace Go.Ct
section
open Go Go.RowKit
theorem Nr{R:Tr}{a:Ac}(h:R.acc=some a){n c:Nat}(ht:bR R n c)(hn:1<=n):bR R n 64:=by
 cases R<;>simp only[Tr.acc,reduceCtorEq] at h
 ·cases n with
  | zero=>omega
  | succ n=>simpa only[bR] using ht
 ·cases n with
  | zero=>omega
  | succ n=>simpa only[bR] using ht
structure oc(T:Tr)(x:XS)(dn:Bool)(rs:Rs)(R:Tr):Prop where
 ok:x.Ok
 wk:Wk x.nodes T x.got x.made x.cel x.gns R
 X2:(dn=true/\R=.done rs)∨(dn=false/\R.acc=some x.nx)
theorem Ak.exI{T R:Tr}{free N:Nat}{rs rs':Rs}{x x':XS}{N':List aU}{dn':Bool}(h:Ak T R free N rs x x' N' dn' rs'):∃R' j,j<=free/\(dn'=false->j=free)/\oc T x' dn' rs' R'/\Rc j R x.mm R' x'.mm/\x'.L=x.L++N'/\x.cs.length<=x'.cs.length:=by
 rcases h.X2 with⟨e,j,h1,_,h2,h3⟩|⟨e,_,_,R',h1,h2,h3⟩
 ·exact⟨_,j,h1,(λ h=>by rw[e] at h;cases h),⟨h.ok,h2,.inl ⟨e,rfl⟩⟩,h3,h.ext,h.lc⟩
 ·exact⟨R',free,Nat.le_refl _,λ _=>rfl,⟨h.ok,h2,.inr ⟨e,h1⟩⟩,h3,h.ext,h.lc⟩
end
end Go.Ct
namespace Go.Proofs.YtbajmaoegmbfgaaGreat
section
open Go Go.RowKit Go.Ct
section
variable{k:Cl}{bx bm:Nat}{x:XS}{dn:Bool}{rs:Rs}{D:List Nat}{A:Fr}{w:World}
theorem Sl(hs:SF w D (xH k bx bm x dn rs) A [] (xW x) w):Calls Tryz.prog 69 #[.pointer (some ⟨bx,0,none⟩)] w λ e w'=>∃q:Unit,e=.returned (.bool dn)/\True/\SF w D (xH k bx bm x dn rs) [] [] (xW x) w':=by
 refine enter Tryz.func69 Tryz.ntmps69 rfl rfl (cB hs) ?_
 simp only[cD]
 refine cU ?_;refine lD ?_;refine J1 ?_
 refine aN Tryz.results69 (λ w hw=>?_)
 exact⟨(),rfl,trivial,hw.aW⟩
theorem j3(hs:SF w D (xH k bx bm x dn rs) A [] (xW x) w):Calls Tryz.prog 135 #[.pointer (some ⟨bx,0,none⟩)] w λ e w'=>∃q:Unit,e=.returned (.agg ⟨rs.cells⟩)/\True/\SF w D (xH k bx bm x dn rs) [] [] (xW x) w':=by
 refine enter Tryz.func135 Tryz.ntmps135 rfl rfl (cB hs) ?_
 simp only[cD]
 refine J0 ?_;refine aJ (λ x2=>?_);refine aG ?_;refine Hw ?_;refine aB (aP (k:=8) (vs:=rs.cells) rf cX eH rfl rfl) rfl ?_;refine J5 ?_
 refine bA Tryz.results135 (λ w hw=>?_)
 exact⟨(),rfl,trivial,hw.aW⟩
theorem ft{m n N:Nat}{R:Tr}(hT:bR (kM k (mC k.key m) n) N 64)(hN:N<=1073741824)(hgN:x.got.length+1=N)(hsz:x.L.length<=137438953472/\x.cs.length<=137438953472/\x.gen<=137438953472)(hi:oc (kM k (mC k.key m) n) x dn rs R)(hk:jf k)(hn:n<=1073741824)(hm:m<18446744073709551616)(em:k.mask=(m:Int))(ht:k.t.root<=9223372036854775807)(ha:k.a<=x.L.length)(hb:k.b<=x.L.length)(hnn:k.n<=x.L.length)(hA:∀f∈aL x.L,f∈A)(hs:SF w D (xH k bx bm x dn rs) A [] (xW x) w):Calls Tryz.prog 68 #[.pointer (some ⟨bx,0,none⟩)] w λ e w'=>∃q:XS×List aU×Bool×Rs,e=.returned (.tuple #[])/\((dn=true/\q=(x,[],true,rs))∨(dn=false/\Ak (kM k (mC k.key m) n) R 1 N rs x q.1 q.2.1 q.2.2.1 q.2.2.2))/\SF w D (xH k bx bm q.1 q.2.2.1 q.2.2.2) [] (aL q.2.1) (xW q.1) w':=by
 have hg:dn=false->Gx.Ok ⟨kM k (mC k.key m) n,R,x.mm,1,N⟩:=λ e=>by
  rcases hi.X2 with⟨e2,_⟩|⟨_,e2⟩
  ·rw[e] at e2;cases e2
  ·obtain⟨c,h1,_,_⟩:=hi.wk.vH (Nat.le_refl 64) hT (by omega)
   refine⟨hT,⟨N-x.got.length,by show 1<=N-x.got.length;omega,Nr e2 h1 (by omega)⟩,hN,Nat.le_refl 1,?_⟩
   show(x.L.map aU.c).length<=_/\_
   rw[List.length_map]
   exact hsz
 refine enter Tryz.func68 Tryz.ntmps68 rfl rfl (cB hs) ?_
 simp only[cD]
 refine lD ?_;refine pD ?_
 refine bC (λ c6=>?_) (λ c6=>?_)
 ·have ed:dn=false:=by simpa using c6
  subst ed
  refine yD ?_;refine aD (cM (hs:=xH k bx bm x false rs) (os:=xW x) (A0:=aL x.L) (hA:=bJ.of λ f hf=>.inr (.inl (hA f hf))) (hc:=λ w hs=>Pm (N:=N) (n:=n) (m:=m) 1 (hg rfl) hi.wk hgN hk hn hm em ht ha hb hnn (λ f hf=>hf) hi.ok hs)) (λ x8 h8=>?_);refine aG ?_
  refine Bl Tryz.results68 (λ w hw=>?_)
  first
  | exact⟨x8,rfl,.inr ⟨rfl,h8⟩,by rw[List.append_nil] at hw;exact hw.v4⟩
  | exact⟨(x,[],true,rs),rfl,.inl ⟨by simpa using c6,rfl⟩,by rw[show dn=true from by simpa using c6] at hw;exact hw.aW (hF:=by exact aY.nil)⟩
 ·refine aV ?_
  refine Bl Tryz.results68 (λ w hw=>?_)
  first
  | exact⟨(x,[],true,rs),rfl,.inl ⟨by simpa using c6,rfl⟩,by rw[show dn=true from by simpa using c6] at hw;exact hw.aW (hF:=by exact aY.nil)⟩
end
end

/- Executions of the reference: the start. -/
end Go.Proofs.YtbajmaoegmbfgaaGreat
namespace Go.Ct
section
open Go Go.RowKit
def XS.new(L:List aU)(cs:List Int)(gen acc:Int)(pn:Option Addr)(cn:Nat)(pc:Option Addr)(cc:Nat):XS:=⟨L,cs,gen,acc,pn,cn,pc,cc,[],[],[],[],none,0,none,0,none,0,none,0,0,0,0,0,0,false,Ac.zero⟩
end
end Go.Ct
namespace Go.Proofs.YtbajmaoegmbfgaaGreat
section
open Go Go.RowKit Go.Ct
section
variable{k:Cl}{bm:Nat}{L:List aU}{cs:List Int}{gen acc:Int}{pn pc:Option Addr}{cn cc:Nat}{D:List Nat}{A:Fr}{w:World}
theorem qe{m n N:Nat}(hT:bR (kM k (mC k.key m) n) N 64)(hN:N<=1073741824)(hsz:L.length<=137438953472/\cs.length<=137438953472/\gen<=137438953472)(hk:jf k)(hn:n<=1073741824)(hm:m<18446744073709551616)(em:k.mask=(m:Int))(ht:k.t.root<=9223372036854775807)(ha:k.a<=L.length)(hb:k.b<=L.length)(hnn:k.n<=L.length)(hA:∀f∈aL L,f∈A)(ok:(XS.new L cs gen acc pn cn pc cc).Ok)(hs:SF w D [(bm,mO L cs gen acc pn cn pc cc)] A [] [⟨pn,iR L,cn,47,14⟩,⟨pc,aH cs,cc,37,1⟩] w)(hN0:N=0:=by rfl):Calls Tryz.prog 49 #[.pointer (some ⟨bm,0,none⟩),.agg ⟨P7 k⟩] w λ e w'=>∃q:Nat×XS×List aU×Bool×Rs,e=.returned (.pointer (some ⟨q.1,0,none⟩))/\Ak (kM k (mC k.key m) n) (kM k (mC k.key m) n) 0 N Rs.zero (XS.new L cs gen acc pn cn pc cc) q.2.1 q.2.2.1 q.2.2.2.1 q.2.2.2.2/\SF w D (xH k q.1 bm q.2.1 q.2.2.2.1 q.2.2.2.2) [] (aL q.2.2.1) (xW q.2.1) w':=by
 have hg:Gx.Ok ⟨kM k (mC k.key m) n,kM k (mC k.key m) n,(XS.new L cs gen acc pn cn pc cc).mm,0,N⟩:=⟨hT,⟨N,Nat.zero_le _,hT⟩,hN,Nat.zero_le _,by
  show(L.map aU.c).length<=_/\_
  rw[List.length_map]
  exact hsz⟩
 refine enter Tryz.func49 Tryz.ntmps49 rfl rfl ((((hs.kV 3 1).kV 27 1).kV 37 1).kV 37 1) ?_
 simp only[cD]
 refine J0 ?_;refine bO (λ x3=>?_);refine Ka4 ?_;refine aB (aP (k:=25) (vs:=P7 k) rf cX eH rfl rfl) rfl ?_;refine bM ?_;refine bO (λ x9=>?_);refine Ka4 ?_;refine aD (cM (hs:=xH k x9 bm (XS.new L cs gen acc pn cn pc cc) false Rs.zero) (os:=xW (XS.new L cs gen acc pn cn pc cc)) (A0:=aL L) (hA:=bJ.of λ f hf=>.inr (.inl (hA f hf))) (hc:=λ w hs=>Pm (N:=N) (n:=n) (m:=m) 0 hg (Wk.nil _) hN0.symm hk hn hm em ht ha hb hnn (λ f hf=>hf) ok hs)) (λ x11 h11=>?_);refine aG ?_;refine Ka5 ?_
 refine aN Tryz.results49 (λ w hw=>?_)
 exact⟨(x9,x11.1,x11.2.1,x11.2.2.1,x11.2.2.2),rfl,h11,by rw[List.append_nil] at hw;exact hw.v4⟩
end
end

/- The trees are never stuck within as many accesses as they have fuel: single procedures. -/
section
open Go Go.RowKit Go.Ct
theorem wh:∀{t:Tr} {n c c':Nat},c<=c'->bR t n c->bR t n c':=by
 intro t
 induction t with
 | done r=>intros;simp[bR]
 | stuck=>intro n c c' _ h;simp[bR] at h
 | load r k ih =>
  intro n c c' _ h
  cases n with
  | zero=>simp[bR]
  | succ n=>simpa only[bR] using h
 | iS r o m k ih =>
  intro n c c' _ h
  cases n with
  | zero=>simp[bR]
  | succ n=>simpa only[bR] using h
 | alloc r o k ih =>
  intro n c c' hc h
  cases c with
  | zero=>simp[bR] at h
  | succ c =>
   cases c' with
   | zero=>omega
   | succ c'=>simp only[bR] at h ⊢;exact λ v=>ih v (by omega) (h v)
 | cell r k ih =>
  intro n c c' hc h
  cases c with
  | zero=>simp[bR] at h
  | succ c =>
   cases c' with
   | zero=>omega
   | succ c'=>simp only[bR] at h ⊢;exact λ v=>ih v (by omega) (h v)
 | gen k ih =>
  intro n c c' hc h
  cases c with
  | zero=>simp[bR] at h
  | succ c =>
   cases c' with
   | zero=>omega
   | succ c'=>simp only[bR] at h ⊢;exact λ v=>ih v (by omega) (h v)
 | node r k ih =>
  intro n c c' hc h
  cases c<;>cases c'<;>simp only[bR] at h ⊢ <;> exact λ v=>ih v (by omega) (h v)
section
variable{n c:Nat}
theorem pF{a:Int}{k:Int->Tr}(h:∀n',n'<n->∀v,bR (k v) n' 64):bR (.load a k) n c:=by
 cases n with
 | zero=>simp[bR]
 | succ n=>simp only[bR];exact h n (Nat.lt_succ_self n)
theorem Co{a o m:Int}{k:Bool->Tr}(h:∀n',n'<n->∀v,bR (k v) n' 64):bR (.iS a o m k) n c:=by
 cases n with
 | zero=>simp[bR]
 | succ n=>simp only[bR];exact h n (Nat.lt_succ_self n)
theorem Km{a:Nv}{i:Int}{k:Int->Tr}(h:∀v,bR (k v) n c):bR (.alloc a i k) n (c+1):=by simp only[bR];exact h
theorem vj{i:Int}{k:Int->Tr}(h:∀v,bR (k v) n c):bR (.cell i k) n (c+1):=by simp only[bR];exact h
theorem aBk{k:Int->Tr}(h:∀v,bR (k v) n c):bR (.gen k) n (c+1):=by simp only[bR];exact h
theorem cO{r:Int}{k:Nv->Tr}(h:∀v,bR (k v) n c):bR (.node r k) n c:=by
 cases c<;>simp only[bR]<;>exact h
abbrev H0{X:Type}(K:X->Tr)(n:Nat):Prop:=∀n',n'<n->∀v,bR (K v) n' 64
theorem H0.lt{X:Type}{K:X->Tr}{m:Nat}(h:H0 K n)(hm:m<=n):H0 K m:=λ n' h' v=>h n' (by omega) v
theorem j7{v s:Int}{K:Int->Tr}(h:∀w,bR (K w) n c):bR (xd v s K) n c:=cO λ _=>h _
theorem vZ{t:dM}{v s:Int}{K:Int->Tr}(h:H0 K n):bR (oD t v s K) n c:=j7 λ _=>Co λ n' hn _=>h n' hn _
theorem Xg{t:dM}{K:Int->Tr}(h:H0 K n):bR (Ei t K) n c:=pF λ n1 h1 v=>cO λ nv=>by
 split
 ·exact h n1 h1 v
 ·exact cO λ _=>pF λ n2 h2 s=>by
   split
   ·exact cO λ _=>Co λ n3 h3 _=>cO λ _=>pF λ n4 h4 _=>vZ (h.lt (by omega))
   ·exact vZ (h.lt (by omega))
theorem Oo{i m p:Int}{K:Int->Tr}(h:H0 K n):bR (Li i m p K) n c:=cO λ _=>cO λ _=>Co λ n' hn _=>cO λ _=>h n' hn _
theorem zN{i m:Int}{K:Int->Tr}(h:H0 K n):bR (jQ i m K) n c:=cO λ _=>pF λ n1 h1 p=>by
 split
 ·exact h n1 h1 _
 ·exact Oo (h.lt (by omega))
theorem Is{i m p:Int}{b:Bool}{K:Int->Tr}(h:H0 K n)(hc:1<=c):bR (oG i m p b K) n c:=by
 unfold oG
 split
 ·exact cO λ _=>Co λ n1 h1 _=>zN (h.lt (by omega))
 ·obtain⟨c,rfl⟩:∃d,c=d+1:=⟨c-1,by omega⟩
  exact cO λ _=>Km λ _=>Co λ n1 h1 _=>zN (h.lt (by omega))
theorem Cu{t:dM}{i m:Int}{K:Int->Tr}(h:H0 K n):bR (oN t i m K) n c:=cO λ _=>pF λ n1 h1 p=>by
 split
 ·exact h n1 h1 _
 ·refine cO λ _=>?_
  split
  ·split
   ·exact Is (h.lt (by omega)) (by decide)
   ·exact Xg λ n2 h2 _=>cO λ _=>cO λ _=>Is (h.lt (by omega)) (by decide)
  ·exact Oo (h.lt (by omega))
theorem gG{t:dM}{i:Int}{K:Int->Tr}(h:H0 K n):bR (lG t i K) n c:=cO λ _=>pF λ n1 h1 _=>Cu (h.lt (by omega))
theorem Ci{t:dM}{v:Int}{K:Tr}(h:∀n',n'<n->bR K n' 64):bR (oK t v K) n c:=cO λ _=>gG λ n1 h1 _=>cO λ _=>cO λ _=>Co λ n2 h2 _=>h n2 (by omega)
theorem oU{t:dM}{K:Int->Tr}(h:H0 K n):bR (tY t K) n c:=pF λ n1 h1 v=>cO λ nv=>by
 split
 ·exact h n1 h1 v
 ·exact cO λ _=>pF λ n2 h2 s=>by
   split
   ·exact Ci λ n3 h3=>cO λ _=>pF λ n4 h4 _=>vZ (h.lt (by omega))
   ·exact vZ (h.lt (by omega))
theorem jZ{t:dM}{i o m:Int}{K:Bool->Tr}(h:H0 K n):bR (nG t i o m K) n c:=cO λ _=>Co λ n1 h1 b=>by
 split
 ·exact Cu λ n2 h2 _=>h n2 (by omega) _
 ·exact h n1 h1 _
theorem yW{t:dM}{o e m:Int}{K:Bool->Tr}(h:H0 K n)(hc:1<=c):bR (jB t o e m K) n c:=by
 obtain⟨c,rfl⟩:∃d,c=d+1:=⟨c-1,by omega⟩
 exact Km λ _=>Co λ n1 h1 b=>by
  split
  ·exact Ci λ n2 h2=>cO λ _=>pF λ n3 h3 _=>vZ λ n4 h4 _=>h n4 (by omega) _
  ·exact h n1 h1 _
end
end

end Go.Proofs.YtbajmaoegmbfgaaGreat
