/- Executions of the reference: a call. -/
import Derived.Test.YtbajmaoegmbfgaaGreatGEx20
set_option linter.unusedSimpArgs false
set_option linter.unusedVariables false
namespace Go.Proofs.YtbajmaoegmbfgaaGreat
open Go Go.RowKit Go.Ct
abbrev Q3(k:Cl):List Value:=[.int .i64 k.kind,.int .i64 k.t.root,.bool k.t.ro,.int .i64 k.a,.int .i64 k.b,.int .i64 k.n,.int .i64 k.index,.int .u64 k.hash,.int .u64 k.mask,.string k.key,.int .u64 k.val,.int .u64 k.exp,.int .i64 k.Io,.bool k.only,.bool false,.slice none 0 0,.slice none 0 0,.int .i64 0,.bool false,.int .u64 0,.string ⟨#[]⟩,.int .i64 0,.int .i64 0,.int .i64 0,.bool false]
def Yt(k:Cl):Prop:=(1<=k.kind/\k.kind<=4)∨(7<=k.kind/\k.kind<=12)
theorem bK{k:Cl}(h:k.kind=7∨k.kind=9):refuse k=if k.key.size<=64 then 0 else 1:=if_pos h
theorem bW{k:Cl}(h:k.kind=8):refuse k=if k.key.size<=64/\0<=k.Io/\k.Io<=3 then 0 else 1:=(if_neg (by omega)).trans (if_pos h)
theorem eL{k:Cl}(h:k.kind<7∨9<k.kind):refuse k=0:=(if_neg (by omega)).trans (if_neg (by omega))
theorem Ym{k:Cl}(hk:Yt k)(w:World):Calls Tryz.prog 175 #[.agg ⟨Q3 k⟩] w λ e w'=>e=.returned (.int .i64 (refuse k))/\St w [] [] w':=by
 have hk2:=hk
 unfold Yt at hk2
 refine enter Tryz.func175 Tryz.ntmps175 rfl rfl (SF.s0 w) ?_
 simp only[bY]
 refine J0 ?_;refine bO (λ x1=>?_);refine iZ ?_;refine gZ ?_;refine aH ?_;refine cI ?_;refine aV ?_;refine lF ?_
 refine bE (λ c5=>?_) (λ c5=>?_)
 ·refine bB ?_
  refine bE (λ c5=>?_) (λ c5=>?_)
  ·refine gZ ?_;refine aR (cV (hc:=λ w1 hw=>nJ _ w1)) (λ x10=>?_);refine oX ?_
   refine bE (λ c11=>?_) (λ c11=>?_)
   ·refine cR ?_
    refine aT Tryz.results175 (λ w hw=>?_)
    first
    | (rw[bK (by omega),if_neg (by simp_all)];exact⟨rfl,hw.done⟩)
    | (rw[bK (by omega),if_pos (by simp_all)];exact⟨rfl,hw.done⟩)
    | (rw[bW (by omega),if_neg (by rintro ⟨h1,h2,h3⟩;first|omega|simp_all)];exact⟨rfl,hw.done⟩)
    | (rw[bW (by omega),if_pos ⟨by simp_all,by omega,by omega⟩];exact⟨rfl,hw.done⟩)
    | (rw[eL (by omega)];exact⟨rfl,hw.done⟩)
    | (exfalso;omega)
   ·refine oB ?_;refine cR ?_
    refine aT Tryz.results175 (λ w hw=>?_)
    first
    | (rw[bK (by omega),if_neg (by simp_all)];exact⟨rfl,hw.done⟩)
    | (rw[bK (by omega),if_pos (by simp_all)];exact⟨rfl,hw.done⟩)
    | (rw[bW (by omega),if_neg (by rintro ⟨h1,h2,h3⟩;first|omega|simp_all)];exact⟨rfl,hw.done⟩)
    | (rw[bW (by omega),if_pos ⟨by simp_all,by omega,by omega⟩];exact⟨rfl,hw.done⟩)
    | (rw[eL (by omega)];exact⟨rfl,hw.done⟩)
    | (exfalso;omega)
  ·refine lF ?_
   refine bE (λ c12=>?_) (λ c12=>?_)
   ·refine gZ ?_;refine aR (cV (hc:=λ w1 hw=>nJ _ w1)) (λ x16=>?_);refine En ?_
    (refine eM 18 (λ g18=>?_) (λ g18=>?_)<;>(first|refine aJ ?_|(refine aF ?_;refine aE ?_)))
    all_goals (refine J89 ?_;refine aA ?_)
    all_goals (first|refine aJ ?_|(refine eM 23 (λ g23=>?_) (λ g23=>?_)<;>(first|refine aJ ?_|(refine aF ?_;refine aE ?_))))
    all_goals ((first|refine aJ ?_|(refine aF ?_;refine bR ?_));refine Iw ?_;refine aH ?_)
    all_goals
    refine bE (λ c27=>?_) (λ c27=>?_)
    ·all_goals refine cR ?_
     all_goals
      refine aT Tryz.results175 (λ w hw=>?_)
      first
      | (rw[bK (by omega),if_neg (by simp_all)];exact⟨rfl,hw.done⟩)
      | (rw[bK (by omega),if_pos (by simp_all)];exact⟨rfl,hw.done⟩)
      | (rw[bW (by omega),if_neg (by rintro ⟨h1,h2,h3⟩;first|omega|simp_all)];exact⟨rfl,hw.done⟩)
      | (rw[bW (by omega),if_pos ⟨by simp_all,by omega,by omega⟩];exact⟨rfl,hw.done⟩)
      | (rw[eL (by omega)];exact⟨rfl,hw.done⟩)
      | (exfalso;omega)
    ·try exact nv c27
     all_goals (refine oB ?_;refine cR ?_)
     all_goals
      refine aT Tryz.results175 (λ w hw=>?_)
      first
      | (rw[bK (by omega),if_neg (by simp_all)];exact⟨rfl,hw.done⟩)
      | (rw[bK (by omega),if_pos (by simp_all)];exact⟨rfl,hw.done⟩)
      | (rw[bW (by omega),if_neg (by rintro ⟨h1,h2,h3⟩;first|omega|simp_all)];exact⟨rfl,hw.done⟩)
      | (rw[bW (by omega),if_pos ⟨by simp_all,by omega,by omega⟩];exact⟨rfl,hw.done⟩)
      | (rw[eL (by omega)];exact⟨rfl,hw.done⟩)
      | (exfalso;omega)
   ·refine aV ?_;refine lF ?_
    refine bE (λ c28=>?_) (λ c28=>?_)
    ·refine bB ?_
     refine bE (λ c28=>?_) (λ c28=>?_)
     ·refine J0 ?_;refine aE ?_;refine J3 ?_;refine oX ?_
      refine bE (λ c34=>?_) (λ c34=>?_)
      ·refine cR ?_
       refine aT Tryz.results175 (λ w hw=>?_)
       first
       | (rw[bK (by omega),if_neg (by simp_all)];exact⟨rfl,hw.done⟩)
       | (rw[bK (by omega),if_pos (by simp_all)];exact⟨rfl,hw.done⟩)
       | (rw[bW (by omega),if_neg (by rintro ⟨h1,h2,h3⟩;omega)];exact⟨rfl,hw.done⟩)
       | (rw[bW (by omega),if_pos ⟨by simp_all,by omega,by omega⟩];exact⟨rfl,hw.done⟩)
       | (rw[eL (by omega)];exact⟨rfl,hw.done⟩)
       | (exfalso;omega)
      ·refine oB ?_;refine cR ?_
       refine aT Tryz.results175 (λ w hw=>?_)
       first
       | (rw[bK (by omega),if_neg (by simp_all)];exact⟨rfl,hw.done⟩)
       | (rw[bK (by omega),if_pos (by simp_all)];exact⟨rfl,hw.done⟩)
       | (rw[bW (by omega),if_neg (by rintro ⟨h1,h2,h3⟩;first|omega|simp_all)];exact⟨rfl,hw.done⟩)
       | (rw[bW (by omega),if_pos ⟨by simp_all,by omega,by omega⟩];exact⟨rfl,hw.done⟩)
       | (rw[eL (by omega)];exact⟨rfl,hw.done⟩)
       | (exfalso;omega)
     ·refine oB ?_;refine cR ?_
      refine aT Tryz.results175 (λ w hw=>?_)
      first
      | (rw[bK (by omega),if_neg (by simp_all)];exact⟨rfl,hw.done⟩)
      | (rw[bK (by omega),if_pos (by simp_all)];exact⟨rfl,hw.done⟩)
      | (rw[bW (by omega),if_neg (by rintro ⟨h1,h2,h3⟩;first|omega|simp_all)];exact⟨rfl,hw.done⟩)
      | (rw[bW (by omega),if_pos ⟨by simp_all,by omega,by omega⟩];exact⟨rfl,hw.done⟩)
      | (rw[eL (by omega)];exact⟨rfl,hw.done⟩)
      | (exfalso;omega)
    ·refine dW ?_;refine Wb ?_
     refine bE (λ c28=>?_) (λ c28=>?_)
     ·refine J0 ?_;refine aE ?_;refine J3 ?_;refine oX ?_
      refine bE (λ c34=>?_) (λ c34=>?_)
      ·refine cR ?_
       refine aT Tryz.results175 (λ w hw=>?_)
       first
       | (rw[bK (by omega),if_neg (by simp_all)];exact⟨rfl,hw.done⟩)
       | (rw[bK (by omega),if_pos (by simp_all)];exact⟨rfl,hw.done⟩)
       | (rw[bW (by omega),if_neg (by rintro ⟨h1,h2,h3⟩;omega)];exact⟨rfl,hw.done⟩)
       | (rw[bW (by omega),if_pos ⟨by simp_all,by omega,by omega⟩];exact⟨rfl,hw.done⟩)
       | (rw[eL (by omega)];exact⟨rfl,hw.done⟩)
       | (exfalso;omega)
      ·refine oB ?_;refine cR ?_
       refine aT Tryz.results175 (λ w hw=>?_)
       first
       | (rw[bK (by omega),if_neg (by simp_all)];exact⟨rfl,hw.done⟩)
       | (rw[bK (by omega),if_pos (by simp_all)];exact⟨rfl,hw.done⟩)
       | (rw[bW (by omega),if_neg (by rintro ⟨h1,h2,h3⟩;first|omega|simp_all)];exact⟨rfl,hw.done⟩)
       | (rw[bW (by omega),if_pos ⟨by simp_all,by omega,by omega⟩];exact⟨rfl,hw.done⟩)
       | (rw[eL (by omega)];exact⟨rfl,hw.done⟩)
       | (exfalso;omega)
     ·refine oB ?_;refine cR ?_
      refine aT Tryz.results175 (λ w hw=>?_)
      first
      | (rw[bK (by omega),if_neg (by simp_all)];exact⟨rfl,hw.done⟩)
      | (rw[bK (by omega),if_pos (by simp_all)];exact⟨rfl,hw.done⟩)
      | (rw[bW (by omega),if_neg (by rintro ⟨h1,h2,h3⟩;first|omega|simp_all)];exact⟨rfl,hw.done⟩)
      | (rw[bW (by omega),if_pos ⟨by simp_all,by omega,by omega⟩];exact⟨rfl,hw.done⟩)
      | (rw[eL (by omega)];exact⟨rfl,hw.done⟩)
      | (exfalso;omega)
 ·refine dW ?_;refine Wb ?_
  refine bE (λ c5=>?_) (λ c5=>?_)
  ·refine gZ ?_;refine aR (cV (hc:=λ w1 hw=>nJ _ w1)) (λ x10=>?_);refine oX ?_
   refine bE (λ c11=>?_) (λ c11=>?_)
   ·refine cR ?_
    refine aT Tryz.results175 (λ w hw=>?_)
    first
    | (rw[bK (by omega),if_neg (by simp_all)];exact⟨rfl,hw.done⟩)
    | (rw[bK (by omega),if_pos (by simp_all)];exact⟨rfl,hw.done⟩)
    | (rw[bW (by omega),if_neg (by rintro ⟨h1,h2,h3⟩;first|omega|simp_all)];exact⟨rfl,hw.done⟩)
    | (rw[bW (by omega),if_pos ⟨by simp_all,by omega,by omega⟩];exact⟨rfl,hw.done⟩)
    | (rw[eL (by omega)];exact⟨rfl,hw.done⟩)
    | (exfalso;omega)
   ·refine oB ?_;refine cR ?_
    refine aT Tryz.results175 (λ w hw=>?_)
    first
    | (rw[bK (by omega),if_neg (by simp_all)];exact⟨rfl,hw.done⟩)
    | (rw[bK (by omega),if_pos (by simp_all)];exact⟨rfl,hw.done⟩)
    | (rw[bW (by omega),if_neg (by rintro ⟨h1,h2,h3⟩;first|omega|simp_all)];exact⟨rfl,hw.done⟩)
    | (rw[bW (by omega),if_pos ⟨by simp_all,by omega,by omega⟩];exact⟨rfl,hw.done⟩)
    | (rw[eL (by omega)];exact⟨rfl,hw.done⟩)
    | (exfalso;omega)
  ·refine lF ?_
   refine bE (λ c12=>?_) (λ c12=>?_)
   ·refine gZ ?_;refine aR (cV (hc:=λ w1 hw=>nJ _ w1)) (λ x16=>?_);refine En ?_
    (refine eM 18 (λ g18=>?_) (λ g18=>?_)<;>(first|refine aJ ?_|(refine aF ?_;refine aE ?_)))
    all_goals (refine J89 ?_;refine aA ?_)
    all_goals (first|refine aJ ?_|(refine eM 23 (λ g23=>?_) (λ g23=>?_)<;>(first|refine aJ ?_|(refine aF ?_;refine aE ?_))))
    all_goals ((first|refine aJ ?_|(refine aF ?_;refine bR ?_));refine Iw ?_;refine aH ?_)
    all_goals
    refine bE (λ c27=>?_) (λ c27=>?_)
    ·all_goals refine cR ?_
     all_goals
      refine aT Tryz.results175 (λ w hw=>?_)
      first
      | (rw[bK (by omega),if_neg (by simp_all)];exact⟨rfl,hw.done⟩)
      | (rw[bK (by omega),if_pos (by simp_all)];exact⟨rfl,hw.done⟩)
      | (rw[bW (by omega),if_neg (by rintro ⟨h1,h2,h3⟩;omega)];exact⟨rfl,hw.done⟩)
      | (rw[bW (by omega),if_pos ⟨by simp_all,by omega,by omega⟩];exact⟨rfl,hw.done⟩)
      | (rw[eL (by omega)];exact⟨rfl,hw.done⟩)
      | (exfalso;omega)
    ·try exact nv c27
     all_goals (refine oB ?_;refine cR ?_)
     all_goals
      refine aT Tryz.results175 (λ w hw=>?_)
      first
      | (rw[bK (by omega),if_neg (by simp_all)];exact⟨rfl,hw.done⟩)
      | (rw[bK (by omega),if_pos (by simp_all)];exact⟨rfl,hw.done⟩)
      | (rw[bW (by omega),if_neg (by rintro ⟨h1,h2,h3⟩;simp_all)];exact⟨rfl,hw.done⟩)
      | (rw[bW (by omega),if_pos ⟨by simp_all,by omega,by omega⟩];exact⟨rfl,hw.done⟩)
      | (rw[eL (by omega)];exact⟨rfl,hw.done⟩)
      | (exfalso;omega)
   ·refine aV ?_;refine lF ?_
    refine bE (λ c28=>?_) (λ c28=>?_)
    ·refine bB ?_
     refine bE (λ c28=>?_) (λ c28=>?_)
     ·refine J0 ?_;refine aE ?_;refine J3 ?_;refine oX ?_
      refine bE (λ c34=>?_) (λ c34=>?_)
      ·refine cR ?_
       refine aT Tryz.results175 (λ w hw=>?_)
       first
       | (rw[bK (by omega),if_neg (by simp_all)];exact⟨rfl,hw.done⟩)
       | (rw[bK (by omega),if_pos (by simp_all)];exact⟨rfl,hw.done⟩)
       | (rw[bW (by omega),if_neg (by rintro ⟨h1,h2,h3⟩;omega)];exact⟨rfl,hw.done⟩)
       | (rw[bW (by omega),if_pos ⟨by simp_all,by omega,by omega⟩];exact⟨rfl,hw.done⟩)
       | (rw[eL (by omega)];exact⟨rfl,hw.done⟩)
       | (exfalso;omega)
      ·refine oB ?_;refine cR ?_
       refine aT Tryz.results175 (λ w hw=>?_)
       first
       | (rw[bK (by omega),if_neg (by simp_all)];exact⟨rfl,hw.done⟩)
       | (rw[bK (by omega),if_pos (by simp_all)];exact⟨rfl,hw.done⟩)
       | (rw[bW (by omega),if_neg (by rintro ⟨h1,h2,h3⟩;first|omega|simp_all)];exact⟨rfl,hw.done⟩)
       | (rw[bW (by omega),if_pos ⟨by simp_all,by omega,by omega⟩];exact⟨rfl,hw.done⟩)
       | (rw[eL (by omega)];exact⟨rfl,hw.done⟩)
       | (exfalso;omega)
     ·refine oB ?_;refine cR ?_
      refine aT Tryz.results175 (λ w hw=>?_)
      first
      | (rw[bK (by omega),if_neg (by simp_all)];exact⟨rfl,hw.done⟩)
      | (rw[bK (by omega),if_pos (by simp_all)];exact⟨rfl,hw.done⟩)
      | (rw[bW (by omega),if_neg (by rintro ⟨h1,h2,h3⟩;first|omega|simp_all)];exact⟨rfl,hw.done⟩)
      | (rw[bW (by omega),if_pos ⟨by simp_all,by omega,by omega⟩];exact⟨rfl,hw.done⟩)
      | (rw[eL (by omega)];exact⟨rfl,hw.done⟩)
      | (exfalso;omega)
    ·refine dW ?_;refine Wb ?_
     refine bE (λ c28=>?_) (λ c28=>?_)
     ·refine J0 ?_;refine aE ?_;refine J3 ?_;refine oX ?_
      refine bE (λ c34=>?_) (λ c34=>?_)
      ·refine cR ?_
       refine aT Tryz.results175 (λ w hw=>?_)
       first
       | (rw[bK (by omega),if_neg (by simp_all)];exact⟨rfl,hw.done⟩)
       | (rw[bK (by omega),if_pos (by simp_all)];exact⟨rfl,hw.done⟩)
       | (rw[bW (by omega),if_neg (by rintro ⟨h1,h2,h3⟩;omega)];exact⟨rfl,hw.done⟩)
       | (rw[bW (by omega),if_pos ⟨by simp_all,by omega,by omega⟩];exact⟨rfl,hw.done⟩)
       | (rw[eL (by omega)];exact⟨rfl,hw.done⟩)
       | (exfalso;omega)
      ·refine oB ?_;refine cR ?_
       refine aT Tryz.results175 (λ w hw=>?_)
       first
       | (rw[bK (by omega),if_neg (by simp_all)];exact⟨rfl,hw.done⟩)
       | (rw[bK (by omega),if_pos (by simp_all)];exact⟨rfl,hw.done⟩)
       | (rw[bW (by omega),if_neg (by rintro ⟨h1,h2,h3⟩;first|omega|simp_all)];exact⟨rfl,hw.done⟩)
       | (rw[bW (by omega),if_pos ⟨by simp_all,by omega,by omega⟩];exact⟨rfl,hw.done⟩)
       | (rw[eL (by omega)];exact⟨rfl,hw.done⟩)
       | (exfalso;omega)
     ·refine oB ?_;refine cR ?_
      refine aT Tryz.results175 (λ w hw=>?_)
      first
      | (rw[bK (by omega),if_neg (by simp_all)];exact⟨rfl,hw.done⟩)
      | (rw[bK (by omega),if_pos (by simp_all)];exact⟨rfl,hw.done⟩)
      | (rw[bW (by omega),if_neg (by rintro ⟨h1,h2,h3⟩;first|omega|simp_all)];exact⟨rfl,hw.done⟩)
      | (rw[bW (by omega),if_pos ⟨by simp_all,by omega,by omega⟩];exact⟨rfl,hw.done⟩)
      | (rw[eL (by omega)];exact⟨rfl,hw.done⟩)
      | (exfalso;omega)
theorem M4(r:Int)(f:Bool)(w:World):Calls Tryz.prog 176 #[.int .i64 r,.bool f] w λ e w'=>e=.returned (.agg ⟨(Lg r f).cells⟩)/\St w [] [] w':=by
 refine enter Tryz.func176 Tryz.ntmps176 rfl rfl (SF.s0 w) ?_
 simp only[bY]
 refine J0 ?_;refine aI (λ x4=>?_);refine aH ?_;refine iO ?_;refine xS ?_
 refine bD Tryz.results176 (λ w hw=>?_)
 exact⟨rfl,hw.done⟩
theorem Wx{k:Cl}{B:Bool->Tr}{C:Tr}(h:k.kind=10∨k.kind=11):(if k.kind=10 then B false else if k.kind=11 then B true else C)=B (k.kind==11):=by
 rcases h with h|h<;>rw[h]<;>rfl
section
variable{k:Cl}{bx bm:Nat}{x:XS}{dn:Bool}{rs:Rs}{D:List Nat}{A:Fr}{w:World}{g:Gx}
set_option maxRecDepth 100000 in
set_option maxHeartbeats 2000000 in
theorem aBA(hg:g.Ok){m:Nat}(n:Nat)(hk:Yt k)(hn:n<=1073741824)(hm:m<18446744073709551616)(em:k.mask=(m:Int))(ht:k.t.root<=9223372036854775807)(ha:k.a<=x.L.length)(hb:k.b<=x.L.length)(hnn:k.n<=x.L.length)(hA:∀f∈aM x.L,f∈A)(go:fY g x (jT k (jV k.key m) n))(ok:x.Ok)(hs:SF w D (xH k bx bm x dn rs) A [] (xW x) w):Calls Tryz.prog 143 #[.pointer (some ⟨bx,0,none⟩)] w λ e w'=>∃q:Rs×XS×List aZ,e=.returned (.agg ⟨q.1.cells⟩)/\Nx g x q.2.1 q.2.2 (.done q.1) 0/\SF w D (xH k bx bm q.2.1 dn rs) [] (aM q.2.2) (xW q.2.1) w':=by
 have hk2:=hk
 unfold Yt at hk2
 refine enter Tryz.func143 Tryz.ntmps143 rfl rfl (bZ hs) ?_
 simp only[bY]
 refine J0 ?_;refine aI (λ x2=>?_);refine aH ?_;refine Ew ?_;refine aB (aN (k:=25) (vs:=Q3 k) rf cL dJ rfl rfl) rfl ?_;refine aI (λ x3=>?_);refine J5 ?_;refine aV ?_;refine pK ?_;refine aR (cV (hc:=λ w1 hw=>Ym hk w1)) (λ x14=>?_);refine J1 ?_;refine J2 ?_;refine qA ?_;refine aH ?_
 refine bE (λ c16=>?_) (λ c16=>?_)
 ·refine J2 ?_;refine xS ?_
  refine bD Tryz.results143 (λ w hw=>?_)
  first
  | exact⟨({Rs.zero with err:=refuse k},x,[]),rfl,⟨go.to (λ _=>if_pos c16),ok,by simp,Nat.le_refl _,(bH _)⟩,hw.aU (hF:=by exact aY.nil)⟩
 ·have g0:=go.to (λ _=>if_neg (λ h:refuse k≠0=>absurd (show refuse k=0 from by assumption) h))
  have e0:refuse k=0:=by assumption
  refine lA ?_;refine gZ ?_;refine aH ?_;refine cI ?_;refine lF ?_
  refine bE (λ c21=>?_) (λ c21=>?_)
  ·have q:=g0.to (λ _=>if_pos c21)
   refine J2 ?_;refine aE ?_;refine aB (aN (k:=2) (vs:=[.int .i64 k.t.root,.bool k.t.ro]) rf cL dJ rfl rfl) rfl ?_;refine J3 ?_;refine aC (cM (hs:=xH k bx bm x dn rs) (os:=xW x) (hc:=λ w hs=>oM hg k.t k.a _ ht ha q ok hs)) (λ x28 h28=>?_);refine aR (cV (hc:=λ w1 hw=>M4 _ _ w1)) (λ x29=>?_);refine J5 ?_
   refine bD Tryz.results143 (λ w hw=>?_)
   first
   | exact⟨({Rs.zero with err:=refuse k},x,[]),rfl,⟨go.to (λ _=>if_pos c16),ok,by simp,Nat.le_refl _,(bH _)⟩,hw.aU (hF:=by exact aY.nil)⟩
   | exact⟨(Lg x28.1 false,x28.2.1,x28.2.2),rfl,h28.cK h28.go (bH _),by rw[List.append_nil] at hw;exact hw.aU (hF:=by exact aY.all)⟩
  ·have g1:=g0.to (λ _=>if_neg c21)
   refine lF ?_
   refine bE (λ c30=>?_) (λ c30=>?_)
   ·have q:=g1.to (λ _=>if_pos c30)
    refine J2 ?_;refine aE ?_;refine aB (aN (k:=2) (vs:=[.int .i64 k.t.root,.bool k.t.ro]) rf cL dJ rfl rfl) rfl ?_;refine J3 ?_;refine J3 ?_;refine J3 ?_;refine aC (cM (hs:=xH k bx bm x dn rs) (os:=xW x) (hc:=λ w hs=>sN hg k.t k.a k.b k.n _ ht ha hnn q ok hs)) (λ x41 h41=>?_);refine aR (cV (hc:=λ w1 hw=>M4 _ _ w1)) (λ x42=>?_);refine J5 ?_
    refine bD Tryz.results143 (λ w hw=>?_)
    first
    | exact⟨({Rs.zero with err:=refuse k},x,[]),rfl,⟨go.to (λ _=>if_pos c16),ok,by simp,Nat.le_refl _,(bH _)⟩,hw.aU (hF:=by exact aY.nil)⟩
    | exact⟨(Lg 0 x41.1,x41.2.1,x41.2.2),rfl,h41,by rw[List.append_nil] at hw;exact hw.aU (hF:=by exact aY.all)⟩
   ·have g2:=g1.to (λ _=>if_neg c30)
    refine lF ?_
    refine bE (λ c43=>?_) (λ c43=>?_)
    ·have q:=g2.to (λ _=>if_pos c43)
     refine J2 ?_;refine aE ?_;refine aB (aN (k:=2) (vs:=[.int .i64 k.t.root,.bool k.t.ro]) rf cL dJ rfl rfl) rfl ?_;refine aC (cM (hs:=xH k bx bm x dn rs) (os:=xW x) (hc:=λ w hs=>Bn hg k.t _ ht q ok hs)) (λ x48 h48=>?_);refine aR (cV (hc:=λ w1 hw=>M4 _ _ w1)) (λ x49=>?_);refine J5 ?_
     refine bD Tryz.results143 (λ w hw=>?_)
     first
     | exact⟨({Rs.zero with err:=refuse k},x,[]),rfl,⟨go.to (λ _=>if_pos c16),ok,by simp,Nat.le_refl _,(bH _)⟩,hw.aU (hF:=by exact aY.nil)⟩
     | exact⟨(Lg x48.1 false,x48.2.1,x48.2.2),rfl,h48.cK h48.go (bH _),by rw[List.append_nil] at hw;exact hw.aU (hF:=by exact aY.all)⟩
    ·have g3:=g2.to (λ _=>if_neg c43)
     refine lF ?_
     refine bE (λ c50=>?_) (λ c50=>?_)
     ·have q:=g3.to (λ _=>if_pos c50)
      refine J2 ?_;refine aE ?_;refine aB (aN (k:=2) (vs:=[.int .i64 k.t.root,.bool k.t.ro]) rf cL dJ rfl rfl) rfl ?_;refine J3 ?_;refine J3 ?_;refine J3 ?_;refine aC (cM (hs:=xH k bx bm x dn rs) (os:=xW x) (hc:=λ w hs=>Mw hg k.t k.a k.b k.n _ ht ha hb hnn q ok hs)) (λ x61 h61=>?_);refine aR (cV (hc:=λ w1 hw=>M4 _ _ w1)) (λ x62=>?_);refine J5 ?_
      refine bD Tryz.results143 (λ w hw=>?_)
      first
      | exact⟨({Rs.zero with err:=refuse k},x,[]),rfl,⟨go.to (λ _=>if_pos c16),ok,by simp,Nat.le_refl _,(bH _)⟩,hw.aU (hF:=by exact aY.nil)⟩
      | exact⟨(Lg 0 x61.1,x61.2.1,x61.2.2),rfl,h61,by rw[List.append_nil] at hw;exact hw.aU (hF:=by exact aY.all)⟩
     ·have g4:=g3.to (λ _=>if_neg c50)
      refine lF ?_
      refine bE (λ c63=>?_) (λ c63=>?_)
      ·exfalso;omega
      ·refine lF ?_
       refine bE (λ c79=>?_) (λ c79=>?_)
       ·exfalso;omega
       ·refine lF ?_
        refine bE (λ c94=>?_) (λ c94=>?_)
        ·have q:=g4.to (λ _=>if_pos c94)
         have ek:k.key.size<=64:=by rw[bK (by omega)] at e0;split at e0;assumption;cases e0
         refine J2 ?_;refine aC (cM (hs:=xH k bx bm x dn rs) (os:=xW x) (A0:=aM x.L) (hA:=aX.of λ f hf=>.inr (.inl (hA f hf))) (hc:=λ w hs=>xu hg _ n hn hm em ek ht (λ f hf=>hf) q ok hs)) (λ x97 h97=>?_);refine J5 ?_
         refine bD Tryz.results143 (λ w hw=>?_)
         first
         | exact⟨({Rs.zero with err:=refuse k},x,[]),rfl,⟨go.to (λ _=>if_pos c16),ok,by simp,Nat.le_refl _,(bH _)⟩,hw.aU (hF:=by exact aY.nil)⟩
         | exact⟨(x97.1,x97.2.1,x97.2.2),rfl,h97,by rw[List.append_nil] at hw;exact hw.aU (hF:=by exact aY.all)⟩
        ·have g7:=g4.to (λ _=>if_neg c94)
         refine lF ?_
         refine bE (λ c98=>?_) (λ c98=>?_)
         ·have q:=g7.to (λ _=>if_pos c98)
          have ek:k.key.size<=64:=by rw[bW (by omega)] at e0;split at e0;(rename_i h;exact h.1);cases e0
          refine J2 ?_;refine aC (cM (hs:=xH k bx bm x dn rs) (os:=xW x) (A0:=aM x.L) (hA:=aX.of λ f hf=>.inr (.inl (hA f hf))) (hc:=λ w hs=>aBe hg _ n hn hm em ek ht (λ f hf=>hf) q ok hs)) (λ x101 h101=>?_);refine J5 ?_
          refine bD Tryz.results143 (λ w hw=>?_)
          first
          | exact⟨({Rs.zero with err:=refuse k},x,[]),rfl,⟨go.to (λ _=>if_pos c16),ok,by simp,Nat.le_refl _,(bH _)⟩,hw.aU (hF:=by exact aY.nil)⟩
          | exact⟨(x101.1,x101.2.1,x101.2.2),rfl,h101,by rw[List.append_nil] at hw;exact hw.aU (hF:=by exact aY.all)⟩
         ·have g8:=g7.to (λ _=>if_neg c98)
          refine lF ?_
          refine bE (λ c102=>?_) (λ c102=>?_)
          ·have q:=g8.to (λ _=>if_pos c102)
           have ek:k.key.size<=64:=by rw[bK (by omega)] at e0;split at e0;assumption;cases e0
           refine J2 ?_;refine aC (cM (hs:=xH k bx bm x dn rs) (os:=xW x) (A0:=aM x.L) (hA:=aX.of λ f hf=>.inr (.inl (hA f hf))) (hc:=λ w hs=>yx hg _ n hn hm em ek ht (λ f hf=>hf) q ok hs)) (λ x105 h105=>?_);refine J5 ?_
           refine bD Tryz.results143 (λ w hw=>?_)
           first
           | exact⟨({Rs.zero with err:=refuse k},x,[]),rfl,⟨go.to (λ _=>if_pos c16),ok,by simp,Nat.le_refl _,(bH _)⟩,hw.aU (hF:=by exact aY.nil)⟩
           | exact⟨(x105.1,x105.2.1,x105.2.2),rfl,h105,by rw[List.append_nil] at hw;exact hw.aU (hF:=by exact aY.all)⟩
          ·have g9:=g8.to (λ _=>if_neg c102)
           refine aV ?_;refine lF ?_
           refine bE (λ c106=>?_) (λ c106=>?_)
           ·refine bB ?_
            refine bE (λ c106=>?_) (λ c106=>?_)
            ·refine J2 ?_;refine J3 ?_;refine mC ?_;refine aC (cM (hs:=xH k bx bm x dn rs) (os:=xW x) (hc:=λ w hs=>Hn hg (k.kind==11) _ n ht (g9.to (λ _=>Wx (B:=λ b=>tK k.t b .done n) (by omega))) ok hs)) (λ x113 h113=>?_);refine J5 ?_
             refine bD Tryz.results143 (λ w hw=>?_)
             first
             | exact⟨({Rs.zero with err:=refuse k},x,[]),rfl,⟨go.to (λ _=>if_pos c16),ok,by simp,Nat.le_refl _,(bH _)⟩,hw.aU (hF:=by exact aY.nil)⟩
             | exact⟨(x113.1,x113.2.1,x113.2.2),rfl,h113,by rw[List.append_nil] at hw;exact hw.aU (hF:=by exact aY.all)⟩
            ·refine lF ?_
             refine bE (λ c114=>?_) (λ c114=>?_)
             ·have q:=(g9.to (λ _=>if_neg (by omega))).to (λ _=>if_neg (by omega))
              refine J2 ?_;refine aC (cM (hs:=xH k bx bm x dn rs) (os:=xW x) (hc:=λ w hs=>T6 hg _ n ht q ok hs)) (λ x117 h117=>?_);refine J5 ?_
              refine bD Tryz.results143 (λ w hw=>?_)
              first
              | exact⟨({Rs.zero with err:=refuse k},x,[]),rfl,⟨go.to (λ _=>if_pos c16),ok,by simp,Nat.le_refl _,(bH _)⟩,hw.aU (hF:=by exact aY.nil)⟩
              | exact⟨(x117.1,x117.2.1,x117.2.2),rfl,h117,by rw[List.append_nil] at hw;exact hw.aU (hF:=by exact aY.all)⟩
             ·exfalso;omega
           ·refine dW ?_;refine Wb ?_
            refine bE (λ c106=>?_) (λ c106=>?_)
            ·refine J2 ?_;refine J3 ?_;refine mC ?_;refine aC (cM (hs:=xH k bx bm x dn rs) (os:=xW x) (hc:=λ w hs=>Hn hg (k.kind==11) _ n ht (g9.to (λ _=>Wx (B:=λ b=>tK k.t b .done n) (by omega))) ok hs)) (λ x113 h113=>?_);refine J5 ?_
             refine bD Tryz.results143 (λ w hw=>?_)
             first
             | exact⟨({Rs.zero with err:=refuse k},x,[]),rfl,⟨go.to (λ _=>if_pos c16),ok,by simp,Nat.le_refl _,(bH _)⟩,hw.aU (hF:=by exact aY.nil)⟩
             | exact⟨(x113.1,x113.2.1,x113.2.2),rfl,h113,by rw[List.append_nil] at hw;exact hw.aU (hF:=by exact aY.all)⟩
            ·refine lF ?_
             refine bE (λ c114=>?_) (λ c114=>?_)
             ·have q:=(g9.to (λ _=>if_neg (by omega))).to (λ _=>if_neg (by omega))
              refine J2 ?_;refine aC (cM (hs:=xH k bx bm x dn rs) (os:=xW x) (hc:=λ w hs=>T6 hg _ n ht q ok hs)) (λ x117 h117=>?_);refine J5 ?_
              refine bD Tryz.results143 (λ w hw=>?_)
              first
              | exact⟨({Rs.zero with err:=refuse k},x,[]),rfl,⟨go.to (λ _=>if_pos c16),ok,by simp,Nat.le_refl _,(bH _)⟩,hw.aU (hF:=by exact aY.nil)⟩
              | exact⟨(x117.1,x117.2.1,x117.2.2),rfl,h117,by rw[List.append_nil] at hw;exact hw.aU (hF:=by exact aY.all)⟩
             ·exfalso;omega
end
end Go.Proofs.YtbajmaoegmbfgaaGreat
