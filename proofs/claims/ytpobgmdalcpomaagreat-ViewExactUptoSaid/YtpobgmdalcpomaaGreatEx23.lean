/- Executions of the reference: a call. -/
import Derived.Test.YtpobgmdalcpomaaGreatEx22
set_option linter.unusedSimpArgs false
set_option linter.unusedVariables false
namespace Go.Proofs.YtpobgmdalcpomaaGreat
open Go Go.RowKit Go.Ct
abbrev O0(k:Cl):List Value:=[.int .i64 k.kind,.int .i64 k.t.root,.bool k.t.ro,.int .i64 k.a,.int .i64 k.b,.int .i64 k.n,.int .i64 k.index,.int .u64 k.hash,.int .u64 k.mask,.string k.key,.int .u64 k.val,.int .u64 k.exp,.int .i64 k.Gz,.bool k.only,.bool false,.slice none 0 0,.slice none 0 0,.int .i64 0,.bool false,.int .u64 0,.string ⟨#[]⟩,.int .i64 0,.int .i64 0,.int .i64 0,.bool false]
def fp(k:Cl):Prop:=(1<=k.kind/\k.kind<=4)∨(7<=k.kind/\k.kind<=12)
theorem bR{k:Cl}(h:k.kind=7∨k.kind=9):refuse k=if k.key.size<=64 then 0 else 1:=if_pos h
theorem cC{k:Cl}(h:k.kind=8):refuse k=if k.key.size<=64/\0<=k.Gz/\k.Gz<=3 then 0 else 1:=(if_neg (by omega)).trans (if_pos h)
theorem fF{k:Cl}(h:k.kind<7∨9<k.kind):refuse k=0:=(if_neg (by omega)).trans (if_neg (by omega))
theorem V7{k:Cl}(hk:fp k)(w:World):Calls Tryz.prog 75 #[.agg ⟨O0 k⟩] w λ e w'=>e=.returned (.int .i64 (refuse k))/\St w [] [] w':=by
 have hk2:=hk
 unfold fp at hk2
 refine enter Tryz.func75 Tryz.ntmps75 rfl rfl (SF.s0 w) ?_
 simp only[dB]
 all_goals (refine J0 ?_;refine bM (λ x1=>?_);refine iI ?_;refine gR ?_;refine aN ?_;refine cZ ?_;refine aT ?_;refine kK ?_)
 all_goals
 refine bF (λ c5=>?_) (λ c5=>?_)
 ·try exact nv c5
  all_goals refine aZ ?_
  all_goals
   refine bF (λ c5=>?_) (λ c5=>?_)
   ·try exact nv c5
    all_goals (refine gR ?_;(refine aF (cV (hc:=λ w1 hw=>mZ _ w1)) (λ x10=>?_);try (refine aB (λ h10=>?_)));refine kD ?_)
    all_goals
    refine bF (λ c11=>?_) (λ c11=>?_)
    ·try exact nv c11
     all_goals refine dH ?_
     all_goals
      refine aR Tryz.results75 (λ w hw=>?_)
      first
      | (rw[bR (by omega),if_neg (by simp_all)];exact⟨rfl,hw.done⟩)
      | (rw[bR (by omega),if_pos (by simp_all)];exact⟨rfl,hw.done⟩)
      | (rw[cC (by omega),if_neg (by rintro ⟨h1,h2,h3⟩;first|omega|simp_all)];exact⟨rfl,hw.done⟩)
      | (rw[cC (by omega),if_pos ⟨by simp_all,by omega,by omega⟩];exact⟨rfl,hw.done⟩)
      | (rw[fF (by omega)];exact⟨rfl,hw.done⟩)
      | (exfalso;omega)
    ·try exact nv c11
     all_goals (refine mN ?_;refine dH ?_)
     all_goals
      refine aR Tryz.results75 (λ w hw=>?_)
      first
      | (rw[bR (by omega),if_neg (by simp_all)];exact⟨rfl,hw.done⟩)
      | (rw[bR (by omega),if_pos (by simp_all)];exact⟨rfl,hw.done⟩)
      | (rw[cC (by omega),if_neg (by rintro ⟨h1,h2,h3⟩;first|omega|simp_all)];exact⟨rfl,hw.done⟩)
      | (rw[cC (by omega),if_pos ⟨by simp_all,by omega,by omega⟩];exact⟨rfl,hw.done⟩)
      | (rw[fF (by omega)];exact⟨rfl,hw.done⟩)
      | (exfalso;omega)
   ·try exact nv c5
    all_goals refine kK ?_
    all_goals
    refine bF (λ c12=>?_) (λ c12=>?_)
    ·try exact nv c12
     all_goals (refine gR ?_;(refine aF (cV (hc:=λ w1 hw=>mZ _ w1)) (λ x16=>?_);try (refine aB (λ h16=>?_)));refine As ?_)
     all_goals (first|refine aG ?_|(refine aC ?_;refine aE ?_)|(refine dG 18 (λ g18=>?_) (λ g18=>?_)<;>(first|refine aG ?_|(refine aC ?_;refine aE ?_))))
     all_goals (refine ou ?_;refine aA ?_)
     all_goals (first|refine aG ?_|(refine aC ?_;refine aE ?_)|(refine dG 23 (λ g23=>?_) (λ g23=>?_)<;>(first|refine aG ?_|(refine aC ?_;refine aE ?_))))
     all_goals ((first|refine aG ?_|(refine aC ?_;refine bJ ?_));refine xV ?_;refine aN ?_)
     all_goals
      refine bF (λ c27=>?_) (λ c27=>?_)
      ·try exact nv c27
       all_goals refine dH ?_
       all_goals
       refine aR Tryz.results75 (λ w hw=>?_)
       first
        | (rw[bR (by omega),if_neg (by simp_all)];exact⟨rfl,hw.done⟩)
        | (rw[bR (by omega),if_pos (by simp_all)];exact⟨rfl,hw.done⟩)
        | (rw[cC (by omega),if_neg (by rintro ⟨h1,h2,h3⟩;first|omega|simp_all)];exact⟨rfl,hw.done⟩)
        | (rw[cC (by omega),if_pos ⟨by simp_all,by omega,by omega⟩];exact⟨rfl,hw.done⟩)
        | (rw[fF (by omega)];exact⟨rfl,hw.done⟩)
        | (exfalso;omega)
      ·try exact nv c27
       all_goals (refine mN ?_;refine dH ?_)
       all_goals
       refine aR Tryz.results75 (λ w hw=>?_)
       first
        | (rw[bR (by omega),if_neg (by simp_all)];exact⟨rfl,hw.done⟩)
        | (rw[bR (by omega),if_pos (by simp_all)];exact⟨rfl,hw.done⟩)
        | (rw[cC (by omega),if_neg (by rintro ⟨h1,h2,h3⟩;first|omega|simp_all)];exact⟨rfl,hw.done⟩)
        | (rw[cC (by omega),if_pos ⟨by simp_all,by omega,by omega⟩];exact⟨rfl,hw.done⟩)
        | (rw[fF (by omega)];exact⟨rfl,hw.done⟩)
        | (exfalso;omega)
    ·try exact nv c12
     all_goals (refine aT ?_;refine kK ?_)
     all_goals
      refine bF (λ c28=>?_) (λ c28=>?_)
      ·try exact nv c28
       all_goals refine aZ ?_
       all_goals
       refine bF (λ c28=>?_) (λ c28=>?_)
       ·try exact nv c28
        all_goals (refine J0 ?_;refine aE ?_;refine J3 ?_;refine kD ?_)
        all_goals
         refine bF (λ c34=>?_) (λ c34=>?_)
         ·try exact nv c34
          all_goals refine dH ?_
          all_goals
          refine aR Tryz.results75 (λ w hw=>?_)
          first
           | (rw[bR (by omega),if_neg (by simp_all)];exact⟨rfl,hw.done⟩)
           | (rw[bR (by omega),if_pos (by simp_all)];exact⟨rfl,hw.done⟩)
           | (rw[cC (by omega),if_neg (by rintro ⟨h1,h2,h3⟩;first|omega|simp_all)];exact⟨rfl,hw.done⟩)
           | (rw[cC (by omega),if_pos ⟨by simp_all,by omega,by omega⟩];exact⟨rfl,hw.done⟩)
           | (rw[fF (by omega)];exact⟨rfl,hw.done⟩)
           | (exfalso;omega)
         ·try exact nv c34
          all_goals (refine mN ?_;refine dH ?_)
          all_goals
          refine aR Tryz.results75 (λ w hw=>?_)
          first
           | (rw[bR (by omega),if_neg (by simp_all)];exact⟨rfl,hw.done⟩)
           | (rw[bR (by omega),if_pos (by simp_all)];exact⟨rfl,hw.done⟩)
           | (rw[cC (by omega),if_neg (by rintro ⟨h1,h2,h3⟩;first|omega|simp_all)];exact⟨rfl,hw.done⟩)
           | (rw[cC (by omega),if_pos ⟨by simp_all,by omega,by omega⟩];exact⟨rfl,hw.done⟩)
           | (rw[fF (by omega)];exact⟨rfl,hw.done⟩)
           | (exfalso;omega)
       ·try exact nv c28
        all_goals (refine mN ?_;refine dH ?_)
        all_goals
         refine aR Tryz.results75 (λ w hw=>?_)
         first
         | (rw[bR (by omega),if_neg (by simp_all)];exact⟨rfl,hw.done⟩)
         | (rw[bR (by omega),if_pos (by simp_all)];exact⟨rfl,hw.done⟩)
         | (rw[cC (by omega),if_neg (by rintro ⟨h1,h2,h3⟩;first|omega|simp_all)];exact⟨rfl,hw.done⟩)
         | (rw[cC (by omega),if_pos ⟨by simp_all,by omega,by omega⟩];exact⟨rfl,hw.done⟩)
         | (rw[fF (by omega)];exact⟨rfl,hw.done⟩)
         | (exfalso;omega)
      ·try exact nv c28
       all_goals (refine dD ?_;refine P0 ?_)
       all_goals
       refine bF (λ c28=>?_) (λ c28=>?_)
       ·try exact nv c28
        all_goals (refine J0 ?_;refine aE ?_;refine J3 ?_;refine kD ?_)
        all_goals
         refine bF (λ c34=>?_) (λ c34=>?_)
         ·try exact nv c34
          all_goals refine dH ?_
          all_goals
          refine aR Tryz.results75 (λ w hw=>?_)
          first
           | (rw[bR (by omega),if_neg (by simp_all)];exact⟨rfl,hw.done⟩)
           | (rw[bR (by omega),if_pos (by simp_all)];exact⟨rfl,hw.done⟩)
           | (rw[cC (by omega),if_neg (by rintro ⟨h1,h2,h3⟩;first|omega|simp_all)];exact⟨rfl,hw.done⟩)
           | (rw[cC (by omega),if_pos ⟨by simp_all,by omega,by omega⟩];exact⟨rfl,hw.done⟩)
           | (rw[fF (by omega)];exact⟨rfl,hw.done⟩)
           | (exfalso;omega)
         ·try exact nv c34
          all_goals (refine mN ?_;refine dH ?_)
          all_goals
          refine aR Tryz.results75 (λ w hw=>?_)
          first
           | (rw[bR (by omega),if_neg (by simp_all)];exact⟨rfl,hw.done⟩)
           | (rw[bR (by omega),if_pos (by simp_all)];exact⟨rfl,hw.done⟩)
           | (rw[cC (by omega),if_neg (by rintro ⟨h1,h2,h3⟩;first|omega|simp_all)];exact⟨rfl,hw.done⟩)
           | (rw[cC (by omega),if_pos ⟨by simp_all,by omega,by omega⟩];exact⟨rfl,hw.done⟩)
           | (rw[fF (by omega)];exact⟨rfl,hw.done⟩)
           | (exfalso;omega)
       ·try exact nv c28
        all_goals (refine mN ?_;refine dH ?_)
        all_goals
         refine aR Tryz.results75 (λ w hw=>?_)
         first
         | (rw[bR (by omega),if_neg (by simp_all)];exact⟨rfl,hw.done⟩)
         | (rw[bR (by omega),if_pos (by simp_all)];exact⟨rfl,hw.done⟩)
         | (rw[cC (by omega),if_neg (by rintro ⟨h1,h2,h3⟩;first|omega|simp_all)];exact⟨rfl,hw.done⟩)
         | (rw[cC (by omega),if_pos ⟨by simp_all,by omega,by omega⟩];exact⟨rfl,hw.done⟩)
         | (rw[fF (by omega)];exact⟨rfl,hw.done⟩)
         | (exfalso;omega)
 ·try exact nv c5
  all_goals (refine dD ?_;refine P0 ?_)
  all_goals
   refine bF (λ c5=>?_) (λ c5=>?_)
   ·try exact nv c5
    all_goals (refine gR ?_;(refine aF (cV (hc:=λ w1 hw=>mZ _ w1)) (λ x10=>?_);try (refine aB (λ h10=>?_)));refine kD ?_)
    all_goals
    refine bF (λ c11=>?_) (λ c11=>?_)
    ·try exact nv c11
     all_goals refine dH ?_
     all_goals
      refine aR Tryz.results75 (λ w hw=>?_)
      first
      | (rw[bR (by omega),if_neg (by simp_all)];exact⟨rfl,hw.done⟩)
      | (rw[bR (by omega),if_pos (by simp_all)];exact⟨rfl,hw.done⟩)
      | (rw[cC (by omega),if_neg (by rintro ⟨h1,h2,h3⟩;first|omega|simp_all)];exact⟨rfl,hw.done⟩)
      | (rw[cC (by omega),if_pos ⟨by simp_all,by omega,by omega⟩];exact⟨rfl,hw.done⟩)
      | (rw[fF (by omega)];exact⟨rfl,hw.done⟩)
      | (exfalso;omega)
    ·try exact nv c11
     all_goals (refine mN ?_;refine dH ?_)
     all_goals
      refine aR Tryz.results75 (λ w hw=>?_)
      first
      | (rw[bR (by omega),if_neg (by simp_all)];exact⟨rfl,hw.done⟩)
      | (rw[bR (by omega),if_pos (by simp_all)];exact⟨rfl,hw.done⟩)
      | (rw[cC (by omega),if_neg (by rintro ⟨h1,h2,h3⟩;first|omega|simp_all)];exact⟨rfl,hw.done⟩)
      | (rw[cC (by omega),if_pos ⟨by simp_all,by omega,by omega⟩];exact⟨rfl,hw.done⟩)
      | (rw[fF (by omega)];exact⟨rfl,hw.done⟩)
      | (exfalso;omega)
   ·try exact nv c5
    all_goals refine kK ?_
    all_goals
    refine bF (λ c12=>?_) (λ c12=>?_)
    ·try exact nv c12
     all_goals (refine gR ?_;(refine aF (cV (hc:=λ w1 hw=>mZ _ w1)) (λ x16=>?_);try (refine aB (λ h16=>?_)));refine As ?_)
     all_goals (first|refine aG ?_|(refine aC ?_;refine aE ?_)|(refine dG 18 (λ g18=>?_) (λ g18=>?_)<;>(first|refine aG ?_|(refine aC ?_;refine aE ?_))))
     all_goals (refine ou ?_;refine aA ?_)
     all_goals (first|refine aG ?_|(refine aC ?_;refine aE ?_)|(refine dG 23 (λ g23=>?_) (λ g23=>?_)<;>(first|refine aG ?_|(refine aC ?_;refine aE ?_))))
     all_goals ((first|refine aG ?_|(refine aC ?_;refine bJ ?_));refine xV ?_;refine aN ?_)
     all_goals
      refine bF (λ c27=>?_) (λ c27=>?_)
      ·try exact nv c27
       all_goals refine dH ?_
       all_goals
       refine aR Tryz.results75 (λ w hw=>?_)
       first
        | (rw[bR (by omega),if_neg (by simp_all)];exact⟨rfl,hw.done⟩)
        | (rw[bR (by omega),if_pos (by simp_all)];exact⟨rfl,hw.done⟩)
        | (rw[cC (by omega),if_neg (by rintro ⟨h1,h2,h3⟩;first|omega|simp_all)];exact⟨rfl,hw.done⟩)
        | (rw[cC (by omega),if_pos ⟨by simp_all,by omega,by omega⟩];exact⟨rfl,hw.done⟩)
        | (rw[fF (by omega)];exact⟨rfl,hw.done⟩)
        | (exfalso;omega)
      ·try exact nv c27
       all_goals (refine mN ?_;refine dH ?_)
       all_goals
       refine aR Tryz.results75 (λ w hw=>?_)
       first
        | (rw[bR (by omega),if_neg (by simp_all)];exact⟨rfl,hw.done⟩)
        | (rw[bR (by omega),if_pos (by simp_all)];exact⟨rfl,hw.done⟩)
        | (rw[cC (by omega),if_neg (by rintro ⟨h1,h2,h3⟩;first|omega|simp_all)];exact⟨rfl,hw.done⟩)
        | (rw[cC (by omega),if_pos ⟨by simp_all,by omega,by omega⟩];exact⟨rfl,hw.done⟩)
        | (rw[fF (by omega)];exact⟨rfl,hw.done⟩)
        | (exfalso;omega)
    ·try exact nv c12
     all_goals (refine aT ?_;refine kK ?_)
     all_goals
      refine bF (λ c28=>?_) (λ c28=>?_)
      ·try exact nv c28
       all_goals refine aZ ?_
       all_goals
       refine bF (λ c28=>?_) (λ c28=>?_)
       ·try exact nv c28
        all_goals (refine J0 ?_;refine aE ?_;refine J3 ?_;refine kD ?_)
        all_goals
         refine bF (λ c34=>?_) (λ c34=>?_)
         ·try exact nv c34
          all_goals refine dH ?_
          all_goals
          refine aR Tryz.results75 (λ w hw=>?_)
          first
           | (rw[bR (by omega),if_neg (by simp_all)];exact⟨rfl,hw.done⟩)
           | (rw[bR (by omega),if_pos (by simp_all)];exact⟨rfl,hw.done⟩)
           | (rw[cC (by omega),if_neg (by rintro ⟨h1,h2,h3⟩;first|omega|simp_all)];exact⟨rfl,hw.done⟩)
           | (rw[cC (by omega),if_pos ⟨by simp_all,by omega,by omega⟩];exact⟨rfl,hw.done⟩)
           | (rw[fF (by omega)];exact⟨rfl,hw.done⟩)
           | (exfalso;omega)
         ·try exact nv c34
          all_goals (refine mN ?_;refine dH ?_)
          all_goals
          refine aR Tryz.results75 (λ w hw=>?_)
          first
           | (rw[bR (by omega),if_neg (by simp_all)];exact⟨rfl,hw.done⟩)
           | (rw[bR (by omega),if_pos (by simp_all)];exact⟨rfl,hw.done⟩)
           | (rw[cC (by omega),if_neg (by rintro ⟨h1,h2,h3⟩;first|omega|simp_all)];exact⟨rfl,hw.done⟩)
           | (rw[cC (by omega),if_pos ⟨by simp_all,by omega,by omega⟩];exact⟨rfl,hw.done⟩)
           | (rw[fF (by omega)];exact⟨rfl,hw.done⟩)
           | (exfalso;omega)
       ·try exact nv c28
        all_goals (refine mN ?_;refine dH ?_)
        all_goals
         refine aR Tryz.results75 (λ w hw=>?_)
         first
         | (rw[bR (by omega),if_neg (by simp_all)];exact⟨rfl,hw.done⟩)
         | (rw[bR (by omega),if_pos (by simp_all)];exact⟨rfl,hw.done⟩)
         | (rw[cC (by omega),if_neg (by rintro ⟨h1,h2,h3⟩;first|omega|simp_all)];exact⟨rfl,hw.done⟩)
         | (rw[cC (by omega),if_pos ⟨by simp_all,by omega,by omega⟩];exact⟨rfl,hw.done⟩)
         | (rw[fF (by omega)];exact⟨rfl,hw.done⟩)
         | (exfalso;omega)
      ·try exact nv c28
       all_goals (refine dD ?_;refine P0 ?_)
       all_goals
       refine bF (λ c28=>?_) (λ c28=>?_)
       ·try exact nv c28
        all_goals (refine J0 ?_;refine aE ?_;refine J3 ?_;refine kD ?_)
        all_goals
         refine bF (λ c34=>?_) (λ c34=>?_)
         ·try exact nv c34
          all_goals refine dH ?_
          all_goals
          refine aR Tryz.results75 (λ w hw=>?_)
          first
           | (rw[bR (by omega),if_neg (by simp_all)];exact⟨rfl,hw.done⟩)
           | (rw[bR (by omega),if_pos (by simp_all)];exact⟨rfl,hw.done⟩)
           | (rw[cC (by omega),if_neg (by rintro ⟨h1,h2,h3⟩;first|omega|simp_all)];exact⟨rfl,hw.done⟩)
           | (rw[cC (by omega),if_pos ⟨by simp_all,by omega,by omega⟩];exact⟨rfl,hw.done⟩)
           | (rw[fF (by omega)];exact⟨rfl,hw.done⟩)
           | (exfalso;omega)
         ·try exact nv c34
          all_goals (refine mN ?_;refine dH ?_)
          all_goals
          refine aR Tryz.results75 (λ w hw=>?_)
          first
           | (rw[bR (by omega),if_neg (by simp_all)];exact⟨rfl,hw.done⟩)
           | (rw[bR (by omega),if_pos (by simp_all)];exact⟨rfl,hw.done⟩)
           | (rw[cC (by omega),if_neg (by rintro ⟨h1,h2,h3⟩;first|omega|simp_all)];exact⟨rfl,hw.done⟩)
           | (rw[cC (by omega),if_pos ⟨by simp_all,by omega,by omega⟩];exact⟨rfl,hw.done⟩)
           | (rw[fF (by omega)];exact⟨rfl,hw.done⟩)
           | (exfalso;omega)
       ·try exact nv c28
        all_goals (refine mN ?_;refine dH ?_)
        all_goals
         refine aR Tryz.results75 (λ w hw=>?_)
         first
         | (rw[bR (by omega),if_neg (by simp_all)];exact⟨rfl,hw.done⟩)
         | (rw[bR (by omega),if_pos (by simp_all)];exact⟨rfl,hw.done⟩)
         | (rw[cC (by omega),if_neg (by rintro ⟨h1,h2,h3⟩;first|omega|simp_all)];exact⟨rfl,hw.done⟩)
         | (rw[cC (by omega),if_pos ⟨by simp_all,by omega,by omega⟩];exact⟨rfl,hw.done⟩)
         | (rw[fF (by omega)];exact⟨rfl,hw.done⟩)
         | (exfalso;omega)
theorem Kn(r:Int)(f:Bool)(w:World):Calls Tryz.prog 76 #[.int .i64 r,.bool f] w λ e w'=>e=.returned (.agg ⟨(I0 r f).cells⟩)/\St w [] [] w':=by
 refine enter Tryz.func76 Tryz.ntmps76 rfl rfl (SF.s0 w) ?_
 simp only[dB]
 all_goals (refine J0 ?_;refine aY (λ x4=>?_);refine aN ?_;refine jE ?_;refine zN ?_)
 all_goals
 refine bH Tryz.results76 (λ w hw=>?_)
 exact⟨rfl,hw.done⟩
theorem Tz{k:Cl}{B:Bool->Tr}{C:Tr}(h:k.kind=10∨k.kind=11):(if k.kind=10 then B false else if k.kind=11 then B true else C)=B (k.kind==11):=by
 rcases h with h|h<;>rw[h]<;>rfl
section
variable{k:Cl}{bx bm:Nat}{x:XS}{dn:Bool}{rs:Rs}{D:List Nat}{A:Fr}{w:World}{g:Gx}
set_option maxRecDepth 100000 in
set_option maxHeartbeats 2000000 in
theorem wi(hg:g.Ok){m:Nat}(n:Nat)(hk:fp k)(hn:n<=1073741824)(hm:m<18446744073709551616)(em:k.mask=(m:Int))(ht:k.t.root<=9223372036854775807)(ha:k.a<=x.L.length)(hb:k.b<=x.L.length)(hnn:k.n<=x.L.length)(hA:∀f∈bG x.L,f∈A)(go:gC g x (lV k (lP k.key m) n))(ok:x.Ok)(hs:SF w D (xH k bx bm x dn rs) A [] (xW x) w):Calls Tryz.prog 63 #[.pointer (some ⟨bx,0,none⟩)] w λ e w'=>∃q:Rs×XS×List aQ,e=.returned (.agg ⟨q.1.cells⟩)/\Nx g x q.2.1 q.2.2 (.done q.1) 0/\SF w D (xH k bx bm q.2.1 dn rs) [] (bG q.2.2) (xW q.2.1) w':=by
  have hk2:=hk
  unfold fp at hk2
  refine enter Tryz.func63 Tryz.ntmps63 rfl rfl (cN hs) ?_
  simp only[dB]
  all_goals (refine J0 ?_;refine aY (λ x2=>?_);refine aN ?_;refine wV ?_;refine aH (aM (k:=25) (vs:=O0 k) rf cQ dS rfl rfl) rfl ?_;refine aY (λ x3=>?_);refine J5 ?_;refine aT ?_;refine iU ?_;(refine aF (cV (hc:=λ w1 hw=>V7 hk w1)) (λ x14=>?_);try (refine aB (λ h14=>?_)));refine J1 ?_;refine J2 ?_;refine lY ?_;refine aN ?_)
  all_goals
   refine bF (λ c16=>?_) (λ c16=>?_)
   · try exact nv c16
     all_goals (refine J2 ?_;refine zN ?_)
     all_goals
      refine bH Tryz.results63 (λ w hw=>?_)
      first
       | exact⟨({Rs.zero with err:=refuse k},x,[]),rfl,⟨go.to (λ _=>if_pos c16),ok,by simp,Nat.le_refl _,(bS _)⟩,hw.aV (hF:=by exact aW.nil)⟩
   · try exact nv c16
     all_goals
      have g0:=go.to (λ _=>if_neg (λ h:refuse k≠0=>absurd (show refuse k=0 from by assumption) h))
      have e0:refuse k=0:=by assumption
     all_goals (refine iW ?_;refine gR ?_;refine aN ?_;refine cZ ?_;refine kK ?_)
     all_goals
      refine bF (λ c21=>?_) (λ c21=>?_)
      · try exact nv c21
        all_goals
         have q:=g0.to (λ _=>if_pos c21)
        all_goals (refine J2 ?_;refine aE ?_;refine aH (aM (k:=2) (vs:=[.int .i64 k.t.root,.bool k.t.ro]) rf cQ dS rfl rfl) rfl ?_;refine J3 ?_;(refine aF (cM (hs:=xH k bx bm x dn rs) (os:=xW x) (hc:=λ w hs=>nT hg k.t k.a _ ht ha q ok hs)) (λ x28=>?_);try (refine aB (λ h28=>?_)));(refine aF (cV (hc:=λ w1 hw=>Kn _ _ w1)) (λ x29=>?_);try (refine aB (λ h29=>?_)));refine J5 ?_)
        all_goals
         refine bH Tryz.results63 (λ w hw=>?_)
         first
          | exact⟨({Rs.zero with err:=refuse k},x,[]),rfl,⟨go.to (λ _=>if_pos c16),ok,by simp,Nat.le_refl _,(bS _)⟩,hw.aV (hF:=by exact aW.nil)⟩
          | exact⟨(I0 x28.1 false,x28.2.1,x28.2.2),rfl,h28.cX h28.go (bS _),by rw[List.append_nil] at hw;exact hw.aV (hF:=by exact aW.all)⟩
      · try exact nv c21
        all_goals
         have g1:=g0.to (λ _=>if_neg c21)
        all_goals refine kK ?_
        all_goals
         refine bF (λ c30=>?_) (λ c30=>?_)
         · try exact nv c30
           all_goals
            have q:=g1.to (λ _=>if_pos c30)
           all_goals (refine J2 ?_;refine aE ?_;refine aH (aM (k:=2) (vs:=[.int .i64 k.t.root,.bool k.t.ro]) rf cQ dS rfl rfl) rfl ?_;refine J3 ?_;refine J3 ?_;refine J3 ?_;(refine aF (cM (hs:=xH k bx bm x dn rs) (os:=xW x) (hc:=λ w hs=>sY hg k.t k.a k.b k.n _ ht ha hnn q ok hs)) (λ x41=>?_);try (refine aB (λ h41=>?_)));(refine aF (cV (hc:=λ w1 hw=>Kn _ _ w1)) (λ x42=>?_);try (refine aB (λ h42=>?_)));refine J5 ?_)
           all_goals
            refine bH Tryz.results63 (λ w hw=>?_)
            first
             | exact⟨({Rs.zero with err:=refuse k},x,[]),rfl,⟨go.to (λ _=>if_pos c16),ok,by simp,Nat.le_refl _,(bS _)⟩,hw.aV (hF:=by exact aW.nil)⟩
             | exact⟨(I0 0 x41.1,x41.2.1,x41.2.2),rfl,h41,by rw[List.append_nil] at hw;exact hw.aV (hF:=by exact aW.all)⟩
         · try exact nv c30
           all_goals
            have g2:=g1.to (λ _=>if_neg c30)
           all_goals refine kK ?_
           all_goals
            refine bF (λ c43=>?_) (λ c43=>?_)
            · try exact nv c43
              all_goals
               have q:=g2.to (λ _=>if_pos c43)
              all_goals (refine J2 ?_;refine aE ?_;refine aH (aM (k:=2) (vs:=[.int .i64 k.t.root,.bool k.t.ro]) rf cQ dS rfl rfl) rfl ?_;(refine aF (cM (hs:=xH k bx bm x dn rs) (os:=xW x) (hc:=λ w hs=>A4 hg k.t _ ht q ok hs)) (λ x48=>?_);try (refine aB (λ h48=>?_)));(refine aF (cV (hc:=λ w1 hw=>Kn _ _ w1)) (λ x49=>?_);try (refine aB (λ h49=>?_)));refine J5 ?_)
              all_goals
               refine bH Tryz.results63 (λ w hw=>?_)
               first
                | exact⟨({Rs.zero with err:=refuse k},x,[]),rfl,⟨go.to (λ _=>if_pos c16),ok,by simp,Nat.le_refl _,(bS _)⟩,hw.aV (hF:=by exact aW.nil)⟩
                | exact⟨(I0 x48.1 false,x48.2.1,x48.2.2),rfl,h48.cX h48.go (bS _),by rw[List.append_nil] at hw;exact hw.aV (hF:=by exact aW.all)⟩
            · try exact nv c43
              all_goals
               have g3:=g2.to (λ _=>if_neg c43)
              all_goals refine kK ?_
              all_goals
               refine bF (λ c50=>?_) (λ c50=>?_)
               · try exact nv c50
                 all_goals
                  have q:=g3.to (λ _=>if_pos c50)
                 all_goals (refine J2 ?_;refine aE ?_;refine aH (aM (k:=2) (vs:=[.int .i64 k.t.root,.bool k.t.ro]) rf cQ dS rfl rfl) rfl ?_;refine J3 ?_;refine J3 ?_;refine J3 ?_;(refine aF (cM (hs:=xH k bx bm x dn rs) (os:=xW x) (hc:=λ w hs=>K4 hg k.t k.a k.b k.n _ ht ha hb hnn q ok hs)) (λ x61=>?_);try (refine aB (λ h61=>?_)));(refine aF (cV (hc:=λ w1 hw=>Kn _ _ w1)) (λ x62=>?_);try (refine aB (λ h62=>?_)));refine J5 ?_)
                 all_goals
                  refine bH Tryz.results63 (λ w hw=>?_)
                  first
                   | exact⟨({Rs.zero with err:=refuse k},x,[]),rfl,⟨go.to (λ _=>if_pos c16),ok,by simp,Nat.le_refl _,(bS _)⟩,hw.aV (hF:=by exact aW.nil)⟩
                   | exact⟨(I0 0 x61.1,x61.2.1,x61.2.2),rfl,h61,by rw[List.append_nil] at hw;exact hw.aV (hF:=by exact aW.all)⟩
               · try exact nv c50
                 all_goals
                  have g4:=g3.to (λ _=>if_neg c50)
                 all_goals refine kK ?_
                 all_goals
                  refine bF (λ c63=>?_) (λ c63=>?_)
                  · try exact nv c63
                    all_goals
                     exfalso;omega
                  · try exact nv c63
                    all_goals refine kK ?_
                    all_goals
                     refine bF (λ c79=>?_) (λ c79=>?_)
                     · try exact nv c79
                       all_goals
                        exfalso;omega
                     · try exact nv c79
                       all_goals refine kK ?_
                       all_goals
                        refine bF (λ c94=>?_) (λ c94=>?_)
                        · try exact nv c94
                          all_goals
                           have q:=g4.to (λ _=>if_pos c94)
                           have ek:k.key.size<=64:=by rw[bR (by omega)] at e0;split at e0;assumption;cases e0
                          all_goals (refine J2 ?_;(refine aF (cM (hs:=xH k bx bm x dn rs) (os:=xW x) (A0:=bG x.L) (hA:=dA.of λ f hf=>.inr (.inl (hA f hf))) (hc:=λ w hs=>ru hg _ n hn hm em ek ht (λ f hf=>hf) q ok hs)) (λ x97=>?_);try (refine aB (λ h97=>?_)));refine J5 ?_)
                          all_goals
                           refine bH Tryz.results63 (λ w hw=>?_)
                           first
                            | exact⟨({Rs.zero with err:=refuse k},x,[]),rfl,⟨go.to (λ _=>if_pos c16),ok,by simp,Nat.le_refl _,(bS _)⟩,hw.aV (hF:=by exact aW.nil)⟩
                            | exact⟨(x97.1,x97.2.1,x97.2.2),rfl,h97,by rw[List.append_nil] at hw;exact hw.aV (hF:=by exact aW.all)⟩
                        · try exact nv c94
                          all_goals
                           have g7:=g4.to (λ _=>if_neg c94)
                          all_goals refine kK ?_
                          all_goals
                           refine bF (λ c98=>?_) (λ c98=>?_)
                           · try exact nv c98
                             all_goals
                              have q:=g7.to (λ _=>if_pos c98)
                              have ek:k.key.size<=64:=by rw[cC (by omega)] at e0;split at e0;(rename_i h;exact h.1);cases e0
                             all_goals (refine J2 ?_;(refine aF (cM (hs:=xH k bx bm x dn rs) (os:=xW x) (A0:=bG x.L) (hA:=dA.of λ f hf=>.inr (.inl (hA f hf))) (hc:=λ w hs=>va hg _ n hn hm em ek ht (λ f hf=>hf) q ok hs)) (λ x101=>?_);try (refine aB (λ h101=>?_)));refine J5 ?_)
                             all_goals
                              refine bH Tryz.results63 (λ w hw=>?_)
                              first
                               | exact⟨({Rs.zero with err:=refuse k},x,[]),rfl,⟨go.to (λ _=>if_pos c16),ok,by simp,Nat.le_refl _,(bS _)⟩,hw.aV (hF:=by exact aW.nil)⟩
                               | exact⟨(x101.1,x101.2.1,x101.2.2),rfl,h101,by rw[List.append_nil] at hw;exact hw.aV (hF:=by exact aW.all)⟩
                           · try exact nv c98
                             all_goals
                              have g8:=g7.to (λ _=>if_neg c98)
                             all_goals refine kK ?_
                             all_goals
                              refine bF (λ c102=>?_) (λ c102=>?_)
                              · try exact nv c102
                                all_goals
                                 have q:=g8.to (λ _=>if_pos c102)
                                 have ek:k.key.size<=64:=by rw[bR (by omega)] at e0;split at e0;assumption;cases e0
                                all_goals (refine J2 ?_;(refine aF (cM (hs:=xH k bx bm x dn rs) (os:=xW x) (A0:=bG x.L) (hA:=dA.of λ f hf=>.inr (.inl (hA f hf))) (hc:=λ w hs=>o6 hg _ n hn hm em ek ht (λ f hf=>hf) q ok hs)) (λ x105=>?_);try (refine aB (λ h105=>?_)));refine J5 ?_)
                                all_goals
                                 refine bH Tryz.results63 (λ w hw=>?_)
                                 first
                                  | exact⟨({Rs.zero with err:=refuse k},x,[]),rfl,⟨go.to (λ _=>if_pos c16),ok,by simp,Nat.le_refl _,(bS _)⟩,hw.aV (hF:=by exact aW.nil)⟩
                                  | exact⟨(x105.1,x105.2.1,x105.2.2),rfl,h105,by rw[List.append_nil] at hw;exact hw.aV (hF:=by exact aW.all)⟩
                              · try exact nv c102
                                all_goals
                                 have g9:=g8.to (λ _=>if_neg c102)
                                all_goals (refine aT ?_;refine kK ?_)
                                all_goals
                                 refine bF (λ c106=>?_) (λ c106=>?_)
                                 · try exact nv c106
                                   all_goals refine aZ ?_
                                   all_goals
                                    refine bF (λ c106=>?_) (λ c106=>?_)
                                    · try exact nv c106
                                      all_goals (refine J2 ?_;refine J3 ?_;refine kV ?_;(refine aF (cM (hs:=xH k bx bm x dn rs) (os:=xW x) (hc:=λ w hs=>E1 hg (k.kind==11) _ n ht (g9.to (λ _=>Tz (B:=λ b=>rV k.t b .done n) (by omega))) ok hs)) (λ x113=>?_);try (refine aB (λ h113=>?_)));refine J5 ?_)
                                      all_goals
                                       refine bH Tryz.results63 (λ w hw=>?_)
                                       first
                                        | exact⟨({Rs.zero with err:=refuse k},x,[]),rfl,⟨go.to (λ _=>if_pos c16),ok,by simp,Nat.le_refl _,(bS _)⟩,hw.aV (hF:=by exact aW.nil)⟩
                                        | exact⟨(x113.1,x113.2.1,x113.2.2),rfl,h113,by rw[List.append_nil] at hw;exact hw.aV (hF:=by exact aW.all)⟩
                                    · try exact nv c106
                                      all_goals refine kK ?_
                                      all_goals
                                       refine bF (λ c114=>?_) (λ c114=>?_)
                                       · try exact nv c114
                                         all_goals
                                          have q:=(g9.to (λ _=>if_neg (by omega))).to (λ _=>if_neg (by omega))
                                         all_goals (refine J2 ?_;(refine aF (cM (hs:=xH k bx bm x dn rs) (os:=xW x) (hc:=λ w hs=>T1 hg _ n ht q ok hs)) (λ x117=>?_);try (refine aB (λ h117=>?_)));refine J5 ?_)
                                         all_goals
                                          refine bH Tryz.results63 (λ w hw=>?_)
                                          first
                                           | exact⟨({Rs.zero with err:=refuse k},x,[]),rfl,⟨go.to (λ _=>if_pos c16),ok,by simp,Nat.le_refl _,(bS _)⟩,hw.aV (hF:=by exact aW.nil)⟩
                                           | exact⟨(x117.1,x117.2.1,x117.2.2),rfl,h117,by rw[List.append_nil] at hw;exact hw.aV (hF:=by exact aW.all)⟩
                                       · try exact nv c114
                                         all_goals
                                          exfalso;omega
                                 · try exact nv c106
                                   all_goals (refine dD ?_;refine P0 ?_)
                                   all_goals
                                    refine bF (λ c106=>?_) (λ c106=>?_)
                                    · try exact nv c106
                                      all_goals (refine J2 ?_;refine J3 ?_;refine kV ?_;(refine aF (cM (hs:=xH k bx bm x dn rs) (os:=xW x) (hc:=λ w hs=>E1 hg (k.kind==11) _ n ht (g9.to (λ _=>Tz (B:=λ b=>rV k.t b .done n) (by omega))) ok hs)) (λ x113=>?_);try (refine aB (λ h113=>?_)));refine J5 ?_)
                                      all_goals
                                       refine bH Tryz.results63 (λ w hw=>?_)
                                       first
                                        | exact⟨({Rs.zero with err:=refuse k},x,[]),rfl,⟨go.to (λ _=>if_pos c16),ok,by simp,Nat.le_refl _,(bS _)⟩,hw.aV (hF:=by exact aW.nil)⟩
                                        | exact⟨(x113.1,x113.2.1,x113.2.2),rfl,h113,by rw[List.append_nil] at hw;exact hw.aV (hF:=by exact aW.all)⟩
                                    · try exact nv c106
                                      all_goals refine kK ?_
                                      all_goals
                                       refine bF (λ c114=>?_) (λ c114=>?_)
                                       · try exact nv c114
                                         all_goals
                                          have q:=(g9.to (λ _=>if_neg (by omega))).to (λ _=>if_neg (by omega))
                                         all_goals (refine J2 ?_;(refine aF (cM (hs:=xH k bx bm x dn rs) (os:=xW x) (hc:=λ w hs=>T1 hg _ n ht q ok hs)) (λ x117=>?_);try (refine aB (λ h117=>?_)));refine J5 ?_)
                                         all_goals
                                          refine bH Tryz.results63 (λ w hw=>?_)
                                          first
                                           | exact⟨({Rs.zero with err:=refuse k},x,[]),rfl,⟨go.to (λ _=>if_pos c16),ok,by simp,Nat.le_refl _,(bS _)⟩,hw.aV (hF:=by exact aW.nil)⟩
                                           | exact⟨(x117.1,x117.2.1,x117.2.2),rfl,h117,by rw[List.append_nil] at hw;exact hw.aV (hF:=by exact aW.all)⟩
                                       · try exact nv c114
                                         all_goals
                                          exfalso;omega
end
end Go.Proofs.YtpobgmdalcpomaaGreat
