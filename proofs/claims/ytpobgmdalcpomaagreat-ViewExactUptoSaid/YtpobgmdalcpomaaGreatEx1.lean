/- Executions of the reference: known, load, cas. -/
import Derived.Test.YtpobgmdalcpomaaGreatGRn1
set_option linter.unusedSimpArgs false
set_option linter.unusedVariables false
namespace Go.Ct
def XS.kn(x:XS)(a:Ac):XS:=if x.st=true then x else if x.a<x.got.length then{x with a:=x.a+1} else if x.fr=0 then{x with st:=true,nx:=a} else{x with fr:=x.fr-1}
def XS.cE(x:XS):Bool:=!x.st&&decide (x.a<x.got.length)
def XS.now(x:XS):Bool:=!x.st&&!decide (x.a<x.got.length)&&!decide (x.fr=0)
theorem XS.mb{x:XS}{a:Ac}(h:x.st=true):x.kn a=x/\x.cE=false/\x.now=false:=⟨if_pos h,by simp[XS.cE,h],by simp[XS.now,h]⟩
theorem XS.Ww{x:XS}{a:Ac}(h:x.st=false)(h1:x.a<x.got.length):x.kn a={x with a:=x.a+1}/\x.cE=true/\x.now=false:=⟨by unfold XS.kn;rw[if_neg (by rw[h];decide),if_pos h1],by simp[XS.cE,h,h1],by simp[XS.now,h1]⟩
theorem XS.l7{x:XS}{a:Ac}(h:x.st=false)(h1:¬x.a<x.got.length)(h2:x.fr=0):x.kn a={x with st:=true,nx:=a}/\x.cE=false/\x.now=false:=⟨by unfold XS.kn;rw[if_neg (by rw[h];decide),if_neg h1,if_pos h2],by simp[XS.cE,h1],by simp[XS.now,h2]⟩
theorem XS.Zt{x:XS}{a:Ac}(h:x.st=false)(h1:¬x.a<x.got.length)(h2:¬x.fr=0):x.kn a={x with fr:=x.fr-1}/\x.cE=false/\x.now=true:=⟨by unfold XS.kn;rw[if_neg (by rw[h];decide),if_neg h1,if_neg h2],by simp[XS.cE,h1],by simp[XS.now,h,h1,h2]⟩
end Go.Ct
namespace Go.Proofs.YtpobgmdalcpomaaGreat
open Go Go.RowKit Go.Ct
section
variable{k:Cl}{bx bm:Nat}{x:XS}{dn:Bool}{rs:Rs}{D:List Nat}{A:Fr}{w:World}
theorem C5(a:Ac)(ok:x.Ok)(hs:SF w D (xH k bx bm x dn rs) A [] (xW x) w):Calls Tryz.prog 133 #[.pointer (some ⟨bx,0,none⟩),.agg ⟨a.cells⟩] w λ e w'=>∃q:Unit,e=.returned (.tuple #[.bool x.cE,.bool x.now])/\True/\SF w D (xH k bx bm (x.kn a) dn rs) [] [] (xW (x.kn a)) w':=by
 have h1:=ok.lg
 have h2:=ok.la
 have h3:=ok.fr
 refine enter Tryz.func133 Tryz.ntmps133 rfl rfl (vk hs) ?_
 simp only[dB]
 all_goals (refine J0 ?_;refine bM (λ x3=>?_);refine J8 ?_;refine aT ?_;refine kZ ?_;refine aN ?_)
 all_goals
 refine bF (λ c9=>?_) (λ c9=>?_)
 ·try exact nv c9
  all_goals refine qE ?_
  all_goals
   refine bH Tryz.results133 (λ w hw=>?_)
   obtain⟨e1,e2,e3⟩:=XS.mb (a:=a) c9
   rw[e1,e2,e3]
   exact⟨(),rfl,trivial,hw.aV⟩
 ·try exact nv c9
  all_goals (refine iW ?_;refine aT ?_;refine eE [0,1,2,3,4,5,6,7,8,9] ?_;refine mY ?_;refine jD ?_;refine Br ?_;refine eO ?_)
  all_goals
   refine bF (λ c19=>?_) (λ c19=>?_)
   ·try exact nv c19
    all_goals (refine kZ ?_;refine rB ?_;refine Lj ?_;refine qE ?_)
    all_goals
    refine bH Tryz.results133 (λ w hw=>?_)
    obtain⟨e1,e2,e3⟩:=XS.Ww (a:=a) c9 (by omega)
    rw[e1,e2,e3]
    exact⟨(),rfl,trivial,hw.aV⟩
   ·try exact nv c19
    all_goals (refine iW ?_;refine kZ ?_;refine tE ?_)
    all_goals
    refine bF (λ c31=>?_) (λ c31=>?_)
    ·try exact nv c31
     all_goals (refine aT ?_;refine dL [(0,[]),(1,[]),(2,[]),(3,[]),(4,[]),(5,[2]),(6,[]),(7,[]),(8,[])] ?_;refine gD ?_;refine bT ?_;refine J4 ?_;refine gV (h:=λ _=>?_);refine J4 ?_;refine kR (i:=8) (hq:=(fQ λ _=>pX (off:=36) (vs:=a.cells) rf cQ rf rfl dS (Nat.le_of_ble_eq_true rfl) rf fZ)) (h:=λ _=>?_);refine eO ?_;refine qE ?_)
     all_goals
      refine bH Tryz.results133 (λ w hw=>?_)
      obtain⟨e1,e2,e3⟩:=XS.l7 (a:=a) c9 (by omega) (by omega)
      rw[e1,e2,e3]
      exact⟨(),rfl,trivial,hw.aV⟩
    ·try exact nv c31
     all_goals (refine Rt ?_;refine kN ?_;refine Lj ?_;refine qE ?_)
     all_goals
      refine bH Tryz.results133 (λ w hw=>?_)
      obtain⟨e1,e2,e3⟩:=XS.Zt (a:=a) c9 (by omega) (by omega)
      rw[e1,e2,e3]
      exact⟨(),rfl,trivial,hw.aV⟩
theorem On(a:Ac)(ok:x.Ok)(h:x.st=true)(hs:SF w D (xH k bx bm x dn rs) A [] (xW x) w):Calls Tryz.prog 133 #[.pointer (some ⟨bx,0,none⟩),.agg ⟨a.cells⟩] w λ e w'=>∃q:Unit,e=.returned (.tuple #[.bool false,.bool false])/\True/\SF w D (xH k bx bm x dn rs) [] [] (xW x) w':=by
 obtain⟨e1,e2,e3⟩:=XS.mb (a:=a) h
 have:=C5 (k:=k) (bx:=bx) (bm:=bm) (dn:=dn) (rs:=rs) (D:=D) (A:=A) (w:=w) a ok hs
 rw[e1,e2,e3] at this
 exact this
theorem G5(a:Ac)(ok:x.Ok)(h:x.st=false)(h1:x.a<x.got.length)(hs:SF w D (xH k bx bm x dn rs) A [] (xW x) w):Calls Tryz.prog 133 #[.pointer (some ⟨bx,0,none⟩),.agg ⟨a.cells⟩] w λ e w'=>∃q:Unit,e=.returned (.tuple #[.bool true,.bool false])/\True/\SF w D (xH k bx bm {x with a:=x.a+1} dn rs) [] [] (xW {x with a:=x.a+1}) w':=by
 obtain⟨e1,e2,e3⟩:=XS.Ww (a:=a) h h1
 have:=C5 (k:=k) (bx:=bx) (bm:=bm) (dn:=dn) (rs:=rs) (D:=D) (A:=A) (w:=w) a ok hs
 rw[e1,e2,e3] at this
 exact this
theorem Nm(a:Ac)(ok:x.Ok)(h:x.st=false)(h1:¬x.a<x.got.length)(h2:x.fr=0)(hs:SF w D (xH k bx bm x dn rs) A [] (xW x) w):Calls Tryz.prog 133 #[.pointer (some ⟨bx,0,none⟩),.agg ⟨a.cells⟩] w λ e w'=>∃q:Unit,e=.returned (.tuple #[.bool false,.bool false])/\True/\SF w D (xH k bx bm {x with st:=true,nx:=a} dn rs) [] [] (xW {x with st:=true,nx:=a}) w':=by
 obtain⟨e1,e2,e3⟩:=XS.l7 (a:=a) h h1 h2
 have:=C5 (k:=k) (bx:=bx) (bm:=bm) (dn:=dn) (rs:=rs) (D:=D) (A:=A) (w:=w) a ok hs
 rw[e1,e2,e3] at this
 exact this
theorem G8(a:Ac)(ok:x.Ok)(h:x.st=false)(h1:¬x.a<x.got.length)(h2:¬x.fr=0)(hs:SF w D (xH k bx bm x dn rs) A [] (xW x) w):Calls Tryz.prog 133 #[.pointer (some ⟨bx,0,none⟩),.agg ⟨a.cells⟩] w λ e w'=>∃q:Unit,e=.returned (.tuple #[.bool false,.bool true])/\True/\SF w D (xH k bx bm {x with fr:=x.fr-1} dn rs) [] [] (xW {x with fr:=x.fr-1}) w':=by
 obtain⟨e1,e2,e3⟩:=XS.Zt (a:=a) h h1 h2
 have:=C5 (k:=k) (bx:=bx) (bm:=bm) (dn:=dn) (rs:=rs) (D:=D) (A:=A) (w:=w) a ok hs
 rw[e1,e2,e3] at this
 exact this
theorem je(c:Int)(ok:x.Ok)(h:x.st=true)(hs:SF w D (xH k bx bm x dn rs) A [] (xW x) w):Calls Tryz.prog 104 #[.pointer (some ⟨bx,0,none⟩),.int .i64 c] w λ e w'=>∃q:Unit,e=.returned (.int .i64 0)/\True/\SF w D (xH k bx bm x dn rs) [] [] (xW x) w':=by
 refine enter Tryz.func104 Tryz.ntmps104 rfl rfl (cN hs) ?_
 simp only[dB]
 all_goals (refine dH ?_;refine jE ?_;refine bV ?_;(refine aF (cM (hs:=xH k bx bm x dn rs) (os:=xW x) (hc:=λ w hs=>On ⟨1,c,0,0⟩ ok h hs)) (λ x11=>?_);try (refine aB (λ h11=>?_)));refine pZ ?_;refine J8 ?_;refine jS ?_;refine aN ?_)
 all_goals
 refine bF (λ c14=>?_) (λ c14=>?_)
 ·try exact nv c14
  all_goals try (exact absurd (by assumption) (by decide:¬(true=false)))
  all_goals (refine dL [(0,[]),(1,[]),(2,[]),(3,[]),(4,[]),(5,[]),(6,[]),(7,[]),(8,[]),(9,[]),(10,[]),(14,[]),(15,[]),(16,[]),(17,[]),(18,[]),(11,[5,17]),(12,[5,17]),(13,[17]),(19,[]),(20,[]),(21,[]),(22,[]),(23,[]),(24,[])] ?_;refine gD ?_;refine mY ?_;refine Gg ?_;refine tG ?_;((refine bA (i:=11) (hq:=(NO)) (h:=λ x26=>?_);try (refine aK (λ h26=>?_))));refine bB (h:=λ x27=>?_);((refine cR (h:=λ x28=>?_);try (refine aK (λ h28=>?_))));refine J4 ?_;refine gV (h:=λ _=>?_);refine Il ?_;refine jS ?_;refine As ?_)
  all_goals (first|refine aG ?_|(refine aC ?_;refine aA ?_)|(refine dG 40 (λ g40=>?_) (λ g40=>?_)<;>(try (exact absurd (by assumption) (by decide:¬(true=false))))<;>(first|refine aG ?_|(refine aC ?_;refine aA ?_))))
  all_goals (refine Ju ?_;refine aN ?_)
  all_goals
   refine bF (λ c43=>?_) (λ c43=>?_)
   ·try exact nv c43
    all_goals try (exact absurd (by assumption) (by decide:¬(true=false)))
    all_goals refine dH ?_
    all_goals
    refine aR Tryz.results104 (λ w hw=>?_)
    exact⟨(),rfl,trivial,hw.aV⟩
   ·try exact nv c43
    all_goals try (exact absurd (by assumption) (by decide:¬(true=false)))
    all_goals (refine iW ?_;refine eE [0,1,2,3,4,5,6,7,8,9,10,11] ?_;refine mY ?_;refine kU ?_;refine Cv ?_;refine J7 ?_)
    all_goals
    refine aR Tryz.results104 (λ w hw=>?_)
    exact⟨(),rfl,trivial,hw.aV⟩
 ·try exact nv c14
  all_goals try (exact absurd (by assumption) (by decide:¬(true=false)))
  all_goals (refine iW ?_;refine J2 ?_;refine As ?_)
  all_goals (first|refine aG ?_|(refine aC ?_;refine aA ?_)|(refine dG 40 (λ g40=>?_) (λ g40=>?_)<;>(try (exact absurd (by assumption) (by decide:¬(true=false))))<;>(first|refine aG ?_|(refine aC ?_;refine aA ?_))))
  all_goals (refine Ju ?_;refine aN ?_)
  all_goals
   refine bF (λ c43=>?_) (λ c43=>?_)
   ·try exact nv c43
    all_goals try (exact absurd (by assumption) (by decide:¬(true=false)))
    all_goals refine dH ?_
    all_goals
    refine aR Tryz.results104 (λ w hw=>?_)
    exact⟨(),rfl,trivial,hw.aV⟩
   ·try exact nv c43
    all_goals try (exact absurd (by assumption) (by decide:¬(true=false)))
    all_goals (refine iW ?_;refine eE [0,1,2,3,4,5,6,7,8,9,10,11] ?_;refine mY ?_;refine kU ?_;refine Cv ?_;refine J7 ?_)
    all_goals
    refine aR Tryz.results104 (λ w hw=>?_)
    exact⟨(),rfl,trivial,hw.aV⟩
theorem eh(c:Int)(ok:x.Ok)(h:x.st=false)(h1:¬x.a<x.got.length)(h2:x.fr=0)(hs:SF w D (xH k bx bm x dn rs) A [] (xW x) w):Calls Tryz.prog 104 #[.pointer (some ⟨bx,0,none⟩),.int .i64 c] w λ e w'=>∃q:Unit,e=.returned (.int .i64 0)/\True/\SF w D (xH k bx bm {x with st:=true,nx:=⟨1,c,0,0⟩} dn rs) [] [] (xW {x with st:=true,nx:=⟨1,c,0,0⟩}) w':=by
 refine enter Tryz.func104 Tryz.ntmps104 rfl rfl (cN hs) ?_
 simp only[dB]
 all_goals (refine dH ?_;refine jE ?_;refine bV ?_;(refine aF (cM (hs:=xH k bx bm x dn rs) (os:=xW x) (hc:=λ w hs=>Nm ⟨1,c,0,0⟩ ok h h1 h2 hs)) (λ x11=>?_);try (refine aB (λ h11=>?_)));refine pZ ?_;refine J8 ?_;refine jS ?_;refine aN ?_)
 all_goals
 refine bF (λ c14=>?_) (λ c14=>?_)
 ·try exact nv c14
  all_goals try (exact absurd (by assumption) (by decide:¬(true=false)))
  all_goals (refine dL [(0,[]),(1,[]),(2,[]),(3,[]),(4,[]),(5,[]),(6,[]),(7,[]),(8,[]),(9,[]),(10,[]),(14,[]),(15,[]),(16,[]),(17,[]),(18,[]),(11,[5,17]),(12,[5,17]),(13,[17]),(19,[]),(20,[]),(21,[]),(22,[]),(23,[]),(24,[])] ?_;refine gD ?_;refine mY ?_;refine Gg ?_;refine tG ?_;((refine bA (i:=11) (hq:=(NO)) (h:=λ x26=>?_);try (refine aK (λ h26=>?_))));refine bB (h:=λ x27=>?_);((refine cR (h:=λ x28=>?_);try (refine aK (λ h28=>?_))));refine J4 ?_;refine gV (h:=λ _=>?_);refine Il ?_;refine jS ?_;refine As ?_)
  all_goals (first|refine aG ?_|(refine aC ?_;refine aA ?_)|(refine dG 40 (λ g40=>?_) (λ g40=>?_)<;>(try (exact absurd (by assumption) (by decide:¬(true=false))))<;>(first|refine aG ?_|(refine aC ?_;refine aA ?_))))
  all_goals (refine Ju ?_;refine aN ?_)
  all_goals
   refine bF (λ c43=>?_) (λ c43=>?_)
   ·try exact nv c43
    all_goals try (exact absurd (by assumption) (by decide:¬(true=false)))
    all_goals refine dH ?_
    all_goals
    refine aR Tryz.results104 (λ w hw=>?_)
    exact⟨(),rfl,trivial,hw.aV⟩
   ·try exact nv c43
    all_goals try (exact absurd (by assumption) (by decide:¬(true=false)))
    all_goals (refine iW ?_;refine eE [0,1,2,3,4,5,6,7,8,9,10,11] ?_;refine mY ?_;refine kU ?_;refine Cv ?_;refine J7 ?_)
    all_goals
    refine aR Tryz.results104 (λ w hw=>?_)
    exact⟨(),rfl,trivial,hw.aV⟩
 ·try exact nv c14
  all_goals try (exact absurd (by assumption) (by decide:¬(true=false)))
  all_goals (refine iW ?_;refine J2 ?_;refine As ?_)
  all_goals (first|refine aG ?_|(refine aC ?_;refine aA ?_)|(refine dG 40 (λ g40=>?_) (λ g40=>?_)<;>(try (exact absurd (by assumption) (by decide:¬(true=false))))<;>(first|refine aG ?_|(refine aC ?_;refine aA ?_))))
  all_goals (refine Ju ?_;refine aN ?_)
  all_goals
   refine bF (λ c43=>?_) (λ c43=>?_)
   ·try exact nv c43
    all_goals try (exact absurd (by assumption) (by decide:¬(true=false)))
    all_goals refine dH ?_
    all_goals
    refine aR Tryz.results104 (λ w hw=>?_)
    exact⟨(),rfl,trivial,hw.aV⟩
   ·try exact nv c43
    all_goals try (exact absurd (by assumption) (by decide:¬(true=false)))
    all_goals (refine iW ?_;refine eE [0,1,2,3,4,5,6,7,8,9,10,11] ?_;refine mY ?_;refine kU ?_;refine Cv ?_;refine J7 ?_)
    all_goals
    refine aR Tryz.results104 (λ w hw=>?_)
    exact⟨(),rfl,trivial,hw.aV⟩
theorem E9(c:Int)(ok:x.Ok)(h:x.st=false)(h1:x.a<x.got.length)(hs:SF w D (xH k bx bm x dn rs) A [] (xW x) w):Calls Tryz.prog 104 #[.pointer (some ⟨bx,0,none⟩),.int .i64 c] w λ e w'=>∃q:Unit,e=.returned (.int .i64 (x.got.getD x.a 0))/\True/\SF w D (xH k bx bm {x with a:=x.a+1} dn rs) [] [] (xW {x with a:=x.a+1}) w':=by
 have hg:=ok.lg
 refine enter Tryz.func104 Tryz.ntmps104 rfl rfl (cN hs) ?_
 simp only[dB]
 all_goals (refine dH ?_;refine jE ?_;refine bV ?_;(refine aF (cM (hs:=xH k bx bm x dn rs) (os:=xW x) (hc:=λ w hs=>G5 ⟨1,c,0,0⟩ ok h h1 hs)) (λ x11=>?_);try (refine aB (λ h11=>?_)));refine pZ ?_;refine J8 ?_;refine jS ?_;refine aN ?_)
 all_goals
 refine bF (λ c14=>?_) (λ c14=>?_)
 ·try exact nv c14
  all_goals try (exact absurd (by assumption) (by decide:¬(true=false)))
  all_goals (refine dL [(0,[]),(1,[]),(2,[]),(3,[]),(4,[]),(5,[]),(6,[]),(7,[]),(8,[]),(9,[]),(10,[]),(14,[]),(15,[]),(16,[]),(17,[]),(18,[]),(11,[5,17]),(12,[5,17]),(13,[17]),(19,[]),(20,[]),(21,[]),(22,[]),(23,[]),(24,[])] ?_;refine gD ?_;refine mY ?_;refine Gg ?_;refine tG ?_;((refine bA (i:=11) (hq:=(NO)) (h:=λ x26=>?_);try (refine aK (λ h26=>?_))));refine bB (h:=λ x27=>?_);((refine cR (h:=λ x28=>?_);try (refine aK (λ h28=>?_))));refine J4 ?_;refine gV (h:=λ _=>?_);refine Il ?_;refine jS ?_;refine As ?_)
  all_goals (first|refine aG ?_|(refine aC ?_;refine aA ?_)|(refine dG 40 (λ g40=>?_) (λ g40=>?_)<;>(try (exact absurd (by assumption) (by decide:¬(true=false))))<;>(first|refine aG ?_|(refine aC ?_;refine aA ?_))))
  all_goals (refine Ju ?_;refine aN ?_)
  all_goals
   refine bF (λ c43=>?_) (λ c43=>?_)
   ·try exact nv c43
    all_goals try (exact absurd (by assumption) (by decide:¬(true=false)))
    all_goals refine dH ?_
    all_goals
    refine aR Tryz.results104 (λ w hw=>?_)
    exact⟨(),by rw[Nat.add_sub_cancel];rfl,trivial,hw.aV⟩
   ·try exact nv c43
    all_goals try (exact absurd (by assumption) (by decide:¬(true=false)))
    all_goals (refine iW ?_;refine eE [0,1,2,3,4,5,6,7,8,9,10,11] ?_;refine mY ?_;refine cI (i:=8) (hq:=(fP (m:=x.a+1) (n:=1) rf rf (by omega) (by omega))) (h:=?_);refine bP (i:=9) (hq:=(bW (m:=x.got.length) (k:=x.a+1-1) (lst:=x.got) rf rf fG bU (.own .head) (by omega) (by omega))) (h:=?_);refine bP (i:=10) (hq:=(cJ (q:=x.a+1-1) (lst:=x.got) rf bU (.own .head) (by omega))) (h:=?_);refine J7 ?_)
    all_goals
    refine aR Tryz.results104 (λ w hw=>?_)
    exact⟨(),by rw[Nat.add_sub_cancel];rfl,trivial,hw.aV⟩
 ·try exact nv c14
  all_goals try (exact absurd (by assumption) (by decide:¬(true=false)))
  all_goals (refine iW ?_;refine J2 ?_;refine As ?_)
  all_goals (first|refine aG ?_|(refine aC ?_;refine aA ?_)|(refine dG 40 (λ g40=>?_) (λ g40=>?_)<;>(try (exact absurd (by assumption) (by decide:¬(true=false))))<;>(first|refine aG ?_|(refine aC ?_;refine aA ?_))))
  all_goals (refine Ju ?_;refine aN ?_)
  all_goals
   refine bF (λ c43=>?_) (λ c43=>?_)
   ·try exact nv c43
    all_goals try (exact absurd (by assumption) (by decide:¬(true=false)))
    all_goals refine dH ?_
    all_goals
    refine aR Tryz.results104 (λ w hw=>?_)
    exact⟨(),by rw[Nat.add_sub_cancel];rfl,trivial,hw.aV⟩
   ·try exact nv c43
    all_goals try (exact absurd (by assumption) (by decide:¬(true=false)))
    all_goals (refine iW ?_;refine eE [0,1,2,3,4,5,6,7,8,9,10,11] ?_;refine mY ?_;refine cI (i:=8) (hq:=(fP (m:=x.a+1) (n:=1) rf rf (by omega) (by omega))) (h:=?_);refine bP (i:=9) (hq:=(bW (m:=x.got.length) (k:=x.a+1-1) (lst:=x.got) rf rf fG bU (.own .head) (by omega) (by omega))) (h:=?_);refine bP (i:=10) (hq:=(cJ (q:=x.a+1-1) (lst:=x.got) rf bU (.own .head) (by omega))) (h:=?_);refine J7 ?_)
    all_goals
    refine aR Tryz.results104 (λ w hw=>?_)
    exact⟨(),by rw[Nat.add_sub_cancel];rfl,trivial,hw.aV⟩
theorem Xs(c:Int)(hc:c<=9223372036854775807)(ok:x.Ok)(h:x.st=false)(h1:¬x.a<x.got.length)(h2:¬x.fr=0)(hs:SF w D (xH k bx bm x dn rs) A [] (xW x) w):Calls Tryz.prog 104 #[.pointer (some ⟨bx,0,none⟩),.int .i64 c] w λ e w'=>∃q:Option Addr×Nat,e=.returned (.int .i64 (bY x.cs c))/\True/\SF w D (xH k bx bm {x with fr:=x.fr-1,acc:=up x.acc,got:=x.got++[bY x.cs c],pg:=q.1,kg:=q.2,a:=x.a+1} dn rs) [] [] (xW {x with fr:=x.fr-1,acc:=up x.acc,got:=x.got++[bY x.cs c],pg:=q.1,kg:=q.2,a:=x.a+1}) w':=by
 have hg:=ok.lg
 have ha:=ok.la
 have hlc:=ok.lc
 refine enter Tryz.func104 Tryz.ntmps104 rfl rfl (cN hs) ?_
 simp only[dB]
 all_goals (refine dH ?_;refine jE ?_;refine bV ?_;(refine aF (cM (hs:=xH k bx bm x dn rs) (os:=xW x) (hc:=λ w hs=>G8 ⟨1,c,0,0⟩ ok h h1 h2 hs)) (λ x11=>?_);try (refine aB (λ h11=>?_)));refine pZ ?_;refine J8 ?_;refine jS ?_;refine aN ?_)
 all_goals
 refine bF (λ c14=>?_) (λ c14=>?_)
 ·try exact nv c14
  all_goals try (exact absurd (by assumption) (by decide:¬(true=false)))
  all_goals (refine dL [(0,[]),(1,[]),(2,[]),(3,[]),(4,[]),(5,[]),(6,[]),(7,[]),(8,[]),(9,[]),(10,[]),(14,[]),(15,[]),(16,[]),(17,[]),(18,[]),(11,[5,17]),(12,[5,17]),(13,[17]),(19,[]),(20,[]),(21,[]),(22,[]),(23,[]),(24,[])] ?_;refine gD ?_;refine mY ?_;refine Gg ?_;refine cI (i:=18) (hq:=(gO (m:=x.a) (n:=1) rf rf (by omega))) (h:=?_);((refine bA (i:=11) (hq:=(cM (hc:=λ w hs=>j9 (L:=x.L) (cs:=x.cs) hs c hc (by omega)))) (h:=λ x26=>?_);try (refine aK (λ h26=>?_))));refine bB (h:=λ x27=>?_);((refine bA (i:=13) (hq:=(aP.eL (rU (l:=x.got) (v:=bY x.cs c) (m:=x.got.length) rf rf .head rfl fin Wa fG (by omega)) dV)) (h:=λ x28=>?_);try (refine aK (λ h28=>?_))));refine J4 ?_;refine kR (i:=21) (hq:=(by first|exact fQ λ _=>bN rf cQ wn rf bU rf rf fZ|exact(fQ λ _=>bN rf cQ wn rf bU rf wX fZ)|exact(fQ λ _=>bZ rf cQ rf rf dS rf fZ)|exact(aP.bC (cW rf rf bU dZ om) dV)|exact(aP.bC (cU rf rf bU dZ om) dV)|exact(aP.bC (o_storePv rf rf bU dZ om) dV)|exact(aP.bC (o_storeP rf rf dS dZ om) dV))) (h:=λ _=>?_);refine J4 ?_;refine kR (i:=24) (hq:=(by first|exact fQ λ _=>bN rf cQ wn rf bU rf rf fZ|exact(fQ λ _=>bN rf cQ wn rf bU rf wX fZ)|exact(fQ λ _=>bZ rf cQ rf rf dS rf fZ)|exact(aP.bC (cW rf rf bU dZ om) dV)|exact(aP.bC (cU rf rf bU dZ om) dV)|exact(aP.bC (o_storePv rf rf bU dZ om) dV)|exact(aP.bC (o_storeP rf rf dS dZ om) dV))) (h:=λ _=>?_);refine eO ?_;refine jS ?_;refine As ?_)
  all_goals (first|refine aG ?_|(refine aC ?_;refine aA ?_)|(refine dG 40 (λ g40=>?_) (λ g40=>?_)<;>(try (exact absurd (by assumption) (by decide:¬(true=false))))<;>(first|refine aG ?_|(refine aC ?_;refine aA ?_))))
  all_goals (refine Ju ?_;refine aN ?_)
  all_goals
   refine bF (λ c43=>?_) (λ c43=>?_)
   ·try exact nv c43
    all_goals try (exact absurd (by assumption) (by decide:¬(true=false)))
    all_goals refine dH ?_
    all_goals
    refine aR Tryz.results104 (λ w hw=>?_)
    rw[show x.got.length+1=(x.got++[bY x.cs c]).length by simp] at hw
    exact⟨x28,by rw[show(x.got++[bY x.cs c]).getD (x.a+1-1) 0=bY x.cs c by rw[show x.a+1-1=x.got.length by omega,gdg,List.getElem?_append_right (Nat.le_refl _)];simp];rfl,trivial,hw.aV⟩
   ·try exact nv c43
    all_goals try (exact absurd (by assumption) (by decide:¬(true=false)))
    all_goals (refine iW ?_;refine eE [0,1,2,3,4,5,6,7,8,9,10,11] ?_;refine mY ?_;refine cI (i:=8) (hq:=(fP (m:=x.a+1) (n:=1) rf rf (by omega) (by omega))) (h:=?_);refine bP (i:=9) (hq:=(bW (m:=x.got.length+1) (k:=x.a+1-1) (lst:=x.got++[bY x.cs c]) rf rf fG bU (.own .head) (by omega) (by rw[List.length_append,List.length_cons,List.length_nil];omega))) (h:=?_);refine bP (i:=10) (hq:=(cJ (q:=x.a+1-1) (lst:=x.got++[bY x.cs c]) rf bU (.own .head) (by rw[List.length_append,List.length_cons,List.length_nil];omega))) (h:=?_);refine J7 ?_)
    all_goals
    refine aR Tryz.results104 (λ w hw=>?_)
    rw[show x.got.length+1=(x.got++[bY x.cs c]).length by simp] at hw
    exact⟨x28,by rw[show(x.got++[bY x.cs c]).getD (x.a+1-1) 0=bY x.cs c by rw[show x.a+1-1=x.got.length by omega,gdg,List.getElem?_append_right (Nat.le_refl _)];simp];rfl,trivial,hw.aV⟩
 ·try exact nv c14
  all_goals try (exact absurd (by assumption) (by decide:¬(true=false)))
  all_goals (refine iW ?_;refine J2 ?_;refine As ?_)
  all_goals (first|refine aG ?_|(refine aC ?_;refine aA ?_)|(refine dG 40 (λ g40=>?_) (λ g40=>?_)<;>(try (exact absurd (by assumption) (by decide:¬(true=false))))<;>(first|refine aG ?_|(refine aC ?_;refine aA ?_))))
  all_goals (refine Ju ?_;refine aN ?_)
  all_goals
   refine bF (λ c43=>?_) (λ c43=>?_)
   ·try exact nv c43
    all_goals try (exact absurd (by assumption) (by decide:¬(true=false)))
    all_goals refine dH ?_
    all_goals
    refine aR Tryz.results104 (λ w hw=>?_)
    rw[show x.got.length+1=(x.got++[bY x.cs c]).length by simp] at hw
    exact⟨x28,by rw[show(x.got++[bY x.cs c]).getD (x.a+1-1) 0=bY x.cs c by rw[show x.a+1-1=x.got.length by omega,gdg,List.getElem?_append_right (Nat.le_refl _)];simp];rfl,trivial,hw.aV⟩
   ·try exact nv c43
    all_goals try (exact absurd (by assumption) (by decide:¬(true=false)))
    all_goals (refine iW ?_;refine eE [0,1,2,3,4,5,6,7,8,9,10,11] ?_;refine mY ?_;refine cI (i:=8) (hq:=(fP (m:=x.a+1) (n:=1) rf rf (by omega) (by omega))) (h:=?_);refine bP (i:=9) (hq:=(bW (m:=x.got.length+1) (k:=x.a+1-1) (lst:=x.got++[bY x.cs c]) rf rf fG bU (.own .head) (by omega) (by rw[List.length_append,List.length_cons,List.length_nil];omega))) (h:=?_);refine bP (i:=10) (hq:=(cJ (q:=x.a+1-1) (lst:=x.got++[bY x.cs c]) rf bU (.own .head) (by rw[List.length_append,List.length_cons,List.length_nil];omega))) (h:=?_);refine J7 ?_)
    all_goals
    refine aR Tryz.results104 (λ w hw=>?_)
    rw[show x.got.length+1=(x.got++[bY x.cs c]).length by simp] at hw
    exact⟨x28,by rw[show(x.got++[bY x.cs c]).getD (x.a+1-1) 0=bY x.cs c by rw[show x.a+1-1=x.got.length by omega,gdg,List.getElem?_append_right (Nat.le_refl _)];simp];rfl,trivial,hw.aV⟩
end
end Go.Proofs.YtpobgmdalcpomaaGreat
