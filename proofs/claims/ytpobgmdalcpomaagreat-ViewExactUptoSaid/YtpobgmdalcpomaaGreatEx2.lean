/- Executions of the reference: cas. -/
import Derived.Test.YtpobgmdalcpomaaGreatEx1
set_option linter.unusedSimpArgs false
set_option linter.unusedVariables false
namespace Go.Ct
def O2(b:Bool):Int:=if b=true then 1 else 0
theorem hX(l:List Int)(v:Int):(l++[v]).getD l.length 0=v:=by rw[gdg,List.getElem?_append_right (Nat.le_refl _)];simp
end Go.Ct
namespace Go.Proofs.YtpobgmdalcpomaaGreat
open Go Go.RowKit Go.Ct
section
variable{k:Cl}{bx bm:Nat}{x:XS}{dn:Bool}{rs:Rs}{D:List Nat}{A:Fr}{w:World}
theorem sf(c o n:Int)(ok:x.Ok)(h:x.st=true)(hs:SF w D (xH k bx bm x dn rs) A [] (xW x) w):Calls Tryz.prog 106 #[.pointer (some ⟨bx,0,none⟩),.int .i64 c,.int .i64 o,.int .i64 n] w λ e w'=>∃q:Unit,e=.returned (.bool false)/\True/\SF w D (xH k bx bm x dn rs) [] [] (xW x) w':=by
 refine enter Tryz.func106 Tryz.ntmps106 rfl rfl (cN hs) ?_
 simp only[dB]
 all_goals (refine dH ?_;refine jE ?_;refine oI ?_;refine bV ?_;(refine aF (cM (hs:=xH k bx bm x dn rs) (os:=xW x) (hc:=λ w hs=>On ⟨2,c,o,n⟩ ok h hs)) (λ x18=>?_);try (refine aB (λ h18=>?_)));refine pZ ?_;refine J8 ?_;refine jS ?_;refine aN ?_)
 all_goals
 refine bF (λ c21=>?_) (λ c21=>?_)
 ·try exact nv c21
  all_goals try (exact absurd (by assumption) (by decide:¬(true=false)))
  all_goals (refine Be ?_;refine kZ ?_;refine oI ?_;refine aA ?_;(refine aF (NO) (λ x29=>?_);try (refine aB (λ h29=>?_)));refine aN ?_)
  all_goals
   refine bF (λ c29=>?_) (λ c29=>?_)
   ·try exact nv c29
    all_goals try (exact absurd (by assumption) (by decide:¬(true=false)))
    all_goals (refine dD ?_;refine J1 ?_;refine dL [(0,[]),(1,[]),(2,[]),(3,[]),(4,[]),(5,[]),(6,[]),(9,[]),(10,[]),(11,[]),(12,[]),(13,[]),(7,[5,12]),(8,[12]),(14,[]),(15,[]),(16,[]),(17,[]),(18,[]),(19,[])] ?_;refine gD ?_;refine Pd ?_;refine Gg ?_;refine tG ?_;refine bB (h:=λ x37=>?_);((refine cR (h:=λ x38=>?_);try (refine aK (λ h38=>?_))));refine J4 ?_;refine gV (h:=λ _=>?_);refine Il ?_;refine aT ?_;refine eE [0,1,2,3,4,5,6,7,8,9,10,11,12,13,14,15,16,17,18] ?_;refine gD ?_)
    all_goals (first|refine cB ?_|(refine aL ?_)|(refine wT 49 (λ g49=>?_) (λ g49=>?_)<;>(try (exact absurd (by assumption) (by decide:¬(true=false))))<;>(first|refine cB ?_|(refine aL ?_))))
    all_goals (refine hU ?_;refine aL ?_)
    all_goals (first|refine cB ?_|(refine aL ?_)|(refine wT 52 (λ g52=>?_) (λ g52=>?_)<;>(try (exact absurd (by assumption) (by decide:¬(true=false))))<;>(first|refine cB ?_|(refine aL ?_))))
    all_goals (refine Wb ?_;refine U4 ?_;(first|refine cB ?_|(refine kU ?_));refine ue ?_;refine Wf ?_;refine J7 ?_)
    all_goals
    refine aR Tryz.results106 (λ w hw=>?_)
    exact⟨(),rfl,trivial,hw.aV⟩
   ·try exact nv c29
    all_goals try (exact absurd (by assumption) (by decide:¬(true=false)))
    all_goals (refine aZ ?_;refine dL [(0,[]),(1,[]),(2,[]),(3,[]),(4,[]),(5,[]),(6,[]),(9,[]),(10,[]),(11,[]),(12,[]),(13,[]),(7,[5,12]),(8,[12]),(14,[]),(15,[]),(16,[]),(17,[]),(18,[]),(19,[])] ?_;refine gD ?_;refine Pd ?_;refine Gg ?_;refine tG ?_;refine bB (h:=λ x37=>?_);((refine cR (h:=λ x38=>?_);try (refine aK (λ h38=>?_))));refine J4 ?_;refine gV (h:=λ _=>?_);refine Il ?_;refine aT ?_;refine eE [0,1,2,3,4,5,6,7,8,9,10,11,12,13,14,15,16,17,18] ?_;refine gD ?_)
    all_goals (first|refine cB ?_|(refine aL ?_)|(refine wT 49 (λ g49=>?_) (λ g49=>?_)<;>(try (exact absurd (by assumption) (by decide:¬(true=false))))<;>(first|refine cB ?_|(refine aL ?_))))
    all_goals (refine hU ?_;refine aL ?_)
    all_goals (first|refine cB ?_|(refine aL ?_)|(refine wT 52 (λ g52=>?_) (λ g52=>?_)<;>(try (exact absurd (by assumption) (by decide:¬(true=false))))<;>(first|refine cB ?_|(refine aL ?_))))
    all_goals (refine Wb ?_;refine U4 ?_;(first|refine cB ?_|(refine kU ?_));refine ue ?_;refine Wf ?_;refine J7 ?_)
    all_goals
    refine aR Tryz.results106 (λ w hw=>?_)
    exact⟨(),rfl,trivial,hw.aV⟩
 ·try exact nv c21
  all_goals try (exact absurd (by assumption) (by decide:¬(true=false)))
  all_goals (refine iW ?_;refine eE [0,1,2,3,4,5,6,7,8,9,10,11,12,13,14,15,16,17,18] ?_;refine gD ?_)
  all_goals (first|refine cB ?_|(refine aL ?_)|(refine wT 49 (λ g49=>?_) (λ g49=>?_)<;>(try (exact absurd (by assumption) (by decide:¬(true=false))))<;>(first|refine cB ?_|(refine aL ?_))))
  all_goals (refine hU ?_;refine aL ?_)
  all_goals (first|refine cB ?_|(refine aL ?_)|(refine wT 52 (λ g52=>?_) (λ g52=>?_)<;>(try (exact absurd (by assumption) (by decide:¬(true=false))))<;>(first|refine cB ?_|(refine aL ?_))))
  all_goals (refine Wb ?_;refine U4 ?_;(first|refine cB ?_|(refine kU ?_));refine ue ?_;refine Wf ?_;refine J7 ?_)
  all_goals
   refine aR Tryz.results106 (λ w hw=>?_)
   exact⟨(),rfl,trivial,hw.aV⟩
theorem pq(c o n:Int)(ok:x.Ok)(h:x.st=false)(h1:¬x.a<x.got.length)(h2:x.fr=0)(hs:SF w D (xH k bx bm x dn rs) A [] (xW x) w):Calls Tryz.prog 106 #[.pointer (some ⟨bx,0,none⟩),.int .i64 c,.int .i64 o,.int .i64 n] w λ e w'=>∃q:Unit,e=.returned (.bool false)/\True/\SF w D (xH k bx bm {x with st:=true,nx:=⟨2,c,o,n⟩} dn rs) [] [] (xW {x with st:=true,nx:=⟨2,c,o,n⟩}) w':=by
 refine enter Tryz.func106 Tryz.ntmps106 rfl rfl (cN hs) ?_
 simp only[dB]
 all_goals (refine dH ?_;refine jE ?_;refine oI ?_;refine bV ?_;(refine aF (cM (hs:=xH k bx bm x dn rs) (os:=xW x) (hc:=λ w hs=>Nm ⟨2,c,o,n⟩ ok h h1 h2 hs)) (λ x18=>?_);try (refine aB (λ h18=>?_)));refine pZ ?_;refine J8 ?_;refine jS ?_;refine aN ?_)
 all_goals
 refine bF (λ c21=>?_) (λ c21=>?_)
 ·try exact nv c21
  all_goals try (exact absurd (by assumption) (by decide:¬(true=false)))
  all_goals (refine Be ?_;refine kZ ?_;refine oI ?_;refine aA ?_;(refine aF (NO) (λ x29=>?_);try (refine aB (λ h29=>?_)));refine aN ?_)
  all_goals
   refine bF (λ c29=>?_) (λ c29=>?_)
   ·try exact nv c29
    all_goals try (exact absurd (by assumption) (by decide:¬(true=false)))
    all_goals (refine dD ?_;refine J1 ?_;refine dL [(0,[]),(1,[]),(2,[]),(3,[]),(4,[]),(5,[]),(6,[]),(9,[]),(10,[]),(11,[]),(12,[]),(13,[]),(7,[5,12]),(8,[12]),(14,[]),(15,[]),(16,[]),(17,[]),(18,[]),(19,[])] ?_;refine gD ?_;refine Pd ?_;refine Gg ?_;refine tG ?_;refine bB (h:=λ x37=>?_);((refine cR (h:=λ x38=>?_);try (refine aK (λ h38=>?_))));refine J4 ?_;refine gV (h:=λ _=>?_);refine Il ?_;refine aT ?_;refine eE [0,1,2,3,4,5,6,7,8,9,10,11,12,13,14,15,16,17,18] ?_;refine gD ?_)
    all_goals (first|refine cB ?_|(refine aL ?_)|(refine wT 49 (λ g49=>?_) (λ g49=>?_)<;>(try (exact absurd (by assumption) (by decide:¬(true=false))))<;>(first|refine cB ?_|(refine aL ?_))))
    all_goals (refine hU ?_;refine aL ?_)
    all_goals (first|refine cB ?_|(refine aL ?_)|(refine wT 52 (λ g52=>?_) (λ g52=>?_)<;>(try (exact absurd (by assumption) (by decide:¬(true=false))))<;>(first|refine cB ?_|(refine aL ?_))))
    all_goals (refine Wb ?_;refine U4 ?_;(first|refine cB ?_|(refine kU ?_));refine ue ?_;refine Wf ?_;refine J7 ?_)
    all_goals
    refine aR Tryz.results106 (λ w hw=>?_)
    exact⟨(),rfl,trivial,hw.aV⟩
   ·try exact nv c29
    all_goals try (exact absurd (by assumption) (by decide:¬(true=false)))
    all_goals (refine aZ ?_;refine dL [(0,[]),(1,[]),(2,[]),(3,[]),(4,[]),(5,[]),(6,[]),(9,[]),(10,[]),(11,[]),(12,[]),(13,[]),(7,[5,12]),(8,[12]),(14,[]),(15,[]),(16,[]),(17,[]),(18,[]),(19,[])] ?_;refine gD ?_;refine Pd ?_;refine Gg ?_;refine tG ?_;refine bB (h:=λ x37=>?_);((refine cR (h:=λ x38=>?_);try (refine aK (λ h38=>?_))));refine J4 ?_;refine gV (h:=λ _=>?_);refine Il ?_;refine aT ?_;refine eE [0,1,2,3,4,5,6,7,8,9,10,11,12,13,14,15,16,17,18] ?_;refine gD ?_)
    all_goals (first|refine cB ?_|(refine aL ?_)|(refine wT 49 (λ g49=>?_) (λ g49=>?_)<;>(try (exact absurd (by assumption) (by decide:¬(true=false))))<;>(first|refine cB ?_|(refine aL ?_))))
    all_goals (refine hU ?_;refine aL ?_)
    all_goals (first|refine cB ?_|(refine aL ?_)|(refine wT 52 (λ g52=>?_) (λ g52=>?_)<;>(try (exact absurd (by assumption) (by decide:¬(true=false))))<;>(first|refine cB ?_|(refine aL ?_))))
    all_goals (refine Wb ?_;refine U4 ?_;(first|refine cB ?_|(refine kU ?_));refine ue ?_;refine Wf ?_;refine J7 ?_)
    all_goals
    refine aR Tryz.results106 (λ w hw=>?_)
    exact⟨(),rfl,trivial,hw.aV⟩
 ·try exact nv c21
  all_goals try (exact absurd (by assumption) (by decide:¬(true=false)))
  all_goals (refine iW ?_;refine eE [0,1,2,3,4,5,6,7,8,9,10,11,12,13,14,15,16,17,18] ?_;refine gD ?_)
  all_goals (first|refine cB ?_|(refine aL ?_)|(refine wT 49 (λ g49=>?_) (λ g49=>?_)<;>(try (exact absurd (by assumption) (by decide:¬(true=false))))<;>(first|refine cB ?_|(refine aL ?_))))
  all_goals (refine hU ?_;refine aL ?_)
  all_goals (first|refine cB ?_|(refine aL ?_)|(refine wT 52 (λ g52=>?_) (λ g52=>?_)<;>(try (exact absurd (by assumption) (by decide:¬(true=false))))<;>(first|refine cB ?_|(refine aL ?_))))
  all_goals (refine Wb ?_;refine U4 ?_;(first|refine cB ?_|(refine kU ?_));refine ue ?_;refine Wf ?_;refine J7 ?_)
  all_goals
   refine aR Tryz.results106 (λ w hw=>?_)
   exact⟨(),rfl,trivial,hw.aV⟩
theorem Jm(c o n:Int)(ok:x.Ok)(h:x.st=false)(h1:x.a<x.got.length)(hs:SF w D (xH k bx bm x dn rs) A [] (xW x) w):Calls Tryz.prog 106 #[.pointer (some ⟨bx,0,none⟩),.int .i64 c,.int .i64 o,.int .i64 n] w λ e w'=>∃q:Unit,e=.returned (.bool (x.got.getD x.a 0==1))/\True/\SF w D (xH k bx bm {x with a:=x.a+1} dn rs) [] [] (xW {x with a:=x.a+1}) w':=by
 have hg:=ok.lg
 refine enter Tryz.func106 Tryz.ntmps106 rfl rfl (cN hs) ?_
 simp only[dB]
 all_goals (refine dH ?_;refine jE ?_;refine oI ?_;refine bV ?_;(refine aF (cM (hs:=xH k bx bm x dn rs) (os:=xW x) (hc:=λ w hs=>G5 ⟨2,c,o,n⟩ ok h h1 hs)) (λ x18=>?_);try (refine aB (λ h18=>?_)));refine pZ ?_;refine J8 ?_;refine jS ?_;refine aN ?_)
 all_goals
 refine bF (λ c21=>?_) (λ c21=>?_)
 ·try exact nv c21
  all_goals try (exact absurd (by assumption) (by decide:¬(true=false)))
  all_goals (refine Be ?_;refine kZ ?_;refine oI ?_;refine aA ?_;(refine aF (NO) (λ x29=>?_);try (refine aB (λ h29=>?_)));refine aN ?_)
  all_goals
   refine bF (λ c29=>?_) (λ c29=>?_)
   ·try exact nv c29
    all_goals try (exact absurd (by assumption) (by decide:¬(true=false)))
    all_goals (refine dD ?_;refine J1 ?_;refine dL [(0,[]),(1,[]),(2,[]),(3,[]),(4,[]),(5,[]),(6,[]),(9,[]),(10,[]),(11,[]),(12,[]),(13,[]),(7,[5,12]),(8,[12]),(14,[]),(15,[]),(16,[]),(17,[]),(18,[]),(19,[])] ?_;refine gD ?_;refine Pd ?_;refine Gg ?_;refine tG ?_;refine bB (h:=λ x37=>?_);((refine cR (h:=λ x38=>?_);try (refine aK (λ h38=>?_))));refine J4 ?_;refine gV (h:=λ _=>?_);refine Il ?_;refine aT ?_;refine eE [0,1,2,3,4,5,6,7,8,9,10,11,12,13,14,15,16,17,18] ?_;refine gD ?_)
    all_goals (first|refine cB ?_|(refine aL ?_)|(refine wT 49 (λ g49=>?_) (λ g49=>?_)<;>(try (exact absurd (by assumption) (by decide:¬(true=false))))<;>(first|refine cB ?_|(refine aL ?_))))
    all_goals (refine hU ?_;refine aL ?_)
    all_goals (first|refine cB ?_|(refine aL ?_)|(refine wT 52 (λ g52=>?_) (λ g52=>?_)<;>(try (exact absurd (by assumption) (by decide:¬(true=false))))<;>(first|refine cB ?_|(refine aL ?_))))
    all_goals (refine Wb ?_;refine U4 ?_;(first|refine cB ?_|(refine cI (i:=13) (hq:=(fP (m:=x.a+1) (n:=1) rf rf (by omega) (by omega))) (h:=?_)));(first|refine cB ?_|(refine bP (i:=14) (hq:=(bW (m:=x.got.length) (k:=x.a+1-1) (lst:=x.got) rf rf fG bU (.own .head) (by omega) (by omega))) (h:=?_)));(first|refine cB ?_|(refine bP (i:=15) (hq:=(cJ (q:=x.a+1-1) (lst:=x.got) rf bU (.own .head) (by omega))) (h:=?_)));refine Wf ?_;refine J7 ?_)
    all_goals
    refine aR Tryz.results106 (λ w hw=>?_)
    exact⟨(),by rw[Nat.add_sub_cancel];rfl,trivial,hw.aV⟩
   ·try exact nv c29
    all_goals try (exact absurd (by assumption) (by decide:¬(true=false)))
    all_goals (refine aZ ?_;refine dL [(0,[]),(1,[]),(2,[]),(3,[]),(4,[]),(5,[]),(6,[]),(9,[]),(10,[]),(11,[]),(12,[]),(13,[]),(7,[5,12]),(8,[12]),(14,[]),(15,[]),(16,[]),(17,[]),(18,[]),(19,[])] ?_;refine gD ?_;refine Pd ?_;refine Gg ?_;refine tG ?_;refine bB (h:=λ x37=>?_);((refine cR (h:=λ x38=>?_);try (refine aK (λ h38=>?_))));refine J4 ?_;refine gV (h:=λ _=>?_);refine Il ?_;refine aT ?_;refine eE [0,1,2,3,4,5,6,7,8,9,10,11,12,13,14,15,16,17,18] ?_;refine gD ?_)
    all_goals (first|refine cB ?_|(refine aL ?_)|(refine wT 49 (λ g49=>?_) (λ g49=>?_)<;>(try (exact absurd (by assumption) (by decide:¬(true=false))))<;>(first|refine cB ?_|(refine aL ?_))))
    all_goals (refine hU ?_;refine aL ?_)
    all_goals (first|refine cB ?_|(refine aL ?_)|(refine wT 52 (λ g52=>?_) (λ g52=>?_)<;>(try (exact absurd (by assumption) (by decide:¬(true=false))))<;>(first|refine cB ?_|(refine aL ?_))))
    all_goals (refine Wb ?_;refine U4 ?_;(first|refine cB ?_|(refine cI (i:=13) (hq:=(fP (m:=x.a+1) (n:=1) rf rf (by omega) (by omega))) (h:=?_)));(first|refine cB ?_|(refine bP (i:=14) (hq:=(bW (m:=x.got.length) (k:=x.a+1-1) (lst:=x.got) rf rf fG bU (.own .head) (by omega) (by omega))) (h:=?_)));(first|refine cB ?_|(refine bP (i:=15) (hq:=(cJ (q:=x.a+1-1) (lst:=x.got) rf bU (.own .head) (by omega))) (h:=?_)));refine Wf ?_;refine J7 ?_)
    all_goals
    refine aR Tryz.results106 (λ w hw=>?_)
    exact⟨(),by rw[Nat.add_sub_cancel];rfl,trivial,hw.aV⟩
 ·try exact nv c21
  all_goals try (exact absurd (by assumption) (by decide:¬(true=false)))
  all_goals (refine iW ?_;refine eE [0,1,2,3,4,5,6,7,8,9,10,11,12,13,14,15,16,17,18] ?_;refine gD ?_)
  all_goals (first|refine cB ?_|(refine aL ?_)|(refine wT 49 (λ g49=>?_) (λ g49=>?_)<;>(try (exact absurd (by assumption) (by decide:¬(true=false))))<;>(first|refine cB ?_|(refine aL ?_))))
  all_goals (refine hU ?_;refine aL ?_)
  all_goals (first|refine cB ?_|(refine aL ?_)|(refine wT 52 (λ g52=>?_) (λ g52=>?_)<;>(try (exact absurd (by assumption) (by decide:¬(true=false))))<;>(first|refine cB ?_|(refine aL ?_))))
  all_goals (refine Wb ?_;refine U4 ?_;(first|refine cB ?_|(refine cI (i:=13) (hq:=(fP (m:=x.a+1) (n:=1) rf rf (by omega) (by omega))) (h:=?_)));(first|refine cB ?_|(refine bP (i:=14) (hq:=(bW (m:=x.got.length) (k:=x.a+1-1) (lst:=x.got) rf rf fG bU (.own .head) (by omega) (by omega))) (h:=?_)));(first|refine cB ?_|(refine bP (i:=15) (hq:=(cJ (q:=x.a+1-1) (lst:=x.got) rf bU (.own .head) (by omega))) (h:=?_)));refine Wf ?_;refine J7 ?_)
  all_goals
   refine aR Tryz.results106 (λ w hw=>?_)
   exact⟨(),by rw[Nat.add_sub_cancel];rfl,trivial,hw.aV⟩
theorem fg(c o n:Int)(hc:c<=9223372036854775807)(ok:x.Ok)(h:x.st=false)(h1:¬x.a<x.got.length)(h2:¬x.fr=0)(hs:SF w D (xH k bx bm x dn rs) A [] (xW x) w):Calls Tryz.prog 106 #[.pointer (some ⟨bx,0,none⟩),.int .i64 c,.int .i64 o,.int .i64 n] w λ e w'=>∃q:Bool×(Option Addr×Nat),e=.returned (.bool q.1)/\(q.1=true↔nE x.cs c o)/\SF w D (xH k bx bm {x with fr:=x.fr-1,cs:=iJ x.cs c o n,acc:=up x.acc,got:=x.got++[O2 q.1],pg:=q.2.1,kg:=q.2.2,a:=x.a+1} dn rs) [] [] (xW {x with fr:=x.fr-1,cs:=iJ x.cs c o n,acc:=up x.acc,got:=x.got++[O2 q.1],pg:=q.2.1,kg:=q.2.2,a:=x.a+1}) w':=by
  have hg:=ok.lg
  have ha:=ok.la
  have hlc:=ok.lc
  refine enter Tryz.func106 Tryz.ntmps106 rfl rfl (cN hs) ?_
  simp only[dB]
  all_goals (refine dH ?_;refine jE ?_;refine oI ?_;refine bV ?_;(refine aF (cM (hs:=xH k bx bm x dn rs) (os:=xW x) (hc:=λ w hs=>G8 ⟨2,c,o,n⟩ ok h h1 h2 hs)) (λ x18=>?_);try (refine aB (λ h18=>?_)));refine pZ ?_;refine J8 ?_;refine jS ?_;refine aN ?_)
  all_goals
   refine bF (λ c21=>?_) (λ c21=>?_)
   · try exact nv c21
     all_goals try (exact absurd (by assumption) (by decide:¬(true=false)))
     all_goals (refine Be ?_;refine kZ ?_;refine oI ?_;refine aA ?_;(refine aF (cM (V:=.bool) (hc:=λ w hs=>ry (L:=x.L) (cs:=x.cs) hs c o n hc (by omega))) (λ x29=>?_);try (refine aB (λ h29=>?_)));refine aN ?_)
     all_goals
      refine bF (λ c29=>?_) (λ c29=>?_)
      · try exact nv c29
        all_goals try (exact absurd (by assumption) (by decide:¬(true=false)))
        all_goals
         have hv:(1:Int)=O2 x29:=by rw[c29];rfl
        all_goals (refine dD ?_;refine J1 ?_;refine dL [(0,[]),(1,[]),(2,[]),(3,[]),(4,[]),(5,[]),(6,[]),(9,[]),(10,[]),(11,[]),(12,[]),(13,[]),(7,[5,12]),(8,[12]),(14,[]),(15,[]),(16,[]),(17,[]),(18,[]),(19,[])] ?_;refine gD ?_;refine Pd ?_;refine Gg ?_;refine cI (i:=13) (hq:=(gO (m:=x.a) (n:=1) rf rf (by omega))) (h:=?_);refine bB (h:=λ x37=>?_);((refine bA (i:=8) (hq:=(aP.eL (rU (l:=x.got) (m:=x.got.length) rf rf .head rfl fin Wa fG (by omega)) dV)) (h:=λ x38=>?_);try (refine aK (λ h38=>?_))));refine J4 ?_;refine kR (i:=16) (hq:=(by first|exact fQ λ _=>bN rf cQ wn rf bU rf rf fZ|exact(fQ λ _=>bN rf cQ wn rf bU rf wX fZ)|exact(fQ λ _=>bZ rf cQ rf rf dS rf fZ)|exact(aP.bC (cW rf rf bU dZ om) dV)|exact(aP.bC (cU rf rf bU dZ om) dV)|exact(aP.bC (o_storePv rf rf bU dZ om) dV)|exact(aP.bC (o_storeP rf rf dS dZ om) dV))) (h:=λ _=>?_);refine J4 ?_;refine kR (i:=19) (hq:=(by first|exact fQ λ _=>bN rf cQ wn rf bU rf rf fZ|exact(fQ λ _=>bN rf cQ wn rf bU rf wX fZ)|exact(fQ λ _=>bZ rf cQ rf rf dS rf fZ)|exact(aP.bC (cW rf rf bU dZ om) dV)|exact(aP.bC (cU rf rf bU dZ om) dV)|exact(aP.bC (o_storePv rf rf bU dZ om) dV)|exact(aP.bC (o_storeP rf rf dS dZ om) dV))) (h:=λ _=>?_);refine eO ?_;refine aT ?_;refine eE [0,1,2,3,4,5,6,7,8,9,10,11,12,13,14,15,16,17,18] ?_;refine gD ?_)
        all_goals (first|refine cB ?_|(refine aL ?_)|(refine wT 49 (λ g49=>?_) (λ g49=>?_)<;>(try (exact absurd (by assumption) (by decide:¬(true=false))))<;>(first|refine cB ?_|(refine aL ?_))))
        all_goals (refine hU ?_;refine aL ?_)
        all_goals (first|refine cB ?_|(refine aL ?_)|(refine wT 52 (λ g52=>?_) (λ g52=>?_)<;>(try (exact absurd (by assumption) (by decide:¬(true=false))))<;>(first|refine cB ?_|(refine aL ?_))))
        all_goals (refine Wb ?_;refine U4 ?_;(first|refine cB ?_|(refine cI (i:=13) (hq:=(fP (m:=x.a+1) (n:=1) rf rf (by omega) (by omega))) (h:=?_)));(first|refine cB ?_|(refine bP (i:=14) (hq:=(bW (m:=x.got.length+1) (k:=x.a+1-1) rf rf fG bU (.own .head) (by omega) (by rw[List.length_append,List.length_cons,List.length_nil];omega))) (h:=?_)));(first|refine cB ?_|(refine bP (i:=15) (hq:=(cJ (q:=x.a+1-1) rf bU (.own .head) (by rw[List.length_append,List.length_cons,List.length_nil];omega))) (h:=?_)));refine Wf ?_;refine J7 ?_)
        all_goals
         refine aR Tryz.results106 (λ w hw=>?_)
         rw[hv] at hw
         rw[show x.got.length+1=(x.got++[O2 x29]).length by simp] at hw
         exact⟨(x29,x38),by rw[show x.a+1-1=x.got.length by omega,hX,c29];rfl,h29,hw.aV⟩
      · try exact nv c29
        all_goals try (exact absurd (by assumption) (by decide:¬(true=false)))
        all_goals
         have hv:(0:Int)=O2 x29:=by rw[c29];rfl
        all_goals (refine aZ ?_;refine dL [(0,[]),(1,[]),(2,[]),(3,[]),(4,[]),(5,[]),(6,[]),(9,[]),(10,[]),(11,[]),(12,[]),(13,[]),(7,[5,12]),(8,[12]),(14,[]),(15,[]),(16,[]),(17,[]),(18,[]),(19,[])] ?_;refine gD ?_;refine Pd ?_;refine Gg ?_;refine cI (i:=13) (hq:=(gO (m:=x.a) (n:=1) rf rf (by omega))) (h:=?_);refine bB (h:=λ x37=>?_);((refine bA (i:=8) (hq:=(aP.eL (rU (l:=x.got) (m:=x.got.length) rf rf .head rfl fin Wa fG (by omega)) dV)) (h:=λ x38=>?_);try (refine aK (λ h38=>?_))));refine J4 ?_;refine kR (i:=16) (hq:=(by first|exact fQ λ _=>bN rf cQ wn rf bU rf rf fZ|exact(fQ λ _=>bN rf cQ wn rf bU rf wX fZ)|exact(fQ λ _=>bZ rf cQ rf rf dS rf fZ)|exact(aP.bC (cW rf rf bU dZ om) dV)|exact(aP.bC (cU rf rf bU dZ om) dV)|exact(aP.bC (o_storePv rf rf bU dZ om) dV)|exact(aP.bC (o_storeP rf rf dS dZ om) dV))) (h:=λ _=>?_);refine J4 ?_;refine kR (i:=19) (hq:=(by first|exact fQ λ _=>bN rf cQ wn rf bU rf rf fZ|exact(fQ λ _=>bN rf cQ wn rf bU rf wX fZ)|exact(fQ λ _=>bZ rf cQ rf rf dS rf fZ)|exact(aP.bC (cW rf rf bU dZ om) dV)|exact(aP.bC (cU rf rf bU dZ om) dV)|exact(aP.bC (o_storePv rf rf bU dZ om) dV)|exact(aP.bC (o_storeP rf rf dS dZ om) dV))) (h:=λ _=>?_);refine eO ?_;refine aT ?_;refine eE [0,1,2,3,4,5,6,7,8,9,10,11,12,13,14,15,16,17,18] ?_;refine gD ?_)
        all_goals (first|refine cB ?_|(refine aL ?_)|(refine wT 49 (λ g49=>?_) (λ g49=>?_)<;>(try (exact absurd (by assumption) (by decide:¬(true=false))))<;>(first|refine cB ?_|(refine aL ?_))))
        all_goals (refine hU ?_;refine aL ?_)
        all_goals (first|refine cB ?_|(refine aL ?_)|(refine wT 52 (λ g52=>?_) (λ g52=>?_)<;>(try (exact absurd (by assumption) (by decide:¬(true=false))))<;>(first|refine cB ?_|(refine aL ?_))))
        all_goals (refine Wb ?_;refine U4 ?_;(first|refine cB ?_|(refine cI (i:=13) (hq:=(fP (m:=x.a+1) (n:=1) rf rf (by omega) (by omega))) (h:=?_)));(first|refine cB ?_|(refine bP (i:=14) (hq:=(bW (m:=x.got.length+1) (k:=x.a+1-1) rf rf fG bU (.own .head) (by omega) (by rw[List.length_append,List.length_cons,List.length_nil];omega))) (h:=?_)));(first|refine cB ?_|(refine bP (i:=15) (hq:=(cJ (q:=x.a+1-1) rf bU (.own .head) (by rw[List.length_append,List.length_cons,List.length_nil];omega))) (h:=?_)));refine Wf ?_;refine J7 ?_)
        all_goals
         refine aR Tryz.results106 (λ w hw=>?_)
         rw[hv] at hw
         rw[show x.got.length+1=(x.got++[O2 x29]).length by simp] at hw
         exact⟨(x29,x38),by rw[show x.a+1-1=x.got.length by omega,hX,c29];rfl,h29,hw.aV⟩
   · try exact nv c21
     all_goals try (exact absurd (by assumption) (by decide:¬(true=false)))
     all_goals (refine iW ?_;refine eE [0,1,2,3,4,5,6,7,8,9,10,11,12,13,14,15,16,17,18] ?_;refine gD ?_)
     all_goals (first|refine cB ?_|(refine aL ?_)|(refine wT 49 (λ g49=>?_) (λ g49=>?_)<;>(try (exact absurd (by assumption) (by decide:¬(true=false))))<;>(first|refine cB ?_|(refine aL ?_))))
     all_goals (refine hU ?_;refine aL ?_)
     all_goals (first|refine cB ?_|(refine aL ?_)|(refine wT 52 (λ g52=>?_) (λ g52=>?_)<;>(try (exact absurd (by assumption) (by decide:¬(true=false))))<;>(first|refine cB ?_|(refine aL ?_))))
     all_goals (refine Wb ?_;refine U4 ?_;(first|refine cB ?_|(refine cI (i:=13) (hq:=(fP (m:=x.a+1) (n:=1) rf rf (by omega) (by omega))) (h:=?_)));(first|refine cB ?_|(refine bP (i:=14) (hq:=(bW (m:=x.got.length+1) (k:=x.a+1-1) rf rf fG bU (.own .head) (by omega) (by rw[List.length_append,List.length_cons,List.length_nil];omega))) (h:=?_)));(first|refine cB ?_|(refine bP (i:=15) (hq:=(cJ (q:=x.a+1-1) rf bU (.own .head) (by rw[List.length_append,List.length_cons,List.length_nil];omega))) (h:=?_)));refine Wf ?_;refine J7 ?_)
     all_goals
      refine aR Tryz.results106 (λ w hw=>?_)
      rw[hv] at hw
      rw[show x.got.length+1=(x.got++[O2 x29]).length by simp] at hw
      exact⟨(x29,x38),by rw[show x.a+1-1=x.got.length by omega,hX,c29];rfl,h29,hw.aV⟩
end
end Go.Proofs.YtpobgmdalcpomaaGreat
