/- Executions of the reference: known, load, cas. -/
import Derived.Test.YtadnboagdhcedaaGreatDoorGRn1

set_option linter.unusedSimpArgs false
set_option linter.unusedVariables false
namespace Go.Ct
section
def XS.kn(x:XS)(a:Ac):XS:=if x.st=true then x else if x.a<x.got.length then{x with a:=x.a+1} else if x.fr=0 then{x with st:=true,nx:=a} else{x with fr:=x.fr-1}
def XS.bO(x:XS):Bool:=!x.st&&decide (x.a<x.got.length)
def XS.now(x:XS):Bool:=!x.st&&!decide (x.a<x.got.length)&&!decide (x.fr=0)
theorem XS.v7{x:XS}{a:Ac}(h:x.st=true):x.kn a=x/\x.bO=false/\x.now=false:=⟨if_pos h,by simp[XS.bO,h],by simp[XS.now,h]⟩
theorem XS.di{x:XS}{a:Ac}(h:x.st=false)(h1:x.a<x.got.length):x.kn a={x with a:=x.a+1}/\x.bO=true/\x.now=false:=⟨by unfold XS.kn;rw[if_neg (by rw[h];decide),if_pos h1],by simp[XS.bO,h,h1],by simp[XS.now,h1]⟩
theorem XS.vb{x:XS}{a:Ac}(h:x.st=false)(h1:¬x.a<x.got.length)(h2:x.fr=0):x.kn a={x with st:=true,nx:=a}/\x.bO=false/\x.now=false:=⟨by unfold XS.kn;rw[if_neg (by rw[h];decide),if_neg h1,if_pos h2],by simp[XS.bO,h1],by simp[XS.now,h2]⟩
theorem XS.da{x:XS}{a:Ac}(h:x.st=false)(h1:¬x.a<x.got.length)(h2:¬x.fr=0):x.kn a={x with fr:=x.fr-1}/\x.bO=false/\x.now=true:=⟨by unfold XS.kn;rw[if_neg (by rw[h];decide),if_neg h1,if_neg h2],by simp[XS.bO,h1],by simp[XS.now,h,h1,h2]⟩
end
end Go.Ct
namespace Go.Proofs.YtadnboagdhcedaaGreatDoor
section
open Go Go.RowKit Go.Ct
section
variable{k:Cl}{bx bm:Nat}{x:XS}{dn:Bool}{rs:Rs}{D:List Nat}{A:Fr}{w:World}
theorem Es(a:Ac)(ok:x.Ok)(hs:SF w D (xH k bx bm x dn rs) A [] (xW x) w):Calls Tryz.prog 142 #[.pointer (some ⟨bx,0,none⟩),.agg ⟨a.cells⟩] w λ e w'=>∃q:Unit,e=.returned (.tuple #[.bool x.bO,.bool x.now])/\True/\SF w D (xH k bx bm (x.kn a) dn rs) [] [] (xW (x.kn a)) w':=by
 have h1:=ok.lg;have h2:=ok.la;have h3:=ok.fr;refine enter Tryz.func142 Tryz.ntmps142 rfl rfl (aBs hs) ?_;simp only[cP]
 refine K1r ?_;intro x3;refine Kd6 ?_;refine Kd8 ?_;refine bA (λ c9=>?_) (λ c9=>?_)
 ·refine Aw ?_;refine bK Tryz.results142 (λ w hw=>?_);obtain⟨e1,e2,e3⟩:=XS.v7 (a:=a) c9
  rw[e1,e2,e3]
  exact⟨(),rfl,trivial,hw.aQ⟩
 ·refine jH ?_;refine aV ?_;refine gP [0,1,2,3,4,5,6,7,8,9] ?_;refine Er ?_;refine iW ?_;refine Dr ?_;refine dJ ?_;refine bA (λ c19=>?_) (λ c19=>?_)
  ·refine oR ?_;refine He ?_;refine ln ?_;refine Aw ?_;refine bK Tryz.results142 (λ w hw=>?_);obtain⟨e1,e2,e3⟩:=XS.di (a:=a) c9 (by omega)
   rw[e1,e2,e3]
   exact⟨(),rfl,trivial,hw.aQ⟩
  ·refine jH ?_;refine oR ?_;refine rW ?_;refine bA (λ c31=>?_) (λ c31=>?_)
   ·refine aV ?_;refine dZ [(0,[]),(1,[]),(2,[]),(3,[]),(4,[]),(5,[2]),(6,[]),(7,[]),(8,[])] ?_;refine iJ ?_;refine aZ ?_;refine J4 ?_;refine pD (h:=λ _=>?_);refine J4 ?_;refine kW (i:=8) (hq:=(jI λ _=>rB (off:=36) (vs:=a.cells) rf dI rf rfl dR (Nat.le_of_ble_eq_true rfl) rf jX)) (h:=λ _=>?_);refine dJ ?_;refine Aw ?_;refine bK Tryz.results142 (λ w hw=>?_);obtain⟨e1,e2,e3⟩:=XS.vb (a:=a) c9 (by omega) (by omega)
    rw[e1,e2,e3]
    exact⟨(),rfl,trivial,hw.aQ⟩
   ·refine J83 ?_;refine oQ ?_;refine ln ?_;refine Aw ?_;refine bK Tryz.results142 (λ w hw=>?_);obtain⟨e1,e2,e3⟩:=XS.da (a:=a) c9 (by omega) (by omega)
    rw[e1,e2,e3]
    exact⟨(),rfl,trivial,hw.aQ⟩
theorem Oz(a:Ac)(ok:x.Ok)(h:x.st=true)(hs:SF w D (xH k bx bm x dn rs) A [] (xW x) w):Calls Tryz.prog 142 #[.pointer (some ⟨bx,0,none⟩),.agg ⟨a.cells⟩] w λ e w'=>∃q:Unit,e=.returned (.tuple #[.bool false,.bool false])/\True/\SF w D (xH k bx bm x dn rs) [] [] (xW x) w':=by
 obtain⟨e1,e2,e3⟩:=XS.v7 (a:=a) h
 have:=Es (k:=k) (bx:=bx) (bm:=bm) (dn:=dn) (rs:=rs) (D:=D) (A:=A) (w:=w) a ok hs;rw[e1,e2,e3] at this;exact this
theorem I6(a:Ac)(ok:x.Ok)(h:x.st=false)(h1:x.a<x.got.length)(hs:SF w D (xH k bx bm x dn rs) A [] (xW x) w):Calls Tryz.prog 142 #[.pointer (some ⟨bx,0,none⟩),.agg ⟨a.cells⟩] w λ e w'=>∃q:Unit,e=.returned (.tuple #[.bool true,.bool false])/\True/\SF w D (xH k bx bm {x with a:=x.a+1} dn rs) [] [] (xW {x with a:=x.a+1}) w':=by
 obtain⟨e1,e2,e3⟩:=XS.di (a:=a) h h1
 have:=Es (k:=k) (bx:=bx) (bm:=bm) (dn:=dn) (rs:=rs) (D:=D) (A:=A) (w:=w) a ok hs;rw[e1,e2,e3] at this;exact this
theorem P1(a:Ac)(ok:x.Ok)(h:x.st=false)(h1:¬x.a<x.got.length)(h2:x.fr=0)(hs:SF w D (xH k bx bm x dn rs) A [] (xW x) w):Calls Tryz.prog 142 #[.pointer (some ⟨bx,0,none⟩),.agg ⟨a.cells⟩] w λ e w'=>∃q:Unit,e=.returned (.tuple #[.bool false,.bool false])/\True/\SF w D (xH k bx bm {x with st:=true,nx:=a} dn rs) [] [] (xW {x with st:=true,nx:=a}) w':=by
 obtain⟨e1,e2,e3⟩:=XS.vb (a:=a) h h1 h2
 have:=Es (k:=k) (bx:=bx) (bm:=bm) (dn:=dn) (rs:=rs) (D:=D) (A:=A) (w:=w) a ok hs;rw[e1,e2,e3] at this;exact this
theorem Jp(a:Ac)(ok:x.Ok)(h:x.st=false)(h1:¬x.a<x.got.length)(h2:¬x.fr=0)(hs:SF w D (xH k bx bm x dn rs) A [] (xW x) w):Calls Tryz.prog 142 #[.pointer (some ⟨bx,0,none⟩),.agg ⟨a.cells⟩] w λ e w'=>∃q:Unit,e=.returned (.tuple #[.bool false,.bool true])/\True/\SF w D (xH k bx bm {x with fr:=x.fr-1} dn rs) [] [] (xW {x with fr:=x.fr-1}) w':=by
 obtain⟨e1,e2,e3⟩:=XS.da (a:=a) h h1 h2
 have:=Es (k:=k) (bx:=bx) (bm:=bm) (dn:=dn) (rs:=rs) (D:=D) (A:=A) (w:=w) a ok hs;rw[e1,e2,e3] at this;exact this
theorem rn(c:Int)(ok:x.Ok)(h:x.st=true)(hs:SF w D (xH k bx bm x dn rs) A [] (xW x) w):Calls Tryz.prog 109 #[.pointer (some ⟨bx,0,none⟩),.int .i64 c] w λ e w'=>∃q:Unit,e=.returned (.int .i64 0)/\True/\SF w D (xH k bx bm x dn rs) [] [] (xW x) w':=by
 refine K2o ?_;simp only[cP]
 refine cR ?_;refine jJ ?_;refine bQ ?_;refine aD (cM (hs:=xH k bx bm x dn rs) (os:=xW x) (hc:=λ w hs=>Oz ⟨1,c,0,0⟩ ok h hs)) (λ x11 h11=>?_);refine Kb1 ?_;refine aK ?_;refine bA (λ c14=>?_) (λ c14=>?_)
 ·exact nv c14
 ·try (exact abt)
  refine jH ?_;refine J2 ?_;refine C6 ?_;(refine Ka4 ?_);refine Kd5 ?_;refine bA (λ c43=>?_) (λ c43=>?_)
  ·try (exact abt)
   refine cR ?_;refine aR Tryz.results109 (λ w hw=>?_);exact⟨(),rfl,trivial,hw.aQ⟩
  ·exact nv c43
theorem qm(c:Int)(ok:x.Ok)(h:x.st=false)(h1:¬x.a<x.got.length)(h2:x.fr=0)(hs:SF w D (xH k bx bm x dn rs) A [] (xW x) w):Calls Tryz.prog 109 #[.pointer (some ⟨bx,0,none⟩),.int .i64 c] w λ e w'=>∃q:Unit,e=.returned (.int .i64 0)/\True/\SF w D (xH k bx bm {x with st:=true,nx:=⟨1,c,0,0⟩} dn rs) [] [] (xW {x with st:=true,nx:=⟨1,c,0,0⟩}) w':=by
 refine K2o ?_;simp only[cP]
 refine cR ?_;refine jJ ?_;refine bQ ?_;refine aD (cM (hs:=xH k bx bm x dn rs) (os:=xW x) (hc:=λ w hs=>P1 ⟨1,c,0,0⟩ ok h h1 h2 hs)) (λ x11 h11=>?_);refine Kb1 ?_;refine aK ?_;refine bA (λ c14=>?_) (λ c14=>?_)
 ·exact nv c14
 ·try (exact abt)
  refine jH ?_;refine J2 ?_;refine C6 ?_;(refine Ka4 ?_);refine Kd5 ?_;refine bA (λ c43=>?_) (λ c43=>?_)
  ·try (exact abt)
   refine cR ?_;refine aR Tryz.results109 (λ w hw=>?_);exact⟨(),rfl,trivial,hw.aQ⟩
  ·exact nv c43
theorem Hr(c:Int)(ok:x.Ok)(h:x.st=false)(h1:x.a<x.got.length)(hs:SF w D (xH k bx bm x dn rs) A [] (xW x) w):Calls Tryz.prog 109 #[.pointer (some ⟨bx,0,none⟩),.int .i64 c] w λ e w'=>∃q:Unit,e=.returned (.int .i64 (x.got.getD x.a 0))/\True/\SF w D (xH k bx bm {x with a:=x.a+1} dn rs) [] [] (xW {x with a:=x.a+1}) w':=by
 have hg:=ok.lg;refine K2o ?_;simp only[cP]
 refine cR ?_;refine jJ ?_;refine bQ ?_;refine aD (cM (hs:=xH k bx bm x dn rs) (os:=xW x) (hc:=λ w hs=>I6 ⟨1,c,0,0⟩ ok h h1 hs)) (λ x11 h11=>?_);refine Kb1 ?_;refine aK ?_;refine bA (λ c14=>?_) (λ c14=>?_)
 ·exact nv c14
 ·try (exact abt)
  refine jH ?_;refine J2 ?_;refine C6 ?_;refine aJ ?_;refine Kd5 ?_;refine bA (λ c43=>?_) (λ c43=>?_)
  ·exact nv c43
  ·try (exact abt)
   refine jH ?_;refine K1b ?_;refine cS (i:=8) (hq:=(kF (m:=x.a+1) (n:=1) rf rf (by omega) (by omega))) (h:=?_);refine bJ (i:=9) (hq:=(bE (m:=x.got.length) (k:=x.a+1-1) (lst:=x.got) rf rf eC dC (.own .head) (by omega) (by omega))) (h:=?_);refine bJ (i:=10) (hq:=(bP (q:=x.a+1-1) (lst:=x.got) rf dC (.own .head) (by omega))) (h:=?_);refine J7 ?_;refine aR Tryz.results109 (λ w hw=>?_);exact⟨(),by rw[Nat.add_sub_cancel];rfl,trivial,hw.aQ⟩
theorem gm(c:Int)(hc:c<=9223372036854775807)(ok:x.Ok)(h:x.st=false)(h1:¬x.a<x.got.length)(h2:¬x.fr=0)(hs:SF w D (xH k bx bm x dn rs) A [] (xW x) w):Calls Tryz.prog 109 #[.pointer (some ⟨bx,0,none⟩),.int .i64 c] w λ e w'=>∃q:Option Addr×Nat,e=.returned (.int .i64 (bV x.cs c))/\True/\SF w D (xH k bx bm {x with fr:=x.fr-1,acc:=up x.acc,got:=x.got++[bV x.cs c],pg:=q.1,kg:=q.2,a:=x.a+1} dn rs) [] [] (xW {x with fr:=x.fr-1,acc:=up x.acc,got:=x.got++[bV x.cs c],pg:=q.1,kg:=q.2,a:=x.a+1}) w':=by
 have hg:=ok.lg;have ha:=ok.la;have hlc:=ok.lc;refine K2o ?_;simp only[cP]
 refine cR ?_;refine jJ ?_;refine bQ ?_;refine aD (cM (hs:=xH k bx bm x dn rs) (os:=xW x) (hc:=λ w hs=>Jp ⟨1,c,0,0⟩ ok h h1 h2 hs)) (λ x11 h11=>?_);refine Kb1 ?_;refine aK ?_;refine bA (λ c14=>?_) (λ c14=>?_)
 ·try (exact abt)
  refine dZ [(0,[]),(1,[]),(2,[]),(3,[]),(4,[]),(5,[]),(6,[]),(7,[]),(8,[]),(9,[]),(10,[]),(14,[]),(15,[]),(16,[]),(17,[]),(18,[]),(11,[5,17]),(12,[5,17]),(13,[17]),(19,[]),(20,[]),(21,[]),(22,[]),(23,[]),(24,[])] ?_;refine iJ ?_;refine Er ?_;refine J67 ?_;refine cS (i:=18) (hq:=(lT (m:=x.a) (n:=1) rf rf (by omega))) (h:=?_);refine bL (i:=11) (hq:=(cM (hc:=λ w hs=>rj (L:=x.L) (cs:=x.cs) hs c hc (by omega)))) (h:=λ x26 h26=>?_);refine dA (h:=λ x27=>?_);((refine cA (i:=13) (hq:=(aX.gA (tE (l:=x.got) (v:=bV x.cs c) (m:=x.got.length) rf rf .head rfl fin Yd eC (by omega)) fM)) (h:=λ x28=>?_);try (refine dO (λ h28=>?_))));refine J4 ?_;refine kW (i:=21) (hq:=(by exact jI λ _=>bZ rf dI wn rf dC rf rf jX)) (h:=λ _=>?_);refine J4 ?_;refine kW (i:=24) (hq:=(by exact jI λ _=>bZ rf dI wn rf dC rf rf jX)) (h:=λ _=>?_);refine dJ ?_;refine jL ?_;refine C6 ?_;(refine Ka4 ?_);refine Kd5 ?_;refine bA (λ c43=>?_) (λ c43=>?_)
  ·exact nv c43
  ·try (exact abt)
   refine jH ?_;refine K1b ?_;refine cS (i:=8) (hq:=(kF (m:=x.a+1) (n:=1) rf rf (by omega) (by omega))) (h:=?_);refine bJ (i:=9) (hq:=(bE (m:=x.got.length+1) (k:=x.a+1-1) (lst:=x.got++[bV x.cs c]) rf rf eC dC (.own .head) (by omega) (by rw[List.length_append,List.length_cons,List.length_nil];omega))) (h:=?_);refine bJ (i:=10) (hq:=(bP (q:=x.a+1-1) (lst:=x.got++[bV x.cs c]) rf dC (.own .head) (by rw[List.length_append,List.length_cons,List.length_nil];omega))) (h:=?_);refine J7 ?_;refine aR Tryz.results109 (λ w hw=>?_);rw[show x.got.length+1=(x.got++[bV x.cs c]).length by simp] at hw;exact⟨x28,by rw[show(x.got++[bV x.cs c]).getD (x.a+1-1) 0=bV x.cs c by rw[show x.a+1-1=x.got.length by omega,gF,List.getElem?_append_right (Nat.le_refl _)];simp];rfl,trivial,hw.aQ⟩
 ·exact nv c14
end
end

/- Executions of the reference: cas. -/
end Go.Proofs.YtadnboagdhcedaaGreatDoor
namespace Go.Ct
section
def S5(b:Bool):Int:=if b=true then 1 else 0
theorem sI(l:List Int)(v:Int):(l++[v]).getD l.length 0=v:=by rw[gF,List.getElem?_append_right (Nat.le_refl _)];simp
end
end Go.Ct
namespace Go.Proofs.YtadnboagdhcedaaGreatDoor
section
open Go Go.RowKit Go.Ct
section
variable{k:Cl}{bx bm:Nat}{x:XS}{dn:Bool}{rs:Rs}{D:List Nat}{A:Fr}{w:World}
theorem aAM(c o n:Int)(ok:x.Ok)(h:x.st=true)(hs:SF w D (xH k bx bm x dn rs) A [] (xW x) w):Calls Tryz.prog 111 #[.pointer (some ⟨bx,0,none⟩),.int .i64 c,.int .i64 o,.int .i64 n] w λ e w'=>∃q:Unit,e=.returned (.bool false)/\True/\SF w D (xH k bx bm x dn rs) [] [] (xW x) w':=by
 refine K2n ?_;simp only[cP]
 refine cR ?_;refine jJ ?_;refine pK ?_;refine bQ ?_;refine aD (cM (hs:=xH k bx bm x dn rs) (os:=xW x) (hc:=λ w hs=>Oz ⟨2,c,o,n⟩ ok h hs)) (λ x18 h18=>?_);refine Kb1 ?_;refine aK ?_;refine bA (λ c21=>?_) (λ c21=>?_)
 ·exact nv c21
 ·try (exact abt)
  refine jH ?_;refine K1e ?_;refine bX ?_;refine J60 ?_;refine J30 ?_;(refine bX ?_);refine J74 ?_;refine K2m ?_;intro w hw;exact⟨(),rfl,trivial,hw.aQ⟩
theorem xd(c o n:Int)(ok:x.Ok)(h:x.st=false)(h1:¬x.a<x.got.length)(h2:x.fr=0)(hs:SF w D (xH k bx bm x dn rs) A [] (xW x) w):Calls Tryz.prog 111 #[.pointer (some ⟨bx,0,none⟩),.int .i64 c,.int .i64 o,.int .i64 n] w λ e w'=>∃q:Unit,e=.returned (.bool false)/\True/\SF w D (xH k bx bm {x with st:=true,nx:=⟨2,c,o,n⟩} dn rs) [] [] (xW {x with st:=true,nx:=⟨2,c,o,n⟩}) w':=by
 refine K2n ?_;simp only[cP]
 refine cR ?_;refine jJ ?_;refine pK ?_;refine bQ ?_;refine aD (cM (hs:=xH k bx bm x dn rs) (os:=xW x) (hc:=λ w hs=>P1 ⟨2,c,o,n⟩ ok h h1 h2 hs)) (λ x18 h18=>?_);refine Kb1 ?_;refine aK ?_;refine bA (λ c21=>?_) (λ c21=>?_)
 ·exact nv c21
 ·try (exact abt)
  refine jH ?_;refine K1e ?_;refine bX ?_;refine J60 ?_;refine J30 ?_;(refine bX ?_);refine J74 ?_;refine K2m ?_;intro w hw;exact⟨(),rfl,trivial,hw.aQ⟩
theorem Mg(c o n:Int)(ok:x.Ok)(h:x.st=false)(h1:x.a<x.got.length)(hs:SF w D (xH k bx bm x dn rs) A [] (xW x) w):Calls Tryz.prog 111 #[.pointer (some ⟨bx,0,none⟩),.int .i64 c,.int .i64 o,.int .i64 n] w λ e w'=>∃q:Unit,e=.returned (.bool (x.got.getD x.a 0==1))/\True/\SF w D (xH k bx bm {x with a:=x.a+1} dn rs) [] [] (xW {x with a:=x.a+1}) w':=by
 have hg:=ok.lg;refine K2n ?_;simp only[cP]
 refine cR ?_;refine jJ ?_;refine pK ?_;refine bQ ?_;refine aD (cM (hs:=xH k bx bm x dn rs) (os:=xW x) (hc:=λ w hs=>I6 ⟨2,c,o,n⟩ ok h h1 hs)) (λ x18 h18=>?_);refine Kb1 ?_;refine aK ?_;refine bA (λ c21=>?_) (λ c21=>?_)
 ·exact nv c21
 ·try (exact abt)
  refine jH ?_;refine gP [0,1,2,3,4,5,6,7,8,9,10,11,12,13,14,15,16,17,18] ?_;refine iJ ?_;refine bX ?_;refine Ke7 ?_;(refine aL ?_);refine J60 ?_;refine J30 ?_;((refine cS (i:=13) (hq:=(kF (m:=x.a+1) (n:=1) rf rf (by omega) (by omega))) (h:=?_)));((refine bJ (i:=14) (hq:=(bE (m:=x.got.length) (k:=x.a+1-1) (lst:=x.got) rf rf eC dC (.own .head) (by omega) (by omega))) (h:=?_)));((refine bJ (i:=15) (hq:=(bP (q:=x.a+1-1) (lst:=x.got) rf dC (.own .head) (by omega))) (h:=?_)));refine K2m ?_;intro w hw;exact⟨(),by rw[Nat.add_sub_cancel];rfl,trivial,hw.aQ⟩
theorem n0(c o n:Int)(hc:c<=9223372036854775807)(ok:x.Ok)(h:x.st=false)(h1:¬x.a<x.got.length)(h2:¬x.fr=0)(hs:SF w D (xH k bx bm x dn rs) A [] (xW x) w):Calls Tryz.prog 111 #[.pointer (some ⟨bx,0,none⟩),.int .i64 c,.int .i64 o,.int .i64 n] w λ e w'=>∃q:Bool×(Option Addr×Nat),e=.returned (.bool q.1)/\(q.1=true↔nD x.cs c o)/\SF w D (xH k bx bm {x with fr:=x.fr-1,cs:=iR x.cs c o n,acc:=up x.acc,got:=x.got++[S5 q.1],pg:=q.2.1,kg:=q.2.2,a:=x.a+1} dn rs) [] [] (xW {x with fr:=x.fr-1,cs:=iR x.cs c o n,acc:=up x.acc,got:=x.got++[S5 q.1],pg:=q.2.1,kg:=q.2.2,a:=x.a+1}) w':=by
 have hg:=ok.lg;have ha:=ok.la;have hlc:=ok.lc;refine K2n ?_;simp only[cP]
 refine cR ?_;refine jJ ?_;refine pK ?_;refine bQ ?_;refine aD (cM (hs:=xH k bx bm x dn rs) (os:=xW x) (hc:=λ w hs=>Jp ⟨2,c,o,n⟩ ok h h1 h2 hs)) (λ x18 h18=>?_);refine Kb1 ?_;refine aK ?_;refine bA (λ c21=>?_) (λ c21=>?_)
 ·try (exact abt)
  refine D6 ?_;refine oR ?_;refine pK ?_;refine aB ?_;refine aD (cM (V:=.bool) (hc:=λ w hs=>aAK (L:=x.L) (cs:=x.cs) hs c o n hc (by omega))) (λ x29 h29=>?_);refine aK ?_;refine bA (λ c29=>?_) (λ c29=>?_)
  ·try (exact abt)
   have hv:(1:Int)=S5 x29:=by rw[c29];rfl
   refine dM ?_;refine J1 ?_;refine K1f ?_;refine dA (h:=λ x37=>?_);((refine cA (i:=8) (hq:=(aX.gA (tE (l:=x.got) (m:=x.got.length) rf rf .head rfl fin Yd eC (by omega)) fM)) (h:=λ x38=>?_);try (refine dO (λ h38=>?_))));refine J4 ?_;refine kW (i:=16) (hq:=(by exact jI λ _=>bZ rf dI wn rf dC rf rf jX)) (h:=λ _=>?_);refine J4 ?_;refine kW (i:=19) (hq:=(by exact jI λ _=>bZ rf dI wn rf dC rf rf jX)) (h:=λ _=>?_);refine dJ ?_;refine aV ?_;refine K1e ?_;(refine aL ?_);refine J60 ?_;refine J30 ?_;((refine cS (i:=13) (hq:=(kF (m:=x.a+1) (n:=1) rf rf (by omega) (by omega))) (h:=?_)));((refine bJ (i:=14) (hq:=(bE (m:=x.got.length+1) (k:=x.a+1-1) rf rf eC dC (.own .head) (by omega) (by rw[List.length_append,List.length_cons,List.length_nil];omega))) (h:=?_)));((refine bJ (i:=15) (hq:=(bP (q:=x.a+1-1) rf dC (.own .head) (by rw[List.length_append,List.length_cons,List.length_nil];omega))) (h:=?_)));refine K2m ?_;intro w hw;rw[hv] at hw;rw[show x.got.length+1=(x.got++[S5 x29]).length by simp] at hw;exact⟨(x29,x38),by rw[show x.a+1-1=x.got.length by omega,sI,c29];rfl,h29,hw.aQ⟩
  ·try (exact abt)
   have hv:(0:Int)=S5 x29:=by rw[c29];rfl
   refine bB ?_;refine K1f ?_;refine dA (h:=λ x37=>?_);((refine cA (i:=8) (hq:=(aX.gA (tE (l:=x.got) (m:=x.got.length) rf rf .head rfl fin Yd eC (by omega)) fM)) (h:=λ x38=>?_);try (refine dO (λ h38=>?_))));refine J4 ?_;refine kW (i:=16) (hq:=(by exact jI λ _=>bZ rf dI wn rf dC rf rf jX)) (h:=λ _=>?_);refine J4 ?_;refine kW (i:=19) (hq:=(by exact jI λ _=>bZ rf dI wn rf dC rf rf jX)) (h:=λ _=>?_);refine dJ ?_;refine aV ?_;refine K1e ?_;(refine aL ?_);refine J60 ?_;refine J30 ?_;((refine cS (i:=13) (hq:=(kF (m:=x.a+1) (n:=1) rf rf (by omega) (by omega))) (h:=?_)));((refine bJ (i:=14) (hq:=(bE (m:=x.got.length+1) (k:=x.a+1-1) rf rf eC dC (.own .head) (by omega) (by rw[List.length_append,List.length_cons,List.length_nil];omega))) (h:=?_)));((refine bJ (i:=15) (hq:=(bP (q:=x.a+1-1) rf dC (.own .head) (by rw[List.length_append,List.length_cons,List.length_nil];omega))) (h:=?_)));refine K2m ?_;intro w hw;rw[hv] at hw;rw[show x.got.length+1=(x.got++[S5 x29]).length by simp] at hw;exact⟨(x29,x38),by rw[show x.a+1-1=x.got.length by omega,sI,c29];rfl,h29,hw.aQ⟩
 ·exact nv c21
end
end

/- Executions of the reference: nodes, allocations, cells, generations. -/
section
open Go Go.RowKit Go.Ct
section
variable{k:Cl}{bx bm:Nat}{x:XS}{dn:Bool}{rs:Rs}{D:List Nat}{A:Fr}{w:World}
theorem gE(r:Int)(hr:r<=9223372036854775807)(ok:x.Ok)(hs:SF w D (xH k bx bm x dn rs) A [] (xW x) w):Calls Tryz.prog 110 #[.pointer (some ⟨bx,0,none⟩),.int .i64 r] w λ e w'=>∃q:Unit,e=.returned (aA x.L r).nd.v/\True/\SF w D (xH k bx bm x dn rs) [] [] (xW x) w':=by
 have hl:=ok.lL;refine enter Tryz.func110 Tryz.ntmps110 rfl rfl (cL hs) ?_;simp only[cP]
 refine J0 ?_;refine aT (λ x4=>?_);refine aK ?_;refine oR ?_;refine aB ?_;refine aD (cM (hc:=λ w hs=>qw (L:=x.L) (cs:=x.cs) hs r hr (by omega))) (λ x10 h10=>?_);refine J5 ?_;refine bK Tryz.results110 (λ w hw=>?_);exact⟨(),rfl,trivial,hw.aQ⟩
theorem cx{n:Nd}(i:Int)(h:x.st=true)(hs:SF w D (xH k bx bm x dn rs) A [] (xW x) w):Calls Tryz.prog 114 #[.pointer (some ⟨bx,0,none⟩),n.v,.int .i64 i] w λ e w'=>∃q:Unit,e=.returned (.int .i64 0)/\True/\SF w D (xH k bx bm x dn rs) [] [] (xW x) w':=by
 refine enter Tryz.func114 Tryz.ntmps114 rfl rfl (cL hs) ?_;simp only[cP]
 simp only[Nd.v]
 refine J0 ?_;refine bF (λ x4=>?_);refine gX ?_;refine Kd8 ?_;refine bA (λ c10=>?_) (λ c10=>?_)
 ·refine cR ?_;refine aR Tryz.results114 (λ w hw=>?_);exact⟨(),rfl,trivial,hw.aQ⟩
 ·exact absurd (h.symm.trans c10) (by decide)
theorem alloc_old{n:Nd}(i:Int)(ok:x.Ok)(h:x.st=false)(h1:x.m<x.made.length)(hl:x.made.length<=274877906944)(hs:SF w D (xH k bx bm x dn rs) A [] (xW x) w):Calls Tryz.prog 114 #[.pointer (some ⟨bx,0,none⟩),n.v,.int .i64 i] w λ e w'=>∃q:Unit,e=.returned (.int .i64 (x.made.getD x.m 0))/\True/\SF w D (xH k bx bm {x with m:=x.m+1} dn rs) [] [] (xW {x with m:=x.m+1}) w':=by
 refine enter Tryz.func114 Tryz.ntmps114 rfl rfl (cL hs) ?_;simp only[cP]
 simp only[Nd.v]
 refine J0 ?_;refine bF (λ x4=>?_);refine gX ?_;refine Kd8 ?_;refine bA (λ c10=>?_) (λ c10=>?_)
 ·try (exfalso;omega)
  exact absurd (h.symm.trans c10) (by decide)
 ·try (exfalso;omega)
  refine K0p ?_;refine bA (λ c20=>?_) (λ c20=>?_)
  ·try (exfalso;omega)
  ·try (exfalso;omega)
   refine J83 ?_;refine aE (lT (m:=x.m) (n:=1) rf rf (by omega)) rfl ?_;refine Ns ?_;refine eJ (by exact jI λ _=>bZ rf dI wn rf dC rf rf jX) (λ _=>?_);refine Vy ?_;refine K1b ?_;refine cS (i:=8) (hq:=(kF (m:=x.m+1) (n:=1) rf rf (by omega) (by omega))) (h:=?_);refine bJ (i:=9) (hq:=(bE (m:=x.made.length) (k:=x.m+1-1) (lst:=x.made) rf rf eC dC (.own (.tail .head)) (by omega) (by omega))) (h:=?_);refine bJ (i:=10) (hq:=(bP (q:=x.m+1-1) (lst:=x.made) rf dC (.own (.tail .head)) (by omega))) (h:=?_);refine J7 ?_;refine aR Tryz.results114 (λ w hw=>?_);exact⟨(),by rw[Nat.add_sub_cancel];rfl,trivial,hw.aQ⟩
theorem X0{n:Nd}{xs:List Int}{ys:List Pr}(i:Int)(ok:x.Ok)(h:x.st=false)(h1:x.m=x.made.length)(hl:x.made.length<=137438953472)(hLl:x.L.length<=274877906900)(hcl:x.cs.length<=274877906900)(e1:n.brN=xs.length)(e2:n.prN=ys.length)(hx:xs.length<=274877906944)(hy:ys.length<=274877906944)(hs:SF w D (xH k bx bm x dn rs) [(n.brA,aH xs),(n.prA,dK ys)] [] (xW x) w):Calls Tryz.prog 114 #[.pointer (some ⟨bx,0,none⟩),n.v,.int .i64 i] w λ e w'=>∃q:AX×(Option Addr×Nat),e=.returned (.int .i64 ((x.L.length+1:Nat):Int))/\True /\
   SF w D (xH k bx bm {x with L:=x.L++[lW n xs ys x.cs.length q.1],cs:=kU n.kind x.cs i,pn:=q.1.pn,cn:=q.1.cn,pc:=q.1.pc,cc:=q.1.cc,made:=x.made++[((x.L.length+1:Nat):Int)],pm:=q.2.1,km:=q.2.2,m:=x.m+1} dn rs) [] (lW n xs ys x.cs.length q.1).fr (xW {x with L:=x.L++[lW n xs ys x.cs.length q.1],cs:=kU n.kind x.cs i,pn:=q.1.pn,cn:=q.1.cn,pc:=q.1.pc,cc:=q.1.cc,made:=x.made++[((x.L.length+1:Nat):Int)],pm:=q.2.1,km:=q.2.2,m:=x.m+1}) w':=by
 refine enter Tryz.func114 Tryz.ntmps114 rfl rfl (cL hs) ?_;simp only[cP]
 simp only[Nd.v]
 refine J0 ?_;refine bF (λ x4=>?_);refine gX ?_;refine Kd8 ?_;refine bA (λ c10=>?_) (λ c10=>?_)
 ·try (exfalso;omega)
  exact absurd (h.symm.trans c10) (by decide)
 ·try (exfalso;omega)
  refine K0p ?_;refine bA (λ c20=>?_) (λ c20=>?_)
  ·try (exfalso;omega)
   refine dZ [(0,[]),(1,[]),(2,[]),(3,[]),(4,[]),(5,[]),(6,[]),(7,[]),(8,[]),(9,[]),(10,[]),(11,[4]),(12,[4]),(13,[]),(14,[]),(15,[]),(16,[])] ?_;refine aL ?_;refine Er ?_;refine aZ ?_;refine aL ?_;refine bL (i:=11) (hq:=(cM (A0:=[(n.brA,aH xs),(n.prA,dK ys)]) (hc:=λ w hs=>oK (n:=n) (L:=x.L) (cs:=x.cs) i hs e1 e2 hx hy (by omega) (by omega)))) (h:=λ x32 h32=>?_);refine dA (h:=λ x33=>?_);((refine cA (i:=13) (hq:=(aX.gA (tE (l:=x.made) (m:=x.made.length) rf rf (.tail .head) rfl fin Yd eC (by omega)) fM)) (h:=λ x34=>?_);try (refine dO (λ h34=>?_))));refine J4 ?_;refine kW (i:=16) (hq:=(by exact jI λ _=>bZ rf dI wn rf dC rf rf jX)) (h:=λ _=>?_);refine dJ ?_;refine oR ?_;refine aE (lT (m:=x.m) (n:=1) rf rf (by omega)) rfl ?_;refine Ns ?_;refine eJ (by exact jI λ _=>bZ rf dI wn rf dC rf rf jX) (λ _=>?_);refine Vy ?_;refine K1b ?_;refine cS (i:=8) (hq:=(kF (m:=x.m+1) (n:=1) rf rf (by omega) (by omega))) (h:=?_);refine bJ (i:=9) (hq:=(bE (m:=x.made.length+1) (k:=x.m+1-1) rf rf eC dC (.own (.tail .head)) (by omega) (by rw[List.length_append,List.length_cons,List.length_nil];omega))) (h:=?_);refine bJ (i:=10) (hq:=(bP (q:=x.m+1-1) rf dC (.own (.tail .head)) (by rw[List.length_append,List.length_cons,List.length_nil];omega))) (h:=?_);refine J7 ?_;refine aR Tryz.results114 (λ w hw=>?_);rw[show x.made.length+1=(x.made++[((x.L.length+1:Nat):Int)]).length by simp] at hw;exact⟨(x32,x34),by rw[show x.m+1-1=x.made.length by omega,sI];rfl,trivial,hw.ret (List.Sublist.cons _ (List.Sublist.refl _)) (aP.kJ λ f hf=>List.mem_cons_of_mem _ (List.mem_append_left _ hf)) (List.Sublist.refl _)⟩
  ·try (exfalso;omega)
end
end

end Go.Proofs.YtadnboagdhcedaaGreatDoor
