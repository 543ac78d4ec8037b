/- Merged. -/
import Derived.Test.YtbajmaoegmbfgaaGreatGRn1
import Derived.Test.YtbajmaoegmbfgaaGreatSp1
set_option linter.unusedSimpArgs false
set_option linter.unusedVariables false
namespace Go.Ct
section
def XS.kn(x:XS)(a:Ac):XS:=if x.st=true then x else if x.a<x.got.length then{x with a:=x.a+1} else if x.fr=0 then{x with st:=true,nx:=a} else{x with fr:=x.fr-1}
def XS.bR(x:XS):Bool:=!x.st&&decide (x.a<x.got.length)
def XS.now(x:XS):Bool:=!x.st&&!decide (x.a<x.got.length)&&!decide (x.fr=0)
variable{x:XS}{a:Ac}
theorem XS.z8(h:x.st=true):x.kn a=x/\x.bR=false/\x.now=false:=⟨if_pos h,by simp[XS.bR,h],by simp[XS.now,h]⟩
theorem XS.qd(h:x.st=false)(h1:x.a<x.got.length):x.kn a={x with a:=x.a+1}/\x.bR=true/\x.now=false:=⟨by unfold XS.kn;rw[if_neg (by rw[h];decide),if_pos h1],by simp[XS.bR,h,h1],by simp[XS.now,h1]⟩
theorem XS.zy(h:x.st=false)(h1:¬x.a<x.got.length)(h2:x.fr=0):x.kn a={x with st:=true,nx:=a}/\x.bR=false/\x.now=false:=⟨by unfold XS.kn;rw[if_neg (by rw[h];decide),if_neg h1,if_pos h2],by simp[XS.bR,h1],by simp[XS.now,h2]⟩
theorem XS.nu(h:x.st=false)(h1:¬x.a<x.got.length)(h2:¬x.fr=0):x.kn a={x with fr:=x.fr-1}/\x.bR=false/\x.now=true:=⟨by unfold XS.kn;rw[if_neg (by rw[h];decide),if_neg h1,if_neg h2],by simp[XS.bR,h1],by simp[XS.now,h,h1,h2]⟩
end
end Go.Ct
namespace Go.Proofs.YtbajmaoegmbfgaaGreat
open Go.Proofs.Tryz
open Go Go.RowKit Go.Ct
section
section
variable{k:Cl}{bx bm:Nat}{x:XS}{dn:Bool}{rs:Rs}{D:List Nat}{A:Fr}{w:World}
theorem Fv(a:Ac)(ok:x.Ok)(hs:SF w D (xH k bx bm x dn rs) A [] (xW x) w):Calls prog 240 #[.pointer (some ⟨bx,0,none⟩),.agg ⟨a.cells⟩] w λ e w'=>∃q:Unit,e=.returned (.tuple #[.bool x.bR,.bool x.now])/\True/\SF w D (xH k bx bm (x.kn a) dn rs) [] [] (xW (x.kn a)) w':=by
 have h1:=ok.lg;have h2:=ok.la;have h3:=ok.fr;refine enter func240 ntmps240 rfl rfl (aDu hs) ?_;simp only[cC]
 refine K1g ?_;intro x3;refine J8 ?_;refine aV ?_;refine Kc7 ?_;refine bD (λ c9=>?_) (λ c9=>?_);·refine Iu ?_;refine aY results240 (λ w hw=>?_);obtain⟨e1,e2,e3⟩:=XS.z8 (a:=a) c9;rw[e1,e2,e3];exact⟨(),rfl,trivial,hw.bA⟩
 ·refine lH ?_;refine aV ?_;refine gO [0,1,2,3,4,5,6,7,8,9] ?_;refine Fm ?_;refine pX ?_;refine D8 ?_;refine eS ?_;refine bD (λ c19=>?_) (λ c19=>?_);·refine mY ?_;refine Ea ?_;refine O0 ?_;refine Iu ?_;refine aY results240 (λ w hw=>?_);obtain⟨e1,e2,e3⟩:=XS.qd (a:=a) c9 (by omega);rw[e1,e2,e3];exact⟨(),rfl,trivial,hw.bA⟩
  ·refine lH ?_;refine mY ?_;refine tH ?_;refine bD (λ c31=>?_) (λ c31=>?_);·refine aV ?_;refine eM [(0,[]),(1,[]),(2,[]),(3,[]),(4,[]),(5,[2]),(6,[]),(7,[]),(8,[])] ?_;refine iR ?_;refine bW ?_;refine J4 ?_;refine pY (h:=λ _=>?_);refine J4 ?_;refine lZ (i:=8) (hq:=(gE λ _=>mE (off:=36) (vs:=a.cells) rf cY rf rfl eE (Nat.le_of_ble_eq_true rfl) rf iN)) (h:=λ _=>?_);refine eS ?_;refine Iu ?_;refine aY results240 (λ w hw=>?_);obtain⟨e1,e2,e3⟩:=XS.zy (a:=a) c9 (by omega) (by omega);rw[e1,e2,e3];exact⟨(),rfl,trivial,hw.bA⟩
   ·refine J83 ?_;refine tE ?_;refine O0 ?_;refine Iu ?_;refine aY results240 (λ w hw=>?_);obtain⟨e1,e2,e3⟩:=XS.nu (a:=a) c9 (by omega) (by omega);rw[e1,e2,e3];exact⟨(),rfl,trivial,hw.bA⟩
theorem R7(a:Ac)(ok:x.Ok)(h:x.st=true)(hs:SF w D (xH k bx bm x dn rs) A [] (xW x) w):Calls prog 240 #[.pointer (some ⟨bx,0,none⟩),.agg ⟨a.cells⟩] w λ e w'=>∃q:Unit,e=.returned (.tuple #[.bool false,.bool false])/\True/\SF w D (xH k bx bm x dn rs) [] [] (xW x) w':=by obtain⟨e1,e2,e3⟩:=XS.z8 (a:=a) h;have:=Fv (k:=k) (bx:=bx) (bm:=bm) (dn:=dn) (rs:=rs) (D:=D) (A:=A) (w:=w) a ok hs;rw[e1,e2,e3] at this;exact this
theorem Kp(a:Ac)(ok:x.Ok)(h:x.st=false)(h1:x.a<x.got.length)(hs:SF w D (xH k bx bm x dn rs) A [] (xW x) w):Calls prog 240 #[.pointer (some ⟨bx,0,none⟩),.agg ⟨a.cells⟩] w λ e w'=>∃q:Unit,e=.returned (.tuple #[.bool true,.bool false])/\True/\SF w D (xH k bx bm {x with a:=x.a+1} dn rs) [] [] (xW {x with a:=x.a+1}) w':=by obtain⟨e1,e2,e3⟩:=XS.qd (a:=a) h h1;have:=Fv (k:=k) (bx:=bx) (bm:=bm) (dn:=dn) (rs:=rs) (D:=D) (A:=A) (w:=w) a ok hs;rw[e1,e2,e3] at this;exact this
theorem Qn(a:Ac)(ok:x.Ok)(h:x.st=false)(h1:¬x.a<x.got.length)(h2:x.fr=0)(hs:SF w D (xH k bx bm x dn rs) A [] (xW x) w):Calls prog 240 #[.pointer (some ⟨bx,0,none⟩),.agg ⟨a.cells⟩] w λ e w'=>∃q:Unit,e=.returned (.tuple #[.bool false,.bool false])/\True/\SF w D (xH k bx bm {x with st:=true,nx:=a} dn rs) [] [] (xW {x with st:=true,nx:=a}) w':=by obtain⟨e1,e2,e3⟩:=XS.zy (a:=a) h h1 h2;have:=Fv (k:=k) (bx:=bx) (bm:=bm) (dn:=dn) (rs:=rs) (D:=D) (A:=A) (w:=w) a ok hs;rw[e1,e2,e3] at this;exact this
theorem Kq(a:Ac)(ok:x.Ok)(h:x.st=false)(h1:¬x.a<x.got.length)(h2:¬x.fr=0)(hs:SF w D (xH k bx bm x dn rs) A [] (xW x) w):Calls prog 240 #[.pointer (some ⟨bx,0,none⟩),.agg ⟨a.cells⟩] w λ e w'=>∃q:Unit,e=.returned (.tuple #[.bool false,.bool true])/\True/\SF w D (xH k bx bm {x with fr:=x.fr-1} dn rs) [] [] (xW {x with fr:=x.fr-1}) w':=by obtain⟨e1,e2,e3⟩:=XS.nu (a:=a) h h1 h2;have:=Fv (k:=k) (bx:=bx) (bm:=bm) (dn:=dn) (rs:=rs) (D:=D) (A:=A) (w:=w) a ok hs;rw[e1,e2,e3] at this;exact this
theorem yx(c:Int)(ok:x.Ok)(h:x.st=true)(hs:SF w D (xH k bx bm x dn rs) A [] (xW x) w):Calls prog 210 #[.pointer (some ⟨bx,0,none⟩),.int .i64 c] w λ e w'=>∃q:Unit,e=.returned (.int .i64 0)/\True/\SF w D (xH k bx bm x dn rs) [] [] (xW x) w':=by
 refine K2g ?_;simp only[cC];refine Kc1 ?_;refine bN ?_;refine aD (cM (hs:=xH k bx bm x dn rs) (os:=xW x) (hc:=λ w hs=>R7 ⟨1,c,0,0⟩ ok h hs)) (λ x11 h11=>?_);refine Kb7 ?_;refine aG ?_;refine bD (λ c14=>?_) (λ c14=>?_);·exact nv c14
 ·try (exact abt)
  refine lH ?_;refine J2 ?_;refine D5 ?_;(refine Ka3 ?_);refine Kc4 ?_;refine bD (λ c43=>?_) (λ c43=>?_)
  ·try (exact abt)
   refine cX ?_;refine aS results210 (λ w hw=>?_);exact⟨(),rfl,trivial,hw.bA⟩
  ·exact nv c43
theorem s7(c:Int)(ok:x.Ok)(h:x.st=false)(h1:¬x.a<x.got.length)(h2:x.fr=0)(hs:SF w D (xH k bx bm x dn rs) A [] (xW x) w):Calls prog 210 #[.pointer (some ⟨bx,0,none⟩),.int .i64 c] w λ e w'=>∃q:Unit,e=.returned (.int .i64 0)/\True/\SF w D (xH k bx bm {x with st:=true,nx:=⟨1,c,0,0⟩} dn rs) [] [] (xW {x with st:=true,nx:=⟨1,c,0,0⟩}) w':=by
 refine K2g ?_;simp only[cC];refine Kc1 ?_;refine bN ?_;refine aD (cM (hs:=xH k bx bm x dn rs) (os:=xW x) (hc:=λ w hs=>Qn ⟨1,c,0,0⟩ ok h h1 h2 hs)) (λ x11 h11=>?_);refine Kb7 ?_;refine aG ?_;refine bD (λ c14=>?_) (λ c14=>?_);·exact nv c14
 ·try (exact abt)
  refine lH ?_;refine J2 ?_;refine D5 ?_;(refine Ka3 ?_);refine Kc4 ?_;refine bD (λ c43=>?_) (λ c43=>?_)
  ·try (exact abt)
   refine cX ?_;refine aS results210 (λ w hw=>?_);exact⟨(),rfl,trivial,hw.bA⟩
  ·exact nv c43
theorem H7(c:Int)(ok:x.Ok)(h:x.st=false)(h1:x.a<x.got.length)(hs:SF w D (xH k bx bm x dn rs) A [] (xW x) w):Calls prog 210 #[.pointer (some ⟨bx,0,none⟩),.int .i64 c] w λ e w'=>∃q:Unit,e=.returned (.int .i64 (x.got.getD x.a 0))/\True/\SF w D (xH k bx bm {x with a:=x.a+1} dn rs) [] [] (xW {x with a:=x.a+1}) w':=by
 have hg:=ok.lg;refine K2g ?_;simp only[cC];refine Kc1 ?_;refine bN ?_;refine aD (cM (hs:=xH k bx bm x dn rs) (os:=xW x) (hc:=λ w hs=>Kp ⟨1,c,0,0⟩ ok h h1 hs)) (λ x11 h11=>?_);refine Kb7 ?_;refine aG ?_;refine bD (λ c14=>?_) (λ c14=>?_);·exact nv c14
 ·try (exact abt)
  refine lH ?_;refine J2 ?_;refine D5 ?_;refine aI ?_;refine Kc4 ?_;refine bD (λ c43=>?_) (λ c43=>?_);·exact nv c43
  ·try (exact abt)
   refine lH ?_;refine K0t ?_;refine cW (i:=8) (hq:=(jX (m:=x.a+1) (n:=1) rf rf (by omega) (by omega))) (h:=?_);refine bU (i:=9) (hq:=(dS (m:=x.got.length) (k:=x.a+1-1) (lst:=x.got) rf rf gS gB (.own .head) (by omega) (by omega))) (h:=?_);refine bU (i:=10) (hq:=(fH (q:=x.a+1-1) (lst:=x.got) rf gB (.own .head) (by omega))) (h:=?_);refine J7 ?_;refine aS results210 (λ w hw=>?_);exact⟨(),by rw[Nat.add_sub_cancel];rfl,trivial,hw.bA⟩
theorem kw(c:Int)(hc:c<=9223372036854775807)(ok:x.Ok)(h:x.st=false)(h1:¬x.a<x.got.length)(h2:¬x.fr=0)(hs:SF w D (xH k bx bm x dn rs) A [] (xW x) w):Calls prog 210 #[.pointer (some ⟨bx,0,none⟩),.int .i64 c] w λ e w'=>∃q:Option Addr×Nat,e=.returned (.int .i64 (bJ x.cs c))/\True/\SF w D (xH k bx bm {x with fr:=x.fr-1,acc:=up x.acc,got:=x.got++[bJ x.cs c],pg:=q.1,kg:=q.2,a:=x.a+1} dn rs) [] [] (xW {x with fr:=x.fr-1,acc:=up x.acc,got:=x.got++[bJ x.cs c],pg:=q.1,kg:=q.2,a:=x.a+1}) w':=by
 have hg:=ok.lg;have ha:=ok.la;have hlc:=ok.lc;refine K2g ?_;simp only[cC]
 refine Kc1 ?_;refine bN ?_;refine aD (cM (hs:=xH k bx bm x dn rs) (os:=xW x) (hc:=λ w hs=>Kq ⟨1,c,0,0⟩ ok h h1 h2 hs)) (λ x11 h11=>?_);refine Kb7 ?_;refine aG ?_;refine bD (λ c14=>?_) (λ c14=>?_)
 ·try (exact abt)
  refine eM [(0,[]),(1,[]),(2,[]),(3,[]),(4,[]),(5,[]),(6,[]),(7,[]),(8,[]),(9,[]),(10,[]),(14,[]),(15,[]),(16,[]),(17,[]),(18,[]),(11,[5,17]),(12,[5,17]),(13,[17]),(19,[]),(20,[]),(21,[]),(22,[]),(23,[]),(24,[])] ?_;refine iR ?_;refine Fm ?_;refine cg ?_;refine cW (i:=18) (hq:=(pS (m:=x.a) (n:=1) rf rf (by omega))) (h:=?_);refine bK (i:=11) (hq:=(cM (hc:=λ w hs=>ug (L:=x.L) (cs:=x.cs) hs c hc (by omega)))) (h:=λ x26 h26=>?_);refine cG (h:=λ x27=>?_);((refine dD (i:=13) (hq:=(bE.eW (uQ (l:=x.got) (v:=bJ x.cs c) (m:=x.got.length) rf rf .head rfl fin cf gS (by omega)) vS)) (h:=λ x28=>?_);try (refine eL (λ h28=>?_))));refine J4 ?_;refine lZ (i:=21) (hq:=E0b) (h:=λ _=>?_);refine J4 ?_;refine lZ (i:=24) (hq:=E0b) (h:=λ _=>?_);refine eS ?_;refine kF ?_;refine D5 ?_;(refine Ka3 ?_);refine Kc4 ?_;refine bD (λ c43=>?_) (λ c43=>?_);·exact nv c43
  ·try (exact abt)
   refine lH ?_;refine K0t ?_;refine cW (i:=8) (hq:=(jX (m:=x.a+1) (n:=1) rf rf (by omega) (by omega))) (h:=?_);refine bU (i:=9) (hq:=(dS (m:=x.got.length+1) (k:=x.a+1-1) (lst:=x.got++[bJ x.cs c]) rf rf gS gB (.own .head) (by omega) E0c)) (h:=?_);refine bU (i:=10) (hq:=(fH (q:=x.a+1-1) (lst:=x.got++[bJ x.cs c]) rf gB (.own .head) E0c)) (h:=?_);refine J7 ?_;refine aS results210 (λ w hw=>?_);rw[show x.got.length+1=(x.got++[bJ x.cs c]).length by simp] at hw;exact⟨x28,by rw[show(x.got++[bJ x.cs c]).getD (x.a+1-1) 0=bJ x.cs c by rw[show x.a+1-1=x.got.length by omega,jA,List.getElem?_append_right (Nat.le_refl _)];simp];rfl,trivial,hw.bA⟩
 ·exact nv c14
end
end
end Go.Proofs.YtbajmaoegmbfgaaGreat
namespace Go.Ct
section
def U6(b:Bool):Int:=if b=true then 1 else 0
theorem sR(l:List Int)(v:Int):(l++[v]).getD l.length 0=v:=by rw[jA,List.getElem?_append_right (Nat.le_refl _)];simp
end
end Go.Ct
namespace Go.Proofs.YtbajmaoegmbfgaaGreat
open Go.Proofs.Tryz
open Go Go.RowKit Go.Ct
section
section
variable{k:Cl}{bx bm:Nat}{x:XS}{dn:Bool}{rs:Rs}{D:List Nat}{A:Fr}{w:World}
theorem aBY(c o n:Int)(ok:x.Ok)(h:x.st=true)(hs:SF w D (xH k bx bm x dn rs) A [] (xW x) w):Calls prog 212 #[.pointer (some ⟨bx,0,none⟩),.int .i64 c,.int .i64 o,.int .i64 n] w λ e w'=>∃q:Unit,e=.returned (.bool false)/\True/\SF w D (xH k bx bm x dn rs) [] [] (xW x) w':=by
 refine K2f ?_;simp only[cC];refine Kc1 ?_;refine qL ?_;refine bN ?_;refine aD (cM (hs:=xH k bx bm x dn rs) (os:=xW x) (hc:=λ w hs=>R7 ⟨2,c,o,n⟩ ok h hs)) (λ x18 h18=>?_);refine Kb7 ?_;refine aG ?_;refine bD (λ c21=>?_) (λ c21=>?_);·exact nv c21
 ·try (exact abt)
  refine lH ?_;refine K0r ?_;refine iA ?_;refine J60 ?_;refine J30 ?_;(refine iA ?_);refine J74 ?_;refine K2c ?_;intro w hw;exact⟨(),rfl,trivial,hw.bA⟩
theorem aBN(c o n:Int)(ok:x.Ok)(h:x.st=false)(h1:¬x.a<x.got.length)(h2:x.fr=0)(hs:SF w D (xH k bx bm x dn rs) A [] (xW x) w):Calls prog 212 #[.pointer (some ⟨bx,0,none⟩),.int .i64 c,.int .i64 o,.int .i64 n] w λ e w'=>∃q:Unit,e=.returned (.bool false)/\True/\SF w D (xH k bx bm {x with st:=true,nx:=⟨2,c,o,n⟩} dn rs) [] [] (xW {x with st:=true,nx:=⟨2,c,o,n⟩}) w':=by
 refine K2f ?_;simp only[cC];refine Kc1 ?_;refine qL ?_;refine bN ?_;refine aD (cM (hs:=xH k bx bm x dn rs) (os:=xW x) (hc:=λ w hs=>Qn ⟨2,c,o,n⟩ ok h h1 h2 hs)) (λ x18 h18=>?_);refine Kb7 ?_;refine aG ?_;refine bD (λ c21=>?_) (λ c21=>?_);·exact nv c21
 ·try (exact abt)
  refine lH ?_;refine K0r ?_;refine iA ?_;refine J60 ?_;refine J30 ?_;(refine iA ?_);refine J74 ?_;refine K2c ?_;intro w hw;exact⟨(),rfl,trivial,hw.bA⟩
theorem Nw(c o n:Int)(ok:x.Ok)(h:x.st=false)(h1:x.a<x.got.length)(hs:SF w D (xH k bx bm x dn rs) A [] (xW x) w):Calls prog 212 #[.pointer (some ⟨bx,0,none⟩),.int .i64 c,.int .i64 o,.int .i64 n] w λ e w'=>∃q:Unit,e=.returned (.bool (x.got.getD x.a 0==1))/\True/\SF w D (xH k bx bm {x with a:=x.a+1} dn rs) [] [] (xW {x with a:=x.a+1}) w':=by
 have hg:=ok.lg;refine K2f ?_;simp only[cC];refine Kc1 ?_;refine qL ?_;refine bN ?_;refine aD (cM (hs:=xH k bx bm x dn rs) (os:=xW x) (hc:=λ w hs=>Kp ⟨2,c,o,n⟩ ok h h1 hs)) (λ x18 h18=>?_);refine Kb7 ?_;refine aG ?_;refine bD (λ c21=>?_) (λ c21=>?_);·exact nv c21
 ·try (exact abt)
  refine lH ?_;refine gO [0,1,2,3,4,5,6,7,8,9,10,11,12,13,14,15,16,17,18] ?_;refine iR ?_;refine iA ?_;refine jY ?_;refine aT ?_;(refine aT ?_);refine J60 ?_;refine J30 ?_;((refine cW (i:=13) (hq:=(jX (m:=x.a+1) (n:=1) rf rf (by omega) (by omega))) (h:=?_)));((refine bU (i:=14) (hq:=(dS (m:=x.got.length) (k:=x.a+1-1) (lst:=x.got) rf rf gS gB (.own .head) (by omega) (by omega))) (h:=?_)));((refine bU (i:=15) (hq:=(fH (q:=x.a+1-1) (lst:=x.got) rf gB (.own .head) (by omega))) (h:=?_)));refine K2c ?_;intro w hw;exact⟨(),by rw[Nat.add_sub_cancel];rfl,trivial,hw.bA⟩
theorem yd(c o n:Int)(hc:c<=9223372036854775807)(ok:x.Ok)(h:x.st=false)(h1:¬x.a<x.got.length)(h2:¬x.fr=0)(hs:SF w D (xH k bx bm x dn rs) A [] (xW x) w):Calls prog 212 #[.pointer (some ⟨bx,0,none⟩),.int .i64 c,.int .i64 o,.int .i64 n] w λ e w'=>∃q:Bool×(Option Addr×Nat),e=.returned (.bool q.1)/\(q.1=true↔iJ x.cs c o)/\SF w D (xH k bx bm {x with fr:=x.fr-1,cs:=eK x.cs c o n,acc:=up x.acc,got:=x.got++[U6 q.1],pg:=q.2.1,kg:=q.2.2,a:=x.a+1} dn rs) [] [] (xW {x with fr:=x.fr-1,cs:=eK x.cs c o n,acc:=up x.acc,got:=x.got++[U6 q.1],pg:=q.2.1,kg:=q.2.2,a:=x.a+1}) w':=by
 have hg:=ok.lg;have ha:=ok.la;have hlc:=ok.lc;refine K2f ?_;simp only[cC]
 refine Kc1 ?_;refine qL ?_;refine bN ?_;refine aD (cM (hs:=xH k bx bm x dn rs) (os:=xW x) (hc:=λ w hs=>Kq ⟨2,c,o,n⟩ ok h h1 h2 hs)) (λ x18 h18=>?_);refine Kb7 ?_;refine aG ?_;refine bD (λ c21=>?_) (λ c21=>?_)
 ·try (exact abt)
  refine Fh ?_;refine mY ?_;refine qL ?_;refine aA ?_;refine aD (cM (V:=.bool) (hc:=λ w hs=>aA4 (L:=x.L) (cs:=x.cs) hs c o n hc (by omega))) (λ x29 h29=>?_);refine aG ?_;refine bD (λ c29=>?_) (λ c29=>?_)
  ·try (exact abt)
   have hv:(1:Int)=U6 x29:=by rw[c29];rfl
   refine dU ?_;refine J1 ?_;refine K0v ?_;refine cG (h:=λ x37=>?_);((refine dD (i:=8) (hq:=(bE.eW (uQ (l:=x.got) (m:=x.got.length) rf rf .head rfl fin cf gS (by omega)) vS)) (h:=λ x38=>?_);try (refine eL (λ h38=>?_))));refine J4 ?_;refine lZ (i:=16) (hq:=E0b) (h:=λ _=>?_);refine J4 ?_;refine lZ (i:=19) (hq:=E0b) (h:=λ _=>?_);refine eS ?_;refine aV ?_;refine K0r ?_;(refine aT ?_);refine J60 ?_;refine J30 ?_;((refine cW (i:=13) (hq:=(jX (m:=x.a+1) (n:=1) rf rf (by omega) (by omega))) (h:=?_)));((refine bU (i:=14) (hq:=(dS (m:=x.got.length+1) (k:=x.a+1-1) rf rf gS gB (.own .head) (by omega) E0c)) (h:=?_)));((refine bU (i:=15) (hq:=(fH (q:=x.a+1-1) rf gB (.own .head) E0c)) (h:=?_)));refine K2c ?_;intro w hw;rw[hv] at hw;rw[show x.got.length+1=(x.got++[U6 x29]).length by simp] at hw;exact⟨(x29,x38),by rw[show x.a+1-1=x.got.length by omega,sR,c29];rfl,h29,hw.bA⟩
  ·try (exact abt)
   have hv:(0:Int)=U6 x29:=by rw[c29];rfl
   refine aW ?_;refine K0v ?_;refine cG (h:=λ x37=>?_);((refine dD (i:=8) (hq:=(bE.eW (uQ (l:=x.got) (m:=x.got.length) rf rf .head rfl fin cf gS (by omega)) vS)) (h:=λ x38=>?_);try (refine eL (λ h38=>?_))));refine J4 ?_;refine lZ (i:=16) (hq:=E0b) (h:=λ _=>?_);refine J4 ?_;refine lZ (i:=19) (hq:=E0b) (h:=λ _=>?_);refine eS ?_;refine aV ?_;refine K0r ?_;(refine aT ?_);refine J60 ?_;refine J30 ?_;((refine cW (i:=13) (hq:=(jX (m:=x.a+1) (n:=1) rf rf (by omega) (by omega))) (h:=?_)));((refine bU (i:=14) (hq:=(dS (m:=x.got.length+1) (k:=x.a+1-1) rf rf gS gB (.own .head) (by omega) E0c)) (h:=?_)));((refine bU (i:=15) (hq:=(fH (q:=x.a+1-1) rf gB (.own .head) E0c)) (h:=?_)));refine K2c ?_;intro w hw;rw[hv] at hw;rw[show x.got.length+1=(x.got++[U6 x29]).length by simp] at hw;exact⟨(x29,x38),by rw[show x.a+1-1=x.got.length by omega,sR,c29];rfl,h29,hw.bA⟩
 ·exact nv c21
end
end
section
section
variable{k:Cl}{bx bm:Nat}{x:XS}{dn:Bool}{rs:Rs}{D:List Nat}{A:Fr}{w:World}
theorem fS(r:Int)(hr:r<=9223372036854775807)(ok:x.Ok)(hs:SF w D (xH k bx bm x dn rs) A [] (xW x) w):Calls prog 211 #[.pointer (some ⟨bx,0,none⟩),.int .i64 r] w λ e w'=>∃q:Unit,e=.returned (aB x.L r).nd.v/\True/\SF w D (xH k bx bm x dn rs) [] [] (xW x) w':=by
 have hl:=ok.lL;refine enter func211 ntmps211 rfl rfl (cI hs) ?_;simp only[cC]
 refine K0q ?_;intro x4;refine mY ?_;refine aA ?_;refine aD (cM (hc:=λ w hs=>ya (L:=x.L) (cs:=x.cs) hs r hr (by omega))) (λ x10 h10=>?_);refine J5 ?_;refine aY results211 (λ w hw=>?_);exact⟨(),rfl,trivial,hw.bA⟩
theorem ib{n:Nd}(i:Int)(h:x.st=true)(hs:SF w D (xH k bx bm x dn rs) A [] (xW x) w):Calls prog 215 #[.pointer (some ⟨bx,0,none⟩),n.v,.int .i64 i] w λ e w'=>∃q:Unit,e=.returned (.int .i64 0)/\True/\SF w D (xH k bx bm x dn rs) [] [] (xW x) w':=by
 refine enter func215 ntmps215 rfl rfl (cI hs) ?_;simp only[cC];simp only[Nd.v];refine J0 ?_;refine bL (λ x4=>?_);refine jG ?_;refine Kc7 ?_;refine bD (λ c10=>?_) (λ c10=>?_);·refine cX ?_;refine aS results215 (λ w hw=>?_);exact⟨(),rfl,trivial,hw.bA⟩
 ·exact absurd (h.symm.trans c10) (by decide)
theorem alloc_old{n:Nd}(i:Int)(ok:x.Ok)(h:x.st=false)(h1:x.m<x.made.length)(hl:x.made.length<=274877906944)(hs:SF w D (xH k bx bm x dn rs) A [] (xW x) w):Calls prog 215 #[.pointer (some ⟨bx,0,none⟩),n.v,.int .i64 i] w λ e w'=>∃q:Unit,e=.returned (.int .i64 (x.made.getD x.m 0))/\True/\SF w D (xH k bx bm {x with m:=x.m+1} dn rs) [] [] (xW {x with m:=x.m+1}) w':=by
 refine enter func215 ntmps215 rfl rfl (cI hs) ?_;simp only[cC];simp only[Nd.v];refine J0 ?_;refine bL (λ x4=>?_);refine jG ?_;refine Kc7 ?_;refine bD (λ c10=>?_) (λ c10=>?_)
 ·try (exfalso;omega)
  exact absurd (h.symm.trans c10) (by decide)
 ·try (exfalso;omega)
  refine K0j ?_;refine bD (λ c20=>?_) (λ c20=>?_);·try (exfalso;omega)
  ·try (exfalso;omega)
   refine J83 ?_;refine aC (pS (m:=x.m) (n:=1) rf rf (by omega)) rfl ?_;refine Hs ?_;refine bT E0b (λ _=>?_);refine S8 ?_;refine K0t ?_;refine cW (i:=8) (hq:=(jX (m:=x.m+1) (n:=1) rf rf (by omega) (by omega))) (h:=?_);refine bU (i:=9) (hq:=(dS (m:=x.made.length) (k:=x.m+1-1) (lst:=x.made) rf rf gS gB (.own (.tail .head)) (by omega) (by omega))) (h:=?_);refine bU (i:=10) (hq:=(fH (q:=x.m+1-1) (lst:=x.made) rf gB (.own (.tail .head)) (by omega))) (h:=?_);refine J7 ?_;refine aS results215 (λ w hw=>?_);exact⟨(),by rw[Nat.add_sub_cancel];rfl,trivial,hw.bA⟩
theorem Zw{n:Nd}{xs:List Int}{ys:List Pr}(i:Int)(ok:x.Ok)(h:x.st=false)(h1:x.m=x.made.length)(hl:x.made.length<=137438953472)(hLl:x.L.length<=274877906900)(hcl:x.cs.length<=274877906900)(e1:n.brN=xs.length)(e2:n.prN=ys.length)(hx:xs.length<=274877906944)(hy:ys.length<=274877906944)(hs:SF w D (xH k bx bm x dn rs) [(n.brA,aH xs),(n.prA,dI ys)] [] (xW x) w):Calls prog 215 #[.pointer (some ⟨bx,0,none⟩),n.v,.int .i64 i] w λ e w'=>∃q:AX×(Option Addr×Nat),e=.returned (.int .i64 ((x.L.length+1:Nat):Int))/\True /\
   SF w D (xH k bx bm {x with L:=x.L++[pW n xs ys x.cs.length q.1],cs:=fJ n.kind x.cs i,pn:=q.1.pn,cn:=q.1.cn,pc:=q.1.pc,cc:=q.1.cc,made:=x.made++[((x.L.length+1:Nat):Int)],pm:=q.2.1,km:=q.2.2,m:=x.m+1} dn rs) [] (pW n xs ys x.cs.length q.1).fr (xW {x with L:=x.L++[pW n xs ys x.cs.length q.1],cs:=fJ n.kind x.cs i,pn:=q.1.pn,cn:=q.1.cn,pc:=q.1.pc,cc:=q.1.cc,made:=x.made++[((x.L.length+1:Nat):Int)],pm:=q.2.1,km:=q.2.2,m:=x.m+1}) w':=by
 refine enter func215 ntmps215 rfl rfl (cI hs) ?_;simp only[cC];simp only[Nd.v];refine J0 ?_;refine bL (λ x4=>?_);refine jG ?_;refine Kc7 ?_;refine bD (λ c10=>?_) (λ c10=>?_)
 ·try (exfalso;omega)
  exact absurd (h.symm.trans c10) (by decide)
 ·try (exfalso;omega)
  refine K0j ?_;refine bD (λ c20=>?_) (λ c20=>?_)
  ·try (exfalso;omega)
   refine eM [(0,[]),(1,[]),(2,[]),(3,[]),(4,[]),(5,[]),(6,[]),(7,[]),(8,[]),(9,[]),(10,[]),(11,[4]),(12,[4]),(13,[]),(14,[]),(15,[]),(16,[])] ?_;refine aT ?_;refine Fm ?_;refine bW ?_;refine aT ?_;refine bK (i:=11) (hq:=(cM (A0:=[(n.brA,aH xs),(n.prA,dI ys)]) (hc:=λ w hs=>H5 (n:=n) (L:=x.L) (cs:=x.cs) i hs e1 e2 hx hy (by omega) (by omega)))) (h:=λ x32 h32=>?_);refine cG (h:=λ x33=>?_);((refine dD (i:=13) (hq:=(bE.eW (uQ (l:=x.made) (m:=x.made.length) rf rf (.tail .head) rfl fin cf gS (by omega)) vS)) (h:=λ x34=>?_);try (refine eL (λ h34=>?_))));refine J4 ?_;refine lZ (i:=16) (hq:=E0b) (h:=λ _=>?_);refine eS ?_;refine mY ?_;refine aC (pS (m:=x.m) (n:=1) rf rf (by omega)) rfl ?_;refine Hs ?_;refine bT E0b (λ _=>?_);refine S8 ?_;refine K0t ?_;refine cW (i:=8) (hq:=(jX (m:=x.m+1) (n:=1) rf rf (by omega) (by omega))) (h:=?_);refine bU (i:=9) (hq:=(dS (m:=x.made.length+1) (k:=x.m+1-1) rf rf gS gB (.own (.tail .head)) (by omega) E0c)) (h:=?_);refine bU (i:=10) (hq:=(fH (q:=x.m+1-1) rf gB (.own (.tail .head)) E0c)) (h:=?_);refine J7 ?_;refine aS results215 (λ w hw=>?_);rw[show x.made.length+1=(x.made++[((x.L.length+1:Nat):Int)]).length by simp] at hw;exact⟨(x32,x34),by rw[show x.m+1-1=x.made.length by omega,sR];rfl,trivial,hw.ret (List.Sublist.cons _ (List.Sublist.refl _)) (aZ.iV λ f hf=>List.mem_cons_of_mem _ (List.mem_append_left _ hf)) (List.Sublist.refl _)⟩
  ·try (exfalso;omega)
end
end
section
theorem Sa:dK prog 27=some (.int .i64 0):=by kernel_rfl
theorem G7:dY prog 151 27 [.int .i64 0]:=nA (by kernel_rfl) Sa rfl
section
variable{k:Cl}{bx bm:Nat}{x:XS}{dn:Bool}{rs:Rs}{D:List Nat}{A:Fr}{w:World}
theorem vt(i:Int)(h:x.st=true)(hs:SF w D (xH k bx bm x dn rs) A [] (xW x) w):Calls prog 228 #[.pointer (some ⟨bx,0,none⟩),.int .i64 i] w λ e w'=>∃q:Unit,e=.returned (.int .i64 0)/\True/\SF w D (xH k bx bm x dn rs) [] [] (xW x) w':=by
 refine enter func228 ntmps228 rfl rfl (cI hs) ?_;simp only[cC];refine Fh ?_;refine Kc7 ?_;refine bD (λ c8=>?_) (λ c8=>?_);·refine cX ?_;refine aS results228 (λ w hw=>?_);exact⟨(),rfl,trivial,hw.bA⟩
 ·exact absurd (h.symm.trans c8) (by decide)
theorem Gz(i:Int)(h:x.st=false)(h1:x.c<x.cel.length)(hl:x.cel.length<=274877906944)(hs:SF w D (xH k bx bm x dn rs) A [] (xW x) w):Calls prog 228 #[.pointer (some ⟨bx,0,none⟩),.int .i64 i] w λ e w'=>∃q:Unit,e=.returned (.int .i64 (x.cel.getD x.c 0))/\True/\SF w D (xH k bx bm {x with c:=x.c+1} dn rs) [] [] (xW {x with c:=x.c+1}) w':=by
 refine enter func228 ntmps228 rfl rfl (cI hs) ?_;simp only[cC];refine Fh ?_;refine Kc7 ?_;refine bD (λ c8=>?_) (λ c8=>?_)
 ·try (exfalso;omega)
  exact absurd (h.symm.trans c8) (by decide)
 ·try (exfalso;omega)
  refine K0j ?_;refine bD (λ c18=>?_) (λ c18=>?_);·try (exfalso;omega)
  ·try (exfalso;omega)
   refine J83 ?_;refine aC (pS (m:=x.c) (n:=1) rf rf (by omega)) rfl ?_;refine Hs ?_;refine bT E0b (λ _=>?_);refine S8 ?_;refine K0t ?_;refine cW (i:=8) (hq:=(jX (m:=x.c+1) (n:=1) rf rf (by omega) (by omega))) (h:=?_);refine bU (i:=9) (hq:=(dS (m:=x.cel.length) (k:=x.c+1-1) (lst:=x.cel) rf rf gS gB (.own (.tail (.tail .head))) (by omega) (by omega))) (h:=?_);refine bU (i:=10) (hq:=(fH (q:=x.c+1-1) (lst:=x.cel) rf gB (.own (.tail (.tail .head))) (by omega))) (h:=?_);refine J7 ?_;refine aS results228 (λ w hw=>?_);exact⟨(),by rw[Nat.add_sub_cancel];rfl,trivial,hw.bA⟩
theorem oi(i:Int)(h:x.st=false)(h1:x.c=x.cel.length)(hl:x.cel.length<=137438953472)(hcl:x.cs.length<=274877906900)(hs:SF w D (xH k bx bm x dn rs) A [] (xW x) w):Calls prog 228 #[.pointer (some ⟨bx,0,none⟩),.int .i64 i] w λ e w'=>∃q:(Option Addr×Nat)×(Option Addr×Nat),e=.returned (.int .i64 ((x.cs.length+1:Nat):Int))/\True /\
   SF w D (xH k bx bm {x with cs:=x.cs++[i],pc:=q.1.1,cc:=q.1.2,cel:=x.cel++[((x.cs.length+1:Nat):Int)],pl:=q.2.1,kl:=q.2.2,c:=x.c+1} dn rs) [] [] (xW {x with cs:=x.cs++[i],pc:=q.1.1,cc:=q.1.2,cel:=x.cel++[((x.cs.length+1:Nat):Int)],pl:=q.2.1,kl:=q.2.2,c:=x.c+1}) w':=by
 refine enter func228 ntmps228 rfl rfl (cI hs) ?_;simp only[cC];refine Fh ?_;refine Kc7 ?_;refine bD (λ c8=>?_) (λ c8=>?_)
 ·try (exfalso;omega)
  exact absurd (h.symm.trans c8) (by decide)
 ·try (exfalso;omega)
  refine K0j ?_;refine bD (λ c18=>?_) (λ c18=>?_)
  ·try (exfalso;omega)
   refine eM [(0,[]),(1,[]),(2,[]),(3,[]),(4,[]),(5,[]),(6,[]),(7,[]),(8,[]),(9,[]),(10,[4]),(11,[4]),(12,[]),(13,[]),(14,[]),(15,[])] ?_;refine aT ?_;refine Fm ?_;refine aT ?_;refine bK (i:=10) (hq:=(cM (hc:=λ w hs=>mA (L:=x.L) (cs:=x.cs) i hs (by omega)))) (h:=λ x29 h29=>?_);refine dD (i:=11) (hq:=((by exact Mf (λ _=>dF (cs:=aH [((x.cs.length+1:Nat):Int)]) G7 Ky rfl rfl rfl rfl rfl)))) (h:=λ x30=>?_);((refine dD (i:=12) (hq:=(bE.eW (uQ (l:=x.cel) (m:=x.cel.length) rf rf (.tail (.tail .head)) rfl fin (by exact G7) gS (by omega)) vS)) (h:=λ x31=>?_);try (refine eL (λ h31=>?_))));refine J4 ?_;refine lZ (i:=15) (hq:=E0b) (h:=λ _=>?_);refine eS ?_;refine mY ?_;refine aC (pS (m:=x.c) (n:=1) rf rf (by omega)) rfl ?_;refine Hs ?_;refine bT E0b (λ _=>?_);refine S8 ?_;refine K0t ?_;refine cW (i:=8) (hq:=(jX (m:=x.c+1) (n:=1) rf rf (by omega) (by omega))) (h:=?_);refine bU (i:=9) (hq:=(dS (m:=x.cel.length+1) (k:=x.c+1-1) rf rf gS gB (.own (.tail (.tail .head))) (by omega) E0c)) (h:=?_);refine bU (i:=10) (hq:=(fH (q:=x.c+1-1) rf gB (.own (.tail (.tail .head))) E0c)) (h:=?_);refine J7 ?_;refine aS results228 (λ w hw=>?_);rw[show x.cel.length+1=(x.cel++[((x.cs.length+1:Nat):Int)]).length by simp] at hw;exact⟨(x29,x31),by rw[show x.c+1-1=x.cel.length by omega,sR];rfl,trivial,hw.bA⟩
  ·try (exfalso;omega)
theorem aBy(h:x.st=true)(hs:SF w D (xH k bx bm x dn rs) A [] (xW x) w):Calls prog 230 #[.pointer (some ⟨bx,0,none⟩)] w λ e w'=>∃q:Unit,e=.returned (.int .i64 0)/\True/\SF w D (xH k bx bm x dn rs) [] [] (xW x) w':=by
 refine enter func230 ntmps230 rfl rfl (cI hs) ?_;simp only[cC];refine Fh ?_;refine Kc7 ?_;refine bD (λ c6=>?_) (λ c6=>?_);·refine cX ?_;refine aS results230 (λ w hw=>?_);exact⟨(),rfl,trivial,hw.bA⟩
 ·exact absurd (h.symm.trans c6) (by decide)
theorem Nh(h:x.st=false)(h1:x.g<x.gns.length)(hl:x.gns.length<=274877906944)(hs:SF w D (xH k bx bm x dn rs) A [] (xW x) w):Calls prog 230 #[.pointer (some ⟨bx,0,none⟩)] w λ e w'=>∃q:Unit,e=.returned (.int .i64 (x.gns.getD x.g 0))/\True/\SF w D (xH k bx bm {x with g:=x.g+1} dn rs) [] [] (xW {x with g:=x.g+1}) w':=by
 refine enter func230 ntmps230 rfl rfl (cI hs) ?_;simp only[cC];refine Fh ?_;refine Kc7 ?_;refine bD (λ c6=>?_) (λ c6=>?_)
 ·try (exfalso;omega)
  exact absurd (h.symm.trans c6) (by decide)
 ·try (exfalso;omega)
  refine K0j ?_;refine bD (λ c16=>?_) (λ c16=>?_);·try (exfalso;omega)
  ·try (exfalso;omega)
   refine J83 ?_;refine aC (pS (m:=x.g) (n:=1) rf rf (by omega)) rfl ?_;refine Hs ?_;refine bT E0b (λ _=>?_);refine S8 ?_;refine K0t ?_;refine cW (i:=8) (hq:=(jX (m:=x.g+1) (n:=1) rf rf (by omega) (by omega))) (h:=?_);refine bU (i:=9) (hq:=(dS (m:=x.gns.length) (k:=x.g+1-1) (lst:=x.gns) rf rf gS gB (.own (.tail (.tail (.tail .head)))) (by omega) (by omega))) (h:=?_);refine bU (i:=10) (hq:=(fH (q:=x.g+1-1) (lst:=x.gns) rf gB (.own (.tail (.tail (.tail .head)))) (by omega))) (h:=?_);refine J7 ?_;refine aS results230 (λ w hw=>?_);exact⟨(),by rw[Nat.add_sub_cancel];rfl,trivial,hw.bA⟩
theorem wo(h:x.st=false)(h1:x.g=x.gns.length)(hl:x.gns.length<=137438953472)(hgn : -1<=x.gen/\x.gen<=137438953600)(hs:SF w D (xH k bx bm x dn rs) A [] (xW x) w):Calls prog 230 #[.pointer (some ⟨bx,0,none⟩)] w λ e w'=>∃q:Option Addr×Nat,e=.returned (.int .i64 (x.gen+1))/\True /\
   SF w D (xH k bx bm {x with gen:=x.gen+1,gns:=x.gns++[x.gen+1],pe:=q.1,ke:=q.2,g:=x.g+1} dn rs) [] [] (xW {x with gen:=x.gen+1,gns:=x.gns++[x.gen+1],pe:=q.1,ke:=q.2,g:=x.g+1}) w':=by
 have hup:up x.gen=x.gen+1:=wrap_i64 (by omega) (by omega);refine enter func230 ntmps230 rfl rfl (cI hs) ?_;simp only[cC]
 refine Fh ?_;refine Kc7 ?_;refine bD (λ c6=>?_) (λ c6=>?_)
 ·try (exfalso;omega)
  exact absurd (h.symm.trans c6) (by decide)
 ·try (exfalso;omega)
  refine K0j ?_;refine bD (λ c16=>?_) (λ c16=>?_)
  ·try (exfalso;omega)
   refine eM [(0,[]),(1,[]),(2,[]),(3,[]),(4,[]),(5,[]),(6,[]),(7,[]),(8,[]),(9,[4]),(10,[4]),(11,[]),(12,[]),(13,[]),(14,[])] ?_;refine aT ?_;refine Fm ?_;refine bK (i:=9) (hq:=(cM (hc:=λ w hs=>Lf (L:=x.L) (cs:=x.cs) (gen:=x.gen) hs))) (h:=λ x26 h26=>?_);refine cG (h:=λ x27=>?_);((refine dD (i:=11) (hq:=(bE.eW (uQ (l:=x.gns) (m:=x.gns.length) rf rf (.tail (.tail (.tail .head))) rfl fin (by exact Gh) gS (by omega)) vS)) (h:=λ x28=>?_);try (refine eL (λ h28=>?_))));refine J4 ?_;refine lZ (i:=14) (hq:=E0b) (h:=λ _=>?_);refine eS ?_;refine mY ?_;refine aC (pS (m:=x.g) (n:=1) rf rf (by omega)) rfl ?_;refine Hs ?_;refine bT E0b (λ _=>?_);refine S8 ?_;refine K0t ?_;refine cW (i:=8) (hq:=(jX (m:=x.g+1) (n:=1) rf rf (by omega) (by omega))) (h:=?_);refine bU (i:=9) (hq:=(dS (m:=x.gns.length+1) (k:=x.g+1-1) rf rf gS gB (.own (.tail (.tail (.tail .head)))) (by omega) E0c)) (h:=?_);refine bU (i:=10) (hq:=(fH (q:=x.g+1-1) rf gB (.own (.tail (.tail (.tail .head)))) E0c)) (h:=?_);refine J7 ?_;refine aS results230 (λ w hw=>?_);rw[hup,show x.gns.length+1=(x.gns++[x.gen+1]).length by simp] at hw;exact⟨x28,by rw[show x.g+1-1=x.gns.length by omega,sR,hup];rfl,trivial,hw.bA⟩
  ·try (exfalso;omega)
end
end
end Go.Proofs.YtbajmaoegmbfgaaGreat
namespace Go.Ct
open Go Go.RowKit
section
section
variable{g:Gx}{x:XS}{N:List aR}
variable{t t':Tr}{x':XS}{b b':Int}
theorem XS.Ok.zp(h:x.Ok){y:XS}(e1:y.L=x.L)(e2:y.cs=x.cs)(e3:y.got=x.got)(e4:y.made=x.made)(e5:y.cel=x.cel)(e6:y.gns=x.gns)(ha:y.a<=x.got.length)(hm:y.m<=x.made.length)(hc:y.c<=x.cel.length)(hg:y.g<=x.gns.length)(hf:y.fr<=1)(e7:y.gen=x.gen:=by rfl):y.Ok :=⟨by rw[e1];exact h.fit,by rw[e1,e2];exact h.nd,by rw[e1,e2];exact h.cs,by rw[e1,e3];exact h.got,by rw[e1,e4];exact h.made,by rw[e1];exact h.two,by rw[e1];exact h.lL,by rw[e2];exact h.lc,by rw[e3];exact h.lg,by rw[e3];exact ha,by rw[e4];exact hm,by rw[e5];exact hc,by rw[e6];exact hg,hf,by rw[e1];exact h.ys,by rw[e7];exact h.gen0,by rw[e4];exact h.ms,by rw[e4];exact h.m1⟩
theorem Nx.st(hs:x.st=true)(go:gG g x t)(ok:x.Ok):Nx g x x [] t' 0:=⟨go.bY hs,ok,by simp,Nat.le_refl _,bM _⟩
theorem Nx.cP(h:Nx g x x' N t b)(go:gG g x' t')(hb:b'<=x'.L.length):Nx g x x' N t' b':=⟨go,h.ok,h.ext,h.lc,hb⟩
theorem Nx.len(h:Nx g x x' N t b):x.L.length<=x'.L.length:=by rw[h.ext,List.length_append];omega
theorem Nx.trans{x1 x2:XS}{N1 N2:List aR}{t1 t2:Tr}{b1 b2:Int}(h1:Nx g x x1 N1 t1 b1)(h2:Nx g x1 x2 N2 t2 b2):Nx g x x2 (N1++N2) t2 b2:=⟨h2.go,h2.ok,by rw[h2.ext,h1.ext,List.append_assoc],Nat.le_trans h1.lc h2.lc,h2.bd⟩
theorem Nx.ext'(h:Nx g x x' (N++[]) t b)(go:gG g x' t')(hb:b'<=x'.L.length):Nx g x x' N t' b':=⟨go,h.ok,by have:=h.ext;rwa [List.append_nil] at this,h.lc,hb⟩
theorem Nx.start(go:gG g x t)(ok:x.Ok):Nx g x x [] t 0:=⟨go,ok,by simp,Nat.le_refl _,bM _⟩
end
end
end Go.Ct
namespace Go.Proofs.YtbajmaoegmbfgaaGreat
open Go Go.RowKit Go.Ct
section
section
variable{k:Cl}{bx bm:Nat}{x:XS}{dn:Bool}{rs:Rs}{D:List Nat}{A:Fr}{w:World}{g:Gx}
theorem rD(hg:g.Ok)(c:Int)(K:Int->Tr)(hc:c<=9223372036854775807)(go:gG g x (.load c K))(ok:x.Ok)(hs:SF w D (xH k bx bm x dn rs) A [] (xW x) w):Calls Tryz.prog 210 #[.pointer (some ⟨bx,0,none⟩),.int .i64 c] w λ e w'=>∃q:Int×XS,e=.returned (.int .i64 q.1)/\Nx g x q.2 [] (K q.1) q.1/\SF w D (xH k bx bm q.2 dn rs) [] [] (xW q.2) w':=by
 cases hst:x.st with
 | true=>exact(yx c ok hst hs).mono λ e w' ⟨_,q1,_,q3⟩=>⟨(0,x),q1,Nx.st hst go ok,q3⟩
 | false=>
  have hgd:=go.run hst;by_cases h1:x.a<x.got.length;·refine(H7 c ok hst h1 hs).mono λ e w' ⟨_,q1,_,q3⟩=>⟨(x.got.getD x.a 0,{x with a:=x.a+1}),q1,?_,q3⟩;exact⟨.inl ⟨hst,hgd.H7 h1⟩,ok.zp rfl rfl rfl rfl rfl rfl h1 ok.lm ok.lk ok.le ok.fr,by simp,Nat.le_refl _,mV ok.got _⟩
  ·have hat:=hgd.vm h1;by_cases h2:x.fr=0;·refine(s7 c ok hst h1 h2 hs).mono λ e w' ⟨_,q1,_,q3⟩=>⟨(0,{x with st:=true,nx:=⟨1,c,0,0⟩}),q1,?_,q3⟩;have hgo:gG g {x with st:=true,nx:=⟨1,c,0,0⟩} (.load c K):=hat.stop h2 rfl rfl rfl rfl rfl rfl rfl rfl rfl;exact⟨hgo.bY rfl,ok.zp rfl rfl rfl rfl rfl rfl ok.la ok.lm ok.lk ok.le ok.fr,by simp,Nat.le_refl _,bM _⟩
   ·refine(kw c hc ok hst h1 h2 hs).mono λ e w' ⟨q,q1,_,q3⟩=>⟨(bJ x.cs c,{x with fr:=x.fr-1,acc:=up x.acc,got:=x.got++[bJ x.cs c],pg:=q.1,kg:=q.2,a:=x.a+1}),q1,?_,q3⟩;have hN:=hat.hN;have hgN:=hg.hN;have hgo:gG g {x with fr:=x.fr-1,acc:=up x.acc,got:=x.got++[bJ x.cs c],pg:=q.1,kg:=q.2,a:=x.a+1} (K (bJ x.cs c)):=hat.now (by omega) (λ L=>Wk.zf _) (.load c K x.mm) hst rfl rfl rfl rfl rfl rfl rfl rfl rfl rfl;refine⟨hgo,⟨ok.fit,ok.nd,ok.cs,λ v hv=>?_,ok.made,ok.two,ok.lL,ok.lc,?_,?_,ok.lm,ok.lk,ok.le,?_,ok.ys,ok.gen0,ok.ms,ok.m1⟩,by simp,Nat.le_refl _,ok.cell c⟩
    ·rcases List.mem_append.1 hv with hv|hv;·exact ok.got v hv
     ·rw[List.mem_singleton.1 hv];exact ok.cell c
    ·show(x.got++[bJ x.cs c]).length<=_;rw[List.length_append,List.length_cons,List.length_nil];omega
    ·show x.a+1<=(x.got++[bJ x.cs c]).length;have:=ok.la;rw[List.length_append,List.length_cons,List.length_nil];omega
    ·show x.fr-1<=1;have:=ok.fr;omega
theorem xD(hg:g.Ok)(c o n:Int)(K:Bool->Tr)(hc:c<=9223372036854775807)(hn:n<=x.L.length)(go:gG g x (.kH c o n K))(ok:x.Ok)(hs:SF w D (xH k bx bm x dn rs) A [] (xW x) w):Calls Tryz.prog 212 #[.pointer (some ⟨bx,0,none⟩),.int .i64 c,.int .i64 o,.int .i64 n] w λ e w'=>∃q:Bool×XS,e=.returned (.bool q.1)/\Nx g x q.2 [] (K q.1) 0/\SF w D (xH k bx bm q.2 dn rs) [] [] (xW q.2) w':=by
 cases hst:x.st with
 | true=>exact(aBY c o n ok hst hs).mono λ e w' ⟨_,q1,_,q3⟩=>⟨(false,x),q1,Nx.st hst go ok,q3⟩
 | false=>
  have hgd:=go.run hst;by_cases h1:x.a<x.got.length;·refine(Nw c o n ok hst h1 hs).mono λ e w' ⟨_,q1,_,q3⟩=>⟨(x.got.getD x.a 0==1,{x with a:=x.a+1}),q1,?_,q3⟩;exact⟨.inl ⟨hst,hgd.Nw h1⟩,ok.zp rfl rfl rfl rfl rfl rfl h1 ok.lm ok.lk ok.le ok.fr,by simp,Nat.le_refl _,bM _⟩
  ·have hat:=hgd.aCc h1;by_cases h2:x.fr=0;·refine(aBN c o n ok hst h1 h2 hs).mono λ e w' ⟨_,q1,_,q3⟩=>⟨(false,{x with st:=true,nx:=⟨2,c,o,n⟩}),q1,?_,q3⟩;have hgo:gG g {x with st:=true,nx:=⟨2,c,o,n⟩} (.kH c o n K):=hat.stop h2 rfl rfl rfl rfl rfl rfl rfl rfl rfl;exact⟨hgo.bY rfl,ok.zp rfl rfl rfl rfl rfl rfl ok.la ok.lm ok.lk ok.le ok.fr,by simp,Nat.le_refl _,bM _⟩
   ·refine(yd c o n hc ok hst h1 h2 hs).mono λ e w' ⟨q,q1,hb,q3⟩=>⟨(q.1,{x with fr:=x.fr-1,cs:=eK x.cs c o n,acc:=up x.acc,got:=x.got++[U6 q.1],pg:=q.2.1,kg:=q.2.2,a:=x.a+1}),q1,?_,q3⟩;have hN:=hat.hN;have hgN:=hg.hN;have hb1:(U6 q.1==1)=q.1:=by cases q.1<;>rfl
    have hb2:U6 q.1<=x.L.length:=by have:=ok.two;cases q.1<;>simp only[U6]<;>(omega)
    have hlc:=gN (cs:=x.cs) (c:=c) (bR:=o) (new:=n);have hgo:gG g {x with fr:=x.fr-1,cs:=eK x.cs c o n,acc:=up x.acc,got:=x.got++[U6 q.1],pg:=q.2.1,kg:=q.2.2,a:=x.a+1} (K q.1):=hat.now (v:=U6 q.1) (by omega) (λ L=>by have:=Wk.aDt (L:=L) (c:=c) (o:=o) (n:=n) (k:=K) (U6 q.1);rw[hb1] at this;exact this) (.kH c o n K x.mm q.1 hb) hst rfl rfl rfl rfl rfl rfl rfl rfl rfl rfl;refine⟨hgo,⟨ok.fit,λ v hv=>(ok.nd v hv).mono (Nat.le_refl _) (by show _<=(eK x.cs c o n).length;omega),λ v hv=>?_,λ v hv=>?_,ok.made,ok.two,ok.lL,by show(eK x.cs c o n).length<=_;rw[hlc];exact ok.lc,?_,?_,ok.lm,ok.lk,ok.le,?_,ok.ys,ok.gen0,ok.ms,ok.m1⟩,by simp,by show _<=(eK x.cs c o n).length;omega,bM _⟩
    ·have hv':v∈eK x.cs c o n:=hv;unfold eK at hv';split at hv'
     ·rcases List.mem_or_eq_of_mem_set hv' with h|h;·exact ok.cs v h
      ·rw[h];exact hn
     ·exact ok.cs v hv'
    ·rcases List.mem_append.1 hv with hv|hv;·exact ok.got v hv
     ·rw[List.mem_singleton.1 hv];exact hb2
    ·show(x.got++[U6 q.1]).length<=_;rw[List.length_append,List.length_cons,List.length_nil];omega
    ·show x.a+1<=(x.got++[U6 q.1]).length;have:=ok.la;rw[List.length_append,List.length_cons,List.length_nil];omega
    ·show x.fr-1<=1;have:=ok.fr;omega
end
end
end Go.Proofs.YtbajmaoegmbfgaaGreat
