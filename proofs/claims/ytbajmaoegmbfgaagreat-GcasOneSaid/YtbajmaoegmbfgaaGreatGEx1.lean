/- Merged. -/
import Derived.Test.YtbajmaoegmbfgaaGreatGRn1
import Derived.Test.YtbajmaoegmbfgaaGreatSp1
set_option linter.unusedSimpArgs false
set_option linter.unusedVariables false
namespace Go.Ct
section
def XS.kn(x:XS)(a:Ac):XS:=if x.st=true then x else if x.a<x.got.length then{x with a:=x.a+1} else if x.fr=0 then{x with st:=true,nx:=a} else{x with fr:=x.fr-1}
def XS.bK(x:XS):Bool:=!x.st&&decide (x.a<x.got.length)
def XS.now(x:XS):Bool:=!x.st&&!decide (x.a<x.got.length)&&!decide (x.fr=0)
theorem XS.vt{x:XS}{a:Ac}(h:x.st=true):x.kn a=x/\x.bK=false/\x.now=false:=⟨if_pos h,by simp[XS.bK,h],by simp[XS.now,h]⟩
theorem XS.jy{x:XS}{a:Ac}(h:x.st=false)(h1:x.a<x.got.length):x.kn a={x with a:=x.a+1}/\x.bK=true/\x.now=false:=⟨by unfold XS.kn;rw[if_neg (by rw[h];decide),if_pos h1],by simp[XS.bK,h,h1],by simp[XS.now,h1]⟩
theorem XS.xi{x:XS}{a:Ac}(h:x.st=false)(h1:¬x.a<x.got.length)(h2:x.fr=0):x.kn a={x with st:=true,nx:=a}/\x.bK=false/\x.now=false:=⟨by unfold XS.kn;rw[if_neg (by rw[h];decide),if_neg h1,if_pos h2],by simp[XS.bK,h1],by simp[XS.now,h2]⟩
theorem XS.j3{x:XS}{a:Ac}(h:x.st=false)(h1:¬x.a<x.got.length)(h2:¬x.fr=0):x.kn a={x with fr:=x.fr-1}/\x.bK=false/\x.now=true:=⟨by unfold XS.kn;rw[if_neg (by rw[h];decide),if_neg h1,if_neg h2],by simp[XS.bK,h1],by simp[XS.now,h,h1,h2]⟩
end
end Go.Ct
namespace Go.Proofs.YtbajmaoegmbfgaaGreat
open Go.Proofs.Tryz (prog)
open Go Go.RowKit Go.Ct
section
section
variable{k:Cl}{bx bm:Nat}{x:XS}{dn:Bool}{rs:Rs}{D:List Nat}{A:Fr}{w:World}
theorem Ez(a:Ac)(ok:x.Ok)(hs:SF w D (xH k bx bm x dn rs) A [] (xW x) w):Calls prog 240 #[.pointer (some ⟨bx,0,none⟩),.agg ⟨a.cells⟩] w λ e w'=>∃q:Unit,e=.returned (.tuple #[.bool x.bK,.bool x.now])/\True/\SF w D (xH k bx bm (x.kn a) dn rs) [] [] (xW (x.kn a)) w':=by
 have h1:=ok.lg
 have h2:=ok.la
 have h3:=ok.fr
 refine enter Tryz.func240 Tryz.ntmps240 rfl rfl (aCb hs) ?_
 simp only[cG]
 refine J0 ?_;refine bM (λ x3=>?_);refine J8 ?_;refine aV ?_;refine Kc3 ?_
 refine bC (λ c9=>?_) (λ c9=>?_)
 ·refine Ov ?_
  refine bD Tryz.results240 (λ w hw=>?_)
  obtain⟨e1,e2,e3⟩:=XS.vt (a:=a) c9
  rw[e1,e2,e3]
  exact⟨(),rfl,trivial,hw.aY⟩
 ·refine kZ ?_;refine aV ?_;refine gZ [0,1,2,3,4,5,6,7,8,9] ?_;refine Es ?_;refine oE ?_;refine Di ?_;refine eL ?_
  refine bC (λ c19=>?_) (λ c19=>?_)
  ·refine mK ?_;refine Ha ?_;refine Nw ?_;refine Ov ?_
   refine bD Tryz.results240 (λ w hw=>?_)
   obtain⟨e1,e2,e3⟩:=XS.jy (a:=a) c9 (by omega)
   rw[e1,e2,e3]
   exact⟨(),rfl,trivial,hw.aY⟩
  ·refine kZ ?_;refine mK ?_;refine uQ ?_
   refine bC (λ c31=>?_) (λ c31=>?_)
   ·refine aV ?_;refine eH [(0,[]),(1,[]),(2,[]),(3,[]),(4,[]),(5,[2]),(6,[]),(7,[]),(8,[])] ?_;refine iK ?_;refine bS ?_;refine J4 ?_;refine nY (h:=λ _=>?_);refine J4 ?_;refine kW (i:=8) (hq:=(jG λ _=>lV (off:=36) (vs:=a.cells) rf cS rf rfl eT (Nat.le_of_ble_eq_true rfl) rf lE)) (h:=λ _=>?_);refine eL ?_;refine Ov ?_
    refine bD Tryz.results240 (λ w hw=>?_)
    obtain⟨e1,e2,e3⟩:=XS.xi (a:=a) c9 (by omega) (by omega)
    rw[e1,e2,e3]
    exact⟨(),rfl,trivial,hw.aY⟩
   ·refine xd ?_;refine qW ?_;refine Nw ?_;refine Ov ?_
    refine bD Tryz.results240 (λ w hw=>?_)
    obtain⟨e1,e2,e3⟩:=XS.j3 (a:=a) c9 (by omega) (by omega)
    rw[e1,e2,e3]
    exact⟨(),rfl,trivial,hw.aY⟩
theorem Rm(a:Ac)(ok:x.Ok)(h:x.st=true)(hs:SF w D (xH k bx bm x dn rs) A [] (xW x) w):Calls prog 240 #[.pointer (some ⟨bx,0,none⟩),.agg ⟨a.cells⟩] w λ e w'=>∃q:Unit,e=.returned (.tuple #[.bool false,.bool false])/\True/\SF w D (xH k bx bm x dn rs) [] [] (xW x) w':=by
 obtain⟨e1,e2,e3⟩:=XS.vt (a:=a) h
 have:=Ez (k:=k) (bx:=bx) (bm:=bm) (dn:=dn) (rs:=rs) (D:=D) (A:=A) (w:=w) a ok hs
 rw[e1,e2,e3] at this
 exact this
theorem Lf(a:Ac)(ok:x.Ok)(h:x.st=false)(h1:x.a<x.got.length)(hs:SF w D (xH k bx bm x dn rs) A [] (xW x) w):Calls prog 240 #[.pointer (some ⟨bx,0,none⟩),.agg ⟨a.cells⟩] w λ e w'=>∃q:Unit,e=.returned (.tuple #[.bool true,.bool false])/\True/\SF w D (xH k bx bm {x with a:=x.a+1} dn rs) [] [] (xW {x with a:=x.a+1}) w':=by
 obtain⟨e1,e2,e3⟩:=XS.jy (a:=a) h h1
 have:=Ez (k:=k) (bx:=bx) (bm:=bm) (dn:=dn) (rs:=rs) (D:=D) (A:=A) (w:=w) a ok hs
 rw[e1,e2,e3] at this
 exact this
theorem Pw(a:Ac)(ok:x.Ok)(h:x.st=false)(h1:¬x.a<x.got.length)(h2:x.fr=0)(hs:SF w D (xH k bx bm x dn rs) A [] (xW x) w):Calls prog 240 #[.pointer (some ⟨bx,0,none⟩),.agg ⟨a.cells⟩] w λ e w'=>∃q:Unit,e=.returned (.tuple #[.bool false,.bool false])/\True/\SF w D (xH k bx bm {x with st:=true,nx:=a} dn rs) [] [] (xW {x with st:=true,nx:=a}) w':=by
 obtain⟨e1,e2,e3⟩:=XS.xi (a:=a) h h1 h2
 have:=Ez (k:=k) (bx:=bx) (bm:=bm) (dn:=dn) (rs:=rs) (D:=D) (A:=A) (w:=w) a ok hs
 rw[e1,e2,e3] at this
 exact this
theorem Jx(a:Ac)(ok:x.Ok)(h:x.st=false)(h1:¬x.a<x.got.length)(h2:¬x.fr=0)(hs:SF w D (xH k bx bm x dn rs) A [] (xW x) w):Calls prog 240 #[.pointer (some ⟨bx,0,none⟩),.agg ⟨a.cells⟩] w λ e w'=>∃q:Unit,e=.returned (.tuple #[.bool false,.bool true])/\True/\SF w D (xH k bx bm {x with fr:=x.fr-1} dn rs) [] [] (xW {x with fr:=x.fr-1}) w':=by
 obtain⟨e1,e2,e3⟩:=XS.j3 (a:=a) h h1 h2
 have:=Ez (k:=k) (bx:=bx) (bm:=bm) (dn:=dn) (rs:=rs) (D:=D) (A:=A) (w:=w) a ok hs
 rw[e1,e2,e3] at this
 exact this
theorem ua(c:Int)(ok:x.Ok)(h:x.st=true)(hs:SF w D (xH k bx bm x dn rs) A [] (xW x) w):Calls prog 210 #[.pointer (some ⟨bx,0,none⟩),.int .i64 c] w λ e w'=>∃q:Unit,e=.returned (.int .i64 0)/\True/\SF w D (xH k bx bm x dn rs) [] [] (xW x) w':=by
 refine enter Tryz.func210 Tryz.ntmps210 rfl rfl (cD hs) ?_
 simp only[cG]
 refine dA ?_;refine jF ?_;refine bO ?_;refine aE (cM (hs:=xH k bx bm x dn rs) (os:=xW x) (hc:=λ w hs=>Rm ⟨1,c,0,0⟩ ok h hs)) (λ x11 h11=>?_);refine Kb5 ?_;refine aI ?_
 refine bC (λ c14=>?_) (λ c14=>?_)
 ·exact nv c14
 ·try (exact abt)
  refine kZ ?_;refine J2 ?_;refine Dg ?_
  (refine Ka3 ?_)
  refine Kc0 ?_
  refine bC (λ c43=>?_) (λ c43=>?_)
  ·try (exact abt)
   refine dA ?_
   refine aT Tryz.results210 (λ w hw=>?_)
   exact⟨(),rfl,trivial,hw.aY⟩
  ·exact nv c43
theorem ry(c:Int)(ok:x.Ok)(h:x.st=false)(h1:¬x.a<x.got.length)(h2:x.fr=0)(hs:SF w D (xH k bx bm x dn rs) A [] (xW x) w):Calls prog 210 #[.pointer (some ⟨bx,0,none⟩),.int .i64 c] w λ e w'=>∃q:Unit,e=.returned (.int .i64 0)/\True/\SF w D (xH k bx bm {x with st:=true,nx:=⟨1,c,0,0⟩} dn rs) [] [] (xW {x with st:=true,nx:=⟨1,c,0,0⟩}) w':=by
 refine enter Tryz.func210 Tryz.ntmps210 rfl rfl (cD hs) ?_
 simp only[cG]
 refine dA ?_;refine jF ?_;refine bO ?_;refine aE (cM (hs:=xH k bx bm x dn rs) (os:=xW x) (hc:=λ w hs=>Pw ⟨1,c,0,0⟩ ok h h1 h2 hs)) (λ x11 h11=>?_);refine Kb5 ?_;refine aI ?_
 refine bC (λ c14=>?_) (λ c14=>?_)
 ·exact nv c14
 ·try (exact abt)
  refine kZ ?_;refine J2 ?_;refine Dg ?_
  (refine Ka3 ?_)
  refine Kc0 ?_
  refine bC (λ c43=>?_) (λ c43=>?_)
  ·try (exact abt)
   refine dA ?_
   refine aT Tryz.results210 (λ w hw=>?_)
   exact⟨(),rfl,trivial,hw.aY⟩
  ·exact nv c43
theorem F9(c:Int)(ok:x.Ok)(h:x.st=false)(h1:x.a<x.got.length)(hs:SF w D (xH k bx bm x dn rs) A [] (xW x) w):Calls prog 210 #[.pointer (some ⟨bx,0,none⟩),.int .i64 c] w λ e w'=>∃q:Unit,e=.returned (.int .i64 (x.got.getD x.a 0))/\True/\SF w D (xH k bx bm {x with a:=x.a+1} dn rs) [] [] (xW {x with a:=x.a+1}) w':=by
 have hg:=ok.lg
 refine enter Tryz.func210 Tryz.ntmps210 rfl rfl (cD hs) ?_
 simp only[cG]
 refine dA ?_;refine jF ?_;refine bO ?_;refine aE (cM (hs:=xH k bx bm x dn rs) (os:=xW x) (hc:=λ w hs=>Lf ⟨1,c,0,0⟩ ok h h1 hs)) (λ x11 h11=>?_);refine Kb5 ?_;refine aI ?_
 refine bC (λ c14=>?_) (λ c14=>?_)
 ·exact nv c14
 ·try (exact abt)
  refine kZ ?_;refine J2 ?_;refine Dg ?_
  refine aJ ?_
  refine Kc0 ?_
  refine bC (λ c43=>?_) (λ c43=>?_)
  ·exact nv c43
  ·try (exact abt)
   refine kZ ?_;refine gZ [0,1,2,3,4,5,6,7,8,9,10,11] ?_;refine Es ?_;refine cK (i:=8) (hq:=(jK (m:=x.a+1) (n:=1) rf rf (by omega) (by omega))) (h:=?_);refine bU (i:=9) (hq:=(cP (m:=x.got.length) (k:=x.a+1-1) (lst:=x.got) rf rf fZ fO (.own .head) (by omega) (by omega))) (h:=?_);refine bU (i:=10) (hq:=(eC (q:=x.a+1-1) (lst:=x.got) rf fO (.own .head) (by omega))) (h:=?_);refine J7 ?_
   refine aT Tryz.results210 (λ w hw=>?_)
   exact⟨(),by rw[Nat.add_sub_cancel];rfl,trivial,hw.aY⟩
theorem ag(c:Int)(hc:c<=9223372036854775807)(ok:x.Ok)(h:x.st=false)(h1:¬x.a<x.got.length)(h2:¬x.fr=0)(hs:SF w D (xH k bx bm x dn rs) A [] (xW x) w):Calls prog 210 #[.pointer (some ⟨bx,0,none⟩),.int .i64 c] w λ e w'=>∃q:Option Addr×Nat,e=.returned (.int .i64 (aS x.cs c))/\True/\SF w D (xH k bx bm {x with fr:=x.fr-1,acc:=up x.acc,got:=x.got++[aS x.cs c],pg:=q.1,kg:=q.2,a:=x.a+1} dn rs) [] [] (xW {x with fr:=x.fr-1,acc:=up x.acc,got:=x.got++[aS x.cs c],pg:=q.1,kg:=q.2,a:=x.a+1}) w':=by
 have hg:=ok.lg
 have ha:=ok.la
 have hlc:=ok.lc
 refine enter Tryz.func210 Tryz.ntmps210 rfl rfl (cD hs) ?_
 simp only[cG]
 refine dA ?_;refine jF ?_;refine bO ?_;refine aE (cM (hs:=xH k bx bm x dn rs) (os:=xW x) (hc:=λ w hs=>Jx ⟨1,c,0,0⟩ ok h h1 h2 hs)) (λ x11 h11=>?_);refine Kb5 ?_;refine aI ?_
 refine bC (λ c14=>?_) (λ c14=>?_)
 ·try (exact abt)
  refine eH [(0,[]),(1,[]),(2,[]),(3,[]),(4,[]),(5,[]),(6,[]),(7,[]),(8,[]),(9,[]),(10,[]),(14,[]),(15,[]),(16,[]),(17,[]),(18,[]),(11,[5,17]),(12,[5,17]),(13,[17]),(19,[]),(20,[]),(21,[]),(22,[]),(23,[]),(24,[])] ?_;refine iK ?_;refine Es ?_;refine Zg ?_;refine cK (i:=18) (hq:=(pA (m:=x.a) (n:=1) rf rf (by omega))) (h:=?_);refine bE (i:=11) (hq:=(cM (hc:=λ w hs=>ue (L:=x.L) (cs:=x.cs) hs c hc (by omega)))) (h:=λ x26 h26=>?_);refine cE (h:=λ x27=>?_);((refine dC (i:=13) (hq:=(bG.eR (tG (l:=x.got) (v:=aS x.cs c) (m:=x.got.length) rf rf .head rfl fin Zu fZ (by omega)) vM)) (h:=λ x28=>?_);try (refine eK (λ h28=>?_))));refine J4 ?_;refine kW (i:=21) (hq:=(by exact jG λ _=>fE rf cS wn rf fO rf rf lE)) (h:=λ _=>?_);refine J4 ?_;refine kW (i:=24) (hq:=(by exact jG λ _=>fE rf cS wn rf fO rf rf lE)) (h:=λ _=>?_);refine eL ?_;refine kT ?_;refine Dg ?_
  (refine Ka3 ?_)
  refine Kc0 ?_
  refine bC (λ c43=>?_) (λ c43=>?_)
  ·exact nv c43
  ·try (exact abt)
   refine kZ ?_;refine gZ [0,1,2,3,4,5,6,7,8,9,10,11] ?_;refine Es ?_;refine cK (i:=8) (hq:=(jK (m:=x.a+1) (n:=1) rf rf (by omega) (by omega))) (h:=?_);refine bU (i:=9) (hq:=(cP (m:=x.got.length+1) (k:=x.a+1-1) (lst:=x.got++[aS x.cs c]) rf rf fZ fO (.own .head) (by omega) (by rw[List.length_append,List.length_cons,List.length_nil];omega))) (h:=?_);refine bU (i:=10) (hq:=(eC (q:=x.a+1-1) (lst:=x.got++[aS x.cs c]) rf fO (.own .head) (by rw[List.length_append,List.length_cons,List.length_nil];omega))) (h:=?_);refine J7 ?_
   refine aT Tryz.results210 (λ w hw=>?_)
   rw[show x.got.length+1=(x.got++[aS x.cs c]).length by simp] at hw
   exact⟨x28,by rw[show(x.got++[aS x.cs c]).getD (x.a+1-1) 0=aS x.cs c by rw[show x.a+1-1=x.got.length by omega,iU,List.getElem?_append_right (Nat.le_refl _)];simp];rfl,trivial,hw.aY⟩
 ·exact nv c14
end
end
end Go.Proofs.YtbajmaoegmbfgaaGreat
namespace Go.Ct
section
def Uf(b:Bool):Int:=if b=true then 1 else 0
theorem sB(l:List Int)(v:Int):(l++[v]).getD l.length 0=v:=by rw[iU,List.getElem?_append_right (Nat.le_refl _)];simp
end
end Go.Ct
namespace Go.Proofs.YtbajmaoegmbfgaaGreat
open Go.Proofs.Tryz (prog)
open Go Go.RowKit Go.Ct
section
section
variable{k:Cl}{bx bm:Nat}{x:XS}{dn:Bool}{rs:Rs}{D:List Nat}{A:Fr}{w:World}
theorem yo(c o n:Int)(ok:x.Ok)(h:x.st=true)(hs:SF w D (xH k bx bm x dn rs) A [] (xW x) w):Calls prog 212 #[.pointer (some ⟨bx,0,none⟩),.int .i64 c,.int .i64 o,.int .i64 n] w λ e w'=>∃q:Unit,e=.returned (.bool false)/\True/\SF w D (xH k bx bm x dn rs) [] [] (xW x) w':=by
 refine enter Tryz.func212 Tryz.ntmps212 rfl rfl (cD hs) ?_
 simp only[cG]
 refine dA ?_;refine jF ?_;refine pM ?_;refine bO ?_;refine aE (cM (hs:=xH k bx bm x dn rs) (os:=xW x) (hc:=λ w hs=>Rm ⟨2,c,o,n⟩ ok h hs)) (λ x18 h18=>?_);refine Kb5 ?_;refine aI ?_
 refine bC (λ c21=>?_) (λ c21=>?_)
 ·exact nv c21
 ·try (exact abt)
  refine kZ ?_;refine gZ [0,1,2,3,4,5,6,7,8,9,10,11,12,13,14,15,16,17,18] ?_;refine iK ?_
  (refine aR ?_)
  refine kY ?_;refine aR ?_
  refine fQ ?_
  refine J60 ?_;refine xl ?_;(refine fQ ?_);refine J74 ?_;refine J56 ?_;refine J7 ?_
  refine aT Tryz.results212 (λ w hw=>?_)
  exact⟨(),rfl,trivial,hw.aY⟩
theorem aAS(c o n:Int)(ok:x.Ok)(h:x.st=false)(h1:¬x.a<x.got.length)(h2:x.fr=0)(hs:SF w D (xH k bx bm x dn rs) A [] (xW x) w):Calls prog 212 #[.pointer (some ⟨bx,0,none⟩),.int .i64 c,.int .i64 o,.int .i64 n] w λ e w'=>∃q:Unit,e=.returned (.bool false)/\True/\SF w D (xH k bx bm {x with st:=true,nx:=⟨2,c,o,n⟩} dn rs) [] [] (xW {x with st:=true,nx:=⟨2,c,o,n⟩}) w':=by
 refine enter Tryz.func212 Tryz.ntmps212 rfl rfl (cD hs) ?_
 simp only[cG]
 refine dA ?_;refine jF ?_;refine pM ?_;refine bO ?_;refine aE (cM (hs:=xH k bx bm x dn rs) (os:=xW x) (hc:=λ w hs=>Pw ⟨2,c,o,n⟩ ok h h1 h2 hs)) (λ x18 h18=>?_);refine Kb5 ?_;refine aI ?_
 refine bC (λ c21=>?_) (λ c21=>?_)
 ·exact nv c21
 ·try (exact abt)
  refine kZ ?_;refine gZ [0,1,2,3,4,5,6,7,8,9,10,11,12,13,14,15,16,17,18] ?_;refine iK ?_
  (refine aR ?_)
  refine kY ?_;refine aR ?_
  refine fQ ?_
  refine J60 ?_;refine xl ?_;(refine fQ ?_);refine J74 ?_;refine J56 ?_;refine J7 ?_
  refine aT Tryz.results212 (λ w hw=>?_)
  exact⟨(),rfl,trivial,hw.aY⟩
theorem Mc(c o n:Int)(ok:x.Ok)(h:x.st=false)(h1:x.a<x.got.length)(hs:SF w D (xH k bx bm x dn rs) A [] (xW x) w):Calls prog 212 #[.pointer (some ⟨bx,0,none⟩),.int .i64 c,.int .i64 o,.int .i64 n] w λ e w'=>∃q:Unit,e=.returned (.bool (x.got.getD x.a 0==1))/\True/\SF w D (xH k bx bm {x with a:=x.a+1} dn rs) [] [] (xW {x with a:=x.a+1}) w':=by
 have hg:=ok.lg
 refine enter Tryz.func212 Tryz.ntmps212 rfl rfl (cD hs) ?_
 simp only[cG]
 refine dA ?_;refine jF ?_;refine pM ?_;refine bO ?_;refine aE (cM (hs:=xH k bx bm x dn rs) (os:=xW x) (hc:=λ w hs=>Lf ⟨2,c,o,n⟩ ok h h1 hs)) (λ x18 h18=>?_);refine Kb5 ?_;refine aI ?_
 refine bC (λ c21=>?_) (λ c21=>?_)
 ·exact nv c21
 ·try (exact abt)
  refine kZ ?_;refine gZ [0,1,2,3,4,5,6,7,8,9,10,11,12,13,14,15,16,17,18] ?_;refine iK ?_
  refine fQ ?_
  refine kY ?_;refine aR ?_
  (refine aR ?_)
  refine J60 ?_;refine xl ?_;((refine cK (i:=13) (hq:=(jK (m:=x.a+1) (n:=1) rf rf (by omega) (by omega))) (h:=?_)));((refine bU (i:=14) (hq:=(cP (m:=x.got.length) (k:=x.a+1-1) (lst:=x.got) rf rf fZ fO (.own .head) (by omega) (by omega))) (h:=?_)));((refine bU (i:=15) (hq:=(eC (q:=x.a+1-1) (lst:=x.got) rf fO (.own .head) (by omega))) (h:=?_)));refine J56 ?_;refine J7 ?_
  refine aT Tryz.results212 (λ w hw=>?_)
  exact⟨(),by rw[Nat.add_sub_cancel];rfl,trivial,hw.aY⟩
theorem su(c o n:Int)(hc:c<=9223372036854775807)(ok:x.Ok)(h:x.st=false)(h1:¬x.a<x.got.length)(h2:¬x.fr=0)(hs:SF w D (xH k bx bm x dn rs) A [] (xW x) w):Calls prog 212 #[.pointer (some ⟨bx,0,none⟩),.int .i64 c,.int .i64 o,.int .i64 n] w λ e w'=>∃q:Bool×(Option Addr×Nat),e=.returned (.bool q.1)/\(q.1=true↔gA x.cs c o)/\SF w D (xH k bx bm {x with fr:=x.fr-1,cs:=eG x.cs c o n,acc:=up x.acc,got:=x.got++[Uf q.1],pg:=q.2.1,kg:=q.2.2,a:=x.a+1} dn rs) [] [] (xW {x with fr:=x.fr-1,cs:=eG x.cs c o n,acc:=up x.acc,got:=x.got++[Uf q.1],pg:=q.2.1,kg:=q.2.2,a:=x.a+1}) w':=by
 have hg:=ok.lg
 have ha:=ok.la
 have hlc:=ok.lc
 refine enter Tryz.func212 Tryz.ntmps212 rfl rfl (cD hs) ?_
 simp only[cG]
 refine dA ?_;refine jF ?_;refine pM ?_;refine bO ?_;refine aE (cM (hs:=xH k bx bm x dn rs) (os:=xW x) (hc:=λ w hs=>Jx ⟨2,c,o,n⟩ ok h h1 h2 hs)) (λ x18 h18=>?_);refine Kb5 ?_;refine aI ?_
 refine bC (λ c21=>?_) (λ c21=>?_)
 ·try (exact abt)
  refine E8 ?_;refine mK ?_;refine pM ?_;refine aB ?_;refine aE (cM (V:=.bool) (hc:=λ w hs=>yl (L:=x.L) (cs:=x.cs) hs c o n hc (by omega))) (λ x29 h29=>?_);refine aI ?_
  refine bC (λ c29=>?_) (λ c29=>?_)
  ·try (exact abt)
   have hv:(1:Int)=Uf x29:=by rw[c29];rfl
   refine dR ?_;refine J1 ?_;refine eH [(0,[]),(1,[]),(2,[]),(3,[]),(4,[]),(5,[]),(6,[]),(9,[]),(10,[]),(11,[]),(12,[]),(13,[]),(7,[5,12]),(8,[12]),(14,[]),(15,[]),(16,[]),(17,[]),(18,[]),(19,[])] ?_;refine iK ?_;refine Zx ?_;refine Zg ?_;refine cK (i:=13) (hq:=(pA (m:=x.a) (n:=1) rf rf (by omega))) (h:=?_);refine cE (h:=λ x37=>?_);((refine dC (i:=8) (hq:=(bG.eR (tG (l:=x.got) (m:=x.got.length) rf rf .head rfl fin Zu fZ (by omega)) vM)) (h:=λ x38=>?_);try (refine eK (λ h38=>?_))));refine J4 ?_;refine kW (i:=16) (hq:=(by exact jG λ _=>fE rf cS wn rf fO rf rf lE)) (h:=λ _=>?_);refine J4 ?_;refine kW (i:=19) (hq:=(by exact jG λ _=>fE rf cS wn rf fO rf rf lE)) (h:=λ _=>?_);refine eL ?_;refine aV ?_;refine gZ [0,1,2,3,4,5,6,7,8,9,10,11,12,13,14,15,16,17,18] ?_;refine iK ?_
   (refine aR ?_)
   refine kY ?_;refine aR ?_
   (refine aR ?_)
   refine J60 ?_;refine xl ?_;((refine cK (i:=13) (hq:=(jK (m:=x.a+1) (n:=1) rf rf (by omega) (by omega))) (h:=?_)));((refine bU (i:=14) (hq:=(cP (m:=x.got.length+1) (k:=x.a+1-1) rf rf fZ fO (.own .head) (by omega) (by rw[List.length_append,List.length_cons,List.length_nil];omega))) (h:=?_)));((refine bU (i:=15) (hq:=(eC (q:=x.a+1-1) rf fO (.own .head) (by rw[List.length_append,List.length_cons,List.length_nil];omega))) (h:=?_)));refine J56 ?_;refine J7 ?_
   refine aT Tryz.results212 (λ w hw=>?_)
   rw[hv] at hw
   rw[show x.got.length+1=(x.got++[Uf x29]).length by simp] at hw
   exact⟨(x29,x38),by rw[show x.a+1-1=x.got.length by omega,sB,c29];rfl,h29,hw.aY⟩
  ·try (exact abt)
   have hv:(0:Int)=Uf x29:=by rw[c29];rfl
   refine aZ ?_;refine eH [(0,[]),(1,[]),(2,[]),(3,[]),(4,[]),(5,[]),(6,[]),(9,[]),(10,[]),(11,[]),(12,[]),(13,[]),(7,[5,12]),(8,[12]),(14,[]),(15,[]),(16,[]),(17,[]),(18,[]),(19,[])] ?_;refine iK ?_;refine Zx ?_;refine Zg ?_;refine cK (i:=13) (hq:=(pA (m:=x.a) (n:=1) rf rf (by omega))) (h:=?_);refine cE (h:=λ x37=>?_);((refine dC (i:=8) (hq:=(bG.eR (tG (l:=x.got) (m:=x.got.length) rf rf .head rfl fin Zu fZ (by omega)) vM)) (h:=λ x38=>?_);try (refine eK (λ h38=>?_))));refine J4 ?_;refine kW (i:=16) (hq:=(by exact jG λ _=>fE rf cS wn rf fO rf rf lE)) (h:=λ _=>?_);refine J4 ?_;refine kW (i:=19) (hq:=(by exact jG λ _=>fE rf cS wn rf fO rf rf lE)) (h:=λ _=>?_);refine eL ?_;refine aV ?_;refine gZ [0,1,2,3,4,5,6,7,8,9,10,11,12,13,14,15,16,17,18] ?_;refine iK ?_
   (refine aR ?_)
   refine kY ?_;refine aR ?_
   (refine aR ?_)
   refine J60 ?_;refine xl ?_;((refine cK (i:=13) (hq:=(jK (m:=x.a+1) (n:=1) rf rf (by omega) (by omega))) (h:=?_)));((refine bU (i:=14) (hq:=(cP (m:=x.got.length+1) (k:=x.a+1-1) rf rf fZ fO (.own .head) (by omega) (by rw[List.length_append,List.length_cons,List.length_nil];omega))) (h:=?_)));((refine bU (i:=15) (hq:=(eC (q:=x.a+1-1) rf fO (.own .head) (by rw[List.length_append,List.length_cons,List.length_nil];omega))) (h:=?_)));refine J56 ?_;refine J7 ?_
   refine aT Tryz.results212 (λ w hw=>?_)
   rw[hv] at hw
   rw[show x.got.length+1=(x.got++[Uf x29]).length by simp] at hw
   exact⟨(x29,x38),by rw[show x.a+1-1=x.got.length by omega,sB,c29];rfl,h29,hw.aY⟩
 ·exact nv c21
end
end
section
section
variable{k:Cl}{bx bm:Nat}{x:XS}{dn:Bool}{rs:Rs}{D:List Nat}{A:Fr}{w:World}
theorem fS(r:Int)(hr:r<=9223372036854775807)(ok:x.Ok)(hs:SF w D (xH k bx bm x dn rs) A [] (xW x) w):Calls prog 211 #[.pointer (some ⟨bx,0,none⟩),.int .i64 r] w λ e w'=>∃q:Unit,e=.returned (aC x.L r).nd.v/\True/\SF w D (xH k bx bm x dn rs) [] [] (xW x) w':=by
 have hl:=ok.lL
 refine enter Tryz.func211 Tryz.ntmps211 rfl rfl (cD hs) ?_
 simp only[cG]
 refine J0 ?_;refine aL (λ x4=>?_);refine aI ?_;refine mK ?_;refine aB ?_;refine aE (cM (hc:=λ w hs=>Ew (L:=x.L) (cs:=x.cs) hs r hr (by omega))) (λ x10 h10=>?_);refine J5 ?_
 refine bD Tryz.results211 (λ w hw=>?_)
 exact⟨(),rfl,trivial,hw.aY⟩
theorem nj{n:Nd}(i:Int)(h:x.st=true)(hs:SF w D (xH k bx bm x dn rs) A [] (xW x) w):Calls prog 215 #[.pointer (some ⟨bx,0,none⟩),n.v,.int .i64 i] w λ e w'=>∃q:Unit,e=.returned (.int .i64 0)/\True/\SF w D (xH k bx bm x dn rs) [] [] (xW x) w':=by
 refine enter Tryz.func215 Tryz.ntmps215 rfl rfl (cD hs) ?_
 simp only[cG]
 simp only[Nd.v]
 refine J0 ?_;refine bM (λ x4=>?_);refine iT ?_;refine Kc3 ?_
 refine bC (λ c10=>?_) (λ c10=>?_)
 ·refine dA ?_
  refine aT Tryz.results215 (λ w hw=>?_)
  exact⟨(),rfl,trivial,hw.aY⟩
 ·exact absurd (h.symm.trans c10) (by decide)
theorem alloc_old{n:Nd}(i:Int)(ok:x.Ok)(h:x.st=false)(h1:x.m<x.made.length)(hl:x.made.length<=274877906944)(hs:SF w D (xH k bx bm x dn rs) A [] (xW x) w):Calls prog 215 #[.pointer (some ⟨bx,0,none⟩),n.v,.int .i64 i] w λ e w'=>∃q:Unit,e=.returned (.int .i64 (x.made.getD x.m 0))/\True/\SF w D (xH k bx bm {x with m:=x.m+1} dn rs) [] [] (xW {x with m:=x.m+1}) w':=by
 refine enter Tryz.func215 Tryz.ntmps215 rfl rfl (cD hs) ?_
 simp only[cG]
 simp only[Nd.v]
 refine J0 ?_;refine bM (λ x4=>?_);refine iT ?_;refine Kc3 ?_
 refine bC (λ c10=>?_) (λ c10=>?_)
 ·try (exfalso;omega)
  exact absurd (h.symm.trans c10) (by decide)
 ·try (exfalso;omega)
  refine kZ ?_;refine aV ?_;refine gZ [0,1,2,3,4,5,6,7,8,9] ?_;refine Es ?_;refine oE ?_;refine oJ ?_;refine eL ?_
  refine bC (λ c20=>?_) (λ c20=>?_)
  ·try (exfalso;omega)
  ·try (exfalso;omega)
   refine xd ?_;refine aD (pA (m:=x.m) (n:=1) rf rf (by omega)) rfl ?_;refine N5 ?_;refine cR (by exact jG λ _=>fE rf cS wn rf fO rf rf lE) (λ _=>?_);refine Tq ?_;refine gZ [0,1,2,3,4,5,6,7,8,9,10,11] ?_;refine Es ?_;refine cK (i:=8) (hq:=(jK (m:=x.m+1) (n:=1) rf rf (by omega) (by omega))) (h:=?_);refine bU (i:=9) (hq:=(cP (m:=x.made.length) (k:=x.m+1-1) (lst:=x.made) rf rf fZ fO (.own (.tail .head)) (by omega) (by omega))) (h:=?_);refine bU (i:=10) (hq:=(eC (q:=x.m+1-1) (lst:=x.made) rf fO (.own (.tail .head)) (by omega))) (h:=?_);refine J7 ?_
   refine aT Tryz.results215 (λ w hw=>?_)
   exact⟨(),by rw[Nat.add_sub_cancel];rfl,trivial,hw.aY⟩
theorem Za{n:Nd}{xs:List Int}{ys:List Pr}(i:Int)(ok:x.Ok)(h:x.st=false)(h1:x.m=x.made.length)(hl:x.made.length<=137438953472)(hLl:x.L.length<=274877906900)(hcl:x.cs.length<=274877906900)(e1:n.brN=xs.length)(e2:n.prN=ys.length)(hx:xs.length<=274877906944)(hy:ys.length<=274877906944)(hs:SF w D (xH k bx bm x dn rs) [(n.brA,aH xs),(n.prA,cX ys)] [] (xW x) w):Calls prog 215 #[.pointer (some ⟨bx,0,none⟩),n.v,.int .i64 i] w λ e w'=>∃q:AX×(Option Addr×Nat),e=.returned (.int .i64 ((x.L.length+1:Nat):Int))/\True /\
   SF w D (xH k bx bm {x with L:=x.L++[mZ n xs ys x.cs.length q.1],cs:=eZ n.kind x.cs i,pn:=q.1.pn,cn:=q.1.cn,pc:=q.1.pc,cc:=q.1.cc,made:=x.made++[((x.L.length+1:Nat):Int)],pm:=q.2.1,km:=q.2.2,m:=x.m+1} dn rs) [] (mZ n xs ys x.cs.length q.1).fr (xW {x with L:=x.L++[mZ n xs ys x.cs.length q.1],cs:=eZ n.kind x.cs i,pn:=q.1.pn,cn:=q.1.cn,pc:=q.1.pc,cc:=q.1.cc,made:=x.made++[((x.L.length+1:Nat):Int)],pm:=q.2.1,km:=q.2.2,m:=x.m+1}) w':=by
 refine enter Tryz.func215 Tryz.ntmps215 rfl rfl (cD hs) ?_
 simp only[cG]
 simp only[Nd.v]
 refine J0 ?_;refine bM (λ x4=>?_);refine iT ?_;refine Kc3 ?_
 refine bC (λ c10=>?_) (λ c10=>?_)
 ·try (exfalso;omega)
  exact absurd (h.symm.trans c10) (by decide)
 ·try (exfalso;omega)
  refine kZ ?_;refine aV ?_;refine gZ [0,1,2,3,4,5,6,7,8,9] ?_;refine Es ?_;refine oE ?_;refine oJ ?_;refine eL ?_
  refine bC (λ c20=>?_) (λ c20=>?_)
  ·try (exfalso;omega)
   refine eH [(0,[]),(1,[]),(2,[]),(3,[]),(4,[]),(5,[]),(6,[]),(7,[]),(8,[]),(9,[]),(10,[]),(11,[4]),(12,[4]),(13,[]),(14,[]),(15,[]),(16,[])] ?_;refine aR ?_;refine Es ?_;refine bS ?_;refine aR ?_;refine bE (i:=11) (hq:=(cM (A0:=[(n.brA,aH xs),(n.prA,cX ys)]) (hc:=λ w hs=>H0 (n:=n) (L:=x.L) (cs:=x.cs) i hs e1 e2 hx hy (by omega) (by omega)))) (h:=λ x32 h32=>?_);refine cE (h:=λ x33=>?_);((refine dC (i:=13) (hq:=(bG.eR (tG (l:=x.made) (m:=x.made.length) rf rf (.tail .head) rfl fin Zu fZ (by omega)) vM)) (h:=λ x34=>?_);try (refine eK (λ h34=>?_))));refine J4 ?_;refine kW (i:=16) (hq:=(by exact jG λ _=>fE rf cS wn rf fO rf rf lE)) (h:=λ _=>?_);refine eL ?_;refine mK ?_;refine aD (pA (m:=x.m) (n:=1) rf rf (by omega)) rfl ?_;refine N5 ?_;refine cR (by exact jG λ _=>fE rf cS wn rf fO rf rf lE) (λ _=>?_);refine Tq ?_;refine gZ [0,1,2,3,4,5,6,7,8,9,10,11] ?_;refine Es ?_;refine cK (i:=8) (hq:=(jK (m:=x.m+1) (n:=1) rf rf (by omega) (by omega))) (h:=?_);refine bU (i:=9) (hq:=(cP (m:=x.made.length+1) (k:=x.m+1-1) rf rf fZ fO (.own (.tail .head)) (by omega) (by rw[List.length_append,List.length_cons,List.length_nil];omega))) (h:=?_);refine bU (i:=10) (hq:=(eC (q:=x.m+1-1) rf fO (.own (.tail .head)) (by rw[List.length_append,List.length_cons,List.length_nil];omega))) (h:=?_);refine J7 ?_
   refine aT Tryz.results215 (λ w hw=>?_)
   rw[show x.made.length+1=(x.made++[((x.L.length+1:Nat):Int)]).length by simp] at hw
   exact⟨(x32,x34),by rw[show x.m+1-1=x.made.length by omega,sB];rfl,trivial,hw.ret (List.Sublist.cons _ (List.Sublist.refl _)) (aX.iV λ f hf=>List.mem_cons_of_mem _ (List.mem_append_left _ hf)) (List.Sublist.refl _)⟩
  ·try (exfalso;omega)
end
end
section
theorem Pj:dB prog 27=some (.int .i64 0):=by kernel_rfl
theorem Hf:dW prog 151 27 [.int .i64 0]:=mL (by kernel_rfl) Pj rfl
section
variable{k:Cl}{bx bm:Nat}{x:XS}{dn:Bool}{rs:Rs}{D:List Nat}{A:Fr}{w:World}
theorem o7(i:Int)(h:x.st=true)(hs:SF w D (xH k bx bm x dn rs) A [] (xW x) w):Calls prog 228 #[.pointer (some ⟨bx,0,none⟩),.int .i64 i] w λ e w'=>∃q:Unit,e=.returned (.int .i64 0)/\True/\SF w D (xH k bx bm x dn rs) [] [] (xW x) w':=by
 refine enter Tryz.func228 Tryz.ntmps228 rfl rfl (cD hs) ?_
 simp only[cG]
 refine E8 ?_;refine Kc3 ?_
 refine bC (λ c8=>?_) (λ c8=>?_)
 ·refine dA ?_
  refine aT Tryz.results228 (λ w hw=>?_)
  exact⟨(),rfl,trivial,hw.aY⟩
 ·exact absurd (h.symm.trans c8) (by decide)
theorem Hd(i:Int)(h:x.st=false)(h1:x.c<x.cel.length)(hl:x.cel.length<=274877906944)(hs:SF w D (xH k bx bm x dn rs) A [] (xW x) w):Calls prog 228 #[.pointer (some ⟨bx,0,none⟩),.int .i64 i] w λ e w'=>∃q:Unit,e=.returned (.int .i64 (x.cel.getD x.c 0))/\True/\SF w D (xH k bx bm {x with c:=x.c+1} dn rs) [] [] (xW {x with c:=x.c+1}) w':=by
 refine enter Tryz.func228 Tryz.ntmps228 rfl rfl (cD hs) ?_
 simp only[cG]
 refine E8 ?_;refine Kc3 ?_
 refine bC (λ c8=>?_) (λ c8=>?_)
 ·try (exfalso;omega)
  exact absurd (h.symm.trans c8) (by decide)
 ·try (exfalso;omega)
  refine kZ ?_;refine aV ?_;refine gZ [0,1,2,3,4,5,6,7,8,9] ?_;refine Es ?_;refine oE ?_;refine oJ ?_;refine eL ?_
  refine bC (λ c18=>?_) (λ c18=>?_)
  ·try (exfalso;omega)
  ·try (exfalso;omega)
   refine xd ?_;refine aD (pA (m:=x.c) (n:=1) rf rf (by omega)) rfl ?_;refine N5 ?_;refine cR (by exact jG λ _=>fE rf cS wn rf fO rf rf lE) (λ _=>?_);refine Tq ?_;refine gZ [0,1,2,3,4,5,6,7,8,9,10,11] ?_;refine Es ?_;refine cK (i:=8) (hq:=(jK (m:=x.c+1) (n:=1) rf rf (by omega) (by omega))) (h:=?_);refine bU (i:=9) (hq:=(cP (m:=x.cel.length) (k:=x.c+1-1) (lst:=x.cel) rf rf fZ fO (.own (.tail (.tail .head))) (by omega) (by omega))) (h:=?_);refine bU (i:=10) (hq:=(eC (q:=x.c+1-1) (lst:=x.cel) rf fO (.own (.tail (.tail .head))) (by omega))) (h:=?_);refine J7 ?_
   refine aT Tryz.results228 (λ w hw=>?_)
   exact⟨(),by rw[Nat.add_sub_cancel];rfl,trivial,hw.aY⟩
theorem nl(i:Int)(h:x.st=false)(h1:x.c=x.cel.length)(hl:x.cel.length<=137438953472)(hcl:x.cs.length<=274877906900)(hs:SF w D (xH k bx bm x dn rs) A [] (xW x) w):Calls prog 228 #[.pointer (some ⟨bx,0,none⟩),.int .i64 i] w λ e w'=>∃q:(Option Addr×Nat)×(Option Addr×Nat),e=.returned (.int .i64 ((x.cs.length+1:Nat):Int))/\True /\
   SF w D (xH k bx bm {x with cs:=x.cs++[i],pc:=q.1.1,cc:=q.1.2,cel:=x.cel++[((x.cs.length+1:Nat):Int)],pl:=q.2.1,kl:=q.2.2,c:=x.c+1} dn rs) [] [] (xW {x with cs:=x.cs++[i],pc:=q.1.1,cc:=q.1.2,cel:=x.cel++[((x.cs.length+1:Nat):Int)],pl:=q.2.1,kl:=q.2.2,c:=x.c+1}) w':=by
 refine enter Tryz.func228 Tryz.ntmps228 rfl rfl (cD hs) ?_
 simp only[cG]
 refine E8 ?_;refine Kc3 ?_
 refine bC (λ c8=>?_) (λ c8=>?_)
 ·try (exfalso;omega)
  exact absurd (h.symm.trans c8) (by decide)
 ·try (exfalso;omega)
  refine kZ ?_;refine aV ?_;refine gZ [0,1,2,3,4,5,6,7,8,9] ?_;refine Es ?_;refine oE ?_;refine oJ ?_;refine eL ?_
  refine bC (λ c18=>?_) (λ c18=>?_)
  ·try (exfalso;omega)
   refine eH [(0,[]),(1,[]),(2,[]),(3,[]),(4,[]),(5,[]),(6,[]),(7,[]),(8,[]),(9,[]),(10,[4]),(11,[4]),(12,[]),(13,[]),(14,[]),(15,[])] ?_;refine aR ?_;refine Es ?_;refine aR ?_;refine bE (i:=10) (hq:=(cM (hc:=λ w hs=>lU (L:=x.L) (cs:=x.cs) i hs (by omega)))) (h:=λ x29 h29=>?_);refine dC (i:=11) (hq:=((by exact I8 (λ _=>cN (cs:=aH [((x.cs.length+1:Nat):Int)]) Hf Jh rfl rfl rfl rfl rfl)))) (h:=λ x30=>?_);((refine dC (i:=12) (hq:=(bG.eR (tG (l:=x.cel) (m:=x.cel.length) rf rf (.tail (.tail .head)) rfl fin (by exact Hf) fZ (by omega)) vM)) (h:=λ x31=>?_);try (refine eK (λ h31=>?_))));refine J4 ?_;refine kW (i:=15) (hq:=(by exact jG λ _=>fE rf cS wn rf fO rf rf lE)) (h:=λ _=>?_);refine eL ?_;refine mK ?_;refine aD (pA (m:=x.c) (n:=1) rf rf (by omega)) rfl ?_;refine N5 ?_;refine cR (by exact jG λ _=>fE rf cS wn rf fO rf rf lE) (λ _=>?_);refine Tq ?_;refine gZ [0,1,2,3,4,5,6,7,8,9,10,11] ?_;refine Es ?_;refine cK (i:=8) (hq:=(jK (m:=x.c+1) (n:=1) rf rf (by omega) (by omega))) (h:=?_);refine bU (i:=9) (hq:=(cP (m:=x.cel.length+1) (k:=x.c+1-1) rf rf fZ fO (.own (.tail (.tail .head))) (by omega) (by rw[List.length_append,List.length_cons,List.length_nil];omega))) (h:=?_);refine bU (i:=10) (hq:=(eC (q:=x.c+1-1) rf fO (.own (.tail (.tail .head))) (by rw[List.length_append,List.length_cons,List.length_nil];omega))) (h:=?_);refine J7 ?_
   refine aT Tryz.results228 (λ w hw=>?_)
   rw[show x.cel.length+1=(x.cel++[((x.cs.length+1:Nat):Int)]).length by simp] at hw
   exact⟨(x29,x31),by rw[show x.c+1-1=x.cel.length by omega,sB];rfl,trivial,hw.aY⟩
  ·try (exfalso;omega)
theorem yd(h:x.st=true)(hs:SF w D (xH k bx bm x dn rs) A [] (xW x) w):Calls prog 230 #[.pointer (some ⟨bx,0,none⟩)] w λ e w'=>∃q:Unit,e=.returned (.int .i64 0)/\True/\SF w D (xH k bx bm x dn rs) [] [] (xW x) w':=by
 refine enter Tryz.func230 Tryz.ntmps230 rfl rfl (cD hs) ?_
 simp only[cG]
 refine E8 ?_;refine Kc3 ?_
 refine bC (λ c6=>?_) (λ c6=>?_)
 ·refine dA ?_
  refine aT Tryz.results230 (λ w hw=>?_)
  exact⟨(),rfl,trivial,hw.aY⟩
 ·exact absurd (h.symm.trans c6) (by decide)
theorem Lx(h:x.st=false)(h1:x.g<x.gns.length)(hl:x.gns.length<=274877906944)(hs:SF w D (xH k bx bm x dn rs) A [] (xW x) w):Calls prog 230 #[.pointer (some ⟨bx,0,none⟩)] w λ e w'=>∃q:Unit,e=.returned (.int .i64 (x.gns.getD x.g 0))/\True/\SF w D (xH k bx bm {x with g:=x.g+1} dn rs) [] [] (xW {x with g:=x.g+1}) w':=by
 refine enter Tryz.func230 Tryz.ntmps230 rfl rfl (cD hs) ?_
 simp only[cG]
 refine E8 ?_;refine Kc3 ?_
 refine bC (λ c6=>?_) (λ c6=>?_)
 ·try (exfalso;omega)
  exact absurd (h.symm.trans c6) (by decide)
 ·try (exfalso;omega)
  refine kZ ?_;refine aV ?_;refine gZ [0,1,2,3,4,5,6,7,8,9] ?_;refine Es ?_;refine oE ?_;refine oJ ?_;refine eL ?_
  refine bC (λ c16=>?_) (λ c16=>?_)
  ·try (exfalso;omega)
  ·try (exfalso;omega)
   refine xd ?_;refine aD (pA (m:=x.g) (n:=1) rf rf (by omega)) rfl ?_;refine N5 ?_;refine cR (by exact jG λ _=>fE rf cS wn rf fO rf rf lE) (λ _=>?_);refine Tq ?_;refine gZ [0,1,2,3,4,5,6,7,8,9,10,11] ?_;refine Es ?_;refine cK (i:=8) (hq:=(jK (m:=x.g+1) (n:=1) rf rf (by omega) (by omega))) (h:=?_);refine bU (i:=9) (hq:=(cP (m:=x.gns.length) (k:=x.g+1-1) (lst:=x.gns) rf rf fZ fO (.own (.tail (.tail (.tail .head)))) (by omega) (by omega))) (h:=?_);refine bU (i:=10) (hq:=(eC (q:=x.g+1-1) (lst:=x.gns) rf fO (.own (.tail (.tail (.tail .head)))) (by omega))) (h:=?_);refine J7 ?_
   refine aT Tryz.results230 (λ w hw=>?_)
   exact⟨(),by rw[Nat.add_sub_cancel];rfl,trivial,hw.aY⟩
theorem se(h:x.st=false)(h1:x.g=x.gns.length)(hl:x.gns.length<=137438953472)(hgn : -1<=x.gen/\x.gen<=137438953600)(hs:SF w D (xH k bx bm x dn rs) A [] (xW x) w):Calls prog 230 #[.pointer (some ⟨bx,0,none⟩)] w λ e w'=>∃q:Option Addr×Nat,e=.returned (.int .i64 (x.gen+1))/\True /\
   SF w D (xH k bx bm {x with gen:=x.gen+1,gns:=x.gns++[x.gen+1],pe:=q.1,ke:=q.2,g:=x.g+1} dn rs) [] [] (xW {x with gen:=x.gen+1,gns:=x.gns++[x.gen+1],pe:=q.1,ke:=q.2,g:=x.g+1}) w':=by
 have hup:up x.gen=x.gen+1:=wrap_i64 (by omega) (by omega)
 refine enter Tryz.func230 Tryz.ntmps230 rfl rfl (cD hs) ?_
 simp only[cG]
 refine E8 ?_;refine Kc3 ?_
 refine bC (λ c6=>?_) (λ c6=>?_)
 ·try (exfalso;omega)
  exact absurd (h.symm.trans c6) (by decide)
 ·try (exfalso;omega)
  refine kZ ?_;refine aV ?_;refine gZ [0,1,2,3,4,5,6,7,8,9] ?_;refine Es ?_;refine oE ?_;refine oJ ?_;refine eL ?_
  refine bC (λ c16=>?_) (λ c16=>?_)
  ·try (exfalso;omega)
   refine eH [(0,[]),(1,[]),(2,[]),(3,[]),(4,[]),(5,[]),(6,[]),(7,[]),(8,[]),(9,[4]),(10,[4]),(11,[]),(12,[]),(13,[]),(14,[])] ?_;refine aR ?_;refine Es ?_;refine bE (i:=9) (hq:=(cM (hc:=λ w hs=>Ke (L:=x.L) (cs:=x.cs) (gen:=x.gen) hs))) (h:=λ x26 h26=>?_);refine cE (h:=λ x27=>?_);((refine dC (i:=11) (hq:=(bG.eR (tG (l:=x.gns) (m:=x.gns.length) rf rf (.tail (.tail (.tail .head))) rfl fin (by exact Fq) fZ (by omega)) vM)) (h:=λ x28=>?_);try (refine eK (λ h28=>?_))));refine J4 ?_;refine kW (i:=14) (hq:=(by exact jG λ _=>fE rf cS wn rf fO rf rf lE)) (h:=λ _=>?_);refine eL ?_;refine mK ?_;refine aD (pA (m:=x.g) (n:=1) rf rf (by omega)) rfl ?_;refine N5 ?_;refine cR (by exact jG λ _=>fE rf cS wn rf fO rf rf lE) (λ _=>?_);refine Tq ?_;refine gZ [0,1,2,3,4,5,6,7,8,9,10,11] ?_;refine Es ?_;refine cK (i:=8) (hq:=(jK (m:=x.g+1) (n:=1) rf rf (by omega) (by omega))) (h:=?_);refine bU (i:=9) (hq:=(cP (m:=x.gns.length+1) (k:=x.g+1-1) rf rf fZ fO (.own (.tail (.tail (.tail .head)))) (by omega) (by rw[List.length_append,List.length_cons,List.length_nil];omega))) (h:=?_);refine bU (i:=10) (hq:=(eC (q:=x.g+1-1) rf fO (.own (.tail (.tail (.tail .head)))) (by rw[List.length_append,List.length_cons,List.length_nil];omega))) (h:=?_);refine J7 ?_
   refine aT Tryz.results230 (λ w hw=>?_)
   rw[hup,show x.gns.length+1=(x.gns++[x.gen+1]).length by simp] at hw
   exact⟨x28,by rw[show x.g+1-1=x.gns.length by omega,sB,hup];rfl,trivial,hw.aY⟩
  ·try (exfalso;omega)
end
end
end Go.Proofs.YtbajmaoegmbfgaaGreat
namespace Go.Ct
open Go Go.RowKit
section
section
variable{g:Gx}{x:XS}{N:List aQ}
theorem XS.Ok.xf(h:x.Ok){y:XS}(e1:y.L=x.L)(e2:y.cs=x.cs)(e3:y.got=x.got)(e4:y.made=x.made)(e5:y.cel=x.cel)(e6:y.gns=x.gns)(ha:y.a<=x.got.length)(hm:y.m<=x.made.length)(hc:y.c<=x.cel.length)(hg:y.g<=x.gns.length)(hf:y.fr<=1)(e7:y.gen=x.gen:=by rfl):y.Ok :=
 ⟨by rw[e1];exact h.fit,by rw[e1,e2];exact h.nd,by rw[e1,e2];exact h.cs,by rw[e1,e3];exact h.got,by rw[e1,e4];exact h.made,by rw[e1];exact h.two,by rw[e1];exact h.lL,by rw[e2];exact h.lc,by rw[e3];exact h.lg,by rw[e3];exact ha,by rw[e4];exact hm,by rw[e5];exact hc,by rw[e6];exact hg,hf,by rw[e1];exact h.ys,by rw[e7];exact h.gen0,by rw[e4];exact h.ms,by rw[e4];exact h.m1⟩
theorem Nx.st{t:Tr}(hs:x.st=true)(go:gE g x t)(ok:x.Ok){t':Tr}:Nx g x x [] t' 0:=⟨go.bY hs,ok,by simp,Nat.le_refl _,bL _⟩
theorem Nx.cI{x':XS}{t t':Tr}{b b':Int}(h:Nx g x x' N t b)(go:gE g x' t')(hb:b'<=x'.L.length):Nx g x x' N t' b':=⟨go,h.ok,h.ext,h.lc,hb⟩
theorem Nx.len{x':XS}{t:Tr}{b:Int}(h:Nx g x x' N t b):x.L.length<=x'.L.length:=by rw[h.ext,List.length_append];omega
theorem Nx.trans{x1 x2:XS}{N1 N2:List aQ}{t1 t2:Tr}{b1 b2:Int}(h1:Nx g x x1 N1 t1 b1)(h2:Nx g x1 x2 N2 t2 b2):Nx g x x2 (N1++N2) t2 b2:=⟨h2.go,h2.ok,by rw[h2.ext,h1.ext,List.append_assoc],Nat.le_trans h1.lc h2.lc,h2.bd⟩
theorem Nx.ext'{x':XS}{t t':Tr}{b b':Int}(h:Nx g x x' (N++[]) t b)(go:gE g x' t')(hb:b'<=x'.L.length):Nx g x x' N t' b':=⟨go,h.ok,by have:=h.ext;rwa [List.append_nil] at this,h.lc,hb⟩
theorem Nx.start{t:Tr}(go:gE g x t)(ok:x.Ok):Nx g x x [] t 0:=⟨go,ok,by simp,Nat.le_refl _,bL _⟩
end
end
end Go.Ct
namespace Go.Proofs.YtbajmaoegmbfgaaGreat
open Go Go.RowKit Go.Ct
section
section
variable{k:Cl}{bx bm:Nat}{x:XS}{dn:Bool}{rs:Rs}{D:List Nat}{A:Fr}{w:World}{g:Gx}
theorem qD(hg:g.Ok)(c:Int)(K:Int->Tr)(hc:c<=9223372036854775807)(go:gE g x (.load c K))(ok:x.Ok)(hs:SF w D (xH k bx bm x dn rs) A [] (xW x) w):Calls Tryz.prog 210 #[.pointer (some ⟨bx,0,none⟩),.int .i64 c] w λ e w'=>∃q:Int×XS,e=.returned (.int .i64 q.1)/\Nx g x q.2 [] (K q.1) q.1/\SF w D (xH k bx bm q.2 dn rs) [] [] (xW q.2) w':=by
 cases hst:x.st with
 | true=>exact(ua c ok hst hs).mono λ e w' ⟨_,q1,_,q3⟩=>⟨(0,x),q1,Nx.st hst go ok,q3⟩
 | false =>
  have hgd:=go.run hst
  by_cases h1:x.a<x.got.length
  ·refine(F9 c ok hst h1 hs).mono λ e w' ⟨_,q1,_,q3⟩=>⟨(x.got.getD x.a 0,{x with a:=x.a+1}),q1,?_,q3⟩
   exact⟨.inl ⟨hst,hgd.F9 h1⟩,ok.xf rfl rfl rfl rfl rfl rfl h1 ok.lm ok.lk ok.le ok.fr,by simp,Nat.le_refl _,mQ ok.got _⟩
  ·have hat:=hgd.pb h1
   by_cases h2:x.fr=0
   ·refine(ry c ok hst h1 h2 hs).mono λ e w' ⟨_,q1,_,q3⟩=>⟨(0,{x with st:=true,nx:=⟨1,c,0,0⟩}),q1,?_,q3⟩
    have hgo:gE g {x with st:=true,nx:=⟨1,c,0,0⟩} (.load c K):=hat.stop h2 rfl rfl rfl rfl rfl rfl rfl rfl rfl
    exact⟨hgo.bY rfl,ok.xf rfl rfl rfl rfl rfl rfl ok.la ok.lm ok.lk ok.le ok.fr,by simp,Nat.le_refl _,bL _⟩
   ·refine(ag c hc ok hst h1 h2 hs).mono λ e w' ⟨q,q1,_,q3⟩=>⟨(aS x.cs c,{x with fr:=x.fr-1,acc:=up x.acc,got:=x.got++[aS x.cs c],pg:=q.1,kg:=q.2,a:=x.a+1}),q1,?_,q3⟩
    have hN:=hat.hN
    have hgN:=hg.hN
    have hgo:gE g {x with fr:=x.fr-1,acc:=up x.acc,got:=x.got++[aS x.cs c],pg:=q.1,kg:=q.2,a:=x.a+1} (K (aS x.cs c)):=hat.now (by omega) (λ L=>Wk.w3 _) (.load c K x.mm) hst rfl rfl rfl rfl rfl rfl rfl rfl rfl rfl
    refine⟨hgo,⟨ok.fit,ok.nd,ok.cs,λ v hv=>?_,ok.made,ok.two,ok.lL,ok.lc,?_,?_,ok.lm,ok.lk,ok.le,?_,ok.ys,ok.gen0,ok.ms,ok.m1⟩,by simp,Nat.le_refl _,ok.cell c⟩
    ·rcases List.mem_append.1 hv with hv|hv
     ·exact ok.got v hv
     ·rw[List.mem_singleton.1 hv];exact ok.cell c
    ·show(x.got++[aS x.cs c]).length<=_
     rw[List.length_append,List.length_cons,List.length_nil];omega
    ·show x.a+1<=(x.got++[aS x.cs c]).length
     have:=ok.la
     rw[List.length_append,List.length_cons,List.length_nil];omega
    ·show x.fr-1<=1
     have:=ok.fr;omega
theorem wR(hg:g.Ok)(c o n:Int)(K:Bool->Tr)(hc:c<=9223372036854775807)(hn:n<=x.L.length)(go:gE g x (.jW c o n K))(ok:x.Ok)(hs:SF w D (xH k bx bm x dn rs) A [] (xW x) w):Calls Tryz.prog 212 #[.pointer (some ⟨bx,0,none⟩),.int .i64 c,.int .i64 o,.int .i64 n] w λ e w'=>∃q:Bool×XS,e=.returned (.bool q.1)/\Nx g x q.2 [] (K q.1) 0/\SF w D (xH k bx bm q.2 dn rs) [] [] (xW q.2) w':=by
 cases hst:x.st with
 | true=>exact(yo c o n ok hst hs).mono λ e w' ⟨_,q1,_,q3⟩=>⟨(false,x),q1,Nx.st hst go ok,q3⟩
 | false =>
  have hgd:=go.run hst
  by_cases h1:x.a<x.got.length
  ·refine(Mc c o n ok hst h1 hs).mono λ e w' ⟨_,q1,_,q3⟩=>⟨(x.got.getD x.a 0==1,{x with a:=x.a+1}),q1,?_,q3⟩
   exact⟨.inl ⟨hst,hgd.Mc h1⟩,ok.xf rfl rfl rfl rfl rfl rfl h1 ok.lm ok.lk ok.le ok.fr,by simp,Nat.le_refl _,bL _⟩
  ·have hat:=hgd.yj h1
   by_cases h2:x.fr=0
   ·refine(aAS c o n ok hst h1 h2 hs).mono λ e w' ⟨_,q1,_,q3⟩=>⟨(false,{x with st:=true,nx:=⟨2,c,o,n⟩}),q1,?_,q3⟩
    have hgo:gE g {x with st:=true,nx:=⟨2,c,o,n⟩} (.jW c o n K):=hat.stop h2 rfl rfl rfl rfl rfl rfl rfl rfl rfl
    exact⟨hgo.bY rfl,ok.xf rfl rfl rfl rfl rfl rfl ok.la ok.lm ok.lk ok.le ok.fr,by simp,Nat.le_refl _,bL _⟩
   ·refine(su c o n hc ok hst h1 h2 hs).mono λ e w' ⟨q,q1,hb,q3⟩=>⟨(q.1,{x with fr:=x.fr-1,cs:=eG x.cs c o n,acc:=up x.acc,got:=x.got++[Uf q.1],pg:=q.2.1,kg:=q.2.2,a:=x.a+1}),q1,?_,q3⟩
    have hN:=hat.hN
    have hgN:=hg.hN
    have hb1:(Uf q.1==1)=q.1:=by cases q.1<;>rfl
    have hb2:Uf q.1<=x.L.length:=by have:=ok.two;cases q.1<;>simp only[Uf]<;>(omega)
    have hlc:=fN (cs:=x.cs) (c:=c) (bK:=o) (new:=n)
    have hgo:gE g {x with fr:=x.fr-1,cs:=eG x.cs c o n,acc:=up x.acc,got:=x.got++[Uf q.1],pg:=q.2.1,kg:=q.2.2,a:=x.a+1} (K q.1):=hat.now (v:=Uf q.1) (by omega) (λ L=>by have:=Wk.aA7 (L:=L) (c:=c) (o:=o) (n:=n) (k:=K) (Uf q.1);rw[hb1] at this;exact this) (.jW c o n K x.mm q.1 hb) hst rfl rfl rfl rfl rfl rfl rfl rfl rfl rfl
    refine⟨hgo,⟨ok.fit,λ v hv=>(ok.nd v hv).mono (Nat.le_refl _) (by show _<=(eG x.cs c o n).length;omega),λ v hv=>?_,λ v hv=>?_,ok.made,ok.two,ok.lL,by show(eG x.cs c o n).length<=_;rw[hlc];exact ok.lc,?_,?_,ok.lm,ok.lk,ok.le,?_,ok.ys,ok.gen0,ok.ms,ok.m1⟩,by simp,by show _<=(eG x.cs c o n).length;omega,bL _⟩
    ·have hv':v∈eG x.cs c o n:=hv
     unfold eG at hv'
     split at hv'
     ·rcases List.mem_or_eq_of_mem_set hv' with h|h
      ·exact ok.cs v h
      ·rw[h];exact hn
     ·exact ok.cs v hv'
    ·rcases List.mem_append.1 hv with hv|hv
     ·exact ok.got v hv
     ·rw[List.mem_singleton.1 hv];exact hb2
    ·show(x.got++[Uf q.1]).length<=_
     rw[List.length_append,List.length_cons,List.length_nil];omega
    ·show x.a+1<=(x.got++[Uf q.1]).length
     have:=ok.la
     rw[List.length_append,List.length_cons,List.length_nil];omega
    ·show x.fr-1<=1
     have:=ok.fr;omega
end
end
end Go.Proofs.YtbajmaoegmbfgaaGreat
