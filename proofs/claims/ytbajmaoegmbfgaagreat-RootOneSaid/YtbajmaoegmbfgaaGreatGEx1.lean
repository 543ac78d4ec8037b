/- Merged. -/
import Derived.Test.YtbajmaoegmbfgaaGreatGRn1
import Derived.Test.YtbajmaoegmbfgaaGreatSp1
set_option linter.unusedSimpArgs false
set_option linter.unusedVariables false
namespace Go.Ct
section
def XS.kn(x:XS)(a:Ac):XS:=if x.st=true then x else if x.a<x.got.length then{x with a:=x.a+1} else if x.fr=0 then{x with st:=true,nx:=a} else{x with fr:=x.fr-1}
def XS.bA(x:XS):Bool:=!x.st&&decide (x.a<x.got.length)
def XS.now(x:XS):Bool:=!x.st&&!decide (x.a<x.got.length)&&!decide (x.fr=0)
theorem XS.vo{x:XS}{a:Ac}(h:x.st=true):x.kn a=x/\x.bA=false/\x.now=false:=⟨if_pos h,by simp[XS.bA,h],by simp[XS.now,h]⟩
theorem XS.Z2{x:XS}{a:Ac}(h:x.st=false)(h1:x.a<x.got.length):x.kn a={x with a:=x.a+1}/\x.bA=true/\x.now=false:=⟨by unfold XS.kn;rw[if_neg (by rw[h];decide),if_pos h1],by simp[XS.bA,h,h1],by simp[XS.now,h1]⟩
theorem XS.wq{x:XS}{a:Ac}(h:x.st=false)(h1:¬x.a<x.got.length)(h2:x.fr=0):x.kn a={x with st:=true,nx:=a}/\x.bA=false/\x.now=false:=⟨by unfold XS.kn;rw[if_neg (by rw[h];decide),if_neg h1,if_pos h2],by simp[XS.bA,h1],by simp[XS.now,h2]⟩
theorem XS.Z6{x:XS}{a:Ac}(h:x.st=false)(h1:¬x.a<x.got.length)(h2:¬x.fr=0):x.kn a={x with fr:=x.fr-1}/\x.bA=false/\x.now=true:=⟨by unfold XS.kn;rw[if_neg (by rw[h];decide),if_neg h1,if_neg h2],by simp[XS.bA,h1],by simp[XS.now,h,h1,h2]⟩
end
end Go.Ct
namespace Go.Proofs.YtbajmaoegmbfgaaGreat
open Go.Proofs.Tryz (prog)
open Go Go.RowKit Go.Ct
section
section
variable{k:Cl}{bx bm:Nat}{x:XS}{dn:Bool}{rs:Rs}{D:List Nat}{A:Fr}{w:World}
theorem Eh(a:Ac)(ok:x.Ok)(hs:SF w D (xH k bx bm x dn rs) A [] (xW x) w):Calls prog 240 #[.pointer (some ⟨bx,0,none⟩),.agg ⟨a.cells⟩] w λ e w'=>∃q:Unit,e=.returned (.tuple #[.bool x.bA,.bool x.now])/\True/\SF w D (xH k bx bm (x.kn a) dn rs) [] [] (xW (x.kn a)) w':=by
 have h1:=ok.lg
 have h2:=ok.la
 have h3:=ok.fr
 refine enter Tryz.func240 Tryz.ntmps240 rfl rfl (aBL hs) ?_
 simp only[cE]
 refine J0 ?_;refine bN (λ x3=>?_);refine J8 ?_;refine aR ?_;refine Kc0 ?_
 refine bE (λ c9=>?_) (λ c9=>?_)
 ·refine Qh ?_
  refine bB Tryz.results240 (λ w hw=>?_)
  obtain⟨e1,e2,e3⟩:=XS.vo (a:=a) c9
  rw[e1,e2,e3]
  exact⟨(),rfl,trivial,hw.aX⟩
 ·refine lW ?_;refine aR ?_;refine gM [0,1,2,3,4,5,6,7,8,9] ?_;refine Dt ?_;refine nW ?_;refine Al ?_;refine eO ?_
  refine bE (λ c19=>?_) (λ c19=>?_)
  ·refine lQ ?_;refine F6 ?_;refine K5 ?_;refine Qh ?_
   refine bB Tryz.results240 (λ w hw=>?_)
   obtain⟨e1,e2,e3⟩:=XS.Z2 (a:=a) c9 (by omega)
   rw[e1,e2,e3]
   exact⟨(),rfl,trivial,hw.aX⟩
  ·refine lW ?_;refine lQ ?_;refine uM ?_
   refine bE (λ c31=>?_) (λ c31=>?_)
   ·refine aR ?_;refine eQ [(0,[]),(1,[]),(2,[]),(3,[]),(4,[]),(5,[2]),(6,[]),(7,[]),(8,[])] ?_;refine hU ?_;refine bX ?_;refine J4 ?_;refine pD (h:=λ _=>?_);refine J4 ?_;refine lE (i:=8) (hq:=(gK λ _=>lU (off:=36) (vs:=a.cells) rf cR rf rfl eE (Nat.le_of_ble_eq_true rfl) rf jC)) (h:=λ _=>?_);refine eO ?_;refine Qh ?_
    refine bB Tryz.results240 (λ w hw=>?_)
    obtain⟨e1,e2,e3⟩:=XS.wq (a:=a) c9 (by omega) (by omega)
    rw[e1,e2,e3]
    exact⟨(),rfl,trivial,hw.aX⟩
   ·refine vx ?_;refine sB ?_;refine K5 ?_;refine Qh ?_
    refine bB Tryz.results240 (λ w hw=>?_)
    obtain⟨e1,e2,e3⟩:=XS.Z6 (a:=a) c9 (by omega) (by omega)
    rw[e1,e2,e3]
    exact⟨(),rfl,trivial,hw.aX⟩
theorem Qo(a:Ac)(ok:x.Ok)(h:x.st=true)(hs:SF w D (xH k bx bm x dn rs) A [] (xW x) w):Calls prog 240 #[.pointer (some ⟨bx,0,none⟩),.agg ⟨a.cells⟩] w λ e w'=>∃q:Unit,e=.returned (.tuple #[.bool false,.bool false])/\True/\SF w D (xH k bx bm x dn rs) [] [] (xW x) w':=by
 obtain⟨e1,e2,e3⟩:=XS.vo (a:=a) h
 have:=Eh (k:=k) (bx:=bx) (bm:=bm) (dn:=dn) (rs:=rs) (D:=D) (A:=A) (w:=w) a ok hs
 rw[e1,e2,e3] at this
 exact this
theorem Ko(a:Ac)(ok:x.Ok)(h:x.st=false)(h1:x.a<x.got.length)(hs:SF w D (xH k bx bm x dn rs) A [] (xW x) w):Calls prog 240 #[.pointer (some ⟨bx,0,none⟩),.agg ⟨a.cells⟩] w λ e w'=>∃q:Unit,e=.returned (.tuple #[.bool true,.bool false])/\True/\SF w D (xH k bx bm {x with a:=x.a+1} dn rs) [] [] (xW {x with a:=x.a+1}) w':=by
 obtain⟨e1,e2,e3⟩:=XS.Z2 (a:=a) h h1
 have:=Eh (k:=k) (bx:=bx) (bm:=bm) (dn:=dn) (rs:=rs) (D:=D) (A:=A) (w:=w) a ok hs
 rw[e1,e2,e3] at this
 exact this
theorem P6(a:Ac)(ok:x.Ok)(h:x.st=false)(h1:¬x.a<x.got.length)(h2:x.fr=0)(hs:SF w D (xH k bx bm x dn rs) A [] (xW x) w):Calls prog 240 #[.pointer (some ⟨bx,0,none⟩),.agg ⟨a.cells⟩] w λ e w'=>∃q:Unit,e=.returned (.tuple #[.bool false,.bool false])/\True/\SF w D (xH k bx bm {x with st:=true,nx:=a} dn rs) [] [] (xW {x with st:=true,nx:=a}) w':=by
 obtain⟨e1,e2,e3⟩:=XS.wq (a:=a) h h1 h2
 have:=Eh (k:=k) (bx:=bx) (bm:=bm) (dn:=dn) (rs:=rs) (D:=D) (A:=A) (w:=w) a ok hs
 rw[e1,e2,e3] at this
 exact this
theorem I6(a:Ac)(ok:x.Ok)(h:x.st=false)(h1:¬x.a<x.got.length)(h2:¬x.fr=0)(hs:SF w D (xH k bx bm x dn rs) A [] (xW x) w):Calls prog 240 #[.pointer (some ⟨bx,0,none⟩),.agg ⟨a.cells⟩] w λ e w'=>∃q:Unit,e=.returned (.tuple #[.bool false,.bool true])/\True/\SF w D (xH k bx bm {x with fr:=x.fr-1} dn rs) [] [] (xW {x with fr:=x.fr-1}) w':=by
 obtain⟨e1,e2,e3⟩:=XS.Z6 (a:=a) h h1 h2
 have:=Eh (k:=k) (bx:=bx) (bm:=bm) (dn:=dn) (rs:=rs) (D:=D) (A:=A) (w:=w) a ok hs
 rw[e1,e2,e3] at this
 exact this
theorem pw(c:Int)(ok:x.Ok)(h:x.st=true)(hs:SF w D (xH k bx bm x dn rs) A [] (xW x) w):Calls prog 210 #[.pointer (some ⟨bx,0,none⟩),.int .i64 c] w λ e w'=>∃q:Unit,e=.returned (.int .i64 0)/\True/\SF w D (xH k bx bm x dn rs) [] [] (xW x) w':=by
 refine enter Tryz.func210 Tryz.ntmps210 rfl rfl (cH hs) ?_
 simp only[cE]
 refine cZ ?_;refine jM ?_;refine bK ?_;refine aC (cM (hs:=xH k bx bm x dn rs) (os:=xW x) (hc:=λ w hs=>Qo ⟨1,c,0,0⟩ ok h hs)) (λ x11 h11=>?_);refine Kd2 ?_;refine aG ?_
 refine bE (λ c14=>?_) (λ c14=>?_)
 ·exact nv c14
 ·try (exact abt)
  refine lW ?_;refine J2 ?_;refine Fy ?_
  (refine Ka3 ?_)
  refine Kb9 ?_
  refine bE (λ c43=>?_) (λ c43=>?_)
  ·try (exact abt)
   refine cZ ?_
   refine aN Tryz.results210 (λ w hw=>?_)
   exact⟨(),rfl,trivial,hw.aX⟩
  ·exact nv c43
theorem ql(c:Int)(ok:x.Ok)(h:x.st=false)(h1:¬x.a<x.got.length)(h2:x.fr=0)(hs:SF w D (xH k bx bm x dn rs) A [] (xW x) w):Calls prog 210 #[.pointer (some ⟨bx,0,none⟩),.int .i64 c] w λ e w'=>∃q:Unit,e=.returned (.int .i64 0)/\True/\SF w D (xH k bx bm {x with st:=true,nx:=⟨1,c,0,0⟩} dn rs) [] [] (xW {x with st:=true,nx:=⟨1,c,0,0⟩}) w':=by
 refine enter Tryz.func210 Tryz.ntmps210 rfl rfl (cH hs) ?_
 simp only[cE]
 refine cZ ?_;refine jM ?_;refine bK ?_;refine aC (cM (hs:=xH k bx bm x dn rs) (os:=xW x) (hc:=λ w hs=>P6 ⟨1,c,0,0⟩ ok h h1 h2 hs)) (λ x11 h11=>?_);refine Kd2 ?_;refine aG ?_
 refine bE (λ c14=>?_) (λ c14=>?_)
 ·exact nv c14
 ·try (exact abt)
  refine lW ?_;refine J2 ?_;refine Fy ?_
  (refine Ka3 ?_)
  refine Kb9 ?_
  refine bE (λ c43=>?_) (λ c43=>?_)
  ·try (exact abt)
   refine cZ ?_
   refine aN Tryz.results210 (λ w hw=>?_)
   exact⟨(),rfl,trivial,hw.aX⟩
  ·exact nv c43
theorem Hs(c:Int)(ok:x.Ok)(h:x.st=false)(h1:x.a<x.got.length)(hs:SF w D (xH k bx bm x dn rs) A [] (xW x) w):Calls prog 210 #[.pointer (some ⟨bx,0,none⟩),.int .i64 c] w λ e w'=>∃q:Unit,e=.returned (.int .i64 (x.got.getD x.a 0))/\True/\SF w D (xH k bx bm {x with a:=x.a+1} dn rs) [] [] (xW {x with a:=x.a+1}) w':=by
 have hg:=ok.lg
 refine enter Tryz.func210 Tryz.ntmps210 rfl rfl (cH hs) ?_
 simp only[cE]
 refine cZ ?_;refine jM ?_;refine bK ?_;refine aC (cM (hs:=xH k bx bm x dn rs) (os:=xW x) (hc:=λ w hs=>Ko ⟨1,c,0,0⟩ ok h h1 hs)) (λ x11 h11=>?_);refine Kd2 ?_;refine aG ?_
 refine bE (λ c14=>?_) (λ c14=>?_)
 ·exact nv c14
 ·try (exact abt)
  refine lW ?_;refine J2 ?_;refine Fy ?_
  refine aI ?_
  refine Kb9 ?_
  refine bE (λ c43=>?_) (λ c43=>?_)
  ·exact nv c43
  ·try (exact abt)
   refine lW ?_;refine gM [0,1,2,3,4,5,6,7,8,9,10,11] ?_;refine Dt ?_;refine cP (i:=8) (hq:=(jI (m:=x.a+1) (n:=1) rf rf (by omega) (by omega))) (h:=?_);refine bT (i:=9) (hq:=(eD (m:=x.got.length) (k:=x.a+1-1) (lst:=x.got) rf rf gO gA (.own .head) (by omega) (by omega))) (h:=?_);refine bT (i:=10) (hq:=(fJ (q:=x.a+1-1) (lst:=x.got) rf gA (.own .head) (by omega))) (h:=?_);refine J7 ?_
   refine aN Tryz.results210 (λ w hw=>?_)
   exact⟨(),by rw[Nat.add_sub_cancel];rfl,trivial,hw.aX⟩
theorem Y1(c:Int)(hc:c<=9223372036854775807)(ok:x.Ok)(h:x.st=false)(h1:¬x.a<x.got.length)(h2:¬x.fr=0)(hs:SF w D (xH k bx bm x dn rs) A [] (xW x) w):Calls prog 210 #[.pointer (some ⟨bx,0,none⟩),.int .i64 c] w λ e w'=>∃q:Option Addr×Nat,e=.returned (.int .i64 (aY x.cs c))/\True/\SF w D (xH k bx bm {x with fr:=x.fr-1,acc:=up x.acc,got:=x.got++[aY x.cs c],pg:=q.1,kg:=q.2,a:=x.a+1} dn rs) [] [] (xW {x with fr:=x.fr-1,acc:=up x.acc,got:=x.got++[aY x.cs c],pg:=q.1,kg:=q.2,a:=x.a+1}) w':=by
 have hg:=ok.lg
 have ha:=ok.la
 have hlc:=ok.lc
 refine enter Tryz.func210 Tryz.ntmps210 rfl rfl (cH hs) ?_
 simp only[cE]
 refine cZ ?_;refine jM ?_;refine bK ?_;refine aC (cM (hs:=xH k bx bm x dn rs) (os:=xW x) (hc:=λ w hs=>I6 ⟨1,c,0,0⟩ ok h h1 h2 hs)) (λ x11 h11=>?_);refine Kd2 ?_;refine aG ?_
 refine bE (λ c14=>?_) (λ c14=>?_)
 ·try (exact abt)
  refine eQ [(0,[]),(1,[]),(2,[]),(3,[]),(4,[]),(5,[]),(6,[]),(7,[]),(8,[]),(9,[]),(10,[]),(14,[]),(15,[]),(16,[]),(17,[]),(18,[]),(11,[5,17]),(12,[5,17]),(13,[17]),(19,[]),(20,[]),(21,[]),(22,[]),(23,[]),(24,[])] ?_;refine hU ?_;refine Dt ?_;refine Xo ?_;refine cP (i:=18) (hq:=(oT (m:=x.a) (n:=1) rf rf (by omega))) (h:=?_);refine bG (i:=11) (hq:=(cM (hc:=λ w hs=>uw (L:=x.L) (cs:=x.cs) hs c hc (by omega)))) (h:=λ x26 h26=>?_);refine cO (h:=λ x27=>?_);((refine dC (i:=13) (hq:=(bF.eX (tA (l:=x.got) (v:=aY x.cs c) (m:=x.got.length) rf rf .head rfl fin m9 gO (by omega)) xN)) (h:=λ x28=>?_);try (refine fL (λ h28=>?_))));refine J4 ?_;refine lE (i:=21) (hq:=(by exact gK λ _=>eW rf cR wn rf gA rf rf jC)) (h:=λ _=>?_);refine J4 ?_;refine lE (i:=24) (hq:=(by exact gK λ _=>eW rf cR wn rf gA rf rf jC)) (h:=λ _=>?_);refine eO ?_;refine lI ?_;refine Fy ?_
  (refine Ka3 ?_)
  refine Kb9 ?_
  refine bE (λ c43=>?_) (λ c43=>?_)
  ·exact nv c43
  ·try (exact abt)
   refine lW ?_;refine gM [0,1,2,3,4,5,6,7,8,9,10,11] ?_;refine Dt ?_;refine cP (i:=8) (hq:=(jI (m:=x.a+1) (n:=1) rf rf (by omega) (by omega))) (h:=?_);refine bT (i:=9) (hq:=(eD (m:=x.got.length+1) (k:=x.a+1-1) (lst:=x.got++[aY x.cs c]) rf rf gO gA (.own .head) (by omega) (by rw[List.length_append,List.length_cons,List.length_nil];omega))) (h:=?_);refine bT (i:=10) (hq:=(fJ (q:=x.a+1-1) (lst:=x.got++[aY x.cs c]) rf gA (.own .head) (by rw[List.length_append,List.length_cons,List.length_nil];omega))) (h:=?_);refine J7 ?_
   refine aN Tryz.results210 (λ w hw=>?_)
   rw[show x.got.length+1=(x.got++[aY x.cs c]).length by simp] at hw
   exact⟨x28,by rw[show(x.got++[aY x.cs c]).getD (x.a+1-1) 0=aY x.cs c by rw[show x.a+1-1=x.got.length by omega,jS,List.getElem?_append_right (Nat.le_refl _)];simp];rfl,trivial,hw.aX⟩
 ·exact nv c14
end
end
end Go.Proofs.YtbajmaoegmbfgaaGreat
namespace Go.Ct
section
def Qz(b:Bool):Int:=if b=true then 1 else 0
theorem sO(l:List Int)(v:Int):(l++[v]).getD l.length 0=v:=by rw[jS,List.getElem?_append_right (Nat.le_refl _)];simp
end
end Go.Ct
namespace Go.Proofs.YtbajmaoegmbfgaaGreat
open Go.Proofs.Tryz (prog)
open Go Go.RowKit Go.Ct
section
section
variable{k:Cl}{bx bm:Nat}{x:XS}{dn:Bool}{rs:Rs}{D:List Nat}{A:Fr}{w:World}
theorem yb(c o n:Int)(ok:x.Ok)(h:x.st=true)(hs:SF w D (xH k bx bm x dn rs) A [] (xW x) w):Calls prog 212 #[.pointer (some ⟨bx,0,none⟩),.int .i64 c,.int .i64 o,.int .i64 n] w λ e w'=>∃q:Unit,e=.returned (.bool false)/\True/\SF w D (xH k bx bm x dn rs) [] [] (xW x) w':=by
 refine enter Tryz.func212 Tryz.ntmps212 rfl rfl (cH hs) ?_
 simp only[cE]
 refine cZ ?_;refine jM ?_;refine qJ ?_;refine bK ?_;refine aC (cM (hs:=xH k bx bm x dn rs) (os:=xW x) (hc:=λ w hs=>Qo ⟨2,c,o,n⟩ ok h hs)) (λ x18 h18=>?_);refine Kd2 ?_;refine aG ?_
 refine bE (λ c21=>?_) (λ c21=>?_)
 ·exact nv c21
 ·try (exact abt)
  refine lW ?_;refine gM [0,1,2,3,4,5,6,7,8,9,10,11,12,13,14,15,16,17,18] ?_;refine hU ?_
  (refine bC ?_)
  refine mF ?_;refine bC ?_
  refine gL ?_
  refine J60 ?_;refine J30 ?_;(refine gL ?_);refine J74 ?_;refine J56 ?_;refine J7 ?_
  refine aN Tryz.results212 (λ w hw=>?_)
  exact⟨(),rfl,trivial,hw.aX⟩
theorem zo(c o n:Int)(ok:x.Ok)(h:x.st=false)(h1:¬x.a<x.got.length)(h2:x.fr=0)(hs:SF w D (xH k bx bm x dn rs) A [] (xW x) w):Calls prog 212 #[.pointer (some ⟨bx,0,none⟩),.int .i64 c,.int .i64 o,.int .i64 n] w λ e w'=>∃q:Unit,e=.returned (.bool false)/\True/\SF w D (xH k bx bm {x with st:=true,nx:=⟨2,c,o,n⟩} dn rs) [] [] (xW {x with st:=true,nx:=⟨2,c,o,n⟩}) w':=by
 refine enter Tryz.func212 Tryz.ntmps212 rfl rfl (cH hs) ?_
 simp only[cE]
 refine cZ ?_;refine jM ?_;refine qJ ?_;refine bK ?_;refine aC (cM (hs:=xH k bx bm x dn rs) (os:=xW x) (hc:=λ w hs=>P6 ⟨2,c,o,n⟩ ok h h1 h2 hs)) (λ x18 h18=>?_);refine Kd2 ?_;refine aG ?_
 refine bE (λ c21=>?_) (λ c21=>?_)
 ·exact nv c21
 ·try (exact abt)
  refine lW ?_;refine gM [0,1,2,3,4,5,6,7,8,9,10,11,12,13,14,15,16,17,18] ?_;refine hU ?_
  (refine bC ?_)
  refine mF ?_;refine bC ?_
  refine gL ?_
  refine J60 ?_;refine J30 ?_;(refine gL ?_);refine J74 ?_;refine J56 ?_;refine J7 ?_
  refine aN Tryz.results212 (λ w hw=>?_)
  exact⟨(),rfl,trivial,hw.aX⟩
theorem Mc(c o n:Int)(ok:x.Ok)(h:x.st=false)(h1:x.a<x.got.length)(hs:SF w D (xH k bx bm x dn rs) A [] (xW x) w):Calls prog 212 #[.pointer (some ⟨bx,0,none⟩),.int .i64 c,.int .i64 o,.int .i64 n] w λ e w'=>∃q:Unit,e=.returned (.bool (x.got.getD x.a 0==1))/\True/\SF w D (xH k bx bm {x with a:=x.a+1} dn rs) [] [] (xW {x with a:=x.a+1}) w':=by
 have hg:=ok.lg
 refine enter Tryz.func212 Tryz.ntmps212 rfl rfl (cH hs) ?_
 simp only[cE]
 refine cZ ?_;refine jM ?_;refine qJ ?_;refine bK ?_;refine aC (cM (hs:=xH k bx bm x dn rs) (os:=xW x) (hc:=λ w hs=>Ko ⟨2,c,o,n⟩ ok h h1 hs)) (λ x18 h18=>?_);refine Kd2 ?_;refine aG ?_
 refine bE (λ c21=>?_) (λ c21=>?_)
 ·exact nv c21
 ·try (exact abt)
  refine lW ?_;refine gM [0,1,2,3,4,5,6,7,8,9,10,11,12,13,14,15,16,17,18] ?_;refine hU ?_
  refine gL ?_
  refine mF ?_;refine bC ?_
  (refine bC ?_)
  refine J60 ?_;refine J30 ?_;((refine cP (i:=13) (hq:=(jI (m:=x.a+1) (n:=1) rf rf (by omega) (by omega))) (h:=?_)));((refine bT (i:=14) (hq:=(eD (m:=x.got.length) (k:=x.a+1-1) (lst:=x.got) rf rf gO gA (.own .head) (by omega) (by omega))) (h:=?_)));((refine bT (i:=15) (hq:=(fJ (q:=x.a+1-1) (lst:=x.got) rf gA (.own .head) (by omega))) (h:=?_)));refine J56 ?_;refine J7 ?_
  refine aN Tryz.results212 (λ w hw=>?_)
  exact⟨(),by rw[Nat.add_sub_cancel];rfl,trivial,hw.aX⟩
theorem sg(c o n:Int)(hc:c<=9223372036854775807)(ok:x.Ok)(h:x.st=false)(h1:¬x.a<x.got.length)(h2:¬x.fr=0)(hs:SF w D (xH k bx bm x dn rs) A [] (xW x) w):Calls prog 212 #[.pointer (some ⟨bx,0,none⟩),.int .i64 c,.int .i64 o,.int .i64 n] w λ e w'=>∃q:Bool×(Option Addr×Nat),e=.returned (.bool q.1)/\(q.1=true↔fI x.cs c o)/\SF w D (xH k bx bm {x with fr:=x.fr-1,cs:=eC x.cs c o n,acc:=up x.acc,got:=x.got++[Qz q.1],pg:=q.2.1,kg:=q.2.2,a:=x.a+1} dn rs) [] [] (xW {x with fr:=x.fr-1,cs:=eC x.cs c o n,acc:=up x.acc,got:=x.got++[Qz q.1],pg:=q.2.1,kg:=q.2.2,a:=x.a+1}) w':=by
 have hg:=ok.lg
 have ha:=ok.la
 have hlc:=ok.lc
 refine enter Tryz.func212 Tryz.ntmps212 rfl rfl (cH hs) ?_
 simp only[cE]
 refine cZ ?_;refine jM ?_;refine qJ ?_;refine bK ?_;refine aC (cM (hs:=xH k bx bm x dn rs) (os:=xW x) (hc:=λ w hs=>I6 ⟨2,c,o,n⟩ ok h h1 h2 hs)) (λ x18 h18=>?_);refine Kd2 ?_;refine aG ?_
 refine bE (λ c21=>?_) (λ c21=>?_)
 ·try (exact abt)
  refine Er ?_;refine lQ ?_;refine qJ ?_;refine aA ?_;refine aC (cM (V:=.bool) (hc:=λ w hs=>aAz (L:=x.L) (cs:=x.cs) hs c o n hc (by omega))) (λ x29 h29=>?_);refine aG ?_
  refine bE (λ c29=>?_) (λ c29=>?_)
  ·try (exact abt)
   have hv:(1:Int)=Qz x29:=by rw[c29];rfl
   refine dJ ?_;refine J1 ?_;refine eQ [(0,[]),(1,[]),(2,[]),(3,[]),(4,[]),(5,[]),(6,[]),(9,[]),(10,[]),(11,[]),(12,[]),(13,[]),(7,[5,12]),(8,[12]),(14,[]),(15,[]),(16,[]),(17,[]),(18,[]),(19,[])] ?_;refine hU ?_;refine lr ?_;refine Xo ?_;refine cP (i:=13) (hq:=(oT (m:=x.a) (n:=1) rf rf (by omega))) (h:=?_);refine cO (h:=λ x37=>?_);((refine dC (i:=8) (hq:=(bF.eX (tA (l:=x.got) (m:=x.got.length) rf rf .head rfl fin m9 gO (by omega)) xN)) (h:=λ x38=>?_);try (refine fL (λ h38=>?_))));refine J4 ?_;refine lE (i:=16) (hq:=(by exact gK λ _=>eW rf cR wn rf gA rf rf jC)) (h:=λ _=>?_);refine J4 ?_;refine lE (i:=19) (hq:=(by exact gK λ _=>eW rf cR wn rf gA rf rf jC)) (h:=λ _=>?_);refine eO ?_;refine aR ?_;refine gM [0,1,2,3,4,5,6,7,8,9,10,11,12,13,14,15,16,17,18] ?_;refine hU ?_
   (refine bC ?_)
   refine mF ?_;refine bC ?_
   (refine bC ?_)
   refine J60 ?_;refine J30 ?_;((refine cP (i:=13) (hq:=(jI (m:=x.a+1) (n:=1) rf rf (by omega) (by omega))) (h:=?_)));((refine bT (i:=14) (hq:=(eD (m:=x.got.length+1) (k:=x.a+1-1) rf rf gO gA (.own .head) (by omega) (by rw[List.length_append,List.length_cons,List.length_nil];omega))) (h:=?_)));((refine bT (i:=15) (hq:=(fJ (q:=x.a+1-1) rf gA (.own .head) (by rw[List.length_append,List.length_cons,List.length_nil];omega))) (h:=?_)));refine J56 ?_;refine J7 ?_
   refine aN Tryz.results212 (λ w hw=>?_)
   rw[hv] at hw
   rw[show x.got.length+1=(x.got++[Qz x29]).length by simp] at hw
   exact⟨(x29,x38),by rw[show x.a+1-1=x.got.length by omega,sO,c29];rfl,h29,hw.aX⟩
  ·try (exact abt)
   have hv:(0:Int)=Qz x29:=by rw[c29];rfl
   refine aS ?_;refine eQ [(0,[]),(1,[]),(2,[]),(3,[]),(4,[]),(5,[]),(6,[]),(9,[]),(10,[]),(11,[]),(12,[]),(13,[]),(7,[5,12]),(8,[12]),(14,[]),(15,[]),(16,[]),(17,[]),(18,[]),(19,[])] ?_;refine hU ?_;refine lr ?_;refine Xo ?_;refine cP (i:=13) (hq:=(oT (m:=x.a) (n:=1) rf rf (by omega))) (h:=?_);refine cO (h:=λ x37=>?_);((refine dC (i:=8) (hq:=(bF.eX (tA (l:=x.got) (m:=x.got.length) rf rf .head rfl fin m9 gO (by omega)) xN)) (h:=λ x38=>?_);try (refine fL (λ h38=>?_))));refine J4 ?_;refine lE (i:=16) (hq:=(by exact gK λ _=>eW rf cR wn rf gA rf rf jC)) (h:=λ _=>?_);refine J4 ?_;refine lE (i:=19) (hq:=(by exact gK λ _=>eW rf cR wn rf gA rf rf jC)) (h:=λ _=>?_);refine eO ?_;refine aR ?_;refine gM [0,1,2,3,4,5,6,7,8,9,10,11,12,13,14,15,16,17,18] ?_;refine hU ?_
   (refine bC ?_)
   refine mF ?_;refine bC ?_
   (refine bC ?_)
   refine J60 ?_;refine J30 ?_;((refine cP (i:=13) (hq:=(jI (m:=x.a+1) (n:=1) rf rf (by omega) (by omega))) (h:=?_)));((refine bT (i:=14) (hq:=(eD (m:=x.got.length+1) (k:=x.a+1-1) rf rf gO gA (.own .head) (by omega) (by rw[List.length_append,List.length_cons,List.length_nil];omega))) (h:=?_)));((refine bT (i:=15) (hq:=(fJ (q:=x.a+1-1) rf gA (.own .head) (by rw[List.length_append,List.length_cons,List.length_nil];omega))) (h:=?_)));refine J56 ?_;refine J7 ?_
   refine aN Tryz.results212 (λ w hw=>?_)
   rw[hv] at hw
   rw[show x.got.length+1=(x.got++[Qz x29]).length by simp] at hw
   exact⟨(x29,x38),by rw[show x.a+1-1=x.got.length by omega,sO,c29];rfl,h29,hw.aX⟩
 ·exact nv c21
end
end
section
section
variable{k:Cl}{bx bm:Nat}{x:XS}{dn:Bool}{rs:Rs}{D:List Nat}{A:Fr}{w:World}
theorem fK(r:Int)(hr:r<=9223372036854775807)(ok:x.Ok)(hs:SF w D (xH k bx bm x dn rs) A [] (xW x) w):Calls prog 211 #[.pointer (some ⟨bx,0,none⟩),.int .i64 r] w λ e w'=>∃q:Unit,e=.returned (aD x.L r).nd.v/\True/\SF w D (xH k bx bm x dn rs) [] [] (xW x) w':=by
 have hl:=ok.lL
 refine enter Tryz.func211 Tryz.ntmps211 rfl rfl (cH hs) ?_
 simp only[cE]
 refine J0 ?_;refine aJ (λ x4=>?_);refine aG ?_;refine lQ ?_;refine aA ?_;refine aC (cM (hc:=λ w hs=>q9 (L:=x.L) (cs:=x.cs) hs r hr (by omega))) (λ x10 h10=>?_);refine J5 ?_
 refine bB Tryz.results211 (λ w hw=>?_)
 exact⟨(),rfl,trivial,hw.aX⟩
theorem bf{n:Nd}(i:Int)(h:x.st=true)(hs:SF w D (xH k bx bm x dn rs) A [] (xW x) w):Calls prog 215 #[.pointer (some ⟨bx,0,none⟩),n.v,.int .i64 i] w λ e w'=>∃q:Unit,e=.returned (.int .i64 0)/\True/\SF w D (xH k bx bm x dn rs) [] [] (xW x) w':=by
 refine enter Tryz.func215 Tryz.ntmps215 rfl rfl (cH hs) ?_
 simp only[cE]
 simp only[Nd.v]
 refine J0 ?_;refine bN (λ x4=>?_);refine iW ?_;refine Kc0 ?_
 refine bE (λ c10=>?_) (λ c10=>?_)
 ·refine cZ ?_
  refine aN Tryz.results215 (λ w hw=>?_)
  exact⟨(),rfl,trivial,hw.aX⟩
 ·exact absurd (h.symm.trans c10) (by decide)
theorem alloc_old{n:Nd}(i:Int)(ok:x.Ok)(h:x.st=false)(h1:x.m<x.made.length)(hl:x.made.length<=274877906944)(hs:SF w D (xH k bx bm x dn rs) A [] (xW x) w):Calls prog 215 #[.pointer (some ⟨bx,0,none⟩),n.v,.int .i64 i] w λ e w'=>∃q:Unit,e=.returned (.int .i64 (x.made.getD x.m 0))/\True/\SF w D (xH k bx bm {x with m:=x.m+1} dn rs) [] [] (xW {x with m:=x.m+1}) w':=by
 refine enter Tryz.func215 Tryz.ntmps215 rfl rfl (cH hs) ?_
 simp only[cE]
 simp only[Nd.v]
 refine J0 ?_;refine bN (λ x4=>?_);refine iW ?_;refine Kc0 ?_
 refine bE (λ c10=>?_) (λ c10=>?_)
 ·try (exfalso;omega)
  exact absurd (h.symm.trans c10) (by decide)
 ·try (exfalso;omega)
  refine lW ?_;refine aR ?_;refine gM [0,1,2,3,4,5,6,7,8,9] ?_;refine Dt ?_;refine nW ?_;refine oC ?_;refine eO ?_
  refine bE (λ c20=>?_) (λ c20=>?_)
  ·try (exfalso;omega)
  ·try (exfalso;omega)
   refine vx ?_;refine aB (oT (m:=x.m) (n:=1) rf rf (by omega)) rfl ?_;refine Mi ?_;refine cB (by exact gK λ _=>eW rf cR wn rf gA rf rf jC) (λ _=>?_);refine S3 ?_;refine gM [0,1,2,3,4,5,6,7,8,9,10,11] ?_;refine Dt ?_;refine cP (i:=8) (hq:=(jI (m:=x.m+1) (n:=1) rf rf (by omega) (by omega))) (h:=?_);refine bT (i:=9) (hq:=(eD (m:=x.made.length) (k:=x.m+1-1) (lst:=x.made) rf rf gO gA (.own (.tail .head)) (by omega) (by omega))) (h:=?_);refine bT (i:=10) (hq:=(fJ (q:=x.m+1-1) (lst:=x.made) rf gA (.own (.tail .head)) (by omega))) (h:=?_);refine J7 ?_
   refine aN Tryz.results215 (λ w hw=>?_)
   exact⟨(),by rw[Nat.add_sub_cancel];rfl,trivial,hw.aX⟩
theorem W4{n:Nd}{xs:List Int}{ys:List Pr}(i:Int)(ok:x.Ok)(h:x.st=false)(h1:x.m=x.made.length)(hl:x.made.length<=137438953472)(hLl:x.L.length<=274877906900)(hcl:x.cs.length<=274877906900)(e1:n.brN=xs.length)(e2:n.prN=ys.length)(hx:xs.length<=274877906944)(hy:ys.length<=274877906944)(hs:SF w D (xH k bx bm x dn rs) [(n.brA,aH xs),(n.prA,dE ys)] [] (xW x) w):Calls prog 215 #[.pointer (some ⟨bx,0,none⟩),n.v,.int .i64 i] w λ e w'=>∃q:AX×(Option Addr×Nat),e=.returned (.int .i64 ((x.L.length+1:Nat):Int))/\True /\
   SF w D (xH k bx bm {x with L:=x.L++[kZ n xs ys x.cs.length q.1],cs:=eU n.kind x.cs i,pn:=q.1.pn,cn:=q.1.cn,pc:=q.1.pc,cc:=q.1.cc,made:=x.made++[((x.L.length+1:Nat):Int)],pm:=q.2.1,km:=q.2.2,m:=x.m+1} dn rs) [] (kZ n xs ys x.cs.length q.1).fr (xW {x with L:=x.L++[kZ n xs ys x.cs.length q.1],cs:=eU n.kind x.cs i,pn:=q.1.pn,cn:=q.1.cn,pc:=q.1.pc,cc:=q.1.cc,made:=x.made++[((x.L.length+1:Nat):Int)],pm:=q.2.1,km:=q.2.2,m:=x.m+1}) w':=by
 refine enter Tryz.func215 Tryz.ntmps215 rfl rfl (cH hs) ?_
 simp only[cE]
 simp only[Nd.v]
 refine J0 ?_;refine bN (λ x4=>?_);refine iW ?_;refine Kc0 ?_
 refine bE (λ c10=>?_) (λ c10=>?_)
 ·try (exfalso;omega)
  exact absurd (h.symm.trans c10) (by decide)
 ·try (exfalso;omega)
  refine lW ?_;refine aR ?_;refine gM [0,1,2,3,4,5,6,7,8,9] ?_;refine Dt ?_;refine nW ?_;refine oC ?_;refine eO ?_
  refine bE (λ c20=>?_) (λ c20=>?_)
  ·try (exfalso;omega)
   refine eQ [(0,[]),(1,[]),(2,[]),(3,[]),(4,[]),(5,[]),(6,[]),(7,[]),(8,[]),(9,[]),(10,[]),(11,[4]),(12,[4]),(13,[]),(14,[]),(15,[]),(16,[])] ?_;refine bC ?_;refine Dt ?_;refine bX ?_;refine bC ?_;refine bG (i:=11) (hq:=(cM (A0:=[(n.brA,aH xs),(n.prA,dE ys)]) (hc:=λ w hs=>Gk (n:=n) (L:=x.L) (cs:=x.cs) i hs e1 e2 hx hy (by omega) (by omega)))) (h:=λ x32 h32=>?_);refine cO (h:=λ x33=>?_);((refine dC (i:=13) (hq:=(bF.eX (tA (l:=x.made) (m:=x.made.length) rf rf (.tail .head) rfl fin m9 gO (by omega)) xN)) (h:=λ x34=>?_);try (refine fL (λ h34=>?_))));refine J4 ?_;refine lE (i:=16) (hq:=(by exact gK λ _=>eW rf cR wn rf gA rf rf jC)) (h:=λ _=>?_);refine eO ?_;refine lQ ?_;refine aB (oT (m:=x.m) (n:=1) rf rf (by omega)) rfl ?_;refine Mi ?_;refine cB (by exact gK λ _=>eW rf cR wn rf gA rf rf jC) (λ _=>?_);refine S3 ?_;refine gM [0,1,2,3,4,5,6,7,8,9,10,11] ?_;refine Dt ?_;refine cP (i:=8) (hq:=(jI (m:=x.m+1) (n:=1) rf rf (by omega) (by omega))) (h:=?_);refine bT (i:=9) (hq:=(eD (m:=x.made.length+1) (k:=x.m+1-1) rf rf gO gA (.own (.tail .head)) (by omega) (by rw[List.length_append,List.length_cons,List.length_nil];omega))) (h:=?_);refine bT (i:=10) (hq:=(fJ (q:=x.m+1-1) rf gA (.own (.tail .head)) (by rw[List.length_append,List.length_cons,List.length_nil];omega))) (h:=?_);refine J7 ?_
   refine aN Tryz.results215 (λ w hw=>?_)
   rw[show x.made.length+1=(x.made++[((x.L.length+1:Nat):Int)]).length by simp] at hw
   exact⟨(x32,x34),by rw[show x.m+1-1=x.made.length by omega,sO];rfl,trivial,hw.ret (List.Sublist.cons _ (List.Sublist.refl _)) (aV.kN λ f hf=>List.mem_cons_of_mem _ (List.mem_append_left _ hf)) (List.Sublist.refl _)⟩
  ·try (exfalso;omega)
end
end
section
theorem Qe:dD prog 27=some (.int .i64 0):=by kernel_rfl
theorem Ga:dS prog 151 27 [.int .i64 0]:=lZ (by kernel_rfl) Qe rfl
section
variable{k:Cl}{bx bm:Nat}{x:XS}{dn:Bool}{rs:Rs}{D:List Nat}{A:Fr}{w:World}
theorem qk(i:Int)(h:x.st=true)(hs:SF w D (xH k bx bm x dn rs) A [] (xW x) w):Calls prog 228 #[.pointer (some ⟨bx,0,none⟩),.int .i64 i] w λ e w'=>∃q:Unit,e=.returned (.int .i64 0)/\True/\SF w D (xH k bx bm x dn rs) [] [] (xW x) w':=by
 refine enter Tryz.func228 Tryz.ntmps228 rfl rfl (cH hs) ?_
 simp only[cE]
 refine Er ?_;refine Kc0 ?_
 refine bE (λ c8=>?_) (λ c8=>?_)
 ·refine cZ ?_
  refine aN Tryz.results228 (λ w hw=>?_)
  exact⟨(),rfl,trivial,hw.aX⟩
 ·exact absurd (h.symm.trans c8) (by decide)
theorem G7(i:Int)(h:x.st=false)(h1:x.c<x.cel.length)(hl:x.cel.length<=274877906944)(hs:SF w D (xH k bx bm x dn rs) A [] (xW x) w):Calls prog 228 #[.pointer (some ⟨bx,0,none⟩),.int .i64 i] w λ e w'=>∃q:Unit,e=.returned (.int .i64 (x.cel.getD x.c 0))/\True/\SF w D (xH k bx bm {x with c:=x.c+1} dn rs) [] [] (xW {x with c:=x.c+1}) w':=by
 refine enter Tryz.func228 Tryz.ntmps228 rfl rfl (cH hs) ?_
 simp only[cE]
 refine Er ?_;refine Kc0 ?_
 refine bE (λ c8=>?_) (λ c8=>?_)
 ·try (exfalso;omega)
  exact absurd (h.symm.trans c8) (by decide)
 ·try (exfalso;omega)
  refine lW ?_;refine aR ?_;refine gM [0,1,2,3,4,5,6,7,8,9] ?_;refine Dt ?_;refine nW ?_;refine oC ?_;refine eO ?_
  refine bE (λ c18=>?_) (λ c18=>?_)
  ·try (exfalso;omega)
  ·try (exfalso;omega)
   refine vx ?_;refine aB (oT (m:=x.c) (n:=1) rf rf (by omega)) rfl ?_;refine Mi ?_;refine cB (by exact gK λ _=>eW rf cR wn rf gA rf rf jC) (λ _=>?_);refine S3 ?_;refine gM [0,1,2,3,4,5,6,7,8,9,10,11] ?_;refine Dt ?_;refine cP (i:=8) (hq:=(jI (m:=x.c+1) (n:=1) rf rf (by omega) (by omega))) (h:=?_);refine bT (i:=9) (hq:=(eD (m:=x.cel.length) (k:=x.c+1-1) (lst:=x.cel) rf rf gO gA (.own (.tail (.tail .head))) (by omega) (by omega))) (h:=?_);refine bT (i:=10) (hq:=(fJ (q:=x.c+1-1) (lst:=x.cel) rf gA (.own (.tail (.tail .head))) (by omega))) (h:=?_);refine J7 ?_
   refine aN Tryz.results228 (λ w hw=>?_)
   exact⟨(),by rw[Nat.add_sub_cancel];rfl,trivial,hw.aX⟩
theorem ck(i:Int)(h:x.st=false)(h1:x.c=x.cel.length)(hl:x.cel.length<=137438953472)(hcl:x.cs.length<=274877906900)(hs:SF w D (xH k bx bm x dn rs) A [] (xW x) w):Calls prog 228 #[.pointer (some ⟨bx,0,none⟩),.int .i64 i] w λ e w'=>∃q:(Option Addr×Nat)×(Option Addr×Nat),e=.returned (.int .i64 ((x.cs.length+1:Nat):Int))/\True /\
   SF w D (xH k bx bm {x with cs:=x.cs++[i],pc:=q.1.1,cc:=q.1.2,cel:=x.cel++[((x.cs.length+1:Nat):Int)],pl:=q.2.1,kl:=q.2.2,c:=x.c+1} dn rs) [] [] (xW {x with cs:=x.cs++[i],pc:=q.1.1,cc:=q.1.2,cel:=x.cel++[((x.cs.length+1:Nat):Int)],pl:=q.2.1,kl:=q.2.2,c:=x.c+1}) w':=by
 refine enter Tryz.func228 Tryz.ntmps228 rfl rfl (cH hs) ?_
 simp only[cE]
 refine Er ?_;refine Kc0 ?_
 refine bE (λ c8=>?_) (λ c8=>?_)
 ·try (exfalso;omega)
  exact absurd (h.symm.trans c8) (by decide)
 ·try (exfalso;omega)
  refine lW ?_;refine aR ?_;refine gM [0,1,2,3,4,5,6,7,8,9] ?_;refine Dt ?_;refine nW ?_;refine oC ?_;refine eO ?_
  refine bE (λ c18=>?_) (λ c18=>?_)
  ·try (exfalso;omega)
   refine eQ [(0,[]),(1,[]),(2,[]),(3,[]),(4,[]),(5,[]),(6,[]),(7,[]),(8,[]),(9,[]),(10,[4]),(11,[4]),(12,[]),(13,[]),(14,[]),(15,[])] ?_;refine bC ?_;refine Dt ?_;refine bC ?_;refine bG (i:=10) (hq:=(cM (hc:=λ w hs=>lJ (L:=x.L) (cs:=x.cs) i hs (by omega)))) (h:=λ x29 h29=>?_);refine dC (i:=11) (hq:=((by exact F2 (λ _=>cL (cs:=aH [((x.cs.length+1:Nat):Int)]) Ga Ii rfl rfl rfl rfl rfl)))) (h:=λ x30=>?_);((refine dC (i:=12) (hq:=(bF.eX (tA (l:=x.cel) (m:=x.cel.length) rf rf (.tail (.tail .head)) rfl fin (by exact Ga) gO (by omega)) xN)) (h:=λ x31=>?_);try (refine fL (λ h31=>?_))));refine J4 ?_;refine lE (i:=15) (hq:=(by exact gK λ _=>eW rf cR wn rf gA rf rf jC)) (h:=λ _=>?_);refine eO ?_;refine lQ ?_;refine aB (oT (m:=x.c) (n:=1) rf rf (by omega)) rfl ?_;refine Mi ?_;refine cB (by exact gK λ _=>eW rf cR wn rf gA rf rf jC) (λ _=>?_);refine S3 ?_;refine gM [0,1,2,3,4,5,6,7,8,9,10,11] ?_;refine Dt ?_;refine cP (i:=8) (hq:=(jI (m:=x.c+1) (n:=1) rf rf (by omega) (by omega))) (h:=?_);refine bT (i:=9) (hq:=(eD (m:=x.cel.length+1) (k:=x.c+1-1) rf rf gO gA (.own (.tail (.tail .head))) (by omega) (by rw[List.length_append,List.length_cons,List.length_nil];omega))) (h:=?_);refine bT (i:=10) (hq:=(fJ (q:=x.c+1-1) rf gA (.own (.tail (.tail .head))) (by rw[List.length_append,List.length_cons,List.length_nil];omega))) (h:=?_);refine J7 ?_
   refine aN Tryz.results228 (λ w hw=>?_)
   rw[show x.cel.length+1=(x.cel++[((x.cs.length+1:Nat):Int)]).length by simp] at hw
   exact⟨(x29,x31),by rw[show x.c+1-1=x.cel.length by omega,sO];rfl,trivial,hw.aX⟩
  ·try (exfalso;omega)
theorem aAA(h:x.st=true)(hs:SF w D (xH k bx bm x dn rs) A [] (xW x) w):Calls prog 230 #[.pointer (some ⟨bx,0,none⟩)] w λ e w'=>∃q:Unit,e=.returned (.int .i64 0)/\True/\SF w D (xH k bx bm x dn rs) [] [] (xW x) w':=by
 refine enter Tryz.func230 Tryz.ntmps230 rfl rfl (cH hs) ?_
 simp only[cE]
 refine Er ?_;refine Kc0 ?_
 refine bE (λ c6=>?_) (λ c6=>?_)
 ·refine cZ ?_
  refine aN Tryz.results230 (λ w hw=>?_)
  exact⟨(),rfl,trivial,hw.aX⟩
 ·exact absurd (h.symm.trans c6) (by decide)
theorem Ll(h:x.st=false)(h1:x.g<x.gns.length)(hl:x.gns.length<=274877906944)(hs:SF w D (xH k bx bm x dn rs) A [] (xW x) w):Calls prog 230 #[.pointer (some ⟨bx,0,none⟩)] w λ e w'=>∃q:Unit,e=.returned (.int .i64 (x.gns.getD x.g 0))/\True/\SF w D (xH k bx bm {x with g:=x.g+1} dn rs) [] [] (xW {x with g:=x.g+1}) w':=by
 refine enter Tryz.func230 Tryz.ntmps230 rfl rfl (cH hs) ?_
 simp only[cE]
 refine Er ?_;refine Kc0 ?_
 refine bE (λ c6=>?_) (λ c6=>?_)
 ·try (exfalso;omega)
  exact absurd (h.symm.trans c6) (by decide)
 ·try (exfalso;omega)
  refine lW ?_;refine aR ?_;refine gM [0,1,2,3,4,5,6,7,8,9] ?_;refine Dt ?_;refine nW ?_;refine oC ?_;refine eO ?_
  refine bE (λ c16=>?_) (λ c16=>?_)
  ·try (exfalso;omega)
  ·try (exfalso;omega)
   refine vx ?_;refine aB (oT (m:=x.g) (n:=1) rf rf (by omega)) rfl ?_;refine Mi ?_;refine cB (by exact gK λ _=>eW rf cR wn rf gA rf rf jC) (λ _=>?_);refine S3 ?_;refine gM [0,1,2,3,4,5,6,7,8,9,10,11] ?_;refine Dt ?_;refine cP (i:=8) (hq:=(jI (m:=x.g+1) (n:=1) rf rf (by omega) (by omega))) (h:=?_);refine bT (i:=9) (hq:=(eD (m:=x.gns.length) (k:=x.g+1-1) (lst:=x.gns) rf rf gO gA (.own (.tail (.tail (.tail .head)))) (by omega) (by omega))) (h:=?_);refine bT (i:=10) (hq:=(fJ (q:=x.g+1-1) (lst:=x.gns) rf gA (.own (.tail (.tail (.tail .head)))) (by omega))) (h:=?_);refine J7 ?_
   refine aN Tryz.results230 (λ w hw=>?_)
   exact⟨(),by rw[Nat.add_sub_cancel];rfl,trivial,hw.aX⟩
theorem p9(h:x.st=false)(h1:x.g=x.gns.length)(hl:x.gns.length<=137438953472)(hgn : -1<=x.gen/\x.gen<=137438953600)(hs:SF w D (xH k bx bm x dn rs) A [] (xW x) w):Calls prog 230 #[.pointer (some ⟨bx,0,none⟩)] w λ e w'=>∃q:Option Addr×Nat,e=.returned (.int .i64 (x.gen+1))/\True /\
   SF w D (xH k bx bm {x with gen:=x.gen+1,gns:=x.gns++[x.gen+1],pe:=q.1,ke:=q.2,g:=x.g+1} dn rs) [] [] (xW {x with gen:=x.gen+1,gns:=x.gns++[x.gen+1],pe:=q.1,ke:=q.2,g:=x.g+1}) w':=by
 have hup:up x.gen=x.gen+1:=wrap_i64 (by omega) (by omega)
 refine enter Tryz.func230 Tryz.ntmps230 rfl rfl (cH hs) ?_
 simp only[cE]
 refine Er ?_;refine Kc0 ?_
 refine bE (λ c6=>?_) (λ c6=>?_)
 ·try (exfalso;omega)
  exact absurd (h.symm.trans c6) (by decide)
 ·try (exfalso;omega)
  refine lW ?_;refine aR ?_;refine gM [0,1,2,3,4,5,6,7,8,9] ?_;refine Dt ?_;refine nW ?_;refine oC ?_;refine eO ?_
  refine bE (λ c16=>?_) (λ c16=>?_)
  ·try (exfalso;omega)
   refine eQ [(0,[]),(1,[]),(2,[]),(3,[]),(4,[]),(5,[]),(6,[]),(7,[]),(8,[]),(9,[4]),(10,[4]),(11,[]),(12,[]),(13,[]),(14,[])] ?_;refine bC ?_;refine Dt ?_;refine bG (i:=9) (hq:=(cM (hc:=λ w hs=>Jq (L:=x.L) (cs:=x.cs) (gen:=x.gen) hs))) (h:=λ x26 h26=>?_);refine cO (h:=λ x27=>?_);((refine dC (i:=11) (hq:=(bF.eX (tA (l:=x.gns) (m:=x.gns.length) rf rf (.tail (.tail (.tail .head))) rfl fin (by exact Ft) gO (by omega)) xN)) (h:=λ x28=>?_);try (refine fL (λ h28=>?_))));refine J4 ?_;refine lE (i:=14) (hq:=(by exact gK λ _=>eW rf cR wn rf gA rf rf jC)) (h:=λ _=>?_);refine eO ?_;refine lQ ?_;refine aB (oT (m:=x.g) (n:=1) rf rf (by omega)) rfl ?_;refine Mi ?_;refine cB (by exact gK λ _=>eW rf cR wn rf gA rf rf jC) (λ _=>?_);refine S3 ?_;refine gM [0,1,2,3,4,5,6,7,8,9,10,11] ?_;refine Dt ?_;refine cP (i:=8) (hq:=(jI (m:=x.g+1) (n:=1) rf rf (by omega) (by omega))) (h:=?_);refine bT (i:=9) (hq:=(eD (m:=x.gns.length+1) (k:=x.g+1-1) rf rf gO gA (.own (.tail (.tail (.tail .head)))) (by omega) (by rw[List.length_append,List.length_cons,List.length_nil];omega))) (h:=?_);refine bT (i:=10) (hq:=(fJ (q:=x.g+1-1) rf gA (.own (.tail (.tail (.tail .head)))) (by rw[List.length_append,List.length_cons,List.length_nil];omega))) (h:=?_);refine J7 ?_
   refine aN Tryz.results230 (λ w hw=>?_)
   rw[hup,show x.gns.length+1=(x.gns++[x.gen+1]).length by simp] at hw
   exact⟨x28,by rw[show x.g+1-1=x.gns.length by omega,sO,hup];rfl,trivial,hw.aX⟩
  ·try (exfalso;omega)
end
end
end Go.Proofs.YtbajmaoegmbfgaaGreat
namespace Go.Ct
open Go Go.RowKit
section
section
variable{g:Gx}{x:XS}{N:List aU}
theorem XS.Ok.uy(h:x.Ok){y:XS}(e1:y.L=x.L)(e2:y.cs=x.cs)(e3:y.got=x.got)(e4:y.made=x.made)(e5:y.cel=x.cel)(e6:y.gns=x.gns)(ha:y.a<=x.got.length)(hm:y.m<=x.made.length)(hc:y.c<=x.cel.length)(hg:y.g<=x.gns.length)(hf:y.fr<=1)(e7:y.gen=x.gen:=by rfl):y.Ok :=
 ⟨by rw[e1];exact h.fit,by rw[e1,e2];exact h.nd,by rw[e1,e2];exact h.cs,by rw[e1,e3];exact h.got,by rw[e1,e4];exact h.made,by rw[e1];exact h.two,by rw[e1];exact h.lL,by rw[e2];exact h.lc,by rw[e3];exact h.lg,by rw[e3];exact ha,by rw[e4];exact hm,by rw[e5];exact hc,by rw[e6];exact hg,hf,by rw[e1];exact h.ys,by rw[e7];exact h.gen0,by rw[e4];exact h.ms,by rw[e4];exact h.m1⟩
theorem Nx.st{t:Tr}(hs:x.st=true)(go:fS g x t)(ok:x.Ok){t':Tr}:Nx g x x [] t' 0:=⟨go.bV hs,ok,by simp,Nat.le_refl _,bH _⟩
theorem Nx.cK{x':XS}{t t':Tr}{b b':Int}(h:Nx g x x' N t b)(go:fS g x' t')(hb:b'<=x'.L.length):Nx g x x' N t' b':=⟨go,h.ok,h.ext,h.lc,hb⟩
theorem Nx.len{x':XS}{t:Tr}{b:Int}(h:Nx g x x' N t b):x.L.length<=x'.L.length:=by rw[h.ext,List.length_append];omega
theorem Nx.trans{x1 x2:XS}{N1 N2:List aU}{t1 t2:Tr}{b1 b2:Int}(h1:Nx g x x1 N1 t1 b1)(h2:Nx g x1 x2 N2 t2 b2):Nx g x x2 (N1++N2) t2 b2:=⟨h2.go,h2.ok,by rw[h2.ext,h1.ext,List.append_assoc],Nat.le_trans h1.lc h2.lc,h2.bd⟩
theorem Nx.ext'{x':XS}{t t':Tr}{b b':Int}(h:Nx g x x' (N++[]) t b)(go:fS g x' t')(hb:b'<=x'.L.length):Nx g x x' N t' b':=⟨go,h.ok,by have:=h.ext;rwa [List.append_nil] at this,h.lc,hb⟩
theorem Nx.start{t:Tr}(go:fS g x t)(ok:x.Ok):Nx g x x [] t 0:=⟨go,ok,by simp,Nat.le_refl _,bH _⟩
end
end
end Go.Ct
namespace Go.Proofs.YtbajmaoegmbfgaaGreat
open Go Go.RowKit Go.Ct
section
section
variable{k:Cl}{bx bm:Nat}{x:XS}{dn:Bool}{rs:Rs}{D:List Nat}{A:Fr}{w:World}{g:Gx}
theorem qC(hg:g.Ok)(c:Int)(K:Int->Tr)(hc:c<=9223372036854775807)(go:fS g x (.load c K))(ok:x.Ok)(hs:SF w D (xH k bx bm x dn rs) A [] (xW x) w):Calls Tryz.prog 210 #[.pointer (some ⟨bx,0,none⟩),.int .i64 c] w λ e w'=>∃q:Int×XS,e=.returned (.int .i64 q.1)/\Nx g x q.2 [] (K q.1) q.1/\SF w D (xH k bx bm q.2 dn rs) [] [] (xW q.2) w':=by
 cases hst:x.st with
 | true=>exact(pw c ok hst hs).mono λ e w' ⟨_,q1,_,q3⟩=>⟨(0,x),q1,Nx.st hst go ok,q3⟩
 | false =>
  have hgd:=go.run hst
  by_cases h1:x.a<x.got.length
  ·refine(Hs c ok hst h1 hs).mono λ e w' ⟨_,q1,_,q3⟩=>⟨(x.got.getD x.a 0,{x with a:=x.a+1}),q1,?_,q3⟩
   exact⟨.inl ⟨hst,hgd.Hs h1⟩,ok.uy rfl rfl rfl rfl rfl rfl h1 ok.lm ok.lk ok.le ok.fr,by simp,Nat.le_refl _,mC ok.got _⟩
  ·have hat:=hgd.sk h1
   by_cases h2:x.fr=0
   ·refine(ql c ok hst h1 h2 hs).mono λ e w' ⟨_,q1,_,q3⟩=>⟨(0,{x with st:=true,nx:=⟨1,c,0,0⟩}),q1,?_,q3⟩
    have hgo:fS g {x with st:=true,nx:=⟨1,c,0,0⟩} (.load c K):=hat.stop h2 rfl rfl rfl rfl rfl rfl rfl rfl rfl
    exact⟨hgo.bV rfl,ok.uy rfl rfl rfl rfl rfl rfl ok.la ok.lm ok.lk ok.le ok.fr,by simp,Nat.le_refl _,bH _⟩
   ·refine(Y1 c hc ok hst h1 h2 hs).mono λ e w' ⟨q,q1,_,q3⟩=>⟨(aY x.cs c,{x with fr:=x.fr-1,acc:=up x.acc,got:=x.got++[aY x.cs c],pg:=q.1,kg:=q.2,a:=x.a+1}),q1,?_,q3⟩
    have hN:=hat.hN
    have hgN:=hg.hN
    have hgo:fS g {x with fr:=x.fr-1,acc:=up x.acc,got:=x.got++[aY x.cs c],pg:=q.1,kg:=q.2,a:=x.a+1} (K (aY x.cs c)):=hat.now (by omega) (λ L=>Wk.u7 _) (.load c K x.mm) hst rfl rfl rfl rfl rfl rfl rfl rfl rfl rfl
    refine⟨hgo,⟨ok.fit,ok.nd,ok.cs,λ v hv=>?_,ok.made,ok.two,ok.lL,ok.lc,?_,?_,ok.lm,ok.lk,ok.le,?_,ok.ys,ok.gen0,ok.ms,ok.m1⟩,by simp,Nat.le_refl _,ok.cell c⟩
    ·rcases List.mem_append.1 hv with hv|hv
     ·exact ok.got v hv
     ·rw[List.mem_singleton.1 hv];exact ok.cell c
    ·show(x.got++[aY x.cs c]).length<=_
     rw[List.length_append,List.length_cons,List.length_nil];omega
    ·show x.a+1<=(x.got++[aY x.cs c]).length
     have:=ok.la
     rw[List.length_append,List.length_cons,List.length_nil];omega
    ·show x.fr-1<=1
     have:=ok.fr;omega
theorem vU(hg:g.Ok)(c o n:Int)(K:Bool->Tr)(hc:c<=9223372036854775807)(hn:n<=x.L.length)(go:fS g x (.iQ c o n K))(ok:x.Ok)(hs:SF w D (xH k bx bm x dn rs) A [] (xW x) w):Calls Tryz.prog 212 #[.pointer (some ⟨bx,0,none⟩),.int .i64 c,.int .i64 o,.int .i64 n] w λ e w'=>∃q:Bool×XS,e=.returned (.bool q.1)/\Nx g x q.2 [] (K q.1) 0/\SF w D (xH k bx bm q.2 dn rs) [] [] (xW q.2) w':=by
 cases hst:x.st with
 | true=>exact(yb c o n ok hst hs).mono λ e w' ⟨_,q1,_,q3⟩=>⟨(false,x),q1,Nx.st hst go ok,q3⟩
 | false =>
  have hgd:=go.run hst
  by_cases h1:x.a<x.got.length
  ·refine(Mc c o n ok hst h1 hs).mono λ e w' ⟨_,q1,_,q3⟩=>⟨(x.got.getD x.a 0==1,{x with a:=x.a+1}),q1,?_,q3⟩
   exact⟨.inl ⟨hst,hgd.Mc h1⟩,ok.uy rfl rfl rfl rfl rfl rfl h1 ok.lm ok.lk ok.le ok.fr,by simp,Nat.le_refl _,bH _⟩
  ·have hat:=hgd.xx h1
   by_cases h2:x.fr=0
   ·refine(zo c o n ok hst h1 h2 hs).mono λ e w' ⟨_,q1,_,q3⟩=>⟨(false,{x with st:=true,nx:=⟨2,c,o,n⟩}),q1,?_,q3⟩
    have hgo:fS g {x with st:=true,nx:=⟨2,c,o,n⟩} (.iQ c o n K):=hat.stop h2 rfl rfl rfl rfl rfl rfl rfl rfl rfl
    exact⟨hgo.bV rfl,ok.uy rfl rfl rfl rfl rfl rfl ok.la ok.lm ok.lk ok.le ok.fr,by simp,Nat.le_refl _,bH _⟩
   ·refine(sg c o n hc ok hst h1 h2 hs).mono λ e w' ⟨q,q1,hb,q3⟩=>⟨(q.1,{x with fr:=x.fr-1,cs:=eC x.cs c o n,acc:=up x.acc,got:=x.got++[Qz q.1],pg:=q.2.1,kg:=q.2.2,a:=x.a+1}),q1,?_,q3⟩
    have hN:=hat.hN
    have hgN:=hg.hN
    have hb1:(Qz q.1==1)=q.1:=by cases q.1<;>rfl
    have hb2:Qz q.1<=x.L.length:=by have:=ok.two;cases q.1<;>simp only[Qz]<;>(omega)
    have hlc:=eZ (cs:=x.cs) (c:=c) (bA:=o) (new:=n)
    have hgo:fS g {x with fr:=x.fr-1,cs:=eC x.cs c o n,acc:=up x.acc,got:=x.got++[Qz q.1],pg:=q.2.1,kg:=q.2.2,a:=x.a+1} (K q.1):=hat.now (v:=Qz q.1) (by omega) (λ L=>by have:=Wk.aBe (L:=L) (c:=c) (o:=o) (n:=n) (k:=K) (Qz q.1);rw[hb1] at this;exact this) (.iQ c o n K x.mm q.1 hb) hst rfl rfl rfl rfl rfl rfl rfl rfl rfl rfl
    refine⟨hgo,⟨ok.fit,λ v hv=>(ok.nd v hv).mono (Nat.le_refl _) (by show _<=(eC x.cs c o n).length;omega),λ v hv=>?_,λ v hv=>?_,ok.made,ok.two,ok.lL,by show(eC x.cs c o n).length<=_;rw[hlc];exact ok.lc,?_,?_,ok.lm,ok.lk,ok.le,?_,ok.ys,ok.gen0,ok.ms,ok.m1⟩,by simp,by show _<=(eC x.cs c o n).length;omega,bH _⟩
    ·have hv':v∈eC x.cs c o n:=hv
     unfold eC at hv'
     split at hv'
     ·rcases List.mem_or_eq_of_mem_set hv' with h|h
      ·exact ok.cs v h
      ·rw[h];exact hn
     ·exact ok.cs v hv'
    ·rcases List.mem_append.1 hv with hv|hv
     ·exact ok.got v hv
     ·rw[List.mem_singleton.1 hv];exact hb2
    ·show(x.got++[Qz q.1]).length<=_
     rw[List.length_append,List.length_cons,List.length_nil];omega
    ·show x.a+1<=(x.got++[Qz q.1]).length
     have:=ok.la
     rw[List.length_append,List.length_cons,List.length_nil];omega
    ·show x.fr-1<=1
     have:=ok.fr;omega
end
end
end Go.Proofs.YtbajmaoegmbfgaaGreat
