/- Merged. -/
import Derived.Test.YtbajmaoegmbfgaaGreatGRn1
import Derived.Test.YtbajmaoegmbfgaaGreatSp1
set_option linter.unusedSimpArgs false
set_option linter.unusedVariables false
namespace Go.Ct
section
def XS.kn(x:XS)(a:Ac):XS:=if x.st=true then x else if x.a<x.got.length then{x with a:=x.a+1} else if x.fr=0 then{x with st:=true,nx:=a} else{x with fr:=x.fr-1}
def XS.bJ(x:XS):Bool:=!x.st&&decide (x.a<x.got.length)
def XS.now(x:XS):Bool:=!x.st&&!decide (x.a<x.got.length)&&!decide (x.fr=0)
theorem XS.wq{x:XS}{a:Ac}(h:x.st=true):x.kn a=x/\x.bJ=false/\x.now=false:=⟨if_pos h,by simp[XS.bJ,h],by simp[XS.now,h]⟩
theorem XS.ee{x:XS}{a:Ac}(h:x.st=false)(h1:x.a<x.got.length):x.kn a={x with a:=x.a+1}/\x.bJ=true/\x.now=false:=⟨by unfold XS.kn;rw[if_neg (by rw[h];decide),if_pos h1],by simp[XS.bJ,h,h1],by simp[XS.now,h1]⟩
theorem XS.uz{x:XS}{a:Ac}(h:x.st=false)(h1:¬x.a<x.got.length)(h2:x.fr=0):x.kn a={x with st:=true,nx:=a}/\x.bJ=false/\x.now=false:=⟨by unfold XS.kn;rw[if_neg (by rw[h];decide),if_neg h1,if_pos h2],by simp[XS.bJ,h1],by simp[XS.now,h2]⟩
theorem XS.kw{x:XS}{a:Ac}(h:x.st=false)(h1:¬x.a<x.got.length)(h2:¬x.fr=0):x.kn a={x with fr:=x.fr-1}/\x.bJ=false/\x.now=true:=⟨by unfold XS.kn;rw[if_neg (by rw[h];decide),if_neg h1,if_neg h2],by simp[XS.bJ,h1],by simp[XS.now,h,h1,h2]⟩
end
end Go.Ct
namespace Go.Proofs.YtbajmaoegmbfgaaGreat
open Go.Proofs.Tryz (prog)
open Go Go.RowKit Go.Ct
section
section
variable{k:Cl}{bx bm:Nat}{x:XS}{dn:Bool}{rs:Rs}{D:List Nat}{A:Fr}{w:World}
theorem Em(a:Ac)(ok:x.Ok)(hs:SF w D (xH k bx bm x dn rs) A [] (xW x) w):Calls prog 240 #[.pointer (some ⟨bx,0,none⟩),.agg ⟨a.cells⟩] w λ e w'=>∃q:Unit,e=.returned (.tuple #[.bool x.bJ,.bool x.now])/\True/\SF w D (xH k bx bm (x.kn a) dn rs) [] [] (xW (x.kn a)) w':=by
 have h1:=ok.lg
 have h2:=ok.la
 have h3:=ok.fr
 refine enter Tryz.func240 Tryz.ntmps240 rfl rfl (aBi hs) ?_
 simp only[cC]
 refine J0 ?_;refine bM (λ x3=>?_);refine J8 ?_;refine aV ?_;refine Kc1 ?_
 refine bC (λ c9=>?_) (λ c9=>?_)
 ·refine N7 ?_
  refine bE Tryz.results240 (λ w hw=>?_)
  obtain⟨e1,e2,e3⟩:=XS.wq (a:=a) c9
  rw[e1,e2,e3]
  exact⟨(),rfl,trivial,hw.aX⟩
 ·refine kW ?_;refine aV ?_;refine gZ [0,1,2,3,4,5,6,7,8,9] ?_;refine Ee ?_;refine oI ?_;refine Dz ?_;refine eL ?_
  refine bC (λ c19=>?_) (λ c19=>?_)
  ·refine mD ?_;refine Ie ?_;refine Nz ?_;refine N7 ?_
   refine bE Tryz.results240 (λ w hw=>?_)
   obtain⟨e1,e2,e3⟩:=XS.ee (a:=a) c9 (by omega)
   rw[e1,e2,e3]
   exact⟨(),rfl,trivial,hw.aX⟩
  ·refine kW ?_;refine mD ?_;refine uI ?_
   refine bC (λ c31=>?_) (λ c31=>?_)
   ·refine aV ?_;refine eC [(0,[]),(1,[]),(2,[]),(3,[]),(4,[]),(5,[2]),(6,[]),(7,[]),(8,[])] ?_;refine iL ?_;refine bT ?_;refine J4 ?_;refine oC (h:=λ _=>?_);refine J4 ?_;refine kU (i:=8) (hq:=(jR λ _=>lU (off:=36) (vs:=a.cells) rf dC rf rfl eT (Nat.le_of_ble_eq_true rfl) rf lS)) (h:=λ _=>?_);refine eL ?_;refine N7 ?_
    refine bE Tryz.results240 (λ w hw=>?_)
    obtain⟨e1,e2,e3⟩:=XS.uz (a:=a) c9 (by omega) (by omega)
    rw[e1,e2,e3]
    exact⟨(),rfl,trivial,hw.aX⟩
   ·refine v9 ?_;refine rD ?_;refine Nz ?_;refine N7 ?_
    refine bE Tryz.results240 (λ w hw=>?_)
    obtain⟨e1,e2,e3⟩:=XS.kw (a:=a) c9 (by omega) (by omega)
    rw[e1,e2,e3]
    exact⟨(),rfl,trivial,hw.aX⟩
theorem Qf(a:Ac)(ok:x.Ok)(h:x.st=true)(hs:SF w D (xH k bx bm x dn rs) A [] (xW x) w):Calls prog 240 #[.pointer (some ⟨bx,0,none⟩),.agg ⟨a.cells⟩] w λ e w'=>∃q:Unit,e=.returned (.tuple #[.bool false,.bool false])/\True/\SF w D (xH k bx bm x dn rs) [] [] (xW x) w':=by
 obtain⟨e1,e2,e3⟩:=XS.wq (a:=a) h
 have:=Em (k:=k) (bx:=bx) (bm:=bm) (dn:=dn) (rs:=rs) (D:=D) (A:=A) (w:=w) a ok hs
 rw[e1,e2,e3] at this
 exact this
theorem K8(a:Ac)(ok:x.Ok)(h:x.st=false)(h1:x.a<x.got.length)(hs:SF w D (xH k bx bm x dn rs) A [] (xW x) w):Calls prog 240 #[.pointer (some ⟨bx,0,none⟩),.agg ⟨a.cells⟩] w λ e w'=>∃q:Unit,e=.returned (.tuple #[.bool true,.bool false])/\True/\SF w D (xH k bx bm {x with a:=x.a+1} dn rs) [] [] (xW {x with a:=x.a+1}) w':=by
 obtain⟨e1,e2,e3⟩:=XS.ee (a:=a) h h1
 have:=Em (k:=k) (bx:=bx) (bm:=bm) (dn:=dn) (rs:=rs) (D:=D) (A:=A) (w:=w) a ok hs
 rw[e1,e2,e3] at this
 exact this
theorem Pq(a:Ac)(ok:x.Ok)(h:x.st=false)(h1:¬x.a<x.got.length)(h2:x.fr=0)(hs:SF w D (xH k bx bm x dn rs) A [] (xW x) w):Calls prog 240 #[.pointer (some ⟨bx,0,none⟩),.agg ⟨a.cells⟩] w λ e w'=>∃q:Unit,e=.returned (.tuple #[.bool false,.bool false])/\True/\SF w D (xH k bx bm {x with st:=true,nx:=a} dn rs) [] [] (xW {x with st:=true,nx:=a}) w':=by
 obtain⟨e1,e2,e3⟩:=XS.uz (a:=a) h h1 h2
 have:=Em (k:=k) (bx:=bx) (bm:=bm) (dn:=dn) (rs:=rs) (D:=D) (A:=A) (w:=w) a ok hs
 rw[e1,e2,e3] at this
 exact this
theorem Ke(a:Ac)(ok:x.Ok)(h:x.st=false)(h1:¬x.a<x.got.length)(h2:¬x.fr=0)(hs:SF w D (xH k bx bm x dn rs) A [] (xW x) w):Calls prog 240 #[.pointer (some ⟨bx,0,none⟩),.agg ⟨a.cells⟩] w λ e w'=>∃q:Unit,e=.returned (.tuple #[.bool false,.bool true])/\True/\SF w D (xH k bx bm {x with fr:=x.fr-1} dn rs) [] [] (xW {x with fr:=x.fr-1}) w':=by
 obtain⟨e1,e2,e3⟩:=XS.kw (a:=a) h h1 h2
 have:=Em (k:=k) (bx:=bx) (bm:=bm) (dn:=dn) (rs:=rs) (D:=D) (A:=A) (w:=w) a ok hs
 rw[e1,e2,e3] at this
 exact this
theorem qh(c:Int)(ok:x.Ok)(h:x.st=true)(hs:SF w D (xH k bx bm x dn rs) A [] (xW x) w):Calls prog 210 #[.pointer (some ⟨bx,0,none⟩),.int .i64 c] w λ e w'=>∃q:Unit,e=.returned (.int .i64 0)/\True/\SF w D (xH k bx bm x dn rs) [] [] (xW x) w':=by
 refine enter Tryz.func210 Tryz.ntmps210 rfl rfl (cB hs) ?_
 simp only[cC]
 refine cX ?_;refine jG ?_;refine bN ?_;refine aD (cM (hs:=xH k bx bm x dn rs) (os:=xW x) (hc:=λ w hs=>Qf ⟨1,c,0,0⟩ ok h hs)) (λ x11 h11=>?_);refine Kb5 ?_;refine aH ?_
 refine bC (λ c14=>?_) (λ c14=>?_)
 ·exact nv c14
 ·try (exact abt)
  refine kW ?_;refine J2 ?_;refine Dg ?_
  (refine Ka3 ?_)
  refine Kc6 ?_
  refine bC (λ c43=>?_) (λ c43=>?_)
  ·try (exact abt)
   refine cX ?_
   refine aR Tryz.results210 (λ w hw=>?_)
   exact⟨(),rfl,trivial,hw.aX⟩
  ·exact nv c43
theorem rk(c:Int)(ok:x.Ok)(h:x.st=false)(h1:¬x.a<x.got.length)(h2:x.fr=0)(hs:SF w D (xH k bx bm x dn rs) A [] (xW x) w):Calls prog 210 #[.pointer (some ⟨bx,0,none⟩),.int .i64 c] w λ e w'=>∃q:Unit,e=.returned (.int .i64 0)/\True/\SF w D (xH k bx bm {x with st:=true,nx:=⟨1,c,0,0⟩} dn rs) [] [] (xW {x with st:=true,nx:=⟨1,c,0,0⟩}) w':=by
 refine enter Tryz.func210 Tryz.ntmps210 rfl rfl (cB hs) ?_
 simp only[cC]
 refine cX ?_;refine jG ?_;refine bN ?_;refine aD (cM (hs:=xH k bx bm x dn rs) (os:=xW x) (hc:=λ w hs=>Pq ⟨1,c,0,0⟩ ok h h1 h2 hs)) (λ x11 h11=>?_);refine Kb5 ?_;refine aH ?_
 refine bC (λ c14=>?_) (λ c14=>?_)
 ·exact nv c14
 ·try (exact abt)
  refine kW ?_;refine J2 ?_;refine Dg ?_
  (refine Ka3 ?_)
  refine Kc6 ?_
  refine bC (λ c43=>?_) (λ c43=>?_)
  ·try (exact abt)
   refine cX ?_
   refine aR Tryz.results210 (λ w hw=>?_)
   exact⟨(),rfl,trivial,hw.aX⟩
  ·exact nv c43
theorem Hb(c:Int)(ok:x.Ok)(h:x.st=false)(h1:x.a<x.got.length)(hs:SF w D (xH k bx bm x dn rs) A [] (xW x) w):Calls prog 210 #[.pointer (some ⟨bx,0,none⟩),.int .i64 c] w λ e w'=>∃q:Unit,e=.returned (.int .i64 (x.got.getD x.a 0))/\True/\SF w D (xH k bx bm {x with a:=x.a+1} dn rs) [] [] (xW {x with a:=x.a+1}) w':=by
 have hg:=ok.lg
 refine enter Tryz.func210 Tryz.ntmps210 rfl rfl (cB hs) ?_
 simp only[cC]
 refine cX ?_;refine jG ?_;refine bN ?_;refine aD (cM (hs:=xH k bx bm x dn rs) (os:=xW x) (hc:=λ w hs=>K8 ⟨1,c,0,0⟩ ok h h1 hs)) (λ x11 h11=>?_);refine Kb5 ?_;refine aH ?_
 refine bC (λ c14=>?_) (λ c14=>?_)
 ·exact nv c14
 ·try (exact abt)
  refine kW ?_;refine J2 ?_;refine Dg ?_
  refine aI ?_
  refine Kc6 ?_
  refine bC (λ c43=>?_) (λ c43=>?_)
  ·exact nv c43
  ·try (exact abt)
   refine kW ?_;refine gZ [0,1,2,3,4,5,6,7,8,9,10,11] ?_;refine Ee ?_;refine cJ (i:=8) (hq:=(jK (m:=x.a+1) (n:=1) rf rf (by omega) (by omega))) (h:=?_);refine bV (i:=9) (hq:=(dH (m:=x.got.length) (k:=x.a+1-1) (lst:=x.got) rf rf gE fW (.own .head) (by omega) (by omega))) (h:=?_);refine bV (i:=10) (hq:=(eX (q:=x.a+1-1) (lst:=x.got) rf fW (.own .head) (by omega))) (h:=?_);refine J7 ?_
   refine aR Tryz.results210 (λ w hw=>?_)
   exact⟨(),by rw[Nat.add_sub_cancel];rfl,trivial,hw.aX⟩
theorem jg(c:Int)(hc:c<=9223372036854775807)(ok:x.Ok)(h:x.st=false)(h1:¬x.a<x.got.length)(h2:¬x.fr=0)(hs:SF w D (xH k bx bm x dn rs) A [] (xW x) w):Calls prog 210 #[.pointer (some ⟨bx,0,none⟩),.int .i64 c] w λ e w'=>∃q:Option Addr×Nat,e=.returned (.int .i64 (aW x.cs c))/\True/\SF w D (xH k bx bm {x with fr:=x.fr-1,acc:=up x.acc,got:=x.got++[aW x.cs c],pg:=q.1,kg:=q.2,a:=x.a+1} dn rs) [] [] (xW {x with fr:=x.fr-1,acc:=up x.acc,got:=x.got++[aW x.cs c],pg:=q.1,kg:=q.2,a:=x.a+1}) w':=by
 have hg:=ok.lg
 have ha:=ok.la
 have hlc:=ok.lc
 refine enter Tryz.func210 Tryz.ntmps210 rfl rfl (cB hs) ?_
 simp only[cC]
 refine cX ?_;refine jG ?_;refine bN ?_;refine aD (cM (hs:=xH k bx bm x dn rs) (os:=xW x) (hc:=λ w hs=>Ke ⟨1,c,0,0⟩ ok h h1 h2 hs)) (λ x11 h11=>?_);refine Kb5 ?_;refine aH ?_
 refine bC (λ c14=>?_) (λ c14=>?_)
 ·try (exact abt)
  refine eC [(0,[]),(1,[]),(2,[]),(3,[]),(4,[]),(5,[]),(6,[]),(7,[]),(8,[]),(9,[]),(10,[]),(14,[]),(15,[]),(16,[]),(17,[]),(18,[]),(11,[5,17]),(12,[5,17]),(13,[17]),(19,[]),(20,[]),(21,[]),(22,[]),(23,[]),(24,[])] ?_;refine iL ?_;refine Ee ?_;refine Wf ?_;refine cJ (i:=18) (hq:=(pB (m:=x.a) (n:=1) rf rf (by omega))) (h:=?_);refine bB (i:=11) (hq:=(cM (hc:=λ w hs=>sg (L:=x.L) (cs:=x.cs) hs c hc (by omega)))) (h:=λ x26 h26=>?_);refine bZ (h:=λ x27=>?_);((refine cR (i:=13) (hq:=(bF.eK (uD (l:=x.got) (v:=aW x.cs c) (m:=x.got.length) rf rf .head rfl fin Zm gE (by omega)) uV)) (h:=λ x28=>?_);try (refine eH (λ h28=>?_))));refine J4 ?_;refine kU (i:=21) (hq:=(by exact jR λ _=>fE rf dC wn rf fW rf rf lS)) (h:=λ _=>?_);refine J4 ?_;refine kU (i:=24) (hq:=(by exact jR λ _=>fE rf dC wn rf fW rf rf lS)) (h:=λ _=>?_);refine eL ?_;refine kT ?_;refine Dg ?_
  (refine Ka3 ?_)
  refine Kc6 ?_
  refine bC (λ c43=>?_) (λ c43=>?_)
  ·exact nv c43
  ·try (exact abt)
   refine kW ?_;refine gZ [0,1,2,3,4,5,6,7,8,9,10,11] ?_;refine Ee ?_;refine cJ (i:=8) (hq:=(jK (m:=x.a+1) (n:=1) rf rf (by omega) (by omega))) (h:=?_);refine bV (i:=9) (hq:=(dH (m:=x.got.length+1) (k:=x.a+1-1) (lst:=x.got++[aW x.cs c]) rf rf gE fW (.own .head) (by omega) (by rw[List.length_append,List.length_cons,List.length_nil];omega))) (h:=?_);refine bV (i:=10) (hq:=(eX (q:=x.a+1-1) (lst:=x.got++[aW x.cs c]) rf fW (.own .head) (by rw[List.length_append,List.length_cons,List.length_nil];omega))) (h:=?_);refine J7 ?_
   refine aR Tryz.results210 (λ w hw=>?_)
   rw[show x.got.length+1=(x.got++[aW x.cs c]).length by simp] at hw
   exact⟨x28,by rw[show(x.got++[aW x.cs c]).getD (x.a+1-1) 0=aW x.cs c by rw[show x.a+1-1=x.got.length by omega,iM,List.getElem?_append_right (Nat.le_refl _)];simp];rfl,trivial,hw.aX⟩
 ·exact nv c14
end
end
end Go.Proofs.YtbajmaoegmbfgaaGreat
namespace Go.Ct
section
def Uk(b:Bool):Int:=if b=true then 1 else 0
theorem sL(l:List Int)(v:Int):(l++[v]).getD l.length 0=v:=by rw[iM,List.getElem?_append_right (Nat.le_refl _)];simp
end
end Go.Ct
namespace Go.Proofs.YtbajmaoegmbfgaaGreat
open Go.Proofs.Tryz (prog)
open Go Go.RowKit Go.Ct
section
section
variable{k:Cl}{bx bm:Nat}{x:XS}{dn:Bool}{rs:Rs}{D:List Nat}{A:Fr}{w:World}
theorem xr(c o n:Int)(ok:x.Ok)(h:x.st=true)(hs:SF w D (xH k bx bm x dn rs) A [] (xW x) w):Calls prog 212 #[.pointer (some ⟨bx,0,none⟩),.int .i64 c,.int .i64 o,.int .i64 n] w λ e w'=>∃q:Unit,e=.returned (.bool false)/\True/\SF w D (xH k bx bm x dn rs) [] [] (xW x) w':=by
 refine enter Tryz.func212 Tryz.ntmps212 rfl rfl (cB hs) ?_
 simp only[cC]
 refine cX ?_;refine jG ?_;refine pK ?_;refine bN ?_;refine aD (cM (hs:=xH k bx bm x dn rs) (os:=xW x) (hc:=λ w hs=>Qf ⟨2,c,o,n⟩ ok h hs)) (λ x18 h18=>?_);refine Kb5 ?_;refine aH ?_
 refine bC (λ c21=>?_) (λ c21=>?_)
 ·exact nv c21
 ·try (exact abt)
  refine kW ?_;refine gZ [0,1,2,3,4,5,6,7,8,9,10,11,12,13,14,15,16,17,18] ?_;refine iL ?_
  (refine aN ?_)
  refine jD ?_;refine aN ?_
  refine fN ?_
  refine J60 ?_;refine vu ?_;(refine fN ?_);refine J74 ?_;refine vp ?_;refine J7 ?_
  refine aR Tryz.results212 (λ w hw=>?_)
  exact⟨(),rfl,trivial,hw.aX⟩
theorem yd(c o n:Int)(ok:x.Ok)(h:x.st=false)(h1:¬x.a<x.got.length)(h2:x.fr=0)(hs:SF w D (xH k bx bm x dn rs) A [] (xW x) w):Calls prog 212 #[.pointer (some ⟨bx,0,none⟩),.int .i64 c,.int .i64 o,.int .i64 n] w λ e w'=>∃q:Unit,e=.returned (.bool false)/\True/\SF w D (xH k bx bm {x with st:=true,nx:=⟨2,c,o,n⟩} dn rs) [] [] (xW {x with st:=true,nx:=⟨2,c,o,n⟩}) w':=by
 refine enter Tryz.func212 Tryz.ntmps212 rfl rfl (cB hs) ?_
 simp only[cC]
 refine cX ?_;refine jG ?_;refine pK ?_;refine bN ?_;refine aD (cM (hs:=xH k bx bm x dn rs) (os:=xW x) (hc:=λ w hs=>Pq ⟨2,c,o,n⟩ ok h h1 h2 hs)) (λ x18 h18=>?_);refine Kb5 ?_;refine aH ?_
 refine bC (λ c21=>?_) (λ c21=>?_)
 ·exact nv c21
 ·try (exact abt)
  refine kW ?_;refine gZ [0,1,2,3,4,5,6,7,8,9,10,11,12,13,14,15,16,17,18] ?_;refine iL ?_
  (refine aN ?_)
  refine jD ?_;refine aN ?_
  refine fN ?_
  refine J60 ?_;refine vu ?_;(refine fN ?_);refine J74 ?_;refine vp ?_;refine J7 ?_
  refine aR Tryz.results212 (λ w hw=>?_)
  exact⟨(),rfl,trivial,hw.aX⟩
theorem Lc(c o n:Int)(ok:x.Ok)(h:x.st=false)(h1:x.a<x.got.length)(hs:SF w D (xH k bx bm x dn rs) A [] (xW x) w):Calls prog 212 #[.pointer (some ⟨bx,0,none⟩),.int .i64 c,.int .i64 o,.int .i64 n] w λ e w'=>∃q:Unit,e=.returned (.bool (x.got.getD x.a 0==1))/\True/\SF w D (xH k bx bm {x with a:=x.a+1} dn rs) [] [] (xW {x with a:=x.a+1}) w':=by
 have hg:=ok.lg
 refine enter Tryz.func212 Tryz.ntmps212 rfl rfl (cB hs) ?_
 simp only[cC]
 refine cX ?_;refine jG ?_;refine pK ?_;refine bN ?_;refine aD (cM (hs:=xH k bx bm x dn rs) (os:=xW x) (hc:=λ w hs=>K8 ⟨2,c,o,n⟩ ok h h1 hs)) (λ x18 h18=>?_);refine Kb5 ?_;refine aH ?_
 refine bC (λ c21=>?_) (λ c21=>?_)
 ·exact nv c21
 ·try (exact abt)
  refine kW ?_;refine gZ [0,1,2,3,4,5,6,7,8,9,10,11,12,13,14,15,16,17,18] ?_;refine iL ?_
  refine fN ?_
  refine jD ?_;refine aN ?_
  (refine aN ?_)
  refine J60 ?_;refine vu ?_;((refine cJ (i:=13) (hq:=(jK (m:=x.a+1) (n:=1) rf rf (by omega) (by omega))) (h:=?_)));((refine bV (i:=14) (hq:=(dH (m:=x.got.length) (k:=x.a+1-1) (lst:=x.got) rf rf gE fW (.own .head) (by omega) (by omega))) (h:=?_)));((refine bV (i:=15) (hq:=(eX (q:=x.a+1-1) (lst:=x.got) rf fW (.own .head) (by omega))) (h:=?_)));refine vp ?_;refine J7 ?_
  refine aR Tryz.results212 (λ w hw=>?_)
  exact⟨(),by rw[Nat.add_sub_cancel];rfl,trivial,hw.aX⟩
theorem oj(c o n:Int)(hc:c<=9223372036854775807)(ok:x.Ok)(h:x.st=false)(h1:¬x.a<x.got.length)(h2:¬x.fr=0)(hs:SF w D (xH k bx bm x dn rs) A [] (xW x) w):Calls prog 212 #[.pointer (some ⟨bx,0,none⟩),.int .i64 c,.int .i64 o,.int .i64 n] w λ e w'=>∃q:Bool×(Option Addr×Nat),e=.returned (.bool q.1)/\(q.1=true↔fZ x.cs c o)/\SF w D (xH k bx bm {x with fr:=x.fr-1,cs:=dE x.cs c o n,acc:=up x.acc,got:=x.got++[Uk q.1],pg:=q.2.1,kg:=q.2.2,a:=x.a+1} dn rs) [] [] (xW {x with fr:=x.fr-1,cs:=dE x.cs c o n,acc:=up x.acc,got:=x.got++[Uk q.1],pg:=q.2.1,kg:=q.2.2,a:=x.a+1}) w':=by
 have hg:=ok.lg
 have ha:=ok.la
 have hlc:=ok.lc
 refine enter Tryz.func212 Tryz.ntmps212 rfl rfl (cB hs) ?_
 simp only[cC]
 refine cX ?_;refine jG ?_;refine pK ?_;refine bN ?_;refine aD (cM (hs:=xH k bx bm x dn rs) (os:=xW x) (hc:=λ w hs=>Ke ⟨2,c,o,n⟩ ok h h1 h2 hs)) (λ x18 h18=>?_);refine Kb5 ?_;refine aH ?_
 refine bC (λ c21=>?_) (λ c21=>?_)
 ·try (exact abt)
  refine Hg ?_;refine mD ?_;refine pK ?_;refine aA ?_;refine aD (cM (V:=.bool) (hc:=λ w hs=>aAv (L:=x.L) (cs:=x.cs) hs c o n hc (by omega))) (λ x29 h29=>?_);refine aH ?_
  refine bC (λ c29=>?_) (λ c29=>?_)
  ·try (exact abt)
   have hv:(1:Int)=Uk x29:=by rw[c29];rfl
   refine dM ?_;refine J1 ?_;refine eC [(0,[]),(1,[]),(2,[]),(3,[]),(4,[]),(5,[]),(6,[]),(9,[]),(10,[]),(11,[]),(12,[]),(13,[]),(7,[5,12]),(8,[12]),(14,[]),(15,[]),(16,[]),(17,[]),(18,[]),(19,[])] ?_;refine iL ?_;refine bj ?_;refine Wf ?_;refine cJ (i:=13) (hq:=(pB (m:=x.a) (n:=1) rf rf (by omega))) (h:=?_);refine bZ (h:=λ x37=>?_);((refine cR (i:=8) (hq:=(bF.eK (uD (l:=x.got) (m:=x.got.length) rf rf .head rfl fin Zm gE (by omega)) uV)) (h:=λ x38=>?_);try (refine eH (λ h38=>?_))));refine J4 ?_;refine kU (i:=16) (hq:=(by exact jR λ _=>fE rf dC wn rf fW rf rf lS)) (h:=λ _=>?_);refine J4 ?_;refine kU (i:=19) (hq:=(by exact jR λ _=>fE rf dC wn rf fW rf rf lS)) (h:=λ _=>?_);refine eL ?_;refine aV ?_;refine gZ [0,1,2,3,4,5,6,7,8,9,10,11,12,13,14,15,16,17,18] ?_;refine iL ?_
   (refine aN ?_)
   refine jD ?_;refine aN ?_
   (refine aN ?_)
   refine J60 ?_;refine vu ?_;((refine cJ (i:=13) (hq:=(jK (m:=x.a+1) (n:=1) rf rf (by omega) (by omega))) (h:=?_)));((refine bV (i:=14) (hq:=(dH (m:=x.got.length+1) (k:=x.a+1-1) rf rf gE fW (.own .head) (by omega) (by rw[List.length_append,List.length_cons,List.length_nil];omega))) (h:=?_)));((refine bV (i:=15) (hq:=(eX (q:=x.a+1-1) rf fW (.own .head) (by rw[List.length_append,List.length_cons,List.length_nil];omega))) (h:=?_)));refine vp ?_;refine J7 ?_
   refine aR Tryz.results212 (λ w hw=>?_)
   rw[hv] at hw
   rw[show x.got.length+1=(x.got++[Uk x29]).length by simp] at hw
   exact⟨(x29,x38),by rw[show x.a+1-1=x.got.length by omega,sL,c29];rfl,h29,hw.aX⟩
  ·try (exact abt)
   have hv:(0:Int)=Uk x29:=by rw[c29];rfl
   refine aZ ?_;refine eC [(0,[]),(1,[]),(2,[]),(3,[]),(4,[]),(5,[]),(6,[]),(9,[]),(10,[]),(11,[]),(12,[]),(13,[]),(7,[5,12]),(8,[12]),(14,[]),(15,[]),(16,[]),(17,[]),(18,[]),(19,[])] ?_;refine iL ?_;refine bj ?_;refine Wf ?_;refine cJ (i:=13) (hq:=(pB (m:=x.a) (n:=1) rf rf (by omega))) (h:=?_);refine bZ (h:=λ x37=>?_);((refine cR (i:=8) (hq:=(bF.eK (uD (l:=x.got) (m:=x.got.length) rf rf .head rfl fin Zm gE (by omega)) uV)) (h:=λ x38=>?_);try (refine eH (λ h38=>?_))));refine J4 ?_;refine kU (i:=16) (hq:=(by exact jR λ _=>fE rf dC wn rf fW rf rf lS)) (h:=λ _=>?_);refine J4 ?_;refine kU (i:=19) (hq:=(by exact jR λ _=>fE rf dC wn rf fW rf rf lS)) (h:=λ _=>?_);refine eL ?_;refine aV ?_;refine gZ [0,1,2,3,4,5,6,7,8,9,10,11,12,13,14,15,16,17,18] ?_;refine iL ?_
   (refine aN ?_)
   refine jD ?_;refine aN ?_
   (refine aN ?_)
   refine J60 ?_;refine vu ?_;((refine cJ (i:=13) (hq:=(jK (m:=x.a+1) (n:=1) rf rf (by omega) (by omega))) (h:=?_)));((refine bV (i:=14) (hq:=(dH (m:=x.got.length+1) (k:=x.a+1-1) rf rf gE fW (.own .head) (by omega) (by rw[List.length_append,List.length_cons,List.length_nil];omega))) (h:=?_)));((refine bV (i:=15) (hq:=(eX (q:=x.a+1-1) rf fW (.own .head) (by rw[List.length_append,List.length_cons,List.length_nil];omega))) (h:=?_)));refine vp ?_;refine J7 ?_
   refine aR Tryz.results212 (λ w hw=>?_)
   rw[hv] at hw
   rw[show x.got.length+1=(x.got++[Uk x29]).length by simp] at hw
   exact⟨(x29,x38),by rw[show x.a+1-1=x.got.length by omega,sL,c29];rfl,h29,hw.aX⟩
 ·exact nv c21
end
end
section
section
variable{k:Cl}{bx bm:Nat}{x:XS}{dn:Bool}{rs:Rs}{D:List Nat}{A:Fr}{w:World}
theorem fO(r:Int)(hr:r<=9223372036854775807)(ok:x.Ok)(hs:SF w D (xH k bx bm x dn rs) A [] (xW x) w):Calls prog 211 #[.pointer (some ⟨bx,0,none⟩),.int .i64 r] w λ e w'=>∃q:Unit,e=.returned (aB x.L r).nd.v/\True/\SF w D (xH k bx bm x dn rs) [] [] (xW x) w':=by
 have hl:=ok.lL
 refine enter Tryz.func211 Tryz.ntmps211 rfl rfl (cB hs) ?_
 simp only[cC]
 refine J0 ?_;refine aK (λ x4=>?_);refine aH ?_;refine mD ?_;refine aA ?_;refine aD (cM (hc:=λ w hs=>Md (L:=x.L) (cs:=x.cs) hs r hr (by omega))) (λ x10 h10=>?_);refine J5 ?_
 refine bE Tryz.results211 (λ w hw=>?_)
 exact⟨(),rfl,trivial,hw.aX⟩
theorem nj{n:Nd}(i:Int)(h:x.st=true)(hs:SF w D (xH k bx bm x dn rs) A [] (xW x) w):Calls prog 215 #[.pointer (some ⟨bx,0,none⟩),n.v,.int .i64 i] w λ e w'=>∃q:Unit,e=.returned (.int .i64 0)/\True/\SF w D (xH k bx bm x dn rs) [] [] (xW x) w':=by
 refine enter Tryz.func215 Tryz.ntmps215 rfl rfl (cB hs) ?_
 simp only[cC]
 simp only[Nd.v]
 refine J0 ?_;refine bM (λ x4=>?_);refine jF ?_;refine Kc1 ?_
 refine bC (λ c10=>?_) (λ c10=>?_)
 ·refine cX ?_
  refine aR Tryz.results215 (λ w hw=>?_)
  exact⟨(),rfl,trivial,hw.aX⟩
 ·exact absurd (h.symm.trans c10) (by decide)
theorem alloc_old{n:Nd}(i:Int)(ok:x.Ok)(h:x.st=false)(h1:x.m<x.made.length)(hl:x.made.length<=274877906944)(hs:SF w D (xH k bx bm x dn rs) A [] (xW x) w):Calls prog 215 #[.pointer (some ⟨bx,0,none⟩),n.v,.int .i64 i] w λ e w'=>∃q:Unit,e=.returned (.int .i64 (x.made.getD x.m 0))/\True/\SF w D (xH k bx bm {x with m:=x.m+1} dn rs) [] [] (xW {x with m:=x.m+1}) w':=by
 refine enter Tryz.func215 Tryz.ntmps215 rfl rfl (cB hs) ?_
 simp only[cC]
 simp only[Nd.v]
 refine J0 ?_;refine bM (λ x4=>?_);refine jF ?_;refine Kc1 ?_
 refine bC (λ c10=>?_) (λ c10=>?_)
 ·try (exfalso;omega)
  exact absurd (h.symm.trans c10) (by decide)
 ·try (exfalso;omega)
  refine kW ?_;refine aV ?_;refine gZ [0,1,2,3,4,5,6,7,8,9] ?_;refine Ee ?_;refine oI ?_;refine nE ?_;refine eL ?_
  refine bC (λ c20=>?_) (λ c20=>?_)
  ·try (exfalso;omega)
  ·try (exfalso;omega)
   refine v9 ?_;refine aC (pB (m:=x.m) (n:=1) rf rf (by omega)) rfl ?_;refine Nu ?_;refine dA (by exact jR λ _=>fE rf dC wn rf fW rf rf lS) (λ _=>?_);refine Qo ?_;refine gZ [0,1,2,3,4,5,6,7,8,9,10,11] ?_;refine Ee ?_;refine cJ (i:=8) (hq:=(jK (m:=x.m+1) (n:=1) rf rf (by omega) (by omega))) (h:=?_);refine bV (i:=9) (hq:=(dH (m:=x.made.length) (k:=x.m+1-1) (lst:=x.made) rf rf gE fW (.own (.tail .head)) (by omega) (by omega))) (h:=?_);refine bV (i:=10) (hq:=(eX (q:=x.m+1-1) (lst:=x.made) rf fW (.own (.tail .head)) (by omega))) (h:=?_);refine J7 ?_
   refine aR Tryz.results215 (λ w hw=>?_)
   exact⟨(),by rw[Nat.add_sub_cancel];rfl,trivial,hw.aX⟩
theorem Ze{n:Nd}{xs:List Int}{ys:List Pr}(i:Int)(ok:x.Ok)(h:x.st=false)(h1:x.m=x.made.length)(hl:x.made.length<=137438953472)(hLl:x.L.length<=274877906900)(hcl:x.cs.length<=274877906900)(e1:n.brN=xs.length)(e2:n.prN=ys.length)(hx:xs.length<=274877906944)(hy:ys.length<=274877906944)(hs:SF w D (xH k bx bm x dn rs) [(n.brA,aG xs),(n.prA,cY ys)] [] (xW x) w):Calls prog 215 #[.pointer (some ⟨bx,0,none⟩),n.v,.int .i64 i] w λ e w'=>∃q:AX×(Option Addr×Nat),e=.returned (.int .i64 ((x.L.length+1:Nat):Int))/\True /\
   SF w D (xH k bx bm {x with L:=x.L++[nM n xs ys x.cs.length q.1],cs:=eU n.kind x.cs i,pn:=q.1.pn,cn:=q.1.cn,pc:=q.1.pc,cc:=q.1.cc,made:=x.made++[((x.L.length+1:Nat):Int)],pm:=q.2.1,km:=q.2.2,m:=x.m+1} dn rs) [] (nM n xs ys x.cs.length q.1).fr (xW {x with L:=x.L++[nM n xs ys x.cs.length q.1],cs:=eU n.kind x.cs i,pn:=q.1.pn,cn:=q.1.cn,pc:=q.1.pc,cc:=q.1.cc,made:=x.made++[((x.L.length+1:Nat):Int)],pm:=q.2.1,km:=q.2.2,m:=x.m+1}) w':=by
 refine enter Tryz.func215 Tryz.ntmps215 rfl rfl (cB hs) ?_
 simp only[cC]
 simp only[Nd.v]
 refine J0 ?_;refine bM (λ x4=>?_);refine jF ?_;refine Kc1 ?_
 refine bC (λ c10=>?_) (λ c10=>?_)
 ·try (exfalso;omega)
  exact absurd (h.symm.trans c10) (by decide)
 ·try (exfalso;omega)
  refine kW ?_;refine aV ?_;refine gZ [0,1,2,3,4,5,6,7,8,9] ?_;refine Ee ?_;refine oI ?_;refine nE ?_;refine eL ?_
  refine bC (λ c20=>?_) (λ c20=>?_)
  ·try (exfalso;omega)
   refine eC [(0,[]),(1,[]),(2,[]),(3,[]),(4,[]),(5,[]),(6,[]),(7,[]),(8,[]),(9,[]),(10,[]),(11,[4]),(12,[4]),(13,[]),(14,[]),(15,[]),(16,[])] ?_;refine aN ?_;refine Ee ?_;refine bT ?_;refine aN ?_;refine bB (i:=11) (hq:=(cM (A0:=[(n.brA,aG xs),(n.prA,cY ys)]) (hc:=λ w hs=>F7 (n:=n) (L:=x.L) (cs:=x.cs) i hs e1 e2 hx hy (by omega) (by omega)))) (h:=λ x32 h32=>?_);refine bZ (h:=λ x33=>?_);((refine cR (i:=13) (hq:=(bF.eK (uD (l:=x.made) (m:=x.made.length) rf rf (.tail .head) rfl fin Zm gE (by omega)) uV)) (h:=λ x34=>?_);try (refine eH (λ h34=>?_))));refine J4 ?_;refine kU (i:=16) (hq:=(by exact jR λ _=>fE rf dC wn rf fW rf rf lS)) (h:=λ _=>?_);refine eL ?_;refine mD ?_;refine aC (pB (m:=x.m) (n:=1) rf rf (by omega)) rfl ?_;refine Nu ?_;refine dA (by exact jR λ _=>fE rf dC wn rf fW rf rf lS) (λ _=>?_);refine Qo ?_;refine gZ [0,1,2,3,4,5,6,7,8,9,10,11] ?_;refine Ee ?_;refine cJ (i:=8) (hq:=(jK (m:=x.m+1) (n:=1) rf rf (by omega) (by omega))) (h:=?_);refine bV (i:=9) (hq:=(dH (m:=x.made.length+1) (k:=x.m+1-1) rf rf gE fW (.own (.tail .head)) (by omega) (by rw[List.length_append,List.length_cons,List.length_nil];omega))) (h:=?_);refine bV (i:=10) (hq:=(eX (q:=x.m+1-1) rf fW (.own (.tail .head)) (by rw[List.length_append,List.length_cons,List.length_nil];omega))) (h:=?_);refine J7 ?_
   refine aR Tryz.results215 (λ w hw=>?_)
   rw[show x.made.length+1=(x.made++[((x.L.length+1:Nat):Int)]).length by simp] at hw
   exact⟨(x32,x34),by rw[show x.m+1-1=x.made.length by omega,sL];rfl,trivial,hw.ret (List.Sublist.cons _ (List.Sublist.refl _)) (aY.jH λ f hf=>List.mem_cons_of_mem _ (List.mem_append_left _ hf)) (List.Sublist.refl _)⟩
  ·try (exfalso;omega)
end
end
end Go.Proofs.YtbajmaoegmbfgaaGreat
