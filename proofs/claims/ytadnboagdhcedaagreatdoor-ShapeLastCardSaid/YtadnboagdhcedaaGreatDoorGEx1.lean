/- Executions of the reference: known, load, cas. -/
import Derived.Test.YtadnboagdhcedaaGreatDoorGRn1

set_option linter.unusedSimpArgs false
set_option linter.unusedVariables false
namespace Go.Ct
section
def XS.kn(x:XS)(a:Ac):XS:=if x.st=true then x else if x.a<x.got.length then{x with a:=x.a+1} else if x.fr=0 then{x with st:=true,nx:=a} else{x with fr:=x.fr-1}
def XS.bL(x:XS):Bool:=!x.st&&decide (x.a<x.got.length)
def XS.now(x:XS):Bool:=!x.st&&!decide (x.a<x.got.length)&&!decide (x.fr=0)
theorem XS.mg{x:XS}{a:Ac}(h:x.st=true):x.kn a=x/\x.bL=false/\x.now=false:=⟨if_pos h,by simp[XS.bL,h],by simp[XS.now,h]⟩
theorem XS.Vk{x:XS}{a:Ac}(h:x.st=false)(h1:x.a<x.got.length):x.kn a={x with a:=x.a+1}/\x.bL=true/\x.now=false:=⟨by unfold XS.kn;rw[if_neg (by rw[h];decide),if_pos h1],by simp[XS.bL,h,h1],by simp[XS.now,h1]⟩
theorem XS.lz{x:XS}{a:Ac}(h:x.st=false)(h1:¬x.a<x.got.length)(h2:x.fr=0):x.kn a={x with st:=true,nx:=a}/\x.bL=false/\x.now=false:=⟨by unfold XS.kn;rw[if_neg (by rw[h];decide),if_neg h1,if_pos h2],by simp[XS.bL,h1],by simp[XS.now,h2]⟩
theorem XS.Zh{x:XS}{a:Ac}(h:x.st=false)(h1:¬x.a<x.got.length)(h2:¬x.fr=0):x.kn a={x with fr:=x.fr-1}/\x.bL=false/\x.now=true:=⟨by unfold XS.kn;rw[if_neg (by rw[h];decide),if_neg h1,if_neg h2],by simp[XS.bL,h1],by simp[XS.now,h,h1,h2]⟩
end
end Go.Ct
namespace Go.Proofs.YtadnboagdhcedaaGreatDoor
section
open Go Go.RowKit Go.Ct
section
variable{k:Cl}{bx bm:Nat}{x:XS}{dn:Bool}{rs:Rs}{D:List Nat}{A:Fr}{w:World}
theorem Bf(a:Ac)(ok:x.Ok)(hs:SF w D (xH k bx bm x dn rs) A [] (xW x) w):Calls Tryz.prog 142 #[.pointer (some ⟨bx,0,none⟩),.agg ⟨a.cells⟩] w λ e w'=>∃q:Unit,e=.returned (.tuple #[.bool x.bL,.bool x.now])/\True/\SF w D (xH k bx bm (x.kn a) dn rs) [] [] (xW (x.kn a)) w':=by
 have h1:=ok.lg
 have h2:=ok.la
 have h3:=ok.fr
 refine enter Tryz.func142 Tryz.ntmps142 rfl rfl (xm hs) ?_
 simp only[cR]
 refine J0 ?_;refine bP (λ x3=>?_);refine J8 ?_;refine aS ?_;refine Kc4 ?_
 refine aZ (λ c9=>?_) (λ c9=>?_)
 ·refine Es ?_
  refine bJ Tryz.results142 (λ w hw=>?_)
  obtain⟨e1,e2,e3⟩:=XS.mg (a:=a) c9
  rw[e1,e2,e3]
  exact⟨(),rfl,trivial,hw.aU⟩
 ·refine jD ?_;refine aS ?_;refine gB [0,1,2,3,4,5,6,7,8,9] ?_;refine Ey ?_;refine oI ?_;refine Df ?_;refine dV ?_
  refine aZ (λ c19=>?_) (λ c19=>?_)
  ·refine mV ?_;refine F0 ?_;refine lj ?_;refine Es ?_
   refine bJ Tryz.results142 (λ w hw=>?_)
   obtain⟨e1,e2,e3⟩:=XS.Vk (a:=a) c9 (by omega)
   rw[e1,e2,e3]
   exact⟨(),rfl,trivial,hw.aU⟩
  ·refine jD ?_;refine mV ?_;refine rR ?_
   refine aZ (λ c31=>?_) (λ c31=>?_)
   ·refine aS ?_;refine eD [(0,[]),(1,[]),(2,[]),(3,[]),(4,[]),(5,[2]),(6,[]),(7,[]),(8,[])] ?_;refine gM ?_;refine bN ?_;refine J4 ?_;refine nA (h:=λ _=>?_);refine J4 ?_;refine mT (i:=8) (hq:=(uX λ _=>zS (off:=36) (vs:=a.cells) rf fN rf rfl gX (Nat.le_of_ble_eq_true rfl) rf yD)) (h:=λ _=>?_);refine dV ?_;refine Es ?_
    refine bJ Tryz.results142 (λ w hw=>?_)
    obtain⟨e1,e2,e3⟩:=XS.lz (a:=a) c9 (by omega) (by omega)
    rw[e1,e2,e3]
    exact⟨(),rfl,trivial,hw.aU⟩
   ·refine sw ?_;refine oP ?_;refine lj ?_;refine Es ?_
    refine bJ Tryz.results142 (λ w hw=>?_)
    obtain⟨e1,e2,e3⟩:=XS.Zh (a:=a) c9 (by omega) (by omega)
    rw[e1,e2,e3]
    exact⟨(),rfl,trivial,hw.aU⟩
theorem Kx(a:Ac)(ok:x.Ok)(h:x.st=true)(hs:SF w D (xH k bx bm x dn rs) A [] (xW x) w):Calls Tryz.prog 142 #[.pointer (some ⟨bx,0,none⟩),.agg ⟨a.cells⟩] w λ e w'=>∃q:Unit,e=.returned (.tuple #[.bool false,.bool false])/\True/\SF w D (xH k bx bm x dn rs) [] [] (xW x) w':=by
 obtain⟨e1,e2,e3⟩:=XS.mg (a:=a) h
 have:=Bf (k:=k) (bx:=bx) (bm:=bm) (dn:=dn) (rs:=rs) (D:=D) (A:=A) (w:=w) a ok hs
 rw[e1,e2,e3] at this
 exact this
theorem E4(a:Ac)(ok:x.Ok)(h:x.st=false)(h1:x.a<x.got.length)(hs:SF w D (xH k bx bm x dn rs) A [] (xW x) w):Calls Tryz.prog 142 #[.pointer (some ⟨bx,0,none⟩),.agg ⟨a.cells⟩] w λ e w'=>∃q:Unit,e=.returned (.tuple #[.bool true,.bool false])/\True/\SF w D (xH k bx bm {x with a:=x.a+1} dn rs) [] [] (xW {x with a:=x.a+1}) w':=by
 obtain⟨e1,e2,e3⟩:=XS.Vk (a:=a) h h1
 have:=Bf (k:=k) (bx:=bx) (bm:=bm) (dn:=dn) (rs:=rs) (D:=D) (A:=A) (w:=w) a ok hs
 rw[e1,e2,e3] at this
 exact this
theorem Ls(a:Ac)(ok:x.Ok)(h:x.st=false)(h1:¬x.a<x.got.length)(h2:x.fr=0)(hs:SF w D (xH k bx bm x dn rs) A [] (xW x) w):Calls Tryz.prog 142 #[.pointer (some ⟨bx,0,none⟩),.agg ⟨a.cells⟩] w λ e w'=>∃q:Unit,e=.returned (.tuple #[.bool false,.bool false])/\True/\SF w D (xH k bx bm {x with st:=true,nx:=a} dn rs) [] [] (xW {x with st:=true,nx:=a}) w':=by
 obtain⟨e1,e2,e3⟩:=XS.lz (a:=a) h h1 h2
 have:=Bf (k:=k) (bx:=bx) (bm:=bm) (dn:=dn) (rs:=rs) (D:=D) (A:=A) (w:=w) a ok hs
 rw[e1,e2,e3] at this
 exact this
theorem Gr(a:Ac)(ok:x.Ok)(h:x.st=false)(h1:¬x.a<x.got.length)(h2:¬x.fr=0)(hs:SF w D (xH k bx bm x dn rs) A [] (xW x) w):Calls Tryz.prog 142 #[.pointer (some ⟨bx,0,none⟩),.agg ⟨a.cells⟩] w λ e w'=>∃q:Unit,e=.returned (.tuple #[.bool false,.bool true])/\True/\SF w D (xH k bx bm {x with fr:=x.fr-1} dn rs) [] [] (xW {x with fr:=x.fr-1}) w':=by
 obtain⟨e1,e2,e3⟩:=XS.Zh (a:=a) h h1 h2
 have:=Bf (k:=k) (bx:=bx) (bm:=bm) (dn:=dn) (rs:=rs) (D:=D) (A:=A) (w:=w) a ok hs
 rw[e1,e2,e3] at this
 exact this
theorem bi(c:Int)(ok:x.Ok)(h:x.st=true)(hs:SF w D (xH k bx bm x dn rs) A [] (xW x) w):Calls Tryz.prog 109 #[.pointer (some ⟨bx,0,none⟩),.int .i64 c] w λ e w'=>∃q:Unit,e=.returned (.int .i64 0)/\True/\SF w D (xH k bx bm x dn rs) [] [] (xW x) w':=by
 refine enter Tryz.func109 Tryz.ntmps109 rfl rfl (cA hs) ?_
 simp only[cR]
 refine cN ?_;refine iF ?_;refine bD ?_;refine aC (cM (hs:=xH k bx bm x dn rs) (os:=xW x) (hc:=λ w hs=>Kx ⟨1,c,0,0⟩ ok h hs)) (λ x11 h11=>?_);refine Kb6 ?_;refine aI ?_
 refine aZ (λ c14=>?_) (λ c14=>?_)
 ·exact nv c14
 ·try (exact abt)
  refine jD ?_;refine J2 ?_;refine El ?_
  (refine Ka3 ?_)
  refine Qx ?_;refine aI ?_
  refine aZ (λ c43=>?_) (λ c43=>?_)
  ·try (exact abt)
   refine cN ?_
   refine aN Tryz.results109 (λ w hw=>?_)
   exact⟨(),rfl,trivial,hw.aU⟩
  ·exact nv c43
theorem iz(c:Int)(ok:x.Ok)(h:x.st=false)(h1:¬x.a<x.got.length)(h2:x.fr=0)(hs:SF w D (xH k bx bm x dn rs) A [] (xW x) w):Calls Tryz.prog 109 #[.pointer (some ⟨bx,0,none⟩),.int .i64 c] w λ e w'=>∃q:Unit,e=.returned (.int .i64 0)/\True/\SF w D (xH k bx bm {x with st:=true,nx:=⟨1,c,0,0⟩} dn rs) [] [] (xW {x with st:=true,nx:=⟨1,c,0,0⟩}) w':=by
 refine enter Tryz.func109 Tryz.ntmps109 rfl rfl (cA hs) ?_
 simp only[cR]
 refine cN ?_;refine iF ?_;refine bD ?_;refine aC (cM (hs:=xH k bx bm x dn rs) (os:=xW x) (hc:=λ w hs=>Ls ⟨1,c,0,0⟩ ok h h1 h2 hs)) (λ x11 h11=>?_);refine Kb6 ?_;refine aI ?_
 refine aZ (λ c14=>?_) (λ c14=>?_)
 ·exact nv c14
 ·try (exact abt)
  refine jD ?_;refine J2 ?_;refine El ?_
  (refine Ka3 ?_)
  refine Qx ?_;refine aI ?_
  refine aZ (λ c43=>?_) (λ c43=>?_)
  ·try (exact abt)
   refine cN ?_
   refine aN Tryz.results109 (λ w hw=>?_)
   exact⟨(),rfl,trivial,hw.aU⟩
  ·exact nv c43
theorem Ds(c:Int)(ok:x.Ok)(h:x.st=false)(h1:x.a<x.got.length)(hs:SF w D (xH k bx bm x dn rs) A [] (xW x) w):Calls Tryz.prog 109 #[.pointer (some ⟨bx,0,none⟩),.int .i64 c] w λ e w'=>∃q:Unit,e=.returned (.int .i64 (x.got.getD x.a 0))/\True/\SF w D (xH k bx bm {x with a:=x.a+1} dn rs) [] [] (xW {x with a:=x.a+1}) w':=by
 have hg:=ok.lg
 refine enter Tryz.func109 Tryz.ntmps109 rfl rfl (cA hs) ?_
 simp only[cR]
 refine cN ?_;refine iF ?_;refine bD ?_;refine aC (cM (hs:=xH k bx bm x dn rs) (os:=xW x) (hc:=λ w hs=>E4 ⟨1,c,0,0⟩ ok h h1 hs)) (λ x11 h11=>?_);refine Kb6 ?_;refine aI ?_
 refine aZ (λ c14=>?_) (λ c14=>?_)
 ·exact nv c14
 ·try (exact abt)
  refine jD ?_;refine J2 ?_;refine El ?_
  refine aH ?_
  refine Qx ?_;refine aI ?_
  refine aZ (λ c43=>?_) (λ c43=>?_)
  ·exact nv c43
  ·try (exact abt)
   refine jD ?_;refine gB [0,1,2,3,4,5,6,7,8,9,10,11] ?_;refine Ey ?_;refine cJ (i:=8) (hq:=(iJ (m:=x.a+1) (n:=1) rf rf (by omega) (by omega))) (h:=?_);refine bM (i:=9) (hq:=(bX (m:=x.got.length) (k:=x.a+1-1) (lst:=x.got) rf rf fK fX (.own .head) (by omega) (by omega))) (h:=?_);refine bM (i:=10) (hq:=(cP (q:=x.a+1-1) (lst:=x.got) rf fX (.own .head) (by omega))) (h:=?_);refine J7 ?_
   refine aN Tryz.results109 (λ w hw=>?_)
   exact⟨(),by rw[Nat.add_sub_cancel];rfl,trivial,hw.aU⟩
theorem Xi(c:Int)(hc:c<=9223372036854775807)(ok:x.Ok)(h:x.st=false)(h1:¬x.a<x.got.length)(h2:¬x.fr=0)(hs:SF w D (xH k bx bm x dn rs) A [] (xW x) w):Calls Tryz.prog 109 #[.pointer (some ⟨bx,0,none⟩),.int .i64 c] w λ e w'=>∃q:Option Addr×Nat,e=.returned (.int .i64 (bW x.cs c))/\True/\SF w D (xH k bx bm {x with fr:=x.fr-1,acc:=up x.acc,got:=x.got++[bW x.cs c],pg:=q.1,kg:=q.2,a:=x.a+1} dn rs) [] [] (xW {x with fr:=x.fr-1,acc:=up x.acc,got:=x.got++[bW x.cs c],pg:=q.1,kg:=q.2,a:=x.a+1}) w':=by
 have hg:=ok.lg
 have ha:=ok.la
 have hlc:=ok.lc
 refine enter Tryz.func109 Tryz.ntmps109 rfl rfl (cA hs) ?_
 simp only[cR]
 refine cN ?_;refine iF ?_;refine bD ?_;refine aC (cM (hs:=xH k bx bm x dn rs) (os:=xW x) (hc:=λ w hs=>Gr ⟨1,c,0,0⟩ ok h h1 h2 hs)) (λ x11 h11=>?_);refine Kb6 ?_;refine aI ?_
 refine aZ (λ c14=>?_) (λ c14=>?_)
 ·try (exact abt)
  refine eD [(0,[]),(1,[]),(2,[]),(3,[]),(4,[]),(5,[]),(6,[]),(7,[]),(8,[]),(9,[]),(10,[]),(14,[]),(15,[]),(16,[]),(17,[]),(18,[]),(11,[5,17]),(12,[5,17]),(13,[17]),(19,[]),(20,[]),(21,[]),(22,[]),(23,[]),(24,[])] ?_;refine gM ?_;refine Ey ?_;refine yb ?_;refine cJ (i:=18) (hq:=(mL (m:=x.a) (n:=1) rf rf (by omega))) (h:=?_);refine bS (i:=11) (hq:=(cM (hc:=λ w hs=>ib (L:=x.L) (cs:=x.cs) hs c hc (by omega)))) (h:=λ x26 h26=>?_);refine cQ (h:=λ x27=>?_);((refine dG (i:=13) (hq:=(bH.fG (qT (l:=x.got) (v:=bW x.cs c) (m:=x.got.length) rf rf .head rfl fin U3 fK (by omega)) yA)) (h:=λ x28=>?_);try (refine fP (λ h28=>?_))));refine J4 ?_;refine mT (i:=21) (hq:=(by exact uX λ _=>dU rf fN wn rf fX rf rf yD)) (h:=λ _=>?_);refine J4 ?_;refine mT (i:=24) (hq:=(by exact uX λ _=>dU rf fN wn rf fX rf rf yD)) (h:=λ _=>?_);refine dV ?_;refine kT ?_;refine El ?_
  (refine Ka3 ?_)
  refine Qx ?_;refine aI ?_
  refine aZ (λ c43=>?_) (λ c43=>?_)
  ·exact nv c43
  ·try (exact abt)
   refine jD ?_;refine gB [0,1,2,3,4,5,6,7,8,9,10,11] ?_;refine Ey ?_;refine cJ (i:=8) (hq:=(iJ (m:=x.a+1) (n:=1) rf rf (by omega) (by omega))) (h:=?_);refine bM (i:=9) (hq:=(bX (m:=x.got.length+1) (k:=x.a+1-1) (lst:=x.got++[bW x.cs c]) rf rf fK fX (.own .head) (by omega) (by rw[List.length_append,List.length_cons,List.length_nil];omega))) (h:=?_);refine bM (i:=10) (hq:=(cP (q:=x.a+1-1) (lst:=x.got++[bW x.cs c]) rf fX (.own .head) (by rw[List.length_append,List.length_cons,List.length_nil];omega))) (h:=?_);refine J7 ?_
   refine aN Tryz.results109 (λ w hw=>?_)
   rw[show x.got.length+1=(x.got++[bW x.cs c]).length by simp] at hw
   exact⟨x28,by rw[show(x.got++[bW x.cs c]).getD (x.a+1-1) 0=bW x.cs c by rw[show x.a+1-1=x.got.length by omega,fQ,List.getElem?_append_right (Nat.le_refl _)];simp];rfl,trivial,hw.aU⟩
 ·exact nv c14
end
end

/- Executions of the reference: cas. -/
end Go.Proofs.YtadnboagdhcedaaGreatDoor
namespace Go.Ct
section
def M7(b:Bool):Int:=if b=true then 1 else 0
theorem pP(l:List Int)(v:Int):(l++[v]).getD l.length 0=v:=by rw[fQ,List.getElem?_append_right (Nat.le_refl _)];simp
end
end Go.Ct
namespace Go.Proofs.YtadnboagdhcedaaGreatDoor
section
open Go Go.RowKit Go.Ct
section
variable{k:Cl}{bx bm:Nat}{x:XS}{dn:Bool}{rs:Rs}{D:List Nat}{A:Fr}{w:World}
theorem ob(c o n:Int)(ok:x.Ok)(h:x.st=true)(hs:SF w D (xH k bx bm x dn rs) A [] (xW x) w):Calls Tryz.prog 111 #[.pointer (some ⟨bx,0,none⟩),.int .i64 c,.int .i64 o,.int .i64 n] w λ e w'=>∃q:Unit,e=.returned (.bool false)/\True/\SF w D (xH k bx bm x dn rs) [] [] (xW x) w':=by
 refine enter Tryz.func111 Tryz.ntmps111 rfl rfl (cA hs) ?_
 simp only[cR]
 refine cN ?_;refine iF ?_;refine nB ?_;refine bD ?_;refine aC (cM (hs:=xH k bx bm x dn rs) (os:=xW x) (hc:=λ w hs=>Kx ⟨2,c,o,n⟩ ok h hs)) (λ x18 h18=>?_);refine Kb6 ?_;refine aI ?_
 refine aZ (λ c21=>?_) (λ c21=>?_)
 ·exact nv c21
 ·try (exact abt)
  refine jD ?_;refine gB [0,1,2,3,4,5,6,7,8,9,10,11,12,13,14,15,16,17,18] ?_;refine gM ?_
  (refine aT ?_)
  refine iZ ?_;refine aT ?_
  refine fL ?_
  refine w8 ?_;refine s8 ?_;(refine fL ?_);refine J74 ?_;refine jy ?_;refine J7 ?_
  refine aN Tryz.results111 (λ w hw=>?_)
  exact⟨(),rfl,trivial,hw.aU⟩
theorem rn(c o n:Int)(ok:x.Ok)(h:x.st=false)(h1:¬x.a<x.got.length)(h2:x.fr=0)(hs:SF w D (xH k bx bm x dn rs) A [] (xW x) w):Calls Tryz.prog 111 #[.pointer (some ⟨bx,0,none⟩),.int .i64 c,.int .i64 o,.int .i64 n] w λ e w'=>∃q:Unit,e=.returned (.bool false)/\True/\SF w D (xH k bx bm {x with st:=true,nx:=⟨2,c,o,n⟩} dn rs) [] [] (xW {x with st:=true,nx:=⟨2,c,o,n⟩}) w':=by
 refine enter Tryz.func111 Tryz.ntmps111 rfl rfl (cA hs) ?_
 simp only[cR]
 refine cN ?_;refine iF ?_;refine nB ?_;refine bD ?_;refine aC (cM (hs:=xH k bx bm x dn rs) (os:=xW x) (hc:=λ w hs=>Ls ⟨2,c,o,n⟩ ok h h1 h2 hs)) (λ x18 h18=>?_);refine Kb6 ?_;refine aI ?_
 refine aZ (λ c21=>?_) (λ c21=>?_)
 ·exact nv c21
 ·try (exact abt)
  refine jD ?_;refine gB [0,1,2,3,4,5,6,7,8,9,10,11,12,13,14,15,16,17,18] ?_;refine gM ?_
  (refine aT ?_)
  refine iZ ?_;refine aT ?_
  refine fL ?_
  refine w8 ?_;refine s8 ?_;(refine fL ?_);refine J74 ?_;refine jy ?_;refine J7 ?_
  refine aN Tryz.results111 (λ w hw=>?_)
  exact⟨(),rfl,trivial,hw.aU⟩
theorem Gz(c o n:Int)(ok:x.Ok)(h:x.st=false)(h1:x.a<x.got.length)(hs:SF w D (xH k bx bm x dn rs) A [] (xW x) w):Calls Tryz.prog 111 #[.pointer (some ⟨bx,0,none⟩),.int .i64 c,.int .i64 o,.int .i64 n] w λ e w'=>∃q:Unit,e=.returned (.bool (x.got.getD x.a 0==1))/\True/\SF w D (xH k bx bm {x with a:=x.a+1} dn rs) [] [] (xW {x with a:=x.a+1}) w':=by
 have hg:=ok.lg
 refine enter Tryz.func111 Tryz.ntmps111 rfl rfl (cA hs) ?_
 simp only[cR]
 refine cN ?_;refine iF ?_;refine nB ?_;refine bD ?_;refine aC (cM (hs:=xH k bx bm x dn rs) (os:=xW x) (hc:=λ w hs=>E4 ⟨2,c,o,n⟩ ok h h1 hs)) (λ x18 h18=>?_);refine Kb6 ?_;refine aI ?_
 refine aZ (λ c21=>?_) (λ c21=>?_)
 ·exact nv c21
 ·try (exact abt)
  refine jD ?_;refine gB [0,1,2,3,4,5,6,7,8,9,10,11,12,13,14,15,16,17,18] ?_;refine gM ?_
  refine fL ?_
  refine iZ ?_;refine aT ?_
  (refine aT ?_)
  refine w8 ?_;refine s8 ?_;((refine cJ (i:=13) (hq:=(iJ (m:=x.a+1) (n:=1) rf rf (by omega) (by omega))) (h:=?_)));((refine bM (i:=14) (hq:=(bX (m:=x.got.length) (k:=x.a+1-1) (lst:=x.got) rf rf fK fX (.own .head) (by omega) (by omega))) (h:=?_)));((refine bM (i:=15) (hq:=(cP (q:=x.a+1-1) (lst:=x.got) rf fX (.own .head) (by omega))) (h:=?_)));refine jy ?_;refine J7 ?_
  refine aN Tryz.results111 (λ w hw=>?_)
  exact⟨(),by rw[Nat.add_sub_cancel];rfl,trivial,hw.aU⟩
theorem aq(c o n:Int)(hc:c<=9223372036854775807)(ok:x.Ok)(h:x.st=false)(h1:¬x.a<x.got.length)(h2:¬x.fr=0)(hs:SF w D (xH k bx bm x dn rs) A [] (xW x) w):Calls Tryz.prog 111 #[.pointer (some ⟨bx,0,none⟩),.int .i64 c,.int .i64 o,.int .i64 n] w λ e w'=>∃q:Bool×(Option Addr×Nat),e=.returned (.bool q.1)/\(q.1=true↔iG x.cs c o)/\SF w D (xH k bx bm {x with fr:=x.fr-1,cs:=fU x.cs c o n,acc:=up x.acc,got:=x.got++[M7 q.1],pg:=q.2.1,kg:=q.2.2,a:=x.a+1} dn rs) [] [] (xW {x with fr:=x.fr-1,cs:=fU x.cs c o n,acc:=up x.acc,got:=x.got++[M7 q.1],pg:=q.2.1,kg:=q.2.2,a:=x.a+1}) w':=by
 have hg:=ok.lg
 have ha:=ok.la
 have hlc:=ok.lc
 refine enter Tryz.func111 Tryz.ntmps111 rfl rfl (cA hs) ?_
 simp only[cR]
 refine cN ?_;refine iF ?_;refine nB ?_;refine bD ?_;refine aC (cM (hs:=xH k bx bm x dn rs) (os:=xW x) (hc:=λ w hs=>Gr ⟨2,c,o,n⟩ ok h h1 h2 hs)) (λ x18 h18=>?_);refine Kb6 ?_;refine aI ?_
 refine aZ (λ c21=>?_) (λ c21=>?_)
 ·try (exact abt)
  refine Jb ?_;refine mV ?_;refine nB ?_;refine aB ?_;refine aC (cM (V:=.bool) (hc:=λ w hs=>qc (L:=x.L) (cs:=x.cs) hs c o n hc (by omega))) (λ x29 h29=>?_);refine aI ?_
  refine aZ (λ c29=>?_) (λ c29=>?_)
  ·try (exact abt)
   have hv:(1:Int)=M7 x29:=by rw[c29];rfl
   refine dO ?_;refine J1 ?_;refine eD [(0,[]),(1,[]),(2,[]),(3,[]),(4,[]),(5,[]),(6,[]),(9,[]),(10,[]),(11,[]),(12,[]),(13,[]),(7,[5,12]),(8,[12]),(14,[]),(15,[]),(16,[]),(17,[]),(18,[]),(19,[])] ?_;refine gM ?_;refine u6 ?_;refine yb ?_;refine cJ (i:=13) (hq:=(mL (m:=x.a) (n:=1) rf rf (by omega))) (h:=?_);refine cQ (h:=λ x37=>?_);((refine dG (i:=8) (hq:=(bH.fG (qT (l:=x.got) (m:=x.got.length) rf rf .head rfl fin U3 fK (by omega)) yA)) (h:=λ x38=>?_);try (refine fP (λ h38=>?_))));refine J4 ?_;refine mT (i:=16) (hq:=(by exact uX λ _=>dU rf fN wn rf fX rf rf yD)) (h:=λ _=>?_);refine J4 ?_;refine mT (i:=19) (hq:=(by exact uX λ _=>dU rf fN wn rf fX rf rf yD)) (h:=λ _=>?_);refine dV ?_;refine aS ?_;refine gB [0,1,2,3,4,5,6,7,8,9,10,11,12,13,14,15,16,17,18] ?_;refine gM ?_
   (refine aT ?_)
   refine iZ ?_;refine aT ?_
   (refine aT ?_)
   refine w8 ?_;refine s8 ?_;((refine cJ (i:=13) (hq:=(iJ (m:=x.a+1) (n:=1) rf rf (by omega) (by omega))) (h:=?_)));((refine bM (i:=14) (hq:=(bX (m:=x.got.length+1) (k:=x.a+1-1) rf rf fK fX (.own .head) (by omega) (by rw[List.length_append,List.length_cons,List.length_nil];omega))) (h:=?_)));((refine bM (i:=15) (hq:=(cP (q:=x.a+1-1) rf fX (.own .head) (by rw[List.length_append,List.length_cons,List.length_nil];omega))) (h:=?_)));refine jy ?_;refine J7 ?_
   refine aN Tryz.results111 (λ w hw=>?_)
   rw[hv] at hw
   rw[show x.got.length+1=(x.got++[M7 x29]).length by simp] at hw
   exact⟨(x29,x38),by rw[show x.a+1-1=x.got.length by omega,pP,c29];rfl,h29,hw.aU⟩
  ·try (exact abt)
   have hv:(0:Int)=M7 x29:=by rw[c29];rfl
   refine bA ?_;refine eD [(0,[]),(1,[]),(2,[]),(3,[]),(4,[]),(5,[]),(6,[]),(9,[]),(10,[]),(11,[]),(12,[]),(13,[]),(7,[5,12]),(8,[12]),(14,[]),(15,[]),(16,[]),(17,[]),(18,[]),(19,[])] ?_;refine gM ?_;refine u6 ?_;refine yb ?_;refine cJ (i:=13) (hq:=(mL (m:=x.a) (n:=1) rf rf (by omega))) (h:=?_);refine cQ (h:=λ x37=>?_);((refine dG (i:=8) (hq:=(bH.fG (qT (l:=x.got) (m:=x.got.length) rf rf .head rfl fin U3 fK (by omega)) yA)) (h:=λ x38=>?_);try (refine fP (λ h38=>?_))));refine J4 ?_;refine mT (i:=16) (hq:=(by exact uX λ _=>dU rf fN wn rf fX rf rf yD)) (h:=λ _=>?_);refine J4 ?_;refine mT (i:=19) (hq:=(by exact uX λ _=>dU rf fN wn rf fX rf rf yD)) (h:=λ _=>?_);refine dV ?_;refine aS ?_;refine gB [0,1,2,3,4,5,6,7,8,9,10,11,12,13,14,15,16,17,18] ?_;refine gM ?_
   (refine aT ?_)
   refine iZ ?_;refine aT ?_
   (refine aT ?_)
   refine w8 ?_;refine s8 ?_;((refine cJ (i:=13) (hq:=(iJ (m:=x.a+1) (n:=1) rf rf (by omega) (by omega))) (h:=?_)));((refine bM (i:=14) (hq:=(bX (m:=x.got.length+1) (k:=x.a+1-1) rf rf fK fX (.own .head) (by omega) (by rw[List.length_append,List.length_cons,List.length_nil];omega))) (h:=?_)));((refine bM (i:=15) (hq:=(cP (q:=x.a+1-1) rf fX (.own .head) (by rw[List.length_append,List.length_cons,List.length_nil];omega))) (h:=?_)));refine jy ?_;refine J7 ?_
   refine aN Tryz.results111 (λ w hw=>?_)
   rw[hv] at hw
   rw[show x.got.length+1=(x.got++[M7 x29]).length by simp] at hw
   exact⟨(x29,x38),by rw[show x.a+1-1=x.got.length by omega,pP,c29];rfl,h29,hw.aU⟩
 ·exact nv c21
end
end

/- Executions of the reference: nodes, allocations, cells, generations. -/
section
open Go Go.RowKit Go.Ct
section
variable{k:Cl}{bx bm:Nat}{x:XS}{dn:Bool}{rs:Rs}{D:List Nat}{A:Fr}{w:World}
theorem eK(r:Int)(hr:r<=9223372036854775807)(ok:x.Ok)(hs:SF w D (xH k bx bm x dn rs) A [] (xW x) w):Calls Tryz.prog 110 #[.pointer (some ⟨bx,0,none⟩),.int .i64 r] w λ e w'=>∃q:Unit,e=.returned (aA x.L r).nd.v/\True/\SF w D (xH k bx bm x dn rs) [] [] (xW x) w':=by
 have hl:=ok.lL
 refine enter Tryz.func110 Tryz.ntmps110 rfl rfl (cA hs) ?_
 simp only[cR]
 refine J0 ?_;refine aP (λ x4=>?_);refine aI ?_;refine mV ?_;refine aB ?_;refine aC (cM (hc:=λ w hs=>ji (L:=x.L) (cs:=x.cs) hs r hr (by omega))) (λ x10 h10=>?_);refine J5 ?_
 refine bJ Tryz.results110 (λ w hw=>?_)
 exact⟨(),rfl,trivial,hw.aU⟩
theorem Vc{n:Nd}(i:Int)(h:x.st=true)(hs:SF w D (xH k bx bm x dn rs) A [] (xW x) w):Calls Tryz.prog 114 #[.pointer (some ⟨bx,0,none⟩),n.v,.int .i64 i] w λ e w'=>∃q:Unit,e=.returned (.int .i64 0)/\True/\SF w D (xH k bx bm x dn rs) [] [] (xW x) w':=by
 refine enter Tryz.func114 Tryz.ntmps114 rfl rfl (cA hs) ?_
 simp only[cR]
 simp only[Nd.v]
 refine J0 ?_;refine bP (λ x4=>?_);refine gK ?_;refine Kc4 ?_
 refine aZ (λ c10=>?_) (λ c10=>?_)
 ·refine cN ?_
  refine aN Tryz.results114 (λ w hw=>?_)
  exact⟨(),rfl,trivial,hw.aU⟩
 ·exact absurd (h.symm.trans c10) (by decide)
theorem alloc_old{n:Nd}(i:Int)(ok:x.Ok)(h:x.st=false)(h1:x.m<x.made.length)(hl:x.made.length<=274877906944)(hs:SF w D (xH k bx bm x dn rs) A [] (xW x) w):Calls Tryz.prog 114 #[.pointer (some ⟨bx,0,none⟩),n.v,.int .i64 i] w λ e w'=>∃q:Unit,e=.returned (.int .i64 (x.made.getD x.m 0))/\True/\SF w D (xH k bx bm {x with m:=x.m+1} dn rs) [] [] (xW {x with m:=x.m+1}) w':=by
 refine enter Tryz.func114 Tryz.ntmps114 rfl rfl (cA hs) ?_
 simp only[cR]
 simp only[Nd.v]
 refine J0 ?_;refine bP (λ x4=>?_);refine gK ?_;refine Kc4 ?_
 refine aZ (λ c10=>?_) (λ c10=>?_)
 ·try (exfalso;omega)
  exact absurd (h.symm.trans c10) (by decide)
 ·try (exfalso;omega)
  refine jD ?_;refine aS ?_;refine gB [0,1,2,3,4,5,6,7,8,9] ?_;refine Ey ?_;refine oI ?_;refine tG ?_;refine dV ?_
  refine aZ (λ c20=>?_) (λ c20=>?_)
  ·try (exfalso;omega)
  ·try (exfalso;omega)
   refine sw ?_;refine aE (mL (m:=x.m) (n:=1) rf rf (by omega)) rfl ?_;refine Jv ?_;refine kL (by exact uX λ _=>dU rf fN wn rf fX rf rf yD) (λ _=>?_);refine Xs ?_;refine gB [0,1,2,3,4,5,6,7,8,9,10,11] ?_;refine Ey ?_;refine cJ (i:=8) (hq:=(iJ (m:=x.m+1) (n:=1) rf rf (by omega) (by omega))) (h:=?_);refine bM (i:=9) (hq:=(bX (m:=x.made.length) (k:=x.m+1-1) (lst:=x.made) rf rf fK fX (.own (.tail .head)) (by omega) (by omega))) (h:=?_);refine bM (i:=10) (hq:=(cP (q:=x.m+1-1) (lst:=x.made) rf fX (.own (.tail .head)) (by omega))) (h:=?_);refine J7 ?_
   refine aN Tryz.results114 (λ w hw=>?_)
   exact⟨(),by rw[Nat.add_sub_cancel];rfl,trivial,hw.aU⟩
theorem R5{n:Nd}{xs:List Int}{ys:List Pr}(i:Int)(ok:x.Ok)(h:x.st=false)(h1:x.m=x.made.length)(hl:x.made.length<=137438953472)(hLl:x.L.length<=274877906900)(hcl:x.cs.length<=274877906900)(e1:n.brN=xs.length)(e2:n.prN=ys.length)(hx:xs.length<=274877906944)(hy:ys.length<=274877906944)(hs:SF w D (xH k bx bm x dn rs) [(n.brA,aG xs),(n.prA,cZ ys)] [] (xW x) w):Calls Tryz.prog 114 #[.pointer (some ⟨bx,0,none⟩),n.v,.int .i64 i] w λ e w'=>∃q:AX×(Option Addr×Nat),e=.returned (.int .i64 ((x.L.length+1:Nat):Int))/\True /\
   SF w D (xH k bx bm {x with L:=x.L++[jY n xs ys x.cs.length q.1],cs:=fZ n.kind x.cs i,pn:=q.1.pn,cn:=q.1.cn,pc:=q.1.pc,cc:=q.1.cc,made:=x.made++[((x.L.length+1:Nat):Int)],pm:=q.2.1,km:=q.2.2,m:=x.m+1} dn rs) [] (jY n xs ys x.cs.length q.1).fr (xW {x with L:=x.L++[jY n xs ys x.cs.length q.1],cs:=fZ n.kind x.cs i,pn:=q.1.pn,cn:=q.1.cn,pc:=q.1.pc,cc:=q.1.cc,made:=x.made++[((x.L.length+1:Nat):Int)],pm:=q.2.1,km:=q.2.2,m:=x.m+1}) w':=by
 refine enter Tryz.func114 Tryz.ntmps114 rfl rfl (cA hs) ?_
 simp only[cR]
 simp only[Nd.v]
 refine J0 ?_;refine bP (λ x4=>?_);refine gK ?_;refine Kc4 ?_
 refine aZ (λ c10=>?_) (λ c10=>?_)
 ·try (exfalso;omega)
  exact absurd (h.symm.trans c10) (by decide)
 ·try (exfalso;omega)
  refine jD ?_;refine aS ?_;refine gB [0,1,2,3,4,5,6,7,8,9] ?_;refine Ey ?_;refine oI ?_;refine tG ?_;refine dV ?_
  refine aZ (λ c20=>?_) (λ c20=>?_)
  ·try (exfalso;omega)
   refine eD [(0,[]),(1,[]),(2,[]),(3,[]),(4,[]),(5,[]),(6,[]),(7,[]),(8,[]),(9,[]),(10,[]),(11,[4]),(12,[4]),(13,[]),(14,[]),(15,[]),(16,[])] ?_;refine aT ?_;refine Ey ?_;refine bN ?_;refine aT ?_;refine bS (i:=11) (hq:=(cM (A0:=[(n.brA,aG xs),(n.prA,cZ ys)]) (hc:=λ w hs=>mB (n:=n) (L:=x.L) (cs:=x.cs) i hs e1 e2 hx hy (by omega) (by omega)))) (h:=λ x32 h32=>?_);refine cQ (h:=λ x33=>?_);((refine dG (i:=13) (hq:=(bH.fG (qT (l:=x.made) (m:=x.made.length) rf rf (.tail .head) rfl fin U3 fK (by omega)) yA)) (h:=λ x34=>?_);try (refine fP (λ h34=>?_))));refine J4 ?_;refine mT (i:=16) (hq:=(by exact uX λ _=>dU rf fN wn rf fX rf rf yD)) (h:=λ _=>?_);refine dV ?_;refine mV ?_;refine aE (mL (m:=x.m) (n:=1) rf rf (by omega)) rfl ?_;refine Jv ?_;refine kL (by exact uX λ _=>dU rf fN wn rf fX rf rf yD) (λ _=>?_);refine Xs ?_;refine gB [0,1,2,3,4,5,6,7,8,9,10,11] ?_;refine Ey ?_;refine cJ (i:=8) (hq:=(iJ (m:=x.m+1) (n:=1) rf rf (by omega) (by omega))) (h:=?_);refine bM (i:=9) (hq:=(bX (m:=x.made.length+1) (k:=x.m+1-1) rf rf fK fX (.own (.tail .head)) (by omega) (by rw[List.length_append,List.length_cons,List.length_nil];omega))) (h:=?_);refine bM (i:=10) (hq:=(cP (q:=x.m+1-1) rf fX (.own (.tail .head)) (by rw[List.length_append,List.length_cons,List.length_nil];omega))) (h:=?_);refine J7 ?_
   refine aN Tryz.results114 (λ w hw=>?_)
   rw[show x.made.length+1=(x.made++[((x.L.length+1:Nat):Int)]).length by simp] at hw
   exact⟨(x32,x34),by rw[show x.m+1-1=x.made.length by omega,pP];rfl,trivial,hw.ret (List.Sublist.cons _ (List.Sublist.refl _)) (aX.pD λ f hf=>List.mem_cons_of_mem _ (List.mem_append_left _ hf)) (List.Sublist.refl _)⟩
  ·try (exfalso;omega)
end
end

end Go.Proofs.YtadnboagdhcedaaGreatDoor
