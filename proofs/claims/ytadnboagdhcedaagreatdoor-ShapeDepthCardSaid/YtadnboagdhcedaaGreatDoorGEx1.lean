/- Executions of the reference: known, load, cas. -/
import Derived.Test.YtadnboagdhcedaaGreatDoorGRn1

set_option linter.unusedSimpArgs false
set_option linter.unusedVariables false
namespace Go.Ct
section
def XS.kn(x:XS)(a:Ac):XS:=if x.st=true then x else if x.a<x.got.length then{x with a:=x.a+1} else if x.fr=0 then{x with st:=true,nx:=a} else{x with fr:=x.fr-1}
def XS.bM(x:XS):Bool:=!x.st&&decide (x.a<x.got.length)
def XS.now(x:XS):Bool:=!x.st&&!decide (x.a<x.got.length)&&!decide (x.fr=0)
theorem XS.oz{x:XS}{a:Ac}(h:x.st=true):x.kn a=x/\x.bM=false/\x.now=false:=⟨if_pos h,by simp[XS.bM,h],by simp[XS.now,h]⟩
theorem XS.Zq{x:XS}{a:Ac}(h:x.st=false)(h1:x.a<x.got.length):x.kn a={x with a:=x.a+1}/\x.bM=true/\x.now=false:=⟨by unfold XS.kn;rw[if_neg (by rw[h];decide),if_pos h1],by simp[XS.bM,h,h1],by simp[XS.now,h1]⟩
theorem XS.p9{x:XS}{a:Ac}(h:x.st=false)(h1:¬x.a<x.got.length)(h2:x.fr=0):x.kn a={x with st:=true,nx:=a}/\x.bM=false/\x.now=false:=⟨by unfold XS.kn;rw[if_neg (by rw[h];decide),if_neg h1,if_pos h2],by simp[XS.bM,h1],by simp[XS.now,h2]⟩
theorem XS.da{x:XS}{a:Ac}(h:x.st=false)(h1:¬x.a<x.got.length)(h2:¬x.fr=0):x.kn a={x with fr:=x.fr-1}/\x.bM=false/\x.now=true:=⟨by unfold XS.kn;rw[if_neg (by rw[h];decide),if_neg h1,if_neg h2],by simp[XS.bM,h1],by simp[XS.now,h,h1,h2]⟩
end
end Go.Ct
namespace Go.Proofs.YtadnboagdhcedaaGreatDoor
section
open Go Go.RowKit Go.Ct
section
variable{k:Cl}{bx bm:Nat}{x:XS}{dn:Bool}{rs:Rs}{D:List Nat}{A:Fr}{w:World}
theorem B9(a:Ac)(ok:x.Ok)(hs:SF w D (xH k bx bm x dn rs) A [] (xW x) w):Calls Tryz.prog 142 #[.pointer (some ⟨bx,0,none⟩),.agg ⟨a.cells⟩] w λ e w'=>∃q:Unit,e=.returned (.tuple #[.bool x.bM,.bool x.now])/\True/\SF w D (xH k bx bm (x.kn a) dn rs) [] [] (xW (x.kn a)) w':=by
 have h1:=ok.lg
 have h2:=ok.la
 have h3:=ok.fr
 refine enter Tryz.func142 Tryz.ntmps142 rfl rfl (yt hs) ?_
 simp only[cP]
 refine J0 ?_;refine bP (λ x3=>?_);refine J8 ?_;refine aR ?_;refine Kc5 ?_
 refine aZ (λ c9=>?_) (λ c9=>?_)
 ·refine F5 ?_
  refine bK Tryz.results142 (λ w hw=>?_)
  obtain⟨e1,e2,e3⟩:=XS.oz (a:=a) c9
  rw[e1,e2,e3]
  exact⟨(),rfl,trivial,hw.aT⟩
 ·refine jM ?_;refine aR ?_;refine fK [0,1,2,3,4,5,6,7,8,9] ?_;refine Cc ?_;refine lK ?_;refine Ba ?_;refine dW ?_
  refine aZ (λ c19=>?_) (λ c19=>?_)
  ·refine nA ?_;refine E9 ?_;refine a8 ?_;refine F5 ?_
   refine bK Tryz.results142 (λ w hw=>?_)
   obtain⟨e1,e2,e3⟩:=XS.Zq (a:=a) c9 (by omega)
   rw[e1,e2,e3]
   exact⟨(),rfl,trivial,hw.aT⟩
  ·refine jM ?_;refine nA ?_;refine sX ?_
   refine aZ (λ c31=>?_) (λ c31=>?_)
   ·refine aR ?_;refine eG [(0,[]),(1,[]),(2,[]),(3,[]),(4,[]),(5,[2]),(6,[]),(7,[]),(8,[])] ?_;refine gN ?_;refine bO ?_;refine J4 ?_;refine nP (h:=λ _=>?_);refine J4 ?_;refine lX (i:=8) (hq:=(sW λ _=>pJ (off:=36) (vs:=a.cells) rf dU rf rfl fX (Nat.le_of_ble_eq_true rfl) rf xA)) (h:=λ _=>?_);refine dW ?_;refine F5 ?_
    refine bK Tryz.results142 (λ w hw=>?_)
    obtain⟨e1,e2,e3⟩:=XS.p9 (a:=a) c9 (by omega) (by omega)
    rw[e1,e2,e3]
    exact⟨(),rfl,trivial,hw.aT⟩
   ·refine vi ?_;refine pC ?_;refine a8 ?_;refine F5 ?_
    refine bK Tryz.results142 (λ w hw=>?_)
    obtain⟨e1,e2,e3⟩:=XS.da (a:=a) c9 (by omega) (by omega)
    rw[e1,e2,e3]
    exact⟨(),rfl,trivial,hw.aT⟩
theorem Mv(a:Ac)(ok:x.Ok)(h:x.st=true)(hs:SF w D (xH k bx bm x dn rs) A [] (xW x) w):Calls Tryz.prog 142 #[.pointer (some ⟨bx,0,none⟩),.agg ⟨a.cells⟩] w λ e w'=>∃q:Unit,e=.returned (.tuple #[.bool false,.bool false])/\True/\SF w D (xH k bx bm x dn rs) [] [] (xW x) w':=by
 obtain⟨e1,e2,e3⟩:=XS.oz (a:=a) h
 have:=B9 (k:=k) (bx:=bx) (bm:=bm) (dn:=dn) (rs:=rs) (D:=D) (A:=A) (w:=w) a ok hs
 rw[e1,e2,e3] at this
 exact this
theorem Hz(a:Ac)(ok:x.Ok)(h:x.st=false)(h1:x.a<x.got.length)(hs:SF w D (xH k bx bm x dn rs) A [] (xW x) w):Calls Tryz.prog 142 #[.pointer (some ⟨bx,0,none⟩),.agg ⟨a.cells⟩] w λ e w'=>∃q:Unit,e=.returned (.tuple #[.bool true,.bool false])/\True/\SF w D (xH k bx bm {x with a:=x.a+1} dn rs) [] [] (xW {x with a:=x.a+1}) w':=by
 obtain⟨e1,e2,e3⟩:=XS.Zq (a:=a) h h1
 have:=B9 (k:=k) (bx:=bx) (bm:=bm) (dn:=dn) (rs:=rs) (D:=D) (A:=A) (w:=w) a ok hs
 rw[e1,e2,e3] at this
 exact this
theorem M8(a:Ac)(ok:x.Ok)(h:x.st=false)(h1:¬x.a<x.got.length)(h2:x.fr=0)(hs:SF w D (xH k bx bm x dn rs) A [] (xW x) w):Calls Tryz.prog 142 #[.pointer (some ⟨bx,0,none⟩),.agg ⟨a.cells⟩] w λ e w'=>∃q:Unit,e=.returned (.tuple #[.bool false,.bool false])/\True/\SF w D (xH k bx bm {x with st:=true,nx:=a} dn rs) [] [] (xW {x with st:=true,nx:=a}) w':=by
 obtain⟨e1,e2,e3⟩:=XS.p9 (a:=a) h h1 h2
 have:=B9 (k:=k) (bx:=bx) (bm:=bm) (dn:=dn) (rs:=rs) (D:=D) (A:=A) (w:=w) a ok hs
 rw[e1,e2,e3] at this
 exact this
theorem Gu(a:Ac)(ok:x.Ok)(h:x.st=false)(h1:¬x.a<x.got.length)(h2:¬x.fr=0)(hs:SF w D (xH k bx bm x dn rs) A [] (xW x) w):Calls Tryz.prog 142 #[.pointer (some ⟨bx,0,none⟩),.agg ⟨a.cells⟩] w λ e w'=>∃q:Unit,e=.returned (.tuple #[.bool false,.bool true])/\True/\SF w D (xH k bx bm {x with fr:=x.fr-1} dn rs) [] [] (xW {x with fr:=x.fr-1}) w':=by
 obtain⟨e1,e2,e3⟩:=XS.da (a:=a) h h1 h2
 have:=B9 (k:=k) (bx:=bx) (bm:=bm) (dn:=dn) (rs:=rs) (D:=D) (A:=A) (w:=w) a ok hs
 rw[e1,e2,e3] at this
 exact this
theorem jy(c:Int)(ok:x.Ok)(h:x.st=true)(hs:SF w D (xH k bx bm x dn rs) A [] (xW x) w):Calls Tryz.prog 109 #[.pointer (some ⟨bx,0,none⟩),.int .i64 c] w λ e w'=>∃q:Unit,e=.returned (.int .i64 0)/\True/\SF w D (xH k bx bm x dn rs) [] [] (xW x) w':=by
 refine enter Tryz.func109 Tryz.ntmps109 rfl rfl (bX hs) ?_
 simp only[cP]
 refine cQ ?_;refine iQ ?_;refine bD ?_;refine aC (cM (hs:=xH k bx bm x dn rs) (os:=xW x) (hc:=λ w hs=>Mv ⟨1,c,0,0⟩ ok h hs)) (λ x11 h11=>?_);refine Kb9 ?_;refine aI ?_
 refine aZ (λ c14=>?_) (λ c14=>?_)
 ·exact nv c14
 ·try (exact abt)
  refine jM ?_;refine J2 ?_;refine C4 ?_
  (refine Ka4 ?_)
  refine Rx ?_;refine aI ?_
  refine aZ (λ c43=>?_) (λ c43=>?_)
  ·try (exact abt)
   refine cQ ?_
   refine aQ Tryz.results109 (λ w hw=>?_)
   exact⟨(),rfl,trivial,hw.aT⟩
  ·exact nv c43
theorem lr(c:Int)(ok:x.Ok)(h:x.st=false)(h1:¬x.a<x.got.length)(h2:x.fr=0)(hs:SF w D (xH k bx bm x dn rs) A [] (xW x) w):Calls Tryz.prog 109 #[.pointer (some ⟨bx,0,none⟩),.int .i64 c] w λ e w'=>∃q:Unit,e=.returned (.int .i64 0)/\True/\SF w D (xH k bx bm {x with st:=true,nx:=⟨1,c,0,0⟩} dn rs) [] [] (xW {x with st:=true,nx:=⟨1,c,0,0⟩}) w':=by
 refine enter Tryz.func109 Tryz.ntmps109 rfl rfl (bX hs) ?_
 simp only[cP]
 refine cQ ?_;refine iQ ?_;refine bD ?_;refine aC (cM (hs:=xH k bx bm x dn rs) (os:=xW x) (hc:=λ w hs=>M8 ⟨1,c,0,0⟩ ok h h1 h2 hs)) (λ x11 h11=>?_);refine Kb9 ?_;refine aI ?_
 refine aZ (λ c14=>?_) (λ c14=>?_)
 ·exact nv c14
 ·try (exact abt)
  refine jM ?_;refine J2 ?_;refine C4 ?_
  (refine Ka4 ?_)
  refine Rx ?_;refine aI ?_
  refine aZ (λ c43=>?_) (λ c43=>?_)
  ·try (exact abt)
   refine cQ ?_
   refine aQ Tryz.results109 (λ w hw=>?_)
   exact⟨(),rfl,trivial,hw.aT⟩
  ·exact nv c43
theorem C2(c:Int)(ok:x.Ok)(h:x.st=false)(h1:x.a<x.got.length)(hs:SF w D (xH k bx bm x dn rs) A [] (xW x) w):Calls Tryz.prog 109 #[.pointer (some ⟨bx,0,none⟩),.int .i64 c] w λ e w'=>∃q:Unit,e=.returned (.int .i64 (x.got.getD x.a 0))/\True/\SF w D (xH k bx bm {x with a:=x.a+1} dn rs) [] [] (xW {x with a:=x.a+1}) w':=by
 have hg:=ok.lg
 refine enter Tryz.func109 Tryz.ntmps109 rfl rfl (bX hs) ?_
 simp only[cP]
 refine cQ ?_;refine iQ ?_;refine bD ?_;refine aC (cM (hs:=xH k bx bm x dn rs) (os:=xW x) (hc:=λ w hs=>Hz ⟨1,c,0,0⟩ ok h h1 hs)) (λ x11 h11=>?_);refine Kb9 ?_;refine aI ?_
 refine aZ (λ c14=>?_) (λ c14=>?_)
 ·exact nv c14
 ·try (exact abt)
  refine jM ?_;refine J2 ?_;refine C4 ?_
  refine aH ?_
  refine Rx ?_;refine aI ?_
  refine aZ (λ c43=>?_) (λ c43=>?_)
  ·exact nv c43
  ·try (exact abt)
   refine jM ?_;refine fK [0,1,2,3,4,5,6,7,8,9,10,11] ?_;refine Cc ?_;refine cJ (i:=8) (hq:=(iV (m:=x.a+1) (n:=1) rf rf (by omega) (by omega))) (h:=?_);refine bH (i:=9) (hq:=(cB (m:=x.got.length) (k:=x.a+1-1) (lst:=x.got) rf rf fE gA (.own .head) (by omega) (by omega))) (h:=?_);refine bH (i:=10) (hq:=(cU (q:=x.a+1-1) (lst:=x.got) rf gA (.own .head) (by omega))) (h:=?_);refine J7 ?_
   refine aQ Tryz.results109 (λ w hw=>?_)
   exact⟨(),by rw[Nat.add_sub_cancel];rfl,trivial,hw.aT⟩
theorem a6(c:Int)(hc:c<=9223372036854775807)(ok:x.Ok)(h:x.st=false)(h1:¬x.a<x.got.length)(h2:¬x.fr=0)(hs:SF w D (xH k bx bm x dn rs) A [] (xW x) w):Calls Tryz.prog 109 #[.pointer (some ⟨bx,0,none⟩),.int .i64 c] w λ e w'=>∃q:Option Addr×Nat,e=.returned (.int .i64 (bV x.cs c))/\True/\SF w D (xH k bx bm {x with fr:=x.fr-1,acc:=up x.acc,got:=x.got++[bV x.cs c],pg:=q.1,kg:=q.2,a:=x.a+1} dn rs) [] [] (xW {x with fr:=x.fr-1,acc:=up x.acc,got:=x.got++[bV x.cs c],pg:=q.1,kg:=q.2,a:=x.a+1}) w':=by
 have hg:=ok.lg
 have ha:=ok.la
 have hlc:=ok.lc
 refine enter Tryz.func109 Tryz.ntmps109 rfl rfl (bX hs) ?_
 simp only[cP]
 refine cQ ?_;refine iQ ?_;refine bD ?_;refine aC (cM (hs:=xH k bx bm x dn rs) (os:=xW x) (hc:=λ w hs=>Gu ⟨1,c,0,0⟩ ok h h1 h2 hs)) (λ x11 h11=>?_);refine Kb9 ?_;refine aI ?_
 refine aZ (λ c14=>?_) (λ c14=>?_)
 ·try (exact abt)
  refine eG [(0,[]),(1,[]),(2,[]),(3,[]),(4,[]),(5,[]),(6,[]),(7,[]),(8,[]),(9,[]),(10,[]),(14,[]),(15,[]),(16,[]),(17,[]),(18,[]),(11,[5,17]),(12,[5,17]),(13,[17]),(19,[]),(20,[]),(21,[]),(22,[]),(23,[]),(24,[])] ?_;refine gN ?_;refine Cc ?_;refine uo ?_;refine cJ (i:=18) (hq:=(lU (m:=x.a) (n:=1) rf rf (by omega))) (h:=?_);refine bC (i:=11) (hq:=(cM (hc:=λ w hs=>na (L:=x.L) (cs:=x.cs) hs c hc (by omega)))) (h:=λ x26 h26=>?_);refine cW (h:=λ x27=>?_);((refine cX (i:=13) (hq:=(bJ.fA (qV (l:=x.got) (v:=bV x.cs c) (m:=x.got.length) rf rf .head rfl fin Y5 fE (by omega)) xB)) (h:=λ x28=>?_);try (refine fW (λ h28=>?_))));refine J4 ?_;refine lX (i:=21) (hq:=(by exact sW λ _=>dZ rf dU wn rf gA rf rf xA)) (h:=λ _=>?_);refine J4 ?_;refine lX (i:=24) (hq:=(by exact sW λ _=>dZ rf dU wn rf gA rf rf xA)) (h:=λ _=>?_);refine dW ?_;refine kR ?_;refine C4 ?_
  (refine Ka4 ?_)
  refine Rx ?_;refine aI ?_
  refine aZ (λ c43=>?_) (λ c43=>?_)
  ·exact nv c43
  ·try (exact abt)
   refine jM ?_;refine fK [0,1,2,3,4,5,6,7,8,9,10,11] ?_;refine Cc ?_;refine cJ (i:=8) (hq:=(iV (m:=x.a+1) (n:=1) rf rf (by omega) (by omega))) (h:=?_);refine bH (i:=9) (hq:=(cB (m:=x.got.length+1) (k:=x.a+1-1) (lst:=x.got++[bV x.cs c]) rf rf fE gA (.own .head) (by omega) (by rw[List.length_append,List.length_cons,List.length_nil];omega))) (h:=?_);refine bH (i:=10) (hq:=(cU (q:=x.a+1-1) (lst:=x.got++[bV x.cs c]) rf gA (.own .head) (by rw[List.length_append,List.length_cons,List.length_nil];omega))) (h:=?_);refine J7 ?_
   refine aQ Tryz.results109 (λ w hw=>?_)
   rw[show x.got.length+1=(x.got++[bV x.cs c]).length by simp] at hw
   exact⟨x28,by rw[show(x.got++[bV x.cs c]).getD (x.a+1-1) 0=bV x.cs c by rw[show x.a+1-1=x.got.length by omega,fM,List.getElem?_append_right (Nat.le_refl _)];simp];rfl,trivial,hw.aT⟩
 ·exact nv c14
end
end

/- Executions of the reference: cas. -/
end Go.Proofs.YtadnboagdhcedaaGreatDoor
namespace Go.Ct
section
def Ob(b:Bool):Int:=if b=true then 1 else 0
theorem pY(l:List Int)(v:Int):(l++[v]).getD l.length 0=v:=by rw[fM,List.getElem?_append_right (Nat.le_refl _)];simp
end
end Go.Ct
namespace Go.Proofs.YtadnboagdhcedaaGreatDoor
section
open Go Go.RowKit Go.Ct
section
variable{k:Cl}{bx bm:Nat}{x:XS}{dn:Bool}{rs:Rs}{D:List Nat}{A:Fr}{w:World}
theorem rk(c o n:Int)(ok:x.Ok)(h:x.st=true)(hs:SF w D (xH k bx bm x dn rs) A [] (xW x) w):Calls Tryz.prog 111 #[.pointer (some ⟨bx,0,none⟩),.int .i64 c,.int .i64 o,.int .i64 n] w λ e w'=>∃q:Unit,e=.returned (.bool false)/\True/\SF w D (xH k bx bm x dn rs) [] [] (xW x) w':=by
 refine enter Tryz.func111 Tryz.ntmps111 rfl rfl (bX hs) ?_
 simp only[cP]
 refine cQ ?_;refine iQ ?_;refine nX ?_;refine bD ?_;refine aC (cM (hs:=xH k bx bm x dn rs) (os:=xW x) (hc:=λ w hs=>Mv ⟨2,c,o,n⟩ ok h hs)) (λ x18 h18=>?_);refine Kb9 ?_;refine aI ?_
 refine aZ (λ c21=>?_) (λ c21=>?_)
 ·exact nv c21
 ·try (exact abt)
  refine jM ?_;refine fK [0,1,2,3,4,5,6,7,8,9,10,11,12,13,14,15,16,17,18] ?_;refine gN ?_
  (refine aS ?_)
  refine iU ?_;refine aS ?_
  refine fU ?_
  refine J60 ?_;refine v9 ?_;(refine fU ?_);refine J74 ?_;refine dt ?_;refine J7 ?_
  refine aQ Tryz.results111 (λ w hw=>?_)
  exact⟨(),rfl,trivial,hw.aT⟩
theorem u5(c o n:Int)(ok:x.Ok)(h:x.st=false)(h1:¬x.a<x.got.length)(h2:x.fr=0)(hs:SF w D (xH k bx bm x dn rs) A [] (xW x) w):Calls Tryz.prog 111 #[.pointer (some ⟨bx,0,none⟩),.int .i64 c,.int .i64 o,.int .i64 n] w λ e w'=>∃q:Unit,e=.returned (.bool false)/\True/\SF w D (xH k bx bm {x with st:=true,nx:=⟨2,c,o,n⟩} dn rs) [] [] (xW {x with st:=true,nx:=⟨2,c,o,n⟩}) w':=by
 refine enter Tryz.func111 Tryz.ntmps111 rfl rfl (bX hs) ?_
 simp only[cP]
 refine cQ ?_;refine iQ ?_;refine nX ?_;refine bD ?_;refine aC (cM (hs:=xH k bx bm x dn rs) (os:=xW x) (hc:=λ w hs=>M8 ⟨2,c,o,n⟩ ok h h1 h2 hs)) (λ x18 h18=>?_);refine Kb9 ?_;refine aI ?_
 refine aZ (λ c21=>?_) (λ c21=>?_)
 ·exact nv c21
 ·try (exact abt)
  refine jM ?_;refine fK [0,1,2,3,4,5,6,7,8,9,10,11,12,13,14,15,16,17,18] ?_;refine gN ?_
  (refine aS ?_)
  refine iU ?_;refine aS ?_
  refine fU ?_
  refine J60 ?_;refine v9 ?_;(refine fU ?_);refine J74 ?_;refine dt ?_;refine J7 ?_
  refine aQ Tryz.results111 (λ w hw=>?_)
  exact⟨(),rfl,trivial,hw.aT⟩
theorem Iu(c o n:Int)(ok:x.Ok)(h:x.st=false)(h1:x.a<x.got.length)(hs:SF w D (xH k bx bm x dn rs) A [] (xW x) w):Calls Tryz.prog 111 #[.pointer (some ⟨bx,0,none⟩),.int .i64 c,.int .i64 o,.int .i64 n] w λ e w'=>∃q:Unit,e=.returned (.bool (x.got.getD x.a 0==1))/\True/\SF w D (xH k bx bm {x with a:=x.a+1} dn rs) [] [] (xW {x with a:=x.a+1}) w':=by
 have hg:=ok.lg
 refine enter Tryz.func111 Tryz.ntmps111 rfl rfl (bX hs) ?_
 simp only[cP]
 refine cQ ?_;refine iQ ?_;refine nX ?_;refine bD ?_;refine aC (cM (hs:=xH k bx bm x dn rs) (os:=xW x) (hc:=λ w hs=>Hz ⟨2,c,o,n⟩ ok h h1 hs)) (λ x18 h18=>?_);refine Kb9 ?_;refine aI ?_
 refine aZ (λ c21=>?_) (λ c21=>?_)
 ·exact nv c21
 ·try (exact abt)
  refine jM ?_;refine fK [0,1,2,3,4,5,6,7,8,9,10,11,12,13,14,15,16,17,18] ?_;refine gN ?_
  refine fU ?_
  refine iU ?_;refine aS ?_
  (refine aS ?_)
  refine J60 ?_;refine v9 ?_;((refine cJ (i:=13) (hq:=(iV (m:=x.a+1) (n:=1) rf rf (by omega) (by omega))) (h:=?_)));((refine bH (i:=14) (hq:=(cB (m:=x.got.length) (k:=x.a+1-1) (lst:=x.got) rf rf fE gA (.own .head) (by omega) (by omega))) (h:=?_)));((refine bH (i:=15) (hq:=(cU (q:=x.a+1-1) (lst:=x.got) rf gA (.own .head) (by omega))) (h:=?_)));refine dt ?_;refine J7 ?_
  refine aQ Tryz.results111 (λ w hw=>?_)
  exact⟨(),by rw[Nat.add_sub_cancel];rfl,trivial,hw.aT⟩
theorem jg(c o n:Int)(hc:c<=9223372036854775807)(ok:x.Ok)(h:x.st=false)(h1:¬x.a<x.got.length)(h2:¬x.fr=0)(hs:SF w D (xH k bx bm x dn rs) A [] (xW x) w):Calls Tryz.prog 111 #[.pointer (some ⟨bx,0,none⟩),.int .i64 c,.int .i64 o,.int .i64 n] w λ e w'=>∃q:Bool×(Option Addr×Nat),e=.returned (.bool q.1)/\(q.1=true↔iT x.cs c o)/\SF w D (xH k bx bm {x with fr:=x.fr-1,cs:=gF x.cs c o n,acc:=up x.acc,got:=x.got++[Ob q.1],pg:=q.2.1,kg:=q.2.2,a:=x.a+1} dn rs) [] [] (xW {x with fr:=x.fr-1,cs:=gF x.cs c o n,acc:=up x.acc,got:=x.got++[Ob q.1],pg:=q.2.1,kg:=q.2.2,a:=x.a+1}) w':=by
 have hg:=ok.lg
 have ha:=ok.la
 have hlc:=ok.lc
 refine enter Tryz.func111 Tryz.ntmps111 rfl rfl (bX hs) ?_
 simp only[cP]
 refine cQ ?_;refine iQ ?_;refine nX ?_;refine bD ?_;refine aC (cM (hs:=xH k bx bm x dn rs) (os:=xW x) (hc:=λ w hs=>Gu ⟨2,c,o,n⟩ ok h h1 h2 hs)) (λ x18 h18=>?_);refine Kb9 ?_;refine aI ?_
 refine aZ (λ c21=>?_) (λ c21=>?_)
 ·try (exact abt)
  refine F2 ?_;refine nA ?_;refine nX ?_;refine aB ?_;refine aC (cM (V:=.bool) (hc:=λ w hs=>u4 (L:=x.L) (cs:=x.cs) hs c o n hc (by omega))) (λ x29 h29=>?_);refine aI ?_
  refine aZ (λ c29=>?_) (λ c29=>?_)
  ·try (exact abt)
   have hv:(1:Int)=Ob x29:=by rw[c29];rfl
   refine dJ ?_;refine J1 ?_;refine eG [(0,[]),(1,[]),(2,[]),(3,[]),(4,[]),(5,[]),(6,[]),(9,[]),(10,[]),(11,[]),(12,[]),(13,[]),(7,[5,12]),(8,[12]),(14,[]),(15,[]),(16,[]),(17,[]),(18,[]),(19,[])] ?_;refine gN ?_;refine du ?_;refine uo ?_;refine cJ (i:=13) (hq:=(lU (m:=x.a) (n:=1) rf rf (by omega))) (h:=?_);refine cW (h:=λ x37=>?_);((refine cX (i:=8) (hq:=(bJ.fA (qV (l:=x.got) (m:=x.got.length) rf rf .head rfl fin Y5 fE (by omega)) xB)) (h:=λ x38=>?_);try (refine fW (λ h38=>?_))));refine J4 ?_;refine lX (i:=16) (hq:=(by exact sW λ _=>dZ rf dU wn rf gA rf rf xA)) (h:=λ _=>?_);refine J4 ?_;refine lX (i:=19) (hq:=(by exact sW λ _=>dZ rf dU wn rf gA rf rf xA)) (h:=λ _=>?_);refine dW ?_;refine aR ?_;refine fK [0,1,2,3,4,5,6,7,8,9,10,11,12,13,14,15,16,17,18] ?_;refine gN ?_
   (refine aS ?_)
   refine iU ?_;refine aS ?_
   (refine aS ?_)
   refine J60 ?_;refine v9 ?_;((refine cJ (i:=13) (hq:=(iV (m:=x.a+1) (n:=1) rf rf (by omega) (by omega))) (h:=?_)));((refine bH (i:=14) (hq:=(cB (m:=x.got.length+1) (k:=x.a+1-1) rf rf fE gA (.own .head) (by omega) (by rw[List.length_append,List.length_cons,List.length_nil];omega))) (h:=?_)));((refine bH (i:=15) (hq:=(cU (q:=x.a+1-1) rf gA (.own .head) (by rw[List.length_append,List.length_cons,List.length_nil];omega))) (h:=?_)));refine dt ?_;refine J7 ?_
   refine aQ Tryz.results111 (λ w hw=>?_)
   rw[hv] at hw
   rw[show x.got.length+1=(x.got++[Ob x29]).length by simp] at hw
   exact⟨(x29,x38),by rw[show x.a+1-1=x.got.length by omega,pY,c29];rfl,h29,hw.aT⟩
  ·try (exact abt)
   have hv:(0:Int)=Ob x29:=by rw[c29];rfl
   refine bA ?_;refine eG [(0,[]),(1,[]),(2,[]),(3,[]),(4,[]),(5,[]),(6,[]),(9,[]),(10,[]),(11,[]),(12,[]),(13,[]),(7,[5,12]),(8,[12]),(14,[]),(15,[]),(16,[]),(17,[]),(18,[]),(19,[])] ?_;refine gN ?_;refine du ?_;refine uo ?_;refine cJ (i:=13) (hq:=(lU (m:=x.a) (n:=1) rf rf (by omega))) (h:=?_);refine cW (h:=λ x37=>?_);((refine cX (i:=8) (hq:=(bJ.fA (qV (l:=x.got) (m:=x.got.length) rf rf .head rfl fin Y5 fE (by omega)) xB)) (h:=λ x38=>?_);try (refine fW (λ h38=>?_))));refine J4 ?_;refine lX (i:=16) (hq:=(by exact sW λ _=>dZ rf dU wn rf gA rf rf xA)) (h:=λ _=>?_);refine J4 ?_;refine lX (i:=19) (hq:=(by exact sW λ _=>dZ rf dU wn rf gA rf rf xA)) (h:=λ _=>?_);refine dW ?_;refine aR ?_;refine fK [0,1,2,3,4,5,6,7,8,9,10,11,12,13,14,15,16,17,18] ?_;refine gN ?_
   (refine aS ?_)
   refine iU ?_;refine aS ?_
   (refine aS ?_)
   refine J60 ?_;refine v9 ?_;((refine cJ (i:=13) (hq:=(iV (m:=x.a+1) (n:=1) rf rf (by omega) (by omega))) (h:=?_)));((refine bH (i:=14) (hq:=(cB (m:=x.got.length+1) (k:=x.a+1-1) rf rf fE gA (.own .head) (by omega) (by rw[List.length_append,List.length_cons,List.length_nil];omega))) (h:=?_)));((refine bH (i:=15) (hq:=(cU (q:=x.a+1-1) rf gA (.own .head) (by rw[List.length_append,List.length_cons,List.length_nil];omega))) (h:=?_)));refine dt ?_;refine J7 ?_
   refine aQ Tryz.results111 (λ w hw=>?_)
   rw[hv] at hw
   rw[show x.got.length+1=(x.got++[Ob x29]).length by simp] at hw
   exact⟨(x29,x38),by rw[show x.a+1-1=x.got.length by omega,pY,c29];rfl,h29,hw.aT⟩
 ·exact nv c21
end
end

/- Executions of the reference: nodes, allocations, cells, generations. -/
section
open Go Go.RowKit Go.Ct
section
variable{k:Cl}{bx bm:Nat}{x:XS}{dn:Bool}{rs:Rs}{D:List Nat}{A:Fr}{w:World}
theorem eS(r:Int)(hr:r<=9223372036854775807)(ok:x.Ok)(hs:SF w D (xH k bx bm x dn rs) A [] (xW x) w):Calls Tryz.prog 110 #[.pointer (some ⟨bx,0,none⟩),.int .i64 r] w λ e w'=>∃q:Unit,e=.returned (aA x.L r).nd.v/\True/\SF w D (xH k bx bm x dn rs) [] [] (xW x) w':=by
 have hl:=ok.lL
 refine enter Tryz.func110 Tryz.ntmps110 rfl rfl (bX hs) ?_
 simp only[cP]
 refine J0 ?_;refine aP (λ x4=>?_);refine aI ?_;refine nA ?_;refine aB ?_;refine aC (cM (hc:=λ w hs=>fx (L:=x.L) (cs:=x.cs) hs r hr (by omega))) (λ x10 h10=>?_);refine J5 ?_
 refine bK Tryz.results110 (λ w hw=>?_)
 exact⟨(),rfl,trivial,hw.aT⟩
theorem Wu{n:Nd}(i:Int)(h:x.st=true)(hs:SF w D (xH k bx bm x dn rs) A [] (xW x) w):Calls Tryz.prog 114 #[.pointer (some ⟨bx,0,none⟩),n.v,.int .i64 i] w λ e w'=>∃q:Unit,e=.returned (.int .i64 0)/\True/\SF w D (xH k bx bm x dn rs) [] [] (xW x) w':=by
 refine enter Tryz.func114 Tryz.ntmps114 rfl rfl (bX hs) ?_
 simp only[cP]
 simp only[Nd.v]
 refine J0 ?_;refine bP (λ x4=>?_);refine gP ?_;refine Kc5 ?_
 refine aZ (λ c10=>?_) (λ c10=>?_)
 ·refine cQ ?_
  refine aQ Tryz.results114 (λ w hw=>?_)
  exact⟨(),rfl,trivial,hw.aT⟩
 ·exact absurd (h.symm.trans c10) (by decide)
theorem alloc_old{n:Nd}(i:Int)(ok:x.Ok)(h:x.st=false)(h1:x.m<x.made.length)(hl:x.made.length<=274877906944)(hs:SF w D (xH k bx bm x dn rs) A [] (xW x) w):Calls Tryz.prog 114 #[.pointer (some ⟨bx,0,none⟩),n.v,.int .i64 i] w λ e w'=>∃q:Unit,e=.returned (.int .i64 (x.made.getD x.m 0))/\True/\SF w D (xH k bx bm {x with m:=x.m+1} dn rs) [] [] (xW {x with m:=x.m+1}) w':=by
 refine enter Tryz.func114 Tryz.ntmps114 rfl rfl (bX hs) ?_
 simp only[cP]
 simp only[Nd.v]
 refine J0 ?_;refine bP (λ x4=>?_);refine gP ?_;refine Kc5 ?_
 refine aZ (λ c10=>?_) (λ c10=>?_)
 ·try (exfalso;omega)
  exact absurd (h.symm.trans c10) (by decide)
 ·try (exfalso;omega)
  refine jM ?_;refine aR ?_;refine fK [0,1,2,3,4,5,6,7,8,9] ?_;refine Cc ?_;refine lK ?_;refine mK ?_;refine dW ?_
  refine aZ (λ c20=>?_) (λ c20=>?_)
  ·try (exfalso;omega)
  ·try (exfalso;omega)
   refine vi ?_;refine aE (lU (m:=x.m) (n:=1) rf rf (by omega)) rfl ?_;refine Ky ?_;refine kA (by exact sW λ _=>dZ rf dU wn rf gA rf rf xA) (λ _=>?_);refine Ug ?_;refine fK [0,1,2,3,4,5,6,7,8,9,10,11] ?_;refine Cc ?_;refine cJ (i:=8) (hq:=(iV (m:=x.m+1) (n:=1) rf rf (by omega) (by omega))) (h:=?_);refine bH (i:=9) (hq:=(cB (m:=x.made.length) (k:=x.m+1-1) (lst:=x.made) rf rf fE gA (.own (.tail .head)) (by omega) (by omega))) (h:=?_);refine bH (i:=10) (hq:=(cU (q:=x.m+1-1) (lst:=x.made) rf gA (.own (.tail .head)) (by omega))) (h:=?_);refine J7 ?_
   refine aQ Tryz.results114 (λ w hw=>?_)
   exact⟨(),by rw[Nat.add_sub_cancel];rfl,trivial,hw.aT⟩
theorem Up{n:Nd}{xs:List Int}{ys:List Pr}(i:Int)(ok:x.Ok)(h:x.st=false)(h1:x.m=x.made.length)(hl:x.made.length<=137438953472)(hLl:x.L.length<=274877906900)(hcl:x.cs.length<=274877906900)(e1:n.brN=xs.length)(e2:n.prN=ys.length)(hx:xs.length<=274877906944)(hy:ys.length<=274877906944)(hs:SF w D (xH k bx bm x dn rs) [(n.brA,aG xs),(n.prA,dF ys)] [] (xW x) w):Calls Tryz.prog 114 #[.pointer (some ⟨bx,0,none⟩),n.v,.int .i64 i] w λ e w'=>∃q:AX×(Option Addr×Nat),e=.returned (.int .i64 ((x.L.length+1:Nat):Int))/\True /\
   SF w D (xH k bx bm {x with L:=x.L++[kK n xs ys x.cs.length q.1],cs:=gG n.kind x.cs i,pn:=q.1.pn,cn:=q.1.cn,pc:=q.1.pc,cc:=q.1.cc,made:=x.made++[((x.L.length+1:Nat):Int)],pm:=q.2.1,km:=q.2.2,m:=x.m+1} dn rs) [] (kK n xs ys x.cs.length q.1).fr (xW {x with L:=x.L++[kK n xs ys x.cs.length q.1],cs:=gG n.kind x.cs i,pn:=q.1.pn,cn:=q.1.cn,pc:=q.1.pc,cc:=q.1.cc,made:=x.made++[((x.L.length+1:Nat):Int)],pm:=q.2.1,km:=q.2.2,m:=x.m+1}) w':=by
 refine enter Tryz.func114 Tryz.ntmps114 rfl rfl (bX hs) ?_
 simp only[cP]
 simp only[Nd.v]
 refine J0 ?_;refine bP (λ x4=>?_);refine gP ?_;refine Kc5 ?_
 refine aZ (λ c10=>?_) (λ c10=>?_)
 ·try (exfalso;omega)
  exact absurd (h.symm.trans c10) (by decide)
 ·try (exfalso;omega)
  refine jM ?_;refine aR ?_;refine fK [0,1,2,3,4,5,6,7,8,9] ?_;refine Cc ?_;refine lK ?_;refine mK ?_;refine dW ?_
  refine aZ (λ c20=>?_) (λ c20=>?_)
  ·try (exfalso;omega)
   refine eG [(0,[]),(1,[]),(2,[]),(3,[]),(4,[]),(5,[]),(6,[]),(7,[]),(8,[]),(9,[]),(10,[]),(11,[4]),(12,[4]),(13,[]),(14,[]),(15,[]),(16,[])] ?_;refine aS ?_;refine Cc ?_;refine bO ?_;refine aS ?_;refine bC (i:=11) (hq:=(cM (A0:=[(n.brA,aG xs),(n.prA,dF ys)]) (hc:=λ w hs=>mR (n:=n) (L:=x.L) (cs:=x.cs) i hs e1 e2 hx hy (by omega) (by omega)))) (h:=λ x32 h32=>?_);refine cW (h:=λ x33=>?_);((refine cX (i:=13) (hq:=(bJ.fA (qV (l:=x.made) (m:=x.made.length) rf rf (.tail .head) rfl fin Y5 fE (by omega)) xB)) (h:=λ x34=>?_);try (refine fW (λ h34=>?_))));refine J4 ?_;refine lX (i:=16) (hq:=(by exact sW λ _=>dZ rf dU wn rf gA rf rf xA)) (h:=λ _=>?_);refine dW ?_;refine nA ?_;refine aE (lU (m:=x.m) (n:=1) rf rf (by omega)) rfl ?_;refine Ky ?_;refine kA (by exact sW λ _=>dZ rf dU wn rf gA rf rf xA) (λ _=>?_);refine Ug ?_;refine fK [0,1,2,3,4,5,6,7,8,9,10,11] ?_;refine Cc ?_;refine cJ (i:=8) (hq:=(iV (m:=x.m+1) (n:=1) rf rf (by omega) (by omega))) (h:=?_);refine bH (i:=9) (hq:=(cB (m:=x.made.length+1) (k:=x.m+1-1) rf rf fE gA (.own (.tail .head)) (by omega) (by rw[List.length_append,List.length_cons,List.length_nil];omega))) (h:=?_);refine bH (i:=10) (hq:=(cU (q:=x.m+1-1) rf gA (.own (.tail .head)) (by rw[List.length_append,List.length_cons,List.length_nil];omega))) (h:=?_);refine J7 ?_
   refine aQ Tryz.results114 (λ w hw=>?_)
   rw[show x.made.length+1=(x.made++[((x.L.length+1:Nat):Int)]).length by simp] at hw
   exact⟨(x32,x34),by rw[show x.m+1-1=x.made.length by omega,pY];rfl,trivial,hw.ret (List.Sublist.cons _ (List.Sublist.refl _)) (aW.oP λ f hf=>List.mem_cons_of_mem _ (List.mem_append_left _ hf)) (List.Sublist.refl _)⟩
  ·try (exfalso;omega)
end
end

end Go.Proofs.YtadnboagdhcedaaGreatDoor
