/- Executions of the reference: known, load, cas. -/
import Derived.Test.YtbajmaoegmbfgaaGreatGRn1
import Derived.Test.YtbajmaoegmbfgaaGreatSp1

set_option linter.unusedSimpArgs false
set_option linter.unusedVariables false
namespace Go.Ct
section
def XS.kn(x:XS)(a:Ac):XS:=if x.st=true then x else if x.a<x.got.length then{x with a:=x.a+1} else if x.fr=0 then{x with st:=true,nx:=a} else{x with fr:=x.fr-1}
def XS.aZ(x:XS):Bool:=!x.st&&decide (x.a<x.got.length)
def XS.now(x:XS):Bool:=!x.st&&!decide (x.a<x.got.length)&&!decide (x.fr=0)
theorem XS.uh{x:XS}{a:Ac}(h:x.st=true):x.kn a=x/\x.aZ=false/\x.now=false:=⟨if_pos h,by simp[XS.aZ,h],by simp[XS.now,h]⟩
theorem XS.dm{x:XS}{a:Ac}(h:x.st=false)(h1:x.a<x.got.length):x.kn a={x with a:=x.a+1}/\x.aZ=true/\x.now=false:=⟨by unfold XS.kn;rw[if_neg (by rw[h];decide),if_pos h1],by simp[XS.aZ,h,h1],by simp[XS.now,h1]⟩
theorem XS.th{x:XS}{a:Ac}(h:x.st=false)(h1:¬x.a<x.got.length)(h2:x.fr=0):x.kn a={x with st:=true,nx:=a}/\x.aZ=false/\x.now=false:=⟨by unfold XS.kn;rw[if_neg (by rw[h];decide),if_neg h1,if_pos h2],by simp[XS.aZ,h1],by simp[XS.now,h2]⟩
theorem XS.Y3{x:XS}{a:Ac}(h:x.st=false)(h1:¬x.a<x.got.length)(h2:¬x.fr=0):x.kn a={x with fr:=x.fr-1}/\x.aZ=false/\x.now=true:=⟨by unfold XS.kn;rw[if_neg (by rw[h];decide),if_neg h1,if_neg h2],by simp[XS.aZ,h1],by simp[XS.now,h,h1,h2]⟩
end
end Go.Ct
namespace Go.Proofs.YtbajmaoegmbfgaaGreat
section
open Go Go.RowKit Go.Ct
section
variable{k:Cl}{bx bm:Nat}{x:XS}{dn:Bool}{rs:Rs}{D:List Nat}{A:Fr}{w:World}
theorem Dv(a:Ac)(ok:x.Ok)(hs:SF w D (xH k bx bm x dn rs) A [] (xW x) w):Calls Tryz.prog 240 #[.pointer (some ⟨bx,0,none⟩),.agg ⟨a.cells⟩] w λ e w'=>∃q:Unit,e=.returned (.tuple #[.bool x.aZ,.bool x.now])/\True/\SF w D (xH k bx bm (x.kn a) dn rs) [] [] (xW (x.kn a)) w':=by
 have h1:=ok.lg
 have h2:=ok.la
 have h3:=ok.fr
 refine enter Tryz.func240 Tryz.ntmps240 rfl rfl (aAK hs) ?_
 simp only[cD]
 refine J0 ?_;refine bO (λ x3=>?_);refine J8 ?_;refine aR ?_;refine Kb9 ?_
 refine bC (λ c9=>?_) (λ c9=>?_)
 ·refine Na ?_
  refine bA Tryz.results240 (λ w hw=>?_)
  obtain⟨e1,e2,e3⟩:=XS.uh (a:=a) c9
  rw[e1,e2,e3]
  exact⟨(),rfl,trivial,hw.aW⟩
 ·refine lI ?_;refine aR ?_;refine gE [0,1,2,3,4,5,6,7,8,9] ?_;refine Ea ?_;refine oF ?_;refine Cc ?_;refine eK ?_
  refine bC (λ c19=>?_) (λ c19=>?_)
  ·refine lD ?_;refine F5 ?_;refine K8 ?_;refine Na ?_
   refine bA Tryz.results240 (λ w hw=>?_)
   obtain⟨e1,e2,e3⟩:=XS.dm (a:=a) c9 (by omega)
   rw[e1,e2,e3]
   exact⟨(),rfl,trivial,hw.aW⟩
  ·refine lI ?_;refine lD ?_;refine tS ?_
   refine bC (λ c31=>?_) (λ c31=>?_)
   ·refine aR ?_;refine eM [(0,[]),(1,[]),(2,[]),(3,[]),(4,[]),(5,[2]),(6,[]),(7,[]),(8,[])] ?_;refine gU ?_;refine bY ?_;refine J4 ?_;refine oT (h:=λ _=>?_);refine J4 ?_;refine kZ (i:=8) (hq:=(gS λ _=>lE (off:=36) (vs:=a.cells) rf cX rf rfl eH (Nat.le_of_ble_eq_true rfl) rf jV)) (h:=λ _=>?_);refine eK ?_;refine Na ?_
    refine bA Tryz.results240 (λ w hw=>?_)
    obtain⟨e1,e2,e3⟩:=XS.th (a:=a) c9 (by omega) (by omega)
    rw[e1,e2,e3]
    exact⟨(),rfl,trivial,hw.aW⟩
   ·refine tg ?_;refine rR ?_;refine K8 ?_;refine Na ?_
    refine bA Tryz.results240 (λ w hw=>?_)
    obtain⟨e1,e2,e3⟩:=XS.Y3 (a:=a) c9 (by omega) (by omega)
    rw[e1,e2,e3]
    exact⟨(),rfl,trivial,hw.aW⟩
theorem Ni(a:Ac)(ok:x.Ok)(h:x.st=true)(hs:SF w D (xH k bx bm x dn rs) A [] (xW x) w):Calls Tryz.prog 240 #[.pointer (some ⟨bx,0,none⟩),.agg ⟨a.cells⟩] w λ e w'=>∃q:Unit,e=.returned (.tuple #[.bool false,.bool false])/\True/\SF w D (xH k bx bm x dn rs) [] [] (xW x) w':=by
 obtain⟨e1,e2,e3⟩:=XS.uh (a:=a) h
 have:=Dv (k:=k) (bx:=bx) (bm:=bm) (dn:=dn) (rs:=rs) (D:=D) (A:=A) (w:=w) a ok hs
 rw[e1,e2,e3] at this
 exact this
theorem Ii(a:Ac)(ok:x.Ok)(h:x.st=false)(h1:x.a<x.got.length)(hs:SF w D (xH k bx bm x dn rs) A [] (xW x) w):Calls Tryz.prog 240 #[.pointer (some ⟨bx,0,none⟩),.agg ⟨a.cells⟩] w λ e w'=>∃q:Unit,e=.returned (.tuple #[.bool true,.bool false])/\True/\SF w D (xH k bx bm {x with a:=x.a+1} dn rs) [] [] (xW {x with a:=x.a+1}) w':=by
 obtain⟨e1,e2,e3⟩:=XS.dm (a:=a) h h1
 have:=Dv (k:=k) (bx:=bx) (bm:=bm) (dn:=dn) (rs:=rs) (D:=D) (A:=A) (w:=w) a ok hs
 rw[e1,e2,e3] at this
 exact this
theorem Pd(a:Ac)(ok:x.Ok)(h:x.st=false)(h1:¬x.a<x.got.length)(h2:x.fr=0)(hs:SF w D (xH k bx bm x dn rs) A [] (xW x) w):Calls Tryz.prog 240 #[.pointer (some ⟨bx,0,none⟩),.agg ⟨a.cells⟩] w λ e w'=>∃q:Unit,e=.returned (.tuple #[.bool false,.bool false])/\True/\SF w D (xH k bx bm {x with st:=true,nx:=a} dn rs) [] [] (xW {x with st:=true,nx:=a}) w':=by
 obtain⟨e1,e2,e3⟩:=XS.th (a:=a) h h1 h2
 have:=Dv (k:=k) (bx:=bx) (bm:=bm) (dn:=dn) (rs:=rs) (D:=D) (A:=A) (w:=w) a ok hs
 rw[e1,e2,e3] at this
 exact this
theorem It(a:Ac)(ok:x.Ok)(h:x.st=false)(h1:¬x.a<x.got.length)(h2:¬x.fr=0)(hs:SF w D (xH k bx bm x dn rs) A [] (xW x) w):Calls Tryz.prog 240 #[.pointer (some ⟨bx,0,none⟩),.agg ⟨a.cells⟩] w λ e w'=>∃q:Unit,e=.returned (.tuple #[.bool false,.bool true])/\True/\SF w D (xH k bx bm {x with fr:=x.fr-1} dn rs) [] [] (xW {x with fr:=x.fr-1}) w':=by
 obtain⟨e1,e2,e3⟩:=XS.Y3 (a:=a) h h1 h2
 have:=Dv (k:=k) (bx:=bx) (bm:=bm) (dn:=dn) (rs:=rs) (D:=D) (A:=A) (w:=w) a ok hs
 rw[e1,e2,e3] at this
 exact this
theorem rl(c:Int)(ok:x.Ok)(h:x.st=true)(hs:SF w D (xH k bx bm x dn rs) A [] (xW x) w):Calls Tryz.prog 210 #[.pointer (some ⟨bx,0,none⟩),.int .i64 c] w λ e w'=>∃q:Unit,e=.returned (.int .i64 0)/\True/\SF w D (xH k bx bm x dn rs) [] [] (xW x) w':=by
 refine enter Tryz.func210 Tryz.ntmps210 rfl rfl (cB hs) ?_
 simp only[cD]
 refine cU ?_;refine iX ?_;refine bM ?_;refine aD (cM (hs:=xH k bx bm x dn rs) (os:=xW x) (hc:=λ w hs=>Ni ⟨1,c,0,0⟩ ok h hs)) (λ x11 h11=>?_);refine Kc7 ?_;refine aG ?_
 refine bC (λ c14=>?_) (λ c14=>?_)
 ·exact nv c14
 ·try (exact abt)
  refine lI ?_;refine J2 ?_;refine Et ?_
  (refine Ka3 ?_)
  refine Kc4 ?_
  refine bC (λ c43=>?_) (λ c43=>?_)
  ·try (exact abt)
   refine cU ?_
   refine aN Tryz.results210 (λ w hw=>?_)
   exact⟨(),rfl,trivial,hw.aW⟩
  ·exact nv c43
theorem qq(c:Int)(ok:x.Ok)(h:x.st=false)(h1:¬x.a<x.got.length)(h2:x.fr=0)(hs:SF w D (xH k bx bm x dn rs) A [] (xW x) w):Calls Tryz.prog 210 #[.pointer (some ⟨bx,0,none⟩),.int .i64 c] w λ e w'=>∃q:Unit,e=.returned (.int .i64 0)/\True/\SF w D (xH k bx bm {x with st:=true,nx:=⟨1,c,0,0⟩} dn rs) [] [] (xW {x with st:=true,nx:=⟨1,c,0,0⟩}) w':=by
 refine enter Tryz.func210 Tryz.ntmps210 rfl rfl (cB hs) ?_
 simp only[cD]
 refine cU ?_;refine iX ?_;refine bM ?_;refine aD (cM (hs:=xH k bx bm x dn rs) (os:=xW x) (hc:=λ w hs=>Pd ⟨1,c,0,0⟩ ok h h1 h2 hs)) (λ x11 h11=>?_);refine Kc7 ?_;refine aG ?_
 refine bC (λ c14=>?_) (λ c14=>?_)
 ·exact nv c14
 ·try (exact abt)
  refine lI ?_;refine J2 ?_;refine Et ?_
  (refine Ka3 ?_)
  refine Kc4 ?_
  refine bC (λ c43=>?_) (λ c43=>?_)
  ·try (exact abt)
   refine cU ?_
   refine aN Tryz.results210 (λ w hw=>?_)
   exact⟨(),rfl,trivial,hw.aW⟩
  ·exact nv c43
theorem G0(c:Int)(ok:x.Ok)(h:x.st=false)(h1:x.a<x.got.length)(hs:SF w D (xH k bx bm x dn rs) A [] (xW x) w):Calls Tryz.prog 210 #[.pointer (some ⟨bx,0,none⟩),.int .i64 c] w λ e w'=>∃q:Unit,e=.returned (.int .i64 (x.got.getD x.a 0))/\True/\SF w D (xH k bx bm {x with a:=x.a+1} dn rs) [] [] (xW {x with a:=x.a+1}) w':=by
 have hg:=ok.lg
 refine enter Tryz.func210 Tryz.ntmps210 rfl rfl (cB hs) ?_
 simp only[cD]
 refine cU ?_;refine iX ?_;refine bM ?_;refine aD (cM (hs:=xH k bx bm x dn rs) (os:=xW x) (hc:=λ w hs=>Ii ⟨1,c,0,0⟩ ok h h1 hs)) (λ x11 h11=>?_);refine Kc7 ?_;refine aG ?_
 refine bC (λ c14=>?_) (λ c14=>?_)
 ·exact nv c14
 ·try (exact abt)
  refine lI ?_;refine J2 ?_;refine Et ?_
  refine aI ?_
  refine Kc4 ?_
  refine bC (λ c43=>?_) (λ c43=>?_)
  ·exact nv c43
  ·try (exact abt)
   refine lI ?_;refine gE [0,1,2,3,4,5,6,7,8,9,10,11] ?_;refine Ea ?_;refine cN (i:=8) (hq:=(jA (m:=x.a+1) (n:=1) rf rf (by omega) (by omega))) (h:=?_);refine bW (i:=9) (hq:=(eZ (m:=x.got.length) (k:=x.a+1-1) (lst:=x.got) rf rf gQ gN (.own .head) (by omega) (by omega))) (h:=?_);refine bW (i:=10) (hq:=(gL (q:=x.a+1-1) (lst:=x.got) rf gN (.own .head) (by omega))) (h:=?_);refine J7 ?_
   refine aN Tryz.results210 (λ w hw=>?_)
   exact⟨(),by rw[Nat.add_sub_cancel];rfl,trivial,hw.aW⟩
theorem jr(c:Int)(hc:c<=9223372036854775807)(ok:x.Ok)(h:x.st=false)(h1:¬x.a<x.got.length)(h2:¬x.fr=0)(hs:SF w D (xH k bx bm x dn rs) A [] (xW x) w):Calls Tryz.prog 210 #[.pointer (some ⟨bx,0,none⟩),.int .i64 c] w λ e w'=>∃q:Option Addr×Nat,e=.returned (.int .i64 (aQ x.cs c))/\True/\SF w D (xH k bx bm {x with fr:=x.fr-1,acc:=up x.acc,got:=x.got++[aQ x.cs c],pg:=q.1,kg:=q.2,a:=x.a+1} dn rs) [] [] (xW {x with fr:=x.fr-1,acc:=up x.acc,got:=x.got++[aQ x.cs c],pg:=q.1,kg:=q.2,a:=x.a+1}) w':=by
 have hg:=ok.lg
 have ha:=ok.la
 have hlc:=ok.lc
 refine enter Tryz.func210 Tryz.ntmps210 rfl rfl (cB hs) ?_
 simp only[cD]
 refine cU ?_;refine iX ?_;refine bM ?_;refine aD (cM (hs:=xH k bx bm x dn rs) (os:=xW x) (hc:=λ w hs=>It ⟨1,c,0,0⟩ ok h h1 h2 hs)) (λ x11 h11=>?_);refine Kc7 ?_;refine aG ?_
 refine bC (λ c14=>?_) (λ c14=>?_)
 ·try (exact abt)
  refine eM [(0,[]),(1,[]),(2,[]),(3,[]),(4,[]),(5,[]),(6,[]),(7,[]),(8,[]),(9,[]),(10,[]),(14,[]),(15,[]),(16,[]),(17,[]),(18,[]),(11,[5,17]),(12,[5,17]),(13,[17]),(19,[]),(20,[]),(21,[]),(22,[]),(23,[]),(24,[])] ?_;refine gU ?_;refine Ea ?_;refine Vn ?_;refine cN (i:=18) (hq:=(mL (m:=x.a) (n:=1) rf rf (by omega))) (h:=?_);refine bG (i:=11) (hq:=(cM (hc:=λ w hs=>qu (L:=x.L) (cs:=x.cs) hs c hc (by omega)))) (h:=λ x26 h26=>?_);refine cJ (h:=λ x27=>?_);((refine dB (i:=13) (hq:=(bD.eT (tK (l:=x.got) (v:=aQ x.cs c) (m:=x.got.length) rf rf .head rfl fin ka gQ (by omega)) xC)) (h:=λ x28=>?_);try (refine fH (λ h28=>?_))));refine J4 ?_;refine kZ (i:=21) (hq:=(by exact gS λ _=>eR rf cX wn rf gN rf rf jV)) (h:=λ _=>?_);refine J4 ?_;refine kZ (i:=24) (hq:=(by exact gS λ _=>eR rf cX wn rf gN rf rf jV)) (h:=λ _=>?_);refine eK ?_;refine mD ?_;refine Et ?_
  (refine Ka3 ?_)
  refine Kc4 ?_
  refine bC (λ c43=>?_) (λ c43=>?_)
  ·exact nv c43
  ·try (exact abt)
   refine lI ?_;refine gE [0,1,2,3,4,5,6,7,8,9,10,11] ?_;refine Ea ?_;refine cN (i:=8) (hq:=(jA (m:=x.a+1) (n:=1) rf rf (by omega) (by omega))) (h:=?_);refine bW (i:=9) (hq:=(eZ (m:=x.got.length+1) (k:=x.a+1-1) (lst:=x.got++[aQ x.cs c]) rf rf gQ gN (.own .head) (by omega) (by rw[List.length_append,List.length_cons,List.length_nil];omega))) (h:=?_);refine bW (i:=10) (hq:=(gL (q:=x.a+1-1) (lst:=x.got++[aQ x.cs c]) rf gN (.own .head) (by rw[List.length_append,List.length_cons,List.length_nil];omega))) (h:=?_);refine J7 ?_
   refine aN Tryz.results210 (λ w hw=>?_)
   rw[show x.got.length+1=(x.got++[aQ x.cs c]).length by simp] at hw
   exact⟨x28,by rw[show(x.got++[aQ x.cs c]).getD (x.a+1-1) 0=aQ x.cs c by rw[show x.a+1-1=x.got.length by omega,jK,List.getElem?_append_right (Nat.le_refl _)];simp];rfl,trivial,hw.aW⟩
 ·exact nv c14
end
end

/- Executions of the reference: cas. -/
end Go.Proofs.YtbajmaoegmbfgaaGreat
namespace Go.Ct
section
def Qm(b:Bool):Int:=if b=true then 1 else 0
theorem rA(l:List Int)(v:Int):(l++[v]).getD l.length 0=v:=by rw[jK,List.getElem?_append_right (Nat.le_refl _)];simp
end
end Go.Ct
namespace Go.Proofs.YtbajmaoegmbfgaaGreat
section
open Go Go.RowKit Go.Ct
section
variable{k:Cl}{bx bm:Nat}{x:XS}{dn:Bool}{rs:Rs}{D:List Nat}{A:Fr}{w:World}
theorem wa(c o n:Int)(ok:x.Ok)(h:x.st=true)(hs:SF w D (xH k bx bm x dn rs) A [] (xW x) w):Calls Tryz.prog 212 #[.pointer (some ⟨bx,0,none⟩),.int .i64 c,.int .i64 o,.int .i64 n] w λ e w'=>∃q:Unit,e=.returned (.bool false)/\True/\SF w D (xH k bx bm x dn rs) [] [] (xW x) w':=by
 refine enter Tryz.func212 Tryz.ntmps212 rfl rfl (cB hs) ?_
 simp only[cD]
 refine cU ?_;refine iX ?_;refine pQ ?_;refine bM ?_;refine aD (cM (hs:=xH k bx bm x dn rs) (os:=xW x) (hc:=λ w hs=>Ni ⟨2,c,o,n⟩ ok h hs)) (λ x18 h18=>?_);refine Kc7 ?_;refine aG ?_
 refine bC (λ c21=>?_) (λ c21=>?_)
 ·exact nv c21
 ·try (exact abt)
  refine lI ?_;refine gE [0,1,2,3,4,5,6,7,8,9,10,11,12,13,14,15,16,17,18] ?_;refine gU ?_
  (refine bB ?_)
  refine lO ?_;refine bB ?_
  refine gC ?_
  refine J60 ?_;refine zv ?_;(refine gC ?_);refine J74 ?_;refine J56 ?_;refine J7 ?_
  refine aN Tryz.results212 (λ w hw=>?_)
  exact⟨(),rfl,trivial,hw.aW⟩
theorem wi(c o n:Int)(ok:x.Ok)(h:x.st=false)(h1:¬x.a<x.got.length)(h2:x.fr=0)(hs:SF w D (xH k bx bm x dn rs) A [] (xW x) w):Calls Tryz.prog 212 #[.pointer (some ⟨bx,0,none⟩),.int .i64 c,.int .i64 o,.int .i64 n] w λ e w'=>∃q:Unit,e=.returned (.bool false)/\True/\SF w D (xH k bx bm {x with st:=true,nx:=⟨2,c,o,n⟩} dn rs) [] [] (xW {x with st:=true,nx:=⟨2,c,o,n⟩}) w':=by
 refine enter Tryz.func212 Tryz.ntmps212 rfl rfl (cB hs) ?_
 simp only[cD]
 refine cU ?_;refine iX ?_;refine pQ ?_;refine bM ?_;refine aD (cM (hs:=xH k bx bm x dn rs) (os:=xW x) (hc:=λ w hs=>Pd ⟨2,c,o,n⟩ ok h h1 h2 hs)) (λ x18 h18=>?_);refine Kc7 ?_;refine aG ?_
 refine bC (λ c21=>?_) (λ c21=>?_)
 ·exact nv c21
 ·try (exact abt)
  refine lI ?_;refine gE [0,1,2,3,4,5,6,7,8,9,10,11,12,13,14,15,16,17,18] ?_;refine gU ?_
  (refine bB ?_)
  refine lO ?_;refine bB ?_
  refine gC ?_
  refine J60 ?_;refine zv ?_;(refine gC ?_);refine J74 ?_;refine J56 ?_;refine J7 ?_
  refine aN Tryz.results212 (λ w hw=>?_)
  exact⟨(),rfl,trivial,hw.aW⟩
theorem Lc(c o n:Int)(ok:x.Ok)(h:x.st=false)(h1:x.a<x.got.length)(hs:SF w D (xH k bx bm x dn rs) A [] (xW x) w):Calls Tryz.prog 212 #[.pointer (some ⟨bx,0,none⟩),.int .i64 c,.int .i64 o,.int .i64 n] w λ e w'=>∃q:Unit,e=.returned (.bool (x.got.getD x.a 0==1))/\True/\SF w D (xH k bx bm {x with a:=x.a+1} dn rs) [] [] (xW {x with a:=x.a+1}) w':=by
 have hg:=ok.lg
 refine enter Tryz.func212 Tryz.ntmps212 rfl rfl (cB hs) ?_
 simp only[cD]
 refine cU ?_;refine iX ?_;refine pQ ?_;refine bM ?_;refine aD (cM (hs:=xH k bx bm x dn rs) (os:=xW x) (hc:=λ w hs=>Ii ⟨2,c,o,n⟩ ok h h1 hs)) (λ x18 h18=>?_);refine Kc7 ?_;refine aG ?_
 refine bC (λ c21=>?_) (λ c21=>?_)
 ·exact nv c21
 ·try (exact abt)
  refine lI ?_;refine gE [0,1,2,3,4,5,6,7,8,9,10,11,12,13,14,15,16,17,18] ?_;refine gU ?_
  refine gC ?_
  refine lO ?_;refine bB ?_
  (refine bB ?_)
  refine J60 ?_;refine zv ?_;((refine cN (i:=13) (hq:=(jA (m:=x.a+1) (n:=1) rf rf (by omega) (by omega))) (h:=?_)));((refine bW (i:=14) (hq:=(eZ (m:=x.got.length) (k:=x.a+1-1) (lst:=x.got) rf rf gQ gN (.own .head) (by omega) (by omega))) (h:=?_)));((refine bW (i:=15) (hq:=(gL (q:=x.a+1-1) (lst:=x.got) rf gN (.own .head) (by omega))) (h:=?_)));refine J56 ?_;refine J7 ?_
  refine aN Tryz.results212 (λ w hw=>?_)
  exact⟨(),by rw[Nat.add_sub_cancel];rfl,trivial,hw.aW⟩
theorem mu(c o n:Int)(hc:c<=9223372036854775807)(ok:x.Ok)(h:x.st=false)(h1:¬x.a<x.got.length)(h2:¬x.fr=0)(hs:SF w D (xH k bx bm x dn rs) A [] (xW x) w):Calls Tryz.prog 212 #[.pointer (some ⟨bx,0,none⟩),.int .i64 c,.int .i64 o,.int .i64 n] w λ e w'=>∃q:Bool×(Option Addr×Nat),e=.returned (.bool q.1)/\(q.1=true↔fW x.cs c o)/\SF w D (xH k bx bm {x with fr:=x.fr-1,cs:=dZ x.cs c o n,acc:=up x.acc,got:=x.got++[Qm q.1],pg:=q.2.1,kg:=q.2.2,a:=x.a+1} dn rs) [] [] (xW {x with fr:=x.fr-1,cs:=dZ x.cs c o n,acc:=up x.acc,got:=x.got++[Qm q.1],pg:=q.2.1,kg:=q.2.2,a:=x.a+1}) w':=by
 have hg:=ok.lg
 have ha:=ok.la
 have hlc:=ok.lc
 refine enter Tryz.func212 Tryz.ntmps212 rfl rfl (cB hs) ?_
 simp only[cD]
 refine cU ?_;refine iX ?_;refine pQ ?_;refine bM ?_;refine aD (cM (hs:=xH k bx bm x dn rs) (os:=xW x) (hc:=λ w hs=>It ⟨2,c,o,n⟩ ok h h1 h2 hs)) (λ x18 h18=>?_);refine Kc7 ?_;refine aG ?_
 refine bC (λ c21=>?_) (λ c21=>?_)
 ·try (exact abt)
  refine Hu ?_;refine lD ?_;refine pQ ?_;refine aA ?_;refine aD (cM (V:=.bool) (hc:=λ w hs=>vf (L:=x.L) (cs:=x.cs) hs c o n hc (by omega))) (λ x29 h29=>?_);refine aG ?_
  refine bC (λ c29=>?_) (λ c29=>?_)
  ·try (exact abt)
   have hv:(1:Int)=Qm x29:=by rw[c29];rfl
   refine dH ?_;refine J1 ?_;refine eM [(0,[]),(1,[]),(2,[]),(3,[]),(4,[]),(5,[]),(6,[]),(9,[]),(10,[]),(11,[]),(12,[]),(13,[]),(7,[5,12]),(8,[12]),(14,[]),(15,[]),(16,[]),(17,[]),(18,[]),(19,[])] ?_;refine gU ?_;refine il ?_;refine Vn ?_;refine cN (i:=13) (hq:=(mL (m:=x.a) (n:=1) rf rf (by omega))) (h:=?_);refine cJ (h:=λ x37=>?_);((refine dB (i:=8) (hq:=(bD.eT (tK (l:=x.got) (m:=x.got.length) rf rf .head rfl fin ka gQ (by omega)) xC)) (h:=λ x38=>?_);try (refine fH (λ h38=>?_))));refine J4 ?_;refine kZ (i:=16) (hq:=(by exact gS λ _=>eR rf cX wn rf gN rf rf jV)) (h:=λ _=>?_);refine J4 ?_;refine kZ (i:=19) (hq:=(by exact gS λ _=>eR rf cX wn rf gN rf rf jV)) (h:=λ _=>?_);refine eK ?_;refine aR ?_;refine gE [0,1,2,3,4,5,6,7,8,9,10,11,12,13,14,15,16,17,18] ?_;refine gU ?_
   (refine bB ?_)
   refine lO ?_;refine bB ?_
   (refine bB ?_)
   refine J60 ?_;refine zv ?_;((refine cN (i:=13) (hq:=(jA (m:=x.a+1) (n:=1) rf rf (by omega) (by omega))) (h:=?_)));((refine bW (i:=14) (hq:=(eZ (m:=x.got.length+1) (k:=x.a+1-1) rf rf gQ gN (.own .head) (by omega) (by rw[List.length_append,List.length_cons,List.length_nil];omega))) (h:=?_)));((refine bW (i:=15) (hq:=(gL (q:=x.a+1-1) rf gN (.own .head) (by rw[List.length_append,List.length_cons,List.length_nil];omega))) (h:=?_)));refine J56 ?_;refine J7 ?_
   refine aN Tryz.results212 (λ w hw=>?_)
   rw[hv] at hw
   rw[show x.got.length+1=(x.got++[Qm x29]).length by simp] at hw
   exact⟨(x29,x38),by rw[show x.a+1-1=x.got.length by omega,rA,c29];rfl,h29,hw.aW⟩
  ·try (exact abt)
   have hv:(0:Int)=Qm x29:=by rw[c29];rfl
   refine aV ?_;refine eM [(0,[]),(1,[]),(2,[]),(3,[]),(4,[]),(5,[]),(6,[]),(9,[]),(10,[]),(11,[]),(12,[]),(13,[]),(7,[5,12]),(8,[12]),(14,[]),(15,[]),(16,[]),(17,[]),(18,[]),(19,[])] ?_;refine gU ?_;refine il ?_;refine Vn ?_;refine cN (i:=13) (hq:=(mL (m:=x.a) (n:=1) rf rf (by omega))) (h:=?_);refine cJ (h:=λ x37=>?_);((refine dB (i:=8) (hq:=(bD.eT (tK (l:=x.got) (m:=x.got.length) rf rf .head rfl fin ka gQ (by omega)) xC)) (h:=λ x38=>?_);try (refine fH (λ h38=>?_))));refine J4 ?_;refine kZ (i:=16) (hq:=(by exact gS λ _=>eR rf cX wn rf gN rf rf jV)) (h:=λ _=>?_);refine J4 ?_;refine kZ (i:=19) (hq:=(by exact gS λ _=>eR rf cX wn rf gN rf rf jV)) (h:=λ _=>?_);refine eK ?_;refine aR ?_;refine gE [0,1,2,3,4,5,6,7,8,9,10,11,12,13,14,15,16,17,18] ?_;refine gU ?_
   (refine bB ?_)
   refine lO ?_;refine bB ?_
   (refine bB ?_)
   refine J60 ?_;refine zv ?_;((refine cN (i:=13) (hq:=(jA (m:=x.a+1) (n:=1) rf rf (by omega) (by omega))) (h:=?_)));((refine bW (i:=14) (hq:=(eZ (m:=x.got.length+1) (k:=x.a+1-1) rf rf gQ gN (.own .head) (by omega) (by rw[List.length_append,List.length_cons,List.length_nil];omega))) (h:=?_)));((refine bW (i:=15) (hq:=(gL (q:=x.a+1-1) rf gN (.own .head) (by rw[List.length_append,List.length_cons,List.length_nil];omega))) (h:=?_)));refine J56 ?_;refine J7 ?_
   refine aN Tryz.results212 (λ w hw=>?_)
   rw[hv] at hw
   rw[show x.got.length+1=(x.got++[Qm x29]).length by simp] at hw
   exact⟨(x29,x38),by rw[show x.a+1-1=x.got.length by omega,rA,c29];rfl,h29,hw.aW⟩
 ·exact nv c21
end
end

/- Executions of the reference: nodes, allocations, cells, generations. -/
section
open Go Go.RowKit Go.Ct
section
variable{k:Cl}{bx bm:Nat}{x:XS}{dn:Bool}{rs:Rs}{D:List Nat}{A:Fr}{w:World}
theorem fE(r:Int)(hr:r<=9223372036854775807)(ok:x.Ok)(hs:SF w D (xH k bx bm x dn rs) A [] (xW x) w):Calls Tryz.prog 211 #[.pointer (some ⟨bx,0,none⟩),.int .i64 r] w λ e w'=>∃q:Unit,e=.returned (aC x.L r).nd.v/\True/\SF w D (xH k bx bm x dn rs) [] [] (xW x) w':=by
 have hl:=ok.lL
 refine enter Tryz.func211 Tryz.ntmps211 rfl rfl (cB hs) ?_
 simp only[cD]
 refine J0 ?_;refine aJ (λ x4=>?_);refine aG ?_;refine lD ?_;refine aA ?_;refine aD (cM (hc:=λ w hs=>rj (L:=x.L) (cs:=x.cs) hs r hr (by omega))) (λ x10 h10=>?_);refine J5 ?_
 refine bA Tryz.results211 (λ w hw=>?_)
 exact⟨(),rfl,trivial,hw.aW⟩
theorem jj{n:Nd}(i:Int)(h:x.st=true)(hs:SF w D (xH k bx bm x dn rs) A [] (xW x) w):Calls Tryz.prog 215 #[.pointer (some ⟨bx,0,none⟩),n.v,.int .i64 i] w λ e w'=>∃q:Unit,e=.returned (.int .i64 0)/\True/\SF w D (xH k bx bm x dn rs) [] [] (xW x) w':=by
 refine enter Tryz.func215 Tryz.ntmps215 rfl rfl (cB hs) ?_
 simp only[cD]
 simp only[Nd.v]
 refine J0 ?_;refine bO (λ x4=>?_);refine iW ?_;refine Kb9 ?_
 refine bC (λ c10=>?_) (λ c10=>?_)
 ·refine cU ?_
  refine aN Tryz.results215 (λ w hw=>?_)
  exact⟨(),rfl,trivial,hw.aW⟩
 ·exact absurd (h.symm.trans c10) (by decide)
theorem alloc_old{n:Nd}(i:Int)(ok:x.Ok)(h:x.st=false)(h1:x.m<x.made.length)(hl:x.made.length<=274877906944)(hs:SF w D (xH k bx bm x dn rs) A [] (xW x) w):Calls Tryz.prog 215 #[.pointer (some ⟨bx,0,none⟩),n.v,.int .i64 i] w λ e w'=>∃q:Unit,e=.returned (.int .i64 (x.made.getD x.m 0))/\True/\SF w D (xH k bx bm {x with m:=x.m+1} dn rs) [] [] (xW {x with m:=x.m+1}) w':=by
 refine enter Tryz.func215 Tryz.ntmps215 rfl rfl (cB hs) ?_
 simp only[cD]
 simp only[Nd.v]
 refine J0 ?_;refine bO (λ x4=>?_);refine iW ?_;refine Kb9 ?_
 refine bC (λ c10=>?_) (λ c10=>?_)
 ·try (exfalso;omega)
  exact absurd (h.symm.trans c10) (by decide)
 ·try (exfalso;omega)
  refine lI ?_;refine aR ?_;refine gE [0,1,2,3,4,5,6,7,8,9] ?_;refine Ea ?_;refine oF ?_;refine nK ?_;refine eK ?_
  refine bC (λ c20=>?_) (λ c20=>?_)
  ·try (exfalso;omega)
  ·try (exfalso;omega)
   refine tg ?_;refine aB (mL (m:=x.m) (n:=1) rf rf (by omega)) rfl ?_;refine I7 ?_;refine cI (by exact gS λ _=>eR rf cX wn rf gN rf rf jV) (λ _=>?_);refine S2 ?_;refine gE [0,1,2,3,4,5,6,7,8,9,10,11] ?_;refine Ea ?_;refine cN (i:=8) (hq:=(jA (m:=x.m+1) (n:=1) rf rf (by omega) (by omega))) (h:=?_);refine bW (i:=9) (hq:=(eZ (m:=x.made.length) (k:=x.m+1-1) (lst:=x.made) rf rf gQ gN (.own (.tail .head)) (by omega) (by omega))) (h:=?_);refine bW (i:=10) (hq:=(gL (q:=x.m+1-1) (lst:=x.made) rf gN (.own (.tail .head)) (by omega))) (h:=?_);refine J7 ?_
   refine aN Tryz.results215 (λ w hw=>?_)
   exact⟨(),by rw[Nat.add_sub_cancel];rfl,trivial,hw.aW⟩
theorem W5{n:Nd}{xs:List Int}{ys:List Pr}(i:Int)(ok:x.Ok)(h:x.st=false)(h1:x.m=x.made.length)(hl:x.made.length<=137438953472)(hLl:x.L.length<=274877906900)(hcl:x.cs.length<=274877906900)(e1:n.brN=xs.length)(e2:n.prN=ys.length)(hx:xs.length<=274877906944)(hy:ys.length<=274877906944)(hs:SF w D (xH k bx bm x dn rs) [(n.brA,aH xs),(n.prA,dD ys)] [] (xW x) w):Calls Tryz.prog 215 #[.pointer (some ⟨bx,0,none⟩),n.v,.int .i64 i] w λ e w'=>∃q:AX×(Option Addr×Nat),e=.returned (.int .i64 ((x.L.length+1:Nat):Int))/\True /\
   SF w D (xH k bx bm {x with L:=x.L++[lM n xs ys x.cs.length q.1],cs:=eQ n.kind x.cs i,pn:=q.1.pn,cn:=q.1.cn,pc:=q.1.pc,cc:=q.1.cc,made:=x.made++[((x.L.length+1:Nat):Int)],pm:=q.2.1,km:=q.2.2,m:=x.m+1} dn rs) [] (lM n xs ys x.cs.length q.1).fr (xW {x with L:=x.L++[lM n xs ys x.cs.length q.1],cs:=eQ n.kind x.cs i,pn:=q.1.pn,cn:=q.1.cn,pc:=q.1.pc,cc:=q.1.cc,made:=x.made++[((x.L.length+1:Nat):Int)],pm:=q.2.1,km:=q.2.2,m:=x.m+1}) w':=by
 refine enter Tryz.func215 Tryz.ntmps215 rfl rfl (cB hs) ?_
 simp only[cD]
 simp only[Nd.v]
 refine J0 ?_;refine bO (λ x4=>?_);refine iW ?_;refine Kb9 ?_
 refine bC (λ c10=>?_) (λ c10=>?_)
 ·try (exfalso;omega)
  exact absurd (h.symm.trans c10) (by decide)
 ·try (exfalso;omega)
  refine lI ?_;refine aR ?_;refine gE [0,1,2,3,4,5,6,7,8,9] ?_;refine Ea ?_;refine oF ?_;refine nK ?_;refine eK ?_
  refine bC (λ c20=>?_) (λ c20=>?_)
  ·try (exfalso;omega)
   refine eM [(0,[]),(1,[]),(2,[]),(3,[]),(4,[]),(5,[]),(6,[]),(7,[]),(8,[]),(9,[]),(10,[]),(11,[4]),(12,[4]),(13,[]),(14,[]),(15,[]),(16,[])] ?_;refine bB ?_;refine Ea ?_;refine bY ?_;refine bB ?_;refine bG (i:=11) (hq:=(cM (A0:=[(n.brA,aH xs),(n.prA,dD ys)]) (hc:=λ w hs=>Gp (n:=n) (L:=x.L) (cs:=x.cs) i hs e1 e2 hx hy (by omega) (by omega)))) (h:=λ x32 h32=>?_);refine cJ (h:=λ x33=>?_);((refine dB (i:=13) (hq:=(bD.eT (tK (l:=x.made) (m:=x.made.length) rf rf (.tail .head) rfl fin ka gQ (by omega)) xC)) (h:=λ x34=>?_);try (refine fH (λ h34=>?_))));refine J4 ?_;refine kZ (i:=16) (hq:=(by exact gS λ _=>eR rf cX wn rf gN rf rf jV)) (h:=λ _=>?_);refine eK ?_;refine lD ?_;refine aB (mL (m:=x.m) (n:=1) rf rf (by omega)) rfl ?_;refine I7 ?_;refine cI (by exact gS λ _=>eR rf cX wn rf gN rf rf jV) (λ _=>?_);refine S2 ?_;refine gE [0,1,2,3,4,5,6,7,8,9,10,11] ?_;refine Ea ?_;refine cN (i:=8) (hq:=(jA (m:=x.m+1) (n:=1) rf rf (by omega) (by omega))) (h:=?_);refine bW (i:=9) (hq:=(eZ (m:=x.made.length+1) (k:=x.m+1-1) rf rf gQ gN (.own (.tail .head)) (by omega) (by rw[List.length_append,List.length_cons,List.length_nil];omega))) (h:=?_);refine bW (i:=10) (hq:=(gL (q:=x.m+1-1) rf gN (.own (.tail .head)) (by rw[List.length_append,List.length_cons,List.length_nil];omega))) (h:=?_);refine J7 ?_
   refine aN Tryz.results215 (λ w hw=>?_)
   rw[show x.made.length+1=(x.made++[((x.L.length+1:Nat):Int)]).length by simp] at hw
   exact⟨(x32,x34),by rw[show x.m+1-1=x.made.length by omega,rA];rfl,trivial,hw.ret (List.Sublist.cons _ (List.Sublist.refl _)) (aY.kN λ f hf=>List.mem_cons_of_mem _ (List.mem_append_left _ hf)) (List.Sublist.refl _)⟩
  ·try (exfalso;omega)
end
end

end Go.Proofs.YtbajmaoegmbfgaaGreat
