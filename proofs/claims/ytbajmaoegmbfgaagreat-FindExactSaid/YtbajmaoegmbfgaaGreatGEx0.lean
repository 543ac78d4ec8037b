/- An execution of the reference: its block, its own lists; the rules for calls of its methods. -/
import Derived.Test.YtbajmaoegmbfgaaGreatGTr3
import Derived.Test.YtbajmaoegmbfgaaGreatGTp2
import Derived.Test.YtbajmaoegmbfgaaGreatGNode3
import Derived.Test.YtbajmaoegmbfgaaGreatGAr8

set_option linter.unusedSimpArgs false
set_option linter.unusedVariables false
namespace Go.Proofs.YtbajmaoegmbfgaaGreat
section
open Go Go.RowKit Go.Ct
def xoC(k:Cl)(bm:Nat)(x:XS)(dn:Bool)(rs:Rs):List Value:=[.pointer (some ⟨bm,0,none⟩),
 .int .i64 k.kind,.int .i64 k.t.root,.bool k.t.ro,.int .i64 k.a,.int .i64 k.b,.int .i64 k.n,.int .i64 k.index,.int .u64 k.hash,.int .u64 k.mask,.string k.key,.int .u64 k.val,.int .u64 k.exp,.int .i64 k.Ho,.bool k.only,
 .bool false,.slice none 0 0,.slice none 0 0,.int .i64 0,.bool false,.int .u64 0,.string ⟨#[]⟩,.int .i64 0,.int .i64 0,.int .i64 0,.bool false,
 .slice x.pg x.got.length x.kg,.slice x.pm x.made.length x.km,.slice x.pl x.cel.length x.kl,.slice x.pe x.gns.length x.ke,
 .int .i64 ((x.a:Nat):Int),.int .i64 ((x.m:Nat):Int),.int .i64 ((x.c:Nat):Int),.int .i64 ((x.g:Nat):Int),.int .i64 ((x.fr:Nat):Int),.bool x.st,
 .int .i64 x.nx.k,.int .i64 x.nx.c,.int .i64 x.nx.o,.int .i64 x.nx.n,.bool dn,
 .int .i64 rs.err,.bool rs.found,.int .u64 rs.val,.string rs.key,.int .i64 rs.fX,.int .i64 rs.ref,.int .i64 rs.root,.bool rs.ro,
 .bool false,.slice none 0 0,.slice none 0 0]
abbrev xO(k:Cl)(bm:Nat)(x:XS)(dn:Bool)(rs:Rs):Obj:=.cells ⟨xoC k bm x dn rs⟩ 153 (0,0)
abbrev xM(x:XS):Obj:=mO x.L x.cs x.gen x.acc x.pn x.cn x.pc x.cc
abbrev xW(x:XS):List Ow:=[⟨x.pg,aH x.got,x.kg,37,1⟩,⟨x.pm,aH x.made,x.km,37,1⟩,⟨x.pl,aH x.cel,x.kl,27,1⟩,⟨x.pe,aH x.gns,x.ke,3,1⟩,⟨x.pn,gY x.L,x.cn,47,14⟩,⟨x.pc,aH x.cs,x.cc,37,1⟩]
abbrev xH(k:Cl)(bx bm:Nat)(x:XS)(dn:Bool)(rs:Rs):List (Nat×Obj):=[(bx,xO k bm x dn rs),(bm,xM x)]
theorem aAP{w0 w:World}{D:List Nat}{k:Cl}{bx bm:Nat}{x:XS}{dn:Bool}{rs:Rs}{A F:Fr}(h:SF w0 D (xH k bx bm x dn rs) A F (xW x) w) :
  SF w0 D [(bx,.cells ⟨[.pointer (some ⟨bm,0,none⟩),
 .int .i64 k.kind,.int .i64 k.t.root,.bool k.t.ro,.int .i64 k.a,.int .i64 k.b,.int .i64 k.n,.int .i64 k.index,.int .u64 k.hash,.int .u64 k.mask,.string k.key,.int .u64 k.val,.int .u64 k.exp,.int .i64 k.Ho,.bool k.only,
 .bool false,.slice none 0 0,.slice none 0 0,.int .i64 0,.bool false,.int .u64 0,.string ⟨#[]⟩,.int .i64 0,.int .i64 0,.int .i64 0,.bool false,
 .slice x.pg x.got.length x.kg,.slice x.pm x.made.length x.km,.slice x.pl x.cel.length x.kl,.slice x.pe x.gns.length x.ke,
 .int .i64 ((x.a:Nat):Int),.int .i64 ((x.m:Nat):Int),.int .i64 ((x.c:Nat):Int),.int .i64 ((x.g:Nat):Int),.int .i64 ((x.fr:Nat):Int),.bool x.st,
 .int .i64 x.nx.k,.int .i64 x.nx.c,.int .i64 x.nx.o,.int .i64 x.nx.n,.bool dn,
 .int .i64 rs.err,.bool rs.found,.int .u64 rs.val,.string rs.key,.int .i64 rs.fX,.int .i64 rs.ref,.int .i64 rs.root,.bool rs.ro,
 .bool false,.slice none 0 0,.slice none 0 0]⟩ 153 (0,0)),(bm,mO x.L x.cs x.gen x.acc x.pn x.cn x.pc x.cc)] A F [⟨x.pg,aH x.got,x.kg,37,1⟩,⟨x.pm,aH x.made,x.km,37,1⟩,⟨x.pl,aH x.cel,x.kl,27,1⟩,⟨x.pe,aH x.gns,x.ke,3,1⟩,⟨x.pn,gY x.L,x.cn,47,14⟩,⟨x.pc,aH x.cs,x.cc,37,1⟩] w:=h
theorem bZ{w0 w:World}{D:List Nat}{k:Cl}{bx bm:Nat}{x:XS}{dn:Bool}{rs:Rs}{A F:Fr}(h:SF w0 D (xH k bx bm x dn rs) A F (xW x) w) :
  SF w0 D [(bx,.cells ⟨xoC k bm x dn rs⟩ 153 (0,0)),(bm,mO x.L x.cs x.gen x.acc x.pn x.cn x.pc x.cc)] A F [⟨x.pg,aH x.got,x.kg,37,1⟩,⟨x.pm,aH x.made,x.km,37,1⟩,⟨x.pl,aH x.cel,x.kl,27,1⟩,⟨x.pe,aH x.gns,x.ke,3,1⟩,⟨x.pn,gY x.L,x.cn,47,14⟩,⟨x.pc,aH x.cs,x.cc,37,1⟩] w:=h
end

/- Executions of the reference: known, load, cas. -/
end Go.Proofs.YtbajmaoegmbfgaaGreat
namespace Go.Ct
section
def XS.kn(x:XS)(a:Ac):XS:=if x.st=true then x else if x.a<x.got.length then{x with a:=x.a+1} else if x.fr=0 then{x with st:=true,nx:=a} else{x with fr:=x.fr-1}
def XS.bO(x:XS):Bool:=!x.st&&decide (x.a<x.got.length)
def XS.now(x:XS):Bool:=!x.st&&!decide (x.a<x.got.length)&&!decide (x.fr=0)
theorem XS.tf{x:XS}{a:Ac}(h:x.st=true):x.kn a=x/\x.bO=false/\x.now=false:=⟨if_pos h,by simp[XS.bO,h],by simp[XS.now,h]⟩
theorem XS.Z3{x:XS}{a:Ac}(h:x.st=false)(h1:x.a<x.got.length):x.kn a={x with a:=x.a+1}/\x.bO=true/\x.now=false:=⟨by unfold XS.kn;rw[if_neg (by rw[h];decide),if_pos h1],by simp[XS.bO,h,h1],by simp[XS.now,h1]⟩
theorem XS.tc{x:XS}{a:Ac}(h:x.st=false)(h1:¬x.a<x.got.length)(h2:x.fr=0):x.kn a={x with st:=true,nx:=a}/\x.bO=false/\x.now=false:=⟨by unfold XS.kn;rw[if_neg (by rw[h];decide),if_neg h1,if_pos h2],by simp[XS.bO,h1],by simp[XS.now,h2]⟩
theorem XS.j4{x:XS}{a:Ac}(h:x.st=false)(h1:¬x.a<x.got.length)(h2:¬x.fr=0):x.kn a={x with fr:=x.fr-1}/\x.bO=false/\x.now=true:=⟨by unfold XS.kn;rw[if_neg (by rw[h];decide),if_neg h1,if_neg h2],by simp[XS.bO,h1],by simp[XS.now,h,h1,h2]⟩
end
end Go.Ct
namespace Go.Proofs.YtbajmaoegmbfgaaGreat
section
open Go Go.RowKit Go.Ct
section
variable{k:Cl}{bx bm:Nat}{x:XS}{dn:Bool}{rs:Rs}{D:List Nat}{A:Fr}{w:World}
theorem D4(a:Ac)(ok:x.Ok)(hs:SF w D (xH k bx bm x dn rs) A [] (xW x) w):Calls Tryz.prog 240 #[.pointer (some ⟨bx,0,none⟩),.agg ⟨a.cells⟩] w λ e w'=>∃q:Unit,e=.returned (.tuple #[.bool x.bO,.bool x.now])/\True/\SF w D (xH k bx bm (x.kn a) dn rs) [] [] (xW (x.kn a)) w':=by
 have h1:=ok.lg
 have h2:=ok.la
 have h3:=ok.fr
 refine enter Tryz.func240 Tryz.ntmps240 rfl rfl (aAP hs) ?_
 simp only[bY]
 refine J0 ?_;refine bN (λ x3=>?_);refine J8 ?_;refine aV ?_;refine lR ?_;refine aG ?_
 refine bE (λ c9=>?_) (λ c9=>?_)
 ·refine Qa ?_
  refine bC Tryz.results240 (λ w hw=>?_)
  obtain⟨e1,e2,e3⟩:=XS.tf (a:=a) c9
  rw[e1,e2,e3]
  exact⟨(),rfl,trivial,hw.aU⟩
 ·refine lK ?_;refine aV ?_;refine gI [0,1,2,3,4,5,6,7,8,9] ?_;refine Dx ?_;refine pE ?_;refine Ay ?_;refine eA ?_
  refine bE (λ c19=>?_) (λ c19=>?_)
  ·refine lR ?_;refine C1 ?_;refine N0 ?_;refine Qa ?_
   refine bC Tryz.results240 (λ w hw=>?_)
   obtain⟨e1,e2,e3⟩:=XS.Z3 (a:=a) c9 (by omega)
   rw[e1,e2,e3]
   exact⟨(),rfl,trivial,hw.aU⟩
  ·refine lK ?_;refine lR ?_;refine tN ?_
   refine bE (λ c31=>?_) (λ c31=>?_)
   ·refine aV ?_;refine dZ [(0,[]),(1,[]),(2,[]),(3,[]),(4,[]),(5,[2]),(6,[]),(7,[]),(8,[])] ?_;refine iD ?_;refine bP ?_;refine J4 ?_;refine oO (h:=λ _=>?_);refine J4 ?_;refine kY (i:=8) (hq:=(fR λ _=>lO (off:=36) (vs:=a.cells) rf cK rf rfl dH (Nat.le_of_ble_eq_true rfl) rf hU)) (h:=λ _=>?_);refine eA ?_;refine Qa ?_
    refine bC Tryz.results240 (λ w hw=>?_)
    obtain⟨e1,e2,e3⟩:=XS.tc (a:=a) c9 (by omega) (by omega)
    rw[e1,e2,e3]
    exact⟨(),rfl,trivial,hw.aU⟩
   ·refine tm ?_;refine vF ?_;refine N0 ?_;refine Qa ?_
    refine bC Tryz.results240 (λ w hw=>?_)
    obtain⟨e1,e2,e3⟩:=XS.j4 (a:=a) c9 (by omega) (by omega)
    rw[e1,e2,e3]
    exact⟨(),rfl,trivial,hw.aU⟩
theorem O3(a:Ac)(ok:x.Ok)(h:x.st=true)(hs:SF w D (xH k bx bm x dn rs) A [] (xW x) w):Calls Tryz.prog 240 #[.pointer (some ⟨bx,0,none⟩),.agg ⟨a.cells⟩] w λ e w'=>∃q:Unit,e=.returned (.tuple #[.bool false,.bool false])/\True/\SF w D (xH k bx bm x dn rs) [] [] (xW x) w':=by
 obtain⟨e1,e2,e3⟩:=XS.tf (a:=a) h
 have:=D4 (k:=k) (bx:=bx) (bm:=bm) (dn:=dn) (rs:=rs) (D:=D) (A:=A) (w:=w) a ok hs
 rw[e1,e2,e3] at this
 exact this
theorem Je(a:Ac)(ok:x.Ok)(h:x.st=false)(h1:x.a<x.got.length)(hs:SF w D (xH k bx bm x dn rs) A [] (xW x) w):Calls Tryz.prog 240 #[.pointer (some ⟨bx,0,none⟩),.agg ⟨a.cells⟩] w λ e w'=>∃q:Unit,e=.returned (.tuple #[.bool true,.bool false])/\True/\SF w D (xH k bx bm {x with a:=x.a+1} dn rs) [] [] (xW {x with a:=x.a+1}) w':=by
 obtain⟨e1,e2,e3⟩:=XS.Z3 (a:=a) h h1
 have:=D4 (k:=k) (bx:=bx) (bm:=bm) (dn:=dn) (rs:=rs) (D:=D) (A:=A) (w:=w) a ok hs
 rw[e1,e2,e3] at this
 exact this
theorem On(a:Ac)(ok:x.Ok)(h:x.st=false)(h1:¬x.a<x.got.length)(h2:x.fr=0)(hs:SF w D (xH k bx bm x dn rs) A [] (xW x) w):Calls Tryz.prog 240 #[.pointer (some ⟨bx,0,none⟩),.agg ⟨a.cells⟩] w λ e w'=>∃q:Unit,e=.returned (.tuple #[.bool false,.bool false])/\True/\SF w D (xH k bx bm {x with st:=true,nx:=a} dn rs) [] [] (xW {x with st:=true,nx:=a}) w':=by
 obtain⟨e1,e2,e3⟩:=XS.tc (a:=a) h h1 h2
 have:=D4 (k:=k) (bx:=bx) (bm:=bm) (dn:=dn) (rs:=rs) (D:=D) (A:=A) (w:=w) a ok hs
 rw[e1,e2,e3] at this
 exact this
theorem Jd(a:Ac)(ok:x.Ok)(h:x.st=false)(h1:¬x.a<x.got.length)(h2:¬x.fr=0)(hs:SF w D (xH k bx bm x dn rs) A [] (xW x) w):Calls Tryz.prog 240 #[.pointer (some ⟨bx,0,none⟩),.agg ⟨a.cells⟩] w λ e w'=>∃q:Unit,e=.returned (.tuple #[.bool false,.bool true])/\True/\SF w D (xH k bx bm {x with fr:=x.fr-1} dn rs) [] [] (xW {x with fr:=x.fr-1}) w':=by
 obtain⟨e1,e2,e3⟩:=XS.j4 (a:=a) h h1 h2
 have:=D4 (k:=k) (bx:=bx) (bm:=bm) (dn:=dn) (rs:=rs) (D:=D) (A:=A) (w:=w) a ok hs
 rw[e1,e2,e3] at this
 exact this
theorem rz(c:Int)(ok:x.Ok)(h:x.st=true)(hs:SF w D (xH k bx bm x dn rs) A [] (xW x) w):Calls Tryz.prog 210 #[.pointer (some ⟨bx,0,none⟩),.int .i64 c] w λ e w'=>∃q:Unit,e=.returned (.int .i64 0)/\True/\SF w D (xH k bx bm x dn rs) [] [] (xW x) w':=by
 refine enter Tryz.func210 Tryz.ntmps210 rfl rfl (bZ hs) ?_
 simp only[bY]
 refine cQ ?_;refine iM ?_;refine bJ ?_;refine aC (cM (hs:=xH k bx bm x dn rs) (os:=xW x) (hc:=λ w hs=>O3 ⟨1,c,0,0⟩ ok h hs)) (λ x11 h11=>?_);refine N6 ?_;refine J8 ?_;refine kK ?_;refine aG ?_
 refine bE (λ c14=>?_) (λ c14=>?_)
 ·exact nv c14
 ·try (exact absurd (by assumption) (by decide:¬(true=false)))
  refine lK ?_;refine J2 ?_;refine Gh ?_
  (refine aF ?_;refine aA ?_)
  refine Qg ?_;refine aG ?_
  refine bE (λ c43=>?_) (λ c43=>?_)
  ·try (exact absurd (by assumption) (by decide:¬(true=false)))
   refine cQ ?_
   refine aT Tryz.results210 (λ w hw=>?_)
   exact⟨(),rfl,trivial,hw.aU⟩
  ·exact nv c43
theorem qj(c:Int)(ok:x.Ok)(h:x.st=false)(h1:¬x.a<x.got.length)(h2:x.fr=0)(hs:SF w D (xH k bx bm x dn rs) A [] (xW x) w):Calls Tryz.prog 210 #[.pointer (some ⟨bx,0,none⟩),.int .i64 c] w λ e w'=>∃q:Unit,e=.returned (.int .i64 0)/\True/\SF w D (xH k bx bm {x with st:=true,nx:=⟨1,c,0,0⟩} dn rs) [] [] (xW {x with st:=true,nx:=⟨1,c,0,0⟩}) w':=by
 refine enter Tryz.func210 Tryz.ntmps210 rfl rfl (bZ hs) ?_
 simp only[bY]
 refine cQ ?_;refine iM ?_;refine bJ ?_;refine aC (cM (hs:=xH k bx bm x dn rs) (os:=xW x) (hc:=λ w hs=>On ⟨1,c,0,0⟩ ok h h1 h2 hs)) (λ x11 h11=>?_);refine N6 ?_;refine J8 ?_;refine kK ?_;refine aG ?_
 refine bE (λ c14=>?_) (λ c14=>?_)
 ·exact nv c14
 ·try (exact absurd (by assumption) (by decide:¬(true=false)))
  refine lK ?_;refine J2 ?_;refine Gh ?_
  (refine aF ?_;refine aA ?_)
  refine Qg ?_;refine aG ?_
  refine bE (λ c43=>?_) (λ c43=>?_)
  ·try (exact absurd (by assumption) (by decide:¬(true=false)))
   refine cQ ?_
   refine aT Tryz.results210 (λ w hw=>?_)
   exact⟨(),rfl,trivial,hw.aU⟩
  ·exact nv c43
theorem Gz(c:Int)(ok:x.Ok)(h:x.st=false)(h1:x.a<x.got.length)(hs:SF w D (xH k bx bm x dn rs) A [] (xW x) w):Calls Tryz.prog 210 #[.pointer (some ⟨bx,0,none⟩),.int .i64 c] w λ e w'=>∃q:Unit,e=.returned (.int .i64 (x.got.getD x.a 0))/\True/\SF w D (xH k bx bm {x with a:=x.a+1} dn rs) [] [] (xW {x with a:=x.a+1}) w':=by
 have hg:=ok.lg
 refine enter Tryz.func210 Tryz.ntmps210 rfl rfl (bZ hs) ?_
 simp only[bY]
 refine cQ ?_;refine iM ?_;refine bJ ?_;refine aC (cM (hs:=xH k bx bm x dn rs) (os:=xW x) (hc:=λ w hs=>Je ⟨1,c,0,0⟩ ok h h1 hs)) (λ x11 h11=>?_);refine N6 ?_;refine J8 ?_;refine kK ?_;refine aG ?_
 refine bE (λ c14=>?_) (λ c14=>?_)
 ·exact nv c14
 ·try (exact absurd (by assumption) (by decide:¬(true=false)))
  refine lK ?_;refine J2 ?_;refine Gh ?_
  refine aJ ?_
  refine Qg ?_;refine aG ?_
  refine bE (λ c43=>?_) (λ c43=>?_)
  ·exact nv c43
  ·try (exact absurd (by assumption) (by decide:¬(true=false)))
   refine lK ?_;refine gI [0,1,2,3,4,5,6,7,8,9,10,11] ?_;refine Dx ?_;refine cG (i:=8) (hq:=(jF (m:=x.a+1) (n:=1) rf rf (by omega) (by omega))) (h:=?_);refine bT (i:=9) (hq:=(eZ (m:=x.got.length) (k:=x.a+1-1) (lst:=x.got) rf rf hY iA (.own .head) (by omega) (by omega))) (h:=?_);refine bT (i:=10) (hq:=(gX (q:=x.a+1-1) (lst:=x.got) rf iA (.own .head) (by omega))) (h:=?_);refine J7 ?_
   refine aT Tryz.results210 (λ w hw=>?_)
   exact⟨(),by rw[Nat.add_sub_cancel];rfl,trivial,hw.aU⟩
theorem lh(c:Int)(hc:c<=9223372036854775807)(ok:x.Ok)(h:x.st=false)(h1:¬x.a<x.got.length)(h2:¬x.fr=0)(hs:SF w D (xH k bx bm x dn rs) A [] (xW x) w):Calls Tryz.prog 210 #[.pointer (some ⟨bx,0,none⟩),.int .i64 c] w λ e w'=>∃q:Option Addr×Nat,e=.returned (.int .i64 (cZ x.cs c))/\True/\SF w D (xH k bx bm {x with fr:=x.fr-1,acc:=up x.acc,got:=x.got++[cZ x.cs c],pg:=q.1,kg:=q.2,a:=x.a+1} dn rs) [] [] (xW {x with fr:=x.fr-1,acc:=up x.acc,got:=x.got++[cZ x.cs c],pg:=q.1,kg:=q.2,a:=x.a+1}) w':=by
 have hg:=ok.lg
 have ha:=ok.la
 have hlc:=ok.lc
 refine enter Tryz.func210 Tryz.ntmps210 rfl rfl (bZ hs) ?_
 simp only[bY]
 refine cQ ?_;refine iM ?_;refine bJ ?_;refine aC (cM (hs:=xH k bx bm x dn rs) (os:=xW x) (hc:=λ w hs=>Jd ⟨1,c,0,0⟩ ok h h1 h2 hs)) (λ x11 h11=>?_);refine N6 ?_;refine J8 ?_;refine kK ?_;refine aG ?_
 refine bE (λ c14=>?_) (λ c14=>?_)
 ·try (exact absurd (by assumption) (by decide:¬(true=false)))
  refine dZ [(0,[]),(1,[]),(2,[]),(3,[]),(4,[]),(5,[]),(6,[]),(7,[]),(8,[]),(9,[]),(10,[]),(14,[]),(15,[]),(16,[]),(17,[]),(18,[]),(11,[5,17]),(12,[5,17]),(13,[17]),(19,[]),(20,[]),(21,[]),(22,[]),(23,[]),(24,[])] ?_;refine iD ?_;refine Dx ?_;refine Yu ?_;refine cG (i:=18) (hq:=(oF (m:=x.a) (n:=1) rf rf (by omega))) (h:=?_);refine bD (i:=11) (hq:=(cM (hc:=λ w hs=>pf (L:=x.L) (cs:=x.cs) hs c hc (by omega)))) (h:=λ x26 h26=>?_);refine cE (h:=λ x27=>?_);((refine cL (i:=13) (hq:=(bF.eN (sH (l:=x.got) (v:=cZ x.cs c) (m:=x.got.length) rf rf .head rfl fin l7 hY (by omega)) vJ)) (h:=λ x28=>?_);try (refine eW (λ h28=>?_))));refine J4 ?_;refine kY (i:=21) (hq:=(by exact fR λ _=>eS rf cK wn rf iA rf rf hU)) (h:=λ _=>?_);refine J4 ?_;refine kY (i:=24) (hq:=(by exact fR λ _=>eS rf cK wn rf iA rf rf hU)) (h:=λ _=>?_);refine eA ?_;refine kK ?_;refine Gh ?_
  (refine aF ?_;refine aA ?_)
  refine Qg ?_;refine aG ?_
  refine bE (λ c43=>?_) (λ c43=>?_)
  ·exact nv c43
  ·try (exact absurd (by assumption) (by decide:¬(true=false)))
   refine lK ?_;refine gI [0,1,2,3,4,5,6,7,8,9,10,11] ?_;refine Dx ?_;refine cG (i:=8) (hq:=(jF (m:=x.a+1) (n:=1) rf rf (by omega) (by omega))) (h:=?_);refine bT (i:=9) (hq:=(eZ (m:=x.got.length+1) (k:=x.a+1-1) (lst:=x.got++[cZ x.cs c]) rf rf hY iA (.own .head) (by omega) (by rw[List.length_append,List.length_cons,List.length_nil];omega))) (h:=?_);refine bT (i:=10) (hq:=(gX (q:=x.a+1-1) (lst:=x.got++[cZ x.cs c]) rf iA (.own .head) (by rw[List.length_append,List.length_cons,List.length_nil];omega))) (h:=?_);refine J7 ?_
   refine aT Tryz.results210 (λ w hw=>?_)
   rw[show x.got.length+1=(x.got++[cZ x.cs c]).length by simp] at hw
   exact⟨x28,by rw[show(x.got++[cZ x.cs c]).getD (x.a+1-1) 0=cZ x.cs c by rw[show x.a+1-1=x.got.length by omega,kP,List.getElem?_append_right (Nat.le_refl _)];simp];rfl,trivial,hw.aU⟩
 ·exact nv c14
end
end

/- Executions of the reference: cas. -/
end Go.Proofs.YtbajmaoegmbfgaaGreat
namespace Go.Ct
section
def Q1(b:Bool):Int:=if b=true then 1 else 0
theorem rO(l:List Int)(v:Int):(l++[v]).getD l.length 0=v:=by rw[kP,List.getElem?_append_right (Nat.le_refl _)];simp
end
end Go.Ct
namespace Go.Proofs.YtbajmaoegmbfgaaGreat
section
open Go Go.RowKit Go.Ct
section
variable{k:Cl}{bx bm:Nat}{x:XS}{dn:Bool}{rs:Rs}{D:List Nat}{A:Fr}{w:World}
theorem u7(c o n:Int)(ok:x.Ok)(h:x.st=true)(hs:SF w D (xH k bx bm x dn rs) A [] (xW x) w):Calls Tryz.prog 212 #[.pointer (some ⟨bx,0,none⟩),.int .i64 c,.int .i64 o,.int .i64 n] w λ e w'=>∃q:Unit,e=.returned (.bool false)/\True/\SF w D (xH k bx bm x dn rs) [] [] (xW x) w':=by
 refine enter Tryz.func212 Tryz.ntmps212 rfl rfl (bZ hs) ?_
 simp only[bY]
 refine cQ ?_;refine iM ?_;refine pV ?_;refine bJ ?_;refine aC (cM (hs:=xH k bx bm x dn rs) (os:=xW x) (hc:=λ w hs=>O3 ⟨2,c,o,n⟩ ok h hs)) (λ x18 h18=>?_);refine N6 ?_;refine J8 ?_;refine kK ?_;refine aG ?_
 refine bE (λ c21=>?_) (λ c21=>?_)
 ·exact nv c21
 ·try (exact absurd (by assumption) (by decide:¬(true=false)))
  refine lK ?_;refine gI [0,1,2,3,4,5,6,7,8,9,10,11,12,13,14,15,16,17,18] ?_;refine iD ?_
  (refine aN ?_)
  refine eO ?_;refine aN ?_
  refine dD ?_
  refine zs ?_;refine yu ?_;(refine dD ?_);refine J74 ?_;refine zr ?_;refine J7 ?_
  refine aT Tryz.results212 (λ w hw=>?_)
  exact⟨(),rfl,trivial,hw.aU⟩
theorem xd(c o n:Int)(ok:x.Ok)(h:x.st=false)(h1:¬x.a<x.got.length)(h2:x.fr=0)(hs:SF w D (xH k bx bm x dn rs) A [] (xW x) w):Calls Tryz.prog 212 #[.pointer (some ⟨bx,0,none⟩),.int .i64 c,.int .i64 o,.int .i64 n] w λ e w'=>∃q:Unit,e=.returned (.bool false)/\True/\SF w D (xH k bx bm {x with st:=true,nx:=⟨2,c,o,n⟩} dn rs) [] [] (xW {x with st:=true,nx:=⟨2,c,o,n⟩}) w':=by
 refine enter Tryz.func212 Tryz.ntmps212 rfl rfl (bZ hs) ?_
 simp only[bY]
 refine cQ ?_;refine iM ?_;refine pV ?_;refine bJ ?_;refine aC (cM (hs:=xH k bx bm x dn rs) (os:=xW x) (hc:=λ w hs=>On ⟨2,c,o,n⟩ ok h h1 h2 hs)) (λ x18 h18=>?_);refine N6 ?_;refine J8 ?_;refine kK ?_;refine aG ?_
 refine bE (λ c21=>?_) (λ c21=>?_)
 ·exact nv c21
 ·try (exact absurd (by assumption) (by decide:¬(true=false)))
  refine lK ?_;refine gI [0,1,2,3,4,5,6,7,8,9,10,11,12,13,14,15,16,17,18] ?_;refine iD ?_
  (refine aN ?_)
  refine eO ?_;refine aN ?_
  refine dD ?_
  refine zs ?_;refine yu ?_;(refine dD ?_);refine J74 ?_;refine zr ?_;refine J7 ?_
  refine aT Tryz.results212 (λ w hw=>?_)
  exact⟨(),rfl,trivial,hw.aU⟩
theorem Mf(c o n:Int)(ok:x.Ok)(h:x.st=false)(h1:x.a<x.got.length)(hs:SF w D (xH k bx bm x dn rs) A [] (xW x) w):Calls Tryz.prog 212 #[.pointer (some ⟨bx,0,none⟩),.int .i64 c,.int .i64 o,.int .i64 n] w λ e w'=>∃q:Unit,e=.returned (.bool (x.got.getD x.a 0==1))/\True/\SF w D (xH k bx bm {x with a:=x.a+1} dn rs) [] [] (xW {x with a:=x.a+1}) w':=by
 have hg:=ok.lg
 refine enter Tryz.func212 Tryz.ntmps212 rfl rfl (bZ hs) ?_
 simp only[bY]
 refine cQ ?_;refine iM ?_;refine pV ?_;refine bJ ?_;refine aC (cM (hs:=xH k bx bm x dn rs) (os:=xW x) (hc:=λ w hs=>Je ⟨2,c,o,n⟩ ok h h1 hs)) (λ x18 h18=>?_);refine N6 ?_;refine J8 ?_;refine kK ?_;refine aG ?_
 refine bE (λ c21=>?_) (λ c21=>?_)
 ·exact nv c21
 ·try (exact absurd (by assumption) (by decide:¬(true=false)))
  refine lK ?_;refine gI [0,1,2,3,4,5,6,7,8,9,10,11,12,13,14,15,16,17,18] ?_;refine iD ?_
  refine dD ?_
  refine eO ?_;refine aN ?_
  (refine aN ?_)
  refine zs ?_;refine yu ?_;((refine cG (i:=13) (hq:=(jF (m:=x.a+1) (n:=1) rf rf (by omega) (by omega))) (h:=?_)));((refine bT (i:=14) (hq:=(eZ (m:=x.got.length) (k:=x.a+1-1) (lst:=x.got) rf rf hY iA (.own .head) (by omega) (by omega))) (h:=?_)));((refine bT (i:=15) (hq:=(gX (q:=x.a+1-1) (lst:=x.got) rf iA (.own .head) (by omega))) (h:=?_)));refine zr ?_;refine J7 ?_
  refine aT Tryz.results212 (λ w hw=>?_)
  exact⟨(),by rw[Nat.add_sub_cancel];rfl,trivial,hw.aU⟩
theorem sc(c o n:Int)(hc:c<=9223372036854775807)(ok:x.Ok)(h:x.st=false)(h1:¬x.a<x.got.length)(h2:¬x.fr=0)(hs:SF w D (xH k bx bm x dn rs) A [] (xW x) w):Calls Tryz.prog 212 #[.pointer (some ⟨bx,0,none⟩),.int .i64 c,.int .i64 o,.int .i64 n] w λ e w'=>∃q:Bool×(Option Addr×Nat),e=.returned (.bool q.1)/\(q.1=true↔kF x.cs c o)/\SF w D (xH k bx bm {x with fr:=x.fr-1,cs:=eJ x.cs c o n,acc:=up x.acc,got:=x.got++[Q1 q.1],pg:=q.2.1,kg:=q.2.2,a:=x.a+1} dn rs) [] [] (xW {x with fr:=x.fr-1,cs:=eJ x.cs c o n,acc:=up x.acc,got:=x.got++[Q1 q.1],pg:=q.2.1,kg:=q.2.2,a:=x.a+1}) w':=by
 have hg:=ok.lg
 have ha:=ok.la
 have hlc:=ok.lc
 refine enter Tryz.func212 Tryz.ntmps212 rfl rfl (bZ hs) ?_
 simp only[bY]
 refine cQ ?_;refine iM ?_;refine pV ?_;refine bJ ?_;refine aC (cM (hs:=xH k bx bm x dn rs) (os:=xW x) (hc:=λ w hs=>Jd ⟨2,c,o,n⟩ ok h h1 h2 hs)) (λ x18 h18=>?_);refine N6 ?_;refine J8 ?_;refine kK ?_;refine aG ?_
 refine bE (λ c21=>?_) (λ c21=>?_)
 ·try (exact absurd (by assumption) (by decide:¬(true=false)))
  refine Hz ?_;refine lR ?_;refine pV ?_;refine aA ?_;refine aC (cM (V:=.bool) (hc:=λ w hs=>ya (L:=x.L) (cs:=x.cs) hs c o n hc (by omega))) (λ x29 h29=>?_);refine aG ?_
  refine bE (λ c29=>?_) (λ c29=>?_)
  ·try (exact absurd (by assumption) (by decide:¬(true=false)))
   have hv:(1:Int)=Q1 x29:=by rw[c29];rfl
   refine dW ?_;refine J1 ?_;refine dZ [(0,[]),(1,[]),(2,[]),(3,[]),(4,[]),(5,[]),(6,[]),(9,[]),(10,[]),(11,[]),(12,[]),(13,[]),(7,[5,12]),(8,[12]),(14,[]),(15,[]),(16,[]),(17,[]),(18,[]),(19,[])] ?_;refine iD ?_;refine ou ?_;refine Yu ?_;refine cG (i:=13) (hq:=(oF (m:=x.a) (n:=1) rf rf (by omega))) (h:=?_);refine cE (h:=λ x37=>?_);((refine cL (i:=8) (hq:=(bF.eN (sH (l:=x.got) (m:=x.got.length) rf rf .head rfl fin l7 hY (by omega)) vJ)) (h:=λ x38=>?_);try (refine eW (λ h38=>?_))));refine J4 ?_;refine kY (i:=16) (hq:=(by exact fR λ _=>eS rf cK wn rf iA rf rf hU)) (h:=λ _=>?_);refine J4 ?_;refine kY (i:=19) (hq:=(by exact fR λ _=>eS rf cK wn rf iA rf rf hU)) (h:=λ _=>?_);refine eA ?_;refine aV ?_;refine gI [0,1,2,3,4,5,6,7,8,9,10,11,12,13,14,15,16,17,18] ?_;refine iD ?_
   (refine aN ?_)
   refine eO ?_;refine aN ?_
   (refine aN ?_)
   refine zs ?_;refine yu ?_;((refine cG (i:=13) (hq:=(jF (m:=x.a+1) (n:=1) rf rf (by omega) (by omega))) (h:=?_)));((refine bT (i:=14) (hq:=(eZ (m:=x.got.length+1) (k:=x.a+1-1) rf rf hY iA (.own .head) (by omega) (by rw[List.length_append,List.length_cons,List.length_nil];omega))) (h:=?_)));((refine bT (i:=15) (hq:=(gX (q:=x.a+1-1) rf iA (.own .head) (by rw[List.length_append,List.length_cons,List.length_nil];omega))) (h:=?_)));refine zr ?_;refine J7 ?_
   refine aT Tryz.results212 (λ w hw=>?_)
   rw[hv] at hw
   rw[show x.got.length+1=(x.got++[Q1 x29]).length by simp] at hw
   exact⟨(x29,x38),by rw[show x.a+1-1=x.got.length by omega,rO,c29];rfl,h29,hw.aU⟩
  ·try (exact absurd (by assumption) (by decide:¬(true=false)))
   have hv:(0:Int)=Q1 x29:=by rw[c29];rfl
   refine aZ ?_;refine dZ [(0,[]),(1,[]),(2,[]),(3,[]),(4,[]),(5,[]),(6,[]),(9,[]),(10,[]),(11,[]),(12,[]),(13,[]),(7,[5,12]),(8,[12]),(14,[]),(15,[]),(16,[]),(17,[]),(18,[]),(19,[])] ?_;refine iD ?_;refine ou ?_;refine Yu ?_;refine cG (i:=13) (hq:=(oF (m:=x.a) (n:=1) rf rf (by omega))) (h:=?_);refine cE (h:=λ x37=>?_);((refine cL (i:=8) (hq:=(bF.eN (sH (l:=x.got) (m:=x.got.length) rf rf .head rfl fin l7 hY (by omega)) vJ)) (h:=λ x38=>?_);try (refine eW (λ h38=>?_))));refine J4 ?_;refine kY (i:=16) (hq:=(by exact fR λ _=>eS rf cK wn rf iA rf rf hU)) (h:=λ _=>?_);refine J4 ?_;refine kY (i:=19) (hq:=(by exact fR λ _=>eS rf cK wn rf iA rf rf hU)) (h:=λ _=>?_);refine eA ?_;refine aV ?_;refine gI [0,1,2,3,4,5,6,7,8,9,10,11,12,13,14,15,16,17,18] ?_;refine iD ?_
   (refine aN ?_)
   refine eO ?_;refine aN ?_
   (refine aN ?_)
   refine zs ?_;refine yu ?_;((refine cG (i:=13) (hq:=(jF (m:=x.a+1) (n:=1) rf rf (by omega) (by omega))) (h:=?_)));((refine bT (i:=14) (hq:=(eZ (m:=x.got.length+1) (k:=x.a+1-1) rf rf hY iA (.own .head) (by omega) (by rw[List.length_append,List.length_cons,List.length_nil];omega))) (h:=?_)));((refine bT (i:=15) (hq:=(gX (q:=x.a+1-1) rf iA (.own .head) (by rw[List.length_append,List.length_cons,List.length_nil];omega))) (h:=?_)));refine zr ?_;refine J7 ?_
   refine aT Tryz.results212 (λ w hw=>?_)
   rw[hv] at hw
   rw[show x.got.length+1=(x.got++[Q1 x29]).length by simp] at hw
   exact⟨(x29,x38),by rw[show x.a+1-1=x.got.length by omega,rO,c29];rfl,h29,hw.aU⟩
 ·exact nv c21
end
end

/- Executions of the reference: nodes, allocations, cells, generations. -/
section
open Go Go.RowKit Go.Ct
section
variable{k:Cl}{bx bm:Nat}{x:XS}{dn:Bool}{rs:Rs}{D:List Nat}{A:Fr}{w:World}
theorem fF(r:Int)(hr:r<=9223372036854775807)(ok:x.Ok)(hs:SF w D (xH k bx bm x dn rs) A [] (xW x) w):Calls Tryz.prog 211 #[.pointer (some ⟨bx,0,none⟩),.int .i64 r] w λ e w'=>∃q:Unit,e=.returned (aD x.L r).nd.v/\True/\SF w D (xH k bx bm x dn rs) [] [] (xW x) w':=by
 have hl:=ok.lL
 refine enter Tryz.func211 Tryz.ntmps211 rfl rfl (bZ hs) ?_
 simp only[bY]
 refine J0 ?_;refine aI (λ x4=>?_);refine aG ?_;refine lR ?_;refine aA ?_;refine aC (cM (hc:=λ w hs=>o8 (L:=x.L) (cs:=x.cs) hs r hr (by omega))) (λ x10 h10=>?_);refine J5 ?_
 refine bC Tryz.results211 (λ w hw=>?_)
 exact⟨(),rfl,trivial,hw.aU⟩
theorem bj{n:Nd}(i:Int)(h:x.st=true)(hs:SF w D (xH k bx bm x dn rs) A [] (xW x) w):Calls Tryz.prog 215 #[.pointer (some ⟨bx,0,none⟩),n.v,.int .i64 i] w λ e w'=>∃q:Unit,e=.returned (.int .i64 0)/\True/\SF w D (xH k bx bm x dn rs) [] [] (xW x) w':=by
 refine enter Tryz.func215 Tryz.ntmps215 rfl rfl (bZ hs) ?_
 simp only[bY]
 simp only[Nd.v]
 refine J0 ?_;refine bN (λ x4=>?_);refine iT ?_;refine lR ?_;refine aG ?_
 refine bE (λ c10=>?_) (λ c10=>?_)
 ·refine cQ ?_
  refine aT Tryz.results215 (λ w hw=>?_)
  exact⟨(),rfl,trivial,hw.aU⟩
 ·exact absurd (h.symm.trans c10) (by decide)
theorem alloc_old{n:Nd}(i:Int)(ok:x.Ok)(h:x.st=false)(h1:x.m<x.made.length)(hl:x.made.length<=274877906944)(hs:SF w D (xH k bx bm x dn rs) A [] (xW x) w):Calls Tryz.prog 215 #[.pointer (some ⟨bx,0,none⟩),n.v,.int .i64 i] w λ e w'=>∃q:Unit,e=.returned (.int .i64 (x.made.getD x.m 0))/\True/\SF w D (xH k bx bm {x with m:=x.m+1} dn rs) [] [] (xW {x with m:=x.m+1}) w':=by
 refine enter Tryz.func215 Tryz.ntmps215 rfl rfl (bZ hs) ?_
 simp only[bY]
 simp only[Nd.v]
 refine J0 ?_;refine bN (λ x4=>?_);refine iT ?_;refine lR ?_;refine aG ?_
 refine bE (λ c10=>?_) (λ c10=>?_)
 ·try (exfalso;omega)
  exact absurd (h.symm.trans c10) (by decide)
 ·try (exfalso;omega)
  refine lK ?_;refine aV ?_;refine gI [0,1,2,3,4,5,6,7,8,9] ?_;refine Dx ?_;refine pE ?_;refine mD ?_;refine eA ?_
  refine bE (λ c20=>?_) (λ c20=>?_)
  ·try (exfalso;omega)
  ·try (exfalso;omega)
   refine tm ?_;refine aB (oF (m:=x.m) (n:=1) rf rf (by omega)) rfl ?_;refine Hi ?_;refine bQ (by exact fR λ _=>eS rf cK wn rf iA rf rf hU) (λ _=>?_);refine Mt ?_;refine gI [0,1,2,3,4,5,6,7,8,9,10,11] ?_;refine Dx ?_;refine cG (i:=8) (hq:=(jF (m:=x.m+1) (n:=1) rf rf (by omega) (by omega))) (h:=?_);refine bT (i:=9) (hq:=(eZ (m:=x.made.length) (k:=x.m+1-1) (lst:=x.made) rf rf hY iA (.own (.tail .head)) (by omega) (by omega))) (h:=?_);refine bT (i:=10) (hq:=(gX (q:=x.m+1-1) (lst:=x.made) rf iA (.own (.tail .head)) (by omega))) (h:=?_);refine J7 ?_
   refine aT Tryz.results215 (λ w hw=>?_)
   exact⟨(),by rw[Nat.add_sub_cancel];rfl,trivial,hw.aU⟩
theorem X6{n:Nd}{xs:List Int}{ys:List Pr}(i:Int)(ok:x.Ok)(h:x.st=false)(h1:x.m=x.made.length)(hl:x.made.length<=137438953472)(hLl:x.L.length<=274877906900)(hcl:x.cs.length<=274877906900)(e1:n.brN=xs.length)(e2:n.prN=ys.length)(hx:xs.length<=274877906944)(hy:ys.length<=274877906944)(hs:SF w D (xH k bx bm x dn rs) [(n.brA,aH xs),(n.prA,dE ys)] [] (xW x) w):Calls Tryz.prog 215 #[.pointer (some ⟨bx,0,none⟩),n.v,.int .i64 i] w λ e w'=>∃q:AX×(Option Addr×Nat),e=.returned (.int .i64 ((x.L.length+1:Nat):Int))/\True /\
   SF w D (xH k bx bm {x with L:=x.L++[oE n xs ys x.cs.length q.1],cs:=gF n.kind x.cs i,pn:=q.1.pn,cn:=q.1.cn,pc:=q.1.pc,cc:=q.1.cc,made:=x.made++[((x.L.length+1:Nat):Int)],pm:=q.2.1,km:=q.2.2,m:=x.m+1} dn rs) [] (oE n xs ys x.cs.length q.1).fr (xW {x with L:=x.L++[oE n xs ys x.cs.length q.1],cs:=gF n.kind x.cs i,pn:=q.1.pn,cn:=q.1.cn,pc:=q.1.pc,cc:=q.1.cc,made:=x.made++[((x.L.length+1:Nat):Int)],pm:=q.2.1,km:=q.2.2,m:=x.m+1}) w':=by
 refine enter Tryz.func215 Tryz.ntmps215 rfl rfl (bZ hs) ?_
 simp only[bY]
 simp only[Nd.v]
 refine J0 ?_;refine bN (λ x4=>?_);refine iT ?_;refine lR ?_;refine aG ?_
 refine bE (λ c10=>?_) (λ c10=>?_)
 ·try (exfalso;omega)
  exact absurd (h.symm.trans c10) (by decide)
 ·try (exfalso;omega)
  refine lK ?_;refine aV ?_;refine gI [0,1,2,3,4,5,6,7,8,9] ?_;refine Dx ?_;refine pE ?_;refine mD ?_;refine eA ?_
  refine bE (λ c20=>?_) (λ c20=>?_)
  ·try (exfalso;omega)
   refine dZ [(0,[]),(1,[]),(2,[]),(3,[]),(4,[]),(5,[]),(6,[]),(7,[]),(8,[]),(9,[]),(10,[]),(11,[4]),(12,[4]),(13,[]),(14,[]),(15,[]),(16,[])] ?_;refine aN ?_;refine Dx ?_;refine bP ?_;refine aN ?_;refine bD (i:=11) (hq:=(cM (A0:=[(n.brA,aH xs),(n.prA,dE ys)]) (hc:=λ w hs=>Fm (n:=n) (L:=x.L) (cs:=x.cs) i hs e1 e2 hx hy (by omega) (by omega)))) (h:=λ x32 h32=>?_);refine cE (h:=λ x33=>?_);((refine cL (i:=13) (hq:=(bF.eN (sH (l:=x.made) (m:=x.made.length) rf rf (.tail .head) rfl fin l7 hY (by omega)) vJ)) (h:=λ x34=>?_);try (refine eW (λ h34=>?_))));refine J4 ?_;refine kY (i:=16) (hq:=(by exact fR λ _=>eS rf cK wn rf iA rf rf hU)) (h:=λ _=>?_);refine eA ?_;refine lR ?_;refine aB (oF (m:=x.m) (n:=1) rf rf (by omega)) rfl ?_;refine Hi ?_;refine bQ (by exact fR λ _=>eS rf cK wn rf iA rf rf hU) (λ _=>?_);refine Mt ?_;refine gI [0,1,2,3,4,5,6,7,8,9,10,11] ?_;refine Dx ?_;refine cG (i:=8) (hq:=(jF (m:=x.m+1) (n:=1) rf rf (by omega) (by omega))) (h:=?_);refine bT (i:=9) (hq:=(eZ (m:=x.made.length+1) (k:=x.m+1-1) rf rf hY iA (.own (.tail .head)) (by omega) (by rw[List.length_append,List.length_cons,List.length_nil];omega))) (h:=?_);refine bT (i:=10) (hq:=(gX (q:=x.m+1-1) rf iA (.own (.tail .head)) (by rw[List.length_append,List.length_cons,List.length_nil];omega))) (h:=?_);refine J7 ?_
   refine aT Tryz.results215 (λ w hw=>?_)
   rw[show x.made.length+1=(x.made++[((x.L.length+1:Nat):Int)]).length by simp] at hw
   exact⟨(x32,x34),by rw[show x.m+1-1=x.made.length by omega,rO];rfl,trivial,hw.ret (List.Sublist.cons _ (List.Sublist.refl _)) (aX.hX λ f hf=>List.mem_cons_of_mem _ (List.mem_append_left _ hf)) (List.Sublist.refl _)⟩
  ·try (exfalso;omega)
end
end

end Go.Proofs.YtbajmaoegmbfgaaGreat
