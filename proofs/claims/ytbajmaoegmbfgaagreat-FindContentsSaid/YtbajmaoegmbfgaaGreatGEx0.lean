/- Merged. -/
import Derived.Test.YtbajmaoegmbfgaaGreatGTr3
import Derived.Test.YtbajmaoegmbfgaaGreatGRn1
import Derived.Test.YtbajmaoegmbfgaaGreatGNode2
import Derived.Test.YtbajmaoegmbfgaaGreatGArN
set_option linter.unusedSimpArgs false
set_option linter.unusedVariables false
namespace Go.Proofs.YtbajmaoegmbfgaaGreat
open Go Go.RowKit Go.Ct
section
def xoC(k:Cl)(bm:Nat)(x:XS)(dn:Bool)(rs:Rs):List Value:=[.pointer (some ⟨bm,0,none⟩),
 .int .i64 k.kind,.int .i64 k.t.root,.bool k.t.ro,.int .i64 k.a,.int .i64 k.b,.int .i64 k.n,.int .i64 k.index,.int .u64 k.hash,.int .u64 k.mask,.string k.key,.int .u64 k.val,.int .u64 k.exp,.int .i64 k.Kc,.bool k.only,
 .bool false,.slice none 0 0,.slice none 0 0,.int .i64 0,.bool false,.int .u64 0,.string ⟨#[]⟩,.int .i64 0,.int .i64 0,.int .i64 0,.bool false,
 .slice x.pg x.got.length x.kg,.slice x.pm x.made.length x.km,.slice x.pl x.cel.length x.kl,.slice x.pe x.gns.length x.ke,
 .int .i64 ((x.a:Nat):Int),.int .i64 ((x.m:Nat):Int),.int .i64 ((x.c:Nat):Int),.int .i64 ((x.g:Nat):Int),.int .i64 ((x.fr:Nat):Int),.bool x.st,
 .int .i64 x.nx.k,.int .i64 x.nx.c,.int .i64 x.nx.o,.int .i64 x.nx.n,.bool dn,
 .int .i64 rs.err,.bool rs.found,.int .u64 rs.val,.string rs.key,.int .i64 rs.fQ,.int .i64 rs.ref,.int .i64 rs.root,.bool rs.ro,
 .bool false,.slice none 0 0,.slice none 0 0]
abbrev xO(k:Cl)(bm:Nat)(x:XS)(dn:Bool)(rs:Rs):Obj:=.cells ⟨xoC k bm x dn rs⟩ 153 (0,0)
abbrev xM(x:XS):Obj:=mO x.L x.cs x.gen x.acc x.pn x.cn x.pc x.cc
abbrev xW(x:XS):List Ow:=[⟨x.pg,aH x.got,x.kg,37,1⟩,⟨x.pm,aH x.made,x.km,37,1⟩,⟨x.pl,aH x.cel,x.kl,27,1⟩,⟨x.pe,aH x.gns,x.ke,3,1⟩,⟨x.pn,iH x.L,x.cn,47,14⟩,⟨x.pc,aH x.cs,x.cc,37,1⟩]
abbrev xH(k:Cl)(bx bm:Nat)(x:XS)(dn:Bool)(rs:Rs):List (Nat×Obj):=[(bx,xO k bm x dn rs),(bm,xM x)]
variable{w0 w:World}{D:List Nat}{k:Cl}{bx bm:Nat}{x:XS}{dn:Bool}{rs:Rs}{A F:Fr}
theorem aDE(h:SF w0 D (xH k bx bm x dn rs) A F (xW x) w) :
  SF w0 D [(bx,.cells ⟨[.pointer (some ⟨bm,0,none⟩),
 .int .i64 k.kind,.int .i64 k.t.root,.bool k.t.ro,.int .i64 k.a,.int .i64 k.b,.int .i64 k.n,.int .i64 k.index,.int .u64 k.hash,.int .u64 k.mask,.string k.key,.int .u64 k.val,.int .u64 k.exp,.int .i64 k.Kc,.bool k.only,
 .bool false,.slice none 0 0,.slice none 0 0,.int .i64 0,.bool false,.int .u64 0,.string ⟨#[]⟩,.int .i64 0,.int .i64 0,.int .i64 0,.bool false,
 .slice x.pg x.got.length x.kg,.slice x.pm x.made.length x.km,.slice x.pl x.cel.length x.kl,.slice x.pe x.gns.length x.ke,
 .int .i64 ((x.a:Nat):Int),.int .i64 ((x.m:Nat):Int),.int .i64 ((x.c:Nat):Int),.int .i64 ((x.g:Nat):Int),.int .i64 ((x.fr:Nat):Int),.bool x.st,
 .int .i64 x.nx.k,.int .i64 x.nx.c,.int .i64 x.nx.o,.int .i64 x.nx.n,.bool dn,
 .int .i64 rs.err,.bool rs.found,.int .u64 rs.val,.string rs.key,.int .i64 rs.fQ,.int .i64 rs.ref,.int .i64 rs.root,.bool rs.ro,
 .bool false,.slice none 0 0,.slice none 0 0]⟩ 153 (0,0)),(bm,mO x.L x.cs x.gen x.acc x.pn x.cn x.pc x.cc)] A F [⟨x.pg,aH x.got,x.kg,37,1⟩,⟨x.pm,aH x.made,x.km,37,1⟩,⟨x.pl,aH x.cel,x.kl,27,1⟩,⟨x.pe,aH x.gns,x.ke,3,1⟩,⟨x.pn,iH x.L,x.cn,47,14⟩,⟨x.pc,aH x.cs,x.cc,37,1⟩] w:=h
theorem cJ(h:SF w0 D (xH k bx bm x dn rs) A F (xW x) w) :
  SF w0 D [(bx,.cells ⟨xoC k bm x dn rs⟩ 153 (0,0)),(bm,mO x.L x.cs x.gen x.acc x.pn x.cn x.pc x.cc)] A F [⟨x.pg,aH x.got,x.kg,37,1⟩,⟨x.pm,aH x.made,x.km,37,1⟩,⟨x.pl,aH x.cel,x.kl,27,1⟩,⟨x.pe,aH x.gns,x.ke,3,1⟩,⟨x.pn,iH x.L,x.cn,47,14⟩,⟨x.pc,aH x.cs,x.cc,37,1⟩] w:=h
end
end Go.Proofs.YtbajmaoegmbfgaaGreat
namespace Go.Ct
section
def XS.kn(x:XS)(a:Ac):XS:=if x.st=true then x else if x.a<x.got.length then{x with a:=x.a+1} else if x.fr=0 then{x with st:=true,nx:=a} else{x with fr:=x.fr-1}
def XS.bS(x:XS):Bool:=!x.st&&decide (x.a<x.got.length)
def XS.now(x:XS):Bool:=!x.st&&!decide (x.a<x.got.length)&&!decide (x.fr=0)
variable{x:XS}{a:Ac}
theorem XS.zw(h:x.st=true):x.kn a=x/\x.bS=false/\x.now=false:=⟨if_pos h,by simp[XS.bS,h],by simp[XS.now,h]⟩
theorem XS.kf(h:x.st=false)(h1:x.a<x.got.length):x.kn a={x with a:=x.a+1}/\x.bS=true/\x.now=false:=⟨by unfold XS.kn;rw[if_neg (by rw[h];decide),if_pos h1],by simp[XS.bS,h,h1],by simp[XS.now,h1]⟩
theorem XS.z4(h:x.st=false)(h1:¬x.a<x.got.length)(h2:x.fr=0):x.kn a={x with st:=true,nx:=a}/\x.bS=false/\x.now=false:=⟨by unfold XS.kn;rw[if_neg (by rw[h];decide),if_neg h1,if_pos h2],by simp[XS.bS,h1],by simp[XS.now,h2]⟩
theorem XS.sv(h:x.st=false)(h1:¬x.a<x.got.length)(h2:¬x.fr=0):x.kn a={x with fr:=x.fr-1}/\x.bS=false/\x.now=true:=⟨by unfold XS.kn;rw[if_neg (by rw[h];decide),if_neg h1,if_neg h2],by simp[XS.bS,h1],by simp[XS.now,h,h1,h2]⟩
end
end Go.Ct
namespace Go.Proofs.YtbajmaoegmbfgaaGreat
open Go.Proofs.Tryz
open Go Go.RowKit Go.Ct
section
section
variable{k:Cl}{bx bm:Nat}{x:XS}{dn:Bool}{rs:Rs}{D:List Nat}{A:Fr}{w:World}
theorem Gb(a:Ac)(ok:x.Ok)(hs:SF w D (xH k bx bm x dn rs) A [] (xW x) w):Calls prog 240 #[.pointer (some ⟨bx,0,none⟩),.agg ⟨a.cells⟩] w λ e w'=>∃q:Unit,e=.returned (.tuple #[.bool x.bS,.bool x.now])/\True/\SF w D (xH k bx bm (x.kn a) dn rs) [] [] (xW (x.kn a)) w':=by
 have h1:=ok.lg;have h2:=ok.la;have h3:=ok.fr;refine enter func240 ntmps240 rfl rfl (aDE hs) ?_;simp only[cC]
 refine K1m ?_;intro x3;refine J8 ?_;refine aT ?_;refine Kc9 ?_;refine bD (λ c9=>?_) (λ c9=>?_);·refine Hu ?_;refine aZ results240 (λ w hw=>?_);obtain⟨e1,e2,e3⟩:=XS.zw (a:=a) c9;rw[e1,e2,e3];exact⟨(),rfl,trivial,hw.bB⟩
 ·refine lB ?_;refine aT ?_;refine gH [0,1,2,3,4,5,6,7,8,9] ?_;refine Fl ?_;refine qB ?_;refine Ec ?_;refine eN ?_;refine bD (λ c19=>?_) (λ c19=>?_);·refine mP ?_;refine Eb ?_;refine Pd ?_;refine Hu ?_;refine aZ results240 (λ w hw=>?_);obtain⟨e1,e2,e3⟩:=XS.kf (a:=a) c9 (by omega);rw[e1,e2,e3];exact⟨(),rfl,trivial,hw.bB⟩
  ·refine lB ?_;refine mP ?_;refine tG ?_;refine bD (λ c31=>?_) (λ c31=>?_);·refine aT ?_;refine eI [(0,[]),(1,[]),(2,[]),(3,[]),(4,[]),(5,[2]),(6,[]),(7,[]),(8,[])] ?_;refine iW ?_;refine bV ?_;refine J4 ?_;refine qJ (h:=λ _=>?_);refine J4 ?_;refine mC (i:=8) (hq:=(gE λ _=>mK (off:=36) (vs:=a.cells) rf cY rf rfl eD (Nat.le_of_ble_eq_true rfl) rf iR)) (h:=λ _=>?_);refine eN ?_;refine Hu ?_;refine aZ results240 (λ w hw=>?_);obtain⟨e1,e2,e3⟩:=XS.z4 (a:=a) c9 (by omega) (by omega);rw[e1,e2,e3];exact⟨(),rfl,trivial,hw.bB⟩
   ·refine J83 ?_;refine sV ?_;refine Pd ?_;refine Hu ?_;refine aZ results240 (λ w hw=>?_);obtain⟨e1,e2,e3⟩:=XS.sv (a:=a) c9 (by omega) (by omega);rw[e1,e2,e3];exact⟨(),rfl,trivial,hw.bB⟩
theorem Qz(a:Ac)(ok:x.Ok)(h:x.st=true)(hs:SF w D (xH k bx bm x dn rs) A [] (xW x) w):Calls prog 240 #[.pointer (some ⟨bx,0,none⟩),.agg ⟨a.cells⟩] w λ e w'=>∃q:Unit,e=.returned (.tuple #[.bool false,.bool false])/\True/\SF w D (xH k bx bm x dn rs) [] [] (xW x) w':=by obtain⟨e1,e2,e3⟩:=XS.zw (a:=a) h;have:=Gb (k:=k) (bx:=bx) (bm:=bm) (dn:=dn) (rs:=rs) (D:=D) (A:=A) (w:=w) a ok hs;rw[e1,e2,e3] at this;exact this
theorem Kx(a:Ac)(ok:x.Ok)(h:x.st=false)(h1:x.a<x.got.length)(hs:SF w D (xH k bx bm x dn rs) A [] (xW x) w):Calls prog 240 #[.pointer (some ⟨bx,0,none⟩),.agg ⟨a.cells⟩] w λ e w'=>∃q:Unit,e=.returned (.tuple #[.bool true,.bool false])/\True/\SF w D (xH k bx bm {x with a:=x.a+1} dn rs) [] [] (xW {x with a:=x.a+1}) w':=by obtain⟨e1,e2,e3⟩:=XS.kf (a:=a) h h1;have:=Gb (k:=k) (bx:=bx) (bm:=bm) (dn:=dn) (rs:=rs) (D:=D) (A:=A) (w:=w) a ok hs;rw[e1,e2,e3] at this;exact this
theorem P4(a:Ac)(ok:x.Ok)(h:x.st=false)(h1:¬x.a<x.got.length)(h2:x.fr=0)(hs:SF w D (xH k bx bm x dn rs) A [] (xW x) w):Calls prog 240 #[.pointer (some ⟨bx,0,none⟩),.agg ⟨a.cells⟩] w λ e w'=>∃q:Unit,e=.returned (.tuple #[.bool false,.bool false])/\True/\SF w D (xH k bx bm {x with st:=true,nx:=a} dn rs) [] [] (xW {x with st:=true,nx:=a}) w':=by obtain⟨e1,e2,e3⟩:=XS.z4 (a:=a) h h1 h2;have:=Gb (k:=k) (bx:=bx) (bm:=bm) (dn:=dn) (rs:=rs) (D:=D) (A:=A) (w:=w) a ok hs;rw[e1,e2,e3] at this;exact this
theorem L9(a:Ac)(ok:x.Ok)(h:x.st=false)(h1:¬x.a<x.got.length)(h2:¬x.fr=0)(hs:SF w D (xH k bx bm x dn rs) A [] (xW x) w):Calls prog 240 #[.pointer (some ⟨bx,0,none⟩),.agg ⟨a.cells⟩] w λ e w'=>∃q:Unit,e=.returned (.tuple #[.bool false,.bool true])/\True/\SF w D (xH k bx bm {x with fr:=x.fr-1} dn rs) [] [] (xW {x with fr:=x.fr-1}) w':=by obtain⟨e1,e2,e3⟩:=XS.sv (a:=a) h h1 h2;have:=Gb (k:=k) (bx:=bx) (bm:=bm) (dn:=dn) (rs:=rs) (D:=D) (A:=A) (w:=w) a ok hs;rw[e1,e2,e3] at this;exact this
theorem uu(c:Int)(ok:x.Ok)(h:x.st=true)(hs:SF w D (xH k bx bm x dn rs) A [] (xW x) w):Calls prog 210 #[.pointer (some ⟨bx,0,none⟩),.int .i64 c] w λ e w'=>∃q:Unit,e=.returned (.int .i64 0)/\True/\SF w D (xH k bx bm x dn rs) [] [] (xW x) w':=by
 refine K2o ?_;simp only[cC];refine Kc6 ?_;refine bM ?_;refine aD (cM (hs:=xH k bx bm x dn rs) (os:=xW x) (hc:=λ w hs=>Qz ⟨1,c,0,0⟩ ok h hs)) (λ x11 h11=>?_);refine Kb8 ?_;refine aG ?_;refine bD (λ c14=>?_) (λ c14=>?_);·exact nv c14
 ·try (exact abt)
  refine lB ?_;refine J2 ?_;refine Cr ?_;(refine Ka3 ?_);refine Kc2 ?_;refine bD (λ c43=>?_) (λ c43=>?_)
  ·try (exact abt)
   refine cU ?_;refine aS results210 (λ w hw=>?_);exact⟨(),rfl,trivial,hw.bB⟩
  ·exact nv c43
theorem yf(c:Int)(ok:x.Ok)(h:x.st=false)(h1:¬x.a<x.got.length)(h2:x.fr=0)(hs:SF w D (xH k bx bm x dn rs) A [] (xW x) w):Calls prog 210 #[.pointer (some ⟨bx,0,none⟩),.int .i64 c] w λ e w'=>∃q:Unit,e=.returned (.int .i64 0)/\True/\SF w D (xH k bx bm {x with st:=true,nx:=⟨1,c,0,0⟩} dn rs) [] [] (xW {x with st:=true,nx:=⟨1,c,0,0⟩}) w':=by
 refine K2o ?_;simp only[cC];refine Kc6 ?_;refine bM ?_;refine aD (cM (hs:=xH k bx bm x dn rs) (os:=xW x) (hc:=λ w hs=>P4 ⟨1,c,0,0⟩ ok h h1 h2 hs)) (λ x11 h11=>?_);refine Kb8 ?_;refine aG ?_;refine bD (λ c14=>?_) (λ c14=>?_);·exact nv c14
 ·try (exact abt)
  refine lB ?_;refine J2 ?_;refine Cr ?_;(refine Ka3 ?_);refine Kc2 ?_;refine bD (λ c43=>?_) (λ c43=>?_)
  ·try (exact abt)
   refine cU ?_;refine aS results210 (λ w hw=>?_);exact⟨(),rfl,trivial,hw.bB⟩
  ·exact nv c43
theorem G8(c:Int)(ok:x.Ok)(h:x.st=false)(h1:x.a<x.got.length)(hs:SF w D (xH k bx bm x dn rs) A [] (xW x) w):Calls prog 210 #[.pointer (some ⟨bx,0,none⟩),.int .i64 c] w λ e w'=>∃q:Unit,e=.returned (.int .i64 (x.got.getD x.a 0))/\True/\SF w D (xH k bx bm {x with a:=x.a+1} dn rs) [] [] (xW {x with a:=x.a+1}) w':=by
 have hg:=ok.lg;refine K2o ?_;simp only[cC];refine Kc6 ?_;refine bM ?_;refine aD (cM (hs:=xH k bx bm x dn rs) (os:=xW x) (hc:=λ w hs=>Kx ⟨1,c,0,0⟩ ok h h1 hs)) (λ x11 h11=>?_);refine Kb8 ?_;refine aG ?_;refine bD (λ c14=>?_) (λ c14=>?_);·exact nv c14
 ·try (exact abt)
  refine lB ?_;refine J2 ?_;refine Cr ?_;refine aI ?_;refine Kc2 ?_;refine bD (λ c43=>?_) (λ c43=>?_);·exact nv c43
  ·try (exact abt)
   refine lB ?_;refine K0x ?_;refine Fl ?_;refine cZ (i:=8) (hq:=(jZ (m:=x.a+1) (n:=1) rf rf (by omega) (by omega))) (h:=?_);refine bU (i:=9) (hq:=(dR (m:=x.got.length) (k:=x.a+1-1) (lst:=x.got) rf rf gS fW (.own .head) (by omega) (by omega))) (h:=?_);refine bU (i:=10) (hq:=(fI (q:=x.a+1-1) (lst:=x.got) rf fW (.own .head) (by omega))) (h:=?_);refine J7 ?_;refine aS results210 (λ w hw=>?_);exact⟨(),by rw[Nat.add_sub_cancel];rfl,trivial,hw.bB⟩
theorem qf(c:Int)(hc:c<=9223372036854775807)(ok:x.Ok)(h:x.st=false)(h1:¬x.a<x.got.length)(h2:¬x.fr=0)(hs:SF w D (xH k bx bm x dn rs) A [] (xW x) w):Calls prog 210 #[.pointer (some ⟨bx,0,none⟩),.int .i64 c] w λ e w'=>∃q:Option Addr×Nat,e=.returned (.int .i64 (bK x.cs c))/\True/\SF w D (xH k bx bm {x with fr:=x.fr-1,acc:=up x.acc,got:=x.got++[bK x.cs c],pg:=q.1,kg:=q.2,a:=x.a+1} dn rs) [] [] (xW {x with fr:=x.fr-1,acc:=up x.acc,got:=x.got++[bK x.cs c],pg:=q.1,kg:=q.2,a:=x.a+1}) w':=by
 have hg:=ok.lg;have ha:=ok.la;have hlc:=ok.lc;refine K2o ?_;simp only[cC]
 refine Kc6 ?_;refine bM ?_;refine aD (cM (hs:=xH k bx bm x dn rs) (os:=xW x) (hc:=λ w hs=>L9 ⟨1,c,0,0⟩ ok h h1 h2 hs)) (λ x11 h11=>?_);refine Kb8 ?_;refine aG ?_;refine bD (λ c14=>?_) (λ c14=>?_)
 ·try (exact abt)
  refine eI [(0,[]),(1,[]),(2,[]),(3,[]),(4,[]),(5,[]),(6,[]),(7,[]),(8,[]),(9,[]),(10,[]),(14,[]),(15,[]),(16,[]),(17,[]),(18,[]),(11,[5,17]),(12,[5,17]),(13,[17]),(19,[]),(20,[]),(21,[]),(22,[]),(23,[]),(24,[])] ?_;refine iW ?_;refine Fl ?_;refine dj ?_;refine cZ (i:=18) (hq:=(pY (m:=x.a) (n:=1) rf rf (by omega))) (h:=?_);refine bI (i:=11) (hq:=(cM (hc:=λ w hs=>xb (L:=x.L) (cs:=x.cs) hs c hc (by omega)))) (h:=λ x26 h26=>?_);refine cE (h:=λ x27=>?_);((refine dB (i:=13) (hq:=(bG.eM (uM (l:=x.got) (v:=bK x.cs c) (m:=x.got.length) rf rf .head rfl fin dh gS (by omega)) vS)) (h:=λ x28=>?_);try (refine eK (λ h28=>?_))));refine J4 ?_;refine mC (i:=21) (hq:=E0b) (h:=λ _=>?_);refine J4 ?_;refine mC (i:=24) (hq:=E0b) (h:=λ _=>?_);refine eN ?_;refine jS ?_;refine Cr ?_;(refine Ka3 ?_);refine Kc2 ?_;refine bD (λ c43=>?_) (λ c43=>?_);·exact nv c43
  ·try (exact abt)
   refine lB ?_;refine K0x ?_;refine Fl ?_;refine cZ (i:=8) (hq:=(jZ (m:=x.a+1) (n:=1) rf rf (by omega) (by omega))) (h:=?_);refine bU (i:=9) (hq:=(dR (m:=x.got.length+1) (k:=x.a+1-1) (lst:=x.got++[bK x.cs c]) rf rf gS fW (.own .head) (by omega) E0c)) (h:=?_);refine bU (i:=10) (hq:=(fI (q:=x.a+1-1) (lst:=x.got++[bK x.cs c]) rf fW (.own .head) E0c)) (h:=?_);refine J7 ?_;refine aS results210 (λ w hw=>?_);rw[show x.got.length+1=(x.got++[bK x.cs c]).length by simp] at hw;exact⟨x28,by rw[show(x.got++[bK x.cs c]).getD (x.a+1-1) 0=bK x.cs c by rw[show x.a+1-1=x.got.length by omega,iX,List.getElem?_append_right (Nat.le_refl _)];simp];rfl,trivial,hw.bB⟩
 ·exact nv c14
end
end
end Go.Proofs.YtbajmaoegmbfgaaGreat
namespace Go.Ct
section
def Ua(b:Bool):Int:=if b=true then 1 else 0
theorem tD(l:List Int)(v:Int):(l++[v]).getD l.length 0=v:=by rw[iX,List.getElem?_append_right (Nat.le_refl _)];simp
end
end Go.Ct
namespace Go.Proofs.YtbajmaoegmbfgaaGreat
open Go.Proofs.Tryz
open Go Go.RowKit Go.Ct
section
section
variable{k:Cl}{bx bm:Nat}{x:XS}{dn:Bool}{rs:Rs}{D:List Nat}{A:Fr}{w:World}
theorem aBz(c o n:Int)(ok:x.Ok)(h:x.st=true)(hs:SF w D (xH k bx bm x dn rs) A [] (xW x) w):Calls prog 212 #[.pointer (some ⟨bx,0,none⟩),.int .i64 c,.int .i64 o,.int .i64 n] w λ e w'=>∃q:Unit,e=.returned (.bool false)/\True/\SF w D (xH k bx bm x dn rs) [] [] (xW x) w':=by
 refine K2n ?_;simp only[cC];refine Kc6 ?_;refine qX ?_;refine bM ?_;refine aD (cM (hs:=xH k bx bm x dn rs) (os:=xW x) (hc:=λ w hs=>Qz ⟨2,c,o,n⟩ ok h hs)) (λ x18 h18=>?_);refine Kb8 ?_;refine aG ?_;refine bD (λ c21=>?_) (λ c21=>?_);·exact nv c21
 ·try (exact abt)
  refine lB ?_;refine K0u ?_;refine iF ?_;refine J60 ?_;refine J30 ?_;(refine iF ?_);refine J74 ?_;refine K2k ?_;intro w hw;exact⟨(),rfl,trivial,hw.bB⟩
theorem aCm(c o n:Int)(ok:x.Ok)(h:x.st=false)(h1:¬x.a<x.got.length)(h2:x.fr=0)(hs:SF w D (xH k bx bm x dn rs) A [] (xW x) w):Calls prog 212 #[.pointer (some ⟨bx,0,none⟩),.int .i64 c,.int .i64 o,.int .i64 n] w λ e w'=>∃q:Unit,e=.returned (.bool false)/\True/\SF w D (xH k bx bm {x with st:=true,nx:=⟨2,c,o,n⟩} dn rs) [] [] (xW {x with st:=true,nx:=⟨2,c,o,n⟩}) w':=by
 refine K2n ?_;simp only[cC];refine Kc6 ?_;refine qX ?_;refine bM ?_;refine aD (cM (hs:=xH k bx bm x dn rs) (os:=xW x) (hc:=λ w hs=>P4 ⟨2,c,o,n⟩ ok h h1 h2 hs)) (λ x18 h18=>?_);refine Kb8 ?_;refine aG ?_;refine bD (λ c21=>?_) (λ c21=>?_);·exact nv c21
 ·try (exact abt)
  refine lB ?_;refine K0u ?_;refine iF ?_;refine J60 ?_;refine J30 ?_;(refine iF ?_);refine J74 ?_;refine K2k ?_;intro w hw;exact⟨(),rfl,trivial,hw.bB⟩
theorem Ou(c o n:Int)(ok:x.Ok)(h:x.st=false)(h1:x.a<x.got.length)(hs:SF w D (xH k bx bm x dn rs) A [] (xW x) w):Calls prog 212 #[.pointer (some ⟨bx,0,none⟩),.int .i64 c,.int .i64 o,.int .i64 n] w λ e w'=>∃q:Unit,e=.returned (.bool (x.got.getD x.a 0==1))/\True/\SF w D (xH k bx bm {x with a:=x.a+1} dn rs) [] [] (xW {x with a:=x.a+1}) w':=by
 have hg:=ok.lg;refine K2n ?_;simp only[cC];refine Kc6 ?_;refine qX ?_;refine bM ?_;refine aD (cM (hs:=xH k bx bm x dn rs) (os:=xW x) (hc:=λ w hs=>Kx ⟨2,c,o,n⟩ ok h h1 hs)) (λ x18 h18=>?_);refine Kb8 ?_;refine aG ?_;refine bD (λ c21=>?_) (λ c21=>?_);·exact nv c21
 ·try (exact abt)
  refine lB ?_;refine gH [0,1,2,3,4,5,6,7,8,9,10,11,12,13,14,15,16,17,18] ?_;refine iW ?_;refine iF ?_;refine lZ ?_;refine aV ?_;(refine aV ?_);refine J60 ?_;refine J30 ?_;((refine cZ (i:=13) (hq:=(jZ (m:=x.a+1) (n:=1) rf rf (by omega) (by omega))) (h:=?_)));((refine bU (i:=14) (hq:=(dR (m:=x.got.length) (k:=x.a+1-1) (lst:=x.got) rf rf gS fW (.own .head) (by omega) (by omega))) (h:=?_)));((refine bU (i:=15) (hq:=(fI (q:=x.a+1-1) (lst:=x.got) rf fW (.own .head) (by omega))) (h:=?_)));refine K2k ?_;intro w hw;exact⟨(),by rw[Nat.add_sub_cancel];rfl,trivial,hw.bB⟩
theorem vd(c o n:Int)(hc:c<=9223372036854775807)(ok:x.Ok)(h:x.st=false)(h1:¬x.a<x.got.length)(h2:¬x.fr=0)(hs:SF w D (xH k bx bm x dn rs) A [] (xW x) w):Calls prog 212 #[.pointer (some ⟨bx,0,none⟩),.int .i64 c,.int .i64 o,.int .i64 n] w λ e w'=>∃q:Bool×(Option Addr×Nat),e=.returned (.bool q.1)/\(q.1=true↔iQ x.cs c o)/\SF w D (xH k bx bm {x with fr:=x.fr-1,cs:=eL x.cs c o n,acc:=up x.acc,got:=x.got++[Ua q.1],pg:=q.2.1,kg:=q.2.2,a:=x.a+1} dn rs) [] [] (xW {x with fr:=x.fr-1,cs:=eL x.cs c o n,acc:=up x.acc,got:=x.got++[Ua q.1],pg:=q.2.1,kg:=q.2.2,a:=x.a+1}) w':=by
 have hg:=ok.lg;have ha:=ok.la;have hlc:=ok.lc;refine K2n ?_;simp only[cC]
 refine Kc6 ?_;refine qX ?_;refine bM ?_;refine aD (cM (hs:=xH k bx bm x dn rs) (os:=xW x) (hc:=λ w hs=>L9 ⟨2,c,o,n⟩ ok h h1 h2 hs)) (λ x18 h18=>?_);refine Kb8 ?_;refine aG ?_;refine bD (λ c21=>?_) (λ c21=>?_)
 ·try (exact abt)
  refine Je ?_;refine mP ?_;refine qX ?_;refine aA ?_;refine aD (cM (V:=.bool) (hc:=λ w hs=>aBr (L:=x.L) (cs:=x.cs) hs c o n hc (by omega))) (λ x29 h29=>?_);refine aG ?_;refine bD (λ c29=>?_) (λ c29=>?_)
  ·try (exact abt)
   have hv:(1:Int)=Ua x29:=by rw[c29];rfl
   refine dS ?_;refine J1 ?_;refine K0z ?_;refine cE (h:=λ x37=>?_);((refine dB (i:=8) (hq:=(bG.eM (uM (l:=x.got) (m:=x.got.length) rf rf .head rfl fin dh gS (by omega)) vS)) (h:=λ x38=>?_);try (refine eK (λ h38=>?_))));refine J4 ?_;refine mC (i:=16) (hq:=E0b) (h:=λ _=>?_);refine J4 ?_;refine mC (i:=19) (hq:=E0b) (h:=λ _=>?_);refine eN ?_;refine aT ?_;refine K0u ?_;(refine aV ?_);refine J60 ?_;refine J30 ?_;((refine cZ (i:=13) (hq:=(jZ (m:=x.a+1) (n:=1) rf rf (by omega) (by omega))) (h:=?_)));((refine bU (i:=14) (hq:=(dR (m:=x.got.length+1) (k:=x.a+1-1) rf rf gS fW (.own .head) (by omega) E0c)) (h:=?_)));((refine bU (i:=15) (hq:=(fI (q:=x.a+1-1) rf fW (.own .head) E0c)) (h:=?_)));refine K2k ?_;intro w hw;rw[hv] at hw;rw[show x.got.length+1=(x.got++[Ua x29]).length by simp] at hw;exact⟨(x29,x38),by rw[show x.a+1-1=x.got.length by omega,tD,c29];rfl,h29,hw.bB⟩
  ·try (exact abt)
   have hv:(0:Int)=Ua x29:=by rw[c29];rfl
   refine aW ?_;refine K0z ?_;refine cE (h:=λ x37=>?_);((refine dB (i:=8) (hq:=(bG.eM (uM (l:=x.got) (m:=x.got.length) rf rf .head rfl fin dh gS (by omega)) vS)) (h:=λ x38=>?_);try (refine eK (λ h38=>?_))));refine J4 ?_;refine mC (i:=16) (hq:=E0b) (h:=λ _=>?_);refine J4 ?_;refine mC (i:=19) (hq:=E0b) (h:=λ _=>?_);refine eN ?_;refine aT ?_;refine K0u ?_;(refine aV ?_);refine J60 ?_;refine J30 ?_;((refine cZ (i:=13) (hq:=(jZ (m:=x.a+1) (n:=1) rf rf (by omega) (by omega))) (h:=?_)));((refine bU (i:=14) (hq:=(dR (m:=x.got.length+1) (k:=x.a+1-1) rf rf gS fW (.own .head) (by omega) E0c)) (h:=?_)));((refine bU (i:=15) (hq:=(fI (q:=x.a+1-1) rf fW (.own .head) E0c)) (h:=?_)));refine K2k ?_;intro w hw;rw[hv] at hw;rw[show x.got.length+1=(x.got++[Ua x29]).length by simp] at hw;exact⟨(x29,x38),by rw[show x.a+1-1=x.got.length by omega,tD,c29];rfl,h29,hw.bB⟩
 ·exact nv c21
end
end
section
section
variable{k:Cl}{bx bm:Nat}{x:XS}{dn:Bool}{rs:Rs}{D:List Nat}{A:Fr}{w:World}
theorem fU(r:Int)(hr:r<=9223372036854775807)(ok:x.Ok)(hs:SF w D (xH k bx bm x dn rs) A [] (xW x) w):Calls prog 211 #[.pointer (some ⟨bx,0,none⟩),.int .i64 r] w λ e w'=>∃q:Unit,e=.returned (aB x.L r).nd.v/\True/\SF w D (xH k bx bm x dn rs) [] [] (xW x) w':=by
 have hl:=ok.lL;refine enter func211 ntmps211 rfl rfl (cJ hs) ?_;simp only[cC]
 refine K0t ?_;intro x4;refine mP ?_;refine aA ?_;refine aD (cM (hc:=λ w hs=>u6 (L:=x.L) (cs:=x.cs) hs r hr (by omega))) (λ x10 h10=>?_);refine J5 ?_;refine aZ results211 (λ w hw=>?_);exact⟨(),rfl,trivial,hw.bB⟩
theorem q8{n:Nd}(i:Int)(h:x.st=true)(hs:SF w D (xH k bx bm x dn rs) A [] (xW x) w):Calls prog 215 #[.pointer (some ⟨bx,0,none⟩),n.v,.int .i64 i] w λ e w'=>∃q:Unit,e=.returned (.int .i64 0)/\True/\SF w D (xH k bx bm x dn rs) [] [] (xW x) w':=by
 refine enter func215 ntmps215 rfl rfl (cJ hs) ?_;simp only[cC];simp only[Nd.v];refine J0 ?_;refine bJ (λ x4=>?_);refine jG ?_;refine Kc9 ?_;refine bD (λ c10=>?_) (λ c10=>?_);·refine cU ?_;refine aS results215 (λ w hw=>?_);exact⟨(),rfl,trivial,hw.bB⟩
 ·exact absurd (h.symm.trans c10) (by decide)
theorem alloc_old{n:Nd}(i:Int)(ok:x.Ok)(h:x.st=false)(h1:x.m<x.made.length)(hl:x.made.length<=274877906944)(hs:SF w D (xH k bx bm x dn rs) A [] (xW x) w):Calls prog 215 #[.pointer (some ⟨bx,0,none⟩),n.v,.int .i64 i] w λ e w'=>∃q:Unit,e=.returned (.int .i64 (x.made.getD x.m 0))/\True/\SF w D (xH k bx bm {x with m:=x.m+1} dn rs) [] [] (xW {x with m:=x.m+1}) w':=by
 refine enter func215 ntmps215 rfl rfl (cJ hs) ?_;simp only[cC];simp only[Nd.v];refine J0 ?_;refine bJ (λ x4=>?_);refine jG ?_;refine Kc9 ?_;refine bD (λ c10=>?_) (λ c10=>?_)
 ·try (exfalso;omega)
  exact absurd (h.symm.trans c10) (by decide)
 ·try (exfalso;omega)
  refine K0m ?_;refine bD (λ c20=>?_) (λ c20=>?_);·try (exfalso;omega)
  ·try (exfalso;omega)
   refine J83 ?_;refine aC (pY (m:=x.m) (n:=1) rf rf (by omega)) rfl ?_;refine H0 ?_;refine bT E0b (λ _=>?_);refine Qa ?_;refine K0x ?_;refine Fl ?_;refine cZ (i:=8) (hq:=(jZ (m:=x.m+1) (n:=1) rf rf (by omega) (by omega))) (h:=?_);refine bU (i:=9) (hq:=(dR (m:=x.made.length) (k:=x.m+1-1) (lst:=x.made) rf rf gS fW (.own (.tail .head)) (by omega) (by omega))) (h:=?_);refine bU (i:=10) (hq:=(fI (q:=x.m+1-1) (lst:=x.made) rf fW (.own (.tail .head)) (by omega))) (h:=?_);refine J7 ?_;refine aS results215 (λ w hw=>?_);exact⟨(),by rw[Nat.add_sub_cancel];rfl,trivial,hw.bB⟩
theorem Zi{n:Nd}{xs:List Int}{ys:List Pr}(i:Int)(ok:x.Ok)(h:x.st=false)(h1:x.m=x.made.length)(hl:x.made.length<=137438953472)(hLl:x.L.length<=274877906900)(hcl:x.cs.length<=274877906900)(e1:n.brN=xs.length)(e2:n.prN=ys.length)(hx:xs.length<=274877906944)(hy:ys.length<=274877906944)(hs:SF w D (xH k bx bm x dn rs) [(n.brA,aH xs),(n.prA,dF ys)] [] (xW x) w):Calls prog 215 #[.pointer (some ⟨bx,0,none⟩),n.v,.int .i64 i] w λ e w'=>∃q:AX×(Option Addr×Nat),e=.returned (.int .i64 ((x.L.length+1:Nat):Int))/\True /\
   SF w D (xH k bx bm {x with L:=x.L++[pP n xs ys x.cs.length q.1],cs:=fL n.kind x.cs i,pn:=q.1.pn,cn:=q.1.cn,pc:=q.1.pc,cc:=q.1.cc,made:=x.made++[((x.L.length+1:Nat):Int)],pm:=q.2.1,km:=q.2.2,m:=x.m+1} dn rs) [] (pP n xs ys x.cs.length q.1).fr (xW {x with L:=x.L++[pP n xs ys x.cs.length q.1],cs:=fL n.kind x.cs i,pn:=q.1.pn,cn:=q.1.cn,pc:=q.1.pc,cc:=q.1.cc,made:=x.made++[((x.L.length+1:Nat):Int)],pm:=q.2.1,km:=q.2.2,m:=x.m+1}) w':=by
 refine enter func215 ntmps215 rfl rfl (cJ hs) ?_;simp only[cC];simp only[Nd.v];refine J0 ?_;refine bJ (λ x4=>?_);refine jG ?_;refine Kc9 ?_;refine bD (λ c10=>?_) (λ c10=>?_)
 ·try (exfalso;omega)
  exact absurd (h.symm.trans c10) (by decide)
 ·try (exfalso;omega)
  refine K0m ?_;refine bD (λ c20=>?_) (λ c20=>?_)
  ·try (exfalso;omega)
   refine eI [(0,[]),(1,[]),(2,[]),(3,[]),(4,[]),(5,[]),(6,[]),(7,[]),(8,[]),(9,[]),(10,[]),(11,[4]),(12,[4]),(13,[]),(14,[]),(15,[]),(16,[])] ?_;refine aV ?_;refine Fl ?_;refine bV ?_;refine aV ?_;refine bI (i:=11) (hq:=(cM (A0:=[(n.brA,aH xs),(n.prA,dF ys)]) (hc:=λ w hs=>Ht (n:=n) (L:=x.L) (cs:=x.cs) i hs e1 e2 hx hy (by omega) (by omega)))) (h:=λ x32 h32=>?_);refine cE (h:=λ x33=>?_);((refine dB (i:=13) (hq:=(bG.eM (uM (l:=x.made) (m:=x.made.length) rf rf (.tail .head) rfl fin dh gS (by omega)) vS)) (h:=λ x34=>?_);try (refine eK (λ h34=>?_))));refine J4 ?_;refine mC (i:=16) (hq:=E0b) (h:=λ _=>?_);refine eN ?_;refine mP ?_;refine aC (pY (m:=x.m) (n:=1) rf rf (by omega)) rfl ?_;refine H0 ?_;refine bT E0b (λ _=>?_);refine Qa ?_;refine K0x ?_;refine Fl ?_;refine cZ (i:=8) (hq:=(jZ (m:=x.m+1) (n:=1) rf rf (by omega) (by omega))) (h:=?_);refine bU (i:=9) (hq:=(dR (m:=x.made.length+1) (k:=x.m+1-1) rf rf gS fW (.own (.tail .head)) (by omega) E0c)) (h:=?_);refine bU (i:=10) (hq:=(fI (q:=x.m+1-1) rf fW (.own (.tail .head)) E0c)) (h:=?_);refine J7 ?_;refine aS results215 (λ w hw=>?_);rw[show x.made.length+1=(x.made++[((x.L.length+1:Nat):Int)]).length by simp] at hw;exact⟨(x32,x34),by rw[show x.m+1-1=x.made.length by omega,tD];rfl,trivial,hw.ret (List.Sublist.cons _ (List.Sublist.refl _)) (bA.iT λ f hf=>List.mem_cons_of_mem _ (List.mem_append_left _ hf)) (List.Sublist.refl _)⟩
  ·try (exfalso;omega)
end
end
section
theorem Pp:dJ prog 27=some (.int .i64 0):=by kernel_rfl
theorem G5:dX prog 151 27 [.int .i64 0]:=lU (by kernel_rfl) Pp rfl
section
variable{k:Cl}{bx bm:Nat}{x:XS}{dn:Bool}{rs:Rs}{D:List Nat}{A:Fr}{w:World}
theorem v9(i:Int)(h:x.st=true)(hs:SF w D (xH k bx bm x dn rs) A [] (xW x) w):Calls prog 228 #[.pointer (some ⟨bx,0,none⟩),.int .i64 i] w λ e w'=>∃q:Unit,e=.returned (.int .i64 0)/\True/\SF w D (xH k bx bm x dn rs) [] [] (xW x) w':=by
 refine enter func228 ntmps228 rfl rfl (cJ hs) ?_;simp only[cC];refine Je ?_;refine Kc9 ?_;refine bD (λ c8=>?_) (λ c8=>?_);·refine cU ?_;refine aS results228 (λ w hw=>?_);exact⟨(),rfl,trivial,hw.bB⟩
 ·exact absurd (h.symm.trans c8) (by decide)
theorem H4(i:Int)(h:x.st=false)(h1:x.c<x.cel.length)(hl:x.cel.length<=274877906944)(hs:SF w D (xH k bx bm x dn rs) A [] (xW x) w):Calls prog 228 #[.pointer (some ⟨bx,0,none⟩),.int .i64 i] w λ e w'=>∃q:Unit,e=.returned (.int .i64 (x.cel.getD x.c 0))/\True/\SF w D (xH k bx bm {x with c:=x.c+1} dn rs) [] [] (xW {x with c:=x.c+1}) w':=by
 refine enter func228 ntmps228 rfl rfl (cJ hs) ?_;simp only[cC];refine Je ?_;refine Kc9 ?_;refine bD (λ c8=>?_) (λ c8=>?_)
 ·try (exfalso;omega)
  exact absurd (h.symm.trans c8) (by decide)
 ·try (exfalso;omega)
  refine K0m ?_;refine bD (λ c18=>?_) (λ c18=>?_);·try (exfalso;omega)
  ·try (exfalso;omega)
   refine J83 ?_;refine aC (pY (m:=x.c) (n:=1) rf rf (by omega)) rfl ?_;refine H0 ?_;refine bT E0b (λ _=>?_);refine Qa ?_;refine K0x ?_;refine Fl ?_;refine cZ (i:=8) (hq:=(jZ (m:=x.c+1) (n:=1) rf rf (by omega) (by omega))) (h:=?_);refine bU (i:=9) (hq:=(dR (m:=x.cel.length) (k:=x.c+1-1) (lst:=x.cel) rf rf gS fW (.own (.tail (.tail .head))) (by omega) (by omega))) (h:=?_);refine bU (i:=10) (hq:=(fI (q:=x.c+1-1) (lst:=x.cel) rf fW (.own (.tail (.tail .head))) (by omega))) (h:=?_);refine J7 ?_;refine aS results228 (λ w hw=>?_);exact⟨(),by rw[Nat.add_sub_cancel];rfl,trivial,hw.bB⟩
theorem oa(i:Int)(h:x.st=false)(h1:x.c=x.cel.length)(hl:x.cel.length<=137438953472)(hcl:x.cs.length<=274877906900)(hs:SF w D (xH k bx bm x dn rs) A [] (xW x) w):Calls prog 228 #[.pointer (some ⟨bx,0,none⟩),.int .i64 i] w λ e w'=>∃q:(Option Addr×Nat)×(Option Addr×Nat),e=.returned (.int .i64 ((x.cs.length+1:Nat):Int))/\True /\
   SF w D (xH k bx bm {x with cs:=x.cs++[i],pc:=q.1.1,cc:=q.1.2,cel:=x.cel++[((x.cs.length+1:Nat):Int)],pl:=q.2.1,kl:=q.2.2,c:=x.c+1} dn rs) [] [] (xW {x with cs:=x.cs++[i],pc:=q.1.1,cc:=q.1.2,cel:=x.cel++[((x.cs.length+1:Nat):Int)],pl:=q.2.1,kl:=q.2.2,c:=x.c+1}) w':=by
 refine enter func228 ntmps228 rfl rfl (cJ hs) ?_;simp only[cC];refine Je ?_;refine Kc9 ?_;refine bD (λ c8=>?_) (λ c8=>?_)
 ·try (exfalso;omega)
  exact absurd (h.symm.trans c8) (by decide)
 ·try (exfalso;omega)
  refine K0m ?_;refine bD (λ c18=>?_) (λ c18=>?_)
  ·try (exfalso;omega)
   refine eI [(0,[]),(1,[]),(2,[]),(3,[]),(4,[]),(5,[]),(6,[]),(7,[]),(8,[]),(9,[]),(10,[4]),(11,[4]),(12,[]),(13,[]),(14,[]),(15,[])] ?_;refine aV ?_;refine Fl ?_;refine aV ?_;refine bI (i:=10) (hq:=(cM (hc:=λ w hs=>mB (L:=x.L) (cs:=x.cs) i hs (by omega)))) (h:=λ x29 h29=>?_);refine dB (i:=11) (hq:=((by exact Kk (λ _=>cW (cs:=aH [((x.cs.length+1:Nat):Int)]) G5 Kg rfl rfl rfl rfl rfl)))) (h:=λ x30=>?_);((refine dB (i:=12) (hq:=(bG.eM (uM (l:=x.cel) (m:=x.cel.length) rf rf (.tail (.tail .head)) rfl fin (by exact G5) gS (by omega)) vS)) (h:=λ x31=>?_);try (refine eK (λ h31=>?_))));refine J4 ?_;refine mC (i:=15) (hq:=E0b) (h:=λ _=>?_);refine eN ?_;refine mP ?_;refine aC (pY (m:=x.c) (n:=1) rf rf (by omega)) rfl ?_;refine H0 ?_;refine bT E0b (λ _=>?_);refine Qa ?_;refine K0x ?_;refine Fl ?_;refine cZ (i:=8) (hq:=(jZ (m:=x.c+1) (n:=1) rf rf (by omega) (by omega))) (h:=?_);refine bU (i:=9) (hq:=(dR (m:=x.cel.length+1) (k:=x.c+1-1) rf rf gS fW (.own (.tail (.tail .head))) (by omega) E0c)) (h:=?_);refine bU (i:=10) (hq:=(fI (q:=x.c+1-1) rf fW (.own (.tail (.tail .head))) E0c)) (h:=?_);refine J7 ?_;refine aS results228 (λ w hw=>?_);rw[show x.cel.length+1=(x.cel++[((x.cs.length+1:Nat):Int)]).length by simp] at hw;exact⟨(x29,x31),by rw[show x.c+1-1=x.cel.length by omega,tD];rfl,trivial,hw.bB⟩
  ·try (exfalso;omega)
theorem aAT(h:x.st=true)(hs:SF w D (xH k bx bm x dn rs) A [] (xW x) w):Calls prog 230 #[.pointer (some ⟨bx,0,none⟩)] w λ e w'=>∃q:Unit,e=.returned (.int .i64 0)/\True/\SF w D (xH k bx bm x dn rs) [] [] (xW x) w':=by
 refine enter func230 ntmps230 rfl rfl (cJ hs) ?_;simp only[cC];refine Je ?_;refine Kc9 ?_;refine bD (λ c6=>?_) (λ c6=>?_);·refine cU ?_;refine aS results230 (λ w hw=>?_);exact⟨(),rfl,trivial,hw.bB⟩
 ·exact absurd (h.symm.trans c6) (by decide)
theorem Nw(h:x.st=false)(h1:x.g<x.gns.length)(hl:x.gns.length<=274877906944)(hs:SF w D (xH k bx bm x dn rs) A [] (xW x) w):Calls prog 230 #[.pointer (some ⟨bx,0,none⟩)] w λ e w'=>∃q:Unit,e=.returned (.int .i64 (x.gns.getD x.g 0))/\True/\SF w D (xH k bx bm {x with g:=x.g+1} dn rs) [] [] (xW {x with g:=x.g+1}) w':=by
 refine enter func230 ntmps230 rfl rfl (cJ hs) ?_;simp only[cC];refine Je ?_;refine Kc9 ?_;refine bD (λ c6=>?_) (λ c6=>?_)
 ·try (exfalso;omega)
  exact absurd (h.symm.trans c6) (by decide)
 ·try (exfalso;omega)
  refine K0m ?_;refine bD (λ c16=>?_) (λ c16=>?_);·try (exfalso;omega)
  ·try (exfalso;omega)
   refine J83 ?_;refine aC (pY (m:=x.g) (n:=1) rf rf (by omega)) rfl ?_;refine H0 ?_;refine bT E0b (λ _=>?_);refine Qa ?_;refine K0x ?_;refine Fl ?_;refine cZ (i:=8) (hq:=(jZ (m:=x.g+1) (n:=1) rf rf (by omega) (by omega))) (h:=?_);refine bU (i:=9) (hq:=(dR (m:=x.gns.length) (k:=x.g+1-1) (lst:=x.gns) rf rf gS fW (.own (.tail (.tail (.tail .head)))) (by omega) (by omega))) (h:=?_);refine bU (i:=10) (hq:=(fI (q:=x.g+1-1) (lst:=x.gns) rf fW (.own (.tail (.tail (.tail .head)))) (by omega))) (h:=?_);refine J7 ?_;refine aS results230 (λ w hw=>?_);exact⟨(),by rw[Nat.add_sub_cancel];rfl,trivial,hw.bB⟩
theorem w9(h:x.st=false)(h1:x.g=x.gns.length)(hl:x.gns.length<=137438953472)(hgn : -1<=x.gen/\x.gen<=137438953600)(hs:SF w D (xH k bx bm x dn rs) A [] (xW x) w):Calls prog 230 #[.pointer (some ⟨bx,0,none⟩)] w λ e w'=>∃q:Option Addr×Nat,e=.returned (.int .i64 (x.gen+1))/\True /\
   SF w D (xH k bx bm {x with gen:=x.gen+1,gns:=x.gns++[x.gen+1],pe:=q.1,ke:=q.2,g:=x.g+1} dn rs) [] [] (xW {x with gen:=x.gen+1,gns:=x.gns++[x.gen+1],pe:=q.1,ke:=q.2,g:=x.g+1}) w':=by
 have hup:up x.gen=x.gen+1:=wrap_i64 (by omega) (by omega);refine enter func230 ntmps230 rfl rfl (cJ hs) ?_;simp only[cC]
 refine Je ?_;refine Kc9 ?_;refine bD (λ c6=>?_) (λ c6=>?_)
 ·try (exfalso;omega)
  exact absurd (h.symm.trans c6) (by decide)
 ·try (exfalso;omega)
  refine K0m ?_;refine bD (λ c16=>?_) (λ c16=>?_)
  ·try (exfalso;omega)
   refine eI [(0,[]),(1,[]),(2,[]),(3,[]),(4,[]),(5,[]),(6,[]),(7,[]),(8,[]),(9,[4]),(10,[4]),(11,[]),(12,[]),(13,[]),(14,[])] ?_;refine aV ?_;refine Fl ?_;refine bI (i:=9) (hq:=(cM (hc:=λ w hs=>K0 (L:=x.L) (cs:=x.cs) (gen:=x.gen) hs))) (h:=λ x26 h26=>?_);refine cE (h:=λ x27=>?_);((refine dB (i:=11) (hq:=(bG.eM (uM (l:=x.gns) (m:=x.gns.length) rf rf (.tail (.tail (.tail .head))) rfl fin (by exact Il) gS (by omega)) vS)) (h:=λ x28=>?_);try (refine eK (λ h28=>?_))));refine J4 ?_;refine mC (i:=14) (hq:=E0b) (h:=λ _=>?_);refine eN ?_;refine mP ?_;refine aC (pY (m:=x.g) (n:=1) rf rf (by omega)) rfl ?_;refine H0 ?_;refine bT E0b (λ _=>?_);refine Qa ?_;refine K0x ?_;refine Fl ?_;refine cZ (i:=8) (hq:=(jZ (m:=x.g+1) (n:=1) rf rf (by omega) (by omega))) (h:=?_);refine bU (i:=9) (hq:=(dR (m:=x.gns.length+1) (k:=x.g+1-1) rf rf gS fW (.own (.tail (.tail (.tail .head)))) (by omega) E0c)) (h:=?_);refine bU (i:=10) (hq:=(fI (q:=x.g+1-1) rf fW (.own (.tail (.tail (.tail .head)))) E0c)) (h:=?_);refine J7 ?_;refine aS results230 (λ w hw=>?_);rw[hup,show x.gns.length+1=(x.gns++[x.gen+1]).length by simp] at hw;exact⟨x28,by rw[show x.g+1-1=x.gns.length by omega,tD,hup];rfl,trivial,hw.bB⟩
  ·try (exfalso;omega)
end
end
end Go.Proofs.YtbajmaoegmbfgaaGreat
namespace Go.Ct
open Go Go.RowKit
section
section
variable{g:Gx}{x:XS}{N:List aQ}
variable{t t':Tr}{x':XS}{b b':Int}
theorem XS.Ok.upa(h:x.Ok){y:XS}(e1:y.L=x.L)(e2:y.cs=x.cs)(e3:y.got=x.got)(e4:y.made=x.made)(e5:y.cel=x.cel)(e6:y.gns=x.gns)(ha:y.a<=x.got.length)(hm:y.m<=x.made.length)(hc:y.c<=x.cel.length)(hg:y.g<=x.gns.length)(hf:y.fr<=1)(e7:y.gen=x.gen:=by rfl):y.Ok :=⟨by rw[e1];exact h.fit,by rw[e1,e2];exact h.nd,by rw[e1,e2];exact h.cs,by rw[e1,e3];exact h.got,by rw[e1,e4];exact h.made,by rw[e1];exact h.two,by rw[e1];exact h.lL,by rw[e2];exact h.lc,by rw[e3];exact h.lg,by rw[e3];exact ha,by rw[e4];exact hm,by rw[e5];exact hc,by rw[e6];exact hg,hf,by rw[e1];exact h.ys,by rw[e7];exact h.gen0,by rw[e4];exact h.ms,by rw[e4];exact h.m1⟩
theorem Nx.st(hs:x.st=true)(go:gI g x t)(ok:x.Ok):Nx g x x [] t' 0:=⟨go.bZ hs,ok,by simp,Nat.le_refl _,bN _⟩
theorem Nx.cR(h:Nx g x x' N t b)(go:gI g x' t')(hb:b'<=x'.L.length):Nx g x x' N t' b':=⟨go,h.ok,h.ext,h.lc,hb⟩
theorem Nx.len(h:Nx g x x' N t b):x.L.length<=x'.L.length:=by rw[h.ext,List.length_append];omega
theorem Nx.trans{x1 x2:XS}{N1 N2:List aQ}{t1 t2:Tr}{b1 b2:Int}(h1:Nx g x x1 N1 t1 b1)(h2:Nx g x1 x2 N2 t2 b2):Nx g x x2 (N1++N2) t2 b2:=⟨h2.go,h2.ok,by rw[h2.ext,h1.ext,List.append_assoc],Nat.le_trans h1.lc h2.lc,h2.bd⟩
theorem Nx.ext'(h:Nx g x x' (N++[]) t b)(go:gI g x' t')(hb:b'<=x'.L.length):Nx g x x' N t' b':=⟨go,h.ok,by have:=h.ext;rwa [List.append_nil] at this,h.lc,hb⟩
theorem Nx.start(go:gI g x t)(ok:x.Ok):Nx g x x [] t 0:=⟨go,ok,by simp,Nat.le_refl _,bN _⟩
end
end
end Go.Ct
namespace Go.Proofs.YtbajmaoegmbfgaaGreat
open Go Go.RowKit Go.Ct
section
section
variable{k:Cl}{bx bm:Nat}{x:XS}{dn:Bool}{rs:Rs}{D:List Nat}{A:Fr}{w:World}{g:Gx}
theorem rD(hg:g.Ok)(c:Int)(K:Int->Tr)(hc:c<=9223372036854775807)(go:gI g x (.load c K))(ok:x.Ok)(hs:SF w D (xH k bx bm x dn rs) A [] (xW x) w):Calls Tryz.prog 210 #[.pointer (some ⟨bx,0,none⟩),.int .i64 c] w λ e w'=>∃q:Int×XS,e=.returned (.int .i64 q.1)/\Nx g x q.2 [] (K q.1) q.1/\SF w D (xH k bx bm q.2 dn rs) [] [] (xW q.2) w':=by
 cases hst:x.st with
 | true=>exact(uu c ok hst hs).mono λ e w' ⟨_,q1,_,q3⟩=>⟨(0,x),q1,Nx.st hst go ok,q3⟩
 | false=>
  have hgd:=go.run hst;by_cases h1:x.a<x.got.length;·refine(G8 c ok hst h1 hs).mono λ e w' ⟨_,q1,_,q3⟩=>⟨(x.got.getD x.a 0,{x with a:=x.a+1}),q1,?_,q3⟩;exact⟨.inl ⟨hst,hgd.G8 h1⟩,ok.upa rfl rfl rfl rfl rfl rfl h1 ok.lm ok.lk ok.le ok.fr,by simp,Nat.le_refl _,mU ok.got _⟩
  ·have hat:=hgd.wo h1;by_cases h2:x.fr=0;·refine(yf c ok hst h1 h2 hs).mono λ e w' ⟨_,q1,_,q3⟩=>⟨(0,{x with st:=true,nx:=⟨1,c,0,0⟩}),q1,?_,q3⟩;have hgo:gI g {x with st:=true,nx:=⟨1,c,0,0⟩} (.load c K):=hat.stop h2 rfl rfl rfl rfl rfl rfl rfl rfl rfl;exact⟨hgo.bZ rfl,ok.upa rfl rfl rfl rfl rfl rfl ok.la ok.lm ok.lk ok.le ok.fr,by simp,Nat.le_refl _,bN _⟩
   ·refine(qf c hc ok hst h1 h2 hs).mono λ e w' ⟨q,q1,_,q3⟩=>⟨(bK x.cs c,{x with fr:=x.fr-1,acc:=up x.acc,got:=x.got++[bK x.cs c],pg:=q.1,kg:=q.2,a:=x.a+1}),q1,?_,q3⟩;have hN:=hat.hN;have hgN:=hg.hN;have hgo:gI g {x with fr:=x.fr-1,acc:=up x.acc,got:=x.got++[bK x.cs c],pg:=q.1,kg:=q.2,a:=x.a+1} (K (bK x.cs c)):=hat.now (by omega) (λ L=>Wk.aAn _) (.load c K x.mm) hst rfl rfl rfl rfl rfl rfl rfl rfl rfl rfl;refine⟨hgo,⟨ok.fit,ok.nd,ok.cs,λ v hv=>?_,ok.made,ok.two,ok.lL,ok.lc,?_,?_,ok.lm,ok.lk,ok.le,?_,ok.ys,ok.gen0,ok.ms,ok.m1⟩,by simp,Nat.le_refl _,ok.cell c⟩
    ·rcases List.mem_append.1 hv with hv|hv;·exact ok.got v hv
     ·rw[List.mem_singleton.1 hv];exact ok.cell c
    ·show(x.got++[bK x.cs c]).length<=_;rw[List.length_append,List.length_cons,List.length_nil];omega
    ·show x.a+1<=(x.got++[bK x.cs c]).length;have:=ok.la;rw[List.length_append,List.length_cons,List.length_nil];omega
    ·show x.fr-1<=1;have:=ok.fr;omega
theorem wN(hg:g.Ok)(c o n:Int)(K:Bool->Tr)(hc:c<=9223372036854775807)(hn:n<=x.L.length)(go:gI g x (.kG c o n K))(ok:x.Ok)(hs:SF w D (xH k bx bm x dn rs) A [] (xW x) w):Calls Tryz.prog 212 #[.pointer (some ⟨bx,0,none⟩),.int .i64 c,.int .i64 o,.int .i64 n] w λ e w'=>∃q:Bool×XS,e=.returned (.bool q.1)/\Nx g x q.2 [] (K q.1) 0/\SF w D (xH k bx bm q.2 dn rs) [] [] (xW q.2) w':=by
 cases hst:x.st with
 | true=>exact(aBz c o n ok hst hs).mono λ e w' ⟨_,q1,_,q3⟩=>⟨(false,x),q1,Nx.st hst go ok,q3⟩
 | false=>
  have hgd:=go.run hst;by_cases h1:x.a<x.got.length;·refine(Ou c o n ok hst h1 hs).mono λ e w' ⟨_,q1,_,q3⟩=>⟨(x.got.getD x.a 0==1,{x with a:=x.a+1}),q1,?_,q3⟩;exact⟨.inl ⟨hst,hgd.Ou h1⟩,ok.upa rfl rfl rfl rfl rfl rfl h1 ok.lm ok.lk ok.le ok.fr,by simp,Nat.le_refl _,bN _⟩
  ·have hat:=hgd.aAZ h1;by_cases h2:x.fr=0;·refine(aCm c o n ok hst h1 h2 hs).mono λ e w' ⟨_,q1,_,q3⟩=>⟨(false,{x with st:=true,nx:=⟨2,c,o,n⟩}),q1,?_,q3⟩;have hgo:gI g {x with st:=true,nx:=⟨2,c,o,n⟩} (.kG c o n K):=hat.stop h2 rfl rfl rfl rfl rfl rfl rfl rfl rfl;exact⟨hgo.bZ rfl,ok.upa rfl rfl rfl rfl rfl rfl ok.la ok.lm ok.lk ok.le ok.fr,by simp,Nat.le_refl _,bN _⟩
   ·refine(vd c o n hc ok hst h1 h2 hs).mono λ e w' ⟨q,q1,hb,q3⟩=>⟨(q.1,{x with fr:=x.fr-1,cs:=eL x.cs c o n,acc:=up x.acc,got:=x.got++[Ua q.1],pg:=q.2.1,kg:=q.2.2,a:=x.a+1}),q1,?_,q3⟩;have hN:=hat.hN;have hgN:=hg.hN;have hb1:(Ua q.1==1)=q.1:=by cases q.1<;>rfl
    have hb2:Ua q.1<=x.L.length:=by have:=ok.two;cases q.1<;>simp only[Ua]<;>(omega)
    have hlc:=gR (cs:=x.cs) (c:=c) (bS:=o) (new:=n);have hgo:gI g {x with fr:=x.fr-1,cs:=eL x.cs c o n,acc:=up x.acc,got:=x.got++[Ua q.1],pg:=q.2.1,kg:=q.2.2,a:=x.a+1} (K q.1):=hat.now (v:=Ua q.1) (by omega) (λ L=>by have:=Wk.aDu (L:=L) (c:=c) (o:=o) (n:=n) (k:=K) (Ua q.1);rw[hb1] at this;exact this) (.kG c o n K x.mm q.1 hb) hst rfl rfl rfl rfl rfl rfl rfl rfl rfl rfl;refine⟨hgo,⟨ok.fit,λ v hv=>(ok.nd v hv).mono (Nat.le_refl _) (by show _<=(eL x.cs c o n).length;omega),λ v hv=>?_,λ v hv=>?_,ok.made,ok.two,ok.lL,by show(eL x.cs c o n).length<=_;rw[hlc];exact ok.lc,?_,?_,ok.lm,ok.lk,ok.le,?_,ok.ys,ok.gen0,ok.ms,ok.m1⟩,by simp,by show _<=(eL x.cs c o n).length;omega,bN _⟩
    ·have hv':v∈eL x.cs c o n:=hv;unfold eL at hv';split at hv'
     ·rcases List.mem_or_eq_of_mem_set hv' with h|h;·exact ok.cs v h
      ·rw[h];exact hn
     ·exact ok.cs v hv'
    ·rcases List.mem_append.1 hv with hv|hv;·exact ok.got v hv
     ·rw[List.mem_singleton.1 hv];exact hb2
    ·show(x.got++[Ua q.1]).length<=_;rw[List.length_append,List.length_cons,List.length_nil];omega
    ·show x.a+1<=(x.got++[Ua q.1]).length;have:=ok.la;rw[List.length_append,List.length_cons,List.length_nil];omega
    ·show x.fr-1<=1;have:=ok.fr;omega
end
end
end Go.Proofs.YtbajmaoegmbfgaaGreat
