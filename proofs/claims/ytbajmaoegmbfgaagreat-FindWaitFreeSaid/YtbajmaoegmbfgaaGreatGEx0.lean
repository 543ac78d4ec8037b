/- An execution of the reference: its block, its own lists; the rules for calls of its methods. -/
import Derived.Test.YtbajmaoegmbfgaaGreatGTr3
import Derived.Test.YtbajmaoegmbfgaaGreatGTp2
import Derived.Test.YtbajmaoegmbfgaaGreatGNode3
import Derived.Test.YtbajmaoegmbfgaaGreatGAr8

set_option linter.unusedSimpArgs false
set_option linter.unusedVariables false
namespace Go.Proofs.YtbajmaoegmbfgaaGreat
section
open Go Go.RowKit Go.Ct
def xoC(k:Cl)(bm:Nat)(x:XS)(dn:Bool)(rs:Rs):List Value:=[.pointer (some ⟨bm,0,none⟩),
 .int .i64 k.kind,.int .i64 k.t.root,.bool k.t.ro,.int .i64 k.a,.int .i64 k.b,.int .i64 k.n,.int .i64 k.index,.int .u64 k.hash,.int .u64 k.mask,.string k.key,.int .u64 k.val,.int .u64 k.exp,.int .i64 k.Io,.bool k.only,
 .bool false,.slice none 0 0,.slice none 0 0,.int .i64 0,.bool false,.int .u64 0,.string ⟨#[]⟩,.int .i64 0,.int .i64 0,.int .i64 0,.bool false,
 .slice x.pg x.got.length x.kg,.slice x.pm x.made.length x.km,.slice x.pl x.cel.length x.kl,.slice x.pe x.gns.length x.ke,
 .int .i64 ((x.a:Nat):Int),.int .i64 ((x.m:Nat):Int),.int .i64 ((x.c:Nat):Int),.int .i64 ((x.g:Nat):Int),.int .i64 ((x.fr:Nat):Int),.bool x.st,
 .int .i64 x.nx.k,.int .i64 x.nx.c,.int .i64 x.nx.o,.int .i64 x.nx.n,.bool dn,
 .int .i64 rs.err,.bool rs.found,.int .u64 rs.val,.string rs.key,.int .i64 rs.fZ,.int .i64 rs.ref,.int .i64 rs.root,.bool rs.ro,
 .bool false,.slice none 0 0,.slice none 0 0]
abbrev xO(k:Cl)(bm:Nat)(x:XS)(dn:Bool)(rs:Rs):Obj:=.cells ⟨xoC k bm x dn rs⟩ 153 (0,0)
abbrev xM(x:XS):Obj:=mO x.L x.cs x.gen x.acc x.pn x.cn x.pc x.cc
abbrev xW(x:XS):List Ow:=[⟨x.pg,aG x.got,x.kg,37,1⟩,⟨x.pm,aG x.made,x.km,37,1⟩,⟨x.pl,aG x.cel,x.kl,27,1⟩,⟨x.pe,aG x.gns,x.ke,3,1⟩,⟨x.pn,gN x.L,x.cn,47,14⟩,⟨x.pc,aG x.cs,x.cc,37,1⟩]
abbrev xH(k:Cl)(bx bm:Nat)(x:XS)(dn:Bool)(rs:Rs):List (Nat×Obj):=[(bx,xO k bm x dn rs),(bm,xM x)]
theorem aBR{w0 w:World}{D:List Nat}{k:Cl}{bx bm:Nat}{x:XS}{dn:Bool}{rs:Rs}{A F:Fr}(h:SF w0 D (xH k bx bm x dn rs) A F (xW x) w) :
  SF w0 D [(bx,.cells ⟨[.pointer (some ⟨bm,0,none⟩),
 .int .i64 k.kind,.int .i64 k.t.root,.bool k.t.ro,.int .i64 k.a,.int .i64 k.b,.int .i64 k.n,.int .i64 k.index,.int .u64 k.hash,.int .u64 k.mask,.string k.key,.int .u64 k.val,.int .u64 k.exp,.int .i64 k.Io,.bool k.only,
 .bool false,.slice none 0 0,.slice none 0 0,.int .i64 0,.bool false,.int .u64 0,.string ⟨#[]⟩,.int .i64 0,.int .i64 0,.int .i64 0,.bool false,
 .slice x.pg x.got.length x.kg,.slice x.pm x.made.length x.km,.slice x.pl x.cel.length x.kl,.slice x.pe x.gns.length x.ke,
 .int .i64 ((x.a:Nat):Int),.int .i64 ((x.m:Nat):Int),.int .i64 ((x.c:Nat):Int),.int .i64 ((x.g:Nat):Int),.int .i64 ((x.fr:Nat):Int),.bool x.st,
 .int .i64 x.nx.k,.int .i64 x.nx.c,.int .i64 x.nx.o,.int .i64 x.nx.n,.bool dn,
 .int .i64 rs.err,.bool rs.found,.int .u64 rs.val,.string rs.key,.int .i64 rs.fZ,.int .i64 rs.ref,.int .i64 rs.root,.bool rs.ro,
 .bool false,.slice none 0 0,.slice none 0 0]⟩ 153 (0,0)),(bm,mO x.L x.cs x.gen x.acc x.pn x.cn x.pc x.cc)] A F [⟨x.pg,aG x.got,x.kg,37,1⟩,⟨x.pm,aG x.made,x.km,37,1⟩,⟨x.pl,aG x.cel,x.kl,27,1⟩,⟨x.pe,aG x.gns,x.ke,3,1⟩,⟨x.pn,gN x.L,x.cn,47,14⟩,⟨x.pc,aG x.cs,x.cc,37,1⟩] w:=h
theorem bZ{w0 w:World}{D:List Nat}{k:Cl}{bx bm:Nat}{x:XS}{dn:Bool}{rs:Rs}{A F:Fr}(h:SF w0 D (xH k bx bm x dn rs) A F (xW x) w) :
  SF w0 D [(bx,.cells ⟨xoC k bm x dn rs⟩ 153 (0,0)),(bm,mO x.L x.cs x.gen x.acc x.pn x.cn x.pc x.cc)] A F [⟨x.pg,aG x.got,x.kg,37,1⟩,⟨x.pm,aG x.made,x.km,37,1⟩,⟨x.pl,aG x.cel,x.kl,27,1⟩,⟨x.pe,aG x.gns,x.ke,3,1⟩,⟨x.pn,gN x.L,x.cn,47,14⟩,⟨x.pc,aG x.cs,x.cc,37,1⟩] w:=h
end

/- Executions of the reference: known, load, cas. -/
end Go.Proofs.YtbajmaoegmbfgaaGreat
namespace Go.Ct
section
def XS.kn(x:XS)(a:Ac):XS:=if x.st=true then x else if x.a<x.got.length then{x with a:=x.a+1} else if x.fr=0 then{x with st:=true,nx:=a} else{x with fr:=x.fr-1}
def XS.bN(x:XS):Bool:=!x.st&&decide (x.a<x.got.length)
def XS.now(x:XS):Bool:=!x.st&&!decide (x.a<x.got.length)&&!decide (x.fr=0)
theorem XS.vj{x:XS}{a:Ac}(h:x.st=true):x.kn a=x/\x.bN=false/\x.now=false:=⟨if_pos h,by simp[XS.bN,h],by simp[XS.now,h]⟩
theorem XS.mi{x:XS}{a:Ac}(h:x.st=false)(h1:x.a<x.got.length):x.kn a={x with a:=x.a+1}/\x.bN=true/\x.now=false:=⟨by unfold XS.kn;rw[if_neg (by rw[h];decide),if_pos h1],by simp[XS.bN,h,h1],by simp[XS.now,h1]⟩
theorem XS.vp{x:XS}{a:Ac}(h:x.st=false)(h1:¬x.a<x.got.length)(h2:x.fr=0):x.kn a={x with st:=true,nx:=a}/\x.bN=false/\x.now=false:=⟨by unfold XS.kn;rw[if_neg (by rw[h];decide),if_neg h1,if_pos h2],by simp[XS.bN,h1],by simp[XS.now,h2]⟩
theorem XS.ma{x:XS}{a:Ac}(h:x.st=false)(h1:¬x.a<x.got.length)(h2:¬x.fr=0):x.kn a={x with fr:=x.fr-1}/\x.bN=false/\x.now=true:=⟨by unfold XS.kn;rw[if_neg (by rw[h];decide),if_neg h1,if_neg h2],by simp[XS.bN,h1],by simp[XS.now,h,h1,h2]⟩
end
end Go.Ct
namespace Go.Proofs.YtbajmaoegmbfgaaGreat
section
open Go Go.RowKit Go.Ct
section
variable{k:Cl}{bx bm:Nat}{x:XS}{dn:Bool}{rs:Rs}{D:List Nat}{A:Fr}{w:World}
theorem E0(a:Ac)(ok:x.Ok)(hs:SF w D (xH k bx bm x dn rs) A [] (xW x) w):Calls Tryz.prog 240 #[.pointer (some ⟨bx,0,none⟩),.agg ⟨a.cells⟩] w λ e w'=>∃q:Unit,e=.returned (.tuple #[.bool x.bN,.bool x.now])/\True/\SF w D (xH k bx bm (x.kn a) dn rs) [] [] (xW (x.kn a)) w':=by
 have h1:=ok.lg
 have h2:=ok.la
 have h3:=ok.fr
 refine enter Tryz.func240 Tryz.ntmps240 rfl rfl (aBR hs) ?_
 simp only[bY]
 refine J0 ?_;refine bO (λ x3=>?_);refine J8 ?_;refine aV ?_;refine lR ?_;refine aH ?_
 refine bE (λ c9=>?_) (λ c9=>?_)
 ·refine Q5 ?_
  refine bD Tryz.results240 (λ w hw=>?_)
  obtain⟨e1,e2,e3⟩:=XS.vj (a:=a) c9
  rw[e1,e2,e3]
  exact⟨(),rfl,trivial,hw.aU⟩
 ·refine lA ?_;refine aV ?_;refine gJ [0,1,2,3,4,5,6,7,8,9] ?_;refine D2 ?_;refine pV ?_;refine zU ?_;refine eC ?_
  refine bE (λ c19=>?_) (λ c19=>?_)
  ·refine lR ?_;refine Dw ?_;refine O7 ?_;refine Q5 ?_
   refine bD Tryz.results240 (λ w hw=>?_)
   obtain⟨e1,e2,e3⟩:=XS.mi (a:=a) c9 (by omega)
   rw[e1,e2,e3]
   exact⟨(),rfl,trivial,hw.aU⟩
  ·refine lA ?_;refine lR ?_;refine uI ?_
   refine bE (λ c31=>?_) (λ c31=>?_)
   ·refine aV ?_;refine dX [(0,[]),(1,[]),(2,[]),(3,[]),(4,[]),(5,[2]),(6,[]),(7,[]),(8,[])] ?_;refine hZ ?_;refine bP ?_;refine J4 ?_;refine oW (h:=λ _=>?_);refine J4 ?_;refine lG (i:=8) (hq:=(fS λ _=>lK (off:=36) (vs:=a.cells) rf cL rf rfl dJ (Nat.le_of_ble_eq_true rfl) rf hJ)) (h:=λ _=>?_);refine eC ?_;refine Q5 ?_
    refine bD Tryz.results240 (λ w hw=>?_)
    obtain⟨e1,e2,e3⟩:=XS.vp (a:=a) c9 (by omega) (by omega)
    rw[e1,e2,e3]
    exact⟨(),rfl,trivial,hw.aU⟩
   ·refine vi ?_;refine uR ?_;refine O7 ?_;refine Q5 ?_
    refine bD Tryz.results240 (λ w hw=>?_)
    obtain⟨e1,e2,e3⟩:=XS.ma (a:=a) c9 (by omega) (by omega)
    rw[e1,e2,e3]
    exact⟨(),rfl,trivial,hw.aU⟩
theorem Nj(a:Ac)(ok:x.Ok)(h:x.st=true)(hs:SF w D (xH k bx bm x dn rs) A [] (xW x) w):Calls Tryz.prog 240 #[.pointer (some ⟨bx,0,none⟩),.agg ⟨a.cells⟩] w λ e w'=>∃q:Unit,e=.returned (.tuple #[.bool false,.bool false])/\True/\SF w D (xH k bx bm x dn rs) [] [] (xW x) w':=by
 obtain⟨e1,e2,e3⟩:=XS.vj (a:=a) h
 have:=E0 (k:=k) (bx:=bx) (bm:=bm) (dn:=dn) (rs:=rs) (D:=D) (A:=A) (w:=w) a ok hs
 rw[e1,e2,e3] at this
 exact this
theorem Jr(a:Ac)(ok:x.Ok)(h:x.st=false)(h1:x.a<x.got.length)(hs:SF w D (xH k bx bm x dn rs) A [] (xW x) w):Calls Tryz.prog 240 #[.pointer (some ⟨bx,0,none⟩),.agg ⟨a.cells⟩] w λ e w'=>∃q:Unit,e=.returned (.tuple #[.bool true,.bool false])/\True/\SF w D (xH k bx bm {x with a:=x.a+1} dn rs) [] [] (xW {x with a:=x.a+1}) w':=by
 obtain⟨e1,e2,e3⟩:=XS.mi (a:=a) h h1
 have:=E0 (k:=k) (bx:=bx) (bm:=bm) (dn:=dn) (rs:=rs) (D:=D) (A:=A) (w:=w) a ok hs
 rw[e1,e2,e3] at this
 exact this
theorem Ob(a:Ac)(ok:x.Ok)(h:x.st=false)(h1:¬x.a<x.got.length)(h2:x.fr=0)(hs:SF w D (xH k bx bm x dn rs) A [] (xW x) w):Calls Tryz.prog 240 #[.pointer (some ⟨bx,0,none⟩),.agg ⟨a.cells⟩] w λ e w'=>∃q:Unit,e=.returned (.tuple #[.bool false,.bool false])/\True/\SF w D (xH k bx bm {x with st:=true,nx:=a} dn rs) [] [] (xW {x with st:=true,nx:=a}) w':=by
 obtain⟨e1,e2,e3⟩:=XS.vp (a:=a) h h1 h2
 have:=E0 (k:=k) (bx:=bx) (bm:=bm) (dn:=dn) (rs:=rs) (D:=D) (A:=A) (w:=w) a ok hs
 rw[e1,e2,e3] at this
 exact this
theorem Kp(a:Ac)(ok:x.Ok)(h:x.st=false)(h1:¬x.a<x.got.length)(h2:¬x.fr=0)(hs:SF w D (xH k bx bm x dn rs) A [] (xW x) w):Calls Tryz.prog 240 #[.pointer (some ⟨bx,0,none⟩),.agg ⟨a.cells⟩] w λ e w'=>∃q:Unit,e=.returned (.tuple #[.bool false,.bool true])/\True/\SF w D (xH k bx bm {x with fr:=x.fr-1} dn rs) [] [] (xW {x with fr:=x.fr-1}) w':=by
 obtain⟨e1,e2,e3⟩:=XS.ma (a:=a) h h1 h2
 have:=E0 (k:=k) (bx:=bx) (bm:=bm) (dn:=dn) (rs:=rs) (D:=D) (A:=A) (w:=w) a ok hs
 rw[e1,e2,e3] at this
 exact this
theorem qc(c:Int)(ok:x.Ok)(h:x.st=true)(hs:SF w D (xH k bx bm x dn rs) A [] (xW x) w):Calls Tryz.prog 210 #[.pointer (some ⟨bx,0,none⟩),.int .i64 c] w λ e w'=>∃q:Unit,e=.returned (.int .i64 0)/\True/\SF w D (xH k bx bm x dn rs) [] [] (xW x) w':=by
 refine enter Tryz.func210 Tryz.ntmps210 rfl rfl (bZ hs) ?_
 simp only[bY]
 refine cR ?_;refine iO ?_;refine bJ ?_;refine aC (cM (hs:=xH k bx bm x dn rs) (os:=xW x) (hc:=λ w hs=>Nj ⟨1,c,0,0⟩ ok h hs)) (λ x11 h11=>?_);refine No ?_;refine J8 ?_;refine kM ?_;refine aH ?_
 refine bE (λ c14=>?_) (λ c14=>?_)
 ·exact nv c14
 ·try (exact absurd (by assumption) (by decide:¬(true=false)))
  refine lA ?_;refine J2 ?_;refine En ?_
  (refine aF ?_;refine aA ?_)
  refine Q6 ?_;refine aH ?_
  refine bE (λ c43=>?_) (λ c43=>?_)
  ·try (exact absurd (by assumption) (by decide:¬(true=false)))
   refine cR ?_
   refine aT Tryz.results210 (λ w hw=>?_)
   exact⟨(),rfl,trivial,hw.aU⟩
  ·exact nv c43
theorem og(c:Int)(ok:x.Ok)(h:x.st=false)(h1:¬x.a<x.got.length)(h2:x.fr=0)(hs:SF w D (xH k bx bm x dn rs) A [] (xW x) w):Calls Tryz.prog 210 #[.pointer (some ⟨bx,0,none⟩),.int .i64 c] w λ e w'=>∃q:Unit,e=.returned (.int .i64 0)/\True/\SF w D (xH k bx bm {x with st:=true,nx:=⟨1,c,0,0⟩} dn rs) [] [] (xW {x with st:=true,nx:=⟨1,c,0,0⟩}) w':=by
 refine enter Tryz.func210 Tryz.ntmps210 rfl rfl (bZ hs) ?_
 simp only[bY]
 refine cR ?_;refine iO ?_;refine bJ ?_;refine aC (cM (hs:=xH k bx bm x dn rs) (os:=xW x) (hc:=λ w hs=>Ob ⟨1,c,0,0⟩ ok h h1 h2 hs)) (λ x11 h11=>?_);refine No ?_;refine J8 ?_;refine kM ?_;refine aH ?_
 refine bE (λ c14=>?_) (λ c14=>?_)
 ·exact nv c14
 ·try (exact absurd (by assumption) (by decide:¬(true=false)))
  refine lA ?_;refine J2 ?_;refine En ?_
  (refine aF ?_;refine aA ?_)
  refine Q6 ?_;refine aH ?_
  refine bE (λ c43=>?_) (λ c43=>?_)
  ·try (exact absurd (by assumption) (by decide:¬(true=false)))
   refine cR ?_
   refine aT Tryz.results210 (λ w hw=>?_)
   exact⟨(),rfl,trivial,hw.aU⟩
  ·exact nv c43
theorem Ib(c:Int)(ok:x.Ok)(h:x.st=false)(h1:x.a<x.got.length)(hs:SF w D (xH k bx bm x dn rs) A [] (xW x) w):Calls Tryz.prog 210 #[.pointer (some ⟨bx,0,none⟩),.int .i64 c] w λ e w'=>∃q:Unit,e=.returned (.int .i64 (x.got.getD x.a 0))/\True/\SF w D (xH k bx bm {x with a:=x.a+1} dn rs) [] [] (xW {x with a:=x.a+1}) w':=by
 have hg:=ok.lg
 refine enter Tryz.func210 Tryz.ntmps210 rfl rfl (bZ hs) ?_
 simp only[bY]
 refine cR ?_;refine iO ?_;refine bJ ?_;refine aC (cM (hs:=xH k bx bm x dn rs) (os:=xW x) (hc:=λ w hs=>Jr ⟨1,c,0,0⟩ ok h h1 hs)) (λ x11 h11=>?_);refine No ?_;refine J8 ?_;refine kM ?_;refine aH ?_
 refine bE (λ c14=>?_) (λ c14=>?_)
 ·exact nv c14
 ·try (exact absurd (by assumption) (by decide:¬(true=false)))
  refine lA ?_;refine J2 ?_;refine En ?_
  refine aJ ?_
  refine Q6 ?_;refine aH ?_
  refine bE (λ c43=>?_) (λ c43=>?_)
  ·exact nv c43
  ·try (exact absurd (by assumption) (by decide:¬(true=false)))
   refine lA ?_;refine gJ [0,1,2,3,4,5,6,7,8,9,10,11] ?_;refine D2 ?_;refine cE (i:=8) (hq:=(jJ (m:=x.a+1) (n:=1) rf rf (by omega) (by omega))) (h:=?_);refine bT (i:=9) (hq:=(fD (m:=x.got.length) (k:=x.a+1-1) (lst:=x.got) rf rf hX iA (.own .head) (by omega) (by omega))) (h:=?_);refine bT (i:=10) (hq:=(gV (q:=x.a+1-1) (lst:=x.got) rf iA (.own .head) (by omega))) (h:=?_);refine J7 ?_
   refine aT Tryz.results210 (λ w hw=>?_)
   exact⟨(),by rw[Nat.add_sub_cancel];rfl,trivial,hw.aU⟩
theorem Zt(c:Int)(hc:c<=9223372036854775807)(ok:x.Ok)(h:x.st=false)(h1:¬x.a<x.got.length)(h2:¬x.fr=0)(hs:SF w D (xH k bx bm x dn rs) A [] (xW x) w):Calls Tryz.prog 210 #[.pointer (some ⟨bx,0,none⟩),.int .i64 c] w λ e w'=>∃q:Option Addr×Nat,e=.returned (.int .i64 (cS x.cs c))/\True/\SF w D (xH k bx bm {x with fr:=x.fr-1,acc:=up x.acc,got:=x.got++[cS x.cs c],pg:=q.1,kg:=q.2,a:=x.a+1} dn rs) [] [] (xW {x with fr:=x.fr-1,acc:=up x.acc,got:=x.got++[cS x.cs c],pg:=q.1,kg:=q.2,a:=x.a+1}) w':=by
 have hg:=ok.lg
 have ha:=ok.la
 have hlc:=ok.lc
 refine enter Tryz.func210 Tryz.ntmps210 rfl rfl (bZ hs) ?_
 simp only[bY]
 refine cR ?_;refine iO ?_;refine bJ ?_;refine aC (cM (hs:=xH k bx bm x dn rs) (os:=xW x) (hc:=λ w hs=>Kp ⟨1,c,0,0⟩ ok h h1 h2 hs)) (λ x11 h11=>?_);refine No ?_;refine J8 ?_;refine kM ?_;refine aH ?_
 refine bE (λ c14=>?_) (λ c14=>?_)
 ·try (exact absurd (by assumption) (by decide:¬(true=false)))
  refine dX [(0,[]),(1,[]),(2,[]),(3,[]),(4,[]),(5,[]),(6,[]),(7,[]),(8,[]),(9,[]),(10,[]),(14,[]),(15,[]),(16,[]),(17,[]),(18,[]),(11,[5,17]),(12,[5,17]),(13,[17]),(19,[]),(20,[]),(21,[]),(22,[]),(23,[]),(24,[])] ?_;refine hZ ?_;refine D2 ?_;refine Zi ?_;refine cE (i:=18) (hq:=(oJ (m:=x.a) (n:=1) rf rf (by omega))) (h:=?_);refine bC (i:=11) (hq:=(cM (hc:=λ w hs=>qu (L:=x.L) (cs:=x.cs) hs c hc (by omega)))) (h:=λ x26 h26=>?_);refine cG (h:=λ x27=>?_);((refine cN (i:=13) (hq:=(bF.eK (sM (l:=x.got) (v:=cS x.cs c) (m:=x.got.length) rf rf .head rfl fin nl hX (by omega)) uO)) (h:=λ x28=>?_);try (refine eY (λ h28=>?_))));refine J4 ?_;refine lG (i:=21) (hq:=(by exact fS λ _=>eU rf cL wn rf iA rf rf hJ)) (h:=λ _=>?_);refine J4 ?_;refine lG (i:=24) (hq:=(by exact fS λ _=>eU rf cL wn rf iA rf rf hJ)) (h:=λ _=>?_);refine eC ?_;refine kM ?_;refine En ?_
  (refine aF ?_;refine aA ?_)
  refine Q6 ?_;refine aH ?_
  refine bE (λ c43=>?_) (λ c43=>?_)
  ·exact nv c43
  ·try (exact absurd (by assumption) (by decide:¬(true=false)))
   refine lA ?_;refine gJ [0,1,2,3,4,5,6,7,8,9,10,11] ?_;refine D2 ?_;refine cE (i:=8) (hq:=(jJ (m:=x.a+1) (n:=1) rf rf (by omega) (by omega))) (h:=?_);refine bT (i:=9) (hq:=(fD (m:=x.got.length+1) (k:=x.a+1-1) (lst:=x.got++[cS x.cs c]) rf rf hX iA (.own .head) (by omega) (by rw[List.length_append,List.length_cons,List.length_nil];omega))) (h:=?_);refine bT (i:=10) (hq:=(gV (q:=x.a+1-1) (lst:=x.got++[cS x.cs c]) rf iA (.own .head) (by rw[List.length_append,List.length_cons,List.length_nil];omega))) (h:=?_);refine J7 ?_
   refine aT Tryz.results210 (λ w hw=>?_)
   rw[show x.got.length+1=(x.got++[cS x.cs c]).length by simp] at hw
   exact⟨x28,by rw[show(x.got++[cS x.cs c]).getD (x.a+1-1) 0=cS x.cs c by rw[show x.a+1-1=x.got.length by omega,kQ,List.getElem?_append_right (Nat.le_refl _)];simp];rfl,trivial,hw.aU⟩
 ·exact nv c14
end
end

/- Executions of the reference: cas. -/
end Go.Proofs.YtbajmaoegmbfgaaGreat
namespace Go.Ct
section
def Tu(b:Bool):Int:=if b=true then 1 else 0
theorem rU(l:List Int)(v:Int):(l++[v]).getD l.length 0=v:=by rw[kQ,List.getElem?_append_right (Nat.le_refl _)];simp
end
end Go.Ct
namespace Go.Proofs.YtbajmaoegmbfgaaGreat
section
open Go Go.RowKit Go.Ct
section
variable{k:Cl}{bx bm:Nat}{x:XS}{dn:Bool}{rs:Rs}{D:List Nat}{A:Fr}{w:World}
theorem xe(c o n:Int)(ok:x.Ok)(h:x.st=true)(hs:SF w D (xH k bx bm x dn rs) A [] (xW x) w):Calls Tryz.prog 212 #[.pointer (some ⟨bx,0,none⟩),.int .i64 c,.int .i64 o,.int .i64 n] w λ e w'=>∃q:Unit,e=.returned (.bool false)/\True/\SF w D (xH k bx bm x dn rs) [] [] (xW x) w':=by
 refine enter Tryz.func212 Tryz.ntmps212 rfl rfl (bZ hs) ?_
 simp only[bY]
 refine cR ?_;refine iO ?_;refine pY ?_;refine bJ ?_;refine aC (cM (hs:=xH k bx bm x dn rs) (os:=xW x) (hc:=λ w hs=>Nj ⟨2,c,o,n⟩ ok h hs)) (λ x18 h18=>?_);refine No ?_;refine J8 ?_;refine kM ?_;refine aH ?_
 refine bE (λ c21=>?_) (λ c21=>?_)
 ·exact nv c21
 ·try (exact absurd (by assumption) (by decide:¬(true=false)))
  refine lA ?_;refine gJ [0,1,2,3,4,5,6,7,8,9,10,11,12,13,14,15,16,17,18] ?_;refine hZ ?_
  (refine aP ?_)
  refine eQ ?_;refine aP ?_
  refine dE ?_
  refine J60 ?_;refine J30 ?_;(refine dE ?_);refine J74 ?_;refine J56 ?_;refine J7 ?_
  refine aT Tryz.results212 (λ w hw=>?_)
  exact⟨(),rfl,trivial,hw.aU⟩
theorem yv(c o n:Int)(ok:x.Ok)(h:x.st=false)(h1:¬x.a<x.got.length)(h2:x.fr=0)(hs:SF w D (xH k bx bm x dn rs) A [] (xW x) w):Calls Tryz.prog 212 #[.pointer (some ⟨bx,0,none⟩),.int .i64 c,.int .i64 o,.int .i64 n] w λ e w'=>∃q:Unit,e=.returned (.bool false)/\True/\SF w D (xH k bx bm {x with st:=true,nx:=⟨2,c,o,n⟩} dn rs) [] [] (xW {x with st:=true,nx:=⟨2,c,o,n⟩}) w':=by
 refine enter Tryz.func212 Tryz.ntmps212 rfl rfl (bZ hs) ?_
 simp only[bY]
 refine cR ?_;refine iO ?_;refine pY ?_;refine bJ ?_;refine aC (cM (hs:=xH k bx bm x dn rs) (os:=xW x) (hc:=λ w hs=>Ob ⟨2,c,o,n⟩ ok h h1 h2 hs)) (λ x18 h18=>?_);refine No ?_;refine J8 ?_;refine kM ?_;refine aH ?_
 refine bE (λ c21=>?_) (λ c21=>?_)
 ·exact nv c21
 ·try (exact absurd (by assumption) (by decide:¬(true=false)))
  refine lA ?_;refine gJ [0,1,2,3,4,5,6,7,8,9,10,11,12,13,14,15,16,17,18] ?_;refine hZ ?_
  (refine aP ?_)
  refine eQ ?_;refine aP ?_
  refine dE ?_
  refine J60 ?_;refine J30 ?_;(refine dE ?_);refine J74 ?_;refine J56 ?_;refine J7 ?_
  refine aT Tryz.results212 (λ w hw=>?_)
  exact⟨(),rfl,trivial,hw.aU⟩
theorem Mn(c o n:Int)(ok:x.Ok)(h:x.st=false)(h1:x.a<x.got.length)(hs:SF w D (xH k bx bm x dn rs) A [] (xW x) w):Calls Tryz.prog 212 #[.pointer (some ⟨bx,0,none⟩),.int .i64 c,.int .i64 o,.int .i64 n] w λ e w'=>∃q:Unit,e=.returned (.bool (x.got.getD x.a 0==1))/\True/\SF w D (xH k bx bm {x with a:=x.a+1} dn rs) [] [] (xW {x with a:=x.a+1}) w':=by
 have hg:=ok.lg
 refine enter Tryz.func212 Tryz.ntmps212 rfl rfl (bZ hs) ?_
 simp only[bY]
 refine cR ?_;refine iO ?_;refine pY ?_;refine bJ ?_;refine aC (cM (hs:=xH k bx bm x dn rs) (os:=xW x) (hc:=λ w hs=>Jr ⟨2,c,o,n⟩ ok h h1 hs)) (λ x18 h18=>?_);refine No ?_;refine J8 ?_;refine kM ?_;refine aH ?_
 refine bE (λ c21=>?_) (λ c21=>?_)
 ·exact nv c21
 ·try (exact absurd (by assumption) (by decide:¬(true=false)))
  refine lA ?_;refine gJ [0,1,2,3,4,5,6,7,8,9,10,11,12,13,14,15,16,17,18] ?_;refine hZ ?_
  refine dE ?_
  refine eQ ?_;refine aP ?_
  (refine aP ?_)
  refine J60 ?_;refine J30 ?_;((refine cE (i:=13) (hq:=(jJ (m:=x.a+1) (n:=1) rf rf (by omega) (by omega))) (h:=?_)));((refine bT (i:=14) (hq:=(fD (m:=x.got.length) (k:=x.a+1-1) (lst:=x.got) rf rf hX iA (.own .head) (by omega) (by omega))) (h:=?_)));((refine bT (i:=15) (hq:=(gV (q:=x.a+1-1) (lst:=x.got) rf iA (.own .head) (by omega))) (h:=?_)));refine J56 ?_;refine J7 ?_
  refine aT Tryz.results212 (λ w hw=>?_)
  exact⟨(),by rw[Nat.add_sub_cancel];rfl,trivial,hw.aU⟩
theorem tm(c o n:Int)(hc:c<=9223372036854775807)(ok:x.Ok)(h:x.st=false)(h1:¬x.a<x.got.length)(h2:¬x.fr=0)(hs:SF w D (xH k bx bm x dn rs) A [] (xW x) w):Calls Tryz.prog 212 #[.pointer (some ⟨bx,0,none⟩),.int .i64 c,.int .i64 o,.int .i64 n] w λ e w'=>∃q:Bool×(Option Addr×Nat),e=.returned (.bool q.1)/\(q.1=true↔iI x.cs c o)/\SF w D (xH k bx bm {x with fr:=x.fr-1,cs:=eD x.cs c o n,acc:=up x.acc,got:=x.got++[Tu q.1],pg:=q.2.1,kg:=q.2.2,a:=x.a+1} dn rs) [] [] (xW {x with fr:=x.fr-1,cs:=eD x.cs c o n,acc:=up x.acc,got:=x.got++[Tu q.1],pg:=q.2.1,kg:=q.2.2,a:=x.a+1}) w':=by
 have hg:=ok.lg
 have ha:=ok.la
 have hlc:=ok.lc
 refine enter Tryz.func212 Tryz.ntmps212 rfl rfl (bZ hs) ?_
 simp only[bY]
 refine cR ?_;refine iO ?_;refine pY ?_;refine bJ ?_;refine aC (cM (hs:=xH k bx bm x dn rs) (os:=xW x) (hc:=λ w hs=>Kp ⟨2,c,o,n⟩ ok h h1 h2 hs)) (λ x18 h18=>?_);refine No ?_;refine J8 ?_;refine kM ?_;refine aH ?_
 refine bE (λ c21=>?_) (λ c21=>?_)
 ·try (exact absurd (by assumption) (by decide:¬(true=false)))
  refine Is ?_;refine lR ?_;refine pY ?_;refine aA ?_;refine aC (cM (V:=.bool) (hc:=λ w hs=>aAc (L:=x.L) (cs:=x.cs) hs c o n hc (by omega))) (λ x29 h29=>?_);refine aH ?_
  refine bE (λ c29=>?_) (λ c29=>?_)
  ·try (exact absurd (by assumption) (by decide:¬(true=false)))
   have hv:(1:Int)=Tu x29:=by rw[c29];rfl
   refine dW ?_;refine J1 ?_;refine dX [(0,[]),(1,[]),(2,[]),(3,[]),(4,[]),(5,[]),(6,[]),(9,[]),(10,[]),(11,[]),(12,[]),(13,[]),(7,[5,12]),(8,[12]),(14,[]),(15,[]),(16,[]),(17,[]),(18,[]),(19,[])] ?_;refine hZ ?_;refine mx ?_;refine Zi ?_;refine cE (i:=13) (hq:=(oJ (m:=x.a) (n:=1) rf rf (by omega))) (h:=?_);refine cG (h:=λ x37=>?_);((refine cN (i:=8) (hq:=(bF.eK (sM (l:=x.got) (m:=x.got.length) rf rf .head rfl fin nl hX (by omega)) uO)) (h:=λ x38=>?_);try (refine eY (λ h38=>?_))));refine J4 ?_;refine lG (i:=16) (hq:=(by exact fS λ _=>eU rf cL wn rf iA rf rf hJ)) (h:=λ _=>?_);refine J4 ?_;refine lG (i:=19) (hq:=(by exact fS λ _=>eU rf cL wn rf iA rf rf hJ)) (h:=λ _=>?_);refine eC ?_;refine aV ?_;refine gJ [0,1,2,3,4,5,6,7,8,9,10,11,12,13,14,15,16,17,18] ?_;refine hZ ?_
   (refine aP ?_)
   refine eQ ?_;refine aP ?_
   (refine aP ?_)
   refine J60 ?_;refine J30 ?_;((refine cE (i:=13) (hq:=(jJ (m:=x.a+1) (n:=1) rf rf (by omega) (by omega))) (h:=?_)));((refine bT (i:=14) (hq:=(fD (m:=x.got.length+1) (k:=x.a+1-1) rf rf hX iA (.own .head) (by omega) (by rw[List.length_append,List.length_cons,List.length_nil];omega))) (h:=?_)));((refine bT (i:=15) (hq:=(gV (q:=x.a+1-1) rf iA (.own .head) (by rw[List.length_append,List.length_cons,List.length_nil];omega))) (h:=?_)));refine J56 ?_;refine J7 ?_
   refine aT Tryz.results212 (λ w hw=>?_)
   rw[hv] at hw
   rw[show x.got.length+1=(x.got++[Tu x29]).length by simp] at hw
   exact⟨(x29,x38),by rw[show x.a+1-1=x.got.length by omega,rU,c29];rfl,h29,hw.aU⟩
  ·try (exact absurd (by assumption) (by decide:¬(true=false)))
   have hv:(0:Int)=Tu x29:=by rw[c29];rfl
   refine bB ?_;refine dX [(0,[]),(1,[]),(2,[]),(3,[]),(4,[]),(5,[]),(6,[]),(9,[]),(10,[]),(11,[]),(12,[]),(13,[]),(7,[5,12]),(8,[12]),(14,[]),(15,[]),(16,[]),(17,[]),(18,[]),(19,[])] ?_;refine hZ ?_;refine mx ?_;refine Zi ?_;refine cE (i:=13) (hq:=(oJ (m:=x.a) (n:=1) rf rf (by omega))) (h:=?_);refine cG (h:=λ x37=>?_);((refine cN (i:=8) (hq:=(bF.eK (sM (l:=x.got) (m:=x.got.length) rf rf .head rfl fin nl hX (by omega)) uO)) (h:=λ x38=>?_);try (refine eY (λ h38=>?_))));refine J4 ?_;refine lG (i:=16) (hq:=(by exact fS λ _=>eU rf cL wn rf iA rf rf hJ)) (h:=λ _=>?_);refine J4 ?_;refine lG (i:=19) (hq:=(by exact fS λ _=>eU rf cL wn rf iA rf rf hJ)) (h:=λ _=>?_);refine eC ?_;refine aV ?_;refine gJ [0,1,2,3,4,5,6,7,8,9,10,11,12,13,14,15,16,17,18] ?_;refine hZ ?_
   (refine aP ?_)
   refine eQ ?_;refine aP ?_
   (refine aP ?_)
   refine J60 ?_;refine J30 ?_;((refine cE (i:=13) (hq:=(jJ (m:=x.a+1) (n:=1) rf rf (by omega) (by omega))) (h:=?_)));((refine bT (i:=14) (hq:=(fD (m:=x.got.length+1) (k:=x.a+1-1) rf rf hX iA (.own .head) (by omega) (by rw[List.length_append,List.length_cons,List.length_nil];omega))) (h:=?_)));((refine bT (i:=15) (hq:=(gV (q:=x.a+1-1) rf iA (.own .head) (by rw[List.length_append,List.length_cons,List.length_nil];omega))) (h:=?_)));refine J56 ?_;refine J7 ?_
   refine aT Tryz.results212 (λ w hw=>?_)
   rw[hv] at hw
   rw[show x.got.length+1=(x.got++[Tu x29]).length by simp] at hw
   exact⟨(x29,x38),by rw[show x.a+1-1=x.got.length by omega,rU,c29];rfl,h29,hw.aU⟩
 ·exact nv c21
end
end

/- Executions of the reference: nodes, allocations, cells, generations. -/
section
open Go Go.RowKit Go.Ct
section
variable{k:Cl}{bx bm:Nat}{x:XS}{dn:Bool}{rs:Rs}{D:List Nat}{A:Fr}{w:World}
theorem fG(r:Int)(hr:r<=9223372036854775807)(ok:x.Ok)(hs:SF w D (xH k bx bm x dn rs) A [] (xW x) w):Calls Tryz.prog 211 #[.pointer (some ⟨bx,0,none⟩),.int .i64 r] w λ e w'=>∃q:Unit,e=.returned (aD x.L r).nd.v/\True/\SF w D (xH k bx bm x dn rs) [] [] (xW x) w':=by
 have hl:=ok.lL
 refine enter Tryz.func211 Tryz.ntmps211 rfl rfl (bZ hs) ?_
 simp only[bY]
 refine J0 ?_;refine aI (λ x4=>?_);refine aH ?_;refine lR ?_;refine aA ?_;refine aC (cM (hc:=λ w hs=>ry (L:=x.L) (cs:=x.cs) hs r hr (by omega))) (λ x10 h10=>?_);refine J5 ?_
 refine bD Tryz.results211 (λ w hw=>?_)
 exact⟨(),rfl,trivial,hw.aU⟩
theorem ar{n:Nd}(i:Int)(h:x.st=true)(hs:SF w D (xH k bx bm x dn rs) A [] (xW x) w):Calls Tryz.prog 215 #[.pointer (some ⟨bx,0,none⟩),n.v,.int .i64 i] w λ e w'=>∃q:Unit,e=.returned (.int .i64 0)/\True/\SF w D (xH k bx bm x dn rs) [] [] (xW x) w':=by
 refine enter Tryz.func215 Tryz.ntmps215 rfl rfl (bZ hs) ?_
 simp only[bY]
 simp only[Nd.v]
 refine J0 ?_;refine bO (λ x4=>?_);refine iZ ?_;refine lR ?_;refine aH ?_
 refine bE (λ c10=>?_) (λ c10=>?_)
 ·refine cR ?_
  refine aT Tryz.results215 (λ w hw=>?_)
  exact⟨(),rfl,trivial,hw.aU⟩
 ·exact absurd (h.symm.trans c10) (by decide)
theorem alloc_old{n:Nd}(i:Int)(ok:x.Ok)(h:x.st=false)(h1:x.m<x.made.length)(hl:x.made.length<=274877906944)(hs:SF w D (xH k bx bm x dn rs) A [] (xW x) w):Calls Tryz.prog 215 #[.pointer (some ⟨bx,0,none⟩),n.v,.int .i64 i] w λ e w'=>∃q:Unit,e=.returned (.int .i64 (x.made.getD x.m 0))/\True/\SF w D (xH k bx bm {x with m:=x.m+1} dn rs) [] [] (xW {x with m:=x.m+1}) w':=by
 refine enter Tryz.func215 Tryz.ntmps215 rfl rfl (bZ hs) ?_
 simp only[bY]
 simp only[Nd.v]
 refine J0 ?_;refine bO (λ x4=>?_);refine iZ ?_;refine lR ?_;refine aH ?_
 refine bE (λ c10=>?_) (λ c10=>?_)
 ·try (exfalso;omega)
  exact absurd (h.symm.trans c10) (by decide)
 ·try (exfalso;omega)
  refine lA ?_;refine aV ?_;refine gJ [0,1,2,3,4,5,6,7,8,9] ?_;refine D2 ?_;refine pV ?_;refine mG ?_;refine eC ?_
  refine bE (λ c20=>?_) (λ c20=>?_)
  ·try (exfalso;omega)
  ·try (exfalso;omega)
   refine vi ?_;refine aB (oJ (m:=x.m) (n:=1) rf rf (by omega)) rfl ?_;refine F5 ?_;refine bS (by exact fS λ _=>eU rf cL wn rf iA rf rf hJ) (λ _=>?_);refine Oq ?_;refine gJ [0,1,2,3,4,5,6,7,8,9,10,11] ?_;refine D2 ?_;refine cE (i:=8) (hq:=(jJ (m:=x.m+1) (n:=1) rf rf (by omega) (by omega))) (h:=?_);refine bT (i:=9) (hq:=(fD (m:=x.made.length) (k:=x.m+1-1) (lst:=x.made) rf rf hX iA (.own (.tail .head)) (by omega) (by omega))) (h:=?_);refine bT (i:=10) (hq:=(gV (q:=x.m+1-1) (lst:=x.made) rf iA (.own (.tail .head)) (by omega))) (h:=?_);refine J7 ?_
   refine aT Tryz.results215 (λ w hw=>?_)
   exact⟨(),by rw[Nat.add_sub_cancel];rfl,trivial,hw.aU⟩
theorem Yw{n:Nd}{xs:List Int}{ys:List Pr}(i:Int)(ok:x.Ok)(h:x.st=false)(h1:x.m=x.made.length)(hl:x.made.length<=137438953472)(hLl:x.L.length<=274877906900)(hcl:x.cs.length<=274877906900)(e1:n.brN=xs.length)(e2:n.prN=ys.length)(hx:xs.length<=274877906944)(hy:ys.length<=274877906944)(hs:SF w D (xH k bx bm x dn rs) [(n.brA,aG xs),(n.prA,dH ys)] [] (xW x) w):Calls Tryz.prog 215 #[.pointer (some ⟨bx,0,none⟩),n.v,.int .i64 i] w λ e w'=>∃q:AX×(Option Addr×Nat),e=.returned (.int .i64 ((x.L.length+1:Nat):Int))/\True /\
   SF w D (xH k bx bm {x with L:=x.L++[oN n xs ys x.cs.length q.1],cs:=fX n.kind x.cs i,pn:=q.1.pn,cn:=q.1.cn,pc:=q.1.pc,cc:=q.1.cc,made:=x.made++[((x.L.length+1:Nat):Int)],pm:=q.2.1,km:=q.2.2,m:=x.m+1} dn rs) [] (oN n xs ys x.cs.length q.1).fr (xW {x with L:=x.L++[oN n xs ys x.cs.length q.1],cs:=fX n.kind x.cs i,pn:=q.1.pn,cn:=q.1.cn,pc:=q.1.pc,cc:=q.1.cc,made:=x.made++[((x.L.length+1:Nat):Int)],pm:=q.2.1,km:=q.2.2,m:=x.m+1}) w':=by
 refine enter Tryz.func215 Tryz.ntmps215 rfl rfl (bZ hs) ?_
 simp only[bY]
 simp only[Nd.v]
 refine J0 ?_;refine bO (λ x4=>?_);refine iZ ?_;refine lR ?_;refine aH ?_
 refine bE (λ c10=>?_) (λ c10=>?_)
 ·try (exfalso;omega)
  exact absurd (h.symm.trans c10) (by decide)
 ·try (exfalso;omega)
  refine lA ?_;refine aV ?_;refine gJ [0,1,2,3,4,5,6,7,8,9] ?_;refine D2 ?_;refine pV ?_;refine mG ?_;refine eC ?_
  refine bE (λ c20=>?_) (λ c20=>?_)
  ·try (exfalso;omega)
   refine dX [(0,[]),(1,[]),(2,[]),(3,[]),(4,[]),(5,[]),(6,[]),(7,[]),(8,[]),(9,[]),(10,[]),(11,[4]),(12,[4]),(13,[]),(14,[]),(15,[]),(16,[])] ?_;refine aP ?_;refine D2 ?_;refine bP ?_;refine aP ?_;refine bC (i:=11) (hq:=(cM (A0:=[(n.brA,aG xs),(n.prA,dH ys)]) (hc:=λ w hs=>Gv (n:=n) (L:=x.L) (cs:=x.cs) i hs e1 e2 hx hy (by omega) (by omega)))) (h:=λ x32 h32=>?_);refine cG (h:=λ x33=>?_);((refine cN (i:=13) (hq:=(bF.eK (sM (l:=x.made) (m:=x.made.length) rf rf (.tail .head) rfl fin nl hX (by omega)) uO)) (h:=λ x34=>?_);try (refine eY (λ h34=>?_))));refine J4 ?_;refine lG (i:=16) (hq:=(by exact fS λ _=>eU rf cL wn rf iA rf rf hJ)) (h:=λ _=>?_);refine eC ?_;refine lR ?_;refine aB (oJ (m:=x.m) (n:=1) rf rf (by omega)) rfl ?_;refine F5 ?_;refine bS (by exact fS λ _=>eU rf cL wn rf iA rf rf hJ) (λ _=>?_);refine Oq ?_;refine gJ [0,1,2,3,4,5,6,7,8,9,10,11] ?_;refine D2 ?_;refine cE (i:=8) (hq:=(jJ (m:=x.m+1) (n:=1) rf rf (by omega) (by omega))) (h:=?_);refine bT (i:=9) (hq:=(fD (m:=x.made.length+1) (k:=x.m+1-1) rf rf hX iA (.own (.tail .head)) (by omega) (by rw[List.length_append,List.length_cons,List.length_nil];omega))) (h:=?_);refine bT (i:=10) (hq:=(gV (q:=x.m+1-1) rf iA (.own (.tail .head)) (by rw[List.length_append,List.length_cons,List.length_nil];omega))) (h:=?_);refine J7 ?_
   refine aT Tryz.results215 (λ w hw=>?_)
   rw[show x.made.length+1=(x.made++[((x.L.length+1:Nat):Int)]).length by simp] at hw
   exact⟨(x32,x34),by rw[show x.m+1-1=x.made.length by omega,rU];rfl,trivial,hw.ret (List.Sublist.cons _ (List.Sublist.refl _)) (aY.iP λ f hf=>List.mem_cons_of_mem _ (List.mem_append_left _ hf)) (List.Sublist.refl _)⟩
  ·try (exfalso;omega)
end
end

end Go.Proofs.YtbajmaoegmbfgaaGreat
