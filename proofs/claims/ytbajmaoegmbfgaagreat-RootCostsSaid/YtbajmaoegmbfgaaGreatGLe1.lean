/- The order of keys. -/
import Derived.Test.YtbajmaoegmbfgaaGreatGVw1
import Derived.Test.YtbajmaoegmbfgaaGreatGKw6
import Derived.Test.YtbajmaoegmbfgaaGreatGTr3
import Derived.Test.YtbajmaoegmbfgaaGreatGRn1
import Derived.Test.YtbajmaoegmbfgaaGreatAr4
import Derived.Test.YtbajmaoegmbfgaaGreatGArN

set_option linter.unusedSimpArgs false
set_option linter.unusedVariables false
namespace Go.Ct
section
open Go Go.RowKit
end
end Go.Ct
namespace Go.Proofs.YtbajmaoegmbfgaaGreat
section
open Go Go.RowKit Go.Ct
end

/- Tries that keep the labels: their I-nodes and their contents. -/
section
open Go.RowKit Go.Ct
section
variable{H:ByteArray->Nat}{σ:Kw}{i m p g:Int}{w:List Nat}{t:eQ}
theorem Xe(i0:Inv H σ)(hi:rS σ i w g):∃p,fQ σ.mm.nodes σ.mm.cs i=some p/\oT σ p w g:=by
 have hm:=hi.uc i0
 have hc:=i0.mT hm.1
 have hp:=(i0.ce _ hc.1 hc.2.1).prev _ hc.2.2
 have e1:wN σ.mm.nodes σ.mm.cs i=σ.ce (σ.nd i).main:=rfl
 have e2:oM σ.mm.nodes σ.mm.cs i=σ.ce (σ.nd (σ.ce (σ.nd i).main)).prev:=rfl
 have e3:yY σ.mm.nodes σ.mm.cs i=if(σ.nd (oM σ.mm.nodes σ.mm.cs i)).kind=7 then(σ.nd (oM σ.mm.nodes σ.mm.cs i)).bA else oM σ.mm.nodes σ.mm.cs i:=rfl
 unfold fQ
 rw[if_pos ⟨hi.1.1,by rw[e1];exact hm.1⟩]
 have key:∀q,oF σ (σ.ce (σ.nd i).main) q->oT σ q w g:=λ q hq=>by have:=hq.1;rw[hm.2.1] at this;exact this.le hm.2.2
 by_cases h0:oM σ.mm.nodes σ.mm.cs i=0
 ·rw[if_pos h0,e1]
  exact⟨_,rfl,hm⟩
 ·rw[if_neg h0,e3]
  rw[e2] at h0 ⊢
  rcases hp.2 with h|h|h
  ·exact absurd h h0
  ·have hk:=h.1.1
   rw[if_neg (cG.ne0 hk).2.1,if_pos hk]
   exact⟨_,rfl,key _ h⟩
  ·rw[if_pos h.1,if_pos h.2.1.1]
   exact⟨_,rfl,key _ h.2⟩
theorem Wx(i0:Inv H σ)(hT:cL σ t):∃r,iR σ.mm.nodes σ.mm.cs t.root=some r/\rG σ r []:=by
 have hv:=(Wc hT i0).2
 have e:sJ σ.mm.nodes σ.mm.cs t.root=if(σ.nd (σ.ce t.root)).kind=8 then(if σ.ce (σ.nd (σ.ce t.root)).status=1 then(σ.nd (σ.ce t.root)).new else(σ.nd (σ.ce t.root)).bA) else σ.ce t.root:=rfl
 have key:∀r,sJ σ.mm.nodes σ.mm.cs t.root=r->rG σ r []->∃r,iR σ.mm.nodes σ.mm.cs t.root=some r/\rG σ r []:=λ r er hr=>⟨r,by unfold iR;rw[er];exact if_pos hr.1,hr⟩
 rcases hv with h|h
 ·exact key _ (e.trans (if_neg (by rw[h.1];decide))) h
 ·have hd:=i0.desc h.1
  by_cases hs:σ.ce (σ.nd (σ.ce t.root)).status=1
  ·exact key _ (e.trans ((if_pos h.1).trans (if_pos hs))) hd.2.2.1
  ·exact key _ (e.trans ((if_pos h.1).trans (if_neg hs))) hd.2.1
theorem nI.lof{b:Nat}{xs:List Int}(h:nI σ m w g b xs):qC (rH b xs) 64=xs:=(Si h.bv).2
def Bel(σ:Kw)(w:List Nat)(j:Int):Prop:=∃v,σ.way j=w++v/\(σ.nd j).kind=2/\(fQ σ.mm.nodes σ.mm.cs j).isSome=true
theorem Bel.up{k:Nat}{j:Int}(h:Bel σ (w++[k]) j):Bel σ w j:=by
 obtain⟨v,h1,h2⟩:=h
 exact⟨k::v,by rw[h1,List.append_assoc];rfl,h2⟩
theorem uv{a b:Nat}{w u v:List Nat}(h:w++[a]++u=w++[b]++v):a=b:=by
 rw[List.append_assoc,List.append_assoc] at h
 have:=List.append_cancel_left h
 simpa using(List.cons.inj this).1
end
end

/- An execution of the reference: its block, its own lists; the rules for calls of its methods. -/
section
open Go Go.RowKit Go.Ct
def xoC(k:Cl)(bm:Nat)(x:XS)(dn:Bool)(rs:Rs):List Value:=[.pointer (some ⟨bm,0,none⟩),
 .int .i64 k.kind,.int .i64 k.t.root,.bool k.t.ro,.int .i64 k.a,.int .i64 k.b,.int .i64 k.n,.int .i64 k.index,.int .u64 k.hash,.int .u64 k.mask,.string k.key,.int .u64 k.val,.int .u64 k.exp,.int .i64 k.Iy,.bool k.only,
 .bool false,.slice none 0 0,.slice none 0 0,.int .i64 0,.bool false,.int .u64 0,.string ⟨#[]⟩,.int .i64 0,.int .i64 0,.int .i64 0,.bool false,
 .slice x.pg x.got.length x.kg,.slice x.pm x.made.length x.km,.slice x.pl x.cel.length x.kl,.slice x.pe x.gns.length x.ke,
 .int .i64 ((x.a:Nat):Int),.int .i64 ((x.m:Nat):Int),.int .i64 ((x.c:Nat):Int),.int .i64 ((x.g:Nat):Int),.int .i64 ((x.fr:Nat):Int),.bool x.st,
 .int .i64 x.nx.k,.int .i64 x.nx.c,.int .i64 x.nx.o,.int .i64 x.nx.n,.bool dn,
 .int .i64 rs.err,.bool rs.found,.int .u64 rs.val,.string rs.key,.int .i64 rs.gU,.int .i64 rs.ref,.int .i64 rs.root,.bool rs.ro,
 .bool false,.slice none 0 0,.slice none 0 0]
abbrev xO(k:Cl)(bm:Nat)(x:XS)(dn:Bool)(rs:Rs):Obj:=.cells ⟨xoC k bm x dn rs⟩ 153 (0,0)
abbrev xM(x:XS):Obj:=mO x.L x.cs x.gen x.acc x.pn x.cn x.pc x.cc
abbrev xW(x:XS):List Ow:=[⟨x.pg,aH x.got,x.kg,37,1⟩,⟨x.pm,aH x.made,x.km,37,1⟩,⟨x.pl,aH x.cel,x.kl,27,1⟩,⟨x.pe,aH x.gns,x.ke,3,1⟩,⟨x.pn,iO x.L,x.cn,47,14⟩,⟨x.pc,aH x.cs,x.cc,37,1⟩]
abbrev xH(k:Cl)(bx bm:Nat)(x:XS)(dn:Bool)(rs:Rs):List (Nat×Obj):=[(bx,xO k bm x dn rs),(bm,xM x)]
theorem aB1{w0 w:World}{D:List Nat}{k:Cl}{bx bm:Nat}{x:XS}{dn:Bool}{rs:Rs}{A F:Fr}(h:SF w0 D (xH k bx bm x dn rs) A F (xW x) w) :
  SF w0 D [(bx,.cells ⟨[.pointer (some ⟨bm,0,none⟩),
 .int .i64 k.kind,.int .i64 k.t.root,.bool k.t.ro,.int .i64 k.a,.int .i64 k.b,.int .i64 k.n,.int .i64 k.index,.int .u64 k.hash,.int .u64 k.mask,.string k.key,.int .u64 k.val,.int .u64 k.exp,.int .i64 k.Iy,.bool k.only,
 .bool false,.slice none 0 0,.slice none 0 0,.int .i64 0,.bool false,.int .u64 0,.string ⟨#[]⟩,.int .i64 0,.int .i64 0,.int .i64 0,.bool false,
 .slice x.pg x.got.length x.kg,.slice x.pm x.made.length x.km,.slice x.pl x.cel.length x.kl,.slice x.pe x.gns.length x.ke,
 .int .i64 ((x.a:Nat):Int),.int .i64 ((x.m:Nat):Int),.int .i64 ((x.c:Nat):Int),.int .i64 ((x.g:Nat):Int),.int .i64 ((x.fr:Nat):Int),.bool x.st,
 .int .i64 x.nx.k,.int .i64 x.nx.c,.int .i64 x.nx.o,.int .i64 x.nx.n,.bool dn,
 .int .i64 rs.err,.bool rs.found,.int .u64 rs.val,.string rs.key,.int .i64 rs.gU,.int .i64 rs.ref,.int .i64 rs.root,.bool rs.ro,
 .bool false,.slice none 0 0,.slice none 0 0]⟩ 153 (0,0)),(bm,mO x.L x.cs x.gen x.acc x.pn x.cn x.pc x.cc)] A F [⟨x.pg,aH x.got,x.kg,37,1⟩,⟨x.pm,aH x.made,x.km,37,1⟩,⟨x.pl,aH x.cel,x.kl,27,1⟩,⟨x.pe,aH x.gns,x.ke,3,1⟩,⟨x.pn,iO x.L,x.cn,47,14⟩,⟨x.pc,aH x.cs,x.cc,37,1⟩] w:=h
theorem cD{w0 w:World}{D:List Nat}{k:Cl}{bx bm:Nat}{x:XS}{dn:Bool}{rs:Rs}{A F:Fr}(h:SF w0 D (xH k bx bm x dn rs) A F (xW x) w) :
  SF w0 D [(bx,.cells ⟨xoC k bm x dn rs⟩ 153 (0,0)),(bm,mO x.L x.cs x.gen x.acc x.pn x.cn x.pc x.cc)] A F [⟨x.pg,aH x.got,x.kg,37,1⟩,⟨x.pm,aH x.made,x.km,37,1⟩,⟨x.pl,aH x.cel,x.kl,27,1⟩,⟨x.pe,aH x.gns,x.ke,3,1⟩,⟨x.pn,iO x.L,x.cn,47,14⟩,⟨x.pc,aH x.cs,x.cc,37,1⟩] w:=h
end

/- Executions of the reference: known, load, cas. -/
end Go.Proofs.YtbajmaoegmbfgaaGreat
namespace Go.Ct
section
def XS.kn(x:XS)(a:Ac):XS:=if x.st=true then x else if x.a<x.got.length then{x with a:=x.a+1} else if x.fr=0 then{x with st:=true,nx:=a} else{x with fr:=x.fr-1}
def XS.bA(x:XS):Bool:=!x.st&&decide (x.a<x.got.length)
def XS.now(x:XS):Bool:=!x.st&&!decide (x.a<x.got.length)&&!decide (x.fr=0)
theorem XS.vn{x:XS}{a:Ac}(h:x.st=true):x.kn a=x/\x.bA=false/\x.now=false:=⟨if_pos h,by simp[XS.bA,h],by simp[XS.now,h]⟩
theorem XS.ef{x:XS}{a:Ac}(h:x.st=false)(h1:x.a<x.got.length):x.kn a={x with a:=x.a+1}/\x.bA=true/\x.now=false:=⟨by unfold XS.kn;rw[if_neg (by rw[h];decide),if_pos h1],by simp[XS.bA,h,h1],by simp[XS.now,h1]⟩
theorem XS.wu{x:XS}{a:Ac}(h:x.st=false)(h1:¬x.a<x.got.length)(h2:x.fr=0):x.kn a={x with st:=true,nx:=a}/\x.bA=false/\x.now=false:=⟨by unfold XS.kn;rw[if_neg (by rw[h];decide),if_neg h1,if_pos h2],by simp[XS.bA,h1],by simp[XS.now,h2]⟩
theorem XS.ku{x:XS}{a:Ac}(h:x.st=false)(h1:¬x.a<x.got.length)(h2:¬x.fr=0):x.kn a={x with fr:=x.fr-1}/\x.bA=false/\x.now=true:=⟨by unfold XS.kn;rw[if_neg (by rw[h];decide),if_neg h1,if_neg h2],by simp[XS.bA,h1],by simp[XS.now,h,h1,h2]⟩
end
end Go.Ct
namespace Go.Proofs.YtbajmaoegmbfgaaGreat
section
open Go Go.RowKit Go.Ct
section
variable{k:Cl}{bx bm:Nat}{x:XS}{dn:Bool}{rs:Rs}{D:List Nat}{A:Fr}{w:World}
theorem Es(a:Ac)(ok:x.Ok)(hs:SF w D (xH k bx bm x dn rs) A [] (xW x) w):Calls Tryz.prog 240 #[.pointer (some ⟨bx,0,none⟩),.agg ⟨a.cells⟩] w λ e w'=>∃q:Unit,e=.returned (.tuple #[.bool x.bA,.bool x.now])/\True/\SF w D (xH k bx bm (x.kn a) dn rs) [] [] (xW (x.kn a)) w':=by
 have h1:=ok.lg
 have h2:=ok.la
 have h3:=ok.fr
 refine enter Tryz.func240 Tryz.ntmps240 rfl rfl (aB1 hs) ?_
 simp only[cA]
 refine J0 ?_;refine bK (λ x3=>?_);refine J8 ?_;refine aS ?_;refine Kc4 ?_
 refine bD (λ c9=>?_) (λ c9=>?_)
 ·refine Py ?_
  refine aY Tryz.results240 (λ w hw=>?_)
  obtain⟨e1,e2,e3⟩:=XS.vn (a:=a) c9
  rw[e1,e2,e3]
  exact⟨(),rfl,trivial,hw.aX⟩
 ·refine kO ?_;refine aS ?_;refine gS [0,1,2,3,4,5,6,7,8,9] ?_;refine Ek ?_;refine oE ?_;refine Df ?_;refine eU ?_
  refine bD (λ c19=>?_) (λ c19=>?_)
  ·refine mA ?_;refine H7 ?_;refine Np ?_;refine Py ?_
   refine aY Tryz.results240 (λ w hw=>?_)
   obtain⟨e1,e2,e3⟩:=XS.ef (a:=a) c9 (by omega)
   rw[e1,e2,e3]
   exact⟨(),rfl,trivial,hw.aX⟩
  ·refine kO ?_;refine mA ?_;refine sU ?_
   refine bD (λ c31=>?_) (λ c31=>?_)
   ·refine aS ?_;refine eG [(0,[]),(1,[]),(2,[]),(3,[]),(4,[]),(5,[2]),(6,[]),(7,[]),(8,[])] ?_;refine iF ?_;refine bO ?_;refine J4 ?_;refine pM (h:=λ _=>?_);refine J4 ?_;refine lI (i:=8) (hq:=(gV λ _=>lY (off:=36) (vs:=a.cells) rf cY rf rfl eF (Nat.le_of_ble_eq_true rfl) rf jI)) (h:=λ _=>?_);refine eU ?_;refine Py ?_
    refine aY Tryz.results240 (λ w hw=>?_)
    obtain⟨e1,e2,e3⟩:=XS.wu (a:=a) c9 (by omega) (by omega)
    rw[e1,e2,e3]
    exact⟨(),rfl,trivial,hw.aX⟩
   ·refine r7 ?_;refine rY ?_;refine Np ?_;refine Py ?_
    refine aY Tryz.results240 (λ w hw=>?_)
    obtain⟨e1,e2,e3⟩:=XS.ku (a:=a) c9 (by omega) (by omega)
    rw[e1,e2,e3]
    exact⟨(),rfl,trivial,hw.aX⟩
theorem Qg(a:Ac)(ok:x.Ok)(h:x.st=true)(hs:SF w D (xH k bx bm x dn rs) A [] (xW x) w):Calls Tryz.prog 240 #[.pointer (some ⟨bx,0,none⟩),.agg ⟨a.cells⟩] w λ e w'=>∃q:Unit,e=.returned (.tuple #[.bool false,.bool false])/\True/\SF w D (xH k bx bm x dn rs) [] [] (xW x) w':=by
 obtain⟨e1,e2,e3⟩:=XS.vn (a:=a) h
 have:=Es (k:=k) (bx:=bx) (bm:=bm) (dn:=dn) (rs:=rs) (D:=D) (A:=A) (w:=w) a ok hs
 rw[e1,e2,e3] at this
 exact this
theorem Jk(a:Ac)(ok:x.Ok)(h:x.st=false)(h1:x.a<x.got.length)(hs:SF w D (xH k bx bm x dn rs) A [] (xW x) w):Calls Tryz.prog 240 #[.pointer (some ⟨bx,0,none⟩),.agg ⟨a.cells⟩] w λ e w'=>∃q:Unit,e=.returned (.tuple #[.bool true,.bool false])/\True/\SF w D (xH k bx bm {x with a:=x.a+1} dn rs) [] [] (xW {x with a:=x.a+1}) w':=by
 obtain⟨e1,e2,e3⟩:=XS.ef (a:=a) h h1
 have:=Es (k:=k) (bx:=bx) (bm:=bm) (dn:=dn) (rs:=rs) (D:=D) (A:=A) (w:=w) a ok hs
 rw[e1,e2,e3] at this
 exact this
theorem Px(a:Ac)(ok:x.Ok)(h:x.st=false)(h1:¬x.a<x.got.length)(h2:x.fr=0)(hs:SF w D (xH k bx bm x dn rs) A [] (xW x) w):Calls Tryz.prog 240 #[.pointer (some ⟨bx,0,none⟩),.agg ⟨a.cells⟩] w λ e w'=>∃q:Unit,e=.returned (.tuple #[.bool false,.bool false])/\True/\SF w D (xH k bx bm {x with st:=true,nx:=a} dn rs) [] [] (xW {x with st:=true,nx:=a}) w':=by
 obtain⟨e1,e2,e3⟩:=XS.wu (a:=a) h h1 h2
 have:=Es (k:=k) (bx:=bx) (bm:=bm) (dn:=dn) (rs:=rs) (D:=D) (A:=A) (w:=w) a ok hs
 rw[e1,e2,e3] at this
 exact this
theorem Jh(a:Ac)(ok:x.Ok)(h:x.st=false)(h1:¬x.a<x.got.length)(h2:¬x.fr=0)(hs:SF w D (xH k bx bm x dn rs) A [] (xW x) w):Calls Tryz.prog 240 #[.pointer (some ⟨bx,0,none⟩),.agg ⟨a.cells⟩] w λ e w'=>∃q:Unit,e=.returned (.tuple #[.bool false,.bool true])/\True/\SF w D (xH k bx bm {x with fr:=x.fr-1} dn rs) [] [] (xW {x with fr:=x.fr-1}) w':=by
 obtain⟨e1,e2,e3⟩:=XS.ku (a:=a) h h1 h2
 have:=Es (k:=k) (bx:=bx) (bm:=bm) (dn:=dn) (rs:=rs) (D:=D) (A:=A) (w:=w) a ok hs
 rw[e1,e2,e3] at this
 exact this
theorem qb(c:Int)(ok:x.Ok)(h:x.st=true)(hs:SF w D (xH k bx bm x dn rs) A [] (xW x) w):Calls Tryz.prog 210 #[.pointer (some ⟨bx,0,none⟩),.int .i64 c] w λ e w'=>∃q:Unit,e=.returned (.int .i64 0)/\True/\SF w D (xH k bx bm x dn rs) [] [] (xW x) w':=by
 refine enter Tryz.func210 Tryz.ntmps210 rfl rfl (cD hs) ?_
 simp only[cA]
 refine Kc8 ?_;refine bI ?_;refine aD (cM (hs:=xH k bx bm x dn rs) (os:=xW x) (hc:=λ w hs=>Qg ⟨1,c,0,0⟩ ok h hs)) (λ x11 h11=>?_);refine Kb5 ?_;refine aG ?_
 refine bD (λ c14=>?_) (λ c14=>?_)
 ·exact nv c14
 ·try (exact abt)
  refine kO ?_;refine J2 ?_;refine Bq ?_
  (refine Ka3 ?_)
  refine Kc1 ?_
  refine bD (λ c43=>?_) (λ c43=>?_)
  ·try (exact abt)
   refine cS ?_
   refine aQ Tryz.results210 (λ w hw=>?_)
   exact⟨(),rfl,trivial,hw.aX⟩
  ·exact nv c43
theorem s5(c:Int)(ok:x.Ok)(h:x.st=false)(h1:¬x.a<x.got.length)(h2:x.fr=0)(hs:SF w D (xH k bx bm x dn rs) A [] (xW x) w):Calls Tryz.prog 210 #[.pointer (some ⟨bx,0,none⟩),.int .i64 c] w λ e w'=>∃q:Unit,e=.returned (.int .i64 0)/\True/\SF w D (xH k bx bm {x with st:=true,nx:=⟨1,c,0,0⟩} dn rs) [] [] (xW {x with st:=true,nx:=⟨1,c,0,0⟩}) w':=by
 refine enter Tryz.func210 Tryz.ntmps210 rfl rfl (cD hs) ?_
 simp only[cA]
 refine Kc8 ?_;refine bI ?_;refine aD (cM (hs:=xH k bx bm x dn rs) (os:=xW x) (hc:=λ w hs=>Px ⟨1,c,0,0⟩ ok h h1 h2 hs)) (λ x11 h11=>?_);refine Kb5 ?_;refine aG ?_
 refine bD (λ c14=>?_) (λ c14=>?_)
 ·exact nv c14
 ·try (exact abt)
  refine kO ?_;refine J2 ?_;refine Bq ?_
  (refine Ka3 ?_)
  refine Kc1 ?_
  refine bD (λ c43=>?_) (λ c43=>?_)
  ·try (exact abt)
   refine cS ?_
   refine aQ Tryz.results210 (λ w hw=>?_)
   exact⟨(),rfl,trivial,hw.aX⟩
  ·exact nv c43
theorem G0(c:Int)(ok:x.Ok)(h:x.st=false)(h1:x.a<x.got.length)(hs:SF w D (xH k bx bm x dn rs) A [] (xW x) w):Calls Tryz.prog 210 #[.pointer (some ⟨bx,0,none⟩),.int .i64 c] w λ e w'=>∃q:Unit,e=.returned (.int .i64 (x.got.getD x.a 0))/\True/\SF w D (xH k bx bm {x with a:=x.a+1} dn rs) [] [] (xW {x with a:=x.a+1}) w':=by
 have hg:=ok.lg
 refine enter Tryz.func210 Tryz.ntmps210 rfl rfl (cD hs) ?_
 simp only[cA]
 refine Kc8 ?_;refine bI ?_;refine aD (cM (hs:=xH k bx bm x dn rs) (os:=xW x) (hc:=λ w hs=>Jk ⟨1,c,0,0⟩ ok h h1 hs)) (λ x11 h11=>?_);refine Kb5 ?_;refine aG ?_
 refine bD (λ c14=>?_) (λ c14=>?_)
 ·exact nv c14
 ·try (exact abt)
  refine kO ?_;refine J2 ?_;refine Bq ?_
  refine aI ?_
  refine Kc1 ?_
  refine bD (λ c43=>?_) (λ c43=>?_)
  ·exact nv c43
  ·try (exact abt)
   refine kO ?_;refine gS [0,1,2,3,4,5,6,7,8,9,10,11] ?_;refine Ek ?_;refine cP (i:=8) (hq:=(jR (m:=x.a+1) (n:=1) rf rf (by omega) (by omega))) (h:=?_);refine bT (i:=9) (hq:=(dH (m:=x.got.length) (k:=x.a+1-1) (lst:=x.got) rf rf gH fZ (.own .head) (by omega) (by omega))) (h:=?_);refine bT (i:=10) (hq:=(fC (q:=x.a+1-1) (lst:=x.got) rf fZ (.own .head) (by omega))) (h:=?_);refine J7 ?_
   refine aQ Tryz.results210 (λ w hw=>?_)
   exact⟨(),by rw[Nat.add_sub_cancel];rfl,trivial,hw.aX⟩
theorem du(c:Int)(hc:c<=9223372036854775807)(ok:x.Ok)(h:x.st=false)(h1:¬x.a<x.got.length)(h2:¬x.fr=0)(hs:SF w D (xH k bx bm x dn rs) A [] (xW x) w):Calls Tryz.prog 210 #[.pointer (some ⟨bx,0,none⟩),.int .i64 c] w λ e w'=>∃q:Option Addr×Nat,e=.returned (.int .i64 (bE x.cs c))/\True/\SF w D (xH k bx bm {x with fr:=x.fr-1,acc:=up x.acc,got:=x.got++[bE x.cs c],pg:=q.1,kg:=q.2,a:=x.a+1} dn rs) [] [] (xW {x with fr:=x.fr-1,acc:=up x.acc,got:=x.got++[bE x.cs c],pg:=q.1,kg:=q.2,a:=x.a+1}) w':=by
 have hg:=ok.lg
 have ha:=ok.la
 have hlc:=ok.lc
 refine enter Tryz.func210 Tryz.ntmps210 rfl rfl (cD hs) ?_
 simp only[cA]
 refine Kc8 ?_;refine bI ?_;refine aD (cM (hs:=xH k bx bm x dn rs) (os:=xW x) (hc:=λ w hs=>Jh ⟨1,c,0,0⟩ ok h h1 h2 hs)) (λ x11 h11=>?_);refine Kb5 ?_;refine aG ?_
 refine bD (λ c14=>?_) (λ c14=>?_)
 ·try (exact abt)
  refine eG [(0,[]),(1,[]),(2,[]),(3,[]),(4,[]),(5,[]),(6,[]),(7,[]),(8,[]),(9,[]),(10,[]),(14,[]),(15,[]),(16,[]),(17,[]),(18,[]),(11,[5,17]),(12,[5,17]),(13,[17]),(19,[]),(20,[]),(21,[]),(22,[]),(23,[]),(24,[])] ?_;refine iF ?_;refine Ek ?_;refine Xf ?_;refine cP (i:=18) (hq:=(oW (m:=x.a) (n:=1) rf rf (by omega))) (h:=?_);refine bC (i:=11) (hq:=(cM (hc:=λ w hs=>r8 (L:=x.L) (cs:=x.cs) hs c hc (by omega)))) (h:=λ x26 h26=>?_);refine cB (h:=λ x27=>?_);((refine cO (i:=13) (hq:=(bG.eM (sZ (l:=x.got) (v:=bE x.cs c) (m:=x.got.length) rf rf .head rfl fin Zr gH (by omega)) vJ)) (h:=λ x28=>?_);try (refine eI (λ h28=>?_))));refine J4 ?_;refine lI (i:=21) (hq:=(by exact gV λ _=>fA rf cY wn rf fZ rf rf jI)) (h:=λ _=>?_);refine J4 ?_;refine lI (i:=24) (hq:=(by exact gV λ _=>fA rf cY wn rf fZ rf rf jI)) (h:=λ _=>?_);refine eU ?_;refine kR ?_;refine Bq ?_
  (refine Ka3 ?_)
  refine Kc1 ?_
  refine bD (λ c43=>?_) (λ c43=>?_)
  ·exact nv c43
  ·try (exact abt)
   refine kO ?_;refine gS [0,1,2,3,4,5,6,7,8,9,10,11] ?_;refine Ek ?_;refine cP (i:=8) (hq:=(jR (m:=x.a+1) (n:=1) rf rf (by omega) (by omega))) (h:=?_);refine bT (i:=9) (hq:=(dH (m:=x.got.length+1) (k:=x.a+1-1) (lst:=x.got++[bE x.cs c]) rf rf gH fZ (.own .head) (by omega) (by rw[List.length_append,List.length_cons,List.length_nil];omega))) (h:=?_);refine bT (i:=10) (hq:=(fC (q:=x.a+1-1) (lst:=x.got++[bE x.cs c]) rf fZ (.own .head) (by rw[List.length_append,List.length_cons,List.length_nil];omega))) (h:=?_);refine J7 ?_
   refine aQ Tryz.results210 (λ w hw=>?_)
   rw[show x.got.length+1=(x.got++[bE x.cs c]).length by simp] at hw
   exact⟨x28,by rw[show(x.got++[bE x.cs c]).getD (x.a+1-1) 0=bE x.cs c by rw[show x.a+1-1=x.got.length by omega,jN,List.getElem?_append_right (Nat.le_refl _)];simp];rfl,trivial,hw.aX⟩
 ·exact nv c14
end
end

end Go.Proofs.YtbajmaoegmbfgaaGreat
