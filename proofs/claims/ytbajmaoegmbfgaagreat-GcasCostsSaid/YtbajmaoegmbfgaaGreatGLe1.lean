/- The order of keys. -/
import Derived.Test.YtbajmaoegmbfgaaGreatGVw1
import Derived.Test.YtbajmaoegmbfgaaGreatGKw6
import Derived.Test.YtbajmaoegmbfgaaGreatGTr3
import Derived.Test.YtbajmaoegmbfgaaGreatGRn1
import Derived.Test.YtbajmaoegmbfgaaGreatGAr4
import Derived.Test.YtbajmaoegmbfgaaGreatGArN

set_option linter.unusedSimpArgs false
set_option linter.unusedVariables false
namespace Go.Ct
section
open Go Go.RowKit
end
end Go.Ct
namespace Go.Proofs.YtbajmaoegmbfgaaGreat
section
open Go Go.RowKit Go.Ct
end

/- Tries that keep the labels: their I-nodes and their contents. -/
section
open Go.RowKit Go.Ct
section
variable{H:ByteArray->Nat}{σ:Kw}{i m p g:Int}{w:List Nat}{t:fG}
theorem oz(i0:Inv H σ)(hi:uB σ i w g):∃p,iN σ.mm.nodes σ.mm.cs i=some p/\qG σ p w g:=by
 have hm:=hi.rr i0
 have hc:=i0.pS hm.1
 have hp:=(i0.ce _ hc.1 hc.2.1).prev _ hc.2.2
 have e1:vT σ.mm.nodes σ.mm.cs i=σ.ce (σ.nd i).main:=rfl
 have e2:oN σ.mm.nodes σ.mm.cs i=σ.ce (σ.nd (σ.ce (σ.nd i).main)).prev:=rfl
 have e3:yD σ.mm.nodes σ.mm.cs i=if(σ.nd (oN σ.mm.nodes σ.mm.cs i)).kind=7 then(σ.nd (oN σ.mm.nodes σ.mm.cs i)).bJ else oN σ.mm.nodes σ.mm.cs i:=rfl
 unfold iN
 rw[if_pos ⟨hi.1.1,by rw[e1];exact hm.1⟩]
 have key:∀q,qA σ (σ.ce (σ.nd i).main) q->qG σ q w g:=λ q hq=>by have:=hq.1;rw[hm.2.1] at this;exact this.le hm.2.2
 by_cases h0:oN σ.mm.nodes σ.mm.cs i=0
 ·rw[if_pos h0,e1]
  exact⟨_,rfl,hm⟩
 ·rw[if_neg h0,e3]
  rw[e2] at h0 ⊢
  rcases hp.2 with h|h|h
  ·exact absurd h h0
  ·have hk:=h.1.1
   rw[if_neg (bV.ne0 hk).2.1,if_pos hk]
   exact⟨_,rfl,key _ h⟩
  ·rw[if_pos h.1,if_pos h.2.1.1]
   exact⟨_,rfl,key _ h.2⟩
theorem po(i0:Inv H σ)(hT:cU σ t):∃r,mP σ.mm.nodes σ.mm.cs t.root=some r/\wS σ r []:=by
 have hv:=(Yn hT i0).2
 have e:tY σ.mm.nodes σ.mm.cs t.root=if(σ.nd (σ.ce t.root)).kind=8 then(if σ.ce (σ.nd (σ.ce t.root)).status=1 then(σ.nd (σ.ce t.root)).new else(σ.nd (σ.ce t.root)).bJ) else σ.ce t.root:=rfl
 have key:∀r,tY σ.mm.nodes σ.mm.cs t.root=r->wS σ r []->∃r,mP σ.mm.nodes σ.mm.cs t.root=some r/\wS σ r []:=λ r er hr=>⟨r,by unfold mP;rw[er];exact if_pos hr.1,hr⟩
 rcases hv with h|h
 ·exact key _ (e.trans (if_neg (by rw[h.1];decide))) h
 ·have hd:=i0.desc h.1
  by_cases hs:σ.ce (σ.nd (σ.ce t.root)).status=1
  ·exact key _ (e.trans ((if_pos h.1).trans (if_pos hs))) hd.2.2.1
  ·exact key _ (e.trans ((if_pos h.1).trans (if_neg hs))) hd.2.1
theorem mS.lof{b:Nat}{xs:List Int}(h:mS σ m w g b xs):pT (qS b xs) 64=xs:=(R6 h.bv).2
def Bel(σ:Kw)(w:List Nat)(j:Int):Prop:=∃v,σ.way j=w++v/\(σ.nd j).kind=2/\(iN σ.mm.nodes σ.mm.cs j).isSome=true
theorem Bel.up{k:Nat}{j:Int}(h:Bel σ (w++[k]) j):Bel σ w j:=by
 obtain⟨v,h1,h2⟩:=h
 exact⟨k::v,by rw[h1,List.append_assoc];rfl,h2⟩
theorem mn{a b:Nat}{w u v:List Nat}(h:w++[a]++u=w++[b]++v):a=b:=by
 rw[List.append_assoc,List.append_assoc] at h
 have:=List.append_cancel_left h
 simpa using(List.cons.inj this).1
end
end

/- An execution of the reference: its block, its own lists; the rules for calls of its methods. -/
section
open Go Go.RowKit Go.Ct
def xoC(k:Cl)(bm:Nat)(x:XS)(dn:Bool)(rs:Rs):List Value:=[.pointer (some ⟨bm,0,none⟩),
 .int .i64 k.kind,.int .i64 k.t.root,.bool k.t.ro,.int .i64 k.a,.int .i64 k.b,.int .i64 k.n,.int .i64 k.index,.int .u64 k.hash,.int .u64 k.mask,.string k.key,.int .u64 k.val,.int .u64 k.exp,.int .i64 k.Ia,.bool k.only,
 .bool false,.slice none 0 0,.slice none 0 0,.int .i64 0,.bool false,.int .u64 0,.string ⟨#[]⟩,.int .i64 0,.int .i64 0,.int .i64 0,.bool false,
 .slice x.pg x.got.length x.kg,.slice x.pm x.made.length x.km,.slice x.pl x.cel.length x.kl,.slice x.pe x.gns.length x.ke,
 .int .i64 ((x.a:Nat):Int),.int .i64 ((x.m:Nat):Int),.int .i64 ((x.c:Nat):Int),.int .i64 ((x.g:Nat):Int),.int .i64 ((x.fr:Nat):Int),.bool x.st,
 .int .i64 x.nx.k,.int .i64 x.nx.c,.int .i64 x.nx.o,.int .i64 x.nx.n,.bool dn,
 .int .i64 rs.err,.bool rs.found,.int .u64 rs.val,.string rs.key,.int .i64 rs.gJ,.int .i64 rs.ref,.int .i64 rs.root,.bool rs.ro,
 .bool false,.slice none 0 0,.slice none 0 0]
abbrev xO(k:Cl)(bm:Nat)(x:XS)(dn:Bool)(rs:Rs):Obj:=.cells ⟨xoC k bm x dn rs⟩ 153 (0,0)
abbrev xM(x:XS):Obj:=mO x.L x.cs x.gen x.acc x.pn x.cn x.pc x.cc
abbrev xW(x:XS):List Ow:=[⟨x.pg,aG x.got,x.kg,37,1⟩,⟨x.pm,aG x.made,x.km,37,1⟩,⟨x.pl,aG x.cel,x.kl,27,1⟩,⟨x.pe,aG x.gns,x.ke,3,1⟩,⟨x.pn,iY x.L,x.cn,47,14⟩,⟨x.pc,aG x.cs,x.cc,37,1⟩]
abbrev xH(k:Cl)(bx bm:Nat)(x:XS)(dn:Bool)(rs:Rs):List (Nat×Obj):=[(bx,xO k bm x dn rs),(bm,xM x)]
theorem y8{w0 w:World}{D:List Nat}{k:Cl}{bx bm:Nat}{x:XS}{dn:Bool}{rs:Rs}{A F:Fr}(h:SF w0 D (xH k bx bm x dn rs) A F (xW x) w) :
  SF w0 D [(bx,.cells ⟨[.pointer (some ⟨bm,0,none⟩),
 .int .i64 k.kind,.int .i64 k.t.root,.bool k.t.ro,.int .i64 k.a,.int .i64 k.b,.int .i64 k.n,.int .i64 k.index,.int .u64 k.hash,.int .u64 k.mask,.string k.key,.int .u64 k.val,.int .u64 k.exp,.int .i64 k.Ia,.bool k.only,
 .bool false,.slice none 0 0,.slice none 0 0,.int .i64 0,.bool false,.int .u64 0,.string ⟨#[]⟩,.int .i64 0,.int .i64 0,.int .i64 0,.bool false,
 .slice x.pg x.got.length x.kg,.slice x.pm x.made.length x.km,.slice x.pl x.cel.length x.kl,.slice x.pe x.gns.length x.ke,
 .int .i64 ((x.a:Nat):Int),.int .i64 ((x.m:Nat):Int),.int .i64 ((x.c:Nat):Int),.int .i64 ((x.g:Nat):Int),.int .i64 ((x.fr:Nat):Int),.bool x.st,
 .int .i64 x.nx.k,.int .i64 x.nx.c,.int .i64 x.nx.o,.int .i64 x.nx.n,.bool dn,
 .int .i64 rs.err,.bool rs.found,.int .u64 rs.val,.string rs.key,.int .i64 rs.gJ,.int .i64 rs.ref,.int .i64 rs.root,.bool rs.ro,
 .bool false,.slice none 0 0,.slice none 0 0]⟩ 153 (0,0)),(bm,mO x.L x.cs x.gen x.acc x.pn x.cn x.pc x.cc)] A F [⟨x.pg,aG x.got,x.kg,37,1⟩,⟨x.pm,aG x.made,x.km,37,1⟩,⟨x.pl,aG x.cel,x.kl,27,1⟩,⟨x.pe,aG x.gns,x.ke,3,1⟩,⟨x.pn,iY x.L,x.cn,47,14⟩,⟨x.pc,aG x.cs,x.cc,37,1⟩] w:=h
theorem cA{w0 w:World}{D:List Nat}{k:Cl}{bx bm:Nat}{x:XS}{dn:Bool}{rs:Rs}{A F:Fr}(h:SF w0 D (xH k bx bm x dn rs) A F (xW x) w) :
  SF w0 D [(bx,.cells ⟨xoC k bm x dn rs⟩ 153 (0,0)),(bm,mO x.L x.cs x.gen x.acc x.pn x.cn x.pc x.cc)] A F [⟨x.pg,aG x.got,x.kg,37,1⟩,⟨x.pm,aG x.made,x.km,37,1⟩,⟨x.pl,aG x.cel,x.kl,27,1⟩,⟨x.pe,aG x.gns,x.ke,3,1⟩,⟨x.pn,iY x.L,x.cn,47,14⟩,⟨x.pc,aG x.cs,x.cc,37,1⟩] w:=h
end

/- Executions of the reference: known, load, cas. -/
end Go.Proofs.YtbajmaoegmbfgaaGreat
namespace Go.Ct
section
def XS.kn(x:XS)(a:Ac):XS:=if x.st=true then x else if x.a<x.got.length then{x with a:=x.a+1} else if x.fr=0 then{x with st:=true,nx:=a} else{x with fr:=x.fr-1}
def XS.bJ(x:XS):Bool:=!x.st&&decide (x.a<x.got.length)
def XS.now(x:XS):Bool:=!x.st&&!decide (x.a<x.got.length)&&!decide (x.fr=0)
theorem XS.tf{x:XS}{a:Ac}(h:x.st=true):x.kn a=x/\x.bJ=false/\x.now=false:=⟨if_pos h,by simp[XS.bJ,h],by simp[XS.now,h]⟩
theorem XS.j2{x:XS}{a:Ac}(h:x.st=false)(h1:x.a<x.got.length):x.kn a={x with a:=x.a+1}/\x.bJ=true/\x.now=false:=⟨by unfold XS.kn;rw[if_neg (by rw[h];decide),if_pos h1],by simp[XS.bJ,h,h1],by simp[XS.now,h1]⟩
theorem XS.tq{x:XS}{a:Ac}(h:x.st=false)(h1:¬x.a<x.got.length)(h2:x.fr=0):x.kn a={x with st:=true,nx:=a}/\x.bJ=false/\x.now=false:=⟨by unfold XS.kn;rw[if_neg (by rw[h];decide),if_neg h1,if_pos h2],by simp[XS.bJ,h1],by simp[XS.now,h2]⟩
theorem XS.ey{x:XS}{a:Ac}(h:x.st=false)(h1:¬x.a<x.got.length)(h2:¬x.fr=0):x.kn a={x with fr:=x.fr-1}/\x.bJ=false/\x.now=true:=⟨by unfold XS.kn;rw[if_neg (by rw[h];decide),if_neg h1,if_neg h2],by simp[XS.bJ,h1],by simp[XS.now,h,h1,h2]⟩
end
end Go.Ct
namespace Go.Proofs.YtbajmaoegmbfgaaGreat
section
open Go Go.RowKit Go.Ct
section
variable{k:Cl}{bx bm:Nat}{x:XS}{dn:Bool}{rs:Rs}{D:List Nat}{A:Fr}{w:World}
theorem D3(a:Ac)(ok:x.Ok)(hs:SF w D (xH k bx bm x dn rs) A [] (xW x) w):Calls Tryz.prog 240 #[.pointer (some ⟨bx,0,none⟩),.agg ⟨a.cells⟩] w λ e w'=>∃q:Unit,e=.returned (.tuple #[.bool x.bJ,.bool x.now])/\True/\SF w D (xH k bx bm (x.kn a) dn rs) [] [] (xW (x.kn a)) w':=by
 have h1:=ok.lg
 have h2:=ok.la
 have h3:=ok.fr
 refine enter Tryz.func240 Tryz.ntmps240 rfl rfl (y8 hs) ?_
 simp only[cD]
 refine J0 ?_;refine bK (λ x3=>?_);refine J8 ?_;refine aS ?_;refine mJ ?_;refine aH ?_
 refine aZ (λ c9=>?_) (λ c9=>?_)
 ·refine P2 ?_
  refine aY Tryz.results240 (λ w hw=>?_)
  obtain⟨e1,e2,e3⟩:=XS.tf (a:=a) c9
  rw[e1,e2,e3]
  exact⟨(),rfl,trivial,hw.aV⟩
 ·refine kK ?_;refine aS ?_;refine gM [0,1,2,3,4,5,6,7,8,9] ?_;refine D2 ?_;refine nV ?_;refine C1 ?_;refine eJ ?_
  refine aZ (λ c19=>?_) (λ c19=>?_)
  ·refine mJ ?_;refine F6 ?_;refine Py ?_;refine P2 ?_
   refine aY Tryz.results240 (λ w hw=>?_)
   obtain⟨e1,e2,e3⟩:=XS.j2 (a:=a) c9 (by omega)
   rw[e1,e2,e3]
   exact⟨(),rfl,trivial,hw.aV⟩
  ·refine kK ?_;refine mJ ?_;refine sH ?_
   refine aZ (λ c31=>?_) (λ c31=>?_)
   ·refine aS ?_;refine dZ [(0,[]),(1,[]),(2,[]),(3,[]),(4,[]),(5,[2]),(6,[]),(7,[]),(8,[])] ?_;refine gV ?_;refine bN ?_;refine J4 ?_;refine lX (h:=λ _=>?_);refine J4 ?_;refine kF (i:=8) (hq:=(jE λ _=>lN (off:=36) (vs:=a.cells) rf cX rf rfl eP (Nat.le_of_ble_eq_true rfl) rf kL)) (h:=λ _=>?_);refine eJ ?_;refine P2 ?_
    refine aY Tryz.results240 (λ w hw=>?_)
    obtain⟨e1,e2,e3⟩:=XS.tq (a:=a) c9 (by omega) (by omega)
    rw[e1,e2,e3]
    exact⟨(),rfl,trivial,hw.aV⟩
   ·refine sc ?_;refine rM ?_;refine Py ?_;refine P2 ?_
    refine aY Tryz.results240 (λ w hw=>?_)
    obtain⟨e1,e2,e3⟩:=XS.ey (a:=a) c9 (by omega) (by omega)
    rw[e1,e2,e3]
    exact⟨(),rfl,trivial,hw.aV⟩
theorem Oe(a:Ac)(ok:x.Ok)(h:x.st=true)(hs:SF w D (xH k bx bm x dn rs) A [] (xW x) w):Calls Tryz.prog 240 #[.pointer (some ⟨bx,0,none⟩),.agg ⟨a.cells⟩] w λ e w'=>∃q:Unit,e=.returned (.tuple #[.bool false,.bool false])/\True/\SF w D (xH k bx bm x dn rs) [] [] (xW x) w':=by
 obtain⟨e1,e2,e3⟩:=XS.tf (a:=a) h
 have:=D3 (k:=k) (bx:=bx) (bm:=bm) (dn:=dn) (rs:=rs) (D:=D) (A:=A) (w:=w) a ok hs
 rw[e1,e2,e3] at this
 exact this
theorem Iw(a:Ac)(ok:x.Ok)(h:x.st=false)(h1:x.a<x.got.length)(hs:SF w D (xH k bx bm x dn rs) A [] (xW x) w):Calls Tryz.prog 240 #[.pointer (some ⟨bx,0,none⟩),.agg ⟨a.cells⟩] w λ e w'=>∃q:Unit,e=.returned (.tuple #[.bool true,.bool false])/\True/\SF w D (xH k bx bm {x with a:=x.a+1} dn rs) [] [] (xW {x with a:=x.a+1}) w':=by
 obtain⟨e1,e2,e3⟩:=XS.j2 (a:=a) h h1
 have:=D3 (k:=k) (bx:=bx) (bm:=bm) (dn:=dn) (rs:=rs) (D:=D) (A:=A) (w:=w) a ok hs
 rw[e1,e2,e3] at this
 exact this
theorem P3(a:Ac)(ok:x.Ok)(h:x.st=false)(h1:¬x.a<x.got.length)(h2:x.fr=0)(hs:SF w D (xH k bx bm x dn rs) A [] (xW x) w):Calls Tryz.prog 240 #[.pointer (some ⟨bx,0,none⟩),.agg ⟨a.cells⟩] w λ e w'=>∃q:Unit,e=.returned (.tuple #[.bool false,.bool false])/\True/\SF w D (xH k bx bm {x with st:=true,nx:=a} dn rs) [] [] (xW {x with st:=true,nx:=a}) w':=by
 obtain⟨e1,e2,e3⟩:=XS.tq (a:=a) h h1 h2
 have:=D3 (k:=k) (bx:=bx) (bm:=bm) (dn:=dn) (rs:=rs) (D:=D) (A:=A) (w:=w) a ok hs
 rw[e1,e2,e3] at this
 exact this
theorem Jz(a:Ac)(ok:x.Ok)(h:x.st=false)(h1:¬x.a<x.got.length)(h2:¬x.fr=0)(hs:SF w D (xH k bx bm x dn rs) A [] (xW x) w):Calls Tryz.prog 240 #[.pointer (some ⟨bx,0,none⟩),.agg ⟨a.cells⟩] w λ e w'=>∃q:Unit,e=.returned (.tuple #[.bool false,.bool true])/\True/\SF w D (xH k bx bm {x with fr:=x.fr-1} dn rs) [] [] (xW {x with fr:=x.fr-1}) w':=by
 obtain⟨e1,e2,e3⟩:=XS.ey (a:=a) h h1 h2
 have:=D3 (k:=k) (bx:=bx) (bm:=bm) (dn:=dn) (rs:=rs) (D:=D) (A:=A) (w:=w) a ok hs
 rw[e1,e2,e3] at this
 exact this
theorem m7(c:Int)(ok:x.Ok)(h:x.st=true)(hs:SF w D (xH k bx bm x dn rs) A [] (xW x) w):Calls Tryz.prog 210 #[.pointer (some ⟨bx,0,none⟩),.int .i64 c] w λ e w'=>∃q:Unit,e=.returned (.int .i64 0)/\True/\SF w D (xH k bx bm x dn rs) [] [] (xW x) w':=by
 refine enter Tryz.func210 Tryz.ntmps210 rfl rfl (cA hs) ?_
 simp only[cD]
 refine cP ?_;refine jA ?_;refine bM ?_;refine aD (cM (hs:=xH k bx bm x dn rs) (os:=xW x) (hc:=λ w hs=>Oe ⟨1,c,0,0⟩ ok h hs)) (λ x11 h11=>?_);refine Lc ?_;refine J8 ?_;refine kX ?_;refine aH ?_
 refine aZ (λ c14=>?_) (λ c14=>?_)
 ·exact nv c14
 ·try (exact absurd (by assumption) (by decide:¬(true=false)))
  refine kK ?_;refine J2 ?_;refine Cb ?_
  (refine aE ?_;refine aA ?_)
  refine Mv ?_;refine aH ?_
  refine aZ (λ c43=>?_) (λ c43=>?_)
  ·try (exact absurd (by assumption) (by decide:¬(true=false)))
   refine cP ?_
   refine aQ Tryz.results210 (λ w hw=>?_)
   exact⟨(),rfl,trivial,hw.aV⟩
  ·exact nv c43
theorem ly(c:Int)(ok:x.Ok)(h:x.st=false)(h1:¬x.a<x.got.length)(h2:x.fr=0)(hs:SF w D (xH k bx bm x dn rs) A [] (xW x) w):Calls Tryz.prog 210 #[.pointer (some ⟨bx,0,none⟩),.int .i64 c] w λ e w'=>∃q:Unit,e=.returned (.int .i64 0)/\True/\SF w D (xH k bx bm {x with st:=true,nx:=⟨1,c,0,0⟩} dn rs) [] [] (xW {x with st:=true,nx:=⟨1,c,0,0⟩}) w':=by
 refine enter Tryz.func210 Tryz.ntmps210 rfl rfl (cA hs) ?_
 simp only[cD]
 refine cP ?_;refine jA ?_;refine bM ?_;refine aD (cM (hs:=xH k bx bm x dn rs) (os:=xW x) (hc:=λ w hs=>P3 ⟨1,c,0,0⟩ ok h h1 h2 hs)) (λ x11 h11=>?_);refine Lc ?_;refine J8 ?_;refine kX ?_;refine aH ?_
 refine aZ (λ c14=>?_) (λ c14=>?_)
 ·exact nv c14
 ·try (exact absurd (by assumption) (by decide:¬(true=false)))
  refine kK ?_;refine J2 ?_;refine Cb ?_
  (refine aE ?_;refine aA ?_)
  refine Mv ?_;refine aH ?_
  refine aZ (λ c43=>?_) (λ c43=>?_)
  ·try (exact absurd (by assumption) (by decide:¬(true=false)))
   refine cP ?_
   refine aQ Tryz.results210 (λ w hw=>?_)
   exact⟨(),rfl,trivial,hw.aV⟩
  ·exact nv c43
theorem Ft(c:Int)(ok:x.Ok)(h:x.st=false)(h1:x.a<x.got.length)(hs:SF w D (xH k bx bm x dn rs) A [] (xW x) w):Calls Tryz.prog 210 #[.pointer (some ⟨bx,0,none⟩),.int .i64 c] w λ e w'=>∃q:Unit,e=.returned (.int .i64 (x.got.getD x.a 0))/\True/\SF w D (xH k bx bm {x with a:=x.a+1} dn rs) [] [] (xW {x with a:=x.a+1}) w':=by
 have hg:=ok.lg
 refine enter Tryz.func210 Tryz.ntmps210 rfl rfl (cA hs) ?_
 simp only[cD]
 refine cP ?_;refine jA ?_;refine bM ?_;refine aD (cM (hs:=xH k bx bm x dn rs) (os:=xW x) (hc:=λ w hs=>Iw ⟨1,c,0,0⟩ ok h h1 hs)) (λ x11 h11=>?_);refine Lc ?_;refine J8 ?_;refine kX ?_;refine aH ?_
 refine aZ (λ c14=>?_) (λ c14=>?_)
 ·exact nv c14
 ·try (exact absurd (by assumption) (by decide:¬(true=false)))
  refine kK ?_;refine J2 ?_;refine Cb ?_
  refine aI ?_
  refine Mv ?_;refine aH ?_
  refine aZ (λ c43=>?_) (λ c43=>?_)
  ·exact nv c43
  ·try (exact absurd (by assumption) (by decide:¬(true=false)))
   refine kK ?_;refine gM [0,1,2,3,4,5,6,7,8,9,10,11] ?_;refine D2 ?_;refine cI (i:=8) (hq:=(jJ (m:=x.a+1) (n:=1) rf rf (by omega) (by omega))) (h:=?_);refine bU (i:=9) (hq:=(dE (m:=x.got.length) (k:=x.a+1-1) (lst:=x.got) rf rf gA fR (.own .head) (by omega) (by omega))) (h:=?_);refine bU (i:=10) (hq:=(eV (q:=x.a+1-1) (lst:=x.got) rf fR (.own .head) (by omega))) (h:=?_);refine J7 ?_
   refine aQ Tryz.results210 (λ w hw=>?_)
   exact⟨(),by rw[Nat.add_sub_cancel];rfl,trivial,hw.aV⟩
theorem cp(c:Int)(hc:c<=9223372036854775807)(ok:x.Ok)(h:x.st=false)(h1:¬x.a<x.got.length)(h2:¬x.fr=0)(hs:SF w D (xH k bx bm x dn rs) A [] (xW x) w):Calls Tryz.prog 210 #[.pointer (some ⟨bx,0,none⟩),.int .i64 c] w λ e w'=>∃q:Option Addr×Nat,e=.returned (.int .i64 (bD x.cs c))/\True/\SF w D (xH k bx bm {x with fr:=x.fr-1,acc:=up x.acc,got:=x.got++[bD x.cs c],pg:=q.1,kg:=q.2,a:=x.a+1} dn rs) [] [] (xW {x with fr:=x.fr-1,acc:=up x.acc,got:=x.got++[bD x.cs c],pg:=q.1,kg:=q.2,a:=x.a+1}) w':=by
 have hg:=ok.lg
 have ha:=ok.la
 have hlc:=ok.lc
 refine enter Tryz.func210 Tryz.ntmps210 rfl rfl (cA hs) ?_
 simp only[cD]
 refine cP ?_;refine jA ?_;refine bM ?_;refine aD (cM (hs:=xH k bx bm x dn rs) (os:=xW x) (hc:=λ w hs=>Jz ⟨1,c,0,0⟩ ok h h1 h2 hs)) (λ x11 h11=>?_);refine Lc ?_;refine J8 ?_;refine kX ?_;refine aH ?_
 refine aZ (λ c14=>?_) (λ c14=>?_)
 ·try (exact absurd (by assumption) (by decide:¬(true=false)))
  refine dZ [(0,[]),(1,[]),(2,[]),(3,[]),(4,[]),(5,[]),(6,[]),(7,[]),(8,[]),(9,[]),(10,[]),(14,[]),(15,[]),(16,[]),(17,[]),(18,[]),(11,[5,17]),(12,[5,17]),(13,[17]),(19,[]),(20,[]),(21,[]),(22,[]),(23,[]),(24,[])] ?_;refine gV ?_;refine D2 ?_;refine W0 ?_;refine cI (i:=18) (hq:=(oK (m:=x.a) (n:=1) rf rf (by omega))) (h:=?_);refine bB (i:=11) (hq:=(cM (hc:=λ w hs=>mx (L:=x.L) (cs:=x.cs) hs c hc (by omega)))) (h:=λ x26 h26=>?_);refine cB (h:=λ x27=>?_);((refine cL (i:=13) (hq:=(bC.eN (sL (l:=x.got) (v:=bD x.cs c) (m:=x.got.length) rf rf .head rfl fin Yd gA (by omega)) uR)) (h:=λ x28=>?_);try (refine eG (λ h28=>?_))));refine J4 ?_;refine kF (i:=21) (hq:=(by exact jE λ _=>eY rf cX wn rf fR rf rf kL)) (h:=λ _=>?_);refine J4 ?_;refine kF (i:=24) (hq:=(by exact jE λ _=>eY rf cX wn rf fR rf rf kL)) (h:=λ _=>?_);refine eJ ?_;refine kX ?_;refine Cb ?_
  (refine aE ?_;refine aA ?_)
  refine Mv ?_;refine aH ?_
  refine aZ (λ c43=>?_) (λ c43=>?_)
  ·exact nv c43
  ·try (exact absurd (by assumption) (by decide:¬(true=false)))
   refine kK ?_;refine gM [0,1,2,3,4,5,6,7,8,9,10,11] ?_;refine D2 ?_;refine cI (i:=8) (hq:=(jJ (m:=x.a+1) (n:=1) rf rf (by omega) (by omega))) (h:=?_);refine bU (i:=9) (hq:=(dE (m:=x.got.length+1) (k:=x.a+1-1) (lst:=x.got++[bD x.cs c]) rf rf gA fR (.own .head) (by omega) (by rw[List.length_append,List.length_cons,List.length_nil];omega))) (h:=?_);refine bU (i:=10) (hq:=(eV (q:=x.a+1-1) (lst:=x.got++[bD x.cs c]) rf fR (.own .head) (by rw[List.length_append,List.length_cons,List.length_nil];omega))) (h:=?_);refine J7 ?_
   refine aQ Tryz.results210 (λ w hw=>?_)
   rw[show x.got.length+1=(x.got++[bD x.cs c]).length by simp] at hw
   exact⟨x28,by rw[show(x.got++[bD x.cs c]).getD (x.a+1-1) 0=bD x.cs c by rw[show x.a+1-1=x.got.length by omega,jC,List.getElem?_append_right (Nat.le_refl _)];simp];rfl,trivial,hw.aV⟩
 ·exact nv c14
end
end

end Go.Proofs.YtbajmaoegmbfgaaGreat
