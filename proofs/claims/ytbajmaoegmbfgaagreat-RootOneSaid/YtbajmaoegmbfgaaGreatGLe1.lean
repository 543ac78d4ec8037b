/- Merged. -/
import Derived.Test.YtbajmaoegmbfgaaGreatGBr6
import Derived.Test.YtbajmaoegmbfgaaGreatGKw7
import Derived.Test.YtbajmaoegmbfgaaGreatGVw2
import Derived.Test.YtbajmaoegmbfgaaGreatGQw1
set_option linter.unusedSimpArgs false
set_option linter.unusedVariables false
namespace Go.Ct
open Go Go.RowKit
section
end
end Go.Ct
namespace Go.Proofs.YtbajmaoegmbfgaaGreat
section
open Go Go.RowKit Go.Ct
end
section
open Go.RowKit Go.Ct
section
variable{H:ByteArray->Nat}{σ:Kw}{i m p g:Int}{w:List Nat}{t:dO}
theorem nz(i0:Inv H σ)(hi:rD σ i w g):∃p,oK σ.mm.nodes σ.mm.cs i=some p/\oO σ p w g:=by
 have hm:=hi.fk i0
 have hc:=i0.jE hm.1
 have hp:=(i0.ce _ hc.1 hc.2.1).prev _ hc.2.2
 have e1:wF σ.mm.nodes σ.mm.cs i=σ.ce (σ.nd i).main:=rfl
 have e2:nZ σ.mm.nodes σ.mm.cs i=σ.ce (σ.nd (σ.ce (σ.nd i).main)).prev:=rfl
 have e3:yK σ.mm.nodes σ.mm.cs i=if(σ.nd (nZ σ.mm.nodes σ.mm.cs i)).kind=7 then(σ.nd (nZ σ.mm.nodes σ.mm.cs i)).bA else nZ σ.mm.nodes σ.mm.cs i:=rfl
 unfold oK
 rw[if_pos ⟨hi.1.1,by rw[e1];exact hm.1⟩]
 have key:∀q,pP σ (σ.ce (σ.nd i).main) q->oO σ q w g:=λ q hq=>by have:=hq.1;rw[hm.2.1] at this;exact this.le hm.2.2
 by_cases h0:nZ σ.mm.nodes σ.mm.cs i=0
 ·rw[if_pos h0,e1]
  exact⟨_,rfl,hm⟩
 ·rw[if_neg h0,e3]
  rw[e2] at h0 ⊢
  rcases hp.2 with h|h|h
  ·exact absurd h h0
  ·have hk:=h.1.1
   rw[if_neg (bZ.ne0 hk).2.1,if_pos hk]
   exact⟨_,rfl,key _ h⟩
  ·rw[if_pos h.1,if_pos h.2.1.1]
   exact⟨_,rfl,key _ h.2⟩
theorem uv(i0:Inv H σ)(hT:bU σ t):∃r,oL σ.mm.nodes σ.mm.cs t.root=some r/\uK σ r []:=by
 have hv:=(jc hT i0).2
 have e:uE σ.mm.nodes σ.mm.cs t.root=if(σ.nd (σ.ce t.root)).kind=8 then(if σ.ce (σ.nd (σ.ce t.root)).status=1 then(σ.nd (σ.ce t.root)).new else(σ.nd (σ.ce t.root)).bA) else σ.ce t.root:=rfl
 have key:∀r,uE σ.mm.nodes σ.mm.cs t.root=r->uK σ r []->∃r,oL σ.mm.nodes σ.mm.cs t.root=some r/\uK σ r []:=λ r er hr=>⟨r,by unfold oL;rw[er];exact if_pos hr.1,hr⟩
 rcases hv with h|h
 ·exact key _ (e.trans (if_neg (by rw[h.1];decide))) h
 ·have hd:=i0.desc h.1
  by_cases hs:σ.ce (σ.nd (σ.ce t.root)).status=1
  ·exact key _ (e.trans ((if_pos h.1).trans (if_pos hs))) hd.2.2.1
  ·exact key _ (e.trans ((if_pos h.1).trans (if_neg hs))) hd.2.1
end
end
section
open Go Go.RowKit Go.Ct
section
variable{L:List aU}{cs:List Int}{gen:Int}{pn pc:Option Addr}{cn cc:Nat}{w:World}
theorem ly(hp:jA L cs gen)(hr:Xa L)(hl:L.length<=274877906944):StB L cs:=by
 have hd:∀x:Int,Ds x L.length->x<=9223372036854775807:=λ x h=>by have:=h.2;omega
 refine⟨λ c=>?_,λ r=>?_,λ r=>?_,λ r=>?_,λ r=>?_,λ r=>?_,λ r=>?_⟩
 ·unfold aY
  split
  ·exact hd _ (hp.cells _ (by omega))
  ·decide
 ·unfold aD
  split
  ·exact hd _ (hp.nodes (r-1).toNat (by omega)).2.2.2.1
  ·decide
 ·unfold aD
  split
  ·exact hd _ (hp.nodes (r-1).toNat (by omega)).2.2.2.2.2
  ·decide
 ·unfold aD
  split
  ·exact(hr _ (gE (by omega))).main
  ·decide
 ·unfold aD
  split
  ·exact(hr _ (gE (by omega))).prev
  ·decide
 ·unfold aD
  split
  ·exact(hr _ (gE (by omega))).status
  ·decide
 ·unfold aD
  split
  ·intro b hb
   obtain⟨i,hi,rfl⟩:=List.mem_iff_getElem.1 hb
   have:=(hp.nodes (r-1).toNat (by omega)).2.2.1 i hi
   rw[jS,List.getElem?_eq_getElem hi] at this
   exact hd _ this
  ·intro b hb
   cases hb
theorem b8(hp:jA L cs gen)(h:rX w L cs pn pc)(hr:Xa L)(hl:L.length<=274877906944)(hc:cs.length<=274877906944)(c:Int)(ro:Bool){r:Int}(ho:oL (L.map aU.c) cs c=some r)(hi:c<=9223372036854775807):Calls Tryz.prog 44 #[Vv L cs gen pn cn pc cc,.agg ⟨[.int .i64 c,.bool ro]⟩] w λ e w'=>e=.returned (.tuple #[.int .i64 r,.bool true])/\St w [] [] w':=by
 refine enter Tryz.func44 Tryz.ntmps44 rfl rfl h.start ?_
 simp only[cE]
 simp only[Vv]
 refine J0 ?_;refine bN (λ x2=>?_);refine bN (λ x3=>?_);refine J8 ?_;refine aR ?_;refine oX ?_;refine aC (c0 (V:=.bool) (hc:=λ w1 hw=>De (h.I2 hw) hr hl hc)) (λ x7 h7=>?_);refine pN ?_
 refine bE (λ c8=>?_) (λ c8=>?_)
 ·rw[h7.2 hp] at c8;cases c8
 ·refine aS ?_;refine oX ?_;refine bO ?_;refine aM (cV (hc:=λ w1 hw=>td (h.I2 hw) (ly hp hr hl) hl hc c ro hi)) (λ x11=>?_);refine J54 ?_;refine J8 ?_
  refine bB Tryz.results44 (λ w hw=>?_)
  exact⟨by rw[ho];rfl,hw.done⟩
theorem Z1(hp:jA L cs gen)(h:rX w L cs pn pc)(hr:Xa L)(hl:L.length<=274877906944)(hc:cs.length<=274877906944)(i:Int){r:Int}(ho:oK (L.map aU.c) cs i=some r)(hi:i<=9223372036854775807):Calls Tryz.prog 31 #[Vv L cs gen pn cn pc cc,.int .i64 i] w λ e w'=>e=.returned (.tuple #[.int .i64 r,.bool true])/\St w [] [] w':=by
 refine enter Tryz.func31 Tryz.ntmps31 rfl rfl h.start ?_
 simp only[cE]
 simp only[Vv]
 refine J0 ?_;refine bN (λ x2=>?_);refine J8 ?_;refine aR ?_;refine oX ?_;refine aC (c0 (V:=.bool) (hc:=λ w1 hw=>De (h.I2 hw) hr hl hc)) (λ x7 h7=>?_);refine pN ?_
 refine bE (λ c8=>?_) (λ c8=>?_)
 ·rw[h7.2 hp] at c8;cases c8
 ·refine aS ?_;refine Dv ?_;refine aM (cV (hc:=λ w1 hw=>uo (h.I2 hw) (ly hp hr hl) hl hc i hi)) (λ x11=>?_);refine J54 ?_;refine J8 ?_
  refine bB Tryz.results31 (λ w hw=>?_)
  exact⟨by rw[ho];rfl,hw.done⟩
end
theorem Td{m B C E:Nat}{W:Wd}(h:En m B C E W){t:dO}(ht:t∈W.ts):∃r p,oL (W.z.L.map aU.c) W.z.cs t.root=some r/\oK (W.z.L.map aU.c) W.z.cs r=some p/\1<=r/\r<=W.z.L.length/\p<=W.z.L.length:=by
 obtain⟨σ,hi⟩:=h.wr.inv
 have i0:=hi.inv
 have e1:σ.mm.nodes=W.z.L.map aU.c:=by rw[hi.mm];rfl
 have e2:σ.mm.cs=W.z.cs:=by rw[hi.mm];rfl
 have hl:σ.len=W.z.L.length:=by show σ.mm.nodes.length=_;rw[e1,List.length_map]
 obtain⟨r,hr,hir⟩:=uv i0 (hi.ts t ht)
 obtain⟨p,hp,hm⟩:=nz i0 (g:=(σ.nd r).gen) ⟨hir,rfl⟩
 rw[e1,e2] at hr hp
 have h1:=hir.in
 have h2:=oO.in hm
 exact⟨r,p,hr,hp,h1.1,by omega,by omega⟩
end
section
open Go Go.RowKit Go.Ct
section
variable{H:ByteArray->Nat}{σ:Kw}{w:List Nat}{m g i:Int}
end
end
section
open Go Go.RowKit Go.Ct
section
variable{L:List aU}{cs:List Int}{gen:Int}{pn pc:Option Addr}{cn cc:Nat}{w:World}
end
end
end Go.Proofs.YtbajmaoegmbfgaaGreat
