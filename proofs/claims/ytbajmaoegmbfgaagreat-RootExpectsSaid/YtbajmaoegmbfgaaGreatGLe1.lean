/- The order of keys. -/
import Derived.Test.YtbajmaoegmbfgaaGreatGBr6
import Derived.Test.YtbajmaoegmbfgaaGreatGKw7
import Derived.Test.YtbajmaoegmbfgaaGreatGVw2
import Derived.Test.YtbajmaoegmbfgaaGreatGQw1

set_option linter.unusedSimpArgs false
set_option linter.unusedVariables false
namespace Go.Ct
section
open Go Go.RowKit
end
end Go.Ct
namespace Go.Proofs.YtbajmaoegmbfgaaGreat
section
open Go Go.RowKit Go.Ct
end

/- Tries that keep the labels: their I-nodes and their contents. -/
section
open Go.RowKit Go.Ct
section
variable{H:ByteArray->Nat}{σ:Kw}{i m p g:Int}{w:List Nat}{t:dM}
theorem lx(i0:Inv H σ)(hi:qD σ i w g):∃p,nI σ.mm.nodes σ.mm.cs i=some p/\nX σ p w g:=by
 have hm:=hi.a9 i0
 have hc:=i0.iU hm.1
 have hp:=(i0.ce _ hc.1 hc.2.1).prev _ hc.2.2
 have e1:vL σ.mm.nodes σ.mm.cs i=σ.ce (σ.nd i).main:=rfl
 have e2:nR σ.mm.nodes σ.mm.cs i=σ.ce (σ.nd (σ.ce (σ.nd i).main)).prev:=rfl
 have e3:xZ σ.mm.nodes σ.mm.cs i=if(σ.nd (nR σ.mm.nodes σ.mm.cs i)).kind=7 then(σ.nd (nR σ.mm.nodes σ.mm.cs i)).aZ else nR σ.mm.nodes σ.mm.cs i:=rfl
 unfold nI
 rw[if_pos ⟨hi.1.1,by rw[e1];exact hm.1⟩]
 have key:∀q,pG σ (σ.ce (σ.nd i).main) q->nX σ q w g:=λ q hq=>by have:=hq.1;rw[hm.2.1] at this;exact this.le hm.2.2
 by_cases h0:nR σ.mm.nodes σ.mm.cs i=0
 ·rw[if_pos h0,e1]
  exact⟨_,rfl,hm⟩
 ·rw[if_neg h0,e3]
  rw[e2] at h0 ⊢
  rcases hp.2 with h|h|h
  ·exact absurd h h0
  ·have hk:=h.1.1
   rw[if_neg (bX.ne0 hk).2.1,if_pos hk]
   exact⟨_,rfl,key _ h⟩
  ·rw[if_pos h.1,if_pos h.2.1.1]
   exact⟨_,rfl,key _ h.2⟩
theorem mg(i0:Inv H σ)(hT:bT σ t):∃r,nT σ.mm.nodes σ.mm.cs t.root=some r/\tX σ r []:=by
 have hv:=(Y7 hT i0).2
 have e:tV σ.mm.nodes σ.mm.cs t.root=if(σ.nd (σ.ce t.root)).kind=8 then(if σ.ce (σ.nd (σ.ce t.root)).status=1 then(σ.nd (σ.ce t.root)).new else(σ.nd (σ.ce t.root)).aZ) else σ.ce t.root:=rfl
 have key:∀r,tV σ.mm.nodes σ.mm.cs t.root=r->tX σ r []->∃r,nT σ.mm.nodes σ.mm.cs t.root=some r/\tX σ r []:=λ r er hr=>⟨r,by unfold nT;rw[er];exact if_pos hr.1,hr⟩
 rcases hv with h|h
 ·exact key _ (e.trans (if_neg (by rw[h.1];decide))) h
 ·have hd:=i0.desc h.1
  by_cases hs:σ.ce (σ.nd (σ.ce t.root)).status=1
  ·exact key _ (e.trans ((if_pos h.1).trans (if_pos hs))) hd.2.2.1
  ·exact key _ (e.trans ((if_pos h.1).trans (if_neg hs))) hd.2.1
end
end

/- The reference of views: the root of a trie, the main node of an I-node, in a proper state. -/
section
open Go Go.RowKit Go.Ct
section
variable{L:List aU}{cs:List Int}{gen:Int}{pn pc:Option Addr}{cn cc:Nat}{w:World}
theorem Yl(hp:iO L cs gen)(hr:Vm L)(hl:L.length<=274877906944):StB L cs:=by
 have hd:∀x:Int,Db x L.length->x<=9223372036854775807:=λ x h=>by have:=h.2;omega
 refine⟨λ c=>?_,λ r=>?_,λ r=>?_,λ r=>?_,λ r=>?_,λ r=>?_,λ r=>?_⟩
 ·unfold aQ
  split
  ·exact hd _ (hp.cells _ (by omega))
  ·decide
 ·unfold aC
  split
  ·exact hd _ (hp.nodes (r-1).toNat (by omega)).2.2.2.1
  ·decide
 ·unfold aC
  split
  ·exact hd _ (hp.nodes (r-1).toNat (by omega)).2.2.2.2.2
  ·decide
 ·unfold aC
  split
  ·exact(hr _ (fX (by omega))).main
  ·decide
 ·unfold aC
  split
  ·exact(hr _ (fX (by omega))).prev
  ·decide
 ·unfold aC
  split
  ·exact(hr _ (fX (by omega))).status
  ·decide
 ·unfold aC
  split
  ·intro b hb
   obtain⟨i,hi,rfl⟩:=List.mem_iff_getElem.1 hb
   have:=(hp.nodes (r-1).toNat (by omega)).2.2.1 i hi
   rw[jK,List.getElem?_eq_getElem hi] at this
   exact hd _ this
  ·intro b hb
   cases hb
theorem Zy(hp:iO L cs gen)(h:rU w L cs pn pc)(hr:Vm L)(hl:L.length<=274877906944)(hc:cs.length<=274877906944)(c:Int)(ro:Bool){r:Int}(ho:nT (L.map aU.c) cs c=some r)(hi:c<=9223372036854775807):Calls Tryz.prog 44 #[Un L cs gen pn cn pc cc,.agg ⟨[.int .i64 c,.bool ro]⟩] w λ e w'=>e=.returned (.tuple #[.int .i64 r,.bool true])/\St w [] [] w':=by
 refine enter Tryz.func44 Tryz.ntmps44 rfl rfl h.start ?_
 simp only[cD]
 simp only[Un]
 refine J0 ?_;refine bO (λ x2=>?_);refine bO (λ x3=>?_);refine J8 ?_;refine aR ?_;refine oI ?_;refine aD (c0 (V:=.bool) (hc:=λ w1 hw=>C6 (h.Jr hw) hr hl hc)) (λ x7 h7=>?_);refine pD ?_
 refine bC (λ c8=>?_) (λ c8=>?_)
 ·rw[h7.2 hp] at c8;cases c8
 ·refine aV ?_;refine oI ?_;refine bP ?_;refine aM (cV (hc:=λ w1 hw=>mw (h.Jr hw) (Yl hp hr hl) hl hc c ro hi)) (λ x11=>?_);refine J54 ?_;refine J8 ?_
  refine bA Tryz.results44 (λ w hw=>?_)
  exact⟨by rw[ho];rfl,hw.done⟩
theorem jn(hp:iO L cs gen)(h:rU w L cs pn pc)(hr:Vm L)(hl:L.length<=274877906944)(hc:cs.length<=274877906944)(i:Int){r:Int}(ho:nI (L.map aU.c) cs i=some r)(hi:i<=9223372036854775807):Calls Tryz.prog 31 #[Un L cs gen pn cn pc cc,.int .i64 i] w λ e w'=>e=.returned (.tuple #[.int .i64 r,.bool true])/\St w [] [] w':=by
 refine enter Tryz.func31 Tryz.ntmps31 rfl rfl h.start ?_
 simp only[cD]
 simp only[Un]
 refine J0 ?_;refine bO (λ x2=>?_);refine J8 ?_;refine aR ?_;refine oI ?_;refine aD (c0 (V:=.bool) (hc:=λ w1 hw=>C6 (h.Jr hw) hr hl hc)) (λ x7 h7=>?_);refine pD ?_
 refine bC (λ c8=>?_) (λ c8=>?_)
 ·rw[h7.2 hp] at c8;cases c8
 ·refine aV ?_;refine Dd ?_;refine aM (cV (hc:=λ w1 hw=>kw (h.Jr hw) (Yl hp hr hl) hl hc i hi)) (λ x11=>?_);refine J54 ?_;refine J8 ?_
  refine bA Tryz.results31 (λ w hw=>?_)
  exact⟨by rw[ho];rfl,hw.done⟩
end
theorem Q3{m B C E:Nat}{W:Wd}(h:D3 m B C E W){t:dM}(ht:t∈W.ts):∃r p,nT (W.z.L.map aU.c) W.z.cs t.root=some r/\nI (W.z.L.map aU.c) W.z.cs r=some p/\1<=r/\r<=W.z.L.length/\p<=W.z.L.length:=by
 obtain⟨σ,hi⟩:=h.wr.inv
 have i0:=hi.inv
 have e1:σ.mm.nodes=W.z.L.map aU.c:=by rw[hi.mm];rfl
 have e2:σ.mm.cs=W.z.cs:=by rw[hi.mm];rfl
 have hl:σ.len=W.z.L.length:=by show σ.mm.nodes.length=_;rw[e1,List.length_map]
 obtain⟨r,hr,hir⟩:=mg i0 (hi.ts t ht)
 obtain⟨p,hp,hm⟩:=lx i0 (g:=(σ.nd r).gen) ⟨hir,rfl⟩
 rw[e1,e2] at hr hp
 have h1:=hir.in
 have h2:=nX.in hm
 exact⟨r,p,hr,hp,h1.1,by omega,by omega⟩
end

/- Places of a trie of a world: there are some, each is an I-node with its main node. -/
section
open Go Go.RowKit Go.Ct
section
variable{H:ByteArray->Nat}{σ:Kw}{w:List Nat}{m g i:Int}
end
end

/- The reference of views: the places of a trie in a proper state; a place of a world. -/
section
open Go Go.RowKit Go.Ct
section
variable{L:List aU}{cs:List Int}{gen:Int}{pn pc:Option Addr}{cn cc:Nat}{w:World}
end
end

end Go.Proofs.YtbajmaoegmbfgaaGreat
