/- Tries of worlds: PUT, DROP, SNAPSHOT, FREEZE, CLEAR keep the labels; calls. -/
import Derived.Test.YtadnboagdhcedaaGreatDoorGKw5
import Derived.Test.YtadnboagdhcedaaGreatDoorGEx11
import Derived.Test.YtadnboagdhcedaaGreatDoorGAr9
import Derived.Test.YtadnboagdhcedaaGreatDoorGGa
import Derived.Test.YtadnboagdhcedaaGreatDoorGSh7

set_option linter.unusedSimpArgs false
set_option linter.unusedVariables false
namespace Go.Proofs.YtadnboagdhcedaaGreatDoor
section
open Go.Ct
section
variable{H:ByteArray->Nat}{Q:Rs->Kw->Prop}{σ τ υ:Kw}{i m p g:Int}{w:List Nat}{c:Cl}{h:Nat}
structure Sy(H:ByteArray->Nat)(c:Cl)(h:Nat):Prop where
 sz:c.key.size<=64
 ha:H c.key=h
 hl:h<18446744073709551616
def vz(σ:Kw)(m:Int)(h:Nat)(level:Nat):Prop:=∃b,jT (σ.nd m) (fT h level)=some b/\(σ.nd b).kind=2
theorem Za{p:Prop}(b:Bool):(if b=true then(1:Int) else 0)=0∨(if b=true then(1:Int) else 0)=1∨p:=by cases b;exact .inl rfl;exact .inr (.inl rfl)
def Bm(σ:Kw)(path:List Int)(h:Nat)(g:Int):Prop:=∀k,k<path.length->nJ σ (path.getD k 0) (qX h k) g
theorem Bm.up{path:List Int}(hp:Bm σ path h g)(l:Le σ τ):Bm τ path h g:=λ k hk=>(hp k hk).up l
theorem Bm.snoc{path:List Int}{b:Int}(hp:Bm σ path h g)(hb:nJ σ b (qX h path.length) g):Bm σ (path++[b]) h g:=λ k hk=>by
 rw[List.length_append,List.length_singleton] at hk
 rw[fM]
 by_cases e:k<path.length
 ·rw[List.getElem?_append_left e,<- fM]
  exact hp k e
 ·have:k=path.length:=by omega
  subst this
  simpa using hb
theorem Zm{K:Int->Tr}(i0:Inv H σ)(hK:∀υ,Le σ υ->Inv H υ->υ.mm.gen=σ.mm.gen+1->WT H Q (K (σ.mm.gen+1)) υ):WT H Q (.gen K) σ:=by
 have e:Ext σ ⟨⟨σ.mm.nodes,σ.mm.cs,σ.mm.gen+1⟩,σ.way,σ.gb,σ.ct⟩:=⟨⟨[],by simp⟩,⟨[],by simp⟩,by show σ.mm.gen<=σ.mm.gen+1;omega,λ _ _=>rfl,λ _ _=>rfl,λ _ _=>rfl⟩
 have hp:eD σ.mm.nodes σ.mm.cs (σ.mm.gen+1):=⟨i0.prop.two,by have:=i0.prop.gen0;omega,i0.prop.m0,i0.prop.m1,i0.prop.cells,λ k hk=>⟨(i0.prop.nodes k hk).1,by have:=(i0.prop.nodes k hk).2.1;omega,(i0.prop.nodes k hk).2.2⟩,i0.prop.marks⟩
 have i1:=I2 i0 e hp (λ r h1 h2=>absurd h2 (by simp only[Kw.len] at *;omega)) (λ c h1 h2=>absurd h2 (by simp only[Kw.cl] at *;omega))
 exact⟨_,e.le,i1,rfl,hK _ e.le i1 rfl⟩
theorem Se{r:Int}{K:Int->Tr}(ro:Bool)(i0:Inv H σ)(hr:sA σ r [])(hK:∀υ c,Le σ υ->Inv H υ->0<c->bU υ ⟨c,ro⟩->WT H Q (K c) υ):WT H Q (.cell r K) σ:=by
 have e:Ext σ ⟨⟨σ.mm.nodes,σ.mm.cs++[r],σ.mm.gen⟩,σ.way,σ.gb,λ c=>if c<=σ.cl then σ.ct c else ctR ro⟩:=⟨⟨[],by simp⟩,⟨[r],rfl⟩,Int.le_refl _,λ _ _=>rfl,λ _ _=>rfl,λ c hc=>if_pos hc⟩
 have hcl:(σ.mm.cs++[r]).length=σ.cl+1:=by simp[Kw.cl]
 have hct:(if((σ.cl+1:Nat):Int)<=σ.cl then σ.ct ((σ.cl+1:Nat):Int) else ctR ro)=ctR ro:=if_neg (by omega)
 have hin:=hr.in
 have i1:=I2 i0 e (eD.cell i0.prop ⟨by omega,hin.2⟩) (λ r h1 h2=>absurd h2 (by simp only[Kw.len] at *;omega)) (λ c h1 h2=>by
  simp only[Kw.cl] at h1 h2
  rw[hcl] at h2
  have hc:c=((σ.cl+1:Nat):Int):=by simp only[Kw.cl] at *;omega
  subst hc
  have hv:bV (σ.mm.cs++[r]) ((σ.cl+1:Nat):Int)=r:=by
   unfold bV
   rw[if_pos ⟨by omega,by rw[hcl];exact Int.le_refl _⟩,show(((σ.cl+1:Nat):Int)-1).toNat=σ.mm.cs.length by simp only[Kw.cl];omega]
   simp[fM]
  refine⟨by simp only[Kw.ce,hv];omega,by simp only[Kw.ce,hv];exact hin.2,λ i' k=>?_,λ m k=>?_,λ d k=>?_,λ k=>.inl ?_,λ k=>?_⟩
  ·simp only[hct] at k;cases ro<;>cases k
  ·simp only[hct] at k;cases ro<;>cases k
  ·simp only[hct] at k;cases ro<;>cases k
  ·simp only[Kw.ce,hv];exact hr
  ·simp only[Kw.ce,hv];exact hr)
 refine⟨_,e.le,i1,rfl,hK _ _ e.le i1 (by omega) ⟨by show 1<=((σ.cl+1:Nat):Int);omega,by show((σ.cl+1:Nat):Int)<=((σ.mm.cs++[r]).length:Nat);rw[hcl];exact Int.le_refl _,hct⟩⟩
def Q0(r:Rs)(σ:Kw):Prop:=0<r.root->bU σ ⟨r.root,r.ro⟩
theorem Q0.up{r:Rs}(h:Q0 r σ)(l:Le σ τ):Q0 r τ:=λ h0=>(h h0).up l
theorem sA.Ds(hr:sA σ i w):nJ σ i w (σ.nd i).gen:=⟨hr,rfl⟩
structure Jq(H:ByteArray->Nat)(σ:Kw)(c:Cl)(h:Nat):Prop where
 t:bU σ c.t
 hl:h<18446744073709551616
 ha:H c.key=h
 ro:c.kind=8∨c.kind=9∨c.kind=12∨c.kind=4->c.t.ro=false
 k:(7<=c.kind/\c.kind<=12)∨c.kind=3∨(c.kind=1/\∃w g,nJ σ c.a w g)∨(c.kind=2/\∃w g,nJ σ c.a w g/\mE σ c.n w g)∨(c.kind=4/\sA σ c.a []/\sA σ c.n []/\1<=c.b/\c.b<=σ.len)
theorem Vt(h:refuse c=0)(hk:c.kind=7∨c.kind=8∨c.kind=9):c.key.size<=64:=by
 unfold refuse at h
 split at h
 ·split at h
  ·assumption
  ·cases h
 split at h
 ·split at h
  ·rename_i hx;exact hx.1
  ·cases h
 ·omega
end
end

/- Worlds by what may happen: memories, tries, what is left of the operations. -/
end Go.Proofs.YtadnboagdhcedaaGreatDoor
namespace Go.Ct
section
open Go Go.RowKit
def vc:Mm:=⟨[cN.c,cN.c,cS (({Nd.zero with kind:=3}:Nd).c [] []) 0,cS (({Nd.zero with kind:=2,gen:=1}:Nd).c [] []) 1],[0,3,4],1⟩
end
end Go.Ct
namespace Go.Proofs.YtadnboagdhcedaaGreatDoor
section
open Go Go.RowKit Go.Ct
open Classical in
noncomputable def H8 (m:Nat) (k:ByteArray):Nat:=if k∈jI then kD k m else 18446744073709551616
theorem y8{m h:Nat}{k:ByteArray}(e:H8 m k=h)(hl:h<18446744073709551616):k∈jI/\kD k m=h:=by
 unfold H8 at e
 split at e
 ·exact⟨by assumption,e⟩
 ·omega
inductive WR(H:ByteArray->Nat)(m:Nat):Mm->List eA->List Tr->Prop where
 | new:WR H m vc [⟨3,false⟩] []
 | start {s s':Mm} {ts:List eA} {rs:List Tr} {k:Cl} {n j:Nat} {t':Tr} (h:WR H m s ts rs) (hk:∀σ:Kw,σ.mm=s->Inv H σ->(∀t∈ts,bU σ t)->Jq H σ k (kD k.key m)) (hr:Rc j (lA k (kD k.key m) n) s t' s') (ha:oO t'=true):WR H m s' ts (t'::rs)
 | step {s s':Mm} {ts:List eA} {rs:List Tr} {j:Nat} {t t':Tr} (h:WR H m s ts (t::rs)) (hr:Rc j t s t' s') (ha:oO t'=true):WR H m s' ts (t'::rs)
 | perm {s:Mm} {ts:List eA} {rs rs':List Tr} (h:WR H m s ts rs) (hp:rs.Perm rs'):WR H m s ts rs'
 | drop {s:Mm} {ts:List eA} {rs:List Tr} {r:Rs} (h:WR H m s ts (.done r::rs)):WR H m s ts rs
 | add {s:Mm} {ts:List eA} {rs:List Tr} {r:Rs} (h:WR H m s ts (.done r::rs)) (h0:0<r.root):WR H m s (ts++[⟨r.root,r.ro⟩]) (.done r::rs)
def kw0:Kw:=⟨⟨[cN.c,cN.c],[],0⟩,λ _=>[],λ _=>0,λ _=>.no⟩
theorem tx{r:Int}(h1:1<=r)(h2:r<=2):kw0.nd r=cN.c:=by
 have:r=1∨r=2:=by omega
 rcases this with rfl|rfl<;>rfl
theorem Qs(H:ByteArray->Nat):Inv H kw0:=by
 refine⟨by decide,rfl,rfl,Int.le_refl _,uP (Int.le_refl _),λ r h1 h2=>?_,λ c h1 h2=>?_⟩
 ·have h2':r<=2:=h2
  have e:=tx h1 h2'
  have hok:=Jz (gen:=0) (n:=2) (Int.le_refl _)
  refine⟨by rw[e];exact hok.1,by rw[e];exact Int.le_refl _,by rw[e];exact⟨bF _,bF _,bF _,(λ r hr=>nomatch hr),bF _,bF _,bF _,iG,iG⟩,λ k=>?_,λ k=>?_,λ k=>?_,λ k=>?_,λ k=>?_,λ k=>?_,λ k=>?_⟩<;>rw[e] at k
  ·exact cY (a:=1) (b:=2) k
  ·exact cY (a:=1) (b:=3) k
  ·exact cY (a:=1) (b:=4) k
  ·exact cY (a:=1) (b:=5) k
  ·exact cY (a:=1) (b:=6) k
  ·exact cY (a:=1) (b:=7) k
  ·exact cY (a:=1) (b:=8) k
 ·exact absurd h2 (by show ¬c<=((0:Nat):Int);omega)
def Qr:Tr:=.alloc E3 0 λ c=>.gen λ g=>.alloc (lO g) c λ j=>.cell j λ r=>.done (Gf r false)
theorem Ts{H:ByteArray->Nat}{σ:Kw}(i0:Inv H σ):WT H Q0 Qr σ:=by
 have hg:=i0.gen
 have hnew:jG H σ E3 ([]:List Nat) (σ.mm.gen+1):=lR (b:=0) (xs:=[]) i0 I1 (λ j hj v hv=>by simp[oS] at hv) (by simp) (λ h=>absurd h (by decide))
 refine Lt i0 hnew (pL i0 (λ e=>cY (a:=3) (b:=2) e)) λ ρ e0 cl l3 i4 _ em e1 e2 e3 h1 h2=>?_
 have hem:mE ρ e0 [] (σ.mm.gen+1):=lY (cl:=0) (.inl rfl) e1 e2 e3
 have hgr:ρ.mm.gen=σ.mm.gen:=by rw[em];rfl
 refine Zm i4 λ χ l4 i5 e4=>?_
 exact Zx (g:=ρ.mm.gen+1) i5 (by omega) (by omega) (by simp) (hem.up l4) (by omega) λ ψ j l5 i6 hj=>Se false i6 hj.1 λ ω c l6 i7 h0 hc=>λ _=>hc
theorem Uw:Rc 0 Qr kw0.mm (.done (Gf 3 false)) vc :=
 .tG (.tG (.tG (.tG (Rc.refl _ _) (Sp.alloc _ _ _ _)) (Sp.gen _ _)) (Sp.alloc _ _ _ _)) (Sp.cell _ _ _)
end

/- Shape: what well-formed means, without a program; the tries of worlds are well-formed. -/
end Go.Proofs.YtadnboagdhcedaaGreatDoor
namespace Go.Ct
section
theorem yO(b:Nat):∀k,(jZ b k).length=eM b k
 | 0=>rfl
 | k+1=>by
  simp only[jZ,List.length_append,yO b k,eM]
  split<;>simp_all
theorem Ql{b:Nat}:∀{n j:Nat},j<eM b n->∃k,k<n/\b.testBit k=true/\eM b k=j/\(jZ b n).getD j 0=(k:Int)
 | 0,j,h=>absurd h (by simp[eM])
 | n+1,j,h=>by
  by_cases hj:j<eM b n
  ·obtain⟨k,h1,h2,h3,h4⟩:=Ql hj
   refine⟨k,by omega,h2,h3,?_⟩
   rw[<- h4]
   simp only[jZ]
   rw[fM,fM,List.getElem?_append_left (by rw[yO];exact hj)]
  ·have hb:b.testBit n=true:=by
    cases hb:b.testBit n with
    | true=>rfl
    | false=>simp only[eM,hb] at h;simp at h;omega
   have hj2:eM b n=j:=by simp only[eM,hb] at h;simp at h;omega
   refine⟨n,by omega,hb,hj2,?_⟩
   simp only[jZ,hb,if_true]
   rw[fM,List.getElem?_append_right (by rw[yO];omega),yO,hj2,Nat.sub_self]
   rfl
end
end Go.Ct
namespace Go.Proofs.YtadnboagdhcedaaGreatDoor
section
open Go Go.RowKit Go.Ct
def wK(m:Nat)(h:Int)(k:ByteArray)(w:List Nat):Prop:=((kD k m:Nat):Int)=h/\fV h.toNat w
def oJ(k:Int)(lv:Nat):Prop:=(k=3/\lv<11)∨(k=5/\0<lv)∨(k=6/\lv=11)
def n8(n:Nv)(j:Nat):Nat:=((jZ n.bm.toNat 64).getD j 0).toNat
structure WFn(N:List Nv)(m:Nat)(n:Nv)(w:List Nat):Prop where
 kd:oJ n.kind w.length
 br:n.kind=3->0<w.length->n.xs≠[]/\∀b,n.xs=[b]->(cA N b).kind=2
 h5:n.kind=5->wK m n.hash n.key w
 h6:n.kind=6->∀p∈n.ys,wK m n.hash p.1 w
 h3:n.kind=3->∀j,j<n.xs.length->(cA N (n.xs.getD j 0)).kind=4->wK m (cA N (n.xs.getD j 0)).hash (cA N (n.xs.getD j 0)).key w/\sl (cA N (n.xs.getD j 0)).hash.toNat w.length=n8 n j
def Vw(N:List Nv)(cs:List Int)(m:Nat):Nat->Int->List Nat->Int->Prop
 | 0,_,_,_=>False
 | n+1,i,w,ga=>∃r,eK N cs i=some r/\WFn N m (cA N r) w/\(w=[]∨(cA N i).gen<=ga)/\∀j,j<(cA N r).xs.length->(cA N ((cA N r).xs.getD j 0)).kind=2->Vw N cs m n ((cA N r).xs.getD j 0) (w++[n8 (cA N r) j]) (cA N i).gen
section
variable{m:Nat}{σ:Kw}{w:List Nat}{r i g:Int}
theorem Vd{h k:Nat}(hu:fV h (w++[k])):fV h w/\sl h w.length=k:=by
 constructor
 ·intro j hj
  have:=hu j (by rw[List.length_append];omega)
  rwa [fM,List.getElem?_append_left hj,<- fM] at this
 ·have:=hu w.length (by rw[List.length_append,List.length_singleton];omega)
  rw[fM,List.getElem?_append_right (Nat.le_refl _),Nat.sub_self] at this
  exact this
theorem Jt(i0:Inv (H8 m) σ){x:Int}(hx:1<=x/\x<=σ.len){k:ByteArray}(h:H8 m k=(σ.nd x).hash.toNat):((kD k m:Nat):Int)=(σ.nd x).hash:=by
 obtain⟨b,hb,hlt⟩:=(i0.nd x hx.1 hx.2).bd.hash
 have e:(σ.nd x).hash.toNat=b:=by rw[hb];rfl
 have:=(y8 h (by rw[e];exact hlt)).2
 rw[this,e,hb]
theorem kH.at{b:Nat}{xs:List Int}(hc:kH σ r w g b xs){j:Nat}(hj:j<xs.length):n8 (σ.nd r) j<64/\oS b xs (n8 (σ.nd r) j)=some (xs.getD j 0):=by
 have hl:=hc.bv.len
 obtain⟨k,h1,h2,h3,h4⟩:=Ql (b:=b) (n:=64) (j:=j) (by omega)
 have e:n8 (σ.nd r) j=k:=by unfold n8;rw[hc.bm,h4];rfl
 rw[e]
 exact⟨h1,by unfold oS;rw[if_pos h2,h3]⟩
theorem ra(i0:Inv (H8 m) σ)(hm:mE σ r w g):WFn σ.mm.nodes m (σ.nd r) w:=by
 have hr:=hm.in
 have hn:=i0.nd r hr.1 hr.2
 have hw:=hm.2.1
 refine⟨?_,λ k3 h0=>(hm.lJ i0 k3).ne h0,λ k5=>?_,λ k6 p hp=>?_,λ k3 j hj k4=>?_⟩
 ·rcases hm.1 with h|h|h
  ·exact .inl ⟨h,by have:=(hm.lJ i0 h).wl;omega⟩
  ·have:=hn.k5 h;rw[hw] at this;exact .inr (.inl ⟨h,this.1⟩)
  ·have:=hn.k6 h;rw[hw] at this;exact .inr (.inr ⟨h,this.1⟩)
 ·have:=hn.k5 k5;rw[hw] at this
  exact⟨Jt i0 hr this.2.2.1,this.2.2.2.1⟩
 ·have:=hn.k6 k6;rw[hw] at this
  exact⟨Jt i0 hr (this.2.2.1 p hp),this.2.1⟩
 ·have hc:=hm.lJ i0 k3
  obtain⟨h1,h2⟩:=hc.at hj
  rcases hc.br _ h1 _ h2 with hb|hb
  ·obtain⟨u1,u2⟩:=Vd hb.2
   have hbr:=dD (N:=σ.mm.nodes) (i:=(σ.nd r).xs.getD j 0) (by rw[k4];decide)
   exact⟨⟨Jt i0 hbr ((i0.nd _ hbr.1 hbr.2).k4 hb.1),u1⟩,u2⟩
  ·have:(σ.nd ((σ.nd r).xs.getD j 0)).kind=4:=k4
   omega
theorem Wn(i0:Inv (H8 m) σ):∀(n:Nat) (i:Int) (w:List Nat) (g ga:Int),nJ σ i w g->(w=[]∨g<=ga)->12<=w.length+n->Vw σ.mm.nodes σ.mm.cs m n i w ga
 | 0,i,w,g,ga,hi,_,hn=>by have:=(hi.Ep i0).2.2;omega
 | n+1,i,w,g,ga,hi,hg,hn=>by
  obtain⟨r,hb,hm⟩:=Is i0 hi
  refine⟨r,hb,ra i0 hm,hg.imp id λ h=>by rw[show(cA σ.mm.nodes i).gen=g from hi.2];exact h,λ j hj k2=>?_⟩
  have k3:(σ.nd r).kind=3:=by
   rcases hm.1 with h|h|h
   ·exact h
   ·have hv:=(i0.nd r hm.in.1 hm.in.2).valid
    exact absurd hj (by rw[show(cA σ.mm.nodes r).xs=[] from hv.1.2.2.2.2.1.trans (if_neg (by have h':(σ.nd r).nd.kind=5:=h;rw[h'];decide))];simp)
   ·have hv:=(i0.nd r hm.in.1 hm.in.2).valid
    exact absurd hj (by rw[show(cA σ.mm.nodes r).xs=[] from hv.1.2.2.2.2.1.trans (if_neg (by have h':(σ.nd r).nd.kind=6:=h;rw[h'];decide))];simp)
  have hc:=hm.lJ i0 k3
  obtain⟨h1,h2⟩:=hc.at hj
  rcases hc.br _ h1 _ h2 with hb|hb
  ·have:(σ.nd ((σ.nd r).xs.getD j 0)).kind=2:=k2
   omega
  ·have hig:nJ σ ((σ.nd r).xs.getD j 0) (w++[n8 (σ.nd r) j]) (σ.nd ((σ.nd r).xs.getD j 0)).gen:=⟨⟨hb.1,hb.2.1⟩,rfl⟩
   exact Wn i0 n _ _ _ _ hig (.inr (by rw[show(cA σ.mm.nodes i).gen=g from hi.2];exact hb.2.2)) (by rw[List.length_append,List.length_singleton];omega)
end
end

/- Shape: a trie is well-formed just where all its places are good. -/
end Go.Proofs.YtadnboagdhcedaaGreatDoor
namespace Go.Ct
section
theorem R7(b:Nat):∀n x,x∈jZ b n->0<=x
 | 0,x,h=>nomatch h
 | n+1,x,h=>by
  simp only[jZ] at h
  rcases List.mem_append.1 h with h|h
  ·exact R7 b n x h
  ·split at h
   ·rw[List.mem_singleton.1 h];exact Int.natCast_nonneg _
   ·cases h
theorem K5(b n j:Nat):0<=(jZ b n).getD j 0:=by
 rw[fM]
 cases h:(jZ b n)[j]? with
 | none=>exact Int.le_refl _
 | some x=>exact R7 b n x (List.mem_of_getElem? h)
end
end Go.Ct
namespace Go.Proofs.YtadnboagdhcedaaGreatDoor
section
open Go Go.RowKit Go.Ct
end

/- Shape: what the walk through a trie needs: main nodes all the way down; ways as arrays. -/
end Go.Proofs.YtadnboagdhcedaaGreatDoor
namespace Go.Ct
section
def Nt(N:List Nv)(cs:List Int):Nat->Int->Prop
 | 0,_=>False
 | n+1,i=>∃r,eK N cs i=some r/\∀b∈(cA N r).xs,(cA N b).kind=4∨((cA N b).kind=2/\Nt N cs n b)
def Sf(w:List Nat):List Value:=(List.range 11).map λ k=>.int .i64 ((w.getD k 0:Nat):Int)
theorem mF(w:List Nat):(Sf w).length=11:=by simp[Sf]
theorem Od{w:List Nat}{k:Nat}(hk:k<11):(Sf w)[k]?=some (.int .i64 ((w.getD k 0:Nat):Int)):=by
 unfold Sf
 rw[List.getElem?_map,List.getElem?_range hk]
 rfl
theorem dz{w:List Nat}{k:Nat}(h:w.length<11):(Sf w).set w.length (.int .i64 ((k:Nat):Int))=Sf (w++[k]):=by
 refine List.ext_getElem? λ i=>?_
 by_cases hi:i<11
 ·rw[Od hi,List.getElem?_set]
  split
  ·rename_i e
   subst e
   rw[if_pos (by rw[mF];exact hi),fM,List.getElem?_append_right (Nat.le_refl _),Nat.sub_self]
   rfl
  ·rename_i e
   rw[Od hi]
   by_cases h2:i<w.length
   ·rw[fM,fM,List.getElem?_append_left h2]
   ·rw[fM,fM,List.getElem?_eq_none (by omega),List.getElem?_eq_none (by rw[List.length_append,List.length_singleton];omega)]
 ·rw[List.getElem?_eq_none (by rw[List.length_set,mF];omega),List.getElem?_eq_none (by rw[mF];omega)]
end

/- The program's shape, part 2: what a place must be. -/
section
def Je(lv:Nat)(w:List Nat)(a b c:Nd):List Value:=.int .i64 ((lv:Nat):Int)::(Sf w++(a.cells++(b.cells++c.cells)))
end
end Go.Ct
namespace Go.Proofs.YtadnboagdhcedaaGreatDoor
section
open Go Go.RowKit Go.Ct
set_option maxRecDepth 100000 in
theorem j8(lv:Nat)(u:List Nat)(a b c:Nd)(w:World):Calls Tryz.prog 54 #[.agg ⟨Je lv u a b c⟩] w λ e w'=>∃r:Bool,e=.returned (.bool r)/\(r=true↔oJ b.kind lv)/\St w [] [] w':=by
 refine enter Tryz.func54 Tryz.ntmps54 rfl rfl (SF.s0 w) ?_
 simp only[cP]
 refine J0 ?_;refine bP (λ x1=>?_);refine gP ?_;refine J0 ?_;refine Kb7 ?_;refine Kc3 ?_;refine jC ?_
 refine aZ (λ c6=>?_) (λ c6=>?_)
 ·refine gU ?_;refine Qz ?_;refine J1 ?_
  refine aQ Tryz.results54 (λ w hw=>?_)
  first
  | exact⟨_,rfl,by unfold oJ;simp;omega,hw.done⟩
  | exact⟨_,rfl,by unfold oJ;simp_all;done,hw.done⟩
 ·refine jC ?_
  refine aZ (λ c11=>?_) (λ c11=>?_)
  ·refine gU ?_;refine wE ?_;refine J1 ?_
   refine aQ Tryz.results54 (λ w hw=>?_)
   first
   | exact⟨_,rfl,by unfold oJ;simp;omega,hw.done⟩
   | exact⟨_,rfl,by unfold oJ;simp_all;done,hw.done⟩
  ·refine jC ?_
   refine aZ (λ c16=>?_) (λ c16=>?_)
   ·refine gU ?_;refine Qd ?_
    refine aQ Tryz.results54 (λ w hw=>?_)
    first
    | exact⟨_,rfl,by unfold oJ;simp;omega,hw.done⟩
    | exact⟨_,rfl,by unfold oJ;simp_all;done,hw.done⟩
   ·refine Kb1 ?_
    refine aQ Tryz.results54 (λ w hw=>?_)
    first
    | exact⟨_,rfl,by unfold oJ;simp;omega,hw.done⟩
    | exact⟨_,rfl,by unfold oJ;simp_all;done,hw.done⟩
set_option maxRecDepth 100000 in
theorem ux(lv:Nat)(u:List Nat)(a b c:Nd)(w:World):Calls Tryz.prog 57 #[.agg ⟨Je lv u a b c⟩] w λ e w'=>∃r:Bool,e=.returned (.bool r)/\(r=true↔(lv=0∨a.gen<=c.gen))/\St w [] [] w':=by
 refine enter Tryz.func57 Tryz.ntmps57 rfl rfl (SF.s0 w) ?_
 simp only[cP]
 refine J0 ?_;refine bP (λ x1=>?_);refine J1 ?_;refine gU ?_;refine lH ?_;refine aB ?_
 (refine eF 6 (λ g6=>?_) (λ g6=>?_)<;>refine Ka1 ?_)
 all_goals (refine J6 ?_;refine Ka1 ?_;refine J6 ?_;(first|refine aH ?_|(refine aF ?_;refine Bs ?_));refine Kc8 ?_)
 all_goals
 refine aQ Tryz.results57 (λ w hw=>?_)
 first
 | exact⟨_,rfl,by simp;omega,hw.done⟩
 | exact⟨_,rfl,by simp_all;done,hw.done⟩
end

/- The program's shape, part 3: hash values and their ways. -/
end Go.Proofs.YtadnboagdhcedaaGreatDoor
namespace Go.Ct
section
theorem av{lv y:Nat}{u:List Nat}{a b c:Nd}(hy:y<11):(Je lv u a b c)[1+y]?=some (.int .i64 ((u.getD y 0:Nat):Int)):=by
 unfold Je
 rw[Nat.add_comm 1 y,List.getElem?_cons_succ,List.getElem?_append_left (by rw[mF];exact hy),Od hy]
end
end Go.Ct
namespace Go.Proofs.YtadnboagdhcedaaGreatDoor
section
open Go Go.RowKit Go.Ct
theorem Uy(key:ByteArray){m:Nat}(hm:m<18446744073709551616)(hk:key.size<=4611686018427387903)(w:World):Calls Tryz.prog 99 #[.string key,.int .u64 (m:Int)] w λ e w'=>e=.returned (.int .u64 ((kD key m:Nat):Int))/\St w [] [] w':=by
 refine enter Tryz.func99 Tryz.ntmps99 rfl rfl (SF.s0 w) ?_
 simp only[cP]
 refine cQ ?_;refine Ka7 ?_;refine jO ?_;refine Kb2 ?_
 refine eY [5,6,9,10,11,12,13,14,15,16,17,18,19,20] (λ y:Nat=>[(9,.int .i64 ((y:Nat):Int)),(5,.int .u64 ((wj key y:Nat):Int))]) (λ y=>y<=key.size) (λ y=>key.size-y) (0) (Nat.zero_le _) ?_ (λ y f hx=>?_)
 ·repeat (first|exact bB _|refine aY (by exact rfl) ?_)
 dsimp only[fY,List.map,List.cons_append,List.nil_append]
 refine Kb4 ?_
 refine aZ (λ c10=>?_) (λ c10=>?_)
 ·refine oE ?_;refine J2 ?_;refine sV ?_;refine aB ?_;refine aU (fG (Zs (s:=key) (i:=y) rf rf (by kernel_rfl) (by omega))) (λ x15=>?_);refine aE (Jx (k2:=.u8) rf (by kernel_rfl) (by exact rC rfl) ⟨bF _,by have:=Jb key y;omega⟩) rfl ?_;refine aE (Wz rf rf (Fb _ _) (by have:=Jb key y;omega)) rfl ?_;refine J1 ?_;refine wS ?_;refine aE (Y4 rf rf) rfl ?_;refine J1 ?_;refine eT ?_;refine Ka5 ?_
  refine dO (y+1) ?_ ?_ ?_
  ·omega
  ·repeat' (first|exact bB _|refine aY ?_ ?_)
   all_goals (exact rfl)
  ·omega
 ·refine bI rfl ?_;refine iQ ?_;refine aE (Qc rf rf (Fb _ _) hm) rfl ?_;refine J1 ?_
  refine aQ Tryz.results99 (λ w hw=>?_)
  have hy:y=key.size:=by omega
  subst hy
  exact⟨rfl,hw.done⟩
section
variable{L:List aL}{cs:List Int}{gen:Int}{m:Nat}{pn pc:Option Addr}{cn cc:Nat}{w:World}{D:List Nat}{bk:Nat}
set_option maxRecDepth 100000 in
theorem Ym(hs:SF w D [(bk,jU L cs gen m pn cn pc cc)] (vD L cs pn pc) [] [] w){u:List Nat}{a b c:Nd}{h:Nat}{key:ByteArray}(hm:m<18446744073709551616)(hu:u.length<=11)(hh:h<18446744073709551616)(hk:key.size<=64) :
  Calls Tryz.prog 71 #[.pointer (some ⟨bk,0,none⟩),.agg ⟨Je u.length u a b c⟩,.int .u64 ((h:Nat):Int),.string key] w λ e w'=>∃r:Bool,e=.returned (.bool r)/\(r=true↔wK m ((h:Nat):Int) key u)/\SF w D [(bk,jU L cs gen m pn cn pc cc)] [] [] [] w':=by
 refine enter Tryz.func71 Tryz.ntmps71 rfl rfl hs ?_
 simp only[cP]
 refine J0 ?_;refine bP (λ x5=>?_);refine gP ?_;refine iQ ?_;refine dL ?_;refine J3 ?_;refine aU (cV (hc:=λ w1 hw=>Uy key hm (by omega) w1)) (λ x15=>?_);refine aB ?_;refine Kc0 ?_
 refine aZ (λ c17=>?_) (λ c17=>?_)
 ·try (exfalso;omega)
  refine cQ ?_
  refine aQ Tryz.results71 (λ w hw=>?_)
  refine⟨false,rfl,⟨λ h=>(nomatch h),λ hp=>?_⟩,hw.aT⟩
  exact absurd hp.1 (by exact c17)
 ·try (exfalso;omega)
  refine jM ?_;refine gU ?_;refine Kb2 ?_
  refine eY [8,9,20,21,22,23,24,25,26,27,28,29,30,31] (λ y:Nat=>[(20,.int .i64 ((y:Nat):Int))]) (λ y=>y<=u.length/\∀k,k<y->sl h k=u.getD k 0) (λ y=>u.length-y) (0) (⟨Nat.zero_le _,λ k hk=>absurd hk (Nat.not_lt_zero k)⟩) ?_ (λ y f hx=>?_)
  ·repeat (first|exact bB _|refine aY (by exact rfl) ?_)
  dsimp only[fY,List.map,List.cons_append,List.nil_append]
  refine Kb4 ?_
  refine aZ (λ c21=>?_) (λ c21=>?_)
  ·try (exfalso;omega)
   refine oE ?_;refine J2 ?_;refine gP ?_;refine eG [(0,[]),(1,[]),(3,[]),(4,[]),(5,[]),(6,[]),(2,[5,6]),(7,[])] ?_;refine gN ?_;refine aS ?_;refine aM ?_;refine bH (i:=5) (hq:=(R9 (e:=3) (n:=11) (k:=y) (b:=x5) (o:=1) rf rf (by kernel_rfl) (by kernel_rfl) (by omega))) (h:=?_);refine bH (i:=6) (hq:=(qSF (O7 (off:=1+y) rf dU gA (av (by omega))))) (h:=?_);refine cX (i:=2) (hq:=(cV (hc:=λ w1 hw=>Gn (l:=y) hh (by omega) w1))) (hfire:=(λ _=>by((repeat (first|exact aN.nil|refine aN.cons (by first|exact eR (hq:=R9 (e:=3) (n:=11) (k:=y) (b:=x5) (o:=1) rf rf (by kernel_rfl) (by kernel_rfl) (by omega))|exact eR (hq:=qSF (O7 (off:=1+y) rf dU gA (av (by omega))))) ?_));done))) (h:=λ x25=>?_);refine Hp ?_;refine dW ?_
   refine aZ (λ c30=>?_) (λ c30=>?_)
   ·try (exfalso;omega)
    refine cQ ?_
    refine aQ Tryz.results71 (λ w hw=>?_)
    refine⟨false,rfl,⟨λ h=>(nomatch h),λ hp=>?_⟩,hw.aT⟩
    have h1:=hp.2 y (by omega)
    rw[Int.toNat_natCast] at h1
    exfalso
    omega
   ·try (exfalso;omega)
    refine Kc4 ?_
    refine dO (y+1) ?_ ?_ ?_
    ·omega
    ·repeat' (first|exact bB _|refine aY ?_ ?_)
     exact rfl
    ·exact⟨by omega,λ k hk=>by
     by_cases e:k=y
     ·subst e;omega
     ·exact hx.2 k (by omega)⟩
  ·try (exfalso;omega)
   refine bI rfl ?_;refine cQ ?_
   refine aQ Tryz.results71 (λ w hw=>?_)
   refine⟨true,rfl,⟨λ _=>⟨by first|omega|exact Classical.not_not.1 c17,λ k hk=>?_⟩,λ _=>rfl⟩,hw.aT⟩
   rw[Int.toNat_natCast]
   exact hx.2 k (by omega)
end
end

/- The program's shape, part 4: the branches of a C-node. -/
section
open Go Go.RowKit Go.Ct
section
variable{L:List aL}{cs:List Int}{gen:Int}{m:Nat}{pn pc:Option Addr}{cn cc:Nat}{w:World}{D:List Nat}{bk:Nat}
theorem I6{V:aL}(hV:V∈L):(V.nd.brA,aG V.xs)∈vD L cs pn pc:=List.mem_cons_of_mem _ (List.mem_cons_of_mem _ (List.mem_cons_of_mem _ (kV.2 ⟨V,hV,by simp[aL.fr]⟩)))
theorem qo{V:aL}(hV:V∈L):(V.nd.prA,dF V.ys)∈vD L cs pn pc:=List.mem_cons_of_mem _ (List.mem_cons_of_mem _ (List.mem_cons_of_mem _ (kV.2 ⟨V,hV,by simp[aL.fr]⟩)))
def j2(L:List aL)(V:aL)(lv:Nat):Prop:=V.nd.kind=3->0<lv->V.xs≠[]/\∀b,V.xs=[b]->(aA L b).nd.kind=2
set_option maxRecDepth 100000 in
theorem ti(hs:SF w D [(bk,jU L cs gen m pn cn pc cc)] (vD L cs pn pc) [] [] w){lv:Nat}{u:List Nat}{a c:Nd}{V:aL}(hV:V∈L)(hf:V.Fit)(hx:∀x∈V.xs,1<=x/\x<=L.length)(hl:L.length<=274877906944) :
    Calls Tryz.prog 55 #[.pointer (some ⟨bk,0,none⟩),.agg ⟨Je lv u a V.nd c⟩] w λ e w'=>∃r:Bool,e=.returned (.bool r)/\(r=true↔j2 L V lv)/\SF w D [(bk,jU L cs gen m pn cn pc cc)] [] [] [] w':=by
  have hn:=hf.brN
  have hmem:=I6 (cs:=cs) (pn:=pn) (pc:=pc) hV
  refine enter Tryz.func55 Tryz.ntmps55 rfl rfl hs ?_
  simp only[cP]
  refine J0 ?_;refine bP (λ x3=>?_);refine gP ?_;refine J0 ?_;refine Kb7 ?_;refine jS ?_;refine aB ?_
  (refine eF 9 (λ g9=>?_) (λ g9=>?_)<;>refine Ka1 ?_)
  all_goals (refine n6 ?_;refine aI ?_)
  all_goals
   refine aZ (λ c13=>?_) (λ c13=>?_)
   · all_goals try (exfalso;omega)
     all_goals refine cQ ?_
     all_goals
      refine aQ Tryz.results55 (λ w hw=>?_)
      refine⟨true,rfl,⟨λ _ h3 h0=>?_,λ _=>rfl⟩,hw.aT⟩
      exfalso
      simp_all
      done
   · try exact nv c13
     all_goals (refine jM ?_;refine J0 ?_;refine aD ?_;refine Mx ?_;refine Kc3 ?_;refine jC ?_)
     all_goals
      refine aZ (λ c18=>?_) (λ c18=>?_)
      · try (exfalso;omega)
        refine cQ ?_
        refine aQ Tryz.results55 (λ w hw=>?_)
        refine⟨false,rfl,⟨λ h=>(nomatch h),λ hp=>?_⟩,hw.aT⟩
        exact absurd (List.eq_nil_of_length_eq_zero (show V.xs.length=0 by omega)) (hp (by simp_all) (by simp_all;omega)).1
      · try (exfalso;omega)
        refine jC ?_
        refine aZ (λ c20=>?_) (λ c20=>?_)
        · try (exfalso;omega)
          obtain⟨k,hk,hkl⟩:∃k:Nat,V.xs.getD 0 0=((k+1:Nat):Int)/\k<L.length:=by
           have:=hx (V.xs.getD 0 0) (by rw[fM,List.getElem?_eq_getElem (show 0<V.xs.length by omega)];exact List.getElem_mem _)
           exact⟨(V.xs.getD 0 0-1).toNat,by omega,by omega⟩
          refine J2 ?_;refine Kb7 ?_;refine aE (cB (lst:=V.xs) (k:=0) rf rf fE wn (.bM (vQ.kX hmem)) (by omega) (by omega)) rfl ?_;refine aE (cU (lst:=V.xs) (q:=0) rf wn (.bM (vQ.kX hmem)) (by omega)) rfl ?_;refine aC (cM (V:=λ _:Unit=>(aA L ((k+1:Nat):Int)).nd.v) (hs:=[(bk,jU L cs gen m pn cn pc cc)]) (os:=[]) (hs':=λ _=>[(bk,jU L cs gen m pn cn pc cc)]) (os':=λ _=>[]) (Fc:=λ _=>[]) (A0:=vD L cs pn pc) (hA:=bQ.of λ f hf=>.inr (.inl hf)) (hc:=λ w1 hw=>by rw[hk];exact jN hw hkl hl)) (λ x28 h28=>?_);refine cG ?_;refine Qd ?_
          refine aQ Tryz.results55 (λ w hw=>?_)
          refine⟨_,rfl,⟨λ h _ _=>?_,λ hp=>?_⟩,hw.aT⟩
          · obtain⟨x,hx1⟩:=List.length_eq_one_iff.1 (show V.xs.length=1 by omega)
            refine⟨by rw[hx1];simp,λ b hb=>?_⟩
            rw[hb] at hk
            have hk':b=((k+1:Nat):Int):=hk
            rw[hk']
            simpa using h
          · obtain⟨x,hx1⟩:=List.length_eq_one_iff.1 (show V.xs.length=1 by omega)
            have h2:=(hp (by simp_all) (by simp_all;omega)).2 x hx1
            rw[hx1] at hk
            have hk':x=((k+1:Nat):Int):=hk
            rw[hk'] at h2
            simpa using h2
        · try (exfalso;omega)
          refine Kb1 ?_
          refine aQ Tryz.results55 (λ w hw=>?_)
          refine⟨true,rfl,⟨λ _ _ _=>⟨λ h=>?_,λ b hb=>?_⟩,λ _=>rfl⟩,hw.aT⟩
          · rw[h] at hn;exfalso;simp at hn;omega
          · rw[hb] at hn;exfalso;simp at hn;omega
end
end

/- The program's shape, part 5: the hash values of a main node and of its singles. -/
section
open Go Go.RowKit Go.Ct
structure B6(L:List aL):Prop where
 fit:Fits L
 len:L.length<=274877906944
 hash:∀v∈L,∃h:Nat,v.nd.hash=(h:Int)/\h<18446744073709551616
 bm:∀v∈L,∃b:Nat,v.nd.bm=(b:Int)/\b<18446744073709551616/\(v.nd.kind=3->v.xs.length=eM b 64)/\(v.nd.kind≠3->b=0)
 key:∀v∈L,v.nd.kind=4∨v.nd.kind=5->v.nd.key.size<=64
 ys:∀v∈L,∀p∈v.ys,p.1.size<=64
 br:∀v∈L,∀x∈v.xs,1<=x/\x<=L.length
 no:∀v∈L,v.nd.kind≠3->v.xs=[]
theorem B6.at{L:List aL}(ok:B6 L){V:aL}(hV:V∈L){j:Nat}(hj:j<V.xs.length):∃k:Nat,V.xs.getD j 0=((k+1:Nat):Int)/\k<L.length/\aA L ((k+1:Nat):Int)∈L:=by
 have:=ok.br V hV (V.xs.getD j 0) (by rw[fM,List.getElem?_eq_getElem hj];exact List.getElem_mem _)
 refine⟨(V.xs.getD j 0-1).toNat,by omega,by omega,?_⟩
 rw[fO (by omega)]
 exact eV (by omega)
structure pHs(L:List aL)(m:Nat)(V:aL)(u:List Nat):Prop where
 h5:V.nd.kind=5->wK m V.nd.hash V.nd.key u
 h6:V.nd.kind=6->∀p∈V.ys,wK m V.nd.hash p.1 u
 h3:V.nd.kind=3->∀j,j<V.xs.length->(aA L (V.xs.getD j 0)).nd.kind=4->wK m (aA L (V.xs.getD j 0)).nd.hash (aA L (V.xs.getD j 0)).nd.key u/\sl (aA L (V.xs.getD j 0)).nd.hash.toNat u.length=((jZ V.nd.bm.toNat 64).getD j 0).toNat
theorem Me{P:Nat->Prop}{y:Nat}(h:∀j,j<y->P j)(hy:P y):∀j,j<y+1->P j:=λ j hj=>by
 by_cases e:j=y
 ·rw[e];exact hy
 ·exact h j (by omega)
theorem Tb{l:List Pr}{k:Nat}(h:k<l.length):l.getD k (⟨#[]⟩,0)∈l:=by
 rw[fM,List.getElem?_eq_getElem h];exact List.getElem_mem h
section
variable{L:List aL}{cs:List Int}{gen:Int}{m:Nat}{pn pc:Option Addr}{cn cc:Nat}{w:World}{D:List Nat}{bk:Nat}
theorem En(hs:SF w D [(bk,jU L cs gen m pn cn pc cc)] (vD L cs pn pc) [] [] w){u:List Nat}{a b c:Nd}{h:Nat}{hv:Int}{key:ByteArray}(e:hv=((h:Nat):Int))(hm:m<18446744073709551616)(hu:u.length<=11)(hh:h<18446744073709551616)(hk:key.size<=64) :
  Calls Tryz.prog 71 #[.pointer (some ⟨bk,0,none⟩),.agg ⟨Je u.length u a b c⟩,.int .u64 hv,.string key] w λ e w'=>∃r:Bool,e=.returned (.bool r)/\(r=true↔wK m hv key u)/\SF w D [(bk,jU L cs gen m pn cn pc cc)] [] [] [] w':=by
 subst e
 exact Ym hs hm hu hh hk
set_option maxRecDepth 100000 in
set_option maxHeartbeats 1000000 in
theorem zh(hs:SF w D [(bk,jU L cs gen m pn cn pc cc)] (vD L cs pn pc) [] [] w)(ok:B6 L){u:List Nat}{a c:Nd}{V:aL}(hV:V∈L)(hM:V.nd.kind=3∨V.nd.kind=5∨V.nd.kind=6)(hm:m<18446744073709551616)(hu:u.length<=11)(hu3:V.nd.kind=3->u.length<=10) :
  Calls Tryz.prog 56 #[.pointer (some ⟨bk,0,none⟩),.agg ⟨Je u.length u a V.nd c⟩] w λ e w'=>∃r:Bool,e=.returned (.bool r)/\(r=true↔pHs L m V u)/\SF w D [(bk,jU L cs gen m pn cn pc cc)] [] [] [] w':=by
 have hf:=ok.fit V hV
 have hn:=hf.brN
 have hpn:=hf.prN
 have hps:=hf.prS
 have hl:=ok.len
 obtain⟨h,hh,hhl⟩:=ok.hash V hV
 obtain⟨bt,hbt,hbl,hb3,hb0⟩:=ok.bm V hV
 have hmem:=I6 (cs:=cs) (pn:=pn) (pc:=pc) hV
 have hmep:=qo (cs:=cs) (pn:=pn) (pc:=pc) hV
 have hil:=uY bt 64
 obtain⟨ix,hix⟩:∃ix,ix=jZ bt 64:=⟨_,rfl⟩
 rw[<- hix] at hil
 have hcl:=uG bt 64
 refine enter Tryz.func56 Tryz.ntmps56 rfl rfl hs ?_
 simp only[cP]
 refine J0 ?_;refine bP (λ x3=>?_);refine gP ?_;refine J0 ?_;refine Kb7 ?_;refine Kc3 ?_;refine jC ?_
 refine aZ (λ c13=>?_) (λ c13=>?_)
 ·try (first|contradiction|(exfalso;omega))
  refine Kb0 ?_;refine Kb7 ?_;refine Kb7 ?_;refine aC (cM (V:=.bool) (hs:=[(bk,jU L cs gen m pn cn pc cc)]) (os:=[]) (hs':=λ _=>[(bk,jU L cs gen m pn cn pc cc)]) (os':=λ _=>[]) (Fc:=λ _=>[]) (A0:=vD L cs pn pc) (hA:=bQ.of λ f hf=>.inr (.inl hf)) (hc:=λ w1 hw=>En hw hh hm hu hhl (ok.key V hV (.inr c13)))) (λ x23 h23=>?_);refine J1 ?_
  refine aQ Tryz.results56 (λ w hw=>?_)
  exact⟨x23,rfl,⟨λ e=>⟨λ _=>h23.1 e,λ h6=>absurd h6 (by omega),λ h3=>absurd h3 (by omega)⟩,λ e=>h23.2 (e.h5 c13)⟩,hw.aT⟩
 ·try (first|contradiction|(exfalso;omega))
  refine jC ?_
  refine aZ (λ c24=>?_) (λ c24=>?_)
  ·try (first|contradiction|(exfalso;omega))
   refine aR ?_;refine J0 ?_;refine aD ?_;refine Mx ?_;refine Kb2 ?_
   refine eY [4,6,30,31,32,33,34,35,36,37,38,39,40,41,42,43] (λ y:Nat=>[(30,.int .i64 ((y:Nat):Int))]) (λ y=>y<=V.ys.length/\∀j,j<y->wK m V.nd.hash (V.ys.getD j (⟨#[]⟩,0)).1 u) (λ y=>V.ys.length-y) (0) (⟨Nat.zero_le _,λ k hk=>absurd hk (Nat.not_lt_zero k)⟩) ?_ (λ y f hx=>?_)
   ·repeat (first|exact bB _|refine aY (by exact rfl) ?_)
   dsimp only[fY,List.map,List.cons_append,List.nil_append]
   refine Kb4 ?_
   refine aZ (λ c31=>?_) (λ c31=>?_)
   ·try (first|contradiction|(exfalso;omega))
    refine Kc9 ?_;refine aE (yU (lst:=V.ys) (k:=y) rf rf fE fX (.bM (vQ.kX hmep)) (by omega) (by omega)) rfl ?_;refine aE (Sv (lst:=V.ys) (q:=y) rf fX (.bM (vQ.kX hmep)) (by omega)) rfl ?_;refine aP (λ x6=>?_);refine J5 ?_;refine Kb0 ?_;refine Kb7 ?_;refine J3 ?_;refine aC (cM (V:=.bool) (hs:=[(bk,jU L cs gen m pn cn pc cc)]) (os:=[]) (hs':=λ _=>[(bk,jU L cs gen m pn cn pc cc)]) (os':=λ _=>[]) (Fc:=λ _=>[]) (A0:=vD L cs pn pc) (hA:=bQ.of λ f hf=>.inr (.inl hf)) (hc:=λ w1 hw=>En hw hh hm hu hhl (ok.ys V hV _ (Tb (by omega))))) (λ x41 h41=>?_);refine mS ?_
    refine aZ (λ c42=>?_) (λ c42=>?_)
    ·try (first|contradiction|(exfalso;omega))
     refine cQ ?_
     refine aQ Tryz.results56 (λ w hw=>?_)
     refine⟨false,rfl,⟨λ h=>(nomatch h),λ hp=>?_⟩,hw.aT⟩
     have:=h41.2 (hp.h6 c24 _ (Tb (by omega)))
     simp_all
    ·try (first|contradiction|(exfalso;omega))
     refine Kc4 ?_
     refine dO (y+1) ?_ ?_ ?_
     ·omega
     ·repeat' (first|exact bB _|refine aY ?_ ?_)
      exact rfl
     ·exact⟨by omega,Me hx.2 (h41.1 (by(simpa using c42;done)))⟩
   ·try (first|contradiction|(exfalso;omega))
    refine bI rfl ?_;refine cQ ?_
    refine aQ Tryz.results56 (λ w hw=>?_)
    refine⟨true,rfl,⟨λ _=>⟨λ h5=>absurd h5 (by omega),λ _ p hp=>?_,λ h3=>absurd h3 (by omega)⟩,λ _=>rfl⟩,hw.aT⟩
    obtain⟨j,hj,rfl⟩:=List.mem_iff_getElem.1 hp
    have:=hx.2 j (by omega)
    rwa [fM,List.getElem?_eq_getElem hj] at this
  ·try (first|contradiction|(exfalso;omega))
   have hk3:V.nd.kind=3:=by omega
   have hxl:=hb3 hk3
   refine lM ?_;refine aR ?_;refine J0 ?_;refine Kb7 ?_;refine aC (cF (hc:=λ w1 hw=>by rw[hbt];have:=A2 hbl (hw.cl (.bM (.tail (.tail .head))));rw[<- hix] at this;exact this)) (λ x47 h47=>?_);refine Kb8 ?_
   refine lE [4,7,8,9,49,50,51,52,53,54,55,56,57,58,59,60,61,62,63,64,65,66,67,68,69,70,71,72,73,74,75,76,77,78,79,80,81,82] (λ y:Nat=>[(49,.int .i64 ((y:Nat):Int))]) (λ y=>y<=ix.length/\∀j,j<y->(aA L (V.xs.getD j 0)).nd.kind=4->wK m (aA L (V.xs.getD j 0)).nd.hash (aA L (V.xs.getD j 0)).nd.key u/\sl (aA L (V.xs.getD j 0)).nd.hash.toNat u.length=(ix.getD j 0).toNat) (λ _=>_) (λ _=>[(x47.1,aG ix)]) (λ _=>_) (λ y=>ix.length-y) (0) (⟨Nat.zero_le _,λ k hk=>absurd hk (Nat.not_lt_zero k)⟩) (λ y f hx=>?_) (hw0:=λ w hw=>hw)
   dsimp only[fY,List.map,List.cons_append,List.nil_append]
   refine Kb4 ?_
   refine aZ (λ c50=>?_) (λ c50=>?_)
   ·try (first|contradiction|(exfalso;omega))
    have hyl:y<V.xs.length:=by omega
    obtain⟨k,hk,hkl,hkm⟩:=ok.at hV (j:=y) hyl
    obtain⟨h2,hh2,hh2l⟩:=ok.hash _ hkm
    have hixy:0<=ix.getD y 0:=by rw[hix];exact K5 _ _ _
    refine oE ?_;refine J2 ?_;refine aE (cB (lst:=ix) (k:=y) rf rf fE wn (.new .head) (by omega) (by omega)) rfl ?_;refine aE (cU (lst:=ix) (q:=y) rf wn (.new .head) (by omega)) rfl ?_;refine J8 ?_;refine J2 ?_;refine Kb7 ?_;refine aB ?_;refine aE (cB (lst:=V.xs) (k:=y) rf rf fE wn (.bM (vQ.kX hmem)) (by omega) (by omega)) rfl ?_;refine aE (cU (lst:=V.xs) (q:=y) rf wn (.bM (vQ.kX hmem)) (by omega)) rfl ?_;refine aC (cM (V:=λ _:Unit=>(aA L ((k+1:Nat):Int)).nd.v) (hs:=[(bk,jU L cs gen m pn cn pc cc)]) (os:=[]) (hs':=λ _=>[(bk,jU L cs gen m pn cn pc cc)]) (os':=λ _=>[]) (Fc:=λ _=>[]) (A0:=vD L cs pn pc) (hA:=bQ.of λ f hf=>.inr (.inl hf)) (hc:=λ w1 hw=>by rw[hk];exact jN hw hkl hl)) (λ x61 h61=>?_);refine aP (λ x9=>?_);refine J5 ?_;refine An ?_;refine Kc0 ?_
    refine aZ (λ c64=>?_) (λ c64=>?_)
    ·try (first|contradiction|(exfalso;omega))
     refine bI rfl ?_;refine Ka5 ?_
     refine gC (y+1) ?_ (hw1:=λ w hw=>hw.v6)
     ·exact⟨by omega,Me hx.2 (λ h4=>by rw[hk] at h4 ⊢;exact absurd h4 c64)⟩
    ·try (first|contradiction|(exfalso;omega))
     refine bA ?_;refine Kb0 ?_;refine Kc6 ?_;refine aC (cM (V:=.bool) (hs:=[(bk,jU L cs gen m pn cn pc cc)]) (os:=[]) (hs':=λ _=>[(bk,jU L cs gen m pn cn pc cc)]) (os':=λ _=>[]) (Fc:=λ _=>[]) (A0:=vD L cs pn pc) (hA:=bQ.of λ f hf=>.inr (.inl hf)) (hc:=λ w1 hw=>En hw hh2 hm hu hh2l (ok.key _ hkm (.inl (by exact c64))))) (λ x71 h71=>?_);refine C4 ?_
     (refine eF 73 (λ g73=>?_) (λ g73=>?_)<;>refine Ka1 ?_)
     all_goals (refine zI ?_;(first|refine aH ?_|(refine aF ?_;refine aU (cV (v:=.int .i64 ((sl h2 u.length:Nat):Int)) (hc:=λ w1 hw=>by rw[hh2];exact Gn hh2l (hu3 hk3) w1)) (λ x78=>?_)));refine Ka0 ?_;refine Ua ?_;refine aI ?_)
     all_goals
     refine aZ (λ c81=>?_) (λ c81=>?_)
     ·all_goals try (first|contradiction|(exfalso;omega))
      all_goals refine cQ ?_
      all_goals
       refine aQ Tryz.results56 (λ w hw=>?_)
       refine⟨false,rfl,⟨λ h=>(nomatch h),λ hp=>?_⟩,hw.aT⟩
       have h9:=hp.h3 hk3 y hyl
       rw[hk,show V.nd.bm.toNat=bt by omega,<- hix] at h9
       have h10:=h9 (by exact c64)
       have h11:=h71.2 h10.1
       have h12:=h10.2
       rw[hh2,Int.toNat_natCast] at h12
       exfalso
       first
       | (simp_all;done)
       | omega
     ·try exact nv c81
      all_goals (refine Kc4 ?_)
      all_goals
       refine gC (y+1) ?_ (hw1:=λ w hw=>hw.v6)
       ·exact⟨by omega,Me hx.2 (λ h4=>by rw[hk] at h4 ⊢;(exact⟨h71.1 (by(simpa using g73;done)),by rw[hh2,Int.toNat_natCast];omega⟩))⟩
   ·try (first|contradiction|(exfalso;omega))
    refine bI rfl ?_;refine cQ ?_
    refine aQ Tryz.results56 (λ w hw=>?_)
    refine⟨true,rfl,⟨λ _=>⟨λ h5=>absurd h5 (by omega),λ h6=>absurd h6 (by omega),λ _ j hj h4=>?_⟩,λ _=>rfl⟩,hw.aT⟩
    rw[show V.nd.bm.toNat=bt by omega,<- hix]
    exact hx.2 j (by omega) h4
end
end

end Go.Proofs.YtadnboagdhcedaaGreatDoor
