/- Tries of worlds: PUT, DROP, SNAPSHOT, FREEZE, CLEAR keep the labels; calls. -/
import Derived.Test.YtadnboagdhcedaaGreatDoorGKw5
import Derived.Test.YtadnboagdhcedaaGreatDoorGEx11
import Derived.Test.YtadnboagdhcedaaGreatDoorGAr7
import Derived.Test.YtadnboagdhcedaaGreatDoorGGa
import Derived.Test.YtadnboagdhcedaaGreatDoorGSh7

set_option linter.unusedSimpArgs false
set_option linter.unusedVariables false
namespace Go.Proofs.YtadnboagdhcedaaGreatDoor
section
open Go.Ct
section
variable{H:ByteArray->Nat}{Q:Rs->Kw->Prop}{σ τ υ:Kw}{i m p g:Int}{w:List Nat}{c:Cl}{h:Nat}
structure Qr(H:ByteArray->Nat)(c:Cl)(h:Nat):Prop where
 sz:c.key.size<=64
 ha:H c.key=h
 hl:h<18446744073709551616
def qh(σ:Kw)(m:Int)(h:Nat)(level:Nat):Prop:=∃b,jF (σ.nd m) (fM h level)=some b/\(σ.nd b).kind=2
theorem Zk{p:Prop}(b:Bool):(if b=true then(1:Int) else 0)=0∨(if b=true then(1:Int) else 0)=1∨p:=by cases b;exact .inl rfl;exact .inr (.inl rfl)
def Ag(σ:Kw)(path:List Int)(h:Nat)(g:Int):Prop:=∀k,k<path.length->mU σ (path.getD k 0) (rE h k) g
theorem Ag.up{path:List Int}(hp:Ag σ path h g)(l:Le σ τ):Ag τ path h g:=λ k hk=>(hp k hk).up l
theorem Ag.snoc{path:List Int}{b:Int}(hp:Ag σ path h g)(hb:mU σ b (rE h path.length) g):Ag σ (path++[b]) h g:=λ k hk=>by
 rw[List.length_append,List.length_singleton] at hk
 rw[fQ]
 by_cases e:k<path.length
 ·rw[List.getElem?_append_left e,<- fQ]
  exact hp k e
 ·have:k=path.length:=by omega
  subst this
  simpa using hb
theorem U4{K:Int->Tr}(i0:Inv H σ)(hK:∀υ,Le σ υ->Inv H υ->υ.mm.gen=σ.mm.gen+1->WT H Q (K (σ.mm.gen+1)) υ):WT H Q (.gen K) σ:=by
 have e:Ext σ ⟨⟨σ.mm.nodes,σ.mm.cs,σ.mm.gen+1⟩,σ.way,σ.gb,σ.ct⟩:=⟨⟨[],by simp⟩,⟨[],by simp⟩,by show σ.mm.gen<=σ.mm.gen+1;omega,λ _ _=>rfl,λ _ _=>rfl,λ _ _=>rfl⟩
 have hp:dX σ.mm.nodes σ.mm.cs (σ.mm.gen+1):=⟨i0.prop.two,by have:=i0.prop.gen0;omega,i0.prop.m0,i0.prop.m1,i0.prop.cells,λ k hk=>⟨(i0.prop.nodes k hk).1,by have:=(i0.prop.nodes k hk).2.1;omega,(i0.prop.nodes k hk).2.2⟩,i0.prop.marks⟩
 have i1:=Ih i0 e hp (λ r h1 h2=>absurd h2 (by simp only[Kw.len] at *;omega)) (λ c h1 h2=>absurd h2 (by simp only[Kw.cl] at *;omega))
 exact⟨_,e.le,i1,rfl,hK _ e.le i1 rfl⟩
theorem Rr{r:Int}{K:Int->Tr}(ro:Bool)(i0:Inv H σ)(hr:rI σ r [])(hK:∀υ c,Le σ υ->Inv H υ->0<c->bR υ ⟨c,ro⟩->WT H Q (K c) υ):WT H Q (.cell r K) σ:=by
 have e:Ext σ ⟨⟨σ.mm.nodes,σ.mm.cs++[r],σ.mm.gen⟩,σ.way,σ.gb,λ c=>if c<=σ.cl then σ.ct c else w9 ro⟩:=⟨⟨[],by simp⟩,⟨[r],rfl⟩,Int.le_refl _,λ _ _=>rfl,λ _ _=>rfl,λ c hc=>if_pos hc⟩
 have hcl:(σ.mm.cs++[r]).length=σ.cl+1:=by simp[Kw.cl]
 have hct:(if((σ.cl+1:Nat):Int)<=σ.cl then σ.ct ((σ.cl+1:Nat):Int) else w9 ro)=w9 ro:=if_neg (by omega)
 have hin:=hr.in
 have i1:=Ih i0 e (dX.cell i0.prop ⟨by omega,hin.2⟩) (λ r h1 h2=>absurd h2 (by simp only[Kw.len] at *;omega)) (λ c h1 h2=>by
  simp only[Kw.cl] at h1 h2
  rw[hcl] at h2
  have hc:c=((σ.cl+1:Nat):Int):=by simp only[Kw.cl] at *;omega
  subst hc
  have hv:bW (σ.mm.cs++[r]) ((σ.cl+1:Nat):Int)=r:=by
   unfold bW
   rw[if_pos ⟨by omega,by rw[hcl];exact Int.le_refl _⟩,show(((σ.cl+1:Nat):Int)-1).toNat=σ.mm.cs.length by simp only[Kw.cl];omega]
   simp[fQ]
  refine⟨by simp only[Kw.ce,hv];omega,by simp only[Kw.ce,hv];exact hin.2,λ i' k=>?_,λ m k=>?_,λ d k=>?_,λ k=>.inl ?_,λ k=>?_⟩
  ·simp only[hct] at k;cases ro<;>cases k
  ·simp only[hct] at k;cases ro<;>cases k
  ·simp only[hct] at k;cases ro<;>cases k
  ·simp only[Kw.ce,hv];exact hr
  ·simp only[Kw.ce,hv];exact hr)
 refine⟨_,e.le,i1,rfl,hK _ _ e.le i1 (by omega) ⟨by show 1<=((σ.cl+1:Nat):Int);omega,by show((σ.cl+1:Nat):Int)<=((σ.mm.cs++[r]).length:Nat);rw[hcl];exact Int.le_refl _,hct⟩⟩
def Q0(r:Rs)(σ:Kw):Prop:=0<r.root->bR σ ⟨r.root,r.ro⟩
theorem Q0.up{r:Rs}(h:Q0 r σ)(l:Le σ τ):Q0 r τ:=λ h0=>(h h0).up l
theorem rI.B4(hr:rI σ i w):mU σ i w (σ.nd i).gen:=⟨hr,rfl⟩
structure Gy(H:ByteArray->Nat)(σ:Kw)(c:Cl)(h:Nat):Prop where
 t:bR σ c.t
 hl:h<18446744073709551616
 ha:H c.key=h
 ro:c.kind=8∨c.kind=9∨c.kind=12∨c.kind=4->c.t.ro=false
 k:(7<=c.kind/\c.kind<=12)∨c.kind=3∨(c.kind=1/\∃w g,mU σ c.a w g)∨(c.kind=2/\∃w g,mU σ c.a w g/\lP σ c.n w g)∨(c.kind=4/\rI σ c.a []/\rI σ c.n []/\1<=c.b/\c.b<=σ.len)
theorem Td(h:refuse c=0)(hk:c.kind=7∨c.kind=8∨c.kind=9):c.key.size<=64:=by
 unfold refuse at h
 split at h
 ·split at h
  ·assumption
  ·cases h
 split at h
 ·split at h
  ·rename_i hx;exact hx.1
  ·cases h
 ·omega
end
end

/- Worlds by what may happen: memories, tries, what is left of the operations. -/
end Go.Proofs.YtadnboagdhcedaaGreatDoor
namespace Go.Ct
section
open Go Go.RowKit
def ri:Mm:=⟨[cK.c,cK.c,cO (({Nd.zero with kind:=3}:Nd).c [] []) 0,cO (({Nd.zero with kind:=2,gen:=1}:Nd).c [] []) 1],[0,3,4],1⟩
end
end Go.Ct
namespace Go.Proofs.YtadnboagdhcedaaGreatDoor
section
open Go Go.RowKit Go.Ct
open Classical in
noncomputable def H8 (m:Nat) (k:ByteArray):Nat:=if k∈An then jP k m else 18446744073709551616
theorem uu{m h:Nat}{k:ByteArray}(e:H8 m k=h)(hl:h<18446744073709551616):k∈An/\jP k m=h:=by
 unfold H8 at e
 split at e
 ·exact⟨by assumption,e⟩
 ·omega
inductive WR(H:ByteArray->Nat)(m:Nat):Mm->List eQ->List Tr->Prop where
 | new:WR H m ri [⟨3,false⟩] []
 | start {s s':Mm} {ts:List eQ} {rs:List Tr} {k:Cl} {n j:Nat} {t':Tr} (h:WR H m s ts rs) (hk:∀σ:Kw,σ.mm=s->Inv H σ->(∀t∈ts,bR σ t)->Gy H σ k (jP k.key m)) (hr:Rc j (kO k (jP k.key m) n) s t' s') (ha:oY t'=true):WR H m s' ts (t'::rs)
 | step {s s':Mm} {ts:List eQ} {rs:List Tr} {j:Nat} {t t':Tr} (h:WR H m s ts (t::rs)) (hr:Rc j t s t' s') (ha:oY t'=true):WR H m s' ts (t'::rs)
 | perm {s:Mm} {ts:List eQ} {rs rs':List Tr} (h:WR H m s ts rs) (hp:rs.Perm rs'):WR H m s ts rs'
 | drop {s:Mm} {ts:List eQ} {rs:List Tr} {r:Rs} (h:WR H m s ts (.done r::rs)):WR H m s ts rs
 | add {s:Mm} {ts:List eQ} {rs:List Tr} {r:Rs} (h:WR H m s ts (.done r::rs)) (h0:0<r.root):WR H m s (ts++[⟨r.root,r.ro⟩]) (.done r::rs)
def yx:Kw:=⟨⟨[cK.c,cK.c],[],0⟩,λ _=>[],λ _=>0,λ _=>.no⟩
theorem ru{r:Int}(h1:1<=r)(h2:r<=2):yx.nd r=cK.c:=by
 have:r=1∨r=2:=by omega
 rcases this with rfl|rfl<;>rfl
theorem Pq(H:ByteArray->Nat):Inv H yx:=by
 refine⟨by decide,rfl,rfl,Int.le_refl _,tJ (Int.le_refl _),λ r h1 h2=>?_,λ c h1 h2=>?_⟩
 ·have h2':r<=2:=h2
  have e:=ru h1 h2'
  have hok:=Hp (gen:=0) (n:=2) (Int.le_refl _)
  refine⟨by rw[e];exact hok.1,by rw[e];exact Int.le_refl _,by rw[e];exact⟨bE _,bE _,bE _,(λ r hr=>nomatch hr),bE _,bE _,bE _,hU,hU⟩,λ k=>?_,λ k=>?_,λ k=>?_,λ k=>?_,λ k=>?_,λ k=>?_,λ k=>?_⟩<;>rw[e] at k
  ·exact cX (a:=1) (b:=2) k
  ·exact cX (a:=1) (b:=3) k
  ·exact cX (a:=1) (b:=4) k
  ·exact cX (a:=1) (b:=5) k
  ·exact cX (a:=1) (b:=6) k
  ·exact cX (a:=1) (b:=7) k
  ·exact cX (a:=1) (b:=8) k
 ·exact absurd h2 (by show ¬c<=((0:Nat):Int);omega)
def Qs:Tr:=.alloc Ca 0 λ c=>.gen λ g=>.alloc (lG g) c λ j=>.cell j λ r=>.done (En r false)
theorem Sv{H:ByteArray->Nat}{σ:Kw}(i0:Inv H σ):WT H Q0 Qs σ:=by
 have hg:=i0.gen
 have hnew:iX H σ Ca ([]:List Nat) (σ.mm.gen+1):=lM (b:=0) (xs:=[]) i0 Hl (λ j hj v hv=>by simp[nT] at hv) (by simp) (λ h=>absurd h (by decide))
 refine Jh i0 hnew (oQ i0 (λ e=>cX (a:=3) (b:=2) e)) λ ρ e0 cl l3 i4 _ em e1 e2 e3 h1 h2=>?_
 have hem:lP ρ e0 [] (σ.mm.gen+1):=lS (cl:=0) (.inl rfl) e1 e2 e3
 have hgr:ρ.mm.gen=σ.mm.gen:=by rw[em];rfl
 refine U4 i4 λ χ l4 i5 e4=>?_
 exact Vv (g:=ρ.mm.gen+1) i5 (by omega) (by omega) (by simp) (hem.up l4) (by omega) λ ψ j l5 i6 hj=>Rr false i6 hj.1 λ ω c l6 i7 h0 hc=>λ _=>hc
theorem R8:Rc 0 Qs yx.mm (.done (En 3 false)) ri :=
 .sG (.sG (.sG (.sG (Rc.refl _ _) (Sp.alloc _ _ _ _)) (Sp.gen _ _)) (Sp.alloc _ _ _ _)) (Sp.cell _ _ _)
end

/- Shape: what well-formed means, without a program; the tries of worlds are well-formed. -/
end Go.Proofs.YtadnboagdhcedaaGreatDoor
namespace Go.Ct
section
theorem xN(b:Nat):∀k,(jQ b k).length=eE b k
 | 0=>rfl
 | k+1=>by
  simp only[jQ,List.length_append,xN b k,eE]
  split<;>simp_all
theorem P9{b:Nat}:∀{n j:Nat},j<eE b n->∃k,k<n/\b.testBit k=true/\eE b k=j/\(jQ b n).getD j 0=(k:Int)
 | 0,j,h=>absurd h (by simp[eE])
 | n+1,j,h=>by
  by_cases hj:j<eE b n
  ·obtain⟨k,h1,h2,h3,h4⟩:=P9 hj
   refine⟨k,by omega,h2,h3,?_⟩
   rw[<- h4]
   simp only[jQ]
   rw[fQ,fQ,List.getElem?_append_left (by rw[xN];exact hj)]
  ·have hb:b.testBit n=true:=by
    cases hb:b.testBit n with
    | true=>rfl
    | false=>simp only[eE,hb] at h;simp at h;omega
   have hj2:eE b n=j:=by simp only[eE,hb] at h;simp at h;omega
   refine⟨n,by omega,hb,hj2,?_⟩
   simp only[jQ,hb,if_true]
   rw[fQ,List.getElem?_append_right (by rw[xN];omega),xN,hj2,Nat.sub_self]
   rfl
end
end Go.Ct
namespace Go.Proofs.YtadnboagdhcedaaGreatDoor
section
open Go Go.RowKit Go.Ct
def vK(m:Nat)(h:Int)(k:ByteArray)(w:List Nat):Prop:=((jP k m:Nat):Int)=h/\fO h.toNat w
def nR(k:Int)(lv:Nat):Prop:=(k=3/\lv<11)∨(k=5/\0<lv)∨(k=6/\lv=11)
def mi(n:Nv)(j:Nat):Nat:=((jQ n.bm.toNat 64).getD j 0).toNat
structure yq(N:List Nv)(m:Nat)(n:Nv)(w:List Nat):Prop where
 kd:nR n.kind w.length
 br:n.kind=3->0<w.length->n.xs≠[]/\∀b,n.xs=[b]->(cD N b).kind=2
 h5:n.kind=5->vK m n.hash n.key w
 h6:n.kind=6->∀p∈n.ys,vK m n.hash p.1 w
 h3:n.kind=3->∀j,j<n.xs.length->(cD N (n.xs.getD j 0)).kind=4->vK m (cD N (n.xs.getD j 0)).hash (cD N (n.xs.getD j 0)).key w/\sl (cD N (n.xs.getD j 0)).hash.toNat w.length=mi n j
def Ul(N:List Nv)(cs:List Int)(m:Nat):Nat->Int->List Nat->Int->Prop
 | 0,_,_,_=>False
 | n+1,i,w,ga=>∃r,eA N cs i=some r/\yq N m (cD N r) w/\(w=[]∨(cD N i).gen<=ga)/\∀j,j<(cD N r).xs.length->(cD N ((cD N r).xs.getD j 0)).kind=2->Ul N cs m n ((cD N r).xs.getD j 0) (w++[mi (cD N r) j]) (cD N i).gen
section
variable{m:Nat}{σ:Kw}{w:List Nat}{r i g:Int}
theorem Tq{h k:Nat}(hu:fO h (w++[k])):fO h w/\sl h w.length=k:=by
 constructor
 ·intro j hj
  have:=hu j (by rw[List.length_append];omega)
  rwa [fQ,List.getElem?_append_left hj,<- fQ] at this
 ·have:=hu w.length (by rw[List.length_append,List.length_singleton];omega)
  rw[fQ,List.getElem?_append_right (Nat.le_refl _),Nat.sub_self] at this
  exact this
theorem Hr(i0:Inv (H8 m) σ){x:Int}(hx:1<=x/\x<=σ.len){k:ByteArray}(h:H8 m k=(σ.nd x).hash.toNat):((jP k m:Nat):Int)=(σ.nd x).hash:=by
 obtain⟨b,hb,hlt⟩:=(i0.nd x hx.1 hx.2).bd.hash
 have e:(σ.nd x).hash.toNat=b:=by rw[hb];rfl
 have:=(uu h (by rw[e];exact hlt)).2
 rw[this,e,hb]
theorem jV.at{b:Nat}{xs:List Int}(hc:jV σ r w g b xs){j:Nat}(hj:j<xs.length):mi (σ.nd r) j<64/\nT b xs (mi (σ.nd r) j)=some (xs.getD j 0):=by
 have hl:=hc.bv.len
 obtain⟨k,h1,h2,h3,h4⟩:=P9 (b:=b) (n:=64) (j:=j) (by omega)
 have e:mi (σ.nd r) j=k:=by unfold mi;rw[hc.bm,h4];rfl
 rw[e]
 exact⟨h1,by unfold nT;rw[if_pos h2,h3]⟩
theorem qd(i0:Inv (H8 m) σ)(hm:lP σ r w g):yq σ.mm.nodes m (σ.nd r) w:=by
 have hr:=hm.in
 have hn:=i0.nd r hr.1 hr.2
 have hw:=hm.2.1
 refine⟨?_,λ k3 h0=>(hm.kY i0 k3).ne h0,λ k5=>?_,λ k6 p hp=>?_,λ k3 j hj k4=>?_⟩
 ·rcases hm.1 with h|h|h
  ·exact .inl ⟨h,by have:=(hm.kY i0 h).wl;omega⟩
  ·have:=hn.k5 h;rw[hw] at this;exact .inr (.inl ⟨h,this.1⟩)
  ·have:=hn.k6 h;rw[hw] at this;exact .inr (.inr ⟨h,this.1⟩)
 ·have:=hn.k5 k5;rw[hw] at this
  exact⟨Hr i0 hr this.2.2.1,this.2.2.2.1⟩
 ·have:=hn.k6 k6;rw[hw] at this
  exact⟨Hr i0 hr (this.2.2.1 p hp),this.2.1⟩
 ·have hc:=hm.kY i0 k3
  obtain⟨h1,h2⟩:=hc.at hj
  rcases hc.br _ h1 _ h2 with hb|hb
  ·obtain⟨u1,u2⟩:=Tq hb.2
   have hbr:=cY (N:=σ.mm.nodes) (i:=(σ.nd r).xs.getD j 0) (by rw[k4];decide)
   exact⟨⟨Hr i0 hbr ((i0.nd _ hbr.1 hbr.2).k4 hb.1),u1⟩,u2⟩
  ·have:(σ.nd ((σ.nd r).xs.getD j 0)).kind=4:=k4
   omega
theorem Yr(i0:Inv (H8 m) σ):∀(n:Nat) (i:Int) (w:List Nat) (g ga:Int),mU σ i w g->(w=[]∨g<=ga)->12<=w.length+n->Ul σ.mm.nodes σ.mm.cs m n i w ga
 | 0,i,w,g,ga,hi,_,hn=>by have:=(hi.Cd i0).2.2;omega
 | n+1,i,w,g,ga,hi,hg,hn=>by
  obtain⟨r,hb,hm⟩:=Hh i0 hi
  refine⟨r,hb,qd i0 hm,hg.imp id λ h=>by rw[show(cD σ.mm.nodes i).gen=g from hi.2];exact h,λ j hj k2=>?_⟩
  have k3:(σ.nd r).kind=3:=by
   rcases hm.1 with h|h|h
   ·exact h
   ·have hv:=(i0.nd r hm.in.1 hm.in.2).valid
    exact absurd hj (by rw[show(cD σ.mm.nodes r).xs=[] from hv.1.2.2.2.2.1.trans (if_neg (by have h':(σ.nd r).nd.kind=5:=h;rw[h'];decide))];simp)
   ·have hv:=(i0.nd r hm.in.1 hm.in.2).valid
    exact absurd hj (by rw[show(cD σ.mm.nodes r).xs=[] from hv.1.2.2.2.2.1.trans (if_neg (by have h':(σ.nd r).nd.kind=6:=h;rw[h'];decide))];simp)
  have hc:=hm.kY i0 k3
  obtain⟨h1,h2⟩:=hc.at hj
  rcases hc.br _ h1 _ h2 with hb|hb
  ·have:(σ.nd ((σ.nd r).xs.getD j 0)).kind=2:=k2
   omega
  ·have hig:mU σ ((σ.nd r).xs.getD j 0) (w++[mi (σ.nd r) j]) (σ.nd ((σ.nd r).xs.getD j 0)).gen:=⟨⟨hb.1,hb.2.1⟩,rfl⟩
   exact Yr i0 n _ _ _ _ hig (.inr (by rw[show(cD σ.mm.nodes i).gen=g from hi.2];exact hb.2.2)) (by rw[List.length_append,List.length_singleton];omega)
end
end

/- Shape: a trie is well-formed just where all its places are good. -/
end Go.Proofs.YtadnboagdhcedaaGreatDoor
namespace Go.Ct
section
theorem Q8(b:Nat):∀n x,x∈jQ b n->0<=x
 | 0,x,h=>nomatch h
 | n+1,x,h=>by
  simp only[jQ] at h
  rcases List.mem_append.1 h with h|h
  ·exact Q8 b n x h
  ·split at h
   ·rw[List.mem_singleton.1 h];exact Int.natCast_nonneg _
   ·cases h
theorem Jd(b n j:Nat):0<=(jQ b n).getD j 0:=by
 rw[fQ]
 cases h:(jQ b n)[j]? with
 | none=>exact Int.le_refl _
 | some x=>exact Q8 b n x (List.mem_of_getElem? h)
end
end Go.Ct
namespace Go.Proofs.YtadnboagdhcedaaGreatDoor
section
open Go Go.RowKit Go.Ct
end

/- Shape: what the walk through a trie needs: main nodes all the way down; ways as arrays. -/
end Go.Proofs.YtadnboagdhcedaaGreatDoor
namespace Go.Ct
section
def Ss(N:List Nv)(cs:List Int):Nat->Int->Prop
 | 0,_=>False
 | n+1,i=>∃r,eA N cs i=some r/\∀b∈(cD N r).xs,(cD N b).kind=4∨((cD N b).kind=2/\Ss N cs n b)
def Pk(w:List Nat):List Value:=(List.range 11).map λ k=>.int .i64 ((w.getD k 0:Nat):Int)
theorem lQ(w:List Nat):(Pk w).length=11:=by simp[Pk]
theorem Nn{w:List Nat}{k:Nat}(hk:k<11):(Pk w)[k]?=some (.int .i64 ((w.getD k 0:Nat):Int)):=by
 unfold Pk
 rw[List.getElem?_map,List.getElem?_range hk]
 rfl
theorem gf{w:List Nat}{k:Nat}(h:w.length<11):(Pk w).set w.length (.int .i64 ((k:Nat):Int))=Pk (w++[k]):=by
 refine List.ext_getElem? λ i=>?_
 by_cases hi:i<11
 ·rw[Nn hi,List.getElem?_set]
  split
  ·rename_i e
   subst e
   rw[if_pos (by rw[lQ];exact hi),fQ,List.getElem?_append_right (Nat.le_refl _),Nat.sub_self]
   rfl
  ·rename_i e
   rw[Nn hi]
   by_cases h2:i<w.length
   ·rw[fQ,fQ,List.getElem?_append_left h2]
   ·rw[fQ,fQ,List.getElem?_eq_none (by omega),List.getElem?_eq_none (by rw[List.length_append,List.length_singleton];omega)]
 ·rw[List.getElem?_eq_none (by rw[List.length_set,lQ];omega),List.getElem?_eq_none (by rw[lQ];omega)]
end

/- The program's shape, part 2: what a place must be. -/
section
def He(lv:Nat)(w:List Nat)(a b c:Nd):List Value:=.int .i64 ((lv:Nat):Int)::(Pk w++(a.cells++(b.cells++c.cells)))
end
end Go.Ct
namespace Go.Proofs.YtadnboagdhcedaaGreatDoor
section
open Go Go.RowKit Go.Ct
set_option maxRecDepth 100000 in
theorem ax(lv:Nat)(u:List Nat)(a b c:Nd)(w:World):Calls Tryz.prog 54 #[.agg ⟨He lv u a b c⟩] w λ e w'=>∃r:Bool,e=.returned (.bool r)/\(r=true↔nR b.kind lv)/\St w [] [] w':=by
 refine enter Tryz.func54 Tryz.ntmps54 rfl rfl (SF.s0 w) ?_
 simp only[cR]
 refine J0 ?_;refine bP (λ x1=>?_);refine gK ?_;refine J0 ?_;refine Kb9 ?_;refine Kc2 ?_;refine iT ?_
 refine aZ (λ c6=>?_) (λ c6=>?_)
 ·refine gN ?_;refine Rp ?_;refine J1 ?_
  refine aN Tryz.results54 (λ w hw=>?_)
  first
  | exact⟨_,rfl,by unfold nR;simp;omega,hw.done⟩
  | exact⟨_,rfl,by unfold nR;simp_all;done,hw.done⟩
 ·refine iT ?_
  refine aZ (λ c11=>?_) (λ c11=>?_)
  ·refine gN ?_;refine As ?_;refine J1 ?_
   refine aN Tryz.results54 (λ w hw=>?_)
   first
   | exact⟨_,rfl,by unfold nR;simp;omega,hw.done⟩
   | exact⟨_,rfl,by unfold nR;simp_all;done,hw.done⟩
  ·refine iT ?_
   refine aZ (λ c16=>?_) (λ c16=>?_)
   ·refine gN ?_;refine M2 ?_
    refine aN Tryz.results54 (λ w hw=>?_)
    first
    | exact⟨_,rfl,by unfold nR;simp;omega,hw.done⟩
    | exact⟨_,rfl,by unfold nR;simp_all;done,hw.done⟩
   ·refine Kb0 ?_
    refine aN Tryz.results54 (λ w hw=>?_)
    first
    | exact⟨_,rfl,by unfold nR;simp;omega,hw.done⟩
    | exact⟨_,rfl,by unfold nR;simp_all;done,hw.done⟩
set_option maxRecDepth 100000 in
theorem qf(lv:Nat)(u:List Nat)(a b c:Nd)(w:World):Calls Tryz.prog 57 #[.agg ⟨He lv u a b c⟩] w λ e w'=>∃r:Bool,e=.returned (.bool r)/\(r=true↔(lv=0∨a.gen<=c.gen))/\St w [] [] w':=by
 refine enter Tryz.func57 Tryz.ntmps57 rfl rfl (SF.s0 w) ?_
 simp only[cR]
 refine J0 ?_;refine bP (λ x1=>?_);refine J1 ?_;refine gN ?_;refine vB ?_;refine aB ?_
 (refine eR 6 (λ g6=>?_) (λ g6=>?_)<;>refine Ka0 ?_)
 all_goals (refine J6 ?_;refine Ka0 ?_;refine J6 ?_;(first|refine aH ?_|(refine aF ?_;refine Ao ?_));refine Kc7 ?_)
 all_goals
 refine aN Tryz.results57 (λ w hw=>?_)
 first
 | exact⟨_,rfl,by simp;omega,hw.done⟩
 | exact⟨_,rfl,by simp_all;done,hw.done⟩
end

end Go.Proofs.YtadnboagdhcedaaGreatDoor
