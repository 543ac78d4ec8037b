/- Hash values of keys. -/
import Derived.Test.YtadnboagdhcedaaGreatDoorGArS
import Derived.Test.YtadnboagdhcedaaGreatDoorGGa
import Derived.Test.YtadnboagdhcedaaGreatDoorGKw5
import Derived.Test.YtadnboagdhcedaaGreatDoorGAr9
import Derived.Test.YtadnboagdhcedaaGreatDoorGSh6

set_option linter.unusedSimpArgs false
set_option linter.unusedVariables false
namespace Go.Ct
section
open Go Go.RowKit
def wh(s:ByteArray)(i:Nat):Nat:=(s.data.getD i 0).toNat
theorem Io(s:ByteArray)(i:Nat):wh s i<256:=(s.data.getD i 0).toNat_lt
def za(s:ByteArray):Nat->Nat
 | 0=>14695981039346656037
 | i+1=>((za s i ^^^ wh s i)*1099511628211)%18446744073709551616
theorem Ex(s:ByteArray):∀i,za s i<18446744073709551616
 | 0=>by show 14695981039346656037<18446744073709551616;decide
 | _+1=>Nat.mod_lt _ (by decide)
def kI(s:ByteArray)(m:Nat):Nat:=za s s.size &&& m
theorem rC(s:ByteArray)(m:Nat):kI s m<18446744073709551616:=Nat.lt_of_le_of_lt Nat.and_le_left (Ex s _)
section
variable{P:Program}{S:List (Nat×Value)}{G:World->Prop}{d:Nat}{ty t t':TypeId}{pos:String}{af:Array Edge}{gd:Option (Nat×Bool)}{x y:Operand}{a b i:Nat}{s:ByteArray}
theorem a9(hx:ev S x=.string s)(hy:ev S y=.int .i64 (i:Int))(ht:P.underlying t=some .string)(h:i<s.size):aJ P S G ⟨some d,.index t x y,ty,pos,af,gd⟩ (.int .u8 (wh s i:Int)):=⟨λ w _=>by
 have e:(s[((i:Nat):Int).toNat]'(by simpa using h)).toNat=wh s i:=by
  unfold wh
  rw[Array.getD_eq_getD_getElem?,Array.getElem?_eq_getElem (by simpa using h)]
  rfl
 simp only[execOp,hx,hy,Sem.run_bind]
 rw[run_index_string w t s .i64 i ht,dif_pos ⟨bH _,by omega⟩,e]
 rfl⟩
theorem ay(hx:ev S x=.int .u64 (a:Int))(hy:ev S y=.int .u64 (b:Int))(ha:a<18446744073709551616)(hb:b<18446744073709551616):aJ P S G ⟨some d,.binOp .xor t x y t',ty,pos,af,gd⟩ (.int .u64 ((a ^^^ b:Nat):Int)):=by
 have:=zj (P:=P) (G:=G) (d:=d) (ty:=ty) (pos:=pos) (af:=af) (gd:=gd) (t:=t) (t':=t') hx hy
 rwa [Wp ha hb] at this
theorem Y2(hx:ev S x=.int .u64 (a:Int))(hy:ev S y=.int .u64 (b:Int)):aJ P S G ⟨some d,.binOp .mul t x y t',ty,pos,af,gd⟩ (.int .u64 ((a*b%18446744073709551616:Nat):Int)):=by
 have:=bj (P:=P) (G:=G) (d:=d) (ty:=ty) (pos:=pos) (af:=af) (gd:=gd) (t:=t) (t':=t') hx hy
 have e:IntKind.u64.wrap ((a:Int)*(b:Int))=((a*b%18446744073709551616:Nat):Int):=by
  rw[<- Int.natCast_mul,wrap_u64]
  generalize a*b=q
  omega
 rwa [e] at this
end
end
end Go.Ct
namespace Go.Proofs.YtadnboagdhcedaaGreatDoor
section
open Go Go.RowKit Go.Ct
theorem Ul(key:ByteArray){m:Nat}(hm:m<18446744073709551616)(hk:key.size<=4611686018427387903)(w:World):Calls Tryz.prog 63 #[.string key,.int .u64 (m:Int)] w λ e w'=>e=.returned (.int .u64 ((kI key m:Nat):Int))/\St w [] [] w':=by
 refine enter Tryz.func63 Tryz.ntmps63 rfl rfl (SF.s0 w) ?_
 simp only[cO]
 refine cQ ?_;refine F4 ?_;refine Gl ?_
 refine eY [5,6,7,8,9,10,11,12,13,14,15,16,17,18,19] (λ y:Nat=>[(6,.int .i64 ((y:Nat):Int)),(5,.int .u64 ((za key y:Nat):Int))]) (λ y=>y<=key.size) (λ y=>key.size-y) (0) (Nat.zero_le _) ?_ (λ y f hx=>?_)
 ·repeat (first|exact bB _|refine aY (by exact rfl) ?_)
 dsimp only[fY,List.map,List.cons_append,List.nil_append]
 refine F0 ?_;refine jR ?_;refine vI ?_
 refine aZ (λ c10=>?_) (λ c10=>?_)
 ·refine nZ ?_;refine xJ ?_;refine oX ?_;refine aT (fH (a9 (s:=key) (i:=y) rf rf (by kernel_rfl) (by omega))) (λ x16=>?_);refine aE (Ix (k2:=.u8) rf (by kernel_rfl) (by exact rT rfl) ⟨bH _,by have:=Io key y;omega⟩) rfl ?_;refine aE (ay rf rf (Ex _ _) (by have:=Io key y;omega)) rfl ?_;refine aE (Y2 rf rf) rfl ?_;refine J1 ?_;refine Kd0 ?_
  refine dO (y+1) ?_ ?_ ?_
  ·omega
  ·repeat' (first|exact bB _|refine aY ?_ ?_)
   all_goals (exact rfl)
  ·omega
 ·refine bF rfl ?_;refine iR ?_;refine aE (P7 rf rf (Ex _ _) hm) rfl ?_;refine J1 ?_
  refine aQ Tryz.results63 (λ w hw=>?_)
  have hy:y=key.size:=by omega
  subst hy
  exact⟨rfl,hw.done⟩
theorem mD(key:ByteArray)(w:World):Calls Tryz.prog 107 #[.string key] w λ e w'=>e=.returned (.bool (decide (key.size<=64)))/\St w [] [] w':=by
 refine enter Tryz.func107 Tryz.ntmps107 rfl rfl (SF.s0 w) ?_
 simp only[cO]
 refine cQ ?_;refine J2 ?_;refine jR ?_;refine A9 ?_;refine J1 ?_
 refine aQ Tryz.results107 (λ w hw=>?_)
 exact⟨by rw[show decide (key.size<=64)=decide ((key.size:Int)<=64) from decide_eq_decide.2 (by omega)];rfl,hw.done⟩
theorem fM(f:Bool)(v:Int)(w:World):Calls Tryz.prog 120 #[.bool f,.int .u64 v] w λ e w'=>e=.returned (.agg ⟨(Rs.mk 0 f v ⟨#[]⟩ 0 0 0 false).cells⟩)/\St w [] [] w':=by
 refine enter Tryz.func120 Tryz.ntmps120 rfl rfl (SF.s0 w) ?_
 simp only[cO]
 refine J0 ?_;refine aN (λ x4=>?_);refine aI ?_;refine iR ?_;refine As ?_
 refine bK Tryz.results120 (λ w hw=>?_)
 exact⟨rfl,hw.done⟩
end

/- Worlds by what may happen: memories, tries, what is left of the operations. -/
end Go.Proofs.YtadnboagdhcedaaGreatDoor
namespace Go.Ct
section
open Go Go.RowKit
def mm0:Mm:=⟨[cN.c,cN.c,cS (({Nd.zero with kind:=3}:Nd).c [] []) 0,cS (({Nd.zero with kind:=2,gen:=1}:Nd).c [] []) 1],[0,3,4],1⟩
end
end Go.Ct
namespace Go.Proofs.YtadnboagdhcedaaGreatDoor
section
open Go Go.RowKit Go.Ct
open Classical in
noncomputable def H8 (m:Nat) (k:ByteArray):Nat:=if k∈kN then kI k m else 18446744073709551616
theorem y9{m h:Nat}{k:ByteArray}(e:H8 m k=h)(hl:h<18446744073709551616):k∈kN/\kI k m=h:=by
 unfold H8 at e
 split at e
 ·exact⟨by assumption,e⟩
 ·omega
inductive WR(H:ByteArray->Nat)(m:Nat):Mm->List dZ->List Tr->Prop where
 | new:WR H m mm0 [⟨3,false⟩] []
 | start {s s':Mm} {ts:List dZ} {rs:List Tr} {k:Cl} {n j:Nat} {t':Tr} (h:WR H m s ts rs) (hk:∀σ:Kw,σ.mm=s->Inv H σ->(∀t∈ts,bR σ t)->Pf H σ k (kI k.key m)) (hr:Rc j (kW k (kI k.key m) n) s t' s') (ha:oH t'=true):WR H m s' ts (t'::rs)
 | step {s s':Mm} {ts:List dZ} {rs:List Tr} {j:Nat} {t t':Tr} (h:WR H m s ts (t::rs)) (hr:Rc j t s t' s') (ha:oH t'=true):WR H m s' ts (t'::rs)
 | perm {s:Mm} {ts:List dZ} {rs rs':List Tr} (h:WR H m s ts rs) (hp:rs.Perm rs'):WR H m s ts rs'
 | drop {s:Mm} {ts:List dZ} {rs:List Tr} {r:Rs} (h:WR H m s ts (.done r::rs)):WR H m s ts rs
 | add {s:Mm} {ts:List dZ} {rs:List Tr} {r:Rs} (h:WR H m s ts (.done r::rs)) (h0:0<r.root):WR H m s (ts++[⟨r.root,r.ro⟩]) (.done r::rs)
def kw0:Kw:=⟨⟨[cN.c,cN.c],[],0⟩,λ _=>[],λ _=>0,λ _=>.no⟩
theorem uk{r:Int}(h1:1<=r)(h2:r<=2):kw0.nd r=cN.c:=by
 have:r=1∨r=2:=by omega
 rcases this with rfl|rfl<;>rfl
theorem Qp(H:ByteArray->Nat):Inv H kw0:=by
 refine⟨by decide,rfl,rfl,Int.le_refl _,tI (Int.le_refl _),λ r h1 h2=>?_,λ c h1 h2=>?_⟩
 ·have h2':r<=2:=h2
  have e:=uk h1 h2'
  have hok:=Kh (gen:=0) (n:=2) (Int.le_refl _)
  refine⟨by rw[e];exact hok.1,by rw[e];exact Int.le_refl _,by rw[e];exact⟨bH _,bH _,bH _,(λ r hr=>nomatch hr),bH _,bH _,bH _,iG,iG⟩,λ k=>?_,λ k=>?_,λ k=>?_,λ k=>?_,λ k=>?_,λ k=>?_,λ k=>?_⟩<;>rw[e] at k
  ·exact cX (a:=1) (b:=2) k
  ·exact cX (a:=1) (b:=3) k
  ·exact cX (a:=1) (b:=4) k
  ·exact cX (a:=1) (b:=5) k
  ·exact cX (a:=1) (b:=6) k
  ·exact cX (a:=1) (b:=7) k
  ·exact cX (a:=1) (b:=8) k
 ·exact absurd h2 (by show ¬c<=((0:Nat):Int);omega)
def Qt:Tr:=.alloc Er 0 λ c=>.gen λ g=>.alloc (lX g) c λ j=>.cell j λ r=>.done (Gh r false)
theorem Uv{H:ByteArray->Nat}{σ:Kw}(i0:Inv H σ):WT H Q0 Qt σ:=by
 have hg:=i0.gen
 have hnew:jH H σ Er ([]:List Nat) (σ.mm.gen+1):=lQ (b:=0) (xs:=[]) i0 I2 (λ j hj v hv=>by simp[oQ] at hv) (by simp) (λ h=>absurd h (by decide))
 refine Mh i0 hnew (pJ i0 (λ e=>cX (a:=3) (b:=2) e)) λ ρ e0 cl l3 i4 _ em e1 e2 e3 h1 h2=>?_
 have hem:mC ρ e0 [] (σ.mm.gen+1):=mG (cl:=0) (.inl rfl) e1 e2 e3
 have hgr:ρ.mm.gen=σ.mm.gen:=by rw[em];rfl
 refine W1 i4 λ χ l4 i5 e4=>?_
 exact X2 (g:=ρ.mm.gen+1) i5 (by omega) (by omega) (by simp) (hem.up l4) (by omega) λ ψ j l5 i6 hj=>Rr false i6 hj.1 λ ω c l6 i7 h0 hc=>λ _=>hc
theorem T8:Rc 0 Qt kw0.mm (.done (Gh 3 false)) mm0 :=
 .Np (.Np (.Np (.Np (Rc.refl _ _) (Sp.alloc _ _ _ _)) (Sp.gen _ _)) (Sp.alloc _ _ _ _)) (Sp.cell _ _ _)
end

/- Shape: what well-formed means, without a program; the tries of worlds are well-formed. -/
end Go.Proofs.YtadnboagdhcedaaGreatDoor
namespace Go.Ct
section
theorem yD(b:Nat):∀k,(jZ b k).length=eM b k
 | 0=>rfl
 | k+1=>by
  simp only[jZ,List.length_append,yD b k,eM]
  split<;>simp_all
theorem Ql{b:Nat}:∀{n j:Nat},j<eM b n->∃k,k<n/\b.testBit k=true/\eM b k=j/\(jZ b n).getD j 0=(k:Int)
 | 0,j,h=>absurd h (by simp[eM])
 | n+1,j,h=>by
  by_cases hj:j<eM b n
  ·obtain⟨k,h1,h2,h3,h4⟩:=Ql hj
   refine⟨k,by omega,h2,h3,?_⟩
   rw[<- h4]
   simp only[jZ]
   rw[fI,fI,List.getElem?_append_left (by rw[yD];exact hj)]
  ·have hb:b.testBit n=true:=by
    cases hb:b.testBit n with
    | true=>rfl
    | false=>simp only[eM,hb] at h;simp at h;omega
   have hj2:eM b n=j:=by simp only[eM,hb] at h;simp at h;omega
   refine⟨n,by omega,hb,hj2,?_⟩
   simp only[jZ,hb,if_true]
   rw[fI,List.getElem?_append_right (by rw[yD];omega),yD,hj2,Nat.sub_self]
   rfl
end
end Go.Ct
namespace Go.Proofs.YtadnboagdhcedaaGreatDoor
section
open Go Go.RowKit Go.Ct
def wA(m:Nat)(h:Int)(k:ByteArray)(w:List Nat):Prop:=((kI k m:Nat):Int)=h/\fU h.toNat w
def oK(k:Int)(lv:Nat):Prop:=(k=3/\lv<11)∨(k=5/\0<lv)∨(k=6/\lv=11)
def ns(n:Nv)(j:Nat):Nat:=((jZ n.bm.toNat 64).getD j 0).toNat
structure WFn(N:List Nv)(m:Nat)(n:Nv)(w:List Nat):Prop where
 kd:oK n.kind w.length
 br:n.kind=3->0<w.length->n.xs≠[]/\∀b,n.xs=[b]->(cB N b).kind=2
 h5:n.kind=5->wA m n.hash n.key w
 h6:n.kind=6->∀p∈n.ys,wA m n.hash p.1 w
 h3:n.kind=3->∀j,j<n.xs.length->(cB N (n.xs.getD j 0)).kind=4->wA m (cB N (n.xs.getD j 0)).hash (cB N (n.xs.getD j 0)).key w/\sl (cB N (n.xs.getD j 0)).hash.toNat w.length=ns n j
def Vv(N:List Nv)(cs:List Int)(m:Nat):Nat->Int->List Nat->Int->Prop
 | 0,_,_,_=>False
 | n+1,i,w,ga=>∃r,eK N cs i=some r/\WFn N m (cB N r) w/\(w=[]∨(cB N i).gen<=ga)/\∀j,j<(cB N r).xs.length->(cB N ((cB N r).xs.getD j 0)).kind=2->Vv N cs m n ((cB N r).xs.getD j 0) (w++[ns (cB N r) j]) (cB N i).gen
section
variable{m:Nat}{σ:Kw}{w:List Nat}{r i g:Int}
theorem Vj{h k:Nat}(hu:fU h (w++[k])):fU h w/\sl h w.length=k:=by
 constructor
 ·intro j hj
  have:=hu j (by rw[List.length_append];omega)
  rwa [fI,List.getElem?_append_left hj,<- fI] at this
 ·have:=hu w.length (by rw[List.length_append,List.length_singleton];omega)
  rw[fI,List.getElem?_append_right (Nat.le_refl _),Nat.sub_self] at this
  exact this
theorem Jh(i0:Inv (H8 m) σ){x:Int}(hx:1<=x/\x<=σ.len){k:ByteArray}(h:H8 m k=(σ.nd x).hash.toNat):((kI k m:Nat):Int)=(σ.nd x).hash:=by
 obtain⟨b,hb,hlt⟩:=(i0.nd x hx.1 hx.2).bd.hash
 have e:(σ.nd x).hash.toNat=b:=by rw[hb];rfl
 have:=(y9 h (by rw[e];exact hlt)).2
 rw[this,e,hb]
theorem kJ.at{b:Nat}{xs:List Int}(hc:kJ σ r w g b xs){j:Nat}(hj:j<xs.length):ns (σ.nd r) j<64/\oQ b xs (ns (σ.nd r) j)=some (xs.getD j 0):=by
 have hl:=hc.bv.len
 obtain⟨k,h1,h2,h3,h4⟩:=Ql (b:=b) (n:=64) (j:=j) (by omega)
 have e:ns (σ.nd r) j=k:=by unfold ns;rw[hc.bm,h4];rfl
 rw[e]
 exact⟨h1,by unfold oQ;rw[if_pos h2,h3]⟩
theorem sj(i0:Inv (H8 m) σ)(hm:mC σ r w g):WFn σ.mm.nodes m (σ.nd r) w:=by
 have hr:=hm.in
 have hn:=i0.nd r hr.1 hr.2
 have hw:=hm.2.1
 refine⟨?_,λ k3 h0=>(hm.lK i0 k3).ne h0,λ k5=>?_,λ k6 p hp=>?_,λ k3 j hj k4=>?_⟩
 ·rcases hm.1 with h|h|h
  ·exact .inl ⟨h,by have:=(hm.lK i0 h).wl;omega⟩
  ·have:=hn.k5 h;rw[hw] at this;exact .inr (.inl ⟨h,this.1⟩)
  ·have:=hn.k6 h;rw[hw] at this;exact .inr (.inr ⟨h,this.1⟩)
 ·have:=hn.k5 k5;rw[hw] at this
  exact⟨Jh i0 hr this.2.2.1,this.2.2.2.1⟩
 ·have:=hn.k6 k6;rw[hw] at this
  exact⟨Jh i0 hr (this.2.2.1 p hp),this.2.1⟩
 ·have hc:=hm.lK i0 k3
  obtain⟨h1,h2⟩:=hc.at hj
  rcases hc.br _ h1 _ h2 with hb|hb
  ·obtain⟨u1,u2⟩:=Vj hb.2
   have hbr:=dD (N:=σ.mm.nodes) (i:=(σ.nd r).xs.getD j 0) (by rw[k4];decide)
   exact⟨⟨Jh i0 hbr ((i0.nd _ hbr.1 hbr.2).k4 hb.1),u1⟩,u2⟩
  ·have:(σ.nd ((σ.nd r).xs.getD j 0)).kind=4:=k4
   omega
theorem V9(i0:Inv (H8 m) σ):∀(n:Nat) (i:Int) (w:List Nat) (g ga:Int),nM σ i w g->(w=[]∨g<=ga)->12<=w.length+n->Vv σ.mm.nodes σ.mm.cs m n i w ga
 | 0,i,w,g,ga,hi,_,hn=>by have:=(hi.E3 i0).2.2;omega
 | n+1,i,w,g,ga,hi,hg,hn=>by
  obtain⟨r,hb,hm⟩:=Ji i0 hi
  refine⟨r,hb,sj i0 hm,hg.imp id λ h=>by rw[show(cB σ.mm.nodes i).gen=g from hi.2];exact h,λ j hj k2=>?_⟩
  have k3:(σ.nd r).kind=3:=by
   rcases hm.1 with h|h|h
   ·exact h
   ·have hv:=(i0.nd r hm.in.1 hm.in.2).valid
    exact absurd hj (by rw[show(cB σ.mm.nodes r).xs=[] from hv.1.2.2.2.2.1.trans (if_neg (by have h':(σ.nd r).nd.kind=5:=h;rw[h'];decide))];simp)
   ·have hv:=(i0.nd r hm.in.1 hm.in.2).valid
    exact absurd hj (by rw[show(cB σ.mm.nodes r).xs=[] from hv.1.2.2.2.2.1.trans (if_neg (by have h':(σ.nd r).nd.kind=6:=h;rw[h'];decide))];simp)
  have hc:=hm.lK i0 k3
  obtain⟨h1,h2⟩:=hc.at hj
  rcases hc.br _ h1 _ h2 with hb|hb
  ·have:(σ.nd ((σ.nd r).xs.getD j 0)).kind=2:=k2
   omega
  ·have hig:nM σ ((σ.nd r).xs.getD j 0) (w++[ns (σ.nd r) j]) (σ.nd ((σ.nd r).xs.getD j 0)).gen:=⟨⟨hb.1,hb.2.1⟩,rfl⟩
   exact V9 i0 n _ _ _ _ hig (.inr (by rw[show(cB σ.mm.nodes i).gen=g from hi.2];exact hb.2.2)) (by rw[List.length_append,List.length_singleton];omega)
end
end

/- Shape: a trie is well-formed just where all its places are good. -/
end Go.Proofs.YtadnboagdhcedaaGreatDoor
namespace Go.Ct
section
theorem Sw(b:Nat):∀n x,x∈jZ b n->0<=x
 | 0,x,h=>nomatch h
 | n+1,x,h=>by
  simp only[jZ] at h
  rcases List.mem_append.1 h with h|h
  ·exact Sw b n x h
  ·split at h
   ·rw[List.mem_singleton.1 h];exact Int.natCast_nonneg _
   ·cases h
theorem Mu(b n j:Nat):0<=(jZ b n).getD j 0:=by
 rw[fI]
 cases h:(jZ b n)[j]? with
 | none=>exact Int.le_refl _
 | some x=>exact Sw b n x (List.mem_of_getElem? h)
end
end Go.Ct
namespace Go.Proofs.YtadnboagdhcedaaGreatDoor
section
open Go Go.RowKit Go.Ct
end

/- Shape: what the walk through a trie needs: main nodes all the way down; ways as arrays. -/
end Go.Proofs.YtadnboagdhcedaaGreatDoor
namespace Go.Ct
section
def T2(N:List Nv)(cs:List Int):Nat->Int->Prop
 | 0,_=>False
 | n+1,i=>∃r,eK N cs i=some r/\∀b∈(cB N r).xs,(cB N b).kind=4∨((cB N b).kind=2/\T2 N cs n b)
def S5(w:List Nat):List Value:=(List.range 11).map λ k=>.int .i64 ((w.getD k 0:Nat):Int)
theorem mH(w:List Nat):(S5 w).length=11:=by simp[S5]
theorem Ps{w:List Nat}{k:Nat}(hk:k<11):(S5 w)[k]?=some (.int .i64 ((w.getD k 0:Nat):Int)):=by
 unfold S5
 rw[List.getElem?_map,List.getElem?_range hk]
 rfl
theorem ir{w:List Nat}{k:Nat}(h:w.length<11):(S5 w).set w.length (.int .i64 ((k:Nat):Int))=S5 (w++[k]):=by
 refine List.ext_getElem? λ i=>?_
 by_cases hi:i<11
 ·rw[Ps hi,List.getElem?_set]
  split
  ·rename_i e
   subst e
   rw[if_pos (by rw[mH];exact hi),fI,List.getElem?_append_right (Nat.le_refl _),Nat.sub_self]
   rfl
  ·rename_i e
   rw[Ps hi]
   by_cases h2:i<w.length
   ·rw[fI,fI,List.getElem?_append_left h2]
   ·rw[fI,fI,List.getElem?_eq_none (by omega),List.getElem?_eq_none (by rw[List.length_append,List.length_singleton];omega)]
 ·rw[List.getElem?_eq_none (by rw[List.length_set,mH];omega),List.getElem?_eq_none (by rw[mH];omega)]
end

/- The program's shape, part 2: what a place must be. -/
section
def I1(lv:Nat)(w:List Nat)(a b c:Nd):List Value:=.int .i64 ((lv:Nat):Int)::(S5 w++(a.cells++(b.cells++c.cells)))
end
end Go.Ct
namespace Go.Proofs.YtadnboagdhcedaaGreatDoor
section
open Go Go.RowKit Go.Ct
set_option maxRecDepth 100000 in
theorem dx(lv:Nat)(u:List Nat)(a b c:Nd)(w:World):Calls Tryz.prog 54 #[.agg ⟨I1 lv u a b c⟩] w λ e w'=>∃r:Bool,e=.returned (.bool r)/\(r=true↔oK b.kind lv)/\St w [] [] w':=by
 refine enter Tryz.func54 Tryz.ntmps54 rfl rfl (SF.s0 w) ?_
 simp only[cO]
 refine J0 ?_;refine bQ (λ x1=>?_);refine gQ ?_;refine J0 ?_;refine Kb7 ?_;refine Kc4 ?_;refine jE ?_
 refine aZ (λ c6=>?_) (λ c6=>?_)
 ·refine gU ?_;refine Rn ?_;refine J1 ?_
  refine aQ Tryz.results54 (λ w hw=>?_)
  first
  | exact⟨_,rfl,by unfold oK;simp;omega,hw.done⟩
  | exact⟨_,rfl,by unfold oK;simp_all;done,hw.done⟩
 ·refine jE ?_
  refine aZ (λ c11=>?_) (λ c11=>?_)
  ·refine gU ?_;refine wG ?_;refine J1 ?_
   refine aQ Tryz.results54 (λ w hw=>?_)
   first
   | exact⟨_,rfl,by unfold oK;simp;omega,hw.done⟩
   | exact⟨_,rfl,by unfold oK;simp_all;done,hw.done⟩
  ·refine jE ?_
   refine aZ (λ c16=>?_) (λ c16=>?_)
   ·refine gU ?_;refine P5 ?_
    refine aQ Tryz.results54 (λ w hw=>?_)
    first
    | exact⟨_,rfl,by unfold oK;simp;omega,hw.done⟩
    | exact⟨_,rfl,by unfold oK;simp_all;done,hw.done⟩
   ·refine Kb0 ?_
    refine aQ Tryz.results54 (λ w hw=>?_)
    first
    | exact⟨_,rfl,by unfold oK;simp;omega,hw.done⟩
    | exact⟨_,rfl,by unfold oK;simp_all;done,hw.done⟩
set_option maxRecDepth 100000 in
theorem sd(lv:Nat)(u:List Nat)(a b c:Nd)(w:World):Calls Tryz.prog 57 #[.agg ⟨I1 lv u a b c⟩] w λ e w'=>∃r:Bool,e=.returned (.bool r)/\(r=true↔(lv=0∨a.gen<=c.gen))/\St w [] [] w':=by
 refine enter Tryz.func57 Tryz.ntmps57 rfl rfl (SF.s0 w) ?_
 simp only[cO]
 refine J0 ?_;refine bQ (λ x1=>?_);refine J1 ?_;refine gU ?_;refine lJ ?_;refine aB ?_
 (refine eF 6 (λ g6=>?_) (λ g6=>?_)<;>refine Ka1 ?_)
 all_goals (refine J6 ?_;refine Ka1 ?_;refine J6 ?_;(first|refine aH ?_|(refine aF ?_;refine A9 ?_));refine Kc9 ?_)
 all_goals
 refine aQ Tryz.results57 (λ w hw=>?_)
 first
 | exact⟨_,rfl,by simp;omega,hw.done⟩
 | exact⟨_,rfl,by simp_all;done,hw.done⟩
end

end Go.Proofs.YtadnboagdhcedaaGreatDoor
