/- Hash values of keys. -/
import Derived.Test.YtadnboagdhcedaaGreatDoorGArS
import Derived.Test.YtadnboagdhcedaaGreatDoorGGa
import Derived.Test.YtadnboagdhcedaaGreatDoorKw8
import Derived.Test.YtadnboagdhcedaaGreatDoorGNode4
import Derived.Test.YtadnboagdhcedaaGreatDoorGKw7
import Derived.Test.YtadnboagdhcedaaGreatDoorGEx10

set_option linter.unusedSimpArgs false
set_option linter.unusedVariables false
namespace Go.Ct
section
open Go Go.RowKit
def byt(s:ByteArray)(i:Nat):Nat:=(s.data.getD i 0).toNat
theorem M0(s:ByteArray)(i:Nat):byt s i<256:=(s.data.getD i 0).toNat_lt
def hsN(s:ByteArray):Nat->Nat
 | 0=>14695981039346656037
 | i+1=>((hsN s i ^^^ byt s i)*1099511628211)%18446744073709551616
theorem H5(s:ByteArray):∀i,hsN s i<18446744073709551616
 | 0=>by show 14695981039346656037<18446744073709551616;decide
 | _+1=>Nat.mod_lt _ (by decide)
def jW(s:ByteArray)(m:Nat):Nat:=hsN s s.size &&& m
theorem tK(s:ByteArray)(m:Nat):jW s m<18446744073709551616:=Nat.lt_of_le_of_lt Nat.and_le_left (H5 s _)
section
variable{P:Program}{S:List (Nat×Value)}{G:World->Prop}{d:Nat}{ty t t':TypeId}{pos:String}{af:Array Edge}{gd:Option (Nat×Bool)}{x y:Operand}{a b i:Nat}{s:ByteArray}
theorem gv(hx:ev S x=.string s)(hy:ev S y=.int .i64 (i:Int))(ht:P.underlying t=some .string)(h:i<s.size):aM P S G ⟨some d,.index t x y,ty,pos,af,gd⟩ (.int .u8 (byt s i:Int)):=⟨λ w _=>by
 have e:(s[((i:Nat):Int).toNat]'(by simpa using h)).toNat=byt s i:=by
  unfold byt
  rw[Array.getD_eq_getD_getElem?,Array.getElem?_eq_getElem (by simpa using h)]
  rfl
 simp only[execOp,hx,hy,Sem.run_bind]
 rw[run_index_string w t s .i64 i ht,dif_pos ⟨bT _,by omega⟩,e]
 rfl⟩
theorem il(hx:ev S x=.int .u64 (a:Int))(hy:ev S y=.int .u64 (b:Int))(ha:a<18446744073709551616)(hb:b<18446744073709551616):aM P S G ⟨some d,.binOp .xor t x y t',ty,pos,af,gd⟩ (.int .u64 ((a ^^^ b:Nat):Int)):=by
 have:=wx (P:=P) (G:=G) (d:=d) (ty:=ty) (pos:=pos) (af:=af) (gd:=gd) (t:=t) (t':=t') hx hy;rwa [ia ha hb] at this
theorem ay(hx:ev S x=.int .u64 (a:Int))(hy:ev S y=.int .u64 (b:Int)):aM P S G ⟨some d,.binOp .mul t x y t',ty,pos,af,gd⟩ (.int .u64 ((a*b%18446744073709551616:Nat):Int)):=by
 have:=ai (P:=P) (G:=G) (d:=d) (ty:=ty) (pos:=pos) (af:=af) (gd:=gd) (t:=t) (t':=t') hx hy
 have e:IntKind.u64.wrap ((a:Int)*(b:Int))=((a*b%18446744073709551616:Nat):Int):=by
  rw[<- Int.natCast_mul,wrap_u64]
  generalize a*b=q
  omega
 rwa [e] at this
end
end
end Go.Ct
namespace Go.Proofs.YtadnboagdhcedaaGreatDoor
section
open Go Go.RowKit Go.Ct
theorem pM(key:ByteArray){m:Nat}(hm:m<18446744073709551616)(hk:key.size<=4611686018427387903)(w:World):Calls Tryz.prog 63 #[.string key,.int .u64 (m:Int)] w λ e w'=>e=.returned (.int .u64 ((jW key m:Nat):Int))/\St w [] [] w':=by
 refine enter Tryz.func63 Tryz.ntmps63 rfl rfl (SF.s0 w) ?_;simp only[cP]
 refine cR ?_;refine Ke3 ?_;refine fK [5,6,7,8,9,10,11,12,13,14,15,16,17,18,19] (λ y:Nat=>[(6,.int .i64 ((y:Nat):Int)),(5,.int .u64 ((hsN key y:Nat):Int))]) (λ y=>y<=key.size) (λ y=>key.size-y) (0) (Nat.zero_le _) ?_ (λ y f hx=>?_)
 ·repeat (first|exact bC _|refine aY (by exact rfl) ?_)
 refine K0a ?_;refine B8 ?_;refine lF ?_;refine rJ ?_;refine bA (λ c10=>?_) (λ c10=>?_)
 ·refine mZ ?_;refine zT ?_;refine pK ?_;refine aS (fO (gv (s:=key) (i:=y) rf rf (by kernel_rfl) (by omega))) (λ x16=>?_);refine K2g ?_;refine aE (ay rf rf) rfl ?_;refine J1 ?_;refine Kc2 ?_;refine dW (y+1) ?_ ?_ ?_
  ·omega
  ·repeat' (first|exact bC _|refine aY ?_ ?_)
   all_goals (exact rfl)
  ·omega
 ·refine bM rfl ?_;refine jJ ?_;refine aE (R8 rf rf (H5 _ _) hm) rfl ?_;refine J1 ?_;refine aR Tryz.results63 (λ w hw=>?_);have hy:y=key.size:=by omega
  subst hy
  exact⟨rfl,hw.done⟩
theorem nW(key:ByteArray)(w:World):Calls Tryz.prog 107 #[.string key] w λ e w'=>e=.returned (.bool (decide (key.size<=64)))/\St w [] [] w':=by
 refine enter Tryz.func107 Tryz.ntmps107 rfl rfl (SF.s0 w) ?_;simp only[cP]
 refine cR ?_;refine J2 ?_;refine lF ?_;refine zM ?_;refine J1 ?_;refine aR Tryz.results107 (λ w hw=>?_);exact⟨by rw[show decide (key.size<=64)=decide ((key.size:Int)<=64) from decide_eq_decide.2 (by omega)];rfl,hw.done⟩
theorem hY(f:Bool)(v:Int)(w:World):Calls Tryz.prog 120 #[.bool f,.int .u64 v] w λ e w'=>e=.returned (.agg ⟨(Rs.mk 0 f v ⟨#[]⟩ 0 0 0 false).cells⟩)/\St w [] [] w':=by
 refine enter Tryz.func120 Tryz.ntmps120 rfl rfl (SF.s0 w) ?_;simp only[cP]
 refine J0 ?_;refine aT (λ x4=>?_);refine aK ?_;refine jJ ?_;refine B9 ?_;refine bK Tryz.results120 (λ w hw=>?_);exact⟨rfl,hw.done⟩
end

/- Worlds by what may happen: memories, tries, what is left of the operations. -/
end Go.Proofs.YtadnboagdhcedaaGreatDoor
namespace Go.Ct
section
open Go Go.RowKit
def mm0:Mm:=⟨[dH.c,dH.c,eH (({Nd.zero with kind:=3}:Nd).c [] []) 0,eH (({Nd.zero with kind:=2,gen:=1}:Nd).c [] []) 1],[0,3,4],1⟩
end
end Go.Ct
namespace Go.Proofs.YtadnboagdhcedaaGreatDoor
section
open Go Go.RowKit Go.Ct
open Classical in
noncomputable def H8 (m:Nat) (k:ByteArray):Nat:=if k∈mA then jW k m else 18446744073709551616
theorem vc{m h:Nat}{k:ByteArray}(e:H8 m k=h)(hl:h<18446744073709551616):k∈mA/\jW k m=h:=by
 unfold H8 at e
 split at e
 ·exact⟨by assumption,e⟩
 ·omega
inductive WR(H:ByteArray->Nat)(m:Nat):Mm->List iS->List Tr->Prop where
 | new:WR H m mm0 [⟨3,false⟩] []
 | start {s s':Mm} {ts:List iS} {rs:List Tr} {k:Cl} {n j:Nat} {t':Tr} (h:WR H m s ts rs) (hk:∀σ:Kw,σ.mm=s->Inv H σ->(∀t∈ts,dX σ t)->Ta H σ k (jW k.key m)) (hr:Rc j (mH k (jW k.key m) n) s t' s') (ha:Fe t'=true):WR H m s' ts (t'::rs)
 | step {s s':Mm} {ts:List iS} {rs:List Tr} {j:Nat} {t t':Tr} (h:WR H m s ts (t::rs)) (hr:Rc j t s t' s') (ha:Fe t'=true):WR H m s' ts (t'::rs)
 | perm {s:Mm} {ts:List iS} {rs rs':List Tr} (h:WR H m s ts rs) (hp:rs.Perm rs'):WR H m s ts rs'
 | drop {s:Mm} {ts:List iS} {rs:List Tr} {r:Rs} (h:WR H m s ts (.done r::rs)):WR H m s ts rs
 | add {s:Mm} {ts:List iS} {rs:List Tr} {r:Rs} (h:WR H m s ts (.done r::rs)) (h0:0<r.root):WR H m s (ts++[⟨r.root,r.ro⟩]) (.done r::rs)
def kw0:Kw:=⟨⟨[dH.c,dH.c],[],0⟩,λ _=>[],λ _=>0,λ _=>.no⟩
theorem xu{r:Int}(h1:1<=r)(h2:r<=2):kw0.nd r=dH.c:=by
 have:r=1∨r=2:=by omega
 rcases this with rfl|rfl<;>rfl
theorem Va(H:ByteArray->Nat):Inv H kw0:=by
 refine⟨by decide,rfl,rfl,Int.le_refl _,vK (Int.le_refl _),λ r h1 h2=>?_,λ c h1 h2=>?_⟩
 ·have h2':r<=2:=h2;have e:=xu h1 h2';have hok:=L3 (gen:=0) (n:=2) (Int.le_refl _);refine⟨by rw[e];exact hok.1,by rw[e];exact Int.le_refl _,by rw[e];exact⟨bT _,bT _,bT _,(λ r hr=>nomatch hr),bT _,bT _,bT _,jP,jP⟩,λ k=>?_,λ k=>?_,λ k=>?_,λ k=>?_,λ k=>?_,λ k=>?_,λ k=>?_⟩<;>rw[e] at k
  ·exact fC (a:=1) (b:=2) k
  ·exact fC (a:=1) (b:=3) k
  ·exact fC (a:=1) (b:=4) k
  ·exact fC (a:=1) (b:=5) k
  ·exact fC (a:=1) (b:=6) k
  ·exact fC (a:=1) (b:=7) k
  ·exact fC (a:=1) (b:=8) k
 ·exact absurd h2 (by show ¬c<=((0:Nat):Int);omega)
def We:Tr:=.alloc K5 0 λ c=>.gen λ g=>.alloc (uB g) c λ j=>.cell j λ r=>.done (Q3 r false)
theorem Zq{H:ByteArray->Nat}{σ:Kw}(i0:Inv H σ):WT H Q0 We σ:=by
 have hg:=i0.gen;have hnew:mE H σ K5 ([]:List Nat) (σ.mm.gen+1):=nQ (b:=0) (xs:=[]) i0 Kz (λ j hj v hv=>by simp[rA] at hv) (by simp) (λ h=>absurd h (by decide));refine gN i0 hnew (qX i0 (λ e=>fC (a:=3) (b:=2) e)) λ ρ e0 cl l3 i4 _ em e1 e2 e3 h1 h2=>?_;have hem:pP ρ e0 [] (σ.mm.gen+1):=pF (cl:=0) (.inl rfl) e1 e2 e3;have hgr:ρ.mm.gen=σ.mm.gen:=by rw[em];rfl
 refine L8 i4 λ χ l4 i5 e4=>?_;exact sA (g:=ρ.mm.gen+1) i5 (by omega) (by omega) (by simp) (hem.up l4) (by omega) λ ψ j l5 i6 hj=>E0 false i6 hj.1 λ ω c l6 i7 h0 hc=>λ _=>hc
theorem Y0:Rc 0 We kw0.mm (.done (Q3 3 false)) mm0 :=
 .Um (.Um (.Um (.Um (Rc.refl _ _) (Sp.alloc _ _ _ _)) (Sp.gen _ _)) (Sp.alloc _ _ _ _)) (Sp.cell _ _ _)
theorem Xa{H:ByteArray->Nat}:∀(r:Rs) (σ τ:Kw),Inv H σ->Inv H τ->Le σ τ->Q0 r σ->Q0 r τ:=λ _ _ _ _ _ l h=>h.up l
end

/- Shape: what well-formed means, without a program; the tries of worlds are well-formed. -/
end Go.Proofs.YtadnboagdhcedaaGreatDoor
namespace Go.Ct
section
theorem Bi(b:Nat):∀k,(fZ b k).length=gB b k
 | 0=>rfl
 | k+1=>by
  simp only[fZ,List.length_append,Bi b k,gB]
  split<;>simp_all
theorem U7{b:Nat}:∀{n j:Nat},j<gB b n->∃k,k<n/\b.testBit k=true/\gB b k=j/\(fZ b n).getD j 0=(k:Int)
 | 0,j,h=>absurd h (by simp[gB])
 | n+1,j,h=>by
  by_cases hj:j<gB b n
  ·obtain⟨k,h1,h2,h3,h4⟩:=U7 hj
   refine⟨k,by omega,h2,h3,?_⟩
   rw[<- h4]
   simp only[fZ]
   rw[gF,gF,List.getElem?_append_left (by rw[Bi];exact hj)]
  ·have hb:b.testBit n=true:=by
    cases hb:b.testBit n with
    | true=>rfl
    | false=>simp only[gB,hb] at h;simp at h;omega
   have hj2:gB b n=j:=by simp only[gB,hb] at h;simp at h;omega
   refine⟨n,by omega,hb,hj2,?_⟩
   simp only[fZ,hb,if_true]
   rw[gF,List.getElem?_append_right (by rw[Bi];omega),Bi,hj2,Nat.sub_self]
   rfl
end
end Go.Ct
namespace Go.Proofs.YtadnboagdhcedaaGreatDoor
section
open Go Go.RowKit Go.Ct
def uD(m:Nat)(h:Int)(k:ByteArray)(w:List Nat):Prop:=((jW k m:Nat):Int)=h/\fQ h.toNat w
def mT(k:Int)(lv:Nat):Prop:=(k=3/\lv<11)∨(k=5/\0<lv)∨(k=6/\lv=11)
def Zf(n:Nv)(j:Nat):Nat:=((fZ n.bm.toNat 64).getD j 0).toNat
structure WFn(N:List Nv)(m:Nat)(n:Nv)(w:List Nat):Prop where
 kd:mT n.kind w.length
 br:n.kind=3->0<w.length->n.xs≠[]/\∀b,n.xs=[b]->(bH N b).kind=2
 h5:n.kind=5->uD m n.hash n.key w
 h6:n.kind=6->∀p∈n.ys,uD m n.hash p.1 w
 h3:n.kind=3->∀j,j<n.xs.length->(bH N (n.xs.getD j 0)).kind=4->uD m (bH N (n.xs.getD j 0)).hash (bH N (n.xs.getD j 0)).key w/\sl (bH N (n.xs.getD j 0)).hash.toNat w.length=Zf n j
def Nt(N:List Nv)(cs:List Int)(m:Nat):Nat->Int->List Nat->Int->Prop
 | 0,_,_,_=>False
 | n+1,i,w,ga=>∃r,dB N cs i=some r/\WFn N m (bH N r) w/\(w=[]∨(bH N i).gen<=ga)/\∀j,j<(bH N r).xs.length->(bH N ((bH N r).xs.getD j 0)).kind=2->Nt N cs m n ((bH N r).xs.getD j 0) (w++[Zf (bH N r) j]) (bH N i).gen
section
variable{m:Nat}{σ:Kw}{w:List Nat}{r i g:Int}
theorem Jr{h k:Nat}(hu:fQ h (w++[k])):fQ h w/\sl h w.length=k:=by
 constructor
 ·intro j hj
  have:=hu j (by rw[List.length_append];omega);rwa [gF,List.getElem?_append_left hj,<- gF] at this
 ·have:=hu w.length (by rw[List.length_append,List.length_singleton];omega);rw[gF,List.getElem?_append_right (Nat.le_refl _),Nat.sub_self] at this;exact this
theorem Me(i0:Inv (H8 m) σ){x:Int}(hx:1<=x/\x<=σ.len){k:ByteArray}(h:H8 m k=(σ.nd x).hash.toNat):((jW k m:Nat):Int)=(σ.nd x).hash:=by
 obtain⟨b,hb,hlt⟩:=(i0.nd x hx.1 hx.2).bd.hash
 have e:(σ.nd x).hash.toNat=b:=by rw[hb];rfl
 have:=(vc h (by rw[e];exact hlt)).2;rw[this,e,hb]
theorem mB.at{b:Nat}{xs:List Int}(hc:mB σ r w g b xs){j:Nat}(hj:j<xs.length):Zf (σ.nd r) j<64/\rA b xs (Zf (σ.nd r) j)=some (xs.getD j 0):=by
 have hl:=hc.bv.len;obtain⟨k,h1,h2,h3,h4⟩:=U7 (b:=b) (n:=64) (j:=j) (by omega)
 have e:Zf (σ.nd r) j=k:=by unfold Zf;rw[hc.bm,h4];rfl
 rw[e]
 exact⟨h1,by unfold rA;rw[if_pos h2,h3]⟩
theorem aAb(i0:Inv (H8 m) σ)(hm:pP σ r w g):WFn σ.mm.nodes m (σ.nd r) w:=by
 have hr:=hm.in;have hn:=i0.nd r hr.1 hr.2;have hw:=hm.2.1;refine⟨?_,λ k3 h0=>(hm.uF i0 k3).ne h0,λ k5=>?_,λ k6 p hp=>?_,λ k3 j hj k4=>?_⟩
 ·rcases hm.1 with h|h|h
  ·exact .inl ⟨h,by have:=(hm.uF i0 h).wl;omega⟩
  ·have:=hn.k5 h;rw[hw] at this;exact .inr (.inl ⟨h,this.1⟩)
  ·have:=hn.k6 h;rw[hw] at this;exact .inr (.inr ⟨h,this.1⟩)
 ·have:=hn.k5 k5;rw[hw] at this;exact⟨Me i0 hr this.2.2.1,this.2.2.2.1⟩
 ·have:=hn.k6 k6;rw[hw] at this;exact⟨Me i0 hr (this.2.2.1 p hp),this.2.1⟩
 ·have hc:=hm.uF i0 k3;obtain⟨h1,h2⟩:=hc.at hj
  rcases hc.br _ h1 _ h2 with hb|hb
  ·obtain⟨u1,u2⟩:=Jr hb.2
   have hbr:=eF (N:=σ.mm.nodes) (i:=(σ.nd r).xs.getD j 0) (by rw[k4];decide);exact⟨⟨Me i0 hbr ((i0.nd _ hbr.1 hbr.2).k4 hb.1),u1⟩,u2⟩
  ·have:(σ.nd ((σ.nd r).xs.getD j 0)).kind=4:=k4;omega
theorem au(i0:Inv (H8 m) σ):∀(n:Nat) (i:Int) (w:List Nat) (g ga:Int),sN σ i w g->(w=[]∨g<=ga)->12<=w.length+n->Nt σ.mm.nodes σ.mm.cs m n i w ga
 | 0,i,w,g,ga,hi,_,hn=>by have:=(hi.N5 i0).2.2;omega
 | n+1,i,w,g,ga,hi,hg,hn=>by
  obtain⟨r,hb,hm⟩:=Ml i0 hi
  refine⟨r,hb,aAb i0 hm,hg.imp id λ h=>by rw[show(bH σ.mm.nodes i).gen=g from hi.2];exact h,λ j hj k2=>?_⟩
  have k3:(σ.nd r).kind=3:=by
   rcases hm.1 with h|h|h
   ·exact h
   ·have hv:=(i0.nd r hm.in.1 hm.in.2).valid;exact absurd hj (by rw[show(bH σ.mm.nodes r).xs=[] from hv.1.2.2.2.2.1.trans (if_neg (by have h':(σ.nd r).nd.kind=5:=h;rw[h'];decide))];simp)
   ·have hv:=(i0.nd r hm.in.1 hm.in.2).valid;exact absurd hj (by rw[show(bH σ.mm.nodes r).xs=[] from hv.1.2.2.2.2.1.trans (if_neg (by have h':(σ.nd r).nd.kind=6:=h;rw[h'];decide))];simp)
  have hc:=hm.uF i0 k3;obtain⟨h1,h2⟩:=hc.at hj
  rcases hc.br _ h1 _ h2 with hb|hb
  ·have:(σ.nd ((σ.nd r).xs.getD j 0)).kind=2:=k2;omega
  ·have hig:sN σ ((σ.nd r).xs.getD j 0) (w++[Zf (σ.nd r) j]) (σ.nd ((σ.nd r).xs.getD j 0)).gen:=⟨⟨hb.1,hb.2.1⟩,rfl⟩;exact au i0 n _ _ _ _ hig (.inr (by rw[show(bH σ.mm.nodes i).gen=g from hi.2];exact hb.2.2)) (by rw[List.length_append,List.length_singleton];omega)
end
end

/- Shape: a trie is well-formed just where all its places are good. -/
end Go.Proofs.YtadnboagdhcedaaGreatDoor
namespace Go.Ct
section
theorem U9(b:Nat):∀n x,x∈fZ b n->0<=x
 | 0,x,h=>nomatch h
 | n+1,x,h=>by
  simp only[fZ] at h
  rcases List.mem_append.1 h with h|h
  ·exact U9 b n x h
  ·split at h
   ·rw[List.mem_singleton.1 h];exact Int.natCast_nonneg _
   ·cases h
theorem xG(b n j:Nat):0<=(fZ b n).getD j 0:=by
 rw[gF]
 cases h:(fZ b n)[j]? with
 | none=>exact Int.le_refl _
 | some x=>exact U9 b n x (List.mem_of_getElem? h)
theorem L9{N:List Nv}{f:Int->List Int->List Int->Option (List Pl×List Pr)}{way idx:List Int}{G:Pl->Prop}{F:Int->Nat->Prop}(hf:∀b k s q,f b (way++[idx.getD k 0]) s=some q->(F b k↔∀p∈q.1,G p)):∀(xs:List Int) (j:Nat) (s:List Int) (q:List Pl×List Pr),yQ N f way idx xs j s=some q->((∀p∈q.1,G p)↔∀k,k<xs.length->(bH N (xs.getD k 0)).kind=2->F (xs.getD k 0) (j+k))
 | [],j,s,q,h=>by
  simp only[yQ,Option.some.injEq] at h
  subst h
  exact⟨λ _ k hk=>absurd hk (by simp),λ _ p hp=>nomatch hp⟩
 | b::r,j,s,q,h=>by
  have all:(∀k,k<(b::r).length->(bH N ((b::r).getD k 0)).kind=2->F ((b::r).getD k 0) (j+k))↔((bH N b).kind=2->F b j)/\(∀k,k<r.length->(bH N (r.getD k 0)).kind=2->F (r.getD k 0) (j+1+k)):=by
   constructor
   ·intro h1
    refine⟨λ h2=>h1 0 (by simp) h2,λ k hk h2=>?_⟩;have:=h1 (k+1) (by simp;omega) h2;rwa [show j+(k+1)=j+1+k by omega] at this
   ·rintro ⟨h1,h2⟩ k hk h3
    cases k with
    | zero=>exact h1 h3
    | succ k=>rw[show j+(k+1)=j+1+k by omega];exact h2 k (by simpa using hk) h3
  rw[all]
  simp only[yQ] at h
  split at h
  ·rename_i h4
   obtain⟨q2,h5,h6⟩:=Option.map_eq_some_iff.1 h
   subst h6;have ih:=L9 hf r (j+1) s q2 h5;rw[<- ih];exact⟨λ h=>⟨λ h2=>by rw[h4] at h2;exact absurd h2 (by decide),h⟩,λ h=>h.2⟩
  ·split at h
   ·rename_i h4 h2
    obtain⟨q1,h5,h6⟩:=Option.bind_eq_some_iff.1 h
    obtain⟨q2,h7,h8⟩:=Option.map_eq_some_iff.1 h6
    subst h8;have ih:=L9 hf r (j+1) _ q2 h7;rw[<- ih,hf b j s q1 h5];constructor
    ·intro h
     exact⟨λ _ p hp=>h p (List.mem_append_left _ hp),λ p hp=>h p (List.mem_append_right _ hp)⟩
    ·rintro ⟨h9,h10⟩ p hp
     rcases List.mem_append.1 hp with hp|hp
     ·exact h9 h2 p hp
     ·exact h10 p hp
   ·cases h
end
end Go.Ct
namespace Go.Proofs.YtadnboagdhcedaaGreatDoor
section
open Go Go.RowKit Go.Ct
def vN(N:List Nv)(m:Nat)(p:Pl):Prop:=(p.a<=0∨(bH N p.i).gen<=(bH N p.a).gen)/\WFn N m (bH N p.m) (p.way.map Int.toNat)
abbrev nA(w:List Nat):List Int:=w.map λ k:Nat=>(k:Int)
theorem lh(w:List Nat):(nA w).map Int.toNat=w:=by
 unfold nA
 rw[List.map_map]
 conv=>rhs;rw[<- List.map_id w]
 exact List.map_congr_left λ k _=>rfl
theorem Vo{N:List Nv}{cs:List Int}{m:Nat}(hx:∀r,(bH N r).kind=5∨(bH N r).kind=6->(bH N r).xs=[]):∀(n:Nat) (i:Int) (w:List Nat) (a:Int) (s:List Int) (q:List Pl×List Pr),tU N cs n a w.length i (nA w) s=some q->(a<=0↔w=[])->(Nt N cs m n i w (bH N a).gen↔∀p∈q.1,vN N m p)
 | 0,i,w,a,s,q,h,_=>nomatch h
 | n+1,i,w,a,s,q,h,ha=>by
  simp only[tU] at h
  split at h
  ·cases h
  obtain⟨r,hb,h⟩:=Option.bind_eq_some_iff.1 h
  have head:∀P:Prop,(WFn N m (bH N r) w/\(w=[]∨(bH N i).gen<=(bH N a).gen)/\P)↔(vN N m ⟨i,r,a,w.length,nA w⟩/\P):=by
   intro P
   unfold vN
   simp only[lh]
   rw[ha]
   exact⟨λ h=>⟨⟨h.2.1,h.1⟩,h.2.2⟩,λ h=>⟨h.1.2,h.1.1,h.2⟩⟩
  have wf:Nt N cs m (n+1) i w (bH N a).gen↔vN N m ⟨i,r,a,w.length,nA w⟩/\∀j,j<(bH N r).xs.length->(bH N ((bH N r).xs.getD j 0)).kind=2->Nt N cs m n ((bH N r).xs.getD j 0) (w++[Zf (bH N r) j]) (bH N i).gen:=by
   rw[<- head]
   simp only[Nt]
   constructor
   ·rintro ⟨r',h1,h2⟩
    rw[hb] at h1
    cases h1
    exact h2
   ·exact λ h=>⟨r,hb,h⟩
  rw[wf]
  have hi:¬i<=0:=λ hi=>by
   have hk:(bH N i).kind=2:=by
    unfold dB at hb
    split at hb
    ·rename_i h1;exact h1.1
    ·cases hb
   unfold bH at hk
   rw[if_neg (by omega)] at hk
   exact absurd hk (by decide)
  split at h
  ·rename_i hk
   cases h
   rw[hx r hk]
   exact⟨λ h p hp=>by rw[List.mem_singleton.1 hp];exact h.1,λ h=>⟨h _ (List.mem_singleton.2 rfl),λ j hj=>absurd hj (by simp)⟩⟩
  ·obtain⟨q2,h2,h3⟩:=Option.map_eq_some_iff.1 h
   subst h3
   have key:=L9 (G:=vN N m) (F:=λ b k=>Nt N cs m n b (w++[Zf (bH N r) k]) (bH N i).gen) (λ b k s q hq=>by
    have e:nA w++[(fZ (bH N r).bm.toNat 64).getD k 0]=nA (w++[Zf (bH N r) k]):=by
     unfold nA Zf;rw[List.map_append];have:=xG (bH N r).bm.toNat 64 k;simp only[List.map_cons,List.map_nil]
     rw[Int.toNat_of_nonneg this]
    rw[e] at hq;have hl:w.length+1=(w++[Zf (bH N r) k]).length:=by simp
    rw[hl] at hq
    exact Vo hx n b _ i s q hq ⟨λ h=>absurd h hi,λ h=>absurd h (by simp)⟩) _ _ _ _ h2
   simp only[Nat.zero_add] at key
   rw[<- key]
   constructor
   ·rintro ⟨h4,h5⟩ p hp
    rcases List.mem_cons.1 hp with rfl|hp
    ·exact h4
    ·exact h5 p hp
   ·exact λ h=>⟨h _ (List.mem_cons_self ..),λ p hp=>h p (List.mem_cons_of_mem _ hp)⟩
end

/- Shape: what the walk through a trie needs: main nodes all the way down; ways as arrays. -/
end Go.Proofs.YtadnboagdhcedaaGreatDoor
namespace Go.Ct
section
def Sr(N:List Nv)(cs:List Int):Nat->Int->Prop
 | 0,_=>False
 | n+1,i=>∃r,dB N cs i=some r/\∀b∈(bH N r).xs,(bH N b).kind=4∨((bH N b).kind=2/\Sr N cs n b)
theorem La{N:List Nv}{f:Int->List Int->List Int->Option (List Pl×List Pr)}{way idx:List Int}{T:Int->Prop}(hf:∀b w s q,f b w s=some q->T b):∀(xs:List Int) (j:Nat) (s:List Int) (q:List Pl×List Pr),yQ N f way idx xs j s=some q->∀b∈xs,(bH N b).kind=4∨((bH N b).kind=2/\T b)
 | [],_,_,_,_,_,hb=>nomatch hb
 | x::r,j,s,q,h,b,hb=>by
  simp only[yQ] at h
  split at h
  ·rename_i h4
   obtain⟨q2,h5,_⟩:=Option.map_eq_some_iff.1 h
   rcases List.mem_cons.1 hb with rfl|hb
   ·exact .inl h4
   ·exact La hf r _ _ _ h5 b hb
  ·split at h
   ·rename_i h2
    obtain⟨q1,h5,h6⟩:=Option.bind_eq_some_iff.1 h
    obtain⟨q2,h7,_⟩:=Option.map_eq_some_iff.1 h6
    rcases List.mem_cons.1 hb with rfl|hb
    ·exact .inr ⟨h2,hf _ _ _ _ h5⟩
    ·exact La hf r _ _ _ h7 b hb
   ·cases h
theorem Uh{N:List Nv}{cs:List Int}(hx:∀r,(bH N r).kind=5∨(bH N r).kind=6->(bH N r).xs=[]):∀(n:Nat) (a:Int) (lv:Nat) (i:Int) (way s:List Int) (q:List Pl×List Pr),tU N cs n a lv i way s=some q->Sr N cs n i
 | 0,_,_,_,_,_,_,h=>nomatch h
 | n+1,a,lv,i,way,s,q,h=>by
  simp only[tU] at h
  split at h
  ·cases h
  obtain⟨r,hb,h⟩:=Option.bind_eq_some_iff.1 h
  refine⟨r,hb,?_⟩
  split at h
  ·rename_i hk
   rw[hx r hk]
   exact λ b hb=>nomatch hb
  ·obtain⟨q2,h2,_⟩:=Option.map_eq_some_iff.1 h
   exact La (λ b w s q hq=>Uh hx n _ _ _ _ _ _ hq) _ _ _ _ h2
def Wv(w:List Nat):List Value:=(List.range 11).map λ k=>.int .i64 ((w.getD k 0:Nat):Int)
theorem nX(w:List Nat):(Wv w).length=11:=by simp[Wv]
theorem Rv{w:List Nat}{k:Nat}(hk:k<11):(Wv w)[k]?=some (.int .i64 ((w.getD k 0:Nat):Int)):=by
 unfold Wv
 rw[List.getElem?_map,List.getElem?_range hk]
 rfl
theorem px{w:List Nat}{k:Nat}(h:w.length<11):(Wv w).set w.length (.int .i64 ((k:Nat):Int))=Wv (w++[k]):=by
 refine List.ext_getElem? λ i=>?_;by_cases hi:i<11
 ·rw[Rv hi,List.getElem?_set]
  split
  ·rename_i e
   subst e
   rw[if_pos (by rw[nX];exact hi),gF,List.getElem?_append_right (Nat.le_refl _),Nat.sub_self]
   rfl
  ·rename_i e
   rw[Rv hi]
   by_cases h2:i<w.length
   ·rw[gF,gF,List.getElem?_append_left h2]
   ·rw[gF,gF,List.getElem?_eq_none (by omega),List.getElem?_eq_none (by rw[List.length_append,List.length_singleton];omega)]
 ·rw[List.getElem?_eq_none (by rw[List.length_set,nX];omega),List.getElem?_eq_none (by rw[nX];omega)]
end

/- The program's shape, part 2: what a place must be. -/
section
def L6(lv:Nat)(w:List Nat)(a b c:Nd):List Value:=.int .i64 ((lv:Nat):Int)::(Wv w++(a.cells++(b.cells++c.cells)))
end
end Go.Ct
namespace Go.Proofs.YtadnboagdhcedaaGreatDoor
section
open Go Go.RowKit Go.Ct
set_option maxRecDepth 100000 in
theorem tg(lv:Nat)(u:List Nat)(a b c:Nd)(w:World):Calls Tryz.prog 54 #[.agg ⟨L6 lv u a b c⟩] w λ e w'=>∃r:Bool,e=.returned (.bool r)/\(r=true↔mT b.kind lv)/\St w [] [] w':=by
 refine enter Tryz.func54 Tryz.ntmps54 rfl rfl (SF.s0 w) ?_;simp only[cP]
 refine K1k ?_;intro x1;refine gX ?_;refine J0 ?_;refine Kc5 ?_;refine Kd4 ?_;refine bA (λ c6=>?_) (λ c6=>?_)
 ·refine gH ?_;refine Wc ?_;refine J1 ?_;refine aR Tryz.results54 (λ w hw=>?_);first
  | exact⟨_,rfl,by unfold mT;simp;omega,hw.done⟩
  | exact⟨_,rfl,by unfold mT;simp_all;done,hw.done⟩
 ·refine jM ?_;refine bA (λ c11=>?_) (λ c11=>?_)
  ·refine gH ?_;refine vH ?_;refine J1 ?_;refine aR Tryz.results54 (λ w hw=>?_);first
   | exact⟨_,rfl,by unfold mT;simp;omega,hw.done⟩
   | exact⟨_,rfl,by unfold mT;simp_all;done,hw.done⟩
  ·refine jM ?_;refine bA (λ c16=>?_) (λ c16=>?_)
   ·refine gH ?_;refine Oa ?_;refine aR Tryz.results54 (λ w hw=>?_);first
    | exact⟨_,rfl,by unfold mT;simp;omega,hw.done⟩
    | exact⟨_,rfl,by unfold mT;simp_all;done,hw.done⟩
   ·refine Kb6 ?_;refine aR Tryz.results54 (λ w hw=>?_);first
    | exact⟨_,rfl,by unfold mT;simp;omega,hw.done⟩
    | exact⟨_,rfl,by unfold mT;simp_all;done,hw.done⟩
set_option maxRecDepth 100000 in
theorem aAv(lv:Nat)(u:List Nat)(a b c:Nd)(w:World):Calls Tryz.prog 57 #[.agg ⟨L6 lv u a b c⟩] w λ e w'=>∃r:Bool,e=.returned (.bool r)/\(r=true↔(lv=0∨a.gen<=c.gen))/\St w [] [] w':=by
 refine enter Tryz.func57 Tryz.ntmps57 rfl rfl (SF.s0 w) ?_;simp only[cP]
 refine K1k ?_;intro x1;refine J1 ?_;refine gH ?_;refine lC ?_;refine aB ?_;(refine eM 6 (λ g6=>?_) (λ g6=>?_)<;>refine Ka1 ?_);all_goals (refine J6 ?_;refine Ka1 ?_;refine J6 ?_;(first|refine aJ ?_|(refine aF ?_;refine zM ?_));refine Kd0 ?_)
 all_goals
 refine aR Tryz.results57 (λ w hw=>?_);first
 | exact⟨_,rfl,by simp;omega,hw.done⟩
 | exact⟨_,rfl,by simp_all;done,hw.done⟩
end

end Go.Proofs.YtadnboagdhcedaaGreatDoor
