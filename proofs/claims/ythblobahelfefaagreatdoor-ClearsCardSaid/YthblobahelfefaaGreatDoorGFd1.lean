/- Merged. -/
import Derived.Test.YthblobahelfefaaGreatDoorGGc2
import Derived.Test.YthblobahelfefaaGreatDoorGTp2
import Derived.Test.YthblobahelfefaaGreatDoorGPa2
set_option linter.unusedSimpArgs false
set_option linter.unusedVariables false
namespace Go.Proofs.YthblobahelfefaaGreatDoor
open Go.Proofs.Tryz
open Go Go.RowKit Go.Ct
section
theorem vU(key:ByteArray){m:Nat}(hm:m<18446744073709551616)(hk:key.size<=4611686018427387903)(w:World):Calls prog 95 #[.string key,.int .u64 (m:Int)] w λ e w'=>e=.returned (.int .u64 ((tP key m:Nat):Int))/\St w [] [] w':=by
 refine enter func95 ntmps95 rfl rfl (SF.s0 w) ?_;simp only[bY];refine cC ?_;refine Ka5 ?_;refine lW ?_;refine Ka8 ?_;refine iI [5,6,9,10,11,12,13,14,15,16,17,18,19,20] (λ y:Nat=>[(9,.int .i64 ((y:Nat):Int)),(5,.int .u64 ((hsN key y:Nat):Int))]) (λ y=>y<=key.size) (λ y=>key.size-y) (0) (Nat.zero_le _) ?_ (λ y f hx=>?_);·repeat (first|exact bH _|refine aY (by exact rfl) ?_)
 refine K2b ?_;refine aX (λ c10=>?_) (λ c10=>?_)
 ·refine Kb4 ?_;refine P2 ?_;refine aD ?_;refine aK (jL (aCZ (s:=key) (i:=y) rf rf (by kernel_rfl) (by omega))) (λ x15=>?_);refine aA (Mg (k2:=.u8) rf (by kernel_rfl) (by exact qD rfl) ⟨fQ _,by have:=uv key y;omega⟩) rfl ?_;refine aA (aCs rf rf (Uf _ _) (by have:=uv key y;omega)) rfl ?_;refine J1 ?_;refine Js ?_;refine aA (aDo rf rf) rfl ?_;refine J1 ?_;refine Kb6 ?_;refine eO (y+1) ?_ ?_ ?_;·omega
  ·repeat' (first|exact bH _|refine aY ?_ ?_)
   all_goals (exact rfl)
  ·omega
 ·refine K1o ?_;refine lV ?_;refine aA (kz rf rf (Uf _ _) hm) rfl ?_;refine J1 ?_;refine aP results95 (λ w hw=>?_);have hy:y=key.size:=by omega
  subst hy;exact⟨rfl,hw.done⟩
theorem wB(key:ByteArray)(w:World):Calls prog 71 #[.string key] w λ e w'=>e=.returned (.bool (decide (key.size<=64)))/\St w [] [] w':=by refine enter func71 ntmps71 rfl rfl (SF.s0 w) ?_;simp only[bY];refine Kc1 ?_;refine lW ?_;refine xW ?_;refine J1 ?_;refine aP results71 (λ w hw=>?_);exact⟨by rw[show decide (key.size<=64)=decide ((key.size:Int)<=64) from decide_eq_decide.2 (by omega)];rfl,hw.done⟩
theorem H2{h:Nat}(hh:h<18446744073709551616)(level:Int)(w:World):Calls prog 145 #[.int .u64 (h:Int),.int .i64 level] w λ e w'=>e=.returned (.int .i64 (En h level))/\St w [] [] w':=by
 by_cases hl:level<0∨10<level
 ·unfold En;rw[if_pos hl];refine enter func145 ntmps145 rfl rfl (SF.s0 w) ?_;simp only[bY];refine Ka5 ?_;refine Q9 ?_;(refine kT 7 (λ g7=>?_) (λ g7=>?_)<;>refine Ka0 ?_);all_goals ((first|refine bG ?_|(refine aG ?_;refine kZ ?_));refine Kc2 ?_)
  all_goals
  refine aX (λ c10=>?_) (λ c10=>?_)
  ·all_goals try (exfalso;omega)
   all_goals refine cC ?_
   all_goals refine aP results145 (λ w hw=>?_);exact⟨rfl,hw.done⟩
  ·try exact nv c10
   all_goals try (exfalso;omega)
 ·obtain⟨l,rfl⟩:∃l:Nat,level=(l:Int):=⟨level.toNat,by omega⟩;unfold En;rw[if_neg hl];exact kF (l:=l) hh (by omega) w
theorem I5(v:Int)(w:World):Calls prog 149 #[.int .u64 v] w λ e w'=>e=.returned (.agg ⟨(eS (dW true v)).cells⟩)/\St w [] [] w':=by refine enter func149 ntmps149 rfl rfl (SF.s0 w) ?_;simp only[bY];refine J0 ?_;refine aI (λ x2=>?_);refine aC ?_;refine J2 ?_;refine bX ?_;refine aK (cV (hc:=λ w1 hw=>rP (dW true v) w1)) (λ x5=>?_);refine aM (cK λ _=>aE rf bU rf (aW _) cW rf dV) (λ _=>?_);refine aC ?_;refine bJ results149 (λ w hw=>?_);exact⟨rfl,hw.done⟩
theorem wL(w:World):Calls prog 146 #[] w λ e w'=>e=.returned (.agg ⟨(eS (dW false 0)).cells⟩)/\St w [] [] w':=by refine enter func146 ntmps146 rfl rfl (SF.s0 w) ?_;simp only[bY];refine J0 ?_;refine aI (λ x0=>?_);refine Kb0 ?_;refine bX ?_;refine aK (cV (hc:=λ w1 hw=>rP (dW false 0) w1)) (λ x2=>?_);refine aM (cK λ _=>aE rf bU rf (aW _) cW rf dV) (λ _=>?_);refine aC ?_;refine bJ results146 (λ w hw=>?_);exact⟨rfl,hw.done⟩
abbrev Jd(b:Nat)(t:nV)(key:ByteArray)(h:Nat):List Value:=[.iface 51 (.pointer (some ⟨b,0,none⟩)),.int .i64 t.root,.bool t.ro,.string key,.int .u64 (h:Int)]
theorem Zg{v:dJ}{b bf h:Nat}{t:nV}{key:ByteArray}{w:World}(hf:Go.Ct.Cl w (some ⟨bf,0,none⟩) (Jd b t key h)):Calls prog 147 #[pt bf,.agg ⟨v.nd.cells⟩] w λ e w'=>e=.returned (.agg ⟨(eS (if v.c.key=key then dW true v.c.val else dW false 0)).cells⟩)/\St w [] [] w':=by
 refine enter func147 ntmps147 rfl rfl (SF.s1 hf) ?_;simp only[bY];refine K1m ?_;intro x3;refine aI (λ x4=>?_);refine Bz ?_;refine K0y ?_;refine iX ?_;refine J9 ?_;refine bI (i:=5) (hq:=(iA (B:=[bx bf (Jd b t key h)]) bf (Jd b t key h) 3 (λ x hx=>hx) rfl)) (h:=?_);refine aBP ?_;refine dY ?_;refine aX (λ c11=>?_) (λ c11=>?_);·refine gP ?_;refine aK (cV (hc:=λ w1 hw=>I5 _ w1)) (λ x14=>?_);refine aM (cK λ _=>aE rf bU rf (aW _) cW rf dV) (λ _=>?_);refine aC ?_;refine bJ results147 (λ w hw=>?_);exact⟨by rw[if_pos (show v.c.key=key from(by simpa using c11:v.nd.key=key))];rfl,hw.done⟩
 ·refine Kb5 ?_;refine aK (cV (hc:=λ w1 hw=>wL w1)) (λ x15=>?_);refine aM (cK λ _=>aE rf bU rf (aW _) cW rf dV) (λ _=>?_);refine aC ?_;refine bJ results147 (λ w hw=>?_);exact⟨by rw[if_neg (show ¬v.c.key=key from(by simpa using c11:¬v.nd.key=key))];rfl,hw.done⟩
section
variable{w:World}{v:dJ}{n c:Nat}
theorem o7(h:rH n c v.c)(i:Int)(hr:Jy w v.nd v.xs v.ys):Calls prog 144 #[v.nd.v,.int .i64 i] w λ e w'=>e=.returned (.tuple #[.int .i64 ((lY v.c i).getD 0),.bool (lY v.c i).isSome])/\St w [] [] w':=by obtain⟨b,h1,h2⟩:=h.bm;have h3:v.nd.bm=(b:Int):=h1;have:=mc (n:=v.nd) i h3 h2 hr;rw[aEK h3 i] at this;exact this
end
section
variable{l:List Pr}{a:Option Addr}{c:Nat}{k:ByteArray}{v:Int}{w:World}
theorem Va(ha:Go.Ct.Cl w a (cY l))(hs:SA l)(hlen:l.length<=11728124029610) :
  Calls prog 224 #[.slice a l.length c,.string k,.func (.func 225) #[] #[]] w λ e w'=>∃i:Nat,e=.returned (.tuple #[.int .i64 (i:Int),.bool (decide (i<l.length/\(l.getD i (⟨#[]⟩,0)).1=k))])/\uX l k i/\St w [] [] w':=by
 refine enter func224 ntmps224 rfl rfl (SF.s1 ha) ?_;simp only[bY];refine Pa ?_;refine J2 ?_;refine cZ ?_;refine Kb7 ?_;refine J8 ?_;refine Np ?_;refine iI [9,10,11,15,16,17,18,19,20,21,22,23,24,25,26,27,28,29,30,31,32,33,34] (λ x:Nat×Nat=>[(9,.int .i64 ((x.1:Nat):Int)),(10,.int .i64 ((x.2:Nat):Int))]) (λ x=>x.1<=x.2/\x.2<=l.length/\(∀j,j<x.1->cG (l.getD j (⟨#[]⟩,0)).1 k=true)/\(∀j,x.2<=j->j<l.length->cG (l.getD j (⟨#[]⟩,0)).1 k=false)) (λ x=>x.2-x.1) ((0,l.length)) (⟨Nat.zero_le _,Nat.le_refl _,λ j hj=>absurd hj (Nat.not_lt_zero j),λ j h1 h2=>by omega⟩) ?_ (λ x f hx=>?_);·repeat (first|exact bH _|refine aY (by exact rfl) ?_)
 refine K0a ?_;refine Ir ?_;refine pD ?_;refine aX (λ c17=>?_) (λ c17=>?_)
 ·refine K0h ?_;intro x30;refine aX (λ c31=>?_) (λ c31=>?_)
  ·refine J70 ?_;refine eX ?_;refine eO ((by exact aB8 (p:=rU _ _<0) c31 ((x.1+x.2)/2+1,x.2))) ?_ ?_ ?_;·(simp only[];omega)
   ·repeat' (first|exact bH _|refine aY ?_ ?_)
    all_goals (exact rfl)
   ·obtain⟨q1,q2,q3,q4⟩:=hx
    first
    | exact⟨by show(x.1+x.2)/2+1<=x.2;omega,q2,Zd hs (by omega) (sS.1 c31),q4⟩
    | exact⟨by show x.1<=(x.1+x.2)/2;omega,by show(x.1+x.2)/2<=l.length;omega,q3,Y9 hs (Fk.1 c31)⟩
  ·refine Js ?_;refine J1 ?_;refine eX ?_;refine eO ((by exact(x.1,(x.1+x.2)/2))) ?_ ?_ ?_;·omega
   ·repeat' (first|exact bH _|refine aY ?_ ?_)
    all_goals (exact rfl)
   ·obtain⟨q1,q2,q3,q4⟩:=hx
    first
    | exact⟨by show(x.1+x.2)/2+1<=x.2;omega,q2,Zd hs (by omega) (sS.1 c31),q4⟩
    | exact⟨by show x.1<=(x.1+x.2)/2;omega,by show(x.1+x.2)/2<=l.length;omega,q3,Y9 hs (Fk.1 c31)⟩
 ·refine K1o ?_;refine lV ?_;refine aD ?_;refine Q9 ?_;(refine kT 39 (λ g39=>?_) (λ g39=>?_)<;>refine Ka0 ?_);all_goals (refine Ka0 ?_;refine Ka0 ?_;(first|refine bG ?_|(refine aG ?_;refine gS ?_));refine J29 ?_;((first|refine bG ?_|(refine aG ?_;(refine aK (by(exact cVd (v:=.int .i64 (rU (l.getD x.1 (⟨#[]⟩,0)).1 k)) rf (by(repeat (first|exact bK _|(apply aZ;focus ((conv=>{lhs;whnf});try exact rfl))));done) (by kernel_rfl) (λ w1 hw=>M4 _ k w1))) (λ x46=>?_)))));refine Ja ?_;refine J8 ?_)
  all_goals
  refine bJ results224 (λ w hw=>?_);obtain⟨q1,q2,q3,q4⟩:=hx;refine⟨x.1,?_,⟨by omega,q3,λ j h1 h2=>q4 j (by omega) h2⟩,hw.done⟩
  first
  | (rw[show(rU (l.getD x.1 (⟨#[]⟩,0)).1 k==0)=decide (x.1<l.length/\(l.getD x.1 (⟨#[]⟩,0)).1=k) by rw[Bool.eq_iff_iff];simp only[beq_iff_eq,decide_eq_true_eq,Yu];exact⟨λ h=>⟨by omega,h⟩,λ h=>h.2⟩];rfl)
  | (rw[show decide (x.1<l.length/\(l.getD x.1 (⟨#[]⟩,0)).1=k)=false from decide_eq_false (by omega)];rfl)
theorem n9(ha:Go.Ct.Cl w a (cY l))(hs:SA l)(hlen:l.length<=11728124029610) :
  Calls prog 183 #[.slice a l.length c,.string k] w λ e w'=>∃i:Nat,e=.returned (.tuple #[.int .i64 (i:Int),.bool (decide (i<l.length/\(l.getD i (⟨#[]⟩,0)).1=k))])/\uX l k i/\St w [] [] w':=by refine enter func183 ntmps183 rfl rfl (SF.s1 ha) ?_;simp only[bY];refine Pa ?_;refine lV ?_;refine aJ (c0 (V:=λ i:Nat=>.tuple #[.int .i64 (i:Int),.bool (decide (i<l.length/\(l.getD i (⟨#[]⟩,0)).1=k))]) (hc:=λ w1 hw=>Va (hw.cl fin) hs (by omega))) (λ x8 h8=>?_);refine K0v ?_;refine bJ results183 (λ w hw=>?_);exact⟨x8,rfl,h8,hw.done⟩
theorem dh(k:ByteArray)(ha:Go.Ct.Cl w a (cY l))(hlen:l.length<=11728124029610) :
  Calls prog 148 #[.slice a l.length c,.string k] w λ e w'=>e=.returned (.tuple #[.int .u64 ((cU l k).getD 0),.bool (cU l k).isSome])/\St w [] [] w':=by
 refine enter func148 ntmps148 rfl rfl (SF.s1 ha) ?_;simp only[bY];refine Pa ?_;refine jF ?_;refine aJ (c0 (V:=.bool) (hc:=λ w1 hw=>wG (hw.cl fin) (by omega))) (λ x9 h9=>?_);refine pG ?_;refine aX (λ c10=>?_) (λ c10=>?_);·refine Pa ?_;refine bJ results148 (λ w hw=>?_);rw[show cU l k=none from if_neg λ hs=>by rw[h9.2 (Cb.2 hs)] at c10;cases c10];exact⟨rfl,hw.done⟩
 ·have hs:SA l:=Cb.1 (h9.1 (by simpa using c10));refine Ix ?_;refine aJ (c0 (V:=λ i:Nat=>.tuple #[.int .i64 (i:Int),.bool (decide (i<l.length/\(l.getD i (⟨#[]⟩,0)).1=k))]) (hc:=λ w1 hw=>n9 (hw.cl fin) hs hlen)) (λ x14 h14=>?_);refine aD ?_;refine K0v ?_;refine jF ?_;refine pG ?_;refine aX (λ c18=>?_) (λ c18=>?_)
  ·refine Pa ?_;refine bJ results148 (λ w hw=>?_);have hnf:¬(x14<l.length/\(l.getD x14 (⟨#[]⟩,0)).1=k):=by simpa using c18
   rw[show cU l k=none from(if_pos hs).trans (nJ (B7 hs h14 hnf))];exact⟨rfl,hw.done⟩
  ·have hfd:x14<l.length/\(l.getD x14 (⟨#[]⟩,0)).1=k:=by simpa using c18
   have hx14:=hfd.1;refine Ix ?_;refine gS ?_;refine J3 ?_;refine J8 ?_;refine bJ results148 (λ w hw=>?_);rw[show cU l k=some (l.getD x14 (⟨#[]⟩,0)).2 from(if_pos hs).trans (Ce h14 hfd.1 hfd.2)];exact⟨rfl,hw.done⟩
end
theorem Zz{v:dJ}{p:Option Addr}{c:Nat}{key:ByteArray}{w:World}(hf:v.Fit)(ha:Go.Ct.Cl w p (cY v.ys)):Calls prog 148 #[.slice p v.nd.prN c,.string key] w λ e w'=>e=.returned (.tuple #[.int .u64 ((cU v.ys key).getD 0),.bool (cU v.ys key).isSome])/\St w [] [] w':=by rw[hf.prN];exact dh key ha hf.prS
end
end Go.Proofs.YthblobahelfefaaGreatDoor
namespace Go.Ct
open Go Go.RowKit
section
theorem aQ.pre{P:Program}{S:List (Nat×Value)}{G G2:World->Prop}{o:Oper}{X:Type}{V:X->Value}{G':X->World->Prop}(h:∀w,G w->G2 w)(hl:aQ P S G2 o X V G'):aQ P S G o X V G':=⟨λ w hw=>hl.run w (h w hw)⟩
end
end Go.Ct
namespace Go.Proofs.YthblobahelfefaaGreatDoor
open Go.Proofs.Tryz
open Go Go.RowKit Go.Ct
section
section
variable{D:List Nat}{A B:Fr}{a:AS}{b:Nat}{w:World}{f:FuncId}{cap:xK}{t:nV}
variable{Kt:Tr}{s:Mm}{b5:Nat}{v:Int}{nd:Nd}
theorem Yp(hK:X3 b Kt s f cap B)(hns:Ns Kt s)(o:Bool):jK b 178 [pt b5] [.bool o] (bx b5 [fn f cap]::B) s (Kt):=by
 intro a D A w em ok hm0 hA hB hw0;subst em;refine K1c ?_;intro hm;have hK2:=hK.more (B2:=(bx b5 [fn f cap]::B)) (λ x hx=>by simp[hx]);refine enter func178 ntmps178 rfl rfl hw0 ?_;simp only[bY]
 refine J0 ?_;refine aI (λ x3=>?_);refine Kb0 ?_;refine aA (iA b5 [fn f cap] 0 hB rfl) rfl ?_;refine aJ (Ik hK2.1 (hK2.2 a.mm (Mm.Le.refl _) hns) ok hm0 hA hB) (λ x5 h5=>?_);refine aM (cK λ _=>aE rf bU rf (aW _) cW rf dV) (λ _=>?_);refine aC ?_;refine bJ results178 (λ w hw=>?_);exact⟨x5,rfl,h5,hw.rN⟩
theorem yn{r:Int}{b4:Nat}(hK:X3 b Kt s f cap B)(hv:v<=s.nodes.length)(he:(aB s.nodes v).exp=nd.exp)(hst:(aB s.nodes v).status=nd.status)(hd:nd.status<=9223372036854775807):jK b 177 [pt b4,pt b5] [.int .i64 r] (bx b4 (nd.cells:List Value)::bx b5 [fn f cap]::B) s (.node v λ n2=>.node v λ n3=>.qG n3.status 0 (if r=n2.exp then 1 else 2) λ _=>Kt):=by
 intro a D A w em ok hm0 hA hB hw0;subst em;refine K1c ?_;intro hm;refine enter func177 ntmps177 rfl rfl hw0 ?_;simp only[bY];refine K1h ?_;intro x4;refine aC ?_;refine Ka5 ?_;refine aF ?_;refine aA (iA b4 (nd.cells:List Value) 11 hB rfl) rfl ?_;refine Fe ?_;refine aX (λ c9=>?_) (λ c9=>?_);·refine cD ?_;refine J1 ?_;refine J0 ?_;refine aF ?_;refine aA (iA b4 (nd.cells:List Value) 13 hB rfl) rfl ?_;refine aD ?_;refine K0q ?_;refine aK (cV (hc:=λ w1 hw=>qB _ _ _ _ _ w1)) (λ x14=>?_);refine aM (cK λ _=>aE rf bU rf (aW _) cW rf dV) (λ _=>?_);refine aC ?_;refine bJ results177 (λ w hw=>?_);refine⟨(qS nd.status 0 1 _ _,[],a),rfl,⟨⟨hv,hv,?_⟩,ok,AS.eC.refl a⟩,hw.rI⟩;dsimp only;rw[he,hst,if_pos (by omega)];exact⟨rfl,hd,by have:=ok.mo.two;omega,_,_,rfl,by kernel_rfl,λ o s1 l hns=>(Yp (b5:=b5) (hK.le l) hns o).mr (λ y hy=>List.mem_cons_of_mem _ hy)⟩
 ·refine Kb5 ?_;refine aF ?_;refine aA (iA b4 (nd.cells:List Value) 13 hB rfl) rfl ?_;refine aD ?_;refine K0q ?_;refine aK (cV (hc:=λ w1 hw=>qB _ _ _ _ _ w1)) (λ x14=>?_);refine aM (cK λ _=>aE rf bU rf (aW _) cW rf dV) (λ _=>?_);refine aC ?_;refine bJ results177 (λ w hw=>?_);refine⟨(qS nd.status 0 2 _ _,[],a),rfl,⟨⟨hv,hv,?_⟩,ok,AS.eC.refl a⟩,hw.rI⟩;dsimp only;rw[he,hst,if_neg (by omega)];exact⟨rfl,hd,by have:=ok.mo.two;omega,_,_,rfl,by kernel_rfl,λ o s1 l hns=>(Yp (b5:=b5) (hK.le l) hns o).mr (λ y hy=>List.mem_cons_of_mem _ hy)⟩
theorem Kj(ht:t.root<=9223372036854775807)(hK:X3 b Kt a.mm f cap B)(hv:v<=a.mm.nodes.length)(ho:(aB a.mm.nodes v).old=nd.old)(he:(aB a.mm.nodes v).exp=nd.exp)(hst:(aB a.mm.nodes v).status=nd.status)(ok:a.Ok)(hm:a.mm.Small)(hA:∀f∈cH a.L,f∈A)(hB:∀x∈B,x∈A)(hs:SF w D [(b,cX a),(a.u,a.po)] A [] (hU a) w) :
  Calls prog 140 #[.agg ⟨eZ b t⟩,nd.v,fn f cap] w (kC b (λ c' s' B'=>dZ b (oB t v Kt) a.mm c' s' B') a B D w):=by
 have hol:nd.old<=a.mm.nodes.length:=by rw[<- ho];exact(ok.mo.at v).old
 have hd:nd.status<=9223372036854775807:=by rw[<- hst];exact lF hm (ok.mo.at v).status
 have hT:∀x4 x5:Nat,tQ b (λ r=>.node v λ n2=>.node v λ n3=>.qG n3.status 0 (if r=n2.exp then 1 else 2) λ _=>Kt) a.mm 177 ⟨[],[.pointer (some ⟨x4,0,none⟩),.pointer (some ⟨x5,0,none⟩)]⟩ (bx x5 [fn f cap]::bx x4 (nd.cells:List Value)::B):=λ x4 x5=>⟨by kernel_rfl,λ r s1 l hr _=>(yn (b4:=x4) (b5:=x5) (nd:=nd) (hK.le l) E0c (by rw[l.nd hv];exact he) (by rw[l.nd hv];exact hst) hd).mr (λ y hy=>by simp only[List.mem_cons] at hy ⊢;rcases hy with h|h|h<;>simp[h])⟩
 refine enter func140 ntmps140 rfl rfl hs ?_;simp only[bY];simp only[Nd.v,Nd.cells];refine K1m ?_;intro x3;refine bC (λ x4=>?_);refine bC (λ x5=>?_);refine aI (λ x6=>?_);refine aC ?_;refine tB ?_;refine J3 ?_;refine K0q ?_;(refine aK (aQ.pre (λ w h=>(show SF _ _ [_,_,(b,cX a),(a.u,a.po)] _ [(bx x5 [fn f cap]:Option Addr×List Value),bx x4 (nd.cells:List Value)] _ w from(h.bP (.tail (.tail .head))).bP (.tail .head))) (cM (V:=λ y:Cd×Fr×AS=>.agg ⟨y.1.cells⟩) (hs:=[(b,cX a),(a.u,a.po)]) (os:=hU a) (hs':=λ y=>[(b,cX y.2.2),(y.2.2.u,y.2.2.po)]) (os':=λ y=>hU y.2.2) (Fc:=λ y=>y.2.1) (A0:=bx x5 [fn f cap]::bx x4 (nd.cells:List Value)::A) (hA:=bL.m6) (hc:=λ w1 hw=>Ay ht (hT x4 x5) hol ok hm (λ f hf=>List.mem_cons_of_mem _ (List.mem_cons_of_mem _ (hA f hf))) (Ia hB) hw))) (λ x11=>?_);try (refine eF (λ h11=>?_)));refine aM (cK λ _=>aE rf bU rf (aW _) cW rf dV) (λ _=>?_);refine aC ?_;refine bJ results140 (λ w hw=>?_);refine⟨(x11.1,x11.2.1++[bx x5 [fn f cap],bx x4 (nd.cells:List Value)],x11.2.2),rfl,⟨⟨hv,?_⟩,h11.2.1,h11.2.2.more (λ f hf=>List.mem_append_left _ hf)⟩,hw.rI⟩;dsimp only;rw[ho,List.append_assoc];exact h11.1
end
end
section
section
variable{D:List Nat}{A B:Fr}{a:AS}{b:Nat}{w:World}{f:FuncId}{cap:xK}{t:nV}
variable{v x:Int}{s:Mm}{b1 b2 b3 b0:Nat}{nd:Nd}
theorem ti{K:Int->Tr}(ht:t.root<=9223372036854775807)(hK:tQ b K s f cap B)(hv:v<=s.nodes.length):jK b 142 [pt b1,pt b2,pt b3] [.int .i64 x] (bx b1 (eZ b t)::bx b2 [iv v]::bx b3 [fn f cap]::B) s (lM t v x K):=by
 intro a D A w em ok hm0 hA hB hw0;subst em;refine K1c ?_;intro hm;have hK2:=hK.more (B2:=(bx b1 (eZ b t)::bx b2 [iv v]::bx b3 [fn f cap]::B)) (λ x hx=>by simp[hx]);refine enter func142 ntmps142 rfl rfl hw0 ?_;simp only[bY]
 refine J0 ?_;refine aI (λ x5=>?_);refine Kb0 ?_;refine K0g ?_;refine aJ (jN (λ w1 hw=>nF ht hK2 hv ok hm hA hB hw)) (λ x10 h10=>?_);refine aM (cK λ _=>aE rf bU rf (aW _) cW rf dV) (λ _=>?_);refine aC ?_;refine bJ results142 (λ w hw=>?_);exact⟨x10,rfl,h10,hw.rN⟩
theorem iq{K:Int->Tr}(ht:t.root<=9223372036854775807)(hK:tQ b K s f cap B)(hv:v<=s.nodes.length)(hst:(aB s.nodes v).status=nd.status):jK b 141 [pt b0,pt b1,pt b2,pt b3] [] (bx b0 (nd.cells:List Value)::bx b1 (eZ b t)::bx b2 [iv v]::bx b3 [fn f cap]::B) s (.node v λ n=>.load n.status λ s=>lM t v s K):=by
 intro a D A w em ok hm0 hA hB hw0;subst em;refine K1c ?_;intro hm;have hd:nd.status<=9223372036854775807:=by rw[<- hst];exact lF hm (ok.mo.at v).status
 refine enter func141 ntmps141 rfl rfl hw0 ?_;simp only[bY];refine K1h ?_;intro x4;refine Kb0 ?_;refine K1p ?_;refine K0q ?_;refine aK (cV (hc:=λ w1 hw=>lH _ _ _ w1)) (λ x8=>?_);refine aM (cK λ _=>aE rf bU rf (aW _) cW rf dV) (λ _=>?_);refine aC ?_;refine bJ results141 (λ w hw=>?_);refine⟨(lL nd.status _ _,[],a),rfl,⟨⟨hv,?_⟩,ok,AS.eC.refl a⟩,hw.rI⟩;dsimp only;rw[hst];exact⟨rfl,hd,_,_,rfl,by kernel_rfl,λ x s1 l hx _=>(ti (b1:=b1) (b2:=b2) (b3:=b3) ht (hK.le l) E0c).mr (λ y hy=>List.mem_cons_of_mem _ hy)⟩
theorem tz{K:Int->Tr}(ht:t.root<=9223372036854775807)(hK:tQ b K s f cap B)(hv:v<=s.nodes.length)(ho:(aB s.nodes v).old=nd.old)(he:(aB s.nodes v).exp=nd.exp)(hst:(aB s.nodes v).status=nd.status):jK b 138 [pt b1,pt b2,pt b3,pt b0] [.int .i64 x] (bx b1 (eZ b t)::bx b2 [iv v]::bx b3 [fn f cap]::bx b0 (nd.cells:List Value)::B) s (if x=0 then oB t v (.node v λ n=>.load n.status λ s=>lM t v s K) else lM t v x K):=by
 intro a D A w em ok hm0 hA hB hw0;subst em;refine K1c ?_;intro hm;have hK2:=hK.more (B2:=(bx b1 (eZ b t)::bx b2 [iv v]::bx b3 [fn f cap]::bx b0 (nd.cells:List Value)::B)) (λ x hx=>by simp[hx])
 have hT:X3 b (.node v λ n=>.load n.status λ s=>lM t v s K) a.mm 141 ⟨[],[.pointer (some ⟨b0,0,none⟩),.pointer (some ⟨b1,0,none⟩),.pointer (some ⟨b2,0,none⟩),.pointer (some ⟨b3,0,none⟩)]⟩ (bx b1 (eZ b t)::bx b2 [iv v]::bx b3 [fn f cap]::bx b0 (nd.cells:List Value)::B):=⟨by kernel_rfl,λ s1 l _=>(iq (b0:=b0) (b1:=b1) (b2:=b2) (b3:=b3) (nd:=nd) ht (hK.le l) E0c (by rw[l.nd hv];exact hst)).mr (λ y hy=>by simp only[List.mem_cons] at hy ⊢;rcases hy with h|h|h|h|h<;>simp[h])⟩
 refine enter func138 ntmps138 rfl rfl hw0 ?_;simp only[bY];refine J0 ?_;refine aI (λ x6=>?_);refine Kc3 ?_;refine Kc0 ?_;refine aX (λ c8=>?_) (λ c8=>?_);·refine J0 ?_;refine K0g ?_;refine aJ (jN (λ w1 hw=>nF ht hK2 hv ok hm hA hB hw)) (λ x13 h13=>?_);refine aM (cK λ _=>aE rf bU rf (aW _) cW rf dV) (λ _=>?_);refine aC ?_;refine bJ results138 (λ w hw=>?_);refine⟨x13,rfl,⟨?_,h13.2⟩,hw.rN⟩;rw[if_neg (by omega)];exact h13.1
 ·refine Kb5 ?_;refine K0k ?_;refine aA (Hq b0 (nd.cells:List Value) 0 14 hB rfl rfl) rfl ?_;refine K0q ?_;refine aJ (jN (λ w1 hw=>Kj (nd:=nd) ht hT hv ho he hst ok hm hA hB hw)) (λ x17 h17=>?_);refine aM (cK λ _=>aE rf bU rf (aW _) cW rf dV) (λ _=>?_);refine aC ?_;refine bJ results138 (λ w hw=>?_);refine⟨x17,rfl,⟨?_,h17.2⟩,hw.rN⟩;rw[if_pos (by omega)];exact h17.1
theorem qb{K:Int->Tr}(ht:t.root<=9223372036854775807)(hK:tQ b K s f cap B)(hv:v<=s.nodes.length)(hns:(aB s.nodes v).kind=2->Ns (K v) s):jK b 137 [pt b1,pt b3] [.int .i64 v] (bx b1 (eZ b t)::bx b3 [fn f cap]::B) s (.node v λ n=>if n.kind=2 then K v else .node v λ n=>.load n.status λ s=>if s=0 then oB t v (.node v λ n=>.load n.status λ s=>lM t v s K) else lM t v s K):=by
 intro a D A w em ok hm0 hA hB hw0;subst em;refine K1c ?_;intro hm;have hK2:=hK.more (B2:=(bx b1 (eZ b t)::bx b3 [fn f cap]::B)) (λ x hx=>by simp[hx]);have nv:=uB ok v;refine enter func137 ntmps137 rfl rfl hw0 ?_;simp only[bY]
 refine K1m ?_;intro x3;refine K2a ?_;intro x4 x9 h9 x5;refine aX (λ c12=>?_) (λ c12=>?_);·refine J0 ?_;refine aA (iA b3 [fn f cap] 0 hB rfl) rfl ?_;refine bW ?_;refine aJ (Ik hK2.1 (hK2.2 v a.mm (Mm.Le.refl _) hv (hns (by rw[dD];assumption))) ok hm0 hA hB) (λ x15 h15=>?_);refine aM (cK λ _=>aE rf bU rf (aW _) cW rf dV) (λ _=>?_);refine aC ?_;refine bJ results137 (λ w hw=>?_);refine⟨x15,rfl,⟨⟨hv,?_⟩,h15.2⟩,hw.rN⟩;rw[dD];dsimp only;rw[if_pos (by assumption)];exact h15.1
 ·refine bD ?_;refine gP ?_;refine K0q ?_;refine aK (cV (hc:=λ w1 hw=>lH _ _ _ w1)) (λ x19=>?_);refine aM (cK λ _=>aE rf bU rf (aW _) cW rf dV) (λ _=>?_);refine aC ?_;refine bJ results137 (λ w hw=>?_);refine⟨(lL (aV (bM a.L) v).nd.status _ _,[bx x5 (((aV (bM a.L) v).at_ x9.1 x9.2).nd.cells:List Value),bx x3 [iv v]],a),rfl,⟨⟨hv,?_⟩,ok,(AS.eC.refl a).more (λ _ h=>(List.not_mem_nil h).elim)⟩,?_⟩
  ·rw[dD];dsimp only;rw[if_neg (by assumption)];refine⟨hv,?_⟩;rw[dD];refine⟨rfl,lF hm nv.status,_,_,rfl,by kernel_rfl,λ x s1 l hx _=>?_⟩;have hlen:a.mm.nodes.length<=s1.nodes.length:=l.len
   exact(tz (b0:=x5) (b1:=b1) (b2:=x3) (b3:=b3) (nd:=((aV (bM a.L) v).at_ x9.1 x9.2).nd) ht (hK.le l) (by omega) (by rw[l.nd hv,dD];rfl) (by rw[l.nd hv,dD];rfl) (by rw[l.nd hv,dD];rfl)).mr (λ y hy=>by
   simp only[List.mem_cons,List.append_eq,List.nil_append,List.mem_append,List.not_mem_nil,or_false] at hy ⊢;rcases hy with h|h|h|h|h<;>simp[h])
  ·exact((hw.bP (.tail (.tail .head))).bP .head).rI
theorem Mn{K:Int->Tr}(ht:t.root<=9223372036854775807)(hK:tQ b K a.mm f cap B)(ok:a.Ok)(hm:a.mm.Small)(hA:∀f∈cH a.L,f∈A)(hB:∀x∈B,x∈A)(hs:SF w D [(b,cX a),(a.u,a.po)] A [] (hU a) w) :
  Calls prog 101 #[.agg ⟨eZ b t⟩,fn f cap] w (kC b (λ c' s' B'=>dZ b (xO t K) a.mm c' s' B') a B D w):=by refine enter func101 ntmps101 rfl rfl hs ?_;simp only[bY];refine K1j ?_;intro x2 x3;refine K2c ?_;intro x4 x9;refine aM (cK λ _=>aE rf bU rf (aW _) cW rf dV) (λ _=>?_);refine aC ?_;refine bJ results101 (λ w hw=>?_);refine⟨(lL t.root _ _,[bx x2 (eZ b t),bx x3 [fn f cap]],a),rfl,⟨⟨rfl,ht,_,_,rfl,by kernel_rfl,λ v s1 l hv hns=>qb (b1:=x2) (b3:=x3) ht (hK.le l) hv (λ k=>by have h:Ns (if(aB s1.nodes v).kind=2 then K v else _) s1:=hns;rw[if_pos k] at h;exact h)⟩,ok,(AS.eC.refl a).more (λ _ h=>(List.not_mem_nil h).elim)⟩,?_⟩;exact((hw.bP (.tail .head)).bP (.tail .head)).rI
end
end
section
theorem q6{v:Nv}{k b:Int}(h:lY v k=some b):v.kind=3:=by unfold lY at h;have:=nt (show(Y0 v.nd v.xs v.ys v.bm.toNat k).isSome=true by rw[h];rfl);exact this.1.1
structure Uz(n:Nat)(o:Option (Nat×List Int)):Prop where
 out:∀q,o=some q->q.1<18446744073709551616/\q.2.length<=64/\∀r∈q.2,r<=n
variable{xs:List Int}{p:Nat}{r v:Int}
theorem Yd{b:Nat}(h:BV b xs):xs.length<=64:=by rw[h.len];exact Ck b 64
theorem y6(h:v∈B8 xs p r):v∈xs∨v=r:=by
 unfold B8 at h;rcases List.mem_append.1 h with h|h;·exact .inl (List.mem_of_mem_take h)
 ·rcases List.mem_cons.1 h with h|h;·exact .inr h
  ·exact .inl (List.mem_of_mem_drop h)
theorem aAR(h:v∈sO xs p r):v∈xs∨v=r:=by
 unfold sO at h;rcases List.mem_append.1 h with h|h;·exact .inl (List.mem_of_mem_take h)
 ·rcases List.mem_cons.1 h with h|h;·exact .inr h
  ·exact .inl (List.mem_of_mem_drop h)
section
variable{n:Nd}{xs:List Int}{ys:List Pr}{b m:Nat}
theorem xq(hb:n.bm=(b:Int))(hb2:b<18446744073709551616)(hx:∀r∈xs,r<=m){r:Int}(hr:r<=m)(i:Int):Uz m (Jn n xs ys b i r):=⟨λ q hq=>by
 unfold Jn at hq;split at hq;·rename_i h;cases hq;obtain⟨h1,h2,h3⟩:=h;have hv:=h1.bv hb hb2;obtain⟨e1,e2,e3,e4⟩:=wO h3;have:=(ux hv (i:=i.toNat) (by omega) e3 h2).1;rw[<- e4] at this;exact⟨this.lt,Yd this,λ v hv=>(y6 hv).elim (hx v) (λ e=>e▸hr)⟩
 ·cases hq⟩
theorem zx(hb:n.bm=(b:Int))(hb2:b<18446744073709551616)(hx:∀r∈xs,r<=m){r:Int}(hr:r<=m)(i:Int):Uz m (K4 n xs ys b i r):=⟨λ q hq=>by
 unfold K4 at hq;split at hq
 ·rename_i h;cases hq;obtain⟨h1,h0,h2,h3⟩:=h;have hv:=h1.bv hb hb2;have e:i=((i.toNat:Nat):Int):=by omega
  have hk:i.toNat<64:=by omega
  rw[e] at h3 ⊢;rw[vO b hk] at h3;have:=(Nm hv (i:=i.toNat) hk h3 h2).1;rw[wQ b hk,qJ b hk];exact⟨this.lt,Yd this,λ v hv=>(aAR hv).elim (hx v) (λ e=>e▸hr)⟩
 ·cases hq⟩
end
theorem Uz.nvB{m c:Nat}{o:Option (Nat×List Int)}(h:Uz m o)(x:Option Addr×Nat):rH m c {(Ig o x).c (sQ o) [] with main:=0,prev:=0,status:=0}:=by
 rw[Vt];cases o with
 | none=>exact⟨fQ _,fQ _,fQ _,(λ r hr=>nomatch hr),fQ _,fQ _,fQ _,⟨0,rfl,by decide⟩,⟨0,rfl,by decide⟩⟩
 | some q=>have h1:=h.out q rfl;exact⟨fQ _,fQ _,fQ _,h1.2.2,fQ _,fQ _,fQ _,⟨q.1,rfl,h1.1⟩,⟨0,rfl,by decide⟩⟩
theorem N7(o:Option (Nat×List Int))(x:Option Addr×Nat):(Ig o x).brN=(sQ o).length:=by cases o<;>rfl
theorem O8(o:Option (Nat×List Int))(x:Option Addr×Nat):(Ig o x).prN=([]:List Pr).length:=by cases o<;>rfl
section
variable{v:dJ}{n c:Nat}{w:World}
theorem gZ(h:rH n c v.c):v.nd.bm=((v.c.bm.toNat:Nat):Int)/\v.c.bm.toNat<18446744073709551616:=by obtain⟨b,h1,h2⟩:=h.bm;have h3:v.nd.bm=(b:Int):=h1;have h4:v.c.bm=(b:Int):=h1;rw[h3,h4];exact⟨by simp,by simpa using h2⟩
theorem Hu(h:rH n c v.c)(i:Int):(lY v.c i).getD 0<=n:=by
 have h1:=gZ h;have e:=aEK (xs:=v.xs) (ys:=v.ys) h1.1 i;rw[show lY v.c i=lY (v.nd.c v.xs v.ys) i from rfl,<- e];unfold Y0;split
 ·exact Ya h.br _
 ·exact fQ _
abbrev Ji(v:dJ)(i r:Int):Option (Nat×List Int):=Jn v.nd v.xs v.ys v.c.bm.toNat i r
abbrev Wi(v:dJ)(i r:Int):Option (Nat×List Int):=K4 v.nd v.xs v.ys v.c.bm.toNat i r
theorem aBt(h:rH n c v.c)(i r:Int)(x:Option Addr×Nat):Kn v.c i r=(Ig (Ji v i r) x).c (sQ (Ji v i r)) []:=by rw[Vt];exact(aGd (gZ h).1 i r).symm
theorem aFk(h:rH n c v.c)(i r:Int)(x:Option Addr×Nat):Tm v.c i r=(Ig (Wi v i r) x).c (sQ (Wi v i r)) []:=by rw[Vt];exact(aF7 (gZ h).1 i r).symm
theorem Wv(h:rH n c v.c){r:Int}(hr:r<=n)(i:Int):Uz n (Ji v i r):=xq (gZ h).1 (gZ h).2 h.br hr i
theorem aBf(h:rH n c v.c){r:Int}(hr:r<=n)(i:Int):Uz n (Wi v i r):=zx (gZ h).1 (gZ h).2 h.br hr i
end
theorem eh{n c:Nat}{g:Int}:rH n c {(({Nd.zero with kind:=2,gen:=g}:Nd).c [] []) with main:=0,prev:=0,status:=0}:=⟨fQ _,fQ _,fQ _,(λ r hr=>nomatch hr),fQ _,fQ _,fQ _,⟨0,rfl,by decide⟩,⟨0,rfl,by decide⟩⟩
end
end Go.Proofs.YthblobahelfefaaGreatDoor
