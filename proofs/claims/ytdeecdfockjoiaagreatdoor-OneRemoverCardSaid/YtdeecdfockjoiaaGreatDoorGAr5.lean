/- Merged. -/
import Derived.Test.YtdeecdfockjoiaaGreatDoorGBr4
import Derived.Test.YtdeecdfockjoiaaGreatDoorGNode1
import Derived.Test.YtdeecdfockjoiaaGreatDoorGShort
import Derived.Test.YtdeecdfockjoiaaGreatDoorGPa2
set_option linter.unusedSimpArgs false
set_option linter.unusedVariables false
namespace Go.Ct
section
theorem Cl.H4{w:Go.World}{cs:List Go.Value}(h:Cl w none cs):cs=[]:=by
 cases cs with
 | nil=>rfl
 | cons v r=>exact absurd (h.ptr (by simp)) (by simp)
theorem Hu{L:List dW}{k:Nat}(h:k<2):aK (aV L) ((k+1:Nat):Int)=Eh:=by rw[Rv (by rw[oA];omega)];rcases(show k=0∨k=1 by omega) with rfl|rfl<;>rfl
theorem L4{L:List dW}{k:Nat}(h:2<=k)(h2:k<L.length+2):aK (aV L) ((k+1:Nat):Int)=L.getD (k+1-2-1) dW.zero:=by rw[Rv (by rw[oA];omega)];obtain⟨j,rfl⟩:∃j,k=j+2:=⟨k-2,by omega⟩;rw[show j+2+1-2-1=j by omega];rfl
end
end Go.Ct
namespace Go.Proofs.YtdeecdfockjoiaaGreatDoor
open Go.Proofs.Tryz
open Go.RowKit Go.Ct
section
variable{w:World}{D:List Nat}{b:Nat}{L:List dW}{cs:List Int}{gen acc:Int}{pn pc:Option Addr}{cn cc:Nat}{A:Fr}
theorem aA9(w:World):Calls prog 22 #[] w λ e w'=>∃q:Nat,e=.returned (.pointer (some ⟨q,0,none⟩))/\True /\
  SF w [] [(q,aO [] [] 0 0 none 0 none 0)] [] [] (mW [] [] none 0 none 0) w':=by refine enter func22 ntmps22 rfl rfl (SF.s0 w) ?_;simp only[cN];refine eD ?_;refine Ke0 ?_;refine bC (λ x2=>?_);refine J1 ?_;refine bJ results22 (λ w hw=>?_);exact⟨x2,rfl,trivial,((hw.gN 39 1).gN 194 14).fS⟩
theorem l5(hs:SF w D [(b,aO L cs gen acc pn cn pc cc)] A [] (mW L cs pn cn pc cc) w)(r:Int)(hr:r<1)(hl:L.length<=274877906944) :
  Calls prog 340 #[.pointer (some ⟨b,0,none⟩),.int .i64 r] w λ e w'=>∃q:Option Addr×Option Addr,e=.returned ((aK (aV L) r).at_ q.1 q.2).nd.v/\True /\
  SF w D [(b,aO L cs gen acc pn cn pc cc)] [] [] (mW L cs pn cn pc cc++[⟨q.2,dF (aK (aV L) r).ys,(aK (aV L) r).ys.length,182,2⟩,⟨q.1,aT (aK (aV L) r).xs,(aK (aV L) r).xs.length,39,1⟩]) w':=by
 rw[Jj (by omega)];refine enter func340 ntmps340 rfl rfl (vD hs) ?_;simp only[cN];refine K2f ?_;intro x4;refine Ke3 ?_;refine Ph ?_;(refine mN 7 (λ g7=>?_) (λ g7=>?_)<;>(try (exfalso;omega))<;>(refine aZ ?_));refine K0y ?_;refine w9 ?_;refine aE ?_;refine aX (λ c12=>?_) (λ c12=>?_)
 ·try (exfalso;omega)
  refine J0 ?_;refine Sv ?_;refine bF results340 (λ w hw=>?_);exact⟨(none,none),rfl,trivial,(hw.aAZ 182 2 39 1).fS⟩
 ·exact nv c12
theorem li(hs:SF w D [(b,aO L cs gen acc pn cn pc cc)] (dD L) [] (mW L cs pn cn pc cc) w)(hf:Fits L){k:Nat}(hk:(k:Int)<9223372036854775807)(hl:L.length<=274877906944) :
  Calls prog 340 #[.pointer (some ⟨b,0,none⟩),.int .i64 ((k+1:Nat):Int)] w λ e w'=>∃q:Option Addr×Option Addr,e=.returned ((aK (aV L) ((k+1:Nat):Int)).at_ q.1 q.2).nd.v/\True /\
  SF w D [(b,aO L cs gen acc pn cn pc cc)] [] [] (mW L cs pn cn pc cc++[⟨q.2,dF (aK (aV L) ((k+1:Nat):Int)).ys,(aK (aV L) ((k+1:Nat):Int)).ys.length,182,2⟩,⟨q.1,aT (aK (aV L) ((k+1:Nat):Int)).xs,(aK (aV L) ((k+1:Nat):Int)).xs.length,39,1⟩]) w':=by
 refine enter func340 ntmps340 rfl rfl (vD hs) ?_;simp only[cN];refine K2f ?_;intro x4;refine Ke3 ?_;refine Ph ?_;(refine Ka2 ?_);((refine Ka2 ?_));((refine aF ?_;refine aI (cM (hc:=λ w hs=>rY (m:=L.length) hs (by omega))) (λ x10 h10=>?_)));refine w9 ?_;refine aE ?_;refine aX (λ c12=>?_) (λ c12=>?_)
 ·try (exfalso;omega)
  refine J0 ?_;refine Sv ?_;refine bF results340 (λ w hw=>?_);exact⟨(none,none),by rw[Jj (by rw[oA];omega)];rfl,trivial,by rw[Jj (by rw[oA];omega)];exact(hw.aAZ 182 2 39 1).fS⟩
 ·try (exfalso;omega)
  refine lL ?_;refine J2 ?_;refine yC ?_;refine aE ?_;refine aX (λ c15=>?_) (λ c15=>?_)
  ·try (exfalso;omega)
   refine J0 ?_;refine Sv ?_;refine bF results340 (λ w hw=>?_);exact⟨(none,none),by rw[Hu (by omega)];rfl,trivial,by rw[Hu (by omega)];exact(hw.aAZ 182 2 39 1).fS⟩
  ·try (exfalso;omega)
   refine bk ?_;refine aB ?_;refine aA (by exact aBi (n:=2) rf rf (by omega) (by omega)) rfl ?_;refine aA (by exact oS rf rf (by omega) (by omega)) rfl ?_;refine J53 ?_;refine aI (aj (Hc:=λ _=>[]) (Fc:=λ _=>[]) (V:=λ p:Option Addr×Option Addr=>((L.getD (k+1-2-1) dW.zero).at_ p.1 p.2).nd.v) (hc:=λ w1 hw=>X0 (hw.aCP hf (by omega)) (hf.at (by omega)).brS (hf.at (by omega)).prS)) (λ x26 h26=>?_);refine J5 ?_;refine bF results340 (λ w hw=>?_);exact⟨x26,by rw[L4 (by omega) (by omega)];rfl,trivial,by rw[L4 (by omega) (by omega)];exact hw.toEnd.fS⟩
end
section
variable{w:World}{D:List Nat}{b:Nat}{L:List dW}{cs:List Int}{gen acc:Int}{pn pc:Option Addr}{cn cc:Nat}{A:Fr}
theorem Xo(hs:SF w D [(b,aO L cs gen acc pn cn pc cc)] (dD L) [] (mW L cs pn cn pc cc) w)(hf:Fits L)(r:Int)(hr:r<=9223372036854775807)(hl:L.length<=274877906944) :
  Calls prog 340 #[.pointer (some ⟨b,0,none⟩),.int .i64 r] w λ e w'=>∃q:Option Addr×Option Addr,e=.returned (.agg ⟨((aK (aV L) r).at_ q.1 q.2).nd.cells⟩)/\True /\
  SF w D [(b,aO L cs gen acc pn cn pc cc)] [] [] (mW L cs pn cn pc cc++[⟨q.2,dF (aK (aV L) r).ys,(aK (aV L) r).ys.length,182,2⟩,⟨q.1,aT (aK (aV L) r).xs,(aK (aV L) r).xs.length,39,1⟩]) w':=by
 rcases Int.lt_or_le r 1 with h|h;·exact l5 hs r h hl
 ·obtain⟨k,rfl⟩:∃k:Nat,r=((k+1:Nat):Int):=⟨(r-1).toNat,by omega⟩;exact li hs hf (by omega) hl
end
end Go.Proofs.YtdeecdfockjoiaaGreatDoor
namespace Go.Ct
section
def aDd(n:Nd):Option Int:=if n.kind=2 then some n.main else if n.kind=3∨n.kind=5∨n.kind=6 then some n.prev else if n.kind=8 then some n.status else none
def aCU(u:Option (List Bool))(n:Nd):Option (List Bool) :=
 match u with
 | none=>none
 | some u=>match aDd n with
  | none=>some u
  | some c=>if 1<=c/\c<=u.length/\u.getD (c-1).toNat false=false then some (u.set (c-1).toNat true) else none
def marks(m:Nat)(L:List dW):Option (List Bool):=L.foldl (λ u v=>aCU u v.nd) (some (List.replicate m false))
def S4(r:Int)(n:Nat):Prop:=0<=r/\r<=(n:Int)
instance (r:Int) (n:Nat):Decidable (S4 r n):=inferInstanceAs (Decidable (0<=r/\r<=(n:Int)))
def aBR(n:Nd)(xs:List Int)(N:Nat):Prop:=(∀i,i<xs.length->S4 (xs.getD i 0) N)/\S4 n.old N/\S4 n.exp N/\S4 n.new N
def aBh(gen:Int)(N:Nat)(v:dW):Prop:=fW v.nd v.xs v.ys/\v.nd.gen<=gen/\aBR v.nd v.xs N
end
end Go.Ct
namespace Go.Proofs.YtdeecdfockjoiaaGreatDoor
open Go.RowKit Go.Ct
section
end
section
end
end Go.Proofs.YtdeecdfockjoiaaGreatDoor
namespace Go.Ct
section
end
end Go.Ct
namespace Go.Proofs.YtdeecdfockjoiaaGreatDoor
open Go.RowKit Go.Ct
section
end
end Go.Proofs.YtdeecdfockjoiaaGreatDoor
namespace Go.Ct
section
end
section
inductive Tr where
 | done (r:Rs)
 | load (c:Int) (k:Int->Tr)
 | sJ (c o n:Int) (k:Bool->Tr)
 | alloc (n:Nv) (i:Int) (k:Int->Tr)
 | cell (i:Int) (k:Int->Tr)
 | gen (k:Int->Tr)
 | node (r:Int) (k:Nv->Tr)
 | stuck
abbrev Pv:=(Nat×Go.Obj)×Ow
structure Mm where
 nodes:List Nv
 cs:List Int
 gen:Int
 pv:Pv
def Nv.zero:Nv:=dW.zero.c
def aD(L:List Nv)(r:Int):Nv:=if 1<=r/\r<=L.length then L.getD (r-1).toNat Nv.zero else Nv.zero
theorem Yi(L:List dW)(r:Int):(aK L r).c=aD (L.map dW.c) r:=by
 unfold aK aD;rw[List.length_map];split
 ·rename_i h;have h2:(r-1).toNat<L.length:=by omega
  simp only[Gp,List.getElem?_map,List.getElem?_eq_getElem h2,Option.map_some,Option.getD_some]
 ·rfl
theorem qE{L N:List Nv}{r:Int}(h:r<=L.length):aD (L++N) r=aD L r:=by
 unfold aD;by_cases h1:1<=r;·rw[if_pos ⟨h1,by simp;omega⟩,if_pos ⟨h1,h⟩,Gp,Gp,List.getElem?_append_left (by omega)]
 ·rw[if_neg (by omega),if_neg (by omega)]
def fY(n:Nv)(c:Nat):Nv:={n with main:=if n.kind=2 then((c+1:Nat):Int) else 0,prev:=if n.kind=3∨n.kind=5∨n.kind=6 then((c+1:Nat):Int) else 0,status:=if n.kind=8 then((c+1:Nat):Int) else 0}
def Mm.push(s:Mm)(n:Nv)(i:Int):Mm:=⟨s.nodes++[fY n s.cs.length],gH n.kind s.cs i,s.gen,s.pv⟩
end
section
def yE(n:Nv):Prop:=n.kind=3∨n.kind=5∨n.kind=6
instance (n:Nv):Decidable (yE n):=by unfold yE;exact inferInstance
end
section
end
end Go.Ct
namespace Go.Proofs.YtdeecdfockjoiaaGreatDoor
open Go.RowKit Go.Ct
section
end
end Go.Proofs.YtdeecdfockjoiaaGreatDoor
namespace Go.Ct
section
def Nv.nd(v:Nv):Nd:=⟨v.kind,v.gen,v.main,v.bm,none,v.xs.length,0,v.hash,v.key,v.val,none,v.ys.length,0,v.prev,v.old,v.exp,v.new,v.status⟩
def Nv.dv(v:Nv):dW:=⟨v.nd,v.xs,v.ys⟩
theorem Vq{n:Nd}{xs:List Int}{ys:List Pr}:fW n xs ys↔fW (n.c xs ys).nd xs ys:=by
 have e:Kf n n.own xs (n.oQ xs) ys (n.mB ys)↔Kf (n.c xs ys).nd (n.c xs ys).nd.own xs ((n.c xs ys).nd.oQ xs) ys ((n.c xs ys).nd.mB ys):=by
  rw[Q5,Q5];have e1:n.own.c (n.oQ xs) (n.mB ys)=(n.c xs ys).nd.own.c ((n.c xs ys).nd.oQ xs) ((n.c xs ys).nd.mB ys):=by
   have hx:(n.c xs ys).nd.oQ xs=n.oQ xs:=rfl;have hy:(n.c xs ys).nd.mB ys=n.mB ys:=rfl;have hk:(n.c xs ys).nd.kind=n.kind:=rfl;rw[hx,hy];unfold Nd.own;rw[hk];repeat' split
   all_goals rfl
  rw[e1];exact Iff.rfl
 unfold fW;rw[e];exact Iff.rfl
end
end Go.Ct
namespace Go.Proofs.YtdeecdfockjoiaaGreatDoor
open Go.RowKit Go.Ct
section
variable{n:Nd}{xs:List Int}{ys:List Pr}
theorem aDa:CV n xs ys↔CV (n.c xs ys).nd xs ys:=by unfold CV;rw[Vq (n:=n)];exact Iff.rfl
theorem aD1:LV n xs ys↔LV (n.c xs ys).nd xs ys:=by unfold LV;rw[Vq (n:=n)];exact Iff.rfl
theorem Jz:CV (n.c xs ys).nd (n.c xs ys).xs (n.c xs ys).ys=CV n xs ys:=propext aDa.symm
theorem s7:LV (n.c xs ys).nd (n.c xs ys).xs (n.c xs ys).ys=LV n xs ys:=propext aD1.symm
def Fq(b:Nat)(xs:List Int):Nv:=(cn b xs (none,0)).c xs []
def iU(v:Nv)(i:Int):Option Int:=V5 v.nd v.xs v.ys v.bm.toNat i
def uX(v:Nv):Option Int:=b9 v.nd v.xs v.ys
def Tw(o:Option (Nat×List Int)):Nv:=match o with|some q=>Fq q.1 q.2|none=>Nv.zero
def az(v:Nv)(i r:Int):Nv:=Tw (O0 v.nd v.xs v.ys v.bm.toNat i r)
def Cj(v:Nv)(i r:Int):Nv:=Tw (Cy v.nd v.xs v.ys v.bm.toNat i r)
def uL(v:Nv)(i:Int):Nv:=Tw (R4 v.nd v.xs v.ys v.bm.toNat i)
def tmV(s:Nv):Nv:=(tmb s.nd).c [] []
def Pd(v:Nv)(level:Int)(s:Nv):Nv:=if Jm v.nd v.xs v.ys level s.nd=true then tmV s else v
def F6(v:Nv):Nv:=(mG v.nd).c [] []
def grV(v:Nv)(k:ByteArray)(u:Int):Nv:=(wh (iY v.nd v.xs v.ys k u) v.hash (none,0)).c [] (jf (iY v.nd v.xs v.ys k u))
def bc(v:Nv)(k:ByteArray):Nv:=(Sy (mE v.nd v.xs v.ys k) v.hash (none,0)).c [] (H6 (mE v.nd v.xs v.ys k))
section
variable{n s:Nd}{xs:List Int}{ys:List Pr}{b:Nat}
theorem aDj(hb:n.bm=(b:Int))(i:Int):V5 n xs ys b i=iU (n.c xs ys) i:=by
 have e:(n.c xs ys).bm.toNat=b:=by show n.bm.toNat=b;omega
 unfold iU V5;rw[e];simp only[Jz (n:=n)];try rfl
theorem aCG:b9 n xs ys=uX (n.c xs ys):=by unfold uX b9;simp only[Jz (n:=n)];try rfl
theorem N3(o:Option (Nat×List Int))(x:Option Addr×Nat):(lI o x).c (gY o) []=Tw o:=by cases o<;>rfl
theorem aDp(hb:n.bm=(b:Int))(i r:Int):Tw (O0 n xs ys b i r)=az (n.c xs ys) i r:=by
 have e:(n.c xs ys).bm.toNat=b:=by show n.bm.toNat=b;omega
 unfold az O0;rw[e];simp only[Jz (n:=n)];try rfl
theorem aDo(hb:n.bm=(b:Int))(i r:Int):Tw (Cy n xs ys b i r)=Cj (n.c xs ys) i r:=by
 have e:(n.c xs ys).bm.toNat=b:=by show n.bm.toNat=b;omega
 unfold Cj Cy;rw[e];simp only[Jz (n:=n)];try rfl
theorem aDy(hb:n.bm=(b:Int))(i:Int):Tw (R4 n xs ys b i)=uL (n.c xs ys) i:=by
 have e:(n.c xs ys).bm.toNat=b:=by show n.bm.toNat=b;omega
 unfold uL R4;rw[e];simp only[Jz (n:=n)];try rfl
theorem aDg(level:Int):(reN (Jm n xs ys level s) n s).c (Ea (Jm n xs ys level s) xs) (Ea (Jm n xs ys level s) ys)=Pd (n.c xs ys) level (s.c [] []):=by
 have e:Jm (n.c xs ys).nd xs ys level (s.c [] []).nd=Jm n xs ys level s:=by unfold Jm;rw[aCG (n:=n)];rfl
 have e':Jm (n.c xs ys).nd (n.c xs ys).xs (n.c xs ys).ys level (s.c [] []).nd=Jm n xs ys level s:=e;unfold Pd reN Ea;rw[e'];split<;>rfl
theorem aD0:(mG n).c [] []=F6 (n.c xs ys):=by unfold F6 mG;show _=Nd.c (if n.kind=5 then _ else _) _ _;split<;>rfl
theorem aDW(k:ByteArray)(u:Int)(x:Option Addr×Nat):(wh (iY n xs ys k u) n.hash x).c [] (jf (iY n xs ys k u))=grV (n.c xs ys) k u:=by
 have e':iY (n.c xs ys).nd (n.c xs ys).xs (n.c xs ys).ys k u=iY n xs ys k u:=by unfold iY;simp only[s7 (n:=n)];try rfl
 unfold grV;rw[e'];cases iY n xs ys k u<;>rfl
theorem aDZ(k:ByteArray)(x:Option Addr×Nat):(Sy (mE n xs ys k) n.hash x).c [] (H6 (mE n xs ys k))=bc (n.c xs ys) k:=by
 have e':mE (n.c xs ys).nd (n.c xs ys).xs (n.c xs ys).ys k=mE n xs ys k:=by unfold mE;simp only[s7 (n:=n)];try rfl
 unfold bc;rw[e'];cases mE n xs ys k with
 | none=>rfl
 | some m=>unfold Sy;simp only[H6];split<;>rfl
end
end
end Go.Proofs.YtdeecdfockjoiaaGreatDoor
namespace Go.Ct
open Go Go.RowKit
section
def sl(h l:Nat):Nat:=(h >>> (6*l))%64
theorem nJ(h l:Nat):sl h l<64:=Nat.mod_lt _ (by decide)
theorem im(h l:Nat):(h >>> (6*l)) &&& 63=sl h l:=Nat.and_two_pow_sub_one_eq_mod _ 6
def Gz(h k:Nat):Nat->Nat->Nat
 | 0,l=>l
 | n+1,l=>if sl h l=sl k l then Gz h k n (l+1) else l
def xR(h k:Nat):Nat:=Gz h k 11 0
theorem xB(h k:Nat):∀n l,l<=Gz h k n l/\Gz h k n l<=l+n/\(∀i,l<=i->i<Gz h k n l->sl h i=sl k i)/\(Gz h k n l<l+n->sl h (Gz h k n l)≠sl k (Gz h k n l))
 | 0,l=>⟨Nat.le_refl _,Nat.le_refl _,λ i h1 h2=>absurd h2 (by simp only[Gz];omega),λ h=>absurd h (by simp only[Gz];omega)⟩
 | n+1,l=>by
  simp only[Gz];split
  ·rename_i he;obtain⟨h1,h2,h3,h4⟩:=xB h k n (l+1);refine⟨by omega,by omega,λ i hi hi2=>?_,λ hlt=>h4 (by omega)⟩;rcases Nat.lt_or_eq_of_le hi with hi|rfl;·exact h3 i (by omega) hi2
   ·exact he
  ·rename_i he;exact⟨Nat.le_refl _,by omega,λ i h1 h2=>absurd h2 (by omega),λ _=>he⟩
theorem zZ(h k:Nat):xR h k<=11:=by have:=(xB h k 11 0).2.1;unfold xR;omega
theorem Tp{h k i:Nat}(hi:i<xR h k):sl h i=sl k i:=(xB h k 11 0).2.2.1 i (Nat.zero_le _) hi
theorem Nn{h k:Nat}(hc:xR h k<11):sl h (xR h k)≠sl k (xR h k):=(xB h k 11 0).2.2.2 (by unfold xR at hc;omega)
theorem gp{h k l:Nat}(hl:l<=11)(h1:∀i,i<l->sl h i=sl k i)(h2:l<11->sl h l≠sl k l):l=xR h k:=by
 rcases Nat.lt_trichotomy l (xR h k) with h3|h3|h3;·exact absurd (Tp h3) (h2 (by have:=zZ h k;omega))
 ·exact h3
 ·exact absurd (h1 _ h3) (Nn (by omega))
section
variable{P:Program}{S:List (Nat×Value)}{G:World->Prop}{d:Nat}{ty t t':TypeId}{pos:String}{af:Array Edge}{gd:Option (Nat×Bool)}{x y:Operand}{a b i:Nat}{k':IntKind}
theorem Vt(hx:ev S x=.int .i64 (a:Int))(hy:ev S y=.int .i64 (b:Int))(h:a*b<=9223372036854775807):aN P S G ⟨some d,.binOp .mul t x y t',ty,pos,af,gd⟩ (.int .i64 ((a*b:Nat):Int)):=by have:=o6 (P:=P) (G:=G) (d:=d) (ty:=ty) (pos:=pos) (af:=af) (gd:=gd) (t:=t) (t':=t') hx hy;rw[<- Int.natCast_mul,wrap_i64 (by omega) (by omega)] at this;exact this
theorem aBo(hx:ev S x=.int .u64 (a:Int))(hy:ev S y=.int k' (i:Int))(h:i<=64):aN P S G ⟨some d,.binOp .shr t x y t',ty,pos,af,gd⟩ (.int .u64 ((a >>> i:Nat):Int)):=by have:=V9 (P:=P) (G:=G) (d:=d) (ty:=ty) (pos:=pos) (af:=af) (gd:=gd) (t:=t) (t':=t') hx hy (by omega);rwa [oE h] at this
theorem my(hx:ev S x=.int .u64 (a:Int))(hy:ev S y=.int .u64 (b:Int))(ha:a<18446744073709551616)(hb:b<18446744073709551616):aN P S G ⟨some d,.binOp .and t x y t',ty,pos,af,gd⟩ (.int .u64 ((a &&& b:Nat):Int)):=by have:=nj (P:=P) (G:=G) (d:=d) (ty:=ty) (pos:=pos) (af:=af) (gd:=gd) (t:=t) (t':=t') hx hy;rwa [oD ha hb] at this
end
end
end Go.Ct
namespace Go.Proofs.YtdeecdfockjoiaaGreatDoor
open Go.Proofs.Tryz
open Go.RowKit Go.Ct
section
theorem nP{h l:Nat}(hh:h<18446744073709551616)(hl:l<=10)(w:World):Calls prog 140 #[.int .u64 (h:Int),.int .i64 (l:Int)] w λ e w'=>e=.returned (.int .i64 ((sl h l:Nat):Int))/\St w [] [] w':=by
 have hsl:(h >>> (6*l)) &&& 63<64:=by rw[im];exact nJ h l
 refine enter func140 ntmps140 rfl rfl (SF.s0 w) ?_;simp only[cN];refine K3n ?_;((refine Kd1 ?_));refine Kb1 ?_;refine aX (λ c10=>?_) (λ c10=>?_);·try (exfalso;omega)
 ·try (exfalso;omega)
  refine yO ?_;refine aA (Vt (a:=6) (b:=l) rf rf (by omega)) rfl ?_;refine fR ?_;refine aA (aBo (i:=6*l) rf rf (by omega)) rfl ?_;refine aA (my (b:=63) rf rf (Nat.lt_of_le_of_lt (Nat.shiftRight_le _ _) hh) (by decide)) rfl ?_;refine fR ?_;refine J1 ?_;refine bJ results140 (λ w hw=>?_);exact⟨by rw[im];rfl,hw.done⟩
theorem Tb{h k:Nat}(hh:h<18446744073709551616)(hk:k<18446744073709551616)(w:World):Calls prog 201 #[.int .u64 (h:Int),.int .u64 (k:Int)] w λ e w'=>e=.returned (.int .i64 ((xR h k:Nat):Int))/\St w [] [] w':=by
 refine enter func201 ntmps201 rfl rfl (SF.s0 w) ?_;simp only[cN];refine Ka9 ?_;refine Kb6 ?_;refine kP [4,5,6,7,8,9,10,11,12,13,14,15,16,17] (λ y:Nat=>[(6,.int .i64 ((y:Nat):Int))]) (λ y=>y<=11/\∀i,i<y->sl h i=sl k i) (λ y=>11-y) (0) (⟨Nat.zero_le _,λ i hi=>absurd hi (Nat.not_lt_zero i)⟩) ?_ (λ y f hx=>?_);·repeat (first|exact bX _|refine bL (by exact rfl) ?_)
 refine K4a ?_;refine aX (λ c7=>?_) (λ c7=>?_)
 ·refine Ka6 ?_;refine Jo ?_;refine aH (cV (hc:=λ w1 hw=>nP (l:=y) hh (by omega) w1)) (λ x11=>?_);refine Df ?_;refine aH (cV (hc:=λ w1 hw=>nP (l:=y) hk (by omega) w1)) (λ x14=>?_);refine Kc0 ?_;refine aX (λ c15=>?_) (λ c15=>?_);·refine Kd6 ?_;refine bJ results201 (λ w hw=>?_);exact⟨by rw[<- gp (h:=h) (k:=k) hx.1 hx.2 (λ _=>by omega)];rfl,hw.done⟩
  ·refine Kc1 ?_;refine hJ (y+1) ?_ ?_ ?_;·omega
   ·repeat' (first|exact bX _|refine bL ?_ ?_)
    exact rfl
   ·exact⟨by omega,λ i hi=>by rcases Nat.lt_succ_iff_lt_or_eq.1 hi with h|rfl;exact hx.2 i h;omega⟩
 ·refine K1z ?_;refine eD ?_;refine bJ results201 (λ w hw=>?_);exact⟨by rw[<- gp (h:=h) (k:=k) (l:=11) (by decide) (λ i hi=>hx.2 i (by omega)) (λ h=>absurd h (by decide))];rfl,hw.done⟩
end
end Go.Proofs.YtdeecdfockjoiaaGreatDoor
