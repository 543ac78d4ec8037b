/- States are compared. -/
import Derived.Test.YtadnboagdhcedaaGreatDoorGNode4
import Derived.Test.YtadnboagdhcedaaGreatDoorGGa
import Derived.Test.YtadnboagdhcedaaGreatDoorGBr2
import Derived.Test.YtadnboagdhcedaaGreatDoorGBits

set_option linter.unusedSimpArgs false
set_option linter.unusedVariables false
namespace Go.Ct
section
theorem aBU{L1 L2:List aI}(h:L1.length=L2.length):L1.map aI.c=L2.map aI.c↔∀i,i<L1.length->(L1.getD i aI.zero).c=(L2.getD i aI.zero).c:=by
 constructor
 ·intro e i hi
  have h1:(L1.map aI.c)[i]?=(L2.map aI.c)[i]?:=by rw[e]
  rw[List.getElem?_map,List.getElem?_map,List.getElem?_eq_getElem hi,List.getElem?_eq_getElem (h▸hi)] at h1
  rw[gF,gF,List.getElem?_eq_getElem hi,List.getElem?_eq_getElem (h▸hi)]
  simpa using h1
 ·intro e
  refine List.ext_getElem? λ i=>?_;rw[List.getElem?_map,List.getElem?_map];by_cases hi:i<L1.length
  ·have h1:=e i hi;rw[gF,gF,List.getElem?_eq_getElem hi,List.getElem?_eq_getElem (h▸hi)] at h1;rw[List.getElem?_eq_getElem hi,List.getElem?_eq_getElem (h▸hi)];simpa using h1
  ·rw[List.getElem?_eq_none (by omega),List.getElem?_eq_none (by omega)]
end
end Go.Ct
namespace Go.Proofs.YtadnboagdhcedaaGreatDoor
section
open Go.RowKit Go.Ct
theorem wP(v:Int)(n:Nat)(w:World)(h0:0<n)(h1:n<=274877906944):Calls Tryz.prog 31 #[.int .i64 v,.int .i64 ((n:Nat):Int)] w λ e w'=>e=.returned (.int .i64 (((kT v n).toNat:Nat):Int))/\St w [] [] w':=by
 have h:=Aq (v:=v) (n:=(n:Int)) (by omega) (by omega);rw[Int.toNat_of_nonneg h.1];exact vg v n w (by rw[wrap_u64];omega)
end

/- Proper states, by what their nodes hold. -/
end Go.Proofs.YtadnboagdhcedaaGreatDoor
namespace Go.Ct
section
def Nv.nd(v:Nv):Nd:=⟨v.kind,v.gen,v.main,v.bm,none,v.xs.length,0,v.hash,v.key,v.val,none,v.ys.length,0,v.prev,v.bO,v.exp,v.new,v.status⟩
def Nv.dv(v:Nv):aI:=⟨v.nd,v.xs,v.ys⟩
theorem Nv.aCx(v:Nv):v.dv.c=v:=rfl
theorem aAu(N:List Nv):(N.map Nv.dv).map aI.c=N:=by
 rw[List.map_map]
 exact(List.map_congr_left (λ v _=>Nv.aCx v)).trans (List.map_id N)
theorem K0{n:Nd}{xs:List Int}{ys:List Pr}:cK n xs ys↔cK (n.c xs ys).nd xs ys:=by
 have e:rG n n.own xs (n.iB xs) ys (n.gY ys)↔rG (n.c xs ys).nd (n.c xs ys).nd.own xs ((n.c xs ys).nd.iB xs) ys ((n.c xs ys).nd.gY ys):=by
  rw[wA,wA]
  have e1:n.own.c (n.iB xs) (n.gY ys)=(n.c xs ys).nd.own.c ((n.c xs ys).nd.iB xs) ((n.c xs ys).nd.gY ys):=by
   have hx:(n.c xs ys).nd.iB xs=n.iB xs:=rfl;have hy:(n.c xs ys).nd.gY ys=n.gY ys:=rfl;have hk:(n.c xs ys).nd.kind=n.kind:=rfl;rw[hx,hy];unfold Nd.own;rw[hk];repeat' split
   all_goals rfl
  rw[e1]
  exact Iff.rfl
 unfold cK
 rw[e]
 exact Iff.rfl
theorem aAl{gen:Int}{n:Nat}{u v:aI}(h:u.c=v.c)(hu:kI gen n u):kI gen n v:=by
 have key:∀v:aI,kI gen n v↔kI gen n v.c.dv:=λ v=>by
  unfold kI
  rw[K0 (n:=v.nd)]
  exact Iff.rfl
 rw[key,<- h,<- key]
 exact hu
theorem o7{m:Nat}{L1 L2:List aI}(h:L1.map aI.c=L2.map aI.c):marks m L1=marks m L2:=by
 have key:∀L:List aI,marks m L=(L.map aI.c).foldl (λ u c=>eZ u c.nd) (some (List.replicate m false)):=λ L=>by
  unfold marks
  rw[List.foldl_map]
  rfl
 rw[key,key,h]
theorem Zn{L1 L2:List aI}{cs:List Int}{gen:Int}(h:L1.map aI.c=L2.map aI.c)(hp:cO L1 cs gen):cO L2 cs gen:=by
 have hl:L1.length=L2.length:=by simpa using congrArg List.length h
 have hi:=(aBU hl).1 h;have h2:=hp.two;refine⟨by omega,hp.gen0,?_,?_,λ i h=>by have:=hp.cells i h;rwa [hl] at this,λ i h=>?_,by rw[<- o7 h];exact hp.marks⟩
 ·have:=congrArg Nv.kind (hi 0 (by omega));exact this.symm.trans hp.m0
 ·have:=congrArg Nv.kind (hi 1 (by omega));exact this.symm.trans hp.m1
 ·have:=hp.nodes i (by omega);rw[<- hl];exact aAl (hi i (by omega)) this
def fR(N:List Nv)(cs:List Int)(gen:Int):Prop:=cO (N.map Nv.dv) cs gen
theorem fR.to{N:List Nv}{cs:List Int}{gen:Int}(h:fR N cs gen){L:List aI}(hl:L.map aI.c=N):cO L cs gen:=Zn (by rw[aAu,hl]) h
theorem fR.push{N:List Nv}{cs:List Int}{gen init:Int}{n:Nv}(h:fR N cs gen)(hv:kI gen (N.length+1) (eH n cs.length).dv)(hi:Eg init N.length):fR (N++[eH n cs.length]) (kU n.kind cs init) gen:=by
 have hm:(N.map Nv.dv).length=N.length:=by simp
 have:=Ou (v:=(eH n cs.length).dv) (k:=n.kind) (init:=init) h (by rw[hm];exact hv) (by rw[hm];exact hi) (by
  have e:(eH n cs.length).dv.nd.kind=n.kind:=rfl;unfold gD kU;rw[e];by_cases h2:n.kind=2
  ·right
   rw[if_pos h2,if_pos (.inl h2)]
   exact⟨by show some (if n.kind=2 then _ else _)=_;rw[if_pos h2],rfl⟩
  rw[if_neg h2]
  by_cases h3:n.kind=3∨n.kind=5∨n.kind=6
  ·right
   rw[if_pos h3,if_pos (by omega)]
   exact⟨by show some (if n.kind=3∨n.kind=5∨n.kind=6 then _ else _)=_;rw[if_pos h3],rfl⟩
  rw[if_neg h3]
  by_cases h8:n.kind=8
  ·right
   rw[if_pos h8,if_pos (by omega)]
   exact⟨by show some (if n.kind=8 then _ else _)=_;rw[if_pos h8],rfl⟩
  ·left
   rw[if_neg h8,if_neg (by omega)]
   exact⟨rfl,rfl⟩)
 unfold fR
 rw[List.map_append]
 exact this
theorem fR.cell{N:List Nv}{cs:List Int}{gen init:Int}(h:fR N cs gen)(hi:Eg init N.length):fR N (cs++[init]) gen:=by
 have hm:(N.map Nv.dv).length=N.length:=by simp
 refine⟨h.two,h.gen0,h.m0,h.m1,λ i hi'=>?_,h.nodes,?_⟩
 ·rw[gF]
  rw[List.length_append,List.length_cons,List.length_nil] at hi'
  by_cases hl:i<cs.length
  ·rw[List.getElem?_append_left hl,<- gF]
   exact h.cells i hl
  ·rw[List.getElem?_append_right (by omega),show i-cs.length=0 by omega,hm]
   exact hi
 ·have key:∀(l:List aI) (m:Nat) (u:List Bool),l.foldl (λ u v=>eZ u v.nd) (some u)≠none->l.foldl (λ u v=>eZ u v.nd) (some (u++[false]))≠none:=by
   intro l
   induction l with
   | nil=>intro _ u _ h;cases h
   | cons v l ih =>
    intro m u hu
    rw[List.foldl_cons] at hu ⊢
    have hnone:∀l:List aI,l.foldl (λ u v=>eZ u v.nd) none=none:=λ l=>by
     induction l with
     | nil=>rfl
     | cons v l ih=>exact ih
    cases hc:gD v.nd with
    | none =>
     rw[show eZ (some u) v.nd=some u by simp[eZ,hc]] at hu
     rw[show eZ (some (u++[false])) v.nd=some (u++[false]) by simp[eZ,hc]]
     exact ih m u hu
    | some c =>
     by_cases hc3:1<=c/\c<=u.length/\u.getD (c-1).toNat false=false
     ·obtain⟨c1,c2,c3⟩:=hc3
      have hlt:(c-1).toNat<u.length:=by omega
      have e1:(u++[false]).getD (c-1).toNat false=u.getD (c-1).toNat false:=by
       rw[gF,gF,List.getElem?_append_left hlt]
      have e2:eZ (some u) v.nd=some (u.set (c-1).toNat true):=by
       show(match gD v.nd with|none=>_|some c=>_)=_
       rw[hc]
       exact if_pos ⟨c1,c2,c3⟩
      have e3:eZ (some (u++[false])) v.nd=some (u.set (c-1).toNat true++[false]):=by
       show(match gD v.nd with|none=>_|some c=>_)=_
       rw[hc,<- List.set_append_left _ _ hlt]
       exact if_pos ⟨c1,by rw[List.length_append,List.length_cons,List.length_nil];omega,by rw[e1];exact c3⟩
      rw[e2] at hu
      rw[e3]
      exact ih m _ hu
     ·have e2:eZ (some u) v.nd=none:=by
       show(match gD v.nd with|none=>_|some c=>_)=_
       rw[hc]
       exact if_neg hc3
      rw[e2,hnone] at hu
      exact absurd rfl hu
  have:=key (N.map Nv.dv) 0 (List.replicate cs.length false) h.marks;unfold marks;rw[List.length_append,List.length_cons,List.length_nil,List.replicate_succ'];exact this
end

/- Nodes by what they hold: what the reference's functions on nodes give. -/
end Go.Ct
namespace Go.Proofs.YtadnboagdhcedaaGreatDoor
section
open Go.RowKit Go.Ct
theorem aCb{n:Nd}{xs:List Int}{ys:List Pr}:CV n xs ys↔CV (n.c xs ys).nd xs ys:=by
 unfold CV
 rw[K0 (n:=n)]
 exact Iff.rfl
theorem aCD{n:Nd}{xs:List Int}{ys:List Pr}:LV n xs ys↔LV (n.c xs ys).nd xs ys:=by
 unfold LV
 rw[K0 (n:=n)]
 exact Iff.rfl
theorem gg{n:Nd}{xs:List Int}{ys:List Pr}:CV (n.c xs ys).nd (n.c xs ys).xs (n.c xs ys).ys=CV n xs ys:=propext aCb.symm
theorem aA0{n:Nd}{xs:List Int}{ys:List Pr}:LV (n.c xs ys).nd (n.c xs ys).xs (n.c xs ys).ys=LV n xs ys:=propext aCD.symm
def Ij(b:Nat)(xs:List Int):Nv:=(cn b xs (none,0)).c xs []
def mU(v:Nv)(i:Int):Option Int:=Lh v.nd v.xs v.ys v.bm.toNat i
def Ly(v:Nv):Option Int:=j8 v.nd v.xs v.ys
def Ir(o:Option (Nat×List Int)):Nv:=match o with|some q=>Ij q.1 q.2|none=>Nv.zero
def yf(v:Nv)(i r:Int):Nv:=Ir (mw v.nd v.xs v.ys v.bm.toNat i r)
def jl(v:Nv)(i r:Int):Nv:=Ir (mq v.nd v.xs v.ys v.bm.toNat i r)
def Nr(v:Nv)(i:Int):Nv:=Ir (mv v.nd v.xs v.ys v.bm.toNat i)
def tmV(s:Nv):Nv:=(tmb s.nd).c [] []
def xy(v:Nv)(level:Int)(s:Nv):Nv:=if Ry v.nd v.xs v.ys level s.nd=true then tmV s else v
def unV(v:Nv):Nv:=(Ft v.nd).c [] []
def xg(v:Nv)(k:ByteArray)(u:Int):Nv:=(lx (lH v.nd v.xs v.ys k u) v.hash (none,0)).c [] (Zy (lH v.nd v.xs v.ys k u))
def ub(v:Nv)(k:ByteArray):Nv:=(Nz (pZ v.nd v.xs v.ys k) v.hash (none,0)).c [] (Ie (pZ v.nd v.xs v.ys k))
section
variable{n s:Nd}{xs:List Int}{ys:List Pr}{b:Nat}
theorem aBp(hb:n.bm=(b:Int))(i:Int):Lh n xs ys b i=mU (n.c xs ys) i:=by
 have e:(n.c xs ys).bm.toNat=b:=by show n.bm.toNat=b;omega
 unfold mU Lh
 rw[e]
 simp only[gg (n:=n)]
 try rfl
theorem z6:j8 n xs ys=Ly (n.c xs ys):=by
 unfold Ly j8
 simp only[gg (n:=n)]
 try rfl
theorem Fi(o:Option (Nat×List Int))(x:Option Addr×Nat):(nB o x).c (mK o) []=Ir o:=by cases o<;>rfl
theorem aCF(hb:n.bm=(b:Int))(i r:Int):Ir (mw n xs ys b i r)=yf (n.c xs ys) i r:=by
 have e:(n.c xs ys).bm.toNat=b:=by show n.bm.toNat=b;omega
 unfold yf mw
 rw[e]
 simp only[gg (n:=n)]
 try rfl
theorem aCp(hb:n.bm=(b:Int))(i r:Int):Ir (mq n xs ys b i r)=jl (n.c xs ys) i r:=by
 have e:(n.c xs ys).bm.toNat=b:=by show n.bm.toNat=b;omega
 unfold jl mq
 rw[e]
 simp only[gg (n:=n)]
 try rfl
theorem aBG(hb:n.bm=(b:Int))(i:Int):Ir (mv n xs ys b i)=Nr (n.c xs ys) i:=by
 have e:(n.c xs ys).bm.toNat=b:=by show n.bm.toNat=b;omega
 unfold Nr mv
 rw[e]
 simp only[gg (n:=n)]
 try rfl
theorem aCy(level:Int):(wv (Ry n xs ys level s) n s).c (mo (Ry n xs ys level s) xs) (mo (Ry n xs ys level s) ys)=xy (n.c xs ys) level (s.c [] []):=by
 have e:Ry (n.c xs ys).nd xs ys level (s.c [] []).nd=Ry n xs ys level s:=by
  unfold Ry
  rw[z6 (n:=n)]
  rfl
 have e':Ry (n.c xs ys).nd (n.c xs ys).xs (n.c xs ys).ys level (s.c [] []).nd=Ry n xs ys level s:=e;unfold xy wv mo;rw[e'];split<;>rfl
theorem aA7:(Ft n).c [] []=unV (n.c xs ys):=by
 unfold unV Ft
 show _=Nd.c (if n.kind=5 then _ else _) _ _
 split<;>rfl
theorem aC4(k:ByteArray)(u:Int)(x:Option Addr×Nat):(lx (lH n xs ys k u) n.hash x).c [] (Zy (lH n xs ys k u))=xg (n.c xs ys) k u:=by
 have e':lH (n.c xs ys).nd (n.c xs ys).xs (n.c xs ys).ys k u=lH n xs ys k u:=by unfold lH;simp only[aA0 (n:=n)];try rfl
 unfold xg
 rw[e']
 cases lH n xs ys k u<;>rfl
theorem aCs(k:ByteArray)(x:Option Addr×Nat):(Nz (pZ n xs ys k) n.hash x).c [] (Ie (pZ n xs ys k))=ub (n.c xs ys) k:=by
 have e':pZ (n.c xs ys).nd (n.c xs ys).xs (n.c xs ys).ys k=pZ n xs ys k:=by unfold pZ;simp only[aA0 (n:=n)];try rfl
 unfold ub
 rw[e']
 cases pZ n xs ys k with
 | none=>rfl
 | some m=>unfold Nz;simp only[Ie];split<;>rfl
end
end

/- Hash values: their slices, and how many two of them share. -/
end Go.Proofs.YtadnboagdhcedaaGreatDoor
namespace Go.Ct
section
open Go Go.RowKit
def sl(h l:Nat):Nat:=(h >>> (6*l))%64
theorem vS(h l:Nat):sl h l<64:=Nat.mod_lt _ (by decide)
theorem kx(h l:Nat):(h >>> (6*l)) &&& 63=sl h l:=Nat.and_two_pow_sub_one_eq_mod _ 6
theorem Lc(h j:Nat):(h >>> (6*j))/64=h >>> (6*(j+1)):=by
 rw[show 6*(j+1)=6*j+6 by omega,Nat.shiftRight_add,Nat.shiftRight_eq_div_pow (h >>> (6*j)) 6]
def Gj(h k:Nat):Nat->Nat->Nat
 | 0,l=>l
 | n+1,l=>if sl h l=sl k l then Gj h k n (l+1) else l
def lN(h k:Nat):Nat:=Gj h k 11 0
theorem yE(h k:Nat):∀n l,l<=Gj h k n l/\Gj h k n l<=l+n/\(∀i,l<=i->i<Gj h k n l->sl h i=sl k i)/\(Gj h k n l<l+n->sl h (Gj h k n l)≠sl k (Gj h k n l))
 | 0,l=>⟨Nat.le_refl _,Nat.le_refl _,λ i h1 h2=>absurd h2 (by simp only[Gj];omega),λ h=>absurd h (by simp only[Gj];omega)⟩
 | n+1,l=>by
  simp only[Gj]
  split
  ·rename_i he
   obtain⟨h1,h2,h3,h4⟩:=yE h k n (l+1)
   refine⟨by omega,by omega,λ i hi hi2=>?_,λ hlt=>h4 (by omega)⟩
   rcases Nat.lt_or_eq_of_le hi with hi|rfl
   ·exact h3 i (by omega) hi2
   ·exact he
  ·rename_i he
   exact⟨Nat.le_refl _,by omega,λ i h1 h2=>absurd h2 (by omega),λ _=>he⟩
theorem An(h k:Nat):lN h k<=11:=by have:=(yE h k 11 0).2.1;unfold lN;omega
theorem Tn{h k i:Nat}(hi:i<lN h k):sl h i=sl k i:=(yE h k 11 0).2.2.1 i (Nat.zero_le _) hi
theorem L0{h k:Nat}(hc:lN h k<11):sl h (lN h k)≠sl k (lN h k):=(yE h k 11 0).2.2.2 (by unfold lN at hc;omega)
theorem xn{h k l:Nat}(hl:l<=11)(h1:∀i,i<l->sl h i=sl k i)(h2:l<11->sl h l≠sl k l):l=lN h k:=by
 rcases Nat.lt_trichotomy l (lN h k) with h3|h3|h3
 ·exact absurd (Tn h3) (h2 (by have:=An h k;omega))
 ·exact h3
 ·exact absurd (h1 _ h3) (L0 (by omega))
theorem aAD{P:Program}{S:List (Nat×Value)}{G:World->Prop}{d:Nat}{ty t t':TypeId}{pos:String}{af:Array Edge}{gd:Option (Nat×Bool)}{x y:Operand}{a b:Nat}(hx:ev S x=.int .u64 (a:Int))(hy:ev S y=.int .u64 (b:Int))(h0:b≠0)(ha:a<18446744073709551616):aM P S G ⟨some d,.binOp .quo t x y t',ty,pos,af,gd⟩ (.int .u64 ((a/b:Nat):Int)):=⟨λ w _=>by
 have h1:((b:Nat):Int)≠0:=by omega
 have h2:(a:Int).tdiv (b:Int)=((a/b:Nat):Int):=by rw[Int.tdiv_eq_ediv_of_nonneg (by omega)];rfl
 have h3:IntKind.u64.wrap ((a/b:Nat):Int)=((a/b:Nat):Int):=by
  have h4:=Nat.div_le_self a b;generalize a/b=q at h4 ⊢;rw[wrap_u64];omega
 simp only[execOp,hx,hy,eqGuard_at_int,binOp,Op.intDiv]
 simp[h0,h2]
 exact h3⟩
section
variable{P:Program}{S:List (Nat×Value)}{G:World->Prop}{d:Nat}{ty t t':TypeId}{pos:String}{af:Array Edge}{gd:Option (Nat×Bool)}{x y:Operand}{a b i:Nat}{k':IntKind}
theorem n9(hx:ev S x=.int .i64 (a:Int))(hy:ev S y=.int .i64 (b:Int))(h:a*b<=9223372036854775807):aM P S G ⟨some d,.binOp .mul t x y t',ty,pos,af,gd⟩ (.int .i64 ((a*b:Nat):Int)):=by
 have:=ai (P:=P) (G:=G) (d:=d) (ty:=ty) (pos:=pos) (af:=af) (gd:=gd) (t:=t) (t':=t') hx hy;rw[<- Int.natCast_mul,wrap_i64 (by omega) (by omega)] at this;exact this
theorem y4(hx:ev S x=.int .u64 (a:Int))(hy:ev S y=.int k' (i:Int))(h:i<=64):aM P S G ⟨some d,.binOp .shr t x y t',ty,pos,af,gd⟩ (.int .u64 ((a >>> i:Nat):Int)):=by
 have:=vk (P:=P) (G:=G) (d:=d) (ty:=ty) (pos:=pos) (af:=af) (gd:=gd) (t:=t) (t':=t') hx hy (by omega);rwa [mM h] at this
theorem R8(hx:ev S x=.int .u64 (a:Int))(hy:ev S y=.int .u64 (b:Int))(ha:a<18446744073709551616)(hb:b<18446744073709551616):aM P S G ⟨some d,.binOp .and t x y t',ty,pos,af,gd⟩ (.int .u64 ((a &&& b:Nat):Int)):=by
 have:=uv (P:=P) (G:=G) (d:=d) (ty:=ty) (pos:=pos) (af:=af) (gd:=gd) (t:=t) (t':=t') hx hy;rwa [mL ha hb] at this
theorem z5(hx:ev S x=.int .u64 (a:Int))(hy:ev S y=.int .u64 (b:Int))(h0:b≠0):aM P S G ⟨some d,.binOp .rem t x y t',ty,pos,af,gd⟩ (.int .u64 ((a%b:Nat):Int)):=by
 have:=fm (P:=P) (G:=G) (d:=d) (ty:=ty) (pos:=pos) (af:=af) (gd:=gd) (t:=t) (t':=t') hx hy (by omega);rwa [Int.tmod_eq_emod_of_nonneg (by omega),<- Int.natCast_emod] at this
end
end
end Go.Ct
namespace Go.Proofs.YtadnboagdhcedaaGreatDoor
section
open Go.RowKit Go.Ct
theorem Jy{h l:Nat}(hh:h<18446744073709551616)(hl:l<=10)(w:World):Calls Tryz.prog 72 #[.int .u64 (h:Int),.int .i64 (l:Int)] w λ e w'=>e=.returned (.int .i64 ((sl h l:Nat):Int))/\St w [] [] w':=by
 have hsl:(h >>> (6*l)) &&& 63<64:=by rw[kx];exact vS h l
 refine enter Tryz.func72 Tryz.ntmps72 rfl rfl (SF.s0 w) ?_;simp only[cP]
 refine Kb4 ?_;refine zB ?_;(refine Ka4 ?_);((refine aF ?_;refine oD ?_));refine cI ?_;refine aK ?_;refine bA (λ c10=>?_) (λ c10=>?_)
 ·try (exfalso;omega)
 ·try (exfalso;omega)
  refine Cg ?_;refine aE (n9 (a:=6) (b:=l) rf rf (by omega)) rfl ?_;refine jO ?_;refine aE (y4 (i:=6*l) rf rf (by omega)) rfl ?_;refine aE (R8 (b:=63) rf rf (Nat.lt_of_le_of_lt (Nat.shiftRight_le _ _) hh) (by decide)) rfl ?_;refine jO ?_;refine J1 ?_;refine aR Tryz.results72 (λ w hw=>?_);exact⟨by rw[kx];rfl,hw.done⟩
theorem qI{h l:Nat}(hh:h<18446744073709551616)(hl:l<=10)(w:World):Calls Tryz.prog 79 #[.int .u64 (h:Int),.int .i64 (l:Int)] w λ e w'=>e=.returned (.int .i64 ((sl h l:Nat):Int))/\St w [] [] w':=by
 refine enter Tryz.func79 Tryz.ntmps79 rfl rfl (SF.s0 w) ?_;simp only[cP]
 refine Kb4 ?_;refine zB ?_;(refine Ka4 ?_);refine Kb2 ?_;refine bA (λ c10=>?_) (λ c10=>?_)
 ·try (exfalso;omega)
 ·try (exfalso;omega)
  refine mZ ?_;refine fK [0,1,11,12,13,14,15,16] (λ y:Nat=>[(1,.int .i64 ((l-y:Nat):Int)),(0,.int .u64 ((h >>> (6*y):Nat):Int))]) (λ y=>y<=l) (λ y=>l-y) (0) (Nat.zero_le _) ?_ (λ y f hx=>?_)
  ·repeat (first|exact bC _|refine aY (by exact rfl) ?_)
  refine K0a ?_;refine jL ?_;refine vH ?_;refine aK ?_;refine bA (λ c12=>?_) (λ c12=>?_)
  ·try (exfalso;omega)
   refine mZ ?_;refine zT ?_;refine aS (fO (aAD (b:=64) rf rf (by decide) (Nat.lt_of_le_of_lt (Nat.shiftRight_le _ _) hh))) (λ x16=>?_);refine J1 ?_;refine eX ?_;refine zT ?_;refine oQ ?_;refine J1 ?_;refine dW (y+1) ?_ ?_ ?_
   ·omega
   ·repeat' (first|exact bC _|refine aY ?_ ?_)
    all_goals (first|exact rfl|(conv=>{lhs;whnf};rw[Lc];done))
   ·omega
  ·try (exfalso;omega)
   refine bM rfl ?_;refine J2 ?_;refine aE (z5 (b:=64) rf rf (by decide)) rfl ?_;refine jO ?_;refine J1 ?_;refine aR Tryz.results79 (λ w hw=>?_);have hy:y=l:=by omega
   subst hy
   exact⟨rfl,hw.done⟩
theorem Pe{h k:Nat}(hh:h<18446744073709551616)(hk:k<18446744073709551616)(w:World):Calls Tryz.prog 173 #[.int .u64 (h:Int),.int .u64 (k:Int)] w λ e w'=>e=.returned (.int .i64 ((lN h k:Nat):Int))/\St w [] [] w':=by
 refine enter Tryz.func173 Tryz.ntmps173 rfl rfl (SF.s0 w) ?_;simp only[cP]
 refine cR ?_;refine cR ?_;refine Ez ?_;refine fK [5,6,7,8,9,10,11,12,13,14,15,16,17,18] (λ y:Nat=>[(5,.int .i64 ((y:Nat):Int))]) (λ y=>y<=11/\∀i,i<y->sl h i=sl k i) (λ y=>11-y) (0) (⟨Nat.zero_le _,λ i hi=>absurd hi (Nat.not_lt_zero i)⟩) ?_ (λ y f hx=>?_)
 ·repeat (first|exact bC _|refine aY (by exact rfl) ?_)
 refine K0a ?_;refine jL ?_;refine zM ?_;refine aB ?_;(refine eM 8 (λ g8=>?_) (λ g8=>?_)<;>refine Ka0 ?_);all_goals (refine Ka0 ?_;(first|refine aJ ?_|(refine aF ?_;refine aS (cV (hc:=λ w1 hw=>qI (l:=y) hh (by omega) w1)) (λ x11=>?_)));refine Ka0 ?_;refine Ka0 ?_;(first|refine aJ ?_|(refine aF ?_;refine aS (cV (hc:=λ w1 hw=>qI (l:=y) hk (by omega) w1)) (λ x14=>?_)));refine zC ?_;refine aK ?_)
 all_goals
 refine bA (λ c16=>?_) (λ c16=>?_)
 ·try exact nv c16
  all_goals (refine bB ?_;refine cE ?_;refine sK ?_;refine eX ?_)
  all_goals
   refine dW (y+1) ?_ ?_ ?_
   ·omega
   ·repeat' (first|exact bC _|refine aY ?_ ?_)
    exact rfl
   ·exact⟨by omega,λ i hi=>by rcases Nat.lt_succ_iff_lt_or_eq.1 hi with h|rfl;exact hx.2 i h;omega⟩
 ·all_goals try (exfalso;omega)
  all_goals (refine bM rfl ?_;refine Ka5 ?_)
  all_goals
   refine aR Tryz.results173 (λ w hw=>?_);exact⟨by rw[<- xn (h:=h) (k:=k) hx.1 hx.2 (λ _=>by omega)];rfl,hw.done⟩
end

end Go.Proofs.YtadnboagdhcedaaGreatDoor
