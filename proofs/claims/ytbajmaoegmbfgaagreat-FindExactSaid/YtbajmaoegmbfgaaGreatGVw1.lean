/- The contents of a trie in a state: what is computed. -/
import Derived.Test.YtbajmaoegmbfgaaGreatGArH
import Derived.Test.YtbajmaoegmbfgaaGreatGAr8
import Derived.Test.YtbajmaoegmbfgaaGreatGBr2
import Derived.Test.YtbajmaoegmbfgaaGreatGBr5
import Derived.Test.YtbajmaoegmbfgaaGreatGPa4

set_option linter.unusedSimpArgs false
set_option linter.unusedVariables false
namespace Go.Ct
section
def dY(n:Nv):Prop:=n.kind=3∨n.kind=5∨n.kind=6
instance (n:Nv):Decidable (dY n):=by unfold dY;exact inferInstance
theorem fD{N:List Nv}{i:Int}(h:(eC N i).kind≠0):1<=i/\i<=N.length:=by
 unfold eC at h
 split at h
 ·assumption
 ·exact absurd rfl h
end

/- Proper states, by what their nodes hold. -/
section
def Nv.nd(v:Nv):Nd:=⟨v.kind,v.gen,v.main,v.bm,none,v.xs.length,0,v.hash,v.key,v.val,none,v.ys.length,0,v.prev,v.bO,v.exp,v.new,v.status⟩
def Nv.dv(v:Nv):aY:=⟨v.nd,v.xs,v.ys⟩
theorem Nv.aBJ(v:Nv):v.dv.c=v:=rfl
theorem vo(N:List Nv):(N.map Nv.dv).map aY.c=N:=by
 rw[List.map_map]
 exact(List.map_congr_left (λ v _=>Nv.aBJ v)).trans (List.map_id N)
theorem Kc{n:Nd}{xs:List Int}{ys:List Pr}:cD n xs ys↔cD (n.c xs ys).nd xs ys:=by
 have e:rM n n.own xs (n.jQ xs) ys (n.iZ ys)↔rM (n.c xs ys).nd (n.c xs ys).nd.own xs ((n.c xs ys).nd.jQ xs) ys ((n.c xs ys).nd.iZ ys):=by
  rw[uZ,uZ]
  have e1:n.own.c (n.jQ xs) (n.iZ ys)=(n.c xs ys).nd.own.c ((n.c xs ys).nd.jQ xs) ((n.c xs ys).nd.iZ ys):=by
   have hx:(n.c xs ys).nd.jQ xs=n.jQ xs:=rfl
   have hy:(n.c xs ys).nd.iZ ys=n.iZ ys:=rfl
   have hk:(n.c xs ys).nd.kind=n.kind:=rfl
   rw[hx,hy]
   unfold Nd.own
   rw[hk]
   repeat' split
   all_goals rfl
  rw[e1]
  exact Iff.rfl
 unfold cD
 rw[e]
 exact Iff.rfl
theorem v5{gen:Int}{n:Nat}{u v:aY}(h:u.c=v.c)(hu:nU gen n u):nU gen n v:=by
 have key:∀v:aY,nU gen n v↔nU gen n v.c.dv:=λ v=>by
  unfold nU
  rw[Kc (n:=v.nd)]
  exact Iff.rfl
 rw[key,<- h,<- key]
 exact hu
theorem m8{m:Nat}{L1 L2:List aY}(h:L1.map aY.c=L2.map aY.c):marks m L1=marks m L2:=by
 have key:∀L:List aY,marks m L=(L.map aY.c).foldl (λ u c=>fM u c.nd) (some (List.replicate m false)):=λ L=>by
  unfold marks
  rw[List.foldl_map]
  rfl
 rw[key,key,h]
theorem Xc{L1 L2:List aY}{cs:List Int}{gen:Int}(h:L1.map aY.c=L2.map aY.c)(hp:kJ L1 cs gen):kJ L2 cs gen:=by
 have hl:L1.length=L2.length:=by simpa using congrArg List.length h
 have hi:=(Yy hl).1 h
 have h2:=hp.two
 refine⟨by omega,hp.gen0,?_,?_,λ i h=>by have:=hp.cells i h;rwa [hl] at this,λ i h=>?_,by rw[<- m8 h];exact hp.marks⟩
 ·have:=congrArg Nv.kind (hi 0 (by omega))
  exact this.symm.trans hp.m0
 ·have:=congrArg Nv.kind (hi 1 (by omega))
  exact this.symm.trans hp.m1
 ·have:=hp.nodes i (by omega)
  rw[<- hl]
  exact v5 (hi i (by omega)) this
def fZ(N:List Nv)(cs:List Int)(gen:Int):Prop:=kJ (N.map Nv.dv) cs gen
theorem fZ.to{N:List Nv}{cs:List Int}{gen:Int}(h:fZ N cs gen){L:List aY}(hl:L.map aY.c=N):kJ L cs gen:=Xc (by rw[vo,hl]) h
theorem fZ.push{N:List Nv}{cs:List Int}{gen init:Int}{n:Nv}(h:fZ N cs gen)(hv:nU gen (N.length+1) (dJ n cs.length).dv)(hi:Hn init N.length):fZ (N++[dJ n cs.length]) (gF n.kind cs init) gen:=by
 have hm:(N.map Nv.dv).length=N.length:=by simp
 have:=Nh (v:=(dJ n cs.length).dv) (k:=n.kind) (init:=init) h (by rw[hm];exact hv) (by rw[hm];exact hi) (by
  have e:(dJ n cs.length).dv.nd.kind=n.kind:=rfl
  unfold jJ gF
  rw[e]
  by_cases h2:n.kind=2
  ·right
   rw[if_pos h2,if_pos (.inl h2)]
   exact⟨by show some (if n.kind=2 then _ else _)=_;rw[if_pos h2],rfl⟩
  rw[if_neg h2]
  by_cases h3:n.kind=3∨n.kind=5∨n.kind=6
  ·right
   rw[if_pos h3,if_pos (by omega)]
   exact⟨by show some (if n.kind=3∨n.kind=5∨n.kind=6 then _ else _)=_;rw[if_pos h3],rfl⟩
  rw[if_neg h3]
  by_cases h8:n.kind=8
  ·right
   rw[if_pos h8,if_pos (by omega)]
   exact⟨by show some (if n.kind=8 then _ else _)=_;rw[if_pos h8],rfl⟩
  ·left
   rw[if_neg h8,if_neg (by omega)]
   exact⟨rfl,rfl⟩)
 unfold fZ
 rw[List.map_append]
 exact this
theorem fZ.cell{N:List Nv}{cs:List Int}{gen init:Int}(h:fZ N cs gen)(hi:Hn init N.length):fZ N (cs++[init]) gen:=by
 have hm:(N.map Nv.dv).length=N.length:=by simp
 refine⟨h.two,h.gen0,h.m0,h.m1,λ i hi'=>?_,h.nodes,?_⟩
 ·rw[kP]
  rw[List.length_append,List.length_cons,List.length_nil] at hi'
  by_cases hl:i<cs.length
  ·rw[List.getElem?_append_left hl,<- kP]
   exact h.cells i hl
  ·rw[List.getElem?_append_right (by omega),show i-cs.length=0 by omega,hm]
   exact hi
 ·have key:∀(l:List aY) (m:Nat) (u:List Bool),l.foldl (λ u v=>fM u v.nd) (some u)≠none->l.foldl (λ u v=>fM u v.nd) (some (u++[false]))≠none:=by
   intro l
   induction l with
   | nil=>intro _ u _ h;cases h
   | cons v l ih =>
    intro m u hu
    rw[List.foldl_cons] at hu ⊢
    have hnone:∀l:List aY,l.foldl (λ u v=>fM u v.nd) none=none:=λ l=>by
     induction l with
     | nil=>rfl
     | cons v l ih=>exact ih
    cases hc:jJ v.nd with
    | none =>
     rw[show fM (some u) v.nd=some u by simp[fM,hc]] at hu
     rw[show fM (some (u++[false])) v.nd=some (u++[false]) by simp[fM,hc]]
     exact ih m u hu
    | some c =>
     by_cases hc3:1<=c/\c<=u.length/\u.getD (c-1).toNat false=false
     ·obtain⟨c1,c2,c3⟩:=hc3
      have hlt:(c-1).toNat<u.length:=by omega
      have e1:(u++[false]).getD (c-1).toNat false=u.getD (c-1).toNat false:=by
       rw[kP,kP,List.getElem?_append_left hlt]
      have e2:fM (some u) v.nd=some (u.set (c-1).toNat true):=by
       show(match jJ v.nd with|none=>_|some c=>_)=_
       rw[hc]
       exact if_pos ⟨c1,c2,c3⟩
      have e3:fM (some (u++[false])) v.nd=some (u.set (c-1).toNat true++[false]):=by
       show(match jJ v.nd with|none=>_|some c=>_)=_
       rw[hc,<- List.set_append_left _ _ hlt]
       exact if_pos ⟨c1,by rw[List.length_append,List.length_cons,List.length_nil];omega,by rw[e1];exact c3⟩
      rw[e2] at hu
      rw[e3]
      exact ih m _ hu
     ·have e2:fM (some u) v.nd=none:=by
       show(match jJ v.nd with|none=>_|some c=>_)=_
       rw[hc]
       exact if_neg hc3
      rw[e2,hnone] at hu
      exact absurd rfl hu
  have:=key (N.map Nv.dv) 0 (List.replicate cs.length false) h.marks
  unfold marks
  rw[List.length_append,List.length_cons,List.length_nil,List.replicate_succ']
  exact this
end

/- Nodes by what they hold: what the reference's functions on nodes give. -/
end Go.Ct
namespace Go.Proofs.YtbajmaoegmbfgaaGreat
section
open Go.RowKit Go.Ct
theorem sg{n:Nd}{xs:List Int}{ys:List Pr}:CV n xs ys↔CV (n.c xs ys).nd xs ys:=by
 unfold CV
 rw[Kc (n:=n)]
 exact Iff.rfl
theorem aBM{n:Nd}{xs:List Int}{ys:List Pr}:LV n xs ys↔LV (n.c xs ys).nd xs ys:=by
 unfold LV
 rw[Kc (n:=n)]
 exact Iff.rfl
theorem gy{n:Nd}{xs:List Int}{ys:List Pr}:CV (n.c xs ys).nd (n.c xs ys).xs (n.c xs ys).ys=CV n xs ys:=propext sg.symm
theorem aAm{n:Nd}{xs:List Int}{ys:List Pr}:LV (n.c xs ys).nd (n.c xs ys).xs (n.c xs ys).ys=LV n xs ys:=propext aBM.symm
def Dz(b:Nat)(xs:List Int):Nv:=(cn b xs (none,0)).c xs []
noncomputable def iR (v:Nv) (i:Int):Option Int:=Dk v.nd v.xs v.ys v.bm.toNat i
noncomputable def Kx (v:Nv):Option Int:=Y1 v.nd v.xs v.ys
def Hu(o:Option (Nat×List Int)):Nv:=match o with|some q=>Dz q.1 q.2|none=>Nv.zero
noncomputable def ju (v:Nv) (i r:Int):Nv:=Hu (bn v.nd v.xs v.ys v.bm.toNat i r)
noncomputable def Za (v:Nv) (i r:Int):Nv:=Hu (lx v.nd v.xs v.ys v.bm.toNat i r)
noncomputable def Mq (v:Nv) (i:Int):Nv:=Hu (ls v.nd v.xs v.ys v.bm.toNat i)
def tmV(s:Nv):Nv:=(tmb s.nd).c [] []
noncomputable def zj (v:Nv) (level:Int) (s:Nv):Nv:=if Sh v.nd v.xs v.ys level s.nd=true then tmV s else v
def zq(v:Nv):Nv:=(Eo v.nd).c [] []
noncomputable def zm (v:Nv) (k:ByteArray) (u:Int):Nv:=(il (kT v.nd v.xs v.ys k u) v.hash (none,0)).c [] (Ys (kT v.nd v.xs v.ys k u))
noncomputable def r7 (v:Nv) (k:ByteArray):Nv:=(Mn (pL v.nd v.xs v.ys k) v.hash (none,0)).c [] (Hp (pL v.nd v.xs v.ys k))
section
variable{n s:Nd}{xs:List Int}{ys:List Pr}{b:Nat}
theorem vm(hb:n.bm=(b:Int))(i:Int):Dk n xs ys b i=iR (n.c xs ys) i:=by
 have e:(n.c xs ys).bm.toNat=b:=by show n.bm.toNat=b;omega
 unfold iR Dk
 rw[e]
 rw[gy (n:=n)]
 rfl
theorem v7:Y1 n xs ys=Kx (n.c xs ys):=by
 unfold Kx Y1
 rw[gy (n:=n)]
 rfl
theorem Fe(o:Option (Nat×List Int))(x:Option Addr×Nat):(mI o x).c (mB o) []=Hu o:=by cases o<;>rfl
theorem aB9(hb:n.bm=(b:Int))(i r:Int):Hu (bn n xs ys b i r)=ju (n.c xs ys) i r:=by
 have e:(n.c xs ys).bm.toNat=b:=by show n.bm.toNat=b;omega
 unfold ju bn
 rw[e]
 rw[gy (n:=n)]
 rfl
theorem z5(hb:n.bm=(b:Int))(i r:Int):Hu (lx n xs ys b i r)=Za (n.c xs ys) i r:=by
 have e:(n.c xs ys).bm.toNat=b:=by show n.bm.toNat=b;omega
 unfold Za lx
 rw[e]
 rw[gy (n:=n)]
 rfl
theorem aAG(hb:n.bm=(b:Int))(i:Int):Hu (ls n xs ys b i)=Mq (n.c xs ys) i:=by
 have e:(n.c xs ys).bm.toNat=b:=by show n.bm.toNat=b;omega
 unfold Mq ls
 rw[e]
 rw[gy (n:=n)]
 rfl
theorem aBH(level:Int):(ul (Sh n xs ys level s) n s).c (l9 (Sh n xs ys level s) xs) (l9 (Sh n xs ys level s) ys)=zj (n.c xs ys) level (s.c [] []):=by
 have e:Sh (n.c xs ys).nd xs ys level (s.c [] []).nd=Sh n xs ys level s:=by
  unfold Sh
  rw[v7 (n:=n)]
  rfl
 have e':Sh (n.c xs ys).nd (n.c xs ys).xs (n.c xs ys).ys level (s.c [] []).nd=Sh n xs ys level s:=e
 unfold zj ul l9
 rw[e']
 split<;>rfl
theorem aAE:(Eo n).c [] []=zq (n.c xs ys):=by
 unfold zq Eo
 show _=Nd.c (if n.kind=5 then _ else _) _ _
 split<;>rfl
theorem aBL(k:ByteArray)(u:Int)(x:Option Addr×Nat):(il (kT n xs ys k u) n.hash x).c [] (Ys (kT n xs ys k u))=zm (n.c xs ys) k u:=by
 have e':kT (n.c xs ys).nd (n.c xs ys).xs (n.c xs ys).ys k u=kT n xs ys k u:=by unfold kT;rw[aAm (n:=n)];rfl
 unfold zm
 rw[e']
 cases kT n xs ys k u<;>rfl
theorem aB6(k:ByteArray)(x:Option Addr×Nat):(Mn (pL n xs ys k) n.hash x).c [] (Hp (pL n xs ys k))=r7 (n.c xs ys) k:=by
 have e':pL (n.c xs ys).nd (n.c xs ys).xs (n.c xs ys).ys k=pL n xs ys k:=by unfold pL;rw[aAm (n:=n)];rfl
 unfold r7
 rw[e']
 cases pL n xs ys k with
 | none=>rfl
 | some m=>unfold Mn;simp only[Hp];split<;>rfl
end
end

/- Hash values: their slices, and how many two of them share. -/
end Go.Proofs.YtbajmaoegmbfgaaGreat
namespace Go.Ct
section
open Go Go.RowKit
def sl(h l:Nat):Nat:=(h >>> (6*l))%64
theorem vM(h l:Nat):sl h l<64:=Nat.mod_lt _ (by decide)
theorem lr(h l:Nat):(h >>> (6*l)) &&& 63=sl h l:=Nat.and_two_pow_sub_one_eq_mod _ 6
theorem Kq(h j:Nat):(h >>> (6*j))/64=h >>> (6*(j+1)):=by
 rw[show 6*(j+1)=6*j+6 by omega,Nat.shiftRight_add,Nat.shiftRight_eq_div_pow (h >>> (6*j)) 6]
def Hl(h k:Nat):Nat->Nat->Nat
 | 0,l=>l
 | n+1,l=>if sl h l=sl k l then Hl h k n (l+1) else l
def kW(h k:Nat):Nat:=Hl h k 11 0
theorem wT(h k:Nat):∀n l,l<=Hl h k n l/\Hl h k n l<=l+n/\(∀i,l<=i->i<Hl h k n l->sl h i=sl k i)/\(Hl h k n l<l+n->sl h (Hl h k n l)≠sl k (Hl h k n l))
 | 0,l=>⟨Nat.le_refl _,Nat.le_refl _,λ i h1 h2=>absurd h2 (by simp only[Hl];omega),λ h=>absurd h (by simp only[Hl];omega)⟩
 | n+1,l=>by
  simp only[Hl]
  split
  ·rename_i he
   obtain⟨h1,h2,h3,h4⟩:=wT h k n (l+1)
   refine⟨by omega,by omega,λ i hi hi2=>?_,λ hlt=>h4 (by omega)⟩
   rcases Nat.lt_or_eq_of_le hi with hi|rfl
   ·exact h3 i (by omega) hi2
   ·exact he
  ·rename_i he
   exact⟨Nat.le_refl _,by omega,λ i h1 h2=>absurd h2 (by omega),λ _=>he⟩
theorem yS(h k:Nat):kW h k<=11:=by have:=(wT h k 11 0).2.1;unfold kW;omega
theorem So{h k i:Nat}(hi:i<kW h k):sl h i=sl k i:=(wT h k 11 0).2.2.1 i (Nat.zero_le _) hi
theorem Lu{h k:Nat}(hc:kW h k<11):sl h (kW h k)≠sl k (kW h k):=(wT h k 11 0).2.2.2 (by unfold kW at hc;omega)
theorem vd{h k l:Nat}(hl:l<=11)(h1:∀i,i<l->sl h i=sl k i)(h2:l<11->sl h l≠sl k l):l=kW h k:=by
 rcases Nat.lt_trichotomy l (kW h k) with h3|h3|h3
 ·exact absurd (So h3) (h2 (by have:=yS h k;omega))
 ·exact h3
 ·exact absurd (h1 _ h3) (Lu (by omega))
theorem yb{P:Program}{S:List (Nat×Value)}{G:World->Prop}{d:Nat}{ty t t':TypeId}{pos:String}{af:Array Edge}{gd:Option (Nat×Bool)}{x y:Operand}{a b:Nat}(hx:ev S x=.int .u64 (a:Int))(hy:ev S y=.int .u64 (b:Int))(h0:b≠0)(ha:a<18446744073709551616):aL P S G ⟨some d,.binOp .quo t x y t',ty,pos,af,gd⟩ (.int .u64 ((a/b:Nat):Int)):=⟨λ w _=>by
 have h1:((b:Nat):Int)≠0:=by omega
 have h2:(a:Int).tdiv (b:Int)=((a/b:Nat):Int):=by rw[Int.tdiv_eq_ediv_of_nonneg (by omega)];rfl
 have h3:IntKind.u64.wrap ((a/b:Nat):Int)=((a/b:Nat):Int):=by
  have h4:=Nat.div_le_self a b
  generalize a/b=q at h4 ⊢
  rw[wrap_u64]
  omega
 simp only[execOp,hx,hy,eqGuard_at_int,binOp,Op.intDiv]
 simp[h0,h2]
 exact h3⟩
section
variable{P:Program}{S:List (Nat×Value)}{G:World->Prop}{d:Nat}{ty t t':TypeId}{pos:String}{af:Array Edge}{gd:Option (Nat×Bool)}{x y:Operand}{a b i:Nat}{k':IntKind}
theorem qi(hx:ev S x=.int .i64 (a:Int))(hy:ev S y=.int .i64 (b:Int))(h:a*b<=9223372036854775807):aL P S G ⟨some d,.binOp .mul t x y t',ty,pos,af,gd⟩ (.int .i64 ((a*b:Nat):Int)):=by
 have:=u5 (P:=P) (G:=G) (d:=d) (ty:=ty) (pos:=pos) (af:=af) (gd:=gd) (t:=t) (t':=t') hx hy
 rw[<- Int.natCast_mul,wrap_i64 (by omega) (by omega)] at this
 exact this
theorem vr(hx:ev S x=.int .u64 (a:Int))(hy:ev S y=.int k' (i:Int))(h:i<=64):aL P S G ⟨some d,.binOp .shr t x y t',ty,pos,af,gd⟩ (.int .u64 ((a >>> i:Nat):Int)):=by
 have:=ji (P:=P) (G:=G) (d:=d) (ty:=ty) (pos:=pos) (af:=af) (gd:=gd) (t:=t) (t':=t') hx hy (by omega)
 rwa [nN h] at this
theorem Qr(hx:ev S x=.int .u64 (a:Int))(hy:ev S y=.int .u64 (b:Int))(ha:a<18446744073709551616)(hb:b<18446744073709551616):aL P S G ⟨some d,.binOp .and t x y t',ty,pos,af,gd⟩ (.int .u64 ((a &&& b:Nat):Int)):=by
 have:=uo (P:=P) (G:=G) (d:=d) (ty:=ty) (pos:=pos) (af:=af) (gd:=gd) (t:=t) (t':=t') hx hy
 rwa [nT ha hb] at this
theorem we(hx:ev S x=.int .u64 (a:Int))(hy:ev S y=.int .u64 (b:Int))(h0:b≠0):aL P S G ⟨some d,.binOp .rem t x y t',ty,pos,af,gd⟩ (.int .u64 ((a%b:Nat):Int)):=by
 have:=dq (P:=P) (G:=G) (d:=d) (ty:=ty) (pos:=pos) (af:=af) (gd:=gd) (t:=t) (t':=t') hx hy (by omega)
 rwa [Int.tmod_eq_emod_of_nonneg (by omega),<- Int.natCast_emod] at this
end
end
end Go.Ct
namespace Go.Proofs.YtbajmaoegmbfgaaGreat
section
open Go.RowKit Go.Ct
theorem Wi{h l:Nat}(hh:h<18446744073709551616)(hl:l<=10)(w:World):Calls Tryz.prog 150 #[.int .u64 (h:Int),.int .i64 (l:Int)] w λ e w'=>e=.returned (.int .i64 ((sl h l:Nat):Int))/\St w [] [] w':=by
 have hsl:(h >>> (6*l)) &&& 63<64:=by rw[lr];exact vM h l
 refine enter Tryz.func150 Tryz.ntmps150 rfl rfl (SF.s0 w) ?_
 simp only[bY]
 refine cQ ?_;refine kK ?_;refine G7 ?_
 (refine aF ?_;refine aA ?_)
 ((refine aF ?_;refine kR ?_));refine cH ?_;refine aG ?_
 refine bE (λ c10=>?_) (λ c10=>?_)
 ·try (exfalso;omega)
 ·try (exfalso;omega)
  refine yH ?_;refine aB (qi (a:=6) (b:=l) rf rf (by omega)) rfl ?_;refine gC ?_;refine aB (vr (i:=6*l) rf rf (by omega)) rfl ?_;refine aB (Qr (b:=63) rf rf (Nat.lt_of_le_of_lt (Nat.shiftRight_le _ _) hh) (by decide)) rfl ?_;refine gC ?_;refine J1 ?_
  refine aT Tryz.results150 (λ w hw=>?_)
  exact⟨by rw[lr];rfl,hw.done⟩
theorem pN{h l:Nat}(hh:h<18446744073709551616)(hl:l<=10)(w:World):Calls Tryz.prog 218 #[.int .u64 (h:Int),.int .i64 (l:Int)] w λ e w'=>e=.returned (.int .i64 ((sl h l:Nat):Int))/\St w [] [] w':=by
 refine enter Tryz.func218 Tryz.ntmps218 rfl rfl (SF.s0 w) ?_
 simp only[bY]
 refine cQ ?_;refine kK ?_;refine G7 ?_
 (refine aF ?_;refine aA ?_)
 refine Iz ?_;refine aG ?_
 refine bE (λ c10=>?_) (λ c10=>?_)
 ·try (exfalso;omega)
 ·try (exfalso;omega)
  refine qP ?_
  refine fG [0,1,11,12,13,14,15,16] (λ y:Nat=>[(1,.int .i64 ((l-y:Nat):Int)),(0,.int .u64 ((h >>> (6*y):Nat):Int))]) (λ y=>y<=l) (λ y=>l-y) (0) (Nat.zero_le _) ?_ (λ y f hx=>?_)
  ·repeat (first|exact bG _|refine bB (by exact rfl) ?_)
  dsimp only[gU,List.map,List.cons_append,List.nil_append]
  refine kK ?_;refine Da ?_;refine aG ?_
  refine bE (λ c12=>?_) (λ c12=>?_)
  ·try (exfalso;omega)
   refine qP ?_;refine wQ ?_;refine aQ (fE (yb (b:=64) rf rf (by decide) (Nat.lt_of_le_of_lt (Nat.shiftRight_le _ _) hh))) (λ x16=>?_);refine J1 ?_;refine eU ?_;refine wQ ?_;refine vF ?_;refine J1 ?_
   refine dV (y+1) ?_ ?_ ?_
   ·omega
   ·repeat' (first|exact bG _|refine bB ?_ ?_)
    all_goals (first|exact rfl|(conv=>{lhs;whnf};rw[Kq];done))
   ·omega
  ·try (exfalso;omega)
   refine bM rfl ?_;refine J2 ?_;refine aB (we (b:=64) rf rf (by decide)) rfl ?_;refine gC ?_;refine J1 ?_
   refine aT Tryz.results218 (λ w hw=>?_)
   have hy:y=l:=by omega
   subst hy
   exact⟨rfl,hw.done⟩
theorem Nm{h k:Nat}(hh:h<18446744073709551616)(hk:k<18446744073709551616)(w:World):Calls Tryz.prog 260 #[.int .u64 (h:Int),.int .u64 (k:Int)] w λ e w'=>e=.returned (.int .i64 ((kW h k:Nat):Int))/\St w [] [] w':=by
 refine enter Tryz.func260 Tryz.ntmps260 rfl rfl (SF.s0 w) ?_
 simp only[bY]
 refine cQ ?_;refine cQ ?_;refine C7 ?_
 refine fG [5,6,7,8,9,10,11,12,13,14,15,16,17,18] (λ y:Nat=>[(5,.int .i64 ((y:Nat):Int))]) (λ y=>y<=11/\∀i,i<y->sl h i=sl k i) (λ y=>11-y) (0) (⟨Nat.zero_le _,λ i hi=>absurd hi (Nat.not_lt_zero i)⟩) ?_ (λ y f hx=>?_)
 ·repeat (first|exact bG _|refine bB (by exact rfl) ?_)
 dsimp only[gU,List.map,List.cons_append,List.nil_append]
 refine kK ?_;refine uL ?_;refine aA ?_
 (refine eM 8 (λ g8=>?_) (λ g8=>?_)<;>(first|refine aJ ?_|(refine aF ?_;refine aA ?_)))
 all_goals ((first|refine aJ ?_|(refine aF ?_;refine aA ?_));(first|refine aJ ?_|(refine aF ?_;refine aQ (cV (hc:=λ w1 hw=>pN (l:=y) hh (by omega) w1)) (λ x11=>?_)));(first|refine aJ ?_|(refine aF ?_;refine aA ?_));(first|refine aJ ?_|(refine aF ?_;refine aA ?_));(first|refine aJ ?_|(refine aF ?_;refine aQ (cV (hc:=λ w1 hw=>pN (l:=y) hk (by omega) w1)) (λ x14=>?_)));refine yG ?_;refine aG ?_)
 all_goals
 refine bE (λ c16=>?_) (λ c16=>?_)
 ·try exact nv c16
  all_goals (refine aZ ?_;refine cO ?_;refine yU ?_;refine eU ?_)
  all_goals
   refine dV (y+1) ?_ ?_ ?_
   ·omega
   ·repeat' (first|exact bG _|refine bB ?_ ?_)
    exact rfl
   ·exact⟨by omega,λ i hi=>by rcases Nat.lt_succ_iff_lt_or_eq.1 hi with h|rfl;exact hx.2 i h;omega⟩
 ·all_goals try (exfalso;omega)
  all_goals (refine bM rfl ?_;refine J2 ?_;refine J1 ?_)
  all_goals
   refine aT Tryz.results260 (λ w hw=>?_)
   exact⟨by rw[<- vd (h:=h) (k:=k) hx.1 hx.2 (λ _=>by omega)];rfl,hw.done⟩
end

end Go.Proofs.YtbajmaoegmbfgaaGreat
