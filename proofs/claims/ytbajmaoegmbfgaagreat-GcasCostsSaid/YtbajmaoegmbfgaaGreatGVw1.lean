/- The contents of a trie in a state: what is computed. -/
import Derived.Test.YtbajmaoegmbfgaaGreatGAr9
import Derived.Test.YtbajmaoegmbfgaaGreatGTape
import Derived.Test.YtbajmaoegmbfgaaGreatGBr5
import Derived.Test.YtbajmaoegmbfgaaGreatGBits

set_option linter.unusedSimpArgs false
set_option linter.unusedVariables false
namespace Go.Ct
section
def bV(n:Nv):Prop:=n.kind=3∨n.kind=5∨n.kind=6
instance (n:Nv):Decidable (bV n):=by unfold bV;exact inferInstance
def tY(N:List Nv)(cs:List Int)(c:Int):Int:=if(bH N (bD cs c)).kind=8 then(if bD cs (bH N (bD cs c)).status=1 then(bH N (bD cs c)).new else(bH N (bD cs c)).bJ) else bD cs c
def mP(N:List Nv)(cs:List Int)(c:Int):Option Int:=if(bH N (tY N cs c)).kind=2 then some (tY N cs c) else none
def vT(N:List Nv)(cs:List Int)(i:Int):Int:=bD cs (bH N i).main
def oN(N:List Nv)(cs:List Int)(i:Int):Int:=bD cs (bH N (vT N cs i)).prev
def yD(N:List Nv)(cs:List Int)(i:Int):Int:=if(bH N (oN N cs i)).kind=7 then(bH N (oN N cs i)).bJ else oN N cs i
def iN(N:List Nv)(cs:List Int)(i:Int):Option Int :=
 if(bH N i).kind=2/\bV (bH N (vT N cs i)) then
  if oN N cs i=0 then some (vT N cs i) else if bV (bH N (yD N cs i)) then some (yD N cs i) else none
 else none
def oi(v:Nv):List Pr:=if v.kind=5 then [(v.key,v.val)] else if v.kind=6 then v.ys else []
theorem Jn{N:List Nv}{cs:List Int}{i m:Int}(h:iN N cs i=some m):(bH N i).kind=2/\bV (bH N m):=by
 unfold iN at h
 split at h
 ·rename_i h1
  split at h
  ·cases h;exact h1
  split at h
  ·cases h;exact⟨h1.1,by assumption⟩
  ·cases h
 ·cases h
theorem dV{N:List Nv}{i:Int}(h:(bH N i).kind≠0):1<=i/\i<=N.length:=by
 unfold bH at h
 split at h
 ·assumption
 ·exact absurd rfl h
end

/- States are compared. -/
section
theorem zg{L1 L2:List aP}(h:L1.length=L2.length):L1.map aP.c=L2.map aP.c↔∀i,i<L1.length->(L1.getD i aP.zero).c=(L2.getD i aP.zero).c:=by
 constructor
 ·intro e i hi
  have h1:(L1.map aP.c)[i]?=(L2.map aP.c)[i]?:=by rw[e]
  rw[List.getElem?_map,List.getElem?_map,List.getElem?_eq_getElem hi,List.getElem?_eq_getElem (h▸hi)] at h1
  rw[jC,jC,List.getElem?_eq_getElem hi,List.getElem?_eq_getElem (h▸hi)]
  simpa using h1
 ·intro e
  refine List.ext_getElem? λ i=>?_
  rw[List.getElem?_map,List.getElem?_map]
  by_cases hi:i<L1.length
  ·have h1:=e i hi
   rw[jC,jC,List.getElem?_eq_getElem hi,List.getElem?_eq_getElem (h▸hi)] at h1
   rw[List.getElem?_eq_getElem hi,List.getElem?_eq_getElem (h▸hi)]
   simpa using h1
  ·rw[List.getElem?_eq_none (by omega),List.getElem?_eq_none (by omega)]
end
end Go.Ct
namespace Go.Proofs.YtbajmaoegmbfgaaGreat
section
open Go.RowKit Go.Ct
end

/- Proper states, by what their nodes hold. -/
end Go.Proofs.YtbajmaoegmbfgaaGreat
namespace Go.Ct
section
def Nv.nd(v:Nv):Nd:=⟨v.kind,v.gen,v.main,v.bm,none,v.xs.length,0,v.hash,v.key,v.val,none,v.ys.length,0,v.prev,v.bJ,v.exp,v.new,v.status⟩
def Nv.dv(v:Nv):aP:=⟨v.nd,v.xs,v.ys⟩
theorem Nv.aBE(v:Nv):v.dv.c=v:=rfl
theorem xi(N:List Nv):(N.map Nv.dv).map aP.c=N:=by
 rw[List.map_map]
 exact(List.map_congr_left (λ v _=>Nv.aBE v)).trans (List.map_id N)
theorem Kz{n:Nd}{xs:List Int}{ys:List Pr}:cC n xs ys↔cC (n.c xs ys).nd xs ys:=by
 have e:rK n n.own xs (n.jX xs) ys (n.jB ys)↔rK (n.c xs ys).nd (n.c xs ys).nd.own xs ((n.c xs ys).nd.jX xs) ys ((n.c xs ys).nd.jB ys):=by
  rw[zK,zK]
  have e1:n.own.c (n.jX xs) (n.jB ys)=(n.c xs ys).nd.own.c ((n.c xs ys).nd.jX xs) ((n.c xs ys).nd.jB ys):=by
   have hx:(n.c xs ys).nd.jX xs=n.jX xs:=rfl
   have hy:(n.c xs ys).nd.jB ys=n.jB ys:=rfl
   have hk:(n.c xs ys).nd.kind=n.kind:=rfl
   rw[hx,hy]
   unfold Nd.own
   rw[hk]
   repeat' split
   all_goals rfl
  rw[e1]
  exact Iff.rfl
 unfold cC
 rw[e]
 exact Iff.rfl
theorem vc{gen:Int}{n:Nat}{u v:aP}(h:u.c=v.c)(hu:mL gen n u):mL gen n v:=by
 have key:∀v:aP,mL gen n v↔mL gen n v.c.dv:=λ v=>by
  unfold mL
  rw[Kz (n:=v.nd)]
  exact Iff.rfl
 rw[key,<- h,<- key]
 exact hu
theorem pj{m:Nat}{L1 L2:List aP}(h:L1.map aP.c=L2.map aP.c):marks m L1=marks m L2:=by
 have key:∀L:List aP,marks m L=(L.map aP.c).foldl (λ u c=>eI u c.nd) (some (List.replicate m false)):=λ L=>by
  unfold marks
  rw[List.foldl_map]
  rfl
 rw[key,key,h]
theorem Xg{L1 L2:List aP}{cs:List Int}{gen:Int}(h:L1.map aP.c=L2.map aP.c)(hp:fY L1 cs gen):fY L2 cs gen:=by
 have hl:L1.length=L2.length:=by simpa using congrArg List.length h
 have hi:=(zg hl).1 h
 have h2:=hp.two
 refine⟨by omega,hp.gen0,?_,?_,λ i h=>by have:=hp.cells i h;rwa [hl] at this,λ i h=>?_,by rw[<- pj h];exact hp.marks⟩
 ·have:=congrArg Nv.kind (hi 0 (by omega))
  exact this.symm.trans hp.m0
 ·have:=congrArg Nv.kind (hi 1 (by omega))
  exact this.symm.trans hp.m1
 ·have:=hp.nodes i (by omega)
  rw[<- hl]
  exact vc (hi i (by omega)) this
def gB(N:List Nv)(cs:List Int)(gen:Int):Prop:=fY (N.map Nv.dv) cs gen
theorem gB.to{N:List Nv}{cs:List Int}{gen:Int}(h:gB N cs gen){L:List aP}(hl:L.map aP.c=N):fY L cs gen:=Xg (by rw[xi,hl]) h
theorem gB.push{N:List Nv}{cs:List Int}{gen init:Int}{n:Nv}(h:gB N cs gen)(hv:mL gen (N.length+1) (dG n cs.length).dv)(hi:Ds init N.length):gB (N++[dG n cs.length]) (fS n.kind cs init) gen:=by
 have hm:(N.map Nv.dv).length=N.length:=by simp
 have:=Pf (v:=(dG n cs.length).dv) (k:=n.kind) (init:=init) h (by rw[hm];exact hv) (by rw[hm];exact hi) (by
  have e:(dG n cs.length).dv.nd.kind=n.kind:=rfl
  unfold fX fS
  rw[e]
  by_cases h2:n.kind=2
  ·right
   rw[if_pos h2,if_pos (.inl h2)]
   exact⟨by show some (if n.kind=2 then _ else _)=_;rw[if_pos h2],rfl⟩
  rw[if_neg h2]
  by_cases h3:n.kind=3∨n.kind=5∨n.kind=6
  ·right
   rw[if_pos h3,if_pos (by omega)]
   exact⟨by show some (if n.kind=3∨n.kind=5∨n.kind=6 then _ else _)=_;rw[if_pos h3],rfl⟩
  rw[if_neg h3]
  by_cases h8:n.kind=8
  ·right
   rw[if_pos h8,if_pos (by omega)]
   exact⟨by show some (if n.kind=8 then _ else _)=_;rw[if_pos h8],rfl⟩
  ·left
   rw[if_neg h8,if_neg (by omega)]
   exact⟨rfl,rfl⟩)
 unfold gB
 rw[List.map_append]
 exact this
theorem gB.cell{N:List Nv}{cs:List Int}{gen init:Int}(h:gB N cs gen)(hi:Ds init N.length):gB N (cs++[init]) gen:=by
 have hm:(N.map Nv.dv).length=N.length:=by simp
 refine⟨h.two,h.gen0,h.m0,h.m1,λ i hi'=>?_,h.nodes,?_⟩
 ·rw[jC]
  rw[List.length_append,List.length_cons,List.length_nil] at hi'
  by_cases hl:i<cs.length
  ·rw[List.getElem?_append_left hl,<- jC]
   exact h.cells i hl
  ·rw[List.getElem?_append_right (by omega),show i-cs.length=0 by omega,hm]
   exact hi
 ·have key:∀(l:List aP) (m:Nat) (u:List Bool),l.foldl (λ u v=>eI u v.nd) (some u)≠none->l.foldl (λ u v=>eI u v.nd) (some (u++[false]))≠none:=by
   intro l
   induction l with
   | nil=>intro _ u _ h;cases h
   | cons v l ih =>
    intro m u hu
    rw[List.foldl_cons] at hu ⊢
    have hnone:∀l:List aP,l.foldl (λ u v=>eI u v.nd) none=none:=λ l=>by
     induction l with
     | nil=>rfl
     | cons v l ih=>exact ih
    cases hc:fX v.nd with
    | none =>
     rw[show eI (some u) v.nd=some u by simp[eI,hc]] at hu
     rw[show eI (some (u++[false])) v.nd=some (u++[false]) by simp[eI,hc]]
     exact ih m u hu
    | some c =>
     by_cases hc3:1<=c/\c<=u.length/\u.getD (c-1).toNat false=false
     ·obtain⟨c1,c2,c3⟩:=hc3
      have hlt:(c-1).toNat<u.length:=by omega
      have e1:(u++[false]).getD (c-1).toNat false=u.getD (c-1).toNat false:=by
       rw[jC,jC,List.getElem?_append_left hlt]
      have e2:eI (some u) v.nd=some (u.set (c-1).toNat true):=by
       show(match fX v.nd with|none=>_|some c=>_)=_
       rw[hc]
       exact if_pos ⟨c1,c2,c3⟩
      have e3:eI (some (u++[false])) v.nd=some (u.set (c-1).toNat true++[false]):=by
       show(match fX v.nd with|none=>_|some c=>_)=_
       rw[hc,<- List.set_append_left _ _ hlt]
       exact if_pos ⟨c1,by rw[List.length_append,List.length_cons,List.length_nil];omega,by rw[e1];exact c3⟩
      rw[e2] at hu
      rw[e3]
      exact ih m _ hu
     ·have e2:eI (some u) v.nd=none:=by
       show(match fX v.nd with|none=>_|some c=>_)=_
       rw[hc]
       exact if_neg hc3
      rw[e2,hnone] at hu
      exact absurd rfl hu
  have:=key (N.map Nv.dv) 0 (List.replicate cs.length false) h.marks
  unfold marks
  rw[List.length_append,List.length_cons,List.length_nil,List.replicate_succ']
  exact this
end

/- Nodes by what they hold: what the reference's functions on nodes give. -/
end Go.Ct
namespace Go.Proofs.YtbajmaoegmbfgaaGreat
section
open Go.RowKit Go.Ct
theorem aAh{n:Nd}{xs:List Int}{ys:List Pr}:CV n xs ys↔CV (n.c xs ys).nd xs ys:=by
 unfold CV
 rw[Kz (n:=n)]
 exact Iff.rfl
theorem aBu{n:Nd}{xs:List Int}{ys:List Pr}:LV n xs ys↔LV (n.c xs ys).nd xs ys:=by
 unfold LV
 rw[Kz (n:=n)]
 exact Iff.rfl
theorem cg{n:Nd}{xs:List Int}{ys:List Pr}:CV (n.c xs ys).nd (n.c xs ys).xs (n.c xs ys).ys=CV n xs ys:=propext aAh.symm
theorem aAj{n:Nd}{xs:List Int}{ys:List Pr}:LV (n.c xs ys).nd (n.c xs ys).xs (n.c xs ys).ys=LV n xs ys:=propext aBu.symm
def H0(b:Nat)(xs:List Int):Nv:=(cn b xs (none,0)).c xs []
noncomputable def lT (v:Nv) (i:Int):Option Int:=Kh v.nd v.xs v.ys v.bm.toNat i
noncomputable def L0 (v:Nv):Option Int:=j1 v.nd v.xs v.ys
def Ii(o:Option (Nat×List Int)):Nv:=match o with|some q=>H0 q.1 q.2|none=>Nv.zero
noncomputable def wz (v:Nv) (i r:Int):Nv:=Ii (j6 v.nd v.xs v.ys v.bm.toNat i r)
noncomputable def jm (v:Nv) (i r:Int):Nv:=Ii (j4 v.nd v.xs v.ys v.bm.toNat i r)
noncomputable def Mt (v:Nv) (i:Int):Nv:=Ii (j9 v.nd v.xs v.ys v.bm.toNat i)
def tmV(s:Nv):Nv:=(tmb s.nd).c [] []
noncomputable def xp (v:Nv) (level:Int) (s:Nv):Nv:=if Ti v.nd v.xs v.ys level s.nd=true then tmV s else v
def y0(v:Nv):Nv:=(Fo v.nd).c [] []
noncomputable def u6 (v:Nv) (k:ByteArray) (u:Int):Nv:=(dk (kR v.nd v.xs v.ys k u) v.hash (none,0)).c [] (Ya (kR v.nd v.xs v.ys k u))
noncomputable def ov (v:Nv) (k:ByteArray):Nv:=(Mz (pF v.nd v.xs v.ys k) v.hash (none,0)).c [] (Hy (pF v.nd v.xs v.ys k))
section
variable{n s:Nd}{xs:List Int}{ys:List Pr}{b:Nat}
theorem aAf(hb:n.bm=(b:Int))(i:Int):Kh n xs ys b i=lT (n.c xs ys) i:=by
 have e:(n.c xs ys).bm.toNat=b:=by show n.bm.toNat=b;omega
 unfold lT Kh
 rw[e]
 rw[cg (n:=n)]
 rfl
theorem yj:j1 n xs ys=L0 (n.c xs ys):=by
 unfold L0 j1
 rw[cg (n:=n)]
 rfl
theorem Ex(o:Option (Nat×List Int))(x:Option Addr×Nat):(mK o x).c (mC o) []=Ii o:=by cases o<;>rfl
theorem aBA(hb:n.bm=(b:Int))(i r:Int):Ii (j6 n xs ys b i r)=wz (n.c xs ys) i r:=by
 have e:(n.c xs ys).bm.toNat=b:=by show n.bm.toNat=b;omega
 unfold wz j6
 rw[e]
 rw[cg (n:=n)]
 rfl
theorem aAu(hb:n.bm=(b:Int))(i r:Int):Ii (j4 n xs ys b i r)=jm (n.c xs ys) i r:=by
 have e:(n.c xs ys).bm.toNat=b:=by show n.bm.toNat=b;omega
 unfold jm j4
 rw[e]
 rw[cg (n:=n)]
 rfl
theorem aBc(hb:n.bm=(b:Int))(i:Int):Ii (j9 n xs ys b i)=Mt (n.c xs ys) i:=by
 have e:(n.c xs ys).bm.toNat=b:=by show n.bm.toNat=b;omega
 unfold Mt j9
 rw[e]
 rw[cg (n:=n)]
 rfl
theorem aBy(level:Int):(th (Ti n xs ys level s) n s).c (ka (Ti n xs ys level s) xs) (ka (Ti n xs ys level s) ys)=xp (n.c xs ys) level (s.c [] []):=by
 have e:Ti (n.c xs ys).nd xs ys level (s.c [] []).nd=Ti n xs ys level s:=by
  unfold Ti
  rw[yj (n:=n)]
  rfl
 have e':Ti (n.c xs ys).nd (n.c xs ys).xs (n.c xs ys).ys level (s.c [] []).nd=Ti n xs ys level s:=e
 unfold xp th ka
 rw[e']
 split<;>rfl
theorem zs:(Fo n).c [] []=y0 (n.c xs ys):=by
 unfold y0 Fo
 show _=Nd.c (if n.kind=5 then _ else _) _ _
 split<;>rfl
theorem aBt(k:ByteArray)(u:Int)(x:Option Addr×Nat):(dk (kR n xs ys k u) n.hash x).c [] (Ya (kR n xs ys k u))=u6 (n.c xs ys) k u:=by
 have e':kR (n.c xs ys).nd (n.c xs ys).xs (n.c xs ys).ys k u=kR n xs ys k u:=by unfold kR;rw[aAj (n:=n)];rfl
 unfold u6
 rw[e']
 cases kR n xs ys k u<;>rfl
theorem aBC(k:ByteArray)(x:Option Addr×Nat):(Mz (pF n xs ys k) n.hash x).c [] (Hy (pF n xs ys k))=ov (n.c xs ys) k:=by
 have e':pF (n.c xs ys).nd (n.c xs ys).xs (n.c xs ys).ys k=pF n xs ys k:=by unfold pF;rw[aAj (n:=n)];rfl
 unfold ov
 rw[e']
 cases pF n xs ys k with
 | none=>rfl
 | some m=>unfold Mz;simp only[Hy];split<;>rfl
end
end

/- Hash values: their slices, and how many two of them share. -/
end Go.Proofs.YtbajmaoegmbfgaaGreat
namespace Go.Ct
section
open Go Go.RowKit
def sl(h l:Nat):Nat:=(h >>> (6*l))%64
theorem yC(h l:Nat):sl h l<64:=Nat.mod_lt _ (by decide)
theorem Mq(h j:Nat):(h >>> (6*j))/64=h >>> (6*(j+1)):=by
 rw[show 6*(j+1)=6*j+6 by omega,Nat.shiftRight_add,Nat.shiftRight_eq_div_pow (h >>> (6*j)) 6]
def Hs(h k:Nat):Nat->Nat->Nat
 | 0,l=>l
 | n+1,l=>if sl h l=sl k l then Hs h k n (l+1) else l
def kW(h k:Nat):Nat:=Hs h k 11 0
theorem xD(h k:Nat):∀n l,l<=Hs h k n l/\Hs h k n l<=l+n/\(∀i,l<=i->i<Hs h k n l->sl h i=sl k i)/\(Hs h k n l<l+n->sl h (Hs h k n l)≠sl k (Hs h k n l))
 | 0,l=>⟨Nat.le_refl _,Nat.le_refl _,λ i h1 h2=>absurd h2 (by simp only[Hs];omega),λ h=>absurd h (by simp only[Hs];omega)⟩
 | n+1,l=>by
  simp only[Hs]
  split
  ·rename_i he
   obtain⟨h1,h2,h3,h4⟩:=xD h k n (l+1)
   refine⟨by omega,by omega,λ i hi hi2=>?_,λ hlt=>h4 (by omega)⟩
   rcases Nat.lt_or_eq_of_le hi with hi|rfl
   ·exact h3 i (by omega) hi2
   ·exact he
  ·rename_i he
   exact⟨Nat.le_refl _,by omega,λ i h1 h2=>absurd h2 (by omega),λ _=>he⟩
theorem yZ(h k:Nat):kW h k<=11:=by have:=(xD h k 11 0).2.1;unfold kW;omega
theorem R4{h k i:Nat}(hi:i<kW h k):sl h i=sl k i:=(xD h k 11 0).2.2.1 i (Nat.zero_le _) hi
theorem Lj{h k:Nat}(hc:kW h k<11):sl h (kW h k)≠sl k (kW h k):=(xD h k 11 0).2.2.2 (by unfold kW at hc;omega)
theorem vr{h k l:Nat}(hl:l<=11)(h1:∀i,i<l->sl h i=sl k i)(h2:l<11->sl h l≠sl k l):l=kW h k:=by
 rcases Nat.lt_trichotomy l (kW h k) with h3|h3|h3
 ·exact absurd (R4 h3) (h2 (by have:=yZ h k;omega))
 ·exact h3
 ·exact absurd (h1 _ h3) (Lj (by omega))
theorem uw{P:Program}{S:List (Nat×Value)}{G:World->Prop}{d:Nat}{ty t t':TypeId}{pos:String}{af:Array Edge}{gd:Option (Nat×Bool)}{x y:Operand}{a b:Nat}(hx:ev S x=.int .u64 (a:Int))(hy:ev S y=.int .u64 (b:Int))(h0:b≠0)(ha:a<18446744073709551616):aL P S G ⟨some d,.binOp .quo t x y t',ty,pos,af,gd⟩ (.int .u64 ((a/b:Nat):Int)):=⟨λ w _=>by
 have h1:((b:Nat):Int)≠0:=by omega
 have h2:(a:Int).tdiv (b:Int)=((a/b:Nat):Int):=by rw[Int.tdiv_eq_ediv_of_nonneg (by omega)];rfl
 have h3:IntKind.u64.wrap ((a/b:Nat):Int)=((a/b:Nat):Int):=by
  have h4:=Nat.div_le_self a b
  generalize a/b=q at h4 ⊢
  rw[wrap_u64]
  omega
 simp only[execOp,hx,hy,eqGuard_at_int,binOp,Op.intDiv]
 simp[h0,h2]
 exact h3⟩
section
variable{P:Program}{S:List (Nat×Value)}{G:World->Prop}{d:Nat}{ty t t':TypeId}{pos:String}{af:Array Edge}{gd:Option (Nat×Bool)}{x y:Operand}{a b i:Nat}{k':IntKind}
theorem wu(hx:ev S x=.int .u64 (a:Int))(hy:ev S y=.int .u64 (b:Int))(ha:a<18446744073709551616)(hb:b<18446744073709551616):aL P S G ⟨some d,.binOp .and t x y t',ty,pos,af,gd⟩ (.int .u64 ((a &&& b:Nat):Int)):=by
 have:=tj (P:=P) (G:=G) (d:=d) (ty:=ty) (pos:=pos) (af:=af) (gd:=gd) (t:=t) (t':=t') hx hy
 rwa [pI ha hb] at this
theorem yt(hx:ev S x=.int .u64 (a:Int))(hy:ev S y=.int .u64 (b:Int))(h0:b≠0):aL P S G ⟨some d,.binOp .rem t x y t',ty,pos,af,gd⟩ (.int .u64 ((a%b:Nat):Int)):=by
 have:=Zt (P:=P) (G:=G) (d:=d) (ty:=ty) (pos:=pos) (af:=af) (gd:=gd) (t:=t) (t':=t') hx hy (by omega)
 rwa [Int.tmod_eq_emod_of_nonneg (by omega),<- Int.natCast_emod] at this
end
end
end Go.Ct
namespace Go.Proofs.YtbajmaoegmbfgaaGreat
section
open Go.RowKit Go.Ct
theorem pW{h l:Nat}(hh:h<18446744073709551616)(hl:l<=10)(w:World):Calls Tryz.prog 218 #[.int .u64 (h:Int),.int .i64 (l:Int)] w λ e w'=>e=.returned (.int .i64 ((sl h l:Nat):Int))/\St w [] [] w':=by
 refine enter Tryz.func218 Tryz.ntmps218 rfl rfl (SF.s0 w) ?_
 simp only[cD]
 refine cP ?_;refine kX ?_;refine Az ?_
 (refine aE ?_;refine aA ?_)
 refine zJ ?_;refine aH ?_
 refine aZ (λ c10=>?_) (λ c10=>?_)
 ·try (exfalso;omega)
 ·try (exfalso;omega)
  refine rR ?_
  refine hY [0,1,11,12,13,14,15,16] (λ y:Nat=>[(1,.int .i64 ((l-y:Nat):Int)),(0,.int .u64 ((h >>> (6*y):Nat):Int))]) (λ y=>y<=l) (λ y=>l-y) (0) (Nat.zero_le _) ?_ (λ y f hx=>?_)
  ·repeat (first|exact bG _|refine bA (by exact rfl) ?_)
  dsimp only[iA,List.map,List.cons_append,List.nil_append]
  refine kX ?_;refine Db ?_;refine aH ?_
  refine aZ (λ c12=>?_) (λ c12=>?_)
  ·try (exfalso;omega)
   refine rR ?_;refine Aa ?_;refine aN (gD (uw (b:=64) rf rf (by decide) (Nat.lt_of_le_of_lt (Nat.shiftRight_le _ _) hh))) (λ x16=>?_);refine J1 ?_;refine fF ?_;refine Aa ?_;refine rM ?_;refine J1 ?_
   refine fD (y+1) ?_ ?_ ?_
   ·omega
   ·repeat' (first|exact bG _|refine bA ?_ ?_)
    all_goals (first|exact rfl|(conv=>{lhs;whnf};rw[Mq];done))
   ·omega
  ·try (exfalso;omega)
   refine bR rfl ?_;refine J2 ?_;refine aC (yt (b:=64) rf rf (by decide)) rfl ?_;refine mZ ?_;refine J1 ?_
   refine aQ Tryz.results218 (λ w hw=>?_)
   have hy:y=l:=by omega
   subst hy
   exact⟨rfl,hw.done⟩
theorem Qf{h k:Nat}(hh:h<18446744073709551616)(hk:k<18446744073709551616)(w:World):Calls Tryz.prog 260 #[.int .u64 (h:Int),.int .u64 (k:Int)] w λ e w'=>e=.returned (.int .i64 ((kW h k:Nat):Int))/\St w [] [] w':=by
 refine enter Tryz.func260 Tryz.ntmps260 rfl rfl (SF.s0 w) ?_
 simp only[cD]
 refine cP ?_;refine cP ?_;refine Co ?_
 refine hY [5,6,7,8,9,10,11,12,13,14,15,16,17,18] (λ y:Nat=>[(5,.int .i64 ((y:Nat):Int))]) (λ y=>y<=11/\∀i,i<y->sl h i=sl k i) (λ y=>11-y) (0) (⟨Nat.zero_le _,λ i hi=>absurd hi (Nat.not_lt_zero i)⟩) ?_ (λ y f hx=>?_)
 ·repeat (first|exact bG _|refine bA (by exact rfl) ?_)
 dsimp only[iA,List.map,List.cons_append,List.nil_append]
 refine kX ?_;refine xY ?_;refine aA ?_
 (refine dX 8 (λ g8=>?_) (λ g8=>?_)<;>(first|refine aI ?_|(refine aE ?_;refine aA ?_)))
 all_goals ((first|refine aI ?_|(refine aE ?_;refine aA ?_));(first|refine aI ?_|(refine aE ?_;refine aN (cV (hc:=λ w1 hw=>pW (l:=y) hh (by omega) w1)) (λ x11=>?_)));(first|refine aI ?_|(refine aE ?_;refine aA ?_));(first|refine aI ?_|(refine aE ?_;refine aA ?_));(first|refine aI ?_|(refine aE ?_;refine aN (cV (hc:=λ w1 hw=>pW (l:=y) hk (by omega) w1)) (λ x14=>?_)));refine vW ?_;refine aH ?_)
 all_goals
 refine aZ (λ c16=>?_) (λ c16=>?_)
 ·try exact nv c16
  all_goals (refine aX ?_;refine cZ ?_;refine uT ?_;refine fF ?_)
  all_goals
   refine fD (y+1) ?_ ?_ ?_
   ·omega
   ·repeat' (first|exact bG _|refine bA ?_ ?_)
    exact rfl
   ·exact⟨by omega,λ i hi=>by rcases Nat.lt_succ_iff_lt_or_eq.1 hi with h|rfl;exact hx.2 i h;omega⟩
 ·all_goals try (exfalso;omega)
  all_goals (refine bR rfl ?_;refine J2 ?_;refine J1 ?_)
  all_goals
   refine aQ Tryz.results260 (λ w hw=>?_)
   exact⟨by rw[<- vr (h:=h) (k:=k) hx.1 hx.2 (λ _=>by omega)];rfl,hw.done⟩
end

end Go.Proofs.YtbajmaoegmbfgaaGreat
