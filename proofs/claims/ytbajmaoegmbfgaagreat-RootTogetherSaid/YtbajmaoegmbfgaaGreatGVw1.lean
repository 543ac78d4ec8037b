/- The contents of a trie in a state: what is computed. -/
import Derived.Test.YtbajmaoegmbfgaaGreatGArH
import Derived.Test.YtbajmaoegmbfgaaGreatGAr8
import Derived.Test.YtbajmaoegmbfgaaGreatGBr2
import Derived.Test.YtbajmaoegmbfgaaGreatGPa4

set_option linter.unusedSimpArgs false
set_option linter.unusedVariables false
namespace Go.Ct
section
def cL(n:Nv):Prop:=n.kind=3∨n.kind=5∨n.kind=6
instance (n:Nv):Decidable (cL n):=by unfold cL;exact inferInstance
def yL(N:List Nv)(cs:List Int)(c:Int):Int:=if(dY N (bV cs c)).kind=8 then(if bV cs (dY N (bV cs c)).status=1 then(dY N (bV cs c)).new else(dY N (bV cs c)).bD) else bV cs c
def pD(N:List Nv)(cs:List Int)(c:Int):Option Int:=if(dY N (yL N cs c)).kind=2 then some (yL N cs c) else none
def vR(N:List Nv)(cs:List Int)(i:Int):Int:=bV cs (dY N i).main
def oJ(N:List Nv)(cs:List Int)(i:Int):Int:=bV cs (dY N (vR N cs i)).prev
def yP(N:List Nv)(cs:List Int)(i:Int):Int:=if(dY N (oJ N cs i)).kind=7 then(dY N (oJ N cs i)).bD else oJ N cs i
def pS(N:List Nv)(cs:List Int)(i:Int):Option Int :=
 if(dY N i).kind=2/\cL (dY N (vR N cs i)) then
  if oJ N cs i=0 then some (vR N cs i) else if cL (dY N (yP N cs i)) then some (yP N cs i) else none
 else none
theorem fE{N:List Nv}{i:Int}(h:(dY N i).kind≠0):1<=i/\i<=N.length:=by
 unfold dY at h
 split at h
 ·assumption
 ·exact absurd rfl h
end

/- Proper states, by what their nodes hold. -/
section
def Nv.nd(v:Nv):Nd:=⟨v.kind,v.gen,v.main,v.bm,none,v.xs.length,0,v.hash,v.key,v.val,none,v.ys.length,0,v.prev,v.bD,v.exp,v.new,v.status⟩
def Nv.dv(v:Nv):aS:=⟨v.nd,v.xs,v.ys⟩
theorem Nv.aBp(v:Nv):v.dv.c=v:=rfl
theorem vp(N:List Nv):(N.map Nv.dv).map aS.c=N:=by
 rw[List.map_map]
 exact(List.map_congr_left (λ v _=>Nv.aBp v)).trans (List.map_id N)
theorem Lt{n:Nd}{xs:List Int}{ys:List Pr}:cA n xs ys↔cA (n.c xs ys).nd xs ys:=by
 have e:rT n n.own xs (n.jM xs) ys (n.jC ys)↔rT (n.c xs ys).nd (n.c xs ys).nd.own xs ((n.c xs ys).nd.jM xs) ys ((n.c xs ys).nd.jC ys):=by
  rw[rO,rO]
  have e1:n.own.c (n.jM xs) (n.jC ys)=(n.c xs ys).nd.own.c ((n.c xs ys).nd.jM xs) ((n.c xs ys).nd.jC ys):=by
   have hx:(n.c xs ys).nd.jM xs=n.jM xs:=rfl
   have hy:(n.c xs ys).nd.jC ys=n.jC ys:=rfl
   have hk:(n.c xs ys).nd.kind=n.kind:=rfl
   rw[hx,hy]
   unfold Nd.own
   rw[hk]
   repeat' split
   all_goals rfl
  rw[e1]
  exact Iff.rfl
 unfold cA
 rw[e]
 exact Iff.rfl
theorem w7{gen:Int}{n:Nat}{u v:aS}(h:u.c=v.c)(hu:mE gen n u):mE gen n v:=by
 have key:∀v:aS,mE gen n v↔mE gen n v.c.dv:=λ v=>by
  unfold mE
  rw[Lt (n:=v.nd)]
  exact Iff.rfl
 rw[key,<- h,<- key]
 exact hu
theorem qm{m:Nat}{L1 L2:List aS}(h:L1.map aS.c=L2.map aS.c):marks m L1=marks m L2:=by
 have key:∀L:List aS,marks m L=(L.map aS.c).foldl (λ u c=>eN u c.nd) (some (List.replicate m false)):=λ L=>by
  unfold marks
  rw[List.foldl_map]
  rfl
 rw[key,key,h]
theorem X1{L1 L2:List aS}{cs:List Int}{gen:Int}(h:L1.map aS.c=L2.map aS.c)(hp:hY L1 cs gen):hY L2 cs gen:=by
 have hl:L1.length=L2.length:=by simpa using congrArg List.length h
 have hi:=(bj hl).1 h
 have h2:=hp.two
 refine⟨by omega,hp.gen0,?_,?_,λ i h=>by have:=hp.cells i h;rwa [hl] at this,λ i h=>?_,by rw[<- qm h];exact hp.marks⟩
 ·have:=congrArg Nv.kind (hi 0 (by omega))
  exact this.symm.trans hp.m0
 ·have:=congrArg Nv.kind (hi 1 (by omega))
  exact this.symm.trans hp.m1
 ·have:=hp.nodes i (by omega)
  rw[<- hl]
  exact w7 (hi i (by omega)) this
def fZ(N:List Nv)(cs:List Int)(gen:Int):Prop:=hY (N.map Nv.dv) cs gen
theorem fZ.to{N:List Nv}{cs:List Int}{gen:Int}(h:fZ N cs gen){L:List aS}(hl:L.map aS.c=N):hY L cs gen:=X1 (by rw[vp,hl]) h
theorem fZ.push{N:List Nv}{cs:List Int}{gen init:Int}{n:Nv}(h:fZ N cs gen)(hv:mE gen (N.length+1) (dW n cs.length).dv)(hi:D1 init N.length):fZ (N++[dW n cs.length]) (fM n.kind cs init) gen:=by
 have hm:(N.map Nv.dv).length=N.length:=by simp
 have:=N0 (v:=(dW n cs.length).dv) (k:=n.kind) (init:=init) h (by rw[hm];exact hv) (by rw[hm];exact hi) (by
  have e:(dW n cs.length).dv.nd.kind=n.kind:=rfl
  unfold fW fM
  rw[e]
  by_cases h2:n.kind=2
  ·right
   rw[if_pos h2,if_pos (.inl h2)]
   exact⟨by show some (if n.kind=2 then _ else _)=_;rw[if_pos h2],rfl⟩
  rw[if_neg h2]
  by_cases h3:n.kind=3∨n.kind=5∨n.kind=6
  ·right
   rw[if_pos h3,if_pos (by omega)]
   exact⟨by show some (if n.kind=3∨n.kind=5∨n.kind=6 then _ else _)=_;rw[if_pos h3],rfl⟩
  rw[if_neg h3]
  by_cases h8:n.kind=8
  ·right
   rw[if_pos h8,if_pos (by omega)]
   exact⟨by show some (if n.kind=8 then _ else _)=_;rw[if_pos h8],rfl⟩
  ·left
   rw[if_neg h8,if_neg (by omega)]
   exact⟨rfl,rfl⟩)
 unfold fZ
 rw[List.map_append]
 exact this
theorem fZ.cell{N:List Nv}{cs:List Int}{gen init:Int}(h:fZ N cs gen)(hi:D1 init N.length):fZ N (cs++[init]) gen:=by
 have hm:(N.map Nv.dv).length=N.length:=by simp
 refine⟨h.two,h.gen0,h.m0,h.m1,λ i hi'=>?_,h.nodes,?_⟩
 ·rw[kH]
  rw[List.length_append,List.length_cons,List.length_nil] at hi'
  by_cases hl:i<cs.length
  ·rw[List.getElem?_append_left hl,<- kH]
   exact h.cells i hl
  ·rw[List.getElem?_append_right (by omega),show i-cs.length=0 by omega,hm]
   exact hi
 ·have key:∀(l:List aS) (m:Nat) (u:List Bool),l.foldl (λ u v=>eN u v.nd) (some u)≠none->l.foldl (λ u v=>eN u v.nd) (some (u++[false]))≠none:=by
   intro l
   induction l with
   | nil=>intro _ u _ h;cases h
   | cons v l ih =>
    intro m u hu
    rw[List.foldl_cons] at hu ⊢
    have hnone:∀l:List aS,l.foldl (λ u v=>eN u v.nd) none=none:=λ l=>by
     induction l with
     | nil=>rfl
     | cons v l ih=>exact ih
    cases hc:fW v.nd with
    | none =>
     rw[show eN (some u) v.nd=some u by simp[eN,hc]] at hu
     rw[show eN (some (u++[false])) v.nd=some (u++[false]) by simp[eN,hc]]
     exact ih m u hu
    | some c =>
     by_cases hc3:1<=c/\c<=u.length/\u.getD (c-1).toNat false=false
     ·obtain⟨c1,c2,c3⟩:=hc3
      have hlt:(c-1).toNat<u.length:=by omega
      have e1:(u++[false]).getD (c-1).toNat false=u.getD (c-1).toNat false:=by
       rw[kH,kH,List.getElem?_append_left hlt]
      have e2:eN (some u) v.nd=some (u.set (c-1).toNat true):=by
       show(match fW v.nd with|none=>_|some c=>_)=_
       rw[hc]
       exact if_pos ⟨c1,c2,c3⟩
      have e3:eN (some (u++[false])) v.nd=some (u.set (c-1).toNat true++[false]):=by
       show(match fW v.nd with|none=>_|some c=>_)=_
       rw[hc,<- List.set_append_left _ _ hlt]
       exact if_pos ⟨c1,by rw[List.length_append,List.length_cons,List.length_nil];omega,by rw[e1];exact c3⟩
      rw[e2] at hu
      rw[e3]
      exact ih m _ hu
     ·have e2:eN (some u) v.nd=none:=by
       show(match fW v.nd with|none=>_|some c=>_)=_
       rw[hc]
       exact if_neg hc3
      rw[e2,hnone] at hu
      exact absurd rfl hu
  have:=key (N.map Nv.dv) 0 (List.replicate cs.length false) h.marks
  unfold marks
  rw[List.length_append,List.length_cons,List.length_nil,List.replicate_succ']
  exact this
end

/- Nodes by what they hold: what the reference's functions on nodes give. -/
end Go.Ct
namespace Go.Proofs.YtbajmaoegmbfgaaGreat
section
open Go.RowKit Go.Ct
theorem aAl{n:Nd}{xs:List Int}{ys:List Pr}:CV n xs ys↔CV (n.c xs ys).nd xs ys:=by
 unfold CV
 rw[Lt (n:=n)]
 exact Iff.rfl
theorem aBG{n:Nd}{xs:List Int}{ys:List Pr}:LV n xs ys↔LV (n.c xs ys).nd xs ys:=by
 unfold LV
 rw[Lt (n:=n)]
 exact Iff.rfl
theorem Zt{n:Nd}{xs:List Int}{ys:List Pr}:CV (n.c xs ys).nd (n.c xs ys).xs (n.c xs ys).ys=CV n xs ys:=propext aAl.symm
theorem zt{n:Nd}{xs:List Int}{ys:List Pr}:LV (n.c xs ys).nd (n.c xs ys).xs (n.c xs ys).ys=LV n xs ys:=propext aBG.symm
def Io(b:Nat)(xs:List Int):Nv:=(cn b xs (none,0)).c xs []
noncomputable def mB (v:Nv) (i:Int):Option Int:=Mf v.nd v.xs v.ys v.bm.toNat i
noncomputable def Lm (v:Nv):Option Int:=Zh v.nd v.xs v.ys
def Is(o:Option (Nat×List Int)):Nv:=match o with|some q=>Io q.1 q.2|none=>Nv.zero
noncomputable def xi (v:Nv) (i r:Int):Nv:=Is (lj v.nd v.xs v.ys v.bm.toNat i r)
noncomputable def dt (v:Nv) (i r:Int):Nv:=Is (lx v.nd v.xs v.ys v.bm.toNat i r)
noncomputable def My (v:Nv) (i:Int):Nv:=Is (l7 v.nd v.xs v.ys v.bm.toNat i)
def tmV(s:Nv):Nv:=(tmb s.nd).c [] []
noncomputable def yg (v:Nv) (level:Int) (s:Nv):Nv:=if Qv v.nd v.xs v.ys level s.nd=true then tmV s else v
def zd(v:Nv):Nv:=(Gk v.nd).c [] []
noncomputable def wu (v:Nv) (k:ByteArray) (u:Int):Nv:=(jz (kL v.nd v.xs v.ys k u) v.hash (none,0)).c [] (Yz (kL v.nd v.xs v.ys k u))
noncomputable def n7 (v:Nv) (k:ByteArray):Nv:=(Mv (pX v.nd v.xs v.ys k) v.hash (none,0)).c [] (Im (pX v.nd v.xs v.ys k))
section
variable{n s:Nd}{xs:List Int}{ys:List Pr}{b:Nat}
theorem aAR(hb:n.bm=(b:Int))(i:Int):Mf n xs ys b i=mB (n.c xs ys) i:=by
 have e:(n.c xs ys).bm.toNat=b:=by show n.bm.toNat=b;omega
 unfold mB Mf
 rw[e]
 rw[Zt (n:=n)]
 rfl
theorem vu:Zh n xs ys=Lm (n.c xs ys):=by
 unfold Lm Zh
 rw[Zt (n:=n)]
 rfl
theorem Hv(o:Option (Nat×List Int))(x:Option Addr×Nat):(mF o x).c (mC o) []=Is o:=by cases o<;>rfl
theorem aBH(hb:n.bm=(b:Int))(i r:Int):Is (lj n xs ys b i r)=xi (n.c xs ys) i r:=by
 have e:(n.c xs ys).bm.toNat=b:=by show n.bm.toNat=b;omega
 unfold xi lj
 rw[e]
 rw[Zt (n:=n)]
 rfl
theorem zv(hb:n.bm=(b:Int))(i r:Int):Is (lx n xs ys b i r)=dt (n.c xs ys) i r:=by
 have e:(n.c xs ys).bm.toNat=b:=by show n.bm.toNat=b;omega
 unfold dt lx
 rw[e]
 rw[Zt (n:=n)]
 rfl
theorem aAb(hb:n.bm=(b:Int))(i:Int):Is (l7 n xs ys b i)=My (n.c xs ys) i:=by
 have e:(n.c xs ys).bm.toNat=b:=by show n.bm.toNat=b;omega
 unfold My l7
 rw[e]
 rw[Zt (n:=n)]
 rfl
theorem aBA(level:Int):(ss (Qv n xs ys level s) n s).c (l8 (Qv n xs ys level s) xs) (l8 (Qv n xs ys level s) ys)=yg (n.c xs ys) level (s.c [] []):=by
 have e:Qv (n.c xs ys).nd xs ys level (s.c [] []).nd=Qv n xs ys level s:=by
  unfold Qv
  rw[vu (n:=n)]
  rfl
 have e':Qv (n.c xs ys).nd (n.c xs ys).xs (n.c xs ys).ys level (s.c [] []).nd=Qv n xs ys level s:=e
 unfold yg ss l8
 rw[e']
 split<;>rfl
theorem aA6:(Gk n).c [] []=zd (n.c xs ys):=by
 unfold zd Gk
 show _=Nd.c (if n.kind=5 then _ else _) _ _
 split<;>rfl
theorem aBr(k:ByteArray)(u:Int)(x:Option Addr×Nat):(jz (kL n xs ys k u) n.hash x).c [] (Yz (kL n xs ys k u))=wu (n.c xs ys) k u:=by
 have e':kL (n.c xs ys).nd (n.c xs ys).xs (n.c xs ys).ys k u=kL n xs ys k u:=by unfold kL;rw[zt (n:=n)];rfl
 unfold wu
 rw[e']
 cases kL n xs ys k u<;>rfl
theorem aBK(k:ByteArray)(x:Option Addr×Nat):(Mv (pX n xs ys k) n.hash x).c [] (Im (pX n xs ys k))=n7 (n.c xs ys) k:=by
 have e':pX (n.c xs ys).nd (n.c xs ys).xs (n.c xs ys).ys k=pX n xs ys k:=by unfold pX;rw[zt (n:=n)];rfl
 unfold n7
 rw[e']
 cases pX n xs ys k with
 | none=>rfl
 | some m=>unfold Mv;simp only[Im];split<;>rfl
end
end

/- Hash values: their slices, and how many two of them share. -/
end Go.Proofs.YtbajmaoegmbfgaaGreat
namespace Go.Ct
section
open Go Go.RowKit
def sl(h l:Nat):Nat:=(h >>> (6*l))%64
theorem yO(h l:Nat):sl h l<64:=Nat.mod_lt _ (by decide)
theorem Lb(h j:Nat):(h >>> (6*j))/64=h >>> (6*(j+1)):=by
 rw[show 6*(j+1)=6*j+6 by omega,Nat.shiftRight_add,Nat.shiftRight_eq_div_pow (h >>> (6*j)) 6]
def Fb(h k:Nat):Nat->Nat->Nat
 | 0,l=>l
 | n+1,l=>if sl h l=sl k l then Fb h k n (l+1) else l
def kP(h k:Nat):Nat:=Fb h k 11 0
theorem wX(h k:Nat):∀n l,l<=Fb h k n l/\Fb h k n l<=l+n/\(∀i,l<=i->i<Fb h k n l->sl h i=sl k i)/\(Fb h k n l<l+n->sl h (Fb h k n l)≠sl k (Fb h k n l))
 | 0,l=>⟨Nat.le_refl _,Nat.le_refl _,λ i h1 h2=>absurd h2 (by simp only[Fb];omega),λ h=>absurd h (by simp only[Fb];omega)⟩
 | n+1,l=>by
  simp only[Fb]
  split
  ·rename_i he
   obtain⟨h1,h2,h3,h4⟩:=wX h k n (l+1)
   refine⟨by omega,by omega,λ i hi hi2=>?_,λ hlt=>h4 (by omega)⟩
   rcases Nat.lt_or_eq_of_le hi with hi|rfl
   ·exact h3 i (by omega) hi2
   ·exact he
  ·rename_i he
   exact⟨Nat.le_refl _,by omega,λ i h1 h2=>absurd h2 (by omega),λ _=>he⟩
theorem zN(h k:Nat):kP h k<=11:=by have:=(wX h k 11 0).2.1;unfold kP;omega
theorem Sd{h k i:Nat}(hi:i<kP h k):sl h i=sl k i:=(wX h k 11 0).2.2.1 i (Nat.zero_le _) hi
theorem Kx{h k:Nat}(hc:kP h k<11):sl h (kP h k)≠sl k (kP h k):=(wX h k 11 0).2.2.2 (by unfold kP at hc;omega)
theorem vk{h k l:Nat}(hl:l<=11)(h1:∀i,i<l->sl h i=sl k i)(h2:l<11->sl h l≠sl k l):l=kP h k:=by
 rcases Nat.lt_trichotomy l (kP h k) with h3|h3|h3
 ·exact absurd (Sd h3) (h2 (by have:=zN h k;omega))
 ·exact h3
 ·exact absurd (h1 _ h3) (Kx (by omega))
theorem xc{P:Program}{S:List (Nat×Value)}{G:World->Prop}{d:Nat}{ty t t':TypeId}{pos:String}{af:Array Edge}{gd:Option (Nat×Bool)}{x y:Operand}{a b:Nat}(hx:ev S x=.int .u64 (a:Int))(hy:ev S y=.int .u64 (b:Int))(h0:b≠0)(ha:a<18446744073709551616):aL P S G ⟨some d,.binOp .quo t x y t',ty,pos,af,gd⟩ (.int .u64 ((a/b:Nat):Int)):=⟨λ w _=>by
 have h1:((b:Nat):Int)≠0:=by omega
 have h2:(a:Int).tdiv (b:Int)=((a/b:Nat):Int):=by rw[Int.tdiv_eq_ediv_of_nonneg (by omega)];rfl
 have h3:IntKind.u64.wrap ((a/b:Nat):Int)=((a/b:Nat):Int):=by
  have h4:=Nat.div_le_self a b
  generalize a/b=q at h4 ⊢
  rw[wrap_u64]
  omega
 simp only[execOp,hx,hy,eqGuard_at_int,binOp,Op.intDiv]
 simp[h0,h2]
 exact h3⟩
section
variable{P:Program}{S:List (Nat×Value)}{G:World->Prop}{d:Nat}{ty t t':TypeId}{pos:String}{af:Array Edge}{gd:Option (Nat×Bool)}{x y:Operand}{a b i:Nat}{k':IntKind}
theorem yn(hx:ev S x=.int .u64 (a:Int))(hy:ev S y=.int .u64 (b:Int))(ha:a<18446744073709551616)(hb:b<18446744073709551616):aL P S G ⟨some d,.binOp .and t x y t',ty,pos,af,gd⟩ (.int .u64 ((a &&& b:Nat):Int)):=by
 have:=s7 (P:=P) (G:=G) (d:=d) (ty:=ty) (pos:=pos) (af:=af) (gd:=gd) (t:=t) (t':=t') hx hy
 rwa [pF ha hb] at this
theorem vn(hx:ev S x=.int .u64 (a:Int))(hy:ev S y=.int .u64 (b:Int))(h0:b≠0):aL P S G ⟨some d,.binOp .rem t x y t',ty,pos,af,gd⟩ (.int .u64 ((a%b:Nat):Int)):=by
 have:=ka (P:=P) (G:=G) (d:=d) (ty:=ty) (pos:=pos) (af:=af) (gd:=gd) (t:=t) (t':=t') hx hy (by omega)
 rwa [Int.tmod_eq_emod_of_nonneg (by omega),<- Int.natCast_emod] at this
end
end
end Go.Ct
namespace Go.Proofs.YtbajmaoegmbfgaaGreat
section
open Go.RowKit Go.Ct
theorem pN{h l:Nat}(hh:h<18446744073709551616)(hl:l<=10)(w:World):Calls Tryz.prog 218 #[.int .u64 (h:Int),.int .i64 (l:Int)] w λ e w'=>e=.returned (.int .i64 ((sl h l:Nat):Int))/\St w [] [] w':=by
 refine enter Tryz.func218 Tryz.ntmps218 rfl rfl (SF.s0 w) ?_
 simp only[bX]
 refine cR ?_;refine kY ?_;refine Ce ?_
 (refine aF ?_;refine aA ?_)
 refine B7 ?_;refine aG ?_
 refine bC (λ c10=>?_) (λ c10=>?_)
 ·try (exfalso;omega)
 ·try (exfalso;omega)
  refine qG ?_
  refine fN [0,1,11,12,13,14,15,16] (λ y:Nat=>[(1,.int .i64 ((l-y:Nat):Int)),(0,.int .u64 ((h >>> (6*y):Nat):Int))]) (λ y=>y<=l) (λ y=>l-y) (0) (Nat.zero_le _) ?_ (λ y f hx=>?_)
  ·repeat (first|exact bJ _|refine bE (by exact rfl) ?_)
  dsimp only[gP,List.map,List.cons_append,List.nil_append]
  refine kY ?_;refine Dj ?_;refine aG ?_
  refine bC (λ c12=>?_) (λ c12=>?_)
  ·try (exfalso;omega)
   refine qG ?_;refine zL ?_;refine aP (iA (xc (b:=64) rf rf (by decide) (Nat.lt_of_le_of_lt (Nat.shiftRight_le _ _) hh))) (λ x16=>?_);refine J1 ?_;refine fC ?_;refine zL ?_;refine rR ?_;refine J1 ?_
   refine eJ (y+1) ?_ ?_ ?_
   ·omega
   ·repeat' (first|exact bJ _|refine bE ?_ ?_)
    all_goals (first|exact rfl|(conv=>{lhs;whnf};rw[Lb];done))
   ·omega
  ·try (exfalso;omega)
   refine bO rfl ?_;refine J2 ?_;refine aB (vn (b:=64) rf rf (by decide)) rfl ?_;refine mT ?_;refine J1 ?_
   refine aR Tryz.results218 (λ w hw=>?_)
   have hy:y=l:=by omega
   subst hy
   exact⟨rfl,hw.done⟩
theorem Nz{h k:Nat}(hh:h<18446744073709551616)(hk:k<18446744073709551616)(w:World):Calls Tryz.prog 260 #[.int .u64 (h:Int),.int .u64 (k:Int)] w λ e w'=>e=.returned (.int .i64 ((kP h k:Nat):Int))/\St w [] [] w':=by
 refine enter Tryz.func260 Tryz.ntmps260 rfl rfl (SF.s0 w) ?_
 simp only[bX]
 refine cR ?_;refine cR ?_;refine Cp ?_
 refine fN [5,6,7,8,9,10,11,12,13,14,15,16,17,18] (λ y:Nat=>[(5,.int .i64 ((y:Nat):Int))]) (λ y=>y<=11/\∀i,i<y->sl h i=sl k i) (λ y=>11-y) (0) (⟨Nat.zero_le _,λ i hi=>absurd hi (Nat.not_lt_zero i)⟩) ?_ (λ y f hx=>?_)
 ·repeat (first|exact bJ _|refine bE (by exact rfl) ?_)
 dsimp only[gP,List.map,List.cons_append,List.nil_append]
 refine kY ?_;refine Ba ?_;refine aA ?_
 (refine eI 8 (λ g8=>?_) (λ g8=>?_)<;>(first|refine aJ ?_|(refine aF ?_;refine aA ?_)))
 all_goals ((first|refine aJ ?_|(refine aF ?_;refine aA ?_));(first|refine aJ ?_|(refine aF ?_;refine aP (cV (hc:=λ w1 hw=>pN (l:=y) hh (by omega) w1)) (λ x11=>?_)));(first|refine aJ ?_|(refine aF ?_;refine aA ?_));(first|refine aJ ?_|(refine aF ?_;refine aA ?_));(first|refine aJ ?_|(refine aF ?_;refine aP (cV (hc:=λ w1 hw=>pN (l:=y) hk (by omega) w1)) (λ x14=>?_)));refine wW ?_;refine aG ?_)
 all_goals
 refine bC (λ c16=>?_) (λ c16=>?_)
 ·try exact nv c16
  all_goals (refine aX ?_;refine cZ ?_;refine xV ?_;refine fC ?_)
  all_goals
   refine eJ (y+1) ?_ ?_ ?_
   ·omega
   ·repeat' (first|exact bJ _|refine bE ?_ ?_)
    exact rfl
   ·exact⟨by omega,λ i hi=>by rcases Nat.lt_succ_iff_lt_or_eq.1 hi with h|rfl;exact hx.2 i h;omega⟩
 ·all_goals try (exfalso;omega)
  all_goals (refine bO rfl ?_;refine J2 ?_;refine J1 ?_)
  all_goals
   refine aR Tryz.results260 (λ w hw=>?_)
   exact⟨by rw[<- vk (h:=h) (k:=k) hx.1 hx.2 (λ _=>by omega)];rfl,hw.done⟩
end

end Go.Proofs.YtbajmaoegmbfgaaGreat
