/- The contents of a trie in a state: what is computed. -/
import Derived.Test.YtbajmaoegmbfgaaGreatGArH
import Derived.Test.YtbajmaoegmbfgaaGreatGAr8
import Derived.Test.YtbajmaoegmbfgaaGreatGBr2
import Derived.Test.YtbajmaoegmbfgaaGreatGBr5
import Derived.Test.YtbajmaoegmbfgaaGreatGPa4

set_option linter.unusedSimpArgs false
set_option linter.unusedVariables false
namespace Go.Ct
section
def dS(n:Nv):Prop:=n.kind=3∨n.kind=5∨n.kind=6
instance (n:Nv):Decidable (dS n):=by unfold dS;exact inferInstance
theorem eR{N:List Nv}{i:Int}(h:(eA N i).kind≠0):1<=i/\i<=N.length:=by
 unfold eA at h
 split at h
 ·assumption
 ·exact absurd rfl h
end

/- Proper states, by what their nodes hold. -/
section
def Nv.nd(v:Nv):Nd:=⟨v.kind,v.gen,v.main,v.bm,none,v.xs.length,0,v.hash,v.key,v.val,none,v.ys.length,0,v.prev,v.bN,v.exp,v.new,v.status⟩
def Nv.dv(v:Nv):aZ:=⟨v.nd,v.xs,v.ys⟩
theorem Nv.aB6(v:Nv):v.dv.c=v:=rfl
theorem yh(N:List Nv):(N.map Nv.dv).map aZ.c=N:=by
 rw[List.map_map]
 exact(List.map_congr_left (λ v _=>Nv.aB6 v)).trans (List.map_id N)
theorem My{n:Nd}{xs:List Int}{ys:List Pr}:cC n xs ys↔cC (n.c xs ys).nd xs ys:=by
 have e:rS n n.own xs (n.kC xs) ys (n.jD ys)↔rS (n.c xs ys).nd (n.c xs ys).nd.own xs ((n.c xs ys).nd.kC xs) ys ((n.c xs ys).nd.jD ys):=by
  rw[uZ,uZ]
  have e1:n.own.c (n.kC xs) (n.jD ys)=(n.c xs ys).nd.own.c ((n.c xs ys).nd.kC xs) ((n.c xs ys).nd.jD ys):=by
   have hx:(n.c xs ys).nd.kC xs=n.kC xs:=rfl
   have hy:(n.c xs ys).nd.jD ys=n.jD ys:=rfl
   have hk:(n.c xs ys).nd.kind=n.kind:=rfl
   rw[hx,hy]
   unfold Nd.own
   rw[hk]
   repeat' split
   all_goals rfl
  rw[e1]
  exact Iff.rfl
 unfold cC
 rw[e]
 exact Iff.rfl
theorem xb{gen:Int}{n:Nat}{u v:aZ}(h:u.c=v.c)(hu:nT gen n u):nT gen n v:=by
 have key:∀v:aZ,nT gen n v↔nT gen n v.c.dv:=λ v=>by
  unfold nT
  rw[My (n:=v.nd)]
  exact Iff.rfl
 rw[key,<- h,<- key]
 exact hu
theorem q7{m:Nat}{L1 L2:List aZ}(h:L1.map aZ.c=L2.map aZ.c):marks m L1=marks m L2:=by
 have key:∀L:List aZ,marks m L=(L.map aZ.c).foldl (λ u c=>fN u c.nd) (some (List.replicate m false)):=λ L=>by
  unfold marks
  rw[List.foldl_map]
  rfl
 rw[key,key,h]
theorem Yy{L1 L2:List aZ}{cs:List Int}{gen:Int}(h:L1.map aZ.c=L2.map aZ.c)(hp:jW L1 cs gen):jW L2 cs gen:=by
 have hl:L1.length=L2.length:=by simpa using congrArg List.length h
 have hi:=(ji hl).1 h
 have h2:=hp.two
 refine⟨by omega,hp.gen0,?_,?_,λ i h=>by have:=hp.cells i h;rwa [hl] at this,λ i h=>?_,by rw[<- q7 h];exact hp.marks⟩
 ·have:=congrArg Nv.kind (hi 0 (by omega))
  exact this.symm.trans hp.m0
 ·have:=congrArg Nv.kind (hi 1 (by omega))
  exact this.symm.trans hp.m1
 ·have:=hp.nodes i (by omega)
  rw[<- hl]
  exact xb (hi i (by omega)) this
def gB(N:List Nv)(cs:List Int)(gen:Int):Prop:=jW (N.map Nv.dv) cs gen
theorem gB.to{N:List Nv}{cs:List Int}{gen:Int}(h:gB N cs gen){L:List aZ}(hl:L.map aZ.c=N):jW L cs gen:=Yy (by rw[yh,hl]) h
theorem gB.push{N:List Nv}{cs:List Int}{gen init:Int}{n:Nv}(h:gB N cs gen)(hv:nT gen (N.length+1) (dK n cs.length).dv)(hi:Ip init N.length):gB (N++[dK n cs.length]) (fX n.kind cs init) gen:=by
 have hm:(N.map Nv.dv).length=N.length:=by simp
 have:=N3 (v:=(dK n cs.length).dv) (k:=n.kind) (init:=init) h (by rw[hm];exact hv) (by rw[hm];exact hi) (by
  have e:(dK n cs.length).dv.nd.kind=n.kind:=rfl
  unfold jO fX
  rw[e]
  by_cases h2:n.kind=2
  ·right
   rw[if_pos h2,if_pos (.inl h2)]
   exact⟨by show some (if n.kind=2 then _ else _)=_;rw[if_pos h2],rfl⟩
  rw[if_neg h2]
  by_cases h3:n.kind=3∨n.kind=5∨n.kind=6
  ·right
   rw[if_pos h3,if_pos (by omega)]
   exact⟨by show some (if n.kind=3∨n.kind=5∨n.kind=6 then _ else _)=_;rw[if_pos h3],rfl⟩
  rw[if_neg h3]
  by_cases h8:n.kind=8
  ·right
   rw[if_pos h8,if_pos (by omega)]
   exact⟨by show some (if n.kind=8 then _ else _)=_;rw[if_pos h8],rfl⟩
  ·left
   rw[if_neg h8,if_neg (by omega)]
   exact⟨rfl,rfl⟩)
 unfold gB
 rw[List.map_append]
 exact this
theorem gB.cell{N:List Nv}{cs:List Int}{gen init:Int}(h:gB N cs gen)(hi:Ip init N.length):gB N (cs++[init]) gen:=by
 have hm:(N.map Nv.dv).length=N.length:=by simp
 refine⟨h.two,h.gen0,h.m0,h.m1,λ i hi'=>?_,h.nodes,?_⟩
 ·rw[kQ]
  rw[List.length_append,List.length_cons,List.length_nil] at hi'
  by_cases hl:i<cs.length
  ·rw[List.getElem?_append_left hl,<- kQ]
   exact h.cells i hl
  ·rw[List.getElem?_append_right (by omega),show i-cs.length=0 by omega,hm]
   exact hi
 ·have key:∀(l:List aZ) (m:Nat) (u:List Bool),l.foldl (λ u v=>fN u v.nd) (some u)≠none->l.foldl (λ u v=>fN u v.nd) (some (u++[false]))≠none:=by
   intro l
   induction l with
   | nil=>intro _ u _ h;cases h
   | cons v l ih =>
    intro m u hu
    rw[List.foldl_cons] at hu ⊢
    have hnone:∀l:List aZ,l.foldl (λ u v=>fN u v.nd) none=none:=λ l=>by
     induction l with
     | nil=>rfl
     | cons v l ih=>exact ih
    cases hc:jO v.nd with
    | none =>
     rw[show fN (some u) v.nd=some u by simp[fN,hc]] at hu
     rw[show fN (some (u++[false])) v.nd=some (u++[false]) by simp[fN,hc]]
     exact ih m u hu
    | some c =>
     by_cases hc3:1<=c/\c<=u.length/\u.getD (c-1).toNat false=false
     ·obtain⟨c1,c2,c3⟩:=hc3
      have hlt:(c-1).toNat<u.length:=by omega
      have e1:(u++[false]).getD (c-1).toNat false=u.getD (c-1).toNat false:=by
       rw[kQ,kQ,List.getElem?_append_left hlt]
      have e2:fN (some u) v.nd=some (u.set (c-1).toNat true):=by
       show(match jO v.nd with|none=>_|some c=>_)=_
       rw[hc]
       exact if_pos ⟨c1,c2,c3⟩
      have e3:fN (some (u++[false])) v.nd=some (u.set (c-1).toNat true++[false]):=by
       show(match jO v.nd with|none=>_|some c=>_)=_
       rw[hc,<- List.set_append_left _ _ hlt]
       exact if_pos ⟨c1,by rw[List.length_append,List.length_cons,List.length_nil];omega,by rw[e1];exact c3⟩
      rw[e2] at hu
      rw[e3]
      exact ih m _ hu
     ·have e2:fN (some u) v.nd=none:=by
       show(match jO v.nd with|none=>_|some c=>_)=_
       rw[hc]
       exact if_neg hc3
      rw[e2,hnone] at hu
      exact absurd rfl hu
  have:=key (N.map Nv.dv) 0 (List.replicate cs.length false) h.marks
  unfold marks
  rw[List.length_append,List.length_cons,List.length_nil,List.replicate_succ']
  exact this
end

/- Nodes by what they hold: what the reference's functions on nodes give. -/
end Go.Ct
namespace Go.Proofs.YtbajmaoegmbfgaaGreat
section
open Go.RowKit Go.Ct
theorem sf{n:Nd}{xs:List Int}{ys:List Pr}:CV n xs ys↔CV (n.c xs ys).nd xs ys:=by
 unfold CV
 rw[My (n:=n)]
 exact Iff.rfl
theorem aB5{n:Nd}{xs:List Int}{ys:List Pr}:LV n xs ys↔LV (n.c xs ys).nd xs ys:=by
 unfold LV
 rw[My (n:=n)]
 exact Iff.rfl
theorem il{n:Nd}{xs:List Int}{ys:List Pr}:CV (n.c xs ys).nd (n.c xs ys).xs (n.c xs ys).ys=CV n xs ys:=propext sf.symm
theorem aBp{n:Nd}{xs:List Int}{ys:List Pr}:LV (n.c xs ys).nd (n.c xs ys).xs (n.c xs ys).ys=LV n xs ys:=propext aB5.symm
def Er(b:Nat)(xs:List Int):Nv:=(cn b xs (none,0)).c xs []
noncomputable def iU (v:Nv) (i:Int):Option Int:=Eg v.nd v.xs v.ys v.bm.toNat i
noncomputable def Lo (v:Nv):Option Int:=ep v.nd v.xs v.ys
def It(o:Option (Nat×List Int)):Nv:=match o with|some q=>Er q.1 q.2|none=>Nv.zero
noncomputable def Z6 (v:Nv) (i r:Int):Nv:=It (cz v.nd v.xs v.ys v.bm.toNat i r)
noncomputable def me (v:Nv) (i r:Int):Nv:=It (nu v.nd v.xs v.ys v.bm.toNat i r)
noncomputable def Nb (v:Nv) (i:Int):Nv:=It (nk v.nd v.xs v.ys v.bm.toNat i)
def tmV(s:Nv):Nv:=(tmb s.nd).c [] []
noncomputable def coV (v:Nv) (level:Int) (s:Nv):Nv:=if Sx v.nd v.xs v.ys level s.nd=true then tmV s else v
def unV(v:Nv):Nv:=(Ff v.nd).c [] []
noncomputable def grV (v:Nv) (k:ByteArray) (u:Int):Nv:=(m4 (kU v.nd v.xs v.ys k u) v.hash (none,0)).c [] (Zg (kU v.nd v.xs v.ys k u))
noncomputable def tj (v:Nv) (k:ByteArray):Nv:=(Nc (qE v.nd v.xs v.ys k) v.hash (none,0)).c [] (Iq (qE v.nd v.xs v.ys k))
section
variable{n s:Nd}{xs:List Int}{ys:List Pr}{b:Nat}
theorem yu(hb:n.bm=(b:Int))(i:Int):Eg n xs ys b i=iU (n.c xs ys) i:=by
 have e:(n.c xs ys).bm.toNat=b:=by show n.bm.toNat=b;omega
 unfold iU Eg
 rw[e]
 rw[il (n:=n)]
 rfl
theorem zx:ep n xs ys=Lo (n.c xs ys):=by
 unfold Lo ep
 rw[il (n:=n)]
 rfl
theorem Hj(o:Option (Nat×List Int))(x:Option Addr×Nat):(mM o x).c (mF o) []=It o:=by cases o<;>rfl
theorem aCf(hb:n.bm=(b:Int))(i r:Int):It (cz n xs ys b i r)=Z6 (n.c xs ys) i r:=by
 have e:(n.c xs ys).bm.toNat=b:=by show n.bm.toNat=b;omega
 unfold Z6 cz
 rw[e]
 rw[il (n:=n)]
 rfl
theorem aAN(hb:n.bm=(b:Int))(i r:Int):It (nu n xs ys b i r)=me (n.c xs ys) i r:=by
 have e:(n.c xs ys).bm.toNat=b:=by show n.bm.toNat=b;omega
 unfold me nu
 rw[e]
 rw[il (n:=n)]
 rfl
theorem aBq(hb:n.bm=(b:Int))(i:Int):It (nk n xs ys b i)=Nb (n.c xs ys) i:=by
 have e:(n.c xs ys).bm.toNat=b:=by show n.bm.toNat=b;omega
 unfold Nb nk
 rw[e]
 rw[il (n:=n)]
 rfl
theorem aCa(level:Int):(vx (Sx n xs ys level s) n s).c (nz (Sx n xs ys level s) xs) (nz (Sx n xs ys level s) ys)=coV (n.c xs ys) level (s.c [] []):=by
 have e:Sx (n.c xs ys).nd xs ys level (s.c [] []).nd=Sx n xs ys level s:=by
  unfold Sx
  rw[zx (n:=n)]
  rfl
 have e':Sx (n.c xs ys).nd (n.c xs ys).xs (n.c xs ys).ys level (s.c [] []).nd=Sx n xs ys level s:=e
 unfold coV vx nz
 rw[e']
 split<;>rfl
theorem aB0:(Ff n).c [] []=unV (n.c xs ys):=by
 unfold unV Ff
 show _=Nd.c (if n.kind=5 then _ else _) _ _
 split<;>rfl
theorem aCk(k:ByteArray)(u:Int)(x:Option Addr×Nat):(m4 (kU n xs ys k u) n.hash x).c [] (Zg (kU n xs ys k u))=grV (n.c xs ys) k u:=by
 have e':kU (n.c xs ys).nd (n.c xs ys).xs (n.c xs ys).ys k u=kU n xs ys k u:=by unfold kU;rw[aBp (n:=n)];rfl
 unfold grV
 rw[e']
 cases kU n xs ys k u<;>rfl
theorem aCn(k:ByteArray)(x:Option Addr×Nat):(Nc (qE n xs ys k) n.hash x).c [] (Iq (qE n xs ys k))=tj (n.c xs ys) k:=by
 have e':qE (n.c xs ys).nd (n.c xs ys).xs (n.c xs ys).ys k=qE n xs ys k:=by unfold qE;rw[aBp (n:=n)];rfl
 unfold tj
 rw[e']
 cases qE n xs ys k with
 | none=>rfl
 | some m=>unfold Nc;simp only[Iq];split<;>rfl
end
end

/- Hash values: their slices, and how many two of them share. -/
end Go.Proofs.YtbajmaoegmbfgaaGreat
namespace Go.Ct
section
open Go Go.RowKit
def sl(h l:Nat):Nat:=(h >>> (6*l))%64
theorem vQ(h l:Nat):sl h l<64:=Nat.mod_lt _ (by decide)
theorem gy(h l:Nat):(h >>> (6*l)) &&& 63=sl h l:=Nat.and_two_pow_sub_one_eq_mod _ 6
theorem M7(h j:Nat):(h >>> (6*j))/64=h >>> (6*(j+1)):=by
 rw[show 6*(j+1)=6*j+6 by omega,Nat.shiftRight_add,Nat.shiftRight_eq_div_pow (h >>> (6*j)) 6]
def Gj(h k:Nat):Nat->Nat->Nat
 | 0,l=>l
 | n+1,l=>if sl h l=sl k l then Gj h k n (l+1) else l
def kZ(h k:Nat):Nat:=Gj h k 11 0
theorem xB(h k:Nat):∀n l,l<=Gj h k n l/\Gj h k n l<=l+n/\(∀i,l<=i->i<Gj h k n l->sl h i=sl k i)/\(Gj h k n l<l+n->sl h (Gj h k n l)≠sl k (Gj h k n l))
 | 0,l=>⟨Nat.le_refl _,Nat.le_refl _,λ i h1 h2=>absurd h2 (by simp only[Gj];omega),λ h=>absurd h (by simp only[Gj];omega)⟩
 | n+1,l=>by
  simp only[Gj]
  split
  ·rename_i he
   obtain⟨h1,h2,h3,h4⟩:=xB h k n (l+1)
   refine⟨by omega,by omega,λ i hi hi2=>?_,λ hlt=>h4 (by omega)⟩
   rcases Nat.lt_or_eq_of_le hi with hi|rfl
   ·exact h3 i (by omega) hi2
   ·exact he
  ·rename_i he
   exact⟨Nat.le_refl _,by omega,λ i h1 h2=>absurd h2 (by omega),λ _=>he⟩
theorem yQ(h k:Nat):kZ h k<=11:=by have:=(xB h k 11 0).2.1;unfold kZ;omega
theorem Tf{h k i:Nat}(hi:i<kZ h k):sl h i=sl k i:=(xB h k 11 0).2.2.1 i (Nat.zero_le _) hi
theorem Lh{h k:Nat}(hc:kZ h k<11):sl h (kZ h k)≠sl k (kZ h k):=(xB h k 11 0).2.2.2 (by unfold kZ at hc;omega)
theorem xj{h k l:Nat}(hl:l<=11)(h1:∀i,i<l->sl h i=sl k i)(h2:l<11->sl h l≠sl k l):l=kZ h k:=by
 rcases Nat.lt_trichotomy l (kZ h k) with h3|h3|h3
 ·exact absurd (Tf h3) (h2 (by have:=yQ h k;omega))
 ·exact h3
 ·exact absurd (h1 _ h3) (Lh (by omega))
theorem w6{P:Program}{S:List (Nat×Value)}{G:World->Prop}{d:Nat}{ty t t':TypeId}{pos:String}{af:Array Edge}{gd:Option (Nat×Bool)}{x y:Operand}{a b:Nat}(hx:ev S x=.int .u64 (a:Int))(hy:ev S y=.int .u64 (b:Int))(h0:b≠0)(ha:a<18446744073709551616):aL P S G ⟨some d,.binOp .quo t x y t',ty,pos,af,gd⟩ (.int .u64 ((a/b:Nat):Int)):=⟨λ w _=>by
 have h1:((b:Nat):Int)≠0:=by omega
 have h2:(a:Int).tdiv (b:Int)=((a/b:Nat):Int):=by rw[Int.tdiv_eq_ediv_of_nonneg (by omega)];rfl
 have h3:IntKind.u64.wrap ((a/b:Nat):Int)=((a/b:Nat):Int):=by
  have h4:=Nat.div_le_self a b
  generalize a/b=q at h4 ⊢
  rw[wrap_u64]
  omega
 simp only[execOp,hx,hy,eqGuard_at_int,binOp,Op.intDiv]
 simp[h0,h2]
 exact h3⟩
section
variable{P:Program}{S:List (Nat×Value)}{G:World->Prop}{d:Nat}{ty t t':TypeId}{pos:String}{af:Array Edge}{gd:Option (Nat×Bool)}{x y:Operand}{a b i:Nat}{k':IntKind}
theorem ou(hx:ev S x=.int .i64 (a:Int))(hy:ev S y=.int .i64 (b:Int))(h:a*b<=9223372036854775807):aL P S G ⟨some d,.binOp .mul t x y t',ty,pos,af,gd⟩ (.int .i64 ((a*b:Nat):Int)):=by
 have:=ul (P:=P) (G:=G) (d:=d) (ty:=ty) (pos:=pos) (af:=af) (gd:=gd) (t:=t) (t':=t') hx hy
 rw[<- Int.natCast_mul,wrap_i64 (by omega) (by omega)] at this
 exact this
theorem aAs(hx:ev S x=.int .u64 (a:Int))(hy:ev S y=.int k' (i:Int))(h:i<=64):aL P S G ⟨some d,.binOp .shr t x y t',ty,pos,af,gd⟩ (.int .u64 ((a >>> i:Nat):Int)):=by
 have:=ja (P:=P) (G:=G) (d:=d) (ty:=ty) (pos:=pos) (af:=af) (gd:=gd) (t:=t) (t':=t') hx hy (by omega)
 rwa [nV h] at this
theorem Sb(hx:ev S x=.int .u64 (a:Int))(hy:ev S y=.int .u64 (b:Int))(ha:a<18446744073709551616)(hb:b<18446744073709551616):aL P S G ⟨some d,.binOp .and t x y t',ty,pos,af,gd⟩ (.int .u64 ((a &&& b:Nat):Int)):=by
 have:=uj (P:=P) (G:=G) (d:=d) (ty:=ty) (pos:=pos) (af:=af) (gd:=gd) (t:=t) (t':=t') hx hy
 rwa [nS ha hb] at this
theorem xo(hx:ev S x=.int .u64 (a:Int))(hy:ev S y=.int .u64 (b:Int))(h0:b≠0):aL P S G ⟨some d,.binOp .rem t x y t',ty,pos,af,gd⟩ (.int .u64 ((a%b:Nat):Int)):=by
 have:=gq (P:=P) (G:=G) (d:=d) (ty:=ty) (pos:=pos) (af:=af) (gd:=gd) (t:=t) (t':=t') hx hy (by omega)
 rwa [Int.tmod_eq_emod_of_nonneg (by omega),<- Int.natCast_emod] at this
end
end
end Go.Ct
namespace Go.Proofs.YtbajmaoegmbfgaaGreat
section
open Go.RowKit Go.Ct
theorem Xb{h l:Nat}(hh:h<18446744073709551616)(hl:l<=10)(w:World):Calls Tryz.prog 150 #[.int .u64 (h:Int),.int .i64 (l:Int)] w λ e w'=>e=.returned (.int .i64 ((sl h l:Nat):Int))/\St w [] [] w':=by
 have hsl:(h >>> (6*l)) &&& 63<64:=by rw[gy];exact vQ h l
 refine enter Tryz.func150 Tryz.ntmps150 rfl rfl (SF.s0 w) ?_
 simp only[bY]
 refine cR ?_;refine kM ?_;refine Fv ?_
 (refine aF ?_;refine aA ?_)
 ((refine aF ?_;refine kR ?_));refine cH ?_;refine aH ?_
 refine bE (λ c10=>?_) (λ c10=>?_)
 ·try (exfalso;omega)
 ·try (exfalso;omega)
  refine yV ?_;refine aB (ou (a:=6) (b:=l) rf rf (by omega)) rfl ?_;refine gF ?_;refine aB (aAs (i:=6*l) rf rf (by omega)) rfl ?_;refine aB (Sb (b:=63) rf rf (Nat.lt_of_le_of_lt (Nat.shiftRight_le _ _) hh) (by decide)) rfl ?_;refine gF ?_;refine J1 ?_
  refine aT Tryz.results150 (λ w hw=>?_)
  exact⟨by rw[gy];rfl,hw.done⟩
theorem pP{h l:Nat}(hh:h<18446744073709551616)(hl:l<=10)(w:World):Calls Tryz.prog 218 #[.int .u64 (h:Int),.int .i64 (l:Int)] w λ e w'=>e=.returned (.int .i64 ((sl h l:Nat):Int))/\St w [] [] w':=by
 refine enter Tryz.func218 Tryz.ntmps218 rfl rfl (SF.s0 w) ?_
 simp only[bY]
 refine cR ?_;refine kM ?_;refine Fv ?_
 (refine aF ?_;refine aA ?_)
 refine Iw ?_;refine aH ?_
 refine bE (λ c10=>?_) (λ c10=>?_)
 ·try (exfalso;omega)
 ·try (exfalso;omega)
  refine qI ?_
  refine fF [0,1,11,12,13,14,15,16] (λ y:Nat=>[(1,.int .i64 ((l-y:Nat):Int)),(0,.int .u64 ((h >>> (6*y):Nat):Int))]) (λ y=>y<=l) (λ y=>l-y) (0) (Nat.zero_le _) ?_ (λ y f hx=>?_)
  ·repeat (first|exact bG _|refine bA (by exact rfl) ?_)
  dsimp only[gR,List.map,List.cons_append,List.nil_append]
  refine kM ?_;refine Dj ?_;refine aH ?_
  refine bE (λ c12=>?_) (λ c12=>?_)
  ·try (exfalso;omega)
   refine qI ?_;refine xZ ?_;refine aR (fH (w6 (b:=64) rf rf (by decide) (Nat.lt_of_le_of_lt (Nat.shiftRight_le _ _) hh))) (λ x16=>?_);refine J1 ?_;refine eP ?_;refine xZ ?_;refine uR ?_;refine J1 ?_
   refine dY (y+1) ?_ ?_ ?_
   ·omega
   ·repeat' (first|exact bG _|refine bA ?_ ?_)
    all_goals (first|exact rfl|(conv=>{lhs;whnf};rw[M7];done))
   ·omega
  ·try (exfalso;omega)
   refine bM rfl ?_;refine J2 ?_;refine aB (xo (b:=64) rf rf (by decide)) rfl ?_;refine gF ?_;refine J1 ?_
   refine aT Tryz.results218 (λ w hw=>?_)
   have hy:y=l:=by omega
   subst hy
   exact⟨rfl,hw.done⟩
theorem P8{h k:Nat}(hh:h<18446744073709551616)(hk:k<18446744073709551616)(w:World):Calls Tryz.prog 260 #[.int .u64 (h:Int),.int .u64 (k:Int)] w λ e w'=>e=.returned (.int .i64 ((kZ h k:Nat):Int))/\St w [] [] w':=by
 refine enter Tryz.func260 Tryz.ntmps260 rfl rfl (SF.s0 w) ?_
 simp only[bY]
 refine cR ?_;refine cR ?_;refine Dk ?_
 refine fF [5,6,7,8,9,10,11,12,13,14,15,16,17,18] (λ y:Nat=>[(5,.int .i64 ((y:Nat):Int))]) (λ y=>y<=11/\∀i,i<y->sl h i=sl k i) (λ y=>11-y) (0) (⟨Nat.zero_le _,λ i hi=>absurd hi (Nat.not_lt_zero i)⟩) ?_ (λ y f hx=>?_)
 ·repeat (first|exact bG _|refine bA (by exact rfl) ?_)
 dsimp only[gR,List.map,List.cons_append,List.nil_append]
 refine kM ?_;refine vN ?_;refine aA ?_
 (refine eM 8 (λ g8=>?_) (λ g8=>?_)<;>(first|refine aJ ?_|(refine aF ?_;refine aA ?_)))
 all_goals ((first|refine aJ ?_|(refine aF ?_;refine aA ?_));(first|refine aJ ?_|(refine aF ?_;refine aR (cV (hc:=λ w1 hw=>pP (l:=y) hh (by omega) w1)) (λ x11=>?_)));(first|refine aJ ?_|(refine aF ?_;refine aA ?_));(first|refine aJ ?_|(refine aF ?_;refine aA ?_));(first|refine aJ ?_|(refine aF ?_;refine aR (cV (hc:=λ w1 hw=>pP (l:=y) hk (by omega) w1)) (λ x14=>?_)));refine zR ?_;refine aH ?_)
 all_goals
 refine bE (λ c16=>?_) (λ c16=>?_)
 ·try exact nv c16
  all_goals (refine bB ?_;refine cI ?_;refine yH ?_;refine eP ?_)
  all_goals
   refine dY (y+1) ?_ ?_ ?_
   ·omega
   ·repeat' (first|exact bG _|refine bA ?_ ?_)
    exact rfl
   ·exact⟨by omega,λ i hi=>by rcases Nat.lt_succ_iff_lt_or_eq.1 hi with h|rfl;exact hx.2 i h;omega⟩
 ·all_goals try (exfalso;omega)
  all_goals (refine bM rfl ?_;refine J2 ?_;refine J1 ?_)
  all_goals
   refine aT Tryz.results260 (λ w hw=>?_)
   exact⟨by rw[<- xj (h:=h) (k:=k) hx.1 hx.2 (λ _=>by omega)];rfl,hw.done⟩
end

end Go.Proofs.YtbajmaoegmbfgaaGreat
