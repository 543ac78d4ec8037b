/- The contents of a trie in a state: what is computed. -/
import Derived.Test.YtbajmaoegmbfgaaGreatGAr9
import Derived.Test.YtbajmaoegmbfgaaGreatGTape
import Derived.Test.YtbajmaoegmbfgaaGreatGBr5
import Derived.Test.YtbajmaoegmbfgaaGreatGBits

set_option linter.unusedSimpArgs false
set_option linter.unusedVariables false
namespace Go.Ct
section
def cG(n:Nv):Prop:=n.kind=3∨n.kind=5∨n.kind=6
instance (n:Nv):Decidable (cG n):=by unfold cG;exact inferInstance
def sJ(N:List Nv)(cs:List Int)(c:Int):Int:=if(bQ N (bE cs c)).kind=8 then(if bE cs (bQ N (bE cs c)).status=1 then(bQ N (bE cs c)).new else(bQ N (bE cs c)).bA) else bE cs c
def iR(N:List Nv)(cs:List Int)(c:Int):Option Int:=if(bQ N (sJ N cs c)).kind=2 then some (sJ N cs c) else none
def wN(N:List Nv)(cs:List Int)(i:Int):Int:=bE cs (bQ N i).main
def oM(N:List Nv)(cs:List Int)(i:Int):Int:=bE cs (bQ N (wN N cs i)).prev
def yY(N:List Nv)(cs:List Int)(i:Int):Int:=if(bQ N (oM N cs i)).kind=7 then(bQ N (oM N cs i)).bA else oM N cs i
def fQ(N:List Nv)(cs:List Int)(i:Int):Option Int :=
 if(bQ N i).kind=2/\cG (bQ N (wN N cs i)) then
  if oM N cs i=0 then some (wN N cs i) else if cG (bQ N (yY N cs i)) then some (yY N cs i) else none
 else none
def ud(v:Nv):List Pr:=if v.kind=5 then [(v.key,v.val)] else if v.kind=6 then v.ys else []
theorem Kh{N:List Nv}{cs:List Int}{i m:Int}(h:fQ N cs i=some m):(bQ N i).kind=2/\cG (bQ N m):=by
 unfold fQ at h
 split at h
 ·rename_i h1
  split at h
  ·cases h;exact h1
  split at h
  ·cases h;exact⟨h1.1,by assumption⟩
  ·cases h
 ·cases h
theorem dW{N:List Nv}{i:Int}(h:(bQ N i).kind≠0):1<=i/\i<=N.length:=by
 unfold bQ at h
 split at h
 ·assumption
 ·exact absurd rfl h
end

/- States are compared. -/
section
theorem aAR{L1 L2:List aP}(h:L1.length=L2.length):L1.map aP.c=L2.map aP.c↔∀i,i<L1.length->(L1.getD i aP.zero).c=(L2.getD i aP.zero).c:=by
 constructor
 ·intro e i hi
  have h1:(L1.map aP.c)[i]?=(L2.map aP.c)[i]?:=by rw[e]
  rw[List.getElem?_map,List.getElem?_map,List.getElem?_eq_getElem hi,List.getElem?_eq_getElem (h▸hi)] at h1
  rw[jN,jN,List.getElem?_eq_getElem hi,List.getElem?_eq_getElem (h▸hi)]
  simpa using h1
 ·intro e
  refine List.ext_getElem? λ i=>?_
  rw[List.getElem?_map,List.getElem?_map]
  by_cases hi:i<L1.length
  ·have h1:=e i hi
   rw[jN,jN,List.getElem?_eq_getElem hi,List.getElem?_eq_getElem (h▸hi)] at h1
   rw[List.getElem?_eq_getElem hi,List.getElem?_eq_getElem (h▸hi)]
   simpa using h1
  ·rw[List.getElem?_eq_none (by omega),List.getElem?_eq_none (by omega)]
end
end Go.Ct
namespace Go.Proofs.YtbajmaoegmbfgaaGreat
section
open Go.RowKit Go.Ct
end

/- Proper states, by what their nodes hold. -/
end Go.Proofs.YtbajmaoegmbfgaaGreat
namespace Go.Ct
section
def Nv.nd(v:Nv):Nd:=⟨v.kind,v.gen,v.main,v.bm,none,v.xs.length,0,v.hash,v.key,v.val,none,v.ys.length,0,v.prev,v.bA,v.exp,v.new,v.status⟩
def Nv.dv(v:Nv):aP:=⟨v.nd,v.xs,v.ys⟩
theorem Nv.aCu(v:Nv):v.dv.c=v:=rfl
theorem yj(N:List Nv):(N.map Nv.dv).map aP.c=N:=by
 rw[List.map_map]
 exact(List.map_congr_left (λ v _=>Nv.aCu v)).trans (List.map_id N)
theorem Lm{n:Nd}{xs:List Int}{ys:List Pr}:cE n xs ys↔cE (n.c xs ys).nd xs ys:=by
 have e:sG n n.own xs (n.jX xs) ys (n.jM ys)↔sG (n.c xs ys).nd (n.c xs ys).nd.own xs ((n.c xs ys).nd.jX xs) ys ((n.c xs ys).nd.jM ys):=by
  rw[A2,A2]
  have e1:n.own.c (n.jX xs) (n.jM ys)=(n.c xs ys).nd.own.c ((n.c xs ys).nd.jX xs) ((n.c xs ys).nd.jM ys):=by
   have hx:(n.c xs ys).nd.jX xs=n.jX xs:=rfl
   have hy:(n.c xs ys).nd.jM ys=n.jM ys:=rfl
   have hk:(n.c xs ys).nd.kind=n.kind:=rfl
   rw[hx,hy]
   unfold Nd.own
   rw[hk]
   repeat' split
   all_goals rfl
  rw[e1]
  exact Iff.rfl
 unfold cE
 rw[e]
 exact Iff.rfl
theorem z8{gen:Int}{n:Nat}{u v:aP}(h:u.c=v.c)(hu:nC gen n u):nC gen n v:=by
 have key:∀v:aP,nC gen n v↔nC gen n v.c.dv:=λ v=>by
  unfold nC
  rw[Lm (n:=v.nd)]
  exact Iff.rfl
 rw[key,<- h,<- key]
 exact hu
theorem ri{m:Nat}{L1 L2:List aP}(h:L1.map aP.c=L2.map aP.c):marks m L1=marks m L2:=by
 have key:∀L:List aP,marks m L=(L.map aP.c).foldl (λ u c=>eR u c.nd) (some (List.replicate m false)):=λ L=>by
  unfold marks
  rw[List.foldl_map]
  rfl
 rw[key,key,h]
theorem Xn{L1 L2:List aP}{cs:List Int}{gen:Int}(h:L1.map aP.c=L2.map aP.c)(hp:fP L1 cs gen):fP L2 cs gen:=by
 have hl:L1.length=L2.length:=by simpa using congrArg List.length h
 have hi:=(aAR hl).1 h
 have h2:=hp.two
 refine⟨by omega,hp.gen0,?_,?_,λ i h=>by have:=hp.cells i h;rwa [hl] at this,λ i h=>?_,by rw[<- ri h];exact hp.marks⟩
 ·have:=congrArg Nv.kind (hi 0 (by omega))
  exact this.symm.trans hp.m0
 ·have:=congrArg Nv.kind (hi 1 (by omega))
  exact this.symm.trans hp.m1
 ·have:=hp.nodes i (by omega)
  rw[<- hl]
  exact z8 (hi i (by omega)) this
def gG(N:List Nv)(cs:List Int)(gen:Int):Prop:=fP (N.map Nv.dv) cs gen
theorem gG.to{N:List Nv}{cs:List Int}{gen:Int}(h:gG N cs gen){L:List aP}(hl:L.map aP.c=N):fP L cs gen:=Xn (by rw[yj,hl]) h
theorem gG.push{N:List Nv}{cs:List Int}{gen init:Int}{n:Nv}(h:gG N cs gen)(hv:nC gen (N.length+1) (dK n cs.length).dv)(hi:Ei init N.length):gG (N++[dK n cs.length]) (fN n.kind cs init) gen:=by
 have hm:(N.map Nv.dv).length=N.length:=by simp
 have:=Ob (v:=(dK n cs.length).dv) (k:=n.kind) (init:=init) h (by rw[hm];exact hv) (by rw[hm];exact hi) (by
  have e:(dK n cs.length).dv.nd.kind=n.kind:=rfl
  unfold gE fN
  rw[e]
  by_cases h2:n.kind=2
  ·right
   rw[if_pos h2,if_pos (.inl h2)]
   exact⟨by show some (if n.kind=2 then _ else _)=_;rw[if_pos h2],rfl⟩
  rw[if_neg h2]
  by_cases h3:n.kind=3∨n.kind=5∨n.kind=6
  ·right
   rw[if_pos h3,if_pos (by omega)]
   exact⟨by show some (if n.kind=3∨n.kind=5∨n.kind=6 then _ else _)=_;rw[if_pos h3],rfl⟩
  rw[if_neg h3]
  by_cases h8:n.kind=8
  ·right
   rw[if_pos h8,if_pos (by omega)]
   exact⟨by show some (if n.kind=8 then _ else _)=_;rw[if_pos h8],rfl⟩
  ·left
   rw[if_neg h8,if_neg (by omega)]
   exact⟨rfl,rfl⟩)
 unfold gG
 rw[List.map_append]
 exact this
theorem gG.cell{N:List Nv}{cs:List Int}{gen init:Int}(h:gG N cs gen)(hi:Ei init N.length):gG N (cs++[init]) gen:=by
 have hm:(N.map Nv.dv).length=N.length:=by simp
 refine⟨h.two,h.gen0,h.m0,h.m1,λ i hi'=>?_,h.nodes,?_⟩
 ·rw[jN]
  rw[List.length_append,List.length_cons,List.length_nil] at hi'
  by_cases hl:i<cs.length
  ·rw[List.getElem?_append_left hl,<- jN]
   exact h.cells i hl
  ·rw[List.getElem?_append_right (by omega),show i-cs.length=0 by omega,hm]
   exact hi
 ·have key:∀(l:List aP) (m:Nat) (u:List Bool),l.foldl (λ u v=>eR u v.nd) (some u)≠none->l.foldl (λ u v=>eR u v.nd) (some (u++[false]))≠none:=by
   intro l
   induction l with
   | nil=>intro _ u _ h;cases h
   | cons v l ih =>
    intro m u hu
    rw[List.foldl_cons] at hu ⊢
    have hnone:∀l:List aP,l.foldl (λ u v=>eR u v.nd) none=none:=λ l=>by
     induction l with
     | nil=>rfl
     | cons v l ih=>exact ih
    cases hc:gE v.nd with
    | none =>
     rw[show eR (some u) v.nd=some u by simp[eR,hc]] at hu
     rw[show eR (some (u++[false])) v.nd=some (u++[false]) by simp[eR,hc]]
     exact ih m u hu
    | some c =>
     by_cases hc3:1<=c/\c<=u.length/\u.getD (c-1).toNat false=false
     ·obtain⟨c1,c2,c3⟩:=hc3
      have hlt:(c-1).toNat<u.length:=by omega
      have e1:(u++[false]).getD (c-1).toNat false=u.getD (c-1).toNat false:=by
       rw[jN,jN,List.getElem?_append_left hlt]
      have e2:eR (some u) v.nd=some (u.set (c-1).toNat true):=by
       show(match gE v.nd with|none=>_|some c=>_)=_
       rw[hc]
       exact if_pos ⟨c1,c2,c3⟩
      have e3:eR (some (u++[false])) v.nd=some (u.set (c-1).toNat true++[false]):=by
       show(match gE v.nd with|none=>_|some c=>_)=_
       rw[hc,<- List.set_append_left _ _ hlt]
       exact if_pos ⟨c1,by rw[List.length_append,List.length_cons,List.length_nil];omega,by rw[e1];exact c3⟩
      rw[e2] at hu
      rw[e3]
      exact ih m _ hu
     ·have e2:eR (some u) v.nd=none:=by
       show(match gE v.nd with|none=>_|some c=>_)=_
       rw[hc]
       exact if_neg hc3
      rw[e2,hnone] at hu
      exact absurd rfl hu
  have:=key (N.map Nv.dv) 0 (List.replicate cs.length false) h.marks
  unfold marks
  rw[List.length_append,List.length_cons,List.length_nil,List.replicate_succ']
  exact this
end

/- Nodes by what they hold: what the reference's functions on nodes give. -/
end Go.Ct
namespace Go.Proofs.YtbajmaoegmbfgaaGreat
section
open Go.RowKit Go.Ct
theorem aBe{n:Nd}{xs:List Int}{ys:List Pr}:CV n xs ys↔CV (n.c xs ys).nd xs ys:=by
 unfold CV
 rw[Lm (n:=n)]
 exact Iff.rfl
theorem aCx{n:Nd}{xs:List Int}{ys:List Pr}:LV n xs ys↔LV (n.c xs ys).nd xs ys:=by
 unfold LV
 rw[Lm (n:=n)]
 exact Iff.rfl
theorem jt{n:Nd}{xs:List Int}{ys:List Pr}:CV (n.c xs ys).nd (n.c xs ys).xs (n.c xs ys).ys=CV n xs ys:=propext aBe.symm
theorem aBg{n:Nd}{xs:List Int}{ys:List Pr}:LV (n.c xs ys).nd (n.c xs ys).xs (n.c xs ys).ys=LV n xs ys:=propext aCx.symm
def Iv(b:Nat)(xs:List Int):Nv:=(cn b xs (none,0)).c xs []
noncomputable def mE (v:Nv) (i:Int):Option Int:=L7 v.nd v.xs v.ys v.bm.toNat i
noncomputable def Lq (v:Nv):Option Int:=gh v.nd v.xs v.ys
def Jb(o:Option (Nat×List Int)):Nv:=match o with|some q=>Iv q.1 q.2|none=>Nv.zero
noncomputable def xd (v:Nv) (i r:Int):Nv:=Jb (n0 v.nd v.xs v.ys v.bm.toNat i r)
noncomputable def ir (v:Nv) (i r:Int):Nv:=Jb (nq v.nd v.xs v.ys v.bm.toNat i r)
noncomputable def Nr (v:Nv) (i:Int):Nv:=Jb (nz v.nd v.xs v.ys v.bm.toNat i)
def tmV(s:Nv):Nv:=(tmb s.nd).c [] []
noncomputable def coV (v:Nv) (level:Int) (s:Nv):Nv:=if Uh v.nd v.xs v.ys level s.nd=true then tmV s else v
def unV(v:Nv):Nv:=(Fa v.nd).c [] []
noncomputable def xc (v:Nv) (k:ByteArray) (u:Int):Nv:=(nf (kY v.nd v.xs v.ys k u) v.hash (none,0)).c [] (Zp (kY v.nd v.xs v.ys k u))
noncomputable def qc (v:Nv) (k:ByteArray):Nv:=(Nt (pY v.nd v.xs v.ys k) v.hash (none,0)).c [] (Iw (pY v.nd v.xs v.ys k))
section
variable{n s:Nd}{xs:List Int}{ys:List Pr}{b:Nat}
theorem aBV(hb:n.bm=(b:Int))(i:Int):L7 n xs ys b i=mE (n.c xs ys) i:=by
 have e:(n.c xs ys).bm.toNat=b:=by show n.bm.toNat=b;omega
 unfold mE L7
 rw[e]
 rw[jt (n:=n)]
 rfl
theorem xo:gh n xs ys=Lq (n.c xs ys):=by
 unfold Lq gh
 rw[jt (n:=n)]
 rfl
theorem Fz(o:Option (Nat×List Int))(x:Option Addr×Nat):(nD o x).c (mU o) []=Jb o:=by cases o<;>rfl
theorem aCo(hb:n.bm=(b:Int))(i r:Int):Jb (n0 n xs ys b i r)=xd (n.c xs ys) i r:=by
 have e:(n.c xs ys).bm.toNat=b:=by show n.bm.toNat=b;omega
 unfold xd n0
 rw[e]
 rw[jt (n:=n)]
 rfl
theorem aB0(hb:n.bm=(b:Int))(i r:Int):Jb (nq n xs ys b i r)=ir (n.c xs ys) i r:=by
 have e:(n.c xs ys).bm.toNat=b:=by show n.bm.toNat=b;omega
 unfold ir nq
 rw[e]
 rw[jt (n:=n)]
 rfl
theorem aBL(hb:n.bm=(b:Int))(i:Int):Jb (nz n xs ys b i)=Nr (n.c xs ys) i:=by
 have e:(n.c xs ys).bm.toNat=b:=by show n.bm.toNat=b;omega
 unfold Nr nz
 rw[e]
 rw[jt (n:=n)]
 rfl
theorem aCD(level:Int):(wx (Uh n xs ys level s) n s).c (ny (Uh n xs ys level s) xs) (ny (Uh n xs ys level s) ys)=coV (n.c xs ys) level (s.c [] []):=by
 have e:Uh (n.c xs ys).nd xs ys level (s.c [] []).nd=Uh n xs ys level s:=by
  unfold Uh
  rw[xo (n:=n)]
  rfl
 have e':Uh (n.c xs ys).nd (n.c xs ys).xs (n.c xs ys).ys level (s.c [] []).nd=Uh n xs ys level s:=e
 unfold coV wx ny
 rw[e']
 split<;>rfl
theorem aBM:(Fa n).c [] []=unV (n.c xs ys):=by
 unfold unV Fa
 show _=Nd.c (if n.kind=5 then _ else _) _ _
 split<;>rfl
theorem aCk(k:ByteArray)(u:Int)(x:Option Addr×Nat):(nf (kY n xs ys k u) n.hash x).c [] (Zp (kY n xs ys k u))=xc (n.c xs ys) k u:=by
 have e':kY (n.c xs ys).nd (n.c xs ys).xs (n.c xs ys).ys k u=kY n xs ys k u:=by unfold kY;rw[aBg (n:=n)];rfl
 unfold xc
 rw[e']
 cases kY n xs ys k u<;>rfl
theorem aCn(k:ByteArray)(x:Option Addr×Nat):(Nt (pY n xs ys k) n.hash x).c [] (Iw (pY n xs ys k))=qc (n.c xs ys) k:=by
 have e':pY (n.c xs ys).nd (n.c xs ys).xs (n.c xs ys).ys k=pY n xs ys k:=by unfold pY;rw[aBg (n:=n)];rfl
 unfold qc
 rw[e']
 cases pY n xs ys k with
 | none=>rfl
 | some m=>unfold Nt;simp only[Iw];split<;>rfl
end
end

/- Hash values: their slices, and how many two of them share. -/
end Go.Proofs.YtbajmaoegmbfgaaGreat
namespace Go.Ct
section
open Go Go.RowKit
def sl(h l:Nat):Nat:=(h >>> (6*l))%64
theorem zC(h l:Nat):sl h l<64:=Nat.mod_lt _ (by decide)
theorem L6(h j:Nat):(h >>> (6*j))/64=h >>> (6*(j+1)):=by
 rw[show 6*(j+1)=6*j+6 by omega,Nat.shiftRight_add,Nat.shiftRight_eq_div_pow (h >>> (6*j)) 6]
def Hs(h k:Nat):Nat->Nat->Nat
 | 0,l=>l
 | n+1,l=>if sl h l=sl k l then Hs h k n (l+1) else l
def lC(h k:Nat):Nat:=Hs h k 11 0
theorem yB(h k:Nat):∀n l,l<=Hs h k n l/\Hs h k n l<=l+n/\(∀i,l<=i->i<Hs h k n l->sl h i=sl k i)/\(Hs h k n l<l+n->sl h (Hs h k n l)≠sl k (Hs h k n l))
 | 0,l=>⟨Nat.le_refl _,Nat.le_refl _,λ i h1 h2=>absurd h2 (by simp only[Hs];omega),λ h=>absurd h (by simp only[Hs];omega)⟩
 | n+1,l=>by
  simp only[Hs]
  split
  ·rename_i he
   obtain⟨h1,h2,h3,h4⟩:=yB h k n (l+1)
   refine⟨by omega,by omega,λ i hi hi2=>?_,λ hlt=>h4 (by omega)⟩
   rcases Nat.lt_or_eq_of_le hi with hi|rfl
   ·exact h3 i (by omega) hi2
   ·exact he
  ·rename_i he
   exact⟨Nat.le_refl _,by omega,λ i h1 h2=>absurd h2 (by omega),λ _=>he⟩
theorem zT(h k:Nat):lC h k<=11:=by have:=(yB h k 11 0).2.1;unfold lC;omega
theorem Ty{h k i:Nat}(hi:i<lC h k):sl h i=sl k i:=(yB h k 11 0).2.2.1 i (Nat.zero_le _) hi
theorem Lf{h k:Nat}(hc:lC h k<11):sl h (lC h k)≠sl k (lC h k):=(yB h k 11 0).2.2.2 (by unfold lC at hc;omega)
theorem aAd{h k l:Nat}(hl:l<=11)(h1:∀i,i<l->sl h i=sl k i)(h2:l<11->sl h l≠sl k l):l=lC h k:=by
 rcases Nat.lt_trichotomy l (lC h k) with h3|h3|h3
 ·exact absurd (Ty h3) (h2 (by have:=zT h k;omega))
 ·exact h3
 ·exact absurd (h1 _ h3) (Lf (by omega))
theorem z7{P:Program}{S:List (Nat×Value)}{G:World->Prop}{d:Nat}{ty t t':TypeId}{pos:String}{af:Array Edge}{gd:Option (Nat×Bool)}{x y:Operand}{a b:Nat}(hx:ev S x=.int .u64 (a:Int))(hy:ev S y=.int .u64 (b:Int))(h0:b≠0)(ha:a<18446744073709551616):aM P S G ⟨some d,.binOp .quo t x y t',ty,pos,af,gd⟩ (.int .u64 ((a/b:Nat):Int)):=⟨λ w _=>by
 have h1:((b:Nat):Int)≠0:=by omega
 have h2:(a:Int).tdiv (b:Int)=((a/b:Nat):Int):=by rw[Int.tdiv_eq_ediv_of_nonneg (by omega)];rfl
 have h3:IntKind.u64.wrap ((a/b:Nat):Int)=((a/b:Nat):Int):=by
  have h4:=Nat.div_le_self a b
  generalize a/b=q at h4 ⊢
  rw[wrap_u64]
  omega
 simp only[execOp,hx,hy,eqGuard_at_int,binOp,Op.intDiv]
 simp[h0,h2]
 exact h3⟩
section
variable{P:Program}{S:List (Nat×Value)}{G:World->Prop}{d:Nat}{ty t t':TypeId}{pos:String}{af:Array Edge}{gd:Option (Nat×Bool)}{x y:Operand}{a b i:Nat}{k':IntKind}
theorem aAv(hx:ev S x=.int .u64 (a:Int))(hy:ev S y=.int .u64 (b:Int))(ha:a<18446744073709551616)(hb:b<18446744073709551616):aM P S G ⟨some d,.binOp .and t x y t',ty,pos,af,gd⟩ (.int .u64 ((a &&& b:Nat):Int)):=by
 have:=vm (P:=P) (G:=G) (d:=d) (ty:=ty) (pos:=pos) (af:=af) (gd:=gd) (t:=t) (t':=t') hx hy
 rwa [qN ha hb] at this
theorem aAk(hx:ev S x=.int .u64 (a:Int))(hy:ev S y=.int .u64 (b:Int))(h0:b≠0):aM P S G ⟨some d,.binOp .rem t x y t',ty,pos,af,gd⟩ (.int .u64 ((a%b:Nat):Int)):=by
 have:=jo (P:=P) (G:=G) (d:=d) (ty:=ty) (pos:=pos) (af:=af) (gd:=gd) (t:=t) (t':=t') hx hy (by omega)
 rwa [Int.tmod_eq_emod_of_nonneg (by omega),<- Int.natCast_emod] at this
end
end
end Go.Ct
namespace Go.Proofs.YtbajmaoegmbfgaaGreat
section
open Go.RowKit Go.Ct
theorem qB{h l:Nat}(hh:h<18446744073709551616)(hl:l<=10)(w:World):Calls Tryz.prog 218 #[.int .u64 (h:Int),.int .i64 (l:Int)] w λ e w'=>e=.returned (.int .i64 ((sl h l:Nat):Int))/\St w [] [] w':=by
 refine enter Tryz.func218 Tryz.ntmps218 rfl rfl (SF.s0 w) ?_
 simp only[cA]
 refine Kb3 ?_;refine Bu ?_
 (refine Ka3 ?_)
 refine Ka8 ?_
 refine bD (λ c10=>?_) (λ c10=>?_)
 ·try (exfalso;omega)
 ·try (exfalso;omega)
  refine rR ?_
  refine iL [0,1,11,12,13,14,15,16] (λ y:Nat=>[(1,.int .i64 ((l-y:Nat):Int)),(0,.int .u64 ((h >>> (6*y):Nat):Int))]) (λ y=>y<=l) (λ y=>l-y) (0) (Nat.zero_le _) ?_ (λ y f hx=>?_)
  ·repeat (first|exact bJ _|refine bF (by exact rfl) ?_)
  dsimp only[hX,List.map,List.cons_append,List.nil_append]
  refine kR ?_;refine Ay ?_;refine aG ?_
  refine bD (λ c12=>?_) (λ c12=>?_)
  ·try (exfalso;omega)
   refine rR ?_;refine Aa ?_;refine aN (gO (z7 (b:=64) rf rf (by decide) (Nat.lt_of_le_of_lt (Nat.shiftRight_le _ _) hh))) (λ x16=>?_);refine J1 ?_;refine fG ?_;refine Aa ?_;refine rY ?_;refine J1 ?_
   refine fL (y+1) ?_ ?_ ?_
   ·omega
   ·repeat' (first|exact bJ _|refine bF ?_ ?_)
    all_goals (first|exact rfl|(conv=>{lhs;whnf};rw[L6];done))
   ·omega
  ·try (exfalso;omega)
   refine bR rfl ?_;refine J2 ?_;refine aC (aAk (b:=64) rf rf (by decide)) rfl ?_;refine nM ?_;refine J1 ?_
   refine aQ Tryz.results218 (λ w hw=>?_)
   have hy:y=l:=by omega
   subst hy
   exact⟨rfl,hw.done⟩
theorem O6{h k:Nat}(hh:h<18446744073709551616)(hk:k<18446744073709551616)(w:World):Calls Tryz.prog 260 #[.int .u64 (h:Int),.int .u64 (k:Int)] w λ e w'=>e=.returned (.int .i64 ((lC h k:Nat):Int))/\St w [] [] w':=by
 refine enter Tryz.func260 Tryz.ntmps260 rfl rfl (SF.s0 w) ?_
 simp only[cA]
 refine cS ?_;refine cS ?_;refine Ds ?_
 refine iL [5,6,7,8,9,10,11,12,13,14,15,16,17,18] (λ y:Nat=>[(5,.int .i64 ((y:Nat):Int))]) (λ y=>y<=11/\∀i,i<y->sl h i=sl k i) (λ y=>11-y) (0) (⟨Nat.zero_le _,λ i hi=>absurd hi (Nat.not_lt_zero i)⟩) ?_ (λ y f hx=>?_)
 ·repeat (first|exact bJ _|refine bF (by exact rfl) ?_)
 dsimp only[hX,List.map,List.cons_append,List.nil_append]
 refine kR ?_;refine zJ ?_;refine aA ?_
 (refine dZ 8 (λ g8=>?_) (λ g8=>?_)<;>refine Ka0 ?_)
 all_goals (refine Ka0 ?_;(first|refine aI ?_|(refine aE ?_;refine aN (cV (hc:=λ w1 hw=>qB (l:=y) hh (by omega) w1)) (λ x11=>?_)));refine Ka0 ?_;refine Ka0 ?_;(first|refine aI ?_|(refine aE ?_;refine aN (cV (hc:=λ w1 hw=>qB (l:=y) hk (by omega) w1)) (λ x14=>?_)));refine xT ?_;refine aG ?_)
 all_goals
 refine bD (λ c16=>?_) (λ c16=>?_)
 ·try exact nv c16
  all_goals (refine aW ?_;refine dD ?_;refine vL ?_;refine fG ?_)
  all_goals
   refine fL (y+1) ?_ ?_ ?_
   ·omega
   ·repeat' (first|exact bJ _|refine bF ?_ ?_)
    exact rfl
   ·exact⟨by omega,λ i hi=>by rcases Nat.lt_succ_iff_lt_or_eq.1 hi with h|rfl;exact hx.2 i h;omega⟩
 ·all_goals try (exfalso;omega)
  all_goals (refine bR rfl ?_;refine Ka5 ?_)
  all_goals
   refine aQ Tryz.results260 (λ w hw=>?_)
   exact⟨by rw[<- aAd (h:=h) (k:=k) hx.1 hx.2 (λ _=>by omega)];rfl,hw.done⟩
end

end Go.Proofs.YtbajmaoegmbfgaaGreat
