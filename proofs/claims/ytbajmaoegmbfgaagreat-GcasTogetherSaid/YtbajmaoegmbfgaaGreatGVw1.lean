/- The contents of a trie in a state: what is computed. -/
import Derived.Test.YtbajmaoegmbfgaaGreatGArH
import Derived.Test.YtbajmaoegmbfgaaGreatGAr8
import Derived.Test.YtbajmaoegmbfgaaGreatGBr2
import Derived.Test.YtbajmaoegmbfgaaGreatGPa4

set_option linter.unusedSimpArgs false
set_option linter.unusedVariables false
namespace Go.Ct
section
def bZ(n:Nv):Prop:=n.kind=3∨n.kind=5∨n.kind=6
instance (n:Nv):Decidable (bZ n):=by unfold bZ;exact inferInstance
def tY(N:List Nv)(cs:List Int)(c:Int):Int:=if(cD N (bU cs c)).kind=8 then(if bU cs (cD N (bU cs c)).status=1 then(cD N (bU cs c)).new else(cD N (bU cs c)).bK) else bU cs c
def oO(N:List Nv)(cs:List Int)(c:Int):Option Int:=if(cD N (tY N cs c)).kind=2 then some (tY N cs c) else none
def wS(N:List Nv)(cs:List Int)(i:Int):Int:=bU cs (cD N i).main
def oN(N:List Nv)(cs:List Int)(i:Int):Int:=bU cs (cD N (wS N cs i)).prev
def yU(N:List Nv)(cs:List Int)(i:Int):Int:=if(cD N (oN N cs i)).kind=7 then(cD N (oN N cs i)).bK else oN N cs i
def iD(N:List Nv)(cs:List Int)(i:Int):Option Int :=
 if(cD N i).kind=2/\bZ (cD N (wS N cs i)) then
  if oN N cs i=0 then some (wS N cs i) else if bZ (cD N (yU N cs i)) then some (yU N cs i) else none
 else none
def oq(v:Nv):List Pr:=if v.kind=5 then [(v.key,v.val)] else if v.kind=6 then v.ys else []
theorem Kp{N:List Nv}{cs:List Int}{i m:Int}(h:iD N cs i=some m):(cD N i).kind=2/\bZ (cD N m):=by
 unfold iD at h
 split at h
 ·rename_i h1
  split at h
  ·cases h;exact h1
  split at h
  ·cases h;exact⟨h1.1,by assumption⟩
  ·cases h
 ·cases h
theorem eI{N:List Nv}{i:Int}(h:(cD N i).kind≠0):1<=i/\i<=N.length:=by
 unfold cD at h
 split at h
 ·assumption
 ·exact absurd rfl h
end

/- Proper states, by what their nodes hold. -/
section
def Nv.nd(v:Nv):Nd:=⟨v.kind,v.gen,v.main,v.bm,none,v.xs.length,0,v.hash,v.key,v.val,none,v.ys.length,0,v.prev,v.bK,v.exp,v.new,v.status⟩
def Nv.dv(v:Nv):aP:=⟨v.nd,v.xs,v.ys⟩
theorem Nv.aCn(v:Nv):v.dv.c=v:=rfl
theorem yr(N:List Nv):(N.map Nv.dv).map aP.c=N:=by
 rw[List.map_map]
 exact(List.map_congr_left (λ v _=>Nv.aCn v)).trans (List.map_id N)
theorem Mu{n:Nd}{xs:List Int}{ys:List Pr}:bY n xs ys↔bY (n.c xs ys).nd xs ys:=by
 have e:rQ n n.own xs (n.jT xs) ys (n.jB ys)↔rQ (n.c xs ys).nd (n.c xs ys).nd.own xs ((n.c xs ys).nd.jT xs) ys ((n.c xs ys).nd.jB ys):=by
  rw[rR,rR]
  have e1:n.own.c (n.jT xs) (n.jB ys)=(n.c xs ys).nd.own.c ((n.c xs ys).nd.jT xs) ((n.c xs ys).nd.jB ys):=by
   have hx:(n.c xs ys).nd.jT xs=n.jT xs:=rfl
   have hy:(n.c xs ys).nd.jB ys=n.jB ys:=rfl
   have hk:(n.c xs ys).nd.kind=n.kind:=rfl
   rw[hx,hy]
   unfold Nd.own
   rw[hk]
   repeat' split
   all_goals rfl
  rw[e1]
  exact Iff.rfl
 unfold bY
 rw[e]
 exact Iff.rfl
theorem xb{gen:Int}{n:Nat}{u v:aP}(h:u.c=v.c)(hu:mR gen n u):mR gen n v:=by
 have key:∀v:aP,mR gen n v↔mR gen n v.c.dv:=λ v=>by
  unfold mR
  rw[Mu (n:=v.nd)]
  exact Iff.rfl
 rw[key,<- h,<- key]
 exact hu
theorem pw{m:Nat}{L1 L2:List aP}(h:L1.map aP.c=L2.map aP.c):marks m L1=marks m L2:=by
 have key:∀L:List aP,marks m L=(L.map aP.c).foldl (λ u c=>eT u c.nd) (some (List.replicate m false)):=λ L=>by
  unfold marks
  rw[List.foldl_map]
  rfl
 rw[key,key,h]
theorem X9{L1 L2:List aP}{cs:List Int}{gen:Int}(h:L1.map aP.c=L2.map aP.c)(hp:gV L1 cs gen):gV L2 cs gen:=by
 have hl:L1.length=L2.length:=by simpa using congrArg List.length h
 have hi:=(ls hl).1 h
 have h2:=hp.two
 refine⟨by omega,hp.gen0,?_,?_,λ i h=>by have:=hp.cells i h;rwa [hl] at this,λ i h=>?_,by rw[<- pw h];exact hp.marks⟩
 ·have:=congrArg Nv.kind (hi 0 (by omega))
  exact this.symm.trans hp.m0
 ·have:=congrArg Nv.kind (hi 1 (by omega))
  exact this.symm.trans hp.m1
 ·have:=hp.nodes i (by omega)
  rw[<- hl]
  exact xb (hi i (by omega)) this
def gL(N:List Nv)(cs:List Int)(gen:Int):Prop:=gV (N.map Nv.dv) cs gen
theorem gL.to{N:List Nv}{cs:List Int}{gen:Int}(h:gL N cs gen){L:List aP}(hl:L.map aP.c=N):gV L cs gen:=X9 (by rw[yr,hl]) h
theorem gL.push{N:List Nv}{cs:List Int}{gen init:Int}{n:Nv}(h:gL N cs gen)(hv:mR gen (N.length+1) (dW n cs.length).dv)(hi:Ed init N.length):gL (N++[dW n cs.length]) (fU n.kind cs init) gen:=by
 have hm:(N.map Nv.dv).length=N.length:=by simp
 have:=Rj (v:=(dW n cs.length).dv) (k:=n.kind) (init:=init) h (by rw[hm];exact hv) (by rw[hm];exact hi) (by
  have e:(dW n cs.length).dv.nd.kind=n.kind:=rfl
  unfold gE fU
  rw[e]
  by_cases h2:n.kind=2
  ·right
   rw[if_pos h2,if_pos (.inl h2)]
   exact⟨by show some (if n.kind=2 then _ else _)=_;rw[if_pos h2],rfl⟩
  rw[if_neg h2]
  by_cases h3:n.kind=3∨n.kind=5∨n.kind=6
  ·right
   rw[if_pos h3,if_pos (by omega)]
   exact⟨by show some (if n.kind=3∨n.kind=5∨n.kind=6 then _ else _)=_;rw[if_pos h3],rfl⟩
  rw[if_neg h3]
  by_cases h8:n.kind=8
  ·right
   rw[if_pos h8,if_pos (by omega)]
   exact⟨by show some (if n.kind=8 then _ else _)=_;rw[if_pos h8],rfl⟩
  ·left
   rw[if_neg h8,if_neg (by omega)]
   exact⟨rfl,rfl⟩)
 unfold gL
 rw[List.map_append]
 exact this
theorem gL.cell{N:List Nv}{cs:List Int}{gen init:Int}(h:gL N cs gen)(hi:Ed init N.length):gL N (cs++[init]) gen:=by
 have hm:(N.map Nv.dv).length=N.length:=by simp
 refine⟨h.two,h.gen0,h.m0,h.m1,λ i hi'=>?_,h.nodes,?_⟩
 ·rw[jH]
  rw[List.length_append,List.length_cons,List.length_nil] at hi'
  by_cases hl:i<cs.length
  ·rw[List.getElem?_append_left hl,<- jH]
   exact h.cells i hl
  ·rw[List.getElem?_append_right (by omega),show i-cs.length=0 by omega,hm]
   exact hi
 ·have key:∀(l:List aP) (m:Nat) (u:List Bool),l.foldl (λ u v=>eT u v.nd) (some u)≠none->l.foldl (λ u v=>eT u v.nd) (some (u++[false]))≠none:=by
   intro l
   induction l with
   | nil=>intro _ u _ h;cases h
   | cons v l ih =>
    intro m u hu
    rw[List.foldl_cons] at hu ⊢
    have hnone:∀l:List aP,l.foldl (λ u v=>eT u v.nd) none=none:=λ l=>by
     induction l with
     | nil=>rfl
     | cons v l ih=>exact ih
    cases hc:gE v.nd with
    | none =>
     rw[show eT (some u) v.nd=some u by simp[eT,hc]] at hu
     rw[show eT (some (u++[false])) v.nd=some (u++[false]) by simp[eT,hc]]
     exact ih m u hu
    | some c =>
     by_cases hc3:1<=c/\c<=u.length/\u.getD (c-1).toNat false=false
     ·obtain⟨c1,c2,c3⟩:=hc3
      have hlt:(c-1).toNat<u.length:=by omega
      have e1:(u++[false]).getD (c-1).toNat false=u.getD (c-1).toNat false:=by
       rw[jH,jH,List.getElem?_append_left hlt]
      have e2:eT (some u) v.nd=some (u.set (c-1).toNat true):=by
       show(match gE v.nd with|none=>_|some c=>_)=_
       rw[hc]
       exact if_pos ⟨c1,c2,c3⟩
      have e3:eT (some (u++[false])) v.nd=some (u.set (c-1).toNat true++[false]):=by
       show(match gE v.nd with|none=>_|some c=>_)=_
       rw[hc,<- List.set_append_left _ _ hlt]
       exact if_pos ⟨c1,by rw[List.length_append,List.length_cons,List.length_nil];omega,by rw[e1];exact c3⟩
      rw[e2] at hu
      rw[e3]
      exact ih m _ hu
     ·have e2:eT (some u) v.nd=none:=by
       show(match gE v.nd with|none=>_|some c=>_)=_
       rw[hc]
       exact if_neg hc3
      rw[e2,hnone] at hu
      exact absurd rfl hu
  have:=key (N.map Nv.dv) 0 (List.replicate cs.length false) h.marks
  unfold marks
  rw[List.length_append,List.length_cons,List.length_nil,List.replicate_succ']
  exact this
end

/- Nodes by what they hold: what the reference's functions on nodes give. -/
end Go.Ct
namespace Go.Proofs.YtbajmaoegmbfgaaGreat
section
open Go.RowKit Go.Ct
theorem aAS{n:Nd}{xs:List Int}{ys:List Pr}:CV n xs ys↔CV (n.c xs ys).nd xs ys:=by
 unfold CV
 rw[Mu (n:=n)]
 exact Iff.rfl
theorem aCu{n:Nd}{xs:List Int}{ys:List Pr}:LV n xs ys↔LV (n.c xs ys).nd xs ys:=by
 unfold LV
 rw[Mu (n:=n)]
 exact Iff.rfl
theorem jn{n:Nd}{xs:List Int}{ys:List Pr}:CV (n.c xs ys).nd (n.c xs ys).xs (n.c xs ys).ys=CV n xs ys:=propext aAS.symm
theorem aAY{n:Nd}{xs:List Int}{ys:List Pr}:LV (n.c xs ys).nd (n.c xs ys).xs (n.c xs ys).ys=LV n xs ys:=propext aCu.symm
def I4(b:Nat)(xs:List Int):Nv:=(cn b xs (none,0)).c xs []
noncomputable def mL (v:Nv) (i:Int):Option Int:=Lq v.nd v.xs v.ys v.bm.toNat i
noncomputable def Lr (v:Nv):Option Int:=az v.nd v.xs v.ys
def Jg(o:Option (Nat×List Int)):Nv:=match o with|some q=>I4 q.1 q.2|none=>Nv.zero
noncomputable def ze (v:Nv) (i r:Int):Nv:=Jg (n6 v.nd v.xs v.ys v.bm.toNat i r)
noncomputable def Z8 (v:Nv) (i r:Int):Nv:=Jg (nz v.nd v.xs v.ys v.bm.toNat i r)
noncomputable def Ns (v:Nv) (i:Int):Nv:=Jg (n8 v.nd v.xs v.ys v.bm.toNat i)
def tmV(s:Nv):Nv:=(tmb s.nd).c [] []
noncomputable def yx (v:Nv) (level:Int) (s:Nv):Nv:=if T8 v.nd v.xs v.ys level s.nd=true then tmV s else v
def unV(v:Nv):Nv:=(Ig v.nd).c [] []
noncomputable def w3 (v:Nv) (k:ByteArray) (u:Int):Nv:=(mi (kP v.nd v.xs v.ys k u) v.hash (none,0)).c [] (Zt (kP v.nd v.xs v.ys k u))
noncomputable def s4 (v:Nv) (k:ByteArray):Nv:=(Nt (pR v.nd v.xs v.ys k) v.hash (none,0)).c [] (I3 (pR v.nd v.xs v.ys k))
section
variable{n s:Nd}{xs:List Int}{ys:List Pr}{b:Nat}
theorem aBL(hb:n.bm=(b:Int))(i:Int):Lq n xs ys b i=mL (n.c xs ys) i:=by
 have e:(n.c xs ys).bm.toNat=b:=by show n.bm.toNat=b;omega
 unfold mL Lq
 rw[e]
 rw[jn (n:=n)]
 rfl
theorem aAd:az n xs ys=Lr (n.c xs ys):=by
 unfold Lr az
 rw[jn (n:=n)]
 rfl
theorem Ik(o:Option (Nat×List Int))(x:Option Addr×Nat):(mT o x).c (mN o) []=Jg o:=by cases o<;>rfl
theorem aCt(hb:n.bm=(b:Int))(i r:Int):Jg (n6 n xs ys b i r)=ze (n.c xs ys) i r:=by
 have e:(n.c xs ys).bm.toNat=b:=by show n.bm.toNat=b;omega
 unfold ze n6
 rw[e]
 rw[jn (n:=n)]
 rfl
theorem aBW(hb:n.bm=(b:Int))(i r:Int):Jg (nz n xs ys b i r)=Z8 (n.c xs ys) i r:=by
 have e:(n.c xs ys).bm.toNat=b:=by show n.bm.toNat=b;omega
 unfold Z8 nz
 rw[e]
 rw[jn (n:=n)]
 rfl
theorem aBd(hb:n.bm=(b:Int))(i:Int):Jg (n8 n xs ys b i)=Ns (n.c xs ys) i:=by
 have e:(n.c xs ys).bm.toNat=b:=by show n.bm.toNat=b;omega
 unfold Ns n8
 rw[e]
 rw[jn (n:=n)]
 rfl
theorem aCs(level:Int):(u4 (T8 n xs ys level s) n s).c (n5 (T8 n xs ys level s) xs) (n5 (T8 n xs ys level s) ys)=yx (n.c xs ys) level (s.c [] []):=by
 have e:T8 (n.c xs ys).nd xs ys level (s.c [] []).nd=T8 n xs ys level s:=by
  unfold T8
  rw[aAd (n:=n)]
  rfl
 have e':T8 (n.c xs ys).nd (n.c xs ys).xs (n.c xs ys).ys level (s.c [] []).nd=T8 n xs ys level s:=e
 unfold yx u4 n5
 rw[e']
 split<;>rfl
theorem aBA:(Ig n).c [] []=unV (n.c xs ys):=by
 unfold unV Ig
 show _=Nd.c (if n.kind=5 then _ else _) _ _
 split<;>rfl
theorem aCh(k:ByteArray)(u:Int)(x:Option Addr×Nat):(mi (kP n xs ys k u) n.hash x).c [] (Zt (kP n xs ys k u))=w3 (n.c xs ys) k u:=by
 have e':kP (n.c xs ys).nd (n.c xs ys).xs (n.c xs ys).ys k u=kP n xs ys k u:=by unfold kP;rw[aAY (n:=n)];rfl
 unfold w3
 rw[e']
 cases kP n xs ys k u<;>rfl
theorem aB8(k:ByteArray)(x:Option Addr×Nat):(Nt (pR n xs ys k) n.hash x).c [] (I3 (pR n xs ys k))=s4 (n.c xs ys) k:=by
 have e':pR (n.c xs ys).nd (n.c xs ys).xs (n.c xs ys).ys k=pR n xs ys k:=by unfold pR;rw[aAY (n:=n)];rfl
 unfold s4
 rw[e']
 cases pR n xs ys k with
 | none=>rfl
 | some m=>unfold Nt;simp only[I3];split<;>rfl
end
end

/- Hash values: their slices, and how many two of them share. -/
end Go.Proofs.YtbajmaoegmbfgaaGreat
namespace Go.Ct
section
open Go Go.RowKit
def sl(h l:Nat):Nat:=(h >>> (6*l))%64
theorem yX(h l:Nat):sl h l<64:=Nat.mod_lt _ (by decide)
theorem Lu(h j:Nat):(h >>> (6*j))/64=h >>> (6*(j+1)):=by
 rw[show 6*(j+1)=6*j+6 by omega,Nat.shiftRight_add,Nat.shiftRight_eq_div_pow (h >>> (6*j)) 6]
def Fa(h k:Nat):Nat->Nat->Nat
 | 0,l=>l
 | n+1,l=>if sl h l=sl k l then Fa h k n (l+1) else l
def lC(h k:Nat):Nat:=Fa h k 11 0
theorem xP(h k:Nat):∀n l,l<=Fa h k n l/\Fa h k n l<=l+n/\(∀i,l<=i->i<Fa h k n l->sl h i=sl k i)/\(Fa h k n l<l+n->sl h (Fa h k n l)≠sl k (Fa h k n l))
 | 0,l=>⟨Nat.le_refl _,Nat.le_refl _,λ i h1 h2=>absurd h2 (by simp only[Fa];omega),λ h=>absurd h (by simp only[Fa];omega)⟩
 | n+1,l=>by
  simp only[Fa]
  split
  ·rename_i he
   obtain⟨h1,h2,h3,h4⟩:=xP h k n (l+1)
   refine⟨by omega,by omega,λ i hi hi2=>?_,λ hlt=>h4 (by omega)⟩
   rcases Nat.lt_or_eq_of_le hi with hi|rfl
   ·exact h3 i (by omega) hi2
   ·exact he
  ·rename_i he
   exact⟨Nat.le_refl _,by omega,λ i h1 h2=>absurd h2 (by omega),λ _=>he⟩
theorem zL(h k:Nat):lC h k<=11:=by have:=(xP h k 11 0).2.1;unfold lC;omega
theorem Sj{h k i:Nat}(hi:i<lC h k):sl h i=sl k i:=(xP h k 11 0).2.2.1 i (Nat.zero_le _) hi
theorem M1{h k:Nat}(hc:lC h k<11):sl h (lC h k)≠sl k (lC h k):=(xP h k 11 0).2.2.2 (by unfold lC at hc;omega)
theorem yq{h k l:Nat}(hl:l<=11)(h1:∀i,i<l->sl h i=sl k i)(h2:l<11->sl h l≠sl k l):l=lC h k:=by
 rcases Nat.lt_trichotomy l (lC h k) with h3|h3|h3
 ·exact absurd (Sj h3) (h2 (by have:=zL h k;omega))
 ·exact h3
 ·exact absurd (h1 _ h3) (M1 (by omega))
theorem zy{P:Program}{S:List (Nat×Value)}{G:World->Prop}{d:Nat}{ty t t':TypeId}{pos:String}{af:Array Edge}{gd:Option (Nat×Bool)}{x y:Operand}{a b:Nat}(hx:ev S x=.int .u64 (a:Int))(hy:ev S y=.int .u64 (b:Int))(h0:b≠0)(ha:a<18446744073709551616):aM P S G ⟨some d,.binOp .quo t x y t',ty,pos,af,gd⟩ (.int .u64 ((a/b:Nat):Int)):=⟨λ w _=>by
 have h1:((b:Nat):Int)≠0:=by omega
 have h2:(a:Int).tdiv (b:Int)=((a/b:Nat):Int):=by rw[Int.tdiv_eq_ediv_of_nonneg (by omega)];rfl
 have h3:IntKind.u64.wrap ((a/b:Nat):Int)=((a/b:Nat):Int):=by
  have h4:=Nat.div_le_self a b
  generalize a/b=q at h4 ⊢
  rw[wrap_u64]
  omega
 simp only[execOp,hx,hy,eqGuard_at_int,binOp,Op.intDiv]
 simp[h0,h2]
 exact h3⟩
section
variable{P:Program}{S:List (Nat×Value)}{G:World->Prop}{d:Nat}{ty t t':TypeId}{pos:String}{af:Array Edge}{gd:Option (Nat×Bool)}{x y:Operand}{a b i:Nat}{k':IntKind}
theorem we(hx:ev S x=.int .u64 (a:Int))(hy:ev S y=.int .u64 (b:Int))(ha:a<18446744073709551616)(hb:b<18446744073709551616):aM P S G ⟨some d,.binOp .and t x y t',ty,pos,af,gd⟩ (.int .u64 ((a &&& b:Nat):Int)):=by
 have:=va (P:=P) (G:=G) (d:=d) (ty:=ty) (pos:=pos) (af:=af) (gd:=gd) (t:=t) (t':=t') hx hy
 rwa [pI ha hb] at this
theorem xx(hx:ev S x=.int .u64 (a:Int))(hy:ev S y=.int .u64 (b:Int))(h0:b≠0):aM P S G ⟨some d,.binOp .rem t x y t',ty,pos,af,gd⟩ (.int .u64 ((a%b:Nat):Int)):=by
 have:=ie (P:=P) (G:=G) (d:=d) (ty:=ty) (pos:=pos) (af:=af) (gd:=gd) (t:=t) (t':=t') hx hy (by omega)
 rwa [Int.tmod_eq_emod_of_nonneg (by omega),<- Int.natCast_emod] at this
end
end
end Go.Ct
namespace Go.Proofs.YtbajmaoegmbfgaaGreat
section
open Go.RowKit Go.Ct
theorem qB{h l:Nat}(hh:h<18446744073709551616)(hl:l<=10)(w:World):Calls Tryz.prog 218 #[.int .u64 (h:Int),.int .i64 (l:Int)] w λ e w'=>e=.returned (.int .i64 ((sl h l:Nat):Int))/\St w [] [] w':=by
 refine enter Tryz.func218 Tryz.ntmps218 rfl rfl (SF.s0 w) ?_
 simp only[bX]
 refine cO ?_;refine kB ?_;refine Cq ?_
 (refine aF ?_;refine aA ?_)
 refine Bh ?_;refine aH ?_
 refine bB (λ c10=>?_) (λ c10=>?_)
 ·try (exfalso;omega)
 ·try (exfalso;omega)
  refine qE ?_
  refine gB [0,1,11,12,13,14,15,16] (λ y:Nat=>[(1,.int .i64 ((l-y:Nat):Int)),(0,.int .u64 ((h >>> (6*y):Nat):Int))]) (λ y=>y<=l) (λ y=>l-y) (0) (Nat.zero_le _) ?_ (λ y f hx=>?_)
  ·repeat (first|exact bD _|refine aX (by exact rfl) ?_)
  dsimp only[gU,List.map,List.cons_append,List.nil_append]
  refine kB ?_;refine Dh ?_;refine aH ?_
  refine bB (λ c12=>?_) (λ c12=>?_)
  ·try (exfalso;omega)
   refine qE ?_;refine An ?_;refine aS (gM (zy (b:=64) rf rf (by decide) (Nat.lt_of_le_of_lt (Nat.shiftRight_le _ _) hh))) (λ x16=>?_);refine J1 ?_;refine fK ?_;refine An ?_;refine rT ?_;refine J1 ?_
   refine eK (y+1) ?_ ?_ ?_
   ·omega
   ·repeat' (first|exact bD _|refine aX ?_ ?_)
    all_goals (first|exact rfl|(conv=>{lhs;whnf};rw[Lu];done))
   ·omega
  ·try (exfalso;omega)
   refine bN rfl ?_;refine J2 ?_;refine aC (xx (b:=64) rf rf (by decide)) rfl ?_;refine nK ?_;refine J1 ?_
   refine aT Tryz.results218 (λ w hw=>?_)
   have hy:y=l:=by omega
   subst hy
   exact⟨rfl,hw.done⟩
theorem O3{h k:Nat}(hh:h<18446744073709551616)(hk:k<18446744073709551616)(w:World):Calls Tryz.prog 260 #[.int .u64 (h:Int),.int .u64 (k:Int)] w λ e w'=>e=.returned (.int .i64 ((lC h k:Nat):Int))/\St w [] [] w':=by
 refine enter Tryz.func260 Tryz.ntmps260 rfl rfl (SF.s0 w) ?_
 simp only[bX]
 refine cO ?_;refine cO ?_;refine Dg ?_
 refine gB [5,6,7,8,9,10,11,12,13,14,15,16,17,18] (λ y:Nat=>[(5,.int .i64 ((y:Nat):Int))]) (λ y=>y<=11/\∀i,i<y->sl h i=sl k i) (λ y=>11-y) (0) (⟨Nat.zero_le _,λ i hi=>absurd hi (Nat.not_lt_zero i)⟩) ?_ (λ y f hx=>?_)
 ·repeat (first|exact bD _|refine aX (by exact rfl) ?_)
 dsimp only[gU,List.map,List.cons_append,List.nil_append]
 refine kB ?_;refine Be ?_;refine aA ?_
 (refine eE 8 (λ g8=>?_) (λ g8=>?_)<;>(first|refine aI ?_|(refine aF ?_;refine aA ?_)))
 all_goals ((first|refine aI ?_|(refine aF ?_;refine aA ?_));(first|refine aI ?_|(refine aF ?_;refine aS (cV (hc:=λ w1 hw=>qB (l:=y) hh (by omega) w1)) (λ x11=>?_)));(first|refine aI ?_|(refine aF ?_;refine aA ?_));(first|refine aI ?_|(refine aF ?_;refine aA ?_));(first|refine aI ?_|(refine aF ?_;refine aS (cV (hc:=λ w1 hw=>qB (l:=y) hk (by omega) w1)) (λ x14=>?_)));refine wK ?_;refine aH ?_)
 all_goals
 refine bB (λ c16=>?_) (λ c16=>?_)
 ·try exact nv c16
  all_goals (refine bA ?_;refine cR ?_;refine uN ?_;refine fK ?_)
  all_goals
   refine eK (y+1) ?_ ?_ ?_
   ·omega
   ·repeat' (first|exact bD _|refine aX ?_ ?_)
    exact rfl
   ·exact⟨by omega,λ i hi=>by rcases Nat.lt_succ_iff_lt_or_eq.1 hi with h|rfl;exact hx.2 i h;omega⟩
 ·all_goals try (exfalso;omega)
  all_goals (refine bN rfl ?_;refine J2 ?_;refine J1 ?_)
  all_goals
   refine aT Tryz.results260 (λ w hw=>?_)
   exact⟨by rw[<- yq (h:=h) (k:=k) hx.1 hx.2 (λ _=>by omega)];rfl,hw.done⟩
end

end Go.Proofs.YtbajmaoegmbfgaaGreat
