/- The contents of a trie in a state: what is computed. -/
import Derived.Test.YtbajmaoegmbfgaaGreatGArH
import Derived.Test.YtbajmaoegmbfgaaGreatGAr8
import Derived.Test.YtbajmaoegmbfgaaGreatGBr2
import Derived.Test.YtbajmaoegmbfgaaGreatGPa4

set_option linter.unusedSimpArgs false
set_option linter.unusedVariables false
namespace Go.Ct
section
def bZ(n:Nv):Prop:=n.kind=3∨n.kind=5∨n.kind=6
instance (n:Nv):Decidable (bZ n):=by unfold bZ;exact inferInstance
def tX(N:List Nv)(cs:List Int)(c:Int):Int:=if(cB N (bU cs c)).kind=8 then(if bU cs (cB N (bU cs c)).status=1 then(cB N (bU cs c)).new else(cB N (bU cs c)).bI) else bU cs c
def oL(N:List Nv)(cs:List Int)(c:Int):Option Int:=if(cB N (tX N cs c)).kind=2 then some (tX N cs c) else none
def vV(N:List Nv)(cs:List Int)(i:Int):Int:=bU cs (cB N i).main
def oN(N:List Nv)(cs:List Int)(i:Int):Int:=bU cs (cB N (vV N cs i)).prev
def yN(N:List Nv)(cs:List Int)(i:Int):Int:=if(cB N (oN N cs i)).kind=7 then(cB N (oN N cs i)).bI else oN N cs i
def iC(N:List Nv)(cs:List Int)(i:Int):Option Int :=
 if(cB N i).kind=2/\bZ (cB N (vV N cs i)) then
  if oN N cs i=0 then some (vV N cs i) else if bZ (cB N (yN N cs i)) then some (yN N cs i) else none
 else none
def sf(v:Nv):List Pr:=if v.kind=5 then [(v.key,v.val)] else if v.kind=6 then v.ys else []
theorem Jp{N:List Nv}{cs:List Int}{i m:Int}(h:iC N cs i=some m):(cB N i).kind=2/\bZ (cB N m):=by
 unfold iC at h
 split at h
 ·rename_i h1
  split at h
  ·cases h;exact h1
  split at h
  ·cases h;exact⟨h1.1,by assumption⟩
  ·cases h
 ·cases h
theorem eE{N:List Nv}{i:Int}(h:(cB N i).kind≠0):1<=i/\i<=N.length:=by
 unfold cB at h
 split at h
 ·assumption
 ·exact absurd rfl h
end

/- Proper states, by what their nodes hold. -/
section
def Nv.nd(v:Nv):Nd:=⟨v.kind,v.gen,v.main,v.bm,none,v.xs.length,0,v.hash,v.key,v.val,none,v.ys.length,0,v.prev,v.bI,v.exp,v.new,v.status⟩
def Nv.dv(v:Nv):aP:=⟨v.nd,v.xs,v.ys⟩
theorem Nv.aBX(v:Nv):v.dv.c=v:=rfl
theorem xp(N:List Nv):(N.map Nv.dv).map aP.c=N:=by
 rw[List.map_map]
 exact(List.map_congr_left (λ v _=>Nv.aBX v)).trans (List.map_id N)
theorem Lw{n:Nd}{xs:List Int}{ys:List Pr}:bY n xs ys↔bY (n.c xs ys).nd xs ys:=by
 have e:rL n n.own xs (n.jS xs) ys (n.jA ys)↔rL (n.c xs ys).nd (n.c xs ys).nd.own xs ((n.c xs ys).nd.jS xs) ys ((n.c xs ys).nd.jA ys):=by
  rw[rS,rS]
  have e1:n.own.c (n.jS xs) (n.jA ys)=(n.c xs ys).nd.own.c ((n.c xs ys).nd.jS xs) ((n.c xs ys).nd.jA ys):=by
   have hx:(n.c xs ys).nd.jS xs=n.jS xs:=rfl
   have hy:(n.c xs ys).nd.jA ys=n.jA ys:=rfl
   have hk:(n.c xs ys).nd.kind=n.kind:=rfl
   rw[hx,hy]
   unfold Nd.own
   rw[hk]
   repeat' split
   all_goals rfl
  rw[e1]
  exact Iff.rfl
 unfold bY
 rw[e]
 exact Iff.rfl
theorem w5{gen:Int}{n:Nat}{u v:aP}(h:u.c=v.c)(hu:mL gen n u):mL gen n v:=by
 have key:∀v:aP,mL gen n v↔mL gen n v.c.dv:=λ v=>by
  unfold mL
  rw[Lw (n:=v.nd)]
  exact Iff.rfl
 rw[key,<- h,<- key]
 exact hu
theorem rz{m:Nat}{L1 L2:List aP}(h:L1.map aP.c=L2.map aP.c):marks m L1=marks m L2:=by
 have key:∀L:List aP,marks m L=(L.map aP.c).foldl (λ u c=>eS u c.nd) (some (List.replicate m false)):=λ L=>by
  unfold marks
  rw[List.foldl_map]
  rfl
 rw[key,key,h]
theorem Y9{L1 L2:List aP}{cs:List Int}{gen:Int}(h:L1.map aP.c=L2.map aP.c)(hp:gV L1 cs gen):gV L2 cs gen:=by
 have hl:L1.length=L2.length:=by simpa using congrArg List.length h
 have hi:=(j9 hl).1 h
 have h2:=hp.two
 refine⟨by omega,hp.gen0,?_,?_,λ i h=>by have:=hp.cells i h;rwa [hl] at this,λ i h=>?_,by rw[<- rz h];exact hp.marks⟩
 ·have:=congrArg Nv.kind (hi 0 (by omega))
  exact this.symm.trans hp.m0
 ·have:=congrArg Nv.kind (hi 1 (by omega))
  exact this.symm.trans hp.m1
 ·have:=hp.nodes i (by omega)
  rw[<- hl]
  exact w5 (hi i (by omega)) this
def gJ(N:List Nv)(cs:List Int)(gen:Int):Prop:=gV (N.map Nv.dv) cs gen
theorem gJ.to{N:List Nv}{cs:List Int}{gen:Int}(h:gJ N cs gen){L:List aP}(hl:L.map aP.c=N):gV L cs gen:=Y9 (by rw[xp,hl]) h
theorem gJ.push{N:List Nv}{cs:List Int}{gen init:Int}{n:Nv}(h:gJ N cs gen)(hv:mL gen (N.length+1) (dU n cs.length).dv)(hi:Du init N.length):gJ (N++[dU n cs.length]) (fO n.kind cs init) gen:=by
 have hm:(N.map Nv.dv).length=N.length:=by simp
 have:=Qx (v:=(dU n cs.length).dv) (k:=n.kind) (init:=init) h (by rw[hm];exact hv) (by rw[hm];exact hi) (by
  have e:(dU n cs.length).dv.nd.kind=n.kind:=rfl
  unfold gA fO
  rw[e]
  by_cases h2:n.kind=2
  ·right
   rw[if_pos h2,if_pos (.inl h2)]
   exact⟨by show some (if n.kind=2 then _ else _)=_;rw[if_pos h2],rfl⟩
  rw[if_neg h2]
  by_cases h3:n.kind=3∨n.kind=5∨n.kind=6
  ·right
   rw[if_pos h3,if_pos (by omega)]
   exact⟨by show some (if n.kind=3∨n.kind=5∨n.kind=6 then _ else _)=_;rw[if_pos h3],rfl⟩
  rw[if_neg h3]
  by_cases h8:n.kind=8
  ·right
   rw[if_pos h8,if_pos (by omega)]
   exact⟨by show some (if n.kind=8 then _ else _)=_;rw[if_pos h8],rfl⟩
  ·left
   rw[if_neg h8,if_neg (by omega)]
   exact⟨rfl,rfl⟩)
 unfold gJ
 rw[List.map_append]
 exact this
theorem gJ.cell{N:List Nv}{cs:List Int}{gen init:Int}(h:gJ N cs gen)(hi:Du init N.length):gJ N (cs++[init]) gen:=by
 have hm:(N.map Nv.dv).length=N.length:=by simp
 refine⟨h.two,h.gen0,h.m0,h.m1,λ i hi'=>?_,h.nodes,?_⟩
 ·rw[jJ]
  rw[List.length_append,List.length_cons,List.length_nil] at hi'
  by_cases hl:i<cs.length
  ·rw[List.getElem?_append_left hl,<- jJ]
   exact h.cells i hl
  ·rw[List.getElem?_append_right (by omega),show i-cs.length=0 by omega,hm]
   exact hi
 ·have key:∀(l:List aP) (m:Nat) (u:List Bool),l.foldl (λ u v=>eS u v.nd) (some u)≠none->l.foldl (λ u v=>eS u v.nd) (some (u++[false]))≠none:=by
   intro l
   induction l with
   | nil=>intro _ u _ h;cases h
   | cons v l ih =>
    intro m u hu
    rw[List.foldl_cons] at hu ⊢
    have hnone:∀l:List aP,l.foldl (λ u v=>eS u v.nd) none=none:=λ l=>by
     induction l with
     | nil=>rfl
     | cons v l ih=>exact ih
    cases hc:gA v.nd with
    | none =>
     rw[show eS (some u) v.nd=some u by simp[eS,hc]] at hu
     rw[show eS (some (u++[false])) v.nd=some (u++[false]) by simp[eS,hc]]
     exact ih m u hu
    | some c =>
     by_cases hc3:1<=c/\c<=u.length/\u.getD (c-1).toNat false=false
     ·obtain⟨c1,c2,c3⟩:=hc3
      have hlt:(c-1).toNat<u.length:=by omega
      have e1:(u++[false]).getD (c-1).toNat false=u.getD (c-1).toNat false:=by
       rw[jJ,jJ,List.getElem?_append_left hlt]
      have e2:eS (some u) v.nd=some (u.set (c-1).toNat true):=by
       show(match gA v.nd with|none=>_|some c=>_)=_
       rw[hc]
       exact if_pos ⟨c1,c2,c3⟩
      have e3:eS (some (u++[false])) v.nd=some (u.set (c-1).toNat true++[false]):=by
       show(match gA v.nd with|none=>_|some c=>_)=_
       rw[hc,<- List.set_append_left _ _ hlt]
       exact if_pos ⟨c1,by rw[List.length_append,List.length_cons,List.length_nil];omega,by rw[e1];exact c3⟩
      rw[e2] at hu
      rw[e3]
      exact ih m _ hu
     ·have e2:eS (some u) v.nd=none:=by
       show(match gA v.nd with|none=>_|some c=>_)=_
       rw[hc]
       exact if_neg hc3
      rw[e2,hnone] at hu
      exact absurd rfl hu
  have:=key (N.map Nv.dv) 0 (List.replicate cs.length false) h.marks
  unfold marks
  rw[List.length_append,List.length_cons,List.length_nil,List.replicate_succ']
  exact this
end

/- Nodes by what they hold: what the reference's functions on nodes give. -/
end Go.Ct
namespace Go.Proofs.YtbajmaoegmbfgaaGreat
section
open Go.RowKit Go.Ct
theorem aBL{n:Nd}{xs:List Int}{ys:List Pr}:CV n xs ys↔CV (n.c xs ys).nd xs ys:=by
 unfold CV
 rw[Lw (n:=n)]
 exact Iff.rfl
theorem aBQ{n:Nd}{xs:List Int}{ys:List Pr}:LV n xs ys↔LV (n.c xs ys).nd xs ys:=by
 unfold LV
 rw[Lw (n:=n)]
 exact Iff.rfl
theorem jk{n:Nd}{xs:List Int}{ys:List Pr}:CV (n.c xs ys).nd (n.c xs ys).xs (n.c xs ys).ys=CV n xs ys:=propext aBL.symm
theorem aAG{n:Nd}{xs:List Int}{ys:List Pr}:LV (n.c xs ys).nd (n.c xs ys).xs (n.c xs ys).ys=LV n xs ys:=propext aBQ.symm
def Il(b:Nat)(xs:List Int):Nv:=(cn b xs (none,0)).c xs []
noncomputable def lZ (v:Nv) (i:Int):Option Int:=M7 v.nd v.xs v.ys v.bm.toNat i
noncomputable def Ln (v:Nv):Option Int:=ml v.nd v.xs v.ys
def Iw(o:Option (Nat×List Int)):Nv:=match o with|some q=>Il q.1 q.2|none=>Nv.zero
noncomputable def yp (v:Nv) (i r:Int):Nv:=Iw (m7 v.nd v.xs v.ys v.bm.toNat i r)
noncomputable def Z2 (v:Nv) (i r:Int):Nv:=Iw (mz v.nd v.xs v.ys v.bm.toNat i r)
noncomputable def Nh (v:Nv) (i:Int):Nv:=Iw (mx v.nd v.xs v.ys v.bm.toNat i)
def tmV(s:Nv):Nv:=(tmb s.nd).c [] []
noncomputable def wb (v:Nv) (level:Int) (s:Nv):Nv:=if Sl v.nd v.xs v.ys level s.nd=true then tmV s else v
def unV(v:Nv):Nv:=(Gk v.nd).c [] []
noncomputable def grV (v:Nv) (k:ByteArray) (u:Int):Nv:=(j5 (kN v.nd v.xs v.ys k u) v.hash (none,0)).c [] (Zg (kN v.nd v.xs v.ys k u))
noncomputable def px (v:Nv) (k:ByteArray):Nv:=(M9 (pV v.nd v.xs v.ys k) v.hash (none,0)).c [] (Im (pV v.nd v.xs v.ys k))
section
variable{n s:Nd}{xs:List Int}{ys:List Pr}{b:Nat}
theorem aAm(hb:n.bm=(b:Int))(i:Int):M7 n xs ys b i=lZ (n.c xs ys) i:=by
 have e:(n.c xs ys).bm.toNat=b:=by show n.bm.toNat=b;omega
 unfold lZ M7
 rw[e]
 rw[jk (n:=n)]
 rfl
theorem xj:ml n xs ys=Ln (n.c xs ys):=by
 unfold Ln ml
 rw[jk (n:=n)]
 rfl
theorem Hg(o:Option (Nat×List Int))(x:Option Addr×Nat):(mM o x).c (mC o) []=Iw o:=by cases o<;>rfl
theorem aB5(hb:n.bm=(b:Int))(i r:Int):Iw (m7 n xs ys b i r)=yp (n.c xs ys) i r:=by
 have e:(n.c xs ys).bm.toNat=b:=by show n.bm.toNat=b;omega
 unfold yp m7
 rw[e]
 rw[jk (n:=n)]
 rfl
theorem aAI(hb:n.bm=(b:Int))(i r:Int):Iw (mz n xs ys b i r)=Z2 (n.c xs ys) i r:=by
 have e:(n.c xs ys).bm.toNat=b:=by show n.bm.toNat=b;omega
 unfold Z2 mz
 rw[e]
 rw[jk (n:=n)]
 rfl
theorem aAS(hb:n.bm=(b:Int))(i:Int):Iw (mx n xs ys b i)=Nh (n.c xs ys) i:=by
 have e:(n.c xs ys).bm.toNat=b:=by show n.bm.toNat=b;omega
 unfold Nh mx
 rw[e]
 rw[jk (n:=n)]
 rfl
theorem aBU(level:Int):(u7 (Sl n xs ys level s) n s).c (mu (Sl n xs ys level s) xs) (mu (Sl n xs ys level s) ys)=wb (n.c xs ys) level (s.c [] []):=by
 have e:Sl (n.c xs ys).nd xs ys level (s.c [] []).nd=Sl n xs ys level s:=by
  unfold Sl
  rw[xj (n:=n)]
  rfl
 have e':Sl (n.c xs ys).nd (n.c xs ys).xs (n.c xs ys).ys level (s.c [] []).nd=Sl n xs ys level s:=e
 unfold wb u7 mu
 rw[e']
 split<;>rfl
theorem aBy:(Gk n).c [] []=unV (n.c xs ys):=by
 unfold unV Gk
 show _=Nd.c (if n.kind=5 then _ else _) _ _
 split<;>rfl
theorem aCa(k:ByteArray)(u:Int)(x:Option Addr×Nat):(j5 (kN n xs ys k u) n.hash x).c [] (Zg (kN n xs ys k u))=grV (n.c xs ys) k u:=by
 have e':kN (n.c xs ys).nd (n.c xs ys).xs (n.c xs ys).ys k u=kN n xs ys k u:=by unfold kN;rw[aAG (n:=n)];rfl
 unfold grV
 rw[e']
 cases kN n xs ys k u<;>rfl
theorem aB0(k:ByteArray)(x:Option Addr×Nat):(M9 (pV n xs ys k) n.hash x).c [] (Im (pV n xs ys k))=px (n.c xs ys) k:=by
 have e':pV (n.c xs ys).nd (n.c xs ys).xs (n.c xs ys).ys k=pV n xs ys k:=by unfold pV;rw[aAG (n:=n)];rfl
 unfold px
 rw[e']
 cases pV n xs ys k with
 | none=>rfl
 | some m=>unfold M9;simp only[Im];split<;>rfl
end
end

/- Hash values: their slices, and how many two of them share. -/
end Go.Proofs.YtbajmaoegmbfgaaGreat
namespace Go.Ct
section
open Go Go.RowKit
def sl(h l:Nat):Nat:=(h >>> (6*l))%64
theorem yF(h l:Nat):sl h l<64:=Nat.mod_lt _ (by decide)
theorem L9(h j:Nat):(h >>> (6*j))/64=h >>> (6*(j+1)):=by
 rw[show 6*(j+1)=6*j+6 by omega,Nat.shiftRight_add,Nat.shiftRight_eq_div_pow (h >>> (6*j)) 6]
def Fw(h k:Nat):Nat->Nat->Nat
 | 0,l=>l
 | n+1,l=>if sl h l=sl k l then Fw h k n (l+1) else l
def kP(h k:Nat):Nat:=Fw h k 11 0
theorem xK(h k:Nat):∀n l,l<=Fw h k n l/\Fw h k n l<=l+n/\(∀i,l<=i->i<Fw h k n l->sl h i=sl k i)/\(Fw h k n l<l+n->sl h (Fw h k n l)≠sl k (Fw h k n l))
 | 0,l=>⟨Nat.le_refl _,Nat.le_refl _,λ i h1 h2=>absurd h2 (by simp only[Fw];omega),λ h=>absurd h (by simp only[Fw];omega)⟩
 | n+1,l=>by
  simp only[Fw]
  split
  ·rename_i he
   obtain⟨h1,h2,h3,h4⟩:=xK h k n (l+1)
   refine⟨by omega,by omega,λ i hi hi2=>?_,λ hlt=>h4 (by omega)⟩
   rcases Nat.lt_or_eq_of_le hi with hi|rfl
   ·exact h3 i (by omega) hi2
   ·exact he
  ·rename_i he
   exact⟨Nat.le_refl _,by omega,λ i h1 h2=>absurd h2 (by omega),λ _=>he⟩
theorem zG(h k:Nat):kP h k<=11:=by have:=(xK h k 11 0).2.1;unfold kP;omega
theorem Rx{h k i:Nat}(hi:i<kP h k):sl h i=sl k i:=(xK h k 11 0).2.2.1 i (Nat.zero_le _) hi
theorem Mz{h k:Nat}(hc:kP h k<11):sl h (kP h k)≠sl k (kP h k):=(xK h k 11 0).2.2.2 (by unfold kP at hc;omega)
theorem xy{h k l:Nat}(hl:l<=11)(h1:∀i,i<l->sl h i=sl k i)(h2:l<11->sl h l≠sl k l):l=kP h k:=by
 rcases Nat.lt_trichotomy l (kP h k) with h3|h3|h3
 ·exact absurd (Rx h3) (h2 (by have:=zG h k;omega))
 ·exact h3
 ·exact absurd (h1 _ h3) (Mz (by omega))
theorem wj{P:Program}{S:List (Nat×Value)}{G:World->Prop}{d:Nat}{ty t t':TypeId}{pos:String}{af:Array Edge}{gd:Option (Nat×Bool)}{x y:Operand}{a b:Nat}(hx:ev S x=.int .u64 (a:Int))(hy:ev S y=.int .u64 (b:Int))(h0:b≠0)(ha:a<18446744073709551616):aL P S G ⟨some d,.binOp .quo t x y t',ty,pos,af,gd⟩ (.int .u64 ((a/b:Nat):Int)):=⟨λ w _=>by
 have h1:((b:Nat):Int)≠0:=by omega
 have h2:(a:Int).tdiv (b:Int)=((a/b:Nat):Int):=by rw[Int.tdiv_eq_ediv_of_nonneg (by omega)];rfl
 have h3:IntKind.u64.wrap ((a/b:Nat):Int)=((a/b:Nat):Int):=by
  have h4:=Nat.div_le_self a b
  generalize a/b=q at h4 ⊢
  rw[wrap_u64]
  omega
 simp only[execOp,hx,hy,eqGuard_at_int,binOp,Op.intDiv]
 simp[h0,h2]
 exact h3⟩
section
variable{P:Program}{S:List (Nat×Value)}{G:World->Prop}{d:Nat}{ty t t':TypeId}{pos:String}{af:Array Edge}{gd:Option (Nat×Bool)}{x y:Operand}{a b i:Nat}{k':IntKind}
theorem xk(hx:ev S x=.int .u64 (a:Int))(hy:ev S y=.int .u64 (b:Int))(ha:a<18446744073709551616)(hb:b<18446744073709551616):aL P S G ⟨some d,.binOp .and t x y t',ty,pos,af,gd⟩ (.int .u64 ((a &&& b:Nat):Int)):=by
 have:=tw (P:=P) (G:=G) (d:=d) (ty:=ty) (pos:=pos) (af:=af) (gd:=gd) (t:=t) (t':=t') hx hy
 rwa [pG ha hb] at this
theorem yh(hx:ev S x=.int .u64 (a:Int))(hy:ev S y=.int .u64 (b:Int))(h0:b≠0):aL P S G ⟨some d,.binOp .rem t x y t',ty,pos,af,gd⟩ (.int .u64 ((a%b:Nat):Int)):=by
 have:=du (P:=P) (G:=G) (d:=d) (ty:=ty) (pos:=pos) (af:=af) (gd:=gd) (t:=t) (t':=t') hx hy (by omega)
 rwa [Int.tmod_eq_emod_of_nonneg (by omega),<- Int.natCast_emod] at this
end
end
end Go.Ct
namespace Go.Proofs.YtbajmaoegmbfgaaGreat
section
open Go.RowKit Go.Ct
theorem pI{h l:Nat}(hh:h<18446744073709551616)(hl:l<=10)(w:World):Calls Tryz.prog 218 #[.int .u64 (h:Int),.int .i64 (l:Int)] w λ e w'=>e=.returned (.int .i64 ((sl h l:Nat):Int))/\St w [] [] w':=by
 refine enter Tryz.func218 Tryz.ntmps218 rfl rfl (SF.s0 w) ?_
 simp only[bX]
 refine cO ?_;refine jV ?_;refine Bq ?_
 (refine aF ?_;refine aA ?_)
 refine Ae ?_;refine aH ?_
 refine bB (λ c10=>?_) (λ c10=>?_)
 ·try (exfalso;omega)
 ·try (exfalso;omega)
  refine qB ?_
  refine fV [0,1,11,12,13,14,15,16] (λ y:Nat=>[(1,.int .i64 ((l-y:Nat):Int)),(0,.int .u64 ((h >>> (6*y):Nat):Int))]) (λ y=>y<=l) (λ y=>l-y) (0) (Nat.zero_le _) ?_ (λ y f hx=>?_)
  ·repeat (first|exact bD _|refine aW (by exact rfl) ?_)
  dsimp only[gX,List.map,List.cons_append,List.nil_append]
  refine jV ?_;refine Cx ?_;refine aH ?_
  refine bB (λ c12=>?_) (λ c12=>?_)
  ·try (exfalso;omega)
   refine qB ?_;refine Ak ?_;refine aT (gM (wj (b:=64) rf rf (by decide) (Nat.lt_of_le_of_lt (Nat.shiftRight_le _ _) hh))) (λ x16=>?_);refine J1 ?_;refine fH ?_;refine Ak ?_;refine rX ?_;refine J1 ?_
   refine eI (y+1) ?_ ?_ ?_
   ·omega
   ·repeat' (first|exact bD _|refine aW ?_ ?_)
    all_goals (first|exact rfl|(conv=>{lhs;whnf};rw[L9];done))
   ·omega
  ·try (exfalso;omega)
   refine bM rfl ?_;refine J2 ?_;refine aC (yh (b:=64) rf rf (by decide)) rfl ?_;refine nC ?_;refine J1 ?_
   refine aS Tryz.results218 (λ w hw=>?_)
   have hy:y=l:=by omega
   subst hy
   exact⟨rfl,hw.done⟩
theorem No{h k:Nat}(hh:h<18446744073709551616)(hk:k<18446744073709551616)(w:World):Calls Tryz.prog 260 #[.int .u64 (h:Int),.int .u64 (k:Int)] w λ e w'=>e=.returned (.int .i64 ((kP h k:Nat):Int))/\St w [] [] w':=by
 refine enter Tryz.func260 Tryz.ntmps260 rfl rfl (SF.s0 w) ?_
 simp only[bX]
 refine cO ?_;refine cO ?_;refine Cv ?_
 refine fV [5,6,7,8,9,10,11,12,13,14,15,16,17,18] (λ y:Nat=>[(5,.int .i64 ((y:Nat):Int))]) (λ y=>y<=11/\∀i,i<y->sl h i=sl k i) (λ y=>11-y) (0) (⟨Nat.zero_le _,λ i hi=>absurd hi (Nat.not_lt_zero i)⟩) ?_ (λ y f hx=>?_)
 ·repeat (first|exact bD _|refine aW (by exact rfl) ?_)
 dsimp only[gX,List.map,List.cons_append,List.nil_append]
 refine jV ?_;refine Ao ?_;refine aA ?_
 (refine dZ 8 (λ g8=>?_) (λ g8=>?_)<;>(first|refine aI ?_|(refine aF ?_;refine aA ?_)))
 all_goals ((first|refine aI ?_|(refine aF ?_;refine aA ?_));(first|refine aI ?_|(refine aF ?_;refine aT (cV (hc:=λ w1 hw=>pI (l:=y) hh (by omega) w1)) (λ x11=>?_)));(first|refine aI ?_|(refine aF ?_;refine aA ?_));(first|refine aI ?_|(refine aF ?_;refine aA ?_));(first|refine aI ?_|(refine aF ?_;refine aT (cV (hc:=λ w1 hw=>pI (l:=y) hk (by omega) w1)) (λ x14=>?_)));refine vA ?_;refine aH ?_)
 all_goals
 refine bB (λ c16=>?_) (λ c16=>?_)
 ·try exact nv c16
  all_goals (refine bA ?_;refine cP ?_;refine uJ ?_;refine fH ?_)
  all_goals
   refine eI (y+1) ?_ ?_ ?_
   ·omega
   ·repeat' (first|exact bD _|refine aW ?_ ?_)
    exact rfl
   ·exact⟨by omega,λ i hi=>by rcases Nat.lt_succ_iff_lt_or_eq.1 hi with h|rfl;exact hx.2 i h;omega⟩
 ·all_goals try (exfalso;omega)
  all_goals (refine bM rfl ?_;refine J2 ?_;refine J1 ?_)
  all_goals
   refine aS Tryz.results260 (λ w hw=>?_)
   exact⟨by rw[<- xy (h:=h) (k:=k) hx.1 hx.2 (λ _=>by omega)];rfl,hw.done⟩
end

end Go.Proofs.YtbajmaoegmbfgaaGreat
