/- The contents of a trie in a state: what is computed. -/
import Derived.Test.YtbajmaoegmbfgaaGreatGArH
import Derived.Test.YtbajmaoegmbfgaaGreatGAr8
import Derived.Test.YtbajmaoegmbfgaaGreatGBr2
import Derived.Test.YtbajmaoegmbfgaaGreatGPa4

set_option linter.unusedSimpArgs false
set_option linter.unusedVariables false
namespace Go.Ct
section
def cI(n:Nv):Prop:=n.kind=3∨n.kind=5∨n.kind=6
instance (n:Nv):Decidable (cI n):=by unfold cI;exact inferInstance
def yG(N:List Nv)(cs:List Int)(c:Int):Int:=if(eD N (bU cs c)).kind=8 then(if bU cs (eD N (bU cs c)).status=1 then(eD N (bU cs c)).new else(eD N (bU cs c)).bC) else bU cs c
def pJ(N:List Nv)(cs:List Int)(c:Int):Option Int:=if(eD N (yG N cs c)).kind=2 then some (yG N cs c) else none
def vL(N:List Nv)(cs:List Int)(i:Int):Int:=bU cs (eD N i).main
def nW(N:List Nv)(cs:List Int)(i:Int):Int:=bU cs (eD N (vL N cs i)).prev
def yD(N:List Nv)(cs:List Int)(i:Int):Int:=if(eD N (nW N cs i)).kind=7 then(eD N (nW N cs i)).bC else nW N cs i
def pN(N:List Nv)(cs:List Int)(i:Int):Option Int :=
 if(eD N i).kind=2/\cI (eD N (vL N cs i)) then
  if nW N cs i=0 then some (vL N cs i) else if cI (eD N (yD N cs i)) then some (yD N cs i) else none
 else none
theorem fD{N:List Nv}{i:Int}(h:(eD N i).kind≠0):1<=i/\i<=N.length:=by
 unfold eD at h
 split at h
 ·assumption
 ·exact absurd rfl h
end

/- Proper states, by what their nodes hold. -/
section
def Nv.nd(v:Nv):Nd:=⟨v.kind,v.gen,v.main,v.bm,none,v.xs.length,0,v.hash,v.key,v.val,none,v.ys.length,0,v.prev,v.bC,v.exp,v.new,v.status⟩
def Nv.dv(v:Nv):aU:=⟨v.nd,v.xs,v.ys⟩
theorem Nv.aBk(v:Nv):v.dv.c=v:=rfl
theorem xx(N:List Nv):(N.map Nv.dv).map aU.c=N:=by
 rw[List.map_map]
 exact(List.map_congr_left (λ v _=>Nv.aBk v)).trans (List.map_id N)
theorem Kz{n:Nd}{xs:List Int}{ys:List Pr}:bY n xs ys↔bY (n.c xs ys).nd xs ys:=by
 have e:qZ n n.own xs (n.jG xs) ys (n.iT ys)↔qZ (n.c xs ys).nd (n.c xs ys).nd.own xs ((n.c xs ys).nd.jG xs) ys ((n.c xs ys).nd.iT ys):=by
  rw[rO,rO]
  have e1:n.own.c (n.jG xs) (n.iT ys)=(n.c xs ys).nd.own.c ((n.c xs ys).nd.jG xs) ((n.c xs ys).nd.iT ys):=by
   have hx:(n.c xs ys).nd.jG xs=n.jG xs:=rfl
   have hy:(n.c xs ys).nd.iT ys=n.iT ys:=rfl
   have hk:(n.c xs ys).nd.kind=n.kind:=rfl
   rw[hx,hy]
   unfold Nd.own
   rw[hk]
   repeat' split
   all_goals rfl
  rw[e1]
  exact Iff.rfl
 unfold bY
 rw[e]
 exact Iff.rfl
theorem um{gen:Int}{n:Nat}{u v:aU}(h:u.c=v.c)(hu:lZ gen n u):lZ gen n v:=by
 have key:∀v:aU,lZ gen n v↔lZ gen n v.c.dv:=λ v=>by
  unfold lZ
  rw[Kz (n:=v.nd)]
  exact Iff.rfl
 rw[key,<- h,<- key]
 exact hu
theorem qi{m:Nat}{L1 L2:List aU}(h:L1.map aU.c=L2.map aU.c):marks m L1=marks m L2:=by
 have key:∀L:List aU,marks m L=(L.map aU.c).foldl (λ u c=>eH u c.nd) (some (List.replicate m false)):=λ L=>by
  unfold marks
  rw[List.foldl_map]
  rfl
 rw[key,key,h]
theorem Wo{L1 L2:List aU}{cs:List Int}{gen:Int}(h:L1.map aU.c=L2.map aU.c)(hp:iG L1 cs gen):iG L2 cs gen:=by
 have hl:L1.length=L2.length:=by simpa using congrArg List.length h
 have hi:=(ic hl).1 h
 have h2:=hp.two
 refine⟨by omega,hp.gen0,?_,?_,λ i h=>by have:=hp.cells i h;rwa [hl] at this,λ i h=>?_,by rw[<- qi h];exact hp.marks⟩
 ·have:=congrArg Nv.kind (hi 0 (by omega))
  exact this.symm.trans hp.m0
 ·have:=congrArg Nv.kind (hi 1 (by omega))
  exact this.symm.trans hp.m1
 ·have:=hp.nodes i (by omega)
  rw[<- hl]
  exact um (hi i (by omega)) this
def fT(N:List Nv)(cs:List Int)(gen:Int):Prop:=iG (N.map Nv.dv) cs gen
theorem fT.to{N:List Nv}{cs:List Int}{gen:Int}(h:fT N cs gen){L:List aU}(hl:L.map aU.c=N):iG L cs gen:=Wo (by rw[xx,hl]) h
theorem fT.push{N:List Nv}{cs:List Int}{gen init:Int}{n:Nv}(h:fT N cs gen)(hv:lZ gen (N.length+1) (dR n cs.length).dv)(hi:C8 init N.length):fT (N++[dR n cs.length]) (fI n.kind cs init) gen:=by
 have hm:(N.map Nv.dv).length=N.length:=by simp
 have:=Pm (v:=(dR n cs.length).dv) (k:=n.kind) (init:=init) h (by rw[hm];exact hv) (by rw[hm];exact hi) (by
  have e:(dR n cs.length).dv.nd.kind=n.kind:=rfl
  unfold fR fI
  rw[e]
  by_cases h2:n.kind=2
  ·right
   rw[if_pos h2,if_pos (.inl h2)]
   exact⟨by show some (if n.kind=2 then _ else _)=_;rw[if_pos h2],rfl⟩
  rw[if_neg h2]
  by_cases h3:n.kind=3∨n.kind=5∨n.kind=6
  ·right
   rw[if_pos h3,if_pos (by omega)]
   exact⟨by show some (if n.kind=3∨n.kind=5∨n.kind=6 then _ else _)=_;rw[if_pos h3],rfl⟩
  rw[if_neg h3]
  by_cases h8:n.kind=8
  ·right
   rw[if_pos h8,if_pos (by omega)]
   exact⟨by show some (if n.kind=8 then _ else _)=_;rw[if_pos h8],rfl⟩
  ·left
   rw[if_neg h8,if_neg (by omega)]
   exact⟨rfl,rfl⟩)
 unfold fT
 rw[List.map_append]
 exact this
theorem fT.cell{N:List Nv}{cs:List Int}{gen init:Int}(h:fT N cs gen)(hi:C8 init N.length):fT N (cs++[init]) gen:=by
 have hm:(N.map Nv.dv).length=N.length:=by simp
 refine⟨h.two,h.gen0,h.m0,h.m1,λ i hi'=>?_,h.nodes,?_⟩
 ·rw[jY]
  rw[List.length_append,List.length_cons,List.length_nil] at hi'
  by_cases hl:i<cs.length
  ·rw[List.getElem?_append_left hl,<- jY]
   exact h.cells i hl
  ·rw[List.getElem?_append_right (by omega),show i-cs.length=0 by omega,hm]
   exact hi
 ·have key:∀(l:List aU) (m:Nat) (u:List Bool),l.foldl (λ u v=>eH u v.nd) (some u)≠none->l.foldl (λ u v=>eH u v.nd) (some (u++[false]))≠none:=by
   intro l
   induction l with
   | nil=>intro _ u _ h;cases h
   | cons v l ih =>
    intro m u hu
    rw[List.foldl_cons] at hu ⊢
    have hnone:∀l:List aU,l.foldl (λ u v=>eH u v.nd) none=none:=λ l=>by
     induction l with
     | nil=>rfl
     | cons v l ih=>exact ih
    cases hc:fR v.nd with
    | none =>
     rw[show eH (some u) v.nd=some u by simp[eH,hc]] at hu
     rw[show eH (some (u++[false])) v.nd=some (u++[false]) by simp[eH,hc]]
     exact ih m u hu
    | some c =>
     by_cases hc3:1<=c/\c<=u.length/\u.getD (c-1).toNat false=false
     ·obtain⟨c1,c2,c3⟩:=hc3
      have hlt:(c-1).toNat<u.length:=by omega
      have e1:(u++[false]).getD (c-1).toNat false=u.getD (c-1).toNat false:=by
       rw[jY,jY,List.getElem?_append_left hlt]
      have e2:eH (some u) v.nd=some (u.set (c-1).toNat true):=by
       show(match fR v.nd with|none=>_|some c=>_)=_
       rw[hc]
       exact if_pos ⟨c1,c2,c3⟩
      have e3:eH (some (u++[false])) v.nd=some (u.set (c-1).toNat true++[false]):=by
       show(match fR v.nd with|none=>_|some c=>_)=_
       rw[hc,<- List.set_append_left _ _ hlt]
       exact if_pos ⟨c1,by rw[List.length_append,List.length_cons,List.length_nil];omega,by rw[e1];exact c3⟩
      rw[e2] at hu
      rw[e3]
      exact ih m _ hu
     ·have e2:eH (some u) v.nd=none:=by
       show(match fR v.nd with|none=>_|some c=>_)=_
       rw[hc]
       exact if_neg hc3
      rw[e2,hnone] at hu
      exact absurd rfl hu
  have:=key (N.map Nv.dv) 0 (List.replicate cs.length false) h.marks
  unfold marks
  rw[List.length_append,List.length_cons,List.length_nil,List.replicate_succ']
  exact this
end

/- Nodes by what they hold: what the reference's functions on nodes give. -/
end Go.Ct
namespace Go.Proofs.YtbajmaoegmbfgaaGreat
section
open Go.RowKit Go.Ct
theorem zw{n:Nd}{xs:List Int}{ys:List Pr}:CV n xs ys↔CV (n.c xs ys).nd xs ys:=by
 unfold CV
 rw[Kz (n:=n)]
 exact Iff.rfl
theorem aBo{n:Nd}{xs:List Int}{ys:List Pr}:LV n xs ys↔LV (n.c xs ys).nd xs ys:=by
 unfold LV
 rw[Kz (n:=n)]
 exact Iff.rfl
theorem dk{n:Nd}{xs:List Int}{ys:List Pr}:CV (n.c xs ys).nd (n.c xs ys).xs (n.c xs ys).ys=CV n xs ys:=propext zw.symm
theorem aAv{n:Nd}{xs:List Int}{ys:List Pr}:LV (n.c xs ys).nd (n.c xs ys).xs (n.c xs ys).ys=LV n xs ys:=propext aBo.symm
def Hv(b:Nat)(xs:List Int):Nv:=(cn b xs (none,0)).c xs []
noncomputable def lN (v:Nv) (i:Int):Option Int:=K7 v.nd v.xs v.ys v.bm.toNat i
noncomputable def Ly (v:Nv):Option Int:=gh v.nd v.xs v.ys
def H0(o:Option (Nat×List Int)):Nv:=match o with|some q=>Hv q.1 q.2|none=>Nv.zero
noncomputable def vo (v:Nv) (i r:Int):Nv:=H0 (j9 v.nd v.xs v.ys v.bm.toNat i r)
noncomputable def Z0 (v:Nv) (i r:Int):Nv:=H0 (ka v.nd v.xs v.ys v.bm.toNat i r)
noncomputable def Mc (v:Nv) (i:Int):Nv:=H0 (kh v.nd v.xs v.ys v.bm.toNat i)
def tmV(s:Nv):Nv:=(tmb s.nd).c [] []
noncomputable def vl (v:Nv) (level:Int) (s:Nv):Nv:=if Qf v.nd v.xs v.ys level s.nd=true then tmV s else v
def ym(v:Nv):Nv:=(Gz v.nd).c [] []
noncomputable def xh (v:Nv) (k:ByteArray) (u:Int):Nv:=(db (kF v.nd v.xs v.ys k u) v.hash (none,0)).c [] (X6 (kF v.nd v.xs v.ys k u))
noncomputable def p8 (v:Nv) (k:ByteArray):Nv:=(Md (pK v.nd v.xs v.ys k) v.hash (none,0)).c [] (Hw (pK v.nd v.xs v.ys k))
section
variable{n s:Nd}{xs:List Int}{ys:List Pr}{b:Nat}
theorem aA0(hb:n.bm=(b:Int))(i:Int):K7 n xs ys b i=lN (n.c xs ys) i:=by
 have e:(n.c xs ys).bm.toNat=b:=by show n.bm.toNat=b;omega
 unfold lN K7
 rw[e]
 rw[dk (n:=n)]
 rfl
theorem wq:gh n xs ys=Ly (n.c xs ys):=by
 unfold Ly gh
 rw[dk (n:=n)]
 rfl
theorem G3(o:Option (Nat×List Int))(x:Option Addr×Nat):(mA o x).c (lM o) []=H0 o:=by cases o<;>rfl
theorem aBn(hb:n.bm=(b:Int))(i r:Int):H0 (j9 n xs ys b i r)=vo (n.c xs ys) i r:=by
 have e:(n.c xs ys).bm.toNat=b:=by show n.bm.toNat=b;omega
 unfold vo j9
 rw[e]
 rw[dk (n:=n)]
 rfl
theorem aAd(hb:n.bm=(b:Int))(i r:Int):H0 (ka n xs ys b i r)=Z0 (n.c xs ys) i r:=by
 have e:(n.c xs ys).bm.toNat=b:=by show n.bm.toNat=b;omega
 unfold Z0 ka
 rw[e]
 rw[dk (n:=n)]
 rfl
theorem zu(hb:n.bm=(b:Int))(i:Int):H0 (kh n xs ys b i)=Mc (n.c xs ys) i:=by
 have e:(n.c xs ys).bm.toNat=b:=by show n.bm.toNat=b;omega
 unfold Mc kh
 rw[e]
 rw[dk (n:=n)]
 rfl
theorem aBj(level:Int):(rq (Qf n xs ys level s) n s).c (j5 (Qf n xs ys level s) xs) (j5 (Qf n xs ys level s) ys)=vl (n.c xs ys) level (s.c [] []):=by
 have e:Qf (n.c xs ys).nd xs ys level (s.c [] []).nd=Qf n xs ys level s:=by
  unfold Qf
  rw[wq (n:=n)]
  rfl
 have e':Qf (n.c xs ys).nd (n.c xs ys).xs (n.c xs ys).ys level (s.c [] []).nd=Qf n xs ys level s:=e
 unfold vl rq j5
 rw[e']
 split<;>rfl
theorem z9:(Gz n).c [] []=ym (n.c xs ys):=by
 unfold ym Gz
 show _=Nd.c (if n.kind=5 then _ else _) _ _
 split<;>rfl
theorem aBc(k:ByteArray)(u:Int)(x:Option Addr×Nat):(db (kF n xs ys k u) n.hash x).c [] (X6 (kF n xs ys k u))=xh (n.c xs ys) k u:=by
 have e':kF (n.c xs ys).nd (n.c xs ys).xs (n.c xs ys).ys k u=kF n xs ys k u:=by unfold kF;rw[aAv (n:=n)];rfl
 unfold xh
 rw[e']
 cases kF n xs ys k u<;>rfl
theorem aA7(k:ByteArray)(x:Option Addr×Nat):(Md (pK n xs ys k) n.hash x).c [] (Hw (pK n xs ys k))=p8 (n.c xs ys) k:=by
 have e':pK (n.c xs ys).nd (n.c xs ys).xs (n.c xs ys).ys k=pK n xs ys k:=by unfold pK;rw[aAv (n:=n)];rfl
 unfold p8
 rw[e']
 cases pK n xs ys k with
 | none=>rfl
 | some m=>unfold Md;simp only[Hw];split<;>rfl
end
end

/- Hash values: their slices, and how many two of them share. -/
end Go.Proofs.YtbajmaoegmbfgaaGreat
namespace Go.Ct
section
open Go Go.RowKit
def sl(h l:Nat):Nat:=(h >>> (6*l))%64
theorem yE(h l:Nat):sl h l<64:=Nat.mod_lt _ (by decide)
theorem Jx(h j:Nat):(h >>> (6*j))/64=h >>> (6*(j+1)):=by
 rw[show 6*(j+1)=6*j+6 by omega,Nat.shiftRight_add,Nat.shiftRight_eq_div_pow (h >>> (6*j)) 6]
def Fi(h k:Nat):Nat->Nat->Nat
 | 0,l=>l
 | n+1,l=>if sl h l=sl k l then Fi h k n (l+1) else l
def kI(h k:Nat):Nat:=Fi h k 11 0
theorem xB(h k:Nat):∀n l,l<=Fi h k n l/\Fi h k n l<=l+n/\(∀i,l<=i->i<Fi h k n l->sl h i=sl k i)/\(Fi h k n l<l+n->sl h (Fi h k n l)≠sl k (Fi h k n l))
 | 0,l=>⟨Nat.le_refl _,Nat.le_refl _,λ i h1 h2=>absurd h2 (by simp only[Fi];omega),λ h=>absurd h (by simp only[Fi];omega)⟩
 | n+1,l=>by
  simp only[Fi]
  split
  ·rename_i he
   obtain⟨h1,h2,h3,h4⟩:=xB h k n (l+1)
   refine⟨by omega,by omega,λ i hi hi2=>?_,λ hlt=>h4 (by omega)⟩
   rcases Nat.lt_or_eq_of_le hi with hi|rfl
   ·exact h3 i (by omega) hi2
   ·exact he
  ·rename_i he
   exact⟨Nat.le_refl _,by omega,λ i h1 h2=>absurd h2 (by omega),λ _=>he⟩
theorem zC(h k:Nat):kI h k<=11:=by have:=(xB h k 11 0).2.1;unfold kI;omega
theorem Qr{h k i:Nat}(hi:i<kI h k):sl h i=sl k i:=(xB h k 11 0).2.2.1 i (Nat.zero_le _) hi
theorem Lr{h k:Nat}(hc:kI h k<11):sl h (kI h k)≠sl k (kI h k):=(xB h k 11 0).2.2.2 (by unfold kI at hc;omega)
theorem wz{h k l:Nat}(hl:l<=11)(h1:∀i,i<l->sl h i=sl k i)(h2:l<11->sl h l≠sl k l):l=kI h k:=by
 rcases Nat.lt_trichotomy l (kI h k) with h3|h3|h3
 ·exact absurd (Qr h3) (h2 (by have:=zC h k;omega))
 ·exact h3
 ·exact absurd (h1 _ h3) (Lr (by omega))
theorem vx{P:Program}{S:List (Nat×Value)}{G:World->Prop}{d:Nat}{ty t t':TypeId}{pos:String}{af:Array Edge}{gd:Option (Nat×Bool)}{x y:Operand}{a b:Nat}(hx:ev S x=.int .u64 (a:Int))(hy:ev S y=.int .u64 (b:Int))(h0:b≠0)(ha:a<18446744073709551616):aK P S G ⟨some d,.binOp .quo t x y t',ty,pos,af,gd⟩ (.int .u64 ((a/b:Nat):Int)):=⟨λ w _=>by
 have h1:((b:Nat):Int)≠0:=by omega
 have h2:(a:Int).tdiv (b:Int)=((a/b:Nat):Int):=by rw[Int.tdiv_eq_ediv_of_nonneg (by omega)];rfl
 have h3:IntKind.u64.wrap ((a/b:Nat):Int)=((a/b:Nat):Int):=by
  have h4:=Nat.div_le_self a b
  generalize a/b=q at h4 ⊢
  rw[wrap_u64]
  omega
 simp only[execOp,hx,hy,eqGuard_at_int,binOp,Op.intDiv]
 simp[h0,h2]
 exact h3⟩
section
variable{P:Program}{S:List (Nat×Value)}{G:World->Prop}{d:Nat}{ty t t':TypeId}{pos:String}{af:Array Edge}{gd:Option (Nat×Bool)}{x y:Operand}{a b i:Nat}{k':IntKind}
theorem wx(hx:ev S x=.int .u64 (a:Int))(hy:ev S y=.int .u64 (b:Int))(ha:a<18446744073709551616)(hb:b<18446744073709551616):aK P S G ⟨some d,.binOp .and t x y t',ty,pos,af,gd⟩ (.int .u64 ((a &&& b:Nat):Int)):=by
 have:=su (P:=P) (G:=G) (d:=d) (ty:=ty) (pos:=pos) (af:=af) (gd:=gd) (t:=t) (t':=t') hx hy
 rwa [oP ha hb] at this
theorem w7(hx:ev S x=.int .u64 (a:Int))(hy:ev S y=.int .u64 (b:Int))(h0:b≠0):aK P S G ⟨some d,.binOp .rem t x y t',ty,pos,af,gd⟩ (.int .u64 ((a%b:Nat):Int)):=by
 have:=ae (P:=P) (G:=G) (d:=d) (ty:=ty) (pos:=pos) (af:=af) (gd:=gd) (t:=t) (t':=t') hx hy (by omega)
 rwa [Int.tmod_eq_emod_of_nonneg (by omega),<- Int.natCast_emod] at this
end
end
end Go.Ct
namespace Go.Proofs.YtbajmaoegmbfgaaGreat
section
open Go.RowKit Go.Ct
theorem oX{h l:Nat}(hh:h<18446744073709551616)(hl:l<=10)(w:World):Calls Tryz.prog 218 #[.int .u64 (h:Int),.int .i64 (l:Int)] w λ e w'=>e=.returned (.int .i64 ((sl h l:Nat):Int))/\St w [] [] w':=by
 refine enter Tryz.func218 Tryz.ntmps218 rfl rfl (SF.s0 w) ?_
 simp only[bW]
 refine cP ?_;refine lA ?_;refine B6 ?_
 (refine aF ?_;refine aA ?_)
 refine B8 ?_;refine aH ?_
 refine bB (λ c10=>?_) (λ c10=>?_)
 ·try (exfalso;omega)
 ·try (exfalso;omega)
  refine pU ?_
  refine fL [0,1,11,12,13,14,15,16] (λ y:Nat=>[(1,.int .i64 ((l-y:Nat):Int)),(0,.int .u64 ((h >>> (6*y):Nat):Int))]) (λ y=>y<=l) (λ y=>l-y) (0) (Nat.zero_le _) ?_ (λ y f hx=>?_)
  ·repeat (first|exact bJ _|refine bD (by exact rfl) ?_)
  dsimp only[gU,List.map,List.cons_append,List.nil_append]
  refine lA ?_;refine Cg ?_;refine aH ?_
  refine bB (λ c12=>?_) (λ c12=>?_)
  ·try (exfalso;omega)
   refine pU ?_;refine zA ?_;refine aR (gZ (vx (b:=64) rf rf (by decide) (Nat.lt_of_le_of_lt (Nat.shiftRight_le _ _) hh))) (λ x16=>?_);refine J1 ?_;refine fA ?_;refine zA ?_;refine rU ?_;refine J1 ?_
   refine eA (y+1) ?_ ?_ ?_
   ·omega
   ·repeat' (first|exact bJ _|refine bD ?_ ?_)
    all_goals (first|exact rfl|(conv=>{lhs;whnf};rw[Jx];done))
   ·omega
  ·try (exfalso;omega)
   refine bN rfl ?_;refine J2 ?_;refine aB (w7 (b:=64) rf rf (by decide)) rfl ?_;refine mI ?_;refine J1 ?_
   refine aQ Tryz.results218 (λ w hw=>?_)
   have hy:y=l:=by omega
   subst hy
   exact⟨rfl,hw.done⟩
theorem Nt{h k:Nat}(hh:h<18446744073709551616)(hk:k<18446744073709551616)(w:World):Calls Tryz.prog 260 #[.int .u64 (h:Int),.int .u64 (k:Int)] w λ e w'=>e=.returned (.int .i64 ((kI h k:Nat):Int))/\St w [] [] w':=by
 refine enter Tryz.func260 Tryz.ntmps260 rfl rfl (SF.s0 w) ?_
 simp only[bW]
 refine cP ?_;refine cP ?_;refine C4 ?_
 refine fL [5,6,7,8,9,10,11,12,13,14,15,16,17,18] (λ y:Nat=>[(5,.int .i64 ((y:Nat):Int))]) (λ y=>y<=11/\∀i,i<y->sl h i=sl k i) (λ y=>11-y) (0) (⟨Nat.zero_le _,λ i hi=>absurd hi (Nat.not_lt_zero i)⟩) ?_ (λ y f hx=>?_)
 ·repeat (first|exact bJ _|refine bD (by exact rfl) ?_)
 dsimp only[gU,List.map,List.cons_append,List.nil_append]
 refine lA ?_;refine zS ?_;refine aA ?_
 (refine dZ 8 (λ g8=>?_) (λ g8=>?_)<;>(first|refine aI ?_|(refine aF ?_;refine aA ?_)))
 all_goals ((first|refine aI ?_|(refine aF ?_;refine aA ?_));(first|refine aI ?_|(refine aF ?_;refine aR (cV (hc:=λ w1 hw=>oX (l:=y) hh (by omega) w1)) (λ x11=>?_)));(first|refine aI ?_|(refine aF ?_;refine aA ?_));(first|refine aI ?_|(refine aF ?_;refine aA ?_));(first|refine aI ?_|(refine aF ?_;refine aR (cV (hc:=λ w1 hw=>oX (l:=y) hk (by omega) w1)) (λ x14=>?_)));refine xG ?_;refine aH ?_)
 all_goals
 refine bB (λ c16=>?_) (λ c16=>?_)
 ·try exact nv c16
  all_goals (refine aW ?_;refine cW ?_;refine xL ?_;refine fA ?_)
  all_goals
   refine eA (y+1) ?_ ?_ ?_
   ·omega
   ·repeat' (first|exact bJ _|refine bD ?_ ?_)
    exact rfl
   ·exact⟨by omega,λ i hi=>by rcases Nat.lt_succ_iff_lt_or_eq.1 hi with h|rfl;exact hx.2 i h;omega⟩
 ·all_goals try (exfalso;omega)
  all_goals (refine bN rfl ?_;refine J2 ?_;refine J1 ?_)
  all_goals
   refine aQ Tryz.results260 (λ w hw=>?_)
   exact⟨by rw[<- wz (h:=h) (k:=k) hx.1 hx.2 (λ _=>by omega)];rfl,hw.done⟩
end

end Go.Proofs.YtbajmaoegmbfgaaGreat
