/- Branches: the reference's Inserted, Updated, Removed. -/
import Derived.Test.YtbajmaoegmbfgaaGreatGBr2
import Derived.Test.YtbajmaoegmbfgaaGreatGAr9
import Derived.Test.YtbajmaoegmbfgaaGreatGPa1

set_option linter.unusedSimpArgs false
set_option linter.unusedVariables false
namespace Go.Proofs.YtbajmaoegmbfgaaGreat
section
open Go.RowKit Go.Ct
theorem of_eq{m:Nat->Option Int}{b:Nat}{xs:List Int}(h:BV b xs/\∀k,k<64->qY b xs k=m k):Ax m 64=b/\qR m 64=xs:=by
 obtain⟨h1,h2⟩:=Ph 64 λ k hk=>(h.2 k hk).symm
 obtain⟨h3,h4⟩:=fj h.1
 exact⟨h1.trans h3,h2.trans h4⟩
theorem oY{k:Nat}(b:Nat)(hk:k<64):dS b (k:Int)=b ||| 2^k:=by
 unfold dS;rw[if_pos (by omega),Int.toNat_natCast]
theorem tA{k:Nat}(b:Nat)(hk:k<64):vV b (k:Int)=b ^^^ (b &&& 2^k):=by
 unfold vV;rw[if_pos (by omega),Int.toNat_natCast]
theorem nU{k:Nat}(b:Nat)(hk:k<64):qT b (k:Int)=fT b k:=by
 unfold qT;rw[Int.toNat_natCast,Nat.min_eq_left (by omega)]
theorem pB{k:Nat}(b:Nat)(hk:k<64):pN b (k:Int)=b.testBit k:=by
 rw[zJ b (by omega) (by omega),Int.toNat_natCast]
theorem V5{b k:Nat}{xs:List Int}{r:Int}(h:BV b xs)(hk:k<64)(hb:pN b (k:Int)=false)(hr:1<=r):Ax (fV b xs k r) 64=dS b (k:Int)/\qR (fV b xs k r) 64=vX xs (qT b (k:Int)) r:=by
 rw[pB b hk] at hb
 rw[oY b hk,nU b hk]
 unfold fV
 rw[if_pos (by omega)]
 exact of_eq (E9 h hk hb hr)
theorem Wj{b k:Nat}{xs:List Int}{r:Int}(h:BV b xs)(hk:k<64)(hb:pN b (k:Int)=true)(hr:1<=r):Ax (fV b xs k r) 64=b/\qR (fV b xs k r) 64=qB xs (qT b (k:Int)) r:=by
 rw[pB b hk] at hb
 rw[nU b hk]
 unfold fV
 rw[if_pos (by omega)]
 exact of_eq (Sv h hk hb hr)
theorem W4{b k:Nat}{xs:List Int}(h:BV b xs)(hk:k<64)(hb:pN b (k:Int)=true):Ax (fV b xs k 0) 64=vV b (k:Int)/\qR (fV b xs k 0) 64=rY xs (qT b (k:Int)):=by
 rw[pB b hk] at hb
 rw[tA b hk,nU b hk]
 unfold fV
 rw[if_neg (by omega)]
 exact of_eq (Qv h hk hb)
section
variable{n:Nd}{xs:List Int}{ys:List Pr}{w:World}{b:Nat}
theorem zI{i:Int}(h:(Lu n xs ys b i).isSome=true):CV n xs ys/\pN b i=true:=by
 unfold Lu at h
 split at h
 ·assumption
 ·cases h
theorem El{i:Int}(h:(Lu n xs ys b i).isSome=false)(hcv:CV n xs ys):pN b i=false:=by
 unfold Lu at h
 split at h
 ·cases h
 ·rename_i hn
  cases hh:pN b i with
  | false=>rfl
  | true=>exact absurd ⟨hcv,hh⟩ hn
theorem H6(i r:Int)(hb:n.bm=(b:Int))(hb2:b<18446744073709551616)(hr:sB w n xs ys):Calls Tryz.prog 249 #[n.v,.int .i64 i,.int .i64 r] w (V9 w (kf n xs ys b i r)):=by
 refine enter Tryz.func249 Tryz.ntmps249 rfl rfl (SF.s2 hr.br hr.pr) ?_
 simp only[cD]
 simp only[Nd.v,Nd.cells]
 refine J0 ?_;refine bO (λ x3=>?_);refine aJ (λ x6=>?_);refine iW ?_;refine Dd ?_;refine aM (cV (hc:=λ w1 hw=>nP (n:=n) i hb hb2 (hr.fO hw.done))) (λ x13=>?_);refine aA ?_;refine aB (iY rf rfl) rfl ?_;refine aB (iY rf rfl) rfl ?_;refine J8 ?_;refine oI ?_;refine aD (c0 (V:=.bool) (hc:=λ w1 hw=>Y4 (n:=n) hb hb2 (hr.fO hw.done))) (λ x17 h17=>?_);refine Et ?_
 (refine eC 19 (λ g19=>?_) (λ g19=>?_)<;>refine Ka0 ?_)
 all_goals (refine Ka6 ?_)
 all_goals (first|refine aI ?_|(refine eC 22 (λ g22=>?_) (λ g22=>?_)<;>refine Ka0 ?_))
 all_goals (refine tj ?_;refine aA ?_)
 all_goals (first|refine aI ?_|(refine eC 26 (λ g26=>?_) (λ g26=>?_)<;>refine Ka0 ?_))
 all_goals (refine Bs ?_;refine aA ?_)
 all_goals (first|refine aI ?_|(refine eC 30 (λ g30=>?_) (λ g30=>?_)<;>refine Ka0 ?_))
 all_goals (refine tj ?_;refine aG ?_)
 all_goals
 refine bC (λ c33=>?_) (λ c33=>?_)
 ·all_goals (refine J0 ?_;refine bM ?_;refine Dr ?_)
  all_goals
   refine bA Tryz.results249 (λ w hw=>?_)
   rw[show kf n xs ys b i r=none from if_neg (by rintro ⟨k1,⟨k2,k3⟩,k4,k5⟩;clear hw;first|omega|exact absurd (zI g22).2 (by simp[k5])|exact absurd (h17.2 k1) (by simp_all))];exact⟨(none,0),rfl,Nat.le_refl _,(hw.Ku none).fin⟩
 ·try exact nv c33
  all_goals
   have hcv:=h17.1 (by simpa using g19)
   have hh:=El g22 hcv
   obtain⟨k,rfl⟩:=Int.eq_ofNat_of_zero_le (show 0<=i by omega)
   have hk:=V5 (hcv.bv hb hb2) (k:=k) (by omega) hh (r:=r) (by omega)
  all_goals (refine aV ?_;refine oI ?_;refine pQ ?_;refine aD (cF (hc:=λ w1 hw=>by have:=Mh (w:=w1) k r (by omega) hcv hb hb2 (hr.fO hw.done);rw[hk.1,hk.2] at this;exact this)) (λ x38 h38=>?_);refine Dr ?_)
  all_goals
   refine bA Tryz.results249 (λ w hw=>?_)
   rw[show kf n xs ys b (k:Int) r=some (dS b (k:Int),vX xs (qT b (k:Int)) r) from if_pos ⟨hcv,⟨by omega,by omega⟩,by omega,hh⟩];exact⟨x38,rfl,h38,hw.fin⟩
theorem Kn(i r:Int)(hb:n.bm=(b:Int))(hb2:b<18446744073709551616)(hr:sB w n xs ys):Calls Tryz.prog 220 #[n.v,.int .i64 i,.int .i64 r] w (V9 w (j9 n xs ys b i r)):=by
 refine enter Tryz.func220 Tryz.ntmps220 rfl rfl (SF.s2 hr.br hr.pr) ?_
 simp only[cD]
 simp only[Nd.v,Nd.cells]
 refine J0 ?_;refine bO (λ x3=>?_);refine aJ (λ x6=>?_);refine iW ?_;refine Dd ?_;refine aM (cV (hc:=λ w1 hw=>nP (n:=n) i hb hb2 (hr.fO hw.done))) (λ x13=>?_);refine aA ?_;refine aB (iY rf rfl) rfl ?_;refine aB (iY rf rfl) rfl ?_;refine J8 ?_;refine J2 ?_;refine Et ?_
 (refine eC 18 (λ g18=>?_) (λ g18=>?_)<;>refine Ka0 ?_)
 all_goals (refine tj ?_;refine aG ?_)
 all_goals
 refine bC (λ c21=>?_) (λ c21=>?_)
 ·all_goals (refine J0 ?_;refine bM ?_;refine Dr ?_)
  all_goals
   refine bA Tryz.results220 (λ w hw=>?_)
   rw[show j9 n xs ys b i r=none from if_neg (by rintro ⟨k1,k4,k5⟩;clear hw;first|omega|exact absurd (El (by simpa using g18) k1) (by simp[k5]))];exact⟨(none,0),rfl,Nat.le_refl _,(hw.Ku none).fin⟩
 ·try exact nv c21
  all_goals
   have hc:=zI (by simpa using g18)
   have hcv:=hc.1
   have hh:=hc.2
   obtain⟨q1,q2,_,_⟩:=rT hh
   obtain⟨k,rfl⟩:=Int.eq_ofNat_of_zero_le q1
   have hk:=Wj (hcv.bv hb hb2) (k:=k) (by omega) hh (r:=r) (by omega)
  all_goals (refine aV ?_;refine oI ?_;refine pQ ?_;refine aD (cF (hc:=λ w1 hw=>by have:=Mh (w:=w1) k r (by omega) hcv hb hb2 (hr.fO hw.done);rw[hk.1,hk.2] at this;exact this)) (λ x26 h26=>?_);refine Dr ?_)
  all_goals
   refine bA Tryz.results220 (λ w hw=>?_)
   rw[show j9 n xs ys b (k:Int) r=some (b,qB xs (qT b (k:Int)) r) from if_pos ⟨hcv,by omega,hh⟩];exact⟨x26,rfl,h26,hw.fin⟩
theorem K7(i:Int)(hb:n.bm=(b:Int))(hb2:b<18446744073709551616)(hr:sB w n xs ys):Calls Tryz.prog 252 #[n.v,.int .i64 i] w (V9 w (kj n xs ys b i)):=by
 refine enter Tryz.func252 Tryz.ntmps252 rfl rfl (SF.s2 hr.br hr.pr) ?_
 simp only[cD]
 simp only[Nd.v,Nd.cells]
 refine J0 ?_;refine bO (λ x2=>?_);refine aJ (λ x4=>?_);refine iW ?_;refine Dd ?_;refine aM (cV (hc:=λ w1 hw=>nP (n:=n) i hb hb2 (hr.fO hw.done))) (λ x11=>?_);refine aA ?_;refine aB (iY rf rfl) rfl ?_;refine aB (iY rf rfl) rfl ?_;refine J8 ?_;refine J2 ?_;refine pD ?_
 refine bC (λ c15=>?_) (λ c15=>?_)
 ·refine J0 ?_;refine bM ?_;refine Dr ?_
  refine bA Tryz.results252 (λ w hw=>?_)
  rw[show kj n xs ys b i=none from if_neg (by rintro ⟨k1,k5⟩;clear hw;exact absurd (El c15 k1) (by simp[k5]))];exact⟨(none,0),rfl,Nat.le_refl _,(hw.Ku none).fin⟩
 ·have hc:=zI c15
  have hcv:=hc.1
  have hh:=hc.2
  obtain⟨q1,q2,_,_⟩:=rT hh
  obtain⟨k,rfl⟩:=Int.eq_ofNat_of_zero_le q1
  have hk:=W4 (hcv.bv hb hb2) (k:=k) (by omega) hh
  refine aV ?_;refine Dd ?_;refine aD (cF (hc:=λ w1 hw=>by have:=Mh (w:=w1) k 0 (by omega) hcv hb hb2 (hr.fO hw.done);rw[hk.1,hk.2] at this;exact this)) (λ x19 h19=>?_);refine Dr ?_
  refine bA Tryz.results252 (λ w hw=>?_)
  rw[show kj n xs ys b (k:Int)=some (vV b (k:Int),rY xs (qT b (k:Int))) from if_pos ⟨hcv,hh⟩];exact⟨x19,rfl,h19,hw.fin⟩
end
end

/- The contents of a trie in a state: what is computed. -/
end Go.Proofs.YtbajmaoegmbfgaaGreat
namespace Go.Ct
section
def bX(n:Nv):Prop:=n.kind=3∨n.kind=5∨n.kind=6
instance (n:Nv):Decidable (bX n):=by unfold bX;exact inferInstance
def tV(N:List Nv)(cs:List Int)(c:Int):Int:=if(bF N (aQ cs c)).kind=8 then(if aQ cs (bF N (aQ cs c)).status=1 then(bF N (aQ cs c)).new else(bF N (aQ cs c)).aZ) else aQ cs c
def nT(N:List Nv)(cs:List Int)(c:Int):Option Int:=if(bF N (tV N cs c)).kind=2 then some (tV N cs c) else none
def vL(N:List Nv)(cs:List Int)(i:Int):Int:=aQ cs (bF N i).main
def nR(N:List Nv)(cs:List Int)(i:Int):Int:=aQ cs (bF N (vL N cs i)).prev
def xZ(N:List Nv)(cs:List Int)(i:Int):Int:=if(bF N (nR N cs i)).kind=7 then(bF N (nR N cs i)).aZ else nR N cs i
def nI(N:List Nv)(cs:List Int)(i:Int):Option Int :=
 if(bF N i).kind=2/\bX (bF N (vL N cs i)) then
  if nR N cs i=0 then some (vL N cs i) else if bX (bF N (xZ N cs i)) then some (xZ N cs i) else none
 else none
theorem Xa{N:List Nv}{cs:List Int}{i m:Int}(h:nI N cs i=some m):(bF N i).kind=2/\bX (bF N m):=by
 unfold nI at h
 split at h
 ·rename_i h1
  split at h
  ·cases h;exact h1
  split at h
  ·cases h;exact⟨h1.1,by assumption⟩
  ·cases h
 ·cases h
theorem eL{N:List Nv}{i:Int}(h:(bF N i).kind≠0):1<=i/\i<=N.length:=by
 unfold bF at h
 split at h
 ·assumption
 ·exact absurd rfl h
end

/- States are compared. -/
section
theorem aBq{L1 L2:List aU}(h:L1.length=L2.length):L1.map aU.c=L2.map aU.c↔∀i,i<L1.length->(L1.getD i aU.zero).c=(L2.getD i aU.zero).c:=by
 constructor
 ·intro e i hi
  have h1:(L1.map aU.c)[i]?=(L2.map aU.c)[i]?:=by rw[e]
  rw[List.getElem?_map,List.getElem?_map,List.getElem?_eq_getElem hi,List.getElem?_eq_getElem (h▸hi)] at h1
  rw[jK,jK,List.getElem?_eq_getElem hi,List.getElem?_eq_getElem (h▸hi)]
  simpa using h1
 ·intro e
  refine List.ext_getElem? λ i=>?_
  rw[List.getElem?_map,List.getElem?_map]
  by_cases hi:i<L1.length
  ·have h1:=e i hi
   rw[jK,jK,List.getElem?_eq_getElem hi,List.getElem?_eq_getElem (h▸hi)] at h1
   rw[List.getElem?_eq_getElem hi,List.getElem?_eq_getElem (h▸hi)]
   simpa using h1
  ·rw[List.getElem?_eq_none (by omega),List.getElem?_eq_none (by omega)]
end
end Go.Ct
namespace Go.Proofs.YtbajmaoegmbfgaaGreat
section
open Go.RowKit Go.Ct
theorem vh(v:Int)(n:Nat)(w:World)(h0:0<n)(h1:n<=274877906944):Calls Tryz.prog 46 #[.int .i64 v,.int .i64 ((n:Nat):Int)] w λ e w'=>e=.returned (.int .i64 (((uG v n).toNat:Nat):Int))/\St w [] [] w':=by
 have h:=yM (v:=v) (n:=(n:Int)) (by omega) (by omega)
 rw[Int.toNat_of_nonneg h.1]
 exact um v n w (by rw[wrap_u64];omega)
end

/- Proper states, by what their nodes hold. -/
end Go.Proofs.YtbajmaoegmbfgaaGreat
namespace Go.Ct
section
def Nv.nd(v:Nv):Nd:=⟨v.kind,v.gen,v.main,v.bm,none,v.xs.length,0,v.hash,v.key,v.val,none,v.ys.length,0,v.prev,v.aZ,v.exp,v.new,v.status⟩
def Nv.dv(v:Nv):aU:=⟨v.nd,v.xs,v.ys⟩
theorem Nv.aBW(v:Nv):v.dv.c=v:=rfl
theorem zi(N:List Nv):(N.map Nv.dv).map aU.c=N:=by
 rw[List.map_map]
 exact(List.map_congr_left (λ v _=>Nv.aBW v)).trans (List.map_id N)
theorem Lz{n:Nd}{xs:List Int}{ys:List Pr}:cA n xs ys↔cA (n.c xs ys).nd xs ys:=by
 have e:rO n n.own xs (n.jP xs) ys (n.iT ys)↔rO (n.c xs ys).nd (n.c xs ys).nd.own xs ((n.c xs ys).nd.jP xs) ys ((n.c xs ys).nd.iT ys):=by
  rw[Au,Au]
  have e1:n.own.c (n.jP xs) (n.iT ys)=(n.c xs ys).nd.own.c ((n.c xs ys).nd.jP xs) ((n.c xs ys).nd.iT ys):=by
   have hx:(n.c xs ys).nd.jP xs=n.jP xs:=rfl
   have hy:(n.c xs ys).nd.iT ys=n.iT ys:=rfl
   have hk:(n.c xs ys).nd.kind=n.kind:=rfl
   rw[hx,hy]
   unfold Nd.own
   rw[hk]
   repeat' split
   all_goals rfl
  rw[e1]
  exact Iff.rfl
 unfold cA
 rw[e]
 exact Iff.rfl
theorem yx{gen:Int}{n:Nat}{u v:aU}(h:u.c=v.c)(hu:mF gen n u):mF gen n v:=by
 have key:∀v:aU,mF gen n v↔mF gen n v.c.dv:=λ v=>by
  unfold mF
  rw[Lz (n:=v.nd)]
  exact Iff.rfl
 rw[key,<- h,<- key]
 exact hu
theorem qj{m:Nat}{L1 L2:List aU}(h:L1.map aU.c=L2.map aU.c):marks m L1=marks m L2:=by
 have key:∀L:List aU,marks m L=(L.map aU.c).foldl (λ u c=>eG u c.nd) (some (List.replicate m false)):=λ L=>by
  unfold marks
  rw[List.foldl_map]
  rfl
 rw[key,key,h]
theorem Wb{L1 L2:List aU}{cs:List Int}{gen:Int}(h:L1.map aU.c=L2.map aU.c)(hp:iO L1 cs gen):iO L2 cs gen:=by
 have hl:L1.length=L2.length:=by simpa using congrArg List.length h
 have hi:=(aBq hl).1 h
 have h2:=hp.two
 refine⟨by omega,hp.gen0,?_,?_,λ i h=>by have:=hp.cells i h;rwa [hl] at this,λ i h=>?_,by rw[<- qj h];exact hp.marks⟩
 ·have:=congrArg Nv.kind (hi 0 (by omega))
  exact this.symm.trans hp.m0
 ·have:=congrArg Nv.kind (hi 1 (by omega))
  exact this.symm.trans hp.m1
 ·have:=hp.nodes i (by omega)
  rw[<- hl]
  exact yx (hi i (by omega)) this
def fQ(N:List Nv)(cs:List Int)(gen:Int):Prop:=iO (N.map Nv.dv) cs gen
theorem fQ.to{N:List Nv}{cs:List Int}{gen:Int}(h:fQ N cs gen){L:List aU}(hl:L.map aU.c=N):iO L cs gen:=Wb (by rw[zi,hl]) h
theorem fQ.push{N:List Nv}{cs:List Int}{gen init:Int}{n:Nv}(h:fQ N cs gen)(hv:mF gen (N.length+1) (cW n cs.length).dv)(hi:Db init N.length):fQ (N++[cW n cs.length]) (eQ n.kind cs init) gen:=by
 have hm:(N.map Nv.dv).length=N.length:=by simp
 have:=P4 (v:=(cW n cs.length).dv) (k:=n.kind) (init:=init) h (by rw[hm];exact hv) (by rw[hm];exact hi) (by
  have e:(cW n cs.length).dv.nd.kind=n.kind:=rfl
  unfold fM eQ
  rw[e]
  by_cases h2:n.kind=2
  ·right
   rw[if_pos h2,if_pos (.inl h2)]
   exact⟨by show some (if n.kind=2 then _ else _)=_;rw[if_pos h2],rfl⟩
  rw[if_neg h2]
  by_cases h3:n.kind=3∨n.kind=5∨n.kind=6
  ·right
   rw[if_pos h3,if_pos (by omega)]
   exact⟨by show some (if n.kind=3∨n.kind=5∨n.kind=6 then _ else _)=_;rw[if_pos h3],rfl⟩
  rw[if_neg h3]
  by_cases h8:n.kind=8
  ·right
   rw[if_pos h8,if_pos (by omega)]
   exact⟨by show some (if n.kind=8 then _ else _)=_;rw[if_pos h8],rfl⟩
  ·left
   rw[if_neg h8,if_neg (by omega)]
   exact⟨rfl,rfl⟩)
 unfold fQ
 rw[List.map_append]
 exact this
theorem fQ.cell{N:List Nv}{cs:List Int}{gen init:Int}(h:fQ N cs gen)(hi:Db init N.length):fQ N (cs++[init]) gen:=by
 have hm:(N.map Nv.dv).length=N.length:=by simp
 refine⟨h.two,h.gen0,h.m0,h.m1,λ i hi'=>?_,h.nodes,?_⟩
 ·rw[jK]
  rw[List.length_append,List.length_cons,List.length_nil] at hi'
  by_cases hl:i<cs.length
  ·rw[List.getElem?_append_left hl,<- jK]
   exact h.cells i hl
  ·rw[List.getElem?_append_right (by omega),show i-cs.length=0 by omega,hm]
   exact hi
 ·have key:∀(l:List aU) (m:Nat) (u:List Bool),l.foldl (λ u v=>eG u v.nd) (some u)≠none->l.foldl (λ u v=>eG u v.nd) (some (u++[false]))≠none:=by
   intro l
   induction l with
   | nil=>intro _ u _ h;cases h
   | cons v l ih =>
    intro m u hu
    rw[List.foldl_cons] at hu ⊢
    have hnone:∀l:List aU,l.foldl (λ u v=>eG u v.nd) none=none:=λ l=>by
     induction l with
     | nil=>rfl
     | cons v l ih=>exact ih
    cases hc:fM v.nd with
    | none =>
     rw[show eG (some u) v.nd=some u by simp[eG,hc]] at hu
     rw[show eG (some (u++[false])) v.nd=some (u++[false]) by simp[eG,hc]]
     exact ih m u hu
    | some c =>
     by_cases hc3:1<=c/\c<=u.length/\u.getD (c-1).toNat false=false
     ·obtain⟨c1,c2,c3⟩:=hc3
      have hlt:(c-1).toNat<u.length:=by omega
      have e1:(u++[false]).getD (c-1).toNat false=u.getD (c-1).toNat false:=by
       rw[jK,jK,List.getElem?_append_left hlt]
      have e2:eG (some u) v.nd=some (u.set (c-1).toNat true):=by
       show(match fM v.nd with|none=>_|some c=>_)=_
       rw[hc]
       exact if_pos ⟨c1,c2,c3⟩
      have e3:eG (some (u++[false])) v.nd=some (u.set (c-1).toNat true++[false]):=by
       show(match fM v.nd with|none=>_|some c=>_)=_
       rw[hc,<- List.set_append_left _ _ hlt]
       exact if_pos ⟨c1,by rw[List.length_append,List.length_cons,List.length_nil];omega,by rw[e1];exact c3⟩
      rw[e2] at hu
      rw[e3]
      exact ih m _ hu
     ·have e2:eG (some u) v.nd=none:=by
       show(match fM v.nd with|none=>_|some c=>_)=_
       rw[hc]
       exact if_neg hc3
      rw[e2,hnone] at hu
      exact absurd rfl hu
  have:=key (N.map Nv.dv) 0 (List.replicate cs.length false) h.marks
  unfold marks
  rw[List.length_append,List.length_cons,List.length_nil,List.replicate_succ']
  exact this
end

/- Nodes by what they hold: what the reference's functions on nodes give. -/
end Go.Ct
namespace Go.Proofs.YtbajmaoegmbfgaaGreat
section
open Go.RowKit Go.Ct
theorem aA4{n:Nd}{xs:List Int}{ys:List Pr}:CV n xs ys↔CV (n.c xs ys).nd xs ys:=by
 unfold CV
 rw[Lz (n:=n)]
 exact Iff.rfl
theorem aBT{n:Nd}{xs:List Int}{ys:List Pr}:LV n xs ys↔LV (n.c xs ys).nd xs ys:=by
 unfold LV
 rw[Lz (n:=n)]
 exact Iff.rfl
theorem jb{n:Nd}{xs:List Int}{ys:List Pr}:CV (n.c xs ys).nd (n.c xs ys).xs (n.c xs ys).ys=CV n xs ys:=propext aA4.symm
theorem aAC{n:Nd}{xs:List Int}{ys:List Pr}:LV (n.c xs ys).nd (n.c xs ys).xs (n.c xs ys).ys=LV n xs ys:=propext aBT.symm
def Da(b:Nat)(xs:List Int):Nv:=(cn b xs (none,0)).c xs []
noncomputable def kJ (v:Nv) (i:Int):Option Int:=Lu v.nd v.xs v.ys v.bm.toNat i
noncomputable def Mc (v:Nv):Option Int:=Yj v.nd v.xs v.ys
def Ic(o:Option (Nat×List Int)):Nv:=match o with|some q=>Da q.1 q.2|none=>Nv.zero
noncomputable def xq (v:Nv) (i r:Int):Nv:=Ic (kf v.nd v.xs v.ys v.bm.toNat i r)
noncomputable def Si (v:Nv) (i r:Int):Nv:=Ic (j9 v.nd v.xs v.ys v.bm.toNat i r)
noncomputable def Ml (v:Nv) (i:Int):Nv:=Ic (kj v.nd v.xs v.ys v.bm.toNat i)
def tmV(s:Nv):Nv:=(tmb s.nd).c [] []
noncomputable def yn (v:Nv) (level:Int) (s:Nv):Nv:=if Sj v.nd v.xs v.ys level s.nd=true then tmV s else v
def zs(v:Nv):Nv:=(F3 v.nd).c [] []
noncomputable def zl (v:Nv) (k:ByteArray) (u:Int):Nv:=(dj (kI v.nd v.xs v.ys k u) v.hash (none,0)).c [] (X3 (kI v.nd v.xs v.ys k u))
noncomputable def qg (v:Nv) (k:ByteArray):Nv:=(Mn (pJ v.nd v.xs v.ys k) v.hash (none,0)).c [] (Hs (pJ v.nd v.xs v.ys k))
section
variable{n s:Nd}{xs:List Int}{ys:List Pr}{b:Nat}
theorem aAI(hb:n.bm=(b:Int))(i:Int):Lu n xs ys b i=kJ (n.c xs ys) i:=by
 have e:(n.c xs ys).bm.toNat=b:=by show n.bm.toNat=b;omega
 unfold kJ Lu
 rw[e]
 rw[jb (n:=n)]
 rfl
theorem vb:Yj n xs ys=Mc (n.c xs ys):=by
 unfold Mc Yj
 rw[jb (n:=n)]
 rfl
theorem Fe(o:Option (Nat×List Int))(x:Option Addr×Nat):(mG o x).c (lS o) []=Ic o:=by cases o<;>rfl
theorem aBZ(hb:n.bm=(b:Int))(i r:Int):Ic (kf n xs ys b i r)=xq (n.c xs ys) i r:=by
 have e:(n.c xs ys).bm.toNat=b:=by show n.bm.toNat=b;omega
 unfold xq kf
 rw[e]
 rw[jb (n:=n)]
 rfl
theorem aAf(hb:n.bm=(b:Int))(i r:Int):Ic (j9 n xs ys b i r)=Si (n.c xs ys) i r:=by
 have e:(n.c xs ys).bm.toNat=b:=by show n.bm.toNat=b;omega
 unfold Si j9
 rw[e]
 rw[jb (n:=n)]
 rfl
theorem aA3(hb:n.bm=(b:Int))(i:Int):Ic (kj n xs ys b i)=Ml (n.c xs ys) i:=by
 have e:(n.c xs ys).bm.toNat=b:=by show n.bm.toNat=b;omega
 unfold Ml kj
 rw[e]
 rw[jb (n:=n)]
 rfl
theorem aBI(level:Int):(s5 (Sj n xs ys level s) n s).c (ko (Sj n xs ys level s) xs) (ko (Sj n xs ys level s) ys)=yn (n.c xs ys) level (s.c [] []):=by
 have e:Sj (n.c xs ys).nd xs ys level (s.c [] []).nd=Sj n xs ys level s:=by
  unfold Sj
  rw[vb (n:=n)]
  rfl
 have e':Sj (n.c xs ys).nd (n.c xs ys).xs (n.c xs ys).ys level (s.c [] []).nd=Sj n xs ys level s:=e
 unfold yn s5 ko
 rw[e']
 split<;>rfl
theorem aAO:(F3 n).c [] []=zs (n.c xs ys):=by
 unfold zs F3
 show _=Nd.c (if n.kind=5 then _ else _) _ _
 split<;>rfl
theorem aBH(k:ByteArray)(u:Int)(x:Option Addr×Nat):(dj (kI n xs ys k u) n.hash x).c [] (X3 (kI n xs ys k u))=zl (n.c xs ys) k u:=by
 have e':kI (n.c xs ys).nd (n.c xs ys).xs (n.c xs ys).ys k u=kI n xs ys k u:=by unfold kI;rw[aAC (n:=n)];rfl
 unfold zl
 rw[e']
 cases kI n xs ys k u<;>rfl
theorem aB6(k:ByteArray)(x:Option Addr×Nat):(Mn (pJ n xs ys k) n.hash x).c [] (Hs (pJ n xs ys k))=qg (n.c xs ys) k:=by
 have e':pJ (n.c xs ys).nd (n.c xs ys).xs (n.c xs ys).ys k=pJ n xs ys k:=by unfold pJ;rw[aAC (n:=n)];rfl
 unfold qg
 rw[e']
 cases pJ n xs ys k with
 | none=>rfl
 | some m=>unfold Mn;simp only[Hs];split<;>rfl
end
end

/- Hash values: their slices, and how many two of them share. -/
end Go.Proofs.YtbajmaoegmbfgaaGreat
namespace Go.Ct
section
open Go Go.RowKit
def sl(h l:Nat):Nat:=(h >>> (6*l))%64
theorem xS(h l:Nat):sl h l<64:=Nat.mod_lt _ (by decide)
theorem Lr(h j:Nat):(h >>> (6*j))/64=h >>> (6*(j+1)):=by
 rw[show 6*(j+1)=6*j+6 by omega,Nat.shiftRight_add,Nat.shiftRight_eq_div_pow (h >>> (6*j)) 6]
def Eh(h k:Nat):Nat->Nat->Nat
 | 0,l=>l
 | n+1,l=>if sl h l=sl k l then Eh h k n (l+1) else l
def kQ(h k:Nat):Nat:=Eh h k 11 0
theorem wZ(h k:Nat):∀n l,l<=Eh h k n l/\Eh h k n l<=l+n/\(∀i,l<=i->i<Eh h k n l->sl h i=sl k i)/\(Eh h k n l<l+n->sl h (Eh h k n l)≠sl k (Eh h k n l))
 | 0,l=>⟨Nat.le_refl _,Nat.le_refl _,λ i h1 h2=>absurd h2 (by simp only[Eh];omega),λ h=>absurd h (by simp only[Eh];omega)⟩
 | n+1,l=>by
  simp only[Eh]
  split
  ·rename_i he
   obtain⟨h1,h2,h3,h4⟩:=wZ h k n (l+1)
   refine⟨by omega,by omega,λ i hi hi2=>?_,λ hlt=>h4 (by omega)⟩
   rcases Nat.lt_or_eq_of_le hi with hi|rfl
   ·exact h3 i (by omega) hi2
   ·exact he
  ·rename_i he
   exact⟨Nat.le_refl _,by omega,λ i h1 h2=>absurd h2 (by omega),λ _=>he⟩
theorem zA(h k:Nat):kQ h k<=11:=by have:=(wZ h k 11 0).2.1;unfold kQ;omega
theorem Rx{h k i:Nat}(hi:i<kQ h k):sl h i=sl k i:=(wZ h k 11 0).2.2.1 i (Nat.zero_le _) hi
theorem K9{h k:Nat}(hc:kQ h k<11):sl h (kQ h k)≠sl k (kQ h k):=(wZ h k 11 0).2.2.2 (by unfold kQ at hc;omega)
theorem yi{h k l:Nat}(hl:l<=11)(h1:∀i,i<l->sl h i=sl k i)(h2:l<11->sl h l≠sl k l):l=kQ h k:=by
 rcases Nat.lt_trichotomy l (kQ h k) with h3|h3|h3
 ·exact absurd (Rx h3) (h2 (by have:=zA h k;omega))
 ·exact h3
 ·exact absurd (h1 _ h3) (K9 (by omega))
theorem vt{P:Program}{S:List (Nat×Value)}{G:World->Prop}{d:Nat}{ty t t':TypeId}{pos:String}{af:Array Edge}{gd:Option (Nat×Bool)}{x y:Operand}{a b:Nat}(hx:ev S x=.int .u64 (a:Int))(hy:ev S y=.int .u64 (b:Int))(h0:b≠0)(ha:a<18446744073709551616):aK P S G ⟨some d,.binOp .quo t x y t',ty,pos,af,gd⟩ (.int .u64 ((a/b:Nat):Int)):=⟨λ w _=>by
 have h1:((b:Nat):Int)≠0:=by omega
 have h2:(a:Int).tdiv (b:Int)=((a/b:Nat):Int):=by rw[Int.tdiv_eq_ediv_of_nonneg (by omega)];rfl
 have h3:IntKind.u64.wrap ((a/b:Nat):Int)=((a/b:Nat):Int):=by
  have h4:=Nat.div_le_self a b
  generalize a/b=q at h4 ⊢
  rw[wrap_u64]
  omega
 simp only[execOp,hx,hy,eqGuard_at_int,binOp,Op.intDiv]
 simp[h0,h2]
 exact h3⟩
section
variable{P:Program}{S:List (Nat×Value)}{G:World->Prop}{d:Nat}{ty t t':TypeId}{pos:String}{af:Array Edge}{gd:Option (Nat×Bool)}{x y:Operand}{a b i:Nat}{k':IntKind}
theorem vc(hx:ev S x=.int .u64 (a:Int))(hy:ev S y=.int .u64 (b:Int))(ha:a<18446744073709551616)(hb:b<18446744073709551616):aK P S G ⟨some d,.binOp .and t x y t',ty,pos,af,gd⟩ (.int .u64 ((a &&& b:Nat):Int)):=by
 have:=ua (P:=P) (G:=G) (d:=d) (ty:=ty) (pos:=pos) (af:=af) (gd:=gd) (t:=t) (t':=t') hx hy
 rwa [pI ha hb] at this
theorem vp(hx:ev S x=.int .u64 (a:Int))(hy:ev S y=.int .u64 (b:Int))(h0:b≠0):aK P S G ⟨some d,.binOp .rem t x y t',ty,pos,af,gd⟩ (.int .u64 ((a%b:Nat):Int)):=by
 have:=ap (P:=P) (G:=G) (d:=d) (ty:=ty) (pos:=pos) (af:=af) (gd:=gd) (t:=t) (t':=t') hx hy (by omega)
 rwa [Int.tmod_eq_emod_of_nonneg (by omega),<- Int.natCast_emod] at this
end
end
end Go.Ct
namespace Go.Proofs.YtbajmaoegmbfgaaGreat
section
open Go.RowKit Go.Ct
theorem pX{h l:Nat}(hh:h<18446744073709551616)(hl:l<=10)(w:World):Calls Tryz.prog 218 #[.int .u64 (h:Int),.int .i64 (l:Int)] w λ e w'=>e=.returned (.int .i64 ((sl h l:Nat):Int))/\St w [] [] w':=by
 refine enter Tryz.func218 Tryz.ntmps218 rfl rfl (SF.s0 w) ?_
 simp only[cD]
 refine Kb2 ?_;refine A9 ?_
 (refine Ka3 ?_)
 refine Ka7 ?_
 refine bC (λ c10=>?_) (λ c10=>?_)
 ·try (exfalso;omega)
 ·try (exfalso;omega)
  refine tB ?_
  refine gI [0,1,11,12,13,14,15,16] (λ y:Nat=>[(1,.int .i64 ((l-y:Nat):Int)),(0,.int .u64 ((h >>> (6*y):Nat):Int))]) (λ y=>y<=l) (λ y=>l-y) (0) (Nat.zero_le _) ?_ (λ y f hx=>?_)
  ·repeat (first|exact bQ _|refine bI (by exact rfl) ?_)
  dsimp only[gZ,List.map,List.cons_append,List.nil_append]
  refine mD ?_;refine Cp ?_;refine aG ?_
  refine bC (λ c12=>?_) (λ c12=>?_)
  ·try (exfalso;omega)
   refine tB ?_;refine yD ?_;refine aM (gO (vt (b:=64) rf rf (by decide) (Nat.lt_of_le_of_lt (Nat.shiftRight_le _ _) hh))) (λ x16=>?_);refine J1 ?_;refine fG ?_;refine yD ?_;refine rR ?_;refine J1 ?_
   refine fA (y+1) ?_ ?_ ?_
   ·omega
   ·repeat' (first|exact bQ _|refine bI ?_ ?_)
    all_goals (first|exact rfl|(conv=>{lhs;whnf};rw[Lr];done))
   ·omega
  ·try (exfalso;omega)
   refine bS rfl ?_;refine J2 ?_;refine aB (vp (b:=64) rf rf (by decide)) rfl ?_;refine mQ ?_;refine J1 ?_
   refine aN Tryz.results218 (λ w hw=>?_)
   have hy:y=l:=by omega
   subst hy
   exact⟨rfl,hw.done⟩
theorem Nz{h k:Nat}(hh:h<18446744073709551616)(hk:k<18446744073709551616)(w:World):Calls Tryz.prog 260 #[.int .u64 (h:Int),.int .u64 (k:Int)] w λ e w'=>e=.returned (.int .i64 ((kQ h k:Nat):Int))/\St w [] [] w':=by
 refine enter Tryz.func260 Tryz.ntmps260 rfl rfl (SF.s0 w) ?_
 simp only[cD]
 refine cU ?_;refine cU ?_;refine C3 ?_
 refine gI [5,6,7,8,9,10,11,12,13,14,15,16,17,18] (λ y:Nat=>[(5,.int .i64 ((y:Nat):Int))]) (λ y=>y<=11/\∀i,i<y->sl h i=sl k i) (λ y=>11-y) (0) (⟨Nat.zero_le _,λ i hi=>absurd hi (Nat.not_lt_zero i)⟩) ?_ (λ y f hx=>?_)
 ·repeat (first|exact bQ _|refine bI (by exact rfl) ?_)
 dsimp only[gZ,List.map,List.cons_append,List.nil_append]
 refine mD ?_;refine An ?_;refine aA ?_
 (refine eC 8 (λ g8=>?_) (λ g8=>?_)<;>refine Ka0 ?_)
 all_goals (refine Ka0 ?_;(first|refine aI ?_|(refine aF ?_;refine aM (cV (hc:=λ w1 hw=>pX (l:=y) hh (by omega) w1)) (λ x11=>?_)));refine Ka0 ?_;refine Ka0 ?_;(first|refine aI ?_|(refine aF ?_;refine aM (cV (hc:=λ w1 hw=>pX (l:=y) hk (by omega) w1)) (λ x14=>?_)));refine uT ?_;refine aG ?_)
 all_goals
 refine bC (λ c16=>?_) (λ c16=>?_)
 ·try exact nv c16
  all_goals (refine aV ?_;refine cY ?_;refine yL ?_;refine fG ?_)
  all_goals
   refine fA (y+1) ?_ ?_ ?_
   ·omega
   ·repeat' (first|exact bQ _|refine bI ?_ ?_)
    exact rfl
   ·exact⟨by omega,λ i hi=>by rcases Nat.lt_succ_iff_lt_or_eq.1 hi with h|rfl;exact hx.2 i h;omega⟩
 ·all_goals try (exfalso;omega)
  all_goals (refine bS rfl ?_;refine Ka5 ?_)
  all_goals
   refine aN Tryz.results260 (λ w hw=>?_)
   exact⟨by rw[<- yi (h:=h) (k:=k) hx.1 hx.2 (λ _=>by omega)];rfl,hw.done⟩
end

end Go.Proofs.YtbajmaoegmbfgaaGreat
