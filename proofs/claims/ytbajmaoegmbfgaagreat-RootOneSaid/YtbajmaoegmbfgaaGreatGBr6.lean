/- Merged. -/
import Derived.Test.YtbajmaoegmbfgaaGreatGBr2
import Derived.Test.YtbajmaoegmbfgaaGreatGAr9
import Derived.Test.YtbajmaoegmbfgaaGreatGPa1
set_option linter.unusedSimpArgs false
set_option linter.unusedVariables false
namespace Go.Proofs.YtbajmaoegmbfgaaGreat
open Go.RowKit Go.Ct
section
theorem of_eq{m:Nat->Option Int}{b:Nat}{xs:List Int}(h:BV b xs/\∀k,k<64->rS b xs k=m k):A9 m 64=b/\rQ m 64=xs:=by
 obtain⟨h1,h2⟩:=Qk 64 λ k hk=>(h.2 k hk).symm
 obtain⟨h3,h4⟩:=dt h.1
 exact⟨h1.trans h3,h2.trans h4⟩
theorem pK{k:Nat}(b:Nat)(hk:k<64):dW b (k:Int)=b ||| 2^k:=by
 unfold dW;rw[if_pos (by omega),Int.toNat_natCast]
theorem tJ{k:Nat}(b:Nat)(hk:k<64):vW b (k:Int)=b ^^^ (b &&& 2^k):=by
 unfold vW;rw[if_pos (by omega),Int.toNat_natCast]
theorem oH{k:Nat}(b:Nat)(hk:k<64):rJ b (k:Int)=fY b k:=by
 unfold rJ;rw[Int.toNat_natCast,Nat.min_eq_left (by omega)]
theorem qM{k:Nat}(b:Nat)(hk:k<64):qB b (k:Int)=b.testBit k:=by
 rw[Aw b (by omega) (by omega),Int.toNat_natCast]
theorem Xx{b k:Nat}{xs:List Int}{r:Int}(h:BV b xs)(hk:k<64)(hb:qB b (k:Int)=false)(hr:1<=r):A9 (gB b xs k r) 64=dW b (k:Int)/\rQ (gB b xs k r) 64=wQ xs (rJ b (k:Int)) r:=by
 rw[qM b hk] at hb
 rw[pK b hk,oH b hk]
 unfold gB
 rw[if_pos (by omega)]
 exact of_eq (Gj h hk hb hr)
theorem Wy{b k:Nat}{xs:List Int}{r:Int}(h:BV b xs)(hk:k<64)(hb:qB b (k:Int)=true)(hr:1<=r):A9 (gB b xs k r) 64=b/\rQ (gB b xs k r) 64=qQ xs (rJ b (k:Int)) r:=by
 rw[qM b hk] at hb
 rw[oH b hk]
 unfold gB
 rw[if_pos (by omega)]
 exact of_eq (Rg h hk hb hr)
theorem Yl{b k:Nat}{xs:List Int}(h:BV b xs)(hk:k<64)(hb:qB b (k:Int)=true):A9 (gB b xs k 0) 64=vW b (k:Int)/\rQ (gB b xs k 0) 64=sD xs (rJ b (k:Int)):=by
 rw[qM b hk] at hb
 rw[tJ b hk,oH b hk]
 unfold gB
 rw[if_neg (by omega)]
 exact of_eq (Sm h hk hb)
section
variable{n:Nd}{xs:List Int}{ys:List Pr}{w:World}{b:Nat}
theorem zP{i:Int}(h:(Mx n xs ys b i).isSome=true):CV n xs ys/\qB b i=true:=by
 unfold Mx at h
 split at h
 ·assumption
 ·cases h
theorem Gb{i:Int}(h:(Mx n xs ys b i).isSome=false)(hcv:CV n xs ys):qB b i=false:=by
 unfold Mx at h
 split at h
 ·cases h
 ·rename_i hn
  cases hh:qB b i with
  | false=>rfl
  | true=>exact absurd ⟨hcv,hh⟩ hn
theorem H6(i r:Int)(hb:n.bm=(b:Int))(hb2:b<18446744073709551616)(hr:rV w n xs ys):Calls Tryz.prog 249 #[n.v,.int .i64 i,.int .i64 r] w (X6 w (m8 n xs ys b i r)):=by
 refine enter Tryz.func249 Tryz.ntmps249 rfl rfl (SF.s2 hr.br hr.pr) ?_
 simp only[cE]
 simp only[Nd.v,Nd.cells]
 refine J0 ?_;refine bN (λ x3=>?_);refine aJ (λ x6=>?_);refine iW ?_;refine Dv ?_;refine aM (cV (hc:=λ w1 hw=>nR (n:=n) i hb hb2 (hr.fU hw.done))) (λ x13=>?_);refine aA ?_;refine aB (jF rf rfl) rfl ?_;refine aB (jF rf rfl) rfl ?_;refine J8 ?_;refine oX ?_;refine aC (c0 (V:=.bool) (hc:=λ w1 hw=>ku (n:=n) hb hb2 (hr.fU hw.done))) (λ x17 h17=>?_);refine Fy ?_
 (refine eG 19 (λ g19=>?_) (λ g19=>?_)<;>refine Ka0 ?_)
 all_goals (refine Ka7 ?_)
 all_goals (first|refine aI ?_|(refine eG 22 (λ g22=>?_) (λ g22=>?_)<;>refine Ka0 ?_))
 all_goals (refine wx ?_;refine aA ?_)
 all_goals (first|refine aI ?_|(refine eG 26 (λ g26=>?_) (λ g26=>?_)<;>refine Ka0 ?_))
 all_goals (refine Cf ?_;refine aA ?_)
 all_goals (first|refine aI ?_|(refine eG 30 (λ g30=>?_) (λ g30=>?_)<;>refine Ka0 ?_))
 all_goals (refine wx ?_;refine aG ?_)
 all_goals
 refine bE (λ c33=>?_) (λ c33=>?_)
 ·all_goals (refine J0 ?_;refine bK ?_;refine Dm ?_)
  all_goals
   refine bB Tryz.results249 (λ w hw=>?_)
   rw[show m8 n xs ys b i r=none from if_neg (by rintro ⟨k1,⟨k2,k3⟩,k4,k5⟩;clear hw;first|omega|exact absurd (zP g22).2 (by simp[k5])|exact absurd (h17.2 k1) (by simp_all))];exact⟨(none,0),rfl,Nat.le_refl _,(hw.Mw none).fin⟩
 ·try exact nv c33
  all_goals
   have hcv:=h17.1 (by simpa using g19)
   have hh:=Gb g22 hcv
   obtain⟨k,rfl⟩:=Int.eq_ofNat_of_zero_le (show 0<=i by omega)
   have hk:=Xx (hcv.bv hb hb2) (k:=k) (by omega) hh (r:=r) (by omega)
  all_goals (refine aS ?_;refine oX ?_;refine qJ ?_;refine aC (cF (hc:=λ w1 hw=>by have:=Mn (w:=w1) k r (by omega) hcv hb hb2 (hr.fU hw.done);rw[hk.1,hk.2] at this;exact this)) (λ x38 h38=>?_);refine Dm ?_)
  all_goals
   refine bB Tryz.results249 (λ w hw=>?_)
   rw[show m8 n xs ys b (k:Int) r=some (dW b (k:Int),wQ xs (rJ b (k:Int)) r) from if_pos ⟨hcv,⟨by omega,by omega⟩,by omega,hh⟩];exact⟨x38,rfl,h38,hw.fin⟩
theorem Mk(i r:Int)(hb:n.bm=(b:Int))(hb2:b<18446744073709551616)(hr:rV w n xs ys):Calls Tryz.prog 220 #[n.v,.int .i64 i,.int .i64 r] w (X6 w (m6 n xs ys b i r)):=by
 refine enter Tryz.func220 Tryz.ntmps220 rfl rfl (SF.s2 hr.br hr.pr) ?_
 simp only[cE]
 simp only[Nd.v,Nd.cells]
 refine J0 ?_;refine bN (λ x3=>?_);refine aJ (λ x6=>?_);refine iW ?_;refine Dv ?_;refine aM (cV (hc:=λ w1 hw=>nR (n:=n) i hb hb2 (hr.fU hw.done))) (λ x13=>?_);refine aA ?_;refine aB (jF rf rfl) rfl ?_;refine aB (jF rf rfl) rfl ?_;refine J8 ?_;refine J2 ?_;refine Fy ?_
 (refine eG 18 (λ g18=>?_) (λ g18=>?_)<;>refine Ka0 ?_)
 all_goals (refine wx ?_;refine aG ?_)
 all_goals
 refine bE (λ c21=>?_) (λ c21=>?_)
 ·all_goals (refine J0 ?_;refine bK ?_;refine Dm ?_)
  all_goals
   refine bB Tryz.results220 (λ w hw=>?_)
   rw[show m6 n xs ys b i r=none from if_neg (by rintro ⟨k1,k4,k5⟩;clear hw;first|omega|exact absurd (Gb (by simpa using g18) k1) (by simp[k5]))];exact⟨(none,0),rfl,Nat.le_refl _,(hw.Mw none).fin⟩
 ·try exact nv c21
  all_goals
   have hc:=zP (by simpa using g18)
   have hcv:=hc.1
   have hh:=hc.2
   obtain⟨q1,q2,_,_⟩:=sN hh
   obtain⟨k,rfl⟩:=Int.eq_ofNat_of_zero_le q1
   have hk:=Wy (hcv.bv hb hb2) (k:=k) (by omega) hh (r:=r) (by omega)
  all_goals (refine aS ?_;refine oX ?_;refine qJ ?_;refine aC (cF (hc:=λ w1 hw=>by have:=Mn (w:=w1) k r (by omega) hcv hb hb2 (hr.fU hw.done);rw[hk.1,hk.2] at this;exact this)) (λ x26 h26=>?_);refine Dm ?_)
  all_goals
   refine bB Tryz.results220 (λ w hw=>?_)
   rw[show m6 n xs ys b (k:Int) r=some (b,qQ xs (rJ b (k:Int)) r) from if_pos ⟨hcv,by omega,hh⟩];exact⟨x26,rfl,h26,hw.fin⟩
theorem K4(i:Int)(hb:n.bm=(b:Int))(hb2:b<18446744073709551616)(hr:rV w n xs ys):Calls Tryz.prog 252 #[n.v,.int .i64 i] w (X6 w (ng n xs ys b i)):=by
 refine enter Tryz.func252 Tryz.ntmps252 rfl rfl (SF.s2 hr.br hr.pr) ?_
 simp only[cE]
 simp only[Nd.v,Nd.cells]
 refine J0 ?_;refine bN (λ x2=>?_);refine aJ (λ x4=>?_);refine iW ?_;refine Dv ?_;refine aM (cV (hc:=λ w1 hw=>nR (n:=n) i hb hb2 (hr.fU hw.done))) (λ x11=>?_);refine aA ?_;refine aB (jF rf rfl) rfl ?_;refine aB (jF rf rfl) rfl ?_;refine J8 ?_;refine J2 ?_;refine pN ?_
 refine bE (λ c15=>?_) (λ c15=>?_)
 ·refine J0 ?_;refine bK ?_;refine Dm ?_
  refine bB Tryz.results252 (λ w hw=>?_)
  rw[show ng n xs ys b i=none from if_neg (by rintro ⟨k1,k5⟩;clear hw;exact absurd (Gb c15 k1) (by simp[k5]))];exact⟨(none,0),rfl,Nat.le_refl _,(hw.Mw none).fin⟩
 ·have hc:=zP c15
  have hcv:=hc.1
  have hh:=hc.2
  obtain⟨q1,q2,_,_⟩:=sN hh
  obtain⟨k,rfl⟩:=Int.eq_ofNat_of_zero_le q1
  have hk:=Yl (hcv.bv hb hb2) (k:=k) (by omega) hh
  refine aS ?_;refine Dv ?_;refine aC (cF (hc:=λ w1 hw=>by have:=Mn (w:=w1) k 0 (by omega) hcv hb hb2 (hr.fU hw.done);rw[hk.1,hk.2] at this;exact this)) (λ x19 h19=>?_);refine Dm ?_
  refine bB Tryz.results252 (λ w hw=>?_)
  rw[show ng n xs ys b (k:Int)=some (vW b (k:Int),sD xs (rJ b (k:Int))) from if_pos ⟨hcv,hh⟩];exact⟨x19,rfl,h19,hw.fin⟩
end
end
end Go.Proofs.YtbajmaoegmbfgaaGreat
namespace Go.Ct
section
def bZ(n:Nv):Prop:=n.kind=3∨n.kind=5∨n.kind=6
instance (n:Nv):Decidable (bZ n):=by unfold bZ;exact inferInstance
def uE(N:List Nv)(cs:List Int)(c:Int):Int:=if(bD N (aY cs c)).kind=8 then(if aY cs (bD N (aY cs c)).status=1 then(bD N (aY cs c)).new else(bD N (aY cs c)).bA) else aY cs c
def oL(N:List Nv)(cs:List Int)(c:Int):Option Int:=if(bD N (uE N cs c)).kind=2 then some (uE N cs c) else none
def wF(N:List Nv)(cs:List Int)(i:Int):Int:=aY cs (bD N i).main
def nZ(N:List Nv)(cs:List Int)(i:Int):Int:=aY cs (bD N (wF N cs i)).prev
def yK(N:List Nv)(cs:List Int)(i:Int):Int:=if(bD N (nZ N cs i)).kind=7 then(bD N (nZ N cs i)).bA else nZ N cs i
def oK(N:List Nv)(cs:List Int)(i:Int):Option Int :=
 if(bD N i).kind=2/\bZ (bD N (wF N cs i)) then
  if nZ N cs i=0 then some (wF N cs i) else if bZ (bD N (yK N cs i)) then some (yK N cs i) else none
 else none
theorem Xs{N:List Nv}{cs:List Int}{i m:Int}(h:oK N cs i=some m):(bD N i).kind=2/\bZ (bD N m):=by
 unfold oK at h
 split at h
 ·rename_i h1
  split at h
  ·cases h;exact h1
  split at h
  ·cases h;exact⟨h1.1,by assumption⟩
  ·cases h
 ·cases h
theorem eS{N:List Nv}{i:Int}(h:(bD N i).kind≠0):1<=i/\i<=N.length:=by
 unfold bD at h
 split at h
 ·assumption
 ·exact absurd rfl h
end
section
theorem aCj{L1 L2:List aU}(h:L1.length=L2.length):L1.map aU.c=L2.map aU.c↔∀i,i<L1.length->(L1.getD i aU.zero).c=(L2.getD i aU.zero).c:=by
 constructor
 ·intro e i hi
  have h1:(L1.map aU.c)[i]?=(L2.map aU.c)[i]?:=by rw[e]
  rw[List.getElem?_map,List.getElem?_map,List.getElem?_eq_getElem hi,List.getElem?_eq_getElem (h▸hi)] at h1
  rw[jS,jS,List.getElem?_eq_getElem hi,List.getElem?_eq_getElem (h▸hi)]
  simpa using h1
 ·intro e
  refine List.ext_getElem? λ i=>?_
  rw[List.getElem?_map,List.getElem?_map]
  by_cases hi:i<L1.length
  ·have h1:=e i hi
   rw[jS,jS,List.getElem?_eq_getElem hi,List.getElem?_eq_getElem (h▸hi)] at h1
   rw[List.getElem?_eq_getElem hi,List.getElem?_eq_getElem (h▸hi)]
   simpa using h1
  ·rw[List.getElem?_eq_none (by omega),List.getElem?_eq_none (by omega)]
end
end Go.Ct
namespace Go.Proofs.YtbajmaoegmbfgaaGreat
open Go.RowKit Go.Ct
section
end
end Go.Proofs.YtbajmaoegmbfgaaGreat
namespace Go.Ct
section
def Nv.nd(v:Nv):Nd:=⟨v.kind,v.gen,v.main,v.bm,none,v.xs.length,0,v.hash,v.key,v.val,none,v.ys.length,0,v.prev,v.bA,v.exp,v.new,v.status⟩
def Nv.dv(v:Nv):aU:=⟨v.nd,v.xs,v.ys⟩
theorem Nv.aCG(v:Nv):v.dv.c=v:=rfl
theorem xb(N:List Nv):(N.map Nv.dv).map aU.c=N:=by
 rw[List.map_map]
 exact(List.map_congr_left (λ v _=>Nv.aCG v)).trans (List.map_id N)
theorem La{n:Nd}{xs:List Int}{ys:List Pr}:cG n xs ys↔cG (n.c xs ys).nd xs ys:=by
 have e:rW n n.own xs (n.jT xs) ys (n.jD ys)↔rW (n.c xs ys).nd (n.c xs ys).nd.own xs ((n.c xs ys).nd.jT xs) ys ((n.c xs ys).nd.jD ys):=by
  rw[Au,Au]
  have e1:n.own.c (n.jT xs) (n.jD ys)=(n.c xs ys).nd.own.c ((n.c xs ys).nd.jT xs) ((n.c xs ys).nd.jD ys):=by
   have hx:(n.c xs ys).nd.jT xs=n.jT xs:=rfl
   have hy:(n.c xs ys).nd.jD ys=n.jD ys:=rfl
   have hk:(n.c xs ys).nd.kind=n.kind:=rfl
   rw[hx,hy]
   unfold Nd.own
   rw[hk]
   repeat' split
   all_goals rfl
  rw[e1]
  exact Iff.rfl
 unfold cG
 rw[e]
 exact Iff.rfl
theorem yd{gen:Int}{n:Nat}{u v:aU}(h:u.c=v.c)(hu:mT gen n u):mT gen n v:=by
 have key:∀v:aU,mT gen n v↔mT gen n v.c.dv:=λ v=>by
  unfold mT
  rw[La (n:=v.nd)]
  exact Iff.rfl
 rw[key,<- h,<- key]
 exact hu
theorem rv{m:Nat}{L1 L2:List aU}(h:L1.map aU.c=L2.map aU.c):marks m L1=marks m L2:=by
 have key:∀L:List aU,marks m L=(L.map aU.c).foldl (λ u c=>eK u c.nd) (some (List.replicate m false)):=λ L=>by
  unfold marks
  rw[List.foldl_map]
  rfl
 rw[key,key,h]
theorem Wj{L1 L2:List aU}{cs:List Int}{gen:Int}(h:L1.map aU.c=L2.map aU.c)(hp:jA L1 cs gen):jA L2 cs gen:=by
 have hl:L1.length=L2.length:=by simpa using congrArg List.length h
 have hi:=(aCj hl).1 h
 have h2:=hp.two
 refine⟨by omega,hp.gen0,?_,?_,λ i h=>by have:=hp.cells i h;rwa [hl] at this,λ i h=>?_,by rw[<- rv h];exact hp.marks⟩
 ·have:=congrArg Nv.kind (hi 0 (by omega))
  exact this.symm.trans hp.m0
 ·have:=congrArg Nv.kind (hi 1 (by omega))
  exact this.symm.trans hp.m1
 ·have:=hp.nodes i (by omega)
  rw[<- hl]
  exact yd (hi i (by omega)) this
def fW(N:List Nv)(cs:List Int)(gen:Int):Prop:=jA (N.map Nv.dv) cs gen
theorem fW.to{N:List Nv}{cs:List Int}{gen:Int}(h:fW N cs gen){L:List aU}(hl:L.map aU.c=N):jA L cs gen:=Wj (by rw[xb,hl]) h
theorem fW.push{N:List Nv}{cs:List Int}{gen init:Int}{n:Nv}(h:fW N cs gen)(hv:mT gen (N.length+1) (cX n cs.length).dv)(hi:Ds init N.length):fW (N++[cX n cs.length]) (eU n.kind cs init) gen:=by
 have hm:(N.map Nv.dv).length=N.length:=by simp
 have:=P8 (v:=(cX n cs.length).dv) (k:=n.kind) (init:=init) h (by rw[hm];exact hv) (by rw[hm];exact hi) (by
  have e:(cX n cs.length).dv.nd.kind=n.kind:=rfl
  unfold fV eU
  rw[e]
  by_cases h2:n.kind=2
  ·right
   rw[if_pos h2,if_pos (.inl h2)]
   exact⟨by show some (if n.kind=2 then _ else _)=_;rw[if_pos h2],rfl⟩
  rw[if_neg h2]
  by_cases h3:n.kind=3∨n.kind=5∨n.kind=6
  ·right
   rw[if_pos h3,if_pos (by omega)]
   exact⟨by show some (if n.kind=3∨n.kind=5∨n.kind=6 then _ else _)=_;rw[if_pos h3],rfl⟩
  rw[if_neg h3]
  by_cases h8:n.kind=8
  ·right
   rw[if_pos h8,if_pos (by omega)]
   exact⟨by show some (if n.kind=8 then _ else _)=_;rw[if_pos h8],rfl⟩
  ·left
   rw[if_neg h8,if_neg (by omega)]
   exact⟨rfl,rfl⟩)
 unfold fW
 rw[List.map_append]
 exact this
theorem fW.cell{N:List Nv}{cs:List Int}{gen init:Int}(h:fW N cs gen)(hi:Ds init N.length):fW N (cs++[init]) gen:=by
 have hm:(N.map Nv.dv).length=N.length:=by simp
 refine⟨h.two,h.gen0,h.m0,h.m1,λ i hi'=>?_,h.nodes,?_⟩
 ·rw[jS]
  rw[List.length_append,List.length_cons,List.length_nil] at hi'
  by_cases hl:i<cs.length
  ·rw[List.getElem?_append_left hl,<- jS]
   exact h.cells i hl
  ·rw[List.getElem?_append_right (by omega),show i-cs.length=0 by omega,hm]
   exact hi
 ·have key:∀(l:List aU) (m:Nat) (u:List Bool),l.foldl (λ u v=>eK u v.nd) (some u)≠none->l.foldl (λ u v=>eK u v.nd) (some (u++[false]))≠none:=by
   intro l
   induction l with
   | nil=>intro _ u _ h;cases h
   | cons v l ih =>
    intro m u hu
    rw[List.foldl_cons] at hu ⊢
    have hnone:∀l:List aU,l.foldl (λ u v=>eK u v.nd) none=none:=λ l=>by
     induction l with
     | nil=>rfl
     | cons v l ih=>exact ih
    cases hc:fV v.nd with
    | none =>
     rw[show eK (some u) v.nd=some u by simp[eK,hc]] at hu
     rw[show eK (some (u++[false])) v.nd=some (u++[false]) by simp[eK,hc]]
     exact ih m u hu
    | some c =>
     by_cases hc3:1<=c/\c<=u.length/\u.getD (c-1).toNat false=false
     ·obtain⟨c1,c2,c3⟩:=hc3
      have hlt:(c-1).toNat<u.length:=by omega
      have e1:(u++[false]).getD (c-1).toNat false=u.getD (c-1).toNat false:=by
       rw[jS,jS,List.getElem?_append_left hlt]
      have e2:eK (some u) v.nd=some (u.set (c-1).toNat true):=by
       show(match fV v.nd with|none=>_|some c=>_)=_
       rw[hc]
       exact if_pos ⟨c1,c2,c3⟩
      have e3:eK (some (u++[false])) v.nd=some (u.set (c-1).toNat true++[false]):=by
       show(match fV v.nd with|none=>_|some c=>_)=_
       rw[hc,<- List.set_append_left _ _ hlt]
       exact if_pos ⟨c1,by rw[List.length_append,List.length_cons,List.length_nil];omega,by rw[e1];exact c3⟩
      rw[e2] at hu
      rw[e3]
      exact ih m _ hu
     ·have e2:eK (some u) v.nd=none:=by
       show(match fV v.nd with|none=>_|some c=>_)=_
       rw[hc]
       exact if_neg hc3
      rw[e2,hnone] at hu
      exact absurd rfl hu
  have:=key (N.map Nv.dv) 0 (List.replicate cs.length false) h.marks
  unfold marks
  rw[List.length_append,List.length_cons,List.length_nil,List.replicate_succ']
  exact this
end
end Go.Ct
namespace Go.Proofs.YtbajmaoegmbfgaaGreat
open Go.RowKit Go.Ct
section
theorem aCb{n:Nd}{xs:List Int}{ys:List Pr}:CV n xs ys↔CV (n.c xs ys).nd xs ys:=by
 unfold CV
 rw[La (n:=n)]
 exact Iff.rfl
theorem aCP{n:Nd}{xs:List Int}{ys:List Pr}:LV n xs ys↔LV (n.c xs ys).nd xs ys:=by
 unfold LV
 rw[La (n:=n)]
 exact Iff.rfl
theorem Zi{n:Nd}{xs:List Int}{ys:List Pr}:CV (n.c xs ys).nd (n.c xs ys).xs (n.c xs ys).ys=CV n xs ys:=propext aCb.symm
theorem aAU{n:Nd}{xs:List Int}{ys:List Pr}:LV (n.c xs ys).nd (n.c xs ys).xs (n.c xs ys).ys=LV n xs ys:=propext aCP.symm
def Cw(b:Nat)(xs:List Int):Nv:=(cn b xs (none,0)).c xs []
noncomputable def kU (v:Nv) (i:Int):Option Int:=Mx v.nd v.xs v.ys v.bm.toNat i
noncomputable def K9 (v:Nv):Option Int:=j8 v.nd v.xs v.ys
def Ig(o:Option (Nat×List Int)):Nv:=match o with|some q=>Cw q.1 q.2|none=>Nv.zero
noncomputable def inV (v:Nv) (i r:Int):Nv:=Ig (m8 v.nd v.xs v.ys v.bm.toNat i r)
noncomputable def Rl (v:Nv) (i r:Int):Nv:=Ig (m6 v.nd v.xs v.ys v.bm.toNat i r)
noncomputable def M9 (v:Nv) (i:Int):Nv:=Ig (ng v.nd v.xs v.ys v.bm.toNat i)
def tmV(s:Nv):Nv:=(tmb s.nd).c [] []
noncomputable def zq (v:Nv) (level:Int) (s:Nv):Nv:=if Ta v.nd v.xs v.ys level s.nd=true then tmV s else v
def unV(v:Nv):Nv:=(E7 v.nd).c [] []
noncomputable def grV (v:Nv) (k:ByteArray) (u:Int):Nv:=(ee (kV v.nd v.xs v.ys k u) v.hash (none,0)).c [] (Yt (kV v.nd v.xs v.ys k u))
noncomputable def pf (v:Nv) (k:ByteArray):Nv:=(Na (pS v.nd v.xs v.ys k) v.hash (none,0)).c [] (H5 (pS v.nd v.xs v.ys k))
section
variable{n s:Nd}{xs:List Int}{ys:List Pr}{b:Nat}
theorem aB2(hb:n.bm=(b:Int))(i:Int):Mx n xs ys b i=kU (n.c xs ys) i:=by
 have e:(n.c xs ys).bm.toNat=b:=by show n.bm.toNat=b;omega
 unfold kU Mx
 rw[e]
 rw[Zi (n:=n)]
 rfl
theorem w6:j8 n xs ys=K9 (n.c xs ys):=by
 unfold K9 j8
 rw[Zi (n:=n)]
 rfl
theorem Et(o:Option (Nat×List Int))(x:Option Addr×Nat):(mU o x).c (mL o) []=Ig o:=by cases o<;>rfl
theorem aCp(hb:n.bm=(b:Int))(i r:Int):Ig (m8 n xs ys b i r)=inV (n.c xs ys) i r:=by
 have e:(n.c xs ys).bm.toNat=b:=by show n.bm.toNat=b;omega
 unfold inV m8
 rw[e]
 rw[Zi (n:=n)]
 rfl
theorem aAE(hb:n.bm=(b:Int))(i r:Int):Ig (m6 n xs ys b i r)=Rl (n.c xs ys) i r:=by
 have e:(n.c xs ys).bm.toNat=b:=by show n.bm.toNat=b;omega
 unfold Rl m6
 rw[e]
 rw[Zi (n:=n)]
 rfl
theorem aAX(hb:n.bm=(b:Int))(i:Int):Ig (ng n xs ys b i)=M9 (n.c xs ys) i:=by
 have e:(n.c xs ys).bm.toNat=b:=by show n.bm.toNat=b;omega
 unfold M9 ng
 rw[e]
 rw[Zi (n:=n)]
 rfl
theorem aCK(level:Int):(wy (Ta n xs ys level s) n s).c (m4 (Ta n xs ys level s) xs) (m4 (Ta n xs ys level s) ys)=zq (n.c xs ys) level (s.c [] []):=by
 have e:Ta (n.c xs ys).nd xs ys level (s.c [] []).nd=Ta n xs ys level s:=by
  unfold Ta
  rw[w6 (n:=n)]
  rfl
 have e':Ta (n.c xs ys).nd (n.c xs ys).xs (n.c xs ys).ys level (s.c [] []).nd=Ta n xs ys level s:=e
 unfold zq wy m4
 rw[e']
 split<;>rfl
theorem aB3:(E7 n).c [] []=unV (n.c xs ys):=by
 unfold unV E7
 show _=Nd.c (if n.kind=5 then _ else _) _ _
 split<;>rfl
theorem aCL(k:ByteArray)(u:Int)(x:Option Addr×Nat):(ee (kV n xs ys k u) n.hash x).c [] (Yt (kV n xs ys k u))=grV (n.c xs ys) k u:=by
 have e':kV (n.c xs ys).nd (n.c xs ys).xs (n.c xs ys).ys k u=kV n xs ys k u:=by unfold kV;rw[aAU (n:=n)];rfl
 unfold grV
 rw[e']
 cases kV n xs ys k u<;>rfl
theorem aCI(k:ByteArray)(x:Option Addr×Nat):(Na (pS n xs ys k) n.hash x).c [] (H5 (pS n xs ys k))=pf (n.c xs ys) k:=by
 have e':pS (n.c xs ys).nd (n.c xs ys).xs (n.c xs ys).ys k=pS n xs ys k:=by unfold pS;rw[aAU (n:=n)];rfl
 unfold pf
 rw[e']
 cases pS n xs ys k with
 | none=>rfl
 | some m=>unfold Na;simp only[H5];split<;>rfl
end
end
end Go.Proofs.YtbajmaoegmbfgaaGreat
namespace Go.Ct
open Go Go.RowKit
section
def sl(h l:Nat):Nat:=(h >>> (6*l))%64
theorem yL(h l:Nat):sl h l<64:=Nat.mod_lt _ (by decide)
theorem L3(h j:Nat):(h >>> (6*j))/64=h >>> (6*(j+1)):=by
 rw[show 6*(j+1)=6*j+6 by omega,Nat.shiftRight_add,Nat.shiftRight_eq_div_pow (h >>> (6*j)) 6]
def Hz(h k:Nat):Nat->Nat->Nat
 | 0,l=>l
 | n+1,l=>if sl h l=sl k l then Hz h k n (l+1) else l
def lB(h k:Nat):Nat:=Hz h k 11 0
theorem xR(h k:Nat):∀n l,l<=Hz h k n l/\Hz h k n l<=l+n/\(∀i,l<=i->i<Hz h k n l->sl h i=sl k i)/\(Hz h k n l<l+n->sl h (Hz h k n l)≠sl k (Hz h k n l))
 | 0,l=>⟨Nat.le_refl _,Nat.le_refl _,λ i h1 h2=>absurd h2 (by simp only[Hz];omega),λ h=>absurd h (by simp only[Hz];omega)⟩
 | n+1,l=>by
  simp only[Hz]
  split
  ·rename_i he
   obtain⟨h1,h2,h3,h4⟩:=xR h k n (l+1)
   refine⟨by omega,by omega,λ i hi hi2=>?_,λ hlt=>h4 (by omega)⟩
   rcases Nat.lt_or_eq_of_le hi with hi|rfl
   ·exact h3 i (by omega) hi2
   ·exact he
  ·rename_i he
   exact⟨Nat.le_refl _,by omega,λ i h1 h2=>absurd h2 (by omega),λ _=>he⟩
theorem zB(h k:Nat):lB h k<=11:=by have:=(xR h k 11 0).2.1;unfold lB;omega
theorem Sq{h k i:Nat}(hi:i<lB h k):sl h i=sl k i:=(xR h k 11 0).2.2.1 i (Nat.zero_le _) hi
theorem L6{h k:Nat}(hc:lB h k<11):sl h (lB h k)≠sl k (lB h k):=(xR h k 11 0).2.2.2 (by unfold lB at hc;omega)
theorem w9{h k l:Nat}(hl:l<=11)(h1:∀i,i<l->sl h i=sl k i)(h2:l<11->sl h l≠sl k l):l=lB h k:=by
 rcases Nat.lt_trichotomy l (lB h k) with h3|h3|h3
 ·exact absurd (Sq h3) (h2 (by have:=zB h k;omega))
 ·exact h3
 ·exact absurd (h1 _ h3) (L6 (by omega))
theorem aAD{P:Program}{S:List (Nat×Value)}{G:World->Prop}{d:Nat}{ty t t':TypeId}{pos:String}{af:Array Edge}{gd:Option (Nat×Bool)}{x y:Operand}{a b:Nat}(hx:ev S x=.int .u64 (a:Int))(hy:ev S y=.int .u64 (b:Int))(h0:b≠0)(ha:a<18446744073709551616):aK P S G ⟨some d,.binOp .quo t x y t',ty,pos,af,gd⟩ (.int .u64 ((a/b:Nat):Int)):=⟨λ w _=>by
 have h1:((b:Nat):Int)≠0:=by omega
 have h2:(a:Int).tdiv (b:Int)=((a/b:Nat):Int):=by rw[Int.tdiv_eq_ediv_of_nonneg (by omega)];rfl
 have h3:IntKind.u64.wrap ((a/b:Nat):Int)=((a/b:Nat):Int):=by
  have h4:=Nat.div_le_self a b
  generalize a/b=q at h4 ⊢
  rw[wrap_u64]
  omega
 simp only[execOp,hx,hy,eqGuard_at_int,binOp,Op.intDiv]
 simp[h0,h2]
 exact h3⟩
section
variable{P:Program}{S:List (Nat×Value)}{G:World->Prop}{d:Nat}{ty t t':TypeId}{pos:String}{af:Array Edge}{gd:Option (Nat×Bool)}{x y:Operand}{a b i:Nat}{k':IntKind}
theorem w8(hx:ev S x=.int .u64 (a:Int))(hy:ev S y=.int .u64 (b:Int))(ha:a<18446744073709551616)(hb:b<18446744073709551616):aK P S G ⟨some d,.binOp .and t x y t',ty,pos,af,gd⟩ (.int .u64 ((a &&& b:Nat):Int)):=by
 have:=vw (P:=P) (G:=G) (d:=d) (ty:=ty) (pos:=pos) (af:=af) (gd:=gd) (t:=t) (t':=t') hx hy
 rwa [pR ha hb] at this
theorem zu(hx:ev S x=.int .u64 (a:Int))(hy:ev S y=.int .u64 (b:Int))(h0:b≠0):aK P S G ⟨some d,.binOp .rem t x y t',ty,pos,af,gd⟩ (.int .u64 ((a%b:Nat):Int)):=by
 have:=ig (P:=P) (G:=G) (d:=d) (ty:=ty) (pos:=pos) (af:=af) (gd:=gd) (t:=t) (t':=t') hx hy (by omega)
 rwa [Int.tmod_eq_emod_of_nonneg (by omega),<- Int.natCast_emod] at this
end
end
end Go.Ct
namespace Go.Proofs.YtbajmaoegmbfgaaGreat
open Go.RowKit Go.Ct
section
theorem qI{h l:Nat}(hh:h<18446744073709551616)(hl:l<=10)(w:World):Calls Tryz.prog 218 #[.int .u64 (h:Int),.int .i64 (l:Int)] w λ e w'=>e=.returned (.int .i64 ((sl h l:Nat):Int))/\St w [] [] w':=by
 refine enter Tryz.func218 Tryz.ntmps218 rfl rfl (SF.s0 w) ?_
 simp only[cE]
 refine cZ ?_;refine Kb3 ?_
 (refine Ka3 ?_)
 refine Ka8 ?_
 refine bE (λ c10=>?_) (λ c10=>?_)
 ·try (exfalso;omega)
 ·try (exfalso;omega)
  refine sA ?_
  refine gV [0,1,11,12,13,14,15,16] (λ y:Nat=>[(1,.int .i64 ((l-y:Nat):Int)),(0,.int .u64 ((h >>> (6*y):Nat):Int))]) (λ y=>y<=l) (λ y=>l-y) (0) (Nat.zero_le _) ?_ (λ y f hx=>?_)
  ·repeat (first|exact bQ _|refine bJ (by exact rfl) ?_)
  dsimp only[iB,List.map,List.cons_append,List.nil_append]
  refine lI ?_;refine Cp ?_;refine aG ?_
  refine bE (λ c12=>?_) (λ c12=>?_)
  ·try (exfalso;omega)
   refine sA ?_;refine wZ ?_;refine aM (gZ (aAD (b:=64) rf rf (by decide) (Nat.lt_of_le_of_lt (Nat.shiftRight_le _ _) hh))) (λ x16=>?_);refine J1 ?_;refine eL ?_;refine wZ ?_;refine sB ?_;refine J1 ?_
   refine fE (y+1) ?_ ?_ ?_
   ·omega
   ·repeat' (first|exact bQ _|refine bJ ?_ ?_)
    all_goals (first|exact rfl|(conv=>{lhs;whnf};rw[L3];done))
   ·omega
  ·try (exfalso;omega)
   refine bR rfl ?_;refine J2 ?_;refine aB (zu (b:=64) rf rf (by decide)) rfl ?_;refine mX ?_;refine J1 ?_
   refine aN Tryz.results218 (λ w hw=>?_)
   have hy:y=l:=by omega
   subst hy
   exact⟨rfl,hw.done⟩
theorem Qg{h k:Nat}(hh:h<18446744073709551616)(hk:k<18446744073709551616)(w:World):Calls Tryz.prog 260 #[.int .u64 (h:Int),.int .u64 (k:Int)] w λ e w'=>e=.returned (.int .i64 ((lB h k:Nat):Int))/\St w [] [] w':=by
 refine enter Tryz.func260 Tryz.ntmps260 rfl rfl (SF.s0 w) ?_
 simp only[cE]
 refine cZ ?_;refine cZ ?_;refine Cz ?_
 refine gV [5,6,7,8,9,10,11,12,13,14,15,16,17,18] (λ y:Nat=>[(5,.int .i64 ((y:Nat):Int))]) (λ y=>y<=11/\∀i,i<y->sl h i=sl k i) (λ y=>11-y) (0) (⟨Nat.zero_le _,λ i hi=>absurd hi (Nat.not_lt_zero i)⟩) ?_ (λ y f hx=>?_)
 ·repeat (first|exact bQ _|refine bJ (by exact rfl) ?_)
 dsimp only[iB,List.map,List.cons_append,List.nil_append]
 refine lI ?_;refine Am ?_;refine aA ?_
 (refine eG 8 (λ g8=>?_) (λ g8=>?_)<;>refine Ka0 ?_)
 all_goals (refine Ka0 ?_;(first|refine aI ?_|(refine aF ?_;refine aM (cV (hc:=λ w1 hw=>qI (l:=y) hh (by omega) w1)) (λ x11=>?_)));refine Ka0 ?_;refine Ka0 ?_;(first|refine aI ?_|(refine aF ?_;refine aM (cV (hc:=λ w1 hw=>qI (l:=y) hk (by omega) w1)) (λ x14=>?_)));refine uU ?_;refine aG ?_)
 all_goals
 refine bE (λ c16=>?_) (λ c16=>?_)
 ·try exact nv c16
  all_goals (refine aS ?_;refine cY ?_;refine xI ?_;refine eL ?_)
  all_goals
   refine fE (y+1) ?_ ?_ ?_
   ·omega
   ·repeat' (first|exact bQ _|refine bJ ?_ ?_)
    exact rfl
   ·exact⟨by omega,λ i hi=>by rcases Nat.lt_succ_iff_lt_or_eq.1 hi with h|rfl;exact hx.2 i h;omega⟩
 ·all_goals try (exfalso;omega)
  all_goals (refine bR rfl ?_;refine Ka5 ?_)
  all_goals
   refine aN Tryz.results260 (λ w hw=>?_)
   exact⟨by rw[<- w9 (h:=h) (k:=k) hx.1 hx.2 (λ _=>by omega)];rfl,hw.done⟩
end
end Go.Proofs.YtbajmaoegmbfgaaGreat
