/- Merged. -/
import Derived.Test.YtbajmaoegmbfgaaGreatGBr2
import Derived.Test.YtbajmaoegmbfgaaGreatGAr9
import Derived.Test.YtbajmaoegmbfgaaGreatGPa1
set_option linter.unusedSimpArgs false
set_option linter.unusedVariables false
namespace Go.Proofs.YtbajmaoegmbfgaaGreat
open Go.RowKit Go.Ct
section
theorem of_eq{m:Nat->Option Int}{b:Nat}{xs:List Int}(h:BV b xs/\∀k,k<64->qS b xs k=m k):Be m 64=b/\qF m 64=xs:=by
 obtain⟨h1,h2⟩:=P9 64 λ k hk=>(h.2 k hk).symm
 obtain⟨h3,h4⟩:=S7 h.1
 exact⟨h1.trans h3,h2.trans h4⟩
theorem pM{k:Nat}(b:Nat)(hk:k<64):dU b (k:Int)=b ||| 2^k:=by
 unfold dU;rw[if_pos (by omega),Int.toNat_natCast]
theorem tG{k:Nat}(b:Nat)(hk:k<64):wS b (k:Int)=b ^^^ (b &&& 2^k):=by
 unfold wS;rw[if_pos (by omega),Int.toNat_natCast]
theorem oF{k:Nat}(b:Nat)(hk:k<64):rO b (k:Int)=gA b k:=by
 unfold rO;rw[Int.toNat_natCast,Nat.min_eq_left (by omega)]
theorem qP{k:Nat}(b:Nat)(hk:k<64):qD b (k:Int)=b.testBit k:=by
 rw[sZ b (by omega) (by omega),Int.toNat_natCast]
theorem Yd{b k:Nat}{xs:List Int}{r:Int}(h:BV b xs)(hk:k<64)(hb:qD b (k:Int)=false)(hr:1<=r):Be (gN b xs k r) 64=dU b (k:Int)/\qF (gN b xs k r) 64=wI xs (rO b (k:Int)) r:=by
 rw[qP b hk] at hb
 rw[pM b hk,oF b hk]
 unfold gN
 rw[if_pos (by omega)]
 exact of_eq (Ge h hk hb hr)
theorem Xl{b k:Nat}{xs:List Int}{r:Int}(h:BV b xs)(hk:k<64)(hb:qD b (k:Int)=true)(hr:1<=r):Be (gN b xs k r) 64=b/\qF (gN b xs k r) 64=qT xs (rO b (k:Int)) r:=by
 rw[qP b hk] at hb
 rw[oF b hk]
 unfold gN
 rw[if_pos (by omega)]
 exact of_eq (S4 h hk hb hr)
theorem Ys{b k:Nat}{xs:List Int}(h:BV b xs)(hk:k<64)(hb:qD b (k:Int)=true):Be (gN b xs k 0) 64=wS b (k:Int)/\qF (gN b xs k 0) 64=sG xs (rO b (k:Int)):=by
 rw[qP b hk] at hb
 rw[tG b hk,oF b hk]
 unfold gN
 rw[if_neg (by omega)]
 exact of_eq (R4 h hk hb)
section
variable{n:Nd}{xs:List Int}{ys:List Pr}{w:World}{b:Nat}
theorem Ap{i:Int}(h:(L5 n xs ys b i).isSome=true):CV n xs ys/\qD b i=true:=by
 unfold L5 at h
 split at h
 ·assumption
 ·cases h
theorem Gw{i:Int}(h:(L5 n xs ys b i).isSome=false)(hcv:CV n xs ys):qD b i=false:=by
 unfold L5 at h
 split at h
 ·cases h
 ·rename_i hn
  cases hh:qD b i with
  | false=>rfl
  | true=>exact absurd ⟨hcv,hh⟩ hn
theorem I4(i r:Int)(hb:n.bm=(b:Int))(hb2:b<18446744073709551616)(hr:rY w n xs ys):Calls Tryz.prog 249 #[n.v,.int .i64 i,.int .i64 r] w (Ya w (n6 n xs ys b i r)):=by
 refine enter Tryz.func249 Tryz.ntmps249 rfl rfl (SF.s2 hr.br hr.pr) ?_
 simp only[cC]
 simp only[Nd.v,Nd.cells]
 refine J0 ?_;refine bM (λ x3=>?_);refine aK (λ x6=>?_);refine jF ?_;refine Dn ?_;refine aQ (cV (hc:=λ w1 hw=>oE (n:=n) i hb hb2 (hr.gG hw.done))) (λ x13=>?_);refine aA ?_;refine aC (jJ rf rfl) rfl ?_;refine aC (jJ rf rfl) rfl ?_;refine J8 ?_;refine nI ?_;refine aD (c0 (V:=.bool) (hc:=λ w1 hw=>jt (n:=n) hb hb2 (hr.gG hw.done))) (λ x17 h17=>?_);refine Dg ?_
 (refine eJ 19 (λ g19=>?_) (λ g19=>?_)<;>refine Ka0 ?_)
 all_goals (refine Kb0 ?_)
 all_goals (first|refine aI ?_|(refine eJ 22 (λ g22=>?_) (λ g22=>?_)<;>refine Ka0 ?_))
 all_goals (refine uv ?_;refine aA ?_)
 all_goals (first|refine aI ?_|(refine eJ 26 (λ g26=>?_) (λ g26=>?_)<;>refine Ka0 ?_))
 all_goals (refine Am ?_;refine aA ?_)
 all_goals (first|refine aI ?_|(refine eJ 30 (λ g30=>?_) (λ g30=>?_)<;>refine Ka0 ?_))
 all_goals (refine uv ?_;refine aH ?_)
 all_goals
 refine bC (λ c33=>?_) (λ c33=>?_)
 ·all_goals (refine J0 ?_;refine bN ?_;refine Br ?_)
  all_goals
   refine bE Tryz.results249 (λ w hw=>?_)
   rw[show n6 n xs ys b i r=none from if_neg (by rintro ⟨k1,⟨k2,k3⟩,k4,k5⟩;clear hw;first|omega|exact absurd (Ap g22).2 (by simp[k5])|exact absurd (h17.2 k1) (by simp_all))];exact⟨(none,0),rfl,Nat.le_refl _,(hw.Mx none).fin⟩
 ·try exact nv c33
  all_goals
   have hcv:=h17.1 (by simpa using g19)
   have hh:=Gw g22 hcv
   obtain⟨k,rfl⟩:=Int.eq_ofNat_of_zero_le (show 0<=i by omega)
   have hk:=Yd (hcv.bv hb hb2) (k:=k) (by omega) hh (r:=r) (by omega)
  all_goals (refine aZ ?_;refine nI ?_;refine pK ?_;refine aD (cF (hc:=λ w1 hw=>by have:=Lm (w:=w1) k r (by omega) hcv hb hb2 (hr.gG hw.done);rw[hk.1,hk.2] at this;exact this)) (λ x38 h38=>?_);refine Br ?_)
  all_goals
   refine bE Tryz.results249 (λ w hw=>?_)
   rw[show n6 n xs ys b (k:Int) r=some (dU b (k:Int),wI xs (rO b (k:Int)) r) from if_pos ⟨hcv,⟨by omega,by omega⟩,by omega,hh⟩];exact⟨x38,rfl,h38,hw.fin⟩
theorem L3(i r:Int)(hb:n.bm=(b:Int))(hb2:b<18446744073709551616)(hr:rY w n xs ys):Calls Tryz.prog 220 #[n.v,.int .i64 i,.int .i64 r] w (Ya w (oa n xs ys b i r)):=by
 refine enter Tryz.func220 Tryz.ntmps220 rfl rfl (SF.s2 hr.br hr.pr) ?_
 simp only[cC]
 simp only[Nd.v,Nd.cells]
 refine J0 ?_;refine bM (λ x3=>?_);refine aK (λ x6=>?_);refine jF ?_;refine Dn ?_;refine aQ (cV (hc:=λ w1 hw=>oE (n:=n) i hb hb2 (hr.gG hw.done))) (λ x13=>?_);refine aA ?_;refine aC (jJ rf rfl) rfl ?_;refine aC (jJ rf rfl) rfl ?_;refine J8 ?_;refine J2 ?_;refine Dg ?_
 (refine eJ 18 (λ g18=>?_) (λ g18=>?_)<;>refine Ka0 ?_)
 all_goals (refine uv ?_;refine aH ?_)
 all_goals
 refine bC (λ c21=>?_) (λ c21=>?_)
 ·all_goals (refine J0 ?_;refine bN ?_;refine Br ?_)
  all_goals
   refine bE Tryz.results220 (λ w hw=>?_)
   rw[show oa n xs ys b i r=none from if_neg (by rintro ⟨k1,k4,k5⟩;clear hw;first|omega|exact absurd (Gw (by simpa using g18) k1) (by simp[k5]))];exact⟨(none,0),rfl,Nat.le_refl _,(hw.Mx none).fin⟩
 ·try exact nv c21
  all_goals
   have hc:=Ap (by simpa using g18)
   have hcv:=hc.1
   have hh:=hc.2
   obtain⟨q1,q2,_,_⟩:=sJ hh
   obtain⟨k,rfl⟩:=Int.eq_ofNat_of_zero_le q1
   have hk:=Xl (hcv.bv hb hb2) (k:=k) (by omega) hh (r:=r) (by omega)
  all_goals (refine aZ ?_;refine nI ?_;refine pK ?_;refine aD (cF (hc:=λ w1 hw=>by have:=Lm (w:=w1) k r (by omega) hcv hb hb2 (hr.gG hw.done);rw[hk.1,hk.2] at this;exact this)) (λ x26 h26=>?_);refine Br ?_)
  all_goals
   refine bE Tryz.results220 (λ w hw=>?_)
   rw[show oa n xs ys b (k:Int) r=some (b,qT xs (rO b (k:Int)) r) from if_pos ⟨hcv,by omega,hh⟩];exact⟨x26,rfl,h26,hw.fin⟩
theorem Nj(i:Int)(hb:n.bm=(b:Int))(hb2:b<18446744073709551616)(hr:rY w n xs ys):Calls Tryz.prog 252 #[n.v,.int .i64 i] w (Ya w (ob n xs ys b i)):=by
 refine enter Tryz.func252 Tryz.ntmps252 rfl rfl (SF.s2 hr.br hr.pr) ?_
 simp only[cC]
 simp only[Nd.v,Nd.cells]
 refine J0 ?_;refine bM (λ x2=>?_);refine aK (λ x4=>?_);refine jF ?_;refine Dn ?_;refine aQ (cV (hc:=λ w1 hw=>oE (n:=n) i hb hb2 (hr.gG hw.done))) (λ x11=>?_);refine aA ?_;refine aC (jJ rf rfl) rfl ?_;refine aC (jJ rf rfl) rfl ?_;refine J8 ?_;refine J2 ?_;refine oV ?_
 refine bC (λ c15=>?_) (λ c15=>?_)
 ·refine J0 ?_;refine bN ?_;refine Br ?_
  refine bE Tryz.results252 (λ w hw=>?_)
  rw[show ob n xs ys b i=none from if_neg (by rintro ⟨k1,k5⟩;clear hw;exact absurd (Gw c15 k1) (by simp[k5]))];exact⟨(none,0),rfl,Nat.le_refl _,(hw.Mx none).fin⟩
 ·have hc:=Ap c15
  have hcv:=hc.1
  have hh:=hc.2
  obtain⟨q1,q2,_,_⟩:=sJ hh
  obtain⟨k,rfl⟩:=Int.eq_ofNat_of_zero_le q1
  have hk:=Ys (hcv.bv hb hb2) (k:=k) (by omega) hh
  refine aZ ?_;refine Dn ?_;refine aD (cF (hc:=λ w1 hw=>by have:=Lm (w:=w1) k 0 (by omega) hcv hb hb2 (hr.gG hw.done);rw[hk.1,hk.2] at this;exact this)) (λ x19 h19=>?_);refine Br ?_
  refine bE Tryz.results252 (λ w hw=>?_)
  rw[show ob n xs ys b (k:Int)=some (wS b (k:Int),sG xs (rO b (k:Int))) from if_pos ⟨hcv,hh⟩];exact⟨x19,rfl,h19,hw.fin⟩
end
end
end Go.Proofs.YtbajmaoegmbfgaaGreat
namespace Go.Ct
section
def bQ(n:Nv):Prop:=n.kind=3∨n.kind=5∨n.kind=6
instance (n:Nv):Decidable (bQ n):=by unfold bQ;exact inferInstance
def rJ(N:List Nv)(cs:List Int)(c:Int):Int:=if(aS N (aW cs c)).kind=8 then(if aW cs (aS N (aW cs c)).status=1 then(aS N (aW cs c)).new else(aS N (aW cs c)).bJ) else aW cs c
def kC(N:List Nv)(cs:List Int)(c:Int):Option Int:=if(aS N (rJ N cs c)).kind=2 then some (rJ N cs c) else none
def sM(N:List Nv)(cs:List Int)(i:Int):Int:=aW cs (aS N i).main
def mK(N:List Nv)(cs:List Int)(i:Int):Int:=aW cs (aS N (sM N cs i)).prev
def yO(N:List Nv)(cs:List Int)(i:Int):Int:=if(aS N (mK N cs i)).kind=7 then(aS N (mK N cs i)).bJ else mK N cs i
def fV(N:List Nv)(cs:List Int)(i:Int):Option Int :=
 if(aS N i).kind=2/\bQ (aS N (sM N cs i)) then
  if mK N cs i=0 then some (sM N cs i) else if bQ (aS N (yO N cs i)) then some (yO N cs i) else none
 else none
def o7(v:Nv):List Pr:=if v.kind=5 then [(v.key,v.val)] else if v.kind=6 then v.ys else []
theorem Bq{N:List Nv}{cs:List Int}{i m:Int}(h:fV N cs i=some m):(aS N i).kind=2/\bQ (aS N m):=by
 unfold fV at h
 split at h
 ·rename_i h1
  split at h
  ·cases h;exact h1
  split at h
  ·cases h;exact⟨h1.1,by assumption⟩
  ·cases h
 ·cases h
theorem dJ{N:List Nv}{i:Int}(h:(aS N i).kind≠0):1<=i/\i<=N.length:=by
 unfold aS at h
 split at h
 ·assumption
 ·exact absurd rfl h
end
section
theorem aBN{L1 L2:List aP}(h:L1.length=L2.length):L1.map aP.c=L2.map aP.c↔∀i,i<L1.length->(L1.getD i aP.zero).c=(L2.getD i aP.zero).c:=by
 constructor
 ·intro e i hi
  have h1:(L1.map aP.c)[i]?=(L2.map aP.c)[i]?:=by rw[e]
  rw[List.getElem?_map,List.getElem?_map,List.getElem?_eq_getElem hi,List.getElem?_eq_getElem (h▸hi)] at h1
  rw[iM,iM,List.getElem?_eq_getElem hi,List.getElem?_eq_getElem (h▸hi)]
  simpa using h1
 ·intro e
  refine List.ext_getElem? λ i=>?_
  rw[List.getElem?_map,List.getElem?_map]
  by_cases hi:i<L1.length
  ·have h1:=e i hi
   rw[iM,iM,List.getElem?_eq_getElem hi,List.getElem?_eq_getElem (h▸hi)] at h1
   rw[List.getElem?_eq_getElem hi,List.getElem?_eq_getElem (h▸hi)]
   simpa using h1
  ·rw[List.getElem?_eq_none (by omega),List.getElem?_eq_none (by omega)]
end
end Go.Ct
namespace Go.Proofs.YtbajmaoegmbfgaaGreat
open Go.RowKit Go.Ct
section
end
end Go.Proofs.YtbajmaoegmbfgaaGreat
namespace Go.Ct
section
def Nv.nd(v:Nv):Nd:=⟨v.kind,v.gen,v.main,v.bm,none,v.xs.length,0,v.hash,v.key,v.val,none,v.ys.length,0,v.prev,v.bJ,v.exp,v.new,v.status⟩
def Nv.dv(v:Nv):aP:=⟨v.nd,v.xs,v.ys⟩
theorem Nv.aCx(v:Nv):v.dv.c=v:=rfl
theorem w8(N:List Nv):(N.map Nv.dv).map aP.c=N:=by
 rw[List.map_map]
 exact(List.map_congr_left (λ v _=>Nv.aCx v)).trans (List.map_id N)
theorem Lv{n:Nd}{xs:List Int}{ys:List Pr}:cA n xs ys↔cA (n.c xs ys).nd xs ys:=by
 have e:rQ n n.own xs (n.jV xs) ys (n.iV ys)↔rQ (n.c xs ys).nd (n.c xs ys).nd.own xs ((n.c xs ys).nd.jV xs) ys ((n.c xs ys).nd.iV ys):=by
  rw[Ao,Ao]
  have e1:n.own.c (n.jV xs) (n.iV ys)=(n.c xs ys).nd.own.c ((n.c xs ys).nd.jV xs) ((n.c xs ys).nd.iV ys):=by
   have hx:(n.c xs ys).nd.jV xs=n.jV xs:=rfl
   have hy:(n.c xs ys).nd.iV ys=n.iV ys:=rfl
   have hk:(n.c xs ys).nd.kind=n.kind:=rfl
   rw[hx,hy]
   unfold Nd.own
   rw[hk]
   repeat' split
   all_goals rfl
  rw[e1]
  exact Iff.rfl
 unfold cA
 rw[e]
 exact Iff.rfl
theorem yg{gen:Int}{n:Nat}{u v:aP}(h:u.c=v.c)(hu:lO gen n u):lO gen n v:=by
 have key:∀v:aP,lO gen n v↔lO gen n v.c.dv:=λ v=>by
  unfold lO
  rw[Lv (n:=v.nd)]
  exact Iff.rfl
 rw[key,<- h,<- key]
 exact hu
theorem qw{m:Nat}{L1 L2:List aP}(h:L1.map aP.c=L2.map aP.c):marks m L1=marks m L2:=by
 have key:∀L:List aP,marks m L=(L.map aP.c).foldl (λ u c=>eP u c.nd) (some (List.replicate m false)):=λ L=>by
  unfold marks
  rw[List.foldl_map]
  rfl
 rw[key,key,h]
theorem X2{L1 L2:List aP}{cs:List Int}{gen:Int}(h:L1.map aP.c=L2.map aP.c)(hp:gC L1 cs gen):gC L2 cs gen:=by
 have hl:L1.length=L2.length:=by simpa using congrArg List.length h
 have hi:=(aBN hl).1 h
 have h2:=hp.two
 refine⟨by omega,hp.gen0,?_,?_,λ i h=>by have:=hp.cells i h;rwa [hl] at this,λ i h=>?_,by rw[<- qw h];exact hp.marks⟩
 ·have:=congrArg Nv.kind (hi 0 (by omega))
  exact this.symm.trans hp.m0
 ·have:=congrArg Nv.kind (hi 1 (by omega))
  exact this.symm.trans hp.m1
 ·have:=hp.nodes i (by omega)
  rw[<- hl]
  exact yg (hi i (by omega)) this
def dY(N:List Nv)(cs:List Int)(gen:Int):Prop:=gC (N.map Nv.dv) cs gen
theorem dY.to{N:List Nv}{cs:List Int}{gen:Int}(h:dY N cs gen){L:List aP}(hl:L.map aP.c=N):gC L cs gen:=X2 (by rw[w8,hl]) h
theorem dY.push{N:List Nv}{cs:List Int}{gen init:Int}{n:Nv}(h:dY N cs gen)(hv:lO gen (N.length+1) (cK n cs.length).dv)(hi:Cn init N.length):dY (N++[cK n cs.length]) (eU n.kind cs init) gen:=by
 have hm:(N.map Nv.dv).length=N.length:=by simp
 have:=Od (v:=(cK n cs.length).dv) (k:=n.kind) (init:=init) h (by rw[hm];exact hv) (by rw[hm];exact hi) (by
  have e:(cK n cs.length).dv.nd.kind=n.kind:=rfl
  unfold gD eU
  rw[e]
  by_cases h2:n.kind=2
  ·right
   rw[if_pos h2,if_pos (.inl h2)]
   exact⟨by show some (if n.kind=2 then _ else _)=_;rw[if_pos h2],rfl⟩
  rw[if_neg h2]
  by_cases h3:n.kind=3∨n.kind=5∨n.kind=6
  ·right
   rw[if_pos h3,if_pos (by omega)]
   exact⟨by show some (if n.kind=3∨n.kind=5∨n.kind=6 then _ else _)=_;rw[if_pos h3],rfl⟩
  rw[if_neg h3]
  by_cases h8:n.kind=8
  ·right
   rw[if_pos h8,if_pos (by omega)]
   exact⟨by show some (if n.kind=8 then _ else _)=_;rw[if_pos h8],rfl⟩
  ·left
   rw[if_neg h8,if_neg (by omega)]
   exact⟨rfl,rfl⟩)
 unfold dY
 rw[List.map_append]
 exact this
theorem dY.cell{N:List Nv}{cs:List Int}{gen init:Int}(h:dY N cs gen)(hi:Cn init N.length):dY N (cs++[init]) gen:=by
 have hm:(N.map Nv.dv).length=N.length:=by simp
 refine⟨h.two,h.gen0,h.m0,h.m1,λ i hi'=>?_,h.nodes,?_⟩
 ·rw[iM]
  rw[List.length_append,List.length_cons,List.length_nil] at hi'
  by_cases hl:i<cs.length
  ·rw[List.getElem?_append_left hl,<- iM]
   exact h.cells i hl
  ·rw[List.getElem?_append_right (by omega),show i-cs.length=0 by omega,hm]
   exact hi
 ·have key:∀(l:List aP) (m:Nat) (u:List Bool),l.foldl (λ u v=>eP u v.nd) (some u)≠none->l.foldl (λ u v=>eP u v.nd) (some (u++[false]))≠none:=by
   intro l
   induction l with
   | nil=>intro _ u _ h;cases h
   | cons v l ih =>
    intro m u hu
    rw[List.foldl_cons] at hu ⊢
    have hnone:∀l:List aP,l.foldl (λ u v=>eP u v.nd) none=none:=λ l=>by
     induction l with
     | nil=>rfl
     | cons v l ih=>exact ih
    cases hc:gD v.nd with
    | none =>
     rw[show eP (some u) v.nd=some u by simp[eP,hc]] at hu
     rw[show eP (some (u++[false])) v.nd=some (u++[false]) by simp[eP,hc]]
     exact ih m u hu
    | some c =>
     by_cases hc3:1<=c/\c<=u.length/\u.getD (c-1).toNat false=false
     ·obtain⟨c1,c2,c3⟩:=hc3
      have hlt:(c-1).toNat<u.length:=by omega
      have e1:(u++[false]).getD (c-1).toNat false=u.getD (c-1).toNat false:=by
       rw[iM,iM,List.getElem?_append_left hlt]
      have e2:eP (some u) v.nd=some (u.set (c-1).toNat true):=by
       show(match gD v.nd with|none=>_|some c=>_)=_
       rw[hc]
       exact if_pos ⟨c1,c2,c3⟩
      have e3:eP (some (u++[false])) v.nd=some (u.set (c-1).toNat true++[false]):=by
       show(match gD v.nd with|none=>_|some c=>_)=_
       rw[hc,<- List.set_append_left _ _ hlt]
       exact if_pos ⟨c1,by rw[List.length_append,List.length_cons,List.length_nil];omega,by rw[e1];exact c3⟩
      rw[e2] at hu
      rw[e3]
      exact ih m _ hu
     ·have e2:eP (some u) v.nd=none:=by
       show(match gD v.nd with|none=>_|some c=>_)=_
       rw[hc]
       exact if_neg hc3
      rw[e2,hnone] at hu
      exact absurd rfl hu
  have:=key (N.map Nv.dv) 0 (List.replicate cs.length false) h.marks
  unfold marks
  rw[List.length_append,List.length_cons,List.length_nil,List.replicate_succ']
  exact this
end
end Go.Ct
namespace Go.Proofs.YtbajmaoegmbfgaaGreat
open Go.RowKit Go.Ct
section
theorem aBp{n:Nd}{xs:List Int}{ys:List Pr}:CV n xs ys↔CV (n.c xs ys).nd xs ys:=by
 unfold CV
 rw[Lv (n:=n)]
 exact Iff.rfl
theorem aCF{n:Nd}{xs:List Int}{ys:List Pr}:LV n xs ys↔LV (n.c xs ys).nd xs ys:=by
 unfold LV
 rw[Lv (n:=n)]
 exact Iff.rfl
theorem ad{n:Nd}{xs:List Int}{ys:List Pr}:CV (n.c xs ys).nd (n.c xs ys).xs (n.c xs ys).ys=CV n xs ys:=propext aBp.symm
theorem aA9{n:Nd}{xs:List Int}{ys:List Pr}:LV (n.c xs ys).nd (n.c xs ys).xs (n.c xs ys).ys=LV n xs ys:=propext aCF.symm
def Dr(b:Nat)(xs:List Int):Nv:=(cn b xs (none,0)).c xs []
noncomputable def lA (v:Nv) (i:Int):Option Int:=L5 v.nd v.xs v.ys v.bm.toNat i
noncomputable def Lr (v:Nv):Option Int:=Zt v.nd v.xs v.ys
def It(o:Option (Nat×List Int)):Nv:=match o with|some q=>Dr q.1 q.2|none=>Nv.zero
noncomputable def xn (v:Nv) (i r:Int):Nv:=It (n6 v.nd v.xs v.ys v.bm.toNat i r)
noncomputable def Tn (v:Nv) (i r:Int):Nv:=It (oa v.nd v.xs v.ys v.bm.toNat i r)
noncomputable def Ny (v:Nv) (i:Int):Nv:=It (ob v.nd v.xs v.ys v.bm.toNat i)
def tmV(s:Nv):Nv:=(tmb s.nd).c [] []
noncomputable def xj (v:Nv) (level:Int) (s:Nv):Nv:=if S6 v.nd v.xs v.ys level s.nd=true then tmV s else v
def unV(v:Nv):Nv:=(Hz v.nd).c [] []
noncomputable def yf (v:Nv) (k:ByteArray) (u:Int):Nv:=(cr (kY v.nd v.xs v.ys k u) v.hash (none,0)).c [] (Zo (kY v.nd v.xs v.ys k u))
noncomputable def sj (v:Nv) (k:ByteArray):Nv:=(N4 (qC v.nd v.xs v.ys k) v.hash (none,0)).c [] (Ij (qC v.nd v.xs v.ys k))
section
variable{n s:Nd}{xs:List Int}{ys:List Pr}{b:Nat}
theorem aBM(hb:n.bm=(b:Int))(i:Int):L5 n xs ys b i=lA (n.c xs ys) i:=by
 have e:(n.c xs ys).bm.toNat=b:=by show n.bm.toNat=b;omega
 unfold lA L5
 rw[e]
 rw[ad (n:=n)]
 rfl
theorem xv:Zt n xs ys=Lr (n.c xs ys):=by
 unfold Lr Zt
 rw[ad (n:=n)]
 rfl
theorem Hu(o:Option (Nat×List Int))(x:Option Addr×Nat):(mY o x).c (mP o) []=It o:=by cases o<;>rfl
theorem aCy(hb:n.bm=(b:Int))(i r:Int):It (n6 n xs ys b i r)=xn (n.c xs ys) i r:=by
 have e:(n.c xs ys).bm.toNat=b:=by show n.bm.toNat=b;omega
 unfold xn n6
 rw[e]
 rw[ad (n:=n)]
 rfl
theorem aB0(hb:n.bm=(b:Int))(i r:Int):It (oa n xs ys b i r)=Tn (n.c xs ys) i r:=by
 have e:(n.c xs ys).bm.toNat=b:=by show n.bm.toNat=b;omega
 unfold Tn oa
 rw[e]
 rw[ad (n:=n)]
 rfl
theorem aBq(hb:n.bm=(b:Int))(i:Int):It (ob n xs ys b i)=Ny (n.c xs ys) i:=by
 have e:(n.c xs ys).bm.toNat=b:=by show n.bm.toNat=b;omega
 unfold Ny ob
 rw[e]
 rw[ad (n:=n)]
 rfl
theorem aCz(level:Int):(w6 (S6 n xs ys level s) n s).c (n9 (S6 n xs ys level s) xs) (n9 (S6 n xs ys level s) ys)=xj (n.c xs ys) level (s.c [] []):=by
 have e:S6 (n.c xs ys).nd xs ys level (s.c [] []).nd=S6 n xs ys level s:=by
  unfold S6
  rw[xv (n:=n)]
  rfl
 have e':S6 (n.c xs ys).nd (n.c xs ys).xs (n.c xs ys).ys level (s.c [] []).nd=S6 n xs ys level s:=e
 unfold xj w6 n9
 rw[e']
 split<;>rfl
theorem aBu:(Hz n).c [] []=unV (n.c xs ys):=by
 unfold unV Hz
 show _=Nd.c (if n.kind=5 then _ else _) _ _
 split<;>rfl
theorem aCi(k:ByteArray)(u:Int)(x:Option Addr×Nat):(cr (kY n xs ys k u) n.hash x).c [] (Zo (kY n xs ys k u))=yf (n.c xs ys) k u:=by
 have e':kY (n.c xs ys).nd (n.c xs ys).xs (n.c xs ys).ys k u=kY n xs ys k u:=by unfold kY;rw[aA9 (n:=n)];rfl
 unfold yf
 rw[e']
 cases kY n xs ys k u<;>rfl
theorem aCA(k:ByteArray)(x:Option Addr×Nat):(N4 (qC n xs ys k) n.hash x).c [] (Ij (qC n xs ys k))=sj (n.c xs ys) k:=by
 have e':qC (n.c xs ys).nd (n.c xs ys).xs (n.c xs ys).ys k=qC n xs ys k:=by unfold qC;rw[aA9 (n:=n)];rfl
 unfold sj
 rw[e']
 cases qC n xs ys k with
 | none=>rfl
 | some m=>unfold N4;simp only[Ij];split<;>rfl
end
end
end Go.Proofs.YtbajmaoegmbfgaaGreat
namespace Go.Ct
open Go Go.RowKit
section
def sl(h l:Nat):Nat:=(h >>> (6*l))%64
theorem yM(h l:Nat):sl h l<64:=Nat.mod_lt _ (by decide)
theorem Nh(h j:Nat):(h >>> (6*j))/64=h >>> (6*(j+1)):=by
 rw[show 6*(j+1)=6*j+6 by omega,Nat.shiftRight_add,Nat.shiftRight_eq_div_pow (h >>> (6*j)) 6]
def Fb(h k:Nat):Nat->Nat->Nat
 | 0,l=>l
 | n+1,l=>if sl h l=sl k l then Fb h k n (l+1) else l
def lE(h k:Nat):Nat:=Fb h k 11 0
theorem xB(h k:Nat):∀n l,l<=Fb h k n l/\Fb h k n l<=l+n/\(∀i,l<=i->i<Fb h k n l->sl h i=sl k i)/\(Fb h k n l<l+n->sl h (Fb h k n l)≠sl k (Fb h k n l))
 | 0,l=>⟨Nat.le_refl _,Nat.le_refl _,λ i h1 h2=>absurd h2 (by simp only[Fb];omega),λ h=>absurd h (by simp only[Fb];omega)⟩
 | n+1,l=>by
  simp only[Fb]
  split
  ·rename_i he
   obtain⟨h1,h2,h3,h4⟩:=xB h k n (l+1)
   refine⟨by omega,by omega,λ i hi hi2=>?_,λ hlt=>h4 (by omega)⟩
   rcases Nat.lt_or_eq_of_le hi with hi|rfl
   ·exact h3 i (by omega) hi2
   ·exact he
  ·rename_i he
   exact⟨Nat.le_refl _,by omega,λ i h1 h2=>absurd h2 (by omega),λ _=>he⟩
theorem zK(h k:Nat):lE h k<=11:=by have:=(xB h k 11 0).2.1;unfold lE;omega
theorem Sf{h k i:Nat}(hi:i<lE h k):sl h i=sl k i:=(xB h k 11 0).2.2.1 i (Nat.zero_le _) hi
theorem Lx{h k:Nat}(hc:lE h k<11):sl h (lE h k)≠sl k (lE h k):=(xB h k 11 0).2.2.2 (by unfold lE at hc;omega)
theorem xl{h k l:Nat}(hl:l<=11)(h1:∀i,i<l->sl h i=sl k i)(h2:l<11->sl h l≠sl k l):l=lE h k:=by
 rcases Nat.lt_trichotomy l (lE h k) with h3|h3|h3
 ·exact absurd (Sf h3) (h2 (by have:=zK h k;omega))
 ·exact h3
 ·exact absurd (h1 _ h3) (Lx (by omega))
theorem aAc{P:Program}{S:List (Nat×Value)}{G:World->Prop}{d:Nat}{ty t t':TypeId}{pos:String}{af:Array Edge}{gd:Option (Nat×Bool)}{x y:Operand}{a b:Nat}(hx:ev S x=.int .u64 (a:Int))(hy:ev S y=.int .u64 (b:Int))(h0:b≠0)(ha:a<18446744073709551616):aL P S G ⟨some d,.binOp .quo t x y t',ty,pos,af,gd⟩ (.int .u64 ((a/b:Nat):Int)):=⟨λ w _=>by
 have h1:((b:Nat):Int)≠0:=by omega
 have h2:(a:Int).tdiv (b:Int)=((a/b:Nat):Int):=by rw[Int.tdiv_eq_ediv_of_nonneg (by omega)];rfl
 have h3:IntKind.u64.wrap ((a/b:Nat):Int)=((a/b:Nat):Int):=by
  have h4:=Nat.div_le_self a b
  generalize a/b=q at h4 ⊢
  rw[wrap_u64]
  omega
 simp only[execOp,hx,hy,eqGuard_at_int,binOp,Op.intDiv]
 simp[h0,h2]
 exact h3⟩
section
variable{P:Program}{S:List (Nat×Value)}{G:World->Prop}{d:Nat}{ty t t':TypeId}{pos:String}{af:Array Edge}{gd:Option (Nat×Bool)}{x y:Operand}{a b i:Nat}{k':IntKind}
theorem ze(hx:ev S x=.int .u64 (a:Int))(hy:ev S y=.int .u64 (b:Int))(ha:a<18446744073709551616)(hb:b<18446744073709551616):aL P S G ⟨some d,.binOp .and t x y t',ty,pos,af,gd⟩ (.int .u64 ((a &&& b:Nat):Int)):=by
 have:=v8 (P:=P) (G:=G) (d:=d) (ty:=ty) (pos:=pos) (af:=af) (gd:=gd) (t:=t) (t':=t') hx hy
 rwa [qB ha hb] at this
theorem y4(hx:ev S x=.int .u64 (a:Int))(hy:ev S y=.int .u64 (b:Int))(h0:b≠0):aL P S G ⟨some d,.binOp .rem t x y t',ty,pos,af,gd⟩ (.int .u64 ((a%b:Nat):Int)):=by
 have:=bz (P:=P) (G:=G) (d:=d) (ty:=ty) (pos:=pos) (af:=af) (gd:=gd) (t:=t) (t':=t') hx hy (by omega)
 rwa [Int.tmod_eq_emod_of_nonneg (by omega),<- Int.natCast_emod] at this
end
end
end Go.Ct
namespace Go.Proofs.YtbajmaoegmbfgaaGreat
open Go.RowKit Go.Ct
section
theorem qK{h l:Nat}(hh:h<18446744073709551616)(hl:l<=10)(w:World):Calls Tryz.prog 218 #[.int .u64 (h:Int),.int .i64 (l:Int)] w λ e w'=>e=.returned (.int .i64 ((sl h l:Nat):Int))/\St w [] [] w':=by
 refine enter Tryz.func218 Tryz.ntmps218 rfl rfl (SF.s0 w) ?_
 simp only[cC]
 refine cX ?_;refine Kb6 ?_
 (refine Ka3 ?_)
 refine Ka6 ?_
 refine bC (λ c10=>?_) (λ c10=>?_)
 ·try (exfalso;omega)
 ·try (exfalso;omega)
  refine rX ?_
  refine iD [0,1,11,12,13,14,15,16] (λ y:Nat=>[(1,.int .i64 ((l-y:Nat):Int)),(0,.int .u64 ((h >>> (6*y):Nat):Int))]) (λ y=>y<=l) (λ y=>l-y) (0) (Nat.zero_le _) ?_ (λ y f hx=>?_)
  ·repeat (first|exact bI _|refine bD (by exact rfl) ?_)
  dsimp only[hY,List.map,List.cons_append,List.nil_append]
  refine kT ?_;refine Df ?_;refine aH ?_
  refine bC (λ c12=>?_) (λ c12=>?_)
  ·try (exfalso;omega)
   refine rX ?_;refine zG ?_;refine aQ (gJ (aAc (b:=64) rf rf (by decide) (Nat.lt_of_le_of_lt (Nat.shiftRight_le _ _) hh))) (λ x16=>?_);refine J1 ?_;refine fK ?_;refine zG ?_;refine rD ?_;refine J1 ?_
   refine fM (y+1) ?_ ?_ ?_
   ·omega
   ·repeat' (first|exact bI _|refine bD ?_ ?_)
    all_goals (first|exact rfl|(conv=>{lhs;whnf};rw[Nh];done))
   ·omega
  ·try (exfalso;omega)
   refine bP rfl ?_;refine J2 ?_;refine aC (y4 (b:=64) rf rf (by decide)) rfl ?_;refine nN ?_;refine J1 ?_
   refine aR Tryz.results218 (λ w hw=>?_)
   have hy:y=l:=by omega
   subst hy
   exact⟨rfl,hw.done⟩
theorem Rf{h k:Nat}(hh:h<18446744073709551616)(hk:k<18446744073709551616)(w:World):Calls Tryz.prog 260 #[.int .u64 (h:Int),.int .u64 (k:Int)] w λ e w'=>e=.returned (.int .i64 ((lE h k:Nat):Int))/\St w [] [] w':=by
 refine enter Tryz.func260 Tryz.ntmps260 rfl rfl (SF.s0 w) ?_
 simp only[cC]
 refine cX ?_;refine cX ?_;refine Cw ?_
 refine iD [5,6,7,8,9,10,11,12,13,14,15,16,17,18] (λ y:Nat=>[(5,.int .i64 ((y:Nat):Int))]) (λ y=>y<=11/\∀i,i<y->sl h i=sl k i) (λ y=>11-y) (0) (⟨Nat.zero_le _,λ i hi=>absurd hi (Nat.not_lt_zero i)⟩) ?_ (λ y f hx=>?_)
 ·repeat (first|exact bI _|refine bD (by exact rfl) ?_)
 dsimp only[hY,List.map,List.cons_append,List.nil_append]
 refine kT ?_;refine Bb ?_;refine aA ?_
 (refine eJ 8 (λ g8=>?_) (λ g8=>?_)<;>refine Ka0 ?_)
 all_goals (refine Ka0 ?_;(first|refine aI ?_|(refine aE ?_;refine aQ (cV (hc:=λ w1 hw=>qK (l:=y) hh (by omega) w1)) (λ x11=>?_)));refine Ka0 ?_;refine Ka0 ?_;(first|refine aI ?_|(refine aE ?_;refine aQ (cV (hc:=λ w1 hw=>qK (l:=y) hk (by omega) w1)) (λ x14=>?_)));refine wX ?_;refine aH ?_)
 all_goals
 refine bC (λ c16=>?_) (λ c16=>?_)
 ·try exact nv c16
  all_goals (refine aZ ?_;refine cS ?_;refine wN ?_;refine fK ?_)
  all_goals
   refine fM (y+1) ?_ ?_ ?_
   ·omega
   ·repeat' (first|exact bI _|refine bD ?_ ?_)
    exact rfl
   ·exact⟨by omega,λ i hi=>by rcases Nat.lt_succ_iff_lt_or_eq.1 hi with h|rfl;exact hx.2 i h;omega⟩
 ·all_goals try (exfalso;omega)
  all_goals (refine bP rfl ?_;refine Ka4 ?_)
  all_goals
   refine aR Tryz.results260 (λ w hw=>?_)
   exact⟨by rw[<- xl (h:=h) (k:=k) hx.1 hx.2 (λ _=>by omega)];rfl,hw.done⟩
end
end Go.Proofs.YtbajmaoegmbfgaaGreat
