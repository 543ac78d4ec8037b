/- Merged. -/
import Derived.Test.YtdeecdfockjoiaaGreatDoorGDu2
import Derived.Test.YtdeecdfockjoiaaGreatDoorGBr4
set_option linter.unusedSimpArgs false
set_option linter.unusedVariables false
namespace Go.Proofs.YtdeecdfockjoiaaGreatDoor
open Go Go.RowKit Go.Ct
section
structure VC(v:Nv)(b:Nat):Prop where
 cv:CV v.nd v.xs v.ys
 bm:v.bm=(b:Int)
 lt:b<18446744073709551616
theorem aCA{n:Nd}{xs:List Int}{ys:List Pr}{b k:Nat}(hcv:CV n xs ys)(hk:k<64):V5 n xs ys b (k:Int)=G8 b xs k:=by
 unfold V5 G8;rw[rX b hk];cases e:b.testBit k;·rw[if_neg (by simp)];simp
 ·rw[if_pos ⟨hcv,rfl⟩,oL b hk];simp
section
variable{v:Nv}{b i:Nat}{r:Int}
theorem VC.bv(h:VC v b):BV b v.xs:=h.cv.bv (n:=v.nd) h.bm h.lt
theorem VC.kd(h:VC v b):v.kind=3:=h.cv.1
theorem VC.nat(h:VC v b):v.bm.toNat=b:=by rw[h.bm];rfl
theorem VC.lk(h:VC v b){k:Nat}(hk:k<64):iU v (k:Int)=G8 b v.xs k:=by show V5 v.nd v.xs v.ys v.bm.toNat (k:Int)=_;rw[h.nat];exact aCA h.cv hk
theorem VC.pos(h:VC v b)(hk:i<64)(e:iU v (i:Int)=some r):1<=r:=by
 rw[h.lk hk] at e;unfold G8 at e;split at e
 ·injection e with e
  rw[<- e];exact h.bv.pos _ (by rw[h.bv.len];exact pY hk (by assumption))
 ·cases e
theorem VC.bit(h:VC v b)(hk:i<64):b.testBit i=(iU v (i:Int)).isSome:=by rw[h.lk hk];unfold G8;cases e:b.testBit i<;>simp
theorem Et{xs:List Int}(h:BV b xs)(c:Nat):VC (fY (Fq b xs) c) b:=⟨aDa.1 (xe h (none,0) (p:=((c+1:Nat):Int)) (by omega)),rfl,h.lt⟩
theorem Xj{v:Nv}(h:v.kind≠3)(i:Int):iU v i=none:=if_neg λ q=>h q.1.1
theorem aCD(h:VC v b)(hi:i<64)(hr:1<=r)(hn:iU v (i:Int)=none):(O0 v.nd v.xs v.ys v.bm.toNat (i:Int) r).isSome=true/\(az v (i:Int) r).kind=3/\∀c,∃b',VC (fY (az v (i:Int) r) c) b'/\∀k:Nat,k<64->iU (fY (az v (i:Int) r) c) (k:Int)=if k=i then some r else iU v (k:Int):=by
 have hb:b.testBit i=false:=by rw[h.bit hi,hn];rfl
 have e:O0 v.nd v.xs v.ys v.bm.toNat (i:Int) r=some (eI b (i:Int),tW v.xs (iD b (i:Int)) r):=by rw[h.nat];exact if_pos ⟨h.cv,⟨by omega,by omega⟩,hr,by rw[rX b hi];exact hb⟩
 have e2:az v (i:Int) r=Fq (eI b (i:Int)) (tW v.xs (iD b (i:Int)) r):=by unfold az;rw[e];rfl
 obtain⟨h1,h2⟩:=Ob h.bv hi hb hr;rw[e,e2,wJ b hi,oL b hi];refine⟨rfl,rfl,λ c=>⟨_,Et h1 c,λ k hk=>?_⟩⟩;rw[(Et h1 c).lk hk,h.lk hk];exact h2 k hk
theorem ia(h:VC v b)(hi:i<64)(hr:1<=r)(hn:(iU v (i:Int)).isSome=true):(Cy v.nd v.xs v.ys v.bm.toNat (i:Int) r).isSome=true/\(Cj v (i:Int) r).kind=3/\∀c,∃b',VC (fY (Cj v (i:Int) r) c) b'/\∀k:Nat,k<64->iU (fY (Cj v (i:Int) r) c) (k:Int)=if k=i then some r else iU v (k:Int):=by
 have hb:b.testBit i=true:=by rw[h.bit hi,hn]
 have e:Cy v.nd v.xs v.ys v.bm.toNat (i:Int) r=some (b,Ds v.xs (iD b (i:Int)) r):=by rw[h.nat];exact if_pos ⟨h.cv,hr,by rw[rX b hi];exact hb⟩
 have e2:Cj v (i:Int) r=Fq b (Ds v.xs (iD b (i:Int)) r):=by unfold Cj;rw[e];rfl
 obtain⟨h1,h2⟩:=eb h.bv hi hb hr;rw[e,e2,oL b hi];refine⟨rfl,rfl,λ c=>⟨_,Et h1 c,λ k hk=>?_⟩⟩;rw[(Et h1 c).lk hk,h.lk hk];exact h2 k hk
theorem aC8(h:VC v b)(hi:i<64)(hn:(iU v (i:Int)).isSome=true):(R4 v.nd v.xs v.ys v.bm.toNat (i:Int)).isSome=true/\∃b' xs',BV b' xs'/\uL v (i:Int)=Fq b' xs'/\∀k:Nat,k<64->G8 b' xs' k=if k=i then none else iU v (k:Int):=by
 have hb:b.testBit i=true:=by rw[h.bit hi,hn]
 have e:R4 v.nd v.xs v.ys v.bm.toNat (i:Int)=some (kG b (i:Int),D3 v.xs (iD b (i:Int))):=by rw[h.nat];exact if_pos ⟨h.cv,by rw[rX b hi];exact hb⟩
 have e2:uL v (i:Int)=Fq (kG b (i:Int)) (D3 v.xs (iD b (i:Int))):=by unfold uL;rw[e];rfl
 obtain⟨h1,h2⟩:=gq h.bv hi hb;rw[e,e2,A8 b hi,oL b hi];refine⟨rfl,_,_,h1,rfl,λ k hk=>?_⟩;rw[h.lk hk];exact h2 k hk
theorem aCN{xs:List Int}(h:BV b xs){r:Int}(e:uX (Fq b xs)=some r):∃k,k<64/\G8 b xs k=some r:=by
 unfold uX b9 at e;split at e
 ·rename_i hq;have hl:xs.length=1:=hq.2;injection e with e;have hc:=h.len;rw[hl] at hc
  obtain⟨k,hk,hb⟩:∃k,k<64/\b.testBit k=true:=by
   refine Classical.byContradiction λ hn=>?_;have:∀n,n<=64->jG b n=0:=λ n=>by
    induction n with
    | zero=>exact λ _=>rfl
    | succ n ih=>
     intro hn2;have:b.testBit n=false:=by
      cases e:b.testBit n;·rfl
      ·exact absurd ⟨n,by omega,e⟩ hn
     simp[jG,ih (by omega),this]
   rw[this 64 (Nat.le_refl _)] at hc;cases hc
  refine⟨k,hk,?_⟩;have:=pY hk hb;unfold G8;rw[if_pos hb,<- e];congr 1;show xs.getD (jG b k) 0=xs.getD 0 0
  rw[show jG b k=0 by omega]
 ·cases e
end
variable{cs:List Int}{c o n x:Int}
theorem Bx(h1:1<=c)(hc:c<=cs.length)(ho:aG cs c=o):aG (cU cs c o n) x=if x=c then n else aG cs x:=by
 obtain⟨a,rfl⟩:∃a:Nat,c=((a+1:Nat):Int):=⟨(c-1).toNat,by omega⟩;have ha:a<cs.length:=by omega
 rw[mZ ha] at ho;have e:cU cs ((a+1:Nat):Int) o n=cs.set a n:=by unfold cU;rw[if_pos ⟨by omega,by omega,by rw[<- ho];congr 1;omega⟩];congr 1;omega
 rw[e];by_cases hx:1<=x/\x<=cs.length
 ·obtain⟨b,rfl⟩:∃b:Nat,x=((b+1:Nat):Int):=⟨(x-1).toNat,by omega⟩;have hb:b<cs.length:=by omega
  rw[mZ (by rw[List.length_set];exact hb),mZ hb,Gp,Gp,List.getElem?_set];by_cases hab:a=b;·subst hab;rw[if_pos rfl,if_pos rfl,if_pos ha];rfl
  ·rw[if_neg hab,if_neg (by omega)]
 ·rw[pR (by rw[List.length_set];exact hx),pR hx,if_neg (by omega)]
theorem aAt(ho:aG cs c≠o)(h1:1<=c)(hc:c<=cs.length):cU cs c o n=cs/\Jx cs c o=false:=by
 obtain⟨a,rfl⟩:∃a:Nat,c=((a+1:Nat):Int):=⟨(c-1).toNat,by omega⟩;have ha:a<cs.length:=by omega
 rw[mZ ha] at ho;have e:¬(1<=((a+1:Nat):Int)/\((a+1:Nat):Int)<=cs.length/\cs.getD (((a+1:Nat):Int)-1).toNat 0=o):=λ q=>ho (by rw[<- q.2.2];congr 1;omega);exact⟨if_neg e,decide_eq_false e⟩
theorem Ya(ho:aG cs c=o)(h1:1<=c)(hc:c<=cs.length):Jx cs c o=true:=by
 obtain⟨a,rfl⟩:∃a:Nat,c=((a+1:Nat):Int):=⟨(c-1).toNat,by omega⟩;have ha:a<cs.length:=by omega
 rw[mZ ha] at ho;exact decide_eq_true ⟨by omega,by omega,by rw[<- ho];congr 1;omega⟩
theorem eg(hc:c<=cs.length):aG (cs++[x]) c=aG cs c:=by
 by_cases h1:1<=c
 ·obtain⟨a,rfl⟩:∃a:Nat,c=((a+1:Nat):Int):=⟨(c-1).toNat,by omega⟩;have ha:a<cs.length:=by omega
  rw[mZ ha,mZ (by rw[List.length_append];omega),Gp,Gp,List.getElem?_append_left ha]
 ·rw[pR (by omega),pR (by omega)]
theorem sE(cs:List Int)(x:Int):aG (cs++[x]) ((cs.length+1:Nat):Int)=x:=by rw[mZ (by simp),Gp,List.getElem?_append_right (Nat.le_refl _)];simp
theorem kC(L:List Nv)(v:Nv):aD (L++[v]) ((L.length+1:Nat):Int)=v:=by unfold aD;rw[if_pos ⟨by omega,by rw[List.length_append];simp⟩,Gp,List.getElem?_append_right (by omega)];simp
theorem jL{k:Int}{i:Int}(hc:c<=cs.length):aG (gH k cs i) c=aG cs c:=by
 unfold gH;split;·exact eg hc
 ·rfl
structure M4(s:Mm):Prop where
 i:∀r:Int,1<=r->r<=s.nodes.length->(aD s.nodes r).kind=2->(aD s.nodes r).prev=0/\1<=(aD s.nodes r).main/\(aD s.nodes r).main<=s.cs.length/\(aD s.nodes r).main≠3
 m:∀r:Int,1<=r->r<=s.nodes.length->(aD s.nodes r).kind≠2->(aD s.nodes r).main=0/\0<=(aD s.nodes r).prev/\(aD s.nodes r).prev<=s.cs.length/\(aD s.nodes r).prev≠3/\((aD s.nodes r).kind=3∨(aD s.nodes r).kind=5∨(aD s.nodes r).kind=6->1<=(aD s.nodes r).prev)
 d:∀r t:Int,1<=r->r<t->t<=s.nodes.length->(aD s.nodes t).main+(aD s.nodes t).prev≠0->(aD s.nodes r).main+(aD s.nodes r).prev<(aD s.nodes t).main+(aD s.nodes t).prev
 c:3<=s.cs.length
theorem M4.up{s s2:Mm}(h:M4 s)(e:s2.nodes=s.nodes)(el:s2.cs.length=s.cs.length):M4 s2:=by obtain⟨n2,c2,g2,p2⟩:=s2;dsimp only at e el;subst e;exact⟨λ r a b=>by show _->_/\_/\_<=(c2.length:Int)/\_;rw[el];exact h.i r a b,λ r a b=>by show _->_/\_/\_<=(c2.length:Int)/\_;rw[el];exact h.m r a b,h.d,by show 3<=c2.length;rw[el];exact h.c⟩
theorem M4.push{s:Mm}(h:M4 s)(v:Nv)(x:Int)(h8:v.kind≠8):M4 (s.push v x):=by
 have hc:=h.c;have hl:(s.push v x).nodes.length=s.nodes.length+1:=by show(_++[_]).length=_;simp
 have hn:∀r:Int,1<=r->r<=(s.push v x).nodes.length->(r<=s.nodes.length/\aD (s.push v x).nodes r=aD s.nodes r)∨(r=((s.nodes.length+1:Nat):Int)/\aD (s.push v x).nodes r=fY v s.cs.length):=λ r h1 h2=>by
  rw[hl] at h2;by_cases h3:r<=s.nodes.length;·exact .inl ⟨h3,qE h3⟩
  ·have:r=((s.nodes.length+1:Nat):Int):=by omega
   subst this;exact .inr ⟨rfl,kC _ _⟩
 have hcl:=eJ (k:=v.kind) (cs:=s.cs) (init:=x);have hcs:∀k,(k=2∨k=3∨k=5∨k=6)->v.kind=k->(s.push v x).cs.length=s.cs.length+1:=λ k hk e=>by show(gH v.kind s.cs x).length=_;unfold gH;rw[if_pos (by omega)];simp
 have hge:s.cs.length<=(s.push v x).cs.length:=hcl.1;refine⟨λ r h1 h2 hk=>?_,λ r h1 h2 hk=>?_,λ r t h1 h2 h3 h4=>?_,Nat.le_trans hc hge⟩
 ·rcases hn r h1 h2 with⟨h3,e⟩|⟨h3,e⟩;·rw[e] at hk ⊢;have:=h.i r h1 h3 hk;exact⟨this.1,this.2.1,by omega,this.2.2.2⟩
  ·rw[e] at hk ⊢;have hk':v.kind=2:=hk;have:=hcs 2 (by decide) hk';unfold fY;rw[hk'];simp only[if_true]
   refine⟨rfl,by omega,by omega,by omega⟩
 ·rcases hn r h1 h2 with⟨h3,e⟩|⟨h3,e⟩;·rw[e] at hk ⊢;have:=h.m r h1 h3 hk;exact⟨this.1,this.2.1,by omega,this.2.2.2⟩
  ·rw[e] at hk ⊢;have hk':v.kind≠2:=hk;show(if v.kind=2 then _ else _)=_/\0<=(if v.kind=3∨v.kind=5∨v.kind=6 then _ else _)/\(if v.kind=3∨v.kind=5∨v.kind=6 then _ else _)<=_/\(if v.kind=3∨v.kind=5∨v.kind=6 then _ else _)≠_/\(v.kind=3∨v.kind=5∨v.kind=6->1<=(if v.kind=3∨v.kind=5∨v.kind=6 then _ else _))
   rw[if_neg hk'];by_cases h5:v.kind=3∨v.kind=5∨v.kind=6
   ·rw[if_pos h5];have:(s.push v x).cs.length=s.cs.length+1:=by rcases h5 with h5|h5|h5<;>exact hcs _ (by decide) h5
    exact⟨rfl,by omega,by omega,by omega,λ _=>by omega⟩
   ·rw[if_neg h5];exact⟨rfl,by omega,by omega,by omega,λ h=>absurd h h5⟩
 ·have h5:r<=s.nodes.length:=by rw[hl] at h3;omega
  rw[show aD (s.push v x).nodes r=aD s.nodes r from qE h5];rcases hn t (by omega) h3 with⟨h6,e⟩|⟨h6,e⟩;·rw[e] at h4 ⊢;exact h.d r t h1 h2 h6 h4
  ·rw[e] at h4 ⊢;have hr:(aD s.nodes r).main+(aD s.nodes r).prev<=s.cs.length:=by
    by_cases hk:(aD s.nodes r).kind=2;·have:=h.i r h1 h5 hk;omega
    ·have:=h.m r h1 h5 hk;omega
   have e1:(fY v s.cs.length).main=if v.kind=2 then((s.cs.length+1:Nat):Int) else 0:=rfl;have e2:(fY v s.cs.length).prev=if v.kind=3∨v.kind=5∨v.kind=6 then((s.cs.length+1:Nat):Int) else 0:=rfl;rw[e1,e2] at h4 ⊢;by_cases k2:v.kind=2
   ·rw[if_pos k2,if_neg (by omega)];omega
   ·rw[if_neg k2] at h4 ⊢;by_cases k3:v.kind=3∨v.kind=5∨v.kind=6;·rw[if_pos k3];omega
    ·rw[if_neg k3] at h4;omega
theorem M4.mm{s:Mm}(h:M4 s){r t:Int}(h1:1<=r)(h2:r<=s.nodes.length)(h3:1<=t)(h4:t<=s.nodes.length)(k1:(aD s.nodes r).kind=2)(k2:(aD s.nodes t).kind=2)(e:(aD s.nodes r).main=(aD s.nodes t).main):r=t:=by
 have a:=h.i r h1 h2 k1;have b:=h.i t h3 h4 k2;rcases Int.lt_trichotomy r t with h5|h5|h5
 ·have:=h.d r t h1 h5 h4 (by omega);omega
 ·exact h5
 ·have:=h.d t r h3 h5 h2 (by omega);omega
theorem M4.mp{s:Mm}(h:M4 s){r t:Int}(h1:1<=r)(h2:r<=s.nodes.length)(h3:1<=t)(h4:t<=s.nodes.length)(k1:(aD s.nodes r).kind=2):(aD s.nodes r).main≠(aD s.nodes t).prev:=λ e=>by
 have a:=h.i r h1 h2 k1;by_cases k2:(aD s.nodes t).kind=2;·have b:=h.i t h3 h4 k2;omega
 have b:=h.m t h3 h4 k2;rcases Int.lt_trichotomy r t with h5|h5|h5
 ·have:=h.d r t h1 h5 h4 (by omega);omega
 ·subst h5;exact k2 k1
 ·have:=h.d t r h3 h5 h2 (by omega);omega
end
section
structure Ke where
 key:ByteArray
 h:Nat
 v:Int
 d:Nat
 I:Nat->Int
 X:Nat->Int
 M:Nat->Int
def yJ(W:Ke)(s:Mm)(l:Nat)(v:Nv):Prop :=
 (v.kind=3/\(iU v (eP W.h l)=none∨∃b,iU v (eP W.h l)=some b/\b<=s.nodes.length/\(aD s.nodes b).kind=4/\(aD s.nodes b).key≠W.key)) ∨
 (v.kind=6/\v.ys.length<=1000/\cS v.ys W.key=none) ∨
 (v.kind=5/\v.key≠W.key/\1<=l)
abbrev Ad(W:Ke)(s:Mm)(l:Nat)(n:Int):Prop:=yJ W s l (aD s.nodes n)
structure WyS(W:Ke)(s:Mm):Prop where
 d11:W.d<=11
 i0:W.I 0=4
 il:∀j,j<=W.d->1<=W.I j/\W.I j<=s.nodes.length/\(aD s.nodes (W.I j)).kind=2/\(aD s.nodes (W.I j)).gen=1/\(aD s.nodes (W.I j)).main=W.X j
 ii:∀j k,j<=W.d->k<=W.d->W.X j=W.X k->j=k
 ml:∀j,j<=W.d->1<=W.M j/\W.M j<=s.nodes.length
 mc:∀j,j<W.d->(∃b,VC (aD s.nodes (W.M j)) b)/\iU (aD s.nodes (W.M j)) (eP W.h j)=some (W.I (j+1))
 md:(W.d<=10/\(∃b,VC (aD s.nodes (W.M W.d)) b)/\(∃r,iU (aD s.nodes (W.M W.d)) (eP W.h W.d)=some r/\r<=s.nodes.length/\(aD s.nodes r).kind=4/\(aD s.nodes r).key=W.key/\(aD s.nodes r).val=W.v)/\∀k:Nat,k<64->k≠sl W.h W.d->∀r,iU (aD s.nodes (W.M W.d)) (k:Int)=some r->r<=s.nodes.length/\((aD s.nodes r).kind=4->(aD s.nodes r).key≠W.key)) ∨
  (LV (aD s.nodes (W.M W.d)).nd (aD s.nodes (W.M W.d)).xs (aD s.nodes (W.M W.d)).ys/\1<=W.d/\(aD s.nodes (W.M W.d)).ys.length<=1000/\cS (aD s.nodes (W.M W.d)).ys W.key=some W.v)
structure Tm(W:Ke)(s:Mm)(j:Nat):Prop where
 ne:aG s.cs (W.X j)≠W.M j
 kd:(aD s.nodes (aG s.cs (W.X j))).kind=5
 z:aG s.cs (aD s.nodes (aG s.cs (W.X j))).prev=0
structure Ix(W:Ke)(s:Mm)(j:Nat):Prop where
 ne:aG s.cs (W.X j)≠W.M j
 l:1<=aG s.cs (W.X j)/\aG s.cs (W.X j)<=s.nodes.length
 g:Ad W s j (aG s.cs (W.X j))
 p:aG s.cs (aD s.nodes (aG s.cs (W.X j))).prev=0∨aG s.cs (aD s.nodes (aG s.cs (W.X j))).prev=W.M j
structure Jd(W:Ke)(s:Mm)(σ:Option Nat):Prop where
 ws:WyS W s
 ly:M4 s
 rt:aG s.cs 3=4
 mz:∀j,j<=W.d->aG s.cs (aD s.nodes (W.M j)).prev=0
 st:∀j,j<=W.d->aG s.cs (W.X j)=W.M j∨Ix W s j
 up:∀j,j<W.d->aG s.cs (W.X j)≠W.M j->Tm W s (j+1)
 wn:σ=none↔aG s.cs (W.X W.d)=W.M W.d
structure Kp(W:Ke)(s s':Mm):Prop where
 le:s.nodes.length<=s'.nodes.length
 nd:∀r:Int,r<=s.nodes.length->aD s'.nodes r=aD s.nodes r
 cl:s.cs.length<=s'.cs.length
 pz:∀r:Int,1<=r->r<=s.nodes.length->aG s'.cs (aD s.nodes r).prev=aG s.cs (aD s.nodes r).prev∨aG s'.cs (aD s.nodes r).prev=0
 ch:∀j,j<=W.d->aG s.cs (W.X j)≠W.M j->aG s'.cs (W.X j)=aG s.cs (W.X j)
section
variable(W:Ke)(k:Nat)
def xA(s:Mm)(σ:Option Nat)(s':Mm)(σ':Option Nat):Prop:=Kp W s s'/\Jd W s' σ'/\(σ'=σ∨(σ=none/\∃w,σ'=some w/\w≠k))
def S3(a:Nat)(s:Mm)(σ:Option Nat)(s':Mm)(σ':Option Nat):Prop:=Kp W s s'/\Jd W s' σ'/\(σ'=σ∨(σ=none/\σ'=some k))/\s'.nodes.length<=s.nodes.length+a/\s'.cs.length<=s.cs.length+a
def Gd(Q:Rs->Option Nat->Prop):Nat->Tr->Mm->Option Nat->Prop
 | 0,T,_,σ=>∃r,T=.done r/\Q r σ
 | d+1,T,s,σ=>(∃r,T=.done r/\Q r σ)∨(T.live=true/\fI T=true/\∀s' σ',xA W k s σ s' σ'->(mC (T,s')).1≠.stuck/\∃σ2,S3 W k 2 s' σ' (mC (T,s')).2 σ2/\Gd Q d (mC (T,s')).1 (mC (T,s')).2 σ2)
end
section
variable{W:Ke}{k j l:Nat}{s s1 s2:Mm}{σ τ υ:Option Nat}{Q:Rs->Option Nat->Prop}{n r:Int}
theorem Kp.refl(s:Mm):Kp W s s:=⟨Nat.le_refl _,λ _ _=>rfl,Nat.le_refl _,λ _ _ _=>.inl rfl,λ _ _ _=>rfl⟩
theorem Kp.trans(a:Kp W s s1)(b:Kp W s1 s2):Kp W s s2:=⟨Nat.le_trans a.le b.le,λ r hr=>(b.nd r (by have:=a.le;omega)).trans (a.nd r hr),Nat.le_trans a.cl b.cl,λ r h1 hr=>by
 have h2:=b.pz r h1 (by have:=a.le;omega);rw[a.nd r hr] at h2;rcases h2 with h2|h2
 ·rw[h2];exact a.pz r h1 hr
 ·exact .inr h2,λ j hj e=>by rw[b.ch j hj (by rw[a.ch j hj e];exact e),a.ch j hj e]⟩
theorem Kp.z(a:Kp W s s1)(h1:1<=n)(h2:n<=s.nodes.length)(e:aG s.cs (aD s.nodes n).prev=0):aG s1.cs (aD s1.nodes n).prev=0:=by
 rw[a.nd n h2];rcases a.pz n h1 h2 with h|h;·rw[h];exact e
 ·exact h
theorem yJ.kp{v:Nv}(g:yJ W s l v)(q:Kp W s s1):yJ W s1 l v:=by refine g.imp_left λ⟨h1,h2⟩=>⟨h1,h2.imp_right λ⟨b,e1,e2,e3⟩=>⟨b,e1,by have:=q.le;omega,by rw[q.nd b e2];exact e3⟩⟩
theorem Ad.kp(g:Ad W s l n)(hn:n<=s.nodes.length)(q:Kp W s s1):Ad W s1 l n:=by show yJ W s1 l (aD s1.nodes n);rw[q.nd n hn];exact yJ.kp g q
theorem WyS.kp(g:WyS W s)(q:Kp W s s1):WyS W s1:=by
 have hl:=q.le;refine⟨g.d11,g.i0,λ j hj=>?_,g.ii,λ j hj=>?_,λ j hj=>?_,?_⟩
 ·have:=g.il j hj;rw[q.nd _ this.2.1];exact⟨this.1,by omega,this.2.2⟩
 ·have:=g.ml j hj;exact⟨this.1,by omega⟩
 ·rw[q.nd _ (g.ml j (by omega)).2];exact g.mc j hj
 ·rw[q.nd _ (g.ml W.d (Nat.le_refl _)).2];refine g.md.imp_left λ⟨h1,h2,⟨r,e1,e2,e3⟩,h4⟩=>⟨h1,h2,⟨r,e1,by omega,by rw[q.nd r e2];exact e3⟩,λ k h5 h6 r e=>?_⟩;obtain⟨a,b⟩:=h4 k h5 h6 r e;exact⟨by omega,by rw[q.nd r a];exact b⟩
theorem xA.refl(j1:Jd W s σ):xA W k s σ s σ:=⟨.refl s,j1,.inl rfl⟩
theorem xA.trans(a:xA W k s σ s1 τ)(b:xA W k s1 τ s2 υ):xA W k s σ s2 υ:=by
 refine⟨a.1.trans b.1,b.2.1,?_⟩;rcases b.2.2 with e|⟨e,w,e2,e3⟩;·rw[e];exact a.2.2
 ·rcases a.2.2 with e4|⟨_,w2,e5,_⟩;·exact .inr ⟨by rw[<- e4];exact e,w,e2,e3⟩
  ·rw[e] at e5;exact nomatch e5
theorem S3.Z0{a:Nat}(h:S3 W k a s σ s1 τ)(hj:j≠k):xA W j s σ s1 τ:=⟨h.1,h.2.1,h.2.2.1.imp_right λ⟨e,e2⟩=>⟨e,k,e2,λ e3=>hj e3.symm⟩⟩
theorem S3.refl{a:Nat}(j1:Jd W s σ):S3 W k a s σ s σ:=⟨.refl s,j1,.inl rfl,by omega,by omega⟩
theorem S3.trans{a b:Nat}(h:S3 W k a s σ s1 τ)(g:S3 W k b s1 τ s2 υ):S3 W k (a+b) s σ s2 υ:=by
 obtain⟨h1,h2,h3,h4,h5⟩:=h;obtain⟨g1,g2,g3,g4,g5⟩:=g;refine⟨h1.trans g1,g2,?_,by omega,by omega⟩;rcases g3 with e|⟨e,e2⟩;·rw[e];exact h3
 ·rcases h3 with e4|⟨_,e5⟩;·exact .inr ⟨by rw[<- e4];exact e,e2⟩
  ·rw[e] at e5;cases e5
theorem Gd.xd:∀{d:Nat} {T:Tr} {s:Mm} {σ:Option Nat},Gd W k Q d T s σ->Gd W k Q (d+1) T s σ
 | 0,_,_,_,g=>.inl g
 | d+1,_,_,_,g=>g.imp_right λ⟨h1,h2,h3⟩=>⟨h1,h2,λ s' σ' f=>by obtain⟨a,σ2,b,c⟩:=h3 s' σ' f;exact⟨a,σ2,b,Gd.xd c⟩⟩
theorem Gd.mono{d e:Nat}{T:Tr}(g:Gd W k Q d T s σ)(hl:d<=e):Gd W k Q e T s σ:=by
 obtain⟨c,rfl⟩:=Nat.exists_eq_add_of_le hl;clear hl;induction c with
 | zero=>exact g
 | succ c ih=>exact ih.xd
theorem Gd.Z0(hQ:∀r σ σ',Q r σ->(σ'=σ∨(σ=none/\∃w,σ'=some w/\w≠k))->Q r σ'):∀{d:Nat} {T:Tr},Gd W k Q d T s σ->xA W k s σ s1 τ->Gd W k Q d T s1 τ
 | 0,_,⟨r,e,q⟩,f=>⟨r,e,hQ r _ _ q f.2.2⟩
 | d+1,_,.inl ⟨r,e,q⟩,f=>.inl ⟨r,e,hQ r _ _ q f.2.2⟩
 | d+1,_,.inr ⟨h1,h2,h3⟩,f=>.inr ⟨h1,h2,λ s' σ' f2=>h3 s' σ' (f.trans f2)⟩
def qG(W:Ke)(k:Nat)(Q:Rs->Option Nat->Prop)(a d:Nat)(t:Tr)(s:Mm)(σ:Option Nat):Prop :=
 ∀s' σ',xA W k s σ s' σ'->(jT t s').1≠.stuck/\∃σ2,S3 W k a s' σ' (jT t s').2 σ2/\Gd W k Q d (jT t s').1 (jT t s').2 σ2
variable{a d:Nat}{t:Tr}{K:Int->Tr}{m:Int}{r':Rs}
theorem qG.Z0(g:qG W k Q a d t s σ)(f:xA W k s σ s1 τ):qG W k Q a d t s1 τ:=λ s' σ' f2=>g s' σ' (f.trans f2)
theorem qG.mono{e:Nat}(g:qG W k Q a d t s σ)(hl:d<=e):qG W k Q a e t s σ:=λ s' σ' f2=>by obtain⟨h,σ2,b,c⟩:=g s' σ' f2;exact⟨h,σ2,b,c.mono hl⟩
theorem q6(q:Q r' σ):Gd W k Q d (.done r') s σ:=by
 cases d with
 | zero=>exact⟨r',rfl,q⟩
 | succ d=>exact .inl ⟨r',rfl,q⟩
theorem N6(q:∀s' σ',xA W k s σ s' σ'->Q r' σ'):qG W k Q a d (.done r') s σ:=λ s' σ' f=>⟨λ e=>Tr.noConfusion e,σ',.refl f.2.1,q6 (q s' σ' f)⟩
theorem Bb{c:Int}{kk:Int->Tr}(g:∀s' σ',xA W k s σ s' σ'->qG W k Q 2 d (kk (aG s'.cs c)) s' σ'):qG W k Q a (d+1) (.load c kk) s σ:=λ s' σ' f =>
 ⟨λ e=>Tr.noConfusion e,σ',.refl f.2.1,.inr ⟨rfl,rfl,λ s2 σ2 f2=>g s2 σ2 (f.trans f2) s2 σ2 (.refl f2.2.1)⟩⟩
theorem nq{c o n:Int}{kk:Bool->Tr}(g:∀s' σ',xA W k s σ s' σ'->∃σ2,S3 W k 0 s' σ' ⟨s'.nodes,cU s'.cs c o n,s'.gen,s'.pv⟩ σ2/\qG W k Q 2 d (kk (Jx s'.cs c o)) ⟨s'.nodes,cU s'.cs c o n,s'.gen,s'.pv⟩ σ2):qG W k Q a (d+1) (.sJ c o n kk) s σ:=λ s' σ' f =>
 ⟨λ e=>Tr.noConfusion e,σ',.refl f.2.1,.inr ⟨rfl,rfl,λ s2 σ2 f2=>by obtain⟨σ3,st,g2⟩:=g s2 σ2 (f.trans f2);obtain⟨e,σ4,st2,g3⟩:=g2 _ σ3 (.refl st.2.1);exact⟨e,σ4,by have:=st.trans st2;rwa [Nat.zero_add] at this,g3⟩⟩⟩
theorem aBy{t2:Tr}(e:∀s' σ',xA W k s σ s' σ'->jT t s'=jT t2 s')(g:qG W k Q a d t2 s σ):qG W k Q a d t s σ:=λ s' σ' f=>by rw[e s' σ' f];exact g s' σ' f
theorem fZ{r:Int}{kk:Nv->Tr}(hr:r<=s.nodes.length)(g:qG W k Q a d (kk (aD s.nodes r)) s σ):qG W k Q a d (.node r kk) s σ:=aBy (λ s' σ' f=>by rw[jT,f.1.nd r hr]) g
theorem Ai(s:Mm)(v:Nv)(x:Int):(s.push v x).nodes.length=s.nodes.length+1:=by show(_++[_]).length=_;simp
theorem Ag(j1:Jd W s σ)(v:Nv)(x:Int)(h8:v.kind≠8):S3 W k 1 s σ (s.push v x) σ:=by
 have hl:=Ai s v x;have hc:=eJ (k:=v.kind) (cs:=s.cs) (init:=x);have hn:∀r:Int,r<=s.nodes.length->aD (s.push v x).nodes r=aD s.nodes r:=λ r hr=>qE hr;have hx:∀c:Int,c<=s.cs.length->aG (s.push v x).cs c=aG s.cs c:=λ c hc=>jL hc
 have hX:∀j,j<=W.d->aG (s.push v x).cs (W.X j)=aG s.cs (W.X j):=λ j hj=>by have h1:=j1.ws.il j hj;have h2:=j1.ly.i _ h1.1 h1.2.1 h1.2.2.1;rw[h1.2.2.2.2] at h2;exact hx _ h2.2.2.1
 have hp:∀r:Int,1<=r->r<=s.nodes.length->aG (s.push v x).cs (aD s.nodes r).prev=aG s.cs (aD s.nodes r).prev:=λ r a b=>by
  refine hx _ ?_;by_cases hk:(aD s.nodes r).kind=2;·have:=j1.ly.i r a b hk;omega
  ·have:=j1.ly.m r a b hk;omega
 have hk:Kp W s (s.push v x):=⟨by omega,hn,hc.1,λ r a b=>.inl (hp r a b),λ j hj _=>hX j hj⟩;refine⟨hk,⟨j1.ws.kp hk,j1.ly.push v x h8,(hx 3 (by have:=j1.ly.c;omega)).trans j1.rt,λ j hj=>hk.z (j1.ws.ml j hj).1 (j1.ws.ml j hj).2 (j1.mz j hj),λ j hj=>?_,λ j hj=>?_,?_⟩,.inl rfl,by omega,by have:=hc.2;show(gH v.kind s.cs x).length<=_;omega⟩
 ·rw[hX j hj];refine(j1.st j hj).imp_right λ q=>⟨by rw[hX j hj];exact q.ne,by rw[hX j hj];have:=q.l;omega,by rw[hX j hj];exact Ad.kp q.g q.l.2 hk,?_⟩;rw[hX j hj,hn _ q.l.2,hp _ q.l.1 q.l.2];exact q.p
 ·rw[hX j (by omega)];intro e;have q:=j1.up j hj e;rcases j1.st (j+1) hj with q2|q2
  ·exact absurd q2 q.ne
  ·exact⟨by rw[hX _ hj];exact q.ne,by rw[hX _ hj,hn _ q2.l.2];exact q.kd,by rw[hX _ hj,hn _ q2.l.2,hp _ q2.l.1 q2.l.2];exact q.z⟩
 ·rw[hX W.d (Nat.le_refl _)];exact j1.wn
theorem Hj{v:Nv}{x:Int}{kk:Int->Tr}(h8:v.kind≠8)(g:∀s' σ',xA W k s σ s' σ'->qG W k Q a d (kk ((s'.nodes.length+1:Nat):Int)) (s'.push v x) σ'):qG W k Q (a+1) d (.alloc v x kk) s σ:=λ s' σ' f=>by have st:=Ag (k:=k) f.2.1 v x h8;obtain⟨e,σ4,st2,g3⟩:=g s' σ' f _ σ' (.refl st.2.1);exact⟨e,σ4,by have:=st.trans st2;rwa [Nat.add_comm] at this,g3⟩
end
end
section
section
variable{W:Ke}{k j l a d:Nat}{s s1 s2:Mm}{σ τ υ:Option Nat}{Q:Rs->Option Nat->Prop}{n r m q:Int}{K:Int->Tr}
theorem Jd.x(j1:Jd W s σ)(hj:j<=W.d):1<=W.X j/\W.X j<=s.cs.length/\W.X j≠3:=by have h1:=j1.ws.il j hj;have h2:=j1.ly.i _ h1.1 h1.2.1 h1.2.2.1;rw[h1.2.2.2.2] at h2;exact h2.2
theorem Jd.xp(j1:Jd W s σ)(hj:j<=W.d)(h1:1<=n)(h2:n<=s.nodes.length):W.X j≠(aD s.nodes n).prev:=by have h3:=j1.ws.il j hj;rw[<- h3.2.2.2.2];exact j1.ly.mp h3.1 h3.2.1 h1 h2 h3.2.2.1
theorem Jd.xx(j1:Jd W s σ)(hj:j<=W.d)(hl:l<=W.d)(h:j≠l):W.X j≠W.X l:=λ e=>h (j1.ws.ii j l hj hl e)
theorem Jd.root(j1:Jd W s σ):(aD s.nodes 4).kind=2/\(aD s.nodes 4).gen=1/\(4:Int)<=s.nodes.length:=by have h:=j1.ws.il 0 (Nat.zero_le _);rw[j1.ws.i0] at h;exact⟨h.2.2.1,h.2.2.2.1,h.2.1⟩
theorem Jd.mkd(j1:Jd W s σ)(hj:j<=W.d):(aD s.nodes (W.M j)).kind=3∨(aD s.nodes (W.M j)).kind=6:=by
 by_cases h:j<W.d;·obtain⟨b,hb⟩:=(j1.ws.mc j h).1;exact .inl hb.kd
 ·have:j=W.d:=by omega
  subst this;rcases j1.ws.md with⟨_,⟨b,hb⟩,_⟩|⟨hb,_⟩;·exact .inl hb.kd
  ·exact .inr hb.1
theorem Jd.chU (j1 : Jd W s σ) : ∀ {l : Nat}, l ≤ W.d → aG s.cs (W.X j) ≠ W.M j → j ≤ l → aG s.cs (W.X l) ≠ W.M l
  | 0, hl, h, hjl => by have : j = 0 := by omega
                        subst this; exact h
  | l + 1, hl, h, hjl => by
   by_cases e : j = l + 1;·subst e; exact h
   ·exact (j1.up l hl (j1.chU (by omega) h (by omega))).ne
theorem xA.ch(f:xA W k s σ s1 τ)(hj:j<=W.d)(h:aG s.cs (W.X j)≠W.M j):aG s1.cs (W.X j)≠W.M j:=by rw[f.1.ch j hj h];exact h
theorem Tm.Z0(h:Tm W s j)(j1:Jd W s σ)(hj:j<=W.d)(f:xA W k s σ s1 τ):Tm W s1 j:=by
 rcases j1.st j hj with q|q;·exact absurd q h.ne
 have e:=f.1.ch j hj h.ne;exact⟨by rw[e];exact h.ne,by rw[e,f.1.nd _ q.l.2];exact h.kd,by rw[e];exact f.1.z q.l.1 q.l.2 h.z⟩
theorem wT(hl:l<=10):eP W.h l=((sl W.h l:Nat):Int):=by unfold eP oU;rw[if_neg (by omega)];rfl
theorem Xx(j1:Jd W s σ)(hj:j<=W.d)(g:Ad W s j n):n≠W.M j:=λ e=>by
 subst e;by_cases h:j<W.d
 ·obtain⟨⟨b,hb⟩,e⟩:=j1.ws.mc j h;have hk:=hb.kd;rcases g with⟨_,g|⟨b',e2,e3,e4,_⟩⟩|⟨g,_⟩|⟨g,_⟩
  ·rw[e] at g;cases g
  ·rw[e] at e2;injection e2 with e2;have:=(j1.ws.il (j+1) h).2.2.1;rw[e2,e4] at this;cases this
  ·rw[hk] at g;cases g
  ·rw[hk] at g;cases g
 ·have:j=W.d:=by omega
  subst this;rcases j1.ws.md with⟨_,⟨b,hb⟩,⟨r,e1,e2,e3,e4,_⟩,_⟩|⟨hb,_,_,hf⟩
  ·have hk:=hb.kd;rcases g with⟨_,g|⟨b',e5,e6,e7,e8⟩⟩|⟨g,_⟩|⟨g,_⟩
   ·rw[e1] at g;cases g
   ·rw[e1] at e5;injection e5 with e5;rw[<- e5] at e8;exact e8 e4
   ·rw[hk] at g;cases g
   ·rw[hk] at g;cases g
  ·have hk:(aD s.nodes (W.M W.d)).kind=6:=hb.1;rcases g with⟨g,_⟩|⟨_,_,g⟩|⟨g,_⟩
   ·rw[hk] at g;cases g
   ·rw[hf] at g;cases g
   ·rw[hk] at g;cases g
theorem Y9(hj:j<=W.d)(h1:1<=n)(h2:n<=s.nodes.length)(j1:Jd W s σ):S3 W k 0 s σ ⟨s.nodes,cU s.cs (aD s.nodes n).prev (W.M j) 0,s.gen,s.pv⟩ σ/\(aG s.cs (aD s.nodes n).prev=0∨aG s.cs (aD s.nodes n).prev=W.M j->aG (cU s.cs (aD s.nodes n).prev (W.M j) 0) (aD s.nodes n).prev=0):=by
 have hm:=(j1.ws.ml j hj).1;by_cases hv:aG s.cs (aD s.nodes n).prev=W.M j
 ·have hr:1<=(aD s.nodes n).prev/\(aD s.nodes n).prev<=s.cs.length:=by refine Classical.byContradiction λ hn=>?_;rw[pR hn] at hv;omega
  have hk2:(aD s.nodes n).kind≠2:=λ e=>by have:=(j1.ly.i n h1 h2 e).1;omega
  have hx:∀x,aG (cU s.cs (aD s.nodes n).prev (W.M j) 0) x=if x=(aD s.nodes n).prev then 0 else aG s.cs x:=λ x=>Bx hr.1 hr.2 hv;have hX:∀i,i<=W.d->aG (cU s.cs (aD s.nodes n).prev (W.M j) 0) (W.X i)=aG s.cs (W.X i):=λ i hi=>by rw[hx,if_neg (j1.xp hi h1 h2)]
  have hp:∀c v,aG s.cs c=0∨aG s.cs c=v->aG (cU s.cs (aD s.nodes n).prev (W.M j) 0) c=0∨aG (cU s.cs (aD s.nodes n).prev (W.M j) 0) c=v:=λ c v h=>by
   rw[hx];split;·exact .inl rfl
   ·exact h
  have hz:∀c,aG s.cs c=0->aG (cU s.cs (aD s.nodes n).prev (W.M j) 0) c=0:=λ c h=>by rw[hx];split<;>first|rfl|exact h
  have hL:(cU s.cs (aD s.nodes n).prev (W.M j) 0).length=s.cs.length:=gO
  have hk:Kp W s ⟨s.nodes,cU s.cs (aD s.nodes n).prev (W.M j) 0,s.gen,s.pv⟩:=⟨Nat.le_refl _,λ _ _=>rfl,by show _<=(cU _ _ _ _).length;omega,λ r a b=>by
   show aG (cU _ _ _ _) _=_∨aG (cU _ _ _ _) _=_;rw[hx];split;·exact .inr rfl
   ·exact .inl rfl,λ i hi _=>hX i hi⟩
  refine⟨⟨hk,⟨j1.ws.kp hk,j1.ly.up rfl hL,?_,λ i hi=>hz _ (j1.mz i hi),λ i hi=>?_,λ i hi e=>?_,?_⟩,.inl rfl,Nat.le_refl _,by show(cU _ _ _ _).length<=_;omega⟩,λ _=>?_⟩;·show aG (cU _ _ _ _) 3=4;rw[hx,if_neg (λ e=>(j1.ly.m n h1 h2 hk2).2.2.2.1 e.symm)];exact j1.rt
  ·show aG (cU _ _ _ _) _=_∨_;rw[hX i hi];exact(j1.st i hi).imp_right λ q=>⟨by show aG (cU _ _ _ _) _≠_;rw[hX i hi];exact q.ne,by show 1<=aG (cU _ _ _ _) _/\aG (cU _ _ _ _) _<=_;rw[hX i hi];exact q.l,by show Ad W _ i (aG (cU _ _ _ _) _);rw[hX i hi];exact Ad.kp q.g q.l.2 hk,by show aG (cU _ _ _ _) (aD s.nodes (aG (cU _ _ _ _) _)).prev=0∨aG (cU _ _ _ _) (aD s.nodes (aG (cU _ _ _ _) _)).prev=_;rw[hX i hi];exact hp _ _ q.p⟩
  ·have e':aG s.cs (W.X i)≠W.M i:=by rw[<- hX i (by omega)];exact e
   have q:=j1.up i hi e';exact⟨by show aG (cU _ _ _ _) _≠_;rw[hX _ hi];exact q.ne,by show(aD s.nodes (aG (cU _ _ _ _) _)).kind=5;rw[hX _ hi];exact q.kd,by show aG (cU _ _ _ _) (aD s.nodes (aG (cU _ _ _ _) _)).prev=0;rw[hX _ hi];exact hz _ q.z⟩
  ·show σ=none↔aG (cU _ _ _ _) _=_;rw[hX _ (Nat.le_refl _)];exact j1.wn
  ·rw[hx,if_pos rfl]
 ·have e:cU s.cs (aD s.nodes n).prev (W.M j) 0=s.cs:=by unfold cU;refine if_neg λ hq=>hv ?_;unfold aG;rw[if_pos ⟨hq.1,hq.2.1⟩];exact hq.2.2
  rw[e];exact⟨.refl j1,λ h=>h.elim id λ h=>absurd h hv⟩
theorem Dm(hj:j<=W.d)(h1:1<=m)(h2:m<=s.nodes.length)(hv:aG s.cs (aD s.nodes m).prev=0∨aG s.cs (aD s.nodes m).prev=W.M j)
  (g:∀s' σ',xA W k s σ s' σ'->aG s'.cs (aD s'.nodes m).prev=0->qG W k Q 2 d (K m) s' σ'):qG W k Q a (d+4) (tQ t3 (W.I j) m K) s σ:=by
 refine fZ h2 (Bb λ s1 σ1 f1=>?_);have hm1:m<=s1.nodes.length:=by have:=f1.1.le;omega
 have hv1:aG s1.cs (aD s.nodes m).prev=0∨aG s1.cs (aD s.nodes m).prev=W.M j:=by
  rcases f1.1.pz m h1 h2 with e|e;·rw[e];exact hv
  ·exact .inl e
 have en:=f1.1.nd m h2;rcases hv1 with e0|e0
 ·rw[e0,if_pos rfl];exact(g s1 σ1 f1 (by rw[en];exact e0)).mono (by omega)
 ·have hM:=(f1.2.1.ws.ml j hj);have hI:=(f1.2.1.ws.il j hj);obtain⟨r1,r2,r3⟩:=f1.2.1.root
  rw[e0,if_neg (by omega)];refine fZ hM.2 ?_;rw[if_pos (show yE (aD s1.nodes (W.M j)) from(f1.2.1.mkd hj).elim .inl λ h=>.inr (.inr h)),if_neg (by decide)];refine Bb λ s2 σ2 f2=>?_;rw[f2.2.1.rt];obtain⟨r1,r2,r3⟩:=f2.2.1.root;refine fZ r3 ?_;rw[if_pos r1];have hI2:=(f2.2.1.ws.il j hj);refine fZ r3 (fZ hI2.2.1 ?_);rw[r2,hI2.2.2.2.1];have hm2:m<=s2.nodes.length:=by have:=f2.1.le;omega
  refine fZ hm2 ?_;have en2:aD s2.nodes m=aD s.nodes m:=(f2.1.nd m hm1).trans en;refine nq λ s3 σ3 f3=>?_;have hm3:m<=s3.nodes.length:=by have:=f3.1.le;omega
  have en3:aD s3.nodes m=aD s.nodes m:=(f3.1.nd m hm2).trans en2;obtain⟨c1,c2⟩:=Y9 (k:=k) hj h1 hm3 f3.2.1;have f13:=(f1.trans f2).trans f3;rw[en2,<- en3]
  have cz:=c2 (by
   rw[en3];rcases f13.1.pz m h1 h2 with e|e;·rw[e];exact hv
   ·exact .inl e)
  refine⟨σ3,c1,?_⟩;have f4:xA W k s3 σ3 ⟨s3.nodes,cU s3.cs (aD s3.nodes m).prev (W.M j) 0,s3.gen,s3.pv⟩ σ3:=⟨c1.1,c1.2.1,.inl rfl⟩;refine fZ (by exact hm3) (Bb λ s5 σ5 f5=>?_);have e5:aG s5.cs (aD s5.nodes m).prev=0:=f5.1.z (n:=m) h1 (by exact hm3) cz;have en5:aD s5.nodes m=aD s3.nodes m:=f5.1.nd m (by exact hm3);rw[en5] at e5;show qG W k Q 2 d (if aG s5.cs (aD s3.nodes m).prev=0 then _ else _) s5 σ5
  rw[e5,if_pos rfl];exact g s5 σ5 ((f13.trans f4).trans f5) (by rw[en5];exact e5)
theorem Fm(hj:j<=W.d)(j1:Jd W s σ)(g0:∀s' σ',xA W k s σ s' σ'->aG s'.cs (W.X j)=W.M j->qG W k Q 2 d (K (W.M j)) s' σ')
  (g1:∀s' σ' m,xA W k s σ s' σ'->aG s'.cs (W.X j)=m->Ix W s' j->aG s'.cs (aD s'.nodes m).prev=0->qG W k Q 2 d (K m) s' σ'):qG W k Q a (d+5) (nG t3 (W.I j) K) s σ:=by
 refine fZ (j1.ws.il j hj).2.1 ?_;rw[(j1.ws.il j hj).2.2.2.2];refine Bb λ s1 σ1 f1=>?_;rcases f1.2.1.st j hj with e|q
 ·rw[e];have hM:=f1.2.1.ws.ml j hj;exact Dm hj hM.1 hM.2 (.inl (f1.2.1.mz j hj)) λ s2 σ2 f2 _=>(g0 s1 σ1 f1 e).Z0 f2
 ·refine Dm hj q.l.1 q.l.2 q.p λ s2 σ2 f2 e2=>?_;have e3:=f2.1.ch j hj q.ne;refine g1 s2 σ2 _ (f1.trans f2) e3 ?_ e2;rcases f2.2.1.st j hj with e4|q2
  ·rw[e3] at e4;exact absurd e4 q.ne
  ·exact q2
structure Zb(W:Ke)(s:Mm)(j:Nat)(q:Int):Prop where
 l:1<=q/\q<=s.nodes.length
 g:Ad W s j q
 p:aG s.cs (aD s.nodes q).prev=0∨aG s.cs (aD s.nodes q).prev=W.M j
theorem Zb.kp(c:Zb W s j q)(h:Kp W s s1):Zb W s1 j q:=⟨⟨c.l.1,by have:=c.l.2;have:=h.le;omega⟩,Ad.kp c.g c.l.2 h,by
 rw[h.nd q c.l.2];rcases h.pz q c.l.1 c.l.2 with e|e;·rw[e];exact c.p
 ·exact .inl e⟩
theorem aAk(hj:j<=W.d)(j1:Jd W s σ)(c:Zb W s j q)(hu:j<W.d->Tm W s (j+1))(e:aG s.cs (W.X j)=W.M j):S3 W k 0 s σ ⟨s.nodes,cU s.cs (W.X j) (W.M j) q,s.gen,s.pv⟩ (if j=W.d then some k else σ)/\aG (cU s.cs (W.X j) (W.M j) q) (W.X j)=q:=by
 have hx0:=j1.x hj;have hx:∀x,aG (cU s.cs (W.X j) (W.M j) q) x=if x=W.X j then q else aG s.cs x:=λ x=>Bx hx0.1 hx0.2.1 e;have hne:=Xx j1 hj c.g
 have hX:∀i,i<=W.d->aG (cU s.cs (W.X j) (W.M j) q) (W.X i)=if i=j then q else aG s.cs (W.X i):=λ i hi=>by
  rw[hx];by_cases h:i=j;·subst h;rw[if_pos rfl,if_pos rfl]
  ·rw[if_neg (j1.xx hi hj h),if_neg h]
 have hp:∀n:Int,1<=n->n<=s.nodes.length->aG (cU s.cs (W.X j) (W.M j) q) (aD s.nodes n).prev=aG s.cs (aD s.nodes n).prev:=λ n a b=>by rw[hx,if_neg λ h=>j1.xp hj a b h.symm]
 have hL:(cU s.cs (W.X j) (W.M j) q).length=s.cs.length:=gO;have hk:Kp W s ⟨s.nodes,cU s.cs (W.X j) (W.M j) q,s.gen,s.pv⟩:=⟨Nat.le_refl _,λ _ _=>rfl,by show _<=(cU _ _ _ _).length;omega,λ r a b=>.inl (hp r a b),λ i hi h=>by show aG (cU _ _ _ _) _=_;rw[hX i hi,if_neg (λ h2=>by subst h2;exact h e)]⟩
 refine⟨⟨hk,⟨j1.ws.kp hk,j1.ly.up rfl hL,?_,λ i hi=>(hp _ (j1.ws.ml i hi).1 (j1.ws.ml i hi).2).trans (j1.mz i hi),λ i hi=>?_,λ i hi he=>?_,?_⟩,?_,Nat.le_refl _,by show(cU _ _ _ _).length<=_;omega⟩,by rw[hx,if_pos rfl]⟩;·show aG (cU _ _ _ _) 3=4;rw[hx,if_neg (λ h=>hx0.2.2 h.symm)];exact j1.rt
 ·show aG (cU _ _ _ _) _=_∨_;rw[hX i hi];by_cases h:i=j;·subst h;rw[if_pos rfl];exact .inr ⟨by show aG (cU _ _ _ _) _≠_;rw[hX i hi,if_pos rfl];exact hne,by show 1<=aG (cU _ _ _ _) _/\aG (cU _ _ _ _) _<=_;rw[hX i hi,if_pos rfl];exact c.l,by show Ad W _ i (aG (cU _ _ _ _) _);rw[hX i hi,if_pos rfl];exact Ad.kp c.g c.l.2 hk,by show aG (cU _ _ _ _) (aD s.nodes (aG (cU _ _ _ _) _)).prev=0∨aG (cU _ _ _ _) (aD s.nodes (aG (cU _ _ _ _) _)).prev=_;rw[hX i hi,if_pos rfl,hp _ c.l.1 c.l.2];exact c.p⟩
  ·rw[if_neg h];exact(j1.st i hi).imp_right λ q'=>⟨by show aG (cU _ _ _ _) _≠_;rw[hX i hi,if_neg h];exact q'.ne,by show 1<=aG (cU _ _ _ _) _/\aG (cU _ _ _ _) _<=_;rw[hX i hi,if_neg h];exact q'.l,by show Ad W _ i (aG (cU _ _ _ _) _);rw[hX i hi,if_neg h];exact Ad.kp q'.g q'.l.2 hk,by show aG (cU _ _ _ _) (aD s.nodes (aG (cU _ _ _ _) _)).prev=0∨aG (cU _ _ _ _) (aD s.nodes (aG (cU _ _ _ _) _)).prev=_;rw[hX i hi,if_neg h,hp _ q'.l.1 q'.l.2];exact q'.p⟩
 ·have t1:Tm W s (i+1):=by
   by_cases h:i=j;·subst h;exact hu hi
   ·have he':aG (cU s.cs (W.X j) (W.M j) q) (W.X i)≠W.M i:=he;rw[hX i (by omega),if_neg h] at he';exact j1.up i hi he'
  have h2:i+1≠j:=λ h=>by subst h;exact t1.ne e
  rcases j1.st (i+1) hi with q'|q';·exact absurd q' t1.ne
  exact⟨by show aG (cU _ _ _ _) _≠_;rw[hX _ hi,if_neg h2];exact t1.ne,by show(aD s.nodes (aG (cU _ _ _ _) _)).kind=5;rw[hX _ hi,if_neg h2];exact t1.kd,by show aG (cU _ _ _ _) (aD s.nodes (aG (cU _ _ _ _) _)).prev=0;rw[hX _ hi,if_neg h2,hp _ q'.l.1 q'.l.2];exact t1.z⟩
 ·show _↔aG (cU _ _ _ _) _=_;rw[hX _ (Nat.le_refl _)];by_cases h:j=W.d;·subst h;simp[hne]
  ·rw[if_neg h,if_neg (λ h2=>h h2.symm)];exact j1.wn
 ·by_cases h:j=W.d;·subst h;rw[if_pos rfl];exact .inr ⟨j1.wn.2 e,rfl⟩
  ·rw[if_neg h];exact .inl rfl
theorem X1{K:Bool->Tr}(hj:j<=W.d)(j1:Jd W s σ)(c:Zb W s j q)(hu:j<W.d->Tm W s (j+1))
  (gT:∀s' σ',Kp W s s'->Jd W s' σ'->(j=W.d->σ'=some k)->(j<W.d->xA W k s σ s' σ')->aG s'.cs (W.X j)≠W.M j->qG W k Q 2 d (K true) s' σ')
  (gF:∀s' σ',xA W k s σ s' σ'->aG s'.cs (W.X j)≠W.M j->qG W k Q 2 d (K false) s' σ'):qG W k Q a (d+5) (iN t3 (W.I j) (W.M j) q K) s σ:=by
 refine fZ (j1.ws.il j hj).2.1 ?_;rw[(j1.ws.il j hj).2.2.2.2];refine nq λ s1 σ1 f1=>?_;have hx0:=f1.2.1.x hj;by_cases e:aG s1.cs (W.X j)=W.M j
 ·have c1:=c.kp f1.1;obtain⟨st,e1⟩:=aAk (k:=k) hj f1.2.1 c1 (λ h=>(hu h).Z0 j1 h f1) e
  rw[Ya e hx0.1 hx0.2.1,if_pos rfl];refine⟨_,st,?_⟩;have c2:=c1.kp st.1;have hne:=Xx f1.2.1 hj c1.g;refine Dm hj c2.l.1 c2.l.2 c2.p λ s2 σ2 f2 _=>?_;rw[beq_self_eq_true];refine gT s2 σ2 ((f1.1.trans st.1).trans f2.1) f2.2.1 (λ h=>?_) (λ h=>?_) (f2.ch hj (by show aG (cU _ _ _ _) _≠_;rw[e1];exact hne))
  ·have h3:=f2.2.2;rw[if_pos h] at h3;rcases h3 with h3|⟨h3,_⟩
   ·exact h3
   ·cases h3
  ·have h3:=st.2.1;rw[if_neg (by omega)] at h3 f2;exact(f1.trans ⟨st.1,h3,.inl rfl⟩).trans f2
 ·obtain⟨e1,e2⟩:=aAt (n:=q) e hx0.1 hx0.2.1;rw[e2,e1];rw[if_neg (by decide)];exact⟨σ1,.refl f1.2.1,(gF s1 σ1 f1 e).mono (by omega)⟩
end
end
end Go.Proofs.YtdeecdfockjoiaaGreatDoor
