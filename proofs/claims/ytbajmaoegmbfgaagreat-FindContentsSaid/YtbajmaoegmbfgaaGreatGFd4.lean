/- Merged. -/
import Derived.Test.YtbajmaoegmbfgaaGreatGFd1
import Derived.Test.YtbajmaoegmbfgaaGreatGWo1
import Derived.Test.YtbajmaoegmbfgaaGreatGKx8
import Derived.Test.YtbajmaoegmbfgaaGreatGTt1
import Derived.Test.YtbajmaoegmbfgaaGreatGGc1
import Derived.Test.YtbajmaoegmbfgaaGreatGWo6
import Derived.Test.YtbajmaoegmbfgaaGreatGTo2
set_option linter.unusedSimpArgs false
set_option linter.unusedVariables false
namespace Go.Ct
open Go Go.RowKit
section
end
end Go.Ct
namespace Go.Proofs.YtbajmaoegmbfgaaGreat
open Go.Proofs.Tryz
open Go Go.RowKit Go.Ct
section
abbrev aK:ByteArray:=⟨#[97]⟩
abbrev kA:Cl:=⟨8,⟨3,false⟩,0,0,0,0,0,63,aK,8,0,0,false⟩
theorem hsA:jQ aK 63=12:=by decide
abbrev n3:Nv:=dI (({Nd.zero with kind:=3}:Nd).c [] []) 0
abbrev n5:Nv:=dI (zY 12 aK 8) 3
abbrev n6:Nv:=dI (Ck 4096 [5]) 3
def Uz:Mm:=⟨Az.nodes++[n5,n6],[0,6,4,0],1⟩
theorem aDb:CV n3.nd n3.xs n3.ys:=by have:=r9 (b:=0) (xs:=[]) ⟨by decide,by decide,λ i hi=>nomatch hi⟩ (none,0) (p:=1) (by decide);exact(y4.1 this)
theorem aCK:BV 4096 [5]:=⟨by decide,by decide,λ i hi=>by
 have:i=0:=by simp at hi;exact hi
 subst this;decide⟩
theorem aDi:CV n6.nd n6.xs n6.ys:=y4.1 (r9 aCK (none,0) (p:=4) (by decide))
theorem lk3:iU n3 12=none:=by unfold iU Fj;exact if_neg λ h=>absurd h.2 (by decide)
theorem in3:nh n3 12 5=Ck 4096 [5]:=by unfold nh q9;rw[if_pos ⟨aDb,by decide,by decide,by decide⟩,show dY n3.bm.toNat 12=4096 by decide +kernel,show vM n3.xs (mM n3.bm.toNat 12) 5=[5] by decide +kernel];rfl
theorem lk6:iU n6 12=some 5:=by unfold iU Fj;rw[if_pos ⟨aDi,by decide⟩];decide +kernel
theorem aA2:eZ 12 0=12:=by decide
theorem aEy(n:Nat)(t:dW)(l:Int)(hl:eZ 12 l=12):Ct.eF (qK t 12 aK n l 3) Az=(.done (dM false 0),Az):=by show Ct.eF (if n3.kind=5 then _ else if n3.kind=6 then _ else match iU n3 (eZ 12 l) with|none=>_|some b=>_) Az=_;rw[hl,lk3];rfl
theorem aDT(n:Nat)(t:dW)(l:Int)(hl:eZ 12 l=12):Ct.eF (qK t 12 aK n l 6) Uz=(.done (dM true 8),Uz):=by show Ct.eF (if n6.kind=5 then _ else if n6.kind=6 then _ else match iU n6 (eZ 12 l) with|none=>_|some b=>_) Uz=_;rw[hl,lk6];rfl
abbrev tA:dW:=⟨3,false⟩
noncomputable abbrev vp:Tr:=Rl tA 12 aK 1073741824
theorem ei:vp=kI tA λ i=>iM tA i (qK tA 12 aK 1073741823 0):=by show Rl tA 12 aK 1073741824=_;unfold Rl;rw[if_pos (by decide)];rfl
theorem aDQ:jI (Ct.eF vp Az) 3=(.done (dM false 0),Az)/\pF (Ct.eF vp Az) 3=3:=by
 rw[ei];have e2:jI (Ct.eF (kI tA λ i=>iM tA i (qK tA 12 aK 1073741823 0)) Az) 2=(.load 1 λ p=>if p=0 then qK tA 12 aK 1073741823 0 3 else .node p λ np=>if cB np then(if tA.ro=true then lG 4 3 p false (qK tA 12 aK 1073741823 0) else zU tA λ r=>.node r λ nr=>.node 4 λ ni=>lG 4 3 p (nr.gen==ni.gen) (qK tA 12 aK 1073741823 0)) else Ka 4 3 p (qK tA 12 aK 1073741823 0),Az):=rfl
 have e3:jI (Ct.eF (kI tA λ i=>iM tA i (qK tA 12 aK 1073741823 0)) Az) 3=(.done (dM false 0),Az):=by show Ep (jI _ 2)=_;rw[e2];exact aEy _ _ _ aA2
 refine⟨e3,?_⟩;show pF _ 2+(if(jI _ 2).1.live=true then 1 else 0)=3;rw[e2];rfl
theorem aD5:jI (Ct.eF vp Uz) 3=(.done (dM true 8),Uz)/\pF (Ct.eF vp Uz) 3=3:=by
 rw[ei];have e2:jI (Ct.eF (kI tA λ i=>iM tA i (qK tA 12 aK 1073741823 0)) Uz) 2=(.load 4 λ p=>if p=0 then qK tA 12 aK 1073741823 0 6 else .node p λ np=>if cB np then(if tA.ro=true then lG 4 6 p false (qK tA 12 aK 1073741823 0) else zU tA λ r=>.node r λ nr=>.node 4 λ ni=>lG 4 6 p (nr.gen==ni.gen) (qK tA 12 aK 1073741823 0)) else Ka 4 6 p (qK tA 12 aK 1073741823 0),Uz):=rfl
 have e3:jI (Ct.eF (kI tA λ i=>iM tA i (qK tA 12 aK 1073741823 0)) Uz) 3=(.done (dM true 8),Uz):=by show Ep (jI _ 2)=_;rw[e2];exact aDT _ _ _ aA2
 refine⟨e3,?_⟩;show pF _ 2+(if(jI _ 2).1.live=true then 1 else 0)=3;rw[e2];rfl
theorem aEi{p:Tr×Mm}{r:Rs}{s:Mm}(h:jI p 3=(.done r,s))(hc:pF p 3=3):jI p 9=(.done r,s)/\pF p 9=3:=by obtain⟨h1,h2⟩:=yD (p:=p) (j:=3) (k:=9) (by rw[h];rfl) (by decide);exact⟨h1.trans h,h2.trans hc⟩
def mmP:Mm:=⟨Az.nodes++[n5,n6],[0,3,4,3],1⟩
theorem aD2(K:Rs->Int->Tr)(gen:Int):Ct.eF (jU kA 4 3 12 0 gen K) Az=Ct.eF (lH tA 4 3 6 λ ok=>K (oS false 0) (if ok=true then 1 else 0)) mmP:=by
 show Ct.eF (if n3.kind=6 then _ else match iU n3 (eZ 12 ((0:Nat):Int)) with|none=>(if nP kA false 0=true then Tr.alloc (zY 12 aK 8) 0 λ s=>.alloc (nh n3 (eZ 12 ((0:Nat):Int)) s) 3 λ r=>lH tA 4 3 r λ ok=>K (oS false 0) (if ok=true then 1 else 0) else K (dM false 0) 1)|some b=>_) Az=_
 rw[show eZ 12 ((0:Nat):Int)=12 from aA2,lk3];show Ct.eF (Tr.alloc (nh n3 12 5) 3 λ r=>lH tA 4 3 r λ ok=>K (oS false 0) (if ok=true then 1 else 0)) (Az.push (zY 12 aK 8) 0)=_
 rw[in3];rfl
noncomputable abbrev ptT:Tr:=T0 kA 63
theorem aBX(ag:Tr)(gen:Int)(n:Nat):∃KL:Int->Rs->Int->Tr,(sY kA 12 .done ag gen (n+1) 4 0 0=iM tA 4 λ m=>.node m λ nm=>if nm.kind=5 then xU tA 0 4 12 (((0:Nat):Int)-1) (λ _=>ag) else jU kA 4 m 12 0 gen (KL m))/\∀m r,KL m r 1=.done r :=⟨λ m r what=>if what=1 then .done r else if what=0 then ag else Cy kA 4 m (eZ 12 ((0:Nat):Int)) gen λ b=>if b=0 then ag else sY kA 12 .done ag gen n b 4 1,rfl,λ _ _=>rfl⟩
theorem Y4(n:Nat):vN kA 12 .done (n+1)=kI tA λ i=>.node i λ ni=>sY kA 12 .done (vN kA 12 .done n) ni.gen n i 0 0:=rfl
theorem aB1:ptT=kI tA λ i=>.node i λ ni=>sY kA 12 .done (vN kA 12 .done (1073741822+1)) ni.gen (1073741822+1) i 0 0:=by show T0 kA 63=_;unfold T0;rw[show kA.key=aK from rfl,hsA];unfold kN;rw[if_neg (by decide),if_neg (by decide),if_neg (by decide),if_neg (by decide),if_neg (by decide),if_neg (by decide),if_pos rfl];exact Y4 (1073741822+1)
theorem qn(P:Int->Int->Tr):jI (Ct.eF (kI tA λ i=>.node i λ ni=>P ni.gen i) Az) 1=Ct.eF (P 1 4) Az:=rfl
theorem run_read(L:Int->Tr)(ag:Tr):jI (Ct.eF (iM tA 4 λ m=>.node m λ nm=>if nm.kind=5 then ag else L m) Az) 2=Ct.eF (L 3) Az:=rfl
def mmQ:Mm:=⟨Az.nodes++[n5,n6],[0,6,4,3],1⟩
theorem aBZ(K:Bool->Tr):jI (Ct.eF (lH tA 4 3 6 K) mmP) 1=Ct.eF (oO tA 4 6 λ m=>K (m==6)) mmQ:=rfl
theorem aBe(K:Int->Tr):jI (Ct.eF (oO tA 4 6 K) mmQ) 1=Ct.eF (zU tA λ r=>.node r λ nr=>.node 4 λ ni=>lG 4 6 3 (nr.gen==ni.gen) K) mmQ:=rfl
theorem aBI(K:Int->Tr):jI (Ct.eF (zU tA λ r=>.node r λ nr=>.node 4 λ ni=>lG 4 6 3 (nr.gen==ni.gen) K) mmQ) 1=Ct.eF (lG 4 6 3 true K) mmQ:=rfl
theorem aCj(K:Int->Tr):jI (Ct.eF (lG 4 6 3 true K) mmQ) 2=Ct.eF (K 6) Uz:=rfl
theorem tj(K:Int->Tr):jI (Ct.eF (lH tA 4 3 6 λ ok=>K (if ok=true then 1 else 0)) mmP) 5=Ct.eF (K 1) Uz:=by rw[show(5:Nat)=1+1+1+2 from rfl,oH,oH,oH,aBZ,aBe,aBI,aCj];rfl
theorem X9:jI (Ct.eF ptT Az) 8=(.done (oS false 0),Uz):=by rw[aB1];generalize vN kA 12 .done (1073741822+1)=ag;generalize 1073741822=n;obtain⟨KL,h1,h2⟩:=aBX ag 1 n;rw[show(8:Nat)=1+2+5 from rfl,oH,oH,qn λ g i=>sY kA 12 .done ag g (n+1) i 0 0,h1];rw[run_read (λ m=>jU kA 4 m 12 0 1 (KL m)),aD2,tj (λ k=>KL 3 (oS false 0) k),h2];rfl
end
section
structure o5(x0:XS)(y:RY):Prop where
 run:Ko kA 63 x0 8 y
 rn:jI (Ct.eF ptT Az) y.i=(y.R,y.x.mm)
 i:y.i<=8
section
variable{x0 x':XS}{N':List aQ}{dn:Bool}{rs:Rs}{y:RY}
theorem qx(e0:x0.mm=Az)(hs:Sz x0 8)(h:uD (T0 kA 63) (T0 kA 63) 0 0 Rs.zero x0 x' N' dn rs):∃R,o5 x0 ⟨0,x',N',dn,rs,R⟩:=by
 obtain⟨R',j,h1,h2,h3,h4,h5,h6⟩:=h.exI;have hj:j=0:=by omega
 subst hj;refine⟨R',⟨h3,⟨0,h4⟩,h5,h6,by have:=h.gl;show x'.got.length<=0;omega,Hv (nA kA 63 (n:=0) (by decide)) h4 h1 hs⟩,?_,Nat.zero_le _⟩;have:=aCn h4 (tI h3);rw[e0] at this;exact this
theorem o5.lt(h:o5 x0 y)(hd:y.dn=false):y.i<8:=by
 rcases Nat.lt_or_ge y.i 8 with h1|h1;·exact h1
 ·exfalso;have h2:=h.rn;rw[show y.i=8 from Nat.le_antisymm h.i h1,X9] at h2;have h3:y.R=.done (oS false 0):=(congrArg Prod.fst h2).symm;rcases h.run.ex.Pk with⟨h4,_⟩|⟨_,h4⟩
  ·rw[hd] at h4;cases h4
  ·rw[h3] at h4;simp[Tr.acc] at h4
theorem o5.step(h:o5 x0 y)(hd:y.dn=false)(hq:uD (T0 kA 63) y.R 1 (y.x.got.length+1) y.rs y.x x' N' dn rs):∃R,o5 x0 ⟨y.i+1,x',y.N++N',dn,rs,R⟩:=by
 have hi:=h.lt hd;obtain⟨R1,j1,g1,g2,g3,g4,g5,g6,g7⟩:=hq.exN;have hpl:y.R.live=true:=by
  rcases h.run.ex.Pk with⟨h4,_⟩|⟨_,h4⟩;·rw[hd] at h4;cases h4
  ·cases hR:y.R with
   | done r=>rw[hR] at h4;simp[Tr.acc] at h4
   | _=>rfl
 have hr:=tI h.run.ex;have hj1:j1=1:=by
  rcases Nat.lt_or_ge j1 1 with h|h
  ·exfalso;have e0:j1=0:=by omega
   obtain⟨e2,_⟩:=o9 g4 e0 hr;rcases g3.Pk with⟨_,e3⟩|⟨e3,_⟩;·rw[<- e2,e3] at hpl;cases hpl
   ·have:=g2 e3;omega
  ·omega
 subst hj1;have est:Ep (y.R,y.x.mm)=(R1,x'.mm):=aBS g4 hr (tI g3);obtain⟨j0,hj0⟩:=h.run.rc
 have hg:=h.run.gl;refine⟨R1,⟨g3,⟨j0+1,hj0.trans g4⟩,by show x'.L=_;rw[g5,h.run.ext,List.append_assoc],Nat.le_trans h.run.lc g6,by have:=hq.gl;show x'.got.length<=y.i+1;omega,?_⟩,?_,hi⟩;·have:=Co h.run.ex hd (nA kA 63 (n:=y.x.got.length+1) (by omega)) (Nat.le_refl _) g4 g1 h.run.sz;rw[show 8+64+128*(y.i+1)=8+64+128*y.i+128 by omega];exact this
 ·show Ep (jI _ y.i)=_;rw[h.rn,est]
theorem o5.done(h:o5 x0 y)(hd:y.dn=true):y.x.mm=Uz:=by
 have hR:y.R=.done y.rs:=by rcases h.run.ex.Pk with⟨_,h⟩|⟨h,_⟩;exact h;rw[hd] at h;cases h
 have h2:=h.rn;rw[hR] at h2;have h3:=(yD (p:=Ct.eF ptT Az) (j:=y.i) (k:=8) (by rw[h2];rfl) h.i).1;rw[X9,h2] at h3;exact(congrArg Prod.snd h3).symm
theorem o5.proper(h:o5 x0 y)(hd:y.dn=true)(e0:x0.mm=Az):fS y.x.L y.x.cs y.x.gen:=by
 obtain⟨j,hrc⟩:=h.run.rc;rw[e0] at hrc;have w0:WR (H8 63) 63 Az [⟨3,false⟩] []:=.new;have hst:WR (H8 63) 63 y.x.mm [⟨3,false⟩] [y.R]:=.start w0 (Lc (m:=63) (k:=kA) ⟨by decide,by decide⟩ (by decide) (List.mem_cons_self ..) (List.mem_cons_self ..) (λ _=>rfl)) hrc (tI h.run.ex);have hR:y.R=.done y.rs:=by rcases h.run.ex.Pk with⟨_,h⟩|⟨h,_⟩;exact h;rw[hd] at h;cases h
 rw[hR] at hst;have hsz:=h.run.sz;have hi:=h.i;obtain⟨z1,z2,z3⟩:=hsz
 exact mT (m:=63) (B:=2000) (C:=0) (E:=0) (W:=⟨y.x,[⟨3,false⟩],none,0,[],none,0⟩) ⟨h.run.ex.ok,⟨by show y.x.L.length<=2000;omega,by show y.x.cs.length<=2000;omega,by show y.x.gen<=((2000:Nat):Int);omega⟩,(λ e he=>nomatch he),by show 0<1;decide,rfl,by show 1<=5;decide,Nat.le_refl _,hst.drop⟩
end
abbrev kL:Cl:=⟨7,⟨3,false⟩,0,0,0,0,0,63,aK,0,0,0,false⟩
variable{D:List Nat}{A B:Fr}{a:AS}{b:Nat}{w:World}
theorem Gu:bW vp 20 64:=by have h:vp=kN kL 12 1073741824:=(Sh (k:=kL) 12 1073741824 rfl).symm;rw[h];exact Ls (by decide)
theorem Qw(ok:a.Ok)(hm:a.mm.Small)(hA:∀f∈aN a.L,f∈A)(hB:∀x∈B,x∈A)(hs:SF w D [(b,fR a)] A [] (gC a) w) :
  Calls prog 55 #[.iface 42 (.pointer (some ⟨b,0,none⟩)),.agg ⟨[.int .i64 3,.bool false]⟩,.int .u64 63,.string aK] w λ e w'=>∃x:Nat×Cd×Fr×AS,e=.returned (.pointer (some ⟨x.1,0,none⟩))/\(rW b (Ct.eF vp a.mm) a B x.2/\dK (Ct.eF vp a.mm).1=true)/\SF w D [(x.1,tO b x.2.1 0),(b,fR x.2.2.2)] [] x.2.2.1 (gC x.2.2.2) w':=by
 obtain⟨n,hn,en⟩:∃n:Nat,n<=4294967296/\1073741824=n:=⟨1073741824,by decide,rfl⟩;have ht:bW (Rl tA 12 aK n) 20 64:=by rw[<- en];exact Gu
 have hd:∀bf,Mj b bf (jQ aK 63) tA aK n:=λ bf=>V2 (by decide) (pQ aK 63) n;have h1:aK.size<=4611686018427387903:=by decide
 have h2:bW (Rl tA (jQ aK 63) aK n) 20 64:=by rw[hsA];exact ht
 have:=Rj (t:=tA) (key:=aK) (m:=63) (n:=n) (i:=20) (q:=64) (by decide) hd hn (by decide) h1 h2 ok hm hA hB hs;rw[hsA] at this;show Calls _ _ _ _ λ e w'=>∃x:Nat×Cd×Fr×AS,e=.returned (.pointer (some ⟨x.1,0,none⟩))/\(rW b (Ct.eF (Rl tA 12 aK 1073741824) a.mm) a B x.2/\dK (Ct.eF (Rl tA 12 aK 1073741824) a.mm).1=true)/\SF w D [(x.1,tO b x.2.1 0),(b,fR x.2.2.2)] [] x.2.2.1 (gC x.2.2.2) w'
 rw[en];exact this
theorem X3{T:Tr}(hT:bW T 20 64){F:Fr}{a0:AS}{bt:Nat}{c:Cd}{M:Mm}{r:Rs}(h3:jI (Ct.eF T M) 3=(.done r,M))(hc:pF (Ct.eF T M) 3=3)(hl:M.nodes.length<=10/\M.cs.length<=10)(hp:rW b (Ct.eF T M) a0 B (c,F,a))(hA:∀f∈aN a.L,f∈A)(hB:∀x∈F++B,x∈A)(hs:SF w D [(bt,tO b c 0),(b,fR a)] A [] (gC a) w) :
  Calls prog 30 #[.pointer (some ⟨bt,0,none⟩),.int .i64 9] w λ e w'=>∃y:Fr×AS,e=.returned (.int .i64 3)/\True/\SF w D [(bt,tO b (iG r) 3),(b,fR y.2)] [] y.1 (gC y.2) w':=by
 obtain⟨e1,e2⟩:=aEi h3 hc;obtain⟨s1,s2⟩:=pB M hT;refine(qk (n:=0) (m:=20) (most:=9) hp (rF M hT) (oU M hT 64) (by decide) ⟨by omega,by omega⟩ (by decide) hA hB hs).mono λ e w' ⟨y,h1,h2,hw⟩=>?_;have h3:=h2.rp;rw[e1] at h3;obtain⟨_,h4⟩:=h3
 rw[e2,h4] at hw;exact⟨(y.2.1,y.2.2),by rw[h1,e2];rfl,trivial,hw⟩
end
section
variable{S:List (Nat×Value)}{d:Nat}{ty t t':TypeId}{pos:String}{af:Array Edge}{gd:Option (Nat×Bool)}{x y:Operand}
theorem R3{G:World->Prop}(a:Rs)(hx:ev S x=.agg ⟨a.cells⟩)(hy:ev S y=.agg ⟨a.cells⟩)(ht:rP prog t [0,1,0,2,0,0] [0,1]=true):aM prog S G ⟨some d,.binOp .neq t x y t',ty,pos,af,gd⟩ (.bool false):=by have h:=xe (P:=prog) (G:=G) (d:=d) (ty:=ty) (pos:=pos) (af:=af) (gd:=gd) (t':=t') hx hy ht;rw[decide_eq_true (rfl:a=a)] at h;exact h
theorem vl{G:World->Prop}(a:Rs)(hx:ev S x=.agg ⟨a.cells⟩)(hy:ev S y=.agg ⟨a.cells⟩)(ht:rP prog t [0,1,0,2,0,0] [0,1]=true):aM prog S G ⟨some d,.binOp .eql t x y t',ty,pos,af,gd⟩ (.bool true):=by have h:=vq (P:=prog) (G:=G) (d:=d) (ty:=ty) (pos:=pos) (af:=af) (gd:=gd) (t':=t') hx hy ht;rw[decide_eq_true (rfl:a=a)] at h;exact h
abbrev awX(q:AX×AX×Option Addr×Nat):XS:=XS.new (L4 q.1 q.2.1) [0,3,4] 1 0 q.2.1.pn q.2.1.cn q.2.2.1 q.2.2.2
theorem aCQ(q:AX×AX×Option Addr×Nat):Sz (awX q) 8:=⟨by show 4<=8;decide,by show 3<=8;decide,by show(1:Int)<=((8:Nat):Int);decide⟩
theorem Yy{L:List aQ}{cs:List Int}{gen:Int}{pn pc:Option Addr}{cn cc:Nat}{w:World}(h:nM w L cs pn pc)(hL:L.length<=274877906944)(hC:cs.length<=274877906944)(hcn:L.length<=cn)(hp:fS L cs gen)(hmo:ax ⟨L.map aQ.c,cs,gen⟩) :
  Calls prog 71 #[.agg ⟨[.slice pn L.length cn,.slice pc cs.length cc,.int .i64 gen]⟩] w λ e w'=>∃q:Nat×AS,e=.returned (.tuple #[.pointer (some ⟨q.1,0,none⟩),.int .i64 0])/\(q.2.mm=⟨L.map aQ.c,cs,gen⟩/\q.2.Ok)/\SF w [] [(q.1,fR q.2)] [] (aN q.2.L) (gC q.2) w' :=
 (li h hL hC hcn hp).mono λ e w' ⟨x,e1,⟨h1,h2⟩,hw⟩=>by
  have hm:(AS.mm ⟨x.2.1,cs,gen,0,x.2.2.1.1,x.2.2.1.2,x.2.2.2.1,x.2.2.2.2⟩)=⟨L.map aQ.c,cs,gen⟩:=by show Mm.mk ((cI x.2.1).map aQ.c) cs gen=_;rw[h1]
  exact⟨(x.1,⟨x.2.1,cs,gen,0,x.2.2.1.1,x.2.2.1.2,x.2.2.2.1,x.2.2.2.2⟩),e1,⟨hm,⟨h2,by rw[hm];exact hmo⟩⟩,hw⟩
set_option maxRecDepth 100000 in
set_option maxHeartbeats 2000000 in
theorem Zk(w:World):Calls prog 56 #[] w λ e w'=>e=.returned (.bool true)/\St w [] [] w':=by
 refine enter func56 ntmps56 rfl rfl (SF.s0 w) ?_;simp only[cC];refine cU ?_;refine J0 ?_;refine aD (Tg (Fc:=λ _=>[]) (hc:=λ w1 hw=>sr w1)) (λ x10 h10=>?_);refine Ka5 ?_;refine aD (cM (hc:=λ w hs=>Sg hs)) (λ x12 h12=>?_);refine aJ (λ x2=>?_);refine J5 ?_;refine K1g ?_;refine aD (Tg (V:=λ q:Nat×AS=>.tuple #[.pointer (some ⟨q.1,0,none⟩),.int .i64 0]) (Hc:=λ q=>[(q.1,fR q.2)]) (Fc:=λ q=>aN q.2.L) (Oc:=λ q=>gC q.2) (hc:=λ w1 hw=>Yy (L:=L4 x12.1 x12.2.1) (cs:=[0,3,4]) (hw.Fe (.inr (.inr (.inr ⟨_,.head _,rfl,rfl⟩))) (.inr (.inr (.inr ⟨_,.tail _ (.head _),rfl,rfl⟩))) (λ f hf=>.inl (Hh f hf)) (P1 x12.1 x12.2.1 0 none 0 none 0).fit) (by show 4<=_;decide) (by decide) (hw.yy .head) (Z4 _ _) (P1 x12.1 x12.2.1 0 none 0 none 0).mo)) (λ x18 h18=>?_);have hmm:x18.2.mm=Az:=h18.1;have hsm:x18.2.mm.Small:=by rw[hmm];exact⟨by decide,by decide⟩
 refine Kb8 ?_;refine tG ?_;refine bD (λ c22=>?_) (λ c22=>?_);·try (contradiction)
 ·try (first|contradiction|(exfalso;omega))
  refine Kb3 ?_;refine aC (jb rf (λ w=>Dr _ w)) rfl ?_;refine bO ?_;refine aD (cMH (V:=λ x:Nat×Cd×Fr×AS=>.pointer (some ⟨x.1,0,none⟩)) (hs:=[(x18.1,fR x18.2)]) (os:=gC x18.2) (hs':=λ x=>[(x18.1,fR x.2.2.2)]) (Hc:=λ x=>[(x.1,tO x18.1 x.2.1 0)]) (os':=λ x=>gC x.2.2.2) (Oc:=λ _=>[]) (Fc:=λ x=>x.2.2.1) (A0:=aN x18.2.L) (hA:=bH.of λ f hf=>.inr (.inr (.inl (by simp[hf])))) (hc:=λ w1 hw=>by have:=Nh (Qw (B:=[]) h18.2 hsm (λ f hf=>hf) (λ x hx=>nomatch hx) hw);rw[hmm] at this;exact this)) (λ x26 h26=>?_);refine Kd9 ?_;refine mJ ?_;refine aA ?_;(refine Ka3 ?_);((refine aF ?_;refine aD (cM (V:=λ y:Fr×AS=>.int .i64 3) (hs:=[(x26.1,tO x18.1 x26.2.1 0),(x18.1,fR x26.2.2.2)]) (os:=gC x26.2.2.2) (hs':=λ y=>[(x26.1,tO x18.1 (iG (dM false 0)) 3),(x18.1,fR y.2)]) (os':=λ y=>gC y.2) (Fc:=λ y=>y.1) (A0:=aN x26.2.2.2.L++(x26.2.2.1++[])) (hA:=bH.of λ f hf=>(List.mem_append.1 hf).elim (λ h=>(h26.1.2.2.fam f h).imp_right λ h=>.inr (.inl (h.elim (λ h=>List.mem_append_right _ (by simp[h])) λ h=>List.mem_append_left _ h))) λ h=>.inr (.inr (.inl (List.mem_append_left _ (by simpa using h))))) (hc:=λ w1 hw=>X3 Gu aDQ.1 aDQ.2 ⟨by decide,by decide⟩ h26.1 (λ f hf=>List.mem_append_left _ hf) (λ f hf=>List.mem_append_right _ hf) hw)) (λ x31 h31=>?_)));refine Q3 ?_;refine aA ?_;(refine Ka3 ?_);((refine aF ?_;refine aP (cV (hc:=λ w1 hw=>Rx (d:=true) rfl (hw.st.at cY))) (λ x36=>?_)));refine Oh ?_;refine aA ?_;(refine Ka3 ?_);((refine aF ?_;refine aP (cV (hc:=λ w1 hw=>Al (r:=dM false 0) (d:=true) rfl (if_pos rfl) (hw.st.at cY))) (λ x41=>?_)));((refine aF ?_;refine bM ?_));((refine aF ?_;refine aC (R3 (dM false 0) rf rf (by kernel_rfl)) rfl ?_));refine Kd8 ?_;refine bD (λ c44=>?_) (λ c44=>?_);·exact nv c44
  ·try (first|contradiction|(exfalso;omega))
   refine Kb3 ?_;refine bO ?_;refine bM ?_;refine aD (cMH (V:=λ q:Nat×XS×List aQ×Bool×Rs=>.pointer (some ⟨q.1,0,none⟩)) (hs:=[(x10.1,mO (L4 x12.1 x12.2.1) [0,3,4] 1 0 x12.2.1.pn x12.2.1.cn x12.2.2.1 x12.2.2.2)]) (os:=mW (L4 x12.1 x12.2.1) [0,3,4] x12.2.1.pn x12.2.1.cn x12.2.2.1 x12.2.2.2) (hs':=λ q=>[(x10.1,xM q.2.1)]) (Hc:=λ q=>[(q.1,xO kA x10.1 q.2.1 q.2.2.2.1 q.2.2.2.2)]) (os':=λ q=>Vd q.2.1) (Oc:=λ q=>exL q.2.1) (Fc:=λ q=>aN q.2.2.1) (A0:=aN (L4 x12.1 x12.2.1)) (hA:=bH.of λ f hf=>.inl (Hh f hf)) (hc:=λ w1 hw=>Pu (k:=kA) (m:=63) (L:=L4 x12.1 x12.2.1) (cs:=[0,3,4]) (gen:=1) (acc:=0) ⟨by show 4<=_;decide,by decide,by decide⟩ (.inr ⟨by decide,by decide⟩) (by decide) rfl (by decide) (bN _) (bN _) (bN _) (λ f hf=>hf) (P1 _ _ _ _ _ _ _) hw)) (λ x48 h48=>?_);refine jG ?_;refine cO ?_;obtain⟨R0,hR0⟩:=qx (x0:=awX x12) rfl (aCQ x12) h48;refine mN [49,50,51,52,53] (λ _:RY=>[]) (λ y=>o5 (awX x12) y) (λ y=>[(x48.1,xO kA x10.1 y.x y.dn y.rs),(x2,.cells ⟨[.int .i64 3,.bool false]⟩ 29 (0,0)),(x10.1,xM y.x)]) (λ y=>aN y.N) (λ y=>[⟨y.x.pg,aH y.x.got,y.x.kg,37,1⟩,⟨y.x.pm,aH y.x.made,y.x.km,37,1⟩,⟨y.x.pl,aH y.x.cel,y.x.kl,27,1⟩,⟨y.x.pe,aH y.x.gns,y.x.ke,3,1⟩,⟨y.x.pn,iH y.x.L,y.x.cn,47,14⟩,⟨y.x.pc,aH y.x.cs,y.x.cc,37,1⟩]) (λ y=>8-y.i) (⟨0,x48.2.1,x48.2.2.1,x48.2.2.2.1,x48.2.2.2.2,R0⟩) (hR0) (λ y f hx=>?_) (hw0:=λ w hw=>hw.back (hH:=by exact .cons_cons _ (.cons _ (.cons _ (List.Sublist.refl _)))) (hF:=by exact bA.iT λ f hf=>List.mem_append_left _ hf) (hO:=by exact .cons_cons _ (.cons_cons _ (.cons_cons _ (.cons_cons _ (.cons _ (.cons _ (List.Sublist.refl _))))))));refine K0a ?_;have hsx:=hx.run.sz;obtain⟨z1,z2,z3⟩:=hsx
   have hi:=hx.i;have hgl:=hx.run.gl;refine jS ?_;refine aD (cM (hs:=xH kA x48.1 x10.1 y.x y.dn y.rs) (os:=xW y.x) (hc:=λ w hs=>N7 hs)) (λ x50 h50=>?_);refine oG ?_;refine bD (λ c51=>?_) (λ c51=>?_)
   ·try (first|contradiction|(exfalso;omega))
    refine aW ?_;refine cO ?_;refine yG ?_;refine aD (cM (hs:=xH kA x48.1 x10.1 y.x y.dn y.rs) (os:=xW y.x) (A0:=aN y.x.L) (hA:=bH.of λ f hf=>by rw[hx.run.ext,cX] at hf;rcases List.mem_append.1 hf with hf|hf;exact .inl (Hh f hf);exact .inr (.inr (.inl hf))) (hc:=λ w hs=>Vb (N:=y.x.got.length+1) (n:=1073741824) (m:=63) (nA kA 63 (by omega)) (by omega) rfl ⟨by omega,by omega,by omega⟩ hx.run.ex (.inr ⟨by decide,by decide⟩) (Nat.le_refl _) (by decide) rfl (by decide) (bN _) (bN _) (bN _) (λ f hf=>hf) hs)) (λ x53 h53=>?_);refine aG ?_;refine eV ?_;have hdf:y.dn=false:=by simp_all
    have hq:uD (T0 kA 63) y.R 1 (y.x.got.length+1) y.rs y.x x53.1 x53.2.1 x53.2.2.1 x53.2.2.2:=by rcases h53 with h|h;rw[hdf] at h;cases h.1;exact h.2
    obtain⟨R1,hR1⟩:=hx.step hdf hq;have hlt:=hx.lt hdf;refine iS (⟨y.i+1,x53.1,y.N++x53.2.1,x53.2.2.1,x53.2.2.2,R1⟩) ?_ (hw1:=E0q);·exact hR1
   ·try (first|contradiction|(exfalso;omega))
    refine K1t ?_;refine K1g ?_;refine aD (Tg (V:=λ q:Nat×AS=>.tuple #[.pointer (some ⟨q.1,0,none⟩),.int .i64 0]) (Hc:=λ q=>[(q.1,fR q.2)]) (Fc:=λ q=>aN q.2.L) (Oc:=λ q=>gC q.2) (hc:=λ w1 hw=>Yy (L:=y.x.L) (cs:=y.x.cs) (hw.Fe (.inr (.inr (.inr ⟨_,.tail _ (.tail _ (.tail _ (.tail _ (.head _)))),rfl,rfl⟩))) (.inr (.inr (.inr ⟨_,.tail _ (.tail _ (.tail _ (.tail _ (.tail _ (.head _))))),rfl,rfl⟩))) (λ f hf=>by rw[hx.run.ext,cX] at hf;rcases List.mem_append.1 hf with hf|hf;exact .inl (Hh f hf);exact .inr (.inr (.inl hf))) hx.run.ex.ok.fit) (by omega) (by omega) (hw.yy (.tail (.tail (.tail (.tail .head))))) (hx.proper (by simpa using c51) rfl) hx.run.ex.ok.mo)) (λ x59 h59=>?_);have hmm1:x59.2.mm=Uz:=h59.1.trans (hx.done (by simpa using c51));have hsm1:x59.2.mm.Small:=by rw[hmm1];exact⟨by decide,by decide⟩
    refine Pj ?_;refine J8 ?_;refine J2 ?_;refine aC (jb rf (λ w=>Dr _ w)) rfl ?_;refine bO ?_;refine aD (cMH (V:=λ x:Nat×Cd×Fr×AS=>.pointer (some ⟨x.1,0,none⟩)) (hs:=[(x59.1,fR x59.2)]) (os:=gC x59.2) (hs':=λ x=>[(x59.1,fR x.2.2.2)]) (Hc:=λ x=>[(x.1,tO x59.1 x.2.1 0)]) (os':=λ x=>gC x.2.2.2) (Oc:=λ _=>[]) (Fc:=λ x=>x.2.2.1) (A0:=aN x59.2.L) (hA:=bH.of λ f hf=>.inr (.inr (.inl (by simp[hf])))) (hc:=λ w1 hw=>by have:=Nh (Qw (B:=[]) h59.2 hsm1 (λ f hf=>hf) (λ x hx=>nomatch hx) hw);rw[hmm1] at this;exact this)) (λ x65 h65=>?_);refine Ka5 ?_;refine lN ?_;refine aA ?_;(refine Ka3 ?_);((refine aF ?_;refine aD (cM (V:=λ y:Fr×AS=>.int .i64 3) (hs:=[(x65.1,tO x59.1 x65.2.1 0),(x59.1,fR x65.2.2.2)]) (os:=gC x65.2.2.2) (hs':=λ y=>[(x65.1,tO x59.1 (iG (dM true 8)) 3),(x59.1,fR y.2)]) (os':=λ y=>gC y.2) (Fc:=λ y=>y.1) (A0:=aN x65.2.2.2.L++(x65.2.2.1++[])) (hA:=bH.of λ f hf=>(List.mem_append.1 hf).elim (λ h=>(h65.1.2.2.fam f h).imp_right λ h=>.inr (.inl (h.elim (λ h=>List.mem_append_right _ (by simp[h])) λ h=>List.mem_append_left _ h))) λ h=>.inr (.inr (.inl (List.mem_append_left _ (by simpa using h))))) (hc:=λ w1 hw=>X3 Gu aD5.1 aD5.2 ⟨by decide,by decide⟩ h65.1 (λ f hf=>List.mem_append_left _ hf) (λ f hf=>List.mem_append_right _ hf) hw)) (λ x70 h70=>?_)));refine Kb2 ?_;(refine Ka3 ?_);((refine aF ?_;refine aP (cV (hc:=λ w1 hw=>Al (r:=dM true 8) (d:=true) rfl (if_pos rfl) (hw.st.at cY))) (λ x75=>?_)));((refine aF ?_;refine bM ?_));((refine aF ?_;refine aC (vl (dM true 8) rf rf (by kernel_rfl)) rfl ?_));refine Kb9 ?_;refine aS results56 (λ w hw=>?_);exact⟨rfl,hw.done⟩
end
section
structure LkR(ba:Nat)(R:Rs)(M:Mm)(G:Fr)(B:Nat)(z:TY):Prop where
 tk:TK ba (.done R) z.c z.a (z.F++G) 0
 mm:z.a.mm=M
 ak:AK z.a (z.F++G) B
theorem ir{ba bt B:Nat}{k:Cl}{m:Nat}{a:AS}{G A:Fr}{D:List Nat}{w:World}{M:Mm}{d N:Nat}{R:Rs}{y:TY}(hM:a.mm=M)(hr:jI (Ct.eF (T0 k m) M) (1+2*d)=(.done R,M))(hl:(jI (Ct.eF (T0 k m) M) (2*d)).1.live=true)(hN:1+2*d<=N/\N<=200)(hy:vu ba (T0 k m) a G 1000 (B+64) y)(hB:B<=90000000000)
  (hA1:∀f∈aN y.a.L,f∈A) (hA2:∀f∈y.F++G,f∈A) (hs:SF w D [(bt,tO ba y.c 0),(ba,fR y.a)] A [] (gC y.a) w) :
  Calls prog 30 #[.pointer (some ⟨bt,0,none⟩),.int .i64 ((N:Nat):Int)] w λ e w'=>∃z:TY,e=.returned (.int .i64 ((1+2*d:Nat):Int))/\LkR ba R M (y.F++G) (B+64+64*N) z/\SF w D [(bt,tO ba z.c z.n),(ba,fR z.a)] [] z.F (gC z.a) w':=by
 have hyt:TK ba (Ct.eF (T0 k m) a.mm).1 y.c y.a (y.F++G) (1000-N+N):=by rw[show 1000-N+N=1000 by omega];exact hy.tk
 refine(jf (most:=N) (k:=1000-N) hyt hy.ak (by omega) (by omega) hA1 hA2 hs).mono λ e w' ⟨z,e1,hz,hw⟩=>⟨z,?_,?_,hw⟩;·rw[(lx hM hr hl hN.1 hy hz).2.2] at e1;exact e1
 ·obtain⟨h1,h2,_⟩:=lx hM hr hl hN.1 hy hz;exact⟨h1,h2,hz.ak⟩
end
section
theorem uk:dX prog 102 9 [.string ⟨#[]⟩]:=lU (z:=.string ⟨#[]⟩) (by kernel_rfl) (by kernel_rfl) rfl
def ml(k:ByteArray):List ByteArray:=[⟨#[97]⟩,⟨#[98]⟩,⟨#[99]⟩,⟨#[100]⟩,⟨#[97,98]⟩,⟨#[]⟩,⟨#[98,48]⟩,⟨#[107,101,121]⟩,k++⟨#[110,111,110,101]⟩]
theorem aCP{k:ByteArray}{j:Nat}(h:j<9):((ml k).map Value.string)[j]?=some (.string ((ml k).getD j ⟨#[]⟩)):=by rw[List.getElem?_map,iX,List.getElem?_eq_getElem (show j<(ml k).length from h)];rfl
theorem aCi(v j:Nat):((ml (gT.getD v ⟨#[]⟩)).getD j ⟨#[]⟩).size<=64:=by
 have h8:(gT.getD v ⟨#[]⟩).size<=8:=by
  by_cases h:v<8
  ·have:v=0∨v=1∨v=2∨v=3∨v=4∨v=5∨v=6∨v=7:=by omega
   rcases this with rfl|rfl|rfl|rfl|rfl|rfl|rfl|rfl<;>decide
  ·rw[iX,List.getElem?_eq_none (by show 8<=v;omega)];decide
 have h9:(gT.getD v ⟨#[]⟩++⟨#[110,111,110,101]⟩:ByteArray).size<=64:=by rw[ByteArray.size_append];have h2:(⟨#[110,111,110,101]⟩:ByteArray).size=4:=rfl;omega
 by_cases h:j<9
 ·have:j=0∨j=1∨j=2∨j=3∨j=4∨j=5∨j=6∨j=7∨j=8:=by omega
  rcases this with rfl|rfl|rfl|rfl|rfl|rfl|rfl|rfl|rfl<;>first|exact h9|exact Nat.le_of_ble_eq_true rfl
 ·rw[iX,List.getElem?_eq_none (by show 9<=j;omega)];decide
def lkQ(t:dW)(m:Int)(key:ByteArray):Cl:=⟨7,t,0,0,0,0,0,m,key,0,0,0,false⟩
structure FjI(M:Mm)(F0:Fr)(n:Nat)(y:Nat×AS×Fr):Prop where
 i:y.1<=n
 mm:y.2.1.mm=M
 ak:AK y.2.1 y.2.2 2434356874
 sub:∀f∈F0,f∈y.2.2
theorem Sy{a:AS}{z:XS}(h:a.mm=z.mm):(cI a.L).map aQ.c=z.L.map aQ.c:=congrArg Mm.nodes h
theorem aC7{a:AS}{G:Fr}{B:Nat}{z:XS}(h:a.mm=z.mm)(h1:z.L.length<=2434356874)(h2:z.cs.length<=2434356874)(ha:AK a G B):AK a G 2434356874 :=⟨ha.ok,by rw[h];show(z.L.map aQ.c).length<=_;rw[List.length_map];exact h1,by rw[h];exact h2,ha.fam⟩
theorem wx{L:List aQ}{cs:List Int}{gen:Int}(hp:fS L cs gen)(m:Int)(h:(bE (L.map aQ.c) m).kind=5∨(bE (L.map aQ.c) m).kind=6):(bE (L.map aQ.c) m).xs=[]:=by rw[<- Bg] at h ⊢;exact G3 hp λ h3=>by rcases h with h|h<;>(have h':(aB L m).nd.kind=_:=h;omega)
theorem aAL{m:Nat}{M:Mm}{ts:List dW}{σ:Kw}(q:QS (H8 m) M ts σ){t:dW}(ht:t∈ts){r:Int}(h:kT M.nodes M.cs t.root=some r):(Ds M.nodes M.cs 12 r).Pairwise (uv (H8 m)):=by have em:=q.mm;subst em;obtain⟨r',hr,hI⟩:=Mv q.inv (q.ts _ ht);rw[<- Option.some.inj (hr.symm.trans h)];exact(Ia q.inv 12 r' [] (σ.nd r').gen ⟨hI,rfl⟩).2
set_option maxRecDepth 100000 in
set_option maxHeartbeats 4000000 in
theorem Ir{l l2:List Int}{a a2:Option Addr}{c c2:Nat}{w:World}(h1:Go.Ct.Cl w a (aH l))(hl:l.length<=17592186043904)(h2:Go.Ct.Cl w a2 (aH l2))(hl2:l2.length<=17592186043904) :
  Calls prog 16 #[.slice a l.length c,.slice a2 l2.length c2] w λ e w'=>e=.returned (.bool true)/\St w [] [] w':=by
 refine enter func16 ntmps16 rfl rfl (SF.s2 h1 h2) ?_;simp only[cC];refine Kb5 ?_;refine aD (Tg (Hc:=λ q:Nat×Nat×Nat×Wd=>wH q.2.2.1 q.1 q.2.1 q.2.2.2) (H1:=λ q=>(q.1,oY q.2.1 (q.2.2.1:Int) q.2.2.2.pt q.2.2.2.ts.length q.2.2.2.kt q.2.2.2.pe (pD q.2.2.2.ex).length q.2.2.2.ke)::(q.2.1,xM q.2.2.2.z)::H7 q.2.1 q.2.2.2.ex) (Fc:=λ q=>aN q.2.2.2.z.L) (F1:=λ q=>aN q.2.2.2.z.L) (Oc:=λ q=>wO q.2.2.2) (O1:=λ q=>⟨q.2.2.2.pt,uA q.2.2.2.ts,q.2.2.2.kt,29,2⟩::⟨q.2.2.2.pe,yY (pD q.2.2.2.ex),q.2.2.2.ke,74,1⟩::⟨q.2.2.2.z.pn,iH q.2.2.2.z.L,q.2.2.2.z.cn,47,14⟩::⟨q.2.2.2.z.pc,aH q.2.2.2.z.cs,q.2.2.2.z.cc,37,1⟩::Er q.2.2.2.ex) (hH1:=λ q=>List.append_nil _) (hF1:=λ q=>List.append_nil _) (hO1:=λ q=>List.append_nil _) (hc:=λ w1 hw=>fk (hw.cl fin) hl)) (λ x17 h17=>?_);have hm:=h17.1;have hW:=h17.2;have htl:=hW.tl;have ht0:=hW.t0;refine Ka5 ?_;refine aD (cT 0 0 (V:=λ _:XS×List aQ=>.tuple #[]) (hs:=wH x17.2.2.1 x17.1 x17.2.1 x17.2.2.2) (os:=wO x17.2.2.2) (A0:=aN x17.2.2.2.z.L) (H1:=λ r:XS×List aQ=>[(x17.1,oY x17.2.1 (x17.2.2.1:Int) x17.2.2.2.pt x17.2.2.2.ts.length x17.2.2.2.kt none 0 0),(x17.2.1,xM r.1)]) (O1:=λ r=>[⟨x17.2.2.2.pt,uA x17.2.2.2.ts,x17.2.2.2.kt,29,2⟩,⟨none,yY [],0,74,1⟩,⟨r.1.pn,iH r.1.L,r.1.cn,47,14⟩,⟨r.1.pc,aH r.1.cs,r.1.cc,37,1⟩]) (F1:=λ r=>aN r.1.L) (hc:=λ w hs=>l8 (by decide) (by decide) (by decide) hm hW (λ f hf=>hf) hs) (hA:=E1b) (hF1:=λ r hr f hf=>by rw[hr.2,cX] at hf;exact .inr ((List.mem_append.1 hf).elim (λ h=>List.mem_append_right _ h) (λ h=>List.mem_append_left _ h)))) (λ x19 h19=>?_);have hZ:Fa x17.2.2.1 2434356874 1192612 0 (zW x17.2.2.2 x19.1):=h19.1;have s1:x19.1.L.length<=2434356874:=hZ.sz.1;have s2:x19.1.cs.length<=2434356874:=hZ.sz.2.1;obtain⟨σ,hq⟩:=WR.rest (show WR (H8 x17.2.2.1) x17.2.2.1 x19.1.mm x17.2.2.2.ts [] from hZ.wr)
 refine aG ?_;refine mP ?_;refine aD (cMH (V:=λ q:Nat×AS=>.pointer (some ⟨q.1,0,none⟩)) (hs:=[(x17.2.1,xM x19.1)]) (os:=Vd x19.1) (hs':=λ _=>[(x17.2.1,xM x19.1.a0)]) (Hc:=λ q=>[(q.1,fR q.2)]) (os':=λ _=>Vd x19.1) (Oc:=λ q=>gC q.2) (Fc:=λ q=>aN q.2.L) (A0:=aN x19.1.L) (hA:=E1b) (hc:=λ w1 hw=>b9 hZ.z (mT hZ) (by omega) (by omega) (λ f hf=>hf) hw)) (λ x24 h24=>?_);obtain⟨hmm0,hok0⟩:=h24;have hln:x19.1.mm.nodes.length=x19.1.L.length:=by show(x19.1.L.map aQ.c).length=_;rw[List.length_map]
 have hl0:x24.2.mm.nodes.length=x19.1.L.length:=by rw[hmm0];exact hln
 have hc0:x24.2.mm.cs.length=x19.1.cs.length:=by rw[hmm0];rfl
 have hgn:x24.2.gen=x19.1.gen:=congrArg Mm.gen hmm0;have hak0:AK x24.2 (aN x24.2.L++aN x19.1.L) 2434356874:=⟨hok0,by omega,by omega,λ f hf=>.inr (List.mem_append_left _ hf)⟩;refine Kd9 ?_;refine tG ?_;refine bD (λ c26=>?_) (λ c26=>?_)
 ·try (contradiction)
 ·try (first|contradiction|(exfalso;omega))
  refine lB ?_;refine mP ?_;refine dV ?_;refine Kd5 ?_;refine mN [4,8,9,10,12,13,14,15,32,33,34,35,36,37,38,39,40,41,42,43,44,45,46,47,48,49,50,51,52,53,54,55,56,57,58,59,60,61,62,63,64,65,66,67,68,69,70,71,72,73,74,75,76,77,78,79,80,81,82,83,84,85,86,87,88,89,90,91,92] (λ y:Nat×AS×Fr=>[(32,.int .i64 ((y.1:Nat):Int))]) (λ y=>FjI x19.1.mm (aN x19.1.L) x17.2.2.2.ts.length y) (λ y=>[(x24.1,fR y.2.1),(x17.1,oY x17.2.1 (x17.2.2.1:Int) x17.2.2.2.pt x17.2.2.2.ts.length x17.2.2.2.kt none 0 0),(x17.2.1,xM x19.1.a0)]) (λ y=>y.2.2) (λ y=>[⟨y.2.1.pn,iH y.2.1.L,y.2.1.cn,47,14⟩,⟨y.2.1.pc,aH y.2.1.cs,y.2.1.cc,37,1⟩,⟨x17.2.2.2.pt,uA x17.2.2.2.ts,x17.2.2.2.kt,29,2⟩,⟨none,yY [],0,74,1⟩,⟨x19.1.pn,iH x19.1.L,x19.1.cn,47,14⟩,⟨x19.1.pc,aH x19.1.cs,x19.1.cc,37,1⟩]) (λ y=>x17.2.2.2.ts.length-y.1) ((0,x24.2,aN x24.2.L++aN x19.1.L)) (⟨Nat.zero_le _,hmm0,hak0,λ f hf=>List.mem_append_right _ hf⟩) (λ y f hx=>?_) (hw0:=λ w hw=>hw.v6);refine K0a ?_;obtain⟨hyi,hym,hya,hys⟩:=hx;refine Kd7 ?_;refine bD (λ c33=>?_) (λ c33=>?_)
  ·try (first|contradiction|(exfalso;omega))
   refine rT ?_;refine J0 ?_;refine aC (ob (cs:=uA x17.2.2.2.ts) (k:=y.1) rf rf gS eD fin (by omega) (by rw[rH];omega)) rfl ?_;refine aC (Vq (ts:=x17.2.2.2.ts) (q:=y.1) rf eD fin (by omega)) rfl ?_;have htm:(x17.2.2.2.ts.getD y.1 ⟨0,false⟩)∈x17.2.2.2.ts:=I1 (by omega);have hrt:=hZ.root (by decide) htm;obtain⟨r,q,hro,hpq,_,_⟩:=Rf hZ htm
   have hqc:q.2=Ds x19.1.mm.nodes x19.1.mm.cs 12 r:=wb (wx (mT hZ)) hpq;have hpw:=aAL hq htm hro;refine aJ (λ x8=>?_);refine J5 ?_;refine aT ?_;refine gH [0,1,2,3,4,5,6,7,8,9,10,11,12,13] ?_;refine sm ?_;refine J4 ?_;refine bU (i:=6) (hq:=(aU (k:=3) rf cY eD E1d rfl)) (h:=?_);refine bV ?_;refine bI (i:=8) (hq:=(Tg (V:=λ x:Option Addr×Nat×Fr=>.tuple #[.slice x.1 q.2.length x.2.1,.int .i64 0]) (Hc:=λ _=>[]) (Fc:=λ x=>x.2.2) (F1:=λ x=>x.2.2++y.2.2) (Oc:=λ _=>[]) (hF1:=λ x=>rfl) (hc:=λ w1 hw=>iu (B:=8) (mT hZ) (hw.Fe (by exact .inr (.inr (.inr ⟨_,.tail _ (.tail _ (.tail _ (.tail _ (.head _)))),rfl,rfl⟩))) (by exact .inr (.inr (.inr ⟨_,.tail _ (.tail _ (.tail _ (.tail _ (.tail _ (.head _))))),rfl,rfl⟩))) (λ f hf=>.inr (.inr (.inl (hys f hf)))) hZ.z.fit) (xv hZ.z) (by show x19.1.L.length<=_;omega) (by show x19.1.cs.length<=_;omega) (bc hZ) (by show(x19.1.L.length+1)*(8+64)<=_;omega) _ _ hrt hro hpq))) (h:=λ x45 h45=>?_);refine aV ?_;refine iJ ?_;refine iJ ?_;refine Pa ?_;refine jS ?_;refine Kc5 ?_;refine bD (λ c49=>?_) (λ c49=>?_)
   ·exact nv c49
   ·try (first|contradiction|(exfalso;omega))
    refine Kb3 ?_;refine aD (Tg (Fc:=λ _=>[]) (Oc:=λ _=>[]) (hc:=λ w1 hw=>aAA)) (λ x51 h51=>?_);refine aD (zB (hc:=λ w1 hw=>ou (hw.tape cY fin hl2))) (λ x52 h52=>?_);refine aC (n9 rf rf (by have:=Ud x52;have h2:(⟨#[110,111,110,101]⟩:ByteArray).size=4:=rfl;omega)) rfl ?_;refine aP ((by exact Kk (λ _=>cW (cs:=((ml (gT.getD x52 ⟨#[]⟩)).map Value.string)) uk Kg rfl rfl rfl rfl rfl))) (λ x54=>?_);refine dV ?_;refine Kd5 ?_;refine mN [4,12,13,14,15,56,57,58,59,60,61,62,63,64,65,66,67,68,69,70,71,72,73,74,75,76,77,78,79,80,81,82,83,84,85,86,87,88,89,90,91] (λ u:Nat×AS×Fr=>[(56,.int .i64 ((u.1:Nat):Int))]) (λ u=>FjI x19.1.mm (List.cons (some ⟨x54,0,none⟩,((ml (gT.getD x52 ⟨#[]⟩)).map Value.string)) (x45.2.2++y.2.2)) 9 u) (λ u=>[(x8,.cells ⟨[.int .i64 (x17.2.2.2.ts.getD y.1 ⟨0,false⟩).root,.bool (x17.2.2.2.ts.getD y.1 ⟨0,false⟩).ro]⟩ 29 (0,0)),(x24.1,fR u.2.1),(x17.1,oY x17.2.1 (x17.2.2.1:Int) x17.2.2.2.pt x17.2.2.2.ts.length x17.2.2.2.kt none 0 0),(x17.2.1,xM x19.1.a0)]) (λ u=>u.2.2) (λ u=>[⟨u.2.1.pn,iH u.2.1.L,u.2.1.cn,47,14⟩,⟨u.2.1.pc,aH u.2.1.cs,u.2.1.cc,37,1⟩,⟨x17.2.2.2.pt,uA x17.2.2.2.ts,x17.2.2.2.kt,29,2⟩,⟨none,yY [],0,74,1⟩,⟨x19.1.pn,iH x19.1.L,x19.1.cn,47,14⟩,⟨x19.1.pc,aH x19.1.cs,x19.1.cc,37,1⟩]) (λ u=>9-u.1) ((0,y.2.1,(List.cons (some ⟨x54,0,none⟩,((ml (gT.getD x52 ⟨#[]⟩)).map Value.string)) (x45.2.2++y.2.2)))) (⟨Nat.zero_le _,hym,⟨hya.ok,hya.s1,hya.s2,λ f hf=>(hya.fam f hf).imp_right λ h=>List.mem_cons_of_mem _ (List.mem_append_right _ h)⟩,λ f hf=>hf⟩) (λ u f hx=>?_) (hw0:=λ w hw=>hw.v6);refine K0a ?_;obtain⟨hui,hum,hua,hus⟩:=hx;obtain⟨key,hkey⟩:∃key,key=(ml (gT.getD x52 ⟨#[]⟩)).getD u.1 ⟨#[]⟩:=⟨_,rfl⟩;have hk64:key.size<=64:=by rw[hkey];exact aCi x52 u.1
    obtain⟨fo,fv,d,hr1,hr2,hd1,hd2,r',hro',hfd,_⟩:=kr hq (k:=lkQ (x17.2.2.2.ts.getD y.1 ⟨0,false⟩) (x17.2.2.1:Int) key) htm rfl hk64;have er:r'=r:=Option.some.inj (hro'.symm.trans hro);obtain⟨hf1,hf2⟩:=nl (key:=key) hpw (er▸hfd);have hkm:(some ⟨x54,0,none⟩,((ml (gT.getD x52 ⟨#[]⟩)).map Value.string))∈u.2.2:=hus _ (List.mem_cons_self ..);have hcm:(x45.1,dF q.2)∈u.2.2:=hus _ (List.mem_cons_of_mem _ (h45.1.elim (λ h=>List.mem_append_right _ (hys _ h)) λ h=>List.mem_append_left _ h));have hcl:q.2.length<=(x19.1.L.length+1)*(8+64):=h45.2;have hol:=On q.2;rw[<- hqc] at hf1 hf2;refine Kd7 ?_;refine bD (λ c57=>?_) (λ c57=>?_)
    ·try (first|contradiction|(exfalso;omega))
     refine rT ?_;refine J0 ?_;refine aC (Xg (cs:=((ml (gT.getD x52 ⟨#[]⟩)).map Value.string)) (k:=u.1) rf rf gS fW (.new (Aw.pW hkm)) (by omega) (by rw[List.length_map];show u.1<9;omega)) rfl ?_;refine aC (Xk (cs:=((ml (gT.getD x52 ⟨#[]⟩)).map Value.string)) (q:=u.1) (v:=.string key) rf fW (.new (Aw.pW hkm)) (by rw[hkey];exact aCP (by omega))) rfl ?_;refine jG ?_;refine gH [0,1,2,3,4,5,6,7,8,9] ?_;refine aV ?_;refine cZ (i:=1) (hq:=(jb rf (λ w=>Dr _ w))) (h:=?_);refine bV ?_;refine sm ?_;refine aV ?_;refine bI (i:=8) (hq:=(cMH (V:=λ x:Nat×TY=>.pointer (some ⟨x.1,0,none⟩)) (hs:=[(x24.1,fR u.2.1)]) (os:=gC u.2.1) (hs':=λ x=>[(x24.1,fR x.2.a)]) (Hc:=λ x=>[(x.1,tO x24.1 x.2.c 0)]) (os':=λ x=>gC x.2.a) (Oc:=λ _=>[]) (Fc:=λ x=>x.2.F) (A0:=aN u.2.1.L) (hA:=hua.aCI) (hc:=λ w1 hw=>fm (k:=lkQ (x17.2.2.2.ts.getD y.1 ⟨0,false⟩) (x17.2.2.1:Int) key) (m:=x17.2.2.1) rfl hrt hm (by show key.size<=_;omega) hua (by omega) (λ f hf=>hf) hw))) (h:=λ x68 h68=>?_);refine J7 ?_;refine jS ?_;refine tG ?_;refine bD (λ c70=>?_) (λ c70=>?_);·try (contradiction)
     ·try (first|contradiction|(exfalso;omega))
      refine Kb3 ?_;refine aD (cM (V:=λ _:TY=>.int .i64 ((1+2*d:Nat):Int)) (hs:=[(x68.1,tO x24.1 x68.2.c 0),(x24.1,fR x68.2.a)]) (os:=gC x68.2.a) (hs':=λ v=>[(x68.1,tO x24.1 v.c v.n),(x24.1,fR v.a)]) (os':=λ v=>gC v.a) (Fc:=λ v=>v.F) (A0:=aN x68.2.a.L++(x68.2.F++u.2.2)) (hA:=h68.ak.all) (hc:=λ w1 hw=>ir (N:=200) hum hr1 hr2 ⟨by omega,by decide⟩ h68 (by decide) (λ f hf=>List.mem_append_left _ hf) (λ f hf=>List.mem_append_right _ hf) hw)) (λ x72 h72=>?_);refine aG ?_;refine J2 ?_;refine aD (cF (V:=λ x:Option Addr×Nat=>.slice x.1 (zE q.2).length x.2) (Fc:=λ x=>[(x.1,dF (zE q.2))]) (hc:=λ w1 hw=>Wa (l:=q.2) (hw.cl (.new (Aw.pW (List.mem_append_right _ (List.mem_append_right _ hcm))))) (by omega))) (λ x75 h75=>?_);refine aA ?_;refine aP (cV (v:=.tuple #[.int .u64 fv,.bool fo]) (hc:=λ w1 hw=>by have:=Dh (l:=zE q.2) (c:=x75.2) key (hw.cl (.new .head)) (by omega);rw[hf1,hf2] at this;exact this)) (λ x77=>?_);refine Pj ?_;refine J8 ?_;refine J2 ?_;refine aP (cV (hc:=λ w1 hw=>Rx (d:=true) h72.tk.done.1 (hw.st.at cY))) (λ x81=>?_);refine Cr ?_;(refine Ka3 ?_);((refine aF ?_;refine aP (cV (hc:=λ w1 hw=>Al (d:=true) h72.tk.done.1 h72.tk.done.2 (hw.st.at cY))) (λ x85=>?_)));((refine Ka3 ?_));((refine Ka3 ?_));((refine aF ?_;refine bM ?_));((refine aF ?_;refine aC (R3 (dM fo fv) rf rf (by kernel_rfl)) rfl ?_));refine Kd8 ?_;refine bD (λ c90=>?_) (λ c90=>?_);·exact nv c90
      ·try (first|contradiction|(exfalso;omega))
       refine pE ?_;refine Kc7 ?_;refine iS ((u.1+1,x72.a,x72.F++(x68.2.F++u.2.2))) ?_ (hw1:=λ w hw=>hw.back (hF:=E0n));·exact⟨by show u.1+1<=9;omega,h72.mm,aC7 h72.mm s1 s2 h72.ak,λ f hf=>List.mem_append_right _ (List.mem_append_right _ (hus f hf))⟩
    ·try (first|contradiction|(exfalso;omega))
     refine Xz ?_;refine Kc7 ?_;refine iS ((y.1+1,u.2.1,u.2.2)) ?_ (hw1:=λ w hw=>hw.v6);·exact⟨by show y.1+1<=_;omega,hum,hua,λ f hf=>hus _ (List.mem_cons_of_mem _ (List.mem_append_right _ (hys f hf)))⟩
  ·try (first|contradiction|(exfalso;omega))
   refine K1t ?_;refine aT ?_;refine eI [(0,[]),(1,[]),(2,[]),(4,[]),(5,[]),(6,[]),(7,[]),(8,[]),(9,[]),(10,[]),(3,[7,10]),(11,[]),(12,[]),(13,[])] ?_;refine dB (i:=0) (hq:=(cV (hc:=λ w1 hw=>Zk w1))) (h:=λ x93=>?_);refine aV ?_;(refine aV ?_);((refine aV ?_));refine J30 ?_;((refine uG ?_));((refine aY ?_));((refine bU (i:=10) (hq:=(aU (k:=3) rf cY eD E1d rfl)) (h:=?_)));((refine bI (i:=3) (hq:=(cMO (hs:=[(x24.1,fR y.2.1)]) (os:=gC y.2.1) (A0:=aN y.2.1.L) (hA:=hya.aCI) (hc:=λ w hs=>kj (L:=y.2.1.L) (cs:=y.2.1.cs) hs hya.ok.fit (by have h9:=Vj y.2.1;have:=hya.s1;omega) (by have h8:y.2.1.cs.length<=2434356874:=hya.s2;omega)))) (hfire:=(λ _=>by(refine fV ?_;(repeat (first|exact aL.nil|refine aL.cons (by first|exact fA|exact gD (hq:=aU (k:=3) rf cY eD (by simp only[List.drop_zero,List.take_succ_cons,List.take_zero];exact rfl) rfl)) ?_));done))) (h:=λ x96 h96=>?_)));((refine dB (i:=11) (hq:=(cV (hc:=λ w hw=>zi (L1:=x96.1) (L2:=x19.1.L) (cs1:=y.2.1.cs) (cs2:=x19.1.cs) (hw.Fe (by exact .inr (.inr (.inr ⟨_,.head _,rfl,rfl⟩))) (by exact .inr (.inr (.inr ⟨_,.tail _ (.head _),rfl,rfl⟩))) (λ f hf=>.inr (.inr (.inl (List.mem_append_left _ hf)))) h96.2) (hw.Fe (by exact .inr (.inr (.inr ⟨_,.tail _ (.tail _ (.tail _ (.tail _ (.tail _ (.tail _ (.head _)))))),rfl,rfl⟩))) (by exact .inr (.inr (.inr ⟨_,.tail _ (.tail _ (.tail _ (.tail _ (.tail _ (.tail _ (.tail _ (.head _))))))),rfl,rfl⟩))) (λ f hf=>.inr (.inr (.inl (List.mem_append_right _ (hys f hf))))) hZ.z.fit) (by have:=congrArg List.length (h96.1.trans (Sy hym));rw[List.length_map,List.length_map] at this;omega) (by omega) (by have h8:y.2.1.cs.length<=2434356874:=hya.s2;omega) ⟨h96.1.trans (Sy hym),congrArg Mm.gen hym,congrArg Mm.cs hym⟩))) (h:=λ x104=>?_)));refine lZ ?_;refine J7 ?_;refine aS results16 (λ w hw=>?_);exact⟨rfl,hw.done⟩
end
end Go.Proofs.YtbajmaoegmbfgaaGreat
