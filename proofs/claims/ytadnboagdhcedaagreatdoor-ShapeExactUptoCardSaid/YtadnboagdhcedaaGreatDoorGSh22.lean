/- Shape: the two small tries of the sanity check. -/
import Derived.Test.YtadnboagdhcedaaGreatDoorGR9s
import Derived.Test.YtadnboagdhcedaaGreatDoorGHs
import Derived.Test.YtadnboagdhcedaaGreatDoorGKw1
import Derived.Test.YtadnboagdhcedaaGreatDoorGNode4
import Derived.Test.YtadnboagdhcedaaGreatDoorGEx24
import Derived.Test.YtadnboagdhcedaaGreatDoorGJoin

set_option linter.unusedSimpArgs false
set_option linter.unusedVariables false
namespace Go.Proofs.YtadnboagdhcedaaGreatDoor
section
open Go Go.RowKit Go.Ct
def vt:List Nv:=[dH.c,dH.c,eH (Tf.c [] []) 0,eH ((wK 1).c [] []) 1]
theorem y7(x y:AX):(L4 x y).map aI.c=vt:=rfl
theorem aCG:BV 0 []:=⟨by decide,by decide,λ i hi=>absurd hi (Nat.not_lt_zero i)⟩
theorem aBt{r:Int}(h:1<=r):BV 1 [r]:=⟨by decide,by show 1=gB 1 64;decide,λ i hi=>by
 have:i=0:=by simp at hi;omega
 subst this
 exact h⟩
theorem I9:fR vt [0,3,4] 1:=by
 have h0:=vK (gen:=1) (by decide);have h1:=h0.push (init:=0) (n:=Tf.c [] []) (Cf (b:=0) (by decide) aCG (λ r hr=>nomatch hr)) ⟨by decide,by decide⟩;have h2:=h1.push (init:=3) (n:=(wK 1).c [] []) (Bx (by decide) (by decide)) ⟨by decide,by decide⟩;exact h2.cell (init:=4) ⟨by decide,by decide⟩
theorem W6:eD vt [0,3,4] 3=some 4:=by decide +kernel
theorem bf:yX vt [0,3,4] 12 4 []=some [4]:=by decide +kernel
theorem Uv:dB vt [0,3,4] 4=some 3:=by decide +kernel
theorem ij:(bH vt 3).xs=[]:=by decide +kernel
theorem y5:Sr vt [0,3,4] 12 4:=⟨3,Uv,λ b hb=>by rw[ij] at hb;exact nomatch hb⟩
theorem aBJ(m:Nat):Nt vt [0,3,4] m 12 4 [] 0:=⟨3,Uv,⟨.inl ⟨by decide +kernel,by decide⟩,λ _ h=>absurd h (by decide),λ h=>absurd h (by decide +kernel),λ h=>absurd h (by decide +kernel),λ _ j hj=>by rw[ij] at hj;exact absurd hj (Nat.not_lt_zero j)⟩,.inl rfl,λ j hj=>by rw[ij] at hj;exact absurd hj (Nat.not_lt_zero j)⟩
abbrev ql:Nd:={Nd.zero with kind:=4,key:=⟨#[97]⟩}
abbrev Vc:Nd:={Nd.zero with kind:=3,bm:=1}
def Ty:List Nv:=[dH.c,dH.c,eH (ql.c [] []) 0,eH (Vc.c [3] []) 0,eH ((wK 1).c [] []) 1,eH (Vc.c [5] []) 2,eH ((wK 1).c [] []) 3]
abbrev Zk:List Int:=[0,4,0,6,7]
theorem Jo:fR Ty Zk 1:=by
 have h0:=vK (gen:=1) (by decide);have h1:=h0.push (init:=0) (n:=ql.c [] []) (I4 (by decide) (by decide)) ⟨by decide,by decide⟩;have h2:=h1.push (init:=0) (n:=Vc.c [3] []) (Cf (b:=1) (by decide) (aBt (by decide)) (λ r hr=>by rw[List.mem_singleton.1 hr];decide)) ⟨by decide,by decide⟩;have h3:=h2.push (init:=4) (n:=(wK 1).c [] []) (Bx (by decide) (by decide)) ⟨by decide,by decide⟩;have h4:=h3.push (init:=0) (n:=Vc.c [5] []) (Cf (b:=1) (by decide) (aBt (by decide)) (λ r hr=>by rw[List.mem_singleton.1 hr];decide)) ⟨by decide,by decide⟩;have h5:=h4.push (init:=6) (n:=(wK 1).c [] []) (Bx (by decide) (by decide)) ⟨by decide,by decide⟩;exact h5.cell (init:=7) ⟨by decide,by decide⟩
theorem U0:eD Ty Zk 5=some 7:=by decide +kernel
theorem bq:yX Ty Zk 12 7 []=some [7,5]:=by decide +kernel
theorem Ew:dB Ty Zk 7=some 6/\dB Ty Zk 5=some 4:=by decide +kernel
theorem Ia:(bH Ty 6).xs=[5]/\(bH Ty 4).xs=[3]/\(bH Ty 5).kind=2/\(bH Ty 4).kind=3/\(bH Ty 3).kind=4:=by decide +kernel
theorem ee:Sr Ty Zk 12 7:=⟨6,Ew.1,λ b hb=>by
 rw[Ia.1] at hb;rw[List.mem_singleton.1 hb];refine .inr ⟨Ia.2.2.1,4,Ew.2,λ c hc=>?_⟩;rw[Ia.2.1] at hc;rw[List.mem_singleton.1 hc]
 exact .inl Ia.2.2.2.2⟩
theorem aBP(m:Nat):¬Nt Ty Zk m 12 7 [] 0:=λ⟨r,hb,_,_,h⟩=>by
 rw[Ew.1] at hb
 cases hb
 have h1:=h 0 (by rw[Ia.1];decide) (by rw[Ia.1];exact Ia.2.2.1);rw[Ia.1] at h1;obtain⟨s,hs,hw,_⟩:=h1
 have hs2:dB Ty Zk 5=some s:=hs;rw[Ew.2] at hs2;cases hs2
 have h2:=(hw.br Ia.2.2.2.1 (by decide)).2 3 Ia.2.1;rw[Ia.2.2.2.2] at h2;exact absurd h2 (by decide)
theorem aBx:Wn Ty Zk 12 7=1:=by decide +kernel
def Wt(L:List aI):Prop:=∀v∈L,v=dH∨∃n xs ys c x,v=lW n xs ys c x/\(∃b:Nat,n.bm=(b:Int)/\b<18446744073709551616)/\(∃b:Nat,n.hash=(b:Int)/\b<18446744073709551616)/\xs.length<=64/\ys.length<=64/\c<=100
theorem W8:Wt [dH,dH]:=λ v hv=>by
 simp only[List.mem_cons,List.not_mem_nil,or_false] at hv
 exact .inl (hv.elim id id)
theorem Wt.push{L:List aI}(h:Wt L){n:Nd}{xs:List Int}{ys:List Pr}{c:Nat}{x:AX}(h1:∃b:Nat,n.bm=(b:Int)/\b<18446744073709551616)(h2:∃b:Nat,n.hash=(b:Int)/\b<18446744073709551616)(h3:xs.length<=64)(h4:ys.length<=64)(h5:c<=100):Wt (L++[lW n xs ys c x]):=λ v hv=>by
 rcases List.mem_append.1 hv with hv|hv
 ·exact h v hv
 ·rw[List.mem_singleton.1 hv]
  exact .inr ⟨n,xs,ys,c,x,rfl,h1,h2,h3,h4,h5⟩
theorem Wt.fit{L:List aI}(h:Wt L):Fits L:=λ v hv=>by
 rcases h v hv with rfl|⟨n,xs,ys,c,x,rfl,h1,h2,h3,h4,h5⟩
 ·exact j5
 ·exact Kx (by omega) (by omega)
theorem Wt.Ic{L:List aI}(h:Wt L):iG L:=λ v hv=>by
 rcases h v hv with rfl|⟨n,xs,ys,c,x,rfl,h1,h2,h3,h4,h5⟩
 ·exact⟨⟨0,rfl,by decide⟩,by simp[dH,Nd.zero],by simp[dH,Nd.zero],by simp[dH,Nd.zero]⟩
 ·refine⟨h1,?_,?_,?_⟩<;>(simp only[lW];split<;>omega)
theorem Wt.hash{L:List aI}(h:Wt L):∀v∈L,∃h:Nat,v.nd.hash=(h:Int)/\h<18446744073709551616:=λ v hv=>by
 rcases h v hv with rfl|⟨n,xs,ys,c,x,rfl,h1,h2,h3,h4,h5⟩
 ·exact⟨0,rfl,by decide⟩
 ·exact h2
theorem Zz:∃b:Nat,(0:Int)=(b:Int)/\b<18446744073709551616:=⟨0,rfl,by decide⟩
theorem o64:∃b:Nat,(1:Int)=(b:Int)/\b<18446744073709551616:=⟨1,rfl,by decide⟩
theorem L5(x y:AX):Wt (L4 x y):=(W8.push Zz Zz (by decide) (by decide) (by decide)).push Zz Zz (by decide) (by decide) (by decide)
abbrev eb(x1 x2 x3 x4 x5:AX):List aI:=[dH,dH]++[lW ql [] [] 0 x1]++[lW Vc [3] [] 0 x2]++[lW (wK 1) [] [] 1 x3]++[lW Vc [5] [] 2 x4]++[lW (wK 1) [] [] 3 x5]
theorem aBq(x1 x2 x3 x4 x5:AX):(eb x1 x2 x3 x4 x5).map aI.c=Ty:=rfl
theorem Lm(x1 x2 x3 x4 x5:AX):Wt (eb x1 x2 x3 x4 x5):=((((W8.push Zz Zz (by decide) (by decide) (by decide)).push o64 Zz (by decide) (by decide) (by decide)).push Zz Zz (by decide) (by decide) (by decide)).push o64 Zz (by decide) (by decide) (by decide)).push Zz Zz (by decide) (by decide) (by decide)
end

/- Calls that may change known blocks and own lists, and leave new ones. -/
section
open Go Go.RowKit Go.Ct
section
variable{S:List (Nat×Value)}{w0 w:World}{M:List Nat}{H:List (Nat×Obj)}{A F:Fr}{O:List Ow}{ty:TypeId}{pos:String}{af:Array Edge}{gd:Option (Nat×Bool)}{X:Type}{V:X->Value}
theorem cMH{φ:X->Prop}{hs H':List (Nat×Obj)}{os O':List Ow}{hs' Hc H1:X->List (Nat×Obj)}{os' Oc O1:X->List Ow}{Fc F1:X->Fr}{A0:Fr}{is js:List Nat}{f:FuncId}{xs:List Operand}{at_:Array TypeId}{vs:List Value}{dst:Option Nat}
  (ha:B3 S xs=vs:=by(repeat (first|exact qY _|(apply oL;focus ((conv=>{lhs;whnf});try exact rfl))));first|done|fail) (hp:plain Tryz.prog f=true:=by kernel_rfl)
  (hc:∀w,SF w (Ks hs os) hs A0 [] os w->Calls Tryz.prog f ⟨vs⟩ w λ e w'=>∃x,e=.returned (V x)/\φ x/\SF w (Ks hs os) (hs' x++Hc x) [] (Fc x) (os' x++Oc x) w')
  (hH:D3 H is hs H':=by(repeat (first|exact D3.nil|(apply D3.cons;(focus ((repeat (first|exact Up.head|apply Up.tail));done));simp only[Sw])));first|done|fail)
  (hO:D3 O js os O':=by(repeat (first|exact D3.nil|(apply D3.cons;(focus ((repeat (first|exact Up.head|apply Up.tail));done));simp only[Sw])));first|done|fail)
  (hA:bU A F O' A0:=by(repeat (first|exact bU.of (λ _ h=>Or.inr (Or.inl h))|exact bU.nil|(refine bU.cons (by first|exact Or.inl rfl|exact Or.inr (Or.inr (Or.inl (by simp)))|exact Or.inr (Or.inl (by simp))|exact Or.inr (Or.inr (Or.inr (by simp)))) ?_)));first|done|fail)
  (hl1:∀x,is.length=(hs' x).length:=by intro x;exact rfl) (hl2:∀x,js.length=(os' x).length:=by intro x;exact rfl)
  (hH1:∀x,Hc x++Ej is (hs' x) H'=H1 x:=by intro x;first|(simp only[Ej,Ub,List.nil_append,List.cons_append];exact rfl)|exact rfl) (hF1:∀x,Fc x++F=F1 x:=by intro x;first|(simp only[List.nil_append,List.cons_append];exact rfl)|exact rfl) (hO1:∀x,Oc x++Ej js (os' x) O'=O1 x:=by intro x;simp only[Ej,Ub,mW,List.nil_append,List.cons_append];exact rfl) :
  aX Tryz.prog S (SF w0 M H A F O) ⟨dst,.call {callee:=.value (.func f),args:=⟨xs⟩,argTypes:=at_},ty,pos,af,gd⟩ X V (λ x w=>φ x/\SF w0 M (H1 x) A (F1 x) (O1 x) w) :=
 mC (oE hp ha) λ w hw=>(hc w (hw.E6 hH hO hA)).mono λ _ _ ⟨x,he,hx,hs⟩=>⟨x,he,hx,by
  have:=hw.Xb (hs':=hs' x) (Hc:=Hc x) (os':=os' x) (Oc:=Oc x) hH hO hs (hl1 x) (hl2 x);rw[<- hH1 x,<- hF1 x,<- hO1 x]
  exact this⟩
end
end

/- Worlds: an execution is run. -/
end Go.Proofs.YtadnboagdhcedaaGreatDoor
namespace Go.Ct
section
open Go Go.RowKit
theorem Rc.trans{i j:Nat}{t t1 t2:Tr}{s s1 s2:Mm}(h1:Rc i t s t1 s1)(h2:Rc j t1 s1 t2 s2):Rc (i+j) t s t2 s2:=by
 induction h2 with
 | refl t s=>exact h1
 | Um _ hs ih=>exact .Um (ih h1) hs
 | loud _ hs ih=>exact .loud (ih h1) hs
def Sz(x:XS)(B:Nat):Prop:=x.L.length<=B/\x.cs.length<=B/\x.gen<=B
theorem I2{T R R':Tr}{x x':XS}{dn:Bool}{rs:Rs}{j N B:Nat}(h:ul T x dn rs R)(hd:dn=false)(hT:cN T N 64)(hN:x.got.length+1<=N)(hr:Rc j R x.mm R' x'.mm)(hj:j<=1)(hs:Sz x B):Sz x' (B+128):=by
 rcases h.ml with⟨e,_⟩|⟨_,e⟩
 ·rw[hd] at e;cases e
 ·obtain⟨c,h1,_,_⟩:=h.wk.xB (Nat.le_refl 64) hT (by omega)
  obtain⟨c',h2,h3,h4,h5,h6,h7⟩:=hr.xB (Nat.le_refl 64) (Q5 e h1 (by omega)) (by omega)
  obtain⟨s1,s2,s3⟩:=hs
  simp only[XS.mm,List.length_map] at h5 h6 h7
  exact⟨by omega,by omega,by omega⟩
theorem Sc{T R':Tr}{x x':XS}{j N B:Nat}(hT:cN T N 64)(hr:Rc j T x.mm R' x'.mm)(hj:j<=0)(hs:Sz x B):Sz x' (B+64):=by
 obtain⟨c',h2,h3,h4,h5,h6,h7⟩:=hr.xB (Nat.le_refl 64) hT (by omega)
 obtain⟨s1,s2,s3⟩:=hs
 simp only[XS.mm,List.length_map] at h5 h6 h7
 exact⟨by omega,by omega,by omega⟩
end
end Go.Ct
namespace Go.Proofs.YtadnboagdhcedaaGreatDoor
section
open Go Go.RowKit Go.Ct
def T0(k:Cl)(m:Nat):Tr:=mH k (jW k.key m) 1073741824
theorem xQ(k:Cl)(m:Nat){n:Nat}(h:n<1073741824):cN (T0 k m) n 64:=Xh h
def xE(k:Cl)(bm b:Nat)(x:XS)(dn:Bool)(rs:Rs):List (Nat×Obj):=if dn=true then [] else [(b,xO k bm x false rs)]
def xE4(x:XS)(dn:Bool):List Ow:=if dn=true then [] else [⟨x.pg,aH x.got,x.kg,62,1⟩,⟨x.pm,aH x.made,x.km,62,1⟩,⟨x.pl,aH x.cel,x.kl,27,1⟩,⟨x.pe,aH x.gns,x.ke,3,1⟩]
structure RY where
 i:Nat
 x:XS
 N:List aI
 dn:Bool
 rs:Rs
 R:Tr
structure Mj(k:Cl)(m:Nat)(x0:XS)(B:Nat)(y:RY):Prop where
 ex:ul (T0 k m) y.x y.dn y.rs y.R
 rc:∃j,Rc j (T0 k m) x0.mm y.R y.x.mm
 ext:y.x.L=x0.L++y.N
 lc:x0.cs.length<=y.x.cs.length
 gl:y.x.got.length<=y.i
 sz:Sz y.x (B+64+128*y.i)
theorem Mj.q0{k:Cl}{m N:Nat}{x0 x':XS}{B:Nat}{N':List aI}{dn:Bool}{rs:Rs}(hN:N<1073741824)(h:C4 (T0 k m) (T0 k m) 0 0 Rs.zero x0 x' N' dn rs)(hs:Sz x0 B):∃R,Mj k m x0 B ⟨0,x',N',dn,rs,R⟩:=by
 obtain⟨R',j,h1,h2,h3,h4,h5,h6⟩:=h.exI
 exact⟨R',h3,⟨j,h4⟩,h5,h6,by have:=h.gl;show x'.got.length<=0;omega,Sc (xQ k m hN) h4 h1 hs⟩
theorem Mj.step{k:Cl}{m:Nat}{x0 x':XS}{B:Nat}{y:RY}{N':List aI}{dn:Bool}{rs:Rs}(hi:Mj k m x0 B y)(hd:y.dn=false)(hB:y.i<1073741822)(h:C4 (T0 k m) y.R 1 (y.x.got.length+1) y.rs y.x x' N' dn rs):∃R,Mj k m x0 B ⟨y.i+1,x',y.N++N',dn,rs,R⟩:=by
 obtain⟨R',j,h1,h2,h3,h4,h5,h6⟩:=h.exI
 obtain⟨j0,hj0⟩:=hi.rc
 have hg:=hi.gl;refine⟨R',h3,⟨j0+j,hj0.trans h4⟩,by show x'.L=_;rw[h5,hi.ext,List.append_assoc],Nat.le_trans hi.lc h6,by have:=h.gl;show x'.got.length<=y.i+1;omega,?_⟩;have:=I2 hi.ex hd (xQ k m (n:=y.x.got.length+1) (by omega)) (Nat.le_refl _) h4 h1 hi.sz;rw[show B+64+128*(y.i+1)=B+64+128*y.i+128 by omega];exact this
section
variable{k:Cl}{bw bm m B:Nat}{L:List aI}{cs:List Int}{gen acc:Int}{pn pc:Option Addr}{cn cc:Nat}{D:List Nat}{A:Fr}{w:World}{mask:Int}{ts:List iS}{es:List Nat}{pt pe:Option Addr}{kt ke:Nat}
theorem ef(hsz:L.length<=137438953472/\cs.length<=137438953472/\gen<=137438953472)(hk:tw k)(hm:m<18446744073709551616)(em:k.mask=(m:Int))(ht:k.t.root<=9223372036854775807)(ha:k.a<=L.length)(hb:k.b<=L.length)(hnn:k.n<=L.length)(hA:∀f∈bD L,f∈A)(ok:(XS.new L cs gen acc pn cn pc cc).Ok)(hs:SF w D [(bm,mO L cs gen acc pn cn pc cc)] A [] [⟨pn,fX L,cn,77,14⟩,⟨pc,aH cs,cc,62,1⟩] w):Calls Tryz.prog 42 #[.pointer (some ⟨bm,0,none⟩),.agg ⟨Rt k⟩] w λ e w'=>∃q:Nat×XS×List aI×Bool×Rs,e=.returned (.pointer (some ⟨q.1,0,none⟩))/\C4 (T0 k m) (T0 k m) 0 0 Rs.zero (XS.new L cs gen acc pn cn pc cc) q.2.1 q.2.2.1 q.2.2.2.1 q.2.2.2.2/\SF w D ([(bm,xM q.2.1)]++[(q.1,xO k bm q.2.1 q.2.2.2.1 q.2.2.2.2)]) [] (bD q.2.2.1) ([⟨q.2.1.pn,fX q.2.1.L,q.2.1.cn,77,14⟩,⟨q.2.1.pc,aH q.2.1.cs,q.2.1.cc,62,1⟩]++[⟨q.2.1.pg,aH q.2.1.got,q.2.1.kg,62,1⟩,⟨q.2.1.pm,aH q.2.1.made,q.2.1.km,62,1⟩,⟨q.2.1.pl,aH q.2.1.cel,q.2.1.kl,27,1⟩,⟨q.2.1.pe,aH q.2.1.gns,q.2.1.ke,3,1⟩]) w' :=
 (qo (N:=0) (n:=1073741824) (m:=m) (xQ k m (by decide)) (by decide) hsz hk (Nat.le_refl _) hm em ht ha hb hnn hA ok hs).mono λ _ _ ⟨q,e,h,hw⟩=>⟨q,e,h,hw.perm (List.Perm.swap _ _ _) (List.perm_append_comm (l₁:=[_,_]) (l₂:=[_,_,_,_]))⟩
set_option maxHeartbeats 1000000 in
theorem wz(steps:Nat)(hst:steps<=1048576)(hB:B<=100000000000)(hsz:Sz (XS.new L cs gen acc pn cn pc cc) B)(hk:tw k)(hm:m<18446744073709551616)(em:k.mask=(m:Int))(ht:k.t.root<=9223372036854775807)(ha:k.a=0)(hb:k.b=0)(hnn:k.n=0)(hA:∀f∈bD L,f∈A)(ok:(XS.new L cs gen acc pn cn pc cc).Ok)(hts:ts.length<=1000)(hes:es.length<=1000)
  (hs:SF w D [(bw,oG bm mask pt ts.length kt pe es.length ke),(bm,mO L cs gen acc pn cn pc cc)] A [] [⟨pt,sQ ts,kt,29,2⟩,⟨pe,zN es,ke,73,1⟩,⟨pn,fX L,cn,77,14⟩,⟨pc,aH cs,cc,62,1⟩] w) :
  Calls Tryz.prog 28 #[.pointer (some ⟨bw,0,none⟩),.agg ⟨Rt k⟩,.int .i64 (steps:Int)] w λ e w'=>∃q:Nat×RY×KQ,e=.returned (.tuple #[])/\(Mj k m (XS.new L cs gen acc pn cn pc cc) B q.2.1/\q.2.1.i<=steps/\Ti q.2.1.dn q.2.1.rs q.1 ts es q.2.2) /\
   SF w D (xE k bm q.1 q.2.1.x q.2.1.dn q.2.1.rs++[(bw,oG bm mask q.2.2.pt q.2.2.ts.length q.2.2.kt q.2.2.pe q.2.2.es.length q.2.2.ke),(bm,xM q.2.1.x)]) [] (bD q.2.1.N) (xE4 q.2.1.x q.2.1.dn++[⟨q.2.2.pt,sQ q.2.2.ts,q.2.2.kt,29,2⟩,⟨q.2.2.pe,zN q.2.2.es,q.2.2.ke,73,1⟩,⟨q.2.1.x.pn,fX q.2.1.x.L,q.2.1.x.cn,77,14⟩,⟨q.2.1.x.pc,aH q.2.1.x.cs,q.2.1.x.cc,62,1⟩]) w':=by
 have hL:(0:Int)<=L.length:=bT _;have hsz2:=hsz;obtain⟨s1,s2,s3⟩:=hsz2
 simp only[XS.new] at s1 s2 s3
 refine enter Tryz.func28 Tryz.ntmps28 rfl rfl hs ?_;simp only[cP]
 refine J0 ?_;refine bF (λ x4=>?_);refine Vy ?_;refine gP [0,1,2,3,4,5,6] ?_;refine mz ?_;refine aZ ?_;refine bL (i:=5) (hq:=(cMH (hs:=[(bm,mO L cs gen acc pn cn pc cc)]) (os:=[⟨pn,fX L,cn,77,14⟩,⟨pc,aH cs,cc,62,1⟩]) (A0:=bD L) (hA:=bU.of λ f hf=>.inr (.inl (hA f hf))) (hc:=λ w hs=>ef (m:=m) ⟨by omega,by omega,by omega⟩ hk hm em ht (by omega) (by omega) (by omega) (λ f hf=>hf) ok hs))) (h:=λ x13 h13=>?_);refine J7 ?_;refine aV ?_;refine zR ?_;obtain⟨R0,hR0⟩:=Mj.q0 (B:=B) (N:=0) (by decide) h13 hsz
 refine kK [7,14,15,16,17,18,19,20,21,22,23,24,25] (λ y:RY=>[(7,.int .i64 ((y.i:Nat):Int))]) (λ y=>Mj k m (XS.new L cs gen acc pn cn pc cc) B y/\y.i<=steps) (λ y=>[(x13.1,xO k bm y.x y.dn y.rs),(x4,.cells ⟨Rt k⟩ 70 (0,0)),(bw,oG bm mask pt ts.length kt pe es.length ke),(bm,xM y.x)]) (λ y=>bD y.N) (λ y=>[⟨y.x.pg,aH y.x.got,y.x.kg,62,1⟩,⟨y.x.pm,aH y.x.made,y.x.km,62,1⟩,⟨y.x.pl,aH y.x.cel,y.x.kl,27,1⟩,⟨y.x.pe,aH y.x.gns,y.x.ke,3,1⟩,⟨pt,sQ ts,kt,29,2⟩,⟨pe,zN es,ke,73,1⟩,⟨y.x.pn,fX y.x.L,y.x.cn,77,14⟩,⟨y.x.pc,aH y.x.cs,y.x.cc,62,1⟩]) (λ y=>steps-y.i) (⟨0,x13.2.1,x13.2.2.1,x13.2.2.2.1,x13.2.2.2.2,R0⟩) (⟨hR0,Nat.zero_le _⟩) (λ y f hx=>?_) (hw0:=λ w hw=>by rw[List.append_nil] at hw;exact hw.zA1);refine K0a ?_;obtain⟨hi,his⟩:=hx
 have hsx:=hi.sz;obtain⟨z1,z2,z3⟩:=hsx
 have hgl:=hi.gl;refine jL ?_;refine aD (cM (hs:=xH k x13.1 bm y.x y.dn y.rs) (os:=xW y.x) (hc:=λ w hs=>dt hs)) (λ x15 h15=>?_);refine C6 ?_;(refine eM 17 (λ g17=>?_) (λ g17=>?_)<;>refine Ka0 ?_);all_goals (refine Ka0 ?_;refine u4 ?_;refine aK ?_)
 all_goals
 refine bA (λ c21=>?_) (λ c21=>?_)
 ·try exact nv c21
  all_goals (refine mZ ?_;refine zT ?_;refine aD (cM (hs:=xH k x13.1 bm y.x y.dn y.rs) (os:=xW y.x) (A0:=bD y.x.L) (hA:=bU.of λ f hf=>by rw[hi.ext,fH] at hf;rcases List.mem_append.1 hf with hf|hf;exact .inr (.inl (hA f hf));exact .inr (.inr (.inl hf))) (hc:=λ w hs=>eh (N:=y.x.got.length+1) (n:=1073741824) (m:=m) (xQ k m (by omega)) (by omega) rfl ⟨by omega,by omega,by omega⟩ hi.ex hk (Nat.le_refl _) hm em ht (by rw[ha];exact bT _) (by rw[hb];exact bT _) (by rw[hnn];exact bT _) (λ f hf=>hf) hs)) (λ x25 h25=>?_);refine aK ?_;refine Kc2 ?_)
  all_goals
   have hdf:y.dn=false:=by simp_all
   have hq:C4 (T0 k m) y.R 1 (y.x.got.length+1) y.rs y.x x25.1 x25.2.1 x25.2.2.1 x25.2.2.2:=by rcases h25 with h|h;rw[hdf] at h;cases h.1;exact h.2
   obtain⟨R1,hR1⟩:=hi.step hdf (by omega) hq
   refine gT (⟨y.i+1,x25.1,y.N++x25.2.1,x25.2.2.1,x25.2.2.2,R1⟩) ?_ (hw1:=λ w hw=>hw.back (hF:=by rw[fH];exact aP.kJ λ f hf=>(List.mem_append.1 hf).elim (λ h=>List.mem_append_right _ h) (λ h=>List.mem_append_left _ h)))
   ·exact⟨hR1,by show y.i+1<=steps;omega⟩
 ·all_goals (refine bM rfl ?_;refine Il ?_;refine aD (cM (hs:=[(bw,oG bm mask pt ts.length kt pe es.length ke),(x13.1,xO k bm y.x y.dn y.rs),(bm,xM y.x)]) (os:=[⟨pt,sQ ts,kt,29,2⟩,⟨pe,zN es,ke,73,1⟩,⟨y.x.pg,aH y.x.got,y.x.kg,62,1⟩,⟨y.x.pm,aH y.x.made,y.x.km,62,1⟩,⟨y.x.pl,aH y.x.cel,y.x.kl,27,1⟩,⟨y.x.pe,aH y.x.gns,y.x.ke,3,1⟩,⟨y.x.pn,fX y.x.L,y.x.cn,77,14⟩,⟨y.x.pc,aH y.x.cs,y.x.cc,62,1⟩]) (hc:=λ w hs=>td hts hes hs)) (λ x28 h28=>?_);refine aK ?_)
  all_goals
   refine Hq Tryz.results28 (λ w hw=>?_);rcases y with⟨i,x,N,dn,rs,R⟩
   cases dn with
   | true=>exact⟨(x13.1,⟨i,x,N,true,rs,R⟩,x28),rfl,⟨hi,his,h28⟩,hw.zA0⟩
   | false=>exact⟨(x13.1,⟨i,x,N,false,rs,R⟩,x28),rfl,⟨hi,his,h28⟩,hw.zA0⟩
end
end

end Go.Proofs.YtadnboagdhcedaaGreatDoor
