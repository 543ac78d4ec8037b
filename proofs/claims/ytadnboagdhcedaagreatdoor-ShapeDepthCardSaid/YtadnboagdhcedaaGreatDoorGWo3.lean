/- Worlds: Create. -/
import Derived.Test.YtadnboagdhcedaaGreatDoorGEx24
import Derived.Test.YtadnboagdhcedaaGreatDoorGJoin
import Derived.Test.YtadnboagdhcedaaGreatDoorGGa
import Derived.Test.YtadnboagdhcedaaGreatDoorGAr9

set_option linter.unusedSimpArgs false
set_option linter.unusedVariables false
namespace Go.Proofs.YtadnboagdhcedaaGreatDoor
section
open Go Go.RowKit Go.Ct
def P8:Nd:={Nd.zero with kind:=3}
def tB(g:Int):Nd:={Nd.zero with kind:=2,gen:=g}
def L4(x y:AX):List aL:=[cN,cN]++[kK P8 [] [] 0 x]++[kK (tB 1) [] [] 1 y]
theorem qz{x y:AX}:∀f∈aV (L4 x y),f.2=[]:=by
 intro f hf
 simp[aV,L4,aL.fr,cN,kK,aG,dF] at hf
 rcases hf with hf|hf|hf|hf|hf|hf|hf|hf<;>rw[hf]
theorem K2{w:World}{D:List Nat}{b:Nat}{acc:Int}{pn:Option Addr}{cn:Nat}{A:Fr}(hs:SF w D [(b,mO [cN,cN] [] 0 acc pn cn none 0)] A [] (mW [cN,cN] [] pn cn none 0) w) :
  Calls Tryz.prog 24 #[.pointer (some ⟨b,0,none⟩)] w λ e w'=>∃q:AX×AX×Option Addr×Nat,e=.returned (.agg ⟨[.int .i64 3,.bool false]⟩)/\True /\
   SF w D [(b,mO (L4 q.1 q.2.1) [0,3,4] 1 acc q.2.1.pn q.2.1.cn q.2.2.1 q.2.2.2)] [] (aV (L4 q.1 q.2.1)) (mW (L4 q.1 q.2.1) [0,3,4] q.2.1.pn q.2.1.cn q.2.2.1 q.2.2.2) w':=by
 refine enter Tryz.func24 Tryz.ntmps24 rfl rfl (tO hs) ?_
 simp only[cP]
 refine J0 ?_;refine aP (λ x2=>?_);refine aI ?_;refine J2 ?_;refine bD ?_;refine aC (cM (A0:=[(none,aG []),(none,dF [])]) (hc:=λ w hs=>mR (L:=[cN,cN]) (cs:=[]) (n:=P8) (xs:=[]) (ys:=[]) 0 hs rfl rfl (by decide) (by decide) (by decide) (by decide))) (λ x7 h7=>?_);refine Ka3 ?_;refine aC (cM (hc:=λ w hs=>Gm (L:=[cN,cN]++[kK P8 [] [] 0 x7]) (cs:=[0]) hs)) (λ x9 h9=>?_);refine sV ?_;refine aB ?_;refine bD ?_;refine aB ?_;refine aC (cM (A0:=[(none,aG []),(none,dF [])]) (hc:=λ w hs=>mR (L:=[cN,cN]++[kK P8 [] [] 0 x7]) (cs:=[0]) (n:=tB 1) (xs:=[]) (ys:=[]) 3 hs rfl rfl (by decide) (by decide) (by simp) (by decide))) (λ x15 h15=>?_);refine aC (cM (hc:=λ w hs=>iY (L:=L4 x7 x15) (cs:=[0,3]) 4 hs (by decide))) (λ x16 h16=>?_);refine zO ?_
 refine bK Tryz.results24 (λ w hw=>?_)
 exact⟨(x7,x15,x16.1,x16.2),rfl,trivial,(hw.eN (λ f hf=>.inl (qz f hf))).v4⟩
end

/- Calls that may change known blocks and own lists, and leave new ones. -/
section
open Go Go.RowKit Go.Ct
section
variable{S:List (Nat×Value)}{w0 w:World}{M:List Nat}{H:List (Nat×Obj)}{A F:Fr}{O:List Ow}{ty:TypeId}{pos:String}{af:Array Edge}{gd:Option (Nat×Bool)}{X:Type}{V:X->Value}
theorem cMH{φ:X->Prop}{hs H':List (Nat×Obj)}{os O':List Ow}{hs' Hc H1:X->List (Nat×Obj)}{os' Oc O1:X->List Ow}{Fc F1:X->Fr}{A0:Fr}{is js:List Nat}{f:FuncId}{xs:List Operand}{at_:Array TypeId}{vs:List Value}{dst:Option Nat}
  (ha:yS S xs=vs:=by(repeat (first|exact pB _|(apply mM;focus ((conv=>{lhs;whnf});try exact rfl))));first|done|fail) (hp:plain Tryz.prog f=true:=by kernel_rfl)
  (hc:∀w,SF w (Ks hs os) hs A0 [] os w->Calls Tryz.prog f ⟨vs⟩ w λ e w'=>∃x,e=.returned (V x)/\φ x/\SF w (Ks hs os) (hs' x++Hc x) [] (Fc x) (os' x++Oc x) w')
  (hH:Be H is hs H':=by(repeat (first|exact Be.nil|(apply Be.cons;(focus ((repeat (first|exact Sb.head|apply Sb.tail));done));simp only[P2])));first|done|fail)
  (hO:Be O js os O':=by(repeat (first|exact Be.nil|(apply Be.cons;(focus ((repeat (first|exact Sb.head|apply Sb.tail));done));simp only[P2])));first|done|fail)
  (hA:bQ A F O' A0:=by(repeat (first|exact bQ.of (λ _ h=>Or.inr (Or.inl h))|exact bQ.nil|(refine bQ.cons (by first|exact Or.inl rfl|exact Or.inr (Or.inr (Or.inl (by simp)))|exact Or.inr (Or.inl (by simp))|exact Or.inr (Or.inr (Or.inr (by simp)))) ?_)));first|done|fail)
  (hl1:∀x,is.length=(hs' x).length:=by intro x;exact rfl) (hl2:∀x,js.length=(os' x).length:=by intro x;exact rfl)
  (hH1:∀x,Hc x++B0 is (hs' x) H'=H1 x:=by intro x;first|(simp only[B0,N3,List.nil_append,List.cons_append];exact rfl)|exact rfl) (hF1:∀x,Fc x++F=F1 x:=by intro x;first|(simp only[List.nil_append,List.cons_append];exact rfl)|exact rfl) (hO1:∀x,Oc x++B0 js (os' x) O'=O1 x:=by intro x;simp only[B0,N3,mW,List.nil_append,List.cons_append];exact rfl) :
  bJ Tryz.prog S (SF w0 M H A F O) ⟨dst,.call {callee:=.value (.func f),args:=⟨xs⟩,argTypes:=at_},ty,pos,af,gd⟩ X V (λ x w=>φ x/\SF w0 M (H1 x) A (F1 x) (O1 x) w) :=
 kL (mJ hp ha) λ w hw=>(hc w (hw.Ff hH hO hA)).mono λ _ _ ⟨x,he,hx,hs⟩=>⟨x,he,hx,by
  have:=hw.Ri (hs':=hs' x) (Hc:=Hc x) (os':=os' x) (Oc:=Oc x) hH hO hs (hl1 x) (hl2 x)
  rw[<- hH1 x,<- hF1 x,<- hO1 x]
  exact this⟩
end
end

/- Worlds: an execution is run. -/
end Go.Proofs.YtadnboagdhcedaaGreatDoor
namespace Go.Ct
section
open Go Go.RowKit
theorem Rc.trans{i j:Nat}{t t1 t2:Tr}{s s1 s2:Mm}(h1:Rc i t s t1 s1)(h2:Rc j t1 s1 t2 s2):Rc (i+j) t s t2 s2:=by
 induction h2 with
 | refl t s=>exact h1
 | tG _ hs ih=>exact .tG (ih h1) hs
 | loud _ hs ih=>exact .loud (ih h1) hs
def Sz(x:XS)(B:Nat):Prop:=x.L.length<=B/\x.cs.length<=B/\x.gen<=B
theorem Aw{T R R':Tr}{x x':XS}{dn:Bool}{rs:Rs}{j N B:Nat}(h:qe T x dn rs R)(hd:dn=false)(hT:bZ T N 64)(hN:x.got.length+1<=N)(hr:Rc j R x.mm R' x'.mm)(hj:j<=1)(hs:Sz x B):Sz x' (B+128):=by
 rcases h.Vv with⟨e,_⟩|⟨_,e⟩
 ·rw[hd] at e;cases e
 ·obtain⟨c,h1,_,_⟩:=h.wk.tI (Nat.le_refl 64) hT (by omega)
  obtain⟨c',h2,h3,h4,h5,h6,h7⟩:=hr.tI (Nat.le_refl 64) (Mj e h1 (by omega)) (by omega)
  obtain⟨s1,s2,s3⟩:=hs
  simp only[XS.mm,List.length_map] at h5 h6 h7
  exact⟨by omega,by omega,by omega⟩
theorem Df{T R':Tr}{x x':XS}{j N B:Nat}(hT:bZ T N 64)(hr:Rc j T x.mm R' x'.mm)(hj:j<=0)(hs:Sz x B):Sz x' (B+64):=by
 obtain⟨c',h2,h3,h4,h5,h6,h7⟩:=hr.tI (Nat.le_refl 64) hT (by omega)
 obtain⟨s1,s2,s3⟩:=hs
 simp only[XS.mm,List.length_map] at h5 h6 h7
 exact⟨by omega,by omega,by omega⟩
end
end Go.Ct
namespace Go.Proofs.YtadnboagdhcedaaGreatDoor
section
open Go Go.RowKit Go.Ct
def T0(k:Cl)(m:Nat):Tr:=lA k (kD k.key m) 1073741824
theorem nM(k:Cl)(m:Nat){n:Nat}(h:n<1073741824):bZ (T0 k m) n 64:=T5 h
def xE(k:Cl)(bm b:Nat)(x:XS)(dn:Bool)(rs:Rs):List (Nat×Obj):=if dn=true then [] else [(b,xO k bm x false rs)]
def xE4(x:XS)(dn:Bool):List Ow:=if dn=true then [] else [⟨x.pg,aG x.got,x.kg,62,1⟩,⟨x.pm,aG x.made,x.km,62,1⟩,⟨x.pl,aG x.cel,x.kl,27,1⟩,⟨x.pe,aG x.gns,x.ke,3,1⟩]
structure RY where
 i:Nat
 x:XS
 N:List aL
 dn:Bool
 rs:Rs
 R:Tr
structure F4(k:Cl)(m:Nat)(x0:XS)(B:Nat)(y:RY):Prop where
 ex:qe (T0 k m) y.x y.dn y.rs y.R
 rc:∃j,Rc j (T0 k m) x0.mm y.R y.x.mm
 ext:y.x.L=x0.L++y.N
 lc:x0.cs.length<=y.x.cs.length
 gl:y.x.got.length<=y.i
 sz:Sz y.x (B+64+128*y.i)
theorem F4.H9{k:Cl}{m N:Nat}{x0 x':XS}{B:Nat}{N':List aL}{dn:Bool}{rs:Rs}(hN:N<1073741824)(h:vP (T0 k m) (T0 k m) 0 0 Rs.zero x0 x' N' dn rs)(hs:Sz x0 B):∃R,F4 k m x0 B ⟨0,x',N',dn,rs,R⟩:=by
 obtain⟨R',j,h1,h2,h3,h4,h5,h6⟩:=h.w5
 exact⟨R',h3,⟨j,h4⟩,h5,h6,by have:=h.gl;show x'.got.length<=0;omega,Df (nM k m hN) h4 h1 hs⟩
theorem F4.step{k:Cl}{m:Nat}{x0 x':XS}{B:Nat}{y:RY}{N':List aL}{dn:Bool}{rs:Rs}(hi:F4 k m x0 B y)(hd:y.dn=false)(hB:y.i<1073741822)(h:vP (T0 k m) y.R 1 (y.x.got.length+1) y.rs y.x x' N' dn rs):∃R,F4 k m x0 B ⟨y.i+1,x',y.N++N',dn,rs,R⟩:=by
 obtain⟨R',j,h1,h2,h3,h4,h5,h6⟩:=h.w5
 obtain⟨j0,hj0⟩:=hi.rc
 have hg:=hi.gl
 refine⟨R',h3,⟨j0+j,hj0.trans h4⟩,by show x'.L=_;rw[h5,hi.ext,List.append_assoc],Nat.le_trans hi.lc h6,by have:=h.gl;show x'.got.length<=y.i+1;omega,?_⟩
 have:=Aw hi.ex hd (nM k m (n:=y.x.got.length+1) (by omega)) (Nat.le_refl _) h4 h1 hi.sz
 rw[show B+64+128*(y.i+1)=B+64+128*y.i+128 by omega]
 exact this
section
variable{k:Cl}{bw bm m B:Nat}{L:List aL}{cs:List Int}{gen acc:Int}{pn pc:Option Addr}{cn cc:Nat}{D:List Nat}{A:Fr}{w:World}{mask:Int}{ts:List eA}{es:List Nat}{pt pe:Option Addr}{kt ke:Nat}
theorem Mu(hsz:L.length<=137438953472/\cs.length<=137438953472/\gen<=137438953472)(hk:dq k)(hm:m<18446744073709551616)(em:k.mask=(m:Int))(ht:k.t.root<=9223372036854775807)(ha:k.a<=L.length)(hb:k.b<=L.length)(hnn:k.n<=L.length)(hA:∀f∈aV L,f∈A)(ok:(XS.new L cs gen acc pn cn pc cc).Ok)(hs:SF w D [(bm,mO L cs gen acc pn cn pc cc)] A [] [⟨pn,gR L,cn,77,14⟩,⟨pc,aG cs,cc,62,1⟩] w):Calls Tryz.prog 42 #[.pointer (some ⟨bm,0,none⟩),.agg ⟨Nq k⟩] w λ e w'=>∃q:Nat×XS×List aL×Bool×Rs,e=.returned (.pointer (some ⟨q.1,0,none⟩))/\vP (T0 k m) (T0 k m) 0 0 Rs.zero (XS.new L cs gen acc pn cn pc cc) q.2.1 q.2.2.1 q.2.2.2.1 q.2.2.2.2/\SF w D ([(bm,xM q.2.1)]++[(q.1,xO k bm q.2.1 q.2.2.2.1 q.2.2.2.2)]) [] (aV q.2.2.1) ([⟨q.2.1.pn,gR q.2.1.L,q.2.1.cn,77,14⟩,⟨q.2.1.pc,aG q.2.1.cs,q.2.1.cc,62,1⟩]++[⟨q.2.1.pg,aG q.2.1.got,q.2.1.kg,62,1⟩,⟨q.2.1.pm,aG q.2.1.made,q.2.1.km,62,1⟩,⟨q.2.1.pl,aG q.2.1.cel,q.2.1.kl,27,1⟩,⟨q.2.1.pe,aG q.2.1.gns,q.2.1.ke,3,1⟩]) w' :=
 (fw (N:=0) (n:=1073741824) (m:=m) (nM k m (by decide)) (by decide) hsz hk (Nat.le_refl _) hm em ht ha hb hnn hA ok hs).mono λ _ _ ⟨q,e,h,hw⟩=>⟨q,e,h,hw.perm (List.Perm.swap _ _ _) (List.perm_append_comm (l₁:=[_,_]) (l₂:=[_,_,_,_]))⟩
set_option maxHeartbeats 1000000 in
theorem vm(steps:Nat)(hst:steps<=1048576)(hB:B<=100000000000)(hsz:Sz (XS.new L cs gen acc pn cn pc cc) B)(hk:dq k)(hm:m<18446744073709551616)(em:k.mask=(m:Int))(ht:k.t.root<=9223372036854775807)(ha:k.a=0)(hb:k.b=0)(hnn:k.n=0)(hA:∀f∈aV L,f∈A)(ok:(XS.new L cs gen acc pn cn pc cc).Ok)(hts:ts.length<=1000)(hes:es.length<=1000)
  (hs:SF w D [(bw,nK bm mask pt ts.length kt pe es.length ke),(bm,mO L cs gen acc pn cn pc cc)] A [] [⟨pt,sN ts,kt,29,2⟩,⟨pe,xS es,ke,73,1⟩,⟨pn,gR L,cn,77,14⟩,⟨pc,aG cs,cc,62,1⟩] w) :
  Calls Tryz.prog 28 #[.pointer (some ⟨bw,0,none⟩),.agg ⟨Nq k⟩,.int .i64 (steps:Int)] w λ e w'=>∃q:Nat×RY×KQ,e=.returned (.tuple #[])/\(F4 k m (XS.new L cs gen acc pn cn pc cc) B q.2.1/\q.2.1.i<=steps/\Qa q.2.1.dn q.2.1.rs q.1 ts es q.2.2) /\
   SF w D (xE k bm q.1 q.2.1.x q.2.1.dn q.2.1.rs++[(bw,nK bm mask q.2.2.pt q.2.2.ts.length q.2.2.kt q.2.2.pe q.2.2.es.length q.2.2.ke),(bm,xM q.2.1.x)]) [] (aV q.2.1.N) (xE4 q.2.1.x q.2.1.dn++[⟨q.2.2.pt,sN q.2.2.ts,q.2.2.kt,29,2⟩,⟨q.2.2.pe,xS q.2.2.es,q.2.2.ke,73,1⟩,⟨q.2.1.x.pn,gR q.2.1.x.L,q.2.1.x.cn,77,14⟩,⟨q.2.1.x.pc,aG q.2.1.x.cs,q.2.1.x.cc,62,1⟩]) w':=by
 have hL:(0:Int)<=L.length:=bF _
 have hsz2:=hsz
 obtain⟨s1,s2,s3⟩:=hsz2
 simp only[XS.new] at s1 s2 s3
 refine enter Tryz.func28 Tryz.ntmps28 rfl rfl hs ?_
 simp only[cP]
 refine J0 ?_;refine bP (λ x4=>?_);refine Ug ?_;refine fK [0,1,2,3,4,5,6] ?_;refine du ?_;refine bO ?_;refine bC (i:=5) (hq:=(cMH (hs:=[(bm,mO L cs gen acc pn cn pc cc)]) (os:=[⟨pn,gR L,cn,77,14⟩,⟨pc,aG cs,cc,62,1⟩]) (A0:=aV L) (hA:=bQ.of λ f hf=>.inr (.inl (hA f hf))) (hc:=λ w hs=>Mu (m:=m) ⟨by omega,by omega,by omega⟩ hk hm em ht (by omega) (by omega) (by omega) (λ f hf=>hf) ok hs))) (h:=λ x13 h13=>?_);refine J7 ?_;refine aR ?_;refine Gh ?_
 obtain⟨R0,hR0⟩:=F4.H9 (B:=B) (N:=0) (by decide) h13 hsz
 refine lE [7,14,15,16,17,18,19,20,21,22,23,24,25] (λ y:RY=>[(7,.int .i64 ((y.i:Nat):Int))]) (λ y=>F4 k m (XS.new L cs gen acc pn cn pc cc) B y/\y.i<=steps) (λ y=>[(x13.1,xO k bm y.x y.dn y.rs),(x4,.cells ⟨Nq k⟩ 70 (0,0)),(bw,nK bm mask pt ts.length kt pe es.length ke),(bm,xM y.x)]) (λ y=>aV y.N) (λ y=>[⟨y.x.pg,aG y.x.got,y.x.kg,62,1⟩,⟨y.x.pm,aG y.x.made,y.x.km,62,1⟩,⟨y.x.pl,aG y.x.cel,y.x.kl,27,1⟩,⟨y.x.pe,aG y.x.gns,y.x.ke,3,1⟩,⟨pt,sN ts,kt,29,2⟩,⟨pe,xS es,ke,73,1⟩,⟨y.x.pn,gR y.x.L,y.x.cn,77,14⟩,⟨y.x.pc,aG y.x.cs,y.x.cc,62,1⟩]) (λ y=>steps-y.i) (⟨0,x13.2.1,x13.2.2.1,x13.2.2.2.1,x13.2.2.2.2,R0⟩) (⟨hR0,Nat.zero_le _⟩) (λ y f hx=>?_) (hw0:=λ w hw=>by rw[List.append_nil] at hw;exact hw.v6)
 dsimp only[fY,List.map,List.cons_append,List.nil_append]
 obtain⟨hi,his⟩:=hx
 have hsx:=hi.sz
 obtain⟨z1,z2,z3⟩:=hsx
 have hgl:=hi.gl
 refine kR ?_;refine aC (cM (hs:=xH k x13.1 bm y.x y.dn y.rs) (os:=xW y.x) (hc:=λ w hs=>Ov hs)) (λ x15 h15=>?_);refine C4 ?_
 (refine eF 17 (λ g17=>?_) (λ g17=>?_)<;>refine Ka0 ?_)
 all_goals (refine Ka0 ?_;refine nj ?_;refine aI ?_)
 all_goals
 refine aZ (λ c21=>?_) (λ c21=>?_)
 ·try exact nv c21
  all_goals (refine oE ?_;refine wS ?_;refine aC (cM (hs:=xH k x13.1 bm y.x y.dn y.rs) (os:=xW y.x) (A0:=aV y.x.L) (hA:=bQ.of λ f hf=>by rw[hi.ext,dB] at hf;rcases List.mem_append.1 hf with hf|hf;exact .inr (.inl (hA f hf));exact .inr (.inr (.inl hf))) (hc:=λ w hs=>Pt (N:=y.x.got.length+1) (n:=1073741824) (m:=m) (nM k m (by omega)) (by omega) rfl ⟨by omega,by omega,by omega⟩ hi.ex hk (Nat.le_refl _) hm em ht (by rw[ha];exact bF _) (by rw[hb];exact bF _) (by rw[hnn];exact bF _) (λ f hf=>hf) hs)) (λ x25 h25=>?_);refine aI ?_;refine Kd0 ?_)
  all_goals
   have hdf:y.dn=false:=by simp_all
   have hq:vP (T0 k m) y.R 1 (y.x.got.length+1) y.rs y.x x25.1 x25.2.1 x25.2.2.1 x25.2.2.2:=by rcases h25 with h|h;rw[hdf] at h;cases h.1;exact h.2
   obtain⟨R1,hR1⟩:=hi.step hdf (by omega) hq
   refine gC (⟨y.i+1,x25.1,y.N++x25.2.1,x25.2.2.1,x25.2.2.2,R1⟩) ?_ (hw1:=λ w hw=>hw.back (hF:=by rw[dB];exact aW.oP λ f hf=>(List.mem_append.1 hf).elim (λ h=>List.mem_append_right _ h) (λ h=>List.mem_append_left _ h)))
   ·exact⟨hR1,by show y.i+1<=steps;omega⟩
 ·all_goals (refine bI rfl ?_;refine Kq ?_;refine aC (cM (hs:=[(bw,nK bm mask pt ts.length kt pe es.length ke),(x13.1,xO k bm y.x y.dn y.rs),(bm,xM y.x)]) (os:=[⟨pt,sN ts,kt,29,2⟩,⟨pe,xS es,ke,73,1⟩,⟨y.x.pg,aG y.x.got,y.x.kg,62,1⟩,⟨y.x.pm,aG y.x.made,y.x.km,62,1⟩,⟨y.x.pl,aG y.x.cel,y.x.kl,27,1⟩,⟨y.x.pe,aG y.x.gns,y.x.ke,3,1⟩,⟨y.x.pn,gR y.x.L,y.x.cn,77,14⟩,⟨y.x.pc,aG y.x.cs,y.x.cc,62,1⟩]) (hc:=λ w hs=>kj hts hes hs)) (λ x28 h28=>?_);refine aI ?_)
  all_goals
   refine By Tryz.results28 (λ w hw=>?_)
   rcases y with⟨i,x,N,dn,rs,R⟩
   cases dn with
   | true=>exact⟨(x13.1,⟨i,x,N,true,rs,R⟩,x28),rfl,⟨hi,his,h28⟩,hw.v4⟩
   | false=>exact⟨(x13.1,⟨i,x,N,false,rs,R⟩,x28),rfl,⟨hi,his,h28⟩,hw.v4⟩
end
end

/- Trees are run alone. -/
end Go.Proofs.YtadnboagdhcedaaGreatDoor
namespace Go.Ct
section
open Go Go.RowKit
def vv(cs:List Int)(c o:Int):Bool:=decide (1<=c/\c<=(cs.length:Int)/\cs.getD (c-1).toNat 0=o)
theorem my{cs:List Int}{c o:Int}{r:Bool}(h:r=true↔iT cs c o):r=vv cs c o:=by
 rw[Bool.eq_iff_iff,h]
 unfold vv iT
 rw[decide_eq_true_eq]
def tG:Tr->Mm->Tr×Mm
 | .alloc n i k,s=>tG (k ((s.nodes.length+1:Nat):Int)) (s.push n i)
 | .cell i k,s=>tG (k ((s.cs.length+1:Nat):Int)) ⟨s.nodes,s.cs++[i],s.gen⟩
 | .gen k,s=>tG (k (s.gen+1)) ⟨s.nodes,s.cs,s.gen+1⟩
 | .node r k,s=>tG (k (cA s.nodes r)) s
 | t,s=>(t,s)
def nxT:Tr->Mm->Tr×Mm
 | .load c k,s=>(k (bV s.cs c),s)
 | .oG c o n k,s=>(k (vv s.cs c o),⟨s.nodes,gF s.cs c o n,s.gen⟩)
 | t,s=>(t,s)
def yu(p:Tr×Mm):Tr×Mm:=tG (nxT p.1 p.2).1 (nxT p.1 p.2).2
def Tr.live:Tr->Bool
 | .done _=>false
 | _=>true
def Ia(p:Tr×Mm):Nat->Tr×Mm
 | 0=>p
 | k+1=>yu (Ia p k)
theorem zu{t t':Tr}{s s':Mm}(h:Lp t s t' s'):nxT t s=(t',s')/\∀u,tG t u=(t,u):=by
 cases h with
 | load c k s=>exact⟨rfl,λ _=>rfl⟩
 | oG c o n k s b hb=>rw[my hb];exact⟨rfl,λ _=>rfl⟩
theorem sr{t t':Tr}{s s':Mm}(h:Sp t s t' s'):tG t s=tG t' s':=by
 cases h<;>rfl
theorem Rl(p:Tr×Mm)(j:Nat):∀k,Ia p (j+k)=Ia (Ia p j) k
 | 0=>rfl
 | k+1=>by show yu (Ia p (j+k))=_;rw[Rl p j k];rfl
theorem Lz{r:Rs}{s:Mm}:∀k,Ia (.done r,s) k=(.done r,s)
 | 0=>rfl
 | k+1=>by show yu (Ia _ k)=_;rw[Lz k];rfl
theorem nl{j:Nat}{t t':Tr}{s s':Mm}(h:Rc j t s t' s'):Ia (tG t s) j=tG t' s':=by
 induction h with
 | refl t s=>rfl
 | tG _ hs ih=>rw[ih];exact sr hs
 | loud _ hs ih =>
  obtain⟨h1,h2⟩:=zu hs
  show yu (Ia _ _)=_
  rw[ih,h2]
  unfold yu
  rw[h1]
end

/- gen.Put and gen.Drop: a call that runs alone until it ends. -/
end Go.Ct
namespace Go.Proofs.YtadnboagdhcedaaGreatDoor
section
open Go Go.RowKit Go.Ct
def kG(kind:Int)(key:ByteArray)(v:Int)(m:Nat):Cl:=⟨kind,⟨3,false⟩,0,0,0,0,0,(m:Int),key,v,0,0,false⟩
structure zP(k:Cl)(m:Nat)(x0:XS)(B:Nat)(y:RY):Prop extends F4 k m x0 B y where
 rj:∃j,j<=y.i/\(y.dn=false->j=y.i)/\Rc j (T0 k m) x0.mm y.R y.x.mm
theorem zP.H9{k:Cl}{m N:Nat}{x0 x':XS}{B:Nat}{N':List aL}{dn:Bool}{rs:Rs}(hN:N<1073741824)(h:vP (T0 k m) (T0 k m) 0 0 Rs.zero x0 x' N' dn rs)(hs:Sz x0 B):∃R,zP k m x0 B ⟨0,x',N',dn,rs,R⟩:=by
 obtain⟨R',j,h1,h7,h3,h4,h5,h6⟩:=h.w5
 exact⟨R',⟨h3,⟨j,h4⟩,h5,h6,by have:=h.gl;show x'.got.length<=0;omega,Df (nM _ m hN) h4 h1 hs⟩,⟨j,h1,h7,h4⟩⟩
theorem zP.step{k:Cl}{m:Nat}{x0 x':XS}{B:Nat}{y:RY}{N':List aL}{dn:Bool}{rs:Rs}(hi:zP k m x0 B y)(hd:y.dn=false)(hB:y.i<1073741822)(h:vP (T0 k m) y.R 1 (y.x.got.length+1) y.rs y.x x' N' dn rs):∃R,zP k m x0 B ⟨y.i+1,x',y.N++N',dn,rs,R⟩:=by
 obtain⟨R',j,h1,h7,h3,h4,h5,h6⟩:=h.w5
 obtain⟨j0,h8,h9,hj0⟩:=hi.rj
 have hg:=hi.gl
 refine⟨R',⟨h3,⟨j0+j,hj0.trans h4⟩,by show x'.L=_;rw[h5,hi.ext,List.append_assoc],Nat.le_trans hi.lc h6,by have:=h.gl;show x'.got.length<=y.i+1;omega,?_⟩,⟨j0+j,by show _<=y.i+1;omega,λ e=>by have:=h9 hd;have:=h7 e;show _=y.i+1;omega,hj0.trans h4⟩⟩
 have:=Aw hi.ex hd (nM _ m (n:=y.x.got.length+1) (by omega)) (Nat.le_refl _) h4 h1 hi.sz
 rw[show B+64+128*(y.i+1)=B+64+128*y.i+128 by omega]
 exact this
theorem zV{p:Tr×Mm}{j:Nat}(h:(Ia p j).1.live=false):∀k,Ia p (j+k)=Ia p j:=λ k=>by
 rw[Rl]
 rcases e:Ia p j with⟨t,s⟩
 rw[e] at h
 cases t<;>first|exact Lz k|(exact nomatch (show true=false from h))
theorem zP.lt{k:Cl}{m Nf:Nat}{x0:XS}{B:Nat}{y:RY}(hi:zP k m x0 B y)(hd:y.dn=false)(hf:(Ia (Go.Ct.tG (T0 k m) x0.mm) Nf).1.live=false):y.i<Nf:=by
 obtain⟨j,_,h9,hj⟩:=hi.rj
 have e:=nl hj
 rw[h9 hd] at e
 have hacc:y.R.acc=some y.x.nx:=by
  rcases hi.ex.Vv with⟨h1,_⟩|⟨_,h1⟩
  ·rw[hd] at h1;cases h1
  ·exact h1
 have hl:(Go.Ct.tG y.R y.x.mm).1.live=true:=by
  cases hR:y.R<;>rw[hR] at hacc<;>first|rfl|(simp[Tr.acc] at hacc;done)
 rcases Nat.lt_or_ge y.i Nf with h|h
 ·exact h
 ·have:=zV hf (y.i-Nf)
  rw[show Nf+(y.i-Nf)=y.i by omega,e] at this
  rw[this,hf] at hl
  cases hl
theorem zP.end{k:Cl}{m Nf:Nat}{x0:XS}{B:Nat}{y:RY}(hi:zP k m x0 B y)(hd:y.dn=true)(hf:(Ia (Go.Ct.tG (T0 k m) x0.mm) Nf).1.live=false):y.x.mm=(Ia (Go.Ct.tG (T0 k m) x0.mm) Nf).2/\y.R=.done y.rs:=by
 obtain⟨j,_,_,hj⟩:=hi.rj
 have hR:y.R=.done y.rs:=by
  rcases hi.ex.Vv with⟨_,h1⟩|⟨h1,_⟩
  ·exact h1
  ·rw[hd] at h1;cases h1
 have e:=nl hj
 rw[hR] at e
 have e2:Ia (Go.Ct.tG (T0 k m) x0.mm) j=(.done y.rs,y.x.mm):=e
 refine⟨?_,hR⟩
 rcases Nat.le_total j Nf with h|h
 ·have:=zV (p:=Go.Ct.tG (T0 k m) x0.mm) (j:=j) (by rw[e2];rfl) (Nf-j)
  rw[show j+(Nf-j)=Nf by omega,e2] at this
  rw[this]
 ·have:=zV hf (j-Nf)
  rw[show Nf+(j-Nf)=j by omega,e2] at this
  rw[<- this]
section
variable{bm:Nat}{L:List aL}{cs:List Int}{gen acc:Int}{pn pc:Option Addr}{cn cc:Nat}{D:List Nat}{A:Fr}{w:World}
set_option maxHeartbeats 1000000 in
theorem r5{m Nf B:Nat}{key:ByteArray}{v:Int}(hm:m<18446744073709551616)(hB:B+128*Nf<=100000000000)(hN:Nf<=1048576)(hsz:Sz (XS.new L cs gen acc pn cn pc cc) B)(hl:L.length<=100000000000)(ok:(XS.new L cs gen acc pn cn pc cc).Ok)(hf:(Ia (Go.Ct.tG (T0 (kG 8 key v m) m) ⟨L.map aL.c,cs,gen⟩) Nf).1.live=false)(hA:∀f∈aV L,f∈A)
  (hs:SF w D [(bm,mO L cs gen acc pn cn pc cc)] A [] (mW L cs pn cn pc cc) w) :
  Calls Tryz.prog 16 #[.pointer (some ⟨bm,0,none⟩),.agg ⟨[.int .i64 3,.bool false]⟩,.int .u64 ((m:Nat):Int),.string key,.int .u64 v] w λ e w'=>∃y:RY,e=.returned (.tuple #[])/\(zP (kG 8 key v m) m (XS.new L cs gen acc pn cn pc cc) B y/\y.dn=true/\y.i<=Nf)/\SF w D [(bm,xM y.x)] [] (aV y.N) (mW y.x.L y.x.cs y.x.pn y.x.cn y.x.pc y.x.cc) w':=by
 have hL:(0:Int)<=L.length:=bF _
 have hsz2:=hsz
 obtain⟨s1,s2,s3⟩:=hsz2
 simp only[XS.new] at s1 s2 s3
 have hkk:dq (kG 8 key v m):=.inr ⟨by show(7:Int)<=8;decide,by show(8:Int)<=12;decide⟩
 have em:(kG 8 key v m).mask=(m:Int):=rfl
 have hkt:(kG 8 key v m).t.root<=9223372036854775807:=by show(3:Int)<=9223372036854775807;decide
 have ha:(kG 8 key v m).a=0:=rfl
 have hb:(kG 8 key v m).b=0:=rfl
 have hnn:(kG 8 key v m).n=0:=rfl
 refine enter Tryz.func16 Tryz.ntmps16 rfl rfl (tO hs) ?_
 simp only[cP]
 refine J0 ?_;refine bP (λ x6=>?_);refine aI ?_;refine Kb0 ?_;refine nX ?_;refine aB ?_;refine bD ?_;refine aC (cMH (hs:=[(bm,mO L cs gen acc pn cn pc cc)]) (os:=mW L cs pn cn pc cc) (A0:=aV L) (hA:=bQ.of λ f hf=>.inr (.inl (hA f hf))) (hc:=λ w hs=>Mu (k:=(kG 8 key v m)) (m:=m) ⟨by omega,by omega,by omega⟩ hkk hm em hkt (by omega) (by omega) (by omega) (λ f hf=>hf) ok hs)) (λ x17 h17=>?_);refine J1 ?_;refine bW ?_
 obtain⟨R0,hR0⟩:=zP.H9 (B:=B) (N:=0) (by decide) h17 hsz
 refine lE [18,19,20,21,22] (λ _:RY=>[]) (λ y=>zP (kG 8 key v m) m (XS.new L cs gen acc pn cn pc cc) B y/\y.i<=Nf) (λ y=>[(x17.1,xO (kG 8 key v m) bm y.x y.dn y.rs),(bm,xM y.x)]) (λ y=>aV y.N) (λ y=>[⟨y.x.pg,aG y.x.got,y.x.kg,62,1⟩,⟨y.x.pm,aG y.x.made,y.x.km,62,1⟩,⟨y.x.pl,aG y.x.cel,y.x.kl,27,1⟩,⟨y.x.pe,aG y.x.gns,y.x.ke,3,1⟩,⟨y.x.pn,gR y.x.L,y.x.cn,77,14⟩,⟨y.x.pc,aG y.x.cs,y.x.cc,62,1⟩]) (λ y=>Nf-y.i) (⟨0,x17.2.1,x17.2.2.1,x17.2.2.2.1,x17.2.2.2.2,R0⟩) (⟨hR0,Nat.zero_le _⟩) (λ y f hx=>?_) (hw0:=λ w hw=>by rw[List.append_nil] at hw;exact hw.back (hH:=.cons_cons _ (.cons _ (.cons_cons _ (List.Sublist.refl _)))) (hF:=by exact aW.all))
 dsimp only[fY,List.map,List.cons_append,List.nil_append]
 obtain⟨hi,his⟩:=hx
 have hsx:=hi.sz
 obtain⟨z1,z2,z3⟩:=hsx
 have hgl:=hi.gl
 refine kR ?_;refine aC (cM (hs:=xH (kG 8 key v m) x17.1 bm y.x y.dn y.rs) (os:=xW y.x) (hc:=λ w hs=>Ov hs)) (λ x19 h19=>?_);refine mS ?_
 refine aZ (λ c20=>?_) (λ c20=>?_)
 ·refine bA ?_;refine bW ?_;refine wS ?_;refine aC (cM (hs:=xH (kG 8 key v m) x17.1 bm y.x y.dn y.rs) (os:=xW y.x) (A0:=aV y.x.L) (hA:=bQ.of λ f hf=>by rw[hi.ext,dB] at hf;rcases List.mem_append.1 hf with hf|hf;exact .inr (.inl (hA f hf));exact .inr (.inr (.inl hf))) (hc:=λ w hs=>Pt (N:=y.x.got.length+1) (n:=1073741824) (m:=m) (nM _ m (by omega)) (by omega) rfl ⟨by omega,by omega,by omega⟩ hi.ex hkk (Nat.le_refl _) hm em hkt (by rw[ha];exact bF _) (by rw[hb];exact bF _) (by rw[hnn];exact bF _) (λ f hf=>hf) hs)) (λ x22 h22=>?_);refine aI ?_;refine eT ?_
  have hdf:y.dn=false:=by simp_all
  have hlt:y.i<Nf:=hi.lt hdf hf
  have hq:vP (T0 (kG 8 key v m) m) y.R 1 (y.x.got.length+1) y.rs y.x x22.1 x22.2.1 x22.2.2.1 x22.2.2.2:=by rcases h22 with h|h;rw[hdf] at h;cases h.1;exact h.2
  obtain⟨R1,hR1⟩:=hi.step hdf (by omega) hq
  refine gC (⟨y.i+1,x22.1,y.N++x22.2.1,x22.2.2.1,x22.2.2.2,R1⟩) ?_ (hw1:=λ w hw=>hw.back (hF:=by rw[dB];exact aW.oP λ f hf=>(List.mem_append.1 hf).elim (λ h=>List.mem_append_right _ h) (λ h=>List.mem_append_left _ h)))
  ·exact⟨hR1,by show y.i+1<=Nf;omega⟩
 ·refine bI rfl ?_
  refine By Tryz.results16 (λ w hw=>?_)
  have hdt:y.dn=true:=by simp_all
  exact⟨y,rfl,⟨hi,hdt,his⟩,hw.v4⟩
end
end

/- Views: the root of a trie, the main node of an I-node. -/
end Go.Proofs.YtadnboagdhcedaaGreatDoor
namespace Go.Ct
section
open Go Go.RowKit
theorem gS.Fa{L:List aL}{cs:List Int}{pn pc:Option Addr}{w w0:World}{M:List Nat}{H:List (Nat×Obj)}{F:Fr}{O:List Ow}(h:gS w0 L cs pn pc)(hw:SF w0 M H ((pn,gR L)::(pc,aG cs)::aV L) F O w):gS w L cs pn pc:=hw.tH (.inr (.inl (.head _))) (.inr (.inl (.tail _ (.head _)))) (λ f hf=>.inr (.inl (.tail _ (.tail _ hf)))) h.fit
theorem cI(L:List aL)(r:Int):cA (L.map aL.c) r=(aA L r).c:=(Km L r).symm
end
end Go.Ct
namespace Go.Proofs.YtadnboagdhcedaaGreatDoor
section
open Go Go.RowKit Go.Ct
section
variable{L:List aL}{cs:List Int}{gen:Int}{pn pc:Option Addr}{cn cc:Nat}{w:World}
abbrev pW(L:List aL)(cs:List Int)(gen:Int)(pn:Option Addr)(cn:Nat)(pc:Option Addr)(cc:Nat):Value:=.agg ⟨[.slice pn L.length cn,.slice pc cs.length cc,.int .i64 gen]⟩
theorem ta(h:gS w L cs pn pc)(r:Int)(hr:r<1):Calls Tryz.prog 70 #[pW L cs gen pn cn pc cc,.int .i64 r] w λ e w'=>e=.returned (aA L r).nd.v/\St w [] [] w':=by
 refine enter Tryz.func70 Tryz.ntmps70 rfl rfl h.start ?_
 simp only[cP]
 refine J0 ?_;refine bP (λ x2=>?_);refine aP (λ x4=>?_);refine aI ?_;refine kR ?_;refine Ec ?_
 (refine eF 7 (λ g7=>?_) (λ g7=>?_)<;>(try (exfalso;omega))<;>(refine aH ?_))
 refine Um ?_;refine Kb5 ?_
 refine aZ (λ c13=>?_) (λ c13=>?_)
 ·try (exfalso;omega)
  refine J0 ?_;refine zO ?_
  refine bK Tryz.results70 (λ w hw=>?_)
  exact⟨by rw[xD (by omega)];rfl,hw.done⟩
 ·exact nv c13
theorem us(h:gS w L cs pn pc){k:Nat}(hk:(k:Int)<9223372036854775807)(hl:L.length<=274877906944):Calls Tryz.prog 70 #[pW L cs gen pn cn pc cc,.int .i64 ((k+1:Nat):Int)] w λ e w'=>e=.returned (aA L ((k+1:Nat):Int)).nd.v/\St w [] [] w':=by
 refine enter Tryz.func70 Tryz.ntmps70 rfl rfl h.start ?_
 simp only[cP]
 refine J0 ?_;refine bP (λ x2=>?_);refine aP (λ x4=>?_);refine aI ?_;refine kR ?_;refine Ec ?_
 (refine Ka4 ?_)
 refine Um ?_;refine Kb5 ?_
 refine aZ (λ c13=>?_) (λ c13=>?_)
 ·try (exfalso;omega)
  refine J0 ?_;refine zO ?_
  refine bK Tryz.results70 (λ w hw=>?_)
  (exact⟨by rw[xD (by omega)];rfl,hw.done⟩)
 ·try (exfalso;omega)
  refine bA ?_;refine gU ?_;refine aB ?_;refine pC ?_;refine To ?_;refine J5 ?_
  refine bK Tryz.results70 (λ w hw=>?_)
  (exact⟨by rw[fO (by omega)];rfl,hw.done⟩)
theorem rX(h:gS w L cs pn pc)(r:Int)(hr:r<=9223372036854775807)(hl:L.length<=274877906944):Calls Tryz.prog 70 #[pW L cs gen pn cn pc cc,.int .i64 r] w λ e w'=>e=.returned (aA L r).nd.v/\St w [] [] w':=by
 rcases Int.lt_or_le r 1 with h1|h1
 ·exact ta h r h1
 ·obtain⟨k,rfl⟩:∃k:Nat,r=((k+1:Nat):Int):=⟨(r-1).toNat,by omega⟩
  exact us h (by omega) hl
theorem cq(h:gS w L cs pn pc)(r:Int)(hr:r<1):Calls Tryz.prog 69 #[pW L cs gen pn cn pc cc,.int .i64 r] w λ e w'=>e=.returned (.int .i64 (bV cs r))/\St w [] [] w':=by
 refine enter Tryz.func69 Tryz.ntmps69 rfl rfl h.start ?_
 simp only[cP]
 refine J0 ?_;refine bP (λ x2=>?_);refine gP ?_;refine J2 ?_;refine Ec ?_
 (refine eF 7 (λ g7=>?_) (λ g7=>?_)<;>(try (exfalso;omega))<;>(refine aH ?_))
 refine Um ?_;refine Kb5 ?_
 refine aZ (λ c13=>?_) (λ c13=>?_)
 ·try (exfalso;omega)
  refine cQ ?_
  refine aQ Tryz.results69 (λ w hw=>?_)
  exact⟨by rw[zB (by omega)];rfl,hw.done⟩
 ·exact nv c13
theorem Zz(h:gS w L cs pn pc){k:Nat}(hk:(k:Int)<9223372036854775807)(hl:cs.length<=274877906944):Calls Tryz.prog 69 #[pW L cs gen pn cn pc cc,.int .i64 ((k+1:Nat):Int)] w λ e w'=>e=.returned (.int .i64 (bV cs ((k+1:Nat):Int)))/\St w [] [] w':=by
 refine enter Tryz.func69 Tryz.ntmps69 rfl rfl h.start ?_
 simp only[cP]
 refine J0 ?_;refine bP (λ x2=>?_);refine gP ?_;refine J2 ?_;refine Ec ?_
 (refine Ka4 ?_)
 refine Um ?_;refine Kb5 ?_
 refine aZ (λ c13=>?_) (λ c13=>?_)
 ·try (exfalso;omega)
  refine cQ ?_
  refine aQ Tryz.results69 (λ w hw=>?_)
  (exact⟨by rw[zB (by omega)];rfl,hw.done⟩)
 ·try (exfalso;omega)
  refine bA ?_;refine gU ?_;refine aB ?_;refine pC ?_;refine To ?_;refine J1 ?_
  refine aQ Tryz.results69 (λ w hw=>?_)
  (exact⟨by rw[C7 (by omega)];rfl,hw.done⟩)
theorem Cf(h:gS w L cs pn pc)(r:Int)(hr:r<=9223372036854775807)(hl:cs.length<=274877906944):Calls Tryz.prog 69 #[pW L cs gen pn cn pc cc,.int .i64 r] w λ e w'=>e=.returned (.int .i64 (bV cs r))/\St w [] [] w':=by
 rcases Int.lt_or_le r 1 with h1|h1
 ·exact cq h r h1
 ·obtain⟨k,rfl⟩:∃k:Nat,r=((k+1:Nat):Int):=⟨(r-1).toNat,by omega⟩
  exact Zz h (by omega) hl
structure yr(L:List aL)(cs:List Int):Prop where
 cs:∀c,bV cs c<=9223372036854775807
 bM:∀r,(aA L r).nd.bM<=9223372036854775807
 new:∀r,(aA L r).nd.new<=9223372036854775807
 main:∀r,(aA L r).nd.main<=9223372036854775807
 prev:∀r,(aA L r).nd.prev<=9223372036854775807
 status:∀r,(aA L r).nd.status<=9223372036854775807
 br:∀r,∀b∈(aA L r).xs,b<=9223372036854775807
theorem ik(h:gS w L cs pn pc)(hb:yr L cs)(hl:L.length<=274877906944)(hc:cs.length<=274877906944)(i:Int)(hi:i<=9223372036854775807):Calls Tryz.prog 95 #[pW L cs gen pn cn pc cc,.int .i64 i] w λ e w'=>e=.returned (.tuple #[.int .i64 ((eK (L.map aL.c) cs i).getD 0),.bool (eK (L.map aL.c) cs i).isSome])/\St w [] [] w':=by
 refine enter Tryz.func95 Tryz.ntmps95 rfl rfl h.start ?_
 simp only[cP]
 simp only[pW]
 refine J0 ?_;refine bP (λ x2=>?_);refine J8 ?_;refine Bx ?_;refine aU (cV (hc:=λ w1 hw=>rX (h.Fa hw) i hi hl)) (λ x12=>?_);refine aP (λ x6=>?_);refine J5 ?_;refine An ?_;refine Kc0 ?_
 refine aZ (λ c15=>?_) (λ c15=>?_)
 ·refine F5 ?_
  refine bK Tryz.results95 (λ w hw=>?_)
  refine⟨?_,hw.done⟩
  unfold eK mL iO oQ
  simp only[cI,bT,aL.c,Nd.c]
  simp_all
  rfl
 ·refine bA ?_;refine kN ?_;refine J3 ?_;refine aU (cV (hc:=λ w1 hw=>Cf (h.Fa hw) (aA L i).nd.main (hb.main i) hc)) (λ x19=>?_);refine gP ?_;refine Bx ?_;refine aU (cV (hc:=λ w1 hw=>rX (h.Fa hw) (bV cs (aA L i).nd.main) (hb.cs _) hl)) (λ x22=>?_);refine aC (c0 (V:=.bool) (hc:=λ w1 hw=>Dc _ w1)) (λ x23 h23=>?_);refine mS ?_
  refine aZ (λ c24=>?_) (λ c24=>?_)
  ·refine F5 ?_
   refine bK Tryz.results95 (λ w hw=>?_)
   refine⟨?_,hw.done⟩
   unfold eK mL iO oQ
   simp only[cI,bT,aL.c,Nd.c]
   simp_all
   rfl
  ·refine jM ?_;refine eG [(0,[]),(1,[]),(2,[]),(3,[0]),(4,[]),(5,[]),(6,[])] ?_;refine bO ?_;refine bO ?_;refine aS ?_;refine cX (i:=3) (hq:=(cV (hc:=λ w1 hw=>rX (h.Fa hw) (bV cs (aA L i).nd.main) (hb.cs _) hl))) (h:=λ x28=>?_);refine Ca ?_;refine cX (i:=5) (hq:=(cV (hc:=λ w1 hw=>Cf (h.Fa hw) (aA L (bV cs (aA L i).nd.main)).nd.prev (hb.prev _) hc))) (h:=λ x30=>?_);refine J7 ?_;refine kR ?_;refine sX ?_
   refine aZ (λ c32=>?_) (λ c32=>?_)
   ·refine J2 ?_;refine J8 ?_
    refine bK Tryz.results95 (λ w hw=>?_)
    refine⟨?_,hw.done⟩
    unfold eK mL iO oQ
    simp only[cI,bT,aL.c,Nd.c]
    simp_all
    rfl
   ·refine jM ?_;refine Bx ?_;refine aU (cV (hc:=λ w1 hw=>rX (h.Fa hw) (bV cs (aA L (bV cs (aA L i).nd.main)).nd.prev) (hb.cs _) hl)) (λ x36=>?_);refine aP (λ x9=>?_);refine J5 ?_;refine gU ?_;refine sX ?_
    refine aZ (λ c39=>?_) (λ c39=>?_)
    ·refine dJ ?_;refine J3 ?_;refine gP ?_;refine Bx ?_;refine aU (cV (hc:=λ w1 hw=>rX (h.Fa hw) _ (by exact hb.bM _) hl)) (λ x44=>?_);refine aC (c0 (V:=.bool) (hc:=λ w1 hw=>Dc _ w1)) (λ x45 h45=>?_);refine mS ?_
     refine aZ (λ c46=>?_) (λ c46=>?_)
     ·refine F5 ?_
      refine bK Tryz.results95 (λ w hw=>?_)
      refine⟨?_,hw.done⟩
      unfold eK mL iO oQ
      simp only[cI,bT,aL.c,Nd.c]
      simp_all
      rfl
     ·refine bA ?_;refine J2 ?_;refine J8 ?_
      refine bK Tryz.results95 (λ w hw=>?_)
      refine⟨?_,hw.done⟩
      unfold eK mL iO oQ
      simp only[cI,bT,aL.c,Nd.c]
      simp_all
      rfl
    ·refine jM ?_;refine Bx ?_;refine aU (cV (hc:=λ w1 hw=>rX (h.Fa hw) _ (by exact hb.cs _) hl)) (λ x44=>?_);refine aC (c0 (V:=.bool) (hc:=λ w1 hw=>Dc _ w1)) (λ x45 h45=>?_);refine mS ?_
     refine aZ (λ c46=>?_) (λ c46=>?_)
     ·refine F5 ?_
      refine bK Tryz.results95 (λ w hw=>?_)
      refine⟨?_,hw.done⟩
      unfold eK mL iO oQ
      simp only[cI,bT,aL.c,Nd.c]
      simp_all
      rfl
     ·refine bA ?_;refine J2 ?_;refine J8 ?_
      refine bK Tryz.results95 (λ w hw=>?_)
      refine⟨?_,hw.done⟩
      unfold eK mL iO oQ
      simp only[cI,bT,aL.c,Nd.c]
      simp_all
      rfl
end
end

end Go.Proofs.YtadnboagdhcedaaGreatDoor
