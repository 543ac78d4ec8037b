/- Worlds: Create. -/
import Derived.Test.YtbajmaoegmbfgaaGreatGEx24
import Derived.Test.YtbajmaoegmbfgaaGreatGMst
import Derived.Test.YtbajmaoegmbfgaaGreatGArN
import Derived.Test.YtbajmaoegmbfgaaGreatGEx18

set_option linter.unusedSimpArgs false
set_option linter.unusedVariables false
namespace Go.Proofs.YtbajmaoegmbfgaaGreat
section
open Go Go.RowKit Go.Ct
def bg:Nd:={Nd.zero with kind:=3}
def vx(g:Int):Nd:={Nd.zero with kind:=2,gen:=g}
def L4(x y:AX):List aP:=[fE,fE]++[nX bg [] [] 0 x]++[nX (vx 1) [] [] 1 y]
theorem cw{x y:AX}:∀f∈aM (L4 x y),f.2=[]:=by
 intro f hf
 simp[aM,L4,aP.fr,fE,nX,aG,cR] at hf
 rcases hf with hf|hf|hf|hf|hf|hf|hf|hf<;>rw[hf]
theorem O2{w:World}{D:List Nat}{b:Nat}{acc:Int}{pn:Option Addr}{cn:Nat}{A:Fr}(hs:SF w D [(b,mO [fE,fE] [] 0 acc pn cn none 0)] A [] (mW [fE,fE] [] pn cn none 0) w) :
  Calls Tryz.prog 66 #[.pointer (some ⟨b,0,none⟩)] w λ e w'=>∃q:AX×AX×Option Addr×Nat,e=.returned (.agg ⟨[.int .i64 3,.bool false]⟩)/\True /\
   SF w D [(b,mO (L4 q.1 q.2.1) [0,3,4] 1 acc q.2.1.pn q.2.1.cn q.2.2.1 q.2.2.2)] [] (aM (L4 q.1 q.2.1)) (mW (L4 q.1 q.2.1) [0,3,4] q.2.1.pn q.2.1.cn q.2.2.1 q.2.2.2) w':=by
 refine enter Tryz.func66 Tryz.ntmps66 rfl rfl (yA hs) ?_
 simp only[cD]
 refine J0 ?_;refine aJ (λ x2=>?_);refine aH ?_;refine J2 ?_;refine bM ?_;refine aD (cM (A0:=[(none,aG []),(none,cR [])]) (hc:=λ w hs=>Gv (L:=[fE,fE]) (cs:=[]) (n:=bg) (xs:=[]) (ys:=[]) 0 hs rfl rfl (by decide) (by decide) (by decide) (by decide))) (λ x7 h7=>?_);refine J1 ?_;refine J2 ?_;refine aD (cM (hc:=λ w hs=>Jv (L:=[fE,fE]++[nX bg [] [] 0 x7]) (cs:=[0]) hs)) (λ x9 h9=>?_);refine zI ?_;refine aA ?_;refine bM ?_;refine aA ?_;refine aD (cM (A0:=[(none,aG []),(none,cR [])]) (hc:=λ w hs=>Gv (L:=[fE,fE]++[nX bg [] [] 0 x7]) (cs:=[0]) (n:=vx 1) (xs:=[]) (ys:=[]) 3 hs rfl rfl (by decide) (by decide) (by simp) (by decide))) (λ x15 h15=>?_);refine aD (cM (hc:=λ w hs=>lB (L:=L4 x7 x15) (cs:=[0,3]) 4 hs (by decide))) (λ x16 h16=>?_);refine vL ?_
 refine aY Tryz.results66 (λ w hw=>?_)
 exact⟨(x7,x15,x16.1,x16.2),rfl,trivial,(hw.eU (λ f hf=>.inl (cw f hf))).aV (hF:=by exact aW.all)⟩
end

/- Calls that may change known blocks and own lists, and leave new ones. -/
section
open Go Go.RowKit Go.Ct
section
variable{S:List (Nat×Value)}{w0 w:World}{M:List Nat}{H:List (Nat×Obj)}{A F:Fr}{O:List Ow}{ty:TypeId}{pos:String}{af:Array Edge}{gd:Option (Nat×Bool)}{X:Type}{V:X->Value}
theorem j5{φ:X->Prop}{hs H':List (Nat×Obj)}{os O':List Ow}{hs' Hc H1:X->List (Nat×Obj)}{os' Oc O1:X->List Ow}{Fc F1:X->Fr}{A0:Fr}{is js:List Nat}{f:FuncId}{xs:List Operand}{at_:Array TypeId}{vs:List Value}{dst:Option Nat}
  (ha:qX S xs=vs:=by(repeat (first|exact dC _|(apply cH;focus ((conv=>{lhs;whnf});try exact rfl))));first|done|fail) (hp:plain Tryz.prog f=true:=by kernel_rfl)
  (hc:∀w,SF w (Ks hs os) hs A0 [] os w->Calls Tryz.prog f ⟨vs⟩ w λ e w'=>∃x,e=.returned (V x)/\φ x/\SF w (Ks hs os) (hs' x++Hc x) [] (Fc x) (os' x++Oc x) w')
  (hH:nK H is hs H':=by(repeat (first|exact nK.nil|(apply nK.cons;(focus ((repeat (first|exact A3.head|apply A3.tail));done));simp only[rH])));first|done|fail)
  (hO:nK O js os O':=by(repeat (first|exact nK.nil|(apply nK.cons;(focus ((repeat (first|exact A3.head|apply A3.tail));done));simp only[rH])));first|done|fail)
  (hA:bE A F O' A0:=by(repeat (first|exact bE.of (λ _ h=>Or.inr (Or.inl h))|exact bE.nil|(refine bE.cons (by first|exact Or.inl rfl|exact Or.inr (Or.inr (Or.inl (by simp)))|exact Or.inr (Or.inl (by simp))|exact Or.inr (Or.inr (Or.inr (by simp)))) ?_)));first|done|fail)
  (hl1:∀x,is.length=(hs' x).length:=by intro x;exact rfl) (hl2:∀x,js.length=(os' x).length:=by intro x;exact rfl)
  (hH1:∀x,Hc x++jO is (hs' x) H'=H1 x:=by intro x;first|(simp only[jO,sR,List.nil_append,List.cons_append];exact rfl)|exact rfl) (hF1:∀x,Fc x++F=F1 x:=by intro x;first|(simp only[List.nil_append,List.cons_append];exact rfl)|exact rfl) (hO1:∀x,Oc x++jO js (os' x) O'=O1 x:=by intro x;simp only[jO,sR,mW,List.nil_append,List.cons_append];exact rfl) :
  bC Tryz.prog S (SF w0 M H A F O) ⟨dst,.call {callee:=.value (.func f),args:=⟨xs⟩,argTypes:=at_},ty,pos,af,gd⟩ X V (λ x w=>φ x/\SF w0 M (H1 x) A (F1 x) (O1 x) w) :=
 iJ (oG hp ha) λ w hw=>(hc w (hw.rY hH hO hA)).mono λ _ _ ⟨x,he,hx,hs⟩=>⟨x,he,hx,by
  have:=hw.Ax (hs':=hs' x) (Hc:=Hc x) (os':=os' x) (Oc:=Oc x) hH hO hs (hl1 x) (hl2 x)
  rw[<- hH1 x,<- hF1 x,<- hO1 x]
  exact this⟩
end
end

/- Worlds: an execution is run. -/
end Go.Proofs.YtbajmaoegmbfgaaGreat
namespace Go.Ct
section
open Go Go.RowKit
theorem Rc.trans{i j:Nat}{t t1 t2:Tr}{s s1 s2:Mm}(h1:Rc i t s t1 s1)(h2:Rc j t1 s1 t2 s2):Rc (i+j) t s t2 s2:=by
 induction h2 with
 | refl t s=>exact h1
 | dY _ hs ih=>exact .dY (ih h1) hs
 | loud _ hs ih=>exact .loud (ih h1) hs
def Sz(x:XS)(B:Nat):Prop:=x.L.length<=B/\x.cs.length<=B/\x.gen<=B
theorem I0{T R R':Tr}{x x':XS}{dn:Bool}{rs:Rs}{j N B:Nat}(h:li T x dn rs R)(hd:dn=false)(hT:bT T N 64)(hN:x.got.length+1<=N)(hr:Rc j R x.mm R' x'.mm)(hj:j<=1)(hs:Sz x B):Sz x' (B+128):=by
 rcases h.j8 with⟨e,_⟩|⟨_,e⟩
 ·rw[hd] at e;cases e
 ·obtain⟨c,h1,_,_⟩:=h.wk.vF (Nat.le_refl 64) hT (by omega)
  obtain⟨c',h2,h3,h4,h5,h6,h7⟩:=hr.vF (Nat.le_refl 64) (M9 e h1 (by omega)) (by omega)
  obtain⟨s1,s2,s3⟩:=hs
  simp only[XS.mm,List.length_map] at h5 h6 h7
  exact⟨by omega,by omega,by omega⟩
theorem Sy{T R':Tr}{x x':XS}{j N B:Nat}(hT:bT T N 64)(hr:Rc j T x.mm R' x'.mm)(hj:j<=0)(hs:Sz x B):Sz x' (B+64):=by
 obtain⟨c',h2,h3,h4,h5,h6,h7⟩:=hr.vF (Nat.le_refl 64) hT (by omega)
 obtain⟨s1,s2,s3⟩:=hs
 simp only[XS.mm,List.length_map] at h5 h6 h7
 exact⟨by omega,by omega,by omega⟩
end
end Go.Ct
namespace Go.Proofs.YtbajmaoegmbfgaaGreat
section
open Go Go.RowKit Go.Ct
noncomputable def T0 (k:Cl) (m:Nat):Tr:=kT k (lY k.key m) 1073741824
theorem qN(k:Cl)(m:Nat){n:Nat}(h:n<1073741824):bT (T0 k m) n 64:=I8 h
def xE(k:Cl)(bm b:Nat)(x:XS)(dn:Bool)(rs:Rs):List (Nat×Obj):=if dn=true then [] else [(b,xO k bm x false rs)]
def xE4(x:XS)(dn:Bool):List Ow:=if dn=true then [] else [⟨x.pg,aG x.got,x.kg,37,1⟩,⟨x.pm,aG x.made,x.km,37,1⟩,⟨x.pl,aG x.cel,x.kl,27,1⟩,⟨x.pe,aG x.gns,x.ke,3,1⟩]
structure RY where
 i:Nat
 x:XS
 N:List aP
 dn:Bool
 rs:Rs
 R:Tr
structure Lz(k:Cl)(m:Nat)(x0:XS)(B:Nat)(y:RY):Prop where
 ex:li (T0 k m) y.x y.dn y.rs y.R
 rc:∃j,Rc j (T0 k m) x0.mm y.R y.x.mm
 ext:y.x.L=x0.L++y.N
 lc:x0.cs.length<=y.x.cs.length
 gl:y.x.got.length<=y.i
 sz:Sz y.x (B+64+128*y.i)
theorem Lz.oc{k:Cl}{m N:Nat}{x0 x':XS}{B:Nat}{N':List aP}{dn:Bool}{rs:Rs}(hN:N<1073741824)(h:zB (T0 k m) (T0 k m) 0 0 Rs.zero x0 x' N' dn rs)(hs:Sz x0 B):∃R,Lz k m x0 B ⟨0,x',N',dn,rs,R⟩:=by
 obtain⟨R',j,h1,h2,h3,h4,h5,h6⟩:=h.exI
 exact⟨R',h3,⟨j,h4⟩,h5,h6,by have:=h.gl;show x'.got.length<=0;omega,Sy (qN k m hN) h4 h1 hs⟩
theorem Lz.step{k:Cl}{m:Nat}{x0 x':XS}{B:Nat}{y:RY}{N':List aP}{dn:Bool}{rs:Rs}(hi:Lz k m x0 B y)(hd:y.dn=false)(hB:y.i<1073741822)(h:zB (T0 k m) y.R 1 (y.x.got.length+1) y.rs y.x x' N' dn rs):∃R,Lz k m x0 B ⟨y.i+1,x',y.N++N',dn,rs,R⟩:=by
 obtain⟨R',j,h1,h2,h3,h4,h5,h6⟩:=h.exI
 obtain⟨j0,hj0⟩:=hi.rc
 have hg:=hi.gl
 refine⟨R',h3,⟨j0+j,hj0.trans h4⟩,by show x'.L=_;rw[h5,hi.ext,List.append_assoc],Nat.le_trans hi.lc h6,by have:=h.gl;show x'.got.length<=y.i+1;omega,?_⟩
 have:=I0 hi.ex hd (qN k m (n:=y.x.got.length+1) (by omega)) (Nat.le_refl _) h4 h1 hi.sz
 rw[show B+64+128*(y.i+1)=B+64+128*y.i+128 by omega]
 exact this
section
variable{k:Cl}{bw bm m B:Nat}{L:List aP}{cs:List Int}{gen acc:Int}{pn pc:Option Addr}{cn cc:Nat}{D:List Nat}{A:Fr}{w:World}{mask:Int}{ts:List fG}{es:List Nat}{pt pe:Option Addr}{kt ke:Nat}
theorem Yx(hsz:L.length<=137438953472/\cs.length<=137438953472/\gen<=137438953472)(hk:gu k)(hm:m<18446744073709551616)(em:k.mask=(m:Int))(ht:k.t.root<=9223372036854775807)(ha:k.a<=L.length)(hb:k.b<=L.length)(hnn:k.n<=L.length)(hA:∀f∈aM L,f∈A)(ok:(XS.new L cs gen acc pn cn pc cc).Ok)(hs:SF w D [(bm,mO L cs gen acc pn cn pc cc)] A [] [⟨pn,iY L,cn,47,14⟩,⟨pc,aG cs,cc,37,1⟩] w):Calls Tryz.prog 49 #[.pointer (some ⟨bm,0,none⟩),.agg ⟨Qo k⟩] w λ e w'=>∃q:Nat×XS×List aP×Bool×Rs,e=.returned (.pointer (some ⟨q.1,0,none⟩))/\zB (T0 k m) (T0 k m) 0 0 Rs.zero (XS.new L cs gen acc pn cn pc cc) q.2.1 q.2.2.1 q.2.2.2.1 q.2.2.2.2/\SF w D ([(bm,xM q.2.1)]++[(q.1,xO k bm q.2.1 q.2.2.2.1 q.2.2.2.2)]) [] (aM q.2.2.1) ([⟨q.2.1.pn,iY q.2.1.L,q.2.1.cn,47,14⟩,⟨q.2.1.pc,aG q.2.1.cs,q.2.1.cc,37,1⟩]++[⟨q.2.1.pg,aG q.2.1.got,q.2.1.kg,37,1⟩,⟨q.2.1.pm,aG q.2.1.made,q.2.1.km,37,1⟩,⟨q.2.1.pl,aG q.2.1.cel,q.2.1.kl,27,1⟩,⟨q.2.1.pe,aG q.2.1.gns,q.2.1.ke,3,1⟩]) w' :=
 (ob (N:=0) (n:=1073741824) (m:=m) (qN k m (by decide)) (by decide) hsz hk (Nat.le_refl _) hm em ht ha hb hnn hA ok hs).mono λ _ _ ⟨q,e,h,hw⟩=>⟨q,e,h,hw.perm (List.Perm.swap _ _ _) (List.perm_append_comm (l₁:=[_,_]) (l₂:=[_,_,_,_]))⟩
set_option maxHeartbeats 1000000 in
theorem yc(steps:Nat)(hst:steps<=1048576)(hB:B<=100000000000)(hsz:Sz (XS.new L cs gen acc pn cn pc cc) B)(hk:gu k)(hm:m<18446744073709551616)(em:k.mask=(m:Int))(ht:k.t.root<=9223372036854775807)(ha:k.a=0)(hb:k.b=0)(hnn:k.n=0)(hA:∀f∈aM L,f∈A)(ok:(XS.new L cs gen acc pn cn pc cc).Ok)(hts:ts.length<=1000)(hes:es.length<=1000)
  (hs:SF w D [(bw,mF bm mask pt ts.length kt pe es.length ke),(bm,mO L cs gen acc pn cn pc cc)] A [] [⟨pt,tB ts,kt,29,2⟩,⟨pe,zQ es,ke,74,1⟩,⟨pn,iY L,cn,47,14⟩,⟨pc,aG cs,cc,37,1⟩] w) :
  Calls Tryz.prog 67 #[.pointer (some ⟨bw,0,none⟩),.agg ⟨Qo k⟩,.int .i64 (steps:Int)] w λ e w'=>∃q:Nat×RY×KQ,e=.returned (.tuple #[])/\(Lz k m (XS.new L cs gen acc pn cn pc cc) B q.2.1/\q.2.1.i<=steps/\S2 q.2.1.dn q.2.1.rs q.1 ts es q.2.2) /\
   SF w D (xE k bm q.1 q.2.1.x q.2.1.dn q.2.1.rs++[(bw,mF bm mask q.2.2.pt q.2.2.ts.length q.2.2.kt q.2.2.pe q.2.2.es.length q.2.2.ke),(bm,xM q.2.1.x)]) [] (aM q.2.1.N) (xE4 q.2.1.x q.2.1.dn++[⟨q.2.2.pt,tB q.2.2.ts,q.2.2.kt,29,2⟩,⟨q.2.2.pe,zQ q.2.2.es,q.2.2.ke,74,1⟩,⟨q.2.1.x.pn,iY q.2.1.x.L,q.2.1.x.cn,47,14⟩,⟨q.2.1.x.pc,aG q.2.1.x.cs,q.2.1.x.cc,37,1⟩]) w':=by
 have hL:(0:Int)<=L.length:=bI _
 have hsz2:=hsz
 obtain⟨s1,s2,s3⟩:=hsz2
 simp only[XS.new] at s1 s2 s3
 refine enter Tryz.func67 Tryz.ntmps67 rfl rfl hs ?_
 simp only[cD]
 refine J0 ?_;refine bK (λ x4=>?_);refine Ru ?_;refine gM [0,1,2,3,4,5,6] ?_;refine X7 ?_;refine bN ?_;refine bB (i:=5) (hq:=(j5 (hs:=[(bm,mO L cs gen acc pn cn pc cc)]) (os:=[⟨pn,iY L,cn,47,14⟩,⟨pc,aG cs,cc,37,1⟩]) (A0:=aM L) (hA:=bE.of λ f hf=>.inr (.inl (hA f hf))) (hc:=λ w hs=>Yx (m:=m) ⟨by omega,by omega,by omega⟩ hk hm em ht (by omega) (by omega) (by omega) (λ f hf=>hf) ok hs))) (h:=λ x13 h13=>?_);refine J7 ?_;refine aS ?_;refine Dn ?_
 obtain⟨R0,hR0⟩:=Lz.oc (B:=B) (N:=0) (by decide) h13 hsz
 refine oI [7,14,15,16,17,18,19,20,21,22,23,24,25] (λ y:RY=>[(7,.int .i64 ((y.i:Nat):Int))]) (λ y=>Lz k m (XS.new L cs gen acc pn cn pc cc) B y/\y.i<=steps) (λ y=>[(x13.1,xO k bm y.x y.dn y.rs),(x4,.cells ⟨Qo k⟩ 89 (0,0)),(bw,mF bm mask pt ts.length kt pe es.length ke),(bm,xM y.x)]) (λ y=>aM y.N) (λ y=>[⟨y.x.pg,aG y.x.got,y.x.kg,37,1⟩,⟨y.x.pm,aG y.x.made,y.x.km,37,1⟩,⟨y.x.pl,aG y.x.cel,y.x.kl,27,1⟩,⟨y.x.pe,aG y.x.gns,y.x.ke,3,1⟩,⟨pt,tB ts,kt,29,2⟩,⟨pe,zQ es,ke,74,1⟩,⟨y.x.pn,iY y.x.L,y.x.cn,47,14⟩,⟨y.x.pc,aG y.x.cs,y.x.cc,37,1⟩]) (λ y=>steps-y.i) (⟨0,x13.2.1,x13.2.2.1,x13.2.2.2.1,x13.2.2.2.2,R0⟩) (⟨hR0,Nat.zero_le _⟩) (λ y f hx=>?_) (hw0:=λ w hw=>by rw[List.append_nil] at hw;exact hw.back (hF:=by exact aW.all))
 dsimp only[iA,List.map,List.cons_append,List.nil_append]
 obtain⟨hi,his⟩:=hx
 have hsx:=hi.sz
 obtain⟨z1,z2,z3⟩:=hsx
 have hgl:=hi.gl
 refine kX ?_;refine aD (cM (hs:=xH k x13.1 bm y.x y.dn y.rs) (os:=xW y.x) (hc:=λ w hs=>Z4 hs)) (λ x15 h15=>?_);refine Cb ?_
 (refine dX 17 (λ g17=>?_) (λ g17=>?_)<;>(first|refine aI ?_|(refine aE ?_;refine aA ?_)))
 all_goals ((first|refine aI ?_|(refine aE ?_;refine aA ?_));refine ma ?_;refine aH ?_)
 all_goals
 refine aZ (λ c21=>?_) (λ c21=>?_)
 ·try exact nv c21
  all_goals (refine rR ?_;refine Aa ?_;refine aD (cM (hs:=xH k x13.1 bm y.x y.dn y.rs) (os:=xW y.x) (A0:=aM y.x.L) (hA:=bE.of λ f hf=>by rw[hi.ext,eE] at hf;rcases List.mem_append.1 hf with hf|hf;exact .inr (.inl (hA f hf));exact .inr (.inr (.inl hf))) (hc:=λ w hs=>Yj (N:=y.x.got.length+1) (n:=1073741824) (m:=m) (qN k m (by omega)) (by omega) rfl ⟨by omega,by omega,by omega⟩ hi.ex hk (Nat.le_refl _) hm em ht (by rw[ha];exact bI _) (by rw[hb];exact bI _) (by rw[hnn];exact bI _) (λ f hf=>hf) hs)) (λ x25 h25=>?_);refine aH ?_;refine fF ?_;refine uT ?_)
  all_goals
   have hdf:y.dn=false:=by simp_all
   have hq:zB (T0 k m) y.R 1 (y.x.got.length+1) y.rs y.x x25.1 x25.2.1 x25.2.2.1 x25.2.2.2:=by rcases h25 with h|h;rw[hdf] at h;cases h.1;exact h.2
   obtain⟨R1,hR1⟩:=hi.step hdf (by omega) hq
   refine jG (⟨y.i+1,x25.1,y.N++x25.2.1,x25.2.2.1,x25.2.2.2,R1⟩) ?_ (hw1:=λ w hw=>hw.back (hF:=by rw[eE];exact aW.iI λ f hf=>(List.mem_append.1 hf).elim (λ h=>List.mem_append_right _ h) (λ h=>List.mem_append_left _ h)))
   ·exact⟨hR1,by show y.i+1<=steps;omega⟩
 ·all_goals (refine bR rfl ?_;refine Ih ?_;refine aD (cM (hs:=[(bw,mF bm mask pt ts.length kt pe es.length ke),(x13.1,xO k bm y.x y.dn y.rs),(bm,xM y.x)]) (os:=[⟨pt,tB ts,kt,29,2⟩,⟨pe,zQ es,ke,74,1⟩,⟨y.x.pg,aG y.x.got,y.x.kg,37,1⟩,⟨y.x.pm,aG y.x.made,y.x.km,37,1⟩,⟨y.x.pl,aG y.x.cel,y.x.kl,27,1⟩,⟨y.x.pe,aG y.x.gns,y.x.ke,3,1⟩,⟨y.x.pn,iY y.x.L,y.x.cn,47,14⟩,⟨y.x.pc,aG y.x.cs,y.x.cc,37,1⟩]) (hc:=λ w hs=>k9 hts hes hs)) (λ x28 h28=>?_);refine aH ?_)
  all_goals
   refine Dt Tryz.results67 (λ w hw=>?_)
   rcases y with⟨i,x,N,dn,rs,R⟩
   cases dn with
   | true=>exact⟨(x13.1,⟨i,x,N,true,rs,R⟩,x28),rfl,⟨hi,his,h28⟩,hw.aV (hF:=by exact aW.all)⟩
   | false=>exact⟨(x13.1,⟨i,x,N,false,rs,R⟩,x28),rfl,⟨hi,his,h28⟩,hw.aV (hF:=by exact aW.all)⟩
end
end

/- Worlds: the call of an operation. -/
section
open Go Go.RowKit Go.Ct
theorem vu{ts:List fG}{j:Nat}(h:j<ts.length):((tB ts).drop (2*j)).take 2=[.int .i64 (ts.getD j ⟨0,false⟩).root,.bool (ts.getD j ⟨0,false⟩).ro]:=by
 induction ts generalizing j with
 | nil=>simp at h
 | cons t ts ih =>
  cases j with
  | zero=>simp[tB]
  | succ j =>
   have:=ih (j:=j) (by simpa using h)
   rw[show 2*(j+1)=2*j+1+1 by omega]
   simpa[tB] using this
section
variable{P:Program}{S:List (Nat×Value)}{d:Nat}{ty t t' e:TypeId}{pos:String}{af:Array Edge}{gd:Option (Nat×Bool)}{x y:Operand}{w0 w:World}{M:List Nat}{H:List (Nat×Obj)}{A F:Fr}{O:List Ow}{a:Option Addr}
theorem E3{ts:List fG}{q:Nat}(hx:ev S x=.pointer (some ⟨cJ a,eA a+2*q,none⟩))(ht:jM P t 2=true)(hf:pK A F O a (tB ts))(hq:q<ts.length) :
  aL P S (SF w0 M H A F O) ⟨some d,.load t x,ty,pos,af,gd⟩ (.agg ⟨[.int .i64 (ts.getD q ⟨0,false⟩).root,.bool (ts.getD q ⟨0,false⟩).ro]⟩):=Qm hx ht hf (vu hq) rfl
end
structure E8 where
 key:ByteArray
 val:Int
 exp:Int
 Ia:Int
 only:Bool
 t:fG
 pos:Nat
def E8.cl(q:E8)(kind mask:Int):Cl:=⟨kind,q.t,0,0,0,0,0,mask,q.key,q.val,q.exp,q.Ia,q.only⟩
def wrK(kind:Int):Prop:=kind=8∨kind=9∨kind=12∨kind=4
structure M5(kind:Int)(ts:List fG)(q:E8):Prop where
 ky:q.key∈kO
 mem:q.t∈ts
 ro:wrK kind->q.t.ro=false
theorem pA{v:Nat}(h:v<8):kO.getD v ⟨#[]⟩∈kO:=by
 have:v=0∨v=1∨v=2∨v=3∨v=4∨v=5∨v=6∨v=7:=by omega
 rcases this with rfl|rfl|rfl|rfl|rfl|rfl|rfl|rfl<;>simp[kO]
theorem rG{ts:List fG}{j:Nat}(h:j<ts.length):ts.getD j ⟨0,false⟩∈ts:=by
 rw[jC,List.getElem?_eq_getElem h];exact List.getElem_mem h
section
variable{P:Program}{S:List (Nat×Value)}{G:World->Prop}{d:Nat}{ty t t':TypeId}{pos:String}{af:Array Edge}{gd:Option (Nat×Bool)}{x y:Operand}
theorem ya{a b:Nat}(hx:ev S x=.int .i64 ((a:Nat):Int))(hy:ev S y=.int .i64 ((b:Nat):Int))(h0:b≠0):aL P S G ⟨some d,.binOp .rem t x y t',ty,pos,af,gd⟩ (.int .i64 ((a%b:Nat):Int)):=by
 have:=Zt (P:=P) (G:=G) (d:=d) (ty:=ty) (pos:=pos) (af:=af) (gd:=gd) (t:=t) (t':=t') hx hy (by omega)
 rwa [Int.tmod_eq_emod_of_nonneg (by omega),<- Int.natCast_emod] at this
end
section
variable{bw bm tb:Nat}{D:List Nat}{A:Fr}{w:World}{mask:Int}{ts:List fG}{pt pe:Option Addr}{kt ke ne:Nat}{l:List Int}{a:Option Addr}{c p:Nat}
set_option maxRecDepth 100000 in
set_option maxHeartbeats 2000000 in
theorem ko(kind:Int)(hkd:7<=kind/\kind<=12)(hl:l.length<=17592186043904)(h0:0<ts.length)(hts:ts.length<=1000)(hr0:(ts.getD 0 ⟨0,false⟩).ro=false)
  (hs:SF w D [(tb,Jw a l c p),(bw,mF bm mask pt ts.length kt pe ne ke)] [(a,aG l)] [] [⟨pt,tB ts,kt,29,2⟩] w) :
  Calls Tryz.prog 54 #[.pointer (some ⟨bw,0,none⟩),.int .i64 kind,.pointer (some ⟨tb,0,none⟩)] w λ e w'=>∃q:E8,e=.returned (.agg ⟨Qo (q.cl kind mask)⟩)/\M5 kind ts q /\
   SF w D [(tb,Jw a l c q.pos),(bw,mF bm mask pt ts.length kt pe ne ke)] [] [] [⟨pt,tB ts,kt,29,2⟩] w':=by
 refine enter Tryz.func54 Tryz.ntmps54 rfl rfl hs ?_
 simp only[cD]
 refine J0 ?_;refine aJ (λ x6=>?_);refine Ru ?_
 refine eQ [7,12,13,14,15,16,17,18,19,20,21,22,23,24,25,26,27,28,29,30] (λ y:Nat×E8=>[(7,.pointer (some ⟨y.1,0,none⟩))]) (λ y=>y.2.key∈kO) (λ y=>[(y.1,.cells ⟨Qo (y.2.cl kind mask)⟩ 89 (0,0)),(x6,.cells ⟨Qo ⟨0,⟨0,false⟩,0,0,0,0,0,0,⟨#[]⟩,0,0,0,false⟩⟩ 89 (0,0)),(tb,Jw a l c y.2.pos),(bw,mF bm mask pt ts.length kt pe ne ke)]) (λ _=>[]) (λ _=>[⟨pt,tB ts,kt,29,2⟩]) (by decide) (λ _=>by exact rfl) ?_ (λ y f hx=>?_)
 ·refine gR (.one 0 [] (.one 1 [] (.one 2 [] (.one 3 [] (.one 4 [] (.one 5 [] (.one 7 [] (.one 10 [] (.one 13 [] (.one 15 [] (.two 6 [4] (.two 8 [4] (.one 9 [] (.two 11 [4] (.one 12 [] (.two 14 [4] (.two 16 [4] (.one 17 [] (.one 18 [] (.one 19 [4] (.one 20 [] .nil)))) 0 [] (.two 19 [4] (.one 16 [4] (.one 17 [] (.one 18 [] (.one 20 [] .nil)))) 0 [] .nil)) 0 [] (.two 19 [4] (.one 14 [4] (.one 16 [4] (.one 17 [] (.one 18 [] (.one 20 [] .nil))))) 0 [] .nil))) 0 [] (.two 19 [4] (.one 11 [4] (.one 12 [] (.one 14 [4] (.one 16 [4] (.one 17 [] (.one 18 [] (.one 20 [] .nil))))))) 0 [] .nil))) 0 [] (.two 19 [4] (.one 8 [4] (.one 9 [] (.one 11 [4] (.one 12 [] (.one 14 [4] (.one 16 [4] (.one 17 [] (.one 18 [] (.one 20 [] .nil))))))))) 0 [] .nil)) 0 [] (.two 19 [4] (.one 6 [4] (.one 8 [4] (.one 9 [] (.one 11 [4] (.one 12 [] (.one 14 [4] (.one 16 [4] (.one 17 [] (.one 18 [] (.one 20 [] .nil)))))))))) 0 [] .nil)))))))))))) ?_
  refine W0 ?_;refine gV ?_;refine gV ?_;refine aT ?_
  refine gT (E:=[6,19]) (by decide +kernel) ((.cons ?_ (.cons ?_ .nil)))
  ·refine mY (i:=6) (hq:=(vC (hc:=λ w1 hw=>sj (hw.tape cX fin hl)))) (h:=λ x18 h18=>?_)
   refine gT (E:=[8,19]) (by decide +kernel) ((.cons ?_ (.cons ?_ .nil)))
   ·refine mY (i:=8) (hq:=(vC (hc:=λ w1 hw=>eL 6 (hw.tape cX fin hl) (by decide) (by decide)))) (h:=λ x20 h20=>?_)
    refine nG ?_
    refine gT (E:=[11,19]) (by decide +kernel) ((.cons ?_ (.cons ?_ .nil)))
    ·refine mY (i:=11) (hq:=(vC (hc:=λ w1 hw=>eL 6 (hw.tape cX fin hl) (by decide) (by decide)))) (h:=λ x23 h23=>?_)
     refine nG ?_
     refine gT (E:=[14,19]) (by decide +kernel) ((.cons ?_ (.cons ?_ .nil)))
     ·refine mY (i:=14) (hq:=(vC (hc:=λ w1 hw=>eL 4 (hw.tape cX fin hl) (by decide) (by decide)))) (h:=λ x26 h26=>?_)
      refine gT (E:=[16,19]) (by decide +kernel) ((.cons ?_ (.cons ?_ .nil)))
      ·refine mY (i:=16) (hq:=(vC (hc:=λ w1 hw=>eL 3 (hw.tape cX fin hl) (by decide) (by decide)))) (h:=λ x28 h28=>?_)
       refine mR ?_;refine iT ?_;refine gY (h:=λ x7=>?_);refine B8 ?_
       refine fC ((x7,⟨kO.getD x18 ⟨#[]⟩,((x20:Nat):Int),((x23:Nat):Int),((x26:Nat):Int),((x28:Nat):Int)==0,⟨0,false⟩,mM l (mM l (mM l (mM l (mM l p))))⟩)) ?_
       ·exact pA h18.1
      ·refine gZ (i:=19) (h:=λ x7=>?_)
       refine bB (i:=16) (hq:=(vC (hc:=λ w1 hw=>eL 3 (hw.tape cX fin hl) (by decide) (by decide)))) (h:=λ x28 h28=>?_);refine mR ?_;refine iT ?_;refine B8 ?_
       refine fC ((x7,⟨kO.getD x18 ⟨#[]⟩,((x20:Nat):Int),((x23:Nat):Int),((x26:Nat):Int),((x28:Nat):Int)==0,⟨0,false⟩,mM l (mM l (mM l (mM l (mM l p))))⟩)) ?_
       ·exact pA h18.1
     ·refine gZ (i:=19) (h:=λ x7=>?_)
      refine bB (i:=14) (hq:=(vC (hc:=λ w1 hw=>eL 4 (hw.tape cX fin hl) (by decide) (by decide)))) (h:=λ x26 h26=>?_);refine bB (i:=16) (hq:=(vC (hc:=λ w1 hw=>eL 3 (hw.tape cX fin hl) (by decide) (by decide)))) (h:=λ x28 h28=>?_);refine mR ?_;refine iT ?_;refine B8 ?_
      refine fC ((x7,⟨kO.getD x18 ⟨#[]⟩,((x20:Nat):Int),((x23:Nat):Int),((x26:Nat):Int),((x28:Nat):Int)==0,⟨0,false⟩,mM l (mM l (mM l (mM l (mM l p))))⟩)) ?_
      ·exact pA h18.1
    ·refine gZ (i:=19) (h:=λ x7=>?_)
     refine bB (i:=11) (hq:=(vC (hc:=λ w1 hw=>eL 6 (hw.tape cX fin hl) (by decide) (by decide)))) (h:=λ x23 h23=>?_);refine nG ?_;refine bB (i:=14) (hq:=(vC (hc:=λ w1 hw=>eL 4 (hw.tape cX fin hl) (by decide) (by decide)))) (h:=λ x26 h26=>?_);refine bB (i:=16) (hq:=(vC (hc:=λ w1 hw=>eL 3 (hw.tape cX fin hl) (by decide) (by decide)))) (h:=λ x28 h28=>?_);refine mR ?_;refine iT ?_;refine B8 ?_
     refine fC ((x7,⟨kO.getD x18 ⟨#[]⟩,((x20:Nat):Int),((x23:Nat):Int),((x26:Nat):Int),((x28:Nat):Int)==0,⟨0,false⟩,mM l (mM l (mM l (mM l (mM l p))))⟩)) ?_
     ·exact pA h18.1
   ·refine gZ (i:=19) (h:=λ x7=>?_)
    refine bB (i:=8) (hq:=(vC (hc:=λ w1 hw=>eL 6 (hw.tape cX fin hl) (by decide) (by decide)))) (h:=λ x20 h20=>?_);refine nG ?_;refine bB (i:=11) (hq:=(vC (hc:=λ w1 hw=>eL 6 (hw.tape cX fin hl) (by decide) (by decide)))) (h:=λ x23 h23=>?_);refine nG ?_;refine bB (i:=14) (hq:=(vC (hc:=λ w1 hw=>eL 4 (hw.tape cX fin hl) (by decide) (by decide)))) (h:=λ x26 h26=>?_);refine bB (i:=16) (hq:=(vC (hc:=λ w1 hw=>eL 3 (hw.tape cX fin hl) (by decide) (by decide)))) (h:=λ x28 h28=>?_);refine mR ?_;refine iT ?_;refine B8 ?_
    refine fC ((x7,⟨kO.getD x18 ⟨#[]⟩,((x20:Nat):Int),((x23:Nat):Int),((x26:Nat):Int),((x28:Nat):Int)==0,⟨0,false⟩,mM l (mM l (mM l (mM l (mM l p))))⟩)) ?_
    ·exact pA h18.1
  ·refine gZ (i:=19) (h:=λ x7=>?_)
   refine bB (i:=6) (hq:=(vC (hc:=λ w1 hw=>sj (hw.tape cX fin hl)))) (h:=λ x18 h18=>?_);refine bB (i:=8) (hq:=(vC (hc:=λ w1 hw=>eL 6 (hw.tape cX fin hl) (by decide) (by decide)))) (h:=λ x20 h20=>?_);refine nG ?_;refine bB (i:=11) (hq:=(vC (hc:=λ w1 hw=>eL 6 (hw.tape cX fin hl) (by decide) (by decide)))) (h:=λ x23 h23=>?_);refine nG ?_;refine bB (i:=14) (hq:=(vC (hc:=λ w1 hw=>eL 4 (hw.tape cX fin hl) (by decide) (by decide)))) (h:=λ x26 h26=>?_);refine bB (i:=16) (hq:=(vC (hc:=λ w1 hw=>eL 3 (hw.tape cX fin hl) (by decide) (by decide)))) (h:=λ x28 h28=>?_);refine mR ?_;refine iT ?_;refine B8 ?_
   refine fC ((x7,⟨kO.getD x18 ⟨#[]⟩,((x20:Nat):Int),((x23:Nat):Int),((x26:Nat):Int),((x28:Nat):Int)==0,⟨0,false⟩,mM l (mM l (mM l (mM l (mM l p))))⟩)) ?_
   ·exact pA h18.1
 dsimp only[iA,List.map,List.cons_append,List.nil_append]
 have hy:=hx
 refine J2 ?_;refine lK ?_;refine aA ?_
 (refine dX 33 (λ g33=>?_) (λ g33=>?_)<;>(try (exfalso;omega))<;>((refine aE ?_;refine aA ?_)))
 ((refine aE ?_;refine lK ?_));refine bY ?_;refine J1 ?_;refine J2 ?_;refine lK ?_;refine aA ?_
 (refine dX 39 (λ g39=>?_) (λ g39=>?_)<;>(first|refine aI ?_|(refine aE ?_;refine aA ?_)))
 all_goals ((first|refine aI ?_|(refine aE ?_;refine lK ?_));refine bY ?_;refine aA ?_)
 all_goals (first|refine aI ?_|(refine dX 43 (λ g43=>?_) (λ g43=>?_)<;>(first|refine aI ?_|(refine aE ?_;refine aA ?_))))
 all_goals ((first|refine aI ?_|(refine aE ?_;refine lK ?_));refine bY ?_;refine aA ?_)
 all_goals (first|refine aI ?_|(refine dX 47 (λ g47=>?_) (λ g47=>?_)<;>(first|refine aI ?_|(refine aE ?_;refine aA ?_))))
 all_goals ((first|refine aI ?_|(refine aE ?_;refine lK ?_));refine bY ?_;refine zI ?_;refine dA ?_;refine Qt ?_;refine aD (vC (hc:=λ w1 hw=>eL ts.length (hw.tape cX fin hl) (by omega) (by omega))) (λ x57 h57=>?_);refine iO ?_;refine Dn ?_)
 all_goals
 refine oI [11,58,59,60,61,62,63,64,65,66,67,68,69,70,71,72,73,74,75,76,77,78,79,80,81,82,83,84,85,86,87,88,89,90,91,92,93,94,95,96,97,98,99,100] (λ z:Nat×fG=>[(11,.int .i64 ((z.1:Nat):Int))]) (λ z=>z.1<=ts.length) (λ z=>[(y.1,.cells ⟨Qo (({y.2 with t:=z.2}:E8).cl kind mask)⟩ 89 (0,0)),(x6,.cells ⟨Qo ⟨0,⟨0,false⟩,0,0,0,0,0,0,⟨#[]⟩,0,0,0,false⟩⟩ 89 (0,0)),(tb,Jw a l c (mM l y.2.pos)),(bw,mF bm mask pt ts.length kt pe ne ke)]) (λ _=>_) (λ _=>_) (λ z=>ts.length-z.1) ((0,y.2.t)) (Nat.zero_le _) (λ z f hx=>?_)
 dsimp only[iA,List.map,List.cons_append,List.nil_append]
 all_goals (refine A6 ?_;refine dA ?_;refine Qt ?_;refine Cf ?_)
 all_goals
  refine aZ (λ c64=>?_) (λ c64=>?_)
  ·all_goals try (exfalso;omega)
   all_goals (refine rR ?_;refine aS ?_;refine gM [0,1,2,3,4,5,6,7,8,9,10,11,12,13,14,15,16] ?_;refine X7 ?_;refine gV ?_;refine cI (i:=6) (hq:=(oK (m:=x57) (n:=z.1) rf rf (by omega))) (h:=?_);refine X7 ?_;refine nV ?_;refine cI (i:=12) (hq:=(ya (a:=x57+z.1) (b:=ts.length) rf rf (by omega))) (h:=?_);refine bU (i:=13) (hq:=(Px (cs:=tB ts) (k:=(x57+z.1)%ts.length) rf rf gA eP fin (Nat.mod_lt _ h0) (by rw[lD];have:=Nat.mod_lt (x57+z.1) h0;omega))) (h:=?_);refine bU (i:=14) (hq:=(E3 (ts:=ts) (q:=(x57+z.1)%ts.length) rf eP fin (Nat.mod_lt _ h0))) (h:=?_);refine aU ?_;refine kF (i:=16) (hq:=(jE λ _=>lN (off:=1) (vs:=[.int .i64 (ts.getD ((x57+z.1)%ts.length) ⟨0,false⟩).root,.bool (ts.getD ((x57+z.1)%ts.length) ⟨0,false⟩).ro]) rf cX rf rfl eP (Nat.le_of_ble_eq_true rfl) rf kL)) (h:=λ _=>?_);refine eJ ?_;refine J0 ?_;refine aF ?_;refine J3 ?_;refine aA ?_)
   all_goals ((refine dX 86 (λ g86=>?_) (λ g86=>?_)<;>(first|refine aI ?_|(refine aE ?_;refine aA ?_))))
   all_goals ((first|refine aI ?_|(refine aE ?_;refine tS ?_));refine bY ?_;refine aA ?_)
   all_goals (first|(refine aE ?_;refine aF ?_)|(refine dX 90 (λ g90=>?_) (λ g90=>?_)<;>(try (exfalso;omega))<;>(refine aI ?_)))
   all_goals ((first|refine aI ?_|(refine aE ?_;refine aF ?_));(first|refine aI ?_|(refine aE ?_;refine bP ?_));(first|refine aI ?_|(refine aE ?_;refine tS ?_));(first|refine aI ?_|(refine aE ?_;refine aA ?_)))
   all_goals (first|refine Ar ?_|(refine dX 95 (λ g95=>?_) (λ g95=>?_)<;>(first|refine aI ?_|(refine aE ?_;refine aA ?_))))
   all_goals ((first|refine aI ?_|refine Ar ?_|(refine aE ?_;refine tS ?_));(first|refine aI ?_|(refine aE ?_;refine bY ?_));refine bY ?_;refine aH ?_)
   all_goals
   refine aZ (λ c99=>?_) (λ c99=>?_)
   ·try exact nv c99
    all_goals (refine oC ?_;refine J5 ?_)
    all_goals
     refine aY Tryz.results54 (λ w hw=>?_)
     exact⟨{y.2 with t:=ts.getD ((x57+z.1)%ts.length) ⟨0,false⟩,pos:=mM l y.2.pos},rfl,⟨hy,rG (Nat.mod_lt _ h0),λ hk=>by first|(simp_all;done)|(unfold wrK at hk;exfalso;omega)⟩,hw.aV⟩
   ·try exact nv c99
    all_goals try (exfalso;omega)
    all_goals (refine oP ?_;refine uT ?_)
    all_goals
     refine jG ((z.1+1,ts.getD ((x57+z.1)%ts.length) ⟨0,false⟩)) ?_
     ·omega
  ·all_goals try (exfalso;omega)
   all_goals (refine bR rfl ?_;refine mJ ?_;refine aC (Px (cs:=tB ts) (k:=0) rf rf gA eP fin h0 (by rw[lD];omega)) rfl ?_;refine aC (E3 (ts:=ts) (q:=0) rf eP fin h0) rfl ?_;refine aF ?_;refine cO (jE λ _=>lN (off:=1) (vs:=[.int .i64 (ts.getD 0 ⟨0,false⟩).root,.bool (ts.getD 0 ⟨0,false⟩).ro]) rf cX rf rfl eP (Nat.le_of_ble_eq_true rfl) rf kL) (λ _=>?_);refine aH ?_;refine oC ?_;refine J5 ?_)
   all_goals
   refine aY Tryz.results54 (λ w hw=>?_)
   exact⟨{y.2 with t:=ts.getD 0 ⟨0,false⟩,pos:=mM l y.2.pos},rfl,⟨hy,rG h0,λ _=>hr0⟩,hw.aV⟩
end
end

end Go.Proofs.YtbajmaoegmbfgaaGreat
