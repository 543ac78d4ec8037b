/- Worlds: Create. -/
import Derived.Test.YtbajmaoegmbfgaaGreatGEx24
import Derived.Test.YtbajmaoegmbfgaaGreatGMst
import Derived.Test.YtbajmaoegmbfgaaGreatGArN
import Derived.Test.YtbajmaoegmbfgaaGreatGEx18

set_option linter.unusedSimpArgs false
set_option linter.unusedVariables false
namespace Go.Proofs.YtbajmaoegmbfgaaGreat
section
open Go Go.RowKit Go.Ct
def Z3:Nd:={Nd.zero with kind:=3}
def zu(g:Int):Nd:={Nd.zero with kind:=2,gen:=g}
def L4(x y:AX):List aP:=[fK,fK]++[jU Z3 [] [] 0 x]++[jU (zu 1) [] [] 1 y]
theorem kv{x y:AX}:∀f∈aL (L4 x y),f.2=[]:=by
 intro f hf
 simp[aL,L4,aP.fr,fK,jU,aH,cZ] at hf
 rcases hf with hf|hf|hf|hf|hf|hf|hf|hf<;>rw[hf]
theorem Q2{w:World}{D:List Nat}{b:Nat}{acc:Int}{pn:Option Addr}{cn:Nat}{A:Fr}(hs:SF w D [(b,mO [fK,fK] [] 0 acc pn cn none 0)] A [] (mW [fK,fK] [] pn cn none 0) w) :
  Calls Tryz.prog 66 #[.pointer (some ⟨b,0,none⟩)] w λ e w'=>∃q:AX×AX×Option Addr×Nat,e=.returned (.agg ⟨[.int .i64 3,.bool false]⟩)/\True /\
   SF w D [(b,mO (L4 q.1 q.2.1) [0,3,4] 1 acc q.2.1.pn q.2.1.cn q.2.2.1 q.2.2.2)] [] (aL (L4 q.1 q.2.1)) (mW (L4 q.1 q.2.1) [0,3,4] q.2.1.pn q.2.1.cn q.2.2.1 q.2.2.2) w':=by
 refine enter Tryz.func66 Tryz.ntmps66 rfl rfl (zD hs) ?_
 simp only[cA]
 refine J0 ?_;refine aJ (λ x2=>?_);refine aG ?_;refine J2 ?_;refine bI ?_;refine aD (cM (A0:=[(none,aH []),(none,cZ [])]) (hc:=λ w hs=>Au (L:=[fK,fK]) (cs:=[]) (n:=Z3) (xs:=[]) (ys:=[]) 0 hs rfl rfl (by decide) (by decide) (by decide) (by decide))) (λ x7 h7=>?_);refine Ka4 ?_;refine aD (cM (hc:=λ w hs=>C7 (L:=[fK,fK]++[jU Z3 [] [] 0 x7]) (cs:=[0]) hs)) (λ x9 h9=>?_);refine Ai ?_;refine aA ?_;refine bI ?_;refine aA ?_;refine aD (cM (A0:=[(none,aH []),(none,cZ [])]) (hc:=λ w hs=>Au (L:=[fK,fK]++[jU Z3 [] [] 0 x7]) (cs:=[0]) (n:=zu 1) (xs:=[]) (ys:=[]) 3 hs rfl rfl (by decide) (by decide) (by simp) (by decide))) (λ x15 h15=>?_);refine aD (cM (hc:=λ w hs=>lJ (L:=L4 x7 x15) (cs:=[0,3]) 4 hs (by decide))) (λ x16 h16=>?_);refine vK ?_
 refine aY Tryz.results66 (λ w hw=>?_)
 exact⟨(x7,x15,x16.1,x16.2),rfl,trivial,(hw.eY (λ f hf=>.inl (kv f hf))).aX (hF:=by exact aV.all)⟩
end

/- Calls that may change known blocks and own lists, and leave new ones. -/
section
open Go Go.RowKit Go.Ct
section
variable{S:List (Nat×Value)}{w0 w:World}{M:List Nat}{H:List (Nat×Obj)}{A F:Fr}{O:List Ow}{ty:TypeId}{pos:String}{af:Array Edge}{gd:Option (Nat×Bool)}{X:Type}{V:X->Value}
theorem Wg{φ:X->Prop}{hs H':List (Nat×Obj)}{os O':List Ow}{hs' Hc H1:X->List (Nat×Obj)}{os' Oc O1:X->List Ow}{Fc F1:X->Fr}{A0:Fr}{is js:List Nat}{f:FuncId}{xs:List Operand}{at_:Array TypeId}{vs:List Value}{dst:Option Nat}
  (ha:qZ S xs=vs:=by(repeat (first|exact cH _|(apply bV;focus ((conv=>{lhs;whnf});try exact rfl))));first|done|fail) (hp:plain Tryz.prog f=true:=by kernel_rfl)
  (hc:∀w,SF w (Ks hs os) hs A0 [] os w->Calls Tryz.prog f ⟨vs⟩ w λ e w'=>∃x,e=.returned (V x)/\φ x/\SF w (Ks hs os) (hs' x++Hc x) [] (Fc x) (os' x++Oc x) w')
  (hH:mC H is hs H':=by(repeat (first|exact mC.nil|(apply mC.cons;(focus ((repeat (first|exact zK.head|apply zK.tail));done));simp only[qW])));first|done|fail)
  (hO:mC O js os O':=by(repeat (first|exact mC.nil|(apply mC.cons;(focus ((repeat (first|exact zK.head|apply zK.tail));done));simp only[qW])));first|done|fail)
  (hA:bB A F O' A0:=by(repeat (first|exact bB.of (λ _ h=>Or.inr (Or.inl h))|exact bB.nil|(refine bB.cons (by first|exact Or.inl rfl|exact Or.inr (Or.inr (Or.inl (by simp)))|exact Or.inr (Or.inl (by simp))|exact Or.inr (Or.inr (Or.inr (by simp)))) ?_)));first|done|fail)
  (hl1:∀x,is.length=(hs' x).length:=by intro x;exact rfl) (hl2:∀x,js.length=(os' x).length:=by intro x;exact rfl)
  (hH1:∀x,Hc x++iX is (hs' x) H'=H1 x:=by intro x;first|(simp only[iX,rD,List.nil_append,List.cons_append];exact rfl)|exact rfl) (hF1:∀x,Fc x++F=F1 x:=by intro x;first|(simp only[List.nil_append,List.cons_append];exact rfl)|exact rfl) (hO1:∀x,Oc x++iX js (os' x) O'=O1 x:=by intro x;simp only[iX,rD,mW,List.nil_append,List.cons_append];exact rfl) :
  bG Tryz.prog S (SF w0 M H A F O) ⟨dst,.call {callee:=.value (.func f),args:=⟨xs⟩,argTypes:=at_},ty,pos,af,gd⟩ X V (λ x w=>φ x/\SF w0 M (H1 x) A (F1 x) (O1 x) w) :=
 iH (mG hp ha) λ w hw=>(hc w (hw.qA hH hO hA)).mono λ _ _ ⟨x,he,hx,hs⟩=>⟨x,he,hx,by
  have:=hw.xK (hs':=hs' x) (Hc:=Hc x) (os':=os' x) (Oc:=Oc x) hH hO hs (hl1 x) (hl2 x)
  rw[<- hH1 x,<- hF1 x,<- hO1 x]
  exact this⟩
end
end

/- Worlds: an execution is run. -/
end Go.Proofs.YtbajmaoegmbfgaaGreat
namespace Go.Ct
section
open Go Go.RowKit
theorem Rc.trans{i j:Nat}{t t1 t2:Tr}{s s1 s2:Mm}(h1:Rc i t s t1 s1)(h2:Rc j t1 s1 t2 s2):Rc (i+j) t s t2 s2:=by
 induction h2 with
 | refl t s=>exact h1
 | eD _ hs ih=>exact .eD (ih h1) hs
 | loud _ hs ih=>exact .loud (ih h1) hs
def Sz(x:XS)(B:Nat):Prop:=x.L.length<=B/\x.cs.length<=B/\x.gen<=B
theorem Jw{T R R':Tr}{x x':XS}{dn:Bool}{rs:Rs}{j N B:Nat}(h:n7 T x dn rs R)(hd:dn=false)(hT:bS T N 64)(hN:x.got.length+1<=N)(hr:Rc j R x.mm R' x'.mm)(hj:j<=1)(hs:Sz x B):Sz x' (B+128):=by
 rcases h.nu with⟨e,_⟩|⟨_,e⟩
 ·rw[hd] at e;cases e
 ·obtain⟨c,h1,_,_⟩:=h.wk.wB (Nat.le_refl 64) hT (by omega)
  obtain⟨c',h2,h3,h4,h5,h6,h7⟩:=hr.wB (Nat.le_refl 64) (Qt e h1 (by omega)) (by omega)
  obtain⟨s1,s2,s3⟩:=hs
  simp only[XS.mm,List.length_map] at h5 h6 h7
  exact⟨by omega,by omega,by omega⟩
theorem Te{T R':Tr}{x x':XS}{j N B:Nat}(hT:bS T N 64)(hr:Rc j T x.mm R' x'.mm)(hj:j<=0)(hs:Sz x B):Sz x' (B+64):=by
 obtain⟨c',h2,h3,h4,h5,h6,h7⟩:=hr.wB (Nat.le_refl 64) hT (by omega)
 obtain⟨s1,s2,s3⟩:=hs
 simp only[XS.mm,List.length_map] at h5 h6 h7
 exact⟨by omega,by omega,by omega⟩
end
end Go.Ct
namespace Go.Proofs.YtbajmaoegmbfgaaGreat
section
open Go Go.RowKit Go.Ct
noncomputable def T0 (k:Cl) (m:Nat):Tr:=lA k (mD k.key m) 1073741824
theorem pP(k:Cl)(m:Nat){n:Nat}(h:n<1073741824):bS (T0 k m) n 64:=Ka h
def xE(k:Cl)(bm b:Nat)(x:XS)(dn:Bool)(rs:Rs):List (Nat×Obj):=if dn=true then [] else [(b,xO k bm x false rs)]
def xE4(x:XS)(dn:Bool):List Ow:=if dn=true then [] else [⟨x.pg,aH x.got,x.kg,37,1⟩,⟨x.pm,aH x.made,x.km,37,1⟩,⟨x.pl,aH x.cel,x.kl,27,1⟩,⟨x.pe,aH x.gns,x.ke,3,1⟩]
structure RY where
 i:Nat
 x:XS
 N:List aP
 dn:Bool
 rs:Rs
 R:Tr
structure Lw(k:Cl)(m:Nat)(x0:XS)(B:Nat)(y:RY):Prop where
 ex:n7 (T0 k m) y.x y.dn y.rs y.R
 rc:∃j,Rc j (T0 k m) x0.mm y.R y.x.mm
 ext:y.x.L=x0.L++y.N
 lc:x0.cs.length<=y.x.cs.length
 gl:y.x.got.length<=y.i
 sz:Sz y.x (B+64+128*y.i)
theorem Lw.ob{k:Cl}{m N:Nat}{x0 x':XS}{B:Nat}{N':List aP}{dn:Bool}{rs:Rs}(hN:N<1073741824)(h:zU (T0 k m) (T0 k m) 0 0 Rs.zero x0 x' N' dn rs)(hs:Sz x0 B):∃R,Lw k m x0 B ⟨0,x',N',dn,rs,R⟩:=by
 obtain⟨R',j,h1,h2,h3,h4,h5,h6⟩:=h.exI
 exact⟨R',h3,⟨j,h4⟩,h5,h6,by have:=h.gl;show x'.got.length<=0;omega,Te (pP k m hN) h4 h1 hs⟩
theorem Lw.step{k:Cl}{m:Nat}{x0 x':XS}{B:Nat}{y:RY}{N':List aP}{dn:Bool}{rs:Rs}(hi:Lw k m x0 B y)(hd:y.dn=false)(hB:y.i<1073741822)(h:zU (T0 k m) y.R 1 (y.x.got.length+1) y.rs y.x x' N' dn rs):∃R,Lw k m x0 B ⟨y.i+1,x',y.N++N',dn,rs,R⟩:=by
 obtain⟨R',j,h1,h2,h3,h4,h5,h6⟩:=h.exI
 obtain⟨j0,hj0⟩:=hi.rc
 have hg:=hi.gl
 refine⟨R',h3,⟨j0+j,hj0.trans h4⟩,by show x'.L=_;rw[h5,hi.ext,List.append_assoc],Nat.le_trans hi.lc h6,by have:=h.gl;show x'.got.length<=y.i+1;omega,?_⟩
 have:=Jw hi.ex hd (pP k m (n:=y.x.got.length+1) (by omega)) (Nat.le_refl _) h4 h1 hi.sz
 rw[show B+64+128*(y.i+1)=B+64+128*y.i+128 by omega]
 exact this
section
variable{k:Cl}{bw bm m B:Nat}{L:List aP}{cs:List Int}{gen acc:Int}{pn pc:Option Addr}{cn cc:Nat}{D:List Nat}{A:Fr}{w:World}{mask:Int}{ts:List eQ}{es:List Nat}{pt pe:Option Addr}{kt ke:Nat}
theorem Qc(hsz:L.length<=137438953472/\cs.length<=137438953472/\gen<=137438953472)(hk:Zu k)(hm:m<18446744073709551616)(em:k.mask=(m:Int))(ht:k.t.root<=9223372036854775807)(ha:k.a<=L.length)(hb:k.b<=L.length)(hnn:k.n<=L.length)(hA:∀f∈aL L,f∈A)(ok:(XS.new L cs gen acc pn cn pc cc).Ok)(hs:SF w D [(bm,mO L cs gen acc pn cn pc cc)] A [] [⟨pn,iO L,cn,47,14⟩,⟨pc,aH cs,cc,37,1⟩] w):Calls Tryz.prog 49 #[.pointer (some ⟨bm,0,none⟩),.agg ⟨Rz k⟩] w λ e w'=>∃q:Nat×XS×List aP×Bool×Rs,e=.returned (.pointer (some ⟨q.1,0,none⟩))/\zU (T0 k m) (T0 k m) 0 0 Rs.zero (XS.new L cs gen acc pn cn pc cc) q.2.1 q.2.2.1 q.2.2.2.1 q.2.2.2.2/\SF w D ([(bm,xM q.2.1)]++[(q.1,xO k bm q.2.1 q.2.2.2.1 q.2.2.2.2)]) [] (aL q.2.2.1) ([⟨q.2.1.pn,iO q.2.1.L,q.2.1.cn,47,14⟩,⟨q.2.1.pc,aH q.2.1.cs,q.2.1.cc,37,1⟩]++[⟨q.2.1.pg,aH q.2.1.got,q.2.1.kg,37,1⟩,⟨q.2.1.pm,aH q.2.1.made,q.2.1.km,37,1⟩,⟨q.2.1.pl,aH q.2.1.cel,q.2.1.kl,27,1⟩,⟨q.2.1.pe,aH q.2.1.gns,q.2.1.ke,3,1⟩]) w' :=
 (q9 (N:=0) (n:=1073741824) (m:=m) (pP k m (by decide)) (by decide) hsz hk (Nat.le_refl _) hm em ht ha hb hnn hA ok hs).mono λ _ _ ⟨q,e,h,hw⟩=>⟨q,e,h,hw.perm (List.Perm.swap _ _ _) (List.perm_append_comm (l₁:=[_,_]) (l₂:=[_,_,_,_]))⟩
set_option maxHeartbeats 1000000 in
theorem z4(steps:Nat)(hst:steps<=1048576)(hB:B<=100000000000)(hsz:Sz (XS.new L cs gen acc pn cn pc cc) B)(hk:Zu k)(hm:m<18446744073709551616)(em:k.mask=(m:Int))(ht:k.t.root<=9223372036854775807)(ha:k.a=0)(hb:k.b=0)(hnn:k.n=0)(hA:∀f∈aL L,f∈A)(ok:(XS.new L cs gen acc pn cn pc cc).Ok)(hts:ts.length<=1000)(hes:es.length<=1000)
  (hs:SF w D [(bw,pC bm mask pt ts.length kt pe es.length ke),(bm,mO L cs gen acc pn cn pc cc)] A [] [⟨pt,tP ts,kt,29,2⟩,⟨pe,Az es,ke,74,1⟩,⟨pn,iO L,cn,47,14⟩,⟨pc,aH cs,cc,37,1⟩] w) :
  Calls Tryz.prog 67 #[.pointer (some ⟨bw,0,none⟩),.agg ⟨Rz k⟩,.int .i64 (steps:Int)] w λ e w'=>∃q:Nat×RY×KQ,e=.returned (.tuple #[])/\(Lw k m (XS.new L cs gen acc pn cn pc cc) B q.2.1/\q.2.1.i<=steps/\Uq q.2.1.dn q.2.1.rs q.1 ts es q.2.2) /\
   SF w D (xE k bm q.1 q.2.1.x q.2.1.dn q.2.1.rs++[(bw,pC bm mask q.2.2.pt q.2.2.ts.length q.2.2.kt q.2.2.pe q.2.2.es.length q.2.2.ke),(bm,xM q.2.1.x)]) [] (aL q.2.1.N) (xE4 q.2.1.x q.2.1.dn++[⟨q.2.2.pt,tP q.2.2.ts,q.2.2.kt,29,2⟩,⟨q.2.2.pe,Az q.2.2.es,q.2.2.ke,74,1⟩,⟨q.2.1.x.pn,iO q.2.1.x.L,q.2.1.x.cn,47,14⟩,⟨q.2.1.x.pc,aH q.2.1.x.cs,q.2.1.x.cc,37,1⟩]) w':=by
 have hL:(0:Int)<=L.length:=bL _
 have hsz2:=hsz
 obtain⟨s1,s2,s3⟩:=hsz2
 simp only[XS.new] at s1 s2 s3
 refine enter Tryz.func67 Tryz.ntmps67 rfl rfl hs ?_
 simp only[cA]
 refine J0 ?_;refine bK (λ x4=>?_);refine Rr ?_;refine gS [0,1,2,3,4,5,6] ?_;refine Ym ?_;refine bO ?_;refine bC (i:=5) (hq:=(Wg (hs:=[(bm,mO L cs gen acc pn cn pc cc)]) (os:=[⟨pn,iO L,cn,47,14⟩,⟨pc,aH cs,cc,37,1⟩]) (A0:=aL L) (hA:=bB.of λ f hf=>.inr (.inl (hA f hf))) (hc:=λ w hs=>Qc (m:=m) ⟨by omega,by omega,by omega⟩ hk hm em ht (by omega) (by omega) (by omega) (λ f hf=>hf) ok hs))) (h:=λ x13 h13=>?_);refine J7 ?_;refine aS ?_;refine Ea ?_
 obtain⟨R0,hR0⟩:=Lw.ob (B:=B) (N:=0) (by decide) h13 hsz
 refine oK [7,14,15,16,17,18,19,20,21,22,23,24,25] (λ y:RY=>[(7,.int .i64 ((y.i:Nat):Int))]) (λ y=>Lw k m (XS.new L cs gen acc pn cn pc cc) B y/\y.i<=steps) (λ y=>[(x13.1,xO k bm y.x y.dn y.rs),(x4,.cells ⟨Rz k⟩ 89 (0,0)),(bw,pC bm mask pt ts.length kt pe es.length ke),(bm,xM y.x)]) (λ y=>aL y.N) (λ y=>[⟨y.x.pg,aH y.x.got,y.x.kg,37,1⟩,⟨y.x.pm,aH y.x.made,y.x.km,37,1⟩,⟨y.x.pl,aH y.x.cel,y.x.kl,27,1⟩,⟨y.x.pe,aH y.x.gns,y.x.ke,3,1⟩,⟨pt,tP ts,kt,29,2⟩,⟨pe,Az es,ke,74,1⟩,⟨y.x.pn,iO y.x.L,y.x.cn,47,14⟩,⟨y.x.pc,aH y.x.cs,y.x.cc,37,1⟩]) (λ y=>steps-y.i) (⟨0,x13.2.1,x13.2.2.1,x13.2.2.2.1,x13.2.2.2.2,R0⟩) (⟨hR0,Nat.zero_le _⟩) (λ y f hx=>?_) (hw0:=λ w hw=>by rw[List.append_nil] at hw;exact hw.back (hF:=by exact aV.all))
 dsimp only[hX,List.map,List.cons_append,List.nil_append]
 obtain⟨hi,his⟩:=hx
 have hsx:=hi.sz
 obtain⟨z1,z2,z3⟩:=hsx
 have hgl:=hi.gl
 refine kR ?_;refine aD (cM (hs:=xH k x13.1 bm y.x y.dn y.rs) (os:=xW y.x) (hc:=λ w hs=>b9 hs)) (λ x15 h15=>?_);refine Bq ?_
 (refine dZ 17 (λ g17=>?_) (λ g17=>?_)<;>refine Ka0 ?_)
 all_goals (refine Ka0 ?_;refine vg ?_;refine aG ?_)
 all_goals
 refine bD (λ c21=>?_) (λ c21=>?_)
 ·try exact nv c21
  all_goals (refine rR ?_;refine Aa ?_;refine aD (cM (hs:=xH k x13.1 bm y.x y.dn y.rs) (os:=xW y.x) (A0:=aL y.x.L) (hA:=bB.of λ f hf=>by rw[hi.ext,dE] at hf;rcases List.mem_append.1 hf with hf|hf;exact .inr (.inl (hA f hf));exact .inr (.inr (.inl hf))) (hc:=λ w hs=>cj (N:=y.x.got.length+1) (n:=1073741824) (m:=m) (pP k m (by omega)) (by omega) rfl ⟨by omega,by omega,by omega⟩ hi.ex hk (Nat.le_refl _) hm em ht (by rw[ha];exact bL _) (by rw[hb];exact bL _) (by rw[hnn];exact bL _) (λ f hf=>hf) hs)) (λ x25 h25=>?_);refine aG ?_;refine Kb2 ?_)
  all_goals
   have hdf:y.dn=false:=by simp_all
   have hq:zU (T0 k m) y.R 1 (y.x.got.length+1) y.rs y.x x25.1 x25.2.1 x25.2.2.1 x25.2.2.2:=by rcases h25 with h|h;rw[hdf] at h;cases h.1;exact h.2
   obtain⟨R1,hR1⟩:=hi.step hdf (by omega) hq
   refine jG (⟨y.i+1,x25.1,y.N++x25.2.1,x25.2.2.1,x25.2.2.2,R1⟩) ?_ (hw1:=λ w hw=>hw.back (hF:=by rw[dE];exact aV.iM λ f hf=>(List.mem_append.1 hf).elim (λ h=>List.mem_append_right _ h) (λ h=>List.mem_append_left _ h)))
   ·exact⟨hR1,by show y.i+1<=steps;omega⟩
 ·all_goals (refine bR rfl ?_;refine Jc ?_;refine aD (cM (hs:=[(bw,pC bm mask pt ts.length kt pe es.length ke),(x13.1,xO k bm y.x y.dn y.rs),(bm,xM y.x)]) (os:=[⟨pt,tP ts,kt,29,2⟩,⟨pe,Az es,ke,74,1⟩,⟨y.x.pg,aH y.x.got,y.x.kg,37,1⟩,⟨y.x.pm,aH y.x.made,y.x.km,37,1⟩,⟨y.x.pl,aH y.x.cel,y.x.kl,27,1⟩,⟨y.x.pe,aH y.x.gns,y.x.ke,3,1⟩,⟨y.x.pn,iO y.x.L,y.x.cn,47,14⟩,⟨y.x.pc,aH y.x.cs,y.x.cc,37,1⟩]) (hc:=λ w hs=>ph hts hes hs)) (λ x28 h28=>?_);refine aG ?_)
  all_goals
   refine Eg Tryz.results67 (λ w hw=>?_)
   rcases y with⟨i,x,N,dn,rs,R⟩
   cases dn with
   | true=>exact⟨(x13.1,⟨i,x,N,true,rs,R⟩,x28),rfl,⟨hi,his,h28⟩,hw.aX (hF:=by exact aV.all)⟩
   | false=>exact⟨(x13.1,⟨i,x,N,false,rs,R⟩,x28),rfl,⟨hi,his,h28⟩,hw.aX (hF:=by exact aV.all)⟩
end
end

/- Worlds: the call of an operation. -/
section
open Go Go.RowKit Go.Ct
theorem aAr{ts:List eQ}{j:Nat}(h:j<ts.length):((tP ts).drop (2*j)).take 2=[.int .i64 (ts.getD j ⟨0,false⟩).root,.bool (ts.getD j ⟨0,false⟩).ro]:=by
 induction ts generalizing j with
 | nil=>simp at h
 | cons t ts ih =>
  cases j with
  | zero=>simp[tP]
  | succ j =>
   have:=ih (j:=j) (by simpa using h)
   rw[show 2*(j+1)=2*j+1+1 by omega]
   simpa[tP] using this
section
variable{P:Program}{S:List (Nat×Value)}{d:Nat}{ty t t' e:TypeId}{pos:String}{af:Array Edge}{gd:Option (Nat×Bool)}{x y:Operand}{w0 w:World}{M:List Nat}{H:List (Nat×Obj)}{A F:Fr}{O:List Ow}{a:Option Addr}
theorem Ij{ts:List eQ}{q:Nat}(hx:ev S x=.pointer (some ⟨cU a,eJ a+2*q,none⟩))(ht:kH P t 2=true)(hf:qT A F O a (tP ts))(hq:q<ts.length) :
  aM P S (SF w0 M H A F O) ⟨some d,.load t x,ty,pos,af,gd⟩ (.agg ⟨[.int .i64 (ts.getD q ⟨0,false⟩).root,.bool (ts.getD q ⟨0,false⟩).ro]⟩):=On hx ht hf (aAr hq) rfl
end
structure Hu where
 key:ByteArray
 val:Int
 exp:Int
 Iy:Int
 only:Bool
 t:eQ
 pos:Nat
def Hu.cl(q:Hu)(kind mask:Int):Cl:=⟨kind,q.t,0,0,0,0,0,mask,q.key,q.val,q.exp,q.Iy,q.only⟩
def wrK(kind:Int):Prop:=kind=8∨kind=9∨kind=12∨kind=4
structure Rh(kind:Int)(ts:List eQ)(q:Hu):Prop where
 ky:q.key∈lV
 mem:q.t∈ts
 ro:wrK kind->q.t.ro=false
theorem pR{v:Nat}(h:v<8):lV.getD v ⟨#[]⟩∈lV:=by
 have:v=0∨v=1∨v=2∨v=3∨v=4∨v=5∨v=6∨v=7:=by omega
 rcases this with rfl|rfl|rfl|rfl|rfl|rfl|rfl|rfl<;>simp[lV]
theorem vS{ts:List eQ}{j:Nat}(h:j<ts.length):ts.getD j ⟨0,false⟩∈ts:=by
 rw[jN,List.getElem?_eq_getElem h];exact List.getElem_mem h
section
variable{P:Program}{S:List (Nat×Value)}{G:World->Prop}{d:Nat}{ty t t':TypeId}{pos:String}{af:Array Edge}{gd:Option (Nat×Bool)}{x y:Operand}
theorem yo{a b:Nat}(hx:ev S x=.int .i64 ((a:Nat):Int))(hy:ev S y=.int .i64 ((b:Nat):Int))(h0:b≠0):aM P S G ⟨some d,.binOp .rem t x y t',ty,pos,af,gd⟩ (.int .i64 ((a%b:Nat):Int)):=by
 have:=jo (P:=P) (G:=G) (d:=d) (ty:=ty) (pos:=pos) (af:=af) (gd:=gd) (t:=t) (t':=t') hx hy (by omega)
 rwa [Int.tmod_eq_emod_of_nonneg (by omega),<- Int.natCast_emod] at this
end
section
variable{bw bm tb:Nat}{D:List Nat}{A:Fr}{w:World}{mask:Int}{ts:List eQ}{pt pe:Option Addr}{kt ke ne:Nat}{l:List Int}{a:Option Addr}{c p:Nat}
set_option maxRecDepth 100000 in
set_option maxHeartbeats 2000000 in
theorem sv(kind:Int)(hkd:7<=kind/\kind<=12)(hl:l.length<=17592186043904)(h0:0<ts.length)(hts:ts.length<=1000)(hr0:(ts.getD 0 ⟨0,false⟩).ro=false)
  (hs:SF w D [(tb,Ov a l c p),(bw,pC bm mask pt ts.length kt pe ne ke)] [(a,aH l)] [] [⟨pt,tP ts,kt,29,2⟩] w) :
  Calls Tryz.prog 54 #[.pointer (some ⟨bw,0,none⟩),.int .i64 kind,.pointer (some ⟨tb,0,none⟩)] w λ e w'=>∃q:Hu,e=.returned (.agg ⟨Rz (q.cl kind mask)⟩)/\Rh kind ts q /\
   SF w D [(tb,Ov a l c q.pos),(bw,pC bm mask pt ts.length kt pe ne ke)] [] [] [⟨pt,tP ts,kt,29,2⟩] w':=by
 refine enter Tryz.func54 Tryz.ntmps54 rfl rfl hs ?_
 simp only[cA]
 refine J0 ?_;refine aJ (λ x6=>?_);refine Rr ?_
 refine dX [7,12,13,14,15,16,17,18,19,20,21,22,23,24,25,26,27,28,29,30] (λ y:Nat×Hu=>[(7,.pointer (some ⟨y.1,0,none⟩))]) (λ y=>y.2.key∈lV) (λ y=>[(y.1,.cells ⟨Rz (y.2.cl kind mask)⟩ 89 (0,0)),(x6,.cells ⟨Rz ⟨0,⟨0,false⟩,0,0,0,0,0,0,⟨#[]⟩,0,0,0,false⟩⟩ 89 (0,0)),(tb,Ov a l c y.2.pos),(bw,pC bm mask pt ts.length kt pe ne ke)]) (λ _=>[]) (λ _=>[⟨pt,tP ts,kt,29,2⟩]) (by decide) (λ _=>by exact rfl) ?_ (λ y f hx=>?_)
 ·refine fR (.one 0 [] (.one 1 [] (.one 2 [] (.one 3 [] (.one 4 [] (.one 5 [] (.one 7 [] (.one 10 [] (.one 13 [] (.one 15 [] (.two 6 [4] (.two 8 [4] (.one 9 [] (.two 11 [4] (.one 12 [] (.two 14 [4] (.two 16 [4] (.one 17 [] (.one 18 [] (.one 19 [4] (.one 20 [] .nil)))) 0 [] (.two 19 [4] (.one 16 [4] (.one 17 [] (.one 18 [] (.one 20 [] .nil)))) 0 [] .nil)) 0 [] (.two 19 [4] (.one 14 [4] (.one 16 [4] (.one 17 [] (.one 18 [] (.one 20 [] .nil))))) 0 [] .nil))) 0 [] (.two 19 [4] (.one 11 [4] (.one 12 [] (.one 14 [4] (.one 16 [4] (.one 17 [] (.one 18 [] (.one 20 [] .nil))))))) 0 [] .nil))) 0 [] (.two 19 [4] (.one 8 [4] (.one 9 [] (.one 11 [4] (.one 12 [] (.one 14 [4] (.one 16 [4] (.one 17 [] (.one 18 [] (.one 20 [] .nil))))))))) 0 [] .nil)) 0 [] (.two 19 [4] (.one 6 [4] (.one 8 [4] (.one 9 [] (.one 11 [4] (.one 12 [] (.one 14 [4] (.one 16 [4] (.one 17 [] (.one 18 [] (.one 20 [] .nil)))))))))) 0 [] .nil)))))))))))) ?_
  refine Xf ?_;refine iF ?_;refine iF ?_;refine aT ?_
  refine fD (E:=[6,19]) (by decide +kernel) ((.cons ?_ (.cons ?_ .nil)))
  ·refine kC (i:=6) (hq:=(xI (hc:=λ w1 hw=>w5 (hw.tape cY fin hl)))) (h:=λ x18 h18=>?_)
   refine fD (E:=[8,19]) (by decide +kernel) ((.cons ?_ (.cons ?_ .nil)))
   ·refine kC (i:=8) (hq:=(xI (hc:=λ w1 hw=>eX 6 (hw.tape cY fin hl) (by decide) (by decide)))) (h:=λ x20 h20=>?_)
    refine nP ?_
    refine fD (E:=[11,19]) (by decide +kernel) ((.cons ?_ (.cons ?_ .nil)))
    ·refine kC (i:=11) (hq:=(xI (hc:=λ w1 hw=>eX 6 (hw.tape cY fin hl) (by decide) (by decide)))) (h:=λ x23 h23=>?_)
     refine nP ?_
     refine fD (E:=[14,19]) (by decide +kernel) ((.cons ?_ (.cons ?_ .nil)))
     ·refine kC (i:=14) (hq:=(xI (hc:=λ w1 hw=>eX 4 (hw.tape cY fin hl) (by decide) (by decide)))) (h:=λ x26 h26=>?_)
      refine fD (E:=[16,19]) (by decide +kernel) ((.cons ?_ (.cons ?_ .nil)))
      ·refine kC (i:=16) (hq:=(xI (hc:=λ w1 hw=>eX 3 (hw.tape cY fin hl) (by decide) (by decide)))) (h:=λ x28 h28=>?_)
       refine nJ ?_;refine fJ ?_;refine gJ (h:=λ x7=>?_);refine yR ?_
       refine eE ((x7,⟨lV.getD x18 ⟨#[]⟩,((x20:Nat):Int),((x23:Nat):Int),((x26:Nat):Int),((x28:Nat):Int)==0,⟨0,false⟩,oC l (oC l (oC l (oC l (oC l p))))⟩)) ?_
       ·exact pR h18.1
      ·refine fI (i:=19) (h:=λ x7=>?_)
       refine bC (i:=16) (hq:=(xI (hc:=λ w1 hw=>eX 3 (hw.tape cY fin hl) (by decide) (by decide)))) (h:=λ x28 h28=>?_);refine nJ ?_;refine fJ ?_;refine yR ?_
       refine eE ((x7,⟨lV.getD x18 ⟨#[]⟩,((x20:Nat):Int),((x23:Nat):Int),((x26:Nat):Int),((x28:Nat):Int)==0,⟨0,false⟩,oC l (oC l (oC l (oC l (oC l p))))⟩)) ?_
       ·exact pR h18.1
     ·refine fI (i:=19) (h:=λ x7=>?_)
      refine bC (i:=14) (hq:=(xI (hc:=λ w1 hw=>eX 4 (hw.tape cY fin hl) (by decide) (by decide)))) (h:=λ x26 h26=>?_);refine bC (i:=16) (hq:=(xI (hc:=λ w1 hw=>eX 3 (hw.tape cY fin hl) (by decide) (by decide)))) (h:=λ x28 h28=>?_);refine nJ ?_;refine fJ ?_;refine yR ?_
      refine eE ((x7,⟨lV.getD x18 ⟨#[]⟩,((x20:Nat):Int),((x23:Nat):Int),((x26:Nat):Int),((x28:Nat):Int)==0,⟨0,false⟩,oC l (oC l (oC l (oC l (oC l p))))⟩)) ?_
      ·exact pR h18.1
    ·refine fI (i:=19) (h:=λ x7=>?_)
     refine bC (i:=11) (hq:=(xI (hc:=λ w1 hw=>eX 6 (hw.tape cY fin hl) (by decide) (by decide)))) (h:=λ x23 h23=>?_);refine nP ?_;refine bC (i:=14) (hq:=(xI (hc:=λ w1 hw=>eX 4 (hw.tape cY fin hl) (by decide) (by decide)))) (h:=λ x26 h26=>?_);refine bC (i:=16) (hq:=(xI (hc:=λ w1 hw=>eX 3 (hw.tape cY fin hl) (by decide) (by decide)))) (h:=λ x28 h28=>?_);refine nJ ?_;refine fJ ?_;refine yR ?_
     refine eE ((x7,⟨lV.getD x18 ⟨#[]⟩,((x20:Nat):Int),((x23:Nat):Int),((x26:Nat):Int),((x28:Nat):Int)==0,⟨0,false⟩,oC l (oC l (oC l (oC l (oC l p))))⟩)) ?_
     ·exact pR h18.1
   ·refine fI (i:=19) (h:=λ x7=>?_)
    refine bC (i:=8) (hq:=(xI (hc:=λ w1 hw=>eX 6 (hw.tape cY fin hl) (by decide) (by decide)))) (h:=λ x20 h20=>?_);refine nP ?_;refine bC (i:=11) (hq:=(xI (hc:=λ w1 hw=>eX 6 (hw.tape cY fin hl) (by decide) (by decide)))) (h:=λ x23 h23=>?_);refine nP ?_;refine bC (i:=14) (hq:=(xI (hc:=λ w1 hw=>eX 4 (hw.tape cY fin hl) (by decide) (by decide)))) (h:=λ x26 h26=>?_);refine bC (i:=16) (hq:=(xI (hc:=λ w1 hw=>eX 3 (hw.tape cY fin hl) (by decide) (by decide)))) (h:=λ x28 h28=>?_);refine nJ ?_;refine fJ ?_;refine yR ?_
    refine eE ((x7,⟨lV.getD x18 ⟨#[]⟩,((x20:Nat):Int),((x23:Nat):Int),((x26:Nat):Int),((x28:Nat):Int)==0,⟨0,false⟩,oC l (oC l (oC l (oC l (oC l p))))⟩)) ?_
    ·exact pR h18.1
  ·refine fI (i:=19) (h:=λ x7=>?_)
   refine bC (i:=6) (hq:=(xI (hc:=λ w1 hw=>w5 (hw.tape cY fin hl)))) (h:=λ x18 h18=>?_);refine bC (i:=8) (hq:=(xI (hc:=λ w1 hw=>eX 6 (hw.tape cY fin hl) (by decide) (by decide)))) (h:=λ x20 h20=>?_);refine nP ?_;refine bC (i:=11) (hq:=(xI (hc:=λ w1 hw=>eX 6 (hw.tape cY fin hl) (by decide) (by decide)))) (h:=λ x23 h23=>?_);refine nP ?_;refine bC (i:=14) (hq:=(xI (hc:=λ w1 hw=>eX 4 (hw.tape cY fin hl) (by decide) (by decide)))) (h:=λ x26 h26=>?_);refine bC (i:=16) (hq:=(xI (hc:=λ w1 hw=>eX 3 (hw.tape cY fin hl) (by decide) (by decide)))) (h:=λ x28 h28=>?_);refine nJ ?_;refine fJ ?_;refine yR ?_
   refine eE ((x7,⟨lV.getD x18 ⟨#[]⟩,((x20:Nat):Int),((x23:Nat):Int),((x26:Nat):Int),((x28:Nat):Int)==0,⟨0,false⟩,oC l (oC l (oC l (oC l (oC l p))))⟩)) ?_
   ·exact pR h18.1
 dsimp only[hX,List.map,List.cons_append,List.nil_append]
 have hy:=hx
 refine J2 ?_;refine kW ?_;refine aA ?_
 (refine dZ 33 (λ g33=>?_) (λ g33=>?_)<;>(try (exfalso;omega))<;>((refine Ka3 ?_)))
 ((refine aE ?_;refine kW ?_));refine bX ?_;refine Ka4 ?_;refine kW ?_;refine aA ?_
 (refine dZ 39 (λ g39=>?_) (λ g39=>?_)<;>refine Ka0 ?_)
 all_goals ((first|refine aI ?_|(refine aE ?_;refine kW ?_));refine Ka6 ?_)
 all_goals (first|refine aI ?_|(refine dZ 43 (λ g43=>?_) (λ g43=>?_)<;>refine Ka0 ?_))
 all_goals ((first|refine aI ?_|(refine aE ?_;refine kW ?_));refine Ka6 ?_)
 all_goals (first|refine aI ?_|(refine dZ 47 (λ g47=>?_) (λ g47=>?_)<;>refine Ka0 ?_))
 all_goals ((first|refine aI ?_|(refine aE ?_;refine kW ?_));refine bX ?_;refine Ai ?_;refine dF ?_;refine R3 ?_;refine aD (xI (hc:=λ w1 hw=>eX ts.length (hw.tape cY fin hl) (by omega) (by omega))) (λ x57 h57=>?_);refine iZ ?_;refine Ea ?_)
 all_goals
 refine oK [11,58,59,60,61,62,63,64,65,66,67,68,69,70,71,72,73,74,75,76,77,78,79,80,81,82,83,84,85,86,87,88,89,90,91,92,93,94,95,96,97,98,99,100] (λ z:Nat×eQ=>[(11,.int .i64 ((z.1:Nat):Int))]) (λ z=>z.1<=ts.length) (λ z=>[(y.1,.cells ⟨Rz (({y.2 with t:=z.2}:Hu).cl kind mask)⟩ 89 (0,0)),(x6,.cells ⟨Rz ⟨0,⟨0,false⟩,0,0,0,0,0,0,⟨#[]⟩,0,0,0,false⟩⟩ 89 (0,0)),(tb,Ov a l c (oC l y.2.pos)),(bw,pC bm mask pt ts.length kt pe ne ke)]) (λ _=>_) (λ _=>_) (λ z=>ts.length-z.1) ((0,y.2.t)) (Nat.zero_le _) (λ z f hx=>?_)
 dsimp only[hX,List.map,List.cons_append,List.nil_append]
 all_goals (refine Db ?_;refine dF ?_;refine R3 ?_;refine Bv ?_)
 all_goals
  refine bD (λ c64=>?_) (λ c64=>?_)
  ·all_goals try (exfalso;omega)
   all_goals (refine rR ?_;refine aS ?_;refine gS [0,1,2,3,4,5,6,7,8,9,10,11,12,13,14,15,16] ?_;refine Ym ?_;refine iF ?_;refine cP (i:=6) (hq:=(oW (m:=x57) (n:=z.1) rf rf (by omega))) (h:=?_);refine Ym ?_;refine oE ?_;refine cP (i:=12) (hq:=(yo (a:=x57+z.1) (b:=ts.length) rf rf (by omega))) (h:=?_);refine bT (i:=13) (hq:=(Ou (cs:=tP ts) (k:=(x57+z.1)%ts.length) rf rf gH eF fin (Nat.mod_lt _ h0) (by rw[lN];have:=Nat.mod_lt (x57+z.1) h0;omega))) (h:=?_);refine bT (i:=14) (hq:=(Ij (ts:=ts) (q:=(x57+z.1)%ts.length) rf eF fin (Nat.mod_lt _ h0))) (h:=?_);refine aU ?_;refine lI (i:=16) (hq:=(gV λ _=>lY (off:=1) (vs:=[.int .i64 (ts.getD ((x57+z.1)%ts.length) ⟨0,false⟩).root,.bool (ts.getD ((x57+z.1)%ts.length) ⟨0,false⟩).ro]) rf cY rf rfl eF (Nat.le_of_ble_eq_true rfl) rf jI)) (h:=λ _=>?_);refine eU ?_;refine Ka7 ?_;refine Kc9 ?_)
   all_goals ((refine dZ 86 (λ g86=>?_) (λ g86=>?_)<;>refine Ka0 ?_))
   all_goals ((first|refine aI ?_|(refine aE ?_;refine uP ?_));refine Ka6 ?_)
   all_goals (first|(refine aE ?_;refine aF ?_)|(refine dZ 90 (λ g90=>?_) (λ g90=>?_)<;>(try (exfalso;omega))<;>(refine aI ?_)))
   all_goals (refine Ka1 ?_;refine Ka2 ?_;(first|refine aI ?_|(refine aE ?_;refine uP ?_));refine Ka0 ?_)
   all_goals (first|refine sA ?_|(refine dZ 95 (λ g95=>?_) (λ g95=>?_)<;>refine Ka0 ?_))
   all_goals ((first|refine aI ?_|refine sA ?_|(refine aE ?_;refine uP ?_));(first|refine aI ?_|(refine aE ?_;refine bX ?_));refine bX ?_;refine aG ?_)
   all_goals
   refine bD (λ c99=>?_) (λ c99=>?_)
   ·try exact nv c99
    all_goals (refine nF ?_;refine J5 ?_)
    all_goals
     refine aY Tryz.results54 (λ w hw=>?_)
     exact⟨{y.2 with t:=ts.getD ((x57+z.1)%ts.length) ⟨0,false⟩,pos:=oC l y.2.pos},rfl,⟨hy,vS (Nat.mod_lt _ h0),λ hk=>by first|(simp_all;done)|(unfold wrK at hk;exfalso;omega)⟩,hw.aX⟩
   ·try exact nv c99
    all_goals try (exfalso;omega)
    all_goals (refine Kc2 ?_)
    all_goals
     refine jG ((z.1+1,ts.getD ((x57+z.1)%ts.length) ⟨0,false⟩)) ?_
     ·omega
  ·all_goals try (exfalso;omega)
   all_goals (refine bR rfl ?_;refine mA ?_;refine aC (Ou (cs:=tP ts) (k:=0) rf rf gH eF fin h0 (by rw[lN];omega)) rfl ?_;refine aC (Ij (ts:=ts) (q:=0) rf eF fin h0) rfl ?_;refine aF ?_;refine bY (gV λ _=>lY (off:=1) (vs:=[.int .i64 (ts.getD 0 ⟨0,false⟩).root,.bool (ts.getD 0 ⟨0,false⟩).ro]) rf cY rf rfl eF (Nat.le_of_ble_eq_true rfl) rf jI) (λ _=>?_);refine aG ?_;refine nF ?_;refine J5 ?_)
   all_goals
   refine aY Tryz.results54 (λ w hw=>?_)
   exact⟨{y.2 with t:=ts.getD 0 ⟨0,false⟩,pos:=oC l y.2.pos},rfl,⟨hy,vS h0,λ _=>hr0⟩,hw.aX⟩
end
end

end Go.Proofs.YtbajmaoegmbfgaaGreat
