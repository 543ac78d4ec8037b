/- Merged. -/
import Derived.Test.YtbajmaoegmbfgaaGreatGEx24
import Derived.Test.YtbajmaoegmbfgaaGreatGJoin
set_option linter.unusedSimpArgs false
set_option linter.unusedVariables false
namespace Go.Proofs.YtbajmaoegmbfgaaGreat
open Go.Proofs.Tryz (prog)
open Go Go.RowKit Go.Ct
section
structure KQ where
 ts:List dO
 es:List Nat
 pt:Option Addr
 kt:Nat
 pe:Option Addr
 ke:Nat
def S7(dn:Bool)(rs:Rs)(bx:Nat)(ts:List dO)(es:List Nat)(q:KQ):Prop :=
 (dn=false/\q.es=es++[bx]/\q.ts=ts)∨(dn=true/\q.es=es/\(q.ts=ts∨(0<rs.root/\q.ts.length<=5/\q.ts=ts++[⟨rs.root,rs.ro⟩])))
section
variable{k:Cl}{bw bx bm:Nat}{x:XS}{dn:Bool}{rs:Rs}{D:List Nat}{A:Fr}{w:World}{mask:Int}{ts:List dO}{es:List Nat}{pt pe:Option Addr}{kt ke:Nat}
abbrev wL(ts:List dO)(es:List Nat)(pt:Option Addr)(kt:Nat)(pe:Option Addr)(ke:Nat):List Ow:=[⟨pt,qP ts,kt,29,2⟩,⟨pe,uW es,ke,74,1⟩]
theorem aAZ(h:SF w D ((bw,lV bm mask pt ts.length kt pe es.length ke)::xH k bx bm x dn rs) A [] (wL ts es pt kt pe ke++xW x) w) :
  SF w D [(bw,.cells ⟨[.pointer (some ⟨bm,0,none⟩),.int .u64 mask,.slice pt ts.length kt,.slice pe es.length ke]⟩ 35 (0,0)),(bx,xO k bm x dn rs),(bm,xM x)] A [] [⟨pt,qP ts,kt,29,2⟩,⟨pe,uW es,ke,74,1⟩,⟨x.pg,aH x.got,x.kg,37,1⟩,⟨x.pm,aH x.made,x.km,37,1⟩,⟨x.pl,aH x.cel,x.kl,27,1⟩,⟨x.pe,aH x.gns,x.ke,3,1⟩,⟨x.pn,gX x.L,x.cn,47,14⟩,⟨x.pc,aH x.cs,x.cc,37,1⟩] w:=h
theorem zi(hts:ts.length<=1000)(hes:es.length<=1000)(hs:SF w D ((bw,lV bm mask pt ts.length kt pe es.length ke)::xH k bx bm x dn rs) A [] (wL ts es pt kt pe ke++xW x) w):Calls prog 115 #[.pointer (some ⟨bw,0,none⟩),.pointer (some ⟨bx,0,none⟩)] w λ e w'=>∃q:KQ,e=.returned (.tuple #[])/\S7 dn rs bx ts es q/\SF w D ((bw,lV bm mask q.pt q.ts.length q.kt q.pe q.es.length q.ke)::xH k bx bm x dn rs) [] [] (wL q.ts q.es q.pt q.kt q.pe q.ke++xW x) w':=by
 refine enter Tryz.func115 Tryz.ntmps115 rfl rfl (aAZ hs) ?_
 simp only[cE]
 refine J2 ?_;refine aC (cM (hs:=xH k bx bm x dn rs) (os:=xW x) (hc:=λ w hs=>Q9 hs)) (λ x6 h6=>?_);refine pN ?_
 refine bE (λ c7=>?_) (λ c7=>?_)
 ·refine Jv ?_;refine dG ?_;refine Kc2 ?_;refine aM ((by exact F2 (λ _=>cL (cs:=uW [bx]) Pt Ii rfl rfl rfl rfl rfl))) (λ x14=>?_);(refine aM (bF.eX (fT (sz:=1) (cs:=uW es) rf rf (.tail .head) (by rw[yT];omega) fin rfl rfl Pt rfl (by decide) gO (by omega)) xN) (λ x15=>?_);try (refine fD (λ h15=>?_)));refine K5 ?_
  refine B9 Tryz.results115 (λ w hw=>?_)
  first
  | exact⟨⟨ts,es++[bx],pt,kt,x15.1,x15.2⟩,rfl,.inl ⟨by simpa using c7,rfl,rfl⟩,by dsimp only[wL];rw[iz,show(es++[bx]).length=es.length+1 by simp];exact hw.aX⟩
  | exact⟨⟨ts,es,pt,kt,pe,ke⟩,rfl,.inr ⟨by simpa using c7,rfl,.inl rfl⟩,hw.aX⟩
 ·refine J2 ?_;refine aC (cM (hs:=xH k bx bm x dn rs) (os:=xW x) (hc:=λ w hs=>ji hs)) (λ x19 h19=>?_);refine aJ (λ x4=>?_);refine J5 ?_;refine Ka6 ?_;refine J3 ?_;refine Cp ?_;refine aA ?_
  (refine eG 24 (λ g24=>?_) (λ g24=>?_)<;>refine Ka0 ?_)
  all_goals (refine Kb4 ?_;refine Rw ?_;refine wx ?_;refine aG ?_)
  all_goals
  refine bE (λ c31=>?_) (λ c31=>?_)
  ·try exact nv c31
   all_goals (refine eQ [(0,[]),(1,[]),(2,[]),(3,[]),(4,[]),(5,[]),(6,[]),(7,[4]),(8,[]),(9,[]),(10,[]),(11,[])] ?_;refine Xo ?_;refine aT ?_;refine bT (i:=6) (hq:=(aP (k:=2) (vs:=[.int .i64 rs.root,.bool rs.ro]) rf cR eE rfl rfl)) (h:=?_);refine dC (i:=7) (hq:=((by exact F2 (λ _=>cL (cs:=qP [⟨rs.root,rs.ro⟩]) F8 Ii rfl rfl rfl rfl rfl)))) (h:=λ x39=>?_);((refine dC (i:=8) (hq:=(bF.eX (fT (sz:=2) (cs:=qP ts) rf rf .head (by rw[lP]) fin rfl rfl F8 rfl (by decide) gO (by omega)) xN)) (h:=λ x40=>?_);try (refine fL (λ h40=>?_))));refine J88 ?_)
   all_goals
    refine B9 Tryz.results115 (λ w hw=>?_)
    first
    | exact⟨⟨ts++[⟨rs.root,rs.ro⟩],es,x40.1,x40.2,pe,ke⟩,rfl,.inr ⟨by simpa using c7,rfl,.inr ⟨by omega,by show(ts++[(⟨rs.root,rs.ro⟩:dO)]).length<=5;simp;omega,rfl⟩⟩,by dsimp only[wL];rw[Zb,show(ts++[(⟨rs.root,rs.ro⟩:dO)]).length=ts.length+1 by simp];exact hw.aX⟩
    | exact⟨⟨ts,es,pt,kt,pe,ke⟩,rfl,.inr ⟨by simpa using c7,rfl,.inl rfl⟩,hw.aX⟩
  ·all_goals refine aS ?_
   all_goals
    refine B9 Tryz.results115 (λ w hw=>?_)
    first
    | exact⟨⟨ts,es,pt,kt,pe,ke⟩,rfl,.inr ⟨by simpa using c7,rfl,.inl rfl⟩,hw.aX⟩
theorem qq(hts:ts.length<=1000)(hes:es.length<=1000)(hs:SF w D [(bw,lV bm mask pt ts.length kt pe es.length ke),(bx,xO k bm x dn rs),(bm,xM x)] A [] [⟨pt,qP ts,kt,29,2⟩,⟨pe,uW es,ke,74,1⟩,⟨x.pg,aH x.got,x.kg,37,1⟩,⟨x.pm,aH x.made,x.km,37,1⟩,⟨x.pl,aH x.cel,x.kl,27,1⟩,⟨x.pe,aH x.gns,x.ke,3,1⟩,⟨x.pn,gX x.L,x.cn,47,14⟩,⟨x.pc,aH x.cs,x.cc,37,1⟩] w):Calls prog 115 #[.pointer (some ⟨bw,0,none⟩),.pointer (some ⟨bx,0,none⟩)] w λ e w'=>∃q:KQ,e=.returned (.tuple #[])/\S7 dn rs bx ts es q/\SF w D [(bw,lV bm mask q.pt q.ts.length q.kt q.pe q.es.length q.ke),(bx,xO k bm x dn rs),(bm,xM x)] [] [] [⟨q.pt,qP q.ts,q.kt,29,2⟩,⟨q.pe,uW q.es,q.ke,74,1⟩,⟨x.pg,aH x.got,x.kg,37,1⟩,⟨x.pm,aH x.made,x.km,37,1⟩,⟨x.pl,aH x.cel,x.kl,27,1⟩,⟨x.pe,aH x.gns,x.ke,3,1⟩,⟨x.pn,gX x.L,x.cn,47,14⟩,⟨x.pc,aH x.cs,x.cc,37,1⟩] w':=zi hts hes hs
end
end
section
def ai:Nd:={Nd.zero with kind:=3}
def yi(g:Int):Nd:={Nd.zero with kind:=2,gen:=g}
def L4(x y:AX):List aU:=[fA,fA]++[kZ ai [] [] 0 x]++[kZ (yi 1) [] [] 1 y]
theorem dp{x y:AX}:∀f∈aL (L4 x y),f.2=[]:=by
 intro f hf
 simp[aL,L4,aU.fr,fA,kZ,aH,dE] at hf
 rcases hf with hf|hf|hf|hf|hf|hf|hf|hf<;>rw[hf]
theorem O8{w:World}{D:List Nat}{b:Nat}{acc:Int}{pn:Option Addr}{cn:Nat}{A:Fr}(hs:SF w D [(b,mO [fA,fA] [] 0 acc pn cn none 0)] A [] (mW [fA,fA] [] pn cn none 0) w) :
  Calls prog 66 #[.pointer (some ⟨b,0,none⟩)] w λ e w'=>∃q:AX×AX×Option Addr×Nat,e=.returned (.agg ⟨[.int .i64 3,.bool false]⟩)/\True /\
   SF w D [(b,mO (L4 q.1 q.2.1) [0,3,4] 1 acc q.2.1.pn q.2.1.cn q.2.2.1 q.2.2.2)] [] (aL (L4 q.1 q.2.1)) (mW (L4 q.1 q.2.1) [0,3,4] q.2.1.pn q.2.1.cn q.2.2.1 q.2.2.2) w':=by
 refine enter Tryz.func66 Tryz.ntmps66 rfl rfl (yM hs) ?_
 simp only[cE]
 refine J0 ?_;refine aJ (λ x2=>?_);refine Kd0 ?_;refine bK ?_;refine aC (cM (A0:=[(none,aH []),(none,dE [])]) (hc:=λ w hs=>Gk (L:=[fA,fA]) (cs:=[]) (n:=ai) (xs:=[]) (ys:=[]) 0 hs rfl rfl (by decide) (by decide) (by decide) (by decide))) (λ x7 h7=>?_);refine Ka4 ?_;refine aC (cM (hc:=λ w hs=>Jq (L:=[fA,fA]++[kZ ai [] [] 0 x7]) (cs:=[0]) hs)) (λ x9 h9=>?_);refine zM ?_;refine aA ?_;refine bK ?_;refine aA ?_;refine aC (cM (A0:=[(none,aH []),(none,dE [])]) (hc:=λ w hs=>Gk (L:=[fA,fA]++[kZ ai [] [] 0 x7]) (cs:=[0]) (n:=yi 1) (xs:=[]) (ys:=[]) 3 hs rfl rfl (by decide) (by decide) (by simp) (by decide))) (λ x15 h15=>?_);refine aC (cM (hc:=λ w hs=>lJ (L:=L4 x7 x15) (cs:=[0,3]) 4 hs (by decide))) (λ x16 h16=>?_);refine vG ?_
 refine bB Tryz.results66 (λ w hw=>?_)
 exact⟨(x7,x15,x16.1,x16.2),rfl,trivial,(hw.fG (λ f hf=>.inl (dp f hf))).v4⟩
end
section
section
variable{S:List (Nat×Value)}{w0 w:World}{M:List Nat}{H:List (Nat×Obj)}{A F:Fr}{O:List Ow}{ty:TypeId}{pos:String}{af:Array Edge}{gd:Option (Nat×Bool)}{X:Type}{V:X->Value}
theorem ph{φ:X->Prop}{hs H':List (Nat×Obj)}{os O':List Ow}{hs' Hc H1:X->List (Nat×Obj)}{os' Oc O1:X->List Ow}{Fc F1:X->Fr}{A0:Fr}{is js:List Nat}{f:FuncId}{xs:List Operand}{at_:Array TypeId}{vs:List Value}{dst:Option Nat}
  (ha:rP S xs=vs:=by(repeat (first|exact cI _|(apply bY;focus ((conv=>{lhs;whnf});try exact rfl))));first|done|fail) (hp:plain prog f=true:=by kernel_rfl)
  (hc:∀w,SF w (Ks hs os) hs A0 [] os w->Calls prog f ⟨vs⟩ w λ e w'=>∃x,e=.returned (V x)/\φ x/\SF w (Ks hs os) (hs' x++Hc x) [] (Fc x) (os' x++Oc x) w')
  (hH:nQ H is hs H':=by(repeat (first|exact nQ.nil|(apply nQ.cons;(focus ((repeat (first|exact Ba.head|apply Ba.tail));done));simp only[sM])));first|done|fail)
  (hO:nQ O js os O':=by(repeat (first|exact nQ.nil|(apply nQ.cons;(focus ((repeat (first|exact Ba.head|apply Ba.tail));done));simp only[sM])));first|done|fail)
  (hA:bI A F O' A0:=by(repeat (first|exact bI.of (λ _ h=>Or.inr (Or.inl h))|exact bI.nil|(refine bI.cons (by first|exact Or.inl rfl|exact Or.inr (Or.inr (Or.inl (by simp)))|exact Or.inr (Or.inl (by simp))|exact Or.inr (Or.inr (Or.inr (by simp)))) ?_)));first|done|fail)
  (hl1:∀x,is.length=(hs' x).length:=by intro x;exact rfl) (hl2:∀x,js.length=(os' x).length:=by intro x;exact rfl)
  (hH1:∀x,Hc x++jR is (hs' x) H'=H1 x:=by intro x;first|(simp only[jR,tM,List.nil_append,List.cons_append];exact rfl)|exact rfl) (hF1:∀x,Fc x++F=F1 x:=by intro x;first|(simp only[List.nil_append,List.cons_append];exact rfl)|exact rfl) (hO1:∀x,Oc x++jR js (os' x) O'=O1 x:=by intro x;simp only[jR,tM,mW,List.nil_append,List.cons_append];exact rfl) :
  bF prog S (SF w0 M H A F O) ⟨dst,.call {callee:=.value (.func f),args:=⟨xs⟩,argTypes:=at_},ty,pos,af,gd⟩ X V (λ x w=>φ x/\SF w0 M (H1 x) A (F1 x) (O1 x) w) :=
 iL (oA hp ha) λ w hw=>(hc w (hw.rY hH hO hA)).mono λ _ _ ⟨x,he,hx,hs⟩=>⟨x,he,hx,by
  have:=hw.zR (hs':=hs' x) (Hc:=Hc x) (os':=os' x) (Oc:=Oc x) hH hO hs (hl1 x) (hl2 x)
  rw[<- hH1 x,<- hF1 x,<- hO1 x]
  exact this⟩
end
end
end Go.Proofs.YtbajmaoegmbfgaaGreat
namespace Go.Ct
open Go Go.RowKit
section
theorem Rc.trans{i j:Nat}{t t1 t2:Tr}{s s1 s2:Mm}(h1:Rc i t s t1 s1)(h2:Rc j t1 s1 t2 s2):Rc (i+j) t s t2 s2:=by
 induction h2 with
 | refl t s=>exact h1
 | gW _ hs ih=>exact .gW (ih h1) hs
 | loud _ hs ih=>exact .loud (ih h1) hs
def Sz(x:XS)(B:Nat):Prop:=x.L.length<=B/\x.cs.length<=B/\x.gen<=B
theorem Jg{T R R':Tr}{x x':XS}{dn:Bool}{rs:Rs}{j N B:Nat}(h:qg T x dn rs R)(hd:dn=false)(hT:bS T N 64)(hN:x.got.length+1<=N)(hr:Rc j R x.mm R' x'.mm)(hj:j<=1)(hs:Sz x B):Sz x' (B+128):=by
 rcases h.Yv with⟨e,_⟩|⟨_,e⟩
 ·rw[hd] at e;cases e
 ·obtain⟨c,h1,_,_⟩:=h.wk.vN (Nat.le_refl 64) hT (by omega)
  obtain⟨c',h2,h3,h4,h5,h6,h7⟩:=hr.vN (Nat.le_refl 64) (Ol e h1 (by omega)) (by omega)
  obtain⟨s1,s2,s3⟩:=hs
  simp only[XS.mm,List.length_map] at h5 h6 h7
  exact⟨by omega,by omega,by omega⟩
theorem Tg{T R':Tr}{x x':XS}{j N B:Nat}(hT:bS T N 64)(hr:Rc j T x.mm R' x'.mm)(hj:j<=0)(hs:Sz x B):Sz x' (B+64):=by
 obtain⟨c',h2,h3,h4,h5,h6,h7⟩:=hr.vN (Nat.le_refl 64) hT (by omega)
 obtain⟨s1,s2,s3⟩:=hs
 simp only[XS.mm,List.length_map] at h5 h6 h7
 exact⟨by omega,by omega,by omega⟩
end
end Go.Ct
namespace Go.Proofs.YtbajmaoegmbfgaaGreat
open Go Go.RowKit Go.Ct
section
noncomputable def T0 (k:Cl) (m:Nat):Tr:=kX k (mR k.key m) 1073741824
theorem qY(k:Cl)(m:Nat){n:Nat}(h:n<1073741824):bS (T0 k m) n 64:=Iv h
def xE(k:Cl)(bm b:Nat)(x:XS)(dn:Bool)(rs:Rs):List (Nat×Obj):=if dn=true then [] else [(b,xO k bm x false rs)]
def xE4(x:XS)(dn:Bool):List Ow:=if dn=true then [] else [⟨x.pg,aH x.got,x.kg,37,1⟩,⟨x.pm,aH x.made,x.km,37,1⟩,⟨x.pl,aH x.cel,x.kl,27,1⟩,⟨x.pe,aH x.gns,x.ke,3,1⟩]
structure RY where
 i:Nat
 x:XS
 N:List aU
 dn:Bool
 rs:Rs
 R:Tr
structure Lb(k:Cl)(m:Nat)(x0:XS)(B:Nat)(y:RY):Prop where
 ex:qg (T0 k m) y.x y.dn y.rs y.R
 rc:∃j,Rc j (T0 k m) x0.mm y.R y.x.mm
 ext:y.x.L=x0.L++y.N
 lc:x0.cs.length<=y.x.cs.length
 gl:y.x.got.length<=y.i
 sz:Sz y.x (B+64+128*y.i)
theorem Lb.oo{k:Cl}{m N:Nat}{x0 x':XS}{B:Nat}{N':List aU}{dn:Bool}{rs:Rs}(hN:N<1073741824)(h:A4 (T0 k m) (T0 k m) 0 0 Rs.zero x0 x' N' dn rs)(hs:Sz x0 B):∃R,Lb k m x0 B ⟨0,x',N',dn,rs,R⟩:=by
 obtain⟨R',j,h1,h2,h3,h4,h5,h6⟩:=h.exI
 exact⟨R',h3,⟨j,h4⟩,h5,h6,by have:=h.gl;show x'.got.length<=0;omega,Tg (qY k m hN) h4 h1 hs⟩
theorem Lb.step{k:Cl}{m:Nat}{x0 x':XS}{B:Nat}{y:RY}{N':List aU}{dn:Bool}{rs:Rs}(hi:Lb k m x0 B y)(hd:y.dn=false)(hB:y.i<1073741822)(h:A4 (T0 k m) y.R 1 (y.x.got.length+1) y.rs y.x x' N' dn rs):∃R,Lb k m x0 B ⟨y.i+1,x',y.N++N',dn,rs,R⟩:=by
 obtain⟨R',j,h1,h2,h3,h4,h5,h6⟩:=h.exI
 obtain⟨j0,hj0⟩:=hi.rc
 have hg:=hi.gl
 refine⟨R',h3,⟨j0+j,hj0.trans h4⟩,by show x'.L=_;rw[h5,hi.ext,List.append_assoc],Nat.le_trans hi.lc h6,by have:=h.gl;show x'.got.length<=y.i+1;omega,?_⟩
 have:=Jg hi.ex hd (qY k m (n:=y.x.got.length+1) (by omega)) (Nat.le_refl _) h4 h1 hi.sz
 rw[show B+64+128*(y.i+1)=B+64+128*y.i+128 by omega]
 exact this
section
variable{k:Cl}{bw bm m B:Nat}{L:List aU}{cs:List Int}{gen acc:Int}{pn pc:Option Addr}{cn cc:Nat}{D:List Nat}{A:Fr}{w:World}{mask:Int}{ts:List dO}{es:List Nat}{pt pe:Option Addr}{kt ke:Nat}
theorem cj(hsz:L.length<=137438953472/\cs.length<=137438953472/\gen<=137438953472)(hk:bh k)(hm:m<18446744073709551616)(em:k.mask=(m:Int))(ht:k.t.root<=9223372036854775807)(ha:k.a<=L.length)(hb:k.b<=L.length)(hnn:k.n<=L.length)(hA:∀f∈aL L,f∈A)(ok:(XS.new L cs gen acc pn cn pc cc).Ok)(hs:SF w D [(bm,mO L cs gen acc pn cn pc cc)] A [] [⟨pn,gX L,cn,47,14⟩,⟨pc,aH cs,cc,37,1⟩] w):Calls Tryz.prog 49 #[.pointer (some ⟨bm,0,none⟩),.agg ⟨Qv k⟩] w λ e w'=>∃q:Nat×XS×List aU×Bool×Rs,e=.returned (.pointer (some ⟨q.1,0,none⟩))/\A4 (T0 k m) (T0 k m) 0 0 Rs.zero (XS.new L cs gen acc pn cn pc cc) q.2.1 q.2.2.1 q.2.2.2.1 q.2.2.2.2/\SF w D ([(bm,xM q.2.1)]++[(q.1,xO k bm q.2.1 q.2.2.2.1 q.2.2.2.2)]) [] (aL q.2.2.1) ([⟨q.2.1.pn,gX q.2.1.L,q.2.1.cn,47,14⟩,⟨q.2.1.pc,aH q.2.1.cs,q.2.1.cc,37,1⟩]++[⟨q.2.1.pg,aH q.2.1.got,q.2.1.kg,37,1⟩,⟨q.2.1.pm,aH q.2.1.made,q.2.1.km,37,1⟩,⟨q.2.1.pl,aH q.2.1.cel,q.2.1.kl,27,1⟩,⟨q.2.1.pe,aH q.2.1.gns,q.2.1.ke,3,1⟩]) w' :=
 (te (N:=0) (n:=1073741824) (m:=m) (qY k m (by decide)) (by decide) hsz hk (Nat.le_refl _) hm em ht ha hb hnn hA ok hs).mono λ _ _ ⟨q,e,h,hw⟩=>⟨q,e,h,hw.perm (List.Perm.swap _ _ _) (List.perm_append_comm (l₁:=[_,_]) (l₂:=[_,_,_,_]))⟩
set_option maxHeartbeats 1000000 in
theorem zg(steps:Nat)(hst:steps<=1048576)(hB:B<=100000000000)(hsz:Sz (XS.new L cs gen acc pn cn pc cc) B)(hk:bh k)(hm:m<18446744073709551616)(em:k.mask=(m:Int))(ht:k.t.root<=9223372036854775807)(ha:k.a=0)(hb:k.b=0)(hnn:k.n=0)(hA:∀f∈aL L,f∈A)(ok:(XS.new L cs gen acc pn cn pc cc).Ok)(hts:ts.length<=1000)(hes:es.length<=1000)
  (hs:SF w D [(bw,lV bm mask pt ts.length kt pe es.length ke),(bm,mO L cs gen acc pn cn pc cc)] A [] [⟨pt,qP ts,kt,29,2⟩,⟨pe,uW es,ke,74,1⟩,⟨pn,gX L,cn,47,14⟩,⟨pc,aH cs,cc,37,1⟩] w) :
  Calls Tryz.prog 67 #[.pointer (some ⟨bw,0,none⟩),.agg ⟨Qv k⟩,.int .i64 (steps:Int)] w λ e w'=>∃q:Nat×RY×KQ,e=.returned (.tuple #[])/\(Lb k m (XS.new L cs gen acc pn cn pc cc) B q.2.1/\q.2.1.i<=steps/\S7 q.2.1.dn q.2.1.rs q.1 ts es q.2.2) /\
   SF w D (xE k bm q.1 q.2.1.x q.2.1.dn q.2.1.rs++[(bw,lV bm mask q.2.2.pt q.2.2.ts.length q.2.2.kt q.2.2.pe q.2.2.es.length q.2.2.ke),(bm,xM q.2.1.x)]) [] (aL q.2.1.N) (xE4 q.2.1.x q.2.1.dn++[⟨q.2.2.pt,qP q.2.2.ts,q.2.2.kt,29,2⟩,⟨q.2.2.pe,uW q.2.2.es,q.2.2.ke,74,1⟩,⟨q.2.1.x.pn,gX q.2.1.x.L,q.2.1.x.cn,47,14⟩,⟨q.2.1.x.pc,aH q.2.1.x.cs,q.2.1.x.cc,37,1⟩]) w':=by
 have hL:(0:Int)<=L.length:=bH _
 have hsz2:=hsz
 obtain⟨s1,s2,s3⟩:=hsz2
 simp only[XS.new] at s1 s2 s3
 refine enter Tryz.func67 Tryz.ntmps67 rfl rfl hs ?_
 simp only[cE]
 refine J0 ?_;refine bN (λ x4=>?_);refine S3 ?_;refine gM [0,1,2,3,4,5,6] ?_;refine lr ?_;refine bX ?_;refine bG (i:=5) (hq:=(ph (hs:=[(bm,mO L cs gen acc pn cn pc cc)]) (os:=[⟨pn,gX L,cn,47,14⟩,⟨pc,aH cs,cc,37,1⟩]) (A0:=aL L) (hA:=bI.of λ f hf=>.inr (.inl (hA f hf))) (hc:=λ w hs=>cj (m:=m) ⟨by omega,by omega,by omega⟩ hk hm em ht (by omega) (by omega) (by omega) (λ f hf=>hf) ok hs))) (h:=λ x13 h13=>?_);refine J7 ?_;refine aR ?_;refine Gp ?_
 obtain⟨R0,hR0⟩:=Lb.oo (B:=B) (N:=0) (by decide) h13 hsz
 refine nS [7,14,15,16,17,18,19,20,21,22,23,24,25] (λ y:RY=>[(7,.int .i64 ((y.i:Nat):Int))]) (λ y=>Lb k m (XS.new L cs gen acc pn cn pc cc) B y/\y.i<=steps) (λ y=>[(x13.1,xO k bm y.x y.dn y.rs),(x4,.cells ⟨Qv k⟩ 89 (0,0)),(bw,lV bm mask pt ts.length kt pe es.length ke),(bm,xM y.x)]) (λ y=>aL y.N) (λ y=>[⟨y.x.pg,aH y.x.got,y.x.kg,37,1⟩,⟨y.x.pm,aH y.x.made,y.x.km,37,1⟩,⟨y.x.pl,aH y.x.cel,y.x.kl,27,1⟩,⟨y.x.pe,aH y.x.gns,y.x.ke,3,1⟩,⟨pt,qP ts,kt,29,2⟩,⟨pe,uW es,ke,74,1⟩,⟨y.x.pn,gX y.x.L,y.x.cn,47,14⟩,⟨y.x.pc,aH y.x.cs,y.x.cc,37,1⟩]) (λ y=>steps-y.i) (⟨0,x13.2.1,x13.2.2.1,x13.2.2.2.1,x13.2.2.2.2,R0⟩) (⟨hR0,Nat.zero_le _⟩) (λ y f hx=>?_) (hw0:=λ w hw=>by rw[List.append_nil] at hw;exact hw.v6)
 dsimp only[iB,List.map,List.cons_append,List.nil_append]
 obtain⟨hi,his⟩:=hx
 have hsx:=hi.sz
 obtain⟨z1,z2,z3⟩:=hsx
 have hgl:=hi.gl
 refine lI ?_;refine aC (cM (hs:=xH k x13.1 bm y.x y.dn y.rs) (os:=xW y.x) (hc:=λ w hs=>Q9 hs)) (λ x15 h15=>?_);refine Fy ?_
 (refine eG 17 (λ g17=>?_) (λ g17=>?_)<;>refine Ka0 ?_)
 all_goals (refine Ka0 ?_;refine wx ?_;refine aG ?_)
 all_goals
 refine bE (λ c21=>?_) (λ c21=>?_)
 ·try exact nv c21
  all_goals (refine sA ?_;refine wZ ?_;refine aC (cM (hs:=xH k x13.1 bm y.x y.dn y.rs) (os:=xW y.x) (A0:=aL y.x.L) (hA:=bI.of λ f hf=>by rw[hi.ext,dF] at hf;rcases List.mem_append.1 hf with hf|hf;exact .inr (.inl (hA f hf));exact .inr (.inr (.inl hf))) (hc:=λ w hs=>Zy (N:=y.x.got.length+1) (n:=1073741824) (m:=m) (qY k m (by omega)) (by omega) rfl ⟨by omega,by omega,by omega⟩ hi.ex hk (Nat.le_refl _) hm em ht (by rw[ha];exact bH _) (by rw[hb];exact bH _) (by rw[hnn];exact bH _) (λ f hf=>hf) hs)) (λ x25 h25=>?_);refine aG ?_;refine Kb2 ?_)
  all_goals
   have hdf:y.dn=false:=by simp_all
   have hq:A4 (T0 k m) y.R 1 (y.x.got.length+1) y.rs y.x x25.1 x25.2.1 x25.2.2.1 x25.2.2.2:=by rcases h25 with h|h;rw[hdf] at h;cases h.1;exact h.2
   obtain⟨R1,hR1⟩:=hi.step hdf (by omega) hq
   refine gU (⟨y.i+1,x25.1,y.N++x25.2.1,x25.2.2.1,x25.2.2.2,R1⟩) ?_ (hw1:=λ w hw=>hw.back (hF:=by rw[dF];exact aV.kN λ f hf=>(List.mem_append.1 hf).elim (λ h=>List.mem_append_right _ h) (λ h=>List.mem_append_left _ h)))
   ·exact⟨hR1,by show y.i+1<=steps;omega⟩
 ·all_goals (refine bR rfl ?_;refine Jv ?_;refine aC (cM (hs:=[(bw,lV bm mask pt ts.length kt pe es.length ke),(x13.1,xO k bm y.x y.dn y.rs),(bm,xM y.x)]) (os:=[⟨pt,qP ts,kt,29,2⟩,⟨pe,uW es,ke,74,1⟩,⟨y.x.pg,aH y.x.got,y.x.kg,37,1⟩,⟨y.x.pm,aH y.x.made,y.x.km,37,1⟩,⟨y.x.pl,aH y.x.cel,y.x.kl,27,1⟩,⟨y.x.pe,aH y.x.gns,y.x.ke,3,1⟩,⟨y.x.pn,gX y.x.L,y.x.cn,47,14⟩,⟨y.x.pc,aH y.x.cs,y.x.cc,37,1⟩]) (hc:=λ w hs=>qq hts hes hs)) (λ x28 h28=>?_);refine aG ?_)
  all_goals
   refine B9 Tryz.results67 (λ w hw=>?_)
   rcases y with⟨i,x,N,dn,rs,R⟩
   cases dn with
   | true=>exact⟨(x13.1,⟨i,x,N,true,rs,R⟩,x28),rfl,⟨hi,his,h28⟩,hw.v4⟩
   | false=>exact⟨(x13.1,⟨i,x,N,false,rs,R⟩,x28),rfl,⟨hi,his,h28⟩,hw.v4⟩
end
end
end Go.Proofs.YtbajmaoegmbfgaaGreat
