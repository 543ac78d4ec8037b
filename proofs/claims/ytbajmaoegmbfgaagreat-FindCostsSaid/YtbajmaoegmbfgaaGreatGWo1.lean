/- Merged. -/
import Derived.Test.YtbajmaoegmbfgaaGreatGEx23
import Derived.Test.YtbajmaoegmbfgaaGreatGBit2
import Derived.Test.YtbajmaoegmbfgaaGreatGJoin
set_option linter.unusedSimpArgs false
set_option linter.unusedVariables false
namespace Go.Ct
open Go Go.RowKit
section
section
variable{P:Program}{S:List (Nat×Value)}{d:Nat}{ty t t' e:TypeId}{pos:String}{af:Array Edge}{gd:Option (Nat×Bool)}{x y:Operand}{w0 w:World}{M:List Nat}{H:List (Nat×Obj)}{A F:Fr}{O:List Ow}{a:Option Addr}
variable{cs:List Value}{m c k:Nat}
theorem mz{kk:IntKind}(hx:ev S x=.slice a m c)(hy:ev S y=.int kk ((k:Nat):Int))(ht:P.underlying t=some (.slice e))(hs:one P e=true)(hf:rO A F O a cs)(h1:k<m)(h2:k<cs.length) :
  aL P S (SF w0 M H A F O) ⟨some d,.indexAddr t x y,ty,pos,af,gd⟩ (.pointer (some ⟨dE a,eH a+k,none⟩)):=⟨λ w hw =>
 (Bs (G:=SF w0 M H A F O) hx hy ht hs ((hw.cl hf).ptr (by omega)) h1).run w hw⟩
theorem ft{q:Nat}{v:Value}(hx:ev S x=.pointer (some ⟨dE a,eH a+q,none⟩))(ht:one P t=true)(hf:rO A F O a cs)(hq:cs[q]?=some v) :
  aL P S (SF w0 M H A F O) ⟨some d,.load t x,ty,pos,af,gd⟩ v:=nZ hx ht (λ w hw=>hw.cl hf) hq
theorem aAo{kk:IntKind}(hx:ev S x=.slice a m c)(hy:ev S y=.int kk ((k:Nat):Int))(ht:P.underlying t=some (.slice e))(hs:jO P e 2=true)(hf:rO A F O a cs)(h1:k<m)(h2:2*k<cs.length) :
  aL P S (SF w0 M H A F O) ⟨some d,.indexAddr t x y,ty,pos,af,gd⟩ (.pointer (some ⟨dE a,eH a+2*k,none⟩)):=⟨λ w hw =>
 (Qy (G:=SF w0 M H A F O) hx hy ht hs ((hw.cl hf).ptr (by omega)) h1).run w hw⟩
end
end
end Go.Ct
namespace Go.Proofs.YtbajmaoegmbfgaaGreat
open Go.Proofs.Tryz
open Go Go.RowKit Go.Ct
section
def vQ(ts:List dV):List Value:=ts.flatMap λ t=>[.int .i64 t.root,.bool t.ro]
def zV(es:List Nat):List Value:=es.map λ b=>.pointer (some ⟨b,0,none⟩)
theorem tR:∀ts:List dV,(vQ ts).length=ts.length*2
 | []=>rfl
 | t::ts=>by have:=tR ts;simp only[vQ,List.flatMap_cons,List.length_append,List.length_cons,List.length_nil] at this ⊢;omega
theorem jh(ts:List dV)(t:dV):vQ (ts++[t])=vQ ts++[.int .i64 t.root,.bool t.ro]:=by simp[vQ]
theorem n8(es:List Nat)(b:Nat):zV (es++[b])=zV es++[.pointer (some ⟨b,0,none⟩)]:=by simp[zV]
theorem Aj(es:List Nat):(zV es).length=es.length:=by simp[zV]
theorem Hi:dY prog 32 29 [.int .i64 0,.bool false]:=nA (z:=.agg ⟨[.int .i64 0,.bool false]⟩) (by kernel_rfl) (by kernel_rfl) rfl
theorem P7:dY prog 33 74 [.pointer none]:=nA (z:=.pointer none) (by kernel_rfl) (by kernel_rfl) rfl
theorem tv:dY prog 169 31 [.int .u64 0]:=nA (z:=.int .u64 0) (by kernel_rfl) (by kernel_rfl) rfl
abbrev pI(bm:Nat)(mask:Int)(pt:Option Addr)(nt kt:Nat)(pe:Option Addr)(ne ke:Nat):Obj:=.cells ⟨[.pointer (some ⟨bm,0,none⟩),.int .u64 mask,.slice pt nt kt,.slice pe ne ke]⟩ 35 (0,0)
def Br:List Int:=[18446744073709551615,0,1,64,63,4095,9223372036854775808,4032,3458764513820540928,18446744073709551615]
variable{l:List Int}{a:Option Addr}{b c k:Nat}{w:World}
theorem aBO(ht:ss w b a l c k) :
  Calls prog 65 #[.pointer (some ⟨b,0,none⟩)] w λ e w' =>
  ∃v:Nat,e=.returned (.int .u64 (Br.getD v 0))/\v<10/\SF w [b] ((b,S3 a l c (pF l k))::[]) [] [] [] w':=by refine enter func65 ntmps65 rfl rfl ht.start ?_;simp only[cC];refine cX ?_;refine J0 ?_;refine aN ((by exact Mf (λ _=>dF (cs:=Br.map (Value.int .u64)) tv Ky rfl rfl rfl rfl rfl))) (λ x3=>?_);refine aA ?_;refine aD (zL (hc:=λ w1 hw=>fN 10 (hw.tape cY fin ht.len) (by decide) (by decide))) (λ x5 h5=>?_);refine aC (mz (cs:=Br.map (Value.int .u64)) rf rf gS gB fin (by omega) (by rw[List.length_map];simp only[Br,List.length_cons,List.length_nil];omega)) rfl ?_;refine aC (ft (cs:=Br.map (Value.int .u64)) (v:=.int .u64 (Br.getD x5 0)) rf gB fin (by rw[List.getElem?_map,jA,List.getElem?_eq_getElem (by simp only[Br,List.length_cons,List.length_nil];omega)];rfl)) rfl ?_;refine J1 ?_;refine aS results65 (λ w hw=>?_);exact⟨x5,rfl,by omega,hw.bA⟩
theorem aBH(ht:ss w b a l c k) :
  Calls prog 53 #[.pointer (some ⟨b,0,none⟩)] w λ e w' =>
  ∃v:Bool,e=.returned (.bool v)/\True/\SF w [b] ((b,S3 a l c k)::[]) [] [] [] w':=by refine enter func53 ntmps53 rfl rfl ht.start ?_;simp only[cC];refine Fh ?_;refine gO [0,1,2,3,4,5,6,7,8,9,10] ?_;refine Fm ?_;refine pX ?_;refine D8 ?_;refine J7 ?_;refine aS results53 (λ w hw=>?_);exact⟨_,rfl,trivial,hw.bA⟩
end
section
structure KQ where
 ts:List dV
 es:List Nat
 pt:Option Addr
 kt:Nat
 pe:Option Addr
 ke:Nat
def Vg(dn:Bool)(rs:Rs)(bx:Nat)(ts:List dV)(es:List Nat)(q:KQ):Prop :=(dn=false/\q.es=es++[bx]/\q.ts=ts)∨(dn=true/\q.es=es/\(q.ts=ts∨(0<rs.root/\q.ts.length<=5/\q.ts=ts++[⟨rs.root,rs.ro⟩])))
section
variable{k:Cl}{bw bx bm:Nat}{x:XS}{dn:Bool}{rs:Rs}{D:List Nat}{A:Fr}{w:World}{mask:Int}{ts:List dV}{es:List Nat}{pt pe:Option Addr}{kt ke:Nat}
abbrev wL(ts:List dV)(es:List Nat)(pt:Option Addr)(kt:Nat)(pe:Option Addr)(ke:Nat):List Ow:=[⟨pt,vQ ts,kt,29,2⟩,⟨pe,zV es,ke,74,1⟩]
theorem aDV(h:SF w D ((bw,pI bm mask pt ts.length kt pe es.length ke)::xH k bx bm x dn rs) A [] (wL ts es pt kt pe ke++xW x) w) :
  SF w D [(bw,.cells ⟨[.pointer (some ⟨bm,0,none⟩),.int .u64 mask,.slice pt ts.length kt,.slice pe es.length ke]⟩ 35 (0,0)),(bx,xO k bm x dn rs),(bm,xM x)] A [] [⟨pt,vQ ts,kt,29,2⟩,⟨pe,zV es,ke,74,1⟩,⟨x.pg,aH x.got,x.kg,37,1⟩,⟨x.pm,aH x.made,x.km,37,1⟩,⟨x.pl,aH x.cel,x.kl,27,1⟩,⟨x.pe,aH x.gns,x.ke,3,1⟩,⟨x.pn,jB x.L,x.cn,47,14⟩,⟨x.pc,aH x.cs,x.cc,37,1⟩] w:=h
theorem aCi(hts:ts.length<=1000)(hes:es.length<=1000)(hs:SF w D ((bw,pI bm mask pt ts.length kt pe es.length ke)::xH k bx bm x dn rs) A [] (wL ts es pt kt pe ke++xW x) w):Calls prog 115 #[.pointer (some ⟨bw,0,none⟩),.pointer (some ⟨bx,0,none⟩)] w λ e w'=>∃q:KQ,e=.returned (.tuple #[])/\Vg dn rs bx ts es q/\SF w D ((bw,pI bm mask q.pt q.ts.length q.kt q.pe q.es.length q.ke)::xH k bx bm x dn rs) [] [] (wL q.ts q.es q.pt q.kt q.pe q.ke++xW x) w':=by
 refine enter func115 ntmps115 rfl rfl (aDV hs) ?_;simp only[cC];refine J2 ?_;refine aD (cM (hs:=xH k bx bm x dn rs) (os:=xW x) (hc:=λ w hs=>Mr hs)) (λ x6 h6=>?_);refine oD ?_;refine bD (λ c7=>?_) (λ c7=>?_)
 ·refine Jl ?_;refine dM ?_;refine J3 ?_;refine aA ?_;refine aN ((by exact Mf (λ _=>dF (cs:=zV [bx]) P7 Ky rfl rfl rfl rfl rfl))) (λ x14=>?_);(refine aN (bE.eW (fX (sz:=1) (cs:=zV es) rf rf (.tail .head) (by rw[Aj];omega) fin rfl rfl P7 rfl (by decide) gS (by omega)) vS) (λ x15=>?_);try (refine eP (λ h15=>?_)));refine O0 ?_;refine De results115 (λ w hw=>?_);first
  | exact⟨⟨ts,es++[bx],pt,kt,x15.1,x15.2⟩,rfl,.inl ⟨by simpa using c7,rfl,rfl⟩,by dsimp only[wL];rw[n8,show(es++[bx]).length=es.length+1 by simp];exact hw.bA⟩
  | exact⟨⟨ts,es,pt,kt,pe,ke⟩,rfl,.inr ⟨by simpa using c7,rfl,.inl rfl⟩,hw.bA⟩
 ·refine J2 ?_;refine aD (cM (hs:=xH k bx bm x dn rs) (os:=xW x) (hc:=λ w hs=>jw hs)) (λ x19 h19=>?_);refine aJ (λ x4=>?_);refine J5 ?_;refine Ka8 ?_;refine J3 ?_;refine En ?_;refine aA ?_;(refine eF 24 (λ g24=>?_) (λ g24=>?_)<;>refine Ka0 ?_);all_goals (refine Kb6 ?_;refine U8 ?_;refine yk ?_;refine aG ?_)
  all_goals
  refine bD (λ c31=>?_) (λ c31=>?_)
  ·try exact nv c31
   all_goals (refine eM [(0,[]),(1,[]),(2,[]),(3,[]),(4,[]),(5,[]),(6,[]),(7,[4]),(8,[]),(9,[]),(10,[]),(11,[])] ?_;refine cg ?_;refine aX ?_;refine bU (i:=6) (hq:=(aU (k:=2) (vs:=[.int .i64 rs.root,.bool rs.ro]) rf cY eE rfl rfl)) (h:=?_);refine dD (i:=7) (hq:=((by exact Mf (λ _=>dF (cs:=vQ [⟨rs.root,rs.ro⟩]) Hi Ky rfl rfl rfl rfl rfl)))) (h:=λ x39=>?_);((refine dD (i:=8) (hq:=(bE.eW (fX (sz:=2) (cs:=vQ ts) rf rf .head (by rw[tR]) fin rfl rfl Hi rfl (by decide) gS (by omega)) vS)) (h:=λ x40=>?_);try (refine eL (λ h40=>?_))));refine J88 ?_)
   all_goals
    refine De results115 (λ w hw=>?_);first
    | exact⟨⟨ts++[⟨rs.root,rs.ro⟩],es,x40.1,x40.2,pe,ke⟩,rfl,.inr ⟨by simpa using c7,rfl,.inr ⟨by omega,by show(ts++[(⟨rs.root,rs.ro⟩:dV)]).length<=5;simp;omega,rfl⟩⟩,by dsimp only[wL];rw[jh,show(ts++[(⟨rs.root,rs.ro⟩:dV)]).length=ts.length+1 by simp];exact hw.bA⟩
    | exact⟨⟨ts,es,pt,kt,pe,ke⟩,rfl,.inr ⟨by simpa using c7,rfl,.inl rfl⟩,hw.bA⟩
  ·all_goals refine aW ?_
   all_goals
    refine De results115 (λ w hw=>?_);first
    | exact⟨⟨ts,es,pt,kt,pe,ke⟩,rfl,.inr ⟨by simpa using c7,rfl,.inl rfl⟩,hw.bA⟩
theorem w5(hts:ts.length<=1000)(hes:es.length<=1000)(hs:SF w D [(bw,pI bm mask pt ts.length kt pe es.length ke),(bx,xO k bm x dn rs),(bm,xM x)] A [] [⟨pt,vQ ts,kt,29,2⟩,⟨pe,zV es,ke,74,1⟩,⟨x.pg,aH x.got,x.kg,37,1⟩,⟨x.pm,aH x.made,x.km,37,1⟩,⟨x.pl,aH x.cel,x.kl,27,1⟩,⟨x.pe,aH x.gns,x.ke,3,1⟩,⟨x.pn,jB x.L,x.cn,47,14⟩,⟨x.pc,aH x.cs,x.cc,37,1⟩] w):Calls prog 115 #[.pointer (some ⟨bw,0,none⟩),.pointer (some ⟨bx,0,none⟩)] w λ e w'=>∃q:KQ,e=.returned (.tuple #[])/\Vg dn rs bx ts es q/\SF w D [(bw,pI bm mask q.pt q.ts.length q.kt q.pe q.es.length q.ke),(bx,xO k bm x dn rs),(bm,xM x)] [] [] [⟨q.pt,vQ q.ts,q.kt,29,2⟩,⟨q.pe,zV q.es,q.ke,74,1⟩,⟨x.pg,aH x.got,x.kg,37,1⟩,⟨x.pm,aH x.made,x.km,37,1⟩,⟨x.pl,aH x.cel,x.kl,27,1⟩,⟨x.pe,aH x.gns,x.ke,3,1⟩,⟨x.pn,jB x.L,x.cn,47,14⟩,⟨x.pc,aH x.cs,x.cc,37,1⟩] w':=aCi hts hes hs
end
end
section
def nq:Nd:={Nd.zero with kind:=3}
def aBV(g:Int):Nd:={Nd.zero with kind:=2,gen:=g}
def L4(x y:AX):List aR:=[fG,fG]++[pW nq [] [] 0 x]++[pW (aBV 1) [] [] 1 y]
theorem Gj{x y:AX}:∀f∈aP (L4 x y),f.2=[]:=by intro f hf;simp[aP,L4,aR.fr,fG,pW,aH,dI] at hf;rcases hf with hf|hf|hf|hf|hf|hf|hf|hf<;>rw[hf]
theorem Ph{w:World}{D:List Nat}{b:Nat}{acc:Int}{pn:Option Addr}{cn:Nat}{A:Fr}(hs:SF w D [(b,mO [fG,fG] [] 0 acc pn cn none 0)] A [] (mW [fG,fG] [] pn cn none 0) w) :
  Calls prog 66 #[.pointer (some ⟨b,0,none⟩)] w λ e w'=>∃q:AX×AX×Option Addr×Nat,e=.returned (.agg ⟨[.int .i64 3,.bool false]⟩)/\True /\
   SF w D [(b,mO (L4 q.1 q.2.1) [0,3,4] 1 acc q.2.1.pn q.2.1.cn q.2.2.1 q.2.2.2)] [] (aP (L4 q.1 q.2.1)) (mW (L4 q.1 q.2.1) [0,3,4] q.2.1.pn q.2.1.cn q.2.2.1 q.2.2.2) w':=by refine enter func66 ntmps66 rfl rfl (zI hs) ?_;simp only[cC];refine J0 ?_;refine aJ (λ x2=>?_);refine aG ?_;refine J2 ?_;refine bN ?_;refine aD (cM (A0:=[(none,aH []),(none,dI [])]) (hc:=λ w hs=>H5 (L:=[fG,fG]) (cs:=[]) (n:=nq) (xs:=[]) (ys:=[]) 0 hs rfl rfl (by decide) (by decide) (by decide) (by decide))) (λ x7 h7=>?_);refine Ka4 ?_;refine aD (cM (hc:=λ w hs=>Lf (L:=[fG,fG]++[pW nq [] [] 0 x7]) (cs:=[0]) hs)) (λ x9 h9=>?_);refine zO ?_;refine aA ?_;refine bN ?_;refine aA ?_;refine aD (cM (A0:=[(none,aH []),(none,dI [])]) (hc:=λ w hs=>H5 (L:=[fG,fG]++[pW nq [] [] 0 x7]) (cs:=[0]) (n:=aBV 1) (xs:=[]) (ys:=[]) 3 hs rfl rfl (by decide) (by decide) (by simp) (by decide))) (λ x15 h15=>?_);refine aD (cM (hc:=λ w hs=>mA (L:=L4 x7 x15) (cs:=[0,3]) 4 hs (by decide))) (λ x16 h16=>?_);refine xX ?_;refine aY results66 (λ w hw=>?_);exact⟨(x7,x15,x16.1,x16.2),rfl,trivial,(hw.fA (λ f hf=>.inl (Gj f hf))).v4⟩
end
section
section
variable{S:List (Nat×Value)}{w0 w:World}{M:List Nat}{H:List (Nat×Obj)}{A F:Fr}{O:List Ow}{ty:TypeId}{pos:String}{af:Array Edge}{gd:Option (Nat×Bool)}{X:Type}{V:X->Value}
theorem cMH{φ:X->Prop}{hs H':List (Nat×Obj)}{os O':List Ow}{hs' Hc H1:X->List (Nat×Obj)}{os' Oc O1:X->List Ow}{Fc F1:X->Fr}{A0:Fr}{is js:List Nat}{f:FuncId}{xs:List Operand}{at_:Array TypeId}{vs:List Value}{dst:Option Nat}
  (ha:rF S xs=vs:=by(repeat (first|exact cN _|(apply cA;focus ((conv=>{lhs;whnf});try exact rfl))));first|done|fail) (hp:plain prog f=true:=by kernel_rfl)
  (hc:∀w,SF w (Ks hs os) hs A0 [] os w->Calls prog f ⟨vs⟩ w λ e w'=>∃x,e=.returned (V x)/\φ x/\SF w (Ks hs os) (hs' x++Hc x) [] (Fc x) (os' x++Oc x) w')
  (hH:oG H is hs H':=by(repeat (first|exact oG.nil|(apply oG.cons;(focus ((repeat (first|exact B8.head|apply B8.tail));done));simp only[sS])));first|done|fail)
  (hO:oG O js os O':=by(repeat (first|exact oG.nil|(apply oG.cons;(focus ((repeat (first|exact B8.head|apply B8.tail));done));simp only[sS])));first|done|fail)
  (hA:bG A F O' A0:=by(repeat (first|exact bG.of (λ _ h=>Or.inr (Or.inl h))|exact bG.nil|(refine bG.cons (by first|exact Or.inl rfl|exact Or.inr (Or.inr (Or.inl (by simp)))|exact Or.inr (Or.inl (by simp))|exact Or.inr (Or.inr (Or.inr (by simp)))) ?_)));first|done|fail)
  (hl1:∀x,is.length=(hs' x).length:=by intro x;exact rfl) (hl2:∀x,js.length=(os' x).length:=by intro x;exact rfl)
  (hH1:∀x,Hc x++kG is (hs' x) H'=H1 x:=by intro x;first|(simp only[kG,uE,List.nil_append,List.cons_append];exact rfl)|exact rfl) (hF1:∀x,Fc x++F=F1 x:=by intro x;first|(simp only[List.nil_append,List.cons_append];exact rfl)|exact rfl) (hO1:∀x,Oc x++kG js (os' x) O'=O1 x:=by intro x;simp only[kG,uE,mW,List.nil_append,List.cons_append];exact rfl) :
  bE prog S (SF w0 M H A F O) ⟨dst,.call {callee:=.value (.func f),args:=⟨xs⟩,argTypes:=at_},ty,pos,af,gd⟩ X V (λ x w=>φ x/\SF w0 M (H1 x) A (F1 x) (O1 x) w) :=
 iE (oZ hp ha) λ w hw=>(hc w (hw.sX hH hO hA)).mono λ _ _ ⟨x,he,hx,hs⟩=>⟨x,he,hx,by have:=hw.Bq (hs':=hs' x) (Hc:=Hc x) (os':=os' x) (Oc:=Oc x) hH hO hs (hl1 x) (hl2 x);rw[<- hH1 x,<- hF1 x,<- hO1 x];exact this⟩
end
end
end Go.Proofs.YtbajmaoegmbfgaaGreat
namespace Go.Ct
open Go Go.RowKit
section
theorem Rc.trans{i j:Nat}{t t1 t2:Tr}{s s1 s2:Mm}(h1:Rc i t s t1 s1)(h2:Rc j t1 s1 t2 s2):Rc (i+j) t s t2 s2:=by
 induction h2 with
 | refl t s=>exact h1
 | eD _ hs ih=>exact .eD (ih h1) hs
 | loud _ hs ih=>exact .loud (ih h1) hs
def Sz(x:XS)(B:Nat):Prop:=x.L.length<=B/\x.cs.length<=B/\x.gen<=B
variable{T R':Tr}{x x':XS}{j N B:Nat}
theorem Ds{R:Tr}{dn:Bool}{rs:Rs}(h:si T x dn rs R)(hd:dn=false)(hT:bV T N 64)(hN:x.got.length+1<=N)(hr:Rc j R x.mm R' x'.mm)(hj:j<=1)(hs:Sz x B):Sz x' (B+128):=by
 rcases h.O4 with⟨e,_⟩|⟨_,e⟩;·rw[hd] at e;cases e
 ·obtain⟨c,h1,_,_⟩:=h.wk.wC (Nat.le_refl 64) hT (by omega);obtain⟨c',h2,h3,h4,h5,h6,h7⟩:=hr.wC (Nat.le_refl 64) (Q6 e h1 (by omega)) (by omega);obtain⟨s1,s2,s3⟩:=hs;simp only[XS.mm,List.length_map] at h5 h6 h7;exact⟨by omega,by omega,by omega⟩
theorem G8(hT:bV T N 64)(hr:Rc j T x.mm R' x'.mm)(hj:j<=0)(hs:Sz x B):Sz x' (B+64):=by obtain⟨c',h2,h3,h4,h5,h6,h7⟩:=hr.wC (Nat.le_refl 64) hT (by omega);obtain⟨s1,s2,s3⟩:=hs;simp only[XS.mm,List.length_map] at h5 h6 h7;exact⟨by omega,by omega,by omega⟩
end
end Go.Ct
namespace Go.Proofs.YtbajmaoegmbfgaaGreat
open Go Go.RowKit Go.Ct
section
noncomputable def T0 (k:Cl) (m:Nat):Tr:=kS k (jN k.key m) 1073741824
theorem mK(k:Cl)(m:Nat){n:Nat}(h:n<1073741824):bV (T0 k m) n 64:=K4 h
def xE(k:Cl)(bm b:Nat)(x:XS)(dn:Bool)(rs:Rs):List (Nat×Obj):=if dn=true then [] else [(b,xO k bm x false rs)]
def xE4(x:XS)(dn:Bool):List Ow:=if dn=true then [] else [⟨x.pg,aH x.got,x.kg,37,1⟩,⟨x.pm,aH x.made,x.km,37,1⟩,⟨x.pl,aH x.cel,x.kl,27,1⟩,⟨x.pe,aH x.gns,x.ke,3,1⟩]
structure RY where
 i:Nat
 x:XS
 N:List aR
 dn:Bool
 rs:Rs
 R:Tr
structure Jq(k:Cl)(m:Nat)(x0:XS)(B:Nat)(y:RY):Prop where
 ex:si (T0 k m) y.x y.dn y.rs y.R
 rc:∃j,Rc j (T0 k m) x0.mm y.R y.x.mm
 ext:y.x.L=x0.L++y.N
 lc:x0.cs.length<=y.x.cs.length
 gl:y.x.got.length<=y.i
 sz:Sz y.x (B+64+128*y.i)
variable{k:Cl}{m B:Nat}{x0 x':XS}{dn:Bool}{rs:Rs}
theorem Jq.uz{N:Nat}{N':List aR}(hN:N<1073741824)(h:tX (T0 k m) (T0 k m) 0 0 Rs.zero x0 x' N' dn rs)(hs:Sz x0 B):∃R,Jq k m x0 B ⟨0,x',N',dn,rs,R⟩:=by obtain⟨R',j,h1,h2,h3,h4,h5,h6⟩:=h.exI;exact⟨R',h3,⟨j,h4⟩,h5,h6,by have:=h.gl;show x'.got.length<=0;omega,G8 (mK k m hN) h4 h1 hs⟩
theorem Jq.step{y:RY}{N':List aR}(hi:Jq k m x0 B y)(hd:y.dn=false)(hB:y.i<1073741822)(h:tX (T0 k m) y.R 1 (y.x.got.length+1) y.rs y.x x' N' dn rs):∃R,Jq k m x0 B ⟨y.i+1,x',y.N++N',dn,rs,R⟩:=by obtain⟨R',j,h1,h2,h3,h4,h5,h6⟩:=h.exI;obtain⟨j0,hj0⟩:=hi.rc;have hg:=hi.gl;refine⟨R',h3,⟨j0+j,hj0.trans h4⟩,by show x'.L=_;rw[h5,hi.ext,List.append_assoc],Nat.le_trans hi.lc h6,by have:=h.gl;show x'.got.length<=y.i+1;omega,?_⟩;have:=Ds hi.ex hd (mK k m (n:=y.x.got.length+1) (by omega)) (Nat.le_refl _) h4 h1 hi.sz;rw[show B+64+128*(y.i+1)=B+64+128*y.i+128 by omega];exact this
section
variable{k:Cl}{bw bm m B:Nat}{L:List aR}{cs:List Int}{gen acc:Int}{pn pc:Option Addr}{cn cc:Nat}{D:List Nat}{A:Fr}{w:World}{mask:Int}{ts:List dV}{es:List Nat}{pt pe:Option Addr}{kt ke:Nat}
theorem Pk(hsz:L.length<=137438953472/\cs.length<=137438953472/\gen<=137438953472)(hk:qb k)(hm:m<18446744073709551616)(em:k.mask=(m:Int))(ht:k.t.root<=9223372036854775807)(ha:k.a<=L.length)(hb:k.b<=L.length)(hnn:k.n<=L.length)(hA:∀f∈aP L,f∈A)(ok:(XS.new L cs gen acc pn cn pc cc).Ok)(hs:SF w D [(bm,mO L cs gen acc pn cn pc cc)] A [] [⟨pn,jB L,cn,47,14⟩,⟨pc,aH cs,cc,37,1⟩] w):Calls Tryz.prog 49 #[.pointer (some ⟨bm,0,none⟩),.agg ⟨S5 k⟩] w λ e w'=>∃q:Nat×XS×List aR×Bool×Rs,e=.returned (.pointer (some ⟨q.1,0,none⟩))/\tX (T0 k m) (T0 k m) 0 0 Rs.zero (XS.new L cs gen acc pn cn pc cc) q.2.1 q.2.2.1 q.2.2.2.1 q.2.2.2.2/\SF w D ([(bm,xM q.2.1)]++[(q.1,xO k bm q.2.1 q.2.2.2.1 q.2.2.2.2)]) [] (aP q.2.2.1) ([⟨q.2.1.pn,jB q.2.1.L,q.2.1.cn,47,14⟩,⟨q.2.1.pc,aH q.2.1.cs,q.2.1.cc,37,1⟩]++[⟨q.2.1.pg,aH q.2.1.got,q.2.1.kg,37,1⟩,⟨q.2.1.pm,aH q.2.1.made,q.2.1.km,37,1⟩,⟨q.2.1.pl,aH q.2.1.cel,q.2.1.kl,27,1⟩,⟨q.2.1.pe,aH q.2.1.gns,q.2.1.ke,3,1⟩]) w' :=(vg (N:=0) (n:=1073741824) (m:=m) (mK k m (by decide)) (by decide) hsz hk (Nat.le_refl _) hm em ht ha hb hnn hA ok hs).mono λ _ _ ⟨q,e,h,hw⟩=>⟨q,e,h,hw.perm (List.Perm.swap _ _ _) (List.perm_append_comm (l₁:=[_,_]) (l₂:=[_,_,_,_]))⟩
set_option maxHeartbeats 1000000 in
theorem aBJ(steps:Nat)(hst:steps<=1048576)(hB:B<=100000000000)(hsz:Sz (XS.new L cs gen acc pn cn pc cc) B)(hk:qb k)(hm:m<18446744073709551616)(em:k.mask=(m:Int))(ht:k.t.root<=9223372036854775807)(ha:k.a=0)(hb:k.b=0)(hnn:k.n=0)(hA:∀f∈aP L,f∈A)(ok:(XS.new L cs gen acc pn cn pc cc).Ok)(hts:ts.length<=1000)(hes:es.length<=1000)
  (hs:SF w D [(bw,pI bm mask pt ts.length kt pe es.length ke),(bm,mO L cs gen acc pn cn pc cc)] A [] [⟨pt,vQ ts,kt,29,2⟩,⟨pe,zV es,ke,74,1⟩,⟨pn,jB L,cn,47,14⟩,⟨pc,aH cs,cc,37,1⟩] w) :
  Calls Tryz.prog 67 #[.pointer (some ⟨bw,0,none⟩),.agg ⟨S5 k⟩,.int .i64 (steps:Int)] w λ e w'=>∃q:Nat×RY×KQ,e=.returned (.tuple #[])/\(Jq k m (XS.new L cs gen acc pn cn pc cc) B q.2.1/\q.2.1.i<=steps/\Vg q.2.1.dn q.2.1.rs q.1 ts es q.2.2) /\
   SF w D (xE k bm q.1 q.2.1.x q.2.1.dn q.2.1.rs++[(bw,pI bm mask q.2.2.pt q.2.2.ts.length q.2.2.kt q.2.2.pe q.2.2.es.length q.2.2.ke),(bm,xM q.2.1.x)]) [] (aP q.2.1.N) (xE4 q.2.1.x q.2.1.dn++[⟨q.2.2.pt,vQ q.2.2.ts,q.2.2.kt,29,2⟩,⟨q.2.2.pe,zV q.2.2.es,q.2.2.ke,74,1⟩,⟨q.2.1.x.pn,jB q.2.1.x.L,q.2.1.x.cn,47,14⟩,⟨q.2.1.x.pc,aH q.2.1.x.cs,q.2.1.x.cc,37,1⟩]) w':=by
 have hL:(0:Int)<=L.length:=bM _;have hsz2:=hsz;obtain⟨s1,s2,s3⟩:=hsz2
 simp only[XS.new] at s1 s2 s3;refine enter Tryz.func67 Tryz.ntmps67 rfl rfl hs ?_;simp only[cC];refine J0 ?_;refine bL (λ x4=>?_);refine S8 ?_;refine gO [0,1,2,3,4,5,6] ?_;refine ue ?_;refine bW ?_;refine bK (i:=5) (hq:=(cMH (hs:=[(bm,mO L cs gen acc pn cn pc cc)]) (os:=[⟨pn,jB L,cn,47,14⟩,⟨pc,aH cs,cc,37,1⟩]) (A0:=aP L) (hA:=E0k) (hc:=λ w hs=>Pk (m:=m) ⟨by omega,by omega,by omega⟩ hk hm em ht (by omega) (by omega) (by omega) (λ f hf=>hf) ok hs))) (h:=λ x13 h13=>?_);refine J7 ?_;refine aV ?_;refine E9 ?_;obtain⟨R0,hR0⟩:=Jq.uz (B:=B) (N:=0) (by decide) h13 hsz;refine nB [7,14,15,16,17,18,19,20,21,22,23,24,25] (λ y:RY=>[(7,.int .i64 ((y.i:Nat):Int))]) (λ y=>Jq k m (XS.new L cs gen acc pn cn pc cc) B y/\y.i<=steps) (λ y=>[(x13.1,xO k bm y.x y.dn y.rs),(x4,.cells ⟨S5 k⟩ 89 (0,0)),(bw,pI bm mask pt ts.length kt pe es.length ke),(bm,xM y.x)]) (λ y=>aP y.N) (λ y=>[⟨y.x.pg,aH y.x.got,y.x.kg,37,1⟩,⟨y.x.pm,aH y.x.made,y.x.km,37,1⟩,⟨y.x.pl,aH y.x.cel,y.x.kl,27,1⟩,⟨y.x.pe,aH y.x.gns,y.x.ke,3,1⟩,⟨pt,vQ ts,kt,29,2⟩,⟨pe,zV es,ke,74,1⟩,⟨y.x.pn,jB y.x.L,y.x.cn,47,14⟩,⟨y.x.pc,aH y.x.cs,y.x.cc,37,1⟩]) (λ y=>steps-y.i) (⟨0,x13.2.1,x13.2.2.1,x13.2.2.2.1,x13.2.2.2.2,R0⟩) (⟨hR0,Nat.zero_le _⟩) (λ y f hx=>?_) (hw0:=λ w hw=>by rw[List.append_nil] at hw;exact hw.v6);refine K0a ?_;obtain⟨hi,his⟩:=hx;have hsx:=hi.sz;obtain⟨z1,z2,z3⟩:=hsx;have hgl:=hi.gl;refine kF ?_;refine aD (cM (hs:=xH k x13.1 bm y.x y.dn y.rs) (os:=xW y.x) (hc:=λ w hs=>Mr hs)) (λ x15 h15=>?_);refine D5 ?_;(refine eF 17 (λ g17=>?_) (λ g17=>?_)<;>refine Ka0 ?_);all_goals (refine Ka0 ?_;refine yk ?_;refine aG ?_)
 all_goals
 refine bD (λ c21=>?_) (λ c21=>?_)
 ·try exact nv c21
  all_goals (refine sG ?_;refine xN ?_;refine aD (cM (hs:=xH k x13.1 bm y.x y.dn y.rs) (os:=xW y.x) (A0:=aP y.x.L) (hA:=bG.of λ f hf=>by rw[hi.ext,cU] at hf;rcases List.mem_append.1 hf with hf|hf;exact .inr (.inl (hA f hf));exact .inr (.inr (.inl hf))) (hc:=λ w hs=>Uf (N:=y.x.got.length+1) (n:=1073741824) (m:=m) (mK k m (by omega)) (by omega) rfl ⟨by omega,by omega,by omega⟩ hi.ex hk (Nat.le_refl _) hm em ht (by rw[ha];exact bM _) (by rw[hb];exact bM _) (by rw[hnn];exact bM _) (λ f hf=>hf) hs)) (λ x25 h25=>?_);refine aG ?_;refine Kb2 ?_)
  all_goals
   have hdf:y.dn=false:=by simp_all
   have hq:tX (T0 k m) y.R 1 (y.x.got.length+1) y.rs y.x x25.1 x25.2.1 x25.2.2.1 x25.2.2.2:=by rcases h25 with h|h;rw[hdf] at h;cases h.1;exact h.2
   obtain⟨R1,hR1⟩:=hi.step hdf (by omega) hq;refine iX (⟨y.i+1,x25.1,y.N++x25.2.1,x25.2.2.1,x25.2.2.2,R1⟩) ?_ (hw1:=E0q);·exact⟨hR1,by show y.i+1<=steps;omega⟩
 ·all_goals (refine bS rfl ?_;refine Jl ?_;refine aD (cM (hs:=[(bw,pI bm mask pt ts.length kt pe es.length ke),(x13.1,xO k bm y.x y.dn y.rs),(bm,xM y.x)]) (os:=[⟨pt,vQ ts,kt,29,2⟩,⟨pe,zV es,ke,74,1⟩,⟨y.x.pg,aH y.x.got,y.x.kg,37,1⟩,⟨y.x.pm,aH y.x.made,y.x.km,37,1⟩,⟨y.x.pl,aH y.x.cel,y.x.kl,27,1⟩,⟨y.x.pe,aH y.x.gns,y.x.ke,3,1⟩,⟨y.x.pn,jB y.x.L,y.x.cn,47,14⟩,⟨y.x.pc,aH y.x.cs,y.x.cc,37,1⟩]) (hc:=λ w hs=>w5 hts hes hs)) (λ x28 h28=>?_);refine aG ?_)
  all_goals
   refine De Tryz.results67 (λ w hw=>?_);rcases y with⟨i,x,N,dn,rs,R⟩;cases dn with
   | true=>exact⟨(x13.1,⟨i,x,N,true,rs,R⟩,x28),rfl,⟨hi,his,h28⟩,hw.v4⟩
   | false=>exact⟨(x13.1,⟨i,x,N,false,rs,R⟩,x28),rfl,⟨hi,his,h28⟩,hw.v4⟩
end
end
end Go.Proofs.YtbajmaoegmbfgaaGreat
