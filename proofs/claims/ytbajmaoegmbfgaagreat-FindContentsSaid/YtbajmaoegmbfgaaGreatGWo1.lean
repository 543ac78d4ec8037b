/- Merged. -/
import Derived.Test.YtbajmaoegmbfgaaGreatGEx23
import Derived.Test.YtbajmaoegmbfgaaGreatGPa1
import Derived.Test.YtbajmaoegmbfgaaGreatGJoin
import Derived.Test.YtbajmaoegmbfgaaGreatGArN
import Derived.Test.YtbajmaoegmbfgaaGreatGEx18
import Derived.Test.YtbajmaoegmbfgaaGreatGRn1
set_option linter.unusedSimpArgs false
set_option linter.unusedVariables false
namespace Go.Ct
open Go Go.RowKit
section
section
variable{P:Program}{S:List (Nat×Value)}{d:Nat}{ty t t' e:TypeId}{pos:String}{af:Array Edge}{gd:Option (Nat×Bool)}{x y:Operand}{w0 w:World}{M:List Nat}{H:List (Nat×Obj)}{A F:Fr}{O:List Ow}{a:Option Addr}
variable{cs:List Value}{m c k:Nat}
theorem Xg{kk:IntKind}(hx:ev S x=.slice a m c)(hy:ev S y=.int kk ((k:Nat):Int))(ht:P.underlying t=some (.slice e))(hs:one P e=true)(hf:sD A F O a cs)(h1:k<m)(h2:k<cs.length) :
  aM P S (SF w0 M H A F O) ⟨some d,.indexAddr t x y,ty,pos,af,gd⟩ (.pointer (some ⟨dG a,eO a+k,none⟩)):=⟨λ w hw =>
 (A8 (G:=SF w0 M H A F O) hx hy ht hs ((hw.cl hf).ptr (by omega)) h1).run w hw⟩
theorem Xk{q:Nat}{v:Value}(hx:ev S x=.pointer (some ⟨dG a,eO a+q,none⟩))(ht:one P t=true)(hf:sD A F O a cs)(hq:cs[q]?=some v) :
  aM P S (SF w0 M H A F O) ⟨some d,.load t x,ty,pos,af,gd⟩ v:=qF hx ht (λ w hw=>hw.cl hf) hq
theorem ob{kk:IntKind}(hx:ev S x=.slice a m c)(hy:ev S y=.int kk ((k:Nat):Int))(ht:P.underlying t=some (.slice e))(hs:kC P e 2=true)(hf:sD A F O a cs)(h1:k<m)(h2:2*k<cs.length) :
  aM P S (SF w0 M H A F O) ⟨some d,.indexAddr t x y,ty,pos,af,gd⟩ (.pointer (some ⟨dG a,eO a+2*k,none⟩)):=⟨λ w hw =>
 (Sv (G:=SF w0 M H A F O) hx hy ht hs ((hw.cl hf).ptr (by omega)) h1).run w hw⟩
end
end
end Go.Ct
namespace Go.Proofs.YtbajmaoegmbfgaaGreat
open Go.Proofs.Tryz
open Go Go.RowKit Go.Ct
section
def uA(ts:List dW):List Value:=ts.flatMap λ t=>[.int .i64 t.root,.bool t.ro]
def yY(es:List Nat):List Value:=es.map λ b=>.pointer (some ⟨b,0,none⟩)
theorem rH:∀ts:List dW,(uA ts).length=ts.length*2
 | []=>rfl
 | t::ts=>by have:=rH ts;simp only[uA,List.flatMap_cons,List.length_append,List.length_cons,List.length_nil] at this ⊢;omega
theorem mv(ts:List dW)(t:dW):uA (ts++[t])=uA ts++[.int .i64 t.root,.bool t.ro]:=by simp[uA]
theorem mg(es:List Nat)(b:Nat):yY (es++[b])=yY es++[.pointer (some ⟨b,0,none⟩)]:=by simp[yY]
theorem Ax(es:List Nat):(yY es).length=es.length:=by simp[yY]
theorem He:dX prog 32 29 [.int .i64 0,.bool false]:=lU (z:=.agg ⟨[.int .i64 0,.bool false]⟩) (by kernel_rfl) (by kernel_rfl) rfl
theorem Qp:dX prog 33 74 [.pointer none]:=lU (z:=.pointer none) (by kernel_rfl) (by kernel_rfl) rfl
theorem va:dX prog 169 31 [.int .u64 0]:=lU (z:=.int .u64 0) (by kernel_rfl) (by kernel_rfl) rfl
abbrev oY(bm:Nat)(mask:Int)(pt:Option Addr)(nt kt:Nat)(pe:Option Addr)(ne ke:Nat):Obj:=.cells ⟨[.pointer (some ⟨bm,0,none⟩),.int .u64 mask,.slice pt nt kt,.slice pe ne ke]⟩ 35 (0,0)
def Bm:List Int:=[18446744073709551615,0,1,64,63,4095,9223372036854775808,4032,3458764513820540928,18446744073709551615]
variable{l:List Int}{a:Option Addr}{b c k:Nat}{w:World}
theorem aBC(ht:v8 w b a l c k) :
  Calls prog 65 #[.pointer (some ⟨b,0,none⟩)] w λ e w' =>
  ∃v:Nat,e=.returned (.int .u64 (Bm.getD v 0))/\v<10/\SF w [b] ((b,U5 a l c (pN l k))::[]) [] [] [] w':=by refine enter func65 ntmps65 rfl rfl ht.start ?_;simp only[cC];refine cU ?_;refine J0 ?_;refine aP ((by exact Kk (λ _=>cW (cs:=Bm.map (Value.int .u64)) va Kg rfl rfl rfl rfl rfl))) (λ x3=>?_);refine aA ?_;refine aD (zB (hc:=λ w1 hw=>fO 10 (hw.tape cY fin ht.len) (by decide) (by decide))) (λ x5 h5=>?_);refine aC (Xg (cs:=Bm.map (Value.int .u64)) rf rf gS fW fin (by omega) (by rw[List.length_map];simp only[Bm,List.length_cons,List.length_nil];omega)) rfl ?_;refine aC (Xk (cs:=Bm.map (Value.int .u64)) (v:=.int .u64 (Bm.getD x5 0)) rf fW fin (by rw[List.getElem?_map,iX,List.getElem?_eq_getElem (by simp only[Bm,List.length_cons,List.length_nil];omega)];rfl)) rfl ?_;refine J1 ?_;refine aS results65 (λ w hw=>?_);exact⟨x5,rfl,by omega,hw.bB⟩
theorem aCh(ht:v8 w b a l c k) :
  Calls prog 53 #[.pointer (some ⟨b,0,none⟩)] w λ e w' =>
  ∃v:Bool,e=.returned (.bool v)/\True/\SF w [b] ((b,U5 a l c k)::[]) [] [] [] w':=by refine enter func53 ntmps53 rfl rfl ht.start ?_;simp only[cC];refine Je ?_;refine gH [0,1,2,3,4,5,6,7,8,9,10] ?_;refine Fl ?_;refine qB ?_;refine Ec ?_;refine J7 ?_;refine aS results53 (λ w hw=>?_);exact⟨_,rfl,trivial,hw.bB⟩
end
section
structure KQ where
 ts:List dW
 es:List Nat
 pt:Option Addr
 kt:Nat
 pe:Option Addr
 ke:Nat
def Tj(dn:Bool)(rs:Rs)(bx:Nat)(ts:List dW)(es:List Nat)(q:KQ):Prop :=(dn=false/\q.es=es++[bx]/\q.ts=ts)∨(dn=true/\q.es=es/\(q.ts=ts∨(0<rs.root/\q.ts.length<=5/\q.ts=ts++[⟨rs.root,rs.ro⟩])))
section
variable{k:Cl}{bw bx bm:Nat}{x:XS}{dn:Bool}{rs:Rs}{D:List Nat}{A:Fr}{w:World}{mask:Int}{ts:List dW}{es:List Nat}{pt pe:Option Addr}{kt ke:Nat}
abbrev wL(ts:List dW)(es:List Nat)(pt:Option Addr)(kt:Nat)(pe:Option Addr)(ke:Nat):List Ow:=[⟨pt,uA ts,kt,29,2⟩,⟨pe,yY es,ke,74,1⟩]
theorem aD9(h:SF w D ((bw,oY bm mask pt ts.length kt pe es.length ke)::xH k bx bm x dn rs) A [] (wL ts es pt kt pe ke++xW x) w) :
  SF w D [(bw,.cells ⟨[.pointer (some ⟨bm,0,none⟩),.int .u64 mask,.slice pt ts.length kt,.slice pe es.length ke]⟩ 35 (0,0)),(bx,xO k bm x dn rs),(bm,xM x)] A [] [⟨pt,uA ts,kt,29,2⟩,⟨pe,yY es,ke,74,1⟩,⟨x.pg,aH x.got,x.kg,37,1⟩,⟨x.pm,aH x.made,x.km,37,1⟩,⟨x.pl,aH x.cel,x.kl,27,1⟩,⟨x.pe,aH x.gns,x.ke,3,1⟩,⟨x.pn,iH x.L,x.cn,47,14⟩,⟨x.pc,aH x.cs,x.cc,37,1⟩] w:=h
theorem aBn(hts:ts.length<=1000)(hes:es.length<=1000)(hs:SF w D ((bw,oY bm mask pt ts.length kt pe es.length ke)::xH k bx bm x dn rs) A [] (wL ts es pt kt pe ke++xW x) w):Calls prog 115 #[.pointer (some ⟨bw,0,none⟩),.pointer (some ⟨bx,0,none⟩)] w λ e w'=>∃q:KQ,e=.returned (.tuple #[])/\Tj dn rs bx ts es q/\SF w D ((bw,oY bm mask q.pt q.ts.length q.kt q.pe q.es.length q.ke)::xH k bx bm x dn rs) [] [] (wL q.ts q.es q.pt q.kt q.pe q.ke++xW x) w':=by
 refine enter func115 ntmps115 rfl rfl (aD9 hs) ?_;simp only[cC];refine J2 ?_;refine aD (cM (hs:=xH k bx bm x dn rs) (os:=xW x) (hc:=λ w hs=>N7 hs)) (λ x6 h6=>?_);refine oG ?_;refine bD (λ c7=>?_) (λ c7=>?_)
 ·refine Km ?_;refine dO ?_;refine J3 ?_;refine aA ?_;refine aP ((by exact Kk (λ _=>cW (cs:=yY [bx]) Qp Kg rfl rfl rfl rfl rfl))) (λ x14=>?_);(refine aP (bG.eM (gA (sz:=1) (cs:=yY es) rf rf (.tail .head) (by rw[Ax];omega) fin rfl rfl Qp rfl (by decide) gS (by omega)) vS) (λ x15=>?_);try (refine eP (λ h15=>?_)));refine Pd ?_;refine Cp results115 (λ w hw=>?_);first
  | exact⟨⟨ts,es++[bx],pt,kt,x15.1,x15.2⟩,rfl,.inl ⟨by simpa using c7,rfl,rfl⟩,by dsimp only[wL];rw[mg,show(es++[bx]).length=es.length+1 by simp];exact hw.bB⟩
  | exact⟨⟨ts,es,pt,kt,pe,ke⟩,rfl,.inr ⟨by simpa using c7,rfl,.inl rfl⟩,hw.bB⟩
 ·refine J2 ?_;refine aD (cM (hs:=xH k bx bm x dn rs) (os:=xW x) (hc:=λ w hs=>oj hs)) (λ x19 h19=>?_);refine aJ (λ x4=>?_);refine J5 ?_;refine Ka6 ?_;refine J3 ?_;refine Eo ?_;refine aA ?_;(refine eE 24 (λ g24=>?_) (λ g24=>?_)<;>refine Ka0 ?_);all_goals (refine Kb7 ?_;refine Ts ?_;refine xz ?_;refine aG ?_)
  all_goals
  refine bD (λ c31=>?_) (λ c31=>?_)
  ·try exact nv c31
   all_goals (refine eI [(0,[]),(1,[]),(2,[]),(3,[]),(4,[]),(5,[]),(6,[]),(7,[4]),(8,[]),(9,[]),(10,[]),(11,[])] ?_;refine dj ?_;refine aY ?_;refine bU (i:=6) (hq:=(aU (k:=2) (vs:=[.int .i64 rs.root,.bool rs.ro]) rf cY eD rfl rfl)) (h:=?_);refine dB (i:=7) (hq:=((by exact Kk (λ _=>cW (cs:=uA [⟨rs.root,rs.ro⟩]) He Kg rfl rfl rfl rfl rfl)))) (h:=λ x39=>?_);((refine dB (i:=8) (hq:=(bG.eM (gA (sz:=2) (cs:=uA ts) rf rf .head (by rw[rH]) fin rfl rfl He rfl (by decide) gS (by omega)) vS)) (h:=λ x40=>?_);try (refine eK (λ h40=>?_))));refine J88 ?_)
   all_goals
    refine Cp results115 (λ w hw=>?_);first
    | exact⟨⟨ts++[⟨rs.root,rs.ro⟩],es,x40.1,x40.2,pe,ke⟩,rfl,.inr ⟨by simpa using c7,rfl,.inr ⟨by omega,by show(ts++[(⟨rs.root,rs.ro⟩:dW)]).length<=5;simp;omega,rfl⟩⟩,by dsimp only[wL];rw[mv,show(ts++[(⟨rs.root,rs.ro⟩:dW)]).length=ts.length+1 by simp];exact hw.bB⟩
    | exact⟨⟨ts,es,pt,kt,pe,ke⟩,rfl,.inr ⟨by simpa using c7,rfl,.inl rfl⟩,hw.bB⟩
  ·all_goals refine aW ?_
   all_goals
    refine Cp results115 (λ w hw=>?_);first
    | exact⟨⟨ts,es,pt,kt,pe,ke⟩,rfl,.inr ⟨by simpa using c7,rfl,.inl rfl⟩,hw.bB⟩
theorem yl(hts:ts.length<=1000)(hes:es.length<=1000)(hs:SF w D [(bw,oY bm mask pt ts.length kt pe es.length ke),(bx,xO k bm x dn rs),(bm,xM x)] A [] [⟨pt,uA ts,kt,29,2⟩,⟨pe,yY es,ke,74,1⟩,⟨x.pg,aH x.got,x.kg,37,1⟩,⟨x.pm,aH x.made,x.km,37,1⟩,⟨x.pl,aH x.cel,x.kl,27,1⟩,⟨x.pe,aH x.gns,x.ke,3,1⟩,⟨x.pn,iH x.L,x.cn,47,14⟩,⟨x.pc,aH x.cs,x.cc,37,1⟩] w):Calls prog 115 #[.pointer (some ⟨bw,0,none⟩),.pointer (some ⟨bx,0,none⟩)] w λ e w'=>∃q:KQ,e=.returned (.tuple #[])/\Tj dn rs bx ts es q/\SF w D [(bw,oY bm mask q.pt q.ts.length q.kt q.pe q.es.length q.ke),(bx,xO k bm x dn rs),(bm,xM x)] [] [] [⟨q.pt,uA q.ts,q.kt,29,2⟩,⟨q.pe,yY q.es,q.ke,74,1⟩,⟨x.pg,aH x.got,x.kg,37,1⟩,⟨x.pm,aH x.made,x.km,37,1⟩,⟨x.pl,aH x.cel,x.kl,27,1⟩,⟨x.pe,aH x.gns,x.ke,3,1⟩,⟨x.pn,iH x.L,x.cn,47,14⟩,⟨x.pc,aH x.cs,x.cc,37,1⟩] w':=aBn hts hes hs
end
end
section
def rk:Nd:={Nd.zero with kind:=3}
def aCr(g:Int):Nd:={Nd.zero with kind:=2,gen:=g}
def L4(x y:AX):List aQ:=[fG,fG]++[pP rk [] [] 0 x]++[pP (aCr 1) [] [] 1 y]
theorem Hh{x y:AX}:∀f∈aN (L4 x y),f.2=[]:=by intro f hf;simp[aN,L4,aQ.fr,fG,pP,aH,dF] at hf;rcases hf with hf|hf|hf|hf|hf|hf|hf|hf<;>rw[hf]
theorem Sg{w:World}{D:List Nat}{b:Nat}{acc:Int}{pn:Option Addr}{cn:Nat}{A:Fr}(hs:SF w D [(b,mO [fG,fG] [] 0 acc pn cn none 0)] A [] (mW [fG,fG] [] pn cn none 0) w) :
  Calls prog 66 #[.pointer (some ⟨b,0,none⟩)] w λ e w'=>∃q:AX×AX×Option Addr×Nat,e=.returned (.agg ⟨[.int .i64 3,.bool false]⟩)/\True /\
   SF w D [(b,mO (L4 q.1 q.2.1) [0,3,4] 1 acc q.2.1.pn q.2.1.cn q.2.2.1 q.2.2.2)] [] (aN (L4 q.1 q.2.1)) (mW (L4 q.1 q.2.1) [0,3,4] q.2.1.pn q.2.1.cn q.2.2.1 q.2.2.2) w':=by refine enter func66 ntmps66 rfl rfl (zM hs) ?_;simp only[cC];refine J0 ?_;refine aJ (λ x2=>?_);refine aG ?_;refine J2 ?_;refine bM ?_;refine aD (cM (A0:=[(none,aH []),(none,dF [])]) (hc:=λ w hs=>Ht (L:=[fG,fG]) (cs:=[]) (n:=rk) (xs:=[]) (ys:=[]) 0 hs rfl rfl (by decide) (by decide) (by decide) (by decide))) (λ x7 h7=>?_);refine Ka5 ?_;refine aD (cM (hc:=λ w hs=>K0 (L:=[fG,fG]++[pP rk [] [] 0 x7]) (cs:=[0]) hs)) (λ x9 h9=>?_);refine zQ ?_;refine aA ?_;refine bM ?_;refine aA ?_;refine aD (cM (A0:=[(none,aH []),(none,dF [])]) (hc:=λ w hs=>Ht (L:=[fG,fG]++[pP rk [] [] 0 x7]) (cs:=[0]) (n:=aCr 1) (xs:=[]) (ys:=[]) 3 hs rfl rfl (by decide) (by decide) (by simp) (by decide))) (λ x15 h15=>?_);refine aD (cM (hc:=λ w hs=>mB (L:=L4 x7 x15) (cs:=[0,3]) 4 hs (by decide))) (λ x16 h16=>?_);refine wU ?_;refine aZ results66 (λ w hw=>?_);exact⟨(x7,x15,x16.1,x16.2),rfl,trivial,(hw.eY (λ f hf=>.inl (Hh f hf))).v4⟩
end
section
section
variable{S:List (Nat×Value)}{w0 w:World}{M:List Nat}{H:List (Nat×Obj)}{A F:Fr}{O:List Ow}{ty:TypeId}{pos:String}{af:Array Edge}{gd:Option (Nat×Bool)}{X:Type}{V:X->Value}
theorem cMH{φ:X->Prop}{hs H':List (Nat×Obj)}{os O':List Ow}{hs' Hc H1:X->List (Nat×Obj)}{os' Oc O1:X->List Ow}{Fc F1:X->Fr}{A0:Fr}{is js:List Nat}{f:FuncId}{xs:List Operand}{at_:Array TypeId}{vs:List Value}{dst:Option Nat}
  (ha:qR S xs=vs:=by(repeat (first|exact cN _|(apply bX;focus ((conv=>{lhs;whnf});try exact rfl))));first|done|fail) (hp:plain prog f=true:=by kernel_rfl)
  (hc:∀w,SF w (Ks hs os) hs A0 [] os w->Calls prog f ⟨vs⟩ w λ e w'=>∃x,e=.returned (V x)/\φ x/\SF w (Ks hs os) (hs' x++Hc x) [] (Fc x) (os' x++Oc x) w')
  (hH:mR H is hs H':=by(repeat (first|exact mR.nil|(apply mR.cons;(focus ((repeat (first|exact zI.head|apply zI.tail));done));simp only[rZ])));first|done|fail)
  (hO:mR O js os O':=by(repeat (first|exact mR.nil|(apply mR.cons;(focus ((repeat (first|exact zI.head|apply zI.tail));done));simp only[rZ])));first|done|fail)
  (hA:bH A F O' A0:=by(repeat (first|exact bH.of (λ _ h=>Or.inr (Or.inl h))|exact bH.nil|(refine bH.cons (by first|exact Or.inl rfl|exact Or.inr (Or.inr (Or.inl (by simp)))|exact Or.inr (Or.inl (by simp))|exact Or.inr (Or.inr (Or.inr (by simp)))) ?_)));first|done|fail)
  (hl1:∀x,is.length=(hs' x).length:=by intro x;exact rfl) (hl2:∀x,js.length=(os' x).length:=by intro x;exact rfl)
  (hH1:∀x,Hc x++jE is (hs' x) H'=H1 x:=by intro x;first|(simp only[jE,sS,List.nil_append,List.cons_append];exact rfl)|exact rfl) (hF1:∀x,Fc x++F=F1 x:=by intro x;first|(simp only[List.nil_append,List.cons_append];exact rfl)|exact rfl) (hO1:∀x,Oc x++jE js (os' x) O'=O1 x:=by intro x;simp only[jE,sS,mW,List.nil_append,List.cons_append];exact rfl) :
  bG prog S (SF w0 M H A F O) ⟨dst,.call {callee:=.value (.func f),args:=⟨xs⟩,argTypes:=at_},ty,pos,af,gd⟩ X V (λ x w=>φ x/\SF w0 M (H1 x) A (F1 x) (O1 x) w) :=
 gW (mY hp ha) λ w hw=>(hc w (hw.rM hH hO hA)).mono λ _ _ ⟨x,he,hx,hs⟩=>⟨x,he,hx,by have:=hw.yT (hs':=hs' x) (Hc:=Hc x) (os':=os' x) (Oc:=Oc x) hH hO hs (hl1 x) (hl2 x);rw[<- hH1 x,<- hF1 x,<- hO1 x];exact this⟩
end
end
end Go.Proofs.YtbajmaoegmbfgaaGreat
namespace Go.Ct
open Go Go.RowKit
section
theorem Rc.trans{i j:Nat}{t t1 t2:Tr}{s s1 s2:Mm}(h1:Rc i t s t1 s1)(h2:Rc j t1 s1 t2 s2):Rc (i+j) t s t2 s2:=by
 induction h2 with
 | refl t s=>exact h1
 | eF _ hs ih=>exact .eF (ih h1) hs
 | loud _ hs ih=>exact .loud (ih h1) hs
def Sz(x:XS)(B:Nat):Prop:=x.L.length<=B/\x.cs.length<=B/\x.gen<=B
variable{T R':Tr}{x x':XS}{j N B:Nat}
theorem Co{R:Tr}{dn:Bool}{rs:Rs}(h:td T x dn rs R)(hd:dn=false)(hT:bW T N 64)(hN:x.got.length+1<=N)(hr:Rc j R x.mm R' x'.mm)(hj:j<=1)(hs:Sz x B):Sz x' (B+128):=by
 rcases h.Pk with⟨e,_⟩|⟨_,e⟩;·rw[hd] at e;cases e
 ·obtain⟨c,h1,_,_⟩:=h.wk.wR (Nat.le_refl 64) hT (by omega);obtain⟨c',h2,h3,h4,h5,h6,h7⟩:=hr.wR (Nat.le_refl 64) (Sk e h1 (by omega)) (by omega);obtain⟨s1,s2,s3⟩:=hs;simp only[XS.mm,List.length_map] at h5 h6 h7;exact⟨by omega,by omega,by omega⟩
theorem Hv(hT:bW T N 64)(hr:Rc j T x.mm R' x'.mm)(hj:j<=0)(hs:Sz x B):Sz x' (B+64):=by obtain⟨c',h2,h3,h4,h5,h6,h7⟩:=hr.wR (Nat.le_refl 64) hT (by omega);obtain⟨s1,s2,s3⟩:=hs;simp only[XS.mm,List.length_map] at h5 h6 h7;exact⟨by omega,by omega,by omega⟩
end
end Go.Ct
namespace Go.Proofs.YtbajmaoegmbfgaaGreat
open Go.Proofs.Tryz
open Go Go.RowKit Go.Ct
section
noncomputable def T0 (k:Cl) (m:Nat):Tr:=kN k (jQ k.key m) 1073741824
theorem nA(k:Cl)(m:Nat){n:Nat}(h:n<1073741824):bW (T0 k m) n 64:=Ls h
def xE(k:Cl)(bm b:Nat)(x:XS)(dn:Bool)(rs:Rs):List (Nat×Obj):=if dn=true then [] else [(b,xO k bm x false rs)]
def xE4(x:XS)(dn:Bool):List Ow:=if dn=true then [] else [⟨x.pg,aH x.got,x.kg,37,1⟩,⟨x.pm,aH x.made,x.km,37,1⟩,⟨x.pl,aH x.cel,x.kl,27,1⟩,⟨x.pe,aH x.gns,x.ke,3,1⟩]
structure RY where
 i:Nat
 x:XS
 N:List aQ
 dn:Bool
 rs:Rs
 R:Tr
structure Ko(k:Cl)(m:Nat)(x0:XS)(B:Nat)(y:RY):Prop where
 ex:td (T0 k m) y.x y.dn y.rs y.R
 rc:∃j,Rc j (T0 k m) x0.mm y.R y.x.mm
 ext:y.x.L=x0.L++y.N
 lc:x0.cs.length<=y.x.cs.length
 gl:y.x.got.length<=y.i
 sz:Sz y.x (B+64+128*y.i)
variable{k:Cl}{m B:Nat}{x0 x':XS}{dn:Bool}{rs:Rs}
theorem Ko.wq{N:Nat}{N':List aQ}(hN:N<1073741824)(h:uD (T0 k m) (T0 k m) 0 0 Rs.zero x0 x' N' dn rs)(hs:Sz x0 B):∃R,Ko k m x0 B ⟨0,x',N',dn,rs,R⟩:=by obtain⟨R',j,h1,h2,h3,h4,h5,h6⟩:=h.exI;exact⟨R',h3,⟨j,h4⟩,h5,h6,by have:=h.gl;show x'.got.length<=0;omega,Hv (nA k m hN) h4 h1 hs⟩
theorem Ko.step{y:RY}{N':List aQ}(hi:Ko k m x0 B y)(hd:y.dn=false)(hB:y.i<1073741822)(h:uD (T0 k m) y.R 1 (y.x.got.length+1) y.rs y.x x' N' dn rs):∃R,Ko k m x0 B ⟨y.i+1,x',y.N++N',dn,rs,R⟩:=by obtain⟨R',j,h1,h2,h3,h4,h5,h6⟩:=h.exI;obtain⟨j0,hj0⟩:=hi.rc;have hg:=hi.gl;refine⟨R',h3,⟨j0+j,hj0.trans h4⟩,by show x'.L=_;rw[h5,hi.ext,List.append_assoc],Nat.le_trans hi.lc h6,by have:=h.gl;show x'.got.length<=y.i+1;omega,?_⟩;have:=Co hi.ex hd (nA k m (n:=y.x.got.length+1) (by omega)) (Nat.le_refl _) h4 h1 hi.sz;rw[show B+64+128*(y.i+1)=B+64+128*y.i+128 by omega];exact this
section
variable{k:Cl}{bw bm m B:Nat}{L:List aQ}{cs:List Int}{gen acc:Int}{pn pc:Option Addr}{cn cc:Nat}{D:List Nat}{A:Fr}{w:World}{mask:Int}{ts:List dW}{es:List Nat}{pt pe:Option Addr}{kt ke:Nat}
theorem Pu(hsz:L.length<=137438953472/\cs.length<=137438953472/\gen<=137438953472)(hk:r6 k)(hm:m<18446744073709551616)(em:k.mask=(m:Int))(ht:k.t.root<=9223372036854775807)(ha:k.a<=L.length)(hb:k.b<=L.length)(hnn:k.n<=L.length)(hA:∀f∈aN L,f∈A)(ok:(XS.new L cs gen acc pn cn pc cc).Ok)(hs:SF w D [(bm,mO L cs gen acc pn cn pc cc)] A [] [⟨pn,iH L,cn,47,14⟩,⟨pc,aH cs,cc,37,1⟩] w):Calls prog 49 #[.pointer (some ⟨bm,0,none⟩),.agg ⟨Tf k⟩] w λ e w'=>∃q:Nat×XS×List aQ×Bool×Rs,e=.returned (.pointer (some ⟨q.1,0,none⟩))/\uD (T0 k m) (T0 k m) 0 0 Rs.zero (XS.new L cs gen acc pn cn pc cc) q.2.1 q.2.2.1 q.2.2.2.1 q.2.2.2.2/\SF w D ([(bm,xM q.2.1)]++[(q.1,xO k bm q.2.1 q.2.2.2.1 q.2.2.2.2)]) [] (aN q.2.2.1) ([⟨q.2.1.pn,iH q.2.1.L,q.2.1.cn,47,14⟩,⟨q.2.1.pc,aH q.2.1.cs,q.2.1.cc,37,1⟩]++[⟨q.2.1.pg,aH q.2.1.got,q.2.1.kg,37,1⟩,⟨q.2.1.pm,aH q.2.1.made,q.2.1.km,37,1⟩,⟨q.2.1.pl,aH q.2.1.cel,q.2.1.kl,27,1⟩,⟨q.2.1.pe,aH q.2.1.gns,q.2.1.ke,3,1⟩]) w' :=(vk (N:=0) (n:=1073741824) (m:=m) (nA k m (by decide)) (by decide) hsz hk (Nat.le_refl _) hm em ht ha hb hnn hA ok hs).mono λ _ _ ⟨q,e,h,hw⟩=>⟨q,e,h,hw.perm (List.Perm.swap _ _ _) (List.perm_append_comm (l₁:=[_,_]) (l₂:=[_,_,_,_]))⟩
set_option maxHeartbeats 1000000 in
theorem aBh(steps:Nat)(hst:steps<=1048576)(hB:B<=100000000000)(hsz:Sz (XS.new L cs gen acc pn cn pc cc) B)(hk:r6 k)(hm:m<18446744073709551616)(em:k.mask=(m:Int))(ht:k.t.root<=9223372036854775807)(ha:k.a=0)(hb:k.b=0)(hnn:k.n=0)(hA:∀f∈aN L,f∈A)(ok:(XS.new L cs gen acc pn cn pc cc).Ok)(hts:ts.length<=1000)(hes:es.length<=1000)
  (hs:SF w D [(bw,oY bm mask pt ts.length kt pe es.length ke),(bm,mO L cs gen acc pn cn pc cc)] A [] [⟨pt,uA ts,kt,29,2⟩,⟨pe,yY es,ke,74,1⟩,⟨pn,iH L,cn,47,14⟩,⟨pc,aH cs,cc,37,1⟩] w) :
  Calls prog 67 #[.pointer (some ⟨bw,0,none⟩),.agg ⟨Tf k⟩,.int .i64 (steps:Int)] w λ e w'=>∃q:Nat×RY×KQ,e=.returned (.tuple #[])/\(Ko k m (XS.new L cs gen acc pn cn pc cc) B q.2.1/\q.2.1.i<=steps/\Tj q.2.1.dn q.2.1.rs q.1 ts es q.2.2) /\
   SF w D (xE k bm q.1 q.2.1.x q.2.1.dn q.2.1.rs++[(bw,oY bm mask q.2.2.pt q.2.2.ts.length q.2.2.kt q.2.2.pe q.2.2.es.length q.2.2.ke),(bm,xM q.2.1.x)]) [] (aN q.2.1.N) (xE4 q.2.1.x q.2.1.dn++[⟨q.2.2.pt,uA q.2.2.ts,q.2.2.kt,29,2⟩,⟨q.2.2.pe,yY q.2.2.es,q.2.2.ke,74,1⟩,⟨q.2.1.x.pn,iH q.2.1.x.L,q.2.1.x.cn,47,14⟩,⟨q.2.1.x.pc,aH q.2.1.x.cs,q.2.1.x.cc,37,1⟩]) w':=by
 have hL:(0:Int)<=L.length:=bN _;have hsz2:=hsz;obtain⟨s1,s2,s3⟩:=hsz2
 simp only[XS.new] at s1 s2 s3;refine enter func67 ntmps67 rfl rfl hs ?_;simp only[cC];refine J0 ?_;refine bJ (λ x4=>?_);refine Qa ?_;refine gH [0,1,2,3,4,5,6] ?_;refine sm ?_;refine bV ?_;refine bI (i:=5) (hq:=(cMH (hs:=[(bm,mO L cs gen acc pn cn pc cc)]) (os:=[⟨pn,iH L,cn,47,14⟩,⟨pc,aH cs,cc,37,1⟩]) (A0:=aN L) (hA:=E0l) (hc:=λ w hs=>Pu (m:=m) ⟨by omega,by omega,by omega⟩ hk hm em ht (by omega) (by omega) (by omega) (λ f hf=>hf) ok hs))) (h:=λ x13 h13=>?_);refine J7 ?_;refine aT ?_;refine Fq ?_;obtain⟨R0,hR0⟩:=Ko.wq (B:=B) (N:=0) (by decide) h13 hsz;refine mN [7,14,15,16,17,18,19,20,21,22,23,24,25] (λ y:RY=>[(7,.int .i64 ((y.i:Nat):Int))]) (λ y=>Ko k m (XS.new L cs gen acc pn cn pc cc) B y/\y.i<=steps) (λ y=>[(x13.1,xO k bm y.x y.dn y.rs),(x4,.cells ⟨Tf k⟩ 89 (0,0)),(bw,oY bm mask pt ts.length kt pe es.length ke),(bm,xM y.x)]) (λ y=>aN y.N) (λ y=>[⟨y.x.pg,aH y.x.got,y.x.kg,37,1⟩,⟨y.x.pm,aH y.x.made,y.x.km,37,1⟩,⟨y.x.pl,aH y.x.cel,y.x.kl,27,1⟩,⟨y.x.pe,aH y.x.gns,y.x.ke,3,1⟩,⟨pt,uA ts,kt,29,2⟩,⟨pe,yY es,ke,74,1⟩,⟨y.x.pn,iH y.x.L,y.x.cn,47,14⟩,⟨y.x.pc,aH y.x.cs,y.x.cc,37,1⟩]) (λ y=>steps-y.i) (⟨0,x13.2.1,x13.2.2.1,x13.2.2.2.1,x13.2.2.2.2,R0⟩) (⟨hR0,Nat.zero_le _⟩) (λ y f hx=>?_) (hw0:=λ w hw=>by rw[List.append_nil] at hw;exact hw.v6);refine K0a ?_;obtain⟨hi,his⟩:=hx;have hsx:=hi.sz;obtain⟨z1,z2,z3⟩:=hsx;have hgl:=hi.gl;refine jS ?_;refine aD (cM (hs:=xH k x13.1 bm y.x y.dn y.rs) (os:=xW y.x) (hc:=λ w hs=>N7 hs)) (λ x15 h15=>?_);refine Cr ?_;(refine eE 17 (λ g17=>?_) (λ g17=>?_)<;>refine Ka0 ?_);all_goals (refine Ka0 ?_;refine xz ?_;refine aG ?_)
 all_goals
 refine bD (λ c21=>?_) (λ c21=>?_)
 ·try exact nv c21
  all_goals (refine rT ?_;refine yG ?_;refine aD (cM (hs:=xH k x13.1 bm y.x y.dn y.rs) (os:=xW y.x) (A0:=aN y.x.L) (hA:=bH.of λ f hf=>by rw[hi.ext,cX] at hf;rcases List.mem_append.1 hf with hf|hf;exact .inr (.inl (hA f hf));exact .inr (.inr (.inl hf))) (hc:=λ w hs=>Vb (N:=y.x.got.length+1) (n:=1073741824) (m:=m) (nA k m (by omega)) (by omega) rfl ⟨by omega,by omega,by omega⟩ hi.ex hk (Nat.le_refl _) hm em ht (by rw[ha];exact bN _) (by rw[hb];exact bN _) (by rw[hnn];exact bN _) (λ f hf=>hf) hs)) (λ x25 h25=>?_);refine aG ?_;refine Kb6 ?_)
  all_goals
   have hdf:y.dn=false:=by simp_all
   have hq:uD (T0 k m) y.R 1 (y.x.got.length+1) y.rs y.x x25.1 x25.2.1 x25.2.2.1 x25.2.2.2:=by rcases h25 with h|h;rw[hdf] at h;cases h.1;exact h.2
   obtain⟨R1,hR1⟩:=hi.step hdf (by omega) hq;refine iS (⟨y.i+1,x25.1,y.N++x25.2.1,x25.2.2.1,x25.2.2.2,R1⟩) ?_ (hw1:=E0q);·exact⟨hR1,by show y.i+1<=steps;omega⟩
 ·all_goals (refine bR rfl ?_;refine Km ?_;refine aD (cM (hs:=[(bw,oY bm mask pt ts.length kt pe es.length ke),(x13.1,xO k bm y.x y.dn y.rs),(bm,xM y.x)]) (os:=[⟨pt,uA ts,kt,29,2⟩,⟨pe,yY es,ke,74,1⟩,⟨y.x.pg,aH y.x.got,y.x.kg,37,1⟩,⟨y.x.pm,aH y.x.made,y.x.km,37,1⟩,⟨y.x.pl,aH y.x.cel,y.x.kl,27,1⟩,⟨y.x.pe,aH y.x.gns,y.x.ke,3,1⟩,⟨y.x.pn,iH y.x.L,y.x.cn,47,14⟩,⟨y.x.pc,aH y.x.cs,y.x.cc,37,1⟩]) (hc:=λ w hs=>yl hts hes hs)) (λ x28 h28=>?_);refine aG ?_)
  all_goals
   refine Cp results67 (λ w hw=>?_);rcases y with⟨i,x,N,dn,rs,R⟩;cases dn with
   | true=>exact⟨(x13.1,⟨i,x,N,true,rs,R⟩,x28),rfl,⟨hi,his,h28⟩,hw.v4⟩
   | false=>exact⟨(x13.1,⟨i,x,N,false,rs,R⟩,x28),rfl,⟨hi,his,h28⟩,hw.v4⟩
end
end
section
theorem aB9{ts:List dW}{j:Nat}(h:j<ts.length):((uA ts).drop (2*j)).take 2=[.int .i64 (ts.getD j ⟨0,false⟩).root,.bool (ts.getD j ⟨0,false⟩).ro]:=by
 induction ts generalizing j with
 | nil=>simp at h
 | cons t ts ih=>
  cases j with
  | zero=>simp[uA]
  | succ j=>have:=ih (j:=j) (by simpa using h);rw[show 2*(j+1)=2*j+1+1 by omega];simpa[uA] using this
section
variable{P:Program}{S:List (Nat×Value)}{d:Nat}{ty t t' e:TypeId}{pos:String}{af:Array Edge}{gd:Option (Nat×Bool)}{x y:Operand}{w0 w:World}{M:List Nat}{H:List (Nat×Obj)}{A F:Fr}{O:List Ow}{a:Option Addr}
theorem Vq{ts:List dW}{q:Nat}(hx:ev S x=.pointer (some ⟨dG a,eO a+2*q,none⟩))(ht:kC P t 2=true)(hf:sD A F O a (uA ts))(hq:q<ts.length) :
  aM P S (SF w0 M H A F O) ⟨some d,.load t x,ty,pos,af,gd⟩ (.agg ⟨[.int .i64 (ts.getD q ⟨0,false⟩).root,.bool (ts.getD q ⟨0,false⟩).ro]⟩):=Se hx ht hf (aB9 hq) rfl
end
structure I8 where
 key:ByteArray
 val:Int
 exp:Int
 Kc:Int
 only:Bool
 t:dW
 pos:Nat
def I8.cl(q:I8)(kind mask:Int):Cl:=⟨kind,q.t,0,0,0,0,0,mask,q.key,q.val,q.exp,q.Kc,q.only⟩
def wrK(kind:Int):Prop:=kind=8∨kind=9∨kind=12∨kind=4
structure Sr(kind:Int)(ts:List dW)(q:I8):Prop where
 ky:q.key∈gT
 mem:q.t∈ts
 ro:wrK kind->q.t.ro=false
theorem qS{v:Nat}(h:v<8):gT.getD v ⟨#[]⟩∈gT:=by
 have:v=0∨v=1∨v=2∨v=3∨v=4∨v=5∨v=6∨v=7:=by omega
 rcases this with rfl|rfl|rfl|rfl|rfl|rfl|rfl|rfl<;>simp[gT]
theorem I1{ts:List dW}{j:Nat}(h:j<ts.length):ts.getD j ⟨0,false⟩∈ts:=by rw[iX,List.getElem?_eq_getElem h];exact List.getElem_mem h
section
variable{P:Program}{S:List (Nat×Value)}{G:World->Prop}{d:Nat}{ty t t':TypeId}{pos:String}{af:Array Edge}{gd:Option (Nat×Bool)}{x y:Operand}
theorem aAY{a b:Nat}(hx:ev S x=.int .i64 ((a:Nat):Int))(hy:ev S y=.int .i64 ((b:Nat):Int))(h0:b≠0):aM P S G ⟨some d,.binOp .rem t x y t',ty,pos,af,gd⟩ (.int .i64 ((a%b:Nat):Int)):=by have:=im (P:=P) (G:=G) (d:=d) (ty:=ty) (pos:=pos) (af:=af) (gd:=gd) (t:=t) (t':=t') hx hy (by omega);rwa [Int.tmod_eq_emod_of_nonneg (by omega),<- Int.natCast_emod] at this
end
section
variable{bw bm tb:Nat}{D:List Nat}{A:Fr}{w:World}{mask:Int}{ts:List dW}{pt pe:Option Addr}{kt ke ne:Nat}{l:List Int}{a:Option Addr}{c p:Nat}
set_option maxRecDepth 100000 in
set_option maxHeartbeats 2000000 in
theorem uo(kind:Int)(hkd:7<=kind/\kind<=12)(hl:l.length<=17592186043904)(h0:0<ts.length)(hts:ts.length<=1000)(hr0:(ts.getD 0 ⟨0,false⟩).ro=false)
  (hs:SF w D [(tb,U5 a l c p),(bw,oY bm mask pt ts.length kt pe ne ke)] [(a,aH l)] [] [⟨pt,uA ts,kt,29,2⟩] w) :
  Calls prog 54 #[.pointer (some ⟨bw,0,none⟩),.int .i64 kind,.pointer (some ⟨tb,0,none⟩)] w λ e w'=>∃q:I8,e=.returned (.agg ⟨Tf (q.cl kind mask)⟩)/\Sr kind ts q /\
   SF w D [(tb,U5 a l c q.pos),(bw,oY bm mask pt ts.length kt pe ne ke)] [] [] [⟨pt,uA ts,kt,29,2⟩] w':=by
 refine enter func54 ntmps54 rfl rfl hs ?_;simp only[cC];refine J0 ?_;refine aJ (λ x6=>?_);refine Qa ?_;refine eR [7,12,13,14,15,16,17,18,19,20,21,22,23,24,25,26,27,28,29,30] (λ y:Nat×I8=>[(7,.pointer (some ⟨y.1,0,none⟩))]) (λ y=>y.2.key∈gT) (λ y=>[(y.1,.cells ⟨Tf (y.2.cl kind mask)⟩ 89 (0,0)),(x6,.cells ⟨Tf ⟨0,⟨0,false⟩,0,0,0,0,0,0,⟨#[]⟩,0,0,0,false⟩⟩ 89 (0,0)),(tb,U5 a l c y.2.pos),(bw,oY bm mask pt ts.length kt pe ne ke)]) (λ _=>[]) (λ _=>[⟨pt,uA ts,kt,29,2⟩]) (by decide) (λ _=>by exact rfl) ?_ (λ y f hx=>?_)
 ·refine gO (.one 0 [] (.one 1 [] (.one 2 [] (.one 3 [] (.one 4 [] (.one 5 [] (.one 7 [] (.one 10 [] (.one 13 [] (.one 15 [] (.two 6 [4] (.two 8 [4] (.one 9 [] (.two 11 [4] (.one 12 [] (.two 14 [4] (.two 16 [4] (.one 17 [] (.one 18 [] (.one 19 [4] (.one 20 [] .nil)))) 0 [] (.two 19 [4] (.one 16 [4] (.one 17 [] (.one 18 [] (.one 20 [] .nil)))) 0 [] .nil)) 0 [] (.two 19 [4] (.one 14 [4] (.one 16 [4] (.one 17 [] (.one 18 [] (.one 20 [] .nil))))) 0 [] .nil))) 0 [] (.two 19 [4] (.one 11 [4] (.one 12 [] (.one 14 [4] (.one 16 [4] (.one 17 [] (.one 18 [] (.one 20 [] .nil))))))) 0 [] .nil))) 0 [] (.two 19 [4] (.one 8 [4] (.one 9 [] (.one 11 [4] (.one 12 [] (.one 14 [4] (.one 16 [4] (.one 17 [] (.one 18 [] (.one 20 [] .nil))))))))) 0 [] .nil)) 0 [] (.two 19 [4] (.one 6 [4] (.one 8 [4] (.one 9 [] (.one 11 [4] (.one 12 [] (.one 14 [4] (.one 16 [4] (.one 17 [] (.one 18 [] (.one 20 [] .nil)))))))))) 0 [] .nil)))))))))))) ?_;refine dj ?_;refine iW ?_;refine iW ?_;refine aV ?_;refine gL (E:=[6,19]) (by decide +kernel) ((.cons ?_ (.cons ?_ .nil)))
  ·refine nX (i:=6) (hq:=(zB (hc:=λ w1 hw=>ou (hw.tape cY fin hl)))) (h:=λ x18 h18=>?_);refine gL (E:=[8,19]) (by decide +kernel) ((.cons ?_ (.cons ?_ .nil)))
   ·refine nX (i:=8) (hq:=(zB (hc:=λ w1 hw=>fO 6 (hw.tape cY fin hl) (by decide) (by decide)))) (h:=λ x20 h20=>?_);refine oC ?_;refine gL (E:=[11,19]) (by decide +kernel) ((.cons ?_ (.cons ?_ .nil)))
    ·refine nX (i:=11) (hq:=(zB (hc:=λ w1 hw=>fO 6 (hw.tape cY fin hl) (by decide) (by decide)))) (h:=λ x23 h23=>?_);refine oC ?_;refine gL (E:=[14,19]) (by decide +kernel) ((.cons ?_ (.cons ?_ .nil)))
     ·refine nX (i:=14) (hq:=(zB (hc:=λ w1 hw=>fO 4 (hw.tape cY fin hl) (by decide) (by decide)))) (h:=λ x26 h26=>?_);refine gL (E:=[16,19]) (by decide +kernel) ((.cons ?_ (.cons ?_ .nil)));·refine nX (i:=16) (hq:=(zB (hc:=λ w1 hw=>fO 3 (hw.tape cY fin hl) (by decide) (by decide)))) (h:=λ x28 h28=>?_);refine pI ?_;refine gM ?_;refine iP (h:=λ x7=>?_);refine K0f ?_;·exact qS h18.1
      ·refine iL (i:=19) (h:=λ x7=>?_);refine bI (i:=16) (hq:=(zB (hc:=λ w1 hw=>fO 3 (hw.tape cY fin hl) (by decide) (by decide)))) (h:=λ x28 h28=>?_);refine pI ?_;refine gM ?_;refine K0f ?_;·exact qS h18.1
     ·refine iL (i:=19) (h:=λ x7=>?_);refine bI (i:=14) (hq:=(zB (hc:=λ w1 hw=>fO 4 (hw.tape cY fin hl) (by decide) (by decide)))) (h:=λ x26 h26=>?_);refine bI (i:=16) (hq:=(zB (hc:=λ w1 hw=>fO 3 (hw.tape cY fin hl) (by decide) (by decide)))) (h:=λ x28 h28=>?_);refine pI ?_;refine gM ?_;refine K0f ?_;·exact qS h18.1
    ·refine iL (i:=19) (h:=λ x7=>?_);refine bI (i:=11) (hq:=(zB (hc:=λ w1 hw=>fO 6 (hw.tape cY fin hl) (by decide) (by decide)))) (h:=λ x23 h23=>?_);refine oC ?_;refine bI (i:=14) (hq:=(zB (hc:=λ w1 hw=>fO 4 (hw.tape cY fin hl) (by decide) (by decide)))) (h:=λ x26 h26=>?_);refine bI (i:=16) (hq:=(zB (hc:=λ w1 hw=>fO 3 (hw.tape cY fin hl) (by decide) (by decide)))) (h:=λ x28 h28=>?_);refine pI ?_;refine gM ?_;refine K0f ?_;·exact qS h18.1
   ·refine iL (i:=19) (h:=λ x7=>?_);refine bI (i:=8) (hq:=(zB (hc:=λ w1 hw=>fO 6 (hw.tape cY fin hl) (by decide) (by decide)))) (h:=λ x20 h20=>?_);refine oC ?_;refine bI (i:=11) (hq:=(zB (hc:=λ w1 hw=>fO 6 (hw.tape cY fin hl) (by decide) (by decide)))) (h:=λ x23 h23=>?_);refine oC ?_;refine bI (i:=14) (hq:=(zB (hc:=λ w1 hw=>fO 4 (hw.tape cY fin hl) (by decide) (by decide)))) (h:=λ x26 h26=>?_);refine bI (i:=16) (hq:=(zB (hc:=λ w1 hw=>fO 3 (hw.tape cY fin hl) (by decide) (by decide)))) (h:=λ x28 h28=>?_);refine pI ?_;refine gM ?_;refine K0f ?_;·exact qS h18.1
  ·refine iL (i:=19) (h:=λ x7=>?_);refine bI (i:=6) (hq:=(zB (hc:=λ w1 hw=>ou (hw.tape cY fin hl)))) (h:=λ x18 h18=>?_);refine bI (i:=8) (hq:=(zB (hc:=λ w1 hw=>fO 6 (hw.tape cY fin hl) (by decide) (by decide)))) (h:=λ x20 h20=>?_);refine oC ?_;refine bI (i:=11) (hq:=(zB (hc:=λ w1 hw=>fO 6 (hw.tape cY fin hl) (by decide) (by decide)))) (h:=λ x23 h23=>?_);refine oC ?_;refine bI (i:=14) (hq:=(zB (hc:=λ w1 hw=>fO 4 (hw.tape cY fin hl) (by decide) (by decide)))) (h:=λ x26 h26=>?_);refine bI (i:=16) (hq:=(zB (hc:=λ w1 hw=>fO 3 (hw.tape cY fin hl) (by decide) (by decide)))) (h:=λ x28 h28=>?_);refine pI ?_;refine gM ?_;refine K0f ?_;·exact qS h18.1
 refine K0a ?_;have hy:=hx;refine J2 ?_;refine mJ ?_;refine aA ?_;(refine eE 33 (λ g33=>?_) (λ g33=>?_)<;>(try (exfalso;omega))<;>((refine Ka3 ?_)));((refine aF ?_;refine mJ ?_));refine cH ?_;refine Ka5 ?_;refine mJ ?_;refine aA ?_;(refine eE 39 (λ g39=>?_) (λ g39=>?_)<;>refine Ka0 ?_);all_goals ((first|refine aI ?_|(refine aF ?_;refine mJ ?_));refine Kc1 ?_)
 all_goals (first|refine aI ?_|(refine eE 43 (λ g43=>?_) (λ g43=>?_)<;>refine Ka0 ?_))
 all_goals ((first|refine aI ?_|(refine aF ?_;refine mJ ?_));refine Kc1 ?_)
 all_goals (first|refine aI ?_|(refine eE 47 (λ g47=>?_) (λ g47=>?_)<;>refine Ka0 ?_))
 all_goals ((first|refine aI ?_|(refine aF ?_;refine mJ ?_));refine cH ?_;refine zQ ?_;refine dO ?_;refine Pb ?_;refine aD (zB (hc:=λ w1 hw=>fO ts.length (hw.tape cY fin hl) (by omega) (by omega))) (λ x57 h57=>?_);refine jG ?_;refine Fq ?_)
 all_goals
 refine mN [11,58,59,60,61,62,63,64,65,66,67,68,69,70,71,72,73,74,75,76,77,78,79,80,81,82,83,84,85,86,87,88,89,90,91,92,93,94,95,96,97,98,99,100] (λ z:Nat×dW=>[(11,.int .i64 ((z.1:Nat):Int))]) (λ z=>z.1<=ts.length) (λ z=>[(y.1,.cells ⟨Tf (({y.2 with t:=z.2}:I8).cl kind mask)⟩ 89 (0,0)),(x6,.cells ⟨Tf ⟨0,⟨0,false⟩,0,0,0,0,0,0,⟨#[]⟩,0,0,0,false⟩⟩ 89 (0,0)),(tb,U5 a l c (pN l y.2.pos)),(bw,oY bm mask pt ts.length kt pe ne ke)]) (λ _=>_) (λ _=>_) (λ z=>ts.length-z.1) ((0,y.2.t)) (Nat.zero_le _) (λ z f hx=>?_);refine K0a ?_;all_goals (refine D1 ?_;refine dO ?_;refine Pb ?_;refine wF ?_)
 all_goals
  refine bD (λ c64=>?_) (λ c64=>?_)
  ·all_goals try (exfalso;omega)
   all_goals (refine rT ?_;refine aT ?_;refine gH [0,1,2,3,4,5,6,7,8,9,10,11,12,13,14,15,16] ?_;refine sm ?_;refine iW ?_;refine cZ (i:=6) (hq:=(pY (m:=x57) (n:=z.1) rf rf (by omega))) (h:=?_);refine sm ?_;refine qB ?_;refine cZ (i:=12) (hq:=(aAY (a:=x57+z.1) (b:=ts.length) rf rf (by omega))) (h:=?_);refine bU (i:=13) (hq:=(ob (cs:=uA ts) (k:=(x57+z.1)%ts.length) rf rf gS eD fin (Nat.mod_lt _ h0) (by rw[rH];have:=Nat.mod_lt (x57+z.1) h0;omega))) (h:=?_);refine bU (i:=14) (hq:=(Vq (ts:=ts) (q:=(x57+z.1)%ts.length) rf eD fin (Nat.mod_lt _ h0))) (h:=?_);refine aY ?_;refine mC (i:=16) (hq:=(gE λ _=>mK (off:=1) (vs:=[.int .i64 (ts.getD ((x57+z.1)%ts.length) ⟨0,false⟩).root,.bool (ts.getD ((x57+z.1)%ts.length) ⟨0,false⟩).ro]) rf cY rf rfl eD (Nat.le_of_ble_eq_true rfl) rf iR)) (h:=λ _=>?_);refine eN ?_;refine Ka6 ?_;refine J3 ?_;refine aA ?_)
   all_goals ((refine eE 86 (λ g86=>?_) (λ g86=>?_)<;>refine Ka0 ?_))
   all_goals ((first|refine aI ?_|(refine aF ?_;refine zG ?_));refine Kc1 ?_)
   all_goals (first|(refine aF ?_;refine aE ?_)|(refine eE 90 (λ g90=>?_) (λ g90=>?_)<;>(try (exfalso;omega))<;>(refine aI ?_)))
   all_goals (refine Ka1 ?_;refine Ka2 ?_;(first|refine aI ?_|(refine aF ?_;refine zG ?_));refine Ka0 ?_)
   all_goals (first|refine Bv ?_|(refine eE 95 (λ g95=>?_) (λ g95=>?_)<;>refine Ka0 ?_))
   all_goals ((first|refine aI ?_|refine Bv ?_|(refine aF ?_;refine zG ?_));(first|refine aI ?_|(refine aF ?_;refine cH ?_));refine Kd8 ?_)
   all_goals
   refine bD (λ c99=>?_) (λ c99=>?_)
   ·try exact nv c99
    all_goals (refine Ka9 ?_)
    all_goals refine aZ results54 (λ w hw=>?_);exact⟨{y.2 with t:=ts.getD ((x57+z.1)%ts.length) ⟨0,false⟩,pos:=pN l y.2.pos},rfl,⟨hy,I1 (Nat.mod_lt _ h0),λ hk=>by first|(simp_all;done)|(unfold wrK at hk;exfalso;omega)⟩,hw.bB⟩
   ·try exact nv c99
    all_goals try (exfalso;omega)
    all_goals (refine Kc3 ?_)
    all_goals refine iS ((z.1+1,ts.getD ((x57+z.1)%ts.length) ⟨0,false⟩)) ?_;·omega
  ·all_goals try (exfalso;omega)
   all_goals (refine bR rfl ?_;refine mP ?_;refine aC (ob (cs:=uA ts) (k:=0) rf rf gS eD fin h0 (by rw[rH];omega)) rfl ?_;refine aC (Vq (ts:=ts) (q:=0) rf eD fin h0) rfl ?_;refine aE ?_;refine bT (gE λ _=>mK (off:=1) (vs:=[.int .i64 (ts.getD 0 ⟨0,false⟩).root,.bool (ts.getD 0 ⟨0,false⟩).ro]) rf cY rf rfl eD (Nat.le_of_ble_eq_true rfl) rf iR) (λ _=>?_);refine aG ?_;refine Ka9 ?_)
   all_goals
   refine aZ results54 (λ w hw=>?_);exact⟨{y.2 with t:=ts.getD 0 ⟨0,false⟩,pos:=pN l y.2.pos},rfl,⟨hy,I1 h0,λ _=>hr0⟩,hw.bB⟩
end
end
section
section
variable{H:ByteArray->Nat}{σ τ υ:Kw}
structure ph(H:ByteArray->Nat)(σ υ:Kw)(c v:Int):Prop where
 le:Le σ υ
 inv:Inv H υ
 at':υ.ce c=v
 other:∀x,x≠c->υ.ce x=σ.ce x
def Kf(σ τ:Kw)(i:Int):Prop:=∀c:Int,1<=c->c<=σ.cl->σ.ct c≠.main i->(∀m,σ.ct c≠.prev m)->τ.ce c=σ.ce c
theorem Kf.refl(σ:Kw)(i:Int):Kf σ σ i:=λ _ _ _ _ _=>rfl
theorem Kf.trans{i:Int}(l:Le σ τ)(h:Kf σ τ i)(h2:Kf τ υ i):Kf σ υ i:=λ c h1 hc a b=>by have e:=l.ct c hc;rw[h2 c h1 (by have:=l.cl;omega) (by rw[e];exact a) (λ m=>by rw[e];exact b m)];exact h c h1 hc a b
theorem Ga{c v i:Int}(h:ph H σ υ c v)(hc:σ.ct c=.main i∨∃m,σ.ct c=.prev m):Kf σ υ i:=λ x _ _ a b=>h.other x λ e=>by
 subst e;rcases hc with hc|⟨m,hc⟩;·exact a hc
 ·exact b m hc
theorem ss{n:Nv}{x i:Int}(l:Le σ υ)(e:υ.mm=σ.mm.push n x):Kf σ υ i:=λ c' _ hc _ _=>by
 have e2:υ.mm.cs=fL n.kind σ.mm.cs x:=by rw[e];rfl
 show bK υ.mm.cs c'=_;rw[e2];unfold fL;split;·exact tK hc
 ·rfl
end
end
section
structure Xp where
 H:ByteArray->Nat
 Q:Rs->Kw->Prop
 A:Tr->Prop
 C:Nat
 E:Kw->Prop
 R:Int->Int->Tr->Kw->Prop
 b:Bool
 al:Bool
structure Gg(X:Xp)(σ τ:Kw):Prop where
 le:Le σ τ
 inv:Inv X.H τ
 solo:X.b=false->τ=σ
def XT(X:Xp):Tr->Nat->Kw->Prop
 | .done r,_,σ=>X.E σ∨X.Q r σ
 | .load c k,n,σ=>X.E σ∨∃m,(n=m+1∨(X.A (.load c k)/\m=X.C))/\∀τ,Gg X σ τ->XT X (k (τ.ce c)) m τ
 | .kG c o v k,n,σ=>X.E σ∨∃m,n=m+1/\∀τ,Gg X σ τ->(iQ τ.mm.cs c o->Le τ (τ.set c o v)/\Inv X.H (τ.set c o v)/\X.R c v (k true) (τ.set c o v)/\XT X (k true) m (τ.set c o v))/\(¬iQ τ.mm.cs c o->XT X (k false) m τ)
 | .alloc nd i k,n,σ=>X.E σ∨((nd.kind=2->bC σ i)/\(X.al=true->∀υ,Le σ υ->Inv X.H υ->υ.mm=σ.mm.push nd i->XT X (k ((σ.len+1:Nat):Int)) n υ)/\(X.al=false->∃υ,Le σ υ/\Inv X.H υ/\υ.mm=σ.mm.push nd i/\XT X (k ((σ.len+1:Nat):Int)) n υ))
 | .cell i k,n,σ=>X.E σ∨((σ.nd i).kind=2/\(X.al=true->∀υ,Le σ υ->Inv X.H υ->υ.mm=⟨σ.mm.nodes,σ.mm.cs++[i],σ.mm.gen⟩->XT X (k ((σ.cl+1:Nat):Int)) n υ)/\(X.al=false->∃υ,Le σ υ/\Inv X.H υ/\υ.mm=⟨σ.mm.nodes,σ.mm.cs++[i],σ.mm.gen⟩/\XT X (k ((σ.cl+1:Nat):Int)) n υ))
 | .gen k,n,σ=>X.E σ∨((X.al=true->∀υ,Le σ υ->Inv X.H υ->υ.mm=⟨σ.mm.nodes,σ.mm.cs,σ.mm.gen+1⟩->XT X (k (σ.mm.gen+1)) n υ)/\(X.al=false->∃υ,Le σ υ/\Inv X.H υ/\υ.mm=⟨σ.mm.nodes,σ.mm.cs,σ.mm.gen+1⟩/\XT X (k (σ.mm.gen+1)) n υ))
 | .node r k,n,σ=>X.E σ∨(r<=σ.len/\XT X (k (σ.nd r)) n σ)
 | .stuck,_,_=>True
section
variable{X:Xp}{σ τ υ:Kw}
variable{n:Nat}{c:Int}
theorem Gg.refl(i:Inv X.H σ):Gg X σ σ:=⟨Le.refl σ,i,λ _=>rfl⟩
theorem Gg.trans(i0:Inv X.H σ)(h:Gg X σ τ)(h2:Gg X τ υ):Gg X σ υ:=⟨h.le.trans i0 h.inv h2.le,h2.inv,λ e=>(h2.solo e).trans (h.solo e)⟩
theorem XT.stop{t:Tr}(h:X.E σ):XT X t n σ:=by cases t<;>first|exact .inl h|trivial
theorem XT.mono:∀{t:Tr} {n m:Nat} {σ:Kw},n<=m->XT X t n σ->XT X t m σ:=by
 intro t;induction t with
 | done r=>intro n m σ _ h;exact h
 | stuck=>intro n m σ _ _;trivial
 | load c k ih=>
  intro n m σ hnm h;rcases h with h|⟨q,e,h⟩;·exact .inl h
  ·rcases e with e|e;·exact .inr ⟨m-1,.inl (by omega),λ τ hg=>ih _ (by omega) (h τ hg)⟩
   ·exact .inr ⟨q,.inr e,h⟩
 | kG c o v k ih=>
  intro n m σ hnm h;rcases h with h|⟨q,e,h⟩;·exact .inl h
  ·refine .inr ⟨m-1,by omega,λ τ hg=>⟨λ hc=>?_,λ hc=>ih _ (by omega) ((h τ hg).2 hc)⟩⟩;obtain⟨a,b,r,d⟩:=(h τ hg).1 hc;exact⟨a,b,r,ih _ (by omega) d⟩
 | alloc nd i k ih=>
  intro n m σ hnm h;rcases h with h|⟨a,b,d⟩;·exact .inl h
  ·refine .inr ⟨a,λ ha υ l i1 e=>ih _ hnm (b ha υ l i1 e),λ ha=>?_⟩;obtain⟨υ,l,i1,e,d⟩:=d ha;exact⟨υ,l,i1,e,ih _ hnm d⟩
 | cell i k ih=>
  intro n m σ hnm h;rcases h with h|⟨a,b,d⟩;·exact .inl h
  ·refine .inr ⟨a,λ ha υ l i1 e=>ih _ hnm (b ha υ l i1 e),λ ha=>?_⟩;obtain⟨υ,l,i1,e,d⟩:=d ha;exact⟨υ,l,i1,e,ih _ hnm d⟩
 | gen k ih=>
  intro n m σ hnm h;rcases h with h|⟨b,d⟩;·exact .inl h
  ·refine .inr ⟨λ ha υ l i1 e=>ih _ hnm (b ha υ l i1 e),λ ha=>?_⟩;obtain⟨υ,l,i1,e,d⟩:=d ha;exact⟨υ,l,i1,e,ih _ hnm d⟩
 | node r k ih=>
  intro n m σ hnm h;rcases h with h|⟨a,d⟩;·exact .inl h
  ·exact .inr ⟨a,ih _ hnm d⟩
theorem XT.fresh{k:Int->Tr}(ha:X.A (.load c k))(h:XT X (.load c k) (X.C+1) σ):XT X (.load c k) n σ:=by
 rcases h with h|⟨q,e,h⟩;·exact .inl h
 ·refine .inr ⟨X.C,.inr ⟨ha,rfl⟩,λ τ hg=>?_⟩;have:=h τ hg;rcases e with e|e
  ·rwa [show q=X.C by omega] at this
  ·rwa [e.2] at this
theorem cS{r:Int}{k:Nv->Tr}(h:r<=σ.len)(w:XT X (k (σ.nd r)) n σ):XT X (.node r k) n σ:=.inr ⟨h,w⟩
theorem pX{k:Int->Tr}(h:∀τ,Gg X σ τ->XT X (k (τ.ce c)) n τ):XT X (.load c k) (n+1) σ:=.inr ⟨n,.inl rfl,h⟩
structure aEs(X:Xp)(σ τ:Kw)(c o v:Int)(bb:Bool):Prop where
 t:bb=true->τ.ce c=v
 f:bb=false->τ.ce c≠o
 s:X.b=false->(bb=true/\σ.ce c=o/\ph X.H σ τ c v)∨(bb=false/\τ=σ)
structure aw(X:Xp):Prop where
 r0:∀c v t υ,(∀i,υ.ct c≠.main i)->υ.ct c≠.root->X.R c v t υ
 r1:∀c v t υ i,υ.ct c=.main i->bC υ v->X.R c v t υ
 r2:∀υ t i w g m K,Inv X.H υ->bY υ t->qU υ i w g->oQ υ m w g->X.R (υ.nd i).main m (oO t i m K) υ
 r3:∀c v t υ,υ.ct c=.root->(υ.nd v).kind=2->X.R c v t υ
 r4:∀υ t d (K:Int->Int->Tr),Inv X.H υ->bY υ t->t.ro=false->(υ.nd d).kind=8->X.R t.root d (qD t d (.node d λ nd=>.load nd.status λ s=>pT t d s (K s))) υ
theorem El{c o v:Int}{k:Bool->Tr}{n:Nat}(h1:1<=c)(h2:c<=σ.cl)(i0:Inv X.H σ)(hset:∀τ,Le σ τ->Inv X.H τ->iQ τ.mm.cs c o->Wy τ c o v)
  (hR:∀υ,Le σ υ->Inv X.H υ->υ.ce c=v->X.R c v (k true) υ)
  (hk:∀τ bb,Le σ τ->Inv X.H τ->aEs X σ τ c o v bb->XT X (k bb) n τ):XT X (.kG c o v k) (n+1) σ :=
 .inr ⟨n,rfl,λ τ hg=>⟨λ hc=>by
  obtain⟨l2,i2,e3⟩:=uh hg.inv hc (hset τ hg.le hg.inv hc)
  have l:=hg.le.trans i0 hg.inv l2;refine⟨l2,i2,hR _ l i2 e3,hk _ true l i2 ⟨λ _=>e3,λ h=>(nomatch h),λ hb=>.inl ⟨rfl,?_⟩⟩⟩;have e:=hg.solo hb;subst e;refine⟨wZ hc,l2,i2,e3,λ x hx=>?_⟩;show bK (eL τ.mm.cs c o v) x=_
  rw[kZ hc,if_neg hx],
 λ hc=>hk τ false hg.le hg.inv ⟨λ h=>(nomatch h),λ _=>aDB h1 (by have:=hg.le.cl;simp only[Kw.cl] at *;omega) hc,λ hb=>.inr ⟨rfl,hg.solo hb⟩⟩⟩⟩
variable{w:List Nat}{g:Int}
theorem Lt(cs:List Int)(x:Int):bK (cs++[x]) ((cs.length+1:Nat):Int)=x:=by unfold bK;rw[if_pos ⟨by omega,by simp⟩,show(((cs.length+1:Nat):Int)-1).toNat=cs.length by omega];simp[iX]
structure V3(σ υ:Kw)(n:Nv)(c r:Int):Prop where
 mm:υ.mm=σ.mm.push n c
 re:r=((σ.len+1:Nat):Int)
 nd:υ.nd r=dI n σ.cl
 r1:1<=r
 r2:r<=υ.len
structure tf(σ υ:Kw)(n:Nv)(c r:Int)(w:List Nat)(g:Int):Prop extends V3 σ υ n c r where
 way:υ.way r=w
 gb:υ.gb r=g
theorem Hk{n:Nv}{c:Int}(e:υ.mm=σ.mm.push n c):V3 σ υ n c ((σ.len+1:Nat):Int):=by
 have hl:υ.len=σ.len+1:=by simp only[Kw.len,e,Mm.push,List.length_append,List.length_cons,List.length_nil]
 refine⟨e,rfl,?_,by omega,by omega⟩;show bE υ.mm.nodes _=_;rw[e];simp only[Mm.push,bE,List.length_append,List.length_cons,List.length_nil];rw[if_pos ⟨by omega,by simp only[Kw.len];omega⟩];have e:(((σ.len+1:Nat):Int)-1).toNat=σ.mm.nodes.length:=by simp only[Kw.len];omega
 rw[e];simp[iX]
theorem V3.ce{n:Nv}{c r x:Int}(h:V3 σ υ n c r)(hx:x<=σ.cl):υ.ce x=σ.ce x:=by
 have e2:υ.mm.cs=fL n.kind σ.mm.cs c:=by rw[h.mm];rfl
 show bK υ.mm.cs x=_;rw[e2];unfold fL;split;·exact tK hx
 ·rfl
theorem V3.frm{n:Nv}{c r i:Int}(h:V3 σ υ n c r)(l:Le σ υ):Kf σ υ i:=ss l h.mm
theorem V3.new{n:Nv}{c r:Int}(h:V3 σ υ n c r)(hk:n.kind=2∨n.kind=3∨n.kind=5∨n.kind=6∨n.kind=8):υ.ce ((σ.cl+1:Nat):Int)=c:=by
 have e2:υ.mm.cs=σ.mm.cs++[c]:=by rw[h.mm];unfold Mm.push fL;dsimp only;rw[if_pos hk]
 show bK υ.mm.cs _=c;rw[e2];exact Lt _ _
theorem V3.prev{n:Nv}{c r:Int}(h:V3 σ υ n c r)(hk:cB n):υ.ce (υ.nd r).prev=c:=by have hk':n.kind=3∨n.kind=5∨n.kind=6:=hk;rw[h.nd,show(dI n σ.cl).prev=((σ.cl+1:Nat):Int) from if_pos hk'];exact h.new (by omega)
theorem V3.main{n:Nv}{c r:Int}(h:V3 σ υ n c r)(hk:n.kind=2):υ.ce (υ.nd r).main=c:=by rw[h.nd,show(dI n σ.cl).main=((σ.cl+1:Nat):Int) from if_pos hk];exact h.new (.inl hk)
theorem V3.stat{n:Nv}{c r:Int}(h:V3 σ υ n c r)(hk:n.kind=8):υ.ce (υ.nd r).status=c:=by rw[h.nd,show(dI n σ.cl).status=((σ.cl+1:Nat):Int) from if_pos hk];exact h.new (.inr (.inr (.inr (.inr hk))))
theorem jM{nd:Nv}{c:Int}{k:Int->Tr}{n:Nat}(hal:X.al=false)(i0:Inv X.H σ)(hn:lF X.H σ nd w g)(hc:ck σ nd c w g)
  (hk:∀υ r,Le σ υ->Inv X.H υ->tf σ υ nd c r w g->XT X (k r) n υ) (h2:nd.kind=2->bC σ c:=by intro h;first|exact dU (a:=3) (b:=2) h|exact dU (a:=4) (b:=2) h|exact dU (a:=5) (b:=2) h|exact dU (a:=6) (b:=2) h|exact dU (a:=7) (b:=2) h|exact dU (a:=8) (b:=2) h|exact absurd h (cB.ne0 (by assumption)).2.2.1):XT X (.alloc nd c k) n σ:=by obtain⟨υ,l2,i2,e2,e3,e4,e5⟩:=sk i0 hn hc;exact .inr ⟨h2,λ h=>(by rw[hal] at h;cases h),λ _=>⟨υ,l2,i2,e2,hk υ _ l2 i2 ⟨Hk e2,e4,e5⟩⟩⟩
theorem ya{nd:Nv}{c:Int}{k:Int->Tr}{n:Nat}(i0:Inv X.H σ)(hn:lF X.H σ nd w g)(hc:ck σ nd c w g)(h2:nd.kind≠2)
  (hk:∀υ r,Le σ υ->Inv X.H υ->V3 σ υ nd c r->XT X (k r) n υ):XT X (.alloc nd c k) n σ:=by obtain⟨υ,l2,i2,e2,e3,e4,e5⟩:=sk i0 hn hc;exact .inr ⟨λ h=>absurd h h2,λ _ υ l i1 e=>hk υ _ l i1 (Hk e),λ _=>⟨υ,l2,i2,e2,hk υ _ l2 i2 (Hk e2)⟩⟩
end
end
end Go.Proofs.YtbajmaoegmbfgaaGreat
