/- Worlds: lists of tries and of executions; the smallest functions. -/
import Derived.Test.YtbajmaoegmbfgaaGreatGEx24
import Derived.Test.YtbajmaoegmbfgaaGreatGAr8
import Derived.Test.YtbajmaoegmbfgaaGreatGJoin

set_option linter.unusedSimpArgs false
set_option linter.unusedVariables false
namespace Go.Ct
section
open Go Go.RowKit
section
variable{P:Program}{S:List (Nat×Value)}{d:Nat}{ty t t' e:TypeId}{pos:String}{af:Array Edge}{gd:Option (Nat×Bool)}{x y:Operand}{w0 w:World}{M:List Nat}{H:List (Nat×Obj)}{A F:Fr}{O:List Ow}{a:Option Addr}
theorem ve{cs:List Value}{kk:IntKind}{m c k:Nat}(hx:ev S x=.slice a m c)(hy:ev S y=.int kk ((k:Nat):Int))(ht:P.underlying t=some (.slice e))(hs:one P e=true)(hf:qD A F O a cs)(h1:k<m)(h2:k<cs.length) :
  aM P S (SF w0 M H A F O) ⟨some d,.indexAddr t x y,ty,pos,af,gd⟩ (.pointer (some ⟨cK a,dZ a+k,none⟩)):=⟨λ w hw =>
 (A7 (G:=SF w0 M H A F O) hx hy ht hs ((hw.cl hf).ptr (by omega)) h1).run w hw⟩
theorem Fp{cs:List Value}{q:Nat}{v:Value}(hx:ev S x=.pointer (some ⟨cK a,dZ a+q,none⟩))(ht:one P t=true)(hf:qD A F O a cs)(hq:cs[q]?=some v) :
  aM P S (SF w0 M H A F O) ⟨some d,.load t x,ty,pos,af,gd⟩ v:=oY hx ht (λ w hw=>hw.cl hf) hq
theorem vK{cs:List Value}{kk:IntKind}{m c k:Nat}(hx:ev S x=.slice a m c)(hy:ev S y=.int kk ((k:Nat):Int))(ht:P.underlying t=some (.slice e))(hs:iS P e 2=true)(hf:qD A F O a cs)(h1:k<m)(h2:2*k<cs.length) :
  aM P S (SF w0 M H A F O) ⟨some d,.indexAddr t x y,ty,pos,af,gd⟩ (.pointer (some ⟨cK a,dZ a+2*k,none⟩)):=⟨λ w hw =>
 (Qa (G:=SF w0 M H A F O) hx hy ht hs ((hw.cl hf).ptr (by omega)) h1).run w hw⟩
end
end
end Go.Ct
namespace Go.Proofs.YtbajmaoegmbfgaaGreat
section
open Go Go.RowKit Go.Ct
def tH(ts:List gK):List Value:=ts.flatMap λ t=>[.int .i64 t.root,.bool t.ro]
def Bi(es:List Nat):List Value:=es.map λ b=>.pointer (some ⟨b,0,none⟩)
theorem lG:∀ts:List gK,(tH ts).length=ts.length*2
 | []=>rfl
 | t::ts=>by
  have:=lG ts
  simp only[tH,List.flatMap_cons,List.length_append,List.length_cons,List.length_nil] at this ⊢
  omega
theorem ai(ts:List gK)(t:gK):tH (ts++[t])=tH ts++[.int .i64 t.root,.bool t.ro]:=by simp[tH]
theorem jd(es:List Nat)(b:Nat):Bi (es++[b])=Bi es++[.pointer (some ⟨b,0,none⟩)]:=by simp[Bi]
theorem Iz(es:List Nat):(Bi es).length=es.length:=by simp[Bi]
theorem G8:dJ Tryz.prog 32 29 [.int .i64 0,.bool false]:=lB (z:=.agg ⟨[.int .i64 0,.bool false]⟩) (by kernel_rfl) (by kernel_rfl) rfl
theorem Q7:dJ Tryz.prog 33 74 [.pointer none]:=lB (z:=.pointer none) (by kernel_rfl) (by kernel_rfl) rfl
theorem o9:dJ Tryz.prog 169 31 [.int .u64 0]:=lB (z:=.int .u64 0) (by kernel_rfl) (by kernel_rfl) rfl
abbrev kD(bm:Nat)(mask:Int)(pt:Option Addr)(nt kt:Nat)(pe:Option Addr)(ne ke:Nat):Obj:=.cells ⟨[.pointer (some ⟨bm,0,none⟩),.int .u64 mask,.slice pt nt kt,.slice pe ne ke]⟩ 35 (0,0)
def Ai:List Int:=[18446744073709551615,0,1,64,63,4095,9223372036854775808,4032,3458764513820540928,18446744073709551615]
theorem xa{l:List Int}{a:Option Addr}{b c k:Nat}{w:World}(ht:oo w b a l c k) :
  Calls Tryz.prog 65 #[.pointer (some ⟨b,0,none⟩)] w λ e w' =>
  ∃v:Nat,e=.returned (.int .u64 (Ai.getD v 0))/\v<10/\SF w [b] ((b,Bj a l c (kH l k))::[]) [] [] [] w':=by
 refine enter Tryz.func65 Tryz.ntmps65 rfl rfl ht.start ?_
 simp only[bX]
 refine cO ?_;refine J0 ?_;refine aS ((by exact Jj (λ _=>cJ (cs:=Ai.map (Value.int .u64)) o9 Jb rfl rfl rfl rfl rfl))) (λ x3=>?_);refine aA ?_;refine aD (uS (hc:=λ w1 hw=>eL 10 (hw.tape cQ fin ht.len) (by decide) (by decide))) (λ x5 h5=>?_);refine aC (ve (cs:=Ai.map (Value.int .u64)) rf rf fZ fQ fin (by omega) (by rw[List.length_map];simp only[Ai,List.length_cons,List.length_nil];omega)) rfl ?_;refine aC (Fp (cs:=Ai.map (Value.int .u64)) (v:=.int .u64 (Ai.getD x5 0)) rf fQ fin (by rw[List.getElem?_map,jH,List.getElem?_eq_getElem (by simp only[Ai,List.length_cons,List.length_nil];omega)];rfl)) rfl ?_;refine J1 ?_
 refine aT Tryz.results65 (λ w hw=>?_)
 exact⟨x5,rfl,by omega,hw.aU⟩
theorem ew{l:List Int}{a:Option Addr}{b c k:Nat}{w:World}(ht:oo w b a l c k) :
  Calls Tryz.prog 53 #[.pointer (some ⟨b,0,none⟩)] w λ e w' =>
  ∃v:Bool,e=.returned (.bool v)/\True/\SF w [b] ((b,Bj a l c k)::[]) [] [] [] w':=by
 refine enter Tryz.func53 Tryz.ntmps53 rfl rfl ht.start ?_
 simp only[bX]
 refine G0 ?_;refine gJ [0,1,2,3,4,5,6,7,8,9,10] ?_;refine D6 ?_;refine oC ?_;refine zZ ?_;refine J7 ?_
 refine aT Tryz.results53 (λ w hw=>?_)
 exact⟨_,rfl,trivial,hw.aU⟩
end

/- Worlds: Create, keep. -/
section
open Go Go.RowKit Go.Ct
structure KQ where
 ts:List gK
 es:List Nat
 pt:Option Addr
 kt:Nat
 pe:Option Addr
 ke:Nat
def Sq(dn:Bool)(rs:Rs)(bx:Nat)(ts:List gK)(es:List Nat)(q:KQ):Prop :=
 (dn=false/\q.es=es++[bx]/\q.ts=ts)∨(dn=true/\q.es=es/\(q.ts=ts∨(0<rs.root/\q.ts.length<=5/\q.ts=ts++[⟨rs.root,rs.ro⟩])))
section
variable{k:Cl}{bw bx bm:Nat}{x:XS}{dn:Bool}{rs:Rs}{D:List Nat}{A:Fr}{w:World}{mask:Int}{ts:List gK}{es:List Nat}{pt pe:Option Addr}{kt ke:Nat}
abbrev wL(ts:List gK)(es:List Nat)(pt:Option Addr)(kt:Nat)(pe:Option Addr)(ke:Nat):List Ow:=[⟨pt,tH ts,kt,29,2⟩,⟨pe,Bi es,ke,74,1⟩]
theorem aBQ(h:SF w D ((bw,kD bm mask pt ts.length kt pe es.length ke)::xH k bx bm x dn rs) A [] (wL ts es pt kt pe ke++xW x) w) :
  SF w D [(bw,.cells ⟨[.pointer (some ⟨bm,0,none⟩),.int .u64 mask,.slice pt ts.length kt,.slice pe es.length ke]⟩ 35 (0,0)),(bx,xO k bm x dn rs),(bm,xM x)] A [] [⟨pt,tH ts,kt,29,2⟩,⟨pe,Bi es,ke,74,1⟩,⟨x.pg,aG x.got,x.kg,37,1⟩,⟨x.pm,aG x.made,x.km,37,1⟩,⟨x.pl,aG x.cel,x.kl,27,1⟩,⟨x.pe,aG x.gns,x.ke,3,1⟩,⟨x.pn,hU x.L,x.cn,47,14⟩,⟨x.pc,aG x.cs,x.cc,37,1⟩] w:=h
theorem wo(hts:ts.length<=1000)(hes:es.length<=1000)(hs:SF w D ((bw,kD bm mask pt ts.length kt pe es.length ke)::xH k bx bm x dn rs) A [] (wL ts es pt kt pe ke++xW x) w):Calls Tryz.prog 115 #[.pointer (some ⟨bw,0,none⟩),.pointer (some ⟨bx,0,none⟩)] w λ e w'=>∃q:KQ,e=.returned (.tuple #[])/\Sq dn rs bx ts es q/\SF w D ((bw,kD bm mask q.pt q.ts.length q.kt q.pe q.es.length q.ke)::xH k bx bm x dn rs) [] [] (wL q.ts q.es q.pt q.kt q.pe q.ke++xW x) w':=by
 refine enter Tryz.func115 Tryz.ntmps115 rfl rfl (aBQ hs) ?_
 simp only[bX]
 refine J2 ?_;refine aD (cM (hs:=xH k bx bm x dn rs) (os:=xW x) (hc:=λ w hs=>Io hs)) (λ x6 h6=>?_);refine oH ?_
 refine bB (λ c7=>?_) (λ c7=>?_)
 ·refine I2 ?_;refine dE ?_;refine J3 ?_;refine aA ?_;refine aS ((by exact Jj (λ _=>cJ (cs:=Bi [bx]) Q7 Jb rfl rfl rfl rfl rfl))) (λ x14=>?_);(refine aS (bE.eN (fT (sz:=1) (cs:=Bi es) rf rf (.tail .head) (by rw[Iz];omega) fin rfl rfl Q7 rfl (by decide) fZ (by omega)) uD) (λ x15=>?_);try (refine eX (λ h15=>?_)));refine Qj ?_
  refine Dz Tryz.results115 (λ w hw=>?_)
  first
  | exact⟨⟨ts,es++[bx],pt,kt,x15.1,x15.2⟩,rfl,.inl ⟨by simpa using c7,rfl,rfl⟩,by dsimp only[wL];rw[jd,show(es++[bx]).length=es.length+1 by simp];exact hw.aU⟩
  | exact⟨⟨ts,es,pt,kt,pe,ke⟩,rfl,.inr ⟨by simpa using c7,rfl,.inl rfl⟩,hw.aU⟩
 ·refine J2 ?_;refine aD (cM (hs:=xH k bx bm x dn rs) (os:=xW x) (hc:=λ w hs=>O8 hs)) (λ x19 h19=>?_);refine aJ (λ x4=>?_);refine J5 ?_;refine J0 ?_;refine aE ?_;refine J3 ?_;refine Dh ?_;refine aA ?_
  (refine eE 24 (λ g24=>?_) (λ g24=>?_)<;>(first|refine aI ?_|(refine aF ?_;refine aA ?_)))
  all_goals ((first|refine aI ?_|(refine aF ?_;refine dE ?_));refine S4 ?_;refine v5 ?_;refine aH ?_)
  all_goals
  refine bB (λ c31=>?_) (λ c31=>?_)
  ·try exact nv c31
   all_goals (refine dK [(0,[]),(1,[]),(2,[]),(3,[]),(4,[]),(5,[]),(6,[]),(7,[4]),(8,[]),(9,[]),(10,[]),(11,[])] ?_;refine Y0 ?_;refine aR ?_;refine bQ (i:=6) (hq:=(aQ (k:=2) (vs:=[.int .i64 rs.root,.bool rs.ro]) rf cQ eD rfl rfl)) (h:=?_);refine cH (i:=7) (hq:=((by exact Jj (λ _=>cJ (cs:=tH [⟨rs.root,rs.ro⟩]) G8 Jb rfl rfl rfl rfl rfl)))) (h:=λ x39=>?_);((refine cH (i:=8) (hq:=(bE.eN (fT (sz:=2) (cs:=tH ts) rf rf .head (by rw[lG]) fin rfl rfl G8 rfl (by decide) fZ (by omega)) uD)) (h:=λ x40=>?_);try (refine eC (λ h40=>?_))));refine J88 ?_)
   all_goals
    refine Dz Tryz.results115 (λ w hw=>?_)
    first
    | exact⟨⟨ts++[⟨rs.root,rs.ro⟩],es,x40.1,x40.2,pe,ke⟩,rfl,.inr ⟨by simpa using c7,rfl,.inr ⟨by omega,by show(ts++[(⟨rs.root,rs.ro⟩:gK)]).length<=5;simp;omega,rfl⟩⟩,by dsimp only[wL];rw[ai,show(ts++[(⟨rs.root,rs.ro⟩:gK)]).length=ts.length+1 by simp];exact hw.aU⟩
    | exact⟨⟨ts,es,pt,kt,pe,ke⟩,rfl,.inr ⟨by simpa using c7,rfl,.inl rfl⟩,hw.aU⟩
  ·all_goals refine bA ?_
   all_goals
    refine Dz Tryz.results115 (λ w hw=>?_)
    first
    | exact⟨⟨ts,es,pt,kt,pe,ke⟩,rfl,.inr ⟨by simpa using c7,rfl,.inl rfl⟩,hw.aU⟩
theorem se(hts:ts.length<=1000)(hes:es.length<=1000)(hs:SF w D [(bw,kD bm mask pt ts.length kt pe es.length ke),(bx,xO k bm x dn rs),(bm,xM x)] A [] [⟨pt,tH ts,kt,29,2⟩,⟨pe,Bi es,ke,74,1⟩,⟨x.pg,aG x.got,x.kg,37,1⟩,⟨x.pm,aG x.made,x.km,37,1⟩,⟨x.pl,aG x.cel,x.kl,27,1⟩,⟨x.pe,aG x.gns,x.ke,3,1⟩,⟨x.pn,hU x.L,x.cn,47,14⟩,⟨x.pc,aG x.cs,x.cc,37,1⟩] w):Calls Tryz.prog 115 #[.pointer (some ⟨bw,0,none⟩),.pointer (some ⟨bx,0,none⟩)] w λ e w'=>∃q:KQ,e=.returned (.tuple #[])/\Sq dn rs bx ts es q/\SF w D [(bw,kD bm mask q.pt q.ts.length q.kt q.pe q.es.length q.ke),(bx,xO k bm x dn rs),(bm,xM x)] [] [] [⟨q.pt,tH q.ts,q.kt,29,2⟩,⟨q.pe,Bi q.es,q.ke,74,1⟩,⟨x.pg,aG x.got,x.kg,37,1⟩,⟨x.pm,aG x.made,x.km,37,1⟩,⟨x.pl,aG x.cel,x.kl,27,1⟩,⟨x.pe,aG x.gns,x.ke,3,1⟩,⟨x.pn,hU x.L,x.cn,47,14⟩,⟨x.pc,aG x.cs,x.cc,37,1⟩] w':=wo hts hes hs
end
end

/- Worlds: Create. -/
section
open Go Go.RowKit Go.Ct
def fo:Nd:={Nd.zero with kind:=3}
def aAj(g:Int):Nd:={Nd.zero with kind:=2,gen:=g}
def L4(x y:AX):List aP:=[fL,fL]++[kV fo [] [] 0 x]++[kV (aAj 1) [] [] 1 y]
theorem lb{x y:AX}:∀f∈aK (L4 x y),f.2=[]:=by
 intro f hf
 simp[aK,L4,aP.fr,fL,kV,aG,cU] at hf
 rcases hf with hf|hf|hf|hf|hf|hf|hf|hf<;>rw[hf]
theorem Po{w:World}{D:List Nat}{b:Nat}{acc:Int}{pn:Option Addr}{cn:Nat}{A:Fr}(hs:SF w D [(b,mO [fL,fL] [] 0 acc pn cn none 0)] A [] (mW [fL,fL] [] pn cn none 0) w) :
  Calls Tryz.prog 66 #[.pointer (some ⟨b,0,none⟩)] w λ e w'=>∃q:AX×AX×Option Addr×Nat,e=.returned (.agg ⟨[.int .i64 3,.bool false]⟩)/\True /\
   SF w D [(b,mO (L4 q.1 q.2.1) [0,3,4] 1 acc q.2.1.pn q.2.1.cn q.2.2.1 q.2.2.2)] [] (aK (L4 q.1 q.2.1)) (mW (L4 q.1 q.2.1) [0,3,4] q.2.1.pn q.2.1.cn q.2.2.1 q.2.2.2) w':=by
 refine enter Tryz.func66 Tryz.ntmps66 rfl rfl (yQ hs) ?_
 simp only[bX]
 refine J0 ?_;refine aJ (λ x2=>?_);refine aH ?_;refine J2 ?_;refine bJ ?_;refine aD (cM (A0:=[(none,aG []),(none,cU [])]) (hc:=λ w hs=>A3 (L:=[fL,fL]) (cs:=[]) (n:=fo) (xs:=[]) (ys:=[]) 0 hs rfl rfl (by decide) (by decide) (by decide) (by decide))) (λ x7 h7=>?_);refine J1 ?_;refine J2 ?_;refine aD (cM (hc:=λ w hs=>K9 (L:=[fL,fL]++[kV fo [] [] 0 x7]) (cs:=[0]) hs)) (λ x9 h9=>?_);refine yE ?_;refine aA ?_;refine bJ ?_;refine aA ?_;refine aD (cM (A0:=[(none,aG []),(none,cU [])]) (hc:=λ w hs=>A3 (L:=[fL,fL]++[kV fo [] [] 0 x7]) (cs:=[0]) (n:=aAj 1) (xs:=[]) (ys:=[]) 3 hs rfl rfl (by decide) (by decide) (by simp) (by decide))) (λ x15 h15=>?_);refine aD (cM (hc:=λ w hs=>lK (L:=L4 x7 x15) (cs:=[0,3]) 4 hs (by decide))) (λ x16 h16=>?_);refine vB ?_
 refine bC Tryz.results66 (λ w hw=>?_)
 exact⟨(x7,x15,x16.1,x16.2),rfl,trivial,(hw.eY (λ f hf=>.inl (lb f hf))).aU (hF:=by exact aY.all)⟩
end

/- Calls that may change known blocks and own lists, and leave new ones. -/
section
open Go Go.RowKit Go.Ct
section
variable{S:List (Nat×Value)}{w0 w:World}{M:List Nat}{H:List (Nat×Obj)}{A F:Fr}{O:List Ow}{ty:TypeId}{pos:String}{af:Array Edge}{gd:Option (Nat×Bool)}{X:Type}{V:X->Value}
theorem Sh{φ:X->Prop}{hs H':List (Nat×Obj)}{os O':List Ow}{hs' Hc H1:X->List (Nat×Obj)}{os' Oc O1:X->List Ow}{Fc F1:X->Fr}{A0:Fr}{is js:List Nat}{f:FuncId}{xs:List Operand}{at_:Array TypeId}{vs:List Value}{dst:Option Nat}
  (ha:qS S xs=vs:=by(repeat (first|exact dC _|(apply cI;focus ((conv=>{lhs;whnf});try exact rfl))));first|done|fail) (hp:plain Tryz.prog f=true:=by kernel_rfl)
  (hc:∀w,SF w (Ks hs os) hs A0 [] os w->Calls Tryz.prog f ⟨vs⟩ w λ e w'=>∃x,e=.returned (V x)/\φ x/\SF w (Ks hs os) (hs' x++Hc x) [] (Fc x) (os' x++Oc x) w')
  (hH:lX H is hs H':=by(repeat (first|exact lX.nil|(apply lX.cons;(focus ((repeat (first|exact yN.head|apply yN.tail));done));simp only[qF])));first|done|fail)
  (hO:lX O js os O':=by(repeat (first|exact lX.nil|(apply lX.cons;(focus ((repeat (first|exact yN.head|apply yN.tail));done));simp only[qF])));first|done|fail)
  (hA:aW A F O' A0:=by(repeat (first|exact aW.of (λ _ h=>Or.inr (Or.inl h))|exact aW.nil|(refine aW.cons (by first|exact Or.inl rfl|exact Or.inr (Or.inr (Or.inl (by simp)))|exact Or.inr (Or.inl (by simp))|exact Or.inr (Or.inr (Or.inr (by simp)))) ?_)));first|done|fail)
  (hl1:∀x,is.length=(hs' x).length:=by intro x;exact rfl) (hl2:∀x,js.length=(os' x).length:=by intro x;exact rfl)
  (hH1:∀x,Hc x++iQ is (hs' x) H'=H1 x:=by intro x;first|(simp only[iQ,qW,List.nil_append,List.cons_append];exact rfl)|exact rfl) (hF1:∀x,Fc x++F=F1 x:=by intro x;first|(simp only[List.nil_append,List.cons_append];exact rfl)|exact rfl) (hO1:∀x,Oc x++iQ js (os' x) O'=O1 x:=by intro x;simp only[iQ,qW,mW,List.nil_append,List.cons_append];exact rfl) :
  bE Tryz.prog S (SF w0 M H A F O) ⟨dst,.call {callee:=.value (.func f),args:=⟨xs⟩,argTypes:=at_},ty,pos,af,gd⟩ X V (λ x w=>φ x/\SF w0 M (H1 x) A (F1 x) (O1 x) w) :=
 hZ (mP hp ha) λ w hw=>(hc w (hw.pP hH hO hA)).mono λ _ _ ⟨x,he,hx,hs⟩=>⟨x,he,hx,by
  have:=hw.xL (hs':=hs' x) (Hc:=Hc x) (os':=os' x) (Oc:=Oc x) hH hO hs (hl1 x) (hl2 x)
  rw[<- hH1 x,<- hF1 x,<- hO1 x]
  exact this⟩
end
end

/- Worlds: an execution is run. -/
end Go.Proofs.YtbajmaoegmbfgaaGreat
namespace Go.Ct
section
open Go Go.RowKit
theorem Rc.trans{i j:Nat}{t t1 t2:Tr}{s s1 s2:Mm}(h1:Rc i t s t1 s1)(h2:Rc j t1 s1 t2 s2):Rc (i+j) t s t2 s2:=by
 induction h2 with
 | refl t s=>exact h1
 | iO _ hs ih=>exact .iO (ih h1) hs
 | loud _ hs ih=>exact .loud (ih h1) hs
def Sz(x:XS)(B:Nat):Prop:=x.L.length<=B/\x.cs.length<=B/\x.gen<=B
theorem Cc{T R R':Tr}{x x':XS}{dn:Bool}{rs:Rs}{j N B:Nat}(h:nq T x dn rs R)(hd:dn=false)(hT:bR T N 64)(hN:x.got.length+1<=N)(hr:Rc j R x.mm R' x'.mm)(hj:j<=1)(hs:Sz x B):Sz x' (B+128):=by
 rcases h.Tn with⟨e,_⟩|⟨_,e⟩
 ·rw[hd] at e;cases e
 ·obtain⟨c,h1,_,_⟩:=h.wk.rP (Nat.le_refl 64) hT (by omega)
  obtain⟨c',h2,h3,h4,h5,h6,h7⟩:=hr.rP (Nat.le_refl 64) (Fw e h1 (by omega)) (by omega)
  obtain⟨s1,s2,s3⟩:=hs
  simp only[XS.mm,List.length_map] at h5 h6 h7
  exact⟨by omega,by omega,by omega⟩
theorem Iw{T R':Tr}{x x':XS}{j N B:Nat}(hT:bR T N 64)(hr:Rc j T x.mm R' x'.mm)(hj:j<=0)(hs:Sz x B):Sz x' (B+64):=by
 obtain⟨c',h2,h3,h4,h5,h6,h7⟩:=hr.rP (Nat.le_refl 64) hT (by omega)
 obtain⟨s1,s2,s3⟩:=hs
 simp only[XS.mm,List.length_map] at h5 h6 h7
 exact⟨by omega,by omega,by omega⟩
end
end Go.Ct
namespace Go.Proofs.YtbajmaoegmbfgaaGreat
section
open Go Go.RowKit Go.Ct
noncomputable def T0 (k:Cl) (m:Nat):Tr:=kU k (lZ k.key m) 1073741824
theorem jY(k:Cl)(m:Nat){n:Nat}(h:n<1073741824):bR (T0 k m) n 64:=Jy h
def xE(k:Cl)(bm b:Nat)(x:XS)(dn:Bool)(rs:Rs):List (Nat×Obj):=if dn=true then [] else [(b,xO k bm x false rs)]
def xE4(x:XS)(dn:Bool):List Ow:=if dn=true then [] else [⟨x.pg,aG x.got,x.kg,37,1⟩,⟨x.pm,aG x.made,x.km,37,1⟩,⟨x.pl,aG x.cel,x.kl,27,1⟩,⟨x.pe,aG x.gns,x.ke,3,1⟩]
structure RY where
 i:Nat
 x:XS
 N:List aP
 dn:Bool
 rs:Rs
 R:Tr
structure Ll(k:Cl)(m:Nat)(x0:XS)(B:Nat)(y:RY):Prop where
 ex:nq (T0 k m) y.x y.dn y.rs y.R
 rc:∃j,Rc j (T0 k m) x0.mm y.R y.x.mm
 ext:y.x.L=x0.L++y.N
 lc:x0.cs.length<=y.x.cs.length
 gl:y.x.got.length<=y.i
 sz:Sz y.x (B+64+128*y.i)
theorem Ll.po{k:Cl}{m N:Nat}{x0 x':XS}{B:Nat}{N':List aP}{dn:Bool}{rs:Rs}(hN:N<1073741824)(h:tS (T0 k m) (T0 k m) 0 0 Rs.zero x0 x' N' dn rs)(hs:Sz x0 B):∃R,Ll k m x0 B ⟨0,x',N',dn,rs,R⟩:=by
 obtain⟨R',j,h1,h2,h3,h4,h5,h6⟩:=h.exI
 exact⟨R',h3,⟨j,h4⟩,h5,h6,by have:=h.gl;show x'.got.length<=0;omega,Iw (jY k m hN) h4 h1 hs⟩
theorem Ll.step{k:Cl}{m:Nat}{x0 x':XS}{B:Nat}{y:RY}{N':List aP}{dn:Bool}{rs:Rs}(hi:Ll k m x0 B y)(hd:y.dn=false)(hB:y.i<1073741822)(h:tS (T0 k m) y.R 1 (y.x.got.length+1) y.rs y.x x' N' dn rs):∃R,Ll k m x0 B ⟨y.i+1,x',y.N++N',dn,rs,R⟩:=by
 obtain⟨R',j,h1,h2,h3,h4,h5,h6⟩:=h.exI
 obtain⟨j0,hj0⟩:=hi.rc
 have hg:=hi.gl
 refine⟨R',h3,⟨j0+j,hj0.trans h4⟩,by show x'.L=_;rw[h5,hi.ext,List.append_assoc],Nat.le_trans hi.lc h6,by have:=h.gl;show x'.got.length<=y.i+1;omega,?_⟩
 have:=Cc hi.ex hd (jY k m (n:=y.x.got.length+1) (by omega)) (Nat.le_refl _) h4 h1 hi.sz
 rw[show B+64+128*(y.i+1)=B+64+128*y.i+128 by omega]
 exact this
section
variable{k:Cl}{bw bm m B:Nat}{L:List aP}{cs:List Int}{gen acc:Int}{pn pc:Option Addr}{cn cc:Nat}{D:List Nat}{A:Fr}{w:World}{mask:Int}{ts:List gK}{es:List Nat}{pt pe:Option Addr}{kt ke:Nat}
theorem wC(hsz:L.length<=137438953472/\cs.length<=137438953472/\gen<=137438953472)(hk:Yo k)(hm:m<18446744073709551616)(em:k.mask=(m:Int))(ht:k.t.root<=9223372036854775807)(ha:k.a<=L.length)(hb:k.b<=L.length)(hnn:k.n<=L.length)(hA:∀f∈aK L,f∈A)(ok:(XS.new L cs gen acc pn cn pc cc).Ok)(hs:SF w D [(bm,mO L cs gen acc pn cn pc cc)] A [] [⟨pn,hU L,cn,47,14⟩,⟨pc,aG cs,cc,37,1⟩] w):Calls Tryz.prog 49 #[.pointer (some ⟨bm,0,none⟩),.agg ⟨Rr k⟩] w λ e w'=>∃q:Nat×XS×List aP×Bool×Rs,e=.returned (.pointer (some ⟨q.1,0,none⟩))/\tS (T0 k m) (T0 k m) 0 0 Rs.zero (XS.new L cs gen acc pn cn pc cc) q.2.1 q.2.2.1 q.2.2.2.1 q.2.2.2.2/\SF w D ([(bm,xM q.2.1)]++[(q.1,xO k bm q.2.1 q.2.2.2.1 q.2.2.2.2)]) [] (aK q.2.2.1) ([⟨q.2.1.pn,hU q.2.1.L,q.2.1.cn,47,14⟩,⟨q.2.1.pc,aG q.2.1.cs,q.2.1.cc,37,1⟩]++[⟨q.2.1.pg,aG q.2.1.got,q.2.1.kg,37,1⟩,⟨q.2.1.pm,aG q.2.1.made,q.2.1.km,37,1⟩,⟨q.2.1.pl,aG q.2.1.cel,q.2.1.kl,27,1⟩,⟨q.2.1.pe,aG q.2.1.gns,q.2.1.ke,3,1⟩]) w' :=
 (si (N:=0) (n:=1073741824) (m:=m) (jY k m (by decide)) (by decide) hsz hk (Nat.le_refl _) hm em ht ha hb hnn hA ok hs).mono λ _ _ ⟨q,e,h,hw⟩=>⟨q,e,h,hw.perm (List.Perm.swap _ _ _) (List.perm_append_comm (l₁:=[_,_]) (l₂:=[_,_,_,_]))⟩
set_option maxHeartbeats 1000000 in
theorem wb(steps:Nat)(hst:steps<=1048576)(hB:B<=100000000000)(hsz:Sz (XS.new L cs gen acc pn cn pc cc) B)(hk:Yo k)(hm:m<18446744073709551616)(em:k.mask=(m:Int))(ht:k.t.root<=9223372036854775807)(ha:k.a=0)(hb:k.b=0)(hnn:k.n=0)(hA:∀f∈aK L,f∈A)(ok:(XS.new L cs gen acc pn cn pc cc).Ok)(hts:ts.length<=1000)(hes:es.length<=1000)
  (hs:SF w D [(bw,kD bm mask pt ts.length kt pe es.length ke),(bm,mO L cs gen acc pn cn pc cc)] A [] [⟨pt,tH ts,kt,29,2⟩,⟨pe,Bi es,ke,74,1⟩,⟨pn,hU L,cn,47,14⟩,⟨pc,aG cs,cc,37,1⟩] w) :
  Calls Tryz.prog 67 #[.pointer (some ⟨bw,0,none⟩),.agg ⟨Rr k⟩,.int .i64 (steps:Int)] w λ e w'=>∃q:Nat×RY×KQ,e=.returned (.tuple #[])/\(Ll k m (XS.new L cs gen acc pn cn pc cc) B q.2.1/\q.2.1.i<=steps/\Sq q.2.1.dn q.2.1.rs q.1 ts es q.2.2) /\
   SF w D (xE k bm q.1 q.2.1.x q.2.1.dn q.2.1.rs++[(bw,kD bm mask q.2.2.pt q.2.2.ts.length q.2.2.kt q.2.2.pe q.2.2.es.length q.2.2.ke),(bm,xM q.2.1.x)]) [] (aK q.2.1.N) (xE4 q.2.1.x q.2.1.dn++[⟨q.2.2.pt,tH q.2.2.ts,q.2.2.kt,29,2⟩,⟨q.2.2.pe,Bi q.2.2.es,q.2.2.ke,74,1⟩,⟨q.2.1.x.pn,hU q.2.1.x.L,q.2.1.x.cn,47,14⟩,⟨q.2.1.x.pc,aG q.2.1.x.cs,q.2.1.x.cc,37,1⟩]) w':=by
 have hL:(0:Int)<=L.length:=bH _
 have hsz2:=hsz
 obtain⟨s1,s2,s3⟩:=hsz2
 simp only[XS.new] at s1 s2 s3
 refine enter Tryz.func67 Tryz.ntmps67 rfl rfl hs ?_
 simp only[bX]
 refine J0 ?_;refine bI (λ x4=>?_);refine Rt ?_;refine gJ [0,1,2,3,4,5,6] ?_;refine R7 ?_;refine bG ?_;refine aZ (i:=5) (hq:=(Sh (hs:=[(bm,mO L cs gen acc pn cn pc cc)]) (os:=[⟨pn,hU L,cn,47,14⟩,⟨pc,aG cs,cc,37,1⟩]) (A0:=aK L) (hA:=aW.of λ f hf=>.inr (.inl (hA f hf))) (hc:=λ w hs=>wC (m:=m) ⟨by omega,by omega,by omega⟩ hk hm em ht (by omega) (by omega) (by omega) (λ f hf=>hf) ok hs))) (h:=λ x13 h13=>?_);refine J7 ?_;refine aV ?_;refine Du ?_
 obtain⟨R0,hR0⟩:=Ll.po (B:=B) (N:=0) (by decide) h13 hsz
 refine mZ [7,14,15,16,17,18,19,20,21,22,23,24,25] (λ y:RY=>[(7,.int .i64 ((y.i:Nat):Int))]) (λ y=>Ll k m (XS.new L cs gen acc pn cn pc cc) B y/\y.i<=steps) (λ y=>[(x13.1,xO k bm y.x y.dn y.rs),(x4,.cells ⟨Rr k⟩ 89 (0,0)),(bw,kD bm mask pt ts.length kt pe es.length ke),(bm,xM y.x)]) (λ y=>aK y.N) (λ y=>[⟨y.x.pg,aG y.x.got,y.x.kg,37,1⟩,⟨y.x.pm,aG y.x.made,y.x.km,37,1⟩,⟨y.x.pl,aG y.x.cel,y.x.kl,27,1⟩,⟨y.x.pe,aG y.x.gns,y.x.ke,3,1⟩,⟨pt,tH ts,kt,29,2⟩,⟨pe,Bi es,ke,74,1⟩,⟨y.x.pn,hU y.x.L,y.x.cn,47,14⟩,⟨y.x.pc,aG y.x.cs,y.x.cc,37,1⟩]) (λ y=>steps-y.i) (⟨0,x13.2.1,x13.2.2.1,x13.2.2.2.1,x13.2.2.2.2,R0⟩) (⟨hR0,Nat.zero_le _⟩) (λ y f hx=>?_) (hw0:=λ w hw=>by rw[List.append_nil] at hw;exact hw.back (hF:=by exact aY.all))
 dsimp only[gU,List.map,List.cons_append,List.nil_append]
 obtain⟨hi,his⟩:=hx
 have hsx:=hi.sz
 obtain⟨z1,z2,z3⟩:=hsx
 have hgl:=hi.gl
 refine kB ?_;refine aD (cM (hs:=xH k x13.1 bm y.x y.dn y.rs) (os:=xW y.x) (hc:=λ w hs=>Io hs)) (λ x15 h15=>?_);refine Bt ?_
 (refine eE 17 (λ g17=>?_) (λ g17=>?_)<;>(first|refine aI ?_|(refine aF ?_;refine aA ?_)))
 all_goals ((first|refine aI ?_|(refine aF ?_;refine aA ?_));refine v5 ?_;refine aH ?_)
 all_goals
 refine bB (λ c21=>?_) (λ c21=>?_)
 ·try exact nv c21
  all_goals (refine qE ?_;refine An ?_;refine aD (cM (hs:=xH k x13.1 bm y.x y.dn y.rs) (os:=xW y.x) (A0:=aK y.x.L) (hA:=aW.of λ f hf=>by rw[hi.ext,dA] at hf;rcases List.mem_append.1 hf with hf|hf;exact .inr (.inl (hA f hf));exact .inr (.inr (.inl hf))) (hc:=λ w hs=>Uc (N:=y.x.got.length+1) (n:=1073741824) (m:=m) (jY k m (by omega)) (by omega) rfl ⟨by omega,by omega,by omega⟩ hi.ex hk (Nat.le_refl _) hm em ht (by rw[ha];exact bH _) (by rw[hb];exact bH _) (by rw[hnn];exact bH _) (λ f hf=>hf) hs)) (λ x25 h25=>?_);refine aH ?_;refine fK ?_;refine uN ?_)
  all_goals
   have hdf:y.dn=false:=by simp_all
   have hq:tS (T0 k m) y.R 1 (y.x.got.length+1) y.rs y.x x25.1 x25.2.1 x25.2.2.1 x25.2.2.2:=by rcases h25 with h|h;rw[hdf] at h;cases h.1;exact h.2
   obtain⟨R1,hR1⟩:=hi.step hdf (by omega) hq
   refine iP (⟨y.i+1,x25.1,y.N++x25.2.1,x25.2.2.1,x25.2.2.2,R1⟩) ?_ (hw1:=λ w hw=>hw.back (hF:=by rw[dA];exact aY.hX λ f hf=>(List.mem_append.1 hf).elim (λ h=>List.mem_append_right _ h) (λ h=>List.mem_append_left _ h)))
   ·exact⟨hR1,by show y.i+1<=steps;omega⟩
 ·all_goals (refine bN rfl ?_;refine I2 ?_;refine aD (cM (hs:=[(bw,kD bm mask pt ts.length kt pe es.length ke),(x13.1,xO k bm y.x y.dn y.rs),(bm,xM y.x)]) (os:=[⟨pt,tH ts,kt,29,2⟩,⟨pe,Bi es,ke,74,1⟩,⟨y.x.pg,aG y.x.got,y.x.kg,37,1⟩,⟨y.x.pm,aG y.x.made,y.x.km,37,1⟩,⟨y.x.pl,aG y.x.cel,y.x.kl,27,1⟩,⟨y.x.pe,aG y.x.gns,y.x.ke,3,1⟩,⟨y.x.pn,hU y.x.L,y.x.cn,47,14⟩,⟨y.x.pc,aG y.x.cs,y.x.cc,37,1⟩]) (hc:=λ w hs=>se hts hes hs)) (λ x28 h28=>?_);refine aH ?_)
  all_goals
   refine Dz Tryz.results67 (λ w hw=>?_)
   rcases y with⟨i,x,N,dn,rs,R⟩
   cases dn with
   | true=>exact⟨(x13.1,⟨i,x,N,true,rs,R⟩,x28),rfl,⟨hi,his,h28⟩,hw.aU (hF:=by exact aY.all)⟩
   | false=>exact⟨(x13.1,⟨i,x,N,false,rs,R⟩,x28),rfl,⟨hi,his,h28⟩,hw.aU (hF:=by exact aY.all)⟩
end
end

end Go.Proofs.YtbajmaoegmbfgaaGreat
