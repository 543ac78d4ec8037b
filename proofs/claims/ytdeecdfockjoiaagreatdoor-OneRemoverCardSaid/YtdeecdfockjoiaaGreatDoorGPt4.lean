/- Merged. -/
import Derived.Test.YtdeecdfockjoiaaGreatDoorGCmh
import Derived.Test.YtdeecdfockjoiaaGreatDoorGRt2
set_option linter.unusedSimpArgs false
set_option linter.unusedVariables false
namespace Go.Proofs.YtdeecdfockjoiaaGreatDoor
open Go Go.RowKit Go.Ct
section
theorem y5(v:dW)(b:Nat)(i r:Int):O0 v.c.nd v.c.xs v.c.ys b i r=O0 v.nd v.xs v.ys b i r:=by unfold O0;simp only[show CV v.c.nd v.c.xs v.c.ys=CV v.nd v.xs v.ys from Jz];rfl
theorem La(v:dW)(b:Nat)(i r:Int):Cy v.c.nd v.c.xs v.c.ys b i r=Cy v.nd v.xs v.ys b i r:=by unfold Cy;simp only[show CV v.c.nd v.c.xs v.c.ys=CV v.nd v.xs v.ys from Jz];rfl
abbrev Sw(c:jQ):Nd:={Nd.zero with kind:=4,hash:=(c.h:Int),key:=c.key,val:=c.val}
variable{v:dW}{n k:Nat}{i r:Int}
theorem fq{c:jQ}(hh:c.h<18446744073709551616)(m k:Nat):oP m k {(Sw c).c [] [] with main:=0,prev:=0,status:=0}:=⟨fN _,fN _,fN _,(λ r hr=>nomatch hr),fN _,fN _,fN _,⟨0,rfl,by decide⟩,⟨c.h,rfl,hh⟩⟩
theorem u7(hv:oP n k v.c)(h:(W1 v i r).isSome=true):v.xs.length<=1000:=by
 have hc:CV v.nd v.xs v.ys:=by
  unfold W1 O0 at h;split at h;·rename_i hc;exact hc.1
  ·cases h
 exact Nat.le_trans (Lv (hc.bv (eE hv).1 (eE hv).2)) (by decide)
theorem wK(hv:oP n k v.c)(h:(nQ v i r).isSome=true):v.xs.length<=1000:=by
 have hc:CV v.nd v.xs v.ys:=by
  unfold nQ Cy at h;split at h;·rename_i hc;exact hc.1
  ·cases h
 exact Nat.le_trans (Lv (hc.bv (eE hv).1 (eE hv).2)) (by decide)
theorem Ng{o:Option (Nat×List Int)}(h:o.isSome=true)(x:Option Addr×Nat):(lI o x).brA=x.1:=by
 cases o with
 | none=>cases h
 | some q=>rfl
theorem wU{m:Nat}{o:Option (Nat×List Int)}(h:Gg m o):(gY o).length<=1000:=by
 cases o with
 | none=>exact Nat.zero_le _
 | some q=>exact Nat.le_trans (h.out q rfl).2.1 (by decide)
section
variable{D:List Nat}{A B:Fr}{a:AS}{b u:Nat}{w:World}{f:FuncId}{cap:yK}{t:oB}{c:jQ}
abbrev AS.sg(a:AS)(c:jQ)(x:AX):AS:=a.al (Sw c) [] [] 0 x
theorem wH(a:AS)(c:jQ)(x:AX):(AS.sg a c x).mm.nodes.length=a.mm.nodes.length+1:=by rw[fK];show(_++[_]).length=_;rw[List.length_append];rfl
theorem Zz{T:Tr}{level:Nat}(hd:U9 b u c T)(ht:c.t.root<=9223372036854775807)(hh:c.h<18446744073709551616){g par r l m:Int}{v:dW}(hv:oP a.mm.nodes.length a.mm.cs.length v.c)(hf:v.Fit)(hc1:v.xs.length<=v.nd.brC)(hAx:(v.nd.brA,aT v.xs)∈A)(hAy:(v.nd.prA,dF v.ys)∈A)(hpv:a.pv=((u,pO b c g par r l),Hv))(hr:r<=a.mm.nodes.length)(hmm:m<=a.mm.nodes.length)
  (hin:fQ c false 0=true->(W1 v (eP c.h level) ((a.mm.nodes.length+1:Nat):Int)).isSome=true) (ok:a.Ok) (hm0:a.mm.iL) (hA:∀f∈dD a.L,f∈A) (hB:∀x∈B,x∈A) (hs:SF w D [(b,dV a),(a.u,a.po)] A [] (iS a) w) :
  Calls Tryz.prog 253 #[pt u,.int .i64 m,v.nd.v,.int .i64 (eP c.h level)] w (jP b (λ c' s' B'=>eH b (if fQ c false 0=true then .alloc (gA c.h c.key c.val) 0 λ s=>.alloc (az v.c (eP c.h level) s) m λ q=>iN c.t r m q (uN T false 0) else .done (eG false 0)) a.mm c' s' B') a B D w):=by
 obtain⟨a0,rfl⟩:∃a0:AS,a=AS.wp a0 u (pO b c g par r l):=⟨a,uA hpv⟩;have hm:=hm0.small;have okx:∀x:AX,(AS.sg (AS.wp a0 u (pO b c g par r l)) c x).Ok:=λ x=>ok.al x (by simp) (by simp) (fq hh _ _) (by omega)
 have hmx:∀x:AX,(AS.sg (AS.wp a0 u (pO b c g par r l)) c x).mm.nodes.length<=137438953100/\(AS.sg (AS.wp a0 u (pO b c g par r l)) c x).mm.cs.length<=137438953100:=λ x=>by have h1:=hm0.1;have h2:=hm0.2;refine⟨by rw[wH];omega,?_⟩;rw[fK];exact Nat.le_trans h2 (by decide)
 have hv2:oP ((AS.wp a0 u (pO b c g par r l)).mm.nodes.length+1) (AS.wp a0 u (pO b c g par r l)).mm.cs.length v.c:=hv.mono (Nat.le_succ _) (Nat.le_refl _);refine enter Tryz.func253 Tryz.ntmps253 rfl rfl hs ?_;simp only[cN]
 simp only[Nd.v,Nd.cells];refine J0 ?_;refine bC (λ x6=>?_);refine aJ (λ x8=>?_);refine Ke3 ?_;refine aH (cV (hc:=λ w1 hw=>rC (hw.st.at bI) false 0)) (λ x13=>?_);refine pU ?_;refine aX (λ c14=>?_) (λ c14=>?_);·refine J0 ?_;refine aH (cV (hc:=λ w1 hw=>qV false 0 w1)) (λ x15=>?_);refine aM (cC λ _=>aC rf bI rf (aY _) cY rf dM) (λ _=>?_);refine aE ?_;refine bF Tryz.results253 (λ w hw=>?_);refine⟨(fE (eG false 0),[],AS.wp a0 u (pO b c g par r l)),rfl,⟨?_,ok,AS.fF.refl _⟩,hw.rI⟩;rw[if_neg (by simpa using c14)];exact⟨rfl,rfl⟩
 ·refine K1x ?_;refine bR (i:=17) (hq:=(cV (hc:=λ w1 hw=>Bw (c.h:Int) c.key c.val w1))) (h:=λ x33=>?_);refine bE (i:=20) (hq:=(Ju (V:=λ _:AX=>.int .i64 (((AS.wp a0 u (pO b c g par r l)).mm.nodes.length+1:Nat):Int)) (hs:=[(b,dV (AS.wp a0 u (pO b c g par r l)))]) (os:=kM (AS.wp a0 u (pO b c g par r l))) (A0:=[(none,aT []),(none,dF [])]) (hs':=λ x=>[(b,dV (AS.sg (AS.wp a0 u (pO b c g par r l)) c x))]) (os':=λ x=>kM (AS.sg (AS.wp a0 u (pO b c g par r l)) c x)) (Fc:=λ x=>(mX (Sw c) [] [] a0.cs.length x).fr) (hm:=λ w=>fP _ _ _ w) (hc:=λ w1 hw=>mA (n:=Sw c) (xs:=[]) (ys:=[]) ok hm 0 rfl rfl (by simp) (by simp) (λ f hf=>hf) hw))) (h:=λ x36 h36=>?_);refine J7 ?_;refine oT ?_;refine Df ?_;refine aI (cF (hc:=λ w1 hw=>Iy (n:=v.nd) (xs:=v.xs) (ys:=v.ys) (eP c.h level) (((AS.wp a0 u (pO b c g par r l)).mm.nodes.length+1:Nat):Int) (eE hv).1 (eE hv).2 (hf.xZ (hw.cl (.old (mU.eU hAx))) (hw.cl (.old (mU.eU hAy)))) hc1 (u7 hv (hin (by simpa using c14))))) (λ x41 h41=>?_);refine Ez ?_;refine aJ (λ x10=>?_);refine Px ?_;refine lV ?_;refine bO ?_;refine aB ?_;refine aI (gK (a:=AS.sg (AS.wp a0 u (pO b c g par r l)) c x36) (A0:=(x41.1,aT (gY (W1 v (eP c.h level) (((AS.wp a0 u (pO b c g par r l)).mm.nodes.length+1:Nat):Int))))::((mX (Sw c) [] [] a0.cs.length x36).fr++A)) (B:=(mX (Sw c) [] [] a0.cs.length x36).fr++B) (hA:=ye) (λ w1 hw=>qN (a:=AS.sg (AS.wp a0 u (pO b c g par r l)) c x36) (found:=false) (v:=0) (g:=g) (par:=par) (r:=r) (l:=l) (m:=m) (ys:=[]) (nd:=lI (W1 v (eP c.h level) (((AS.wp a0 u (pO b c g par r l)).mm.nodes.length+1:Nat):Int)) x41) (xs:=gY (W1 v (eP c.h level) (((AS.wp a0 u (pO b c g par r l)).mm.nodes.length+1:Nat):Int))) hd ht (hin (by simpa using c14)) rfl (by rw[wH];omega) (by rw[wH];omega) (tB _ _) (tP _ _) (wU (xo hv2 (Int.le_refl _) _)) (Nat.zero_le _) (by rw[wH];exact(xo hv2 (Int.le_refl _) _).nvB x41) (.inr (by rw[Ng (hin (by simpa using c14))];exact .head _)) (.inl rfl) (okx x36) (hmx x36) (λ f hf=>.tail _ (Vf hA f hf)) (y8 hB) hw)) (λ x48 h48=>?_);refine aM (cC λ _=>aC rf bI rf (aY _) cY rf dM) (λ _=>?_);refine aE ?_;refine bF Tryz.results253 (λ w hw=>?_);refine⟨(x48.1,x48.2.1++((x41.1,aT (gY (W1 v (eP c.h level) (((AS.wp a0 u (pO b c g par r l)).mm.nodes.length+1:Nat):Int))))::(mX (Sw c) [] [] a0.cs.length x36).fr),x48.2.2),rfl,⟨?_,h48.2.1,?_⟩,?_⟩
  ·have h1:=h48.1;rw[if_pos (by simpa using c14)];rw[fK] at h1;show eH b (.alloc (az v.c (eP c.h level) (((AS.wp a0 u (pO b c g par r l)).mm.nodes.length+1:Nat):Int)) m λ q=>iN c.t r m q (uN T false 0)) _ _ _ _
   rw[aBZ hv _ _ x41];refine eH.more h1 λ y hy=>?_;simp only[List.mem_append,List.mem_cons] at hy ⊢;rcases hy with h|h|h;·exact .inl (.inl h)
   ·exact .inl (.inr (.inr h))
   ·exact .inr h
  ·exact((AS.fF.al (AS.wp a0 u (pO b c g par r l)) (Sw c) [] [] 0 x36).trans h48.2.2).more λ f hf=>(List.mem_append.1 hf).elim (λ h=>List.mem_append_left _ h) λ h=>List.mem_append_right _ (.tail _ h)
  ·exact Of (G:=(x41.1,aT (gY (W1 v (eP c.h level) (((AS.wp a0 u (pO b c g par r l)).mm.nodes.length+1:Nat):Int))))::(mX (Sw c) [] [] a0.cs.length x36).fr) hw
end
end
end Go.Proofs.YtdeecdfockjoiaaGreatDoor
namespace Go.Ct
open Go Go.RowKit
section
section
variable{P:Program}{S:List (Nat×Value)}{G:World->Prop}{d:Nat}{ty t t':TypeId}{pos:String}{af:Array Edge}{gd:Option (Nat×Bool)}{x y:Operand}{a b:ByteArray}
theorem aC7{a b:ByteArray}(h:a=b):(a.toList==b.toList)=true:=by subst h;simp
theorem rl(hx:ev S x=.string a)(hy:ev S y=.string b)(h:a=b):aN P S G ⟨some d,.binOp .eql t x y t',ty,pos,af,gd⟩ (.bool true):=by have:=Hq (P:=P) (G:=G) (d:=d) (ty:=ty) (pos:=pos) (af:=af) (gd:=gd) (t:=t) (t':=t') hx hy;rwa [aC7 h] at this
end
end
end Go.Ct
namespace Go.Proofs.YtdeecdfockjoiaaGreatDoor
open Go Go.RowKit Go.Ct
section
section
variable{D:List Nat}{A B:Fr}{a:AS}{b u:Nat}{w:World}{f:FuncId}{cap:yK}{t:oB}{c:jQ}
theorem Uz{T:Tr}{level:Nat}(hd:U9 b u c T)(ht:c.t.root<=9223372036854775807)(hh:c.h<18446744073709551616){g par r l m:Int}{bb:Int}{sx:Nd}(hkey:sx.key=c.key){v:dW}(hv:oP a.mm.nodes.length a.mm.cs.length v.c)(hf:v.Fit)(hc1:v.xs.length<=v.nd.brC)(hAx:(v.nd.brA,aT v.xs)∈A)(hAy:(v.nd.prA,dF v.ys)∈A)(hpv:a.pv=((u,pO b c g par r l),Hv))(hr:r<=a.mm.nodes.length)(hmm:m<=a.mm.nodes.length)
  (hin:fQ c true sx.val=true->(nQ v (eP c.h level) ((a.mm.nodes.length+1:Nat):Int)).isSome=true) (ok:a.Ok) (hm0:a.mm.iL) (hA:∀f∈dD a.L,f∈A) (hB:∀x∈B,x∈A) (hs:SF w D [(b,dV a),(a.u,a.po)] A [] (iS a) w) :
  Calls Tryz.prog 254 #[pt u,.int .i64 m,v.nd.v,.int .i64 (eP c.h level),.int .i64 bb,sx.v] w (jP b (λ c' s' B'=>eH b (if fQ c true sx.val=true then .alloc (gA c.h c.key c.val) 0 λ s=>.alloc (Cj v.c (eP c.h level) s) m λ q=>iN c.t r m q (uN T true sx.val) else .done (eG true sx.val)) a.mm c' s' B') a B D w):=by
 obtain⟨a0,rfl⟩:∃a0:AS,a=AS.wp a0 u (pO b c g par r l):=⟨a,uA hpv⟩;have hm:=hm0.small;have okx:∀x:AX,(AS.sg (AS.wp a0 u (pO b c g par r l)) c x).Ok:=λ x=>ok.al x (by simp) (by simp) (fq hh _ _) (by omega)
 have hmx:∀x:AX,(AS.sg (AS.wp a0 u (pO b c g par r l)) c x).mm.nodes.length<=137438953100/\(AS.sg (AS.wp a0 u (pO b c g par r l)) c x).mm.cs.length<=137438953100:=λ x=>by have h1:=hm0.1;have h2:=hm0.2;refine⟨by rw[wH];omega,?_⟩;rw[fK];exact Nat.le_trans h2 (by decide)
 have hv2:oP ((AS.wp a0 u (pO b c g par r l)).mm.nodes.length+1) (AS.wp a0 u (pO b c g par r l)).mm.cs.length v.c:=hv.mono (Nat.le_succ _) (Nat.le_refl _);refine enter Tryz.func254 Tryz.ntmps254 rfl rfl hs ?_;simp only[cN]
 simp only[Nd.v,Nd.cells];refine J0 ?_;refine bC (λ x8=>?_);refine bC (λ x11=>?_);refine aJ (λ x12=>?_);refine pJ ?_;refine K2b ?_;refine hY ?_;refine mD ?_;refine cD (i:=6) (hq:=(rl rf rf hkey)) (h:=?_);refine dA ?_;refine aX (λ c27=>?_) (λ c27=>?_)
 ·refine gQ ?_;refine J3 ?_;refine aH (cV (hc:=λ w1 hw=>rC (hw.st.at bI) true sx.val)) (λ x31=>?_);refine pU ?_;refine aX (λ c32=>?_) (λ c32=>?_);·refine jN ?_;refine aH (cV (hc:=λ w1 hw=>qV true sx.val w1)) (λ x35=>?_);refine aM (cC λ _=>aC rf bI rf (aY _) cY rf dM) (λ _=>?_);refine aE ?_;refine bF Tryz.results254 (λ w hw=>?_);refine⟨(fE (eG true sx.val),[],AS.wp a0 u (pO b c g par r l)),rfl,⟨?_,ok,AS.fF.refl _⟩,hw.rI⟩;rw[if_neg (by simpa using c32)];exact⟨rfl,rfl⟩
  ·refine K1x ?_;refine bR (i:=17) (hq:=(cV (hc:=λ w1 hw=>Bw (c.h:Int) c.key c.val w1))) (h:=λ x53=>?_);refine bE (i:=20) (hq:=(Ju (V:=λ _:AX=>.int .i64 (((AS.wp a0 u (pO b c g par r l)).mm.nodes.length+1:Nat):Int)) (hs:=[(b,dV (AS.wp a0 u (pO b c g par r l)))]) (os:=kM (AS.wp a0 u (pO b c g par r l))) (A0:=[(none,aT []),(none,dF [])]) (hs':=λ x=>[(b,dV (AS.sg (AS.wp a0 u (pO b c g par r l)) c x))]) (os':=λ x=>kM (AS.sg (AS.wp a0 u (pO b c g par r l)) c x)) (Fc:=λ x=>(mX (Sw c) [] [] a0.cs.length x).fr) (hm:=λ w=>fP _ _ _ w) (hc:=λ w1 hw=>mA (n:=Sw c) (xs:=[]) (ys:=[]) ok hm 0 rfl rfl (by simp) (by simp) (λ f hf=>hf) hw))) (h:=λ x56 h56=>?_);refine J7 ?_;refine oT ?_;refine Df ?_;refine aI (cF (hc:=λ w1 hw=>pN (n:=v.nd) (xs:=v.xs) (ys:=v.ys) (eP c.h level) (((AS.wp a0 u (pO b c g par r l)).mm.nodes.length+1:Nat):Int) (eE hv).1 (eE hv).2 (hf.xZ (hw.cl (.old (mU.eU hAx))) (hw.cl (.old (mU.eU hAy)))) hc1 (wK hv (hin (by simpa using c32))))) (λ x61 h61=>?_);refine Ez ?_;refine aJ (λ x14=>?_);refine Px ?_;refine lV ?_;refine bO ?_;refine aB ?_;refine J3 ?_;refine aI (gK (a:=AS.sg (AS.wp a0 u (pO b c g par r l)) c x56) (A0:=(x61.1,aT (gY (nQ v (eP c.h level) (((AS.wp a0 u (pO b c g par r l)).mm.nodes.length+1:Nat):Int))))::((mX (Sw c) [] [] a0.cs.length x56).fr++A)) (B:=(mX (Sw c) [] [] a0.cs.length x56).fr++B) (hA:=ye) (λ w1 hw=>qN (a:=AS.sg (AS.wp a0 u (pO b c g par r l)) c x56) (found:=true) (v:=sx.val) (g:=g) (par:=par) (r:=r) (l:=l) (m:=m) (ys:=[]) (nd:=lI (nQ v (eP c.h level) (((AS.wp a0 u (pO b c g par r l)).mm.nodes.length+1:Nat):Int)) x61) (xs:=gY (nQ v (eP c.h level) (((AS.wp a0 u (pO b c g par r l)).mm.nodes.length+1:Nat):Int))) hd ht (hin (by simpa using c32)) rfl (by rw[wH];omega) (by rw[wH];omega) (tB _ _) (tP _ _) (wU (Ko hv2 (Int.le_refl _) _)) (Nat.zero_le _) (by rw[wH];exact(Ko hv2 (Int.le_refl _) _).nvB x61) (.inr (by rw[Ng (hin (by simpa using c32))];exact .head _)) (.inl rfl) (okx x56) (hmx x56) (λ f hf=>.tail _ (Vf hA f hf)) (y8 hB) hw)) (λ x70 h70=>?_);refine aM (cC λ _=>aC rf bI rf (aY _) cY rf dM) (λ _=>?_);refine aE ?_;refine bF Tryz.results254 (λ w hw=>?_);refine⟨(x70.1,x70.2.1++((x61.1,aT (gY (nQ v (eP c.h level) (((AS.wp a0 u (pO b c g par r l)).mm.nodes.length+1:Nat):Int))))::(mX (Sw c) [] [] a0.cs.length x56).fr),x70.2.2),rfl,⟨?_,h70.2.1,?_⟩,?_⟩
   ·have h1:=h70.1;rw[if_pos (by simpa using c32)];rw[fK] at h1;show eH b (.alloc (Cj v.c (eP c.h level) (((AS.wp a0 u (pO b c g par r l)).mm.nodes.length+1:Nat):Int)) m λ q=>iN c.t r m q (uN T true sx.val)) _ _ _ _
    rw[ct hv _ _ x61];refine eH.more h1 λ y hy=>?_;simp only[List.mem_append,List.mem_cons] at hy ⊢;rcases hy with h|h|h;·exact .inl (.inl h)
    ·exact .inl (.inr (.inr h))
    ·exact .inr h
   ·exact((AS.fF.al (AS.wp a0 u (pO b c g par r l)) (Sw c) [] [] 0 x56).trans h70.2.2).more λ f hf=>(List.mem_append.1 hf).elim (λ h=>List.mem_append_left _ h) λ h=>List.mem_append_right _ (.tail _ h)
   ·exact Of (G:=(x61.1,aT (gY (nQ v (eP c.h level) (((AS.wp a0 u (pO b c g par r l)).mm.nodes.length+1:Nat):Int))))::(mX (Sw c) [] [] a0.cs.length x56).fr) hw
 ·exact nv c27
end
end
end Go.Proofs.YtdeecdfockjoiaaGreatDoor
namespace Go.Ct
open Go Go.RowKit
section
theorem Wp:∀(l:List NI) (n:Nat),n<=Mp l n
 | [],n=>Nat.le_refl _
 | q::l,n=>Nat.le_trans (Nat.le_add_right n (nC q.n.kind)) (Wp l _)
theorem aC3{a b:ByteArray}(h:a≠b):(a.toList==b.toList)=false:=by rw[Jk];exact decide_eq_false h
theorem sk{P:Program}{S:List (Nat×Value)}{G:World->Prop}{d:Nat}{ty t t':TypeId}{pos:String}{af:Array Edge}{gd:Option (Nat×Bool)}{x y:Operand}{a b:ByteArray}(hx:ev S x=.string a)(hy:ev S y=.string b)(h:a≠b):aN P S G ⟨some d,.binOp .eql t x y t',ty,pos,af,gd⟩ (.bool false):=by have:=Hq (P:=P) (G:=G) (d:=d) (ty:=ty) (pos:=pos) (af:=af) (gd:=gd) (t:=t) (t':=t') hx hy;rwa [aC3 h] at this
end
end Go.Ct
namespace Go.Proofs.YtdeecdfockjoiaaGreatDoor
open Go Go.RowKit Go.Ct
section
abbrev Ro(gen:Int):Nd:={Nd.zero with kind:=2,gen:=gen}
abbrev dI(s:Mm)(c:jQ)(x gen:Int)(level:Nat):Nat:=s.nodes.length+(dL c s x gen level).length
theorem z4(c:jQ)(s:Mm)(x gen:Int)(level:Nat):(dL c s x gen level).length<=24:=by refine K2t ?_;intro h1 h2;show(dN x (aD s.nodes x).hash.toNat c.h ((aD s.nodes x).key,(aD s.nodes x).val) c.key c.val gen (s.nodes.length+1) (xR (aD s.nodes x).hash.toNat c.h-level) level).length<=24;omega
theorem mj(l:List NI)(s:Mm):(s.gB l).cs.length<=s.cs.length+l.length:=by rw[qA];show(lO l s.cs).length<=_;rw[mR];exact Oj _ _
theorem Ls{b N:Nat}{n:Nv}{i:Int}{k:Int->Tr}{s s2:Mm}{cd:Cd}{B:Fr}(e:s.nodes.length=N)(h:eH b (k ((N+1:Nat):Int)) (s.push n i) cd s2 B):eH b (.alloc n i k) s cd s2 B:=by show eH b (k ((s.nodes.length+1:Nat):Int)) (s.push n i) cd s2 B;rw[e];exact h
theorem kt(l:List NI)(s:Mm):s.cs.length<=(s.gB l).cs.length:=by rw[qA];show _<=(lO l s.cs).length;rw[mR];exact Wp _ _
theorem k9(l:List NI)(s:Mm):(s.gB l).pv=s.pv:=by rw[qA]
theorem ku(a:AS)(n:Nd)(i:Int)(y:AX):(a.al n [] [] i y).mm.nodes.length=a.mm.nodes.length+1:=by rw[fK];show(_++[_]).length=_;rw[List.length_append];rfl
theorem ny(a:AS)(n:Nd)(i:Int)(y:AX):(a.al n [] [] i y).mm.cs.length<=a.mm.cs.length+1:=by rw[fK];exact eJ.2
section
variable{D:List Nat}{A B:Fr}{a:AS}{b u:Nat}{w:World}{f:FuncId}{cap:yK}{t:oB}{c:jQ}
theorem zv{A F1 F2:Fr}{O:List Ow}{x:Option Addr×List Value}:bV A (x::(F1++(F2++[]))) O (x::(F1++(F2++A))):=bV.of λ f hf=>by
 simp only[List.mem_cons,List.mem_append] at hf;rcases hf with h|h|h|h;·exact .inr (.inr (.inl (by simp[h])))
 ·exact .inr (.inr (.inl (by simp[h])))
 ·exact .inr (.inr (.inl (by simp[h])))
 ·exact .inr (.inl h)
theorem aB3{A B F1 F2:Fr}{x:Option Addr×List Value}(h:∀f∈B,f∈A):∀f∈F1++(F2++B),f∈x::(F1++(F2++A)):=λ f hf=>by simp only[List.mem_cons,List.mem_append] at hf ⊢;exact .inr (hf.imp id λ h2=>h2.imp id (h f))
set_option maxRecDepth 100000 in
theorem wi{T:Tr}{level N:Nat}(hd:U9 b u c T)(ht:c.t.root<=9223372036854775807)(hh:c.h<18446744073709551616)(hlv:level<=100){g par r m:Int}{bb:Int}{sx:Nd}(hkey:sx.key≠c.key){v:dW}(hv:oP a.mm.nodes.length a.mm.cs.length v.c)(hf:v.Fit)(hc1:v.xs.length<=v.nd.brC)(hAx:(v.nd.brA,aT v.xs)∈A)(hAy:(v.nd.prA,dF v.ys)∈A)(hpv:a.pv=((u,pO b c g par r ((level:Nat):Int)),Hv))(hr:r<=a.mm.nodes.length)(hmm:m<=a.mm.nodes.length)(hbb:bb<=a.mm.nodes.length)
    (hN:N=dI a.mm c bb g (level+1)) (hdk:fQ c false 0=true->lS c (aD a.mm.nodes bb) (level+1) g bb) (hin:fQ c false 0=true->(nQ v (eP c.h level) ((N+1:Nat):Int)).isSome=true) (ok:a.Ok) (hm0:a.mm.iL) (hA:∀f∈dD a.L,f∈A) (hB:∀x∈B,x∈A) (hs:SF w D [(b,dV a),(a.u,a.po)] A [] (iS a) w) :
    Calls Tryz.prog 254 #[pt u,.int .i64 m,v.nd.v,.int .i64 (eP c.h level),.int .i64 bb,sx.v] w (jP b (λ c' s' B'=>eH b (if fQ c false 0=true then yH c bb (level+1) g λ d=>.alloc (eY g) d λ j=>.alloc (Cj v.c (eP c.h level) j) m λ q=>iN c.t r m q (uN T false 0) else .done (eG false 0)) a.mm c' s' B') a B D w):=by
     obtain⟨a0,rfl⟩:∃a0:AS,a=AS.wp a0 u (pO b c g par r ((level:Nat):Int)):=⟨a,uA hpv⟩;have hm:=hm0.small;have hl24:=z4 c (AS.wp a0 u (pO b c g par r ((level:Nat):Int))).mm bb g (level+1);have hN2:(AS.wp a0 u (pO b c g par r ((level:Nat):Int))).mm.nodes.length<=N/\N<=(AS.wp a0 u (pO b c g par r ((level:Nat):Int))).mm.nodes.length+24:=by rw[hN];unfold dI;omega
     have hv2:oP (N+1) (AS.wp a0 u (pO b c g par r ((level:Nat):Int))).mm.cs.length v.c:=hv.mono (by omega) (Nat.le_refl _);refine enter Tryz.func254 Tryz.ntmps254 rfl rfl hs ?_;simp only[cN]
     simp only[Nd.v,Nd.cells];refine J0 ?_;refine bC (λ x8=>?_);refine bC (λ x11=>?_);refine aJ (λ x12=>?_);refine pJ ?_;refine K2b ?_;refine hY ?_;refine mD ?_;refine cD (i:=6) (hq:=(sk rf rf hkey)) (h:=?_);refine dA ?_;refine aX (λ c27=>?_) (λ c27=>?_);·exact nv c27
     ·refine lL ?_;refine J2 ?_;refine aH (cV (hc:=λ w1 hw=>rC (hw.st.at bI) false 0)) (λ x72=>?_);refine pU ?_;refine aX (λ c73=>?_) (λ c73=>?_);·refine J0 ?_;refine aH (cV (hc:=λ w1 hw=>qV false 0 w1)) (λ x74=>?_);refine aM (cC λ _=>aC rf bI rf (aY _) cY rf dM) (λ _=>?_);refine aE ?_;refine bF Tryz.results254 (λ w hw=>?_);refine⟨(fE (eG false 0),[],AS.wp a0 u (pO b c g par r ((level:Nat):Int))),rfl,⟨?_,ok,AS.fF.refl _⟩,hw.rI⟩;rw[if_neg (by simpa using c73)];exact⟨rfl,rfl⟩
      ·refine lL ?_;refine fO [0,1,2,3,4,5,6,7,8,9,10,11,12,13,14,15,16,17,18,19,20,21,22,23,24,25,26,27,28,29,30,31,32] ?_;refine pg ?_;refine aP ?_;refine Y0 ?_;refine Y0 ?_;refine cD (i:=22) (hq:=(H5 (k:=level) rf rf (by omega))) (h:=?_);refine mD ?_;refine bE (i:=27) (hq:=(cM (V:=λ _:AS×Fr=>.tuple #[.int .i64 ((N:Nat):Int),.int .i64 0]) (hs:=[(b,dV (AS.wp a0 u (pO b c g par r ((level:Nat):Int))))]) (os:=kM (AS.wp a0 u (pO b c g par r ((level:Nat):Int)))) (hs':=λ y=>[(b,dV y.1)]) (os':=λ y=>kM y.1) (Fc:=λ y=>y.2) (A0:=A) (hc:=λ w1 hw=>by rw[hN];exact kw ok hm0 hbb (hdk (by simpa using c73)) hh hA hw))) (h:=λ x103 h103=>?_);obtain⟨y1,yF⟩:=x103;obtain⟨d1,d2,d3,d4⟩:=h103;dsimp only at d1 d2 d3 d4 ⊢;have hpv1:y1.pv=((u,pO b c g par r ((level:Nat):Int)),Hv):=(congrArg Mm.pv d1).trans (k9 _ _);obtain⟨a1,rfl⟩:∃a1:AS,y1=AS.wp a1 u (pO b c g par r ((level:Nat):Int)):=⟨y1,uA hpv1⟩
       have dl1:(AS.wp a1 u (pO b c g par r ((level:Nat):Int))).mm.nodes.length=N:=by rw[d1,nT,hN]
       have dcl:(AS.wp a1 u (pO b c g par r ((level:Nat):Int))).mm.cs.length<=(AS.wp a0 u (pO b c g par r ((level:Nat):Int))).mm.cs.length+24:=by rw[d1];exact Nat.le_trans (mj _ _) (Nat.add_le_add_left hl24 _)
       have t1:=hm0.1;have t2:=hm0.2;have sm1:(AS.wp a1 u (pO b c g par r ((level:Nat):Int))).mm.Small:=⟨by omega,by omega⟩;have dok:∀y,((AS.wp a1 u (pO b c g par r ((level:Nat):Int))).al (Ro g) [] [] ((N:Nat):Int) y).Ok:=λ y=>d2.al y (by simp) (by simp) Z4 (by omega);have dl2:∀y,((AS.wp a1 u (pO b c g par r ((level:Nat):Int))).al (Ro g) [] [] ((N:Nat):Int) y).mm.nodes.length=N+1:=λ y=>by rw[ku,dl1]
       have dm2:∀y,((AS.wp a1 u (pO b c g par r ((level:Nat):Int))).al (Ro g) [] [] ((N:Nat):Int) y).mm.nodes.length<=137438953100/\((AS.wp a1 u (pO b c g par r ((level:Nat):Int))).al (Ro g) [] [] ((N:Nat):Int) y).mm.cs.length<=137438953100:=λ y=>⟨by rw[dl2];omega,by have:=ny (AS.wp a1 u (pO b c g par r ((level:Nat):Int))) (Ro g) ((N:Nat):Int) y;omega⟩
       have dv:∀y,oP (N+1) ((AS.wp a1 u (pO b c g par r ((level:Nat):Int))).al (Ro g) [] [] ((N:Nat):Int) y).mm.cs.length v.c:=λ y=>hv2.mono (Nat.le_refl _) (by
        rw[fK];have e1:=congrArg (λ s:Mm=>s.cs.length) d1;have e2:=kt (dL c (AS.wp a0 u (pO b c g par r ((level:Nat):Int))).mm bb g (level+1)) (AS.wp a0 u (pO b c g par r ((level:Nat):Int))).mm;have e3:=eJ (k:=((Ro g).c [] []).kind) (cs:=(AS.wp a1 u (pO b c g par r ((level:Nat):Int))).mm.cs) (init:=((N:Nat):Int))
        exact Nat.le_trans e2 (Nat.le_trans (Nat.le_of_eq e1.symm) e3.1))
       refine Kc3 ?_;refine Vz ?_;refine gQ ?_;refine Kc0 ?_;refine aX (λ c107=>?_) (λ c107=>?_);·exact nv c107
       ·refine lL ?_;refine eO [(0,[]),(1,[]),(2,[]),(3,[]),(4,[]),(5,[]),(6,[]),(7,[]),(8,[]),(10,[]),(11,[]),(12,[]),(9,[4]),(13,[]),(14,[])] ?_;refine pg ?_;refine Kd4 ?_;refine cD (i:=11) (hq:=(jU rf)) (h:=?_);refine aP ?_;refine bR (i:=9) (hq:=(cV (hc:=λ w1 hw=>Nw g w1))) (h:=λ x120=>?_);refine bE (i:=13) (hq:=(Ju (V:=λ _:AX=>.int .i64 ((N+1:Nat):Int)) (hs:=[(b,dV (AS.wp a1 u (pO b c g par r ((level:Nat):Int))))]) (os:=kM (AS.wp a1 u (pO b c g par r ((level:Nat):Int)))) (A0:=[(none,aT []),(none,dF [])]) (hs':=λ y=>[(b,dV ((AS.wp a1 u (pO b c g par r ((level:Nat):Int))).al (Ro g) [] [] ((N:Nat):Int) y))]) (os':=λ y=>kM ((AS.wp a1 u (pO b c g par r ((level:Nat):Int))).al (Ro g) [] [] ((N:Nat):Int) y)) (Fc:=λ y=>(mX (Ro g) [] [] a1.cs.length y).fr) (hm:=λ w=>fP _ _ _ w) (hc:=λ w1 hw=>by rw[<- dl1];exact mA (n:=Ro g) (xs:=[]) (ys:=[]) d2 sm1 _ rfl rfl (by simp) (by simp) (λ f hf=>hf) hw))) (h:=λ x124 h124=>?_);refine J7 ?_;refine oT ?_;refine Df ?_;refine aI (cF (hc:=λ w1 hw=>pN (n:=v.nd) (xs:=v.xs) (ys:=v.ys) (eP c.h level) ((N+1:Nat):Int) (eE hv).1 (eE hv).2 (hf.xZ (hw.cl (.old (mU.eU hAx))) (hw.cl (.old (mU.eU hAy)))) hc1 (wK hv (hin (by simpa using c73))))) (λ x129 h129=>?_);refine Ez ?_;refine aJ (λ x19=>?_);refine Px ?_;refine lV ?_;refine bO ?_;refine aB ?_;refine aI (gK (a:=(AS.wp a1 u (pO b c g par r ((level:Nat):Int))).al (Ro g) [] [] ((N:Nat):Int) x124) (A0:=(x129.1,aT (gY (nQ v (eP c.h level) ((N+1:Nat):Int))))::((mX (Ro g) [] [] a1.cs.length x124).fr++(yF++A))) (B:=(mX (Ro g) [] [] a1.cs.length x124).fr++(yF++B)) (hA:=zv) (λ w1 hw=>qN (a:=(AS.wp a1 u (pO b c g par r ((level:Nat):Int))).al (Ro g) [] [] ((N:Nat):Int) x124) (found:=false) (v:=0) (g:=g) (par:=par) (r:=r) (l:=((level:Nat):Int)) (m:=m) (ys:=[]) (nd:=lI (nQ v (eP c.h level) ((N+1:Nat):Int)) x129) (xs:=gY (nQ v (eP c.h level) ((N+1:Nat):Int))) hd ht (hin (by simpa using c73)) rfl (by rw[dl2];omega) (by rw[dl2];omega) (tB _ _) (tP _ _) (wU (Ko hv2 (Int.le_refl _) _)) (Nat.zero_le _) (by rw[dl2];exact(Ko (dv x124) (Int.le_refl _) _).nvB x129) (.inr (by rw[Ng (hin (by simpa using c73))];exact .head _)) (.inl rfl) (dok x124) (dm2 x124) (λ f hf=>.tail _ (Vf (A:=yF++A) (λ f hf=>(d4 f hf).elim (λ h=>List.mem_append_right _ (hA f h)) λ h=>List.mem_append_left _ h) f hf)) (aB3 hB) hw)) (λ x136 h136=>?_);refine aM (cC λ _=>aC rf bI rf (aY _) cY rf dM) (λ _=>?_);refine aE ?_;refine bF Tryz.results254 (λ w hw=>?_);refine⟨(x136.1,x136.2.1++((x129.1,aT (gY (nQ v (eP c.h level) ((N+1:Nat):Int))))::((mX (Ro g) [] [] a1.cs.length x124).fr++yF)),x136.2.2),rfl,⟨?_,h136.2.1,?_⟩,?_⟩
        ·have h1:=h136.1;rw[if_pos (by simpa using c73)];rw[fK,d1,<- ct hv _ _ x129] at h1;refine Xq hbb (hdk (by simpa using c73)) ?_;have hN3:(AS.wp a0 u (pO b c g par r ((level:Nat):Int))).mm.nodes.length+(dL c (AS.wp a0 u (pO b c g par r ((level:Nat):Int))).mm bb g (level+1)).length=N:=hN.symm;rw[hN3];refine Ls (n:=eY g) (N:=N) (by rw[nT,hN]) ?_;refine eH.more h1 λ y hy=>?_;simp only[List.mem_append,List.mem_cons] at hy ⊢
         rcases hy with h|h|h|h;·exact .inl (.inl h)
         ·exact .inl (.inr (.inr (.inl h)))
         ·exact .inl (.inr (.inr (.inr h)))
         ·exact .inr h
        ·exact(d3.trans ((AS.fF.al (AS.wp a1 u (pO b c g par r ((level:Nat):Int))) (Ro g) [] [] ((N:Nat):Int) x124).trans h136.2.2)).more λ f hf=>by
          simp only[List.mem_append,List.mem_cons] at hf ⊢;rcases hf with(h|h)|h;·exact .inl h
          ·exact .inr (.inr (.inl h))
          ·exact .inr (.inr (.inr h))
        ·exact hw.ret E0a (bM.dB λ f hf=>by simpa using hf) (List.Sublist.refl _)
end
end
end Go.Proofs.YtdeecdfockjoiaaGreatDoor
