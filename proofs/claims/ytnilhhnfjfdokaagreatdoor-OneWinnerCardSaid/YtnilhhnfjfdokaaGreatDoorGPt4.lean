/- put: added. -/
import Derived.Test.YtnilhhnfjfdokaaGreatDoorGPx6
import Derived.Test.YtnilhhnfjfdokaaGreatDoorGRt2

set_option linter.unusedSimpArgs false
set_option linter.unusedVariables false
namespace Go.Proofs.YtnilhhnfjfdokaaGreatDoor
section
open Go Go.RowKit Go.Ct
theorem dh(v:eY)(b:Nat)(i r:Int):Gp v.c.nd v.c.xs v.c.ys b i r=Gp v.nd v.xs v.ys b i r:=by
 unfold Gp
 simp only[show CV v.c.nd v.c.xs v.c.ys=CV v.nd v.xs v.ys from Vl]
 rfl
theorem cx(v:eY)(b:Nat)(i r:Int):Lh v.c.nd v.c.xs v.c.ys b i r=Lh v.nd v.xs v.ys b i r:=by
 unfold Lh
 simp only[show CV v.c.nd v.c.xs v.c.ys=CV v.nd v.xs v.ys from Vl]
 rfl
abbrev Jw(c:lW):Nd:={Nd.zero with kind:=4,hash:=(c.h:Int),key:=c.key,val:=c.val}
theorem Uo{c:lW}(hh:c.h<18446744073709551616)(m k:Nat):uJ m k {(Jw c).c [] [] with main:=0,prev:=0,status:=0}:=⟨pR _,pR _,pR _,(λ r hr=>nomatch hr),pR _,pR _,pR _,⟨0,rfl,by decide⟩,⟨c.h,rfl,hh⟩⟩
theorem Yp{v:eY}{n k:Nat}(hv:uJ n k v.c){i r:Int}(h:(Po v i r).isSome=true):v.xs.length<=1000:=by
 have hc:CV v.nd v.xs v.ys:=by
  unfold Po Gp at h
  split at h
  ·rename_i hc;exact hc.1
  ·cases h
 exact Nat.le_trans (Nj (hc.bv (hY hv).1 (hY hv).2)) (by decide)
theorem Z9{v:eY}{n k:Nat}(hv:uJ n k v.c){i r:Int}(h:(Pu v i r).isSome=true):v.xs.length<=1000:=by
 have hc:CV v.nd v.xs v.ys:=by
  unfold Pu Lh at h
  split at h
  ·rename_i hc;exact hc.1
  ·cases h
 exact Nat.le_trans (Nj (hc.bv (hY hv).1 (hY hv).2)) (by decide)
theorem O4{o:Option (Nat×List Int)}(h:o.isSome=true)(x:Option Addr×Nat):(C4 o x).brA=x.1:=by
 cases o with
 | none=>cases h
 | some q=>rfl
theorem Ov{m:Nat}{o:Option (Nat×List Int)}(h:Kk m o):(sS o).length<=1000:=by
 cases o with
 | none=>exact Nat.zero_le _
 | some q=>exact Nat.le_trans (h.out q rfl).2.1 (by decide)
section
variable{D:List Nat}{A B:Fr}{a:AS}{b u:Nat}{w:World}{f:FuncId}{cap:wN}{t:nS}{c:lW}
abbrev AS.sg(a:AS)(c:lW)(x:AX):AS:=a.al (Jw c) [] [] 0 x
theorem qE(a:AS)(c:lW)(x:AX):(AS.sg a c x).mm.nodes.length=a.mm.nodes.length+1:=by rw[jV];show(_++[_]).length=_;rw[List.length_append];rfl
theorem Qs{n:Nat}(hd:B6 b u c n)(ht:c.t.root<=9223372036854775807)(hh:c.h<18446744073709551616){g par r l m:Int}{v:eY}(hv:uJ a.mm.nodes.length a.mm.cs.length v.c)(hf:v.Fit)(hc1:v.xs.length<=v.nd.brC)(hAx:(v.nd.brA,aW v.xs)∈A)(hAy:(v.nd.prA,gK v.ys)∈A)(hpv:a.pv=(u,pO b c g par r l))(hr:r<=a.mm.nodes.length)(hmm:m<=a.mm.nodes.length)
  (hin:jS c false 0=true->(Po v (iF c.h 0) ((a.mm.nodes.length+1:Nat):Int)).isSome=true) (ok:a.Ok) (hm0:a.mm.jL) (hA:∀f∈dV a.L,f∈A) (hB:∀x∈B,x∈A) (hs:SF w D [(b,eN a),(a.u,a.po)] A [] (fD a) w) :
  Calls Tryz.prog 257 #[pt u,.int .i64 m,v.nd.v,.int .i64 (iF c.h 0)] w (mS b (λ c' s' B'=>fN b (if jS c false 0=true then .alloc (lI c.h c.key c.val) 0 λ s=>.alloc (C1 v.c (iF c.h 0) s) m λ q=>qR c.t r m q (P4 c n false 0) else .done (dG false 0)) a.mm c' s' B') a B D w):=by
 obtain⟨a0,rfl⟩:∃a0:AS,a=AS.wp a0 u (pO b c g par r l):=⟨a,yR hpv⟩
 have hm:=hm0.small
 have okx:∀x:AX,(AS.sg (AS.wp a0 u (pO b c g par r l)) c x).Ok:=λ x=>ok.al x (by simp) (by simp) (Uo hh _ _) (by omega)
 have hmx:∀x:AX,(AS.sg (AS.wp a0 u (pO b c g par r l)) c x).mm.nodes.length<=137438953100/\(AS.sg (AS.wp a0 u (pO b c g par r l)) c x).mm.cs.length<=137438953100:=λ x=>by
  have h1:=hm0.1
  have h2:=hm0.2
  refine⟨by rw[qE];omega,?_⟩
  rw[jV]
  exact Nat.le_trans h2 (by decide)
 have hv2:uJ ((AS.wp a0 u (pO b c g par r l)).mm.nodes.length+1) (AS.wp a0 u (pO b c g par r l)).mm.cs.length v.c:=hv.mono (Nat.le_succ _) (Nat.le_refl _)
 refine enter Tryz.func257 Tryz.ntmps257 rfl rfl hs ?_
 simp only[cP]
 simp only[Nd.v,Nd.cells]
 refine J0 ?_;refine bF (λ x6=>?_);refine aI (λ x8=>?_);refine Kc8 ?_;refine aF (cV (hc:=λ w1 hw=>yN (hw.st.at bD) false 0)) (λ x13=>?_);refine wO ?_
 refine aU (λ c14=>?_) (λ c14=>?_)
 ·refine J0 ?_;refine aF (cV (hc:=λ w1 hw=>yL false 0 w1)) (λ x15=>?_);refine aL (cE λ _=>aC rf bD rf (bA _) cY rf dI) (λ _=>?_);refine aD ?_
  refine bV Tryz.results257 (λ w hw=>?_)
  refine⟨(fP (dG false 0),[],AS.wp a0 u (pO b c g par r l)),rfl,⟨?_,ok,AS.fG.refl _⟩,hw.rI⟩
  rw[if_neg (by simpa using c14)]
  exact⟨rfl,rfl⟩
 ·refine lS ?_;refine eG [(0,[]),(1,[]),(2,[]),(3,[]),(4,[]),(5,[]),(6,[]),(7,[]),(8,[]),(9,[]),(10,[]),(11,[]),(12,[]),(13,[]),(14,[]),(15,[]),(16,[]),(18,[]),(19,[]),(17,[4]),(20,[]),(21,[])] ?_;refine rj ?_;refine iu ?_;refine mG ?_;refine cZ (i:=18) (hq:=(mZ rf)) (h:=?_);refine aR ?_;refine bZ (i:=17) (hq:=(cV (hc:=λ w1 hw=>Jr (c.h:Int) c.key c.val w1))) (h:=λ x33=>?_);refine bS (i:=20) (hq:=(Wu (V:=λ _:AX=>.int .i64 (((AS.wp a0 u (pO b c g par r l)).mm.nodes.length+1:Nat):Int)) (hs:=[(b,eN (AS.wp a0 u (pO b c g par r l)))]) (os:=fD (AS.wp a0 u (pO b c g par r l))) (A0:=[(none,aW []),(none,gK [])]) (hs':=λ x=>[(b,eN (AS.sg (AS.wp a0 u (pO b c g par r l)) c x))]) (os':=λ x=>fD (AS.sg (AS.wp a0 u (pO b c g par r l)) c x)) (Fc:=λ x=>(pQ (Jw c) [] [] a0.cs.length x).fr) (hm:=λ w=>mF _ _ _ w) (hc:=λ w1 hw=>uT (n:=Jw c) (xs:=[]) (ys:=[]) ok hm 0 rfl rfl (by simp) (by simp) (λ f hf=>hf) hw))) (h:=λ x36 h36=>?_);refine J7 ?_;refine pV ?_;refine G3 ?_;refine aH (cF (hc:=λ w1 hw=>Mb (n:=v.nd) (xs:=v.xs) (ys:=v.ys) (iF c.h 0) (((AS.wp a0 u (pO b c g par r l)).mm.nodes.length+1:Nat):Int) (hY hv).1 (hY hv).2 (hf.C8 (hw.cl (.old (mV.gE hAx))) (hw.cl (.old (mV.gE hAy)))) hc1 (Yp hv (hin (by simpa using c14))))) (λ x41 h41=>?_);refine C9 ?_;refine aI (λ x10=>?_);refine Wv ?_;refine mL ?_;refine bP ?_;refine aB ?_;refine aH (kV (a:=AS.sg (AS.wp a0 u (pO b c g par r l)) c x36) (A0:=(x41.1,aW (sS (Po v (iF c.h 0) (((AS.wp a0 u (pO b c g par r l)).mm.nodes.length+1:Nat):Int))))::((pQ (Jw c) [] [] a0.cs.length x36).fr++A)) (B:=(pQ (Jw c) [] [] a0.cs.length x36).fr++B) (hA:=cj) (λ w1 hw=>yO (a:=AS.sg (AS.wp a0 u (pO b c g par r l)) c x36) (found:=false) (v:=0) (g:=g) (par:=par) (r:=r) (l:=l) (m:=m) (nd:=C4 (Po v (iF c.h 0) (((AS.wp a0 u (pO b c g par r l)).mm.nodes.length+1:Nat):Int)) x41) (xs:=sS (Po v (iF c.h 0) (((AS.wp a0 u (pO b c g par r l)).mm.nodes.length+1:Nat):Int))) hd ht (hin (by simpa using c14)) rfl (by rw[qE];omega) (by rw[qE];omega) (N4 _ _) (M0 _ _) (Ov (bw hv2 (Int.le_refl _) _)) (by rw[qE];exact(bw hv2 (Int.le_refl _) _).re x41) (by rw[O4 (hin (by simpa using c14))];exact .head _) (okx x36) (hmx x36) (λ f hf=>.tail _ (jv hA f hf)) (cq hB) hw)) (λ x48 h48=>?_);refine aL (cE λ _=>aC rf bD rf (bA _) cY rf dI) (λ _=>?_);refine aD ?_
  refine bV Tryz.results257 (λ w hw=>?_)
  refine⟨(x48.1,x48.2.1++((x41.1,aW (sS (Po v (iF c.h 0) (((AS.wp a0 u (pO b c g par r l)).mm.nodes.length+1:Nat):Int))))::(pQ (Jw c) [] [] a0.cs.length x36).fr),x48.2.2),rfl,⟨?_,h48.2.1,?_⟩,?_⟩
  ·have h1:=h48.1
   rw[if_pos (by simpa using c14)]
   rw[jV] at h1
   show fN b (.alloc (C1 v.c (iF c.h 0) (((AS.wp a0 u (pO b c g par r l)).mm.nodes.length+1:Nat):Int)) m λ q=>qR c.t r m q (P4 c n false 0)) _ _ _ _
   rw[k9 hv _ _ x41]
   refine fN.more h1 λ y hy=>?_
   simp only[List.mem_append,List.mem_cons] at hy ⊢
   rcases hy with h|h|h
   ·exact .inl (.inl h)
   ·exact .inl (.inr (.inr h))
   ·exact .inr h
  ·exact((AS.fG.al (AS.wp a0 u (pO b c g par r l)) (Jw c) [] [] 0 x36).trans h48.2.2).more λ f hf=>(List.mem_append.1 hf).elim (λ h=>List.mem_append_left _ h) λ h=>List.mem_append_right _ (.tail _ h)
  ·exact Kg (G:=(x41.1,aW (sS (Po v (iF c.h 0) (((AS.wp a0 u (pO b c g par r l)).mm.nodes.length+1:Nat):Int))))::(pQ (Jw c) [] [] a0.cs.length x36).fr) hw
end
end

/- put: single. -/
end Go.Proofs.YtnilhhnfjfdokaaGreatDoor
namespace Go.Ct
section
open Go Go.RowKit
section
variable{P:Program}{S:List (Nat×Value)}{G:World->Prop}{d:Nat}{ty t t':TypeId}{pos:String}{af:Array Edge}{gd:Option (Nat×Bool)}{x y:Operand}{a b:ByteArray}
theorem ly{a b:ByteArray}(h:a=b):(a.toList==b.toList)=true:=by subst h;simp
theorem aa(hx:ev S x=.string a)(hy:ev S y=.string b)(h:a=b):aG P S G ⟨some d,.binOp .eql t x y t',ty,pos,af,gd⟩ (.bool true):=by
 have:=I6 (P:=P) (G:=G) (d:=d) (ty:=ty) (pos:=pos) (af:=af) (gd:=gd) (t:=t) (t':=t') hx hy
 rwa [ly h] at this
end
end
end Go.Ct
namespace Go.Proofs.YtnilhhnfjfdokaaGreatDoor
section
open Go Go.RowKit Go.Ct
section
variable{D:List Nat}{A B:Fr}{a:AS}{b u:Nat}{w:World}{f:FuncId}{cap:wN}{t:nS}{c:lW}
theorem Kn{n:Nat}(hd:B6 b u c n)(ht:c.t.root<=9223372036854775807)(hh:c.h<18446744073709551616){g par r l m:Int}{bb:Int}{sx:Nd}(hkey:sx.key=c.key){v:eY}(hv:uJ a.mm.nodes.length a.mm.cs.length v.c)(hf:v.Fit)(hc1:v.xs.length<=v.nd.brC)(hAx:(v.nd.brA,aW v.xs)∈A)(hAy:(v.nd.prA,gK v.ys)∈A)(hpv:a.pv=(u,pO b c g par r l))(hr:r<=a.mm.nodes.length)(hmm:m<=a.mm.nodes.length)
  (hin:jS c true sx.val=true->(Pu v (iF c.h 0) ((a.mm.nodes.length+1:Nat):Int)).isSome=true) (ok:a.Ok) (hm0:a.mm.jL) (hA:∀f∈dV a.L,f∈A) (hB:∀x∈B,x∈A) (hs:SF w D [(b,eN a),(a.u,a.po)] A [] (fD a) w) :
  Calls Tryz.prog 258 #[pt u,.int .i64 m,v.nd.v,.int .i64 (iF c.h 0),.int .i64 bb,sx.v] w (mS b (λ c' s' B'=>fN b (if jS c true sx.val=true then .alloc (lI c.h c.key c.val) 0 λ s=>.alloc (jk v.c (iF c.h 0) s) m λ q=>qR c.t r m q (P4 c n true sx.val) else .done (dG true sx.val)) a.mm c' s' B') a B D w):=by
 obtain⟨a0,rfl⟩:∃a0:AS,a=AS.wp a0 u (pO b c g par r l):=⟨a,yR hpv⟩
 have hm:=hm0.small
 have okx:∀x:AX,(AS.sg (AS.wp a0 u (pO b c g par r l)) c x).Ok:=λ x=>ok.al x (by simp) (by simp) (Uo hh _ _) (by omega)
 have hmx:∀x:AX,(AS.sg (AS.wp a0 u (pO b c g par r l)) c x).mm.nodes.length<=137438953100/\(AS.sg (AS.wp a0 u (pO b c g par r l)) c x).mm.cs.length<=137438953100:=λ x=>by
  have h1:=hm0.1
  have h2:=hm0.2
  refine⟨by rw[qE];omega,?_⟩
  rw[jV]
  exact Nat.le_trans h2 (by decide)
 have hv2:uJ ((AS.wp a0 u (pO b c g par r l)).mm.nodes.length+1) (AS.wp a0 u (pO b c g par r l)).mm.cs.length v.c:=hv.mono (Nat.le_succ _) (Nat.le_refl _)
 refine enter Tryz.func258 Tryz.ntmps258 rfl rfl hs ?_
 simp only[cP]
 simp only[Nd.v,Nd.cells]
 refine J0 ?_;refine bF (λ x8=>?_);refine bF (λ x11=>?_);refine aI (λ x12=>?_);refine pT ?_;refine aJ ?_;refine iM [0,1,2,3,4,5,6] ?_;refine gY ?_;refine mG ?_;refine cZ (i:=6) (hq:=(aa rf rf hkey)) (h:=?_);refine dC ?_
 refine aU (λ c27=>?_) (λ c27=>?_)
 ·refine gS ?_;refine J3 ?_;refine aF (cV (hc:=λ w1 hw=>yN (hw.st.at bD) true sx.val)) (λ x31=>?_);refine wO ?_
  refine aU (λ c32=>?_) (λ c32=>?_)
  ·refine jA ?_;refine aF (cV (hc:=λ w1 hw=>yL true sx.val w1)) (λ x35=>?_);refine aL (cE λ _=>aC rf bD rf (bA _) cY rf dI) (λ _=>?_);refine aD ?_
   refine bV Tryz.results258 (λ w hw=>?_)
   refine⟨(fP (dG true sx.val),[],AS.wp a0 u (pO b c g par r l)),rfl,⟨?_,ok,AS.fG.refl _⟩,hw.rI⟩
   rw[if_neg (by simpa using c32)]
   exact⟨rfl,rfl⟩
  ·refine lS ?_;refine eG [(0,[]),(1,[]),(2,[]),(3,[]),(4,[]),(5,[]),(6,[]),(7,[]),(8,[]),(9,[]),(10,[]),(11,[]),(12,[]),(13,[]),(14,[]),(15,[]),(16,[]),(18,[]),(19,[]),(17,[4]),(20,[]),(21,[])] ?_;refine rj ?_;refine iu ?_;refine mG ?_;refine cZ (i:=18) (hq:=(mZ rf)) (h:=?_);refine aR ?_;refine bZ (i:=17) (hq:=(cV (hc:=λ w1 hw=>Jr (c.h:Int) c.key c.val w1))) (h:=λ x53=>?_);refine bS (i:=20) (hq:=(Wu (V:=λ _:AX=>.int .i64 (((AS.wp a0 u (pO b c g par r l)).mm.nodes.length+1:Nat):Int)) (hs:=[(b,eN (AS.wp a0 u (pO b c g par r l)))]) (os:=fD (AS.wp a0 u (pO b c g par r l))) (A0:=[(none,aW []),(none,gK [])]) (hs':=λ x=>[(b,eN (AS.sg (AS.wp a0 u (pO b c g par r l)) c x))]) (os':=λ x=>fD (AS.sg (AS.wp a0 u (pO b c g par r l)) c x)) (Fc:=λ x=>(pQ (Jw c) [] [] a0.cs.length x).fr) (hm:=λ w=>mF _ _ _ w) (hc:=λ w1 hw=>uT (n:=Jw c) (xs:=[]) (ys:=[]) ok hm 0 rfl rfl (by simp) (by simp) (λ f hf=>hf) hw))) (h:=λ x56 h56=>?_);refine J7 ?_;refine pV ?_;refine G3 ?_;refine aH (cF (hc:=λ w1 hw=>Qq (n:=v.nd) (xs:=v.xs) (ys:=v.ys) (iF c.h 0) (((AS.wp a0 u (pO b c g par r l)).mm.nodes.length+1:Nat):Int) (hY hv).1 (hY hv).2 (hf.C8 (hw.cl (.old (mV.gE hAx))) (hw.cl (.old (mV.gE hAy)))) hc1 (Z9 hv (hin (by simpa using c32))))) (λ x61 h61=>?_);refine C9 ?_;refine aI (λ x14=>?_);refine Wv ?_;refine mL ?_;refine bP ?_;refine aB ?_;refine J3 ?_;refine aH (kV (a:=AS.sg (AS.wp a0 u (pO b c g par r l)) c x56) (A0:=(x61.1,aW (sS (Pu v (iF c.h 0) (((AS.wp a0 u (pO b c g par r l)).mm.nodes.length+1:Nat):Int))))::((pQ (Jw c) [] [] a0.cs.length x56).fr++A)) (B:=(pQ (Jw c) [] [] a0.cs.length x56).fr++B) (hA:=cj) (λ w1 hw=>yO (a:=AS.sg (AS.wp a0 u (pO b c g par r l)) c x56) (found:=true) (v:=sx.val) (g:=g) (par:=par) (r:=r) (l:=l) (m:=m) (nd:=C4 (Pu v (iF c.h 0) (((AS.wp a0 u (pO b c g par r l)).mm.nodes.length+1:Nat):Int)) x61) (xs:=sS (Pu v (iF c.h 0) (((AS.wp a0 u (pO b c g par r l)).mm.nodes.length+1:Nat):Int))) hd ht (hin (by simpa using c32)) rfl (by rw[qE];omega) (by rw[qE];omega) (N4 _ _) (M0 _ _) (Ov (az hv2 (Int.le_refl _) _)) (by rw[qE];exact(az hv2 (Int.le_refl _) _).re x61) (by rw[O4 (hin (by simpa using c32))];exact .head _) (okx x56) (hmx x56) (λ f hf=>.tail _ (jv hA f hf)) (cq hB) hw)) (λ x70 h70=>?_);refine aL (cE λ _=>aC rf bD rf (bA _) cY rf dI) (λ _=>?_);refine aD ?_
   refine bV Tryz.results258 (λ w hw=>?_)
   refine⟨(x70.1,x70.2.1++((x61.1,aW (sS (Pu v (iF c.h 0) (((AS.wp a0 u (pO b c g par r l)).mm.nodes.length+1:Nat):Int))))::(pQ (Jw c) [] [] a0.cs.length x56).fr),x70.2.2),rfl,⟨?_,h70.2.1,?_⟩,?_⟩
   ·have h1:=h70.1
    rw[if_pos (by simpa using c32)]
    rw[jV] at h1
    show fN b (.alloc (jk v.c (iF c.h 0) (((AS.wp a0 u (pO b c g par r l)).mm.nodes.length+1:Nat):Int)) m λ q=>qR c.t r m q (P4 c n true sx.val)) _ _ _ _
    rw[kv hv _ _ x61]
    refine fN.more h1 λ y hy=>?_
    simp only[List.mem_append,List.mem_cons] at hy ⊢
    rcases hy with h|h|h
    ·exact .inl (.inl h)
    ·exact .inl (.inr (.inr h))
    ·exact .inr h
   ·exact((AS.fG.al (AS.wp a0 u (pO b c g par r l)) (Jw c) [] [] 0 x56).trans h70.2.2).more λ f hf=>(List.mem_append.1 hf).elim (λ h=>List.mem_append_left _ h) λ h=>List.mem_append_right _ (.tail _ h)
   ·exact Kg (G:=(x61.1,aW (sS (Pu v (iF c.h 0) (((AS.wp a0 u (pO b c g par r l)).mm.nodes.length+1:Nat):Int))))::(pQ (Jw c) [] [] a0.cs.length x56).fr) hw
 ·exact nv c27
end
end

/- put: what a code of the C-node means. -/
section
open Go Go.RowKit Go.Ct
section
variable{b:Nat}{c:lW}{s s2:Mm}{v:eY}{r m bb:Int}{again:Tr}{cd:Cd}{B:Fr}
theorem sG(h:Ns (jH c r m again) s)(e:bU s.nodes m=v.c):v.c.kind=3:=by
 by_cases k:v.c.kind=3
 ·exact k
 ·refine(h ?_).elim
  unfold jH
  rw[fA,e,if_neg k]
  rfl
theorem No(h:Ns (jH c r m again) s)(e:bU s.nodes m=v.c)(hk:qI v.c (iF c.h 0)=none)(hp:jS c false 0=true):(Po v (iF c.h 0) ((s.nodes.length+1:Nat):Int)).isSome=true:=by
 by_cases k:(Po v (iF c.h 0) ((s.nodes.length+1:Nat):Int)).isSome=true
 ·exact k
 ·refine(h ?_).elim
  unfold jH
  rw[fA,e,if_pos (sG h e),hk]
  simp only[hp,if_true,fA]
  rw[dh,if_neg k]
  rfl
theorem zR(h:Ns (jH c r m again) s)(e:bU s.nodes m=v.c)(hk:qI v.c (iF c.h 0)=some bb):(bU s.nodes bb).kind=4/\(bU s.nodes bb).key=c.key:=by
 by_cases k:(bU s.nodes bb).kind=4/\(bU s.nodes bb).key=c.key
 ·exact k
 ·refine(h ?_).elim
  unfold jH
  rw[fA,e,if_pos (sG h e),hk]
  simp only[fA]
  rw[if_neg k]
  rfl
theorem Oq(h:Ns (jH c r m again) s)(e:bU s.nodes m=v.c)(hk:qI v.c (iF c.h 0)=some bb)(hp:jS c true (bU s.nodes bb).val=true):(Pu v (iF c.h 0) ((s.nodes.length+1:Nat):Int)).isSome=true:=by
 by_cases k:(Pu v (iF c.h 0) ((s.nodes.length+1:Nat):Int)).isSome=true
 ·exact k
 ·refine(h ?_).elim
  unfold jH
  rw[fA,e,if_pos (sG h e),hk]
  simp only[fA]
  rw[if_pos (zR h e hk),if_pos hp,fA,cx,if_neg k]
  rfl
theorem Xf(hm:m<=s.nodes.length)(hn:Ns (jH c r m again) s)(e:bU s.nodes m=v.c)(hk:qI v.c (iF c.h 0)=none)
  (h:fN b (if jS c false 0=true then .alloc (lI c.h c.key c.val) 0 λ s=>.alloc (C1 v.c (iF c.h 0) s) m λ q=>qR c.t r m q λ ok=>if ok=true then .done (fL false 0) else again else .done (dG false 0)) s cd s2 B):fN b (jH c r m again) s cd s2 B:=by
 unfold jH
 refine⟨hm,?_⟩
 rw[e]
 dsimp only
 rw[if_pos (sG hn e),hk]
 try dsimp only
 by_cases hp:jS c false 0=true
 ·rw[if_pos hp] at h
  show fN b (if jS c false 0=true then _ else _) s cd s2 B
  rw[if_pos hp]
  show fN b (if(Gp v.c.nd v.c.xs v.c.ys v.c.bm.toNat (iF c.h 0) ((s.nodes.length+1:Nat):Int)).isSome=true then _ else _) _ cd s2 B
  rw[dh,if_pos (No hn e hk hp)]
  exact h
 ·rw[if_neg hp] at h
  show fN b (if jS c false 0=true then _ else _) s cd s2 B
  rw[if_neg hp]
  exact h
theorem X5(hm:m<=s.nodes.length)(hb:bb<=s.nodes.length)(hn:Ns (jH c r m again) s)(e:bU s.nodes m=v.c)(hk:qI v.c (iF c.h 0)=some bb)
  (h:fN b (if jS c true (bU s.nodes bb).val=true then .alloc (lI c.h c.key c.val) 0 λ s'=>.alloc (jk v.c (iF c.h 0) s') m λ q=>qR c.t r m q λ ok=>if ok=true then .done (fL true (bU s.nodes bb).val) else again else .done (dG true (bU s.nodes bb).val)) s cd s2 B):fN b (jH c r m again) s cd s2 B:=by
 unfold jH
 refine⟨hm,?_⟩
 rw[e]
 dsimp only
 rw[if_pos (sG hn e),hk]
 try dsimp only
 refine⟨hb,?_⟩
 try dsimp only
 rw[if_pos (zR hn e hk)]
 by_cases hp:jS c true (bU s.nodes bb).val=true
 ·rw[if_pos hp] at h ⊢
  show fN b (if(Lh v.c.nd v.c.xs v.c.ys v.c.bm.toNat (iF c.h 0) ((s.nodes.length+1:Nat):Int)).isSome=true then _ else _) _ cd s2 B
  rw[cx,if_pos (Oq hn e hk hp)]
  exact h
 ·rw[if_neg hp] at h ⊢
  exact h
end
end

/- put: inner. -/
section
open Go Go.RowKit Go.Ct
section
variable{D:List Nat}{A B:Fr}{a:AS}{b u:Nat}{w:World}{f:FuncId}{cap:wN}{t:nS}{c:lW}
theorem Qx{n:Nat}(hd:B6 b u c n)(ht:c.t.root<=9223372036854775807)(hh:c.h<18446744073709551616){g par r m:Int}{v:eY}(hv:uJ a.mm.nodes.length a.mm.cs.length v.c)(hf:v.Fit)(hc1:v.xs.length<=v.nd.brC)(hAx:(v.nd.brA,aW v.xs)∈A)(hAy:(v.nd.prA,gK v.ys)∈A)(e:bU a.mm.nodes m=v.c)(hns:Ns (jH c r m (gV c n)) a.mm)(hpv:a.pv=(u,pO b c g par r 0))(hr:r<=a.mm.nodes.length)(hmm:m<=a.mm.nodes.length)
  (ok:a.Ok) (hm0:a.mm.jL) (hA:∀f∈dV a.L,f∈A) (hB:∀x∈B,x∈A) (hs:SF w D [(b,eN a),(a.u,a.po)] A [] (fD a) w) :
  Calls Tryz.prog 221 #[pt u,.int .i64 m,v.nd.v] w (mS b (λ c' s' B'=>fN b (jH c r m (gV c n)) a.mm c' s' B') a B D w):=by
 obtain⟨a0,rfl⟩:∃a0:AS,a=AS.wp a0 u (pO b c g par r 0):=⟨a,yR hpv⟩
 have hm:=hm0.small
 have hbb:(qI v.c (iF c.h 0)).getD 0<=(AS.wp a0 u (pO b c g par r 0)).mm.nodes.length:=Ah hv _
 refine enter Tryz.func221 Tryz.ntmps221 rfl rfl hs ?_
 simp only[cP]
 simp only[Nd.v,Nd.cells]
 refine J0 ?_;refine bF (λ x5=>?_);refine aI (λ x6=>?_);refine pT ?_;refine iM [0,1,2,3,4,5,6,7,8,9] ?_;refine iu ?_;refine bZ (i:=8) (hq:=(cV (hc:=λ w1 hw=>A6 hh 0 w1))) (h:=λ x19=>?_);refine J7 ?_;refine qa ?_;refine aF (cV (hc:=λ w1 hw=>Tv (v:=v) hv (iF c.h 0) (hf.C8 (hw.cl (.old (mV.gE hAx))) (hw.cl (.old (mV.gE hAy)))))) (λ x23=>?_);refine C9 ?_;refine J8 ?_;refine gS ?_;refine wO ?_
 refine aU (λ c27=>?_) (λ c27=>?_)
 ·refine mL ?_;refine bP ?_;refine aB ?_;refine aH (kV (A0:=A) (λ w1 hw=>Qs hd ht hh hv hf hc1 hAx hAy hpv hr hmm (No hns e (by simpa using c27)) ok hm0 hA hB hw)) (λ x32 h32=>?_);refine aL (cE λ _=>aC rf bD rf (bA _) cY rf dI) (λ _=>?_);refine aD ?_
  refine bV Tryz.results221 (λ w hw=>?_)
  exact⟨x32,rfl,⟨Xf hmm hns e (by simpa using c27) h32.1,h32.2⟩,hw.rN⟩
 ·refine bB ?_;refine Pj ?_;refine J3 ?_;refine aB ?_;refine aH (qG ((qI v.c (iF c.h 0)).getD 0) ok hm hA hbb) (λ x39 h39=>?_);refine aI (λ x10=>?_);refine J5 ?_;refine C3 ?_;refine D0 ?_
  refine aU (λ c42=>?_) (λ c42=>?_)
  ·refine mL ?_;refine bP ?_;refine G3 ?_;refine bP ?_;refine aH (kV (A0:=A) (λ w1 hw=>Kn (sx:=((aZ (cN a0.L) ((qI v.c (iF c.h 0)).getD 0)).at_ x39.1 x39.2).nd) hd ht hh (by have h:=(zR hns e (rY (by simpa using c27))).2;rw[eJ] at h;exact h) hv hf hc1 hAx hAy hpv hr hmm (by have h:=Oq hns e (rY (by simpa using c27));rw[eJ] at h;exact h) ok hm0 hA hB hw)) (λ x49 h49=>?_);refine aL (cE λ _=>aC rf bD rf (bA _) cY rf dI) (λ _=>?_);refine aD ?_
   refine bV Tryz.results221 (λ w hw=>?_)
   exact⟨x49,rfl,⟨X5 hmm hbb hns e (rY (by simpa using c27)) (by rw[eJ];exact h49.1),h49.2⟩,hw.rN⟩
  ·exact absurd (by have h:=(zR hns e (rY (by simpa using c27))).1;rw[eJ] at h;exact h) c42
end
end

/- put: visit, begin; all of it by induction on the fuel. -/
section
open Go Go.RowKit Go.Ct
section
variable{D:List Nat}{A B:Fr}{a:AS}{b u:Nat}{w:World}{f:FuncId}{cap:wN}{t:nS}{c:lW}
theorem Qj{n:Nat}(hd:B6 b u c n)(ht:c.t.root<=9223372036854775807)(hh:c.h<18446744073709551616){g par r m:Int}{s:Mm}(hpv:s.pv=(u,pO b c g par r 0))(hr:r<=s.nodes.length)(hmm:m<=s.nodes.length)(hns:Ns (jH c r m (gV c n)) s):kL b 175 ⟨[pt u],[]⟩ [.int .i64 m] B s (jH c r m (gV c n)):=by
 intro a D A w em ok hm0 hA hB hw0
 subst em
 have hm:a.mm.Small:=hm0.small
 obtain⟨a0,rfl⟩:∃a0:AS,a=AS.wp a0 u (pO b c g par r 0):=⟨a,yR hpv⟩
 have nm:=rA ok m
 have k3:(aZ (cN (AS.wp a0 u (pO b c g par r 0)).L) m).c.kind=3:=sG hns (eJ m)
 refine enter Tryz.func175 Tryz.ntmps175 rfl rfl hw0 ?_
 simp only[cP]
 refine J0 ?_;refine aI (λ x4=>?_);refine aD ?_;refine Pj ?_;refine J3 ?_;refine aB ?_;refine aH (qG m ok hm hA hmm) (λ x12 h12=>?_);refine aI (λ x5=>?_);refine J5 ?_;refine C3 ?_;refine Kb9 ?_;refine jN ?_
 refine aU (λ c15=>?_) (λ c15=>?_)
 ·exact absurd (k3.symm.trans c15) (by decide)
 ·refine jN ?_
  refine aU (λ c41=>?_) (λ c41=>?_)
  ·exact absurd (k3.symm.trans c41) (by decide)
  ·refine jN ?_
   refine aU (λ c47=>?_) (λ c47=>?_)
   ·refine mL ?_;refine bP ?_;refine aH (kV (A0:=(x12.1,aW (aZ (cN a0.L) m).xs)::(x12.2,gK (aZ (cN a0.L) m).ys)::A) (hA:=.cons (.inr (.inr (.inr ⟨_,.tail _ (.head _),rfl,rfl⟩))) (.cons (.inr (.inr (.inr ⟨_,.head _,rfl,rfl⟩))) (.of λ _ h=>.inr (.inl h)))) (λ w1 hw=>Qx (v:=(aZ (cN a0.L) m).at_ x12.1 x12.2) hd ht hh nm (eY.Sq (xI ok.fit.all m) _ _) (Nat.le_refl _) (.head _) (.tail _ (.head _)) (eJ m) hns hpv hr hmm ok hm0 (λ f hf=>.tail _ (.tail _ (hA f hf))) (λ f hf=>.tail _ (.tail _ (hB f hf))) hw)) (λ x52 h52=>?_);refine aL (cE λ _=>aC rf bD rf (bA _) cY rf dI) (λ _=>?_);refine aD ?_
    refine bV Tryz.results175 (λ w hw=>?_)
    exact⟨x52,rfl,h52,hw.rN⟩
   ·exact absurd k3 c47
theorem Qo{n:Nat}(hd:B6 b u c n)(ht:c.t.root<=9223372036854775807)(hh:c.h<18446744073709551616){g par i l r:Int}{s:Mm}(hpv:s.pv=(u,pO b c g par i l))(hr:r<=s.nodes.length):kL b 137 ⟨[pt u],[]⟩ [.int .i64 r] B s (.node r λ _=>nY c.t r λ m=>jH c r m (gV c n)):=by
 intro a D A w em ok hm0 hA hB hw0
 subst em
 have hm:a.mm.Small:=hm0.small
 obtain⟨a0,rfl⟩:∃a0:AS,a=AS.wp a0 u (pO b c g par i l):=⟨a,yR hpv⟩
 have ok2:∀o,(AS.wp a0 u o).Ok:=λ o=>⟨ok.fit,⟨ok.mo.nd,ok.mo.cs,ok.mo.two⟩⟩
 have hT:∀g2:Int,sP b (λ m=>jH c r m (gV c n)) (AS.wp a0 u (pO b c g2 0 r 0)).mm 175 ⟨[pt u],[]⟩ B:=λ g2=>⟨by kernel_rfl,λ m s1 l1 hm1 hns=>Qj hd ht hh (g:=g2) (par:=0) (l1.pv.trans rfl) (by have h1:=l1.len;have h2:r<=(AS.wp a0 u (pO b c g2 0 r 0)).mm.nodes.length:=hr;omega) hm1 hns⟩
 refine enter Tryz.func137 Tryz.ntmps137 rfl rfl hw0 ?_
 simp only[cP]
 refine J0 ?_;refine aI (λ x4=>?_);refine aD ?_;refine mL ?_;refine M2 ?_;refine J3 ?_;refine aB ?_;refine aH (qG r ok hm hA hr) (λ x12 h12=>?_);refine nF ?_;refine Ak ?_;refine mL ?_;refine G3 ?_;refine M2 ?_;refine mX (λ _=>?_);refine M2 ?_;refine mX (λ _=>?_);refine Ak ?_;refine aJ ?_;refine iM [0,1,2,3,4,5,6,7,8,9,10,11] ?_;refine J9 ?_;refine aS (i:=3) (hq:=(dE (k:=3) (vs:=iS b c.t) rf bD cY rfl rfl)) (h:=?_);refine mG ?_;refine aR ?_;refine cZ (i:=9) (hq:=(nJ Uu Uu)) (h:=?_);refine bS (i:=10) (hq:=(kV (a:=AS.wp a0 u (pO b c (aZ (cN a0.L) r).nd.gen 0 r 0)) (A0:=A) (λ w1 hw=>Gs ht (hT _) hr (ok2 _) hm hA hB hw))) (h:=λ x36 h36=>?_);refine fE (i:=11) (hq:=(cE λ _=>aC rf bD rf (bA _) cY rf dI)) (h:=λ _=>?_);refine dC ?_
 refine bV Tryz.results137 (λ w hw=>?_)
 exact⟨x36,rfl,⟨⟨hr,fN.nn (u,pO b c g par i l) h36.1⟩,h36.2.1,⟨⟨h36.2.2.le.nodes,h36.2.2.le.cl⟩,h36.2.2.fam⟩⟩,hw.rN⟩
theorem Vs(ht:c.t.root<=9223372036854775807)(hh:c.h<18446744073709551616):∀n,B6 b u c n
 | 0=>Xe
 | n+1=>Zk ht λ _ _ _ _ _ _ _ hpv hr=>Qo (Vs ht hh n) ht hh hpv hr
end
end

/- put: the task. -/
section
open Go Go.RowKit Go.Ct
section
variable{D:List Nat}{A B:Fr}{a:AS}{b u:Nat}{w:World}{f:FuncId}{cap:wN}{t:nS}{c:lW}
theorem Wo{n:Nat}(hd:B6 b u c n)(hk:c.key.size<=64)(hp:0<=c.pol/\c.pol<=3){g par i l:Int}{s:Mm}{b1 b2 b3:Nat}(hpv:s.pv=(u,pO b c g par i l)):kL b 98 [pt b1,pt b2,pt b3] [] (bx b1 [.string c.key]::bx b2 [.int .i64 c.pol]::bx b3 [pt u]::B) s (gV c n):=by
 intro a D A w em ok hm0 hA hB hw0
 subst em
 have hm:a.mm.Small:=hm0.small
 refine enter Tryz.func98 Tryz.ntmps98 rfl rfl hw0 ?_
 simp only[cP]
 refine J0 ?_;refine aI (λ x3=>?_);refine pT ?_;refine J0 ?_;refine aA (iG b1 [.string c.key] 0 hB rfl) rfl ?_;refine aF (cV (hc:=λ w1 hw=>rP c.key w1)) (λ x5=>?_);refine Wy ?_
 (refine lN 7 (λ g7=>?_) (λ g7=>?_)<;>(first|refine aT ?_|(refine aE ?_;refine aA (iG b2 [.int .i64 c.pol] 0 hB rfl) rfl ?_)))
 all_goals (refine Kb5 ?_)
 all_goals (first|refine aT ?_|(refine lN 11 (λ g11=>?_) (λ g11=>?_)<;>(first|refine aT ?_|(refine aE ?_;refine aA (iG b2 [.int .i64 c.pol] 0 hB rfl) rfl ?_))))
 all_goals (refine kf ?_;refine aD ?_)
 all_goals
 refine aU (λ c14=>?_) (λ c14=>?_)
 ·all_goals (refine J0 ?_;refine cK ?_;refine aF (cV (hc:=λ w1 hw=>rX ou w1)) (λ x16=>?_);refine aL (cE λ _=>aC rf bD rf (bA _) cY rf dI) (λ _=>?_);refine aD ?_)
  all_goals
   refine bV Tryz.results98 (λ w hw=>?_)
   exfalso
   omega
 ·try exact nv c14
  all_goals (refine Kc1 ?_;refine aA (iG b3 [pt u] 0 hB rfl) rfl ?_;refine aH (kV (λ w1 hw=>hd a _ A _ w1 g par i l hpv ok hm hA hB hw)) (λ x18 h18=>?_);refine aL (cE λ _=>aC rf bD rf (bA _) cY rf dI) (λ _=>?_);refine aD ?_)
  all_goals
   refine bV Tryz.results98 (λ w hw=>?_)
   exact⟨x18,rfl,h18,hw.rN⟩
theorem zY{m n:Nat}{key:ByteArray}{val pol exp:Int}(ht:t.root<=9223372036854775807)(hm0:m<18446744073709551616)(hk:key.size<=64)(hp:0<=pol/\pol<=3)(hT:∀o:Nat×Obj,Ns (gV ⟨t,key,lU key m,val,pol,exp⟩ n) (AS.wp a o.1 o.2).mm)(ok:a.Ok)(hm:a.mm.jL)(hA:∀f∈dV a.L,f∈A)(hB:∀x∈B,x∈A)(hs:SF w D [(b,eN a)] A [] (fD a) w) :
  Calls Tryz.prog 74 #[.iface 61 (.pointer (some ⟨b,0,none⟩)),.agg ⟨[.int .i64 t.root,.bool t.ro]⟩,.int .u64 (m:Int),.string key,.int .u64 val,.int .i64 pol,.int .u64 exp] w λ e w'=>∃x:Nat×Cd×Fr×AS,e=.returned (.pointer (some ⟨x.1,0,none⟩))/\(∃o:Nat×Obj,oU b (Ct.fA (gV ⟨t,key,lU key m,val,pol,exp⟩ n) (AS.wp a o.1 o.2).mm) (AS.wp a o.1 o.2) B x.2/\fK (Ct.fA (gV ⟨t,key,lU key m,val,pol,exp⟩ n) (AS.wp a o.1 o.2).mm).1=true)/\SF w D [(x.1,tO b x.2.1 0),(x.2.2.2.u,x.2.2.2.po),(b,eN x.2.2.2)] [] x.2.2.1 (fD x.2.2.2) w':=by
 have h0:=K8 key m
 have okw:∀u o,(AS.wp a u o).Ok:=λ u o=>⟨ok.fit,⟨ok.mo.nd,ok.mo.cs,ok.mo.two⟩⟩
 refine enter Tryz.func74 Tryz.ntmps74 rfl rfl hs ?_
 simp only[cP]
 refine J0 ?_;refine bF (λ x8=>?_);refine bF (λ x10=>?_);refine bF (λ x12=>?_);refine kZ ?_
 refine oV [15,16,17,18,19,20,21,22,23,24,25,26,27] (λ j:Nat×Nat=>[(15,.pointer (some ⟨j.1,0,none⟩))]) (λ _=>True) (λ j=>[(j.1,.cells ⟨[pt j.2]⟩ 202 (0,0)),(j.2,pO b ⟨t,key,lU key m,val,pol,exp⟩ 0 0 0 0),(x12,.cells ⟨[.int .i64 pol]⟩ 3 (0,0)),(x10,.cells ⟨[.string key]⟩ 9 (0,0)),(x8,.cells ⟨[.int .i64 t.root,.bool t.ro]⟩ 38 (0,0)),(b,eN a)]) (λ _=>[]) (λ _=>fD a) (by decide) (λ _=>by exact rfl) ?_ (λ j f hx=>?_)
 ·refine mB (.one 0 [] (.one 1 [] (.one 2 [] (.one 3 [] (.one 4 [] (.one 5 [] (.one 7 [] (.one 8 [] (.one 9 [] (.two 6 [1,3,8] (.one 10 [] (.two 11 [] (.one 12 [1,3,4,8] (.one 13 [] .nil)) 0 [] (.two 12 [1,3,4,8] (.one 11 [] (.one 13 [] .nil)) 0 [] .nil))) 0 [] (.two 12 [1,3,4,8] (.one 6 [1,3,8] (.one 10 [] (.one 11 [] (.one 13 [] .nil)))) 0 [] .nil))))))))))) ?_
  refine aR ?_;refine cB ?_;refine jZ ?_;refine cB ?_;refine cB ?_;refine Hj ?_;refine cB ?_;refine aR ?_
  refine kS (E:=[6,12]) (by decide +kernel) ((.cons ?_ (.cons ?_ .nil)))
  ·refine nD (i:=6) (hq:=(cV (hc:=λ w1 hw=>rH key hm0 (by omega) w1))) (h:=λ x22=>?_)
   refine jZ ?_
   refine kS (E:=[11,12]) (by decide +kernel) ((.cons ?_ (.cons ?_ .nil)))
   ·refine ay (i:=11) (h:=λ x27=>?_)
    refine bZ (i:=12) (hq:=(cE λ _=>sW (z:=.pointer none) (by kernel_rfl) rfl)) (h:=λ x15=>?_);refine Jy ?_
    refine nR ((x15,x27)) ?_ (hw1:=λ w hw=>by exact hw.back (hH:=by exact List.Sublist.refl _) (hF:=by exact bL.all) (hO:=by exact List.Sublist.refl _))
    ·trivial
   ·refine nD (i:=12) (hq:=(cE λ _=>sW (z:=.pointer none) (by kernel_rfl) rfl)) (h:=λ x15=>?_)
    refine Dh (h:=λ x27=>?_);refine Jy ?_
    refine nR ((x15,x27)) ?_ (hw1:=λ w hw=>by exact(hw.perm (List.Perm.swap _ _ _) (List.Perm.refl _)).back (hH:=by exact List.Sublist.refl _) (hF:=by exact bL.all) (hO:=by exact List.Sublist.refl _))
    ·trivial
  ·refine nD (i:=12) (hq:=(cE λ _=>sW (z:=.pointer none) (by kernel_rfl) rfl)) (h:=λ x15=>?_)
   refine bZ (i:=6) (hq:=(cV (hc:=λ w1 hw=>rH key hm0 (by omega) w1))) (h:=λ x22=>?_);refine jZ ?_;refine Dh (h:=λ x27=>?_);refine Jy ?_
   refine nR ((x15,x27)) ?_ (hw1:=λ w hw=>by exact(hw.perm (List.Perm.swap _ _ _) (List.Perm.refl _)).back (hH:=by exact List.Sublist.refl _) (hF:=by exact bL.all) (hO:=by exact List.Sublist.refl _))
   ·trivial
 dsimp only[lP,List.map,List.cons_append,List.nil_append]
 refine J2 ?_;(refine aA bN rfl ?_);(refine aF (aQ.pre (λ w h=>(show SF _ _ [_,_,(b,eN a)] _ ([bx x10 [.string key],bx x12 [.int .i64 pol],bx j.1 [pt j.2]]:Fr) _ w from((h.cC .head).cC (.tail .head)).cC (.tail .head))) (Jh (V:=λ x:Nat×Cd×Fr×AS=>.pointer (some ⟨x.1,0,none⟩)) (hs:=[(b,eN (AS.wp a j.2 (pO b ⟨t,key,lU key m,val,pol,exp⟩ 0 0 0 0))),(j.2,pO b ⟨t,key,lU key m,val,pol,exp⟩ 0 0 0 0)]) (os:=fD a) (hs':=λ x=>[(b,eN x.2.2.2),(x.2.2.2.u,x.2.2.2.po)]) (Hc:=λ x=>[(x.1,tO b x.2.1 0)]) (os':=λ x=>fD x.2.2.2) (Oc:=λ _=>[]) (Fc:=λ x=>x.2.2.1) (A0:=[bx x10 [.string key],bx x12 [.int .i64 pol],bx j.1 [pt j.2]]++A) (hA:=cA.Gm) (hc:=λ w1 hw=>Du (a:=AS.wp a j.2 (pO b ⟨t,key,lU key m,val,pol,exp⟩ 0 0 0 0)) (B:=[bx x10 [.string key],bx x12 [.int .i64 pol],bx j.1 [pt j.2]]++B) (hT (j.2,pO b ⟨t,key,lU key m,val,pol,exp⟩ 0 0 0 0)) ⟨by kernel_rfl,λ s1 l _=>Wo (c:=⟨t,key,lU key m,val,pol,exp⟩) (Vs ht h0 n) hk hp (l.pv.trans rfl)⟩ (okw _ _) hm (λ f hf=>List.mem_append_right _ (hA f hf)) (uH hB) hw))) (λ x30=>?_);try (refine eH (λ h30=>?_)));refine J1 ?_
 refine bE Tryz.results74 (λ w hw=>?_)
 exact⟨(x30.1,x30.2.1,x30.2.2.1++[bx x10 [.string key],bx x12 [.int .i64 pol],bx j.1 [pt j.2]],x30.2.2.2),rfl,⟨(j.2,pO b ⟨t,key,lU key m,val,pol,exp⟩ 0 0 0 0),oU.ri h30.1,h30.2⟩,hw.ret (by repeat (first|exact List.Sublist.refl _|apply List.Sublist.cons_cons|apply List.Sublist.cons)) (bL.dH λ f hf=>hf) (by repeat (exact List.Sublist.refl _))⟩
end
end

end Go.Proofs.YtnilhhnfjfdokaaGreatDoor
