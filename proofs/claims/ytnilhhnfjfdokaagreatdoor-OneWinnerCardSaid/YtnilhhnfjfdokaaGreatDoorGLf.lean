/- Loads out of lists that are known. -/
import Derived.Test.YtnilhhnfjfdokaaGreatDoorGJoin
import Derived.Test.YtnilhhnfjfdokaaGreatDoorGLst2
import Derived.Test.YtnilhhnfjfdokaaGreatDoorGMem
import Derived.Test.YtnilhhnfjfdokaaGreatDoorAuto

set_option linter.unusedSimpArgs false
set_option linter.unusedVariables false
namespace Go.Ct
section
open Go Go.RowKit
section
variable{P:Program}{S:List (Nat×Value)}{w0 w w':World}{M:List Nat}{H:List (Nat×Obj)}{A F:Fr}{O:List Ow}{d:Nat}{ty t:TypeId}{pos:String}{af:Array Edge}{gd:Option (Nat×Bool)}{x y:Operand}{v:Value}
theorem Cn{a:Option Addr}{cs vs:List Value}{q k:Nat}(hx:ev S x=.pointer (some ⟨cU a,dY a+q,none⟩))(ht:gX P t k=true)(hf:oB A F O a cs)(hv:(cs.drop q).take k=vs)(hl:vs.length=k) :
  aG P S (SF w0 M H A F O) ⟨some d,.load t x,ty,pos,af,gd⟩ (.agg ⟨vs⟩):=⟨λ w hw=>by
 have hcl:=hw.cl hf
 obtain⟨dd,hu,hm,hi⟩:=fX ht
 have hagg:(isAgg t).run P w=.ok true w:=by
  unfold isAgg
  rw[Sem.run_bind,run_underlying hu w]
  cases dd<;>simp_all
 have hc:(loadCells ⟨cU a,dY a+q,none⟩ k).run P w=.ok ⟨vs⟩ w:=by
  have:=run_loadCells_list (P:=P) w ⟨cU a,dY a+q,none⟩ vs (λ j z hz=>by
   subst hv
   have hj:=(List.getElem?_eq_some_iff.1 hz).1
   have h2:cs[q+j]?=some z:=by
    rw[List.getElem?_take_of_lt (by simp at hj;omega),List.getElem?_drop] at hz
    exact hz
   rw[Addr.add_lit,show dY a+q+j=dY a+(q+j) by omega]
   exact(hcl.at_ _ _ h2).2)
  rw[hl] at this
  simpa using this
 cases hq':P.info? t with
 | none=>rw[hq'] at hi;simp at hi
 | some i =>
  have hs:i.size=k:=by rw[hq'] at hi;simpa using hi
  simp[execOp,hx,Instr.loadAt,Instr.sureAddr,loadVar,hagg,Go.sizeOf,typeInfo,hq',hs,hc]⟩
theorem bO{a:Option Addr}{cs:List Value}{q:Nat}{v:Value}(hx:ev S x=.pointer (some ⟨cU a,dY a+q,none⟩))(ht:one P t=true)(hf:oB A F O a cs)(hq:cs[q]?=some v) :
  aG P S (SF w0 M H A F O) ⟨some d,.load t x,ty,pos,af,gd⟩ v:=vD hx ht (λ w hw=>hw.cl hf) hq
end
end

/- Lists of rows of one size. -/
section
open Go Go.RowKit
section
variable{α:Type}{f:α->List Value}{sz:Nat}
def dR(f:α->List Value)(l:List α):List Value:=l.flatMap f
theorem jT(hf:∀a,(f a).length=sz):∀l:List α,(dR f l).length=l.length*sz
 | []=>by simp[dR]
 | a::r=>by
  have:=jT hf r
  simp only[dR,List.flatMap_cons,List.length_append,List.length_cons,Nat.succ_mul,hf] at this ⊢
  omega
theorem Wq(l r:List α):dR f (l++r)=dR f l++dR f r:=by simp[dR]
theorem vK(hf:∀a,(f a).length=sz){l:List α}{k:Nat}{a:α}(hk:l[k]?=some a):∃u v,dR f l=u++(f a++v)/\u.length=sz*k/\∀a',dR f (l.set k a')=u++(f a'++v):=by
 obtain⟨h,rfl⟩:=List.getElem?_eq_some_iff.1 hk
 refine⟨dR f (l.take k),dR f (l.drop (k+1)),?_,?_,λ a'=>?_⟩
 ·have e:l=l.take k++l[k]::l.drop (k+1):=by rw[<- List.drop_eq_getElem_cons h,List.take_append_drop]
  unfold dR
  conv=>lhs;rw[e]
  rw[List.flatMap_append,List.flatMap_cons]
 ·rw[jT hf,List.length_take,Nat.min_eq_left (by omega),Nat.mul_comm]
 ·rw[List.set_eq_take_append_cons_drop,if_pos h]
  simp[dR]
theorem X2(hf:∀a,(f a).length=sz){l:List α}{k j:Nat}{a:α}(hk:l[k]?=some a)(hj:j<sz):(dR f l)[sz*k+j]?=(f a)[j]?:=by
 obtain⟨u,v,e,hu,_⟩:=vK hf hk
 rw[e,List.getElem?_append_right (by omega),hu,List.getElem?_append_left (by rw[hf];omega)]
 congr 1
 omega
theorem En(hf:∀a,(f a).length=sz){l:List α}{k j n:Nat}{a:α}(hk:l[k]?=some a)(hj:j+n<=sz):((dR f l).drop (sz*k+j)).take n=((f a).drop j).take n:=by
 obtain⟨u,v,e,hu,_⟩:=vK hf hk
 have hl:=hf a
 rw[e,<- hu,<- List.drop_drop,List.drop_left,List.drop_append_of_le_length (by omega),List.take_append_of_le_length (by simp;omega)]
theorem Wn(hf:∀a,(f a).length=sz){l:List α}{k j:Nat}{a a':α}{v:Value}(hk:l[k]?=some a)(hj:j<sz)(he:(f a).set j v=f a'):(dR f l).set (sz*k+j) v=dR f (l.set k a'):=by
 obtain⟨u,r,e,hu,hs⟩:=vK hf hk
 have hl:=hf a
 rw[e,hs,<- he,List.set_append_right _ _ (by omega),List.set_append_left _ _ (by omega),hu]
 congr 3
 omega
theorem V5(hf:∀a,(f a).length=sz){l:List α}{k:Nat}{a a':α}(hk:l[k]?=some a):(dR f l).take (sz*k)++f a'++(dR f l).drop (sz*k+(f a').length)=dR f (l.set k a'):=by
 obtain⟨u,r,e,hu,hs⟩:=vK hf hk
 have hl:=hf a
 rw[e,hs,hf a',<- hu,List.take_left,<- hl,show u.length+(f a).length=(u++f a).length by simp,<- List.append_assoc u (f a) r,List.drop_left,List.append_assoc]
end
section
variable{α:Type}{f:α->List Value}{sz:Nat}{l:List α}{v0 v1:α}
variable{w0 w w':World}{M:List Nat}{H:List (Nat×Obj)}{A F:Fr}{O:List Ow}
variable{P:Program}{S:List (Nat×Value)}{G:World->Prop}{d:Nat}{ty:TypeId}{pos:String}{af:Array Edge}{gd:Option (Nat×Bool)}{x y:Operand}{t t2 e:TypeId}{p a:Option Addr}{i j m k c c2:Nat}{v:Value}
theorem aY(hf:∀a,(f a).length=sz)(h0:0<sz){kk:IntKind}(hx:ev S x=.slice a m c)(hy:ev S y=.int kk ((k:Nat):Int))(ht:P.underlying t=some (.slice e))(hs:gX P e sz=true)(hl:oB A F O a (dR f l))(h1:k<m)(h2:k<l.length) :
  aG P S (SF w0 M H A F O) ⟨some d,.indexAddr t x y,ty,pos,af,gd⟩ (.pointer (some ⟨cU a,dY a+sz*k,none⟩)):=⟨λ w hw=>by
 obtain⟨_,_,_,hsz⟩:=fX hs
 have ha:a=some ⟨cU a,dY a,none⟩:=(hw.cl hl).ptr (by rw[jT hf];exact Nat.mul_pos (by omega) h0)
 have:=sA (P:=P) (a:=a) (m:=m) (c:=c) (k:=kk) ht hsz ha (i:=(k:Int)) (by omega) (by omega) w
 simp only[Int.toNat_natCast,Nat.mul_comm k sz] at this
 simp[execOp,hx,hy,this]⟩
theorem dF(hf:∀a,(f a).length=sz)(hx:ev S x=.pointer (some ⟨cU a,dY a+sz*k+j,none⟩))(ht:one P t=true)(hl:oB A F O a (dR f l))(hk:l[k]?=some v0)(hj:(f v0)[j]?=some v) :
  aG P S (SF w0 M H A F O) ⟨some d,.load t x,ty,pos,af,gd⟩ v :=
 bO (q:=sz*k+j) (by rw[hx,Nat.add_assoc]) ht hl (by rw[X2 hf hk (by have:=(List.getElem?_eq_some_iff.1 hj).1;rw[hf] at this;exact this)];exact hj)
theorem Bj(hf:∀a,(f a).length=sz)(hx:ev S x=.pointer (some ⟨cU a,dY a+sz*k,none⟩))(ht:one P t=true)(hl:oB A F O a (dR f l))(hk:l[k]?=some v0)(hj:(f v0)[0]?=some v) :
  aG P S (SF w0 M H A F O) ⟨some d,.load t x,ty,pos,af,gd⟩ v:=dF (j:=0) hf (by rw[hx];rfl) ht hl hk hj
theorem cH(hf:∀a,(f a).length=sz)(hx:ev S x=.pointer (some ⟨cU a,dY a+sz*k,none⟩))(ht:gX P t sz=true)(hl:oB A F O a (dR f l))(hk:l[k]?=some v0) :
  aG P S (SF w0 M H A F O) ⟨some d,.load t x,ty,pos,af,gd⟩ (.agg ⟨f v0⟩) :=
 Cn (q:=sz*k) (k:=sz) hx ht hl (by have:=En hf (n:=sz) (j:=0) hk (by omega);rw[Nat.add_zero] at this;rw[this,List.drop_zero];exact List.take_of_length_le (by rw[hf];exact Nat.le_refl _)) (hf _)
theorem S3{n:Nat}{vs:List Value}(hf:∀a,(f a).length=sz)(hx:ev S x=.pointer (some ⟨cU a,dY a+sz*k+j,none⟩))(ht:gX P t n=true)(hl:oB A F O a (dR f l))(hk:l[k]?=some v0)(hj:j+n<=sz)(hv:((f v0).drop j).take n=vs) :
  aG P S (SF w0 M H A F O) ⟨some d,.load t x,ty,pos,af,gd⟩ (.agg ⟨vs⟩) :=
 Cn (q:=sz*k+j) (k:=n) (by rw[hx,Nat.add_assoc]) ht hl ((En hf hk hj).trans hv) (by rw[<- hv,List.length_take,List.length_drop,hf];omega)
theorem wS(hf:∀a,(f a).length=sz)(hx:ev S x=.pointer (some ⟨cU p,dY p+sz*k+j,none⟩))(hy:ev S y=v)(hv:v.oneCell'=true)(ht:one P t=true)(ho:sH O i p (dR f l) c e sz)(hk:l[k]?=some v0)(hj:j<sz)(he:(f v0).set j v=f v1) :
  aQ P S (SF w0 M H A F O) ⟨none,.store t x y,ty,pos,af,gd⟩ Unit (λ _=>undef) (λ _=>SF w0 M H A F (jQ O i ⟨p,dR f (l.set k v1),c,e,sz⟩)):=by
 rw[<- Wn hf hk hj he]
 exact jP (q:=sz*k+j) (by rw[hx,Nat.add_assoc]) hy hv ht ho (by
  have h:=(List.getElem?_eq_some_iff.1 hk).1
  rw[jT hf]
  have:(k+1)*sz<=l.length*sz:=Nat.mul_le_mul_right _ h
  rw[Nat.succ_mul,Nat.mul_comm] at this
  omega)
theorem sE(hf:∀a,(f a).length=sz)(hx:ev S x=.pointer (some ⟨cU p,dY p+sz*k,none⟩))(hy:ev S y=.agg ⟨f v1⟩)(h1:(f v1).all (·.oneCell')=true)(ht:gX P t sz=true)(ho:sH O i p (dR f l) c e sz)(hk:l[k]?=some v0)(h0:0<sz) :
  aQ P S (SF w0 M H A F O) ⟨none,.store t x y,ty,pos,af,gd⟩ Unit (λ _=>undef) (λ _=>SF w0 M H A F (jQ O i ⟨p,dR f (l.set k v1),c,e,sz⟩)):=by
 rw[<- V5 hf hk]
 exact rU (q:=sz*k) hx hy h1 (by rw[hf];exact ht) ho (by
  have h:=(List.getElem?_eq_some_iff.1 hk).1
  rw[jT hf,hf]
  have:(k+1)*sz<=l.length*sz:=Nat.mul_le_mul_right _ h
  rw[Nat.succ_mul,Nat.mul_comm] at this
  omega) (by rw[hf];exact h0)
theorem E7{zc:List Value}(hf:∀a,(f a).length=sz)(h0:0<sz)(h1:(f v1).all (·.oneCell')=true)(hx:ev S x=.slice p m c)(hy:ev S y=.slice a 1 c2)(ho:sH O i p (dR f l) c e sz)(hm:l.length=m)(hl:oB A F O a (f v1))(he:dL P t e zc)(hz:zc.length=sz)(ht2:P.underlying t2=some (.slice e))(hb:m+1<=549755813888) :
  aQ P S (SF w0 M H A F O) ⟨some d,.call {callee:=.builtin .append,args := #[x,y],argTypes := #[t,t2]},ty,pos,af,gd⟩ (Option Addr×Nat) (λ q=>.slice q.1 (m+1) q.2)
   (λ q w=>m+1<=q.2/\SF w0 M H A F (jQ O i ⟨q.1,dR f (l++[v1]),q.2,e,sz⟩) w):=by
 rw[Wq,show dR f [v1]=f v1 by simp[dR]]
 exact cQ hx hy ho (by rw[jT hf,hm]) hl (by rw[hf,Nat.one_mul]) h1 he hz h0 ht2 hb
end
end

/- Memories: the rule for calls that may change them. -/
end Go.Ct
namespace Go.Proofs.YtnilhhnfjfdokaaGreatDoor
section
open Go Go.RowKit Go.Ct
abbrev mO(L:List eY)(cs:List Int)(gen acc:Int)(pn:Option Addr)(cn:Nat)(pc:Option Addr)(cc:Nat):Obj:=.cells ⟨[.slice pn L.length cn,.slice pc cs.length cc,.int .i64 gen,.int .i64 acc]⟩ 0 (0,0)
abbrev aO(L:List eY)(cs:List Int)(gen acc:Int)(pn:Option Addr)(cn:Nat)(pc:Option Addr)(cc:Nat):Obj:=.cells ⟨[.slice pn L.length cn,.slice pc cs.length cc,.int .i64 gen,.int .i64 acc]⟩ 96 (0,0)
abbrev mW(L:List eY)(cs:List Int)(pn:Option Addr)(cn:Nat)(pc:Option Addr)(cc:Nat):List Ow:=[⟨pn,Iy L,cn,192,14⟩,⟨pc,aW cs,cc,35,1⟩]
theorem tG{w0 w:World}{D:List Nat}{b:Nat}{L:List eY}{cs:List Int}{gen acc:Int}{pn pc:Option Addr}{cn cc:Nat}{A F:Fr}(h:SF w0 D [(b,aO L cs gen acc pn cn pc cc)] A F (mW L cs pn cn pc cc) w) :
  SF w0 D [(b,.cells ⟨[.slice pn L.length cn,.slice pc cs.length cc,.int .i64 gen,.int .i64 acc]⟩ 96 (0,0))] A F [⟨pn,Iy L,cn,192,14⟩,⟨pc,aW cs,cc,35,1⟩] w:=h
variable{S:List (Nat×Value)}{w0 w:World}{M:List Nat}{H:List (Nat×Obj)}{A F:Fr}{O:List Ow}{ty:TypeId}{pos:String}{af:Array Edge}{gd:Option (Nat×Bool)}{X:Type}{V:X->Value}
theorem cM{φ:X->Prop}{hs H':List (Nat×Obj)}{os O':List Ow}{hs' H1:X->List (Nat×Obj)}{os' O1:X->List Ow}{Fc F1:X->Fr}{A0:Fr}{is js:List Nat}{f:FuncId}{xs:List Operand}{at_:Array TypeId}{vs:List Value}{dst:Option Nat}
  (ha:lD S xs=vs:=by(repeat (first|exact cD _|(apply bK;focus ((conv=>{lhs;whnf});try exact rfl))));first|done|fail) (hp:plain Tryz.prog f=true:=by kernel_rfl)
  (hc:∀w,SF w (Ks hs os) hs A0 [] os w->Calls Tryz.prog f ⟨vs⟩ w λ e w'=>∃x,e=.returned (V x)/\φ x/\SF w (Ks hs os) (hs' x) [] (Fc x) (os' x) w')
  (hH:kX H is hs H':=by(repeat (first|exact kX.nil|(apply kX.cons;(focus ((repeat (first|exact wK.head|apply wK.tail));done));simp only[nW])));first|done|fail)
  (hO:kX O js os O':=by(repeat (first|exact kX.nil|(apply kX.cons;(focus ((repeat (first|exact wK.head|apply wK.tail));done));simp only[nW])));first|done|fail)
  (hA:cA A F O' A0:=by(repeat (first|exact cA.of (λ _ h=>Or.inr (Or.inl h))|exact cA.nil|(refine cA.cons (by first|exact Or.inl rfl|exact Or.inr (Or.inr (Or.inl (by simp)))|exact Or.inr (Or.inl (by simp))|exact Or.inr (Or.inr (Or.inr (by simp)))) ?_)));first|done|fail)
  (hl1:∀x,is.length=(hs' x).length:=by intro x;exact rfl) (hl2:∀x,js.length=(os' x).length:=by intro x;exact rfl)
  (hH1:∀x,iR is (hs' x) H'=H1 x:=by intro x;first|(simp only[iR,oY];exact rfl)|exact rfl) (hF1:∀x,Fc x++F=F1 x:=by intro x;first|(simp only[List.nil_append,List.cons_append];exact rfl)|exact rfl) (hO1:∀x,iR js (os' x) O'=O1 x:=by intro x;simp only[iR,oY,mW];exact rfl) :
  aQ Tryz.prog S (SF w0 M H A F O) ⟨dst,.call {callee:=.value (.func f),args:=⟨xs⟩,argTypes:=at_},ty,pos,af,gd⟩ X V (λ x w=>φ x/\SF w0 M (H1 x) A (F1 x) (O1 x) w) :=
 gH (lF hp ha) λ w hw=>(hc w (hw.nZ hH hO hA)).mono λ _ _ ⟨x,he,hx,hs⟩=>⟨x,he,hx,by
  have:=hw.wE (hs':=hs' x) (Hc:=[]) (os':=os' x) (Oc:=[]) hH hO (by simpa using hs) (hl1 x) (hl2 x)
  rw[<- hH1 x,<- hF1 x,<- hO1 x]
  simpa using this⟩
end

/- The small methods of the two memories: cells, generations, loads, compare-and-swaps. -/
section
open Go.RowKit Go.Ct
variable{w:World}{D:List Nat}{b:Nat}{L:List eY}{cs:List Int}{gen acc:Int}{pn pc:Option Addr}{cn cc:Nat}{A:Fr}
theorem oQ(v:Int)(hs:SF w D [(b,aO L cs gen acc pn cn pc cc)] A [] (mW L cs pn cn pc cc) w)(hl:cs.length<=274877906944) :
  Calls Tryz.prog 338 #[.pointer (some ⟨b,0,none⟩),.int .i64 v] w λ e w'=>∃q:Option Addr×Nat,e=.returned (.int .i64 ((cs.length+1:Nat):Int))/\True /\
   SF w D [(b,aO L (cs++[v]) gen acc pn cn q.1 q.2)] [] [] (mW L (cs++[v]) pn cn q.1 q.2) w':=by
 refine enter Tryz.func338 Tryz.ntmps338 rfl rfl (tG hs) ?_
 simp only[cP]
 refine dW ?_;refine mL ?_;refine bC ?_;refine J3 ?_;refine aB ?_;refine vN (λ x11=>?_);(refine Hk (λ x12=>?_);try (refine eH (λ h12=>?_)));refine Ak ?_;refine oJ ?_;refine cO ?_;refine J1 ?_
 refine bE Tryz.results338 (λ w hw=>?_)
 exact⟨x12,rfl,trivial,by simpa[aO,mW] using hw.fV (F':=[])⟩
end

/- The small methods of the two memories: generations, loads, compare-and-swaps. -/
end Go.Proofs.YtnilhhnfjfdokaaGreatDoor
namespace Go.Ct
section
def cW(cs:List Int)(c:Int):Int:=if 1<=c/\c<=cs.length then cs.getD (c-1).toNat 0 else 0
def tE(cs:List Int)(c old:Int):Prop:=1<=c/\c<=cs.length/\cs.getD (c-1).toNat 0=old
def dU(cs:List Int)(c old new:Int):List Int:=if 1<=c/\c<=cs.length/\cs.getD (c-1).toNat 0=old then cs.set (c-1).toNat new else cs
def up(i:Int):Int:=Go.IntKind.i64.wrap (i+1)
theorem vQ{cs:List Int}{c:Int}(h:¬(1<=c/\c<=cs.length)):cW cs c=0:=if_neg h
theorem kN{cs:List Int}{k:Nat}(h:k<cs.length):cW cs ((k+1:Nat):Int)=cs.getD k 0:=by
 unfold cW
 rw[if_pos (by omega),show(((k+1:Nat):Int)-1).toNat=k by omega]
theorem Gz{cs:List Int}{c old new:Int}(h:¬(1<=c/\c<=cs.length/\cs.getD (c-1).toNat 0=old)):dU cs c old new=cs:=if_neg h
theorem Ze{cs:List Int}{k:Nat}{old new:Int}(h:k<cs.length)(ho:cs.getD k 0=old):dU cs ((k+1:Nat):Int) old new=cs.set k new:=by
 have e:(((k+1:Nat):Int)-1).toNat=k:=by omega
 unfold dU
 rw[e,if_pos ⟨by omega,by omega,ho⟩]
theorem fl{cs:List Int}{c old:Int}(h:c<1):(false=true↔tE cs c old):=⟨(λ h=>nomatch h),λ h2=>absurd h2.1 (by omega)⟩
theorem Z1{cs:List Int}{c old new:Int}(h:c<1):dU cs c old new=cs:=Gz (by omega)
theorem ir{cs:List Int}{c old:Int}(h:(cs.length:Int)<c):(false=true↔tE cs c old):=⟨(λ h=>nomatch h),λ h2=>absurd h2.2.1 (by omega)⟩
theorem Zc{cs:List Int}{c old new:Int}(h:(cs.length:Int)<c):dU cs c old new=cs:=Gz (by omega)
theorem ju{cs:List Int}{k:Nat}{old:Int}(h:cs.getD k 0≠old):(false=true↔tE cs ((k+1:Nat):Int) old):=⟨(λ h=>nomatch h),λ h2=>absurd (by have:=h2.2.2;rwa [show(((k+1:Nat):Int)-1).toNat=k by omega] at this) h⟩
theorem W4{cs:List Int}{k:Nat}{old new:Int}(h:cs.getD k 0≠old):dU cs ((k+1:Nat):Int) old new=cs:=Gz λ h2=>absurd (by have:=h2.2.2;rwa [show(((k+1:Nat):Int)-1).toNat=k by omega] at this) h
theorem gl{cs:List Int}{k:Nat}{old:Int}(hk:k<cs.length)(h:cs.getD k 0=old):(true=true↔tE cs ((k+1:Nat):Int) old):=⟨λ _=>⟨by omega,by omega,by rw[show(((k+1:Nat):Int)-1).toNat=k by omega];exact h⟩,λ _=>rfl⟩
theorem fU{cs:List Int}{c old new:Int}:(dU cs c old new).length=cs.length:=by unfold dU;split<;>simp
end
end Go.Ct
namespace Go.Proofs.YtnilhhnfjfdokaaGreatDoor
section
open Go.RowKit Go.Ct
variable{w:World}{D:List Nat}{b:Nat}{L:List eY}{cs:List Int}{gen acc:Int}{pn pc:Option Addr}{cn cc:Nat}{A:Fr}
theorem P5(hs:SF w D [(b,aO L cs gen acc pn cn pc cc)] A [] (mW L cs pn cn pc cc) w):Calls Tryz.prog 339 #[.pointer (some ⟨b,0,none⟩)] w λ e w'=>∃q:Unit,e=.returned (.int .i64 (up gen))/\True/\SF w D [(b,aO L cs (up gen) acc pn cn pc cc)] [] [] (mW L cs pn cn pc cc) w':=by
 refine enter Tryz.func339 Tryz.ntmps339 rfl rfl (tG hs) ?_
 simp only[cP]
 refine dW ?_;refine oJ ?_;refine aA (pN rf rf) rfl ?_;refine Ak ?_;refine oJ ?_;refine J1 ?_
 refine bE Tryz.results339 (λ w hw=>?_)
 exact⟨(),rfl,trivial,by simpa[aO,mW] using hw.fV (F':=[])⟩
theorem E4(hs:SF w D [(b,aO L cs gen acc pn cn pc cc)] A [] (mW L cs pn cn pc cc) w)(c:Int):Calls Tryz.prog 342 #[.pointer (some ⟨b,0,none⟩),.int .i64 c] w λ e w'=>∃q:Unit,e=.returned (.bool (decide (1<=c/\c<=(cs.length:Int))))/\True/\SF w D [(b,aO L cs gen acc pn cn pc cc)] [] [] (mW L cs pn cn pc cc) w':=by
 refine enter Tryz.func342 Tryz.ntmps342 rfl rfl (tG hs) ?_
 simp only[cP]
 refine Kd1 ?_;refine fS ?_;refine aB ?_
 (refine lN 7 (λ g7=>?_) (λ g7=>?_)<;>refine Ka5 ?_)
 all_goals (refine Ka5 ?_;(first|refine aT ?_|(refine aE ?_;refine bC ?_));refine kj ?_;(first|refine aT ?_|(refine aE ?_;refine vI ?_));refine bI ?_;refine J1 ?_)
 all_goals
 refine bE Tryz.results342 (λ w hw=>?_)
 first|exact⟨(),by rw[decide_eq_false (show ¬(1<=c/\c<=(cs.length:Int)) by omega)];first|rfl|(rw[decide_eq_false (by omega)];rfl),trivial,hw.fV⟩|exact⟨(),by rw[show decide (1<=c/\c<=(cs.length:Int))=decide (c<=(cs.length:Int)) by simp;omega];rfl,trivial,hw.fV⟩
theorem Ug(hs:SF w D [(b,aO L cs gen acc pn cn pc cc)] A [] (mW L cs pn cn pc cc) w)(c:Int)(hc:c<1):Calls Tryz.prog 337 #[.pointer (some ⟨b,0,none⟩),.int .i64 c] w λ e w'=>∃q:Unit,e=.returned (.int .i64 (cW cs c))/\True/\SF w D [(b,aO L cs gen (up acc) pn cn pc cc)] [] [] (mW L cs pn cn pc cc) w':=by
 refine enter Tryz.func337 Tryz.ntmps337 rfl rfl (tG hs) ?_
 simp only[cP]
 refine dW ?_;refine oJ ?_;refine aA (pN rf rf) rfl ?_;refine Ak ?_;refine pF ?_;refine aH (cM (hc:=λ w hs=>E4 hs c)) (λ x14 h14=>?_);refine wO ?_
 refine aU (λ c15=>?_) (λ c15=>?_)
 ·try (exfalso;omega)
  refine dW ?_
  refine bE Tryz.results337 (λ w hw=>?_)
  (exact⟨(),by rw[vQ (by omega)];rfl,trivial,hw.fV⟩)
 ·try (exfalso;omega)
theorem Zm(hs:SF w D [(b,aO L cs gen acc pn cn pc cc)] A [] (mW L cs pn cn pc cc) w)(c:Int)(old new:Int)(hc:c<1):Calls Tryz.prog 336 #[.pointer (some ⟨b,0,none⟩),.int .i64 c,.int .i64 old,.int .i64 new] w λ e w'=>∃r:Bool,e=.returned (.bool r)/\(r=true↔tE cs c old)/\SF w D [(b,aO L (dU cs c old new) gen (up acc) pn cn pc cc)] [] [] (mW L (dU cs c old new) pn cn pc cc) w':=by
 refine enter Tryz.func336 Tryz.ntmps336 rfl rfl (tG hs) ?_
 simp only[cP]
 refine dW ?_;refine oJ ?_;refine aA (pN rf rf) rfl ?_;refine Ak ?_;refine pF ?_;refine aH (cM (hc:=λ w hs=>E4 hs c)) (λ x18 h18=>?_);refine Wy ?_
 (refine lN 20 (λ g20=>?_) (λ g20=>?_)<;>(try (exfalso;omega))<;>(refine aT ?_))
 (refine aT ?_);refine J6 ?_;refine rc ?_;(refine aT ?_);refine ix ?_;refine X4 ?_;refine aD ?_
 refine aU (λ c31=>?_) (λ c31=>?_)
 ·try (exfalso;omega)
  refine dW ?_
  refine bE Tryz.results336 (λ w hw=>?_)
  (exact⟨false,rfl,fl hc,by rw[Z1 hc];exact hw.fV⟩)
 ·exact nv c31
theorem Wg(hs:SF w D [(b,aO L cs gen acc pn cn pc cc)] A [] (mW L cs pn cn pc cc) w){k:Nat}(hk:(k:Int)<9223372036854775807)(hl:cs.length<=274877906944):Calls Tryz.prog 337 #[.pointer (some ⟨b,0,none⟩),.int .i64 ((k+1:Nat):Int)] w λ e w'=>∃q:Unit,e=.returned (.int .i64 (cW cs ((k+1:Nat):Int)))/\True/\SF w D [(b,aO L cs gen (up acc) pn cn pc cc)] [] [] (mW L cs pn cn pc cc) w':=by
 refine enter Tryz.func337 Tryz.ntmps337 rfl rfl (tG hs) ?_
 simp only[cP]
 refine dW ?_;refine oJ ?_;refine aA (pN rf rf) rfl ?_;refine Ak ?_;refine pF ?_;refine aH (cM (hc:=λ w hs=>E4 hs ((k+1:Nat):Int))) (λ x14 h14=>?_);refine wO ?_
 refine aU (λ c15=>?_) (λ c15=>?_)
 ·try (exfalso;omega)
  refine dW ?_
  refine bE Tryz.results337 (λ w hw=>?_)
  (exact⟨(),by rw[vQ (by omega)];rfl,trivial,hw.fV⟩)
 ·try (exfalso;omega)
  refine Vz ?_;refine aB ?_;refine Ou ?_;refine nf ?_;refine J1 ?_
  refine bE Tryz.results337 (λ w hw=>?_)
  (exact⟨(),by rw[kN (by omega)];rfl,trivial,hw.fV⟩)
theorem Yv(hs:SF w D [(b,aO L cs gen acc pn cn pc cc)] A [] (mW L cs pn cn pc cc) w){k:Nat}(hk:(k:Int)<9223372036854775807)(old new:Int)(hl:cs.length<=274877906944):Calls Tryz.prog 336 #[.pointer (some ⟨b,0,none⟩),.int .i64 ((k+1:Nat):Int),.int .i64 old,.int .i64 new] w λ e w'=>∃r:Bool,e=.returned (.bool r)/\(r=true↔tE cs ((k+1:Nat):Int) old)/\SF w D [(b,aO L (dU cs ((k+1:Nat):Int) old new) gen (up acc) pn cn pc cc)] [] [] (mW L (dU cs ((k+1:Nat):Int) old new) pn cn pc cc) w':=by
 refine enter Tryz.func336 Tryz.ntmps336 rfl rfl (tG hs) ?_
 simp only[cP]
 refine dW ?_;refine oJ ?_;refine aA (pN rf rf) rfl ?_;refine Ak ?_;refine pF ?_;refine aH (cM (hc:=λ w hs=>E4 hs ((k+1:Nat):Int))) (λ x18 h18=>?_);refine Wy ?_
 (refine lN 20 (λ g20=>?_) (λ g20=>?_)<;>refine Ka5 ?_)
 all_goals ((first|refine aT ?_|(refine aE ?_;refine bC ?_));refine J6 ?_;refine rc ?_;(first|refine aT ?_|(refine aE ?_;refine lK ?_));refine ix ?_;refine X4 ?_;refine aD ?_)
 all_goals
 refine aU (λ c31=>?_) (λ c31=>?_)
 ·all_goals try (exfalso;omega)
  all_goals refine dW ?_
  all_goals
   refine bE Tryz.results336 (λ w hw=>?_)
   first|exact⟨false,rfl,ir (by omega),by rw[Zc (by omega)];exact hw.fV⟩|exact⟨false,rfl,ju (by simpa using c31),by rw[W4 (by simpa using c31)];exact hw.fV⟩ 
 ·try exact nv c31
  all_goals (refine Vz ?_;refine aB ?_;refine Ou ?_;refine aB ?_;refine lK ?_;refine J5 ?_;refine dW ?_)
  all_goals
   refine bE Tryz.results336 (λ w hw=>?_)
   (exact⟨true,rfl,gl (by omega) (by simpa using c31),by rw[Ze (by omega) (by simpa using c31)];simpa[mW,aO,mO] using hw.fV (F':=[])⟩)
theorem Yn(hs:SF w D [(b,aO L cs gen acc pn cn pc cc)] A [] (mW L cs pn cn pc cc) w)(c:Int)(hc:c<=9223372036854775807)(hl:cs.length<=274877906944):Calls Tryz.prog 337 #[.pointer (some ⟨b,0,none⟩),.int .i64 c] w λ e w'=>∃q:Unit,e=.returned (.int .i64 (cW cs c))/\True/\SF w D [(b,aO L cs gen (up acc) pn cn pc cc)] [] [] (mW L cs pn cn pc cc) w':=by
 rcases Int.lt_or_le c 1 with h|h
 ·exact Ug hs c h
 ·obtain⟨k,rfl⟩:∃k:Nat,c=((k+1:Nat):Int):=⟨(c-1).toNat,by omega⟩
  exact Wg hs (by omega) hl
theorem fy(hs:SF w D [(b,aO L cs gen acc pn cn pc cc)] A [] (mW L cs pn cn pc cc) w)(c old new:Int)(hc:c<=9223372036854775807)(hl:cs.length<=274877906944):Calls Tryz.prog 336 #[.pointer (some ⟨b,0,none⟩),.int .i64 c,.int .i64 old,.int .i64 new] w λ e w'=>∃r:Bool,e=.returned (.bool r)/\(r=true↔tE cs c old)/\SF w D [(b,aO L (dU cs c old new) gen (up acc) pn cn pc cc)] [] [] (mW L (dU cs c old new) pn cn pc cc) w':=by
 rcases Int.lt_or_le c 1 with h|h
 ·exact Zm hs c old new h
 ·obtain⟨k,rfl⟩:∃k:Nat,c=((k+1:Nat):Int):=⟨(c-1).toNat,by omega⟩
  exact Yv hs (by omega) old new hl
end

/- Loops over slices that are read: contracts. -/
section
open Go.RowKit Go.Ct
theorem Je{α} [BEq α] [LawfulBEq α] {xs ys:List α}{k:Nat}(h:xs.length=ys.length)(hk:¬k<xs.length)(ht:xs.take k=ys.take k):(xs==ys)=true:=by
 rw[List.take_of_length_le (by omega),List.take_of_length_le (by omega)] at ht
 simp[ht]
theorem Lb{α} [BEq α] [LawfulBEq α] {xs ys:List α}(h:xs.length≠ys.length):(xs==ys)=false:=by
 simp only[beq_eq_false_iff_ne,ne_eq]
 intro e;rw[e] at h;exact h rfl
theorem L7{α} [BEq α] [LawfulBEq α] {xs ys:List α}{k:Nat}{d:α}(h:xs.getD k d≠ys.getD k d):(xs==ys)=false:=by
 simp only[beq_eq_false_iff_ne,ne_eq]
 intro e;rw[e] at h;exact h rfl
theorem H6{α} [DecidableEq α] {xs ys:List α}{k:Nat}(h:xs.length=ys.length)(hk:¬k<xs.length)(ht:xs.take k=ys.take k):decide (xs=ys)=true:=by
 rw[List.take_of_length_le (by omega),List.take_of_length_le (by omega)] at ht
 simp[ht]
theorem Kh{α} [DecidableEq α] {xs ys:List α}(h:xs.length≠ys.length):decide (xs=ys)=false:=decide_eq_false λ e=>h (by rw[e])
theorem Ll{α} [DecidableEq α] {xs ys:List α}{k:Nat}{d:α}(h:xs.getD k d≠ys.getD k d):decide (xs=ys)=false:=decide_eq_false λ e=>h (by rw[e])
theorem Dn{α}{xs ys:List α}{k:Nat}{d:α}(h:xs.take k=ys.take k)(hk:k<xs.length)(hl:xs.length=ys.length)(he:xs.getD k d=ys.getD k d):xs.take (k+1)=ys.take (k+1):=by
 rw[List.take_add_one,List.take_add_one,h,List.getElem?_eq_getElem hk,List.getElem?_eq_getElem (hl▸hk)]
 simp only[List.getD,List.getElem?_eq_getElem hk,List.getElem?_eq_getElem (hl▸hk:k<ys.length),Option.getD_some] at he
 rw[he]
theorem X1{xs ys:List Int}{a b:Option Addr}{ca cb:Nat}{w:World}(ha:Cl w a (aW xs))(hb:Cl w b (aW ys))(hx:xs.length<4611686018427387904) :
  Calls Tryz.prog 295 #[.slice a xs.length ca,.slice b ys.length cb] w λ e w'=>e=.returned (.bool (xs==ys))/\St w [] [] w':=by
 refine enter Tryz.func295 Tryz.ntmps295 rfl rfl (SF.s2 ha hb) ?_
 simp only[cP]
 refine Kb1 ?_;refine cO ?_;refine aB ?_;refine cO ?_;refine Kc9 ?_
 refine aU (λ c10=>?_) (λ c10=>?_)
 ·refine dW ?_
  refine bE Tryz.results295 (λ w hw=>?_)
  exact⟨by rw[Lb (by omega)];rfl,hw.done⟩
 ·refine lS ?_;refine J2 ?_;refine Ka8 ?_
  refine jY [4,5,13,14,15,16,17,18,19,20,21,22,23,24,25] (λ k=>[(13,.int .i64 ((k:Nat):Int))]) (λ k=>k<=xs.length/\xs.take k=ys.take k) (λ k=>xs.length-k) (0) (⟨Nat.zero_le _,by simp⟩) ?_ (λ k f hx=>?_)
  ·repeat (first|exact bQ _|refine bG (by exact rfl) ?_)
  dsimp only[lP,List.map,List.cons_append,List.nil_append]
  refine Ka1 ?_
  refine aU (λ c14=>?_) (λ c14=>?_)
  ·refine Ka6 ?_;refine kZ ?_;refine iM [0,1,2,3,4,5,6,7,8] ?_;refine Hj ?_;refine ke ?_;refine Hj ?_;refine ke ?_;refine tH ?_;refine dC ?_
   refine aU (λ c24=>?_) (λ c24=>?_)
   ·refine dW ?_
    refine bE Tryz.results295 (λ w hw=>?_)
    exact⟨by rw[L7 c24];rfl,hw.done⟩
   ·refine Kc0 ?_
    refine gT (k+1) ?_ ?_ ?_
    ·omega
    ·repeat' (first|exact bQ _|refine bG ?_ ?_)
     exact rfl
    ·exact⟨by omega,Dn hx.2 (by omega) (by omega) c24⟩
  ·refine aX rfl ?_;refine dW ?_
   refine bE Tryz.results295 (λ w hw=>?_)
   exact⟨by rw[Je (k:=k) (by omega) (by omega) hx.2];rfl,hw.done⟩
theorem il{xs ys:List Pr}{a b:Option Addr}{ca cb:Nat}{w:World}(ha:Cl w a (gK xs))(hb:Cl w b (gK ys))(hx:xs.length<4611686018427387904) :
  Calls Tryz.prog 296 #[.slice a xs.length ca,.slice b ys.length cb] w λ e w'=>e=.returned (.bool (decide (xs=ys)))/\St w [] [] w':=by
 refine enter Tryz.func296 Tryz.ntmps296 rfl rfl (SF.s2 ha hb) ?_
 simp only[cP]
 refine Kb1 ?_;refine cO ?_;refine aB ?_;refine cO ?_;refine Kc9 ?_
 refine aU (λ c10=>?_) (λ c10=>?_)
 ·refine dW ?_
  refine bE Tryz.results296 (λ w hw=>?_)
  exact⟨by rw[Kh (by omega)];rfl,hw.done⟩
 ·refine lS ?_;refine J2 ?_;refine Ka8 ?_
  refine jY [4,5,13,14,15,16,17,18,19,20,21,22,23,24,25] (λ k=>[(13,.int .i64 ((k:Nat):Int))]) (λ k=>k<=xs.length/\xs.take k=ys.take k) (λ k=>xs.length-k) (0) (⟨Nat.zero_le _,by simp⟩) ?_ (λ k f hx=>?_)
  ·repeat (first|exact bQ _|refine bG (by exact rfl) ?_)
  dsimp only[lP,List.map,List.cons_append,List.nil_append]
  refine Ka1 ?_
  refine aU (λ c14=>?_) (λ c14=>?_)
  ·refine Ka6 ?_;refine kZ ?_;refine iM [0,1,2,3,4,5,6,7,8] ?_;refine Hj ?_;refine ke ?_;refine Hj ?_;refine ke ?_;refine Xz ?_;refine dC ?_
   refine aU (λ c24=>?_) (λ c24=>?_)
   ·refine dW ?_
    refine bE Tryz.results296 (λ w hw=>?_)
    exact⟨by rw[Ll λ h=>c24 ⟨congrArg Prod.fst h,congrArg Prod.snd h⟩];rfl,hw.done⟩
   ·refine Kc0 ?_
    refine gT (k+1) ?_ ?_ ?_
    ·omega
    ·repeat' (first|exact bQ _|refine bG ?_ ?_)
     exact rfl
    ·exact⟨by omega,Dn hx.2 (by omega) (by omega) (Prod.ext c24.1 c24.2)⟩
  ·refine aX rfl ?_;refine dW ?_
   refine bE Tryz.results296 (λ w hw=>?_)
   exact⟨by rw[H6 (k:=k) (by omega) (by omega) hx.2];rfl,hw.done⟩
end

/- Nodes are compared. -/
section
open Go.RowKit Go.Ct
theorem iy{a b:Nd}{x1 x2:List Int}{y1 y2:List Pr}{w:World}(ha:Fv w a x1 y1)(hb:Fv w b x2 y2) :
  Calls Tryz.prog 266 #[a.v,b.v] w λ e w'=>∃r:Bool,e=.returned (.bool r)/\(r=true↔Ey a b x1 x2 y1 y2)/\St w [] [] w':=by
 have e1:=ha.brN;have e2:=hb.brN;have e3:=ha.prN;have e4:=hb.prN
 refine enter Tryz.func266 Tryz.ntmps266 rfl rfl (SF.s0 w) ?_
 simp only[cP]
 refine J0 ?_;refine bF (λ x2=>?_);refine bF (λ x3=>?_);refine kZ ?_;refine P3 (by dsimp only[List.append]) ?_;refine J3 ?_;refine J3 ?_;refine Kb2 ?_
 (refine lN 10 (λ g10=>?_) (λ g10=>?_)<;>refine Ka4 ?_)
 all_goals (refine P7 ?_;refine Kd6 ?_)
 all_goals (first|refine aT ?_|(refine lN 17 (λ g17=>?_) (λ g17=>?_)<;>refine Ka4 ?_))
 all_goals (refine P7 ?_;refine Kd6 ?_)
 all_goals (first|refine aT ?_|(refine lN 24 (λ g24=>?_) (λ g24=>?_)<;>refine Ka4 ?_))
 all_goals (refine P7 ?_;refine Kd6 ?_)
 all_goals (first|refine aT ?_|(refine lN 31 (λ g31=>?_) (λ g31=>?_)<;>refine Ka4 ?_))
 all_goals (refine P7 ?_;(first|refine aT ?_|(refine aE ?_;refine aF (cV (hc:=λ w1 hw=>by simp only[e1,e2];exact X1 (ha.br.kJ hw.st) (hb.br.kJ hw.st) ha.brS)) (λ x36=>?_)));refine Kb3 ?_)
 all_goals (first|refine aT ?_|(refine lN 38 (λ g38=>?_) (λ g38=>?_)<;>refine Ka4 ?_))
 all_goals (refine P7 ?_;refine Kd6 ?_)
 all_goals (first|refine aT ?_|(refine lN 45 (λ g45=>?_) (λ g45=>?_)<;>refine Ka4 ?_))
 all_goals (refine P7 ?_;(first|refine aT ?_|(refine aE ?_;refine k7 ?_));refine Kb3 ?_)
 all_goals (first|refine aT ?_|(refine lN 52 (λ g52=>?_) (λ g52=>?_)<;>refine Ka4 ?_))
 all_goals (refine P7 ?_;refine Kd6 ?_)
 all_goals (first|refine aT ?_|(refine lN 59 (λ g59=>?_) (λ g59=>?_)<;>refine Ka4 ?_))
 all_goals (refine P7 ?_;(first|refine aT ?_|(refine aE ?_;refine aF (cV (hc:=λ w1 hw=>by simp only[e3,e4];exact il (ha.pr.kJ hw.st) (hb.pr.kJ hw.st) ha.prS)) (λ x64=>?_)));refine Kb3 ?_)
 all_goals (first|refine aT ?_|(refine lN 66 (λ g66=>?_) (λ g66=>?_)<;>refine Ka4 ?_))
 all_goals (refine P7 ?_;refine Kd6 ?_)
 all_goals (first|refine aT ?_|(refine lN 73 (λ g73=>?_) (λ g73=>?_)<;>refine Ka4 ?_))
 all_goals (refine P7 ?_;refine Kd6 ?_)
 all_goals (first|refine aT ?_|(refine lN 80 (λ g80=>?_) (λ g80=>?_)<;>refine Ka4 ?_))
 all_goals (refine P7 ?_;refine Kd6 ?_)
 all_goals (first|refine aT ?_|(refine lN 87 (λ g87=>?_) (λ g87=>?_)<;>refine Ka4 ?_))
 all_goals (refine P7 ?_;refine Kd6 ?_)
 all_goals (first|refine aT ?_|(refine lN 94 (λ g94=>?_) (λ g94=>?_)<;>refine Ka4 ?_))
 all_goals (refine P7 ?_;refine zM ?_;refine J1 ?_)
 all_goals
 refine bE Tryz.results266 (λ w hw=>?_)
 exact⟨_,rfl,by simp_all[Ey],hw.done⟩
theorem Vu(a:Nd)(w:World):Calls Tryz.prog 187 #[a.v] w λ e w'=>∃r:Bool,e=.returned (.bool r)/\(r=true↔(a.kind=3∨a.kind=5∨a.kind=6))/\St w [] [] w':=by
 refine enter Tryz.func187 Tryz.ntmps187 rfl rfl (SF.s0 w) ?_
 simp only[cP]
 refine J0 ?_;refine bF (λ x1=>?_);refine kZ ?_;refine jA ?_;refine Kb9 ?_;refine Kd0 ?_
 refine aU (λ c5=>?_) (λ c5=>?_)
 ·refine bB ?_
  refine aU (λ c5=>?_) (λ c5=>?_)
  ·refine dW ?_
   refine bE Tryz.results187 (λ w hw=>?_)
   exact⟨_,rfl,by simp_all,hw.done⟩
  ·refine oC ?_;refine dW ?_
   refine bE Tryz.results187 (λ w hw=>?_)
   exact⟨_,rfl,by simp_all,hw.done⟩
 ·refine jN ?_
  refine aU (λ c5=>?_) (λ c5=>?_)
  ·refine bB ?_
   refine aU (λ c5=>?_) (λ c5=>?_)
   ·refine dW ?_
    refine bE Tryz.results187 (λ w hw=>?_)
    exact⟨_,rfl,by simp_all,hw.done⟩
   ·refine oC ?_;refine dW ?_
    refine bE Tryz.results187 (λ w hw=>?_)
    exact⟨_,rfl,by simp_all,hw.done⟩
  ·refine dD ?_;refine K1 ?_
   refine aU (λ c5=>?_) (λ c5=>?_)
   ·refine dW ?_
    refine bE Tryz.results187 (λ w hw=>?_)
    exact⟨_,rfl,by simp_all,hw.done⟩
   ·refine oC ?_;refine dW ?_
    refine bE Tryz.results187 (λ w hw=>?_)
    exact⟨_,rfl,by simp_all,hw.done⟩
end

/- Loops over slices that are read: contracts, the second part. -/
section
open Go.RowKit Go.Ct
theorem Kx{xs:List Int}{a:Option Addr}{ca:Nat}{w:World}(ha:Cl w a (aW xs))(hx:xs.length<4611686018427387904) :
  Calls Tryz.prog 268 #[.slice a xs.length ca] w λ e w'=>∃r:Bool,e=.returned (.bool r)/\(r=true↔Pos xs)/\St w [] [] w':=by
 refine enter Tryz.func268 Tryz.ntmps268 rfl rfl (SF.s1 ha) ?_
 simp only[cP]
 refine Kb1 ?_;refine Ka8 ?_
 refine jY [2,4,7,8,9,10,11,12,13] (λ k=>[(7,.int .i64 ((k:Nat):Int))]) (λ k=>k<=xs.length/\∀i,i<k->1<=xs.getD i 0) (λ k=>xs.length-k) (0) (⟨Nat.zero_le _,λ i hi=>absurd hi (Nat.not_lt_zero i)⟩) ?_ (λ k f hx=>?_)
 ·repeat (first|exact bQ _|refine bG (by exact rfl) ?_)
 dsimp only[lP,List.map,List.cons_append,List.nil_append]
 refine Ka1 ?_
 refine aU (λ c8=>?_) (λ c8=>?_)
 ·refine Kd2 ?_;refine nf ?_;refine Kb7 ?_;refine fF ?_
  refine aU (λ c12=>?_) (λ c12=>?_)
  ·refine dW ?_
   refine bE Tryz.results268 (λ w hw=>?_)
   exact⟨_,rfl,by simp only[Bool.false_eq_true,false_iff];intro h;have:=h k (by omega);omega,hw.done⟩
  ·refine Kc0 ?_
   refine gT (k+1) ?_ ?_ ?_
   ·omega
   ·repeat' (first|exact bQ _|refine bG ?_ ?_)
    exact rfl
   ·exact⟨by omega,λ i hi=>by rcases Nat.lt_succ_iff_lt_or_eq.1 hi with h|rfl;exact hx.2 i h;omega⟩
 ·refine aX rfl ?_;refine dW ?_
  refine bE Tryz.results268 (λ w hw=>?_)
  exact⟨_,rfl,by simp only[true_iff];intro i hi;exact hx.2 i (by omega),hw.done⟩
theorem Ia{l:List Pr}{a:Option Addr}{ca:Nat}{w:World}(ha:Cl w a (gK l))(hx:l.length<4611686018427387904) :
  Calls Tryz.prog 269 #[.slice a l.length ca] w λ e w'=>∃r:Bool,e=.returned (.bool r)/\(r=true↔Sk l)/\St w [] [] w':=by
 refine enter Tryz.func269 Tryz.ntmps269 rfl rfl (SF.s1 ha) ?_
 simp only[cP]
 refine Kb1 ?_;refine Ka8 ?_
 refine jY [2,4,7,8,9,10,11,12,13,14,15] (λ k=>[(7,.int .i64 ((k:Nat):Int))]) (λ k=>k<=l.length/\∀i,i<k->(l.getD i (⟨#[]⟩,0)).1.size<=64) (λ k=>l.length-k) (0) (⟨Nat.zero_le _,λ i hi=>absurd hi (Nat.not_lt_zero i)⟩) ?_ (λ k f hx=>?_)
 ·repeat (first|exact bQ _|refine bG (by exact rfl) ?_)
 dsimp only[lP,List.map,List.cons_append,List.nil_append]
 refine Ka1 ?_
 refine aU (λ c8=>?_) (λ c8=>?_)
 ·refine Kd2 ?_;refine nf ?_;refine aI (λ x4=>?_);refine J5 ?_;refine jA ?_;refine oG ?_;refine wD ?_;refine aD ?_
  refine aU (λ c14=>?_) (λ c14=>?_)
  ·refine dW ?_
   refine bE Tryz.results269 (λ w hw=>?_)
   exact⟨_,rfl,by simp only[Bool.false_eq_true,false_iff];intro h;have:=h k (by omega);omega,hw.done⟩
  ·refine Kc0 ?_
   refine gT (k+1) ?_ ?_ ?_
   ·omega
   ·repeat' (first|exact bQ _|refine bG ?_ ?_)
    exact rfl
   ·exact⟨by omega,λ i hi=>by rcases Nat.lt_succ_iff_lt_or_eq.1 hi with h|rfl;exact hx.2 i h;omega⟩
 ·refine aX rfl ?_;refine dW ?_
  refine bE Tryz.results269 (λ w hw=>?_)
  exact⟨_,rfl,by simp only[true_iff];intro i hi;exact hx.2 i (by omega),hw.done⟩
theorem Eh{l:List Pr}{a:Option Addr}{ca:Nat}{w:World}(ha:Cl w a (gK l))(hx:l.length<4611686018427387904) :
  Calls Tryz.prog 184 #[.slice a l.length ca] w λ e w'=>∃r:Bool,e=.returned (.bool r)/\(r=true↔kn l)/\St w [] [] w':=by
 refine enter Tryz.func184 Tryz.ntmps184 rfl rfl (SF.s1 ha) ?_
 simp only[cP]
 refine Lf ?_;refine W0 ?_
 refine jY [2,3,4,5,6,7,8,9,10,11,12,13,14,15,16,17,18,19,20,21] (λ k=>[(3,.int .i64 ((k:Nat):Int))]) (λ k=>1<=k/\k<=l.length+1/\∀i,1<=i->i<k->eK (l.getD (i-1) (⟨#[]⟩,0)).1 (l.getD i (⟨#[]⟩,0)).1=true) (λ k=>l.length-k) (1) (⟨Nat.le_refl _,by omega,λ i h1 hi=>by omega⟩) ?_ (λ k f hx=>?_)
 ·repeat (first|exact bQ _|refine bG (by exact rfl) ?_)
 dsimp only[lP,List.map,List.cons_append,List.nil_append]
 refine pF ?_;refine cO ?_;refine fF ?_
 refine aU (λ c7=>?_) (λ c7=>?_)
 ·refine hU ?_;refine aJ ?_;refine iM [0,1,2,3,4,5,6,7,8,9,10,11] ?_;refine Hj ?_;refine an ?_;refine pY ?_;refine gY ?_;refine Hj ?_;refine pY ?_;refine gY ?_;refine Ux ?_;refine dC ?_
  refine aU (λ c21=>?_) (λ c21=>?_)
  ·refine dW ?_
   refine bE Tryz.results184 (λ w hw=>?_)
   exact⟨_,rfl,by simp only[Bool.false_eq_true,false_iff];intro h;have:=h k (by omega) (by omega);rw[c21] at this;exact Bool.noConfusion this,hw.done⟩
  ·refine oC ?_;refine ik ?_
   refine gT (k+1) ?_ ?_ ?_
   ·omega
   ·repeat' (first|exact bQ _|refine bG ?_ ?_)
    exact rfl
   ·exact⟨by omega,by omega,λ i h1 hi=>by rcases Nat.lt_succ_iff_lt_or_eq.1 hi with h|rfl;exact hx.2.2 i h1 h;exact c21⟩
 ·refine aX rfl ?_;refine dW ?_
  refine bE Tryz.results184 (λ w hw=>?_)
  exact⟨_,rfl,by simp only[true_iff];intro i h1 hi;exact hx.2.2 i h1 (by omega),hw.done⟩
end

end Go.Proofs.YtnilhhnfjfdokaaGreatDoor
