/- Merged. -/
import Derived.Test.YtdeecdfockjoiaaGreatDoorGLst2
import Derived.Test.YtdeecdfockjoiaaGreatDoorGSp1
set_option linter.unusedSimpArgs false
set_option linter.unusedVariables false
namespace Go.Ct
open Go Go.RowKit
section
variable{α:Type}{f:α->List Value}{sz:Nat}
def eV(f:α->List Value)(l:List α):List Value:=l.flatMap f
variable{k j:Nat}
theorem mF(hf:∀a,(f a).length=sz):∀l:List α,(eV f l).length=l.length*sz
 | []=>by simp[eV]
 | a::r=>by have:=mF hf r;simp only[eV,List.flatMap_cons,List.length_append,List.length_cons,Nat.succ_mul,hf] at this ⊢;omega
theorem jk(l r:List α):eV f (l++r)=eV f l++eV f r:=by simp[eV]
theorem A2(hf:∀a,(f a).length=sz){l:List α}{a:α}(hk:l[k]?=some a):∃u v,eV f l=u++(f a++v)/\u.length=sz*k/\∀a',eV f (l.set k a')=u++(f a'++v):=by
 obtain⟨h,rfl⟩:=List.getElem?_eq_some_iff.1 hk;refine⟨eV f (l.take k),eV f (l.drop (k+1)),?_,?_,λ a'=>?_⟩
 ·have e:l=l.take k++l[k]::l.drop (k+1):=by rw[<- List.drop_eq_getElem_cons h,List.take_append_drop]
  unfold eV;conv=>lhs;rw[e]
  rw[List.flatMap_append,List.flatMap_cons]
 ·rw[mF hf,List.length_take,Nat.min_eq_left (by omega),Nat.mul_comm]
 ·rw[List.set_eq_take_append_cons_drop,if_pos h];simp[eV]
theorem ub(hf:∀a,(f a).length=sz){l:List α}{a:α}(hk:l[k]?=some a)(hj:j<sz):(eV f l)[sz*k+j]?=(f a)[j]?:=by obtain⟨u,v,e,hu,_⟩:=A2 hf hk;rw[e,List.getElem?_append_right (by omega),hu,List.getElem?_append_left (by rw[hf];omega)];congr 1;omega
theorem Kr(hf:∀a,(f a).length=sz){l:List α}{n:Nat}{a:α}(hk:l[k]?=some a)(hj:j+n<=sz):((eV f l).drop (sz*k+j)).take n=((f a).drop j).take n:=by obtain⟨u,v,e,hu,_⟩:=A2 hf hk;have hl:=hf a;rw[e,<- hu,<- List.drop_drop,List.drop_left,List.drop_append_of_le_length (by omega),List.take_append_of_le_length (by simp;omega)]
theorem lm(hf:∀a,(f a).length=sz){l:List α}{a a':α}{v:Value}(hk:l[k]?=some a)(hj:j<sz)(he:(f a).set j v=f a'):(eV f l).set (sz*k+j) v=eV f (l.set k a'):=by obtain⟨u,r,e,hu,hs⟩:=A2 hf hk;have hl:=hf a;rw[e,hs,<- he,List.set_append_right _ _ (by omega),List.set_append_left _ _ (by omega),hu];congr 3;omega
theorem jc(hf:∀a,(f a).length=sz){l:List α}{a a':α}(hk:l[k]?=some a):(eV f l).take (sz*k)++f a'++(eV f l).drop (sz*k+(f a').length)=eV f (l.set k a'):=by obtain⟨u,r,e,hu,hs⟩:=A2 hf hk;have hl:=hf a;rw[e,hs,hf a',<- hu,List.take_left,<- hl,show u.length+(f a).length=(u++f a).length by simp,<- List.append_assoc u (f a) r,List.drop_left,List.append_assoc]
end
section
variable{α:Type}{f:α->List Value}{sz:Nat}{l:List α}{v0 v1:α}
variable{w0 w w':World}{M:List Nat}{H:List (Nat×Obj)}{A F:Fr}{O:List Ow}
variable{P:Program}{S:List (Nat×Value)}{G:World->Prop}{d:Nat}{ty:TypeId}{pos:String}{af:Array Edge}{gd:Option (Nat×Bool)}{x y:Operand}{t t2 e:TypeId}{p a:Option Addr}{i j m k c c2:Nat}{v:Value}
theorem bP(hf:∀a,(f a).length=sz)(h0:0<sz){kk:IntKind}(hx:ev S x=.slice a m c)(hy:ev S y=.int kk ((k:Nat):Int))(ht:P.underlying t=some (.slice e))(hs:jB P e sz=true)(hl:qC A F O a (eV f l))(h1:k<m)(h2:k<l.length) :
  aN P S (SF w0 M H A F O) ⟨some d,.indexAddr t x y,ty,pos,af,gd⟩ (.pointer (some ⟨dJ a,eQ a+sz*k,none⟩)):=⟨λ w hw=>by
 obtain⟨_,_,_,hsz⟩:=iH hs;have ha:a=some ⟨dJ a,eQ a,none⟩:=(hw.cl hl).ptr (by rw[mF hf];exact Nat.mul_pos (by omega) h0);have:=xH (P:=P) (a:=a) (m:=m) (c:=c) (k:=kk) ht hsz ha (i:=(k:Int)) (by omega) (by omega) w;simp only[Int.toNat_natCast,Nat.mul_comm k sz] at this
 simp[execOp,hx,hy,this]⟩
theorem eA(hf:∀a,(f a).length=sz)(hx:ev S x=.pointer (some ⟨dJ a,eQ a+sz*k+j,none⟩))(ht:one P t=true)(hl:qC A F O a (eV f l))(hk:l[k]?=some v0)(hj:(f v0)[j]?=some v) :
  aN P S (SF w0 M H A F O) ⟨some d,.load t x,ty,pos,af,gd⟩ v :=
 cG (q:=sz*k+j) (by rw[hx,Nat.add_assoc]) ht hl (by rw[ub hf hk (by have:=(List.getElem?_eq_some_iff.1 hj).1;rw[hf] at this;exact this)];exact hj)
theorem H9(hf:∀a,(f a).length=sz)(hx:ev S x=.pointer (some ⟨dJ a,eQ a+sz*k,none⟩))(ht:one P t=true)(hl:qC A F O a (eV f l))(hk:l[k]?=some v0)(hj:(f v0)[0]?=some v) :
  aN P S (SF w0 M H A F O) ⟨some d,.load t x,ty,pos,af,gd⟩ v:=eA (j:=0) hf (by rw[hx];rfl) ht hl hk hj
theorem cZ(hf:∀a,(f a).length=sz)(hx:ev S x=.pointer (some ⟨dJ a,eQ a+sz*k,none⟩))(ht:jB P t sz=true)(hl:qC A F O a (eV f l))(hk:l[k]?=some v0) :
  aN P S (SF w0 M H A F O) ⟨some d,.load t x,ty,pos,af,gd⟩ (.agg ⟨f v0⟩) :=
 G7 (q:=sz*k) (k:=sz) hx ht hl (by have:=Kr hf (n:=sz) (j:=0) hk (by omega);rw[Nat.add_zero] at this;rw[this,List.drop_zero];exact List.take_of_length_le (by rw[hf];exact Nat.le_refl _)) (hf _)
theorem lj{n:Nat}{vs:List Value}(hf:∀a,(f a).length=sz)(hx:ev S x=.pointer (some ⟨dJ a,eQ a+sz*k+j,none⟩))(ht:jB P t n=true)(hl:qC A F O a (eV f l))(hk:l[k]?=some v0)(hj:j+n<=sz)(hv:((f v0).drop j).take n=vs) :
  aN P S (SF w0 M H A F O) ⟨some d,.load t x,ty,pos,af,gd⟩ (.agg ⟨vs⟩) :=
 G7 (q:=sz*k+j) (k:=n) (by rw[hx,Nat.add_assoc]) ht hl ((Kr hf hk hj).trans hv) (by rw[<- hv,List.length_take,List.length_drop,hf];omega)
theorem C0(hf:∀a,(f a).length=sz)(hx:ev S x=.pointer (some ⟨dJ p,eQ p+sz*k+j,none⟩))(hy:ev S y=v)(hv:v.oneCell'=true)(ht:one P t=true)(ho:rM O i p (eV f l) c e sz)(hk:l[k]?=some v0)(hj:j<sz)(he:(f v0).set j v=f v1) :
  aW P S (SF w0 M H A F O) ⟨none,.store t x y,ty,pos,af,gd⟩ Unit (λ _=>undef) (λ _=>SF w0 M H A F (gU O i ⟨p,eV f (l.set k v1),c,e,sz⟩)):=by
 rw[<- lm hf hk hj he]
 exact kZ (q:=sz*k+j) (by rw[hx,Nat.add_assoc]) hy hv ht ho (by
  have h:=(List.getElem?_eq_some_iff.1 hk).1;rw[mF hf];have:(k+1)*sz<=l.length*sz:=Nat.mul_le_mul_right _ h;rw[Nat.succ_mul,Nat.mul_comm] at this
  omega)
theorem wR(hf:∀a,(f a).length=sz)(hx:ev S x=.pointer (some ⟨dJ p,eQ p+sz*k,none⟩))(hy:ev S y=.agg ⟨f v1⟩)(h1:(f v1).all (·.oneCell')=true)(ht:jB P t sz=true)(ho:rM O i p (eV f l) c e sz)(hk:l[k]?=some v0)(h0:0<sz) :
  aW P S (SF w0 M H A F O) ⟨none,.store t x y,ty,pos,af,gd⟩ Unit (λ _=>undef) (λ _=>SF w0 M H A F (gU O i ⟨p,eV f (l.set k v1),c,e,sz⟩)):=by
 rw[<- jc hf hk]
 exact sM (q:=sz*k) hx hy h1 (by rw[hf];exact ht) ho (by
  have h:=(List.getElem?_eq_some_iff.1 hk).1;rw[mF hf,hf];have:(k+1)*sz<=l.length*sz:=Nat.mul_le_mul_right _ h;rw[Nat.succ_mul,Nat.mul_comm] at this
  omega) (by rw[hf];exact h0)
theorem tS{zc:List Value}(hf:∀a,(f a).length=sz)(h0:0<sz)(h1:(f v1).all (·.oneCell')=true)(hx:ev S x=.slice p m c)(hy:ev S y=.slice a 1 c2)(ho:rM O i p (eV f l) c e sz)(hm:l.length=m)(hl:qC A F O a (f v1))(he:dU P t e zc)(hz:zc.length=sz)(ht2:P.underlying t2=some (.slice e))(hb:m+1<=549755813888) :
  aW P S (SF w0 M H A F O) ⟨some d,.call {callee:=.builtin .append,args := #[x,y],argTypes := #[t,t2]},ty,pos,af,gd⟩ (Option Addr×Nat) (λ q=>.slice q.1 (m+1) q.2)
   (λ q w=>m+1<=q.2/\SF w0 M H A F (gU O i ⟨q.1,eV f (l++[v1]),q.2,e,sz⟩) w):=by rw[jk,show eV f [v1]=f v1 by simp[eV]];exact dG hx hy ho (by rw[mF hf,hm]) hl (by rw[hf,Nat.one_mul]) h1 he hz h0 ht2 hb
end
end Go.Ct
